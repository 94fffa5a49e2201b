/- A part of the proof of BookTurned of layer 18: what the functions compute, in plain words. -/
import Derived.Test.YthkjjlcblhbifaaGreatPlain6
import Derived.Test.YthkjjlcblhbifaaGreatPlain4
import Derived.Test.YthkjjlcblhbifaaGreatPlain3
set_option linter.all false
section
namespace VM
open Go VM.F
variable(N:Nat)
theorem Xj(hN:5000000≤N){t:Int}{w:List Int}(ht:t<9223372036854775808)(hw:KV w)(hl:w.length≤1000000):Ok (λr=>r.2.2=0→r.1.length=w.length∧KV r.1) (fu N t w w):=by
 refine nK (Ij N hN ht hw hw hl) λh0=> ?_
 have f:=Ik ht hw h0
 have c:=f.c
 have hl2:=c.l2
 refine⟨hl2,λx hx=> ?_⟩
 obtain⟨i,hi,e⟩:=gL hx
 have h1:=c.le i ω
 have h2:=(c.pc i).2
 have h3:=c.po i
 rw[aW (l:=(tU t w w).1),bm hi,n7,e]at h1 h3
 exact⟨ω,ω⟩
theorem adT(hN:5000000≤N)(c:ae){b:an}{m:Nat}(hm:m≤40000)(hb:G m aK b){a:Int}(ha:aF a):Ok (λr=>L3 (m+1) r.1) (gr N c b a):=by
 have w:=(G.wf ω hb).w
 have hl:=hb.2.2.2.1.1
 unfold gr gr.b
 refine bV (eo N hN ω hb) (bI (λ_=>aq G.nil) λ_=>ax (λ_=>aq G.nil) λ_=>eR (λ_=>aq G.nil) λ_=>bV (FY N w.s ω 0 a) (ok_eq (λ_=>aq G.nil) λ_=> ?_))
 have hq:=ZU w.qs 0 a
 generalize gm b.2.2.2.1 0 a=q at*
 refine bt (len:=b.2.2.2.1.length) (F:=λn i (s:List Int×List Int)=>gr.An N n a b q s.1 s.2 i) (s:=(_,_)) (λi s=>s.1.length≤i∧s.2.length=s.1.length∧KV s.1∧KV s.2) ⟨bs _,rfl,(λx hx=>nomatch hx),λx hx=>nomatch hx⟩ ω (λn i s hi hI hr=> ?_) (λn s hI=> ?_)
 all_goals unfold gr.An gr.yg
 ·obtain⟨h1,h2,h3,h4⟩:=hI
  have hx:G 0 kd (b.2.2.2.1.getD (i:Int).toNat aZ):=G.at hb.2.2.2.1 _
  rw[aw (x:=(i:Int)+1) ω ω,af i]
  have h0:=hr s ⟨ω,h2,h3,h4⟩
  have sn: ∀{l:List Int} {x:Int},KV l→aF x→KV (l++[x]):=λhl hx y hy=>(bn.1 hy).elim (hl y) λhy=>by rw[cy.1 hy];exact hx
  dsimp only
  exact ax (λ_=>aB ⟨ω,ω⟩ (bM (λ_=>ok_eq (λ_=>qc (λ_=>aC (by rw[List.length_singleton];omega) (aC (by rw[List.length_singleton];omega) (hr (_,_) ⟨by dsimp only;rw[List.length_append,List.length_singleton];omega,by dsimp only;rw[List.length_append,List.length_append,List.length_singleton,List.length_singleton];omega,sn h3 hx.1,sn h4 (BY hx.2.2.1 (gJ _))⟩))) λ_=>h0) λ_=>h0) λ_=>h0)) λ_=>ω
 ·obtain⟨h1,h2,h3,h4⟩:=hI
  refine ax (λ_=>ω) λ_=>ah (Xj N hN (BY hq (gJ _)).2 h4 ω) λz hz=>bM (λ_=>aq G.nil) λh0=> ?_
  obtain⟨e1,e2⟩:=hz h0
  refine bt (len:=z.1.length) (F:=λn i u=>gr.Xk N n a q s.1 z.1 u i) (λi u=>L3 (1+i) u) (G.one (m:=1) (G3 cc ha (gJ _)) (aH 1)) ω (λn i u hi hu hr=> ?_) (λn u hu=> ?_)
  all_goals unfold gr.Xk gr.aaB
  ·have Js:=hu.1
   rw[aw (x:=(i:Int)+1) ω ω,af i]
   have h0:=hr u (G.mono ω hu)
   have put: ∀x:Int,aF x→Ok (λr=>L3 (m+1) r.1) (cond (small (u.length+[((s.1.getD (i:Int).toNat 0,(a,(x,()))):dg)].length)) (gr.Xk N n a q s.1 z.1 (u++[(s.1.getD (i:Int).toNat 0,(a,(x,())))]) ((i+1:Nat):Int)) none):=λx hx=>aC (by rw[aJ];omega) (hr _ (G.mono ω (G.cat hu (G.one (m:=1) (G3 (uV h3 _) ha hx) (aH 1)))))
   dsimp only
   exact ax (λ_=>aB ⟨ω,ω⟩ (ax (λ_=>bM (λ_=>aB ⟨ω,ω⟩ (put _ (gJ _))) λ_=>h0) λ_=>bM (λ_=>aB ⟨ω,ω⟩ (put _ (uV e2 _))) λ_=>h0)) λ_=>ω
  ·exact ax (λ_=>ω) λ_=>aq (G.mono ω hu)
theorem Vd(hN:5000000≤N){c:ae}{b:an}{m:Nat}(h2:200≤m)(hm:m≤7000)(hc:G 5 aA c)(hb:G m aK b):Ok (λr=>G m aK r.1) (oN N c b):=by
 have FG:=hc.1.1
 unfold oN oN.b
 refine bV (eo N hN ω hb) (bI (λ_=>aq G.jH) λ_=>bt (len:=c.1.length) (F:=λn i s=>oN.l5 N n c b (cn,(cW,(bo,(bo,(di,(du,())))))) s i) (λi s=>L3 ((m+1)*i) s) G.nil ω (λn i s hi hI hr=> ?_) (λn s hI=> ?_))
 all_goals unfold oN.l5 oN.dV
 ·have hs:=hI.1
  have hmi:(m+1)*i≤(m+1)*5:=mW _ ω
  rw[aw (x:=(i:Int)+1) ω ω,af i]
  exact ax (λ_=>ah (adT N hN c ω hb (jE ω ω)) λr hrr=>bM (λ_=>aq G.jH) λ_=>aC (by have:=hrr.1;omega) (hr _ (G.mono (by rw[rX];omega) (G.cat hI hrr)))) λ_=>ω
 ·have hmi:(m+1)*c.1.length≤(m+1)*5:=mW _ ω
  exact ax (λ_=>ω) λ_=>ah (tW N ω h2 ω hb (G.mono ω hI) kR.nil) λr hr=>aq hr
theorem Ve(hN:200000≤N){l:aN}{m:Nat}(hm:m≤50000)(h:G m (.slice ff) l)(a:Int):Ok (λr=>G 0 ff r.1) (sV N l a):=by
 have hl:=h.1
 have hz:G 0 ff bb:=G.zero 0 ff
 unfold sV sV.b
 refine bV (u7 N ω hN) (bI (λ_=>aq hz) λ_=>bt (len:=l.length) (F:=λn i (z:cO×Bool)=>sV.l6 N n l a bb z.1 z.2 i) (s:=(_,_)) (λ_ z=>G 0 ff z.1) hz ω (λn i z hi hI hr=> ?_) (λn z hI=> ?_))
 all_goals unfold sV.l6 sV.uU
 ·rw[aw (x:=(i:Int)+1) ω ω,af i]
  have hx:G 0 ff (l.getD (i:Int).toNat bb):=G.at h _
  have h1:=hr z hI
  have h2:=hr (_,true) hx
  repeat' first|exact h1|exact h2|refine aB ⟨ω,ω⟩ ?_|refine ax (λ_=> ?_) (λ_=> ?_)|refine ok_eq (λ_=> ?_) (λ_=> ?_)|refine bI (λ_=> ?_) (λ_=> ?_)|(exfalso;omega)
 ·exact ax (λ_=>ω) λ_=>aq hI
theorem GL{m:Nat}{a b d e f:Int}{l:aE}(ha:aF a)(hl:L2 m l)(hb:aF b)(hd:aF d)(he:aF e)(hf:aF f):G m jT (a,(l,(b,(d,(e,(f,())))))):=⟨ha,hl,hb,hd,he,hf,trivial⟩
theorem LL.app{m:Nat}{k:Nat}{l:bL}{x:je}(hl:l.length≤k∧ ∀y∈l,G m jT y)(hx:G m jT x):(l++[x]).length≤k+1∧ ∀y∈l++[x],G m jT y:=
 ⟨by rw[aS,aJ];have:=hl.1;omega,λy hy=>(bn.1 hy).elim (hl.2 y) λhy=>by rw[cy.1 hy];exact hx⟩
theorem Qj(hN:5000000≤N)(c:ae){b:an}{L:bL}{l:aN}{m:Nat}(h2:200≤m)(hm:m≤2000)(hb:G m aK b)(hL:LL m L)(hl:G m (.slice ff) l):Ok (λr=>G m aK r.1∧LL m r.2.1) (gA N c b L l):=by
 have et: ∀e:Int,Ok (λr:an×bL×Int=>G m aK r.1∧LL m r.2.1) (some ((cn,(cW,(bo,(bo,(di,(du,())))))),([],e))):=λe=>aq ⟨G.jH,G.nil⟩
 have h3:=hL.1
 have h4:=hl.1
 have hw:KP L:=λy hy=>ck (hL.2 y hy).2.1.1 ω
 unfold gA gA.b
 refine bV (eo N hN ω hb) (bI (λ_=>et _) λ_=>bV (B8 N ω c ω hw) (bI (λ_=>et _) λhk=>bV (u7 N ω ω) (bI (λ_=>et _) λ_=> ?_)))
 have h12:L.length≤12:=by
  unfold Dh at hk
  exact bD (df.1 (df.1 hk).2).1
 refine bt (len:=L.length) (F:=λn i (z:au×bO×bL)=>gA.l7 N n L l b (cn,(cW,(bo,(bo,(di,(du,())))))) z.1 z.2.1 z.2.2 i) (s:=(_,(_,_))) (λi z=>L3 (2*m*i) z.1∧kR (2*i) z.2.1∧z.2.2.length≤i∧ ∀y∈z.2.2,G m jT y) ⟨G.nil,kR.nil,bs _,λy hy=>nomatch hy⟩ ω (λn i z hi hI hr=> ?_) (λn z hI=> ?_)
 all_goals unfold gA.l7 gA.nR
 ·obtain⟨h5,h6,h7⟩:=hI
  have h8:=h6.1
  have h9:=h7.1
  have hmi:2*m*i≤2*m*12:=mW _ ω
  have hms:2*m*(i+1)=2*m*i+2*m:=rX _ _
  have hx:G m jT (L.getD (i:Int).toNat ((0:Int),(cn,bb))):=G.at hL _
  have hxl:=hx.2.1.1
  rw[aw (x:=(i:Int)+1) ω ω,af i]
  dsimp only
  rw[cD]
  have put: ∀x:je,G m jT x→Ok (λr=>G m aK r.1∧LL m r.2.1) (cond (small (z.2.2.length+[x].length)) (gA.l7 N n L l b (cn,(cW,(bo,(bo,(di,(du,())))))) z.1 z.2.1 (z.2.2++[x]) ((i+1:Nat):Int)) none):=λx hx=>aC (by rw[aJ];omega) (hr (z.1,(z.2.1,z.2.2++[x])) ⟨G.mono ω h5,kR.mono h6 ω,LL.app h7 hx⟩)
  refine ax (λ_=>aB ⟨ω,ω⟩ (aC (by rw[bZ];omega) (bM (λ_=>put _ hx) λ_=>ah (Ve N ω ω hl _) λw hw=>bI (λ_=>put _ (GL hx.1 hx.2.1 hx.2.2.1 (show aF 3 from bz) hx.2.2.2.2.1 hx.2.2.2.2.2.1)) λ_=>ah (Cn N ω ω hb.2.1 _) λh hh=>ok_eq (λ_=>et _) λ_=>ah (rM N ω ω hb _) λ_ _=>ok_eq (λ_=>et _) λ_=> ?_))) λ_=>ω
  have o4:=GL hx.1 hx.2.1 hx.2.2.1 (show aF 2 from bz) hw.2.2.1 hw.2.2.2.1
  generalize hX:(((L.getD (i:Int).toNat ((0:Int),(cn,bb))).1,((L.getD (i:Int).toNat ((0:Int),(cn,bb))).2.1,((L.getD (i:Int).toNat ((0:Int),(cn,bb))).2.2.1,((2:Int),(w.1.2.2.1,(w.1.2.2.2.1,())))))):je)=X at o4
  have hXl:X.2.1.length≤m:=o4.2.1.1
  refine bt (len:=X.2.1.length) (F:=λn' j u=>gA.yd N (gA.l7 N n) n' L l b (cn,(cW,(bo,(bo,(di,(du,())))))) u z.2.1 z.2.2 (i:Int) X w.1 h j) (s:=z.1) (λj u=>L3 (2*m*i+2*j) u) h5 ω (λn' j u hj hu ed=> ?_) (λn' u hu=> ?_)
  all_goals unfold gA.yd gA.wY
  ·have Js:=hu.1
   have hy:G m kM (X.2.1.getD (j:Int).toNat c7):=G.at o4.2.1 _
   dsimp only
   rw[aw (x:=(j:Int)+1) ω ω,af j]
   exact ax (λ_=>aB ⟨ω,ω⟩ (aB ⟨ω,ω⟩ (aB ⟨ω,ω⟩ (aB ⟨ω,ω⟩ (aC (by rw[ze];omega) (ed _ (G.mono ω (G.cat hu (G.two (m:=2) (G3 cc hy.1 (gJ _)) (G3 hh hy.1 hy.2.1) (aH 2)))))))))) λ_=>ω
  ·refine ax (λ_=>ω) λ_=>ah (bH N ω hw.2.2.2.1) λv hv=>ah (tX N ω _ _ _ _ (Bg.mono hv ω)) λp hp=>aC (by have:=hp.1;omega) (aC (by rw[aJ];omega) ?_)
   rw[aw (x:=(i:Int)+1) ω ω,af i]
   exact hr (_,(_,_)) ⟨G.mono ω hu,kR.mono (kR.app h6 hp) ω,LL.app h7 o4⟩
 ·obtain⟨h5,h6,h7⟩:=hI
  have hmi:2*m*L.length≤2*m*12:=mW _ ω
  exact ax (λ_=>ω) λ_=>ah (tW N ω h2 ω hb (G.mono ω h5) (kR.mono h6 ω)) λr hr=>bM (λ_=>et _) λ_=>aq ⟨hr,ck h7.1 ω,h7.2⟩
theorem Qk{l:aN}(h:gO l=true):l.length≤24:=by
 unfold gO at h
 rw[fc]at h
 have h:=bD h
 have key: ∀i,i<l.length→(i:Int)+1≤(l.getD i bb).1:=by
  intro i
  induction i with
  |zero=>intro hi;exact(h 0 hi).1.1.1
  |succ i ih=>
   intro hi
   have h1:=ih ω
   have h2:(l.getD i bb).1<(l.getD (i+1) bb).1:=(h (i+1) hi).2.1 ω
   have g: ∀a b:Int,(i:Int)+1≤a→a<b→((i+1:Nat):Int)+1≤b:=λa b h1 h2=>ω
   exact g _ _ h1 h2
 by_cases hl:l.length≤24
 ·exact hl
 ·have h1:=key 24 ω
  have h2:=(h 24 ω).1.1.2
  have g: ∀a:Int,((24:Nat):Int)+1≤a→a≤24→False:=λa h1 h2=>ω
  exact(g _ h1 h2).elim
theorem Ll(hN:5000000≤N){c:ae}{b:an}{m:Nat}(hm:m≤40000)(hc:G m aA c)(hb:G m aK b)(a:Int):Ok (λr=>aF r.1) (adV N c b a):=by
 unfold adV aax
 exact bV (eo N hN ω hb) (bI (λ_=>aq cc) λ_=>ah (zd N ω ω hb.2.1 _) λ_ _=>bI (λ_=>aq cc) λ_=>ah (P6 N ω ω hb.2.2.2.1 _) λl hl=>ah (Q:=λr=>Bg 60000 r.1) (ah (Dx N ω ω hc hl _) λr hr=>aq hr) λu hu=>ah (vf N ω ω hb _) λg hg=>eR (λ_=>aq cc) λ_=>ah (yr N hu) λv hv=>qc (λ_=>ax (λ_=>aq hv) λ_=>aq hg) λ_=>aq hg)
theorem aaC(hN:200000≤N){l:au}{a d:Int}{m:Nat}(hm:m≤50000)(h:L3 m l)(ha:aF a)(hd:aF d):Ok (λr=>L3 (2*m) r) (nU N l a d):=by
 have hl:=h.1
 unfold nU nU.b
 refine bV (lS N ω hN) (bI (λ_=>aq G.nil) λ_=>ok_eq (λ_=>aq G.nil) λ_=>ax (λ_=>aq G.nil) λ_=>ax (λ_=>aq G.nil) λ_=>ax (λ_=>aq G.nil) λ_=>ax (λ_=>aq G.nil) λ_=>bt (len:=l.length) (F:=λn i s=>nU.l5 N n l a d s i) (λi s=>L3 (2*i) s) G.nil ω (λn i s hi hI hr=> ?_) (λn s hI=> ?_))
 all_goals unfold nU.l5 nU.dV
 ·have hs:=hI.1
  have hx:=G.at h (i:Int).toNat
  dsimp only
  rw[aw (x:=(i:Int)+1) ω ω,af i]
  have h1:=hr s (G.mono ω hI)
  exact ax (λ_=>aB ⟨ω,ω⟩ (ok_eq (λ_=>aB ⟨ω,ω⟩ (aB ⟨ω,ω⟩ (aB ⟨ω,ω⟩ (aB ⟨ω,ω⟩ (aC (by rw[ze];omega) (hr _ (G.mono ω (G.cat hI (G.two (m:=2) (G3 ha hx.2.1 (gJ _)) (G3 hd hx.2.1 hx.2.2.1) (aH 2)))))))))) λ_=>h1)) λ_=>ω
 ·exact ax (λ_=>ω) λ_=>aq (G.mono ω hI)
theorem adW(hN:5000000≤N){c:ae}{b:an}{m:Nat}(h2:200≤m)(hm:m≤1000)(hc:G m aA c)(hb:G m aK b)(a:Int):Ok (λr=>G m aK r.1) (hZ N c b a):=by
 unfold hZ hZ.b
 refine bV (eo N hN ω hb) (bI (λ_=>aq G.jH) λhB=>ah (rM N ω ω hb _) λ_ _=>ok_eq (λ_=>aq G.jH) λ_=> ?_)
 have hal:b.2.1.length≤24:=by
  unfold dh at hB
  have h1:=(df.1 (df.1 hB).2).1
  unfold sB at h1
  exact Qk (df.1 (df.1 h1).2).1
 refine bt (len:=b.2.1.length) (F:=λn i (z:au×bO)=>hZ.l8 N n a c b (cn,(cW,(bo,(bo,(di,(du,())))))) z.1 z.2 i) (s:=(_,_)) (λi z=>L3 (2*m*i) z.1∧kR (4*i) z.2) ⟨G.nil,kR.nil⟩ ω (λn i z hi hI hr=> ?_) (λn z hI=> ?_)
 all_goals unfold hZ.l8 hZ.Ej
 ·obtain⟨h5,h6⟩:=hI
  have h7:=h5.1
  have h8:=h6.1
  have hmi:2*m*i≤2*m*24:=mW _ ω
  have hms:2*m*(i+1)=2*m*i+2*m:=rX _ _
  have hx:G m ff (b.2.1.getD (i:Int).toNat bb):=G.at hb.2.1 _
  have hj: ∀p:bO,kR (4*i+2) p→Ok (λr=>G m aK r.1) (hZ.Dt N (hZ.l8 N n) a c b (cn,(cW,(bo,(bo,(di,(du,())))))) z.1 p (i:Int) (b.2.1.getD (i:Int).toNat bb)):=λp hp=>by
   have zC:=hp.1
   unfold hZ.Dt hZ.w3
   rw[aw (x:=(i:Int)+1) ω ω,af i]
   exact ah (vf N ω ω hb _) λg hg=>ax (λ_=>ah (bH N ω hg) λv hv=>ah (rL N ω ω hv) λv hv=>ah (tX N ω _ _ _ _ (Bg.mono hv ω)) λu hu=>aC (by have:=hu.1;omega) (ah (aaC N ω ω hb.2.2.2.1 hx.1 cc) λs hs=>aC (by have:=hs.1;omega) (hr (_,_) ⟨G.mono ω (G.cat h5 hs),kR.mono (kR.app hp hu) ω⟩))) λ_=>ah (aaC N ω ω hb.2.2.2.1 hx.1 cc) λs hs=>aC (by have:=hs.1;omega) (hr (_,_) ⟨G.mono ω (G.cat h5 hs),kR.mono hp ω⟩)
  rw[aw (x:=(i:Int)+1) ω ω,af i]
  exact ax (λ_=>aB ⟨ω,ω⟩ (bM (λ_=>hr z ⟨G.mono ω h5,kR.mono h6 ω⟩) λ_=>ok_eq (λ_=>ah (Ll N hN ω hc hb _) λq hq=>ah (bH N ω hq) λv hv=>ah (tX N ω _ _ _ _ (Bg.mono hv ω)) λu hu=>aC (by have:=hu.1;omega) (hj _ (kR.mono (kR.app h6 hu) ω))) λ_=>hj _ (kR.mono h6 ω))) λ_=>ω
 ·obtain⟨h5,h6⟩:=hI
  have hmi:2*m*b.2.1.length≤2*m*24:=mW _ ω
  exact ax (λ_=>ω) λ_=>ah (tW N ω h2 ω hb (G.mono ω h5) (kR.mono h6 ω)) λr hr=>aq hr
abbrev GS(m:Nat)(s:aR):Prop:=G m dP s
abbrev SR(m:Nat)(r:aR×dg):Prop:=GS m r.1
theorem MZ(e:Int):Ok (λ_=>True) (gj N e):=by
 unfold gj;exact fO
theorem Xl(hN:5000000≤N){c:ae}{s:aR}{e:iE}{m:Nat}(h2:200≤m)(hm:m≤1000)(hc:G m aA c)(hs:GS m s)(he:G 0 mc e):Ok (SR m) (oO N c s e):=by
 have hhl:=hs.2.2.2.1.2.2.2.2.1.1
 unfold oO oO.b
 generalize ((0:Int),((0:Int),_))=S0
 refine bt (len:=s.2.2.2.1.2.2.2.2.1.length) (F:=λn i (z:aR×aN×Bool×Int)=>oO.l5 N n c z.1 e S0 aZ z.2.1 z.2.2.1 z.2.2.2 i) (s:=(_,(_,(_,_)))) (λi z=>GS m z.1∧z.1.2.2.2.1.2.2.2.2.1=s.2.2.2.1.2.2.2.2.1∧G i (.slice ff) z.2.1) ⟨hs,rfl,G.nil⟩ ω (λn i z hi hI hr=> ?_) (λn z hI=> ?_)
 all_goals unfold oO.l5 oO.dV
 ·obtain⟨hz,hh,ho⟩:=hI
  have xa:=ho.1
  rw[hh,aw (x:=(i:Int)+1) ω ω,af i]
  have hx:G 0 ff (s.2.2.2.1.2.2.2.2.1.getD (i:Int).toNat bb):=G.at hs.2.2.2.1.2.2.2.2.1 _
  refine ax (λ_=>aB ⟨ω,ω⟩ (ok_eq (λ_=>ah (U7 N hN h2 ω hc hz.2.2.1 (G.mono (bs m) hx) he.2.2.1 he.2.2.2.2.2.2.1 he.2.2.2.2.2.2.2.1) λr ⟨BK,zT⟩=>bM (λ_=>ah (MZ N _) λ_ _=>aq hz) λ_=> ?_) λ_=>ax (λ_=>aC (by rw[aJ];omega) (hr (z.1,(z.2.1++[s.2.2.2.1.2.2.2.2.1.getD (i:Int).toNat bb],z.2.2)) ⟨hz,hh,G.cat ho (G.one hx (aH 1))⟩)) λ_=>hr z ⟨hz,hh,G.mono ω ho⟩)) λ_=>ω
  have AA:GS m (z.1.1,(z.1.2.1,(r.1,z.1.2.2.2))):=⟨hz.1,hz.2.1,BK,hz.2.2.2⟩
  have alC:G 0 ff r.2.1:=zT
  exact ax (λ_=>aC (by rw[aJ];omega) (hr ((z.1.1,(z.1.2.1,(r.1,z.1.2.2.2))),(z.2.1++[r.2.1],(true,r.2.1.2.2.2.1))) ⟨AA,hh,G.cat ho (G.one alC (aH 1))⟩)) λ_=>hr ((z.1.1,(z.1.2.1,(r.1,z.1.2.2.2))),(z.2.1,(true,r.2.1.2.2.2.1))) ⟨AA,hh,G.mono ω ho⟩
 ·obtain⟨hz,hh,ho⟩:=hI
  rw[hh]
  exact ax (λ_=>ω) λ_=>bI (λ_=>ah (MZ N _) λ_ _=>aq hz) λ_=>aq ⟨hz.1,hz.2.1,hz.2.2.1,⟨hz.2.2.2.1.1,hz.2.2.2.1.2.1,hz.2.2.2.1.2.2.1,hz.2.2.2.1.2.2.2.1,G.mono hhl ho,hz.2.2.2.1.2.2.2.2.2⟩,hz.2.2.2.2⟩
theorem vh(hN:4000000≤N){s:aR}{q:Int}(hs:aF s.1)(hq:aF q):Ok (λr=>aF r.1) (Xm N s q):=by
 unfold Xm
 exact ah (bH N hN hs) λa ha=>ah (bH N hN hq) λb hb=>ah (lW N hN ω ha hb) λx hx=>ah (yr N hx) λv hv=>aq hv
theorem dC{α:Type}{P:α×dg→Prop}{N:Nat}{e:Int}{f:dg→Option (α×dg)}(h: ∀r,Ok P (f r)):Ok P ((gj N e).bind f):=ah (MZ N e) λr _=>h r
theorem aaD(hN:5000000≤N){c:ae}{s:aR}{e:iE}{m:Nat}(h2:200≤m)(hm:m≤999)(hc:G 5 aA c)(hs:GS m s)(he:G 0 mc e):Ok (SR (m+1)) (oP N c s e):=by
 have FI:G m aA c:=G.mono ω hc
 have T8:GS (m+1) s:=G.mono ω hs
 obtain⟨s1,s2,s3,⟨k1,k2,k3,k4,k5,k6,k7,k8,k9,w4,Xn⟩,s5⟩:=T8
 have hk:=hs.2.2.2.1
 have i2:aF 2:=bz
 have i3:aF 3:=bz
 have up: ∀{τ:Ty} {x:τ.den},G m τ x→G (m+1) τ x:=λh=>G.mono ω h
 have ch: ∀r:dg,Ok (SR (m+1)) (some (s,r)):=λr=>aq (up hs)
 unfold oP oP.b
 refine ok_eq (λ_=> ?_) λ_=>ok_eq (λ_=> ?_) λ_=>ok_eq (λ_=> ?_) λ_=>ok_eq (λ_=> ?_) λ_=>ok_eq (λ_=> ?_) λ_=>ok_eq (λ_=> ?_) λ_=>ok_eq (λ_=> ?_) λ_=>ok_eq (λ_=> ?_) λ_=>dC λr=>ch r
 ·exact ah (adM N hN ω FI hs.2.2.1 _ he.2.1 _) λr hr=>dC λ_=>aq ⟨s1,s2,up hr,(up hs).2.2.2⟩
 ·exact ah (adW N hN h2 ω FI hs.2.2.1 _) λr hr=>dC λ_=>aq ⟨s1,s2,up hr,⟨k1,i2,cc,k4,k5,k6,k7,k8,k9,w4,Xn⟩,s5⟩
 ·exact ah (W3 N hN c hc.2.2.2.2.2.2.1 ω hs.2.2.1 _) λr hr=>aq ⟨s1,gJ _,s3,⟨k1,k2,k3,k4,G.mono ω hr,k6,k7,k8,k9,w4,Xn⟩,s5⟩
 ·exact ah (Xl N hN h2 ω FI hs he) λr hr=>aq (up hr)
 ·exact ok_eq (λ_=>dC λr=>ch r) λ_=>ah (adO N hN h2 ω FI hs.2.2.1 hs.2.1) λl hl=>bM (λ_=>dC λr=>ch r) λ_=>ah (vh N ω hs.1 hc.2.2.2.2.1) λt ht=>bI (λ_=>dC λr=>ch r) λ_=>ah (U8 N hN c ω hs.2.2.1) λu hu=>aq ⟨s1,gJ _,s3,⟨k1,i3,ht,gJ _,G.nil,up hl,G.nil,up hu,k9,w4,Xn⟩,s5⟩
 ·have hx:G 0 ff (s.2.1,(e.2.2.2.2.2.1,(e.2.1,(e.2.2.2.2.2.2.2.1,())))):=⟨hs.2.1,he.2.2.2.2.2.1,he.2.1,he.2.2.2.2.2.2.2.1,trivial⟩
  exact ah (Lh N hN ω ω FI hs.2.2.1 hk.2.2.2.2.2.1 hk.2.2.2.2.2.2.1 hx) λr hr=>aq ⟨s1,gJ _,s3,⟨k1,k2,k3,k4,k5,k6,hr,k8,k9,w4,Xn⟩,s5⟩
 ·refine ah (Qj N hN c h2 ω hs.2.2.1 hk.2.2.2.2.2.1 hk.2.2.2.2.2.2.1) λr ⟨BK,zT⟩=>bM (λ_=>dC λr=>ch r) λ_=>ah (Qh N ω c h2 ω hk.2.2.2.2.2.2.2.2.1 hk.2.2.2.2.2.2.2.1.1 zT hk.2.2.2.2.2.2.1) λd hd=> ?_
  generalize ((0:Int),((0:Int),_))=S0
  have Ki:=zT.1
  refine bt (len:=r.2.1.length) (F:=λn i q=>oP.l41 N n _ S0 aZ r.2.1 q i) (λ_ _=>True) trivial ω (λn i q hi _ ed=> ?_) (λn q _=> ?_)
  all_goals unfold oP.l41 oP.adX
  ·rw[aw (x:=(i:Int)+1) ω ω,af i]
   exact ax (λ_=>aB ⟨ω,ω⟩ (ok_eq (λ_=>ed _ trivial) λ_=>ed _ trivial)) λ_=>ω
  ·exact ax (λ_=>ω) λ_=>aq ⟨s1,s2,up BK,⟨k1,i2,cc,k4,k5,up zT,k7,k8,up hd,w4,Xn⟩,s5⟩
 ·exact ah (Lk N hN h2 ω FI hs.2.2.1 hk.2.2.2.2.2.2.2.2.1 hk.2.2.2.2.2.2.2.2.2.1 hk.1) λr ⟨BK,zT⟩=>bM (λ_=>dC λr=>ch r) λ_=>ah (Vd N hN h2 ω hc BK) λb hb=>bM (λ_=>dC λr=>ch r) λ_=>ah (MU N ω ω hb.1 _ _) λu hu=>aq ⟨s1,s2,⟨up hu,(up hb).2⟩,G.zero (m+1) sW,up zT,trivial⟩
theorem Ql(s:aR)(k:Int):Ok (λ_=>True) (adY N s k):=by
 unfold adY
 repeat' first|exact fO|refine ok_eq (λ_=> ?_) (λ_=> ?_)
theorem py(hN:200000≤N){s:aR}{m:Nat}(hm:m≤50000)(hs:GS m s)(k:Int):Ok (λ_=>True) (IA N s k):=by
 unfold IA
 exact ah (px N hN hm hs.2.2.1.1 _) λ_ _=>fO
theorem aaE(hN:200000≤N){s:aR}{m:Nat}(hm:m≤50000)(hs:GS m s)(k:Int):Ok (λ_=>True) (Tm N s k):=by
 unfold Tm
 exact ah (zd N hN hm hs.2.2.1.2.1 _) λ_ _=>fO
theorem adZ(hN:4000000≤N){s:aR}{m:Nat}(h2:200≤m)(hm:m≤50000)(hs:GS m s)(a b c d:Int){q:Int}(hq:aF q):Ok (SR m) (Qm N s a b c d q):=by
 unfold Qm
 exact ah (bH N hN hq) λx hx=>ah (tX N hN _ _ _ _ (Bg.mono hx ω)) λp hp=>ah (tW N hN h2 hm hs.2.2.1 G.nil (kR.mono hp ω)) λr hr=>aq ⟨hs.1,hs.2.1,hr,hs.2.2.2⟩
theorem aaF(hN:5000000≤N){c:ae}{s:aR}{e:iE}{m:Nat}(h2:200≤m)(hm:m≤999)(hc:G 5 aA c)(hs:GS m s)(he:G 0 mc e):Ok (SR (m+1)) (qN N c s e):=by
 obtain⟨s1,s2,s3,⟨k1,k2,k3,k4,k5,k6,k7,k8,k9,w4,Xn⟩,s5⟩:=hs
 have hs:GS m s:=⟨s1,s2,s3,⟨k1,k2,k3,k4,k5,k6,k7,k8,k9,w4,Xn⟩,s5⟩
 have up: ∀{x:aR},GS m x→ ∀r:dg,Ok (SR (m+1)) (some (x,r)):=λh r=>aq (P:=SR (m+1)) (G.mono (rY m) h)
 have i1:aF 1:=bz
 have us: ∀{τ:Ty} {x:τ.den},G m τ x→G (m+1) τ x:=λh=>G.mono ω h
 unfold qN qN.b
 have hj: ∀(S0:aR) (z:dg),Ok (SR (m+1)) (qN.Xf N c s e S0 z):=λS0 z=>by
  unfold qN.Xf qN.Qg
  exact ah (Ql N _ _) λ_ _=>bI (λ_=>dC λr=>up hs r) λ_=>ah (aaD N hN h2 hm hc hs he) λr hr=>aq hr
 have mem: ∀{x:aE},G m (.slice kM) x→G m aK ((x,s.2.2.1.2):an):=λh=>⟨h,s3.2⟩
 have hd: ∀z:aE×Int,G m (.slice kM) z.1→Ok (SR (m+1)) (cond (aM z.2 0) (cond (aM e.1 11) ((X0 N c (z.1,s.2.2.1.2) e.2.1).bind λr2=>cond (aM s.2.2.2.1.2.1 3) ((qn N s.2.2.2.1.2.2.2.2.2.2.1 e.2.1).bind λr3=>(gj N z.2).bind λr4=>some ((s.1,(s.2.1,(r2.1,((s.2.2.2.1.1,(s.2.2.2.1.2.1,(s.2.2.2.1.2.2.1,(s.2.2.2.1.2.2.2.1,(s.2.2.2.1.2.2.2.2.1,(s.2.2.2.1.2.2.2.2.2.1,(r3,s.2.2.2.1.2.2.2.2.2.2.2))))))),s.2.2.2.2)))),r4)) ((gj N z.2).bind λr5=>some ((s.1,(s.2.1,(r2.1,s.2.2.2))),r5))) ((gj N z.2).bind λr6=>some ((s.1,(s.2.1,((z.1,s.2.2.1.2),s.2.2.2))),r6))) ((gj N z.2).bind λr7=>some ((s.1,(s.2.1,((z.1,s.2.2.1.2),s.2.2.2))),r7))):=λz hz=>
  ok_eq (λ_=>ok_eq (λ_=>ah (Qa N hN c ω (mem hz) _) λb hb=>ok_eq (λ_=>ah (EJ N ω ω k7 _) λl hl=>dC λr=>aq ⟨s1,s2,us hb,⟨k1,k2,k3,k4,us k5,us k6,us hl,us k8,us k9,us w4,trivial⟩,us s5⟩) λ_=>dC λr=>aq ⟨s1,s2,us hb,(us hs).2.2.2⟩) λ_=>dC λr=>aq ⟨s1,s2,us (mem hz),(us hs).2.2.2⟩) λ_=>dC λr=>aq ⟨s1,s2,us (mem hz),(us hs).2.2.2⟩
 have JD:=λk:Int=>MU N ω (m:=m) ω s3.1 e.2.1 k
 refine ok_eq (λ_=>ah (JD _) λz hz=>hd z hz) λ_=>ok_eq (λ_=>ah (JD _) λz hz=>hd z hz) λ_=>ok_eq (λ_=> ?_) λ_=>ok_eq (λ_=> ?_) λ_=>hj _ _
 ·exact ah (py N ω ω hs _) λ_ _=>ok_eq (λ_=>dC λr=>up hs r) λ_=>bM (λ_=>dC λr=>up hs r) λ_=>ah (JD _) λz hz=>bM (λ_=>dC λr=>aq ⟨s1,s2,us (mem hz),(us hs).2.2.2⟩) λ_=>ah (vh N ω s1 hc.2.2.2.1) λt ht=>bI (λ_=>dC λr=>aq ⟨s1,s2,us (mem hz),(us hs).2.2.2⟩) λ_=>aq ⟨s1,s2,us (mem hz),⟨he.2.1,i1,ht,cc,G.nil,G.nil,G.nil,G.nil,G.nil,G.nil,trivial⟩,us s5⟩
 ·exact ah (py N ω ω hs _) λ_ _=>ok_eq (λ_=>dC λr=>up hs r) λ_=>ah (py N ω ω hs _) λ_ _=>bM (λ_=>dC λr=>up hs r) λ_=>hj _ _
theorem ad0(hN:5000000≤N){c:ae}{s:aR}{e:iE}{m:Nat}(h2:200≤m)(hm:m≤999)(hc:G 5 aA c)(hs:GS m s)(he:G 0 mc e):Ok (SR (m+1)) (Xo N c s e):=by
 have FI:G m aA c:=G.mono ω hc
 obtain⟨s1,s2,s3,⟨k1,k2,k3,k4,k5,k6,k7,k8,k9,w4,Xn⟩,s5⟩:=hs
 have hs:GS m s:=⟨s1,s2,s3,⟨k1,k2,k3,k4,k5,k6,k7,k8,k9,w4,Xn⟩,s5⟩
 have us: ∀{τ:Ty} {x:τ.den},G m τ x→G (m+1) τ x:=λh=>G.mono ω h
 have T8:=us hs
 have up: ∀{x:aR},GS m x→ ∀r:dg,Ok (SR (m+1)) (some (x,r)):=λh r=>aq (P:=SR (m+1)) (G.mono (rY m) h)
 have st:=λk:Int=>py N ω (m:=m) ω hs k
 have hp:=λa b c d=>adZ N ω h2 ω hs a b c d he.2.2.2.2.2.2.1
 have Xp:=he.2.2.2.2.2.2.1
 unfold Xo
 refine ok_eq (λ_=> ?_) λ_=>ok_eq (λ_=> ?_) λ_=>ok_eq (λ_=> ?_) λ_=>ok_eq (λ_=> ?_) λ_=>ok_eq (λ_=> ?_) λ_=>ok_eq (λ_=> ?_) λ_=>ok_eq (λ_=> ?_) λ_=>ok_eq (λ_=> ?_) λ_=>ok_eq (λ_=> ?_) λ_=>ok_eq (λ_=> ?_) λ_=>ok_eq (λ_=> ?_) λ_=>ah (aaF N hN h2 hm hc hs he) λr hr=>aq hr
 ·exact ah (aam N ω ω s3.1 he.2.1) λr hr=>dC λ_=>aq ⟨s1,s2,⟨hr,T8.2.2.1.2⟩,T8.2.2.2⟩
 ·have hx:G 0 ff (e.2.2.1,(e.2.1,(e.2.2.2.2.1,((0:Int),())))):=⟨he.2.2.1,he.2.1,he.2.2.2.2.1,cc,trivial⟩
  exact ah (adH N ω ω s3.1 s3.2.1 hx) λr hr=>dC λ_=>aq ⟨s1,s2,⟨T8.2.2.1.1,hr,T8.2.2.1.2.2⟩,T8.2.2.2⟩
 ·exact ah (aaE N ω ω hs _) λ_ _=>bI (λ_=>dC λr=>up hs r) λ_=>ah (hp _ _ _ _) λr hr=>aq (us hr)
 ·exact ah (Qd N hN h2 ω FI s3 _ Xp) λr hr=>dC λz=>aq ⟨s1,s2,us hr,(us hs).2.2.2⟩
 ·exact ah (st _) λ_ _=>ok_eq (λ_=>dC λr=>up hs r) λ_=>ah (st _) λ_ _=>bM (λ_=>dC λr=>up hs r) λ_=>ah (hp _ _ _ _) λr hr=>aq (us hr)
 ·exact ah (st _) λ_ _=>ok_eq (λ_=>dC λr=>up hs r) λ_=>ah (ny N ω ω s3.2.2.1 _ _) λg hg=>ah (bH N ω hg) λx hx=>ah (rL N ω ω hx) λx hx=>ah (bH N ω Xp) λy hy=>ah (qK N ω ω ω hy hx) λ_ _=>ax (λ_=>dC λr=>up hs r) λ_=>ah (hp _ _ _ _) λr hr=>aq (us hr)
 ·exact ah (aan N ω ω s3.2.1 Xp) λr hr=>dC λz=>aq ⟨s1,s2,⟨us s3.1,us hr,(us s3).2.2⟩,(us hs).2.2.2⟩
 ·have hx:G 0 nw (s.2.1,(e.2.2.1,(e.2.2.2.1,(e.2.2.2.2.1,(e.2.2.2.2.2.2.1,(e.2.2.2.2.2.2.2.1,())))))):=⟨s2,he.2.2.1,he.2.2.2.1,he.2.2.2.2.1,Xp,he.2.2.2.2.2.2.2.1,trivial⟩
  exact ah (aar N hN h2 ω FI s3 hx) λr hr=>aq ⟨s1,gJ _,hr,T8.2.2.2⟩
 ·exact ah (aaE N ω ω hs _) λ_ _=>bI (λ_=>dC λr=>up hs r) λ_=>ah (W8 N ω ω s3.2.2.2.2.2.1 _ _) λr hr=>dC λz=>aq ⟨s1,s2,⟨us s3.1,us s3.2.1,us s3.2.2.1,us s3.2.2.2.1,us s3.2.2.2.2.1,us hr,trivial⟩,(us hs).2.2.2⟩
 ·exact ah (EK N hN c h2 ω s3 _ he.2.2.2.2.2.2.2.1) λr ⟨BK,zT⟩=>ok_eq (λ_=>bM (λ_=>ah (Qc N ω h2 ω w4 zT) λg hg=>dC λz=>aq ⟨s1,s2,us BK,⟨k1,k2,k3,k4,us k5,us k6,us k7,us k8,us k9,us hg,trivial⟩,us s5⟩) λ_=>dC λz=>aq ⟨s1,s2,us BK,(us hs).2.2.2⟩) λ_=>dC λz=>aq ⟨s1,s2,us BK,(us hs).2.2.2⟩
 ·exact ah (vh N ω s1 Xp) λt ht=>bI (λ_=>dC λr=>up hs r) λ_=>aq ⟨ht,(us hs).2⟩
theorem UG(hN:5000000≤N){c:ae}{s:aR}{e:iE}{m:Nat}(h2:200≤m)(hm:m≤999)(hc:G 5 aA c)(hs:GS m s)(he:G 0 mc e):Ok (SR (m+1)) (F76 N c s e):=by
 have ch: ∀r:dg,Ok (SR (m+1)) (some (s,r)):=λr=>aq (P:=SR (m+1)) (G.mono (rY m) hs)
 unfold F76
 exact bV (mK N ω c) (bI (λ_=>ch _) λ_=>ah (Lf N ω e) λ_ _=>bI (λ_=>ch _) λ_=>ah (ad0 N hN h2 hm hc hs he) λr hr=>bM (λ_=>ch _) λ_=>aq hr)
end VM
end
section
namespace VM
open Go VM.F Go.RowKit
variable(N:Nat)
theorem ac4{l:List Int}(h:WF (.slice (.int .u64)) l):Dk 0 ((l,((0:Int),())):aP):=⟨λx hx=>by
 obtain⟨i,hi,rfl⟩:=gL hx
 have h3:0≤l[i]∧l[i]≤18446744073709551615:=wf_u64.1 (h.2 i hi)
 exact⟨h3.1,rP h3.2 δ⟩,fY 0,fY 0⟩
namespace Pure
end Pure
theorem qH{α:Type}{l:List α}{d:α}{i:Nat}(h:i<l.length):l.getD i d∈l:=by
 rw[aW,bm h];exact dG h
namespace Pure
end Pure
theorem yt{P:Int→Prop} [DecidablePred P]{f:Int→Int→Int}: ∀{K:List dt} {o:au},eN P f K=some o→(o.map keyOf).Sublist K∧(∀x∈o,dQ x=f x.1 x.2.1∧dQ x≠0∧P (dQ x))∧(∀k∈K,P (f k.1 k.2))∧ ∀a b,ix a b o=if(a,b)∈K then f a b else 0
 |[],o,h=>by
  have e:[]=o:=oe h
  subst e
  exact⟨List.Sublist.refl _,λx hx=>(nomatch hx),λk hk=>(nomatch hk),λa b=>by rw[ag (λh=>nomatch h)];rfl⟩
 |k::t,o,h=>by
  rw[lU]at h
  by_cases hp:P (f k.1 k.2)
  ·rw[ak hp]at h
   cases ho:eN P f t with
   |none=>rw[ho]at h;exact nomatch h
   |some o'=>
    rw[ho]at h
    have e:(if f k.1 k.2=0 then o' else(k.1,(k.2,(f k.1 k.2,())))::o')=o:=oe h
    obtain⟨s,g,gp,gf⟩:=yt ho
    have iS: ∀k'∈k::t,P (f k'.1 k'.2):=λk' hk=>by
     rcases bh.1 hk with rfl|hk
     ·exact hp
     ·exact gp k' hk
    by_cases h0:f k.1 k.2=0
    ·rw[ak h0]at e
     subst e
     refine⟨s.cons _,g,iS,λa b=> ?_⟩
     rw[gf a b]
     by_cases hk:(a,b)=k
     ·subst hk
      rw[ak (bu ..)]
      dsimp only at h0
      rw[h0];split<;>rfl
     ·by_cases ht:(a,b)∈t
      ·rw[ak ht,ak (ba _ ht)]
      ·rw[ag ht,ag (λh=>(bh.1 h).elim hk ht)]
    ·rw[ag h0]at e
     subst e
     refine⟨s.cons_cons _,λx hx=> ?_,iS,λa b=> ?_⟩
     ·rcases bh.1 hx with rfl|hx
      ·exact⟨rfl,h0,hp⟩
      ·exact g x hx
     ·rw[jW]
      dsimp only
      rw[gf a b]
      by_cases h1:k.1=a
      ·by_cases h2:k.2=b
       ·have hk:(a,b)=k:=by rw[←h1,←h2]
        rw[ak h1,ak h2,ak (by rw[hk];exact bu ..),h1,h2]
       ·have hk:(a,b)≠k:=λe=>h2 (by rw[←e])
        rw[ak h1,ag h2]
        by_cases ht:(a,b)∈t
        ·rw[ak ht,ak (ba _ ht)]
        ·rw[ag ht,ag (λh=>(bh.1 h).elim hk ht)]
      ·have hk:(a,b)≠k:=λe=>h1 (by rw[←e])
       rw[ag h1]
       by_cases ht:(a,b)∈t
       ·rw[ak ht,ak (ba _ ht)]
       ·rw[ag ht,ag (λh=>(bh.1 h).elim hk ht)]
  ·rw[ag hp]at h;exact nomatch h
theorem aaG{l:au}(hs:uq (l.map keyOf)){j:Nat}(hj:j<l.length)(h0:0<j):um (keyOf (l.getD (j-1) aZ)) (keyOf (l.getD j aZ)):=by
 have:=vr.1 (uz.1 hs) (j-1) j ω hj ω
 rw[aW,aW,bm hj,bm (show j-1<l.length by omega)]
 exact this
theorem Tn{l:au}(hs:uq (l.map keyOf))(h: ∀x∈l,cg x.1 x.2.1∧dQ x≠0∧ri (dQ x)):dk l=true:=by
 unfold dk
 rw[fc]
 refine aV λj hj=> ?_
 obtain⟨a,b,c⟩:=h _ (qH (d:=aZ) hj)
 exact⟨a,b,c,λh0=>aaG hs hj h0⟩
theorem Xq{l:au}(hs:uq (l.map keyOf))(h: ∀x∈l,de x.1 x.2.1∧dQ x≠0):fh l=true:=by
 unfold fh
 rw[fc]
 refine aV λj hj=> ?_
 obtain⟨a,b⟩:=h _ (qH (d:=aZ) hj)
 exact⟨a,b,λh0=>aaG hs hj h0⟩
theorem sX{a b:Int}:(a,b)∈jV↔cg a b:=by
 unfold jV cg
 rw[pj];dsimp only;omega
theorem To(b:an)(s e:au):((dE b s e).2=2∧(dE b s e).1=(cn,(cW,(bo,(bo,(di,(du,())))))))∨ ∃s' r',eN Fq (fS b.2.2.2.1 s) jV=some s'∧eN aF (fS b.2.2.1 e) nN=some r'∧dE b s e=((b.1,(b.2.1,(r',(s',b.2.2.2.2)))),0):=by
 unfold dE
 cases h1:eN Fq (fS b.2.2.2.1 s) jV with
 |none=>exact .inl ⟨rfl,rfl⟩
 |some s'=>
  cases h2:eN aF (fS b.2.2.1 e) nN with
  |none=>exact .inl ⟨rfl,rfl⟩
  |some r'=>exact .inr ⟨s',r',rfl,rfl,rfl⟩
theorem Tp{l E o:au}(hs:dk l=true)(h:eN Fq (fS l E) jV=some o):dk o=true∧(∀a b,cg a b→gm o a b=gm l a b+c3 a b E∧Fq (gm o a b)):=by
 obtain⟨h1,h2,h3,h4⟩:=yt h
 have hso:uq (o.map keyOf):=xf h1 (pk 6 25 0)
 have ho:dk o=true:=Tn hso λx hx=>by
  have hk:(x.1,x.2.1)∈jV:=h1.subset (fG (f:=keyOf) hx)
  obtain⟨_,g1,g2⟩:=h2 x hx
  exact⟨sX.1 hk,g1,g2.2⟩
 refine⟨ho,λa b hp=> ?_⟩
 have e:gm o a b=fS l E a b:=by
  unfold gm
  rw[ho,ak rfl,h4 a b,ak (sX.2 hp)]
 refine⟨?_,by rw[e];exact h3 _ (sX.2 hp)⟩
 rw[e]
 unfold fS gm
 rw[hs,ak rfl,vd (eZ hs).1]
theorem Gc{a b:Int}{l:au}(h:c3 a b l≠0): ∃x∈l,x.1=a∧x.2.1=b:=
 NU λhn=>h (ly λx hx e=>hn ⟨x,hx,e⟩)
theorem ad1{l E o:au}(hs:fh l=true)(hE: ∀x∈E,de x.1 x.2.1)(h:eN aF (fS l E) nN=some o):fh o=true∧(∀a b,de a b→tO o a b=tO l a b+c3 a b E∧aF (tO o a b)):=by
 obtain⟨h1,h2,h3,h4⟩:=yt h
 obtain⟨hl,qQ⟩:=pn hs
 have hso:uq (o.map keyOf):=xf h1 (pk 25 7 1)
 have ho:fh o=true:=Xq hso λx hx=>by
  obtain⟨g0,g1,g2⟩:=h2 x hx
  refine⟨?_,g1⟩
  rw[g0]at g1
  unfold fS at g1
  by_cases hz:c3 x.1 x.2.1 l=0
  ·rw[hz,xn]at g1
   obtain⟨y,hy,e1,e2⟩:=Gc g1
   rw[←e1,←e2];exact hE y hy
  ·obtain⟨y,hy,e1,e2⟩:=Gc hz
   rw[←e1,←e2];exact qQ y hy
 refine⟨ho,λa b hk=> ?_⟩
 have hg:(a,b)∈nN:=by
  unfold nN
  rw[pj]
  unfold de at hk
  dsimp only;omega
 have e:tO o a b=fS l E a b:=by
  unfold tO
  rw[ho,ak rfl,h4 a b,ak hg]
 refine⟨?_,by rw[e];exact h3 _ hg⟩
 rw[e]
 unfold fS tO
 rw[hs,ak rfl,vd hl]
namespace Pure
end Pure
namespace Pure
end Pure
def J5(p:dt→Bool):au→Int
 |[]=>0
 |x::t=>(if p (keyOf x)=true then dQ x else 0)+J5 p t
def IB(p:dt→Bool)(f:Int→Int→Int):List dt→Int
 |[]=>0
 |k::t=>(if p k=true then f k.1 k.2 else 0)+IB p f t
theorem Dy(p:dt→Bool)(x:dg)(t:au):J5 p (x::t)=(if p (keyOf x)=true then dQ x else 0)+J5 p t:=rfl
theorem rN(p:dt→Bool)(f:Int→Int→Int)(k:dt)(t:List dt):IB p f (k::t)=(if p k=true then f k.1 k.2 else 0)+IB p f t:=rfl
theorem Lm{P:Int→Prop} [DecidablePred P]{f:Int→Int→Int}(p:dt→Bool): ∀{K:List dt} {o:au},eN P f K=some o→J5 p o=IB p f K
 |[],o,h=>by
  have e:[]=o:=oe h
  subst e;rfl
 |k::t,o,h=>by
  rw[lU]at h
  by_cases hp:P (f k.1 k.2)
  ·rw[ak hp]at h
   cases ho:eN P f t with
   |none=>rw[ho]at h;exact nomatch h
   |some o'=>
    rw[ho]at h
    have e:(if f k.1 k.2=0 then o' else(k.1,(k.2,(f k.1 k.2,())))::o')=o:=oe h
    rw[rN,←Lm p ho]
    by_cases h0:f k.1 k.2=0
    ·rw[ak h0]at e
     rw[←e,h0]
     split<;>omega
    ·rw[ag h0]at e
     rw[←e];rfl
  ·rw[ag hp]at h;exact nomatch h
theorem IC(p:dt→Bool)(f g:Int→Int→Int): ∀K:List dt,IB p (λa b=>f a b+g a b) K=IB p f K+IB p g K
 |[]=>rfl
 |k::t=>by
  rw[rN,rN,rN,IC p f g t]
  split<;>omega
theorem Dz{p:dt→Bool}{f:Int→Int→Int}: ∀{K:List dt},(∀k∈K,f k.1 k.2=0)→IB p f K=0
 |[],_=>rfl
 |k::t,h=>by
  rw[rN,h k (bu ..),Dz λx hx=>h x (ba _ hx)]
  split<;>rfl
theorem Qn(p:dt→Bool)(k:dt)(v:Int): ∀{K:List dt},uq K→k∈K→IB p (λa b=>if k.1=a∧k.2=b then v else 0) K=if p k=true then v else 0
 |[],_,h=>nomatch h
 |x::t,hs,h=>by
  obtain⟨h1,h2⟩:=eX.1 hs
  rw[rN]
  by_cases e:k=x
  ·subst e
   have hz:IB p (λa b=>if k.1=a∧k.2=b then v else 0) t=0:=Dz λy hy=>ag λe=>by
    have:=h1 y hy
    rw[show y=k from jq e.1.symm e.2.symm]at this
    exact pN this
   rw[ak (show k.1=k.1∧k.2=k.2 from⟨rfl,rfl⟩),hz,jo]
  ·rw[ag (show ¬(k.1=x.1∧k.2=x.2)from λh=>e (jq h.1 h.2)),Qn p k v h2 ((bh.1 h).elim (λh=>absurd h e) id)]
   split<;>omega
theorem ID(p:dt→Bool){K:List dt}(hs:uq K): ∀{l:au},(∀x∈l,keyOf x∈K)→IB p (λa b=>c3 a b l) K=J5 p l
 |[],_=>Dz λ_ _=>rfl
 |x::t,h=>by
  have e:(λa b=>c3 a b (x::t))=λa b=>(if(keyOf x).1=a∧(keyOf x).2=b then dQ x else 0)+c3 a b t:=by
   funext a b;exact jU a b x t
  rw[e,IC,Qn p (keyOf x) (dQ x) hs (h x (bu ..)),ID p hs λy hy=>h y (ba _ hy),Dy]
theorem IE{P:Int→Prop} [DecidablePred P]{l E o:au}{K:List dt}(p:dt→Bool)(hs:uq K)(hl: ∀x∈l,keyOf x∈K)(hE: ∀x∈E,keyOf x∈K)(h:eN P (fS l E) K=some o):J5 p o=J5 p l+J5 p E:=by
 rw[Lm p h,←ID p hs hl,←ID p hs hE,←IC];rfl
theorem wA: ∀l:au,J5 (λ_=>true) l=(l.map dQ).sum
 |[]=>rfl
 |x::t=>by rw[Dy,ak rfl,wA t,ca,cN]
theorem zf(i:Int): ∀l:au,J5 (λk=>decide (k.2=i)) l=(dp i l).sum
 |[]=>rfl
 |x::t=>by
  rw[Dy,zf i t,dB]
  by_cases e:x.2.1=i
  ·rw[ak (aV (show(keyOf x).2=i from e)),ak e,cN]
  ·rw[ag (by rw[bw (show ¬(keyOf x).2=i from e)];exact pD),ag e,xn]
def IF(m:aE)(a:aN)(k n:Int):Prop:=(dI k 5→(eT a n).2=true)∧(dI k 6∨dI k 7→ ¬dI (gd m n) 0)
def IG(c:ae)(a:aN)(k n:Int):Prop:=(dI k 0∨(eT a k).2=true)∧lG n c.1.length
theorem Qo{k n:Int}(h:de k n):(k,n)∈nN:=by
 unfold nN
 rw[pj]
 unfold de at h
 dsimp only;omega
theorem IH{l E:au}{Q:Int→Int→Prop}(hl: ∀x∈l,Q x.1 x.2.1)(hE: ∀x∈E,Q x.1 x.2.1){a b:Int}(h:fS l E a b≠0):Q a b:=by
 unfold fS at h
 by_cases hz:c3 a b l=0
 ·rw[hz,xn]at h
  obtain⟨y,hy,e1,e2⟩:=Gc h
  rw[←e1,←e2];exact hE y hy
 ·obtain⟨y,hy,e1,e2⟩:=Gc hz
  rw[←e1,←e2];exact hl y hy
theorem M7{c:ae}{b:an}{s e s' r':au}(hB:dh c b=true)(h1:eN Fq (fS b.2.2.2.1 s) jV=some s')(h2:eN aF (fS b.2.2.1 e) nN=some r')
  (gs: ∀x∈s,cg x.1 x.2.1∧IG c b.2.1 x.1 x.2.1) (flat: ∀i:Int,(dp i s).sum=0) (ge: ∀x∈e,de x.1 x.2.1∧IF b.1 b.2.1 x.1 x.2.1) (zero:(e.map dQ).sum=0):
  dh c (b.1,(b.2.1,(r',(s',b.2.2.2.2))))=true:=by
 have hB':=hB
 unfold dh at hB'
 simp only[bQ]at hB'
 obtain⟨b1,b2,b3,b4,b5,b6,b7,b8,b9,b10,b11⟩:=hB'
 obtain⟨hr,hs⟩:=ej hB
 obtain⟨o1,_⟩:=Tp hs h1
 obtain⟨o2,_⟩:=ad1 hr (λx hx=>(ge x hx).1) h2
 obtain⟨L0,hsk⟩:=eZ hs
 obtain⟨Ki,hrk⟩:=pn hr
 have k1: ∀x∈b.2.2.2.1,keyOf x∈jV:=λx hx=>sX.2 (hsk x hx).1
 have k2: ∀x∈s,keyOf x∈jV:=λx hx=>sX.2 (gs x hx).1
 have k3: ∀x∈b.2.2.1,keyOf x∈nN:=λx hx=>Qo (hrk x hx)
 have k4: ∀x∈e,keyOf x∈nN:=λx hx=>Qo (ge x hx).1
 have hp8:=bD b8
 have hp9:=bD b9
 have q8: ∀x∈b.2.2.1,IF b.1 b.2.1 x.1 x.2.1:=λx hx=>by
  obtain⟨i,hi,e⟩:=gL hx
  have:=hp8 i hi
  unfold kI at this
  rw[aW,bm hi,n7,e]at this
  exact this
 have q9: ∀x∈b.2.2.2.1,IG c b.2.1 x.1 x.2.1:=λx hx=>by
  obtain⟨i,hi,e⟩:=gL hx
  have:=hp9 i hi
  unfold jS at this
  rw[aW,bm hi,n7,e]at this
  exact this
 have n4:decide (dI (iw r') 0)=true:=by
  refine aV ?_
  unfold iw dI
  rw[o2,ak rfl,←wA,IE _ (pk 25 7 1) k3 k4 h2,wA,wA,zero,jo]
  have:=bD b4
  unfold iw dI at this
  rw[hr,ak rfl]at this
  exact this
 have n5:oy s'=true:=by
  unfold oy at b5 ⊢
  obtain⟨f1,_⟩:=df.1 b5
  rw[o1,fc]
  refine aV λj hj=> ?_
  have:=bD f1 j hj
  unfold sC dI rj at this ⊢
  rw[hs,ak rfl]at this
  rw[o1,ak rfl,←zf,IE _ (pk 6 25 0) k1 k2 h1,zf,zf,flat,jo]
  exact this
 have n8:decide (∀j,j<r'.length→kI b.1 b.2.1 r' j)=true:=aV λj hj=>by
  obtain⟨g0,g1,_⟩:=(yt h2).2.1 _ (qH (d:=aZ) hj)
  rw[g0]at g1
  exact IH (Q:=IF b.1 b.2.1) q8 (λx hx=>(ge x hx).2) g1
 have n9:decide (∀j,j<s'.length→jS c b.2.1 s' j)=true:=aV λj hj=>by
  obtain⟨g0,g1,_⟩:=(yt h1).2.1 _ (qH (d:=aZ) hj)
  rw[g0]at g1
  exact IH (Q:=IG c b.2.1) q9 (λx hx=>(gs x hx).2) g1
 unfold dh
 simp only[bQ]
 exact⟨b1,b2,o2,n4,n5,b6,b7,n8,n9,b10,b11⟩
end VM
end
section
namespace VM
open Go VM.F
variable(N:Nat)
theorem jl{α:Type}{l:List α}{d:α}{i:Nat}(h:i<l.length):l.getD i d=l[i]:=by
 rw[aW,bm h];rfl
theorem iA{α:Type}{d:α}{l:List α}{Q:α→Prop}:(∀j,j<l.length→Q (l.getD j d))↔ ∀x∈l,Q x:=
 ⟨λh x hx=>by
  obtain⟨i,hi,e⟩:=gL hx
  rw[←e,←jl (d:=d) hi];exact h i hi,λh j hj=>h _ (qH hj)⟩
theorem pz{α:Type}{d:α}{R:α→α→Prop}(tr: ∀a b c,R a b→R b c→R a c): ∀l:List α,(∀j,j<l.length→0<j→R (l.getD (j-1) d) (l.getD j d))↔l.Pairwise R
 |[]=>⟨λ_=>List.Pairwise.nil,λ_ j hj=>nomatch hj⟩
 |[x]=>⟨λ_=>Gk R x,λ_ j hj h0=>by have:j<1:=hj;omega⟩
 |x::y::t=>by
  rw[eX,←pz tr (y::t)]
  constructor
  ·intro h
   have XS:R x y:=h 1 (by simp) ω
   have ht: ∀j,j<(y::t).length→0<j→R ((y::t).getD (j-1) d) ((y::t).getD j d):=λj hj h0=>by
    have:=h (j+1) (by simpa using hj) ω
    obtain⟨k,rfl⟩: ∃k,j=k+1:=⟨j-1,ω⟩
    exact this
   have hp:=(pz tr (y::t)).1 ht
   refine⟨λz hz=> ?_,ht⟩
   rcases bh.1 hz with rfl|hz
   ·exact XS
   ·exact tr _ _ _ XS ((eX.1 hp).1 z hz)
  ·rintro⟨h1,h2⟩ j hj h0
   obtain⟨k,rfl⟩: ∃k,j=k+1:=⟨j-1,ω⟩
   cases k with
   |zero=>exact h1 y (bu ..)
   |succ k=>exact h2 (k+1) (by simpa using hj) ω
def aaH(x y:BT):Prop:=lG x.1 y.1
def Qp(x y:cO):Prop:=lG x.1 y.1
def Ln(x y:gb):Prop:=lG x.1 y.1
theorem DA{a b c:Int}(h1:lG a b)(h2:lG b c):lG a c:=Int.lt_trans h1 h2
def aaI(a b:Int):Prop:=1≤a∧a≤12∧1≤b∧b≤4
theorem gZ{m:aE}:dN m=true↔(∀x∈m,aaI x.1 x.2.1)∧m.Pairwise aaH:=by
 unfold dN
 rw[fc,fV,←pz (R:=aaH) (d:=c7) (λ_ _ _=>DA),←iA (d:=c7)]
 exact⟨λh=>⟨λj hj=>⟨(h j hj).1,(h j hj).2.1,(h j hj).2.2.1,(h j hj).2.2.2.1⟩,λj hj h0=>(h j hj).2.2.2.2 h0⟩,λh j hj=>⟨(h.1 j hj).1,(h.1 j hj).2.1,(h.1 j hj).2.2.1,(h.1 j hj).2.2.2,λh0=>h.2 j hj h0⟩⟩
def aqA(x y:cO):Prop:=dI x.2.2.1 1∧dI y.2.2.1 1∧dI x.2.1 y.2.1
def Tq(x:cO):Prop:=nr x.1 x.2.1 x.2.2.1 x.2.2.2.1
def ntw(x y:cO):Prop:= ¬aqA x y
theorem qp{a:aN}:gO a=true↔(∀x∈a,Tq x)∧a.Pairwise Qp∧a.Pairwise ntw:=by
 unfold gO
 rw[fc,fV,←pz (R:=Qp) (d:=bb) (λ_ _ _=>DA),←iA (d:=bb),vr]
 constructor
 ·refine λh=>⟨λj hj=>(h j hj).1,λj hj h0=>(h j hj).2.1 h0,λi j hi hj qw ht=>(h j hj).2.2 ⟨?_,xZ.2 ⟨i,qw,?_,?_⟩⟩⟩
  ·rw[jl hj];exact ht.2.1
  ·rw[jl hi];exact ht.1
  ·rw[jl hi,jl hj];exact ht.2.2
 ·rintro⟨h1,h2,h3⟩ j hj
  refine⟨h1 j hj,λh0=>h2 j hj h0,λ⟨ht,ho⟩=> ?_⟩
  obtain⟨i,qw,e1,e2⟩:=xZ.1 ho
  rw[jl hj]at ht e2
  rw[jl (show i<a.length by omega)]at e1 e2
  exact h3 i j ω hj qw ⟨e1,ht,e2⟩
theorem lA{l:aY}:dn l=true↔(∀x∈l,qU x)∧l.Pairwise Ln∧l.length≤32:=by
 unfold dn
 rw[df,fV,fV,←pz (R:=Ln) (d:=dT) (λ_ _ _=>DA),←iA (d:=dT)]
 exact⟨λh=>⟨λj hj=>(h.1 j hj).1,λj hj h0=>(h.1 j hj).2 h0,h.2⟩,λh=>⟨λj hj=>⟨h.1 j hj,λh0=>h.2.1 j hj h0⟩,h.2.2⟩⟩
def ka(m:aE)(n:Int):Prop:= ∃x∈m,dI x.1 n
def ru(a:aN)(n:Int):Prop:= ∃x∈a,dI x.1 n
theorem g7{n:Int}: ∀{m:aE},(∀x∈m,aaI x.1 x.2.1)→(¬dI (kH n m) 0↔ka m n)
 |[],_=>⟨λh=>absurd rfl h,λ⟨_,h,_⟩=>nomatch h⟩
 |x::t,h=>by
  have ih:=g7 (n:=n) λy hy=>h y (ba _ hy)
  have hx:=h x (bu ..)
  rw[vU]
  by_cases e:x.1=n
  ·rw[ak e]
   have g: ∀v:Int,1≤v→ ¬dI v 0:=λv h1 h2=>by unfold dI at h2;omega
   exact⟨λ_=>⟨x,bu ..,e⟩,λ_=>g _ hx.2.2.1⟩
  ·rw[ag e,ih]
   exact⟨λ⟨y,hy,h⟩=>⟨y,ba _ hy,h⟩,λ⟨y,hy,h'⟩=>(bh.1 hy).elim (λk=>absurd (k▸h') e) λhy=>⟨y,hy,h'⟩⟩
theorem DB{n:Int}: ∀{a:aN},(uZ n a).2=true↔ru a n
 |[]=>⟨λh=>(nomatch h),λ⟨_,h,_⟩=>nomatch h⟩
 |x::t=>by
  rw[pf]
  by_cases e:x.1=n
  ·rw[ak e]
   exact⟨λ_=>⟨x,bu ..,e⟩,λ_=>rfl⟩
  ·rw[ag e,DB]
   exact⟨λ⟨y,hy,h⟩=>⟨y,ba _ hy,h⟩,λ⟨y,hy,h'⟩=>(bh.1 hy).elim (λk=>absurd (k▸h') e) λhy=>⟨y,hy,h'⟩⟩
theorem wB{m:aE}(h:dN m=true)(n:Int): ¬dI (gd m n) 0↔ka m n:=by
 unfold gd;rw[ak h];exact g7 (gZ.1 h).1
theorem qq{a:aN}(h:gO a=true)(n:Int):(eT a n).2=true↔ru a n:=by
 unfold eT;rw[ak h];exact DB
def ko(m:aE)(a:aN)(k n:Int):Prop:=(dI k 5→ru a n)∧(dI k 6∨dI k 7→ka m n)
def zM(c:ae)(a:aN)(k n:Int):Prop:=(dI k 0∨ru a k)∧lG n c.1.length
def II(c:ae)(a:aN)(x:gb):Prop:=ru a x.2.1∧lG x.2.2.1 c.1.length
theorem M8{m:aE}{a:aN}(hm:dN m=true)(ha:gO a=true){k n:Int}:IF m a k n↔ko m a k n:=by
 unfold IF ko;rw[qq ha,wB hm]
theorem M9{c:ae}{a:aN}(ha:gO a=true){k n:Int}:IG c a k n↔zM c a k n:=by
 unfold IG zM;rw[qq ha]
structure RB(C:ae)(b:an):Prop where
 c:eS C=true
 m:dN b.1=true
 a:gO b.2.1=true
 ma: ∀x∈b.2.1,ka b.1 x.2.1
 r:fh b.2.2.1=true
 t:dI (iw b.2.2.1) 0
 s:oy b.2.2.2.1=true
 o:dn b.2.2.2.2.2.1=true
 n:dI b.2.2.2.2.1.length C.1.length
 rk: ∀x∈b.2.2.1,ko b.1 b.2.1 x.1 x.2.1
 sk: ∀x∈b.2.2.2.1,zM C b.2.1 x.1 x.2.1
 ok: ∀x∈b.2.2.2.2.2.1,II C b.2.1 x
 p:fm b.2.2.2.2.1=true
theorem qI{c:ae}{b:an}:dh c b=true↔RB c b:=by
 unfold dh sB
 simp only[bQ,fc,fV]
 constructor
 ·rintro⟨b1,⟨b2,b2',alE⟩,b3,b4,b5,b6,b7,b8,b9,b10,b11⟩
  refine⟨b1,b2,b2',?_,b3,b4,b5,b6,b7,?_,?_,?_,b11⟩
  ·exact(iA (d:=bb) (Q:=λx=>ka b.1 x.2.1)).1 λj hj=>(g7 (gZ.1 b2).1).1 (alE j hj)
  ·exact(iA (d:=aZ) (Q:=λx=>ko b.1 b.2.1 x.1 x.2.1)).1 λj hj=>(M8 b2 b2').1 (b8 j hj)
  ·exact(iA (d:=aZ) (Q:=λx=>zM c b.2.1 x.1 x.2.1)).1 λj hj=>(M9 b2').1 (b9 j hj)
  ·exact(iA (d:=dT) (Q:=λx=>II c b.2.1 x)).1 λj hj=>⟨(qq b2' _).1 (b10 j hj).1,(b10 j hj).2⟩
 ·rintro⟨b1,b2,b2',alE,b3,b4,b5,b6,b7,b8,b9,b10,b11⟩
  refine⟨b1,⟨b2,b2',?_⟩,b3,b4,b5,b6,b7,?_,?_,?_,b11⟩
  ·exact λj hj=>(g7 (gZ.1 b2).1).2 ((iA (d:=bb) (Q:=λx=>ka b.1 x.2.1)).2 alE j hj)
  ·exact λj hj=>(M8 b2 b2').2 ((iA (d:=aZ) (Q:=λx=>ko b.1 b.2.1 x.1 x.2.1)).2 b8 j hj)
  ·exact λj hj=>(M9 b2').2 ((iA (d:=aZ) (Q:=λx=>zM c b.2.1 x.1 x.2.1)).2 b9 j hj)
  ·exact λj hj=>let h:=(iA (d:=dT) (Q:=λx=>II c b.2.1 x)).2 b10 j hj;⟨(qq b2' _).2 h.1,h.2⟩
theorem RB.Xr{c:ae}{b:an}(h:RB c b){m:aE}{a:aN}(hm:dN m=true)(ha:gO a=true)(mm: ∀n,ka b.1 n→ka m n)(aa: ∀n,ru b.2.1 n→ru a n)(ma: ∀x∈a,ka m x.2.1):
  RB c (m,(a,b.2.2)):=
 ⟨h.c,hm,ha,ma,h.r,h.t,h.s,h.o,h.n,λx hx=>⟨λe=>aa _ ((h.rk x hx).1 e),λe=>mm _ ((h.rk x hx).2 e)⟩,λx hx=>⟨(h.sk x hx).1.imp id (aa _),(h.sk x hx).2⟩,λx hx=>⟨aa _ (h.ok x hx).1,(h.ok x hx).2⟩,h.p⟩
theorem RB.Na{c:ae}{b:an}(h:RB c b){o:aY}(ho:dn o=true)(hk: ∀x∈o,II c b.2.1 x):RB c (b.1,(b.2.1,(b.2.2.1,(b.2.2.2.1,(b.2.2.2.2.1,(o,())))))):=
 ⟨h.c,h.m,h.a,h.ma,h.r,h.t,h.s,ho,h.n,h.rk,h.sk,hk,h.p⟩
theorem RB.aqC{c:ae}{b:an}(h:RB c b){s e s' r':au}(h1:eN Fq (fS b.2.2.2.1 s) jV=some s')(h2:eN aF (fS b.2.2.1 e) nN=some r')
  (gs: ∀x∈s,cg x.1 x.2.1∧zM c b.2.1 x.1 x.2.1) (flat: ∀i:Int,(dp i s).sum=0) (ge: ∀x∈e,de x.1 x.2.1∧ko b.1 b.2.1 x.1 x.2.1) (zero:(e.map dQ).sum=0):RB c (b.1,(b.2.1,(r',(s',b.2.2.2.2)))):=
 qI.1 (M7 (qI.2 h) h1 h2 (λx hx=>⟨(gs x hx).1,(M9 h.a).2 (gs x hx).2⟩) flat (λx hx=>⟨(ge x hx).1,(M8 h.m h.a).2 (ge x hx).2⟩) zero)
abbrev RBs(c:ae)(b b':an):Prop:=RB c b'∧b'.1=b.1∧b'.2.1=b.2.1∧b'.2.2.2.2=b.2.2.2.2
theorem RB.dE{c:ae}{b:an}(h:RB c b){s e:au}(gs: ∀x∈s,cg x.1 x.2.1∧zM c b.2.1 x.1 x.2.1)(flat: ∀i:Int,(dp i s).sum=0)
  (ge: ∀x∈e,de x.1 x.2.1∧ko b.1 b.2.1 x.1 x.2.1) (zero:(e.map dQ).sum=0) (h0:(VM.dE b s e).2=0):RBs c b (VM.dE b s e).1:=by
 rcases To b s e with⟨h1,_⟩|⟨s',r',h1,h2,h3⟩
 ·rw[h1]at h0;exact absurd h0 δ
 ·rw[h3];exact⟨h.aqC h1 h2 gs flat ge zero,rfl,rfl,rfl⟩
theorem Xs{l:au}(h:dk l=true): ∀x∈l,dQ x≠0:=by
 unfold dk at h
 rw[fc]at h
 exact(iA (d:=aZ) (Q:=λx=>dQ x≠0)).1 λj hj=>((bD h) j hj).2.1
end VM
end
section
namespace VM
open Go VM.F Go.RowKit
variable(N:Nat)
theorem aaJ{c:ae}{b:an}(hR:RB c b)(a:Int):mi c (posOf b.2.2.2.1 a)=true:=by
 have hk:=(ej (qI.2 hR)).2
 obtain⟨h1,h2⟩:=eZ hk
 have e:posOf b.2.2.2.1 a=nu a b.2.2.2.1:=by unfold posOf;rw[ak hk]
 rw[e]
 have hs:(nu a b.2.2.2.1).Pairwise (λx y:BT=>lG x.1 y.1):=uz.1 (Et (a:=a) h1)
 have hc:=(pz (R:=λx y:BT=>lG x.1 y.1) (d:=c7) (λ_ _ _=>DA) _).2 hs
 unfold mi
 refine df.2 ⟨aV λj hj=> ?_,hR.c⟩
 obtain⟨x,hx,_,e⟩:=nv (qH (d:=c7) hj)
 have hp:=hc j hj
 unfold oB
 rw[e]at hp ⊢
 exact⟨(h2 x hx).1.2.2.1,(hR.sk x hx).2,Xs hk x hx,(h2 x hx).2,λh0=>hp h0⟩
end VM
end
section
namespace VM
open Go VM.F
variable(N:Nat)
def gG(inst d:Int):au→au
 |[]=>[]
 |x::t=>if x.2.1=inst∧d≠0 then pq x.1 (dQ x*d)::gG inst d t else gG inst d t
theorem qt(inst d:Int)(x:dg)(t:au):gG inst d (x::t)=if x.2.1=inst∧d≠0 then pq x.1 (dQ x*d)::gG inst d t else gG inst d t:=rfl
theorem IJ(inst d:Int): ∀l:au,(gG inst d l).length≤l.length
 |[]=>aH _
 |x::t=>by
  have:=IJ inst d t
  rw[qt]
  split<;>simp only[aT]<;>omega
theorem IK(inst d:Int): ∀l:au,((gG inst d l).map dQ).sum=(if d≠0 then(dp inst l).sum*d else 0)
 |[]=>by simp[gG,dp]
 |x::t=>by
  have:=IK inst d t
  rw[qt,dB]
  by_cases hd:d≠0
  ·rw[ak hd]at this ⊢
   by_cases hx:x.2.1=inst
   ·rw[ak ⟨hx,hd⟩,ak hx,ca,cN,cN,gQ,this,pZ]
   ·rw[ag (λh=>hx h.1),ag hx,this]
  ·rw[ag hd]at this ⊢
   rw[ag (λh=>hd h.2),this]
theorem wC{inst d:Int}: ∀{l:au} {y:dg},y∈gG inst d l→ ∃x∈l,x.2.1=inst∧y=pq x.1 (dQ x*d)
 |[],y,h=>nomatch h
 |x::t,y,h=>by
  rw[qt]at h
  split at h
  ·rename_i hx
   rcases bh.1 h with e|h
   ·exact⟨x,bu ..,hx.1,e⟩
   ·obtain⟨z,h1,h2⟩:=wC h
    exact⟨z,ba _ h1,h2⟩
  ·obtain⟨z,h1,h2⟩:=wC h
   exact⟨z,ba _ h1,h2⟩
def pR(l:au)(inst oS new:Int):au×Int:=if dk l then(if c5 oS then(if c5 new then(gG inst (new-oS) l,0)else([],1))else([],1))else([],1)
theorem Qq{l:au}(hq:dU l)(hl:l.length≤100000)(hN:200000≤N)(inst:Int){oS new:Int}(ho:c5 oS)(hn:c5 new):
  EL.l5 N N inst oS new [] l (l.length:Int) 0=some ((gG inst (new-oS) l).map ik,0):=by
 have hp: -9223372036854775808≤new-oS∧new-oS<9223372036854775808:=by unfold c5 at ho hn;omega
 have:=ll l aZ (λn i s=>EL.l5 N n inst oS new (s.map ik) l (l.length:Int) i) (λt s=>some ((s++gG inst (new-oS) t).map ik,(0:Int))) (λi (s:au)=>s.length≤i) (λn i s hi hI hr=> ?_) (λn s hI=> ?_) l.length N 0 [] ω ω ω (aH _)
 ·have e:=this
  rw[cM,cD]at e
  exact e
 ·unfold EL.l5 EL.dV
  have kP:=vW hq i
  unfold aF dQ at kP
  rw[aQ ω,aj,aU ω ω,aj,aG,aw (x:=(i:Int)+1) ω ω,af i,aI,cond_not,aI,qt]
  by_cases hx:(l.getD i aZ).2.1=inst
  ·rw[ak hx]
   by_cases hd:new=oS
   ·rw[ak hd,ag (λh=>h.2 ω)]
    exact hr s ω
   ·rw[ag hd,ak ⟨hx,ω⟩,aw (x:=new-oS) hp.1 hp.2,Mn N kP.1 kP.2 hp.1 hp.2,ar,Dp,ar,bJ (by rw[cB,aJ];omega),aj]
    have h2:=hr (s++[pq (l.getD i aZ).1 ((l.getD i aZ).2.2.1*(new-oS))]) (by rw[aS,aJ];omega)
    rw[dr]at h2
    refine Eq.trans h2 ?_
    rw[bF];rfl
  ·rw[ag hx,ag (λh=>hx h.1)]
   exact hr s ω
 ·unfold EL.l5 EL.dV
  rw[aO ω,av,show gG inst (new-oS) []=[]from rfl,cA]
theorem Xt{l:au}(hq:dU l)(hl:l.length≤100000)(hN:200000≤N)(inst oS new:Int):
  EL N l inst oS new=some ((pR l inst oS new).1.map ik,(pR l inst oS new).2):=by
 unfold EL EL.b pR
 rw[xY N hl hN,ar,sH,ar,sH,ar,cond_not,cond_not,cond_not]
 cases dk l
 ·rfl
 ·by_cases ho:c5 oS
  ·by_cases hn:c5 new
   ·rw[aV ho,aV hn,ak ho,ak hn]
    exact Qq N hq hl hN inst ho hn
   ·rw[aV ho,bw hn,ak ho,ag hn];rfl
  ·rw[bw ho,ag ho];rfl
theorem Nb{x:Int}(h:aF x):Fit x 90000:=(Fit.i64 h.1 h.2).mono ω
theorem Qr{l:au}(hq:dU l)(hl:l.length≤100000)(hN:4000000≤N)(inst:Int){d:Int}(hd:aF d):
  kj.l6 N N l inst [] (cI d) 0=some ((gG inst d l).map gh,0):=by
 have:=ll l aZ (λn i s=>kj.l6 N n l inst (s.map gh) (cI d) i) (λt s=>some ((s++gG inst d t).map gh,(0:Int))) (λi (s:au)=>s.length≤i) (λn i s hi hI hr=> ?_) (λn s hI=> ?_) l.length N 0 [] ω ω ω (aH _)
 ·have e:=this
  rw[cM,cD]at e
  exact e
 ·unfold kj.l6 kj.uU
  have kP:=vW hq i
  have R1:=Nb kP
  have Sy:=Nb hd
  unfold aF dQ at kP
  unfold dQ at R1
  rw[aQ ω,aj,aU ω ω,aj,aG,aw (x:=(i:Int)+1) ω ω,af i,cond_not,aI,qt]
  by_cases hx:(l.getD i aZ).2.1=inst
  ·rw[ak hx,pM,ar,aI]
   by_cases h0:d=0
   ·rw[ak (jB.2 h0),ag (λh=>h.2 h0)]
    exact hr s ω
   ·rw[ag (λh=>h0 (jB.1 h)),ak ⟨hx,h0⟩,aj,y7 _ (dQ (l.getD i aZ)*d),ar,aj,dd N ω kP.1 kP.2,ar,sx N hN R1 Sy,ar,bJ (by rw[cB,aJ];omega),aj]
    have h2:=hr (s++[pq (l.getD i aZ).1 (dQ (l.getD i aZ)*d)]) (by rw[aS,aJ];omega)
    rw[dr]at h2
    have e1:[pq (l.getD i aZ).1 (dQ (l.getD i aZ)*d)].map gh=[((pq (l.getD i aZ).1 (dQ (l.getD i aZ)*d)).1,((pq (l.getD i aZ).1 (dQ (l.getD i aZ)*d)).2.1,(cI ((l.getD i aZ).2.2.1*d),())))]:=by
     rw[ca,gU];unfold gh;rw[gQ];rfl
    rw[e1]at h2
    refine Eq.trans h2 ?_
    rw[bF];rfl
  ·rw[ag hx,ag (λh=>hx h.1)]
   exact hr s ω
 ·unfold kj.l6 kj.uU
  rw[aO ω,av,show gG inst d []=[]from rfl,cA]
theorem Xu{l:au}(hq:dU l)(hl:l.length≤100000)(hN:4000000≤N)(inst oS new:Int):
  kj N l inst oS new=some ((pR l inst oS new).1.map gh,(pR l inst oS new).2):=by
 unfold kj kj.b pR
 rw[lS N hl ω,ar,sF,ar,sF,ar,cond_not,cond_not,cond_not]
 cases dk l
 ·rfl
 ·by_cases ho:c5 oS
  ·by_cases hn:c5 new
   ·have h1:=ho
    have h2:=hn
    unfold c5 at h1 h2
    rw[aV ho,aV hn,ak ho,ak hn,dd N ω ω ω,ar,dd N ω ω ω,ar,
     ra N hN ((Nb (x:=new) (by unfold aF;omega)).mono ω) ((Nb (x:=oS) (by unfold aF;omega)).mono ω),ar]
    exact Qr N hq hl hN inst (by unfold aF;omega)
   ·rw[aV ho,bw hn,ak ho,ag hn];rfl
  ·rw[bw ho,ag ho];rfl
theorem aqE{q x:Int}(h0:0≤x)(h1:x<9223372036854775808):aF (sg q x)∧ri (sg q x):=by
 unfold sg aF ri;split<;>omega
theorem aaK{t left:Int}{w out:List Int}(f:Full t w w out left)(i:Nat)(hi:i<w.length):0≤out.getD i 0∧out.getD i 0<9223372036854775808:=by
 have c:=f.c
 have h1:=c.le i hi
 have h2:=(c.pc i).2
 have h3:=c.po i
 omega
theorem Xv{a q:Int}{accs out:List Int}(hl:accs.length=out.length)(hle:out.length≤1000)(ho: ∀i,i<out.length→0≤out.getD i 0∧out.getD i 0<9223372036854775808)(s:au)(hs:s.length≤1000)(hN:200000≤N):
  gr.Xk N N a q accs out s 0=some (s++zc a q (out.zip accs),0):=by
 have hz:(out.zip accs).length=out.length:=by rw[xl];omega
 have:=ll (out.zip accs) (0,0) (λn i s=>gr.Xk N n a q accs out s i) (λt s=>some (s++zc a q t,(0:Int))) (λi (s:au)=>s.length≤1000+i) (λn i s hi hI hr=> ?_) (λn s hI=> ?_) out.length N 0 s ω ω ω ω
 ·exact this
 ·unfold gr.Xk gr.aaB
  have oj:i<out.length:=ω
  have h2:=ho i oj
  rw[aQ ω,aj,aU ω ω,aj,aG,aU ω ω,aj,aw (x:=(i:Int)+1) ω ω,af i,aw (x:=0-out.getD i 0) ω ω,Z5 oj ω,FZ]
  dsimp only
  rw[aj,bJ (by rw[aJ];omega),aj,bJ (by rw[aJ];omega),aj]
  have e:sg q (out.getD i 0)=if q<0 then 0-out.getD i 0 else out.getD i 0:=rfl
  rw[cf,cond_not,cond_not,aI,aI]
  have fin:(if sg q (out.getD i 0)=0 then gr.Xk N n a q accs out s ((i+1:Nat):Int)else gr.Xk N n a q accs out (s++[(accs.getD i 0,(a,(sg q (out.getD i 0),())))]) ((i+1:Nat):Int))=some (s++(if sg q (out.getD i 0)=0 then zc a q ((out.zip accs).drop (i+1))else(accs.getD i 0,(a,(sg q (out.getD i 0),())))::zc a q ((out.zip accs).drop (i+1))),(0:Int)):=by
   by_cases h:sg q (out.getD i 0)=0
   ·rw[ak h,ak h];exact hr s ω
   ·rw[ag h,ag h,hr _ (by rw[aS,aJ];omega),bF];rfl
  refine Eq.trans ?_ fin
  by_cases h:q<0
  ·rw[ak h,e,ak h]
  ·rw[ag h,e,ag h]
 ·unfold gr.Xk gr.aaB
  rw[hz,aO ω,av]
  show _=some (s++[],(0:Int))
  rw[cA]
theorem Vf{l:au}(h: ∀x∈l,aF (dQ x)∧ri (dQ x))(a b:Int):aF (gm l a b)∧ri (gm l a b):=by
 have key: ∀l:au,(∀x∈l,aF (dQ x)∧ri (dQ x))→aF (ix a b l)∧ri (ix a b l):=by
  intro l
  induction l with
  |nil=>intro _;show aF 0∧ri 0;decide
  |cons x t ih=>
   intro h
   have ih:=ih (λy hy=>h y (ba _ hy))
   rw[jW]
   split
   ·split
    ·exact h x (bu ..)
    ·exact ih
   ·exact ih
 unfold gm
 split
 ·exact key l h
 ·decide
theorem Nc(l:au):(zK l).length=l.length:=cB ..
theorem Co(l:au):(jX l).length=l.length:=cB ..
theorem Lo{q:Int}(h:aF q∧ri q):(q.natAbs:Int)<9223372036854775808:=by unfold aF ri at h;omega
theorem Nd{l:au}(hk:dk l=true)(hq:dU l): ∀x∈l,aF (dQ x)∧ri (dQ x):=λx hx=>⟨hq x hx,((eZ hk).2 x hx).2⟩
theorem Lp{l:au}(hk:dk l=true)(hq:dU l){a q:Int}(kP:aF q∧ri q)(hc:(kL l a q).2.2=0):
  Full (q.natAbs:Int) (jX (gD a q l)) (jX (gD a q l)) (kL l a q).1 (kL l a q).2.1∧(kL l a q).1.length=(gD a q l).length∧(kL l a q).1.length≤64∧ ∀i,i<(kL l a q).1.length→0≤(kL l a q).1.getD i 0∧(kL l a q).1.getD i 0<9223372036854775808:=by
 have f:Full (q.natAbs:Int) (jX (gD a q l)) (jX (gD a q l)) (kL l a q).1 (kL l a q).2.1:=Ik (Lo kP) (Ds (Nd hk hq) a q) hc
 have h1:=f.c.l2
 have h2:=f.c.n
 rw[Co]at h1 h2
 exact⟨f,h1,ω,λi hi=>aaK f i (by rw[Co];omega)⟩
theorem aaL{l:au}(h:dk l=true): ∀x∈l,dQ x≠0:=λx hx=>by
 unfold dk at h
 rw[fc]at h
 obtain⟨i,hi,e⟩:=gL hx
 have:=bD h i hi
 unfold mM np at this
 rw[aW,bm hi]at this
 simp only[n7,e]at this
 exact this.2.1
theorem aaM{x:Int}(h:aF x∧ri x):mx x (W .i64 (0-x))=(x.natAbs:Int):=by
 unfold aF ri at h
 rw[aw ω ω,aiE];split<;>omega
theorem Qs{x q:Int}(hx:x≠0)(hq:q≠0):J0 x q↔ ¬((0<x)↔(0<q)):=by
 unfold J0;omega
theorem aaN(hN:5000000≤N)(c:ae){b:an}(w:jC b)(a:Int):gr N c b a=some (wv c b a):=by
 unfold gr gr.b wv
 rw[qa N ω w,ar,FY N w.s ω,ar,cond_not,cf,cz,aI]
 by_cases hB:dh c b=false
 ·rw[hB];rfl
 rw[rR]at hB
 rw[hB,aj,ak rfl]
 obtain⟨_,hk⟩:=ej hB
 have hq:=Nd hk w.qs
 have hnz:=aaL hk
 have hh:=Vf hq 0 a
 have hlen:=w.s
 have hqs:=w.qs
 generalize gm b.2.2.2.1 0 a=q at*
 by_cases h1:a<0
 ·rw[ak h1,ak h1]
 rw[ag h1,ag h1]
 by_cases h2:(c.1.length:Int)≤a
 ·rw[ak h2,ak h2]
 rw[ag h2,ag h2]
 by_cases h3:q=0
 ·rw[ak h3,ak h3]
 rw[ag h3,ag h3]
 have oR:=hh.1
 unfold aF at oR
 have hqn:q≠ -9223372036854775808:=hh.2
 have:=ll b.2.2.2.1 aZ (λn i (z:au)=>gr.An N n a b q (zK z) (jX z) i)
  (λt z=>some (if(kL b.2.2.2.1 a q).2.2=0 then(adm b.2.2.2.1 a q,0)else([],(kL b.2.2.2.1 a q).2.2))) (λi z=>z++gD a q (b.2.2.2.1.drop i)=gD a q b.2.2.2.1∧z.length≤i)
  (λn i z hi hI hr=> ?_) (λn z hI=> ?_) b.2.2.2.1.length N 0 [] ω ω ω ⟨rfl,aH _⟩
 ·exact this
 ·unfold gr.An gr.yg
  obtain⟨i1,i2⟩:=hI
  have hm:b.2.2.2.1.getD i aZ∈b.2.2.2.1:=by
   rw[aW,bm hi];exact dG hi
  have hx:=hq _ hm
  have hn:=hnz _ hm
  rw[drop_cons hi aZ,sL]at i1
  rw[aQ ω,aj,aU ω ω,aj,aG,aw (x:=(i:Int)+1) ω ω,af i]
  generalize b.2.2.2.1.getD i aZ=x at*
  have NB:mx x.2.2.1 (W .i64 (0-x.2.2.1))=(x.2.2.1.natAbs:Int):=aaM hx
  rw[bJ (by rw[Nc,aJ];omega),aj,NB]
  dsimp only
  rw[bJ (by rw[Co,aJ];omega),aj,cond_not,aI,aI,cond_not,mI,qv,qv]
  by_cases e1:x.1=0
  ·rw[ak e1]
   rw[ag (λh=>h.1 e1)]at i1
   exact hr z ⟨i1,ω⟩
  ·rw[ag e1]
   by_cases e2:x.2.1=a
   ·rw[ak e2]
    by_cases e3:J0 (dQ x) q
    ·have eb:(decide (0<x.2.2.1)==decide (0<q))=false:=by
      have e3:=(Qs hn h3).1 e3
      unfold dQ at e3
      by_cases g1:0<x.2.2.1<;>by_cases g2:0<q
      ·exact absurd ⟨λ_=>g2,λ_=>g1⟩ e3
      ·rw[aV g1,bw g2];rfl
      ·rw[bw g1,aV g2];rfl
      ·exact absurd ⟨λh=>absurd h g1,λh=>absurd h g2⟩ e3
     rw[eb,av]
     rw[ak ⟨e1,e2,e3⟩]at i1
     have:=hr (z++[x]) ⟨by rw[bF];exact i1,by rw[aS,aJ];omega⟩
     unfold zK jX at this
     rw[dr,dr]at this
     exact this
    ·have eb:(decide (0<x.2.2.1)==decide (0<q))=true:=by
      have e3:=Gu.1 (λh=>e3 ((Qs hn h3).2 h))
      unfold dQ at e3
      rw[show decide (0<x.2.2.1)=decide (0<q)from oc.2 e3]
      exact uA _
     rw[eb,aj]
     rw[ag (λh=>e3 h.2.2)]at i1
     exact hr z ⟨i1,ω⟩
   ·rw[ag e2]
    rw[ag (λh=>e2 h.2.1)]at i1
    exact hr z ⟨i1,ω⟩
 ·unfold gr.An gr.yg
  obtain⟨i1,i2⟩:=hI
  rw[m0]at i1
  have ez:z=gD a q b.2.2.2.1:=by rw[←i1];exact(cA _).symm
  subst ez
  have qR:=Co (gD a q b.2.2.2.1)
  have zC:=K7 a q b.2.2.2.1
  rw[aO ω,av,aaM hh,Ij N hN (Lo hh) (Ds hq a q) (Ds hq a q) (by rw[qR];omega),ar,cond_not,aI,aw (x:=0-q) ω ω]
  show(if(kL b.2.2.2.1 a q).2.2=0 then _ else _)=_
  by_cases h4:(kL b.2.2.2.1 a q).2.2=0
  ·rw[ak h4,ak h4]
   obtain⟨f,g1,g2,g3⟩:=Lp hk hqs hh h4
   exact Xv N (by rw[Nc];omega) ω g3 _ (by simp) ω
  ·rw[ag h4,ag h4];rfl
end VM
end
section
namespace VM
open Go VM.F Go.RowKit
variable(N:Nat)
structure zN(s:au)(n:Nat):Prop where
 place: ∀x∈s,cg x.1 x.2.1
 q: ∀x∈s,aF (dQ x)∧ri (dQ x)
 len:s.length≤n
 flat: ∀i:Int,(dp i s).sum=0
theorem zN.nil(n:Nat):zN [] n:=⟨λx hx=>(nomatch hx),λx hx=>(nomatch hx),bs _,λi=>rfl⟩
theorem zN.app{s t:au}{n m k:Nat}(a:zN s n)(b:zN t m)(h:n+m≤k):zN (s++t) k:=
 ⟨λx hx=>(bn.1 hx).elim (a.place x) (b.place x),λx hx=>(bn.1 hx).elim (a.q x) (b.q x),by rw[aS];have:=a.len;have:=b.len;omega,λi=>by rw[JZ,oa,a.flat,b.flat];rfl⟩
theorem Ts(a q i:Int): ∀t:List (Int×Int),(dp i (zc a q t)).sum=if a=i then sg q (t.map (·.1)).sum else 0
 |[]=>by
  show(0:Int)=if a=i then sg q 0 else 0
  unfold sg;split<;>(try split)<;>rfl
 |p::t=>by
  have ih:=Ts a q i t
  have hs:sg q ((p::t).map (·.1)).sum=sg q p.1+sg q (t.map (·.1)).sum:=by
   rw[ca,cN];unfold sg;split<;>omega
  rw[FZ,hs]
  by_cases h:sg q p.1=0
  ·rw[ak h,ih,h];split<;>omega
  ·rw[ag h,dB]
   dsimp only
   by_cases e:a=i
   ·rw[ak e,ak e,cN,ih,ak e];rfl
   ·rw[ag e,ag e,ih,ag e]
theorem Nf{a q:Int}{x:dg}: ∀{t:List (Int×Int)},x∈zc a q t→ ∃p∈t,x=(p.2,(a,(sg q p.1,())))
 |[],h=>nomatch h
 |p::t,h=>by
  rw[FZ]at h
  split at h
  ·obtain⟨p',hp,e⟩:=Nf h
   exact⟨p',ba _ hp,e⟩
  ·rcases bh.1 h with e|h
   ·exact⟨p,bu ..,e⟩
   ·obtain⟨p',hp,e⟩:=Nf h
    exact⟨p',ba _ hp,e⟩
theorem aaO(a q:Int): ∀t:List (Int×Int),(zc a q t).length≤t.length
 |[]=>aH _
 |p::t=>by
  have:=aaO a q t
  rw[FZ,aT]
  split
  ·omega
  ·rw[aT];omega
theorem EM{c:ae}{b:an}(h:dh c b=true):oy b.2.2.2.1=true∧eS c=true:=by
 unfold dh at h
 have h0:=df.1 h
 have h1:=(df.1 h0.2).2
 have h2:=df.1 h1
 exact⟨(df.1 (df.1 h2.2).2).1,h0.1⟩
theorem aaP{c:ae}{b:an}(hB:dh c b=true)(w:jC b){a:Int}(h:(wv c b a).2=0):zN (wv c b a).1 65:=by
 obtain⟨_,hk⟩:=ej hB
 obtain⟨hf,zC⟩:=EM hB
 have hq:=Nd hk w.qs
 have hh:=Vf hq 0 a
 obtain⟨hs,Jk⟩:=eZ hk
 unfold wv at h ⊢
 rw[ak hB]at h ⊢
 by_cases h1:a<0
 ·rw[ak h1];exact zN.nil _
 rw[ag h1]at h ⊢
 by_cases h2:(c.1.length:Int)≤a
 ·rw[ak h2];exact zN.nil _
 rw[ag h2]at h ⊢
 by_cases h3:gm b.2.2.2.1 0 a=0
 ·rw[ak h3];exact zN.nil _
 rw[ag h3]at h ⊢
 by_cases h4:(kL b.2.2.2.1 a (gm b.2.2.2.1 0 a)).2.2=0
 ·rw[ak h4]
  have alF:ix 0 a b.2.2.2.1=gm b.2.2.2.1 0 a:=by unfold gm;rw[hk];rfl
  have hn6:a<6:=by
   unfold eS at zC
   have:=(bD (df.1 zC).1).2
   omega
  have hz:(dp a b.2.2.2.1).sum=0:=by
   unfold oy at hf
   have Uy:=bD (df.1 hf).1 a.toNat (by unfold kv;omega)
   unfold sC dI rj at Uy
   rw[hk,ak rfl,show((a.toNat:Nat):Int)=a by omega]at Uy
   exact Uy
  generalize gm b.2.2.2.1 0 a=q at*
  obtain⟨f,g1,g2,g3⟩:=Lp hk w.qs hh h4
  have aqF:=Z4 f (S9 hs hz alF h3)
  have JX:=f.c.s
  rw[aqF,jo]at JX
  have hzl:((kL b.2.2.2.1 a q).1.zip (zK (gD a q b.2.2.2.1))).map (·.1)=(kL b.2.2.2.1 a q).1:=List.map_fst_zip (by rw[Nc];omega)
  have hsg:sg q (q.natAbs:Int)=q:=by unfold sg;split<;>omega
  have hzz: ∀x∈zc a q ((kL b.2.2.2.1 a q).1.zip (zK (gD a q b.2.2.2.1))),cg x.1 x.2.1∧aF (dQ x)∧ri (dQ x):=λx hx=>by
   obtain⟨p,hp,rfl⟩:=Nf hx
   obtain⟨i,hi,e⟩:=gL hp
   rw[xl]at hi
   have e':=Z5 (out:=(kL b.2.2.2.1 a q).1) (accs:=zK (gD a q b.2.2.2.1)) (i:=i) ω ω
   rw[aW,bm (by rw[xl];omega)]at e'
   have ep:p=_:=e.symm.trans e'
   have hr:=g3 i ω
   rw[ep]
   refine⟨?_,aqE hr.1 hr.2⟩
   have hm:(zK (gD a q b.2.2.2.1)).getD i 0∈zK (gD a q b.2.2.2.1):=by
    rw[aW,bm ω];exact dG _
   obtain⟨y,hy,ey⟩:=cY.1 hm
   have Ul:=ve hy
   have hpy:=(Jk y Ul.1).1
   have g: ∀u v z:Int,cg u v→v=a→u=z→cg z a:=λu v z h e1 e2=>by rw[←e1,←e2];exact h
   exact g _ _ _ hpy Ul.2.2 ey
  refine⟨λx hx=> ?_,λx hx=> ?_,?_,λi=> ?_⟩
  ·rcases bh.1 hx with e|hx
   ·rw[e];show cg 0 a;unfold cg;omega
   ·exact(hzz x hx).1
  ·rcases bh.1 hx with e|hx
   ·rw[e];exact ali hh
   ·exact(hzz x hx).2
  ·unfold adm
   rw[aT]
   have:=aaO a q ((kL b.2.2.2.1 a q).1.zip (zK (gD a q b.2.2.2.1)))
   rw[xl]at this
   omega
  ·unfold adm
   rw[dB]
   dsimp only
   by_cases e:a=i
   ·rw[ak e,cN,Ts,ak e,hzl,JX,hsg]
    show 0-q+q=0
    omega
   ·rw[ag e,Ts,ag e]
 ·rw[ag h4]at h
  exact absurd h h4
namespace Pure
end Pure
end VM
end
