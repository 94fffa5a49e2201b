/- A part of the proof of BookTurned of layer 18: what the functions compute, in plain words. -/
import Derived.Test.YthkjjlcblhbifaaGreatPlain5
set_option linter.all false
section
namespace VM
open Go VM.F
variable(N:Nat)
theorem fO{α:Type}{r:α}:Ok (λ_=>True) (some r):=aq trivial
theorem W5(k:Int):Ok (λs=>ByteArray.size s≤100) (adD N k):=by
 unfold adD
 repeat' first|refine ok_eq (λ_=> ?_) (λ_=> ?_)|exact aq δ
theorem W6(k f:Int):Ok (λ_=>True) (adE N k f):=by
 unfold adE als alu
 repeat' first|refine ok_eq (λ_=> ?_) (λ_=> ?_)|exact fO|refine ah (Q:=λ_=>True) ?_ λ_ _=>fO
theorem aak(e:iE)(f:Int):Ok (λ_=>True) (adF N e f):=by
 unfold adF
 repeat' first|refine ok_eq (λ_=> ?_) (λ_=> ?_)|exact fO
theorem aal(e:iE)(f x:Int):Ok (λ_=>True) (adG N e f x):=by
 unfold adG
 repeat' first|refine ok_eq (λ_=> ?_) (λ_=> ?_)|exact fO
theorem Lf(hN:1000≤N)(e:iE):Ok (λ_=>True) (sN N e):=by
 unfold sN sN.b alv
 refine ah (Q:=λ_=>True) (eR (λ_=>fO) λ_=>fO) λ_ _=>bI (λ_=>fO) λ_=>ah (W5 N _) λs hs=> ?_
 refine bt (len:=ByteArray.size s) (F:=λn i (x:iE)=>sN.l6 N n e s x i) (λ_ _=>True) trivial ω (λn i x hi _ hr=> ?_) (λn x _=> ?_)
 all_goals unfold sN.l6 sN.uU
 ·rw[aw (x:=(i:Int)+1) ω ω,af i]
  exact ax (λ_=>aB ⟨ω,ω⟩ (ah (W6 N _ _) λ_ _=>aB ⟨ω,ω⟩ (ah (aak N _ _) λ_ _=>ax (λ_=>fO) λ_=>ax (λ_=>fO) λ_=>aB ⟨ω,ω⟩ (ah (aal N _ _ _) λy _=>hr y trivial)))) λ_=>ω
 ·exact ax (λ_=>ω) λ_=>fO
theorem G.ins{m:Nat}{e:Ty}{l:List e.den}{x:e.den}(h:G m (.slice e) l)(hx:G m e x)(a b c:Nat)(ha:c≤a):G (m+1) (.slice e) ((([]++List.drop b (List.take c l))++[x])++List.drop a (List.take l.length l)):=by
 have:=h.1
 refine⟨?_,λy hy=> ?_⟩
 ·simp only[cD,aS,ec,cj,aJ];omega
 ·rw[cD,bF]at hy
  rcases bn.1 hy with hy|hy
  ·exact G.mono ω (h.2 y (lI (mV hy)))
  ·rcases bn.1 hy with hy|hy
   ·rw[cy.1 hy];exact G.mono ω hx
   ·exact G.mono ω (h.2 y (lI (mV hy)))
theorem MS{α:Type}{P:List α×Int→Prop}{l:List α}{x:α}{k:Nat}{e:Int}(hk:k≤l.length)(hl:l.length≤1000000)(h:P ((([]++List.drop (0:Int).toNat (List.take (k:Int).toNat l))++[x])++List.drop (k:Int).toNat (List.take (l.length:Int).toNat l),e)):
  Ok P (cond (jc 0 (k:Int) (l.length:Int) (l.length:Int)) (let v6:List α:=List.drop (0:Int).toNat (List.take (k:Int).toNat l);cond (small (([]:List α).length+v6.length)) (let v7:List α:=[]++v6;cond (small (v7.length+[x].length)) (let v8:List α:=v7++[x];cond (jc (k:Int) (l.length:Int) (l.length:Int) (l.length:Int)) (let v9:List α:=List.drop (k:Int).toNat (List.take (l.length:Int).toNat l);cond (small (v8.length+v9.length)) (some ((v8++v9),e)) none) none) none) none) none):=by
 dsimp only
 have t: ∀a b:Nat,(List.drop a (List.take b l)).length≤l.length:=λa b=>by rw[ec,cj];omega
 have t1:=t (0:Int).toNat (k:Int).toNat
 have t2:=t (k:Int).toNat (l.length:Int).toNat
 refine Ak ⟨ω,ω,ω,ω⟩ (aC (by rw[bZ];omega) (aC ?_ (Ak ⟨ω,ω,ω,ω⟩ (aC ?_ (aq h)))))
 ·rw[cD,aJ];omega
 ·rw[cD,aS,aJ];omega
theorem aam(hN:200000≤N){a:aE}{m:Nat}(hm:m≤50000)(h:G m (.slice kM) a){id:Int}(bl:aF id):Ok (λr=>G (m+1) (.slice kM) r.1) (iZ N a id):=by
 have hl:=h.1
 unfold iZ iZ.b
 refine bV (nI N ω hN) (bI (λ_=>aq G.nil) λ_=>ax (λ_=>aq G.nil) λ_=>ax (λ_=>aq G.nil) λ_=>bV (iW N ω hN id) (bM (λ_=>aq G.nil) λ_=> ?_))
 have fin: ∀k:Nat,k≤a.length→Ok (λr=>G (m+1) (.slice kM) r.1) (iZ.j9 N a id [] (k:Int)):=λk hk=>by
  unfold iZ.j9 iZ.Pe
  have hx:G m kM (id,((1:Int),())):=⟨bl,(show aF 1 from bz),trivial⟩
  exact MS hk ω (by simpa using G.ins h hx k 0 k (aH _))
 refine m8 (len:=a.length) (F:=λn i=>iZ.l7 N n a id [] i) ω (λn i hi hr=> ?_) (λn=> ?_)
 all_goals unfold iZ.l7 iZ.nR
 ·rw[aw (x:=(i:Int)+1) ω ω,af i]
  exact ax (λ_=>aB ⟨ω,ω⟩ (ax (λ_=>hr) λ_=>fin i ω)) λ_=>ω
 ·exact ax (λ_=>ω) λ_=>fin _ (aH _)
theorem G4q{m:Nat}{x:cO}{q:Int}(h:G m ff x)(hq:aF q):G m ff (x.1,(x.2.1,(x.2.2.1,(q,x.2.2.2.2)))):=⟨h.1,h.2.1,h.2.2.1,hq,trivial⟩
theorem G4b{m:Nat}{x:cO}{q:Int}(h:G m ff x)(hq:aF q):G m ff (x.1,(q,x.2.2)):=⟨h.1,hq,h.2.2⟩
theorem G2b{m:Nat}{x:BT}{q:Int}(h:G m kM x)(hq:aF q):G m kM (x.1,(q,x.2.2)):=⟨h.1,hq,trivial⟩
theorem MT(hN:200000≤N){l:aN}(hl:l.length≤100000):Ok (λ_=>True) (m4 N l):=nK (sA N hl hN) trivial
theorem adH(hN:200000≤N){a:aE}{l:aN}{x:cO}{m:Nat}(hm:m≤50000)(ha:G m (.slice kM) a)(h:G m (.slice ff) l)(hx:G 0 ff x):Ok (λr=>G (m+1) (.slice ff) r.1) (fU N a l x):=by
 have h1:=ha.1
 have hl:=h.1
 have fin: ∀k:Nat,k≤l.length→Ok (λr=>G (m+1) (.slice ff) r.1) (fU.Dt N l x [] (k:Int)):=λk hk=>by
  unfold fU.Dt fU.w3
  exact MS hk ω (by simpa using G.ins h (G.mono (bs m) hx) k 0 k (aH _))
 have hj:Ok (λr=>G (m+1) (.slice ff) r.1) (fU.Lg N l x):=by
  unfold fU.Lg fU.Du
  refine m8 (len:=l.length) (F:=λn i=>fU.mw N n l x [] i) ω (λn i hi hr=> ?_) (λn=> ?_)
  all_goals unfold fU.mw fU.lq
  ·rw[aw (x:=(i:Int)+1) ω ω,af i]
   exact ax (λ_=>aB ⟨ω,ω⟩ (ax (λ_=>hr) λ_=>fin i ω)) λ_=>ω
  ·exact ax (λ_=>ω) λ_=>fin _ (aH _)
 unfold fU fU.b
 exact bV (yb N ω ω hN) (bI (λ_=>aq G.nil) λ_=>ah (MT N hN (by rw[aJ];omega)) λ_ _=>bI (λ_=>aq G.nil) λ_=>bV (iW N ω hN _) (ok_eq (λ_=>aq G.nil) λ_=>bM (λ_=>aq G.nil) λ_=>bV (sy N ω hN _) (qc (λ_=>aq G.nil) λ_=>ok_eq (λ_=>bV (rJ N ω hN _) (bM (λ_=>aq G.nil) λ_=>hj)) λ_=>hj)))
theorem aan(hN:200000≤N){l:aN}{m:Nat}(hm:m≤50000)(h:G m (.slice ff) l){id q:Int}(hq:aF q):Ok (λr=>G m (.slice ff) r.1) (oK N l id q):=by
 have hl:=h.1
 unfold oK oK.b
 refine ah (MT N hN ω) λ_ _=>bI (λ_=>aq G.nil) λ_=>ax (λ_=>aq G.nil) λ_=>ax (λ_=>aq G.nil) λ_=>bV (sy N ω hN _) (bI (λ_=>aq G.nil) λ_=>aC (by rw[bZ];omega) ?_)
 rw[cD]
 refine bt (len:=l.length) (F:=λn i s=>oK.l8 N n id q s i) (λ_ s=>s.length=l.length∧G m (.slice ff) s) ⟨rfl,h⟩ ω (λn i s hi hI hr=> ?_) (λn s hI=> ?_)
 all_goals unfold oK.l8 oK.Ej
 ·rw[aw (x:=(i:Int)+1) ω ω,af i]
  have hs:=hI.1
  have hx:=G.at hI.2 (i:Int).toNat
  exact ax (λ_=>aB ⟨ω,ω⟩ (ok_eq (λ_=>aB ⟨ω,ω⟩ (hr _ ⟨by rw[bU];exact hs,G.set hI.2 (G4q hx hq) _⟩)) λ_=>hr s hI)) λ_=>ω
 ·have hs:=hI.1
  exact ax (λ_=>ω) λ_=>aq hI.2
theorem aao(a b:Int):Ok (λr=>aF r.1) (W7 N a b):=by
 have h: ∀(x:Int) (t:Bool),0≤x∧x<5→Ok (λr:Int×Bool=>aF r.1) (some (x,t)):=λx t hx=>aq (Tf hx δ)
 unfold W7
 repeat' first|refine ok_eq (λ_=> ?_) (λ_=> ?_)|exact h _ _ δ
theorem MU(hN:200000≤N){l:aE}{m:Nat}(hm:m≤50000)(h:G m (.slice kM) l)(id k:Int):Ok (λr=>G m (.slice kM) r.1) (mR N l id k):=by
 have hl:=h.1
 unfold mR mR.b
 refine bV (nI N ω hN) (bI (λ_=>aq G.nil) λ_=>bV (iW N ω hN _) (ok_eq (λ_=>aq G.nil) λ_=>ah (aao N _ _) λz hz=>bI (λ_=>aq G.nil) λ_=>aC (by rw[bZ];omega) ?_))
 rw[cD]
 refine bt (len:=l.length) (F:=λn i s=>mR.An N n id z.1 s i) (λ_ s=>s.length=l.length∧G m (.slice kM) s) ⟨rfl,h⟩ ω (λn i s hi hI hr=> ?_) (λn s hI=> ?_)
 all_goals unfold mR.An mR.yg
 ·rw[aw (x:=(i:Int)+1) ω ω,af i]
  have hs:=hI.1
  have hx:=G.at hI.2 (i:Int).toNat
  exact ax (λ_=>aB ⟨ω,ω⟩ (ok_eq (λ_=>aB ⟨ω,ω⟩ (hr _ ⟨by rw[bU];exact hs,G.set hI.2 (G2b hx hz) _⟩)) λ_=>hr s hI)) λ_=>ω
 ·have hs:=hI.1
  exact ax (λ_=>ω) λ_=>aq hI.2
theorem Th(hN:200000≤N){a:aE}{l:aN}{m:Nat}(hm:m≤50000)(ha:G m (.slice kM) a)(h:G m (.slice ff) l){id to:Int}(hto:aF to):Ok (λr=>G m (.slice ff) r.1) (oL N a l id to):=by
 have h1:=ha.1
 have hl:=h.1
 unfold oL oL.b
 refine bV (yb N ω ω hN) (bI (λ_=>aq G.nil) λ_=>bV (sy N ω hN _) (bV (iW N ω hN _) (bI (λ_=>aq G.nil) λ_=>ok_eq (λ_=>aq G.nil) λ_=>bM (λ_=>aq G.nil) λ_=>bM (λ_=>aq G.nil) λ_=>aC (by rw[bZ];omega) ?_)))
 rw[cD]
 refine bt (len:=l.length) (F:=λn i s=>oL.mw N n id to s i) (λ_ s=>s.length=l.length∧G m (.slice ff) s) ⟨rfl,h⟩ ω (λn i s hi hI hr=> ?_) (λn s hI=> ?_)
 all_goals unfold oL.mw oL.lq
 ·rw[aw (x:=(i:Int)+1) ω ω,af i]
  have hs:=hI.1
  have hx:=G.at hI.2 (i:Int).toNat
  exact ax (λ_=>aB ⟨ω,ω⟩ (ok_eq (λ_=>aB ⟨ω,ω⟩ (hr _ ⟨by rw[bU];exact hs,G.set hI.2 (G4b hx hto) _⟩)) λ_=>hr s hI)) λ_=>ω
 ·have hs:=hI.1
  exact ax (λ_=>ω) λ_=>aq hI.2
theorem P9(hN:200000≤N){l:aN}{m:Nat}(hm:m≤50000)(h:G m (.slice ff) l)(id:Int):Ok (λr=>r.length≤m) (mS N l id):=by
 have hl:=h.1
 unfold mS mS.b
 refine ah (MT N hN ω) λ_ _=>bI (λ_=>aq (bs _)) λ_=>bt (len:=l.length) (F:=λn i s=>mS.l5 N n l id s i) (λi s=>s.length≤i) (bs _) ω (λn i s hi hI hr=> ?_) (λn s hI=> ?_)
 all_goals unfold mS.l5 mS.dV
 ·rw[aw (x:=(i:Int)+1) ω ω,af i]
  exact ax (λ_=>aB ⟨ω,ω⟩ (ok_eq (λ_=>aB ⟨ω,ω⟩ (aC (by rw[aJ];omega) (hr _ (by rw[aS,aJ];omega)))) λ_=>hr s ω)) λ_=>ω
 ·exact ax (λ_=>ω) λ_=>aq ω
abbrev L6(m:Nat)(l:aY):Prop:=G m (.slice nw) l
theorem aap(hN:200000≤N){l:aY}{a:List Int}{m:Nat}(hm:m≤50000)(h:L6 m l)(ha:a.length≤m):Ok (λr=>L6 m r) (eV N l a):=by
 have hl:=h.1
 unfold eV eV.b
 refine bV (ij N ω hN) (bI (λ_=>aq G.nil) λ_=>bt (len:=l.length) (F:=λn i s=>eV.l5 N n l a s i) (λi s=>L6 i s) G.nil ω (λn i s hi hI hr=> ?_) (λn s hI=> ?_))
 all_goals unfold eV.l5 eV.dV
 ·have hs:=hI.1
  refine ax (λ_=> ?_) λ_=>ω
  refine bt (len:=a.length) (F:=λn' j b=>eV.l9 N (eV.l5 N n) n' l a s (i:Int) b j) (λ_ _=>True) trivial ω (λn' j b hj _ ed=> ?_) (λn' b _=> ?_)
  all_goals unfold eV.l9 eV.uX
  ·rw[aw (x:=(j:Int)+1) ω ω,af j]
   exact ax (λ_=>qc (λ_=>ed _ trivial) λ_=>aB ⟨ω,ω⟩ (aB ⟨ω,ω⟩ (ed _ trivial))) λ_=>ω
  ·rw[aw (x:=(i:Int)+1) ω ω,af i]
   have hx:G 0 nw (l.getD (i:Int).toNat dT):=G.at h _
   exact ax (λ_=>ω) λ_=>bI (λ_=>aB ⟨ω,ω⟩ (aC (by rw[aJ];omega) (hr _ (G.cat hI (G.one hx (aH 1)))))) λ_=>hr s (G.mono ω hI)
 ·exact ax (λ_=>ω) λ_=>aq (G.mono hl hI)
theorem Qa(hN:5000000≤N)(c:ae){b:an}{m:Nat}(hm:m≤50000)(hb:G m aK b)(id:Int):Ok (λr=>G m aK r.1) (X0 N c b id):=by
 unfold X0
 exact bV (eo N hN hm hb) (bI (λ_=>aq G.jH) λ_=>ah (px N ω hm hb.1 _) λ_ _=>ok_eq (λ_=>aq G.jH) λ_=>ah (P9 N ω hm hb.2.1 _) λa ha=>ah (aap N ω hm hb.2.2.2.2.2.1 ha) λr hr=>aq ⟨hb.1,hb.2.1,hb.2.2.1,hb.2.2.2.1,hb.2.2.2.2.1,hr,trivial⟩)
theorem EJ(hN:200000≤N){l:aN}{m:Nat}(hm:m≤50000)(h:G m (.slice ff) l)(id:Int):Ok (λr=>G m (.slice ff) r) (qn N l id):=by
 have hl:=h.1
 unfold qn qn.b
 refine bV (u7 N ω hN) (bI (λ_=>aq G.nil) λ_=>bt (len:=l.length) (F:=λn i s=>qn.l5 N n l id s i) (λi s=>G i (.slice ff) s) G.nil ω (λn i s hi hI hr=> ?_) (λn s hI=> ?_))
 all_goals unfold qn.l5 qn.dV
 ·have hs:=hI.1
  have hx:G 0 ff (l.getD (i:Int).toNat bb):=G.at h _
  rw[aw (x:=(i:Int)+1) ω ω,af i]
  exact ax (λ_=>aB ⟨ω,ω⟩ (bM (λ_=>aB ⟨ω,ω⟩ (aC (by rw[aJ];omega) (hr _ (G.cat hI (G.one hx (aH 1)))))) λ_=>hr s (G.mono ω hI))) λ_=>ω
 ·exact ax (λ_=>ω) λ_=>aq (G.mono hl hI)
theorem W8(hN:200000≤N){l:aY}{m:Nat}(hm:m≤50000)(h:L6 m l)(a id:Int):Ok (λr=>L6 m r.1) (oM N l a id):=by
 have hl:=h.1
 unfold oM oM.b
 refine bV (ij N ω hN) (bI (λ_=>aq G.nil) λ_=>bt (len:=l.length) (F:=λn i s=>oM.l5 N n l a id s i) (λi s=>L6 i s) G.nil ω (λn i s hi hI hr=> ?_) (λn s hI=> ?_))
 all_goals unfold oM.l5 oM.dV
 ·have hs:=hI.1
  have hx:G 0 nw (l.getD (i:Int).toNat dT):=G.at h _
  rw[aw (x:=(i:Int)+1) ω ω,af i]
  have h1:=hr s (G.mono ω hI)
  have h2:=hr _ (G.cat hI (G.one hx (aH 1)))
  repeat' first|exact h1|exact h2|refine aC (by rw[aJ];omega) ?_|refine aB ⟨ω,ω⟩ ?_|refine ax (λ_=> ?_) (λ_=> ?_)|refine bM (λ_=> ?_) (λ_=> ?_)|(exfalso;omega)
 ·exact ax (λ_=>ω) λ_=>ok_eq (λ_=>aq G.nil) λ_=>aq (G.mono hl hI)
theorem G6q{m:Nat}{x:gb}{q:Int}(h:G m nw x)(hq:aF q):G m nw (x.1,(x.2.1,(x.2.2.1,(x.2.2.2.1,(q,x.2.2.2.2.2))))):=⟨h.1,h.2.1,h.2.2.1,h.2.2.2.1,hq,h.2.2.2.2.2⟩
theorem adI(hN:200000≤N){l:aY}{m:Nat}(hm:m≤50000)(h:L6 m l)(a d:Int):Ok (λr=>L6 m r) (eu N l a d):=by
 have hl:=h.1
 unfold eu eu.b
 refine bV (ij N ω hN) (bI (λ_=>aq G.nil) λ_=>bt (len:=l.length) (F:=λn i s=>eu.l5 N n l a d s i) (λi s=>L6 i s) G.nil ω (λn i s hi hI hr=> ?_) (λn s hI=> ?_))
 all_goals unfold eu.l5 eu.dV
 ·have hs:=hI.1
  have hx:G 0 nw (l.getD (i:Int).toNat dT):=G.at h _
  have fin: ∀k:Nat,k≤s.length→Ok (λr=>L6 m r) (eu.Lg N (eu.l5 N n) l a d s (i:Int) (k:Int)):=λk hk=>by
   unfold eu.Lg eu.Du
   rw[aw (x:=(i:Int)+1) ω ω,af i]
   dsimp only
   have t: ∀a b:Nat,(List.drop a (List.take b s)).length≤s.length:=λa b=>by rw[ec,cj];omega
   have t1:=t (0:Int).toNat (k:Int).toNat
   have t2:=t (k:Int).toNat (s.length:Int).toNat
   refine Ak ⟨ω,ω,ω,ω⟩ (aC ω (aB ⟨ω,ω⟩ (aC (by rw[aJ];omega) (Ak ⟨ω,ω,ω,ω⟩ (aC (by rw[aS,aJ];omega) (hr _ ?_))))))
   simpa using G.ins hI (G.mono (bs i) hx) k 0 k (aH _)
  have h1:=hr s (G.mono ω hI)
  have hw:Ok (λr=>L6 m r) (eu.l9 N (eu.l5 N n) N l a d s (i:Int) 0):=by
   refine m8 (len:=s.length) (F:=λn' j=>eu.l9 N (eu.l5 N n) n' l a d s (i:Int) j) ω (λn' j hj ed=> ?_) (λn'=> ?_)
   all_goals unfold eu.l9 eu.uX
   ·rw[aw (x:=(j:Int)+1) ω ω,af j]
    have hah: ∀x y:gb,Ok (λ_=>True) (W9 N x y):=λx y=>by unfold W9;exact bM (λ_=>fO) λ_=>fO
    exact ax (λ_=>aB ⟨ω,ω⟩ (aB ⟨ω,ω⟩ (ah (hah _ _) λ_ _=>qc (λ_=>ed) λ_=>fin j ω))) λ_=>ω
   ·exact ax (λ_=>ω) λ_=>fin _ (aH _)
  rw[aw (x:=(i:Int)+1) ω ω,af i]
  repeat' first|exact h1|exact hw|refine aB ⟨ω,ω⟩ ?_|refine ax (λ_=> ?_) (λ_=> ?_)|refine bM (λ_=> ?_) (λ_=> ?_)|(exfalso;omega)
 ·exact ax (λ_=>ω) λ_=>aq (G.mono hl hI)
theorem aaq(hN:200000≤N){l:aY}{o:gb}{m:Nat}(hm:m≤50000)(h:L6 m l)(ho:G 0 nw o):Ok (λr=>L6 m r.1∧aF r.2.2.1) (cE N l o):=by
 have hl:=h.1
 have fin: ∀(s:aY) (q:Int) (t:bE),L6 m s→aF q→Ok (λr=>L6 m r.1∧aF r.2.2.1) (cE.j22 N s q t):=λs q t hs hq=>by
  have L0:=hs.1
  unfold cE.j22 cE.adJ
  refine bt (len:=s.length) (F:=λn i u=>cE.NI N n s q t u i) (λi u=>L6 i u) G.nil ω (λn i u hi hI hr=> ?_) (λn u hI=> ?_)
  all_goals unfold cE.NI cE.Qb
  ·have hu:=hI.1
   have hx:G 0 nw (s.getD (i:Int).toNat dT):=G.at hs _
   rw[aw (x:=(i:Int)+1) ω ω,af i]
   have h1:=hr u (G.mono ω hI)
   have h2:=hr _ (G.cat hI (G.one hx (aH 1)))
   repeat' first|exact h1|exact h2|refine aC (by rw[aJ];omega) ?_|refine aB ⟨ω,ω⟩ ?_|refine ax (λ_=> ?_) (λ_=> ?_)|(exfalso;omega)
  ·exact ax (λ_=>ω) λ_=>aq ⟨G.mono L0 hI,hq⟩
 have et:Ok (λr:aY×bE×Int×Int=>L6 m r.1∧aF r.2.2.1) (some ([],[],(0:Int),(1:Int))):=aq ⟨G.nil,cc⟩
 unfold cE cE.b
 refine bV (ij N ω hN) (bI (λ_=>et) λ_=>bV (BS N o) (bI (λ_=>et) λ_=>aC (by rw[bZ];omega) (ah (adI N hN hm h _ _) λw hw=> ?_)))
 have hwl:=hw.1
 rw[cD]
 refine bt (len:=w.length) (F:=λn i (s:aY×Int×bE)=>cE.l7 N n o s.1 s.2.1 s.2.2 w i) (s:=(_,(_,_))) (λi s=>L6 m s.1∧aF s.2.1∧s.2.2.length≤i) ⟨h,ho.2.2.2.2.1,bs _⟩ ω (λn i s hi hI hr=> ?_) (λn s hI=> ?_)
 all_goals unfold cE.l7 cE.nR
 ·obtain⟨hs,hq,ht⟩:=hI
  have f1:=fin s.1 s.2.1 s.2.2 hs hq
  have alw: ∀(v:Int) (t:kQ),Ok (λr=>L6 m r.1∧aF r.2.2.1) (cE.Dt N (cE.l7 N n) o s.1 s.2.1 s.2.2 w (i:Int) v t):=λv t=>by
   unfold cE.Dt cE.w3
   refine aC (by rw[aJ];omega) (bt (len:=s.1.length) (F:=λn' j u=>cE.Jr N (cE.l7 N n) n' o u (W .i64 (s.2.1-v)) (s.2.2++[t]) w (i:Int) v j) (λ_ u=>u.length=s.1.length∧L6 m u) ⟨rfl,hs⟩ (by have:=hs.1;omega) (λn' j u hj hJ ed=> ?_) (λn' u hJ=> ?_))
   all_goals unfold cE.Jr cE.Fm
   ·have L0:=hs.1
    have Js:=hJ.1
    rw[aw (x:=(j:Int)+1) ω ω,af j]
    exact ax (λ_=>aB ⟨ω,ω⟩ (aB ⟨ω,ω⟩ (ok_eq (λ_=>aB ⟨ω,ω⟩ (aB ⟨ω,ω⟩ (ed _ ⟨by rw[bU];exact Js,G.set hJ.2 (G6q (G.at hJ.2 _) (gJ _)) _⟩))) λ_=>ed u hJ))) λ_=>ω
   ·have Js:=hJ.1
    rw[aw (x:=(i:Int)+1) ω ω,af i]
    exact ax (λ_=>ω) λ_=>hr (_,(_,_)) ⟨hJ.2,gJ _,by dsimp only;rw[List.length_append,List.length_singleton];omega⟩
  have Ff:Ok (λr=>L6 m r.1∧aF r.2.2.1) (cE.JW N (cE.l7 N n) o s.1 s.2.1 s.2.2 w (i:Int)):=by
   unfold cE.JW cE.Df
   rw[aw (x:=(i:Int)+1) ω ω,af i]
   dsimp only
   have h1:=hr s ⟨hs,hq,ω⟩
   repeat' first|exact h1|exact alw _ _|refine aB ⟨ω,ω⟩ ?_|refine ok_eq (λ_=> ?_) (λ_=> ?_)
  repeat' first|exact f1|exact Ff|refine aB ⟨ω,ω⟩ ?_|refine ax (λ_=> ?_) (λ_=> ?_)|refine ok_eq (λ_=> ?_) (λ_=> ?_)|(exfalso;omega)
 ·exact ax (λ_=>ω) λ_=>fin _ _ _ hI.1 hI.2.1
theorem aar(hN:5000000≤N){c:ae}{b:an}{o:gb}{m:Nat}(h2:200≤m)(hm:m≤40000)(hc:G m aA c)(hb:G m aK b)(ho:G 0 nw o):Ok (λr=>G (m+1) aK r.1) (jZ N c b o):=by
 have xa:=hb.2.2.2.2.2.1.1
 have et: ∀(t:bE) (e:Int),Ok (λr:an×bE×Int×Int=>G (m+1) aK r.1) (some ((cn,(cW,(bo,(bo,(di,(du,())))))),(t,((0:Int),e)))):=λt e=>aq (G.zero (m+1) aK)
 have Ff: ∀(r:aY) (t:bE) (q:Int),L6 m r→aF q→Ok (λr=>G (m+1) aK r.1) (jZ.JW N c b o (cn,(cW,(bo,(bo,(di,(du,())))))) r t q):=λr t q hr hq=>by
  have Ki:=hr.1
  unfold jZ.JW jZ.Df
  have hx:G 0 nw (o.1,(o.2.1,(o.2.2.1,(o.2.2.2.1,(q,o.2.2.2.2.2))))):=G6q ho hq
  exact ah (Lc N hN c h2 ω hb) λz hz=>bM (λ_=>et _ _) λ_=>by
   have zB:G (m+1) aK z.1:=G.mono ω hz
   exact ax (λ_=>aC (by rw[aJ];omega) (aq ⟨zB.1,zB.2.1,zB.2.2.1,zB.2.2.2.1,zB.2.2.2.2.1,G.cat hr (G.one hx (aH 1)),trivial⟩)) λ_=>aq ⟨zB.1,zB.2.1,zB.2.2.1,zB.2.2.2.1,zB.2.2.2.2.1,G.mono ω hr,trivial⟩
 have hj7:Ok (λr=>G (m+1) aK r.1) (jZ.j7 N c b o (cn,(cW,(bo,(bo,(di,(du,()))))))):=by
  unfold jZ.j7 jZ.XX
  exact ah (aaq N ω ω hb.2.2.2.2.2.1 ho) λz hz=>ax (λ_=>ok_eq (λ_=>et _ _) λ_=>Ff _ _ _ hz.1 hz.2) λ_=>Ff _ _ _ hz.1 hz.2
 unfold jZ jZ.b
 refine ah (Cm N hN h2 hm hc hb (G.mono (bs m) ho)) λe _=>bM (λ_=>et _ _) λ_=>ax (λh0=> ?_) λ_=>hj7
 dsimp only
 exact aB (by rw[aw ω ω];omega) (eR (λ_=>et _ _) λ_=>hj7)
theorem alx(a:Int):Ok (λ_=>True) (MD N a):=by
 unfold MD
 exact ok_eq (λ_=>fO) λ_=>fO
theorem kR.one{k n:Int}{x:aL}{m:Nat}(h:Bg m x)(hm:m≤8):kR 1 [(k,(n,(x,())))]:=⟨aH 1,λy hy=>by rw[cy.1 hy];exact Bg.mono h hm⟩
theorem aas(hN:4000000≤N){l:au}{m:Nat}(hm:m≤50000)(h:L3 m l)(i a b:Int):Ok (λr=>kR m r.1) (kj N l i a b):=by
 have hl:=h.1
 unfold kj kj.b
 have p64: ∀p:Int,decide (1≤p∧p≤1000000000000)=true→aF p:=λp h=>by have:=bD h;unfold aF;omega
 refine bV (lS N ω ω) (bI (λ_=>aq kR.nil) λ_=>bV (jz N _) (bI (λ_=>aq kR.nil) λha=>bV (jz N _) (bI (λ_=>aq kR.nil) λhb=>ah (bH N hN (p64 _ hb)) λx hx=>ah (bH N hN (p64 _ ha)) λy hy=>ah (zb N hN ω hx hy) λz hz=>bt (len:=l.length) (F:=λn j s=>kj.l6 N n l i s z j) (λj s=>kR j s) kR.nil ω (λn j s hj hI hr=> ?_) (λn s hI=> ?_))))
 all_goals unfold kj.l6 kj.uU
 ·have hs:=hI.1
  rw[aw (x:=(j:Int)+1) ω ω,af j]
  have h1:=hr s (kR.mono hI ω)
  exact ax (λ_=>aB ⟨ω,ω⟩ (bM (λ_=>h1) λ_=>ah (Ga N hz) λ_ _=>ok_eq (λ_=>h1) λ_=>aB ⟨ω,ω⟩ (ah (alx N _) λ_ _=>aB ⟨ω,ω⟩ (ah (bH N hN (G.at h _).2.2.1) λv hv=>ah (mQ N hN ω ω hv hz) λu hu=>aC (by rw[aJ];omega) (hr _ (kR.app hI (kR.one hu ω))))))) λ_=>ω
 ·exact ax (λ_=>ω) λ_=>aq (kR.mono hI ω)
theorem EK(hN:5000000≤N)(c:ae){b:an}{m:Nat}(h2:200≤m)(hm:m≤50000)(hb:G m aK b)(i:Int){p:Int}(hp:aF p):Ok (λr=>G m aK r.1∧kR m r.2.1) (F52 N c b i p):=by
 have et: ∀e:Int,Ok (λr:an×bO×Int=>G m aK r.1∧kR m r.2.1) (some ((cn,(cW,(bo,(bo,(di,(du,())))))),([],e))):=λe=>aq ⟨G.jH,kR.nil⟩
 have zC:=hb.2.2.2.2.1.1
 unfold F52
 refine bV (eo N hN hm hb) (bI (λ_=>et _) λhB=>bV (jz N _) (bI (λ_=>et _) λ_=>ax (λ_=>et _) λh0=>eR (λ_=>et _) λh1=> ?_))
 obtain⟨Bv,_⟩:=dY hB
 dsimp only
 rw[cD]
 exact aB ⟨h0,by rw[Bv];exact h1⟩ (ah (aas N ω hm hb.2.2.2.1 _ _ _) λf hf=>ah (tW N ω h2 hm hb G.nil (kR.mono hf hm)) λr hr=>bM (λ_=>et _) λ_=>aC (by rw[bZ];omega) (aB ⟨h0,by rw[Bv];exact h1⟩ (aq ⟨⟨hr.1,hr.2.1,hr.2.2.1,hr.2.2.2.1,G.set hb.2.2.2.2.1 hp _,hr.2.2.2.2.2⟩,hf⟩)))
abbrev L2(m:Nat)(l:aE):Prop:=G m (.slice kM) l
theorem G2{m:Nat}{a b:Int}(ha:aF a)(hb:aF b):G m kM (a,(b,())):=⟨ha,hb,trivial⟩
theorem Dv(hN:200000≤N){l:aE}(hl:l.length≤100000):Ok (λ_=>True) (rq N l):=by
 unfold rq rq.b
 refine m8 (len:=l.length) (F:=λn i=>rq.l2 N n l i) ω (λn i hi hr=> ?_) (λn=> ?_)
 all_goals unfold rq.l2 rq.fN
 ·rw[aw (x:=(i:Int)+1) ω ω,af i]
  dsimp only
  repeat' first|exact hr|exact fO|refine aB ⟨ω,ω⟩ ?_|refine aB (by rw[aw (x:=(i:Int)-1) ω ω];omega) ?_|refine ax (λ_=> ?_) (λ_=> ?_)|refine eR (λ_=> ?_) (λ_=> ?_)|refine ok_eq (λ_=> ?_) (λ_=> ?_)|(exfalso;omega)
 ·exact ax (λ_=>ω) λ_=>fO
theorem Qc(hN:4000000≤N){g:aE}{p:bO}{m:Nat}(h2:200≤m)(hm:m≤50000)(h:L2 m g)(hp:kR m p):Ok (λr=>L2 m r.1) (fB N g p):=by
 have hl:=h.1
 have zC:=hp.1
 unfold fB fB.b
 refine ah (Dv N ω ω) λ_ _=>bI (λ_=>aq G.nil) λ_=>jk (len:=25) (F:=λn i s=>fB.l5 N n g p s i) (λi s=>L2 i s) (λn i s hi hI hr=> ?_) (λn s hI=> ?_) 25 N 1 [] ω ω ω G.nil
 all_goals unfold fB.l5 fB.dV
 ·have hs:=hI.1
  refine eR (λ_=> ?_) λ_=>ω
  refine bt (len:=g.length) (F:=λn' j t=>fB.l9 N (fB.l5 N n) n' g p s (i:Int) t j) (λ_ t=>Bg 2 t) (MQ ω) ω (λn' j t hj ht ed=> ?_) (λn' t ht=> ?_)
  all_goals unfold fB.l9 fB.uX
  ·rw[aw (x:=(j:Int)+1) ω ω,af j]
   exact ax (λ_=>aB ⟨ω,ω⟩ (ok_eq (λ_=>aB ⟨ω,ω⟩ (ah (bH N hN (G.at h _).2.1) λr hr=>ed r hr)) λ_=>ed t ht)) λ_=>ω
  ·refine ax (λ_=>ω) λ_=> ?_
   refine bt (len:=p.length) (F:=λLb j t=>fB.KZ N (fB.l5 N n) Lb g p s (i:Int) t j) (λj t=>Bg (8+j) t) (Bg.mono ht ω) ω (λLb j t hj ht ed=> ?_) (λLb t ht=> ?_)
   all_goals unfold fB.KZ fB.Ib
   ·rw[aw (x:=(j:Int)+1) ω ω,af j]
    have h1:=ed t (Bg.mono ht ω)
    exact ax (λ_=>aB ⟨ω,ω⟩ (ok_eq (λ_=>aB ⟨ω,ω⟩ (ok_eq (λ_=>aB ⟨ω,ω⟩ (ah (lW N hN ω ht (Bg.mono (hp.at _) ω)) λr hr=>ed r (Bg.mono hr ω))) λ_=>h1)) λ_=>h1)) λ_=>ω
   ·rw[aw (x:=(i:Int)+1) ω ω,af i]
    exact ax (λ_=>ω) λ_=>ah (yr N ht) λv hv=>bI (λ_=>aq G.nil) λ_=>bM (λ_=>aC (by rw[aJ];omega) (hr _ (G.cat hI (G.one (m:=1) (G2 (jE ω ω) hv) (aH 1))))) λ_=>hr s (G.mono ω hI)
 ·exact eR (λ_=>ω) λ_=>aq (G.mono ω hI)
theorem tX(hN:4000000≤N)(a b c d:Int){x:aL}(h:Bg 8 x):Ok (λr=>kR 2 r) (Dw N a b c d x):=by
 unfold Dw
 exact ah (rL N hN ω h) λy hy=>aq ⟨aH 2,λz hz=>by
  rcases bh.1 hz with rfl|hz
  ·exact hy
  ·rw[cy.1 hz];exact h⟩
theorem Qd(hN:5000000≤N){c:ae}{b:an}{m:Nat}(h2:200≤m)(hm:m≤40000)(hc:G m aA c)(hb:G m aK b)(a:Int){q:Int}(hq:aF q):Ok (λr=>G m aK r.1) (Xa N c b a q):=by
 unfold Xa
 exact bV (eo N hN ω hb) (bI (λ_=>aq G.jH) λ_=>ax (λ_=>aq G.jH) λ_=>ah (zd N ω ω hb.2.1 _) λ_ _=>bI (λ_=>aq G.jH) λ_=>ah (px N ω ω hb.1 _) λ_ _=>bM (λ_=>aq G.jH) λ_=>ah (ny N ω ω hb.2.2.1 _ _) λg hg=>ah (bH N ω hg) λx hx=>ah (bH N ω hq) λy hy=>ah (zb N ω ω hx hy) λz hz=>ah (Iv N ω h2 hm hc hb (bs _) _) λw hw=>ah (qK N ω ω ω hz hw) λ_ _=>ax (λ_=>aq G.jH) λ_=>ah (bH N ω hq) λy hy=>ah (tX N ω _ _ _ _ (Bg.mono hy ω)) λp hp=>ah (tW N ω h2 ω hb G.nil (kR.mono hp ω)) λr hr=>aq hr)
theorem Ti(hN:1000≤N){c:ae}(hc:G 5 aA c):Ok (λr=>G 5 aK r.1) (ja N c):=by
 have hl:=hc.1.1
 unfold ja ja.b
 have hj: ∀b:an,G 5 aK b→Ok (λr=>G 5 aK r.1) (ja.j6 N c (cn,(cW,(bo,(bo,(di,(du,())))))) b []):=λb hb=>by
  unfold ja.j6 ja.O6
  obtain⟨b1,b2,b3,b4,b5,b6⟩:=b
  refine bt (len:=c.1.length) (F:=λn i (z:an×List Int)=>ja.l7 N n c (cn,(cW,(bo,(bo,(di,(du,())))))) z.1 z.2 i) (s:=((b1,(b2,(b3,(b4,(b5,b6))))),_)) (λi z=>G 5 aK z.1∧G i (.slice (.int .i64)) z.2) ⟨hb,G.nil⟩ ω (λn i z hi hI hr=> ?_) (λn z hI=> ?_)
  all_goals unfold ja.l7 ja.nR
  ·have hz:=hI.2.1
   rw[aw (x:=(i:Int)+1) ω ω,af i]
   have hx:G 0 (.int .i64) (c.1.getD (i:Int).toNat bb).2.1:=(G.at hc.1 _).2.1
   exact ax (λ_=>aB ⟨ω,ω⟩ (aC (by rw[aJ];omega) (hr (_,_) ⟨⟨hI.1.1,hI.1.2.1,hI.1.2.2.1,hI.1.2.2.2.1,G.nil,hI.1.2.2.2.2.2⟩,G.cat hI.2 (G.one hx (aH 1))⟩))) λ_=>ω
  ·exact ax (λ_=>ω) λ_=>aq ⟨hI.1.1,hI.1.2.1,hI.1.2.2.1,hI.1.2.2.2.1,G.mono hl hI.2,hI.1.2.2.2.2.2⟩
 have zT:L3 5 [((1:Int),((0:Int),(W .i64 (0-c.2.1),()))),((3:Int),((0:Int),(c.2.1,())))]:=G.two (G3 (show aF 1 from bz) cc (gJ _)) (G3 (show aF 3 from bz) cc hc.2.1) δ
 exact bV (mK N ω c) (bI (λ_=>aq G.jH) λ_=>bM (λ_=>hj _ ⟨G.nil,G.nil,zT,G.nil,G.nil,G.nil,trivial⟩) λ_=>hj _ G.jH)
theorem Dx(hN:4000000≤N){c:ae}{l:aE}{m:Nat}(hm:m≤50000)(hc:G m aA c)(hl:L2 m l)(f:Bool):Ok (λr=>Bg 60000 r.1) (qM N c l f):=by
 have h1:=hl.1
 unfold qM qM.b
 refine bV (u5 N ω c ω) (bI (λ_=>aq (MQ ω)) λhk=>bt (len:=l.length) (F:=λn i t=>qM.l5 N n l f c (false,(([]:List Int),())) t i) (λi t=>Bg (8+i) t) (MQ ω) ω (λn i t hi ht hr=> ?_) (λn t ht=> ?_))
 all_goals unfold qM.l5 qM.dV
 ·rw[aw (x:=(i:Int)+1) ω ω,af i,aG]
  unfold mi at hk
  have hp:=bD (df.1 hk).1 i hi
  unfold oB qF at hp
  have in1: ∀{x y:Option (aL×Int)},Ok (λr=>Bg 60000 r.1) x→Ok (λr=>Bg 60000 r.1) (cond (bg (l.getD i c7).1 c.1.length) x y):=λh=>aB ⟨hp.1,hp.2.1⟩ h
  have hw: ∀q:Int,aF q→Ok (λr=>Bg 60000 r.1) ((eC N (l.getD i c7).2.1).bind λr3=>(CZ N r3).bind λr4=>(eC N q).bind λr5=>(ei N r4 r5).bind λr6=>(nk N t r6).bind λr7=>qM.l5 N n l f c (false,(([]:List Int),())) r7 ((i+1:Nat):Int)):=λq hq=>
   ah (bH N hN (G.at hl i).2.1) λx hx=>ah (Cl N hN ω hx) λx hx=>ah (bH N hN hq) λy hy=>ah (mQ N hN ω ω hx hy) λz hz=>ah (lW N hN ω ht (Bg.mono hz ω)) λu hu=>hr u (Bg.mono hu ω)
  exact ax (λ_=>aB ⟨ω,ω⟩ (in1 (qc (λ_=>aB ⟨ω,ω⟩ (in1 (aB ⟨ω,ω⟩ (hw _ (G.at hc.1 _).2.2.2.1)))) λ_=>aB ⟨ω,ω⟩ (hw _ (G.at hc.1 _).2.2.1)))) λ_=>ω
 ·exact ax (λ_=>ω) λ_=>aq (Bg.mono ht ω)
theorem rM(hN:200000≤N){b:an}{m:Nat}(hm:m≤50000)(hb:G m aK b)(id:Int):Ok (λ_=>True) (MV N b id):=by
 unfold MV
 exact ah (px N hN hm hb.1 _) λ_ _=>fO
theorem vf(hN:200000≤N){b:an}{m:Nat}(hm:m≤50000)(hb:G m aK b)(id:Int):Ok aF (Tj N b id):=by
 unfold Tj
 exact ah (ny N hN hm hb.2.2.1 _ _) λr hr=>aq hr
theorem aat(hN:5000000≤N){c:ae}{b:an}{m:Nat}(hm:m≤40000)(hc:G m aA c)(hb:G m aK b)(f to a:Int):Ok (λ_=>True) (adL N c b f to a):=by
 unfold adL aly
 have mb:=λid=>rM N ω ω hb id
 exact bV (eo N hN ω hb) (bI (λ_=>fO) λ_=>ah (zd N ω ω hb.2.1 _) λ_ _=>bI (λ_=>fO) λ_=>ah (mb _) λ_ _=>ok_eq (λ_=>fO) λ_=>ah (mb _) λ_ _=>ok_eq (λ_=>fO) λ_=>bM (λ_=>fO) λ_=>bM (λ_=>fO) λ_=>ah (mb _) λ_ _=>bM (λ_=>fO) λ_=>ah (P6 N ω ω hb.2.2.2.1 _) λl hl=>ah (Q:=λr=>Bg 60000 r.1) (ah (Dx N ω ω hc hl _) λr hr=>aq hr) λu hu=>ah (vf N ω ω hb _) λg hg=>ah (bH N ω hg) λx hx=>ah (qK N ω ω ω hx hu) λ_ _=>ax (λ_=>fO) λ_=>fO)
theorem adM(hN:5000000≤N){c:ae}{b:an}{m:Nat}(hm:m≤40000)(hc:G m aA c)(hb:G m aK b)(f:Int){to:Int}(hto:aF to)(a:Int):Ok (λr=>G m aK r.1) (Xb N c b f to a):=by
 unfold Xb
 exact ah (aat N hN hm hc hb _ _ _) λ_ _=>bM (λ_=>aq G.jH) λ_=>ah (Th N ω ω hb.1 hb.2.1 hto) λr hr=>bM (λ_=>aq G.jH) λ_=>aq ⟨hb.1,hr,hb.2.2⟩
theorem Xc(hN:4000000≤N){x:aL}{q:Int}(hx:Bg 60000 x)(hq:aF q):Ok (λr=>0≤r∧r≤3) (sO N x q):=by
 unfold sO sO.b
 refine ah (Ga N hx) λ_ _=>eR (λ_=>aq δ) λ_=>ax (λ_=>aq δ) λ_=>jk (len:=3) (F:=λn i (_:Unit)=>sO.l4 N n q x i) (λ_ _=>True) (λn i _ hi _ hr=> ?_) (λn _ _=> ?_) 3 N 1 () ω ω ω trivial
 all_goals unfold sO.l4 sO.dM
 ·rw[aw (x:=(i:Int)+1) ω ω,af i]
  exact ax (λ_=>ah (bH N hN (jE ω ω)) λa ha=>ah (bH N hN hq) λb hb=>ah (mQ N hN ω ω ha hb) λy hy=>ah (qK N hN ω ω hy hx) λ_ _=>ax (λ_=>hr () trivial) λ_=>aq ω) λ_=>ω
 ·exact ax (λ_=>ω) λ_=>aq ω
theorem U8(hN:5000000≤N)(c:ae){b:an}{m:Nat}(hm:m≤50000)(hb:G m aK b):Ok (λr=>G m (.slice (.int .i64)) r.1) (sP N c b):=by
 have hl:=hb.1.1
 unfold sP sP.b
 refine bV (eo N hN hm hb) (bI (λ_=>aq G.nil) λ_=>bt (len:=b.1.length) (F:=λn i s=>sP.l5 N n b s i) (λi s=>G i (.slice (.int .i64)) s) G.nil ω (λn i s hi hI hr=> ?_) (λn s hI=> ?_))
 all_goals unfold sP.l5 sP.dV
 ·have hs:=hI.1
  rw[aw (x:=(i:Int)+1) ω ω,af i]
  have h1:=hr s (G.mono ω hI)
  have hx:G 0 (.int .i64) (b.1.getD (i:Int).toNat c7).1:=(G.at hb.1 _).1
  exact ax (λ_=>aB ⟨ω,ω⟩ (ok_eq (λ_=>aB ⟨ω,ω⟩ (ah (ny N ω hm hb.2.2.1 _ _) λ_ _=>ax (λ_=>aB ⟨ω,ω⟩ (aC (by rw[aJ];omega) (hr _ (G.cat hI (G.one hx (aH 1)))))) λ_=>h1)) λ_=>h1)) λ_=>ω
 ·exact ax (λ_=>ω) λ_=>aq (G.mono hl hI)
abbrev LL(m:Nat)(l:bL):Prop:=G m (.slice jT) l
theorem Ix(hN:200000≤N){l:bL}{m:Nat}(hm:m≤50000)(h:LL m l)(id:Int):Ok (λr=>G m jT r.1) (rr N l id):=by
 have hl:=h.1
 unfold rr rr.b
 refine m8 (len:=l.length) (F:=λn i=>rr.l2 N n l id ((0:Int),(cn,bb)) i) ω (λn i hi hr=> ?_) (λn=> ?_)
 all_goals unfold rr.l2 rr.fN
 ·rw[aw (x:=(i:Int)+1) ω ω,af i]
  exact ax (λ_=>aB ⟨ω,ω⟩ (ok_eq (λ_=>aB ⟨ω,ω⟩ (aq (G.at h _))) λ_=>hr)) λ_=>ω
 ·exact ax (λ_=>ω) λ_=>aq (G.zero m jT)
theorem Xd(hN:4000000≤N){a b:aE}{m:Nat}(h6:6≤m)(hm:m≤40000)(ha:L2 m a)(hb:L2 m b):Ok (λr=>L2 m r.1) (fC N a b):=by
 have hal:=ha.1
 have xD:=hb.1
 unfold fC fC.b
 refine bt (len:=6) (F:=λn i s=>fC.l3 N n a b s i) (λi s=>L2 i s) G.nil ω (λn i s hi hI hr=> ?_) (λn s hI=> ?_)
 all_goals unfold fC.l3 fC.nY
 ·have hs:=hI.1
  refine ax (λ_=> ?_) λ_=>ω
  refine bt (len:=a.length) (F:=λn' j t=>fC.l7 N (fC.l3 N n) n' a b s (i:Int) t j) (λj t=>Bg (3+j) t) (MQ ω) ω (λn' j t hj ht ed=> ?_) (λn' t ht=> ?_)
  all_goals unfold fC.l7 fC.nR
  ·rw[aw (x:=(j:Int)+1) ω ω,af j]
   exact ax (λ_=>aB ⟨ω,ω⟩ (ok_eq (λ_=>aB ⟨ω,ω⟩ (ah (bH N hN (G.at ha _).2.1) λr hr=>ah (lW N hN ω ht (Bg.mono hr ω)) λu hu=>ed u (Bg.mono hu ω))) λ_=>ed t (Bg.mono ht ω))) λ_=>ω
  ·refine ax (λ_=>ω) λ_=> ?_
   refine bt (len:=b.length) (F:=λLb j t=>fC.nJ N (fC.l3 N n) Lb a b s (i:Int) t j) (λj t=>Bg (3+a.length+j) t) ht ω (λLb j t hj ht ed=> ?_) (λLb t ht=> ?_)
   all_goals unfold fC.nJ fC.mN
   ·rw[aw (x:=(j:Int)+1) ω ω,af j]
    exact ax (λ_=>aB ⟨ω,ω⟩ (ok_eq (λ_=>aB ⟨ω,ω⟩ (ah (bH N hN (G.at hb _).2.1) λr hr=>ah (lW N hN ω ht (Bg.mono hr ω)) λu hu=>ed u (Bg.mono hu ω))) λ_=>ed t (Bg.mono ht ω))) λ_=>ω
   ·rw[aw (x:=(i:Int)+1) ω ω,af i]
    exact ax (λ_=>ω) λ_=>ah (EI N ht) λv hv=>bI (λ_=>aq G.nil) λ_=>bM (λ_=>aC (by rw[aJ];omega) (hr _ (G.cat hI (G.one (m:=1) (G2 (jE ω ω) hv) (aH 1))))) λ_=>hr s (G.mono ω hI)
 ·exact ax (λ_=>ω) λ_=>aq (G.mono h6 hI)
theorem Qe(hN:5000000≤N){c:ae}{b:an}{Tk:bL}{l:aN}{x:cO}{m:Nat}(h6:6≤m)(hm:m≤40000)(hc:G m aA c)(hb:G m aK b)(hL:LL m Tk)(hl:G m (.slice ff) l)(hx:G 0 ff x):Ok (λ_=>True) (lX N c b Tk l x):=by
 have Jo:=hl.1
 have hLl:=hL.1
 have hal:=hb.2.1.1
 have xa:=hb.2.2.2.2.2.1.1
 have hw:KP Tk:=λy hy=>ck (hL.2 y hy).2.1.1 ω
 unfold lX lX.b
 have hj:Ok (λ_=>True) (lX.j3 N Tk l c b x):=by
  unfold lX.j3 lX.j3b
  refine ah (rM N ω ω hb _) λ_ _=>ok_eq (λ_=>fO) λ_=>bM (λ_=>fO) λ_=>ah (Ix N ω ω hL _) λz hz=>bV (rJ N ω ω _) (bI (λ_=>fO) λ_=>bM (λ_=>fO) λ_=>ok_eq (λ_=>fO) λ_=>m8 (len:=l.length) (F:=λn i=>lX.mw N n l c b x z.1 (ox b.2.1 x.2.2.1) i) ω (λn i hi hr=> ?_) (λn=> ?_))
  all_goals unfold lX.mw lX.lq
  ·rw[aw (x:=(i:Int)+1) ω ω,af i]
   exact ax (λ_=>aB ⟨ω,ω⟩ (ok_eq (λ_=>aB ⟨ω,ω⟩ (ok_eq (λ_=>fO) λ_=>hr)) λ_=>hr)) λ_=>ω
  ·refine ax (λ_=>ω) λ_=>ok_eq (λ_=>fO) λ_=>ah (bH N ω hx.2.2.2.1) λp hp=>ah (bH N ω (show aF 4 from bz)) λq hq=>ah (bH N ω hz.2.2.1) λr hr=>ah (mQ N ω ω ω hq hr) λu hu=>ah (qK N ω ω ω hp hu) λ_ _=>ax (λ_=>fO) λ_=>ah (P6 N ω ω hb.2.2.2.1 _) λa ha=>ah (Xd N ω h6 ω ha hz.2.1) λj hj=>bI (λ_=>fO) λ_=> ?_
   unfold alz
   exact ah (Q:=λr=>L3 6 r) (bV (ij N ω ω) (bI (λ_=>aq G.nil) λ_=>ah (Iu N ω ω _) λr hr=>aq hr)) λo ho=>ah (P5 N ω ω hc hj (G.mono h6 ho)) λw hw=>ah (vf N ω ω hb _) λg hg=>ah (bH N ω hg) λv hv=>ah (bH N ω hx.2.2.2.1) λp hp=>ah (zb N ω ω hv hp) λd hd=>ah (qK N ω ω ω hd hw) λ_ _=>ax (λ_=>fO) λ_=>fO
 refine bV (eo N hN ω hb) (bI (λ_=>fO) λ_=>bV (B8 N ω c ω hw) (bI (λ_=>fO) λ_=>bV (u7 N ω ω) (bI (λ_=>fO) λ_=>bV (UK N _) (bI (λ_=>fO) λ_=>ax (λ_=> ?_) λ_=>hj))))
 dsimp only
 exact aB (by rw[aw ω ω];omega) (eR (λ_=>fO) λ_=>hj)
theorem Lh(hN:5000000≤N){c:ae}{b:an}{Tk:bL}{l:aN}{x:cO}{m:Nat}(h6:6≤m)(hm:m≤40000)(hc:G m aA c)(hb:G m aK b)(hL:LL m Tk)(hl:G m (.slice ff) l)(hx:G 0 ff x):Ok (λr=>G (m+1) (.slice ff) r.1) (adN N c b Tk l x):=by
 have Jo:=hl.1
 unfold adN
 refine ah (Qe N hN h6 hm hc hb hL hl hx) λ_ _=>bM (λ_=>aq G.nil) λ_=>aC (by rw[bZ];omega) ?_
 dsimp only
 rw[cD]
 exact aC (by rw[aJ];omega) (aq (G.cat hl (G.one hx (aH 1))))
theorem ai7{l:List Int}(h:Pos l)(hs:l.sum<9223372036854775808):KV l:=λx hx=>by
 have h3:=h x hx
 obtain⟨i,hi,rfl⟩:=rO.1 hx
 have h4:=Ap h i
 rw[aW,bm hi]at h4
 simp only[n7]at h4
 omega
theorem aau(k:Nat):(List.replicate k (1:Int)).sum=k:=by
 induction k with
 |zero=>rfl
 |succ k ih=>rw[AQ,cN,ih];omega
theorem aav(k:Nat):Pos (List.replicate k 1):=λx hx=>by rw[AK hx];omega
theorem aaw{t:Int}{k:Nat}(h0:0≤t)(h1:t<9223372036854775808)(hk:1≤k)(Ud:k≤3):(K0 t k).1.length=k∧KV (K0 t k).1:=by
 have hS:0<(List.replicate k (1:Int)).sum:=by rw[aau];omega
 have ee:K0 t k=(cv t (List.replicate k 1),0):=by
  unfold K0
  rw[ag ω,aG]
  unfold sI
  have hm:may (List.replicate k 1)=true:=pP.2 ⟨by rw[c9];omega,aav k⟩
  rw[ag (by rw[hm];simp;omega),aau,ag ω,ag ω]
 rw[ee]
 exact⟨by dsimp only;rw[pv,List.length_replicate],ai7 (wo h0 hS (aav k)) (by rw[wm h0 hS];omega)⟩
def LQ(y:BT):Prop:=aF y.1∧aF y.2.1∧ri y.2.1
theorem ai8{l:aE}(h: ∀y∈l,LQ y)(i:Nat):LQ (l.getD i c7):=by
 by_cases hk:i<l.length
 ·rw[aW,bm hk];exact h _ (dG hk)
 ·rw[aW,iq ω];exact⟨cc,cc,by unfold ri;decide⟩
theorem Xe{c:ae}{b:an}{m:Nat}(hb:G m aK b)(hB:dh c b=true)(a:Int): ∀y∈posOf b.2.2.2.1 a,LQ y∧(0≤(y.1:Int)∧(y.1:Int)<(c.1.length:Int)):=λy hy=>by
 have hk:dk b.2.2.2.1=true:=by
  by_cases h:dk b.2.2.2.1=true
  ·exact h
  ·unfold posOf at hy;rw[ag h]at hy;nomatch hy
 unfold posOf at hy
 rw[ak hk]at hy
 obtain⟨x,hx,_,e⟩:=nv hy
 have hg:=hb.2.2.2.1.2 x hx
 have hq:=((eZ hk).2 x hx).2
 have hp:=ML hB x hx
 rw[e]
 exact⟨⟨hg.2.1,hg.2.2.1,hq⟩,hp⟩
theorem U9(hN:5000000≤N){c:ae}{b:an}{m:Nat}(h2:200≤m)(hm:m≤40000)(hc:G m aA c)(hb:G m aK b){next:Int}(hn:aF next):Ok (λr=>LL m r.1∧r.1.length≤12) (cw N c b next):=by
 unfold cw cw.b
 refine bV (eo N hN ω hb) (bI (λ_=>aq ⟨G.nil,bs _⟩) λhB=>ax (λ_=>aq ⟨G.nil,bs _⟩) λ_=>ax (λ_=>aq ⟨G.nil,bs _⟩) λ_=>bV (SX N (G.wf ω hb).w.s ω 0) (ok_eq (λ_=>aq ⟨G.nil,bs _⟩) λ_=> ?_))
 have iS:=Xe hb hB 0
 have hal:=(aqu hb.2.2.2.1 0).1
 generalize posOf b.2.2.2.1 0=all at*
 refine bt (len:=4) (F:=λn k (s:Int×bL)=>cw.l8 N n s.1 c all s.2 k) (s:=(_,_)) (λk s=>aF s.1∧s.2.length≤3*k∧ ∀x∈s.2,G m jT x) ⟨hn,bs _,λx hx=>nomatch hx⟩ ω (λn k s hk hI hr=> ?_) (λn s hI=> ?_)
 all_goals unfold cw.l8 cw.Ej
 ·refine ax (λ_=> ?_) λ_=>ω
  refine bt (len:=all.length) (F:=λn' i (z:aE×aL)=>cw.mw N (cw.l8 N n) n' s.1 c all s.2 (k:Int) z.1 z.2 i) (s:=(_,_)) (λi z=>z.1.length≤i∧(∀y∈z.1,LQ y)∧Bg (8+i) z.2) ⟨bs _,(λy hy=>nomatch hy),MQ ω⟩ ω (λn' i z hi hz ed=> ?_) (λn' z hz=> ?_)
  all_goals unfold cw.mw cw.lq
  ·obtain⟨zB,FM,hz3⟩:=hz
   have hx:all.getD i c7∈all:=by rw[aW,bm hi];exact dG hi
   have hy:=iS _ hx
   rw[aw (x:=(i:Int)+1) ω ω,af i,aG]
   exact ax (λ_=>aB ⟨ω,ω⟩ (aB hy.2 (ok_eq (λ_=>aB ⟨ω,ω⟩ (aC (by rw[List.length_singleton];omega) (aB ⟨ω,ω⟩ (ah (bH N ω hy.1.2.1) λu hu=>ah (Cl N ω ω hu) λu hu=>ah (lW N ω ω hz3 (Bg.mono hu ω)) λv hv=>ed (_,_) ⟨by dsimp only;rw[List.length_append,List.length_singleton];omega,λy h=>(List.mem_append.1 h).elim (FM y) (λh=>by rw[List.mem_singleton.1 h];exact hy.1),Bg.mono hv ω⟩)))) λ_=>ed z ⟨ω,FM,Bg.mono hz3 ω⟩))) λ_=>ω
  ·obtain⟨zB,FM,hz3⟩:=hz
   refine ax (λ_=>ω) λ_=>ah (Xc N ω (Bg.mono hz3 ω) hc.2.2.2.2.2.1) λw hw=> ?_
   obtain⟨p,hp⟩: ∃p:Nat,w=(p:Int):=⟨w.toNat,ω⟩
   subst hp
   refine bt (len:=p) (F:=λLb j (t:Int×bL)=>cw.J4 N (cw.l8 N n) Lb t.1 c all t.2 (k:Int) z.1 (p:Int) j) (s:=s) (λj t=>aF t.1∧t.2.length≤3*k+j∧ ∀x∈t.2,G m jT x) hI ω (λLb j t hj ht aaf=> ?_) (λLb t ht=> ?_)
   all_goals unfold cw.J4 cw.Qf
   ·obtain⟨w8,T6,ht3⟩:=ht
    refine ax (λ_=> ?_) λ_=>ω
    refine bt (len:=z.1.length) (F:=λn3 i u=>cw.NI N (cw.l8 N n) (cw.J4 N (cw.l8 N n) Lb) n3 t.1 c all t.2 (k:Int) z.1 (p:Int) (j:Int) (t.1,(cn,((0:Int),((1:Int),c7)))) u i) (λi u=>L2 i u) G.nil ω (λn3 i u hi hu Va=> ?_) (λn3 u hu=> ?_)
    all_goals unfold cw.NI cw.Qb
    ·have Js:=hu.1
     have hq:=ai8 FM i
     have oR:=hq
     unfold LQ aF ri at oR
     have aqw: ∀q:Int,0≤q→q<9223372036854775808→Ok (λr=>LL m r.1∧r.1.length≤12) (cw.Xf N (cw.l8 N n) (cw.J4 N (cw.l8 N n) Lb) (cw.NI N (cw.l8 N n) (cw.J4 N (cw.l8 N n) Lb) n3) t.1 c all t.2 (k:Int) z.1 (p:Int) (j:Int) (t.1,(cn,((0:Int),((1:Int),c7)))) u (i:Int) q):=λq h0 h1=>by
      unfold cw.Xf cw.Qg
      obtain⟨e1,e2⟩:=aaw (k:=p) h0 h1 ω ω
      have aqx: ∀v:List Int,v.length=p→KV v→Ok (λr=>LL m r.1∧r.1.length≤12) (cw.j32 N (cw.l8 N n) (cw.J4 N (cw.l8 N n) Lb) (cw.NI N (cw.l8 N n) (cw.J4 N (cw.l8 N n) Lb) n3) t.1 c all t.2 (k:Int) z.1 (p:Int) (j:Int) (t.1,(cn,((0:Int),((1:Int),c7)))) u (i:Int) v):=λv Sj hv2=>by
       unfold cw.j32 cw.alA
       rw[aw (x:=(i:Int)+1) ω ω,af i]
       have hx:G 0 kM ((z.1.getD (i:Int).toNat c7).1,(v.getD (j:Int).toNat 0,())):=G2 (ai8 FM _).1 (uV hv2 _)
       exact aB ⟨ω,ω⟩ (bM (λ_=>aB ⟨ω,ω⟩ (aB ⟨ω,ω⟩ (aC (by rw[aJ];omega) (Va _ (G.cat hu (G.one hx (aH 1))))))) λ_=>Va u (G.mono ω hu))
      refine bV (ZZ N hN h1) (aB ⟨ω,ω⟩ (ax (λ_=>aB ⟨ω,ω⟩ (aB ⟨ω,ω⟩ (aqx _ (by rw[bU];exact e1) λy hy=> ?_))) λ_=>aqx _ e1 e2))
      rcases vq hy with hy|rfl
      ·exact e2 y hy
      ·exact gJ _
     rw[aG]
     refine ax (λ_=>aB ⟨ω,ω⟩ (ax (λeU=> ?_) λL1=> ?_)) λ_=>ω
     ·have g: ∀x:Int,-9223372036854775808≤x∧x≠ -9223372036854775808→x<0→0≤W .i64 (0-x)∧W .i64 (0-x)<9223372036854775808:=λx h1 h2=>by rw[aw ω ω];omega
      have gx:=g _ ⟨oR.2.1.1,oR.2.2⟩ eU
      exact aqw _ gx.1 gx.2
     ·exact aqw _ L1 oR.2.1.2
    ·have Js:=hu.1
     rw[aw (x:=(j:Int)+1) ω ω,af j]
     have hum:L2 m u:=G.mono ω hu
     refine ax (λ_=>ω) λ_=>ok_eq (λ_=>aaf t ⟨w8,ω,ht3⟩) λ_=> ?_
     unfold aax
     refine ah (Q:=λr=>Bg 60000 r.1) (ah (Dx N ω ω hc hum _) λr hr=>aq hr) λa ha=>ah (rL N ω ω ha) λd hd=>ah (yr N hd) λv hv=>bI (λ_=>aq ⟨G.nil,Nat.zero_le _⟩) λ_=>aC (by rw[List.length_singleton];omega) (aaf (_,_) ⟨gJ _,by dsimp only;rw[List.length_append,List.length_singleton];omega,λx hx=> ?_⟩)
     rcases bn.1 hx with hx|hx
     ·exact ht3 x hx
     ·rw[cy.1 hx];exact⟨w8,hum,hv,(show aF 1 from bz),cc,cc,trivial⟩
   ·rw[aw (x:=(k:Int)+1) ω ω,af k]
    exact ax (λ_=>ω) λ_=>hr t ⟨ht.1,by have:=ht.2.1;omega,ht.2.2⟩
 ·exact ax (λ_=>ω) λ_=>aq ⟨⟨by have:=hI.2.1;dsimp only;omega,hI.2.2⟩,by have:=hI.2.1;dsimp only;omega⟩
theorem adO(hN:5000000≤N){c:ae}{b:an}{m:Nat}(h2:200≤m)(hm:m≤40000)(hc:G m aA c)(hb:G m aK b){next:Int}(hn:aF next):Ok (λr=>LL m r.1) (cw N c b next):=Mu (U9 N hN h2 hm hc hb hn) λ_ h=>h.1
theorem vg(hN:200000≤N){l:aE}(hl:l.length≤100000):Ok (λ_=>True) (qo N l):=by
 unfold qo qo.b
 refine m8 (len:=l.length) (F:=λn i=>qo.l2 N n l i) ω (λn i hi hr=> ?_) (λn=> ?_)
 all_goals unfold qo.l2 qo.fN
 ·rw[aw (x:=(i:Int)+1) ω ω,af i]
  dsimp only
  repeat' first|exact hr|exact fO|refine aB ⟨ω,ω⟩ ?_|refine aB (by rw[aw (x:=(i:Int)-1) ω ω];omega) ?_|refine ax (λ_=> ?_) (λ_=> ?_)|refine eR (λ_=> ?_) (λ_=> ?_)|refine ok_eq (λ_=> ?_) (λ_=> ?_)|(exfalso;omega)
 ·exact ax (λ_=>ω) λ_=>fO
theorem Xg(hN:200000≤N){l:List Int}(hl:l.length≤100000):Ok (λ_=>True) (sQ N l):=by
 unfold sQ sQ.b
 refine m8 (len:=l.length) (F:=λn i=>sQ.l2 N n l i) ω (λn i hi hr=> ?_) (λn=> ?_)
 all_goals unfold sQ.l2 sQ.fN
 ·rw[aw (x:=(i:Int)+1) ω ω,af i]
  dsimp only
  repeat' first|exact hr|exact fO|refine aB ⟨ω,ω⟩ ?_|refine aB (by rw[aw (x:=(i:Int)-1) ω ω];omega) ?_|refine ax (λ_=> ?_) (λ_=> ?_)|refine eR (λ_=> ?_) (λ_=> ?_)|refine ok_eq (λ_=> ?_) (λ_=> ?_)|(exfalso;omega)
 ·exact ax (λ_=>ω) λ_=>fO
theorem aay(hN:200000≤N)(a:Int){L:bL}{l:aN}{m:Nat}(hm:m≤50000)(hL:LL m L)(hl:G m (.slice ff) l):Ok aF (kk N a L l):=by
 have h1:=hL.1
 have h2:=hl.1
 have i3:aF 3:=bz
 have i2:aF 2:=bz
 unfold kk kk.b
 refine bt (len:=l.length) (F:=λn i v=>kk.l3 N n a L l v i) (λ_ v=>aF v) (show aF 1 from bz) ω (λn i v hi hv hr=> ?_) (λn v hv=> ?_)
 all_goals unfold kk.l3 kk.nY
 ·rw[aw (x:=(i:Int)+1) ω ω,af i]
  exact ax (λ_=>aB ⟨ω,ω⟩ (bM (λ_=>hr v hv) λ_=>aB ⟨ω,ω⟩ (ah (Ix N hN hm hL _) λ_ _=>qc (λ_=>aB ⟨ω,ω⟩ (eR (λ_=>hr _ (BY hv i3)) λ_=>hr _ (BY hv i2))) λ_=>hr _ (BY hv i2)))) λ_=>ω
 ·refine ax (λ_=>ω) λ_=>bt (len:=L.length) (F:=λn i v=>kk.nJ N n a L v i) (λ_ v=>aF v) hv ω (λn i v hi hv hr=> ?_) (λn v hv=> ?_)
  all_goals unfold kk.nJ kk.mN
  ·rw[aw (x:=(i:Int)+1) ω ω,af i]
   exact ax (λ_=>aB ⟨ω,ω⟩ (ok_eq (λ_=>aB ⟨ω,ω⟩ (ok_eq (λ_=>hr 4 bz) λ_=>hr v hv)) λ_=>hr v hv)) λ_=>ω
  ·exact ax (λ_=>ω) λ_=>aq hv
theorem Qh(hN:200000≤N)(c:ae){d:aE}{u:List Int}{L:bL}{l:aN}{m:Nat}(h2:200≤m)(hm:m≤50000)(hd:L2 m d)(hu:u.length≤m)(hL:LL m L)(hl:G m (.slice ff) l):Ok (λr=>L2 m r.1) (dS N c d u L l):=by
 have h3:=hd.1
 have h4:=hL.1
 have h5:=hl.1
 have hw:KP L:=λy hy=>ck (hL.2 y hy).2.1.1 ω
 unfold dS dS.b
 refine ah (vg N hN ω) λ_ _=>bI (λ_=>aq G.nil) λ_=>ah (Xg N hN ω) λ_ _=>bI (λ_=>aq G.nil) λ_=>bV (B8 N hN c ω hw) (bI (λ_=>aq G.nil) λ_=>bV (u7 N ω hN) (bI (λ_=>aq G.nil) λ_=>jk (len:=13) (F:=λn i s=>dS.l5 N n d u L l s i) (λi s=>L2 i s) (λn i s hi hI hr=> ?_) (λn s hI=> ?_) 13 N 1 [] ω ω ω G.nil))
 all_goals unfold dS.l5 dS.dV
 ·have hs:=hI.1
  refine eR (λ_=> ?_) λ_=>ω
  refine bt (len:=d.length) (F:=λn' j (z:Int×Bool)=>dS.l9 N (dS.l5 N n) n' d u L l s (i:Int) z.1 z.2 j) (s:=(_,_)) (λ_ z=>aF z.1) cc ω (λn' j z hj hz ed=> ?_) (λn' z hz=> ?_)
  all_goals unfold dS.l9 dS.uX
  ·rw[aw (x:=(j:Int)+1) ω ω,af j]
   exact ax (λ_=>aB ⟨ω,ω⟩ (ok_eq (λ_=>aB ⟨ω,ω⟩ (ed (_,_) (G.at hd _).2.1)) λ_=>ed z hz)) λ_=>ω
  ·refine ax (λ_=>ω) λ_=>bt (len:=u.length) (F:=λn' j f=>dS.KZ N (dS.l5 N n) n' d u L l s (i:Int) z.1 f j) (λ_ _=>True) trivial ω (λn' j f hj _ ed=> ?_) (λn' f _=> ?_)
   all_goals unfold dS.KZ dS.Ib
   ·rw[aw (x:=(j:Int)+1) ω ω,af j]
    exact ax (λ_=>qc (λ_=>ed _ trivial) λ_=>aB ⟨ω,ω⟩ (ed _ trivial)) λ_=>ω
   ·refine ax (λ_=>ω) λ_=>bt (len:=l.length) (F:=λn' j f=>dS.Jr N (dS.l5 N n) n' d u L l s (i:Int) z.1 f j) (λ_ _=>True) trivial ω (λn' j f hj _ ed=> ?_) (λn' f _=> ?_)
    all_goals unfold dS.Jr dS.Fm
    ·rw[aw (x:=(j:Int)+1) ω ω,af j]
     exact ax (λ_=>qc (λ_=>ed _ trivial) λ_=>aB ⟨ω,ω⟩ (ed _ trivial)) λ_=>ω
    ·rw[aw (x:=(i:Int)+1) ω ω,af i]
     dsimp only
     exact ax (λ_=>ω) λ_=>qc (λ_=>ah (aay N hN _ hm hL hl) λv hv=>aC (by rw[aJ];omega) (hr _ (G.cat hI (G.one (m:=1) (G2 (jE ω ω) (BY hz hv)) (aH 1))))) λ_=>hr s (G.mono ω hI)
 ·exact eR (λ_=>ω) λ_=>aq (G.mono ω hI)
theorem aaz(hN:200000≤N){l:aE}(hl:l.length≤100000)(a:Int):Ok (λ_=>True) (sR N l a):=by
 unfold sR sR.b
 refine ah (vg N hN hl) λ_ _=>bI (λ_=>fO) λ_=>m8 (len:=l.length) (F:=λn i=>sR.l4 N n l a i) ω (λn i hi hr=> ?_) (λn=> ?_)
 all_goals unfold sR.l4 sR.dM
 ·rw[aw (x:=(i:Int)+1) ω ω,af i]
  exact ax (λ_=>aB ⟨ω,ω⟩ (ok_eq (λ_=>aB ⟨ω,ω⟩ fO) λ_=>hr)) λ_=>ω
 ·exact ax (λ_=>ω) λ_=>fO
theorem MW(a:Int):Ok (λ_=>True) (aaA N a):=by
 unfold aaA
 exact ok_eq (λ_=>fO) λ_=>fO
theorem Iy(hN:5000000≤N)(c:ae){b:an}{d:aE}{m:Nat}(hm:m≤50000)(hb:G m aK b)(hd:L2 m d)(a k:Int):Ok (λr=>G m (.slice (.int .i64)) r.1) (sS N c b d a k):=by
 have hl:=hb.1.1
 have h2:=hd.1
 unfold sS sS.b
 refine bV (eo N hN hm hb) (bI (λ_=>aq G.nil) λ_=>ah (vg N ω ω) λ_ _=>bI (λ_=>aq G.nil) λ_=>bt (len:=b.1.length) (F:=λn i s=>sS.l5 N n d a k b s i) (λi s=>G i (.slice (.int .i64)) s) G.nil ω (λn i s hi hI hr=> ?_) (λn s hI=> ?_))
 all_goals unfold sS.l5 sS.dV
 ·have hs:=hI.1
  rw[aw (x:=(i:Int)+1) ω ω,af i]
  have h1:=hr s (G.mono ω hI)
  have hx:G 0 (.int .i64) (b.1.getD (i:Int).toNat c7).1:=(G.at hb.1 _).1
  exact ax (λ_=>aB ⟨ω,ω⟩ (ah (MW N _) λ_ _=>qc (λ_=>bM (λ_=>ah (ny N ω hm hb.2.2.1 _ _) λ_ _=>ax (λ_=>ah (aaz N ω ω _) λ_ _=>ok_eq (λ_=>aC (by rw[aJ];omega) (hr _ (G.cat hI (G.one hx (aH 1))))) λ_=>h1) λ_=>h1) λ_=>h1) λ_=>h1)) λ_=>ω
 ·exact ax (λ_=>ω) λ_=>aq (G.mono hl hI)
theorem Cn(hN:200000≤N){a:aN}{m:Nat}(hm:m≤50000)(h:G m (.slice ff) a)(id:Int):Ok aF (nq N a id):=by
 refine nK (rJ N (ck h.1 ω) hN id) ?_
 unfold ox
 split
 ·have: ∀l:aN,(∀x∈l,G m ff x)→aF (ow id l):=by
   intro l
   induction l with
   |nil=>intro _;exact cc
   |cons x t ih=>
    intro hx
    have hi:=ih λy hy=>hx y (ba _ hy)
    rw[tK]
    split
    ·split
     ·exact(hx x (bu ..)).1
     ·exact hi
    ·exact hi
  exact this a h.2
 ·exact cc
abbrev L5(m:Nat)(l:bE):Prop:=G m (.slice sT) l
theorem G5{m:Nat}{a b c d e:Int}(ha:aF a)(hb:aF b)(hc:aF c)(hd:aF d)(he:aF e):G m sT (a,(b,(c,(d,(e,()))))):=⟨ha,hb,hc,hd,he,trivial⟩
theorem MX(hN:200000≤N){l:bE}{b:an}{m k:Nat}(hm:m≤50000)(hb:G m aK b)(hk:k≤1000000)(hl:L5 k l){a d n:Int}(ha:aF a)(hd:aF d)(hn:aF n):Ok (λr=>L5 (k+1) r) (MY N l b a d n):=by
 have h1:=hl.1
 unfold MY
 exact ah (ny N hN hm hb.2.2.1 _ _) λx hx=>ax (λ_=>aC (by rw[aJ];omega) (aq (G.cat hl (G.one (m:=1) (G5 ha hd hn hx cc) (aH 1))))) λ_=>aq (G.mono ω hl)
theorem Qi(hN:5000000≤N){c:ae}{b:an}{d g:aE}{a:Int}{m:Nat}(hm:m≤50000)(hc:G m aA c)(hb:G m aK b)(hd:L2 m d)(hg:L2 m g)(ha:aF a):Ok (λr=>L5 1000000 r.1) (c8 N c b a d g):=by
 have h1:=hb.1.1
 have h2:=hd.1
 have h3:=hg.1
 have h4:=hb.2.1.1
 have hj: ∀l:bE,L5 1 l→Ok (λr=>L5 1000000 r.1) (c8.j9 N a d g c b l):=λl hl=>by
  unfold c8.j9 c8.Pe
  refine ah (MX N ω hm hb ω hl bz bz ha) λl hl=>ah (MX N ω hm hb ω hl bz bz cc) λl hl=>jk (len:=5) (F:=λn k s=>c8.nJ N n a d g c b s k) (λk s=>L5 (3+m*k) s) (λn k s hk hs hr=> ?_) (λn s hs=> ?_) 5 N 1 l ω ω ω (G.mono ω hl)
  all_goals unfold c8.nJ c8.mN
  ·have hmk:m*k≤m*4:=mW m ω
   refine eR (λ_=>ah (Iy N hN c hm hb hd _ _) λt ht=> ?_) λ_=>ω
   have htl:=ht.1
   refine bt (len:=t.1.length) (F:=λn' j u=>c8.yc N (c8.nJ N n) n' a d g c b u (k:Int) t.1 j) (λj u=>L5 (3+m*k+j) u) hs ω (λn' j u hj hu ed=> ?_) (λn' u hu=> ?_)
   all_goals unfold c8.yc c8.wX
   ·rw[aw (x:=(j:Int)+1) ω ω,af j]
    exact ax (λ_=>aB ⟨ω,ω⟩ (ah (MX N ω hm hb ω hu (gJ _) bz (G.at ht _)) λv hv=>ed v hv)) λ_=>ω
   ·rw[aw (x:=(k:Int)+1) ω ω,af k]
    exact ax (λ_=>ω) λ_=>hr u (G.mono (by rw[rX];omega) hu)
  ·refine eR (λ_=>ω) λ_=>bt (len:=b.1.length) (F:=λn j u=>c8.J4 N n a g c b u j) (λj u=>L5 (3+m*5+j) u) hs ω (λn j u hj hu hr=> ?_) (λn u hu=> ?_)
   all_goals unfold c8.J4 c8.Qf
   ·have Js:=hu.1
    have hx:aF (b.1.getD (j:Int).toNat c7).1:=(G.at hb.1 _).1
    rw[aw (x:=(j:Int)+1) ω ω,af j]
    have h0:=hr u (G.mono ω hu)
    exact ax (λ_=>aB ⟨ω,ω⟩ (ah (MW N _) λ_ _=>bI (λ_=>h0) λ_=>ok_eq (λ_=>h0) λ_=>ah (bH N ω hc.2.2.1) λp hp=>ah (ny N ω hm hb.2.2.1 _ _) λq hq=>ah (bH N ω hq) λq hq=>ah (mQ N ω ω ω hp hq) λy hy=>ah (yr N hy) λv hv=>bI (λ_=>aq G.nil) λ_=>ax (λ_=>aC (by rw[aJ];omega) (hr _ (G.mono ω (G.cat hu (G.one (m:=1) (G5 (show aF 8 from bz) (show aF 7 from bz) hx hv cc) (aH 1)))))) λ_=>h0)) λ_=>ω
   ·refine ax (λ_=>ω) λ_=>bt (len:=g.length) (F:=λn j u=>c8.Pv N n a g b u j) (λj u=>L5 (3+m*5+m+j) u) (G.mono ω hu) ω (λn j u hj hu hr=> ?_) (λn u hu=> ?_)
    all_goals unfold c8.Pv c8.MA
    ·have Js:=hu.1
     rw[aw (x:=(j:Int)+1) ω ω,af j]
     have h0:=hr u (G.mono ω hu)
     dsimp only
     exact ax (λ_=>aB ⟨ω,ω⟩ (ah (zd N ω hm hb.2.1 _) λx hx=>aB ⟨ω,ω⟩ (aB ⟨ω,ω⟩ (ah (ny N ω hm hb.2.2.1 _ _) λq hq=>qc (λ_=>bM (λ_=>ax (λ_=>aC (by rw[aJ];omega) (hr _ (G.mono ω (G.cat hu (G.one (m:=1) (G5 (show aF 9 from bz) (show aF 5 from bz) hx.1 (Zy (G.at hg _).2.1 hq) cc) (aH 1)))))) λ_=>h0) λ_=>h0) λ_=>h0)))) λ_=>ω
    ·exact ax (λ_=>ω) λ_=>aq (G.mono ω hu)
 unfold c8 c8.b
 exact bV (eo N hN hm hb) (bI (λ_=>aq G.nil) λ_=>ah (vg N ω ω) λ_ _=>bI (λ_=>aq G.nil) λ_=>ah (Dv N ω ω) λ_ _=>bI (λ_=>aq G.nil) λ_=>ah (px N ω hm hb.1 _) λ_ _=>ok_eq (λ_=>aq G.nil) λ_=>ah (Cn N ω hm hb.2.1 _) λh hh=>bM (λ_=>ah (MX N ω hm hb ω (G.nil (m:=0)) bz bz hh) λl hl=>hj l hl) λ_=>hj [] G.nil)
theorem Li(hN:5000000≤N)(c:ae){b:an}{m:Nat}(hm:m≤50000)(hb:G m aK b):Ok (λr=>aF r.1) (adP N c b):=by
 unfold adP
 exact bV (eo N hN hm hb) (bI (λ_=>aq cc) λ_=>ah (ny N ω hm hb.2.2.1 _ _) λx hx=>ok_eq (λ_=>aq cc) λ_=>aq (BY (gJ _) cc))
theorem Iz(hN:5000000≤N)(c:ae){b:an}{m:Nat}(hm:m≤50000)(hb:G m aK b):Ok (λr=>aF r.1) (adQ N c b):=by
 unfold adQ
 exact bV (eo N hN hm hb) (bI (λ_=>aq cc) λ_=>ah (ny N ω hm hb.2.2.1 _ _) λx hx=>aq (BY hx cc))
theorem alB(a b:Int):Ok (λ_=>True) (F97 N a b):=by
 unfold F97
 repeat' first|exact fO|refine ok_eq (λ_=> ?_) (λ_=> ?_)|refine eR (λ_=> ?_) (λ_=> ?_)
theorem Xh(hN:200000≤N)(l:bE):Ok (λr=>r=true→l.length≤64) (sU N l):=by
 have hf:Ok (λr=>r=true→l.length≤64) (some false):=aq λh=>nomatch h
 unfold sU sU.b
 refine ax (λ_=>hf) λhl=>m8 (len:=l.length) (F:=λn i=>sU.l4 N n l i) ω (λn i hi hr=> ?_) (λn=> ?_)
 all_goals unfold sU.l4 sU.dM
 ·rw[aw (x:=(i:Int)+1) ω ω,af i]
  dsimp only
  repeat' first|exact hr|exact hf|refine aB ⟨ω,ω⟩ ?_|refine aB (by rw[aw (x:=(i:Int)-1) ω ω];omega) ?_|refine ax (λ_=> ?_) (λ_=> ?_)|refine eR (λ_=> ?_) (λ_=> ?_)|refine ok_eq (λ_=> ?_) (λ_=> ?_)|(exfalso;omega)|refine ah (alB N _ _) λ_ _=> ?_|refine bI (λ_=> ?_) (λ_=> ?_)
 ·exact ax (λ_=>ω) λ_=>aq λ_=>ω
theorem Vb{σ β:Type}{P:β→Prop}{F:Nat→Int→σ→Option β}{len:Nat}(I:σ→Prop)
  (hs: ∀n i s,i<len→I s→(∀j s',i<j→j≤len→I s'→Ok P (F n (j:Int) s'))→Ok P (F (n+1) (i:Int) s)) (he: ∀n s,I s→Ok P (F (n+1) (len:Int) s)):
  ∀m n i s,len-i≤m→m<n→i≤len→I s→Ok P (F n (i:Int) s)
 |m,0,i,s,_,hn,_,_=>ω
 |m,n+1,i,s,hm,hn,hi,hI=>by
  by_cases h:i<len
  ·exact hs n i s h hI λj s' hj XV zD=>Vb I hs he (m-1) n j s' ω ω XV zD
  ·have:i=len:=ω
   subst this
   exact he n s hI
theorem G5q{m:Nat}{x:kQ}{q:Int}(h:G m sT x)(hq:aF q):G m sT (x.1,(x.2.1,(x.2.2.1,(x.2.2.2.1,(q,x.2.2.2.2.2))))):=⟨h.1,h.2.1,h.2.2.1,h.2.2.2.1,hq,trivial⟩
theorem aqy: ∀{w:List Int},Pos w→0≤w.sum
 |[],_=>fY _
 |x::t,h=>by
  rw[cN]
  have:=h x (bu ..)
  have:=aqy (w:=t) λy hy=>h y (ba _ hy)
  omega
theorem Xi{t:Int}{w:List Int}(h1:t<9223372036854775808)(h:(sI t w).2=0):(sI t w).1.length=w.length∧KV (sI t w).1:=by
 unfold sI at h ⊢
 split at h
 ·exact absurd h δ
 ·split at h
  ·exact absurd h δ
  ·rename_i h2 h3
   split at h
   ·split at h
    ·rename_i h4 h5
     rw[ag h2,ag h3,ak h4,ak h5]
     exact⟨c9 ..,λx hx=>by rw[AK hx];decide⟩
    ·exact absurd h δ
   ·rename_i h4
    rw[ag h2,ag h3,ag h4]
    have hm:may w=true:=by
     by_cases hm:may w=true
     ·exact hm
     ·exact absurd (Or.inr (xj.2 hm)) h2
    have hp:=(pP.1 hm).2
    have h0:0≤t:=ω
    have hS:0<w.sum:=by have:=aqy hp;omega
    exact⟨pv t w,ai7 (wo h0 hS hp) (by rw[wm h0 hS];exact h1)⟩
theorem adR{α:Type}{Q:α→Prop}{l:List α}{x:α}{k:Nat}(h: ∀y∈l,Q y)(hx:Q x): ∀y∈l.set k x,Q y:=λy hy=>by
 rcases vq hy with hy|rfl
 ·exact h y hy
 ·exact hx
theorem Vc{α:Type}{Q:α→Prop}{l:List α}{d:α}{k:Nat}(h: ∀y∈l,Q y)(hk:k<l.length):Q (l.getD k d):=by
 rw[aW,bm hk];exact h _ (dG hk)
theorem Lj(hN:5000000≤N){l:bE}{q:Int}{Q:kQ→Prop}(hQ: ∀x,Q x→aF x.2.2.2.1)(hU: ∀(x:kQ) (v:Int),Q x→aF v→Q (x.1,(x.2.1,(x.2.2.1,(x.2.2.2.1,(v,x.2.2.2.2.2))))))(hl: ∀x∈l,Q x)(hq:aF q):Ok (λr=>(r.1.length≤64∧ ∀x∈r.1,Q x)∧aF r.2.1) (dZ N l q):=by
 have et: ∀e:Int,Ok (λr:bE×Int×Int=>(r.1.length≤64∧ ∀x∈r.1,Q x)∧aF r.2.1) (some ([],((0:Int),e))):=λe=>aq ⟨⟨bs _,λx hx=>nomatch hx⟩,cc⟩
 unfold dZ dZ.b
 refine ah (Xh N ω l) λz hz=>bI (λ_=>et _) λht=>ax (λ_=>et _) λ_=> ?_
 have kP:=hz ht
 rw[cD]
 refine aC (by rw[bZ];omega) (Vb (len:=l.length) (F:=λn i (s:bE×Int)=>dZ.l5 N n s.1 s.2 i) (λs=>s.1.length=l.length∧(∀x∈s.1,Q x)∧aF s.2) (λn i s hi hI hr=> ?_) (λn s hI=> ?_) l.length N 0 (l,q) ω ω ω ⟨rfl,hl,hq⟩)
 all_goals unfold dZ.l5 dZ.dV
 ·obtain⟨NA,Wd,hs3⟩:=hI
  refine ax (λ_=> ?_) λ_=>ω
  have fin: ∀(k:Nat) (w:List Int),i<k→k≤l.length→w.length=k-i→KV w→Ok (λr=>(r.1.length≤64∧ ∀x∈r.1,Q x)∧aF r.2.1) (dZ.Lg N (dZ.l5 N n) s.1 s.2 (i:Int) (k:Int) w):=λk w hk Bq hw Ic=>by
   unfold dZ.Lg dZ.Du
   have CI:aF (mn (C0 w.sum).1 s.2):=Zy (aae _) hs3
   refine bV (Ad N ω Ic ω) (bV (uk N _) (bI (λ_=>et _) λ_=>bV (Dq N hN CI.2 Ic ω) (bM (λ_=>et _) λh0=> ?_)))
   obtain⟨e1,e2⟩:=Xi CI.2 h0
   generalize (sI (mn (C0 w.sum).1 s.2) w).1=v at*
   refine jk (len:=k) (F:=λn' j (z:bE×Int)=>dZ.Jr N (dZ.l5 N n) n' z.1 z.2 (i:Int) (k:Int) v j) (λj z=>i≤j∧z.1.length=l.length∧(∀x∈z.1,Q x)∧aF z.2) (λn' j z hj hz ed=> ?_) (λn' z hz=> ?_) k N i s ω ω ω ⟨aH i,NA,Wd,hs3⟩
   all_goals unfold dZ.Jr dZ.Fm
   ·obtain⟨qw,zB,FM,hz3⟩:=hz
    dsimp only
    rw[aw (x:=(j:Int)+1) ω ω,af j,aw (x:=(j:Int)-i) ω ω]
    exact ax (λ_=>aB ⟨ω,ω⟩ (aB ⟨ω,ω⟩ (aB ⟨ω,ω⟩ (ed (_,_) ⟨ω,by dsimp only;rw[List.length_set];exact zB,adR FM (hU _ _ (Vc FM ω) (uV e2 _)),gJ _⟩)))) λ_=>ω
   ·exact ax (λ_=>ω) λ_=>hr k z hk Bq hz.2
  refine jk (len:=l.length) (F:=λn' k w=>dZ.l8 N (dZ.l5 N n) n' s.1 s.2 (i:Int) k w) (λk w=>i≤k∧w.length=k-i∧KV w) (λn' k w hk hw ed=> ?_) (λn' w hw=> ?_) l.length N i [] ω ω ω ⟨aH i,by rw[bZ];omega,λx hx=>nomatch hx⟩
  all_goals unfold dZ.l8 dZ.Ej
  ·obtain⟨hik,hwl,Ic⟩:=hw
   rw[aw (x:=(k:Int)+1) ω ω,af k]
   refine ax (λ_=>aB ⟨ω,ω⟩ (aB ⟨ω,ω⟩ (ok_eq (λ_=>aB ⟨ω,ω⟩ (aC (by rw[aJ];omega) (ed _ ⟨ω,by rw[aS,aJ];omega,λx hx=> ?_⟩))) λkN=> ?_))) λ_=>ω
   ·rcases bn.1 hx with hx|hx
    ·exact Ic x hx
    ·rw[cy.1 hx];exact hQ _ (Vc Wd ω)
   ·refine fin k w ?_ ω hwl Ic
    by_cases e:k=i
    ·subst e;exact absurd rfl kN
    ·omega
  ·exact ax (λ_=>ω) λ_=>fin l.length w hi (aH _) hw.2.1 hw.2.2
 ·exact ax (λ_=>ω) λ_=>aq ⟨⟨by have:=hI.1;dsimp only;omega,hI.2.1⟩,hI.2.2⟩
theorem Tl(hN:5000000≤N){l:bE}{q:Int}{m:Nat}(hl:L5 m l)(hq:aF q):Ok (λr=>L5 64 r.1∧aF r.2.1) (dZ N l q):=
 Lj N hN (Q:=G 64 sT) (λx hx=>hx.2.2.2.1) (λx v hx hv=>G5q hx hv) (λx hx=>G.mono (m:=0) (bs _) (hl.2 x hx)) hq
abbrev R0:ew:=((0:Int),((0:Int),(([]:bE),((0:Int),()))))
theorem Lk(hN:5000000≤N){c:ae}{b:an}{d g:aE}{a:Int}{m:Nat}(h2:200≤m)(hm:m≤40000)(hc:G m aA c)(hb:G m aK b)(hd:L2 m d)(hg:L2 m g)(ha:aF a):Ok (λr=>G m aK r.1∧G m iz r.2.1) (jb N c b a d g):=by
 have et: ∀e:Int,Ok (λr:an×ew×Int=>G m aK r.1∧G m iz r.2.1) (some ((cn,(cW,(bo,(bo,(di,(du,())))))),(R0,e))):=λe=>aq ⟨G.jH,G.zero m iz⟩
 unfold jb jb.b
 refine ah (Qi N hN ω hc hb hd hg ha) λl hl=>ok_eq (λ_=>et _) λ_=>ok_eq (λ_=>et _) λ_=>ah (Li N hN c ω hb) λq hq=>bM (λ_=>et _) λ_=>bM (λ_=>et _) λ_=>ah (Tl N hN hl hq) λz ⟨zB,FM⟩=>bM (λ_=>et _) λ_=> ?_
 have hzl:=zB.1
 have hj: ∀(p:bO) (r:ew) (t:bE) (x k n:Int),kR 1000 p→G m iz r→L5 64 t→aF x→Ok (λr=>G m aK r.1∧G m iz r.2.1) (jb.j26 N b (cn,(cW,(bo,(bo,(di,(du,())))))) R0 p r t x k n):=λp r t x k n hp hr ht hx=>by
  have zC:=hp.1
  unfold jb.j26 jb.adS
  exact ah (bH N ω hx) λv hv=>ah (tX N ω _ _ _ _ (Bg.mono hv ω)) λu hu=>aC (by have:=hu.1;omega) (ah (tW N ω h2 ω hb G.nil (kR.mono (kR.app hp hu) ω)) λw hw=>bM (λ_=>et _) λ_=>aq ⟨hw,hr.1,hr.2.1,G.mono ω ht,hr.2.2.2⟩)
 refine bt (len:=z.1.length) (F:=λn i (s:bO×ew×bE)=>jb.KK N n a c b (cn,(cW,(bo,(bo,(di,(du,())))))) R0 z.1 z.2.1 s.1 s.2.1 s.2.2 i) (s:=(_,(_,_))) (λi s=>kR (2*i) s.1∧G m iz s.2.1∧L5 i s.2.2) ⟨kR.nil,⟨ha,hq,G.nil,FM,trivial⟩,G.nil⟩ ω (λn i s hi hI hr=> ?_) (λn s hI=> ?_)
 all_goals unfold jb.KK jb.JY
 ·obtain⟨h4,h5,h6⟩:=hI
  have hp:=h4.1
  have ht:=h6.1
  have hx:G 0 sT (z.1.getD (i:Int).toNat gv):=G.at zB _
  rw[aw (x:=(i:Int)+1) ω ω,af i]
  exact ax (λ_=>aB ⟨ω,ω⟩ (ax (λ_=>aB ⟨ω,ω⟩ (aC (by rw[aJ];omega) (aB ⟨ω,ω⟩ (aB ⟨ω,ω⟩ (aB ⟨ω,ω⟩ (ah (bH N ω hx.2.2.2.2.1) λv hv=>ah (tX N ω _ _ _ _ (Bg.mono hv ω)) λu hu=>aC (by have:=hu.1;omega) (hr (_,(_,_)) ⟨kR.mono (kR.app h4 hu) ω,⟨h5.1,h5.2.1,G.nil,h5.2.2.2⟩,G.cat h6 (G.one hx (aH 1))⟩))))))) λ_=>hr s ⟨kR.mono h4 ω,h5,G.mono ω h6⟩)) λ_=>ω
 ·obtain⟨h4,h5,h6⟩:=hI
  have hp:=h4.1
  dsimp only
  exact ax (λ_=>ω) λ_=>ah (bH N ω FM) λv hv=>ah (tX N ω _ _ _ _ (Bg.mono hv ω)) λu hu=>aC (by have:=hu.1;omega) (ah (Iz N hN c ω hb) λx hx=>ah (Cn N ω ω hb.2.1 _) λh hh=>bM (λ_=>hj _ _ _ _ _ _ (kR.mono (kR.app h4 hu) ω) h5 (G.mono ω h6) hx) λ_=>hj _ _ _ _ _ _ (kR.mono (kR.app h4 hu) ω) h5 (G.mono ω h6) hx)
end VM
end
