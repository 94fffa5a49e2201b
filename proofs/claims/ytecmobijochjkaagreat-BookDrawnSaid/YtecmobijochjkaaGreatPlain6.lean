/- A part of the proof of BookDrawn of layer 18: what the functions compute, in plain words. -/
import Derived.Test.YtecmobijochjkaaGreatPlain5
set_option linter.all false
section
namespace VM
open Go VM.F
theorem fJ{α:Type}{r:α}:Ok (λ_=>True) (some r):=aq trivial
theorem Xd(N:Nat)(k:Int):Ok (λs=>ByteArray.size s≤100) (adJ N k):=by
 unfold adJ
 repeat' first|refine ok_eq (λ_=> ?_) (λ_=> ?_)|exact aq δ
theorem Xe(N:Nat)(k f:Int):Ok (λ_=>True) (adK N k f):=by
 unfold adK alw alx
 repeat' first|refine ok_eq (λ_=> ?_) (λ_=> ?_)|exact fJ|refine ag (Q:=λ_=>True) ?_ λ_ _=>fJ
theorem aap(N:Nat)(e:iD)(f:Int):Ok (λ_=>True) (adL N e f):=by
 unfold adL
 repeat' first|refine ok_eq (λ_=> ?_) (λ_=> ?_)|exact fJ
theorem aaq(N:Nat)(e:iD)(f x:Int):Ok (λ_=>True) (adM N e f x):=by
 unfold adM
 repeat' first|refine ok_eq (λ_=> ?_) (λ_=> ?_)|exact fJ
theorem K7(N:Nat)(hN:1000≤N)(e:iD):Ok (λ_=>True) (s0 N e):=by
 unfold s0 s0.b aly
 refine ag (Q:=λ_=>True) (eK (λ_=>fJ) λ_=>fJ) λ_ _=>bG (λ_=>fJ) λ_=>ag (Xd N _) λs hs=> ?_
 refine bs (len:=ByteArray.size s) (F:=λn i (x:iD)=>s0.l6 N n e s x i) (λ_ _=>True) trivial ω (λn i x hi _ hr=> ?_) (λn x _=> ?_)
 all_goals unfold s0.l6 s0.u7
 ·rw[aw (x:=(i:Int)+1) ω ω,af i]
  exact ax (λ_=>aB ⟨ω,ω⟩ (ag (Xe N _ _) λ_ _=>aB ⟨ω,ω⟩ (ag (aap N _ _) λ_ _=>ax (λ_=>fJ) λ_=>ax (λ_=>fJ) λ_=>aB ⟨ω,ω⟩ (ag (aaq N _ _ _) λy _=>hr y trivial)))) λ_=>ω
 ·exact ax (λ_=>ω) λ_=>fJ
theorem G.ins{m:Nat}{e:Ty}{l:List e.den}{x:e.den}(h:G m (.slice e) l)(hx:G m e x)(a b c:Nat)(ha:c≤a):G (m+1) (.slice e) ((([]++List.drop b (List.take c l))++[x])++List.drop a (List.take l.length l)):=by
 have:=h.1
 refine⟨?_,λy hy=> ?_⟩
 ·simp only[cB,aS,dY,cf,aK];omega
 ·rw[cB,bD]at hy
  rcases bn.1 hy with hy|hy
  ·exact G.mono ω (h.2 y (lJ (mW hy)))
  ·rcases bn.1 hy with hy|hy
   ·rw[cw.1 hy];exact G.mono ω hx
   ·exact G.mono ω (h.2 y (lJ (mW hy)))
theorem MH{α:Type}{P:List α×Int→Prop}{l:List α}{x:α}{k:Nat}{e:Int}(hk:k≤l.length)(hl:l.length≤1000000)(h:P ((([]++List.drop (0:Int).toNat (List.take (k:Int).toNat l))++[x])++List.drop (k:Int).toNat (List.take (l.length:Int).toNat l),e)):
  Ok P (cond (jt 0 (k:Int) (l.length:Int) (l.length:Int)) (let v6:List α:=List.drop (0:Int).toNat (List.take (k:Int).toNat l);cond (small (([]:List α).length+v6.length)) (let v7:List α:=[]++v6;cond (small (v7.length+[x].length)) (let v8:List α:=v7++[x];cond (jt (k:Int) (l.length:Int) (l.length:Int) (l.length:Int)) (let v9:List α:=List.drop (k:Int).toNat (List.take (l.length:Int).toNat l);cond (small (v8.length+v9.length)) (some ((v8++v9),e)) none) none) none) none) none):=by
 dsimp only
 have t: ∀a b:Nat,(List.drop a (List.take b l)).length≤l.length:=λa b=>by rw[dY,cf];omega
 have t1:=t (0:Int).toNat (k:Int).toNat
 have t2:=t (k:Int).toNat (l.length:Int).toNat
 refine Dm ⟨ω,ω,ω,ω⟩ (aD (by rw[ca];omega) (aD ?_ (Dm ⟨ω,ω,ω,ω⟩ (aD ?_ (aq h)))))
 ·rw[cB,aK];omega
 ·rw[cB,aS,aK];omega
theorem aar(N:Nat)(hN:200000≤N){a:aE}{m:Nat}(hm:m≤50000)(h:G m (.slice kO) a){id:Int}(bk:aF id):Ok (λr=>G (m+1) (.slice kO) r.1) (ja N a id):=by
 have hl:=h.1
 unfold ja ja.b
 refine bO (nH N ω hN) (bG (λ_=>aq G.nil) λ_=>ax (λ_=>aq G.nil) λ_=>ax (λ_=>aq G.nil) λ_=>bO (iX N ω hN id) (bK (λ_=>aq G.nil) λ_=> ?_))
 have fin: ∀k:Nat,k≤a.length→Ok (λr=>G (m+1) (.slice kO) r.1) (ja.j9 N a id [] (k:Int)):=λk hk=>by
  unfold ja.j9 ja.JF
  have hx:G m kO (id,((1:Int),())):=⟨bk,(show aF 1 from bx),trivial⟩
  exact MH hk ω (by simpa using G.ins h hx k 0 k (aH _))
 refine m7 (len:=a.length) (F:=λn i=>ja.l7 N n a id [] i) ω (λn i hi hr=> ?_) (λn=> ?_)
 all_goals unfold ja.l7 ja.mK
 ·rw[aw (x:=(i:Int)+1) ω ω,af i]
  exact ax (λ_=>aB ⟨ω,ω⟩ (ax (λ_=>hr) λ_=>fin i ω)) λ_=>ω
 ·exact ax (λ_=>ω) λ_=>fin _ (aH _)
theorem G4q{m:Nat}{x:cL}{q:Int}(h:G m fa x)(hq:aF q):G m fa (x.1,(x.2.1,(x.2.2.1,(q,x.2.2.2.2)))):=⟨h.1,h.2.1,h.2.2.1,hq,trivial⟩
theorem G4b{m:Nat}{x:cL}{q:Int}(h:G m fa x)(hq:aF q):G m fa (x.1,(q,x.2.2)):=⟨h.1,hq,h.2.2⟩
theorem G2b{m:Nat}{x:BV}{q:Int}(h:G m kO x)(hq:aF q):G m kO (x.1,(q,x.2.2)):=⟨h.1,hq,trivial⟩
theorem MI(N:Nat)(hN:200000≤N){l:aO}(hl:l.length≤100000):Ok (λ_=>True) (e8 N l):=oJ (sL N hl hN) trivial
theorem adN(N:Nat)(hN:200000≤N){a:aE}{l:aO}{x:cL}{m:Nat}(hm:m≤50000)(ha:G m (.slice kO) a)(h:G m (.slice fa) l)(hx:G 0 fa x):Ok (λr=>G (m+1) (.slice fa) r.1) (fQ N a l x):=by
 have h1:=ha.1
 have hl:=h.1
 have fin: ∀k:Nat,k≤l.length→Ok (λr=>G (m+1) (.slice fa) r.1) (fQ.Dn N l x [] (k:Int)):=λk hk=>by
  unfold fQ.Dn fQ.xa
  exact MH hk ω (by simpa using G.ins h (G.mono (bw m) hx) k 0 k (aH _))
 have hj:Ok (λr=>G (m+1) (.slice fa) r.1) (fQ.E9 N l x):=by
  unfold fQ.E9 fQ.ym
  refine m7 (len:=l.length) (F:=λn i=>fQ.my N n l x [] i) ω (λn i hi hr=> ?_) (λn=> ?_)
  all_goals unfold fQ.my fQ.ly
  ·rw[aw (x:=(i:Int)+1) ω ω,af i]
   exact ax (λ_=>aB ⟨ω,ω⟩ (ax (λ_=>hr) λ_=>fin i ω)) λ_=>ω
  ·exact ax (λ_=>ω) λ_=>fin _ (aH _)
 unfold fQ fQ.b
 exact bO (yi N ω ω hN) (bG (λ_=>aq G.nil) λ_=>ag (MI N hN (by rw[aK];omega)) λ_ _=>bG (λ_=>aq G.nil) λ_=>bO (iX N ω hN _) (ok_eq (λ_=>aq G.nil) λ_=>bK (λ_=>aq G.nil) λ_=>bO (sK N ω hN _) (oZ (λ_=>aq G.nil) λ_=>ok_eq (λ_=>bO (rU N ω hN _) (bK (λ_=>aq G.nil) λ_=>hj)) λ_=>hj)))
theorem aas(N:Nat)(hN:200000≤N){l:aO}{m:Nat}(hm:m≤50000)(h:G m (.slice fa) l){id q:Int}(hq:aF q):Ok (λr=>G m (.slice fa) r.1) (oL N l id q):=by
 have hl:=h.1
 unfold oL oL.b
 refine ag (MI N hN ω) λ_ _=>bG (λ_=>aq G.nil) λ_=>ax (λ_=>aq G.nil) λ_=>ax (λ_=>aq G.nil) λ_=>bO (sK N ω hN _) (bG (λ_=>aq G.nil) λ_=>aD (by rw[ca];omega) ?_)
 rw[cB]
 refine bs (len:=l.length) (F:=λn i s=>oL.l8 N n id q s i) (λ_ s=>s.length=l.length∧G m (.slice fa) s) ⟨rfl,h⟩ ω (λn i s hi hI hr=> ?_) (λn s hI=> ?_)
 all_goals unfold oL.l8 oL.Ef
 ·rw[aw (x:=(i:Int)+1) ω ω,af i]
  have hs:=hI.1
  have hx:=G.at hI.2 (i:Int).toNat
  exact ax (λ_=>aB ⟨ω,ω⟩ (ok_eq (λ_=>aB ⟨ω,ω⟩ (hr _ ⟨by rw[bU];exact hs,G.set hI.2 (G4q hx hq) _⟩)) λ_=>hr s hI)) λ_=>ω
 ·have hs:=hI.1
  exact ax (λ_=>ω) λ_=>aq hI.2
theorem aat(N:Nat)(a b:Int):Ok (λr=>aF r.1) (Xf N a b):=by
 have h: ∀(x:Int) (t:Bool),0≤x∧x<5→Ok (λr:Int×Bool=>aF r.1) (some (x,t)):=λx t hx=>aq (Ti hx δ)
 unfold Xf
 repeat' first|refine ok_eq (λ_=> ?_) (λ_=> ?_)|exact h _ _ δ
theorem MJ(N:Nat)(hN:200000≤N){l:aE}{m:Nat}(hm:m≤50000)(h:G m (.slice kO) l)(id k:Int):Ok (λr=>G m (.slice kO) r.1) (mS N l id k):=by
 have hl:=h.1
 unfold mS mS.b
 refine bO (nH N ω hN) (bG (λ_=>aq G.nil) λ_=>bO (iX N ω hN _) (ok_eq (λ_=>aq G.nil) λ_=>ag (aat N _ _) λz hz=>bG (λ_=>aq G.nil) λ_=>aD (by rw[ca];omega) ?_))
 rw[cB]
 refine bs (len:=l.length) (F:=λn i s=>mS.Ar N n id z.1 s i) (λ_ s=>s.length=l.length∧G m (.slice kO) s) ⟨rfl,h⟩ ω (λn i s hi hI hr=> ?_) (λn s hI=> ?_)
 all_goals unfold mS.Ar mS.yq
 ·rw[aw (x:=(i:Int)+1) ω ω,af i]
  have hs:=hI.1
  have hx:=G.at hI.2 (i:Int).toNat
  exact ax (λ_=>aB ⟨ω,ω⟩ (ok_eq (λ_=>aB ⟨ω,ω⟩ (hr _ ⟨by rw[bU];exact hs,G.set hI.2 (G2b hx hz) _⟩)) λ_=>hr s hI)) λ_=>ω
 ·have hs:=hI.1
  exact ax (λ_=>ω) λ_=>aq hI.2
theorem Tk(N:Nat)(hN:200000≤N){a:aE}{l:aO}{m:Nat}(hm:m≤50000)(ha:G m (.slice kO) a)(h:G m (.slice fa) l){id to:Int}(hto:aF to):Ok (λr=>G m (.slice fa) r.1) (oM N a l id to):=by
 have h1:=ha.1
 have hl:=h.1
 unfold oM oM.b
 refine bO (yi N ω ω hN) (bG (λ_=>aq G.nil) λ_=>bO (sK N ω hN _) (bO (iX N ω hN _) (bG (λ_=>aq G.nil) λ_=>ok_eq (λ_=>aq G.nil) λ_=>bK (λ_=>aq G.nil) λ_=>bK (λ_=>aq G.nil) λ_=>aD (by rw[ca];omega) ?_)))
 rw[cB]
 refine bs (len:=l.length) (F:=λn i s=>oM.my N n id to s i) (λ_ s=>s.length=l.length∧G m (.slice fa) s) ⟨rfl,h⟩ ω (λn i s hi hI hr=> ?_) (λn s hI=> ?_)
 all_goals unfold oM.my oM.ly
 ·rw[aw (x:=(i:Int)+1) ω ω,af i]
  have hs:=hI.1
  have hx:=G.at hI.2 (i:Int).toNat
  exact ax (λ_=>aB ⟨ω,ω⟩ (ok_eq (λ_=>aB ⟨ω,ω⟩ (hr _ ⟨by rw[bU];exact hs,G.set hI.2 (G4b hx hto) _⟩)) λ_=>hr s hI)) λ_=>ω
 ·have hs:=hI.1
  exact ax (λ_=>ω) λ_=>aq hI.2
theorem P2(N:Nat)(hN:200000≤N){l:aO}{m:Nat}(hm:m≤50000)(h:G m (.slice fa) l)(id:Int):Ok (λr=>r.length≤m) (mT N l id):=by
 have hl:=h.1
 unfold mT mT.b
 refine ag (MI N hN ω) λ_ _=>bG (λ_=>aq (bw _)) λ_=>bs (len:=l.length) (F:=λn i s=>mT.l5 N n l id s i) (λi s=>s.length≤i) (bw _) ω (λn i s hi hI hr=> ?_) (λn s hI=> ?_)
 all_goals unfold mT.l5 mT.dU
 ·rw[aw (x:=(i:Int)+1) ω ω,af i]
  exact ax (λ_=>aB ⟨ω,ω⟩ (ok_eq (λ_=>aB ⟨ω,ω⟩ (aD (by rw[aK];omega) (hr _ (by rw[aS,aK];omega)))) λ_=>hr s ω)) λ_=>ω
 ·exact ax (λ_=>ω) λ_=>aq ω
abbrev L6(m:Nat)(l:aY):Prop:=G m (.slice nw) l
theorem aau(N:Nat)(hN:200000≤N){l:aY}{a:List Int}{m:Nat}(hm:m≤50000)(h:L6 m l)(ha:a.length≤m):Ok (λr=>L6 m r) (eQ N l a):=by
 have hl:=h.1
 unfold eQ eQ.b
 refine bO (ib N ω hN) (bG (λ_=>aq G.nil) λ_=>bs (len:=l.length) (F:=λn i s=>eQ.l5 N n l a s i) (λi s=>L6 i s) G.nil ω (λn i s hi hI hr=> ?_) (λn s hI=> ?_))
 all_goals unfold eQ.l5 eQ.dU
 ·have hs:=hI.1
  refine ax (λ_=> ?_) λ_=>ω
  refine bs (len:=a.length) (F:=λn' j b=>eQ.l9 N (eQ.l5 N n) n' l a s (i:Int) b j) (λ_ _=>True) trivial ω (λn' j b hj _ dZ=> ?_) (λn' b _=> ?_)
  all_goals unfold eQ.l9 eQ.vd
  ·rw[aw (x:=(j:Int)+1) ω ω,af j]
   exact ax (λ_=>oZ (λ_=>dZ _ trivial) λ_=>aB ⟨ω,ω⟩ (aB ⟨ω,ω⟩ (dZ _ trivial))) λ_=>ω
  ·rw[aw (x:=(i:Int)+1) ω ω,af i]
   have hx:G 0 nw (l.getD (i:Int).toNat dS):=G.at h _
   exact ax (λ_=>ω) λ_=>bG (λ_=>aB ⟨ω,ω⟩ (aD (by rw[aK];omega) (hr _ (G.cat hI (G.one hx (aH 1)))))) λ_=>hr s (G.mono ω hI)
 ·exact ax (λ_=>ω) λ_=>aq (G.mono hl hI)
theorem P3(N:Nat)(hN:5000000≤N)(c:ae){b:an}{m:Nat}(hm:m≤50000)(hb:G m aL b)(id:Int):Ok (λr=>G m aL r.1) (Fg N c b id):=by
 unfold Fg
 exact bO (eh N hN hm hb) (bG (λ_=>aq G.jG) λ_=>ag (pE N ω hm hb.1 _) λ_ _=>ok_eq (λ_=>aq G.jG) λ_=>ag (P2 N ω hm hb.2.1 _) λa ha=>ag (aau N ω hm hb.2.2.2.2.2.1 ha) λr hr=>aq ⟨hb.1,hb.2.1,hb.2.2.1,hb.2.2.2.1,hb.2.2.2.2.1,hr,trivial⟩)
theorem ED(N:Nat)(hN:200000≤N){l:aO}{m:Nat}(hm:m≤50000)(h:G m (.slice fa) l)(id:Int):Ok (λr=>G m (.slice fa) r) (qy N l id):=by
 have hl:=h.1
 unfold qy qy.b
 refine bO (vj N ω hN) (bG (λ_=>aq G.nil) λ_=>bs (len:=l.length) (F:=λn i s=>qy.l5 N n l id s i) (λi s=>G i (.slice fa) s) G.nil ω (λn i s hi hI hr=> ?_) (λn s hI=> ?_))
 all_goals unfold qy.l5 qy.dU
 ·have hs:=hI.1
  have hx:G 0 fa (l.getD (i:Int).toNat ba):=G.at h _
  rw[aw (x:=(i:Int)+1) ω ω,af i]
  exact ax (λ_=>aB ⟨ω,ω⟩ (bK (λ_=>aB ⟨ω,ω⟩ (aD (by rw[aK];omega) (hr _ (G.cat hI (G.one hx (aH 1)))))) λ_=>hr s (G.mono ω hI))) λ_=>ω
 ·exact ax (λ_=>ω) λ_=>aq (G.mono hl hI)
theorem Xg(N:Nat)(hN:200000≤N){l:aY}{m:Nat}(hm:m≤50000)(h:L6 m l)(a id:Int):Ok (λr=>L6 m r.1) (oN N l a id):=by
 have hl:=h.1
 unfold oN oN.b
 refine bO (ib N ω hN) (bG (λ_=>aq G.nil) λ_=>bs (len:=l.length) (F:=λn i s=>oN.l5 N n l a id s i) (λi s=>L6 i s) G.nil ω (λn i s hi hI hr=> ?_) (λn s hI=> ?_))
 all_goals unfold oN.l5 oN.dU
 ·have hs:=hI.1
  have hx:G 0 nw (l.getD (i:Int).toNat dS):=G.at h _
  rw[aw (x:=(i:Int)+1) ω ω,af i]
  have h1:=hr s (G.mono ω hI)
  have h2:=hr _ (G.cat hI (G.one hx (aH 1)))
  repeat' first|exact h1|exact h2|refine aD (by rw[aK];omega) ?_|refine aB ⟨ω,ω⟩ ?_|refine ax (λ_=> ?_) (λ_=> ?_)|refine bK (λ_=> ?_) (λ_=> ?_)|(exfalso;omega)
 ·exact ax (λ_=>ω) λ_=>ok_eq (λ_=>aq G.nil) λ_=>aq (G.mono hl hI)
theorem G6q{m:Nat}{x:fX}{q:Int}(h:G m nw x)(hq:aF q):G m nw (x.1,(x.2.1,(x.2.2.1,(x.2.2.2.1,(q,x.2.2.2.2.2))))):=⟨h.1,h.2.1,h.2.2.1,h.2.2.2.1,hq,h.2.2.2.2.2⟩
theorem adO(N:Nat)(hN:200000≤N){l:aY}{m:Nat}(hm:m≤50000)(h:L6 m l)(a d:Int):Ok (λr=>L6 m r) (ej N l a d):=by
 have hl:=h.1
 unfold ej ej.b
 refine bO (ib N ω hN) (bG (λ_=>aq G.nil) λ_=>bs (len:=l.length) (F:=λn i s=>ej.l5 N n l a d s i) (λi s=>L6 i s) G.nil ω (λn i s hi hI hr=> ?_) (λn s hI=> ?_))
 all_goals unfold ej.l5 ej.dU
 ·have hs:=hI.1
  have hx:G 0 nw (l.getD (i:Int).toNat dS):=G.at h _
  have fin: ∀k:Nat,k≤s.length→Ok (λr=>L6 m r) (ej.E9 N (ej.l5 N n) l a d s (i:Int) (k:Int)):=λk hk=>by
   unfold ej.E9 ej.ym
   rw[aw (x:=(i:Int)+1) ω ω,af i]
   dsimp only
   have t: ∀a b:Nat,(List.drop a (List.take b s)).length≤s.length:=λa b=>by rw[dY,cf];omega
   have t1:=t (0:Int).toNat (k:Int).toNat
   have t2:=t (k:Int).toNat (s.length:Int).toNat
   refine Dm ⟨ω,ω,ω,ω⟩ (aD ω (aB ⟨ω,ω⟩ (aD (by rw[aK];omega) (Dm ⟨ω,ω,ω,ω⟩ (aD (by rw[aS,aK];omega) (hr _ ?_))))))
   simpa using G.ins hI (G.mono (bw i) hx) k 0 k (aH _)
  have h1:=hr s (G.mono ω hI)
  have hw:Ok (λr=>L6 m r) (ej.l9 N (ej.l5 N n) N l a d s (i:Int) 0):=by
   refine m7 (len:=s.length) (F:=λn' j=>ej.l9 N (ej.l5 N n) n' l a d s (i:Int) j) ω (λn' j hj dZ=> ?_) (λn'=> ?_)
   all_goals unfold ej.l9 ej.vd
   ·rw[aw (x:=(j:Int)+1) ω ω,af j]
    have hah: ∀x y:fX,Ok (λ_=>True) (Xh N x y):=λx y=>by unfold Xh;exact bK (λ_=>fJ) λ_=>fJ
    exact ax (λ_=>aB ⟨ω,ω⟩ (aB ⟨ω,ω⟩ (ag (hah _ _) λ_ _=>oZ (λ_=>dZ) λ_=>fin j ω))) λ_=>ω
   ·exact ax (λ_=>ω) λ_=>fin _ (aH _)
  rw[aw (x:=(i:Int)+1) ω ω,af i]
  repeat' first|exact h1|exact hw|refine aB ⟨ω,ω⟩ ?_|refine ax (λ_=> ?_) (λ_=> ?_)|refine bK (λ_=> ?_) (λ_=> ?_)|(exfalso;omega)
 ·exact ax (λ_=>ω) λ_=>aq (G.mono hl hI)
theorem aav(N:Nat)(hN:200000≤N){l:aY}{o:fX}{m:Nat}(hm:m≤50000)(h:L6 m l)(ho:G 0 nw o):Ok (λr=>L6 m r.1∧aF r.2.2.1) (cC N l o):=by
 have hl:=h.1
 have fin: ∀(s:aY) (q:Int) (t:bh),L6 m s→aF q→Ok (λr=>L6 m r.1∧aF r.2.2.1) (cC.j22 N s q t):=λs q t hs hq=>by
  have On:=hs.1
  unfold cC.j22 cC.adP
  refine bs (len:=s.length) (F:=λn i u=>cC.Ny N n s q t u i) (λi u=>L6 i u) G.nil ω (λn i u hi hI hr=> ?_) (λn u hI=> ?_)
  all_goals unfold cC.Ny cC.P4
  ·have hu:=hI.1
   have hx:G 0 nw (s.getD (i:Int).toNat dS):=G.at hs _
   rw[aw (x:=(i:Int)+1) ω ω,af i]
   have h1:=hr u (G.mono ω hI)
   have h2:=hr _ (G.cat hI (G.one hx (aH 1)))
   repeat' first|exact h1|exact h2|refine aD (by rw[aK];omega) ?_|refine aB ⟨ω,ω⟩ ?_|refine ax (λ_=> ?_) (λ_=> ?_)|(exfalso;omega)
  ·exact ax (λ_=>ω) λ_=>aq ⟨G.mono On hI,hq⟩
 have ei:Ok (λr:aY×bh×Int×Int=>L6 m r.1∧aF r.2.2.1) (some ([],[],(0:Int),(1:Int))):=aq ⟨G.nil,bY⟩
 unfold cC cC.b
 refine bO (ib N ω hN) (bG (λ_=>ei) λ_=>bO (BU N o) (bG (λ_=>ei) λ_=>aD (by rw[ca];omega) (ag (adO N hN hm h _ _) λw hw=> ?_)))
 have hwl:=hw.1
 rw[cB]
 refine bs (len:=w.length) (F:=λn i (s:aY×Int×bh)=>cC.l7 N n o s.1 s.2.1 s.2.2 w i) (s:=(_,(_,_))) (λi s=>L6 m s.1∧aF s.2.1∧s.2.2.length≤i) ⟨h,ho.2.2.2.2.1,bw _⟩ ω (λn i s hi hI hr=> ?_) (λn s hI=> ?_)
 all_goals unfold cC.l7 cC.mK
 ·obtain⟨hs,hq,ht⟩:=hI
  have f1:=fin s.1 s.2.1 s.2.2 hs hq
  have alz: ∀(v:Int) (t:iE),Ok (λr=>L6 m r.1∧aF r.2.2.1) (cC.Dn N (cC.l7 N n) o s.1 s.2.1 s.2.2 w (i:Int) v t):=λv t=>by
   unfold cC.Dn cC.xa
   refine aD (by rw[aK];omega) (bs (len:=s.1.length) (F:=λn' j u=>cC.Ji N (cC.l7 N n) n' o u (W .i64 (s.2.1-v)) (s.2.2++[t]) w (i:Int) v j) (λ_ u=>u.length=s.1.length∧L6 m u) ⟨rfl,hs⟩ (by have:=hs.1;omega) (λn' j u hj hJ dZ=> ?_) (λn' u hJ=> ?_))
   all_goals unfold cC.Ji cC.Fh
   ·have On:=hs.1
    have Jj:=hJ.1
    rw[aw (x:=(j:Int)+1) ω ω,af j]
    exact ax (λ_=>aB ⟨ω,ω⟩ (aB ⟨ω,ω⟩ (ok_eq (λ_=>aB ⟨ω,ω⟩ (aB ⟨ω,ω⟩ (dZ _ ⟨by rw[bU];exact Jj,G.set hJ.2 (G6q (G.at hJ.2 _) (gH _)) _⟩))) λ_=>dZ u hJ))) λ_=>ω
   ·have Jj:=hJ.1
    rw[aw (x:=(i:Int)+1) ω ω,af i]
    exact ax (λ_=>ω) λ_=>hr (_,(_,_)) ⟨hJ.2,gH _,by dsimp only;rw[List.length_append,List.length_singleton];omega⟩
  have E8:Ok (λr=>L6 m r.1∧aF r.2.2.1) (cC.JN N (cC.l7 N n) o s.1 s.2.1 s.2.2 w (i:Int)):=by
   unfold cC.JN cC.Da
   rw[aw (x:=(i:Int)+1) ω ω,af i]
   dsimp only
   have h1:=hr s ⟨hs,hq,ω⟩
   repeat' first|exact h1|exact alz _ _|refine aB ⟨ω,ω⟩ ?_|refine ok_eq (λ_=> ?_) (λ_=> ?_)
  repeat' first|exact f1|exact E8|refine aB ⟨ω,ω⟩ ?_|refine ax (λ_=> ?_) (λ_=> ?_)|refine ok_eq (λ_=> ?_) (λ_=> ?_)|(exfalso;omega)
 ·exact ax (λ_=>ω) λ_=>fin _ _ _ hI.1 hI.2.1
theorem aaw(N:Nat)(hN:5000000≤N){c:ae}{b:an}{o:fX}{m:Nat}(h2:200≤m)(hm:m≤40000)(hc:G m aA c)(hb:G m aL b)(ho:G 0 nw o):Ok (λr=>G (m+1) aL r.1) (ka N c b o):=by
 have xg:=hb.2.2.2.2.2.1.1
 have ei: ∀(t:bh) (e:Int),Ok (λr:an×bh×Int×Int=>G (m+1) aL r.1) (some ((ch,(cT,(bq,(bq,(dg,(du,())))))),(t,((0:Int),e)))):=λt e=>aq (G.zero (m+1) aL)
 have E8: ∀(r:aY) (t:bh) (q:Int),L6 m r→aF q→Ok (λr=>G (m+1) aL r.1) (ka.JN N c b o (ch,(cT,(bq,(bq,(dg,(du,())))))) r t q):=λr t q hr hq=>by
  have J9:=hr.1
  unfold ka.JN ka.Da
  have hx:G 0 nw (o.1,(o.2.1,(o.2.2.1,(o.2.2.2.1,(q,o.2.2.2.2.2))))):=G6q ho hq
  exact ag (K4 N hN c h2 ω hb) λz hz=>bK (λ_=>ei _ _) λ_=>by
   have zI:G (m+1) aL z.1:=G.mono ω hz
   exact ax (λ_=>aD (by rw[aK];omega) (aq ⟨zI.1,zI.2.1,zI.2.2.1,zI.2.2.2.1,zI.2.2.2.2.1,G.cat hr (G.one hx (aH 1)),trivial⟩)) λ_=>aq ⟨zI.1,zI.2.1,zI.2.2.1,zI.2.2.2.1,zI.2.2.2.2.1,G.mono ω hr,trivial⟩
 have hj7:Ok (λr=>G (m+1) aL r.1) (ka.j7 N c b o (ch,(cT,(bq,(bq,(dg,(du,()))))))):=by
  unfold ka.j7 ka.X9
  exact ag (aav N ω ω hb.2.2.2.2.2.1 ho) λz hz=>ax (λ_=>ok_eq (λ_=>ei _ _) λ_=>E8 _ _ _ hz.1 hz.2) λ_=>E8 _ _ _ hz.1 hz.2
 unfold ka ka.b
 refine ag (Co N hN h2 hm hc hb (G.mono (bw m) ho)) λe _=>bK (λ_=>ei _ _) λ_=>ax (λh0=> ?_) λ_=>hj7
 dsimp only
 exact aB (by rw[aw ω ω];omega) (eK (λ_=>ei _ _) λ_=>hj7)
theorem alA(N:Nat)(a:Int):Ok (λ_=>True) (Mr N a):=by
 unfold Mr
 exact ok_eq (λ_=>fJ) λ_=>fJ
theorem kS.one{k n:Int}{x:aM}{m:Nat}(h:Bg m x)(hm:m≤8):kS 1 [(k,(n,(x,())))]:=⟨aH 1,λy hy=>by rw[cw.1 hy];exact Bg.mono h hm⟩
theorem aax(N:Nat)(hN:4000000≤N){l:au}{m:Nat}(hm:m≤50000)(h:L3 m l)(i a b:Int):Ok (λr=>kS m r.1) (kk N l i a b):=by
 have hl:=h.1
 unfold kk kk.b
 have p64: ∀p:Int,decide (1≤p∧p≤1000000000000)=true→aF p:=λp h=>by have:=bA h;unfold aF;omega
 refine bO (lT N ω ω) (bG (λ_=>aq kS.nil) λ_=>bO (jz N _) (bG (λ_=>aq kS.nil) λha=>bO (jz N _) (bG (λ_=>aq kS.nil) λhb=>ag (bF N hN (p64 _ hb)) λx hx=>ag (bF N hN (p64 _ ha)) λy hy=>ag (zm N hN ω hx hy) λz hz=>bs (len:=l.length) (F:=λn j s=>kk.l6 N n l i s z j) (λj s=>kS j s) kS.nil ω (λn j s hj hI hr=> ?_) (λn s hI=> ?_))))
 all_goals unfold kk.l6 kk.u7
 ·have hs:=hI.1
  rw[aw (x:=(j:Int)+1) ω ω,af j]
  have h1:=hr s (kS.mono hI ω)
  exact ax (λ_=>aB ⟨ω,ω⟩ (bK (λ_=>h1) λ_=>ag (FY N hz) λ_ _=>ok_eq (λ_=>h1) λ_=>aB ⟨ω,ω⟩ (ag (alA N _) λ_ _=>aB ⟨ω,ω⟩ (ag (bF N hN (G.at h _).2.2.1) λv hv=>ag (mR N hN ω ω hv hz) λu hu=>aD (by rw[aK];omega) (hr _ (kS.app hI (kS.one hu ω))))))) λ_=>ω
 ·exact ax (λ_=>ω) λ_=>aq (kS.mono hI ω)
theorem EE(N:Nat)(hN:5000000≤N)(c:ae){b:an}{m:Nat}(h2:200≤m)(hm:m≤50000)(hb:G m aL b)(i:Int){p:Int}(hp:aF p):Ok (λr=>G m aL r.1∧kS m r.2.1) (MK N c b i p):=by
 have ei: ∀e:Int,Ok (λr:an×bM×Int=>G m aL r.1∧kS m r.2.1) (some ((ch,(cT,(bq,(bq,(dg,(du,())))))),([],e))):=λe=>aq ⟨G.jG,kS.nil⟩
 have CB:=hb.2.2.2.2.1.1
 unfold MK
 refine bO (eh N hN hm hb) (bG (λ_=>ei _) λhB=>bO (jz N _) (bG (λ_=>ei _) λ_=>ax (λ_=>ei _) λh0=>eK (λ_=>ei _) λh1=> ?_))
 obtain⟨BA,_⟩:=eH hB
 dsimp only
 rw[cB]
 exact aB ⟨h0,by rw[BA];exact h1⟩ (ag (aax N ω hm hb.2.2.2.1 _ _ _) λf hf=>ag (uh N ω h2 hm hb G.nil (kS.mono hf hm)) λr hr=>bK (λ_=>ei _) λ_=>aD (by rw[ca];omega) (aB ⟨h0,by rw[BA];exact h1⟩ (aq ⟨⟨hr.1,hr.2.1,hr.2.2.1,hr.2.2.2.1,G.set hb.2.2.2.2.1 hp _,hr.2.2.2.2.2⟩,hf⟩)))
abbrev L2(m:Nat)(l:aE):Prop:=G m (.slice kO) l
theorem G2{m:Nat}{a b:Int}(ha:aF a)(hb:aF b):G m kO (a,(b,())):=⟨ha,hb,trivial⟩
theorem Dp(N:Nat)(hN:200000≤N){l:aE}(hl:l.length≤100000):Ok (λ_=>True) (rH N l):=by
 unfold rH rH.b
 refine m7 (len:=l.length) (F:=λn i=>rH.l2 N n l i) ω (λn i hi hr=> ?_) (λn=> ?_)
 all_goals unfold rH.l2 rH.fI
 ·rw[aw (x:=(i:Int)+1) ω ω,af i]
  dsimp only
  repeat' first|exact hr|exact fJ|refine aB ⟨ω,ω⟩ ?_|refine aB (by rw[aw (x:=(i:Int)-1) ω ω];omega) ?_|refine ax (λ_=> ?_) (λ_=> ?_)|refine eK (λ_=> ?_) (λ_=> ?_)|refine ok_eq (λ_=> ?_) (λ_=> ?_)|(exfalso;omega)
 ·exact ax (λ_=>ω) λ_=>fJ
theorem P5(N:Nat)(hN:4000000≤N){g:aE}{p:bM}{m:Nat}(h2:200≤m)(hm:m≤50000)(h:L2 m g)(hp:kS m p):Ok (λr=>L2 m r.1) (fu N g p):=by
 have hl:=h.1
 have CB:=hp.1
 unfold fu fu.b
 refine ag (Dp N ω ω) λ_ _=>bG (λ_=>aq G.nil) λ_=>jk (len:=25) (F:=λn i s=>fu.l5 N n g p s i) (λi s=>L2 i s) (λn i s hi hI hr=> ?_) (λn s hI=> ?_) 25 N 1 [] ω ω ω G.nil
 all_goals unfold fu.l5 fu.dU
 ·have hs:=hI.1
  refine eK (λ_=> ?_) λ_=>ω
  refine bs (len:=g.length) (F:=λn' j t=>fu.l9 N (fu.l5 N n) n' g p s (i:Int) t j) (λ_ t=>Bg 2 t) (MF ω) ω (λn' j t hj ht dZ=> ?_) (λn' t ht=> ?_)
  all_goals unfold fu.l9 fu.vd
  ·rw[aw (x:=(j:Int)+1) ω ω,af j]
   exact ax (λ_=>aB ⟨ω,ω⟩ (ok_eq (λ_=>aB ⟨ω,ω⟩ (ag (bF N hN (G.at h _).2.1) λr hr=>dZ r hr)) λ_=>dZ t ht)) λ_=>ω
  ·refine ax (λ_=>ω) λ_=> ?_
   refine bs (len:=p.length) (F:=λK3 j t=>fu.KR N (fu.l5 N n) K3 g p s (i:Int) t j) (λj t=>Bg (8+j) t) (Bg.mono ht ω) ω (λK3 j t hj ht dZ=> ?_) (λK3 t ht=> ?_)
   all_goals unfold fu.KR fu.H5
   ·rw[aw (x:=(j:Int)+1) ω ω,af j]
    have h1:=dZ t (Bg.mono ht ω)
    exact ax (λ_=>aB ⟨ω,ω⟩ (ok_eq (λ_=>aB ⟨ω,ω⟩ (ok_eq (λ_=>aB ⟨ω,ω⟩ (ag (lX N hN ω ht (Bg.mono (hp.at _) ω)) λr hr=>dZ r (Bg.mono hr ω))) λ_=>h1)) λ_=>h1)) λ_=>ω
   ·rw[aw (x:=(i:Int)+1) ω ω,af i]
    exact ax (λ_=>ω) λ_=>ag (yC N ht) λv hv=>bG (λ_=>aq G.nil) λ_=>bK (λ_=>aD (by rw[aK];omega) (hr _ (G.cat hI (G.one (m:=1) (G2 (jD ω ω) hv) (aH 1))))) λ_=>hr s (G.mono ω hI)
 ·exact eK (λ_=>ω) λ_=>aq (G.mono ω hI)
theorem ui(N:Nat)(hN:4000000≤N)(a b c d:Int){x:aM}(h:Bg 8 x):Ok (λr=>kS 2 r) (Dq N a b c d x):=by
 unfold Dq
 exact ag (rV N hN ω h) λy hy=>aq ⟨aH 2,λz hz=>by
  rcases bc.1 hz with rfl|hz
  ·exact hy
  ·rw[cw.1 hz];exact h⟩
theorem P6(N:Nat)(hN:5000000≤N){c:ae}{b:an}{m:Nat}(h2:200≤m)(hm:m≤40000)(hc:G m aA c)(hb:G m aL b)(a:Int){q:Int}(hq:aF q):Ok (λr=>G m aL r.1) (Xi N c b a q):=by
 unfold Xi
 exact bO (eh N hN ω hb) (bG (λ_=>aq G.jG) λ_=>ax (λ_=>aq G.jG) λ_=>ag (zn N ω ω hb.2.1 _) λ_ _=>bG (λ_=>aq G.jG) λ_=>ag (pE N ω ω hb.1 _) λ_ _=>bK (λ_=>aq G.jG) λ_=>ag (ny N ω ω hb.2.2.1 _ _) λg hg=>ag (bF N ω hg) λx hx=>ag (bF N ω hq) λy hy=>ag (zm N ω ω hx hy) λz hz=>ag (Io N ω h2 hm hc hb (bw _) _) λw hw=>ag (qT N ω ω ω hz hw) λ_ _=>ax (λ_=>aq G.jG) λ_=>ag (bF N ω hq) λy hy=>ag (ui N ω _ _ _ _ (Bg.mono hy ω)) λp hp=>ag (uh N ω h2 ω hb G.nil (kS.mono hp ω)) λr hr=>aq hr)
theorem Tl(N:Nat)(hN:1000≤N){c:ae}(hc:G 5 aA c):Ok (λr=>G 5 aL r.1) (jb N c):=by
 have hl:=hc.1.1
 unfold jb jb.b
 have hj: ∀b:an,G 5 aL b→Ok (λr=>G 5 aL r.1) (jb.j6 N c (ch,(cT,(bq,(bq,(dg,(du,())))))) b []):=λb hb=>by
  unfold jb.j6 jb.OY
  obtain⟨b1,b2,b3,b4,b5,b6⟩:=b
  refine bs (len:=c.1.length) (F:=λn i (z:an×List Int)=>jb.l7 N n c (ch,(cT,(bq,(bq,(dg,(du,())))))) z.1 z.2 i) (s:=((b1,(b2,(b3,(b4,(b5,b6))))),_)) (λi z=>G 5 aL z.1∧G i (.slice (.int .i64)) z.2) ⟨hb,G.nil⟩ ω (λn i z hi hI hr=> ?_) (λn z hI=> ?_)
  all_goals unfold jb.l7 jb.mK
  ·have hz:=hI.2.1
   rw[aw (x:=(i:Int)+1) ω ω,af i]
   have hx:G 0 (.int .i64) (c.1.getD (i:Int).toNat ba).2.1:=(G.at hc.1 _).2.1
   exact ax (λ_=>aB ⟨ω,ω⟩ (aD (by rw[aK];omega) (hr (_,_) ⟨⟨hI.1.1,hI.1.2.1,hI.1.2.2.1,hI.1.2.2.2.1,G.nil,hI.1.2.2.2.2.2⟩,G.cat hI.2 (G.one hx (aH 1))⟩))) λ_=>ω
  ·exact ax (λ_=>ω) λ_=>aq ⟨hI.1.1,hI.1.2.1,hI.1.2.2.1,hI.1.2.2.2.1,G.mono hl hI.2,hI.1.2.2.2.2.2⟩
 have z6:L3 5 [((1:Int),((0:Int),(W .i64 (0-c.2.1),()))),((3:Int),((0:Int),(c.2.1,())))]:=G.two (G3 (show aF 1 from bx) bY (gH _)) (G3 (show aF 3 from bx) bY hc.2.1) δ
 exact bO (mL N ω c) (bG (λ_=>aq G.jG) λ_=>bK (λ_=>hj _ ⟨G.nil,G.nil,z6,G.nil,G.nil,G.nil,trivial⟩) λ_=>hj _ G.jG)
theorem Dr(N:Nat)(hN:4000000≤N){c:ae}{l:aE}{m:Nat}(hm:m≤50000)(hc:G m aA c)(hl:L2 m l)(f:Bool):Ok (λr=>Bg 60000 r.1) (qW N c l f):=by
 have h1:=hl.1
 unfold qW qW.b
 refine bO (vh N ω c ω) (bG (λ_=>aq (MF ω)) λhk=>bs (len:=l.length) (F:=λn i t=>qW.l5 N n l f c (false,(([]:List Int),())) t i) (λi t=>Bg (8+i) t) (MF ω) ω (λn i t hi ht hr=> ?_) (λn t ht=> ?_))
 all_goals unfold qW.l5 qW.dU
 ·rw[aw (x:=(i:Int)+1) ω ω,af i,aG]
  unfold mj at hk
  have hp:=bA (dd.1 hk).1 i hi
  unfold oz qP at hp
  have in1: ∀{x y:Option (aM×Int)},Ok (λr=>Bg 60000 r.1) x→Ok (λr=>Bg 60000 r.1) (cond (bf (l.getD i c5).1 c.1.length) x y):=λh=>aB ⟨hp.1,hp.2.1⟩ h
  have hw: ∀q:Int,aF q→Ok (λr=>Bg 60000 r.1) ((kR N (l.getD i c5).2.1).bind λr3=>(Wl N r3).bind λr4=>(kR N q).bind λr5=>(kI N r4 r5).bind λr6=>(Ak N t r6).bind λr7=>qW.l5 N n l f c (false,(([]:List Int),())) r7 ((i+1:Nat):Int)):=λq hq=>
   ag (bF N hN (G.at hl i).2.1) λx hx=>ag (Cn N hN ω hx) λx hx=>ag (bF N hN hq) λy hy=>ag (mR N hN ω ω hx hy) λz hz=>ag (lX N hN ω ht (Bg.mono hz ω)) λu hu=>hr u (Bg.mono hu ω)
  exact ax (λ_=>aB ⟨ω,ω⟩ (in1 (oZ (λ_=>aB ⟨ω,ω⟩ (in1 (aB ⟨ω,ω⟩ (hw _ (G.at hc.1 _).2.2.2.1)))) λ_=>aB ⟨ω,ω⟩ (hw _ (G.at hc.1 _).2.2.1)))) λ_=>ω
 ·exact ax (λ_=>ω) λ_=>aq (Bg.mono ht ω)
theorem rW(N:Nat)(hN:200000≤N){b:an}{m:Nat}(hm:m≤50000)(hb:G m aL b)(id:Int):Ok (λ_=>True) (ML N b id):=by
 unfold ML
 exact ag (pE N hN hm hb.1 _) λ_ _=>fJ
theorem vo(N:Nat)(hN:200000≤N){b:an}{m:Nat}(hm:m≤50000)(hb:G m aL b)(id:Int):Ok aF (Tm N b id):=by
 unfold Tm
 exact ag (ny N hN hm hb.2.2.1 _ _) λr hr=>aq hr
theorem aay(N:Nat)(hN:5000000≤N){c:ae}{b:an}{m:Nat}(hm:m≤40000)(hc:G m aA c)(hb:G m aL b)(f to a:Int):Ok (λ_=>True) (adQ N c b f to a):=by
 unfold adQ alB
 have mb:=λid=>rW N ω ω hb id
 exact bO (eh N hN ω hb) (bG (λ_=>fJ) λ_=>ag (zn N ω ω hb.2.1 _) λ_ _=>bG (λ_=>fJ) λ_=>ag (mb _) λ_ _=>ok_eq (λ_=>fJ) λ_=>ag (mb _) λ_ _=>ok_eq (λ_=>fJ) λ_=>bK (λ_=>fJ) λ_=>bK (λ_=>fJ) λ_=>ag (mb _) λ_ _=>bK (λ_=>fJ) λ_=>ag (PY N ω ω hb.2.2.2.1 _) λl hl=>ag (Q:=λr=>Bg 60000 r.1) (ag (Dr N ω ω hc hl _) λr hr=>aq hr) λu hu=>ag (vo N ω ω hb _) λg hg=>ag (bF N ω hg) λx hx=>ag (qT N ω ω ω hx hu) λ_ _=>ax (λ_=>fJ) λ_=>fJ)
theorem adR(N:Nat)(hN:5000000≤N){c:ae}{b:an}{m:Nat}(hm:m≤40000)(hc:G m aA c)(hb:G m aL b)(f:Int){to:Int}(hto:aF to)(a:Int):Ok (λr=>G m aL r.1) (Xj N c b f to a):=by
 unfold Xj
 exact ag (aay N hN hm hc hb _ _ _) λ_ _=>bK (λ_=>aq G.jG) λ_=>ag (Tk N ω ω hb.1 hb.2.1 hto) λr hr=>bK (λ_=>aq G.jG) λ_=>aq ⟨hb.1,hr,hb.2.2⟩
theorem Xk(N:Nat)(hN:4000000≤N){x:aM}{q:Int}(hx:Bg 60000 x)(hq:aF q):Ok (λr=>0≤r∧r≤3) (s4 N x q):=by
 unfold s4 s4.b
 refine ag (FY N hx) λ_ _=>eK (λ_=>aq δ) λ_=>ax (λ_=>aq δ) λ_=>jk (len:=3) (F:=λn i (_:Unit)=>s4.l4 N n q x i) (λ_ _=>True) (λn i _ hi _ hr=> ?_) (λn _ _=> ?_) 3 N 1 () ω ω ω trivial
 all_goals unfold s4.l4 s4.dL
 ·rw[aw (x:=(i:Int)+1) ω ω,af i]
  exact ax (λ_=>ag (bF N hN (jD ω ω)) λa ha=>ag (bF N hN hq) λb hb=>ag (mR N hN ω ω ha hb) λy hy=>ag (qT N hN ω ω hy hx) λ_ _=>ax (λ_=>hr () trivial) λ_=>aq ω) λ_=>ω
 ·exact ax (λ_=>ω) λ_=>aq ω
theorem U6(N:Nat)(hN:5000000≤N)(c:ae){b:an}{m:Nat}(hm:m≤50000)(hb:G m aL b):Ok (λr=>G m (.slice (.int .i64)) r.1) (s6 N c b):=by
 have hl:=hb.1.1
 unfold s6 s6.b
 refine bO (eh N hN hm hb) (bG (λ_=>aq G.nil) λ_=>bs (len:=b.1.length) (F:=λn i s=>s6.l5 N n b s i) (λi s=>G i (.slice (.int .i64)) s) G.nil ω (λn i s hi hI hr=> ?_) (λn s hI=> ?_))
 all_goals unfold s6.l5 s6.dU
 ·have hs:=hI.1
  rw[aw (x:=(i:Int)+1) ω ω,af i]
  have h1:=hr s (G.mono ω hI)
  have hx:G 0 (.int .i64) (b.1.getD (i:Int).toNat c5).1:=(G.at hb.1 _).1
  exact ax (λ_=>aB ⟨ω,ω⟩ (ok_eq (λ_=>aB ⟨ω,ω⟩ (ag (ny N ω hm hb.2.2.1 _ _) λ_ _=>ax (λ_=>aB ⟨ω,ω⟩ (aD (by rw[aK];omega) (hr _ (G.cat hI (G.one hx (aH 1)))))) λ_=>h1)) λ_=>h1)) λ_=>ω
 ·exact ax (λ_=>ω) λ_=>aq (G.mono hl hI)
abbrev LL(m:Nat)(l:bJ):Prop:=G m (.slice jT) l
theorem Iq(N:Nat)(hN:200000≤N){l:bJ}{m:Nat}(hm:m≤50000)(h:LL m l)(id:Int):Ok (λr=>G m jT r.1) (rI N l id):=by
 have hl:=h.1
 unfold rI rI.b
 refine m7 (len:=l.length) (F:=λn i=>rI.l2 N n l id ((0:Int),(ch,ba)) i) ω (λn i hi hr=> ?_) (λn=> ?_)
 all_goals unfold rI.l2 rI.fI
 ·rw[aw (x:=(i:Int)+1) ω ω,af i]
  exact ax (λ_=>aB ⟨ω,ω⟩ (ok_eq (λ_=>aB ⟨ω,ω⟩ (aq (G.at h _))) λ_=>hr)) λ_=>ω
 ·exact ax (λ_=>ω) λ_=>aq (G.zero m jT)
theorem Xl(N:Nat)(hN:4000000≤N){a b:aE}{m:Nat}(h6:6≤m)(hm:m≤40000)(ha:L2 m a)(hb:L2 m b):Ok (λr=>L2 m r.1) (fv N a b):=by
 have hal:=ha.1
 have xK:=hb.1
 unfold fv fv.b
 refine bs (len:=6) (F:=λn i s=>fv.l3 N n a b s i) (λi s=>L2 i s) G.nil ω (λn i s hi hI hr=> ?_) (λn s hI=> ?_)
 all_goals unfold fv.l3 fv.m3
 ·have hs:=hI.1
  refine ax (λ_=> ?_) λ_=>ω
  refine bs (len:=a.length) (F:=λn' j t=>fv.l7 N (fv.l3 N n) n' a b s (i:Int) t j) (λj t=>Bg (3+j) t) (MF ω) ω (λn' j t hj ht dZ=> ?_) (λn' t ht=> ?_)
  all_goals unfold fv.l7 fv.mK
  ·rw[aw (x:=(j:Int)+1) ω ω,af j]
   exact ax (λ_=>aB ⟨ω,ω⟩ (ok_eq (λ_=>aB ⟨ω,ω⟩ (ag (bF N hN (G.at ha _).2.1) λr hr=>ag (lX N hN ω ht (Bg.mono hr ω)) λu hu=>dZ u (Bg.mono hu ω))) λ_=>dZ t (Bg.mono ht ω))) λ_=>ω
  ·refine ax (λ_=>ω) λ_=> ?_
   refine bs (len:=b.length) (F:=λK3 j t=>fv.nI N (fv.l3 N n) K3 a b s (i:Int) t j) (λj t=>Bg (3+a.length+j) t) ht ω (λK3 j t hj ht dZ=> ?_) (λK3 t ht=> ?_)
   all_goals unfold fv.nI fv.mO
   ·rw[aw (x:=(j:Int)+1) ω ω,af j]
    exact ax (λ_=>aB ⟨ω,ω⟩ (ok_eq (λ_=>aB ⟨ω,ω⟩ (ag (bF N hN (G.at hb _).2.1) λr hr=>ag (lX N hN ω ht (Bg.mono hr ω)) λu hu=>dZ u (Bg.mono hu ω))) λ_=>dZ t (Bg.mono ht ω))) λ_=>ω
   ·rw[aw (x:=(i:Int)+1) ω ω,af i]
    exact ax (λ_=>ω) λ_=>ag (EC N ht) λv hv=>bG (λ_=>aq G.nil) λ_=>bK (λ_=>aD (by rw[aK];omega) (hr _ (G.cat hI (G.one (m:=1) (G2 (jD ω ω) hv) (aH 1))))) λ_=>hr s (G.mono ω hI)
 ·exact ax (λ_=>ω) λ_=>aq (G.mono h6 hI)
theorem P7(N:Nat)(hN:5000000≤N){c:ae}{b:an}{Tn:bJ}{l:aO}{x:cL}{m:Nat}(h6:6≤m)(hm:m≤40000)(hc:G m aA c)(hb:G m aL b)(hL:LL m Tn)(hl:G m (.slice fa) l)(hx:G 0 fa x):Ok (λ_=>True) (lY N c b Tn l x):=by
 have Jg:=hl.1
 have hLl:=hL.1
 have hal:=hb.2.1.1
 have xg:=hb.2.2.2.2.2.1.1
 have hw:KH Tn:=λy hy=>cA (hL.2 y hy).2.1.1 ω
 unfold lY lY.b
 have hj:Ok (λ_=>True) (lY.j3 N Tn l c b x):=by
  unfold lY.j3 lY.j3b
  refine ag (rW N ω ω hb _) λ_ _=>ok_eq (λ_=>fJ) λ_=>bK (λ_=>fJ) λ_=>ag (Iq N ω ω hL _) λz hz=>bO (rU N ω ω _) (bG (λ_=>fJ) λ_=>bK (λ_=>fJ) λ_=>ok_eq (λ_=>fJ) λ_=>m7 (len:=l.length) (F:=λn i=>lY.my N n l c b x z.1 (ow b.2.1 x.2.2.1) i) ω (λn i hi hr=> ?_) (λn=> ?_))
  all_goals unfold lY.my lY.ly
  ·rw[aw (x:=(i:Int)+1) ω ω,af i]
   exact ax (λ_=>aB ⟨ω,ω⟩ (ok_eq (λ_=>aB ⟨ω,ω⟩ (ok_eq (λ_=>fJ) λ_=>hr)) λ_=>hr)) λ_=>ω
  ·refine ax (λ_=>ω) λ_=>ok_eq (λ_=>fJ) λ_=>ag (bF N ω hx.2.2.2.1) λp hp=>ag (bF N ω (show aF 4 from bx)) λq hq=>ag (bF N ω hz.2.2.1) λr hr=>ag (mR N ω ω ω hq hr) λu hu=>ag (qT N ω ω ω hp hu) λ_ _=>ax (λ_=>fJ) λ_=>ag (PY N ω ω hb.2.2.2.1 _) λa ha=>ag (Xl N ω h6 ω ha hz.2.1) λj hj=>bG (λ_=>fJ) λ_=> ?_
   unfold alC
   exact ag (Q:=λr=>L3 6 r) (bO (ib N ω ω) (bG (λ_=>aq G.nil) λ_=>ag (Im N ω ω _) λr hr=>aq hr)) λo ho=>ag (PX N ω ω hc hj (G.mono h6 ho)) λw hw=>ag (vo N ω ω hb _) λg hg=>ag (bF N ω hg) λv hv=>ag (bF N ω hx.2.2.2.1) λp hp=>ag (zm N ω ω hv hp) λd hd=>ag (qT N ω ω ω hd hw) λ_ _=>ax (λ_=>fJ) λ_=>fJ
 refine bO (eh N hN ω hb) (bG (λ_=>fJ) λ_=>bO (Ca N ω c ω hw) (bG (λ_=>fJ) λ_=>bO (vj N ω ω) (bG (λ_=>fJ) λ_=>bO (UI N _) (bG (λ_=>fJ) λ_=>ax (λ_=> ?_) λ_=>hj))))
 dsimp only
 exact aB (by rw[aw ω ω];omega) (eK (λ_=>fJ) λ_=>hj)
theorem K8(N:Nat)(hN:5000000≤N){c:ae}{b:an}{Tn:bJ}{l:aO}{x:cL}{m:Nat}(h6:6≤m)(hm:m≤40000)(hc:G m aA c)(hb:G m aL b)(hL:LL m Tn)(hl:G m (.slice fa) l)(hx:G 0 fa x):Ok (λr=>G (m+1) (.slice fa) r.1) (adS N c b Tn l x):=by
 have Jg:=hl.1
 unfold adS
 refine ag (P7 N hN h6 hm hc hb hL hl hx) λ_ _=>bK (λ_=>aq G.nil) λ_=>aD (by rw[ca];omega) ?_
 dsimp only
 rw[cB]
 exact aD (by rw[aK];omega) (aq (G.cat hl (G.one hx (aH 1))))
theorem ajo{l:List Int}(h:Pos l)(hs:l.sum<9223372036854775808):KN l:=λx hx=>by
 have h3:=h x hx
 obtain⟨i,hi,rfl⟩:=rZ.1 hx
 have h4:=Au h i
 rw[aW,bl hi]at h4
 simp only[nY]at h4
 omega
theorem aaz(k:Nat):(List.replicate k (1:Int)).sum=k:=by
 induction k with
 |zero=>rfl
 |succ k ih=>rw[AU,cK,ih];omega
theorem aaA(k:Nat):Pos (List.replicate k 1):=λx hx=>by rw[AO hx];omega
theorem aaB{t:Int}{k:Nat}(h0:0≤t)(h1:t<9223372036854775808)(hk:1≤k)(Uf:k≤3):(KS t k).1.length=k∧KN (KS t k).1:=by
 have hS:0<(List.replicate k (1:Int)).sum:=by rw[aaz];omega
 have ee:KS t k=(cn t (List.replicate k 1),0):=by
  unfold KS
  rw[ah ω,aG]
  unfold sU
  have hm:may (List.replicate k 1)=true:=pW.2 ⟨by rw[c7];omega,aaA k⟩
  rw[ah (by rw[hm];simp;omega),aaz,ah ω,ah ω]
 rw[ee]
 exact⟨by dsimp only;rw[pD,List.length_replicate],ajo (wA h0 hS (aaA k)) (by rw[wz h0 hS];omega)⟩
def LQ(y:BV):Prop:=aF y.1∧aF y.2.1∧rA y.2.1
theorem ajp{l:aE}(h: ∀y∈l,LQ y)(i:Nat):LQ (l.getD i c5):=by
 by_cases hk:i<l.length
 ·rw[aW,bl hk];exact h _ (dF hk)
 ·rw[aW,il ω];exact⟨bY,bY,by unfold rA;decide⟩
theorem Xm{c:ae}{b:an}{m:Nat}(hb:G m aL b)(hB:de c b=true)(a:Int): ∀y∈posOf b.2.2.2.1 a,LQ y∧(0≤(y.1:Int)∧(y.1:Int)<(c.1.length:Int)):=λy hy=>by
 have hk:di b.2.2.2.1=true:=by
  by_cases h:di b.2.2.2.1=true
  ·exact h
  ·unfold posOf at hy;rw[ah h]at hy;nomatch hy
 unfold posOf at hy
 rw[ak hk]at hy
 obtain⟨x,hx,_,e⟩:=nv hy
 have hg:=hb.2.2.2.1.2 x hx
 have hq:=((eU hk).2 x hx).2
 have hp:=MA hB x hx
 rw[e]
 exact⟨⟨hg.2.1,hg.2.2.1,hq⟩,hp⟩
theorem U7(N:Nat)(hN:5000000≤N){c:ae}{b:an}{m:Nat}(h2:200≤m)(hm:m≤40000)(hc:G m aA c)(hb:G m aL b){next:Int}(hn:aF next):Ok (λr=>LL m r.1∧r.1.length≤12) (cr N c b next):=by
 unfold cr cr.b
 refine bO (eh N hN ω hb) (bG (λ_=>aq ⟨G.nil,bw _⟩) λhB=>ax (λ_=>aq ⟨G.nil,bw _⟩) λ_=>ax (λ_=>aq ⟨G.nil,bw _⟩) λ_=>bO (S2 N (G.wf ω hb).w.s ω 0) (ok_eq (λ_=>aq ⟨G.nil,bw _⟩) λ_=> ?_))
 have iT:=Xm hb hB 0
 have hal:=(aqN hb.2.2.2.1 0).1
 generalize posOf b.2.2.2.1 0=all at*
 refine bs (len:=4) (F:=λn k (s:Int×bJ)=>cr.l8 N n s.1 c all s.2 k) (s:=(_,_)) (λk s=>aF s.1∧s.2.length≤3*k∧ ∀x∈s.2,G m jT x) ⟨hn,bw _,λx hx=>nomatch hx⟩ ω (λn k s hk hI hr=> ?_) (λn s hI=> ?_)
 all_goals unfold cr.l8 cr.Ef
 ·refine ax (λ_=> ?_) λ_=>ω
  refine bs (len:=all.length) (F:=λn' i (z:aE×aM)=>cr.my N (cr.l8 N n) n' s.1 c all s.2 (k:Int) z.1 z.2 i) (s:=(_,_)) (λi z=>z.1.length≤i∧(∀y∈z.1,LQ y)∧Bg (8+i) z.2) ⟨bw _,(λy hy=>nomatch hy),MF ω⟩ ω (λn' i z hi hz dZ=> ?_) (λn' z hz=> ?_)
  all_goals unfold cr.my cr.ly
  ·obtain⟨zI,FF,hz3⟩:=hz
   have hx:all.getD i c5∈all:=by rw[aW,bl hi];exact dF hi
   have hy:=iT _ hx
   rw[aw (x:=(i:Int)+1) ω ω,af i,aG]
   exact ax (λ_=>aB ⟨ω,ω⟩ (aB hy.2 (ok_eq (λ_=>aB ⟨ω,ω⟩ (aD (by rw[List.length_singleton];omega) (aB ⟨ω,ω⟩ (ag (bF N ω hy.1.2.1) λu hu=>ag (Cn N ω ω hu) λu hu=>ag (lX N ω ω hz3 (Bg.mono hu ω)) λv hv=>dZ (_,_) ⟨by dsimp only;rw[List.length_append,List.length_singleton];omega,λy h=>(List.mem_append.1 h).elim (FF y) (λh=>by rw[List.mem_singleton.1 h];exact hy.1),Bg.mono hv ω⟩)))) λ_=>dZ z ⟨ω,FF,Bg.mono hz3 ω⟩))) λ_=>ω
  ·obtain⟨zI,FF,hz3⟩:=hz
   refine ax (λ_=>ω) λ_=>ag (Xk N ω (Bg.mono hz3 ω) hc.2.2.2.2.2.1) λw hw=> ?_
   obtain⟨p,hp⟩: ∃p:Nat,w=(p:Int):=⟨w.toNat,ω⟩
   subst hp
   refine bs (len:=p) (F:=λK3 j (t:Int×bJ)=>cr.JW N (cr.l8 N n) K3 t.1 c all t.2 (k:Int) z.1 (p:Int) j) (s:=s) (λj t=>aF t.1∧t.2.length≤3*k+j∧ ∀x∈t.2,G m jT x) hI ω (λK3 j t hj ht aak=> ?_) (λK3 t ht=> ?_)
   all_goals unfold cr.JW cr.P8
   ·obtain⟨xe,X0,ht3⟩:=ht
    refine ax (λ_=> ?_) λ_=>ω
    refine bs (len:=z.1.length) (F:=λn3 i u=>cr.Ny N (cr.l8 N n) (cr.JW N (cr.l8 N n) K3) n3 t.1 c all t.2 (k:Int) z.1 (p:Int) (j:Int) (t.1,(ch,((0:Int),((1:Int),c5)))) u i) (λi u=>L2 i u) G.nil ω (λn3 i u hi hu U8=> ?_) (λn3 u hu=> ?_)
    all_goals unfold cr.Ny cr.P4
    ·have Jj:=hu.1
     have hq:=ajp FF i
     have oT:=hq
     unfold LQ aF rA at oT
     have aqP: ∀q:Int,0≤q→q<9223372036854775808→Ok (λr=>LL m r.1∧r.1.length≤12) (cr.Xn N (cr.l8 N n) (cr.JW N (cr.l8 N n) K3) (cr.Ny N (cr.l8 N n) (cr.JW N (cr.l8 N n) K3) n3) t.1 c all t.2 (k:Int) z.1 (p:Int) (j:Int) (t.1,(ch,((0:Int),((1:Int),c5)))) u (i:Int) q):=λq h0 h1=>by
      unfold cr.Xn cr.P9
      obtain⟨e1,e2⟩:=aaB (k:=p) h0 h1 ω ω
      have aqQ: ∀v:List Int,v.length=p→KN v→Ok (λr=>LL m r.1∧r.1.length≤12) (cr.j32 N (cr.l8 N n) (cr.JW N (cr.l8 N n) K3) (cr.Ny N (cr.l8 N n) (cr.JW N (cr.l8 N n) K3) n3) t.1 c all t.2 (k:Int) z.1 (p:Int) (j:Int) (t.1,(ch,((0:Int),((1:Int),c5)))) u (i:Int) v):=λv Sm hv2=>by
       unfold cr.j32 cr.alD
       rw[aw (x:=(i:Int)+1) ω ω,af i]
       have hx:G 0 kO ((z.1.getD (i:Int).toNat c5).1,(v.getD (j:Int).toNat 0,())):=G2 (ajp FF _).1 (u9 hv2 _)
       exact aB ⟨ω,ω⟩ (bK (λ_=>aB ⟨ω,ω⟩ (aB ⟨ω,ω⟩ (aD (by rw[aK];omega) (U8 _ (G.cat hu (G.one hx (aH 1))))))) λ_=>U8 u (G.mono ω hu))
      refine bO (Z3 N hN h1) (aB ⟨ω,ω⟩ (ax (λ_=>aB ⟨ω,ω⟩ (aB ⟨ω,ω⟩ (aqQ _ (by rw[bU];exact e1) λy hy=> ?_))) λ_=>aqQ _ e1 e2))
      rcases uG hy with hy|rfl
      ·exact e2 y hy
      ·exact gH _
     rw[aG]
     refine ax (λ_=>aB ⟨ω,ω⟩ (ax (λeV=> ?_) λLO=> ?_)) λ_=>ω
     ·have g: ∀x:Int,-9223372036854775808≤x∧x≠ -9223372036854775808→x<0→0≤W .i64 (0-x)∧W .i64 (0-x)<9223372036854775808:=λx h1 h2=>by rw[aw ω ω];omega
      have gx:=g _ ⟨oT.2.1.1,oT.2.2⟩ eV
      exact aqP _ gx.1 gx.2
     ·exact aqP _ LO oT.2.1.2
    ·have Jj:=hu.1
     rw[aw (x:=(j:Int)+1) ω ω,af j]
     have hum:L2 m u:=G.mono ω hu
     refine ax (λ_=>ω) λ_=>ok_eq (λ_=>aak t ⟨xe,ω,ht3⟩) λ_=> ?_
     unfold aaC
     refine ag (Q:=λr=>Bg 60000 r.1) (ag (Dr N ω ω hc hum _) λr hr=>aq hr) λa ha=>ag (rV N ω ω ha) λd hd=>ag (yC N hd) λv hv=>bG (λ_=>aq ⟨G.nil,Nat.zero_le _⟩) λ_=>aD (by rw[List.length_singleton];omega) (aak (_,_) ⟨gH _,by dsimp only;rw[List.length_append,List.length_singleton];omega,λx hx=> ?_⟩)
     rcases bn.1 hx with hx|hx
     ·exact ht3 x hx
     ·rw[cw.1 hx];exact⟨xe,hum,hv,(show aF 1 from bx),bY,bY,trivial⟩
   ·rw[aw (x:=(k:Int)+1) ω ω,af k]
    exact ax (λ_=>ω) λ_=>hr t ⟨ht.1,by have:=ht.2.1;omega,ht.2.2⟩
 ·exact ax (λ_=>ω) λ_=>aq ⟨⟨by have:=hI.2.1;dsimp only;omega,hI.2.2⟩,by have:=hI.2.1;dsimp only;omega⟩
theorem adT(N:Nat)(hN:5000000≤N){c:ae}{b:an}{m:Nat}(h2:200≤m)(hm:m≤40000)(hc:G m aA c)(hb:G m aL b){next:Int}(hn:aF next):Ok (λr=>LL m r.1) (cr N c b next):=Mj (U7 N hN h2 hm hc hb hn) λ_ h=>h.1
theorem vp(N:Nat)(hN:200000≤N){l:aE}(hl:l.length≤100000):Ok (λ_=>True) (qz N l):=by
 unfold qz qz.b
 refine m7 (len:=l.length) (F:=λn i=>qz.l2 N n l i) ω (λn i hi hr=> ?_) (λn=> ?_)
 all_goals unfold qz.l2 qz.fI
 ·rw[aw (x:=(i:Int)+1) ω ω,af i]
  dsimp only
  repeat' first|exact hr|exact fJ|refine aB ⟨ω,ω⟩ ?_|refine aB (by rw[aw (x:=(i:Int)-1) ω ω];omega) ?_|refine ax (λ_=> ?_) (λ_=> ?_)|refine eK (λ_=> ?_) (λ_=> ?_)|refine ok_eq (λ_=> ?_) (λ_=> ?_)|(exfalso;omega)
 ·exact ax (λ_=>ω) λ_=>fJ
theorem Xo(N:Nat)(hN:200000≤N){l:List Int}(hl:l.length≤100000):Ok (λ_=>True) (s7 N l):=by
 unfold s7 s7.b
 refine m7 (len:=l.length) (F:=λn i=>s7.l2 N n l i) ω (λn i hi hr=> ?_) (λn=> ?_)
 all_goals unfold s7.l2 s7.fI
 ·rw[aw (x:=(i:Int)+1) ω ω,af i]
  dsimp only
  repeat' first|exact hr|exact fJ|refine aB ⟨ω,ω⟩ ?_|refine aB (by rw[aw (x:=(i:Int)-1) ω ω];omega) ?_|refine ax (λ_=> ?_) (λ_=> ?_)|refine eK (λ_=> ?_) (λ_=> ?_)|refine ok_eq (λ_=> ?_) (λ_=> ?_)|(exfalso;omega)
 ·exact ax (λ_=>ω) λ_=>fJ
theorem aaD(N:Nat)(hN:200000≤N)(a:Int){L:bJ}{l:aO}{m:Nat}(hm:m≤50000)(hL:LL m L)(hl:G m (.slice fa) l):Ok aF (ko N a L l):=by
 have h1:=hL.1
 have h2:=hl.1
 have i3:aF 3:=bx
 have i2:aF 2:=bx
 unfold ko ko.b
 refine bs (len:=l.length) (F:=λn i v=>ko.l3 N n a L l v i) (λ_ v=>aF v) (show aF 1 from bx) ω (λn i v hi hv hr=> ?_) (λn v hv=> ?_)
 all_goals unfold ko.l3 ko.m3
 ·rw[aw (x:=(i:Int)+1) ω ω,af i]
  exact ax (λ_=>aB ⟨ω,ω⟩ (bK (λ_=>hr v hv) λ_=>aB ⟨ω,ω⟩ (ag (Iq N hN hm hL _) λ_ _=>oZ (λ_=>aB ⟨ω,ω⟩ (eK (λ_=>hr _ (B0 hv i3)) λ_=>hr _ (B0 hv i2))) λ_=>hr _ (B0 hv i2)))) λ_=>ω
 ·refine ax (λ_=>ω) λ_=>bs (len:=L.length) (F:=λn i v=>ko.nI N n a L v i) (λ_ v=>aF v) hv ω (λn i v hi hv hr=> ?_) (λn v hv=> ?_)
  all_goals unfold ko.nI ko.mO
  ·rw[aw (x:=(i:Int)+1) ω ω,af i]
   exact ax (λ_=>aB ⟨ω,ω⟩ (ok_eq (λ_=>aB ⟨ω,ω⟩ (ok_eq (λ_=>hr 4 bx) λ_=>hr v hv)) λ_=>hr v hv)) λ_=>ω
  ·exact ax (λ_=>ω) λ_=>aq hv
theorem Qa(N:Nat)(hN:200000≤N)(c:ae){d:aE}{u:List Int}{L:bJ}{l:aO}{m:Nat}(h2:200≤m)(hm:m≤50000)(hd:L2 m d)(hu:u.length≤m)(hL:LL m L)(hl:G m (.slice fa) l):Ok (λr=>L2 m r.1) (dR N c d u L l):=by
 have h3:=hd.1
 have h4:=hL.1
 have h5:=hl.1
 have hw:KH L:=λy hy=>cA (hL.2 y hy).2.1.1 ω
 unfold dR dR.b
 refine ag (vp N hN ω) λ_ _=>bG (λ_=>aq G.nil) λ_=>ag (Xo N hN ω) λ_ _=>bG (λ_=>aq G.nil) λ_=>bO (Ca N hN c ω hw) (bG (λ_=>aq G.nil) λ_=>bO (vj N ω hN) (bG (λ_=>aq G.nil) λ_=>jk (len:=13) (F:=λn i s=>dR.l5 N n d u L l s i) (λi s=>L2 i s) (λn i s hi hI hr=> ?_) (λn s hI=> ?_) 13 N 1 [] ω ω ω G.nil))
 all_goals unfold dR.l5 dR.dU
 ·have hs:=hI.1
  refine eK (λ_=> ?_) λ_=>ω
  refine bs (len:=d.length) (F:=λn' j (z:Int×Bool)=>dR.l9 N (dR.l5 N n) n' d u L l s (i:Int) z.1 z.2 j) (s:=(_,_)) (λ_ z=>aF z.1) bY ω (λn' j z hj hz dZ=> ?_) (λn' z hz=> ?_)
  all_goals unfold dR.l9 dR.vd
  ·rw[aw (x:=(j:Int)+1) ω ω,af j]
   exact ax (λ_=>aB ⟨ω,ω⟩ (ok_eq (λ_=>aB ⟨ω,ω⟩ (dZ (_,_) (G.at hd _).2.1)) λ_=>dZ z hz)) λ_=>ω
  ·refine ax (λ_=>ω) λ_=>bs (len:=u.length) (F:=λn' j f=>dR.KR N (dR.l5 N n) n' d u L l s (i:Int) z.1 f j) (λ_ _=>True) trivial ω (λn' j f hj _ dZ=> ?_) (λn' f _=> ?_)
   all_goals unfold dR.KR dR.H5
   ·rw[aw (x:=(j:Int)+1) ω ω,af j]
    exact ax (λ_=>oZ (λ_=>dZ _ trivial) λ_=>aB ⟨ω,ω⟩ (dZ _ trivial)) λ_=>ω
   ·refine ax (λ_=>ω) λ_=>bs (len:=l.length) (F:=λn' j f=>dR.Ji N (dR.l5 N n) n' d u L l s (i:Int) z.1 f j) (λ_ _=>True) trivial ω (λn' j f hj _ dZ=> ?_) (λn' f _=> ?_)
    all_goals unfold dR.Ji dR.Fh
    ·rw[aw (x:=(j:Int)+1) ω ω,af j]
     exact ax (λ_=>oZ (λ_=>dZ _ trivial) λ_=>aB ⟨ω,ω⟩ (dZ _ trivial)) λ_=>ω
    ·rw[aw (x:=(i:Int)+1) ω ω,af i]
     dsimp only
     exact ax (λ_=>ω) λ_=>oZ (λ_=>ag (aaD N hN _ hm hL hl) λv hv=>aD (by rw[aK];omega) (hr _ (G.cat hI (G.one (m:=1) (G2 (jD ω ω) (B0 hz hv)) (aH 1))))) λ_=>hr s (G.mono ω hI)
 ·exact eK (λ_=>ω) λ_=>aq (G.mono ω hI)
theorem aaE(N:Nat)(hN:200000≤N){l:aE}(hl:l.length≤100000)(a:Int):Ok (λ_=>True) (s8 N l a):=by
 unfold s8 s8.b
 refine ag (vp N hN hl) λ_ _=>bG (λ_=>fJ) λ_=>m7 (len:=l.length) (F:=λn i=>s8.l4 N n l a i) ω (λn i hi hr=> ?_) (λn=> ?_)
 all_goals unfold s8.l4 s8.dL
 ·rw[aw (x:=(i:Int)+1) ω ω,af i]
  exact ax (λ_=>aB ⟨ω,ω⟩ (ok_eq (λ_=>aB ⟨ω,ω⟩ fJ) λ_=>hr)) λ_=>ω
 ·exact ax (λ_=>ω) λ_=>fJ
theorem MM(N:Nat)(a:Int):Ok (λ_=>True) (aaF N a):=by
 unfold aaF
 exact ok_eq (λ_=>fJ) λ_=>fJ
theorem Ir(N:Nat)(hN:5000000≤N)(c:ae){b:an}{d:aE}{m:Nat}(hm:m≤50000)(hb:G m aL b)(hd:L2 m d)(a k:Int):Ok (λr=>G m (.slice (.int .i64)) r.1) (s9 N c b d a k):=by
 have hl:=hb.1.1
 have h2:=hd.1
 unfold s9 s9.b
 refine bO (eh N hN hm hb) (bG (λ_=>aq G.nil) λ_=>ag (vp N ω ω) λ_ _=>bG (λ_=>aq G.nil) λ_=>bs (len:=b.1.length) (F:=λn i s=>s9.l5 N n d a k b s i) (λi s=>G i (.slice (.int .i64)) s) G.nil ω (λn i s hi hI hr=> ?_) (λn s hI=> ?_))
 all_goals unfold s9.l5 s9.dU
 ·have hs:=hI.1
  rw[aw (x:=(i:Int)+1) ω ω,af i]
  have h1:=hr s (G.mono ω hI)
  have hx:G 0 (.int .i64) (b.1.getD (i:Int).toNat c5).1:=(G.at hb.1 _).1
  exact ax (λ_=>aB ⟨ω,ω⟩ (ag (MM N _) λ_ _=>oZ (λ_=>bK (λ_=>ag (ny N ω hm hb.2.2.1 _ _) λ_ _=>ax (λ_=>ag (aaE N ω ω _) λ_ _=>ok_eq (λ_=>aD (by rw[aK];omega) (hr _ (G.cat hI (G.one hx (aH 1))))) λ_=>h1) λ_=>h1) λ_=>h1) λ_=>h1)) λ_=>ω
 ·exact ax (λ_=>ω) λ_=>aq (G.mono hl hI)
theorem Cp(N:Nat)(hN:200000≤N){a:aO}{m:Nat}(hm:m≤50000)(h:G m (.slice fa) a)(id:Int):Ok aF (np N a id):=by
 refine oJ (rU N (cA h.1 ω) hN id) ?_
 unfold ow
 split
 ·have: ∀l:aO,(∀x∈l,G m fa x)→aF (ov id l):=by
   intro l
   induction l with
   |nil=>intro _;exact bY
   |cons x t ih=>
    intro hx
    have hi:=ih λy hy=>hx y (a8 _ hy)
    rw[tV]
    split
    ·split
     ·exact(hx x (bt ..)).1
     ·exact hi
    ·exact hi
  exact this a h.2
 ·exact bY
abbrev L5(m:Nat)(l:bh):Prop:=G m (.slice qA) l
theorem G5{m:Nat}{a b c d e:Int}(ha:aF a)(hb:aF b)(hc:aF c)(hd:aF d)(he:aF e):G m qA (a,(b,(c,(d,(e,()))))):=⟨ha,hb,hc,hd,he,trivial⟩
theorem MN(N:Nat)(hN:200000≤N){l:bh}{b:an}{m k:Nat}(hm:m≤50000)(hb:G m aL b)(hk:k≤1000000)(hl:L5 k l){a d n:Int}(ha:aF a)(hd:aF d)(hn:aF n):Ok (λr=>L5 (k+1) r) (MO N l b a d n):=by
 have h1:=hl.1
 unfold MO
 exact ag (ny N hN hm hb.2.2.1 _ _) λx hx=>ax (λ_=>aD (by rw[aK];omega) (aq (G.cat hl (G.one (m:=1) (G5 ha hd hn hx bY) (aH 1))))) λ_=>aq (G.mono ω hl)
theorem Qb(N:Nat)(hN:5000000≤N){c:ae}{b:an}{d g:aE}{a:Int}{m:Nat}(hm:m≤50000)(hc:G m aA c)(hb:G m aL b)(hd:L2 m d)(hg:L2 m g)(ha:aF a):Ok (λr=>L5 1000000 r.1) (c6 N c b a d g):=by
 have h1:=hb.1.1
 have h2:=hd.1
 have h3:=hg.1
 have h4:=hb.2.1.1
 have hj: ∀l:bh,L5 1 l→Ok (λr=>L5 1000000 r.1) (c6.j9 N a d g c b l):=λl hl=>by
  unfold c6.j9 c6.JF
  refine ag (MN N ω hm hb ω hl bx bx ha) λl hl=>ag (MN N ω hm hb ω hl bx bx bY) λl hl=>jk (len:=5) (F:=λn k s=>c6.nI N n a d g c b s k) (λk s=>L5 (3+m*k) s) (λn k s hk hs hr=> ?_) (λn s hs=> ?_) 5 N 1 l ω ω ω (G.mono ω hl)
  all_goals unfold c6.nI c6.mO
  ·have hmk:m*k≤m*4:=mX m ω
   refine eK (λ_=>ag (Ir N hN c hm hb hd _ _) λt ht=> ?_) λ_=>ω
   have htl:=ht.1
   refine bs (len:=t.1.length) (F:=λn' j u=>c6.yj N (c6.nI N n) n' a d g c b u (k:Int) t.1 j) (λj u=>L5 (3+m*k+j) u) hs ω (λn' j u hj hu dZ=> ?_) (λn' u hu=> ?_)
   all_goals unfold c6.yj c6.w7
   ·rw[aw (x:=(j:Int)+1) ω ω,af j]
    exact ax (λ_=>aB ⟨ω,ω⟩ (ag (MN N ω hm hb ω hu (gH _) bx (G.at ht _)) λv hv=>dZ v hv)) λ_=>ω
   ·rw[aw (x:=(k:Int)+1) ω ω,af k]
    exact ax (λ_=>ω) λ_=>hr u (G.mono (by rw[sm];omega) hu)
  ·refine eK (λ_=>ω) λ_=>bs (len:=b.1.length) (F:=λn j u=>c6.JW N n a g c b u j) (λj u=>L5 (3+m*5+j) u) hs ω (λn j u hj hu hr=> ?_) (λn u hu=> ?_)
   all_goals unfold c6.JW c6.P8
   ·have Jj:=hu.1
    have hx:aF (b.1.getD (j:Int).toNat c5).1:=(G.at hb.1 _).1
    rw[aw (x:=(j:Int)+1) ω ω,af j]
    have h0:=hr u (G.mono ω hu)
    exact ax (λ_=>aB ⟨ω,ω⟩ (ag (MM N _) λ_ _=>bG (λ_=>h0) λ_=>ok_eq (λ_=>h0) λ_=>ag (bF N ω hc.2.2.1) λp hp=>ag (ny N ω hm hb.2.2.1 _ _) λq hq=>ag (bF N ω hq) λq hq=>ag (mR N ω ω ω hp hq) λy hy=>ag (yC N hy) λv hv=>bG (λ_=>aq G.nil) λ_=>ax (λ_=>aD (by rw[aK];omega) (hr _ (G.mono ω (G.cat hu (G.one (m:=1) (G5 (show aF 8 from bx) (show aF 7 from bx) hx hv bY) (aH 1)))))) λ_=>h0)) λ_=>ω
   ·refine ax (λ_=>ω) λ_=>bs (len:=g.length) (F:=λn j u=>c6.Pm N n a g b u j) (λj u=>L5 (3+m*5+m+j) u) (G.mono ω hu) ω (λn j u hj hu hr=> ?_) (λn u hu=> ?_)
    all_goals unfold c6.Pm c6.Mo
    ·have Jj:=hu.1
     rw[aw (x:=(j:Int)+1) ω ω,af j]
     have h0:=hr u (G.mono ω hu)
     dsimp only
     exact ax (λ_=>aB ⟨ω,ω⟩ (ag (zn N ω hm hb.2.1 _) λx hx=>aB ⟨ω,ω⟩ (aB ⟨ω,ω⟩ (ag (ny N ω hm hb.2.2.1 _ _) λq hq=>oZ (λ_=>bK (λ_=>ax (λ_=>aD (by rw[aK];omega) (hr _ (G.mono ω (G.cat hu (G.one (m:=1) (G5 (show aF 9 from bx) (show aF 5 from bx) hx.1 (ZB (G.at hg _).2.1 hq) bY) (aH 1)))))) λ_=>h0) λ_=>h0) λ_=>h0)))) λ_=>ω
    ·exact ax (λ_=>ω) λ_=>aq (G.mono ω hu)
 unfold c6 c6.b
 exact bO (eh N hN hm hb) (bG (λ_=>aq G.nil) λ_=>ag (vp N ω ω) λ_ _=>bG (λ_=>aq G.nil) λ_=>ag (Dp N ω ω) λ_ _=>bG (λ_=>aq G.nil) λ_=>ag (pE N ω hm hb.1 _) λ_ _=>ok_eq (λ_=>aq G.nil) λ_=>ag (Cp N ω hm hb.2.1 _) λh hh=>bK (λ_=>ag (MN N ω hm hb ω (G.nil (m:=0)) bx bx hh) λl hl=>hj l hl) λ_=>hj [] G.nil)
theorem K9(N:Nat)(hN:5000000≤N)(c:ae){b:an}{m:Nat}(hm:m≤50000)(hb:G m aL b):Ok (λr=>aF r.1) (adU N c b):=by
 unfold adU
 exact bO (eh N hN hm hb) (bG (λ_=>aq bY) λ_=>ag (ny N ω hm hb.2.2.1 _ _) λx hx=>ok_eq (λ_=>aq bY) λ_=>aq (B0 (gH _) bY))
theorem Is(N:Nat)(hN:5000000≤N)(c:ae){b:an}{m:Nat}(hm:m≤50000)(hb:G m aL b):Ok (λr=>aF r.1) (adV N c b):=by
 unfold adV
 exact bO (eh N hN hm hb) (bG (λ_=>aq bY) λ_=>ag (ny N ω hm hb.2.2.1 _ _) λx hx=>aq (B0 hx bY))
theorem alE(N:Nat)(a b:Int):Ok (λ_=>True) (SH N a b):=by
 unfold SH
 repeat' first|exact fJ|refine ok_eq (λ_=> ?_) (λ_=> ?_)|refine eK (λ_=> ?_) (λ_=> ?_)
theorem Xp(N:Nat)(hN:200000≤N)(l:bh):Ok (λr=>r=true→l.length≤64) (ta N l):=by
 have hf:Ok (λr=>r=true→l.length≤64) (some false):=aq λh=>nomatch h
 unfold ta ta.b
 refine ax (λ_=>hf) λhl=>m7 (len:=l.length) (F:=λn i=>ta.l4 N n l i) ω (λn i hi hr=> ?_) (λn=> ?_)
 all_goals unfold ta.l4 ta.dL
 ·rw[aw (x:=(i:Int)+1) ω ω,af i]
  dsimp only
  repeat' first|exact hr|exact hf|refine aB ⟨ω,ω⟩ ?_|refine aB (by rw[aw (x:=(i:Int)-1) ω ω];omega) ?_|refine ax (λ_=> ?_) (λ_=> ?_)|refine eK (λ_=> ?_) (λ_=> ?_)|refine ok_eq (λ_=> ?_) (λ_=> ?_)|(exfalso;omega)|refine ag (alE N _ _) λ_ _=> ?_|refine bG (λ_=> ?_) (λ_=> ?_)
 ·exact ax (λ_=>ω) λ_=>aq λ_=>ω
theorem U9{σ β:Type}{P:β→Prop}{F:Nat→Int→σ→Option β}{len:Nat}(I:σ→Prop)
  (hs: ∀n i s,i<len→I s→(∀j s',i<j→j≤len→I s'→Ok P (F n (j:Int) s'))→Ok P (F (n+1) (i:Int) s)) (he: ∀n s,I s→Ok P (F (n+1) (len:Int) s)):
  ∀m n i s,len-i≤m→m<n→i≤len→I s→Ok P (F n (i:Int) s)
 |m,0,i,s,_,hn,_,_=>ω
 |m,n+1,i,s,hm,hn,hi,hI=>by
  by_cases h:i<len
  ·exact hs n i s h hI λj s' hj X5 zJ=>U9 I hs he (m-1) n j s' ω ω X5 zJ
  ·have:i=len:=ω
   subst this
   exact he n s hI
theorem G5q{m:Nat}{x:iE}{q:Int}(h:G m qA x)(hq:aF q):G m qA (x.1,(x.2.1,(x.2.2.1,(x.2.2.2.1,(q,x.2.2.2.2.2))))):=⟨h.1,h.2.1,h.2.2.1,h.2.2.2.1,hq,trivial⟩
theorem aqR: ∀{w:List Int},Pos w→0≤w.sum
 |[],_=>fU _
 |x::t,h=>by
  rw[cK]
  have:=h x (bt ..)
  have:=aqR (w:=t) λy hy=>h y (a8 _ hy)
  omega
theorem Xq{t:Int}{w:List Int}(h1:t<9223372036854775808)(h:(sU t w).2=0):(sU t w).1.length=w.length∧KN (sU t w).1:=by
 unfold sU at h ⊢
 split at h
 ·exact absurd h δ
 ·split at h
  ·exact absurd h δ
  ·rename_i h2 h3
   split at h
   ·split at h
    ·rename_i h4 h5
     rw[ah h2,ah h3,ak h4,ak h5]
     exact⟨c7 ..,λx hx=>by rw[AO hx];decide⟩
    ·exact absurd h δ
   ·rename_i h4
    rw[ah h2,ah h3,ah h4]
    have hm:may w=true:=by
     by_cases hm:may w=true
     ·exact hm
     ·exact absurd (Or.inr (xq.2 hm)) h2
    have hp:=(pW.1 hm).2
    have h0:0≤t:=ω
    have hS:0<w.sum:=by have:=aqR hp;omega
    exact⟨pD t w,ajo (wA h0 hS hp) (by rw[wz h0 hS];exact h1)⟩
theorem adW{α:Type}{Q:α→Prop}{l:List α}{x:α}{k:Nat}(h: ∀y∈l,Q y)(hx:Q x): ∀y∈l.set k x,Q y:=λy hy=>by
 rcases uG hy with hy|rfl
 ·exact h y hy
 ·exact hx
theorem Va{α:Type}{Q:α→Prop}{l:List α}{d:α}{k:Nat}(h: ∀y∈l,Q y)(hk:k<l.length):Q (l.getD k d):=by
 rw[aW,bl hk];exact h _ (dF hk)
theorem La(N:Nat)(hN:5000000≤N){l:bh}{q:Int}{Q:iE→Prop}(hQ: ∀x,Q x→aF x.2.2.2.1)(hU: ∀(x:iE) (v:Int),Q x→aF v→Q (x.1,(x.2.1,(x.2.2.1,(x.2.2.2.1,(v,x.2.2.2.2.2))))))(hl: ∀x∈l,Q x)(hq:aF q):Ok (λr=>(r.1.length≤64∧ ∀x∈r.1,Q x)∧aF r.2.1) (dX N l q):=by
 have ei: ∀e:Int,Ok (λr:bh×Int×Int=>(r.1.length≤64∧ ∀x∈r.1,Q x)∧aF r.2.1) (some ([],((0:Int),e))):=λe=>aq ⟨⟨bw _,λx hx=>nomatch hx⟩,bY⟩
 unfold dX dX.b
 refine ag (Xp N ω l) λz hz=>bG (λ_=>ei _) λht=>ax (λ_=>ei _) λ_=> ?_
 have lq:=hz ht
 rw[cB]
 refine aD (by rw[ca];omega) (U9 (len:=l.length) (F:=λn i (s:bh×Int)=>dX.l5 N n s.1 s.2 i) (λs=>s.1.length=l.length∧(∀x∈s.1,Q x)∧aF s.2) (λn i s hi hI hr=> ?_) (λn s hI=> ?_) l.length N 0 (l,q) ω ω ω ⟨rfl,hl,hq⟩)
 all_goals unfold dX.l5 dX.dU
 ·obtain⟨Nr,Wf,hs3⟩:=hI
  refine ax (λ_=> ?_) λ_=>ω
  have fin: ∀(k:Nat) (w:List Int),i<k→k≤l.length→w.length=k-i→KN w→Ok (λr=>(r.1.length≤64∧ ∀x∈r.1,Q x)∧aF r.2.1) (dX.E9 N (dX.l5 N n) s.1 s.2 (i:Int) (k:Int) w):=λk w hk Bu hw H6=>by
   unfold dX.E9 dX.ym
   have CJ:aF (mn (CX w.sum).1 s.2):=ZB (aaj _) hs3
   refine bO (Al N ω H6 ω) (bO (uz N _) (bG (λ_=>ei _) λ_=>bO (Di N hN CJ.2 H6 ω) (bK (λ_=>ei _) λh0=> ?_)))
   obtain⟨e1,e2⟩:=Xq CJ.2 h0
   generalize (sU (mn (CX w.sum).1 s.2) w).1=v at*
   refine jk (len:=k) (F:=λn' j (z:bh×Int)=>dX.Ji N (dX.l5 N n) n' z.1 z.2 (i:Int) (k:Int) v j) (λj z=>i≤j∧z.1.length=l.length∧(∀x∈z.1,Q x)∧aF z.2) (λn' j z hj hz dZ=> ?_) (λn' z hz=> ?_) k N i s ω ω ω ⟨aH i,Nr,Wf,hs3⟩
   all_goals unfold dX.Ji dX.Fh
   ·obtain⟨qI,zI,FF,hz3⟩:=hz
    dsimp only
    rw[aw (x:=(j:Int)+1) ω ω,af j,aw (x:=(j:Int)-i) ω ω]
    exact ax (λ_=>aB ⟨ω,ω⟩ (aB ⟨ω,ω⟩ (aB ⟨ω,ω⟩ (dZ (_,_) ⟨ω,by dsimp only;rw[List.length_set];exact zI,adW FF (hU _ _ (Va FF ω) (u9 e2 _)),gH _⟩)))) λ_=>ω
   ·exact ax (λ_=>ω) λ_=>hr k z hk Bu hz.2
  refine jk (len:=l.length) (F:=λn' k w=>dX.l8 N (dX.l5 N n) n' s.1 s.2 (i:Int) k w) (λk w=>i≤k∧w.length=k-i∧KN w) (λn' k w hk hw dZ=> ?_) (λn' w hw=> ?_) l.length N i [] ω ω ω ⟨aH i,by rw[ca];omega,λx hx=>nomatch hx⟩
  all_goals unfold dX.l8 dX.Ef
  ·obtain⟨hik,hwl,H6⟩:=hw
   rw[aw (x:=(k:Int)+1) ω ω,af k]
   refine ax (λ_=>aB ⟨ω,ω⟩ (aB ⟨ω,ω⟩ (ok_eq (λ_=>aB ⟨ω,ω⟩ (aD (by rw[aK];omega) (dZ _ ⟨ω,by rw[aS,aK];omega,λx hx=> ?_⟩))) λkQ=> ?_))) λ_=>ω
   ·rcases bn.1 hx with hx|hx
    ·exact H6 x hx
    ·rw[cw.1 hx];exact hQ _ (Va Wf ω)
   ·refine fin k w ?_ ω hwl H6
    by_cases e:k=i
    ·subst e;exact absurd rfl kQ
    ·omega
  ·exact ax (λ_=>ω) λ_=>fin l.length w hi (aH _) hw.2.1 hw.2.2
 ·exact ax (λ_=>ω) λ_=>aq ⟨⟨by have:=hI.1;dsimp only;omega,hI.2.1⟩,hI.2.2⟩
theorem To(N:Nat)(hN:5000000≤N){l:bh}{q:Int}{m:Nat}(hl:L5 m l)(hq:aF q):Ok (λr=>L5 64 r.1∧aF r.2.1) (dX N l q):=
 La N hN (Q:=G 64 qA) (λx hx=>hx.2.2.2.1) (λx v hx hv=>G5q hx hv) (λx hx=>G.mono (m:=0) (bw _) (hl.2 x hx)) hq
abbrev R0:eo:=((0:Int),((0:Int),(([]:bh),((0:Int),()))))
theorem Lb(N:Nat)(hN:5000000≤N){c:ae}{b:an}{d g:aE}{a:Int}{m:Nat}(h2:200≤m)(hm:m≤40000)(hc:G m aA c)(hb:G m aL b)(hd:L2 m d)(hg:L2 m g)(ha:aF a):Ok (λr=>G m aL r.1∧G m ix r.2.1) (jc N c b a d g):=by
 have ei: ∀e:Int,Ok (λr:an×eo×Int=>G m aL r.1∧G m ix r.2.1) (some ((ch,(cT,(bq,(bq,(dg,(du,())))))),(R0,e))):=λe=>aq ⟨G.jG,G.zero m ix⟩
 unfold jc jc.b
 refine ag (Qb N hN ω hc hb hd hg ha) λl hl=>ok_eq (λ_=>ei _) λ_=>ok_eq (λ_=>ei _) λ_=>ag (K9 N hN c ω hb) λq hq=>bK (λ_=>ei _) λ_=>bK (λ_=>ei _) λ_=>ag (To N hN hl hq) λz ⟨zI,FF⟩=>bK (λ_=>ei _) λ_=> ?_
 have hzl:=zI.1
 have hj: ∀(p:bM) (r:eo) (t:bh) (x k n:Int),kS 1000 p→G m ix r→L5 64 t→aF x→Ok (λr=>G m aL r.1∧G m ix r.2.1) (jc.j26 N b (ch,(cT,(bq,(bq,(dg,(du,())))))) R0 p r t x k n):=λp r t x k n hp hr ht hx=>by
  have CB:=hp.1
  unfold jc.j26 jc.adX
  exact ag (bF N ω hx) λv hv=>ag (ui N ω _ _ _ _ (Bg.mono hv ω)) λu hu=>aD (by have:=hu.1;omega) (ag (uh N ω h2 ω hb G.nil (kS.mono (kS.app hp hu) ω)) λw hw=>bK (λ_=>ei _) λ_=>aq ⟨hw,hr.1,hr.2.1,G.mono ω ht,hr.2.2.2⟩)
 refine bs (len:=z.1.length) (F:=λn i (s:bM×eo×bh)=>jc.KC N n a c b (ch,(cT,(bq,(bq,(dg,(du,())))))) R0 z.1 z.2.1 s.1 s.2.1 s.2.2 i) (s:=(_,(_,_))) (λi s=>kS (2*i) s.1∧G m ix s.2.1∧L5 i s.2.2) ⟨kS.nil,⟨ha,hq,G.nil,FF,trivial⟩,G.nil⟩ ω (λn i s hi hI hr=> ?_) (λn s hI=> ?_)
 all_goals unfold jc.KC jc.JP
 ·obtain⟨h4,h5,h6⟩:=hI
  have hp:=h4.1
  have ht:=h6.1
  have hx:G 0 qA (z.1.getD (i:Int).toNat gq):=G.at zI _
  rw[aw (x:=(i:Int)+1) ω ω,af i]
  exact ax (λ_=>aB ⟨ω,ω⟩ (ax (λ_=>aB ⟨ω,ω⟩ (aD (by rw[aK];omega) (aB ⟨ω,ω⟩ (aB ⟨ω,ω⟩ (aB ⟨ω,ω⟩ (ag (bF N ω hx.2.2.2.2.1) λv hv=>ag (ui N ω _ _ _ _ (Bg.mono hv ω)) λu hu=>aD (by have:=hu.1;omega) (hr (_,(_,_)) ⟨kS.mono (kS.app h4 hu) ω,⟨h5.1,h5.2.1,G.nil,h5.2.2.2⟩,G.cat h6 (G.one hx (aH 1))⟩))))))) λ_=>hr s ⟨kS.mono h4 ω,h5,G.mono ω h6⟩)) λ_=>ω
 ·obtain⟨h4,h5,h6⟩:=hI
  have hp:=h4.1
  dsimp only
  exact ax (λ_=>ω) λ_=>ag (bF N ω FF) λv hv=>ag (ui N ω _ _ _ _ (Bg.mono hv ω)) λu hu=>aD (by have:=hu.1;omega) (ag (Is N hN c ω hb) λx hx=>ag (Cp N ω ω hb.2.1 _) λh hh=>bK (λ_=>hj _ _ _ _ _ _ (kS.mono (kS.app h4 hu) ω) h5 (G.mono ω h6) hx) λ_=>hj _ _ _ _ _ _ (kS.mono (kS.app h4 hu) ω) h5 (G.mono ω h6) hx)
end VM
end
