/- A part of the proof of BookTwo of layer 18: what the functions compute, in plain words. -/
import Derived.Test.YtecmobijochjkaaGreatPlain5
set_option linter.all false
section
namespace VM
open Go VM.F
theorem G6q{m:Nat}{x:fV}{q:Int}(h:G m nn x)(hq:aF q):G m nn (x.1,(x.2.1,(x.2.2.1,(x.2.2.2.1,(q,x.2.2.2.2.2))))):=⟨h.1,h.2.1,h.2.2.1,h.2.2.2.1,hq,h.2.2.2.2.2⟩
theorem adF(N:Nat)(hN:200000≤N){l:aY}{m:Nat}(hm:m≤50000)(h:L6 m l)(a d:Int):Ok (λr=>L6 m r) (et N l a d):=by
 have hl:=h.1
 unfold et et.b
 refine bH (iU N ω hN) (bF (λ_=>aq G.nil) λ_=>bs (len:=l.length) (F:=λn i s=>et.l5 N n l a d s i) (λi s=>L6 i s) G.nil ω (λn i s hi hI hr=> ?_) (λn s hI=> ?_))
 all_goals unfold et.l5 et.eA
 ·have hs:=hI.1
  have hx:G 0 nn (l.getD (i:Int).toNat eF):=G.at h _
  have fin: ∀k:Nat,k≤s.length→Ok (λr=>L6 m r) (et.E9 N (et.l5 N n) l a d s (i:Int) (k:Int)):=λk hk=>by
   unfold et.E9 et.yr
   rw[aw (x:=(i:Int)+1) ω ω,af i]
   dsimp only
   have t: ∀a b:Nat,(List.drop a (List.take b s)).length≤s.length:=λa b=>by rw[eg,bZ];omega
   have t1:=t (0:Int).toNat (k:Int).toNat
   have t2:=t (k:Int).toNat (s.length:Int).toNat
   refine Df ⟨ω,ω,ω,ω⟩ (aD ω (aB ⟨ω,ω⟩ (aD (by rw[aK];omega) (Df ⟨ω,ω,ω,ω⟩ (aD (by rw[aS,aK];omega) (hr _ ?_))))))
   simpa using G.ins hI (G.mono (bz i) hx) k 0 k (aH _)
  have h1:=hr s (G.mono ω hI)
  have hw:Ok (λr=>L6 m r) (et.l9 N (et.l5 N n) N l a d s (i:Int) 0):=by
   refine mZ (len:=s.length) (F:=λn' j=>et.l9 N (et.l5 N n) n' l a d s (i:Int) j) ω (λn' j hj eQ=> ?_) (λn'=> ?_)
   all_goals unfold et.l9 et.vN
   ·rw[aw (x:=(j:Int)+1) ω ω,af j]
    have hah: ∀x y:fV,Ok (λ_=>True) (W3 N x y):=λx y=>by unfold W3;exact bG (λ_=>fH) λ_=>fH
    exact ax (λ_=>aB ⟨ω,ω⟩ (aB ⟨ω,ω⟩ (ag (hah _ _) λ_ _=>nL (λ_=>eQ) λ_=>fin j ω))) λ_=>ω
   ·exact ax (λ_=>ω) λ_=>fin _ (aH _)
  rw[aw (x:=(i:Int)+1) ω ω,af i]
  repeat' first|exact h1|exact hw|refine aB ⟨ω,ω⟩ ?_|refine ax (λ_=> ?_) (λ_=> ?_)|refine bG (λ_=> ?_) (λ_=> ?_)|(exfalso;omega)
 ·exact ax (λ_=>ω) λ_=>aq (G.mono hl hI)
theorem aaj(N:Nat)(hN:200000≤N){l:aY}{o:fV}{m:Nat}(hm:m≤50000)(h:L6 m l)(ho:G 0 nn o):Ok (λr=>L6 m r.1∧aF r.2.2.1) (cA N l o):=by
 have hl:=h.1
 have fin: ∀(s:aY) (q:Int) (t:bf),L6 m s→aF q→Ok (λr=>L6 m r.1∧aF r.2.2.1) (cA.j22 N s q t):=λs q t hs hq=>by
  have Oa:=hs.1
  unfold cA.j22 cA.adG
  refine bs (len:=s.length) (F:=λn i u=>cA.Nm N n s q t u i) (λi u=>L6 i u) G.nil ω (λn i u hi hI hr=> ?_) (λn u hI=> ?_)
  all_goals unfold cA.Nm cA.PU
  ·have hu:=hI.1
   have hx:G 0 nn (s.getD (i:Int).toNat eF):=G.at hs _
   rw[aw (x:=(i:Int)+1) ω ω,af i]
   have h1:=hr u (G.mono ω hI)
   have h2:=hr _ (G.cat hI (G.one hx (aH 1)))
   repeat' first|exact h1|exact h2|refine aD (by rw[aK];omega) ?_|refine aB ⟨ω,ω⟩ ?_|refine ax (λ_=> ?_) (λ_=> ?_)|(exfalso;omega)
  ·exact ax (λ_=>ω) λ_=>aq ⟨G.mono Oa hI,hq⟩
 have eo:Ok (λr:aY×bf×Int×Int=>L6 m r.1∧aF r.2.2.1) (some ([],[],(0:Int),(1:Int))):=aq ⟨G.nil,bV⟩
 unfold cA cA.b
 refine bH (iU N ω hN) (bF (λ_=>eo) λ_=>bH (BJ N o) (bF (λ_=>eo) λ_=>aD (by rw[cj];omega) (ag (adF N hN hm h _ _) λw hw=> ?_)))
 have hwl:=hw.1
 rw[cM]
 refine bs (len:=w.length) (F:=λn i (s:aY×Int×bf)=>cA.l7 N n o s.1 s.2.1 s.2.2 w i) (s:=(_,(_,_))) (λi s=>L6 m s.1∧aF s.2.1∧s.2.2.length≤i) ⟨h,ho.2.2.2.2.1,bz _⟩ ω (λn i s hi hI hr=> ?_) (λn s hI=> ?_)
 all_goals unfold cA.l7 cA.oP
 ·obtain⟨hs,hq,ht⟩:=hI
  have f1:=fin s.1 s.2.1 s.2.2 hs hq
  have ali: ∀(v:Int) (t:iu),Ok (λr=>L6 m r.1∧aF r.2.2.1) (cA.Dg N (cA.l7 N n) o s.1 s.2.1 s.2.2 w (i:Int) v t):=λv t=>by
   unfold cA.Dg cA.wZ
   refine aD (by rw[aK];omega) (bs (len:=s.1.length) (F:=λn' j u=>cA.I5 N (cA.l7 N n) n' o u (W .i64 (s.2.1-v)) (s.2.2++[t]) w (i:Int) v j) (λ_ u=>u.length=s.1.length∧L6 m u) ⟨rfl,hs⟩ (by have:=hs.1;omega) (λn' j u hj hJ eQ=> ?_) (λn' u hJ=> ?_))
   all_goals unfold cA.I5 cA.Fa
   ·have Oa:=hs.1
    have I6:=hJ.1
    rw[aw (x:=(j:Int)+1) ω ω,af j]
    exact ax (λ_=>aB ⟨ω,ω⟩ (aB ⟨ω,ω⟩ (ok_eq (λ_=>aB ⟨ω,ω⟩ (aB ⟨ω,ω⟩ (eQ _ ⟨by rw[bN];exact I6,G.set hJ.2 (G6q (G.at hJ.2 _) (gB _)) _⟩))) λ_=>eQ u hJ))) λ_=>ω
   ·have I6:=hJ.1
    rw[aw (x:=(i:Int)+1) ω ω,af i]
    exact ax (λ_=>ω) λ_=>hr (_,(_,_)) ⟨hJ.2,gB _,by dsimp only;rw[List.length_append,List.length_singleton];omega⟩
  have Fb:Ok (λr=>L6 m r.1∧aF r.2.2.1) (cA.JJ N (cA.l7 N n) o s.1 s.2.1 s.2.2 w (i:Int)):=by
   unfold cA.JJ cA.Dh
   rw[aw (x:=(i:Int)+1) ω ω,af i]
   dsimp only
   have h1:=hr s ⟨hs,hq,ω⟩
   repeat' first|exact h1|exact ali _ _|refine aB ⟨ω,ω⟩ ?_|refine ok_eq (λ_=> ?_) (λ_=> ?_)
  repeat' first|exact f1|exact Fb|refine aB ⟨ω,ω⟩ ?_|refine ax (λ_=> ?_) (λ_=> ?_)|refine ok_eq (λ_=> ?_) (λ_=> ?_)|(exfalso;omega)
 ·exact ax (λ_=>ω) λ_=>fin _ _ _ hI.1 hI.2.1
theorem aak(N:Nat)(hN:5000000≤N){c:ae}{b:an}{o:fV}{m:Nat}(h2:200≤m)(hm:m≤40000)(hc:G m aA c)(hb:G m aJ b)(ho:G 0 nn o):Ok (λr=>G (m+1) aJ r.1) (jT N c b o):=by
 have Cs:=hb.2.2.2.2.2.1.1
 have eo: ∀(t:bf) (e:Int),Ok (λr:an×bf×Int×Int=>G (m+1) aJ r.1) (some ((cf,(cS,(bn,(bn,(dd,(dm,())))))),(t,((0:Int),e)))):=λt e=>aq (G.zero (m+1) aJ)
 have Fb: ∀(r:aY) (t:bf) (q:Int),L6 m r→aF q→Ok (λr=>G (m+1) aJ r.1) (jT.JJ N c b o (cf,(cS,(bn,(bn,(dd,(dm,())))))) r t q):=λr t q hr hq=>by
  have JX:=hr.1
  unfold jT.JJ jT.Dh
  have hx:G 0 nn (o.1,(o.2.1,(o.2.2.1,(o.2.2.2.1,(q,o.2.2.2.2.2))))):=G6q ho hq
  exact ag (C2 N hN c h2 ω hb) λz hz=>bG (λ_=>eo _ _) λ_=>by
   have zC:G (m+1) aJ z.1:=G.mono ω hz
   exact ax (λ_=>aD (by rw[aK];omega) (aq ⟨zC.1,zC.2.1,zC.2.2.1,zC.2.2.2.1,zC.2.2.2.2.1,G.cat hr (G.one hx (aH 1)),trivial⟩)) λ_=>aq ⟨zC.1,zC.2.1,zC.2.2.1,zC.2.2.2.1,zC.2.2.2.2.1,G.mono ω hr,trivial⟩
 have hj7:Ok (λr=>G (m+1) aJ r.1) (jT.j7 N c b o (cf,(cS,(bn,(bn,(dd,(dm,()))))))):=by
  unfold jT.j7 jT.XV
  exact ag (aaj N ω ω hb.2.2.2.2.2.1 ho) λz hz=>ax (λ_=>ok_eq (λ_=>eo _ _) λ_=>Fb _ _ _ hz.1 hz.2) λ_=>Fb _ _ _ hz.1 hz.2
 unfold jT jT.b
 refine ag (Ca N hN h2 hm hc hb (G.mono (bz m) ho)) λe _=>bG (λ_=>eo _ _) λ_=>ax (λh0=> ?_) λ_=>hj7
 dsimp only
 exact aB (by rw[aw ω ω];omega) (eN (λ_=>eo _ _) λ_=>hj7)
theorem alj(N:Nat)(a:Int):Ok (λ_=>True) (Ml N a):=by
 unfold Ml
 exact ok_eq (λ_=>fH) λ_=>fH
theorem kP.one{k n:Int}{x:aM}{m:Nat}(h:Bg m x)(hm:m≤8):kP 1 [(k,(n,(x,())))]:=⟨aH 1,λy hy=>by rw[cr.1 hy];exact Bg.mono h hm⟩
theorem aal(N:Nat)(hN:4000000≤N){l:au}{m:Nat}(hm:m≤50000)(h:L3 m l)(i a b:Int):Ok (λr=>kP m r.1) (kf N l i a b):=by
 have hl:=h.1
 unfold kf kf.b
 have p64: ∀p:Int,decide (1≤p∧p≤1000000000000)=true→aF p:=λp h=>by have:=bt h;unfold aF;omega
 refine bH (lR N ω ω) (bF (λ_=>aq kP.nil) λ_=>bH (jx N _) (bF (λ_=>aq kP.nil) λha=>bH (jx N _) (bF (λ_=>aq kP.nil) λhb=>ag (bD N hN (p64 _ hb)) λx hx=>ag (bD N hN (p64 _ ha)) λy hy=>ag (y9 N hN ω hx hy) λz hz=>bs (len:=l.length) (F:=λn j s=>kf.l6 N n l i s z j) (λj s=>kP j s) kP.nil ω (λn j s hj hI hr=> ?_) (λn s hI=> ?_))))
 all_goals unfold kf.l6 kf.uU
 ·have hs:=hI.1
  rw[aw (x:=(j:Int)+1) ω ω,af j]
  have h1:=hr s (kP.mono hI ω)
  exact ax (λ_=>aB ⟨ω,ω⟩ (bG (λ_=>h1) λ_=>ag (FN N hz) λ_ _=>ok_eq (λ_=>h1) λ_=>aB ⟨ω,ω⟩ (ag (alj N _) λ_ _=>aB ⟨ω,ω⟩ (ag (bD N hN (G.at h _).2.2.1) λv hv=>ag (mM N hN ω ω hv hz) λu hu=>aD (by rw[aK];omega) (hr _ (kP.app hI (kP.one hu ω))))))) λ_=>ω
 ·exact ax (λ_=>ω) λ_=>aq (kP.mono hI ω)
theorem yd(N:Nat)(hN:5000000≤N)(c:ae){b:an}{m:Nat}(h2:200≤m)(hm:m≤50000)(hb:G m aJ b)(i:Int){p:Int}(hp:aF p):Ok (λr=>G m aJ r.1∧kP m r.2.1) (PV N c b i p):=by
 have eo: ∀e:Int,Ok (λr:an×bP×Int=>G m aJ r.1∧kP m r.2.1) (some ((cf,(cS,(bn,(bn,(dd,(dm,())))))),([],e))):=λe=>aq ⟨G.jD,kP.nil⟩
 have Bl:=hb.2.2.2.2.1.1
 unfold PV
 refine bH (ej N hN hm hb) (bF (λ_=>eo _) λhB=>bH (jx N _) (bF (λ_=>eo _) λ_=>ax (λ_=>eo _) λh0=>eN (λ_=>eo _) λh1=> ?_))
 obtain⟨Bo,_⟩:=dY hB
 dsimp only
 rw[cM]
 exact aB ⟨h0,by rw[Bo];exact h1⟩ (ag (aal N ω hm hb.2.2.2.1 _ _ _) λf hf=>ag (ua N ω h2 hm hb G.nil (kP.mono hf hm)) λr hr=>bG (λ_=>eo _) λ_=>aD (by rw[cj];omega) (aB ⟨h0,by rw[Bo];exact h1⟩ (aq ⟨⟨hr.1,hr.2.1,hr.2.2.1,hr.2.2.2.1,G.set hb.2.2.2.2.1 hp _,hr.2.2.2.2.2⟩,hf⟩)))
abbrev L2(m:Nat)(l:aE):Prop:=G m (.slice kM) l
theorem G2{m:Nat}{a b:Int}(ha:aF a)(hb:aF b):G m kM (a,(b,())):=⟨ha,hb,trivial⟩
theorem Di(N:Nat)(hN:200000≤N){l:aE}(hl:l.length≤100000):Ok (λ_=>True) (rq N l):=by
 unfold rq rq.b
 refine mZ (len:=l.length) (F:=λn i=>rq.l2 N n l i) ω (λn i hi hr=> ?_) (λn=> ?_)
 all_goals unfold rq.l2 rq.fG
 ·rw[aw (x:=(i:Int)+1) ω ω,af i]
  dsimp only
  repeat' first|exact hr|exact fH|refine aB ⟨ω,ω⟩ ?_|refine aB (by rw[aw (x:=(i:Int)-1) ω ω];omega) ?_|refine ax (λ_=> ?_) (λ_=> ?_)|refine eN (λ_=> ?_) (λ_=> ?_)|refine ok_eq (λ_=> ?_) (λ_=> ?_)|(exfalso;omega)
 ·exact ax (λ_=>ω) λ_=>fH
theorem PW(N:Nat)(hN:4000000≤N){g:aE}{p:bP}{m:Nat}(h2:200≤m)(hm:m≤50000)(h:L2 m g)(hp:kP m p):Ok (λr=>L2 m r.1) (fp N g p):=by
 have hl:=h.1
 have Bl:=hp.1
 unfold fp fp.b
 refine ag (Di N ω ω) λ_ _=>bF (λ_=>aq G.nil) λ_=>jh (len:=25) (F:=λn i s=>fp.l5 N n g p s i) (λi s=>L2 i s) (λn i s hi hI hr=> ?_) (λn s hI=> ?_) 25 N 1 [] ω ω ω G.nil
 all_goals unfold fp.l5 fp.eA
 ·have hs:=hI.1
  refine eN (λ_=> ?_) λ_=>ω
  refine bs (len:=g.length) (F:=λn' j t=>fp.l9 N (fp.l5 N n) n' g p s (i:Int) t j) (λ_ t=>Bg 2 t) (Mz ω) ω (λn' j t hj ht eQ=> ?_) (λn' t ht=> ?_)
  all_goals unfold fp.l9 fp.vN
  ·rw[aw (x:=(j:Int)+1) ω ω,af j]
   exact ax (λ_=>aB ⟨ω,ω⟩ (ok_eq (λ_=>aB ⟨ω,ω⟩ (ag (bD N hN (G.at h _).2.1) λr hr=>eQ r hr)) λ_=>eQ t ht)) λ_=>ω
  ·refine ax (λ_=>ω) λ_=> ?_
   refine bs (len:=p.length) (F:=λKU j t=>fp.KI N (fp.l5 N n) KU g p s (i:Int) t j) (λj t=>Bg (8+j) t) (Bg.mono ht ω) ω (λKU j t hj ht eQ=> ?_) (λKU t ht=> ?_)
   all_goals unfold fp.KI fp.HM
   ·rw[aw (x:=(j:Int)+1) ω ω,af j]
    have h1:=eQ t (Bg.mono ht ω)
    exact ax (λ_=>aB ⟨ω,ω⟩ (ok_eq (λ_=>aB ⟨ω,ω⟩ (ok_eq (λ_=>aB ⟨ω,ω⟩ (ag (lU N hN ω ht (Bg.mono (hp.at _) ω)) λr hr=>eQ r (Bg.mono hr ω))) λ_=>h1)) λ_=>h1)) λ_=>ω
   ·rw[aw (x:=(i:Int)+1) ω ω,af i]
    exact ax (λ_=>ω) λ_=>ag (yp N ht) λv hv=>bF (λ_=>aq G.nil) λ_=>bG (λ_=>aD (by rw[aK];omega) (hr _ (G.cat hI (G.one (m:=1) (G2 (jC ω ω) hv) (aH 1))))) λ_=>hr s (G.mono ω hI)
 ·exact eN (λ_=>ω) λ_=>aq (G.mono ω hI)
theorem ub(N:Nat)(hN:4000000≤N)(a b c d:Int){x:aM}(h:Bg 8 x):Ok (λr=>kP 2 r) (Dj N a b c d x):=by
 unfold Dj
 exact ag (rK N hN ω h) λy hy=>aq ⟨aH 2,λz hz=>by
  rcases a8.1 hz with rfl|hz
  ·exact hy
  ·rw[cr.1 hz];exact h⟩
theorem PX(N:Nat)(hN:5000000≤N){c:ae}{b:an}{m:Nat}(h2:200≤m)(hm:m≤40000)(hc:G m aA c)(hb:G m aJ b)(a:Int){q:Int}(hq:aF q):Ok (λr=>G m aJ r.1) (W4 N c b a q):=by
 unfold W4
 exact bH (ej N hN ω hb) (bF (λ_=>aq G.jD) λ_=>ax (λ_=>aq G.jD) λ_=>ag (zb N ω ω hb.2.1 _) λ_ _=>bF (λ_=>aq G.jD) λ_=>ag (pt N ω ω hb.1 _) λ_ _=>bG (λ_=>aq G.jD) λ_=>ag (np N ω ω hb.2.2.1 _ _) λg hg=>ag (bD N ω hg) λx hx=>ag (bD N ω hq) λy hy=>ag (y9 N ω ω hx hy) λz hz=>ag (H6 N ω h2 hm hc hb (bz _) _) λw hw=>ag (qH N ω ω ω hz hw) λ_ _=>ax (λ_=>aq G.jD) λ_=>ag (bD N ω hq) λy hy=>ag (ub N ω _ _ _ _ (Bg.mono hy ω)) λp hp=>ag (ua N ω h2 ω hb G.nil (kP.mono hp ω)) λr hr=>aq hr)
theorem Te(N:Nat)(hN:1000≤N){c:ae}(hc:G 5 aA c):Ok (λr=>G 5 aJ r.1) (ja N c):=by
 have hl:=hc.1.1
 unfold ja ja.b
 have hj: ∀b:an,G 5 aJ b→Ok (λr=>G 5 aJ r.1) (ja.j6 N c (cf,(cS,(bn,(bn,(dd,(dm,())))))) b []):=λb hb=>by
  unfold ja.j6 ja.ON
  obtain⟨b1,b2,b3,b4,b5,b6⟩:=b
  refine bs (len:=c.1.length) (F:=λn i (z:an×List Int)=>ja.l7 N n c (cf,(cS,(bn,(bn,(dd,(dm,())))))) z.1 z.2 i) (s:=((b1,(b2,(b3,(b4,(b5,b6))))),_)) (λi z=>G 5 aJ z.1∧G i (.slice (.int .i64)) z.2) ⟨hb,G.nil⟩ ω (λn i z hi hI hr=> ?_) (λn z hI=> ?_)
  all_goals unfold ja.l7 ja.oP
  ·have hz:=hI.2.1
   rw[aw (x:=(i:Int)+1) ω ω,af i]
   have hx:G 0 (.int .i64) (c.1.getD (i:Int).toNat bb).2.1:=(G.at hc.1 _).2.1
   exact ax (λ_=>aB ⟨ω,ω⟩ (aD (by rw[aK];omega) (hr (_,_) ⟨⟨hI.1.1,hI.1.2.1,hI.1.2.2.1,hI.1.2.2.2.1,G.nil,hI.1.2.2.2.2.2⟩,G.cat hI.2 (G.one hx (aH 1))⟩))) λ_=>ω
  ·exact ax (λ_=>ω) λ_=>aq ⟨hI.1.1,hI.1.2.1,hI.1.2.2.1,hI.1.2.2.2.1,G.mono hl hI.2,hI.1.2.2.2.2.2⟩
 have zV:L3 5 [((1:Int),((0:Int),(W .i64 (0-c.2.1),()))),((3:Int),((0:Int),(c.2.1,())))]:=G.two (G3 (show aF 1 from bw) bV (gB _)) (G3 (show aF 3 from bw) bV hc.2.1) δ
 exact bH (oe N ω c) (bF (λ_=>aq G.jD) λ_=>bG (λ_=>hj _ ⟨G.nil,G.nil,zV,G.nil,G.nil,G.nil,trivial⟩) λ_=>hj _ G.jD)
theorem Dl(N:Nat)(hN:4000000≤N){c:ae}{l:aE}{m:Nat}(hm:m≤50000)(hc:G m aA c)(hl:L2 m l)(f:Bool):Ok (λr=>Bg 60000 r.1) (qK N c l f):=by
 have h1:=hl.1
 unfold qK qK.b
 refine bH (BR N ω c ω) (bF (λ_=>aq (Mz ω)) λhk=>bs (len:=l.length) (F:=λn i t=>qK.l5 N n l f c (false,(([]:List Int),())) t i) (λi t=>Bg (8+i) t) (Mz ω) ω (λn i t hi ht hr=> ?_) (λn t ht=> ?_))
 all_goals unfold qK.l5 qK.eA
 ·rw[aw (x:=(i:Int)+1) ω ω,af i,aI]
  unfold pe at hk
  have hp:=bt (c5.1 hk).1 i hi
  unfold oq qF at hp
  have in1: ∀{x y:Option (aM×Int)},Ok (λr=>Bg 60000 r.1) x→Ok (λr=>Bg 60000 r.1) (cond (bc (l.getD i da).1 c.1.length) x y):=λh=>aB ⟨hp.1,hp.2.1⟩ h
  have hw: ∀q:Int,aF q→Ok (λr=>Bg 60000 r.1) ((lh N (l.getD i da).2.1).bind λr3=>(Zb N r3).bind λr4=>(lh N q).bind λr5=>(kO N r4 r5).bind λr6=>(BE N t r6).bind λr7=>qK.l5 N n l f c (false,(([]:List Int),())) r7 ((i+1:Nat):Int)):=λq hq=>
   ag (bD N hN (G.at hl i).2.1) λx hx=>ag (B9 N hN ω hx) λx hx=>ag (bD N hN hq) λy hy=>ag (mM N hN ω ω hx hy) λz hz=>ag (lU N hN ω ht (Bg.mono hz ω)) λu hu=>hr u (Bg.mono hu ω)
  exact ax (λ_=>aB ⟨ω,ω⟩ (in1 (nL (λ_=>aB ⟨ω,ω⟩ (in1 (aB ⟨ω,ω⟩ (hw _ (G.at hc.1 _).2.2.2.1)))) λ_=>aB ⟨ω,ω⟩ (hw _ (G.at hc.1 _).2.2.1)))) λ_=>ω
 ·exact ax (λ_=>ω) λ_=>aq (Bg.mono ht ω)
theorem rL(N:Nat)(hN:200000≤N){b:an}{m:Nat}(hm:m≤50000)(hb:G m aJ b)(id:Int):Ok (λ_=>True) (MF N b id):=by
 unfold MF
 exact ag (pt N hN hm hb.1 _) λ_ _=>fH
theorem vd(N:Nat)(hN:200000≤N){b:an}{m:Nat}(hm:m≤50000)(hb:G m aJ b)(id:Int):Ok aF (Tf N b id):=by
 unfold Tf
 exact ag (np N hN hm hb.2.2.1 _ _) λr hr=>aq hr
theorem aam(N:Nat)(hN:5000000≤N){c:ae}{b:an}{m:Nat}(hm:m≤40000)(hc:G m aA c)(hb:G m aJ b)(f to a:Int):Ok (λ_=>True) (adH N c b f to a):=by
 unfold adH alk
 have mb:=λid=>rL N ω ω hb id
 exact bH (ej N hN ω hb) (bF (λ_=>fH) λ_=>ag (zb N ω ω hb.2.1 _) λ_ _=>bF (λ_=>fH) λ_=>ag (mb _) λ_ _=>ok_eq (λ_=>fH) λ_=>ag (mb _) λ_ _=>ok_eq (λ_=>fH) λ_=>bG (λ_=>fH) λ_=>bG (λ_=>fH) λ_=>ag (mb _) λ_ _=>bG (λ_=>fH) λ_=>ag (PM N ω ω hb.2.2.2.1 _) λl hl=>ag (Q:=λr=>Bg 60000 r.1) (ag (Dl N ω ω hc hl _) λr hr=>aq hr) λu hu=>ag (vd N ω ω hb _) λg hg=>ag (bD N ω hg) λx hx=>ag (qH N ω ω ω hx hu) λ_ _=>ax (λ_=>fH) λ_=>fH)
theorem adI(N:Nat)(hN:5000000≤N){c:ae}{b:an}{m:Nat}(hm:m≤40000)(hc:G m aA c)(hb:G m aJ b)(f:Int){to:Int}(hto:aF to)(a:Int):Ok (λr=>G m aJ r.1) (W5 N c b f to a):=by
 unfold W5
 exact ag (aam N hN hm hc hb _ _ _) λ_ _=>bG (λ_=>aq G.jD) λ_=>ag (Td N ω ω hb.1 hb.2.1 hto) λr hr=>bG (λ_=>aq G.jD) λ_=>aq ⟨hb.1,hr,hb.2.2⟩
theorem W6(N:Nat)(hN:4000000≤N){x:aM}{q:Int}(hx:Bg 60000 x)(hq:aF q):Ok (λr=>0≤r∧r≤3) (sQ N x q):=by
 unfold sQ sQ.b
 refine ag (FN N hx) λ_ _=>eN (λ_=>aq δ) λ_=>ax (λ_=>aq δ) λ_=>jh (len:=3) (F:=λn i (_:Unit)=>sQ.l4 N n q x i) (λ_ _=>True) (λn i _ hi _ hr=> ?_) (λn _ _=> ?_) 3 N 1 () ω ω ω trivial
 all_goals unfold sQ.l4 sQ.dU
 ·rw[aw (x:=(i:Int)+1) ω ω,af i]
  exact ax (λ_=>ag (bD N hN (jC ω ω)) λa ha=>ag (bD N hN hq) λb hb=>ag (mM N hN ω ω ha hb) λy hy=>ag (qH N hN ω ω hy hx) λ_ _=>ax (λ_=>hr () trivial) λ_=>aq ω) λ_=>ω
 ·exact ax (λ_=>ω) λ_=>aq ω
theorem UZ(N:Nat)(hN:5000000≤N)(c:ae){b:an}{m:Nat}(hm:m≤50000)(hb:G m aJ b):Ok (λr=>G m (.slice (.int .i64)) r.1) (sR N c b):=by
 have hl:=hb.1.1
 unfold sR sR.b
 refine bH (ej N hN hm hb) (bF (λ_=>aq G.nil) λ_=>bs (len:=b.1.length) (F:=λn i s=>sR.l5 N n b s i) (λi s=>G i (.slice (.int .i64)) s) G.nil ω (λn i s hi hI hr=> ?_) (λn s hI=> ?_))
 all_goals unfold sR.l5 sR.eA
 ·have hs:=hI.1
  rw[aw (x:=(i:Int)+1) ω ω,af i]
  have h1:=hr s (G.mono ω hI)
  have hx:G 0 (.int .i64) (b.1.getD (i:Int).toNat da).1:=(G.at hb.1 _).1
  exact ax (λ_=>aB ⟨ω,ω⟩ (ok_eq (λ_=>aB ⟨ω,ω⟩ (ag (np N ω hm hb.2.2.1 _ _) λ_ _=>ax (λ_=>aB ⟨ω,ω⟩ (aD (by rw[aK];omega) (hr _ (G.cat hI (G.one hx (aH 1)))))) λ_=>h1)) λ_=>h1)) λ_=>ω
 ·exact ax (λ_=>ω) λ_=>aq (G.mono hl hI)
abbrev LL(m:Nat)(l:bJ):Prop:=G m (.slice jU) l
theorem Ia(N:Nat)(hN:200000≤N){l:bJ}{m:Nat}(hm:m≤50000)(h:LL m l)(id:Int):Ok (λr=>G m jU r.1) (rr N l id):=by
 have hl:=h.1
 unfold rr rr.b
 refine mZ (len:=l.length) (F:=λn i=>rr.l2 N n l id ((0:Int),(cf,bb)) i) ω (λn i hi hr=> ?_) (λn=> ?_)
 all_goals unfold rr.l2 rr.fG
 ·rw[aw (x:=(i:Int)+1) ω ω,af i]
  exact ax (λ_=>aB ⟨ω,ω⟩ (ok_eq (λ_=>aB ⟨ω,ω⟩ (aq (G.at h _))) λ_=>hr)) λ_=>ω
 ·exact ax (λ_=>ω) λ_=>aq (G.zero m jU)
theorem W7(N:Nat)(hN:4000000≤N){a b:aE}{m:Nat}(h6:6≤m)(hm:m≤40000)(ha:L2 m a)(hb:L2 m b):Ok (λr=>L2 m r.1) (fu N a b):=by
 have hal:=ha.1
 have xC:=hb.1
 unfold fu fu.b
 refine bs (len:=6) (F:=λn i s=>fu.l3 N n a b s i) (λi s=>L2 i s) G.nil ω (λn i s hi hI hr=> ?_) (λn s hI=> ?_)
 all_goals unfold fu.l3 fu.nw
 ·have hs:=hI.1
  refine ax (λ_=> ?_) λ_=>ω
  refine bs (len:=a.length) (F:=λn' j t=>fu.l7 N (fu.l3 N n) n' a b s (i:Int) t j) (λj t=>Bg (3+j) t) (Mz ω) ω (λn' j t hj ht eQ=> ?_) (λn' t ht=> ?_)
  all_goals unfold fu.l7 fu.oP
  ·rw[aw (x:=(j:Int)+1) ω ω,af j]
   exact ax (λ_=>aB ⟨ω,ω⟩ (ok_eq (λ_=>aB ⟨ω,ω⟩ (ag (bD N hN (G.at ha _).2.1) λr hr=>ag (lU N hN ω ht (Bg.mono hr ω)) λu hu=>eQ u (Bg.mono hu ω))) λ_=>eQ t (Bg.mono ht ω))) λ_=>ω
  ·refine ax (λ_=>ω) λ_=> ?_
   refine bs (len:=b.length) (F:=λKU j t=>fu.oM N (fu.l3 N n) KU a b s (i:Int) t j) (λj t=>Bg (3+a.length+j) t) ht ω (λKU j t hj ht eQ=> ?_) (λKU t ht=> ?_)
   all_goals unfold fu.oM fu.nK
   ·rw[aw (x:=(j:Int)+1) ω ω,af j]
    exact ax (λ_=>aB ⟨ω,ω⟩ (ok_eq (λ_=>aB ⟨ω,ω⟩ (ag (bD N hN (G.at hb _).2.1) λr hr=>ag (lU N hN ω ht (Bg.mono hr ω)) λu hu=>eQ u (Bg.mono hu ω))) λ_=>eQ t (Bg.mono ht ω))) λ_=>ω
   ·rw[aw (x:=(i:Int)+1) ω ω,af i]
    exact ax (λ_=>ω) λ_=>ag (Ez N ht) λv hv=>bF (λ_=>aq G.nil) λ_=>bG (λ_=>aD (by rw[aK];omega) (hr _ (G.cat hI (G.one (m:=1) (G2 (jC ω ω) hv) (aH 1))))) λ_=>hr s (G.mono ω hI)
 ·exact ax (λ_=>ω) λ_=>aq (G.mono h6 hI)
theorem PY(N:Nat)(hN:5000000≤N){c:ae}{b:an}{Tg:bJ}{l:aO}{x:cG}{m:Nat}(h6:6≤m)(hm:m≤40000)(hc:G m aA c)(hb:G m aJ b)(hL:LL m Tg)(hl:G m (.slice e7) l)(hx:G 0 e7 x):Ok (λ_=>True) (lV N c b Tg l x):=by
 have I3:=hl.1
 have hLl:=hL.1
 have hal:=hb.2.1.1
 have Cs:=hb.2.2.2.2.2.1.1
 have hw:Ky Tg:=λy hy=>cv (hL.2 y hy).2.1.1 ω
 unfold lV lV.b
 have hj:Ok (λ_=>True) (lV.j3 N Tg l c b x):=by
  unfold lV.j3 lV.j3b
  refine ag (rL N ω ω hb _) λ_ _=>ok_eq (λ_=>fH) λ_=>bG (λ_=>fH) λ_=>ag (Ia N ω ω hL _) λz hz=>bH (rJ N ω ω _) (bF (λ_=>fH) λ_=>bG (λ_=>fH) λ_=>ok_eq (λ_=>fH) λ_=>mZ (len:=l.length) (F:=λn i=>lV.mq N n l c b x z.1 (oi b.2.1 x.2.2.1) i) ω (λn i hi hr=> ?_) (λn=> ?_))
  all_goals unfold lV.mq lV.lq
  ·rw[aw (x:=(i:Int)+1) ω ω,af i]
   exact ax (λ_=>aB ⟨ω,ω⟩ (ok_eq (λ_=>aB ⟨ω,ω⟩ (ok_eq (λ_=>fH) λ_=>hr)) λ_=>hr)) λ_=>ω
  ·refine ax (λ_=>ω) λ_=>ok_eq (λ_=>fH) λ_=>ag (bD N ω hx.2.2.2.1) λp hp=>ag (bD N ω (show aF 4 from bw)) λq hq=>ag (bD N ω hz.2.2.1) λr hr=>ag (mM N ω ω ω hq hr) λu hu=>ag (qH N ω ω ω hp hu) λ_ _=>ax (λ_=>fH) λ_=>ag (PM N ω ω hb.2.2.2.1 _) λa ha=>ag (W7 N ω h6 ω ha hz.2.1) λj hj=>bF (λ_=>fH) λ_=> ?_
   unfold alm
   exact ag (Q:=λr=>L3 6 r) (bH (iU N ω ω) (bF (λ_=>aq G.nil) λ_=>ag (H5 N ω ω _) λr hr=>aq hr)) λo ho=>ag (PL N ω ω hc hj (G.mono h6 ho)) λw hw=>ag (vd N ω ω hb _) λg hg=>ag (bD N ω hg) λv hv=>ag (bD N ω hx.2.2.2.1) λp hp=>ag (y9 N ω ω hv hp) λd hd=>ag (qH N ω ω ω hd hw) λ_ _=>ax (λ_=>fH) λ_=>fH
 refine bH (ej N hN ω hb) (bF (λ_=>fH) λ_=>bH (BZ N ω c ω hw) (bF (λ_=>fH) λ_=>bH (u6 N ω ω) (bF (λ_=>fH) λ_=>bH (Uy N _) (bF (λ_=>fH) λ_=>ax (λ_=> ?_) λ_=>hj))))
 dsimp only
 exact aB (by rw[aw ω ω];omega) (eN (λ_=>fH) λ_=>hj)
theorem K0(N:Nat)(hN:5000000≤N){c:ae}{b:an}{Tg:bJ}{l:aO}{x:cG}{m:Nat}(h6:6≤m)(hm:m≤40000)(hc:G m aA c)(hb:G m aJ b)(hL:LL m Tg)(hl:G m (.slice e7) l)(hx:G 0 e7 x):Ok (λr=>G (m+1) (.slice e7) r.1) (adJ N c b Tg l x):=by
 have I3:=hl.1
 unfold adJ
 refine ag (PY N hN h6 hm hc hb hL hl hx) λ_ _=>bG (λ_=>aq G.nil) λ_=>aD (by rw[cj];omega) ?_
 dsimp only
 rw[cM]
 exact aD (by rw[aK];omega) (aq (G.cat hl (G.one hx (aH 1))))
theorem ajc{l:List Int}(h:Pos l)(hs:l.sum<9223372036854775808):KE l:=λx hx=>by
 have h3:=h x hx
 obtain⟨i,hi,rfl⟩:=rO.1 hx
 have h4:=An h i
 rw[aV,bo hi]at h4
 simp only[nR]at h4
 omega
theorem aan(k:Nat):(List.replicate k (1:Int)).sum=k:=by
 induction k with
 |zero=>rfl
 |succ k ih=>rw[AI,cE,ih];omega
theorem aao(k:Nat):Pos (List.replicate k 1):=λx hx=>by rw[AD hx];omega
theorem aap{t:Int}{k:Nat}(h0:0≤t)(h1:t<9223372036854775808)(hk:1≤k)(T7:k≤3):(KJ t k).1.length=k∧KE (KJ t k).1:=by
 have hS:0<(List.replicate k (1:Int)).sum:=by rw[aan];omega
 have ee:KJ t k=(cm t (List.replicate k 1),0):=by
  unfold KJ
  rw[ah ω,aI]
  unfold sI
  have hm:may (List.replicate k 1)=true:=pJ.2 ⟨by rw[c4];omega,aao k⟩
  rw[ah (by rw[hm];simp;omega),aan,ah ω,ah ω]
 rw[ee]
 exact⟨by dsimp only;rw[pk,List.length_replicate],ajc (wh h0 hS (aao k)) (by rw[wg h0 hS];omega)⟩
def LQ(y:BK):Prop:=aF y.1∧aF y.2.1∧q7 y.2.1
theorem ajd{l:aE}(h: ∀y∈l,LQ y)(i:Nat):LQ (l.getD i da):=by
 by_cases hk:i<l.length
 ·rw[aV,bo hk];exact h _ (dO hk)
 ·rw[aV,ig ω];exact⟨bV,bV,by unfold q7;decide⟩
theorem W8{c:ae}{b:an}{m:Nat}(hb:G m aJ b)(hB:df c b=true)(a:Int): ∀y∈posOf b.2.2.2.1 a,LQ y∧(0≤(y.1:Int)∧(y.1:Int)<(c.1.length:Int)):=λy hy=>by
 have hk:c6 b.2.2.2.1=true:=by
  by_cases h:c6 b.2.2.2.1=true
  ·exact h
  ·unfold posOf at hy;rw[ah h]at hy;nomatch hy
 unfold posOf at hy
 rw[aj hk]at hy
 obtain⟨x,hx,_,e⟩:=nk hy
 have hg:=hb.2.2.2.1.2 x hx
 have hq:=((dM hk).2 x hx).2
 have hp:=Mt hB x hx
 rw[e]
 exact⟨⟨hg.2.1,hg.2.2.1,hq⟩,hp⟩
theorem U0(N:Nat)(hN:5000000≤N){c:ae}{b:an}{m:Nat}(h2:200≤m)(hm:m≤40000)(hc:G m aA c)(hb:G m aJ b){next:Int}(hn:aF next):Ok (λr=>LL m r.1∧r.1.length≤12) (cq N c b next):=by
 unfold cq cq.b
 refine bH (ej N hN ω hb) (bF (λ_=>aq ⟨G.nil,bz _⟩) λhB=>ax (λ_=>aq ⟨G.nil,bz _⟩) λ_=>ax (λ_=>aq ⟨G.nil,bz _⟩) λ_=>bH (ZJ N (G.wf ω hb).w.s ω 0) (ok_eq (λ_=>aq ⟨G.nil,bz _⟩) λ_=> ?_))
 have iQ:=W8 hb hB 0
 have hal:=(aqA hb.2.2.2.1 0).1
 generalize posOf b.2.2.2.1 0=all at*
 refine bs (len:=4) (F:=λn k (s:Int×bJ)=>cq.l8 N n s.1 c all s.2 k) (s:=(_,_)) (λk s=>aF s.1∧s.2.length≤3*k∧ ∀x∈s.2,G m jU x) ⟨hn,bz _,λx hx=>nomatch hx⟩ ω (λn k s hk hI hr=> ?_) (λn s hI=> ?_)
 all_goals unfold cq.l8 cq.Ec
 ·refine ax (λ_=> ?_) λ_=>ω
  refine bs (len:=all.length) (F:=λn' i (z:aE×aM)=>cq.mq N (cq.l8 N n) n' s.1 c all s.2 (k:Int) z.1 z.2 i) (s:=(_,_)) (λi z=>z.1.length≤i∧(∀y∈z.1,LQ y)∧Bg (8+i) z.2) ⟨bz _,(λy hy=>nomatch hy),Mz ω⟩ ω (λn' i z hi hz eQ=> ?_) (λn' z hz=> ?_)
  all_goals unfold cq.mq cq.lq
  ·obtain⟨zC,FA,hz3⟩:=hz
   have hx:all.getD i da∈all:=by rw[aV,bo hi];exact dO hi
   have hy:=iQ _ hx
   rw[aw (x:=(i:Int)+1) ω ω,af i,aI]
   exact ax (λ_=>aB ⟨ω,ω⟩ (aB hy.2 (ok_eq (λ_=>aB ⟨ω,ω⟩ (aD (by rw[List.length_singleton];omega) (aB ⟨ω,ω⟩ (ag (bD N ω hy.1.2.1) λu hu=>ag (B9 N ω ω hu) λu hu=>ag (lU N ω ω hz3 (Bg.mono hu ω)) λv hv=>eQ (_,_) ⟨by dsimp only;rw[List.length_append,List.length_singleton];omega,λy h=>(List.mem_append.1 h).elim (FA y) (λh=>by rw[List.mem_singleton.1 h];exact hy.1),Bg.mono hv ω⟩)))) λ_=>eQ z ⟨ω,FA,Bg.mono hz3 ω⟩))) λ_=>ω
  ·obtain⟨zC,FA,hz3⟩:=hz
   refine ax (λ_=>ω) λ_=>ag (W6 N ω (Bg.mono hz3 ω) hc.2.2.2.2.2.1) λw hw=> ?_
   obtain⟨p,hp⟩: ∃p:Nat,w=(p:Int):=⟨w.toNat,ω⟩
   subst hp
   refine bs (len:=p) (F:=λKU j (t:Int×bJ)=>cq.JK N (cq.l8 N n) KU t.1 c all t.2 (k:Int) z.1 (p:Int) j) (s:=s) (λj t=>aF t.1∧t.2.length≤3*k+j∧ ∀x∈t.2,G m jU x) hI ω (λKU j t hj ht Z6=> ?_) (λKU t ht=> ?_)
   all_goals unfold cq.JK cq.PZ
   ·obtain⟨w5,XN,ht3⟩:=ht
    refine ax (λ_=> ?_) λ_=>ω
    refine bs (len:=z.1.length) (F:=λn3 i u=>cq.Nm N (cq.l8 N n) (cq.JK N (cq.l8 N n) KU) n3 t.1 c all t.2 (k:Int) z.1 (p:Int) (j:Int) (t.1,(cf,((0:Int),((1:Int),da)))) u i) (λi u=>L2 i u) G.nil ω (λn3 i u hi hu U1=> ?_) (λn3 u hu=> ?_)
    all_goals unfold cq.Nm cq.PU
    ·have I6:=hu.1
     have hq:=ajd FA i
     have oL:=hq
     unfold LQ aF q7 at oL
     have aqC: ∀q:Int,0≤q→q<9223372036854775808→Ok (λr=>LL m r.1∧r.1.length≤12) (cq.W9 N (cq.l8 N n) (cq.JK N (cq.l8 N n) KU) (cq.Nm N (cq.l8 N n) (cq.JK N (cq.l8 N n) KU) n3) t.1 c all t.2 (k:Int) z.1 (p:Int) (j:Int) (t.1,(cf,((0:Int),((1:Int),da)))) u (i:Int) q):=λq h0 h1=>by
      unfold cq.W9 cq.P0
      obtain⟨e1,e2⟩:=aap (k:=p) h0 h1 ω ω
      have aqD: ∀v:List Int,v.length=p→KE v→Ok (λr=>LL m r.1∧r.1.length≤12) (cq.j32 N (cq.l8 N n) (cq.JK N (cq.l8 N n) KU) (cq.Nm N (cq.l8 N n) (cq.JK N (cq.l8 N n) KU) n3) t.1 c all t.2 (k:Int) z.1 (p:Int) (j:Int) (t.1,(cf,((0:Int),((1:Int),da)))) u (i:Int) v):=λv Sb hv2=>by
       unfold cq.j32 cq.aln
       rw[aw (x:=(i:Int)+1) ω ω,af i]
       have hx:G 0 kM ((z.1.getD (i:Int).toNat da).1,(v.getD (j:Int).toNat 0,())):=G2 (ajd FA _).1 (uV hv2 _)
       exact aB ⟨ω,ω⟩ (bG (λ_=>aB ⟨ω,ω⟩ (aB ⟨ω,ω⟩ (aD (by rw[aK];omega) (U1 _ (G.cat hu (G.one hx (aH 1))))))) λ_=>U1 u (G.mono ω hu))
      refine bH (ZR N hN h1) (aB ⟨ω,ω⟩ (ax (λ_=>aB ⟨ω,ω⟩ (aB ⟨ω,ω⟩ (aqD _ (by rw[bN];exact e1) λy hy=> ?_))) λ_=>aqD _ e1 e2))
      rcases ux hy with hy|rfl
      ·exact e2 y hy
      ·exact gB _
     rw[aI]
     refine ax (λ_=>aB ⟨ω,ω⟩ (ax (λeU=> ?_) λRX=> ?_)) λ_=>ω
     ·have g: ∀x:Int,-9223372036854775808≤x∧x≠ -9223372036854775808→x<0→0≤W .i64 (0-x)∧W .i64 (0-x)<9223372036854775808:=λx h1 h2=>by rw[aw ω ω];omega
      have gx:=g _ ⟨oL.2.1.1,oL.2.2⟩ eU
      exact aqC _ gx.1 gx.2
     ·exact aqC _ RX oL.2.1.2
    ·have I6:=hu.1
     rw[aw (x:=(j:Int)+1) ω ω,af j]
     have hum:L2 m u:=G.mono ω hu
     refine ax (λ_=>ω) λ_=>ok_eq (λ_=>Z6 t ⟨w5,ω,ht3⟩) λ_=> ?_
     unfold aaq
     refine ag (Q:=λr=>Bg 60000 r.1) (ag (Dl N ω ω hc hum _) λr hr=>aq hr) λa ha=>ag (rK N ω ω ha) λd hd=>ag (yp N hd) λv hv=>bF (λ_=>aq ⟨G.nil,Nat.zero_le _⟩) λ_=>aD (by rw[List.length_singleton];omega) (Z6 (_,_) ⟨gB _,by dsimp only;rw[List.length_append,List.length_singleton];omega,λx hx=> ?_⟩)
     rcases bl.1 hx with hx|hx
     ·exact ht3 x hx
     ·rw[cr.1 hx];exact⟨w5,hum,hv,(show aF 1 from bw),bV,bV,trivial⟩
   ·rw[aw (x:=(k:Int)+1) ω ω,af k]
    exact ax (λ_=>ω) λ_=>hr t ⟨ht.1,by have:=ht.2.1;omega,ht.2.2⟩
 ·exact ax (λ_=>ω) λ_=>aq ⟨⟨by have:=hI.2.1;dsimp only;omega,hI.2.2⟩,by have:=hI.2.1;dsimp only;omega⟩
theorem adK(N:Nat)(hN:5000000≤N){c:ae}{b:an}{m:Nat}(h2:200≤m)(hm:m≤40000)(hc:G m aA c)(hb:G m aJ b){next:Int}(hn:aF next):Ok (λr=>LL m r.1) (cq N c b next):=My (U0 N hN h2 hm hc hb hn) λ_ h=>h.1
theorem ve(N:Nat)(hN:200000≤N){l:aE}(hl:l.length≤100000):Ok (λ_=>True) (qn N l):=by
 unfold qn qn.b
 refine mZ (len:=l.length) (F:=λn i=>qn.l2 N n l i) ω (λn i hi hr=> ?_) (λn=> ?_)
 all_goals unfold qn.l2 qn.fG
 ·rw[aw (x:=(i:Int)+1) ω ω,af i]
  dsimp only
  repeat' first|exact hr|exact fH|refine aB ⟨ω,ω⟩ ?_|refine aB (by rw[aw (x:=(i:Int)-1) ω ω];omega) ?_|refine ax (λ_=> ?_) (λ_=> ?_)|refine eN (λ_=> ?_) (λ_=> ?_)|refine ok_eq (λ_=> ?_) (λ_=> ?_)|(exfalso;omega)
 ·exact ax (λ_=>ω) λ_=>fH
theorem Xa(N:Nat)(hN:200000≤N){l:List Int}(hl:l.length≤100000):Ok (λ_=>True) (sS N l):=by
 unfold sS sS.b
 refine mZ (len:=l.length) (F:=λn i=>sS.l2 N n l i) ω (λn i hi hr=> ?_) (λn=> ?_)
 all_goals unfold sS.l2 sS.fG
 ·rw[aw (x:=(i:Int)+1) ω ω,af i]
  dsimp only
  repeat' first|exact hr|exact fH|refine aB ⟨ω,ω⟩ ?_|refine aB (by rw[aw (x:=(i:Int)-1) ω ω];omega) ?_|refine ax (λ_=> ?_) (λ_=> ?_)|refine eN (λ_=> ?_) (λ_=> ?_)|refine ok_eq (λ_=> ?_) (λ_=> ?_)|(exfalso;omega)
 ·exact ax (λ_=>ω) λ_=>fH
theorem aar(N:Nat)(hN:200000≤N)(a:Int){L:bJ}{l:aO}{m:Nat}(hm:m≤50000)(hL:LL m L)(hl:G m (.slice e7) l):Ok aF (kg N a L l):=by
 have h1:=hL.1
 have h2:=hl.1
 have i3:aF 3:=bw
 have i2:aF 2:=bw
 unfold kg kg.b
 refine bs (len:=l.length) (F:=λn i v=>kg.l3 N n a L l v i) (λ_ v=>aF v) (show aF 1 from bw) ω (λn i v hi hv hr=> ?_) (λn v hv=> ?_)
 all_goals unfold kg.l3 kg.nw
 ·rw[aw (x:=(i:Int)+1) ω ω,af i]
  exact ax (λ_=>aB ⟨ω,ω⟩ (bG (λ_=>hr v hv) λ_=>aB ⟨ω,ω⟩ (ag (Ia N hN hm hL _) λ_ _=>nL (λ_=>aB ⟨ω,ω⟩ (eN (λ_=>hr _ (Cb hv i3)) λ_=>hr _ (Cb hv i2))) λ_=>hr _ (Cb hv i2)))) λ_=>ω
 ·refine ax (λ_=>ω) λ_=>bs (len:=L.length) (F:=λn i v=>kg.oM N n a L v i) (λ_ v=>aF v) hv ω (λn i v hi hv hr=> ?_) (λn v hv=> ?_)
  all_goals unfold kg.oM kg.nK
  ·rw[aw (x:=(i:Int)+1) ω ω,af i]
   exact ax (λ_=>aB ⟨ω,ω⟩ (ok_eq (λ_=>aB ⟨ω,ω⟩ (ok_eq (λ_=>hr 4 bw) λ_=>hr v hv)) λ_=>hr v hv)) λ_=>ω
  ·exact ax (λ_=>ω) λ_=>aq hv
theorem P1(N:Nat)(hN:200000≤N)(c:ae){d:aE}{u:List Int}{L:bJ}{l:aO}{m:Nat}(h2:200≤m)(hm:m≤50000)(hd:L2 m d)(hu:u.length≤m)(hL:LL m L)(hl:G m (.slice e7) l):Ok (λr=>L2 m r.1) (dT N c d u L l):=by
 have h3:=hd.1
 have h4:=hL.1
 have h5:=hl.1
 have hw:Ky L:=λy hy=>cv (hL.2 y hy).2.1.1 ω
 unfold dT dT.b
 refine ag (ve N hN ω) λ_ _=>bF (λ_=>aq G.nil) λ_=>ag (Xa N hN ω) λ_ _=>bF (λ_=>aq G.nil) λ_=>bH (BZ N hN c ω hw) (bF (λ_=>aq G.nil) λ_=>bH (u6 N ω hN) (bF (λ_=>aq G.nil) λ_=>jh (len:=13) (F:=λn i s=>dT.l5 N n d u L l s i) (λi s=>L2 i s) (λn i s hi hI hr=> ?_) (λn s hI=> ?_) 13 N 1 [] ω ω ω G.nil))
 all_goals unfold dT.l5 dT.eA
 ·have hs:=hI.1
  refine eN (λ_=> ?_) λ_=>ω
  refine bs (len:=d.length) (F:=λn' j (z:Int×Bool)=>dT.l9 N (dT.l5 N n) n' d u L l s (i:Int) z.1 z.2 j) (s:=(_,_)) (λ_ z=>aF z.1) bV ω (λn' j z hj hz eQ=> ?_) (λn' z hz=> ?_)
  all_goals unfold dT.l9 dT.vN
  ·rw[aw (x:=(j:Int)+1) ω ω,af j]
   exact ax (λ_=>aB ⟨ω,ω⟩ (ok_eq (λ_=>aB ⟨ω,ω⟩ (eQ (_,_) (G.at hd _).2.1)) λ_=>eQ z hz)) λ_=>ω
  ·refine ax (λ_=>ω) λ_=>bs (len:=u.length) (F:=λn' j f=>dT.KI N (dT.l5 N n) n' d u L l s (i:Int) z.1 f j) (λ_ _=>True) trivial ω (λn' j f hj _ eQ=> ?_) (λn' f _=> ?_)
   all_goals unfold dT.KI dT.HM
   ·rw[aw (x:=(j:Int)+1) ω ω,af j]
    exact ax (λ_=>nL (λ_=>eQ _ trivial) λ_=>aB ⟨ω,ω⟩ (eQ _ trivial)) λ_=>ω
   ·refine ax (λ_=>ω) λ_=>bs (len:=l.length) (F:=λn' j f=>dT.I5 N (dT.l5 N n) n' d u L l s (i:Int) z.1 f j) (λ_ _=>True) trivial ω (λn' j f hj _ eQ=> ?_) (λn' f _=> ?_)
    all_goals unfold dT.I5 dT.Fa
    ·rw[aw (x:=(j:Int)+1) ω ω,af j]
     exact ax (λ_=>nL (λ_=>eQ _ trivial) λ_=>aB ⟨ω,ω⟩ (eQ _ trivial)) λ_=>ω
    ·rw[aw (x:=(i:Int)+1) ω ω,af i]
     dsimp only
     exact ax (λ_=>ω) λ_=>nL (λ_=>ag (aar N hN _ hm hL hl) λv hv=>aD (by rw[aK];omega) (hr _ (G.cat hI (G.one (m:=1) (G2 (jC ω ω) (Cb hz hv)) (aH 1))))) λ_=>hr s (G.mono ω hI)
 ·exact eN (λ_=>ω) λ_=>aq (G.mono ω hI)
theorem aas(N:Nat)(hN:200000≤N){l:aE}(hl:l.length≤100000)(a:Int):Ok (λ_=>True) (sT N l a):=by
 unfold sT sT.b
 refine ag (ve N hN hl) λ_ _=>bF (λ_=>fH) λ_=>mZ (len:=l.length) (F:=λn i=>sT.l4 N n l a i) ω (λn i hi hr=> ?_) (λn=> ?_)
 all_goals unfold sT.l4 sT.dU
 ·rw[aw (x:=(i:Int)+1) ω ω,af i]
  exact ax (λ_=>aB ⟨ω,ω⟩ (ok_eq (λ_=>aB ⟨ω,ω⟩ fH) λ_=>hr)) λ_=>ω
 ·exact ax (λ_=>ω) λ_=>fH
theorem MG(N:Nat)(a:Int):Ok (λ_=>True) (aat N a):=by
 unfold aat
 exact ok_eq (λ_=>fH) λ_=>fH
theorem Ib(N:Nat)(hN:5000000≤N)(c:ae){b:an}{d:aE}{m:Nat}(hm:m≤50000)(hb:G m aJ b)(hd:L2 m d)(a k:Int):Ok (λr=>G m (.slice (.int .i64)) r.1) (sU N c b d a k):=by
 have hl:=hb.1.1
 have h2:=hd.1
 unfold sU sU.b
 refine bH (ej N hN hm hb) (bF (λ_=>aq G.nil) λ_=>ag (ve N ω ω) λ_ _=>bF (λ_=>aq G.nil) λ_=>bs (len:=b.1.length) (F:=λn i s=>sU.l5 N n d a k b s i) (λi s=>G i (.slice (.int .i64)) s) G.nil ω (λn i s hi hI hr=> ?_) (λn s hI=> ?_))
 all_goals unfold sU.l5 sU.eA
 ·have hs:=hI.1
  rw[aw (x:=(i:Int)+1) ω ω,af i]
  have h1:=hr s (G.mono ω hI)
  have hx:G 0 (.int .i64) (b.1.getD (i:Int).toNat da).1:=(G.at hb.1 _).1
  exact ax (λ_=>aB ⟨ω,ω⟩ (ag (MG N _) λ_ _=>nL (λ_=>bG (λ_=>ag (np N ω hm hb.2.2.1 _ _) λ_ _=>ax (λ_=>ag (aas N ω ω _) λ_ _=>ok_eq (λ_=>aD (by rw[aK];omega) (hr _ (G.cat hI (G.one hx (aH 1))))) λ_=>h1) λ_=>h1) λ_=>h1) λ_=>h1)) λ_=>ω
 ·exact ax (λ_=>ω) λ_=>aq (G.mono hl hI)
theorem Cc(N:Nat)(hN:200000≤N){a:aO}{m:Nat}(hm:m≤50000)(h:G m (.slice e7) a)(id:Int):Ok aF (nc N a id):=by
 refine oB (rJ N (cv h.1 ω) hN id) ?_
 unfold oi
 split
 ·have: ∀l:aO,(∀x∈l,G m e7 x)→aF (oh id l):=by
   intro l
   induction l with
   |nil=>intro _;exact bV
   |cons x t ih=>
    intro hx
    have hi:=ih λy hy=>hx y (aZ _ hy)
    rw[tP]
    split
    ·split
     ·exact(hx x (bq ..)).1
     ·exact hi
    ·exact hi
  exact this a h.2
 ·exact bV
abbrev L5(m:Nat)(l:bf):Prop:=G m (.slice qo) l
theorem G5{m:Nat}{a b c d e:Int}(ha:aF a)(hb:aF b)(hc:aF c)(hd:aF d)(he:aF e):G m qo (a,(b,(c,(d,(e,()))))):=⟨ha,hb,hc,hd,he,trivial⟩
theorem MH(N:Nat)(hN:200000≤N){l:bf}{b:an}{m k:Nat}(hm:m≤50000)(hb:G m aJ b)(hk:k≤1000000)(hl:L5 k l){a d n:Int}(ha:aF a)(hd:aF d)(hn:aF n):Ok (λr=>L5 (k+1) r) (MI N l b a d n):=by
 have h1:=hl.1
 unfold MI
 exact ag (np N hN hm hb.2.2.1 _ _) λx hx=>ax (λ_=>aD (by rw[aK];omega) (aq (G.cat hl (G.one (m:=1) (G5 ha hd hn hx bV) (aH 1))))) λ_=>aq (G.mono ω hl)
theorem P2(N:Nat)(hN:5000000≤N){c:ae}{b:an}{d g:aE}{a:Int}{m:Nat}(hm:m≤50000)(hc:G m aA c)(hb:G m aJ b)(hd:L2 m d)(hg:L2 m g)(ha:aF a):Ok (λr=>L5 1000000 r.1) (c3 N c b a d g):=by
 have h1:=hb.1.1
 have h2:=hd.1
 have h3:=hg.1
 have h4:=hb.2.1.1
 have hj: ∀l:bf,L5 1 l→Ok (λr=>L5 1000000 r.1) (c3.j9 N a d g c b l):=λl hl=>by
  unfold c3.j9 c3.Js
  refine ag (MH N ω hm hb ω hl bw bw ha) λl hl=>ag (MH N ω hm hb ω hl bw bw bV) λl hl=>jh (len:=5) (F:=λn k s=>c3.oM N n a d g c b s k) (λk s=>L5 (3+m*k) s) (λn k s hk hs hr=> ?_) (λn s hs=> ?_) 5 N 1 l ω ω ω (G.mono ω hl)
  all_goals unfold c3.oM c3.nK
  ·have hmk:m*k≤m*4:=mR m ω
   refine eN (λ_=>ag (Ib N hN c hm hb hd _ _) λt ht=> ?_) λ_=>ω
   have htl:=ht.1
   refine bs (len:=t.1.length) (F:=λn' j u=>c3.yb N (c3.oM N n) n' a d g c b u (k:Int) t.1 j) (λj u=>L5 (3+m*k+j) u) hs ω (λn' j u hj hu eQ=> ?_) (λn' u hu=> ?_)
   all_goals unfold c3.yb c3.wV
   ·rw[aw (x:=(j:Int)+1) ω ω,af j]
    exact ax (λ_=>aB ⟨ω,ω⟩ (ag (MH N ω hm hb ω hu (gB _) bw (G.at ht _)) λv hv=>eQ v hv)) λ_=>ω
   ·rw[aw (x:=(k:Int)+1) ω ω,af k]
    exact ax (λ_=>ω) λ_=>hr u (G.mono (by rw[rY];omega) hu)
  ·refine eN (λ_=>ω) λ_=>bs (len:=b.1.length) (F:=λn j u=>c3.JK N n a g c b u j) (λj u=>L5 (3+m*5+j) u) hs ω (λn j u hj hu hr=> ?_) (λn u hu=> ?_)
   all_goals unfold c3.JK c3.PZ
   ·have I6:=hu.1
    have hx:aF (b.1.getD (j:Int).toNat da).1:=(G.at hb.1 _).1
    rw[aw (x:=(j:Int)+1) ω ω,af j]
    have h0:=hr u (G.mono ω hu)
    exact ax (λ_=>aB ⟨ω,ω⟩ (ag (MG N _) λ_ _=>bF (λ_=>h0) λ_=>ok_eq (λ_=>h0) λ_=>ag (bD N ω hc.2.2.1) λp hp=>ag (np N ω hm hb.2.2.1 _ _) λq hq=>ag (bD N ω hq) λq hq=>ag (mM N ω ω ω hp hq) λy hy=>ag (yp N hy) λv hv=>bF (λ_=>aq G.nil) λ_=>ax (λ_=>aD (by rw[aK];omega) (hr _ (G.mono ω (G.cat hu (G.one (m:=1) (G5 (show aF 8 from bw) (show aF 7 from bw) hx hv bV) (aH 1)))))) λ_=>h0)) λ_=>ω
   ·refine ax (λ_=>ω) λ_=>bs (len:=g.length) (F:=λn j u=>c3.O8 N n a g b u j) (λj u=>L5 (3+m*5+m+j) u) (G.mono ω hu) ω (λn j u hj hu hr=> ?_) (λn u hu=> ?_)
    all_goals unfold c3.O8 c3.Mi
    ·have I6:=hu.1
     rw[aw (x:=(j:Int)+1) ω ω,af j]
     have h0:=hr u (G.mono ω hu)
     dsimp only
     exact ax (λ_=>aB ⟨ω,ω⟩ (ag (zb N ω hm hb.2.1 _) λx hx=>aB ⟨ω,ω⟩ (aB ⟨ω,ω⟩ (ag (np N ω hm hb.2.2.1 _ _) λq hq=>nL (λ_=>bG (λ_=>ax (λ_=>aD (by rw[aK];omega) (hr _ (G.mono ω (G.cat hu (G.one (m:=1) (G5 (show aF 9 from bw) (show aF 5 from bw) hx.1 (aab (G.at hg _).2.1 hq) bV) (aH 1)))))) λ_=>h0) λ_=>h0) λ_=>h0)))) λ_=>ω
    ·exact ax (λ_=>ω) λ_=>aq (G.mono ω hu)
 unfold c3 c3.b
 exact bH (ej N hN hm hb) (bF (λ_=>aq G.nil) λ_=>ag (ve N ω ω) λ_ _=>bF (λ_=>aq G.nil) λ_=>ag (Di N ω ω) λ_ _=>bF (λ_=>aq G.nil) λ_=>ag (pt N ω hm hb.1 _) λ_ _=>ok_eq (λ_=>aq G.nil) λ_=>ag (Cc N ω hm hb.2.1 _) λh hh=>bG (λ_=>ag (MH N ω hm hb ω (G.nil (m:=0)) bw bw hh) λl hl=>hj l hl) λ_=>hj [] G.nil)
theorem K1(N:Nat)(hN:5000000≤N)(c:ae){b:an}{m:Nat}(hm:m≤50000)(hb:G m aJ b):Ok (λr=>aF r.1) (adL N c b):=by
 unfold adL
 exact bH (ej N hN hm hb) (bF (λ_=>aq bV) λ_=>ag (np N ω hm hb.2.2.1 _ _) λx hx=>ok_eq (λ_=>aq bV) λ_=>aq (Cb (gB _) bV))
theorem Ic(N:Nat)(hN:5000000≤N)(c:ae){b:an}{m:Nat}(hm:m≤50000)(hb:G m aJ b):Ok (λr=>aF r.1) (adM N c b):=by
 unfold adM
 exact bH (ej N hN hm hb) (bF (λ_=>aq bV) λ_=>ag (np N ω hm hb.2.2.1 _ _) λx hx=>aq (Cb hx bV))
theorem alo(N:Nat)(a b:Int):Ok (λ_=>True) (Sx N a b):=by
 unfold Sx
 repeat' first|exact fH|refine ok_eq (λ_=> ?_) (λ_=> ?_)|refine eN (λ_=> ?_) (λ_=> ?_)
theorem Xb(N:Nat)(hN:200000≤N)(l:bf):Ok (λr=>r=true→l.length≤64) (sV N l):=by
 have hf:Ok (λr=>r=true→l.length≤64) (some false):=aq λh=>nomatch h
 unfold sV sV.b
 refine ax (λ_=>hf) λhl=>mZ (len:=l.length) (F:=λn i=>sV.l4 N n l i) ω (λn i hi hr=> ?_) (λn=> ?_)
 all_goals unfold sV.l4 sV.dU
 ·rw[aw (x:=(i:Int)+1) ω ω,af i]
  dsimp only
  repeat' first|exact hr|exact hf|refine aB ⟨ω,ω⟩ ?_|refine aB (by rw[aw (x:=(i:Int)-1) ω ω];omega) ?_|refine ax (λ_=> ?_) (λ_=> ?_)|refine eN (λ_=> ?_) (λ_=> ?_)|refine ok_eq (λ_=> ?_) (λ_=> ?_)|(exfalso;omega)|refine ag (alo N _ _) λ_ _=> ?_|refine bF (λ_=> ?_) (λ_=> ?_)
 ·exact ax (λ_=>ω) λ_=>aq λ_=>ω
theorem U2{σ β:Type}{P:β→Prop}{F:Nat→Int→σ→Option β}{len:Nat}(I:σ→Prop)
  (hs: ∀n i s,i<len→I s→(∀j s',i<j→j≤len→I s'→Ok P (F n (j:Int) s'))→Ok P (F (n+1) (i:Int) s)) (he: ∀n s,I s→Ok P (F (n+1) (len:Int) s)):
  ∀m n i s,len-i≤m→m<n→i≤len→I s→Ok P (F n (i:Int) s)
 |m,0,i,s,_,hn,_,_=>ω
 |m,n+1,i,s,hm,hn,hi,hI=>by
  by_cases h:i<len
  ·exact hs n i s h hI λj s' hj XS zD=>U2 I hs he (m-1) n j s' ω ω XS zD
  ·have:i=len:=ω
   subst this
   exact he n s hI
theorem G5q{m:Nat}{x:iu}{q:Int}(h:G m qo x)(hq:aF q):G m qo (x.1,(x.2.1,(x.2.2.1,(x.2.2.2.1,(q,x.2.2.2.2.2))))):=⟨h.1,h.2.1,h.2.2.1,h.2.2.2.1,hq,trivial⟩
theorem aqE: ∀{w:List Int},Pos w→0≤w.sum
 |[],_=>fR _
 |x::t,h=>by
  rw[cE]
  have:=h x (bq ..)
  have:=aqE (w:=t) λy hy=>h y (aZ _ hy)
  omega
theorem Xc{t:Int}{w:List Int}(h1:t<9223372036854775808)(h:(sI t w).2=0):(sI t w).1.length=w.length∧KE (sI t w).1:=by
 unfold sI at h ⊢
 split at h
 ·exact absurd h δ
 ·split at h
  ·exact absurd h δ
  ·rename_i h2 h3
   split at h
   ·split at h
    ·rename_i h4 h5
     rw[ah h2,ah h3,aj h4,aj h5]
     exact⟨c4 ..,λx hx=>by rw[AD hx];decide⟩
    ·exact absurd h δ
   ·rename_i h4
    rw[ah h2,ah h3,ah h4]
    have hm:may w=true:=by
     by_cases hm:may w=true
     ·exact hm
     ·exact absurd (Or.inr (xg.2 hm)) h2
    have hp:=(pJ.1 hm).2
    have h0:0≤t:=ω
    have hS:0<w.sum:=by have:=aqE hp;omega
    exact⟨pk t w,ajc (wh h0 hS hp) (by rw[wg h0 hS];exact h1)⟩
theorem adN{α:Type}{Q:α→Prop}{l:List α}{x:α}{k:Nat}(h: ∀y∈l,Q y)(hx:Q x): ∀y∈l.set k x,Q y:=λy hy=>by
 rcases ux hy with hy|rfl
 ·exact h y hy
 ·exact hx
theorem U3{α:Type}{Q:α→Prop}{l:List α}{d:α}{k:Nat}(h: ∀y∈l,Q y)(hk:k<l.length):Q (l.getD k d):=by
 rw[aV,bo hk];exact h _ (dO hk)
theorem K2(N:Nat)(hN:5000000≤N){l:bf}{q:Int}{Q:iu→Prop}(hQ: ∀x,Q x→aF x.2.2.2.1)(hU: ∀(x:iu) (v:Int),Q x→aF v→Q (x.1,(x.2.1,(x.2.2.1,(x.2.2.2.1,(v,x.2.2.2.2.2))))))(hl: ∀x∈l,Q x)(hq:aF q):Ok (λr=>(r.1.length≤64∧ ∀x∈r.1,Q x)∧aF r.2.1) (ed N l q):=by
 have eo: ∀e:Int,Ok (λr:bf×Int×Int=>(r.1.length≤64∧ ∀x∈r.1,Q x)∧aF r.2.1) (some ([],((0:Int),e))):=λe=>aq ⟨⟨bz _,λx hx=>nomatch hx⟩,bV⟩
 unfold ed ed.b
 refine ag (Xb N ω l) λz hz=>bF (λ_=>eo _) λht=>ax (λ_=>eo _) λ_=> ?_
 have nh:=hz ht
 rw[cM]
 refine aD (by rw[cj];omega) (U2 (len:=l.length) (F:=λn i (s:bf×Int)=>ed.l5 N n s.1 s.2 i) (λs=>s.1.length=l.length∧(∀x∈s.1,Q x)∧aF s.2) (λn i s hi hI hr=> ?_) (λn s hI=> ?_) l.length N 0 (l,q) ω ω ω ⟨rfl,hl,hq⟩)
 all_goals unfold ed.l5 ed.eA
 ·obtain⟨Ni,Wb,hs3⟩:=hI
  refine ax (λ_=> ?_) λ_=>ω
  have fin: ∀(k:Nat) (w:List Int),i<k→k≤l.length→w.length=k-i→KE w→Ok (λr=>(r.1.length≤64∧ ∀x∈r.1,Q x)∧aF r.2.1) (ed.E9 N (ed.l5 N n) s.1 s.2 (i:Int) (k:Int) w):=λk w hk Bi hw HN=>by
   unfold ed.E9 ed.yr
   have CA:aF (mn (CO w.sum).1 s.2):=aab (Z5 _) hs3
   refine bH (Ae N ω HN ω) (bH (uq N _) (bF (λ_=>eo _) λ_=>bH (Dc N hN CA.2 HN ω) (bG (λ_=>eo _) λh0=> ?_)))
   obtain⟨e1,e2⟩:=Xc CA.2 h0
   generalize (sI (mn (CO w.sum).1 s.2) w).1=v at*
   refine jh (len:=k) (F:=λn' j (z:bf×Int)=>ed.I5 N (ed.l5 N n) n' z.1 z.2 (i:Int) (k:Int) v j) (λj z=>i≤j∧z.1.length=l.length∧(∀x∈z.1,Q x)∧aF z.2) (λn' j z hj hz eQ=> ?_) (λn' z hz=> ?_) k N i s ω ω ω ⟨aH i,Ni,Wb,hs3⟩
   all_goals unfold ed.I5 ed.Fa
   ·obtain⟨qy,zC,FA,hz3⟩:=hz
    dsimp only
    rw[aw (x:=(j:Int)+1) ω ω,af j,aw (x:=(j:Int)-i) ω ω]
    exact ax (λ_=>aB ⟨ω,ω⟩ (aB ⟨ω,ω⟩ (aB ⟨ω,ω⟩ (eQ (_,_) ⟨ω,by dsimp only;rw[List.length_set];exact zC,adN FA (hU _ _ (U3 FA ω) (uV e2 _)),gB _⟩)))) λ_=>ω
   ·exact ax (λ_=>ω) λ_=>hr k z hk Bi hz.2
  refine jh (len:=l.length) (F:=λn' k w=>ed.l8 N (ed.l5 N n) n' s.1 s.2 (i:Int) k w) (λk w=>i≤k∧w.length=k-i∧KE w) (λn' k w hk hw eQ=> ?_) (λn' w hw=> ?_) l.length N i [] ω ω ω ⟨aH i,by rw[cj];omega,λx hx=>nomatch hx⟩
  all_goals unfold ed.l8 ed.Ec
  ·obtain⟨hik,hwl,HN⟩:=hw
   rw[aw (x:=(k:Int)+1) ω ω,af k]
   refine ax (λ_=>aB ⟨ω,ω⟩ (aB ⟨ω,ω⟩ (ok_eq (λ_=>aB ⟨ω,ω⟩ (aD (by rw[aK];omega) (eQ _ ⟨ω,by rw[aS,aK];omega,λx hx=> ?_⟩))) λkq=> ?_))) λ_=>ω
   ·rcases bl.1 hx with hx|hx
    ·exact HN x hx
    ·rw[cr.1 hx];exact hQ _ (U3 Wb ω)
   ·refine fin k w ?_ ω hwl HN
    by_cases e:k=i
    ·subst e;exact absurd rfl kq
    ·omega
  ·exact ax (λ_=>ω) λ_=>fin l.length w hi (aH _) hw.2.1 hw.2.2
 ·exact ax (λ_=>ω) λ_=>aq ⟨⟨by have:=hI.1;dsimp only;omega,hI.2.1⟩,hI.2.2⟩
theorem Th(N:Nat)(hN:5000000≤N){l:bf}{q:Int}{m:Nat}(hl:L5 m l)(hq:aF q):Ok (λr=>L5 64 r.1∧aF r.2.1) (ed N l q):=
 K2 N hN (Q:=G 64 qo) (λx hx=>hx.2.2.2.1) (λx v hx hv=>G5q hx hv) (λx hx=>G.mono (m:=0) (bz _) (hl.2 x hx)) hq
abbrev R0:eu:=((0:Int),((0:Int),(([]:bf),((0:Int),()))))
theorem K3(N:Nat)(hN:5000000≤N){c:ae}{b:an}{d g:aE}{a:Int}{m:Nat}(h2:200≤m)(hm:m≤40000)(hc:G m aA c)(hb:G m aJ b)(hd:L2 m d)(hg:L2 m g)(ha:aF a):Ok (λr=>G m aJ r.1∧G m im r.2.1) (jb N c b a d g):=by
 have eo: ∀e:Int,Ok (λr:an×eu×Int=>G m aJ r.1∧G m im r.2.1) (some ((cf,(cS,(bn,(bn,(dd,(dm,())))))),(R0,e))):=λe=>aq ⟨G.jD,G.zero m im⟩
 unfold jb jb.b
 refine ag (P2 N hN ω hc hb hd hg ha) λl hl=>ok_eq (λ_=>eo _) λ_=>ok_eq (λ_=>eo _) λ_=>ag (K1 N hN c ω hb) λq hq=>bG (λ_=>eo _) λ_=>bG (λ_=>eo _) λ_=>ag (Th N hN hl hq) λz ⟨zC,FA⟩=>bG (λ_=>eo _) λ_=> ?_
 have hzl:=zC.1
 have hj: ∀(p:bP) (r:eu) (t:bf) (x k n:Int),kP 1000 p→G m im r→L5 64 t→aF x→Ok (λr=>G m aJ r.1∧G m im r.2.1) (jb.j26 N b (cf,(cS,(bn,(bn,(dd,(dm,())))))) R0 p r t x k n):=λp r t x k n hp hr ht hx=>by
  have Bl:=hp.1
  unfold jb.j26 jb.adO
  exact ag (bD N ω hx) λv hv=>ag (ub N ω _ _ _ _ (Bg.mono hv ω)) λu hu=>aD (by have:=hu.1;omega) (ag (ua N ω h2 ω hb G.nil (kP.mono (kP.app hp hu) ω)) λw hw=>bG (λ_=>eo _) λ_=>aq ⟨hw,hr.1,hr.2.1,G.mono ω ht,hr.2.2.2⟩)
 refine bs (len:=z.1.length) (F:=λn i (s:bP×eu×bf)=>jb.Ks N n a c b (cf,(cS,(bn,(bn,(dd,(dm,())))))) R0 z.1 z.2.1 s.1 s.2.1 s.2.2 i) (s:=(_,(_,_))) (λi s=>kP (2*i) s.1∧G m im s.2.1∧L5 i s.2.2) ⟨kP.nil,⟨ha,hq,G.nil,FA,trivial⟩,G.nil⟩ ω (λn i s hi hI hr=> ?_) (λn s hI=> ?_)
 all_goals unfold jb.Ks jb.JC
 ·obtain⟨h4,h5,h6⟩:=hI
  have hp:=h4.1
  have ht:=h6.1
  have hx:G 0 qo (z.1.getD (i:Int).toNat gl):=G.at zC _
  rw[aw (x:=(i:Int)+1) ω ω,af i]
  exact ax (λ_=>aB ⟨ω,ω⟩ (ax (λ_=>aB ⟨ω,ω⟩ (aD (by rw[aK];omega) (aB ⟨ω,ω⟩ (aB ⟨ω,ω⟩ (aB ⟨ω,ω⟩ (ag (bD N ω hx.2.2.2.2.1) λv hv=>ag (ub N ω _ _ _ _ (Bg.mono hv ω)) λu hu=>aD (by have:=hu.1;omega) (hr (_,(_,_)) ⟨kP.mono (kP.app h4 hu) ω,⟨h5.1,h5.2.1,G.nil,h5.2.2.2⟩,G.cat h6 (G.one hx (aH 1))⟩))))))) λ_=>hr s ⟨kP.mono h4 ω,h5,G.mono ω h6⟩)) λ_=>ω
 ·obtain⟨h4,h5,h6⟩:=hI
  have hp:=h4.1
  dsimp only
  exact ax (λ_=>ω) λ_=>ag (bD N ω FA) λv hv=>ag (ub N ω _ _ _ _ (Bg.mono hv ω)) λu hu=>aD (by have:=hu.1;omega) (ag (Ic N hN c ω hb) λx hx=>ag (Cc N ω ω hb.2.1 _) λh hh=>bG (λ_=>hj _ _ _ _ _ _ (kP.mono (kP.app h4 hu) ω) h5 (G.mono ω h6) hx) λ_=>hj _ _ _ _ _ _ (kP.mono (kP.app h4 hu) ω) h5 (G.mono ω h6) hx)
theorem Xd(N:Nat)(hN:5000000≤N){t:Int}{w:List Int}(ht:t<9223372036854775808)(hw:KE w)(hl:w.length≤1000000):Ok (λr=>r.2.2=0→r.1.length=w.length∧KE r.1) (fg N t w w):=by
 refine oB (HT N hN ht hw hw hl) λh0=> ?_
 have f:=HU ht hw h0
 have c:=f.c
 have hl2:=c.l2
 refine⟨hl2,λx hx=> ?_⟩
 obtain⟨i,hi,e⟩:=gE hx
 have h1:=c.le i ω
 have h2:=(c.pc i).2
 have h3:=c.po i
 rw[aV (l:=(tZ t w w).1),bo hi,nR,e]at h1 h3
 exact⟨ω,ω⟩
theorem adP(N:Nat)(hN:5000000≤N)(c:ae){b:an}{m:Nat}(hm:m≤40000)(hb:G m aJ b){a:Int}(ha:aF a):Ok (λr=>L3 (m+1) r.1) (gh N c b a):=by
 have w:=(G.wf ω hb).w
 have hl:=hb.2.2.2.1.1
 unfold gh gh.b
 refine bH (ej N hN ω hb) (bF (λ_=>aq G.nil) λ_=>ax (λ_=>aq G.nil) λ_=>eN (λ_=>aq G.nil) λ_=>bH (FK N w.s ω 0 a) (ok_eq (λ_=>aq G.nil) λ_=> ?_))
 have hq:=ZL w.qs 0 a
 generalize gb b.2.2.2.1 0 a=q at*
 refine bs (len:=b.2.2.2.1.length) (F:=λn i (s:List Int×List Int)=>gh.Al N n a b q s.1 s.2 i) (s:=(_,_)) (λi s=>s.1.length≤i∧s.2.length=s.1.length∧KE s.1∧KE s.2) ⟨bz _,rfl,(λx hx=>nomatch hx),λx hx=>nomatch hx⟩ ω (λn i s hi hI hr=> ?_) (λn s hI=> ?_)
 all_goals unfold gh.Al gh.yf
 ·obtain⟨h1,h2,h3,h4⟩:=hI
  have hx:G 0 jZ (b.2.2.2.1.getD (i:Int).toNat ba):=G.at hb.2.2.2.1 _
  rw[aw (x:=(i:Int)+1) ω ω,af i]
  have h0:=hr s ⟨ω,h2,h3,h4⟩
  have sn: ∀{l:List Int} {x:Int},KE l→aF x→KE (l++[x]):=λhl hx y hy=>(bl.1 hy).elim (hl y) λhy=>by rw[cr.1 hy];exact hx
  dsimp only
  exact ax (λ_=>aB ⟨ω,ω⟩ (bG (λ_=>ok_eq (λ_=>nL (λ_=>aD (by rw[List.length_singleton];omega) (aD (by rw[List.length_singleton];omega) (hr (_,_) ⟨by dsimp only;rw[List.length_append,List.length_singleton];omega,by dsimp only;rw[List.length_append,List.length_append,List.length_singleton,List.length_singleton];omega,sn h3 hx.1,sn h4 (Cb hx.2.2.1 (gB _))⟩))) λ_=>h0) λ_=>h0) λ_=>h0)) λ_=>ω
 ·obtain⟨h1,h2,h3,h4⟩:=hI
  refine ax (λ_=>ω) λ_=>ag (Xd N hN (Cb hq (gB _)).2 h4 ω) λz hz=>bG (λ_=>aq G.nil) λh0=> ?_
  obtain⟨e1,e2⟩:=hz h0
  refine bs (len:=z.1.length) (F:=λn i u=>gh.Xe N n a q s.1 z.1 u i) (λi u=>L3 (1+i) u) (G.one (m:=1) (G3 bV ha (gB _)) (aH 1)) ω (λn i u hi hu hr=> ?_) (λn u hu=> ?_)
  all_goals unfold gh.Xe gh.aau
  ·have I6:=hu.1
   rw[aw (x:=(i:Int)+1) ω ω,af i]
   have h0:=hr u (G.mono ω hu)
   have put: ∀x:Int,aF x→Ok (λr=>L3 (m+1) r.1) (cond (small (u.length+[((s.1.getD (i:Int).toNat 0,(a,(x,()))):de)].length)) (gh.Xe N n a q s.1 z.1 (u++[(s.1.getD (i:Int).toNat 0,(a,(x,())))]) ((i+1:Nat):Int)) none):=λx hx=>aD (by rw[aK];omega) (hr _ (G.mono ω (G.cat hu (G.one (m:=1) (G3 (uV h3 _) ha hx) (aH 1)))))
   dsimp only
   exact ax (λ_=>aB ⟨ω,ω⟩ (ax (λ_=>bG (λ_=>aB ⟨ω,ω⟩ (put _ (gB _))) λ_=>h0) λ_=>bG (λ_=>aB ⟨ω,ω⟩ (put _ (uV e2 _))) λ_=>h0)) λ_=>ω
  ·exact ax (λ_=>ω) λ_=>aq (G.mono ω hu)
theorem U4(N:Nat)(hN:5000000≤N){c:ae}{b:an}{m:Nat}(h2:200≤m)(hm:m≤7000)(hc:G 5 aA c)(hb:G m aJ b):Ok (λr=>G m aJ r.1) (oH N c b):=by
 have Ft:=hc.1.1
 unfold oH oH.b
 refine bH (ej N hN ω hb) (bF (λ_=>aq G.jD) λ_=>bs (len:=c.1.length) (F:=λn i s=>oH.l5 N n c b (cf,(cS,(bn,(bn,(dd,(dm,())))))) s i) (λi s=>L3 ((m+1)*i) s) G.nil ω (λn i s hi hI hr=> ?_) (λn s hI=> ?_))
 all_goals unfold oH.l5 oH.eA
 ·have hs:=hI.1
  have hmi:(m+1)*i≤(m+1)*5:=mR _ ω
  rw[aw (x:=(i:Int)+1) ω ω,af i]
  exact ax (λ_=>ag (adP N hN c ω hb (jC ω ω)) λr hrr=>bG (λ_=>aq G.jD) λ_=>aD (by have:=hrr.1;omega) (hr _ (G.mono (by rw[rY];omega) (G.cat hI hrr)))) λ_=>ω
 ·have hmi:(m+1)*c.1.length≤(m+1)*5:=mR _ ω
  exact ax (λ_=>ω) λ_=>ag (ua N ω h2 ω hb (G.mono ω hI) kP.nil) λr hr=>aq hr
theorem U5(N:Nat)(hN:200000≤N){l:aO}{m:Nat}(hm:m≤50000)(h:G m (.slice e7) l)(a:Int):Ok (λr=>G 0 e7 r.1) (sW N l a):=by
 have hl:=h.1
 have hz:G 0 e7 bb:=G.zero 0 e7
 unfold sW sW.b
 refine bH (u6 N ω hN) (bF (λ_=>aq hz) λ_=>bs (len:=l.length) (F:=λn i (z:cG×Bool)=>sW.l6 N n l a bb z.1 z.2 i) (s:=(_,_)) (λ_ z=>G 0 e7 z.1) hz ω (λn i z hi hI hr=> ?_) (λn z hI=> ?_))
 all_goals unfold sW.l6 sW.uU
 ·rw[aw (x:=(i:Int)+1) ω ω,af i]
  have hx:G 0 e7 (l.getD (i:Int).toNat bb):=G.at h _
  have h1:=hr z hI
  have h2:=hr (_,true) hx
  repeat' first|exact h1|exact h2|refine aB ⟨ω,ω⟩ ?_|refine ax (λ_=> ?_) (λ_=> ?_)|refine ok_eq (λ_=> ?_) (λ_=> ?_)|refine bF (λ_=> ?_) (λ_=> ?_)|(exfalso;omega)
 ·exact ax (λ_=>ω) λ_=>aq hI
theorem GL{m:Nat}{a b d e f:Int}{l:aE}(ha:aF a)(hl:L2 m l)(hb:aF b)(hd:aF d)(he:aF e)(hf:aF f):G m jU (a,(l,(b,(d,(e,(f,())))))):=⟨ha,hl,hb,hd,he,hf,trivial⟩
theorem LL.app{m:Nat}{k:Nat}{l:bJ}{x:jd}(hl:l.length≤k∧ ∀y∈l,G m jU y)(hx:G m jU x):(l++[x]).length≤k+1∧ ∀y∈l++[x],G m jU y:=
 ⟨by rw[aS,aK];have:=hl.1;omega,λy hy=>(bl.1 hy).elim (hl.2 y) λhy=>by rw[cr.1 hy];exact hx⟩
theorem P3(N:Nat)(hN:5000000≤N)(c:ae){b:an}{L:bJ}{l:aO}{m:Nat}(h2:200≤m)(hm:m≤2000)(hb:G m aJ b)(hL:LL m L)(hl:G m (.slice e7) l):Ok (λr=>G m aJ r.1∧LL m r.2.1) (gq N c b L l):=by
 have eo: ∀e:Int,Ok (λr:an×bJ×Int=>G m aJ r.1∧LL m r.2.1) (some ((cf,(cS,(bn,(bn,(dd,(dm,())))))),([],e))):=λe=>aq ⟨G.jD,G.nil⟩
 have h3:=hL.1
 have h4:=hl.1
 have hw:Ky L:=λy hy=>cv (hL.2 y hy).2.1.1 ω
 unfold gq gq.b
 refine bH (ej N hN ω hb) (bF (λ_=>eo _) λ_=>bH (BZ N ω c ω hw) (bF (λ_=>eo _) λhk=>bH (u6 N ω ω) (bF (λ_=>eo _) λ_=> ?_)))
 have h12:L.length≤12:=by
  unfold C5 at hk
  exact bt (c5.1 (c5.1 hk).2).1
 refine bs (len:=L.length) (F:=λn i (z:au×bP×bJ)=>gq.l7 N n L l b (cf,(cS,(bn,(bn,(dd,(dm,())))))) z.1 z.2.1 z.2.2 i) (s:=(_,(_,_))) (λi z=>L3 (2*m*i) z.1∧kP (2*i) z.2.1∧z.2.2.length≤i∧ ∀y∈z.2.2,G m jU y) ⟨G.nil,kP.nil,bz _,λy hy=>nomatch hy⟩ ω (λn i z hi hI hr=> ?_) (λn z hI=> ?_)
 all_goals unfold gq.l7 gq.oP
 ·obtain⟨h5,h6,h7⟩:=hI
  have h8:=h6.1
  have h9:=h7.1
  have hmi:2*m*i≤2*m*12:=mR _ ω
  have hms:2*m*(i+1)=2*m*i+2*m:=rY _ _
  have hx:G m jU (L.getD (i:Int).toNat ((0:Int),(cf,bb))):=G.at hL _
  have hxl:=hx.2.1.1
  rw[aw (x:=(i:Int)+1) ω ω,af i]
  dsimp only
  rw[cM]
  have put: ∀x:jd,G m jU x→Ok (λr=>G m aJ r.1∧LL m r.2.1) (cond (small (z.2.2.length+[x].length)) (gq.l7 N n L l b (cf,(cS,(bn,(bn,(dd,(dm,())))))) z.1 z.2.1 (z.2.2++[x]) ((i+1:Nat):Int)) none):=λx hx=>aD (by rw[aK];omega) (hr (z.1,(z.2.1,z.2.2++[x])) ⟨G.mono ω h5,kP.mono h6 ω,LL.app h7 hx⟩)
  refine ax (λ_=>aB ⟨ω,ω⟩ (aD (by rw[cj];omega) (bG (λ_=>put _ hx) λ_=>ag (U5 N ω ω hl _) λw hw=>bF (λ_=>put _ (GL hx.1 hx.2.1 hx.2.2.1 (show aF 3 from bw) hx.2.2.2.2.1 hx.2.2.2.2.2.1)) λ_=>ag (Cc N ω ω hb.2.1 _) λh hh=>ok_eq (λ_=>eo _) λ_=>ag (rL N ω ω hb _) λ_ _=>ok_eq (λ_=>eo _) λ_=> ?_))) λ_=>ω
  have oW:=GL hx.1 hx.2.1 hx.2.2.1 (show aF 2 from bw) hw.2.2.1 hw.2.2.2.1
  generalize hX:(((L.getD (i:Int).toNat ((0:Int),(cf,bb))).1,((L.getD (i:Int).toNat ((0:Int),(cf,bb))).2.1,((L.getD (i:Int).toNat ((0:Int),(cf,bb))).2.2.1,((2:Int),(w.1.2.2.1,(w.1.2.2.2.1,())))))):jd)=X at oW
  have hXl:X.2.1.length≤m:=oW.2.1.1
  refine bs (len:=X.2.1.length) (F:=λn' j u=>gq.yc N (gq.l7 N n) n' L l b (cf,(cS,(bn,(bn,(dd,(dm,())))))) u z.2.1 z.2.2 (i:Int) X w.1 h j) (s:=z.1) (λj u=>L3 (2*m*i+2*j) u) h5 ω (λn' j u hj hu eQ=> ?_) (λn' u hu=> ?_)
  all_goals unfold gq.yc gq.wW
  ·have I6:=hu.1
   have hy:G m kM (X.2.1.getD (j:Int).toNat da):=G.at oW.2.1 _
   dsimp only
   rw[aw (x:=(j:Int)+1) ω ω,af j]
   exact ax (λ_=>aB ⟨ω,ω⟩ (aB ⟨ω,ω⟩ (aB ⟨ω,ω⟩ (aB ⟨ω,ω⟩ (aD (by rw[ze];omega) (eQ _ (G.mono ω (G.cat hu (G.two (m:=2) (G3 bV hy.1 (gB _)) (G3 hh hy.1 hy.2.1) (aH 2)))))))))) λ_=>ω
  ·refine ax (λ_=>ω) λ_=>ag (bD N ω hw.2.2.2.1) λv hv=>ag (ub N ω _ _ _ _ (Bg.mono hv ω)) λp hp=>aD (by have:=hp.1;omega) (aD (by rw[aK];omega) ?_)
   rw[aw (x:=(i:Int)+1) ω ω,af i]
   exact hr (_,(_,_)) ⟨G.mono ω hu,kP.mono (kP.app h6 hp) ω,LL.app h7 oW⟩
 ·obtain⟨h5,h6,h7⟩:=hI
  have hmi:2*m*L.length≤2*m*12:=mR _ ω
  exact ax (λ_=>ω) λ_=>ag (ua N ω h2 ω hb (G.mono ω h5) (kP.mono h6 ω)) λr hr=>bG (λ_=>eo _) λ_=>aq ⟨hr,cv h7.1 ω,h7.2⟩
end VM
end
