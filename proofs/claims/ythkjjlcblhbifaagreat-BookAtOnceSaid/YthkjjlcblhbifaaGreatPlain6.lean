/- A part of the proof of BookAtOnce of layer 18: what the functions compute, in plain words. -/
import Derived.Test.YthkjjlcblhbifaaGreatPlain5
set_option linter.all false
section
namespace VM
open Go VM.F
variable(N:Nat)
theorem G6q{m:Nat}{x:fZ}{q:Int}(h:G m nh x)(hq:aF q):G m nh (x.1,(x.2.1,(x.2.2.1,(x.2.2.2.1,(q,x.2.2.2.2.2))))):=⟨h.1,h.2.1,h.2.2.1,h.2.2.2.1,hq,h.2.2.2.2.2⟩
theorem adi(hN:200000≤N){l:aY}{m:Nat}(hm:m≤50000)(h:L6 m l)(a d:Int):Ok (λr=>L6 m r) (eh N l a d):=by
 have hl:=h.1
 unfold eh eh.b
 refine bK (iS N ω hN) (bF (λ_=>aq G.nil) λ_=>br (len:=l.length) (F:=λn i s=>eh.l5 N n l a d s i) (λi s=>L6 i s) G.nil ω (λn i s hi hI hr=> ?_) (λn s hI=> ?_))
 all_goals unfold eh.l5 eh.eo
 ·have hs:=hI.1
  have hx:G 0 nh (l.getD (i:Int).toNat eC):=G.at h _
  have fin: ∀k:Nat,k≤s.length→Ok (λr=>L6 m r) (eh.E5 N (eh.l5 N n) l a d s (i:Int) (k:Int)):=λk hk=>by
   unfold eh.E5 eh.xV
   rw[aw (x:=(i:Int)+1) ω ω,af i]
   dsimp only
   have t: ∀a b:Nat,(List.drop a (List.take b s)).length≤s.length:=λa b=>by rw[dY,bV];omega
   have t1:=t (0:Int).toNat (k:Int).toNat
   have t2:=t (k:Int).toNat (s.length:Int).toNat
   refine zT ⟨ω,ω,ω,ω⟩ (aD ω (aB ⟨ω,ω⟩ (aD (by rw[aJ];omega) (zT ⟨ω,ω,ω,ω⟩ (aD (by rw[aS,aJ];omega) (hr _ ?_))))))
   simpa using G.ins hI (G.mono (bz i) hx) k 0 k (aH _)
  have h1:=hr s (G.mono ω hI)
  have hw:Ok (λr=>L6 m r) (eh.l9 N (eh.l5 N n) N l a d s (i:Int) 0):=by
   refine mY (len:=s.length) (F:=λn' j=>eh.l9 N (eh.l5 N n) n' l a d s (i:Int) j) ω (λn' j hj eQ=> ?_) (λn'=> ?_)
   all_goals unfold eh.l9 eh.vz
   ·rw[aw (x:=(j:Int)+1) ω ω,af j]
    have hah: ∀x y:fZ,Ok (λ_=>True) (WA N x y):=λx y=>by unfold WA;exact bG (λ_=>fN) λ_=>fN
    exact ax (λ_=>aB ⟨ω,ω⟩ (aB ⟨ω,ω⟩ (ag (hah _ _) λ_ _=>pd (λ_=>eQ) λ_=>fin j ω))) λ_=>ω
   ·exact ax (λ_=>ω) λ_=>fin _ (aH _)
  rw[aw (x:=(i:Int)+1) ω ω,af i]
  repeat' first|exact h1|exact hw|refine aB ⟨ω,ω⟩ ?_|refine ax (λ_=> ?_) (λ_=> ?_)|refine bG (λ_=> ?_) (λ_=> ?_)|(exfalso;omega)
 ·exact ax (λ_=>ω) λ_=>aq (G.mono hl hI)
theorem ZW(hN:200000≤N){l:aY}{o:fZ}{m:Nat}(hm:m≤50000)(h:L6 m l)(ho:G 0 nh o):Ok (λr=>L6 m r.1∧aF r.2.2.1) (cv N l o):=by
 have hl:=h.1
 have fin: ∀(s:aY) (q:Int) (t:bf),L6 m s→aF q→Ok (λr=>L6 m r.1∧aF r.2.2.1) (cv.j22 N s q t):=λs q t hs hq=>by
  have N9:=hs.1
  unfold cv.j22 cv.adj
  refine br (len:=s.length) (F:=λn i u=>cv.Nl N n s q t u i) (λi u=>L6 i u) G.nil ω (λn i u hi hI hr=> ?_) (λn u hI=> ?_)
  all_goals unfold cv.Nl cv.PN
  ·have hu:=hI.1
   have hx:G 0 nh (s.getD (i:Int).toNat eC):=G.at hs _
   rw[aw (x:=(i:Int)+1) ω ω,af i]
   have h1:=hr u (G.mono ω hI)
   have h2:=hr _ (G.cat hI (G.one hx (aH 1)))
   repeat' first|exact h1|exact h2|refine aD (by rw[aJ];omega) ?_|refine aB ⟨ω,ω⟩ ?_|refine ax (λ_=> ?_) (λ_=> ?_)|(exfalso;omega)
  ·exact ax (λ_=>ω) λ_=>aq ⟨G.mono N9 hI,hq⟩
 have eg:Ok (λr:aY×bf×Int×Int=>L6 m r.1∧aF r.2.2.1) (some ([],[],(0:Int),(1:Int))):=aq ⟨G.nil,bU⟩
 unfold cv cv.b
 refine bK (iS N ω hN) (bF (λ_=>eg) λ_=>bK (Bv N o) (bF (λ_=>eg) λ_=>aD (by rw[cr];omega) (ag (adi N hN hm h _ _) λw hw=> ?_)))
 have hwl:=hw.1
 rw[cN]
 refine br (len:=w.length) (F:=λn i (s:aY×Int×bf)=>cv.l7 N n o s.1 s.2.1 s.2.2 w i) (s:=(_,(_,_))) (λi s=>L6 m s.1∧aF s.2.1∧s.2.2.length≤i) ⟨h,ho.2.2.2.2.1,bz _⟩ ω (λn i s hi hI hr=> ?_) (λn s hI=> ?_)
 all_goals unfold cv.l7 cv.oJ
 ·obtain⟨hs,hq,ht⟩:=hI
  have f1:=fin s.1 s.2.1 s.2.2 hs hq
  have ak5: ∀(v:Int) (t:ir),Ok (λr=>L6 m r.1∧aF r.2.2.1) (cv.Da N (cv.l7 N n) o s.1 s.2.1 s.2.2 w (i:Int) v t):=λv t=>by
   unfold cv.Da cv.wI
   refine aD (by rw[aJ];omega) (br (len:=s.1.length) (F:=λn' j u=>cv.Ja N (cv.l7 N n) n' o u (W .i64 (s.2.1-v)) (s.2.2++[t]) w (i:Int) v j) (λ_ u=>u.length=s.1.length∧L6 m u) ⟨rfl,hs⟩ (by have:=hs.1;omega) (λn' j u hj hJ eQ=> ?_) (λn' u hJ=> ?_))
   all_goals unfold cv.Ja cv.E6
   ·have N9:=hs.1
    have Jb:=hJ.1
    rw[aw (x:=(j:Int)+1) ω ω,af j]
    exact ax (λ_=>aB ⟨ω,ω⟩ (aB ⟨ω,ω⟩ (ok_eq (λ_=>aB ⟨ω,ω⟩ (aB ⟨ω,ω⟩ (eQ _ ⟨by rw[bP];exact Jb,G.set hJ.2 (G6q (G.at hJ.2 _) (gB _)) _⟩))) λ_=>eQ u hJ))) λ_=>ω
   ·have Jb:=hJ.1
    rw[aw (x:=(i:Int)+1) ω ω,af i]
    exact ax (λ_=>ω) λ_=>hr (_,(_,_)) ⟨hJ.2,gB _,by dsimp only;rw[List.length_append,List.length_singleton];omega⟩
  have E7:Ok (λr=>L6 m r.1∧aF r.2.2.1) (cv.JQ N (cv.l7 N n) o s.1 s.2.1 s.2.2 w (i:Int)):=by
   unfold cv.JQ cv.Db
   rw[aw (x:=(i:Int)+1) ω ω,af i]
   dsimp only
   have h1:=hr s ⟨hs,hq,ω⟩
   repeat' first|exact h1|exact ak5 _ _|refine aB ⟨ω,ω⟩ ?_|refine ok_eq (λ_=> ?_) (λ_=> ?_)
  repeat' first|exact f1|exact E7|refine aB ⟨ω,ω⟩ ?_|refine ax (λ_=> ?_) (λ_=> ?_)|refine ok_eq (λ_=> ?_) (λ_=> ?_)|(exfalso;omega)
 ·exact ax (λ_=>ω) λ_=>fin _ _ _ hI.1 hI.2.1
theorem ZX(hN:5000000≤N){c:ae}{b:an}{o:fZ}{m:Nat}(h2:200≤m)(hm:m≤40000)(hc:G m aA c)(hb:G m aK b)(ho:G 0 nh o):Ok (λr=>G (m+1) aK r.1) (jV N c b o):=by
 have Cg:=hb.2.2.2.2.2.1.1
 have eg: ∀(t:bf) (e:Int),Ok (λr:an×bf×Int×Int=>G (m+1) aK r.1) (some ((cc,(cT,(bq,(bq,(db,(dq,())))))),(t,((0:Int),e)))):=λt e=>aq (G.zero (m+1) aK)
 have E7: ∀(r:aY) (t:bf) (q:Int),L6 m r→aF q→Ok (λr=>G (m+1) aK r.1) (jV.JQ N c b o (cc,(cT,(bq,(bq,(db,(dq,())))))) r t q):=λr t q hr hq=>by
  have J6:=hr.1
  unfold jV.JQ jV.Db
  have hx:G 0 nh (o.1,(o.2.1,(o.2.2.1,(o.2.2.2.1,(q,o.2.2.2.2.2))))):=G6q ho hq
  exact ag (CV N hN c h2 ω hb) λz hz=>bG (λ_=>eg _ _) λ_=>by
   have zi:G (m+1) aK z.1:=G.mono ω hz
   exact ax (λ_=>aD (by rw[aJ];omega) (aq ⟨zi.1,zi.2.1,zi.2.2.1,zi.2.2.2.1,zi.2.2.2.2.1,G.cat hr (G.one hx (aH 1)),trivial⟩)) λ_=>aq ⟨zi.1,zi.2.1,zi.2.2.1,zi.2.2.2.1,zi.2.2.2.2.1,G.mono ω hr,trivial⟩
 have hj7:Ok (λr=>G (m+1) aK r.1) (jV.j7 N c b o (cc,(cT,(bq,(bq,(db,(dq,()))))))):=by
  unfold jV.j7 jV.Xp
  exact ag (ZW N ω ω hb.2.2.2.2.2.1 ho) λz hz=>ax (λ_=>ok_eq (λ_=>eg _ _) λ_=>E7 _ _ _ hz.1 hz.2) λ_=>E7 _ _ _ hz.1 hz.2
 unfold jV jV.b
 refine ag (BX N hN h2 hm hc hb (G.mono (bz m) ho)) λe _=>bG (λ_=>eg _ _) λ_=>ax (λh0=> ?_) λ_=>hj7
 dsimp only
 exact aB (by rw[aw ω ω];omega) (eO (λ_=>eg _ _) λ_=>hj7)
theorem ak6(a:Int):Ok (λ_=>True) (Mm N a):=by
 unfold Mm
 exact ok_eq (λ_=>fN) λ_=>fN
theorem kP.one{k n:Int}{x:aL}{m:Nat}(h:Bg m x)(hm:m≤8):kP 1 [(k,(n,(x,())))]:=⟨aH 1,λy hy=>by rw[cn.1 hy];exact Bg.mono h hm⟩
theorem ZY(hN:4000000≤N){l:au}{m:Nat}(hm:m≤50000)(h:L3 m l)(i a b:Int):Ok (λr=>kP m r.1) (oB N l i a b):=by
 have hl:=h.1
 unfold oB oB.b
 have p64: ∀p:Int,decide (1≤p∧p≤1000000000000)=true→aF p:=λp h=>by have:=bt h;unfold aF;omega
 refine bK (nv N ω ω) (bF (λ_=>aq kP.nil) λ_=>bK (jz N _) (bF (λ_=>aq kP.nil) λha=>bK (jz N _) (bF (λ_=>aq kP.nil) λhb=>ag (bD N hN (p64 _ hb)) λx hx=>ag (bD N hN (p64 _ ha)) λy hy=>ag (yN N hN ω hx hy) λz hz=>br (len:=l.length) (F:=λn j s=>oB.l6 N n l i s z j) (λj s=>kP j s) kP.nil ω (λn j s hj hI hr=> ?_) (λn s hI=> ?_))))
 all_goals unfold oB.l6 oB.vu
 ·have hs:=hI.1
  rw[aw (x:=(j:Int)+1) ω ω,af j]
  have h1:=hr s (kP.mono hI ω)
  exact ax (λ_=>aB ⟨ω,ω⟩ (bG (λ_=>h1) λ_=>ag (FI N hz) λ_ _=>ok_eq (λ_=>h1) λ_=>aB ⟨ω,ω⟩ (ag (ak6 N _) λ_ _=>aB ⟨ω,ω⟩ (ag (bD N hN (G.at h _).2.2.1) λv hv=>ag (mL N hN ω ω hv hz) λu hu=>aD (by rw[aJ];omega) (hr _ (kP.app hI (kP.one hu ω))))))) λ_=>ω
 ·exact ax (λ_=>ω) λ_=>aq (kP.mono hI ω)
theorem Eu(hN:5000000≤N)(c:ae){b:an}{m:Nat}(h2:200≤m)(hm:m≤50000)(hb:G m aK b)(i:Int){p:Int}(hp:aF p):Ok (λr=>G m aK r.1∧kP m r.2.1) (F52 N c b i p):=by
 have eg: ∀e:Int,Ok (λr:an×bO×Int=>G m aK r.1∧kP m r.2.1) (some ((cc,(cT,(bq,(bq,(db,(dq,())))))),([],e))):=λe=>aq ⟨G.jF,kP.nil⟩
 have Cw:=hb.2.2.2.2.1.1
 unfold F52
 refine bK (ed N hN hm hb) (bF (λ_=>eg _) λhB=>bK (jz N _) (bF (λ_=>eg _) λ_=>ax (λ_=>eg _) λh0=>eO (λ_=>eg _) λh1=> ?_))
 obtain⟨Jr,_⟩:=fD hB
 dsimp only
 rw[cN]
 exact aB ⟨h0,by rw[Jr];exact h1⟩ (ag (ZY N ω hm hb.2.2.2.1 _ _ _) λf hf=>ag (tK N ω h2 hm hb G.nil (kP.mono hf hm)) λr hr=>bG (λ_=>eg _) λ_=>aD (by rw[cr];omega) (aB ⟨h0,by rw[Jr];exact h1⟩ (aq ⟨⟨hr.1,hr.2.1,hr.2.2.1,hr.2.2.2.1,G.set hb.2.2.2.2.1 hp _,hr.2.2.2.2.2⟩,hf⟩)))
abbrev L2(m:Nat)(l:aE):Prop:=G m (.slice kN) l
theorem G2{m:Nat}{a b:Int}(ha:aF a)(hb:aF b):G m kN (a,(b,())):=⟨ha,hb,trivial⟩
theorem Dc(hN:200000≤N){l:aE}(hl:l.length≤100000):Ok (λ_=>True) (q3 N l):=by
 unfold q3 q3.b
 refine mY (len:=l.length) (F:=λn i=>q3.l2 N n l i) ω (λn i hi hr=> ?_) (λn=> ?_)
 all_goals unfold q3.l2 q3.fM
 ·rw[aw (x:=(i:Int)+1) ω ω,af i]
  dsimp only
  repeat' first|exact hr|exact fN|refine aB ⟨ω,ω⟩ ?_|refine aB (by rw[aw (x:=(i:Int)-1) ω ω];omega) ?_|refine ax (λ_=> ?_) (λ_=> ?_)|refine eO (λ_=> ?_) (λ_=> ?_)|refine ok_eq (λ_=> ?_) (λ_=> ?_)|(exfalso;omega)
 ·exact ax (λ_=>ω) λ_=>fN
theorem PO(hN:4000000≤N){g:aE}{p:bO}{m:Nat}(h2:200≤m)(hm:m≤50000)(h:L2 m g)(hp:kP m p):Ok (λr=>L2 m r.1) (fA N g p):=by
 have hl:=h.1
 have Cw:=hp.1
 unfold fA fA.b
 refine ag (Dc N ω ω) λ_ _=>bF (λ_=>aq G.nil) λ_=>ji (len:=25) (F:=λn i s=>fA.l5 N n g p s i) (λi s=>L2 i s) (λn i s hi hI hr=> ?_) (λn s hI=> ?_) 25 N 1 [] ω ω ω G.nil
 all_goals unfold fA.l5 fA.eo
 ·have hs:=hI.1
  refine eO (λ_=> ?_) λ_=>ω
  refine br (len:=g.length) (F:=λn' j t=>fA.l9 N (fA.l5 N n) n' g p s (i:Int) t j) (λ_ t=>Bg 2 t) (MA ω) ω (λn' j t hj ht eQ=> ?_) (λn' t ht=> ?_)
  all_goals unfold fA.l9 fA.vz
  ·rw[aw (x:=(j:Int)+1) ω ω,af j]
   exact ax (λ_=>aB ⟨ω,ω⟩ (ok_eq (λ_=>aB ⟨ω,ω⟩ (ag (bD N hN (G.at h _).2.1) λr hr=>eQ r hr)) λ_=>eQ t ht)) λ_=>ω
  ·refine ax (λ_=>ω) λ_=> ?_
   refine br (len:=p.length) (F:=λKZ j t=>fA.KN N (fA.l5 N n) KZ g p s (i:Int) t j) (λj t=>Bg (8+j) t) (Bg.mono ht ω) ω (λKZ j t hj ht eQ=> ?_) (λKZ t ht=> ?_)
   all_goals unfold fA.KN fA.HQ
   ·rw[aw (x:=(j:Int)+1) ω ω,af j]
    have h1:=eQ t (Bg.mono ht ω)
    exact ax (λ_=>aB ⟨ω,ω⟩ (ok_eq (λ_=>aB ⟨ω,ω⟩ (ok_eq (λ_=>aB ⟨ω,ω⟩ (ag (lW N hN ω ht (Bg.mono (hp.at _) ω)) λr hr=>eQ r (Bg.mono hr ω))) λ_=>h1)) λ_=>h1)) λ_=>ω
   ·rw[aw (x:=(i:Int)+1) ω ω,af i]
    exact ax (λ_=>ω) λ_=>ag (xT N ht) λv hv=>bF (λ_=>aq G.nil) λ_=>bG (λ_=>aD (by rw[aJ];omega) (hr _ (G.cat hI (G.one (m:=1) (G2 (jE ω ω) hv) (aH 1))))) λ_=>hr s (G.mono ω hI)
 ·exact eO (λ_=>ω) λ_=>aq (G.mono ω hI)
theorem tL(hN:4000000≤N)(a b c d:Int){x:aL}(h:Bg 8 x):Ok (λr=>kP 2 r) (Dd N a b c d x):=by
 unfold Dd
 exact ag (rA N hN ω h) λy hy=>aq ⟨aH 2,λz hz=>by
  rcases a8.1 hz with rfl|hz
  ·exact hy
  ·rw[cn.1 hz];exact h⟩
theorem PQ(hN:5000000≤N){c:ae}{b:an}{m:Nat}(h2:200≤m)(hm:m≤40000)(hc:G m aA c)(hb:G m aK b)(a:Int){q:Int}(hq:aF q):Ok (λr=>G m aK r.1) (WB N c b a q):=by
 unfold WB
 exact bK (ed N hN ω hb) (bF (λ_=>aq G.jF) λ_=>ax (λ_=>aq G.jF) λ_=>ag (yO N ω ω hb.2.1 _) λ_ _=>bF (λ_=>aq G.jF) λ_=>ag (pe N ω ω hb.1 _) λ_ _=>bG (λ_=>aq G.jF) λ_=>ag (ni N ω ω hb.2.2.1 _ _) λg hg=>ag (bD N ω hg) λx hx=>ag (bD N ω hq) λy hy=>ag (yN N ω ω hx hy) λz hz=>ag (Ia N ω h2 hm hc hb (bz _) _) λw hw=>ag (qu N ω ω ω hz hw) λ_ _=>ax (λ_=>aq G.jF) λ_=>ag (bD N ω hq) λy hy=>ag (tL N ω _ _ _ _ (Bg.mono hy ω)) λp hp=>ag (tK N ω h2 ω hb G.nil (kP.mono hp ω)) λr hr=>aq hr)
theorem SM(hN:1000≤N){c:ae}(hc:G 5 aA c):Ok (λr=>G 5 aK r.1) (iX N c):=by
 have hl:=hc.1.1
 unfold iX iX.b
 have hj: ∀b:an,G 5 aK b→Ok (λr=>G 5 aK r.1) (iX.j6 N c (cc,(cT,(bq,(bq,(db,(dq,())))))) b []):=λb hb=>by
  unfold iX.j6 iX.OL
  obtain⟨b1,b2,b3,b4,b5,b6⟩:=b
  refine br (len:=c.1.length) (F:=λn i (z:an×List Int)=>iX.l7 N n c (cc,(cT,(bq,(bq,(db,(dq,())))))) z.1 z.2 i) (s:=((b1,(b2,(b3,(b4,(b5,b6))))),_)) (λi z=>G 5 aK z.1∧G i (.slice (.int .i64)) z.2) ⟨hb,G.nil⟩ ω (λn i z hi hI hr=> ?_) (λn z hI=> ?_)
  all_goals unfold iX.l7 iX.oJ
  ·have hz:=hI.2.1
   rw[aw (x:=(i:Int)+1) ω ω,af i]
   have hx:G 0 (.int .i64) (c.1.getD (i:Int).toNat ba).2.1:=(G.at hc.1 _).2.1
   exact ax (λ_=>aB ⟨ω,ω⟩ (aD (by rw[aJ];omega) (hr (_,_) ⟨⟨hI.1.1,hI.1.2.1,hI.1.2.2.1,hI.1.2.2.2.1,G.nil,hI.1.2.2.2.2.2⟩,G.cat hI.2 (G.one hx (aH 1))⟩))) λ_=>ω
  ·exact ax (λ_=>ω) λ_=>aq ⟨hI.1.1,hI.1.2.1,hI.1.2.2.1,hI.1.2.2.2.1,G.mono hl hI.2,hI.1.2.2.2.2.2⟩
 have zA:L3 5 [((1:Int),((0:Int),(W .i64 (0-c.2.1),()))),((3:Int),((0:Int),(c.2.1,())))]:=G.two (G3 (show aF 1 from bu) bU (gB _)) (G3 (show aF 3 from bu) bU hc.2.1) δ
 exact bK (oa N ω c) (bF (λ_=>aq G.jF) λ_=>bG (λ_=>hj _ ⟨G.nil,G.nil,zA,G.nil,G.nil,G.nil,trivial⟩) λ_=>hj _ G.jF)
theorem De(hN:4000000≤N){c:ae}{l:aE}{m:Nat}(hm:m≤50000)(hc:G m aA c)(hl:L2 m l)(f:Bool):Ok (λr=>Bg 60000 r.1) (qw N c l f):=by
 have h1:=hl.1
 unfold qw qw.b
 refine bK (BD N ω c ω) (bF (λ_=>aq (MA ω)) λhk=>br (len:=l.length) (F:=λn i t=>qw.l5 N n l f c (false,(([]:List Int),())) t i) (λi t=>Bg (8+i) t) (MA ω) ω (λn i t hi ht hr=> ?_) (λn t ht=> ?_))
 all_goals unfold qw.l5 qw.eo
 ·rw[aw (x:=(i:Int)+1) ω ω,af i,aI]
  unfold o6 at hk
  have hp:=bt (da.1 hk).1 i hi
  unfold og qq at hp
  have in1: ∀{x y:Option (aL×Int)},Ok (λr=>Bg 60000 r.1) x→Ok (λr=>Bg 60000 r.1) (cond (bb (l.getD i c8).1 c.1.length) x y):=λh=>aB ⟨hp.1,hp.2.1⟩ h
  have hw: ∀q:Int,aF q→Ok (λr=>Bg 60000 r.1) ((eI N (l.getD i c8).2.1).bind λr3=>(Hg N r3).bind λr4=>(eI N q).bind λr5=>(et N r4 r5).bind λr6=>(nZ N t r6).bind λr7=>qw.l5 N n l f c (false,(([]:List Int),())) r7 ((i+1:Nat):Int)):=λq hq=>
   ag (bD N hN (G.at hl i).2.1) λx hx=>ag (BW N hN ω hx) λx hx=>ag (bD N hN hq) λy hy=>ag (mL N hN ω ω hx hy) λz hz=>ag (lW N hN ω ht (Bg.mono hz ω)) λu hu=>hr u (Bg.mono hu ω)
  exact ax (λ_=>aB ⟨ω,ω⟩ (in1 (pd (λ_=>aB ⟨ω,ω⟩ (in1 (aB ⟨ω,ω⟩ (hw _ (G.at hc.1 _).2.2.2.1)))) λ_=>aB ⟨ω,ω⟩ (hw _ (G.at hc.1 _).2.2.1)))) λ_=>ω
 ·exact ax (λ_=>ω) λ_=>aq (Bg.mono ht ω)
theorem rB(hN:200000≤N){b:an}{m:Nat}(hm:m≤50000)(hb:G m aK b)(id:Int):Ok (λ_=>True) (MF N b id):=by
 unfold MF
 exact ag (pe N hN hm hb.1 _) λ_ _=>fN
theorem uQ(hN:200000≤N){b:an}{m:Nat}(hm:m≤50000)(hb:G m aK b)(id:Int):Ok aF (SN N b id):=by
 unfold SN
 exact ag (ni N hN hm hb.2.2.1 _ _) λr hr=>aq hr
theorem ZZ(hN:5000000≤N){c:ae}{b:an}{m:Nat}(hm:m≤40000)(hc:G m aA c)(hb:G m aK b)(f to a:Int):Ok (λ_=>True) (adk N c b f to a):=by
 unfold adk ak7
 have mb:=λid=>rB N ω ω hb id
 exact bK (ed N hN ω hb) (bF (λ_=>fN) λ_=>ag (yO N ω ω hb.2.1 _) λ_ _=>bF (λ_=>fN) λ_=>ag (mb _) λ_ _=>ok_eq (λ_=>fN) λ_=>ag (mb _) λ_ _=>ok_eq (λ_=>fN) λ_=>bG (λ_=>fN) λ_=>bG (λ_=>fN) λ_=>ag (mb _) λ_ _=>bG (λ_=>fN) λ_=>ag (PI N ω ω hb.2.2.2.1 _) λl hl=>ag (Q:=λr=>Bg 60000 r.1) (ag (De N ω ω hc hl _) λr hr=>aq hr) λu hu=>ag (uQ N ω ω hb _) λg hg=>ag (bD N ω hg) λx hx=>ag (qu N ω ω ω hx hu) λ_ _=>ax (λ_=>fN) λ_=>fN)
theorem adl(hN:5000000≤N){c:ae}{b:an}{m:Nat}(hm:m≤40000)(hc:G m aA c)(hb:G m aK b)(f:Int){to:Int}(hto:aF to)(a:Int):Ok (λr=>G m aK r.1) (WC N c b f to a):=by
 unfold WC
 exact ag (ZZ N hN hm hc hb _ _ _) λ_ _=>bG (λ_=>aq G.jF) λ_=>ag (SL N ω ω hb.1 hb.2.1 hto) λr hr=>bG (λ_=>aq G.jF) λ_=>aq ⟨hb.1,hr,hb.2.2⟩
theorem WD(hN:4000000≤N){x:aL}{q:Int}(hx:Bg 60000 x)(hq:aF q):Ok (λr=>0≤r∧r≤3) (sE N x q):=by
 unfold sE sE.b
 refine ag (FI N hx) λ_ _=>eO (λ_=>aq δ) λ_=>ax (λ_=>aq δ) λ_=>ji (len:=3) (F:=λn i (_:Unit)=>sE.l4 N n q x i) (λ_ _=>True) (λn i _ hi _ hr=> ?_) (λn _ _=> ?_) 3 N 1 () ω ω ω trivial
 all_goals unfold sE.l4 sE.dQ
 ·rw[aw (x:=(i:Int)+1) ω ω,af i]
  exact ax (λ_=>ag (bD N hN (jE ω ω)) λa ha=>ag (bD N hN hq) λb hb=>ag (mL N hN ω ω ha hb) λy hy=>ag (qu N hN ω ω hy hx) λ_ _=>ax (λ_=>hr () trivial) λ_=>aq ω) λ_=>ω
 ·exact ax (λ_=>ω) λ_=>aq ω
theorem UE(hN:5000000≤N)(c:ae){b:an}{m:Nat}(hm:m≤50000)(hb:G m aK b):Ok (λr=>G m (.slice (.int .i64)) r.1) (sF N c b):=by
 have hl:=hb.1.1
 unfold sF sF.b
 refine bK (ed N hN hm hb) (bF (λ_=>aq G.nil) λ_=>br (len:=b.1.length) (F:=λn i s=>sF.l5 N n b s i) (λi s=>G i (.slice (.int .i64)) s) G.nil ω (λn i s hi hI hr=> ?_) (λn s hI=> ?_))
 all_goals unfold sF.l5 sF.eo
 ·have hs:=hI.1
  rw[aw (x:=(i:Int)+1) ω ω,af i]
  have h1:=hr s (G.mono ω hI)
  have hx:G 0 (.int .i64) (b.1.getD (i:Int).toNat c8).1:=(G.at hb.1 _).1
  exact ax (λ_=>aB ⟨ω,ω⟩ (ok_eq (λ_=>aB ⟨ω,ω⟩ (ag (ni N ω hm hb.2.2.1 _ _) λ_ _=>ax (λ_=>aB ⟨ω,ω⟩ (aD (by rw[aJ];omega) (hr _ (G.cat hI (G.one hx (aH 1)))))) λ_=>h1)) λ_=>h1)) λ_=>ω
 ·exact ax (λ_=>ω) λ_=>aq (G.mono hl hI)
abbrev LL(m:Nat)(l:bI):Prop:=G m (.slice jW) l
theorem Ig(hN:200000≤N){l:bI}{m:Nat}(hm:m≤50000)(h:LL m l)(id:Int):Ok (λr=>G m jW r.1) (q4 N l id):=by
 have hl:=h.1
 unfold q4 q4.b
 refine mY (len:=l.length) (F:=λn i=>q4.l2 N n l id ((0:Int),(cc,ba)) i) ω (λn i hi hr=> ?_) (λn=> ?_)
 all_goals unfold q4.l2 q4.fM
 ·rw[aw (x:=(i:Int)+1) ω ω,af i]
  exact ax (λ_=>aB ⟨ω,ω⟩ (ok_eq (λ_=>aB ⟨ω,ω⟩ (aq (G.at h _))) λ_=>hr)) λ_=>ω
 ·exact ax (λ_=>ω) λ_=>aq (G.zero m jW)
theorem WE(hN:4000000≤N){a b:aE}{m:Nat}(h6:6≤m)(hm:m≤40000)(ha:L2 m a)(hb:L2 m b):Ok (λr=>L2 m r.1) (fB N a b):=by
 have hal:=ha.1
 have xf:=hb.1
 unfold fB fB.b
 refine br (len:=6) (F:=λn i s=>fB.l3 N n a b s i) (λi s=>L2 i s) G.nil ω (λn i s hi hI hr=> ?_) (λn s hI=> ?_)
 all_goals unfold fB.l3 fB.nr
 ·have hs:=hI.1
  refine ax (λ_=> ?_) λ_=>ω
  refine br (len:=a.length) (F:=λn' j t=>fB.l7 N (fB.l3 N n) n' a b s (i:Int) t j) (λj t=>Bg (3+j) t) (MA ω) ω (λn' j t hj ht eQ=> ?_) (λn' t ht=> ?_)
  all_goals unfold fB.l7 fB.oJ
  ·rw[aw (x:=(j:Int)+1) ω ω,af j]
   exact ax (λ_=>aB ⟨ω,ω⟩ (ok_eq (λ_=>aB ⟨ω,ω⟩ (ag (bD N hN (G.at ha _).2.1) λr hr=>ag (lW N hN ω ht (Bg.mono hr ω)) λu hu=>eQ u (Bg.mono hu ω))) λ_=>eQ t (Bg.mono ht ω))) λ_=>ω
  ·refine ax (λ_=>ω) λ_=> ?_
   refine br (len:=b.length) (F:=λKZ j t=>fB.oH N (fB.l3 N n) KZ a b s (i:Int) t j) (λj t=>Bg (3+a.length+j) t) ht ω (λKZ j t hj ht eQ=> ?_) (λKZ t ht=> ?_)
   all_goals unfold fB.oH fB.nD
   ·rw[aw (x:=(j:Int)+1) ω ω,af j]
    exact ax (λ_=>aB ⟨ω,ω⟩ (ok_eq (λ_=>aB ⟨ω,ω⟩ (ag (bD N hN (G.at hb _).2.1) λr hr=>ag (lW N hN ω ht (Bg.mono hr ω)) λu hu=>eQ u (Bg.mono hu ω))) λ_=>eQ t (Bg.mono ht ω))) λ_=>ω
   ·rw[aw (x:=(i:Int)+1) ω ω,af i]
    exact ax (λ_=>ω) λ_=>ag (Es N ht) λv hv=>bF (λ_=>aq G.nil) λ_=>bG (λ_=>aD (by rw[aJ];omega) (hr _ (G.cat hI (G.one (m:=1) (G2 (jE ω ω) hv) (aH 1))))) λ_=>hr s (G.mono ω hI)
 ·exact ax (λ_=>ω) λ_=>aq (G.mono h6 hI)
theorem PS(hN:5000000≤N){c:ae}{b:an}{SO:bI}{l:aO}{x:cF}{m:Nat}(h6:6≤m)(hm:m≤40000)(hc:G m aA c)(hb:G m aK b)(hL:LL m SO)(hl:G m (.slice fc) l)(hx:G 0 fc x):Ok (λ_=>True) (lX N c b SO l x):=by
 have I7:=hl.1
 have hLl:=hL.1
 have hal:=hb.2.1.1
 have Cg:=hb.2.2.2.2.2.1.1
 have hw:KD SO:=λy hy=>ct (hL.2 y hy).2.1.1 ω
 unfold lX lX.b
 have hj:Ok (λ_=>True) (lX.j3 N SO l c b x):=by
  unfold lX.j3 lX.j3b
  refine ag (rB N ω ω hb _) λ_ _=>ok_eq (λ_=>fN) λ_=>bG (λ_=>fN) λ_=>ag (Ig N ω ω hL _) λz hz=>bK (ru N ω ω _) (bF (λ_=>fN) λ_=>bG (λ_=>fN) λ_=>ok_eq (λ_=>fN) λ_=>mY (len:=l.length) (F:=λn i=>lX.mw N n l c b x z.1 (oc b.2.1 x.2.2.1) i) ω (λn i hi hr=> ?_) (λn=> ?_))
  all_goals unfold lX.mw lX.lz
  ·rw[aw (x:=(i:Int)+1) ω ω,af i]
   exact ax (λ_=>aB ⟨ω,ω⟩ (ok_eq (λ_=>aB ⟨ω,ω⟩ (ok_eq (λ_=>fN) λ_=>hr)) λ_=>hr)) λ_=>ω
  ·refine ax (λ_=>ω) λ_=>ok_eq (λ_=>fN) λ_=>ag (bD N ω hx.2.2.2.1) λp hp=>ag (bD N ω (show aF 4 from bu)) λq hq=>ag (bD N ω hz.2.2.1) λr hr=>ag (mL N ω ω ω hq hr) λu hu=>ag (qu N ω ω ω hp hu) λ_ _=>ax (λ_=>fN) λ_=>ag (PI N ω ω hb.2.2.2.1 _) λa ha=>ag (WE N ω h6 ω ha hz.2.1) λj hj=>bF (λ_=>fN) λ_=> ?_
   unfold ak8
   exact ag (Q:=λr=>L3 6 r) (bK (iS N ω ω) (bF (λ_=>aq G.nil) λ_=>ag (H9 N ω ω _) λr hr=>aq hr)) λo ho=>ag (PH N ω ω hc hj (G.mono h6 ho)) λw hw=>ag (uQ N ω ω hb _) λg hg=>ag (bD N ω hg) λv hv=>ag (bD N ω hx.2.2.2.1) λp hp=>ag (yN N ω ω hv hp) λd hd=>ag (qu N ω ω ω hd hw) λ_ _=>ax (λ_=>fN) λ_=>fN
 refine bK (ed N hN ω hb) (bF (λ_=>fN) λ_=>bK (BM N ω c ω hw) (bF (λ_=>fN) λ_=>bK (uM N ω ω) (bF (λ_=>fN) λ_=>bK (Uf N _) (bF (λ_=>fN) λ_=>ax (λ_=> ?_) λ_=>hj))))
 dsimp only
 exact aB (by rw[aw ω ω];omega) (eO (λ_=>fN) λ_=>hj)
theorem K5(hN:5000000≤N){c:ae}{b:an}{SO:bI}{l:aO}{x:cF}{m:Nat}(h6:6≤m)(hm:m≤40000)(hc:G m aA c)(hb:G m aK b)(hL:LL m SO)(hl:G m (.slice fc) l)(hx:G 0 fc x):Ok (λr=>G (m+1) (.slice fc) r.1) (adm N c b SO l x):=by
 have I7:=hl.1
 unfold adm
 refine ag (PS N hN h6 hm hc hb hL hl hx) λ_ _=>bG (λ_=>aq G.nil) λ_=>aD (by rw[cr];omega) ?_
 dsimp only
 rw[cN]
 exact aD (by rw[aJ];omega) (aq (G.cat hl (G.one hx (aH 1))))
theorem aiG{l:List Int}(h:Pos l)(hs:l.sum<9223372036854775808):KJ l:=λx hx=>by
 have h3:=h x hx
 obtain⟨i,hi,rfl⟩:=rD.1 hx
 have h4:=zY h i
 rw[aV,bm hi]at h4
 simp only[nO]at h4
 omega
theorem Z0(k:Nat):(List.replicate k (1:Int)).sum=k:=by
 induction k with
 |zero=>rfl
 |succ k ih=>rw[As,cE,ih];omega
theorem Z1(k:Nat):Pos (List.replicate k 1):=λx hx=>by rw[An hx];omega
theorem Z2{t:Int}{k:Nat}(h0:0≤t)(h1:t<9223372036854775808)(hk:1≤k)(TL:k≤3):(KO t k).1.length=k∧KJ (KO t k).1:=by
 have hS:0<(List.replicate k (1:Int)).sum:=by rw[Z0];omega
 have ee:KO t k=(ck t (List.replicate k 1),0):=by
  unfold KO
  rw[ah ω,aI]
  unfold sv
  have hm:may (List.replicate k 1)=true:=pz.2 ⟨by rw[c4];omega,Z1 k⟩
  rw[ah (by rw[hm];simp;omega),Z0,ah ω,ah ω]
 rw[ee]
 exact⟨by dsimp only;rw[pa,List.length_replicate],aiG (vP h0 hS (Z1 k)) (by rw[vO h0 hS];omega)⟩
def LQ(y:Bx):Prop:=aF y.1∧aF y.2.1∧qQ y.2.1
theorem aiH{l:aE}(h: ∀y∈l,LQ y)(i:Nat):LQ (l.getD i c8):=by
 by_cases hk:i<l.length
 ·rw[aV,bm hk];exact h _ (dJ hk)
 ·rw[aV,ig ω];exact⟨bU,bU,by unfold qQ;decide⟩
theorem WG{c:ae}{b:an}{m:Nat}(hb:G m aK b)(hB:dg c b=true)(a:Int): ∀y∈posOf b.2.2.2.1 a,LQ y∧(0≤(y.1:Int)∧(y.1:Int)<(c.1.length:Int)):=λy hy=>by
 have hk:de b.2.2.2.1=true:=by
  by_cases h:de b.2.2.2.1=true
  ·exact h
  ·unfold posOf at hy;rw[ah h]at hy;nomatch hy
 unfold posOf at hy
 rw[aj hk]at hy
 obtain⟨x,hx,_,e⟩:=ng hy
 have hg:=hb.2.2.2.1.2 x hx
 have hq:=((dW hk).2 x hx).2
 have hp:=Mu hB x hx
 rw[e]
 exact⟨⟨hg.2.1,hg.2.2.1,hq⟩,hp⟩
theorem UF(hN:5000000≤N){c:ae}{b:an}{m:Nat}(h2:200≤m)(hm:m≤40000)(hc:G m aA c)(hb:G m aK b){next:Int}(hn:aF next):Ok (λr=>LL m r.1∧r.1.length≤12) (cm N c b next):=by
 unfold cm cm.b
 refine bK (ed N hN ω hb) (bF (λ_=>aq ⟨G.nil,bz _⟩) λhB=>ax (λ_=>aq ⟨G.nil,bz _⟩) λ_=>ax (λ_=>aq ⟨G.nil,bz _⟩) λ_=>bK (Zn N (G.wf ω hb).w.s ω 0) (ok_eq (λ_=>aq ⟨G.nil,bz _⟩) λ_=> ?_))
 have iv:=WG hb hB 0
 have hal:=(aqa hb.2.2.2.1 0).1
 generalize posOf b.2.2.2.1 0=all at*
 refine br (len:=4) (F:=λn k (s:Int×bI)=>cm.l8 N n s.1 c all s.2 k) (s:=(_,_)) (λk s=>aF s.1∧s.2.length≤3*k∧ ∀x∈s.2,G m jW x) ⟨hn,bz _,λx hx=>nomatch hx⟩ ω (λn k s hk hI hr=> ?_) (λn s hI=> ?_)
 all_goals unfold cm.l8 cm.D4
 ·refine ax (λ_=> ?_) λ_=>ω
  refine br (len:=all.length) (F:=λn' i (z:aE×aL)=>cm.mw N (cm.l8 N n) n' s.1 c all s.2 (k:Int) z.1 z.2 i) (s:=(_,_)) (λi z=>z.1.length≤i∧(∀y∈z.1,LQ y)∧Bg (8+i) z.2) ⟨bz _,(λy hy=>nomatch hy),MA ω⟩ ω (λn' i z hi hz eQ=> ?_) (λn' z hz=> ?_)
  all_goals unfold cm.mw cm.lz
  ·obtain⟨zi,Fu,hz3⟩:=hz
   have hx:all.getD i c8∈all:=by rw[aV,bm hi];exact dJ hi
   have hy:=iv _ hx
   rw[aw (x:=(i:Int)+1) ω ω,af i,aI]
   exact ax (λ_=>aB ⟨ω,ω⟩ (aB hy.2 (ok_eq (λ_=>aB ⟨ω,ω⟩ (aD (by rw[List.length_singleton];omega) (aB ⟨ω,ω⟩ (ag (bD N ω hy.1.2.1) λu hu=>ag (BW N ω ω hu) λu hu=>ag (lW N ω ω hz3 (Bg.mono hu ω)) λv hv=>eQ (_,_) ⟨by dsimp only;rw[List.length_append,List.length_singleton];omega,λy h=>(List.mem_append.1 h).elim (Fu y) (λh=>by rw[List.mem_singleton.1 h];exact hy.1),Bg.mono hv ω⟩)))) λ_=>eQ z ⟨ω,Fu,Bg.mono hz3 ω⟩))) λ_=>ω
  ·obtain⟨zi,Fu,hz3⟩:=hz
   refine ax (λ_=>ω) λ_=>ag (WD N ω (Bg.mono hz3 ω) hc.2.2.2.2.2.1) λw hw=> ?_
   obtain⟨p,hp⟩: ∃p:Nat,w=(p:Int):=⟨w.toNat,ω⟩
   subst hp
   refine br (len:=p) (F:=λKZ j (t:Int×bI)=>cm.JR N (cm.l8 N n) KZ t.1 c all t.2 (k:Int) z.1 (p:Int) j) (s:=s) (λj t=>aF t.1∧t.2.length≤3*k+j∧ ∀x∈t.2,G m jW x) hI ω (λKZ j t hj ht ZJ=> ?_) (λKZ t ht=> ?_)
   all_goals unfold cm.JR cm.PU
   ·obtain⟨wL,TD,ht3⟩:=ht
    refine ax (λ_=> ?_) λ_=>ω
    refine br (len:=z.1.length) (F:=λn3 i u=>cm.Nl N (cm.l8 N n) (cm.JR N (cm.l8 N n) KZ) n3 t.1 c all t.2 (k:Int) z.1 (p:Int) (j:Int) (t.1,(cc,((0:Int),((1:Int),c8)))) u i) (λi u=>L2 i u) G.nil ω (λn3 i u hi hu UG=> ?_) (λn3 u hu=> ?_)
    all_goals unfold cm.Nl cm.PN
    ·have Jb:=hu.1
     have hq:=aiH Fu i
     have oG:=hq
     unfold LQ aF qQ at oG
     have aqc: ∀q:Int,0≤q→q<9223372036854775808→Ok (λr=>LL m r.1∧r.1.length≤12) (cm.WH N (cm.l8 N n) (cm.JR N (cm.l8 N n) KZ) (cm.Nl N (cm.l8 N n) (cm.JR N (cm.l8 N n) KZ) n3) t.1 c all t.2 (k:Int) z.1 (p:Int) (j:Int) (t.1,(cc,((0:Int),((1:Int),c8)))) u (i:Int) q):=λq h0 h1=>by
      unfold cm.WH cm.PV
      obtain⟨e1,e2⟩:=Z2 (k:=p) h0 h1 ω ω
      have aqd: ∀v:List Int,v.length=p→KJ v→Ok (λr=>LL m r.1∧r.1.length≤12) (cm.j32 N (cm.l8 N n) (cm.JR N (cm.l8 N n) KZ) (cm.Nl N (cm.l8 N n) (cm.JR N (cm.l8 N n) KZ) n3) t.1 c all t.2 (k:Int) z.1 (p:Int) (j:Int) (t.1,(cc,((0:Int),((1:Int),c8)))) u (i:Int) v):=λv RQ hv2=>by
       unfold cm.j32 cm.ak9
       rw[aw (x:=(i:Int)+1) ω ω,af i]
       have hx:G 0 kN ((z.1.getD (i:Int).toNat c8).1,(v.getD (j:Int).toNat 0,())):=G2 (aiH Fu _).1 (uD hv2 _)
       exact aB ⟨ω,ω⟩ (bG (λ_=>aB ⟨ω,ω⟩ (aB ⟨ω,ω⟩ (aD (by rw[aJ];omega) (UG _ (G.cat hu (G.one hx (aH 1))))))) λ_=>UG u (G.mono ω hu))
      refine bK (Zu N hN h1) (aB ⟨ω,ω⟩ (ax (λ_=>aB ⟨ω,ω⟩ (aB ⟨ω,ω⟩ (aqd _ (by rw[bP];exact e1) λy hy=> ?_))) λ_=>aqd _ e1 e2))
      rcases uc hy with hy|rfl
      ·exact e2 y hy
      ·exact gB _
     rw[aI]
     refine ax (λ_=>aB ⟨ω,ω⟩ (ax (λeT=> ?_) λTK=> ?_)) λ_=>ω
     ·have g: ∀x:Int,-9223372036854775808≤x∧x≠ -9223372036854775808→x<0→0≤W .i64 (0-x)∧W .i64 (0-x)<9223372036854775808:=λx h1 h2=>by rw[aw ω ω];omega
      have gx:=g _ ⟨oG.2.1.1,oG.2.2⟩ eT
      exact aqc _ gx.1 gx.2
     ·exact aqc _ TK oG.2.1.2
    ·have Jb:=hu.1
     rw[aw (x:=(j:Int)+1) ω ω,af j]
     have hum:L2 m u:=G.mono ω hu
     refine ax (λ_=>ω) λ_=>ok_eq (λ_=>ZJ t ⟨wL,ω,ht3⟩) λ_=> ?_
     unfold Z3
     refine ag (Q:=λr=>Bg 60000 r.1) (ag (De N ω ω hc hum _) λr hr=>aq hr) λa ha=>ag (rA N ω ω ha) λd hd=>ag (xT N hd) λv hv=>bF (λ_=>aq ⟨G.nil,Nat.zero_le _⟩) λ_=>aD (by rw[List.length_singleton];omega) (ZJ (_,_) ⟨gB _,by dsimp only;rw[List.length_append,List.length_singleton];omega,λx hx=> ?_⟩)
     rcases bk.1 hx with hx|hx
     ·exact ht3 x hx
     ·rw[cn.1 hx];exact⟨wL,hum,hv,(show aF 1 from bu),bU,bU,trivial⟩
   ·rw[aw (x:=(k:Int)+1) ω ω,af k]
    exact ax (λ_=>ω) λ_=>hr t ⟨ht.1,by have:=ht.2.1;omega,ht.2.2⟩
 ·exact ax (λ_=>ω) λ_=>aq ⟨⟨by have:=hI.2.1;dsimp only;omega,hI.2.2⟩,by have:=hI.2.1;dsimp only;omega⟩
theorem adn(hN:5000000≤N){c:ae}{b:an}{m:Nat}(h2:200≤m)(hm:m≤40000)(hc:G m aA c)(hb:G m aK b){next:Int}(hn:aF next):Ok (λr=>LL m r.1) (cm N c b next):=Mz (UF N hN h2 hm hc hb hn) λ_ h=>h.1
theorem uR(hN:200000≤N){l:aE}(hl:l.length≤100000):Ok (λ_=>True) (p8 N l):=by
 unfold p8 p8.b
 refine mY (len:=l.length) (F:=λn i=>p8.l2 N n l i) ω (λn i hi hr=> ?_) (λn=> ?_)
 all_goals unfold p8.l2 p8.fM
 ·rw[aw (x:=(i:Int)+1) ω ω,af i]
  dsimp only
  repeat' first|exact hr|exact fN|refine aB ⟨ω,ω⟩ ?_|refine aB (by rw[aw (x:=(i:Int)-1) ω ω];omega) ?_|refine ax (λ_=> ?_) (λ_=> ?_)|refine eO (λ_=> ?_) (λ_=> ?_)|refine ok_eq (λ_=> ?_) (λ_=> ?_)|(exfalso;omega)
 ·exact ax (λ_=>ω) λ_=>fN
theorem WI(hN:200000≤N){l:List Int}(hl:l.length≤100000):Ok (λ_=>True) (sG N l):=by
 unfold sG sG.b
 refine mY (len:=l.length) (F:=λn i=>sG.l2 N n l i) ω (λn i hi hr=> ?_) (λn=> ?_)
 all_goals unfold sG.l2 sG.fM
 ·rw[aw (x:=(i:Int)+1) ω ω,af i]
  dsimp only
  repeat' first|exact hr|exact fN|refine aB ⟨ω,ω⟩ ?_|refine aB (by rw[aw (x:=(i:Int)-1) ω ω];omega) ?_|refine ax (λ_=> ?_) (λ_=> ?_)|refine eO (λ_=> ?_) (λ_=> ?_)|refine ok_eq (λ_=> ?_) (λ_=> ?_)|(exfalso;omega)
 ·exact ax (λ_=>ω) λ_=>fN
theorem Z4(hN:200000≤N)(a:Int){L:bI}{l:aO}{m:Nat}(hm:m≤50000)(hL:LL m L)(hl:G m (.slice fc) l):Ok aF (ke N a L l):=by
 have h1:=hL.1
 have h2:=hl.1
 have i3:aF 3:=bu
 have i2:aF 2:=bu
 unfold ke ke.b
 refine br (len:=l.length) (F:=λn i v=>ke.l3 N n a L l v i) (λ_ v=>aF v) (show aF 1 from bu) ω (λn i v hi hv hr=> ?_) (λn v hv=> ?_)
 all_goals unfold ke.l3 ke.nr
 ·rw[aw (x:=(i:Int)+1) ω ω,af i]
  exact ax (λ_=>aB ⟨ω,ω⟩ (bG (λ_=>hr v hv) λ_=>aB ⟨ω,ω⟩ (ag (Ig N hN hm hL _) λ_ _=>pd (λ_=>aB ⟨ω,ω⟩ (eO (λ_=>hr _ (BY hv i3)) λ_=>hr _ (BY hv i2))) λ_=>hr _ (BY hv i2)))) λ_=>ω
 ·refine ax (λ_=>ω) λ_=>br (len:=L.length) (F:=λn i v=>ke.oH N n a L v i) (λ_ v=>aF v) hv ω (λn i v hi hv hr=> ?_) (λn v hv=> ?_)
  all_goals unfold ke.oH ke.nD
  ·rw[aw (x:=(i:Int)+1) ω ω,af i]
   exact ax (λ_=>aB ⟨ω,ω⟩ (ok_eq (λ_=>aB ⟨ω,ω⟩ (ok_eq (λ_=>hr 4 bu) λ_=>hr v hv)) λ_=>hr v hv)) λ_=>ω
  ·exact ax (λ_=>ω) λ_=>aq hv
theorem PW(hN:200000≤N)(c:ae){d:aE}{u:List Int}{L:bI}{l:aO}{m:Nat}(h2:200≤m)(hm:m≤50000)(hd:L2 m d)(hu:u.length≤m)(hL:LL m L)(hl:G m (.slice fc) l):Ok (λr=>L2 m r.1) (dO N c d u L l):=by
 have h3:=hd.1
 have h4:=hL.1
 have h5:=hl.1
 have hw:KD L:=λy hy=>ct (hL.2 y hy).2.1.1 ω
 unfold dO dO.b
 refine ag (uR N hN ω) λ_ _=>bF (λ_=>aq G.nil) λ_=>ag (WI N hN ω) λ_ _=>bF (λ_=>aq G.nil) λ_=>bK (BM N hN c ω hw) (bF (λ_=>aq G.nil) λ_=>bK (uM N ω hN) (bF (λ_=>aq G.nil) λ_=>ji (len:=13) (F:=λn i s=>dO.l5 N n d u L l s i) (λi s=>L2 i s) (λn i s hi hI hr=> ?_) (λn s hI=> ?_) 13 N 1 [] ω ω ω G.nil))
 all_goals unfold dO.l5 dO.eo
 ·have hs:=hI.1
  refine eO (λ_=> ?_) λ_=>ω
  refine br (len:=d.length) (F:=λn' j (z:Int×Bool)=>dO.l9 N (dO.l5 N n) n' d u L l s (i:Int) z.1 z.2 j) (s:=(_,_)) (λ_ z=>aF z.1) bU ω (λn' j z hj hz eQ=> ?_) (λn' z hz=> ?_)
  all_goals unfold dO.l9 dO.vz
  ·rw[aw (x:=(j:Int)+1) ω ω,af j]
   exact ax (λ_=>aB ⟨ω,ω⟩ (ok_eq (λ_=>aB ⟨ω,ω⟩ (eQ (_,_) (G.at hd _).2.1)) λ_=>eQ z hz)) λ_=>ω
  ·refine ax (λ_=>ω) λ_=>br (len:=u.length) (F:=λn' j f=>dO.KN N (dO.l5 N n) n' d u L l s (i:Int) z.1 f j) (λ_ _=>True) trivial ω (λn' j f hj _ eQ=> ?_) (λn' f _=> ?_)
   all_goals unfold dO.KN dO.HQ
   ·rw[aw (x:=(j:Int)+1) ω ω,af j]
    exact ax (λ_=>pd (λ_=>eQ _ trivial) λ_=>aB ⟨ω,ω⟩ (eQ _ trivial)) λ_=>ω
   ·refine ax (λ_=>ω) λ_=>br (len:=l.length) (F:=λn' j f=>dO.Ja N (dO.l5 N n) n' d u L l s (i:Int) z.1 f j) (λ_ _=>True) trivial ω (λn' j f hj _ eQ=> ?_) (λn' f _=> ?_)
    all_goals unfold dO.Ja dO.E6
    ·rw[aw (x:=(j:Int)+1) ω ω,af j]
     exact ax (λ_=>pd (λ_=>eQ _ trivial) λ_=>aB ⟨ω,ω⟩ (eQ _ trivial)) λ_=>ω
    ·rw[aw (x:=(i:Int)+1) ω ω,af i]
     dsimp only
     exact ax (λ_=>ω) λ_=>pd (λ_=>ag (Z4 N hN _ hm hL hl) λv hv=>aD (by rw[aJ];omega) (hr _ (G.cat hI (G.one (m:=1) (G2 (jE ω ω) (BY hz hv)) (aH 1))))) λ_=>hr s (G.mono ω hI)
 ·exact eO (λ_=>ω) λ_=>aq (G.mono ω hI)
theorem Z5(hN:200000≤N){l:aE}(hl:l.length≤100000)(a:Int):Ok (λ_=>True) (sH N l a):=by
 unfold sH sH.b
 refine ag (uR N hN hl) λ_ _=>bF (λ_=>fN) λ_=>mY (len:=l.length) (F:=λn i=>sH.l4 N n l a i) ω (λn i hi hr=> ?_) (λn=> ?_)
 all_goals unfold sH.l4 sH.dQ
 ·rw[aw (x:=(i:Int)+1) ω ω,af i]
  exact ax (λ_=>aB ⟨ω,ω⟩ (ok_eq (λ_=>aB ⟨ω,ω⟩ fN) λ_=>hr)) λ_=>ω
 ·exact ax (λ_=>ω) λ_=>fN
theorem MG(a:Int):Ok (λ_=>True) (Z6 N a):=by
 unfold Z6
 exact ok_eq (λ_=>fN) λ_=>fN
theorem Ih(hN:5000000≤N)(c:ae){b:an}{d:aE}{m:Nat}(hm:m≤50000)(hb:G m aK b)(hd:L2 m d)(a k:Int):Ok (λr=>G m (.slice (.int .i64)) r.1) (sI N c b d a k):=by
 have hl:=hb.1.1
 have h2:=hd.1
 unfold sI sI.b
 refine bK (ed N hN hm hb) (bF (λ_=>aq G.nil) λ_=>ag (uR N ω ω) λ_ _=>bF (λ_=>aq G.nil) λ_=>br (len:=b.1.length) (F:=λn i s=>sI.l5 N n d a k b s i) (λi s=>G i (.slice (.int .i64)) s) G.nil ω (λn i s hi hI hr=> ?_) (λn s hI=> ?_))
 all_goals unfold sI.l5 sI.eo
 ·have hs:=hI.1
  rw[aw (x:=(i:Int)+1) ω ω,af i]
  have h1:=hr s (G.mono ω hI)
  have hx:G 0 (.int .i64) (b.1.getD (i:Int).toNat c8).1:=(G.at hb.1 _).1
  exact ax (λ_=>aB ⟨ω,ω⟩ (ag (MG N _) λ_ _=>pd (λ_=>bG (λ_=>ag (ni N ω hm hb.2.2.1 _ _) λ_ _=>ax (λ_=>ag (Z5 N ω ω _) λ_ _=>ok_eq (λ_=>aD (by rw[aJ];omega) (hr _ (G.cat hI (G.one hx (aH 1))))) λ_=>h1) λ_=>h1) λ_=>h1) λ_=>h1)) λ_=>ω
 ·exact ax (λ_=>ω) λ_=>aq (G.mono hl hI)
theorem BZ(hN:200000≤N){a:aO}{m:Nat}(hm:m≤50000)(h:G m (.slice fc) a)(id:Int):Ok aF (m8 N a id):=by
 refine ou (ru N (ct h.1 ω) hN id) ?_
 unfold oc
 split
 ·have: ∀l:aO,(∀x∈l,G m fc x)→aF (ob id l):=by
   intro l
   induction l with
   |nil=>intro _;exact bU
   |cons x t ih=>
    intro hx
    have hi:=ih λy hy=>hx y (aZ _ hy)
    rw[tz]
    split
    ·split
     ·exact(hx x (bs ..)).1
     ·exact hi
    ·exact hi
  exact this a h.2
 ·exact bU
abbrev L5(m:Nat)(l:bf):Prop:=G m (.slice p9) l
theorem G5{m:Nat}{a b c d e:Int}(ha:aF a)(hb:aF b)(hc:aF c)(hd:aF d)(he:aF e):G m p9 (a,(b,(c,(d,(e,()))))):=⟨ha,hb,hc,hd,he,trivial⟩
theorem MH(hN:200000≤N){l:bf}{b:an}{m k:Nat}(hm:m≤50000)(hb:G m aK b)(hk:k≤1000000)(hl:L5 k l){a d n:Int}(ha:aF a)(hd:aF d)(hn:aF n):Ok (λr=>L5 (k+1) r) (MI N l b a d n):=by
 have h1:=hl.1
 unfold MI
 exact ag (ni N hN hm hb.2.2.1 _ _) λx hx=>ax (λ_=>aD (by rw[aJ];omega) (aq (G.cat hl (G.one (m:=1) (G5 ha hd hn hx bU) (aH 1))))) λ_=>aq (G.mono ω hl)
theorem PX(hN:5000000≤N){c:ae}{b:an}{d g:aE}{a:Int}{m:Nat}(hm:m≤50000)(hc:G m aA c)(hb:G m aK b)(hd:L2 m d)(hg:L2 m g)(ha:aF a):Ok (λr=>L5 1000000 r.1) (c3 N c b a d g):=by
 have h1:=hb.1.1
 have h2:=hd.1
 have h3:=hg.1
 have h4:=hb.2.1.1
 have hj: ∀l:bf,L5 1 l→Ok (λr=>L5 1000000 r.1) (c3.j9 N a d g c b l):=λl hl=>by
  unfold c3.j9 c3.JA
  refine ag (MH N ω hm hb ω hl bu bu ha) λl hl=>ag (MH N ω hm hb ω hl bu bu bU) λl hl=>ji (len:=5) (F:=λn k s=>c3.oH N n a d g c b s k) (λk s=>L5 (3+m*k) s) (λn k s hk hs hr=> ?_) (λn s hs=> ?_) 5 N 1 l ω ω ω (G.mono ω hl)
  all_goals unfold c3.oH c3.nD
  ·have hmk:m*k≤m*4:=mQ m ω
   refine eO (λ_=>ag (Ih N hN c hm hb hd _ _) λt ht=> ?_) λ_=>ω
   have htl:=ht.1
   refine br (len:=t.1.length) (F:=λn' j u=>c3.xH N (c3.oH N n) n' a d g c b u (k:Int) t.1 j) (λj u=>L5 (3+m*k+j) u) hs ω (λn' j u hj hu eQ=> ?_) (λn' u hu=> ?_)
   all_goals unfold c3.xH c3.wE
   ·rw[aw (x:=(j:Int)+1) ω ω,af j]
    exact ax (λ_=>aB ⟨ω,ω⟩ (ag (MH N ω hm hb ω hu (gB _) bu (G.at ht _)) λv hv=>eQ v hv)) λ_=>ω
   ·rw[aw (x:=(k:Int)+1) ω ω,af k]
    exact ax (λ_=>ω) λ_=>hr u (G.mono (by rw[rM];omega) hu)
  ·refine eO (λ_=>ω) λ_=>br (len:=b.1.length) (F:=λn j u=>c3.JR N n a g c b u j) (λj u=>L5 (3+m*5+j) u) hs ω (λn j u hj hu hr=> ?_) (λn u hu=> ?_)
   all_goals unfold c3.JR c3.PU
   ·have Jb:=hu.1
    have hx:aF (b.1.getD (j:Int).toNat c8).1:=(G.at hb.1 _).1
    rw[aw (x:=(j:Int)+1) ω ω,af j]
    have h0:=hr u (G.mono ω hu)
    exact ax (λ_=>aB ⟨ω,ω⟩ (ag (MG N _) λ_ _=>bF (λ_=>h0) λ_=>ok_eq (λ_=>h0) λ_=>ag (bD N ω hc.2.2.1) λp hp=>ag (ni N ω hm hb.2.2.1 _ _) λq hq=>ag (bD N ω hq) λq hq=>ag (mL N ω ω ω hp hq) λy hy=>ag (xT N hy) λv hv=>bF (λ_=>aq G.nil) λ_=>ax (λ_=>aD (by rw[aJ];omega) (hr _ (G.mono ω (G.cat hu (G.one (m:=1) (G5 (show aF 8 from bu) (show aF 7 from bu) hx hv bU) (aH 1)))))) λ_=>h0)) λ_=>ω
   ·refine ax (λ_=>ω) λ_=>br (len:=g.length) (F:=λn j u=>c3.O4 N n a g b u j) (λj u=>L5 (3+m*5+m+j) u) (G.mono ω hu) ω (λn j u hj hu hr=> ?_) (λn u hu=> ?_)
    all_goals unfold c3.O4 c3.Mj
    ·have Jb:=hu.1
     rw[aw (x:=(j:Int)+1) ω ω,af j]
     have h0:=hr u (G.mono ω hu)
     dsimp only
     exact ax (λ_=>aB ⟨ω,ω⟩ (ag (yO N ω hm hb.2.1 _) λx hx=>aB ⟨ω,ω⟩ (aB ⟨ω,ω⟩ (ag (ni N ω hm hb.2.2.1 _ _) λq hq=>pd (λ_=>bG (λ_=>ax (λ_=>aD (by rw[aJ];omega) (hr _ (G.mono ω (G.cat hu (G.one (m:=1) (G5 (show aF 9 from bu) (show aF 5 from bu) hx.1 (ZO (G.at hg _).2.1 hq) bU) (aH 1)))))) λ_=>h0) λ_=>h0) λ_=>h0)))) λ_=>ω
    ·exact ax (λ_=>ω) λ_=>aq (G.mono ω hu)
 unfold c3 c3.b
 exact bK (ed N hN hm hb) (bF (λ_=>aq G.nil) λ_=>ag (uR N ω ω) λ_ _=>bF (λ_=>aq G.nil) λ_=>ag (Dc N ω ω) λ_ _=>bF (λ_=>aq G.nil) λ_=>ag (pe N ω hm hb.1 _) λ_ _=>ok_eq (λ_=>aq G.nil) λ_=>ag (BZ N ω hm hb.2.1 _) λh hh=>bG (λ_=>ag (MH N ω hm hb ω (G.nil (m:=0)) bu bu hh) λl hl=>hj l hl) λ_=>hj [] G.nil)
theorem K6(hN:5000000≤N)(c:ae){b:an}{m:Nat}(hm:m≤50000)(hb:G m aK b):Ok (λr=>aF r.1) (ado N c b):=by
 unfold ado
 exact bK (ed N hN hm hb) (bF (λ_=>aq bU) λ_=>ag (ni N ω hm hb.2.2.1 _ _) λx hx=>ok_eq (λ_=>aq bU) λ_=>aq (BY (gB _) bU))
theorem Ii(hN:5000000≤N)(c:ae){b:an}{m:Nat}(hm:m≤50000)(hb:G m aK b):Ok (λr=>aF r.1) (adp N c b):=by
 unfold adp
 exact bK (ed N hN hm hb) (bF (λ_=>aq bU) λ_=>ag (ni N ω hm hb.2.2.1 _ _) λx hx=>aq (BY hx bU))
theorem ala(a b:Int):Ok (λ_=>True) (F97 N a b):=by
 unfold F97
 repeat' first|exact fN|refine ok_eq (λ_=> ?_) (λ_=> ?_)|refine eO (λ_=> ?_) (λ_=> ?_)
theorem WJ(hN:200000≤N)(l:bf):Ok (λr=>r=true→l.length≤64) (sJ N l):=by
 have hf:Ok (λr=>r=true→l.length≤64) (some false):=aq λh=>nomatch h
 unfold sJ sJ.b
 refine ax (λ_=>hf) λhl=>mY (len:=l.length) (F:=λn i=>sJ.l4 N n l i) ω (λn i hi hr=> ?_) (λn=> ?_)
 all_goals unfold sJ.l4 sJ.dQ
 ·rw[aw (x:=(i:Int)+1) ω ω,af i]
  dsimp only
  repeat' first|exact hr|exact hf|refine aB ⟨ω,ω⟩ ?_|refine aB (by rw[aw (x:=(i:Int)-1) ω ω];omega) ?_|refine ax (λ_=> ?_) (λ_=> ?_)|refine eO (λ_=> ?_) (λ_=> ?_)|refine ok_eq (λ_=> ?_) (λ_=> ?_)|(exfalso;omega)|refine ag (ala N _ _) λ_ _=> ?_|refine bF (λ_=> ?_) (λ_=> ?_)
 ·exact ax (λ_=>ω) λ_=>aq λ_=>ω
theorem UH{σ β:Type}{P:β→Prop}{F:Nat→Int→σ→Option β}{len:Nat}(I:σ→Prop)
  (hs: ∀n i s,i<len→I s→(∀j s',i<j→j≤len→I s'→Ok P (F n (j:Int) s'))→Ok P (F (n+1) (i:Int) s)) (he: ∀n s,I s→Ok P (F (n+1) (len:Int) s)):
  ∀m n i s,len-i≤m→m<n→i≤len→I s→Ok P (F n (i:Int) s)
 |m,0,i,s,_,hn,_,_=>ω
 |m,n+1,i,s,hm,hn,hi,hI=>by
  by_cases h:i<len
  ·exact hs n i s h hI λj s' hj Xn zj=>UH I hs he (m-1) n j s' ω ω Xn zj
  ·have:i=len:=ω
   subst this
   exact he n s hI
theorem G5q{m:Nat}{x:ir}{q:Int}(h:G m p9 x)(hq:aF q):G m p9 (x.1,(x.2.1,(x.2.2.1,(x.2.2.2.1,(q,x.2.2.2.2.2))))):=⟨h.1,h.2.1,h.2.2.1,h.2.2.2.1,hq,trivial⟩
theorem aqe: ∀{w:List Int},Pos w→0≤w.sum
 |[],_=>fW _
 |x::t,h=>by
  rw[cE]
  have:=h x (bs ..)
  have:=aqe (w:=t) λy hy=>h y (aZ _ hy)
  omega
theorem WK{t:Int}{w:List Int}(h1:t<9223372036854775808)(h:(sv t w).2=0):(sv t w).1.length=w.length∧KJ (sv t w).1:=by
 unfold sv at h ⊢
 split at h
 ·exact absurd h δ
 ·split at h
  ·exact absurd h δ
  ·rename_i h2 h3
   split at h
   ·split at h
    ·rename_i h4 h5
     rw[ah h2,ah h3,aj h4,aj h5]
     exact⟨c4 ..,λx hx=>by rw[An hx];decide⟩
    ·exact absurd h δ
   ·rename_i h4
    rw[ah h2,ah h3,ah h4]
    have hm:may w=true:=by
     by_cases hm:may w=true
     ·exact hm
     ·exact absurd (Or.inr (wV.2 hm)) h2
    have hp:=(pz.1 hm).2
    have h0:0≤t:=ω
    have hS:0<w.sum:=by have:=aqe hp;omega
    exact⟨pa t w,aiG (vP h0 hS hp) (by rw[vO h0 hS];exact h1)⟩
theorem adq{α:Type}{Q:α→Prop}{l:List α}{x:α}{k:Nat}(h: ∀y∈l,Q y)(hx:Q x): ∀y∈l.set k x,Q y:=λy hy=>by
 rcases uc hy with hy|rfl
 ·exact h y hy
 ·exact hx
theorem UI{α:Type}{Q:α→Prop}{l:List α}{d:α}{k:Nat}(h: ∀y∈l,Q y)(hk:k<l.length):Q (l.getD k d):=by
 rw[aV,bm hk];exact h _ (dJ hk)
theorem K7(hN:5000000≤N){l:bf}{q:Int}{Q:ir→Prop}(hQ: ∀x,Q x→aF x.2.2.2.1)(hU: ∀(x:ir) (v:Int),Q x→aF v→Q (x.1,(x.2.1,(x.2.2.1,(x.2.2.2.1,(v,x.2.2.2.2.2))))))(hl: ∀x∈l,Q x)(hq:aF q):Ok (λr=>(r.1.length≤64∧ ∀x∈r.1,Q x)∧aF r.2.1) (dX N l q):=by
 have eg: ∀e:Int,Ok (λr:bf×Int×Int=>(r.1.length≤64∧ ∀x∈r.1,Q x)∧aF r.2.1) (some ([],((0:Int),e))):=λe=>aq ⟨⟨bz _,λx hx=>nomatch hx⟩,bU⟩
 unfold dX dX.b
 refine ag (WJ N ω l) λz hz=>bF (λ_=>eg _) λht=>ax (λ_=>eg _) λ_=> ?_
 have nJ:=hz ht
 rw[cN]
 refine aD (by rw[cr];omega) (UH (len:=l.length) (F:=λn i (s:bf×Int)=>dX.l5 N n s.1 s.2 i) (λs=>s.1.length=l.length∧(∀x∈s.1,Q x)∧aF s.2) (λn i s hi hI hr=> ?_) (λn s hI=> ?_) l.length N 0 (l,q) ω ω ω ⟨rfl,hl,hq⟩)
 all_goals unfold dX.l5 dX.eo
 ·obtain⟨Nh,VL,hs3⟩:=hI
  refine ax (λ_=> ?_) λ_=>ω
  have fin: ∀(k:Nat) (w:List Int),i<k→k≤l.length→w.length=k-i→KJ w→Ok (λr=>(r.1.length≤64∧ ∀x∈r.1,Q x)∧aF r.2.1) (dX.E5 N (dX.l5 N n) s.1 s.2 (i:Int) (k:Int) w):=λk w hk A3 hw HR=>by
   unfold dX.E5 dX.xV
   have Cp:aF (mn (CG w.sum).1 s.2):=ZO (ZI _) hs3
   refine bK (zM N ω HR ω) (bK (tX N _) (bF (λ_=>eg _) λ_=>bK (C6 N hN Cp.2 HR ω) (bG (λ_=>eg _) λh0=> ?_)))
   obtain⟨e1,e2⟩:=WK Cp.2 h0
   generalize (sv (mn (CG w.sum).1 s.2) w).1=v at*
   refine ji (len:=k) (F:=λn' j (z:bf×Int)=>dX.Ja N (dX.l5 N n) n' z.1 z.2 (i:Int) (k:Int) v j) (λj z=>i≤j∧z.1.length=l.length∧(∀x∈z.1,Q x)∧aF z.2) (λn' j z hj hz eQ=> ?_) (λn' z hz=> ?_) k N i s ω ω ω ⟨aH i,Nh,VL,hs3⟩
   all_goals unfold dX.Ja dX.E6
   ·obtain⟨qh,zi,Fu,hz3⟩:=hz
    dsimp only
    rw[aw (x:=(j:Int)+1) ω ω,af j,aw (x:=(j:Int)-i) ω ω]
    exact ax (λ_=>aB ⟨ω,ω⟩ (aB ⟨ω,ω⟩ (aB ⟨ω,ω⟩ (eQ (_,_) ⟨ω,by dsimp only;rw[List.length_set];exact zi,adq Fu (hU _ _ (UI Fu ω) (uD e2 _)),gB _⟩)))) λ_=>ω
   ·exact ax (λ_=>ω) λ_=>hr k z hk A3 hz.2
  refine ji (len:=l.length) (F:=λn' k w=>dX.l8 N (dX.l5 N n) n' s.1 s.2 (i:Int) k w) (λk w=>i≤k∧w.length=k-i∧KJ w) (λn' k w hk hw eQ=> ?_) (λn' w hw=> ?_) l.length N i [] ω ω ω ⟨aH i,by rw[cr];omega,λx hx=>nomatch hx⟩
  all_goals unfold dX.l8 dX.D4
  ·obtain⟨hik,hwl,HR⟩:=hw
   rw[aw (x:=(k:Int)+1) ω ω,af k]
   refine ax (λ_=>aB ⟨ω,ω⟩ (aB ⟨ω,ω⟩ (ok_eq (λ_=>aB ⟨ω,ω⟩ (aD (by rw[aJ];omega) (eQ _ ⟨ω,by rw[aS,aJ];omega,λx hx=> ?_⟩))) λko=> ?_))) λ_=>ω
   ·rcases bk.1 hx with hx|hx
    ·exact HR x hx
    ·rw[cn.1 hx];exact hQ _ (UI VL ω)
   ·refine fin k w ?_ ω hwl HR
    by_cases e:k=i
    ·subst e;exact absurd rfl ko
    ·omega
  ·exact ax (λ_=>ω) λ_=>fin l.length w hi (aH _) hw.2.1 hw.2.2
 ·exact ax (λ_=>ω) λ_=>aq ⟨⟨by have:=hI.1;dsimp only;omega,hI.2.1⟩,hI.2.2⟩
theorem SP(hN:5000000≤N){l:bf}{q:Int}{m:Nat}(hl:L5 m l)(hq:aF q):Ok (λr=>L5 64 r.1∧aF r.2.1) (dX N l q):=
 K7 N hN (Q:=G 64 p9) (λx hx=>hx.2.2.2.1) (λx v hx hv=>G5q hx hv) (λx hx=>G.mono (m:=0) (bz _) (hl.2 x hx)) hq
abbrev R0:ei:=((0:Int),((0:Int),(([]:bf),((0:Int),()))))
theorem K8(hN:5000000≤N){c:ae}{b:an}{d g:aE}{a:Int}{m:Nat}(h2:200≤m)(hm:m≤40000)(hc:G m aA c)(hb:G m aK b)(hd:L2 m d)(hg:L2 m g)(ha:aF a):Ok (λr=>G m aK r.1∧G m iq r.2.1) (iY N c b a d g):=by
 have eg: ∀e:Int,Ok (λr:an×ei×Int=>G m aK r.1∧G m iq r.2.1) (some ((cc,(cT,(bq,(bq,(db,(dq,())))))),(R0,e))):=λe=>aq ⟨G.jF,G.zero m iq⟩
 unfold iY iY.b
 refine ag (PX N hN ω hc hb hd hg ha) λl hl=>ok_eq (λ_=>eg _) λ_=>ok_eq (λ_=>eg _) λ_=>ag (K6 N hN c ω hb) λq hq=>bG (λ_=>eg _) λ_=>bG (λ_=>eg _) λ_=>ag (SP N hN hl hq) λz ⟨zi,Fu⟩=>bG (λ_=>eg _) λ_=> ?_
 have hzl:=zi.1
 have hj: ∀(p:bO) (r:ei) (t:bf) (x k n:Int),kP 1000 p→G m iq r→L5 64 t→aF x→Ok (λr=>G m aK r.1∧G m iq r.2.1) (iY.j26 N b (cc,(cT,(bq,(bq,(db,(dq,())))))) R0 p r t x k n):=λp r t x k n hp hr ht hx=>by
  have Cw:=hp.1
  unfold iY.j26 iY.ads
  exact ag (bD N ω hx) λv hv=>ag (tL N ω _ _ _ _ (Bg.mono hv ω)) λu hu=>aD (by have:=hu.1;omega) (ag (tK N ω h2 ω hb G.nil (kP.mono (kP.app hp hu) ω)) λw hw=>bG (λ_=>eg _) λ_=>aq ⟨hw,hr.1,hr.2.1,G.mono ω ht,hr.2.2.2⟩)
 refine br (len:=z.1.length) (F:=λn i (s:bO×ei×bf)=>iY.Kx N n a c b (cc,(cT,(bq,(bq,(db,(dq,())))))) R0 z.1 z.2.1 s.1 s.2.1 s.2.2 i) (s:=(_,(_,_))) (λi s=>kP (2*i) s.1∧G m iq s.2.1∧L5 i s.2.2) ⟨kP.nil,⟨ha,hq,G.nil,Fu,trivial⟩,G.nil⟩ ω (λn i s hi hI hr=> ?_) (λn s hI=> ?_)
 all_goals unfold iY.Kx iY.JJ
 ·obtain⟨h4,h5,h6⟩:=hI
  have hp:=h4.1
  have ht:=h6.1
  have hx:G 0 p9 (z.1.getD (i:Int).toNat eG):=G.at zi _
  rw[aw (x:=(i:Int)+1) ω ω,af i]
  exact ax (λ_=>aB ⟨ω,ω⟩ (ax (λ_=>aB ⟨ω,ω⟩ (aD (by rw[aJ];omega) (aB ⟨ω,ω⟩ (aB ⟨ω,ω⟩ (aB ⟨ω,ω⟩ (ag (bD N ω hx.2.2.2.2.1) λv hv=>ag (tL N ω _ _ _ _ (Bg.mono hv ω)) λu hu=>aD (by have:=hu.1;omega) (hr (_,(_,_)) ⟨kP.mono (kP.app h4 hu) ω,⟨h5.1,h5.2.1,G.nil,h5.2.2.2⟩,G.cat h6 (G.one hx (aH 1))⟩))))))) λ_=>hr s ⟨kP.mono h4 ω,h5,G.mono ω h6⟩)) λ_=>ω
 ·obtain⟨h4,h5,h6⟩:=hI
  have hp:=h4.1
  dsimp only
  exact ax (λ_=>ω) λ_=>ag (bD N ω Fu) λv hv=>ag (tL N ω _ _ _ _ (Bg.mono hv ω)) λu hu=>aD (by have:=hu.1;omega) (ag (Ii N hN c ω hb) λx hx=>ag (BZ N ω ω hb.2.1 _) λh hh=>bG (λ_=>hj _ _ _ _ _ _ (kP.mono (kP.app h4 hu) ω) h5 (G.mono ω h6) hx) λ_=>hj _ _ _ _ _ _ (kP.mono (kP.app h4 hu) ω) h5 (G.mono ω h6) hx)
theorem WL(hN:5000000≤N){t:Int}{w:List Int}(ht:t<9223372036854775808)(hw:KJ w)(hl:w.length≤1000000):Ok (λr=>r.2.2=0→r.1.length=w.length∧KJ r.1) (fk N t w w):=by
 refine ou (HW N hN ht hw hw hl) λh0=> ?_
 have f:=HX ht hw h0
 have c:=f.c
 have hl2:=c.l2
 refine⟨hl2,λx hx=> ?_⟩
 obtain⟨i,hi,e⟩:=gE hx
 have h1:=c.le i ω
 have h2:=(c.pc i).2
 have h3:=c.po i
 rw[aV (l:=(tJ t w w).1),bm hi,nO,e]at h1 h3
 exact⟨ω,ω⟩
theorem adt(hN:5000000≤N)(c:ae){b:an}{m:Nat}(hm:m≤40000)(hb:G m aK b){a:Int}(ha:aF a):Ok (λr=>L3 (m+1) r.1) (gl N c b a):=by
 have w:=(G.wf ω hb).w
 have hl:=hb.2.2.2.1.1
 unfold gl gl.b
 refine bK (ed N hN ω hb) (bF (λ_=>aq G.nil) λ_=>ax (λ_=>aq G.nil) λ_=>eO (λ_=>aq G.nil) λ_=>bK (FF N w.s ω 0 a) (ok_eq (λ_=>aq G.nil) λ_=> ?_))
 have hq:=Zp w.qs 0 a
 generalize gj b.2.2.2.1 0 a=q at*
 refine br (len:=b.2.2.2.1.length) (F:=λn i (s:List Int×List Int)=>gl.zW N n a b q s.1 s.2 i) (s:=(_,_)) (λi s=>s.1.length≤i∧s.2.length=s.1.length∧KJ s.1∧KJ s.2) ⟨bz _,rfl,(λx hx=>nomatch hx),λx hx=>nomatch hx⟩ ω (λn i s hi hI hr=> ?_) (λn s hI=> ?_)
 all_goals unfold gl.zW gl.xK
 ·obtain⟨h1,h2,h3,h4⟩:=hI
  have hx:G 0 jZ (b.2.2.2.1.getD (i:Int).toNat bc):=G.at hb.2.2.2.1 _
  rw[aw (x:=(i:Int)+1) ω ω,af i]
  have h0:=hr s ⟨ω,h2,h3,h4⟩
  have sn: ∀{l:List Int} {x:Int},KJ l→aF x→KJ (l++[x]):=λhl hx y hy=>(bk.1 hy).elim (hl y) λhy=>by rw[cn.1 hy];exact hx
  dsimp only
  exact ax (λ_=>aB ⟨ω,ω⟩ (bG (λ_=>ok_eq (λ_=>pd (λ_=>aD (by rw[List.length_singleton];omega) (aD (by rw[List.length_singleton];omega) (hr (_,_) ⟨by dsimp only;rw[List.length_append,List.length_singleton];omega,by dsimp only;rw[List.length_append,List.length_append,List.length_singleton,List.length_singleton];omega,sn h3 hx.1,sn h4 (BY hx.2.2.1 (gB _))⟩))) λ_=>h0) λ_=>h0) λ_=>h0)) λ_=>ω
 ·obtain⟨h1,h2,h3,h4⟩:=hI
  refine ax (λ_=>ω) λ_=>ag (WL N hN (BY hq (gB _)).2 h4 ω) λz hz=>bG (λ_=>aq G.nil) λh0=> ?_
  obtain⟨e1,e2⟩:=hz h0
  refine br (len:=z.1.length) (F:=λn i u=>gl.WM N n a q s.1 z.1 u i) (λi u=>L3 (1+i) u) (G.one (m:=1) (G3 bU ha (gB _)) (aH 1)) ω (λn i u hi hu hr=> ?_) (λn u hu=> ?_)
  all_goals unfold gl.WM gl.Z7
  ·have Jb:=hu.1
   rw[aw (x:=(i:Int)+1) ω ω,af i]
   have h0:=hr u (G.mono ω hu)
   have put: ∀x:Int,aF x→Ok (λr=>L3 (m+1) r.1) (cond (small (u.length+[((s.1.getD (i:Int).toNat 0,(a,(x,()))):dd)].length)) (gl.WM N n a q s.1 z.1 (u++[(s.1.getD (i:Int).toNat 0,(a,(x,())))]) ((i+1:Nat):Int)) none):=λx hx=>aD (by rw[aJ];omega) (hr _ (G.mono ω (G.cat hu (G.one (m:=1) (G3 (uD h3 _) ha hx) (aH 1)))))
   dsimp only
   exact ax (λ_=>aB ⟨ω,ω⟩ (ax (λ_=>bG (λ_=>aB ⟨ω,ω⟩ (put _ (gB _))) λ_=>h0) λ_=>bG (λ_=>aB ⟨ω,ω⟩ (put _ (uD e2 _))) λ_=>h0)) λ_=>ω
  ·exact ax (λ_=>ω) λ_=>aq (G.mono ω hu)
theorem UJ(hN:5000000≤N){c:ae}{b:an}{m:Nat}(h2:200≤m)(hm:m≤7000)(hc:G 5 aA c)(hb:G m aK b):Ok (λr=>G m aK r.1) (oC N c b):=by
 have Fo:=hc.1.1
 unfold oC oC.b
 refine bK (ed N hN ω hb) (bF (λ_=>aq G.jF) λ_=>br (len:=c.1.length) (F:=λn i s=>oC.l5 N n c b (cc,(cT,(bq,(bq,(db,(dq,())))))) s i) (λi s=>L3 ((m+1)*i) s) G.nil ω (λn i s hi hI hr=> ?_) (λn s hI=> ?_))
 all_goals unfold oC.l5 oC.eo
 ·have hs:=hI.1
  have hmi:(m+1)*i≤(m+1)*5:=mQ _ ω
  rw[aw (x:=(i:Int)+1) ω ω,af i]
  exact ax (λ_=>ag (adt N hN c ω hb (jE ω ω)) λr hrr=>bG (λ_=>aq G.jF) λ_=>aD (by have:=hrr.1;omega) (hr _ (G.mono (by rw[rM];omega) (G.cat hI hrr)))) λ_=>ω
 ·have hmi:(m+1)*c.1.length≤(m+1)*5:=mQ _ ω
  exact ax (λ_=>ω) λ_=>ag (tK N ω h2 ω hb (G.mono ω hI) kP.nil) λr hr=>aq hr
theorem UK(hN:200000≤N){l:aO}{m:Nat}(hm:m≤50000)(h:G m (.slice fc) l)(a:Int):Ok (λr=>G 0 fc r.1) (sK N l a):=by
 have hl:=h.1
 have hz:G 0 fc ba:=G.zero 0 fc
 unfold sK sK.b
 refine bK (uM N ω hN) (bF (λ_=>aq hz) λ_=>br (len:=l.length) (F:=λn i (z:cF×Bool)=>sK.l6 N n l a ba z.1 z.2 i) (s:=(_,_)) (λ_ z=>G 0 fc z.1) hz ω (λn i z hi hI hr=> ?_) (λn z hI=> ?_))
 all_goals unfold sK.l6 sK.vu
 ·rw[aw (x:=(i:Int)+1) ω ω,af i]
  have hx:G 0 fc (l.getD (i:Int).toNat ba):=G.at h _
  have h1:=hr z hI
  have h2:=hr (_,true) hx
  repeat' first|exact h1|exact h2|refine aB ⟨ω,ω⟩ ?_|refine ax (λ_=> ?_) (λ_=> ?_)|refine ok_eq (λ_=> ?_) (λ_=> ?_)|refine bF (λ_=> ?_) (λ_=> ?_)|(exfalso;omega)
 ·exact ax (λ_=>ω) λ_=>aq hI
theorem GL{m:Nat}{a b d e f:Int}{l:aE}(ha:aF a)(hl:L2 m l)(hb:aF b)(hd:aF d)(he:aF e)(hf:aF f):G m jW (a,(l,(b,(d,(e,(f,())))))):=⟨ha,hl,hb,hd,he,hf,trivial⟩
theorem LL.app{m:Nat}{k:Nat}{l:bI}{x:jc}(hl:l.length≤k∧ ∀y∈l,G m jW y)(hx:G m jW x):(l++[x]).length≤k+1∧ ∀y∈l++[x],G m jW y:=
 ⟨by rw[aS,aJ];have:=hl.1;omega,λy hy=>(bk.1 hy).elim (hl.2 y) λhy=>by rw[cn.1 hy];exact hx⟩
theorem PY(hN:5000000≤N)(c:ae){b:an}{L:bI}{l:aO}{m:Nat}(h2:200≤m)(hm:m≤2000)(hb:G m aK b)(hL:LL m L)(hl:G m (.slice fc) l):Ok (λr=>G m aK r.1∧LL m r.2.1) (gu N c b L l):=by
 have eg: ∀e:Int,Ok (λr:an×bI×Int=>G m aK r.1∧LL m r.2.1) (some ((cc,(cT,(bq,(bq,(db,(dq,())))))),([],e))):=λe=>aq ⟨G.jF,G.nil⟩
 have h3:=hL.1
 have h4:=hl.1
 have hw:KD L:=λy hy=>ct (hL.2 y hy).2.1.1 ω
 unfold gu gu.b
 refine bK (ed N hN ω hb) (bF (λ_=>eg _) λ_=>bK (BM N ω c ω hw) (bF (λ_=>eg _) λhk=>bK (uM N ω ω) (bF (λ_=>eg _) λ_=> ?_)))
 have h12:L.length≤12:=by
  unfold CX at hk
  exact bt (da.1 (da.1 hk).2).1
 refine br (len:=L.length) (F:=λn i (z:au×bO×bI)=>gu.l7 N n L l b (cc,(cT,(bq,(bq,(db,(dq,())))))) z.1 z.2.1 z.2.2 i) (s:=(_,(_,_))) (λi z=>L3 (2*m*i) z.1∧kP (2*i) z.2.1∧z.2.2.length≤i∧ ∀y∈z.2.2,G m jW y) ⟨G.nil,kP.nil,bz _,λy hy=>nomatch hy⟩ ω (λn i z hi hI hr=> ?_) (λn z hI=> ?_)
 all_goals unfold gu.l7 gu.oJ
 ·obtain⟨h5,h6,h7⟩:=hI
  have h8:=h6.1
  have h9:=h7.1
  have hmi:2*m*i≤2*m*12:=mQ _ ω
  have hms:2*m*(i+1)=2*m*i+2*m:=rM _ _
  have hx:G m jW (L.getD (i:Int).toNat ((0:Int),(cc,ba))):=G.at hL _
  have hxl:=hx.2.1.1
  rw[aw (x:=(i:Int)+1) ω ω,af i]
  dsimp only
  rw[cN]
  have put: ∀x:jc,G m jW x→Ok (λr=>G m aK r.1∧LL m r.2.1) (cond (small (z.2.2.length+[x].length)) (gu.l7 N n L l b (cc,(cT,(bq,(bq,(db,(dq,())))))) z.1 z.2.1 (z.2.2++[x]) ((i+1:Nat):Int)) none):=λx hx=>aD (by rw[aJ];omega) (hr (z.1,(z.2.1,z.2.2++[x])) ⟨G.mono ω h5,kP.mono h6 ω,LL.app h7 hx⟩)
  refine ax (λ_=>aB ⟨ω,ω⟩ (aD (by rw[cr];omega) (bG (λ_=>put _ hx) λ_=>ag (UK N ω ω hl _) λw hw=>bF (λ_=>put _ (GL hx.1 hx.2.1 hx.2.2.1 (show aF 3 from bu) hx.2.2.2.2.1 hx.2.2.2.2.2.1)) λ_=>ag (BZ N ω ω hb.2.1 _) λh hh=>ok_eq (λ_=>eg _) λ_=>ag (rB N ω ω hb _) λ_ _=>ok_eq (λ_=>eg _) λ_=> ?_))) λ_=>ω
  have oO:=GL hx.1 hx.2.1 hx.2.2.1 (show aF 2 from bu) hw.2.2.1 hw.2.2.2.1
  generalize hX:(((L.getD (i:Int).toNat ((0:Int),(cc,ba))).1,((L.getD (i:Int).toNat ((0:Int),(cc,ba))).2.1,((L.getD (i:Int).toNat ((0:Int),(cc,ba))).2.2.1,((2:Int),(w.1.2.2.1,(w.1.2.2.2.1,())))))):jc)=X at oO
  have hXl:X.2.1.length≤m:=oO.2.1.1
  refine br (len:=X.2.1.length) (F:=λn' j u=>gu.xI N (gu.l7 N n) n' L l b (cc,(cT,(bq,(bq,(db,(dq,())))))) u z.2.1 z.2.2 (i:Int) X w.1 h j) (s:=z.1) (λj u=>L3 (2*m*i+2*j) u) h5 ω (λn' j u hj hu eQ=> ?_) (λn' u hu=> ?_)
  all_goals unfold gu.xI gu.wF
  ·have Jb:=hu.1
   have hy:G m kN (X.2.1.getD (j:Int).toNat c8):=G.at oO.2.1 _
   dsimp only
   rw[aw (x:=(j:Int)+1) ω ω,af j]
   exact ax (λ_=>aB ⟨ω,ω⟩ (aB ⟨ω,ω⟩ (aB ⟨ω,ω⟩ (aB ⟨ω,ω⟩ (aD (by rw[yQ];omega) (eQ _ (G.mono ω (G.cat hu (G.two (m:=2) (G3 bU hy.1 (gB _)) (G3 hh hy.1 hy.2.1) (aH 2)))))))))) λ_=>ω
  ·refine ax (λ_=>ω) λ_=>ag (bD N ω hw.2.2.2.1) λv hv=>ag (tL N ω _ _ _ _ (Bg.mono hv ω)) λp hp=>aD (by have:=hp.1;omega) (aD (by rw[aJ];omega) ?_)
   rw[aw (x:=(i:Int)+1) ω ω,af i]
   exact hr (_,(_,_)) ⟨G.mono ω hu,kP.mono (kP.app h6 hp) ω,LL.app h7 oO⟩
 ·obtain⟨h5,h6,h7⟩:=hI
  have hmi:2*m*L.length≤2*m*12:=mQ _ ω
  exact ax (λ_=>ω) λ_=>ag (tK N ω h2 ω hb (G.mono ω h5) (kP.mono h6 ω)) λr hr=>bG (λ_=>eg _) λ_=>aq ⟨hr,ct h7.1 ω,h7.2⟩
end VM
end
