/- A part of the proof of TearFlat of layer 29: what the functions compute, in plain words. -/
import Derived.Test.YtocmlaipoebfeaaGreatPlain5
set_option linter.all false
section
namespace VM
open Go VM.F
theorem ah6(N:Nat)(a:Int):Ok (λ_=>True) (Ky N a):=by
 unfold Ky
 exact ok_eq (λ_=>fg) λ_=>fg
theorem jZ.one{k n:Int}{x:aF}{m:Nat}(h:Bg m x)(hm:m≤8):jZ 1 [(k,(n,(x,())))]:=⟨aI 1,λy hy=>by rw[cm.1 hy];exact Bg.mono h hm⟩
theorem Xo(N:Nat)(hN:4000000≤N){l:au}{m:Nat}(hm:m≤50000)(h:L3 m l)(i a b:Int):Ok (λr=>jZ m r.1) (n6 N l i a b):=by
 have hl:=h.1
 unfold n6 n6.b
 have p64: ∀p:Int,decide (1≤p∧p≤1000000000000)=true→aH p:=λp h=>by have:=bF h;unfold aH;omega
 refine bx (mM N ω ω) (bw (λ_=>an jZ.nil) λ_=>bx (iM N _) (bw (λ_=>an jZ.nil) λha=>bx (iM N _) (bw (λ_=>an jZ.nil) λhb=>af (bq N hN (p64 _ hb)) λx hx=>af (bq N hN (p64 _ ha)) λy hy=>af (xQ N hN ω hx hy) λz hz=>bk (len:=l.length) (F:=λn j s=>n6.l6 N n l i s z j) (λj s=>jZ j s) jZ.nil ω (λn j s hj hI hr=> ?_) (λn s hI=> ?_))))
 all_goals unfold n6.l6 n6.tb
 ·have hs:=hI.1
  rw[aw (x:=(j:Int)+1) ω ω,ae j]
  have h1:=hr s (jZ.mono hI ω)
  exact ax (λ_=>aA ⟨ω,ω⟩ (bu (λ_=>h1) λ_=>af (Eg N hz) λ_ _=>ok_eq (λ_=>h1) λ_=>aA ⟨ω,ω⟩ (af (ah6 N _) λ_ _=>aA ⟨ω,ω⟩ (af (bq N hN (G.at h _).2.2.1) λv hv=>af (lT N hN ω ω hv hz) λu hu=>aD (by rw[aK];omega) (hr _ (jZ.app hI (jZ.one hu ω))))))) λ_=>ω
 ·exact ax (λ_=>ω) λ_=>an (jZ.mono hI ω)
theorem C5(N:Nat)(hN:5000000≤N)(c:ag){b:aq}{m:Nat}(h2:200≤m)(hm:m≤50000)(hb:G m aJ b)(i:Int){p:Int}(hp:aH p):Ok (λr=>G m aJ r.1∧jZ m r.2.1) (Ub N c b i p):=by
 have dR: ∀e:Int,Ok (λr:aq×bE×Int=>G m aJ r.1∧jZ m r.2.1) (some ((cw,(dh,(bK,(bK,(dV,(eh,())))))),([],e))):=λe=>an ⟨G.iT,jZ.nil⟩
 have Dr:=hb.2.2.2.2.1.1
 unfold Ub
 refine bx (dQ N hN hm hb) (bw (λ_=>dR _) λhB=>bx (iM N _) (bw (λ_=>dR _) λ_=>ax (λ_=>dR _) λh0=>ed (λ_=>dR _) λh1=> ?_))
 obtain⟨Wi,_⟩:=iq hB
 dsimp only
 rw[cL]
 exact aA ⟨h0,by rw[Wi];exact h1⟩ (af (Xo N ω hm hb.2.2.2.1 _ _ _) λf hf=>af (sV N ω h2 hm hb G.nil (jZ.mono hf hm)) λr hr=>bu (λ_=>dR _) λ_=>aD (by rw[bZ];omega) (aA ⟨h0,by rw[Wi];exact h1⟩ (an ⟨⟨hr.1,hr.2.1,hr.2.2.1,hr.2.2.2.1,G.set hb.2.2.2.2.1 hp _,hr.2.2.2.2.2⟩,hf⟩)))
abbrev L2(m:Nat)(l:aG):Prop:=G m (.slice ka) l
theorem G2{m:Nat}{a b:Int}(ha:aH a)(hb:aH b):G m ka (a,(b,())):=⟨ha,hb,trivial⟩
theorem BW(N:Nat)(hN:200000≤N){l:aG}(hl:l.length≤100000):Ok (λ_=>True) (qk N l):=by
 unfold qk qk.b
 refine kY (len:=l.length) (F:=λn i=>qk.l2 N n l i) ω (λn i hi hr=> ?_) (λn=> ?_)
 all_goals unfold qk.l2 qk.gV
 ·rw[aw (x:=(i:Int)+1) ω ω,ae i]
  dsimp only
  repeat' first|exact hr|exact fg|refine aA ⟨ω,ω⟩ ?_|refine aA (by rw[aw (x:=(i:Int)-1) ω ω];omega) ?_|refine ax (λ_=> ?_) (λ_=> ?_)|refine ed (λ_=> ?_) (λ_=> ?_)|refine ok_eq (λ_=> ?_) (λ_=> ?_)|(exfalso;omega)
 ·exact ax (λ_=>ω) λ_=>fg
theorem NR(N:Nat)(hN:4000000≤N){g:aG}{p:bE}{m:Nat}(h2:200≤m)(hm:m≤50000)(h:L2 m g)(hp:jZ m p):Ok (λr=>L2 m r.1) (e8 N g p):=by
 have hl:=h.1
 have Dr:=hp.1
 unfold e8 e8.b
 refine af (BW N ω ω) λ_ _=>bw (λ_=>an G.nil) λ_=>jS (len:=25) (F:=λn i s=>e8.l5 N n g p s i) (λi s=>L2 i s) (λn i s hi hI hr=> ?_) (λn s hI=> ?_) 25 N 1 [] ω ω ω G.nil
 all_goals unfold e8.l5 e8.fi
 ·have hs:=hI.1
  refine ed (λ_=> ?_) λ_=>ω
  refine bk (len:=g.length) (F:=λn' j t=>e8.l9 N (e8.l5 N n) n' g p s (i:Int) t j) (λ_ t=>Bg 2 t) (KF ω) ω (λn' j t hj ht eZ=> ?_) (λn' t ht=> ?_)
  all_goals unfold e8.l9 e8.zg
  ·rw[aw (x:=(j:Int)+1) ω ω,ae j]
   exact ax (λ_=>aA ⟨ω,ω⟩ (ok_eq (λ_=>aA ⟨ω,ω⟩ (af (bq N hN (G.at h _).2.1) λr hr=>eZ r hr)) λ_=>eZ t ht)) λ_=>ω
  ·refine ax (λ_=>ω) λ_=> ?_
   refine bk (len:=p.length) (F:=λC2 j t=>e8.IY N (e8.l5 N n) C2 g p s (i:Int) t j) (λj t=>Bg (8+j) t) (Bg.mono ht ω) ω (λC2 j t hj ht eZ=> ?_) (λC2 t ht=> ?_)
   all_goals unfold e8.IY e8.F5
   ·rw[aw (x:=(j:Int)+1) ω ω,ae j]
    have h1:=eZ t (Bg.mono ht ω)
    exact ax (λ_=>aA ⟨ω,ω⟩ (ok_eq (λ_=>aA ⟨ω,ω⟩ (ok_eq (λ_=>aA ⟨ω,ω⟩ (af (kZ N hN ω ht (Bg.mono (hp.at _) ω)) λr hr=>eZ r (Bg.mono hr ω))) λ_=>h1)) λ_=>h1)) λ_=>ω
   ·rw[aw (x:=(i:Int)+1) ω ω,ae i]
    exact ax (λ_=>ω) λ_=>af (xh N ht) λv hv=>bw (λ_=>an G.nil) λ_=>bu (λ_=>aD (by rw[aK];omega) (hr _ (G.cat hI (G.one (m:=1) (G2 (jD ω ω) hv) (aI 1))))) λ_=>hr s (G.mono ω hI)
 ·exact ed (λ_=>ω) λ_=>an (G.mono ω hI)
theorem sX(N:Nat)(hN:4000000≤N)(a b c d:Int){x:aF}(h:Bg 8 x):Ok (λr=>jZ 2 r) (BX N a b c d x):=by
 unfold BX
 exact af (qE N hN ω h) λy hy=>an ⟨aI 2,λz hz=>by
  rcases aX.1 hz with rfl|hz
  ·exact hy
  ·rw[cm.1 hz];exact h⟩
theorem NS(N:Nat)(hN:5000000≤N){c:ag}{b:aq}{m:Nat}(h2:200≤m)(hm:m≤40000)(hc:G m aB c)(hb:G m aJ b)(a:Int){q:Int}(hq:aH q):Ok (λr=>G m aJ r.1) (Uc N c b a q):=by
 unfold Uc
 exact bx (dQ N hN ω hb) (bw (λ_=>an G.iT) λ_=>ax (λ_=>an G.iT) λ_=>af (xR N ω ω hb.2.1 _) λ_ _=>bw (λ_=>an G.iT) λ_=>af (oJ N ω ω hb.1 _) λ_ _=>bu (λ_=>an G.iT) λ_=>af (mD N ω ω hb.2.2.1 _ _) λg hg=>af (bq N ω hg) λx hx=>af (bq N ω hq) λy hy=>af (xQ N ω ω hx hy) λz hz=>af (Gg N ω h2 hm hc hb (bG _) _) λw hw=>af (pS N ω ω ω hz hw) λ_ _=>ax (λ_=>an G.iT) λ_=>af (bq N ω hq) λy hy=>af (sX N ω _ _ _ _ (Bg.mono hy ω)) λp hp=>af (sV N ω h2 ω hb G.nil (jZ.mono hp ω)) λr hr=>an hr)
theorem QM(N:Nat)(hN:1000≤N){c:ag}(hc:G 5 aB c):Ok (λr=>G 5 aJ r.1) (ib N c):=by
 have hl:=hc.1.1
 unfold ib ib.b
 have hj: ∀b:aq,G 5 aJ b→Ok (λr=>G 5 aJ r.1) (ib.j6 N c (cw,(dh,(bK,(bK,(dV,(eh,())))))) b []):=λb hb=>by
  unfold ib.j6 ib.Tw
  obtain⟨b1,b2,b3,b4,b5,b6⟩:=b
  refine bk (len:=c.1.length) (F:=λn i (z:aq×List Int)=>ib.l7 N n c (cw,(dh,(bK,(bK,(dV,(eh,())))))) z.1 z.2 i) (s:=((b1,(b2,(b3,(b4,(b5,b6))))),_)) (λi z=>G 5 aJ z.1∧G i (.slice (.int .i64)) z.2) ⟨hb,G.nil⟩ ω (λn i z hi hI hr=> ?_) (λn z hI=> ?_)
  all_goals unfold ib.l7 ib.pN
  ·have hz:=hI.2.1
   rw[aw (x:=(i:Int)+1) ω ω,ae i]
   have hx:G 0 (.int .i64) (c.1.getD (i:Int).toNat a7).2.1:=(G.at hc.1 _).2.1
   exact ax (λ_=>aA ⟨ω,ω⟩ (aD (by rw[aK];omega) (hr (_,_) ⟨⟨hI.1.1,hI.1.2.1,hI.1.2.2.1,hI.1.2.2.2.1,G.nil,hI.1.2.2.2.2.2⟩,G.cat hI.2 (G.one hx (aI 1))⟩))) λ_=>ω
  ·exact ax (λ_=>ω) λ_=>an ⟨hI.1.1,hI.1.2.1,hI.1.2.2.1,hI.1.2.2.2.1,G.mono hl hI.2,hI.1.2.2.2.2.2⟩
 have zV:L3 5 [((1:Int),((0:Int),(W .i64 (0-c.2.1),()))),((3:Int),((0:Int),(c.2.1,())))]:=G.two (G3 (show aH 1 from bA) bt (gN _)) (G3 (show aH 3 from bA) bt hc.2.1) δ
 exact bx (nG N ω c) (bw (λ_=>an G.iT) λ_=>bu (λ_=>hj _ ⟨G.nil,G.nil,zV,G.nil,G.nil,G.nil,trivial⟩) λ_=>hj _ G.iT)
end VM
end
section
namespace VM
open Go VM.F
theorem BY(N:Nat)(hN:4000000≤N){c:ag}{l:aG}{m:Nat}(hm:m≤50000)(hc:G m aB c)(hl:L2 m l)(f:Bool):Ok (λr=>Bg 60000 r.1) (pU N c l f):=by
 have h1:=hl.1
 unfold pU pU.b
 refine bx (AB N ω c ω) (bw (λ_=>an (KF ω)) λhk=>bk (len:=l.length) (F:=λn i t=>pU.l5 N n l f c (false,(([]:List Int),())) t i) (λi t=>Bg (8+i) t) (KF ω) ω (λn i t hi ht hr=> ?_) (λn t ht=> ?_))
 all_goals unfold pU.l5 pU.fi
 ·rw[aw (x:=(i:Int)+1) ω ω,ae i,aE]
  unfold FJ at hk
  have hp:=bF (dm.1 hk).1 i hi
  unfold w6 w5 at hp
  have in1: ∀{x y:Option (aF×Int)},Ok (λr=>Bg 60000 r.1) x→Ok (λr=>Bg 60000 r.1) (cond (aZ (l.getD i df).1 c.1.length) x y):=λh=>aA ⟨hp.1,hp.2.1⟩ h
  have hw: ∀q:Int,aH q→Ok (λr=>Bg 60000 r.1) ((kt N (l.getD i df).2.1).bind λr3=>(Wm N r3).bind λr4=>(kt N q).bind λr5=>(jY N r4 r5).bind λr6=>(Am N t r6).bind λr7=>pU.l5 N n l f c (false,(([]:List Int),())) r7 ((i+1:Nat):Int)):=λq hq=>
   af (bq N hN (G.at hl i).2.1) λx hx=>af (xg N hN ω hx) λx hx=>af (bq N hN hq) λy hy=>af (lT N hN ω ω hx hy) λz hz=>af (kZ N hN ω ht (Bg.mono hz ω)) λu hu=>hr u (Bg.mono hu ω)
  exact ax (λ_=>aA ⟨ω,ω⟩ (in1 (qg (λ_=>aA ⟨ω,ω⟩ (in1 (aA ⟨ω,ω⟩ (hw _ (G.at hc.1 _).2.2.2.1)))) λ_=>aA ⟨ω,ω⟩ (hw _ (G.at hc.1 _).2.2.1)))) λ_=>ω
 ·exact ax (λ_=>ω) λ_=>an (Bg.mono ht ω)
theorem qF(N:Nat)(hN:200000≤N){b:aq}{m:Nat}(hm:m≤50000)(hb:G m aJ b)(id:Int):Ok (λ_=>True) (KO N b id):=by
 unfold KO
 exact af (oJ N hN hm hb.1 _) λ_ _=>fg
theorem uw(N:Nat)(hN:200000≤N){b:aq}{m:Nat}(hm:m≤50000)(hb:G m aJ b)(id:Int):Ok aH (QN N b id):=by
 unfold QN
 exact af (mD N hN hm hb.2.2.1 _ _) λr hr=>an hr
theorem Xp(N:Nat)(hN:5000000≤N){c:ag}{b:aq}{m:Nat}(hm:m≤40000)(hc:G m aB c)(hb:G m aJ b)(f to a:Int):Ok (λ_=>True) (aaJ N c b f to a):=by
 unfold aaJ ah7
 have mb:=λid=>qF N ω ω hb id
 exact bx (dQ N hN ω hb) (bw (λ_=>fg) λ_=>af (xR N ω ω hb.2.1 _) λ_ _=>bw (λ_=>fg) λ_=>af (mb _) λ_ _=>ok_eq (λ_=>fg) λ_=>af (mb _) λ_ _=>ok_eq (λ_=>fg) λ_=>bu (λ_=>fg) λ_=>bu (λ_=>fg) λ_=>af (mb _) λ_ _=>bu (λ_=>fg) λ_=>af (NK N ω ω hb.2.2.2.1 _) λl hl=>af (Q:=λr=>Bg 60000 r.1) (af (BY N ω ω hc hl _) λr hr=>an hr) λu hu=>af (uw N ω ω hb _) λg hg=>af (bq N ω hg) λx hx=>af (pS N ω ω ω hx hu) λ_ _=>ax (λ_=>fg) λ_=>fg)
theorem aaK(N:Nat)(hN:5000000≤N){c:ag}{b:aq}{m:Nat}(hm:m≤40000)(hc:G m aB c)(hb:G m aJ b)(f:Int){to:Int}(hto:aH to)(a:Int):Ok (λr=>G m aJ r.1) (Ud N c b f to a):=by
 unfold Ud
 exact af (Xp N hN hm hc hb _ _ _) λ_ _=>bu (λ_=>an G.iT) λ_=>af (QK N ω ω hb.1 hb.2.1 hto) λr hr=>bu (λ_=>an G.iT) λ_=>an ⟨hb.1,hr,hb.2.2⟩
theorem Ue(N:Nat)(hN:4000000≤N){x:aF}{q:Int}(hx:Bg 60000 x)(hq:aH q):Ok (λr=>0≤r∧r≤3) (rO N x q):=by
 unfold rO rO.b
 refine af (Eg N hx) λ_ _=>ed (λ_=>an δ) λ_=>ax (λ_=>an δ) λ_=>jS (len:=3) (F:=λn i (_:Unit)=>rO.l4 N n q x i) (λ_ _=>True) (λn i _ hi _ hr=> ?_) (λn _ _=> ?_) 3 N 1 () ω ω ω trivial
 all_goals unfold rO.l4 rO.dH
 ·rw[aw (x:=(i:Int)+1) ω ω,ae i]
  exact ax (λ_=>af (bq N hN (jD ω ω)) λa ha=>af (bq N hN hq) λb hb=>af (lT N hN ω ω ha hb) λy hy=>af (pS N hN ω ω hy hx) λ_ _=>ax (λ_=>hr () trivial) λ_=>an ω) λ_=>ω
 ·exact ax (λ_=>ω) λ_=>an ω
theorem Sq(N:Nat)(hN:5000000≤N)(c:ag){b:aq}{m:Nat}(hm:m≤50000)(hb:G m aJ b):Ok (λr=>G m (.slice (.int .i64)) r.1) (rP N c b):=by
 have hl:=hb.1.1
 unfold rP rP.b
 refine bx (dQ N hN hm hb) (bw (λ_=>an G.nil) λ_=>bk (len:=b.1.length) (F:=λn i s=>rP.l5 N n b s i) (λi s=>G i (.slice (.int .i64)) s) G.nil ω (λn i s hi hI hr=> ?_) (λn s hI=> ?_))
 all_goals unfold rP.l5 rP.fi
 ·have hs:=hI.1
  rw[aw (x:=(i:Int)+1) ω ω,ae i]
  have h1:=hr s (G.mono ω hI)
  have hx:G 0 (.int .i64) (b.1.getD (i:Int).toNat df).1:=(G.at hb.1 _).1
  exact ax (λ_=>aA ⟨ω,ω⟩ (ok_eq (λ_=>aA ⟨ω,ω⟩ (af (mD N ω hm hb.2.2.1 _ _) λ_ _=>ax (λ_=>aA ⟨ω,ω⟩ (aD (by rw[aK];omega) (hr _ (G.cat hI (G.one hx (aI 1)))))) λ_=>h1)) λ_=>h1)) λ_=>ω
 ·exact ax (λ_=>ω) λ_=>an (G.mono hl hI)
abbrev LL(m:Nat)(l:bz):Prop:=G m (.slice jF) l
theorem Gi(N:Nat)(hN:200000≤N){l:bz}{m:Nat}(hm:m≤50000)(h:LL m l)(id:Int):Ok (λr=>G m jF r.1) (qm N l id):=by
 have hl:=h.1
 unfold qm qm.b
 refine kY (len:=l.length) (F:=λn i=>qm.l2 N n l id ((0:Int),(cw,a7)) i) ω (λn i hi hr=> ?_) (λn=> ?_)
 all_goals unfold qm.l2 qm.gV
 ·rw[aw (x:=(i:Int)+1) ω ω,ae i]
  exact ax (λ_=>aA ⟨ω,ω⟩ (ok_eq (λ_=>aA ⟨ω,ω⟩ (an (G.at h _))) λ_=>hr)) λ_=>ω
 ·exact ax (λ_=>ω) λ_=>an (G.zero m jF)
theorem Uf(N:Nat)(hN:4000000≤N){a b:aG}{m:Nat}(h6:6≤m)(hm:m≤40000)(ha:L2 m a)(hb:L2 m b):Ok (λr=>L2 m r.1) (e9 N a b):=by
 have hal:=ha.1
 have vD:=hb.1
 unfold e9 e9.b
 refine bk (len:=6) (F:=λn i s=>e9.l3 N n a b s i) (λi s=>L2 i s) G.nil ω (λn i s hi hI hr=> ?_) (λn s hI=> ?_)
 all_goals unfold e9.l3 e9.lB
 ·have hs:=hI.1
  refine ax (λ_=> ?_) λ_=>ω
  refine bk (len:=a.length) (F:=λn' j t=>e9.l7 N (e9.l3 N n) n' a b s (i:Int) t j) (λj t=>Bg (3+j) t) (KF ω) ω (λn' j t hj ht eZ=> ?_) (λn' t ht=> ?_)
  all_goals unfold e9.l7 e9.pN
  ·rw[aw (x:=(j:Int)+1) ω ω,ae j]
   exact ax (λ_=>aA ⟨ω,ω⟩ (ok_eq (λ_=>aA ⟨ω,ω⟩ (af (bq N hN (G.at ha _).2.1) λr hr=>af (kZ N hN ω ht (Bg.mono hr ω)) λu hu=>eZ u (Bg.mono hu ω))) λ_=>eZ t (Bg.mono ht ω))) λ_=>ω
  ·refine ax (λ_=>ω) λ_=> ?_
   refine bk (len:=b.length) (F:=λC2 j t=>e9.m5 N (e9.l3 N n) C2 a b s (i:Int) t j) (λj t=>Bg (3+a.length+j) t) ht ω (λC2 j t hj ht eZ=> ?_) (λC2 t ht=> ?_)
   all_goals unfold e9.m5 e9.nK
   ·rw[aw (x:=(j:Int)+1) ω ω,ae j]
    exact ax (λ_=>aA ⟨ω,ω⟩ (ok_eq (λ_=>aA ⟨ω,ω⟩ (af (bq N hN (G.at hb _).2.1) λr hr=>af (kZ N hN ω ht (Bg.mono hr ω)) λu hu=>eZ u (Bg.mono hu ω))) λ_=>eZ t (Bg.mono ht ω))) λ_=>ω
   ·rw[aw (x:=(i:Int)+1) ω ω,ae i]
    exact ax (λ_=>ω) λ_=>af (C1 N ht) λv hv=>bw (λ_=>an G.nil) λ_=>bu (λ_=>aD (by rw[aK];omega) (hr _ (G.cat hI (G.one (m:=1) (G2 (jD ω ω) hv) (aI 1))))) λ_=>hr s (G.mono ω hI)
 ·exact ax (λ_=>ω) λ_=>an (G.mono h6 hI)
theorem NT(N:Nat)(hN:5000000≤N){c:ag}{b:aq}{QO:bz}{l:aO}{x:cy}{m:Nat}(h6:6≤m)(hm:m≤40000)(hc:G m aB c)(hb:G m aJ b)(hL:LL m QO)(hl:G m (.slice eR) l)(hx:G 0 eR x):Ok (λ_=>True) (ld N c b QO l x):=by
 have JT:=hl.1
 have hLl:=hL.1
 have hal:=hb.2.1.1
 have Im:=hb.2.2.2.2.2.1.1
 have hw:IT QO:=λy hy=>cA (hL.2 y hy).2.1.1 ω
 unfold ld ld.b
 have hj:Ok (λ_=>True) (ld.j3 N QO l c b x):=by
  unfold ld.j3 ld.j3b
  refine af (qF N ω ω hb _) λ_ _=>ok_eq (λ_=>fg) λ_=>bu (λ_=>fg) λ_=>af (Gi N ω ω hL _) λz hz=>bx (qB N ω ω _) (bw (λ_=>fg) λ_=>bu (λ_=>fg) λ_=>ok_eq (λ_=>fg) λ_=>kY (len:=l.length) (F:=λn i=>ld.oF N n l c b x z.1 (nI b.2.1 x.2.2.1) i) ω (λn i hi hr=> ?_) (λn=> ?_))
  all_goals unfold ld.oF ld.mX
  ·rw[aw (x:=(i:Int)+1) ω ω,ae i]
   exact ax (λ_=>aA ⟨ω,ω⟩ (ok_eq (λ_=>aA ⟨ω,ω⟩ (ok_eq (λ_=>fg) λ_=>hr)) λ_=>hr)) λ_=>ω
  ·refine ax (λ_=>ω) λ_=>ok_eq (λ_=>fg) λ_=>af (bq N ω hx.2.2.2.1) λp hp=>af (bq N ω (show aH 4 from bA)) λq hq=>af (bq N ω hz.2.2.1) λr hr=>af (lT N ω ω ω hq hr) λu hu=>af (pS N ω ω ω hp hu) λ_ _=>ax (λ_=>fg) λ_=>af (NK N ω ω hb.2.2.2.1 _) λa ha=>af (Uf N ω h6 ω ha hz.2.1) λj hj=>bw (λ_=>fg) λ_=> ?_
   unfold ah8
   exact af (Q:=λr=>L3 6 r) (bx (il N ω ω) (bw (λ_=>an G.nil) λ_=>af (Gf N ω ω _) λr hr=>an hr)) λo ho=>af (NJ N ω ω hc hj (G.mono h6 ho)) λw hw=>af (uw N ω ω hb _) λg hg=>af (bq N ω hg) λv hv=>af (bq N ω hx.2.2.2.1) λp hp=>af (xQ N ω ω hv hp) λd hd=>af (pS N ω ω ω hd hw) λ_ _=>ax (λ_=>fg) λ_=>fg
 refine bx (dQ N hN ω hb) (bw (λ_=>fg) λ_=>bx (AL N ω c ω hw) (bw (λ_=>fg) λ_=>bx (uq N ω ω) (bw (λ_=>fg) λ_=>bx (R9 N _) (bw (λ_=>fg) λ_=>ax (λ_=> ?_) λ_=>hj))))
 dsimp only
 exact aA (by rw[aw ω ω];omega) (ed (λ_=>fg) λ_=>hj)
theorem Je(N:Nat)(hN:5000000≤N){c:ag}{b:aq}{QO:bz}{l:aO}{x:cy}{m:Nat}(h6:6≤m)(hm:m≤40000)(hc:G m aB c)(hb:G m aJ b)(hL:LL m QO)(hl:G m (.slice eR) l)(hx:G 0 eR x):Ok (λr=>G (m+1) (.slice eR) r.1) (aaM N c b QO l x):=by
 have JT:=hl.1
 unfold aaM
 refine af (NT N hN h6 hm hc hb hL hl hx) λ_ _=>bu (λ_=>an G.nil) λ_=>aD (by rw[bZ];omega) ?_
 dsimp only
 rw[cL]
 exact aD (by rw[aK];omega) (an (G.cat hl (G.one hx (aI 1))))
end VM
end
section
namespace VM
open Go VM.F
theorem afZ{l:List Int}(h:Pos l)(hs:l.sum<9223372036854775808):FX l:=λx hx=>by
 have h3:=h x hx
 obtain⟨i,hi,rfl⟩:=qI.1 hx
 have h4:=th h i
 rw[aR,bl hi]at h4
 simp only[ni]at h4
 omega
theorem Xq(k:Nat):(List.replicate k (1:Int)).sum=k:=by
 induction k with
 |zero=>rfl
 |succ k ih=>rw[zu,cH,ih];omega
theorem Xr(k:Nat):Pos (List.replicate k 1):=λx hx=>by rw[zo hx];omega
theorem Xs{t:Int}{k:Nat}(h0:0≤t)(h1:t<9223372036854775808)(hk:1≤k)(hk1:k≤3):(IZ t k).1.length=k∧FX (IZ t k).1:=by
 have hS:0<(List.replicate k (1:Int)).sum:=by rw[Xq];omega
 have ee:IZ t k=(ba t (List.replicate k 1),0):=by
  unfold IZ
  rw[ah ω,aE]
  unfold nS
  have hm:may (List.replicate k 1)=true:=gT.2 ⟨by rw[ck];omega,Xr k⟩
  rw[ah (by rw[hm];simp;omega),Xq,ah ω,ah ω]
 rw[ee]
 exact⟨by dsimp only;rw[iu,List.length_replicate],afZ (vo h0 hS (Xr k)) (by rw[rI h0 hS];omega)⟩
def LQ(y:FF):Prop:=aH y.1∧aH y.2.1∧se y.2.1
theorem af0{l:aG}(h: ∀y∈l,LQ y)(i:Nat):LQ (l.getD i df):=by
 by_cases hk:i<l.length
 ·rw[aR,bl hk];exact h _ (eL hk)
 ·rw[aR,gP ω];exact⟨bt,bt,by unfold se;decide⟩
theorem Ug{c:ag}{b:aq}{m:Nat}(hb:G m aJ b)(hB:eu c b=true)(a:Int): ∀y∈posOf b.2.2.2.1 a,LQ y∧(0≤(y.1:Int)∧(y.1:Int)<(c.1.length:Int)):=λy hy=>by
 have hk:da b.2.2.2.1=true:=by
  by_cases h:da b.2.2.2.1=true
  ·exact h
  ·unfold posOf at hy;rw[ah h]at hy;nomatch hy
 unfold posOf at hy
 rw[aj hk]at hy
 obtain⟨x,hx,_,e⟩:=rF hy
 have hg:=hb.2.2.2.1.2 x hx
 have hq:=((dw hk).2 x hx).2
 have hp:=KE hB x hx
 rw[e]
 exact⟨⟨hg.2.1,hg.2.2.1,hq⟩,hp⟩
theorem Sr(N:Nat)(hN:5000000≤N){c:ag}{b:aq}{m:Nat}(h2:200≤m)(hm:m≤40000)(hc:G m aB c)(hb:G m aJ b){next:Int}(hn:aH next):Ok (λr=>LL m r.1) (eI N c b next):=by
 unfold eI eI.b
 refine bx (dQ N hN ω hb) (bw (λ_=>an G.nil) λhB=>ax (λ_=>an G.nil) λ_=>ax (λ_=>an G.nil) λ_=>bx (Qx N (G.wf ω hb).w.s ω 0) (ok_eq (λ_=>an G.nil) λ_=> ?_))
 have lM:=Ug hb hB 0
 have hal:=(ani hb.2.2.2.1 0).1
 generalize posOf b.2.2.2.1 0=all at*
 refine bk (len:=4) (F:=λn k (s:Int×bz)=>eI.l8 N n s.1 c all s.2 k) (s:=(_,_)) (λk s=>aH s.1∧s.2.length≤3*k∧ ∀x∈s.2,G m jF x) ⟨hn,bG _,λx hx=>nomatch hx⟩ ω (λn k s hk hI hr=> ?_) (λn s hI=> ?_)
 all_goals unfold eI.l8 eI.CQ
 ·refine ax (λ_=> ?_) λ_=>ω
  refine bk (len:=all.length) (F:=λn' i (z:aG×aF)=>eI.oF N (eI.l8 N n) n' s.1 c all s.2 (k:Int) z.1 z.2 i) (s:=(_,_)) (λi z=>z.1.length≤i∧(∀y∈z.1,LQ y)∧Bg (8+i) z.2) ⟨bG _,(λy hy=>nomatch hy),KF ω⟩ ω (λn' i z hi hz eZ=> ?_) (λn' z hz=> ?_)
  all_goals unfold eI.oF eI.mX
  ·obtain⟨Cv,Hj,hz3⟩:=hz
   have hx:all.getD i df∈all:=by rw[aR,bl hi];exact eL hi
   have hy:=lM _ hx
   rw[aw (x:=(i:Int)+1) ω ω,ae i,aE]
   exact ax (λ_=>aA ⟨ω,ω⟩ (aA hy.2 (ok_eq (λ_=>aA ⟨ω,ω⟩ (aD (by rw[List.length_singleton];omega) (aA ⟨ω,ω⟩ (af (bq N ω hy.1.2.1) λu hu=>af (xg N ω ω hu) λu hu=>af (kZ N ω ω hz3 (Bg.mono hu ω)) λv hv=>eZ (_,_) ⟨by dsimp only;rw[List.length_append,List.length_singleton];omega,λy h=>(List.mem_append.1 h).elim (Hj y) (λh=>by rw[List.mem_singleton.1 h];exact hy.1),Bg.mono hv ω⟩)))) λ_=>eZ z ⟨ω,Hj,Bg.mono hz3 ω⟩))) λ_=>ω
  ·obtain⟨Cv,Hj,hz3⟩:=hz
   refine ax (λ_=>ω) λ_=>af (Ue N ω (Bg.mono hz3 ω) hc.2.2.2.2.2.1) λw hw=> ?_
   obtain⟨p,hp⟩: ∃p:Nat,w=(p:Int):=⟨w.toNat,ω⟩
   subst hp
   refine bk (len:=p) (F:=λC2 j (t:Int×bz)=>eI.HT N (eI.l8 N n) C2 t.1 c all t.2 (k:Int) z.1 (p:Int) j) (s:=s) (λj t=>aH t.1∧t.2.length≤3*k+j∧ ∀x∈t.2,G m jF x) hI ω (λC2 j t hj ht W8=> ?_) (λC2 t ht=> ?_)
   all_goals unfold eI.HT eI.NU
   ·obtain⟨si,YG,Zj⟩:=ht
    refine ax (λ_=> ?_) λ_=>ω
    refine bk (len:=z.1.length) (F:=λn3 i u=>eI.CK N (eI.l8 N n) (eI.HT N (eI.l8 N n) C2) n3 t.1 c all t.2 (k:Int) z.1 (p:Int) (j:Int) (t.1,(cw,((0:Int),((1:Int),df)))) u i) (λi u=>L2 i u) G.nil ω (λn3 i u hi hu Xt=> ?_) (λn3 u hu=> ?_)
    all_goals unfold eI.CK eI.Dx
    ·have Hk:=hu.1
     have hq:=af0 Hj i
     have mI:=hq
     unfold LQ aH se at mI
     have anl: ∀q:Int,0≤q→q<9223372036854775808→Ok (λr=>LL m r.1) (eI.Uh N (eI.l8 N n) (eI.HT N (eI.l8 N n) C2) (eI.CK N (eI.l8 N n) (eI.HT N (eI.l8 N n) C2) n3) t.1 c all t.2 (k:Int) z.1 (p:Int) (j:Int) (t.1,(cw,((0:Int),((1:Int),df)))) u (i:Int) q):=λq h0 h1=>by
      unfold eI.Uh eI.NV
      obtain⟨e1,e2⟩:=Xs (k:=p) h0 h1 ω ω
      have anm: ∀v:List Int,v.length=p→FX v→Ok (λr=>LL m r.1) (eI.j32 N (eI.l8 N n) (eI.HT N (eI.l8 N n) C2) (eI.CK N (eI.l8 N n) (eI.HT N (eI.l8 N n) C2) n3) t.1 c all t.2 (k:Int) z.1 (p:Int) (j:Int) (t.1,(cw,((0:Int),((1:Int),df)))) u (i:Int) v):=λv Md Ze=>by
       unfold eI.j32 eI.ah9
       rw[aw (x:=(i:Int)+1) ω ω,ae i]
       have hx:G 0 ka ((z.1.getD (i:Int).toNat df).1,(v.getD (j:Int).toNat 0,())):=G2 (af0 Hj _).1 (rq Ze _)
       exact aA ⟨ω,ω⟩ (bu (λ_=>aA ⟨ω,ω⟩ (aA ⟨ω,ω⟩ (aD (by rw[aK];omega) (Xt _ (G.cat hu (G.one hx (aI 1))))))) λ_=>Xt u (G.mono ω hu))
      refine bx (W2 N hN h1) (aA ⟨ω,ω⟩ (ax (λ_=>aA ⟨ω,ω⟩ (aA ⟨ω,ω⟩ (anm _ (by rw[bB];exact e1) λy hy=> ?_))) λ_=>anm _ e1 e2))
      rcases tA hy with hy|rfl
      ·exact e2 y hy
      ·exact gN _
     rw[aE]
     refine ax (λ_=>aA ⟨ω,ω⟩ (ax (λfA=> ?_) λYN=> ?_)) λ_=>ω
     ·have g: ∀x:Int,-9223372036854775808≤x∧x≠ -9223372036854775808→x<0→0≤W .i64 (0-x)∧W .i64 (0-x)<9223372036854775808:=λx h1 h2=>by rw[aw ω ω];omega
      have gx:=g _ ⟨mI.2.1.1,mI.2.2⟩ fA
      exact anl _ gx.1 gx.2
     ·exact anl _ YN mI.2.1.2
    ·have Hk:=hu.1
     rw[aw (x:=(j:Int)+1) ω ω,ae j]
     have hum:L2 m u:=G.mono ω hu
     refine ax (λ_=>ω) λ_=>ok_eq (λ_=>W8 t ⟨si,ω,Zj⟩) λ_=> ?_
     unfold Xu
     refine af (Q:=λr=>Bg 60000 r.1) (af (BY N ω ω hc hum _) λr hr=>an hr) λa ha=>af (qE N ω ω ha) λd hd=>af (xh N hd) λv hv=>bw (λ_=>an G.nil) λ_=>aD (by rw[List.length_singleton];omega) (W8 (_,_) ⟨gN _,by dsimp only;rw[List.length_append,List.length_singleton];omega,λx hx=> ?_⟩)
     rcases bo.1 hx with hx|hx
     ·exact Zj x hx
     ·rw[cm.1 hx];exact⟨si,hum,hv,(show aH 1 from bA),bt,bt,trivial⟩
   ·rw[aw (x:=(k:Int)+1) ω ω,ae k]
    exact ax (λ_=>ω) λ_=>hr t ⟨ht.1,by have:=ht.2.1;omega,ht.2.2⟩
 ·exact ax (λ_=>ω) λ_=>an ⟨by have:=hI.2.1;dsimp only;omega,hI.2.2⟩
end VM
end
section
namespace VM
open Go VM.F
theorem ux(N:Nat)(hN:200000≤N){l:aG}(hl:l.length≤100000):Ok (λ_=>True) (py N l):=by
 unfold py py.b
 refine kY (len:=l.length) (F:=λn i=>py.l2 N n l i) ω (λn i hi hr=> ?_) (λn=> ?_)
 all_goals unfold py.l2 py.gV
 ·rw[aw (x:=(i:Int)+1) ω ω,ae i]
  dsimp only
  repeat' first|exact hr|exact fg|refine aA ⟨ω,ω⟩ ?_|refine aA (by rw[aw (x:=(i:Int)-1) ω ω];omega) ?_|refine ax (λ_=> ?_) (λ_=> ?_)|refine ed (λ_=> ?_) (λ_=> ?_)|refine ok_eq (λ_=> ?_) (λ_=> ?_)|(exfalso;omega)
 ·exact ax (λ_=>ω) λ_=>fg
theorem Ui(N:Nat)(hN:200000≤N){l:List Int}(hl:l.length≤100000):Ok (λ_=>True) (rQ N l):=by
 unfold rQ rQ.b
 refine kY (len:=l.length) (F:=λn i=>rQ.l2 N n l i) ω (λn i hi hr=> ?_) (λn=> ?_)
 all_goals unfold rQ.l2 rQ.gV
 ·rw[aw (x:=(i:Int)+1) ω ω,ae i]
  dsimp only
  repeat' first|exact hr|exact fg|refine aA ⟨ω,ω⟩ ?_|refine aA (by rw[aw (x:=(i:Int)-1) ω ω];omega) ?_|refine ax (λ_=> ?_) (λ_=> ?_)|refine ed (λ_=> ?_) (λ_=> ?_)|refine ok_eq (λ_=> ?_) (λ_=> ?_)|(exfalso;omega)
 ·exact ax (λ_=>ω) λ_=>fg
theorem Xv(N:Nat)(hN:200000≤N)(a:Int){L:bz}{l:aO}{m:Nat}(hm:m≤50000)(hL:LL m L)(hl:G m (.slice eR) l):Ok aH (jw N a L l):=by
 have h1:=hL.1
 have h2:=hl.1
 have i3:aH 3:=bA
 have i2:aH 2:=bA
 unfold jw jw.b
 refine bk (len:=l.length) (F:=λn i v=>jw.l3 N n a L l v i) (λ_ v=>aH v) (show aH 1 from bA) ω (λn i v hi hv hr=> ?_) (λn v hv=> ?_)
 all_goals unfold jw.l3 jw.lB
 ·rw[aw (x:=(i:Int)+1) ω ω,ae i]
  exact ax (λ_=>aA ⟨ω,ω⟩ (bu (λ_=>hr v hv) λ_=>aA ⟨ω,ω⟩ (af (Gi N hN hm hL _) λ_ _=>qg (λ_=>aA ⟨ω,ω⟩ (ed (λ_=>hr _ (BU hv i3)) λ_=>hr _ (BU hv i2))) λ_=>hr _ (BU hv i2)))) λ_=>ω
 ·refine ax (λ_=>ω) λ_=>bk (len:=L.length) (F:=λn i v=>jw.m5 N n a L v i) (λ_ v=>aH v) hv ω (λn i v hi hv hr=> ?_) (λn v hv=> ?_)
  all_goals unfold jw.m5 jw.nK
  ·rw[aw (x:=(i:Int)+1) ω ω,ae i]
   exact ax (λ_=>aA ⟨ω,ω⟩ (ok_eq (λ_=>aA ⟨ω,ω⟩ (ok_eq (λ_=>hr 4 bA) λ_=>hr v hv)) λ_=>hr v hv)) λ_=>ω
  ·exact ax (λ_=>ω) λ_=>an hv
theorem NW(N:Nat)(hN:200000≤N)(c:ag){d:aG}{u:List Int}{L:bz}{l:aO}{m:Nat}(h2:200≤m)(hm:m≤50000)(hd:L2 m d)(hu:u.length≤m)(hL:LL m L)(hl:G m (.slice eR) l):Ok (λr=>L2 m r.1) (dA N c d u L l):=by
 have h3:=hd.1
 have h4:=hL.1
 have h5:=hl.1
 have hw:IT L:=λy hy=>cA (hL.2 y hy).2.1.1 ω
 unfold dA dA.b
 refine af (ux N hN ω) λ_ _=>bw (λ_=>an G.nil) λ_=>af (Ui N hN ω) λ_ _=>bw (λ_=>an G.nil) λ_=>bx (AL N hN c ω hw) (bw (λ_=>an G.nil) λ_=>bx (uq N ω hN) (bw (λ_=>an G.nil) λ_=>jS (len:=13) (F:=λn i s=>dA.l5 N n d u L l s i) (λi s=>L2 i s) (λn i s hi hI hr=> ?_) (λn s hI=> ?_) 13 N 1 [] ω ω ω G.nil))
 all_goals unfold dA.l5 dA.fi
 ·have hs:=hI.1
  refine ed (λ_=> ?_) λ_=>ω
  refine bk (len:=d.length) (F:=λn' j (z:Int×Bool)=>dA.l9 N (dA.l5 N n) n' d u L l s (i:Int) z.1 z.2 j) (s:=(_,_)) (λ_ z=>aH z.1) bt ω (λn' j z hj hz eZ=> ?_) (λn' z hz=> ?_)
  all_goals unfold dA.l9 dA.zg
  ·rw[aw (x:=(j:Int)+1) ω ω,ae j]
   exact ax (λ_=>aA ⟨ω,ω⟩ (ok_eq (λ_=>aA ⟨ω,ω⟩ (eZ (_,_) (G.at hd _).2.1)) λ_=>eZ z hz)) λ_=>ω
  ·refine ax (λ_=>ω) λ_=>bk (len:=u.length) (F:=λn' j f=>dA.IY N (dA.l5 N n) n' d u L l s (i:Int) z.1 f j) (λ_ _=>True) trivial ω (λn' j f hj _ eZ=> ?_) (λn' f _=> ?_)
   all_goals unfold dA.IY dA.F5
   ·rw[aw (x:=(j:Int)+1) ω ω,ae j]
    exact ax (λ_=>qg (λ_=>eZ _ trivial) λ_=>aA ⟨ω,ω⟩ (eZ _ trivial)) λ_=>ω
   ·refine ax (λ_=>ω) λ_=>bk (len:=l.length) (F:=λn' j f=>dA.AY N (dA.l5 N n) n' d u L l s (i:Int) z.1 f j) (λ_ _=>True) trivial ω (λn' j f hj _ eZ=> ?_) (λn' f _=> ?_)
    all_goals unfold dA.AY dA.yl
    ·rw[aw (x:=(j:Int)+1) ω ω,ae j]
     exact ax (λ_=>qg (λ_=>eZ _ trivial) λ_=>aA ⟨ω,ω⟩ (eZ _ trivial)) λ_=>ω
    ·rw[aw (x:=(i:Int)+1) ω ω,ae i]
     dsimp only
     exact ax (λ_=>ω) λ_=>qg (λ_=>af (Xv N hN _ hm hL hl) λv hv=>aD (by rw[aK];omega) (hr _ (G.cat hI (G.one (m:=1) (G2 (jD ω ω) (BU hz hv)) (aI 1))))) λ_=>hr s (G.mono ω hI)
 ·exact ed (λ_=>ω) λ_=>an (G.mono ω hI)
theorem Xw(N:Nat)(hN:200000≤N){l:aG}(hl:l.length≤100000)(a:Int):Ok (λ_=>True) (rR N l a):=by
 unfold rR rR.b
 refine af (ux N hN hl) λ_ _=>bw (λ_=>fg) λ_=>kY (len:=l.length) (F:=λn i=>rR.l4 N n l a i) ω (λn i hi hr=> ?_) (λn=> ?_)
 all_goals unfold rR.l4 rR.dH
 ·rw[aw (x:=(i:Int)+1) ω ω,ae i]
  exact ax (λ_=>aA ⟨ω,ω⟩ (ok_eq (λ_=>aA ⟨ω,ω⟩ fg) λ_=>hr)) λ_=>ω
 ·exact ax (λ_=>ω) λ_=>fg
theorem KP(N:Nat)(a:Int):Ok (λ_=>True) (Xx N a):=by
 unfold Xx
 exact ok_eq (λ_=>fg) λ_=>fg
theorem Gj(N:Nat)(hN:5000000≤N)(c:ag){b:aq}{d:aG}{m:Nat}(hm:m≤50000)(hb:G m aJ b)(hd:L2 m d)(a k:Int):Ok (λr=>G m (.slice (.int .i64)) r.1) (rS N c b d a k):=by
 have hl:=hb.1.1
 have h2:=hd.1
 unfold rS rS.b
 refine bx (dQ N hN hm hb) (bw (λ_=>an G.nil) λ_=>af (ux N ω ω) λ_ _=>bw (λ_=>an G.nil) λ_=>bk (len:=b.1.length) (F:=λn i s=>rS.l5 N n d a k b s i) (λi s=>G i (.slice (.int .i64)) s) G.nil ω (λn i s hi hI hr=> ?_) (λn s hI=> ?_))
 all_goals unfold rS.l5 rS.fi
 ·have hs:=hI.1
  rw[aw (x:=(i:Int)+1) ω ω,ae i]
  have h1:=hr s (G.mono ω hI)
  have hx:G 0 (.int .i64) (b.1.getD (i:Int).toNat df).1:=(G.at hb.1 _).1
  exact ax (λ_=>aA ⟨ω,ω⟩ (af (KP N _) λ_ _=>qg (λ_=>bu (λ_=>af (mD N ω hm hb.2.2.1 _ _) λ_ _=>ax (λ_=>af (Xw N ω ω _) λ_ _=>ok_eq (λ_=>aD (by rw[aK];omega) (hr _ (G.cat hI (G.one hx (aI 1))))) λ_=>h1) λ_=>h1) λ_=>h1) λ_=>h1)) λ_=>ω
 ·exact ax (λ_=>ω) λ_=>an (G.mono hl hI)
theorem A3(N:Nat)(hN:200000≤N){a:aO}{m:Nat}(hm:m≤50000)(h:G m (.slice eR) a)(id:Int):Ok aH (yX N a id):=by
 refine nX (qB N (cA h.1 ω) hN id) ?_
 unfold nI
 split
 ·have: ∀l:aO,(∀x∈l,G m eR x)→aH (nH id l):=by
   intro l
   induction l with
   |nil=>intro _;exact bt
   |cons x t ih=>
    intro hx
    have hi:=ih λy hy=>hx y (a8 _ hy)
    rw[sP]
    split
    ·split
     ·exact(hx x (bp ..)).1
     ·exact hi
    ·exact hi
  exact this a h.2
 ·exact bt
abbrev L5(m:Nat)(l:bL):Prop:=G m (.slice tk) l
theorem G5{m:Nat}{a b c d e:Int}(ha:aH a)(hb:aH b)(hc:aH c)(hd:aH d)(he:aH e):G m tk (a,(b,(c,(d,(e,()))))):=⟨ha,hb,hc,hd,he,trivial⟩
theorem KQ(N:Nat)(hN:200000≤N){l:bL}{b:aq}{m k:Nat}(hm:m≤50000)(hb:G m aJ b)(hk:k≤1000000)(hl:L5 k l){a d n:Int}(ha:aH a)(hd:aH d)(hn:aH n):Ok (λr=>L5 (k+1) r) (KR N l b a d n):=by
 have h1:=hl.1
 unfold KR
 exact af (mD N hN hm hb.2.2.1 _ _) λx hx=>ax (λ_=>aD (by rw[aK];omega) (an (G.cat hl (G.one (m:=1) (G5 ha hd hn hx bt) (aI 1))))) λ_=>an (G.mono ω hl)
theorem NX(N:Nat)(hN:5000000≤N){c:ag}{b:aq}{d g:aG}{a:Int}{m:Nat}(hm:m≤50000)(hc:G m aB c)(hb:G m aJ b)(hd:L2 m d)(hg:L2 m g)(ha:aH a):Ok (λr=>L5 1000000 r.1) (cG N c b a d g):=by
 have h1:=hb.1.1
 have h2:=hd.1
 have h3:=hg.1
 have h4:=hb.2.1.1
 have hj: ∀l:bL,L5 1 l→Ok (λr=>L5 1000000 r.1) (cG.j9 N a d g c b l):=λl hl=>by
  unfold cG.j9 cG.M7
  refine af (KQ N ω hm hb ω hl bA bA ha) λl hl=>af (KQ N ω hm hb ω hl bA bA bt) λl hl=>jS (len:=5) (F:=λn k s=>cG.m5 N n a d g c b s k) (λk s=>L5 (3+m*k) s) (λn k s hk hs hr=> ?_) (λn s hs=> ?_) 5 N 1 l ω ω ω (G.mono ω hl)
  all_goals unfold cG.m5 cG.nK
  ·have hmk:m*k≤m*4:=lY m ω
   refine ed (λ_=>af (Gj N hN c hm hb hd _ _) λt ht=> ?_) λ_=>ω
   have htl:=ht.1
   refine bk (len:=t.1.length) (F:=λn' j u=>cG.sQ N (cG.m5 N n) n' a d g c b u (k:Int) t.1 j) (λj u=>L5 (3+m*k+j) u) hs ω (λn' j u hj hu eZ=> ?_) (λn' u hu=> ?_)
   all_goals unfold cG.sQ cG.so
   ·rw[aw (x:=(j:Int)+1) ω ω,ae j]
    exact ax (λ_=>aA ⟨ω,ω⟩ (af (KQ N ω hm hb ω hu (gN _) bA (G.at ht _)) λv hv=>eZ v hv)) λ_=>ω
   ·rw[aw (x:=(k:Int)+1) ω ω,ae k]
    exact ax (λ_=>ω) λ_=>hr u (G.mono (by rw[qS];omega) hu)
  ·refine ed (λ_=>ω) λ_=>bk (len:=b.1.length) (F:=λn j u=>cG.HT N n a g c b u j) (λj u=>L5 (3+m*5+j) u) hs ω (λn j u hj hu hr=> ?_) (λn u hu=> ?_)
   all_goals unfold cG.HT cG.NU
   ·have Hk:=hu.1
    have hx:aH (b.1.getD (j:Int).toNat df).1:=(G.at hb.1 _).1
    rw[aw (x:=(j:Int)+1) ω ω,ae j]
    have h0:=hr u (G.mono ω hu)
    exact ax (λ_=>aA ⟨ω,ω⟩ (af (KP N _) λ_ _=>bw (λ_=>h0) λ_=>ok_eq (λ_=>h0) λ_=>af (bq N ω hc.2.2.1) λp hp=>af (mD N ω hm hb.2.2.1 _ _) λq hq=>af (bq N ω hq) λq hq=>af (lT N ω ω ω hp hq) λy hy=>af (xh N hy) λv hv=>bw (λ_=>an G.nil) λ_=>ax (λ_=>aD (by rw[aK];omega) (hr _ (G.mono ω (G.cat hu (G.one (m:=1) (G5 (show aH 8 from bA) (show aH 7 from bA) hx hv bt) (aI 1)))))) λ_=>h0)) λ_=>ω
   ·refine ax (λ_=>ω) λ_=>bk (len:=g.length) (F:=λn j u=>cG.Nk N n a g b u j) (λj u=>L5 (3+m*5+m+j) u) (G.mono ω hu) ω (λn j u hj hu hr=> ?_) (λn u hu=> ?_)
    all_goals unfold cG.Nk cG.Ku
    ·have Hk:=hu.1
     rw[aw (x:=(j:Int)+1) ω ω,ae j]
     have h0:=hr u (G.mono ω hu)
     dsimp only
     exact ax (λ_=>aA ⟨ω,ω⟩ (af (xR N ω hm hb.2.1 _) λx hx=>aA ⟨ω,ω⟩ (aA ⟨ω,ω⟩ (af (mD N ω hm hb.2.2.1 _ _) λq hq=>qg (λ_=>bu (λ_=>ax (λ_=>aD (by rw[aK];omega) (hr _ (G.mono ω (G.cat hu (G.one (m:=1) (G5 (show aH 9 from bA) (show aH 5 from bA) hx.1 (aaB (G.at hg _).2.1 hq) bt) (aI 1)))))) λ_=>h0) λ_=>h0) λ_=>h0)))) λ_=>ω
    ·exact ax (λ_=>ω) λ_=>an (G.mono ω hu)
 unfold cG cG.b
 exact bx (dQ N hN hm hb) (bw (λ_=>an G.nil) λ_=>af (ux N ω ω) λ_ _=>bw (λ_=>an G.nil) λ_=>af (BW N ω ω) λ_ _=>bw (λ_=>an G.nil) λ_=>af (oJ N ω hm hb.1 _) λ_ _=>ok_eq (λ_=>an G.nil) λ_=>af (A3 N ω hm hb.2.1 _) λh hh=>bu (λ_=>af (KQ N ω hm hb ω (G.nil (m:=0)) bA bA hh) λl hl=>hj l hl) λ_=>hj [] G.nil)
end VM
end
section
namespace VM
open Go VM.F
theorem Jf(N:Nat)(hN:5000000≤N)(c:ag){b:aq}{m:Nat}(hm:m≤50000)(hb:G m aJ b):Ok (λr=>aH r.1) (aaN N c b):=by
 unfold aaN
 exact bx (dQ N hN hm hb) (bw (λ_=>an bt) λ_=>af (mD N ω hm hb.2.2.1 _ _) λx hx=>ok_eq (λ_=>an bt) λ_=>an (BU (gN _) bt))
theorem Gk(N:Nat)(hN:5000000≤N)(c:ag){b:aq}{m:Nat}(hm:m≤50000)(hb:G m aJ b):Ok (λr=>aH r.1) (aaO N c b):=by
 unfold aaO
 exact bx (dQ N hN hm hb) (bw (λ_=>an bt) λ_=>af (mD N ω hm hb.2.2.1 _ _) λx hx=>an (BU hx bt))
theorem aia(N:Nat)(a b:Int):Ok (λ_=>True) (Qg N a b):=by
 unfold Qg
 repeat' first|exact fg|refine ok_eq (λ_=> ?_) (λ_=> ?_)|refine ed (λ_=> ?_) (λ_=> ?_)
theorem Uj(N:Nat)(hN:200000≤N)(l:bL):Ok (λr=>r=true→l.length≤64) (rT N l):=by
 have hf:Ok (λr=>r=true→l.length≤64) (some false):=an λh=>nomatch h
 unfold rT rT.b
 refine ax (λ_=>hf) λhl=>kY (len:=l.length) (F:=λn i=>rT.l4 N n l i) ω (λn i hi hr=> ?_) (λn=> ?_)
 all_goals unfold rT.l4 rT.dH
 ·rw[aw (x:=(i:Int)+1) ω ω,ae i]
  dsimp only
  repeat' first|exact hr|exact hf|refine aA ⟨ω,ω⟩ ?_|refine aA (by rw[aw (x:=(i:Int)-1) ω ω];omega) ?_|refine ax (λ_=> ?_) (λ_=> ?_)|refine ed (λ_=> ?_) (λ_=> ?_)|refine ok_eq (λ_=> ?_) (λ_=> ?_)|(exfalso;omega)|refine af (aia N _ _) λ_ _=> ?_|refine bw (λ_=> ?_) (λ_=> ?_)
 ·exact ax (λ_=>ω) λ_=>an λ_=>ω
theorem Ss{σ β:Type}{P:β→Prop}{F:Nat→Int→σ→Option β}{len:Nat}(I:σ→Prop)
  (hs: ∀n i s,i<len→I s→(∀j s',i<j→j≤len→I s'→Ok P (F n (j:Int) s'))→Ok P (F (n+1) (i:Int) s)) (he: ∀n s,I s→Ok P (F (n+1) (len:Int) s)):
  ∀m n i s,len-i≤m→m<n→i≤len→I s→Ok P (F n (i:Int) s)
 |m,0,i,s,_,hn,_,_=>ω
 |m,n+1,i,s,hm,hn,hi,hI=>by
  by_cases h:i<len
  ·exact hs n i s h hI λj s' hj YP yw=>Ss I hs he (m-1) n j s' ω ω YP yw
  ·have:i=len:=ω
   subst this
   exact he n s hI
theorem G5q{m:Nat}{x:tg}{q:Int}(h:G m tk x)(hq:aH q):G m tk (x.1,(x.2.1,(x.2.2.1,(x.2.2.2.1,(q,x.2.2.2.2.2))))):=⟨h.1,h.2.1,h.2.2.1,h.2.2.2.1,hq,trivial⟩
theorem ann: ∀{w:List Int},Pos w→0≤w.sum
 |[],_=>fx _
 |x::t,h=>by
  rw[cH]
  have:=h x (bp ..)
  have:=ann (w:=t) λy hy=>h y (a8 _ hy)
  omega
theorem Uk{t:Int}{w:List Int}(h1:t<9223372036854775808)(h:(nS t w).2=0):(nS t w).1.length=w.length∧FX (nS t w).1:=by
 unfold nS at h ⊢
 split at h
 ·exact absurd h δ
 ·split at h
  ·exact absurd h δ
  ·rename_i h2 h3
   split at h
   ·split at h
    ·rename_i h4 h5
     rw[ah h2,ah h3,aj h4,aj h5]
     exact⟨ck ..,λx hx=>by rw[zo hx];decide⟩
    ·exact absurd h δ
   ·rename_i h4
    rw[ah h2,ah h3,ah h4]
    have hm:may w=true:=by
     by_cases hm:may w=true
     ·exact hm
     ·exact absurd (Or.inr (qM.2 hm)) h2
    have hp:=(gT.1 hm).2
    have h0:0≤t:=ω
    have hS:0<w.sum:=by have:=ann hp;omega
    exact⟨iu t w,afZ (vo h0 hS hp) (by rw[rI h0 hS];exact h1)⟩
theorem aaP{α:Type}{Q:α→Prop}{l:List α}{x:α}{k:Nat}(h: ∀y∈l,Q y)(hx:Q x): ∀y∈l.set k x,Q y:=λy hy=>by
 rcases tA hy with hy|rfl
 ·exact h y hy
 ·exact hx
theorem Su{α:Type}{Q:α→Prop}{l:List α}{d:α}{k:Nat}(h: ∀y∈l,Q y)(hk:k<l.length):Q (l.getD k d):=by
 rw[aR,bl hk];exact h _ (eL hk)
theorem Jg(N:Nat)(hN:5000000≤N){l:bL}{q:Int}{Q:tg→Prop}(hQ: ∀x,Q x→aH x.2.2.2.1)(hU: ∀(x:tg) (v:Int),Q x→aH v→Q (x.1,(x.2.1,(x.2.2.1,(x.2.2.2.1,(v,x.2.2.2.2.2))))))(hl: ∀x∈l,Q x)(hq:aH q):Ok (λr=>(r.1.length≤64∧ ∀x∈r.1,Q x)∧aH r.2.1) (dG N l q):=by
 have dR: ∀e:Int,Ok (λr:bL×Int×Int=>(r.1.length≤64∧ ∀x∈r.1,Q x)∧aH r.2.1) (some ([],((0:Int),e))):=λe=>an ⟨⟨bG _,λx hx=>nomatch hx⟩,bt⟩
 unfold dG dG.b
 refine af (Uj N ω l) λz hz=>bw (λ_=>dR _) λht=>ax (λ_=>dR _) λ_=> ?_
 have vU:=hz ht
 rw[cL]
 refine aD (by rw[bZ];omega) (Ss (len:=l.length) (F:=λn i (s:bL×Int)=>dG.l5 N n s.1 s.2 i) (λs=>s.1.length=l.length∧(∀x∈s.1,Q x)∧aH s.2) (λn i s hi hI hr=> ?_) (λn s hI=> ?_) l.length N 0 (l,q) ω ω ω ⟨rfl,hl,hq⟩)
 all_goals unfold dG.l5 dG.fi
 ·obtain⟨Py,Wb,hs3⟩:=hI
  refine ax (λ_=> ?_) λ_=>ω
  have fin: ∀(k:Nat) (w:List Int),i<k→k≤l.length→w.length=k-i→FX w→Ok (λr=>(r.1.length≤64∧ ∀x∈r.1,Q x)∧aH r.2.1) (dG.Jd N (dG.l5 N n) s.1 s.2 (i:Int) (k:Int) w):=λk w hk Hv hw BL=>by
   unfold dG.Jd dG.BV
   have EZ:aH (mn (Ap w.sum).1 s.2):=aaB (QG _) hs3
   refine bx (yT N ω BL ω) (bx (tc N _) (bw (λ_=>dR _) λ_=>bx (BN N hN EZ.2 BL ω) (bu (λ_=>dR _) λh0=> ?_)))
   obtain⟨e1,e2⟩:=Uk EZ.2 h0
   generalize (nS (mn (Ap w.sum).1 s.2) w).1=v at*
   refine jS (len:=k) (F:=λn' j (z:bL×Int)=>dG.AY N (dG.l5 N n) n' z.1 z.2 (i:Int) (k:Int) v j) (λj z=>i≤j∧z.1.length=l.length∧(∀x∈z.1,Q x)∧aH z.2) (λn' j z hj hz eZ=> ?_) (λn' z hz=> ?_) k N i s ω ω ω ⟨aI i,Py,Wb,hs3⟩
   all_goals unfold dG.AY dG.yl
   ·obtain⟨pF,Cv,Hj,hz3⟩:=hz
    dsimp only
    rw[aw (x:=(j:Int)+1) ω ω,ae j,aw (x:=(j:Int)-i) ω ω]
    exact ax (λ_=>aA ⟨ω,ω⟩ (aA ⟨ω,ω⟩ (aA ⟨ω,ω⟩ (eZ (_,_) ⟨ω,by dsimp only;rw[List.length_set];exact Cv,aaP Hj (hU _ _ (Su Hj ω) (rq e2 _)),gN _⟩)))) λ_=>ω
   ·exact ax (λ_=>ω) λ_=>hr k z hk Hv hz.2
  refine jS (len:=l.length) (F:=λn' k w=>dG.l8 N (dG.l5 N n) n' s.1 s.2 (i:Int) k w) (λk w=>i≤k∧w.length=k-i∧FX w) (λn' k w hk hw eZ=> ?_) (λn' w hw=> ?_) l.length N i [] ω ω ω ⟨aI i,by rw[bZ];omega,λx hx=>nomatch hx⟩
  all_goals unfold dG.l8 dG.CQ
  ·obtain⟨hik,hwl,BL⟩:=hw
   rw[aw (x:=(k:Int)+1) ω ω,ae k]
   refine ax (λ_=>aA ⟨ω,ω⟩ (aA ⟨ω,ω⟩ (ok_eq (λ_=>aA ⟨ω,ω⟩ (aD (by rw[aK];omega) (eZ _ ⟨ω,by rw[aT,aK];omega,λx hx=> ?_⟩))) λiI=> ?_))) λ_=>ω
   ·rcases bo.1 hx with hx|hx
    ·exact BL x hx
    ·rw[cm.1 hx];exact hQ _ (Su Wb ω)
   ·refine fin k w ?_ ω hwl BL
    by_cases e:k=i
    ·subst e;exact absurd rfl iI
    ·omega
  ·exact ax (λ_=>ω) λ_=>fin l.length w hi (aI _) hw.2.1 hw.2.2
 ·exact ax (λ_=>ω) λ_=>an ⟨⟨by have:=hI.1;dsimp only;omega,hI.2.1⟩,hI.2.2⟩
theorem QP(N:Nat)(hN:5000000≤N){l:bL}{q:Int}{m:Nat}(hl:L5 m l)(hq:aH q):Ok (λr=>L5 64 r.1∧aH r.2.1) (dG N l q):=
 Jg N hN (Q:=G 64 tk) (λx hx=>hx.2.2.2.1) (λx v hx hv=>G5q hx hv) (λx hx=>G.mono (m:=0) (bG _) (hl.2 x hx)) hq
abbrev R0:dT:=((0:Int),((0:Int),(([]:bL),((0:Int),()))))
theorem Jh(N:Nat)(hN:5000000≤N){c:ag}{b:aq}{d g:aG}{a:Int}{m:Nat}(h2:200≤m)(hm:m≤40000)(hc:G m aB c)(hb:G m aJ b)(hd:L2 m d)(hg:L2 m g)(ha:aH a):Ok (λr=>G m aJ r.1∧G m gv r.2.1) (iw N c b a d g):=by
 have dR: ∀e:Int,Ok (λr:aq×dT×Int=>G m aJ r.1∧G m gv r.2.1) (some ((cw,(dh,(bK,(bK,(dV,(eh,())))))),(R0,e))):=λe=>an ⟨G.iT,G.zero m gv⟩
 unfold iw iw.b
 refine af (NX N hN ω hc hb hd hg ha) λl hl=>ok_eq (λ_=>dR _) λ_=>ok_eq (λ_=>dR _) λ_=>af (Jf N hN c ω hb) λq hq=>bu (λ_=>dR _) λ_=>bu (λ_=>dR _) λ_=>af (QP N hN hl hq) λz ⟨Cv,Hj⟩=>bu (λ_=>dR _) λ_=> ?_
 have hzl:=Cv.1
 have hj: ∀(p:bE) (r:dT) (t:bL) (x k n:Int),jZ 1000 p→G m gv r→L5 64 t→aH x→Ok (λr=>G m aJ r.1∧G m gv r.2.1) (iw.j26 N b (cw,(dh,(bK,(bK,(dV,(eh,())))))) R0 p r t x k n):=λp r t x k n hp hr ht hx=>by
  have Dr:=hp.1
  unfold iw.j26 iw.aaQ
  exact af (bq N ω hx) λv hv=>af (sX N ω _ _ _ _ (Bg.mono hv ω)) λu hu=>aD (by have:=hu.1;omega) (af (sV N ω h2 ω hb G.nil (jZ.mono (jZ.app hp hu) ω)) λw hw=>bu (λ_=>dR _) λ_=>an ⟨hw,hr.1,hr.2.1,G.mono ω ht,hr.2.2.2⟩)
 refine bk (len:=z.1.length) (F:=λn i (s:bE×dT×bL)=>iw.IM N n a c b (cw,(dh,(bK,(bK,(dV,(eh,())))))) R0 z.1 z.2.1 s.1 s.2.1 s.2.2 i) (s:=(_,(_,_))) (λi s=>jZ (2*i) s.1∧G m gv s.2.1∧L5 i s.2.2) ⟨jZ.nil,⟨ha,hq,G.nil,Hj,trivial⟩,G.nil⟩ ω (λn i s hi hI hr=> ?_) (λn s hI=> ?_)
 all_goals unfold iw.IM iw.HN
 ·obtain⟨h4,h5,h6⟩:=hI
  have hp:=h4.1
  have ht:=h6.1
  have hx:G 0 tk (z.1.getD (i:Int).toNat ny):=G.at Cv _
  rw[aw (x:=(i:Int)+1) ω ω,ae i]
  exact ax (λ_=>aA ⟨ω,ω⟩ (ax (λ_=>aA ⟨ω,ω⟩ (aD (by rw[aK];omega) (aA ⟨ω,ω⟩ (aA ⟨ω,ω⟩ (aA ⟨ω,ω⟩ (af (bq N ω hx.2.2.2.2.1) λv hv=>af (sX N ω _ _ _ _ (Bg.mono hv ω)) λu hu=>aD (by have:=hu.1;omega) (hr (_,(_,_)) ⟨jZ.mono (jZ.app h4 hu) ω,⟨h5.1,h5.2.1,G.nil,h5.2.2.2⟩,G.cat h6 (G.one hx (aI 1))⟩))))))) λ_=>hr s ⟨jZ.mono h4 ω,h5,G.mono ω h6⟩)) λ_=>ω
 ·obtain⟨h4,h5,h6⟩:=hI
  have hp:=h4.1
  dsimp only
  exact ax (λ_=>ω) λ_=>af (bq N ω Hj) λv hv=>af (sX N ω _ _ _ _ (Bg.mono hv ω)) λu hu=>aD (by have:=hu.1;omega) (af (Gk N hN c ω hb) λx hx=>af (A3 N ω ω hb.2.1 _) λh hh=>bu (λ_=>hj _ _ _ _ _ _ (jZ.mono (jZ.app h4 hu) ω) h5 (G.mono ω h6) hx) λ_=>hj _ _ _ _ _ _ (jZ.mono (jZ.app h4 hu) ω) h5 (G.mono ω h6) hx)
end VM
end
section
namespace VM
open Go VM.F
theorem Ul(N:Nat)(hN:5000000≤N){t:Int}{w:List Int}(ht:t<9223372036854775808)(hw:FX w)(hl:w.length≤1000000):Ok (λr=>r.2.2=0→r.1.length=w.length∧FX r.1) (eW N t w w):=by
 refine nX (Gc N hN ht hw hw hl) λh0=> ?_
 have f:=Ge ht hw h0
 have c:=f.c
 have hl2:=c.l2
 refine⟨hl2,λx hx=> ?_⟩
 obtain⟨i,hi,e⟩:=fX hx
 have h1:=c.le i ω
 have h2:=(c.pc i).2
 have h3:=c.po i
 rw[aR (l:=(mq t w w).1),bl hi,ni,e]at h1 h3
 exact⟨ω,ω⟩
theorem aaR(N:Nat)(hN:5000000≤N)(c:ag){b:aq}{m:Nat}(hm:m≤40000)(hb:G m aJ b){a:Int}(ha:aH a):Ok (λr=>L3 (m+1) r.1) (oK N c b a):=by
 have w:=(G.wf ω hb).w
 have hl:=hb.2.2.2.1.1
 unfold oK oK.b
 refine bx (dQ N hN ω hb) (bw (λ_=>an G.nil) λ_=>ax (λ_=>an G.nil) λ_=>ed (λ_=>an G.nil) λ_=>bx (xJ N w.s ω 0 a) (ok_eq (λ_=>an G.nil) λ_=> ?_))
 have hq:=WX w.qs 0 a
 generalize bn b.2.2.2.1 0 a=q at*
 refine bk (len:=b.2.2.2.1.length) (F:=λn i (s:List Int×List Int)=>oK.xi N n a b q s.1 s.2 i) (s:=(_,_)) (λi s=>s.1.length≤i∧s.2.length=s.1.length∧FX s.1∧FX s.2) ⟨bG _,rfl,(λx hx=>nomatch hx),λx hx=>nomatch hx⟩ ω (λn i s hi hI hr=> ?_) (λn s hI=> ?_)
 all_goals unfold oK.xi oK.uv
 ·obtain⟨h1,h2,h3,h4⟩:=hI
  have hx:G 0 jA (b.2.2.2.1.getD (i:Int).toNat bf):=G.at hb.2.2.2.1 _
  rw[aw (x:=(i:Int)+1) ω ω,ae i]
  have h0:=hr s ⟨ω,h2,h3,h4⟩
  have sn: ∀{l:List Int} {x:Int},FX l→aH x→FX (l++[x]):=λhl hx y hy=>(bo.1 hy).elim (hl y) λhy=>by rw[cm.1 hy];exact hx
  dsimp only
  exact ax (λ_=>aA ⟨ω,ω⟩ (bu (λ_=>ok_eq (λ_=>qg (λ_=>aD (by rw[List.length_singleton];omega) (aD (by rw[List.length_singleton];omega) (hr (_,_) ⟨by dsimp only;rw[List.length_append,List.length_singleton];omega,by dsimp only;rw[List.length_append,List.length_append,List.length_singleton,List.length_singleton];omega,sn h3 hx.1,sn h4 (BU hx.2.2.1 (gN _))⟩))) λ_=>h0) λ_=>h0) λ_=>h0)) λ_=>ω
 ·obtain⟨h1,h2,h3,h4⟩:=hI
  refine ax (λ_=>ω) λ_=>af (Ul N hN (BU hq (gN _)).2 h4 ω) λz hz=>bu (λ_=>an G.nil) λh0=> ?_
  obtain⟨e1,e2⟩:=hz h0
  refine bk (len:=z.1.length) (F:=λn i u=>oK.y5 N n a q s.1 z.1 u i) (λi u=>L3 (1+i) u) (G.one (m:=1) (G3 bt ha (gN _)) (aI 1)) ω (λn i u hi hu hr=> ?_) (λn u hu=> ?_)
  all_goals unfold oK.y5 oK.AT
  ·have Hk:=hu.1
   rw[aw (x:=(i:Int)+1) ω ω,ae i]
   have h0:=hr u (G.mono ω hu)
   have put: ∀x:Int,aH x→Ok (λr=>L3 (m+1) r.1) (cond (small (u.length+[((s.1.getD (i:Int).toNat 0,(a,(x,()))):dd)].length)) (oK.y5 N n a q s.1 z.1 (u++[(s.1.getD (i:Int).toNat 0,(a,(x,())))]) ((i+1:Nat):Int)) none):=λx hx=>aD (by rw[aK];omega) (hr _ (G.mono ω (G.cat hu (G.one (m:=1) (G3 (rq h3 _) ha hx) (aI 1)))))
   dsimp only
   exact ax (λ_=>aA ⟨ω,ω⟩ (ax (λ_=>bu (λ_=>aA ⟨ω,ω⟩ (put _ (gN _))) λ_=>h0) λ_=>bu (λ_=>aA ⟨ω,ω⟩ (put _ (rq e2 _))) λ_=>h0)) λ_=>ω
  ·exact ax (λ_=>ω) λ_=>an (G.mono ω hu)
theorem Sv(N:Nat)(hN:5000000≤N){c:ag}{b:aq}{m:Nat}(h2:200≤m)(hm:m≤7000)(hc:G 5 aB c)(hb:G m aJ b):Ok (λr=>G m aJ r.1) (A4 N c b):=by
 have Ma:=hc.1.1
 unfold A4 A4.b
 refine bx (dQ N hN ω hb) (bw (λ_=>an G.iT) λ_=>bk (len:=c.1.length) (F:=λn i s=>A4.l5 N n c b (cw,(dh,(bK,(bK,(dV,(eh,())))))) s i) (λi s=>L3 ((m+1)*i) s) G.nil ω (λn i s hi hI hr=> ?_) (λn s hI=> ?_))
 all_goals unfold A4.l5 A4.fi
 ·have hs:=hI.1
  have hmi:(m+1)*i≤(m+1)*5:=lY _ ω
  rw[aw (x:=(i:Int)+1) ω ω,ae i]
  exact ax (λ_=>af (aaR N hN c ω hb (jD ω ω)) λr hrr=>bu (λ_=>an G.iT) λ_=>aD (by have:=hrr.1;omega) (hr _ (G.mono (by rw[qS];omega) (G.cat hI hrr)))) λ_=>ω
 ·have hmi:(m+1)*c.1.length≤(m+1)*5:=lY _ ω
  exact ax (λ_=>ω) λ_=>af (sV N ω h2 ω hb (G.mono ω hI) jZ.nil) λr hr=>an hr
end VM
end
section
namespace VM
open Go VM.F
theorem Sw(N:Nat)(hN:200000≤N){l:aO}{m:Nat}(hm:m≤50000)(h:G m (.slice eR) l)(a:Int):Ok (λr=>G 0 eR r.1) (Gl N l a):=by
 have hl:=h.1
 have hz:G 0 eR a7:=G.zero 0 eR
 unfold Gl Gl.b
 refine bx (uq N ω hN) (bw (λ_=>an hz) λ_=>bk (len:=l.length) (F:=λn i (z:cy×Bool)=>Gl.l6 N n l a a7 z.1 z.2 i) (s:=(_,_)) (λ_ z=>G 0 eR z.1) hz ω (λn i z hi hI hr=> ?_) (λn z hI=> ?_))
 all_goals unfold Gl.l6 Gl.tb
 ·rw[aw (x:=(i:Int)+1) ω ω,ae i]
  have hx:G 0 eR (l.getD (i:Int).toNat a7):=G.at h _
  have h1:=hr z hI
  have h2:=hr (_,true) hx
  repeat' first|exact h1|exact h2|refine aA ⟨ω,ω⟩ ?_|refine ax (λ_=> ?_) (λ_=> ?_)|refine ok_eq (λ_=> ?_) (λ_=> ?_)|refine bw (λ_=> ?_) (λ_=> ?_)|(exfalso;omega)
 ·exact ax (λ_=>ω) λ_=>an hI
theorem GL{m:Nat}{a b d e f:Int}{l:aG}(ha:aH a)(hl:L2 m l)(hb:aH b)(hd:aH d)(he:aH e)(hf:aH f):G m jF (a,(l,(b,(d,(e,(f,())))))):=⟨ha,hl,hb,hd,he,hf,trivial⟩
theorem LL.app{m:Nat}{k:Nat}{l:bz}{x:jb}(hl:l.length≤k∧ ∀y∈l,G m jF y)(hx:G m jF x):(l++[x]).length≤k+1∧ ∀y∈l++[x],G m jF y:=
 ⟨by rw[aT,aK];have:=hl.1;omega,λy hy=>(bo.1 hy).elim (hl.2 y) λhy=>by rw[cm.1 hy];exact hx⟩
theorem NY(N:Nat)(hN:5000000≤N)(c:ag){b:aq}{L:bz}{l:aO}{m:Nat}(h2:200≤m)(hm:m≤2000)(hb:G m aJ b)(hL:LL m L)(hl:G m (.slice eR) l):Ok (λr=>G m aJ r.1∧LL m r.2.1) (oZ N c b L l):=by
 have dR: ∀e:Int,Ok (λr:aq×bz×Int=>G m aJ r.1∧LL m r.2.1) (some ((cw,(dh,(bK,(bK,(dV,(eh,())))))),([],e))):=λe=>an ⟨G.iT,G.nil⟩
 have h3:=hL.1
 have h4:=hl.1
 have hw:IT L:=λy hy=>cA (hL.2 y hy).2.1.1 ω
 unfold oZ oZ.b
 refine bx (dQ N hN ω hb) (bw (λ_=>dR _) λ_=>bx (AL N ω c ω hw) (bw (λ_=>dR _) λhk=>bx (uq N ω ω) (bw (λ_=>dR _) λ_=> ?_)))
 have h12:L.length≤12:=by
  unfold BI at hk
  exact bF (dm.1 (dm.1 hk).2).1
 refine bk (len:=L.length) (F:=λn i (z:au×bE×bz)=>oZ.l7 N n L l b (cw,(dh,(bK,(bK,(dV,(eh,())))))) z.1 z.2.1 z.2.2 i) (s:=(_,(_,_))) (λi z=>L3 (2*m*i) z.1∧jZ (2*i) z.2.1∧z.2.2.length≤i∧ ∀y∈z.2.2,G m jF y) ⟨G.nil,jZ.nil,bG _,λy hy=>nomatch hy⟩ ω (λn i z hi hI hr=> ?_) (λn z hI=> ?_)
 all_goals unfold oZ.l7 oZ.pN
 ·obtain⟨h5,h6,h7⟩:=hI
  have h8:=h6.1
  have h9:=h7.1
  have hmi:2*m*i≤2*m*12:=lY _ ω
  have hms:2*m*(i+1)=2*m*i+2*m:=qS _ _
  have hx:G m jF (L.getD (i:Int).toNat ((0:Int),(cw,a7))):=G.at hL _
  have hxl:=hx.2.1.1
  rw[aw (x:=(i:Int)+1) ω ω,ae i]
  dsimp only
  rw[cL]
  have put: ∀x:jb,G m jF x→Ok (λr=>G m aJ r.1∧LL m r.2.1) (cond (small (z.2.2.length+[x].length)) (oZ.l7 N n L l b (cw,(dh,(bK,(bK,(dV,(eh,())))))) z.1 z.2.1 (z.2.2++[x]) ((i+1:Nat):Int)) none):=λx hx=>aD (by rw[aK];omega) (hr (z.1,(z.2.1,z.2.2++[x])) ⟨G.mono ω h5,jZ.mono h6 ω,LL.app h7 hx⟩)
  refine ax (λ_=>aA ⟨ω,ω⟩ (aD (by rw[bZ];omega) (bu (λ_=>put _ hx) λ_=>af (Sw N ω ω hl _) λw hw=>bw (λ_=>put _ (GL hx.1 hx.2.1 hx.2.2.1 (show aH 3 from bA) hx.2.2.2.2.1 hx.2.2.2.2.2.1)) λ_=>af (A3 N ω ω hb.2.1 _) λh hh=>ok_eq (λ_=>dR _) λ_=>af (qF N ω ω hb _) λ_ _=>ok_eq (λ_=>dR _) λ_=> ?_))) λ_=>ω
  have pK:=GL hx.1 hx.2.1 hx.2.2.1 (show aH 2 from bA) hw.2.2.1 hw.2.2.2.1
  generalize hX:(((L.getD (i:Int).toNat ((0:Int),(cw,a7))).1,((L.getD (i:Int).toNat ((0:Int),(cw,a7))).2.1,((L.getD (i:Int).toNat ((0:Int),(cw,a7))).2.2.1,((2:Int),(w.1.2.2.1,(w.1.2.2.2.1,())))))):jb)=X at pK
  have hXl:X.2.1.length≤m:=pK.2.1.1
  refine bk (len:=X.2.1.length) (F:=λn' j u=>oZ.w4 N (oZ.l7 N n) n' L l b (cw,(dh,(bK,(bK,(dV,(eh,())))))) u z.2.1 z.2.2 (i:Int) X w.1 h j) (s:=z.1) (λj u=>L3 (2*m*i+2*j) u) h5 ω (λn' j u hj hu eZ=> ?_) (λn' u hu=> ?_)
  all_goals unfold oZ.w4 oZ.vV
  ·have Hk:=hu.1
   have hy:G m ka (X.2.1.getD (j:Int).toNat df):=G.at pK.2.1 _
   dsimp only
   rw[aw (x:=(j:Int)+1) ω ω,ae j]
   exact ax (λ_=>aA ⟨ω,ω⟩ (aA ⟨ω,ω⟩ (aA ⟨ω,ω⟩ (aA ⟨ω,ω⟩ (aD (by rw[sW];omega) (eZ _ (G.mono ω (G.cat hu (G.two (m:=2) (G3 bt hy.1 (gN _)) (G3 hh hy.1 hy.2.1) (aI 2)))))))))) λ_=>ω
  ·refine ax (λ_=>ω) λ_=>af (bq N ω hw.2.2.2.1) λv hv=>af (sX N ω _ _ _ _ (Bg.mono hv ω)) λp hp=>aD (by have:=hp.1;omega) (aD (by rw[aK];omega) ?_)
   rw[aw (x:=(i:Int)+1) ω ω,ae i]
   exact hr (_,(_,_)) ⟨G.mono ω hu,jZ.mono (jZ.app h6 hp) ω,LL.app h7 pK⟩
 ·obtain⟨h5,h6,h7⟩:=hI
  have hmi:2*m*L.length≤2*m*12:=lY _ ω
  exact ax (λ_=>ω) λ_=>af (sV N ω h2 ω hb (G.mono ω h5) (jZ.mono h6 ω)) λr hr=>bu (λ_=>dR _) λ_=>an ⟨hr,cA h7.1 ω,h7.2⟩
end VM
end
section
namespace VM
open Go VM.F
theorem NZ{l:aO}(h:gX l=true):l.length≤24:=by
 unfold gX at h
 rw[gn]at h
 have h:=bF h
 have key: ∀i,i<l.length→(i:Int)+1≤(l.getD i a7).1:=by
  intro i
  induction i with
  |zero=>intro hi;exact(h 0 hi).1.1.1
  |succ i ih=>
   intro hi
   have h1:=ih ω
   have h2:(l.getD i a7).1<(l.getD (i+1) a7).1:=(h (i+1) hi).2.1 ω
   have g: ∀a b:Int,(i:Int)+1≤a→a<b→((i+1:Nat):Int)+1≤b:=λa b h1 h2=>ω
   exact g _ _ h1 h2
 by_cases hl:l.length≤24
 ·exact hl
 ·have h1:=key 24 ω
  have h2:=(h 24 ω).1.1.2
  have g: ∀a:Int,((24:Nat):Int)+1≤a→a≤24→False:=λa h1 h2=>ω
  exact(g _ h1 h2).elim
theorem Ji(N:Nat)(hN:5000000≤N){c:ag}{b:aq}{m:Nat}(hm:m≤40000)(hc:G m aB c)(hb:G m aJ b)(a:Int):Ok (λr=>aH r.1) (aaT N c b a):=by
 unfold aaT Xu
 exact bx (dQ N hN ω hb) (bw (λ_=>an bt) λ_=>af (xR N ω ω hb.2.1 _) λ_ _=>bw (λ_=>an bt) λ_=>af (NK N ω ω hb.2.2.2.1 _) λl hl=>af (Q:=λr=>Bg 60000 r.1) (af (BY N ω ω hc hl _) λr hr=>an hr) λu hu=>af (uw N ω ω hb _) λg hg=>ed (λ_=>an bt) λ_=>af (xh N hu) λv hv=>qg (λ_=>ax (λ_=>an hv) λ_=>an hg) λ_=>an hg)
theorem Xy(N:Nat)(hN:200000≤N){l:au}{a d:Int}{m:Nat}(hm:m≤50000)(h:L3 m l)(ha:aH a)(hd:aH d):Ok (λr=>L3 (2*m) r) (mY N l a d):=by
 have hl:=h.1
 unfold mY mY.b
 refine bx (mM N ω hN) (bw (λ_=>an G.nil) λ_=>ok_eq (λ_=>an G.nil) λ_=>ax (λ_=>an G.nil) λ_=>ax (λ_=>an G.nil) λ_=>ax (λ_=>an G.nil) λ_=>ax (λ_=>an G.nil) λ_=>bk (len:=l.length) (F:=λn i s=>mY.l5 N n l a d s i) (λi s=>L3 (2*i) s) G.nil ω (λn i s hi hI hr=> ?_) (λn s hI=> ?_))
 all_goals unfold mY.l5 mY.fi
 ·have hs:=hI.1
  have hx:=G.at h (i:Int).toNat
  dsimp only
  rw[aw (x:=(i:Int)+1) ω ω,ae i]
  have h1:=hr s (G.mono ω hI)
  exact ax (λ_=>aA ⟨ω,ω⟩ (ok_eq (λ_=>aA ⟨ω,ω⟩ (aA ⟨ω,ω⟩ (aA ⟨ω,ω⟩ (aA ⟨ω,ω⟩ (aD (by rw[sW];omega) (hr _ (G.mono ω (G.cat hI (G.two (m:=2) (G3 ha hx.2.1 (gN _)) (G3 hd hx.2.1 hx.2.2.1) (aI 2)))))))))) λ_=>h1)) λ_=>ω
 ·exact ax (λ_=>ω) λ_=>an (G.mono ω hI)
theorem aaU(N:Nat)(hN:5000000≤N){c:ag}{b:aq}{m:Nat}(h2:200≤m)(hm:m≤1000)(hc:G m aB c)(hb:G m aJ b)(a:Int):Ok (λr=>G m aJ r.1) (gF N c b a):=by
 unfold gF gF.b
 refine bx (dQ N hN ω hb) (bw (λ_=>an G.iT) λhB=>af (qF N ω ω hb _) λ_ _=>ok_eq (λ_=>an G.iT) λ_=> ?_)
 have hal:b.2.1.length≤24:=by
  unfold eu at hB
  have h1:=(dm.1 (dm.1 hB).2).1
  unfold rB at h1
  exact NZ (dm.1 (dm.1 h1).2).1
 refine bk (len:=b.2.1.length) (F:=λn i (z:au×bE)=>gF.l8 N n a c b (cw,(dh,(bK,(bK,(dV,(eh,())))))) z.1 z.2 i) (s:=(_,_)) (λi z=>L3 (2*m*i) z.1∧jZ (4*i) z.2) ⟨G.nil,jZ.nil⟩ ω (λn i z hi hI hr=> ?_) (λn z hI=> ?_)
 all_goals unfold gF.l8 gF.CQ
 ·obtain⟨h5,h6⟩:=hI
  have h7:=h5.1
  have h8:=h6.1
  have hmi:2*m*i≤2*m*24:=lY _ ω
  have hms:2*m*(i+1)=2*m*i+2*m:=qS _ _
  have hx:G m eR (b.2.1.getD (i:Int).toNat a7):=G.at hb.2.1 _
  have hj: ∀p:bE,jZ (4*i+2) p→Ok (λr=>G m aJ r.1) (gF.BT N (gF.l8 N n) a c b (cw,(dh,(bK,(bK,(dV,(eh,())))))) z.1 p (i:Int) (b.2.1.getD (i:Int).toNat a7)):=λp hp=>by
   have Dr:=hp.1
   unfold gF.BT gF.vW
   rw[aw (x:=(i:Int)+1) ω ω,ae i]
   exact af (uw N ω ω hb _) λg hg=>ax (λ_=>af (bq N ω hg) λv hv=>af (qE N ω ω hv) λv hv=>af (sX N ω _ _ _ _ (Bg.mono hv ω)) λu hu=>aD (by have:=hu.1;omega) (af (Xy N ω ω hb.2.2.2.1 hx.1 bt) λs hs=>aD (by have:=hs.1;omega) (hr (_,_) ⟨G.mono ω (G.cat h5 hs),jZ.mono (jZ.app hp hu) ω⟩))) λ_=>af (Xy N ω ω hb.2.2.2.1 hx.1 bt) λs hs=>aD (by have:=hs.1;omega) (hr (_,_) ⟨G.mono ω (G.cat h5 hs),jZ.mono hp ω⟩)
  rw[aw (x:=(i:Int)+1) ω ω,ae i]
  exact ax (λ_=>aA ⟨ω,ω⟩ (bu (λ_=>hr z ⟨G.mono ω h5,jZ.mono h6 ω⟩) λ_=>ok_eq (λ_=>af (Ji N hN ω hc hb _) λq hq=>af (bq N ω hq) λv hv=>af (sX N ω _ _ _ _ (Bg.mono hv ω)) λu hu=>aD (by have:=hu.1;omega) (hj _ (jZ.mono (jZ.app h6 hu) ω))) λ_=>hj _ (jZ.mono h6 ω))) λ_=>ω
 ·obtain⟨h5,h6⟩:=hI
  have hmi:2*m*b.2.1.length≤2*m*24:=lY _ ω
  exact ax (λ_=>ω) λ_=>af (sV N ω h2 ω hb (G.mono ω h5) (jZ.mono h6 ω)) λr hr=>an hr
abbrev GS(m:Nat)(s:aU):Prop:=G m ew s
abbrev SR(m:Nat)(r:aU×dd):Prop:=GS m r.1
theorem KS(N:Nat)(e:Int):Ok (λ_=>True) (fF N e):=by
 unfold fF;exact fg
theorem Um(N:Nat)(hN:5000000≤N){c:ag}{s:aU}{e:ia}{m:Nat}(h2:200≤m)(hm:m≤1000)(hc:G m aB c)(hs:GS m s)(he:G 0 pv e):Ok (SR m) (n7 N c s e):=by
 have hhl:=hs.2.2.2.1.2.2.2.2.1.1
 unfold n7 n7.b
 generalize ((0:Int),((0:Int),_))=S0
 refine bk (len:=s.2.2.2.1.2.2.2.2.1.length) (F:=λn i (z:aU×aO×Bool×Int)=>n7.l5 N n c z.1 e S0 bf z.2.1 z.2.2.1 z.2.2.2 i) (s:=(_,(_,(_,_)))) (λi z=>GS m z.1∧z.1.2.2.2.1.2.2.2.2.1=s.2.2.2.1.2.2.2.2.1∧G i (.slice eR) z.2.1) ⟨hs,rfl,G.nil⟩ ω (λn i z hi hI hr=> ?_) (λn z hI=> ?_)
 all_goals unfold n7.l5 n7.fi
 ·obtain⟨hz,hh,ho⟩:=hI
  have Im:=ho.1
  rw[hh,aw (x:=(i:Int)+1) ω ω,ae i]
  have hx:G 0 eR (s.2.2.2.1.2.2.2.2.1.getD (i:Int).toNat a7):=G.at hs.2.2.2.1.2.2.2.2.1 _
  refine ax (λ_=>aA ⟨ω,ω⟩ (ok_eq (λ_=>af (Sp N hN h2 ω hc hz.2.2.1 (G.mono (bG m) hx) he.2.2.1 he.2.2.2.2.2.2.1 he.2.2.2.2.2.2.2.1) λr ⟨zf,zV⟩=>bu (λ_=>af (KS N _) λ_ _=>an hz) λ_=> ?_) λ_=>ax (λ_=>aD (by rw[aK];omega) (hr (z.1,(z.2.1++[s.2.2.2.1.2.2.2.2.1.getD (i:Int).toNat a7],z.2.2)) ⟨hz,hh,G.cat ho (G.one hx (aI 1))⟩)) λ_=>hr z ⟨hz,hh,G.mono ω ho⟩)) λ_=>ω
  have Dm:GS m (z.1.1,(z.1.2.1,(r.1,z.1.2.2.2))):=⟨hz.1,hz.2.1,zf,hz.2.2.2⟩
  have aib:G 0 eR r.2.1:=zV
  exact ax (λ_=>aD (by rw[aK];omega) (hr ((z.1.1,(z.1.2.1,(r.1,z.1.2.2.2))),(z.2.1++[r.2.1],(true,r.2.1.2.2.2.1))) ⟨Dm,hh,G.cat ho (G.one aib (aI 1))⟩)) λ_=>hr ((z.1.1,(z.1.2.1,(r.1,z.1.2.2.2))),(z.2.1,(true,r.2.1.2.2.2.1))) ⟨Dm,hh,G.mono ω ho⟩
 ·obtain⟨hz,hh,ho⟩:=hI
  rw[hh]
  exact ax (λ_=>ω) λ_=>bw (λ_=>af (KS N _) λ_ _=>an hz) λ_=>an ⟨hz.1,hz.2.1,hz.2.2.1,⟨hz.2.2.2.1.1,hz.2.2.2.1.2.1,hz.2.2.2.1.2.2.1,hz.2.2.2.1.2.2.2.1,G.mono hhl ho,hz.2.2.2.1.2.2.2.2.2⟩,hz.2.2.2.2⟩
end VM
end
section
namespace VM
open Go VM.F
theorem uy(N:Nat)(hN:4000000≤N){s:aU}{q:Int}(hs:aH s.1)(hq:aH q):Ok (λr=>aH r.1) (Un N s q):=by
 unfold Un
 exact af (bq N hN hs) λa ha=>af (bq N hN hq) λb hb=>af (kZ N hN ω ha hb) λx hx=>af (xh N hx) λv hv=>an hv
theorem c6{α:Type}{P:α×dd→Prop}{N:Nat}{e:Int}{f:dd→Option (α×dd)}(h: ∀r,Ok P (f r)):Ok P ((fF N e).bind f):=af (KS N e) λr _=>h r
theorem Xz(N:Nat)(hN:5000000≤N){c:ag}{s:aU}{e:ia}{m:Nat}(h2:200≤m)(hm:m≤999)(hc:G 5 aB c)(hs:GS m s)(he:G 0 pv e):Ok (SR (m+1)) (oa N c s e):=by
 have D1:G m aB c:=G.mono ω hc
 have RD:GS (m+1) s:=G.mono ω hs
 obtain⟨s1,s2,s3,⟨k1,k2,k3,k4,k5,k6,k7,k8,k9,Uo,XA⟩,s5⟩:=RD
 have hk:=hs.2.2.2.1
 have i2:aH 2:=bA
 have i3:aH 3:=bA
 have up: ∀{τ:Ty} {x:τ.den},G m τ x→G (m+1) τ x:=λh=>G.mono ω h
 have cc: ∀r:dd,Ok (SR (m+1)) (some (s,r)):=λr=>an (up hs)
 unfold oa oa.b
 refine ok_eq (λ_=> ?_) λ_=>ok_eq (λ_=> ?_) λ_=>ok_eq (λ_=> ?_) λ_=>ok_eq (λ_=> ?_) λ_=>ok_eq (λ_=> ?_) λ_=>ok_eq (λ_=> ?_) λ_=>ok_eq (λ_=> ?_) λ_=>ok_eq (λ_=> ?_) λ_=>c6 λr=>cc r
 ·exact af (aaK N hN ω D1 hs.2.2.1 _ he.2.1 _) λr hr=>c6 λ_=>an ⟨s1,s2,up hr,(up hs).2.2.2⟩
 ·exact af (aaU N hN h2 ω D1 hs.2.2.1 _) λr hr=>c6 λ_=>an ⟨s1,s2,up hr,⟨k1,i2,bt,k4,k5,k6,k7,k8,k9,Uo,XA⟩,s5⟩
 ·exact af (Ja N hN c hc.2.2.2.2.2.2.1 ω hs.2.2.1 _) λr hr=>an ⟨s1,gN _,s3,⟨k1,k2,k3,k4,G.mono ω hr,k6,k7,k8,k9,Uo,XA⟩,s5⟩
 ·exact af (Um N hN h2 ω D1 hs he) λr hr=>an (up hr)
 ·exact ok_eq (λ_=>c6 λr=>cc r) λ_=>af (Sr N hN h2 ω D1 hs.2.2.1 hs.2.1) λl hl=>bu (λ_=>c6 λr=>cc r) λ_=>af (uy N ω hs.1 hc.2.2.2.2.1) λt ht=>bw (λ_=>c6 λr=>cc r) λ_=>af (Sq N hN c ω hs.2.2.1) λu hu=>an ⟨s1,gN _,s3,⟨k1,i3,ht,gN _,G.nil,up hl,G.nil,up hu,k9,Uo,XA⟩,s5⟩
 ·have hx:G 0 eR (s.2.1,(e.2.2.2.2.2.1,(e.2.1,(e.2.2.2.2.2.2.2.1,())))):=⟨hs.2.1,he.2.2.2.2.2.1,he.2.1,he.2.2.2.2.2.2.2.1,trivial⟩
  exact af (Je N hN ω ω D1 hs.2.2.1 hk.2.2.2.2.2.1 hk.2.2.2.2.2.2.1 hx) λr hr=>an ⟨s1,gN _,s3,⟨k1,k2,k3,k4,k5,k6,hr,k8,k9,Uo,XA⟩,s5⟩
 ·refine af (NY N hN c h2 ω hs.2.2.1 hk.2.2.2.2.2.1 hk.2.2.2.2.2.2.1) λr ⟨zf,zV⟩=>bu (λ_=>c6 λr=>cc r) λ_=>af (NW N ω c h2 ω hk.2.2.2.2.2.2.2.2.1 hk.2.2.2.2.2.2.2.1.1 zV hk.2.2.2.2.2.2.1) λd hd=> ?_
  generalize ((0:Int),((0:Int),_))=S0
  have H9:=zV.1
  refine bk (len:=r.2.1.length) (F:=λn i q=>oa.l41 N n _ S0 bf r.2.1 q i) (λ_ _=>True) trivial ω (λn i q hi _ eZ=> ?_) (λn q _=> ?_)
  all_goals unfold oa.l41 oa.aaV
  ·rw[aw (x:=(i:Int)+1) ω ω,ae i]
   exact ax (λ_=>aA ⟨ω,ω⟩ (ok_eq (λ_=>eZ _ trivial) λ_=>eZ _ trivial)) λ_=>ω
  ·exact ax (λ_=>ω) λ_=>an ⟨s1,s2,up zf,⟨k1,i2,bt,k4,k5,up zV,k7,k8,up hd,Uo,XA⟩,s5⟩
 ·exact af (Jh N hN h2 ω D1 hs.2.2.1 hk.2.2.2.2.2.2.2.2.1 hk.2.2.2.2.2.2.2.2.2.1 hk.1) λr ⟨zf,zV⟩=>bu (λ_=>c6 λr=>cc r) λ_=>af (Sv N hN h2 ω hc zf) λb hb=>bu (λ_=>c6 λr=>cc r) λ_=>af (KK N ω ω hb.1 _ _) λu hu=>an ⟨s1,s2,⟨up hu,(up hb).2⟩,G.zero (m+1) pz,up zV,trivial⟩
end VM
end
