/- A part of the proof of LotEven of layer 23: what the functions compute, in plain words. -/
import Derived.Test.YthnjnpjmbabcaaaGreatPlain5
import Derived.Test.YthnjnpjmbabcaaaGreatPlain4
set_option linter.all false
section
namespace VM
open Go VM.F
variable(N:Nat)
theorem UL{α:Type}{n i:Nat}(g:Nat→α)(v:α)(hi:i<n):((List.range n).map g).set i v=(List.range n).map λk=>if k=i then v else g k:=by
 apply z7
 ·simp
 ·intro j h1 h2
  simp only[List.getElem_set,Ft,zU]
  by_cases h:i=j
  ·rw[ak h,ak h.symm]
  ·rw[ah h,ah (dz h)]
theorem Q9{α:Type}{n i:Nat}(g:Nat→α)(d:α)(hi:i<n):((List.range n).map g).getD i d=g i:=by
 rw[aZ,bo (by simpa using hi)];simp
theorem XS{q:Int}{n:Nat}(h:aG q)(hq:mZ q)(hn:n≤3):(iB (q.natAbs:Int) n).1.length=n∧Ie (iB (q.natAbs:Int) n).1∧ ∀x∈(iB (q.natAbs:Int) n).1,0≤x:=by
 unfold aG at h
 have h2:(q.natAbs:Int)<9223372036854775808:=by
  have g: ∀x:Int,-9223372036854775808≤x→x<9223372036854775808→mZ x→(x.natAbs:Int)<9223372036854775808:=λx h1 h2 h3=>by unfold mZ at h3;omega
  exact g q h.1 h.2 hq
 by_cases h0:n=0
 ·subst h0
  have e:iB (q.natAbs:Int) ((0:Nat):Int)=([],1):=by unfold iB;rw[ak (.inr (.inl ω))]
  rw[e]
  exact⟨rfl,(λx (hx:x∈([]:List Int))=>nomatch hx),λx (hx:x∈([]:List Int))=>nomatch hx⟩
 ·obtain⟨e1,e2⟩:=OA (t:=(q.natAbs:Int)) (k:=n) ω h2 ω hn
  refine⟨e1,e2,?_⟩
  have hS:0<(List.replicate n (1:Int)).sum:=by rw[zu];omega
  have ee:iB (q.natAbs:Int) n=(bF (q.natAbs:Int) (List.replicate n 1),0):=by
   unfold iB
   rw[ah ω,aF]
   unfold mJ
   have hm:may (List.replicate n 1)=true:=iK.2 ⟨by rw[bP];omega,He n⟩
   rw[ah (by rw[hm];simp<;>omega),zu,ah ω,ah ω]
  rw[ee]
  exact rY ω hS (He n)
theorem E2{q:Int}{n:Nat}(h:aG q)(hq:mZ q)(hn:n≤3)(k:Nat):0≤(iB (q.natAbs:Int) n).1.getD k 0∧(iB (q.natAbs:Int) n).1.getD k 0<9223372036854775808:=by
 obtain⟨e1,e2,e3⟩:=XS h hq hn
 by_cases hk:k<(iB (q.natAbs:Int) n).1.length
 ·rw[aZ,bo hk]
  exact⟨e3 _ (fg hk),(e2 _ (fg hk)).2⟩
 ·rw[aZ,gV ω];exact⟨δ,δ⟩
theorem aa9{q:Int}{n:Nat}(h:aG q)(hq:mZ q)(hn:n≤3)(k:Nat):aG (Er q n k):=by
 have:=E2 h hq hn k
 unfold Er aG
 split<;>omega
theorem yi(l:aB)(n k:Nat):(oc l n k).length≤l.length:=List.length_filterMap_le _ _
theorem SO{l:aB}(h: ∀y∈l,LQ y){n:Nat}(hn:n≤3)(k:Nat): ∀y∈oc l n k,aG y.2.1:=λy hy=>by
 obtain⟨x,hx,e⟩:=zV.1 hy
 unfold oD at e
 split at e
 ·cases e
 ·cases e;exact aa9 (h x hx).2.1 (h x hx).2.2 hn k
theorem Ra{l:aB}{i:Nat}(hi:i<l.length)(n k:Nat):oc (l.take (i+1)) n k=oc (l.take i) n k++(oD n k (l.getD i ct)).toList:=by
 unfold oc
 rw[zY,List.filterMap_append,bo hi,aZ,bo hi]
 congr 1
theorem XT(hN:100≤N)(K8:dN.fe)(K21:dN.qb)(next:Int)(c:ae)(all:aB)(out:aN){n:Nat}(hn:n≤3)(f:Nat→aB)(hf: ∀k,(f k).length≤100000){x:lT}(hx:LQ x)(b:Int)(own:aB)(ol ix:Int):
  dN.Zg N K8 K21 N next c all out ((List.range n).map f) x b own ol ix (iB (x.2.1.natAbs:Int) n).1 ((iB (x.2.1.natAbs:Int) n).1.length:Int) 0=K21 next c all out ((List.range n).map λk=>f k++(oD n k x).toList) b own ol (W .i64 (ix+1)):=by
 obtain⟨e1,e2,e3⟩:=XS hx.2.1 hx.2.2 hn
 have ha:=E2 hx.2.1 hx.2.2 hn
 have ah2: ∀k,Er x.2.1 n k=if x.2.1<0 then-((iB (x.2.1.natAbs:Int) n).1.getD k 0)else(iB (x.2.1.natAbs:Int) n).1.getD k 0:=λk=>rfl
 generalize (iB (x.2.1.natAbs:Int) n).1=cut at*
 have:=vr cut (0:Int) (λm j s=>dN.Zg N K8 K21 m next c all out s x b own ol ix cut (cut.length:Int) j) (λ_ _=>K21 next c all out ((List.range n).map λk=>f k++(oD n k x).toList) b own ol (W .i64 (ix+1)))
  (λj s=>s=(List.range n).map λk=>if k<j then f k++(oD n k x).toList else f k)
  (λm j s hj hI hr=> ?_) (λm s hI=> ?_) cut.length N 0 ((List.range n).map f) ω ω ω (by simp)
 ·exact this
 ·have key: ∀q,q=Er x.2.1 n j→dN.L1 N K8 K21 (dN.Zg N K8 K21 m) next c all out s x (j:Int) q b own ol ix cut (cut.length:Int) (j:Int)=K21 next c all out ((List.range n).map λk=>f k++(oD n k x).toList) b own ol (W .i64 (ix+1)):=λq hq=>by
   unfold dN.L1 dN.Ep
   have hl:s.length=n:=by rw[hI];simp
   have hg:s.getD j bM=f j:=by rw[hI,Q9 _ _ ω,ah ω]
   rw[cond_not,ay (x:=(j:Int)+1) ω ω,ag j]
   by_cases h0:q=0
   ·rw[cZ h0,aj]
    refine hr s ?_
    rw[hI]
    refine mc λk hk=> ?_
    by_cases h1:k=j
    ·subst h1
     have e:oD n k x=none:=by unfold oD;rw[ak (by rw[←hq];exact h0)]
     rw[ah ω,ak ω,e];simp
    ·by_cases h2:k<j
     ·rw[ak h2,ak ω]
     ·rw[ah h2,ah ω]
   ·have hfj:=hf j
    rw[da h0,au,aF,hg,aY ω ω,aj,ch (by rw[aJ];omega),aj,aj,cZ rfl,aj]
    refine hr _ ?_
    rw[hI,UL _ _ ω]
    refine mc λk hk=> ?_
    by_cases h1:k=j
    ·subst h1
     have e:oD n k x=some (x.1,(q,())):=by unfold oD;rw[ah (by rw[←hq];exact h0),←hq]
     rw[ak rfl,ak ω,e];rfl
    ·rw[ah h1]
     by_cases h2:k<j
     ·rw[ak h2,ak ω]
     ·rw[ah h2,ah ω]
  have Qq:=ha j
  have hc:=ah2 j
  unfold dN.Zg dN.aba
  rw[aP ω,aj,aY ω ω,aj,aF]
  by_cases h:x.2.1<0
  ·rw[ak h]at hc
   rw[aP h,aj,ay (x:=0-cut.getD j 0) ω ω]
   exact key _ ((Int.zero_sub _).trans hc.symm)
  ·rw[ah h]at hc
   rw[aK (Ak.1 h),au]
   exact key _ hc.symm
 ·unfold dN.Zg dN.aba
  rw[aK ω,au,hI]
  congr 1
  refine mc λk hk=> ?_
  rw[ak (by have:=nj.1 hk;omega)]
theorem UM(hN:5000000≤N)(K8:dN.fe)(next:Int)(c:ae)(all:aB)(out:aN){n:Nat}(hn:n≤3)(b:Int){own:aB}(hl:own.length≤100000)(hq: ∀y∈own,LQ y):
  dN.yF N K8 N next c all out (List.replicate n bM) b own (own.length:Int) 0=dN.Zh N K8 N next c all out b ((List.range n).map (oc own n)) ((((List.range n).map (oc own n)).length:Nat):Int) 0:=by
 have:=vr own ct (λm i s=>dN.yF N K8 m next c all out s b own (own.length:Int) i) (λ_ _=>dN.Zh N K8 N next c all out b ((List.range n).map (oc own n)) ((((List.range n).map (oc own n)).length:Nat):Int) 0)
  (λi s=>s=(List.range n).map (oc (own.take i) n)) (λm i s hi hI hr=> ?_) (λm s hI=> ?_) own.length N 0 (List.replicate n bM) ω ω ω ?_
 ·exact this
 ·have hx:own.getD i ct∈own:=by rw[aZ,bo hi];exact fg hi
  have hy:=hq _ hx
  have T6:=hy.2.1
  unfold aG at T6
  have hb:((own.getD i ct).2.1.natAbs:Int)<9223372036854775808:=by
   have g: ∀x:Int,-9223372036854775808≤x→x<9223372036854775808→mZ x→(x.natAbs:Int)<9223372036854775808:=λx h1 h2 h3=>by unfold mZ at h3;omega
   exact g _ T6.1 T6.2 hy.2.2
  unfold dN.yF dN.Bo
  rw[aP ω,aj,aY ω ω,aj,aF,AX N T6.1 T6.2,aw,ay ω hb,aaJ N hN hb,aw]
  rw[hI]
  have hlen:((((List.range n).map (oc (own.take i) n)).length:Nat):Int)=n:=by simp
  rw[hlen]
  refine(XT N ω K8 (dN.yF N K8 m) next c all out hn (oc (own.take i) n) (λk=> ?_) hy b own (own.length:Int) (i:Int)).trans ?_
  ·have h1:=yi (own.take i) n k
   rw[bE]at h1
   omega
  ·rw[ay (x:=(i:Int)+1) ω ω,ag i]
   refine hr _ (mc λk _=> ?_)
   exact(Ra hi n k).symm
 ·unfold dN.yF dN.Bo
  rw[aK ω,au,hI,fD]
 ·have e:oc (own.take 0) n=λ_=>bM:=by funext k;rfl
  rw[e]
  apply z7
  ·simp
  ·intros;simp
theorem uI(hN:200000≤N){l:aB}(hl:l.length≤100000):Ok (λ_=>True) (pI N l):=by
 unfold pI pI.b
 refine jW (len:=l.length) (F:=λn i=>pI.l2 N n l i) ω (λn i hi hr=> ?_) (λn=> ?_)
 all_goals unfold pI.l2 pI.gm
 ·rw[ay (x:=(i:Int)+1) ω ω,ag i]
  dsimp only
  repeat' first|exact hr|exact fa|refine az ⟨ω,ω⟩ ?_|refine az (by rw[ay (x:=(i:Int)-1) ω ω];omega) ?_|refine ax (λ_=> ?_) (λ_=> ?_)|refine et (λ_=> ?_) (λ_=> ?_)|refine ok_eq (λ_=> ?_) (λ_=> ?_)|(exfalso;omega)
 ·exact ax (λ_=>ω) λ_=>fa
theorem UN(hN:200000≤N){l:List Int}(hl:l.length≤100000):Ok (λ_=>True) (sj N l):=by
 unfold sj sj.b
 refine jW (len:=l.length) (F:=λn i=>sj.l2 N n l i) ω (λn i hi hr=> ?_) (λn=> ?_)
 all_goals unfold sj.l2 sj.gm
 ·rw[ay (x:=(i:Int)+1) ω ω,ag i]
  dsimp only
  repeat' first|exact hr|exact fa|refine az ⟨ω,ω⟩ ?_|refine az (by rw[ay (x:=(i:Int)-1) ω ω];omega) ?_|refine ax (λ_=> ?_) (λ_=> ?_)|refine et (λ_=> ?_) (λ_=> ?_)|refine ok_eq (λ_=> ?_) (λ_=> ?_)|(exfalso;omega)
 ·exact ax (λ_=>ω) λ_=>fa
theorem XU(hN:200000≤N)(a:Int){L:aN}{l:aO}{m:Nat}(hm:m≤50000)(hL:LL m L)(hl:G m (.slice eD) l):Ok aG (jD N a L l):=by
 have h1:=hL.1
 have h2:=hl.1
 have i3:aG 3:=bB
 have i2:aG 2:=bB
 unfold jD jD.b
 refine bg (len:=l.length) (F:=λn i v=>jD.l3 N n a L l v i) (λ_ v=>aG v) (show aG 1 from bB) ω (λn i v hi hv hr=> ?_) (λn v hv=> ?_)
 all_goals unfold jD.l3 jD.lD
 ·rw[ay (x:=(i:Int)+1) ω ω,ag i]
  exact ax (λ_=>az ⟨ω,ω⟩ (bz (λ_=>hr v hv) λ_=>az ⟨ω,ω⟩ (af (Hd N hN hm hL _) λ_ _=>sb (λ_=>az ⟨ω,ω⟩ (et (λ_=>hr _ (Cr hv i3)) λ_=>hr _ (Cr hv i2))) λ_=>hr _ (Cr hv i2)))) λ_=>ω
 ·refine ax (λ_=>ω) λ_=>bg (len:=L.length) (F:=λn i v=>jD.qA N n a L v i) (λ_ v=>aG v) hv ω (λn i v hi hv hr=> ?_) (λn v hv=> ?_)
  all_goals unfold jD.qA jD.pZ
  ·rw[ay (x:=(i:Int)+1) ω ω,ag i]
   exact ax (λ_=>az ⟨ω,ω⟩ (ok_eq (λ_=>az ⟨ω,ω⟩ (ok_eq (λ_=>hr 4 bB) λ_=>hr v hv)) λ_=>hr v hv)) λ_=>ω
  ·exact ax (λ_=>ω) λ_=>an hv
theorem OD(hN:200000≤N)(c:ae){d:aB}{u:List Int}{L:aN}{l:aO}{m:Nat}(h2:200≤m)(hm:m≤50000)(hd:L2 m d)(hu:u.length≤m)(hL:LL m L)(hl:G m (.slice eD) l):Ok (λr=>L2 m r.1) (dm N c d u L l):=by
 have h3:=hd.1
 have h4:=hL.1
 have h5:=hl.1
 have hw:rV L:=λy hy=>ca (hL.2 y hy).2.1.1 ω
 unfold dm dm.b
 refine af (uI N hN ω) λ_ _=>bx (λ_=>an G.nil) λ_=>af (UN N hN ω) λ_ _=>bx (λ_=>an G.nil) λ_=>bH (Bi N hN c ω hw) (bx (λ_=>an G.nil) λ_=>bH (uz N ω hN) (bx (λ_=>an G.nil) λ_=>la (len:=13) (F:=λn i s=>dm.l5 N n d u L l s i) (λi s=>L2 i s) (λn i s hi hI hr=> ?_) (λn s hI=> ?_) 13 N 1 [] ω ω ω G.nil))
 all_goals unfold dm.l5 dm.e8
 ·have hs:=hI.1
  refine et (λ_=> ?_) λ_=>ω
  refine bg (len:=d.length) (F:=λn' j (z:Int×Bool)=>dm.l9 N (dm.l5 N n) n' d u L l s (i:Int) z.1 z.2 j) (s:=(_,_)) (λ_ z=>aG z.1) bt ω (λn' j z hj hz eV=> ?_) (λn' z hz=> ?_)
  all_goals unfold dm.l9 dm.zA
  ·rw[ay (x:=(j:Int)+1) ω ω,ag j]
   exact ax (λ_=>az ⟨ω,ω⟩ (ok_eq (λ_=>az ⟨ω,ω⟩ (eV (_,_) (G.at hd _).2.1)) λ_=>eV z hz)) λ_=>ω
  ·refine ax (λ_=>ω) λ_=>bg (len:=u.length) (F:=λn' j f=>dm.JK N (dm.l5 N n) n' d u L l s (i:Int) z.1 f j) (λ_ _=>True) trivial ω (λn' j f hj _ eV=> ?_) (λn' f _=> ?_)
   all_goals unfold dm.JK dm.GY
   ·rw[ay (x:=(j:Int)+1) ω ω,ag j]
    exact ax (λ_=>sb (λ_=>eV _ trivial) λ_=>az ⟨ω,ω⟩ (eV _ trivial)) λ_=>ω
   ·refine ax (λ_=>ω) λ_=>bg (len:=l.length) (F:=λn' j f=>dm.Ig N (dm.l5 N n) n' d u L l s (i:Int) z.1 f j) (λ_ _=>True) trivial ω (λn' j f hj _ eV=> ?_) (λn' f _=> ?_)
    all_goals unfold dm.Ig dm.En
    ·rw[ay (x:=(j:Int)+1) ω ω,ag j]
     exact ax (λ_=>sb (λ_=>eV _ trivial) λ_=>az ⟨ω,ω⟩ (eV _ trivial)) λ_=>ω
    ·rw[ay (x:=(i:Int)+1) ω ω,ag i]
     dsimp only
     exact ax (λ_=>ω) λ_=>sb (λ_=>af (XU N hN _ hm hL hl) λv hv=>aE (by rw[aJ];omega) (hr _ (G.cat hI (G.one (m:=1) (G2 (jJ ω ω) (Cr hz hv)) (aI 1))))) λ_=>hr s (G.mono ω hI)
 ·exact et (λ_=>ω) λ_=>an (G.mono ω hI)
theorem XV(hN:200000≤N){l:aB}(hl:l.length≤100000)(a:Int):Ok (λ_=>True) (sl N l a):=by
 unfold sl sl.b
 refine af (uI N hN hl) λ_ _=>bx (λ_=>fa) λ_=>jW (len:=l.length) (F:=λn i=>sl.l4 N n l a i) ω (λn i hi hr=> ?_) (λn=> ?_)
 all_goals unfold sl.l4 sl.ew
 ·rw[ay (x:=(i:Int)+1) ω ω,ag i]
  exact ax (λ_=>az ⟨ω,ω⟩ (ok_eq (λ_=>az ⟨ω,ω⟩ fa) λ_=>hr)) λ_=>ω
 ·exact ax (λ_=>ω) λ_=>fa
theorem Lm(a:Int):Ok (λ_=>True) (XW N a):=by
 unfold XW
 exact ok_eq (λ_=>fa) λ_=>fa
theorem Hg(hN:5000000≤N)(c:ae){b:aq}{d:aB}{m:Nat}(hm:m≤50000)(hb:G m aL b)(hd:L2 m d)(a k:Int):Ok (λr=>G m (.slice (.int .i64)) r.1) (sm N c b d a k):=by
 have hl:=hb.1.1
 have h2:=hd.1
 unfold sm sm.b
 refine bH (dD N hN hm hb) (bx (λ_=>an G.nil) λ_=>af (uI N ω ω) λ_ _=>bx (λ_=>an G.nil) λ_=>bg (len:=b.1.length) (F:=λn i s=>sm.l5 N n d a k b s i) (λi s=>G i (.slice (.int .i64)) s) G.nil ω (λn i s hi hI hr=> ?_) (λn s hI=> ?_))
 all_goals unfold sm.l5 sm.e8
 ·have hs:=hI.1
  rw[ay (x:=(i:Int)+1) ω ω,ag i]
  have h1:=hr s (G.mono ω hI)
  have hx:G 0 (.int .i64) (b.1.getD (i:Int).toNat ct).1:=(G.at hb.1 _).1
  exact ax (λ_=>az ⟨ω,ω⟩ (af (Lm N _) λ_ _=>sb (λ_=>bz (λ_=>af (mK N ω hm hb.2.2.1 _ _) λ_ _=>ax (λ_=>af (XV N ω ω _) λ_ _=>ok_eq (λ_=>aE (by rw[aJ];omega) (hr _ (G.cat hI (G.one hx (aI 1))))) λ_=>h1) λ_=>h1) λ_=>h1) λ_=>h1)) λ_=>ω
 ·exact ax (λ_=>ω) λ_=>an (G.mono hl hI)
theorem Bx(hN:200000≤N){a:aO}{m:Nat}(hm:m≤50000)(h:G m (.slice eD) a)(id:Int):Ok aG (mG N a id):=by
 refine nK (qS N (ca h.1 ω) hN id) ?_
 unfold nD
 split
 ·have: ∀l:aO,(∀x∈l,G m eD x)→aG (nC id l):=by
   intro l
   induction l with
   |nil=>intro _;exact bt
   |cons x t ih=>
    intro hx
    have hi:=ih λy hy=>hx y (a6 _ hy)
    rw[s0]
    split
    ·split
     ·exact(hx x (bu ..)).1
     ·exact hi
    ·exact hi
  exact this a h.2
 ·exact bt
abbrev L5(m:Nat)(l:bO):Prop:=G m (.slice tE) l
theorem G5{m:Nat}{a b c d e:Int}(ha:aG a)(hb:aG b)(hc:aG c)(hd:aG d)(he:aG e):G m tE (a,(b,(c,(d,(e,()))))):=⟨ha,hb,hc,hd,he,trivial⟩
theorem Ln(hN:200000≤N){l:bO}{b:aq}{m k:Nat}(hm:m≤50000)(hb:G m aL b)(hk:k≤1000000)(hl:L5 k l){a d n:Int}(ha:aG a)(hd:aG d)(hn:aG n):Ok (λr=>L5 (k+1) r) (Lo N l b a d n):=by
 have h1:=hl.1
 unfold Lo
 exact af (mK N hN hm hb.2.2.1 _ _) λx hx=>ax (λ_=>aE (by rw[aJ];omega) (an (G.cat hl (G.one (m:=1) (G5 ha hd hn hx bt) (aI 1))))) λ_=>an (G.mono ω hl)
theorem OE(hN:5000000≤N){c:ae}{b:aq}{d g:aB}{a:Int}{m:Nat}(hm:m≤50000)(hc:G m aA c)(hb:G m aL b)(hd:L2 m d)(hg:L2 m g)(ha:aG a):Ok (λr=>L5 1000000 r.1) (cH N c b a d g):=by
 have h1:=hb.1.1
 have h2:=hd.1
 have h3:=hg.1
 have h4:=hb.2.1.1
 have hj: ∀l:bO,L5 1 l→Ok (λr=>L5 1000000 r.1) (cH.j9 N a d g c b l):=λl hl=>by
  unfold cH.j9 cH.NL
  refine af (Ln N ω hm hb ω hl bB bB ha) λl hl=>af (Ln N ω hm hb ω hl bB bB bt) λl hl=>la (len:=5) (F:=λn k s=>cH.qA N n a d g c b s k) (λk s=>L5 (3+m*k) s) (λn k s hk hs hr=> ?_) (λn s hs=> ?_) 5 N 1 l ω ω ω (G.mono ω hl)
  all_goals unfold cH.qA cH.pZ
  ·have hmk:m*k≤m*4:=me m ω
   refine et (λ_=>af (Hg N hN c hm hb hd _ _) λt ht=> ?_) λ_=>ω
   have htl:=ht.1
   refine bg (len:=t.1.length) (F:=λn' j u=>cH.LZ N (cH.qA N n) n' a d g c b u (k:Int) t.1 j) (λj u=>L5 (3+m*k+j) u) hs ω (λn' j u hj hu eV=> ?_) (λn' u hu=> ?_)
   all_goals unfold cH.LZ cH.KW
   ·rw[ay (x:=(j:Int)+1) ω ω,ag j]
    exact ax (λ_=>az ⟨ω,ω⟩ (af (Ln N ω hm hb ω hu (gH _) bB (G.at ht _)) λv hv=>eV v hv)) λ_=>ω
   ·rw[ay (x:=(k:Int)+1) ω ω,ag k]
    exact ax (λ_=>ω) λ_=>hr u (G.mono (by rw[rj];omega) hu)
  ·refine et (λ_=>ω) λ_=>bg (len:=b.1.length) (F:=λn j u=>cH.IT N n a g c b u j) (λj u=>L5 (3+m*5+j) u) hs ω (λn j u hj hu hr=> ?_) (λn u hu=> ?_)
   all_goals unfold cH.IT cH.OB
   ·have Ih:=hu.1
    have hx:aG (b.1.getD (j:Int).toNat ct).1:=(G.at hb.1 _).1
    rw[ay (x:=(j:Int)+1) ω ω,ag j]
    have h0:=hr u (G.mono ω hu)
    exact ax (λ_=>az ⟨ω,ω⟩ (af (Lm N _) λ_ _=>bx (λ_=>h0) λ_=>ok_eq (λ_=>h0) λ_=>af (br N ω hc.2.2.1) λp hp=>af (mK N ω hm hb.2.2.1 _ _) λq hq=>af (br N ω hq) λq hq=>af (lV N ω ω ω hp hq) λy hy=>af (xB N hy) λv hv=>bx (λ_=>an G.nil) λ_=>ax (λ_=>aE (by rw[aJ];omega) (hr _ (G.mono ω (G.cat hu (G.one (m:=1) (G5 (show aG 8 from bB) (show aG 7 from bB) hx hv bt) (aI 1)))))) λ_=>h0)) λ_=>ω
   ·refine ax (λ_=>ω) λ_=>bg (len:=g.length) (F:=λn j u=>cH.l30 N n a g b u j) (λj u=>L5 (3+m*5+m+j) u) (G.mono ω hu) ω (λn j u hj hu hr=> ?_) (λn u hu=> ?_)
    all_goals unfold cH.l30 cH.abb
    ·have Ih:=hu.1
     rw[ay (x:=(j:Int)+1) ω ω,ag j]
     have h0:=hr u (G.mono ω hu)
     dsimp only
     exact ax (λ_=>az ⟨ω,ω⟩ (af (yh N ω hm hb.2.1 _) λx hx=>az ⟨ω,ω⟩ (az ⟨ω,ω⟩ (af (mK N ω hm hb.2.2.1 _ _) λq hq=>sb (λ_=>bz (λ_=>ax (λ_=>aE (by rw[aJ];omega) (hr _ (G.mono ω (G.cat hu (G.one (m:=1) (G5 (show aG 9 from bB) (show aG 5 from bB) hx.1 (aaX (G.at hg _).2.1 hq) bt) (aI 1)))))) λ_=>h0) λ_=>h0) λ_=>h0)))) λ_=>ω
    ·exact ax (λ_=>ω) λ_=>an (G.mono ω hu)
 unfold cH cH.b
 exact bH (dD N hN hm hb) (bx (λ_=>an G.nil) λ_=>af (uI N ω ω) λ_ _=>bx (λ_=>an G.nil) λ_=>af (Ct N ω ω) λ_ _=>bx (λ_=>an G.nil) λ_=>af (oC N ω hm hb.1 _) λ_ _=>ok_eq (λ_=>an G.nil) λ_=>af (Bx N ω hm hb.2.1 _) λh hh=>bz (λ_=>af (Ln N ω hm hb ω (G.nil (m:=0)) bB bB hh) λl hl=>hj l hl) λ_=>hj [] G.nil)
theorem JZ(hN:5000000≤N)(c:ae){b:aq}{m:Nat}(hm:m≤50000)(hb:G m aL b):Ok (λr=>aG r.1) (abc N c b):=by
 unfold abc
 exact bH (dD N hN hm hb) (bx (λ_=>an bt) λ_=>af (mK N ω hm hb.2.2.1 _ _) λx hx=>ok_eq (λ_=>an bt) λ_=>an (Cr (gH _) bt))
theorem Hh(hN:5000000≤N)(c:ae){b:aq}{m:Nat}(hm:m≤50000)(hb:G m aL b):Ok (λr=>aG r.1) (abd N c b):=by
 unfold abd
 exact bH (dD N hN hm hb) (bx (λ_=>an bt) λ_=>af (mK N ω hm hb.2.2.1 _ _) λx hx=>an (Cr hx bt))
theorem aii(a b:Int):Ok (λ_=>True) (QE N a b):=by
 unfold QE
 repeat' first|exact fa|refine ok_eq (λ_=> ?_) (λ_=> ?_)|refine et (λ_=> ?_) (λ_=> ?_)
theorem UO(hN:200000≤N)(l:bO):Ok (λr=>r=true→l.length≤64) (so N l):=by
 have hf:Ok (λr=>r=true→l.length≤64) (some false):=an λh=>nomatch h
 unfold so so.b
 refine ax (λ_=>hf) λhl=>jW (len:=l.length) (F:=λn i=>so.l4 N n l i) ω (λn i hi hr=> ?_) (λn=> ?_)
 all_goals unfold so.l4 so.ew
 ·rw[ay (x:=(i:Int)+1) ω ω,ag i]
  dsimp only
  repeat' first|exact hr|exact hf|refine az ⟨ω,ω⟩ ?_|refine az (by rw[ay (x:=(i:Int)-1) ω ω];omega) ?_|refine ax (λ_=> ?_) (λ_=> ?_)|refine et (λ_=> ?_) (λ_=> ?_)|refine ok_eq (λ_=> ?_) (λ_=> ?_)|(exfalso;omega)|refine af (aii N _ _) λ_ _=> ?_|refine bx (λ_=> ?_) (λ_=> ?_)
 ·exact ax (λ_=>ω) λ_=>an λ_=>ω
theorem SP{σ β:Type}{P:β→Prop}{F:Nat→Int→σ→Option β}{len:Nat}(I:σ→Prop)
  (hs: ∀n i s,i<len→I s→(∀j s',i<j→j≤len→I s'→Ok P (F n (j:Int) s'))→Ok P (F (n+1) (i:Int) s)) (he: ∀n s,I s→Ok P (F (n+1) (len:Int) s)):
  ∀m n i s,len-i≤m→m<n→i≤len→I s→Ok P (F n (i:Int) s)
 |m,0,i,s,_,hn,_,_=>ω
 |m,n+1,i,s,hm,hn,hi,hI=>by
  by_cases h:i<len
  ·exact hs n i s h hI λj s' hj Qq yR=>SP I hs he (m-1) n j s' ω ω Qq yR
  ·have:i=len:=ω
   subst this
   exact he n s hI
theorem G5q{m:Nat}{x:tB}{q:Int}(h:G m tE x)(hq:aG q):G m tE (x.1,(x.2.1,(x.2.2.1,(x.2.2.2.1,(q,x.2.2.2.2.2))))):=⟨h.1,h.2.1,h.2.2.1,h.2.2.2.1,hq,trivial⟩
theorem anG: ∀{w:List Int},Pos w→0≤w.sum
 |[],_=>ec _
 |x::t,h=>by
  rw[cD]
  have:=h x (bu ..)
  have:=anG (w:=t) λy hy=>h y (a6 _ hy)
  omega
theorem UP{t:Int}{w:List Int}(h1:t<9223372036854775808)(h:(mJ t w).2=0):(mJ t w).1.length=w.length∧Ie (mJ t w).1:=by
 unfold mJ at h ⊢
 split at h
 ·exact absurd h δ
 ·split at h
  ·exact absurd h δ
  ·rename_i h2 h3
   split at h
   ·split at h
    ·rename_i h4 h5
     rw[ah h2,ah h3,ak h4,ak h5]
     exact⟨bP ..,λx hx=>by rw[wz hx];decide⟩
    ·exact absurd h δ
   ·rename_i h4
    rw[ah h2,ah h3,ah h4]
    have hm:may w=true:=by
     by_cases hm:may w=true
     ·exact hm
     ·exact absurd (Or.inr (q5.2 hm)) h2
    have hp:=(iK.1 hm).2
    have h0:0≤t:=ω
    have hS:0<w.sum:=by have:=anG hp;omega
    exact⟨oz t w,afY (rY h0 hS hp) (by rw[vD h0 hS];exact h1)⟩
theorem abe{α:Type}{Q:α→Prop}{l:List α}{x:α}{k:Nat}(h: ∀y∈l,Q y)(hx:Q x): ∀y∈l.set k x,Q y:=λy hy=>by
 rcases tK hy with hy|rfl
 ·exact h y hy
 ·exact hx
theorem SQ{α:Type}{Q:α→Prop}{l:List α}{d:α}{k:Nat}(h: ∀y∈l,Q y)(hk:k<l.length):Q (l.getD k d):=by
 rw[aZ,bo hk];exact h _ (fg hk)
theorem J0(hN:5000000≤N){l:bO}{q:Int}{Q:tB→Prop}(hQ: ∀x,Q x→aG x.2.2.2.1)(hU: ∀(x:tB) (v:Int),Q x→aG v→Q (x.1,(x.2.1,(x.2.2.1,(x.2.2.2.1,(v,x.2.2.2.2.2))))))(hl: ∀x∈l,Q x)(hq:aG q):Ok (λr=>(r.1.length≤64∧ ∀x∈r.1,Q x)∧aG r.2.1) (dw N l q):=by
 have dE: ∀e:Int,Ok (λr:bO×Int×Int=>(r.1.length≤64∧ ∀x∈r.1,Q x)∧aG r.2.1) (some ([],((0:Int),e))):=λe=>an ⟨⟨bA _,λx hx=>nomatch hx⟩,bt⟩
 unfold dw dw.b
 refine af (UO N ω l) λz hz=>bx (λ_=>dE _) λht=>ax (λ_=>dE _) λ_=> ?_
 have sE:=hz ht
 rw[cM]
 refine aE (by rw[bY];omega) (SP (len:=l.length) (F:=λn i (s:bO×Int)=>dw.l5 N n s.1 s.2 i) (λs=>s.1.length=l.length∧(∀x∈s.1,Q x)∧aG s.2) (λn i s hi hI hr=> ?_) (λn s hI=> ?_) l.length N 0 (l,q) ω ω ω ⟨rfl,hl,hq⟩)
 all_goals unfold dw.l5 dw.e8
 ·obtain⟨I9,WR,hs3⟩:=hI
  refine ax (λ_=> ?_) λ_=>ω
  have fin: ∀(k:Nat) (w:List Int),i<k→k≤l.length→w.length=k-i→Ie w→Ok (λr=>(r.1.length≤64∧ ∀x∈r.1,Q x)∧aG r.2.1) (dw.JW N (dw.l5 N n) s.1 s.2 (i:Int) (k:Int) w):=λk w hk rz hw Cj=>by
   unfold dw.JW dw.Cs
   have BS:aG (mn (ya w.sum).1 s.2):=aaX (XB _) hs3
   refine bH (zi N ω Cj ω) (bH (tx N _) (bx (λ_=>dE _) λ_=>bH (Ck N hN BS.2 Cj ω) (bz (λ_=>dE _) λh0=> ?_)))
   obtain⟨e1,e2⟩:=UP BS.2 h0
   generalize (mJ (mn (ya w.sum).1 s.2) w).1=v at*
   refine la (len:=k) (F:=λn' j (z:bO×Int)=>dw.Ig N (dw.l5 N n) n' z.1 z.2 (i:Int) (k:Int) v j) (λj z=>i≤j∧z.1.length=l.length∧(∀x∈z.1,Q x)∧aG z.2) (λn' j z hj hz eV=> ?_) (λn' z hz=> ?_) k N i s ω ω ω ⟨aI i,I9,WR,hs3⟩
   all_goals unfold dw.Ig dw.En
   ·obtain⟨mj,yP,EM,hz3⟩:=hz
    dsimp only
    rw[ay (x:=(j:Int)+1) ω ω,ag j,ay (x:=(j:Int)-i) ω ω]
    exact ax (λ_=>az ⟨ω,ω⟩ (az ⟨ω,ω⟩ (az ⟨ω,ω⟩ (eV (_,_) ⟨ω,by dsimp only;rw[List.length_set];exact yP,abe EM (hU _ _ (SQ EM ω) (rK e2 _)),gH _⟩)))) λ_=>ω
   ·exact ax (λ_=>ω) λ_=>hr k z hk rz hz.2
  refine la (len:=l.length) (F:=λn' k w=>dw.l8 N (dw.l5 N n) n' s.1 s.2 (i:Int) k w) (λk w=>i≤k∧w.length=k-i∧Ie w) (λn' k w hk hw eV=> ?_) (λn' w hw=> ?_) l.length N i [] ω ω ω ⟨aI i,by rw[bY];omega,λx hx=>nomatch hx⟩
  all_goals unfold dw.l8 dw.zo
  ·obtain⟨hik,hwl,Cj⟩:=hw
   rw[ay (x:=(k:Int)+1) ω ω,ag k]
   refine ax (λ_=>az ⟨ω,ω⟩ (az ⟨ω,ω⟩ (ok_eq (λ_=>az ⟨ω,ω⟩ (aE (by rw[aJ];omega) (eV _ ⟨ω,by rw[aX,aJ];omega,λx hx=> ?_⟩))) λij=> ?_))) λ_=>ω
   ·rcases bf.1 hx with hx|hx
    ·exact Cj x hx
    ·rw[cg.1 hx];exact hQ _ (SQ WR ω)
   ·refine fin k w ?_ ω hwl Cj
    by_cases e:k=i
    ·subst e;exact absurd rfl ij
    ·omega
  ·exact ax (λ_=>ω) λ_=>fin l.length w hi (aI _) hw.2.1 hw.2.2
 ·exact ax (λ_=>ω) λ_=>an ⟨⟨by have:=hI.1;dsimp only;omega,hI.2.1⟩,hI.2.2⟩
theorem Rb(hN:5000000≤N){l:bO}{q:Int}{m:Nat}(hl:L5 m l)(hq:aG q):Ok (λr=>L5 64 r.1∧aG r.2.1) (dw N l q):=
 J0 N hN (Q:=G 64 tE) (λx hx=>hx.2.2.2.1) (λx v hx hv=>G5q hx hv) (λx hx=>G.mono (m:=0) (bA _) (hl.2 x hx)) hq
abbrev R0:dG:=((0:Int),((0:Int),(([]:bO),((0:Int),()))))
theorem J1(hN:5000000≤N){c:ae}{b:aq}{d g:aB}{a:Int}{m:Nat}(h2:200≤m)(hm:m≤40000)(hc:G m aA c)(hb:G m aL b)(hd:L2 m d)(hg:L2 m g)(ha:aG a):Ok (λr=>G m aL r.1∧G m gN r.2.1) (iz N c b a d g):=by
 have dE: ∀e:Int,Ok (λr:aq×dG×Int=>G m aL r.1∧G m gN r.2.1) (some ((bM,(dh,(cf,(cf,(dW,(eu,())))))),(R0,e))):=λe=>an ⟨G.jc,G.zero m gN⟩
 unfold iz iz.b
 refine af (OE N hN ω hc hb hd hg ha) λl hl=>ok_eq (λ_=>dE _) λ_=>ok_eq (λ_=>dE _) λ_=>af (JZ N hN c ω hb) λq hq=>bz (λ_=>dE _) λ_=>bz (λ_=>dE _) λ_=>af (Rb N hN hl hq) λz ⟨yP,EM⟩=>bz (λ_=>dE _) λ_=> ?_
 have Y9:=yP.1
 have hj: ∀(p:bJ) (r:dG) (t:bO) (x k n:Int),kb 1000 p→G m gN r→L5 64 t→aG x→Ok (λr=>G m aL r.1∧G m gN r.2.1) (iz.j26 N b (bM,(dh,(cf,(cf,(dW,(eu,())))))) R0 p r t x k n):=λp r t x k n hp hr ht hx=>by
  have C2:=hp.1
  unfold iz.j26 iz.abf
  exact af (br N ω hx) λv hv=>af (tf N ω _ _ _ _ (Bg.mono hv ω)) λu hu=>aE (by have:=hu.1;omega) (af (tc N ω h2 ω hb G.nil (kb.mono (kb.app hp hu) ω)) λw hw=>bz (λ_=>dE _) λ_=>an ⟨hw,hr.1,hr.2.1,G.mono ω ht,hr.2.2.2⟩)
 refine bg (len:=z.1.length) (F:=λn i (s:bJ×dG×bO)=>iz.yc N n a c b (bM,(dh,(cf,(cf,(dW,(eu,())))))) R0 z.1 z.2.1 s.1 s.2.1 s.2.2 i) (s:=(_,(_,_))) (λi s=>kb (2*i) s.1∧G m gN s.2.1∧L5 i s.2.2) ⟨kb.nil,⟨ha,hq,G.nil,EM,trivial⟩,G.nil⟩ ω (λn i s hi hI hr=> ?_) (λn s hI=> ?_)
 all_goals unfold iz.yc iz.Bf
 ·obtain⟨h4,h5,h6⟩:=hI
  have hp:=h4.1
  have ht:=h6.1
  have hx:G 0 tE (z.1.getD (i:Int).toNat np):=G.at yP _
  rw[ay (x:=(i:Int)+1) ω ω,ag i]
  exact ax (λ_=>az ⟨ω,ω⟩ (ax (λ_=>az ⟨ω,ω⟩ (aE (by rw[aJ];omega) (az ⟨ω,ω⟩ (az ⟨ω,ω⟩ (az ⟨ω,ω⟩ (af (br N ω hx.2.2.2.2.1) λv hv=>af (tf N ω _ _ _ _ (Bg.mono hv ω)) λu hu=>aE (by have:=hu.1;omega) (hr (_,(_,_)) ⟨kb.mono (kb.app h4 hu) ω,⟨h5.1,h5.2.1,G.nil,h5.2.2.2⟩,G.cat h6 (G.one hx (aI 1))⟩))))))) λ_=>hr s ⟨kb.mono h4 ω,h5,G.mono ω h6⟩)) λ_=>ω
 ·obtain⟨h4,h5,h6⟩:=hI
  have hp:=h4.1
  dsimp only
  exact ax (λ_=>ω) λ_=>af (br N ω EM) λv hv=>af (tf N ω _ _ _ _ (Bg.mono hv ω)) λu hu=>aE (by have:=hu.1;omega) (af (Hh N hN c ω hb) λx hx=>af (Bx N ω ω hb.2.1 _) λh hh=>bz (λ_=>hj _ _ _ _ _ _ (kb.mono (kb.app h4 hu) ω) h5 (G.mono ω h6) hx) λ_=>hj _ _ _ _ _ _ (kb.mono (kb.app h4 hu) ω) h5 (G.mono ω h6) hx)
theorem UQ(hN:5000000≤N){t:Int}{w:List Int}(ht:t<9223372036854775808)(hw:Ie w)(hl:w.length≤1000000):Ok (λr=>r.2.2=0→r.1.length=w.length∧Ie r.1) (eI N t w w):=by
 refine nK (G7 N hN ht hw hw hl) λh0=> ?_
 have f:=G8 ht hw h0
 have c:=f.c
 have hl2:=c.l2
 refine⟨hl2,λx hx=> ?_⟩
 obtain⟨i,hi,e⟩:=fC hx
 have h1:=c.le i ω
 have h2:=(c.pc i).2
 have h3:=c.po i
 rw[aZ (l:=(tb t w w).1),bo hi,lG,e]at h1 h3
 exact⟨ω,ω⟩
theorem abg(hN:5000000≤N)(c:ae){b:aq}{m:Nat}(hm:m≤40000)(hb:G m aL b){a:Int}(ha:aG a):Ok (λr=>L3 (m+1) r.1) (fA N c b a):=by
 have w:=(G.wf ω hb).w
 have hl:=hb.2.2.2.1.1
 unfold fA fA.b
 refine bH (dD N hN ω hb) (bx (λ_=>an G.nil) λ_=>ax (λ_=>an G.nil) λ_=>et (λ_=>an G.nil) λ_=>bH (K1 N w.s ω 0 a) (ok_eq (λ_=>an G.nil) λ_=> ?_))
 have hq:=Xq w.qs 0 a
 generalize fL b.2.2.2.1 0 a=q at*
 refine bg (len:=b.2.2.2.1.length) (F:=λn i (s:List Int×List Int)=>fA.Co N n a b q s.1 s.2 i) (s:=(_,_)) (λi s=>s.1.length≤i∧s.2.length=s.1.length∧Ie s.1∧Ie s.2) ⟨bA _,rfl,(λx hx=>nomatch hx),λx hx=>nomatch hx⟩ ω (λn i s hi hI hr=> ?_) (λn s hI=> ?_)
 all_goals unfold fA.Co fA.zr
 ·obtain⟨h1,h2,h3,h4⟩:=hI
  have hx:G 0 oB (b.2.2.2.1.getD (i:Int).toNat bW):=G.at hb.2.2.2.1 _
  rw[ay (x:=(i:Int)+1) ω ω,ag i]
  have h0:=hr s ⟨ω,h2,h3,h4⟩
  have sn: ∀{l:List Int} {x:Int},Ie l→aG x→Ie (l++[x]):=λhl hx y hy=>(bf.1 hy).elim (hl y) λhy=>by rw[cg.1 hy];exact hx
  dsimp only
  exact ax (λ_=>az ⟨ω,ω⟩ (bz (λ_=>ok_eq (λ_=>sb (λ_=>aE (by rw[List.length_singleton];omega) (aE (by rw[List.length_singleton];omega) (hr (_,_) ⟨by dsimp only;rw[List.length_append,List.length_singleton];omega,by dsimp only;rw[List.length_append,List.length_append,List.length_singleton,List.length_singleton];omega,sn h3 hx.1,sn h4 (Cr hx.2.2.1 (gH _))⟩))) λ_=>h0) λ_=>h0) λ_=>h0)) λ_=>ω
 ·obtain⟨h1,h2,h3,h4⟩:=hI
  refine ax (λ_=>ω) λ_=>af (UQ N hN (Cr hq (gH _)).2 h4 ω) λz hz=>bz (λ_=>an G.nil) λh0=> ?_
  obtain⟨e1,e2⟩:=hz h0
  refine bg (len:=z.1.length) (F:=λn i u=>fA.yF N n a q s.1 z.1 u i) (λi u=>L3 (1+i) u) (G.one (m:=1) (G3 bt ha (gH _)) (aI 1)) ω (λn i u hi hu hr=> ?_) (λn u hu=> ?_)
  all_goals unfold fA.yF fA.Bo
  ·have Ih:=hu.1
   rw[ay (x:=(i:Int)+1) ω ω,ag i]
   have h0:=hr u (G.mono ω hu)
   have put: ∀x:Int,aG x→Ok (λr=>L3 (m+1) r.1) (cond (small (u.length+[((s.1.getD (i:Int).toNat 0,(a,(x,()))):eP)].length)) (fA.yF N n a q s.1 z.1 (u++[(s.1.getD (i:Int).toNat 0,(a,(x,())))]) ((i+1:Nat):Int)) none):=λx hx=>aE (by rw[aJ];omega) (hr _ (G.mono ω (G.cat hu (G.one (m:=1) (G3 (rK h3 _) ha hx) (aI 1)))))
   dsimp only
   exact ax (λ_=>az ⟨ω,ω⟩ (ax (λ_=>bz (λ_=>az ⟨ω,ω⟩ (put _ (gH _))) λ_=>h0) λ_=>bz (λ_=>az ⟨ω,ω⟩ (put _ (rK e2 _))) λ_=>h0)) λ_=>ω
  ·exact ax (λ_=>ω) λ_=>an (G.mono ω hu)
theorem SS(hN:5000000≤N){c:ae}{b:aq}{m:Nat}(h2:200≤m)(hm:m≤7000)(hc:G 5 aA c)(hb:G m aL b):Ok (λr=>G m aL r.1) (nQ N c b):=by
 have D2:=hc.1.1
 unfold nQ nQ.b
 refine bH (dD N hN ω hb) (bx (λ_=>an G.jc) λ_=>bg (len:=c.1.length) (F:=λn i s=>nQ.l5 N n c b (bM,(dh,(cf,(cf,(dW,(eu,())))))) s i) (λi s=>L3 ((m+1)*i) s) G.nil ω (λn i s hi hI hr=> ?_) (λn s hI=> ?_))
 all_goals unfold nQ.l5 nQ.e8
 ·have hs:=hI.1
  have hmi:(m+1)*i≤(m+1)*5:=me _ ω
  rw[ay (x:=(i:Int)+1) ω ω,ag i]
  exact ax (λ_=>af (abg N hN c ω hb (jJ ω ω)) λr hrr=>bz (λ_=>an G.jc) λ_=>aE (by have:=hrr.1;omega) (hr _ (G.mono (by rw[rj];omega) (G.cat hI hrr)))) λ_=>ω
 ·have hmi:(m+1)*c.1.length≤(m+1)*5:=me _ ω
  exact ax (λ_=>ω) λ_=>af (tc N ω h2 ω hb (G.mono ω hI) kb.nil) λr hr=>an hr
theorem SU(hN:200000≤N){l:aO}{m:Nat}(hm:m≤50000)(h:G m (.slice eD) l)(a:Int):Ok (λr=>G 0 eD r.1) (sq N l a):=by
 have hl:=h.1
 have hz:G 0 eD aQ:=G.zero 0 eD
 unfold sq sq.b
 refine bH (uz N ω hN) (bx (λ_=>an hz) λ_=>bg (len:=l.length) (F:=λn i (z:cv×Bool)=>sq.l6 N n l a aQ z.1 z.2 i) (s:=(_,_)) (λ_ z=>G 0 eD z.1) hz ω (λn i z hi hI hr=> ?_) (λn z hI=> ?_))
 all_goals unfold sq.l6 sq.vX
 ·rw[ay (x:=(i:Int)+1) ω ω,ag i]
  have hx:G 0 eD (l.getD (i:Int).toNat aQ):=G.at h _
  have h1:=hr z hI
  have h2:=hr (_,true) hx
  repeat' first|exact h1|exact h2|refine az ⟨ω,ω⟩ ?_|refine ax (λ_=> ?_) (λ_=> ?_)|refine ok_eq (λ_=> ?_) (λ_=> ?_)|refine bx (λ_=> ?_) (λ_=> ?_)|(exfalso;omega)
 ·exact ax (λ_=>ω) λ_=>an hI
theorem GL{m:Nat}{a b d e f:Int}{l:aB}(ha:aG a)(hl:L2 m l)(hb:aG b)(hd:aG d)(he:aG e)(hf:aG f):G m fZ (a,(l,(b,(d,(e,(f,())))))):=⟨ha,hl,hb,hd,he,hf,trivial⟩
theorem LL.app{m:Nat}{k:Nat}{l:aN}{x:eE}(hl:l.length≤k∧ ∀y∈l,G m fZ y)(hx:G m fZ x):(l++[x]).length≤k+1∧ ∀y∈l++[x],G m fZ y:=
 ⟨by rw[aX,aJ];have:=hl.1;omega,λy hy=>(bf.1 hy).elim (hl.2 y) λhy=>by rw[cg.1 hy];exact hx⟩
theorem OF(hN:5000000≤N)(c:ae){b:aq}{L:aN}{l:aO}{m:Nat}(h2:200≤m)(hm:m≤2000)(hb:G m aL b)(hL:LL m L)(hl:G m (.slice eD) l):Ok (λr=>G m aL r.1∧LL m r.2.1) (fH N c b L l):=by
 have dE: ∀e:Int,Ok (λr:aq×aN×Int=>G m aL r.1∧LL m r.2.1) (some ((bM,(dh,(cf,(cf,(dW,(eu,())))))),([],e))):=λe=>an ⟨G.jc,G.nil⟩
 have h3:=hL.1
 have h4:=hl.1
 have hw:rV L:=λy hy=>ca (hL.2 y hy).2.1.1 ω
 unfold fH fH.b
 refine bH (dD N hN ω hb) (bx (λ_=>dE _) λ_=>bH (Bi N ω c ω hw) (bx (λ_=>dE _) λhk=>bH (uz N ω ω) (bx (λ_=>dE _) λ_=> ?_)))
 have Y3:L.length≤12:=by
  unfold vA at hk
  exact bl (cL.1 (cL.1 hk).2).1
 refine bg (len:=L.length) (F:=λn i (z:aC×bJ×aN)=>fH.l7 N n L l b (bM,(dh,(cf,(cf,(dW,(eu,())))))) z.1 z.2.1 z.2.2 i) (s:=(_,(_,_))) (λi z=>L3 (2*m*i) z.1∧kb (2*i) z.2.1∧z.2.2.length≤i∧ ∀y∈z.2.2,G m fZ y) ⟨G.nil,kb.nil,bA _,λy hy=>nomatch hy⟩ ω (λn i z hi hI hr=> ?_) (λn z hI=> ?_)
 all_goals unfold fH.l7 fH.rL
 ·obtain⟨h5,h6,h7⟩:=hI
  have h8:=h6.1
  have h9:=h7.1
  have hmi:2*m*i≤2*m*12:=me _ ω
  have hms:2*m*(i+1)=2*m*i+2*m:=rj _ _
  have hx:G m fZ (L.getD (i:Int).toNat ((0:Int),(bM,aQ))):=G.at hL _
  have hxl:=hx.2.1.1
  rw[ay (x:=(i:Int)+1) ω ω,ag i]
  dsimp only
  rw[cM]
  have put: ∀x:eE,G m fZ x→Ok (λr=>G m aL r.1∧LL m r.2.1) (cond (small (z.2.2.length+[x].length)) (fH.l7 N n L l b (bM,(dh,(cf,(cf,(dW,(eu,())))))) z.1 z.2.1 (z.2.2++[x]) ((i+1:Nat):Int)) none):=λx hx=>aE (by rw[aJ];omega) (hr (z.1,(z.2.1,z.2.2++[x])) ⟨G.mono ω h5,kb.mono h6 ω,LL.app h7 hx⟩)
  refine ax (λ_=>az ⟨ω,ω⟩ (aE (by rw[bY];omega) (bz (λ_=>put _ hx) λ_=>af (SU N ω ω hl _) λw hw=>bx (λ_=>put _ (GL hx.1 hx.2.1 hx.2.2.1 (show aG 3 from bB) hx.2.2.2.2.1 hx.2.2.2.2.2.1)) λ_=>af (Bx N ω ω hb.2.1 _) λh hh=>ok_eq (λ_=>dE _) λ_=>af (qU N ω ω hb _) λ_ _=>ok_eq (λ_=>dE _) λ_=> ?_))) λ_=>ω
  have qt:=GL hx.1 hx.2.1 hx.2.2.1 (show aG 2 from bB) hw.2.2.1 hw.2.2.2.1
  generalize hX:(((L.getD (i:Int).toNat ((0:Int),(bM,aQ))).1,((L.getD (i:Int).toNat ((0:Int),(bM,aQ))).2.1,((L.getD (i:Int).toNat ((0:Int),(bM,aQ))).2.2.1,((2:Int),(w.1.2.2.1,(w.1.2.2.2.1,())))))):eE)=X at qt
  have hXl:X.2.1.length≤m:=qt.2.1.1
  refine bg (len:=X.2.1.length) (F:=λn' j u=>fH.xq N (fH.l7 N n) n' L l b (bM,(dh,(cf,(cf,(dW,(eu,())))))) u z.2.1 z.2.2 (i:Int) X w.1 h j) (s:=z.1) (λj u=>L3 (2*m*i+2*j) u) h5 ω (λn' j u hj hu eV=> ?_) (λn' u hu=> ?_)
  all_goals unfold fH.xq fH.wm
  ·have Ih:=hu.1
   have hy:G m hZ (X.2.1.getD (j:Int).toNat ct):=G.at qt.2.1 _
   dsimp only
   rw[ay (x:=(j:Int)+1) ω ω,ag j]
   exact ax (λ_=>az ⟨ω,ω⟩ (az ⟨ω,ω⟩ (az ⟨ω,ω⟩ (az ⟨ω,ω⟩ (aE (by rw[td];omega) (eV _ (G.mono ω (G.cat hu (G.two (m:=2) (G3 bt hy.1 (gH _)) (G3 hh hy.1 hy.2.1) (aI 2)))))))))) λ_=>ω
  ·refine ax (λ_=>ω) λ_=>af (br N ω hw.2.2.2.1) λv hv=>af (tf N ω _ _ _ _ (Bg.mono hv ω)) λp hp=>aE (by have:=hp.1;omega) (aE (by rw[aJ];omega) ?_)
   rw[ay (x:=(i:Int)+1) ω ω,ag i]
   exact hr (_,(_,_)) ⟨G.mono ω hu,kb.mono (kb.app h6 hp) ω,LL.app h7 qt⟩
 ·obtain⟨h5,h6,h7⟩:=hI
  have hmi:2*m*L.length≤2*m*12:=me _ ω
  exact ax (λ_=>ω) λ_=>af (tc N ω h2 ω hb (G.mono ω h5) (kb.mono h6 ω)) λr hr=>bz (λ_=>dE _) λ_=>an ⟨hr,ca h7.1 ω,h7.2⟩
theorem OG{l:aO}(h:gR l=true):l.length≤24:=by
 unfold gR at h
 rw[gk]at h
 have h:=bl h
 have key: ∀i,i<l.length→(i:Int)+1≤(l.getD i aQ).1:=by
  intro i
  induction i with
  |zero=>intro hi;exact(h 0 hi).1.1.1
  |succ i ih=>
   intro hi
   have h1:=ih ω
   have h2:(l.getD i aQ).1<(l.getD (i+1) aQ).1:=(h (i+1) hi).2.1 ω
   have g: ∀a b:Int,(i:Int)+1≤a→a<b→((i+1:Nat):Int)+1≤b:=λa b h1 h2=>ω
   exact g _ _ h1 h2
 by_cases hl:l.length≤24
 ·exact hl
 ·have h1:=key 24 ω
  have h2:=(h 24 ω).1.1.2
  have g: ∀a:Int,((24:Nat):Int)+1≤a→a≤24→False:=λa h1 h2=>ω
  exact(g _ h1 h2).elim
theorem J2(hN:5000000≤N){c:ae}{b:aq}{m:Nat}(hm:m≤40000)(hc:G m aA c)(hb:G m aL b)(a:Int):Ok (λr=>aG r.1) (abi N c b a):=by
 unfold abi F40
 exact bH (dD N hN ω hb) (bx (λ_=>an bt) λ_=>af (yh N ω ω hb.2.1 _) λ_ _=>bx (λ_=>an bt) λ_=>af (Oo N ω ω hb.2.2.2.1 _) λl hl=>af (Q:=λr=>Bg 60000 r.1) (af (Cv N ω ω hc hl _) λr hr=>an hr) λu hu=>af (uG N ω ω hb _) λg hg=>et (λ_=>an bt) λ_=>af (xB N hu) λv hv=>sb (λ_=>ax (λ_=>an hv) λ_=>an hg) λ_=>an hg)
theorem XX(hN:200000≤N){l:aC}{a d:Int}{m:Nat}(hm:m≤50000)(h:L3 m l)(ha:aG a)(hd:aG d):Ok (λr=>L3 (2*m) r) (m6 N l a d):=by
 have hl:=h.1
 unfold m6 m6.b
 refine bH (mR N ω hN) (bx (λ_=>an G.nil) λ_=>ok_eq (λ_=>an G.nil) λ_=>ax (λ_=>an G.nil) λ_=>ax (λ_=>an G.nil) λ_=>ax (λ_=>an G.nil) λ_=>ax (λ_=>an G.nil) λ_=>bg (len:=l.length) (F:=λn i s=>m6.l5 N n l a d s i) (λi s=>L3 (2*i) s) G.nil ω (λn i s hi hI hr=> ?_) (λn s hI=> ?_))
 all_goals unfold m6.l5 m6.e8
 ·have hs:=hI.1
  have hx:=G.at h (i:Int).toNat
  dsimp only
  rw[ay (x:=(i:Int)+1) ω ω,ag i]
  have h1:=hr s (G.mono ω hI)
  exact ax (λ_=>az ⟨ω,ω⟩ (ok_eq (λ_=>az ⟨ω,ω⟩ (az ⟨ω,ω⟩ (az ⟨ω,ω⟩ (az ⟨ω,ω⟩ (aE (by rw[td];omega) (hr _ (G.mono ω (G.cat hI (G.two (m:=2) (G3 ha hx.2.1 (gH _)) (G3 hd hx.2.1 hx.2.2.1) (aI 2)))))))))) λ_=>h1)) λ_=>ω
 ·exact ax (λ_=>ω) λ_=>an (G.mono ω hI)
theorem abj(hN:5000000≤N){c:ae}{b:aq}{m:Nat}(h2:200≤m)(hm:m≤1000)(hc:G m aA c)(hb:G m aL b)(a:Int):Ok (λr=>G m aL r.1) (gy N c b a):=by
 unfold gy gy.b
 refine bH (dD N hN ω hb) (bx (λ_=>an G.jc) λhB=>af (qU N ω ω hb _) λ_ _=>ok_eq (λ_=>an G.jc) λ_=> ?_)
 have hal:b.2.1.length≤24:=by
  unfold dT at hB
  have h1:=(cL.1 (cL.1 hB).2).1
  unfold rS at h1
  exact OG (cL.1 (cL.1 h1).2).1
 refine bg (len:=b.2.1.length) (F:=λn i (z:aC×bJ)=>gy.l8 N n a c b (bM,(dh,(cf,(cf,(dW,(eu,())))))) z.1 z.2 i) (s:=(_,_)) (λi z=>L3 (2*m*i) z.1∧kb (4*i) z.2) ⟨G.nil,kb.nil⟩ ω (λn i z hi hI hr=> ?_) (λn z hI=> ?_)
 all_goals unfold gy.l8 gy.zo
 ·obtain⟨h5,h6⟩:=hI
  have h7:=h5.1
  have h8:=h6.1
  have hmi:2*m*i≤2*m*24:=me _ ω
  have hms:2*m*(i+1)=2*m*i+2*m:=rj _ _
  have hx:G m eD (b.2.1.getD (i:Int).toNat aQ):=G.at hb.2.1 _
  have hj: ∀p:bJ,kb (4*i+2) p→Ok (λr=>G m aL r.1) (gy.Cp N (gy.l8 N n) a c b (bM,(dh,(cf,(cf,(dW,(eu,())))))) z.1 p (i:Int) (b.2.1.getD (i:Int).toNat aQ)):=λp hp=>by
   have C2:=hp.1
   unfold gy.Cp gy.wo
   rw[ay (x:=(i:Int)+1) ω ω,ag i]
   exact af (uG N ω ω hb _) λg hg=>ax (λ_=>af (br N ω hg) λv hv=>af (qT N ω ω hv) λv hv=>af (tf N ω _ _ _ _ (Bg.mono hv ω)) λu hu=>aE (by have:=hu.1;omega) (af (XX N ω ω hb.2.2.2.1 hx.1 bt) λs hs=>aE (by have:=hs.1;omega) (hr (_,_) ⟨G.mono ω (G.cat h5 hs),kb.mono (kb.app hp hu) ω⟩))) λ_=>af (XX N ω ω hb.2.2.2.1 hx.1 bt) λs hs=>aE (by have:=hs.1;omega) (hr (_,_) ⟨G.mono ω (G.cat h5 hs),kb.mono hp ω⟩)
  rw[ay (x:=(i:Int)+1) ω ω,ag i]
  exact ax (λ_=>az ⟨ω,ω⟩ (bz (λ_=>hr z ⟨G.mono ω h5,kb.mono h6 ω⟩) λ_=>ok_eq (λ_=>af (J2 N hN ω hc hb _) λq hq=>af (br N ω hq) λv hv=>af (tf N ω _ _ _ _ (Bg.mono hv ω)) λu hu=>aE (by have:=hu.1;omega) (hj _ (kb.mono (kb.app h6 hu) ω))) λ_=>hj _ (kb.mono h6 ω))) λ_=>ω
 ·obtain⟨h5,h6⟩:=hI
  have hmi:2*m*b.2.1.length≤2*m*24:=me _ ω
  exact ax (λ_=>ω) λ_=>af (tc N ω h2 ω hb (G.mono ω h5) (kb.mono h6 ω)) λr hr=>an hr
abbrev GS(m:Nat)(s:aV):Prop:=G m dY s
abbrev SR(m:Nat)(r:aV×eP):Prop:=GS m r.1
theorem Lp(e:Int):Ok (λ_=>True) (fp N e):=by
 unfold fp;exact fa
theorem UR(hN:5000000≤N){c:ae}{s:aV}{e:ia}{m:Nat}(h2:200≤m)(hm:m≤1000)(hc:G m aA c)(hs:GS m s)(he:G 0 pE e):Ok (SR m) (nR N c s e):=by
 have hhl:=hs.2.2.2.1.2.2.2.2.1.1
 unfold nR nR.b
 generalize ((0:Int),((0:Int),_))=S0
 refine bg (len:=s.2.2.2.1.2.2.2.2.1.length) (F:=λn i (z:aV×aO×Bool×Int)=>nR.l5 N n c z.1 e S0 bW z.2.1 z.2.2.1 z.2.2.2 i) (s:=(_,(_,(_,_)))) (λi z=>GS m z.1∧z.1.2.2.2.1.2.2.2.2.1=s.2.2.2.1.2.2.2.2.1∧G i (.slice eD) z.2.1) ⟨hs,rfl,G.nil⟩ ω (λn i z hi hI hr=> ?_) (λn z hI=> ?_)
 all_goals unfold nR.l5 nR.e8
 ·obtain⟨hz,hh,ho⟩:=hI
  have Jg:=ho.1
  rw[hh,ay (x:=(i:Int)+1) ω ω,ag i]
  have hx:G 0 eD (s.2.2.2.1.2.2.2.2.1.getD (i:Int).toNat aQ):=G.at hs.2.2.2.1.2.2.2.2.1 _
  refine ax (λ_=>az ⟨ω,ω⟩ (ok_eq (λ_=>af (SK N hN h2 ω hc hz.2.2.1 (G.mono (bA m) hx) he.2.2.1 he.2.2.2.2.2.2.1 he.2.2.2.2.2.2.2.1) λr ⟨xe,xQ⟩=>bz (λ_=>af (Lp N _) λ_ _=>an hz) λ_=> ?_) λ_=>ax (λ_=>aE (by rw[aJ];omega) (hr (z.1,(z.2.1++[s.2.2.2.1.2.2.2.2.1.getD (i:Int).toNat aQ],z.2.2)) ⟨hz,hh,G.cat ho (G.one hx (aI 1))⟩)) λ_=>hr z ⟨hz,hh,G.mono ω ho⟩)) λ_=>ω
  have H6:GS m (z.1.1,(z.1.2.1,(r.1,z.1.2.2.2))):=⟨hz.1,hz.2.1,xe,hz.2.2.2⟩
  have aij:G 0 eD r.2.1:=xQ
  exact ax (λ_=>aE (by rw[aJ];omega) (hr ((z.1.1,(z.1.2.1,(r.1,z.1.2.2.2))),(z.2.1++[r.2.1],(true,r.2.1.2.2.2.1))) ⟨H6,hh,G.cat ho (G.one aij (aI 1))⟩)) λ_=>hr ((z.1.1,(z.1.2.1,(r.1,z.1.2.2.2))),(z.2.1,(true,r.2.1.2.2.2.1))) ⟨H6,hh,G.mono ω ho⟩
 ·obtain⟨hz,hh,ho⟩:=hI
  rw[hh]
  exact ax (λ_=>ω) λ_=>bx (λ_=>af (Lp N _) λ_ _=>an hz) λ_=>an ⟨hz.1,hz.2.1,hz.2.2.1,⟨hz.2.2.2.1.1,hz.2.2.2.1.2.1,hz.2.2.2.1.2.2.1,hz.2.2.2.1.2.2.2.1,G.mono hhl ho,hz.2.2.2.1.2.2.2.2.2⟩,hz.2.2.2.2⟩
theorem uK(hN:4000000≤N){s:aV}{q:Int}(hs:aG s.1)(hq:aG q):Ok (λr=>aG r.1) (US N s q):=by
 unfold US
 exact af (br N hN hs) λa ha=>af (br N hN hq) λb hb=>af (ld N hN ω ha hb) λx hx=>af (xB N hx) λv hv=>an hv
theorem cW{α:Type}{P:α×eP→Prop}{N:Nat}{e:Int}{f:eP→Option (α×eP)}(h: ∀r,Ok P (f r)):Ok P ((fp N e).bind f):=af (Lp N e) λr _=>h r
theorem XY(hN:5000000≤N){c:ae}{s:aV}{e:ia}{m:Nat}(h2:200≤m)(hm:m≤999)(hc:G 5 aA c)(hs:GS m s)(he:G 0 pE e):Ok (SR (m+1)) (nS N c s e):=by
 have EG:G m aA c:=G.mono ω hc
 have P6:GS (m+1) s:=G.mono ω hs
 obtain⟨s1,s2,s3,⟨k1,k2,k3,k4,k5,k6,k7,k8,k9,Rc,UT⟩,s5⟩:=P6
 have hk:=hs.2.2.2.1
 have i2:aG 2:=bB
 have i3:aG 3:=bB
 have up: ∀{τ:Ty} {x:τ.den},G m τ x→G (m+1) τ x:=λh=>G.mono ω h
 have bG: ∀r:eP,Ok (SR (m+1)) (some (s,r)):=λr=>an (up hs)
 unfold nS nS.b
 refine ok_eq (λ_=> ?_) λ_=>ok_eq (λ_=> ?_) λ_=>ok_eq (λ_=> ?_) λ_=>ok_eq (λ_=> ?_) λ_=>ok_eq (λ_=> ?_) λ_=>ok_eq (λ_=> ?_) λ_=>ok_eq (λ_=> ?_) λ_=>ok_eq (λ_=> ?_) λ_=>cW λr=>bG r
 ·exact af (aa6 N hN ω EG hs.2.2.1 _ he.2.1 _) λr hr=>cW λ_=>an ⟨s1,s2,up hr,(up hs).2.2.2⟩
 ·exact af (abj N hN h2 ω EG hs.2.2.1 _) λr hr=>cW λ_=>an ⟨s1,s2,up hr,⟨k1,i2,bt,k4,k5,k6,k7,k8,k9,Rc,UT⟩,s5⟩
 ·exact af (Uy N hN c hc.2.2.2.2.2.2.1 ω hs.2.2.1 _) λr hr=>an ⟨s1,gH _,s3,⟨k1,k2,k3,k4,G.mono ω hr,k6,k7,k8,k9,Rc,UT⟩,s5⟩
 ·exact af (UR N hN h2 ω EG hs he) λr hr=>an (up hr)
 ·exact ok_eq (λ_=>cW λr=>bG r) λ_=>af (aa8 N hN h2 ω EG hs.2.2.1 hs.2.1) λl hl=>bz (λ_=>cW λr=>bG r) λ_=>af (uK N ω hs.1 hc.2.2.2.2.1) λt ht=>bx (λ_=>cW λr=>bG r) λ_=>af (SL N hN c ω hs.2.2.1) λu hu=>an ⟨s1,gH _,s3,⟨k1,i3,ht,gH _,G.nil,up hl,G.nil,up hu,k9,Rc,UT⟩,s5⟩
 ·have hx:G 0 eD (s.2.1,(e.2.2.2.2.2.1,(e.2.1,(e.2.2.2.2.2.2.2.1,())))):=⟨hs.2.1,he.2.2.2.2.2.1,he.2.1,he.2.2.2.2.2.2.2.1,trivial⟩
  exact af (JX N hN ω ω EG hs.2.2.1 hk.2.2.2.2.2.1 hk.2.2.2.2.2.2.1 hx) λr hr=>an ⟨s1,gH _,s3,⟨k1,k2,k3,k4,k5,k6,hr,k8,k9,Rc,UT⟩,s5⟩
 ·refine af (OF N hN c h2 ω hs.2.2.1 hk.2.2.2.2.2.1 hk.2.2.2.2.2.2.1) λr ⟨xe,xQ⟩=>bz (λ_=>cW λr=>bG r) λ_=>af (OD N ω c h2 ω hk.2.2.2.2.2.2.2.2.1 hk.2.2.2.2.2.2.2.1.1 xQ hk.2.2.2.2.2.2.1) λd hd=> ?_
  generalize ((0:Int),((0:Int),_))=S0
  have MB:=xQ.1
  refine bg (len:=r.2.1.length) (F:=λn i q=>nS.l41 N n _ S0 bW r.2.1 q i) (λ_ _=>True) trivial ω (λn i q hi _ eV=> ?_) (λn q _=> ?_)
  all_goals unfold nS.l41 nS.abk
  ·rw[ay (x:=(i:Int)+1) ω ω,ag i]
   exact ax (λ_=>az ⟨ω,ω⟩ (ok_eq (λ_=>eV _ trivial) λ_=>eV _ trivial)) λ_=>ω
  ·exact ax (λ_=>ω) λ_=>an ⟨s1,s2,up xe,⟨k1,i2,bt,k4,k5,up xQ,k7,k8,up hd,Rc,UT⟩,s5⟩
 ·exact af (J1 N hN h2 ω EG hs.2.2.1 hk.2.2.2.2.2.2.2.2.1 hk.2.2.2.2.2.2.2.2.2.1 hk.1) λr ⟨xe,xQ⟩=>bz (λ_=>cW λr=>bG r) λ_=>af (SS N hN h2 ω hc xe) λb hb=>bz (λ_=>cW λr=>bG r) λ_=>af (Lh N ω ω hb.1 _ _) λu hu=>an ⟨s1,s2,⟨up hu,(up hb).2⟩,G.zero (m+1) sr,up xQ,trivial⟩
theorem OH(s:aV)(k:Int):Ok (λ_=>True) (abl N s k):=by
 unfold abl
 repeat' first|exact fa|refine ok_eq (λ_=> ?_) (λ_=> ?_)
theorem oE(hN:200000≤N){s:aV}{m:Nat}(hm:m≤50000)(hs:GS m s)(k:Int):Ok (λ_=>True) (Hi N s k):=by
 unfold Hi
 exact af (oC N hN hm hs.2.2.1.1 _) λ_ _=>fa
theorem XZ(hN:200000≤N){s:aV}{m:Nat}(hm:m≤50000)(hs:GS m s)(k:Int):Ok (λ_=>True) (Re N s k):=by
 unfold Re
 exact af (yh N hN hm hs.2.2.1.2.1 _) λ_ _=>fa
theorem abm(hN:4000000≤N){s:aV}{m:Nat}(h2:200≤m)(hm:m≤50000)(hs:GS m s)(a b c d:Int){q:Int}(hq:aG q):Ok (SR m) (OI N s a b c d q):=by
 unfold OI
 exact af (br N hN hq) λx hx=>af (tf N hN _ _ _ _ (Bg.mono hx ω)) λp hp=>af (tc N hN h2 hm hs.2.2.1 G.nil (kb.mono hp ω)) λr hr=>an ⟨hs.1,hs.2.1,hr,hs.2.2.2⟩
theorem X0(hN:5000000≤N){c:ae}{s:aV}{e:ia}{m:Nat}(h2:200≤m)(hm:m≤999)(hc:G 5 aA c)(hs:GS m s)(he:G 0 pE e):Ok (SR (m+1)) (p6 N c s e):=by
 obtain⟨s1,s2,s3,⟨k1,k2,k3,k4,k5,k6,k7,k8,k9,Rc,UT⟩,s5⟩:=hs
 have hs:GS m s:=⟨s1,s2,s3,⟨k1,k2,k3,k4,k5,k6,k7,k8,k9,Rc,UT⟩,s5⟩
 have up: ∀{x:aV},GS m x→ ∀r:eP,Ok (SR (m+1)) (some (x,r)):=λh r=>an (P:=SR (m+1)) (G.mono (tU m) h)
 have i1:aG 1:=bB
 have us: ∀{τ:Ty} {x:τ.den},G m τ x→G (m+1) τ x:=λh=>G.mono ω h
 unfold p6 p6.b
 have hj: ∀(S0:aV) (z:eP),Ok (SR (m+1)) (p6.L1 N c s e S0 z):=λS0 z=>by
  unfold p6.L1 p6.Ep
  exact af (OH N _ _) λ_ _=>bx (λ_=>cW λr=>up hs r) λ_=>af (XY N hN h2 hm hc hs he) λr hr=>an hr
 have mem: ∀{x:aB},G m (.slice hZ) x→G m aL ((x,s.2.2.1.2):aq):=λh=>⟨h,s3.2⟩
 have hd: ∀z:aB×Int,G m (.slice hZ) z.1→Ok (SR (m+1)) (cond (aM z.2 0) (cond (aM e.1 11) ((Li N c (z.1,s.2.2.1.2) e.2.1).bind λr2=>cond (aM s.2.2.2.1.2.1 3) ((pG N s.2.2.2.1.2.2.2.2.2.2.1 e.2.1).bind λr3=>(fp N z.2).bind λr4=>some ((s.1,(s.2.1,(r2.1,((s.2.2.2.1.1,(s.2.2.2.1.2.1,(s.2.2.2.1.2.2.1,(s.2.2.2.1.2.2.2.1,(s.2.2.2.1.2.2.2.2.1,(s.2.2.2.1.2.2.2.2.2.1,(r3,s.2.2.2.1.2.2.2.2.2.2.2))))))),s.2.2.2.2)))),r4)) ((fp N z.2).bind λr5=>some ((s.1,(s.2.1,(r2.1,s.2.2.2))),r5))) ((fp N z.2).bind λr6=>some ((s.1,(s.2.1,((z.1,s.2.2.1.2),s.2.2.2))),r6))) ((fp N z.2).bind λr7=>some ((s.1,(s.2.1,((z.1,s.2.2.1.2),s.2.2.2))),r7))):=λz hz=>
  ok_eq (λ_=>ok_eq (λ_=>af (Ow N hN c ω (mem hz) _) λb hb=>ok_eq (λ_=>af (DH N ω ω k7 _) λl hl=>cW λr=>an ⟨s1,s2,us hb,⟨k1,k2,k3,k4,us k5,us k6,us hl,us k8,us k9,us Rc,trivial⟩,us s5⟩) λ_=>cW λr=>an ⟨s1,s2,us hb,(us hs).2.2.2⟩) λ_=>cW λr=>an ⟨s1,s2,us (mem hz),(us hs).2.2.2⟩) λ_=>cW λr=>an ⟨s1,s2,us (mem hz),(us hs).2.2.2⟩
 have Ip:=λk:Int=>Lh N ω (m:=m) ω s3.1 e.2.1 k
 refine ok_eq (λ_=>af (Ip _) λz hz=>hd z hz) λ_=>ok_eq (λ_=>af (Ip _) λz hz=>hd z hz) λ_=>ok_eq (λ_=> ?_) λ_=>ok_eq (λ_=> ?_) λ_=>hj _ _
 ·exact af (oE N ω ω hs _) λ_ _=>ok_eq (λ_=>cW λr=>up hs r) λ_=>bz (λ_=>cW λr=>up hs r) λ_=>af (Ip _) λz hz=>bz (λ_=>cW λr=>an ⟨s1,s2,us (mem hz),(us hs).2.2.2⟩) λ_=>af (uK N ω s1 hc.2.2.2.1) λt ht=>bx (λ_=>cW λr=>an ⟨s1,s2,us (mem hz),(us hs).2.2.2⟩) λ_=>an ⟨s1,s2,us (mem hz),⟨he.2.1,i1,ht,bt,G.nil,G.nil,G.nil,G.nil,G.nil,G.nil,trivial⟩,us s5⟩
 ·exact af (oE N ω ω hs _) λ_ _=>ok_eq (λ_=>cW λr=>up hs r) λ_=>af (oE N ω ω hs _) λ_ _=>bz (λ_=>cW λr=>up hs r) λ_=>hj _ _
theorem abn(hN:5000000≤N){c:ae}{s:aV}{e:ia}{m:Nat}(h2:200≤m)(hm:m≤999)(hc:G 5 aA c)(hs:GS m s)(he:G 0 pE e):Ok (SR (m+1)) (UU N c s e):=by
 have EG:G m aA c:=G.mono ω hc
 obtain⟨s1,s2,s3,⟨k1,k2,k3,k4,k5,k6,k7,k8,k9,Rc,UT⟩,s5⟩:=hs
 have hs:GS m s:=⟨s1,s2,s3,⟨k1,k2,k3,k4,k5,k6,k7,k8,k9,Rc,UT⟩,s5⟩
 have us: ∀{τ:Ty} {x:τ.den},G m τ x→G (m+1) τ x:=λh=>G.mono ω h
 have P6:=us hs
 have up: ∀{x:aV},GS m x→ ∀r:eP,Ok (SR (m+1)) (some (x,r)):=λh r=>an (P:=SR (m+1)) (G.mono (tU m) h)
 have st:=λk:Int=>oE N ω (m:=m) ω hs k
 have hp:=λa b c d=>abm N ω h2 ω hs a b c d he.2.2.2.2.2.2.1
 have UW:=he.2.2.2.2.2.2.1
 unfold UU
 refine ok_eq (λ_=> ?_) λ_=>ok_eq (λ_=> ?_) λ_=>ok_eq (λ_=> ?_) λ_=>ok_eq (λ_=> ?_) λ_=>ok_eq (λ_=> ?_) λ_=>ok_eq (λ_=> ?_) λ_=>ok_eq (λ_=> ?_) λ_=>ok_eq (λ_=> ?_) λ_=>ok_eq (λ_=> ?_) λ_=>ok_eq (λ_=> ?_) λ_=>ok_eq (λ_=> ?_) λ_=>af (X0 N hN h2 hm hc hs he) λr hr=>an hr
 ·exact af (XK N ω ω s3.1 he.2.1) λr hr=>cW λ_=>an ⟨s1,s2,⟨hr,P6.2.2.1.2⟩,P6.2.2.2⟩
 ·have hx:G 0 eD (e.2.2.1,(e.2.1,(e.2.2.2.2.1,((0:Int),())))):=⟨he.2.2.1,he.2.1,he.2.2.2.2.1,bt,trivial⟩
  exact af (aa2 N ω ω s3.1 s3.2.1 hx) λr hr=>cW λ_=>an ⟨s1,s2,⟨P6.2.2.1.1,hr,P6.2.2.1.2.2⟩,P6.2.2.2⟩
 ·exact af (XZ N ω ω hs _) λ_ _=>bx (λ_=>cW λr=>up hs r) λ_=>af (hp _ _ _ _) λr hr=>an (us hr)
 ·exact af (Oy N hN h2 ω EG s3 _ UW) λr hr=>cW λz=>an ⟨s1,s2,us hr,(us hs).2.2.2⟩
 ·exact af (st _) λ_ _=>ok_eq (λ_=>cW λr=>up hs r) λ_=>af (st _) λ_ _=>bz (λ_=>cW λr=>up hs r) λ_=>af (hp _ _ _ _) λr hr=>an (us hr)
 ·exact af (st _) λ_ _=>ok_eq (λ_=>cW λr=>up hs r) λ_=>af (mK N ω ω s3.2.2.1 _ _) λg hg=>af (br N ω hg) λx hx=>af (qT N ω ω hx) λx hx=>af (br N ω UW) λy hy=>af (p4 N ω ω ω hy hx) λ_ _=>ax (λ_=>cW λr=>up hs r) λ_=>af (hp _ _ _ _) λr hr=>an (us hr)
 ·exact af (XL N ω ω s3.2.1 UW) λr hr=>cW λz=>an ⟨s1,s2,⟨us s3.1,us hr,(us s3).2.2⟩,(us hs).2.2.2⟩
 ·have hx:G 0 m9 (s.2.1,(e.2.2.1,(e.2.2.2.1,(e.2.2.2.2.1,(e.2.2.2.2.2.2.1,(e.2.2.2.2.2.2.2.1,())))))):=⟨s2,he.2.2.1,he.2.2.2.1,he.2.2.2.2.1,UW,he.2.2.2.2.2.2.2.1,trivial⟩
  exact af (XP N hN h2 ω EG s3 hx) λr hr=>an ⟨s1,gH _,hr,P6.2.2.2⟩
 ·exact af (XZ N ω ω hs _) λ_ _=>bx (λ_=>cW λr=>up hs r) λ_=>af (UD N ω ω s3.2.2.2.2.2.1 _ _) λr hr=>cW λz=>an ⟨s1,s2,⟨us s3.1,us s3.2.1,us s3.2.2.1,us s3.2.2.2.1,us s3.2.2.2.2.1,us hr,trivial⟩,(us hs).2.2.2⟩
 ·exact af (DI N hN c h2 ω s3 _ he.2.2.2.2.2.2.2.1) λr ⟨xe,xQ⟩=>ok_eq (λ_=>bz (λ_=>af (Ox N ω h2 ω Rc xQ) λg hg=>cW λz=>an ⟨s1,s2,us xe,⟨k1,k2,k3,k4,us k5,us k6,us k7,us k8,us k9,us hg,trivial⟩,us s5⟩) λ_=>cW λz=>an ⟨s1,s2,us xe,(us hs).2.2.2⟩) λ_=>cW λz=>an ⟨s1,s2,us xe,(us hs).2.2.2⟩
 ·exact af (uK N ω s1 UW) λt ht=>bx (λ_=>cW λr=>up hs r) λ_=>an ⟨ht,(us hs).2⟩
theorem abo(hN:5000000≤N){c:ae}{s:aV}{e:ia}{m:Nat}(h2:200≤m)(hm:m≤999)(hc:G 5 aA c)(hs:GS m s)(he:G 0 pE e):Ok (SR (m+1)) (F72 N c s e):=by
 have bG: ∀r:eP,Ok (SR (m+1)) (some (s,r)):=λr=>an (P:=SR (m+1)) (G.mono (tU m) hs)
 unfold F72
 exact bH (nB N ω c) (bx (λ_=>bG _) λ_=>af (JV N ω e) λ_ _=>bx (λ_=>bG _) λ_=>af (abn N hN h2 hm hc hs he) λr hr=>bz (λ_=>bG _) λ_=>an hr)
end VM
end
section
namespace VM
open Go VM.F Go.RowKit
variable(N:Nat)
theorem abp{l:List Int}(h:WF (.slice (.int .u64)) l):Dk 0 ((l,((0:Int),())):bb):=⟨λx hx=>by
 obtain⟨i,hi,rfl⟩:=fC hx
 have h3:0≤l[i]∧l[i]≤18446744073709551615:=wf_u64.1 (h.2 i hi)
 exact⟨h3.1,wF h3.2 δ⟩,ec 0,ec 0⟩
namespace Pure
end Pure
theorem n7{α:Type}{l:List α}{d:α}{i:Nat}(h:i<l.length):l.getD i d∈l:=by
 rw[aZ,bo h];exact fg h
theorem Hj{l:aB}(hl:l.length≤100000)(hN:200000≤N):zF N l l=some true:=by
 unfold zF zF.b
 rw[Bj,bR,au]
 refine JE (F:=λn i=>zF.l4 N n l l i) (len:=l.length) (λn i hi hr=> ?_) (λn=> ?_) l.length N 0 ω ω ω
 ·unfold zF.l4 zF.ew
  rw[aP ω,aj,aY ω ω,aj,aj,ahU,bR,au,ay (x:=(i:Int)+1) ω ω,ag i]
  exact hr
 ·unfold zF.l4 zF.ew
  rw[aK ω,au]
namespace Pure
end Pure
theorem xC{P:Int→Prop} [DecidablePred P]{f:Int→Int→Int}: ∀{K:List gv} {o:aC},jo P f K=some o→(o.map keyOf).Sublist K∧(∀x∈o,gJ x=f x.1 x.2.1∧gJ x≠0∧P (gJ x))∧(∀k∈K,P (f k.1 k.2))∧ ∀a b,gL a b o=if(a,b)∈K then f a b else 0
 |[],o,h=>by
  have e:[]=o:=q7 h
  subst e
  exact⟨List.Sublist.refl _,λx hx=>(nomatch hx),λk hk=>(nomatch hk),λa b=>by rw[ah (λh=>nomatch h)];rfl⟩
 |k::t,o,h=>by
  rw[Cg]at h
  by_cases hp:P (f k.1 k.2)
  ·rw[ak hp]at h
   cases ho:jo P f t with
   |none=>rw[ho]at h;exact nomatch h
   |some o'=>
    rw[ho]at h
    have e:(if f k.1 k.2=0 then o' else(k.1,(k.2,(f k.1 k.2,())))::o')=o:=q7 h
    obtain⟨s,g,gp,gf⟩:=xC ho
    have iT: ∀k'∈k::t,P (f k'.1 k'.2):=λk' hk=>by
     rcases bm.1 hk with rfl|hk
     ·exact hp
     ·exact gp k' hk
    by_cases h0:f k.1 k.2=0
    ·rw[ak h0]at e
     subst e
     refine⟨s.cons _,g,iT,λa b=> ?_⟩
     rw[gf a b]
     by_cases hk:(a,b)=k
     ·subst hk
      rw[ak (bu ..)]
      dsimp only at h0
      rw[h0];split<;>rfl
     ·by_cases ht:(a,b)∈t
      ·rw[ak ht,ak (a6 _ ht)]
      ·rw[ah ht,ah (λh=>(bm.1 h).elim hk ht)]
    ·rw[ah h0]at e
     subst e
     refine⟨s.cons_cons _,λx hx=> ?_,iT,λa b=> ?_⟩
     ·rcases bm.1 hx with rfl|hx
      ·exact⟨rfl,h0,hp⟩
      ·exact g x hx
     ·rw[jq]
      dsimp only
      rw[gf a b]
      by_cases h1:k.1=a
      ·by_cases h2:k.2=b
       ·have hk:(a,b)=k:=by rw[←h1,←h2]
        rw[ak h1,ak h2,ak (by rw[hk];exact bu ..),h1,h2]
       ·have hk:(a,b)≠k:=λe=>h2 (by rw[←e])
        rw[ak h1,ah h2]
        by_cases ht:(a,b)∈t
        ·rw[ak ht,ak (a6 _ ht)]
        ·rw[ah ht,ah (λh=>(bm.1 h).elim hk ht)]
      ·have hk:(a,b)≠k:=λe=>h1 (by rw[←e])
       rw[ah h1]
       by_cases ht:(a,b)∈t
       ·rw[ak ht,ak (a6 _ ht)]
       ·rw[ah ht,ah (λh=>(bm.1 h).elim hk ht)]
  ·rw[ah hp]at h;exact nomatch h
theorem X1{l:aC}(hs:Ej (l.map keyOf)){j:Nat}(hj:j<l.length)(h0:0<j):GD (keyOf (l.getD (j-1) bW)) (keyOf (l.getD j bW)):=by
 have:=qk.1 (wH.1 hs) (j-1) j ω hj ω
 rw[aZ,aZ,bo hj,bo (show j-1<l.length by omega)]
 exact this
theorem Rf{l:aC}(hs:Ej (l.map keyOf))(h: ∀x∈l,cE x.1 x.2.1∧gJ x≠0∧mZ (gJ x)):dq l=true:=by
 unfold dq
 rw[gk]
 refine bq λj hj=> ?_
 obtain⟨a,b,c⟩:=h _ (n7 (d:=bW) hj)
 exact⟨a,b,c,λh0=>X1 hs hj h0⟩
theorem UX{l:aC}(hs:Ej (l.map keyOf))(h: ∀x∈l,df x.1 x.2.1∧gJ x≠0):fx l=true:=by
 unfold fx
 rw[gk]
 refine bq λj hj=> ?_
 obtain⟨a,b⟩:=h _ (n7 (d:=bW) hj)
 exact⟨a,b,λh0=>X1 hs hj h0⟩
theorem ss{a b:Int}:(a,b)∈oy↔cE a b:=by
 unfold oy cE
 rw[uw];dsimp only;omega
theorem Rg(b:aq)(s e:aC):((oT b s e).2=2∧(oT b s e).1=(bM,(dh,(cf,(cf,(dW,(eu,())))))))∨ ∃s' r',jo Fq (fS b.2.2.2.1 s) oy=some s'∧jo aG (fS b.2.2.1 e) s6=some r'∧oT b s e=((b.1,(b.2.1,(r',(s',b.2.2.2.2)))),0):=by
 unfold oT
 cases h1:jo Fq (fS b.2.2.2.1 s) oy with
 |none=>exact .inl ⟨rfl,rfl⟩
 |some s'=>
  cases h2:jo aG (fS b.2.2.1 e) s6 with
  |none=>exact .inl ⟨rfl,rfl⟩
  |some r'=>exact .inr ⟨s',r',rfl,rfl,rfl⟩
theorem Rh{l E o:aC}(hs:dq l=true)(h:jo Fq (fS l E) oy=some o):dq o=true∧(∀a b,cE a b→fL o a b=fL l a b+dK a b E∧Fq (fL o a b)):=by
 obtain⟨h1,h2,h3,h4⟩:=xC h
 have hso:Ej (o.map keyOf):=Fg h1 (ux 6 25 0)
 have ho:dq o=true:=Rf hso λx hx=>by
  have hk:(x.1,x.2.1)∈oy:=h1.subset (gi (f:=keyOf) hx)
  obtain⟨_,g1,g2⟩:=h2 x hx
  exact⟨ss.1 hk,g1,g2.2⟩
 refine⟨ho,λa b hp=> ?_⟩
 have e:fL o a b=fS l E a b:=by
  unfold fL
  rw[ho,ak rfl,h4 a b,ak (ss.2 hp)]
 refine⟨?_,by rw[e];exact h3 _ (ss.2 hp)⟩
 rw[e]
 unfold fS fL
 rw[hs,ak rfl,uE (fK hs).1]
theorem E3{a b:Int}{l:aC}(h:dK a b l≠0): ∃x∈l,x.1=a∧x.2.1=b:=
 Mh λhn=>h (kJ λx hx e=>hn ⟨x,hx,e⟩)
theorem abq{l E o:aC}(hs:fx l=true)(hE: ∀x∈E,df x.1 x.2.1)(h:jo aG (fS l E) s6=some o):fx o=true∧(∀a b,df a b→vY o a b=vY l a b+dK a b E∧aG (vY o a b)):=by
 obtain⟨h1,h2,h3,h4⟩:=xC h
 obtain⟨hl,qp⟩:=vy hs
 have hso:Ej (o.map keyOf):=Fg h1 (ux 25 7 1)
 have ho:fx o=true:=UX hso λx hx=>by
  obtain⟨g0,g1,g2⟩:=h2 x hx
  refine⟨?_,g1⟩
  rw[g0]at g1
  unfold fS at g1
  by_cases hz:dK x.1 x.2.1 l=0
  ·rw[hz,tT]at g1
   obtain⟨y,hy,e1,e2⟩:=E3 g1
   rw[←e1,←e2];exact hE y hy
  ·obtain⟨y,hy,e1,e2⟩:=E3 hz
   rw[←e1,←e2];exact qp y hy
 refine⟨ho,λa b hk=> ?_⟩
 have hg:(a,b)∈s6:=by
  unfold s6
  rw[uw]
  unfold df at hk
  dsimp only;omega
 have e:vY o a b=fS l E a b:=by
  unfold vY
  rw[ho,ak rfl,h4 a b,ak hg]
 refine⟨?_,by rw[e];exact h3 _ hg⟩
 rw[e]
 unfold fS vY
 rw[hs,ak rfl,uE hl]
namespace Pure
end Pure
namespace Pure
end Pure
end VM
end
