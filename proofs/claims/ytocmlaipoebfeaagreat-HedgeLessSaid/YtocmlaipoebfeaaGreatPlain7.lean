/- A part of the proof of HedgeLess of layer 22: what the functions compute, in plain words. -/
import Derived.Test.YtocmlaipoebfeaaGreatPlain6
set_option linter.all false
section
namespace VM
open Go VM.F
theorem CJ(N:Nat)(hN:4000000≤N){c:ae}{l:aD}{m:Nat}(hm:m≤50000)(hc:G m aB c)(hl:L2 m l)(f:Bool):Ok (λr=>Bg 60000 r.1) (qx N c l f):=by
 have h1:=hl.1
 unfold qx qx.b
 refine bw (Bj N ω c ω) (bz (λ_=>aq (L0 ω)) λhk=>bn (len:=l.length) (F:=λn i t=>qx.l5 N n l f c (false,(([]:List Int),())) t i) (λi t=>Bg (8+i) t) (L0 ω) ω (λn i t hi ht hr=> ?_) (λn t ht=> ?_))
 all_goals unfold qx.l5 qx.eA
 ·rw[aw (x:=(i:Int)+1) ω ω,af i,aG]
  unfold oM at hk
  have hp:=bA (dw.1 hk).1 i hi
  unfold oq qq at hp
  have in1: ∀{x y:Option (aJ×Int)},Ok (λr=>Bg 60000 r.1) x→Ok (λr=>Bg 60000 r.1) (cond (aY (l.getD i cv).1 c.1.length) x y):=λh=>aA ⟨hp.1,hp.2.1⟩ h
  have hw: ∀q:Int,aE q→Ok (λr=>Bg 60000 r.1) ((jD N (l.getD i cv).2.1).bind λr3=>(Xn N r3).bind λr4=>(jD N q).bind λr5=>(jE N r4 r5).bind λr6=>(zT N t r6).bind λr7=>qx.l5 N n l f c (false,(([]:List Int),())) r7 ((i+1:Nat):Int)):=λq hq=>
   ag (bu N hN (G.at hl i).2.1) λx hx=>ag (xX N hN ω hx) λx hx=>ag (bu N hN hq) λy hy=>ag (lU N hN ω ω hx hy) λz hz=>ag (kY N hN ω ht (Bg.mono hz ω)) λu hu=>hr u (Bg.mono hu ω)
  exact ax (λ_=>aA ⟨ω,ω⟩ (in1 (sq (λ_=>aA ⟨ω,ω⟩ (in1 (aA ⟨ω,ω⟩ (hw _ (G.at hc.1 _).2.2.2.1)))) λ_=>aA ⟨ω,ω⟩ (hw _ (G.at hc.1 _).2.2.1)))) λ_=>ω
 ·exact ax (λ_=>ω) λ_=>aq (Bg.mono ht ω)
theorem ru(N:Nat)(hN:200000≤N){b:an}{m:Nat}(hm:m≤50000)(hb:G m aL b)(id:Int):Ok (λ_=>True) (Mc N b id):=by
 unfold Mc
 exact ag (oY N hN hm hb.1 _) λ_ _=>fh
theorem vf(N:Nat)(hN:200000≤N){b:an}{m:Nat}(hm:m≤50000)(hb:G m aL b)(id:Int):Ok aE (SK N b id):=by
 unfold SK
 exact ag (mH N hN hm hb.2.2.1 _ _) λr hr=>aq hr
theorem ZT(N:Nat)(hN:5000000≤N){c:ae}{b:an}{m:Nat}(hm:m≤40000)(hc:G m aB c)(hb:G m aL b)(f to a:Int):Ok (λ_=>True) (adt N c b f to a):=by
 unfold adt akO
 have mb:=λid=>ru N ω ω hb id
 exact bw (dS N hN ω hb) (bz (λ_=>fh) λ_=>ag (yB N ω ω hb.2.1 _) λ_ _=>bz (λ_=>fh) λ_=>ag (mb _) λ_ _=>ok_eq (λ_=>fh) λ_=>ag (mb _) λ_ _=>ok_eq (λ_=>fh) λ_=>bt (λ_=>fh) λ_=>bt (λ_=>fh) λ_=>ag (mb _) λ_ _=>bt (λ_=>fh) λ_=>ag (Pw N ω ω hb.2.2.2.1 _) λl hl=>ag (Q:=λr=>Bg 60000 r.1) (ag (CJ N ω ω hc hl _) λr hr=>aq hr) λu hu=>ag (vf N ω ω hb _) λg hg=>ag (bu N ω hg) λx hx=>ag (qv N ω ω ω hx hu) λ_ _=>ax (λ_=>fh) λ_=>fh)
theorem adu(N:Nat)(hN:5000000≤N){c:ae}{b:an}{m:Nat}(hm:m≤40000)(hc:G m aB c)(hb:G m aL b)(f:Int){to:Int}(hto:aE to)(a:Int):Ok (λr=>G m aL r.1) (WD N c b f to a):=by
 unfold WD
 exact ag (ZT N hN hm hc hb _ _ _) λ_ _=>bt (λ_=>aq G.iU) λ_=>ag (SH N ω ω hb.1 hb.2.1 hto) λr hr=>bt (λ_=>aq G.iU) λ_=>aq ⟨hb.1,hr,hb.2.2⟩
theorem WE(N:Nat)(hN:4000000≤N){x:aJ}{q:Int}(hx:Bg 60000 x)(hq:aE q):Ok (λr=>0≤r∧r≤3) (sH N x q):=by
 unfold sH sH.b
 refine ag (E2 N hx) λ_ _=>ew (λ_=>aq δ) λ_=>ax (λ_=>aq δ) λ_=>kX (len:=3) (F:=λn i (_:Unit)=>sH.l4 N n q x i) (λ_ _=>True) (λn i _ hi _ hr=> ?_) (λn _ _=> ?_) 3 N 1 () ω ω ω trivial
 all_goals unfold sH.l4 sH.eN
 ·rw[aw (x:=(i:Int)+1) ω ω,af i]
  exact ax (λ_=>ag (bu N hN (jG ω ω)) λa ha=>ag (bu N hN hq) λb hb=>ag (lU N hN ω ω ha hb) λy hy=>ag (qv N hN ω ω hy hx) λ_ _=>ax (λ_=>hr () trivial) λ_=>aq ω) λ_=>ω
 ·exact ax (λ_=>ω) λ_=>aq ω
theorem UA(N:Nat)(hN:5000000≤N)(c:ae){b:an}{m:Nat}(hm:m≤50000)(hb:G m aL b):Ok (λr=>G m (.slice (.int .i64)) r.1) (sI N c b):=by
 have hl:=hb.1.1
 unfold sI sI.b
 refine bw (dS N hN hm hb) (bz (λ_=>aq G.nil) λ_=>bn (len:=b.1.length) (F:=λn i s=>sI.l5 N n b s i) (λi s=>G i (.slice (.int .i64)) s) G.nil ω (λn i s hi hI hr=> ?_) (λn s hI=> ?_))
 all_goals unfold sI.l5 sI.eA
 ·have hs:=hI.1
  rw[aw (x:=(i:Int)+1) ω ω,af i]
  have h1:=hr s (G.mono ω hI)
  have hx:G 0 (.int .i64) (b.1.getD (i:Int).toNat cv).1:=(G.at hb.1 _).1
  exact ax (λ_=>aA ⟨ω,ω⟩ (ok_eq (λ_=>aA ⟨ω,ω⟩ (ag (mH N ω hm hb.2.2.1 _ _) λ_ _=>ax (λ_=>aA ⟨ω,ω⟩ (aF (by rw[aK];omega) (hr _ (G.cat hI (G.one hx (aH 1)))))) λ_=>h1)) λ_=>h1)) λ_=>ω
 ·exact ax (λ_=>ω) λ_=>aq (G.mono hl hI)
abbrev LL(m:Nat)(l:bE):Prop:=G m (.slice jI) l
theorem Hm(N:Nat)(hN:200000≤N){l:bE}{m:Nat}(hm:m≤50000)(h:LL m l)(id:Int):Ok (λr=>G m jI r.1) (q4 N l id):=by
 have hl:=h.1
 unfold q4 q4.b
 refine mv (len:=l.length) (F:=λn i=>q4.l2 N n l id ((0:Int),(cg,aW)) i) ω (λn i hi hr=> ?_) (λn=> ?_)
 all_goals unfold q4.l2 q4.fy
 ·rw[aw (x:=(i:Int)+1) ω ω,af i]
  exact ax (λ_=>aA ⟨ω,ω⟩ (ok_eq (λ_=>aA ⟨ω,ω⟩ (aq (G.at h _))) λ_=>hr)) λ_=>ω
 ·exact ax (λ_=>ω) λ_=>aq (G.zero m jI)
theorem WG(N:Nat)(hN:4000000≤N){a b:aD}{m:Nat}(h6:6≤m)(hm:m≤40000)(ha:L2 m a)(hb:L2 m b):Ok (λr=>L2 m r.1) (e9 N a b):=by
 have hal:=ha.1
 have xj:=hb.1
 unfold e9 e9.b
 refine bn (len:=6) (F:=λn i s=>e9.l3 N n a b s i) (λi s=>L2 i s) G.nil ω (λn i s hi hI hr=> ?_) (λn s hI=> ?_)
 all_goals unfold e9.l3 e9.ob
 ·have hs:=hI.1
  refine ax (λ_=> ?_) λ_=>ω
  refine bn (len:=a.length) (F:=λn' j t=>e9.l7 N (e9.l3 N n) n' a b s (i:Int) t j) (λj t=>Bg (3+j) t) (L0 ω) ω (λn' j t hj ht eF=> ?_) (λn' t ht=> ?_)
  all_goals unfold e9.l7 e9.p6
  ·rw[aw (x:=(j:Int)+1) ω ω,af j]
   exact ax (λ_=>aA ⟨ω,ω⟩ (ok_eq (λ_=>aA ⟨ω,ω⟩ (ag (bu N hN (G.at ha _).2.1) λr hr=>ag (kY N hN ω ht (Bg.mono hr ω)) λu hu=>eF u (Bg.mono hu ω))) λ_=>eF t (Bg.mono ht ω))) λ_=>ω
  ·refine ax (λ_=>ω) λ_=> ?_
   refine bn (len:=b.length) (F:=λKg j t=>e9.lx N (e9.l3 N n) Kg a b s (i:Int) t j) (λj t=>Bg (3+a.length+j) t) ht ω (λKg j t hj ht eF=> ?_) (λKg t ht=> ?_)
   all_goals unfold e9.lx e9.kt
   ·rw[aw (x:=(j:Int)+1) ω ω,af j]
    exact ax (λ_=>aA ⟨ω,ω⟩ (ok_eq (λ_=>aA ⟨ω,ω⟩ (ag (bu N hN (G.at hb _).2.1) λr hr=>ag (kY N hN ω ht (Bg.mono hr ω)) λu hu=>eF u (Bg.mono hu ω))) λ_=>eF t (Bg.mono ht ω))) λ_=>ω
   ·rw[aw (x:=(i:Int)+1) ω ω,af i]
    exact ax (λ_=>ω) λ_=>ag (DQ N ht) λv hv=>bz (λ_=>aq G.nil) λ_=>bt (λ_=>aF (by rw[aK];omega) (hr _ (G.cat hI (G.one (m:=1) (G2 (jG ω ω) hv) (aH 1))))) λ_=>hr s (G.mono ω hI)
 ·exact ax (λ_=>ω) λ_=>aq (G.mono h6 hI)
theorem PE(N:Nat)(hN:5000000≤N){c:ae}{b:an}{SL:bE}{l:aO}{x:bT}{m:Nat}(h6:6≤m)(hm:m≤40000)(hc:G m aB c)(hb:G m aL b)(hL:LL m SL)(hl:G m (.slice eu) l)(hx:G 0 eu x):Ok (λ_=>True) (kZ N c b SL l x):=by
 have H8:=hl.1
 have hLl:=hL.1
 have hal:=hb.2.1.1
 have Cc:=hb.2.2.2.2.2.1.1
 have hw:JL SL:=λy hy=>ct (hL.2 y hy).2.1.1 ω
 unfold kZ kZ.b
 have hj:Ok (λ_=>True) (kZ.j3 N SL l c b x):=by
  unfold kZ.j3 kZ.j3b
  refine ag (ru N ω ω hb _) λ_ _=>ok_eq (λ_=>fh) λ_=>bt (λ_=>fh) λ_=>ag (Hm N ω ω hL _) λz hz=>bw (rn N ω ω _) (bz (λ_=>fh) λ_=>bt (λ_=>fh) λ_=>ok_eq (λ_=>fh) λ_=>mv (len:=l.length) (F:=λn i=>kZ.oi N n l c b x z.1 (nO b.2.1 x.2.2.1) i) ω (λn i hi hr=> ?_) (λn=> ?_))
  all_goals unfold kZ.oi kZ.mF
  ·rw[aw (x:=(i:Int)+1) ω ω,af i]
   exact ax (λ_=>aA ⟨ω,ω⟩ (ok_eq (λ_=>aA ⟨ω,ω⟩ (ok_eq (λ_=>fh) λ_=>hr)) λ_=>hr)) λ_=>ω
  ·refine ax (λ_=>ω) λ_=>ok_eq (λ_=>fh) λ_=>ag (bu N ω hx.2.2.2.1) λp hp=>ag (bu N ω (show aE 4 from bD)) λq hq=>ag (bu N ω hz.2.2.1) λr hr=>ag (lU N ω ω ω hq hr) λu hu=>ag (qv N ω ω ω hp hu) λ_ _=>ax (λ_=>fh) λ_=>ag (Pw N ω ω hb.2.2.2.1 _) λa ha=>ag (WG N ω h6 ω ha hz.2.1) λj hj=>bz (λ_=>fh) λ_=> ?_
   unfold akP
   exact ag (Q:=λr=>L3 6 r) (bw (ij N ω ω) (bz (λ_=>aq G.nil) λ_=>ag (Hj N ω ω _) λr hr=>aq hr)) λo ho=>ag (Pv N ω ω hc hj (G.mono h6 ho)) λw hw=>ag (vf N ω ω hb _) λg hg=>ag (bu N ω hg) λv hv=>ag (bu N ω hx.2.2.2.1) λp hp=>ag (yA N ω ω hv hp) λd hd=>ag (qv N ω ω ω hd hw) λ_ _=>ax (λ_=>fh) λ_=>fh
 refine bw (dS N hN ω hb) (bz (λ_=>fh) λ_=>bw (Bs N ω c ω hw) (bz (λ_=>fh) λ_=>bw (vb N ω ω) (bz (λ_=>fh) λ_=>bw (Ua N _) (bz (λ_=>fh) λ_=>ax (λ_=> ?_) λ_=>hj))))
 dsimp only
 exact aA (by rw[aw ω ω];omega) (ew (λ_=>fh) λ_=>hj)
theorem Km(N:Nat)(hN:5000000≤N){c:ae}{b:an}{SL:bE}{l:aO}{x:bT}{m:Nat}(h6:6≤m)(hm:m≤40000)(hc:G m aB c)(hb:G m aL b)(hL:LL m SL)(hl:G m (.slice eu) l)(hx:G 0 eu x):Ok (λr=>G (m+1) (.slice eu) r.1) (adv N c b SL l x):=by
 have H8:=hl.1
 unfold adv
 refine ag (PE N hN h6 hm hc hb hL hl hx) λ_ _=>bt (λ_=>aq G.nil) λ_=>aF (by rw[ck];omega) ?_
 dsimp only
 rw[cW]
 exact aF (by rw[aK];omega) (aq (G.cat hl (G.one hx (aH 1))))
end VM
end
section
namespace VM
open Go VM.F
theorem aiH{l:List Int}(h:Pos l)(hs:l.sum<9223372036854775808):JR l:=λx hx=>by
 have h3:=h x hx
 obtain⟨i,hi,rfl⟩:=rB.1 hx
 have h4:=zH h i
 rw[aU,bg hi]at h4
 simp only[ng]at h4
 omega
theorem ZU(k:Nat):(List.replicate k (1:Int)).sum=k:=by
 induction k with
 |zero=>rfl
 |succ k ih=>rw[Ac,cB,ih];omega
theorem ZV(k:Nat):Pos (List.replicate k 1):=λx hx=>by rw[z6 hx];omega
theorem ZW{t:Int}{k:Nat}(h0:0≤t)(h1:t<9223372036854775808)(hk:1≤k)(hk1:k≤3):(JW t k).1.length=k∧JR (JW t k).1:=by
 have hS:0<(List.replicate k (1:Int)).sum:=by rw[ZU];omega
 have ee:JW t k=(bW t (List.replicate k 1),0):=by
  unfold JW
  rw[aj ω,aG]
  unfold sx
  have hm:may (List.replicate k 1)=true:=pj.2 ⟨by rw[cQ];omega,ZV k⟩
  rw[aj (by rw[hm];simp;omega),ZU,aj ω,aj ω]
 rw[ee]
 exact⟨by dsimp only;rw[oU,List.length_replicate],aiH (wa h0 hS (ZV k)) (by rw[vZ h0 hS];omega)⟩
def LQ(y:Cm):Prop:=aE y.1∧aE y.2.1∧qE y.2.1
theorem aiI{l:aD}(h: ∀y∈l,LQ y)(i:Nat):LQ (l.getD i cv):=by
 by_cases hk:i<l.length
 ·rw[aU,bg hk];exact h _ (dx hk)
 ·rw[aU,gH ω];exact⟨bx,bx,by unfold qE;decide⟩
theorem WH{c:ae}{b:an}{m:Nat}(hb:G m aL b)(hB:cY c b=true)(a:Int): ∀y∈posOf b.2.2.2.1 a,LQ y∧(0≤(y.1:Int)∧(y.1:Int)<(c.1.length:Int)):=λy hy=>by
 have hk:dt b.2.2.2.1=true:=by
  by_cases h:dt b.2.2.2.1=true
  ·exact h
  ·unfold posOf at hy;rw[aj h]at hy;nomatch hy
 unfold posOf at hy
 rw[ah hk]at hy
 obtain⟨x,hx,_,e⟩:=jk hy
 have hg:=hb.2.2.2.1.2 x hx
 have hq:=((eY hk).2 x hx).2
 have hp:=BA hB x hx
 rw[e]
 exact⟨⟨hg.2.1,hg.2.2.1,hq⟩,hp⟩
theorem UB(N:Nat)(hN:5000000≤N){c:ae}{b:an}{m:Nat}(h2:200≤m)(hm:m≤40000)(hc:G m aB c)(hb:G m aL b){next:Int}(hn:aE next):Ok (λr=>LL m r.1) (eH N c b next):=by
 unfold eH eH.b
 refine bw (dS N hN ω hb) (bz (λ_=>aq G.nil) λhB=>ax (λ_=>aq G.nil) λ_=>ax (λ_=>aq G.nil) λ_=>bw (Y6 N (G.wf ω hb).w.s ω 0) (ok_eq (λ_=>aq G.nil) λ_=> ?_))
 have ki:=WH hb hB 0
 have hal:=(aqk hb.2.2.2.1 0).1
 generalize posOf b.2.2.2.1 0=all at*
 refine bn (len:=4) (F:=λn k (s:Int×bE)=>eH.l8 N n s.1 c all s.2 k) (s:=(_,_)) (λk s=>aE s.1∧s.2.length≤3*k∧ ∀x∈s.2,G m jI x) ⟨hn,bF _,λx hx=>nomatch hx⟩ ω (λn k s hk hI hr=> ?_) (λn s hI=> ?_)
 all_goals unfold eH.l8 eH.Dy
 ·refine ax (λ_=> ?_) λ_=>ω
  refine bn (len:=all.length) (F:=λn' i (z:aD×aJ)=>eH.oi N (eH.l8 N n) n' s.1 c all s.2 (k:Int) z.1 z.2 i) (s:=(_,_)) (λi z=>z.1.length≤i∧(∀y∈z.1,LQ y)∧Bg (8+i) z.2) ⟨bF _,(λy hy=>nomatch hy),L0 ω⟩ ω (λn' i z hi hz eF=> ?_) (λn' z hz=> ?_)
  all_goals unfold eH.oi eH.mF
  ·obtain⟨Db,Ib,hz3⟩:=hz
   have hx:all.getD i cv∈all:=by rw[aU,bg hi];exact dx hi
   have hy:=ki _ hx
   rw[aw (x:=(i:Int)+1) ω ω,af i,aG]
   exact ax (λ_=>aA ⟨ω,ω⟩ (aA hy.2 (ok_eq (λ_=>aA ⟨ω,ω⟩ (aF (by rw[List.length_singleton];omega) (aA ⟨ω,ω⟩ (ag (bu N ω hy.1.2.1) λu hu=>ag (xX N ω ω hu) λu hu=>ag (kY N ω ω hz3 (Bg.mono hu ω)) λv hv=>eF (_,_) ⟨by dsimp only;rw[List.length_append,List.length_singleton];omega,λy h=>(List.mem_append.1 h).elim (Ib y) (λh=>by rw[List.mem_singleton.1 h];exact hy.1),Bg.mono hv ω⟩)))) λ_=>eF z ⟨ω,Ib,Bg.mono hz3 ω⟩))) λ_=>ω
  ·obtain⟨Db,Ib,hz3⟩:=hz
   refine ax (λ_=>ω) λ_=>ag (WE N ω (Bg.mono hz3 ω) hc.2.2.2.2.2.1) λw hw=> ?_
   obtain⟨p,hp⟩: ∃p:Nat,w=(p:Int):=⟨w.toNat,ω⟩
   subst hp
   refine bn (len:=p) (F:=λKg j (t:Int×bE)=>eH.IV N (eH.l8 N n) Kg t.1 c all t.2 (k:Int) z.1 (p:Int) j) (s:=s) (λj t=>aE t.1∧t.2.length≤3*k+j∧ ∀x∈t.2,G m jI x) hI ω (λKg j t hj ht ZC=> ?_) (λKg t ht=> ?_)
   all_goals unfold eH.IV eH.PF
   ·obtain⟨wO,ht2,ht3⟩:=ht
    refine ax (λ_=> ?_) λ_=>ω
    refine bn (len:=z.1.length) (F:=λn3 i u=>eH.Ds N (eH.l8 N n) (eH.IV N (eH.l8 N n) Kg) n3 t.1 c all t.2 (k:Int) z.1 (p:Int) (j:Int) (t.1,(cg,((0:Int),((1:Int),cv)))) u i) (λi u=>L2 i u) G.nil ω (λn3 i u hi hu ZX=> ?_) (λn3 u hu=> ?_)
    all_goals unfold eH.Ds eH.Ef
    ·have Ig:=hu.1
     have hq:=aiI Ib i
     have lC:=hq
     unfold LQ aE qE at lC
     have aqn: ∀q:Int,0≤q→q<9223372036854775808→Ok (λr=>LL m r.1) (eH.WI N (eH.l8 N n) (eH.IV N (eH.l8 N n) Kg) (eH.Ds N (eH.l8 N n) (eH.IV N (eH.l8 N n) Kg) n3) t.1 c all t.2 (k:Int) z.1 (p:Int) (j:Int) (t.1,(cg,((0:Int),((1:Int),cv)))) u (i:Int) q):=λq h0 h1=>by
      unfold eH.WI eH.PG
      obtain⟨e1,e2⟩:=ZW (k:=p) h0 h1 ω ω
      have aqo: ∀v:List Int,v.length=p→JR v→Ok (λr=>LL m r.1) (eH.j32 N (eH.l8 N n) (eH.IV N (eH.l8 N n) Kg) (eH.Ds N (eH.l8 N n) (eH.IV N (eH.l8 N n) Kg) n3) t.1 c all t.2 (k:Int) z.1 (p:Int) (j:Int) (t.1,(cg,((0:Int),((1:Int),cv)))) u (i:Int) v):=λv Nu hv2=>by
       unfold eH.j32 eH.akQ
       rw[aw (x:=(i:Int)+1) ω ω,af i]
       have hx:G 0 jH ((z.1.getD (i:Int).toNat cv).1,(v.getD (j:Int).toNat 0,())):=G2 (aiI Ib _).1 (uW hv2 _)
       exact aA ⟨ω,ω⟩ (bt (λ_=>aA ⟨ω,ω⟩ (aA ⟨ω,ω⟩ (aF (by rw[aK];omega) (ZX _ (G.cat hu (G.one hx (aH 1))))))) λ_=>ZX u (G.mono ω hu))
      refine bw (Zf N hN h1) (aA ⟨ω,ω⟩ (ax (λ_=>aA ⟨ω,ω⟩ (aA ⟨ω,ω⟩ (aqo _ (by rw[bM];exact e1) λy hy=> ?_))) λ_=>aqo _ e1 e2))
      rcases uu hy with hy|rfl
      ·exact e2 y hy
      ·exact gE _
     rw[aG]
     refine ax (λ_=>aA ⟨ω,ω⟩ (ax (λfj=> ?_) λhge=> ?_)) λ_=>ω
     ·have g: ∀x:Int,-9223372036854775808≤x∧x≠ -9223372036854775808→x<0→0≤W .i64 (0-x)∧W .i64 (0-x)<9223372036854775808:=λx h1 h2=>by rw[aw ω ω];omega
      have gx:=g _ ⟨lC.2.1.1,lC.2.2⟩ fj
      exact aqn _ gx.1 gx.2
     ·exact aqn _ hge lC.2.1.2
    ·have Ig:=hu.1
     rw[aw (x:=(j:Int)+1) ω ω,af j]
     have hum:L2 m u:=G.mono ω hu
     refine ax (λ_=>ω) λ_=>ok_eq (λ_=>ZC t ⟨wO,ω,ht3⟩) λ_=> ?_
     unfold ZY
     refine ag (Q:=λr=>Bg 60000 r.1) (ag (CJ N ω ω hc hum _) λr hr=>aq hr) λa ha=>ag (rr N ω ω ha) λd hd=>ag (xY N hd) λv hv=>bz (λ_=>aq G.nil) λ_=>aF (by rw[List.length_singleton];omega) (ZC (_,_) ⟨gE _,by dsimp only;rw[List.length_append,List.length_singleton];omega,λx hx=> ?_⟩)
     rcases bk.1 hx with hx|hx
     ·exact ht3 x hx
     ·rw[cr.1 hx];exact⟨wO,hum,hv,(show aE 1 from bD),bx,bx,trivial⟩
   ·rw[aw (x:=(k:Int)+1) ω ω,af k]
    exact ax (λ_=>ω) λ_=>hr t ⟨ht.1,by have:=ht.2.1;omega,ht.2.2⟩
 ·exact ax (λ_=>ω) λ_=>aq ⟨by have:=hI.2.1;dsimp only;omega,hI.2.2⟩
end VM
end
section
namespace VM
open Go VM.F
theorem vg(N:Nat)(hN:200000≤N){l:aD}(hl:l.length≤100000):Ok (λ_=>True) (pY N l):=by
 unfold pY pY.b
 refine mv (len:=l.length) (F:=λn i=>pY.l2 N n l i) ω (λn i hi hr=> ?_) (λn=> ?_)
 all_goals unfold pY.l2 pY.fy
 ·rw[aw (x:=(i:Int)+1) ω ω,af i]
  dsimp only
  repeat' first|exact hr|exact fh|refine aA ⟨ω,ω⟩ ?_|refine aA (by rw[aw (x:=(i:Int)-1) ω ω];omega) ?_|refine ax (λ_=> ?_) (λ_=> ?_)|refine ew (λ_=> ?_) (λ_=> ?_)|refine ok_eq (λ_=> ?_) (λ_=> ?_)|(exfalso;omega)
 ·exact ax (λ_=>ω) λ_=>fh
theorem WJ(N:Nat)(hN:200000≤N){l:List Int}(hl:l.length≤100000):Ok (λ_=>True) (sJ N l):=by
 unfold sJ sJ.b
 refine mv (len:=l.length) (F:=λn i=>sJ.l2 N n l i) ω (λn i hi hr=> ?_) (λn=> ?_)
 all_goals unfold sJ.l2 sJ.fy
 ·rw[aw (x:=(i:Int)+1) ω ω,af i]
  dsimp only
  repeat' first|exact hr|exact fh|refine aA ⟨ω,ω⟩ ?_|refine aA (by rw[aw (x:=(i:Int)-1) ω ω];omega) ?_|refine ax (λ_=> ?_) (λ_=> ?_)|refine ew (λ_=> ?_) (λ_=> ?_)|refine ok_eq (λ_=> ?_) (λ_=> ?_)|(exfalso;omega)
 ·exact ax (λ_=>ω) λ_=>fh
theorem ZZ(N:Nat)(hN:200000≤N)(a:Int){L:bE}{l:aO}{m:Nat}(hm:m≤50000)(hL:LL m L)(hl:G m (.slice eu) l):Ok aE (jz N a L l):=by
 have h1:=hL.1
 have h2:=hl.1
 have i3:aE 3:=bD
 have i2:aE 2:=bD
 unfold jz jz.b
 refine bn (len:=l.length) (F:=λn i v=>jz.l3 N n a L l v i) (λ_ v=>aE v) (show aE 1 from bD) ω (λn i v hi hv hr=> ?_) (λn v hv=> ?_)
 all_goals unfold jz.l3 jz.ob
 ·rw[aw (x:=(i:Int)+1) ω ω,af i]
  exact ax (λ_=>aA ⟨ω,ω⟩ (bt (λ_=>hr v hv) λ_=>aA ⟨ω,ω⟩ (ag (Hm N hN hm hL _) λ_ _=>sq (λ_=>aA ⟨ω,ω⟩ (ew (λ_=>hr _ (CF hv i3)) λ_=>hr _ (CF hv i2))) λ_=>hr _ (CF hv i2)))) λ_=>ω
 ·refine ax (λ_=>ω) λ_=>bn (len:=L.length) (F:=λn i v=>jz.lx N n a L v i) (λ_ v=>aE v) hv ω (λn i v hi hv hr=> ?_) (λn v hv=> ?_)
  all_goals unfold jz.lx jz.kt
  ·rw[aw (x:=(i:Int)+1) ω ω,af i]
   exact ax (λ_=>aA ⟨ω,ω⟩ (ok_eq (λ_=>aA ⟨ω,ω⟩ (ok_eq (λ_=>hr 4 bD) λ_=>hr v hv)) λ_=>hr v hv)) λ_=>ω
  ·exact ax (λ_=>ω) λ_=>aq hv
theorem PH(N:Nat)(hN:200000≤N)(c:ae){d:aD}{u:List Int}{L:bE}{l:aO}{m:Nat}(h2:200≤m)(hm:m≤50000)(hd:L2 m d)(hu:u.length≤m)(hL:LL m L)(hl:G m (.slice eu) l):Ok (λr=>L2 m r.1) (dI N c d u L l):=by
 have h3:=hd.1
 have h4:=hL.1
 have h5:=hl.1
 have hw:JL L:=λy hy=>ct (hL.2 y hy).2.1.1 ω
 unfold dI dI.b
 refine ag (vg N hN ω) λ_ _=>bz (λ_=>aq G.nil) λ_=>ag (WJ N hN ω) λ_ _=>bz (λ_=>aq G.nil) λ_=>bw (Bs N hN c ω hw) (bz (λ_=>aq G.nil) λ_=>bw (vb N ω hN) (bz (λ_=>aq G.nil) λ_=>kX (len:=13) (F:=λn i s=>dI.l5 N n d u L l s i) (λi s=>L2 i s) (λn i s hi hI hr=> ?_) (λn s hI=> ?_) 13 N 1 [] ω ω ω G.nil))
 all_goals unfold dI.l5 dI.eA
 ·have hs:=hI.1
  refine ew (λ_=> ?_) λ_=>ω
  refine bn (len:=d.length) (F:=λn' j (z:Int×Bool)=>dI.l9 N (dI.l5 N n) n' d u L l s (i:Int) z.1 z.2 j) (s:=(_,_)) (λ_ z=>aE z.1) bx ω (λn' j z hj hz eF=> ?_) (λn' z hz=> ?_)
  all_goals unfold dI.l9 dI.xG
  ·rw[aw (x:=(j:Int)+1) ω ω,af j]
   exact ax (λ_=>aA ⟨ω,ω⟩ (ok_eq (λ_=>aA ⟨ω,ω⟩ (eF (_,_) (G.at hd _).2.1)) λ_=>eF z hz)) λ_=>ω
  ·refine ax (λ_=>ω) λ_=>bn (len:=u.length) (F:=λn' j f=>dI.JV N (dI.l5 N n) n' d u L l s (i:Int) z.1 f j) (λ_ _=>True) trivial ω (λn' j f hj _ eF=> ?_) (λn' f _=> ?_)
   all_goals unfold dI.JV dI.G0
   ·rw[aw (x:=(j:Int)+1) ω ω,af j]
    exact ax (λ_=>sq (λ_=>eF _ trivial) λ_=>aA ⟨ω,ω⟩ (eF _ trivial)) λ_=>ω
   ·refine ax (λ_=>ω) λ_=>bn (len:=l.length) (F:=λn' j f=>dI.Ie N (dI.l5 N n) n' d u L l s (i:Int) z.1 f j) (λ_ _=>True) trivial ω (λn' j f hj _ eF=> ?_) (λn' f _=> ?_)
    all_goals unfold dI.Ie dI.Et
    ·rw[aw (x:=(j:Int)+1) ω ω,af j]
     exact ax (λ_=>sq (λ_=>eF _ trivial) λ_=>aA ⟨ω,ω⟩ (eF _ trivial)) λ_=>ω
    ·rw[aw (x:=(i:Int)+1) ω ω,af i]
     dsimp only
     exact ax (λ_=>ω) λ_=>sq (λ_=>ag (ZZ N hN _ hm hL hl) λv hv=>aF (by rw[aK];omega) (hr _ (G.cat hI (G.one (m:=1) (G2 (jG ω ω) (CF hz hv)) (aH 1))))) λ_=>hr s (G.mono ω hI)
 ·exact ew (λ_=>ω) λ_=>aq (G.mono ω hI)
theorem Z0(N:Nat)(hN:200000≤N){l:aD}(hl:l.length≤100000)(a:Int):Ok (λ_=>True) (sK N l a):=by
 unfold sK sK.b
 refine ag (vg N hN hl) λ_ _=>bz (λ_=>fh) λ_=>mv (len:=l.length) (F:=λn i=>sK.l4 N n l a i) ω (λn i hi hr=> ?_) (λn=> ?_)
 all_goals unfold sK.l4 sK.eN
 ·rw[aw (x:=(i:Int)+1) ω ω,af i]
  exact ax (λ_=>aA ⟨ω,ω⟩ (ok_eq (λ_=>aA ⟨ω,ω⟩ fh) λ_=>hr)) λ_=>ω
 ·exact ax (λ_=>ω) λ_=>fh
theorem Md(N:Nat)(a:Int):Ok (λ_=>True) (Z1 N a):=by
 unfold Z1
 exact ok_eq (λ_=>fh) λ_=>fh
theorem Hn(N:Nat)(hN:5000000≤N)(c:ae){b:an}{d:aD}{m:Nat}(hm:m≤50000)(hb:G m aL b)(hd:L2 m d)(a k:Int):Ok (λr=>G m (.slice (.int .i64)) r.1) (sL N c b d a k):=by
 have hl:=hb.1.1
 have h2:=hd.1
 unfold sL sL.b
 refine bw (dS N hN hm hb) (bz (λ_=>aq G.nil) λ_=>ag (vg N ω ω) λ_ _=>bz (λ_=>aq G.nil) λ_=>bn (len:=b.1.length) (F:=λn i s=>sL.l5 N n d a k b s i) (λi s=>G i (.slice (.int .i64)) s) G.nil ω (λn i s hi hI hr=> ?_) (λn s hI=> ?_))
 all_goals unfold sL.l5 sL.eA
 ·have hs:=hI.1
  rw[aw (x:=(i:Int)+1) ω ω,af i]
  have h1:=hr s (G.mono ω hI)
  have hx:G 0 (.int .i64) (b.1.getD (i:Int).toNat cv).1:=(G.at hb.1 _).1
  exact ax (λ_=>aA ⟨ω,ω⟩ (ag (Md N _) λ_ _=>sq (λ_=>bt (λ_=>ag (mH N ω hm hb.2.2.1 _ _) λ_ _=>ax (λ_=>ag (Z0 N ω ω _) λ_ _=>ok_eq (λ_=>aF (by rw[aK];omega) (hr _ (G.cat hI (G.one hx (aH 1))))) λ_=>h1) λ_=>h1) λ_=>h1) λ_=>h1)) λ_=>ω
 ·exact ax (λ_=>ω) λ_=>aq (G.mono hl hI)
theorem BI(N:Nat)(hN:200000≤N){a:aO}{m:Nat}(hm:m≤50000)(h:G m (.slice eu) a)(id:Int):Ok aE (zz N a id):=by
 refine nW (rn N (ct h.1 ω) hN id) ?_
 unfold nO
 split
 ·have: ∀l:aO,(∀x∈l,G m eu x)→aE (nN id l):=by
   intro l
   induction l with
   |nil=>intro _;exact bx
   |cons x t ih=>
    intro hx
    have hi:=ih λy hy=>hx y (a7 _ hy)
    rw[tB]
    split
    ·split
     ·exact(hx x (bh ..)).1
     ·exact hi
    ·exact hi
  exact this a h.2
 ·exact bx
abbrev L5(m:Nat)(l:bs):Prop:=G m (.slice ry) l
theorem G5{m:Nat}{a b c d e:Int}(ha:aE a)(hb:aE b)(hc:aE c)(hd:aE d)(he:aE e):G m ry (a,(b,(c,(d,(e,()))))):=⟨ha,hb,hc,hd,he,trivial⟩
theorem Me(N:Nat)(hN:200000≤N){l:bs}{b:an}{m k:Nat}(hm:m≤50000)(hb:G m aL b)(hk:k≤1000000)(hl:L5 k l){a d n:Int}(ha:aE a)(hd:aE d)(hn:aE n):Ok (λr=>L5 (k+1) r) (Mf N l b a d n):=by
 have h1:=hl.1
 unfold Mf
 exact ag (mH N hN hm hb.2.2.1 _ _) λx hx=>ax (λ_=>aF (by rw[aK];omega) (aq (G.cat hl (G.one (m:=1) (G5 ha hd hn hx bx) (aH 1))))) λ_=>aq (G.mono ω hl)
theorem PI(N:Nat)(hN:5000000≤N){c:ae}{b:an}{d g:aD}{a:Int}{m:Nat}(hm:m≤50000)(hc:G m aB c)(hb:G m aL b)(hd:L2 m d)(hg:L2 m g)(ha:aE a):Ok (λr=>L5 1000000 r.1) (cP N c b a d g):=by
 have h1:=hb.1.1
 have h2:=hd.1
 have h3:=hg.1
 have h4:=hb.2.1.1
 have hj: ∀l:bs,L5 1 l→Ok (λr=>L5 1000000 r.1) (cP.j9 N a d g c b l):=λl hl=>by
  unfold cP.j9 cP.On
  refine ag (Me N ω hm hb ω hl bD bD ha) λl hl=>ag (Me N ω hm hb ω hl bD bD bx) λl hl=>kX (len:=5) (F:=λn k s=>cP.lx N n a d g c b s k) (λk s=>L5 (3+m*k) s) (λn k s hk hs hr=> ?_) (λn s hs=> ?_) 5 N 1 l ω ω ω (G.mono ω hl)
  all_goals unfold cP.lx cP.kt
  ·have hmk:m*k≤m*4:=me m ω
   refine ew (λ_=>ag (Hn N hN c hm hb hd _ _) λt ht=> ?_) λ_=>ω
   have htl:=ht.1
   refine bn (len:=t.1.length) (F:=λn' j u=>cP.xK N (cP.lx N n) n' a d g c b u (k:Int) t.1 j) (λj u=>L5 (3+m*k+j) u) hs ω (λn' j u hj hu eF=> ?_) (λn' u hu=> ?_)
   all_goals unfold cP.xK cP.wP
   ·rw[aw (x:=(j:Int)+1) ω ω,af j]
    exact ax (λ_=>aA ⟨ω,ω⟩ (ag (Me N ω hm hb ω hu (gE _) bD (G.at ht _)) λv hv=>eF v hv)) λ_=>ω
   ·rw[aw (x:=(k:Int)+1) ω ω,af k]
    exact ax (λ_=>ω) λ_=>hr u (G.mono (by rw[rK];omega) hu)
  ·refine ew (λ_=>ω) λ_=>bn (len:=b.1.length) (F:=λn j u=>cP.IV N n a g c b u j) (λj u=>L5 (3+m*5+j) u) hs ω (λn j u hj hu hr=> ?_) (λn u hu=> ?_)
   all_goals unfold cP.IV cP.PF
   ·have Ig:=hu.1
    have hx:aE (b.1.getD (j:Int).toNat cv).1:=(G.at hb.1 _).1
    rw[aw (x:=(j:Int)+1) ω ω,af j]
    have h0:=hr u (G.mono ω hu)
    exact ax (λ_=>aA ⟨ω,ω⟩ (ag (Md N _) λ_ _=>bz (λ_=>h0) λ_=>ok_eq (λ_=>h0) λ_=>ag (bu N ω hc.2.2.1) λp hp=>ag (mH N ω hm hb.2.2.1 _ _) λq hq=>ag (bu N ω hq) λq hq=>ag (lU N ω ω ω hp hq) λy hy=>ag (xY N hy) λv hv=>bz (λ_=>aq G.nil) λ_=>ax (λ_=>aF (by rw[aK];omega) (hr _ (G.mono ω (G.cat hu (G.one (m:=1) (G5 (show aE 8 from bD) (show aE 7 from bD) hx hv bx) (aH 1)))))) λ_=>h0)) λ_=>ω
   ·refine ax (λ_=>ω) λ_=>bn (len:=g.length) (F:=λn j u=>cP.OI N n a g b u j) (λj u=>L5 (3+m*5+m+j) u) (G.mono ω hu) ω (λn j u hj hu hr=> ?_) (λn u hu=> ?_)
    all_goals unfold cP.OI cP.LC
    ·have Ig:=hu.1
     rw[aw (x:=(j:Int)+1) ω ω,af j]
     have h0:=hr u (G.mono ω hu)
     dsimp only
     exact ax (λ_=>aA ⟨ω,ω⟩ (ag (yB N ω hm hb.2.1 _) λx hx=>aA ⟨ω,ω⟩ (aA ⟨ω,ω⟩ (ag (mH N ω hm hb.2.2.1 _ _) λq hq=>sq (λ_=>bt (λ_=>ax (λ_=>aF (by rw[aK];omega) (hr _ (G.mono ω (G.cat hu (G.one (m:=1) (G5 (show aE 9 from bD) (show aE 5 from bD) hx.1 (adk (G.at hg _).2.1 hq) bx) (aH 1)))))) λ_=>h0) λ_=>h0) λ_=>h0)))) λ_=>ω
    ·exact ax (λ_=>ω) λ_=>aq (G.mono ω hu)
 unfold cP cP.b
 exact bw (dS N hN hm hb) (bz (λ_=>aq G.nil) λ_=>ag (vg N ω ω) λ_ _=>bz (λ_=>aq G.nil) λ_=>ag (CH N ω ω) λ_ _=>bz (λ_=>aq G.nil) λ_=>ag (oY N ω hm hb.1 _) λ_ _=>ok_eq (λ_=>aq G.nil) λ_=>ag (BI N ω hm hb.2.1 _) λh hh=>bt (λ_=>ag (Me N ω hm hb ω (G.nil (m:=0)) bD bD hh) λl hl=>hj l hl) λ_=>hj [] G.nil)
end VM
end
section
namespace VM
open Go VM.F
theorem Ko(N:Nat)(hN:5000000≤N)(c:ae){b:an}{m:Nat}(hm:m≤50000)(hb:G m aL b):Ok (λr=>aE r.1) (adw N c b):=by
 unfold adw
 exact bw (dS N hN hm hb) (bz (λ_=>aq bx) λ_=>ag (mH N ω hm hb.2.2.1 _ _) λx hx=>ok_eq (λ_=>aq bx) λ_=>aq (CF (gE _) bx))
theorem Ho(N:Nat)(hN:5000000≤N)(c:ae){b:an}{m:Nat}(hm:m≤50000)(hb:G m aL b):Ok (λr=>aE r.1) (adx N c b):=by
 unfold adx
 exact bw (dS N hN hm hb) (bz (λ_=>aq bx) λ_=>ag (mH N ω hm hb.2.2.1 _ _) λx hx=>aq (CF hx bx))
theorem akR(N:Nat)(a b:Int):Ok (λ_=>True) (RY N a b):=by
 unfold RY
 repeat' first|exact fh|refine ok_eq (λ_=> ?_) (λ_=> ?_)|refine ew (λ_=> ?_) (λ_=> ?_)
theorem WK(N:Nat)(hN:200000≤N)(l:bs):Ok (λr=>r=true→l.length≤64) (sM N l):=by
 have hf:Ok (λr=>r=true→l.length≤64) (some false):=aq λh=>nomatch h
 unfold sM sM.b
 refine ax (λ_=>hf) λhl=>mv (len:=l.length) (F:=λn i=>sM.l4 N n l i) ω (λn i hi hr=> ?_) (λn=> ?_)
 all_goals unfold sM.l4 sM.eN
 ·rw[aw (x:=(i:Int)+1) ω ω,af i]
  dsimp only
  repeat' first|exact hr|exact hf|refine aA ⟨ω,ω⟩ ?_|refine aA (by rw[aw (x:=(i:Int)-1) ω ω];omega) ?_|refine ax (λ_=> ?_) (λ_=> ?_)|refine ew (λ_=> ?_) (λ_=> ?_)|refine ok_eq (λ_=> ?_) (λ_=> ?_)|(exfalso;omega)|refine ag (akR N _ _) λ_ _=> ?_|refine bz (λ_=> ?_) (λ_=> ?_)
 ·exact ax (λ_=>ω) λ_=>aq λ_=>ω
theorem UC{σ β:Type}{P:β→Prop}{F:Nat→Int→σ→Option β}{len:Nat}(I:σ→Prop)
  (hs: ∀n i s,i<len→I s→(∀j s',i<j→j≤len→I s'→Ok P (F n (j:Int) s'))→Ok P (F (n+1) (i:Int) s)) (he: ∀n s,I s→Ok P (F (n+1) (len:Int) s)):
  ∀m n i s,len-i≤m→m<n→i≤len→I s→Ok P (F n (i:Int) s)
 |m,0,i,s,_,hn,_,_=>ω
 |m,n+1,i,s,hm,hn,hi,hI=>by
  by_cases h:i<len
  ·exact hs n i s h hI λj s' hj XU y4=>UC I hs he (m-1) n j s' ω ω XU y4
  ·have:i=len:=ω
   subst this
   exact he n s hI
theorem G5q{m:Nat}{x:iP}{q:Int}(h:G m ry x)(hq:aE q):G m ry (x.1,(x.2.1,(x.2.2.1,(x.2.2.2.1,(q,x.2.2.2.2.2))))):=⟨h.1,h.2.1,h.2.2.1,h.2.2.2.1,hq,trivial⟩
theorem aqp: ∀{w:List Int},Pos w→0≤w.sum
 |[],_=>dP _
 |x::t,h=>by
  rw[cB]
  have:=h x (bh ..)
  have:=aqp (w:=t) λy hy=>h y (a7 _ hy)
  omega
theorem WL{t:Int}{w:List Int}(h1:t<9223372036854775808)(h:(sx t w).2=0):(sx t w).1.length=w.length∧JR (sx t w).1:=by
 unfold sx at h ⊢
 split at h
 ·exact absurd h δ
 ·split at h
  ·exact absurd h δ
  ·rename_i h2 h3
   split at h
   ·split at h
    ·rename_i h4 h5
     rw[aj h2,aj h3,ah h4,ah h5]
     exact⟨cQ ..,λx hx=>by rw[z6 hx];decide⟩
    ·exact absurd h δ
   ·rename_i h4
    rw[aj h2,aj h3,aj h4]
    have hm:may w=true:=by
     by_cases hm:may w=true
     ·exact hm
     ·exact absurd (Or.inr (w1.2 hm)) h2
    have hp:=(pj.1 hm).2
    have h0:0≤t:=ω
    have hS:0<w.sum:=by have:=aqp hp;omega
    exact⟨oU t w,aiH (wa h0 hS hp) (by rw[vZ h0 hS];exact h1)⟩
theorem ady{α:Type}{Q:α→Prop}{l:List α}{x:α}{k:Nat}(h: ∀y∈l,Q y)(hx:Q x): ∀y∈l.set k x,Q y:=λy hy=>by
 rcases uu hy with hy|rfl
 ·exact h y hy
 ·exact hx
theorem UD{α:Type}{Q:α→Prop}{l:List α}{d:α}{k:Nat}(h: ∀y∈l,Q y)(hk:k<l.length):Q (l.getD k d):=by
 rw[aU,bg hk];exact h _ (dx hk)
theorem Kp(N:Nat)(hN:5000000≤N){l:bs}{q:Int}{Q:iP→Prop}(hQ: ∀x,Q x→aE x.2.2.2.1)(hU: ∀(x:iP) (v:Int),Q x→aE v→Q (x.1,(x.2.1,(x.2.2.1,(x.2.2.2.1,(v,x.2.2.2.2.2))))))(hl: ∀x∈l,Q x)(hq:aE q):Ok (λr=>(r.1.length≤64∧ ∀x∈r.1,Q x)∧aE r.2.1) (dN N l q):=by
 have dT: ∀e:Int,Ok (λr:bs×Int×Int=>(r.1.length≤64∧ ∀x∈r.1,Q x)∧aE r.2.1) (some ([],((0:Int),e))):=λe=>aq ⟨⟨bF _,λx hx=>nomatch hx⟩,bx⟩
 unfold dN dN.b
 refine ag (WK N ω l) λz hz=>bz (λ_=>dT _) λht=>ax (λ_=>dT _) λ_=> ?_
 have nP:=hz ht
 rw[cW]
 refine aF (by rw[ck];omega) (UC (len:=l.length) (F:=λn i (s:bs×Int)=>dN.l5 N n s.1 s.2 i) (λs=>s.1.length=l.length∧(∀x∈s.1,Q x)∧aE s.2) (λn i s hi hI hr=> ?_) (λn s hI=> ?_) l.length N 0 (l,q) ω ω ω ⟨rfl,hl,hq⟩)
 all_goals unfold dN.l5 dN.eA
 ·obtain⟨Tv,TN,hs3⟩:=hI
  refine ax (λ_=> ?_) λ_=>ω
  have fin: ∀(k:Nat) (w:List Int),i<k→k≤l.length→w.length=k-i→JR w→Ok (λr=>(r.1.length≤64∧ ∀x∈r.1,Q x)∧aE r.2.1) (dN.Kl N (dN.l5 N n) s.1 s.2 (i:Int) (k:Int) w):=λk w hk FV hw G1=>by
   unfold dN.Kl dN.CG
   have FQ:aE (mn (Eh w.sum).1 s.2):=adk (SD _) hs3
   refine bw (zx N ω G1 ω) (bw (tY N _) (bz (λ_=>dT _) λ_=>bw (Cx N hN FQ.2 G1 ω) (bt (λ_=>dT _) λh0=> ?_)))
   obtain⟨e1,e2⟩:=WL FQ.2 h0
   generalize (sx (mn (Eh w.sum).1 s.2) w).1=v at*
   refine kX (len:=k) (F:=λn' j (z:bs×Int)=>dN.Ie N (dN.l5 N n) n' z.1 z.2 (i:Int) (k:Int) v j) (λj z=>i≤j∧z.1.length=l.length∧(∀x∈z.1,Q x)∧aE z.2) (λn' j z hj hz eF=> ?_) (λn' z hz=> ?_) k N i s ω ω ω ⟨aH i,Tv,TN,hs3⟩
   all_goals unfold dN.Ie dN.Et
   ·obtain⟨qB,Db,Ib,hz3⟩:=hz
    dsimp only
    rw[aw (x:=(j:Int)+1) ω ω,af j,aw (x:=(j:Int)-i) ω ω]
    exact ax (λ_=>aA ⟨ω,ω⟩ (aA ⟨ω,ω⟩ (aA ⟨ω,ω⟩ (eF (_,_) ⟨ω,by dsimp only;rw[List.length_set];exact Db,ady Ib (hU _ _ (UD Ib ω) (uW e2 _)),gE _⟩)))) λ_=>ω
   ·exact ax (λ_=>ω) λ_=>hr k z hk FV hz.2
  refine kX (len:=l.length) (F:=λn' k w=>dN.l8 N (dN.l5 N n) n' s.1 s.2 (i:Int) k w) (λk w=>i≤k∧w.length=k-i∧JR w) (λn' k w hk hw eF=> ?_) (λn' w hw=> ?_) l.length N i [] ω ω ω ⟨aH i,by rw[ck];omega,λx hx=>nomatch hx⟩
  all_goals unfold dN.l8 dN.Dy
  ·obtain⟨hik,hwl,G1⟩:=hw
   rw[aw (x:=(k:Int)+1) ω ω,af k]
   refine ax (λ_=>aA ⟨ω,ω⟩ (aA ⟨ω,ω⟩ (ok_eq (λ_=>aA ⟨ω,ω⟩ (aF (by rw[aK];omega) (eF _ ⟨ω,by rw[aM,aK];omega,λx hx=> ?_⟩))) λiI=> ?_))) λ_=>ω
   ·rcases bk.1 hx with hx|hx
    ·exact G1 x hx
    ·rw[cr.1 hx];exact hQ _ (UD TN ω)
   ·refine fin k w ?_ ω hwl G1
    by_cases e:k=i
    ·subst e;exact absurd rfl iI
    ·omega
  ·exact ax (λ_=>ω) λ_=>fin l.length w hi (aH _) hw.2.1 hw.2.2
 ·exact ax (λ_=>ω) λ_=>aq ⟨⟨by have:=hI.1;dsimp only;omega,hI.2.1⟩,hI.2.2⟩
theorem SM(N:Nat)(hN:5000000≤N){l:bs}{q:Int}{m:Nat}(hl:L5 m l)(hq:aE q):Ok (λr=>L5 64 r.1∧aE r.2.1) (dN N l q):=
 Kp N hN (Q:=G 64 ry) (λx hx=>hx.2.2.2.1) (λx v hx hv=>G5q hx hv) (λx hx=>G.mono (m:=0) (bF _) (hl.2 x hx)) hq
abbrev R0:dV:=((0:Int),((0:Int),(([]:bs),((0:Int),()))))
theorem Kq(N:Nat)(hN:5000000≤N){c:ae}{b:an}{d g:aD}{a:Int}{m:Nat}(h2:200≤m)(hm:m≤40000)(hc:G m aB c)(hb:G m aL b)(hd:L2 m d)(hg:L2 m g)(ha:aE a):Ok (λr=>G m aL r.1∧G m gi r.2.1) (ir N c b a d g):=by
 have dT: ∀e:Int,Ok (λr:an×dV×Int=>G m aL r.1∧G m gi r.2.1) (some ((cg,(cT,(bq,(bq,(de,(dk,())))))),(R0,e))):=λe=>aq ⟨G.iU,G.zero m gi⟩
 unfold ir ir.b
 refine ag (PI N hN ω hc hb hd hg ha) λl hl=>ok_eq (λ_=>dT _) λ_=>ok_eq (λ_=>dT _) λ_=>ag (Ko N hN c ω hb) λq hq=>bt (λ_=>dT _) λ_=>bt (λ_=>dT _) λ_=>ag (SM N hN hl hq) λz ⟨Db,Ib⟩=>bt (λ_=>dT _) λ_=> ?_
 have hzl:=Db.1
 have hj: ∀(p:bJ) (r:dV) (t:bs) (x k n:Int),jZ 1000 p→G m gi r→L5 64 t→aE x→Ok (λr=>G m aL r.1∧G m gi r.2.1) (ir.j26 N b (cg,(cT,(bq,(bq,(de,(dk,())))))) R0 p r t x k n):=λp r t x k n hp hr ht hx=>by
  have AN:=hp.1
  unfold ir.j26 ir.adz
  exact ag (bu N ω hx) λv hv=>ag (tP N ω _ _ _ _ (Bg.mono hv ω)) λu hu=>aF (by have:=hu.1;omega) (ag (tO N ω h2 ω hb G.nil (jZ.mono (jZ.app hp hu) ω)) λw hw=>bt (λ_=>dT _) λ_=>aq ⟨hw,hr.1,hr.2.1,G.mono ω ht,hr.2.2.2⟩)
 refine bn (len:=z.1.length) (F:=λn i (s:bJ×dV×bs)=>ir.JG N n a c b (cg,(cT,(bq,(bq,(de,(dk,())))))) R0 z.1 z.2.1 s.1 s.2.1 s.2.2 i) (s:=(_,(_,_))) (λi s=>jZ (2*i) s.1∧G m gi s.2.1∧L5 i s.2.2) ⟨jZ.nil,⟨ha,hq,G.nil,Ib,trivial⟩,G.nil⟩ ω (λn i s hi hI hr=> ?_) (λn s hI=> ?_)
 all_goals unfold ir.JG ir.IM
 ·obtain⟨h4,h5,h6⟩:=hI
  have hp:=h4.1
  have ht:=h6.1
  have hx:G 0 ry (z.1.getD (i:Int).toNat gu):=G.at Db _
  rw[aw (x:=(i:Int)+1) ω ω,af i]
  exact ax (λ_=>aA ⟨ω,ω⟩ (ax (λ_=>aA ⟨ω,ω⟩ (aF (by rw[aK];omega) (aA ⟨ω,ω⟩ (aA ⟨ω,ω⟩ (aA ⟨ω,ω⟩ (ag (bu N ω hx.2.2.2.2.1) λv hv=>ag (tP N ω _ _ _ _ (Bg.mono hv ω)) λu hu=>aF (by have:=hu.1;omega) (hr (_,(_,_)) ⟨jZ.mono (jZ.app h4 hu) ω,⟨h5.1,h5.2.1,G.nil,h5.2.2.2⟩,G.cat h6 (G.one hx (aH 1))⟩))))))) λ_=>hr s ⟨jZ.mono h4 ω,h5,G.mono ω h6⟩)) λ_=>ω
 ·obtain⟨h4,h5,h6⟩:=hI
  have hp:=h4.1
  dsimp only
  exact ax (λ_=>ω) λ_=>ag (bu N ω Ib) λv hv=>ag (tP N ω _ _ _ _ (Bg.mono hv ω)) λu hu=>aF (by have:=hu.1;omega) (ag (Ho N hN c ω hb) λx hx=>ag (BI N ω ω hb.2.1 _) λh hh=>bt (λ_=>hj _ _ _ _ _ _ (jZ.mono (jZ.app h4 hu) ω) h5 (G.mono ω h6) hx) λ_=>hj _ _ _ _ _ _ (jZ.mono (jZ.app h4 hu) ω) h5 (G.mono ω h6) hx)
end VM
end
section
namespace VM
open Go VM.F
theorem WM(N:Nat)(hN:5000000≤N){t:Int}{w:List Int}(ht:t<9223372036854775808)(hw:JR w)(hl:w.length≤1000000):Ok (λr=>r.2.2=0→r.1.length=w.length∧JR r.1) (eZ N t w w):=by
 refine nW (G9 N hN ht hw hw hl) λh0=> ?_
 have f:=Ha ht hw h0
 have c:=f.c
 have hl2:=c.l2
 refine⟨hl2,λx hx=> ?_⟩
 obtain⟨i,hi,e⟩:=gd hx
 have h1:=c.le i ω
 have h2:=(c.pc i).2
 have h3:=c.po i
 rw[aU (l:=(tM t w w).1),bg hi,ng,e]at h1 h3
 exact⟨ω,ω⟩
theorem adA(N:Nat)(hN:5000000≤N)(c:ae){b:an}{m:Nat}(hm:m≤40000)(hb:G m aL b){a:Int}(ha:aE a):Ok (λr=>L3 (m+1) r.1) (oZ N c b a):=by
 have w:=(G.wf ω hb).w
 have hl:=hb.2.2.2.1.1
 unfold oZ oZ.b
 refine bw (dS N hN ω hb) (bz (λ_=>aq G.nil) λ_=>ax (λ_=>aq G.nil) λ_=>ew (λ_=>aq G.nil) λ_=>bw (EY N w.s ω 0 a) (ok_eq (λ_=>aq G.nil) λ_=> ?_))
 have hq:=So w.qs 0 a
 generalize eR b.2.2.2.1 0 a=q at*
 refine bn (len:=b.2.2.2.1.length) (F:=λn i (s:List Int×List Int)=>oZ.CE N n a b q s.1 s.2 i) (s:=(_,_)) (λi s=>s.1.length≤i∧s.2.length=s.1.length∧JR s.1∧JR s.2) ⟨bF _,rfl,(λx hx=>nomatch hx),λx hx=>nomatch hx⟩ ω (λn i s hi hI hr=> ?_) (λn s hI=> ?_)
 all_goals unfold oZ.CE oZ.zL
 ·obtain⟨h1,h2,h3,h4⟩:=hI
  have hx:G 0 iT (b.2.2.2.1.getD (i:Int).toNat a6):=G.at hb.2.2.2.1 _
  rw[aw (x:=(i:Int)+1) ω ω,af i]
  have h0:=hr s ⟨ω,h2,h3,h4⟩
  have sn: ∀{l:List Int} {x:Int},JR l→aE x→JR (l++[x]):=λhl hx y hy=>(bk.1 hy).elim (hl y) λhy=>by rw[cr.1 hy];exact hx
  dsimp only
  exact ax (λ_=>aA ⟨ω,ω⟩ (bt (λ_=>ok_eq (λ_=>sq (λ_=>aF (by rw[List.length_singleton];omega) (aF (by rw[List.length_singleton];omega) (hr (_,_) ⟨by dsimp only;rw[List.length_append,List.length_singleton];omega,by dsimp only;rw[List.length_append,List.length_append,List.length_singleton,List.length_singleton];omega,sn h3 hx.1,sn h4 (CF hx.2.2.1 (gE _))⟩))) λ_=>h0) λ_=>h0) λ_=>h0)) λ_=>ω
 ·obtain⟨h1,h2,h3,h4⟩:=hI
  refine ax (λ_=>ω) λ_=>ag (WM N hN (CF hq (gE _)).2 h4 ω) λz hz=>bt (λ_=>aq G.nil) λh0=> ?_
  obtain⟨e1,e2⟩:=hz h0
  refine bn (len:=z.1.length) (F:=λn i u=>oZ.WN N n a q s.1 z.1 u i) (λi u=>L3 (1+i) u) (G.one (m:=1) (G3 bx ha (gE _)) (aH 1)) ω (λn i u hi hu hr=> ?_) (λn u hu=> ?_)
  all_goals unfold oZ.WN oZ.Z2
  ·have Ig:=hu.1
   rw[aw (x:=(i:Int)+1) ω ω,af i]
   have h0:=hr u (G.mono ω hu)
   have put: ∀x:Int,aE x→Ok (λr=>L3 (m+1) r.1) (cond (small (u.length+[((s.1.getD (i:Int).toNat 0,(a,(x,()))):cK)].length)) (oZ.WN N n a q s.1 z.1 (u++[(s.1.getD (i:Int).toNat 0,(a,(x,())))]) ((i+1:Nat):Int)) none):=λx hx=>aF (by rw[aK];omega) (hr _ (G.mono ω (G.cat hu (G.one (m:=1) (G3 (uW h3 _) ha hx) (aH 1)))))
   dsimp only
   exact ax (λ_=>aA ⟨ω,ω⟩ (ax (λ_=>bt (λ_=>aA ⟨ω,ω⟩ (put _ (gE _))) λ_=>h0) λ_=>bt (λ_=>aA ⟨ω,ω⟩ (put _ (uW e2 _))) λ_=>h0)) λ_=>ω
  ·exact ax (λ_=>ω) λ_=>aq (G.mono ω hu)
theorem UE(N:Nat)(hN:5000000≤N){c:ae}{b:an}{m:Nat}(h2:200≤m)(hm:m≤7000)(hc:G 5 aB c)(hb:G m aL b):Ok (λr=>G m aL r.1) (BJ N c b):=by
 have Ja:=hc.1.1
 unfold BJ BJ.b
 refine bw (dS N hN ω hb) (bz (λ_=>aq G.iU) λ_=>bn (len:=c.1.length) (F:=λn i s=>BJ.l5 N n c b (cg,(cT,(bq,(bq,(de,(dk,())))))) s i) (λi s=>L3 ((m+1)*i) s) G.nil ω (λn i s hi hI hr=> ?_) (λn s hI=> ?_))
 all_goals unfold BJ.l5 BJ.eA
 ·have hs:=hI.1
  have hmi:(m+1)*i≤(m+1)*5:=me _ ω
  rw[aw (x:=(i:Int)+1) ω ω,af i]
  exact ax (λ_=>ag (adA N hN c ω hb (jG ω ω)) λr hrr=>bt (λ_=>aq G.iU) λ_=>aF (by have:=hrr.1;omega) (hr _ (G.mono (by rw[rK];omega) (G.cat hI hrr)))) λ_=>ω
 ·have hmi:(m+1)*c.1.length≤(m+1)*5:=me _ ω
  exact ax (λ_=>ω) λ_=>ag (tO N ω h2 ω hb (G.mono ω hI) jZ.nil) λr hr=>aq hr
end VM
end
section
namespace VM
open Go VM.F
theorem UF(N:Nat)(hN:200000≤N){l:aO}{m:Nat}(hm:m≤50000)(h:G m (.slice eu) l)(a:Int):Ok (λr=>G 0 eu r.1) (Hp N l a):=by
 have hl:=h.1
 have hz:G 0 eu aW:=G.zero 0 eu
 unfold Hp Hp.b
 refine bw (vb N ω hN) (bz (λ_=>aq hz) λ_=>bn (len:=l.length) (F:=λn i (z:bT×Bool)=>Hp.l6 N n l a aW z.1 z.2 i) (s:=(_,_)) (λ_ z=>G 0 eu z.1) hz ω (λn i z hi hI hr=> ?_) (λn z hI=> ?_))
 all_goals unfold Hp.l6 Hp.tX
 ·rw[aw (x:=(i:Int)+1) ω ω,af i]
  have hx:G 0 eu (l.getD (i:Int).toNat aW):=G.at h _
  have h1:=hr z hI
  have h2:=hr (_,true) hx
  repeat' first|exact h1|exact h2|refine aA ⟨ω,ω⟩ ?_|refine ax (λ_=> ?_) (λ_=> ?_)|refine ok_eq (λ_=> ?_) (λ_=> ?_)|refine bz (λ_=> ?_) (λ_=> ?_)|(exfalso;omega)
 ·exact ax (λ_=>ω) λ_=>aq hI
theorem GL{m:Nat}{a b d e f:Int}{l:aD}(ha:aE a)(hl:L2 m l)(hb:aE b)(hd:aE d)(he:aE e)(hf:aE f):G m jI (a,(l,(b,(d,(e,(f,())))))):=⟨ha,hl,hb,hd,he,hf,trivial⟩
theorem LL.app{m:Nat}{k:Nat}{l:bE}{x:jc}(hl:l.length≤k∧ ∀y∈l,G m jI y)(hx:G m jI x):(l++[x]).length≤k+1∧ ∀y∈l++[x],G m jI y:=
 ⟨by rw[aM,aK];have:=hl.1;omega,λy hy=>(bk.1 hy).elim (hl.2 y) λhy=>by rw[cr.1 hy];exact hx⟩
theorem PJ(N:Nat)(hN:5000000≤N)(c:ae){b:an}{L:bE}{l:aO}{m:Nat}(h2:200≤m)(hm:m≤2000)(hb:G m aL b)(hL:LL m L)(hl:G m (.slice eu) l):Ok (λr=>G m aL r.1∧LL m r.2.1) (pq N c b L l):=by
 have dT: ∀e:Int,Ok (λr:an×bE×Int=>G m aL r.1∧LL m r.2.1) (some ((cg,(cT,(bq,(bq,(de,(dk,())))))),([],e))):=λe=>aq ⟨G.iU,G.nil⟩
 have h3:=hL.1
 have h4:=hl.1
 have hw:JL L:=λy hy=>ct (hL.2 y hy).2.1.1 ω
 unfold pq pq.b
 refine bw (dS N hN ω hb) (bz (λ_=>dT _) λ_=>bw (Bs N ω c ω hw) (bz (λ_=>dT _) λhk=>bw (vb N ω ω) (bz (λ_=>dT _) λ_=> ?_)))
 have h12:L.length≤12:=by
  unfold Ct at hk
  exact bA (dw.1 (dw.1 hk).2).1
 refine bn (len:=L.length) (F:=λn i (z:au×bJ×bE)=>pq.l7 N n L l b (cg,(cT,(bq,(bq,(de,(dk,())))))) z.1 z.2.1 z.2.2 i) (s:=(_,(_,_))) (λi z=>L3 (2*m*i) z.1∧jZ (2*i) z.2.1∧z.2.2.length≤i∧ ∀y∈z.2.2,G m jI y) ⟨G.nil,jZ.nil,bF _,λy hy=>nomatch hy⟩ ω (λn i z hi hI hr=> ?_) (λn z hI=> ?_)
 all_goals unfold pq.l7 pq.p6
 ·obtain⟨h5,h6,h7⟩:=hI
  have h8:=h6.1
  have h9:=h7.1
  have hmi:2*m*i≤2*m*12:=me _ ω
  have hms:2*m*(i+1)=2*m*i+2*m:=rK _ _
  have hx:G m jI (L.getD (i:Int).toNat ((0:Int),(cg,aW))):=G.at hL _
  have hxl:=hx.2.1.1
  rw[aw (x:=(i:Int)+1) ω ω,af i]
  dsimp only
  rw[cW]
  have put: ∀x:jc,G m jI x→Ok (λr=>G m aL r.1∧LL m r.2.1) (cond (small (z.2.2.length+[x].length)) (pq.l7 N n L l b (cg,(cT,(bq,(bq,(de,(dk,())))))) z.1 z.2.1 (z.2.2++[x]) ((i+1:Nat):Int)) none):=λx hx=>aF (by rw[aK];omega) (hr (z.1,(z.2.1,z.2.2++[x])) ⟨G.mono ω h5,jZ.mono h6 ω,LL.app h7 hx⟩)
  refine ax (λ_=>aA ⟨ω,ω⟩ (aF (by rw[ck];omega) (bt (λ_=>put _ hx) λ_=>ag (UF N ω ω hl _) λw hw=>bz (λ_=>put _ (GL hx.1 hx.2.1 hx.2.2.1 (show aE 3 from bD) hx.2.2.2.2.1 hx.2.2.2.2.2.1)) λ_=>ag (BI N ω ω hb.2.1 _) λh hh=>ok_eq (λ_=>dT _) λ_=>ag (ru N ω ω hb _) λ_ _=>ok_eq (λ_=>dT _) λ_=> ?_))) λ_=>ω
  have uQ:=GL hx.1 hx.2.1 hx.2.2.1 (show aE 2 from bD) hw.2.2.1 hw.2.2.2.1
  generalize hX:(((L.getD (i:Int).toNat ((0:Int),(cg,aW))).1,((L.getD (i:Int).toNat ((0:Int),(cg,aW))).2.1,((L.getD (i:Int).toNat ((0:Int),(cg,aW))).2.2.1,((2:Int),(w.1.2.2.1,(w.1.2.2.2.1,())))))):jc)=X at uQ
  have hXl:X.2.1.length≤m:=uQ.2.1.1
  refine bn (len:=X.2.1.length) (F:=λn' j u=>pq.xL N (pq.l7 N n) n' L l b (cg,(cT,(bq,(bq,(de,(dk,())))))) u z.2.1 z.2.2 (i:Int) X w.1 h j) (s:=z.1) (λj u=>L3 (2*m*i+2*j) u) h5 ω (λn' j u hj hu eF=> ?_) (λn' u hu=> ?_)
  all_goals unfold pq.xL pq.wQ
  ·have Ig:=hu.1
   have hy:G m jH (X.2.1.getD (j:Int).toNat cv):=G.at uQ.2.1 _
   dsimp only
   rw[aw (x:=(j:Int)+1) ω ω,af j]
   exact ax (λ_=>aA ⟨ω,ω⟩ (aA ⟨ω,ω⟩ (aA ⟨ω,ω⟩ (aA ⟨ω,ω⟩ (aF (by rw[tC];omega) (eF _ (G.mono ω (G.cat hu (G.two (m:=2) (G3 bx hy.1 (gE _)) (G3 hh hy.1 hy.2.1) (aH 2)))))))))) λ_=>ω
  ·refine ax (λ_=>ω) λ_=>ag (bu N ω hw.2.2.2.1) λv hv=>ag (tP N ω _ _ _ _ (Bg.mono hv ω)) λp hp=>aF (by have:=hp.1;omega) (aF (by rw[aK];omega) ?_)
   rw[aw (x:=(i:Int)+1) ω ω,af i]
   exact hr (_,(_,_)) ⟨G.mono ω hu,jZ.mono (jZ.app h6 hp) ω,LL.app h7 uQ⟩
 ·obtain⟨h5,h6,h7⟩:=hI
  have hmi:2*m*L.length≤2*m*12:=me _ ω
  exact ax (λ_=>ω) λ_=>ag (tO N ω h2 ω hb (G.mono ω h5) (jZ.mono h6 ω)) λr hr=>bt (λ_=>dT _) λ_=>aq ⟨hr,ct h7.1 ω,h7.2⟩
end VM
end
section
namespace VM
open Go VM.F
theorem PK{l:aO}(h:gh l=true):l.length≤24:=by
 unfold gh at h
 rw[fv]at h
 have h:=bA h
 have key: ∀i,i<l.length→(i:Int)+1≤(l.getD i aW).1:=by
  intro i
  induction i with
  |zero=>intro hi;exact(h 0 hi).1.1.1
  |succ i ih=>
   intro hi
   have h1:=ih ω
   have h2:(l.getD i aW).1<(l.getD (i+1) aW).1:=(h (i+1) hi).2.1 ω
   have g: ∀a b:Int,(i:Int)+1≤a→a<b→((i+1:Nat):Int)+1≤b:=λa b h1 h2=>ω
   exact g _ _ h1 h2
 by_cases hl:l.length≤24
 ·exact hl
 ·have h1:=key 24 ω
  have h2:=(h 24 ω).1.1.2
  have g: ∀a:Int,((24:Nat):Int)+1≤a→a≤24→False:=λa h1 h2=>ω
  exact(g _ h1 h2).elim
theorem Kr(N:Nat)(hN:5000000≤N){c:ae}{b:an}{m:Nat}(hm:m≤40000)(hc:G m aB c)(hb:G m aL b)(a:Int):Ok (λr=>aE r.1) (adC N c b a):=by
 unfold adC ZY
 exact bw (dS N hN ω hb) (bz (λ_=>aq bx) λ_=>ag (yB N ω ω hb.2.1 _) λ_ _=>bz (λ_=>aq bx) λ_=>ag (Pw N ω ω hb.2.2.2.1 _) λl hl=>ag (Q:=λr=>Bg 60000 r.1) (ag (CJ N ω ω hc hl _) λr hr=>aq hr) λu hu=>ag (vf N ω ω hb _) λg hg=>ew (λ_=>aq bx) λ_=>ag (xY N hu) λv hv=>sq (λ_=>ax (λ_=>aq hv) λ_=>aq hg) λ_=>aq hg)
theorem Z3(N:Nat)(hN:200000≤N){l:au}{a d:Int}{m:Nat}(hm:m≤50000)(h:L3 m l)(ha:aE a)(hd:aE d):Ok (λr=>L3 (2*m) r) (m6 N l a d):=by
 have hl:=h.1
 unfold m6 m6.b
 refine bw (mQ N ω hN) (bz (λ_=>aq G.nil) λ_=>ok_eq (λ_=>aq G.nil) λ_=>ax (λ_=>aq G.nil) λ_=>ax (λ_=>aq G.nil) λ_=>ax (λ_=>aq G.nil) λ_=>ax (λ_=>aq G.nil) λ_=>bn (len:=l.length) (F:=λn i s=>m6.l5 N n l a d s i) (λi s=>L3 (2*i) s) G.nil ω (λn i s hi hI hr=> ?_) (λn s hI=> ?_))
 all_goals unfold m6.l5 m6.eA
 ·have hs:=hI.1
  have hx:=G.at h (i:Int).toNat
  dsimp only
  rw[aw (x:=(i:Int)+1) ω ω,af i]
  have h1:=hr s (G.mono ω hI)
  exact ax (λ_=>aA ⟨ω,ω⟩ (ok_eq (λ_=>aA ⟨ω,ω⟩ (aA ⟨ω,ω⟩ (aA ⟨ω,ω⟩ (aA ⟨ω,ω⟩ (aF (by rw[tC];omega) (hr _ (G.mono ω (G.cat hI (G.two (m:=2) (G3 ha hx.2.1 (gE _)) (G3 hd hx.2.1 hx.2.2.1) (aH 2)))))))))) λ_=>h1)) λ_=>ω
 ·exact ax (λ_=>ω) λ_=>aq (G.mono ω hI)
theorem adD(N:Nat)(hN:5000000≤N){c:ae}{b:an}{m:Nat}(h2:200≤m)(hm:m≤1000)(hc:G m aB c)(hb:G m aL b)(a:Int):Ok (λr=>G m aL r.1) (gA N c b a):=by
 unfold gA gA.b
 refine bw (dS N hN ω hb) (bz (λ_=>aq G.iU) λhB=>ag (ru N ω ω hb _) λ_ _=>ok_eq (λ_=>aq G.iU) λ_=> ?_)
 have hal:b.2.1.length≤24:=by
  unfold cY at hB
  have h1:=(dw.1 (dw.1 hB).2).1
  unfold sm at h1
  exact PK (dw.1 (dw.1 h1).2).1
 refine bn (len:=b.2.1.length) (F:=λn i (z:au×bJ)=>gA.l8 N n a c b (cg,(cT,(bq,(bq,(de,(dk,())))))) z.1 z.2 i) (s:=(_,_)) (λi z=>L3 (2*m*i) z.1∧jZ (4*i) z.2) ⟨G.nil,jZ.nil⟩ ω (λn i z hi hI hr=> ?_) (λn z hI=> ?_)
 all_goals unfold gA.l8 gA.Dy
 ·obtain⟨h5,h6⟩:=hI
  have h7:=h5.1
  have h8:=h6.1
  have hmi:2*m*i≤2*m*24:=me _ ω
  have hms:2*m*(i+1)=2*m*i+2*m:=rK _ _
  have hx:G m eu (b.2.1.getD (i:Int).toNat aW):=G.at hb.2.1 _
  have hj: ∀p:bJ,jZ (4*i+2) p→Ok (λr=>G m aL r.1) (gA.ze N (gA.l8 N n) a c b (cg,(cT,(bq,(bq,(de,(dk,())))))) z.1 p (i:Int) (b.2.1.getD (i:Int).toNat aW)):=λp hp=>by
   have AN:=hp.1
   unfold gA.ze gA.s0
   rw[aw (x:=(i:Int)+1) ω ω,af i]
   exact ag (vf N ω ω hb _) λg hg=>ax (λ_=>ag (bu N ω hg) λv hv=>ag (rr N ω ω hv) λv hv=>ag (tP N ω _ _ _ _ (Bg.mono hv ω)) λu hu=>aF (by have:=hu.1;omega) (ag (Z3 N ω ω hb.2.2.2.1 hx.1 bx) λs hs=>aF (by have:=hs.1;omega) (hr (_,_) ⟨G.mono ω (G.cat h5 hs),jZ.mono (jZ.app hp hu) ω⟩))) λ_=>ag (Z3 N ω ω hb.2.2.2.1 hx.1 bx) λs hs=>aF (by have:=hs.1;omega) (hr (_,_) ⟨G.mono ω (G.cat h5 hs),jZ.mono hp ω⟩)
  rw[aw (x:=(i:Int)+1) ω ω,af i]
  exact ax (λ_=>aA ⟨ω,ω⟩ (bt (λ_=>hr z ⟨G.mono ω h5,jZ.mono h6 ω⟩) λ_=>ok_eq (λ_=>ag (Kr N hN ω hc hb _) λq hq=>ag (bu N ω hq) λv hv=>ag (tP N ω _ _ _ _ (Bg.mono hv ω)) λu hu=>aF (by have:=hu.1;omega) (hj _ (jZ.mono (jZ.app h6 hu) ω))) λ_=>hj _ (jZ.mono h6 ω))) λ_=>ω
 ·obtain⟨h5,h6⟩:=hI
  have hmi:2*m*b.2.1.length≤2*m*24:=me _ ω
  exact ax (λ_=>ω) λ_=>ag (tO N ω h2 ω hb (G.mono ω h5) (jZ.mono h6 ω)) λr hr=>aq hr
abbrev GS(m:Nat)(s:aV):Prop:=G m eg s
abbrev SR(m:Nat)(r:aV×cK):Prop:=GS m r.1
theorem Mg(N:Nat)(e:Int):Ok (λ_=>True) (fC N e):=by
 unfold fC;exact fh
theorem WO(N:Nat)(hN:5000000≤N){c:ae}{s:aV}{e:g9}{m:Nat}(h2:200≤m)(hm:m≤1000)(hc:G m aB c)(hs:GS m s)(he:G 0 pI e):Ok (SR m) (n6 N c s e):=by
 have hhl:=hs.2.2.2.1.2.2.2.2.1.1
 unfold n6 n6.b
 generalize ((0:Int),((0:Int),_))=S0
 refine bn (len:=s.2.2.2.1.2.2.2.2.1.length) (F:=λn i (z:aV×aO×Bool×Int)=>n6.l5 N n c z.1 e S0 a6 z.2.1 z.2.2.1 z.2.2.2 i) (s:=(_,(_,(_,_)))) (λi z=>GS m z.1∧z.1.2.2.2.1.2.2.2.2.1=s.2.2.2.1.2.2.2.2.1∧G i (.slice eu) z.2.1) ⟨hs,rfl,G.nil⟩ ω (λn i z hi hI hr=> ?_) (λn z hI=> ?_)
 all_goals unfold n6.l5 n6.eA
 ·obtain⟨hz,hh,ho⟩:=hI
  have Cc:=ho.1
  rw[hh,aw (x:=(i:Int)+1) ω ω,af i]
  have hx:G 0 eu (s.2.2.2.1.2.2.2.2.1.getD (i:Int).toNat aW):=G.at hs.2.2.2.1.2.2.2.2.1 _
  refine ax (λ_=>aA ⟨ω,ω⟩ (ok_eq (λ_=>ag (Uz N hN h2 ω hc hz.2.2.1 (G.mono (bF m) hx) he.2.2.1 he.2.2.2.2.2.2.1 he.2.2.2.2.2.2.2.1) λr ⟨zS,AH⟩=>bt (λ_=>ag (Mg N _) λ_ _=>aq hz) λ_=> ?_) λ_=>ax (λ_=>aF (by rw[aK];omega) (hr (z.1,(z.2.1++[s.2.2.2.1.2.2.2.2.1.getD (i:Int).toNat aW],z.2.2)) ⟨hz,hh,G.cat ho (G.one hx (aH 1))⟩)) λ_=>hr z ⟨hz,hh,G.mono ω ho⟩)) λ_=>ω
  have D6:GS m (z.1.1,(z.1.2.1,(r.1,z.1.2.2.2))):=⟨hz.1,hz.2.1,zS,hz.2.2.2⟩
  have akS:G 0 eu r.2.1:=AH
  exact ax (λ_=>aF (by rw[aK];omega) (hr ((z.1.1,(z.1.2.1,(r.1,z.1.2.2.2))),(z.2.1++[r.2.1],(true,r.2.1.2.2.2.1))) ⟨D6,hh,G.cat ho (G.one akS (aH 1))⟩)) λ_=>hr ((z.1.1,(z.1.2.1,(r.1,z.1.2.2.2))),(z.2.1,(true,r.2.1.2.2.2.1))) ⟨D6,hh,G.mono ω ho⟩
 ·obtain⟨hz,hh,ho⟩:=hI
  rw[hh]
  exact ax (λ_=>ω) λ_=>bz (λ_=>ag (Mg N _) λ_ _=>aq hz) λ_=>aq ⟨hz.1,hz.2.1,hz.2.2.1,⟨hz.2.2.2.1.1,hz.2.2.2.1.2.1,hz.2.2.2.1.2.2.1,hz.2.2.2.1.2.2.2.1,G.mono hhl ho,hz.2.2.2.1.2.2.2.2.2⟩,hz.2.2.2.2⟩
end VM
end
section
namespace VM
open Go VM.F
theorem vh(N:Nat)(hN:4000000≤N){s:aV}{q:Int}(hs:aE s.1)(hq:aE q):Ok (λr=>aE r.1) (WQ N s q):=by
 unfold WQ
 exact ag (bu N hN hs) λa ha=>ag (bu N hN hq) λb hb=>ag (kY N hN ω ha hb) λx hx=>ag (xY N hx) λv hv=>aq hv
theorem db{α:Type}{P:α×cK→Prop}{N:Nat}{e:Int}{f:cK→Option (α×cK)}(h: ∀r,Ok P (f r)):Ok P ((fC N e).bind f):=ag (Mg N e) λr _=>h r
theorem Z4(N:Nat)(hN:5000000≤N){c:ae}{s:aV}{e:g9}{m:Nat}(h2:200≤m)(hm:m≤999)(hc:G 5 aB c)(hs:GS m s)(he:G 0 pI e):Ok (SR (m+1)) (n7 N c s e):=by
 have EH:G m aB c:=G.mono ω hc
 have RH:GS (m+1) s:=G.mono ω hs
 obtain⟨s1,s2,s3,⟨k1,k2,k3,k4,k5,k6,k7,k8,k9,UG,Z5⟩,s5⟩:=RH
 have hk:=hs.2.2.2.1
 have i2:aE 2:=bD
 have i3:aE 3:=bD
 have up: ∀{τ:Ty} {x:τ.den},G m τ x→G (m+1) τ x:=λh=>G.mono ω h
 have cm: ∀r:cK,Ok (SR (m+1)) (some (s,r)):=λr=>aq (up hs)
 unfold n7 n7.b
 refine ok_eq (λ_=> ?_) λ_=>ok_eq (λ_=> ?_) λ_=>ok_eq (λ_=> ?_) λ_=>ok_eq (λ_=> ?_) λ_=>ok_eq (λ_=> ?_) λ_=>ok_eq (λ_=> ?_) λ_=>ok_eq (λ_=> ?_) λ_=>ok_eq (λ_=> ?_) λ_=>db λr=>cm r
 ·exact ag (adu N hN ω EH hs.2.2.1 _ he.2.1 _) λr hr=>db λ_=>aq ⟨s1,s2,up hr,(up hs).2.2.2⟩
 ·exact ag (adD N hN h2 ω EH hs.2.2.1 _) λr hr=>db λ_=>aq ⟨s1,s2,up hr,⟨k1,i2,bx,k4,k5,k6,k7,k8,k9,UG,Z5⟩,s5⟩
 ·exact ag (Ki N hN c hc.2.2.2.2.2.2.1 ω hs.2.2.1 _) λr hr=>aq ⟨s1,gE _,s3,⟨k1,k2,k3,k4,G.mono ω hr,k6,k7,k8,k9,UG,Z5⟩,s5⟩
 ·exact ag (WO N hN h2 ω EH hs he) λr hr=>aq (up hr)
 ·exact ok_eq (λ_=>db λr=>cm r) λ_=>ag (UB N hN h2 ω EH hs.2.2.1 hs.2.1) λl hl=>bt (λ_=>db λr=>cm r) λ_=>ag (vh N ω hs.1 hc.2.2.2.2.1) λt ht=>bz (λ_=>db λr=>cm r) λ_=>ag (UA N hN c ω hs.2.2.1) λu hu=>aq ⟨s1,gE _,s3,⟨k1,i3,ht,gE _,G.nil,up hl,G.nil,up hu,k9,UG,Z5⟩,s5⟩
 ·have hx:G 0 eu (s.2.1,(e.2.2.2.2.2.1,(e.2.1,(e.2.2.2.2.2.2.2.1,())))):=⟨hs.2.1,he.2.2.2.2.2.1,he.2.1,he.2.2.2.2.2.2.2.1,trivial⟩
  exact ag (Km N hN ω ω EH hs.2.2.1 hk.2.2.2.2.2.1 hk.2.2.2.2.2.2.1 hx) λr hr=>aq ⟨s1,gE _,s3,⟨k1,k2,k3,k4,k5,k6,hr,k8,k9,UG,Z5⟩,s5⟩
 ·refine ag (PJ N hN c h2 ω hs.2.2.1 hk.2.2.2.2.2.1 hk.2.2.2.2.2.2.1) λr ⟨zS,AH⟩=>bt (λ_=>db λr=>cm r) λ_=>ag (PH N ω c h2 ω hk.2.2.2.2.2.2.2.2.1 hk.2.2.2.2.2.2.2.1.1 AH hk.2.2.2.2.2.2.1) λd hd=> ?_
  generalize ((0:Int),((0:Int),_))=S0
  have I8:=AH.1
  refine bn (len:=r.2.1.length) (F:=λn i q=>n7.l41 N n _ S0 a6 r.2.1 q i) (λ_ _=>True) trivial ω (λn i q hi _ eF=> ?_) (λn q _=> ?_)
  all_goals unfold n7.l41 n7.adE
  ·rw[aw (x:=(i:Int)+1) ω ω,af i]
   exact ax (λ_=>aA ⟨ω,ω⟩ (ok_eq (λ_=>eF _ trivial) λ_=>eF _ trivial)) λ_=>ω
  ·exact ax (λ_=>ω) λ_=>aq ⟨s1,s2,up zS,⟨k1,i2,bx,k4,k5,up AH,k7,k8,up hd,UG,Z5⟩,s5⟩
 ·exact ag (Kq N hN h2 ω EH hs.2.2.1 hk.2.2.2.2.2.2.2.2.1 hk.2.2.2.2.2.2.2.2.2.1 hk.1) λr ⟨zS,AH⟩=>bt (λ_=>db λr=>cm r) λ_=>ag (UE N hN h2 ω hc zS) λb hb=>bt (λ_=>db λr=>cm r) λ_=>ag (L8 N ω ω hb.1 _ _) λu hu=>aq ⟨s1,s2,⟨up hu,(up hb).2⟩,G.zero (m+1) pH,up AH,trivial⟩
end VM
end
section
namespace VM
open Go VM.F
theorem PL(N:Nat)(s:aV)(k:Int):Ok (λ_=>True) (adF N s k):=by
 unfold adF
 repeat' first|exact fh|refine ok_eq (λ_=> ?_) (λ_=> ?_)
theorem o0(N:Nat)(hN:200000≤N){s:aV}{m:Nat}(hm:m≤50000)(hs:GS m s)(k:Int):Ok (λ_=>True) (Hr N s k):=by
 unfold Hr
 exact ag (oY N hN hm hs.2.2.1.1 _) λ_ _=>fh
theorem Z6(N:Nat)(hN:200000≤N){s:aV}{m:Nat}(hm:m≤50000)(hs:GS m s)(k:Int):Ok (λ_=>True) (SN N s k):=by
 unfold SN
 exact ag (yB N hN hm hs.2.2.1.2.1 _) λ_ _=>fh
theorem adG(N:Nat)(hN:4000000≤N){s:aV}{m:Nat}(h2:200≤m)(hm:m≤50000)(hs:GS m s)(a b c d:Int){q:Int}(hq:aE q):Ok (SR m) (PM N s a b c d q):=by
 unfold PM
 exact ag (bu N hN hq) λx hx=>ag (tP N hN _ _ _ _ (Bg.mono hx ω)) λp hp=>ag (tO N hN h2 hm hs.2.2.1 G.nil (jZ.mono hp ω)) λr hr=>aq ⟨hs.1,hs.2.1,hr,hs.2.2.2⟩
theorem Z7(N:Nat)(hN:5000000≤N){c:ae}{s:aV}{e:g9}{m:Nat}(h2:200≤m)(hm:m≤999)(hc:G 5 aB c)(hs:GS m s)(he:G 0 pI e):Ok (SR (m+1)) (qy N c s e):=by
 obtain⟨s1,s2,s3,⟨k1,k2,k3,k4,k5,k6,k7,k8,k9,UG,Z5⟩,s5⟩:=hs
 have hs:GS m s:=⟨s1,s2,s3,⟨k1,k2,k3,k4,k5,k6,k7,k8,k9,UG,Z5⟩,s5⟩
 have up: ∀{x:aV},GS m x→ ∀r:cK,Ok (SR (m+1)) (some (x,r)):=λh r=>aq (P:=SR (m+1)) (G.mono (rL m) h)
 have i1:aE 1:=bD
 have us: ∀{τ:Ty} {x:τ.den},G m τ x→G (m+1) τ x:=λh=>G.mono ω h
 unfold qy qy.b
 have hj: ∀(S0:aV) (z:cK),Ok (SR (m+1)) (qy.WI N c s e S0 z):=λS0 z=>by
  unfold qy.WI qy.PG
  exact ag (PL N _ _) λ_ _=>bz (λ_=>db λr=>up hs r) λ_=>ag (Z4 N hN h2 hm hc hs he) λr hr=>aq hr
 have mem: ∀{x:aD},G m (.slice jH) x→G m aL ((x,s.2.2.1.2):an):=λh=>⟨h,s3.2⟩
 have hd: ∀z:aD×Int,G m (.slice jH) z.1→Ok (SR (m+1)) (cond (aN z.2 0) (cond (aN e.1 11) ((L9 N c (z.1,s.2.2.1.2) e.2.1).bind λr2=>cond (aN s.2.2.2.1.2.1 3) ((pX N s.2.2.2.1.2.2.2.2.2.2.1 e.2.1).bind λr3=>(fC N z.2).bind λr4=>some ((s.1,(s.2.1,(r2.1,((s.2.2.2.1.1,(s.2.2.2.1.2.1,(s.2.2.2.1.2.2.1,(s.2.2.2.1.2.2.2.1,(s.2.2.2.1.2.2.2.2.1,(s.2.2.2.1.2.2.2.2.2.1,(r3,s.2.2.2.1.2.2.2.2.2.2.2))))))),s.2.2.2.2)))),r4)) ((fC N z.2).bind λr5=>some ((s.1,(s.2.1,(r2.1,s.2.2.2))),r5))) ((fC N z.2).bind λr6=>some ((s.1,(s.2.1,((z.1,s.2.2.1.2),s.2.2.2))),r6))) ((fC N z.2).bind λr7=>some ((s.1,(s.2.1,((z.1,s.2.2.1.2),s.2.2.2))),r7))):=λz hz=>
  ok_eq (λ_=>ok_eq (λ_=>ag (PA N hN c ω (mem hz) _) λb hb=>ok_eq (λ_=>ag (DR N ω ω k7 _) λl hl=>db λr=>aq ⟨s1,s2,us hb,⟨k1,k2,k3,k4,us k5,us k6,us hl,us k8,us k9,us UG,trivial⟩,us s5⟩) λ_=>db λr=>aq ⟨s1,s2,us hb,(us hs).2.2.2⟩) λ_=>db λr=>aq ⟨s1,s2,us (mem hz),(us hs).2.2.2⟩) λ_=>db λr=>aq ⟨s1,s2,us (mem hz),(us hs).2.2.2⟩
 have Im:=λk:Int=>L8 N ω (m:=m) ω s3.1 e.2.1 k
 refine ok_eq (λ_=>ag (Im _) λz hz=>hd z hz) λ_=>ok_eq (λ_=>ag (Im _) λz hz=>hd z hz) λ_=>ok_eq (λ_=> ?_) λ_=>ok_eq (λ_=> ?_) λ_=>hj _ _
 ·exact ag (o0 N ω ω hs _) λ_ _=>ok_eq (λ_=>db λr=>up hs r) λ_=>bt (λ_=>db λr=>up hs r) λ_=>ag (Im _) λz hz=>bt (λ_=>db λr=>aq ⟨s1,s2,us (mem hz),(us hs).2.2.2⟩) λ_=>ag (vh N ω s1 hc.2.2.2.1) λt ht=>bz (λ_=>db λr=>aq ⟨s1,s2,us (mem hz),(us hs).2.2.2⟩) λ_=>aq ⟨s1,s2,us (mem hz),⟨he.2.1,i1,ht,bx,G.nil,G.nil,G.nil,G.nil,G.nil,G.nil,trivial⟩,us s5⟩
 ·exact ag (o0 N ω ω hs _) λ_ _=>ok_eq (λ_=>db λr=>up hs r) λ_=>ag (o0 N ω ω hs _) λ_ _=>bt (λ_=>db λr=>up hs r) λ_=>hj _ _
theorem adH(N:Nat)(hN:5000000≤N){c:ae}{s:aV}{e:g9}{m:Nat}(h2:200≤m)(hm:m≤999)(hc:G 5 aB c)(hs:GS m s)(he:G 0 pI e):Ok (SR (m+1)) (WR N c s e):=by
 have EH:G m aB c:=G.mono ω hc
 obtain⟨s1,s2,s3,⟨k1,k2,k3,k4,k5,k6,k7,k8,k9,UG,Z5⟩,s5⟩:=hs
 have hs:GS m s:=⟨s1,s2,s3,⟨k1,k2,k3,k4,k5,k6,k7,k8,k9,UG,Z5⟩,s5⟩
 have us: ∀{τ:Ty} {x:τ.den},G m τ x→G (m+1) τ x:=λh=>G.mono ω h
 have RH:=us hs
 have up: ∀{x:aV},GS m x→ ∀r:cK,Ok (SR (m+1)) (some (x,r)):=λh r=>aq (P:=SR (m+1)) (G.mono (rL m) h)
 have st:=λk:Int=>o0 N ω (m:=m) ω hs k
 have hp:=λa b c d=>adG N ω h2 ω hs a b c d he.2.2.2.2.2.2.1
 have WS:=he.2.2.2.2.2.2.1
 unfold WR
 refine ok_eq (λ_=> ?_) λ_=>ok_eq (λ_=> ?_) λ_=>ok_eq (λ_=> ?_) λ_=>ok_eq (λ_=> ?_) λ_=>ok_eq (λ_=> ?_) λ_=>ok_eq (λ_=> ?_) λ_=>ok_eq (λ_=> ?_) λ_=>ok_eq (λ_=> ?_) λ_=>ok_eq (λ_=> ?_) λ_=>ok_eq (λ_=> ?_) λ_=>ok_eq (λ_=> ?_) λ_=>ag (Z7 N hN h2 hm hc hs he) λr hr=>aq hr
 ·exact ag (ZM N ω ω s3.1 he.2.1) λr hr=>db λ_=>aq ⟨s1,s2,⟨hr,RH.2.2.1.2⟩,RH.2.2.2⟩
 ·have hx:G 0 eu (e.2.2.1,(e.2.1,(e.2.2.2.2.1,((0:Int),())))):=⟨he.2.2.1,he.2.1,he.2.2.2.2.1,bx,trivial⟩
  exact ag (adp N ω ω s3.1 s3.2.1 hx) λr hr=>db λ_=>aq ⟨s1,s2,⟨RH.2.2.1.1,hr,RH.2.2.1.2.2⟩,RH.2.2.2⟩
 ·exact ag (Z6 N ω ω hs _) λ_ _=>bz (λ_=>db λr=>up hs r) λ_=>ag (hp _ _ _ _) λr hr=>aq (us hr)
 ·exact ag (PD N hN h2 ω EH s3 _ WS) λr hr=>db λz=>aq ⟨s1,s2,us hr,(us hs).2.2.2⟩
 ·exact ag (st _) λ_ _=>ok_eq (λ_=>db λr=>up hs r) λ_=>ag (st _) λ_ _=>bt (λ_=>db λr=>up hs r) λ_=>ag (hp _ _ _ _) λr hr=>aq (us hr)
 ·exact ag (st _) λ_ _=>ok_eq (λ_=>db λr=>up hs r) λ_=>ag (mH N ω ω s3.2.2.1 _ _) λg hg=>ag (bu N ω hg) λx hx=>ag (rr N ω ω hx) λx hx=>ag (bu N ω WS) λy hy=>ag (qv N ω ω ω hy hx) λ_ _=>ax (λ_=>db λr=>up hs r) λ_=>ag (hp _ _ _ _) λr hr=>aq (us hr)
 ·exact ag (ZN N ω ω s3.2.1 WS) λr hr=>db λz=>aq ⟨s1,s2,⟨us s3.1,us hr,(us s3).2.2⟩,(us hs).2.2.2⟩
 ·have hx:G 0 lE (s.2.1,(e.2.2.1,(e.2.2.2.1,(e.2.2.2.2.1,(e.2.2.2.2.2.2.1,(e.2.2.2.2.2.2.2.1,())))))):=⟨s2,he.2.2.1,he.2.2.2.1,he.2.2.2.2.1,WS,he.2.2.2.2.2.2.2.1,trivial⟩
  exact ag (ZR N hN h2 ω EH s3 hx) λr hr=>aq ⟨s1,gE _,hr,RH.2.2.2⟩
 ·exact ag (Z6 N ω ω hs _) λ_ _=>bz (λ_=>db λr=>up hs r) λ_=>ag (Wz N ω ω s3.2.2.2.2.2.1 _ _) λr hr=>db λz=>aq ⟨s1,s2,⟨us s3.1,us s3.2.1,us s3.2.2.1,us s3.2.2.2.1,us s3.2.2.2.2.1,us hr,trivial⟩,(us hs).2.2.2⟩
 ·exact ag (DS N hN c h2 ω s3 _ he.2.2.2.2.2.2.2.1) λr ⟨zS,AH⟩=>ok_eq (λ_=>bt (λ_=>ag (PC N ω h2 ω UG AH) λg hg=>db λz=>aq ⟨s1,s2,us zS,⟨k1,k2,k3,k4,us k5,us k6,us k7,us k8,us k9,us hg,trivial⟩,us s5⟩) λ_=>db λz=>aq ⟨s1,s2,us zS,(us hs).2.2.2⟩) λ_=>db λz=>aq ⟨s1,s2,us zS,(us hs).2.2.2⟩
 ·exact ag (vh N ω s1 WS) λt ht=>bz (λ_=>db λr=>up hs r) λ_=>aq ⟨ht,(us hs).2⟩
theorem acy(N:Nat)(hN:5000000≤N){c:ae}{s:aV}{e:g9}{m:Nat}(h2:200≤m)(hm:m≤999)(hc:G 5 aB c)(hs:GS m s)(he:G 0 pI e):Ok (SR (m+1)) (WT N c s e):=by
 have cm: ∀r:cK,Ok (SR (m+1)) (some (s,r)):=λr=>aq (P:=SR (m+1)) (G.mono (rL m) hs)
 unfold WT
 exact bw (nM N ω c) (bz (λ_=>cm _) λ_=>ag (Kk N ω e) λ_ _=>bz (λ_=>cm _) λ_=>ag (adH N hN h2 hm hc hs he) λr hr=>bt (λ_=>cm _) λ_=>aq hr)
end VM
end
section
namespace VM
open Go VM.F Go.RowKit
theorem acD{l:List Int}(h:WF (.slice (.int .u64)) l):Dk 0 ((l,((0:Int),())):bf):=⟨λx hx=>by
 obtain⟨i,hi,rfl⟩:=gd hx
 have h3:0≤l[i]∧l[i]≤18446744073709551615:=wf_u64.1 (h.2 i hi)
 exact⟨h3.1,Ae h3.2 δ⟩,dP 0,dP 0⟩
namespace Pure
end Pure
end VM
end
section
namespace VM
open Go VM.F Go.RowKit
theorem u6{α:Type}{l:List α}{d:α}{i:Nat}(h:i<l.length):l.getD i d∈l:=by
 rw[aU,bg h];exact dx h
namespace Pure
end Pure
end VM
end
