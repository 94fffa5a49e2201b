/- A part of the proof of BookAtOnce of layer 18: a machine that reads a function of the program as an equation between values. -/
import Derived.Test.YthkjjlcblhbifaaGreatVm4
import Derived.Scope
set_option linter.all false
open List renaming getD→γ
section
namespace VM
open Go
variable{P:Program}{E:Env}{o:Oper}{a:Act}{w:World}{M:Nat→Prop}{ν:Nat→Value}{σ:St}{c:Ctx}{α:Type}{r:α}{next:Act→World→Prop}{Q:Exit→Act→World→Prop}
theorem Od{i:Nat}: ∀{ups:jr} {H:Nat→Option bp},i∈keys ups→ ∃u∈ups,u.1=i∧cP H ups i=u.2
 |[],_,h=>by simp[keys]at h
 |u::r,H,h=>by
  by_cases hk:i∈keys r
  ·obtain⟨v,h1,h2,h3⟩:=Od (H:=ca H u.1 u.2) hk
   exact⟨v,aZ _ h1,h2,h3⟩
  ·have hi:i=u.1:=by
    simp only[keys,bQ,a8]at h hk
    exact h.resolve_right hk
   refine⟨u,bs,hi.symm,?_⟩
   show cP (ca H u.1 u.2) r i=_
   rw[mE hk,hi,ay]
theorem GK: ∀{ups:jr} {H H':Nat→Option bp},(∀i,i∉keys ups→H i=H' i)→cP H ups=cP H' ups
 |[],H,H',h=>funext λi=>h i (by simp[keys])
 |u::r,H,H',h=>by
  refine GK (ups:=r) λi hi=> ?_
  by_cases hu:i=u.1
  ·subst hu;rw[ay,ay]
  ·rw[az _ _ hu,az _ _ hu]
   exact h i (by simp only[keys,bQ,a8,not_or];exact⟨hu,hi⟩)
theorem ER.len{v:Value}{e:Ty}{l:List e.den}(h:ER w M v (.own e l)): ∃ad cap,v= .slice ad l.length cap:=by
 simp only[ER]at h
 rcases h with⟨rfl,ad,rfl⟩|⟨b,cs,t,cap,h1,_⟩
 ·exact⟨ad,0,rfl⟩
 ·exact⟨_,cap,h1⟩
theorem RR.sa: ∀{ms:List AM} {x:HP ms} {us ps:List Value},RR w M ms x us ps→ ∀b∈bH ms us ps,M b
 |[],_,_,_,_,b,hb=>by simp[bH]at hb
 |m::ms,x,us,ps,h,b,hb=>by
  simp only[RR]at h
  rcases h with⟨p,I8,h1,rfl,h2,h3⟩|⟨v,EN,h1,h2,rfl,h3,h4⟩
  ·simp only[bH,h1,g8,ug,uj,bk]at hb
   rcases hb with hb|hb
   ·cases m<;>simp[AM.iQ]at h1<;>(simp only[dw,fp,A1]at hb h2;exact h2.xe trivial hb)
   ·exact RR.sa h3 b hb
  ·simp only[bH,h1,jL,fG,ug,uj,bk]at hb
   rcases hb with hb|hb
   ·cases m with
    |own e=>
     simp only[dw,fp,A1]at hb h3
     exact h3.xe trivial hb
    |v _=>simp[dw]at hb
    |io _=>simp[AM.iQ]at h1
    |lo _=>simp[AM.iQ]at h1
    |fn _ _=>simp[dw]at hb
    |jd _=>simp[dw]at hb
    |ptr τ=>
     simp only[dw,fp,A1]at hb h3
     exact h3.xe trivial hb
    |sp τ n e=>
     simp only[A1]at h3
     obtain⟨cs,ka,u,l,z,rfl,hq,hr,tU,hu,_⟩:=h3
     rw[(yA hq hr tU).1,fp]at hb
     exact hu.xe trivial hb
   ·exact RR.sa h4 b hb
theorem J9: ∀{l:List m1} {qG:List bA} {S:m1},NS l qG=some S→S∈l
 |[],_,_,h=>by simp[NS]at h
 |T::l,qG,S,h=>by
  unfold NS at h
  cases hf:fits T.args qG
  ·rw[hf]at h;exact aZ _ (J9 h)
  ·rw[hf]at h;cases h;exact bs
theorem DN{H:Nat→Option bp}{id:Nat}: ∀{n:Nat},vd H id n=true→ ∀i,id≤i→i<id+n→H i=none
 |0,_,i,h1,h2=>ω
 |n+1,h,i,h1,h2=>by
  unfold vd at h
  rw[bM]at h
  by_cases hi:i=id+n
  ·subst hi
   have h:=h.1
   split at h
   ·assumption
   ·cases h
  ·exact DN h.2 i h1 ω
theorem X2{H:Nat→Option bp}{qG:List bA}{us:List Value}(h:jN w M H ν qG us):VR w M H ν (NQ qG) (xp us):=by
 match qG,us,h with
 |[],[],_=>simp[NQ,VR]
 |[a],[u],h=>simp only[jN,eF]at h;simpa [NQ,xp]using h
 |a::b::qG,u::v::us,h=>
  simp only[NQ,VR]
  exact⟨u::v::us,by simp[xp],h⟩
 |[],_::_,h=>simp[jN]at h
 |_::_,[],h=>simp[jN]at h
 |[_],_::_::_,h=>simp[jN]at h
 |_::_::_,[_],h=>simp[jN]at h
theorem Oe(hΓ: ∀f S,S∈E.Γ f→jw P f S){H:Nat→Option bp}(hm:Mem c H w M ν){f id:Nat}{qG:List bA}{vs:List Value}(hv:jN w M H ν qG vs){K:gL α}(h:DA E f qG id H K=some r)
  {R:Value→World→Prop} (hR: ∀v rd ups v' w' M' ν',K v rd ups=some r→Tr c H w M ν (cP H ups) w' M' ν'→VR w' M' (cP H ups) ν' v v'→R v' w'):
  Oa P f vs.toArray w R:=by
 unfold DA at h
 split at h
 ·cases h
 rename_i S hS
 have hok:=hΓ f S (J9 hS)
 obtain⟨x,rd,uo,uf,io,H2,Hq,M2,h1,hA,hK,ao2,hi1,TJ⟩:=DM (kE.start hm) hv h
 clear h
 simp only[cN,ik]at hA hi1 TJ
 obtain⟨y,hy,h1⟩:=ud.1 h1
 obtain⟨jx,h1⟩:=cz h1
 have jx:=DN jx
 have au9:(λb=>(M2 b∧b∉eA S.args vs)∨b∈eA S.args vs)=M2:=by
  funext b
  refine propext ⟨λh=>h.elim (·.1) (hA.hM b),λh=> ?_⟩
  by_cases hb:b∈eA S.args vs
  ·exact .inr hb
  ·exact .inl ⟨h,hb⟩
 refine Oa.mono (hok.call (λb=>M2 b∧b∉eA S.args vs) w vs x y (λb hb=>hA.mem.Gn b hb.1) (by rw[au9];exact ao2) hA.nd (λb hb h=>h.2 hb) hy) ?_
 rintro e w' ⟨us,M',rfl,Xm,hL,wD,hn0⟩
 have ava: ∀b∈eA S.args vs,c.M0 b→M' b:=by
  intro b hb h0
  obtain⟨q,hq,hqb⟩:=hA.iob b hb h0
  exact Xm.sa b (Xm.GI (ν q.1) (by rw[←hi1];exact fm hq) b hqb)
 have oI: ∀b∈bH S.res us (fP S.args vs),w.heap.size≤b∨b∈eA S.args vs:=by
  intro b hb
  rcases nT b w.heap.size with eT|TK
  ·exact .inr ((hL.less b eT (Xm.sa b hb)).resolve_left (hn0 b hb))
  ·exact .inl TK
 have kF: ∀b∈bH S.res us (fP S.args vs),c.B≤b∨c.may b:=λb hb=>(oI b hb).elim (λh=> .inl (ct hm.size h)) (hA.Oc b)
 have Gp: ∀b∈bH S.res us (fP S.args vs),c.M0 b→ ∃p∈fP S.args vs,fC p=some b:=by
  intro b hb h0
  rcases oI b hb with h'|h'
  ·have:=hm.wB.1 b h0;have:=hm.size;omega
  ·obtain⟨q,hq,hqb⟩:=hA.iob b h' h0
   exact⟨ν q.1,by rw[←hi1];exact fm hq,hqb⟩
 have avc: ∀q∈io,∀e,q.2=AM.lo e→ ∀b,fC (ν q.1)=some b→ ¬c.M0 b:=by
  intro q hq e he b hb
  rcases(hA.Vi q hq).2.2 with⟨τ0,z0,wC,_⟩|⟨e0,z0,wC,RA⟩
  ·rw[he]at wC;cases wC
  ·exact hm.qf q.1 e0 z0 b RA hb
 have key: ∀(Hx:Nat→Option bp) (Mx:Nat→Prop) (U:jr),Mem c Hx w Mx ν→fO w M w Mx→(∀b,M2 b→Mx b)→(∀b∈eA S.args vs,∀i e,Hx i=some e→e.mut→fC (ν i)≠some b)→
   (∀q∈io,Hx q.1=some .gone)→(∀i,i∉keys io→cP H (uo++U) i=Hx i)→(∀u∈uo++U,u.2=some .gone∨ ∃e l,u.2=some (.pq e l)∧H u.1=some (.own e l))→(∀i∈keys (uo++U),i∈keys (uo++uf))→
   RR w' (λb=>M' b∨(Mx b∧b∉eA S.args vs)) S.res y us (fP S.args vs)→
   ∃ν',Tr c H w M ν (cP H (uo++U++(iu S.res y id io).2.1)) w' (λb=>M' b∨(Mx b∧b∉eA S.args vs)) ν'∧
    jN w' (λb=>M' b∨(Mx b∧b∉eA S.args vs)) (cP H (uo++U++(iu S.res y id io).2.1)) ν' (iu S.res y id io).1 us:=by
  intro Hx Mx U Ni hkx Vm qj Of akc LJ hU hrr
  obtain⟨lf,Ka⟩:=Ni.call (λb hb=>Vm b hb.1) (λb hb=>Vm b (hA.hM b hb)) qj hA.Oc ava hL
  have hx: ∀i e,H i=some e→i∉keys io→ ∃e',Hx i=some e'∧e.lP e':=by
   intro i e hi GM
   rw[←akc i GM]
   by_cases hk:i∈keys (uo++U)
   ·obtain⟨u,hu,hui,huv⟩:=Od (H:=H) hk
    rw[huv]
    rcases LJ u hu with h'|⟨e1,l1,h',LH⟩
    ·exact⟨_,h',bp.kg e⟩
    ·rw[hui,hi]at LH;cases LH;exact⟨_,h',rfl,rfl⟩
   ·rw[mE hk];exact⟨e,hi,.refl e⟩
  have hfr: ∀i,id≤i→i<id+S.res.length→Hx i=none:=by
   intro i h3 h4
   have h0:=jx i h3 h4
   have GM:i∉keys io:=λhk=>by
    obtain⟨q,hq,Ft⟩:=cW.1 hk
    obtain⟨_,_,hz⟩:=hA.Vi q hq
    exact hz.some (by rw[Ft];exact h0)
   rw[←akc i GM]
   rw[mE,h0]
   intro hk
   obtain⟨_,e,l,h'⟩:=hA.ksn i (hU i hk)
   rw[h0]at h';cases h'
  obtain⟨ν',r1,r2,r3,r4,r5,r6⟩:=m4 (hs:=eA S.args vs) (sz:=w.heap.size) (id:=id) (used:=[]) lf hrr hi1.symm (by rw[←hok.ios,←TJ]) hA.ion Of hfr
   (λi e b hi hmu hb=> .inl ⟨Ni.Gn b ((Ni.jO i e hi).xe hmu hb),λhh=>qj b hh i e hi hmu hb⟩) (by simpa using wD) oI kF Gp avc
  have akd:cP H (uo++U++(iu S.res y id io).2.1)=cP Hx (iu S.res y id io).2.1:=by
   rw[eY]
   refine GK λi hi=> ?_
   by_cases GM:i∈keys io
   ·obtain⟨q,hq,Ft⟩:=cW.1 GM
    rcases r6 q hq with⟨τ,z,_,hz⟩|⟨e,z,_,hz⟩
    ·rw[Ft,mE hi,←Ft,Of q hq]at hz;cases hz
    ·rw[Ft,mE hi,←Ft,Of q hq]at hz;cases hz
   ·exact akc i GM
  refine⟨ν',⟨by rw[akd];exact r1,hkx.trans Ka,⟨λi e hi=> ?_,λi hi=> ?_⟩⟩,by rw[akd];exact r2⟩
  ·rw[akd]
   by_cases GM:i∈keys io
   ·obtain⟨q,hq,Ft⟩:=cW.1 GM
    obtain⟨_,_,hg0⟩:=hA.Vi q hq
    rcases r6 q hq with⟨τ,z,hq2,hz⟩|⟨e2,z,hq2,hz⟩
    ·rcases hg0 with⟨τ0,z0,wC,RA⟩|⟨e0,z0,wC,RA⟩
     ·rw[hq2]at wC;cases wC
      rw[Ft]at hz RA
      rw[hi]at RA;cases RA
      exact⟨_,hz,rfl⟩
     ·rw[hq2]at wC;cases wC
    ·rcases hg0 with⟨τ0,z0,wC,RA⟩|⟨e0,z0,wC,RA⟩
     ·rw[hq2]at wC;cases wC
     ·rw[hq2]at wC;cases wC
      rw[Ft]at hz RA
      rw[hi]at RA;cases RA
      refine⟨_,hz,rfl,?_⟩
      obtain⟨a1,c1,k1⟩:=ER.len (hm.jO i _ hi)
      obtain⟨a2,c2,k2⟩:=ER.len (r1.jO i _ hz)
      rw[r3 i (by rw[←Ft,Of q hq];simp),k1]at k2
      simp only[Value.slice.injEq]at k2
      exact k2.2.1
   ·obtain⟨e',ub,hl⟩:=hx i e hi GM
    have hr:i<id∨id+S.res.length≤i:=by
     rcases nT i id with h'|h'
     ·exact .inl h'
     ·rcases nT i (id+S.res.length)with LH|LH
      ·rw[jx i h' LH]at hi;cases hi
      ·exact .inr LH
    exact⟨e',by rw[r4 i GM hr];exact ub,hl⟩
  ·refine r3 i ?_
   obtain⟨e,he⟩:=wP.1 hi
   by_cases GM:i∈keys io
   ·obtain⟨q,hq,Ft⟩:=cW.1 GM
    rw[←Ft,Of q hq];simp
   ·obtain⟨e',ub,_⟩:=hx i e he GM
    rw[ub];simp
 cases hq:S.quiet
 ·
  rw[hq]at h1
  have hMn:(λb=>M' b∨(M2 b∧b∉eA S.args vs))=M':=by
   funext b
   exact propext ⟨λh=>h.elim (λh=>h) (hL.sub b),.inl⟩
  obtain⟨ν',gi,hvr⟩:=key H2 M2 uf hA.mem hA.bZ (λ_ h=>h) (λb hb i e hi hmu=>hA.none b hb i e (hA.fz.mut hi hmu) hmu) (λq hq=>(hA.Vi q hq).1) hA.ext
   (λu hu=>(bk.1 hu).elim (λh=> .inl (hA.uov u h)) (λh=> .inr (hA.ufv u h))) (λ_ h=>h) (by rw[hMn];exact Xm)
  exact hR _ _ _ _ _ _ _ h1 gi (X2 hvr)
 ·rw[hq]at h1
  have Vm: ∀b,M2 b→M b:=λb hb=>hA.bZ.less b (hA.mem.Gn b hb) hb
  obtain⟨ν',gi,hvr⟩:=key Hq M [] hA.Ob (.refl w M) Vm hA.none (λq hq=>(hA.Vi q hq).2.1) (by rw[cw];exact hA.XX)
   (λu hu=> .inl (hA.uov u (by simpa using hu))) (λi hi=>by simp only[keys,cw,dn,bk]at hi ⊢;exact .inl hi) (Xm.flat (λb h=> .inl h) (hok.quiet hq))
  exact hR _ _ _ _ _ _ _ h1 gi (X2 hvr)
theorem ab1(hΓ: ∀f S,S∈E.Γ f→jw P f S)(hc:Core c σ a.tmps w M ν){args:Array Operand}{ts:Array TypeId}{g:Operand}(ho:o.op= .call {callee:= .value g,args,argTypes:=ts}){K:gL α}{f:Nat}{caps:List bA}(hg:σ.ρ g= .NL f caps){id:Nat}
  (h:DA E f (args.toList.map σ.ρ ++caps) id σ.H K=some r) (hn:fH c σ a o w M ν K r next):o.wp P a w next Q:=by
 have hgv:=hc.ev g
 rw[hg]at hgv
 simp only[VR]at hgv
 obtain⟨cs,hgv,tU⟩:=hgv
 have Og: ∀{as1:List bA} {vs1:List Value},jN w M σ.H ν as1 vs1→jN w M σ.H ν (as1++caps) (vs1++cs):=by
  intro as1
  induction as1 with
  |nil=>intro vs1 h1;cases vs1 with
   |nil=>exact tU
   |cons _ _=>simp[jN]at h1
  |cons x as1 ih=>intro vs1 h1;cases vs1 with
   |nil=>simp[jN]at h1
   |cons v vs1=>simp only[jN]at h1;simp only[ky,jN];exact⟨h1.1,ih h1.2⟩
 have hd:=Oe (P:=P) hΓ hc.mem (Og (hc.evs args.toList)) h (R:=λv' w'=>next (a.put o.dst v') w') (λv rd ups v' w' M' ν' h1 h2 h3=>hn v rd ups v' w' M' ν' h1 h2 h3)
 have hex:(execOp a.eval o).run P w=(callFunc f (args.toList.map a.eval++cs).toArray).run P w:=by
  have:(args.toList.map a.eval++cs).toArray= #[]++args.map a.eval++cs.toArray:=by apply gZ;simp
  rw[this]
  simp[execOp,ho,resolve,hgv,Deferred.ofValue,invoke]
 unfold Oper.wp
 rw[hex]
 exact hd o a next Q λv w' hv=>hv
structure tp(P:Program)(E:Env):Prop extends EnvTy P E where
 ao6: ∀f S,S∈E.Γ f→jw P f S
 mixed:P.follows .mixedOrders=true
 kW: ∀i L,E.w4 i=some L→VM.kW L=true
 X3: ∀i L,E.yX i=some L→VM.kW L=true
theorem Vn(hE:tp P E)(hc:Core c σ a.tmps w M ν){K:gL α}(h:tf E o σ.ρ σ.H K=some r)(hn:fH c σ a o w M ν K r next):o.wp P a w next Q:=by
 have hT:=hE.toEnvTy
 unfold tf at h
 simp only at h
 split at h
 ·rename_i x ho;exact Tw hc (.inl ho) h hn
 ·rename_i x ho;exact Tw hc (.inr ho) h hn
 ·rename_i x y z ho
  split at h
  ·rename_i t hx;exact abH hc ho hx h hn
  ·cases h
 ·rename_i t ho
  split at h
  ·rename_i τ ht;exact XF hT hc ho ht h hn
  ·cases h
 ·rename_i t x ho
  split at h
  ·rename_i τ ht;exact ajO hT hc ho h hn
  ·cases h
 ·rename_i t ps ho
  split at h
  ·rename_i n e ht;exact LG hT hc ho ht h hn
  ·rename_i τ XP ht
   split at h
   ·rename_i n k hs;exact N6 hT hc ho ht (λn e he=>XP n e he) hs h hn
   ·exact EM hT hc ho ht (λn e he=>XP n e he) h hn
  ·cases h
 ·rename_i t n ps ho
  split at h
  ·rename_i e ht;exact Js hT hc ho ht h hn
  ·cases h
 ·rename_i t x ho
  split at h
  ·rename_i τ ht;exact XH hT hc ho ht h hn
  ·cases h
 ·rename_i t x y ho
  split at h
  ·rename_i τ ht;exact Vb hT hc ho ht h hn
  ·cases h
 ·rename_i x ho
  split at h
  ·rename_i id p hx;exact EJ hc ho hx h hn
  ·rename_i τ z hx;exact Ct hc ho hx h hn
  ·cases h
 ·rename_i b t x y t' ho;exact XJ hT hc ho h hn
 ·rename_i u t x ho;exact abR hc ho h hn
 ·rename_i s d x ho
  split at h
  ·rename_i τ k hs hd;exact RS hT hc ho hs hd h hn
  ·cases h
 ·rename_i f first caps ho;exact N2 hc ho h hn
 ·rename_i t x y ho
  split at h
  ·rename_i e ht;exact LC hT hc ho ht h hn
  ·cases h
 ·rename_i t x lo hi mx ho
  split at h
  ·rename_i τ ht;exact Vg hT hc ho ht h hn
  ·cases h
 ·rename_i t x n ho
  split at h
  ·rename_i τ ht
   split at h
   ·rename_i id p hx;exact Cs hT hc ho ht hx h hn
   ·rename_i υ z hx;exact A5 hT hc ho ht hx h hn
   ·cases h
  ·cases h
 ·rename_i t x n ho
  split at h
  ·rename_i τ ht
   split at h
   ·rename_i υ z hx;exact XI hT hc ho ht hx h hn
   ·cases h
  ·cases h
 ·rename_i t x i ho
  split at h
  ·rename_i τ ht;exact LA hT hc ho ht h hn
  ·cases h
 ·rename_i t x i ho
  split at h
  ·rename_i τ ht;exact XL hT hc ho ht h hn
  ·cases h
 ·rename_i x i ho
  split at h
  ·rename_i vs hx
   split at h
   ·rename_i v hv;exact RP hc ho hx hv h hn
   ·cases h
  ·cases h
 ·rename_i cl ho
  obtain⟨callee,args,ts⟩:=cl
  simp only at h
  split at h
  ·split at h
   ·rename_i x τ ha ht;exact ajY hT hc ho ha ht h hn
   ·cases h
  ·split at h
   ·rename_i x y t t' ha ht
    split at h
    ·rename_i e hte;exact Vh hT hc ho ha ht hte h hn
    ·cases h
   ·cases h
  ·split at h
   ·rename_i x t ha hts
    split at h
    ·rename_i e hte;exact XV hT hc ho ha hts hte h hn
    ·cases h
   ·cases h
  ·split at h
   ·rename_i x xs ha;exact ail hc true ho ha h hn
   ·cases h
  ·split at h
   ·rename_i x xs ha;exact ail hc false ho ha h hn
   ·cases h
  ·rename_i g
   split at h
   ·rename_i f caps hg;exact ab1 hE.ao6 hc ho hg h hn
   ·cases h
  ·cases h
 ·cases h
theorem vk(σ:St)(d:Nat)(v:bA):(σ.put d v).T d=v:=by
 show cond (Nat.beq d d) v (σ.T d)=v
 rw[show Nat.beq d d=true from pJ d];rfl
theorem Bc(σ:St){d i:Nat}(v:bA)(h:i≠d):(σ.put d v).T i=σ.T i:=by
 show cond (Nat.beq i d) v (σ.T i)=σ.T i
 have:Nat.beq i d=false:=by rw[←nN,w1];exact h
 rw[this];rfl
theorem azU(σ:St)(d:Nat)(v:bA):(σ.put d v).H=σ.H:=rfl
theorem GN(σ:St)(d:Nat):σ.put d (σ.T d)=σ:=by
 obtain⟨T,H⟩:=σ
 unfold St.put
 congr 1
 funext i
 by_cases h:i=d
 ·subst h;show cond (Nat.beq i i) (T i) (T i)=T i;cases Nat.beq i i<;>rfl
 ·have:Nat.beq i d=false:=by rw[←nN,w1];exact h
  rw[this];rfl
theorem Core.tr{tm:Array Value}(h:Core c σ tm w M ν){H':Nat→Option bp}{w':World}{M':Nat→Prop}{ν':Nat→Value}(t:Tr c σ.H w M ν H' w' M' ν'):Core c ⟨σ.T,H'⟩ tm w' M' ν':=
 ⟨t.mem,λi=>VR.bZ t.bZ t.goes (h.tmp i)⟩
theorem Core.wv{tm:Array Value}(h:Core c σ tm w M ν){d:Option Nat}{x:bA}{v:Value}{io:List Nat}(hd:NM tm.size io d=true)(hx:VR w M σ.H ν x v)(ds:List Deferred):
  Core c (σ.wv d x) (({tmps:=tm,defers:=ds}:Act).put d v).tmps w M ν:=by
 cases d with
 |none=>exact h
 |some d=>
  have eT:d<tm.size:=by simp only[NM,bM,AK]at hd;exact hd.1
  refine⟨h.mem,λi=> ?_⟩
  show VR w M σ.H ν ((σ.put d x).T i) ((tm.setIfInBounds d v).getD i undef)
  by_cases hi:i=d
  ·subst hi
   rw[vk]
   simp[Array.getD,eT]
   exact hx
  ·rw[Bc _ _ hi]
   have:=h.tmp i
   have he:(tm.setIfInBounds d v).getD i undef=tm.getD i undef:=by
    rw[tb,tb,No (fh hi)]
   rw[he];exact this
def Inv(c:Ctx)(E:Env)(σ:St)(a:Act)(w:World):Prop:=(∃M ν,Core c σ a.tmps w M ν)∧a.tmps.size=E.nt∧a.defers=[]∧ ∀i∈E.io,a.tmps.getD i undef=c.arg i
theorem Oh(a:Act)(d:Option Nat)(v:Value):(a.put d v).tmps.size=a.tmps.size:=by
 cases d<;>simp[Act.put]
theorem put_defers(a:Act)(d:Option Nat)(v:Value):(a.put d v).defers=a.defers:=by
 cases d<;>rfl
theorem TM{d:Option Nat}{v:Value}{io:List Nat}{n:Nat}(hd:NM n io d=true){i:Nat}(hi:i∈io):(a.put d v).tmps.getD i undef=a.tmps.getD i undef:=by
 cases d with
 |none=>rfl
 |some d=>
  simp only[NM,bM,kz]at hd
  have h1:=hd.2 i hi
  have ko:i≠d:=by
   intro e;subst e
   simp at h1
  show(a.tmps.setIfInBounds d v).getD i undef=_
  rw[tb,tb,No (fh ko)]
theorem Inv.bool(h:Inv c E σ a w){x:Operand}{b:Bool}(hx:σ.ρ x= .val .bool b):a.eval x= .bool b:=by
 obtain⟨⟨M,ν,hc⟩,_,_,_⟩:=h
 have:=hc.ev x
 rw[hx]at this
 exact this.bool
theorem DO(hE:tp P E){ops:Array Oper}(hI:Inv c E σ a w){K:St→List Nat→List Nat→Option α}(h:uw E ops.toList o σ K=some r)
  (hn: ∀σ' a' w' rd wr,K σ' rd wr=some r→Inv c E σ' a' w'→next a' w'):
  if Region.wanted o (yielded ops a.tmps)then o.wp P a w next Q else next (a.put o.dst undef) w:=by
 unfold uw at h
 obtain⟨hd,h⟩:=cz h
 have dC:tf E o σ.ρ σ.H (λv rd ups=>K ((σ.w3 ups).wv o.dst v) rd (ups.map (·.1)))=some r→o.wp P a w next Q:=by
  intro h
  obtain⟨⟨M,ν,hc⟩,hs,akf,xt⟩:=hI
  refine Vn hE hc h λv rd ups v' w' M' ν' hK gi hV=> ?_
  refine hn _ _ _ _ _ hK ⟨⟨M',ν',?_⟩,by rw[Oh,hs],by rw[put_defers,akf],λi hi=>(TM hd hi).trans (xt i hi)⟩
  have h1:=hc.tr gi
  have h2:σ.w3 ups=⟨σ.T,cP σ.H ups⟩:=by rw[←RL,←RM ups σ]
  rw[h2]
  exact h1.wv (by rw[hs];exact hd) hV a.defers
 have tq: ∀rd wr,K (σ.wv o.dst .XA) rd wr=some r→next (a.put o.dst undef) w:=by
  intro rd wr h
  obtain⟨⟨M,ν,hc⟩,hs,akf,xt⟩:=hI
  refine hn _ _ _ _ _ h ⟨⟨M,ν,hc.wv (by rw[hs];exact hd) (by simp[VR]) a.defers⟩,by rw[Oh,hs],by rw[put_defers,akf],λi hi=>(TM hd hi).trans (xt i hi)⟩
 simp only at h
 split at h
 ·rename_i hg
  have:Region.wanted o (yielded ops a.tmps)=true:=by simp[Region.wanted,hg]
  rw[aj this]
  exact dC h
 ·rename_i j want hg
  split at h
  ·cases h
  ·rename_i t ht
   have ht':(ops[j]?).bind (·.dst)=some t:=by rw[←iA];exact ht
   have hy: ∀b,σ.T t= .val .bool b→yielded ops a.tmps j=some b:=by
    intro b hb
    obtain⟨⟨M,ν,hc⟩,hs,_,_⟩:=hI
    have h1:=hc.tmp t
    rw[hb]at h1
    have h1:=h1.bool
    have h2:a.tmps[t]? =some (.bool b):=by
     rw[tb]at h1
     cases h3:a.tmps[t]? with
     |none=>rw[h3]at h1;simp[undef]at h1
     |some v=>rw[h3]at h1;simpa using h1
    simp[yielded,ht',h2]
   split at h
   ·rename_i b hb
    have qC:σ.put t (.val .bool b)=σ:=by rw[←hb];exact GN σ t
    have hw:=hy b hb
    cases want<;>cases b
    ·rw[aj (by simp[Region.wanted,hg,hw])]
     rw[qC]at h;exact dC h
    ·rw[ah (by simp[Region.wanted,hg,hw])]
     rw[qC]at h;exact tq _ _ h
    ·rw[ah (by simp[Region.wanted,hg,hw])]
     rw[qC]at h;exact tq _ _ h
    ·rw[aj (by simp[Region.wanted,hg,hw])]
     rw[qC]at h;exact dC h
   ·rename_i hb
    have AZ: ¬Region.wanted o (yielded ops a.tmps)=true:=by
     obtain⟨⟨M,ν,hc⟩,hs,_,_⟩:=hI
     have h1:=hc.tmp t
     rw[hb]at h1
     simp only[VR]at h1
     have h2: ∀b,a.tmps[t]? ≠some (.bool b):=by
      intro b fa
      rw[tb,fa]at h1
      simp[undef]at h1
     have h3:yielded ops a.tmps j=none:=by
      unfold yielded
      rw[ht']
      show(match a.tmps[t]? with|some (.bool b)=>some b|_=>none)=none
      split
      ·rename_i b fa;exact absurd fa (h2 b)
      ·rfl
     simp[Region.wanted,hg,h3]
    rw[ah AZ]
    exact tq _ _ h
   ·cases h
theorem GO(hE:tp P E){ops:Array Oper}: ∀(l:List Oper) (i:Nat) (σ:St) (lg:Log) (a:Act) (w:World) (K:St→Log→Option α),Inv c E σ a w→U1 E ops.toList l i σ lg K=some r→
  (∀σ' lg' a' w',K σ' lg'=some r→Inv c E σ' a' w'→Q .normal a' w')→wpList P ops Q l a w
 |[],i,σ,lg,a,w,K,hI,h,hn=>hn _ _ _ _ h hI
 |o::l,i,σ,lg,a,w,K,hI,h,hn=>by
  unfold U1 at h
  refine wpList_step λK' hK'=> ?_
  exact DO hE hI h fun σ' a' w' rd wr h' zj=>hK' _ _ (GO hE l (i+1) σ' _ a' w' K zj h' hn)
theorem Oi(hI:Inv c E σ a w){x:Operand}{A B:St→Option α}(h:J2 E x σ A B=some r): ∃b,a.eval x= .bool b∧(if b then A σ else B σ)=some r:=by
 unfold J2 at h
 split at h
 ·rename_i b hb
  refine⟨b,hI.bool hb,?_⟩
  split at h
  ·rename_i t
   have hb:σ.T t= .val .bool b:=hb
   have qC:σ.put t (.val .bool b)=σ:=by rw[←hb];exact GN σ t
   cases b
   ·rw[qC]at h;exact h
   ·rw[qC]at h;exact h
  ·cases b<;>exact h
 ·cases h
def mix{β:Type}(A B:Nat→β):Nat→β:=λi=>if i%2=0 then A (i/2)else B (i/2)
theorem jb{β:Type}(A B:Nat→β)(i:Nat):mix A B (2*i)=A i:=by
 unfold mix
 rw[aj ω,show 2*i/2=i from by omega]
theorem wi{β:Type}(A B:Nat→β)(i:Nat):mix A B (2*i+1)=B i:=by
 unfold mix
 rw[ah ω,show(2*i+1)/2=i from by omega]
theorem anY{β:Type}{A B A' B':Nat→β}(hl: ∀i,A i=A' i)(hr: ∀i,B i=B' i):mix A B=mix A' B':=by
 funext i;unfold mix;rw[hl,hr]
def bp.re(f:Nat→Nat):bp→bp
 | .gg τ x p j=> .gg τ x p (f j)
 |e=>e
theorem ER.re{v:Value}{f:Nat→Nat}{e:bp}:ER w M v (e.re f)↔ER w M v e:=by cases e<;>simp[bp.re,ER]
theorem bp.sb{f:Nat→Nat}{e:bp}:(e.re f).mut↔e.mut:=by cases e<;>simp[bp.re,bp.mut]
theorem bp.TN{f g:Nat→Nat}{e e':bp}:(e.re f).lP (e'.re g)↔e.lP e':=by cases e<;>cases e'<;>simp[bp.re,bp.lP]
def ml(i:Nat):Nat:=2*i
def mr(i:Nat):Nat:=2*i+1
def jP(A B:Nat→Option bp):Nat→Option bp:=λi=>if i%2=0 then(A (i/2)).map (bp.re ml)else(B (i/2)).map (bp.re mr)
theorem zF(A B:Nat→Option bp)(i:Nat):jP A B (2*i)=(A i).map (bp.re ml):=by
 unfold jP
 rw[aj ω,show 2*i/2=i from by omega]
theorem vl(A B:Nat→Option bp)(i:Nat):jP A B (2*i+1)=(B i).map (bp.re mr):=by
 unfold jP
 rw[ah ω,show(2*i+1)/2=i from by omega]
theorem jh{A B:Nat→Option bp}{i:Nat}{e:bp}(h:A i=some e):jP A B (2*i)=some (e.re ml):=by rw[zF,h];rfl
theorem vm{A B:Nat→Option bp}{i:Nat}{e:bp}(h:B i=some e):jP A B (2*i+1)=some (e.re mr):=by rw[vl,h];rfl
theorem LK{A B:Nat→Option bp}{i:Nat}:jP A B (2*i)≠none↔A i≠none:=by rw[zF];cases A i<;>simp
theorem LM{A B:Nat→Option bp}{i:Nat}:jP A B (2*i+1)≠none↔B i≠none:=by rw[vl];cases B i<;>simp
theorem sd(A B:Nat→Option bp)(i:Nat)(v:Option bp):ca (jP A B) (2*i) (v.map (bp.re ml))=jP (ca A i v) B:=by
 funext k
 by_cases hk:k=2*i
 ·subst hk;rw[ay,zF,ay]
 ·rw[az _ _ hk]
  unfold jP
  by_cases h2:k%2=0
  ·rw[aj h2,aj h2,az _ _ ω]
  ·rw[ah h2,ah h2]
theorem GP(A B:Nat→Option bp)(i:Nat)(v:Option bp):ca (jP A B) (2*i+1) (v.map (bp.re mr))=jP A (ca B i v):=by
 funext k
 by_cases hk:k=2*i+1
 ·subst hk;rw[ay,vl,ay]
 ·rw[az _ _ hk]
  unfold jP
  by_cases h2:k%2=0
  ·rw[aj h2,aj h2]
  ·rw[ah h2,ah h2,az _ _ ω]
theorem updν_mix_r(A B:Nat→Value)(i:Nat)(v:Value):updν (mix A B) (2*i+1) v=mix A (updν B i v):=by
 funext k
 unfold updν mix
 by_cases hk:k=2*i+1
 ·subst hk;rw[aj rfl,ah ω]
  show v=if(2*i+1)/2=i then v else B ((2*i+1)/2)
  rw[aj ω]
 ·rw[ah hk]
  by_cases h2:k%2=0
  ·rw[aj h2,aj h2]
  ·rw[ah h2,ah h2]
   show B (k/2)=if k/2=i then v else B (k/2)
   rw[ah ω]
theorem Mem.left{H A:Nat→Option bp}{νA:Nat→Value}(h:Mem c (jP H A) w M (mix ν νA)):Mem c H w M ν:=
 ⟨λi e hi=>by have:=h.jO (2*i) _ (jh hi);rw[jb]at this;exact ER.re.1 this,
  λi j e e' b qh hi hm hj jv=>by have:=h.AT (2*i) (2*j) _ _ b ω (jh hi) (bp.sb.2 hm) (jh hj) (bp.sb.2 jv);rwa [jb,jb]at this,
  λi e b hi hm=>by have:=h.new (2*i) _ b (jh hi) (bp.sb.2 hm);rwa [jb]at this,
  λi e l b hi=>by have:=h.qf (2*i) e l b (jh hi);rwa [jb]at this,
  λi τ x p j hi=>by
   obtain⟨h1,b,h2,h3⟩:=h.gg (2*i) τ x p (ml j) (jh hi)
   rw[jb]at h2
   unfold ml at h1 h3
   rw[jb]at h3
   exact⟨LK.1 h1,b,h2,h3⟩,
  h.sub,h.Gn,h.frame,h.size,h.wB,h.os,h.tape,h.output⟩
theorem Mem.right{H A:Nat→Option bp}{νA:Nat→Value}(h:Mem c (jP H A) w M (mix ν νA)):Mem c A w M νA:=
 ⟨λi e hi=>by have:=h.jO (2*i+1) _ (vm hi);rw[wi]at this;exact ER.re.1 this,
  λi j e e' b qh hi hm hj jv=>by have:=h.AT (2*i+1) (2*j+1) _ _ b ω (vm hi) (bp.sb.2 hm) (vm hj) (bp.sb.2 jv);rwa [wi,wi]at this,
  λi e b hi hm=>by have:=h.new (2*i+1) _ b (vm hi) (bp.sb.2 hm);rwa [wi]at this,
  λi e l b hi=>by have:=h.qf (2*i+1) e l b (vm hi);rwa [wi]at this,
  λi τ x p j hi=>by
   obtain⟨h1,b,h2,h3⟩:=h.gg (2*i+1) τ x p (mr j) (vm hi)
   rw[wi]at h2
   unfold mr at h1 h3
   rw[wi]at h3
   exact⟨LM.1 h1,b,h2,h3⟩,
  h.sub,h.Gn,h.frame,h.size,h.wB,h.os,h.tape,h.output⟩
theorem Mem.ab2{H:Nat→Option bp}(νA:Nat→Value)(h:Mem c H w M ν):Mem c (jP H (λ_=>none)) w M (mix ν νA):=by
 have key: ∀i e,jP H (λ_=>none) i=some e→ ∃j e0,i=2*j∧H j=some e0∧e=e0.re ml:=by
  intro i e hi
  unfold jP at hi
  by_cases h2:i%2=0
  ·rw[aj h2]at hi
   obtain⟨e0,h3,h4⟩:=Ap.1 hi
   exact⟨i/2,e0,ω,h3,h4.symm⟩
  ·rw[ah h2]at hi;cases hi
 refine⟨λi e hi=> ?_,λi j e e' b qh hi hm hj jv=> ?_,λi e b hi hm=> ?_,λi e l b hi=> ?_,λi τ x p j hi=> ?_,h.sub,h.Gn,h.frame,h.size,h.wB,h.os,h.tape,h.output⟩
 ·obtain⟨j,e0,rfl,hj,rfl⟩:=key i e hi;rw[jb];exact ER.re.2 (h.jO j e0 hj)
 ·obtain⟨i',e1,rfl,nV,rfl⟩:=key i e hi;obtain⟨j',e2,rfl,Xn,rfl⟩:=key j e' hj
  rw[jb,jb];exact h.AT i' j' e1 e2 b ω nV (bp.sb.1 hm) Xn (bp.sb.1 jv)
 ·obtain⟨j,e0,rfl,hj,rfl⟩:=key i e hi;rw[jb];exact h.new j e0 b hj (bp.sb.1 hm)
 ·obtain⟨j,e0,rfl,hj,he⟩:=key i _ hi
  cases e0<;>simp only[bp.re]at he<;>cases he
  rw[jb];exact h.qf j e l b hj
 ·obtain⟨k,e0,rfl,hk,he⟩:=key i _ hi
  cases e0<;>simp only[bp.re]at he<;>cases he
  obtain⟨h1,b,h2,h3⟩:=h.gg k _ _ _ _ hk
  refine⟨LK.2 h1,b,by rw[jb];exact h2,?_⟩
  unfold ml
  rw[jb];exact h3
theorem tS.left{H A H' A':Nat→Option bp}{νA ν' νA':Nat→Value}(g:tS (jP H A) (mix ν νA) (jP H' A') (mix ν' νA')):tS H ν H' ν':=
 ⟨λi e hi=>by
   obtain⟨e',h1,h2⟩:=g.jO (2*i) _ (jh hi)
   rw[zF]at h1
   obtain⟨e0,h3,rfl⟩:=Ap.1 h1
   exact⟨e0,h3,bp.TN.1 h2⟩,
  λi hi=>by have:=g.head (2*i) (LK.2 hi);rwa [jb,jb]at this⟩
theorem tS.right{H A H' A':Nat→Option bp}{νA ν' νA':Nat→Value}(g:tS (jP H A) (mix ν νA) (jP H' A') (mix ν' νA')):tS A νA A' νA':=
 ⟨λi e hi=>by
   obtain⟨e',h1,h2⟩:=g.jO (2*i+1) _ (vm hi)
   rw[vl]at h1
   obtain⟨e0,h3,rfl⟩:=Ap.1 h1
   exact⟨e0,h3,bp.TN.1 h2⟩,
  λi hi=>by have:=g.head (2*i+1) (LM.2 hi);rwa [wi,wi]at this⟩
theorem Mem.move{H A:Nat→Option bp}{νA:Nat→Value}(h:Mem c (jP H A) w M (mix ν νA)){i j:Nat}{e e1:bp}(hi:H i=some e)(hm:e.mut)(hj:A j=none)
  (Gy:(e1=e∧ ∀τ x p k,e≠ .gg τ x p k)∨ ∃τ x p k k',e= .gg τ x p k∧e1= .gg τ x p k'∧A k'≠none∧νA k'=ν k):
  Tr c (jP H A) w M (mix ν νA) (jP (ca H i (some .gone)) (ca A j (some e1))) w M (mix ν (updν νA j (ν i))):=by
 have hg:=Tr.gone h (2*i)
 have hgo:(some bp.gone)=(some bp.gone).map (bp.re ml):=rfl
 rw[hgo,sd]at hg
 have TJ:=jh (B:=A) hi
 have hER:ER w M (ν i) (e1.re mr):=by
  have h1:=h.jO (2*i) _ TJ
  rw[jb]at h1
  have h1:=ER.re.1 h1
  rcases Gy with⟨rfl,_⟩|⟨τ,x,p,k,k',rfl,rfl,_,_⟩
  ·exact ER.re.2 h1
  ·exact h1
 have h2:=Mem.xr hg.mem (id:=2*j+1) (v:=ν i) (e:=e1.re mr) (λe' ub=>by rw[vl,hj]at ub;cases ub)
  hER
  (λb hb k e' hk jv=>by
   by_cases Vj:k=2*i
   ·subst Vj;rw[zF,ay]at hk;cases hk;simp[bp.re,bp.mut]at jv
   ·have hk3:jP H A k=some e':=by
     have:=congrFun (sd H A i (some .gone)) k
     rw[az _ _ Vj]at this
     rw[this];exact hk
    have:=h.AT (2*i) k _ e' b (fh Vj) TJ (bp.sb.2 hm) hk3 jv
    rw[jb]at this
    exact this hb)
  (λb hb=>by have:=h.new (2*i) _ b TJ (bp.sb.2 hm);rw[jb]at this;exact this hb)
  (λb e0 l0 he hb=>by
   rcases Gy with⟨rfl,_⟩|⟨τ,x,p,k,k',rfl,rfl,_,_⟩
   ·cases e1<;>simp only[bp.re]at he<;>cases he
    have:=h.qf (2*i) e0 l0 b TJ;rw[jb]at this;exact this hb
   ·simp[bp.re]at he)
  (.inl (by rw[vl,hj];rfl))
  (fun τ x p k he=>by
   rcases Gy with⟨rfl,hn⟩|⟨τ,x,p,k,k',rfl,rfl,hk,hνk⟩
   ·cases e1<;>simp only[bp.re]at he<;>cases he
    exact absurd rfl (hn _ _ _ _)
   ·simp only[bp.re]at he
    cases he
    obtain⟨_,b,h4,h5⟩:=h.gg (2*i) _ _ _ _ TJ
    rw[jb]at h4
    have hkj:k'≠j:=λe=>hk (e▸hj)
    refine⟨?_,b,h4,?_⟩
    ·rw[az _ _ (by unfold mr;omega)]
     unfold mr
     exact LM.2 hk
    ·unfold ml at h5
     rw[jb]at h5
     rw[h5,←hνk]
     have:updν (mix ν νA) (2*j+1) (ν i) (mr k')=mix ν νA (mr k'):=by
      unfold updν mr;rw[ah ω]
     rw[this];unfold mr;rw[wi])
 have Ya:some (e1.re mr)=(some e1).map (bp.re mr):=rfl
 rw[Ya,GP,updν_mix_r]at h2
 refine⟨h2,.refl w M,⟨λk e' hk=> ?_,λk hk=> ?_⟩⟩
 ·by_cases h3:k%2=0
  ·obtain⟨k',rfl⟩: ∃k',k=2*k':=⟨k/2,ω⟩
   by_cases GM:k'=i
   ·subst GM;exact⟨.gone,by rw[zF,ay];rfl,bp.kg _⟩
   ·exact⟨e',by rw[zF]at hk ⊢;rw[az _ _ GM];exact hk,.refl e'⟩
  ·obtain⟨k',rfl⟩: ∃k',k=2*k'+1:=⟨k/2,ω⟩
   rw[vl]at hk ⊢
   have GM:k'≠j:=λe=>by rw[e,hj]at hk;cases hk
   exact⟨e',by rw[az _ _ GM];exact hk,.refl e'⟩
 ·by_cases h3:k%2=0
  ·obtain⟨k',rfl⟩: ∃k',k=2*k':=⟨k/2,ω⟩
   rw[jb,jb]
  ·obtain⟨k',rfl⟩: ∃k',k=2*k'+1:=⟨k/2,ω⟩
   rw[wi,wi]
   have GM:k'≠j:=λe=>by rw[vl,e,hj]at hk;exact hk rfl
   simp[updν,GM]
theorem Mem.fresh{H A:Nat→Option bp}{νA:Nat→Value}(h:Mem c (jP H A) w M (mix ν νA)){j:Nat}(hj:A j=none)(e:Ty)(ad:Option Addr):
  Tr c (jP H A) w M (mix ν νA) (jP H (ca A j (some (.own e [])))) w M (mix ν (updν νA j (.slice ad 0 0))):=by
 have:=Tr.nothing h (id:=2*j+1) (by rw[vl,hj];rfl) e ad
 have Ya:some (bp.own e [])=(some (bp.own e [])).map (bp.re mr):=rfl
 rw[Ya,GP,updν_mix_r]at this
 exact this
structure Cut(c:Ctx)(σ acc:St)(tm:Array Value)(w:World)(M:Nat→Prop)(ν νA:Nat→Value):Prop where
 mem:Mem c (jP σ.H acc.H) w M (mix ν νA)
 src: ∀i,VR w M σ.H ν (σ.T i) (tm.getD i undef)
 dst: ∀i,VR w M acc.H νA (acc.T i) (tm.getD i undef)
theorem Cut.tr{acc:St}{tm:Array Value}{νA:Nat→Value}(h:Cut c σ acc tm w M ν νA){H' A':Nat→Option bp}{M':Nat→Prop}{νA':Nat→Value}(t:Tr c (jP σ.H acc.H) w M (mix ν νA) (jP H' A') w M' (mix ν νA')){s:Nat}{x:bA}(hx:VR w M' A' νA' x (tm.getD s undef)):
  Cut c ⟨σ.T,H'⟩ ⟨(acc.put s x).T,A'⟩ tm w M' ν νA':=by
 refine⟨t.mem,λi=>VR.bZ t.bZ t.goes.left (h.src i),λi=> ?_⟩
 show VR w M' A' νA' ((acc.put s x).T i) _
 by_cases hi:i=s
 ·subst hi;rw[vk];exact hx
 ·rw[Bc _ _ hi];exact VR.bZ t.bZ t.goes.right (h.dst i)
def Yb(A:Nat→Option bp)(s:Nat):Prop:=A (16*s+13)=none∧A (16*s+14)=none∧A (16*s+15)=none
theorem m5{q:Nat×CM}{L:List (Nat×CM)}{A:Nat→Option bp}(hF:kW (q::L)=true)(hN: ∀p∈q::L,Yb A p.1):
  kW L=true∧(∀p∈L,Yb A p.1)∧
   ∀(A':Nat→Option bp) (d:Nat) (v:Option bp),(d=16*q.1+13∨d=16*q.1+14∨d=16*q.1+15)→(∀p∈L,Yb A' p.1)→ ∀p∈L,Yb (ca A' d v) p.1:=by
 unfold kW at hF
 rw[bM,kz]at hF
 refine⟨hF.2,λp hp=>hN p (aZ _ hp),λA' d v hd hN' p hp=> ?_⟩
 have ko:p.1≠q.1:=λe=>by
  have:=hF.1 p hp
  rw[e]at this
  simp at this
 obtain⟨h1,h2,h3⟩:=hN' p hp
 exact⟨by rw[az _ _ ω];exact h1,by rw[az _ _ ω];exact h2,by rw[az _ _ ω];exact h3⟩
theorem fJ{tm:Array Value}: ∀(L:List (Nat×CM)) (σ acc:St) (M:Nat→Prop) (νA:Nat→Value) (K:St→Option α),Cut c σ acc tm w M ν νA→kW L=true→(∀q∈L,Yb acc.H q.1)→iO L σ acc K=some r→
  ∃ab3 M' νA',K ab3=some r∧Core c ab3 tm w M' νA'
 |[],σ,acc,M,νA,K,hC,_,_,h=>⟨acc,M,νA,h,hC.mem.right,hC.dst⟩
 |(s,.v τ)::L,σ,acc,M,νA,K,hC,hF,hN,h=>by
  obtain⟨RE,RF,Vo⟩:=m5 hF hN
  unfold iO at h
  obtain⟨y,rd,ups,h,hy⟩:=Fs hC.mem.left (hC.src s) h
  rcases hy with⟨rfl,hV⟩|⟨id,e,l,rfl,bg,hV⟩
  ·exact fJ L σ _ M νA K (hC.tr (.refl hC.mem) (x:= .val τ y) (by simp only[VR];exact hV)) RE RF h
  ·obtain⟨M2,gi,_,Ly⟩:=Tr.freeze hC.mem (id:=2*id) (jh bg)
   have Ya:some (bp.pq e l)=(some (bp.pq e l)).map (bp.re ml):=rfl
   rw[Ya,sd]at gi
   refine fJ L _ _ M2 νA K (hC.tr gi (x:= .val τ y) ?_) RE RF h
   simp only[VR]
   exact hV M2 (λb=>by rw[Ly b,jb])
 |(s,.own e)::L,σ,acc,M,νA,K,hC,hF,hN,h=>by
  obtain⟨RE,RF,Vo⟩:=m5 hF hN
  unfold iO at h
  have hs:=hC.src s
  split at h
  ·rename_i hT
   have hj:=(hN _ bs).2.1
   rw[hT]at hs
   obtain⟨ad,hv⟩:=VR.emp.1 hs
   refine fJ L σ _ M _ K (hC.tr (hC.mem.fresh hj e ad) (x:= .ref (16*s+14)) ?_) RE (Vo _ _ _ (.inr (.inl rfl)) RF) h
   simp only[VR]
   exact⟨by rw[ay];simp,by rw[hv];simp[updν]⟩
  ·rename_i id hT
   rw[hT]at hs
   simp only[VR]at hs
   split at h
   ·rename_i e' l bg
    obtain⟨e1,h⟩:=bw h
    cases e1
    have hj:=(hN _ bs).2.1
    refine fJ L _ _ M _ K (hC.tr (hC.mem.move bg trivial hj (.inl ⟨rfl,λ_ _ _ _=>by simp⟩)) (x:= .ref (16*s+14)) ?_) RE (Vo _ _ _ (.inr (.inl rfl)) RF) h
    simp only[VR]
    exact⟨by rw[ay];simp,by rw[hs.2];simp[updν]⟩
   ·cases h
  ·cases h
 |(s,.obj τ)::L,σ,acc,M,νA,K,hC,hF,hN,h=>by
  obtain⟨RE,RF,Vo⟩:=m5 hF hN
  unfold iO at h
  have hs:=hC.src s
  split at h
  ·rename_i id hT
   rw[hT]at hs
   split at h
   ·rename_i υ x bg
    obtain⟨e1,h⟩:=bw h
    subst e1
    have hj:=(hN _ bs).2.1
    simp only[VR]at hs
    obtain⟨e,he,lR⟩:=hs
    rw[bg]at he;cases he
    simp only[AR]at lR
    obtain⟨_,b,hb,hv⟩:=lR
    refine fJ L _ _ M _ K (hC.tr (hC.mem.move bg trivial hj (.inl ⟨rfl,λ_ _ _ _=>by simp⟩)) (x:= .jd (16*s+14) []) ?_) RE (Vo _ _ _ (.inr (.inl rfl)) RF) h
    simp only[VR]
    exact⟨_,ay _ _ _,trivial,b,by simp[updν,hb],hv⟩
   ·
    rename_i υ x q k bg
    obtain⟨z,ups,M2,hK,gi,ao7,b,cs,t,hb,hg,Ly,kB⟩: ∃z ups M2,cJ υ τ z (λy=>iO L ((σ.w3 ups).kk id (some .gone)) ((acc.put s (.jd (16*s+14) [])).kk (16*s+14) (some (.obj τ y))) K)=some r∧
      Tr c (jP σ.H acc.H) w M (mix ν νA) (jP (cP σ.H ups) acc.H) w M2 (mix ν νA)∧cP σ.H ups id=some (.gg υ x q k)∧ ∃b cs t,ν id= .pointer (some ⟨b,0,none⟩)∧w.heap[b]? =some (.cells cs t (0,0))∧M2 b∧Rd w M2 υ cs.toList z:=by
     have ao8:=jh (B:=acc.H) bg
     unfold Ck at h
     split at h
     ·rename_i e l hk
      have ko:id≠k:=λe=>by rw[e,hk]at bg;cases bg
      obtain⟨z,ups,M2,hK,gi,_,hc2,b,cs,t,hb,hg,Ly,kB⟩:=vh (H:=jP σ.H acc.H) hC.mem (id:=2*id) (j:=2*k) (x:=x) (q:=q)
       (k:=λz _=>cJ υ τ z λy=>iO L ((σ.w3 [(k,some (.pq e l))]).kk id (some .gone)) ((acc.put s (.jd (16*s+14) [])).kk (16*s+14) (some (.obj τ y))) K) ao8 (by
        unfold Ck
        rw[jh hk]
        exact h)
      rw[jb]at hb
      rcases hc2 with⟨e2,l2,h2,_⟩|⟨e2,l2,h2,rfl⟩
      ·rw[jh hk]at h2;simp[bp.re]at h2
      ·rw[jh hk]at h2
       simp only[bp.re,iB]at h2
       have Ya:some (bp.pq e l)=(some (bp.pq e l)).map (bp.re ml):=rfl
       have xj:Tr c (jP σ.H acc.H) w M (mix ν νA) (ca (jP σ.H acc.H) (2*k) (some (.pq e l))) w M2 (mix ν νA):=by
        cases h2;exact gi
       rw[Ya,sd]at xj
       exact⟨z,_,M2,hK,xj,by show ca σ.H k _ id=_;rw[az _ _ ko];exact bg,b,cs,t,hb,hg,Ly,kB⟩
     ·rename_i e l hk
      obtain⟨z,ups,M2,hK,gi,_,hc2,b,cs,t,hb,hg,Ly,kB⟩:=vh (H:=jP σ.H acc.H) hC.mem (id:=2*id) (j:=2*k) (x:=x) (q:=q)
       (k:=λz _=>cJ υ τ z λy=>iO L ((σ.w3 []).kk id (some .gone)) ((acc.put s (.jd (16*s+14) [])).kk (16*s+14) (some (.obj τ y))) K) ao8 (by
        unfold Ck
        rw[jh hk]
        exact h)
      rw[jb]at hb
      rcases hc2 with⟨e2,l2,h2,rfl⟩|⟨e2,l2,h2,_⟩
      ·exact⟨z,[],M2,hK,gi,bg,b,cs,t,hb,hg,Ly,kB⟩
      ·rw[jh hk]at h2;simp[bp.re]at h2
     ·cases h
    obtain⟨e1,hK⟩:=bw hK
    subst e1
    have hC2:Cut c ⟨σ.T,cP σ.H ups⟩ acc tm w M2 ν νA:=⟨gi.mem,λi=>VR.bZ gi.bZ gi.goes.left (hC.src i),λi=>VR.bZ gi.bZ gi.goes.right (hC.dst i)⟩
    have wL:=Tr.Jm (e':= .obj υ z) gi.mem (jh ao7) trivial trivial rfl (λ_ _=>by simp) (by rw[jb];simp only[ER];exact⟨b,cs,t,hb,hg,Ly,kB⟩) (λ_ _ _ _ h=>by cases h)
    have Ya:some (bp.obj υ z)=(some (bp.obj υ z)).map (bp.re ml):=rfl
    rw[Ya,sd]at wL
    have hC3:Cut c ⟨σ.T,ca (cP σ.H ups) id (some (.obj υ z))⟩ acc tm w M2 ν νA:=⟨wL.mem,λi=>VR.bZ wL.bZ wL.goes.left (hC2.src i),λi=>VR.bZ wL.bZ wL.goes.right (hC2.dst i)⟩
    have hj:=(hN _ bs).2.1
    simp only[VR]at hs
    obtain⟨e,he,lR⟩:=hs
    rw[bg]at he;cases he
    simp only[AR]at lR
    obtain⟨_,b',fa,hv⟩:=lR
    rw[hb]at fa;cases fa
    have hmv:=hC3.mem.move (ay _ _ _) trivial hj (.inl ⟨rfl,λ_ _ _ _=>by simp⟩)
    rw[zz]at hmv
    have xh:(σ.w3 ups).kk id (some .gone)=⟨σ.T,ca (cP σ.H ups) id (some .gone)⟩:=by
     have h2:σ.w3 ups=⟨σ.T,cP σ.H ups⟩:=by rw[←RL,←RM ups σ]
     rw[h2];rfl
    rw[xh]at hK
    refine fJ L _ _ M2 _ K (hC3.tr hmv (x:= .jd (16*s+14) []) ?_) RE (Vo _ _ _ (.inr (.inl rfl)) RF) hK
    simp only[VR]
    exact⟨_,ay _ _ _,trivial,b,by simp[updν,hb],hv⟩
   ·cases h
  ·cases h
 |(s,.gg τ q e)::L,σ,acc,M,νA,K,hC,hF,hN,h=>by
  obtain⟨RE,RF,Vo⟩:=m5 hF hN
  unfold iO at h
  have hs:=hC.src s
  split at h
  ·rename_i id hT
   rw[hT]at hs
   split at h
   ·rename_i υ x q' k bg
    obtain⟨hpq,h1⟩:=cz h
    clear h
    have:=zy hpq
    subst this
    split at h1
    ·rename_i e' l hk
     obtain⟨e1,h2⟩:=bw h1
     clear h1
     subst e1
     obtain⟨e2,h⟩:=bw h2
     cases e2
     have ko:id≠k:=λe=>by rw[e,hk]at bg;cases bg
     obtain⟨avd,ave,_⟩:=hN _ bs
     simp only[VR]at hs
     obtain⟨e,he,lR⟩:=hs
     rw[bg]at he;cases he
     simp only[AR]at lR
     obtain⟨_,b,hb,hv⟩:=lR
     have tT:=hC.mem.move hk trivial avd (.inl ⟨rfl,λ_ _ _ _=>by simp⟩)
     have qi:ca σ.H k (some .gone) id=some (.gg υ x q k):=by rw[az _ _ ko];exact bg
     have yw:=tT.mem.move qi trivial (j:=16*s+14) (e1:= .gg υ x q (16*s+13)) (by rw[az _ _ ω];exact ave)
      (.inr ⟨υ,x,q,k,16*s+13,rfl,rfl,by rw[ay];simp,by simp[updν]⟩)
     refine fJ L _ _ M _ K (hC.tr (tT.trans yw) (s:=s) (x:= .jd (16*s+14) []) ?_) RE (Vo _ _ _ (.inr (.inl rfl)) (Vo _ _ _ (.inl rfl) RF)) h
     simp only[VR]
     exact⟨_,ay _ _ _,trivial,b,by simp[updν,hb],hv⟩
    ·cases h1
   ·cases h
  ·cases h
 |(s,.same s')::L,σ,acc,M,νA,K,hC,hF,hN,h=>by
  obtain⟨RE,RF,Vo⟩:=m5 hF hN
  unfold iO at h
  split at h
  ·rename_i i j j' h1 h2 h3
   obtain⟨hb,h⟩:=cz h
   have hb:=fF hb
   have e1:=hC.src s
   have e2:=hC.src s'
   have e3:=hC.dst s'
   rw[h1]at e1;rw[h2]at e2;rw[h3]at e3
   simp only[VR]at e1 e2 e3
   refine fJ L σ _ M νA K (hC.tr (.refl hC.mem) (x:= .ref j') ?_) RE RF h
   simp only[VR]
   exact⟨e3.1,by rw[e1.2,hb,←e2.2,e3.2]⟩
  ·cases h
 |(s,.io τ)::L,σ,acc,M,νA,K,hC,hF,hN,h=>by
  obtain⟨RE,RF,Vo⟩:=m5 hF hN
  unfold iO at h
  have hs:=hC.src s
  split at h
  ·rename_i id hT
   rw[hT]at hs
   obtain⟨_,h⟩:=cz h
   split at h
   ·rename_i υ x bg
    obtain⟨e1,h⟩:=bw h
    subst e1
    have hj:=(hN _ bs).2.2
    simp only[VR]at hs
    obtain⟨e,he,lR⟩:=hs
    rw[bg]at he;cases he
    simp only[AR]at lR
    obtain⟨_,b,hb,hv⟩:=lR
    refine fJ L _ _ M _ K (hC.tr (hC.mem.move bg trivial hj (.inl ⟨rfl,λ_ _ _ _=>by simp⟩)) (x:= .jd (16*s+15) []) ?_) RE (Vo _ _ _ (.inr (.inr rfl)) RF) h
    simp only[VR]
    exact⟨_,ay _ _ _,trivial,b,by simp[updν,hb],hv⟩
   ·cases h
  ·cases h
 |(s,.fn f τ)::L,σ,acc,M,νA,K,hC,hF,hN,h=>by
  obtain⟨RE,RF,Vo⟩:=m5 hF hN
  unfold iO at h
  have hs:=hC.src s
  split at h
  ·rename_i f' cs hT
   rw[hT]at hs
   obtain⟨hb,h1⟩:=cz h
   clear h
   have hb:=fF hb
   subst hb
   simp only[VR]at hs
   obtain⟨us,hv,hvs⟩:=hs
   obtain⟨y,rd,ups,h,hy⟩:=GH hC.mem.left hvs h1
   split at h
   ·refine fJ L σ _ M νA K (hC.tr (.refl hC.mem) (x:= .NL f (qz τ y)) ?_) RE RF h
    simp only[VR]
    exact⟨us,hv,jN.free (hy rfl)⟩
   ·cases h
  ·cases h
theorem zG(hI:Inv c E σ a w){L:Option (List (Nat×CM))}(hL: ∀L',L=some L'→kW L'=true){K:St→Option α}(h:xb L σ K=some r): ∃σ',K σ'=some r∧Inv c E σ' a w:=by
 unfold xb at h
 split at h
 ·exact⟨σ,h,hI⟩
 ·have hfr:=hL _ rfl
  obtain⟨⟨M,ν,hc⟩,hs,hd⟩:=hI
  obtain⟨ab3,M',νA',hK,ao9⟩:=fJ (tm:=a.tmps) _ σ ⟨λ_=> .any,λ_=>none⟩ M (λ_=>undef) K ⟨hc.mem.ab2 _,hc.tmp,λi=>by simp[VR]⟩ hfr (λ_ _=>⟨rfl,rfl,rfl⟩) h
  exact⟨ab3,hK,⟨M',νA',ao9⟩,hs,hd⟩
end VM
end
section
namespace VM
open Go
variable{α:Type}{r:α}
theorem dG{υ τ:Ty}{y:υ.den}{k:τ.den→Option α}(h:cJ υ τ y k=some r): ∃z,k z=some r∧ ∀k':τ.den→Option α,cJ υ τ y k'=k' z:=by
 obtain⟨e,h⟩:=bw h
 subst e
 exact⟨y,h,λk'=>by simp[cJ]⟩
theorem gI{υ τ:Ty}{k:Option α}(h:js υ τ k=some r):k=some r∧ ∀k':Option α,js υ τ k'=k':=by
 obtain⟨e,h1⟩:=dU h
 clear h
 subst e
 exact⟨h1,λk'=>by simp[js]⟩
theorem eE{b:Bool}{K:Option α}(h:cond b K none=some r):K=some r∧ ∀K':Option α,cond b K' none=K':=by
 obtain⟨rfl,h⟩:=cz h
 exact⟨h,λ_=>rfl⟩
theorem uB{b:Bool}{K:Option α}(h:cond b none K=some r):K=some r∧ ∀K':Option α,cond b none K'=K':=by
 obtain⟨rfl,h⟩:=nn h
 exact⟨h,λ_=>rfl⟩
theorem yB: ∀{τ:Ty} {x:τ.den} {n:Nat} {k:(υ:Ty)→υ.den→Option α},u9 τ x n k=some r→ ∃υ y,k υ y=some r∧ ∀k':(υ:Ty)→υ.den→Option α,u9 τ x n k'=k' υ y
 | .pair a b,x,0,k,h=>⟨a,x.1,h,λ_=>rfl⟩
 | .pair a b,x,n+1,k,h=>by
  obtain⟨υ,y,h1,h2⟩:=yB (τ:=b) (x:=x.2) (n:=n) (k:=k) h
  exact⟨υ,y,h1,λk'=>h2 k'⟩
 | .int _,_,_,_,h| .bool,_,_,_,h| .str,_,_,_,h| .slice _,_,_,_,h| .unit,_,_,_,h| .arr _ _,_,_,_,h=>by simp[u9]at h
theorem zH: ∀{τ:Ty} {x:τ.den} {n:Nat} {m:(υ:Ty)→υ.den→(υ.den→Option α)→Option α} {k:τ.den→Option α},
  (∀υ y (k:υ.den→Option α),m υ y k=some r→ ∃z,k z=some r∧ ∀k':υ.den→Option α,m υ y k'=k' z)→fX τ x n m k=some r→ ∃z,k z=some r∧ ∀k':τ.den→Option α,fX τ x n m k'=k' z
 | .pair a b,x,0,m,k,hm,h=>by
  obtain⟨z,h1,h2⟩:=hm a x.1 _ h
  exact⟨(z,x.2),h1,λk'=>h2 _⟩
 | .pair a b,x,n+1,m,k,hm,h=>by
  obtain⟨z,h1,h2⟩:=zH (τ:=b) (x:=x.2) (n:=n) (m:=m) (k:=λz=>k (x.1,z)) hm h
  exact⟨(x.1,z),h1,λk'=>h2 (λz=>k' (x.1,z))⟩
 | .int _,_,_,_,_,_,h| .bool,_,_,_,_,_,h| .str,_,_,_,_,_,h| .slice _,_,_,_,_,_,h| .unit,_,_,_,_,_,h| .arr _ _,_,_,_,_,_,h=>by simp[fX]at h
theorem iD: ∀{p:List Step} {τ:Ty} {x:τ.den} {k:(υ:Ty)→υ.den→Option α},AO p τ x k=some r→ ∃υ y,k υ y=some r∧ ∀k':(υ:Ty)→υ.den→Option α,AO p τ x k'=k' υ y
 |[],τ,x,k,h=>⟨τ,x,h,λ_=>rfl⟩
 | .gG n::p,τ,x,k,h=>by
  obtain⟨υ,y,h1,h2⟩:=yB (h:u9 τ x n _=some r)
  obtain⟨υ',y',h3,h4⟩:=iD h1
  exact⟨υ',y',h3,λk'=>(h2 _).trans (h4 k')⟩
 | .idx i::p,τ,x,k,h=>by
  cases τ with
  |arr n e=>
   obtain⟨υ',y',h3,h4⟩:=iD (p:=p) (τ:=e) (x:=γ x i e.zero) (k:=k) h
   exact⟨υ',y',h3,λk'=>h4 k'⟩
  |_=>simp[AO,ajF]at h
theorem px{υ:Ty}{y:υ.den}: ∀{p:List Step} {τ:Ty} {x:τ.den} {k:τ.den→Option α},wx υ y p τ x k=some r→ ∃z,k z=some r∧ ∀k':τ.den→Option α,wx υ y p τ x k'=k' z
 |[],τ,x,k,h=>dG h
 | .gG n::p,τ,x,k,h=>zH (λ_ _ _ h=>px h) h
 | .idx i::p,τ,x,k,h=>by
  cases τ with
  |arr n e=>
   obtain⟨z,h1,h2⟩:=px (p:=p) (τ:=e) (x:=γ x i e.zero) (k:=λz=>k (List.set x i z)) h
   exact⟨_,h1,λk'=>h2 (λz=>k' (List.set x i z))⟩
  |_=>simp[wx,Fh]at h
theorem qL{a:bA}{k:IntKind→Int→Option α}(h:wz a k=some r): ∃i n,k i n=some r∧ ∀k':IntKind→Int→Option α,wz a k'=k' i n:=by
 obtain⟨i,n,rfl,h⟩:=nX h
 exact⟨i,n,h,λ_=>rfl⟩
theorem TO{a:bA}{k:(τ:Ty)→τ.den→Option α}(h:NN a k=some r): ∃τ x,k τ x=some r∧ ∀k':(τ:Ty)→τ.den→Option α,NN a k'=k' τ x:=by
 unfold NN at h
 split at h
 ·exact⟨_,_,h,λ_=>rfl⟩
 ·cases h
theorem vn{a:Option bA}{d:Int}{k:Int→Option α}(h:yY a d k=some r): ∃n,k n=some r∧ ∀k':Int→Option α,yY a d k'=k' n:=by
 cases a with
 |none=>exact⟨d,h,λ_=>rfl⟩
 |some a=>
  obtain⟨i,n,h1,h2⟩:=qL (h:wz a (λ_ x=>k x)=some r)
  exact⟨n,h1,λk'=>h2 (λ_ x=>k' x)⟩
abbrev Ag(rd:List Nat)(H H':Nat→Option bp):Prop:= ∀i∈rd,H' i=H i
theorem py{fz:Bool}{a:bA}{H:Nat→Option bp}{τ:Ty}{k:τ.den→List Nat→jr→Option α}(h:m0 fz a H τ k=some r):
  ∃y rd ups,k y rd ups=some r∧ ∀H',Ag rd H H'→ ∀k':τ.den→List Nat→jr→Option α,m0 fz a H' τ k'=k' y rd ups:=by
 cases a with
 |val υ x=>
  simp only[m0]at h
  obtain⟨z,h1,h2⟩:=dG h
  refine⟨z,[],[],h1,λH' _ k'=> ?_⟩
  simp only[m0]
  exact h2 (λy=>k' y [] [])
 |Lq υ x n=>
  simp only[m0]at h
  obtain⟨z,h1,h2⟩:=dG h
  refine⟨z,[],[],h1,λH' _ k'=> ?_⟩
  simp only[m0]
  exact h2 (λy=>k' y [] [])
 |emp=>
  cases τ with
  |slice e=>exact⟨[],[],[],h,λ_ _ _=>rfl⟩
  |_=>cases h
 |ref id=>
  have h:(match H id with
   |some (.own e l)=>cJ (.slice e) τ l λy=>k y [id] (cond fz [(id,some (.pq e l))] [])
   |some (.pq e l)=>cJ (.slice e) τ l λy=>k y [id] []
   |_=>none)=some r:=h
  cases hH:H id with
  |none=>rw[hH]at h;cases h
  |some e=>
   rw[hH]at h
   cases e with
   |own e l=>
    obtain⟨z,h1,h2⟩:=dG (h:cJ (.slice e) τ l _=some r)
    refine⟨z,_,_,h1,λH' hA k'=> ?_⟩
    have:H' id=some (.own e l):=by rw[hA id (by simp),hH]
    show(match H' id with
     |some (.own e l)=>cJ (.slice e) τ l λy=>k' y [id] (cond fz [(id,some (.pq e l))] [])
     |some (.pq e l)=>cJ (.slice e) τ l λy=>k' y [id] []
     |_=>none)=_
    rw[this];exact h2 _
   |pq e l=>
    obtain⟨z,h1,h2⟩:=dG (h:cJ (.slice e) τ l _=some r)
    refine⟨z,_,_,h1,λH' hA k'=> ?_⟩
    have:H' id=some (.pq e l):=by rw[hA id (by simp),hH]
    show(match H' id with
     |some (.own e l)=>cJ (.slice e) τ l λy=>k' y [id] (cond fz [(id,some (.pq e l))] [])
     |some (.pq e l)=>cJ (.slice e) τ l λy=>k' y [id] []
     |_=>none)=_
    rw[this];exact h2 _
   |obj _ _=>cases h
   |gg _ _ _ _=>cases h
   |gone=>cases h
 |any|XA|jd _ _|rR _ _|tup _|NL _ _|Jh _ _ _ _|sub _ _ _=>cases h
theorem yC{id:Nat}{p:List Step}{H:Nat→Option bp}{k:Ty→Option α}(h:mf id p H k=some r): ∃υ,k υ=some r∧ ∀H',H' id=H id→ ∀k':Ty→Option α,mf id p H' k'=k' υ:=by
 unfold mf at h
 split at h
 ·rename_i τ x bg
  obtain⟨υ,y,h1,h2⟩:=iD h
  exact⟨υ,h1,λH' hA k'=>by unfold mf;rw[hA,bg];exact h2 _⟩
 ·rename_i τ x _ _ bg
  obtain⟨υ,y,h1,h2⟩:=iD h
  exact⟨υ,h1,λH' hA k'=>by unfold mf;rw[hA,bg];exact h2 _⟩
 ·rename_i e l bg
  split at h
  ·obtain⟨υ,y,h1,h2⟩:=iD h
   exact⟨υ,h1,λH' hA k'=>by unfold mf;rw[hA,bg];exact h2 _⟩
  ·cases h
 ·rename_i e l bg
  split at h
  ·obtain⟨υ,y,h1,h2⟩:=iD h
   exact⟨υ,h1,λH' hA k'=>by unfold mf;rw[hA,bg];exact h2 _⟩
  ·cases h
 ·cases h
theorem yD{H:Nat→Option bp}{id:Nat}{e:bp}{K:Option α}(h:rS H id e K=some r):K=some r∧ ∀H',H' id=H id→ ∀(e':bp) (K':Option α),rS H' id e' K'=K':=by
 obtain⟨h1,h2⟩:=mC h
 exact⟨h2,λH' hA e' K'=>by unfold rS;rw[hA,h1]⟩
theorem Vp{b:BinOp}{k:IntKind}{x y:Int}{K:bA→Option α}(h:vb b k x y K=some r): ∃v,K v=some r∧ ∀K':bA→Option α,vb b k x y K'=K' v:=by
 cases b<;>simp only[vb]at h ⊢ <;>first
  |exact⟨_,h,λ_=>rfl⟩
  |(obtain⟨h1,h2⟩:=uB h;exact⟨_,h1,λ_=>h2 _⟩)
  |cases h
theorem akg{b:BinOp}{k:IntKind}{x y:Int}{K:bA→Option α}(h:shK b k x y K=some r): ∃v,K v=some r∧ ∀K':bA→Option α,shK b k x y K'=K' v:=by
 cases b<;>simp only[shK]at h ⊢ <;>first
  |(obtain⟨h1,h2⟩:=uB h;exact⟨_,h1,λ_=>h2 _⟩)
  |cases h
theorem Yc{t:Option Ty}{op:BinOp}{τ:Ty}{x:τ.den}{υ:Ty}{y:υ.den}{K:bA→Option α}(h:Gm t op τ x υ y K=some r): ∃v,K v=some r∧ ∀K':bA→Option α,Gm t op τ x υ y K'=K' v:=by
 unfold Gm at h ⊢
 split at h
 ·rename_i k x k' y
  cases hs:abC op
  ·rw[hs]at h
   have h:(if k=k' then vb op k x y K else none)=some r:=h
   by_cases hk:k=k'
   ·rw[aj hk]at h
    obtain⟨v,h1,h2⟩:=Vp h
    exact⟨v,h1,λK'=>by simp only[av,aj hk];exact h2 K'⟩
   ·rw[ah hk]at h;cases h
  ·rw[hs]at h
   obtain⟨v,h1,h2⟩:=akg (h:shK op k x y K=some r)
   exact⟨v,h1,λK'=>by simp only[ak];exact h2 K'⟩
 ·split at h
  ·cases h
  ·obtain⟨h1,h2⟩:=gI h
   obtain⟨h3,h4⟩:=eE h1
   split at h3
   ·obtain⟨z,h5,h6⟩:=dG h3
    exact⟨_,h5,λK'=>by rw[h2,h4];exact h6 _⟩
   ·obtain⟨z,h5,h6⟩:=dG h3
    exact⟨_,h5,λK'=>by rw[h2,h4];exact h6 _⟩
   ·cases h3
theorem ab4{u:UnOp}{a:bA}{K:bA→Option α}(h:U0 u a K=some r): ∃v,K v=some r∧ ∀K':bA→Option α,U0 u a K'=K' v:=by
 unfold U0 at h
 split at h<;>first
  |exact⟨_,h,λ_=>rfl⟩
  |cases h
theorem RX{up:Bool}: ∀{xs:List bA} {a:bA} {K:bA→Option α},mmK up a xs K=some r→ ∃v,K v=some r∧ ∀K':bA→Option α,mmK up a xs K'=K' v
 |[],a,K,h=>⟨a,h,λ_=>rfl⟩
 |b::xs,a,K,h=>by
  unfold mmK at h
  obtain⟨k,x,h1,h2⟩:=qL h
  obtain⟨k',y,h3,h4⟩:=qL h1
  by_cases hk:k=k'
  ·rw[aj hk]at h3
   obtain⟨v,h5,h6⟩:=RX h3
   refine⟨v,h5,λK'=> ?_⟩
   unfold mmK
   rw[h2,h4,aj hk]
   exact h6 K'
  ·rw[ah hk]at h3;cases h3
theorem ab5{τ:Ty}{a:bA}{H:Nat→Option bp}{K:gL α}(h:NO τ a H K=some r): ∃v rd ups,K v rd ups=some r∧ ∀H',Ag rd H H'→ ∀K':gL α,NO τ a H' K'=K' v rd ups:=by
 unfold NO at h
 split at h
 ·exact⟨_,_,_,h,λ_ _ _=>rfl⟩
 ·exact⟨_,_,_,h,λ_ _ _=>rfl⟩
 ·exact⟨_,_,_,h,λ_ _ _=>rfl⟩
 ·exact⟨_,_,_,h,λ_ _ _=>rfl⟩
 ·split at h
  ·rename_i bg
   exact⟨_,_,_,h,λH' hA K'=>by unfold NO;simp only;rw[hA _ (by simp),bg]⟩
  ·rename_i bg
   exact⟨_,_,_,h,λH' hA K'=>by unfold NO;simp only;rw[hA _ (by simp),bg]⟩
  ·cases h
 ·cases h
theorem ab6{id:Nat}{e:Ty}{a b:bA}{H:Nat→Option bp}{K:gL α}(h:NP id e a b H K=some r): ∃v rd ups,K v rd ups=some r∧id∈rd∧ ∀H',Ag rd H H'→ ∀K':gL α,NP id e a b H' K'=K' v rd ups:=by
 unfold NP at h
 obtain⟨ys,rd,ups,h1,h2⟩:=py h
 split at h1
 ·obtain⟨h3,h4⟩:=eE h1
  refine⟨_,_,_,h3,by simp,λH' hA K'=> ?_⟩
  unfold NP
  rw[h2 H' (λi hi=>hA i (aZ _ hi))]
  exact h4 _
 ·rename_i j
  split at h1
  ·rename_i e' l hj
   obtain⟨z,h3,h4⟩:=dG h1
   obtain⟨h5,h6⟩:=eE h3
   refine⟨_,_,_,h5,by simp,λH' hA K'=> ?_⟩
   unfold NP
   rw[h2 H' (λi hi=>hA i (aZ _ (aZ _ hi)))]
   simp only
   rw[hA j (by simp),hj]
   simp only
   rw[h4]
   exact h6 _
  ·cases h1
 ·cases h1
theorem GQ{e:Ty}{n:Nat}{H:Nat→Option bp}: ∀{ps:List (Nat×bA)} {l:List e.den} {Kb:List Nat} {GR:jr} {K:List e.den→List Nat→jr→Option α},w5 e H n ps l Kb GR K=some r→
  ∃l' rd ups,K l' rd ups=some r∧(∀i∈Kb,i∈rd)∧ ∀H',Ag rd H H'→ ∀K':List e.den→List Nat→jr→Option α,w5 e H' n ps l Kb GR K'=K' l' rd ups
 |[],l,Kb,GR,K,h=>⟨l,Kb,GR,h,λ_ h=>h,λ_ _ _=>rfl⟩
 |p::ps,l,Kb,GR,K,h=>by
  unfold w5 at h
  obtain⟨h1,h2⟩:=eE h
  obtain⟨y,XN,Cv,h3,h4⟩:=py h1
  obtain⟨l',rd,ups,h5,h6,h7⟩:=GQ h3
  refine⟨l',rd,ups,h5,λi hi=>h6 i (dz _ hi),λH' hA K'=> ?_⟩
  unfold w5
  rw[h2,h4 H' (λi hi=>hA i (h6 i (cU _ hi)))]
  exact h7 H' hA K'
theorem Cy{τ:Ty}{H:Nat→Option bp}: ∀{ps:List (Nat×bA)} {x:τ.den} {Kb:List Nat} {GR:jr} {K:τ.den→List Nat→jr→Option α},mg τ H ps x Kb GR K=some r→
  ∃x' rd ups,K x' rd ups=some r∧(∀i∈Kb,i∈rd)∧ ∀H',Ag rd H H'→ ∀K':τ.den→List Nat→jr→Option α,mg τ H' ps x Kb GR K'=K' x' rd ups
 |[],x,Kb,GR,K,h=>⟨x,Kb,GR,h,λ_ h=>h,λ_ _ _=>rfl⟩
 |p::ps,x,Kb,GR,K,h=>by
  unfold mg at h
  obtain⟨υ,z,h1,h2⟩:=yB h
  obtain⟨y,XN,Cv,h3,h4⟩:=py h1
  obtain⟨z',h5,h6⟩:=zH (m:=fun υ' _ k'=>cJ υ υ' y k') (fun υ' y' k hk=>dG hk) h3
  obtain⟨x',rd,ups,h7,h8,h9⟩:=Cy h5
  refine⟨x',rd,ups,h7,λi hi=>h8 i (dz _ hi),λH' hA K'=> ?_⟩
  unfold mg
  rw[h2,h4 H' (λi hi=>hA i (h8 i (cU _ hi))),h6]
  exact h9 H' hA K'
theorem Yd{H:Nat→Option bp}{v:bA}{a:Ty}{k:a.den→List Nat→jr→Option α}(h:Dy v H a k=some r):
  ∃x rd ups,k x rd ups=some r∧ ∀H',Ag rd H H'→ ∀k':a.den→List Nat→jr→Option α,Dy v H' a k'=k' x rd ups:=by
 unfold Dy at h
 split at h
 ·split at h
  ·obtain⟨z,h1,h2⟩:=dG h
   refine⟨_,_,_,h1,λH' _ k'=> ?_⟩
   unfold Dy
   simp only
   rw[h2]
  ·cases h
 ·rename_i k0 qj
  obtain⟨y,rd,ups,h1,h2⟩:=py h
  refine⟨y,rd,ups,h1,λH' hA k'=> ?_⟩
  unfold Dy
  split
  ·exact(qj _ _ rfl HEq.rfl).elim
  ·exact h2 H' hA _
theorem Oj{H:Nat→Option bp}: ∀{τ:Ty} {vs:List bA} {k:τ.den→List Nat→jr→Option α},rT H τ vs k=some r→
  ∃x rd ups,k x rd ups=some r∧ ∀H',Ag rd H H'→ ∀k':τ.den→List Nat→jr→Option α,rT H' τ vs k'=k' x rd ups
 | .unit,[],k,h=>⟨(),[],[],h,λ_ _ _=>rfl⟩
 | .pair a b,v::vs,k,h=>by
  unfold rT at h
  obtain⟨y,rd,ups,h1,h2⟩:=Yd h
  obtain⟨ys,yq,jt,h3,h4⟩:=Oj h1
  refine⟨(y,ys),_,_,h3,λH' hA k'=> ?_⟩
  unfold rT
  rw[h2 H' (λi hi=>hA i (dz _ hi)),h4 H' (λi hi=>hA i (cU _ hi))]
 | .unit,_::_,_,h=>by simp[rT]at h
 | .pair _ _,[],_,h=>by simp[rT]at h
 | .int _,_,_,h| .bool,_,_,h| .str,_,_,h| .slice _,_,_,h| .arr _ _,_,_,h=>by simp[rT]at h
theorem GU: ∀{qG:List bA} {H:Nat→Option bp} {K:List bA→List Nat→jr→Option α},w6 H qG K=some r→
  ∃cs rd ups,K cs rd ups=some r∧ ∀H',Ag rd H H'→ ∀K':List bA→List Nat→jr→Option α,w6 H' qG K'=K' cs rd ups
 |[],H,K,h=>⟨[],[],[],h,λ_ _ _=>rfl⟩
 |a::qG,H,K,h=>by
  unfold w6 at h
  split at h
  ·rename_i id
   split at h
   ·rename_i τ x bg
    obtain⟨cs,rd,ups,h1,h2⟩:=GU h
    refine⟨_,_,_,h1,λH' hA K'=> ?_⟩
    unfold w6
    simp only
    rw[hA id (by simp),bg]
    simp only
    rw[h2 (ca H' id (some .gone)) (λi hi=>by
     by_cases ch:i=id
     ·subst ch;rw[ay,ay]
     ·rw[az _ _ ch,az _ _ ch];exact hA i (aZ _ hi))]
   ·cases h
  ·rename_i qj
   obtain⟨cs,rd,ups,h1,h2⟩:=GU h
   refine⟨_,_,_,h1,λH' hA K'=> ?_⟩
   unfold w6
   split
   ·exact absurd rfl (qj _)
   ·rw[h2 H' hA]
end VM
end
