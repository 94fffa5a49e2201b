/- A part of the proof of BookTurned of layer 18: a machine that reads a function of the program as an equation between values. -/
import Derived.Test.YthkjjlcblhbifaaGreatVm4
import Derived.Scope
set_option linter.all false
open List renaming getD→γ
section
namespace VM
open Go
variable{P:Program}{E:Env}{o:Oper}{a:Act}{w:World}{M:Nat→Prop}{ν:Nat→Value}{σ:St}{c:Ctx}{α:Type}{r:α}{next:Act→World→Prop}{Q:Exit→Act→World→Prop}
theorem OC{i:Nat}: ∀{ups:js} {H:Nat→Option br},i∈keys ups→ ∃u∈ups,u.1=i∧cU H ups i=u.2
 |[],_,h=>by simp[keys]at h
 |u::r,H,h=>by
  by_cases hk:i∈keys r
  ·obtain⟨v,h1,h2,h3⟩:=OC (H:=cm H u.1 u.2) hk
   exact⟨v,ba _ h1,h2,h3⟩
  ·have hi:i=u.1:=by
    simp only[keys,ca,bh]at h hk
    exact h.resolve_right hk
   refine⟨u,bu,hi.symm,?_⟩
   show cU (cm H u.1 u.2) r i=_
   rw[mG hk,hi,ay]
theorem G9: ∀{ups:js} {H H':Nat→Option br},(∀i,i∉keys ups→H i=H' i)→cU H ups=cU H' ups
 |[],H,H',h=>funext λi=>h i (by simp[keys])
 |u::r,H,H',h=>by
  refine G9 (ups:=r) λi hi=> ?_
  by_cases hu:i=u.1
  ·subst hu;rw[ay,ay]
  ·rw[az _ _ hu,az _ _ hu]
   exact h i (by simp only[keys,ca,bh,not_or];exact⟨hu,hi⟩)
theorem ER.len{v:Value}{e:Ty}{l:List e.den}(h:ER w M v (.own e l)): ∃ad cap,v= .slice ad l.length cap:=by
 simp only[ER]at h
 rcases h with⟨rfl,ad,rfl⟩|⟨b,cs,t,cap,h1,_⟩
 ·exact⟨ad,0,rfl⟩
 ·exact⟨_,cap,h1⟩
theorem RR.sr: ∀{ms:List AM} {x:HP ms} {us ps:List Value},RR w M ms x us ps→ ∀b∈bK ms us ps,M b
 |[],_,_,_,_,b,hb=>by simp[bK]at hb
 |m::ms,x,us,ps,h,b,hb=>by
  simp only[RR]at h
  rcases h with⟨p,Jp,h1,rfl,h2,h3⟩|⟨v,E5,h1,h2,rfl,h3,h4⟩
  ·simp only[bK,h1,ib,uB,uE,bn]at hb
   rcases hb with hb|hb
   ·cases m<;>simp[AM.iU]at h1<;>(simp only[dA,fv,A1]at hb h2;exact h2.xC trivial hb)
   ·exact RR.sr h3 b hb
  ·simp only[bK,h1,jN,fI,uB,uE,bn]at hb
   rcases hb with hb|hb
   ·cases m with
    |own e=>
     simp only[dA,fv,A1]at hb h3
     exact h3.xC trivial hb
    |v _=>simp[dA]at hb
    |io _=>simp[AM.iU]at h1
    |lo _=>simp[AM.iU]at h1
    |fn _ _=>simp[dA]at hb
    |jf _=>simp[dA]at hb
    |ptr τ=>
     simp only[dA,fv,A1]at hb h3
     exact h3.xC trivial hb
    |sp τ n e=>
     simp only[A1]at h3
     obtain⟨cs,kf,u,l,z,rfl,hq,hr,uh,hu,_⟩:=h3
     rw[(yS hq hr uh).1,fv]at hb
     exact hu.xC trivial hb
   ·exact RR.sr h4 b hb
theorem Kl: ∀{l:List nf} {qX:List bG} {S:nf},Oe l qX=some S→S∈l
 |[],_,_,h=>by simp[Oe]at h
 |T::l,qX,S,h=>by
  unfold Oe at h
  cases hf:fits T.args qX
  ·rw[hf]at h;exact ba _ (Kl h)
  ·rw[hf]at h;cases h;exact bu
theorem D2{H:Nat→Option br}{id:Nat}: ∀{n:Nat},vy H id n=true→ ∀i,id≤i→i<id+n→H i=none
 |0,_,i,h1,h2=>ω
 |n+1,h,i,h1,h2=>by
  unfold vy at h
  rw[bQ]at h
  by_cases hi:i=id+n
  ·subst hi
   have h:=h.1
   split at h
   ·assumption
   ·cases h
  ·exact D2 h.2 i h1 ω
theorem YF{H:Nat→Option br}{qX:List bG}{us:List Value}(h:jP w M H ν qX us):VR w M H ν (Oc qX) (xL us):=by
 match qX,us,h with
 |[],[],_=>simp[Oc,VR]
 |[a],[u],h=>simp only[jP,eL]at h;simpa [Oc,xL]using h
 |a::b::qX,u::v::us,h=>
  simp only[Oc,VR]
  exact⟨u::v::us,by simp[xL],h⟩
 |[],_::_,h=>simp[jP]at h
 |_::_,[],h=>simp[jP]at h
 |[_],_::_::_,h=>simp[jP]at h
 |_::_::_,[_],h=>simp[jP]at h
theorem OD(hΓ: ∀f S,S∈E.Γ f→jw P f S){H:Nat→Option br}(hm:Mem c H w M ν){f id:Nat}{qX:List bG}{vs:List Value}(hv:jP w M H ν qX vs){K:gS α}(h:DO E f qX id H K=some r)
  {R:Value→World→Prop} (hR: ∀v rd ups v' w' M' ν',K v rd ups=some r→Tr c H w M ν (cU H ups) w' M' ν'→VR w' M' (cU H ups) ν' v v'→R v' w'):
  Oz P f vs.toArray w R:=by
 unfold DO at h
 split at h
 ·cases h
 rename_i S hS
 have hok:=hΓ f S (Kl hS)
 obtain⟨x,rd,uo,uf,io,H2,Hq,M2,h1,hA,hK,apn,hi1,Uc⟩:=D1 (kF.start hm) hv h
 clear h
 simp only[cD,gU]at hA hi1 Uc
 obtain⟨y,hy,h1⟩:=ux.1 h1
 obtain⟨jx,h1⟩:=cG h1
 have jx:=D2 jx
 have avw:(λb=>(M2 b∧b∉eF S.args vs)∨b∈eF S.args vs)=M2:=by
  funext b
  refine propext ⟨λh=>h.elim (·.1) (hA.hM b),λh=> ?_⟩
  by_cases hb:b∈eF S.args vs
  ·exact .inr hb
  ·exact .inl ⟨h,hb⟩
 refine Oz.mono (hok.call (λb=>M2 b∧b∉eF S.args vs) w vs x y (λb hb=>hA.mem.GI b hb.1) (by rw[avw];exact apn) hA.nd (λb hb h=>h.2 hb) hy) ?_
 rintro e w' ⟨us,M',rfl,XU,hL,wV,hn0⟩
 have avx: ∀b∈eF S.args vs,c.M0 b→M' b:=by
  intro b hb h0
  obtain⟨q,hq,hqb⟩:=hA.iob b hb h0
  exact XU.sr b (XU.G7 (ν q.1) (by rw[←hi1];exact fG hq) b hqb)
 have oT: ∀b∈bK S.res us (fQ S.args vs),w.heap.size≤b∨b∈eF S.args vs:=by
  intro b hb
  rcases oh b w.heap.size with eU|L1
  ·exact .inr ((hL.less b eU (XU.sr b hb)).resolve_left (hn0 b hb))
  ·exact .inl L1
 have kG: ∀b∈bK S.res us (fQ S.args vs),c.B≤b∨c.may b:=λb hb=>(oT b hb).elim (λh=> .inl (ck hm.size h)) (hA.OB b)
 have GJ: ∀b∈bK S.res us (fQ S.args vs),c.M0 b→ ∃p∈fQ S.args vs,fD p=some b:=by
  intro b hb h0
  rcases oT b hb with h'|h'
  ·have:=hm.wT.1 b h0;have:=hm.size;omega
  ·obtain⟨q,hq,hqb⟩:=hA.iob b h' h0
   exact⟨ν q.1,by rw[←hi1];exact fG hq,hqb⟩
 have avz: ∀q∈io,∀e,q.2=AM.lo e→ ∀b,fD (ν q.1)=some b→ ¬c.M0 b:=by
  intro q hq e he b hb
  rcases(hA.VJ q hq).2.2 with⟨τ0,z0,wU,_⟩|⟨e0,z0,wU,R4⟩
  ·rw[he]at wU;cases wU
  ·exact hm.oS q.1 e0 z0 b R4 hb
 have key: ∀(Hx:Nat→Option br) (Mx:Nat→Prop) (U:js),Mem c Hx w Mx ν→fP w M w Mx→(∀b,M2 b→Mx b)→(∀b∈eF S.args vs,∀i e,Hx i=some e→e.mut→fD (ν i)≠some b)→
   (∀q∈io,Hx q.1=some .gone)→(∀i,i∉keys io→cU H (uo++U) i=Hx i)→(∀u∈uo++U,u.2=some .gone∨ ∃e l,u.2=some (.pG e l)∧H u.1=some (.own e l))→(∀i∈keys (uo++U),i∈keys (uo++uf))→
   RR w' (λb=>M' b∨(Mx b∧b∉eF S.args vs)) S.res y us (fQ S.args vs)→
   ∃ν',Tr c H w M ν (cU H (uo++U++(iD S.res y id io).2.1)) w' (λb=>M' b∨(Mx b∧b∉eF S.args vs)) ν'∧
    jP w' (λb=>M' b∨(Mx b∧b∉eF S.args vs)) (cU H (uo++U++(iD S.res y id io).2.1)) ν' (iD S.res y id io).1 us:=by
  intro Hx Mx U NB hkx VO qy OE akC Ha hU hrr
  obtain⟨mE,Km⟩:=NB.call (λb hb=>VO b hb.1) (λb hb=>VO b (hA.hM b hb)) qy hA.OB avx hL
  have hx: ∀i e,H i=some e→i∉keys io→ ∃e',Hx i=some e'∧e.lO e':=by
   intro i e hi Hb
   rw[←akC i Hb]
   by_cases hk:i∈keys (uo++U)
   ·obtain⟨u,hu,hui,huv⟩:=OC (H:=H) hk
    rw[huv]
    rcases Ha u hu with h'|⟨e1,l1,h',L4⟩
    ·exact⟨_,h',br.kp e⟩
    ·rw[hui,hi]at L4;cases L4;exact⟨_,h',rfl,rfl⟩
   ·rw[mG hk];exact⟨e,hi,.refl e⟩
  have hfr: ∀i,id≤i→i<id+S.res.length→Hx i=none:=by
   intro i h3 h4
   have h0:=jx i h3 h4
   have Hb:i∉keys io:=λhk=>by
    obtain⟨q,hq,FL⟩:=cY.1 hk
    obtain⟨_,_,hz⟩:=hA.VJ q hq
    exact hz.some (by rw[FL];exact h0)
   rw[←akC i Hb]
   rw[mG,h0]
   intro hk
   obtain⟨_,e,l,h'⟩:=hA.ksn i (hU i hk)
   rw[h0]at h';cases h'
  obtain⟨ν',r1,r2,r3,r4,r5,r6⟩:=ni (hs:=eF S.args vs) (sz:=w.heap.size) (id:=id) (used:=[]) mE hrr hi1.symm (by rw[←hok.ios,←Uc]) hA.ion OE hfr
   (λi e b hi hmu hb=> .inl ⟨NB.GI b ((NB.jQ i e hi).xC hmu hb),λhh=>qy b hh i e hi hmu hb⟩) (by simpa using wV) oT kG GJ avz
  have akD:cU H (uo++U++(iD S.res y id io).2.1)=cU Hx (iD S.res y id io).2.1:=by
   rw[eY]
   refine G9 λi hi=> ?_
   by_cases Hb:i∈keys io
   ·obtain⟨q,hq,FL⟩:=cY.1 Hb
    rcases r6 q hq with⟨τ,z,_,hz⟩|⟨e,z,_,hz⟩
    ·rw[FL,mG hi,←FL,OE q hq]at hz;cases hz
    ·rw[FL,mG hi,←FL,OE q hq]at hz;cases hz
   ·exact akC i Hb
  refine⟨ν',⟨by rw[akD];exact r1,hkx.trans Km,⟨λi e hi=> ?_,λi hi=> ?_⟩⟩,by rw[akD];exact r2⟩
  ·rw[akD]
   by_cases Hb:i∈keys io
   ·obtain⟨q,hq,FL⟩:=cY.1 Hb
    obtain⟨_,_,hg0⟩:=hA.VJ q hq
    rcases r6 q hq with⟨τ,z,hq2,hz⟩|⟨e2,z,hq2,hz⟩
    ·rcases hg0 with⟨τ0,z0,wU,R4⟩|⟨e0,z0,wU,R4⟩
     ·rw[hq2]at wU;cases wU
      rw[FL]at hz R4
      rw[hi]at R4;cases R4
      exact⟨_,hz,rfl⟩
     ·rw[hq2]at wU;cases wU
    ·rcases hg0 with⟨τ0,z0,wU,R4⟩|⟨e0,z0,wU,R4⟩
     ·rw[hq2]at wU;cases wU
     ·rw[hq2]at wU;cases wU
      rw[FL]at hz R4
      rw[hi]at R4;cases R4
      refine⟨_,hz,rfl,?_⟩
      obtain⟨a1,c1,k1⟩:=ER.len (hm.jQ i _ hi)
      obtain⟨a2,c2,k2⟩:=ER.len (r1.jQ i _ hz)
      rw[r3 i (by rw[←FL,OE q hq];simp),k1]at k2
      simp only[Value.slice.injEq]at k2
      exact k2.2.1
   ·obtain⟨e',uw,hl⟩:=hx i e hi Hb
    have hr:i<id∨id+S.res.length≤i:=by
     rcases oh i id with h'|h'
     ·exact .inl h'
     ·rcases oh i (id+S.res.length)with L4|L4
      ·rw[jx i h' L4]at hi;cases hi
      ·exact .inr L4
    exact⟨e',by rw[r4 i Hb hr];exact uw,hl⟩
  ·refine r3 i ?_
   obtain⟨e,he⟩:=xd.1 hi
   by_cases Hb:i∈keys io
   ·obtain⟨q,hq,FL⟩:=cY.1 Hb
    rw[←FL,OE q hq];simp
   ·obtain⟨e',uw,_⟩:=hx i e he Hb
    rw[uw];simp
 cases hq:S.quiet
 ·
  rw[hq]at h1
  have hMn:(λb=>M' b∨(M2 b∧b∉eF S.args vs))=M':=by
   funext b
   exact propext ⟨λh=>h.elim (λh=>h) (hL.sub b),.inl⟩
  obtain⟨ν',gw,hvr⟩:=key H2 M2 uf hA.mem hA.ch (λ_ h=>h) (λb hb i e hi hmu=>hA.none b hb i e (hA.fz.mut hi hmu) hmu) (λq hq=>(hA.VJ q hq).1) hA.ext
   (λu hu=>(bn.1 hu).elim (λh=> .inl (hA.uov u h)) (λh=> .inr (hA.ufv u h))) (λ_ h=>h) (by rw[hMn];exact XU)
  exact hR _ _ _ _ _ _ _ h1 gw (YF hvr)
 ·rw[hq]at h1
  have VO: ∀b,M2 b→M b:=λb hb=>hA.ch.less b (hA.mem.GI b hb) hb
  obtain⟨ν',gw,hvr⟩:=key Hq M [] hA.OA (.refl w M) VO hA.none (λq hq=>(hA.VJ q hq).2.1) (by rw[cA];exact hA.YA)
   (λu hu=> .inl (hA.uov u (by simpa using hu))) (λi hi=>by simp only[keys,cA,dr,bn]at hi ⊢;exact .inl hi) (XU.flat (λb h=> .inl h) (hok.quiet hq))
  exact hR _ _ _ _ _ _ _ h1 gw (YF hvr)
theorem acs(hΓ: ∀f S,S∈E.Γ f→jw P f S)(hc:Core c σ a.tmps w M ν){args:Array Operand}{ts:Array TypeId}{g:Operand}(ho:o.op= .call {callee:= .value g,args,argTypes:=ts}){K:gS α}{f:Nat}{caps:List bG}(hg:σ.ρ g= .N7 f caps){id:Nat}
  (h:DO E f (args.toList.map σ.ρ ++caps) id σ.H K=some r) (hn:fJ c σ a o w M ν K r next):o.wp P a w next Q:=by
 have hgv:=hc.ev g
 rw[hg]at hgv
 simp only[VR]at hgv
 obtain⟨cs,hgv,uh⟩:=hgv
 have OF: ∀{as1:List bG} {YG:List Value},jP w M σ.H ν as1 YG→jP w M σ.H ν (as1++caps) (YG++cs):=by
  intro as1
  induction as1 with
  |nil=>intro YG h1;cases YG with
   |nil=>exact uh
   |cons _ _=>simp[jP]at h1
  |cons x as1 ih=>intro YG h1;cases YG with
   |nil=>simp[jP]at h1
   |cons v YG=>simp only[jP]at h1;simp only[mZ,jP];exact⟨h1.1,ih h1.2⟩
 have hd:=OD (P:=P) hΓ hc.mem (OF (hc.evs args.toList)) h (R:=λv' w'=>next (a.put o.dst v') w') (λv rd ups v' w' M' ν' h1 h2 h3=>hn v rd ups v' w' M' ν' h1 h2 h3)
 have hex:(execOp a.eval o).run P w=(callFunc f (args.toList.map a.eval++cs).toArray).run P w:=by
  have:(args.toList.map a.eval++cs).toArray= #[]++args.map a.eval++cs.toArray:=by apply ia;simp
  rw[this]
  simp[execOp,ho,resolve,hgv,Deferred.ofValue,invoke]
 unfold Oper.wp
 rw[hex]
 exact hd o a next Q λv w' hv=>hv
structure tF(P:Program)(E:Env):Prop extends EnvTy P E where
 aps: ∀f S,S∈E.Γ f→jw P f S
 mixed:P.follows .mixedOrders=true
 kW: ∀i L,E.xr i=some L→VM.kW L=true
 YH: ∀i L,E.zk i=some L→VM.kW L=true
theorem VP(hE:tF P E)(hc:Core c σ a.tmps w M ν){K:gS α}(h:tz E o σ.ρ σ.H K=some r)(hn:fJ c σ a o w M ν K r next):o.wp P a w next Q:=by
 have hT:=hE.toEnvTy
 unfold tz at h
 simp only at h
 split at h
 ·rename_i x ho;exact TZ hc (.inl ho) h hn
 ·rename_i x ho;exact TZ hc (.inr ho) h hn
 ·rename_i x y z ho
  split at h
  ·rename_i t hx;exact ab7 hc ho hx h hn
  ·cases h
 ·rename_i t ho
  split at h
  ·rename_i τ ht;exact Yi hT hc ho ht h hn
  ·cases h
 ·rename_i t x ho
  split at h
  ·rename_i τ ht;exact ake hT hc ho h hn
  ·cases h
 ·rename_i t ps ho
  split at h
  ·rename_i n e ht;exact LZ hT hc ho ht h hn
  ·rename_i τ Ys ht
   split at h
   ·rename_i n k hs;exact Ow hT hc ho ht (λn e he=>Ys n e he) hs h hn
   ·exact E4 hT hc ho ht (λn e he=>Ys n e he) h hn
  ·cases h
 ·rename_i t n ps ho
  split at h
  ·rename_i e ht;exact JI hT hc ho ht h hn
  ·cases h
 ·rename_i t x ho
  split at h
  ·rename_i τ ht;exact Yk hT hc ho ht h hn
  ·cases h
 ·rename_i t x y ho
  split at h
  ·rename_i τ ht;exact VC hT hc ho ht h hn
  ·cases h
 ·rename_i x ho
  split at h
  ·rename_i id p hx;exact E2 hc ho hx h hn
  ·rename_i τ z hx;exact CL hc ho hx h hn
  ·cases h
 ·rename_i b t x y t' ho;exact Ym hT hc ho h hn
 ·rename_i u t x ho;exact ach hc ho h hn
 ·rename_i s d x ho
  split at h
  ·rename_i τ k hs hd;exact Sk hT hc ho hs hd h hn
  ·cases h
 ·rename_i f first caps ho;exact Oq hc ho h hn
 ·rename_i t x y ho
  split at h
  ·rename_i e ht;exact LW hT hc ho ht h hn
  ·cases h
 ·rename_i t x lo hi mx ho
  split at h
  ·rename_i τ ht;exact VH hT hc ho ht h hn
  ·cases h
 ·rename_i t x n ho
  split at h
  ·rename_i τ ht
   split at h
   ·rename_i id p hx;exact CK hT hc ho ht hx h hn
   ·rename_i υ z hx;exact Bs hT hc ho ht hx h hn
   ·cases h
  ·cases h
 ·rename_i t x n ho
  split at h
  ·rename_i τ ht
   split at h
   ·rename_i υ z hx;exact Yl hT hc ho ht hx h hn
   ·cases h
  ·cases h
 ·rename_i t x i ho
  split at h
  ·rename_i τ ht;exact LS hT hc ho ht h hn
  ·cases h
 ·rename_i t x i ho
  split at h
  ·rename_i τ ht;exact Yo hT hc ho ht h hn
  ·cases h
 ·rename_i x i ho
  split at h
  ·rename_i vs hx
   split at h
   ·rename_i v hv;exact Si hc ho hx hv h hn
   ·cases h
  ·cases h
 ·rename_i cl ho
  obtain⟨callee,args,ts⟩:=cl
  simp only at h
  split at h
  ·split at h
   ·rename_i x τ ha ht;exact ako hT hc ho ha ht h hn
   ·cases h
  ·split at h
   ·rename_i x y t t' ha ht
    split at h
    ·rename_i e hte;exact VI hT hc ho ha ht hte h hn
    ·cases h
   ·cases h
  ·split at h
   ·rename_i x t ha hts
    split at h
    ·rename_i e hte;exact Yy hT hc ho ha hts hte h hn
    ·cases h
   ·cases h
  ·split at h
   ·rename_i x xs ha;exact aiL hc true ho ha h hn
   ·cases h
  ·split at h
   ·rename_i x xs ha;exact aiL hc false ho ha h hn
   ·cases h
  ·rename_i g
   split at h
   ·rename_i f caps hg;exact acs hE.aps hc ho hg h hn
   ·cases h
  ·cases h
 ·cases h
theorem vF(σ:St)(d:Nat)(v:bG):(σ.put d v).T d=v:=by
 show cond (Nat.beq d d) v (σ.T d)=v
 rw[show Nat.beq d d=true from pY d];rfl
theorem BB(σ:St){d i:Nat}(v:bG)(h:i≠d):(σ.put d v).T i=σ.T i:=by
 show cond (Nat.beq i d) v (σ.T i)=σ.T i
 have:Nat.beq i d=false:=by rw[←lJ,xp];exact h
 rw[this];rfl
theorem aAn(σ:St)(d:Nat)(v:bG):(σ.put d v).H=σ.H:=rfl
theorem Hc(σ:St)(d:Nat):σ.put d (σ.T d)=σ:=by
 obtain⟨T,H⟩:=σ
 unfold St.put
 congr 1
 funext i
 by_cases h:i=d
 ·subst h;show cond (Nat.beq i i) (T i) (T i)=T i;cases Nat.beq i i<;>rfl
 ·have:Nat.beq i d=false:=by rw[←lJ,xp];exact h
  rw[this];rfl
theorem Core.tr{tm:Array Value}(h:Core c σ tm w M ν){H':Nat→Option br}{w':World}{M':Nat→Prop}{ν':Nat→Value}(t:Tr c σ.H w M ν H' w' M' ν'):Core c ⟨σ.T,H'⟩ tm w' M' ν':=
 ⟨t.mem,λi=>VR.ch t.ch t.goes (h.tmp i)⟩
theorem Core.wP{tm:Array Value}(h:Core c σ tm w M ν){d:Option Nat}{x:bG}{v:Value}{io:List Nat}(hd:N8 tm.size io d=true)(hx:VR w M σ.H ν x v)(ds:List Deferred):
  Core c (σ.wP d x) (({tmps:=tm,defers:=ds}:Act).put d v).tmps w M ν:=by
 cases d with
 |none=>exact h
 |some d=>
  have eU:d<tm.size:=by simp only[N8,bQ,A8]at hd;exact hd.1
  refine⟨h.mem,λi=> ?_⟩
  show VR w M σ.H ν ((σ.put d x).T i) ((tm.setIfInBounds d v).getD i undef)
  by_cases hi:i=d
  ·subst hi
   rw[vF]
   simp[Array.getD,eU]
   exact hx
  ·rw[BB _ _ hi]
   have:=h.tmp i
   have he:(tm.setIfInBounds d v).getD i undef=tm.getD i undef:=by
    rw[tu,tu,NL (fk hi)]
   rw[he];exact this
def Inv(c:Ctx)(E:Env)(σ:St)(a:Act)(w:World):Prop:=(∃M ν,Core c σ a.tmps w M ν)∧a.tmps.size=E.nt∧a.defers=[]∧ ∀i∈E.io,a.tmps.getD i undef=c.arg i
theorem OG(a:Act)(d:Option Nat)(v:Value):(a.put d v).tmps.size=a.tmps.size:=by
 cases d<;>simp[Act.put]
theorem put_defers(a:Act)(d:Option Nat)(v:Value):(a.put d v).defers=a.defers:=by
 cases d<;>rfl
theorem Ue{d:Option Nat}{v:Value}{io:List Nat}{n:Nat}(hd:N8 n io d=true){i:Nat}(hi:i∈io):(a.put d v).tmps.getD i undef=a.tmps.getD i undef:=by
 cases d with
 |none=>rfl
 |some d=>
  simp only[N8,bQ,pF]at hd
  have h1:=hd.2 i hi
  have kN:i≠d:=by
   intro e;subst e
   simp at h1
  show(a.tmps.setIfInBounds d v).getD i undef=_
  rw[tu,tu,NL (fk kN)]
theorem Inv.bool(h:Inv c E σ a w){x:Operand}{b:Bool}(hx:σ.ρ x= .val .bool b):a.eval x= .bool b:=by
 obtain⟨⟨M,ν,hc⟩,_,_,_⟩:=h
 have:=hc.ev x
 rw[hx]at this
 exact this.bool
theorem D3(hE:tF P E){ops:Array Oper}(hI:Inv c E σ a w){K:St→List Nat→List Nat→Option α}(h:uN E ops.toList o σ K=some r)
  (hn: ∀σ' a' w' rd wr,K σ' rd wr=some r→Inv c E σ' a' w'→next a' w'):
  if Region.wanted o (yielded ops a.tmps)then o.wp P a w next Q else next (a.put o.dst undef) w:=by
 unfold uN at h
 obtain⟨hd,h⟩:=cG h
 have dH:tz E o σ.ρ σ.H (λv rd ups=>K ((σ.xq ups).wP o.dst v) rd (ups.map (·.1)))=some r→o.wp P a w next Q:=by
  intro h
  obtain⟨⟨M,ν,hc⟩,hs,akF,xO⟩:=hI
  refine VP hE hc h λv rd ups v' w' M' ν' hK gw hV=> ?_
  refine hn _ _ _ _ _ hK ⟨⟨M',ν',?_⟩,by rw[OG,hs],by rw[put_defers,akF],λi hi=>(Ue hd hi).trans (xO i hi)⟩
  have h1:=hc.tr gw
  have h2:σ.xq ups=⟨σ.T,cU σ.H ups⟩:=by rw[←Se,←Sf ups σ]
  rw[h2]
  exact h1.wP (by rw[hs];exact hd) hV a.defers
 have tG: ∀rd wr,K (σ.wP o.dst .Yd) rd wr=some r→next (a.put o.dst undef) w:=by
  intro rd wr h
  obtain⟨⟨M,ν,hc⟩,hs,akF,xO⟩:=hI
  refine hn _ _ _ _ _ h ⟨⟨M,ν,hc.wP (by rw[hs];exact hd) (by simp[VR]) a.defers⟩,by rw[OG,hs],by rw[put_defers,akF],λi hi=>(Ue hd hi).trans (xO i hi)⟩
 simp only at h
 split at h
 ·rename_i hg
  have:Region.wanted o (yielded ops a.tmps)=true:=by simp[Region.wanted,hg]
  rw[ak this]
  exact dH h
 ·rename_i j want hg
  split at h
  ·cases h
  ·rename_i t ht
   have ht':(ops[j]?).bind (·.dst)=some t:=by rw[←iH];exact ht
   have hy: ∀b,σ.T t= .val .bool b→yielded ops a.tmps j=some b:=by
    intro b hb
    obtain⟨⟨M,ν,hc⟩,hs,_,_⟩:=hI
    have h1:=hc.tmp t
    rw[hb]at h1
    have h1:=h1.bool
    have h2:a.tmps[t]? =some (.bool b):=by
     rw[tu]at h1
     cases h3:a.tmps[t]? with
     |none=>rw[h3]at h1;simp[undef]at h1
     |some v=>rw[h3]at h1;simpa using h1
    simp[yielded,ht',h2]
   split at h
   ·rename_i b hb
    have qS:σ.put t (.val .bool b)=σ:=by rw[←hb];exact Hc σ t
    have hw:=hy b hb
    cases want<;>cases b
    ·rw[ak (by simp[Region.wanted,hg,hw])]
     rw[qS]at h;exact dH h
    ·rw[ag (by simp[Region.wanted,hg,hw])]
     rw[qS]at h;exact tG _ _ h
    ·rw[ag (by simp[Region.wanted,hg,hw])]
     rw[qS]at h;exact tG _ _ h
    ·rw[ak (by simp[Region.wanted,hg,hw])]
     rw[qS]at h;exact dH h
   ·rename_i hb
    have Bn: ¬Region.wanted o (yielded ops a.tmps)=true:=by
     obtain⟨⟨M,ν,hc⟩,hs,_,_⟩:=hI
     have h1:=hc.tmp t
     rw[hb]at h1
     simp only[VR]at h1
     have h2: ∀b,a.tmps[t]? ≠some (.bool b):=by
      intro b fb
      rw[tu,fb]at h1
      simp[undef]at h1
     have h3:yielded ops a.tmps j=none:=by
      unfold yielded
      rw[ht']
      show(match a.tmps[t]? with|some (.bool b)=>some b|_=>none)=none
      split
      ·rename_i b fb;exact absurd fb (h2 b)
      ·rfl
     simp[Region.wanted,hg,h3]
    rw[ag Bn]
    exact tG _ _ h
   ·cases h
theorem Hd(hE:tF P E){ops:Array Oper}: ∀(l:List Oper) (i:Nat) (σ:St) (lg:Log) (a:Act) (w:World) (K:St→Log→Option α),Inv c E σ a w→Vs E ops.toList l i σ lg K=some r→
  (∀σ' lg' a' w',K σ' lg'=some r→Inv c E σ' a' w'→Q .normal a' w')→wpList P ops Q l a w
 |[],i,σ,lg,a,w,K,hI,h,hn=>hn _ _ _ _ h hI
 |o::l,i,σ,lg,a,w,K,hI,h,hn=>by
  unfold Vs at h
  refine wpList_step λK' hK'=> ?_
  exact D3 hE hI h fun σ' a' w' rd wr h' zD=>hK' _ _ (Hd hE l (i+1) σ' _ a' w' K zD h' hn)
theorem OH(hI:Inv c E σ a w){x:Operand}{A B:St→Option α}(h:Ke E x σ A B=some r): ∃b,a.eval x= .bool b∧(if b then A σ else B σ)=some r:=by
 unfold Ke at h
 split at h
 ·rename_i b hb
  refine⟨b,hI.bool hb,?_⟩
  split at h
  ·rename_i t
   have hb:σ.T t= .val .bool b:=hb
   have qS:σ.put t (.val .bool b)=σ:=by rw[←hb];exact Hc σ t
   cases b
   ·rw[qS]at h;exact h
   ·rw[qS]at h;exact h
  ·cases b<;>exact h
 ·cases h
def mix{β:Type}(A B:Nat→β):Nat→β:=λi=>if i%2=0 then A (i/2)else B (i/2)
theorem jd{β:Type}(A B:Nat→β)(i:Nat):mix A B (2*i)=A i:=by
 unfold mix
 rw[ak ω,show 2*i/2=i from by omega]
theorem wJ{β:Type}(A B:Nat→β)(i:Nat):mix A B (2*i+1)=B i:=by
 unfold mix
 rw[ag ω,show(2*i+1)/2=i from by omega]
theorem aok{β:Type}{A B A' B':Nat→β}(hl: ∀i,A i=A' i)(hr: ∀i,B i=B' i):mix A B=mix A' B':=by
 funext i;unfold mix;rw[hl,hr]
def br.re(f:Nat→Nat):br→br
 | .gk τ x p j=> .gk τ x p (f j)
 |e=>e
theorem ER.re{v:Value}{f:Nat→Nat}{e:br}:ER w M v (e.re f)↔ER w M v e:=by cases e<;>simp[br.re,ER]
theorem br.ss{f:Nat→Nat}{e:br}:(e.re f).mut↔e.mut:=by cases e<;>simp[br.re,br.mut]
theorem br.Uf{f g:Nat→Nat}{e e':br}:(e.re f).lO (e'.re g)↔e.lO e':=by cases e<;>cases e'<;>simp[br.re,br.lO]
def ml(i:Nat):Nat:=2*i
def mr(i:Nat):Nat:=2*i+1
def jR(A B:Nat→Option br):Nat→Option br:=λi=>if i%2=0 then(A (i/2)).map (br.re ml)else(B (i/2)).map (br.re mr)
theorem zY(A B:Nat→Option br)(i:Nat):jR A B (2*i)=(A i).map (br.re ml):=by
 unfold jR
 rw[ak ω,show 2*i/2=i from by omega]
theorem vG(A B:Nat→Option br)(i:Nat):jR A B (2*i+1)=(B i).map (br.re mr):=by
 unfold jR
 rw[ag ω,show(2*i+1)/2=i from by omega]
theorem jj{A B:Nat→Option br}{i:Nat}{e:br}(h:A i=some e):jR A B (2*i)=some (e.re ml):=by rw[zY,h];rfl
theorem vH{A B:Nat→Option br}{i:Nat}{e:br}(h:B i=some e):jR A B (2*i+1)=some (e.re mr):=by rw[vG,h];rfl
theorem L7{A B:Nat→Option br}{i:Nat}:jR A B (2*i)≠none↔A i≠none:=by rw[zY];cases A i<;>simp
theorem L8{A B:Nat→Option br}{i:Nat}:jR A B (2*i+1)≠none↔B i≠none:=by rw[vG];cases B i<;>simp
theorem su(A B:Nat→Option br)(i:Nat)(v:Option br):cm (jR A B) (2*i) (v.map (br.re ml))=jR (cm A i v) B:=by
 funext k
 by_cases hk:k=2*i
 ·subst hk;rw[ay,zY,ay]
 ·rw[az _ _ hk]
  unfold jR
  by_cases h2:k%2=0
  ·rw[ak h2,ak h2,az _ _ ω]
  ·rw[ag h2,ag h2]
theorem He(A B:Nat→Option br)(i:Nat)(v:Option br):cm (jR A B) (2*i+1) (v.map (br.re mr))=jR A (cm B i v):=by
 funext k
 by_cases hk:k=2*i+1
 ·subst hk;rw[ay,vG,ay]
 ·rw[az _ _ hk]
  unfold jR
  by_cases h2:k%2=0
  ·rw[ak h2,ak h2]
  ·rw[ag h2,ag h2,az _ _ ω]
theorem updν_mix_r(A B:Nat→Value)(i:Nat)(v:Value):updν (mix A B) (2*i+1) v=mix A (updν B i v):=by
 funext k
 unfold updν mix
 by_cases hk:k=2*i+1
 ·subst hk;rw[ak rfl,ag ω]
  show v=if(2*i+1)/2=i then v else B ((2*i+1)/2)
  rw[ak ω]
 ·rw[ag hk]
  by_cases h2:k%2=0
  ·rw[ak h2,ak h2]
  ·rw[ag h2,ag h2]
   show B (k/2)=if k/2=i then v else B (k/2)
   rw[ag ω]
theorem Mem.left{H A:Nat→Option br}{νA:Nat→Value}(h:Mem c (jR H A) w M (mix ν νA)):Mem c H w M ν:=
 ⟨λi e hi=>by have:=h.jQ (2*i) _ (jj hi);rw[jd]at this;exact ER.re.1 this,
  λi j e e' b qw hi hm hj ji=>by have:=h.Bf (2*i) (2*j) _ _ b ω (jj hi) (br.ss.2 hm) (jj hj) (br.ss.2 ji);rwa [jd,jd]at this,
  λi e b hi hm=>by have:=h.new (2*i) _ b (jj hi) (br.ss.2 hm);rwa [jd]at this,
  λi e l b hi=>by have:=h.oS (2*i) e l b (jj hi);rwa [jd]at this,
  λi τ x p j hi=>by
   obtain⟨h1,b,h2,h3⟩:=h.gk (2*i) τ x p (ml j) (jj hi)
   rw[jd]at h2
   unfold ml at h1 h3
   rw[jd]at h3
   exact⟨L7.1 h1,b,h2,h3⟩,
  h.sub,h.GI,h.frame,h.size,h.wT,h.os,h.tape,h.output⟩
theorem Mem.right{H A:Nat→Option br}{νA:Nat→Value}(h:Mem c (jR H A) w M (mix ν νA)):Mem c A w M νA:=
 ⟨λi e hi=>by have:=h.jQ (2*i+1) _ (vH hi);rw[wJ]at this;exact ER.re.1 this,
  λi j e e' b qw hi hm hj ji=>by have:=h.Bf (2*i+1) (2*j+1) _ _ b ω (vH hi) (br.ss.2 hm) (vH hj) (br.ss.2 ji);rwa [wJ,wJ]at this,
  λi e b hi hm=>by have:=h.new (2*i+1) _ b (vH hi) (br.ss.2 hm);rwa [wJ]at this,
  λi e l b hi=>by have:=h.oS (2*i+1) e l b (vH hi);rwa [wJ]at this,
  λi τ x p j hi=>by
   obtain⟨h1,b,h2,h3⟩:=h.gk (2*i+1) τ x p (mr j) (vH hi)
   rw[wJ]at h2
   unfold mr at h1 h3
   rw[wJ]at h3
   exact⟨L8.1 h1,b,h2,h3⟩,
  h.sub,h.GI,h.frame,h.size,h.wT,h.os,h.tape,h.output⟩
theorem Mem.acu{H:Nat→Option br}(νA:Nat→Value)(h:Mem c H w M ν):Mem c (jR H (λ_=>none)) w M (mix ν νA):=by
 have key: ∀i e,jR H (λ_=>none) i=some e→ ∃j e0,i=2*j∧H j=some e0∧e=e0.re ml:=by
  intro i e hi
  unfold jR at hi
  by_cases h2:i%2=0
  ·rw[ak h2]at hi
   obtain⟨e0,h3,h4⟩:=AN.1 hi
   exact⟨i/2,e0,ω,h3,h4.symm⟩
  ·rw[ag h2]at hi;cases hi
 refine⟨λi e hi=> ?_,λi j e e' b qw hi hm hj ji=> ?_,λi e b hi hm=> ?_,λi e l b hi=> ?_,λi τ x p j hi=> ?_,h.sub,h.GI,h.frame,h.size,h.wT,h.os,h.tape,h.output⟩
 ·obtain⟨j,e0,rfl,hj,rfl⟩:=key i e hi;rw[jd];exact ER.re.2 (h.jQ j e0 hj)
 ·obtain⟨i',e1,rfl,oj,rfl⟩:=key i e hi;obtain⟨j',e2,rfl,XV,rfl⟩:=key j e' hj
  rw[jd,jd];exact h.Bf i' j' e1 e2 b ω oj (br.ss.1 hm) XV (br.ss.1 ji)
 ·obtain⟨j,e0,rfl,hj,rfl⟩:=key i e hi;rw[jd];exact h.new j e0 b hj (br.ss.1 hm)
 ·obtain⟨j,e0,rfl,hj,he⟩:=key i _ hi
  cases e0<;>simp only[br.re]at he<;>cases he
  rw[jd];exact h.oS j e l b hj
 ·obtain⟨k,e0,rfl,hk,he⟩:=key i _ hi
  cases e0<;>simp only[br.re]at he<;>cases he
  obtain⟨h1,b,h2,h3⟩:=h.gk k _ _ _ _ hk
  refine⟨L7.2 h1,b,by rw[jd];exact h2,?_⟩
  unfold ml
  rw[jd];exact h3
theorem ue.left{H A H' A':Nat→Option br}{νA ν' νA':Nat→Value}(g:ue (jR H A) (mix ν νA) (jR H' A') (mix ν' νA')):ue H ν H' ν':=
 ⟨λi e hi=>by
   obtain⟨e',h1,h2⟩:=g.jQ (2*i) _ (jj hi)
   rw[zY]at h1
   obtain⟨e0,h3,rfl⟩:=AN.1 h1
   exact⟨e0,h3,br.Uf.1 h2⟩,
  λi hi=>by have:=g.head (2*i) (L7.2 hi);rwa [jd,jd]at this⟩
theorem ue.right{H A H' A':Nat→Option br}{νA ν' νA':Nat→Value}(g:ue (jR H A) (mix ν νA) (jR H' A') (mix ν' νA')):ue A νA A' νA':=
 ⟨λi e hi=>by
   obtain⟨e',h1,h2⟩:=g.jQ (2*i+1) _ (vH hi)
   rw[vG]at h1
   obtain⟨e0,h3,rfl⟩:=AN.1 h1
   exact⟨e0,h3,br.Uf.1 h2⟩,
  λi hi=>by have:=g.head (2*i+1) (L8.2 hi);rwa [wJ,wJ]at this⟩
theorem Mem.move{H A:Nat→Option br}{νA:Nat→Value}(h:Mem c (jR H A) w M (mix ν νA)){i j:Nat}{e e1:br}(hi:H i=some e)(hm:e.mut)(hj:A j=none)
  (GV:(e1=e∧ ∀τ x p k,e≠ .gk τ x p k)∨ ∃τ x p k k',e= .gk τ x p k∧e1= .gk τ x p k'∧A k'≠none∧νA k'=ν k):
  Tr c (jR H A) w M (mix ν νA) (jR (cm H i (some .gone)) (cm A j (some e1))) w M (mix ν (updν νA j (ν i))):=by
 have hg:=Tr.gone h (2*i)
 have hgo:(some br.gone)=(some br.gone).map (br.re ml):=rfl
 rw[hgo,su]at hg
 have Uc:=jj (B:=A) hi
 have hER:ER w M (ν i) (e1.re mr):=by
  have h1:=h.jQ (2*i) _ Uc
  rw[jd]at h1
  have h1:=ER.re.1 h1
  rcases GV with⟨rfl,_⟩|⟨τ,x,p,k,k',rfl,rfl,_,_⟩
  ·exact ER.re.2 h1
  ·exact h1
 have h2:=Mem.xN hg.mem (id:=2*j+1) (v:=ν i) (e:=e1.re mr) (λe' uw=>by rw[vG,hj]at uw;cases uw)
  hER
  (λb hb k e' hk ji=>by
   by_cases VK:k=2*i
   ·subst VK;rw[zY,ay]at hk;cases hk;simp[br.re,br.mut]at ji
   ·have hk3:jR H A k=some e':=by
     have:=congrFun (su H A i (some .gone)) k
     rw[az _ _ VK]at this
     rw[this];exact hk
    have:=h.Bf (2*i) k _ e' b (fk VK) Uc (br.ss.2 hm) hk3 ji
    rw[jd]at this
    exact this hb)
  (λb hb=>by have:=h.new (2*i) _ b Uc (br.ss.2 hm);rw[jd]at this;exact this hb)
  (λb e0 l0 he hb=>by
   rcases GV with⟨rfl,_⟩|⟨τ,x,p,k,k',rfl,rfl,_,_⟩
   ·cases e1<;>simp only[br.re]at he<;>cases he
    have:=h.oS (2*i) e0 l0 b Uc;rw[jd]at this;exact this hb
   ·simp[br.re]at he)
  (.inl (by rw[vG,hj];rfl))
  (fun τ x p k he=>by
   rcases GV with⟨rfl,hn⟩|⟨τ,x,p,k,k',rfl,rfl,hk,hνk⟩
   ·cases e1<;>simp only[br.re]at he<;>cases he
    exact absurd rfl (hn _ _ _ _)
   ·simp only[br.re]at he
    cases he
    obtain⟨_,b,h4,h5⟩:=h.gk (2*i) _ _ _ _ Uc
    rw[jd]at h4
    have hkj:k'≠j:=λe=>hk (e▸hj)
    refine⟨?_,b,h4,?_⟩
    ·rw[az _ _ (by unfold mr;omega)]
     unfold mr
     exact L8.2 hk
    ·unfold ml at h5
     rw[jd]at h5
     rw[h5,←hνk]
     have:updν (mix ν νA) (2*j+1) (ν i) (mr k')=mix ν νA (mr k'):=by
      unfold updν mr;rw[ag ω]
     rw[this];unfold mr;rw[wJ])
 have YI:some (e1.re mr)=(some e1).map (br.re mr):=rfl
 rw[YI,He,updν_mix_r]at h2
 refine⟨h2,.refl w M,⟨λk e' hk=> ?_,λk hk=> ?_⟩⟩
 ·by_cases h3:k%2=0
  ·obtain⟨k',rfl⟩: ∃k',k=2*k':=⟨k/2,ω⟩
   by_cases Hb:k'=i
   ·subst Hb;exact⟨.gone,by rw[zY,ay];rfl,br.kp _⟩
   ·exact⟨e',by rw[zY]at hk ⊢;rw[az _ _ Hb];exact hk,.refl e'⟩
  ·obtain⟨k',rfl⟩: ∃k',k=2*k'+1:=⟨k/2,ω⟩
   rw[vG]at hk ⊢
   have Hb:k'≠j:=λe=>by rw[e,hj]at hk;cases hk
   exact⟨e',by rw[az _ _ Hb];exact hk,.refl e'⟩
 ·by_cases h3:k%2=0
  ·obtain⟨k',rfl⟩: ∃k',k=2*k':=⟨k/2,ω⟩
   rw[jd,jd]
  ·obtain⟨k',rfl⟩: ∃k',k=2*k'+1:=⟨k/2,ω⟩
   rw[wJ,wJ]
   have Hb:k'≠j:=λe=>by rw[vG,e,hj]at hk;exact hk rfl
   simp[updν,Hb]
theorem Mem.fresh{H A:Nat→Option br}{νA:Nat→Value}(h:Mem c (jR H A) w M (mix ν νA)){j:Nat}(hj:A j=none)(e:Ty)(ad:Option Addr):
  Tr c (jR H A) w M (mix ν νA) (jR H (cm A j (some (.own e [])))) w M (mix ν (updν νA j (.slice ad 0 0))):=by
 have:=Tr.nothing h (id:=2*j+1) (by rw[vG,hj];rfl) e ad
 have YI:some (br.own e [])=(some (br.own e [])).map (br.re mr):=rfl
 rw[YI,He,updν_mix_r]at this
 exact this
structure Cut(c:Ctx)(σ acc:St)(tm:Array Value)(w:World)(M:Nat→Prop)(ν νA:Nat→Value):Prop where
 mem:Mem c (jR σ.H acc.H) w M (mix ν νA)
 src: ∀i,VR w M σ.H ν (σ.T i) (tm.getD i undef)
 dst: ∀i,VR w M acc.H νA (acc.T i) (tm.getD i undef)
theorem Cut.tr{acc:St}{tm:Array Value}{νA:Nat→Value}(h:Cut c σ acc tm w M ν νA){H' A':Nat→Option br}{M':Nat→Prop}{νA':Nat→Value}(t:Tr c (jR σ.H acc.H) w M (mix ν νA) (jR H' A') w M' (mix ν νA')){s:Nat}{x:bG}(hx:VR w M' A' νA' x (tm.getD s undef)):
  Cut c ⟨σ.T,H'⟩ ⟨(acc.put s x).T,A'⟩ tm w M' ν νA':=by
 refine⟨t.mem,λi=>VR.ch t.ch t.goes.left (h.src i),λi=> ?_⟩
 show VR w M' A' νA' ((acc.put s x).T i) _
 by_cases hi:i=s
 ·subst hi;rw[vF];exact hx
 ·rw[BB _ _ hi];exact VR.ch t.ch t.goes.right (h.dst i)
def YJ(A:Nat→Option br)(s:Nat):Prop:=A (16*s+13)=none∧A (16*s+14)=none∧A (16*s+15)=none
theorem nj{q:Nat×CM}{L:List (Nat×CM)}{A:Nat→Option br}(hF:kW (q::L)=true)(hN: ∀p∈q::L,YJ A p.1):
  kW L=true∧(∀p∈L,YJ A p.1)∧
   ∀(A':Nat→Option br) (d:Nat) (v:Option br),(d=16*q.1+13∨d=16*q.1+14∨d=16*q.1+15)→(∀p∈L,YJ A' p.1)→ ∀p∈L,YJ (cm A' d v) p.1:=by
 unfold kW at hF
 rw[bQ,pF]at hF
 refine⟨hF.2,λp hp=>hN p (ba _ hp),λA' d v hd hN' p hp=> ?_⟩
 have kN:p.1≠q.1:=λe=>by
  have:=hF.1 p hp
  rw[e]at this
  simp at this
 obtain⟨h1,h2,h3⟩:=hN' p hp
 exact⟨by rw[az _ _ ω];exact h1,by rw[az _ _ ω];exact h2,by rw[az _ _ ω];exact h3⟩
theorem fL{tm:Array Value}: ∀(L:List (Nat×CM)) (σ acc:St) (M:Nat→Prop) (νA:Nat→Value) (K:St→Option α),Cut c σ acc tm w M ν νA→kW L=true→(∀q∈L,YJ acc.H q.1)→iR L σ acc K=some r→
  ∃acv M' νA',K acv=some r∧Core c acv tm w M' νA'
 |[],σ,acc,M,νA,K,hC,_,_,h=>⟨acc,M,νA,h,hC.mem.right,hC.dst⟩
 |(s,.v τ)::L,σ,acc,M,νA,K,hC,hF,hN,h=>by
  obtain⟨R7,R8,VQ⟩:=nj hF hN
  unfold iR at h
  obtain⟨y,rd,ups,h,hy⟩:=FK hC.mem.left (hC.src s) h
  rcases hy with⟨rfl,hV⟩|⟨id,e,l,rfl,bl,hV⟩
  ·exact fL L σ _ M νA K (hC.tr (.refl hC.mem) (x:= .val τ y) (by simp only[VR];exact hV)) R7 R8 h
  ·obtain⟨M2,gw,_,LR⟩:=Tr.freeze hC.mem (id:=2*id) (jj bl)
   have YI:some (br.pG e l)=(some (br.pG e l)).map (br.re ml):=rfl
   rw[YI,su]at gw
   refine fL L _ _ M2 νA K (hC.tr gw (x:= .val τ y) ?_) R7 R8 h
   simp only[VR]
   exact hV M2 (λb=>by rw[LR b,jd])
 |(s,.own e)::L,σ,acc,M,νA,K,hC,hF,hN,h=>by
  obtain⟨R7,R8,VQ⟩:=nj hF hN
  unfold iR at h
  have hs:=hC.src s
  split at h
  ·rename_i hT
   have hj:=(hN _ bu).2.1
   rw[hT]at hs
   obtain⟨ad,hv⟩:=VR.emp.1 hs
   refine fL L σ _ M _ K (hC.tr (hC.mem.fresh hj e ad) (x:= .ref (16*s+14)) ?_) R7 (VQ _ _ _ (.inr (.inl rfl)) R8) h
   simp only[VR]
   exact⟨by rw[ay];simp,by rw[hv];simp[updν]⟩
  ·rename_i id hT
   rw[hT]at hs
   simp only[VR]at hs
   split at h
   ·rename_i e' l bl
    obtain⟨e1,h⟩:=bA h
    cases e1
    have hj:=(hN _ bu).2.1
    refine fL L _ _ M _ K (hC.tr (hC.mem.move bl trivial hj (.inl ⟨rfl,λ_ _ _ _=>by simp⟩)) (x:= .ref (16*s+14)) ?_) R7 (VQ _ _ _ (.inr (.inl rfl)) R8) h
    simp only[VR]
    exact⟨by rw[ay];simp,by rw[hs.2];simp[updν]⟩
   ·cases h
  ·cases h
 |(s,.obj τ)::L,σ,acc,M,νA,K,hC,hF,hN,h=>by
  obtain⟨R7,R8,VQ⟩:=nj hF hN
  unfold iR at h
  have hs:=hC.src s
  split at h
  ·rename_i id hT
   rw[hT]at hs
   split at h
   ·rename_i υ x bl
    obtain⟨e1,h⟩:=bA h
    subst e1
    have hj:=(hN _ bu).2.1
    simp only[VR]at hs
    obtain⟨e,he,lQ⟩:=hs
    rw[bl]at he;cases he
    simp only[AR]at lQ
    obtain⟨_,b,hb,hv⟩:=lQ
    refine fL L _ _ M _ K (hC.tr (hC.mem.move bl trivial hj (.inl ⟨rfl,λ_ _ _ _=>by simp⟩)) (x:= .jf (16*s+14) []) ?_) R7 (VQ _ _ _ (.inr (.inl rfl)) R8) h
    simp only[VR]
    exact⟨_,ay _ _ _,trivial,b,by simp[updν,hb],hv⟩
   ·
    rename_i υ x q k bl
    obtain⟨z,ups,M2,hK,gw,apt,b,cs,t,hb,hg,LR,kD⟩: ∃z ups M2,cR υ τ z (λy=>iR L ((σ.xq ups).kt id (some .gone)) ((acc.put s (.jf (16*s+14) [])).kt (16*s+14) (some (.obj τ y))) K)=some r∧
      Tr c (jR σ.H acc.H) w M (mix ν νA) (jR (cU σ.H ups) acc.H) w M2 (mix ν νA)∧cU σ.H ups id=some (.gk υ x q k)∧ ∃b cs t,ν id= .pointer (some ⟨b,0,none⟩)∧w.heap[b]? =some (.cells cs t (0,0))∧M2 b∧Rd w M2 υ cs.toList z:=by
     have apu:=jj (B:=acc.H) bl
     unfold CD at h
     split at h
     ·rename_i e l hk
      have kN:id≠k:=λe=>by rw[e,hk]at bl;cases bl
      obtain⟨z,ups,M2,hK,gw,_,hc2,b,cs,t,hb,hg,LR,kD⟩:=vC (H:=jR σ.H acc.H) hC.mem (id:=2*id) (j:=2*k) (x:=x) (q:=q)
       (k:=λz _=>cR υ τ z λy=>iR L ((σ.xq [(k,some (.pG e l))]).kt id (some .gone)) ((acc.put s (.jf (16*s+14) [])).kt (16*s+14) (some (.obj τ y))) K) apu (by
        unfold CD
        rw[jj hk]
        exact h)
      rw[jd]at hb
      rcases hc2 with⟨e2,l2,h2,_⟩|⟨e2,l2,h2,rfl⟩
      ·rw[jj hk]at h2;simp[br.re]at h2
      ·rw[jj hk]at h2
       simp only[br.re,iI]at h2
       have YI:some (br.pG e l)=(some (br.pG e l)).map (br.re ml):=rfl
       have xG:Tr c (jR σ.H acc.H) w M (mix ν νA) (cm (jR σ.H acc.H) (2*k) (some (.pG e l))) w M2 (mix ν νA):=by
        cases h2;exact gw
       rw[YI,su]at xG
       exact⟨z,_,M2,hK,xG,by show cm σ.H k _ id=_;rw[az _ _ kN];exact bl,b,cs,t,hb,hg,LR,kD⟩
     ·rename_i e l hk
      obtain⟨z,ups,M2,hK,gw,_,hc2,b,cs,t,hb,hg,LR,kD⟩:=vC (H:=jR σ.H acc.H) hC.mem (id:=2*id) (j:=2*k) (x:=x) (q:=q)
       (k:=λz _=>cR υ τ z λy=>iR L ((σ.xq []).kt id (some .gone)) ((acc.put s (.jf (16*s+14) [])).kt (16*s+14) (some (.obj τ y))) K) apu (by
        unfold CD
        rw[jj hk]
        exact h)
      rw[jd]at hb
      rcases hc2 with⟨e2,l2,h2,rfl⟩|⟨e2,l2,h2,_⟩
      ·exact⟨z,[],M2,hK,gw,bl,b,cs,t,hb,hg,LR,kD⟩
      ·rw[jj hk]at h2;simp[br.re]at h2
     ·cases h
    obtain⟨e1,hK⟩:=bA hK
    subst e1
    have hC2:Cut c ⟨σ.T,cU σ.H ups⟩ acc tm w M2 ν νA:=⟨gw.mem,λi=>VR.ch gw.ch gw.goes.left (hC.src i),λi=>VR.ch gw.ch gw.goes.right (hC.dst i)⟩
    have w8:=Tr.JD (e':= .obj υ z) gw.mem (jj apt) trivial trivial rfl (λ_ _=>by simp) (by rw[jd];simp only[ER];exact⟨b,cs,t,hb,hg,LR,kD⟩) (λ_ _ _ _ h=>by cases h)
    have YI:some (br.obj υ z)=(some (br.obj υ z)).map (br.re ml):=rfl
    rw[YI,su]at w8
    have hC3:Cut c ⟨σ.T,cm (cU σ.H ups) id (some (.obj υ z))⟩ acc tm w M2 ν νA:=⟨w8.mem,λi=>VR.ch w8.ch w8.goes.left (hC2.src i),λi=>VR.ch w8.ch w8.goes.right (hC2.dst i)⟩
    have hj:=(hN _ bu).2.1
    simp only[VR]at hs
    obtain⟨e,he,lQ⟩:=hs
    rw[bl]at he;cases he
    simp only[AR]at lQ
    obtain⟨_,b',fb,hv⟩:=lQ
    rw[hb]at fb;cases fb
    have hmv:=hC3.mem.move (ay _ _ _) trivial hj (.inl ⟨rfl,λ_ _ _ _=>by simp⟩)
    rw[zS]at hmv
    have w7:(σ.xq ups).kt id (some .gone)=⟨σ.T,cm (cU σ.H ups) id (some .gone)⟩:=by
     have h2:σ.xq ups=⟨σ.T,cU σ.H ups⟩:=by rw[←Se,←Sf ups σ]
     rw[h2];rfl
    rw[w7]at hK
    refine fL L _ _ M2 _ K (hC3.tr hmv (x:= .jf (16*s+14) []) ?_) R7 (VQ _ _ _ (.inr (.inl rfl)) R8) hK
    simp only[VR]
    exact⟨_,ay _ _ _,trivial,b,by simp[updν,hb],hv⟩
   ·cases h
  ·cases h
 |(s,.gk τ q e)::L,σ,acc,M,νA,K,hC,hF,hN,h=>by
  obtain⟨R7,R8,VQ⟩:=nj hF hN
  unfold iR at h
  have hs:=hC.src s
  split at h
  ·rename_i id hT
   rw[hT]at hs
   split at h
   ·rename_i υ x q' k bl
    obtain⟨hpq,h1⟩:=cG h
    clear h
    have:=zQ hpq
    subst this
    split at h1
    ·rename_i e' l hk
     obtain⟨e1,h2⟩:=bA h1
     clear h1
     subst e1
     obtain⟨e2,h⟩:=bA h2
     cases e2
     have kN:id≠k:=λe=>by rw[e,hk]at bl;cases bl
     obtain⟨avA,avB,_⟩:=hN _ bu
     simp only[VR]at hs
     obtain⟨e,he,lQ⟩:=hs
     rw[bl]at he;cases he
     simp only[AR]at lQ
     obtain⟨_,b,hb,hv⟩:=lQ
     have ug:=hC.mem.move hk trivial avA (.inl ⟨rfl,λ_ _ _ _=>by simp⟩)
     have qx:cm σ.H k (some .gone) id=some (.gk υ x q k):=by rw[az _ _ kN];exact bl
     have yP:=ug.mem.move qx trivial (j:=16*s+14) (e1:= .gk υ x q (16*s+13)) (by rw[az _ _ ω];exact avB)
      (.inr ⟨υ,x,q,k,16*s+13,rfl,rfl,by rw[ay];simp,by simp[updν]⟩)
     refine fL L _ _ M _ K (hC.tr (ug.trans yP) (s:=s) (x:= .jf (16*s+14) []) ?_) R7 (VQ _ _ _ (.inr (.inl rfl)) (VQ _ _ _ (.inl rfl) R8)) h
     simp only[VR]
     exact⟨_,ay _ _ _,trivial,b,by simp[updν,hb],hv⟩
    ·cases h1
   ·cases h
  ·cases h
 |(s,.same s')::L,σ,acc,M,νA,K,hC,hF,hN,h=>by
  obtain⟨R7,R8,VQ⟩:=nj hF hN
  unfold iR at h
  split at h
  ·rename_i i j j' h1 h2 h3
   obtain⟨hb,h⟩:=cG h
   have hb:=fF hb
   have e1:=hC.src s
   have e2:=hC.src s'
   have e3:=hC.dst s'
   rw[h1]at e1;rw[h2]at e2;rw[h3]at e3
   simp only[VR]at e1 e2 e3
   refine fL L σ _ M νA K (hC.tr (.refl hC.mem) (x:= .ref j') ?_) R7 R8 h
   simp only[VR]
   exact⟨e3.1,by rw[e1.2,hb,←e2.2,e3.2]⟩
  ·cases h
 |(s,.io τ)::L,σ,acc,M,νA,K,hC,hF,hN,h=>by
  obtain⟨R7,R8,VQ⟩:=nj hF hN
  unfold iR at h
  have hs:=hC.src s
  split at h
  ·rename_i id hT
   rw[hT]at hs
   obtain⟨_,h⟩:=cG h
   split at h
   ·rename_i υ x bl
    obtain⟨e1,h⟩:=bA h
    subst e1
    have hj:=(hN _ bu).2.2
    simp only[VR]at hs
    obtain⟨e,he,lQ⟩:=hs
    rw[bl]at he;cases he
    simp only[AR]at lQ
    obtain⟨_,b,hb,hv⟩:=lQ
    refine fL L _ _ M _ K (hC.tr (hC.mem.move bl trivial hj (.inl ⟨rfl,λ_ _ _ _=>by simp⟩)) (x:= .jf (16*s+15) []) ?_) R7 (VQ _ _ _ (.inr (.inr rfl)) R8) h
    simp only[VR]
    exact⟨_,ay _ _ _,trivial,b,by simp[updν,hb],hv⟩
   ·cases h
  ·cases h
 |(s,.fn f τ)::L,σ,acc,M,νA,K,hC,hF,hN,h=>by
  obtain⟨R7,R8,VQ⟩:=nj hF hN
  unfold iR at h
  have hs:=hC.src s
  split at h
  ·rename_i f' cs hT
   rw[hT]at hs
   obtain⟨hb,h1⟩:=cG h
   clear h
   have hb:=fF hb
   subst hb
   simp only[VR]at hs
   obtain⟨us,hv,hvs⟩:=hs
   obtain⟨y,rd,ups,h,hy⟩:=G6 hC.mem.left hvs h1
   split at h
   ·refine fL L σ _ M νA K (hC.tr (.refl hC.mem) (x:= .N7 f (qP τ y)) ?_) R7 R8 h
    simp only[VR]
    exact⟨us,hv,jP.free (hy rfl)⟩
   ·cases h
  ·cases h
theorem zZ(hI:Inv c E σ a w){L:Option (List (Nat×CM))}(hL: ∀L',L=some L'→kW L'=true){K:St→Option α}(h:xz L σ K=some r): ∃σ',K σ'=some r∧Inv c E σ' a w:=by
 unfold xz at h
 split at h
 ·exact⟨σ,h,hI⟩
 ·have hfr:=hL _ rfl
  obtain⟨⟨M,ν,hc⟩,hs,hd⟩:=hI
  obtain⟨acv,M',νA',hK,apv⟩:=fL (tm:=a.tmps) _ σ ⟨λ_=> .any,λ_=>none⟩ M (λ_=>undef) K ⟨hc.mem.acu _,hc.tmp,λi=>by simp[VR]⟩ hfr (λ_ _=>⟨rfl,rfl,rfl⟩) h
  exact⟨acv,hK,⟨M',νA',apv⟩,hs,hd⟩
end VM
end
section
namespace VM
open Go
variable{α:Type}{r:α}
theorem dK{υ τ:Ty}{y:υ.den}{k:τ.den→Option α}(h:cR υ τ y k=some r): ∃z,k z=some r∧ ∀k':τ.den→Option α,cR υ τ y k'=k' z:=by
 obtain⟨e,h⟩:=bA h
 subst e
 exact⟨y,h,λk'=>by simp[cR]⟩
theorem gP{υ τ:Ty}{k:Option α}(h:jt υ τ k=some r):k=some r∧ ∀k':Option α,jt υ τ k'=k':=by
 obtain⟨e,h1⟩:=dX h
 clear h
 subst e
 exact⟨h1,λk'=>by simp[jt]⟩
theorem eK{b:Bool}{K:Option α}(h:cond b K none=some r):K=some r∧ ∀K':Option α,cond b K' none=K':=by
 obtain⟨rfl,h⟩:=cG h
 exact⟨h,λ_=>rfl⟩
theorem uS{b:Bool}{K:Option α}(h:cond b none K=some r):K=some r∧ ∀K':Option α,cond b none K'=K':=by
 obtain⟨rfl,h⟩:=nE h
 exact⟨h,λ_=>rfl⟩
theorem yT: ∀{τ:Ty} {x:τ.den} {n:Nat} {k:(υ:Ty)→υ.den→Option α},vv τ x n k=some r→ ∃υ y,k υ y=some r∧ ∀k':(υ:Ty)→υ.den→Option α,vv τ x n k'=k' υ y
 | .pair a b,x,0,k,h=>⟨a,x.1,h,λ_=>rfl⟩
 | .pair a b,x,n+1,k,h=>by
  obtain⟨υ,y,h1,h2⟩:=yT (τ:=b) (x:=x.2) (n:=n) (k:=k) h
  exact⟨υ,y,h1,λk'=>h2 k'⟩
 | .int _,_,_,_,h| .bool,_,_,_,h| .str,_,_,_,h| .slice _,_,_,_,h| .unit,_,_,_,h| .arr _ _,_,_,_,h=>by simp[vv]at h
theorem z6: ∀{τ:Ty} {x:τ.den} {n:Nat} {m:(υ:Ty)→υ.den→(υ.den→Option α)→Option α} {k:τ.den→Option α},
  (∀υ y (k:υ.den→Option α),m υ y k=some r→ ∃z,k z=some r∧ ∀k':υ.den→Option α,m υ y k'=k' z)→fZ τ x n m k=some r→ ∃z,k z=some r∧ ∀k':τ.den→Option α,fZ τ x n m k'=k' z
 | .pair a b,x,0,m,k,hm,h=>by
  obtain⟨z,h1,h2⟩:=hm a x.1 _ h
  exact⟨(z,x.2),h1,λk'=>h2 _⟩
 | .pair a b,x,n+1,m,k,hm,h=>by
  obtain⟨z,h1,h2⟩:=z6 (τ:=b) (x:=x.2) (n:=n) (m:=m) (k:=λz=>k (x.1,z)) hm h
  exact⟨(x.1,z),h1,λk'=>h2 (λz=>k' (x.1,z))⟩
 | .int _,_,_,_,_,_,h| .bool,_,_,_,_,_,h| .str,_,_,_,_,_,h| .slice _,_,_,_,_,_,h| .unit,_,_,_,_,_,h| .arr _ _,_,_,_,_,_,h=>by simp[fZ]at h
theorem iK: ∀{p:List Step} {τ:Ty} {x:τ.den} {k:(υ:Ty)→υ.den→Option α},Bb p τ x k=some r→ ∃υ y,k υ y=some r∧ ∀k':(υ:Ty)→υ.den→Option α,Bb p τ x k'=k' υ y
 |[],τ,x,k,h=>⟨τ,x,h,λ_=>rfl⟩
 | .gM n::p,τ,x,k,h=>by
  obtain⟨υ,y,h1,h2⟩:=yT (h:vv τ x n _=some r)
  obtain⟨υ',y',h3,h4⟩:=iK h1
  exact⟨υ',y',h3,λk'=>(h2 _).trans (h4 k')⟩
 | .idx i::p,τ,x,k,h=>by
  cases τ with
  |arr n e=>
   obtain⟨υ',y',h3,h4⟩:=iK (p:=p) (τ:=e) (x:=γ x i e.zero) (k:=k) h
   exact⟨υ',y',h3,λk'=>h4 k'⟩
  |_=>simp[Bb,aj5]at h
theorem pJ{υ:Ty}{y:υ.den}: ∀{p:List Step} {τ:Ty} {x:τ.den} {k:τ.den→Option α},wQ υ y p τ x k=some r→ ∃z,k z=some r∧ ∀k':τ.den→Option α,wQ υ y p τ x k'=k' z
 |[],τ,x,k,h=>dK h
 | .gM n::p,τ,x,k,h=>z6 (λ_ _ _ h=>pJ h) h
 | .idx i::p,τ,x,k,h=>by
  cases τ with
  |arr n e=>
   obtain⟨z,h1,h2⟩:=pJ (p:=p) (τ:=e) (x:=γ x i e.zero) (k:=λz=>k (List.set x i z)) h
   exact⟨_,h1,λk'=>h2 (λz=>k' (List.set x i z))⟩
  |_=>simp[wQ,FB]at h
theorem q5{a:bG}{k:IntKind→Int→Option α}(h:wR a k=some r): ∃i n,k i n=some r∧ ∀k':IntKind→Int→Option α,wR a k'=k' i n:=by
 obtain⟨i,n,rfl,h⟩:=oq h
 exact⟨i,n,h,λ_=>rfl⟩
theorem Ug{a:bG}{k:(τ:Ty)→τ.den→Option α}(h:N9 a k=some r): ∃τ x,k τ x=some r∧ ∀k':(τ:Ty)→τ.den→Option α,N9 a k'=k' τ x:=by
 unfold N9 at h
 split at h
 ·exact⟨_,_,h,λ_=>rfl⟩
 ·cases h
theorem vI{a:Option bG}{d:Int}{k:Int→Option α}(h:zm a d k=some r): ∃n,k n=some r∧ ∀k':Int→Option α,zm a d k'=k' n:=by
 cases a with
 |none=>exact⟨d,h,λ_=>rfl⟩
 |some a=>
  obtain⟨i,n,h1,h2⟩:=q5 (h:wR a (λ_ x=>k x)=some r)
  exact⟨n,h1,λk'=>h2 (λ_ x=>k' x)⟩
abbrev Ag(rd:List Nat)(H H':Nat→Option br):Prop:= ∀i∈rd,H' i=H i
theorem pK{fz:Bool}{a:bG}{H:Nat→Option br}{τ:Ty}{k:τ.den→List Nat→js→Option α}(h:nc fz a H τ k=some r):
  ∃y rd ups,k y rd ups=some r∧ ∀H',Ag rd H H'→ ∀k':τ.den→List Nat→js→Option α,nc fz a H' τ k'=k' y rd ups:=by
 cases a with
 |val υ x=>
  simp only[nc]at h
  obtain⟨z,h1,h2⟩:=dK h
  refine⟨z,[],[],h1,λH' _ k'=> ?_⟩
  simp only[nc]
  exact h2 (λy=>k' y [] [])
 |LG υ x n=>
  simp only[nc]at h
  obtain⟨z,h1,h2⟩:=dK h
  refine⟨z,[],[],h1,λH' _ k'=> ?_⟩
  simp only[nc]
  exact h2 (λy=>k' y [] [])
 |emp=>
  cases τ with
  |slice e=>exact⟨[],[],[],h,λ_ _ _=>rfl⟩
  |_=>cases h
 |ref id=>
  have h:(match H id with
   |some (.own e l)=>cR (.slice e) τ l λy=>k y [id] (cond fz [(id,some (.pG e l))] [])
   |some (.pG e l)=>cR (.slice e) τ l λy=>k y [id] []
   |_=>none)=some r:=h
  cases hH:H id with
  |none=>rw[hH]at h;cases h
  |some e=>
   rw[hH]at h
   cases e with
   |own e l=>
    obtain⟨z,h1,h2⟩:=dK (h:cR (.slice e) τ l _=some r)
    refine⟨z,_,_,h1,λH' hA k'=> ?_⟩
    have:H' id=some (.own e l):=by rw[hA id (by simp),hH]
    show(match H' id with
     |some (.own e l)=>cR (.slice e) τ l λy=>k' y [id] (cond fz [(id,some (.pG e l))] [])
     |some (.pG e l)=>cR (.slice e) τ l λy=>k' y [id] []
     |_=>none)=_
    rw[this];exact h2 _
   |pG e l=>
    obtain⟨z,h1,h2⟩:=dK (h:cR (.slice e) τ l _=some r)
    refine⟨z,_,_,h1,λH' hA k'=> ?_⟩
    have:H' id=some (.pG e l):=by rw[hA id (by simp),hH]
    show(match H' id with
     |some (.own e l)=>cR (.slice e) τ l λy=>k' y [id] (cond fz [(id,some (.pG e l))] [])
     |some (.pG e l)=>cR (.slice e) τ l λy=>k' y [id] []
     |_=>none)=_
    rw[this];exact h2 _
   |obj _ _=>cases h
   |gk _ _ _ _=>cases h
   |gone=>cases h
 |any|Yd|jf _ _|sd _ _|tup _|N7 _ _|Jy _ _ _ _|sub _ _ _=>cases h
theorem yU{id:Nat}{p:List Step}{H:Nat→Option br}{k:Ty→Option α}(h:mf id p H k=some r): ∃υ,k υ=some r∧ ∀H',H' id=H id→ ∀k':Ty→Option α,mf id p H' k'=k' υ:=by
 unfold mf at h
 split at h
 ·rename_i τ x bl
  obtain⟨υ,y,h1,h2⟩:=iK h
  exact⟨υ,h1,λH' hA k'=>by unfold mf;rw[hA,bl];exact h2 _⟩
 ·rename_i τ x _ _ bl
  obtain⟨υ,y,h1,h2⟩:=iK h
  exact⟨υ,h1,λH' hA k'=>by unfold mf;rw[hA,bl];exact h2 _⟩
 ·rename_i e l bl
  split at h
  ·obtain⟨υ,y,h1,h2⟩:=iK h
   exact⟨υ,h1,λH' hA k'=>by unfold mf;rw[hA,bl];exact h2 _⟩
  ·cases h
 ·rename_i e l bl
  split at h
  ·obtain⟨υ,y,h1,h2⟩:=iK h
   exact⟨υ,h1,λH' hA k'=>by unfold mf;rw[hA,bl];exact h2 _⟩
  ·cases h
 ·cases h
theorem yV{H:Nat→Option br}{id:Nat}{e:br}{K:Option α}(h:se H id e K=some r):K=some r∧ ∀H',H' id=H id→ ∀(e':br) (K':Option α),se H' id e' K'=K':=by
 obtain⟨h1,h2⟩:=mD h
 exact⟨h2,λH' hA e' K'=>by unfold se;rw[hA,h1]⟩
theorem VS{b:BinOp}{k:IntKind}{x y:Int}{K:bG→Option α}(h:vx b k x y K=some r): ∃v,K v=some r∧ ∀K':bG→Option α,vx b k x y K'=K' v:=by
 cases b<;>simp only[vx]at h ⊢ <;>first
  |exact⟨_,h,λ_=>rfl⟩
  |(obtain⟨h1,h2⟩:=uS h;exact⟨_,h1,λ_=>h2 _⟩)
  |cases h
theorem akG{b:BinOp}{k:IntKind}{x y:Int}{K:bG→Option α}(h:shK b k x y K=some r): ∃v,K v=some r∧ ∀K':bG→Option α,shK b k x y K'=K' v:=by
 cases b<;>simp only[shK]at h ⊢ <;>first
  |(obtain⟨h1,h2⟩:=uS h;exact⟨_,h1,λ_=>h2 _⟩)
  |cases h
theorem YK{t:Option Ty}{op:BinOp}{τ:Ty}{x:τ.den}{υ:Ty}{y:υ.den}{K:bG→Option α}(h:GH t op τ x υ y K=some r): ∃v,K v=some r∧ ∀K':bG→Option α,GH t op τ x υ y K'=K' v:=by
 unfold GH at h ⊢
 split at h
 ·rename_i k x k' y
  cases hs:ab2 op
  ·rw[hs]at h
   have h:(if k=k' then vx op k x y K else none)=some r:=h
   by_cases hk:k=k'
   ·rw[ak hk]at h
    obtain⟨v,h1,h2⟩:=VS h
    exact⟨v,h1,λK'=>by simp only[av,ak hk];exact h2 K'⟩
   ·rw[ag hk]at h;cases h
  ·rw[hs]at h
   obtain⟨v,h1,h2⟩:=akG (h:shK op k x y K=some r)
   exact⟨v,h1,λK'=>by simp only[aj];exact h2 K'⟩
 ·split at h
  ·cases h
  ·obtain⟨h1,h2⟩:=gP h
   obtain⟨h3,h4⟩:=eK h1
   split at h3
   ·obtain⟨z,h5,h6⟩:=dK h3
    exact⟨_,h5,λK'=>by rw[h2,h4];exact h6 _⟩
   ·obtain⟨z,h5,h6⟩:=dK h3
    exact⟨_,h5,λK'=>by rw[h2,h4];exact h6 _⟩
   ·cases h3
theorem acw{u:UnOp}{a:bG}{K:bG→Option α}(h:Vr u a K=some r): ∃v,K v=some r∧ ∀K':bG→Option α,Vr u a K'=K' v:=by
 unfold Vr at h
 split at h<;>first
  |exact⟨_,h,λ_=>rfl⟩
  |cases h
theorem Sp{up:Bool}: ∀{xs:List bG} {a:bG} {K:bG→Option α},mmK up a xs K=some r→ ∃v,K v=some r∧ ∀K':bG→Option α,mmK up a xs K'=K' v
 |[],a,K,h=>⟨a,h,λ_=>rfl⟩
 |b::xs,a,K,h=>by
  unfold mmK at h
  obtain⟨k,x,h1,h2⟩:=q5 h
  obtain⟨k',y,h3,h4⟩:=q5 h1
  by_cases hk:k=k'
  ·rw[ak hk]at h3
   obtain⟨v,h5,h6⟩:=Sp h3
   refine⟨v,h5,λK'=> ?_⟩
   unfold mmK
   rw[h2,h4,ak hk]
   exact h6 K'
  ·rw[ag hk]at h3;cases h3
theorem acx{τ:Ty}{a:bG}{H:Nat→Option br}{K:gS α}(h:Oa τ a H K=some r): ∃v rd ups,K v rd ups=some r∧ ∀H',Ag rd H H'→ ∀K':gS α,Oa τ a H' K'=K' v rd ups:=by
 unfold Oa at h
 split at h
 ·exact⟨_,_,_,h,λ_ _ _=>rfl⟩
 ·exact⟨_,_,_,h,λ_ _ _=>rfl⟩
 ·exact⟨_,_,_,h,λ_ _ _=>rfl⟩
 ·exact⟨_,_,_,h,λ_ _ _=>rfl⟩
 ·split at h
  ·rename_i bl
   exact⟨_,_,_,h,λH' hA K'=>by unfold Oa;simp only;rw[hA _ (by simp),bl]⟩
  ·rename_i bl
   exact⟨_,_,_,h,λH' hA K'=>by unfold Oa;simp only;rw[hA _ (by simp),bl]⟩
  ·cases h
 ·cases h
theorem acy{id:Nat}{e:Ty}{a b:bG}{H:Nat→Option br}{K:gS α}(h:Ob id e a b H K=some r): ∃v rd ups,K v rd ups=some r∧id∈rd∧ ∀H',Ag rd H H'→ ∀K':gS α,Ob id e a b H' K'=K' v rd ups:=by
 unfold Ob at h
 obtain⟨ys,rd,ups,h1,h2⟩:=pK h
 split at h1
 ·obtain⟨h3,h4⟩:=eK h1
  refine⟨_,_,_,h3,by simp,λH' hA K'=> ?_⟩
  unfold Ob
  rw[h2 H' (λi hi=>hA i (ba _ hi))]
  exact h4 _
 ·rename_i j
  split at h1
  ·rename_i e' l hj
   obtain⟨z,h3,h4⟩:=dK h1
   obtain⟨h5,h6⟩:=eK h3
   refine⟨_,_,_,h5,by simp,λH' hA K'=> ?_⟩
   unfold Ob
   rw[h2 H' (λi hi=>hA i (ba _ (ba _ hi)))]
   simp only
   rw[hA j (by simp),hj]
   simp only
   rw[h4]
   exact h6 _
  ·cases h1
 ·cases h1
theorem Hf{e:Ty}{n:Nat}{H:Nat→Option br}: ∀{ps:List (Nat×bG)} {l:List e.den} {Ko:List Nat} {Hg:js} {K:List e.den→List Nat→js→Option α},xt e H n ps l Ko Hg K=some r→
  ∃l' rd ups,K l' rd ups=some r∧(∀i∈Ko,i∈rd)∧ ∀H',Ag rd H H'→ ∀K':List e.den→List Nat→js→Option α,xt e H' n ps l Ko Hg K'=K' l' rd ups
 |[],l,Ko,Hg,K,h=>⟨l,Ko,Hg,h,λ_ h=>h,λ_ _ _=>rfl⟩
 |p::ps,l,Ko,Hg,K,h=>by
  unfold xt at h
  obtain⟨h1,h2⟩:=eK h
  obtain⟨y,Yq,CO,h3,h4⟩:=pK h1
  obtain⟨l',rd,ups,h5,h6,h7⟩:=Hf h3
  refine⟨l',rd,ups,h5,λi hi=>h6 i (dD _ hi),λH' hA K'=> ?_⟩
  unfold xt
  rw[h2,h4 H' (λi hi=>hA i (h6 i (cX _ hi)))]
  exact h7 H' hA K'
theorem CQ{τ:Ty}{H:Nat→Option br}: ∀{ps:List (Nat×bG)} {x:τ.den} {Ko:List Nat} {Hg:js} {K:τ.den→List Nat→js→Option α},mg τ H ps x Ko Hg K=some r→
  ∃x' rd ups,K x' rd ups=some r∧(∀i∈Ko,i∈rd)∧ ∀H',Ag rd H H'→ ∀K':τ.den→List Nat→js→Option α,mg τ H' ps x Ko Hg K'=K' x' rd ups
 |[],x,Ko,Hg,K,h=>⟨x,Ko,Hg,h,λ_ h=>h,λ_ _ _=>rfl⟩
 |p::ps,x,Ko,Hg,K,h=>by
  unfold mg at h
  obtain⟨υ,z,h1,h2⟩:=yT h
  obtain⟨y,Yq,CO,h3,h4⟩:=pK h1
  obtain⟨z',h5,h6⟩:=z6 (m:=fun υ' _ k'=>cR υ υ' y k') (fun υ' y' k hk=>dK hk) h3
  obtain⟨x',rd,ups,h7,h8,h9⟩:=CQ h5
  refine⟨x',rd,ups,h7,λi hi=>h8 i (dD _ hi),λH' hA K'=> ?_⟩
  unfold mg
  rw[h2,h4 H' (λi hi=>hA i (h8 i (cX _ hi))),h6]
  exact h9 H' hA K'
theorem YL{H:Nat→Option br}{v:bG}{a:Ty}{k:a.den→List Nat→js→Option α}(h:DM v H a k=some r):
  ∃x rd ups,k x rd ups=some r∧ ∀H',Ag rd H H'→ ∀k':a.den→List Nat→js→Option α,DM v H' a k'=k' x rd ups:=by
 unfold DM at h
 split at h
 ·split at h
  ·obtain⟨z,h1,h2⟩:=dK h
   refine⟨_,_,_,h1,λH' _ k'=> ?_⟩
   unfold DM
   simp only
   rw[h2]
  ·cases h
 ·rename_i k0 qy
  obtain⟨y,rd,ups,h1,h2⟩:=pK h
  refine⟨y,rd,ups,h1,λH' hA k'=> ?_⟩
  unfold DM
  split
  ·exact(qy _ _ rfl HEq.rfl).elim
  ·exact h2 H' hA _
theorem OI{H:Nat→Option br}: ∀{τ:Ty} {vs:List bG} {k:τ.den→List Nat→js→Option α},sf H τ vs k=some r→
  ∃x rd ups,k x rd ups=some r∧ ∀H',Ag rd H H'→ ∀k':τ.den→List Nat→js→Option α,sf H' τ vs k'=k' x rd ups
 | .unit,[],k,h=>⟨(),[],[],h,λ_ _ _=>rfl⟩
 | .pair a b,v::vs,k,h=>by
  unfold sf at h
  obtain⟨y,rd,ups,h1,h2⟩:=YL h
  obtain⟨ys,yK,ju,h3,h4⟩:=OI h1
  refine⟨(y,ys),_,_,h3,λH' hA k'=> ?_⟩
  unfold sf
  rw[h2 H' (λi hi=>hA i (dD _ hi)),h4 H' (λi hi=>hA i (cX _ hi))]
 | .unit,_::_,_,h=>by simp[sf]at h
 | .pair _ _,[],_,h=>by simp[sf]at h
 | .int _,_,_,h| .bool,_,_,h| .str,_,_,h| .slice _,_,_,h| .arr _ _,_,_,h=>by simp[sf]at h
theorem Hh: ∀{qX:List bG} {H:Nat→Option br} {K:List bG→List Nat→js→Option α},xu H qX K=some r→
  ∃cs rd ups,K cs rd ups=some r∧ ∀H',Ag rd H H'→ ∀K':List bG→List Nat→js→Option α,xu H' qX K'=K' cs rd ups
 |[],H,K,h=>⟨[],[],[],h,λ_ _ _=>rfl⟩
 |a::qX,H,K,h=>by
  unfold xu at h
  split at h
  ·rename_i id
   split at h
   ·rename_i τ x bl
    obtain⟨cs,rd,ups,h1,h2⟩:=Hh h
    refine⟨_,_,_,h1,λH' hA K'=> ?_⟩
    unfold xu
    simp only
    rw[hA id (by simp),bl]
    simp only
    rw[h2 (cm H' id (some .gone)) (λi hi=>by
     by_cases ct:i=id
     ·subst ct;rw[ay,ay]
     ·rw[az _ _ ct,az _ _ ct];exact hA i (ba _ hi))]
   ·cases h
  ·rename_i qy
   obtain⟨cs,rd,ups,h1,h2⟩:=Hh h
   refine⟨_,_,_,h1,λH' hA K'=> ?_⟩
   unfold xu
   split
   ·exact absurd rfl (qy _)
   ·rw[h2 H' hA]
end VM
end
