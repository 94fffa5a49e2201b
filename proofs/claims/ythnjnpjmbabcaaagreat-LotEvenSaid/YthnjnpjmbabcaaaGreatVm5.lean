/- A part of the proof of LotEven of layer 23: a machine that reads a function of the program as an equation between values. -/
import Derived.Test.YthnjnpjmbabcaaaGreatVm4
import Derived.Scope
set_option linter.all false
open List renaming getD→γ
section
namespace VM
open Go
variable{P:Program}{E:Env}{o:Oper}{a:Act}{w:World}{M:Nat→Prop}{ν:Nat→Value}{σ:St}{c:Ctx}{α:Type}{r:α}{next:Act→World→Prop}{Q:Exit→Act→World→Prop}
theorem MV{i:Nat}: ∀{ups:ig} {H:Nat→Option aW},i∈keys ups→ ∃u∈ups,u.1=i∧cj H ups i=u.2
 |[],_,h=>by simp[keys]at h
 |u::r,H,h=>by
  by_cases hk:i∈keys r
  ·obtain⟨v,h1,h2,h3⟩:=MV (H:=bc H u.1 u.2) hk
   exact⟨v,a6 _ h1,h2,h3⟩
  ·have hi:i=u.1:=by
    simp only[keys,bZ,bm]at h hk
    exact h.resolve_right hk
   refine⟨u,bu,hi.symm,?_⟩
   show cj (bc H u.1 u.2) r i=_
   rw[lO hk,hi,ar]
theorem F3: ∀{ups:ig} {H H':Nat→Option aW},(∀i,i∉keys ups→H i=H' i)→cj H ups=cj H' ups
 |[],H,H',h=>funext λi=>h i (by simp[keys])
 |u::r,H,H',h=>by
  refine F3 (ups:=r) λi hi=> ?_
  by_cases hu:i=u.1
  ·subst hu;rw[ar,ar]
  ·rw[av _ _ hu,av _ _ hu]
   exact h i (by simp only[keys,bZ,bm,not_or];exact⟨hu,hi⟩)
theorem ER.len{v:Value}{e:Ty}{l:List e.den}(h:ER w M v (.own e l)): ∃ad cap,v= .slice ad l.length cap:=by
 simp only[ER]at h
 rcases h with⟨rfl,ad,rfl⟩|⟨b,cs,t,cap,h1,_⟩
 ·exact⟨ad,0,rfl⟩
 ·exact⟨_,cap,h1⟩
theorem RR.rC: ∀{ms:List AM} {x:HP ms} {us ps:List Value},RR w M ms x us ps→ ∀b∈bL ms us ps,M b
 |[],_,_,_,_,b,hb=>by simp[bL]at hb
 |m::ms,x,us,ps,h,b,hb=>by
  simp only[RR]at h
  rcases h with⟨p,EI,h1,rfl,h2,h3⟩|⟨v,D8,h1,h2,rfl,h3,h4⟩
  ·simp only[bL,h1,gA,tN,tO,bf]at hb
   rcases hb with hb|hb
   ·cases m<;>simp[AM.iD]at h1<;>(simp only[cV,eM,A1]at hb h2;exact h2.sC trivial hb)
   ·exact RR.rC h3 b hb
  ·simp only[bL,h1,gW,eo,tN,tO,bf]at hb
   rcases hb with hb|hb
   ·cases m with
    |own e=>
     simp only[cV,eM,A1]at hb h3
     exact h3.sC trivial hb
    |v _=>simp[cV]at hb
    |io _=>simp[AM.iD]at h1
    |lo _=>simp[AM.iD]at h1
    |fn _ _=>simp[cV]at hb
    |ic _=>simp[cV]at hb
    |ptr τ=>
     simp only[cV,eM,A1]at hb h3
     exact h3.sC trivial hb
    |sp τ n e=>
     simp only[A1]at h3
     obtain⟨cs,jB,u,l,z,rfl,hq,hr,tq,hu,_⟩:=h3
     rw[(xS hq hr tq).1,eM]at hb
     exact hu.sC trivial hb
   ·exact RR.rC h4 b hb
theorem Jb: ∀{l:List pP} {qo:List bk} {S:pP},Mz l qo=some S→S∈l
 |[],_,_,h=>by simp[Mz]at h
 |T::l,qo,S,h=>by
  unfold Mz at h
  cases hf:fits T.args qo
  ·rw[hf]at h;exact a6 _ (Jb h)
  ·rw[hf]at h;cases h;exact bu
theorem C8{H:Nat→Option aW}{id:Nat}: ∀{n:Nat},uX H id n=true→ ∀i,id≤i→i<id+n→H i=none
 |0,_,i,h1,h2=>ω
 |n+1,h,i,h1,h2=>by
  unfold uX at h
  rw[bQ]at h
  by_cases hi:i=id+n
  ·subst hi
   have h:=h.1
   split at h
   ·assumption
   ·cases h
  ·exact C8 h.2 i h1 ω
theorem V9{H:Nat→Option aW}{qo:List bk}{us:List Value}(h:jk w M H ν qo us):VR w M H ν (Mw qo) (yQ us):=by
 match qo,us,h with
 |[],[],_=>simp[Mw,VR]
 |[a],[u],h=>simp only[jk,eA]at h;simpa [Mw,yQ]using h
 |a::b::qo,u::v::us,h=>
  simp only[Mw,VR]
  exact⟨u::v::us,by simp[yQ],h⟩
 |[],_::_,h=>simp[jk]at h
 |_::_,[],h=>simp[jk]at h
 |[_],_::_::_,h=>simp[jk]at h
 |_::_::_,[_],h=>simp[jk]at h
theorem MW(hΓ: ∀f S,S∈E.Γ f→lN P f S){H:Nat→Option aW}(hm:Mem c H w M ν){f id:Nat}{qo:List bk}{vs:List Value}(hv:jk w M H ν qo vs){K:fV α}(h:CQ E f qo id H K=some r)
  {R:Value→World→Prop} (hR: ∀v rd ups v' w' M' ν',K v rd ups=some r→Tr c H w M ν (cj H ups) w' M' ν'→VR w' M' (cj H ups) ν' v v'→R v' w'):
  MS P f vs.toArray w R:=by
 unfold CQ at h
 split at h
 ·cases h
 rename_i S hS
 have hok:=hΓ f S (Jb hS)
 obtain⟨x,rd,uo,uf,io,H2,Hq,M2,h1,hA,hK,Wa,ZM,RV⟩:=C6 (jP.start hm) hv h
 clear h
 simp only[cM,gY]at hA ZM RV
 obtain⟨y,hy,h1⟩:=qm.1 h1
 obtain⟨iU,h1⟩:=bN h1
 have iU:=C8 iU
 have arY:(λb=>(M2 b∧b∉dB S.args vs)∨b∈dB S.args vs)=M2:=by
  funext b
  refine propext ⟨λh=>h.elim (·.1) (hA.hM b),λh=> ?_⟩
  by_cases hb:b∈dB S.args vs
  ·exact .inr hb
  ·exact .inl ⟨h,hb⟩
 refine MS.mono (hok.call (λb=>M2 b∧b∉dB S.args vs) w vs x y (λb hb=>hA.mem.y6 b hb.1) (by rw[arY];exact Wa) hA.nd (λb hb h=>h.2 hb) hy) ?_
 rintro e w' ⟨us,M',rfl,MX,hL,wj,hn0⟩
 have arZ: ∀b∈dB S.args vs,c.M0 b→M' b:=by
  intro b hb h0
  obtain⟨q,hq,hqb⟩:=hA.iob b hb h0
  exact MX.rC b (MX.F1 (ν q.1) (by rw[←ZM];exact gi hq) b hqb)
 have nX: ∀b∈bL S.res us (fb S.args vs),w.heap.size≤b∨b∈dB S.args vs:=by
  intro b hb
  rcases lJ b w.heap.size with dU|Vp
  ·exact .inr ((hL.less b dU (MX.rC b hb)).resolve_left (hn0 b hb))
  ·exact .inl Vp
 have jQ: ∀b∈bL S.res us (fb S.args vs),c.B≤b∨c.may b:=λb hb=>(nX b hb).elim (λh=> .inl (ca hm.size h)) (hA.MU b)
 have FH: ∀b∈bL S.res us (fb S.args vs),c.M0 b→ ∃p∈fb S.args vs,dQ p=some b:=by
  intro b hb h0
  rcases nX b hb with h'|h'
  ·have:=hm.og.1 b h0;have:=hm.size;omega
  ·obtain⟨q,hq,hqb⟩:=hA.iob b h' h0
   exact⟨ν q.1,by rw[←ZM];exact gi hq,hqb⟩
 have ar1: ∀q∈io,∀e,q.2=AM.lo e→ ∀b,dQ (ν q.1)=some b→ ¬c.M0 b:=by
  intro q hq e he b hb
  rcases(hA.TC q hq).2.2 with⟨τ0,z0,uQ,_⟩|⟨e0,z0,uQ,P8⟩
  ·rw[he]at uQ;cases uQ
  ·exact hm.yv q.1 e0 z0 b P8 hb
 have key: ∀(Hx:Nat→Option aW) (Mx:Nat→Prop) (U:ig),Mem c Hx w Mx ν→dP w M w Mx→(∀b,M2 b→Mx b)→(∀b∈dB S.args vs,∀i e,Hx i=some e→e.mut→dQ (ν i)≠some b)→
   (∀q∈io,Hx q.1=some .gone)→(∀i,i∉keys io→cj H (uo++U) i=Hx i)→(∀u∈uo++U,u.2=some .gone∨ ∃e l,u.2=some (.oN e l)∧H u.1=some (.own e l))→(∀i∈keys (uo++U),i∈keys (uo++uf))→
   RR w' (λb=>M' b∨(Mx b∧b∉dB S.args vs)) S.res y us (fb S.args vs)→
   ∃ν',Tr c H w M ν (cj H (uo++U++(gQ S.res y id io).2.1)) w' (λb=>M' b∨(Mx b∧b∉dB S.args vs)) ν'∧
    jk w' (λb=>M' b∨(Mx b∧b∉dB S.args vs)) (cj H (uo++U++(gQ S.res y id io).2.1)) ν' (gQ S.res y id io).1 us:=by
  intro Hx Mx U LV hkx TF nr MY ahk KA hU hrr
  obtain⟨lK,Jc⟩:=LV.call (λb hb=>TF b hb.1) (λb hb=>TF b (hA.hM b hb)) nr hA.MU arZ hL
  have hx: ∀i e,H i=some e→i∉keys io→ ∃e',Hx i=some e'∧e.kt e':=by
   intro i e hi EN
   rw[←ahk i EN]
   by_cases hk:i∈keys (uo++U)
   ·obtain⟨u,hu,hui,huv⟩:=MV (H:=H) hk
    rw[huv]
    rcases KA u hu with h'|⟨e1,l1,h',Kz⟩
    ·exact⟨_,h',aW.jG e⟩
    ·rw[hui,hi]at Kz;cases Kz;exact⟨_,h',rfl,rfl⟩
   ·rw[lO hk];exact⟨e,hi,.refl e⟩
  have hfr: ∀i,id≤i→i<id+S.res.length→Hx i=none:=by
   intro i h3 h4
   have h0:=iU i h3 h4
   have EN:i∉keys io:=λhk=>by
    obtain⟨q,hq,EL⟩:=cQ.1 hk
    obtain⟨_,_,hz⟩:=hA.TC q hq
    exact hz.some (by rw[EL];exact h0)
   rw[←ahk i EN]
   rw[lO,h0]
   intro hk
   obtain⟨_,e,l,h'⟩:=hA.ksn i (hU i hk)
   rw[h0]at h';cases h'
  obtain⟨ν',r1,r2,r3,r4,r5,r6⟩:=mC (hs:=dB S.args vs) (sz:=w.heap.size) (id:=id) (used:=[]) lK hrr ZM.symm (by rw[←hok.ios,←RV]) hA.ion MY hfr
   (λi e b hi hmu hb=> .inl ⟨LV.y6 b ((LV.gT i e hi).sC hmu hb),λhh=>nr b hh i e hi hmu hb⟩) (by simpa using wj) nX jQ FH ar1
  have ahl:cj H (uo++U++(gQ S.res y id io).2.1)=cj Hx (gQ S.res y id io).2.1:=by
   rw[ed]
   refine F3 λi hi=> ?_
   by_cases EN:i∈keys io
   ·obtain⟨q,hq,EL⟩:=cQ.1 EN
    rcases r6 q hq with⟨τ,z,_,hz⟩|⟨e,z,_,hz⟩
    ·rw[EL,lO hi,←EL,MY q hq]at hz;cases hz
    ·rw[EL,lO hi,←EL,MY q hq]at hz;cases hz
   ·exact ahk i EN
  refine⟨ν',⟨by rw[ahl];exact r1,hkx.trans Jc,⟨λi e hi=> ?_,λi hi=> ?_⟩⟩,by rw[ahl];exact r2⟩
  ·rw[ahl]
   by_cases EN:i∈keys io
   ·obtain⟨q,hq,EL⟩:=cQ.1 EN
    obtain⟨_,_,hg0⟩:=hA.TC q hq
    rcases r6 q hq with⟨τ,z,Y4,hz⟩|⟨e2,z,Y4,hz⟩
    ·rcases hg0 with⟨τ0,z0,uQ,P8⟩|⟨e0,z0,uQ,P8⟩
     ·rw[Y4]at uQ;cases uQ
      rw[EL]at hz P8
      rw[hi]at P8;cases P8
      exact⟨_,hz,rfl⟩
     ·rw[Y4]at uQ;cases uQ
    ·rcases hg0 with⟨τ0,z0,uQ,P8⟩|⟨e0,z0,uQ,P8⟩
     ·rw[Y4]at uQ;cases uQ
     ·rw[Y4]at uQ;cases uQ
      rw[EL]at hz P8
      rw[hi]at P8;cases P8
      refine⟨_,hz,rfl,?_⟩
      obtain⟨a1,c1,k1⟩:=ER.len (hm.gT i _ hi)
      obtain⟨a2,c2,k2⟩:=ER.len (r1.gT i _ hz)
      rw[r3 i (by rw[←EL,MY q hq];simp),k1]at k2
      simp only[Value.slice.injEq]at k2
      exact k2.2.1
   ·obtain⟨e',sB,hl⟩:=hx i e hi EN
    have hr:i<id∨id+S.res.length≤i:=by
     rcases lJ i id with h'|h'
     ·exact .inl h'
     ·rcases lJ i (id+S.res.length)with Kz|Kz
      ·rw[iU i h' Kz]at hi;cases hi
      ·exact .inr Kz
    exact⟨e',by rw[r4 i EN hr];exact sB,hl⟩
  ·refine r3 i ?_
   obtain⟨e,he⟩:=wy.1 hi
   by_cases EN:i∈keys io
   ·obtain⟨q,hq,EL⟩:=cQ.1 EN
    rw[←EL,MY q hq];simp
   ·obtain⟨e',sB,_⟩:=hx i e he EN
    rw[sB];simp
 cases hq:S.quiet
 ·
  rw[hq]at h1
  have hMn:(λb=>M' b∨(M2 b∧b∉dB S.args vs))=M':=by
   funext b
   exact propext ⟨λh=>h.elim (λh=>h) (hL.sub b),.inl⟩
  obtain⟨ν',fG,ZB⟩:=key H2 M2 uf hA.mem hA.bG (λ_ h=>h) (λb hb i e hi hmu=>hA.none b hb i e (hA.fz.mut hi hmu) hmu) (λq hq=>(hA.TC q hq).1) hA.ext
   (λu hu=>(bf.1 hu).elim (λh=> .inl (hA.uov u h)) (λh=> .inr (hA.ufv u h))) (λ_ h=>h) (by rw[hMn];exact MX)
  exact hR _ _ _ _ _ _ _ h1 fG (V9 ZB)
 ·rw[hq]at h1
  have TF: ∀b,M2 b→M b:=λb hb=>hA.bG.less b (hA.mem.y6 b hb) hb
  obtain⟨ν',fG,ZB⟩:=key Hq M [] hA.MT (.refl w M) TF hA.none (λq hq=>(hA.TC q hq).2.1) (by rw[cN];exact hA.V4)
   (λu hu=> .inl (hA.uov u (by simpa using hu))) (λi hi=>by simp only[keys,cN,dL,bf]at hi ⊢;exact .inl hi) (MX.flat (λb h=> .inl h) (hok.quiet hq))
  exact hR _ _ _ _ _ _ _ h1 fG (V9 ZB)
theorem ZP(hΓ: ∀f S,S∈E.Γ f→lN P f S)(hc:Core c σ a.tmps w M ν){args:Array Operand}{ts:Array TypeId}{g:Operand}(ho:o.op= .call {callee:= .value g,args,argTypes:=ts}){K:fV α}{f:Nat}{caps:List bk}(hg:σ.ρ g= .Mr f caps){id:Nat}
  (h:CQ E f (args.toList.map σ.ρ ++caps) id σ.H K=some r) (hn:eW c σ a o w M ν K r next):o.wp P a w next Q:=by
 have hgv:=hc.ev g
 rw[hg]at hgv
 simp only[VR]at hgv
 obtain⟨cs,hgv,tq⟩:=hgv
 have TG: ∀{as1:List bk} {Zb:List Value},jk w M σ.H ν as1 Zb→jk w M σ.H ν (as1++caps) (Zb++cs):=by
  intro as1
  induction as1 with
  |nil=>intro Zb h1;cases Zb with
   |nil=>exact tq
   |cons _ _=>simp[jk]at h1
  |cons x as1 ih=>intro Zb h1;cases Zb with
   |nil=>simp[jk]at h1
   |cons v Zb=>simp only[jk]at h1;simp only[mh,jk];exact⟨h1.1,ih h1.2⟩
 have hd:=MW (P:=P) hΓ hc.mem (TG (hc.evs args.toList)) h (R:=λv' w'=>next (a.put o.dst v') w') (λv rd ups v' w' M' ν' h1 h2 h3=>hn v rd ups v' w' M' ν' h1 h2 h3)
 have hex:(execOp a.eval o).run P w=(callFunc f (args.toList.map a.eval++cs).toArray).run P w:=by
  have:(args.toList.map a.eval++cs).toArray= #[]++args.map a.eval++cs.toArray:=by apply gb;simp
  rw[this]
  simp[execOp,ho,resolve,hgv,Deferred.ofValue,invoke]
 unfold Oper.wp
 rw[hex]
 exact hd o a next Q λv w' hv=>hv
structure p8(P:Program)(E:Env):Prop extends EnvTy P E where
 amo: ∀f S,S∈E.Γ f→lN P f S
 mixed:P.follows .mixedOrders=true
 kk: ∀i L,E.wT i=some L→VM.kk L=true
 Wb: ∀i L,E.yt i=some L→VM.kk L=true
theorem Jd(hE:p8 P E)(hc:Core c σ a.tmps w M ν){K:fV α}(h:tI E o σ.ρ σ.H K=some r)(hn:eW c σ a o w M ν K r next):o.wp P a w next Q:=by
 have hT:=hE.toEnvTy
 unfold tI at h
 simp only at h
 split at h
 ·rename_i x ho;exact RM hc (.inl ho) h hn
 ·rename_i x ho;exact RM hc (.inr ho) h hn
 ·rename_i x y z ho
  split at h
  ·rename_i t hx;exact Zu hc ho hx h hn
  ·cases h
 ·rename_i t ho
  split at h
  ·rename_i τ ht;exact VL hT hc ho ht h hn
  ·cases h
 ·rename_i t x ho
  split at h
  ·rename_i τ ht;exact ag0 hT hc ho h hn
  ·cases h
 ·rename_i t ps ho
  split at h
  ·rename_i n e ht;exact Kw hT hc ho ht h hn
  ·rename_i τ VY ht
   split at h
   ·rename_i n k hs;exact MP hT hc ho ht (λn e he=>VY n e he) hs h hn
   ·exact D5 hT hc ho ht (λn e he=>VY n e he) h hn
  ·cases h
 ·rename_i t n ps ho
  split at h
  ·rename_i e ht;exact Iu hT hc ho ht h hn
  ·cases h
 ·rename_i t x ho
  split at h
  ·rename_i τ ht;exact VO hT hc ho ht h hn
  ·cases h
 ·rename_i t x y ho
  split at h
  ·rename_i τ ht;exact Tu hT hc ho ht h hn
  ·cases h
 ·rename_i x ho
  split at h
  ·rename_i id p hx;exact D3 hc ho hx h hn
  ·rename_i τ z hx;exact BV hc ho hx h hn
  ·cases h
 ·rename_i b t x y t' ho;exact VQ hT hc ho h hn
 ·rename_i u t x ho;exact ZF hc ho h hn
 ·rename_i s d x ho
  split at h
  ·rename_i τ k hs hd;exact Qm hT hc ho hs hd h hn
  ·cases h
 ·rename_i f first caps ho;exact MK hc ho h hn
 ·rename_i t x y ho
  split at h
  ·rename_i e ht;exact Ku hT hc ho ht h hn
  ·cases h
 ·rename_i t x lo hi mx ho
  split at h
  ·rename_i τ ht;exact TA hT hc ho ht h hn
  ·cases h
 ·rename_i t x n ho
  split at h
  ·rename_i τ ht
   split at h
   ·rename_i id p hx;exact BU hT hc ho ht hx h hn
   ·rename_i υ z hx;exact AD hT hc ho ht hx h hn
   ·cases h
  ·cases h
 ·rename_i t x n ho
  split at h
  ·rename_i τ ht
   split at h
   ·rename_i υ z hx;exact VP hT hc ho ht hx h hn
   ·cases h
  ·cases h
 ·rename_i t x i ho
  split at h
  ·rename_i τ ht;exact Ks hT hc ho ht h hn
  ·cases h
 ·rename_i t x i ho
  split at h
  ·rename_i τ ht;exact VU hT hc ho ht h hn
  ·cases h
 ·rename_i x i ho
  split at h
  ·rename_i vs hx
   split at h
   ·rename_i v hv;exact Ql hc ho hx hv h hn
   ·cases h
  ·cases h
 ·rename_i cl ho
  obtain⟨callee,args,ts⟩:=cl
  simp only at h
  split at h
  ·split at h
   ·rename_i x τ ha ht;exact ag8 hT hc ho ha ht h hn
   ·cases h
  ·split at h
   ·rename_i x y t t' ha ht
    split at h
    ·rename_i e hte;exact TB hT hc ho ha ht hte h hn
    ·cases h
   ·cases h
  ·split at h
   ·rename_i x t ha hts
    split at h
    ·rename_i e hte;exact V2 hT hc ho ha hts hte h hn
    ·cases h
   ·cases h
  ·split at h
   ·rename_i x xs ha;exact afz hc true ho ha h hn
   ·cases h
  ·split at h
   ·rename_i x xs ha;exact afz hc false ho ha h hn
   ·cases h
  ·rename_i g
   split at h
   ·rename_i f caps hg;exact ZP hE.amo hc ho hg h hn
   ·cases h
  ·cases h
 ·cases h
end VM
end
section
namespace VM
open Go
variable{P:Program}{E:Env}{o:Oper}{a:Act}{w:World}{M:Nat→Prop}{ν:Nat→Value}{σ:St}{c d:Ctx}{α:Type}{r:α}{next:Act→World→Prop}{Q:Exit→Act→World→Prop}
structure Ctx.le(c d:Ctx):Prop where
 B:c.B≤d.B
 M0: ∀b,c.M0 b→d.M0 b
 fr: ∀b,b<c.B→ ¬c.may b→d.w0.heap[b]? =c.w0.heap[b]? ∧ ¬d.may b
 may: ∀b,d.B≤b∨d.may b→c.B≤b∨c.may b
 og:(∀b,c.M0 b→b<c.B)∧ ∀b,c.may b→ ¬c.M0 b
 os:d.w0.os=c.w0.os
 tape:d.w0.tape=c.w0.tape
 output:d.w0.output=c.w0.output
theorem Ctx.le.refl(h:(∀b,c.M0 b→b<c.B)∧ ∀b,c.may b→ ¬c.M0 b):c.le c:=⟨aI _,λ_ h=>h,λ_ _ h=>⟨rfl,h⟩,λ_ h=>h,h,rfl,rfl,rfl⟩
theorem Mem.up{H:Nat→Option aW}(h:Mem d H w M ν)(k:c.le d):Mem c H w M ν:=
 ⟨h.gT,h.yA,λi e b hi hm hb=>k.may b (h.new i e b hi hm hb),λi e l b hi hb h0=>h.yv i e l b hi hb (k.M0 b h0),h.fv,λb hb=>h.sub b (k.M0 b hb),h.y6,
  λb hb hm=>(h.frame b (kQ hb k.B) (k.fr b hb hm).2).trans (k.fr b hb hm).1,ca k.B h.size,k.og,h.os.trans k.os,h.tape.trans k.tape,h.output.trans k.output⟩
def Ctx.at(c:Ctx)(w:World)(X:Nat→Prop):Ctx:={B:=w.heap.size,w0:=w,M0:=X,may:=λb=>b<w.heap.size∧ ¬X b∧(c.B≤b∨c.may b),arg:=c.arg}
theorem Mem.KB{H:Nat→Option aW}(k:c.le d)(h:Mem d H w M ν){w':World}{M':Nat→Prop}(kp:dP w M w' M'){X:Nat→Prop}(hX: ∀b,X b→M' b)(hl: ∀b,M' b→b<w'.heap.size)(h0: ∀b,c.M0 b→X b)
  (hb: ∀i e b,H i=some e→e.mut→dQ (ν i)=some b→w'.heap[b]? =w.heap[b]? ∧M' b∧ ¬X b) (hfr: ∀b,b<c.B→ ¬c.may b→w'.heap[b]? =w.heap[b]?)
  (ho:w'.os=w.os) (ht:w'.tape=w.tape) (hu:w'.output=w.output):Mem (c.at w' X) H w' M' ν∧c.le (c.at w' X):=by
 have F4:=h.up k
 refine⟨⟨λi e he=>(h.gT i e he).bG kp λhm b dj=>⟨(hb i e b he hm dj).1,(hb i e b he hm dj).2.1⟩,h.yA,λi e b hi hm dj=> .inr ⟨hl b (hb i e b hi hm dj).2.1,(hb i e b hi hm dj).2.2,F4.new i e b hi hm dj⟩,
  λi e l b hi dj=>(hb i _ b hi trivial dj).2.2,nq h (λ_ _=>rfl) (λ_ h=>h) (λi τ x p j hi=> .inl ⟨hi,λb dj=>(hb i _ b hi trivial (by rw[dj];rfl)).1⟩),hX,hl,λ_ _ _=>rfl,aI _,
  ⟨λb dj=>hl b (hX b dj),λb hm=>hm.2.1⟩,rfl,rfl,rfl⟩,⟨ca F4.size kp.size,h0,λb dj hm=>⟨(hfr b dj hm).trans (F4.frame b dj hm),λhc=>hc.2.2.elim (λh'=>ω) hm⟩,
  λb dj=>dj.elim (λh'=> .inl (ca (ca F4.size kp.size) h')) (λh'=>h'.2.2),k.og,ho.trans F4.os,ht.trans F4.tape,hu.trans F4.output⟩⟩
theorem Mem.still{H:Nat→Option aW}(h:Mem d H w M ν){b:Nat}(hb:d.M0 b):w.heap[b]? =d.w0.heap[b]? :=h.frame b (h.og.1 b hb) λhm=>h.og.2 b hm hb
theorem Mem.apart{H:Nat→Option aW}(h:Mem d H w M ν){i:Nat}{e:aW}{b:Nat}(hi:H i=some e)(hm:e.mut)(hb:dQ (ν i)=some b): ¬d.M0 b:=λh0=>
 (h.new i e b hi hm hb).elim (λh'=>by have:=h.og.1 b h0;omega) (λh'=>h.og.2 b h' h0)
theorem Mem.ghost{H:Nat→Option aW}(h:Mem d H w M ν){id:Nat}{e:aW}(hm: ¬e.mut)(FI: ∀v,ER w M v e){v:Value}(hv:H id=none∨v=ν id):Mem d (bc H id (some e)) w M (updν ν id v):=by
 have hν: ∀i,i≠id→updν ν id v i=ν i:=λi hi=>by simp[updν,hi]
 refine⟨λi e1 hi=> ?_,λi j e1 e2 b mj hi kO hj qN=> ?_,λi e1 b hi kO=> ?_,λi e1 l1 b hi=> ?_,nq h (λi hi=> ?_) u5 (λi τ x p j hi=> ?_),h.sub,h.y6,h.frame,h.size,h.og,h.os,h.tape,h.output⟩
 ·by_cases bw:i=id
  ·subst bw;rw[ar]at hi;cases hi;exact FI _
  ·rw[av _ _ bw]at hi;rw[hν i bw];exact h.gT i e1 hi
 ·by_cases bw:i=id
  ·subst bw;rw[ar]at hi;cases hi;exact absurd kO hm
  ·by_cases CU:j=id
   ·subst CU;rw[ar]at hj;cases hj;exact absurd qN hm
   ·rw[av _ _ bw]at hi;rw[av _ _ CU]at hj;rw[hν i bw,hν j CU];exact h.yA i j e1 e2 b mj hi kO hj qN
 ·by_cases bw:i=id
  ·subst bw;rw[ar]at hi;cases hi;exact absurd kO hm
  ·rw[av _ _ bw]at hi;rw[hν i bw];exact h.new i e1 b hi kO
 ·by_cases bw:i=id
  ·subst bw;rw[ar]at hi;cases hi;exact absurd trivial hm
  ·rw[av _ _ bw]at hi;rw[hν i bw];exact h.yv i e1 l1 b hi
 ·by_cases bw:i=id
  ·subst bw;rcases hv with hv|hv
   ·exact absurd hv hi
   ·simp[updν,hv]
  ·exact hν i bw
 ·by_cases bw:i=id
  ·subst bw;rw[ar]at hi;cases hi;exact absurd trivial hm
  ·rw[av _ _ bw]at hi;exact .inl ⟨hi,λ_ _=>rfl⟩
theorem ER.flat{w':World}{M':Nat→Prop}{e:Ty}{l:List e.den}{v:Value}(hf:e.flat=true)(h:ER w M v (.own e l))(hb: ∀b,dQ v=some b→w'.heap[b]? =w.heap[b]? ∧M' b):ER w' M' v (.own e l):=by
 simp only[ER]at h ⊢
 rcases h with h|⟨b,cs,t,cap,rfl,hg,hM,hc,hl,CT,hs,hr⟩
 ·exact .inl h
 ·obtain⟨h1,h2⟩:=hb b (by simp[dQ];omega)
  exact .inr ⟨b,cs,t,cap,rfl,h1.trans hg,h2,hc,hl,CT,hs,λi hi=>(hr i hi).flat hf⟩
def TH(c d:Ctx)(b:Nat):Prop:=d.M0 b∧ ¬c.M0 b∧(c.B≤b∨c.may b)
def amp(c d:Ctx)(e:Ty)(l:List (List e.den))(o:Option Nat)(v:Value):Prop:=
 e.flat=true∧ ∃(b:Nat) (cs:Array Value) (t:TypeId) (cap:Nat),v= .slice (some ⟨b,0,none⟩) l.length cap∧d.w0.heap[b]? =some (.cells cs t (0,0))∧TH c d b∧l.length≤cap∧cs.size=cap∧
  (∀k (_:k<l.length),o≠some k→ ∃u,cs[k]? =some u∧ER d.w0 d.M0 u (.own e (l.getD k []))∧ ∀b',dQ u=some b'→b'≠b∧TH c d b')∧
  ∀k k' u u' b',k≠k'→k<l.length→k'<l.length→o≠some k→o≠some k'→cs[k]? =some u→cs[k']? =some u'→dQ u=some b'→dQ u'≠some b'
structure kz(c d:Ctx)(H:Nat→Option aW)(ν:Nat→Value):Prop where
 tok:H 7=none→ ∀i e l o,H i≠some (.eU e l o)
 one: ∀i j e l o e' l' o',H i=some (.eU e l o)→H j=some (.eU e' l' o')→i=j
 mem: ∀i e l o,H i=some (.eU e l o)→amp c d e l o (ν i)
theorem kz.step{H H':Nat→Option aW}{ν':Nat→Value}(h:kz c d H ν)(nr: ∀i e l o,H' i=some (.eU e l o)→H i=some (.eU e l o))(g:jC H ν H' ν'):kz c d H' ν':=by
 refine⟨λh7 i e l o hi=> ?_,λi j e l o e' l' o' hi hj=>h.one i j _ _ _ _ _ _ (nr _ _ _ _ hi) (nr _ _ _ _ hj),λi e l o hi=> ?_⟩
 ·refine h.tok ?_ i e l o (nr _ _ _ _ hi)
  cases h0:H 7 with
  |none=>rfl
  |some e0=>obtain⟨e1,h1,_⟩:=g.gT 7 e0 h0;rw[h7]at h1;cases h1
 ·have:=nr _ _ _ _ hi
  rw[g.head i (by rw[this];simp)]
  exact h.mem i e l o this
theorem F5: ∀{ups:ig},VG ups=true→ ∀{H:Nat→Option aW} (i:Nat) (e:Ty) (l:List (List e.den)) (o:Option Nat),cj H ups i=some (.eU e l o)→H i=some (.eU e l o)
 |[],_,_,_,_,_,_,h=>h
 |u::r,hn,H,i,e,l,o,h=>by
  unfold VG at hn
  rw[Ab,bQ]at hn
  have:=F5 (ups:=r) hn.2 i e l o h
  by_cases hi:i=u.1
  ·subst hi
   rw[ar]at this
   rw[this]at hn
   simp at hn
  ·rwa [av _ _ hi]at this
def ZQ(c:Ctx)(E:Env)(σ:St)(a:Act)(o:Oper)(w:World)(M:Nat→Prop)(ν:Nat→Value)(v:bk)(ups:ig)(next:Act→World→Prop):Prop:=
 ∀v' w' d' M' ν',c.le d'→Mem d' (cj σ.H ups) w' M' ν'→(∀u x,VR w M σ.H ν u x→VR w' M' (cj σ.H ups) ν' u x)→kz c d' (cj σ.H ups) ν'→VR w' M' (cj σ.H ups) ν' v v'→next (a.put o.dst v') w'
theorem jC.eU{H:Nat→Option aW}{id:Nat}{e:Ty}{l l':List (List e.den)}{o o':Option Nat}(hid:H id=some (.eU e l o))(hl:l.length=l'.length):jC H ν (bc H id (some (.eU e l' o'))) ν:=by
 refine⟨λi e1 hi=> ?_,λ_ _=>rfl⟩
 by_cases bw:i=id
 ·subst bw;rw[hid]at hi;cases hi;exact⟨_,ar _ _ _,hl⟩
 ·exact⟨e1,by rw[av _ _ bw];exact hi,.refl e1⟩
theorem jC.put{H:Nat→Option aW}{id:Nat}(hid:H id=none)(e:aW)(v:Value):jC H ν (bc H id (some e)) (updν ν id v):=by
 refine⟨λi e1 hi=> ?_,λi hi=> ?_⟩
 ·have bw:i≠id:=λe=>by rw[e,hid]at hi;cases hi
  exact⟨e1,by rw[av _ _ bw];exact hi,.refl e1⟩
 ·have bw:i≠id:=λe=>hi (e▸hid)
  simp[updν,bw]
theorem jC.gone{H:Nat→Option aW}(id:Nat):jC H ν (bc H id (some .gone)) ν:=by
 refine⟨λi e1 hi=> ?_,λ_ _=>rfl⟩
 by_cases bw:i=id
 ·subst bw;exact⟨_,ar _ _ _,by cases e1<;>simp[aW.kt]⟩
 ·exact⟨e1,by rw[av _ _ bw];exact hi,.refl e1⟩
theorem updν_self(id:Nat):updν ν id (ν id)=ν:=by funext i;unfold updν;split<;>simp_all
theorem kz.row{H:Nat→Option aW}(h:kz c d H ν)(hm:Mem d H w M ν){id:Nat}{e:Ty}{l:List (List e.den)}{o:Option Nat}(hid:H id=some (.eU e l o)):
  e.flat=true∧ ∃(b:Nat) (cs:Array Value) (t:TypeId) (cap:Nat),ν id= .slice (some ⟨b,0,none⟩) l.length cap∧w.heap[b]? =some (.cells cs t (0,0))∧TH c d b∧l.length≤cap∧cs.size=cap∧
  (∀k (_:k<l.length),o≠some k→ ∃u,cs[k]? =some u∧ER w M u (.own e (l.getD k []))∧ ∀b',dQ u=some b'→b'≠b∧TH c d b')∧
  ∀k k' u u' b',k≠k'→k<l.length→k'<l.length→o≠some k→o≠some k'→cs[k]? =some u→cs[k']? =some u'→dQ u=some b'→dQ u'≠some b':=by
 obtain⟨hf,b,cs,t,cap,h1,h2,h3,h4,h5,h6,h7⟩:=h.mem id e l o hid
 refine⟨hf,b,cs,t,cap,h1,(hm.still h3.1).trans h2,h3,h4,h5,λk hk ho=> ?_,h7⟩
 obtain⟨u,hu,FI,hb⟩:=h6 k hk ho
 exact⟨u,hu,FI.flat hf λb' dj=>⟨hm.still (hb b' dj).2.1,hm.sub b' (hb b' dj).2.1⟩,hb⟩
theorem Wc{cs:Array Value}{k:Nat}{u:Value}(h:cs[k]? =some u):cs.toList[k]? =some u:=by rw[fR];exact h
theorem kz.out{H:Nat→Option aW}(h:kz c d H ν)(hle:c.le d)(hm:Mem d H w M ν){id:Nat}{e:Ty}{l:List (List e.den)}(hid:H id=some (.eU e l none)){n:Nat}(hn:n<l.length){x:Nat}(hx:H x=none)
  {b:Nat} {cp:Nat} {m:Nat} (hb:ν id= .slice (some ⟨b,0,none⟩) m cp):
  ∃u d',w.cell? ⟨b,n,none⟩=some u∧c.le d'∧Mem d' (bc (bc H x (some (.own e (l.getD n [])))) id (some (.eU e l (some n)))) w M (updν ν x u)∧kz c d' (bc (bc H x (some (.own e (l.getD n [])))) id (some (.eU e l (some n)))) (updν ν x u):=by
 obtain⟨hf,b',cs,t,cap,h1,h2,h3,h4,h5,h6,h7⟩:=h.row hm hid
 rw[hb]at h1;cases h1
 obtain⟨u,hu,FI,hbu⟩:=h6 n hn (by simp)
 have ij:x≠id:=λe=>by rw[e,hid]at hx;cases hx
 have hk:dP w M w M:=⟨aI _,λ_ _ _=>rfl,λ_ _ h=>h⟩
 obtain⟨kO,ve⟩:=Mem.KB (X:=λb=>d.M0 b∧dQ u≠some b) hle hm hk (λb hb=>hm.sub b hb.1) hm.y6 (λb hb=>⟨hle.M0 b hb,λEH=>(hbu b EH).2.2.1 hb⟩)
  (λi e1 b1 hi qu dA=>⟨rfl,(hm.gT i e1 hi).sC qu dA,λhX=>hm.apart hi qu dA hX.1⟩) (λ_ _ _=>rfl) rfl rfl rfl
 have qN:=kO.vU (id:=x) (v:=u) (e:= .own e (l.getD n [])) (λe' sB=>by rw[hx]at sB;cases sB) FI (λb1 dA i e1 hi qu qO=>hm.apart hi qu qO (hbu b1 dA).2.1)
  (λb1 dA=> .inr ⟨hm.y6 b1 (hm.sub b1 (hbu b1 dA).2.1),λhX=>hX.2 dA,(hbu b1 dA).2.2.2⟩) (λb1 _ _ _ dA hX=>hX.2 dA) (.inl hx) (λ_ _ _ _ h=>by cases h)
 have hνid:updν ν x u id=ν id:=by simp[updν,dz ij]
 have hm3:=qN.ghost (id:=id) (e:= .eU e l (some n)) (v:=ν id) (by simp[aW.mut]) (λ_=>by simp[ER]) (.inr hνid.symm)
 rw[show updν (updν ν x u) id (ν id)=updν ν x u from by rw[←hνid];exact updν_self id]at hm3
 refine⟨u,_,by rw[cell_of h2];exact hu,ve,hm3,⟨λIc i e1 l1 o1 hi=> ?_,λi j e1 l1 o1 e2 l2 o2 hi hj=> ?_,λi e1 l1 o1 hi=> ?_⟩⟩
 ·have ahn:H 7=none:=by
   by_cases h8:7=id
   ·rw[←h8,ar]at Ic;cases Ic
   ·rw[av _ _ h8]at Ic
    by_cases h9:7=x
    ·rw[←h9,ar]at Ic;cases Ic
    ·rwa [av _ _ h9]at Ic
  exact h.tok ahn id _ _ _ hid
 all_goals
  have key: ∀i e1 l1 o1,bc (bc H x (some (.own e (l.getD n [])))) id (some (.eU e l (some n))) i=some (.eU e1 l1 o1)→i=id:=λi e1 l1 o1 hi=>by
   by_cases bw:i=id
   ·exact bw
   ·rw[av _ _ bw]at hi
    by_cases hix:i=x
    ·subst hix;rw[ar]at hi;cases hi
    ·rw[av _ _ hix]at hi;exact h.one i id _ _ _ _ _ _ hi hid
 ·rw[key _ _ _ _ hi,key _ _ _ _ hj]
 ·have:=key _ _ _ _ hi
  subst this
  rw[ar]at hi;cases hi
  refine⟨hf,b,cs,t,cp,by rw[hνid];exact hb,h2,⟨⟨h3.1,λEH=>(hbu b EH).1 rfl⟩,h3.2⟩,h4,h5,λk rz ho=> ?_,λk k' u1 u2 b1 H5 BJ EK _ _=>h7 k k' u1 u2 b1 H5 BJ EK (by simp) (by simp)⟩
  obtain⟨u1,Qp,aho,Ix⟩:=h6 k rz (by simp)
  have MZ:n≠k:=λe=>ho (by rw[e])
  have hd1: ∀b1,dQ u1=some b1→dQ u≠some b1:=λb1 dA qO=>h7 n k u u1 b1 MZ hn rz (by simp) (by simp) hu Qp qO dA
  exact⟨u1,Qp,aho.flat hf λb1 dA=>⟨rfl,(Ix b1 dA).2.1,hd1 b1 dA⟩,λb1 dA=>⟨(Ix b1 dA).1,⟨(Ix b1 dA).2.1,hd1 b1 dA⟩,(Ix b1 dA).2.2⟩⟩
theorem kz.ar2{H:Nat→Option aW}(h:kz c d H ν)(hle:c.le d)(hm:Mem d H w M ν){id j:Nat}{e:Ty}{l:List (List e.den)}{n:Nat}(hid:H id=some (.eU e l (some n)))(hn:n<l.length){l':List e.den}(hj:H j=some (.own e l'))
  {b:Nat} {cs:Array Value} {t:TypeId} {cp:Nat} {m:Nat} (hb:ν id= .slice (some ⟨b,0,none⟩) m cp) (hg:w.heap[b]? =some (.cells cs t (0,0))):
  n<cs.size∧dP w M (w.setRow b (dI cs.toList n [ν j]).toArray) M∧ ∃d',c.le d'∧Mem d' (bc (bc H j (some .gone)) id (some (.eU e (l.set n l') none))) (w.setRow b (dI cs.toList n [ν j]).toArray) M ν∧
   kz c d' (bc (bc H j (some .gone)) id (some (.eU e (l.set n l') none))) ν:=by
 obtain⟨hf,b',cs',t',cap,h1,h2,h3,h4,h5,h6,h7⟩:=h.row hm hid
 rw[hb]at h1;cases h1
 rw[hg]at h2;cases h2
 have amr:n<cs.size:=ω
 have ij:j≠id:=λe=>by rw[e,hid]at hj;cases hj
 have hM:M b:=hm.sub b h3.1
 have hk:dP w M (w.setRow b (dI cs.toList n [ν j]).toArray) M:=
  ⟨by rw[size_setRow];exact aI _,λb' _ iS=>setRow_other w b b' _ (λe=>iS (e▸hM)),λ_ _ h=>h⟩
 have P9:=(Tr.gone hm j).mem
 have hap: ∀i e1 b1,bc H j (some .gone) i=some e1→e1.mut→dQ (ν i)=some b1→b1≠b∧dQ (ν j)≠some b1∧ ¬d.M0 b1:=λi e1 b1 hi qu dA=>by
  have h0:=P9.apart hi qu dA
  refine⟨λe=>h0 (e▸h3.1),λQq=> ?_,h0⟩
  by_cases mj:i=j
  ·subst mj;rw[ar]at hi;cases hi;simp[aW.mut]at qu
  ·rw[av _ _ mj]at hi;exact hm.yA i j e1 _ b1 mj hi qu hj trivial dA Qq
 have hjb: ∀b1,dQ (ν j)=some b1→b1≠b∧ ¬d.M0 b1∧M b1:=λb1 dA=>⟨λe=>hm.apart hj trivial dA (e▸h3.1),hm.apart hj trivial dA,(hm.gT j _ hj).sC trivial dA⟩
 obtain⟨kO,ve⟩:=Mem.KB (w':=w.setRow b (dI cs.toList n [ν j]).toArray) (X:=λb=>d.M0 b∨dQ (ν j)=some b) hle P9 hk (λb1 dA=>dA.elim (hm.sub b1) (λh'=>(hjb b1 h').2.2)) (λb1 dA=>by rw[size_setRow];exact hm.y6 b1 dA) (λb1 dA=> .inl (hle.M0 b1 dA))
  (λi e1 b1 hi qu dA=>⟨setRow_other w b b1 _ (hap i e1 b1 hi qu dA).1,(P9.gT i e1 hi).sC qu dA,λhX=>hX.elim (hap i e1 b1 hi qu dA).2.2 (hap i e1 b1 hi qu dA).2.1⟩)
  (λb1 dA kO=>setRow_other w b b1 _ (λe=>h3.2.2.elim (λh'=>ω) (λh'=>kO (e▸h')))) rfl rfl rfl
 have qN:=kO.ghost (id:=id) (e:= .eU e (l.set n l') none) (v:=ν id) (by simp[aW.mut]) (λ_=>by simp[ER]) (.inr rfl)
 rw[updν_self]at qN
 refine⟨amr,hk,_,ve,qN,⟨λIc i e1 l1 o1 hi=> ?_,λi i' e1 l1 o1 e2 l2 o2 hi mz=> ?_,λi e1 l1 o1 hi=> ?_⟩⟩
 ·have ahn:H 7=none:=by
   by_cases h8:7=id
   ·rw[←h8,ar]at Ic;cases Ic
   ·rw[av _ _ h8]at Ic
    by_cases h9:7=j
    ·rw[←h9,ar]at Ic;cases Ic
    ·rwa [av _ _ h9]at Ic
  exact h.tok ahn id _ _ _ hid
 all_goals
  have key: ∀i e1 l1 o1,bc (bc H j (some .gone)) id (some (.eU e (l.set n l') none)) i=some (.eU e1 l1 o1)→i=id:=λi e1 l1 o1 hi=>by
   by_cases bw:i=id
   ·exact bw
   ·rw[av _ _ bw]at hi
    by_cases hix:i=j
    ·subst hix;rw[ar]at hi;cases hi
    ·rw[av _ _ hix]at hi;exact h.one i id _ _ _ _ _ _ hi hid
 ·rw[key _ _ _ _ hi,key _ _ _ _ mz]
 ·have:=key _ _ _ _ hi
  subst this
  rw[ar]at hi;cases hi
  have ub: ∀k,(dI cs.toList n [ν j]).toArray[k]? =if k=n then some (ν j)else cs[k]? :=λk=>by
   rw[wC,w9 (by simp;omega)]
   by_cases MZ:k=n
   ·subst MZ;rw[ak (by simp),ak rfl];simp
   ·rw[ah (by simp;omega),ah MZ,fR]
  have hold: ∀k,k<l.length→k≠n→ ∃u,cs[k]? =some u∧ER w M u (.own e (l.getD k []))∧ ∀b',dQ u=some b'→b'≠b∧TH c d b':=λk hk MZ=>h6 k hk (by simp;omega)
  refine⟨hf,b,_,t,cp,by rw[bs];exact hb,setRow_heap w b cs _ t _ hg,⟨.inl h3.1,h3.2⟩,by rw[bs];exact h4,by rw[iI,dv (by simp;omega),ba];exact h5,λk rz _=> ?_,λk k' u1 u2 b1 H5 BJ EK _ _ Qp ZI dA qO=> ?_⟩
  ·rw[bs]at rz
   rw[ub]
   by_cases MZ:k=n
   ·subst MZ
    refine⟨ν j,ak rfl,?_,λb1 dA=>⟨(hjb b1 dA).1,.inr dA,λh0=>(hjb b1 dA).2.1 (hle.M0 b1 h0),(hm.up hle).new j _ b1 hj trivial dA⟩⟩
    have:(l.set k l').getD k []=l':=by simp[γ,hn]
    rw[this]
    exact(hm.gT j _ hj).flat hf λb1 dA=>⟨setRow_other w b b1 _ (hjb b1 dA).1,.inr dA⟩
   ·rw[ah MZ]
    obtain⟨u1,Qp,aho,Ix⟩:=hold k rz MZ
    have:(l.set n l').getD k []=l.getD k []:=by simp[γ,Fi (dz MZ)]
    rw[this]
    exact⟨u1,Qp,aho.flat hf λb1 dA=>⟨setRow_other w b b1 _ (Ix b1 dA).1,.inl (Ix b1 dA).2.1⟩,λb1 dA=>⟨(Ix b1 dA).1,.inl (Ix b1 dA).2.1,(Ix b1 dA).2.2⟩⟩
  ·rw[bs]at BJ EK
   rw[ub]at Qp ZI
   by_cases MZ:k=n
   ·rw[ak MZ]at Qp;cases Qp
    have Wd:k'≠n:=λe=>H5 (by rw[MZ,e])
    rw[ah Wd]at ZI
    obtain⟨u3,hu3,_,ahp⟩:=hold k' EK Wd
    rw[ZI]at hu3;cases hu3
    exact(hjb b1 dA).2.1 (ahp b1 qO).2.1
   ·rw[ah MZ]at Qp
    obtain⟨u3,hu3,_,ahp⟩:=hold k BJ MZ
    rw[Qp]at hu3;cases hu3
    by_cases Wd:k'=n
    ·rw[ak Wd]at ZI;cases ZI
     exact(hjb b1 qO).2.1 (ahp b1 dA).2.1
    ·rw[ah Wd]at ZI
     exact h7 k k' u1 u2 b1 H5 BJ EK (by simp;omega) (by simp;omega) Qp ZI dA qO
theorem kz.fix{H:Nat→Option aW}(h:kz c d H ν)(hle:c.le d)(hm:Mem d H w M ν){id:Nat}{e:Ty}{l:List (List e.den)}(hid:H id=some (.eU e l none)):
  ∃d' M',c.le d'∧dP w M w M'∧Mem d' (bc H id (some .gone)) w M' ν∧kz c d' (bc H id (some .gone)) ν∧V w M' (.slice (.slice e)) (ν id) l:=by
 obtain⟨hf,b,cs,t,cap,h1,h2,h3,h4,h5,h6,h7⟩:=h.row hm hid
 have hFB: ∀b1,(b1=b∨ ∃k u,k<l.length∧cs[k]? =some u∧dQ u=some b1)→TH c d b1:=λb1 dA=>by
  rcases dA with rfl|⟨k,u,hk,hu,hbu⟩
  ·exact h3
  ·obtain⟨u',EH,_,dj⟩:=h6 k hk (by simp)
   rw[hu]at EH;cases EH
   exact(dj b1 hbu).2
 have hk:dP w M w (λb1=>M b1∧ ¬(b1=b∨ ∃k u,k<l.length∧cs[k]? =some u∧dQ u=some b1)):=⟨aI _,λ_ _ _=>rfl,λ_ _ h=>h.1⟩
 have P9:=(Tr.gone hm id).mem
 obtain⟨kO,ve⟩:=Mem.KB (X:=λb1=>d.M0 b1∧ ¬(b1=b∨ ∃k u,k<l.length∧cs[k]? =some u∧dQ u=some b1)) hle P9 hk (λb1 dA=>⟨hm.sub b1 dA.1,dA.2⟩) (λb1 dA=>hm.y6 b1 dA.1) (λb1 dA=>⟨hle.M0 b1 dA,λhx=>(hFB b1 hx).2.1 dA⟩)
  (λi e1 b1 hi qu dA=>⟨rfl,⟨(P9.gT i e1 hi).sC qu dA,λhx=>P9.apart hi qu dA (hFB b1 hx).1⟩,λhX=>P9.apart hi qu dA hX.1⟩) (λ_ _ _=>rfl) rfl rfl rfl
 refine⟨_,_,ve,hk,kO,⟨λIc i e1 l1 o1 hi=> ?_,λi j e1 l1 o1 e2 l2 o2 hi hj=> ?_,λi e1 l1 o1 hi=> ?_⟩,?_⟩
 ·by_cases bw:i=id
  ·subst bw;rw[ar]at hi;cases hi
  ·rw[av _ _ bw]at hi
   exact bw (h.one i id _ _ _ _ _ _ hi hid)
 ·by_cases bw:i=id
  ·subst bw;rw[ar]at hi;cases hi
  ·rw[av _ _ bw]at hi
   exact absurd (h.one i id _ _ _ _ _ _ hi hid) bw
 ·by_cases bw:i=id
  ·subst bw;rw[ar]at hi;cases hi
  ·rw[av _ _ bw]at hi
   exact absurd (h.one i id _ _ _ _ _ _ hi hid) bw
 ·unfold V;rw[ah (by simp[Ty.isAgg])]
  simp only[Rd]
  refine⟨_,cap,by rw[h1],h4,λi hi=>⟨b,0,rfl,lt_of_block h2,λhx=>hx.2 (.inl rfl),?_⟩⟩
  have hi:i<l.length:=hi
  obtain⟨u,hu,FI,hbu⟩:=h6 i hi (by simp)
  refine⟨[u],?_,?_⟩
  ·intro j v hj
   cases j with
   |zero=>simp only[Fc,eL]at hj;subst hj;rw[cell_of h2];simpa [Ty.size]using hu
   |succ j=>simp at hj
  ·have hg:l.getD i []=l.get ⟨i,hi⟩:=by simp[γ,bo hi]
   rw[hg]at FI
   simp only[ER]at FI
   rcases FI with⟨h0,a,hv⟩|⟨b1,yO,t1,AK,hv,dA,hM1,zz,Zc,azp,I9,xe⟩
   ·refine⟨a,0,by rw[hv,h0];rfl,by rw[h0];exact aI _,λk rz=>absurd rz (by rw[h0];simp)⟩
   ·refine⟨_,AK,by rw[hv],Zc,λk rz=>⟨b1,0,rfl,lt_of_block dA,λhx=>hx.2 (.inr ⟨i,u,hi,hu,by rw[hv];simp[dQ];omega⟩),_,?_,(xe k rz).flat hf⟩⟩
    rw[fh]
    exact At.of_block dA _ _
theorem kz.made{H:Nat→Option aW}(h:kz c d H ν)(hle:c.le d)(hm:Mem d H w M ν){x:Nat}(hx:H x=none)(h7:H 7=none)(hx7:x≠7){e:Ty}(hf:e.flat=true){t:TypeId}{n cap:Nat}(hn:n≤cap):
  ∃d',c.le d'∧dP w M (w.alloc (.cells (madeCells (bD (.slice e) (Ty.slice e).bS).cells cap) t)) (λb=>M b∨b=w.heap.size)∧
   Mem d' (bc (bc H x (some (.eU e (List.replicate n []) none))) 7 (some .gone)) (w.alloc (.cells (madeCells (bD (.slice e) (Ty.slice e).bS).cells cap) t)) (λb=>M b∨b=w.heap.size) (updν ν x (.slice (some ⟨w.heap.size,0,none⟩) n cap))∧
   kz c d' (bc (bc H x (some (.eU e (List.replicate n []) none))) 7 (some .gone)) (updν ν x (.slice (some ⟨w.heap.size,0,none⟩) n cap)):=by
 have FU: ∀k,k<cap→(madeCells (bD (.slice e) (Ty.slice e).bS).cells cap)[k]? =some (.slice none 0 0):=λk hk=>by
  simp only[madeCells,Array.getElem?_map]
  rw[Array.getElem?_range,ak hk]
  simp[bD,Ty.bS,Ty.isAgg,Value.cells]
  have h1: ∀j,j<1→[Value.slice none 0 0][j]?.getD default=Value.slice none 0 0:=λj hj=>by rw[show j=0 from by omega];rfl
  exact h1 _ (Nat.mod_lt _ δ)
 have pT:(madeCells (bD (.slice e) (Ty.slice e).bS).cells cap).size=cap:=size_madeCells _ _
 generalize madeCells (bD (.slice e) (Ty.slice e).bS).cells cap=cs at FU pT ⊢
 have hk:dP w M (w.alloc (.cells cs t)) (λb=>M b∨b=w.heap.size):=
  ⟨by rw[size_alloc];omega,λb hb _=>kV w _ hb,λb hb h'=>h'.resolve_right ω⟩
 obtain⟨kO,ve⟩:=Mem.KB (X:=λb=>d.M0 b∨b=w.heap.size) hle hm hk (λb hb=>hb.elim (λh'=> .inl (hm.sub b h')) .inr) (λb hb=>by rw[size_alloc];exact hb.elim (λh'=>by have:=hm.y6 b h';omega) (λh'=>ω)) (λb hb=> .inl (hle.M0 b hb))
  (λi e1 b1 hi qu dA=>by
   have hM1:=(hm.gT i e1 hi).sC qu dA
   have dU:=hm.y6 b1 hM1
   exact⟨kV w _ dU,.inl hM1,λhX=>hX.elim (hm.apart hi qu dA) (λh'=>ω)⟩)
  (λb hb _=>kV w _ (kQ hb (hm.up hle).size)) rfl rfl rfl
 have qN:=kO.ghost (id:=x) (e:= .eU e (List.replicate n []) none) (v:= .slice (some ⟨w.heap.size,0,none⟩) n cap) (by simp[aW.mut]) (λ_=>by simp[ER]) (.inl hx)
 have hm3:=qN.ghost (id:=7) (e:= .gone) (v:=updν ν x (.slice (some ⟨w.heap.size,0,none⟩) n cap) 7) (by simp[aW.mut]) (λ_=>by simp[ER]) (.inr rfl)
 rw[updν_self]at hm3
 have nr:=h.tok h7
 have key: ∀i e1 l1 o1,bc (bc H x (some (.eU e (List.replicate n []) none))) 7 (some .gone) i=some (.eU e1 l1 o1)→i=x:=λi e1 l1 o1 hi=>by
  by_cases h8:i=7
  ·subst h8;rw[ar]at hi;cases hi
  ·rw[av _ _ h8]at hi
   by_cases hix:i=x
   ·exact hix
   ·rw[av _ _ hix]at hi;exact absurd hi (nr _ _ _ _)
 refine⟨_,ve,hk,hm3,⟨λIc i e1 l1 o1 hi=>(by rw[ar]at Ic;cases Ic),λi j e1 l1 o1 e2 l2 o2 hi hj=>(by rw[key _ _ _ _ hi,key _ _ _ _ hj]),λi e1 l1 o1 hi=> ?_⟩⟩
 have:=key _ _ _ _ hi
 subst this
 rw[av _ _ hx7,ar]at hi;cases hi
 have hB:=(hm.up hle).size
 have ub: ∀k u,k<(List.replicate n ([]:List e.den)).length→cs[k]? =some u→u= .slice none 0 0:=λk u rz hu=>by
  rw[bP]at rz
  rw[FU k ω]at hu;cases hu;rfl
 refine⟨hf,w.heap.size,cs,t,cap,by simp[updν,bP],Ar w _,⟨.inr rfl,λh0=>(by have:=hle.og.1 _ h0;omega),.inl hB⟩,by rw[bP];exact hn,pT,λk rz _=> ?_,λk k' u1 u2 b1 _ BJ _ _ _ Qp _ dA=> ?_⟩
 ·have EK:=rz
  rw[bP]at EK
  refine⟨_,FU k ω,?_,λb' dj=>by simp[dQ]at dj⟩
  simp only[ER]
  exact .inl ⟨by simp[γ,EK],none,rfl⟩
 ·rw[ub k u1 BJ Qp]at dA;simp[dQ]at dA
theorem Qr(hE: ∀t τ,E.ty t=some τ→jX P τ t)(hle:c.le d)(hc:Core d σ a.tmps w M ν)(hf:kz c d σ.H ν){g:Bool}{v:bk}{ups:ig}(h:Tk E o σ.ρ σ.H=some (g,v,ups))(hg:g=true)
  (hn:ZQ c E σ a o w M ν v ups next):o.wp P a w next Q:=by
 unfold Tk at h
 simp only at h
 have kr:dP w M w M:=⟨aI _,λ_ _ _=>rfl,λ_ _ h=>h⟩
 split at h
 ·
  rename_i t x y ho
  split at h
  ·rename_i e k l k' n he hx hy M4 h7
   cases Iy:Ti E 3000000 (o.dst.getD 0)
   ·rw[Iy]at he;cases he
   ·rw[Iy]at he
    have ht:E.ty t=some (.slice (.slice e)):=he
    obtain⟨H8,h⟩:=bN h
    simp only[eL,tQ]at h
    obtain⟨rfl,rfl,rfl⟩:=h
    rw[BL]at hg
    obtain⟨h0,h1,h3⟩:=bl hg
    simp only[Al]at h3
    obtain⟨e',hu,We⟩:=(hE t _ ht).slice
    obtain⟨i,hi,hs,hz,hb⟩:=We.base
    have H9:=hc.ev x
    have vQ:=hc.ev y
    rw[hx]at H9;rw[hy]at vQ
    have FX:(i.bytes:Int)*n≤281474976710656:=by
     have h4:(i.bytes:Int)≤2048:=ω
     have:(i.bytes:Int)*n≤2048*n:=qf h4 ω
     omega
    have cU:=run_make (P:=P) w t e' i _ hu hi hz k k' l n h0 h1 FX ω
    have I9:n.toNat*i.size=n.toNat:=by rw[hs];simp[Ty.size]
    rw[I9]at cU
    obtain⟨d',ve,BJ,kO,ZR⟩:=hf.made hle hc.mem M4 h7 ω H8 (t:=e') (n:=l.toNat) (cap:=n.toNat) ω
    refine aS (ue ho (by rw[H9.int,vQ.int];exact cU)) (hn _ _ d' _ _ ve kO (λu z hz=> ?_) ZR ?_)
    ·exact VR.bG BJ ((jC.put M4 _ _).trans (by
      have:=jC.gone (H:=bc σ.H (16*o.dst.getD 0) (some (.eU e (List.replicate l.toNat []) none))) (ν:=updν ν (16*o.dst.getD 0) (.slice (some ⟨w.heap.size,0,none⟩) l.toNat n.toNat)) 7
      exact this)) hz
    ·simp only[VR]
     refine⟨?_,by simp[updν]⟩
     show bc (bc σ.H _ _) 7 _ _≠none
     rw[av _ _ ω,ar];simp
  ·cases h
 ·
  rename_i cl ho
  split at h
  ·rename_i x e ar3 Wa xP
   split at h
   ·rename_i id hx
    split at h
    ·rename_i e2 l o2 hid
     simp only[eL,tQ]at h
     obtain⟨rfl,rfl,rfl⟩:=h
     obtain⟨t,rA,RS⟩:=qm.1 xP
     have VT:cl.argTypes[0]? =some t:=by rw[←rA,←fR,Ml]
     obtain⟨_,hu,_⟩:=(hE t _ RS).slice
     have hv:=hc.ev x
     rw[hx]at hv
     simp only[VR]at hv
     obtain⟨_,b,cs,tt,cap,hb,_⟩:=hf.row hc.mem hid
     have ho':o.op= .call {callee:= .builtin .len,args:=cl.args,argTypes:=cl.argTypes}:=by rw[ho,←ar3]
     refine aS (mB ho' Wa rA (n:=l.length) λty=>by rw[hv.2,hb];exact ud VT hu _ _ _) (hn _ _ d M ν hle hc.mem (λ_ _ h=>h) hf (.mkInt _ _))
    ·cases h
   ·cases h
  ·cases h
 ·
  rename_i t x i ho
  split at h
  ·rename_i e' id k n xP hx hi
   split at h
   ·rename_i e l o2 hid
    obtain⟨he,h⟩:=bN h
    have he:=bl he
    subst he
    simp only[eL,tQ]at h
    obtain⟨rfl,rfl,rfl⟩:=h
    obtain⟨h0,h1⟩:=sV hg
    obtain⟨e2,LR,We⟩:=(hE t _ xP).slice
    have hv:=hc.ev x
    rw[hx]at hv
    simp only[VR]at hv
    have MI:=hc.ev i
    rw[hi]at MI
    obtain⟨_,b,cs,tt,cap,hb,_⟩:=hf.row hc.mem hid
    refine aS (iJ ho LR We (hv.2.trans hb) MI.int h0 h1) (hn _ _ d M ν hle hc.mem (λ_ _ h=>h) hf ?_)
    simp only[VR]
    refine⟨_,hid,?_⟩
    simp only[AR]
    exact⟨n.toNat,rfl,ω,b,_,_,hb,by simp[Ty.size]⟩
   ·cases h
  ·cases h
 ·
  rename_i t x ho
  split at h
  ·rename_i e' id n xP hx
   split at h
   ·rename_i e l hid hd0
    obtain⟨he,h⟩:=bN h
    have he:=bl he
    subst he
    simp only[eL,tQ]at h
    obtain⟨rfl,rfl,rfl⟩:=h
    have hv:=hc.ev x
    rw[hx]at hv
    simp only[VR]at hv
    obtain⟨e1,Ay,jI⟩:=hv
    rw[hid]at Ay;cases Ay
    simp only[AR]at jI
    obtain⟨i,hpi,D1,b,m,cp,hb,hu⟩:=jI
    cases hpi
    obtain⟨u,d',ub,ve,kO,ZR⟩:=hf.out hle hc.mem hid D1 hd0 hb
    refine aS (yN ho (hE t _ xP) rfl hu ub) (hn _ _ d' _ _ ve kO (λz y hz=> ?_) ZR ?_)
    ·have ij:16*o.dst.getD 0≠id:=λe=>by rw[e,hid]at hd0;cases hd0
     exact VR.bG kr ((jC.put hd0 _ _).trans (jC.eU (o:=none) (by rw[av _ _ (dz ij)];exact hid) rfl)) hz
    ·simp only[VR]
     have ij:16*o.dst.getD 0≠id:=λe=>by rw[e,hid]at hd0;cases hd0
     refine⟨?_,by simp[updν]⟩
     show bc (bc σ.H _ _) id _ _≠none
     rw[av _ _ ij,ar];simp
   ·cases h
  ·cases h
 ·
  rename_i t x y ho
  split at h
  ·rename_i e' id n j xP hx hy
   split at h
   ·rename_i e l n' e2 l' hid hj
    split at h
    ·rename_i he2
     subst he2
     obtain⟨he,h⟩:=bN h
     have he:=bl he
     subst he
     simp only[eL,tQ]at h
     obtain⟨rfl,rfl,rfl⟩:=h
     rw[jj]at hg
     have hnn:n=n':=by have:=bl hg;omega
     subst hnn
     have hv:=hc.ev x
     rw[hx]at hv
     simp only[VR]at hv
     obtain⟨e1,Ay,jI⟩:=hv
     rw[hid]at Ay;cases Ay
     simp only[AR]at jI
     obtain⟨i,hpi,D1,b,m,cp,hb,hu⟩:=jI
     cases hpi
     have vQ:=hc.ev y
     rw[hy]at vQ
     simp only[VR]at vQ
     have vQ:=vQ.2
     obtain⟨_,b',cs,tt,cap,dj,hg',_⟩:=hf.row hc.mem hid
     rw[hb]at dj;cases dj
     obtain⟨amr,BJ,d',ve,kO,ZR⟩:=hf.ar2 hle hc.mem hid D1 hj hb hg'
     obtain⟨ad,cp2,hνj⟩:=ER.I8 hc.mem hj
     have hyc:(a.eval y).cells.toList=[ν j]:=by rw[vQ,hνj];rfl
     have pT:(a.eval y).cells.size=1:=by rw[←ba,hyc];rfl
     have cU:=jl (P:=P) ho (hE t _ xP) hu hg' pT (by simp[Ty.size];omega) (by rw[hyc,hνj];simp[Value.oneCell'])
     rw[hyc]at cU
     refine mA cU (hn _ _ d' M ν ve kO (λz w' hz=> ?_) ZR (by simp[VR]))
     have ij:id≠j:=λe=>by rw[e,hj]at hid;cases hid
     exact VR.bG BJ ((jC.gone j).trans (jC.eU (o:=some n) (by rw[av _ _ ij];exact hid) (by rw[bs]))) hz
    ·cases h
   ·cases h
  ·cases h
 ·
  rename_i x ho
  split at h
  ·rename_i id hx
   split at h
   ·rename_i e l hid
    simp only[eL,tQ]at h
    obtain⟨rfl,rfl,rfl⟩:=h
    cases Iy:Ti E 4000000 (o.dst.getD 0)
    ·rw[Iy]at hx;cases hx
    ·rw[Iy]at hx
     have hx:σ.ρ x= .ref id:=hx
     have hv:=hc.ev x
     rw[hx]at hv
     simp only[VR]at hv
     obtain⟨d',M',ve,BJ,kO,ZR,hV⟩:=hf.fix hle hc.mem hid
     have hr:(execOp a.eval o).run P w= .ok (.value (a.eval x)) w:=by simp[execOp,ho]
     refine aS hr (hn _ _ d' M' ν ve kO (λz w' hz=>VR.bG BJ (jC.gone id) hz) ZR ?_)
     simp only[VR]
     rw[hv.2]
     exact hV
   ·cases h
  ·cases h
 ·cases h
theorem TI(hE:p8 P E)(hle:c.le d)(hc:Core d σ a.tmps w M ν)(hf:E.eU=true→kz c d σ.H ν){K:fV α}(h:Vm E o σ.ρ σ.H K=some r)
  (hn: ∀v rd ups v' w' d' M' ν',K v rd ups=some r→c.le d'→Mem d' (cj σ.H ups) w' M' ν'→(∀u x,VR w M σ.H ν u x→VR w' M' (cj σ.H ups) ν' u x)→(E.eU=true→kz c d' (cj σ.H ups) ν')→VR w' M' (cj σ.H ups) ν' v v'→next (a.put o.dst v') w'):
  o.wp P a w next Q:=by
 unfold Vm at h
 cases hfm:E.eU
 ·rw[hfm]at h
  exact Jd hE hc h λv rd ups v' w' M' ν' hK t hV=>hn v rd ups v' w' d M' ν' hK hle t.mem (λu x hx=>VR.bG t.bG t.goes hx) (λhe=>by rw[hfm]at he;cases he) hV
 ·rw[hfm]at h
  simp only[aj]at h
  split at h
  ·rename_i u hs
   obtain⟨hg,h⟩:=bN h
   exact Qr hE.ty hle hc (hf hfm) hs hg λv' w' d' M' ν' h1 h2 h3 h4 h5=>hn _ _ _ v' w' d' M' ν' h h1 h2 h3 (λ_=>h4) h5
  ·refine Jd hE hc h λv rd ups v' w' M' ν' hK t hV=> ?_
   obtain⟨nr,hK⟩:=bN hK
   exact hn v _ ups v' w' d M' ν' hK hle t.mem (λu x hx=>VR.bG t.bG t.goes hx) (λ_=>(hf hfm).step (F5 nr) t.goes) hV
end VM
end
section
namespace VM
open Go
variable{P:Program}{E:Env}{o:Oper}{a:Act}{w:World}{M:Nat→Prop}{ν:Nat→Value}{σ:St}{c:Ctx}{α:Type}{r:α}{next:Act→World→Prop}{Q:Exit→Act→World→Prop}
theorem rD(σ:St)(d:Nat)(v:bk):(σ.put d v).T d=v:=by
 show cond (Nat.beq d d) v (σ.T d)=v
 rw[show Nat.beq d d=true from o7 d];rfl
theorem xf(σ:St){d i:Nat}(v:bk)(h:i≠d):(σ.put d v).T i=σ.T i:=by
 show cond (Nat.beq i d) v (σ.T i)=σ.T i
 have:Nat.beq i d=false:=by rw[←lF,wQ];exact h
 rw[this];rfl
theorem awZ(σ:St)(d:Nat)(v:bk):(σ.put d v).H=σ.H:=rfl
theorem F8(σ:St)(d:Nat):σ.put d (σ.T d)=σ:=by
 obtain⟨T,H⟩:=σ
 unfold St.put
 congr 1
 funext i
 by_cases h:i=d
 ·subst h;show cond (Nat.beq i i) (T i) (T i)=T i;cases Nat.beq i i<;>rfl
 ·have:Nat.beq i d=false:=by rw[←lF,wQ];exact h
  rw[this];rfl
theorem Core.tr{tm:Array Value}(h:Core c σ tm w M ν){H':Nat→Option aW}{w':World}{M':Nat→Prop}{ν':Nat→Value}(t:Tr c σ.H w M ν H' w' M' ν'):Core c ⟨σ.T,H'⟩ tm w' M' ν':=
 ⟨t.mem,λi=>VR.bG t.bG t.goes (h.tmp i)⟩
theorem Core.wc{tm:Array Value}(h:Core c σ tm w M ν){d:Option Nat}{x:bk}{v:Value}{io:List Nat}(hd:Ms tm.size io d=true)(hx:VR w M σ.H ν x v)(ds:List Deferred):
  Core c (σ.wc d x) (({tmps:=tm,defers:=ds}:Act).put d v).tmps w M ν:=by
 cases d with
 |none=>exact h
 |some d=>
  have dU:d<tm.size:=by simp only[Ms,bQ,Ai]at hd;exact hd.1
  refine⟨h.mem,λi=> ?_⟩
  show VR w M σ.H ν ((σ.put d x).T i) ((tm.setIfInBounds d v).getD i undef)
  by_cases hi:i=d
  ·subst hi
   rw[rD]
   simp[Array.getD,dU]
   exact hx
  ·rw[xf _ _ hi]
   have:=h.tmp i
   have he:(tm.setIfInBounds d v).getD i undef=tm.getD i undef:=by
    rw[sM,sM,Mc (dz hi)]
   rw[he];exact this
def Inv(c:Ctx)(E:Env)(σ:St)(a:Act)(w:World):Prop:=(∃d M ν,c.le d∧Core d σ a.tmps w M ν∧(E.eU=true→kz c d σ.H ν))∧a.tmps.size=E.nt∧a.defers=[]∧ ∀i∈E.io,a.tmps.getD i undef=c.arg i
theorem Qs(σ:St)(d:Option Nat)(v:bk):(σ.wc d v).H=σ.H:=by cases d<;>rfl
theorem M5(a:Act)(d:Option Nat)(v:Value):(a.put d v).tmps.size=a.tmps.size:=by
 cases d<;>simp[Act.put]
theorem put_defers(a:Act)(d:Option Nat)(v:Value):(a.put d v).defers=a.defers:=by
 cases d<;>rfl
theorem RW{d:Option Nat}{v:Value}{io:List Nat}{n:Nat}(hd:Ms n io d=true){i:Nat}(hi:i∈io):(a.put d v).tmps.getD i undef=a.tmps.getD i undef:=by
 cases d with
 |none=>rfl
 |some d=>
  simp only[Ms,bQ,q6]at hd
  have h1:=hd.2 i hi
  have ij:i≠d:=by
   intro e;subst e
   simp at h1
  show(a.tmps.setIfInBounds d v).getD i undef=_
  rw[sM,sM,Mc (dz ij)]
theorem Inv.bool(h:Inv c E σ a w){x:Operand}{b:Bool}(hx:σ.ρ x= .val .bool b):a.eval x= .bool b:=by
 obtain⟨⟨d,M,ν,_,hc,_⟩,_,_,_⟩:=h
 have:=hc.ev x
 rw[hx]at this
 exact this.bool
theorem C9(hE:p8 P E){ops:Array Oper}(hI:Inv c E σ a w){K:St→List Nat→List Nat→Option α}(h:tY E ops.toList o σ K=some r)
  (hn: ∀σ' a' w' rd wr,K σ' rd wr=some r→Inv c E σ' a' w'→next a' w'):
  if Region.wanted o (yielded ops a.tmps)then o.wp P a w next Q else next (a.put o.dst undef) w:=by
 unfold tY at h
 obtain⟨hd,h⟩:=bN h
 have cU:Vm E o σ.ρ σ.H (λv rd ups=>K ((σ.wS ups).wc o.dst v) rd (ups.map (·.1)))=some r→o.wp P a w next Q:=by
  intro h
  obtain⟨⟨d,M,ν,hle,hc,D9⟩,hs,ahq,xg⟩:=hI
  refine TI hE hle hc D9 h λv rd ups v' w' d' M' ν' hK We hm ZB ar5 hV=> ?_
  have h2:σ.wS ups=⟨σ.T,cj σ.H ups⟩:=by rw[←Qj,←Qk ups σ]
  rw[h2]at hK
  refine hn _ _ _ _ _ hK ⟨⟨d',M',ν',We,?_,λhe=>by rw[Qs];exact ar5 he⟩,by rw[M5,hs],by rw[put_defers,ahq],λi hi=>(RW hd hi).trans (xg i hi)⟩
  exact(⟨hm,λi=>ZB _ _ (hc.tmp i)⟩:Core d' ⟨σ.T,cj σ.H ups⟩ a.tmps w' M' ν').wc (by rw[hs];exact hd) hV a.defers
 have sW: ∀rd wr,K (σ.wc o.dst .VF) rd wr=some r→next (a.put o.dst undef) w:=by
  intro rd wr h
  obtain⟨⟨d,M,ν,hle,hc,D9⟩,hs,ahq,xg⟩:=hI
  refine hn _ _ _ _ _ h ⟨⟨d,M,ν,hle,hc.wc (by rw[hs];exact hd) (by simp[VR]) a.defers,λhe=>by rw[Qs];exact D9 he⟩,by rw[M5,hs],by rw[put_defers,ahq],λi hi=>(RW hd hi).trans (xg i hi)⟩
 simp only at h
 split at h
 ·rename_i hg
  have:Region.wanted o (yielded ops a.tmps)=true:=by simp[Region.wanted,hg]
  rw[ak this]
  exact cU h
 ·rename_i j want hg
  split at h
  ·cases h
  ·rename_i t ht
   have ht':(ops[j]?).bind (·.dst)=some t:=by rw[←fR];exact ht
   have hy: ∀b,σ.T t= .val .bool b→yielded ops a.tmps j=some b:=by
    intro b hb
    obtain⟨⟨d,M,ν,_,hc,_⟩,hs,_,_⟩:=hI
    have h1:=hc.tmp t
    rw[hb]at h1
    have h1:=h1.bool
    have h2:a.tmps[t]? =some (.bool b):=by
     rw[sM]at h1
     cases h3:a.tmps[t]? with
     |none=>rw[h3]at h1;simp[undef]at h1
     |some v=>rw[h3]at h1;simpa using h1
    simp[yielded,ht',h2]
   split at h
   ·rename_i b hb
    have p9:σ.put t (.val .bool b)=σ:=by rw[←hb];exact F8 σ t
    have hw:=hy b hb
    cases want<;>cases b
    ·rw[ak (by simp[Region.wanted,hg,hw])]
     rw[p9]at h;exact cU h
    ·rw[ah (by simp[Region.wanted,hg,hw])]
     rw[p9]at h;exact sW _ _ h
    ·rw[ah (by simp[Region.wanted,hg,hw])]
     rw[p9]at h;exact sW _ _ h
    ·rw[ak (by simp[Region.wanted,hg,hw])]
     rw[p9]at h;exact cU h
   ·rename_i hb
    have Az: ¬Region.wanted o (yielded ops a.tmps)=true:=by
     obtain⟨⟨d,M,ν,_,hc,_⟩,hs,_,_⟩:=hI
     have h1:=hc.tmp t
     rw[hb]at h1
     simp only[VR]at h1
     have h2: ∀b,a.tmps[t]? ≠some (.bool b):=by
      intro b dj
      rw[sM,dj]at h1
      simp[undef]at h1
     have h3:yielded ops a.tmps j=none:=by
      unfold yielded
      rw[ht']
      show(match a.tmps[t]? with|some (.bool b)=>some b|_=>none)=none
      split
      ·rename_i b dj;exact absurd dj (h2 b)
      ·rfl
     simp[Region.wanted,hg,h3]
    rw[ah Az]
    exact sW _ _ h
   ·cases h
theorem Ga(hE:p8 P E){ops:Array Oper}: ∀(l:List Oper) (i:Nat) (σ:St) (lg:Log) (a:Act) (w:World) (K:St→Log→Option α),Inv c E σ a w→Tl E ops.toList l i σ lg K=some r→
  (∀σ' lg' a' w',K σ' lg'=some r→Inv c E σ' a' w'→Q .normal a' w')→wpList P ops Q l a w
 |[],i,σ,lg,a,w,K,hI,h,hn=>hn _ _ _ _ h hI
 |o::l,i,σ,lg,a,w,K,hI,h,hn=>by
  unfold Tl at h
  refine wpList_step λK' hK'=> ?_
  exact C9 hE hI h fun σ' a' w' rd wr h' yR=>hK' _ _ (Ga hE l (i+1) σ' _ a' w' K yR h' hn)
theorem M6(hI:Inv c E σ a w){x:Operand}{A B:St→Option α}(h:I3 E x σ A B=some r): ∃b,a.eval x= .bool b∧(if b then A σ else B σ)=some r:=by
 unfold I3 at h
 split at h
 ·rename_i b hb
  refine⟨b,hI.bool hb,?_⟩
  split at h
  ·rename_i t
   have hb:σ.T t= .val .bool b:=hb
   have p9:σ.put t (.val .bool b)=σ:=by rw[←hb];exact F8 σ t
   cases b
   ·rw[p9]at h;exact h
   ·rw[p9]at h;exact h
  ·cases b<;>exact h
 ·cases h
end VM
end
