/- A part of the proof of LotAll of layer 23: a machine that reads a function of the program as an equation between values. -/
import Derived.Test.YthnjnpjmbabcaaaGreatVm4
import Derived.Scope
set_option linter.all false
open List renaming getD→γ
section
namespace VM
open Go
variable{P:Program}{E:Env}{o:Oper}{a:Act}{w:World}{M:Nat→Prop}{ν:Nat→Value}{σ:St}{c:Ctx}{α:Type}{r:α}{next:Act→World→Prop}{Q:Exit→Act→World→Prop}
theorem B3{i:Nat}: ∀{ups:dR} {H:Nat→Option az},i∈keys ups→ ∃u∈ups,u.1=i∧a8 H ups i=u.2
 |[],_,h=>by simp[keys]at h
 |u::r,H,h=>by
  by_cases hk:i∈keys r
  ·obtain⟨v,h1,h2,h3⟩:=B3 (H:=aC H u.1 u.2) hk
   exact⟨v,aR _ h1,h2,h3⟩
  ·have hi:i=u.1:=by
    simp only[keys,bQ,bu]at h hk
    exact h.resolve_right hk
   refine⟨u,bl,hi.symm,?_⟩
   show a8 (aC H u.1 u.2) r i=_
   rw[gz hk,hi,ag]
theorem xl: ∀{ups:dR} {H H':Nat→Option az},(∀i,i∉keys ups→H i=H' i)→a8 H ups=a8 H' ups
 |[],H,H',h=>funext λi=>h i (by simp[keys])
 |u::r,H,H',h=>by
  refine xl (ups:=r) λi hi=> ?_
  by_cases hu:i=u.1
  ·subst hu;rw[ag,ag]
  ·rw[aj _ _ hu,aj _ _ hu]
   exact h i (by simp only[keys,bQ,bu,not_or];exact⟨hu,hi⟩)
theorem ER.len{v:Value}{e:Ty}{l:List e.den}(h:ER w M v (.own e l)): ∃ad cap,v= .slice ad l.length cap:=by
 simp only[ER]at h
 rcases h with⟨rfl,ad,rfl⟩|⟨b,cs,t,cap,h1,_⟩
 ·exact⟨ad,0,rfl⟩
 ·exact⟨_,cap,h1⟩
theorem RR.ld: ∀{ms:List AM} {x:HP ms} {us ps:List Value},RR w M ms x us ps→ ∀b∈aN ms us ps,M b
 |[],_,_,_,_,b,hb=>by simp[aN]at hb
 |m::ms,x,us,ps,h,b,hb=>by
  simp only[RR]at h
  rcases h with⟨p,vU,h1,rfl,h2,h3⟩|⟨v,vu,h1,h2,rfl,h3,h4⟩
  ·simp only[aN,h1,ed,mX,mY,bt]at hb
   rcases hb with hb|hb
   ·cases m<;>simp[AM.dY]at h1<;>(simp only[bH,cL,A1]at hb h2;exact h2.lP trivial hb)
   ·exact RR.ld h3 b hb
  ·simp only[aN,h1,dJ,cU,mX,mY,bt]at hb
   rcases hb with hb|hb
   ·cases m with
    |own e=>
     simp only[bH,cL,A1]at hb h3
     exact h3.lP trivial hb
    |v _=>simp[bH]at hb
    |io _=>simp[AM.dY]at h1
    |lo _=>simp[AM.dY]at h1
    |fn _ _=>simp[bH]at hb
    |dQ _=>simp[bH]at hb
    |ptr τ=>
     simp only[bH,cL,A1]at hb h3
     exact h3.lP trivial hb
    |sp τ n e=>
     simp only[A1]at h3
     obtain⟨cs,eH,u,l,z,rfl,hq,hr,mL,hu,_⟩:=h3
     rw[(p5 hq hr mL).1,cL]at hb
     exact hu.lP trivial hb
   ·exact RR.ld h4 b hb
theorem zt: ∀{l:List jU} {kv:List aF} {S:jU},BK l kv=some S→S∈l
 |[],_,_,h=>by simp[BK]at h
 |T::l,kv,S,h=>by
  unfold BK at h
  cases hf:fits T.args kv
  ·rw[hf]at h;exact aR _ (zt h)
  ·rw[hf]at h;cases h;exact bl
theorem uA{H:Nat→Option az}{id:Nat}: ∀{n:Nat},nE H id n=true→ ∀i,id≤i→i<id+n→H i=none
 |0,_,i,h1,h2=>ω
 |n+1,h,i,h1,h2=>by
  unfold nE at h
  rw[bg]at h
  by_cases hi:i=id+n
  ·subst hi
   have h:=h.1
   split at h
   ·assumption
   ·cases h
  ·exact uA h.2 i h1 ω
theorem Iu{H:Nat→Option az}{kv:List aF}{us:List Value}(h:eE w M H ν kv us):VR w M H ν (BI kv) (qG us):=by
 match kv,us,h with
 |[],[],_=>simp[BI,VR]
 |[a],[u],h=>simp only[eE,cT]at h;simpa [BI,qG]using h
 |a::b::kv,u::v::us,h=>
  simp only[BI,VR]
  exact⟨u::v::us,by simp[qG],h⟩
 |[],_::_,h=>simp[eE]at h
 |_::_,[],h=>simp[eE]at h
 |[_],_::_::_,h=>simp[eE]at h
 |_::_::_,[_],h=>simp[eE]at h
theorem B4(hΓ: ∀f S,S∈E.Γ f→gy P f S){H:Nat→Option az}(hm:Mem c H w M ν){f id:Nat}{kv:List aF}{vs:List Value}(hv:eE w M H ν kv vs){K:dp α}(h:ug E f kv id H K=some r)
  {R:Value→World→Prop} (hR: ∀v rd ups v' w' M' ν',K v rd ups=some r→Tr c H w M ν (a8 H ups) w' M' ν'→VR w' M' (a8 H ups) ν' v v'→R v' w'):
  B0 P f vs.toArray w R:=by
 unfold ug at h
 split at h
 ·cases h
 rename_i S hS
 have Iv:=hΓ f S (zt hS)
 obtain⟨x,rd,uo,uf,io,H2,Hq,M2,h1,hA,hK,Iw,Lg,E5⟩:=uy (eY.start hm) hv h
 clear h
 simp only[fT,fh]at hA Lg E5
 obtain⟨y,hy,h1⟩:=lY.1 h1
 obtain⟨ei,h1⟩:=aP h1
 have ei:=uA ei
 have Xu:(λb=>(M2 b∧b∉bY S.args vs)∨b∈bY S.args vs)=M2:=by
  funext b
  refine propext ⟨λh=>h.elim (·.1) (hA.hM b),λh=> ?_⟩
  by_cases hb:b∈bY S.args vs
  ·exact .inr hb
  ·exact .inl ⟨h,hb⟩
 refine B0.mono (Iv.call (λb=>M2 b∧b∉bY S.args vs) w vs x y (λb hb=>hA.mem.qS b hb.1) (by rw[Xu];exact Iw) hA.nd (λb hb h=>h.2 hb) hy) ?_
 rintro e w' ⟨us,M',rfl,B5,hL,oO,Wp⟩
 have Xv: ∀b∈bY S.args vs,c.M0 b→M' b:=by
  intro b hb h0
  obtain⟨q,hq,Xw⟩:=hA.Sm b hb h0
  exact B5.ld b (B5.xj (ν q.1) (by rw[←Lg];exact mb hq) b Xw)
 have iO: ∀b∈aN S.res us (c3 S.args vs),w.heap.size≤b∨b∈bY S.args vs:=by
  intro b hb
  rcases gq b w.heap.size with c6|Ld
  ·exact .inr ((hL.less b c6 (B5.ld b hb)).resolve_left (Wp b hb))
  ·exact .inl Ld
 have eZ: ∀b∈aN S.res us (c3 S.args vs),c.B≤b∨c.may b:=λb hb=>(iO b hb).elim (λh=> .inl (ea hm.size h)) (hA.B2 b)
 have wW: ∀b∈aN S.res us (c3 S.args vs),c.M0 b→ ∃p∈c3 S.args vs,cn p=some b:=by
  intro b hb h0
  rcases iO b hb with h'|h'
  ·have:=hm.iT.1 b h0;have:=hm.size;omega
  ·obtain⟨q,hq,Xw⟩:=hA.Sm b h' h0
   exact⟨ν q.1,by rw[←Lg];exact mb hq,Xw⟩
 have Xx: ∀q∈io,∀e,q.2=AM.lo e→ ∀b,cn (ν q.1)=some b→ ¬c.M0 b:=by
  intro q hq e he b hb
  rcases(hA.Gm q hq).2.2 with⟨τ0,z0,qF,_⟩|⟨e0,z0,qF,DV⟩
  ·rw[he]at qF;cases qF
  ·exact hm.qp q.1 e0 z0 b DV hb
 have key: ∀(Hx:Nat→Option az) (Mx:Nat→Prop) (U:dR),Mem c Hx w Mx ν→cm w M w Mx→(∀b,M2 b→Mx b)→(∀b∈bY S.args vs,∀i e,Hx i=some e→e.mut→cn (ν i)≠some b)→
   (∀q∈io,Hx q.1=some .gone)→(∀i,i∉keys io→a8 H (uo++U) i=Hx i)→(∀u∈uo++U,u.2=some .gone∨ ∃e l,u.2=some (.jk e l)∧H u.1=some (.own e l))→(∀i∈keys (uo++U),i∈keys (uo++uf))→
   RR w' (λb=>M' b∨(Mx b∧b∉bY S.args vs)) S.res y us (c3 S.args vs)→
   ∃ν',Tr c H w M ν (a8 H (uo++U++(dG S.res y id io).2.1)) w' (λb=>M' b∨(Mx b∧b∉bY S.args vs)) ν'∧
    eE w' (λb=>M' b∨(Mx b∧b∉bY S.args vs)) (a8 H (uo++U++(dG S.res y id io).2.1)) ν' (dG S.res y id io).1 us:=by
  intro Hx Mx U Gj hkx Gq iU B6 Pj An hU S1
  obtain⟨gw,zu⟩:=Gj.call (λb hb=>Gq b hb.1) (λb hb=>Gq b (hA.hM b hb)) iU hA.B2 Xv hL
  have hx: ∀i e,H i=some e→i∉keys io→ ∃e',Hx i=some e'∧e.fy e':=by
   intro i e hi vX
   rw[←Pj i vX]
   by_cases hk:i∈keys (uo++U)
   ·obtain⟨u,hu,S6,huv⟩:=B3 (H:=H) hk
    rw[huv]
    rcases An u hu with h'|⟨e1,l1,h',Be⟩
    ·exact⟨_,h',az.eN e⟩
    ·rw[S6,hi]at Be;cases Be;exact⟨_,h',rfl,rfl⟩
   ·rw[gz hk];exact⟨e,hi,.refl e⟩
  have Ix: ∀i,id≤i→i<id+S.res.length→Hx i=none:=by
   intro i h3 h4
   have h0:=ei i h3 h4
   have vX:i∉keys io:=λhk=>by
    obtain⟨q,hq,uz⟩:=cN.1 hk
    obtain⟨_,_,hz⟩:=hA.Gm q hq
    exact hz.some (by rw[uz];exact h0)
   rw[←Pj i vX]
   rw[gz,h0]
   intro hk
   obtain⟨_,e,l,h'⟩:=hA.Sk i (hU i hk)
   rw[h0]at h';cases h'
  obtain⟨ν',r1,r2,r3,r4,r5,r6⟩:=gW (hs:=bY S.args vs) (sz:=w.heap.size) (id:=id) (used:=[]) gw S1 Lg.symm (by rw[←Iv.ios,←E5]) hA.Td B6 Ix
   (λi e b hi Th hb=> .inl ⟨Gj.qS b ((Gj.dH i e hi).lP Th hb),λhh=>iU b hh i e hi Th hb⟩) (by simpa using oO) iO eZ wW Xx
  have Pk:a8 H (uo++U++(dG S.res y id io).2.1)=a8 Hx (dG S.res y id io).2.1:=by
   rw[cz]
   refine xl λi hi=> ?_
   by_cases vX:i∈keys io
   ·obtain⟨q,hq,uz⟩:=cN.1 vX
    rcases r6 q hq with⟨τ,z,_,hz⟩|⟨e,z,_,hz⟩
    ·rw[uz,gz hi,←uz,B6 q hq]at hz;cases hz
    ·rw[uz,gz hi,←uz,B6 q hq]at hz;cases hz
   ·exact Pj i vX
  refine⟨ν',⟨by rw[Pk];exact r1,hkx.trans zu,⟨λi e hi=> ?_,λi hi=> ?_⟩⟩,by rw[Pk];exact r2⟩
  ·rw[Pk]
   by_cases vX:i∈keys io
   ·obtain⟨q,hq,uz⟩:=cN.1 vX
    obtain⟨_,_,hg0⟩:=hA.Gm q hq
    rcases r6 q hq with⟨τ,z,KC,hz⟩|⟨e2,z,KC,hz⟩
    ·rcases hg0 with⟨τ0,z0,qF,DV⟩|⟨e0,z0,qF,DV⟩
     ·rw[KC]at qF;cases qF
      rw[uz]at hz DV
      rw[hi]at DV;cases DV
      exact⟨_,hz,rfl⟩
     ·rw[KC]at qF;cases qF
    ·rcases hg0 with⟨τ0,z0,qF,DV⟩|⟨e0,z0,qF,DV⟩
     ·rw[KC]at qF;cases qF
     ·rw[KC]at qF;cases qF
      rw[uz]at hz DV
      rw[hi]at DV;cases DV
      refine⟨_,hz,rfl,?_⟩
      obtain⟨a1,c1,k1⟩:=ER.len (hm.dH i _ hi)
      obtain⟨a2,c2,k2⟩:=ER.len (r1.dH i _ hz)
      rw[r3 i (by rw[←uz,B6 q hq];simp),k1]at k2
      simp only[Value.slice.injEq]at k2
      exact k2.2.1
   ·obtain⟨e',lO,hl⟩:=hx i e hi vX
    have hr:i<id∨id+S.res.length≤i:=by
     rcases gq i id with h'|h'
     ·exact .inl h'
     ·rcases gq i (id+S.res.length)with Be|Be
      ·rw[ei i h' Be]at hi;cases hi
      ·exact .inr Be
    exact⟨e',by rw[r4 i vX hr];exact lO,hl⟩
  ·refine r3 i ?_
   obtain⟨e,he⟩:=rA.1 hi
   by_cases vX:i∈keys io
   ·obtain⟨q,hq,uz⟩:=cN.1 vX
    rw[←uz,B6 q hq];simp
   ·obtain⟨e',lO,_⟩:=hx i e he vX
    rw[lO];simp
 cases hq:S.quiet
 ·
  rw[hq]at h1
  have hMn:(λb=>M' b∨(M2 b∧b∉bY S.args vs))=M':=by
   funext b
   exact propext ⟨λh=>h.elim (λh=>h) (hL.sub b),.inl⟩
  obtain⟨ν',df,K4⟩:=key H2 M2 uf hA.mem hA.aV (λ_ h=>h) (λb hb i e hi Th=>hA.none b hb i e (hA.fz.mut hi Th) Th) (λq hq=>(hA.Gm q hq).1) hA.ext
   (λu hu=>(bt.1 hu).elim (λh=> .inl (hA.Pd u h)) (λh=> .inr (hA.Sl u h))) (λ_ h=>h) (by rw[hMn];exact B5)
  exact hR _ _ _ _ _ _ _ h1 df (Iu K4)
 ·rw[hq]at h1
  have Gq: ∀b,M2 b→M b:=λb hb=>hA.aV.less b (hA.mem.qS b hb) hb
  obtain⟨ν',df,K4⟩:=key Hq M [] hA.B1 (.refl w M) Gq hA.none (λq hq=>(hA.Gm q hq).2.1) (by rw[cy];exact hA.Ip)
   (λu hu=> .inl (hA.Pd u (by simpa using hu))) (λi hi=>by simp only[keys,cy,dv,bt]at hi ⊢;exact .inl hi) (B5.flat (λb h=> .inl h) (Iv.quiet hq))
  exact hR _ _ _ _ _ _ _ h1 df (Iu K4)
theorem Lj(hΓ: ∀f S,S∈E.Γ f→gy P f S)(hc:Core c σ a.tmps w M ν){args:Array Operand}{ts:Array TypeId}{g:Operand}(ho:o.op= .call {callee:= .value g,args,argTypes:=ts}){K:dp α}{f:Nat}{kX:List aF}(hg:σ.ρ g= .BD f kX){id:Nat}
  (h:ug E f (args.toList.map σ.ρ ++kX) id σ.H K=some r) (hn:cW c σ a o w M ν K r next):o.wp P a w next Q:=by
 have Ti:=hc.ev g
 rw[hg]at Ti
 simp only[VR]at Ti
 obtain⟨cs,Ti,mL⟩:=Ti
 have Gr: ∀{Tj:List aF} {Iy:List Value},eE w M σ.H ν Tj Iy→eE w M σ.H ν (Tj++kX) (Iy++cs):=by
  intro Tj
  induction Tj with
  |nil=>intro Iy h1;cases Iy with
   |nil=>exact mL
   |cons _ _=>simp[eE]at h1
  |cons x Tj ih=>intro Iy h1;cases Iy with
   |nil=>simp[eE]at h1
   |cons v Iy=>simp only[eE]at h1;simp only[kN,eE];exact⟨h1.1,ih h1.2⟩
 have hd:=B4 (P:=P) hΓ hc.mem (Gr (hc.Wk args.toList)) h (R:=λv' w'=>next (a.put o.dst v') w') (λv rd ups v' w' M' ν' h1 h2 h3=>hn v rd ups v' w' M' ν' h1 h2 h3)
 have hex:(execOp a.eval o).run P w=(callFunc f (args.toList.map a.eval++cs).toArray).run P w:=by
  have:(args.toList.map a.eval++cs).toArray= #[]++args.map a.eval++cs.toArray:=by apply eb;simp
  rw[this]
  simp[execOp,ho,resolve,Ti,Deferred.ofValue,invoke]
 unfold Oper.wp
 rw[hex]
 exact hd o a next Q λv w' hv=>hv
structure jF(P:Program)(E:Env):Prop extends EnvTy P E where
 Tk: ∀f S,S∈E.Γ f→gy P f S
 mixed:P.follows .mixedOrders=true
 fp: ∀i L,E.pc i=some L→VM.fp L=true
 Iz: ∀i L,E.qn i=some L→VM.fp L=true
theorem zv(hE:jF P E)(hc:Core c σ a.tmps w M ν){K:dp α}(h:mS E o σ.ρ σ.H K=some r)(hn:cW c σ a o w M ν K r next):o.wp P a w next Q:=by
 have hT:=hE.toEnvTy
 unfold mS at h
 simp only at h
 split at h
 ·rename_i x ho;exact EY hc (.inl ho) h hn
 ·rename_i x ho;exact EY hc (.inr ho) h hn
 ·rename_i x y z ho
  split at h
  ·rename_i t hx;exact KX hc ho hx h hn
  ·cases h
 ·rename_i t ho
  split at h
  ·rename_i τ ht;exact HZ hT hc ho ht h hn
  ·cases h
 ·rename_i t x ho
  split at h
  ·rename_i τ ht;exact OU hT hc ho h hn
  ·cases h
 ·rename_i t ps ho
  split at h
  ·rename_i n e ht;exact Ak hT hc ho ht h hn
  ·rename_i τ Ih ht
   split at h
   ·rename_i n k hs;exact BY hT hc ho ht (λn e he=>Ih n e he) hs h hn
   ·exact vr hT hc ho ht (λn e he=>Ih n e he) h hn
  ·cases h
 ·rename_i t n ps ho
  split at h
  ·rename_i e ht;exact yU hT hc ho ht h hn
  ·cases h
 ·rename_i t x ho
  split at h
  ·rename_i τ ht;exact H6 hT hc ho ht h hn
  ·cases h
 ·rename_i t x y ho
  split at h
  ·rename_i τ ht;exact Gd hT hc ho ht h hn
  ·cases h
 ·rename_i x ho
  split at h
  ·rename_i id p hx;exact vp hc ho hx h hn
  ·rename_i τ z hx;exact tz hc ho hx h hn
  ·cases h
 ·rename_i b t x y t' ho;exact H9 hT hc ho h hn
 ·rename_i u t x ho;exact K6 hc ho h hn
 ·rename_i s d x ho
  split at h
  ·rename_i τ k hs hd;exact D8 hT hc ho hs hd h hn
  ·cases h
 ·rename_i f first kX ho;exact BU hc ho h hn
 ·rename_i t x y ho
  split at h
  ·rename_i e ht;exact Ai hT hc ho ht h hn
  ·cases h
 ·rename_i t x lo hi mx ho
  split at h
  ·rename_i τ ht;exact Gk hT hc ho ht h hn
  ·cases h
 ·rename_i t x n ho
  split at h
  ·rename_i τ ht
   split at h
   ·rename_i id p hx;exact tx hT hc ho ht hx h hn
   ·rename_i υ z hx;exact sA hT hc ho ht hx h hn
   ·cases h
  ·cases h
 ·rename_i t x n ho
  split at h
  ·rename_i τ ht
   split at h
   ·rename_i υ z hx;exact H8 hT hc ho ht hx h hn
   ·cases h
  ·cases h
 ·rename_i t x i ho
  split at h
  ·rename_i τ ht;exact Af hT hc ho ht h hn
  ·cases h
 ·rename_i t x i ho
  split at h
  ·rename_i τ ht;exact Ib hT hc ho ht h hn
  ·cases h
 ·rename_i x i ho
  split at h
  ·rename_i vs hx
   split at h
   ·rename_i v hv;exact D7 hc ho hx hv h hn
   ·cases h
  ·cases h
 ·rename_i cl ho
  obtain⟨callee,args,ts⟩:=cl
  simp only at h
  split at h
  ·split at h
   ·rename_i x τ ha ht;exact O4 hT hc ho ha ht h hn
   ·cases h
  ·split at h
   ·rename_i x y t t' ha ht
    split at h
    ·rename_i e Pl;exact Gl hT hc ho ha ht Pl h hn
    ·cases h
   ·cases h
  ·split at h
   ·rename_i x t ha O8
    split at h
    ·rename_i e Pl;exact Im hT hc ho ha O8 Pl h hn
    ·cases h
   ·cases h
  ·split at h
   ·rename_i x xs ha;exact NA hc true ho ha h hn
   ·cases h
  ·split at h
   ·rename_i x xs ha;exact NA hc false ho ha h hn
   ·cases h
  ·rename_i g
   split at h
   ·rename_i f kX hg;exact Lj hE.Tk hc ho hg h hn
   ·cases h
  ·cases h
 ·cases h
end VM
end
section
namespace VM
open Go
variable{P:Program}{E:Env}{o:Oper}{a:Act}{w:World}{M:Nat→Prop}{ν:Nat→Value}{σ:St}{c d:Ctx}{α:Type}{r:α}{next:Act→World→Prop}{Q:Exit→Act→World→Prop}
structure Ctx.le(c d:Ctx):Prop where
 B:c.B≤d.B
 M0: ∀b,c.M0 b→d.M0 b
 fr: ∀b,b<c.B→ ¬c.may b→d.w0.heap[b]? =c.w0.heap[b]? ∧ ¬d.may b
 may: ∀b,d.B≤b∨d.may b→c.B≤b∨c.may b
 iT:(∀b,c.M0 b→b<c.B)∧ ∀b,c.may b→ ¬c.M0 b
 os:d.w0.os=c.w0.os
 tape:d.w0.tape=c.w0.tape
 output:d.w0.output=c.w0.output
theorem Ctx.le.refl(h:(∀b,c.M0 b→b<c.B)∧ ∀b,c.may b→ ¬c.M0 b):c.le c:=⟨aH _,λ_ h=>h,λ_ _ h=>⟨rfl,h⟩,λ_ h=>h,h,rfl,rfl,rfl⟩
theorem Mem.up{H:Nat→Option az}(h:Mem d H w M ν)(k:c.le d):Mem c H w M ν:=
 ⟨h.dH,h.qv,λi e b hi hm hb=>k.may b (h.new i e b hi hm hb),λi e l b hi hb h0=>h.qp i e l b hi hb (k.M0 b h0),h.dj,λb hb=>h.sub b (k.M0 b hb),h.qS,
  λb hb hm=>(h.frame b (fP hb k.B) (k.fr b hb hm).2).trans (k.fr b hb hm).1,ea k.B h.size,k.iT,h.os.trans k.os,h.tape.trans k.tape,h.output.trans k.output⟩
def Ctx.at(c:Ctx)(w:World)(X:Nat→Prop):Ctx:={B:=w.heap.size,w0:=w,M0:=X,may:=λb=>b<w.heap.size∧ ¬X b∧(c.B≤b∨c.may b),arg:=c.arg}
theorem Mem.Ao{H:Nat→Option az}(k:c.le d)(h:Mem d H w M ν){w':World}{M':Nat→Prop}(kp:cm w M w' M'){X:Nat→Prop}(hX: ∀b,X b→M' b)(hl: ∀b,M' b→b<w'.heap.size)(h0: ∀b,c.M0 b→X b)
  (hb: ∀i e b,H i=some e→e.mut→cn (ν i)=some b→w'.heap[b]? =w.heap[b]? ∧M' b∧ ¬X b) (Ix: ∀b,b<c.B→ ¬c.may b→w'.heap[b]? =w.heap[b]?)
  (ho:w'.os=w.os) (ht:w'.tape=w.tape) (hu:w'.output=w.output):Mem (c.at w' X) H w' M' ν∧c.le (c.at w' X):=by
 have xm:=h.up k
 refine⟨⟨λi e he=>(h.dH i e he).aV kp λhm b bT=>⟨(hb i e b he hm bT).1,(hb i e b he hm bT).2.1⟩,h.qv,λi e b hi hm bT=> .inr ⟨hl b (hb i e b hi hm bT).2.1,(hb i e b hi hm bT).2.2,xm.new i e b hi hm bT⟩,
  λi e l b hi bT=>(hb i _ b hi trivial bT).2.2,iv h (λ_ _=>rfl) (λ_ h=>h) (λi τ x p j hi=> .inl ⟨hi,λb bT=>(hb i _ b hi trivial (by rw[bT];rfl)).1⟩),hX,hl,λ_ _ _=>rfl,aH _,
  ⟨λb bT=>hl b (hX b bT),λb hm=>hm.2.1⟩,rfl,rfl,rfl⟩,⟨ea xm.size kp.size,h0,λb bT hm=>⟨(Ix b bT hm).trans (xm.frame b bT hm),λhc=>hc.2.2.elim (λh'=>ω) hm⟩,
  λb bT=>bT.elim (λh'=> .inl (ea (ea xm.size kp.size) h')) (λh'=>h'.2.2),k.iT,ho.trans xm.os,ht.trans xm.tape,hu.trans xm.output⟩⟩
theorem Mem.still{H:Nat→Option az}(h:Mem d H w M ν){b:Nat}(hb:d.M0 b):w.heap[b]? =d.w0.heap[b]? :=h.frame b (h.iT.1 b hb) λhm=>h.iT.2 b hm hb
theorem Mem.apart{H:Nat→Option az}(h:Mem d H w M ν){i:Nat}{e:az}{b:Nat}(hi:H i=some e)(hm:e.mut)(hb:cn (ν i)=some b): ¬d.M0 b:=λh0=>
 (h.new i e b hi hm hb).elim (λh'=>by have:=h.iT.1 b h0;omega) (λh'=>h.iT.2 b h' h0)
theorem Mem.ghost{H:Nat→Option az}(h:Mem d H w M ν){id:Nat}{e:az}(hm: ¬e.mut)(wX: ∀v,ER w M v e){v:Value}(hv:H id=none∨v=ν id):Mem d (aC H id (some e)) w M (updν ν id v):=by
 have hν: ∀i,i≠id→updν ν id v i=ν i:=λi hi=>by simp[updν,hi]
 refine⟨λi e1 hi=> ?_,λi j e1 e2 b jC hi fM hj kI=> ?_,λi e1 b hi fM=> ?_,λi e1 l1 b hi=> ?_,iv h (λi hi=> ?_) nH (λi τ x p j hi=> ?_),h.sub,h.qS,h.frame,h.size,h.iT,h.os,h.tape,h.output⟩
 ·by_cases aI:i=id
  ·subst aI;rw[ag]at hi;cases hi;exact wX _
  ·rw[aj _ _ aI]at hi;rw[hν i aI];exact h.dH i e1 hi
 ·by_cases aI:i=id
  ·subst aI;rw[ag]at hi;cases hi;exact absurd fM hm
  ·by_cases uj:j=id
   ·subst uj;rw[ag]at hj;cases hj;exact absurd kI hm
   ·rw[aj _ _ aI]at hi;rw[aj _ _ uj]at hj;rw[hν i aI,hν j uj];exact h.qv i j e1 e2 b jC hi fM hj kI
 ·by_cases aI:i=id
  ·subst aI;rw[ag]at hi;cases hi;exact absurd fM hm
  ·rw[aj _ _ aI]at hi;rw[hν i aI];exact h.new i e1 b hi fM
 ·by_cases aI:i=id
  ·subst aI;rw[ag]at hi;cases hi;exact absurd trivial hm
  ·rw[aj _ _ aI]at hi;rw[hν i aI];exact h.qp i e1 l1 b hi
 ·by_cases aI:i=id
  ·subst aI;rcases hv with hv|hv
   ·exact absurd hv hi
   ·simp[updν,hv]
  ·exact hν i aI
 ·by_cases aI:i=id
  ·subst aI;rw[ag]at hi;cases hi;exact absurd trivial hm
  ·rw[aj _ _ aI]at hi;exact .inl ⟨hi,λ_ _=>rfl⟩
theorem ER.flat{w':World}{M':Nat→Prop}{e:Ty}{l:List e.den}{v:Value}(hf:e.flat=true)(h:ER w M v (.own e l))(hb: ∀b,cn v=some b→w'.heap[b]? =w.heap[b]? ∧M' b):ER w' M' v (.own e l):=by
 simp only[ER]at h ⊢
 rcases h with h|⟨b,cs,t,cap,rfl,hg,hM,hc,hl,vR,hs,hr⟩
 ·exact .inl h
 ·obtain⟨h1,h2⟩:=hb b (by simp[cn];omega)
  exact .inr ⟨b,cs,t,cap,rfl,h1.trans hg,h2,hc,hl,vR,hs,λi hi=>(hr i hi).flat hf⟩
def Gs(c d:Ctx)(b:Nat):Prop:=d.M0 b∧ ¬c.M0 b∧(c.B≤b∨c.may b)
def Tl(c d:Ctx)(e:Ty)(l:List (List e.den))(o:Option Nat)(v:Value):Prop:=
 e.flat=true∧ ∃(b:Nat) (cs:Array Value) (t:TypeId) (cap:Nat),v= .slice (some ⟨b,0,none⟩) l.length cap∧d.w0.heap[b]? =some (.cells cs t (0,0))∧Gs c d b∧l.length≤cap∧cs.size=cap∧
  (∀k (_:k<l.length),o≠some k→ ∃u,cs[k]? =some u∧ER d.w0 d.M0 u (.own e (l.getD k []))∧ ∀b',cn u=some b'→b'≠b∧Gs c d b')∧
  ∀k k' u u' b',k≠k'→k<l.length→k'<l.length→o≠some k→o≠some k'→cs[k]? =some u→cs[k']? =some u'→cn u=some b'→cn u'≠some b'
structure fD(c d:Ctx)(H:Nat→Option az)(ν:Nat→Value):Prop where
 tok:H 7=none→ ∀i e l o,H i≠some (.cV e l o)
 one: ∀i j e l o e' l' o',H i=some (.cV e l o)→H j=some (.cV e' l' o')→i=j
 mem: ∀i e l o,H i=some (.cV e l o)→Tl c d e l o (ν i)
theorem fD.step{H H':Nat→Option az}{ν':Nat→Value}(h:fD c d H ν)(iU: ∀i e l o,H' i=some (.cV e l o)→H i=some (.cV e l o))(g:eI H ν H' ν'):fD c d H' ν':=by
 refine⟨λh7 i e l o hi=> ?_,λi j e l o e' l' o' hi hj=>h.one i j _ _ _ _ _ _ (iU _ _ _ _ hi) (iU _ _ _ _ hj),λi e l o hi=> ?_⟩
 ·refine h.tok ?_ i e l o (iU _ _ _ _ hi)
  cases h0:H 7 with
  |none=>rfl
  |some e0=>obtain⟨e1,h1,_⟩:=g.dH 7 e0 h0;rw[h7]at h1;cases h1
 ·have:=iU _ _ _ _ hi
  rw[g.head i (by rw[this];simp)]
  exact h.mem i e l o this
theorem xn: ∀{ups:dR},HT ups=true→ ∀{H:Nat→Option az} (i:Nat) (e:Ty) (l:List (List e.den)) (o:Option Nat),a8 H ups i=some (.cV e l o)→H i=some (.cV e l o)
 |[],_,_,_,_,_,_,h=>h
 |u::r,hn,H,i,e,l,o,h=>by
  unfold HT at hn
  rw[rZ,bg]at hn
  have:=xn (ups:=r) hn.2 i e l o h
  by_cases hi:i=u.1
  ·subst hi
   rw[ag]at this
   rw[this]at hn
   simp at hn
  ·rwa [aj _ _ hi]at this
def Lk(c:Ctx)(E:Env)(σ:St)(a:Act)(o:Oper)(w:World)(M:Nat→Prop)(ν:Nat→Value)(v:aF)(ups:dR)(next:Act→World→Prop):Prop:=
 ∀v' w' d' M' ν',c.le d'→Mem d' (a8 σ.H ups) w' M' ν'→(∀u x,VR w M σ.H ν u x→VR w' M' (a8 σ.H ups) ν' u x)→fD c d' (a8 σ.H ups) ν'→VR w' M' (a8 σ.H ups) ν' v v'→next (a.put o.dst v') w'
theorem eI.cV{H:Nat→Option az}{id:Nat}{e:Ty}{l l':List (List e.den)}{o o':Option Nat}(hid:H id=some (.cV e l o))(hl:l.length=l'.length):eI H ν (aC H id (some (.cV e l' o'))) ν:=by
 refine⟨λi e1 hi=> ?_,λ_ _=>rfl⟩
 by_cases aI:i=id
 ·subst aI;rw[hid]at hi;cases hi;exact⟨_,ag _ _ _,hl⟩
 ·exact⟨e1,by rw[aj _ _ aI];exact hi,.refl e1⟩
theorem eI.put{H:Nat→Option az}{id:Nat}(hid:H id=none)(e:az)(v:Value):eI H ν (aC H id (some e)) (updν ν id v):=by
 refine⟨λi e1 hi=> ?_,λi hi=> ?_⟩
 ·have aI:i≠id:=λe=>by rw[e,hid]at hi;cases hi
  exact⟨e1,by rw[aj _ _ aI];exact hi,.refl e1⟩
 ·have aI:i≠id:=λe=>hi (e▸hid)
  simp[updν,aI]
theorem eI.gone{H:Nat→Option az}(id:Nat):eI H ν (aC H id (some .gone)) ν:=by
 refine⟨λi e1 hi=> ?_,λ_ _=>rfl⟩
 by_cases aI:i=id
 ·subst aI;exact⟨_,ag _ _ _,by cases e1<;>simp[az.fy]⟩
 ·exact⟨e1,by rw[aj _ _ aI];exact hi,.refl e1⟩
theorem updν_self(id:Nat):updν ν id (ν id)=ν:=by funext i;unfold updν;split<;>simp_all
theorem fD.row{H:Nat→Option az}(h:fD c d H ν)(hm:Mem d H w M ν){id:Nat}{e:Ty}{l:List (List e.den)}{o:Option Nat}(hid:H id=some (.cV e l o)):
  e.flat=true∧ ∃(b:Nat) (cs:Array Value) (t:TypeId) (cap:Nat),ν id= .slice (some ⟨b,0,none⟩) l.length cap∧w.heap[b]? =some (.cells cs t (0,0))∧Gs c d b∧l.length≤cap∧cs.size=cap∧
  (∀k (_:k<l.length),o≠some k→ ∃u,cs[k]? =some u∧ER w M u (.own e (l.getD k []))∧ ∀b',cn u=some b'→b'≠b∧Gs c d b')∧
  ∀k k' u u' b',k≠k'→k<l.length→k'<l.length→o≠some k→o≠some k'→cs[k]? =some u→cs[k']? =some u'→cn u=some b'→cn u'≠some b':=by
 obtain⟨hf,b,cs,t,cap,h1,h2,h3,h4,h5,h6,h7⟩:=h.mem id e l o hid
 refine⟨hf,b,cs,t,cap,h1,(hm.still h3.1).trans h2,h3,h4,h5,λk hk ho=> ?_,h7⟩
 obtain⟨u,hu,wX,hb⟩:=h6 k hk ho
 exact⟨u,hu,wX.flat hf λb' bT=>⟨hm.still (hb b' bT).2.1,hm.sub b' (hb b' bT).2.1⟩,hb⟩
theorem IA{cs:Array Value}{k:Nat}{u:Value}(h:cs[k]? =some u):cs.toList[k]? =some u:=by rw[dm];exact h
theorem fD.out{H:Nat→Option az}(h:fD c d H ν)(hle:c.le d)(hm:Mem d H w M ν){id:Nat}{e:Ty}{l:List (List e.den)}(hid:H id=some (.cV e l none)){n:Nat}(hn:n<l.length){x:Nat}(hx:H x=none)
  {b:Nat} {cp:Nat} {m:Nat} (hb:ν id= .slice (some ⟨b,0,none⟩) m cp):
  ∃u d',w.cell? ⟨b,n,none⟩=some u∧c.le d'∧Mem d' (aC (aC H x (some (.own e (l.getD n [])))) id (some (.cV e l (some n)))) w M (updν ν x u)∧fD c d' (aC (aC H x (some (.own e (l.getD n [])))) id (some (.cV e l (some n)))) (updν ν x u):=by
 obtain⟨hf,b',cs,t,cap,h1,h2,h3,h4,h5,h6,h7⟩:=h.row hm hid
 rw[hb]at h1;cases h1
 obtain⟨u,hu,wX,NH⟩:=h6 n hn (by simp)
 have eX:x≠id:=λe=>by rw[e,hid]at hx;cases hx
 have hk:cm w M w M:=⟨aH _,λ_ _ _=>rfl,λ_ _ h=>h⟩
 obtain⟨fM,nO⟩:=Mem.Ao (X:=λb=>d.M0 b∧cn u≠some b) hle hm hk (λb hb=>hm.sub b hb.1) hm.qS (λb hb=>⟨hle.M0 b hb,λvT=>(NH b vT).2.2.1 hb⟩)
  (λi e1 b1 hi kA cg=>⟨rfl,(hm.dH i e1 hi).lP kA cg,λhX=>hm.apart hi kA cg hX.1⟩) (λ_ _ _=>rfl) rfl rfl rfl
 have kI:=fM.oD (id:=x) (v:=u) (e:= .own e (l.getD n [])) (λe' lO=>by rw[hx]at lO;cases lO) wX (λb1 cg i e1 hi kA nI=>hm.apart hi kA nI (NH b1 cg).2.1)
  (λb1 cg=> .inr ⟨hm.qS b1 (hm.sub b1 (NH b1 cg).2.1),λhX=>hX.2 cg,(NH b1 cg).2.2.2⟩) (λb1 _ _ _ cg hX=>hX.2 cg) (.inl hx) (λ_ _ _ _ h=>by cases h)
 have hνid:updν ν x u id=ν id:=by simp[updν,cP eX]
 have Tm:=kI.ghost (id:=id) (e:= .cV e l (some n)) (v:=ν id) (by simp[az.mut]) (λ_=>by simp[ER]) (.inr hνid.symm)
 rw[show updν (updν ν x u) id (ν id)=updν ν x u from by rw[←hνid];exact updν_self id]at Tm
 refine⟨u,_,by rw[cell_of h2];exact hu,nO,Tm,⟨λyK i e1 l1 o1 hi=> ?_,λi j e1 l1 o1 e2 l2 o2 hi hj=> ?_,λi e1 l1 o1 hi=> ?_⟩⟩
 ·have Pm:H 7=none:=by
   by_cases h8:7=id
   ·rw[←h8,ag]at yK;cases yK
   ·rw[aj _ _ h8]at yK
    by_cases h9:7=x
    ·rw[←h9,ag]at yK;cases yK
    ·rwa [aj _ _ h9]at yK
  exact h.tok Pm id _ _ _ hid
 all_goals
  have key: ∀i e1 l1 o1,aC (aC H x (some (.own e (l.getD n [])))) id (some (.cV e l (some n))) i=some (.cV e1 l1 o1)→i=id:=λi e1 l1 o1 hi=>by
   by_cases aI:i=id
   ·exact aI
   ·rw[aj _ _ aI]at hi
    by_cases NI:i=x
    ·subst NI;rw[ag]at hi;cases hi
    ·rw[aj _ _ NI]at hi;exact h.one i id _ _ _ _ _ _ hi hid
 ·rw[key _ _ _ _ hi,key _ _ _ _ hj]
 ·have:=key _ _ _ _ hi
  subst this
  rw[ag]at hi;cases hi
  refine⟨hf,b,cs,t,cp,by rw[hνid];exact hb,h2,⟨⟨h3.1,λvT=>(NH b vT).1 rfl⟩,h3.2⟩,h4,h5,λk nf ho=> ?_,λk k' u1 u2 b1 yG tf vW _ _=>h7 k k' u1 u2 b1 yG tf vW (by simp) (by simp)⟩
  obtain⟨u1,Eb,Pn,yX⟩:=h6 k nf (by simp)
  have B7:n≠k:=λe=>ho (by rw[e])
  have So: ∀b1,cn u1=some b1→cn u≠some b1:=λb1 cg nI=>h7 n k u u1 b1 B7 hn nf (by simp) (by simp) hu Eb nI cg
  exact⟨u1,Eb,Pn.flat hf λb1 cg=>⟨rfl,(yX b1 cg).2.1,So b1 cg⟩,λb1 cg=>⟨(yX b1 cg).1,⟨(yX b1 cg).2.1,So b1 cg⟩,(yX b1 cg).2.2⟩⟩
theorem fD.Xy{H:Nat→Option az}(h:fD c d H ν)(hle:c.le d)(hm:Mem d H w M ν){id j:Nat}{e:Ty}{l:List (List e.den)}{n:Nat}(hid:H id=some (.cV e l (some n)))(hn:n<l.length){l':List e.den}(hj:H j=some (.own e l'))
  {b:Nat} {cs:Array Value} {t:TypeId} {cp:Nat} {m:Nat} (hb:ν id= .slice (some ⟨b,0,none⟩) m cp) (hg:w.heap[b]? =some (.cells cs t (0,0))):
  n<cs.size∧cm w M (w.setRow b (ca cs.toList n [ν j]).toArray) M∧ ∃d',c.le d'∧Mem d' (aC (aC H j (some .gone)) id (some (.cV e (l.set n l') none))) (w.setRow b (ca cs.toList n [ν j]).toArray) M ν∧
   fD c d' (aC (aC H j (some .gone)) id (some (.cV e (l.set n l') none))) ν:=by
 obtain⟨hf,b',cs',t',cap,h1,h2,h3,h4,h5,h6,h7⟩:=h.row hm hid
 rw[hb]at h1;cases h1
 rw[hg]at h2;cases h2
 have Tn:n<cs.size:=ω
 have eX:j≠id:=λe=>by rw[e,hid]at hj;cases hj
 have hM:M b:=hm.sub b h3.1
 have hk:cm w M (w.setRow b (ca cs.toList n [ν j]).toArray) M:=
  ⟨by rw[size_setRow];exact aH _,λb' _ eh=>setRow_other w b b' _ (λe=>eh (e▸hM)),λ_ _ h=>h⟩
 have DW:=(Tr.gone hm j).mem
 have Nv: ∀i e1 b1,aC H j (some .gone) i=some e1→e1.mut→cn (ν i)=some b1→b1≠b∧cn (ν j)≠some b1∧ ¬d.M0 b1:=λi e1 b1 hi kA cg=>by
  have h0:=DW.apart hi kA cg
  refine⟨λe=>h0 (e▸h3.1),λIB=> ?_,h0⟩
  by_cases jC:i=j
  ·subst jC;rw[ag]at hi;cases hi;simp[az.mut]at kA
  ·rw[aj _ _ jC]at hi;exact hm.qv i j e1 _ b1 jC hi kA hj trivial cg IB
 have Nu: ∀b1,cn (ν j)=some b1→b1≠b∧ ¬d.M0 b1∧M b1:=λb1 cg=>⟨λe=>hm.apart hj trivial cg (e▸h3.1),hm.apart hj trivial cg,(hm.dH j _ hj).lP trivial cg⟩
 obtain⟨fM,nO⟩:=Mem.Ao (w':=w.setRow b (ca cs.toList n [ν j]).toArray) (X:=λb=>d.M0 b∨cn (ν j)=some b) hle DW hk (λb1 cg=>cg.elim (hm.sub b1) (λh'=>(Nu b1 h').2.2)) (λb1 cg=>by rw[size_setRow];exact hm.qS b1 cg) (λb1 cg=> .inl (hle.M0 b1 cg))
  (λi e1 b1 hi kA cg=>⟨setRow_other w b b1 _ (Nv i e1 b1 hi kA cg).1,(DW.dH i e1 hi).lP kA cg,λhX=>hX.elim (Nv i e1 b1 hi kA cg).2.2 (Nv i e1 b1 hi kA cg).2.1⟩)
  (λb1 cg fM=>setRow_other w b b1 _ (λe=>h3.2.2.elim (λh'=>ω) (λh'=>fM (e▸h')))) rfl rfl rfl
 have kI:=fM.ghost (id:=id) (e:= .cV e (l.set n l') none) (v:=ν id) (by simp[az.mut]) (λ_=>by simp[ER]) (.inr rfl)
 rw[updν_self]at kI
 refine⟨Tn,hk,_,nO,kI,⟨λyK i e1 l1 o1 hi=> ?_,λi i' e1 l1 o1 e2 l2 o2 hi mj=> ?_,λi e1 l1 o1 hi=> ?_⟩⟩
 ·have Pm:H 7=none:=by
   by_cases h8:7=id
   ·rw[←h8,ag]at yK;cases yK
   ·rw[aj _ _ h8]at yK
    by_cases h9:7=j
    ·rw[←h9,ag]at yK;cases yK
    ·rwa [aj _ _ h9]at yK
  exact h.tok Pm id _ _ _ hid
 all_goals
  have key: ∀i e1 l1 o1,aC (aC H j (some .gone)) id (some (.cV e (l.set n l') none)) i=some (.cV e1 l1 o1)→i=id:=λi e1 l1 o1 hi=>by
   by_cases aI:i=id
   ·exact aI
   ·rw[aj _ _ aI]at hi
    by_cases NI:i=j
    ·subst NI;rw[ag]at hi;cases hi
    ·rw[aj _ _ NI]at hi;exact h.one i id _ _ _ _ _ _ hi hid
 ·rw[key _ _ _ _ hi,key _ _ _ _ mj]
 ·have:=key _ _ _ _ hi
  subst this
  rw[ag]at hi;cases hi
  have m9: ∀k,(ca cs.toList n [ν j]).toArray[k]? =if k=n then some (ν j)else cs[k]? :=λk=>by
   rw[oQ,px (by simp;omega)]
   by_cases B7:k=n
   ·subst B7;rw[ae (by simp),ae rfl];simp
   ·rw[af (by simp;omega),af B7,dm]
  have hold: ∀k,k<l.length→k≠n→ ∃u,cs[k]? =some u∧ER w M u (.own e (l.getD k []))∧ ∀b',cn u=some b'→b'≠b∧Gs c d b':=λk hk B7=>h6 k hk (by simp;omega)
  refine⟨hf,b,_,t,cp,by rw[aT];exact hb,setRow_heap w b cs _ t _ hg,⟨.inl h3.1,h3.2⟩,by rw[aT];exact h4,by rw[dZ,bV (by simp;omega),aJ];exact h5,λk nf _=> ?_,λk k' u1 u2 b1 yG tf vW _ _ Eb La cg nI=> ?_⟩
  ·rw[aT]at nf
   rw[m9]
   by_cases B7:k=n
   ·subst B7
    refine⟨ν j,ae rfl,?_,λb1 cg=>⟨(Nu b1 cg).1,.inr cg,λh0=>(Nu b1 cg).2.1 (hle.M0 b1 h0),(hm.up hle).new j _ b1 hj trivial cg⟩⟩
    have:(l.set k l').getD k []=l':=by simp[γ,hn]
    rw[this]
    exact(hm.dH j _ hj).flat hf λb1 cg=>⟨setRow_other w b b1 _ (Nu b1 cg).1,.inr cg⟩
   ·rw[af B7]
    obtain⟨u1,Eb,Pn,yX⟩:=hold k nf B7
    have:(l.set n l').getD k []=l.getD k []:=by simp[γ,List.getElem?_set_ne (cP B7)]
    rw[this]
    exact⟨u1,Eb,Pn.flat hf λb1 cg=>⟨setRow_other w b b1 _ (yX b1 cg).1,.inl (yX b1 cg).2.1⟩,λb1 cg=>⟨(yX b1 cg).1,.inl (yX b1 cg).2.1,(yX b1 cg).2.2⟩⟩
  ·rw[aT]at tf vW
   rw[m9]at Eb La
   by_cases B7:k=n
   ·rw[ae B7]at Eb;cases Eb
    have IC:k'≠n:=λe=>yG (by rw[B7,e])
    rw[af IC]at La
    obtain⟨u3,To,_,Po⟩:=hold k' vW IC
    rw[La]at To;cases To
    exact(Nu b1 cg).2.1 (Po b1 nI).2.1
   ·rw[af B7]at Eb
    obtain⟨u3,To,_,Po⟩:=hold k tf B7
    rw[Eb]at To;cases To
    by_cases IC:k'=n
    ·rw[ae IC]at La;cases La
     exact(Nu b1 nI).2.1 (Po b1 cg).2.1
    ·rw[af IC]at La
     exact h7 k k' u1 u2 b1 yG tf vW (by simp;omega) (by simp;omega) Eb La cg nI
theorem fD.fix{H:Nat→Option az}(h:fD c d H ν)(hle:c.le d)(hm:Mem d H w M ν){id:Nat}{e:Ty}{l:List (List e.den)}(hid:H id=some (.cV e l none)):
  ∃d' M',c.le d'∧cm w M w M'∧Mem d' (aC H id (some .gone)) w M' ν∧fD c d' (aC H id (some .gone)) ν∧V w M' (.slice (.slice e)) (ν id) l:=by
 obtain⟨hf,b,cs,t,cap,h1,h2,h3,h4,h5,h6,h7⟩:=h.row hm hid
 have hFB: ∀b1,(b1=b∨ ∃k u,k<l.length∧cs[k]? =some u∧cn u=some b1)→Gs c d b1:=λb1 cg=>by
  rcases cg with rfl|⟨k,u,hk,hu,NH⟩
  ·exact h3
  ·obtain⟨u',vT,_,bT⟩:=h6 k hk (by simp)
   rw[hu]at vT;cases vT
   exact(bT b1 NH).2
 have hk:cm w M w (λb1=>M b1∧ ¬(b1=b∨ ∃k u,k<l.length∧cs[k]? =some u∧cn u=some b1)):=⟨aH _,λ_ _ _=>rfl,λ_ _ h=>h.1⟩
 have DW:=(Tr.gone hm id).mem
 obtain⟨fM,nO⟩:=Mem.Ao (X:=λb1=>d.M0 b1∧ ¬(b1=b∨ ∃k u,k<l.length∧cs[k]? =some u∧cn u=some b1)) hle DW hk (λb1 cg=>⟨hm.sub b1 cg.1,cg.2⟩) (λb1 cg=>hm.qS b1 cg.1) (λb1 cg=>⟨hle.M0 b1 cg,λhx=>(hFB b1 hx).2.1 cg⟩)
  (λi e1 b1 hi kA cg=>⟨rfl,⟨(DW.dH i e1 hi).lP kA cg,λhx=>DW.apart hi kA cg (hFB b1 hx).1⟩,λhX=>DW.apart hi kA cg hX.1⟩) (λ_ _ _=>rfl) rfl rfl rfl
 refine⟨_,_,nO,hk,fM,⟨λyK i e1 l1 o1 hi=> ?_,λi j e1 l1 o1 e2 l2 o2 hi hj=> ?_,λi e1 l1 o1 hi=> ?_⟩,?_⟩
 ·by_cases aI:i=id
  ·subst aI;rw[ag]at hi;cases hi
  ·rw[aj _ _ aI]at hi
   exact aI (h.one i id _ _ _ _ _ _ hi hid)
 ·by_cases aI:i=id
  ·subst aI;rw[ag]at hi;cases hi
  ·rw[aj _ _ aI]at hi
   exact absurd (h.one i id _ _ _ _ _ _ hi hid) aI
 ·by_cases aI:i=id
  ·subst aI;rw[ag]at hi;cases hi
  ·rw[aj _ _ aI]at hi
   exact absurd (h.one i id _ _ _ _ _ _ hi hid) aI
 ·unfold V;rw[af (by simp[Ty.isAgg])]
  simp only[Rd]
  refine⟨_,cap,by rw[h1],h4,λi hi=>⟨b,0,rfl,lt_of_block h2,λhx=>hx.2 (.inl rfl),?_⟩⟩
  have hi:i<l.length:=hi
  obtain⟨u,hu,wX,NH⟩:=h6 i hi (by simp)
  refine⟨[u],?_,?_⟩
  ·intro j v hj
   cases j with
   |zero=>simp only[wy,cK]at hj;subst hj;rw[cell_of h2];simpa [Ty.size]using hu
   |succ j=>simp at hj
  ·have hg:l.getD i []=l.get ⟨i,hi⟩:=by simp[γ,ba hi]
   rw[hg]at wX
   simp only[ER]at wX
   rcases wX with⟨h0,a,hv⟩|⟨b1,qE,t1,sH,hv,cg,Ws,rq,Pp,acj,DT,HE⟩
   ·refine⟨a,0,by rw[hv,h0];rfl,by rw[h0];exact aH _,λk nf=>absurd nf (by rw[h0];simp)⟩
   ·refine⟨_,sH,by rw[hv],Pp,λk nf=>⟨b1,0,rfl,lt_of_block cg,λhx=>hx.2 (.inr ⟨i,u,hi,hu,by rw[hv];simp[cn];omega⟩),_,?_,(HE k nf).flat hf⟩⟩
    rw[c7]
    exact At.of_block cg _ _
theorem fD.made{H:Nat→Option az}(h:fD c d H ν)(hle:c.le d)(hm:Mem d H w M ν){x:Nat}(hx:H x=none)(h7:H 7=none)(hx7:x≠7){e:Ty}(hf:e.flat=true){t:TypeId}{n cap:Nat}(hn:n≤cap):
  ∃d',c.le d'∧cm w M (w.alloc (.cells (madeCells (aK (.slice e) (Ty.slice e).aW).cells cap) t)) (λb=>M b∨b=w.heap.size)∧
   Mem d' (aC (aC H x (some (.cV e (List.replicate n []) none))) 7 (some .gone)) (w.alloc (.cells (madeCells (aK (.slice e) (Ty.slice e).aW).cells cap) t)) (λb=>M b∨b=w.heap.size) (updν ν x (.slice (some ⟨w.heap.size,0,none⟩) n cap))∧
   fD c d' (aC (aC H x (some (.cV e (List.replicate n []) none))) 7 (some .gone)) (updν ν x (.slice (some ⟨w.heap.size,0,none⟩) n cap)):=by
 have xc: ∀k,k<cap→(madeCells (aK (.slice e) (Ty.slice e).aW).cells cap)[k]? =some (.slice none 0 0):=λk hk=>by
  simp only[madeCells,Array.getElem?_map]
  rw[Array.getElem?_range,ae hk]
  simp[aK,Ty.aW,Ty.isAgg,Value.cells]
  have h1: ∀j,j<1→[Value.slice none 0 0][j]?.getD default=Value.slice none 0 0:=λj hj=>by rw[show j=0 from by omega];rfl
  exact h1 _ (Nat.mod_lt _ δ)
 have kz:(madeCells (aK (.slice e) (Ty.slice e).aW).cells cap).size=cap:=size_madeCells _ _
 generalize madeCells (aK (.slice e) (Ty.slice e).aW).cells cap=cs at xc kz ⊢
 have hk:cm w M (w.alloc (.cells cs t)) (λb=>M b∨b=w.heap.size):=
  ⟨by rw[size_alloc];omega,λb hb _=>fX w _ hb,λb hb h'=>h'.resolve_right ω⟩
 obtain⟨fM,nO⟩:=Mem.Ao (X:=λb=>d.M0 b∨b=w.heap.size) hle hm hk (λb hb=>hb.elim (λh'=> .inl (hm.sub b h')) .inr) (λb hb=>by rw[size_alloc];exact hb.elim (λh'=>by have:=hm.qS b h';omega) (λh'=>ω)) (λb hb=> .inl (hle.M0 b hb))
  (λi e1 b1 hi kA cg=>by
   have Ws:=(hm.dH i e1 hi).lP kA cg
   have c6:=hm.qS b1 Ws
   exact⟨fX w _ c6,.inl Ws,λhX=>hX.elim (hm.apart hi kA cg) (λh'=>ω)⟩)
  (λb hb _=>fX w _ (fP hb (hm.up hle).size)) rfl rfl rfl
 have kI:=fM.ghost (id:=x) (e:= .cV e (List.replicate n []) none) (v:= .slice (some ⟨w.heap.size,0,none⟩) n cap) (by simp[az.mut]) (λ_=>by simp[ER]) (.inl hx)
 have Tm:=kI.ghost (id:=7) (e:= .gone) (v:=updν ν x (.slice (some ⟨w.heap.size,0,none⟩) n cap) 7) (by simp[az.mut]) (λ_=>by simp[ER]) (.inr rfl)
 rw[updν_self]at Tm
 have iU:=h.tok h7
 have key: ∀i e1 l1 o1,aC (aC H x (some (.cV e (List.replicate n []) none))) 7 (some .gone) i=some (.cV e1 l1 o1)→i=x:=λi e1 l1 o1 hi=>by
  by_cases h8:i=7
  ·subst h8;rw[ag]at hi;cases hi
  ·rw[aj _ _ h8]at hi
   by_cases NI:i=x
   ·exact NI
   ·rw[aj _ _ NI]at hi;exact absurd hi (iU _ _ _ _)
 refine⟨_,nO,hk,Tm,⟨λyK i e1 l1 o1 hi=>(by rw[ag]at yK;cases yK),λi j e1 l1 o1 e2 l2 o2 hi hj=>(by rw[key _ _ _ _ hi,key _ _ _ _ hj]),λi e1 l1 o1 hi=> ?_⟩⟩
 have:=key _ _ _ _ hi
 subst this
 rw[aj _ _ hx7,ag]at hi;cases hi
 have hB:=(hm.up hle).size
 have m9: ∀k u,k<(List.replicate n ([]:List e.den)).length→cs[k]? =some u→u= .slice none 0 0:=λk u nf hu=>by
  rw[a5]at nf
  rw[xc k ω]at hu;cases hu;rfl
 refine⟨hf,w.heap.size,cs,t,cap,by simp[updν,a5],so w _,⟨.inr rfl,λh0=>(by have:=hle.iT.1 _ h0;omega),.inl hB⟩,by rw[a5];exact hn,kz,λk nf _=> ?_,λk k' u1 u2 b1 _ tf _ _ _ Eb _ cg=> ?_⟩
 ·have vW:=nf
  rw[a5]at vW
  refine⟨_,xc k ω,?_,λb' bT=>by simp[cn]at bT⟩
  simp only[ER]
  exact .inl ⟨by simp[γ,vW],none,rfl⟩
 ·rw[m9 k u1 tf Eb]at cg;simp[cn]at cg
theorem Ec(hE: ∀t τ,E.ty t=some τ→fe P τ t)(hle:c.le d)(hc:Core d σ a.tmps w M ν)(hf:fD c d σ.H ν){g:Bool}{v:aF}{ups:dR}(h:F0 E o σ.ρ σ.H=some (g,v,ups))(hg:g=true)
  (hn:Lk c E σ a o w M ν v ups next):o.wp P a w next Q:=by
 unfold F0 at h
 simp only at h
 have kr:cm w M w M:=⟨aH _,λ_ _ _=>rfl,λ_ _ h=>h⟩
 split at h
 ·
  rename_i t x y ho
  split at h
  ·rename_i e k l k' n he hx hy Ed h7
   cases yY:FY E 3000000 (o.dst.getD 0)
   ·rw[yY]at he;cases he
   ·rw[yY]at he
    have ht:E.ty t=some (.slice (.slice e)):=he
    obtain⟨zr,h⟩:=aP h
    simp only[cK,mZ]at h
    obtain⟨rfl,rfl,rfl⟩:=h
    rw[ti]at hg
    obtain⟨h0,h1,h3⟩:=bO hg
    simp only[sh]at h3
    obtain⟨e',hu,ID⟩:=(hE t _ ht).slice
    obtain⟨i,hi,hs,hz,hb⟩:=ID.base
    have yI:=hc.ev x
    have oy:=hc.ev y
    rw[hx]at yI;rw[hy]at oy
    have xf:(i.bytes:Int)*n≤281474976710656:=by
     have h4:(i.bytes:Int)≤2048:=ω
     have:(i.bytes:Int)*n≤2048*n:=ny h4 ω
     omega
    have bG:=run_make (P:=P) w t e' i _ hu hi hz k k' l n h0 h1 xf ω
    have DT:n.toNat*i.size=n.toNat:=by rw[hs];simp[Ty.size]
    rw[DT]at bG
    obtain⟨d',nO,tf,fM,Ll⟩:=hf.made hle hc.mem Ed h7 ω zr (t:=e') (n:=l.toNat) (cap:=n.toNat) ω
    refine av (nh ho (by rw[yI.int,oy.int];exact bG)) (hn _ _ d' _ _ nO fM (λu z hz=> ?_) Ll ?_)
    ·exact VR.aV tf ((eI.put Ed _ _).trans (by
      have:=eI.gone (H:=aC σ.H (16*o.dst.getD 0) (some (.cV e (List.replicate l.toNat []) none))) (ν:=updν ν (16*o.dst.getD 0) (.slice (some ⟨w.heap.size,0,none⟩) l.toNat n.toNat)) 7
      exact this)) hz
    ·simp only[VR]
     refine⟨?_,by simp[updν]⟩
     show aC (aC σ.H _ _) 7 _ _≠none
     rw[aj _ _ ω,ag];simp
  ·cases h
 ·
  rename_i cl ho
  split at h
  ·rename_i x e Xz Iw pY
   split at h
   ·rename_i id hx
    split at h
    ·rename_i e2 l o2 hid
     simp only[cK,mZ]at h
     obtain⟨rfl,rfl,rfl⟩:=h
     obtain⟨t,oP,Ge⟩:=lY.1 pY
     have Nz:cl.argTypes[0]? =some t:=by rw[←oP,←dm,By]
     obtain⟨_,hu,_⟩:=(hE t _ Ge).slice
     have hv:=hc.ev x
     rw[hx]at hv
     simp only[VR]at hv
     obtain⟨_,b,cs,tt,cap,hb,_⟩:=hf.row hc.mem hid
     have OM:o.op= .call {callee:= .builtin .len,args:=cl.args,argTypes:=cl.argTypes}:=by rw[ho,←Xz]
     refine av (gV OM Iw oP (n:=l.length) λty=>by rw[hv.2,hb];exact ng Nz hu _ _ _) (hn _ _ d M ν hle hc.mem (λ_ _ h=>h) hf (.mkInt _ _))
    ·cases h
   ·cases h
  ·cases h
 ·
  rename_i t x i ho
  split at h
  ·rename_i e' id k n pY hx hi
   split at h
   ·rename_i e l o2 hid
    obtain⟨he,h⟩:=aP h
    have he:=bO he
    subst he
    simp only[cK,mZ]at h
    obtain⟨rfl,rfl,rfl⟩:=h
    obtain⟨h0,h1⟩:=mv hg
    obtain⟨e2,Bb,ID⟩:=(hE t _ pY).slice
    have hv:=hc.ev x
    rw[hx]at hv
    simp only[VR]at hv
    have BT:=hc.ev i
    rw[hi]at BT
    obtain⟨_,b,cs,tt,cap,hb,_⟩:=hf.row hc.mem hid
    refine av (ec ho Bb ID (hv.2.trans hb) BT.int h0 h1) (hn _ _ d M ν hle hc.mem (λ_ _ h=>h) hf ?_)
    simp only[VR]
    refine⟨_,hid,?_⟩
    simp only[AR]
    exact⟨n.toNat,rfl,ω,b,_,_,hb,by simp[Ty.size]⟩
   ·cases h
  ·cases h
 ·
  rename_i t x ho
  split at h
  ·rename_i e' id n pY hx
   split at h
   ·rename_i e l hid NJ
    obtain⟨he,h⟩:=aP h
    have he:=bO he
    subst he
    simp only[cK,mZ]at h
    obtain⟨rfl,rfl,rfl⟩:=h
    have hv:=hc.ev x
    rw[hx]at hv
    simp only[VR]at hv
    obtain⟨e1,sw,eQ⟩:=hv
    rw[hid]at sw;cases sw
    simp only[AR]at eQ
    obtain⟨i,Sp,vo,b,m,cp,hb,hu⟩:=eQ
    cases Sp
    obtain⟨u,d',m9,nO,fM,Ll⟩:=hf.out hle hc.mem hid vo NJ hb
    refine av (qD ho (hE t _ pY) rfl hu m9) (hn _ _ d' _ _ nO fM (λz y hz=> ?_) Ll ?_)
    ·have eX:16*o.dst.getD 0≠id:=λe=>by rw[e,hid]at NJ;cases NJ
     exact VR.aV kr ((eI.put NJ _ _).trans (eI.cV (o:=none) (by rw[aj _ _ (cP eX)];exact hid) rfl)) hz
    ·simp only[VR]
     have eX:16*o.dst.getD 0≠id:=λe=>by rw[e,hid]at NJ;cases NJ
     refine⟨?_,by simp[updν]⟩
     show aC (aC σ.H _ _) id _ _≠none
     rw[aj _ _ eX,ag];simp
   ·cases h
  ·cases h
 ·
  rename_i t x y ho
  split at h
  ·rename_i e' id n j pY hx hy
   split at h
   ·rename_i e l n' e2 l' hid hj
    split at h
    ·rename_i he2
     subst he2
     obtain⟨he,h⟩:=aP h
     have he:=bO he
     subst he
     simp only[cK,mZ]at h
     obtain⟨rfl,rfl,rfl⟩:=h
     rw[eD]at hg
     have XA:n=n':=by have:=bO hg;omega
     subst XA
     have hv:=hc.ev x
     rw[hx]at hv
     simp only[VR]at hv
     obtain⟨e1,sw,eQ⟩:=hv
     rw[hid]at sw;cases sw
     simp only[AR]at eQ
     obtain⟨i,Sp,vo,b,m,cp,hb,hu⟩:=eQ
     cases Sp
     have oy:=hc.ev y
     rw[hy]at oy
     simp only[VR]at oy
     have oy:=oy.2
     obtain⟨_,b',cs,tt,cap,bT,OS,_⟩:=hf.row hc.mem hid
     rw[hb]at bT;cases bT
     obtain⟨Tn,tf,d',nO,fM,Ll⟩:=hf.Xy hle hc.mem hid vo hj hb OS
     obtain⟨ad,cp2,hνj⟩:=ER.zq hc.mem hj
     have OX:(a.eval y).cells.toList=[ν j]:=by rw[oy,hνj];rfl
     have kz:(a.eval y).cells.size=1:=by rw[←aJ,OX];rfl
     have bG:=eF (P:=P) ho (hE t _ pY) hu OS kz (by simp[Ty.size];omega) (by rw[OX,hνj];simp[Value.oneCell'])
     rw[OX]at bG
     refine gU bG (hn _ _ d' M ν nO fM (λz w' hz=> ?_) Ll (by simp[VR]))
     have eX:id≠j:=λe=>by rw[e,hj]at hid;cases hid
     exact VR.aV tf ((eI.gone j).trans (eI.cV (o:=some n) (by rw[aj _ _ eX];exact hid) (by rw[aT]))) hz
    ·cases h
   ·cases h
  ·cases h
 ·
  rename_i x ho
  split at h
  ·rename_i id hx
   split at h
   ·rename_i e l hid
    simp only[cK,mZ]at h
    obtain⟨rfl,rfl,rfl⟩:=h
    cases yY:FY E 4000000 (o.dst.getD 0)
    ·rw[yY]at hx;cases hx
    ·rw[yY]at hx
     have hx:σ.ρ x= .ref id:=hx
     have hv:=hc.ev x
     rw[hx]at hv
     simp only[VR]at hv
     obtain⟨d',M',nO,tf,fM,Ll,hV⟩:=hf.fix hle hc.mem hid
     have hr:(execOp a.eval o).run P w= .ok (.value (a.eval x)) w:=by simp[execOp,ho]
     refine av hr (hn _ _ d' M' ν nO fM (λz w' hz=>VR.aV tf (eI.gone id) hz) Ll ?_)
     simp only[VR]
     rw[hv.2]
     exact hV
   ·cases h
  ·cases h
 ·cases h
theorem Gt(hE:jF P E)(hle:c.le d)(hc:Core d σ a.tmps w M ν)(hf:E.cV=true→fD c d σ.H ν){K:dp α}(h:Hv E o σ.ρ σ.H K=some r)
  (hn: ∀v rd ups v' w' d' M' ν',K v rd ups=some r→c.le d'→Mem d' (a8 σ.H ups) w' M' ν'→(∀u x,VR w M σ.H ν u x→VR w' M' (a8 σ.H ups) ν' u x)→(E.cV=true→fD c d' (a8 σ.H ups) ν')→VR w' M' (a8 σ.H ups) ν' v v'→next (a.put o.dst v') w'):
  o.wp P a w next Q:=by
 unfold Hv at h
 cases Tp:E.cV
 ·rw[Tp]at h
  exact zv hE hc h λv rd ups v' w' M' ν' hK t hV=>hn v rd ups v' w' d M' ν' hK hle t.mem (λu x hx=>VR.aV t.aV t.goes hx) (λhe=>by rw[Tp]at he;cases he) hV
 ·rw[Tp]at h
  simp only[aa]at h
  split at h
  ·rename_i u hs
   obtain⟨hg,h⟩:=aP h
   exact Ec hE.ty hle hc (hf Tp) hs hg λv' w' d' M' ν' h1 h2 h3 h4 h5=>hn _ _ _ v' w' d' M' ν' h h1 h2 h3 (λ_=>h4) h5
  ·refine zv hE hc h λv rd ups v' w' M' ν' hK t hV=> ?_
   obtain⟨iU,hK⟩:=aP hK
   exact hn v _ ups v' w' d M' ν' hK hle t.mem (λu x hx=>VR.aV t.aV t.goes hx) (λ_=>(hf Tp).step (xn iU) t.goes) hV
end VM
end
section
namespace VM
open Go
variable{P:Program}{E:Env}{o:Oper}{a:Act}{w:World}{M:Nat→Prop}{ν:Nat→Value}{σ:St}{c:Ctx}{α:Type}{r:α}{next:Act→World→Prop}{Q:Exit→Act→World→Prop}
theorem lf(σ:St)(d:Nat)(v:aF):(σ.put d v).T d=v:=by
 show cond (Nat.beq d d) v (σ.T d)=v
 rw[show Nat.beq d d=true from jw d];rfl
theorem pB(σ:St){d i:Nat}(v:aF)(h:i≠d):(σ.put d v).T i=σ.T i:=by
 show cond (Nat.beq i d) v (σ.T i)=σ.T i
 have:Nat.beq i d=false:=by rw[←fQ,o9];exact h
 rw[this];rfl
theorem aah(σ:St)(d:Nat)(v:aF):(σ.put d v).H=σ.H:=rfl
theorem xp(σ:St)(d:Nat):σ.put d (σ.T d)=σ:=by
 obtain⟨T,H⟩:=σ
 unfold St.put
 congr 1
 funext i
 by_cases h:i=d
 ·subst h;show cond (Nat.beq i i) (T i) (T i)=T i;cases Nat.beq i i<;>rfl
 ·have:Nat.beq i d=false:=by rw[←fQ,o9];exact h
  rw[this];rfl
theorem Core.tr{tm:Array Value}(h:Core c σ tm w M ν){H':Nat→Option az}{w':World}{M':Nat→Prop}{ν':Nat→Value}(t:Tr c σ.H w M ν H' w' M' ν'):Core c ⟨σ.T,H'⟩ tm w' M' ν':=
 ⟨t.mem,λi=>VR.aV t.aV t.goes (h.tmp i)⟩
theorem Core.oK{tm:Array Value}(h:Core c σ tm w M ν){d:Option Nat}{x:aF}{v:Value}{io:List Nat}(hd:BE tm.size io d=true)(hx:VR w M σ.H ν x v)(ds:List Deferred):
  Core c (σ.oK d x) (({tmps:=tm,defers:=ds}:Act).put d v).tmps w M ν:=by
 cases d with
 |none=>exact h
 |some d=>
  have c6:d<tm.size:=by simp only[BE,bg,sf]at hd;exact hd.1
  refine⟨h.mem,λi=> ?_⟩
  show VR w M σ.H ν ((σ.put d x).T i) ((tm.setIfInBounds d v).getD i undef)
  by_cases hi:i=d
  ·subst hi
   rw[lf]
   simp[Array.getD,c6]
   exact hx
  ·rw[pB _ _ hi]
   have:=h.tmp i
   have he:(tm.setIfInBounds d v).getD i undef=tm.getD i undef:=by
    rw[lW,lW,Bm (cP hi)]
   rw[he];exact this
def Inv(c:Ctx)(E:Env)(σ:St)(a:Act)(w:World):Prop:=(∃d M ν,c.le d∧Core d σ a.tmps w M ν∧(E.cV=true→fD c d σ.H ν))∧a.tmps.size=E.nt∧a.defers=[]∧ ∀i∈E.io,a.tmps.getD i undef=c.arg i
theorem Ee(σ:St)(d:Option Nat)(v:aF):(σ.oK d v).H=σ.H:=by cases d<;>rfl
theorem B8(a:Act)(d:Option Nat)(v:Value):(a.put d v).tmps.size=a.tmps.size:=by
 cases d<;>simp[Act.put]
theorem put_defers(a:Act)(d:Option Nat)(v:Value):(a.put d v).defers=a.defers:=by
 cases d<;>rfl
theorem E6{d:Option Nat}{v:Value}{io:List Nat}{n:Nat}(hd:BE n io d=true){i:Nat}(hi:i∈io):(a.put d v).tmps.getD i undef=a.tmps.getD i undef:=by
 cases d with
 |none=>rfl
 |some d=>
  simp only[BE,bg,kO]at hd
  have h1:=hd.2 i hi
  have eX:i≠d:=by
   intro e;subst e
   simp at h1
  show(a.tmps.setIfInBounds d v).getD i undef=_
  rw[lW,lW,Bm (cP eX)]
theorem Inv.bool(h:Inv c E σ a w){x:Operand}{b:Bool}(hx:σ.ρ x= .val .bool b):a.eval x= .bool b:=by
 obtain⟨⟨d,M,ν,_,hc,_⟩,_,_,_⟩:=h
 have:=hc.ev x
 rw[hx]at this
 exact this.bool
theorem uB(hE:jF P E){ops:Array Oper}(hI:Inv c E σ a w){K:St→List Nat→List Nat→Option α}(h:m6 E ops.toList o σ K=some r)
  (hn: ∀σ' a' w' rd wr,K σ' rd wr=some r→Inv c E σ' a' w'→next a' w'):
  if Region.wanted o (yielded ops a.tmps)then o.wp P a w next Q else next (a.put o.dst undef) w:=by
 unfold m6 at h
 obtain⟨hd,h⟩:=aP h
 have bG:Hv E o σ.ρ σ.H (λv rd ups=>K ((σ.pb ups).oK o.dst v) rd (ups.map (·.1)))=some r→o.wp P a w next Q:=by
  intro h
  obtain⟨⟨d,M,ν,hle,hc,yZ⟩,hs,Pq,pC⟩:=hI
  refine Gt hE hle hc yZ h λv rd ups v' w' d' M' ν' hK ID hm K4 XB hV=> ?_
  have h2:σ.pb ups=⟨σ.T,a8 σ.H ups⟩:=by rw[←D5,←D6 ups σ]
  rw[h2]at hK
  refine hn _ _ _ _ _ hK ⟨⟨d',M',ν',ID,?_,λhe=>by rw[Ee];exact XB he⟩,by rw[B8,hs],by rw[put_defers,Pq],λi hi=>(E6 hd hi).trans (pC i hi)⟩
  exact(⟨hm,λi=>K4 _ _ (hc.tmp i)⟩:Core d' ⟨σ.T,a8 σ.H ups⟩ a.tmps w' M' ν').oK (by rw[hs];exact hd) hV a.defers
 have xq: ∀rd wr,K (σ.oK o.dst .HS) rd wr=some r→next (a.put o.dst undef) w:=by
  intro rd wr h
  obtain⟨⟨d,M,ν,hle,hc,yZ⟩,hs,Pq,pC⟩:=hI
  refine hn _ _ _ _ _ h ⟨⟨d,M,ν,hle,hc.oK (by rw[hs];exact hd) (by simp[VR]) a.defers,λhe=>by rw[Ee];exact yZ he⟩,by rw[B8,hs],by rw[put_defers,Pq],λi hi=>(E6 hd hi).trans (pC i hi)⟩
 simp only at h
 split at h
 ·rename_i hg
  have:Region.wanted o (yielded ops a.tmps)=true:=by simp[Region.wanted,hg]
  rw[ae this]
  exact bG h
 ·rename_i j want hg
  split at h
  ·cases h
  ·rename_i t ht
   have ht':(ops[j]?).bind (·.dst)=some t:=by rw[←dm];exact ht
   have hy: ∀b,σ.T t= .val .bool b→yielded ops a.tmps j=some b:=by
    intro b hb
    obtain⟨⟨d,M,ν,_,hc,_⟩,hs,_,_⟩:=hI
    have h1:=hc.tmp t
    rw[hb]at h1
    have h1:=h1.bool
    have h2:a.tmps[t]? =some (.bool b):=by
     rw[lW]at h1
     cases h3:a.tmps[t]? with
     |none=>rw[h3]at h1;simp[undef]at h1
     |some v=>rw[h3]at h1;simpa using h1
    simp[yielded,ht',h2]
   split at h
   ·rename_i b hb
    have ki:σ.put t (.val .bool b)=σ:=by rw[←hb];exact xp σ t
    have hw:=hy b hb
    cases want<;>cases b
    ·rw[ae (by simp[Region.wanted,hg,hw])]
     rw[ki]at h;exact bG h
    ·rw[af (by simp[Region.wanted,hg,hw])]
     rw[ki]at h;exact xq _ _ h
    ·rw[af (by simp[Region.wanted,hg,hw])]
     rw[ki]at h;exact xq _ _ h
    ·rw[ae (by simp[Region.wanted,hg,hw])]
     rw[ki]at h;exact bG h
   ·rename_i hb
    have sx: ¬Region.wanted o (yielded ops a.tmps)=true:=by
     obtain⟨⟨d,M,ν,_,hc,_⟩,hs,_,_⟩:=hI
     have h1:=hc.tmp t
     rw[hb]at h1
     simp only[VR]at h1
     have h2: ∀b,a.tmps[t]? ≠some (.bool b):=by
      intro b bT
      rw[lW,bT]at h1
      simp[undef]at h1
     have h3:yielded ops a.tmps j=none:=by
      unfold yielded
      rw[ht']
      show(match a.tmps[t]? with|some (.bool b)=>some b|_=>none)=none
      split
      ·rename_i b bT;exact absurd bT (h2 b)
      ·rfl
     simp[Region.wanted,hg,h3]
    rw[af sx]
    exact xq _ _ h
   ·cases h
theorem xr(hE:jF P E){ops:Array Oper}: ∀(l:List Oper) (i:Nat) (σ:St) (lg:Log) (a:Act) (w:World) (K:St→Log→Option α),Inv c E σ a w→F1 E ops.toList l i σ lg K=some r→
  (∀σ' NK a' w',K σ' NK=some r→Inv c E σ' a' w'→Q .normal a' w')→wpList P ops Q l a w
 |[],i,σ,lg,a,w,K,hI,h,hn=>hn _ _ _ _ h hI
 |o::l,i,σ,lg,a,w,K,hI,h,hn=>by
  unfold F1 at h
  refine wpList_step λK' Wr=> ?_
  exact uB hE hI h fun σ' a' w' rd wr h' uC=>Wr _ _ (xr hE l (i+1) σ' _ a' w' K uC h' hn)
theorem B9(hI:Inv c E σ a w){x:Operand}{A B:St→Option α}(h:zj E x σ A B=some r): ∃b,a.eval x= .bool b∧(if b then A σ else B σ)=some r:=by
 unfold zj at h
 split at h
 ·rename_i b hb
  refine⟨b,hI.bool hb,?_⟩
  split at h
  ·rename_i t
   have hb:σ.T t= .val .bool b:=hb
   have ki:σ.put t (.val .bool b)=σ:=by rw[←hb];exact xp σ t
   cases b
   ·rw[ki]at h;exact h
   ·rw[ki]at h;exact h
  ·cases b<;>exact h
 ·cases h
end VM
end
