/- A part of the proof of BookDrawn of layer 18: a machine that reads a function of the program as an equation between values. -/
import Derived.Test.YtecmobijochjkaaGreatVm4
import Derived.Scope
set_option linter.all false
open List renaming getD→γ
section
namespace VM
open Go
variable{P:Program}{E:Env}{o:Oper}{a:Act}{w:World}{M:Nat→Prop}{ν:Nat→Value}{σ:St}{c:Ctx}{α:Type}{r:α}{next:Act→World→Prop}{Q:Exit→Act→World→Prop}
theorem Ou{i:Nat}: ∀{ups:jI} {H:Nat→Option br},i∈keys ups→ ∃u∈ups,u.1=i∧c4 H ups i=u.2
 |[],_,h=>by simp[keys]at h
 |u::r,H,h=>by
  by_cases hk:i∈keys r
  ·obtain⟨v,h1,h2,h3⟩:=Ou (H:=cq H u.1 u.2) hk
   exact⟨v,a8 _ h1,h2,h3⟩
  ·have hi:i=u.1:=by
    simp only[keys,bV,bc]at h hk
    exact h.resolve_right hk
   refine⟨u,bt,hi.symm,?_⟩
   show c4 (cq H u.1 u.2) r i=_
   rw[mH hk,hi,ay]
theorem GY: ∀{ups:jI} {H H':Nat→Option br},(∀i,i∉keys ups→H i=H' i)→c4 H ups=c4 H' ups
 |[],H,H',h=>funext λi=>h i (by simp[keys])
 |u::r,H,H',h=>by
  refine GY (ups:=r) λi hi=> ?_
  by_cases hu:i=u.1
  ·subst hu;rw[ay,ay]
  ·rw[az _ _ hu,az _ _ hu]
   exact h i (by simp only[keys,bV,bc,not_or];exact⟨hu,hi⟩)
theorem ER.len{v:Value}{e:Ty}{l:List e.den}(h:ER w M v (.own e l)): ∃ad cap,v= .slice ad l.length cap:=by
 simp only[ER]at h
 rcases h with⟨rfl,ad,rfl⟩|⟨b,cs,t,cap,h1,_⟩
 ·exact⟨ad,0,rfl⟩
 ·exact⟨_,cap,h1⟩
theorem RR.sE: ∀{ms:List AM} {x:HP ms} {us ps:List Value},RR w M ms x us ps→ ∀b∈bI ms us ps,M b
 |[],_,_,_,_,b,hb=>by simp[bI]at hb
 |m::ms,x,us,ps,h,b,hb=>by
  simp only[RR]at h
  rcases h with⟨p,Jh,h1,rfl,h2,h3⟩|⟨v,EX,h1,h2,rfl,h3,h4⟩
  ·simp only[bI,h1,g9,uM,uP,bn]at hb
   rcases hb with hb|hb
   ·cases m<;>simp[AM.iV]at h1<;>(simp only[dz,fj,A1]at hb h2;exact h2.xJ trivial hb)
   ·exact RR.sE h3 b hb
  ·simp only[bI,h1,jO,fE,uM,uP,bn]at hb
   rcases hb with hb|hb
   ·cases m with
    |own e=>
     simp only[dz,fj,A1]at hb h3
     exact h3.xJ trivial hb
    |v _=>simp[dz]at hb
    |io _=>simp[AM.iV]at h1
    |lo _=>simp[AM.iV]at h1
    |fn _ _=>simp[dz]at hb
    |jH _=>simp[dz]at hb
    |ptr τ=>
     simp only[dz,fj,A1]at hb h3
     exact h3.xJ trivial hb
    |sp τ n e=>
     simp only[A1]at h3
     obtain⟨cs,ki,u,l,z,rfl,hq,hr,uw,hu,_⟩:=h3
     rw[(y6 hq hr uw).1,fj]at hb
     exact hu.xJ trivial hb
   ·exact RR.sE h4 b hb
theorem Kc: ∀{l:List nc} {rj:List bE} {S:nc},N6 l rj=some S→S∈l
 |[],_,_,h=>by simp[N6]at h
 |T::l,rj,S,h=>by
  unfold N6 at h
  cases hf:fits T.args rj
  ·rw[hf]at h;exact a8 _ (Kc h)
  ·rw[hf]at h;cases h;exact bt
theorem D0{H:Nat→Option br}{id:Nat}: ∀{n:Nat},vG H id n=true→ ∀i,id≤i→i<id+n→H i=none
 |0,_,i,h1,h2=>ω
 |n+1,h,i,h1,h2=>by
  unfold vG at h
  rw[bP]at h
  by_cases hi:i=id+n
  ·subst hi
   have h:=h.1
   split at h
   ·assumption
   ·cases h
  ·exact D0 h.2 i h1 ω
theorem YI{H:Nat→Option br}{rj:List bE}{us:List Value}(h:jQ w M H ν rj us):VR w M H ν (N4 rj) (xS us):=by
 match rj,us,h with
 |[],[],_=>simp[N4,VR]
 |[a],[u],h=>simp only[jQ,fD]at h;simpa [N4,xS]using h
 |a::b::rj,u::v::us,h=>
  simp only[N4,VR]
  exact⟨u::v::us,by simp[xS],h⟩
 |[],_::_,h=>simp[jQ]at h
 |_::_,[],h=>simp[jQ]at h
 |[_],_::_::_,h=>simp[jQ]at h
 |_::_::_,[_],h=>simp[jQ]at h
theorem Ov(hΓ: ∀f S,S∈E.Γ f→jw P f S){H:Nat→Option br}(hm:Mem c H w M ν){f id:Nat}{rj:List bE}{vs:List Value}(hv:jQ w M H ν rj vs){K:g7 α}(h:DL E f rj id H K=some r)
  {R:Value→World→Prop} (hR: ∀v rd ups v' w' M' ν',K v rd ups=some r→Tr c H w M ν (c4 H ups) w' M' ν'→VR w' M' (c4 H ups) ν' v v'→R v' w'):
  Oo P f vs.toArray w R:=by
 unfold DL at h
 split at h
 ·cases h
 rename_i S hS
 have hok:=hΓ f S (Kc hS)
 obtain⟨x,rd,uo,uf,io,H2,Hq,M2,h1,hA,hK,apL,hi1,Ue⟩:=DZ (kG.start hm) hv h
 clear h
 simp only[cB,gQ]at hA hi1 Ue
 obtain⟨y,hy,h1⟩:=uH.1 h1
 obtain⟨jx,h1⟩:=cD h1
 have jx:=D0 jx
 have avJ:(λb=>(M2 b∧b∉eA S.args vs)∨b∈eA S.args vs)=M2:=by
  funext b
  refine propext ⟨λh=>h.elim (·.1) (hA.hM b),λh=> ?_⟩
  by_cases hb:b∈eA S.args vs
  ·exact .inr hb
  ·exact .inl ⟨h,hb⟩
 refine Oo.mono (hok.call (λb=>M2 b∧b∉eA S.args vs) w vs x y (λb hb=>hA.mem.Gy b hb.1) (by rw[avJ];exact apL) hA.nd (λb hb h=>h.2 hb) hy) ?_
 rintro e w' ⟨us,M',rfl,X4,hL,w6,hn0⟩
 have avK: ∀b∈eA S.args vs,c.M0 b→M' b:=by
  intro b hb h0
  obtain⟨q,hq,hqb⟩:=hA.iob b hb h0
  exact X4.sE b (X4.GW (ν q.1) (by rw[←hi1];exact fB hq) b hqb)
 have oW: ∀b∈bI S.res us (fN S.args vs),w.heap.size≤b∨b∈eA S.args vs:=by
  intro b hb
  rcases oc b w.heap.size with eV|LO
  ·exact .inr ((hL.less b eV (X4.sE b hb)).resolve_left (hn0 b hb))
  ·exact .inl LO
 have kH: ∀b∈bI S.res us (fN S.args vs),c.B≤b∨c.may b:=λb hb=>(oW b hb).elim (λh=> .inl (cA hm.size h)) (hA.Ot b)
 have Gz: ∀b∈bI S.res us (fN S.args vs),c.M0 b→ ∃p∈fN S.args vs,fx p=some b:=by
  intro b hb h0
  rcases oW b hb with h'|h'
  ·have:=hm.w4.1 b h0;have:=hm.size;omega
  ·obtain⟨q,hq,hqb⟩:=hA.iob b h' h0
   exact⟨ν q.1,by rw[←hi1];exact fB hq,hqb⟩
 have avM: ∀q∈io,∀e,q.2=AM.lo e→ ∀b,fx (ν q.1)=some b→ ¬c.M0 b:=by
  intro q hq e he b hb
  rcases(hA.VK q hq).2.2 with⟨τ0,z0,w5,_⟩|⟨e0,z0,w5,R8⟩
  ·rw[he]at w5;cases w5
  ·exact hm.oV q.1 e0 z0 b R8 hb
 have key: ∀(Hx:Nat→Option br) (Mx:Nat→Prop) (U:jI),Mem c Hx w Mx ν→fK w M w Mx→(∀b,M2 b→Mx b)→(∀b∈eA S.args vs,∀i e,Hx i=some e→e.mut→fx (ν i)≠some b)→
   (∀q∈io,Hx q.1=some .gone)→(∀i,i∉keys io→c4 H (uo++U) i=Hx i)→(∀u∈uo++U,u.2=some .gone∨ ∃e l,u.2=some (.pM e l)∧H u.1=some (.own e l))→(∀i∈keys (uo++U),i∈keys (uo++uf))→
   RR w' (λb=>M' b∨(Mx b∧b∉eA S.args vs)) S.res y us (fN S.args vs)→
   ∃ν',Tr c H w M ν (c4 H (uo++U++(iC S.res y id io).2.1)) w' (λb=>M' b∨(Mx b∧b∉eA S.args vs)) ν'∧
    jQ w' (λb=>M' b∨(Mx b∧b∉eA S.args vs)) (c4 H (uo++U++(iC S.res y id io).2.1)) ν' (iC S.res y id io).1 us:=by
  intro Hx Mx U Ns hkx VP rm Ow akH GZ hU hrr
  obtain⟨mF,Kd⟩:=Ns.call (λb hb=>VP b hb.1) (λb hb=>VP b (hA.hM b hb)) rm hA.Ot avK hL
  have hx: ∀i e,H i=some e→i∉keys io→ ∃e',Hx i=some e'∧e.lP e':=by
   intro i e hi G0
   rw[←akH i G0]
   by_cases hk:i∈keys (uo++U)
   ·obtain⟨u,hu,hui,huv⟩:=Ou (H:=H) hk
    rw[huv]
    rcases GZ u hu with h'|⟨e1,l1,h',LP⟩
    ·exact⟨_,h',br.kq e⟩
    ·rw[hui,hi]at LP;cases LP;exact⟨_,h',rfl,rfl⟩
   ·rw[mH hk];exact⟨e,hi,.refl e⟩
  have hfr: ∀i,id≤i→i<id+S.res.length→Hx i=none:=by
   intro i h3 h4
   have h0:=jx i h3 h4
   have G0:i∉keys io:=λhk=>by
    obtain⟨q,hq,FE⟩:=cV.1 hk
    obtain⟨_,_,hz⟩:=hA.VK q hq
    exact hz.some (by rw[FE];exact h0)
   rw[←akH i G0]
   rw[mH,h0]
   intro hk
   obtain⟨_,e,l,h'⟩:=hA.ksn i (hU i hk)
   rw[h0]at h';cases h'
  obtain⟨ν',r1,r2,r3,r4,r5,r6⟩:=nh (hs:=eA S.args vs) (sz:=w.heap.size) (id:=id) (used:=[]) mF hrr hi1.symm (by rw[←hok.ios,←Ue]) hA.ion Ow hfr
   (λi e b hi hmu hb=> .inl ⟨Ns.Gy b ((Ns.ke i e hi).xJ hmu hb),λhh=>rm b hh i e hi hmu hb⟩) (by simpa using w6) oW kH Gz avM
  have akI:c4 H (uo++U++(iC S.res y id io).2.1)=c4 Hx (iC S.res y id io).2.1:=by
   rw[fL]
   refine GY λi hi=> ?_
   by_cases G0:i∈keys io
   ·obtain⟨q,hq,FE⟩:=cV.1 G0
    rcases r6 q hq with⟨τ,z,_,hz⟩|⟨e,z,_,hz⟩
    ·rw[FE,mH hi,←FE,Ow q hq]at hz;cases hz
    ·rw[FE,mH hi,←FE,Ow q hq]at hz;cases hz
   ·exact akH i G0
  refine⟨ν',⟨by rw[akI];exact r1,hkx.trans Kd,⟨λi e hi=> ?_,λi hi=> ?_⟩⟩,by rw[akI];exact r2⟩
  ·rw[akI]
   by_cases G0:i∈keys io
   ·obtain⟨q,hq,FE⟩:=cV.1 G0
    obtain⟨_,_,hg0⟩:=hA.VK q hq
    rcases r6 q hq with⟨τ,z,hq2,hz⟩|⟨e2,z,hq2,hz⟩
    ·rcases hg0 with⟨τ0,z0,w5,R8⟩|⟨e0,z0,w5,R8⟩
     ·rw[hq2]at w5;cases w5
      rw[FE]at hz R8
      rw[hi]at R8;cases R8
      exact⟨_,hz,rfl⟩
     ·rw[hq2]at w5;cases w5
    ·rcases hg0 with⟨τ0,z0,w5,R8⟩|⟨e0,z0,w5,R8⟩
     ·rw[hq2]at w5;cases w5
     ·rw[hq2]at w5;cases w5
      rw[FE]at hz R8
      rw[hi]at R8;cases R8
      refine⟨_,hz,rfl,?_⟩
      obtain⟨a1,c1,k1⟩:=ER.len (hm.ke i _ hi)
      obtain⟨a2,c2,k2⟩:=ER.len (r1.ke i _ hz)
      rw[r3 i (by rw[←FE,Ow q hq];simp),k1]at k2
      simp only[Value.slice.injEq]at k2
      exact k2.2.1
   ·obtain⟨e',uF,hl⟩:=hx i e hi G0
    have hr:i<id∨id+S.res.length≤i:=by
     rcases oc i id with h'|h'
     ·exact .inl h'
     ·rcases oc i (id+S.res.length)with LP|LP
      ·rw[jx i h' LP]at hi;cases hi
      ·exact .inr LP
    exact⟨e',by rw[r4 i G0 hr];exact uF,hl⟩
  ·refine r3 i ?_
   obtain⟨e,he⟩:=xj.1 hi
   by_cases G0:i∈keys io
   ·obtain⟨q,hq,FE⟩:=cV.1 G0
    rw[←FE,Ow q hq];simp
   ·obtain⟨e',uF,_⟩:=hx i e he G0
    rw[uF];simp
 cases hq:S.quiet
 ·
  rw[hq]at h1
  have hMn:(λb=>M' b∨(M2 b∧b∉eA S.args vs))=M':=by
   funext b
   exact propext ⟨λh=>h.elim (λh=>h) (hL.sub b),.inl⟩
  obtain⟨ν',gF,hvr⟩:=key H2 M2 uf hA.mem hA.cg (λ_ h=>h) (λb hb i e hi hmu=>hA.none b hb i e (hA.fz.mut hi hmu) hmu) (λq hq=>(hA.VK q hq).1) hA.ext
   (λu hu=>(bn.1 hu).elim (λh=> .inl (hA.uov u h)) (λh=> .inr (hA.ufv u h))) (λ_ h=>h) (by rw[hMn];exact X4)
  exact hR _ _ _ _ _ _ _ h1 gF (YI hvr)
 ·rw[hq]at h1
  have VP: ∀b,M2 b→M b:=λb hb=>hA.cg.less b (hA.mem.Gy b hb) hb
  obtain⟨ν',gF,hvr⟩:=key Hq M [] hA.Oq (.refl w M) VP hA.none (λq hq=>(hA.VK q hq).2.1) (by rw[cy];exact hA.YD)
   (λu hu=> .inl (hA.uov u (by simpa using hu))) (λi hi=>by simp only[keys,cy,dp,bn]at hi ⊢;exact .inl hi) (X4.flat (λb h=> .inl h) (hok.quiet hq))
  exact hR _ _ _ _ _ _ _ h1 gF (YI hvr)
theorem acz(hΓ: ∀f S,S∈E.Γ f→jw P f S)(hc:Core c σ a.tmps w M ν){args:Array Operand}{ts:Array TypeId}{g:Operand}(ho:o.op= .call {callee:= .value g,args,argTypes:=ts}){K:g7 α}{f:Nat}{caps:List bE}(hg:σ.ρ g= .NZ f caps){id:Nat}
  (h:DL E f (args.toList.map σ.ρ ++caps) id σ.H K=some r) (hn:fM c σ a o w M ν K r next):o.wp P a w next Q:=by
 have hgv:=hc.ev g
 rw[hg]at hgv
 simp only[VR]at hgv
 obtain⟨cs,hgv,uw⟩:=hgv
 have Ox: ∀{as1:List bE} {YJ:List Value},jQ w M σ.H ν as1 YJ→jQ w M σ.H ν (as1++caps) (YJ++cs):=by
  intro as1
  induction as1 with
  |nil=>intro YJ h1;cases YJ with
   |nil=>exact uw
   |cons _ _=>simp[jQ]at h1
  |cons x as1 ih=>intro YJ h1;cases YJ with
   |nil=>simp[jQ]at h1
   |cons v YJ=>simp only[jQ]at h1;simp only[m0,jQ];exact⟨h1.1,ih h1.2⟩
 have hd:=Ov (P:=P) hΓ hc.mem (Ox (hc.evs args.toList)) h (R:=λv' w'=>next (a.put o.dst v') w') (λv rd ups v' w' M' ν' h1 h2 h3=>hn v rd ups v' w' M' ν' h1 h2 h3)
 have hex:(execOp a.eval o).run P w=(callFunc f (args.toList.map a.eval++cs).toArray).run P w:=by
  have:(args.toList.map a.eval++cs).toArray= #[]++args.map a.eval++cs.toArray:=by apply g8;simp
  rw[this]
  simp[execOp,ho,resolve,hgv,Deferred.ofValue,invoke]
 unfold Oper.wp
 rw[hex]
 exact hd o a next Q λv w' hv=>hv
end VM
end
section
namespace VM
open Go
variable{P:Program}{E:Env}{o:Oper}{a:Act}{w:World}{M:Nat→Prop}{ν:Nat→Value}{σ:St}{c:Ctx}{α:Type}{r:α}{next:Act→World→Prop}{Q:Exit→Act→World→Prop}
structure sF(P:Program)(E:Env):Prop extends EnvTy P E where
 apP: ∀f S,S∈E.Γ f→jw P f S
 mixed:P.follows .mixedOrders=true
 kY: ∀i L,E.xz i=some L→VM.kY L=true
 YK: ∀i L,E.zu i=some L→VM.kY L=true
theorem VQ(hE:sF P E)(hc:Core c σ a.tmps w M ν){K:g7 α}(h:tL E o σ.ρ σ.H K=some r)(hn:fM c σ a o w M ν K r next):o.wp P a w next Q:=by
 have hT:=hE.toEnvTy
 unfold tL at h
 simp only at h
 split at h
 ·rename_i x ho;exact T2 hc (.inl ho) h hn
 ·rename_i x ho;exact T2 hc (.inr ho) h hn
 ·rename_i x y z ho
  split at h
  ·rename_i t hx;exact ace hc ho hx h hn
  ·cases h
 ·rename_i t ho
  split at h
  ·rename_i τ ht;exact Yl hT hc ho ht h hn
  ·cases h
 ·rename_i t x ho
  split at h
  ·rename_i τ ht;exact akk hT hc ho h hn
  ·cases h
 ·rename_i t ps ho
  split at h
  ·rename_i n e ht;exact LN hT hc ho ht h hn
  ·rename_i τ Yv ht
   split at h
   ·rename_i n k hs;exact Oj hT hc ho ht (λn e he=>Yv n e he) hs h hn
   ·exact EW hT hc ho ht (λn e he=>Yv n e he) h hn
  ·cases h
 ·rename_i t n ps ho
  split at h
  ·rename_i e ht;exact Jy hT hc ho ht h hn
  ·cases h
 ·rename_i t x ho
  split at h
  ·rename_i τ ht;exact Yn hT hc ho ht h hn
  ·cases h
 ·rename_i t x y ho
  split at h
  ·rename_i τ ht;exact VE hT hc ho ht h hn
  ·cases h
 ·rename_i x ho
  split at h
  ·rename_i id p hx;exact ET hc ho hx h hn
  ·rename_i τ z hx;exact CL hc ho hx h hn
  ·cases h
 ·rename_i b t x y t' ho;exact Yp hT hc ho h hn
 ·rename_i u t x ho;exact aco hc ho h hn
 ·rename_i s d x ho
  split at h
  ·rename_i τ k hs hd;exact Sn hT hc ho hs hd h hn
  ·cases h
 ·rename_i f first caps ho;exact Of hc ho h hn
 ·rename_i t x y ho
  split at h
  ·rename_i e ht;exact LJ hT hc ho ht h hn
  ·cases h
 ·rename_i t x lo hi mx ho
  split at h
  ·rename_i τ ht;exact VI hT hc ho ht h hn
  ·cases h
 ·rename_i t x n ho
  split at h
  ·rename_i τ ht
   split at h
   ·rename_i id p hx;exact CK hT hc ho ht hx h hn
   ·rename_i υ z hx;exact Bx hT hc ho ht hx h hn
   ·cases h
  ·cases h
 ·rename_i t x n ho
  split at h
  ·rename_i τ ht
   split at h
   ·rename_i υ z hx;exact Yo hT hc ho ht hx h hn
   ·cases h
  ·cases h
 ·rename_i t x i ho
  split at h
  ·rename_i τ ht;exact LG hT hc ho ht h hn
  ·cases h
 ·rename_i t x i ho
  split at h
  ·rename_i τ ht;exact Yr hT hc ho ht h hn
  ·cases h
 ·rename_i x i ho
  split at h
  ·rename_i vs hx
   split at h
   ·rename_i v hv;exact Sl hc ho hx hv h hn
   ·cases h
  ·cases h
 ·rename_i cl ho
  obtain⟨callee,args,ts⟩:=cl
  simp only at h
  split at h
  ·split at h
   ·rename_i x τ ha ht;exact akt hT hc ho ha ht h hn
   ·cases h
  ·split at h
   ·rename_i x y t t' ha ht
    split at h
    ·rename_i e hte;exact VJ hT hc ho ha ht hte h hn
    ·cases h
   ·cases h
  ·split at h
   ·rename_i x t ha hts
    split at h
    ·rename_i e hte;exact YB hT hc ho ha hts hte h hn
    ·cases h
   ·cases h
  ·split at h
   ·rename_i x xs ha;exact ai2 hc true ho ha h hn
   ·cases h
  ·split at h
   ·rename_i x xs ha;exact ai2 hc false ho ha h hn
   ·cases h
  ·rename_i g
   split at h
   ·rename_i f caps hg;exact acz hE.apP hc ho hg h hn
   ·cases h
  ·cases h
 ·cases h
end VM
end
section
namespace VM
open Go
variable{P:Program}{E:Env}{o:Oper}{a:Act}{w:World}{M:Nat→Prop}{ν:Nat→Value}{σ:St}{c:Ctx}{α:Type}{r:α}{next:Act→World→Prop}{Q:Exit→Act→World→Prop}
theorem vL(σ:St)(d:Nat)(v:bE):(σ.put d v).T d=v:=by
 show cond (Nat.beq d d) v (σ.T d)=v
 rw[show Nat.beq d d=true from p8 d];rfl
theorem BF(σ:St){d i:Nat}(v:bE)(h:i≠d):(σ.put d v).T i=σ.T i:=by
 show cond (Nat.beq i d) v (σ.T i)=σ.T i
 have:Nat.beq i d=false:=by rw[←lK,xx];exact h
 rw[this];rfl
theorem aAT(σ:St)(d:Nat)(v:bE):(σ.put d v).H=σ.H:=rfl
theorem G1(σ:St)(d:Nat):σ.put d (σ.T d)=σ:=by
 obtain⟨T,H⟩:=σ
 unfold St.put
 congr 1
 funext i
 by_cases h:i=d
 ·subst h;show cond (Nat.beq i i) (T i) (T i)=T i;cases Nat.beq i i<;>rfl
 ·have:Nat.beq i d=false:=by rw[←lK,xx];exact h
  rw[this];rfl
theorem Core.tr{tm:Array Value}(h:Core c σ tm w M ν){H':Nat→Option br}{w':World}{M':Nat→Prop}{ν':Nat→Value}(t:Tr c σ.H w M ν H' w' M' ν'):Core c ⟨σ.T,H'⟩ tm w' M' ν':=
 ⟨t.mem,λi=>VR.cg t.cg t.goes (h.tmp i)⟩
theorem Core.wY{tm:Array Value}(h:Core c σ tm w M ν){d:Option Nat}{x:bE}{v:Value}{io:List Nat}(hd:N0 tm.size io d=true)(hx:VR w M σ.H ν x v)(ds:List Deferred):
  Core c (σ.wY d x) (({tmps:=tm,defers:=ds}:Act).put d v).tmps w M ν:=by
 cases d with
 |none=>exact h
 |some d=>
  have eV:d<tm.size:=by simp only[N0,bP,Bb]at hd;exact hd.1
  refine⟨h.mem,λi=> ?_⟩
  show VR w M σ.H ν ((σ.put d x).T i) ((tm.setIfInBounds d v).getD i undef)
  by_cases hi:i=d
  ·subst hi
   rw[vL]
   simp[Array.getD,eV]
   exact hx
  ·rw[BF _ _ hi]
   have:=h.tmp i
   have he:(tm.setIfInBounds d v).getD i undef=tm.getD i undef:=by
    rw[tI,tI,NC (ff hi)]
   rw[he];exact this
def Inv(c:Ctx)(E:Env)(σ:St)(a:Act)(w:World):Prop:=(∃M ν,Core c σ a.tmps w M ν)∧a.tmps.size=E.nt∧a.defers=[]∧ ∀i∈E.io,a.tmps.getD i undef=c.arg i
theorem Oy(a:Act)(d:Option Nat)(v:Value):(a.put d v).tmps.size=a.tmps.size:=by
 cases d<;>simp[Act.put]
theorem put_defers(a:Act)(d:Option Nat)(v:Value):(a.put d v).defers=a.defers:=by
 cases d<;>rfl
theorem Ug{d:Option Nat}{v:Value}{io:List Nat}{n:Nat}(hd:N0 n io d=true){i:Nat}(hi:i∈io):(a.put d v).tmps.getD i undef=a.tmps.getD i undef:=by
 cases d with
 |none=>rfl
 |some d=>
  simp only[N0,bP,pL]at hd
  have h1:=hd.2 i hi
  have kQ:i≠d:=by
   intro e;subst e
   simp at h1
  show(a.tmps.setIfInBounds d v).getD i undef=_
  rw[tI,tI,NC (ff kQ)]
theorem Inv.bool(h:Inv c E σ a w){x:Operand}{b:Bool}(hx:σ.ρ x= .val .bool b):a.eval x= .bool b:=by
 obtain⟨⟨M,ν,hc⟩,_,_,_⟩:=h
 have:=hc.ev x
 rw[hx]at this
 exact this.bool
theorem D1(hE:sF P E){ops:Array Oper}(hI:Inv c E σ a w){K:St→List Nat→List Nat→Option α}(h:uW E ops.toList o σ K=some r)
  (hn: ∀σ' a' w' rd wr,K σ' rd wr=some r→Inv c E σ' a' w'→next a' w'):
  if Region.wanted o (yielded ops a.tmps)then o.wp P a w next Q else next (a.put o.dst undef) w:=by
 unfold uW at h
 obtain⟨hd,h⟩:=cD h
 have dG:tL E o σ.ρ σ.H (λv rd ups=>K ((σ.xy ups).wY o.dst v) rd (ups.map (·.1)))=some r→o.wp P a w next Q:=by
  intro h
  obtain⟨⟨M,ν,hc⟩,hs,akK,xV⟩:=hI
  refine VQ hE hc h λv rd ups v' w' M' ν' hK gF hV=> ?_
  refine hn _ _ _ _ _ hK ⟨⟨M',ν',?_⟩,by rw[Oy,hs],by rw[put_defers,akK],λi hi=>(Ug hd hi).trans (xV i hi)⟩
  have h1:=hc.tr gF
  have h2:σ.xy ups=⟨σ.T,c4 σ.H ups⟩:=by rw[←Si,←Sj ups σ]
  rw[h2]
  exact h1.wY (by rw[hs];exact hd) hV a.defers
 have tR: ∀rd wr,K (σ.wY o.dst .Yg) rd wr=some r→next (a.put o.dst undef) w:=by
  intro rd wr h
  obtain⟨⟨M,ν,hc⟩,hs,akK,xV⟩:=hI
  refine hn _ _ _ _ _ h ⟨⟨M,ν,hc.wY (by rw[hs];exact hd) (by simp[VR]) a.defers⟩,by rw[Oy,hs],by rw[put_defers,akK],λi hi=>(Ug hd hi).trans (xV i hi)⟩
 simp only at h
 split at h
 ·rename_i hg
  have:Region.wanted o (yielded ops a.tmps)=true:=by simp[Region.wanted,hg]
  rw[ak this]
  exact dG h
 ·rename_i j want hg
  split at h
  ·cases h
  ·rename_i t ht
   have ht':(ops[j]?).bind (·.dst)=some t:=by rw[←iH];exact ht
   have hy: ∀b,σ.T t= .val .bool b→yielded ops a.tmps j=some b:=by
    intro b hb
    obtain⟨⟨M,ν,hc⟩,hs,_,_⟩:=hI
    have h1:=hc.tmp t
    rw[hb]at h1
    have h1:=h1.bool
    have h2:a.tmps[t]? =some (.bool b):=by
     rw[tI]at h1
     cases h3:a.tmps[t]? with
     |none=>rw[h3]at h1;simp[undef]at h1
     |some v=>rw[h3]at h1;simpa using h1
    simp[yielded,ht',h2]
   split at h
   ·rename_i b hb
    have q7:σ.put t (.val .bool b)=σ:=by rw[←hb];exact G1 σ t
    have hw:=hy b hb
    cases want<;>cases b
    ·rw[ak (by simp[Region.wanted,hg,hw])]
     rw[q7]at h;exact dG h
    ·rw[ah (by simp[Region.wanted,hg,hw])]
     rw[q7]at h;exact tR _ _ h
    ·rw[ah (by simp[Region.wanted,hg,hw])]
     rw[q7]at h;exact tR _ _ h
    ·rw[ak (by simp[Region.wanted,hg,hw])]
     rw[q7]at h;exact dG h
   ·rename_i hb
    have Br: ¬Region.wanted o (yielded ops a.tmps)=true:=by
     obtain⟨⟨M,ν,hc⟩,hs,_,_⟩:=hI
     have h1:=hc.tmp t
     rw[hb]at h1
     simp only[VR]at h1
     have h2: ∀b,a.tmps[t]? ≠some (.bool b):=by
      intro b eY
      rw[tI,eY]at h1
      simp[undef]at h1
     have h3:yielded ops a.tmps j=none:=by
      unfold yielded
      rw[ht']
      show(match a.tmps[t]? with|some (.bool b)=>some b|_=>none)=none
      split
      ·rename_i b eY;exact absurd eY (h2 b)
      ·rfl
     simp[Region.wanted,hg,h3]
    rw[ah Br]
    exact tR _ _ h
   ·cases h
theorem G4(hE:sF P E){ops:Array Oper}: ∀(l:List Oper) (i:Nat) (σ:St) (lg:Log) (a:Act) (w:World) (K:St→Log→Option α),Inv c E σ a w→Vt E ops.toList l i σ lg K=some r→
  (∀σ' lg' a' w',K σ' lg'=some r→Inv c E σ' a' w'→Q .normal a' w')→wpList P ops Q l a w
 |[],i,σ,lg,a,w,K,hI,h,hn=>hn _ _ _ _ h hI
 |o::l,i,σ,lg,a,w,K,hI,h,hn=>by
  unfold Vt at h
  refine wpList_step λK' hK'=> ?_
  exact D1 hE hI h fun σ' a' w' rd wr h' zJ=>hK' _ _ (G4 hE l (i+1) σ' _ a' w' K zJ h' hn)
theorem Oz(hI:Inv c E σ a w){x:Operand}{A B:St→Option α}(h:J6 E x σ A B=some r): ∃b,a.eval x= .bool b∧(if b then A σ else B σ)=some r:=by
 unfold J6 at h
 split at h
 ·rename_i b hb
  refine⟨b,hI.bool hb,?_⟩
  split at h
  ·rename_i t
   have hb:σ.T t= .val .bool b:=hb
   have q7:σ.put t (.val .bool b)=σ:=by rw[←hb];exact G1 σ t
   cases b
   ·rw[q7]at h;exact h
   ·rw[q7]at h;exact h
  ·cases b<;>exact h
 ·cases h
end VM
end
section
namespace VM
open Go
variable{P:Program}{E:Env}{o:Oper}{a:Act}{w:World}{M:Nat→Prop}{ν:Nat→Value}{σ:St}{c:Ctx}{α:Type}{r:α}{next:Act→World→Prop}{Q:Exit→Act→World→Prop}
def mix{β:Type}(A B:Nat→β):Nat→β:=λi=>if i%2=0 then A (i/2)else B (i/2)
theorem jd{β:Type}(A B:Nat→β)(i:Nat):mix A B (2*i)=A i:=by
 unfold mix
 rw[ak ω,show 2*i/2=i from by omega]
theorem wR{β:Type}(A B:Nat→β)(i:Nat):mix A B (2*i+1)=B i:=by
 unfold mix
 rw[ah ω,show(2*i+1)/2=i from by omega]
theorem aoK{β:Type}{A B A' B':Nat→β}(hl: ∀i,A i=A' i)(hr: ∀i,B i=B' i):mix A B=mix A' B':=by
 funext i;unfold mix;rw[hl,hr]
def br.re(f:Nat→Nat):br→br
 | .gn τ x p j=> .gn τ x p (f j)
 |e=>e
theorem ER.re{v:Value}{f:Nat→Nat}{e:br}:ER w M v (e.re f)↔ER w M v e:=by cases e<;>simp[br.re,ER]
theorem br.sG{f:Nat→Nat}{e:br}:(e.re f).mut↔e.mut:=by cases e<;>simp[br.re,br.mut]
theorem br.Uh{f g:Nat→Nat}{e e':br}:(e.re f).lP (e'.re g)↔e.lP e':=by cases e<;>cases e'<;>simp[br.re,br.lP]
def ml(i:Nat):Nat:=2*i
def mr(i:Nat):Nat:=2*i+1
def jR(A B:Nat→Option br):Nat→Option br:=λi=>if i%2=0 then(A (i/2)).map (br.re ml)else(B (i/2)).map (br.re mr)
theorem Ac(A B:Nat→Option br)(i:Nat):jR A B (2*i)=(A i).map (br.re ml):=by
 unfold jR
 rw[ak ω,show 2*i/2=i from by omega]
theorem vM(A B:Nat→Option br)(i:Nat):jR A B (2*i+1)=(B i).map (br.re mr):=by
 unfold jR
 rw[ah ω,show(2*i+1)/2=i from by omega]
theorem ji{A B:Nat→Option br}{i:Nat}{e:br}(h:A i=some e):jR A B (2*i)=some (e.re ml):=by rw[Ac,h];rfl
theorem vN{A B:Nat→Option br}{i:Nat}{e:br}(h:B i=some e):jR A B (2*i+1)=some (e.re mr):=by rw[vM,h];rfl
theorem LR{A B:Nat→Option br}{i:Nat}:jR A B (2*i)≠none↔A i≠none:=by rw[Ac];cases A i<;>simp
theorem LS{A B:Nat→Option br}{i:Nat}:jR A B (2*i+1)≠none↔B i≠none:=by rw[vM];cases B i<;>simp
theorem sH(A B:Nat→Option br)(i:Nat)(v:Option br):cq (jR A B) (2*i) (v.map (br.re ml))=jR (cq A i v) B:=by
 funext k
 by_cases hk:k=2*i
 ·subst hk;rw[ay,Ac,ay]
 ·rw[az _ _ hk]
  unfold jR
  by_cases h2:k%2=0
  ·rw[ak h2,ak h2,az _ _ ω]
  ·rw[ah h2,ah h2]
theorem G6(A B:Nat→Option br)(i:Nat)(v:Option br):cq (jR A B) (2*i+1) (v.map (br.re mr))=jR A (cq B i v):=by
 funext k
 by_cases hk:k=2*i+1
 ·subst hk;rw[ay,vM,ay]
 ·rw[az _ _ hk]
  unfold jR
  by_cases h2:k%2=0
  ·rw[ak h2,ak h2]
  ·rw[ah h2,ah h2,az _ _ ω]
theorem updν_mix_r(A B:Nat→Value)(i:Nat)(v:Value):updν (mix A B) (2*i+1) v=mix A (updν B i v):=by
 funext k
 unfold updν mix
 by_cases hk:k=2*i+1
 ·subst hk;rw[ak rfl,ah ω]
  show v=if(2*i+1)/2=i then v else B ((2*i+1)/2)
  rw[ak ω]
 ·rw[ah hk]
  by_cases h2:k%2=0
  ·rw[ak h2,ak h2]
  ·rw[ah h2,ah h2]
   show B (k/2)=if k/2=i then v else B (k/2)
   rw[ah ω]
theorem Mem.left{H A:Nat→Option br}{νA:Nat→Value}(h:Mem c (jR H A) w M (mix ν νA)):Mem c H w M ν:=
 ⟨λi e hi=>by have:=h.ke (2*i) _ (ji hi);rw[jd]at this;exact ER.re.1 this,
  λi j e e' b qI hi hm hj jh=>by have:=h.Bk (2*i) (2*j) _ _ b ω (ji hi) (br.sG.2 hm) (ji hj) (br.sG.2 jh);rwa [jd,jd]at this,
  λi e b hi hm=>by have:=h.new (2*i) _ b (ji hi) (br.sG.2 hm);rwa [jd]at this,
  λi e l b hi=>by have:=h.oV (2*i) e l b (ji hi);rwa [jd]at this,
  λi τ x p j hi=>by
   obtain⟨h1,b,h2,h3⟩:=h.gn (2*i) τ x p (ml j) (ji hi)
   rw[jd]at h2
   unfold ml at h1 h3
   rw[jd]at h3
   exact⟨LR.1 h1,b,h2,h3⟩,
  h.sub,h.Gy,h.frame,h.size,h.w4,h.os,h.tape,h.output⟩
theorem Mem.right{H A:Nat→Option br}{νA:Nat→Value}(h:Mem c (jR H A) w M (mix ν νA)):Mem c A w M νA:=
 ⟨λi e hi=>by have:=h.ke (2*i+1) _ (vN hi);rw[wR]at this;exact ER.re.1 this,
  λi j e e' b qI hi hm hj jh=>by have:=h.Bk (2*i+1) (2*j+1) _ _ b ω (vN hi) (br.sG.2 hm) (vN hj) (br.sG.2 jh);rwa [wR,wR]at this,
  λi e b hi hm=>by have:=h.new (2*i+1) _ b (vN hi) (br.sG.2 hm);rwa [wR]at this,
  λi e l b hi=>by have:=h.oV (2*i+1) e l b (vN hi);rwa [wR]at this,
  λi τ x p j hi=>by
   obtain⟨h1,b,h2,h3⟩:=h.gn (2*i+1) τ x p (mr j) (vN hi)
   rw[wR]at h2
   unfold mr at h1 h3
   rw[wR]at h3
   exact⟨LS.1 h1,b,h2,h3⟩,
  h.sub,h.Gy,h.frame,h.size,h.w4,h.os,h.tape,h.output⟩
theorem Mem.acA{H:Nat→Option br}(νA:Nat→Value)(h:Mem c H w M ν):Mem c (jR H (λ_=>none)) w M (mix ν νA):=by
 have key: ∀i e,jR H (λ_=>none) i=some e→ ∃j e0,i=2*j∧H j=some e0∧e=e0.re ml:=by
  intro i e hi
  unfold jR at hi
  by_cases h2:i%2=0
  ·rw[ak h2]at hi
   obtain⟨e0,h3,h4⟩:=AQ.1 hi
   exact⟨i/2,e0,ω,h3,h4.symm⟩
  ·rw[ah h2]at hi;cases hi
 refine⟨λi e hi=> ?_,λi j e e' b qI hi hm hj jh=> ?_,λi e b hi hm=> ?_,λi e l b hi=> ?_,λi τ x p j hi=> ?_,h.sub,h.Gy,h.frame,h.size,h.w4,h.os,h.tape,h.output⟩
 ·obtain⟨j,e0,rfl,hj,rfl⟩:=key i e hi;rw[jd];exact ER.re.2 (h.ke j e0 hj)
 ·obtain⟨i',e1,rfl,oe,rfl⟩:=key i e hi;obtain⟨j',e2,rfl,X5,rfl⟩:=key j e' hj
  rw[jd,jd];exact h.Bk i' j' e1 e2 b ω oe (br.sG.1 hm) X5 (br.sG.1 jh)
 ·obtain⟨j,e0,rfl,hj,rfl⟩:=key i e hi;rw[jd];exact h.new j e0 b hj (br.sG.1 hm)
 ·obtain⟨j,e0,rfl,hj,he⟩:=key i _ hi
  cases e0<;>simp only[br.re]at he<;>cases he
  rw[jd];exact h.oV j e l b hj
 ·obtain⟨k,e0,rfl,hk,he⟩:=key i _ hi
  cases e0<;>simp only[br.re]at he<;>cases he
  obtain⟨h1,b,h2,h3⟩:=h.gn k _ _ _ _ hk
  refine⟨LR.2 h1,b,by rw[jd];exact h2,?_⟩
  unfold ml
  rw[jd];exact h3
theorem uu.left{H A H' A':Nat→Option br}{νA ν' νA':Nat→Value}(g:uu (jR H A) (mix ν νA) (jR H' A') (mix ν' νA')):uu H ν H' ν':=
 ⟨λi e hi=>by
   obtain⟨e',h1,h2⟩:=g.ke (2*i) _ (ji hi)
   rw[Ac]at h1
   obtain⟨e0,h3,rfl⟩:=AQ.1 h1
   exact⟨e0,h3,br.Uh.1 h2⟩,
  λi hi=>by have:=g.head (2*i) (LR.2 hi);rwa [jd,jd]at this⟩
theorem uu.right{H A H' A':Nat→Option br}{νA ν' νA':Nat→Value}(g:uu (jR H A) (mix ν νA) (jR H' A') (mix ν' νA')):uu A νA A' νA':=
 ⟨λi e hi=>by
   obtain⟨e',h1,h2⟩:=g.ke (2*i+1) _ (vN hi)
   rw[vM]at h1
   obtain⟨e0,h3,rfl⟩:=AQ.1 h1
   exact⟨e0,h3,br.Uh.1 h2⟩,
  λi hi=>by have:=g.head (2*i+1) (LS.2 hi);rwa [wR,wR]at this⟩
theorem Mem.move{H A:Nat→Option br}{νA:Nat→Value}(h:Mem c (jR H A) w M (mix ν νA)){i j:Nat}{e e1:br}(hi:H i=some e)(hm:e.mut)(hj:A j=none)
  (GJ:(e1=e∧ ∀τ x p k,e≠ .gn τ x p k)∨ ∃τ x p k k',e= .gn τ x p k∧e1= .gn τ x p k'∧A k'≠none∧νA k'=ν k):
  Tr c (jR H A) w M (mix ν νA) (jR (cq H i (some .gone)) (cq A j (some e1))) w M (mix ν (updν νA j (ν i))):=by
 have hg:=Tr.gone h (2*i)
 have hgo:(some br.gone)=(some br.gone).map (br.re ml):=rfl
 rw[hgo,sH]at hg
 have Ue:=ji (B:=A) hi
 have hER:ER w M (ν i) (e1.re mr):=by
  have h1:=h.ke (2*i) _ Ue
  rw[jd]at h1
  have h1:=ER.re.1 h1
  rcases GJ with⟨rfl,_⟩|⟨τ,x,p,k,k',rfl,rfl,_,_⟩
  ·exact ER.re.2 h1
  ·exact h1
 have h2:=Mem.xU hg.mem (id:=2*j+1) (v:=ν i) (e:=e1.re mr) (λe' uF=>by rw[vM,hj]at uF;cases uF)
  hER
  (λb hb k e' hk jh=>by
   by_cases VL:k=2*i
   ·subst VL;rw[Ac,ay]at hk;cases hk;simp[br.re,br.mut]at jh
   ·have hk3:jR H A k=some e':=by
     have:=congrFun (sH H A i (some .gone)) k
     rw[az _ _ VL]at this
     rw[this];exact hk
    have:=h.Bk (2*i) k _ e' b (ff VL) Ue (br.sG.2 hm) hk3 jh
    rw[jd]at this
    exact this hb)
  (λb hb=>by have:=h.new (2*i) _ b Ue (br.sG.2 hm);rw[jd]at this;exact this hb)
  (λb e0 l0 he hb=>by
   rcases GJ with⟨rfl,_⟩|⟨τ,x,p,k,k',rfl,rfl,_,_⟩
   ·cases e1<;>simp only[br.re]at he<;>cases he
    have:=h.oV (2*i) e0 l0 b Ue;rw[jd]at this;exact this hb
   ·simp[br.re]at he)
  (.inl (by rw[vM,hj];rfl))
  (fun τ x p k he=>by
   rcases GJ with⟨rfl,hn⟩|⟨τ,x,p,k,k',rfl,rfl,hk,hνk⟩
   ·cases e1<;>simp only[br.re]at he<;>cases he
    exact absurd rfl (hn _ _ _ _)
   ·simp only[br.re]at he
    cases he
    obtain⟨_,b,h4,h5⟩:=h.gn (2*i) _ _ _ _ Ue
    rw[jd]at h4
    have hkj:k'≠j:=λe=>hk (e▸hj)
    refine⟨?_,b,h4,?_⟩
    ·rw[az _ _ (by unfold mr;omega)]
     unfold mr
     exact LS.2 hk
    ·unfold ml at h5
     rw[jd]at h5
     rw[h5,←hνk]
     have:updν (mix ν νA) (2*j+1) (ν i) (mr k')=mix ν νA (mr k'):=by
      unfold updν mr;rw[ah ω]
     rw[this];unfold mr;rw[wR])
 have YL:some (e1.re mr)=(some e1).map (br.re mr):=rfl
 rw[YL,G6,updν_mix_r]at h2
 refine⟨h2,.refl w M,⟨λk e' hk=> ?_,λk hk=> ?_⟩⟩
 ·by_cases h3:k%2=0
  ·obtain⟨k',rfl⟩: ∃k',k=2*k':=⟨k/2,ω⟩
   by_cases G0:k'=i
   ·subst G0;exact⟨.gone,by rw[Ac,ay];rfl,br.kq _⟩
   ·exact⟨e',by rw[Ac]at hk ⊢;rw[az _ _ G0];exact hk,.refl e'⟩
  ·obtain⟨k',rfl⟩: ∃k',k=2*k'+1:=⟨k/2,ω⟩
   rw[vM]at hk ⊢
   have G0:k'≠j:=λe=>by rw[e,hj]at hk;cases hk
   exact⟨e',by rw[az _ _ G0];exact hk,.refl e'⟩
 ·by_cases h3:k%2=0
  ·obtain⟨k',rfl⟩: ∃k',k=2*k':=⟨k/2,ω⟩
   rw[jd,jd]
  ·obtain⟨k',rfl⟩: ∃k',k=2*k'+1:=⟨k/2,ω⟩
   rw[wR,wR]
   have G0:k'≠j:=λe=>by rw[vM,e,hj]at hk;exact hk rfl
   simp[updν,G0]
theorem Mem.fresh{H A:Nat→Option br}{νA:Nat→Value}(h:Mem c (jR H A) w M (mix ν νA)){j:Nat}(hj:A j=none)(e:Ty)(ad:Option Addr):
  Tr c (jR H A) w M (mix ν νA) (jR H (cq A j (some (.own e [])))) w M (mix ν (updν νA j (.slice ad 0 0))):=by
 have:=Tr.nothing h (id:=2*j+1) (by rw[vM,hj];rfl) e ad
 have YL:some (br.own e [])=(some (br.own e [])).map (br.re mr):=rfl
 rw[YL,G6,updν_mix_r]at this
 exact this
structure Cut(c:Ctx)(σ acc:St)(tm:Array Value)(w:World)(M:Nat→Prop)(ν νA:Nat→Value):Prop where
 mem:Mem c (jR σ.H acc.H) w M (mix ν νA)
 src: ∀i,VR w M σ.H ν (σ.T i) (tm.getD i undef)
 dst: ∀i,VR w M acc.H νA (acc.T i) (tm.getD i undef)
theorem Cut.tr{acc:St}{tm:Array Value}{νA:Nat→Value}(h:Cut c σ acc tm w M ν νA){H' A':Nat→Option br}{M':Nat→Prop}{νA':Nat→Value}(t:Tr c (jR σ.H acc.H) w M (mix ν νA) (jR H' A') w M' (mix ν νA')){s:Nat}{x:bE}(hx:VR w M' A' νA' x (tm.getD s undef)):
  Cut c ⟨σ.T,H'⟩ ⟨(acc.put s x).T,A'⟩ tm w M' ν νA':=by
 refine⟨t.mem,λi=>VR.cg t.cg t.goes.left (h.src i),λi=> ?_⟩
 show VR w M' A' νA' ((acc.put s x).T i) _
 by_cases hi:i=s
 ·subst hi;rw[vL];exact hx
 ·rw[BF _ _ hi];exact VR.cg t.cg t.goes.right (h.dst i)
def YM(A:Nat→Option br)(s:Nat):Prop:=A (16*s+13)=none∧A (16*s+14)=none∧A (16*s+15)=none
theorem ni{q:Nat×CM}{L:List (Nat×CM)}{A:Nat→Option br}(hF:kY (q::L)=true)(hN: ∀p∈q::L,YM A p.1):
  kY L=true∧(∀p∈L,YM A p.1)∧
   ∀(A':Nat→Option br) (d:Nat) (v:Option br),(d=16*q.1+13∨d=16*q.1+14∨d=16*q.1+15)→(∀p∈L,YM A' p.1)→ ∀p∈L,YM (cq A' d v) p.1:=by
 unfold kY at hF
 rw[bP,pL]at hF
 refine⟨hF.2,λp hp=>hN p (a8 _ hp),λA' d v hd hN' p hp=> ?_⟩
 have kQ:p.1≠q.1:=λe=>by
  have:=hF.1 p hp
  rw[e]at this
  simp at this
 obtain⟨h1,h2,h3⟩:=hN' p hp
 exact⟨by rw[az _ _ ω];exact h1,by rw[az _ _ ω];exact h2,by rw[az _ _ ω];exact h3⟩
theorem fG{tm:Array Value}: ∀(L:List (Nat×CM)) (σ acc:St) (M:Nat→Prop) (νA:Nat→Value) (K:St→Option α),Cut c σ acc tm w M ν νA→kY L=true→(∀q∈L,YM acc.H q.1)→iS L σ acc K=some r→
  ∃acB M' νA',K acB=some r∧Core c acB tm w M' νA'
 |[],σ,acc,M,νA,K,hC,_,_,h=>⟨acc,M,νA,h,hC.mem.right,hC.dst⟩
 |(s,.v τ)::L,σ,acc,M,νA,K,hC,hF,hN,h=>by
  obtain⟨Sb,Sc,VS⟩:=ni hF hN
  unfold iS at h
  obtain⟨y,rd,ups,h,hy⟩:=FD hC.mem.left (hC.src s) h
  rcases hy with⟨rfl,hV⟩|⟨id,e,l,rfl,bk,hV⟩
  ·exact fG L σ _ M νA K (hC.tr (.refl hC.mem) (x:= .val τ y) (by simp only[VR];exact hV)) Sb Sc h
  ·obtain⟨M2,gF,_,LF⟩:=Tr.freeze hC.mem (id:=2*id) (ji bk)
   have YL:some (br.pM e l)=(some (br.pM e l)).map (br.re ml):=rfl
   rw[YL,sH]at gF
   refine fG L _ _ M2 νA K (hC.tr gF (x:= .val τ y) ?_) Sb Sc h
   simp only[VR]
   exact hV M2 (λb=>by rw[LF b,jd])
 |(s,.own e)::L,σ,acc,M,νA,K,hC,hF,hN,h=>by
  obtain⟨Sb,Sc,VS⟩:=ni hF hN
  unfold iS at h
  have hs:=hC.src s
  split at h
  ·rename_i hT
   have hj:=(hN _ bt).2.1
   rw[hT]at hs
   obtain⟨ad,hv⟩:=VR.emp.1 hs
   refine fG L σ _ M _ K (hC.tr (hC.mem.fresh hj e ad) (x:= .ref (16*s+14)) ?_) Sb (VS _ _ _ (.inr (.inl rfl)) Sc) h
   simp only[VR]
   exact⟨by rw[ay];simp,by rw[hv];simp[updν]⟩
  ·rename_i id hT
   rw[hT]at hs
   simp only[VR]at hs
   split at h
   ·rename_i e' l bk
    obtain⟨e1,h⟩:=bz h
    cases e1
    have hj:=(hN _ bt).2.1
    refine fG L _ _ M _ K (hC.tr (hC.mem.move bk trivial hj (.inl ⟨rfl,λ_ _ _ _=>by simp⟩)) (x:= .ref (16*s+14)) ?_) Sb (VS _ _ _ (.inr (.inl rfl)) Sc) h
    simp only[VR]
    exact⟨by rw[ay];simp,by rw[hs.2];simp[updν]⟩
   ·cases h
  ·cases h
 |(s,.obj τ)::L,σ,acc,M,νA,K,hC,hF,hN,h=>by
  obtain⟨Sb,Sc,VS⟩:=ni hF hN
  unfold iS at h
  have hs:=hC.src s
  split at h
  ·rename_i id hT
   rw[hT]at hs
   split at h
   ·rename_i υ x bk
    obtain⟨e1,h⟩:=bz h
    subst e1
    have hj:=(hN _ bt).2.1
    simp only[VR]at hs
    obtain⟨e,he,lR⟩:=hs
    rw[bk]at he;cases he
    simp only[AR]at lR
    obtain⟨_,b,hb,hv⟩:=lR
    refine fG L _ _ M _ K (hC.tr (hC.mem.move bk trivial hj (.inl ⟨rfl,λ_ _ _ _=>by simp⟩)) (x:= .jH (16*s+14) []) ?_) Sb (VS _ _ _ (.inr (.inl rfl)) Sc) h
    simp only[VR]
    exact⟨_,ay _ _ _,trivial,b,by simp[updν,hb],hv⟩
   ·
    rename_i υ x q k bk
    obtain⟨z,ups,M2,hK,gF,apQ,b,cs,t,hb,hg,LF,kE⟩: ∃z ups M2,cP υ τ z (λy=>iS L ((σ.xy ups).ku id (some .gone)) ((acc.put s (.jH (16*s+14) [])).ku (16*s+14) (some (.obj τ y))) K)=some r∧
      Tr c (jR σ.H acc.H) w M (mix ν νA) (jR (c4 σ.H ups) acc.H) w M2 (mix ν νA)∧c4 σ.H ups id=some (.gn υ x q k)∧ ∃b cs t,ν id= .pointer (some ⟨b,0,none⟩)∧w.heap[b]? =some (.cells cs t (0,0))∧M2 b∧Rd w M2 υ cs.toList z:=by
     have apR:=ji (B:=acc.H) bk
     unfold EN at h
     split at h
     ·rename_i e l hk
      have kQ:id≠k:=λe=>by rw[e,hk]at bk;cases bk
      obtain⟨z,ups,M2,hK,gF,_,hc2,b,cs,t,hb,hg,LF,kE⟩:=zZ (H:=jR σ.H acc.H) hC.mem (id:=2*id) (j:=2*k) (x:=x) (q:=q)
       (k:=λz _=>cP υ τ z λy=>iS L ((σ.xy [(k,some (.pM e l))]).ku id (some .gone)) ((acc.put s (.jH (16*s+14) [])).ku (16*s+14) (some (.obj τ y))) K) apR (by
        unfold EN
        rw[ji hk]
        exact h)
      rw[jd]at hb
      rcases hc2 with⟨e2,l2,h2,_⟩|⟨e2,l2,h2,rfl⟩
      ·rw[ji hk]at h2;simp[br.re]at h2
      ·rw[ji hk]at h2
       simp only[br.re,iI]at h2
       have YL:some (br.pM e l)=(some (br.pM e l)).map (br.re ml):=rfl
       have xN:Tr c (jR σ.H acc.H) w M (mix ν νA) (cq (jR σ.H acc.H) (2*k) (some (.pM e l))) w M2 (mix ν νA):=by
        cases h2;exact gF
       rw[YL,sH]at xN
       exact⟨z,_,M2,hK,xN,by show cq σ.H k _ id=_;rw[az _ _ kQ];exact bk,b,cs,t,hb,hg,LF,kE⟩
     ·rename_i e l hk
      obtain⟨z,ups,M2,hK,gF,_,hc2,b,cs,t,hb,hg,LF,kE⟩:=zZ (H:=jR σ.H acc.H) hC.mem (id:=2*id) (j:=2*k) (x:=x) (q:=q)
       (k:=λz _=>cP υ τ z λy=>iS L ((σ.xy []).ku id (some .gone)) ((acc.put s (.jH (16*s+14) [])).ku (16*s+14) (some (.obj τ y))) K) apR (by
        unfold EN
        rw[ji hk]
        exact h)
      rw[jd]at hb
      rcases hc2 with⟨e2,l2,h2,rfl⟩|⟨e2,l2,h2,_⟩
      ·exact⟨z,[],M2,hK,gF,bk,b,cs,t,hb,hg,LF,kE⟩
      ·rw[ji hk]at h2;simp[br.re]at h2
     ·cases h
    obtain⟨e1,hK⟩:=bz hK
    subst e1
    have hC2:Cut c ⟨σ.T,c4 σ.H ups⟩ acc tm w M2 ν νA:=⟨gF.mem,λi=>VR.cg gF.cg gF.goes.left (hC.src i),λi=>VR.cg gF.cg gF.goes.right (hC.dst i)⟩
    have xe:=Tr.Jt (e':= .obj υ z) gF.mem (ji apQ) trivial trivial rfl (λ_ _=>by simp) (by rw[jd];simp only[ER];exact⟨b,cs,t,hb,hg,LF,kE⟩) (λ_ _ _ _ h=>by cases h)
    have YL:some (br.obj υ z)=(some (br.obj υ z)).map (br.re ml):=rfl
    rw[YL,sH]at xe
    have hC3:Cut c ⟨σ.T,cq (c4 σ.H ups) id (some (.obj υ z))⟩ acc tm w M2 ν νA:=⟨xe.mem,λi=>VR.cg xe.cg xe.goes.left (hC2.src i),λi=>VR.cg xe.cg xe.goes.right (hC2.dst i)⟩
    have hj:=(hN _ bt).2.1
    simp only[VR]at hs
    obtain⟨e,he,lR⟩:=hs
    rw[bk]at he;cases he
    simp only[AR]at lR
    obtain⟨_,b',eY,hv⟩:=lR
    rw[hb]at eY;cases eY
    have hmv:=hC3.mem.move (ay _ _ _) trivial hj (.inl ⟨rfl,λ_ _ _ _=>by simp⟩)
    rw[zY]at hmv
    have xd:(σ.xy ups).ku id (some .gone)=⟨σ.T,cq (c4 σ.H ups) id (some .gone)⟩:=by
     have h2:σ.xy ups=⟨σ.T,c4 σ.H ups⟩:=by rw[←Si,←Sj ups σ]
     rw[h2];rfl
    rw[xd]at hK
    refine fG L _ _ M2 _ K (hC3.tr hmv (x:= .jH (16*s+14) []) ?_) Sb (VS _ _ _ (.inr (.inl rfl)) Sc) hK
    simp only[VR]
    exact⟨_,ay _ _ _,trivial,b,by simp[updν,hb],hv⟩
   ·cases h
  ·cases h
 |(s,.gn τ q e)::L,σ,acc,M,νA,K,hC,hF,hN,h=>by
  obtain⟨Sb,Sc,VS⟩:=ni hF hN
  unfold iS at h
  have hs:=hC.src s
  split at h
  ·rename_i id hT
   rw[hT]at hs
   split at h
   ·rename_i υ x q' k bk
    obtain⟨hpq,h1⟩:=cD h
    clear h
    have:=zX hpq
    subst this
    split at h1
    ·rename_i e' l hk
     obtain⟨e1,h2⟩:=bz h1
     clear h1
     subst e1
     obtain⟨e2,h⟩:=bz h2
     cases e2
     have kQ:id≠k:=λe=>by rw[e,hk]at bk;cases bk
     obtain⟨avN,avO,_⟩:=hN _ bt
     simp only[VR]at hs
     obtain⟨e,he,lR⟩:=hs
     rw[bk]at he;cases he
     simp only[AR]at lR
     obtain⟨_,b,hb,hv⟩:=lR
     have uv:=hC.mem.move hk trivial avN (.inl ⟨rfl,λ_ _ _ _=>by simp⟩)
     have qJ:cq σ.H k (some .gone) id=some (.gn υ x q k):=by rw[az _ _ kQ];exact bk
     have yZ:=uv.mem.move qJ trivial (j:=16*s+14) (e1:= .gn υ x q (16*s+13)) (by rw[az _ _ ω];exact avO)
      (.inr ⟨υ,x,q,k,16*s+13,rfl,rfl,by rw[ay];simp,by simp[updν]⟩)
     refine fG L _ _ M _ K (hC.tr (uv.trans yZ) (s:=s) (x:= .jH (16*s+14) []) ?_) Sb (VS _ _ _ (.inr (.inl rfl)) (VS _ _ _ (.inl rfl) Sc)) h
     simp only[VR]
     exact⟨_,ay _ _ _,trivial,b,by simp[updν,hb],hv⟩
    ·cases h1
   ·cases h
  ·cases h
 |(s,.same s')::L,σ,acc,M,νA,K,hC,hF,hN,h=>by
  obtain⟨Sb,Sc,VS⟩:=ni hF hN
  unfold iS at h
  split at h
  ·rename_i i j j' h1 h2 h3
   obtain⟨hb,h⟩:=cD h
   have hb:=fA hb
   have e1:=hC.src s
   have e2:=hC.src s'
   have e3:=hC.dst s'
   rw[h1]at e1;rw[h2]at e2;rw[h3]at e3
   simp only[VR]at e1 e2 e3
   refine fG L σ _ M νA K (hC.tr (.refl hC.mem) (x:= .ref j') ?_) Sb Sc h
   simp only[VR]
   exact⟨e3.1,by rw[e1.2,hb,←e2.2,e3.2]⟩
  ·cases h
 |(s,.io τ)::L,σ,acc,M,νA,K,hC,hF,hN,h=>by
  obtain⟨Sb,Sc,VS⟩:=ni hF hN
  unfold iS at h
  have hs:=hC.src s
  split at h
  ·rename_i id hT
   rw[hT]at hs
   obtain⟨_,h⟩:=cD h
   split at h
   ·rename_i υ x bk
    obtain⟨e1,h⟩:=bz h
    subst e1
    have hj:=(hN _ bt).2.2
    simp only[VR]at hs
    obtain⟨e,he,lR⟩:=hs
    rw[bk]at he;cases he
    simp only[AR]at lR
    obtain⟨_,b,hb,hv⟩:=lR
    refine fG L _ _ M _ K (hC.tr (hC.mem.move bk trivial hj (.inl ⟨rfl,λ_ _ _ _=>by simp⟩)) (x:= .jH (16*s+15) []) ?_) Sb (VS _ _ _ (.inr (.inr rfl)) Sc) h
    simp only[VR]
    exact⟨_,ay _ _ _,trivial,b,by simp[updν,hb],hv⟩
   ·cases h
  ·cases h
 |(s,.fn f τ)::L,σ,acc,M,νA,K,hC,hF,hN,h=>by
  obtain⟨Sb,Sc,VS⟩:=ni hF hN
  unfold iS at h
  have hs:=hC.src s
  split at h
  ·rename_i f' cs hT
   rw[hT]at hs
   obtain⟨hb,h1⟩:=cD h
   clear h
   have hb:=fA hb
   subst hb
   simp only[VR]at hs
   obtain⟨us,hv,hvs⟩:=hs
   obtain⟨y,rd,ups,h,hy⟩:=GV hC.mem.left hvs h1
   split at h
   ·refine fG L σ _ M νA K (hC.tr (.refl hC.mem) (x:= .NZ f (q4 τ y)) ?_) Sb Sc h
    simp only[VR]
    exact⟨us,hv,jQ.free (hy rfl)⟩
   ·cases h
  ·cases h
theorem Ad(hI:Inv c E σ a w){L:Option (List (Nat×CM))}(hL: ∀L',L=some L'→kY L'=true){K:St→Option α}(h:xH L σ K=some r): ∃σ',K σ'=some r∧Inv c E σ' a w:=by
 unfold xH at h
 split at h
 ·exact⟨σ,h,hI⟩
 ·have hfr:=hL _ rfl
  obtain⟨⟨M,ν,hc⟩,hs,hd⟩:=hI
  obtain⟨acB,M',νA',hK,apS⟩:=fG (tm:=a.tmps) _ σ ⟨λ_=> .any,λ_=>none⟩ M (λ_=>undef) K ⟨hc.mem.acA _,hc.tmp,λi=>by simp[VR]⟩ hfr (λ_ _=>⟨rfl,rfl,rfl⟩) h
  exact⟨acB,hK,⟨M',νA',apS⟩,hs,hd⟩
end VM
end
section
namespace VM
open Go
variable{α:Type}{r:α}
theorem dK{υ τ:Ty}{y:υ.den}{k:τ.den→Option α}(h:cP υ τ y k=some r): ∃z,k z=some r∧ ∀k':τ.den→Option α,cP υ τ y k'=k' z:=by
 obtain⟨e,h⟩:=bz h
 subst e
 exact⟨y,h,λk'=>by simp[cP]⟩
theorem gM{υ τ:Ty}{k:Option α}(h:ju υ τ k=some r):k=some r∧ ∀k':Option α,ju υ τ k'=k':=by
 obtain⟨e,h1⟩:=dW h
 clear h
 subst e
 exact⟨h1,λk'=>by simp[ju]⟩
theorem eE{b:Bool}{K:Option α}(h:cond b K none=some r):K=some r∧ ∀K':Option α,cond b K' none=K':=by
 obtain⟨rfl,h⟩:=cD h
 exact⟨h,λ_=>rfl⟩
theorem u5{b:Bool}{K:Option α}(h:cond b none K=some r):K=some r∧ ∀K':Option α,cond b none K'=K':=by
 obtain⟨rfl,h⟩:=nD h
 exact⟨h,λ_=>rfl⟩
theorem y7: ∀{τ:Ty} {x:τ.den} {n:Nat} {k:(υ:Ty)→υ.den→Option α},vE τ x n k=some r→ ∃υ y,k υ y=some r∧ ∀k':(υ:Ty)→υ.den→Option α,vE τ x n k'=k' υ y
 | .pair a b,x,0,k,h=>⟨a,x.1,h,λ_=>rfl⟩
 | .pair a b,x,n+1,k,h=>by
  obtain⟨υ,y,h1,h2⟩:=y7 (τ:=b) (x:=x.2) (n:=n) (k:=k) h
  exact⟨υ,y,h1,λk'=>h2 k'⟩
 | .int _,_,_,_,h| .bool,_,_,_,h| .str,_,_,_,h| .slice _,_,_,_,h| .unit,_,_,_,h| .arr _ _,_,_,_,h=>by simp[vE]at h
theorem Ae: ∀{τ:Ty} {x:τ.den} {n:Nat} {m:(υ:Ty)→υ.den→(υ.den→Option α)→Option α} {k:τ.den→Option α},
  (∀υ y (k:υ.den→Option α),m υ y k=some r→ ∃z,k z=some r∧ ∀k':υ.den→Option α,m υ y k'=k' z)→fV τ x n m k=some r→ ∃z,k z=some r∧ ∀k':τ.den→Option α,fV τ x n m k'=k' z
 | .pair a b,x,0,m,k,hm,h=>by
  obtain⟨z,h1,h2⟩:=hm a x.1 _ h
  exact⟨(z,x.2),h1,λk'=>h2 _⟩
 | .pair a b,x,n+1,m,k,hm,h=>by
  obtain⟨z,h1,h2⟩:=Ae (τ:=b) (x:=x.2) (n:=n) (m:=m) (k:=λz=>k (x.1,z)) hm h
  exact⟨(x.1,z),h1,λk'=>h2 (λz=>k' (x.1,z))⟩
 | .int _,_,_,_,_,_,h| .bool,_,_,_,_,_,h| .str,_,_,_,_,_,h| .slice _,_,_,_,_,_,h| .unit,_,_,_,_,_,h| .arr _ _,_,_,_,_,_,h=>by simp[fV]at h
theorem iL: ∀{p:List Step} {τ:Ty} {x:τ.den} {k:(υ:Ty)→υ.den→Option α},Bf p τ x k=some r→ ∃υ y,k υ y=some r∧ ∀k':(υ:Ty)→υ.den→Option α,Bf p τ x k'=k' υ y
 |[],τ,x,k,h=>⟨τ,x,h,λ_=>rfl⟩
 | .iK n::p,τ,x,k,h=>by
  obtain⟨υ,y,h1,h2⟩:=y7 (h:vE τ x n _=some r)
  obtain⟨υ',y',h3,h4⟩:=iL h1
  exact⟨υ',y',h3,λk'=>(h2 _).trans (h4 k')⟩
 | .idx i::p,τ,x,k,h=>by
  cases τ with
  |arr n e=>
   obtain⟨υ',y',h3,h4⟩:=iL (p:=p) (τ:=e) (x:=γ x i e.zero) (k:=k) h
   exact⟨υ',y',h3,λk'=>h4 k'⟩
  |_=>simp[Bf,akc]at h
theorem pP{υ:Ty}{y:υ.den}: ∀{p:List Step} {τ:Ty} {x:τ.den} {k:τ.den→Option α},wZ υ y p τ x k=some r→ ∃z,k z=some r∧ ∀k':τ.den→Option α,wZ υ y p τ x k'=k' z
 |[],τ,x,k,h=>dK h
 | .iK n::p,τ,x,k,h=>Ae (λ_ _ _ h=>pP h) h
 | .idx i::p,τ,x,k,h=>by
  cases τ with
  |arr n e=>
   obtain⟨z,h1,h2⟩:=pP (p:=p) (τ:=e) (x:=γ x i e.zero) (k:=λz=>k (List.set x i z)) h
   exact⟨_,h1,λk'=>h2 (λz=>k' (List.set x i z))⟩
  |_=>simp[wZ,Ft]at h
theorem rr{a:bE}{k:IntKind→Int→Option α}(h:w1 a k=some r): ∃i n,k i n=some r∧ ∀k':IntKind→Int→Option α,w1 a k'=k' i n:=by
 obtain⟨i,n,rfl,h⟩:=oi h
 exact⟨i,n,h,λ_=>rfl⟩
theorem Ui{a:bE}{k:(τ:Ty)→τ.den→Option α}(h:N1 a k=some r): ∃τ x,k τ x=some r∧ ∀k':(τ:Ty)→τ.den→Option α,N1 a k'=k' τ x:=by
 unfold N1 at h
 split at h
 ·exact⟨_,_,h,λ_=>rfl⟩
 ·cases h
theorem vO{a:Option bE}{d:Int}{k:Int→Option α}(h:zv a d k=some r): ∃n,k n=some r∧ ∀k':Int→Option α,zv a d k'=k' n:=by
 cases a with
 |none=>exact⟨d,h,λ_=>rfl⟩
 |some a=>
  obtain⟨i,n,h1,h2⟩:=rr (h:w1 a (λ_ x=>k x)=some r)
  exact⟨n,h1,λk'=>h2 (λ_ x=>k' x)⟩
abbrev Ag(rd:List Nat)(H H':Nat→Option br):Prop:= ∀i∈rd,H' i=H i
theorem pQ{fz:Bool}{a:bE}{H:Nat→Option br}{τ:Ty}{k:τ.den→List Nat→jI→Option α}(h:m9 fz a H τ k=some r):
  ∃y rd ups,k y rd ups=some r∧ ∀H',Ag rd H H'→ ∀k':τ.den→List Nat→jI→Option α,m9 fz a H' τ k'=k' y rd ups:=by
 cases a with
 |val υ x=>
  simp only[m9]at h
  obtain⟨z,h1,h2⟩:=dK h
  refine⟨z,[],[],h1,λH' _ k'=> ?_⟩
  simp only[m9]
  exact h2 (λy=>k' y [] [])
 |Lv υ x n=>
  simp only[m9]at h
  obtain⟨z,h1,h2⟩:=dK h
  refine⟨z,[],[],h1,λH' _ k'=> ?_⟩
  simp only[m9]
  exact h2 (λy=>k' y [] [])
 |emp=>
  cases τ with
  |slice e=>exact⟨[],[],[],h,λ_ _ _=>rfl⟩
  |_=>cases h
 |ref id=>
  have h:(match H id with
   |some (.own e l)=>cP (.slice e) τ l λy=>k y [id] (cond fz [(id,some (.pM e l))] [])
   |some (.pM e l)=>cP (.slice e) τ l λy=>k y [id] []
   |_=>none)=some r:=h
  cases hH:H id with
  |none=>rw[hH]at h;cases h
  |some e=>
   rw[hH]at h
   cases e with
   |own e l=>
    obtain⟨z,h1,h2⟩:=dK (h:cP (.slice e) τ l _=some r)
    refine⟨z,_,_,h1,λH' hA k'=> ?_⟩
    have:H' id=some (.own e l):=by rw[hA id (by simp),hH]
    show(match H' id with
     |some (.own e l)=>cP (.slice e) τ l λy=>k' y [id] (cond fz [(id,some (.pM e l))] [])
     |some (.pM e l)=>cP (.slice e) τ l λy=>k' y [id] []
     |_=>none)=_
    rw[this];exact h2 _
   |pM e l=>
    obtain⟨z,h1,h2⟩:=dK (h:cP (.slice e) τ l _=some r)
    refine⟨z,_,_,h1,λH' hA k'=> ?_⟩
    have:H' id=some (.pM e l):=by rw[hA id (by simp),hH]
    show(match H' id with
     |some (.own e l)=>cP (.slice e) τ l λy=>k' y [id] (cond fz [(id,some (.pM e l))] [])
     |some (.pM e l)=>cP (.slice e) τ l λy=>k' y [id] []
     |_=>none)=_
    rw[this];exact h2 _
   |obj _ _=>cases h
   |gn _ _ _ _=>cases h
   |gone=>cases h
 |any|Yg|jH _ _|su _ _|tup _|NZ _ _|Jo _ _ _ _|sub _ _ _=>cases h
theorem y8{id:Nat}{p:List Step}{H:Nat→Option br}{k:Ty→Option α}(h:mf id p H k=some r): ∃υ,k υ=some r∧ ∀H',H' id=H id→ ∀k':Ty→Option α,mf id p H' k'=k' υ:=by
 unfold mf at h
 split at h
 ·rename_i τ x bk
  obtain⟨υ,y,h1,h2⟩:=iL h
  exact⟨υ,h1,λH' hA k'=>by unfold mf;rw[hA,bk];exact h2 _⟩
 ·rename_i τ x _ _ bk
  obtain⟨υ,y,h1,h2⟩:=iL h
  exact⟨υ,h1,λH' hA k'=>by unfold mf;rw[hA,bk];exact h2 _⟩
 ·rename_i e l bk
  split at h
  ·obtain⟨υ,y,h1,h2⟩:=iL h
   exact⟨υ,h1,λH' hA k'=>by unfold mf;rw[hA,bk];exact h2 _⟩
  ·cases h
 ·rename_i e l bk
  split at h
  ·obtain⟨υ,y,h1,h2⟩:=iL h
   exact⟨υ,h1,λH' hA k'=>by unfold mf;rw[hA,bk];exact h2 _⟩
  ·cases h
 ·cases h
theorem y9{H:Nat→Option br}{id:Nat}{e:br}{K:Option α}(h:sv H id e K=some r):K=some r∧ ∀H',H' id=H id→ ∀(e':br) (K':Option α),sv H' id e' K'=K':=by
 obtain⟨h1,h2⟩:=mE h
 exact⟨h2,λH' hA e' K'=>by unfold sv;rw[hA,h1]⟩
theorem VT{b:BinOp}{k:IntKind}{x y:Int}{K:bE→Option α}(h:vF b k x y K=some r): ∃v,K v=some r∧ ∀K':bE→Option α,vF b k x y K'=K' v:=by
 cases b<;>simp only[vF]at h ⊢ <;>first
  |exact⟨_,h,λ_=>rfl⟩
  |(obtain⟨h1,h2⟩:=u5 h;exact⟨_,h1,λ_=>h2 _⟩)
  |cases h
theorem akL{b:BinOp}{k:IntKind}{x y:Int}{K:bE→Option α}(h:shK b k x y K=some r): ∃v,K v=some r∧ ∀K':bE→Option α,shK b k x y K'=K' v:=by
 cases b<;>simp only[shK]at h ⊢ <;>first
  |(obtain⟨h1,h2⟩:=u5 h;exact⟨_,h1,λ_=>h2 _⟩)
  |cases h
theorem YN{t:Option Ty}{op:BinOp}{τ:Ty}{x:τ.den}{υ:Ty}{y:υ.den}{K:bE→Option α}(h:Gw t op τ x υ y K=some r): ∃v,K v=some r∧ ∀K':bE→Option α,Gw t op τ x υ y K'=K' v:=by
 unfold Gw at h ⊢
 split at h
 ·rename_i k x k' y
  cases hs:ab8 op
  ·rw[hs]at h
   have h:(if k=k' then vF op k x y K else none)=some r:=h
   by_cases hk:k=k'
   ·rw[ak hk]at h
    obtain⟨v,h1,h2⟩:=VT h
    exact⟨v,h1,λK'=>by simp only[av,ak hk];exact h2 K'⟩
   ·rw[ah hk]at h;cases h
  ·rw[hs]at h
   obtain⟨v,h1,h2⟩:=akL (h:shK op k x y K=some r)
   exact⟨v,h1,λK'=>by simp only[aj];exact h2 K'⟩
 ·split at h
  ·cases h
  ·obtain⟨h1,h2⟩:=gM h
   obtain⟨h3,h4⟩:=eE h1
   split at h3
   ·obtain⟨z,h5,h6⟩:=dK h3
    exact⟨_,h5,λK'=>by rw[h2,h4];exact h6 _⟩
   ·obtain⟨z,h5,h6⟩:=dK h3
    exact⟨_,h5,λK'=>by rw[h2,h4];exact h6 _⟩
   ·cases h3
theorem acC{u:UnOp}{a:bE}{K:bE→Option α}(h:Vs u a K=some r): ∃v,K v=some r∧ ∀K':bE→Option α,Vs u a K'=K' v:=by
 unfold Vs at h
 split at h<;>first
  |exact⟨_,h,λ_=>rfl⟩
  |cases h
theorem Ss{up:Bool}: ∀{xs:List bE} {a:bE} {K:bE→Option α},mmK up a xs K=some r→ ∃v,K v=some r∧ ∀K':bE→Option α,mmK up a xs K'=K' v
 |[],a,K,h=>⟨a,h,λ_=>rfl⟩
 |b::xs,a,K,h=>by
  unfold mmK at h
  obtain⟨k,x,h1,h2⟩:=rr h
  obtain⟨k',y,h3,h4⟩:=rr h1
  by_cases hk:k=k'
  ·rw[ak hk]at h3
   obtain⟨v,h5,h6⟩:=Ss h3
   refine⟨v,h5,λK'=> ?_⟩
   unfold mmK
   rw[h2,h4,ak hk]
   exact h6 K'
  ·rw[ah hk]at h3;cases h3
theorem acD{τ:Ty}{a:bE}{H:Nat→Option br}{K:g7 α}(h:N2 τ a H K=some r): ∃v rd ups,K v rd ups=some r∧ ∀H',Ag rd H H'→ ∀K':g7 α,N2 τ a H' K'=K' v rd ups:=by
 unfold N2 at h
 split at h
 ·exact⟨_,_,_,h,λ_ _ _=>rfl⟩
 ·exact⟨_,_,_,h,λ_ _ _=>rfl⟩
 ·exact⟨_,_,_,h,λ_ _ _=>rfl⟩
 ·exact⟨_,_,_,h,λ_ _ _=>rfl⟩
 ·split at h
  ·rename_i bk
   exact⟨_,_,_,h,λH' hA K'=>by unfold N2;simp only;rw[hA _ (by simp),bk]⟩
  ·rename_i bk
   exact⟨_,_,_,h,λH' hA K'=>by unfold N2;simp only;rw[hA _ (by simp),bk]⟩
  ·cases h
 ·cases h
theorem acE{id:Nat}{e:Ty}{a b:bE}{H:Nat→Option br}{K:g7 α}(h:N3 id e a b H K=some r): ∃v rd ups,K v rd ups=some r∧id∈rd∧ ∀H',Ag rd H H'→ ∀K':g7 α,N3 id e a b H' K'=K' v rd ups:=by
 unfold N3 at h
 obtain⟨ys,rd,ups,h1,h2⟩:=pQ h
 split at h1
 ·obtain⟨h3,h4⟩:=eE h1
  refine⟨_,_,_,h3,by simp,λH' hA K'=> ?_⟩
  unfold N3
  rw[h2 H' (λi hi=>hA i (a8 _ hi))]
  exact h4 _
 ·rename_i j
  split at h1
  ·rename_i e' l hj
   obtain⟨z,h3,h4⟩:=dK h1
   obtain⟨h5,h6⟩:=eE h3
   refine⟨_,_,_,h5,by simp,λH' hA K'=> ?_⟩
   unfold N3
   rw[h2 H' (λi hi=>hA i (a8 _ (a8 _ hi)))]
   simp only
   rw[hA j (by simp),hj]
   simp only
   rw[h4]
   exact h6 _
  ·cases h1
 ·cases h1
theorem G7{e:Ty}{n:Nat}{H:Nat→Option br}: ∀{ps:List (Nat×bE)} {l:List e.den} {Ke:List Nat} {G8:jI} {K:List e.den→List Nat→jI→Option α},xA e H n ps l Ke G8 K=some r→
  ∃l' rd ups,K l' rd ups=some r∧(∀i∈Ke,i∈rd)∧ ∀H',Ag rd H H'→ ∀K':List e.den→List Nat→jI→Option α,xA e H' n ps l Ke G8 K'=K' l' rd ups
 |[],l,Ke,G8,K,h=>⟨l,Ke,G8,h,λ_ h=>h,λ_ _ _=>rfl⟩
 |p::ps,l,Ke,G8,K,h=>by
  unfold xA at h
  obtain⟨h1,h2⟩:=eE h
  obtain⟨y,Yt,CO,h3,h4⟩:=pQ h1
  obtain⟨l',rd,ups,h5,h6,h7⟩:=G7 h3
  refine⟨l',rd,ups,h5,λi hi=>h6 i (dC _ hi),λH' hA K'=> ?_⟩
  unfold xA
  rw[h2,h4 H' (λi hi=>hA i (h6 i (cU _ hi)))]
  exact h7 H' hA K'
theorem CQ{τ:Ty}{H:Nat→Option br}: ∀{ps:List (Nat×bE)} {x:τ.den} {Ke:List Nat} {G8:jI} {K:τ.den→List Nat→jI→Option α},mg τ H ps x Ke G8 K=some r→
  ∃x' rd ups,K x' rd ups=some r∧(∀i∈Ke,i∈rd)∧ ∀H',Ag rd H H'→ ∀K':τ.den→List Nat→jI→Option α,mg τ H' ps x Ke G8 K'=K' x' rd ups
 |[],x,Ke,G8,K,h=>⟨x,Ke,G8,h,λ_ h=>h,λ_ _ _=>rfl⟩
 |p::ps,x,Ke,G8,K,h=>by
  unfold mg at h
  obtain⟨υ,z,h1,h2⟩:=y7 h
  obtain⟨y,Yt,CO,h3,h4⟩:=pQ h1
  obtain⟨z',h5,h6⟩:=Ae (m:=fun υ' _ k'=>cP υ υ' y k') (fun υ' y' k hk=>dK hk) h3
  obtain⟨x',rd,ups,h7,h8,h9⟩:=CQ h5
  refine⟨x',rd,ups,h7,λi hi=>h8 i (dC _ hi),λH' hA K'=> ?_⟩
  unfold mg
  rw[h2,h4 H' (λi hi=>hA i (h8 i (cU _ hi))),h6]
  exact h9 H' hA K'
theorem YO{H:Nat→Option br}{v:bE}{a:Ty}{k:a.den→List Nat→jI→Option α}(h:DJ v H a k=some r):
  ∃x rd ups,k x rd ups=some r∧ ∀H',Ag rd H H'→ ∀k':a.den→List Nat→jI→Option α,DJ v H' a k'=k' x rd ups:=by
 unfold DJ at h
 split at h
 ·split at h
  ·obtain⟨z,h1,h2⟩:=dK h
   refine⟨_,_,_,h1,λH' _ k'=> ?_⟩
   unfold DJ
   simp only
   rw[h2]
  ·cases h
 ·rename_i k0 rm
  obtain⟨y,rd,ups,h1,h2⟩:=pQ h
  refine⟨y,rd,ups,h1,λH' hA k'=> ?_⟩
  unfold DJ
  split
  ·exact(rm _ _ rfl HEq.rfl).elim
  ·exact h2 H' hA _
theorem OA{H:Nat→Option br}: ∀{τ:Ty} {vs:List bE} {k:τ.den→List Nat→jI→Option α},sx H τ vs k=some r→
  ∃x rd ups,k x rd ups=some r∧ ∀H',Ag rd H H'→ ∀k':τ.den→List Nat→jI→Option α,sx H' τ vs k'=k' x rd ups
 | .unit,[],k,h=>⟨(),[],[],h,λ_ _ _=>rfl⟩
 | .pair a b,v::vs,k,h=>by
  unfold sx at h
  obtain⟨y,rd,ups,h1,h2⟩:=YO h
  obtain⟨ys,yU,kP,h3,h4⟩:=OA h1
  refine⟨(y,ys),_,_,h3,λH' hA k'=> ?_⟩
  unfold sx
  rw[h2 H' (λi hi=>hA i (dC _ hi)),h4 H' (λi hi=>hA i (cU _ hi))]
 | .unit,_::_,_,h=>by simp[sx]at h
 | .pair _ _,[],_,h=>by simp[sx]at h
 | .int _,_,_,h| .bool,_,_,h| .str,_,_,h| .slice _,_,_,h| .arr _ _,_,_,h=>by simp[sx]at h
theorem G9: ∀{rj:List bE} {H:Nat→Option br} {K:List bE→List Nat→jI→Option α},xB H rj K=some r→
  ∃cs rd ups,K cs rd ups=some r∧ ∀H',Ag rd H H'→ ∀K':List bE→List Nat→jI→Option α,xB H' rj K'=K' cs rd ups
 |[],H,K,h=>⟨[],[],[],h,λ_ _ _=>rfl⟩
 |a::rj,H,K,h=>by
  unfold xB at h
  split at h
  ·rename_i id
   split at h
   ·rename_i τ x bk
    obtain⟨cs,rd,ups,h1,h2⟩:=G9 h
    refine⟨_,_,_,h1,λH' hA K'=> ?_⟩
    unfold xB
    simp only
    rw[hA id (by simp),bk]
    simp only
    rw[h2 (cq H' id (some .gone)) (λi hi=>by
     by_cases cm:i=id
     ·subst cm;rw[ay,ay]
     ·rw[az _ _ cm,az _ _ cm];exact hA i (a8 _ hi))]
   ·cases h
  ·rename_i rm
   obtain⟨cs,rd,ups,h1,h2⟩:=G9 h
   refine⟨_,_,_,h1,λH' hA K'=> ?_⟩
   unfold xB
   split
   ·exact absurd rfl (rm _)
   ·rw[h2 H' hA]
end VM
end
