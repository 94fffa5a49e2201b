/- A part of the proof of LotSlices of layer 23: a machine that reads a function of the program as an equation between values. -/
import Derived.Test.YthnjnpjmbabcaaaVm4
import Derived.Scope
set_option linter.all false
open List renaming getD→γ
section
namespace VM
open Go
variable{P:Program}{E:Env}{o:Oper}{a:Act}{w:World}{M:Nat→Prop}{ν:Nat→Value}{σ:St}{c:Ctx}{α:Type}{r:α}{next:Act→World→Prop}{Q:Exit→Act→World→Prop}
theorem y4{i:Nat}: ∀{ups:dh} {H:Nat→Option ar},i∈keys ups→ ∃u∈ups,u.1=i∧aN H ups i=u.2
 |[],_,h=>by simp[keys]at h
 |u::r,H,h=>by
  by_cases hk:i∈keys r
  ·obtain⟨v,h1,h2,h3⟩:=y4 (H:=au H u.1 u.2) hk
   exact⟨v,a7 _ h1,h2,h3⟩
  ·have hi:i=u.1:=by
    simp only[keys,bz,bc]at h hk
    exact h.resolve_right hk
   refine⟨u,ba,hi.symm,?_⟩
   show aN (au H u.1 u.2) r i=_
   rw[eW hk,hi,aa]
theorem ub: ∀{ups:dh} {H H':Nat→Option ar},(∀i,i∉keys ups→H i=H' i)→aN H ups=aN H' ups
 |[],H,H',h=>funext λi=>h i (by simp[keys])
 |u::r,H,H',h=>by
  refine ub (ups:=r) λi hi=> ?_
  by_cases hu:i=u.1
  ·subst hu;rw[aa,aa]
  ·rw[ae _ _ hu,ae _ _ hu]
   exact h i (by simp only[keys,bz,bc,not_or];exact⟨hu,hi⟩)
theorem ER.len{v:Value}{e:Ty}{l:List e.den}(h:ER w M v (.own e l)): ∃ad cap,v= .slice ad l.length cap:=by
 simp only[ER]at h
 rcases h with⟨rfl,ad,rfl⟩|⟨b,cs,t,cap,h1,_⟩
 ·exact⟨ad,0,rfl⟩
 ·exact⟨_,cap,h1⟩
theorem RR.iY: ∀{ms:List AM} {x:HP ms} {us ps:List Value},RR w M ms x us ps→ ∀b∈aF ms us ps,M b
 |[],_,_,_,_,b,hb=>by simp[aF]at hb
 |m::ms,x,us,ps,h,b,hb=>by
  simp only[RR]at h
  rcases h with⟨p,sR,h1,rfl,h2,h3⟩|⟨v,sB,h1,h2,rfl,h3,h4⟩
  ·simp only[aF,h1,dv,kq,ku,bg]at hb
   rcases hb with hb|hb
   ·cases m<;>simp[AM.dm]at h1<;>(simp only[bl,ca,A1]at hb h2;exact h2.jt trivial hb)
   ·exact RR.iY h3 b hb
  ·simp only[aF,h1,dq,c7,kq,ku,bg]at hb
   rcases hb with hb|hb
   ·cases m with
    |own e=>
     simp only[bl,ca,A1]at hb h3
     exact h3.jt trivial hb
    |v _=>simp[bl]at hb
    |io _=>simp[AM.dm]at h1
    |lo _=>simp[AM.dm]at h1
    |fn _ _=>simp[bl]at hb
    |dg _=>simp[bl]at hb
    |ptr τ=>
     simp only[bl,ca,A1]at hb h3
     exact h3.jt trivial hb
    |sp τ n e=>
     simp only[A1]at h3
     obtain⟨cs,dL,u,l,z,rfl,hq,hr,jW,hu,_⟩:=h3
     rw[(nQ hq hr jW).1,ca]at hb
     exact hu.jt trivial hb
   ·exact RR.iY h4 b hb
theorem wq: ∀{l:List gV} {im:List ax} {S:gV},yJ l im=some S→S∈l
 |[],_,_,h=>by simp[yJ]at h
 |T::l,im,S,h=>by
  unfold yJ at h
  cases hf:fits T.args im
  ·rw[hf]at h;exact a7 _ (wq h)
  ·rw[hf]at h;cases h;exact ba
theorem rI{H:Nat→Option ar}{id:Nat}: ∀{n:Nat},lq H id n=true→ ∀i,id≤i→i<id+n→H i=none
 |0,_,i,h1,h2=>ω
 |n+1,h,i,h1,h2=>by
  unfold lq at h
  rw[aV]at h
  by_cases hi:i=id+n
  ·subst hi
   have h:=h.1
   split at h
   ·assumption
   ·cases h
  ·exact rI h.2 i h1 ω
theorem Ep{H:Nat→Option ar}{im:List ax}{us:List Value}(h:dF w M H ν im us):VR w M H ν (yH im) (oq us):=by
 match im,us,h with
 |[],[],_=>simp[yH,VR]
 |[a],[u],h=>simp only[dF,cn]at h;simpa [yH,oq]using h
 |a::b::im,u::v::us,h=>
  simp only[yH,VR]
  exact⟨u::v::us,by simp[oq],h⟩
 |[],_::_,h=>simp[dF]at h
 |_::_,[],h=>simp[dF]at h
 |[_],_::_::_,h=>simp[dF]at h
 |_::_::_,[_],h=>simp[dF]at h
theorem y5(hΓ: ∀f S,S∈E.Γ f→eV P f S){H:Nat→Option ar}(hm:Mem c H w M ν){f id:Nat}{im:List ax}{vs:List Value}(hv:dF w M H ν im vs){K:cN α}(h:rn E f im id H K=some r)
  {R:Value→World→Prop} (hR: ∀v rd ups v' w' M' ν',K v rd ups=some r→Tr c H w M ν (aN H ups) w' M' ν'→VR w' M' (aN H ups) ν' v v'→R v' w'):
  yY P f vs.toArray w R:=by
 unfold rn at h
 split at h
 ·cases h
 rename_i S hS
 have MD:=hΓ f S (wq hS)
 obtain⟨x,rd,uo,uf,io,H2,Hq,M2,h1,hA,hK,Er,Hj,Bq⟩:=rH (dU.start hm) hv h
 clear h
 simp only[fF,fJ]at hA Hj Bq
 obtain⟨y,hy,h1⟩:=la.1 h1
 obtain⟨dA,h1⟩:=aG h1
 have dA:=rI dA
 have Q5:(λb=>(M2 b∧b∉bE S.args vs)∨b∈bE S.args vs)=M2:=by
  funext b
  refine propext ⟨λh=>h.elim (·.1) (hA.hM b),λh=> ?_⟩
  by_cases hb:b∈bE S.args vs
  ·exact .inr hb
  ·exact .inl ⟨h,hb⟩
 refine yY.mono (MD.call (λb=>M2 b∧b∉bE S.args vs) w vs x y (λb hb=>hA.mem.oy b hb.1) (by rw[Q5];exact Er) hA.nd (λb hb h=>h.2 hb) hy) ?_
 rintro e w' ⟨us,M',rfl,y6,hL,mH,Q3⟩
 have Q6: ∀b∈bE S.args vs,c.M0 b→M' b:=by
  intro b hb h0
  obtain⟨q,hq,Q7⟩:=hA.MB b hb h0
  exact y6.iY b (y6.tZ (ν q.1) (by rw[←Hj];exact jB hq) b Q7)
 have fY: ∀b∈aF S.res us (cv S.args vs),w.heap.size≤b∨b∈bE S.args vs:=by
  intro b hb
  rcases gq b w.heap.size with cy|Ke
  ·exact .inr ((hL.less b cy (y6.iY b hb)).resolve_left (Q3 b hb))
  ·exact .inl Ke
 have dV: ∀b∈aF S.res us (cv S.args vs),c.B≤b∨c.may b:=λb hb=>(fY b hb).elim (λh=> .inl (cX hm.size h)) (hA.y3 b)
 have tF: ∀b∈aF S.res us (cv S.args vs),c.M0 b→ ∃p∈cv S.args vs,bK p=some b:=by
  intro b hb h0
  rcases fY b hb with h'|h'
  ·have:=hm.gf.1 b h0;have:=hm.size;omega
  ·obtain⟨q,hq,Q7⟩:=hA.MB b h' h0
   exact⟨ν q.1,by rw[←Hj];exact jB hq,Q7⟩
 have Q8: ∀q∈io,∀e,q.2=AM.lo e→ ∀b,bK (ν q.1)=some b→ ¬c.M0 b:=by
  intro q hq e he b hb
  rcases(hA.Cy q hq).2.2 with⟨τ0,z0,om,_⟩|⟨e0,z0,om,Al⟩
  ·rw[he]at om;cases om
  ·exact hm.n7 q.1 e0 z0 b Al hb
 have key: ∀(Hx:Nat→Option ar) (Mx:Nat→Prop) (U:dh),Mem c Hx w Mx ν→bJ w M w Mx→(∀b,M2 b→Mx b)→(∀b∈bE S.args vs,∀i e,Hx i=some e→e.mut→bK (ν i)≠some b)→
   (∀q∈io,Hx q.1=some .gone)→(∀i,i∉keys io→aN H (uo++U) i=Hx i)→(∀u∈uo++U,u.2=some .gone∨ ∃e l,u.2=some (.gr e l)∧H u.1=some (.own e l))→(∀i∈keys (uo++U),i∈keys (uo++uf))→
   RR w' (λb=>M' b∨(Mx b∧b∉bE S.args vs)) S.res y us (cv S.args vs)→
   ∃ν',Tr c H w M ν (aN H (uo++U++(db S.res y id io).2.1)) w' (λb=>M' b∨(Mx b∧b∉bE S.args vs)) ν'∧
    dF w' (λb=>M' b∨(Mx b∧b∉bE S.args vs)) (aN H (uo++U++(db S.res y id io).2.1)) ν' (db S.res y id io).1 us:=by
  intro Hx Mx U Cv Vh CC gX y7 Kk uc hU M8
  obtain⟨eT,wu⟩:=Cv.call (λb hb=>CC b hb.1) (λb hb=>CC b (hA.hM b hb)) gX hA.y3 Q6 hL
  have hx: ∀i e,H i=some e→i∉keys io→ ∃e',Hx i=some e'∧e.eg e':=by
   intro i e hi vN
   rw[←Kk i vN]
   by_cases hk:i∈keys (uo++U)
   ·obtain⟨u,hu,Nf,Vi⟩:=y4 (H:=H) hk
    rw[Vi]
    rcases uc u hu with h'|⟨e1,l1,h',yc⟩
    ·exact⟨_,h',ar.dN e⟩
    ·rw[Nf,hi]at yc;cases yc;exact⟨_,h',rfl,rfl⟩
   ·rw[eW hk];exact⟨e,hi,.refl e⟩
  have IX: ∀i,id≤i→i<id+S.res.length→Hx i=none:=by
   intro i h3 h4
   have h0:=dA i h3 h4
   have vN:i∉keys io:=λhk=>by
    obtain⟨q,hq,sU⟩:=cm.1 hk
    obtain⟨_,_,hz⟩:=hA.Cy q hq
    exact hz.some (by rw[sU];exact h0)
   rw[←Kk i vN]
   rw[eW,h0]
   intro hk
   obtain⟨_,e,l,h'⟩:=hA.Mz i (hU i hk)
   rw[h0]at h';cases h'
  obtain⟨ν',r1,r2,r3,r4,r5,r6⟩:=ft (hs:=bE S.args vs) (sz:=w.heap.size) (id:=id) (used:=[]) eT M8 Hj.symm (by rw[←MD.Vc,←Bq]) hA.Nn y7 IX
   (λi e b hi Nr hb=> .inl ⟨Cv.oy b ((Cv.dd i e hi).jt Nr hb),λhh=>gX b hh i e hi Nr hb⟩) (by simpa using mH) fY dV tF Q8
  have Kl:aN H (uo++U++(db S.res y id io).2.1)=aN Hx (db S.res y id io).2.1:=by
   rw[bT]
   refine ub λi hi=> ?_
   by_cases vN:i∈keys io
   ·obtain⟨q,hq,sU⟩:=cm.1 vN
    rcases r6 q hq with⟨τ,z,_,hz⟩|⟨e,z,_,hz⟩
    ·rw[sU,eW hi,←sU,y7 q hq]at hz;cases hz
    ·rw[sU,eW hi,←sU,y7 q hq]at hz;cases hz
   ·exact Kk i vN
  refine⟨ν',⟨by rw[Kl];exact r1,Vh.trans wu,⟨λi e hi=> ?_,λi hi=> ?_⟩⟩,by rw[Kl];exact r2⟩
  ·rw[Kl]
   by_cases vN:i∈keys io
   ·obtain⟨q,hq,sU⟩:=cm.1 vN
    obtain⟨_,_,Ta⟩:=hA.Cy q hq
    rcases r6 q hq with⟨τ,z,GA,hz⟩|⟨e2,z,GA,hz⟩
    ·rcases Ta with⟨τ0,z0,om,Al⟩|⟨e0,z0,om,Al⟩
     ·rw[GA]at om;cases om
      rw[sU]at hz Al
      rw[hi]at Al;cases Al
      exact⟨_,hz,rfl⟩
     ·rw[GA]at om;cases om
    ·rcases Ta with⟨τ0,z0,om,Al⟩|⟨e0,z0,om,Al⟩
     ·rw[GA]at om;cases om
     ·rw[GA]at om;cases om
      rw[sU]at hz Al
      rw[hi]at Al;cases Al
      refine⟨_,hz,rfl,?_⟩
      obtain⟨a1,c1,k1⟩:=ER.len (hm.dd i _ hi)
      obtain⟨a2,c2,k2⟩:=ER.len (r1.dd i _ hz)
      rw[r3 i (by rw[←sU,y7 q hq];simp),k1]at k2
      simp only[Value.slice.injEq]at k2
      exact k2.2.1
   ·obtain⟨e',js,hl⟩:=hx i e hi vN
    have hr:i<id∨id+S.res.length≤i:=by
     rcases gq i id with h'|h'
     ·exact .inl h'
     ·rcases gq i (id+S.res.length)with yc|yc
      ·rw[dA i h' yc]at hi;cases hi
      ·exact .inr yc
    exact⟨e',by rw[r4 i vN hr];exact js,hl⟩
  ·refine r3 i ?_
   obtain⟨e,he⟩:=oT.1 hi
   by_cases vN:i∈keys io
   ·obtain⟨q,hq,sU⟩:=cm.1 vN
    rw[←sU,y7 q hq];simp
   ·obtain⟨e',js,_⟩:=hx i e he vN
    rw[js];simp
 cases hq:S.quiet
 ·
  rw[hq]at h1
  have Vj:(λb=>M' b∨(M2 b∧b∉bE S.args vs))=M':=by
   funext b
   exact propext ⟨λh=>h.elim (λh=>h) (hL.sub b),.inl⟩
  obtain⟨ν',cI,G8⟩:=key H2 M2 uf hA.mem hA.aK (λ_ h=>h) (λb hb i e hi Nr=>hA.none b hb i e (hA.fz.mut hi Nr) Nr) (λq hq=>(hA.Cy q hq).1) hA.ext
   (λu hu=>(bg.1 hu).elim (λh=> .inl (hA.Kf u h)) (λh=> .inr (hA.MA u h))) (λ_ h=>h) (by rw[Vj];exact y6)
  exact hR _ _ _ _ _ _ _ h1 cI (Ep G8)
 ·rw[hq]at h1
  have CC: ∀b,M2 b→M b:=λb hb=>hA.aK.less b (hA.mem.oy b hb) hb
  obtain⟨ν',cI,G8⟩:=key Hq M [] hA.yZ (.refl w M) CC hA.none (λq hq=>(hA.Cy q hq).2.1) (by rw[cV];exact hA.Ek)
   (λu hu=> .inl (hA.Kf u (by simpa using hu))) (λi hi=>by simp only[keys,cV,cU,bg]at hi ⊢;exact .inl hi) (y6.flat (λb h=> .inl h) (MD.quiet hq))
  exact hR _ _ _ _ _ _ _ h1 cI (Ep G8)
theorem Hm(hΓ: ∀f S,S∈E.Γ f→eV P f S)(hc:Core c σ a.tmps w M ν){args:Array Operand}{ts:Array TypeId}{g:Operand}(ho:o.op= .call {callee:= .value g,args,argTypes:=ts}){K:cN α}{f:Nat}{iQ:List ax}(hg:σ.ρ g= .yC f iQ){id:Nat}
  (h:rn E f (args.toList.map σ.ρ ++iQ) id σ.H K=some r) (hn:cr c σ a o w M ν K r next):o.wp P a w next Q:=by
 have Ns:=hc.ev g
 rw[hg]at Ns
 simp only[VR]at Ns
 obtain⟨cs,Ns,jW⟩:=Ns
 have CD: ∀{Nt:List ax} {Es:List Value},dF w M σ.H ν Nt Es→dF w M σ.H ν (Nt++iQ) (Es++cs):=by
  intro Nt
  induction Nt with
  |nil=>intro Es h1;cases Es with
   |nil=>exact jW
   |cons _ _=>simp[dF]at h1
  |cons x Nt ih=>intro Es h1;cases Es with
   |nil=>simp[dF]at h1
   |cons v Es=>simp only[dF]at h1;simp only[iH,dF];exact⟨h1.1,ih h1.2⟩
 have hd:=y5 (P:=P) hΓ hc.mem (CD (hc.PV args.toList)) h (R:=λv' w'=>next (a.put o.dst v') w') (λv rd ups v' w' M' ν' h1 h2 h3=>hn v rd ups v' w' M' ν' h1 h2 h3)
 have hex:(execOp a.eval o).run P w=(callFunc f (args.toList.map a.eval++cs).toArray).run P w:=by
  have:(args.toList.map a.eval++cs).toArray= #[]++args.map a.eval++cs.toArray:=by apply dt;simp
  rw[this]
  simp[execOp,ho,resolve,Ns,Deferred.ofValue,invoke]
 unfold Oper.wp
 rw[hex]
 exact hd o a next Q λv w' hv=>hv
structure g9(P:Program)(E:Env):Prop extends EnvTy P E where
 Nu: ∀f S,S∈E.Γ f→eV P f S
 mixed:P.follows .mixedOrders=true
 ec: ∀i L,E.mZ i=some L→VM.ec L=true
 Et: ∀i L,E.n5 i=some L→VM.ec L=true
theorem wv(hE:g9 P E)(hc:Core c σ a.tmps w M ν){K:cN α}(h:kj E o σ.ρ σ.H K=some r)(hn:cr c σ a o w M ν K r next):o.wp P a w next Q:=by
 have hT:=hE.toEnvTy
 unfold kj at h
 simp only at h
 split at h
 ·rename_i x ho;exact Bj hc (.inl ho) h hn
 ·rename_i x ho;exact Bj hc (.inr ho) h hn
 ·rename_i x y z ho
  split at h
  ·rename_i t hx;exact G1 hc ho hx h hn
  ·cases h
 ·rename_i t ho
  split at h
  ·rename_i τ ht;exact D3 hT hc ho ht h hn
  ·cases h
 ·rename_i t x ho
  split at h
  ·rename_i τ ht;exact JW hT hc ho h hn
  ·cases h
 ·rename_i t ps ho
  split at h
  ·rename_i n e ht;exact xj hT hc ho ht h hn
  ·rename_i τ Hd ht
   split at h
   ·rename_i n k hs;exact yW hT hc ho ht (λn e he=>Hd n e he) hs h hn
   ·exact sy hT hc ho ht (λn e he=>Hd n e he) h hn
  ·cases h
 ·rename_i t n ps ho
  split at h
  ·rename_i e ht;exact vK hT hc ho ht h hn
  ·cases h
 ·rename_i t x ho
  split at h
  ·rename_i τ ht;exact D6 hT hc ho ht h hn
  ·cases h
 ·rename_i t x y ho
  split at h
  ·rename_i τ ht;exact Cq hT hc ho ht h hn
  ·cases h
 ·rename_i x ho
  split at h
  ·rename_i id p hx;exact sw hc ho hx h hn
  ·rename_i τ z hx;exact qM hc ho hx h hn
  ·cases h
 ·rename_i b t x y t' ho;exact D9 hT hc ho h hn
 ·rename_i u t x ho;exact Ha hc ho h hn
 ·rename_i s d x ho
  split at h
  ·rename_i τ k hs hd;exact Az hT hc ho hs hd h hn
  ·cases h
 ·rename_i f first iQ ho;exact yS hc ho h hn
 ·rename_i t x y ho
  split at h
  ·rename_i e ht;exact xh hT hc ho ht h hn
  ·cases h
 ·rename_i t x lo hi mx ho
  split at h
  ·rename_i τ ht;exact Cw hT hc ho ht h hn
  ·cases h
 ·rename_i t x n ho
  split at h
  ·rename_i τ ht
   split at h
   ·rename_i id p hx;exact qL hT hc ho ht hx h hn
   ·rename_i υ z hx;exact pN hT hc ho ht hx h hn
   ·cases h
  ·cases h
 ·rename_i t x n ho
  split at h
  ·rename_i τ ht
   split at h
   ·rename_i υ z hx;exact D8 hT hc ho ht hx h hn
   ·cases h
  ·cases h
 ·rename_i t x i ho
  split at h
  ·rename_i τ ht;exact xf hT hc ho ht h hn
  ·cases h
 ·rename_i t x i ho
  split at h
  ·rename_i τ ht;exact Eb hT hc ho ht h hn
  ·cases h
 ·rename_i x i ho
  split at h
  ·rename_i vs hx
   split at h
   ·rename_i v hv;exact Ay hc ho hx hv h hn
   ·cases h
  ·cases h
 ·rename_i cl ho
  obtain⟨callee,args,ts⟩:=cl
  simp only at h
  split at h
  ·split at h
   ·rename_i x τ ha ht;exact J6 hT hc ho ha ht h hn
   ·cases h
  ·split at h
   ·rename_i x y t t' ha ht
    split at h
    ·rename_i e Km;exact Cx hT hc ho ha ht Km h hn
    ·cases h
   ·cases h
  ·split at h
   ·rename_i x t ha Kb
    split at h
    ·rename_i e Km;exact Ei hT hc ho ha Kb Km h hn
    ·cases h
   ·cases h
  ·split at h
   ·rename_i x xs ha;exact IP hc true ho ha h hn
   ·cases h
  ·split at h
   ·rename_i x xs ha;exact IP hc false ho ha h hn
   ·cases h
  ·rename_i g
   split at h
   ·rename_i f iQ hg;exact Hm hE.Nu hc ho hg h hn
   ·cases h
  ·cases h
 ·cases h
end VM
end
section
namespace VM
open Go
variable{P:Program}{E:Env}{o:Oper}{a:Act}{w:World}{M:Nat→Prop}{ν:Nat→Value}{σ:St}{c d:Ctx}{α:Type}{r:α}{next:Act→World→Prop}{Q:Exit→Act→World→Prop}
structure Ctx.le(c d:Ctx):Prop where
 B:c.B≤d.B
 M0: ∀b,c.M0 b→d.M0 b
 fr: ∀b,b<c.B→ ¬c.may b→d.w0.heap[b]? =c.w0.heap[b]? ∧ ¬d.may b
 may: ∀b,d.B≤b∨d.may b→c.B≤b∨c.may b
 gf:(∀b,c.M0 b→b<c.B)∧ ∀b,c.may b→ ¬c.M0 b
 os:d.w0.os=c.w0.os
 tape:d.w0.tape=c.w0.tape
 output:d.w0.output=c.w0.output
theorem Ctx.le.refl(h:(∀b,c.M0 b→b<c.B)∧ ∀b,c.may b→ ¬c.M0 b):c.le c:=⟨aB _,λ_ h=>h,λ_ _ h=>⟨rfl,h⟩,λ_ h=>h,h,rfl,rfl,rfl⟩
theorem Mem.up{H:Nat→Option ar}(h:Mem d H w M ν)(k:c.le d):Mem c H w M ν:=
 ⟨h.dd,h.ob,λi e b hi hm hb=>k.may b (h.new i e b hi hm hb),λi e l b hi hb h0=>h.n7 i e l b hi hb (k.M0 b h0),h.cQ,λb hb=>h.sub b (k.M0 b hb),h.oy,
  λb hb hm=>(h.frame b (fe hb k.B) (k.fr b hb hm).2).trans (k.fr b hb hm).1,cX k.B h.size,k.gf,h.os.trans k.os,h.tape.trans k.tape,h.output.trans k.output⟩
def Ctx.at(c:Ctx)(w:World)(X:Nat→Prop):Ctx:={B:=w.heap.size,w0:=w,M0:=X,may:=λb=>b<w.heap.size∧ ¬X b∧(c.B≤b∨c.may b),arg:=c.arg}
theorem Mem.xl{H:Nat→Option ar}(k:c.le d)(h:Mem d H w M ν){w':World}{M':Nat→Prop}(kp:bJ w M w' M'){X:Nat→Prop}(hX: ∀b,X b→M' b)(hl: ∀b,M' b→b<w'.heap.size)(h0: ∀b,c.M0 b→X b)
  (hb: ∀i e b,H i=some e→e.mut→bK (ν i)=some b→w'.heap[b]? =w.heap[b]? ∧M' b∧ ¬X b) (IX: ∀b,b<c.B→ ¬c.may b→w'.heap[b]? =w.heap[b]?)
  (ho:w'.os=w.os) (ht:w'.tape=w.tape) (hu:w'.output=w.output):Mem (c.at w' X) H w' M' ν∧c.le (c.at w' X):=by
 have ud:=h.up k
 refine⟨⟨λi e he=>(h.dd i e he).aK kp λhm b bA=>⟨(hb i e b he hm bA).1,(hb i e b he hm bA).2.1⟩,h.ob,λi e b hi hm bA=> .inr ⟨hl b (hb i e b hi hm bA).2.1,(hb i e b hi hm bA).2.2,ud.new i e b hi hm bA⟩,
  λi e l b hi bA=>(hb i _ b hi trivial bA).2.2,fM h (λ_ _=>rfl) (λ_ h=>h) (λi τ x p j hi=> .inl ⟨hi,λb bA=>(hb i _ b hi trivial (by rw[bA];rfl)).1⟩),hX,hl,λ_ _ _=>rfl,aB _,
  ⟨λb bA=>hl b (hX b bA),λb hm=>hm.2.1⟩,rfl,rfl,rfl⟩,⟨cX ud.size kp.size,h0,λb bA hm=>⟨(IX b bA hm).trans (ud.frame b bA hm),λhc=>hc.2.2.elim (λh'=>ω) hm⟩,
  λb bA=>bA.elim (λh'=> .inl (cX (cX ud.size kp.size) h')) (λh'=>h'.2.2),k.gf,ho.trans ud.os,ht.trans ud.tape,hu.trans ud.output⟩⟩
theorem Mem.still{H:Nat→Option ar}(h:Mem d H w M ν){b:Nat}(hb:d.M0 b):w.heap[b]? =d.w0.heap[b]? :=h.frame b (h.gf.1 b hb) λhm=>h.gf.2 b hm hb
theorem Mem.apart{H:Nat→Option ar}(h:Mem d H w M ν){i:Nat}{e:ar}{b:Nat}(hi:H i=some e)(hm:e.mut)(hb:bK (ν i)=some b): ¬d.M0 b:=λh0=>
 (h.new i e b hi hm hb).elim (λh'=>by have:=h.gf.1 b h0;omega) (λh'=>h.gf.2 b h' h0)
theorem Mem.ghost{H:Nat→Option ar}(h:Mem d H w M ν){id:Nat}{e:ar}(hm: ¬e.mut)(tG: ∀v,ER w M v e){v:Value}(hv:H id=none∨v=ν id):Mem d (au H id (some e)) w M (updν ν id v):=by
 have hν: ∀i,i≠id→updν ν id v i=ν i:=λi hi=>by simp[updν,hi]
 refine⟨λi e1 hi=> ?_,λi j e1 e2 b gH hi ew hj iC=> ?_,λi e1 b hi ew=> ?_,λi e1 l1 b hi=> ?_,fM h (λi hi=> ?_) ly (λi τ x p j hi=> ?_),h.sub,h.oy,h.frame,h.size,h.gf,h.os,h.tape,h.output⟩
 ·by_cases ay:i=id
  ·subst ay;rw[aa]at hi;cases hi;exact tG _
  ·rw[ae _ _ ay]at hi;rw[hν i ay];exact h.dd i e1 hi
 ·by_cases ay:i=id
  ·subst ay;rw[aa]at hi;cases hi;exact absurd ew hm
  ·by_cases rr:j=id
   ·subst rr;rw[aa]at hj;cases hj;exact absurd iC hm
   ·rw[ae _ _ ay]at hi;rw[ae _ _ rr]at hj;rw[hν i ay,hν j rr];exact h.ob i j e1 e2 b gH hi ew hj iC
 ·by_cases ay:i=id
  ·subst ay;rw[aa]at hi;cases hi;exact absurd ew hm
  ·rw[ae _ _ ay]at hi;rw[hν i ay];exact h.new i e1 b hi ew
 ·by_cases ay:i=id
  ·subst ay;rw[aa]at hi;cases hi;exact absurd trivial hm
  ·rw[ae _ _ ay]at hi;rw[hν i ay];exact h.n7 i e1 l1 b hi
 ·by_cases ay:i=id
  ·subst ay;rcases hv with hv|hv
   ·exact absurd hv hi
   ·simp[updν,hv]
  ·exact hν i ay
 ·by_cases ay:i=id
  ·subst ay;rw[aa]at hi;cases hi;exact absurd trivial hm
  ·rw[ae _ _ ay]at hi;exact .inl ⟨hi,λ_ _=>rfl⟩
theorem ER.flat{w':World}{M':Nat→Prop}{e:Ty}{l:List e.den}{v:Value}(hf:e.flat=true)(h:ER w M v (.own e l))(hb: ∀b,bK v=some b→w'.heap[b]? =w.heap[b]? ∧M' b):ER w' M' v (.own e l):=by
 simp only[ER]at h ⊢
 rcases h with h|⟨b,cs,t,cap,rfl,hg,hM,hc,hl,sO,hs,hr⟩
 ·exact .inl h
 ·obtain⟨h1,h2⟩:=hb b (by simp[bK];omega)
  exact .inr ⟨b,cs,t,cap,rfl,h1.trans hg,h2,hc,hl,sO,hs,λi hi=>(hr i hi).flat hf⟩
def CE(c d:Ctx)(b:Nat):Prop:=d.M0 b∧ ¬c.M0 b∧(c.B≤b∨c.may b)
def Nv(c d:Ctx)(e:Ty)(l:List (List e.den))(o:Option Nat)(v:Value):Prop:=
 e.flat=true∧ ∃(b:Nat) (cs:Array Value) (t:TypeId) (cap:Nat),v= .slice (some ⟨b,0,none⟩) l.length cap∧d.w0.heap[b]? =some (.cells cs t (0,0))∧CE c d b∧l.length≤cap∧cs.size=cap∧
  (∀k (_:k<l.length),o≠some k→ ∃u,cs[k]? =some u∧ER d.w0 d.M0 u (.own e (l.getD k []))∧ ∀b',bK u=some b'→b'≠b∧CE c d b')∧
  ∀k k' u u' b',k≠k'→k<l.length→k'<l.length→o≠some k→o≠some k'→cs[k]? =some u→cs[k']? =some u'→bK u=some b'→bK u'≠some b'
structure ek(c d:Ctx)(H:Nat→Option ar)(ν:Nat→Value):Prop where
 tok:H 7=none→ ∀i e l o,H i≠some (.cq e l o)
 one: ∀i j e l o e' l' o',H i=some (.cq e l o)→H j=some (.cq e' l' o')→i=j
 mem: ∀i e l o,H i=some (.cq e l o)→Nv c d e l o (ν i)
theorem ek.step{H H':Nat→Option ar}{ν':Nat→Value}(h:ek c d H ν)(gX: ∀i e l o,H' i=some (.cq e l o)→H i=some (.cq e l o))(g:dM H ν H' ν'):ek c d H' ν':=by
 refine⟨λh7 i e l o hi=> ?_,λi j e l o e' l' o' hi hj=>h.one i j _ _ _ _ _ _ (gX _ _ _ _ hi) (gX _ _ _ _ hj),λi e l o hi=> ?_⟩
 ·refine h.tok ?_ i e l o (gX _ _ _ _ hi)
  cases h0:H 7 with
  |none=>rfl
  |some e0=>obtain⟨e1,h1,_⟩:=g.dd 7 e0 h0;rw[h7]at h1;cases h1
 ·have:=gX _ _ _ _ hi
  rw[g.head i (by rw[this];simp)]
  exact h.mem i e l o this
theorem ue: ∀{ups:dh},DX ups=true→ ∀{H:Nat→Option ar} (i:Nat) (e:Ty) (l:List (List e.den)) (o:Option Nat),aN H ups i=some (.cq e l o)→H i=some (.cq e l o)
 |[],_,_,_,_,_,_,h=>h
 |u::r,hn,H,i,e,l,o,h=>by
  unfold DX at hn
  rw[pn,aV]at hn
  have:=ue (ups:=r) hn.2 i e l o h
  by_cases hi:i=u.1
  ·subst hi
   rw[aa]at this
   rw[this]at hn
   simp at hn
  ·rwa [ae _ _ hi]at this
def Hn(c:Ctx)(E:Env)(σ:St)(a:Act)(o:Oper)(w:World)(M:Nat→Prop)(ν:Nat→Value)(v:ax)(ups:dh)(next:Act→World→Prop):Prop:=
 ∀v' w' d' M' ν',c.le d'→Mem d' (aN σ.H ups) w' M' ν'→(∀u x,VR w M σ.H ν u x→VR w' M' (aN σ.H ups) ν' u x)→ek c d' (aN σ.H ups) ν'→VR w' M' (aN σ.H ups) ν' v v'→next (a.put o.dst v') w'
theorem dM.cq{H:Nat→Option ar}{id:Nat}{e:Ty}{l l':List (List e.den)}{o o':Option Nat}(hid:H id=some (.cq e l o))(hl:l.length=l'.length):dM H ν (au H id (some (.cq e l' o'))) ν:=by
 refine⟨λi e1 hi=> ?_,λ_ _=>rfl⟩
 by_cases ay:i=id
 ·subst ay;rw[hid]at hi;cases hi;exact⟨_,aa _ _ _,hl⟩
 ·exact⟨e1,by rw[ae _ _ ay];exact hi,.refl e1⟩
theorem dM.put{H:Nat→Option ar}{id:Nat}(hid:H id=none)(e:ar)(v:Value):dM H ν (au H id (some e)) (updν ν id v):=by
 refine⟨λi e1 hi=> ?_,λi hi=> ?_⟩
 ·have ay:i≠id:=λe=>by rw[e,hid]at hi;cases hi
  exact⟨e1,by rw[ae _ _ ay];exact hi,.refl e1⟩
 ·have ay:i≠id:=λe=>hi (e▸hid)
  simp[updν,ay]
theorem dM.gone{H:Nat→Option ar}(id:Nat):dM H ν (au H id (some .gone)) ν:=by
 refine⟨λi e1 hi=> ?_,λ_ _=>rfl⟩
 by_cases ay:i=id
 ·subst ay;exact⟨_,aa _ _ _,by cases e1<;>simp[ar.eg]⟩
 ·exact⟨e1,by rw[ae _ _ ay];exact hi,.refl e1⟩
theorem updν_self(id:Nat):updν ν id (ν id)=ν:=by funext i;unfold updν;split<;>simp_all
theorem ek.row{H:Nat→Option ar}(h:ek c d H ν)(hm:Mem d H w M ν){id:Nat}{e:Ty}{l:List (List e.den)}{o:Option Nat}(hid:H id=some (.cq e l o)):
  e.flat=true∧ ∃(b:Nat) (cs:Array Value) (t:TypeId) (cap:Nat),ν id= .slice (some ⟨b,0,none⟩) l.length cap∧w.heap[b]? =some (.cells cs t (0,0))∧CE c d b∧l.length≤cap∧cs.size=cap∧
  (∀k (_:k<l.length),o≠some k→ ∃u,cs[k]? =some u∧ER w M u (.own e (l.getD k []))∧ ∀b',bK u=some b'→b'≠b∧CE c d b')∧
  ∀k k' u u' b',k≠k'→k<l.length→k'<l.length→o≠some k→o≠some k'→cs[k]? =some u→cs[k']? =some u'→bK u=some b'→bK u'≠some b':=by
 obtain⟨hf,b,cs,t,cap,h1,h2,h3,h4,h5,h6,h7⟩:=h.mem id e l o hid
 refine⟨hf,b,cs,t,cap,h1,(hm.still h3.1).trans h2,h3,h4,h5,λk hk ho=> ?_,h7⟩
 obtain⟨u,hu,tG,hb⟩:=h6 k hk ho
 exact⟨u,hu,tG.flat hf λb' bA=>⟨hm.still (hb b' bA).2.1,hm.sub b' (hb b' bA).2.1⟩,hb⟩
theorem Eu{cs:Array Value}{k:Nat}{u:Value}(h:cs[k]? =some u):cs.toList[k]? =some u:=by rw[cM];exact h
theorem ek.out{H:Nat→Option ar}(h:ek c d H ν)(hle:c.le d)(hm:Mem d H w M ν){id:Nat}{e:Ty}{l:List (List e.den)}(hid:H id=some (.cq e l none)){n:Nat}(hn:n<l.length){x:Nat}(hx:H x=none)
  {b:Nat} {cp:Nat} {m:Nat} (hb:ν id= .slice (some ⟨b,0,none⟩) m cp):
  ∃u d',w.cell? ⟨b,n,none⟩=some u∧c.le d'∧Mem d' (au (au H x (some (.own e (l.getD n [])))) id (some (.cq e l (some n)))) w M (updν ν x u)∧ek c d' (au (au H x (some (.own e (l.getD n [])))) id (some (.cq e l (some n)))) (updν ν x u):=by
 obtain⟨hf,b',cs,t,cap,h1,h2,h3,h4,h5,h6,h7⟩:=h.row hm hid
 rw[hb]at h1;cases h1
 obtain⟨u,hu,tG,IY⟩:=h6 n hn (by simp)
 have dT:x≠id:=λe=>by rw[e,hid]at hx;cases hx
 have hk:bJ w M w M:=⟨aB _,λ_ _ _=>rfl,λ_ _ h=>h⟩
 obtain⟨ew,nq⟩:=Mem.xl (X:=λb=>d.M0 b∧bK u≠some b) hle hm hk (λb hb=>hm.sub b hb.1) hm.oy (λb hb=>⟨hle.M0 b hb,λsQ=>(IY b sQ).2.2.1 hb⟩)
  (λi e1 b1 hi iu bL=>⟨rfl,(hm.dd i e1 hi).jt iu bL,λhX=>hm.apart hi iu bL hX.1⟩) (λ_ _ _=>rfl) rfl rfl rfl
 have iC:=ew.mo (id:=x) (v:=u) (e:= .own e (l.getD n [])) (λe' js=>by rw[hx]at js;cases js) tG (λb1 bL i e1 hi iu lz=>hm.apart hi iu lz (IY b1 bL).2.1)
  (λb1 bL=> .inr ⟨hm.oy b1 (hm.sub b1 (IY b1 bL).2.1),λhX=>hX.2 bL,(IY b1 bL).2.2.2⟩) (λb1 _ _ _ bL hX=>hX.2 bL) (.inl hx) (λ_ _ _ _ h=>by cases h)
 have hνid:updν ν x u id=ν id:=by simp[updν,cf dT]
 have Nw:=iC.ghost (id:=id) (e:= .cq e l (some n)) (v:=ν id) (by simp[ar.mut]) (λ_=>by simp[ER]) (.inr hνid.symm)
 rw[show updν (updν ν x u) id (ν id)=updν ν x u from by rw[←hνid];exact updν_self id]at Nw
 refine⟨u,_,by rw[cell_of h2];exact hu,nq,Nw,⟨λvy i e1 l1 o1 hi=> ?_,λi j e1 l1 o1 e2 l2 o2 hi hj=> ?_,λi e1 l1 o1 hi=> ?_⟩⟩
 ·have Ko:H 7=none:=by
   by_cases h8:7=id
   ·rw[←h8,aa]at vy;cases vy
   ·rw[ae _ _ h8]at vy
    by_cases h9:7=x
    ·rw[←h9,aa]at vy;cases vy
    ·rwa [ae _ _ h9]at vy
  exact h.tok Ko id _ _ _ hid
 all_goals
  have key: ∀i e1 l1 o1,au (au H x (some (.own e (l.getD n [])))) id (some (.cq e l (some n))) i=some (.cq e1 l1 o1)→i=id:=λi e1 l1 o1 hi=>by
   by_cases ay:i=id
   ·exact ay
   ·rw[ae _ _ ay]at hi
    by_cases IZ:i=x
    ·subst IZ;rw[aa]at hi;cases hi
    ·rw[ae _ _ IZ]at hi;exact h.one i id _ _ _ _ _ _ hi hid
 ·rw[key _ _ _ _ hi,key _ _ _ _ hj]
 ·have:=key _ _ _ _ hi
  subst this
  rw[aa]at hi;cases hi
  refine⟨hf,b,cs,t,cp,by rw[hνid];exact hb,h2,⟨⟨h3.1,λsQ=>(IY b sQ).1 rfl⟩,h3.2⟩,h4,h5,λk kH ho=> ?_,λk k' u1 u2 b1 vt qA sT _ _=>h7 k k' u1 u2 b1 vt qA sT (by simp) (by simp)⟩
  obtain⟨u1,AD,Kp,vO⟩:=h6 k kH (by simp)
  have y8:n≠k:=λe=>ho (by rw[e])
  have ME: ∀b1,bK u1=some b1→bK u≠some b1:=λb1 bL lz=>h7 n k u u1 b1 y8 hn kH (by simp) (by simp) hu AD lz bL
  exact⟨u1,AD,Kp.flat hf λb1 bL=>⟨rfl,(vO b1 bL).2.1,ME b1 bL⟩,λb1 bL=>⟨(vO b1 bL).1,⟨(vO b1 bL).2.1,ME b1 bL⟩,(vO b1 bL).2.2⟩⟩
theorem ek.Q9{H:Nat→Option ar}(h:ek c d H ν)(hle:c.le d)(hm:Mem d H w M ν){id j:Nat}{e:Ty}{l:List (List e.den)}{n:Nat}(hid:H id=some (.cq e l (some n)))(hn:n<l.length){l':List e.den}(hj:H j=some (.own e l'))
  {b:Nat} {cs:Array Value} {t:TypeId} {cp:Nat} {m:Nat} (hb:ν id= .slice (some ⟨b,0,none⟩) m cp) (hg:w.heap[b]? =some (.cells cs t (0,0))):
  n<cs.size∧bJ w M (w.setRow b (bG cs.toList n [ν j]).toArray) M∧ ∃d',c.le d'∧Mem d' (au (au H j (some .gone)) id (some (.cq e (l.set n l') none))) (w.setRow b (bG cs.toList n [ν j]).toArray) M ν∧
   ek c d' (au (au H j (some .gone)) id (some (.cq e (l.set n l') none))) ν:=by
 obtain⟨hf,b',cs',t',cap,h1,h2,h3,h4,h5,h6,h7⟩:=h.row hm hid
 rw[hb]at h1;cases h1
 rw[hg]at h2;cases h2
 have Nx:n<cs.size:=ω
 have dT:j≠id:=λe=>by rw[e,hid]at hj;cases hj
 have hM:M b:=hm.sub b h3.1
 have hk:bJ w M (w.setRow b (bG cs.toList n [ν j]).toArray) M:=
  ⟨by rw[size_setRow];exact aB _,λb' _ dz=>setRow_other w b b' _ (λe=>dz (e▸hM)),λ_ _ h=>h⟩
 have Am:=(Tr.gone hm j).mem
 have IJ: ∀i e1 b1,au H j (some .gone) i=some e1→e1.mut→bK (ν i)=some b1→b1≠b∧bK (ν j)≠some b1∧ ¬d.M0 b1:=λi e1 b1 hi iu bL=>by
  have h0:=Am.apart hi iu bL
  refine⟨λe=>h0 (e▸h3.1),λEv=> ?_,h0⟩
  by_cases gH:i=j
  ·subst gH;rw[aa]at hi;cases hi;simp[ar.mut]at iu
  ·rw[ae _ _ gH]at hi;exact hm.ob i j e1 _ b1 gH hi iu hj trivial bL Ev
 have II: ∀b1,bK (ν j)=some b1→b1≠b∧ ¬d.M0 b1∧M b1:=λb1 bL=>⟨λe=>hm.apart hj trivial bL (e▸h3.1),hm.apart hj trivial bL,(hm.dd j _ hj).jt trivial bL⟩
 obtain⟨ew,nq⟩:=Mem.xl (w':=w.setRow b (bG cs.toList n [ν j]).toArray) (X:=λb=>d.M0 b∨bK (ν j)=some b) hle Am hk (λb1 bL=>bL.elim (hm.sub b1) (λh'=>(II b1 h').2.2)) (λb1 bL=>by rw[size_setRow];exact hm.oy b1 bL) (λb1 bL=> .inl (hle.M0 b1 bL))
  (λi e1 b1 hi iu bL=>⟨setRow_other w b b1 _ (IJ i e1 b1 hi iu bL).1,(Am.dd i e1 hi).jt iu bL,λhX=>hX.elim (IJ i e1 b1 hi iu bL).2.2 (IJ i e1 b1 hi iu bL).2.1⟩)
  (λb1 bL ew=>setRow_other w b b1 _ (λe=>h3.2.2.elim (λh'=>ω) (λh'=>ew (e▸h')))) rfl rfl rfl
 have iC:=ew.ghost (id:=id) (e:= .cq e (l.set n l') none) (v:=ν id) (by simp[ar.mut]) (λ_=>by simp[ER]) (.inr rfl)
 rw[updν_self]at iC
 refine⟨Nx,hk,_,nq,iC,⟨λvy i e1 l1 o1 hi=> ?_,λi i' e1 l1 o1 e2 l2 o2 hi kk=> ?_,λi e1 l1 o1 hi=> ?_⟩⟩
 ·have Ko:H 7=none:=by
   by_cases h8:7=id
   ·rw[←h8,aa]at vy;cases vy
   ·rw[ae _ _ h8]at vy
    by_cases h9:7=j
    ·rw[←h9,aa]at vy;cases vy
    ·rwa [ae _ _ h9]at vy
  exact h.tok Ko id _ _ _ hid
 all_goals
  have key: ∀i e1 l1 o1,au (au H j (some .gone)) id (some (.cq e (l.set n l') none)) i=some (.cq e1 l1 o1)→i=id:=λi e1 l1 o1 hi=>by
   by_cases ay:i=id
   ·exact ay
   ·rw[ae _ _ ay]at hi
    by_cases IZ:i=j
    ·subst IZ;rw[aa]at hi;cases hi
    ·rw[ae _ _ IZ]at hi;exact h.one i id _ _ _ _ _ _ hi hid
 ·rw[key _ _ _ _ hi,key _ _ _ _ kk]
 ·have:=key _ _ _ _ hi
  subst this
  rw[aa]at hi;cases hi
  have kF: ∀k,(bG cs.toList n [ν j]).toArray[k]? =if k=n then some (ν j)else cs[k]? :=λk=>by
   rw[mK,nj (by simp;omega)]
   by_cases y8:k=n
   ·subst y8;rw[af (by simp),af rfl];simp
   ·rw[ag (by simp;omega),ag y8,cM]
  have hold: ∀k,k<l.length→k≠n→ ∃u,cs[k]? =some u∧ER w M u (.own e (l.getD k []))∧ ∀b',bK u=some b'→b'≠b∧CE c d b':=λk hk y8=>h6 k hk (by simp;omega)
  refine⟨hf,b,_,t,cp,by rw[aY];exact hb,setRow_heap w b cs _ t _ hg,⟨.inl h3.1,h3.2⟩,by rw[aY];exact h4,by rw[dr,bD (by simp;omega),az];exact h5,λk kH _=> ?_,λk k' u1 u2 b1 vt qA sT _ _ AD He bL lz=> ?_⟩
  ·rw[aY]at kH
   rw[kF]
   by_cases y8:k=n
   ·subst y8
    refine⟨ν j,af rfl,?_,λb1 bL=>⟨(II b1 bL).1,.inr bL,λh0=>(II b1 bL).2.1 (hle.M0 b1 h0),(hm.up hle).new j _ b1 hj trivial bL⟩⟩
    have:(l.set k l').getD k []=l':=by simp[γ,hn]
    rw[this]
    exact(hm.dd j _ hj).flat hf λb1 bL=>⟨setRow_other w b b1 _ (II b1 bL).1,.inr bL⟩
   ·rw[ag y8]
    obtain⟨u1,AD,Kp,vO⟩:=hold k kH y8
    have:(l.set n l').getD k []=l.getD k []:=by simp[γ,List.getElem?_set_ne (cf y8)]
    rw[this]
    exact⟨u1,AD,Kp.flat hf λb1 bL=>⟨setRow_other w b b1 _ (vO b1 bL).1,.inl (vO b1 bL).2.1⟩,λb1 bL=>⟨(vO b1 bL).1,.inl (vO b1 bL).2.1,(vO b1 bL).2.2⟩⟩
  ·rw[aY]at qA sT
   rw[kF]at AD He
   by_cases y8:k=n
   ·rw[af y8]at AD;cases AD
    have Ew:k'≠n:=λe=>vt (by rw[y8,e])
    rw[ag Ew]at He
    obtain⟨u3,Ny,_,Kq⟩:=hold k' sT Ew
    rw[He]at Ny;cases Ny
    exact(II b1 bL).2.1 (Kq b1 lz).2.1
   ·rw[ag y8]at AD
    obtain⟨u3,Ny,_,Kq⟩:=hold k qA y8
    rw[AD]at Ny;cases Ny
    by_cases Ew:k'=n
    ·rw[af Ew]at He;cases He
     exact(II b1 lz).2.1 (Kq b1 bL).2.1
    ·rw[ag Ew]at He
     exact h7 k k' u1 u2 b1 vt qA sT (by simp;omega) (by simp;omega) AD He bL lz
theorem ek.fix{H:Nat→Option ar}(h:ek c d H ν)(hle:c.le d)(hm:Mem d H w M ν){id:Nat}{e:Ty}{l:List (List e.den)}(hid:H id=some (.cq e l none)):
  ∃d' M',c.le d'∧bJ w M w M'∧Mem d' (au H id (some .gone)) w M' ν∧ek c d' (au H id (some .gone)) ν∧V w M' (.slice (.slice e)) (ν id) l:=by
 obtain⟨hf,b,cs,t,cap,h1,h2,h3,h4,h5,h6,h7⟩:=h.row hm hid
 have Tb: ∀b1,(b1=b∨ ∃k u,k<l.length∧cs[k]? =some u∧bK u=some b1)→CE c d b1:=λb1 bL=>by
  rcases bL with rfl|⟨k,u,hk,hu,IY⟩
  ·exact h3
  ·obtain⟨u',sQ,_,bA⟩:=h6 k hk (by simp)
   rw[hu]at sQ;cases sQ
   exact(bA b1 IY).2
 have hk:bJ w M w (λb1=>M b1∧ ¬(b1=b∨ ∃k u,k<l.length∧cs[k]? =some u∧bK u=some b1)):=⟨aB _,λ_ _ _=>rfl,λ_ _ h=>h.1⟩
 have Am:=(Tr.gone hm id).mem
 obtain⟨ew,nq⟩:=Mem.xl (X:=λb1=>d.M0 b1∧ ¬(b1=b∨ ∃k u,k<l.length∧cs[k]? =some u∧bK u=some b1)) hle Am hk (λb1 bL=>⟨hm.sub b1 bL.1,bL.2⟩) (λb1 bL=>hm.oy b1 bL.1) (λb1 bL=>⟨hle.M0 b1 bL,λhx=>(Tb b1 hx).2.1 bL⟩)
  (λi e1 b1 hi iu bL=>⟨rfl,⟨(Am.dd i e1 hi).jt iu bL,λhx=>Am.apart hi iu bL (Tb b1 hx).1⟩,λhX=>Am.apart hi iu bL hX.1⟩) (λ_ _ _=>rfl) rfl rfl rfl
 refine⟨_,_,nq,hk,ew,⟨λvy i e1 l1 o1 hi=> ?_,λi j e1 l1 o1 e2 l2 o2 hi hj=> ?_,λi e1 l1 o1 hi=> ?_⟩,?_⟩
 ·by_cases ay:i=id
  ·subst ay;rw[aa]at hi;cases hi
  ·rw[ae _ _ ay]at hi
   exact ay (h.one i id _ _ _ _ _ _ hi hid)
 ·by_cases ay:i=id
  ·subst ay;rw[aa]at hi;cases hi
  ·rw[ae _ _ ay]at hi
   exact absurd (h.one i id _ _ _ _ _ _ hi hid) ay
 ·by_cases ay:i=id
  ·subst ay;rw[aa]at hi;cases hi
  ·rw[ae _ _ ay]at hi
   exact absurd (h.one i id _ _ _ _ _ _ hi hid) ay
 ·unfold V;rw[ag (by simp[Ty.isAgg])]
  simp only[Rd]
  refine⟨_,cap,by rw[h1],h4,λi hi=>⟨b,0,rfl,lt_of_block h2,λhx=>hx.2 (.inl rfl),?_⟩⟩
  have hi:i<l.length:=hi
  obtain⟨u,hu,tG,IY⟩:=h6 i hi (by simp)
  refine⟨[u],?_,?_⟩
  ·intro j v hj
   cases j with
   |zero=>simp only[s9,bZ]at hj;subst hj;rw[cell_of h2];simpa [Ty.size]using hu
   |succ j=>simp at hj
  ·have hg:l.getD i []=l.get ⟨i,hi⟩:=by simp[γ,a6 hi]
   rw[hg]at tG
   simp only[ER]at tG
   rcases tG with⟨h0,a,hv⟩|⟨b1,oj,t1,pV,hv,bL,P2,pO,Kr,Vk,Bo,DL⟩
   ·refine⟨a,0,by rw[hv,h0];rfl,by rw[h0];exact aB _,λk kH=>absurd kH (by rw[h0];simp)⟩
   ·refine⟨_,pV,by rw[hv],Kr,λk kH=>⟨b1,0,rfl,lt_of_block bL,λhx=>hx.2 (.inr ⟨i,u,hi,hu,by rw[hv];simp[bK];omega⟩),_,?_,(DL k kH).flat hf⟩⟩
    rw[cF]
    exact At.of_block bL _ _
theorem ek.made{H:Nat→Option ar}(h:ek c d H ν)(hle:c.le d)(hm:Mem d H w M ν){x:Nat}(hx:H x=none)(h7:H 7=none)(Vl:x≠7){e:Ty}(hf:e.flat=true){t:TypeId}{n cap:Nat}(hn:n≤cap):
  ∃d',c.le d'∧bJ w M (w.alloc (.cells (madeCells (aC (.slice e) (Ty.slice e).aL).cells cap) t)) (λb=>M b∨b=w.heap.size)∧
   Mem d' (au (au H x (some (.cq e (List.replicate n []) none))) 7 (some .gone)) (w.alloc (.cells (madeCells (aC (.slice e) (Ty.slice e).aL).cells cap) t)) (λb=>M b∨b=w.heap.size) (updν ν x (.slice (some ⟨w.heap.size,0,none⟩) n cap))∧
   ek c d' (au (au H x (some (.cq e (List.replicate n []) none))) 7 (some .gone)) (updν ν x (.slice (some ⟨w.heap.size,0,none⟩) n cap)):=by
 have tS: ∀k,k<cap→(madeCells (aC (.slice e) (Ty.slice e).aL).cells cap)[k]? =some (.slice none 0 0):=λk hk=>by
  simp only[madeCells,Array.getElem?_map]
  rw[Array.getElem?_range,af hk]
  simp[aC,Ty.aL,Ty.isAgg,Value.cells]
  have h1: ∀j,j<1→[Value.slice none 0 0][j]?.getD default=Value.slice none 0 0:=λj hj=>by rw[show j=0 from by omega];rfl
  exact h1 _ (Nat.mod_lt _ δ)
 have ir:(madeCells (aC (.slice e) (Ty.slice e).aL).cells cap).size=cap:=size_madeCells _ _
 generalize madeCells (aC (.slice e) (Ty.slice e).aL).cells cap=cs at tS ir ⊢
 have hk:bJ w M (w.alloc (.cells cs t)) (λb=>M b∨b=w.heap.size):=
  ⟨by rw[size_alloc];omega,λb hb _=>eH w _ hb,λb hb h'=>h'.resolve_right ω⟩
 obtain⟨ew,nq⟩:=Mem.xl (X:=λb=>d.M0 b∨b=w.heap.size) hle hm hk (λb hb=>hb.elim (λh'=> .inl (hm.sub b h')) .inr) (λb hb=>by rw[size_alloc];exact hb.elim (λh'=>by have:=hm.oy b h';omega) (λh'=>ω)) (λb hb=> .inl (hle.M0 b hb))
  (λi e1 b1 hi iu bL=>by
   have P2:=(hm.dd i e1 hi).jt iu bL
   have cy:=hm.oy b1 P2
   exact⟨eH w _ cy,.inl P2,λhX=>hX.elim (hm.apart hi iu bL) (λh'=>ω)⟩)
  (λb hb _=>eH w _ (fe hb (hm.up hle).size)) rfl rfl rfl
 have iC:=ew.ghost (id:=x) (e:= .cq e (List.replicate n []) none) (v:= .slice (some ⟨w.heap.size,0,none⟩) n cap) (by simp[ar.mut]) (λ_=>by simp[ER]) (.inl hx)
 have Nw:=iC.ghost (id:=7) (e:= .gone) (v:=updν ν x (.slice (some ⟨w.heap.size,0,none⟩) n cap) 7) (by simp[ar.mut]) (λ_=>by simp[ER]) (.inr rfl)
 rw[updν_self]at Nw
 have gX:=h.tok h7
 have key: ∀i e1 l1 o1,au (au H x (some (.cq e (List.replicate n []) none))) 7 (some .gone) i=some (.cq e1 l1 o1)→i=x:=λi e1 l1 o1 hi=>by
  by_cases h8:i=7
  ·subst h8;rw[aa]at hi;cases hi
  ·rw[ae _ _ h8]at hi
   by_cases IZ:i=x
   ·exact IZ
   ·rw[ae _ _ IZ]at hi;exact absurd hi (gX _ _ _ _)
 refine⟨_,nq,hk,Nw,⟨λvy i e1 l1 o1 hi=>(by rw[aa]at vy;cases vy),λi j e1 l1 o1 e2 l2 o2 hi hj=>(by rw[key _ _ _ _ hi,key _ _ _ _ hj]),λi e1 l1 o1 hi=> ?_⟩⟩
 have:=key _ _ _ _ hi
 subst this
 rw[ae _ _ Vl,aa]at hi;cases hi
 have hB:=(hm.up hle).size
 have kF: ∀k u,k<(List.replicate n ([]:List e.den)).length→cs[k]? =some u→u= .slice none 0 0:=λk u kH hu=>by
  rw[a8]at kH
  rw[tS k ω]at hu;cases hu;rfl
 refine⟨hf,w.heap.size,cs,t,cap,by simp[updν,a8],pE w _,⟨.inr rfl,λh0=>(by have:=hle.gf.1 _ h0;omega),.inl hB⟩,by rw[a8];exact hn,ir,λk kH _=> ?_,λk k' u1 u2 b1 _ qA _ _ _ AD _ bL=> ?_⟩
 ·have sT:=kH
  rw[a8]at sT
  refine⟨_,tS k ω,?_,λb' bA=>by simp[bK]at bA⟩
  simp only[ER]
  exact .inl ⟨by simp[γ,sT],none,rfl⟩
 ·rw[kF k u1 qA AD]at bL;simp[bK]at bL
theorem AE(hE: ∀t τ,E.ty t=some τ→dY P τ t)(hle:c.le d)(hc:Core d σ a.tmps w M ν)(hf:ek c d σ.H ν){g:Bool}{v:ax}{ups:dh}(h:Cg E o σ.ρ σ.H=some (g,v,ups))(hg:g=true)
  (hn:Hn c E σ a o w M ν v ups next):o.wp P a w next Q:=by
 unfold Cg at h
 simp only at h
 have kr:bJ w M w M:=⟨aB _,λ_ _ _=>rfl,λ_ _ h=>h⟩
 split at h
 ·
  rename_i t x y ho
  split at h
  ·rename_i e k l k' n he hx hy DM h7
   cases Ks:Cd E 3000000 (o.dst.getD 0)
   ·rw[Ks]at he;cases he
   ·rw[Ks]at he
    have ht:E.ty t=some (.slice (.slice e)):=he
    obtain⟨wo,h⟩:=aG h
    simp only[bZ,kv]at h
    obtain⟨rfl,rfl,rfl⟩:=h
    rw[qD]at hg
    obtain⟨h0,h1,h3⟩:=bs hg
    simp only[py]at h3
    obtain⟨e',hu,Ex⟩:=(hE t _ ht).slice
    obtain⟨i,hi,hs,hz,hb⟩:=Ex.base
    have vv:=hc.ev x
    have mh:=hc.ev y
    rw[hx]at vv;rw[hy]at mh
    have tV:(i.bytes:Int)*n≤281474976710656:=by
     have h4:(i.bytes:Int)≤2048:=ω
     have:(i.bytes:Int)*n≤2048*n:=kY h4 ω
     omega
    have bk:=run_make (P:=P) w t e' i _ hu hi hz k k' l n h0 h1 tV ω
    have Bo:n.toNat*i.size=n.toNat:=by rw[hs];simp[Ty.size]
    rw[Bo]at bk
    obtain⟨d',nq,qA,ew,Ho⟩:=hf.made hle hc.mem DM h7 ω wo (t:=e') (n:=l.toNat) (cap:=n.toNat) ω
    refine aq (kJ ho (by rw[vv.int,mh.int];exact bk)) (hn _ _ d' _ _ nq ew (λu z hz=> ?_) Ho ?_)
    ·exact VR.aK qA ((dM.put DM _ _).trans (by
      have:=dM.gone (H:=au σ.H (16*o.dst.getD 0) (some (.cq e (List.replicate l.toNat []) none))) (ν:=updν ν (16*o.dst.getD 0) (.slice (some ⟨w.heap.size,0,none⟩) l.toNat n.toNat)) 7
      exact this)) hz
    ·simp only[VR]
     refine⟨?_,by simp[updν]⟩
     show au (au σ.H _ _) 7 _ _≠none
     rw[ae _ _ ω,aa];simp
  ·cases h
 ·
  rename_i cl ho
  split at h
  ·rename_i x e Ra Er nO
   split at h
   ·rename_i id hx
    split at h
    ·rename_i e2 l o2 hid
     simp only[bZ,kv]at h
     obtain⟨rfl,rfl,rfl⟩:=h
     obtain⟨t,rD,Cs⟩:=la.1 nO
     have IN:cl.argTypes[0]? =some t:=by rw[←rD,←cM,yv]
     obtain⟨_,hu,_⟩:=(hE t _ Cs).slice
     have hv:=hc.ev x
     rw[hx]at hv
     simp only[VR]at hv
     obtain⟨_,b,cs,tt,cap,hb,_⟩:=hf.row hc.mem hid
     have JO:o.op= .call {callee:= .builtin .len,args:=cl.args,argTypes:=cl.argTypes}:=by rw[ho,←Ra]
     refine aq (fq JO Er rD (n:=l.length) λty=>by rw[hv.2,hb];exact kI IN hu _ _ _) (hn _ _ d M ν hle hc.mem (λ_ _ h=>h) hf (.mkInt _ _))
    ·cases h
   ·cases h
  ·cases h
 ·
  rename_i t x i ho
  split at h
  ·rename_i e' id k n nO hx hi
   split at h
   ·rename_i e l o2 hid
    obtain⟨he,h⟩:=aG h
    have he:=bs he
    subst he
    simp only[bZ,kv]at h
    obtain⟨rfl,rfl,rfl⟩:=h
    obtain⟨h0,h1⟩:=jK hg
    obtain⟨e2,xZ,Ex⟩:=(hE t _ nO).slice
    have hv:=hc.ev x
    rw[hx]at hv
    simp only[VR]at hv
    have yR:=hc.ev i
    rw[hi]at yR
    obtain⟨_,b,cs,tt,cap,hb,_⟩:=hf.row hc.mem hid
    refine aq (du ho xZ Ex (hv.2.trans hb) yR.int h0 h1) (hn _ _ d M ν hle hc.mem (λ_ _ h=>h) hf ?_)
    simp only[VR]
    refine⟨_,hid,?_⟩
    simp only[AR]
    exact⟨n.toNat,rfl,ω,b,_,_,hb,by simp[Ty.size]⟩
   ·cases h
  ·cases h
 ·
  rename_i t x ho
  split at h
  ·rename_i e' id n nO hx
   split at h
   ·rename_i e l hid I0
    obtain⟨he,h⟩:=aG h
    have he:=bs he
    subst he
    simp only[bZ,kv]at h
    obtain⟨rfl,rfl,rfl⟩:=h
    have hv:=hc.ev x
    rw[hx]at hv
    simp only[VR]at hv
    obtain⟨e1,pK,dR⟩:=hv
    rw[hid]at pK;cases pK
    simp only[AR]at dR
    obtain⟨i,Rb,sv,b,m,cp,hb,hu⟩:=dR
    cases Rb
    obtain⟨u,d',kF,nq,ew,Ho⟩:=hf.out hle hc.mem hid sv I0 hb
    refine aq (oi ho (hE t _ nO) rfl hu kF) (hn _ _ d' _ _ nq ew (λz y hz=> ?_) Ho ?_)
    ·have dT:16*o.dst.getD 0≠id:=λe=>by rw[e,hid]at I0;cases I0
     exact VR.aK kr ((dM.put I0 _ _).trans (dM.cq (o:=none) (by rw[ae _ _ (cf dT)];exact hid) rfl)) hz
    ·simp only[VR]
     have dT:16*o.dst.getD 0≠id:=λe=>by rw[e,hid]at I0;cases I0
     refine⟨?_,by simp[updν]⟩
     show au (au σ.H _ _) id _ _≠none
     rw[ae _ _ dT,aa];simp
   ·cases h
  ·cases h
 ·
  rename_i t x y ho
  split at h
  ·rename_i e' id n j nO hx hy
   split at h
   ·rename_i e l n' e2 l' hid hj
    split at h
    ·rename_i Vm
     subst Vm
     obtain⟨he,h⟩:=aG h
     have he:=bs he
     subst he
     simp only[bZ,kv]at h
     obtain⟨rfl,rfl,rfl⟩:=h
     rw[eL]at hg
     have Rc:n=n':=by have:=bs hg;omega
     subst Rc
     have hv:=hc.ev x
     rw[hx]at hv
     simp only[VR]at hv
     obtain⟨e1,pK,dR⟩:=hv
     rw[hid]at pK;cases pK
     simp only[AR]at dR
     obtain⟨i,Rb,sv,b,m,cp,hb,hu⟩:=dR
     cases Rb
     have mh:=hc.ev y
     rw[hy]at mh
     simp only[VR]at mh
     have mh:=mh.2
     obtain⟨_,b',cs,tt,cap,bA,JU,_⟩:=hf.row hc.mem hid
     rw[hb]at bA;cases bA
     obtain⟨Nx,qA,d',nq,ew,Ho⟩:=hf.Q9 hle hc.mem hid sv hj hb JU
     obtain⟨ad,YK,hνj⟩:=ER.wm hc.mem hj
     have JZ:(a.eval y).cells.toList=[ν j]:=by rw[mh,hνj];rfl
     have ir:(a.eval y).cells.size=1:=by rw[←az,JZ];rfl
     have bk:=dG (P:=P) ho (hE t _ nO) hu JU ir (by simp[Ty.size];omega) (by rw[JZ,hνj];simp[Value.oneCell'])
     rw[JZ]at bk
     refine fp bk (hn _ _ d' M ν nq ew (λz w' hz=> ?_) Ho (by simp[VR]))
     have dT:id≠j:=λe=>by rw[e,hj]at hid;cases hid
     exact VR.aK qA ((dM.gone j).trans (dM.cq (o:=some n) (by rw[ae _ _ dT];exact hid) (by rw[aY]))) hz
    ·cases h
   ·cases h
  ·cases h
 ·
  rename_i x ho
  split at h
  ·rename_i id hx
   split at h
   ·rename_i e l hid
    simp only[bZ,kv]at h
    obtain⟨rfl,rfl,rfl⟩:=h
    cases Ks:Cd E 4000000 (o.dst.getD 0)
    ·rw[Ks]at hx;cases hx
    ·rw[Ks]at hx
     have hx:σ.ρ x= .ref id:=hx
     have hv:=hc.ev x
     rw[hx]at hv
     simp only[VR]at hv
     obtain⟨d',M',nq,qA,ew,Ho,hV⟩:=hf.fix hle hc.mem hid
     have hr:(execOp a.eval o).run P w= .ok (.value (a.eval x)) w:=by simp[execOp,ho]
     refine aq hr (hn _ _ d' M' ν nq ew (λz w' hz=>VR.aK qA (dM.gone id) hz) Ho ?_)
     simp only[VR]
     rw[hv.2]
     exact hV
   ·cases h
  ·cases h
 ·cases h
theorem CG(hE:g9 P E)(hle:c.le d)(hc:Core d σ a.tmps w M ν)(hf:E.cq=true→ek c d σ.H ν){K:cN α}(h:DE E o σ.ρ σ.H K=some r)
  (hn: ∀v rd ups v' w' d' M' ν',K v rd ups=some r→c.le d'→Mem d' (aN σ.H ups) w' M' ν'→(∀u x,VR w M σ.H ν u x→VR w' M' (aN σ.H ups) ν' u x)→(E.cq=true→ek c d' (aN σ.H ups) ν')→VR w' M' (aN σ.H ups) ν' v v'→next (a.put o.dst v') w'):
  o.wp P a w next Q:=by
 unfold DE at h
 cases Nz:E.cq
 ·rw[Nz]at h
  exact wv hE hc h λv rd ups v' w' M' ν' hK t hV=>hn v rd ups v' w' d M' ν' hK hle t.mem (λu x hx=>VR.aK t.aK t.goes hx) (λhe=>by rw[Nz]at he;cases he) hV
 ·rw[Nz]at h
  simp only[ah]at h
  split at h
  ·rename_i u hs
   obtain⟨hg,h⟩:=aG h
   exact AE hE.ty hle hc (hf Nz) hs hg λv' w' d' M' ν' h1 h2 h3 h4 h5=>hn _ _ _ v' w' d' M' ν' h h1 h2 h3 (λ_=>h4) h5
  ·refine wv hE hc h λv rd ups v' w' M' ν' hK t hV=> ?_
   obtain⟨gX,hK⟩:=aG hK
   exact hn v _ ups v' w' d M' ν' hK hle t.mem (λu x hx=>VR.aK t.aK t.goes hx) (λ_=>(hf Nz).step (ue gX) t.goes) hV
end VM
end
section
namespace VM
open Go
variable{P:Program}{E:Env}{o:Oper}{a:Act}{w:World}{M:Nat→Prop}{ν:Nat→Value}{σ:St}{c:Ctx}{α:Type}{r:α}{next:Act→World→Prop}{Q:Exit→Act→World→Prop}
theorem iZ(σ:St)(d:Nat)(v:ax):(σ.put d v).T d=v:=by
 show cond (Nat.beq d d) v (σ.T d)=v
 rw[show Nat.beq d d=true from gC d];rfl
theorem nr(σ:St){d i:Nat}(v:ax)(h:i≠d):(σ.put d v).T i=σ.T i:=by
 show cond (Nat.beq i d) v (σ.T i)=σ.T i
 have:Nat.beq i d=false:=by rw[←gm,mW];exact h
 rw[this];rfl
theorem Tc(σ:St)(d:Nat)(v:ax):(σ.put d v).H=σ.H:=rfl
theorem ug(σ:St)(d:Nat):σ.put d (σ.T d)=σ:=by
 obtain⟨T,H⟩:=σ
 unfold St.put
 congr 1
 funext i
 by_cases h:i=d
 ·subst h;show cond (Nat.beq i i) (T i) (T i)=T i;cases Nat.beq i i<;>rfl
 ·have:Nat.beq i d=false:=by rw[←gm,mW];exact h
  rw[this];rfl
theorem Core.tr{tm:Array Value}(h:Core c σ tm w M ν){H':Nat→Option ar}{w':World}{M':Nat→Prop}{ν':Nat→Value}(t:Tr c σ.H w M ν H' w' M' ν'):Core c ⟨σ.T,H'⟩ tm w' M' ν':=
 ⟨t.mem,λi=>VR.aK t.aK t.goes (h.tmp i)⟩
theorem Core.mC{tm:Array Value}(h:Core c σ tm w M ν){d:Option Nat}{x:ax}{v:Value}{io:List Nat}(hd:yD tm.size io d=true)(hx:VR w M σ.H ν x v)(ds:List Deferred):
  Core c (σ.mC d x) (({tmps:=tm,defers:=ds}:Act).put d v).tmps w M ν:=by
 cases d with
 |none=>exact h
 |some d=>
  have cy:d<tm.size:=by simp only[yD,aV,pw]at hd;exact hd.1
  refine⟨h.mem,λi=> ?_⟩
  show VR w M σ.H ν ((σ.put d x).T i) ((tm.setIfInBounds d v).getD i undef)
  by_cases hi:i=d
  ·subst hi
   rw[iZ]
   simp[Array.getD,cy]
   exact hx
  ·rw[nr _ _ hi]
   have:=h.tmp i
   have he:(tm.setIfInBounds d v).getD i undef=tm.getD i undef:=by
    rw[jy,jy,yj (cf hi)]
   rw[he];exact this
def Inv(c:Ctx)(E:Env)(σ:St)(a:Act)(w:World):Prop:=(∃d M ν,c.le d∧Core d σ a.tmps w M ν∧(E.cq=true→ek c d σ.H ν))∧a.tmps.size=E.nt∧a.defers=[]∧ ∀i∈E.io,a.tmps.getD i undef=c.arg i
theorem AF(σ:St)(d:Option Nat)(v:ax):(σ.mC d v).H=σ.H:=by cases d<;>rfl
theorem y9(a:Act)(d:Option Nat)(v:Value):(a.put d v).tmps.size=a.tmps.size:=by
 cases d<;>simp[Act.put]
theorem put_defers(a:Act)(d:Option Nat)(v:Value):(a.put d v).defers=a.defers:=by
 cases d<;>rfl
theorem Br{d:Option Nat}{v:Value}{io:List Nat}{n:Nat}(hd:yD n io d=true){i:Nat}(hi:i∈io):(a.put d v).tmps.getD i undef=a.tmps.getD i undef:=by
 cases d with
 |none=>rfl
 |some d=>
  simp only[yD,aV,iI]at hd
  have h1:=hd.2 i hi
  have dT:i≠d:=by
   intro e;subst e
   simp at h1
  show(a.tmps.setIfInBounds d v).getD i undef=_
  rw[jy,jy,yj (cf dT)]
theorem Inv.bool(h:Inv c E σ a w){x:Operand}{b:Bool}(hx:σ.ρ x= .val .bool b):a.eval x= .bool b:=by
 obtain⟨⟨d,M,ν,_,hc,_⟩,_,_,_⟩:=h
 have:=hc.ev x
 rw[hx]at this
 exact this.bool
theorem rJ(hE:g9 P E){ops:Array Oper}(hI:Inv c E σ a w){K:St→List Nat→List Nat→Option α}(h:kC E ops.toList o σ K=some r)
  (hn: ∀σ' a' w' rd wr,K σ' rd wr=some r→Inv c E σ' a' w'→next a' w'):
  if Region.wanted o (yielded ops a.tmps)then o.wp P a w next Q else next (a.put o.dst undef) w:=by
 unfold kC at h
 obtain⟨hd,h⟩:=aG h
 have bk:DE E o σ.ρ σ.H (λv rd ups=>K ((σ.mY ups).mC o.dst v) rd (ups.map (·.1)))=some r→o.wp P a w next Q:=by
  intro h
  obtain⟨⟨d,M,ν,hle,hc,GJ⟩,hs,Kt,ns⟩:=hI
  refine CG hE hle hc GJ h λv rd ups v' w' d' M' ν' hK Ex hm G8 Re hV=> ?_
  have h2:σ.mY ups=⟨σ.T,aN σ.H ups⟩:=by rw[←Aw,←Ax ups σ]
  rw[h2]at hK
  refine hn _ _ _ _ _ hK ⟨⟨d',M',ν',Ex,?_,λhe=>by rw[AF];exact Re he⟩,by rw[y9,hs],by rw[put_defers,Kt],λi hi=>(Br hd hi).trans (ns i hi)⟩
  exact(⟨hm,λi=>G8 _ _ (hc.tmp i)⟩:Core d' ⟨σ.T,aN σ.H ups⟩ a.tmps w' M' ν').mC (by rw[hs];exact hd) hV a.defers
 have uh: ∀rd wr,K (σ.mC o.dst .DW) rd wr=some r→next (a.put o.dst undef) w:=by
  intro rd wr h
  obtain⟨⟨d,M,ν,hle,hc,GJ⟩,hs,Kt,ns⟩:=hI
  refine hn _ _ _ _ _ h ⟨⟨d,M,ν,hle,hc.mC (by rw[hs];exact hd) (by simp[VR]) a.defers,λhe=>by rw[AF];exact GJ he⟩,by rw[y9,hs],by rw[put_defers,Kt],λi hi=>(Br hd hi).trans (ns i hi)⟩
 simp only at h
 split at h
 ·rename_i hg
  have:Region.wanted o (yielded ops a.tmps)=true:=by simp[Region.wanted,hg]
  rw[af this]
  exact bk h
 ·rename_i j want hg
  split at h
  ·cases h
  ·rename_i t ht
   have Td:(ops[j]?).bind (·.dst)=some t:=by rw[←cM];exact ht
   have hy: ∀b,σ.T t= .val .bool b→yielded ops a.tmps j=some b:=by
    intro b hb
    obtain⟨⟨d,M,ν,_,hc,_⟩,hs,_,_⟩:=hI
    have h1:=hc.tmp t
    rw[hb]at h1
    have h1:=h1.bool
    have h2:a.tmps[t]? =some (.bool b):=by
     rw[jy]at h1
     cases h3:a.tmps[t]? with
     |none=>rw[h3]at h1;simp[undef]at h1
     |some v=>rw[h3]at h1;simpa using h1
    simp[yielded,Td,h2]
   split at h
   ·rename_i b hb
    have hJ:σ.put t (.val .bool b)=σ:=by rw[←hb];exact ug σ t
    have hw:=hy b hb
    cases want<;>cases b
    ·rw[af (by simp[Region.wanted,hg,hw])]
     rw[hJ]at h;exact bk h
    ·rw[ag (by simp[Region.wanted,hg,hw])]
     rw[hJ]at h;exact uh _ _ h
    ·rw[ag (by simp[Region.wanted,hg,hw])]
     rw[hJ]at h;exact uh _ _ h
    ·rw[af (by simp[Region.wanted,hg,hw])]
     rw[hJ]at h;exact bk h
   ·rename_i hb
    have pL: ¬Region.wanted o (yielded ops a.tmps)=true:=by
     obtain⟨⟨d,M,ν,_,hc,_⟩,hs,_,_⟩:=hI
     have h1:=hc.tmp t
     rw[hb]at h1
     simp only[VR]at h1
     have h2: ∀b,a.tmps[t]? ≠some (.bool b):=by
      intro b bA
      rw[jy,bA]at h1
      simp[undef]at h1
     have h3:yielded ops a.tmps j=none:=by
      unfold yielded
      rw[Td]
      show(match a.tmps[t]? with|some (.bool b)=>some b|_=>none)=none
      split
      ·rename_i b bA;exact absurd bA (h2 b)
      ·rfl
     simp[Region.wanted,hg,h3]
    rw[ag pL]
    exact uh _ _ h
   ·cases h
theorem ui(hE:g9 P E){ops:Array Oper}: ∀(l:List Oper) (i:Nat) (σ:St) (lg:Log) (a:Act) (w:World) (K:St→Log→Option α),Inv c E σ a w→Ch E ops.toList l i σ lg K=some r→
  (∀σ' I1 a' w',K σ' I1=some r→Inv c E σ' a' w'→Q .normal a' w')→wpList P ops Q l a w
 |[],i,σ,lg,a,w,K,hI,h,hn=>hn _ _ _ _ h hI
 |o::l,i,σ,lg,a,w,K,hI,h,hn=>by
  unfold Ch at h
  refine wpList_step λK' P1=> ?_
  exact rJ hE hI h fun σ' a' w' rd wr h' rK=>P1 _ _ (ui hE l (i+1) σ' _ a' w' K rK h' hn)
theorem za(hI:Inv c E σ a w){x:Operand}{A B:St→Option α}(h:we E x σ A B=some r): ∃b,a.eval x= .bool b∧(if b then A σ else B σ)=some r:=by
 unfold we at h
 split at h
 ·rename_i b hb
  refine⟨b,hI.bool hb,?_⟩
  split at h
  ·rename_i t
   have hb:σ.T t= .val .bool b:=hb
   have hJ:σ.put t (.val .bool b)=σ:=by rw[←hb];exact ug σ t
   cases b
   ·rw[hJ]at h;exact h
   ·rw[hJ]at h;exact h
  ·cases b<;>exact h
 ·cases h
end VM
end
