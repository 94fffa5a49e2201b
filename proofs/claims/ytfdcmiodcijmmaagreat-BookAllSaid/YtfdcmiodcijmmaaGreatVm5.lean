/- A part of the proof of BookAll of layer 18: a machine that reads a function of the program as an equation between values. -/
import Derived.Test.YtfdcmiodcijmmaaGreatVm4
import Derived.Scope
set_option linter.all false
open List renaming getD→γ
section
namespace VM
open Go
variable{P:Program}{E:Env}{o:Oper}{a:Act}{w:World}{M:Nat→Prop}{ν:Nat→Value}{σ:St}{c:Ctx}{α:Type}{r:α}{next:Act→World→Prop}{Q:Exit→Act→World→Prop}
theorem DJ{i:Nat}: ∀{ups:fu} {H:Nat→Option aI},i∈keys ups→ ∃u∈ups,u.1=i∧bM H ups i=u.2
 |[],_,h=>by simp[keys]at h
 |u::r,H,h=>by
  by_cases hk:i∈keys r
  ·obtain⟨v,h1,h2,h3⟩:=DJ (H:=a8 H u.1 u.2) hk
   exact⟨v,aU _ h1,h2,h3⟩
  ·have hi:i=u.1:=by
    simp only[keys,bA,aV]at h hk
    exact h.resolve_right hk
   refine⟨u,bg,hi.symm,?_⟩
   show bM (a8 H u.1 u.2) r i=_
   rw[ir hk,hi,al]
theorem yu: ∀{ups:fu} {H H':Nat→Option aI},(∀i,i∉keys ups→H i=H' i)→bM H ups=bM H' ups
 |[],H,H',h=>funext λi=>h i (by simp[keys])
 |u::r,H,H',h=>by
  refine yu (ups:=r) λi hi=> ?_
  by_cases hu:i=u.1
  ·subst hu;rw[al,al]
  ·rw[aq _ _ hu,aq _ _ hu]
   exact h i (by simp only[keys,bA,aV,not_or];exact⟨hu,hi⟩)
theorem ER.len{v:Value}{e:Ty}{l:List e.den}(h:ER w M v (.own e l)): ∃ad cap,v= .slice ad l.length cap:=by
 simp only[ER]at h
 rcases h with⟨rfl,ad,rfl⟩|⟨b,cs,t,cap,h1,_⟩
 ·exact⟨ad,0,rfl⟩
 ·exact⟨_,cap,h1⟩
theorem RR.mH: ∀{ms:List AM} {x:HP ms} {us ps:List Value},RR w M ms x us ps→ ∀b∈aO ms us ps,M b
 |[],_,_,_,_,b,hb=>by simp[aO]at hb
 |m::ms,x,us,ps,h,b,hb=>by
  simp only[RR]at h
  rcases h with⟨p,zU,h1,rfl,h2,h3⟩|⟨v,wI,h1,h2,rfl,h3,h4⟩
  ·simp only[aO,h1,fO,nZ,n1,br]at hb
   rcases hb with hb|hb
   ·cases m<;>simp[AM.eU]at h1<;>(simp only[cf,c5,A1]at hb h2;exact h2.qj trivial hb)
   ·exact RR.mH h3 b hb
  ·simp only[aO,h1,fD,dW,nZ,n1,br]at hb
   rcases hb with hb|hb
   ·cases m with
    |own e=>
     simp only[cf,c5,A1]at hb h3
     exact h3.qj trivial hb
    |v _=>simp[cf]at hb
    |io _=>simp[AM.eU]at h1
    |lo _=>simp[AM.eU]at h1
    |fn _ _=>simp[cf]at hb
    |ft _=>simp[cf]at hb
    |ptr τ=>
     simp only[cf,c5,A1]at hb h3
     exact h3.qj trivial hb
    |sp τ n e=>
     simp only[A1]at h3
     obtain⟨cs,fR,u,l,z,rfl,hq,hr,nO,hu,_⟩:=h3
     rw[(ra hq hr nO).1,c5]at hb
     exact hu.qj trivial hb
   ·exact RR.mH h4 b hb
theorem AJ: ∀{l:List iI} {lL:List aM} {S:iI},Dq l lL=some S→S∈l
 |[],_,_,h=>by simp[Dq]at h
 |T::l,lL,S,h=>by
  unfold Dq at h
  cases hf:fits T.args lL
  ·rw[hf]at h;exact aU _ (AJ h)
  ·rw[hf]at h;cases h;exact bg
theorem vJ{H:Nat→Option aI}{id:Nat}: ∀{n:Nat},oH H id n=true→ ∀i,id≤i→i<id+n→H i=none
 |0,_,i,h1,h2=>ω
 |n+1,h,i,h1,h2=>by
  unfold oH at h
  rw[ba]at h
  by_cases hi:i=id+n
  ·subst hi
   have h:=h.1
   split at h
   ·assumption
   ·cases h
  ·exact vJ h.2 i h1 ω
theorem KV{H:Nat→Option aI}{lL:List aM}{us:List Value}(h:fH w M H ν lL us):VR w M H ν (Dn lL) (qt us):=by
 match lL,us,h with
 |[],[],_=>simp[Dn,VR]
 |[a],[u],h=>simp only[fH,dR]at h;simpa [Dn,qt]using h
 |a::b::lL,u::v::us,h=>
  simp only[Dn,VR]
  exact⟨u::v::us,by simp[qt],h⟩
 |[],_::_,h=>simp[fH]at h
 |_::_,[],h=>simp[fH]at h
 |[_],_::_::_,h=>simp[fH]at h
 |_::_::_,[_],h=>simp[fH]at h
theorem DK(hΓ: ∀f S,S∈E.Γ f→fj P f S){H:Nat→Option aI}(hm:Mem c H w M ν){f id:Nat}{lL:List aM}{vs:List Value}(hv:fH w M H ν lL vs){K:eo α}(h:vu E f lL id H K=some r)
  {R:Value→World→Prop} (hR: ∀v rd ups v' w' M' ν',K v rd ups=some r→Tr c H w M ν (bM H ups) w' M' ν'→VR w' M' (bM H ups) ν' v v'→R v' w'):
  DG P f vs.toArray w R:=by
 unfold vu at h
 split at h
 ·cases h
 rename_i S hS
 have Vs:=hΓ f S (AJ hS)
 obtain⟨x,rd,uo,uf,io,H2,Hq,M2,h1,hA,hK,Wr,NT,HR⟩:=vI (gk.start hm) hv h
 clear h
 simp only[c7,eL]at hA NT HR
 obtain⟨y,hy,h1⟩:=qR.1 h1
 obtain⟨fk,h1⟩:=bn h1
 have fk:=vJ fk
 have aaN:(λb=>(M2 b∧b∉cF S.args vs)∨b∈cF S.args vs)=M2:=by
  funext b
  refine propext ⟨λh=>h.elim (·.1) (hA.hM b),λh=> ?_⟩
  by_cases hb:b∈cF S.args vs
  ·exact .inr hb
  ·exact .inl ⟨h,hb⟩
 refine DG.mono (Vs.call (λb=>M2 b∧b∉cF S.args vs) w vs x y (λb hb=>hA.mem.xT b hb.1) (by rw[aaN];exact Wr) hA.nd (λb hb h=>h.2 hb) hy) ?_
 rintro e w' ⟨us,M',rfl,Km,hL,pJ,hn0⟩
 have aaO: ∀b∈cF S.args vs,c.M0 b→M' b:=by
  intro b hb h0
  obtain⟨q,hq,hqb⟩:=hA.Vq b hb h0
  exact Km.mH b (Km.yr (ν q.1) (by rw[←NT];exact dF hq) b hqb)
 have jG: ∀b∈aO S.res us (du S.args vs),w.heap.size≤b∨b∈cF S.args vs:=by
  intro b hb
  rcases ji b w.heap.size with dv|HS
  ·exact .inr ((hL.less b dv (Km.mH b hb)).resolve_left (hn0 b hb))
  ·exact .inl HS
 have gl: ∀b∈aO S.res us (du S.args vs),c.B≤b∨c.may b:=λb hb=>(jG b hb).elim (λh=> .inl (iC hm.size h)) (hA.DI b)
 have xU: ∀b∈aO S.res us (du S.args vs),c.M0 b→ ∃p∈du S.args vs,dd p=some b:=by
  intro b hb h0
  rcases jG b hb with h'|h'
  ·have:=hm.pI.1 b h0;have:=hm.size;omega
  ·obtain⟨q,hq,hqb⟩:=hA.Vq b h' h0
   exact⟨ν q.1,by rw[←NT];exact dF hq,hqb⟩
 have aaQ: ∀q∈io,∀e,q.2=AM.lo e→ ∀b,dd (ν q.1)=some b→ ¬c.M0 b:=by
  intro q hq e he b hb
  rcases(hA.IW q hq).2.2 with⟨τ0,z0,rL,_⟩|⟨e0,z0,rL,Ge⟩
  ·rw[he]at rL;cases rL
  ·exact hm.jE q.1 e0 z0 b Ge hb
 have key: ∀(Hx:Nat→Option aI) (Mx:Nat→Prop) (U:fu),Mem c Hx w Mx ν→dq w M w Mx→(∀b,M2 b→Mx b)→(∀b∈cF S.args vs,∀i e,Hx i=some e→e.mut→dd (ν i)≠some b)→
   (∀q∈io,Hx q.1=some .gone)→(∀i,i∉keys io→bM H (uo++U) i=Hx i)→(∀u∈uo++U,u.2=some .gone∨ ∃e l,u.2=some (.ke e l)∧H u.1=some (.own e l))→(∀i∈keys (uo++U),i∈keys (uo++uf))→
   RR w' (λb=>M' b∨(Mx b∧b∉cF S.args vs)) S.res y us (du S.args vs)→
   ∃ν',Tr c H w M ν (bM H (uo++U++(eE S.res y id io).2.1)) w' (λb=>M' b∨(Mx b∧b∉cF S.args vs)) ν'∧
    fH w' (λb=>M' b∨(Mx b∧b∉cF S.args vs)) (bM H (uo++U++(eE S.res y id io).2.1)) ν' (eE S.res y id io).1 us:=by
  intro Hx Mx U IS hkx I1 mD DL Ss yv hU V6
  obtain⟨im,AK⟩:=IS.call (λb hb=>I1 b hb.1) (λb hb=>I1 b (hA.hM b hb)) mD hA.DI aaO hL
  have hx: ∀i e,H i=some e→i∉keys io→ ∃e',Hx i=some e'∧e.gR e':=by
   intro i e hi zV
   rw[←Ss i zV]
   by_cases hk:i∈keys (uo++U)
   ·obtain⟨u,hu,Wc,huv⟩:=DJ (H:=H) hk
    rw[huv]
    rcases yv u hu with h'|⟨e1,l1,h',CQ⟩
    ·exact⟨_,h',aI.fV e⟩
    ·rw[Wc,hi]at CQ;cases CQ;exact⟨_,h',rfl,rfl⟩
   ·rw[ir hk];exact⟨e,hi,.refl e⟩
  have Ni: ∀i,id≤i→i<id+S.res.length→Hx i=none:=by
   intro i h3 h4
   have h0:=fk i h3 h4
   have zV:i∉keys io:=λhk=>by
    obtain⟨q,hq,w6⟩:=cA.1 hk
    obtain⟨_,_,hz⟩:=hA.IW q hq
    exact hz.some (by rw[w6];exact h0)
   rw[←Ss i zV]
   rw[ir,h0]
   intro hk
   obtain⟨_,e,l,h'⟩:=hA.Vo i (hU i hk)
   rw[h0]at h';cases h'
  obtain⟨ν',r1,r2,r3,r4,r5,r6⟩:=iL (hs:=cF S.args vs) (sz:=w.heap.size) (id:=id) (used:=[]) im V6 NT.symm (by rw[←Vs.ios,←HR]) hA.Wm DL Ni
   (λi e b hi Ws hb=> .inl ⟨IS.xT b ((IS.fM i e hi).qj Ws hb),λhh=>mD b hh i e hi Ws hb⟩) (by simpa using pJ) jG gl xU aaQ
  have Su:bM H (uo++U++(eE S.res y id io).2.1)=bM Hx (eE S.res y id io).2.1:=by
   rw[dr]
   refine yu λi hi=> ?_
   by_cases zV:i∈keys io
   ·obtain⟨q,hq,w6⟩:=cA.1 zV
    rcases r6 q hq with⟨τ,z,_,hz⟩|⟨e,z,_,hz⟩
    ·rw[w6,ir hi,←w6,DL q hq]at hz;cases hz
    ·rw[w6,ir hi,←w6,DL q hq]at hz;cases hz
   ·exact Ss i zV
  refine⟨ν',⟨by rw[Su];exact r1,hkx.trans AK,⟨λi e hi=> ?_,λi hi=> ?_⟩⟩,by rw[Su];exact r2⟩
  ·rw[Su]
   by_cases zV:i∈keys io
   ·obtain⟨q,hq,w6⟩:=cA.1 zV
    obtain⟨_,_,hg0⟩:=hA.IW q hq
    rcases r6 q hq with⟨τ,z,M9,hz⟩|⟨e2,z,M9,hz⟩
    ·rcases hg0 with⟨τ0,z0,rL,Ge⟩|⟨e0,z0,rL,Ge⟩
     ·rw[M9]at rL;cases rL
      rw[w6]at hz Ge
      rw[hi]at Ge;cases Ge
      exact⟨_,hz,rfl⟩
     ·rw[M9]at rL;cases rL
    ·rcases hg0 with⟨τ0,z0,rL,Ge⟩|⟨e0,z0,rL,Ge⟩
     ·rw[M9]at rL;cases rL
     ·rw[M9]at rL;cases rL
      rw[w6]at hz Ge
      rw[hi]at Ge;cases Ge
      refine⟨_,hz,rfl,?_⟩
      obtain⟨a1,c1,k1⟩:=ER.len (hm.fM i _ hi)
      obtain⟨a2,c2,k2⟩:=ER.len (r1.fM i _ hz)
      rw[r3 i (by rw[←w6,DL q hq];simp),k1]at k2
      simp only[Value.slice.injEq]at k2
      exact k2.2.1
   ·obtain⟨e',nV,hl⟩:=hx i e hi zV
    have hr:i<id∨id+S.res.length≤i:=by
     rcases ji i id with h'|h'
     ·exact .inl h'
     ·rcases ji i (id+S.res.length)with CQ|CQ
      ·rw[fk i h' CQ]at hi;cases hi
      ·exact .inr CQ
    exact⟨e',by rw[r4 i zV hr];exact nV,hl⟩
  ·refine r3 i ?_
   obtain⟨e,he⟩:=sQ.1 hi
   by_cases zV:i∈keys io
   ·obtain⟨q,hq,w6⟩:=cA.1 zV
    rw[←w6,DL q hq];simp
   ·obtain⟨e',nV,_⟩:=hx i e he zV
    rw[nV];simp
 cases hq:S.quiet
 ·
  rw[hq]at h1
  have hMn:(λb=>M' b∨(M2 b∧b∉cF S.args vs))=M':=by
   funext b
   exact propext ⟨λh=>h.elim (λh=>h) (hL.sub b),.inl⟩
  obtain⟨ν',dP,Wf⟩:=key H2 M2 uf hA.mem hA.bm (λ_ h=>h) (λb hb i e hi Ws=>hA.none b hb i e (hA.fz.mut hi Ws) Ws) (λq hq=>(hA.IW q hq).1) hA.ext
   (λu hu=>(br.1 hu).elim (λh=> .inl (hA.Sm u h)) (λh=> .inr (hA.Vp u h))) (λ_ h=>h) (by rw[hMn];exact Km)
  exact hR _ _ _ _ _ _ _ h1 dP (KV Wf)
 ·rw[hq]at h1
  have I1: ∀b,M2 b→M b:=λb hb=>hA.bm.less b (hA.mem.xT b hb) hb
  obtain⟨ν',dP,Wf⟩:=key Hq M [] hA.DH (.refl w M) I1 hA.none (λq hq=>(hA.IW q hq).2.1) (by rw[bF];exact hA.KQ)
   (λu hu=> .inl (hA.Sm u (by simpa using hu))) (λi hi=>by simp only[keys,bF,cH,br]at hi ⊢;exact .inl hi) (Km.flat (λb h=> .inl h) (Vs.quiet hq))
  exact hR _ _ _ _ _ _ _ h1 dP (KV Wf)
theorem NW(hΓ: ∀f S,S∈E.Γ f→fj P f S)(hc:Core c σ a.tmps w M ν){args:Array Operand}{ts:Array TypeId}{g:Operand}(ho:o.op= .call {callee:= .value g,args,argTypes:=ts}){K:eo α}{f:Nat}{my:List aM}(hg:σ.ρ g= .Dh f my){id:Nat}
  (h:vu E f (args.toList.map σ.ρ ++my) id σ.H K=some r) (hn:dt c σ a o w M ν K r next):o.wp P a w next Q:=by
 have Wt:=hc.ev g
 rw[hg]at Wt
 simp only[VR]at Wt
 obtain⟨cs,Wt,nO⟩:=Wt
 have DM: ∀{Wu:List aM} {KW:List Value},fH w M σ.H ν Wu KW→fH w M σ.H ν (Wu++my) (KW++cs):=by
  intro Wu
  induction Wu with
  |nil=>intro KW h1;cases KW with
   |nil=>exact nO
   |cons _ _=>simp[fH]at h1
  |cons x Wu ih=>intro KW h1;cases KW with
   |nil=>simp[fH]at h1
   |cons v KW=>simp only[fH]at h1;simp only[nj,fH];exact⟨h1.1,ih h1.2⟩
 have hd:=DK (P:=P) hΓ hc.mem (DM (hc.Z0 args.toList)) h (R:=λv' w'=>next (a.put o.dst v') w') (λv rd ups v' w' M' ν' h1 h2 h3=>hn v rd ups v' w' M' ν' h1 h2 h3)
 have hex:(execOp a.eval o).run P w=(callFunc f (args.toList.map a.eval++cs).toArray).run P w:=by
  have:(args.toList.map a.eval++cs).toArray= #[]++args.map a.eval++cs.toArray:=by apply fE;simp
  rw[this]
  simp[execOp,ho,resolve,Wt,Deferred.ofValue,invoke]
 unfold Oper.wp
 rw[hex]
 exact hd o a next Q λv w' hv=>hv
end VM
end
section
namespace VM
open Go
variable{P:Program}{E:Env}{o:Oper}{a:Act}{w:World}{M:Nat→Prop}{ν:Nat→Value}{σ:St}{c:Ctx}{α:Type}{r:α}{next:Act→World→Prop}{Q:Exit→Act→World→Prop}
structure mI(P:Program)(E:Env):Prop extends EnvTy P E where
 Wv: ∀f S,S∈E.Γ f→fj P f S
 mixed:P.follows .mixedOrders=true
 gz: ∀i L,E.p8 i=some L→VM.gz L=true
 KX: ∀i L,E.rF i=some L→VM.gz L=true
theorem I2(hE:mI P E)(hc:Core c σ a.tmps w M ν){K:eo α}(h:nn E o σ.ρ σ.H K=some r)(hn:dt c σ a o w M ν K r next):o.wp P a w next Q:=by
 have hT:=hE.toEnvTy
 unfold nn at h
 simp only at h
 split at h
 ·rename_i x ho;exact HF hc (.inl ho) h hn
 ·rename_i x ho;exact HF hc (.inr ho) h hn
 ·rename_i x y z ho
  split at h
  ·rename_i t hx;exact NC hc ho hx h hn
  ·cases h
 ·rename_i t ho
  split at h
  ·rename_i τ ht;exact KB hT hc ho ht h hn
  ·cases h
 ·rename_i t x ho
  split at h
  ·rename_i τ ht;exact R2 hT hc ho h hn
  ·cases h
 ·rename_i t ps ho
  split at h
  ·rename_i n e ht;exact BP hT hc ho ht h hn
  ·rename_i τ NO ht
   split at h
   ·rename_i n k hs;exact DE hT hc ho ht (λn e he=>NO n e he) hs h hn
   ·exact wH hT hc ho ht (λn e he=>NO n e he) h hn
  ·cases h
 ·rename_i t n ps ho
  split at h
  ·rename_i e ht;exact Ae hT hc ho ht h hn
  ·cases h
 ·rename_i t x ho
  split at h
  ·rename_i τ ht;exact KD hT hc ho ht h hn
  ·cases h
 ·rename_i t x y ho
  split at h
  ·rename_i τ ht;exact IM hT hc ho ht h hn
  ·cases h
 ·rename_i x ho
  split at h
  ·rename_i id p hx;exact wF hc ho hx h hn
  ·rename_i τ z hx;exact uK hc ho hx h hn
  ·cases h
 ·rename_i b t x y t' ho;exact KG hT hc ho h hn
 ·rename_i u t x ho;exact NL hc ho h hn
 ·rename_i s d x ho
  split at h
  ·rename_i τ k hs hd;exact Gs hT hc ho hs hd h hn
  ·cases h
 ·rename_i f first my ho;exact DA hc ho h hn
 ·rename_i t x y ho
  split at h
  ·rename_i e ht;exact BM hT hc ho ht h hn
  ·cases h
 ·rename_i t x lo hi mx ho
  split at h
  ·rename_i τ ht;exact IT hT hc ho ht h hn
  ·cases h
 ·rename_i t x n ho
  split at h
  ·rename_i τ ht
   split at h
   ·rename_i id p hx;exact uI hT hc ho ht hx h hn
   ·rename_i υ z hx;exact tE hT hc ho ht hx h hn
   ·cases h
  ·cases h
 ·rename_i t x n ho
  split at h
  ·rename_i τ ht
   split at h
   ·rename_i υ z hx;exact KF hT hc ho ht hx h hn
   ·cases h
  ·cases h
 ·rename_i t x i ho
  split at h
  ·rename_i τ ht;exact BK hT hc ho ht h hn
  ·cases h
 ·rename_i t x i ho
  split at h
  ·rename_i τ ht;exact KI hT hc ho ht h hn
  ·cases h
 ·rename_i x i ho
  split at h
  ·rename_i vs hx
   split at h
   ·rename_i v hv;exact Gr hc ho hx hv h hn
   ·cases h
  ·cases h
 ·rename_i cl ho
  obtain⟨callee,args,ts⟩:=cl
  simp only at h
  split at h
  ·split at h
   ·rename_i x τ ha ht;exact Sd hT hc ho ha ht h hn
   ·cases h
  ·split at h
   ·rename_i x y t t' ha ht
    split at h
    ·rename_i e Sv;exact IU hT hc ho ha ht Sv h hn
    ·cases h
   ·cases h
  ·split at h
   ·rename_i x t ha Sj
    split at h
    ·rename_i e Sv;exact KO hT hc ho ha Sj Sv h hn
    ·cases h
   ·cases h
  ·split at h
   ·rename_i x xs ha;exact QZ hc true ho ha h hn
   ·cases h
  ·split at h
   ·rename_i x xs ha;exact QZ hc false ho ha h hn
   ·cases h
  ·rename_i g
   split at h
   ·rename_i f my hg;exact NW hE.Wv hc ho hg h hn
   ·cases h
  ·cases h
 ·cases h
end VM
end
section
namespace VM
open Go
variable{P:Program}{E:Env}{o:Oper}{a:Act}{w:World}{M:Nat→Prop}{ν:Nat→Value}{σ:St}{c:Ctx}{α:Type}{r:α}{next:Act→World→Prop}{Q:Exit→Act→World→Prop}
theorem oM(σ:St)(d:Nat)(v:aM):(σ.put d v).T d=v:=by
 show cond (Nat.beq d d) v (σ.T d)=v
 rw[show Nat.beq d d=true from ku d];rfl
theorem tL(σ:St){d i:Nat}(v:aM)(h:i≠d):(σ.put d v).T i=σ.T i:=by
 show cond (Nat.beq i d) v (σ.T i)=σ.T i
 have:Nat.beq i d=false:=by rw[←gN,pZ];exact h
 rw[this];rfl
theorem ad2(σ:St)(d:Nat)(v:aM):(σ.put d v).H=σ.H:=rfl
theorem yw(σ:St)(d:Nat):σ.put d (σ.T d)=σ:=by
 obtain⟨T,H⟩:=σ
 unfold St.put
 congr 1
 funext i
 by_cases h:i=d
 ·subst h;show cond (Nat.beq i i) (T i) (T i)=T i;cases Nat.beq i i<;>rfl
 ·have:Nat.beq i d=false:=by rw[←gN,pZ];exact h
  rw[this];rfl
theorem Core.tr{tm:Array Value}(h:Core c σ tm w M ν){H':Nat→Option aI}{w':World}{M':Nat→Prop}{ν':Nat→Value}(t:Tr c σ.H w M ν H' w' M' ν'):Core c ⟨σ.T,H'⟩ tm w' M' ν':=
 ⟨t.mem,λi=>VR.bm t.bm t.goes (h.tmp i)⟩
theorem Core.pE{tm:Array Value}(h:Core c σ tm w M ν){d:Option Nat}{x:aM}{v:Value}{io:List Nat}(hd:Di tm.size io d=true)(hx:VR w M σ.H ν x v)(ds:List Deferred):
  Core c (σ.pE d x) (({tmps:=tm,defers:=ds}:Act).put d v).tmps w M ν:=by
 cases d with
 |none=>exact h
 |some d=>
  have dv:d<tm.size:=by simp only[Di,ba,tf]at hd;exact hd.1
  refine⟨h.mem,λi=> ?_⟩
  show VR w M σ.H ν ((σ.put d x).T i) ((tm.setIfInBounds d v).getD i undef)
  by_cases hi:i=d
  ·subst hi
   rw[oM]
   simp[Array.getD,dv]
   exact hx
  ·rw[tL _ _ hi]
   have:=h.tmp i
   have he:(tm.setIfInBounds d v).getD i undef=tm.getD i undef:=by
    rw[nf,nf,C0 (cZ hi)]
   rw[he];exact this
def Inv(c:Ctx)(E:Env)(σ:St)(a:Act)(w:World):Prop:=(∃M ν,Core c σ a.tmps w M ν)∧a.tmps.size=E.nt∧a.defers=[]∧ ∀i∈E.io,a.tmps.getD i undef=c.arg i
theorem DN(a:Act)(d:Option Nat)(v:Value):(a.put d v).tmps.size=a.tmps.size:=by
 cases d<;>simp[Act.put]
theorem put_defers(a:Act)(d:Option Nat)(v:Value):(a.put d v).defers=a.defers:=by
 cases d<;>rfl
theorem HT{d:Option Nat}{v:Value}{io:List Nat}{n:Nat}(hd:Di n io d=true){i:Nat}(hi:i∈io):(a.put d v).tmps.getD i undef=a.tmps.getD i undef:=by
 cases d with
 |none=>rfl
 |some d=>
  simp only[Di,ba,lJ]at hd
  have h1:=hd.2 i hi
  have gY:i≠d:=by
   intro e;subst e
   simp at h1
  show(a.tmps.setIfInBounds d v).getD i undef=_
  rw[nf,nf,C0 (cZ gY)]
theorem Inv.bool(h:Inv c E σ a w){x:Operand}{b:Bool}(hx:σ.ρ x= .val .bool b):a.eval x= .bool b:=by
 obtain⟨⟨M,ν,hc⟩,_,_,_⟩:=h
 have:=hc.ev x
 rw[hx]at this
 exact this.bool
theorem vK(hE:mI P E){ops:Array Oper}(hI:Inv c E σ a w){K:St→List Nat→List Nat→Option α}(h:oc E ops.toList o σ K=some r)
  (hn: ∀σ' a' w' rd wr,K σ' rd wr=some r→Inv c E σ' a' w'→next a' w'):
  if Region.wanted o (yielded ops a.tmps)then o.wp P a w next Q else next (a.put o.dst undef) w:=by
 unfold oc at h
 obtain⟨hd,h⟩:=bn h
 have cr:nn E o σ.ρ σ.H (λv rd ups=>K ((σ.p7 ups).pE o.dst v) rd (ups.map (·.1)))=some r→o.wp P a w next Q:=by
  intro h
  obtain⟨⟨M,ν,hc⟩,hs,Sw,qw⟩:=hI
  refine I2 hE hc h λv rd ups v' w' M' ν' hK dP hV=> ?_
  refine hn _ _ _ _ _ hK ⟨⟨M',ν',?_⟩,by rw[DN,hs],by rw[put_defers,Sw],λi hi=>(HT hd hi).trans (qw i hi)⟩
  have h1:=hc.tr dP
  have h2:σ.p7 ups=⟨σ.T,bM σ.H ups⟩:=by rw[←Gm,←Gn ups σ]
  rw[h2]
  exact h1.pE (by rw[hs];exact hd) hV a.defers
 have yx: ∀rd wr,K (σ.pE o.dst .Kw) rd wr=some r→next (a.put o.dst undef) w:=by
  intro rd wr h
  obtain⟨⟨M,ν,hc⟩,hs,Sw,qw⟩:=hI
  refine hn _ _ _ _ _ h ⟨⟨M,ν,hc.pE (by rw[hs];exact hd) (by simp[VR]) a.defers⟩,by rw[DN,hs],by rw[put_defers,Sw],λi hi=>(HT hd hi).trans (qw i hi)⟩
 simp only at h
 split at h
 ·rename_i hg
  have:Region.wanted o (yielded ops a.tmps)=true:=by simp[Region.wanted,hg]
  rw[ae this]
  exact cr h
 ·rename_i j want hg
  split at h
  ·cases h
  ·rename_i t ht
   have ht':(ops[j]?).bind (·.dst)=some t:=by rw[←eI];exact ht
   have hy: ∀b,σ.T t= .val .bool b→yielded ops a.tmps j=some b:=by
    intro b hb
    obtain⟨⟨M,ν,hc⟩,hs,_,_⟩:=hI
    have h1:=hc.tmp t
    rw[hb]at h1
    have h1:=h1.bool
    have h2:a.tmps[t]? =some (.bool b):=by
     rw[nf]at h1
     cases h3:a.tmps[t]? with
     |none=>rw[h3]at h1;simp[undef]at h1
     |some v=>rw[h3]at h1;simpa using h1
    simp[yielded,ht',h2]
   split at h
   ·rename_i b hb
    have lC:σ.put t (.val .bool b)=σ:=by rw[←hb];exact yw σ t
    have hw:=hy b hb
    cases want<;>cases b
    ·rw[ae (by simp[Region.wanted,hg,hw])]
     rw[lC]at h;exact cr h
    ·rw[af (by simp[Region.wanted,hg,hw])]
     rw[lC]at h;exact yx _ _ h
    ·rw[af (by simp[Region.wanted,hg,hw])]
     rw[lC]at h;exact yx _ _ h
    ·rw[ae (by simp[Region.wanted,hg,hw])]
     rw[lC]at h;exact cr h
   ·rename_i hb
    have tB: ¬Region.wanted o (yielded ops a.tmps)=true:=by
     obtain⟨⟨M,ν,hc⟩,hs,_,_⟩:=hI
     have h1:=hc.tmp t
     rw[hb]at h1
     simp only[VR]at h1
     have h2: ∀b,a.tmps[t]? ≠some (.bool b):=by
      intro b cY
      rw[nf,cY]at h1
      simp[undef]at h1
     have h3:yielded ops a.tmps j=none:=by
      unfold yielded
      rw[ht']
      show(match a.tmps[t]? with|some (.bool b)=>some b|_=>none)=none
      split
      ·rename_i b cY;exact absurd cY (h2 b)
      ·rfl
     simp[Region.wanted,hg,h3]
    rw[af tB]
    exact yx _ _ h
   ·cases h
theorem yz(hE:mI P E){ops:Array Oper}: ∀(l:List Oper) (i:Nat) (σ:St) (lg:Log) (a:Act) (w:World) (K:St→Log→Option α),Inv c E σ a w→IB E ops.toList l i σ lg K=some r→
  (∀σ' Q5 a' w',K σ' Q5=some r→Inv c E σ' a' w'→Q .normal a' w')→wpList P ops Q l a w
 |[],i,σ,lg,a,w,K,hI,h,hn=>hn _ _ _ _ h hI
 |o::l,i,σ,lg,a,w,K,hI,h,hn=>by
  unfold IB at h
  refine wpList_step λK' Z6=> ?_
  exact vK hE hI h fun σ' a' w' rd wr h' vL=>Z6 _ _ (yz hE l (i+1) σ' _ a' w' K vL h' hn)
theorem DO(hI:Inv c E σ a w){x:Operand}{A B:St→Option α}(h:AE E x σ A B=some r): ∃b,a.eval x= .bool b∧(if b then A σ else B σ)=some r:=by
 unfold AE at h
 split at h
 ·rename_i b hb
  refine⟨b,hI.bool hb,?_⟩
  split at h
  ·rename_i t
   have hb:σ.T t= .val .bool b:=hb
   have lC:σ.put t (.val .bool b)=σ:=by rw[←hb];exact yw σ t
   cases b
   ·rw[lC]at h;exact h
   ·rw[lC]at h;exact h
  ·cases b<;>exact h
 ·cases h
end VM
end
section
namespace VM
open Go
variable{P:Program}{E:Env}{o:Oper}{a:Act}{w:World}{M:Nat→Prop}{ν:Nat→Value}{σ:St}{c:Ctx}{α:Type}{r:α}{next:Act→World→Prop}{Q:Exit→Act→World→Prop}
def mix{β:Type}(A B:Nat→β):Nat→β:=λi=>if i%2=0 then A (i/2)else B (i/2)
theorem eZ{β:Type}(A B:Nat→β)(i:Nat):mix A B (2*i)=A i:=by
 unfold mix
 rw[ae ω,show 2*i/2=i from by omega]
theorem px{β:Type}(A B:Nat→β)(i:Nat):mix A B (2*i+1)=B i:=by
 unfold mix
 rw[af ω,show(2*i+1)/2=i from by omega]
theorem Vt{β:Type}{A B A' B':Nat→β}(hl: ∀i,A i=A' i)(hr: ∀i,B i=B' i):mix A B=mix A' B':=by
 funext i;unfold mix;rw[hl,hr]
def aI.re(f:Nat→Nat):aI→aI
 | .dT τ x p j=> .dT τ x p (f j)
 |e=>e
theorem ER.re{v:Value}{f:Nat→Nat}{e:aI}:ER w M v (e.re f)↔ER w M v e:=by cases e<;>simp[aI.re,ER]
theorem aI.mJ{f:Nat→Nat}{e:aI}:(e.re f).mut↔e.mut:=by cases e<;>simp[aI.re,aI.mut]
theorem aI.HU{f g:Nat→Nat}{e e':aI}:(e.re f).gR (e'.re g)↔e.gR e':=by cases e<;>cases e'<;>simp[aI.re,aI.gR]
def ml(i:Nat):Nat:=2*i
def mr(i:Nat):Nat:=2*i+1
def fI(A B:Nat→Option aI):Nat→Option aI:=λi=>if i%2=0 then(A (i/2)).map (aI.re ml)else(B (i/2)).map (aI.re mr)
theorem sm(A B:Nat→Option aI)(i:Nat):fI A B (2*i)=(A i).map (aI.re ml):=by
 unfold fI
 rw[ae ω,show 2*i/2=i from by omega]
theorem oN(A B:Nat→Option aI)(i:Nat):fI A B (2*i+1)=(B i).map (aI.re mr):=by
 unfold fI
 rw[af ω,show(2*i+1)/2=i from by omega]
theorem fe{A B:Nat→Option aI}{i:Nat}{e:aI}(h:A i=some e):fI A B (2*i)=some (e.re ml):=by rw[sm,h];rfl
theorem oO{A B:Nat→Option aI}{i:Nat}{e:aI}(h:B i=some e):fI A B (2*i+1)=some (e.re mr):=by rw[oN,h];rfl
theorem BR{A B:Nat→Option aI}{i:Nat}:fI A B (2*i)≠none↔A i≠none:=by rw[sm];cases A i<;>simp
theorem BS{A B:Nat→Option aI}{i:Nat}:fI A B (2*i+1)≠none↔B i≠none:=by rw[oN];cases B i<;>simp
theorem mK(A B:Nat→Option aI)(i:Nat)(v:Option aI):a8 (fI A B) (2*i) (v.map (aI.re ml))=fI (a8 A i v) B:=by
 funext k
 by_cases hk:k=2*i
 ·subst hk;rw[al,sm,al]
 ·rw[aq _ _ hk]
  unfold fI
  by_cases h2:k%2=0
  ·rw[ae h2,ae h2,aq _ _ ω]
  ·rw[af h2,af h2]
theorem yA(A B:Nat→Option aI)(i:Nat)(v:Option aI):a8 (fI A B) (2*i+1) (v.map (aI.re mr))=fI A (a8 B i v):=by
 funext k
 by_cases hk:k=2*i+1
 ·subst hk;rw[al,oN,al]
 ·rw[aq _ _ hk]
  unfold fI
  by_cases h2:k%2=0
  ·rw[ae h2,ae h2]
  ·rw[af h2,af h2,aq _ _ ω]
theorem updν_mix_r(A B:Nat→Value)(i:Nat)(v:Value):updν (mix A B) (2*i+1) v=mix A (updν B i v):=by
 funext k
 unfold updν mix
 by_cases hk:k=2*i+1
 ·subst hk;rw[ae rfl,af ω]
  show v=if(2*i+1)/2=i then v else B ((2*i+1)/2)
  rw[ae ω]
 ·rw[af hk]
  by_cases h2:k%2=0
  ·rw[ae h2,ae h2]
  ·rw[af h2,af h2]
   show B (k/2)=if k/2=i then v else B (k/2)
   rw[af ω]
theorem Mem.left{H A:Nat→Option aI}{νA:Nat→Value}(h:Mem c (fI H A) w M (mix ν νA)):Mem c H w M ν:=
 ⟨λi e hi=>by have:=h.fM (2*i) _ (fe hi);rw[eZ]at this;exact ER.re.1 this,
  λi j e e' b ns hi hm hj fc=>by have:=h.tt (2*i) (2*j) _ _ b ω (fe hi) (aI.mJ.2 hm) (fe hj) (aI.mJ.2 fc);rwa [eZ,eZ]at this,
  λi e b hi hm=>by have:=h.new (2*i) _ b (fe hi) (aI.mJ.2 hm);rwa [eZ]at this,
  λi e l b hi=>by have:=h.jE (2*i) e l b (fe hi);rwa [eZ]at this,
  λi τ x p j hi=>by
   obtain⟨h1,b,h2,h3⟩:=h.dT (2*i) τ x p (ml j) (fe hi)
   rw[eZ]at h2
   unfold ml at h1 h3
   rw[eZ]at h3
   exact⟨BR.1 h1,b,h2,h3⟩,
  h.sub,h.xT,h.frame,h.size,h.pI,h.os,h.tape,h.output⟩
theorem Mem.right{H A:Nat→Option aI}{νA:Nat→Value}(h:Mem c (fI H A) w M (mix ν νA)):Mem c A w M νA:=
 ⟨λi e hi=>by have:=h.fM (2*i+1) _ (oO hi);rw[px]at this;exact ER.re.1 this,
  λi j e e' b ns hi hm hj fc=>by have:=h.tt (2*i+1) (2*j+1) _ _ b ω (oO hi) (aI.mJ.2 hm) (oO hj) (aI.mJ.2 fc);rwa [px,px]at this,
  λi e b hi hm=>by have:=h.new (2*i+1) _ b (oO hi) (aI.mJ.2 hm);rwa [px]at this,
  λi e l b hi=>by have:=h.jE (2*i+1) e l b (oO hi);rwa [px]at this,
  λi τ x p j hi=>by
   obtain⟨h1,b,h2,h3⟩:=h.dT (2*i+1) τ x p (mr j) (oO hi)
   rw[px]at h2
   unfold mr at h1 h3
   rw[px]at h3
   exact⟨BS.1 h1,b,h2,h3⟩,
  h.sub,h.xT,h.frame,h.size,h.pI,h.os,h.tape,h.output⟩
theorem Mem.NX{H:Nat→Option aI}(νA:Nat→Value)(h:Mem c H w M ν):Mem c (fI H (λ_=>none)) w M (mix ν νA):=by
 have key: ∀i e,fI H (λ_=>none) i=some e→ ∃j e0,i=2*j∧H j=some e0∧e=e0.re ml:=by
  intro i e hi
  unfold fI at hi
  by_cases h2:i%2=0
  ·rw[ae h2]at hi
   obtain⟨e0,h3,h4⟩:=sV.1 hi
   exact⟨i/2,e0,ω,h3,h4.symm⟩
  ·rw[af h2]at hi;cases hi
 refine⟨λi e hi=> ?_,λi j e e' b ns hi hm hj fc=> ?_,λi e b hi hm=> ?_,λi e l b hi=> ?_,λi τ x p j hi=> ?_,h.sub,h.xT,h.frame,h.size,h.pI,h.os,h.tape,h.output⟩
 ·obtain⟨j,e0,rfl,hj,rfl⟩:=key i e hi;rw[eZ];exact ER.re.2 (h.fM j e0 hj)
 ·obtain⟨i',e1,rfl,po,rfl⟩:=key i e hi;obtain⟨j',e2,rfl,Q6,rfl⟩:=key j e' hj
  rw[eZ,eZ];exact h.tt i' j' e1 e2 b ω po (aI.mJ.1 hm) Q6 (aI.mJ.1 fc)
 ·obtain⟨j,e0,rfl,hj,rfl⟩:=key i e hi;rw[eZ];exact h.new j e0 b hj (aI.mJ.1 hm)
 ·obtain⟨j,e0,rfl,hj,he⟩:=key i _ hi
  cases e0<;>simp only[aI.re]at he<;>cases he
  rw[eZ];exact h.jE j e l b hj
 ·obtain⟨k,e0,rfl,hk,he⟩:=key i _ hi
  cases e0<;>simp only[aI.re]at he<;>cases he
  obtain⟨h1,b,h2,h3⟩:=h.dT k _ _ _ _ hk
  refine⟨BR.2 h1,b,by rw[eZ];exact h2,?_⟩
  unfold ml
  rw[eZ];exact h3
theorem nM.left{H A H' A':Nat→Option aI}{νA ν' νA':Nat→Value}(g:nM (fI H A) (mix ν νA) (fI H' A') (mix ν' νA')):nM H ν H' ν':=
 ⟨λi e hi=>by
   obtain⟨e',h1,h2⟩:=g.fM (2*i) _ (fe hi)
   rw[sm]at h1
   obtain⟨e0,h3,rfl⟩:=sV.1 h1
   exact⟨e0,h3,aI.HU.1 h2⟩,
  λi hi=>by have:=g.head (2*i) (BR.2 hi);rwa [eZ,eZ]at this⟩
theorem nM.right{H A H' A':Nat→Option aI}{νA ν' νA':Nat→Value}(g:nM (fI H A) (mix ν νA) (fI H' A') (mix ν' νA')):nM A νA A' νA':=
 ⟨λi e hi=>by
   obtain⟨e',h1,h2⟩:=g.fM (2*i+1) _ (oO hi)
   rw[oN]at h1
   obtain⟨e0,h3,rfl⟩:=sV.1 h1
   exact⟨e0,h3,aI.HU.1 h2⟩,
  λi hi=>by have:=g.head (2*i+1) (BS.2 hi);rwa [px,px]at this⟩
theorem Mem.move{H A:Nat→Option aI}{νA:Nat→Value}(h:Mem c (fI H A) w M (mix ν νA)){i j:Nat}{e e1:aI}(hi:H i=some e)(hm:e.mut)(hj:A j=none)
  (yd:(e1=e∧ ∀τ x p k,e≠ .dT τ x p k)∨ ∃τ x p k k',e= .dT τ x p k∧e1= .dT τ x p k'∧A k'≠none∧νA k'=ν k):
  Tr c (fI H A) w M (mix ν νA) (fI (a8 H i (some .gone)) (a8 A j (some e1))) w M (mix ν (updν νA j (ν i))):=by
 have hg:=Tr.gone h (2*i)
 have hgo:(some aI.gone)=(some aI.gone).map (aI.re ml):=rfl
 rw[hgo,mK]at hg
 have HR:=fe (B:=A) hi
 have hER:ER w M (ν i) (e1.re mr):=by
  have h1:=h.fM (2*i) _ HR
  rw[eZ]at h1
  have h1:=ER.re.1 h1
  rcases yd with⟨rfl,_⟩|⟨τ,x,p,k,k',rfl,rfl,_,_⟩
  ·exact ER.re.2 h1
  ·exact h1
 have h2:=Mem.qv hg.mem (id:=2*j+1) (v:=ν i) (e:=e1.re mr) (λe' nV=>by rw[oN,hj]at nV;cases nV)
  hER
  (λb hb k e' hk fc=>by
   by_cases IX:k=2*i
   ·subst IX;rw[sm,al]at hk;cases hk;simp[aI.re,aI.mut]at fc
   ·have Vu:fI H A k=some e':=by
     have:=congrFun (mK H A i (some .gone)) k
     rw[aq _ _ IX]at this
     rw[this];exact hk
    have:=h.tt (2*i) k _ e' b (cZ IX) HR (aI.mJ.2 hm) Vu fc
    rw[eZ]at this
    exact this hb)
  (λb hb=>by have:=h.new (2*i) _ b HR (aI.mJ.2 hm);rw[eZ]at this;exact this hb)
  (λb e0 l0 he hb=>by
   rcases yd with⟨rfl,_⟩|⟨τ,x,p,k,k',rfl,rfl,_,_⟩
   ·cases e1<;>simp only[aI.re]at he<;>cases he
    have:=h.jE (2*i) e0 l0 b HR;rw[eZ]at this;exact this hb
   ·simp[aI.re]at he)
  (.inl (by rw[oN,hj];rfl))
  (fun τ x p k he=>by
   rcases yd with⟨rfl,hn⟩|⟨τ,x,p,k,k',rfl,rfl,hk,hνk⟩
   ·cases e1<;>simp only[aI.re]at he<;>cases he
    exact absurd rfl (hn _ _ _ _)
   ·simp only[aI.re]at he
    cases he
    obtain⟨_,b,h4,h5⟩:=h.dT (2*i) _ _ _ _ HR
    rw[eZ]at h4
    have ZX:k'≠j:=λe=>hk (e▸hj)
    refine⟨?_,b,h4,?_⟩
    ·rw[aq _ _ (by unfold mr;omega)]
     unfold mr
     exact BS.2 hk
    ·unfold ml at h5
     rw[eZ]at h5
     rw[h5,←hνk]
     have:updν (mix ν νA) (2*j+1) (ν i) (mr k')=mix ν νA (mr k'):=by
      unfold updν mr;rw[af ω]
     rw[this];unfold mr;rw[px])
 have KY:some (e1.re mr)=(some e1).map (aI.re mr):=rfl
 rw[KY,yA,updν_mix_r]at h2
 refine⟨h2,.refl w M,⟨λk e' hk=> ?_,λk hk=> ?_⟩⟩
 ·by_cases h3:k%2=0
  ·obtain⟨k',rfl⟩: ∃k',k=2*k':=⟨k/2,ω⟩
   by_cases zV:k'=i
   ·subst zV;exact⟨.gone,by rw[sm,al];rfl,aI.fV _⟩
   ·exact⟨e',by rw[sm]at hk ⊢;rw[aq _ _ zV];exact hk,.refl e'⟩
  ·obtain⟨k',rfl⟩: ∃k',k=2*k'+1:=⟨k/2,ω⟩
   rw[oN]at hk ⊢
   have zV:k'≠j:=λe=>by rw[e,hj]at hk;cases hk
   exact⟨e',by rw[aq _ _ zV];exact hk,.refl e'⟩
 ·by_cases h3:k%2=0
  ·obtain⟨k',rfl⟩: ∃k',k=2*k':=⟨k/2,ω⟩
   rw[eZ,eZ]
  ·obtain⟨k',rfl⟩: ∃k',k=2*k'+1:=⟨k/2,ω⟩
   rw[px,px]
   have zV:k'≠j:=λe=>by rw[oN,e,hj]at hk;exact hk rfl
   simp[updν,zV]
theorem Mem.fresh{H A:Nat→Option aI}{νA:Nat→Value}(h:Mem c (fI H A) w M (mix ν νA)){j:Nat}(hj:A j=none)(e:Ty)(ad:Option Addr):
  Tr c (fI H A) w M (mix ν νA) (fI H (a8 A j (some (.own e [])))) w M (mix ν (updν νA j (.slice ad 0 0))):=by
 have:=Tr.nothing h (id:=2*j+1) (by rw[oN,hj];rfl) e ad
 have KY:some (aI.own e [])=(some (aI.own e [])).map (aI.re mr):=rfl
 rw[KY,yA,updν_mix_r]at this
 exact this
structure Cut(c:Ctx)(σ acc:St)(tm:Array Value)(w:World)(M:Nat→Prop)(ν νA:Nat→Value):Prop where
 mem:Mem c (fI σ.H acc.H) w M (mix ν νA)
 src: ∀i,VR w M σ.H ν (σ.T i) (tm.getD i undef)
 dst: ∀i,VR w M acc.H νA (acc.T i) (tm.getD i undef)
theorem Cut.tr{acc:St}{tm:Array Value}{νA:Nat→Value}(h:Cut c σ acc tm w M ν νA){H' A':Nat→Option aI}{M':Nat→Prop}{νA':Nat→Value}(t:Tr c (fI σ.H acc.H) w M (mix ν νA) (fI H' A') w M' (mix ν νA')){s:Nat}{x:aM}(hx:VR w M' A' νA' x (tm.getD s undef)):
  Cut c ⟨σ.T,H'⟩ ⟨(acc.put s x).T,A'⟩ tm w M' ν νA':=by
 refine⟨t.mem,λi=>VR.bm t.bm t.goes.left (h.src i),λi=> ?_⟩
 show VR w M' A' νA' ((acc.put s x).T i) _
 by_cases hi:i=s
 ·subst hi;rw[oM];exact hx
 ·rw[tL _ _ hi];exact VR.bm t.bm t.goes.right (h.dst i)
def KZ(A:Nat→Option aI)(s:Nat):Prop:=A (16*s+13)=none∧A (16*s+14)=none∧A (16*s+15)=none
theorem iM{q:Nat×CM}{L:List (Nat×CM)}{A:Nat→Option aI}(hF:gz (q::L)=true)(hN: ∀p∈q::L,KZ A p.1):
  gz L=true∧(∀p∈L,KZ A p.1)∧
   ∀(A':Nat→Option aI) (d:Nat) (v:Option aI),(d=16*q.1+13∨d=16*q.1+14∨d=16*q.1+15)→(∀p∈L,KZ A' p.1)→ ∀p∈L,KZ (a8 A' d v) p.1:=by
 unfold gz at hF
 rw[ba,lJ]at hF
 refine⟨hF.2,λp hp=>hN p (aU _ hp),λA' d v hd hN' p hp=> ?_⟩
 have gY:p.1≠q.1:=λe=>by
  have:=hF.1 p hp
  rw[e]at this
  simp at this
 obtain⟨h1,h2,h3⟩:=hN' p hp
 exact⟨by rw[aq _ _ ω];exact h1,by rw[aq _ _ ω];exact h2,by rw[aq _ _ ω];exact h3⟩
theorem dj{tm:Array Value}: ∀(L:List (Nat×CM)) (σ acc:St) (M:Nat→Prop) (νA:Nat→Value) (K:St→Option α),Cut c σ acc tm w M ν νA→gz L=true→(∀q∈L,KZ acc.H q.1)→eS L σ acc K=some r→
  ∃NY M' νA',K NY=some r∧Core c NY tm w M' νA'
 |[],σ,acc,M,νA,K,hC,_,_,h=>⟨acc,M,νA,h,hC.mem.right,hC.dst⟩
 |(s,.v τ)::L,σ,acc,M,νA,K,hC,hF,hN,h=>by
  obtain⟨Gg,Gh,I3⟩:=iM hF hN
  unfold eS at h
  obtain⟨y,rd,ups,h,hy⟩:=w5 hC.mem.left (hC.src s) h
  rcases hy with⟨rfl,hV⟩|⟨id,e,l,rfl,aF,hV⟩
  ·exact dj L σ _ M νA K (hC.tr (.refl hC.mem) (x:= .val τ y) (by simp only[VR];exact hV)) Gg Gh h
  ·obtain⟨M2,dP,_,BJ⟩:=Tr.freeze hC.mem (id:=2*id) (fe aF)
   have KY:some (aI.ke e l)=(some (aI.ke e l)).map (aI.re ml):=rfl
   rw[KY,mK]at dP
   refine dj L _ _ M2 νA K (hC.tr dP (x:= .val τ y) ?_) Gg Gh h
   simp only[VR]
   exact hV M2 (λb=>by rw[BJ b,eZ])
 |(s,.own e)::L,σ,acc,M,νA,K,hC,hF,hN,h=>by
  obtain⟨Gg,Gh,I3⟩:=iM hF hN
  unfold eS at h
  have hs:=hC.src s
  split at h
  ·rename_i hT
   have hj:=(hN _ bg).2.1
   rw[hT]at hs
   obtain⟨ad,hv⟩:=VR.emp.1 hs
   refine dj L σ _ M _ K (hC.tr (hC.mem.fresh hj e ad) (x:= .ref (16*s+14)) ?_) Gg (I3 _ _ _ (.inr (.inl rfl)) Gh) h
   simp only[VR]
   exact⟨by rw[al];simp,by rw[hv];simp[updν]⟩
  ·rename_i id hT
   rw[hT]at hs
   simp only[VR]at hs
   split at h
   ·rename_i e' l aF
    obtain⟨e1,h⟩:=aJ h
    cases e1
    have hj:=(hN _ bg).2.1
    refine dj L _ _ M _ K (hC.tr (hC.mem.move aF trivial hj (.inl ⟨rfl,λ_ _ _ _=>by simp⟩)) (x:= .ref (16*s+14)) ?_) Gg (I3 _ _ _ (.inr (.inl rfl)) Gh) h
    simp only[VR]
    exact⟨by rw[al];simp,by rw[hs.2];simp[updν]⟩
   ·cases h
  ·cases h
 |(s,.obj τ)::L,σ,acc,M,νA,K,hC,hF,hN,h=>by
  obtain⟨Gg,Gh,I3⟩:=iM hF hN
  unfold eS at h
  have hs:=hC.src s
  split at h
  ·rename_i id hT
   rw[hT]at hs
   split at h
   ·rename_i υ x aF
    obtain⟨e1,h⟩:=aJ h
    subst e1
    have hj:=(hN _ bg).2.1
    simp only[VR]at hs
    obtain⟨e,he,gT⟩:=hs
    rw[aF]at he;cases he
    simp only[AR]at gT
    obtain⟨_,b,hb,hv⟩:=gT
    refine dj L _ _ M _ K (hC.tr (hC.mem.move aF trivial hj (.inl ⟨rfl,λ_ _ _ _=>by simp⟩)) (x:= .ft (16*s+14) []) ?_) Gg (I3 _ _ _ (.inr (.inl rfl)) Gh) h
    simp only[VR]
    exact⟨_,al _ _ _,trivial,b,by simp[updν,hb],hv⟩
   ·
    rename_i υ x q k aF
    obtain⟨z,ups,M2,hK,dP,Ww,b,cs,t,hb,hg,BJ,gK⟩: ∃z ups M2,bw υ τ z (λy=>eS L ((σ.p7 ups).fY id (some .gone)) ((acc.put s (.ft (16*s+14) [])).fY (16*s+14) (some (.obj τ y))) K)=some r∧
      Tr c (fI σ.H acc.H) w M (mix ν νA) (fI (bM σ.H ups) acc.H) w M2 (mix ν νA)∧bM σ.H ups id=some (.dT υ x q k)∧ ∃b cs t,ν id= .pointer (some ⟨b,0,none⟩)∧w.heap[b]? =some (.cells cs t (0,0))∧M2 b∧Rd w M2 υ cs.toList z:=by
     have Wx:=fe (B:=acc.H) aF
     unfold wA at h
     split at h
     ·rename_i e l hk
      have gY:id≠k:=λe=>by rw[e,hk]at aF;cases aF
      obtain⟨z,ups,M2,hK,dP,_,Si,b,cs,t,hb,hg,BJ,gK⟩:=sf (H:=fI σ.H acc.H) hC.mem (id:=2*id) (j:=2*k) (x:=x) (q:=q)
       (k:=λz _=>bw υ τ z λy=>eS L ((σ.p7 [(k,some (.ke e l))]).fY id (some .gone)) ((acc.put s (.ft (16*s+14) [])).fY (16*s+14) (some (.obj τ y))) K) Wx (by
        unfold wA
        rw[fe hk]
        exact h)
      rw[eZ]at hb
      rcases Si with⟨e2,l2,h2,_⟩|⟨e2,l2,h2,rfl⟩
      ·rw[fe hk]at h2;simp[aI.re]at h2
      ·rw[fe hk]at h2
       simp only[aI.re,eJ]at h2
       have KY:some (aI.ke e l)=(some (aI.ke e l)).map (aI.re ml):=rfl
       have qm:Tr c (fI σ.H acc.H) w M (mix ν νA) (a8 (fI σ.H acc.H) (2*k) (some (.ke e l))) w M2 (mix ν νA):=by
        cases h2;exact dP
       rw[KY,mK]at qm
       exact⟨z,_,M2,hK,qm,by show a8 σ.H k _ id=_;rw[aq _ _ gY];exact aF,b,cs,t,hb,hg,BJ,gK⟩
     ·rename_i e l hk
      obtain⟨z,ups,M2,hK,dP,_,Si,b,cs,t,hb,hg,BJ,gK⟩:=sf (H:=fI σ.H acc.H) hC.mem (id:=2*id) (j:=2*k) (x:=x) (q:=q)
       (k:=λz _=>bw υ τ z λy=>eS L ((σ.p7 []).fY id (some .gone)) ((acc.put s (.ft (16*s+14) [])).fY (16*s+14) (some (.obj τ y))) K) Wx (by
        unfold wA
        rw[fe hk]
        exact h)
      rw[eZ]at hb
      rcases Si with⟨e2,l2,h2,rfl⟩|⟨e2,l2,h2,_⟩
      ·exact⟨z,[],M2,hK,dP,aF,b,cs,t,hb,hg,BJ,gK⟩
      ·rw[fe hk]at h2;simp[aI.re]at h2
     ·cases h
    obtain⟨e1,hK⟩:=aJ hK
    subst e1
    have hC2:Cut c ⟨σ.T,bM σ.H ups⟩ acc tm w M2 ν νA:=⟨dP.mem,λi=>VR.bm dP.bm dP.goes.left (hC.src i),λi=>VR.bm dP.bm dP.goes.right (hC.dst i)⟩
    have HM:=Tr.V1 (e':= .obj υ z) dP.mem (fe Ww) trivial trivial rfl (λ_ _=>by simp) (by rw[eZ];simp only[ER];exact⟨b,cs,t,hb,hg,BJ,gK⟩) (λ_ _ _ _ h=>by cases h)
    have KY:some (aI.obj υ z)=(some (aI.obj υ z)).map (aI.re ml):=rfl
    rw[KY,mK]at HM
    have hC3:Cut c ⟨σ.T,a8 (bM σ.H ups) id (some (.obj υ z))⟩ acc tm w M2 ν νA:=⟨HM.mem,λi=>VR.bm HM.bm HM.goes.left (hC2.src i),λi=>VR.bm HM.bm HM.goes.right (hC2.dst i)⟩
    have hj:=(hN _ bg).2.1
    simp only[VR]at hs
    obtain⟨e,he,gT⟩:=hs
    rw[aF]at he;cases he
    simp only[AR]at gT
    obtain⟨_,b',cY,hv⟩:=gT
    rw[hb]at cY;cases cY
    have hmv:=hC3.mem.move (al _ _ _) trivial hj (.inl ⟨rfl,λ_ _ _ _=>by simp⟩)
    rw[se]at hmv
    have sM:(σ.p7 ups).fY id (some .gone)=⟨σ.T,a8 (bM σ.H ups) id (some .gone)⟩:=by
     have h2:σ.p7 ups=⟨σ.T,bM σ.H ups⟩:=by rw[←Gm,←Gn ups σ]
     rw[h2];rfl
    rw[sM]at hK
    refine dj L _ _ M2 _ K (hC3.tr hmv (x:= .ft (16*s+14) []) ?_) Gg (I3 _ _ _ (.inr (.inl rfl)) Gh) hK
    simp only[VR]
    exact⟨_,al _ _ _,trivial,b,by simp[updν,hb],hv⟩
   ·cases h
  ·cases h
 |(s,.dT τ q e)::L,σ,acc,M,νA,K,hC,hF,hN,h=>by
  obtain⟨Gg,Gh,I3⟩:=iM hF hN
  unfold eS at h
  have hs:=hC.src s
  split at h
  ·rename_i id hT
   rw[hT]at hs
   split at h
   ·rename_i υ x q' k aF
    obtain⟨ND,h1⟩:=bn h
    clear h
    have:=sb ND
    subst this
    split at h1
    ·rename_i e' l hk
     obtain⟨e1,h2⟩:=aJ h1
     clear h1
     subst e1
     obtain⟨e2,h⟩:=aJ h2
     cases e2
     have gY:id≠k:=λe=>by rw[e,hk]at aF;cases aF
     obtain⟨aaR,aaS,_⟩:=hN _ bg
     simp only[VR]at hs
     obtain⟨e,he,gT⟩:=hs
     rw[aF]at he;cases he
     simp only[AR]at gT
     obtain⟨_,b,hb,hv⟩:=gT
     have nN:=hC.mem.move hk trivial aaR (.inl ⟨rfl,λ_ _ _ _=>by simp⟩)
     have k6:a8 σ.H k (some .gone) id=some (.dT υ x q k):=by rw[aq _ _ gY];exact aF
     have qY:=nN.mem.move k6 trivial (j:=16*s+14) (e1:= .dT υ x q (16*s+13)) (by rw[aq _ _ ω];exact aaS)
      (.inr ⟨υ,x,q,k,16*s+13,rfl,rfl,by rw[al];simp,by simp[updν]⟩)
     refine dj L _ _ M _ K (hC.tr (nN.trans qY) (s:=s) (x:= .ft (16*s+14) []) ?_) Gg (I3 _ _ _ (.inr (.inl rfl)) (I3 _ _ _ (.inl rfl) Gh)) h
     simp only[VR]
     exact⟨_,al _ _ _,trivial,b,by simp[updν,hb],hv⟩
    ·cases h1
   ·cases h
  ·cases h
 |(s,.same s')::L,σ,acc,M,νA,K,hC,hF,hN,h=>by
  obtain⟨Gg,Gh,I3⟩:=iM hF hN
  unfold eS at h
  split at h
  ·rename_i i j j' h1 h2 h3
   obtain⟨hb,h⟩:=bn h
   have hb:=df hb
   have e1:=hC.src s
   have e2:=hC.src s'
   have e3:=hC.dst s'
   rw[h1]at e1;rw[h2]at e2;rw[h3]at e3
   simp only[VR]at e1 e2 e3
   refine dj L σ _ M νA K (hC.tr (.refl hC.mem) (x:= .ref j') ?_) Gg Gh h
   simp only[VR]
   exact⟨e3.1,by rw[e1.2,hb,←e2.2,e3.2]⟩
  ·cases h
 |(s,.io τ)::L,σ,acc,M,νA,K,hC,hF,hN,h=>by
  obtain⟨Gg,Gh,I3⟩:=iM hF hN
  unfold eS at h
  have hs:=hC.src s
  split at h
  ·rename_i id hT
   rw[hT]at hs
   obtain⟨_,h⟩:=bn h
   split at h
   ·rename_i υ x aF
    obtain⟨e1,h⟩:=aJ h
    subst e1
    have hj:=(hN _ bg).2.2
    simp only[VR]at hs
    obtain⟨e,he,gT⟩:=hs
    rw[aF]at he;cases he
    simp only[AR]at gT
    obtain⟨_,b,hb,hv⟩:=gT
    refine dj L _ _ M _ K (hC.tr (hC.mem.move aF trivial hj (.inl ⟨rfl,λ_ _ _ _=>by simp⟩)) (x:= .ft (16*s+15) []) ?_) Gg (I3 _ _ _ (.inr (.inr rfl)) Gh) h
    simp only[VR]
    exact⟨_,al _ _ _,trivial,b,by simp[updν,hb],hv⟩
   ·cases h
  ·cases h
 |(s,.fn f τ)::L,σ,acc,M,νA,K,hC,hF,hN,h=>by
  obtain⟨Gg,Gh,I3⟩:=iM hF hN
  unfold eS at h
  have hs:=hC.src s
  split at h
  ·rename_i f' cs hT
   rw[hT]at hs
   obtain⟨hb,h1⟩:=bn h
   clear h
   have hb:=df hb
   subst hb
   simp only[VR]at hs
   obtain⟨us,hv,NJ⟩:=hs
   obtain⟨y,rd,ups,h,hy⟩:=yq hC.mem.left NJ h1
   split at h
   ·refine dj L σ _ M νA K (hC.tr (.refl hC.mem) (x:= .Dh f (lA τ y)) ?_) Gg Gh h
    simp only[VR]
    exact⟨us,hv,fH.free (hy rfl)⟩
   ·cases h
  ·cases h
theorem sn(hI:Inv c E σ a w){L:Option (List (Nat×CM))}(hL: ∀L',L=some L'→gz L'=true){K:St→Option α}(h:qh L σ K=some r): ∃σ',K σ'=some r∧Inv c E σ' a w:=by
 unfold qh at h
 split at h
 ·exact⟨σ,h,hI⟩
 ·have Ni:=hL _ rfl
  obtain⟨⟨M,ν,hc⟩,hs,hd⟩:=hI
  obtain⟨NY,M',νA',hK,Wy⟩:=dj (tm:=a.tmps) _ σ ⟨λ_=> .any,λ_=>none⟩ M (λ_=>undef) K ⟨hc.mem.NX _,hc.tmp,λi=>by simp[VR]⟩ Ni (λ_ _=>⟨rfl,rfl,rfl⟩) h
  exact⟨NY,hK,⟨M',νA',Wy⟩,hs,hd⟩
end VM
end
section
namespace VM
open Go
variable{α:Type}{r:α}
theorem ct{υ τ:Ty}{y:υ.den}{k:τ.den→Option α}(h:bw υ τ y k=some r): ∃z,k z=some r∧ ∀k':τ.den→Option α,bw υ τ y k'=k' z:=by
 obtain⟨e,h⟩:=aJ h
 subst e
 exact⟨y,h,λk'=>by simp[bw]⟩
theorem dX{υ τ:Ty}{k:Option α}(h:fg υ τ k=some r):k=some r∧ ∀k':Option α,fg υ τ k'=k':=by
 obtain⟨e,h1⟩:=cy h
 clear h
 subst e
 exact⟨h1,λk'=>by simp[fg]⟩
theorem cJ{b:Bool}{K:Option α}(h:cond b K none=some r):K=some r∧ ∀K':Option α,cond b K' none=K':=by
 obtain⟨rfl,h⟩:=bn h
 exact⟨h,λ_=>rfl⟩
theorem oi{b:Bool}{K:Option α}(h:cond b none K=some r):K=some r∧ ∀K':Option α,cond b none K'=K':=by
 obtain⟨rfl,h⟩:=iW h
 exact⟨h,λ_=>rfl⟩
theorem rf: ∀{τ:Ty} {x:τ.den} {n:Nat} {k:(υ:Ty)→υ.den→Option α},oF τ x n k=some r→ ∃υ y,k υ y=some r∧ ∀k':(υ:Ty)→υ.den→Option α,oF τ x n k'=k' υ y
 | .pair a b,x,0,k,h=>⟨a,x.1,h,λ_=>rfl⟩
 | .pair a b,x,n+1,k,h=>by
  obtain⟨υ,y,h1,h2⟩:=rf (τ:=b) (x:=x.2) (n:=n) (k:=k) h
  exact⟨υ,y,h1,λk'=>h2 k'⟩
 | .int _,_,_,_,h| .bool,_,_,_,h| .str,_,_,_,h| .slice _,_,_,_,h| .unit,_,_,_,h| .arr _ _,_,_,_,h=>by simp[oF]at h
theorem so: ∀{τ:Ty} {x:τ.den} {n:Nat} {m:(υ:Ty)→υ.den→(υ.den→Option α)→Option α} {k:τ.den→Option α},
  (∀υ y (k:υ.den→Option α),m υ y k=some r→ ∃z,k z=some r∧ ∀k':υ.den→Option α,m υ y k'=k' z)→dz τ x n m k=some r→ ∃z,k z=some r∧ ∀k':τ.den→Option α,dz τ x n m k'=k' z
 | .pair a b,x,0,m,k,hm,h=>by
  obtain⟨z,h1,h2⟩:=hm a x.1 _ h
  exact⟨(z,x.2),h1,λk'=>h2 _⟩
 | .pair a b,x,n+1,m,k,hm,h=>by
  obtain⟨z,h1,h2⟩:=so (τ:=b) (x:=x.2) (n:=n) (m:=m) (k:=λz=>k (x.1,z)) hm h
  exact⟨(x.1,z),h1,λk'=>h2 (λz=>k' (x.1,z))⟩
 | .int _,_,_,_,_,_,h| .bool,_,_,_,_,_,h| .str,_,_,_,_,_,h| .slice _,_,_,_,_,_,h| .unit,_,_,_,_,_,h| .arr _ _,_,_,_,_,_,h=>by simp[dz]at h
theorem eM: ∀{p:List Step} {τ:Ty} {x:τ.den} {k:(υ:Ty)→υ.den→Option α},tj p τ x k=some r→ ∃υ y,k υ y=some r∧ ∀k':(υ:Ty)→υ.den→Option α,tj p τ x k'=k' υ y
 |[],τ,x,k,h=>⟨τ,x,h,λ_=>rfl⟩
 | .fG n::p,τ,x,k,h=>by
  obtain⟨υ,y,h1,h2⟩:=rf (h:oF τ x n _=some r)
  obtain⟨υ',y',h3,h4⟩:=eM h1
  exact⟨υ',y',h3,λk'=>(h2 _).trans (h4 k')⟩
 | .idx i::p,τ,x,k,h=>by
  cases τ with
  |arr n e=>
   obtain⟨υ',y',h3,h4⟩:=eM (p:=p) (τ:=e) (x:=γ x i e.zero) (k:=k) h
   exact⟨υ',y',h3,λk'=>h4 k'⟩
  |_=>simp[tj,RV]at h
theorem kg{υ:Ty}{y:υ.den}: ∀{p:List Step} {τ:Ty} {x:τ.den} {k:τ.den→Option α},pF υ y p τ x k=some r→ ∃z,k z=some r∧ ∀k':τ.den→Option α,pF υ y p τ x k'=k' z
 |[],τ,x,k,h=>ct h
 | .fG n::p,τ,x,k,h=>so (λ_ _ _ h=>kg h) h
 | .idx i::p,τ,x,k,h=>by
  cases τ with
  |arr n e=>
   obtain⟨z,h1,h2⟩:=kg (p:=p) (τ:=e) (x:=γ x i e.zero) (k:=λz=>k (List.set x i z)) h
   exact⟨_,h1,λk'=>h2 (λz=>k' (List.set x i z))⟩
  |_=>simp[pF,wX]at h
theorem lR{a:aM}{k:IntKind→Int→Option α}(h:pG a k=some r): ∃i n,k i n=some r∧ ∀k':IntKind→Int→Option α,pG a k'=k' i n:=by
 obtain⟨i,n,rfl,h⟩:=jo h
 exact⟨i,n,h,λ_=>rfl⟩
theorem HV{a:aM}{k:(τ:Ty)→τ.den→Option α}(h:Dj a k=some r): ∃τ x,k τ x=some r∧ ∀k':(τ:Ty)→τ.den→Option α,Dj a k'=k' τ x:=by
 unfold Dj at h
 split at h
 ·exact⟨_,_,h,λ_=>rfl⟩
 ·cases h
theorem oP{a:Option aM}{d:Int}{k:Int→Option α}(h:rG a d k=some r): ∃n,k n=some r∧ ∀k':Int→Option α,rG a d k'=k' n:=by
 cases a with
 |none=>exact⟨d,h,λ_=>rfl⟩
 |some a=>
  obtain⟨i,n,h1,h2⟩:=lR (h:pG a (λ_ x=>k x)=some r)
  exact⟨n,h1,λk'=>h2 (λ_ x=>k' x)⟩
abbrev Ag(rd:List Nat)(H H':Nat→Option aI):Prop:= ∀i∈rd,H' i=H i
theorem ki{fz:Bool}{a:aM}{H:Nat→Option aI}{τ:Ty}{k:τ.den→List Nat→fu→Option α}(h:iH fz a H τ k=some r):
  ∃y rd ups,k y rd ups=some r∧ ∀H',Ag rd H H'→ ∀k':τ.den→List Nat→fu→Option α,iH fz a H' τ k'=k' y rd ups:=by
 cases a with
 |val υ x=>
  simp only[iH]at h
  obtain⟨z,h1,h2⟩:=ct h
  refine⟨z,[],[],h1,λH' _ k'=> ?_⟩
  simp only[iH]
  exact h2 (λy=>k' y [] [])
 |BB υ x n=>
  simp only[iH]at h
  obtain⟨z,h1,h2⟩:=ct h
  refine⟨z,[],[],h1,λH' _ k'=> ?_⟩
  simp only[iH]
  exact h2 (λy=>k' y [] [])
 |emp=>
  cases τ with
  |slice e=>exact⟨[],[],[],h,λ_ _ _=>rfl⟩
  |_=>cases h
 |ref id=>
  have h:(match H id with
   |some (.own e l)=>bw (.slice e) τ l λy=>k y [id] (cond fz [(id,some (.ke e l))] [])
   |some (.ke e l)=>bw (.slice e) τ l λy=>k y [id] []
   |_=>none)=some r:=h
  cases hH:H id with
  |none=>rw[hH]at h;cases h
  |some e=>
   rw[hH]at h
   cases e with
   |own e l=>
    obtain⟨z,h1,h2⟩:=ct (h:bw (.slice e) τ l _=some r)
    refine⟨z,_,_,h1,λH' hA k'=> ?_⟩
    have:H' id=some (.own e l):=by rw[hA id (by simp),hH]
    show(match H' id with
     |some (.own e l)=>bw (.slice e) τ l λy=>k' y [id] (cond fz [(id,some (.ke e l))] [])
     |some (.ke e l)=>bw (.slice e) τ l λy=>k' y [id] []
     |_=>none)=_
    rw[this];exact h2 _
   |ke e l=>
    obtain⟨z,h1,h2⟩:=ct (h:bw (.slice e) τ l _=some r)
    refine⟨z,_,_,h1,λH' hA k'=> ?_⟩
    have:H' id=some (.ke e l):=by rw[hA id (by simp),hH]
    show(match H' id with
     |some (.own e l)=>bw (.slice e) τ l λy=>k' y [id] (cond fz [(id,some (.ke e l))] [])
     |some (.ke e l)=>bw (.slice e) τ l λy=>k' y [id] []
     |_=>none)=_
    rw[this];exact h2 _
   |obj _ _=>cases h
   |dT _ _ _ _=>cases h
   |gone=>cases h
 |any|Kw|ft _ _|mw _ _|Vb _|Dh _ _|zZ _ _ _ _|sub _ _ _=>cases h
theorem ri{id:Nat}{p:List Step}{H:Nat→Option aI}{k:Ty→Option α}(h:g7 id p H k=some r): ∃υ,k υ=some r∧ ∀H',H' id=H id→ ∀k':Ty→Option α,g7 id p H' k'=k' υ:=by
 unfold g7 at h
 split at h
 ·rename_i τ x aF
  obtain⟨υ,y,h1,h2⟩:=eM h
  exact⟨υ,h1,λH' hA k'=>by unfold g7;rw[hA,aF];exact h2 _⟩
 ·rename_i τ x _ _ aF
  obtain⟨υ,y,h1,h2⟩:=eM h
  exact⟨υ,h1,λH' hA k'=>by unfold g7;rw[hA,aF];exact h2 _⟩
 ·rename_i e l aF
  split at h
  ·obtain⟨υ,y,h1,h2⟩:=eM h
   exact⟨υ,h1,λH' hA k'=>by unfold g7;rw[hA,aF];exact h2 _⟩
  ·cases h
 ·rename_i e l aF
  split at h
  ·obtain⟨υ,y,h1,h2⟩:=eM h
   exact⟨υ,h1,λH' hA k'=>by unfold g7;rw[hA,aF];exact h2 _⟩
  ·cases h
 ·cases h
theorem rj{H:Nat→Option aI}{id:Nat}{e:aI}{K:Option α}(h:mz H id e K=some r):K=some r∧ ∀H',H' id=H id→ ∀(e':aI) (K':Option α),mz H' id e' K'=K':=by
 obtain⟨h1,h2⟩:=il h
 exact⟨h2,λH' hA e' K'=>by unfold mz;rw[hA,h1]⟩
theorem I4{b:BinOp}{k:IntKind}{x y:Int}{K:aM→Option α}(h:oG b k x y K=some r): ∃v,K v=some r∧ ∀K':aM→Option α,oG b k x y K'=K' v:=by
 cases b<;>simp only[oG]at h ⊢ <;>first
  |exact⟨_,h,λ_=>rfl⟩
  |(obtain⟨h1,h2⟩:=oi h;exact⟨_,h1,λ_=>h2 _⟩)
  |cases h
theorem Sx{b:BinOp}{k:IntKind}{x y:Int}{K:aM→Option α}(h:Nw b k x y K=some r): ∃v,K v=some r∧ ∀K':aM→Option α,Nw b k x y K'=K' v:=by
 cases b<;>simp only[Nw]at h ⊢ <;>first
  |(obtain⟨h1,h2⟩:=oi h;exact⟨_,h1,λ_=>h2 _⟩)
  |cases h
theorem K0{t:Option Ty}{op:BinOp}{τ:Ty}{x:τ.den}{υ:Ty}{y:υ.den}{K:aM→Option α}(h:xR t op τ x υ y K=some r): ∃v,K v=some r∧ ∀K':aM→Option α,xR t op τ x υ y K'=K' v:=by
 unfold xR at h ⊢
 split at h
 ·rename_i k x k' y
  cases hs:Nx op
  ·rw[hs]at h
   have h:(if k=k' then oG op k x y K else none)=some r:=h
   by_cases hk:k=k'
   ·rw[ae hk]at h
    obtain⟨v,h1,h2⟩:=I4 h
    exact⟨v,h1,λK'=>by simp only[an,ae hk];exact h2 K'⟩
   ·rw[af hk]at h;cases h
  ·rw[hs]at h
   obtain⟨v,h1,h2⟩:=Sx (h:Nw op k x y K=some r)
   exact⟨v,h1,λK'=>by simp only[aa];exact h2 K'⟩
 ·split at h
  ·cases h
  ·obtain⟨h1,h2⟩:=dX h
   obtain⟨h3,h4⟩:=cJ h1
   split at h3
   ·obtain⟨z,h5,h6⟩:=ct h3
    exact⟨_,h5,λK'=>by rw[h2,h4];exact h6 _⟩
   ·obtain⟨z,h5,h6⟩:=ct h3
    exact⟨_,h5,λK'=>by rw[h2,h4];exact h6 _⟩
   ·cases h3
theorem NZ{u:UnOp}{a:aM}{K:aM→Option α}(h:IA u a K=some r): ∃v,K v=some r∧ ∀K':aM→Option α,IA u a K'=K' v:=by
 unfold IA at h
 split at h<;>first
  |exact⟨_,h,λ_=>rfl⟩
  |cases h
theorem Gx{up:Bool}: ∀{xs:List aM} {a:aM} {K:aM→Option α},M6 up a xs K=some r→ ∃v,K v=some r∧ ∀K':aM→Option α,M6 up a xs K'=K' v
 |[],a,K,h=>⟨a,h,λ_=>rfl⟩
 |b::xs,a,K,h=>by
  unfold M6 at h
  obtain⟨k,x,h1,h2⟩:=lR h
  obtain⟨k',y,h3,h4⟩:=lR h1
  by_cases hk:k=k'
  ·rw[ae hk]at h3
   obtain⟨v,h5,h6⟩:=Gx h3
   refine⟨v,h5,λK'=> ?_⟩
   unfold M6
   rw[h2,h4,ae hk]
   exact h6 K'
  ·rw[af hk]at h3;cases h3
theorem N0{τ:Ty}{a:aM}{H:Nat→Option aI}{K:eo α}(h:Dl τ a H K=some r): ∃v rd ups,K v rd ups=some r∧ ∀H',Ag rd H H'→ ∀K':eo α,Dl τ a H' K'=K' v rd ups:=by
 unfold Dl at h
 split at h
 ·exact⟨_,_,_,h,λ_ _ _=>rfl⟩
 ·exact⟨_,_,_,h,λ_ _ _=>rfl⟩
 ·exact⟨_,_,_,h,λ_ _ _=>rfl⟩
 ·exact⟨_,_,_,h,λ_ _ _=>rfl⟩
 ·split at h
  ·rename_i aF
   exact⟨_,_,_,h,λH' hA K'=>by unfold Dl;simp only;rw[hA _ (by simp),aF]⟩
  ·rename_i aF
   exact⟨_,_,_,h,λH' hA K'=>by unfold Dl;simp only;rw[hA _ (by simp),aF]⟩
  ·cases h
 ·cases h
theorem N1{id:Nat}{e:Ty}{a b:aM}{H:Nat→Option aI}{K:eo α}(h:Dm id e a b H K=some r): ∃v rd ups,K v rd ups=some r∧id∈rd∧ ∀H',Ag rd H H'→ ∀K':eo α,Dm id e a b H' K'=K' v rd ups:=by
 unfold Dm at h
 obtain⟨ys,rd,ups,h1,h2⟩:=ki h
 split at h1
 ·obtain⟨h3,h4⟩:=cJ h1
  refine⟨_,_,_,h3,by simp,λH' hA K'=> ?_⟩
  unfold Dm
  rw[h2 H' (λi hi=>hA i (aU _ hi))]
  exact h4 _
 ·rename_i j
  split at h1
  ·rename_i e' l hj
   obtain⟨z,h3,h4⟩:=ct h1
   obtain⟨h5,h6⟩:=cJ h3
   refine⟨_,_,_,h5,by simp,λH' hA K'=> ?_⟩
   unfold Dm
   rw[h2 H' (λi hi=>hA i (aU _ (aU _ hi)))]
   simp only
   rw[hA j (by simp),hj]
   simp only
   rw[h4]
   exact h6 _
  ·cases h1
 ·cases h1
theorem yB{e:Ty}{n:Nat}{H:Nat→Option aI}: ∀{ps:List (Nat×aM)} {l:List e.den} {AL:List Nat} {yC:fu} {K:List e.den→List Nat→fu→Option α},p9 e H n ps l AL yC K=some r→
  ∃l' rd ups,K l' rd ups=some r∧(∀i∈AL,i∈rd)∧ ∀H',Ag rd H H'→ ∀K':List e.den→List Nat→fu→Option α,p9 e H' n ps l AL yC K'=K' l' rd ups
 |[],l,AL,yC,K,h=>⟨l,AL,yC,h,λ_ h=>h,λ_ _ _=>rfl⟩
 |p::ps,l,AL,yC,K,h=>by
  unfold p9 at h
  obtain⟨h1,h2⟩:=cJ h
  obtain⟨y,KK,uN,h3,h4⟩:=ki h1
  obtain⟨l',rd,ups,h5,h6,h7⟩:=yB h3
  refine⟨l',rd,ups,h5,λi hi=>h6 i (ck _ hi),λH' hA K'=> ?_⟩
  unfold p9
  rw[h2,h4 H' (λi hi=>hA i (h6 i (bG _ hi)))]
  exact h7 H' hA K'
theorem uP{τ:Ty}{H:Nat→Option aI}: ∀{ps:List (Nat×aM)} {x:τ.den} {AL:List Nat} {yC:fu} {K:τ.den→List Nat→fu→Option α},g8 τ H ps x AL yC K=some r→
  ∃x' rd ups,K x' rd ups=some r∧(∀i∈AL,i∈rd)∧ ∀H',Ag rd H H'→ ∀K':τ.den→List Nat→fu→Option α,g8 τ H' ps x AL yC K'=K' x' rd ups
 |[],x,AL,yC,K,h=>⟨x,AL,yC,h,λ_ h=>h,λ_ _ _=>rfl⟩
 |p::ps,x,AL,yC,K,h=>by
  unfold g8 at h
  obtain⟨υ,z,h1,h2⟩:=rf h
  obtain⟨y,KK,uN,h3,h4⟩:=ki h1
  obtain⟨z',h5,h6⟩:=so (m:=fun υ' _ k'=>bw υ υ' y k') (fun υ' y' k hk=>ct hk) h3
  obtain⟨x',rd,ups,h7,h8,h9⟩:=uP h5
  refine⟨x',rd,ups,h7,λi hi=>h8 i (ck _ hi),λH' hA K'=> ?_⟩
  unfold g8
  rw[h2,h4 H' (λi hi=>hA i (h8 i (bG _ hi))),h6]
  exact h9 H' hA K'
theorem K1{H:Nat→Option aI}{v:aM}{a:Ty}{k:a.den→List Nat→fu→Option α}(h:vr v H a k=some r):
  ∃x rd ups,k x rd ups=some r∧ ∀H',Ag rd H H'→ ∀k':a.den→List Nat→fu→Option α,vr v H' a k'=k' x rd ups:=by
 unfold vr at h
 split at h
 ·split at h
  ·obtain⟨z,h1,h2⟩:=ct h
   refine⟨_,_,_,h1,λH' _ k'=> ?_⟩
   unfold vr
   simp only
   rw[h2]
  ·cases h
 ·rename_i k0 mD
  obtain⟨y,rd,ups,h1,h2⟩:=ki h
  refine⟨y,rd,ups,h1,λH' hA k'=> ?_⟩
  unfold vr
  split
  ·exact(mD _ _ rfl HEq.rfl).elim
  ·exact h2 H' hA _
theorem DP{H:Nat→Option aI}: ∀{τ:Ty} {vs:List aM} {k:τ.den→List Nat→fu→Option α},mA H τ vs k=some r→
  ∃x rd ups,k x rd ups=some r∧ ∀H',Ag rd H H'→ ∀k':τ.den→List Nat→fu→Option α,mA H' τ vs k'=k' x rd ups
 | .unit,[],k,h=>⟨(),[],[],h,λ_ _ _=>rfl⟩
 | .pair a b,v::vs,k,h=>by
  unfold mA at h
  obtain⟨y,rd,ups,h1,h2⟩:=K1 h
  obtain⟨ys,qT,gu,h3,h4⟩:=DP h1
  refine⟨(y,ys),_,_,h3,λH' hA k'=> ?_⟩
  unfold mA
  rw[h2 H' (λi hi=>hA i (ck _ hi)),h4 H' (λi hi=>hA i (bG _ hi))]
 | .unit,_::_,_,h=>by simp[mA]at h
 | .pair _ _,[],_,h=>by simp[mA]at h
 | .int _,_,_,h| .bool,_,_,h| .str,_,_,h| .slice _,_,_,h| .arr _ _,_,_,h=>by simp[mA]at h
theorem yD: ∀{lL:List aM} {H:Nat→Option aI} {K:List aM→List Nat→fu→Option α},qa H lL K=some r→
  ∃cs rd ups,K cs rd ups=some r∧ ∀H',Ag rd H H'→ ∀K':List aM→List Nat→fu→Option α,qa H' lL K'=K' cs rd ups
 |[],H,K,h=>⟨[],[],[],h,λ_ _ _=>rfl⟩
 |a::lL,H,K,h=>by
  unfold qa at h
  split at h
  ·rename_i id
   split at h
   ·rename_i τ x aF
    obtain⟨cs,rd,ups,h1,h2⟩:=yD h
    refine⟨_,_,_,h1,λH' hA K'=> ?_⟩
    unfold qa
    simp only
    rw[hA id (by simp),aF]
    simp only
    rw[h2 (a8 H' id (some .gone)) (λi hi=>by
     by_cases a7:i=id
     ·subst a7;rw[al,al]
     ·rw[aq _ _ a7,aq _ _ a7];exact hA i (aU _ hi))]
   ·cases h
  ·rename_i mD
   obtain⟨cs,rd,ups,h1,h2⟩:=yD h
   refine⟨_,_,_,h1,λH' hA K'=> ?_⟩
   unfold qa
   split
   ·exact absurd rfl (mD _)
   ·rw[h2 H' hA]
end VM
end
