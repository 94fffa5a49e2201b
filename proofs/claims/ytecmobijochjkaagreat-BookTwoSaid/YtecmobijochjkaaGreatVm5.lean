/- A part of the proof of BookTwo of layer 18: a machine that reads a function of the program as an equation between values. -/
import Derived.Test.YtecmobijochjkaaGreatVm4
import Derived.Scope
set_option linter.all false
open List renaming getD→γ
section
namespace VM
open Go
variable{P:Program}{E:Env}{o:Oper}{a:Act}{w:World}{M:Nat→Prop}{ν:Nat→Value}{σ:St}{c:Ctx}{α:Type}{r:α}{next:Act→World→Prop}{Q:Exit→Act→World→Prop}
theorem Oe{i:Nat}: ∀{ups:jF} {H:Nat→Option br},i∈keys ups→ ∃u∈ups,u.1=i∧c0 H ups i=u.2
 |[],_,h=>by simp[keys]at h
 |u::r,H,h=>by
  by_cases hk:i∈keys r
  ·obtain⟨v,h1,h2,h3⟩:=Oe (H:=cn H u.1 u.2) hk
   exact⟨v,aZ _ h1,h2,h3⟩
  ·have hi:i=u.1:=by
    simp only[keys,bQ,a8]at h hk
    exact h.resolve_right hk
   refine⟨u,bq,hi.symm,?_⟩
   show c0 (cn H u.1 u.2) r i=_
   rw[mE hk,hi,ay]
theorem GN: ∀{ups:jF} {H H':Nat→Option br},(∀i,i∉keys ups→H i=H' i)→c0 H ups=c0 H' ups
 |[],H,H',h=>funext λi=>h i (by simp[keys])
 |u::r,H,H',h=>by
  refine GN (ups:=r) λi hi=> ?_
  by_cases hu:i=u.1
  ·subst hu;rw[ay,ay]
  ·rw[az _ _ hu,az _ _ hu]
   exact h i (by simp only[keys,bQ,a8,not_or];exact⟨hu,hi⟩)
theorem ER.len{v:Value}{e:Ty}{l:List e.den}(h:ER w M v (.own e l)): ∃ad cap,v= .slice ad l.length cap:=by
 simp only[ER]at h
 rcases h with⟨rfl,ad,rfl⟩|⟨b,cs,t,cap,h1,_⟩
 ·exact⟨ad,0,rfl⟩
 ·exact⟨_,cap,h1⟩
theorem RR.sr: ∀{ms:List AM} {x:HP ms} {us ps:List Value},RR w M ms x us ps→ ∀b∈bI ms us ps,M b
 |[],_,_,_,_,b,hb=>by simp[bI]at hb
 |m::ms,x,us,ps,h,b,hb=>by
  simp only[RR]at h
  rcases h with⟨p,I4,h1,rfl,h2,h3⟩|⟨v,EU,h1,h2,rfl,h3,h4⟩
  ·simp only[bI,h1,g9,uB,uE,bl]at hb
   rcases hb with hb|hb
   ·cases m<;>simp[AM.iS]at h1<;>(simp only[dw,fi,A1]at hb h2;exact h2.xB trivial hb)
   ·exact RR.sr h3 b hb
  ·simp only[bI,h1,jM,fC,uB,uE,bl]at hb
   rcases hb with hb|hb
   ·cases m with
    |own e=>
     simp only[dw,fi,A1]at hb h3
     exact h3.xB trivial hb
    |v _=>simp[dw]at hb
    |io _=>simp[AM.iS]at h1
    |lo _=>simp[AM.iS]at h1
    |fn _ _=>simp[dw]at hb
    |jE _=>simp[dw]at hb
    |ptr τ=>
     simp only[dw,fi,A1]at hb h3
     exact h3.xB trivial hb
    |sp τ n e=>
     simp only[A1]at h3
     obtain⟨cs,kb,u,l,z,rfl,hq,hr,uj,hu,_⟩:=h3
     rw[(yR hq hr uj).1,fi]at hb
     exact hu.xB trivial hb
   ·exact RR.sr h4 b hb
theorem J0: ∀{l:List m2} {qV:List bA} {S:m2},NT l qV=some S→S∈l
 |[],_,_,h=>by simp[NT]at h
 |T::l,qV,S,h=>by
  unfold NT at h
  cases hf:fits T.args qV
  ·rw[hf]at h;exact aZ _ (J0 h)
  ·rw[hf]at h;cases h;exact bq
theorem DX{H:Nat→Option br}{id:Nat}: ∀{n:Nat},vx H id n=true→ ∀i,id≤i→i<id+n→H i=none
 |0,_,i,h1,h2=>ω
 |n+1,h,i,h1,h2=>by
  unfold vx at h
  rw[bM]at h
  by_cases hi:i=id+n
  ·subst hi
   have h:=h.1
   split at h
   ·assumption
   ·cases h
  ·exact DX h.2 i h1 ω
theorem Yw{H:Nat→Option br}{qV:List bA}{us:List Value}(h:jO w M H ν qV us):VR w M H ν (NR qV) (xK us):=by
 match qV,us,h with
 |[],[],_=>simp[NR,VR]
 |[a],[u],h=>simp only[jO,fB]at h;simpa [NR,xK]using h
 |a::b::qV,u::v::us,h=>
  simp only[NR,VR]
  exact⟨u::v::us,by simp[xK],h⟩
 |[],_::_,h=>simp[jO]at h
 |_::_,[],h=>simp[jO]at h
 |[_],_::_::_,h=>simp[jO]at h
 |_::_::_,[_],h=>simp[jO]at h
theorem Of(hΓ: ∀f S,S∈E.Γ f→ju P f S){H:Nat→Option br}(hm:Mem c H w M ν){f id:Nat}{qV:List bA}{vs:List Value}(hv:jO w M H ν qV vs){K:g7 α}(h:DI E f qV id H K=some r)
  {R:Value→World→Prop} (hR: ∀v rd ups v' w' M' ν',K v rd ups=some r→Tr c H w M ν (c0 H ups) w' M' ν'→VR w' M' (c0 H ups) ν' v v'→R v' w'):
  Ob P f vs.toArray w R:=by
 unfold DI at h
 split at h
 ·cases h
 rename_i S hS
 have hok:=hΓ f S (J0 hS)
 obtain⟨x,rd,uo,uf,io,H2,Hq,M2,h1,hA,hK,apq,hi1,T6⟩:=DW (kD.start hm) hv h
 clear h
 simp only[cM,gM]at hA hi1 T6
 obtain⟨y,hy,h1⟩:=uy.1 h1
 obtain⟨jv,h1⟩:=cB h1
 have jv:=DX jv
 have avy:(λb=>(M2 b∧b∉eD S.args vs)∨b∈eD S.args vs)=M2:=by
  funext b
  refine propext ⟨λh=>h.elim (·.1) (hA.hM b),λh=> ?_⟩
  by_cases hb:b∈eD S.args vs
  ·exact .inr hb
  ·exact .inl ⟨h,hb⟩
 refine Ob.mono (hok.call (λb=>M2 b∧b∉eD S.args vs) w vs x y (λb hb=>hA.mem.Gp b hb.1) (by rw[avy];exact apq) hA.nd (λb hb h=>h.2 hb) hy) ?_
 rintro e w' ⟨us,M',rfl,XR,hL,wU,hn0⟩
 have avz: ∀b∈eD S.args vs,c.M0 b→M' b:=by
  intro b hb h0
  obtain⟨q,hq,hqb⟩:=hA.iob b hb h0
  exact XR.sr b (XR.GK (ν q.1) (by rw[←hi1];exact fh hq) b hqb)
 have oO: ∀b∈bI S.res us (fL S.args vs),w.heap.size≤b∨b∈eD S.args vs:=by
  intro b hb
  rcases nW b w.heap.size with eU|RX
  ·exact .inr ((hL.less b eU (XR.sr b hb)).resolve_left (hn0 b hb))
  ·exact .inl RX
 have kE: ∀b∈bI S.res us (fL S.args vs),c.B≤b∨c.may b:=λb hb=>(oO b hb).elim (λh=> .inl (cv hm.size h)) (hA.Od b)
 have Gq: ∀b∈bI S.res us (fL S.args vs),c.M0 b→ ∃p∈fL S.args vs,fv p=some b:=by
  intro b hb h0
  rcases oO b hb with h'|h'
  ·have:=hm.wS.1 b h0;have:=hm.size;omega
  ·obtain⟨q,hq,hqb⟩:=hA.iob b h' h0
   exact⟨ν q.1,by rw[←hi1];exact fh hq,hqb⟩
 have avB: ∀q∈io,∀e,q.2=AM.lo e→ ∀b,fv (ν q.1)=some b→ ¬c.M0 b:=by
  intro q hq e he b hb
  rcases(hA.VG q hq).2.2 with⟨τ0,z0,wT,_⟩|⟨e0,z0,wT,RV⟩
  ·rw[he]at wT;cases wT
  ·exact hm.oN q.1 e0 z0 b RV hb
 have key: ∀(Hx:Nat→Option br) (Mx:Nat→Prop) (U:jF),Mem c Hx w Mx ν→fI w M w Mx→(∀b,M2 b→Mx b)→(∀b∈eD S.args vs,∀i e,Hx i=some e→e.mut→fv (ν i)≠some b)→
   (∀q∈io,Hx q.1=some .gone)→(∀i,i∉keys io→c0 H (uo++U) i=Hx i)→(∀u∈uo++U,u.2=some .gone∨ ∃e l,u.2=some (.pD e l)∧H u.1=some (.own e l))→(∀i∈keys (uo++U),i∈keys (uo++uf))→
   RR w' (λb=>M' b∨(Mx b∧b∉eD S.args vs)) S.res y us (fL S.args vs)→
   ∃ν',Tr c H w M ν (c0 H (uo++U++(ir S.res y id io).2.1)) w' (λb=>M' b∨(Mx b∧b∉eD S.args vs)) ν'∧
    jO w' (λb=>M' b∨(Mx b∧b∉eD S.args vs)) (c0 H (uo++U++(ir S.res y id io).2.1)) ν' (ir S.res y id io).1 us:=by
  intro Hx Mx U Nj hkx VK qX Og aku LF hU hrr
  obtain⟨mC,J1⟩:=Nj.call (λb hb=>VK b hb.1) (λb hb=>VK b (hA.hM b hb)) qX hA.Od avz hL
  have hx: ∀i e,H i=some e→i∉keys io→ ∃e',Hx i=some e'∧e.lM e':=by
   intro i e hi GO
   rw[←aku i GO]
   by_cases hk:i∈keys (uo++U)
   ·obtain⟨u,hu,hui,huv⟩:=Oe (H:=H) hk
    rw[huv]
    rcases LF u hu with h'|⟨e1,l1,h',LD⟩
    ·exact⟨_,h',br.kj e⟩
    ·rw[hui,hi]at LD;cases LD;exact⟨_,h',rfl,rfl⟩
   ·rw[mE hk];exact⟨e,hi,.refl e⟩
  have hfr: ∀i,id≤i→i<id+S.res.length→Hx i=none:=by
   intro i h3 h4
   have h0:=jv i h3 h4
   have GO:i∉keys io:=λhk=>by
    obtain⟨q,hq,Fy⟩:=cV.1 hk
    obtain⟨_,_,hz⟩:=hA.VG q hq
    exact hz.some (by rw[Fy];exact h0)
   rw[←aku i GO]
   rw[mE,h0]
   intro hk
   obtain⟨_,e,l,h'⟩:=hA.ksn i (hU i hk)
   rw[h0]at h';cases h'
  obtain⟨ν',r1,r2,r3,r4,r5,r6⟩:=m5 (hs:=eD S.args vs) (sz:=w.heap.size) (id:=id) (used:=[]) mC hrr hi1.symm (by rw[←hok.ios,←T6]) hA.ion Og hfr
   (λi e b hi hmu hb=> .inl ⟨Nj.Gp b ((Nj.jY i e hi).xB hmu hb),λhh=>qX b hh i e hi hmu hb⟩) (by simpa using wU) oO kE Gq avB
  have akv:c0 H (uo++U++(ir S.res y id io).2.1)=c0 Hx (ir S.res y id io).2.1:=by
   rw[fJ]
   refine GN λi hi=> ?_
   by_cases GO:i∈keys io
   ·obtain⟨q,hq,Fy⟩:=cV.1 GO
    rcases r6 q hq with⟨τ,z,_,hz⟩|⟨e,z,_,hz⟩
    ·rw[Fy,mE hi,←Fy,Og q hq]at hz;cases hz
    ·rw[Fy,mE hi,←Fy,Og q hq]at hz;cases hz
   ·exact aku i GO
  refine⟨ν',⟨by rw[akv];exact r1,hkx.trans J1,⟨λi e hi=> ?_,λi hi=> ?_⟩⟩,by rw[akv];exact r2⟩
  ·rw[akv]
   by_cases GO:i∈keys io
   ·obtain⟨q,hq,Fy⟩:=cV.1 GO
    obtain⟨_,_,hg0⟩:=hA.VG q hq
    rcases r6 q hq with⟨τ,z,hq2,hz⟩|⟨e2,z,hq2,hz⟩
    ·rcases hg0 with⟨τ0,z0,wT,RV⟩|⟨e0,z0,wT,RV⟩
     ·rw[hq2]at wT;cases wT
      rw[Fy]at hz RV
      rw[hi]at RV;cases RV
      exact⟨_,hz,rfl⟩
     ·rw[hq2]at wT;cases wT
    ·rcases hg0 with⟨τ0,z0,wT,RV⟩|⟨e0,z0,wT,RV⟩
     ·rw[hq2]at wT;cases wT
     ·rw[hq2]at wT;cases wT
      rw[Fy]at hz RV
      rw[hi]at RV;cases RV
      refine⟨_,hz,rfl,?_⟩
      obtain⟨a1,c1,k1⟩:=ER.len (hm.jY i _ hi)
      obtain⟨a2,c2,k2⟩:=ER.len (r1.jY i _ hz)
      rw[r3 i (by rw[←Fy,Og q hq];simp),k1]at k2
      simp only[Value.slice.injEq]at k2
      exact k2.2.1
   ·obtain⟨e',uw,hl⟩:=hx i e hi GO
    have hr:i<id∨id+S.res.length≤i:=by
     rcases nW i id with h'|h'
     ·exact .inl h'
     ·rcases nW i (id+S.res.length)with LD|LD
      ·rw[jv i h' LD]at hi;cases hi
      ·exact .inr LD
    exact⟨e',by rw[r4 i GO hr];exact uw,hl⟩
  ·refine r3 i ?_
   obtain⟨e,he⟩:=xa.1 hi
   by_cases GO:i∈keys io
   ·obtain⟨q,hq,Fy⟩:=cV.1 GO
    rw[←Fy,Og q hq];simp
   ·obtain⟨e',uw,_⟩:=hx i e he GO
    rw[uw];simp
 cases hq:S.quiet
 ·
  rw[hq]at h1
  have hMn:(λb=>M' b∨(M2 b∧b∉eD S.args vs))=M':=by
   funext b
   exact propext ⟨λh=>h.elim (λh=>h) (hL.sub b),.inl⟩
  obtain⟨ν',gy,hvr⟩:=key H2 M2 uf hA.mem hA.cg (λ_ h=>h) (λb hb i e hi hmu=>hA.none b hb i e (hA.fz.mut hi hmu) hmu) (λq hq=>(hA.VG q hq).1) hA.ext
   (λu hu=>(bl.1 hu).elim (λh=> .inl (hA.uov u h)) (λh=> .inr (hA.ufv u h))) (λ_ h=>h) (by rw[hMn];exact XR)
  exact hR _ _ _ _ _ _ _ h1 gy (Yw hvr)
 ·rw[hq]at h1
  have VK: ∀b,M2 b→M b:=λb hb=>hA.cg.less b (hA.mem.Gp b hb) hb
  obtain⟨ν',gy,hvr⟩:=key Hq M [] hA.Oc (.refl w M) VK hA.none (λq hq=>(hA.VG q hq).2.1) (by rw[cw];exact hA.Yr)
   (λu hu=> .inl (hA.uov u (by simpa using hu))) (λi hi=>by simp only[keys,cw,dj,bl]at hi ⊢;exact .inl hi) (XR.flat (λb h=> .inl h) (hok.quiet hq))
  exact hR _ _ _ _ _ _ _ h1 gy (Yw hvr)
theorem acp(hΓ: ∀f S,S∈E.Γ f→ju P f S)(hc:Core c σ a.tmps w M ν){args:Array Operand}{ts:Array TypeId}{g:Operand}(ho:o.op= .call {callee:= .value g,args,argTypes:=ts}){K:g7 α}{f:Nat}{caps:List bA}(hg:σ.ρ g= .NM f caps){id:Nat}
  (h:DI E f (args.toList.map σ.ρ ++caps) id σ.H K=some r) (hn:fK c σ a o w M ν K r next):o.wp P a w next Q:=by
 have hgv:=hc.ev g
 rw[hg]at hgv
 simp only[VR]at hgv
 obtain⟨cs,hgv,uj⟩:=hgv
 have Oh: ∀{as1:List bA} {Yx:List Value},jO w M σ.H ν as1 Yx→jO w M σ.H ν (as1++caps) (Yx++cs):=by
  intro as1
  induction as1 with
  |nil=>intro Yx h1;cases Yx with
   |nil=>exact uj
   |cons _ _=>simp[jO]at h1
  |cons x as1 ih=>intro Yx h1;cases Yx with
   |nil=>simp[jO]at h1
   |cons v Yx=>simp only[jO]at h1;simp only[mV,jO];exact⟨h1.1,ih h1.2⟩
 have hd:=Of (P:=P) hΓ hc.mem (Oh (hc.evs args.toList)) h (R:=λv' w'=>next (a.put o.dst v') w') (λv rd ups v' w' M' ν' h1 h2 h3=>hn v rd ups v' w' M' ν' h1 h2 h3)
 have hex:(execOp a.eval o).run P w=(callFunc f (args.toList.map a.eval++cs).toArray).run P w:=by
  have:(args.toList.map a.eval++cs).toArray= #[]++args.map a.eval++cs.toArray:=by apply g8;simp
  rw[this]
  simp[execOp,ho,resolve,hgv,Deferred.ofValue,invoke]
 unfold Oper.wp
 rw[hex]
 exact hd o a next Q λv w' hv=>hv
end VM
end
section
namespace VM
open Go
variable{P:Program}{E:Env}{o:Oper}{a:Act}{w:World}{M:Nat→Prop}{ν:Nat→Value}{σ:St}{c:Ctx}{α:Type}{r:α}{next:Act→World→Prop}{Q:Exit→Act→World→Prop}
structure tI(P:Program)(E:Env):Prop extends EnvTy P E where
 apu: ∀f S,S∈E.Γ f→ju P f S
 mixed:P.follows .mixedOrders=true
 kV: ∀i L,E.xq i=some L→VM.kV L=true
 Yy: ∀i L,E.zk i=some L→VM.kV L=true
theorem VL(hE:tI P E)(hc:Core c σ a.tmps w M ν){K:g7 α}(h:tC E o σ.ρ σ.H K=some r)(hn:fK c σ a o w M ν K r next):o.wp P a w next Q:=by
 have hT:=hE.toEnvTy
 unfold tC at h
 simp only at h
 split at h
 ·rename_i x ho;exact TU hc (.inl ho) h hn
 ·rename_i x ho;exact TU hc (.inr ho) h hn
 ·rename_i x y z ho
  split at h
  ·rename_i t hx;exact ab4 hc ho hx h hn
  ·cases h
 ·rename_i t ho
  split at h
  ·rename_i τ ht;exact X9 hT hc ho ht h hn
  ·cases h
 ·rename_i t x ho
  split at h
  ·rename_i τ ht;exact aj6 hT hc ho h hn
  ·cases h
 ·rename_i t ps ho
  split at h
  ·rename_i n e ht;exact LC hT hc ho ht h hn
  ·rename_i τ Yj ht
   split at h
   ·rename_i n k hs;exact N7 hT hc ho ht (λn e he=>Yj n e he) hs h hn
   ·exact ET hT hc ho ht (λn e he=>Yj n e he) h hn
  ·cases h
 ·rename_i t n ps ho
  split at h
  ·rename_i e ht;exact Jk hT hc ho ht h hn
  ·cases h
 ·rename_i t x ho
  split at h
  ·rename_i τ ht;exact Yb hT hc ho ht h hn
  ·cases h
 ·rename_i t x y ho
  split at h
  ·rename_i τ ht;exact Vz hT hc ho ht h hn
  ·cases h
 ·rename_i x ho
  split at h
  ·rename_i id p hx;exact EP hc ho hx h hn
  ·rename_i τ z hx;exact CC hc ho hx h hn
  ·cases h
 ·rename_i b t x y t' ho;exact Yd hT hc ho h hn
 ·rename_i u t x ho;exact ace hc ho h hn
 ·rename_i s d x ho
  split at h
  ·rename_i τ k hs hd;exact Sc hT hc ho hs hd h hn
  ·cases h
 ·rename_i f first caps ho;exact N3 hc ho h hn
 ·rename_i t x y ho
  split at h
  ·rename_i e ht;exact Ly hT hc ho ht h hn
  ·cases h
 ·rename_i t x lo hi mx ho
  split at h
  ·rename_i τ ht;exact VE hT hc ho ht h hn
  ·cases h
 ·rename_i t x n ho
  split at h
  ·rename_i τ ht
   split at h
   ·rename_i id p hx;exact CB hT hc ho ht hx h hn
   ·rename_i υ z hx;exact Bk hT hc ho ht hx h hn
   ·cases h
  ·cases h
 ·rename_i t x n ho
  split at h
  ·rename_i τ ht
   split at h
   ·rename_i υ z hx;exact Yc hT hc ho ht hx h hn
   ·cases h
  ·cases h
 ·rename_i t x i ho
  split at h
  ·rename_i τ ht;exact Lw hT hc ho ht h hn
  ·cases h
 ·rename_i t x i ho
  split at h
  ·rename_i τ ht;exact Yf hT hc ho ht h hn
  ·cases h
 ·rename_i x i ho
  split at h
  ·rename_i vs hx
   split at h
   ·rename_i v hv;exact Sa hc ho hx hv h hn
   ·cases h
  ·cases h
 ·rename_i cl ho
  obtain⟨callee,args,ts⟩:=cl
  simp only at h
  split at h
  ·split at h
   ·rename_i x τ ha ht;exact akf hT hc ho ha ht h hn
   ·cases h
  ·split at h
   ·rename_i x y t t' ha ht
    split at h
    ·rename_i e hte;exact VF hT hc ho ha ht hte h hn
    ·cases h
   ·cases h
  ·split at h
   ·rename_i x t ha hts
    split at h
    ·rename_i e hte;exact Yp hT hc ho ha hts hte h hn
    ·cases h
   ·cases h
  ·split at h
   ·rename_i x xs ha;exact aiS hc true ho ha h hn
   ·cases h
  ·split at h
   ·rename_i x xs ha;exact aiS hc false ho ha h hn
   ·cases h
  ·rename_i g
   split at h
   ·rename_i f caps hg;exact acp hE.apu hc ho hg h hn
   ·cases h
  ·cases h
 ·cases h
end VM
end
section
namespace VM
open Go
variable{P:Program}{E:Env}{o:Oper}{a:Act}{w:World}{M:Nat→Prop}{ν:Nat→Value}{σ:St}{c:Ctx}{α:Type}{r:α}{next:Act→World→Prop}{Q:Exit→Act→World→Prop}
theorem vC(σ:St)(d:Nat)(v:bA):(σ.put d v).T d=v:=by
 show cond (Nat.beq d d) v (σ.T d)=v
 rw[show Nat.beq d d=true from pT d];rfl
theorem Bt(σ:St){d i:Nat}(v:bA)(h:i≠d):(σ.put d v).T i=σ.T i:=by
 show cond (Nat.beq i d) v (σ.T i)=σ.T i
 have:Nat.beq i d=false:=by rw[←mU,xn];exact h
 rw[this];rfl
theorem aAE(σ:St)(d:Nat)(v:bA):(σ.put d v).H=σ.H:=rfl
theorem GP(σ:St)(d:Nat):σ.put d (σ.T d)=σ:=by
 obtain⟨T,H⟩:=σ
 unfold St.put
 congr 1
 funext i
 by_cases h:i=d
 ·subst h;show cond (Nat.beq i i) (T i) (T i)=T i;cases Nat.beq i i<;>rfl
 ·have:Nat.beq i d=false:=by rw[←mU,xn];exact h
  rw[this];rfl
theorem Core.tr{tm:Array Value}(h:Core c σ tm w M ν){H':Nat→Option br}{w':World}{M':Nat→Prop}{ν':Nat→Value}(t:Tr c σ.H w M ν H' w' M' ν'):Core c ⟨σ.T,H'⟩ tm w' M' ν':=
 ⟨t.mem,λi=>VR.cg t.cg t.goes (h.tmp i)⟩
theorem Core.wO{tm:Array Value}(h:Core c σ tm w M ν){d:Option Nat}{x:bA}{v:Value}{io:List Nat}(hd:NN tm.size io d=true)(hx:VR w M σ.H ν x v)(ds:List Deferred):
  Core c (σ.wO d x) (({tmps:=tm,defers:=ds}:Act).put d v).tmps w M ν:=by
 cases d with
 |none=>exact h
 |some d=>
  have eU:d<tm.size:=by simp only[NN,bM,AZ]at hd;exact hd.1
  refine⟨h.mem,λi=> ?_⟩
  show VR w M σ.H ν ((σ.put d x).T i) ((tm.setIfInBounds d v).getD i undef)
  by_cases hi:i=d
  ·subst hi
   rw[vC]
   simp[Array.getD,eU]
   exact hx
  ·rw[Bt _ _ hi]
   have:=h.tmp i
   have he:(tm.setIfInBounds d v).getD i undef=tm.getD i undef:=by
    rw[tz,tz,Nq (fc hi)]
   rw[he];exact this
def Inv(c:Ctx)(E:Env)(σ:St)(a:Act)(w:World):Prop:=(∃M ν,Core c σ a.tmps w M ν)∧a.tmps.size=E.nt∧a.defers=[]∧ ∀i∈E.io,a.tmps.getD i undef=c.arg i
theorem Oi(a:Act)(d:Option Nat)(v:Value):(a.put d v).tmps.size=a.tmps.size:=by
 cases d<;>simp[Act.put]
theorem put_defers(a:Act)(d:Option Nat)(v:Value):(a.put d v).defers=a.defers:=by
 cases d<;>rfl
theorem T8{d:Option Nat}{v:Value}{io:List Nat}{n:Nat}(hd:NN n io d=true){i:Nat}(hi:i∈io):(a.put d v).tmps.getD i undef=a.tmps.getD i undef:=by
 cases d with
 |none=>rfl
 |some d=>
  simp only[NN,bM,pB]at hd
  have h1:=hd.2 i hi
  have kq:i≠d:=by
   intro e;subst e
   simp at h1
  show(a.tmps.setIfInBounds d v).getD i undef=_
  rw[tz,tz,Nq (fc kq)]
theorem Inv.bool(h:Inv c E σ a w){x:Operand}{b:Bool}(hx:σ.ρ x= .val .bool b):a.eval x= .bool b:=by
 obtain⟨⟨M,ν,hc⟩,_,_,_⟩:=h
 have:=hc.ev x
 rw[hx]at this
 exact this.bool
theorem DY(hE:tI P E){ops:Array Oper}(hI:Inv c E σ a w){K:St→List Nat→List Nat→Option α}(h:uN E ops.toList o σ K=some r)
  (hn: ∀σ' a' w' rd wr,K σ' rd wr=some r→Inv c E σ' a' w'→next a' w'):
  if Region.wanted o (yielded ops a.tmps)then o.wp P a w next Q else next (a.put o.dst undef) w:=by
 unfold uN at h
 obtain⟨hd,h⟩:=cB h
 have dF:tC E o σ.ρ σ.H (λv rd ups=>K ((σ.xp ups).wO o.dst v) rd (ups.map (·.1)))=some r→o.wp P a w next Q:=by
  intro h
  obtain⟨⟨M,ν,hc⟩,hs,akx,xN⟩:=hI
  refine VL hE hc h λv rd ups v' w' M' ν' hK gy hV=> ?_
  refine hn _ _ _ _ _ hK ⟨⟨M',ν',?_⟩,by rw[Oi,hs],by rw[put_defers,akx],λi hi=>(T8 hd hi).trans (xN i hi)⟩
  have h1:=hc.tr gy
  have h2:σ.xp ups=⟨σ.T,c0 σ.H ups⟩:=by rw[←R7,←R8 ups σ]
  rw[h2]
  exact h1.wO (by rw[hs];exact hd) hV a.defers
 have tJ: ∀rd wr,K (σ.wO o.dst .X4) rd wr=some r→next (a.put o.dst undef) w:=by
  intro rd wr h
  obtain⟨⟨M,ν,hc⟩,hs,akx,xN⟩:=hI
  refine hn _ _ _ _ _ h ⟨⟨M,ν,hc.wO (by rw[hs];exact hd) (by simp[VR]) a.defers⟩,by rw[Oi,hs],by rw[put_defers,akx],λi hi=>(T8 hd hi).trans (xN i hi)⟩
 simp only at h
 split at h
 ·rename_i hg
  have:Region.wanted o (yielded ops a.tmps)=true:=by simp[Region.wanted,hg]
  rw[aj this]
  exact dF h
 ·rename_i j want hg
  split at h
  ·cases h
  ·rename_i t ht
   have ht':(ops[j]?).bind (·.dst)=some t:=by rw[←iz];exact ht
   have hy: ∀b,σ.T t= .val .bool b→yielded ops a.tmps j=some b:=by
    intro b hb
    obtain⟨⟨M,ν,hc⟩,hs,_,_⟩:=hI
    have h1:=hc.tmp t
    rw[hb]at h1
    have h1:=h1.bool
    have h2:a.tmps[t]? =some (.bool b):=by
     rw[tz]at h1
     cases h3:a.tmps[t]? with
     |none=>rw[h3]at h1;simp[undef]at h1
     |some v=>rw[h3]at h1;simpa using h1
    simp[yielded,ht',h2]
   split at h
   ·rename_i b hb
    have qR:σ.put t (.val .bool b)=σ:=by rw[←hb];exact GP σ t
    have hw:=hy b hb
    cases want<;>cases b
    ·rw[aj (by simp[Region.wanted,hg,hw])]
     rw[qR]at h;exact dF h
    ·rw[ah (by simp[Region.wanted,hg,hw])]
     rw[qR]at h;exact tJ _ _ h
    ·rw[ah (by simp[Region.wanted,hg,hw])]
     rw[qR]at h;exact tJ _ _ h
    ·rw[aj (by simp[Region.wanted,hg,hw])]
     rw[qR]at h;exact dF h
   ·rename_i hb
    have Be: ¬Region.wanted o (yielded ops a.tmps)=true:=by
     obtain⟨⟨M,ν,hc⟩,hs,_,_⟩:=hI
     have h1:=hc.tmp t
     rw[hb]at h1
     simp only[VR]at h1
     have h2: ∀b,a.tmps[t]? ≠some (.bool b):=by
      intro b eX
      rw[tz,eX]at h1
      simp[undef]at h1
     have h3:yielded ops a.tmps j=none:=by
      unfold yielded
      rw[ht']
      show(match a.tmps[t]? with|some (.bool b)=>some b|_=>none)=none
      split
      ·rename_i b eX;exact absurd eX (h2 b)
      ·rfl
     simp[Region.wanted,hg,h3]
    rw[ah Be]
    exact tJ _ _ h
   ·cases h
theorem GQ(hE:tI P E){ops:Array Oper}: ∀(l:List Oper) (i:Nat) (σ:St) (lg:Log) (a:Act) (w:World) (K:St→Log→Option α),Inv c E σ a w→Vp E ops.toList l i σ lg K=some r→
  (∀σ' lg' a' w',K σ' lg'=some r→Inv c E σ' a' w'→Q .normal a' w')→wpList P ops Q l a w
 |[],i,σ,lg,a,w,K,hI,h,hn=>hn _ _ _ _ h hI
 |o::l,i,σ,lg,a,w,K,hI,h,hn=>by
  unfold Vp at h
  refine wpList_step λK' hK'=> ?_
  exact DY hE hI h fun σ' a' w' rd wr h' zD=>hK' _ _ (GQ hE l (i+1) σ' _ a' w' K zD h' hn)
theorem Oj(hI:Inv c E σ a w){x:Operand}{A B:St→Option α}(h:JU E x σ A B=some r): ∃b,a.eval x= .bool b∧(if b then A σ else B σ)=some r:=by
 unfold JU at h
 split at h
 ·rename_i b hb
  refine⟨b,hI.bool hb,?_⟩
  split at h
  ·rename_i t
   have hb:σ.T t= .val .bool b:=hb
   have qR:σ.put t (.val .bool b)=σ:=by rw[←hb];exact GP σ t
   cases b
   ·rw[qR]at h;exact h
   ·rw[qR]at h;exact h
  ·cases b<;>exact h
 ·cases h
end VM
end
section
namespace VM
open Go
variable{P:Program}{E:Env}{o:Oper}{a:Act}{w:World}{M:Nat→Prop}{ν:Nat→Value}{σ:St}{c:Ctx}{α:Type}{r:α}{next:Act→World→Prop}{Q:Exit→Act→World→Prop}
def mix{β:Type}(A B:Nat→β):Nat→β:=λi=>if i%2=0 then A (i/2)else B (i/2)
theorem jc{β:Type}(A B:Nat→β)(i:Nat):mix A B (2*i)=A i:=by
 unfold mix
 rw[aj ω,show 2*i/2=i from by omega]
theorem wH{β:Type}(A B:Nat→β)(i:Nat):mix A B (2*i+1)=B i:=by
 unfold mix
 rw[ah ω,show(2*i+1)/2=i from by omega]
theorem aov{β:Type}{A B A' B':Nat→β}(hl: ∀i,A i=A' i)(hr: ∀i,B i=B' i):mix A B=mix A' B':=by
 funext i;unfold mix;rw[hl,hr]
def br.re(f:Nat→Nat):br→br
 | .gk τ x p j=> .gk τ x p (f j)
 |e=>e
theorem ER.re{v:Value}{f:Nat→Nat}{e:br}:ER w M v (e.re f)↔ER w M v e:=by cases e<;>simp[br.re,ER]
theorem br.ss{f:Nat→Nat}{e:br}:(e.re f).mut↔e.mut:=by cases e<;>simp[br.re,br.mut]
theorem br.T9{f g:Nat→Nat}{e e':br}:(e.re f).lM (e'.re g)↔e.lM e':=by cases e<;>cases e'<;>simp[br.re,br.lM]
def ml(i:Nat):Nat:=2*i
def mr(i:Nat):Nat:=2*i+1
def jP(A B:Nat→Option br):Nat→Option br:=λi=>if i%2=0 then(A (i/2)).map (br.re ml)else(B (i/2)).map (br.re mr)
theorem z6(A B:Nat→Option br)(i:Nat):jP A B (2*i)=(A i).map (br.re ml):=by
 unfold jP
 rw[aj ω,show 2*i/2=i from by omega]
theorem vD(A B:Nat→Option br)(i:Nat):jP A B (2*i+1)=(B i).map (br.re mr):=by
 unfold jP
 rw[ah ω,show(2*i+1)/2=i from by omega]
theorem jg{A B:Nat→Option br}{i:Nat}{e:br}(h:A i=some e):jP A B (2*i)=some (e.re ml):=by rw[z6,h];rfl
theorem vE{A B:Nat→Option br}{i:Nat}{e:br}(h:B i=some e):jP A B (2*i+1)=some (e.re mr):=by rw[vD,h];rfl
theorem LG{A B:Nat→Option br}{i:Nat}:jP A B (2*i)≠none↔A i≠none:=by rw[z6];cases A i<;>simp
theorem LH{A B:Nat→Option br}{i:Nat}:jP A B (2*i+1)≠none↔B i≠none:=by rw[vD];cases B i<;>simp
theorem su(A B:Nat→Option br)(i:Nat)(v:Option br):cn (jP A B) (2*i) (v.map (br.re ml))=jP (cn A i v) B:=by
 funext k
 by_cases hk:k=2*i
 ·subst hk;rw[ay,z6,ay]
 ·rw[az _ _ hk]
  unfold jP
  by_cases h2:k%2=0
  ·rw[aj h2,aj h2,az _ _ ω]
  ·rw[ah h2,ah h2]
theorem GR(A B:Nat→Option br)(i:Nat)(v:Option br):cn (jP A B) (2*i+1) (v.map (br.re mr))=jP A (cn B i v):=by
 funext k
 by_cases hk:k=2*i+1
 ·subst hk;rw[ay,vD,ay]
 ·rw[az _ _ hk]
  unfold jP
  by_cases h2:k%2=0
  ·rw[aj h2,aj h2]
  ·rw[ah h2,ah h2,az _ _ ω]
theorem updν_mix_r(A B:Nat→Value)(i:Nat)(v:Value):updν (mix A B) (2*i+1) v=mix A (updν B i v):=by
 funext k
 unfold updν mix
 by_cases hk:k=2*i+1
 ·subst hk;rw[aj rfl,ah ω]
  show v=if(2*i+1)/2=i then v else B ((2*i+1)/2)
  rw[aj ω]
 ·rw[ah hk]
  by_cases h2:k%2=0
  ·rw[aj h2,aj h2]
  ·rw[ah h2,ah h2]
   show B (k/2)=if k/2=i then v else B (k/2)
   rw[ah ω]
theorem Mem.left{H A:Nat→Option br}{νA:Nat→Value}(h:Mem c (jP H A) w M (mix ν νA)):Mem c H w M ν:=
 ⟨λi e hi=>by have:=h.jY (2*i) _ (jg hi);rw[jc]at this;exact ER.re.1 this,
  λi j e e' b qy hi hm hj jt=>by have:=h.A8 (2*i) (2*j) _ _ b ω (jg hi) (br.ss.2 hm) (jg hj) (br.ss.2 jt);rwa [jc,jc]at this,
  λi e b hi hm=>by have:=h.new (2*i) _ b (jg hi) (br.ss.2 hm);rwa [jc]at this,
  λi e l b hi=>by have:=h.oN (2*i) e l b (jg hi);rwa [jc]at this,
  λi τ x p j hi=>by
   obtain⟨h1,b,h2,h3⟩:=h.gk (2*i) τ x p (ml j) (jg hi)
   rw[jc]at h2
   unfold ml at h1 h3
   rw[jc]at h3
   exact⟨LG.1 h1,b,h2,h3⟩,
  h.sub,h.Gp,h.frame,h.size,h.wS,h.os,h.tape,h.output⟩
theorem Mem.right{H A:Nat→Option br}{νA:Nat→Value}(h:Mem c (jP H A) w M (mix ν νA)):Mem c A w M νA:=
 ⟨λi e hi=>by have:=h.jY (2*i+1) _ (vE hi);rw[wH]at this;exact ER.re.1 this,
  λi j e e' b qy hi hm hj jt=>by have:=h.A8 (2*i+1) (2*j+1) _ _ b ω (vE hi) (br.ss.2 hm) (vE hj) (br.ss.2 jt);rwa [wH,wH]at this,
  λi e b hi hm=>by have:=h.new (2*i+1) _ b (vE hi) (br.ss.2 hm);rwa [wH]at this,
  λi e l b hi=>by have:=h.oN (2*i+1) e l b (vE hi);rwa [wH]at this,
  λi τ x p j hi=>by
   obtain⟨h1,b,h2,h3⟩:=h.gk (2*i+1) τ x p (mr j) (vE hi)
   rw[wH]at h2
   unfold mr at h1 h3
   rw[wH]at h3
   exact⟨LH.1 h1,b,h2,h3⟩,
  h.sub,h.Gp,h.frame,h.size,h.wS,h.os,h.tape,h.output⟩
theorem Mem.acq{H:Nat→Option br}(νA:Nat→Value)(h:Mem c H w M ν):Mem c (jP H (λ_=>none)) w M (mix ν νA):=by
 have key: ∀i e,jP H (λ_=>none) i=some e→ ∃j e0,i=2*j∧H j=some e0∧e=e0.re ml:=by
  intro i e hi
  unfold jP at hi
  by_cases h2:i%2=0
  ·rw[aj h2]at hi
   obtain⟨e0,h3,h4⟩:=AF.1 hi
   exact⟨i/2,e0,ω,h3,h4.symm⟩
  ·rw[ah h2]at hi;cases hi
 refine⟨λi e hi=> ?_,λi j e e' b qy hi hm hj jt=> ?_,λi e b hi hm=> ?_,λi e l b hi=> ?_,λi τ x p j hi=> ?_,h.sub,h.Gp,h.frame,h.size,h.wS,h.os,h.tape,h.output⟩
 ·obtain⟨j,e0,rfl,hj,rfl⟩:=key i e hi;rw[jc];exact ER.re.2 (h.jY j e0 hj)
 ·obtain⟨i',e1,rfl,nZ,rfl⟩:=key i e hi;obtain⟨j',e2,rfl,XS,rfl⟩:=key j e' hj
  rw[jc,jc];exact h.A8 i' j' e1 e2 b ω nZ (br.ss.1 hm) XS (br.ss.1 jt)
 ·obtain⟨j,e0,rfl,hj,rfl⟩:=key i e hi;rw[jc];exact h.new j e0 b hj (br.ss.1 hm)
 ·obtain⟨j,e0,rfl,hj,he⟩:=key i _ hi
  cases e0<;>simp only[br.re]at he<;>cases he
  rw[jc];exact h.oN j e l b hj
 ·obtain⟨k,e0,rfl,hk,he⟩:=key i _ hi
  cases e0<;>simp only[br.re]at he<;>cases he
  obtain⟨h1,b,h2,h3⟩:=h.gk k _ _ _ _ hk
  refine⟨LG.2 h1,b,by rw[jc];exact h2,?_⟩
  unfold ml
  rw[jc];exact h3
theorem uh.left{H A H' A':Nat→Option br}{νA ν' νA':Nat→Value}(g:uh (jP H A) (mix ν νA) (jP H' A') (mix ν' νA')):uh H ν H' ν':=
 ⟨λi e hi=>by
   obtain⟨e',h1,h2⟩:=g.jY (2*i) _ (jg hi)
   rw[z6]at h1
   obtain⟨e0,h3,rfl⟩:=AF.1 h1
   exact⟨e0,h3,br.T9.1 h2⟩,
  λi hi=>by have:=g.head (2*i) (LG.2 hi);rwa [jc,jc]at this⟩
theorem uh.right{H A H' A':Nat→Option br}{νA ν' νA':Nat→Value}(g:uh (jP H A) (mix ν νA) (jP H' A') (mix ν' νA')):uh A νA A' νA':=
 ⟨λi e hi=>by
   obtain⟨e',h1,h2⟩:=g.jY (2*i+1) _ (vE hi)
   rw[vD]at h1
   obtain⟨e0,h3,rfl⟩:=AF.1 h1
   exact⟨e0,h3,br.T9.1 h2⟩,
  λi hi=>by have:=g.head (2*i+1) (LH.2 hi);rwa [wH,wH]at this⟩
theorem Mem.move{H A:Nat→Option br}{νA:Nat→Value}(h:Mem c (jP H A) w M (mix ν νA)){i j:Nat}{e e1:br}(hi:H i=some e)(hm:e.mut)(hj:A j=none)
  (Gz:(e1=e∧ ∀τ x p k,e≠ .gk τ x p k)∨ ∃τ x p k k',e= .gk τ x p k∧e1= .gk τ x p k'∧A k'≠none∧νA k'=ν k):
  Tr c (jP H A) w M (mix ν νA) (jP (cn H i (some .gone)) (cn A j (some e1))) w M (mix ν (updν νA j (ν i))):=by
 have hg:=Tr.gone h (2*i)
 have hgo:(some br.gone)=(some br.gone).map (br.re ml):=rfl
 rw[hgo,su]at hg
 have T6:=jg (B:=A) hi
 have hER:ER w M (ν i) (e1.re mr):=by
  have h1:=h.jY (2*i) _ T6
  rw[jc]at h1
  have h1:=ER.re.1 h1
  rcases Gz with⟨rfl,_⟩|⟨τ,x,p,k,k',rfl,rfl,_,_⟩
  ·exact ER.re.2 h1
  ·exact h1
 have h2:=Mem.xM hg.mem (id:=2*j+1) (v:=ν i) (e:=e1.re mr) (λe' uw=>by rw[vD,hj]at uw;cases uw)
  hER
  (λb hb k e' hk jt=>by
   by_cases VH:k=2*i
   ·subst VH;rw[z6,ay]at hk;cases hk;simp[br.re,br.mut]at jt
   ·have hk3:jP H A k=some e':=by
     have:=congrFun (su H A i (some .gone)) k
     rw[az _ _ VH]at this
     rw[this];exact hk
    have:=h.A8 (2*i) k _ e' b (fc VH) T6 (br.ss.2 hm) hk3 jt
    rw[jc]at this
    exact this hb)
  (λb hb=>by have:=h.new (2*i) _ b T6 (br.ss.2 hm);rw[jc]at this;exact this hb)
  (λb e0 l0 he hb=>by
   rcases Gz with⟨rfl,_⟩|⟨τ,x,p,k,k',rfl,rfl,_,_⟩
   ·cases e1<;>simp only[br.re]at he<;>cases he
    have:=h.oN (2*i) e0 l0 b T6;rw[jc]at this;exact this hb
   ·simp[br.re]at he)
  (.inl (by rw[vD,hj];rfl))
  (fun τ x p k he=>by
   rcases Gz with⟨rfl,hn⟩|⟨τ,x,p,k,k',rfl,rfl,hk,hνk⟩
   ·cases e1<;>simp only[br.re]at he<;>cases he
    exact absurd rfl (hn _ _ _ _)
   ·simp only[br.re]at he
    cases he
    obtain⟨_,b,h4,h5⟩:=h.gk (2*i) _ _ _ _ T6
    rw[jc]at h4
    have hkj:k'≠j:=λe=>hk (e▸hj)
    refine⟨?_,b,h4,?_⟩
    ·rw[az _ _ (by unfold mr;omega)]
     unfold mr
     exact LH.2 hk
    ·unfold ml at h5
     rw[jc]at h5
     rw[h5,←hνk]
     have:updν (mix ν νA) (2*j+1) (ν i) (mr k')=mix ν νA (mr k'):=by
      unfold updν mr;rw[ah ω]
     rw[this];unfold mr;rw[wH])
 have Sh:some (e1.re mr)=(some e1).map (br.re mr):=rfl
 rw[Sh,GR,updν_mix_r]at h2
 refine⟨h2,.refl w M,⟨λk e' hk=> ?_,λk hk=> ?_⟩⟩
 ·by_cases h3:k%2=0
  ·obtain⟨k',rfl⟩: ∃k',k=2*k':=⟨k/2,ω⟩
   by_cases GO:k'=i
   ·subst GO;exact⟨.gone,by rw[z6,ay];rfl,br.kj _⟩
   ·exact⟨e',by rw[z6]at hk ⊢;rw[az _ _ GO];exact hk,.refl e'⟩
  ·obtain⟨k',rfl⟩: ∃k',k=2*k'+1:=⟨k/2,ω⟩
   rw[vD]at hk ⊢
   have GO:k'≠j:=λe=>by rw[e,hj]at hk;cases hk
   exact⟨e',by rw[az _ _ GO];exact hk,.refl e'⟩
 ·by_cases h3:k%2=0
  ·obtain⟨k',rfl⟩: ∃k',k=2*k':=⟨k/2,ω⟩
   rw[jc,jc]
  ·obtain⟨k',rfl⟩: ∃k',k=2*k'+1:=⟨k/2,ω⟩
   rw[wH,wH]
   have GO:k'≠j:=λe=>by rw[vD,e,hj]at hk;exact hk rfl
   simp[updν,GO]
theorem Mem.fresh{H A:Nat→Option br}{νA:Nat→Value}(h:Mem c (jP H A) w M (mix ν νA)){j:Nat}(hj:A j=none)(e:Ty)(ad:Option Addr):
  Tr c (jP H A) w M (mix ν νA) (jP H (cn A j (some (.own e [])))) w M (mix ν (updν νA j (.slice ad 0 0))):=by
 have:=Tr.nothing h (id:=2*j+1) (by rw[vD,hj];rfl) e ad
 have Sh:some (br.own e [])=(some (br.own e [])).map (br.re mr):=rfl
 rw[Sh,GR,updν_mix_r]at this
 exact this
structure Cut(c:Ctx)(σ acc:St)(tm:Array Value)(w:World)(M:Nat→Prop)(ν νA:Nat→Value):Prop where
 mem:Mem c (jP σ.H acc.H) w M (mix ν νA)
 src: ∀i,VR w M σ.H ν (σ.T i) (tm.getD i undef)
 dst: ∀i,VR w M acc.H νA (acc.T i) (tm.getD i undef)
theorem Cut.tr{acc:St}{tm:Array Value}{νA:Nat→Value}(h:Cut c σ acc tm w M ν νA){H' A':Nat→Option br}{M':Nat→Prop}{νA':Nat→Value}(t:Tr c (jP σ.H acc.H) w M (mix ν νA) (jP H' A') w M' (mix ν νA')){s:Nat}{x:bA}(hx:VR w M' A' νA' x (tm.getD s undef)):
  Cut c ⟨σ.T,H'⟩ ⟨(acc.put s x).T,A'⟩ tm w M' ν νA':=by
 refine⟨t.mem,λi=>VR.cg t.cg t.goes.left (h.src i),λi=> ?_⟩
 show VR w M' A' νA' ((acc.put s x).T i) _
 by_cases hi:i=s
 ·subst hi;rw[vC];exact hx
 ·rw[Bt _ _ hi];exact VR.cg t.cg t.goes.right (h.dst i)
def Yz(A:Nat→Option br)(s:Nat):Prop:=A (16*s+13)=none∧A (16*s+14)=none∧A (16*s+15)=none
theorem m6{q:Nat×CM}{L:List (Nat×CM)}{A:Nat→Option br}(hF:kV (q::L)=true)(hN: ∀p∈q::L,Yz A p.1):
  kV L=true∧(∀p∈L,Yz A p.1)∧
   ∀(A':Nat→Option br) (d:Nat) (v:Option br),(d=16*q.1+13∨d=16*q.1+14∨d=16*q.1+15)→(∀p∈L,Yz A' p.1)→ ∀p∈L,Yz (cn A' d v) p.1:=by
 unfold kV at hF
 rw[bM,pB]at hF
 refine⟨hF.2,λp hp=>hN p (aZ _ hp),λA' d v hd hN' p hp=> ?_⟩
 have kq:p.1≠q.1:=λe=>by
  have:=hF.1 p hp
  rw[e]at this
  simp at this
 obtain⟨h1,h2,h3⟩:=hN' p hp
 exact⟨by rw[az _ _ ω];exact h1,by rw[az _ _ ω];exact h2,by rw[az _ _ ω];exact h3⟩
theorem fE{tm:Array Value}: ∀(L:List (Nat×CM)) (σ acc:St) (M:Nat→Prop) (νA:Nat→Value) (K:St→Option α),Cut c σ acc tm w M ν νA→kV L=true→(∀q∈L,Yz acc.H q.1)→iP L σ acc K=some r→
  ∃acr M' νA',K acr=some r∧Core c acr tm w M' νA'
 |[],σ,acc,M,νA,K,hC,_,_,h=>⟨acc,M,νA,h,hC.mem.right,hC.dst⟩
 |(s,.v τ)::L,σ,acc,M,νA,K,hC,hF,hN,h=>by
  obtain⟨RZ,R1,VN⟩:=m6 hF hN
  unfold iP at h
  obtain⟨y,rd,ups,h,hy⟩:=Fw hC.mem.left (hC.src s) h
  rcases hy with⟨rfl,hV⟩|⟨id,e,l,rfl,bg,hV⟩
  ·exact fE L σ _ M νA K (hC.tr (.refl hC.mem) (x:= .val τ y) (by simp only[VR];exact hV)) RZ R1 h
  ·obtain⟨M2,gy,_,Lv⟩:=Tr.freeze hC.mem (id:=2*id) (jg bg)
   have Sh:some (br.pD e l)=(some (br.pD e l)).map (br.re ml):=rfl
   rw[Sh,su]at gy
   refine fE L _ _ M2 νA K (hC.tr gy (x:= .val τ y) ?_) RZ R1 h
   simp only[VR]
   exact hV M2 (λb=>by rw[Lv b,jc])
 |(s,.own e)::L,σ,acc,M,νA,K,hC,hF,hN,h=>by
  obtain⟨RZ,R1,VN⟩:=m6 hF hN
  unfold iP at h
  have hs:=hC.src s
  split at h
  ·rename_i hT
   have hj:=(hN _ bq).2.1
   rw[hT]at hs
   obtain⟨ad,hv⟩:=VR.emp.1 hs
   refine fE L σ _ M _ K (hC.tr (hC.mem.fresh hj e ad) (x:= .ref (16*s+14)) ?_) RZ (VN _ _ _ (.inr (.inl rfl)) R1) h
   simp only[VR]
   exact⟨by rw[ay];simp,by rw[hv];simp[updν]⟩
  ·rename_i id hT
   rw[hT]at hs
   simp only[VR]at hs
   split at h
   ·rename_i e' l bg
    obtain⟨e1,h⟩:=bx h
    cases e1
    have hj:=(hN _ bq).2.1
    refine fE L _ _ M _ K (hC.tr (hC.mem.move bg trivial hj (.inl ⟨rfl,λ_ _ _ _=>by simp⟩)) (x:= .ref (16*s+14)) ?_) RZ (VN _ _ _ (.inr (.inl rfl)) R1) h
    simp only[VR]
    exact⟨by rw[ay];simp,by rw[hs.2];simp[updν]⟩
   ·cases h
  ·cases h
 |(s,.obj τ)::L,σ,acc,M,νA,K,hC,hF,hN,h=>by
  obtain⟨RZ,R1,VN⟩:=m6 hF hN
  unfold iP at h
  have hs:=hC.src s
  split at h
  ·rename_i id hT
   rw[hT]at hs
   split at h
   ·rename_i υ x bg
    obtain⟨e1,h⟩:=bx h
    subst e1
    have hj:=(hN _ bq).2.1
    simp only[VR]at hs
    obtain⟨e,he,lO⟩:=hs
    rw[bg]at he;cases he
    simp only[AR]at lO
    obtain⟨_,b,hb,hv⟩:=lO
    refine fE L _ _ M _ K (hC.tr (hC.mem.move bg trivial hj (.inl ⟨rfl,λ_ _ _ _=>by simp⟩)) (x:= .jE (16*s+14) []) ?_) RZ (VN _ _ _ (.inr (.inl rfl)) R1) h
    simp only[VR]
    exact⟨_,ay _ _ _,trivial,b,by simp[updν,hb],hv⟩
   ·
    rename_i υ x q k bg
    obtain⟨z,ups,M2,hK,gy,apv,b,cs,t,hb,hg,Lv,kB⟩: ∃z ups M2,cL υ τ z (λy=>iP L ((σ.xp ups).kp id (some .gone)) ((acc.put s (.jE (16*s+14) [])).kp (16*s+14) (some (.obj τ y))) K)=some r∧
      Tr c (jP σ.H acc.H) w M (mix ν νA) (jP (c0 σ.H ups) acc.H) w M2 (mix ν νA)∧c0 σ.H ups id=some (.gk υ x q k)∧ ∃b cs t,ν id= .pointer (some ⟨b,0,none⟩)∧w.heap[b]? =some (.cells cs t (0,0))∧M2 b∧Rd w M2 υ cs.toList z:=by
     have apw:=jg (B:=acc.H) bg
     unfold EJ at h
     split at h
     ·rename_i e l hk
      have kq:id≠k:=λe=>by rw[e,hk]at bg;cases bg
      obtain⟨z,ups,M2,hK,gy,_,hc2,b,cs,t,hb,hg,Lv,kB⟩:=zU (H:=jP σ.H acc.H) hC.mem (id:=2*id) (j:=2*k) (x:=x) (q:=q)
       (k:=λz _=>cL υ τ z λy=>iP L ((σ.xp [(k,some (.pD e l))]).kp id (some .gone)) ((acc.put s (.jE (16*s+14) [])).kp (16*s+14) (some (.obj τ y))) K) apw (by
        unfold EJ
        rw[jg hk]
        exact h)
      rw[jc]at hb
      rcases hc2 with⟨e2,l2,h2,_⟩|⟨e2,l2,h2,rfl⟩
      ·rw[jg hk]at h2;simp[br.re]at h2
      ·rw[jg hk]at h2
       simp only[br.re,iA]at h2
       have Sh:some (br.pD e l)=(some (br.pD e l)).map (br.re ml):=rfl
       have xF:Tr c (jP σ.H acc.H) w M (mix ν νA) (cn (jP σ.H acc.H) (2*k) (some (.pD e l))) w M2 (mix ν νA):=by
        cases h2;exact gy
       rw[Sh,su]at xF
       exact⟨z,_,M2,hK,xF,by show cn σ.H k _ id=_;rw[az _ _ kq];exact bg,b,cs,t,hb,hg,Lv,kB⟩
     ·rename_i e l hk
      obtain⟨z,ups,M2,hK,gy,_,hc2,b,cs,t,hb,hg,Lv,kB⟩:=zU (H:=jP σ.H acc.H) hC.mem (id:=2*id) (j:=2*k) (x:=x) (q:=q)
       (k:=λz _=>cL υ τ z λy=>iP L ((σ.xp []).kp id (some .gone)) ((acc.put s (.jE (16*s+14) [])).kp (16*s+14) (some (.obj τ y))) K) apw (by
        unfold EJ
        rw[jg hk]
        exact h)
      rw[jc]at hb
      rcases hc2 with⟨e2,l2,h2,rfl⟩|⟨e2,l2,h2,_⟩
      ·exact⟨z,[],M2,hK,gy,bg,b,cs,t,hb,hg,Lv,kB⟩
      ·rw[jg hk]at h2;simp[br.re]at h2
     ·cases h
    obtain⟨e1,hK⟩:=bx hK
    subst e1
    have hC2:Cut c ⟨σ.T,c0 σ.H ups⟩ acc tm w M2 ν νA:=⟨gy.mem,λi=>VR.cg gy.cg gy.goes.left (hC.src i),λi=>VR.cg gy.cg gy.goes.right (hC.dst i)⟩
    have w5:=Tr.Jf (e':= .obj υ z) gy.mem (jg apv) trivial trivial rfl (λ_ _=>by simp) (by rw[jc];simp only[ER];exact⟨b,cs,t,hb,hg,Lv,kB⟩) (λ_ _ _ _ h=>by cases h)
    have Sh:some (br.obj υ z)=(some (br.obj υ z)).map (br.re ml):=rfl
    rw[Sh,su]at w5
    have hC3:Cut c ⟨σ.T,cn (c0 σ.H ups) id (some (.obj υ z))⟩ acc tm w M2 ν νA:=⟨w5.mem,λi=>VR.cg w5.cg w5.goes.left (hC2.src i),λi=>VR.cg w5.cg w5.goes.right (hC2.dst i)⟩
    have hj:=(hN _ bq).2.1
    simp only[VR]at hs
    obtain⟨e,he,lO⟩:=hs
    rw[bg]at he;cases he
    simp only[AR]at lO
    obtain⟨_,b',eX,hv⟩:=lO
    rw[hb]at eX;cases eX
    have hmv:=hC3.mem.move (ay _ _ _) trivial hj (.inl ⟨rfl,λ_ _ _ _=>by simp⟩)
    rw[zT]at hmv
    have vl:(σ.xp ups).kp id (some .gone)=⟨σ.T,cn (c0 σ.H ups) id (some .gone)⟩:=by
     have h2:σ.xp ups=⟨σ.T,c0 σ.H ups⟩:=by rw[←R7,←R8 ups σ]
     rw[h2];rfl
    rw[vl]at hK
    refine fE L _ _ M2 _ K (hC3.tr hmv (x:= .jE (16*s+14) []) ?_) RZ (VN _ _ _ (.inr (.inl rfl)) R1) hK
    simp only[VR]
    exact⟨_,ay _ _ _,trivial,b,by simp[updν,hb],hv⟩
   ·cases h
  ·cases h
 |(s,.gk τ q e)::L,σ,acc,M,νA,K,hC,hF,hN,h=>by
  obtain⟨RZ,R1,VN⟩:=m6 hF hN
  unfold iP at h
  have hs:=hC.src s
  split at h
  ·rename_i id hT
   rw[hT]at hs
   split at h
   ·rename_i υ x q' k bg
    obtain⟨hpq,h1⟩:=cB h
    clear h
    have:=zS hpq
    subst this
    split at h1
    ·rename_i e' l hk
     obtain⟨e1,h2⟩:=bx h1
     clear h1
     subst e1
     obtain⟨e2,h⟩:=bx h2
     cases e2
     have kq:id≠k:=λe=>by rw[e,hk]at bg;cases bg
     obtain⟨avC,avD,_⟩:=hN _ bq
     simp only[VR]at hs
     obtain⟨e,he,lO⟩:=hs
     rw[bg]at he;cases he
     simp only[AR]at lO
     obtain⟨_,b,hb,hv⟩:=lO
     have ui:=hC.mem.move hk trivial avC (.inl ⟨rfl,λ_ _ _ _=>by simp⟩)
     have qz:cn σ.H k (some .gone) id=some (.gk υ x q k):=by rw[az _ _ kq];exact bg
     have yO:=ui.mem.move qz trivial (j:=16*s+14) (e1:= .gk υ x q (16*s+13)) (by rw[az _ _ ω];exact avD)
      (.inr ⟨υ,x,q,k,16*s+13,rfl,rfl,by rw[ay];simp,by simp[updν]⟩)
     refine fE L _ _ M _ K (hC.tr (ui.trans yO) (s:=s) (x:= .jE (16*s+14) []) ?_) RZ (VN _ _ _ (.inr (.inl rfl)) (VN _ _ _ (.inl rfl) R1)) h
     simp only[VR]
     exact⟨_,ay _ _ _,trivial,b,by simp[updν,hb],hv⟩
    ·cases h1
   ·cases h
  ·cases h
 |(s,.same s')::L,σ,acc,M,νA,K,hC,hF,hN,h=>by
  obtain⟨RZ,R1,VN⟩:=m6 hF hN
  unfold iP at h
  split at h
  ·rename_i i j j' h1 h2 h3
   obtain⟨hb,h⟩:=cB h
   have hb:=fy hb
   have e1:=hC.src s
   have e2:=hC.src s'
   have e3:=hC.dst s'
   rw[h1]at e1;rw[h2]at e2;rw[h3]at e3
   simp only[VR]at e1 e2 e3
   refine fE L σ _ M νA K (hC.tr (.refl hC.mem) (x:= .ref j') ?_) RZ R1 h
   simp only[VR]
   exact⟨e3.1,by rw[e1.2,hb,←e2.2,e3.2]⟩
  ·cases h
 |(s,.io τ)::L,σ,acc,M,νA,K,hC,hF,hN,h=>by
  obtain⟨RZ,R1,VN⟩:=m6 hF hN
  unfold iP at h
  have hs:=hC.src s
  split at h
  ·rename_i id hT
   rw[hT]at hs
   obtain⟨_,h⟩:=cB h
   split at h
   ·rename_i υ x bg
    obtain⟨e1,h⟩:=bx h
    subst e1
    have hj:=(hN _ bq).2.2
    simp only[VR]at hs
    obtain⟨e,he,lO⟩:=hs
    rw[bg]at he;cases he
    simp only[AR]at lO
    obtain⟨_,b,hb,hv⟩:=lO
    refine fE L _ _ M _ K (hC.tr (hC.mem.move bg trivial hj (.inl ⟨rfl,λ_ _ _ _=>by simp⟩)) (x:= .jE (16*s+15) []) ?_) RZ (VN _ _ _ (.inr (.inr rfl)) R1) h
    simp only[VR]
    exact⟨_,ay _ _ _,trivial,b,by simp[updν,hb],hv⟩
   ·cases h
  ·cases h
 |(s,.fn f τ)::L,σ,acc,M,νA,K,hC,hF,hN,h=>by
  obtain⟨RZ,R1,VN⟩:=m6 hF hN
  unfold iP at h
  have hs:=hC.src s
  split at h
  ·rename_i f' cs hT
   rw[hT]at hs
   obtain⟨hb,h1⟩:=cB h
   clear h
   have hb:=fy hb
   subst hb
   simp only[VR]at hs
   obtain⟨us,hv,hvs⟩:=hs
   obtain⟨y,rd,ups,h,hy⟩:=GJ hC.mem.left hvs h1
   split at h
   ·refine fE L σ _ M νA K (hC.tr (.refl hC.mem) (x:= .NM f (qO τ y)) ?_) RZ R1 h
    simp only[VR]
    exact⟨us,hv,jO.free (hy rfl)⟩
   ·cases h
  ·cases h
theorem z7(hI:Inv c E σ a w){L:Option (List (Nat×CM))}(hL: ∀L',L=some L'→kV L'=true){K:St→Option α}(h:xz L σ K=some r): ∃σ',K σ'=some r∧Inv c E σ' a w:=by
 unfold xz at h
 split at h
 ·exact⟨σ,h,hI⟩
 ·have hfr:=hL _ rfl
  obtain⟨⟨M,ν,hc⟩,hs,hd⟩:=hI
  obtain⟨acr,M',νA',hK,apx⟩:=fE (tm:=a.tmps) _ σ ⟨λ_=> .any,λ_=>none⟩ M (λ_=>undef) K ⟨hc.mem.acq _,hc.tmp,λi=>by simp[VR]⟩ hfr (λ_ _=>⟨rfl,rfl,rfl⟩) h
  exact⟨acr,hK,⟨M',νA',apx⟩,hs,hd⟩
end VM
end
section
namespace VM
open Go
variable{α:Type}{r:α}
theorem dK{υ τ:Ty}{y:υ.den}{k:τ.den→Option α}(h:cL υ τ y k=some r): ∃z,k z=some r∧ ∀k':τ.den→Option α,cL υ τ y k'=k' z:=by
 obtain⟨e,h⟩:=bx h
 subst e
 exact⟨y,h,λk'=>by simp[cL]⟩
theorem gI{υ τ:Ty}{k:Option α}(h:jr υ τ k=some r):k=some r∧ ∀k':Option α,jr υ τ k'=k':=by
 obtain⟨e,h1⟩:=dX h
 clear h
 subst e
 exact⟨h1,λk'=>by simp[jr]⟩
theorem eH{b:Bool}{K:Option α}(h:cond b K none=some r):K=some r∧ ∀K':Option α,cond b K' none=K':=by
 obtain⟨rfl,h⟩:=cB h
 exact⟨h,λ_=>rfl⟩
theorem uS{b:Bool}{K:Option α}(h:cond b none K=some r):K=some r∧ ∀K':Option α,cond b none K'=K':=by
 obtain⟨rfl,h⟩:=ns h
 exact⟨h,λ_=>rfl⟩
theorem yS: ∀{τ:Ty} {x:τ.den} {n:Nat} {k:(υ:Ty)→υ.den→Option α},vu τ x n k=some r→ ∃υ y,k υ y=some r∧ ∀k':(υ:Ty)→υ.den→Option α,vu τ x n k'=k' υ y
 | .pair a b,x,0,k,h=>⟨a,x.1,h,λ_=>rfl⟩
 | .pair a b,x,n+1,k,h=>by
  obtain⟨υ,y,h1,h2⟩:=yS (τ:=b) (x:=x.2) (n:=n) (k:=k) h
  exact⟨υ,y,h1,λk'=>h2 k'⟩
 | .int _,_,_,_,h| .bool,_,_,_,h| .str,_,_,_,h| .slice _,_,_,_,h| .unit,_,_,_,h| .arr _ _,_,_,_,h=>by simp[vu]at h
theorem z8: ∀{τ:Ty} {x:τ.den} {n:Nat} {m:(υ:Ty)→υ.den→(υ.den→Option α)→Option α} {k:τ.den→Option α},
  (∀υ y (k:υ.den→Option α),m υ y k=some r→ ∃z,k z=some r∧ ∀k':υ.den→Option α,m υ y k'=k' z)→fT τ x n m k=some r→ ∃z,k z=some r∧ ∀k':τ.den→Option α,fT τ x n m k'=k' z
 | .pair a b,x,0,m,k,hm,h=>by
  obtain⟨z,h1,h2⟩:=hm a x.1 _ h
  exact⟨(z,x.2),h1,λk'=>h2 _⟩
 | .pair a b,x,n+1,m,k,hm,h=>by
  obtain⟨z,h1,h2⟩:=z8 (τ:=b) (x:=x.2) (n:=n) (m:=m) (k:=λz=>k (x.1,z)) hm h
  exact⟨(x.1,z),h1,λk'=>h2 (λz=>k' (x.1,z))⟩
 | .int _,_,_,_,_,_,h| .bool,_,_,_,_,_,h| .str,_,_,_,_,_,h| .slice _,_,_,_,_,_,h| .unit,_,_,_,_,_,h| .arr _ _,_,_,_,_,_,h=>by simp[fT]at h
theorem iE: ∀{p:List Step} {τ:Ty} {x:τ.den} {k:(υ:Ty)→υ.den→Option α},A4 p τ x k=some r→ ∃υ y,k υ y=some r∧ ∀k':(υ:Ty)→υ.den→Option α,A4 p τ x k'=k' υ y
 |[],τ,x,k,h=>⟨τ,x,h,λ_=>rfl⟩
 | .iD n::p,τ,x,k,h=>by
  obtain⟨υ,y,h1,h2⟩:=yS (h:vu τ x n _=some r)
  obtain⟨υ',y',h3,h4⟩:=iE h1
  exact⟨υ',y',h3,λk'=>(h2 _).trans (h4 k')⟩
 | .idx i::p,τ,x,k,h=>by
  cases τ with
  |arr n e=>
   obtain⟨υ',y',h3,h4⟩:=iE (p:=p) (τ:=e) (x:=γ x i e.zero) (k:=k) h
   exact⟨υ',y',h3,λk'=>h4 k'⟩
  |_=>simp[A4,ajY]at h
theorem pG{υ:Ty}{y:υ.den}: ∀{p:List Step} {τ:Ty} {x:τ.den} {k:τ.den→Option α},wP υ y p τ x k=some r→ ∃z,k z=some r∧ ∀k':τ.den→Option α,wP υ y p τ x k'=k' z
 |[],τ,x,k,h=>dK h
 | .iD n::p,τ,x,k,h=>z8 (λ_ _ _ h=>pG h) h
 | .idx i::p,τ,x,k,h=>by
  cases τ with
  |arr n e=>
   obtain⟨z,h1,h2⟩:=pG (p:=p) (τ:=e) (x:=γ x i e.zero) (k:=λz=>k (List.set x i z)) h
   exact⟨_,h1,λk'=>h2 (λz=>k' (List.set x i z))⟩
  |_=>simp[wP,Fl]at h
theorem q4{a:bA}{k:IntKind→Int→Option α}(h:wQ a k=some r): ∃i n,k i n=some r∧ ∀k':IntKind→Int→Option α,wQ a k'=k' i n:=by
 obtain⟨i,n,rfl,h⟩:=n7 h
 exact⟨i,n,h,λ_=>rfl⟩
theorem Ua{a:bA}{k:(τ:Ty)→τ.den→Option α}(h:NO a k=some r): ∃τ x,k τ x=some r∧ ∀k':(τ:Ty)→τ.den→Option α,NO a k'=k' τ x:=by
 unfold NO at h
 split at h
 ·exact⟨_,_,h,λ_=>rfl⟩
 ·cases h
theorem vF{a:Option bA}{d:Int}{k:Int→Option α}(h:zm a d k=some r): ∃n,k n=some r∧ ∀k':Int→Option α,zm a d k'=k' n:=by
 cases a with
 |none=>exact⟨d,h,λ_=>rfl⟩
 |some a=>
  obtain⟨i,n,h1,h2⟩:=q4 (h:wQ a (λ_ x=>k x)=some r)
  exact⟨n,h1,λk'=>h2 (λ_ x=>k' x)⟩
abbrev Ag(rd:List Nat)(H H':Nat→Option br):Prop:= ∀i∈rd,H' i=H i
theorem pH{fz:Bool}{a:bA}{H:Nat→Option br}{τ:Ty}{k:τ.den→List Nat→jF→Option α}(h:m1 fz a H τ k=some r):
  ∃y rd ups,k y rd ups=some r∧ ∀H',Ag rd H H'→ ∀k':τ.den→List Nat→jF→Option α,m1 fz a H' τ k'=k' y rd ups:=by
 cases a with
 |val υ x=>
  simp only[m1]at h
  obtain⟨z,h1,h2⟩:=dK h
  refine⟨z,[],[],h1,λH' _ k'=> ?_⟩
  simp only[m1]
  exact h2 (λy=>k' y [] [])
 |Ln υ x n=>
  simp only[m1]at h
  obtain⟨z,h1,h2⟩:=dK h
  refine⟨z,[],[],h1,λH' _ k'=> ?_⟩
  simp only[m1]
  exact h2 (λy=>k' y [] [])
 |emp=>
  cases τ with
  |slice e=>exact⟨[],[],[],h,λ_ _ _=>rfl⟩
  |_=>cases h
 |ref id=>
  have h:(match H id with
   |some (.own e l)=>cL (.slice e) τ l λy=>k y [id] (cond fz [(id,some (.pD e l))] [])
   |some (.pD e l)=>cL (.slice e) τ l λy=>k y [id] []
   |_=>none)=some r:=h
  cases hH:H id with
  |none=>rw[hH]at h;cases h
  |some e=>
   rw[hH]at h
   cases e with
   |own e l=>
    obtain⟨z,h1,h2⟩:=dK (h:cL (.slice e) τ l _=some r)
    refine⟨z,_,_,h1,λH' hA k'=> ?_⟩
    have:H' id=some (.own e l):=by rw[hA id (by simp),hH]
    show(match H' id with
     |some (.own e l)=>cL (.slice e) τ l λy=>k' y [id] (cond fz [(id,some (.pD e l))] [])
     |some (.pD e l)=>cL (.slice e) τ l λy=>k' y [id] []
     |_=>none)=_
    rw[this];exact h2 _
   |pD e l=>
    obtain⟨z,h1,h2⟩:=dK (h:cL (.slice e) τ l _=some r)
    refine⟨z,_,_,h1,λH' hA k'=> ?_⟩
    have:H' id=some (.pD e l):=by rw[hA id (by simp),hH]
    show(match H' id with
     |some (.own e l)=>cL (.slice e) τ l λy=>k' y [id] (cond fz [(id,some (.pD e l))] [])
     |some (.pD e l)=>cL (.slice e) τ l λy=>k' y [id] []
     |_=>none)=_
    rw[this];exact h2 _
   |obj _ _=>cases h
   |gk _ _ _ _=>cases h
   |gone=>cases h
 |any|X4|jE _ _|se _ _|tup _|NM _ _|Ja _ _ _ _|sub _ _ _=>cases h
theorem yT{id:Nat}{p:List Step}{H:Nat→Option br}{k:Ty→Option α}(h:mc id p H k=some r): ∃υ,k υ=some r∧ ∀H',H' id=H id→ ∀k':Ty→Option α,mc id p H' k'=k' υ:=by
 unfold mc at h
 split at h
 ·rename_i τ x bg
  obtain⟨υ,y,h1,h2⟩:=iE h
  exact⟨υ,h1,λH' hA k'=>by unfold mc;rw[hA,bg];exact h2 _⟩
 ·rename_i τ x _ _ bg
  obtain⟨υ,y,h1,h2⟩:=iE h
  exact⟨υ,h1,λH' hA k'=>by unfold mc;rw[hA,bg];exact h2 _⟩
 ·rename_i e l bg
  split at h
  ·obtain⟨υ,y,h1,h2⟩:=iE h
   exact⟨υ,h1,λH' hA k'=>by unfold mc;rw[hA,bg];exact h2 _⟩
  ·cases h
 ·rename_i e l bg
  split at h
  ·obtain⟨υ,y,h1,h2⟩:=iE h
   exact⟨υ,h1,λH' hA k'=>by unfold mc;rw[hA,bg];exact h2 _⟩
  ·cases h
 ·cases h
theorem yU{H:Nat→Option br}{id:Nat}{e:br}{K:Option α}(h:sf H id e K=some r):K=some r∧ ∀H',H' id=H id→ ∀(e':br) (K':Option α),sf H' id e' K'=K':=by
 obtain⟨h1,h2⟩:=mB h
 exact⟨h2,λH' hA e' K'=>by unfold sf;rw[hA,h1]⟩
theorem VO{b:BinOp}{k:IntKind}{x y:Int}{K:bA→Option α}(h:vv b k x y K=some r): ∃v,K v=some r∧ ∀K':bA→Option α,vv b k x y K'=K' v:=by
 cases b<;>simp only[vv]at h ⊢ <;>first
  |exact⟨_,h,λ_=>rfl⟩
  |(obtain⟨h1,h2⟩:=uS h;exact⟨_,h1,λ_=>h2 _⟩)
  |cases h
theorem aky{b:BinOp}{k:IntKind}{x y:Int}{K:bA→Option α}(h:shK b k x y K=some r): ∃v,K v=some r∧ ∀K':bA→Option α,shK b k x y K'=K' v:=by
 cases b<;>simp only[shK]at h ⊢ <;>first
  |(obtain⟨h1,h2⟩:=uS h;exact⟨_,h1,λ_=>h2 _⟩)
  |cases h
theorem YA{t:Option Ty}{op:BinOp}{τ:Ty}{x:τ.den}{υ:Ty}{y:υ.den}{K:bA→Option α}(h:Gm t op τ x υ y K=some r): ∃v,K v=some r∧ ∀K':bA→Option α,Gm t op τ x υ y K'=K' v:=by
 unfold Gm at h ⊢
 split at h
 ·rename_i k x k' y
  cases hs:abZ op
  ·rw[hs]at h
   have h:(if k=k' then vv op k x y K else none)=some r:=h
   by_cases hk:k=k'
   ·rw[aj hk]at h
    obtain⟨v,h1,h2⟩:=VO h
    exact⟨v,h1,λK'=>by simp only[av,aj hk];exact h2 K'⟩
   ·rw[ah hk]at h;cases h
  ·rw[hs]at h
   obtain⟨v,h1,h2⟩:=aky (h:shK op k x y K=some r)
   exact⟨v,h1,λK'=>by simp only[ak];exact h2 K'⟩
 ·split at h
  ·cases h
  ·obtain⟨h1,h2⟩:=gI h
   obtain⟨h3,h4⟩:=eH h1
   split at h3
   ·obtain⟨z,h5,h6⟩:=dK h3
    exact⟨_,h5,λK'=>by rw[h2,h4];exact h6 _⟩
   ·obtain⟨z,h5,h6⟩:=dK h3
    exact⟨_,h5,λK'=>by rw[h2,h4];exact h6 _⟩
   ·cases h3
theorem acs{u:UnOp}{a:bA}{K:bA→Option α}(h:Vo u a K=some r): ∃v,K v=some r∧ ∀K':bA→Option α,Vo u a K'=K' v:=by
 unfold Vo at h
 split at h<;>first
  |exact⟨_,h,λ_=>rfl⟩
  |cases h
theorem Si{up:Bool}: ∀{xs:List bA} {a:bA} {K:bA→Option α},mmK up a xs K=some r→ ∃v,K v=some r∧ ∀K':bA→Option α,mmK up a xs K'=K' v
 |[],a,K,h=>⟨a,h,λ_=>rfl⟩
 |b::xs,a,K,h=>by
  unfold mmK at h
  obtain⟨k,x,h1,h2⟩:=q4 h
  obtain⟨k',y,h3,h4⟩:=q4 h1
  by_cases hk:k=k'
  ·rw[aj hk]at h3
   obtain⟨v,h5,h6⟩:=Si h3
   refine⟨v,h5,λK'=> ?_⟩
   unfold mmK
   rw[h2,h4,aj hk]
   exact h6 K'
  ·rw[ah hk]at h3;cases h3
theorem acu{τ:Ty}{a:bA}{H:Nat→Option br}{K:g7 α}(h:NP τ a H K=some r): ∃v rd ups,K v rd ups=some r∧ ∀H',Ag rd H H'→ ∀K':g7 α,NP τ a H' K'=K' v rd ups:=by
 unfold NP at h
 split at h
 ·exact⟨_,_,_,h,λ_ _ _=>rfl⟩
 ·exact⟨_,_,_,h,λ_ _ _=>rfl⟩
 ·exact⟨_,_,_,h,λ_ _ _=>rfl⟩
 ·exact⟨_,_,_,h,λ_ _ _=>rfl⟩
 ·split at h
  ·rename_i bg
   exact⟨_,_,_,h,λH' hA K'=>by unfold NP;simp only;rw[hA _ (by simp),bg]⟩
  ·rename_i bg
   exact⟨_,_,_,h,λH' hA K'=>by unfold NP;simp only;rw[hA _ (by simp),bg]⟩
  ·cases h
 ·cases h
theorem acv{id:Nat}{e:Ty}{a b:bA}{H:Nat→Option br}{K:g7 α}(h:NQ id e a b H K=some r): ∃v rd ups,K v rd ups=some r∧id∈rd∧ ∀H',Ag rd H H'→ ∀K':g7 α,NQ id e a b H' K'=K' v rd ups:=by
 unfold NQ at h
 obtain⟨ys,rd,ups,h1,h2⟩:=pH h
 split at h1
 ·obtain⟨h3,h4⟩:=eH h1
  refine⟨_,_,_,h3,by simp,λH' hA K'=> ?_⟩
  unfold NQ
  rw[h2 H' (λi hi=>hA i (aZ _ hi))]
  exact h4 _
 ·rename_i j
  split at h1
  ·rename_i e' l hj
   obtain⟨z,h3,h4⟩:=dK h1
   obtain⟨h5,h6⟩:=eH h3
   refine⟨_,_,_,h5,by simp,λH' hA K'=> ?_⟩
   unfold NQ
   rw[h2 H' (λi hi=>hA i (aZ _ (aZ _ hi)))]
   simp only
   rw[hA j (by simp),hj]
   simp only
   rw[h4]
   exact h6 _
  ·cases h1
 ·cases h1
theorem GU{e:Ty}{n:Nat}{H:Nat→Option br}: ∀{ps:List (Nat×bA)} {l:List e.den} {J2:List Nat} {GV:jF} {K:List e.den→List Nat→jF→Option α},xr e H n ps l J2 GV K=some r→
  ∃l' rd ups,K l' rd ups=some r∧(∀i∈J2,i∈rd)∧ ∀H',Ag rd H H'→ ∀K':List e.den→List Nat→jF→Option α,xr e H' n ps l J2 GV K'=K' l' rd ups
 |[],l,J2,GV,K,h=>⟨l,J2,GV,h,λ_ h=>h,λ_ _ _=>rfl⟩
 |p::ps,l,J2,GV,K,h=>by
  unfold xr at h
  obtain⟨h1,h2⟩:=eH h
  obtain⟨y,Yh,CE,h3,h4⟩:=pH h1
  obtain⟨l',rd,ups,h5,h6,h7⟩:=GU h3
  refine⟨l',rd,ups,h5,λi hi=>h6 i (dB _ hi),λH' hA K'=> ?_⟩
  unfold xr
  rw[h2,h4 H' (λi hi=>hA i (h6 i (cU _ hi)))]
  exact h7 H' hA K'
theorem CG{τ:Ty}{H:Nat→Option br}: ∀{ps:List (Nat×bA)} {x:τ.den} {J2:List Nat} {GV:jF} {K:τ.den→List Nat→jF→Option α},me τ H ps x J2 GV K=some r→
  ∃x' rd ups,K x' rd ups=some r∧(∀i∈J2,i∈rd)∧ ∀H',Ag rd H H'→ ∀K':τ.den→List Nat→jF→Option α,me τ H' ps x J2 GV K'=K' x' rd ups
 |[],x,J2,GV,K,h=>⟨x,J2,GV,h,λ_ h=>h,λ_ _ _=>rfl⟩
 |p::ps,x,J2,GV,K,h=>by
  unfold me at h
  obtain⟨υ,z,h1,h2⟩:=yS h
  obtain⟨y,Yh,CE,h3,h4⟩:=pH h1
  obtain⟨z',h5,h6⟩:=z8 (m:=fun υ' _ k'=>cL υ υ' y k') (fun υ' y' k hk=>dK hk) h3
  obtain⟨x',rd,ups,h7,h8,h9⟩:=CG h5
  refine⟨x',rd,ups,h7,λi hi=>h8 i (dB _ hi),λH' hA K'=> ?_⟩
  unfold me
  rw[h2,h4 H' (λi hi=>hA i (h8 i (cU _ hi))),h6]
  exact h9 H' hA K'
theorem YB{H:Nat→Option br}{v:bA}{a:Ty}{k:a.den→List Nat→jF→Option α}(h:DG v H a k=some r):
  ∃x rd ups,k x rd ups=some r∧ ∀H',Ag rd H H'→ ∀k':a.den→List Nat→jF→Option α,DG v H' a k'=k' x rd ups:=by
 unfold DG at h
 split at h
 ·split at h
  ·obtain⟨z,h1,h2⟩:=dK h
   refine⟨_,_,_,h1,λH' _ k'=> ?_⟩
   unfold DG
   simp only
   rw[h2]
  ·cases h
 ·rename_i k0 qX
  obtain⟨y,rd,ups,h1,h2⟩:=pH h
  refine⟨y,rd,ups,h1,λH' hA k'=> ?_⟩
  unfold DG
  split
  ·exact(qX _ _ rfl HEq.rfl).elim
  ·exact h2 H' hA _
theorem Ol{H:Nat→Option br}: ∀{τ:Ty} {vs:List bA} {k:τ.den→List Nat→jF→Option α},si H τ vs k=some r→
  ∃x rd ups,k x rd ups=some r∧ ∀H',Ag rd H H'→ ∀k':τ.den→List Nat→jF→Option α,si H' τ vs k'=k' x rd ups
 | .unit,[],k,h=>⟨(),[],[],h,λ_ _ _=>rfl⟩
 | .pair a b,v::vs,k,h=>by
  unfold si at h
  obtain⟨y,rd,ups,h1,h2⟩:=YB h
  obtain⟨ys,yJ,kN,h3,h4⟩:=Ol h1
  refine⟨(y,ys),_,_,h3,λH' hA k'=> ?_⟩
  unfold si
  rw[h2 H' (λi hi=>hA i (dB _ hi)),h4 H' (λi hi=>hA i (cU _ hi))]
 | .unit,_::_,_,h=>by simp[si]at h
 | .pair _ _,[],_,h=>by simp[si]at h
 | .int _,_,_,h| .bool,_,_,h| .str,_,_,h| .slice _,_,_,h| .arr _ _,_,_,h=>by simp[si]at h
theorem GW: ∀{qV:List bA} {H:Nat→Option br} {K:List bA→List Nat→jF→Option α},xt H qV K=some r→
  ∃cs rd ups,K cs rd ups=some r∧ ∀H',Ag rd H H'→ ∀K':List bA→List Nat→jF→Option α,xt H' qV K'=K' cs rd ups
 |[],H,K,h=>⟨[],[],[],h,λ_ _ _=>rfl⟩
 |a::qV,H,K,h=>by
  unfold xt at h
  split at h
  ·rename_i id
   split at h
   ·rename_i τ x bg
    obtain⟨cs,rd,ups,h1,h2⟩:=GW h
    refine⟨_,_,_,h1,λH' hA K'=> ?_⟩
    unfold xt
    simp only
    rw[hA id (by simp),bg]
    simp only
    rw[h2 (cn H' id (some .gone)) (λi hi=>by
     by_cases ca:i=id
     ·subst ca;rw[ay,ay]
     ·rw[az _ _ ca,az _ _ ca];exact hA i (aZ _ hi))]
   ·cases h
  ·rename_i qX
   obtain⟨cs,rd,ups,h1,h2⟩:=GW h
   refine⟨_,_,_,h1,λH' hA K'=> ?_⟩
   unfold xt
   split
   ·exact absurd rfl (qX _)
   ·rw[h2 H' hA]
end VM
end
