/- A part of the proof of LotEven of layer 23: a machine that reads a function of the program as an equation between values. -/
import Derived.Test.YthnjnpjmbabcaaaGreatVm3
set_option linter.all false
section
namespace VM
open Go
variable{P:Program}{E:Env}{o:Oper}{a:Act}{w:World}{M:Nat→Prop}{ν:Nat→Value}{σ:St}{c:Ctx}{α:Type}{r:α}{next:Act→World→Prop}{Q:Exit→Act→World→Prop}
def pU:{m:AM}→{ms:List AM}→HP (m::ms)→m.den
 |_,[],x=>x
 |_,_::_,x=>x.1
def sy:{m:AM}→{ms:List AM}→HP (m::ms)→HP ms
 |_,[],_=>()
 |_,_::_,x=>x.2
def AM.iD:AM→Bool
 | .io _| .lo _=>true
 |_=>false
def AM.ZK:AM→Bool
 | .fn _ _| .ic _=>true
 |_=>false
def A1(w:World)(M:Nat→Prop):(m:AM)→m.den→Value→Prop
 | .v τ,x,v=>V w M τ v x
 | .own e,x,v=>ER w M v (.own e x)
 | .io τ,x,v=>ER w M v (.obj τ x)
 | .fn f τ,x,v=>VR w M (λ_=>none) (λ_=>undef) (.Mr f (p7 τ x)) v
 | .ptr τ,x,v=>ER w M v (.obj τ x)
 | .ic τ,x,v=>VR w M (λ_=>none) (λ_=>undef) (.rn τ x) v
 | .lo e,x,v=>ER w M v (.own e x)
 | .sp τ n e,x,v=> ∃(cs:Array Value) (jB:List Value) (u:Value) (l:List e.den) (z:τ.den),v= .agg cs∧uZ τ n=true∧Rd w M τ jB z∧cs.toList=dI jB (fF τ n) [u]∧ER w M u (.own e l)∧
  fi τ z n (fun υ' _ k'=>cr (.slice e) υ' l k') some=some x
def ame(n:Nat):Value→Option Value
 | .agg cs=>cs.toList[n]?
 |_=>none
def jg(w:World)(M:Nat→Prop):(ms:List AM)→HP ms→List Value→Prop
 |[],_,vs=>vs=[]
 |_::ms,x,vs=> ∃v LW,vs=v::LW∧A1 w M _ (pU x) v∧jg w M ms (sy x) LW
def cV:AM→Value→List Nat
 | .own _,v| .io _,v| .ptr _,v| .lo _,v=>(dQ v).toList
 | .sp τ n _,v=>((ame (fF τ n) v).bind dQ).toList
 |_,_=>[]
theorem xS{τ:Ty}{n:Nat}{e:Ty}{cs:Array Value}{jB:List Value}{u:Value}{z:τ.den}(hq:uZ τ n=true)(hr:Rd w M τ jB z)(tq:cs.toList=dI jB (fF τ n) [u]):cV (.sp τ n e) (.agg cs)=(dQ u).toList∧fF τ n<jB.length:=by
 obtain⟨e',_,hf⟩:=y8 hq
 obtain⟨y,o,H8⟩:=kq hf z
 have hb:=H8.bound
 have ho:=H8.eq.2
 subst ho
 rw[show(Ty.slice e').size=1 from rfl]at hb
 have hl:=hr.length
 have dU:fF τ n<jB.length:=ω
 refine⟨?_,dU⟩
 show((cs.toList[fF τ n]?).bind dQ).toList=_
 rw[tq,xN dU];rfl
def dB:List AM→List Value→List Nat
 |m::ms,v::vs=>cV m v++dB ms vs
 |_,_=>[]
def fb:List AM→List Value→List Value
 |m::ms,v::vs=>if m.iD then v::fb ms vs else fb ms vs
 |_,_=>[]
def mN:List AM→List AM
 | .io τ::ms=> .io τ::mN ms
 | .lo e::ms=> .lo e::mN ms
 |_::ms=>mN ms
 |[]=>[]
def RR(w:World)(M:Nat→Prop):(ms:List AM)→HP ms→List Value→List Value→Prop
 |[],_,vs,ps=>vs=[]∧ps=[]
 |m::ms,x,vs,ps=>(∃p EI,m.iD=true∧ps=p::EI∧A1 w M m (pU x) p∧RR w M ms (sy x) vs EI)∨
  (∃v LW,m.iD=false∧m.ZK=false∧vs=v::LW∧A1 w M m (pU x) v∧RR w M ms (sy x) LW ps)
def bL:List AM→List Value→List Value→List Nat
 |[],_,_=>[]
 |m::ms,vs,ps=>if m.iD then cV m (ps.headD undef)++bL ms vs ps.tail else cV m (vs.headD undef)++bL ms vs.tail ps
def AM.flat:AM→Bool
 | .v τ| .io τ| .own τ| .ptr τ| .lo τ=>τ.flat
 | .fn _ _| .ic _| .sp _ _ _=>false
def yQ(vs:List Value):Value:=if h:vs.length=1 then vs[0]else .tuple vs.toArray
structure Left(w:World)(M0:Nat→Prop)(hs:List Nat)(w':World)(M':Nat→Prop):Prop where
 sub: ∀b,M0 b→M' b
 y6: ∀b,M' b→b<w'.heap.size
 less: ∀b,b<w.heap.size→M' b→M0 b∨b∈hs
 frame: ∀b,b<w.heap.size→b∉hs→w'.heap[b]? =w.heap[b]?
 size:w.heap.size≤w'.heap.size
 os:w'.os=w.os
 tape:w'.tape=w.tape
 output:w'.output=w.output
def MS(P:Program)(f:FuncId)(args:Array Value)(w:World)(R:Value→World→Prop):Prop:=
 ∀(o:Oper) (a:Act) (next:Act→World→Prop) (Q:Exit→Act→World→Prop),(∀v w',R v w'→next (a.put o.dst v) w')→o.upon P a next Q ((callFunc f args).run P w)
theorem MS.mono{f:FuncId}{args:Array Value}{R R':Value→World→Prop}(h:MS P f args w R)(hr: ∀v w',R v w'→R' v w'):MS P f args w R':=
 λo a next Q hn=>h o a next Q λv w' hv=>hn v w' (hr v w' hv)
theorem tu{f:FuncId}{fn:Func}{args:Array Value}{R:Value→World→Prop}(hf:P.funcs[f]? =some fn)(hn:(fn.name== "runtime.NumGoroutine")=false)(hb:fn.body.isNone=false)
  (h:Calls P f args w λe w'=> ∃v,e= .returned v∧R v w'):MS P f args w R:=by
 intro o a next Q vT
 have hn': ¬fn.name= "runtime.NumGoroutine" :=by simpa using hn
 have dj: ¬fn.body=none:=λe=>by rw[e]at hb;cases hb
 have:(callFunc f args).run P w= .ok (.enter f args) w:=by simp[callFunc,hf,hn',dj]
 rw[this,Oper.upon_enter]
 refine Calls.mono h ?_
 rintro e w' ⟨v,rfl,hR⟩
 exact vT v w' hR
theorem Iw{f:FuncId}{args:Array Value}{R:Value→World→Prop}{v:Value}{w':World}(h:(callFunc f args).run P w= .ok (.value v) w')(hR:R v w'):MS P f args w R:=by
 intro o a next Q vT
 rw[h,Oper.upon_value]
 exact vT v w' hR
structure lN(P:Program)(f:FuncId)(S:pP):Prop where
 quiet:S.quiet=true→S.res.all AM.flat=true
 ios:mN S.args=mN S.res
 call: ∀(M0:Nat→Prop) (w:World) (vs:List Value) (x:HP S.args) (y:HP S.res),(∀b,M0 b→b<w.heap.size)→
  jg w (λb=>M0 b∨b∈dB S.args vs) S.args x vs→(dB S.args vs).Nodup→(∀b∈dB S.args vs,¬M0 b)→S.run x=some y→
  MS P f vs.toArray w λv w'=> ∃us M',v=yQ us∧RR w' M' S.res y us (fb S.args vs)∧Left w M0 (dB S.args vs) w' M'∧
   (bL S.res us (fb S.args vs)).Nodup∧ ∀b∈bL S.res us (fb S.args vs),¬M0 b
theorem Rd.flat{w w':World}{M M':Nat→Prop}: ∀{τ:Ty} {cs:List Value} {x:τ.den},τ.flat=true→Rd w M τ cs x→Rd w' M' τ cs x
 | .int _,_,_,_,h| .bool,_,_,_,h| .str,_,_,_,h| .unit,_,_,_,h=>h
 | .slice _,_,_,hf,_=>by simp[Ty.flat]at hf
 | .pair a b,_,_,hf,h=>by
  simp only[Ty.flat,bQ]at hf
  simp only[Rd]at h ⊢
  obtain⟨c1,c2,rfl,h1,h2⟩:=h
  exact⟨c1,c2,rfl,h1.flat hf.1,h2.flat hf.2⟩
 | .arr n e,_,x,hf,h=>by
  simp only[Ty.flat]at hf
  simp only[Rd]at h ⊢
  obtain⟨hn,Tm,hc,rfl,hr⟩:=h
  exact⟨hn,Tm,hc,rfl,λi hi mz=>(hr i hi mz).flat hf⟩
theorem A1.flat{w:World}{M M':Nat→Prop}(hM: ∀b,M b→M' b){m:AM}{x:m.den}{v:Value}(hf:m.flat=true)(h:A1 w M m x v):A1 w M' m x v:=by
 cases m with
 |v τ=>
  simp only[A1,V,AM.flat]at h hf ⊢
  split
  ·rename_i ha;rw[ak ha]at h;obtain⟨cs,h1,h⟩:=h;exact⟨cs,h1,h.flat hf⟩
  ·rename_i ha;rw[ah ha]at h;exact h.flat hf
 |own e=>
  simp only[A1,ER,AM.flat]at h hf ⊢
  rcases h with h|⟨b,cs,t,cap,h1,h2,h3,h4,h5,h6,h7,h8⟩
  ·exact .inl h
  ·exact .inr ⟨b,cs,t,cap,h1,h2,hM b h3,h4,h5,h6,h7,λi hi=>(h8 i hi).flat hf⟩
 |io τ=>
  simp only[A1,ER,AM.flat]at h hf ⊢
  obtain⟨b,cs,t,h1,h2,h3,h4⟩:=h
  exact⟨b,cs,t,h1,h2,hM b h3,h4.flat hf⟩
 |fn f τ=>simp[AM.flat]at hf
 |ic τ=>simp[AM.flat]at hf
 |sp τ n e=>simp[AM.flat]at hf
 |lo e=>
  simp only[A1,ER,AM.flat]at h hf ⊢
  rcases h with h|⟨b,cs,t,cap,h1,h2,h3,h4,h5,h6,h7,h8⟩
  ·exact .inl h
  ·exact .inr ⟨b,cs,t,cap,h1,h2,hM b h3,h4,h5,h6,h7,λi hi=>(h8 i hi).flat hf⟩
 |ptr τ=>
  simp only[A1,ER,AM.flat]at h hf ⊢
  obtain⟨b,cs,t,h1,h2,h3,h4⟩:=h
  exact⟨b,cs,t,h1,h2,hM b h3,h4.flat hf⟩
theorem RR.flat{w:World}{M M':Nat→Prop}(hM: ∀b,M b→M' b): ∀{ms:List AM} {x:HP ms} {vs ps:List Value},ms.all AM.flat=true→RR w M ms x vs ps→RR w M' ms x vs ps
 |[],_,_,_,_,h=>h
 |m::ms,x,vs,ps,hf,h=>by
  simp only[Ab,bQ]at hf
  simp only[RR]at h ⊢
  rcases h with⟨p,EI,h1,h2,h3,h4⟩|⟨v,LW,h1,h2,h3,h4,h5⟩
  ·exact .inl ⟨p,EI,h1,h2,h3.flat hM hf.1,RR.flat hM hf.2 h4⟩
  ·exact .inr ⟨v,LW,h1,h2,h3,h4.flat hM hf.1,RR.flat hM hf.2 h5⟩
theorem A1.xd{w w':World}{M M':Nat→Prop}(k:dP w M w' M'){m:AM}{x:m.den}{v:Value}(hm: ∀b∈cV m v,w'.heap[b]? =w.heap[b]? ∧M' b)(h:A1 w M m x v):A1 w' M' m x v:=by
 cases m with
 |v τ=>exact V.bG k h
 |own e=>
  simp only[A1]at h ⊢
  exact ER.bG k (λ_ b hb=>hm b (by simp[cV,hb])) h
 |io τ=>
  simp only[A1]at h ⊢
  exact ER.bG k (λ_ b hb=>hm b (by simp[cV,hb])) h
 |fn f τ=>exact VR.bG k (.refl _ _) h
 |ic τ=>exact VR.bG k (.refl _ _) h
 |sp τ n e=>
  simp only[A1]at h ⊢
  obtain⟨cs,jB,u,l,z,rfl,hq,hr,tq,hu,hs⟩:=h
  exact⟨cs,jB,u,l,z,rfl,hq,hr.bG k,tq,ER.bG k (λ_ b hb=>hm b (by rw[(xS hq hr tq).1];simp[hb])) hu,hs⟩
 |lo e=>
  simp only[A1]at h ⊢
  exact ER.bG k (λ_ b hb=>hm b (by simp[cV,hb])) h
 |ptr τ=>
  simp only[A1]at h ⊢
  exact ER.bG k (λ_ b hb=>hm b (by simp[cV,hb])) h
theorem jg.xd{w w':World}{M M':Nat→Prop}(k:dP w M w' M'): ∀{ms:List AM} {x:HP ms} {vs:List Value},(∀b∈dB ms vs,w'.heap[b]? =w.heap[b]? ∧M' b)→jg w M ms x vs→jg w' M' ms x vs
 |[],_,_,_,h=>h
 |m::ms,x,vs,hm,h=>by
  simp only[jg]at h ⊢
  obtain⟨v,LW,rfl,h1,h2⟩:=h
  exact⟨v,LW,rfl,h1.xd k (λb hb=>hm b (by simp[dB,hb])),jg.xd k (λb hb=>hm b (by simp[dB,hb])) h2⟩
theorem RR.xd{w w':World}{M M':Nat→Prop}(k:dP w M w' M'): ∀{ms:List AM} {x:HP ms} {us ps:List Value},(∀b∈bL ms us ps,w'.heap[b]? =w.heap[b]? ∧M' b)→RR w M ms x us ps→RR w' M' ms x us ps
 |[],_,_,_,_,h=>h
 |m::ms,x,us,ps,hm,h=>by
  simp only[RR]at h ⊢
  rcases h with⟨p,EI,h1,rfl,h2,h3⟩|⟨v,D8,h1,h2,rfl,h3,h4⟩
  ·simp only[bL,h1,gA,tN,tO,bf]at hm
   exact .inl ⟨p,EI,h1,rfl,h2.xd k (λb hb=>hm b (.inl hb)),RR.xd k (λb hb=>hm b (.inr hb)) h3⟩
  ·simp only[bL,h1,gW,eo,tN,tO,bf]at hm
   exact .inr ⟨v,D8,h1,h2,rfl,h3.xd k (λb hb=>hm b (.inl hb)),RR.xd k (λb hb=>hm b (.inr hb)) h4⟩
theorem EJ{H:Nat→Option aW}(hm:Mem c H w M ν){a:bk}{v:Value}(hv:VR w M H ν a v){τ:Ty}{k:τ.den→List Nat→ig→Option α}{r:α}(h:mw true a H τ k=some r):
  ∃y rd ups,k y rd ups=some r∧((ups=[]∧V w M τ v y)∨ ∃id e l,ups=[(id,some (.oN e l))]∧H id=some (.own e l)∧
   ∀M',(∀b,M' b↔(M b∧dQ (ν id)≠some b))→V w M' τ v y):=by
 unfold mw at h
 split at h
 ·obtain⟨e,h⟩:=bh h
  subst e
  simp only[VR]at hv
  exact⟨_,[],[],h,.inl ⟨rfl,hv⟩⟩
 ·obtain⟨e,h⟩:=bh h
  subst e
  simp only[VR]at hv
  exact⟨_,[],[],h,.inl ⟨rfl,hv.1⟩⟩
 ·split at h
  ·rename_i e k' _
   simp only[VR]at hv
   obtain⟨a,rfl⟩:=hv
   refine⟨[],[],[],h,.inl ⟨rfl,V.slice.2 ?_⟩⟩
   simp only[Rd]
   exact⟨a,0,rfl,aI _,λi hi=>absurd hi (by simp)⟩
  ·cases h
 ·rename_i id
  simp only[VR]at hv
  obtain⟨_,rfl⟩:=hv
  split at h
  ·rename_i e l hid
   obtain⟨e',h⟩:=bh h
   subst e'
   refine⟨_,_,_,h,.inr ⟨id,e,l,rfl,hid,λM' hM'=> ?_⟩⟩
   obtain⟨M2,_,hV,Kr⟩:=Tr.freeze hm hid
   have:M'=M2:=by funext b;exact propext ((hM' b).trans (Kr b).symm)
   rw[this];exact hV
  ·rename_i e l hid
   obtain⟨e',h⟩:=bh h
   subst e'
   have:=hm.gT id _ hid
   simp only[ER]at this
   exact⟨_,_,_,h,.inl ⟨rfl,V.slice.2 this.1⟩⟩
  ·cases h
 ·cases h
theorem V3{H:Nat→Option aW}(hm:Mem c H w M ν): ∀{a:Ty} {x:bk} {v:Value} {k:a.den→List Nat→ig→Option α} {r:α},VR w M H ν x v→CO x H a k=some r→
  ∃y rd ups,k y rd ups=some r∧(ups=[]→VR w M (λ_=>none) (λ_=>undef) (CP a y) v):=by
 intro a x v k r hv h
 unfold CO at h
 split at h
 ·rename_i a k
  split at h
  ·rename_i υ z
   obtain⟨e1,h⟩:=bh h
   subst e1
   refine⟨_,_,_,h,λ_=> ?_⟩
   simp only[CP,VR]at hv ⊢
   exact hv
  ·cases h
 ·rename_i k0 nr
  obtain⟨y,rd,ups,h,hy⟩:=EJ hm hv h
  refine⟨y,rd,ups,h,λhu=> ?_⟩
  rcases hy with⟨_,hy⟩|⟨_,_,_,h3,_⟩
  ·have:CP _ y= .val _ y:=by
    unfold CP
    split
    ·exact(nr _ _ rfl HEq.rfl).elim
    ·rfl
   rw[this]
   simp only[VR];exact hy
  ·rw[hu]at h3;cases h3
theorem F0{H:Nat→Option aW}(hm:Mem c H w M ν): ∀{τ:Ty} {qo:List bk} {vs:List Value} {k:τ.den→List Nat→ig→Option α} {r:α},jk w M H ν qo vs→rp H τ qo k=some r→
  ∃x rd ups,k x rd ups=some r∧(ups=[]→jk w M (λ_=>none) (λ_=>undef) (p7 τ x) vs)
 | .unit,[],[],k,r,_,h=>⟨(),[],[],h,λ_=>by simp[p7,jk]⟩
 | .pair a b,x::xs,v::vs,k,r,hv,h=>by
  simp only[jk]at hv
  unfold rp at h
  obtain⟨y,rd,ups,h,hy⟩:=V3 hm hv.1 h
  obtain⟨ys,xL,iR,h,hys⟩:=F0 hm hv.2 h
  refine⟨(y,ys),_,_,h,λhu=> ?_⟩
  have h1:ups=[]:=(Mm.1 hu).1
  have h2:iR=[]:=(Mm.1 hu).2
  simp only[p7,jk]
  exact⟨hy h1,hys h2⟩
 | .unit,[],_::_,_,_,hv,_=>by simp[jk]at hv
 |_,_::_,[],_,_,hv,_=>by simp[jk]at hv
 | .unit,_::_,_,_,_,_,h=>by simp[rp]at h
 | .pair _ _,[],_,_,_,_,h=>by simp[rp]at h
 | .int _,_,_,_,_,_,h| .bool,_,_,_,_,_,h| .str,_,_,_,_,_,h| .slice _,_,_,_,_,_,h| .arr _ _,_,_,_,_,_,h=>by simp[rp]at h
def keys{β:Type}(l:List (Nat×β)):List Nat:=l.map (·.1)
theorem lO{i:Nat}: ∀{ups:ig} {H:Nat→Option aW},i∉keys ups→cj H ups i=H i
 |[],_,_=>rfl
 |u::r,H,h=>by
  simp only[keys,bZ,bm,not_or]at h
  show cj (bc H u.1 u.2) r i=_
  rw[lO h.2,av _ _ h.1]
theorem AI(u:Nat×Option aW)(b:ig)(hb:u.1∉keys b): ∀(a:ig) (H:Nat→Option aW),cj H (a++u::b)=bc (cj H (a++b)) u.1 u.2
 |[],H=>by
  show cj (bc H u.1 u.2) b=bc (cj H b) u.1 u.2
  induction b generalizing H with
  |nil=>rfl
  |cons v b ih=>
   simp only[keys,bZ,bm,not_or]at hb
   show cj (bc (bc H u.1 u.2) v.1 v.2) b=bc (cj (bc H v.1 v.2) b) u.1 u.2
   rw[←ih hb.2]
   congr 1
   funext i
   by_cases h1:i=v.1
   ·subst h1;rw[ar,av _ _ (dz hb.1),ar]
   ·by_cases h2:i=u.1
    ·subst h2;rw[av _ _ h1,ar,ar]
    ·rw[av _ _ h1,av _ _ h2,av _ _ h2,av _ _ h1]
 |v::a,H=>AI u b hb a (bc H v.1 v.2)
def IoE(H:Nat→Option aW)(q:Nat×AM):Prop:=(∃(τ:Ty) (x:τ.den),q.2= .io τ∧H q.1=some (.obj τ x))∨ ∃(e:Ty) (l:List e.den),q.2= .lo e∧H q.1=some (.own e l)
theorem IoE.some{H:Nat→Option aW}{q:Nat×AM}(h:IoE H q):H q.1≠none:=by
 rcases h with⟨_,x,_,h⟩|⟨e,l,_,h⟩<;>rw[h]<;>simp
structure jP(c:Ctx)(w:World)(M:Nat→Prop)(ν:Nat→Value)(H0 H1 Hq:Nat→Option aW)(M1:Nat→Prop)(uo uf:ig)(io:List (Nat×AM))(hs:List Nat):Prop where
 mem:Mem c H1 w M1 ν
 MT:Mem c Hq w M ν
 bG:dP w M w M1
 ext: ∀i,i∉keys io→cj H0 (uo++uf) i=H1 i
 V4: ∀i,i∉keys io→cj H0 uo i=Hq i
 TC: ∀q∈io,H1 q.1=some .gone∧Hq q.1=some .gone∧IoE H0 q
 ion:(keys io).Nodup
 ks: ∀i∈keys (uo++uf),∀e l,H1 i≠some (.own e l)
 ksn: ∀i∈keys (uo++uf),i∉keys io∧ ∃e l,H0 i=some (.own e l)
 fz:Fz Hq H1
 uov: ∀u∈uo,u.2=some .gone
 ufv: ∀u∈uf,∃e l,u.2=some (.oN e l)∧H0 u.1=some (.own e l)
 nd:hs.Nodup
 hM: ∀b∈hs,M1 b
 MU: ∀b∈hs,c.B≤b∨c.may b
 none: ∀b∈hs,∀i e,Hq i=some e→e.mut→dQ (ν i)≠some b
 iob: ∀b∈hs,c.M0 b→ ∃q∈io,dQ (ν q.1)=some b
 same: ∀i,i∉keys (uo++uf)→i∉keys io→H1 i=H0 i
theorem jP.start{H:Nat→Option aW}(hm:Mem c H w M ν):jP c w M ν H H H M [] [] [] []:=
 ⟨hm,hm,.refl w M,λ_ _=>rfl,λ_ _=>rfl,λq hq=>by simp at hq,by simp[keys],λi hi=>by simp[keys]at hi,λi hi=>by simp[keys]at hi,.refl H,λu hu=>by simp at hu,λu hu=>by simp at hu,by simp,λb hb=>by simp at hb,λb hb=>by simp at hb,λb hb=>by simp at hb,λb hb=>by simp at hb,λ_ _ _=>rfl⟩
theorem Fz.ZL{H H1:Nat→Option aW}(h:Fz H H1){i:Nat}{e:Ty}{l:List e.den}(hi:H1 i=some (.own e l)):H i=some (.own e l):=by
 rcases h i with h'|⟨e',l',_,h'⟩
 ·rw[←h',hi]
 ·rw[hi]at h';cases h'
theorem Fz.ami{H H1:Nat→Option aW}(h:Fz H H1){i:Nat}{e:Ty}{l:e.den}(hi:H1 i=some (.obj e l)):H i=some (.obj e l):=by
 rcases h i with h'|⟨e',l',_,h'⟩
 ·rw[←h',hi]
 ·rw[hi]at h';cases h'
theorem Fz.mut{H H1:Nat→Option aW}(h:Fz H H1){i:Nat}{e:aW}(hi:H1 i=some e)(hm:e.mut):H i=some e:=by
 cases e with
 |obj=>exact h.ami hi
 |fv=>
  rcases h i with h'|⟨e',l',_,h'⟩
  ·rw[←h',hi]
  ·rw[hi]at h';cases h'
 |own=>exact h.ZL hi
 |oN=>simp[aW.mut]at hm
 |eU _ _ _=>simp[aW.mut]at hm
 |gone=>simp[aW.mut]at hm
theorem jP.freeze{H0 H1 Hq:Nat→Option aW}{M1:Nat→Prop}{uo uf:ig}{io:List (Nat×AM)}{hs:List Nat}(h:jP c w M ν H0 H1 Hq M1 uo uf io hs){id:Nat}{e:Ty}{l:List e.den}(hid:H1 id=some (.own e l)):
  ∃M2,jP c w M ν H0 (bc H1 id (some (.oN e l))) Hq M2 uo ((id,some (.oN e l))::uf) io hs∧dP w M1 w M2∧(∀b,M2 b↔(M1 b∧dQ (ν id)≠some b)):=by
 obtain⟨M2,fG,_,Kr⟩:=Tr.freeze h.mem hid
 have ug:id∉keys io:=λhk=>by
  obtain⟨q,hq,rfl⟩:=cQ.1 hk
  have:=(h.TC q hq).1
  rw[hid]at this;cases this
 have Vq:id∉keys (uo++uf):=λhk=>h.ks id hk e l hid
 have ahg:id∉keys uf:=λhk=>Vq (by simp only[keys,dL,bf];exact .inr hk)
 have h0:H0 id=some (.own e l):=by rw[←h.same id Vq ug];exact hid
 have hq:Hq id=some (.own e l):=h.fz.ZL hid
 have lK: ∀i,i∈keys (uo++(id,some (aW.oN e l))::uf)↔i=id∨i∈keys (uo++uf):=by
  intro i
  simp only[keys,dL,bZ,bf,bm]
  constructor
  ·rintro(h|h|h)
   ·exact .inr (.inl h)
   ·exact .inl h
   ·exact .inr (.inr h)
  ·rintro(h|h|h)
   ·exact .inr (.inl h)
   ·exact .inl h
   ·exact .inr (.inr h)
 refine⟨M2,⟨fG.mem,h.MT,h.bG.trans fG.bG,λi hi=> ?_,h.V4,λq nU=> ?_,h.ion,λi hi e' l'=> ?_,λi hi=> ?_,λi=> ?_,h.uov,λu hu=> ?_,h.nd,λb hb=> ?_,h.MU,h.none,h.iob,λi hi mz=> ?_⟩,fG.bG,Kr⟩
 ·rw[AI _ _ ahg]
  by_cases bw:i=id
  ·subst bw;rw[ar,ar]
  ·rw[av _ _ bw,av _ _ bw];exact h.ext i hi
 ·obtain⟨h1,h2,h3⟩:=h.TC q nU
  have ij:q.1≠id:=λe=>ug (e▸gi nU)
  exact⟨by rw[av _ _ ij];exact h1,h2,h3⟩
 ·by_cases bw:i=id
  ·subst bw;rw[ar];intro h';cases h'
  ·rw[av _ _ bw]
   exact h.ks i (((lK i).1 hi).resolve_left bw) e' l'
 ·rcases(lK i).1 hi with rfl|hi
  ·exact⟨ug,e,l,h0⟩
  ·exact h.ksn i hi
 ·by_cases bw:i=id
  ·subst bw;exact .inr ⟨e,l,hq,ar _ _ _⟩
  ·rw[av _ _ bw];exact h.fz i
 ·rcases bm.1 hu with rfl|hu
  ·exact⟨e,l,rfl,h0⟩
  ·exact h.ufv u hu
 ·exact(Kr b).2 ⟨h.hM b hb,λdj=>h.none b hb id _ hq trivial dj⟩
 ·have ij:i≠id:=λe=>hi ((lK i).2 (.inl e))
  rw[av _ _ ij]
  exact h.same i (λh'=>hi ((lK i).2 (.inr h'))) mz
theorem jP.hand{H0 H1 Hq:Nat→Option aW}{M1:Nat→Prop}{uo uf:ig}{io:List (Nat×AM)}{hs:List Nat}(h:jP c w M ν H0 H1 Hq M1 uo uf io hs){id:Nat}{e:Ty}{l:List e.den}(hid:H1 id=some (.own e l)):
  jP c w M ν H0 (bc H1 id (some .gone)) (bc Hq id (some .gone)) M1 ((id,some .gone)::uo) uf io (hs++(dQ (ν id)).toList):=by
 have ug:id∉keys io:=λhk=>by
  obtain⟨q,hq,rfl⟩:=cQ.1 hk
  have:=(h.TC q hq).1
  rw[hid]at this;cases this
 have Vq:id∉keys (uo++uf):=λhk=>h.ks id hk e l hid
 have ahg:id∉keys uo:=λhk=>Vq (by simp only[keys,dL,bf];exact .inl hk)
 have h0:H0 id=some (.own e l):=by rw[←h.same id Vq ug];exact hid
 have hq:Hq id=some (.own e l):=h.fz.ZL hid
 have lK: ∀i,i∈keys ((id,some aW.gone)::uo++uf)↔i=id∨i∈keys (uo++uf):=by
  intro i
  simp only[keys,dL,bZ,mh,bf,bm]
 have Az: ∀b,dQ (ν id)=some b→b∉hs:=λb hb dj=>h.none b dj id _ hq trivial hb
 refine⟨(Tr.gone h.mem id).mem,(Tr.gone h.MT id).mem,h.bG,λi hi=> ?_,λi hi=> ?_,λq nU=> ?_,h.ion,λi hi e' l'=> ?_,λi hi=> ?_,λi=> ?_,λu hu=> ?_,h.ufv,?_,λb hb=> ?_,λb hb=> ?_,λb hb i e' hi hm=> ?_,λb hb Za=> ?_,λi hi mz=> ?_⟩
 ·have:=AI (id,some .gone) (uo++uf) Vq [] H0
  simp only[cM]at this
  rw[mh,this]
  by_cases bw:i=id
  ·subst bw;rw[ar,ar]
  ·rw[av _ _ bw,av _ _ bw];exact h.ext i hi
 ·have:=AI (id,some .gone) uo ahg [] H0
  simp only[cM]at this
  rw[this]
  by_cases bw:i=id
  ·subst bw;rw[ar,ar]
  ·rw[av _ _ bw,av _ _ bw];exact h.V4 i hi
 ·obtain⟨h1,h2,h3⟩:=h.TC q nU
  have ij:q.1≠id:=λe=>ug (e▸gi nU)
  exact⟨by rw[av _ _ ij];exact h1,by rw[av _ _ ij];exact h2,h3⟩
 ·by_cases bw:i=id
  ·subst bw;rw[ar];intro h';cases h'
  ·rw[av _ _ bw]
   exact h.ks i (((lK i).1 hi).resolve_left bw) e' l'
 ·rcases(lK i).1 hi with rfl|hi
  ·exact⟨ug,e,l,h0⟩
  ·exact h.ksn i hi
 ·by_cases bw:i=id
  ·subst bw;left;rw[ar,ar]
  ·rw[av _ _ bw,av _ _ bw];exact h.fz i
 ·rcases bm.1 hu with rfl|hu
  ·rfl
  ·exact h.uov u hu
 ·refine oM.2 ⟨h.nd,?_,λx hx y hy=> ?_⟩
  ·cases dQ (ν id)<;>simp
  ·rw[eM]at hy
   intro hxy;subst hxy
   exact Az x hy hx
 ·rcases bf.1 hb with hb|hb
  ·exact h.hM b hb
  ·rw[eM]at hb
   exact(h.mem.gT id _ hid).sC trivial hb
 ·rcases bf.1 hb with hb|hb
  ·exact h.MU b hb
  ·rw[eM]at hb
   exact h.mem.new id _ b hid trivial hb
 ·by_cases bw:i=id
  ·subst bw;rw[ar]at hi;cases hi;simp[aW.mut]at hm
  ·rw[av _ _ bw]at hi
   rcases bf.1 hb with hb|hb
   ·exact h.none b hb i e' hi hm
   ·rw[eM]at hb
    intro dj
    exact h.MT.yA i id e' _ b bw hi hm hq trivial dj hb
 ·rcases bf.1 hb with hb|hb
  ·exact h.iob b hb Za
  ·rw[eM]at hb
   exact absurd Za (h.mem.yv id e l b hid hb)
 ·have ij:i≠id:=λe=>hi ((lK i).2 (.inl e))
  rw[av _ _ ij]
  exact h.same i (λh'=>hi ((lK i).2 (.inr h'))) mz
theorem jP.ahh{H0 H1 Hq:Nat→Option aW}{M1:Nat→Prop}{uo uf:ig}{io:List (Nat×AM)}{hs:List Nat}(h:jP c w M ν H0 H1 Hq M1 uo uf io hs){id:Nat}{τ:Ty}{x:τ.den}(hid:H1 id=some (.obj τ x)):
  jP c w M ν H0 (bc H1 id (some .gone)) (bc Hq id (some .gone)) M1 uo uf (io++[(id,.io τ)]) (hs++(dQ (ν id)).toList):=by
 have ug:id∉keys io:=λhk=>by
  obtain⟨q,hq,rfl⟩:=cQ.1 hk
  have:=(h.TC q hq).1
  rw[hid]at this;cases this
 have hq:Hq id=some (.obj τ x):=h.fz.ami hid
 have Vq:id∉keys (uo++uf):=λhk=>by
  have h1:=h.ext id ug
  obtain⟨_,e,l,h0⟩:=h.ksn id hk
  have key: ∀(ups:ig) (H:Nat→Option aW),(∀u∈ups,u.2=some .gone∨ ∃e l,u.2=some (.oN e l))→id∈keys ups→cj H ups id=some .gone∨ ∃e l,cj H ups id=some (.oN e l):=by
   intro ups
   induction ups with
   |nil=>intro H _ hk;simp[keys]at hk
   |cons u ups ih=>
    intro H hv hk
    by_cases EK:id∈keys ups
    ·exact ih _ (λv Y5=>hv v (a6 _ Y5)) EK
    ·show cj (bc H u.1 u.2) ups id=_∨ ∃e l,cj (bc H u.1 u.2) ups id=_
     rw[lO EK]
     have hui:id=u.1:=by
      simp only[keys,bZ,bm]at hk EK
      exact hk.resolve_right EK
     rw[hui,ar]
     exact hv u bu
  have:=key (uo++uf) H0 (λu hu=>by
   rcases bf.1 hu with hu|hu
   ·exact .inl (h.uov u hu)
   ·obtain⟨e,l,h',_⟩:=h.ufv u hu;exact .inr ⟨e,l,h'⟩) hk
  rw[h1,hid]at this
  rcases this with h'|⟨_,_,h'⟩<;>cases h'
 have h0:H0 id=some (.obj τ x):=by rw[←h.same id Vq ug];exact hid
 have lK: ∀i,i∈keys (io++[(id,.io τ)])↔i∈keys io∨i=id:=by
  intro i
  simp only[keys,dL,bZ,gY,bf,bm,Fu,or_false]
 have Az: ∀b,dQ (ν id)=some b→b∉hs:=λb hb dj=>h.none b dj id _ hq trivial hb
 refine⟨(Tr.gone h.mem id).mem,(Tr.gone h.MT id).mem,h.bG,λi hi=> ?_,λi hi=> ?_,λq nU=> ?_,?_,λi hi e' l'=> ?_,λi hi=> ?_,λi=> ?_,h.uov,h.ufv,?_,λb hb=> ?_,λb hb=> ?_,λb hb i e' hi hm=> ?_,λb hb Za=> ?_,λi hi mz=> ?_⟩
 ·rw[av _ _ (λe=>hi ((lK i).2 (.inr e)))];exact h.ext i (λh'=>hi ((lK i).2 (.inl h')))
 ·rw[av _ _ (λe=>hi ((lK i).2 (.inr e)))];exact h.V4 i (λh'=>hi ((lK i).2 (.inl h')))
 ·rcases bf.1 nU with nU|nU
  ·obtain⟨h1,h2,h3⟩:=h.TC q nU
   have ij:q.1≠id:=λe=>ug (e▸gi nU)
   exact⟨by rw[av _ _ ij];exact h1,by rw[av _ _ ij];exact h2,h3⟩
  ·rw[cg]at nU;subst nU
   exact⟨ar _ _ _,ar _ _ _,.inl ⟨τ,x,rfl,h0⟩⟩
 ·simp only[keys,dL,bZ,gY]
  refine oM.2 ⟨h.ion,by simp,λx hx y hy=> ?_⟩
  rw[cg]at hy;subst hy
  intro e;exact ug (e▸hx)
 ·by_cases bw:i=id
  ·subst bw;rw[ar];intro h';cases h'
  ·rw[av _ _ bw];exact h.ks i hi e' l'
 ·obtain⟨h1,h2⟩:=h.ksn i hi
  exact⟨λh'=>((lK i).1 h').elim h1 (λe=>Vq (e▸hi)),h2⟩
 ·by_cases bw:i=id
  ·subst bw;left;rw[ar,ar]
  ·rw[av _ _ bw,av _ _ bw];exact h.fz i
 ·refine oM.2 ⟨h.nd,?_,λx hx y hy=> ?_⟩
  ·cases dQ (ν id)<;>simp
  ·rw[eM]at hy
   intro hxy;subst hxy
   exact Az x hy hx
 ·rcases bf.1 hb with hb|hb
  ·exact h.hM b hb
  ·rw[eM]at hb
   exact(h.mem.gT id _ hid).sC trivial hb
 ·rcases bf.1 hb with hb|hb
  ·exact h.MU b hb
  ·rw[eM]at hb
   exact h.mem.new id _ b hid trivial hb
 ·by_cases bw:i=id
  ·subst bw;rw[ar]at hi;cases hi;simp[aW.mut]at hm
  ·rw[av _ _ bw]at hi
   rcases bf.1 hb with hb|hb
   ·exact h.none b hb i e' hi hm
   ·rw[eM]at hb
    intro dj
    exact h.MT.yA i id e' _ b bw hi hm hq trivial dj hb
 ·rcases bf.1 hb with hb|hb
  ·obtain⟨q,hq1,Y4⟩:=h.iob b hb Za
   exact⟨q,cA _ hq1,Y4⟩
  ·rw[eM]at hb
   exact⟨(id,.io τ),by simp,hb⟩
 ·have ij:i≠id:=λe=>mz ((lK i).2 (.inr e))
  rw[av _ _ ij]
  exact h.same i hi (λh'=>mz ((lK i).2 (.inl h')))
theorem jP.afE{H0 H1 Hq:Nat→Option aW}{M1:Nat→Prop}{uo uf:ig}{io:List (Nat×AM)}{hs:List Nat}(h:jP c w M ν H0 H1 Hq M1 uo uf io hs){id:Nat}{e:Ty}{l:List e.den}(hid:H1 id=some (.own e l)):
  jP c w M ν H0 (bc H1 id (some .gone)) (bc Hq id (some .gone)) M1 uo uf (io++[(id,.lo e)]) (hs++(dQ (ν id)).toList):=by
 have ug:id∉keys io:=λhk=>by
  obtain⟨q,hq,rfl⟩:=cQ.1 hk
  have:=(h.TC q hq).1
  rw[hid]at this;cases this
 have hq:Hq id=some (.own e l):=h.fz.ZL hid
 have Vq:id∉keys (uo++uf):=λhk=>h.ks id hk e l hid
 have h0:H0 id=some (.own e l):=by rw[←h.same id Vq ug];exact hid
 have lK: ∀i,i∈keys (io++[(id,.lo e)])↔i∈keys io∨i=id:=by
  intro i
  simp only[keys,dL,bZ,gY,bf,bm,Fu,or_false]
 have Az: ∀b,dQ (ν id)=some b→b∉hs:=λb hb dj=>h.none b dj id _ hq trivial hb
 refine⟨(Tr.gone h.mem id).mem,(Tr.gone h.MT id).mem,h.bG,λi hi=> ?_,λi hi=> ?_,λq nU=> ?_,?_,λi hi e' l'=> ?_,λi hi=> ?_,λi=> ?_,h.uov,h.ufv,?_,λb hb=> ?_,λb hb=> ?_,λb hb i e' hi hm=> ?_,λb hb Za=> ?_,λi hi mz=> ?_⟩
 ·rw[av _ _ (λe=>hi ((lK i).2 (.inr e)))];exact h.ext i (λh'=>hi ((lK i).2 (.inl h')))
 ·rw[av _ _ (λe=>hi ((lK i).2 (.inr e)))];exact h.V4 i (λh'=>hi ((lK i).2 (.inl h')))
 ·rcases bf.1 nU with nU|nU
  ·obtain⟨h1,h2,h3⟩:=h.TC q nU
   have ij:q.1≠id:=λe=>ug (e▸gi nU)
   exact⟨by rw[av _ _ ij];exact h1,by rw[av _ _ ij];exact h2,h3⟩
  ·rw[cg]at nU;subst nU
   exact⟨ar _ _ _,ar _ _ _,.inr ⟨e,l,rfl,h0⟩⟩
 ·simp only[keys,dL,bZ,gY]
  refine oM.2 ⟨h.ion,by simp,λx hx y hy=> ?_⟩
  rw[cg]at hy;subst hy
  intro e;exact ug (e▸hx)
 ·by_cases bw:i=id
  ·subst bw;rw[ar];intro h';cases h'
  ·rw[av _ _ bw];exact h.ks i hi e' l'
 ·obtain⟨h1,h2⟩:=h.ksn i hi
  exact⟨λh'=>((lK i).1 h').elim h1 (λe=>Vq (e▸hi)),h2⟩
 ·by_cases bw:i=id
  ·subst bw;left;rw[ar,ar]
  ·rw[av _ _ bw,av _ _ bw];exact h.fz i
 ·refine oM.2 ⟨h.nd,?_,λx hx y hy=> ?_⟩
  ·cases dQ (ν id)<;>simp
  ·rw[eM]at hy
   intro hxy;subst hxy
   exact Az x hy hx
 ·rcases bf.1 hb with hb|hb
  ·exact h.hM b hb
  ·rw[eM]at hb
   exact(h.mem.gT id _ hid).sC trivial hb
 ·rcases bf.1 hb with hb|hb
  ·exact h.MU b hb
  ·rw[eM]at hb
   exact h.mem.new id _ b hid trivial hb
 ·by_cases bw:i=id
  ·subst bw;rw[ar]at hi;cases hi;simp[aW.mut]at hm
  ·rw[av _ _ bw]at hi
   rcases bf.1 hb with hb|hb
   ·exact h.none b hb i e' hi hm
   ·rw[eM]at hb
    intro dj
    exact h.MT.yA i id e' _ b bw hi hm hq trivial dj hb
 ·rcases bf.1 hb with hb|hb
  ·obtain⟨q,hq1,Y4⟩:=h.iob b hb Za
   exact⟨q,cA _ hq1,Y4⟩
  ·rw[eM]at hb
   exact⟨(id,.lo e),by simp,hb⟩
 ·have ij:i≠id:=λe=>mz ((lK i).2 (.inr e))
  rw[av _ _ ij]
  exact h.same i hi (λh'=>mz ((lK i).2 (.inl h')))
theorem jC.BI{H:Nat→Option aW}{id:Nat}{e e':aW}(hid:H id=some e)(hl:e.kt e'):jC H ν (bc H id (some e')) ν:=
 ⟨λi e1 hi=>by
  by_cases bw:i=id
  ·subst bw;rw[hid]at hi;cases hi;exact⟨e',ar _ _ _,hl⟩
  ·exact⟨e1,by rw[av _ _ bw];exact hi,.refl e1⟩,λ_ _=>rfl⟩
theorem aW.jG(e:aW):e.kt .gone:=by cases e<;>simp[aW.kt]
theorem VR.amj{H H':Nat→Option aW}{ν':Nat→Value}{a:Ty}{x:a.den}{v:Value}(h:VR w M H ν (CP a x) v):VR w M H' ν' (CP a x) v:=by
 unfold CP at h ⊢
 split at h
 ·simp only[VR]at h ⊢;exact h
 ·simp only[VR]at h ⊢;exact h
theorem jk.free{H H':Nat→Option aW}{ν':Nat→Value}: ∀{τ:Ty} {x:τ.den} {vs:List Value},jk w M H ν (p7 τ x) vs→jk w M H' ν' (p7 τ x) vs
 | .pair a b,x,v::vs,h=>by
  simp only[p7,jk]at h ⊢
  exact⟨VR.amj h.1,jk.free h.2⟩
 | .pair a b,x,[],h=>by simp[p7,jk]at h
 | .int _,_,[],_| .bool,_,[],_| .str,_,[],_| .slice _,_,[],_| .unit,_,[],_| .arr _ _,_,[],_=>by simp[p7,jk]
 | .int _,_,_::_,h| .bool,_,_::_,h| .str,_,_::_,h| .slice _,_,_::_,h| .unit,_,_::_,h| .arr _ _,_,_::_,h=>by simp[p7,jk]at h
theorem C5{H0 H1 Hq:Nat→Option aW}{M1:Nat→Prop}{uo uf:ig}{io:List (Nat×AM)}{hs:List Nat}(h:jP c w M ν H0 H1 Hq M1 uo uf io hs){m:AM}{x:bk}{v:Value}(hv:VR w M1 H1 ν x v)
  {k:m.den→(Nat→Option aW)→List Nat→ig→ig→List (Nat×AM)→Option α} (hk:oa m x H1 k=some r):
  ∃y H2 rd LO LP HY Vr M2,k y H2 rd LO LP HY=some r∧jP c w M ν H0 H2 Vr M2 (LO++uo) (LP++uf) (io++HY) (hs++cV m v)∧dP w M1 w M2∧jC H1 ν H2 ν∧A1 w M2 m y v∧
   HY.map (λq=>ν q.1)=(if m.iD then [v]else [])∧HY.map (·.2)=mN [m]:=by
 unfold oa at hk
 split at hk
 ·
  rename_i τ k
  obtain⟨y,rd,ups,hk,hy⟩:=EJ h.mem hv hk
  rcases hy with⟨rfl,hV⟩|⟨id,e,l,rfl,hid,hV⟩
  ·exact⟨y,H1,rd,[],[],[],Hq,M1,hk,by simpa [cV]using h,.refl w M1,.refl H1 ν,hV,rfl,rfl⟩
  ·obtain⟨M2,hA,hK,Kr⟩:=h.freeze hid
   exact⟨y,_,rd,[],_,[],Hq,M2,hk,by simpa [cV]using hA,hK,.BI hid ⟨rfl,rfl⟩,hV M2 Kr,rfl,rfl⟩
 ·
  rename_i e k
  split at hk
  ·obtain⟨ad,hv⟩:=VR.emp.1 hv
   subst hv
   have hb:dQ (.slice ad 0 0)=none:=by cases ad<;>simp[dQ]
   exact⟨[],H1,[],[],[],[],Hq,M1,hk,by simpa [cV,hb]using h,.refl w M1,.refl H1 ν,by simp only[A1,ER];exact .inl ⟨trivial,ad,rfl⟩,rfl,rfl⟩
  ·rename_i id
   split at hk
   ·rename_i e' l hid
    obtain⟨e1,hk⟩:=bh hk
    cases e1
    simp only[VR]at hv
    obtain⟨_,rfl⟩:=hv
    refine⟨_,_,_,_,_,_,_,M1,hk,by simpa [cV]using h.hand hid,.refl w M1,.BI hid (aW.jG _),?_,rfl,rfl⟩
    have:=h.mem.gT id _ hid
    exact this
   ·cases hk
  ·cases hk
 ·
  rename_i τ k
  split at hk
  ·rename_i id
   split at hk
   ·rename_i υ z hid
    obtain⟨e1,hk⟩:=bh hk
    subst e1
    simp only[VR]at hv
    obtain⟨e,he,jI⟩:=hv
    rw[hid]at he;cases he
    simp only[AR]at jI
    obtain⟨_,b,hb,hv⟩:=jI
    have V5:v=ν id:=by rw[hv,hb];rfl
    subst V5
    refine⟨_,_,_,_,_,_,_,M1,hk,by simpa [cV]using h.ahh hid,.refl w M1,.BI hid (aW.jG _),?_,rfl,rfl⟩
    have:=h.mem.gT id _ hid
    exact this
   ·cases hk
  ·cases hk
 ·
  rename_i f τ k
  split at hk
  ·rename_i f' cs
   obtain⟨hf,BJ⟩:=bN hk
   clear hk
   have hf:=eK hf
   subst hf
   have hk:=BJ
   clear BJ
   simp only[VR]at hv
   obtain⟨us,rfl,ZC⟩:=hv
   obtain⟨y,rd,ups,hk,hy⟩:=F0 h.mem ZC hk
   split at hk
   ·exact⟨y,H1,rd,[],[],[],Hq,M1,hk,by simpa [cV]using h,.refl w M1,.refl H1 ν,by simp only[A1,VR];exact⟨us,rfl,hy rfl⟩,rfl,rfl⟩
   ·cases hk
  ·cases hk
 ·cases hk
 ·
  rename_i τ k
  split at hk
  ·rename_i υ z
   obtain⟨e1,hk⟩:=bh hk
   subst e1
   exact⟨_,H1,_,[],[],[],Hq,M1,hk,by simpa [cV]using h,.refl w M1,.refl H1 ν,by simp only[A1,VR]at hv ⊢;exact hv,rfl,rfl⟩
  ·cases hk
 ·
  rename_i e k
  split at hk
  ·rename_i id
   split at hk
   ·rename_i e' l hid
    obtain⟨e1,hk⟩:=bh hk
    cases e1
    simp only[VR]at hv
    obtain⟨_,rfl⟩:=hv
    refine⟨_,_,_,_,_,_,_,M1,hk,by simpa [cV]using h.afE hid,.refl w M1,.BI hid (aW.jG _),?_,rfl,rfl⟩
    have:=h.mem.gT id _ hid
    exact this
   ·cases hk
  ·cases hk
 ·cases hk
theorem C6{H0:Nat→Option aW}: ∀{ms:List AM} {qo:List bk} {vs:List Value} {H1 Hq:Nat→Option aW} {M1:Nat→Prop} {rd:List Nat} {uo uf:ig} {io:List (Nat×AM)} {hs:List Nat} {K:HP ms→List Nat→ig→ig→List (Nat×AM)→Option α},
  jP c w M ν H0 H1 Hq M1 uo uf io hs→jk w M1 H1 ν qo vs→tW ms qo H1 rd uo uf io K=some r→
  ∃x xL LO LP HY H2 Vr M2,K x xL LO LP HY=some r∧jP c w M ν H0 H2 Vr M2 LO LP HY (hs++dB ms vs)∧dP w M1 w M2∧jg w M2 ms x vs∧
   HY.map (λq=>ν q.1)=io.map (λq=>ν q.1)++fb ms vs∧HY.map (·.2)=io.map (·.2)++mN ms
 |[],[],[],H1,Hq,M1,rd,uo,uf,io,hs,K,h,_,hk=>
  ⟨(),rd,uo,uf,io,H1,Hq,M1,hk,by simpa [dB]using h,.refl w M1,rfl,by simp[fb],by simp[mN]⟩
 |[m],[x],[v],H1,Hq,M1,rd,uo,uf,io,hs,K,h,hv,hk=>by
  simp only[jk,eA]at hv
  obtain⟨y,H2,VW,uo1,uf1,io1,Vr,M2,hk,hA,hK,hG,hy,ZM,RV⟩:=C5 h hv (hk:oa m x H1 _=some r)
  refine⟨y,_,_,_,_,H2,Vr,M2,hk,by simpa [dB]using hA,hK,⟨v,[],rfl,hy,rfl⟩,?_,?_⟩
  ·rw[dL,ZM];cases ug:m.iD<;>simp[fb,ug]
  ·rw[dL,RV]
 |m::n::ms,x::xs,v::vs,H1,Hq,M1,rd,uo,uf,io,hs,K,h,hv,hk=>by
  simp only[jk]at hv
  obtain⟨y,H2,VW,uo1,uf1,io1,Vr,M2,hk,hA,hK,hG,hy,ZM,RV⟩:=C5 h hv.1 (hk:oa m x H1 _=some r)
  obtain⟨ys,xL,LO,LP,HY,H3,Hq3,M3,hk,hA',hK',hys,hi3,hi4⟩:=C6 (ms:=n::ms) hA (jk.bG hK hG hv.2) hk
  refine⟨(y,ys),_,_,_,_,H3,Hq3,M3,hk,by simpa [dB,bU]using hA',hK.trans hK',⟨v,vs,rfl,?_,hys⟩,?_,?_⟩
  ·refine A1.xd hK' (λb hb=>⟨rfl,hA'.hM b ?_⟩) hy
   exact cA _ (cS _ hb)
  ·rw[hi3,dL,ZM,bU]
   congr 1
   cases ug:m.iD<;>simp[fb,ug]
  ·rw[hi4,dL,RV,bU]
   congr 1
   cases m<;>simp[mN]
 |[],_::_,_,_,_,_,_,_,_,_,_,_,_,_,hk=>by simp[tW]at hk
 |[_],[],_,_,_,_,_,_,_,_,_,_,_,_,hk=>by simp[tW]at hk
 |[_],_::_::_,_,_,_,_,_,_,_,_,_,_,_,_,hk=>by simp[tW]at hk
 |_::_::_,[],_,_,_,_,_,_,_,_,_,_,_,_,hk=>by simp[tW]at hk
 |_,_::_,[],_,_,_,_,_,_,_,_,_,_,hv,_=>by simp[jk]at hv
 |[],[],_::_,_,_,_,_,_,_,_,_,_,_,hv,_=>by simp[jk]at hv
 |[_],[_],_::_::_,_,_,_,_,_,_,_,_,_,_,hv,_=>by simp[jk]at hv
theorem Mem.call{H:Nat→Option aW}(h:Mem c H w M ν){hs:List Nat}{M0 M':Nat→Prop}{w':World}(hM: ∀b,M0 b→M b)(hhs: ∀b∈hs,M b)
  (nr: ∀b∈hs,∀i e,H i=some e→e.mut→dQ (ν i)≠some b) (jQ: ∀b∈hs,c.B≤b∨c.may b) (ug: ∀b∈hs,c.M0 b→M' b) (L:Left w M0 hs w' M'):
  Mem c H w' (λb=>M' b∨(M b∧b∉hs)) ν∧dP w M w' (λb=>M' b∨(M b∧b∉hs)):=by
 have hk:dP w M w' (λb=>M' b∨(M b∧b∉hs)):=by
  refine⟨L.size,λb hb hm=>L.frame b hb (λhh=>hm (hhs b hh)),λb hb hm=> ?_⟩
  rcases hm with hm|hm
  ·exact(L.less b hb hm).elim (hM b) (hhs b)
  ·exact hm.1
 refine⟨⟨λi e hi=>(h.gT i e hi).bG hk λhm b hb=> ?_,h.yA,h.new,h.yv,nq h (λ_ _=>rfl) (λ_ h=>h) (λi τ x p j hi=> .inl ⟨hi,λb hb=> ?_⟩),λb hb=> ?_,λb hb=> ?_,λb hb hm=> ?_,ca h.size L.size,h.og,L.os.trans h.os,L.tape.trans h.tape,L.output.trans h.output⟩,hk⟩
 ·have hMb:=(h.gT i e hi).sC hm hb
  have Az:b∉hs:=λhh=>nr b hh i e hi hm hb
  exact⟨L.frame b (h.y6 b hMb) Az,.inr ⟨hMb,Az⟩⟩
 ·have wu:dQ (ν i)=some b:=by rw[hb];rfl
  have hMb:=(h.gT i _ hi).sC trivial wu
  exact L.frame b (h.y6 b hMb) (λhh=>nr b hh i _ hi trivial wu)
 ·by_cases hh:b∈hs
  ·exact .inl (ug b hh hb)
  ·exact .inr ⟨h.sub b hb,hh⟩
 ·rcases hb with hb|hb
  ·exact L.y6 b hb
  ·exact kQ (h.y6 b hb.1) L.size
 ·have Az:b∉hs:=λhh=>(jQ b hh).elim (λh'=>ω) hm
  rw[L.frame b (kQ hb h.size) Az]
  exact h.frame b hb hm
theorem Mem.vU{H:Nat→Option aW}(h:Mem c H w M ν){id:Nat}{v:Value}{e:aW}(hid: ∀e',H id=some e'→ ¬e'.mut)(FI:ER w M v e)
  (hd: ∀b,dQ v=some b→ ∀i e',H i=some e'→e'.mut→dQ (ν i)≠some b) (hn: ∀b,dQ v=some b→c.B≤b∨c.may b) (ho: ∀b e0 l0,e= .own e0 l0→dQ v=some b→ ¬c.M0 b)
  (hnv:H id=none∨v=ν id)
  (qp: ∀τ x p j,e= .fv τ x p j→bc H id (some e) j≠none∧ ∃b,v= .pointer (some ⟨b,0,none⟩)∧w.cell? ⟨b,cn p τ,none⟩=some (updν ν id v j):=by intro _ _ _ _ h;cases h):
  Mem c (bc H id (some e)) w M (updν ν id v):=by
 have hν: ∀i,i≠id→updν ν id v i=ν i:=λi hi=>by simp[updν,hi]
 have hνs:updν ν id v id=v:=by simp[updν]
 refine⟨λi e1 hi=> ?_,λi k e1 e2 b1 mj hi kO hk qN=> ?_,λi e1 b1 hi kO=> ?_,λi e1 l1 b1 hi=> ?_,nq h (λi hi=> ?_) u5 (λi τ x p j hi=> ?_),h.sub,h.y6,h.frame,h.size,h.og,h.os,h.tape,h.output⟩
 ·by_cases bw:i=id
  ·subst bw;rw[ar]at hi;cases hi;rw[hνs];exact FI
  ·rw[av _ _ bw]at hi;rw[hν i bw];exact h.gT i e1 hi
 ·by_cases bw:i=id
  ·subst bw;rw[hνs]
   have H5:k≠i:=dz mj
   rw[av _ _ H5]at hk;rw[hν k H5]
   intro dA
   exact hd b1 dA k e2 hk qN
  ·rw[av _ _ bw]at hi;rw[hν i bw]
   by_cases H5:k=id
   ·subst H5;rw[hνs]
    intro dA qO
    exact hd b1 qO i e1 hi kO dA
   ·rw[av _ _ H5]at hk;rw[hν k H5];exact h.yA i k e1 e2 b1 mj hi kO hk qN
 ·by_cases bw:i=id
  ·subst bw;rw[hνs];exact hn b1
  ·rw[av _ _ bw]at hi;rw[hν i bw];exact h.new i e1 b1 hi kO
 ·by_cases bw:i=id
  ·subst bw;rw[ar]at hi;cases hi;rw[hνs];exact ho b1 e1 l1 rfl
  ·rw[av _ _ bw]at hi;rw[hν i bw];exact h.yv i e1 l1 b1 hi
 ·by_cases bw:i=id
  ·subst bw
   rcases hnv with hnv|hnv
   ·exact absurd hnv hi
   ·rw[hνs,hnv]
  ·exact hν i bw
 ·by_cases bw:i=id
  ·subst bw
   rw[ar]at hi
   cases hi
   obtain⟨h1,b,h2,h3⟩:=qp _ _ _ _ rfl
   exact .inr ⟨h1,b,by rw[hνs];exact h2,h3⟩
  ·rw[av _ _ bw]at hi
   exact .inl ⟨hi,λ_ _=>rfl⟩
theorem TD{m:AM}{ms:List AM}(x:HP (m::ms))(id:Nat)(io:List (Nat×AM)):
  gQ (m::ms) x id io=match m,pU x,io with
   | .io τ,y,(j,_)::io=>((gQ ms (sy x) (id+1) io).1,(j,some (.obj τ y))::(gQ ms (sy x) (id+1) io).2.1,(gQ ms (sy x) (id+1) io).2.2)
   | .lo e,y,(j,_)::io=>((gQ ms (sy x) (id+1) io).1,(j,some (.own e y))::(gQ ms (sy x) (id+1) io).2.1,(gQ ms (sy x) (id+1) io).2.2)
   |m,y,io=>((wW m y id).1::(gQ ms (sy x) (id+1) io).1,(wW m y id).2++(gQ ms (sy x) (id+1) io).2.1,(gQ ms (sy x) (id+1) io).2.2):=by
 cases ms with
 |nil=>cases m<;>cases io<;>simp[gQ,pU]
 |cons n ms=>cases m<;>cases io<;>simp[gQ,pU,sy]
theorem jH{l1 l2:List Nat}{b:Nat}(h:(l1++l2).Nodup)(h1:b∈l1):b∉l2:=λh2=>(oM.1 h).2.2 b h1 b h2 rfl
theorem RR.F1: ∀{ms:List AM} {x:HP ms} {us ps:List Value},RR w M ms x us ps→ ∀p∈ps,∀b,dQ p=some b→b∈bL ms us ps
 |[],_,_,_,h,p,hp,_,_=>by simp only[RR]at h;rw[h.2]at hp;simp at hp
 |m::ms,x,us,ps,h,p,hp,b,hb=>by
  simp only[RR]at h
  rcases h with⟨p',EI,h1,rfl,h2,h3⟩|⟨v,D8,h1,h2,rfl,h3,h4⟩
  ·simp only[bL,h1,gA,tN,tO,bf]
   rcases bm.1 hp with rfl|hp
   ·left
    cases m<;>simp[AM.iD]at h1<;>simp[cV,hb]
   ·exact .inr (RR.F1 h3 p hp b hb)
  ·simp only[bL,h1,gW,eo,tN,tO,bf]
   exact .inr (RR.F1 h4 p hp b hb)
theorem mC{hs:List Nat}{sz:Nat}: ∀{ms:List AM} {x:HP ms} {us ps:List Value} {id:Nat} {io:List (Nat×AM)} {H:Nat→Option aW} {ν:Nat→Value} {used:List Nat},
  Mem c H w M ν→RR w M ms x us ps→ps=io.map (λq=>ν q.1)→mN ms=io.map (·.2)→(keys io).Nodup→(∀q∈io,H q.1=some .gone)→(∀i,id≤i→i<id+ms.length→H i=none)→
  (∀i e b,H i=some e→e.mut→dQ (ν i)=some b→(b<sz∧b∉hs)∨b∈used)→(used++bL ms us ps).Nodup→(∀b∈bL ms us ps,sz≤b∨b∈hs)→
  (∀b∈bL ms us ps,(c.B≤b∨c.may b))→(∀b∈bL ms us ps,c.M0 b→ ∃p∈ps,dQ p=some b)→
  (∀q∈io,∀e,q.2= .lo e→ ∀b,dQ (ν q.1)=some b→ ¬c.M0 b)→
  ∃ν',Mem c (cj H (gQ ms x id io).2.1) w M ν'∧jk w M (cj H (gQ ms x id io).2.1) ν' (gQ ms x id io).1 us∧(∀i,H i≠none→ν' i=ν i)∧
   (∀i,i∉keys io→(i<id∨id+ms.length≤i)→cj H (gQ ms x id io).2.1 i=H i)∧(∀i,id≤i→i<id+ms.length→ ∀e,cj H (gQ ms x id io).2.1 i=some e→(∃e0 l0,e= .own e0 l0)∨ ∃τ0 z0,e= .obj τ0 z0)∧
   (∀q∈io,IoE (cj H (gQ ms x id io).2.1) q)
 |[],x,us,ps,id,io,H,ν,used,hm,hr,Ia,xP,BX,y9,iU,hold,wj,nX,jQ,FH,wi=>by
  simp only[RR]at hr
  obtain⟨rfl,rfl⟩:=hr
  have ug:io=[]:=by
   cases io with
   |nil=>rfl
   |cons q io=>simp at Ia
  subst ug
  exact⟨ν,hm,by simp[gQ,jk],λ_ _=>rfl,λ_ _ _=>rfl,λi h1 h2=>by simp at h2;omega,λq hq=>by simp at hq⟩
 |m::ms,x,us,ps,id,io,H,ν,used,hm,hr,Ia,xP,BX,y9,iU,hold,wj,nX,jQ,FH,wi=>by
  rw[TD]
  simp only[RR]at hr
  rcases hr with⟨p,EI,F2,rfl,h1,h2⟩|⟨v,D8,F2,hmf,rfl,h1,h2⟩
  ·
   cases m with
   |io τ=>
    cases io with
    |nil=>simp at Ia
    |cons q io=>
     simp only[bZ,eN]at Ia
     obtain⟨rfl,rfl⟩:=Ia
     simp only[mN,bZ,eN]at xP
     obtain⟨ZN,ahi⟩:=xP
     simp only[keys,bZ,wJ]at BX
     have V6:bL (.io τ::ms) us (ν q.1::io.map λq=>ν q.1)=(dQ (ν q.1)).toList++bL ms us (io.map λq=>ν q.1):=rfl
     rw[V6]at wj nX jQ FH
     have uQ:=y9 q bu
     have yC:q.1<id∨id+(ms.length+1)≤q.1:=by
      rcases lJ q.1 id with h'|h'
      ·exact .inl h'
      ·rcases lJ q.1 (id+(ms.length+1))with Kz|Kz
       ·rw[iU q.1 h' Kz]at uQ;cases uQ
       ·exact .inr Kz
     simp only[A1]at h1
     have oh: ∀b,dQ (ν q.1)=some b→ ∀i e',H i=some e'→e'.mut→dQ (ν i)≠some b:=by
      intro b hb i e' hi iS dj
      have mi:b∈(dQ (ν q.1)).toList++bL ms us (io.map λq=>ν q.1):=cA _ (by rw[hb];simp)
      rcases hold i e' b hi iS dj with⟨h3,h4⟩|h3
      ·exact(nX b mi).elim (λh'=>ω) h4
      ·exact jH wj h3 mi
     have qN:=Mem.vU (c:=c) hm (id:=q.1) (v:=ν q.1) (e:= .obj τ (pU x)) (λe' sB=>by rw[uQ]at sB;cases sB;simp[aW.mut]) h1 oh (λb hb=>jQ b (cA _ (by rw[hb];simp))) (λb e0 l0 he=>by cases he) (.inr rfl)
     have hνe:updν ν q.1 (ν q.1)=ν:=by funext i;unfold updν;split<;>simp_all
     rw[hνe]at qN
     have ahj: ∀(q':Nat×AM),q'∈io→q'.1≠q.1:=λq' nU e=>BX.1 (cQ.2 ⟨q',nU,e⟩)
     obtain⟨ν',r1,r2,r3,r4,r5,r6⟩:=mC (ms:=ms) (x:=sy x) (us:=us) (ps:=io.map λq=>ν q.1) (id:=id+1) (io:=io) (used:=used++(dQ (ν q.1)).toList) qN h2 rfl ahi BX.2
      (λq' nU=>by rw[av _ _ (ahj q' nU)];exact y9 q' (a6 _ nU))
      (λi h3 h4=>by
       have:i≠q.1:=ω
       rw[av _ _ this]
       exact iU i ω (by simp only[aU];omega))
      (λi e b hi iS hb=>by
       by_cases bw:i=q.1
       ·subst bw;exact .inr (cS _ (by rw[hb];simp))
       ·rw[av _ _ bw]at hi
        exact(hold i e b hi iS hb).imp (λh=>h) (cA _))
      (by rw[bU];exact wj) (λb hb=>nX b (cS _ hb)) (λb hb=>jQ b (cS _ hb))
      (λb hb Za=>by
       obtain⟨p,hp,ZO⟩:=FH b (cS _ hb) Za
       rcases bm.1 hp with rfl|hp
       ·exact absurd (jH (oM.1 wj).2.1 (b:=b) (by rw[ZO];simp)) (by simpa using hb)
       ·exact⟨p,hp,ZO⟩) (λq' nU=>wi q' (a6 _ nU))
     refine⟨ν',r1,r2,λi hi=> ?_,λi h3 h4=> ?_,λi h3 h4 e he=> ?_,λq' nU=> ?_⟩
     ·exact r3 i (by
       by_cases bw:i=q.1
       ·subst bw;rw[ar];simp
       ·rw[av _ _ bw];exact hi)
     ·simp only[keys,bZ,bm,not_or]at h3
      have:=r4 i h3.2 (by simp only[aU]at h4;omega)
      rw[av _ _ h3.1]at this
      exact this
     ·by_cases h5:id+1≤i
      ·exact r5 i h5 (by simp only[aU]at h4;omega) e he
      ·have bw:i=id:=ω
       subst bw
       by_cases hk:i∈keys io
       ·obtain⟨q',nU,EL⟩:=cQ.1 hk
        have h9:=y9 q' (a6 _ nU)
        rw[EL,iU i (aI _) (by simp)]at h9
        cases h9
       ·have:=r4 i hk (.inl ω)
        have ij:i≠q.1:=ω
        rw[av _ _ ij,iU i (aI _) (by simp)]at this
        have he:cj (bc H q.1 (some (aW.obj τ (pU x)))) (gQ ms (sy x) (i+1) io).2.1 i=some e:=he
        rw[this]at he;cases he
     ·rcases bm.1 nU with rfl|nU
      ·have:=r4 q'.1 BX.1 ω
       rw[ar]at this
       exact .inl ⟨τ,pU x,ZN.symm,this⟩
      ·exact r6 q' nU
   |lo τ=>
    cases io with
    |nil=>simp at Ia
    |cons q io=>
     simp only[bZ,eN]at Ia
     obtain⟨rfl,rfl⟩:=Ia
     simp only[mN,bZ,eN]at xP
     obtain⟨ZN,ahi⟩:=xP
     simp only[keys,bZ,wJ]at BX
     have V6:bL (.lo τ::ms) us (ν q.1::io.map λq=>ν q.1)=(dQ (ν q.1)).toList++bL ms us (io.map λq=>ν q.1):=rfl
     rw[V6]at wj nX jQ FH
     have uQ:=y9 q bu
     have yC:q.1<id∨id+(ms.length+1)≤q.1:=by
      rcases lJ q.1 id with h'|h'
      ·exact .inl h'
      ·rcases lJ q.1 (id+(ms.length+1))with Kz|Kz
       ·rw[iU q.1 h' Kz]at uQ;cases uQ
       ·exact .inr Kz
     simp only[A1]at h1
     have oh: ∀b,dQ (ν q.1)=some b→ ∀i e',H i=some e'→e'.mut→dQ (ν i)≠some b:=by
      intro b hb i e' hi iS dj
      have mi:b∈(dQ (ν q.1)).toList++bL ms us (io.map λq=>ν q.1):=cA _ (by rw[hb];simp)
      rcases hold i e' b hi iS dj with⟨h3,h4⟩|h3
      ·exact(nX b mi).elim (λh'=>ω) h4
      ·exact jH wj h3 mi
     have qN:=Mem.vU (c:=c) hm (id:=q.1) (v:=ν q.1) (e:= .own τ (pU x)) (λe' sB=>by rw[uQ]at sB;cases sB;simp[aW.mut]) h1 oh (λb hb=>jQ b (cA _ (by rw[hb];simp))) (λb e0 l0 _ hb=>wi q bu τ ZN.symm b hb) (.inr rfl)
     have hνe:updν ν q.1 (ν q.1)=ν:=by funext i;unfold updν;split<;>simp_all
     rw[hνe]at qN
     have ahj: ∀(q':Nat×AM),q'∈io→q'.1≠q.1:=λq' nU e=>BX.1 (cQ.2 ⟨q',nU,e⟩)
     obtain⟨ν',r1,r2,r3,r4,r5,r6⟩:=mC (ms:=ms) (x:=sy x) (us:=us) (ps:=io.map λq=>ν q.1) (id:=id+1) (io:=io) (used:=used++(dQ (ν q.1)).toList) qN h2 rfl ahi BX.2
      (λq' nU=>by rw[av _ _ (ahj q' nU)];exact y9 q' (a6 _ nU))
      (λi h3 h4=>by
       have:i≠q.1:=ω
       rw[av _ _ this]
       exact iU i ω (by simp only[aU];omega))
      (λi e b hi iS hb=>by
       by_cases bw:i=q.1
       ·subst bw;exact .inr (cS _ (by rw[hb];simp))
       ·rw[av _ _ bw]at hi
        exact(hold i e b hi iS hb).imp (λh=>h) (cA _))
      (by rw[bU];exact wj) (λb hb=>nX b (cS _ hb)) (λb hb=>jQ b (cS _ hb))
      (λb hb Za=>by
       obtain⟨p,hp,ZO⟩:=FH b (cS _ hb) Za
       rcases bm.1 hp with rfl|hp
       ·exact absurd (jH (oM.1 wj).2.1 (b:=b) (by rw[ZO];simp)) (by simpa using hb)
       ·exact⟨p,hp,ZO⟩) (λq' nU=>wi q' (a6 _ nU))
     refine⟨ν',r1,r2,λi hi=> ?_,λi h3 h4=> ?_,λi h3 h4 e he=> ?_,λq' nU=> ?_⟩
     ·exact r3 i (by
       by_cases bw:i=q.1
       ·subst bw;rw[ar];simp
       ·rw[av _ _ bw];exact hi)
     ·simp only[keys,bZ,bm,not_or]at h3
      have:=r4 i h3.2 (by simp only[aU]at h4;omega)
      rw[av _ _ h3.1]at this
      exact this
     ·by_cases h5:id+1≤i
      ·exact r5 i h5 (by simp only[aU]at h4;omega) e he
      ·have bw:i=id:=ω
       subst bw
       by_cases hk:i∈keys io
       ·obtain⟨q',nU,EL⟩:=cQ.1 hk
        have h9:=y9 q' (a6 _ nU)
        rw[EL,iU i (aI _) (by simp)]at h9
        cases h9
       ·have:=r4 i hk (.inl ω)
        have ij:i≠q.1:=ω
        rw[av _ _ ij,iU i (aI _) (by simp)]at this
        have he:cj (bc H q.1 (some (aW.own τ (pU x)))) (gQ ms (sy x) (i+1) io).2.1 i=some e:=he
        rw[this]at he;cases he
     ·rcases bm.1 nU with rfl|nU
      ·have:=r4 q'.1 BX.1 ω
       rw[ar]at this
       exact .inr ⟨τ,pU x,ZN.symm,this⟩
      ·exact r6 q' nU
   |v τ=>simp[AM.iD]at F2
   |own τ=>simp[AM.iD]at F2
   |fn f τ=>simp[AM.iD]at F2
   |ptr τ=>simp[AM.iD]at F2
   |ic τ=>simp[AM.iD]at F2
   |sp _ _ _=>simp[AM.iD]at F2
  ·
   have AJ:H id=none:=iU id (aI _) (by simp)
   cases m with
   |io τ=>simp[AM.iD]at F2
   |lo τ=>simp[AM.iD]at F2
   |fn f τ=>simp[AM.ZK]at hmf
   |ic τ=>simp[AM.ZK]at hmf
   |v τ=>
    have V6:bL (.v τ::ms) (v::D8) ps=bL ms D8 ps:=rfl
    rw[V6]at wj nX jQ FH
    simp only[A1]at h1
    obtain⟨ν',r1,r2,r3,r4,r5,r6⟩:=mC (ms:=ms) (x:=sy x) (us:=D8) (ps:=ps) (id:=id+1) (io:=io) (used:=used) hm h2 Ia (by simpa [mN]using xP) BX y9 (λi h3 h4=>iU i ω (by simp only[aU];omega)) hold wj nX jQ FH wi
    refine⟨ν',r1,?_,r3,λi h3 h4=>r4 i h3 (by simp only[aU]at h4;omega),λi h3 h4 e he=> ?_,r6⟩
    ·simp only[wW,jk,VR];exact⟨h1,r2⟩
    ·by_cases h5:id+1≤i
     ·exact r5 i h5 (by simp only[aU]at h4;omega) e he
     ·have bw:i=id:=ω
      subst bw
      by_cases hk:i∈keys io
      ·obtain⟨q',nU,EL⟩:=cQ.1 hk
       have h9:=y9 q' nU
       rw[EL,AJ]at h9;cases h9
      ·have:=r4 i hk (.inl ω)
       rw[AJ]at this
       have he:cj H (gQ ms (sy x) (i+1) io).2.1 i=some e:=he
       rw[this]at he;cases he
   |own τ=>
    have V6:bL (.own τ::ms) (v::D8) ps=(dQ v).toList++bL ms D8 ps:=rfl
    rw[V6]at wj nX jQ FH
    simp only[A1]at h1
    have oh: ∀b,dQ v=some b→ ∀i e',H i=some e'→e'.mut→dQ (ν i)≠some b:=by
     intro b hb i e' hi iS dj
     have mi:b∈(dQ v).toList++bL ms D8 ps:=cA _ (by rw[hb];simp)
     rcases hold i e' b hi iS dj with⟨h3,h4⟩|h3
     ·exact(nX b mi).elim (λh'=>ω) h4
     ·exact jH wj h3 mi
    have V7: ∀b,dQ v=some b→ ¬c.M0 b:=by
     intro b hb h0
     have mi:b∈(dQ v).toList:=by rw[hb];simp
     obtain⟨p,hp,ZO⟩:=FH b (cA _ mi) h0
     exact jH (oM.1 wj).2.1 mi (RR.F1 h2 p hp b ZO)
    have qN:=Mem.vU (c:=c) hm (id:=id) (v:=v) (e:= .own τ (pU x)) (λe' sB=>by rw[AJ]at sB;cases sB) h1 oh (λb hb=>jQ b (cA _ (by rw[hb];simp))) (λb e0 l0 _ hb=>V7 b hb) (.inl AJ)
    have yC: ∀q∈io,q.1≠id:=λq hq e=>by
     have h9:=y9 q hq
     rw[e,AJ]at h9;cases h9
    have hν2: ∀i,i≠id→updν ν id v i=ν i:=λi hi=>by simp[updν,hi]
    obtain⟨ν',r1,r2,r3,r4,r5,r6⟩:=mC (ms:=ms) (x:=sy x) (us:=D8) (ps:=ps) (id:=id+1) (io:=io) (used:=used++(dQ v).toList) qN h2
     (by rw[Ia];exact mc λq hq=>(hν2 _ (yC q hq)).symm) (by simpa [mN]using xP) BX
     (λq hq=>by rw[av _ _ (yC q hq)];exact y9 q hq)
     (λi h3 h4=>by rw[av _ _ ω];exact iU i ω (by simp only[aU];omega))
     (λi e b hi iS hb=>by
      by_cases bw:i=id
      ·subst bw
       have:updν ν i v i=v:=by simp[updν]
       rw[this]at hb
       exact .inr (cS _ (by rw[hb];simp))
      ·rw[av _ _ bw]at hi
       rw[hν2 i bw]at hb
       exact(hold i e b hi iS hb).imp (λh=>h) (cA _))
     (by rw[bU];exact wj) (λb hb=>nX b (cS _ hb)) (λb hb=>jQ b (cS _ hb)) (λb hb=>FH b (cS _ hb)) (λq hq e he b hb=>wi q hq e he b (by rw[hν2 _ (yC q hq)]at hb;exact hb))
    have V8:id∉keys io:=λhk=>by
     obtain⟨q,hq,EL⟩:=cQ.1 hk
     exact yC q hq EL
    have oO:cj (bc H id (some (.own τ (pU x)))) (gQ ms (sy x) (id+1) io).2.1 id=some (.own τ (pU x)):=by
     rw[r4 id V8 (.inl ω),ar]
    refine⟨ν',r1,?_,λi hi=> ?_,λi h3 h4=> ?_,λi h3 h4 e he=> ?_,r6⟩
    ·simp only[wW,jk,VR]
     refine⟨⟨?_,?_⟩,r2⟩
     ·show cj (bc H id (some (.own τ (pU x)))) (gQ ms (sy x) (id+1) io).2.1 id≠none
      rw[oO];simp
     ·rw[r3 id (by rw[ar];simp)];simp[updν]
    ·have bw:i≠id:=λe=>hi (e▸AJ)
     rw[r3 i (by rw[av _ _ bw];exact hi),hν2 i bw]
    ·have bw:i≠id:=by simp only[aU]at h4;omega
     have:=r4 i h3 (by simp only[aU]at h4;omega)
     rw[av _ _ bw]at this
     exact this
    ·by_cases h5:id+1≤i
     ·exact r5 i h5 (by simp only[aU]at h4;omega) e he
     ·have bw:i=id:=ω
      subst bw
      have he:cj (bc H i (some (.own τ (pU x)))) (gQ ms (sy x) (i+1) io).2.1 i=some e:=he
      rw[oO]at he;cases he
      exact .inl ⟨τ,_,rfl⟩
   |sp τ n e=>
    simp only[A1]at h1
    obtain⟨cs,jB,u,l,z,hv,hq,MO,tq,hu,ry⟩:=h1
    obtain⟨x1,Ib,_,arX,hz⟩:=FO ry
    cases Ib
    obtain⟨z0,yP,EM⟩:=hz []
    have hrz:Rd w M τ (dI jB (fF τ n) [.slice none 0 0]) z0:=by
     obtain⟨υ,y,o,k',hf,kO,BJ⟩:=kv (EM _ some)
     obtain⟨rfl,rfl⟩:=hf.eq
     obtain⟨e1,zz⟩:=bh kO
     obtain⟨x',qt,_,kd⟩:=BJ _ _ zz
     cases qt
     refine kd w M jB _ MO ?_
     have TE:Rd w M (.slice e) [.slice none 0 0] []:=by
      simp only[Rd]
      exact⟨none,0,rfl,aI _,λi hi=>by simp at hi⟩
     exact TE.al1 _
    have Tq:wW (.sp τ n e) (pU x) id=(.Ij τ z0 n id,[(id,some (.own e l))]):=by
     simp only[wW]
     rw[arX,yP]
    show ∃ν',Mem c (cj H ((wW (.sp τ n e) (pU x) id).2++(gQ ms (sy x) (id+1) io).2.1)) w M ν'∧jk w M (cj H ((wW (.sp τ n e) (pU x) id).2++(gQ ms (sy x) (id+1) io).2.1)) ν' ((wW (.sp τ n e) (pU x) id).1::(gQ ms (sy x) (id+1) io).1) (v::D8)∧(∀i,H i≠none→ν' i=ν i)∧
     (∀i,i∉keys io→(i<id∨id+(AM.sp τ n e::ms).length≤i)→cj H ((wW (.sp τ n e) (pU x) id).2++(gQ ms (sy x) (id+1) io).2.1) i=H i)∧(∀i,id≤i→i<id+(AM.sp τ n e::ms).length→ ∀e9,cj H ((wW (.sp τ n e) (pU x) id).2++(gQ ms (sy x) (id+1) io).2.1) i=some e9→(∃e0 l0,e9= .own e0 l0)∨ ∃τ0 z0,e9= .obj τ0 z0)∧
     (∀q∈io,IoE (cj H ((wW (.sp τ n e) (pU x) id).2++(gQ ms (sy x) (id+1) io).2.1)) q)
    rw[Tq]
    have V6:bL (.sp τ n e::ms) (v::D8) ps=(dQ u).toList++bL ms D8 ps:=by
     show cV (.sp τ n e) v++bL ms D8 ps=_
     rw[hv,(xS hq MO tq).1]
    rw[V6]at wj nX jQ FH
    have oh: ∀b,dQ u=some b→ ∀i e',H i=some e'→e'.mut→dQ (ν i)≠some b:=by
     intro b hb i e' hi iS dj
     have mi:b∈(dQ u).toList++bL ms D8 ps:=cA _ (by rw[hb];simp)
     rcases hold i e' b hi iS dj with⟨h3,h4⟩|h3
     ·exact(nX b mi).elim (λh'=>ω) h4
     ·exact jH wj h3 mi
    have V7: ∀b,dQ u=some b→ ¬c.M0 b:=by
     intro b hb h0
     have mi:b∈(dQ u).toList:=by rw[hb];simp
     obtain⟨p,hp,ZO⟩:=FH b (cA _ mi) h0
     exact jH (oM.1 wj).2.1 mi (RR.F1 h2 p hp b ZO)
    have qN:=Mem.vU (c:=c) hm (id:=id) (v:=u) (e:= .own e l) (λe' sB=>by rw[AJ]at sB;cases sB) hu oh (λb hb=>jQ b (cA _ (by rw[hb];simp))) (λb e0 l0 _ hb=>V7 b hb) (.inl AJ)
    have yC: ∀q∈io,q.1≠id:=λq hq e=>by
     have h9:=y9 q hq
     rw[e,AJ]at h9;cases h9
    have hν2: ∀i,i≠id→updν ν id u i=ν i:=λi hi=>by simp[updν,hi]
    obtain⟨ν',r1,r2,r3,r4,r5,r6⟩:=mC (ms:=ms) (x:=sy x) (us:=D8) (ps:=ps) (id:=id+1) (io:=io) (used:=used++(dQ u).toList) qN h2
     (by rw[Ia];exact mc λq hq=>(hν2 _ (yC q hq)).symm) (by simpa [mN]using xP) BX
     (λq hq=>by rw[av _ _ (yC q hq)];exact y9 q hq)
     (λi h3 h4=>by rw[av _ _ ω];exact iU i ω (by simp only[aU];omega))
     (λi e9 b hi iS hb=>by
      by_cases bw:i=id
      ·subst bw
       have:updν ν i u i=u:=by simp[updν]
       rw[this]at hb
       exact .inr (cS _ (by rw[hb];simp))
      ·rw[av _ _ bw]at hi
       rw[hν2 i bw]at hb
       exact(hold i e9 b hi iS hb).imp (λh=>h) (cA _))
     (by rw[bU];exact wj) (λb hb=>nX b (cS _ hb)) (λb hb=>jQ b (cS _ hb)) (λb hb=>FH b (cS _ hb)) (λq hq e he b hb=>wi q hq e he b (by rw[hν2 _ (yC q hq)]at hb;exact hb))
    have V8:id∉keys io:=λhk=>by
     obtain⟨q,hq,EL⟩:=cQ.1 hk
     exact yC q hq EL
    have oO:cj (bc H id (some (.own e l))) (gQ ms (sy x) (id+1) io).2.1 id=some (.own e l):=by
     rw[r4 id V8 (.inl ω),ar]
    refine⟨ν',r1,?_,λi hi=> ?_,λi h3 h4=> ?_,λi h3 h4 e9 he=> ?_,r6⟩
    ·simp only[jk,VR]
     refine⟨⟨cs,dI jB (fF τ n) [.slice none 0 0],hv,hrz,?_,?_,hq⟩,r2⟩
     ·rw[r3 id (by rw[ar];simp),uc (xS (e:=e) hq MO tq).2,tq];simp[updν]
     ·show cj (bc H id (some (.own e l))) (gQ ms (sy x) (id+1) io).2.1 id≠none
      rw[oO];simp
    ·have bw:i≠id:=λe=>hi (e▸AJ)
     rw[r3 i (by rw[av _ _ bw];exact hi),hν2 i bw]
    ·have bw:i≠id:=by simp only[aU]at h4;omega
     have:=r4 i h3 (by simp only[aU]at h4;omega)
     rw[av _ _ bw]at this
     exact this
    ·by_cases h5:id+1≤i
     ·exact r5 i h5 (by simp only[aU]at h4;omega) e9 he
     ·have bw:i=id:=ω
      subst bw
      have he:cj (bc H i (some (.own e l))) (gQ ms (sy x) (i+1) io).2.1 i=some e9:=he
      rw[oO]at he;cases he
      exact .inl ⟨e,_,rfl⟩
   |ptr τ=>
    have V6:bL (.ptr τ::ms) (v::D8) ps=(dQ v).toList++bL ms D8 ps:=rfl
    rw[V6]at wj nX jQ FH
    simp only[A1]at h1
    have oh: ∀b,dQ v=some b→ ∀i e',H i=some e'→e'.mut→dQ (ν i)≠some b:=by
     intro b hb i e' hi iS dj
     have mi:b∈(dQ v).toList++bL ms D8 ps:=cA _ (by rw[hb];simp)
     rcases hold i e' b hi iS dj with⟨h3,h4⟩|h3
     ·exact(nX b mi).elim (λh'=>ω) h4
     ·exact jH wj h3 mi
    have qN:=Mem.vU (c:=c) hm (id:=id) (v:=v) (e:= .obj τ (pU x)) (λe' sB=>by rw[AJ]at sB;cases sB) h1 oh (λb hb=>jQ b (cA _ (by rw[hb];simp))) (λb e0 l0 he _=>by cases he) (.inl AJ)
    have yC: ∀q∈io,q.1≠id:=λq hq e=>by
     have h9:=y9 q hq
     rw[e,AJ]at h9;cases h9
    have hν2: ∀i,i≠id→updν ν id v i=ν i:=λi hi=>by simp[updν,hi]
    obtain⟨ν',r1,r2,r3,r4,r5,r6⟩:=mC (ms:=ms) (x:=sy x) (us:=D8) (ps:=ps) (id:=id+1) (io:=io) (used:=used++(dQ v).toList) qN h2
     (by rw[Ia];exact mc λq hq=>(hν2 _ (yC q hq)).symm) (by simpa [mN]using xP) BX
     (λq hq=>by rw[av _ _ (yC q hq)];exact y9 q hq)
     (λi h3 h4=>by rw[av _ _ ω];exact iU i ω (by simp only[aU];omega))
     (λi e b hi iS hb=>by
      by_cases bw:i=id
      ·subst bw
       have:updν ν i v i=v:=by simp[updν]
       rw[this]at hb
       exact .inr (cS _ (by rw[hb];simp))
      ·rw[av _ _ bw]at hi
       rw[hν2 i bw]at hb
       exact(hold i e b hi iS hb).imp (λh=>h) (cA _))
     (by rw[bU];exact wj) (λb hb=>nX b (cS _ hb)) (λb hb=>jQ b (cS _ hb)) (λb hb=>FH b (cS _ hb)) (λq hq e he b hb=>wi q hq e he b (by rw[hν2 _ (yC q hq)]at hb;exact hb))
    have V8:id∉keys io:=λhk=>by
     obtain⟨q,hq,EL⟩:=cQ.1 hk
     exact yC q hq EL
    have oO:cj (bc H id (some (.obj τ (pU x)))) (gQ ms (sy x) (id+1) io).2.1 id=some (.obj τ (pU x)):=by
     rw[r4 id V8 (.inl ω),ar]
    refine⟨ν',r1,?_,λi hi=> ?_,λi h3 h4=> ?_,λi h3 h4 e he=> ?_,r6⟩
    ·simp only[wW,jk,VR]
     refine⟨⟨_,oO,trivial,?_⟩,r2⟩
     simp only[A1,ER]at h1
     obtain⟨b,cs,t,V5,_⟩:=h1
     exact⟨b,by rw[r3 id (by rw[ar];simp)];simp[updν,V5],V5⟩
    ·have bw:i≠id:=λe=>hi (e▸AJ)
     rw[r3 i (by rw[av _ _ bw];exact hi),hν2 i bw]
    ·have bw:i≠id:=by simp only[aU]at h4;omega
     have:=r4 i h3 (by simp only[aU]at h4;omega)
     rw[av _ _ bw]at this
     exact this
    ·by_cases h5:id+1≤i
     ·exact r5 i h5 (by simp only[aU]at h4;omega) e he
     ·have bw:i=id:=ω
      subst bw
      have he:cj (bc H i (some (.obj τ (pU x)))) (gQ ms (sy x) (i+1) io).2.1 i=some e:=he
      rw[oO]at he;cases he
      exact .inr ⟨τ,_,rfl⟩
end VM
end
