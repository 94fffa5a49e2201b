/- A part of the proof of LotAll of layer 23: a machine that reads a function of the program as an equation between values. -/
import Derived.Test.YthnjnpjmbabcaaaGreatVm3
set_option linter.all false
section
namespace VM
open Go
variable{P:Program}{E:Env}{o:Oper}{a:Act}{w:World}{M:Nat→Prop}{ν:Nat→Value}{σ:St}{c:Ctx}{α:Type}{r:α}{next:Act→World→Prop}{Q:Exit→Act→World→Prop}
def jX:{m:AM}→{ms:List AM}→HP (m::ms)→m.den
 |_,[],x=>x
 |_,_::_,x=>x.1
def lM:{m:AM}→{ms:List AM}→HP (m::ms)→HP ms
 |_,[],_=>()
 |_,_::_,x=>x.2
def AM.dY:AM→Bool
 | .io _| .lo _=>true
 |_=>false
def AM.Le:AM→Bool
 | .fn _ _| .dQ _=>true
 |_=>false
def A1(w:World)(M:Nat→Prop):(m:AM)→m.den→Value→Prop
 | .v τ,x,v=>V w M τ v x
 | .own e,x,v=>ER w M v (.own e x)
 | .io τ,x,v=>ER w M v (.obj τ x)
 | .fn f τ,x,v=>VR w M (λ_=>none) (λ_=>undef) (.BD f (kg τ x)) v
 | .ptr τ,x,v=>ER w M v (.obj τ x)
 | .dQ τ,x,v=>VR w M (λ_=>none) (λ_=>undef) (.kW τ x) v
 | .lo e,x,v=>ER w M v (.own e x)
 | .sp τ n e,x,v=> ∃(cs:Array Value) (eH:List Value) (u:Value) (l:List e.den) (z:τ.den),v= .agg cs∧nG τ n=true∧Rd w M τ eH z∧cs.toList=ca eH (de τ n) [u]∧ER w M u (.own e l)∧
  c8 τ z n (fun υ' _ k'=>bc (.slice e) υ' l k') some=some x
def Tb(n:Nat):Value→Option Value
 | .agg cs=>cs.toList[n]?
 |_=>none
def eA(w:World)(M:Nat→Prop):(ms:List AM)→HP ms→List Value→Prop
 |[],_,vs=>vs=[]
 |_::ms,x,vs=> ∃v Bd,vs=v::Bd∧A1 w M _ (jX x) v∧eA w M ms (lM x) Bd
def bH:AM→Value→List Nat
 | .own _,v| .io _,v| .ptr _,v| .lo _,v=>(cn v).toList
 | .sp τ n _,v=>((Tb (de τ n) v).bind cn).toList
 |_,_=>[]
theorem p5{τ:Ty}{n:Nat}{e:Ty}{cs:Array Value}{eH:List Value}{u:Value}{z:τ.den}(hq:nG τ n=true)(hr:Rd w M τ eH z)(mL:cs.toList=ca eH (de τ n) [u]):bH (.sp τ n e) (.agg cs)=(cn u).toList∧de τ n<eH.length:=by
 obtain⟨e',_,hf⟩:=qU hq
 obtain⟨y,o,zr⟩:=fv hf z
 have hb:=zr.bound
 have ho:=zr.eq.2
 subst ho
 rw[show(Ty.slice e').size=1 from rfl]at hb
 have hl:=hr.length
 have c6:de τ n<eH.length:=ω
 refine⟨?_,c6⟩
 show((cs.toList[de τ n]?).bind cn).toList=_
 rw[mL,pW c6];rfl
def bY:List AM→List Value→List Nat
 |m::ms,v::vs=>bH m v++bY ms vs
 |_,_=>[]
def c3:List AM→List Value→List Value
 |m::ms,v::vs=>if m.dY then v::c3 ms vs else c3 ms vs
 |_,_=>[]
def g6:List AM→List AM
 | .io τ::ms=> .io τ::g6 ms
 | .lo e::ms=> .lo e::g6 ms
 |_::ms=>g6 ms
 |[]=>[]
def RR(w:World)(M:Nat→Prop):(ms:List AM)→HP ms→List Value→List Value→Prop
 |[],_,vs,ps=>vs=[]∧ps=[]
 |m::ms,x,vs,ps=>(∃p vU,m.dY=true∧ps=p::vU∧A1 w M m (jX x) p∧RR w M ms (lM x) vs vU)∨
  (∃v Bd,m.dY=false∧m.Le=false∧vs=v::Bd∧A1 w M m (jX x) v∧RR w M ms (lM x) Bd ps)
def aN:List AM→List Value→List Value→List Nat
 |[],_,_=>[]
 |m::ms,vs,ps=>if m.dY then bH m (ps.headD undef)++aN ms vs ps.tail else bH m (vs.headD undef)++aN ms vs.tail ps
def AM.flat:AM→Bool
 | .v τ| .io τ| .own τ| .ptr τ| .lo τ=>τ.flat
 | .fn _ _| .dQ _| .sp _ _ _=>false
def qG(vs:List Value):Value:=if h:vs.length=1 then vs[0]else .tuple vs.toArray
structure Left(w:World)(M0:Nat→Prop)(hs:List Nat)(w':World)(M':Nat→Prop):Prop where
 sub: ∀b,M0 b→M' b
 qS: ∀b,M' b→b<w'.heap.size
 less: ∀b,b<w.heap.size→M' b→M0 b∨b∈hs
 frame: ∀b,b<w.heap.size→b∉hs→w'.heap[b]? =w.heap[b]?
 size:w.heap.size≤w'.heap.size
 os:w'.os=w.os
 tape:w'.tape=w.tape
 output:w'.output=w.output
def B0(P:Program)(f:FuncId)(args:Array Value)(w:World)(R:Value→World→Prop):Prop:=
 ∀(o:Oper) (a:Act) (next:Act→World→Prop) (Q:Exit→Act→World→Prop),(∀v w',R v w'→next (a.put o.dst v) w')→o.upon P a next Q ((callFunc f args).run P w)
theorem B0.mono{f:FuncId}{args:Array Value}{R R':Value→World→Prop}(h:B0 P f args w R)(hr: ∀v w',R v w'→R' v w'):B0 P f args w R':=
 λo a next Q hn=>h o a next Q λv w' hv=>hn v w' (hr v w' hv)
theorem mM{f:FuncId}{fn:Func}{args:Array Value}{R:Value→World→Prop}(hf:P.funcs[f]? =some fn)(hn:(fn.name== "runtime.NumGoroutine")=false)(hb:fn.body.isNone=false)
  (h:Calls P f args w λe w'=> ∃v,e= .returned v∧R v w'):B0 P f args w R:=by
 intro o a next Q oC
 have hn': ¬fn.name= "runtime.NumGoroutine" :=by simpa using hn
 have bT: ¬fn.body=none:=λe=>by rw[e]at hb;cases hb
 have:(callFunc f args).run P w= .ok (.enter f args) w:=by simp[callFunc,hf,hn',bT]
 rw[this,Oper.upon_enter]
 refine Calls.mono h ?_
 rintro e w' ⟨v,rfl,hR⟩
 exact oC v w' hR
theorem yW{f:FuncId}{args:Array Value}{R:Value→World→Prop}{v:Value}{w':World}(h:(callFunc f args).run P w= .ok (.value v) w')(hR:R v w'):B0 P f args w R:=by
 intro o a next Q oC
 rw[h,Oper.upon_value]
 exact oC v w' hR
structure gy(P:Program)(f:FuncId)(S:jU):Prop where
 quiet:S.quiet=true→S.res.all AM.flat=true
 ios:g6 S.args=g6 S.res
 call: ∀(M0:Nat→Prop) (w:World) (vs:List Value) (x:HP S.args) (y:HP S.res),(∀b,M0 b→b<w.heap.size)→
  eA w (λb=>M0 b∨b∈bY S.args vs) S.args x vs→(bY S.args vs).Nodup→(∀b∈bY S.args vs,¬M0 b)→S.run x=some y→
  B0 P f vs.toArray w λv w'=> ∃us M',v=qG us∧RR w' M' S.res y us (c3 S.args vs)∧Left w M0 (bY S.args vs) w' M'∧
   (aN S.res us (c3 S.args vs)).Nodup∧ ∀b∈aN S.res us (c3 S.args vs),¬M0 b
theorem Rd.flat{w w':World}{M M':Nat→Prop}: ∀{τ:Ty} {cs:List Value} {x:τ.den},τ.flat=true→Rd w M τ cs x→Rd w' M' τ cs x
 | .int _,_,_,_,h| .bool,_,_,_,h| .str,_,_,_,h| .unit,_,_,_,h=>h
 | .slice _,_,_,hf,_=>by simp[Ty.flat]at hf
 | .pair a b,_,_,hf,h=>by
  simp only[Ty.flat,bg]at hf
  simp only[Rd]at h ⊢
  obtain⟨c1,c2,rfl,h1,h2⟩:=h
  exact⟨c1,c2,rfl,h1.flat hf.1,h2.flat hf.2⟩
 | .arr n e,_,x,hf,h=>by
  simp only[Ty.flat]at hf
  simp only[Rd]at h ⊢
  obtain⟨hn,F2,hc,rfl,hr⟩:=h
  exact⟨hn,F2,hc,rfl,λi hi mj=>(hr i hi mj).flat hf⟩
theorem A1.flat{w:World}{M M':Nat→Prop}(hM: ∀b,M b→M' b){m:AM}{x:m.den}{v:Value}(hf:m.flat=true)(h:A1 w M m x v):A1 w M' m x v:=by
 cases m with
 |v τ=>
  simp only[A1,V,AM.flat]at h hf ⊢
  split
  ·rename_i ha;rw[ae ha]at h;obtain⟨cs,h1,h⟩:=h;exact⟨cs,h1,h.flat hf⟩
  ·rename_i ha;rw[af ha]at h;exact h.flat hf
 |own e=>
  simp only[A1,ER,AM.flat]at h hf ⊢
  rcases h with h|⟨b,cs,t,cap,h1,h2,h3,h4,h5,h6,h7,h8⟩
  ·exact .inl h
  ·exact .inr ⟨b,cs,t,cap,h1,h2,hM b h3,h4,h5,h6,h7,λi hi=>(h8 i hi).flat hf⟩
 |io τ=>
  simp only[A1,ER,AM.flat]at h hf ⊢
  obtain⟨b,cs,t,h1,h2,h3,h4⟩:=h
  exact⟨b,cs,t,h1,h2,hM b h3,h4.flat hf⟩
 |fn f τ=>simp[AM.flat]at hf
 |dQ τ=>simp[AM.flat]at hf
 |sp τ n e=>simp[AM.flat]at hf
 |lo e=>
  simp only[A1,ER,AM.flat]at h hf ⊢
  rcases h with h|⟨b,cs,t,cap,h1,h2,h3,h4,h5,h6,h7,h8⟩
  ·exact .inl h
  ·exact .inr ⟨b,cs,t,cap,h1,h2,hM b h3,h4,h5,h6,h7,λi hi=>(h8 i hi).flat hf⟩
 |ptr τ=>
  simp only[A1,ER,AM.flat]at h hf ⊢
  obtain⟨b,cs,t,h1,h2,h3,h4⟩:=h
  exact⟨b,cs,t,h1,h2,hM b h3,h4.flat hf⟩
theorem RR.flat{w:World}{M M':Nat→Prop}(hM: ∀b,M b→M' b): ∀{ms:List AM} {x:HP ms} {vs ps:List Value},ms.all AM.flat=true→RR w M ms x vs ps→RR w M' ms x vs ps
 |[],_,_,_,_,h=>h
 |m::ms,x,vs,ps,hf,h=>by
  simp only[rZ,bg]at hf
  simp only[RR]at h ⊢
  rcases h with⟨p,vU,h1,h2,h3,h4⟩|⟨v,Bd,h1,h2,h3,h4,h5⟩
  ·exact .inl ⟨p,vU,h1,h2,h3.flat hM hf.1,RR.flat hM hf.2 h4⟩
  ·exact .inr ⟨v,Bd,h1,h2,h3,h4.flat hM hf.1,RR.flat hM hf.2 h5⟩
theorem A1.pA{w w':World}{M M':Nat→Prop}(k:cm w M w' M'){m:AM}{x:m.den}{v:Value}(hm: ∀b∈bH m v,w'.heap[b]? =w.heap[b]? ∧M' b)(h:A1 w M m x v):A1 w' M' m x v:=by
 cases m with
 |v τ=>exact V.aV k h
 |own e=>
  simp only[A1]at h ⊢
  exact ER.aV k (λ_ b hb=>hm b (by simp[bH,hb])) h
 |io τ=>
  simp only[A1]at h ⊢
  exact ER.aV k (λ_ b hb=>hm b (by simp[bH,hb])) h
 |fn f τ=>exact VR.aV k (.refl _ _) h
 |dQ τ=>exact VR.aV k (.refl _ _) h
 |sp τ n e=>
  simp only[A1]at h ⊢
  obtain⟨cs,eH,u,l,z,rfl,hq,hr,mL,hu,hs⟩:=h
  exact⟨cs,eH,u,l,z,rfl,hq,hr.aV k,mL,ER.aV k (λ_ b hb=>hm b (by rw[(p5 hq hr mL).1];simp[hb])) hu,hs⟩
 |lo e=>
  simp only[A1]at h ⊢
  exact ER.aV k (λ_ b hb=>hm b (by simp[bH,hb])) h
 |ptr τ=>
  simp only[A1]at h ⊢
  exact ER.aV k (λ_ b hb=>hm b (by simp[bH,hb])) h
theorem eA.pA{w w':World}{M M':Nat→Prop}(k:cm w M w' M'): ∀{ms:List AM} {x:HP ms} {vs:List Value},(∀b∈bY ms vs,w'.heap[b]? =w.heap[b]? ∧M' b)→eA w M ms x vs→eA w' M' ms x vs
 |[],_,_,_,h=>h
 |m::ms,x,vs,hm,h=>by
  simp only[eA]at h ⊢
  obtain⟨v,Bd,rfl,h1,h2⟩:=h
  exact⟨v,Bd,rfl,h1.pA k (λb hb=>hm b (by simp[bY,hb])),eA.pA k (λb hb=>hm b (by simp[bY,hb])) h2⟩
theorem RR.pA{w w':World}{M M':Nat→Prop}(k:cm w M w' M'): ∀{ms:List AM} {x:HP ms} {us ps:List Value},(∀b∈aN ms us ps,w'.heap[b]? =w.heap[b]? ∧M' b)→RR w M ms x us ps→RR w' M' ms x us ps
 |[],_,_,_,_,h=>h
 |m::ms,x,us,ps,hm,h=>by
  simp only[RR]at h ⊢
  rcases h with⟨p,vU,h1,rfl,h2,h3⟩|⟨v,vu,h1,h2,rfl,h3,h4⟩
  ·simp only[aN,h1,ed,mX,mY,bt]at hm
   exact .inl ⟨p,vU,h1,rfl,h2.pA k (λb hb=>hm b (.inl hb)),RR.pA k (λb hb=>hm b (.inr hb)) h3⟩
  ·simp only[aN,h1,dJ,cU,mX,mY,bt]at hm
   exact .inr ⟨v,vu,h1,h2,rfl,h3.pA k (λb hb=>hm b (.inl hb)),RR.pA k (λb hb=>hm b (.inr hb)) h4⟩
theorem vV{H:Nat→Option az}(hm:Mem c H w M ν){a:aF}{v:Value}(hv:VR w M H ν a v){τ:Ty}{k:τ.den→List Nat→dR→Option α}{r:α}(h:gS true a H τ k=some r):
  ∃y rd ups,k y rd ups=some r∧((ups=[]∧V w M τ v y)∨ ∃id e l,ups=[(id,some (.jk e l))]∧H id=some (.own e l)∧
   ∀M',(∀b,M' b↔(M b∧cn (ν id)≠some b))→V w M' τ v y):=by
 unfold gS at h
 split at h
 ·obtain⟨e,h⟩:=aE h
  subst e
  simp only[VR]at hv
  exact⟨_,[],[],h,.inl ⟨rfl,hv⟩⟩
 ·obtain⟨e,h⟩:=aE h
  subst e
  simp only[VR]at hv
  exact⟨_,[],[],h,.inl ⟨rfl,hv.1⟩⟩
 ·split at h
  ·rename_i e k' _
   simp only[VR]at hv
   obtain⟨a,rfl⟩:=hv
   refine⟨[],[],[],h,.inl ⟨rfl,V.slice.2 ?_⟩⟩
   simp only[Rd]
   exact⟨a,0,rfl,aH _,λi hi=>absurd hi (by simp)⟩
  ·cases h
 ·rename_i id
  simp only[VR]at hv
  obtain⟨_,rfl⟩:=hv
  split at h
  ·rename_i e l hid
   obtain⟨e',h⟩:=aE h
   subst e'
   refine⟨_,_,_,h,.inr ⟨id,e,l,rfl,hid,λM' Xd=> ?_⟩⟩
   obtain⟨M2,_,hV,Ae⟩:=Tr.freeze hm hid
   have:M'=M2:=by funext b;exact propext ((Xd b).trans (Ae b).symm)
   rw[this];exact hV
  ·rename_i e l hid
   obtain⟨e',h⟩:=aE h
   subst e'
   have:=hm.dH id _ hid
   simp only[ER]at this
   exact⟨_,_,_,h,.inl ⟨rfl,V.slice.2 this.1⟩⟩
  ·cases h
 ·cases h
theorem Io{H:Nat→Option az}(hm:Mem c H w M ν): ∀{a:Ty} {x:aF} {v:Value} {k:a.den→List Nat→dR→Option α} {r:α},VR w M H ν x v→ud x H a k=some r→
  ∃y rd ups,k y rd ups=some r∧(ups=[]→VR w M (λ_=>none) (λ_=>undef) (ue a y) v):=by
 intro a x v k r hv h
 unfold ud at h
 split at h
 ·rename_i a k
  split at h
  ·rename_i υ z
   obtain⟨e1,h⟩:=aE h
   subst e1
   refine⟨_,_,_,h,λ_=> ?_⟩
   simp only[ue,VR]at hv ⊢
   exact hv
  ·cases h
 ·rename_i k0 iU
  obtain⟨y,rd,ups,h,hy⟩:=vV hm hv h
  refine⟨y,rd,ups,h,λhu=> ?_⟩
  rcases hy with⟨_,hy⟩|⟨_,_,_,h3,_⟩
  ·have:ue _ y= .val _ y:=by
    unfold ue
    split
    ·exact(iU _ _ rfl HEq.rfl).elim
    ·rfl
   rw[this]
   simp only[VR];exact hy
  ·rw[hu]at h3;cases h3
theorem xi{H:Nat→Option az}(hm:Mem c H w M ν): ∀{τ:Ty} {kv:List aF} {vs:List Value} {k:τ.den→List Nat→dR→Option α} {r:α},eE w M H ν kv vs→kY H τ kv k=some r→
  ∃x rd ups,k x rd ups=some r∧(ups=[]→eE w M (λ_=>none) (λ_=>undef) (kg τ x) vs)
 | .unit,[],[],k,r,_,h=>⟨(),[],[],h,λ_=>by simp[kg,eE]⟩
 | .pair a b,x::xs,v::vs,k,r,hv,h=>by
  simp only[eE]at hv
  unfold kY at h
  obtain⟨y,rd,ups,h,hy⟩:=Io hm hv.1 h
  obtain⟨ys,pU,eg,h,Sj⟩:=xi hm hv.2 h
  refine⟨(y,ys),_,_,h,λhu=> ?_⟩
  have h1:ups=[]:=(Bz.1 hu).1
  have h2:eg=[]:=(Bz.1 hu).2
  simp only[kg,eE]
  exact⟨hy h1,Sj h2⟩
 | .unit,[],_::_,_,_,hv,_=>by simp[eE]at hv
 |_,_::_,[],_,_,hv,_=>by simp[eE]at hv
 | .unit,_::_,_,_,_,_,h=>by simp[kY]at h
 | .pair _ _,[],_,_,_,_,h=>by simp[kY]at h
 | .int _,_,_,_,_,_,h| .bool,_,_,_,_,_,h| .str,_,_,_,_,_,h| .slice _,_,_,_,_,_,h| .arr _ _,_,_,_,_,_,h=>by simp[kY]at h
def keys{β:Type}(l:List (Nat×β)):List Nat:=l.map (·.1)
theorem gz{i:Nat}: ∀{ups:dR} {H:Nat→Option az},i∉keys ups→a8 H ups i=H i
 |[],_,_=>rfl
 |u::r,H,h=>by
  simp only[keys,bQ,bu,not_or]at h
  show a8 (aC H u.1 u.2) r i=_
  rw[gz h.2,aj _ _ h.1]
theorem sF(u:Nat×Option az)(b:dR)(hb:u.1∉keys b): ∀(a:dR) (H:Nat→Option az),a8 H (a++u::b)=aC (a8 H (a++b)) u.1 u.2
 |[],H=>by
  show a8 (aC H u.1 u.2) b=aC (a8 H b) u.1 u.2
  induction b generalizing H with
  |nil=>rfl
  |cons v b ih=>
   simp only[keys,bQ,bu,not_or]at hb
   show a8 (aC (aC H u.1 u.2) v.1 v.2) b=aC (a8 (aC H v.1 v.2) b) u.1 u.2
   rw[←ih hb.2]
   congr 1
   funext i
   by_cases h1:i=v.1
   ·subst h1;rw[ag,aj _ _ (cP hb.1),ag]
   ·by_cases h2:i=u.1
    ·subst h2;rw[aj _ _ h1,ag,ag]
    ·rw[aj _ _ h1,aj _ _ h2,aj _ _ h2,aj _ _ h1]
 |v::a,H=>sF u b hb a (aC H v.1 v.2)
def Tc(H:Nat→Option az)(q:Nat×AM):Prop:=(∃(τ:Ty) (x:τ.den),q.2= .io τ∧H q.1=some (.obj τ x))∨ ∃(e:Ty) (l:List e.den),q.2= .lo e∧H q.1=some (.own e l)
theorem Tc.some{H:Nat→Option az}{q:Nat×AM}(h:Tc H q):H q.1≠none:=by
 rcases h with⟨_,x,_,h⟩|⟨e,l,_,h⟩<;>rw[h]<;>simp
structure eY(c:Ctx)(w:World)(M:Nat→Prop)(ν:Nat→Value)(H0 H1 Hq:Nat→Option az)(M1:Nat→Prop)(uo uf:dR)(io:List (Nat×AM))(hs:List Nat):Prop where
 mem:Mem c H1 w M1 ν
 B1:Mem c Hq w M ν
 aV:cm w M w M1
 ext: ∀i,i∉keys io→a8 H0 (uo++uf) i=H1 i
 Ip: ∀i,i∉keys io→a8 H0 uo i=Hq i
 Gm: ∀q∈io,H1 q.1=some .gone∧Hq q.1=some .gone∧Tc H0 q
 Td:(keys io).Nodup
 ks: ∀i∈keys (uo++uf),∀e l,H1 i≠some (.own e l)
 Sk: ∀i∈keys (uo++uf),i∉keys io∧ ∃e l,H0 i=some (.own e l)
 fz:Fz Hq H1
 Pd: ∀u∈uo,u.2=some .gone
 Sl: ∀u∈uf,∃e l,u.2=some (.jk e l)∧H0 u.1=some (.own e l)
 nd:hs.Nodup
 hM: ∀b∈hs,M1 b
 B2: ∀b∈hs,c.B≤b∨c.may b
 none: ∀b∈hs,∀i e,Hq i=some e→e.mut→cn (ν i)≠some b
 Sm: ∀b∈hs,c.M0 b→ ∃q∈io,cn (ν q.1)=some b
 same: ∀i,i∉keys (uo++uf)→i∉keys io→H1 i=H0 i
theorem eY.start{H:Nat→Option az}(hm:Mem c H w M ν):eY c w M ν H H H M [] [] [] []:=
 ⟨hm,hm,.refl w M,λ_ _=>rfl,λ_ _=>rfl,λq hq=>by simp at hq,by simp[keys],λi hi=>by simp[keys]at hi,λi hi=>by simp[keys]at hi,.refl H,λu hu=>by simp at hu,λu hu=>by simp at hu,by simp,λb hb=>by simp at hb,λb hb=>by simp at hb,λb hb=>by simp at hb,λb hb=>by simp at hb,λ_ _ _=>rfl⟩
theorem Fz.Lf{H H1:Nat→Option az}(h:Fz H H1){i:Nat}{e:Ty}{l:List e.den}(hi:H1 i=some (.own e l)):H i=some (.own e l):=by
 rcases h i with h'|⟨e',l',_,h'⟩
 ·rw[←h',hi]
 ·rw[hi]at h';cases h'
theorem Fz.Te{H H1:Nat→Option az}(h:Fz H H1){i:Nat}{e:Ty}{l:e.den}(hi:H1 i=some (.obj e l)):H i=some (.obj e l):=by
 rcases h i with h'|⟨e',l',_,h'⟩
 ·rw[←h',hi]
 ·rw[hi]at h';cases h'
theorem Fz.mut{H H1:Nat→Option az}(h:Fz H H1){i:Nat}{e:az}(hi:H1 i=some e)(hm:e.mut):H i=some e:=by
 cases e with
 |obj=>exact h.Te hi
 |dj=>
  rcases h i with h'|⟨e',l',_,h'⟩
  ·rw[←h',hi]
  ·rw[hi]at h';cases h'
 |own=>exact h.Lf hi
 |jk=>simp[az.mut]at hm
 |cV _ _ _=>simp[az.mut]at hm
 |gone=>simp[az.mut]at hm
theorem eY.freeze{H0 H1 Hq:Nat→Option az}{M1:Nat→Prop}{uo uf:dR}{io:List (Nat×AM)}{hs:List Nat}(h:eY c w M ν H0 H1 Hq M1 uo uf io hs){id:Nat}{e:Ty}{l:List e.den}(hid:H1 id=some (.own e l)):
  ∃M2,eY c w M ν H0 (aC H1 id (some (.jk e l))) Hq M2 uo ((id,some (.jk e l))::uf) io hs∧cm w M1 w M2∧(∀b,M2 b↔(M1 b∧cn (ν id)≠some b)):=by
 obtain⟨M2,df,_,Ae⟩:=Tr.freeze h.mem hid
 have ni:id∉keys io:=λhk=>by
  obtain⟨q,hq,rfl⟩:=cN.1 hk
  have:=(h.Gm q hq).1
  rw[hid]at this;cases this
 have HC:id∉keys (uo++uf):=λhk=>h.ks id hk e l hid
 have Pe:id∉keys uf:=λhk=>HC (by simp only[keys,dv,bt];exact .inr hk)
 have h0:H0 id=some (.own e l):=by rw[←h.same id HC ni];exact hid
 have hq:Hq id=some (.own e l):=h.fz.Lf hid
 have gw: ∀i,i∈keys (uo++(id,some (az.jk e l))::uf)↔i=id∨i∈keys (uo++uf):=by
  intro i
  simp only[keys,dv,bQ,bt,bu]
  constructor
  ·rintro(h|h|h)
   ·exact .inr (.inl h)
   ·exact .inl h
   ·exact .inr (.inr h)
  ·rintro(h|h|h)
   ·exact .inr (.inl h)
   ·exact .inl h
   ·exact .inr (.inr h)
 refine⟨M2,⟨df.mem,h.B1,h.aV.trans df.aV,λi hi=> ?_,h.Ip,λq kC=> ?_,h.Td,λi hi e' l'=> ?_,λi hi=> ?_,λi=> ?_,h.Pd,λu hu=> ?_,h.nd,λb hb=> ?_,h.B2,h.none,h.Sm,λi hi mj=> ?_⟩,df.aV,Ae⟩
 ·rw[sF _ _ Pe]
  by_cases aI:i=id
  ·subst aI;rw[ag,ag]
  ·rw[aj _ _ aI,aj _ _ aI];exact h.ext i hi
 ·obtain⟨h1,h2,h3⟩:=h.Gm q kC
  have eX:q.1≠id:=λe=>ni (e▸mb kC)
  exact⟨by rw[aj _ _ eX];exact h1,h2,h3⟩
 ·by_cases aI:i=id
  ·subst aI;rw[ag];intro h';cases h'
  ·rw[aj _ _ aI]
   exact h.ks i (((gw i).1 hi).resolve_left aI) e' l'
 ·rcases(gw i).1 hi with rfl|hi
  ·exact⟨ni,e,l,h0⟩
  ·exact h.Sk i hi
 ·by_cases aI:i=id
  ·subst aI;exact .inr ⟨e,l,hq,ag _ _ _⟩
  ·rw[aj _ _ aI];exact h.fz i
 ·rcases bu.1 hu with rfl|hu
  ·exact⟨e,l,rfl,h0⟩
  ·exact h.Sl u hu
 ·exact(Ae b).2 ⟨h.hM b hb,λbT=>h.none b hb id _ hq trivial bT⟩
 ·have eX:i≠id:=λe=>hi ((gw i).2 (.inl e))
  rw[aj _ _ eX]
  exact h.same i (λh'=>hi ((gw i).2 (.inr h'))) mj
theorem eY.hand{H0 H1 Hq:Nat→Option az}{M1:Nat→Prop}{uo uf:dR}{io:List (Nat×AM)}{hs:List Nat}(h:eY c w M ν H0 H1 Hq M1 uo uf io hs){id:Nat}{e:Ty}{l:List e.den}(hid:H1 id=some (.own e l)):
  eY c w M ν H0 (aC H1 id (some .gone)) (aC Hq id (some .gone)) M1 ((id,some .gone)::uo) uf io (hs++(cn (ν id)).toList):=by
 have ni:id∉keys io:=λhk=>by
  obtain⟨q,hq,rfl⟩:=cN.1 hk
  have:=(h.Gm q hq).1
  rw[hid]at this;cases this
 have HC:id∉keys (uo++uf):=λhk=>h.ks id hk e l hid
 have Pe:id∉keys uo:=λhk=>HC (by simp only[keys,dv,bt];exact .inl hk)
 have h0:H0 id=some (.own e l):=by rw[←h.same id HC ni];exact hid
 have hq:Hq id=some (.own e l):=h.fz.Lf hid
 have gw: ∀i,i∈keys ((id,some az.gone)::uo++uf)↔i=id∨i∈keys (uo++uf):=by
  intro i
  simp only[keys,dv,bQ,kN,bt,bu]
 have sx: ∀b,cn (ν id)=some b→b∉hs:=λb hb bT=>h.none b bT id _ hq trivial hb
 refine⟨(Tr.gone h.mem id).mem,(Tr.gone h.B1 id).mem,h.aV,λi hi=> ?_,λi hi=> ?_,λq kC=> ?_,h.Td,λi hi e' l'=> ?_,λi hi=> ?_,λi=> ?_,λu hu=> ?_,h.Sl,?_,λb hb=> ?_,λb hb=> ?_,λb hb i e' hi hm=> ?_,λb hb KI=> ?_,λi hi mj=> ?_⟩
 ·have:=sF (id,some .gone) (uo++uf) HC [] H0
  simp only[fT]at this
  rw[kN,this]
  by_cases aI:i=id
  ·subst aI;rw[ag,ag]
  ·rw[aj _ _ aI,aj _ _ aI];exact h.ext i hi
 ·have:=sF (id,some .gone) uo Pe [] H0
  simp only[fT]at this
  rw[this]
  by_cases aI:i=id
  ·subst aI;rw[ag,ag]
  ·rw[aj _ _ aI,aj _ _ aI];exact h.Ip i hi
 ·obtain⟨h1,h2,h3⟩:=h.Gm q kC
  have eX:q.1≠id:=λe=>ni (e▸mb kC)
  exact⟨by rw[aj _ _ eX];exact h1,by rw[aj _ _ eX];exact h2,h3⟩
 ·by_cases aI:i=id
  ·subst aI;rw[ag];intro h';cases h'
  ·rw[aj _ _ aI]
   exact h.ks i (((gw i).1 hi).resolve_left aI) e' l'
 ·rcases(gw i).1 hi with rfl|hi
  ·exact⟨ni,e,l,h0⟩
  ·exact h.Sk i hi
 ·by_cases aI:i=id
  ·subst aI;left;rw[ag,ag]
  ·rw[aj _ _ aI,aj _ _ aI];exact h.fz i
 ·rcases bu.1 hu with rfl|hu
  ·rfl
  ·exact h.Pd u hu
 ·refine jh.2 ⟨h.nd,?_,λx hx y hy=> ?_⟩
  ·cases cn (ν id)<;>simp
  ·rw[cL]at hy
   intro ND;subst ND
   exact sx x hy hx
 ·rcases bt.1 hb with hb|hb
  ·exact h.hM b hb
  ·rw[cL]at hb
   exact(h.mem.dH id _ hid).lP trivial hb
 ·rcases bt.1 hb with hb|hb
  ·exact h.B2 b hb
  ·rw[cL]at hb
   exact h.mem.new id _ b hid trivial hb
 ·by_cases aI:i=id
  ·subst aI;rw[ag]at hi;cases hi;simp[az.mut]at hm
  ·rw[aj _ _ aI]at hi
   rcases bt.1 hb with hb|hb
   ·exact h.none b hb i e' hi hm
   ·rw[cL]at hb
    intro bT
    exact h.B1.qv i id e' _ b aI hi hm hq trivial bT hb
 ·rcases bt.1 hb with hb|hb
  ·exact h.Sm b hb KI
  ·rw[cL]at hb
   exact absurd KI (h.mem.qp id e l b hid hb)
 ·have eX:i≠id:=λe=>hi ((gw i).2 (.inl e))
  rw[aj _ _ eX]
  exact h.same i (λh'=>hi ((gw i).2 (.inr h'))) mj
theorem eY.Pf{H0 H1 Hq:Nat→Option az}{M1:Nat→Prop}{uo uf:dR}{io:List (Nat×AM)}{hs:List Nat}(h:eY c w M ν H0 H1 Hq M1 uo uf io hs){id:Nat}{τ:Ty}{x:τ.den}(hid:H1 id=some (.obj τ x)):
  eY c w M ν H0 (aC H1 id (some .gone)) (aC Hq id (some .gone)) M1 uo uf (io++[(id,.io τ)]) (hs++(cn (ν id)).toList):=by
 have ni:id∉keys io:=λhk=>by
  obtain⟨q,hq,rfl⟩:=cN.1 hk
  have:=(h.Gm q hq).1
  rw[hid]at this;cases this
 have hq:Hq id=some (.obj τ x):=h.fz.Te hid
 have HC:id∉keys (uo++uf):=λhk=>by
  have h1:=h.ext id ni
  obtain⟨_,e,l,h0⟩:=h.Sk id hk
  have key: ∀(ups:dR) (H:Nat→Option az),(∀u∈ups,u.2=some .gone∨ ∃e l,u.2=some (.jk e l))→id∈keys ups→a8 H ups id=some .gone∨ ∃e l,a8 H ups id=some (.jk e l):=by
   intro ups
   induction ups with
   |nil=>intro H _ hk;simp[keys]at hk
   |cons u ups ih=>
    intro H hv hk
    by_cases vW:id∈keys ups
    ·exact ih _ (λv KD=>hv v (aR _ KD)) vW
    ·show a8 (aC H u.1 u.2) ups id=_∨ ∃e l,a8 (aC H u.1 u.2) ups id=_
     rw[gz vW]
     have S6:id=u.1:=by
      simp only[keys,bQ,bu]at hk vW
      exact hk.resolve_right vW
     rw[S6,ag]
     exact hv u bl
  have:=key (uo++uf) H0 (λu hu=>by
   rcases bt.1 hu with hu|hu
   ·exact .inl (h.Pd u hu)
   ·obtain⟨e,l,h',_⟩:=h.Sl u hu;exact .inr ⟨e,l,h'⟩) hk
  rw[h1,hid]at this
  rcases this with h'|⟨_,_,h'⟩<;>cases h'
 have h0:H0 id=some (.obj τ x):=by rw[←h.same id HC ni];exact hid
 have gw: ∀i,i∈keys (io++[(id,.io τ)])↔i∈keys io∨i=id:=by
  intro i
  simp only[keys,dv,bQ,fh,bt,bu,wI,or_false]
 have sx: ∀b,cn (ν id)=some b→b∉hs:=λb hb bT=>h.none b bT id _ hq trivial hb
 refine⟨(Tr.gone h.mem id).mem,(Tr.gone h.B1 id).mem,h.aV,λi hi=> ?_,λi hi=> ?_,λq kC=> ?_,?_,λi hi e' l'=> ?_,λi hi=> ?_,λi=> ?_,h.Pd,h.Sl,?_,λb hb=> ?_,λb hb=> ?_,λb hb i e' hi hm=> ?_,λb hb KI=> ?_,λi hi mj=> ?_⟩
 ·rw[aj _ _ (λe=>hi ((gw i).2 (.inr e)))];exact h.ext i (λh'=>hi ((gw i).2 (.inl h')))
 ·rw[aj _ _ (λe=>hi ((gw i).2 (.inr e)))];exact h.Ip i (λh'=>hi ((gw i).2 (.inl h')))
 ·rcases bt.1 kC with kC|kC
  ·obtain⟨h1,h2,h3⟩:=h.Gm q kC
   have eX:q.1≠id:=λe=>ni (e▸mb kC)
   exact⟨by rw[aj _ _ eX];exact h1,by rw[aj _ _ eX];exact h2,h3⟩
  ·rw[dK]at kC;subst kC
   exact⟨ag _ _ _,ag _ _ _,.inl ⟨τ,x,rfl,h0⟩⟩
 ·simp only[keys,dv,bQ,fh]
  refine jh.2 ⟨h.Td,by simp,λx hx y hy=> ?_⟩
  rw[dK]at hy;subst hy
  intro e;exact ni (e▸hx)
 ·by_cases aI:i=id
  ·subst aI;rw[ag];intro h';cases h'
  ·rw[aj _ _ aI];exact h.ks i hi e' l'
 ·obtain⟨h1,h2⟩:=h.Sk i hi
  exact⟨λh'=>((gw i).1 h').elim h1 (λe=>HC (e▸hi)),h2⟩
 ·by_cases aI:i=id
  ·subst aI;left;rw[ag,ag]
  ·rw[aj _ _ aI,aj _ _ aI];exact h.fz i
 ·refine jh.2 ⟨h.nd,?_,λx hx y hy=> ?_⟩
  ·cases cn (ν id)<;>simp
  ·rw[cL]at hy
   intro ND;subst ND
   exact sx x hy hx
 ·rcases bt.1 hb with hb|hb
  ·exact h.hM b hb
  ·rw[cL]at hb
   exact(h.mem.dH id _ hid).lP trivial hb
 ·rcases bt.1 hb with hb|hb
  ·exact h.B2 b hb
  ·rw[cL]at hb
   exact h.mem.new id _ b hid trivial hb
 ·by_cases aI:i=id
  ·subst aI;rw[ag]at hi;cases hi;simp[az.mut]at hm
  ·rw[aj _ _ aI]at hi
   rcases bt.1 hb with hb|hb
   ·exact h.none b hb i e' hi hm
   ·rw[cL]at hb
    intro bT
    exact h.B1.qv i id e' _ b aI hi hm hq trivial bT hb
 ·rcases bt.1 hb with hb|hb
  ·obtain⟨q,NF,KC⟩:=h.Sm b hb KI
   exact⟨q,bk _ NF,KC⟩
  ·rw[cL]at hb
   exact⟨(id,.io τ),by simp,hb⟩
 ·have eX:i≠id:=λe=>mj ((gw i).2 (.inr e))
  rw[aj _ _ eX]
  exact h.same i hi (λh'=>mj ((gw i).2 (.inl h')))
theorem eY.NG{H0 H1 Hq:Nat→Option az}{M1:Nat→Prop}{uo uf:dR}{io:List (Nat×AM)}{hs:List Nat}(h:eY c w M ν H0 H1 Hq M1 uo uf io hs){id:Nat}{e:Ty}{l:List e.den}(hid:H1 id=some (.own e l)):
  eY c w M ν H0 (aC H1 id (some .gone)) (aC Hq id (some .gone)) M1 uo uf (io++[(id,.lo e)]) (hs++(cn (ν id)).toList):=by
 have ni:id∉keys io:=λhk=>by
  obtain⟨q,hq,rfl⟩:=cN.1 hk
  have:=(h.Gm q hq).1
  rw[hid]at this;cases this
 have hq:Hq id=some (.own e l):=h.fz.Lf hid
 have HC:id∉keys (uo++uf):=λhk=>h.ks id hk e l hid
 have h0:H0 id=some (.own e l):=by rw[←h.same id HC ni];exact hid
 have gw: ∀i,i∈keys (io++[(id,.lo e)])↔i∈keys io∨i=id:=by
  intro i
  simp only[keys,dv,bQ,fh,bt,bu,wI,or_false]
 have sx: ∀b,cn (ν id)=some b→b∉hs:=λb hb bT=>h.none b bT id _ hq trivial hb
 refine⟨(Tr.gone h.mem id).mem,(Tr.gone h.B1 id).mem,h.aV,λi hi=> ?_,λi hi=> ?_,λq kC=> ?_,?_,λi hi e' l'=> ?_,λi hi=> ?_,λi=> ?_,h.Pd,h.Sl,?_,λb hb=> ?_,λb hb=> ?_,λb hb i e' hi hm=> ?_,λb hb KI=> ?_,λi hi mj=> ?_⟩
 ·rw[aj _ _ (λe=>hi ((gw i).2 (.inr e)))];exact h.ext i (λh'=>hi ((gw i).2 (.inl h')))
 ·rw[aj _ _ (λe=>hi ((gw i).2 (.inr e)))];exact h.Ip i (λh'=>hi ((gw i).2 (.inl h')))
 ·rcases bt.1 kC with kC|kC
  ·obtain⟨h1,h2,h3⟩:=h.Gm q kC
   have eX:q.1≠id:=λe=>ni (e▸mb kC)
   exact⟨by rw[aj _ _ eX];exact h1,by rw[aj _ _ eX];exact h2,h3⟩
  ·rw[dK]at kC;subst kC
   exact⟨ag _ _ _,ag _ _ _,.inr ⟨e,l,rfl,h0⟩⟩
 ·simp only[keys,dv,bQ,fh]
  refine jh.2 ⟨h.Td,by simp,λx hx y hy=> ?_⟩
  rw[dK]at hy;subst hy
  intro e;exact ni (e▸hx)
 ·by_cases aI:i=id
  ·subst aI;rw[ag];intro h';cases h'
  ·rw[aj _ _ aI];exact h.ks i hi e' l'
 ·obtain⟨h1,h2⟩:=h.Sk i hi
  exact⟨λh'=>((gw i).1 h').elim h1 (λe=>HC (e▸hi)),h2⟩
 ·by_cases aI:i=id
  ·subst aI;left;rw[ag,ag]
  ·rw[aj _ _ aI,aj _ _ aI];exact h.fz i
 ·refine jh.2 ⟨h.nd,?_,λx hx y hy=> ?_⟩
  ·cases cn (ν id)<;>simp
  ·rw[cL]at hy
   intro ND;subst ND
   exact sx x hy hx
 ·rcases bt.1 hb with hb|hb
  ·exact h.hM b hb
  ·rw[cL]at hb
   exact(h.mem.dH id _ hid).lP trivial hb
 ·rcases bt.1 hb with hb|hb
  ·exact h.B2 b hb
  ·rw[cL]at hb
   exact h.mem.new id _ b hid trivial hb
 ·by_cases aI:i=id
  ·subst aI;rw[ag]at hi;cases hi;simp[az.mut]at hm
  ·rw[aj _ _ aI]at hi
   rcases bt.1 hb with hb|hb
   ·exact h.none b hb i e' hi hm
   ·rw[cL]at hb
    intro bT
    exact h.B1.qv i id e' _ b aI hi hm hq trivial bT hb
 ·rcases bt.1 hb with hb|hb
  ·obtain⟨q,NF,KC⟩:=h.Sm b hb KI
   exact⟨q,bk _ NF,KC⟩
  ·rw[cL]at hb
   exact⟨(id,.lo e),by simp,hb⟩
 ·have eX:i≠id:=λe=>mj ((gw i).2 (.inr e))
  rw[aj _ _ eX]
  exact h.same i hi (λh'=>mj ((gw i).2 (.inl h')))
theorem eI.td{H:Nat→Option az}{id:Nat}{e e':az}(hid:H id=some e)(hl:e.fy e'):eI H ν (aC H id (some e')) ν:=
 ⟨λi e1 hi=>by
  by_cases aI:i=id
  ·subst aI;rw[hid]at hi;cases hi;exact⟨e',ag _ _ _,hl⟩
  ·exact⟨e1,by rw[aj _ _ aI];exact hi,.refl e1⟩,λ_ _=>rfl⟩
theorem az.eN(e:az):e.fy .gone:=by cases e<;>simp[az.fy]
theorem VR.Tf{H H':Nat→Option az}{ν':Nat→Value}{a:Ty}{x:a.den}{v:Value}(h:VR w M H ν (ue a x) v):VR w M H' ν' (ue a x) v:=by
 unfold ue at h ⊢
 split at h
 ·simp only[VR]at h ⊢;exact h
 ·simp only[VR]at h ⊢;exact h
theorem eE.free{H H':Nat→Option az}{ν':Nat→Value}: ∀{τ:Ty} {x:τ.den} {vs:List Value},eE w M H ν (kg τ x) vs→eE w M H' ν' (kg τ x) vs
 | .pair a b,x,v::vs,h=>by
  simp only[kg,eE]at h ⊢
  exact⟨VR.Tf h.1,eE.free h.2⟩
 | .pair a b,x,[],h=>by simp[kg,eE]at h
 | .int _,_,[],_| .bool,_,[],_| .str,_,[],_| .slice _,_,[],_| .unit,_,[],_| .arr _ _,_,[],_=>by simp[kg,eE]
 | .int _,_,_::_,h| .bool,_,_::_,h| .str,_,_::_,h| .slice _,_,_::_,h| .unit,_,_::_,h| .arr _ _,_,_::_,h=>by simp[kg,eE]at h
theorem ux{H0 H1 Hq:Nat→Option az}{M1:Nat→Prop}{uo uf:dR}{io:List (Nat×AM)}{hs:List Nat}(h:eY c w M ν H0 H1 Hq M1 uo uf io hs){m:AM}{x:aF}{v:Value}(hv:VR w M1 H1 ν x v)
  {k:m.den→(Nat→Option az)→List Nat→dR→dR→List (Nat×AM)→Option α} (hk:iP m x H1 k=some r):
  ∃y H2 rd A9 Ba yD HD M2,k y H2 rd A9 Ba yD=some r∧eY c w M ν H0 H2 HD M2 (A9++uo) (Ba++uf) (io++yD) (hs++bH m v)∧cm w M1 w M2∧eI H1 ν H2 ν∧A1 w M2 m y v∧
   yD.map (λq=>ν q.1)=(if m.dY then [v]else [])∧yD.map (·.2)=g6 [m]:=by
 unfold iP at hk
 split at hk
 ·
  rename_i τ k
  obtain⟨y,rd,ups,hk,hy⟩:=vV h.mem hv hk
  rcases hy with⟨rfl,hV⟩|⟨id,e,l,rfl,hid,hV⟩
  ·exact⟨y,H1,rd,[],[],[],Hq,M1,hk,by simpa [bH]using h,.refl w M1,.refl H1 ν,hV,rfl,rfl⟩
  ·obtain⟨M2,hA,hK,Ae⟩:=h.freeze hid
   exact⟨y,_,rd,[],_,[],Hq,M2,hk,by simpa [bH]using hA,hK,.td hid ⟨rfl,rfl⟩,hV M2 Ae,rfl,rfl⟩
 ·
  rename_i e k
  split at hk
  ·obtain⟨ad,hv⟩:=VR.emp.1 hv
   subst hv
   have hb:cn (.slice ad 0 0)=none:=by cases ad<;>simp[cn]
   exact⟨[],H1,[],[],[],[],Hq,M1,hk,by simpa [bH,hb]using h,.refl w M1,.refl H1 ν,by simp only[A1,ER];exact .inl ⟨trivial,ad,rfl⟩,rfl,rfl⟩
  ·rename_i id
   split at hk
   ·rename_i e' l hid
    obtain⟨e1,hk⟩:=aE hk
    cases e1
    simp only[VR]at hv
    obtain⟨_,rfl⟩:=hv
    refine⟨_,_,_,_,_,_,_,M1,hk,by simpa [bH]using h.hand hid,.refl w M1,.td hid (az.eN _),?_,rfl,rfl⟩
    have:=h.mem.dH id _ hid
    exact this
   ·cases hk
  ·cases hk
 ·
  rename_i τ k
  split at hk
  ·rename_i id
   split at hk
   ·rename_i υ z hid
    obtain⟨e1,hk⟩:=aE hk
    subst e1
    simp only[VR]at hv
    obtain⟨e,he,eQ⟩:=hv
    rw[hid]at he;cases he
    simp only[AR]at eQ
    obtain⟨_,b,hb,hv⟩:=eQ
    have Iq:v=ν id:=by rw[hv,hb];rfl
    subst Iq
    refine⟨_,_,_,_,_,_,_,M1,hk,by simpa [bH]using h.Pf hid,.refl w M1,.td hid (az.eN _),?_,rfl,rfl⟩
    have:=h.mem.dH id _ hid
    exact this
   ·cases hk
  ·cases hk
 ·
  rename_i f τ k
  split at hk
  ·rename_i f' cs
   obtain⟨hf,tf⟩:=aP hk
   clear hk
   have hf:=cJ hf
   subst hf
   have hk:=tf
   clear tf
   simp only[VR]at hv
   obtain⟨us,rfl,K5⟩:=hv
   obtain⟨y,rd,ups,hk,hy⟩:=xi h.mem K5 hk
   split at hk
   ·exact⟨y,H1,rd,[],[],[],Hq,M1,hk,by simpa [bH]using h,.refl w M1,.refl H1 ν,by simp only[A1,VR];exact⟨us,rfl,hy rfl⟩,rfl,rfl⟩
   ·cases hk
  ·cases hk
 ·cases hk
 ·
  rename_i τ k
  split at hk
  ·rename_i υ z
   obtain⟨e1,hk⟩:=aE hk
   subst e1
   exact⟨_,H1,_,[],[],[],Hq,M1,hk,by simpa [bH]using h,.refl w M1,.refl H1 ν,by simp only[A1,VR]at hv ⊢;exact hv,rfl,rfl⟩
  ·cases hk
 ·
  rename_i e k
  split at hk
  ·rename_i id
   split at hk
   ·rename_i e' l hid
    obtain⟨e1,hk⟩:=aE hk
    cases e1
    simp only[VR]at hv
    obtain⟨_,rfl⟩:=hv
    refine⟨_,_,_,_,_,_,_,M1,hk,by simpa [bH]using h.NG hid,.refl w M1,.td hid (az.eN _),?_,rfl,rfl⟩
    have:=h.mem.dH id _ hid
    exact this
   ·cases hk
  ·cases hk
 ·cases hk
theorem uy{H0:Nat→Option az}: ∀{ms:List AM} {kv:List aF} {vs:List Value} {H1 Hq:Nat→Option az} {M1:Nat→Prop} {rd:List Nat} {uo uf:dR} {io:List (Nat×AM)} {hs:List Nat} {K:HP ms→List Nat→dR→dR→List (Nat×AM)→Option α},
  eY c w M ν H0 H1 Hq M1 uo uf io hs→eE w M1 H1 ν kv vs→m4 ms kv H1 rd uo uf io K=some r→
  ∃x pU A9 Ba yD H2 HD M2,K x pU A9 Ba yD=some r∧eY c w M ν H0 H2 HD M2 A9 Ba yD (hs++bY ms vs)∧cm w M1 w M2∧eA w M2 ms x vs∧
   yD.map (λq=>ν q.1)=io.map (λq=>ν q.1)++c3 ms vs∧yD.map (·.2)=io.map (·.2)++g6 ms
 |[],[],[],H1,Hq,M1,rd,uo,uf,io,hs,K,h,_,hk=>
  ⟨(),rd,uo,uf,io,H1,Hq,M1,hk,by simpa [bY]using h,.refl w M1,rfl,by simp[c3],by simp[g6]⟩
 |[m],[x],[v],H1,Hq,M1,rd,uo,uf,io,hs,K,h,hv,hk=>by
  simp only[eE,cT]at hv
  obtain⟨y,H2,Ie,uo1,uf1,io1,HD,M2,hk,hA,hK,hG,hy,Lg,E5⟩:=ux h hv (hk:iP m x H1 _=some r)
  refine⟨y,_,_,_,_,H2,HD,M2,hk,by simpa [bY]using hA,hK,⟨v,[],rfl,hy,rfl⟩,?_,?_⟩
  ·rw[dv,Lg];cases ni:m.dY<;>simp[c3,ni]
  ·rw[dv,E5]
 |m::n::ms,x::xs,v::vs,H1,Hq,M1,rd,uo,uf,io,hs,K,h,hv,hk=>by
  simp only[eE]at hv
  obtain⟨y,H2,Ie,uo1,uf1,io1,HD,M2,hk,hA,hK,hG,hy,Lg,E5⟩:=ux h hv.1 (hk:iP m x H1 _=some r)
  obtain⟨ys,pU,A9,Ba,yD,H3,Wq,M3,hk,hA',Wr,Sj,hi3,Xs⟩:=uy (ms:=n::ms) hA (eE.aV hK hG hv.2) hk
  refine⟨(y,ys),_,_,_,_,H3,Wq,M3,hk,by simpa [bY,bs]using hA',hK.trans Wr,⟨v,vs,rfl,?_,Sj⟩,?_,?_⟩
  ·refine A1.pA Wr (λb hb=>⟨rfl,hA'.hM b ?_⟩) hy
   exact bk _ (bF _ hb)
  ·rw[hi3,dv,Lg,bs]
   congr 1
   cases ni:m.dY<;>simp[c3,ni]
  ·rw[Xs,dv,E5,bs]
   congr 1
   cases m<;>simp[g6]
 |[],_::_,_,_,_,_,_,_,_,_,_,_,_,_,hk=>by simp[m4]at hk
 |[_],[],_,_,_,_,_,_,_,_,_,_,_,_,hk=>by simp[m4]at hk
 |[_],_::_::_,_,_,_,_,_,_,_,_,_,_,_,_,hk=>by simp[m4]at hk
 |_::_::_,[],_,_,_,_,_,_,_,_,_,_,_,_,hk=>by simp[m4]at hk
 |_,_::_,[],_,_,_,_,_,_,_,_,_,_,hv,_=>by simp[eE]at hv
 |[],[],_::_,_,_,_,_,_,_,_,_,_,_,hv,_=>by simp[eE]at hv
 |[_],[_],_::_::_,_,_,_,_,_,_,_,_,_,_,hv,_=>by simp[eE]at hv
theorem Mem.call{H:Nat→Option az}(h:Mem c H w M ν){hs:List Nat}{M0 M':Nat→Prop}{w':World}(hM: ∀b,M0 b→M b)(hhs: ∀b∈hs,M b)
  (iU: ∀b∈hs,∀i e,H i=some e→e.mut→cn (ν i)≠some b) (eZ: ∀b∈hs,c.B≤b∨c.may b) (ni: ∀b∈hs,c.M0 b→M' b) (L:Left w M0 hs w' M'):
  Mem c H w' (λb=>M' b∨(M b∧b∉hs)) ν∧cm w M w' (λb=>M' b∨(M b∧b∉hs)):=by
 have hk:cm w M w' (λb=>M' b∨(M b∧b∉hs)):=by
  refine⟨L.size,λb hb hm=>L.frame b hb (λhh=>hm (hhs b hh)),λb hb hm=> ?_⟩
  rcases hm with hm|hm
  ·exact(L.less b hb hm).elim (hM b) (hhs b)
  ·exact hm.1
 refine⟨⟨λi e hi=>(h.dH i e hi).aV hk λhm b hb=> ?_,h.qv,h.new,h.qp,iv h (λ_ _=>rfl) (λ_ h=>h) (λi τ x p j hi=> .inl ⟨hi,λb hb=> ?_⟩),λb hb=> ?_,λb hb=> ?_,λb hb hm=> ?_,ea h.size L.size,h.iT,L.os.trans h.os,L.tape.trans h.tape,L.output.trans h.output⟩,hk⟩
 ·have OQ:=(h.dH i e hi).lP hm hb
  have sx:b∉hs:=λhh=>iU b hh i e hi hm hb
  exact⟨L.frame b (h.qS b OQ) sx,.inr ⟨OQ,sx⟩⟩
 ·have po:cn (ν i)=some b:=by rw[hb];rfl
  have OQ:=(h.dH i _ hi).lP trivial po
  exact L.frame b (h.qS b OQ) (λhh=>iU b hh i _ hi trivial po)
 ·by_cases hh:b∈hs
  ·exact .inl (ni b hh hb)
  ·exact .inr ⟨h.sub b hb,hh⟩
 ·rcases hb with hb|hb
  ·exact L.qS b hb
  ·exact fP (h.qS b hb.1) L.size
 ·have sx:b∉hs:=λhh=>(eZ b hh).elim (λh'=>ω) hm
  rw[L.frame b (fP hb h.size) sx]
  exact h.frame b hb hm
theorem Mem.oD{H:Nat→Option az}(h:Mem c H w M ν){id:Nat}{v:Value}{e:az}(hid: ∀e',H id=some e'→ ¬e'.mut)(wX:ER w M v e)
  (hd: ∀b,cn v=some b→ ∀i e',H i=some e'→e'.mut→cn (ν i)≠some b) (hn: ∀b,cn v=some b→c.B≤b∨c.may b) (ho: ∀b e0 l0,e= .own e0 l0→cn v=some b→ ¬c.M0 b)
  (Tg:H id=none∨v=ν id)
  (k5: ∀τ x p j,e= .dj τ x p j→aC H id (some e) j≠none∧ ∃b,v= .pointer (some ⟨b,0,none⟩)∧w.cell? ⟨b,bb p τ,none⟩=some (updν ν id v j):=by intro _ _ _ _ h;cases h):
  Mem c (aC H id (some e)) w M (updν ν id v):=by
 have hν: ∀i,i≠id→updν ν id v i=ν i:=λi hi=>by simp[updν,hi]
 have hνs:updν ν id v id=v:=by simp[updν]
 refine⟨λi e1 hi=> ?_,λi k e1 e2 b1 jC hi fM hk kI=> ?_,λi e1 b1 hi fM=> ?_,λi e1 l1 b1 hi=> ?_,iv h (λi hi=> ?_) nH (λi τ x p j hi=> ?_),h.sub,h.qS,h.frame,h.size,h.iT,h.os,h.tape,h.output⟩
 ·by_cases aI:i=id
  ·subst aI;rw[ag]at hi;cases hi;rw[hνs];exact wX
  ·rw[aj _ _ aI]at hi;rw[hν i aI];exact h.dH i e1 hi
 ·by_cases aI:i=id
  ·subst aI;rw[hνs]
   have yG:k≠i:=cP jC
   rw[aj _ _ yG]at hk;rw[hν k yG]
   intro cg
   exact hd b1 cg k e2 hk kI
  ·rw[aj _ _ aI]at hi;rw[hν i aI]
   by_cases yG:k=id
   ·subst yG;rw[hνs]
    intro cg nI
    exact hd b1 nI i e1 hi fM cg
   ·rw[aj _ _ yG]at hk;rw[hν k yG];exact h.qv i k e1 e2 b1 jC hi fM hk kI
 ·by_cases aI:i=id
  ·subst aI;rw[hνs];exact hn b1
  ·rw[aj _ _ aI]at hi;rw[hν i aI];exact h.new i e1 b1 hi fM
 ·by_cases aI:i=id
  ·subst aI;rw[ag]at hi;cases hi;rw[hνs];exact ho b1 e1 l1 rfl
  ·rw[aj _ _ aI]at hi;rw[hν i aI];exact h.qp i e1 l1 b1 hi
 ·by_cases aI:i=id
  ·subst aI
   rcases Tg with Tg|Tg
   ·exact absurd Tg hi
   ·rw[hνs,Tg]
  ·exact hν i aI
 ·by_cases aI:i=id
  ·subst aI
   rw[ag]at hi
   cases hi
   obtain⟨h1,b,h2,h3⟩:=k5 _ _ _ _ rfl
   exact .inr ⟨h1,b,by rw[hνs];exact h2,h3⟩
  ·rw[aj _ _ aI]at hi
   exact .inl ⟨hi,λ_ _=>rfl⟩
theorem Gn{m:AM}{ms:List AM}(x:HP (m::ms))(id:Nat)(io:List (Nat×AM)):
  dG (m::ms) x id io=match m,jX x,io with
   | .io τ,y,(j,_)::io=>((dG ms (lM x) (id+1) io).1,(j,some (.obj τ y))::(dG ms (lM x) (id+1) io).2.1,(dG ms (lM x) (id+1) io).2.2)
   | .lo e,y,(j,_)::io=>((dG ms (lM x) (id+1) io).1,(j,some (.own e y))::(dG ms (lM x) (id+1) io).2.1,(dG ms (lM x) (id+1) io).2.2)
   |m,y,io=>((pf m y id).1::(dG ms (lM x) (id+1) io).1,(pf m y id).2++(dG ms (lM x) (id+1) io).2.1,(dG ms (lM x) (id+1) io).2.2):=by
 cases ms with
 |nil=>cases m<;>cases io<;>simp[dG,jX]
 |cons n ms=>cases m<;>cases io<;>simp[dG,jX,lM]
theorem eO{l1 l2:List Nat}{b:Nat}(h:(l1++l2).Nodup)(h1:b∈l1):b∉l2:=λh2=>(jh.1 h).2.2 b h1 b h2 rfl
theorem RR.xj: ∀{ms:List AM} {x:HP ms} {us ps:List Value},RR w M ms x us ps→ ∀p∈ps,∀b,cn p=some b→b∈aN ms us ps
 |[],_,_,_,h,p,hp,_,_=>by simp only[RR]at h;rw[h.2]at hp;simp at hp
 |m::ms,x,us,ps,h,p,hp,b,hb=>by
  simp only[RR]at h
  rcases h with⟨p',vU,h1,rfl,h2,h3⟩|⟨v,vu,h1,h2,rfl,h3,h4⟩
  ·simp only[aN,h1,ed,mX,mY,bt]
   rcases bu.1 hp with rfl|hp
   ·left
    cases m<;>simp[AM.dY]at h1<;>simp[bH,hb]
   ·exact .inr (RR.xj h3 p hp b hb)
  ·simp only[aN,h1,dJ,cU,mX,mY,bt]
   exact .inr (RR.xj h4 p hp b hb)
theorem gW{hs:List Nat}{sz:Nat}: ∀{ms:List AM} {x:HP ms} {us ps:List Value} {id:Nat} {io:List (Nat×AM)} {H:Nat→Option az} {ν:Nat→Value} {used:List Nat},
  Mem c H w M ν→RR w M ms x us ps→ps=io.map (λq=>ν q.1)→g6 ms=io.map (·.2)→(keys io).Nodup→(∀q∈io,H q.1=some .gone)→(∀i,id≤i→i<id+ms.length→H i=none)→
  (∀i e b,H i=some e→e.mut→cn (ν i)=some b→(b<sz∧b∉hs)∨b∈used)→(used++aN ms us ps).Nodup→(∀b∈aN ms us ps,sz≤b∨b∈hs)→
  (∀b∈aN ms us ps,(c.B≤b∨c.may b))→(∀b∈aN ms us ps,c.M0 b→ ∃p∈ps,cn p=some b)→
  (∀q∈io,∀e,q.2= .lo e→ ∀b,cn (ν q.1)=some b→ ¬c.M0 b)→
  ∃ν',Mem c (a8 H (dG ms x id io).2.1) w M ν'∧eE w M (a8 H (dG ms x id io).2.1) ν' (dG ms x id io).1 us∧(∀i,H i≠none→ν' i=ν i)∧
   (∀i,i∉keys io→(i<id∨id+ms.length≤i)→a8 H (dG ms x id io).2.1 i=H i)∧(∀i,id≤i→i<id+ms.length→ ∀e,a8 H (dG ms x id io).2.1 i=some e→(∃e0 l0,e= .own e0 l0)∨ ∃τ0 z0,e= .obj τ0 z0)∧
   (∀q∈io,Tc (a8 H (dG ms x id io).2.1) q)
 |[],x,us,ps,id,io,H,ν,used,hm,hr,yJ,pY,tB,qW,ei,hold,oO,iO,eZ,wW,oB=>by
  simp only[RR]at hr
  obtain⟨rfl,rfl⟩:=hr
  have ni:io=[]:=by
   cases io with
   |nil=>rfl
   |cons q io=>simp at yJ
  subst ni
  exact⟨ν,hm,by simp[dG,eE],λ_ _=>rfl,λ_ _ _=>rfl,λi h1 h2=>by simp at h2;omega,λq hq=>by simp at hq⟩
 |m::ms,x,us,ps,id,io,H,ν,used,hm,hr,yJ,pY,tB,qW,ei,hold,oO,iO,eZ,wW,oB=>by
  rw[Gn]
  simp only[RR]at hr
  rcases hr with⟨p,vU,xk,rfl,h1,h2⟩|⟨v,vu,xk,hmf,rfl,h1,h2⟩
  ·
   cases m with
   |io τ=>
    cases io with
    |nil=>simp at yJ
    |cons q io=>
     simp only[bQ,cM]at yJ
     obtain⟨rfl,rfl⟩:=yJ
     simp only[g6,bQ,cM]at pY
     obtain⟨Lh,Pg⟩:=pY
     simp only[keys,bQ,rV]at tB
     have Ir:aN (.io τ::ms) us (ν q.1::io.map λq=>ν q.1)=(cn (ν q.1)).toList++aN ms us (io.map λq=>ν q.1):=rfl
     rw[Ir]at oO iO eZ wW
     have qF:=qW q bl
     have qy:q.1<id∨id+(ms.length+1)≤q.1:=by
      rcases gq q.1 id with h'|h'
      ·exact .inl h'
      ·rcases gq q.1 (id+(ms.length+1))with Be|Be
       ·rw[ei q.1 h' Be]at qF;cases qF
       ·exact .inr Be
     simp only[A1]at h1
     have iV: ∀b,cn (ν q.1)=some b→ ∀i e',H i=some e'→e'.mut→cn (ν i)≠some b:=by
      intro b hb i e' hi eh bT
      have jl:b∈(cn (ν q.1)).toList++aN ms us (io.map λq=>ν q.1):=bk _ (by rw[hb];simp)
      rcases hold i e' b hi eh bT with⟨h3,h4⟩|h3
      ·exact(iO b jl).elim (λh'=>ω) h4
      ·exact eO oO h3 jl
     have kI:=Mem.oD (c:=c) hm (id:=q.1) (v:=ν q.1) (e:= .obj τ (jX x)) (λe' lO=>by rw[qF]at lO;cases lO;simp[az.mut]) h1 iV (λb hb=>eZ b (bk _ (by rw[hb];simp))) (λb e0 l0 he=>by cases he) (.inr rfl)
     have hνe:updν ν q.1 (ν q.1)=ν:=by funext i;unfold updν;split<;>simp_all
     rw[hνe]at kI
     have Ph: ∀(q':Nat×AM),q'∈io→q'.1≠q.1:=λq' kC e=>tB.1 (cN.2 ⟨q',kC,e⟩)
     obtain⟨ν',r1,r2,r3,r4,r5,r6⟩:=gW (ms:=ms) (x:=lM x) (us:=us) (ps:=io.map λq=>ν q.1) (id:=id+1) (io:=io) (used:=used++(cn (ν q.1)).toList) kI h2 rfl Pg tB.2
      (λq' kC=>by rw[aj _ _ (Ph q' kC)];exact qW q' (aR _ kC))
      (λi h3 h4=>by
       have:i≠q.1:=ω
       rw[aj _ _ this]
       exact ei i ω (by simp only[aG];omega))
      (λi e b hi eh hb=>by
       by_cases aI:i=q.1
       ·subst aI;exact .inr (bF _ (by rw[hb];simp))
       ·rw[aj _ _ aI]at hi
        exact(hold i e b hi eh hb).imp (λh=>h) (bk _))
      (by rw[bs];exact oO) (λb hb=>iO b (bF _ hb)) (λb hb=>eZ b (bF _ hb))
      (λb hb KI=>by
       obtain⟨p,hp,Li⟩:=wW b (bF _ hb) KI
       rcases bu.1 hp with rfl|hp
       ·exact absurd (eO (jh.1 oO).2.1 (b:=b) (by rw[Li];simp)) (by simpa using hb)
       ·exact⟨p,hp,Li⟩) (λq' kC=>oB q' (aR _ kC))
     refine⟨ν',r1,r2,λi hi=> ?_,λi h3 h4=> ?_,λi h3 h4 e he=> ?_,λq' kC=> ?_⟩
     ·exact r3 i (by
       by_cases aI:i=q.1
       ·subst aI;rw[ag];simp
       ·rw[aj _ _ aI];exact hi)
     ·simp only[keys,bQ,bu,not_or]at h3
      have:=r4 i h3.2 (by simp only[aG]at h4;omega)
      rw[aj _ _ h3.1]at this
      exact this
     ·by_cases h5:id+1≤i
      ·exact r5 i h5 (by simp only[aG]at h4;omega) e he
      ·have aI:i=id:=ω
       subst aI
       by_cases hk:i∈keys io
       ·obtain⟨q',kC,uz⟩:=cN.1 hk
        have h9:=qW q' (aR _ kC)
        rw[uz,ei i (aH _) (by simp)]at h9
        cases h9
       ·have:=r4 i hk (.inl ω)
        have eX:i≠q.1:=ω
        rw[aj _ _ eX,ei i (aH _) (by simp)]at this
        have he:a8 (aC H q.1 (some (az.obj τ (jX x)))) (dG ms (lM x) (i+1) io).2.1 i=some e:=he
        rw[this]at he;cases he
     ·rcases bu.1 kC with rfl|kC
      ·have:=r4 q'.1 tB.1 ω
       rw[ag]at this
       exact .inl ⟨τ,jX x,Lh.symm,this⟩
      ·exact r6 q' kC
   |lo τ=>
    cases io with
    |nil=>simp at yJ
    |cons q io=>
     simp only[bQ,cM]at yJ
     obtain⟨rfl,rfl⟩:=yJ
     simp only[g6,bQ,cM]at pY
     obtain⟨Lh,Pg⟩:=pY
     simp only[keys,bQ,rV]at tB
     have Ir:aN (.lo τ::ms) us (ν q.1::io.map λq=>ν q.1)=(cn (ν q.1)).toList++aN ms us (io.map λq=>ν q.1):=rfl
     rw[Ir]at oO iO eZ wW
     have qF:=qW q bl
     have qy:q.1<id∨id+(ms.length+1)≤q.1:=by
      rcases gq q.1 id with h'|h'
      ·exact .inl h'
      ·rcases gq q.1 (id+(ms.length+1))with Be|Be
       ·rw[ei q.1 h' Be]at qF;cases qF
       ·exact .inr Be
     simp only[A1]at h1
     have iV: ∀b,cn (ν q.1)=some b→ ∀i e',H i=some e'→e'.mut→cn (ν i)≠some b:=by
      intro b hb i e' hi eh bT
      have jl:b∈(cn (ν q.1)).toList++aN ms us (io.map λq=>ν q.1):=bk _ (by rw[hb];simp)
      rcases hold i e' b hi eh bT with⟨h3,h4⟩|h3
      ·exact(iO b jl).elim (λh'=>ω) h4
      ·exact eO oO h3 jl
     have kI:=Mem.oD (c:=c) hm (id:=q.1) (v:=ν q.1) (e:= .own τ (jX x)) (λe' lO=>by rw[qF]at lO;cases lO;simp[az.mut]) h1 iV (λb hb=>eZ b (bk _ (by rw[hb];simp))) (λb e0 l0 _ hb=>oB q bl τ Lh.symm b hb) (.inr rfl)
     have hνe:updν ν q.1 (ν q.1)=ν:=by funext i;unfold updν;split<;>simp_all
     rw[hνe]at kI
     have Ph: ∀(q':Nat×AM),q'∈io→q'.1≠q.1:=λq' kC e=>tB.1 (cN.2 ⟨q',kC,e⟩)
     obtain⟨ν',r1,r2,r3,r4,r5,r6⟩:=gW (ms:=ms) (x:=lM x) (us:=us) (ps:=io.map λq=>ν q.1) (id:=id+1) (io:=io) (used:=used++(cn (ν q.1)).toList) kI h2 rfl Pg tB.2
      (λq' kC=>by rw[aj _ _ (Ph q' kC)];exact qW q' (aR _ kC))
      (λi h3 h4=>by
       have:i≠q.1:=ω
       rw[aj _ _ this]
       exact ei i ω (by simp only[aG];omega))
      (λi e b hi eh hb=>by
       by_cases aI:i=q.1
       ·subst aI;exact .inr (bF _ (by rw[hb];simp))
       ·rw[aj _ _ aI]at hi
        exact(hold i e b hi eh hb).imp (λh=>h) (bk _))
      (by rw[bs];exact oO) (λb hb=>iO b (bF _ hb)) (λb hb=>eZ b (bF _ hb))
      (λb hb KI=>by
       obtain⟨p,hp,Li⟩:=wW b (bF _ hb) KI
       rcases bu.1 hp with rfl|hp
       ·exact absurd (eO (jh.1 oO).2.1 (b:=b) (by rw[Li];simp)) (by simpa using hb)
       ·exact⟨p,hp,Li⟩) (λq' kC=>oB q' (aR _ kC))
     refine⟨ν',r1,r2,λi hi=> ?_,λi h3 h4=> ?_,λi h3 h4 e he=> ?_,λq' kC=> ?_⟩
     ·exact r3 i (by
       by_cases aI:i=q.1
       ·subst aI;rw[ag];simp
       ·rw[aj _ _ aI];exact hi)
     ·simp only[keys,bQ,bu,not_or]at h3
      have:=r4 i h3.2 (by simp only[aG]at h4;omega)
      rw[aj _ _ h3.1]at this
      exact this
     ·by_cases h5:id+1≤i
      ·exact r5 i h5 (by simp only[aG]at h4;omega) e he
      ·have aI:i=id:=ω
       subst aI
       by_cases hk:i∈keys io
       ·obtain⟨q',kC,uz⟩:=cN.1 hk
        have h9:=qW q' (aR _ kC)
        rw[uz,ei i (aH _) (by simp)]at h9
        cases h9
       ·have:=r4 i hk (.inl ω)
        have eX:i≠q.1:=ω
        rw[aj _ _ eX,ei i (aH _) (by simp)]at this
        have he:a8 (aC H q.1 (some (az.own τ (jX x)))) (dG ms (lM x) (i+1) io).2.1 i=some e:=he
        rw[this]at he;cases he
     ·rcases bu.1 kC with rfl|kC
      ·have:=r4 q'.1 tB.1 ω
       rw[ag]at this
       exact .inr ⟨τ,jX x,Lh.symm,this⟩
      ·exact r6 q' kC
   |v τ=>simp[AM.dY]at xk
   |own τ=>simp[AM.dY]at xk
   |fn f τ=>simp[AM.dY]at xk
   |ptr τ=>simp[AM.dY]at xk
   |dQ τ=>simp[AM.dY]at xk
   |sp _ _ _=>simp[AM.dY]at xk
  ·
   have sG:H id=none:=ei id (aH _) (by simp)
   cases m with
   |io τ=>simp[AM.dY]at xk
   |lo τ=>simp[AM.dY]at xk
   |fn f τ=>simp[AM.Le]at hmf
   |dQ τ=>simp[AM.Le]at hmf
   |v τ=>
    have Ir:aN (.v τ::ms) (v::vu) ps=aN ms vu ps:=rfl
    rw[Ir]at oO iO eZ wW
    simp only[A1]at h1
    obtain⟨ν',r1,r2,r3,r4,r5,r6⟩:=gW (ms:=ms) (x:=lM x) (us:=vu) (ps:=ps) (id:=id+1) (io:=io) (used:=used) hm h2 yJ (by simpa [g6]using pY) tB qW (λi h3 h4=>ei i ω (by simp only[aG];omega)) hold oO iO eZ wW oB
    refine⟨ν',r1,?_,r3,λi h3 h4=>r4 i h3 (by simp only[aG]at h4;omega),λi h3 h4 e he=> ?_,r6⟩
    ·simp only[pf,eE,VR];exact⟨h1,r2⟩
    ·by_cases h5:id+1≤i
     ·exact r5 i h5 (by simp only[aG]at h4;omega) e he
     ·have aI:i=id:=ω
      subst aI
      by_cases hk:i∈keys io
      ·obtain⟨q',kC,uz⟩:=cN.1 hk
       have h9:=qW q' kC
       rw[uz,sG]at h9;cases h9
      ·have:=r4 i hk (.inl ω)
       rw[sG]at this
       have he:a8 H (dG ms (lM x) (i+1) io).2.1 i=some e:=he
       rw[this]at he;cases he
   |own τ=>
    have Ir:aN (.own τ::ms) (v::vu) ps=(cn v).toList++aN ms vu ps:=rfl
    rw[Ir]at oO iO eZ wW
    simp only[A1]at h1
    have iV: ∀b,cn v=some b→ ∀i e',H i=some e'→e'.mut→cn (ν i)≠some b:=by
     intro b hb i e' hi eh bT
     have jl:b∈(cn v).toList++aN ms vu ps:=bk _ (by rw[hb];simp)
     rcases hold i e' b hi eh bT with⟨h3,h4⟩|h3
     ·exact(iO b jl).elim (λh'=>ω) h4
     ·exact eO oO h3 jl
    have Is: ∀b,cn v=some b→ ¬c.M0 b:=by
     intro b hb h0
     have jl:b∈(cn v).toList:=by rw[hb];simp
     obtain⟨p,hp,Li⟩:=wW b (bk _ jl) h0
     exact eO (jh.1 oO).2.1 jl (RR.xj h2 p hp b Li)
    have kI:=Mem.oD (c:=c) hm (id:=id) (v:=v) (e:= .own τ (jX x)) (λe' lO=>by rw[sG]at lO;cases lO) h1 iV (λb hb=>eZ b (bk _ (by rw[hb];simp))) (λb e0 l0 _ hb=>Is b hb) (.inl sG)
    have qy: ∀q∈io,q.1≠id:=λq hq e=>by
     have h9:=qW q hq
     rw[e,sG]at h9;cases h9
    have hν2: ∀i,i≠id→updν ν id v i=ν i:=λi hi=>by simp[updν,hi]
    obtain⟨ν',r1,r2,r3,r4,r5,r6⟩:=gW (ms:=ms) (x:=lM x) (us:=vu) (ps:=ps) (id:=id+1) (io:=io) (used:=used++(cn v).toList) kI h2
     (by rw[yJ];exact gJ λq hq=>(hν2 _ (qy q hq)).symm) (by simpa [g6]using pY) tB
     (λq hq=>by rw[aj _ _ (qy q hq)];exact qW q hq)
     (λi h3 h4=>by rw[aj _ _ ω];exact ei i ω (by simp only[aG];omega))
     (λi e b hi eh hb=>by
      by_cases aI:i=id
      ·subst aI
       have:updν ν i v i=v:=by simp[updν]
       rw[this]at hb
       exact .inr (bF _ (by rw[hb];simp))
      ·rw[aj _ _ aI]at hi
       rw[hν2 i aI]at hb
       exact(hold i e b hi eh hb).imp (λh=>h) (bk _))
     (by rw[bs];exact oO) (λb hb=>iO b (bF _ hb)) (λb hb=>eZ b (bF _ hb)) (λb hb=>wW b (bF _ hb)) (λq hq e he b hb=>oB q hq e he b (by rw[hν2 _ (qy q hq)]at hb;exact hb))
    have It:id∉keys io:=λhk=>by
     obtain⟨q,hq,uz⟩:=cN.1 hk
     exact qy q hq uz
    have lK:a8 (aC H id (some (.own τ (jX x)))) (dG ms (lM x) (id+1) io).2.1 id=some (.own τ (jX x)):=by
     rw[r4 id It (.inl ω),ag]
    refine⟨ν',r1,?_,λi hi=> ?_,λi h3 h4=> ?_,λi h3 h4 e he=> ?_,r6⟩
    ·simp only[pf,eE,VR]
     refine⟨⟨?_,?_⟩,r2⟩
     ·show a8 (aC H id (some (.own τ (jX x)))) (dG ms (lM x) (id+1) io).2.1 id≠none
      rw[lK];simp
     ·rw[r3 id (by rw[ag];simp)];simp[updν]
    ·have aI:i≠id:=λe=>hi (e▸sG)
     rw[r3 i (by rw[aj _ _ aI];exact hi),hν2 i aI]
    ·have aI:i≠id:=by simp only[aG]at h4;omega
     have:=r4 i h3 (by simp only[aG]at h4;omega)
     rw[aj _ _ aI]at this
     exact this
    ·by_cases h5:id+1≤i
     ·exact r5 i h5 (by simp only[aG]at h4;omega) e he
     ·have aI:i=id:=ω
      subst aI
      have he:a8 (aC H i (some (.own τ (jX x)))) (dG ms (lM x) (i+1) io).2.1 i=some e:=he
      rw[lK]at he;cases he
      exact .inl ⟨τ,_,rfl⟩
   |sp τ n e=>
    simp only[A1]at h1
    obtain⟨cs,eH,u,l,z,hv,hq,E4,mL,hu,k9⟩:=h1
    obtain⟨x1,Am,_,Xt,hz⟩:=w6 k9
    cases Am
    obtain⟨z0,HA,Sn⟩:=hz []
    have Xf:Rd w M τ (ca eH (de τ n) [.slice none 0 0]) z0:=by
     obtain⟨υ,y,o,k',hf,fM,tf⟩:=fB (Sn _ some)
     obtain⟨rfl,rfl⟩:=hf.eq
     obtain⟨e1,rq⟩:=aE fM
     obtain⟨x',mu,_,fg⟩:=tf _ _ rq
     cases mu
     refine fg w M eH _ E4 ?_
     have Gp:Rd w M (.slice e) [.slice none 0 0] []:=by
      simp only[Rd]
      exact⟨none,0,rfl,aH _,λi hi=>by simp at hi⟩
     exact Gp.SY _
    have Ga:pf (.sp τ n e) (jX x) id=(.yM τ z0 n id,[(id,some (.own e l))]):=by
     simp only[pf]
     rw[Xt,HA]
    show ∃ν',Mem c (a8 H ((pf (.sp τ n e) (jX x) id).2++(dG ms (lM x) (id+1) io).2.1)) w M ν'∧eE w M (a8 H ((pf (.sp τ n e) (jX x) id).2++(dG ms (lM x) (id+1) io).2.1)) ν' ((pf (.sp τ n e) (jX x) id).1::(dG ms (lM x) (id+1) io).1) (v::vu)∧(∀i,H i≠none→ν' i=ν i)∧
     (∀i,i∉keys io→(i<id∨id+(AM.sp τ n e::ms).length≤i)→a8 H ((pf (.sp τ n e) (jX x) id).2++(dG ms (lM x) (id+1) io).2.1) i=H i)∧(∀i,id≤i→i<id+(AM.sp τ n e::ms).length→ ∀e9,a8 H ((pf (.sp τ n e) (jX x) id).2++(dG ms (lM x) (id+1) io).2.1) i=some e9→(∃e0 l0,e9= .own e0 l0)∨ ∃τ0 z0,e9= .obj τ0 z0)∧
     (∀q∈io,Tc (a8 H ((pf (.sp τ n e) (jX x) id).2++(dG ms (lM x) (id+1) io).2.1)) q)
    rw[Ga]
    have Ir:aN (.sp τ n e::ms) (v::vu) ps=(cn u).toList++aN ms vu ps:=by
     show bH (.sp τ n e) v++aN ms vu ps=_
     rw[hv,(p5 hq E4 mL).1]
    rw[Ir]at oO iO eZ wW
    have iV: ∀b,cn u=some b→ ∀i e',H i=some e'→e'.mut→cn (ν i)≠some b:=by
     intro b hb i e' hi eh bT
     have jl:b∈(cn u).toList++aN ms vu ps:=bk _ (by rw[hb];simp)
     rcases hold i e' b hi eh bT with⟨h3,h4⟩|h3
     ·exact(iO b jl).elim (λh'=>ω) h4
     ·exact eO oO h3 jl
    have Is: ∀b,cn u=some b→ ¬c.M0 b:=by
     intro b hb h0
     have jl:b∈(cn u).toList:=by rw[hb];simp
     obtain⟨p,hp,Li⟩:=wW b (bk _ jl) h0
     exact eO (jh.1 oO).2.1 jl (RR.xj h2 p hp b Li)
    have kI:=Mem.oD (c:=c) hm (id:=id) (v:=u) (e:= .own e l) (λe' lO=>by rw[sG]at lO;cases lO) hu iV (λb hb=>eZ b (bk _ (by rw[hb];simp))) (λb e0 l0 _ hb=>Is b hb) (.inl sG)
    have qy: ∀q∈io,q.1≠id:=λq hq e=>by
     have h9:=qW q hq
     rw[e,sG]at h9;cases h9
    have hν2: ∀i,i≠id→updν ν id u i=ν i:=λi hi=>by simp[updν,hi]
    obtain⟨ν',r1,r2,r3,r4,r5,r6⟩:=gW (ms:=ms) (x:=lM x) (us:=vu) (ps:=ps) (id:=id+1) (io:=io) (used:=used++(cn u).toList) kI h2
     (by rw[yJ];exact gJ λq hq=>(hν2 _ (qy q hq)).symm) (by simpa [g6]using pY) tB
     (λq hq=>by rw[aj _ _ (qy q hq)];exact qW q hq)
     (λi h3 h4=>by rw[aj _ _ ω];exact ei i ω (by simp only[aG];omega))
     (λi e9 b hi eh hb=>by
      by_cases aI:i=id
      ·subst aI
       have:updν ν i u i=u:=by simp[updν]
       rw[this]at hb
       exact .inr (bF _ (by rw[hb];simp))
      ·rw[aj _ _ aI]at hi
       rw[hν2 i aI]at hb
       exact(hold i e9 b hi eh hb).imp (λh=>h) (bk _))
     (by rw[bs];exact oO) (λb hb=>iO b (bF _ hb)) (λb hb=>eZ b (bF _ hb)) (λb hb=>wW b (bF _ hb)) (λq hq e he b hb=>oB q hq e he b (by rw[hν2 _ (qy q hq)]at hb;exact hb))
    have It:id∉keys io:=λhk=>by
     obtain⟨q,hq,uz⟩:=cN.1 hk
     exact qy q hq uz
    have lK:a8 (aC H id (some (.own e l))) (dG ms (lM x) (id+1) io).2.1 id=some (.own e l):=by
     rw[r4 id It (.inl ω),ag]
    refine⟨ν',r1,?_,λi hi=> ?_,λi h3 h4=> ?_,λi h3 h4 e9 he=> ?_,r6⟩
    ·simp only[eE,VR]
     refine⟨⟨cs,ca eH (de τ n) [.slice none 0 0],hv,Xf,?_,?_,hq⟩,r2⟩
     ·rw[r3 id (by rw[ag];simp),nc (p5 (e:=e) hq E4 mL).2,mL];simp[updν]
     ·show a8 (aC H id (some (.own e l))) (dG ms (lM x) (id+1) io).2.1 id≠none
      rw[lK];simp
    ·have aI:i≠id:=λe=>hi (e▸sG)
     rw[r3 i (by rw[aj _ _ aI];exact hi),hν2 i aI]
    ·have aI:i≠id:=by simp only[aG]at h4;omega
     have:=r4 i h3 (by simp only[aG]at h4;omega)
     rw[aj _ _ aI]at this
     exact this
    ·by_cases h5:id+1≤i
     ·exact r5 i h5 (by simp only[aG]at h4;omega) e9 he
     ·have aI:i=id:=ω
      subst aI
      have he:a8 (aC H i (some (.own e l))) (dG ms (lM x) (i+1) io).2.1 i=some e9:=he
      rw[lK]at he;cases he
      exact .inl ⟨e,_,rfl⟩
   |ptr τ=>
    have Ir:aN (.ptr τ::ms) (v::vu) ps=(cn v).toList++aN ms vu ps:=rfl
    rw[Ir]at oO iO eZ wW
    simp only[A1]at h1
    have iV: ∀b,cn v=some b→ ∀i e',H i=some e'→e'.mut→cn (ν i)≠some b:=by
     intro b hb i e' hi eh bT
     have jl:b∈(cn v).toList++aN ms vu ps:=bk _ (by rw[hb];simp)
     rcases hold i e' b hi eh bT with⟨h3,h4⟩|h3
     ·exact(iO b jl).elim (λh'=>ω) h4
     ·exact eO oO h3 jl
    have kI:=Mem.oD (c:=c) hm (id:=id) (v:=v) (e:= .obj τ (jX x)) (λe' lO=>by rw[sG]at lO;cases lO) h1 iV (λb hb=>eZ b (bk _ (by rw[hb];simp))) (λb e0 l0 he _=>by cases he) (.inl sG)
    have qy: ∀q∈io,q.1≠id:=λq hq e=>by
     have h9:=qW q hq
     rw[e,sG]at h9;cases h9
    have hν2: ∀i,i≠id→updν ν id v i=ν i:=λi hi=>by simp[updν,hi]
    obtain⟨ν',r1,r2,r3,r4,r5,r6⟩:=gW (ms:=ms) (x:=lM x) (us:=vu) (ps:=ps) (id:=id+1) (io:=io) (used:=used++(cn v).toList) kI h2
     (by rw[yJ];exact gJ λq hq=>(hν2 _ (qy q hq)).symm) (by simpa [g6]using pY) tB
     (λq hq=>by rw[aj _ _ (qy q hq)];exact qW q hq)
     (λi h3 h4=>by rw[aj _ _ ω];exact ei i ω (by simp only[aG];omega))
     (λi e b hi eh hb=>by
      by_cases aI:i=id
      ·subst aI
       have:updν ν i v i=v:=by simp[updν]
       rw[this]at hb
       exact .inr (bF _ (by rw[hb];simp))
      ·rw[aj _ _ aI]at hi
       rw[hν2 i aI]at hb
       exact(hold i e b hi eh hb).imp (λh=>h) (bk _))
     (by rw[bs];exact oO) (λb hb=>iO b (bF _ hb)) (λb hb=>eZ b (bF _ hb)) (λb hb=>wW b (bF _ hb)) (λq hq e he b hb=>oB q hq e he b (by rw[hν2 _ (qy q hq)]at hb;exact hb))
    have It:id∉keys io:=λhk=>by
     obtain⟨q,hq,uz⟩:=cN.1 hk
     exact qy q hq uz
    have lK:a8 (aC H id (some (.obj τ (jX x)))) (dG ms (lM x) (id+1) io).2.1 id=some (.obj τ (jX x)):=by
     rw[r4 id It (.inl ω),ag]
    refine⟨ν',r1,?_,λi hi=> ?_,λi h3 h4=> ?_,λi h3 h4 e he=> ?_,r6⟩
    ·simp only[pf,eE,VR]
     refine⟨⟨_,lK,trivial,?_⟩,r2⟩
     simp only[A1,ER]at h1
     obtain⟨b,cs,t,Iq,_⟩:=h1
     exact⟨b,by rw[r3 id (by rw[ag];simp)];simp[updν,Iq],Iq⟩
    ·have aI:i≠id:=λe=>hi (e▸sG)
     rw[r3 i (by rw[aj _ _ aI];exact hi),hν2 i aI]
    ·have aI:i≠id:=by simp only[aG]at h4;omega
     have:=r4 i h3 (by simp only[aG]at h4;omega)
     rw[aj _ _ aI]at this
     exact this
    ·by_cases h5:id+1≤i
     ·exact r5 i h5 (by simp only[aG]at h4;omega) e he
     ·have aI:i=id:=ω
      subst aI
      have he:a8 (aC H i (some (.obj τ (jX x)))) (dG ms (lM x) (i+1) io).2.1 i=some e:=he
      rw[lK]at he;cases he
      exact .inr ⟨τ,_,rfl⟩
end VM
end
