/- A part of the proof of BookTurned of layer 18: a machine that reads a function of the program as an equation between values. -/
import Derived.Test.YthkjjlcblhbifaaGreatVm3
set_option linter.all false
section
namespace VM
open Go
variable{P:Program}{E:Env}{o:Oper}{a:Act}{w:World}{M:Nat→Prop}{ν:Nat→Value}{σ:St}{c:Ctx}{α:Type}{r:α}{next:Act→World→Prop}{Q:Exit→Act→World→Prop}
def q4:{m:AM}→{ms:List AM}→HP (m::ms)→m.den
 |_,[],x=>x
 |_,_::_,x=>x.1
def ui:{m:AM}→{ms:List AM}→HP (m::ms)→HP ms
 |_,[],_=>()
 |_,_::_,x=>x.2
def AM.iU:AM→Bool
 | .io _| .lo _=>true
 |_=>false
def AM.acn:AM→Bool
 | .fn _ _| .jf _=>true
 |_=>false
def A1(w:World)(M:Nat→Prop):(m:AM)→m.den→Value→Prop
 | .v τ,x,v=>V w M τ v x
 | .own e,x,v=>ER w M v (.own e x)
 | .io τ,x,v=>ER w M v (.obj τ x)
 | .fn f τ,x,v=>VR w M (λ_=>none) (λ_=>undef) (.N7 f (qP τ x)) v
 | .ptr τ,x,v=>ER w M v (.obj τ x)
 | .jf τ,x,v=>VR w M (λ_=>none) (λ_=>undef) (.sd τ x) v
 | .lo e,x,v=>ER w M v (.own e x)
 | .sp τ n e,x,v=> ∃(cs:Array Value) (kf:List Value) (u:Value) (l:List e.den) (z:τ.den),v= .agg cs∧vz τ n=true∧Rd w M τ kf z∧cs.toList=eQ kf (gy τ n) [u]∧ER w M u (.own e l)∧
  fZ τ z n (fun υ' _ k'=>cR (.slice e) υ' l k') some=some x
def apf(n:Nat):Value→Option Value
 | .agg cs=>cs.toList[n]?
 |_=>none
def kE(w:World)(M:Nat→Prop):(ms:List AM)→HP ms→List Value→Prop
 |[],_,vs=>vs=[]
 |_::ms,x,vs=> ∃v NC,vs=v::NC∧A1 w M _ (q4 x) v∧kE w M ms (ui x) NC
def dA:AM→Value→List Nat
 | .own _,v| .io _,v| .ptr _,v| .lo _,v=>(fD v).toList
 | .sp τ n _,v=>((apf (gy τ n) v).bind fD).toList
 |_,_=>[]
theorem yS{τ:Ty}{n:Nat}{e:Ty}{cs:Array Value}{kf:List Value}{u:Value}{z:τ.den}(hq:vz τ n=true)(hr:Rd w M τ kf z)(uh:cs.toList=eQ kf (gy τ n) [u]):dA (.sp τ n e) (.agg cs)=(fD u).toList∧gy τ n<kf.length:=by
 obtain⟨e',_,hf⟩:=zU hq
 obtain⟨y,o,FH⟩:=kZ hf z
 have hb:=FH.bound
 have ho:=FH.eq.2
 subst ho
 rw[show(Ty.slice e').size=1 from rfl]at hb
 have hl:=hr.length
 have eU:gy τ n<kf.length:=ω
 refine⟨?_,eU⟩
 show((cs.toList[gy τ n]?).bind fD).toList=_
 rw[uh,yM eU];rfl
def eF:List AM→List Value→List Nat
 |m::ms,v::vs=>dA m v++eF ms vs
 |_,_=>[]
def fQ:List AM→List Value→List Value
 |m::ms,v::vs=>if m.iU then v::fQ ms vs else fQ ms vs
 |_,_=>[]
def nF:List AM→List AM
 | .io τ::ms=> .io τ::nF ms
 | .lo e::ms=> .lo e::nF ms
 |_::ms=>nF ms
 |[]=>[]
def RR(w:World)(M:Nat→Prop):(ms:List AM)→HP ms→List Value→List Value→Prop
 |[],_,vs,ps=>vs=[]∧ps=[]
 |m::ms,x,vs,ps=>(∃p Jp,m.iU=true∧ps=p::Jp∧A1 w M m (q4 x) p∧RR w M ms (ui x) vs Jp)∨
  (∃v NC,m.iU=false∧m.acn=false∧vs=v::NC∧A1 w M m (q4 x) v∧RR w M ms (ui x) NC ps)
def bK:List AM→List Value→List Value→List Nat
 |[],_,_=>[]
 |m::ms,vs,ps=>if m.iU then dA m (ps.headD undef)++bK ms vs ps.tail else dA m (vs.headD undef)++bK ms vs.tail ps
def Ty.flat:Ty→Bool
 | .slice _=>false
 | .pair a b=>a.flat&&b.flat
 | .arr _ e=>e.flat
 |_=>true
def AM.flat:AM→Bool
 | .v τ| .io τ| .own τ| .ptr τ| .lo τ=>τ.flat
 | .fn _ _| .jf _| .sp _ _ _=>false
def xL(vs:List Value):Value:=if h:vs.length=1 then vs[0]else .tuple vs.toArray
structure Left(w:World)(M0:Nat→Prop)(hs:List Nat)(w':World)(M':Nat→Prop):Prop where
 sub: ∀b,M0 b→M' b
 GI: ∀b,M' b→b<w'.heap.size
 less: ∀b,b<w.heap.size→M' b→M0 b∨b∈hs
 frame: ∀b,b<w.heap.size→b∉hs→w'.heap[b]? =w.heap[b]?
 size:w.heap.size≤w'.heap.size
 os:w'.os=w.os
 tape:w'.tape=w.tape
 output:w'.output=w.output
def Oz(P:Program)(f:FuncId)(args:Array Value)(w:World)(R:Value→World→Prop):Prop:=
 ∀(o:Oper) (a:Act) (next:Act→World→Prop) (Q:Exit→Act→World→Prop),(∀v w',R v w'→next (a.put o.dst v) w')→o.upon P a next Q ((callFunc f args).run P w)
theorem Oz.mono{f:FuncId}{args:Array Value}{R R':Value→World→Prop}(h:Oz P f args w R)(hr: ∀v w',R v w'→R' v w'):Oz P f args w R':=
 λo a next Q hn=>h o a next Q λv w' hv=>hn v w' (hr v w' hv)
theorem uj{f:FuncId}{fn:Func}{args:Array Value}{R:Value→World→Prop}(hf:P.funcs[f]? =some fn)(hn:(fn.name== "runtime.NumGoroutine")=false)(hb:fn.body.isNone=false)
  (h:Calls P f args w λe w'=> ∃v,e= .returned v∧R v w'):Oz P f args w R:=by
 intro o a next Q wH
 have hn': ¬fn.name= "runtime.NumGoroutine" :=by simpa using hn
 have fb: ¬fn.body=none:=λe=>by rw[e]at hb;cases hb
 have:(callFunc f args).run P w= .ok (.enter f args) w:=by simp[callFunc,hf,hn',fb]
 rw[this,Oper.upon_enter]
 refine Calls.mono h ?_
 rintro e w' ⟨v,rfl,hR⟩
 exact wH v w' hR
theorem JK{f:FuncId}{args:Array Value}{R:Value→World→Prop}{v:Value}{w':World}(h:(callFunc f args).run P w= .ok (.value v) w')(hR:R v w'):Oz P f args w R:=by
 intro o a next Q wH
 rw[h,Oper.upon_value]
 exact wH v w' hR
structure jw(P:Program)(f:FuncId)(S:nf):Prop where
 quiet:S.quiet=true→S.res.all AM.flat=true
 ios:nF S.args=nF S.res
 call: ∀(M0:Nat→Prop) (w:World) (vs:List Value) (x:HP S.args) (y:HP S.res),(∀b,M0 b→b<w.heap.size)→
  kE w (λb=>M0 b∨b∈eF S.args vs) S.args x vs→(eF S.args vs).Nodup→(∀b∈eF S.args vs,¬M0 b)→S.run x=some y→
  Oz P f vs.toArray w λv w'=> ∃us M',v=xL us∧RR w' M' S.res y us (fQ S.args vs)∧Left w M0 (eF S.args vs) w' M'∧
   (bK S.res us (fQ S.args vs)).Nodup∧ ∀b∈bK S.res us (fQ S.args vs),¬M0 b
theorem Rd.flat{w:World}{M M':Nat→Prop}: ∀{τ:Ty} {cs:List Value} {x:τ.den},τ.flat=true→Rd w M τ cs x→Rd w M' τ cs x
 | .int _,_,_,_,h| .bool,_,_,_,h| .str,_,_,_,h| .unit,_,_,_,h=>h
 | .slice _,_,_,hf,_=>by simp[Ty.flat]at hf
 | .pair a b,_,_,hf,h=>by
  simp only[Ty.flat,bQ]at hf
  simp only[Rd]at h ⊢
  obtain⟨c1,c2,rfl,h1,h2⟩:=h
  exact⟨c1,c2,rfl,h1.flat hf.1,h2.flat hf.2⟩
 | .arr n e,_,x,hf,h=>by
  simp only[Ty.flat]at hf
  simp only[Rd]at h ⊢
  obtain⟨hn,Vt,hc,rfl,hr⟩:=h
  exact⟨hn,Vt,hc,rfl,λi hi oj=>(hr i hi oj).flat hf⟩
theorem A1.flat{w:World}{M M':Nat→Prop}(hM: ∀b,M b→M' b){m:AM}{x:m.den}{v:Value}(hf:m.flat=true)(h:A1 w M m x v):A1 w M' m x v:=by
 cases m with
 |v τ=>
  simp only[A1,V,AM.flat]at h hf ⊢
  split
  ·rename_i ha;rw[ak ha]at h;obtain⟨cs,h1,h⟩:=h;exact⟨cs,h1,h.flat hf⟩
  ·rename_i ha;rw[ag ha]at h;exact h.flat hf
 |own e=>
  simp only[A1,ER,AM.flat]at h hf ⊢
  rcases h with h|⟨b,cs,t,cap,h1,h2,h3,h4,h5,h6,h7,h8⟩
  ·exact .inl h
  ·exact .inr ⟨b,cs,t,cap,h1,h2,hM b h3,h4,h5,h6,h7,λi hi=>(h8 i hi).flat hf⟩
 |io τ=>
  simp only[A1,ER,AM.flat]at h hf ⊢
  obtain⟨b,cs,t,h1,h2,h3,h4⟩:=h
  exact⟨b,cs,t,h1,h2,hM b h3,h4.flat hf⟩
 |fn f τ=>simp[AM.flat]at hf
 |jf τ=>simp[AM.flat]at hf
 |sp τ n e=>simp[AM.flat]at hf
 |lo e=>
  simp only[A1,ER,AM.flat]at h hf ⊢
  rcases h with h|⟨b,cs,t,cap,h1,h2,h3,h4,h5,h6,h7,h8⟩
  ·exact .inl h
  ·exact .inr ⟨b,cs,t,cap,h1,h2,hM b h3,h4,h5,h6,h7,λi hi=>(h8 i hi).flat hf⟩
 |ptr τ=>
  simp only[A1,ER,AM.flat]at h hf ⊢
  obtain⟨b,cs,t,h1,h2,h3,h4⟩:=h
  exact⟨b,cs,t,h1,h2,hM b h3,h4.flat hf⟩
theorem RR.flat{w:World}{M M':Nat→Prop}(hM: ∀b,M b→M' b): ∀{ms:List AM} {x:HP ms} {vs ps:List Value},ms.all AM.flat=true→RR w M ms x vs ps→RR w M' ms x vs ps
 |[],_,_,_,_,h=>h
 |m::ms,x,vs,ps,hf,h=>by
  simp only[xm,bQ]at hf
  simp only[RR]at h ⊢
  rcases h with⟨p,Jp,h1,h2,h3,h4⟩|⟨v,NC,h1,h2,h3,h4,h5⟩
  ·exact .inl ⟨p,Jp,h1,h2,h3.flat hM hf.1,RR.flat hM hf.2 h4⟩
  ·exact .inr ⟨v,NC,h1,h2,h3,h4.flat hM hf.1,RR.flat hM hf.2 h5⟩
theorem A1.xM{w w':World}{M M':Nat→Prop}(k:fP w M w' M'){m:AM}{x:m.den}{v:Value}(hm: ∀b∈dA m v,w'.heap[b]? =w.heap[b]? ∧M' b)(h:A1 w M m x v):A1 w' M' m x v:=by
 cases m with
 |v τ=>exact V.ch k h
 |own e=>
  simp only[A1]at h ⊢
  exact ER.ch k (λ_ b hb=>hm b (by simp[dA,hb])) h
 |io τ=>
  simp only[A1]at h ⊢
  exact ER.ch k (λ_ b hb=>hm b (by simp[dA,hb])) h
 |fn f τ=>exact VR.ch k (.refl _ _) h
 |jf τ=>exact VR.ch k (.refl _ _) h
 |sp τ n e=>
  simp only[A1]at h ⊢
  obtain⟨cs,kf,u,l,z,rfl,hq,hr,uh,hu,hs⟩:=h
  exact⟨cs,kf,u,l,z,rfl,hq,hr.ch k,uh,ER.ch k (λ_ b hb=>hm b (by rw[(yS hq hr uh).1];simp[hb])) hu,hs⟩
 |lo e=>
  simp only[A1]at h ⊢
  exact ER.ch k (λ_ b hb=>hm b (by simp[dA,hb])) h
 |ptr τ=>
  simp only[A1]at h ⊢
  exact ER.ch k (λ_ b hb=>hm b (by simp[dA,hb])) h
theorem kE.xM{w w':World}{M M':Nat→Prop}(k:fP w M w' M'): ∀{ms:List AM} {x:HP ms} {vs:List Value},(∀b∈eF ms vs,w'.heap[b]? =w.heap[b]? ∧M' b)→kE w M ms x vs→kE w' M' ms x vs
 |[],_,_,_,h=>h
 |m::ms,x,vs,hm,h=>by
  simp only[kE]at h ⊢
  obtain⟨v,NC,rfl,h1,h2⟩:=h
  exact⟨v,NC,rfl,h1.xM k (λb hb=>hm b (by simp[eF,hb])),kE.xM k (λb hb=>hm b (by simp[eF,hb])) h2⟩
theorem RR.xM{w w':World}{M M':Nat→Prop}(k:fP w M w' M'): ∀{ms:List AM} {x:HP ms} {us ps:List Value},(∀b∈bK ms us ps,w'.heap[b]? =w.heap[b]? ∧M' b)→RR w M ms x us ps→RR w' M' ms x us ps
 |[],_,_,_,_,h=>h
 |m::ms,x,us,ps,hm,h=>by
  simp only[RR]at h ⊢
  rcases h with⟨p,Jp,h1,rfl,h2,h3⟩|⟨v,E5,h1,h2,rfl,h3,h4⟩
  ·simp only[bK,h1,ib,uB,uE,bn]at hm
   exact .inl ⟨p,Jp,h1,rfl,h2.xM k (λb hb=>hm b (.inl hb)),RR.xM k (λb hb=>hm b (.inr hb)) h3⟩
  ·simp only[bK,h1,jN,fI,uB,uE,bn]at hm
   exact .inr ⟨v,E5,h1,h2,rfl,h3.xM k (λb hb=>hm b (.inl hb)),RR.xM k (λb hb=>hm b (.inr hb)) h4⟩
theorem FK{H:Nat→Option br}(hm:Mem c H w M ν){a:bG}{v:Value}(hv:VR w M H ν a v){τ:Ty}{k:τ.den→List Nat→js→Option α}{r:α}(h:nc true a H τ k=some r):
  ∃y rd ups,k y rd ups=some r∧((ups=[]∧V w M τ v y)∨ ∃id e l,ups=[(id,some (.pG e l))]∧H id=some (.own e l)∧
   ∀M',(∀b,M' b↔(M b∧fD (ν id)≠some b))→V w M' τ v y):=by
 unfold nc at h
 split at h
 ·obtain⟨e,h⟩:=bA h
  subst e
  simp only[VR]at hv
  exact⟨_,[],[],h,.inl ⟨rfl,hv⟩⟩
 ·obtain⟨e,h⟩:=bA h
  subst e
  simp only[VR]at hv
  exact⟨_,[],[],h,.inl ⟨rfl,hv.1⟩⟩
 ·split at h
  ·rename_i e k' _
   simp only[VR]at hv
   obtain⟨a,rfl⟩:=hv
   refine⟨[],[],[],h,.inl ⟨rfl,V.slice.2 ?_⟩⟩
   simp only[Rd]
   exact⟨a,0,rfl,aH _,λi hi=>absurd hi (by simp)⟩
  ·cases h
 ·rename_i id
  simp only[VR]at hv
  obtain⟨_,rfl⟩:=hv
  split at h
  ·rename_i e l bl
   obtain⟨e',h⟩:=bA h
   subst e'
   refine⟨_,_,_,h,.inr ⟨id,e,l,rfl,bl,λM' hM'=> ?_⟩⟩
   obtain⟨M2,_,hV,LR⟩:=Tr.freeze hm bl
   have:M'=M2:=by funext b;exact propext ((hM' b).trans (LR b).symm)
   rw[this];exact hV
  ·rename_i e l bl
   obtain⟨e',h⟩:=bA h
   subst e'
   have:=hm.jQ id _ bl
   simp only[ER]at this
   exact⟨_,_,_,h,.inl ⟨rfl,V.slice.2 this.1⟩⟩
  ·cases h
 ·cases h
theorem Yz{H:Nat→Option br}(hm:Mem c H w M ν): ∀{a:Ty} {x:bG} {v:Value} {k:a.den→List Nat→js→Option α} {r:α},VR w M H ν x v→DM x H a k=some r→
  ∃y rd ups,k y rd ups=some r∧(ups=[]→VR w M (λ_=>none) (λ_=>undef) (DN a y) v):=by
 intro a x v k r hv h
 unfold DM at h
 split at h
 ·rename_i a k
  split at h
  ·rename_i υ z
   obtain⟨e1,h⟩:=bA h
   subst e1
   refine⟨_,_,_,h,λ_=> ?_⟩
   simp only[DN,VR]at hv ⊢
   exact hv
  ·cases h
 ·rename_i k0 qy
  obtain⟨y,rd,ups,h,hy⟩:=FK hm hv h
  refine⟨y,rd,ups,h,λhu=> ?_⟩
  rcases hy with⟨_,hy⟩|⟨_,_,_,h3,_⟩
  ·have:DN _ y= .val _ y:=by
    unfold DN
    split
    ·exact(qy _ _ rfl HEq.rfl).elim
    ·rfl
   rw[this]
   simp only[VR];exact hy
  ·rw[hu]at h3;cases h3
theorem G6{H:Nat→Option br}(hm:Mem c H w M ν): ∀{τ:Ty} {qX:List bG} {vs:List Value} {k:τ.den→List Nat→js→Option α} {r:α},jP w M H ν qX vs→sf H τ qX k=some r→
  ∃x rd ups,k x rd ups=some r∧(ups=[]→jP w M (λ_=>none) (λ_=>undef) (qP τ x) vs)
 | .unit,[],[],k,r,_,h=>⟨(),[],[],h,λ_=>by simp[qP,jP]⟩
 | .pair a b,x::xs,v::vs,k,r,hv,h=>by
  simp only[jP]at hv
  unfold sf at h
  obtain⟨y,rd,ups,h,hy⟩:=Yz hm hv.1 h
  obtain⟨ys,yK,ju,h,hys⟩:=G6 hm hv.2 h
  refine⟨(y,ys),_,_,h,λhu=> ?_⟩
  have h1:ups=[]:=(NZ.1 hu).1
  have h2:ju=[]:=(NZ.1 hu).2
  simp only[qP,jP]
  exact⟨hy h1,hys h2⟩
 | .unit,[],_::_,_,_,hv,_=>by simp[jP]at hv
 |_,_::_,[],_,_,hv,_=>by simp[jP]at hv
 | .unit,_::_,_,_,_,_,h=>by simp[sf]at h
 | .pair _ _,[],_,_,_,_,h=>by simp[sf]at h
 | .int _,_,_,_,_,_,h| .bool,_,_,_,_,_,h| .str,_,_,_,_,_,h| .slice _,_,_,_,_,_,h| .arr _ _,_,_,_,_,_,h=>by simp[sf]at h
def keys{β:Type}(l:List (Nat×β)):List Nat:=l.map (·.1)
theorem mG{i:Nat}: ∀{ups:js} {H:Nat→Option br},i∉keys ups→cU H ups i=H i
 |[],_,_=>rfl
 |u::r,H,h=>by
  simp only[keys,ca,bh,not_or]at h
  show cU (cm H u.1 u.2) r i=_
  rw[mG h.2,az _ _ h.1]
theorem Bz(u:Nat×Option br)(b:js)(hb:u.1∉keys b): ∀(a:js) (H:Nat→Option br),cU H (a++u::b)=cm (cU H (a++b)) u.1 u.2
 |[],H=>by
  show cU (cm H u.1 u.2) b=cm (cU H b) u.1 u.2
  induction b generalizing H with
  |nil=>rfl
  |cons v b ih=>
   simp only[keys,ca,bh,not_or]at hb
   show cU (cm (cm H u.1 u.2) v.1 v.2) b=cm (cU (cm H v.1 v.2) b) u.1 u.2
   rw[←ih hb.2]
   congr 1
   funext i
   by_cases h1:i=v.1
   ·subst h1;rw[ay,az _ _ (fk hb.1),ay]
   ·by_cases h2:i=u.1
    ·subst h2;rw[az _ _ h1,ay,ay]
    ·rw[az _ _ h1,az _ _ h2,az _ _ h2,az _ _ h1]
 |v::a,H=>Bz u b hb a (cm H v.1 v.2)
def IoE(H:Nat→Option br)(q:Nat×AM):Prop:=(∃(τ:Ty) (x:τ.den),q.2= .io τ∧H q.1=some (.obj τ x))∨ ∃(e:Ty) (l:List e.den),q.2= .lo e∧H q.1=some (.own e l)
theorem IoE.some{H:Nat→Option br}{q:Nat×AM}(h:IoE H q):H q.1≠none:=by
 rcases h with⟨_,x,_,h⟩|⟨e,l,_,h⟩<;>rw[h]<;>simp
structure kF(c:Ctx)(w:World)(M:Nat→Prop)(ν:Nat→Value)(H0 H1 Hq:Nat→Option br)(M1:Nat→Prop)(uo uf:js)(io:List (Nat×AM))(hs:List Nat):Prop where
 mem:Mem c H1 w M1 ν
 OA:Mem c Hq w M ν
 ch:fP w M w M1
 ext: ∀i,i∉keys io→cU H0 (uo++uf) i=H1 i
 YA: ∀i,i∉keys io→cU H0 uo i=Hq i
 VJ: ∀q∈io,H1 q.1=some .gone∧Hq q.1=some .gone∧IoE H0 q
 ion:(keys io).Nodup
 ks: ∀i∈keys (uo++uf),∀e l,H1 i≠some (.own e l)
 ksn: ∀i∈keys (uo++uf),i∉keys io∧ ∃e l,H0 i=some (.own e l)
 fz:Fz Hq H1
 uov: ∀u∈uo,u.2=some .gone
 ufv: ∀u∈uf,∃e l,u.2=some (.pG e l)∧H0 u.1=some (.own e l)
 nd:hs.Nodup
 hM: ∀b∈hs,M1 b
 OB: ∀b∈hs,c.B≤b∨c.may b
 none: ∀b∈hs,∀i e,Hq i=some e→e.mut→fD (ν i)≠some b
 iob: ∀b∈hs,c.M0 b→ ∃q∈io,fD (ν q.1)=some b
 same: ∀i,i∉keys (uo++uf)→i∉keys io→H1 i=H0 i
theorem kF.start{H:Nat→Option br}(hm:Mem c H w M ν):kF c w M ν H H H M [] [] [] []:=
 ⟨hm,hm,.refl w M,λ_ _=>rfl,λ_ _=>rfl,λq hq=>by simp at hq,by simp[keys],λi hi=>by simp[keys]at hi,λi hi=>by simp[keys]at hi,.refl H,λu hu=>by simp at hu,λu hu=>by simp at hu,by simp,λb hb=>by simp at hb,λb hb=>by simp at hb,λb hb=>by simp at hb,λb hb=>by simp at hb,λ_ _ _=>rfl⟩
theorem Fz.aco{H H1:Nat→Option br}(h:Fz H H1){i:Nat}{e:Ty}{l:List e.den}(hi:H1 i=some (.own e l)):H i=some (.own e l):=by
 rcases h i with h'|⟨e',l',_,h'⟩
 ·rw[←h',hi]
 ·rw[hi]at h';cases h'
theorem Fz.apj{H H1:Nat→Option br}(h:Fz H H1){i:Nat}{e:Ty}{l:e.den}(hi:H1 i=some (.obj e l)):H i=some (.obj e l):=by
 rcases h i with h'|⟨e',l',_,h'⟩
 ·rw[←h',hi]
 ·rw[hi]at h';cases h'
theorem Fz.mut{H H1:Nat→Option br}(h:Fz H H1){i:Nat}{e:br}(hi:H1 i=some e)(hm:e.mut):H i=some e:=by
 cases e with
 |obj=>exact h.apj hi
 |gk=>
  rcases h i with h'|⟨e',l',_,h'⟩
  ·rw[←h',hi]
  ·rw[hi]at h';cases h'
 |own=>exact h.aco hi
 |pG=>simp[br.mut]at hm
 |gone=>simp[br.mut]at hm
theorem kF.freeze{H0 H1 Hq:Nat→Option br}{M1:Nat→Prop}{uo uf:js}{io:List (Nat×AM)}{hs:List Nat}(h:kF c w M ν H0 H1 Hq M1 uo uf io hs){id:Nat}{e:Ty}{l:List e.den}(bl:H1 id=some (.own e l)):
  ∃M2,kF c w M ν H0 (cm H1 id (some (.pG e l))) Hq M2 uo ((id,some (.pG e l))::uf) io hs∧fP w M1 w M2∧(∀b,M2 b↔(M1 b∧fD (ν id)≠some b)):=by
 obtain⟨M2,gw,_,LR⟩:=Tr.freeze h.mem bl
 have wI:id∉keys io:=λhk=>by
  obtain⟨q,hq,rfl⟩:=cY.1 hk
  have:=(h.VJ q hq).1
  rw[bl]at this;cases this
 have XR:id∉keys (uo++uf):=λhk=>h.ks id hk e l bl
 have aky:id∉keys uf:=λhk=>XR (by simp only[keys,dr,bn];exact .inr hk)
 have h0:H0 id=some (.own e l):=by rw[←h.same id XR wI];exact bl
 have hq:Hq id=some (.own e l):=h.fz.aco bl
 have mE: ∀i,i∈keys (uo++(id,some (br.pG e l))::uf)↔i=id∨i∈keys (uo++uf):=by
  intro i
  simp only[keys,dr,ca,bn,bh]
  constructor
  ·rintro(h|h|h)
   ·exact .inr (.inl h)
   ·exact .inl h
   ·exact .inr (.inr h)
  ·rintro(h|h|h)
   ·exact .inr (.inl h)
   ·exact .inl h
   ·exact .inr (.inr h)
 refine⟨M2,⟨gw.mem,h.OA,h.ch.trans gw.ch,λi hi=> ?_,h.YA,λq oR=> ?_,h.ion,λi hi e' l'=> ?_,λi hi=> ?_,λi=> ?_,h.uov,λu hu=> ?_,h.nd,λb hb=> ?_,h.OB,h.none,h.iob,λi hi oj=> ?_⟩,gw.ch,LR⟩
 ·rw[Bz _ _ aky]
  by_cases ct:i=id
  ·subst ct;rw[ay,ay]
  ·rw[az _ _ ct,az _ _ ct];exact h.ext i hi
 ·obtain⟨h1,h2,h3⟩:=h.VJ q oR
  have kN:q.1≠id:=λe=>wI (e▸fG oR)
  exact⟨by rw[az _ _ kN];exact h1,h2,h3⟩
 ·by_cases ct:i=id
  ·subst ct;rw[ay];intro h';cases h'
  ·rw[az _ _ ct]
   exact h.ks i (((mE i).1 hi).resolve_left ct) e' l'
 ·rcases(mE i).1 hi with rfl|hi
  ·exact⟨wI,e,l,h0⟩
  ·exact h.ksn i hi
 ·by_cases ct:i=id
  ·subst ct;exact .inr ⟨e,l,hq,ay _ _ _⟩
  ·rw[az _ _ ct];exact h.fz i
 ·rcases bh.1 hu with rfl|hu
  ·exact⟨e,l,rfl,h0⟩
  ·exact h.ufv u hu
 ·exact(LR b).2 ⟨h.hM b hb,λfb=>h.none b hb id _ hq trivial fb⟩
 ·have kN:i≠id:=λe=>hi ((mE i).2 (.inl e))
  rw[az _ _ kN]
  exact h.same i (λh'=>hi ((mE i).2 (.inr h'))) oj
theorem kF.hand{H0 H1 Hq:Nat→Option br}{M1:Nat→Prop}{uo uf:js}{io:List (Nat×AM)}{hs:List Nat}(h:kF c w M ν H0 H1 Hq M1 uo uf io hs){id:Nat}{e:Ty}{l:List e.den}(bl:H1 id=some (.own e l)):
  kF c w M ν H0 (cm H1 id (some .gone)) (cm Hq id (some .gone)) M1 ((id,some .gone)::uo) uf io (hs++(fD (ν id)).toList):=by
 have wI:id∉keys io:=λhk=>by
  obtain⟨q,hq,rfl⟩:=cY.1 hk
  have:=(h.VJ q hq).1
  rw[bl]at this;cases this
 have XR:id∉keys (uo++uf):=λhk=>h.ks id hk e l bl
 have aky:id∉keys uo:=λhk=>XR (by simp only[keys,dr,bn];exact .inl hk)
 have h0:H0 id=some (.own e l):=by rw[←h.same id XR wI];exact bl
 have hq:Hq id=some (.own e l):=h.fz.aco bl
 have mE: ∀i,i∈keys ((id,some br.gone)::uo++uf)↔i=id∨i∈keys (uo++uf):=by
  intro i
  simp only[keys,dr,ca,mZ,bn,bh]
 have Bn: ∀b,fD (ν id)=some b→b∉hs:=λb hb fb=>h.none b fb id _ hq trivial hb
 refine⟨(Tr.gone h.mem id).mem,(Tr.gone h.OA id).mem,h.ch,λi hi=> ?_,λi hi=> ?_,λq oR=> ?_,h.ion,λi hi e' l'=> ?_,λi hi=> ?_,λi=> ?_,λu hu=> ?_,h.ufv,?_,λb hb=> ?_,λb hb=> ?_,λb hb i e' hi hm=> ?_,λb hb hb0=> ?_,λi hi oj=> ?_⟩
 ·have:=Bz (id,some .gone) (uo++uf) XR [] H0
  simp only[cD]at this
  rw[mZ,this]
  by_cases ct:i=id
  ·subst ct;rw[ay,ay]
  ·rw[az _ _ ct,az _ _ ct];exact h.ext i hi
 ·have:=Bz (id,some .gone) uo aky [] H0
  simp only[cD]at this
  rw[this]
  by_cases ct:i=id
  ·subst ct;rw[ay,ay]
  ·rw[az _ _ ct,az _ _ ct];exact h.YA i hi
 ·obtain⟨h1,h2,h3⟩:=h.VJ q oR
  have kN:q.1≠id:=λe=>wI (e▸fG oR)
  exact⟨by rw[az _ _ kN];exact h1,by rw[az _ _ kN];exact h2,h3⟩
 ·by_cases ct:i=id
  ·subst ct;rw[ay];intro h';cases h'
  ·rw[az _ _ ct]
   exact h.ks i (((mE i).1 hi).resolve_left ct) e' l'
 ·rcases(mE i).1 hi with rfl|hi
  ·exact⟨wI,e,l,h0⟩
  ·exact h.ksn i hi
 ·by_cases ct:i=id
  ·subst ct;left;rw[ay,ay]
  ·rw[az _ _ ct,az _ _ ct];exact h.fz i
 ·rcases bh.1 hu with rfl|hu
  ·rfl
  ·exact h.uov u hu
 ·refine pE.2 ⟨h.nd,?_,λx hx y hy=> ?_⟩
  ·cases fD (ν id)<;>simp
  ·rw[fv]at hy
   intro XS;subst XS
   exact Bn x hy hx
 ·rcases bn.1 hb with hb|hb
  ·exact h.hM b hb
  ·rw[fv]at hb
   exact(h.mem.jQ id _ bl).xC trivial hb
 ·rcases bn.1 hb with hb|hb
  ·exact h.OB b hb
  ·rw[fv]at hb
   exact h.mem.new id _ b bl trivial hb
 ·by_cases ct:i=id
  ·subst ct;rw[ay]at hi;cases hi;simp[br.mut]at hm
  ·rw[az _ _ ct]at hi
   rcases bn.1 hb with hb|hb
   ·exact h.none b hb i e' hi hm
   ·rw[fv]at hb
    intro fb
    exact h.OA.Bf i id e' _ b ct hi hm hq trivial fb hb
 ·rcases bn.1 hb with hb|hb
  ·exact h.iob b hb hb0
  ·rw[fv]at hb
   exact absurd hb0 (h.mem.oS id e l b bl hb)
 ·have kN:i≠id:=λe=>hi ((mE i).2 (.inl e))
  rw[az _ _ kN]
  exact h.same i (λh'=>hi ((mE i).2 (.inr h'))) oj
theorem kF.akz{H0 H1 Hq:Nat→Option br}{M1:Nat→Prop}{uo uf:js}{io:List (Nat×AM)}{hs:List Nat}(h:kF c w M ν H0 H1 Hq M1 uo uf io hs){id:Nat}{τ:Ty}{x:τ.den}(bl:H1 id=some (.obj τ x)):
  kF c w M ν H0 (cm H1 id (some .gone)) (cm Hq id (some .gone)) M1 uo uf (io++[(id,.io τ)]) (hs++(fD (ν id)).toList):=by
 have wI:id∉keys io:=λhk=>by
  obtain⟨q,hq,rfl⟩:=cY.1 hk
  have:=(h.VJ q hq).1
  rw[bl]at this;cases this
 have hq:Hq id=some (.obj τ x):=h.fz.apj bl
 have XR:id∉keys (uo++uf):=λhk=>by
  have h1:=h.ext id wI
  obtain⟨_,e,l,h0⟩:=h.ksn id hk
  have key: ∀(ups:js) (H:Nat→Option br),(∀u∈ups,u.2=some .gone∨ ∃e l,u.2=some (.pG e l))→id∈keys ups→cU H ups id=some .gone∨ ∃e l,cU H ups id=some (.pG e l):=by
   intro ups
   induction ups with
   |nil=>intro H _ hk;simp[keys]at hk
   |cons u ups ih=>
    intro H hv hk
    by_cases VK:id∈keys ups
    ·exact ih _ (λv R3=>hv v (ba _ R3)) VK
    ·show cU (cm H u.1 u.2) ups id=_∨ ∃e l,cU (cm H u.1 u.2) ups id=_
     rw[mG VK]
     have hui:id=u.1:=by
      simp only[keys,ca,bh]at hk VK
      exact hk.resolve_right VK
     rw[hui,ay]
     exact hv u bu
  have:=key (uo++uf) H0 (λu hu=>by
   rcases bn.1 hu with hu|hu
   ·exact .inl (h.uov u hu)
   ·obtain⟨e,l,h',_⟩:=h.ufv u hu;exact .inr ⟨e,l,h'⟩) hk
  rw[h1,bl]at this
  rcases this with h'|⟨_,_,h'⟩<;>cases h'
 have h0:H0 id=some (.obj τ x):=by rw[←h.same id XR wI];exact bl
 have mE: ∀i,i∈keys (io++[(id,.io τ)])↔i∈keys io∨i=id:=by
  intro i
  simp only[keys,dr,ca,gU,bn,bh,List.not_mem_nil,or_false]
 have Bn: ∀b,fD (ν id)=some b→b∉hs:=λb hb fb=>h.none b fb id _ hq trivial hb
 refine⟨(Tr.gone h.mem id).mem,(Tr.gone h.OA id).mem,h.ch,λi hi=> ?_,λi hi=> ?_,λq oR=> ?_,?_,λi hi e' l'=> ?_,λi hi=> ?_,λi=> ?_,h.uov,h.ufv,?_,λb hb=> ?_,λb hb=> ?_,λb hb i e' hi hm=> ?_,λb hb hb0=> ?_,λi hi oj=> ?_⟩
 ·rw[az _ _ (λe=>hi ((mE i).2 (.inr e)))];exact h.ext i (λh'=>hi ((mE i).2 (.inl h')))
 ·rw[az _ _ (λe=>hi ((mE i).2 (.inr e)))];exact h.YA i (λh'=>hi ((mE i).2 (.inl h')))
 ·rcases bn.1 oR with oR|oR
  ·obtain⟨h1,h2,h3⟩:=h.VJ q oR
   have kN:q.1≠id:=λe=>wI (e▸fG oR)
   exact⟨by rw[az _ _ kN];exact h1,by rw[az _ _ kN];exact h2,h3⟩
  ·rw[cy]at oR;subst oR
   exact⟨ay _ _ _,ay _ _ _,.inl ⟨τ,x,rfl,h0⟩⟩
 ·simp only[keys,dr,ca,gU]
  refine pE.2 ⟨h.ion,by simp,λx hx y hy=> ?_⟩
  rw[cy]at hy;subst hy
  intro e;exact wI (e▸hx)
 ·by_cases ct:i=id
  ·subst ct;rw[ay];intro h';cases h'
  ·rw[az _ _ ct];exact h.ks i hi e' l'
 ·obtain⟨h1,h2⟩:=h.ksn i hi
  exact⟨λh'=>((mE i).1 h').elim h1 (λe=>XR (e▸hi)),h2⟩
 ·by_cases ct:i=id
  ·subst ct;left;rw[ay,ay]
  ·rw[az _ _ ct,az _ _ ct];exact h.fz i
 ·refine pE.2 ⟨h.nd,?_,λx hx y hy=> ?_⟩
  ·cases fD (ν id)<;>simp
  ·rw[fv]at hy
   intro XS;subst XS
   exact Bn x hy hx
 ·rcases bn.1 hb with hb|hb
  ·exact h.hM b hb
  ·rw[fv]at hb
   exact(h.mem.jQ id _ bl).xC trivial hb
 ·rcases bn.1 hb with hb|hb
  ·exact h.OB b hb
  ·rw[fv]at hb
   exact h.mem.new id _ b bl trivial hb
 ·by_cases ct:i=id
  ·subst ct;rw[ay]at hi;cases hi;simp[br.mut]at hm
  ·rw[az _ _ ct]at hi
   rcases bn.1 hb with hb|hb
   ·exact h.none b hb i e' hi hm
   ·rw[fv]at hb
    intro fb
    exact h.OA.Bf i id e' _ b ct hi hm hq trivial fb hb
 ·rcases bn.1 hb with hb|hb
  ·obtain⟨q,hq1,hq2⟩:=h.iob b hb hb0
   exact⟨q,cX _ hq1,hq2⟩
  ·rw[fv]at hb
   exact⟨(id,.io τ),by simp,hb⟩
 ·have kN:i≠id:=λe=>oj ((mE i).2 (.inr e))
  rw[az _ _ kN]
  exact h.same i hi (λh'=>oj ((mE i).2 (.inl h')))
theorem kF.aiR{H0 H1 Hq:Nat→Option br}{M1:Nat→Prop}{uo uf:js}{io:List (Nat×AM)}{hs:List Nat}(h:kF c w M ν H0 H1 Hq M1 uo uf io hs){id:Nat}{e:Ty}{l:List e.den}(bl:H1 id=some (.own e l)):
  kF c w M ν H0 (cm H1 id (some .gone)) (cm Hq id (some .gone)) M1 uo uf (io++[(id,.lo e)]) (hs++(fD (ν id)).toList):=by
 have wI:id∉keys io:=λhk=>by
  obtain⟨q,hq,rfl⟩:=cY.1 hk
  have:=(h.VJ q hq).1
  rw[bl]at this;cases this
 have hq:Hq id=some (.own e l):=h.fz.aco bl
 have XR:id∉keys (uo++uf):=λhk=>h.ks id hk e l bl
 have h0:H0 id=some (.own e l):=by rw[←h.same id XR wI];exact bl
 have mE: ∀i,i∈keys (io++[(id,.lo e)])↔i∈keys io∨i=id:=by
  intro i
  simp only[keys,dr,ca,gU,bn,bh,List.not_mem_nil,or_false]
 have Bn: ∀b,fD (ν id)=some b→b∉hs:=λb hb fb=>h.none b fb id _ hq trivial hb
 refine⟨(Tr.gone h.mem id).mem,(Tr.gone h.OA id).mem,h.ch,λi hi=> ?_,λi hi=> ?_,λq oR=> ?_,?_,λi hi e' l'=> ?_,λi hi=> ?_,λi=> ?_,h.uov,h.ufv,?_,λb hb=> ?_,λb hb=> ?_,λb hb i e' hi hm=> ?_,λb hb hb0=> ?_,λi hi oj=> ?_⟩
 ·rw[az _ _ (λe=>hi ((mE i).2 (.inr e)))];exact h.ext i (λh'=>hi ((mE i).2 (.inl h')))
 ·rw[az _ _ (λe=>hi ((mE i).2 (.inr e)))];exact h.YA i (λh'=>hi ((mE i).2 (.inl h')))
 ·rcases bn.1 oR with oR|oR
  ·obtain⟨h1,h2,h3⟩:=h.VJ q oR
   have kN:q.1≠id:=λe=>wI (e▸fG oR)
   exact⟨by rw[az _ _ kN];exact h1,by rw[az _ _ kN];exact h2,h3⟩
  ·rw[cy]at oR;subst oR
   exact⟨ay _ _ _,ay _ _ _,.inr ⟨e,l,rfl,h0⟩⟩
 ·simp only[keys,dr,ca,gU]
  refine pE.2 ⟨h.ion,by simp,λx hx y hy=> ?_⟩
  rw[cy]at hy;subst hy
  intro e;exact wI (e▸hx)
 ·by_cases ct:i=id
  ·subst ct;rw[ay];intro h';cases h'
  ·rw[az _ _ ct];exact h.ks i hi e' l'
 ·obtain⟨h1,h2⟩:=h.ksn i hi
  exact⟨λh'=>((mE i).1 h').elim h1 (λe=>XR (e▸hi)),h2⟩
 ·by_cases ct:i=id
  ·subst ct;left;rw[ay,ay]
  ·rw[az _ _ ct,az _ _ ct];exact h.fz i
 ·refine pE.2 ⟨h.nd,?_,λx hx y hy=> ?_⟩
  ·cases fD (ν id)<;>simp
  ·rw[fv]at hy
   intro XS;subst XS
   exact Bn x hy hx
 ·rcases bn.1 hb with hb|hb
  ·exact h.hM b hb
  ·rw[fv]at hb
   exact(h.mem.jQ id _ bl).xC trivial hb
 ·rcases bn.1 hb with hb|hb
  ·exact h.OB b hb
  ·rw[fv]at hb
   exact h.mem.new id _ b bl trivial hb
 ·by_cases ct:i=id
  ·subst ct;rw[ay]at hi;cases hi;simp[br.mut]at hm
  ·rw[az _ _ ct]at hi
   rcases bn.1 hb with hb|hb
   ·exact h.none b hb i e' hi hm
   ·rw[fv]at hb
    intro fb
    exact h.OA.Bf i id e' _ b ct hi hm hq trivial fb hb
 ·rcases bn.1 hb with hb|hb
  ·obtain⟨q,hq1,hq2⟩:=h.iob b hb hb0
   exact⟨q,cX _ hq1,hq2⟩
  ·rw[fv]at hb
   exact⟨(id,.lo e),by simp,hb⟩
 ·have kN:i≠id:=λe=>oj ((mE i).2 (.inr e))
  rw[az _ _ kN]
  exact h.same i hi (λh'=>oj ((mE i).2 (.inl h')))
theorem ue.upd{H:Nat→Option br}{id:Nat}{e e':br}(bl:H id=some e)(hl:e.lO e'):ue H ν (cm H id (some e')) ν:=
 ⟨λi e1 hi=>by
  by_cases ct:i=id
  ·subst ct;rw[bl]at hi;cases hi;exact⟨e',ay _ _ _,hl⟩
  ·exact⟨e1,by rw[az _ _ ct];exact hi,.refl e1⟩,λ_ _=>rfl⟩
theorem br.kp(e:br):e.lO .gone:=by cases e<;>simp[br.lO]
theorem VR.apl{H H':Nat→Option br}{ν':Nat→Value}{a:Ty}{x:a.den}{v:Value}(h:VR w M H ν (DN a x) v):VR w M H' ν' (DN a x) v:=by
 unfold DN at h ⊢
 split at h
 ·simp only[VR]at h ⊢;exact h
 ·simp only[VR]at h ⊢;exact h
theorem jP.free{H H':Nat→Option br}{ν':Nat→Value}: ∀{τ:Ty} {x:τ.den} {vs:List Value},jP w M H ν (qP τ x) vs→jP w M H' ν' (qP τ x) vs
 | .pair a b,x,v::vs,h=>by
  simp only[qP,jP]at h ⊢
  exact⟨VR.apl h.1,jP.free h.2⟩
 | .pair a b,x,[],h=>by simp[qP,jP]at h
 | .int _,_,[],_| .bool,_,[],_| .str,_,[],_| .slice _,_,[],_| .unit,_,[],_| .arr _ _,_,[],_=>by simp[qP,jP]
 | .int _,_,_::_,h| .bool,_,_::_,h| .str,_,_::_,h| .slice _,_,_::_,h| .unit,_,_::_,h| .arr _ _,_,_::_,h=>by simp[qP,jP]at h
theorem D0{H0 H1 Hq:Nat→Option br}{M1:Nat→Prop}{uo uf:js}{io:List (Nat×AM)}{hs:List Nat}(h:kF c w M ν H0 H1 Hq M1 uo uf io hs){m:AM}{x:bG}{v:Value}(hv:VR w M1 H1 ν x v)
  {k:m.den→(Nat→Option br)→List Nat→js→js→List (Nat×AM)→Option α} (hk:oY m x H1 k=some r):
  ∃y H2 rd Nx Ny Ji XT M2,k y H2 rd Nx Ny Ji=some r∧kF c w M ν H0 H2 XT M2 (Nx++uo) (Ny++uf) (io++Ji) (hs++dA m v)∧fP w M1 w M2∧ue H1 ν H2 ν∧A1 w M2 m y v∧
   Ji.map (λq=>ν q.1)=(if m.iU then [v]else [])∧Ji.map (·.2)=nF [m]:=by
 unfold oY at hk
 split at hk
 ·
  rename_i τ k
  obtain⟨y,rd,ups,hk,hy⟩:=FK h.mem hv hk
  rcases hy with⟨rfl,hV⟩|⟨id,e,l,rfl,bl,hV⟩
  ·exact⟨y,H1,rd,[],[],[],Hq,M1,hk,by simpa [dA]using h,.refl w M1,.refl H1 ν,hV,rfl,rfl⟩
  ·obtain⟨M2,hA,hK,LR⟩:=h.freeze bl
   exact⟨y,_,rd,[],_,[],Hq,M2,hk,by simpa [dA]using hA,hK,.upd bl ⟨rfl,rfl⟩,hV M2 LR,rfl,rfl⟩
 ·
  rename_i e k
  split at hk
  ·obtain⟨ad,hv⟩:=VR.emp.1 hv
   subst hv
   have hb:fD (.slice ad 0 0)=none:=by cases ad<;>simp[fD]
   exact⟨[],H1,[],[],[],[],Hq,M1,hk,by simpa [dA,hb]using h,.refl w M1,.refl H1 ν,by simp only[A1,ER];exact .inl ⟨trivial,ad,rfl⟩,rfl,rfl⟩
  ·rename_i id
   split at hk
   ·rename_i e' l bl
    obtain⟨e1,hk⟩:=bA hk
    cases e1
    simp only[VR]at hv
    obtain⟨_,rfl⟩:=hv
    refine⟨_,_,_,_,_,_,_,M1,hk,by simpa [dA]using h.hand bl,.refl w M1,.upd bl (br.kp _),?_,rfl,rfl⟩
    have:=h.mem.jQ id _ bl
    exact this
   ·cases hk
  ·cases hk
 ·
  rename_i τ k
  split at hk
  ·rename_i id
   split at hk
   ·rename_i υ z bl
    obtain⟨e1,hk⟩:=bA hk
    subst e1
    simp only[VR]at hv
    obtain⟨e,he,lQ⟩:=hv
    rw[bl]at he;cases he
    simp only[AR]at lQ
    obtain⟨_,b,hb,hv⟩:=lQ
    have YB:v=ν id:=by rw[hv,hb];rfl
    subst YB
    refine⟨_,_,_,_,_,_,_,M1,hk,by simpa [dA]using h.akz bl,.refl w M1,.upd bl (br.kp _),?_,rfl,rfl⟩
    have:=h.mem.jQ id _ bl
    exact this
   ·cases hk
  ·cases hk
 ·
  rename_i f τ k
  split at hk
  ·rename_i f' cs
   obtain⟨hf,Ud⟩:=cG hk
   clear hk
   have hf:=fF hf
   subst hf
   have hk:=Ud
   clear Ud
   simp only[VR]at hv
   obtain⟨us,rfl,hvs⟩:=hv
   obtain⟨y,rd,ups,hk,hy⟩:=G6 h.mem hvs hk
   split at hk
   ·exact⟨y,H1,rd,[],[],[],Hq,M1,hk,by simpa [dA]using h,.refl w M1,.refl H1 ν,by simp only[A1,VR];exact⟨us,rfl,hy rfl⟩,rfl,rfl⟩
   ·cases hk
  ·cases hk
 ·cases hk
 ·
  rename_i τ k
  split at hk
  ·rename_i υ z
   obtain⟨e1,hk⟩:=bA hk
   subst e1
   exact⟨_,H1,_,[],[],[],Hq,M1,hk,by simpa [dA]using h,.refl w M1,.refl H1 ν,by simp only[A1,VR]at hv ⊢;exact hv,rfl,rfl⟩
  ·cases hk
 ·
  rename_i e k
  split at hk
  ·rename_i id
   split at hk
   ·rename_i e' l bl
    obtain⟨e1,hk⟩:=bA hk
    cases e1
    simp only[VR]at hv
    obtain⟨_,rfl⟩:=hv
    refine⟨_,_,_,_,_,_,_,M1,hk,by simpa [dA]using h.aiR bl,.refl w M1,.upd bl (br.kp _),?_,rfl,rfl⟩
    have:=h.mem.jQ id _ bl
    exact this
   ·cases hk
  ·cases hk
 ·cases hk
theorem D1{H0:Nat→Option br}: ∀{ms:List AM} {qX:List bG} {vs:List Value} {H1 Hq:Nat→Option br} {M1:Nat→Prop} {rd:List Nat} {uo uf:js} {io:List (Nat×AM)} {hs:List Nat} {K:HP ms→List Nat→js→js→List (Nat×AM)→Option α},
  kF c w M ν H0 H1 Hq M1 uo uf io hs→jP w M1 H1 ν qX vs→uK ms qX H1 rd uo uf io K=some r→
  ∃x yK Nx Ny Ji H2 XT M2,K x yK Nx Ny Ji=some r∧kF c w M ν H0 H2 XT M2 Nx Ny Ji (hs++eF ms vs)∧fP w M1 w M2∧kE w M2 ms x vs∧
   Ji.map (λq=>ν q.1)=io.map (λq=>ν q.1)++fQ ms vs∧Ji.map (·.2)=io.map (·.2)++nF ms
 |[],[],[],H1,Hq,M1,rd,uo,uf,io,hs,K,h,_,hk=>
  ⟨(),rd,uo,uf,io,H1,Hq,M1,hk,by simpa [eF]using h,.refl w M1,rfl,by simp[fQ],by simp[nF]⟩
 |[m],[x],[v],H1,Hq,M1,rd,uo,uf,io,hs,K,h,hv,hk=>by
  simp only[jP,eL]at hv
  obtain⟨y,H2,Yq,uo1,uf1,io1,XT,M2,hk,hA,hK,hG,hy,hi1,Uc⟩:=D0 h hv (hk:oY m x H1 _=some r)
  refine⟨y,_,_,_,_,H2,XT,M2,hk,by simpa [eF]using hA,hK,⟨v,[],rfl,hy,rfl⟩,?_,?_⟩
  ·rw[dr,hi1];cases wI:m.iU<;>simp[fQ,wI]
  ·rw[dr,Uc]
 |m::n::ms,x::xs,v::vs,H1,Hq,M1,rd,uo,uf,io,hs,K,h,hv,hk=>by
  simp only[jP]at hv
  obtain⟨y,H2,Yq,uo1,uf1,io1,XT,M2,hk,hA,hK,hG,hy,hi1,Uc⟩:=D0 h hv.1 (hk:oY m x H1 _=some r)
  obtain⟨ys,yK,Nx,Ny,Ji,H3,Hq3,M3,hk,hA',hK',hys,hi3,hi4⟩:=D1 (ms:=n::ms) hA (jP.ch hK hG hv.2) hk
  refine⟨(y,ys),_,_,_,_,H3,Hq3,M3,hk,by simpa [eF,bF]using hA',hK.trans hK',⟨v,vs,rfl,?_,hys⟩,?_,?_⟩
  ·refine A1.xM hK' (λb hb=>⟨rfl,hA'.hM b ?_⟩) hy
   exact cX _ (dD _ hb)
  ·rw[hi3,dr,hi1,bF]
   congr 1
   cases wI:m.iU<;>simp[fQ,wI]
  ·rw[hi4,dr,Uc,bF]
   congr 1
   cases m<;>simp[nF]
 |[],_::_,_,_,_,_,_,_,_,_,_,_,_,_,hk=>by simp[uK]at hk
 |[_],[],_,_,_,_,_,_,_,_,_,_,_,_,hk=>by simp[uK]at hk
 |[_],_::_::_,_,_,_,_,_,_,_,_,_,_,_,_,hk=>by simp[uK]at hk
 |_::_::_,[],_,_,_,_,_,_,_,_,_,_,_,_,hk=>by simp[uK]at hk
 |_,_::_,[],_,_,_,_,_,_,_,_,_,_,hv,_=>by simp[jP]at hv
 |[],[],_::_,_,_,_,_,_,_,_,_,_,_,hv,_=>by simp[jP]at hv
 |[_],[_],_::_::_,_,_,_,_,_,_,_,_,_,_,hv,_=>by simp[jP]at hv
theorem Mem.call{H:Nat→Option br}(h:Mem c H w M ν){hs:List Nat}{M0 M':Nat→Prop}{w':World}(hM: ∀b,M0 b→M b)(hhs: ∀b∈hs,M b)
  (qy: ∀b∈hs,∀i e,H i=some e→e.mut→fD (ν i)≠some b) (kG: ∀b∈hs,c.B≤b∨c.may b) (wI: ∀b∈hs,c.M0 b→M' b) (L:Left w M0 hs w' M'):
  Mem c H w' (λb=>M' b∨(M b∧b∉hs)) ν∧fP w M w' (λb=>M' b∨(M b∧b∉hs)):=by
 have hk:fP w M w' (λb=>M' b∨(M b∧b∉hs)):=by
  refine⟨L.size,λb hb hm=>L.frame b hb (λhh=>hm (hhs b hh)),λb hb hm=> ?_⟩
  rcases hm with hm|hm
  ·exact(L.less b hb hm).elim (hM b) (hhs b)
  ·exact hm.1
 refine⟨⟨λi e hi=>(h.jQ i e hi).ch hk λhm b hb=> ?_,h.Bf,h.new,h.oS,sl h (λ_ _=>rfl) (λ_ h=>h) (λi τ x p j hi=> .inl ⟨hi,λb hb=> ?_⟩),λb hb=> ?_,λb hb=> ?_,λb hb hm=> ?_,ck h.size L.size,h.wT,L.os.trans h.os,L.tape.trans h.tape,L.output.trans h.output⟩,hk⟩
 ·have hMb:=(h.jQ i e hi).xC hm hb
  have Bn:b∉hs:=λhh=>qy b hh i e hi hm hb
  exact⟨L.frame b (h.GI b hMb) Bn,.inr ⟨hMb,Bn⟩⟩
 ·have xD:fD (ν i)=some b:=by rw[hb];rfl
  have hMb:=(h.jQ i _ hi).xC trivial xD
  exact L.frame b (h.GI b hMb) (λhh=>qy b hh i _ hi trivial xD)
 ·by_cases hh:b∈hs
  ·exact .inl (wI b hh hb)
  ·exact .inr ⟨h.sub b hb,hh⟩
 ·rcases hb with hb|hb
  ·exact L.GI b hb
  ·exact n6 (h.GI b hb.1) L.size
 ·have Bn:b∉hs:=λhh=>(kG b hh).elim (λh'=>ω) hm
  rw[L.frame b (n6 hb h.size) Bn]
  exact h.frame b hb hm
theorem Mem.xN{H:Nat→Option br}(h:Mem c H w M ν){id:Nat}{v:Value}{e:br}(bl: ∀e',H id=some e'→ ¬e'.mut)(Vu:ER w M v e)
  (hd: ∀b,fD v=some b→ ∀i e',H i=some e'→e'.mut→fD (ν i)≠some b) (hn: ∀b,fD v=some b→c.B≤b∨c.may b) (ho: ∀b e0 l0,e= .own e0 l0→fD v=some b→ ¬c.M0 b)
  (hnv:H id=none∨v=ν id)
  (qQ: ∀τ x p j,e= .gk τ x p j→cm H id (some e) j≠none∧ ∃b,v= .pointer (some ⟨b,0,none⟩)∧w.cell? ⟨b,cF p τ,none⟩=some (updν ν id v j):=by intro _ _ _ _ h;cases h):
  Mem c (cm H id (some e)) w M (updν ν id v):=by
 have hν: ∀i,i≠id→updν ν id v i=ν i:=λi hi=>by simp[updν,hi]
 have hνs:updν ν id v id=v:=by simp[updν]
 refine⟨λi e1 hi=> ?_,λi k e1 e2 b1 qw hi ug hk yP=> ?_,λi e1 b1 hi ug=> ?_,λi e1 l1 b1 hi=> ?_,sl h (λi hi=> ?_) yO (λi τ x p j hi=> ?_),h.sub,h.GI,h.frame,h.size,h.wT,h.os,h.tape,h.output⟩
 ·by_cases ct:i=id
  ·subst ct;rw[ay]at hi;cases hi;rw[hνs];exact Vu
  ·rw[az _ _ ct]at hi;rw[hν i ct];exact h.jQ i e1 hi
 ·by_cases ct:i=id
  ·subst ct;rw[hνs]
   have Og:k≠i:=fk qw
   rw[az _ _ Og]at hk;rw[hν k Og]
   intro nD
   exact hd b1 nD k e2 hk yP
  ·rw[az _ _ ct]at hi;rw[hν i ct]
   by_cases Og:k=id
   ·subst Og;rw[hνs]
    intro nD vm
    exact hd b1 vm i e1 hi ug nD
   ·rw[az _ _ Og]at hk;rw[hν k Og];exact h.Bf i k e1 e2 b1 qw hi ug hk yP
 ·by_cases ct:i=id
  ·subst ct;rw[hνs];exact hn b1
  ·rw[az _ _ ct]at hi;rw[hν i ct];exact h.new i e1 b1 hi ug
 ·by_cases ct:i=id
  ·subst ct;rw[ay]at hi;cases hi;rw[hνs];exact ho b1 e1 l1 rfl
  ·rw[az _ _ ct]at hi;rw[hν i ct];exact h.oS i e1 l1 b1 hi
 ·by_cases ct:i=id
  ·subst ct
   rcases hnv with hnv|hnv
   ·exact absurd hnv hi
   ·rw[hνs,hnv]
  ·exact hν i ct
 ·by_cases ct:i=id
  ·subst ct
   rw[ay]at hi
   cases hi
   obtain⟨h1,b,h2,h3⟩:=qQ _ _ _ _ rfl
   exact .inr ⟨h1,b,by rw[hνs];exact h2,h3⟩
  ·rw[az _ _ ct]at hi
   exact .inl ⟨hi,λ_ _=>rfl⟩
theorem VL{m:AM}{ms:List AM}(x:HP (m::ms))(id:Nat)(io:List (Nat×AM)):
  iD (m::ms) x id io=match m,q4 x,io with
   | .io τ,y,(j,_)::io=>((iD ms (ui x) (id+1) io).1,(j,some (.obj τ y))::(iD ms (ui x) (id+1) io).2.1,(iD ms (ui x) (id+1) io).2.2)
   | .lo e,y,(j,_)::io=>((iD ms (ui x) (id+1) io).1,(j,some (.own e y))::(iD ms (ui x) (id+1) io).2.1,(iD ms (ui x) (id+1) io).2.2)
   |m,y,io=>((xv m y id).1::(iD ms (ui x) (id+1) io).1,(xv m y id).2++(iD ms (ui x) (id+1) io).2.1,(iD ms (ui x) (id+1) io).2.2):=by
 cases ms with
 |nil=>cases m<;>cases io<;>simp[iD,q4]
 |cons n ms=>cases m<;>cases io<;>simp[iD,q4,ui]
theorem kq{l1 l2:List Nat}{b:Nat}(h:(l1++l2).Nodup)(h1:b∈l1):b∉l2:=λh2=>(pE.1 h).2.2 b h1 b h2 rfl
theorem RR.G7: ∀{ms:List AM} {x:HP ms} {us ps:List Value},RR w M ms x us ps→ ∀p∈ps,∀b,fD p=some b→b∈bK ms us ps
 |[],_,_,_,h,p,hp,_,_=>by simp only[RR]at h;rw[h.2]at hp;simp at hp
 |m::ms,x,us,ps,h,p,hp,b,hb=>by
  simp only[RR]at h
  rcases h with⟨p',Jp,h1,rfl,h2,h3⟩|⟨v,E5,h1,h2,rfl,h3,h4⟩
  ·simp only[bK,h1,ib,uB,uE,bn]
   rcases bh.1 hp with rfl|hp
   ·left
    cases m<;>simp[AM.iU]at h1<;>simp[dA,hb]
   ·exact .inr (RR.G7 h3 p hp b hb)
  ·simp only[bK,h1,jN,fI,uB,uE,bn]
   exact .inr (RR.G7 h4 p hp b hb)
theorem ni{hs:List Nat}{sz:Nat}: ∀{ms:List AM} {x:HP ms} {us ps:List Value} {id:Nat} {io:List (Nat×AM)} {H:Nat→Option br} {ν:Nat→Value} {used:List Nat},
  Mem c H w M ν→RR w M ms x us ps→ps=io.map (λq=>ν q.1)→nF ms=io.map (·.2)→(keys io).Nodup→(∀q∈io,H q.1=some .gone)→(∀i,id≤i→i<id+ms.length→H i=none)→
  (∀i e b,H i=some e→e.mut→fD (ν i)=some b→(b<sz∧b∉hs)∨b∈used)→(used++bK ms us ps).Nodup→(∀b∈bK ms us ps,sz≤b∨b∈hs)→
  (∀b∈bK ms us ps,(c.B≤b∨c.may b))→(∀b∈bK ms us ps,c.M0 b→ ∃p∈ps,fD p=some b)→
  (∀q∈io,∀e,q.2= .lo e→ ∀b,fD (ν q.1)=some b→ ¬c.M0 b)→
  ∃ν',Mem c (cU H (iD ms x id io).2.1) w M ν'∧jP w M (cU H (iD ms x id io).2.1) ν' (iD ms x id io).1 us∧(∀i,H i≠none→ν' i=ν i)∧
   (∀i,i∉keys io→(i<id∨id+ms.length≤i)→cU H (iD ms x id io).2.1 i=H i)∧(∀i,id≤i→i<id+ms.length→ ∀e,cU H (iD ms x id io).2.1 i=some e→(∃e0 l0,e= .own e0 l0)∨ ∃τ0 z0,e= .obj τ0 z0)∧
   (∀q∈io,IoE (cU H (iD ms x id io).2.1) q)
 |[],x,us,ps,id,io,H,ν,used,hm,hr,Jn,DW,CP,zX,jx,hold,wV,oT,kG,GJ,w9=>by
  simp only[RR]at hr
  obtain⟨rfl,rfl⟩:=hr
  have wI:io=[]:=by
   cases io with
   |nil=>rfl
   |cons q io=>simp at Jn
  subst wI
  exact⟨ν,hm,by simp[iD,jP],λ_ _=>rfl,λ_ _ _=>rfl,λi h1 h2=>by simp at h2;omega,λq hq=>by simp at hq⟩
 |m::ms,x,us,ps,id,io,H,ν,used,hm,hr,Jn,DW,CP,zX,jx,hold,wV,oT,kG,GJ,w9=>by
  rw[VL]
  simp only[RR]at hr
  rcases hr with⟨p,Jp,G8,rfl,h1,h2⟩|⟨v,E5,G8,hmf,rfl,h1,h2⟩
  ·
   cases m with
   |io τ=>
    cases io with
    |nil=>simp at Jn
    |cons q io=>
     simp only[ca,fW]at Jn
     obtain⟨rfl,rfl⟩:=Jn
     simp only[nF,ca,fW]at DW
     obtain⟨acq,akA⟩:=DW
     simp only[keys,ca,AY]at CP
     have YC:bK (.io τ::ms) us (ν q.1::io.map λq=>ν q.1)=(fD (ν q.1)).toList++bK ms us (io.map λq=>ν q.1):=rfl
     rw[YC]at wV oT kG GJ
     have wU:=zX q bu
     have zr:q.1<id∨id+(ms.length+1)≤q.1:=by
      rcases oh q.1 id with h'|h'
      ·exact .inl h'
      ·rcases oh q.1 (id+(ms.length+1))with L4|L4
       ·rw[jx q.1 h' L4]at wU;cases wU
       ·exact .inr L4
     simp only[A1]at h1
     have o9: ∀b,fD (ν q.1)=some b→ ∀i e',H i=some e'→e'.mut→fD (ν i)≠some b:=by
      intro b hb i e' hi ji fb
      have ke:b∈(fD (ν q.1)).toList++bK ms us (io.map λq=>ν q.1):=cX _ (by rw[hb];simp)
      rcases hold i e' b hi ji fb with⟨h3,h4⟩|h3
      ·exact(oT b ke).elim (λh'=>ω) h4
      ·exact kq wV h3 ke
     have yP:=Mem.xN (c:=c) hm (id:=q.1) (v:=ν q.1) (e:= .obj τ (q4 x)) (λe' uw=>by rw[wU]at uw;cases uw;simp[br.mut]) h1 o9 (λb hb=>kG b (cX _ (by rw[hb];simp))) (λb e0 l0 he=>by cases he) (.inr rfl)
     have hνe:updν ν q.1 (ν q.1)=ν:=by funext i;unfold updν;split<;>simp_all
     rw[hνe]at yP
     have akB: ∀(q':Nat×AM),q'∈io→q'.1≠q.1:=λq' oR e=>CP.1 (cY.2 ⟨q',oR,e⟩)
     obtain⟨ν',r1,r2,r3,r4,r5,r6⟩:=ni (ms:=ms) (x:=ui x) (us:=us) (ps:=io.map λq=>ν q.1) (id:=id+1) (io:=io) (used:=used++(fD (ν q.1)).toList) yP h2 rfl akA CP.2
      (λq' oR=>by rw[az _ _ (akB q' oR)];exact zX q' (ba _ oR))
      (λi h3 h4=>by
       have:i≠q.1:=ω
       rw[az _ _ this]
       exact jx i ω (by simp only[aT];omega))
      (λi e b hi ji hb=>by
       by_cases ct:i=q.1
       ·subst ct;exact .inr (dD _ (by rw[hb];simp))
       ·rw[az _ _ ct]at hi
        exact(hold i e b hi ji hb).imp (λh=>h) (cX _))
      (by rw[bF];exact wV) (λb hb=>oT b (dD _ hb)) (λb hb=>kG b (dD _ hb))
      (λb hb hb0=>by
       obtain⟨p,hp,hpb⟩:=GJ b (dD _ hb) hb0
       rcases bh.1 hp with rfl|hp
       ·exact absurd (kq (pE.1 wV).2.1 (b:=b) (by rw[hpb];simp)) (by simpa using hb)
       ·exact⟨p,hp,hpb⟩) (λq' oR=>w9 q' (ba _ oR))
     refine⟨ν',r1,r2,λi hi=> ?_,λi h3 h4=> ?_,λi h3 h4 e he=> ?_,λq' oR=> ?_⟩
     ·exact r3 i (by
       by_cases ct:i=q.1
       ·subst ct;rw[ay];simp
       ·rw[az _ _ ct];exact hi)
     ·simp only[keys,ca,bh,not_or]at h3
      have:=r4 i h3.2 (by simp only[aT]at h4;omega)
      rw[az _ _ h3.1]at this
      exact this
     ·by_cases h5:id+1≤i
      ·exact r5 i h5 (by simp only[aT]at h4;omega) e he
      ·have ct:i=id:=ω
       subst ct
       by_cases hk:i∈keys io
       ·obtain⟨q',oR,FL⟩:=cY.1 hk
        have h9:=zX q' (ba _ oR)
        rw[FL,jx i (aH _) (by simp)]at h9
        cases h9
       ·have:=r4 i hk (.inl ω)
        have kN:i≠q.1:=ω
        rw[az _ _ kN,jx i (aH _) (by simp)]at this
        have he:cU (cm H q.1 (some (br.obj τ (q4 x)))) (iD ms (ui x) (i+1) io).2.1 i=some e:=he
        rw[this]at he;cases he
     ·rcases bh.1 oR with rfl|oR
      ·have:=r4 q'.1 CP.1 ω
       rw[ay]at this
       exact .inl ⟨τ,q4 x,acq.symm,this⟩
      ·exact r6 q' oR
   |lo τ=>
    cases io with
    |nil=>simp at Jn
    |cons q io=>
     simp only[ca,fW]at Jn
     obtain⟨rfl,rfl⟩:=Jn
     simp only[nF,ca,fW]at DW
     obtain⟨acq,akA⟩:=DW
     simp only[keys,ca,AY]at CP
     have YC:bK (.lo τ::ms) us (ν q.1::io.map λq=>ν q.1)=(fD (ν q.1)).toList++bK ms us (io.map λq=>ν q.1):=rfl
     rw[YC]at wV oT kG GJ
     have wU:=zX q bu
     have zr:q.1<id∨id+(ms.length+1)≤q.1:=by
      rcases oh q.1 id with h'|h'
      ·exact .inl h'
      ·rcases oh q.1 (id+(ms.length+1))with L4|L4
       ·rw[jx q.1 h' L4]at wU;cases wU
       ·exact .inr L4
     simp only[A1]at h1
     have o9: ∀b,fD (ν q.1)=some b→ ∀i e',H i=some e'→e'.mut→fD (ν i)≠some b:=by
      intro b hb i e' hi ji fb
      have ke:b∈(fD (ν q.1)).toList++bK ms us (io.map λq=>ν q.1):=cX _ (by rw[hb];simp)
      rcases hold i e' b hi ji fb with⟨h3,h4⟩|h3
      ·exact(oT b ke).elim (λh'=>ω) h4
      ·exact kq wV h3 ke
     have yP:=Mem.xN (c:=c) hm (id:=q.1) (v:=ν q.1) (e:= .own τ (q4 x)) (λe' uw=>by rw[wU]at uw;cases uw;simp[br.mut]) h1 o9 (λb hb=>kG b (cX _ (by rw[hb];simp))) (λb e0 l0 _ hb=>w9 q bu τ acq.symm b hb) (.inr rfl)
     have hνe:updν ν q.1 (ν q.1)=ν:=by funext i;unfold updν;split<;>simp_all
     rw[hνe]at yP
     have akB: ∀(q':Nat×AM),q'∈io→q'.1≠q.1:=λq' oR e=>CP.1 (cY.2 ⟨q',oR,e⟩)
     obtain⟨ν',r1,r2,r3,r4,r5,r6⟩:=ni (ms:=ms) (x:=ui x) (us:=us) (ps:=io.map λq=>ν q.1) (id:=id+1) (io:=io) (used:=used++(fD (ν q.1)).toList) yP h2 rfl akA CP.2
      (λq' oR=>by rw[az _ _ (akB q' oR)];exact zX q' (ba _ oR))
      (λi h3 h4=>by
       have:i≠q.1:=ω
       rw[az _ _ this]
       exact jx i ω (by simp only[aT];omega))
      (λi e b hi ji hb=>by
       by_cases ct:i=q.1
       ·subst ct;exact .inr (dD _ (by rw[hb];simp))
       ·rw[az _ _ ct]at hi
        exact(hold i e b hi ji hb).imp (λh=>h) (cX _))
      (by rw[bF];exact wV) (λb hb=>oT b (dD _ hb)) (λb hb=>kG b (dD _ hb))
      (λb hb hb0=>by
       obtain⟨p,hp,hpb⟩:=GJ b (dD _ hb) hb0
       rcases bh.1 hp with rfl|hp
       ·exact absurd (kq (pE.1 wV).2.1 (b:=b) (by rw[hpb];simp)) (by simpa using hb)
       ·exact⟨p,hp,hpb⟩) (λq' oR=>w9 q' (ba _ oR))
     refine⟨ν',r1,r2,λi hi=> ?_,λi h3 h4=> ?_,λi h3 h4 e he=> ?_,λq' oR=> ?_⟩
     ·exact r3 i (by
       by_cases ct:i=q.1
       ·subst ct;rw[ay];simp
       ·rw[az _ _ ct];exact hi)
     ·simp only[keys,ca,bh,not_or]at h3
      have:=r4 i h3.2 (by simp only[aT]at h4;omega)
      rw[az _ _ h3.1]at this
      exact this
     ·by_cases h5:id+1≤i
      ·exact r5 i h5 (by simp only[aT]at h4;omega) e he
      ·have ct:i=id:=ω
       subst ct
       by_cases hk:i∈keys io
       ·obtain⟨q',oR,FL⟩:=cY.1 hk
        have h9:=zX q' (ba _ oR)
        rw[FL,jx i (aH _) (by simp)]at h9
        cases h9
       ·have:=r4 i hk (.inl ω)
        have kN:i≠q.1:=ω
        rw[az _ _ kN,jx i (aH _) (by simp)]at this
        have he:cU (cm H q.1 (some (br.own τ (q4 x)))) (iD ms (ui x) (i+1) io).2.1 i=some e:=he
        rw[this]at he;cases he
     ·rcases bh.1 oR with rfl|oR
      ·have:=r4 q'.1 CP.1 ω
       rw[ay]at this
       exact .inr ⟨τ,q4 x,acq.symm,this⟩
      ·exact r6 q' oR
   |v τ=>simp[AM.iU]at G8
   |own τ=>simp[AM.iU]at G8
   |fn f τ=>simp[AM.iU]at G8
   |ptr τ=>simp[AM.iU]at G8
   |jf τ=>simp[AM.iU]at G8
   |sp _ _ _=>simp[AM.iU]at G8
  ·
   have BA:H id=none:=jx id (aH _) (by simp)
   cases m with
   |io τ=>simp[AM.iU]at G8
   |lo τ=>simp[AM.iU]at G8
   |fn f τ=>simp[AM.acn]at hmf
   |jf τ=>simp[AM.acn]at hmf
   |v τ=>
    have YC:bK (.v τ::ms) (v::E5) ps=bK ms E5 ps:=rfl
    rw[YC]at wV oT kG GJ
    simp only[A1]at h1
    obtain⟨ν',r1,r2,r3,r4,r5,r6⟩:=ni (ms:=ms) (x:=ui x) (us:=E5) (ps:=ps) (id:=id+1) (io:=io) (used:=used) hm h2 Jn (by simpa [nF]using DW) CP zX (λi h3 h4=>jx i ω (by simp only[aT];omega)) hold wV oT kG GJ w9
    refine⟨ν',r1,?_,r3,λi h3 h4=>r4 i h3 (by simp only[aT]at h4;omega),λi h3 h4 e he=> ?_,r6⟩
    ·simp only[xv,jP,VR];exact⟨h1,r2⟩
    ·by_cases h5:id+1≤i
     ·exact r5 i h5 (by simp only[aT]at h4;omega) e he
     ·have ct:i=id:=ω
      subst ct
      by_cases hk:i∈keys io
      ·obtain⟨q',oR,FL⟩:=cY.1 hk
       have h9:=zX q' oR
       rw[FL,BA]at h9;cases h9
      ·have:=r4 i hk (.inl ω)
       rw[BA]at this
       have he:cU H (iD ms (ui x) (i+1) io).2.1 i=some e:=he
       rw[this]at he;cases he
   |own τ=>
    have YC:bK (.own τ::ms) (v::E5) ps=(fD v).toList++bK ms E5 ps:=rfl
    rw[YC]at wV oT kG GJ
    simp only[A1]at h1
    have o9: ∀b,fD v=some b→ ∀i e',H i=some e'→e'.mut→fD (ν i)≠some b:=by
     intro b hb i e' hi ji fb
     have ke:b∈(fD v).toList++bK ms E5 ps:=cX _ (by rw[hb];simp)
     rcases hold i e' b hi ji fb with⟨h3,h4⟩|h3
     ·exact(oT b ke).elim (λh'=>ω) h4
     ·exact kq wV h3 ke
    have YD: ∀b,fD v=some b→ ¬c.M0 b:=by
     intro b hb h0
     have ke:b∈(fD v).toList:=by rw[hb];simp
     obtain⟨p,hp,hpb⟩:=GJ b (cX _ ke) h0
     exact kq (pE.1 wV).2.1 ke (RR.G7 h2 p hp b hpb)
    have yP:=Mem.xN (c:=c) hm (id:=id) (v:=v) (e:= .own τ (q4 x)) (λe' uw=>by rw[BA]at uw;cases uw) h1 o9 (λb hb=>kG b (cX _ (by rw[hb];simp))) (λb e0 l0 _ hb=>YD b hb) (.inl BA)
    have zr: ∀q∈io,q.1≠id:=λq hq e=>by
     have h9:=zX q hq
     rw[e,BA]at h9;cases h9
    have hν2: ∀i,i≠id→updν ν id v i=ν i:=λi hi=>by simp[updν,hi]
    obtain⟨ν',r1,r2,r3,r4,r5,r6⟩:=ni (ms:=ms) (x:=ui x) (us:=E5) (ps:=ps) (id:=id+1) (io:=io) (used:=used++(fD v).toList) yP h2
     (by rw[Jn];exact pU λq hq=>(hν2 _ (zr q hq)).symm) (by simpa [nF]using DW) CP
     (λq hq=>by rw[az _ _ (zr q hq)];exact zX q hq)
     (λi h3 h4=>by rw[az _ _ ω];exact jx i ω (by simp only[aT];omega))
     (λi e b hi ji hb=>by
      by_cases ct:i=id
      ·subst ct
       have:updν ν i v i=v:=by simp[updν]
       rw[this]at hb
       exact .inr (dD _ (by rw[hb];simp))
      ·rw[az _ _ ct]at hi
       rw[hν2 i ct]at hb
       exact(hold i e b hi ji hb).imp (λh=>h) (cX _))
     (by rw[bF];exact wV) (λb hb=>oT b (dD _ hb)) (λb hb=>kG b (dD _ hb)) (λb hb=>GJ b (dD _ hb)) (λq hq e he b hb=>w9 q hq e he b (by rw[hν2 _ (zr q hq)]at hb;exact hb))
    have YE:id∉keys io:=λhk=>by
     obtain⟨q,hq,FL⟩:=cY.1 hk
     exact zr q hq FL
    have pH:cU (cm H id (some (.own τ (q4 x)))) (iD ms (ui x) (id+1) io).2.1 id=some (.own τ (q4 x)):=by
     rw[r4 id YE (.inl ω),ay]
    refine⟨ν',r1,?_,λi hi=> ?_,λi h3 h4=> ?_,λi h3 h4 e he=> ?_,r6⟩
    ·simp only[xv,jP,VR]
     refine⟨⟨?_,?_⟩,r2⟩
     ·show cU (cm H id (some (.own τ (q4 x)))) (iD ms (ui x) (id+1) io).2.1 id≠none
      rw[pH];simp
     ·rw[r3 id (by rw[ay];simp)];simp[updν]
    ·have ct:i≠id:=λe=>hi (e▸BA)
     rw[r3 i (by rw[az _ _ ct];exact hi),hν2 i ct]
    ·have ct:i≠id:=by simp only[aT]at h4;omega
     have:=r4 i h3 (by simp only[aT]at h4;omega)
     rw[az _ _ ct]at this
     exact this
    ·by_cases h5:id+1≤i
     ·exact r5 i h5 (by simp only[aT]at h4;omega) e he
     ·have ct:i=id:=ω
      subst ct
      have he:cU (cm H i (some (.own τ (q4 x)))) (iD ms (ui x) (i+1) io).2.1 i=some e:=he
      rw[pH]at he;cases he
      exact .inl ⟨τ,_,rfl⟩
   |sp τ n e=>
    simp only[A1]at h1
    obtain⟨cs,kf,u,l,z,hv,hq,Yr,uh,hu,so⟩:=h1
    obtain⟨x1,R6,_,avv,hz⟩:=GR so
    cases R6
    obtain⟨z0,zB,FM⟩:=hz []
    have hrz:Rd w M τ (eQ kf (gy τ n) [.slice none 0 0]) z0:=by
     obtain⟨υ,y,o,k',hf,ug,Ud⟩:=lf (FM _ some)
     obtain⟨rfl,rfl⟩:=hf.eq
     obtain⟨e1,FJ⟩:=bA ug
     obtain⟨x',o4,_,kD⟩:=Ud _ _ FJ
     cases o4
     refine kD w M kf _ Yr ?_
     have VN:Rd w M (.slice e) [.slice none 0 0] []:=by
      simp only[Rd]
      exact⟨none,0,rfl,aH _,λi hi=>by simp at hi⟩
     exact VN.aoZ _
    have Vy:xv (.sp τ n e) (q4 x) id=(.Jy τ z0 n id,[(id,some (.own e l))]):=by
     simp only[xv]
     rw[avv,zB]
    show ∃ν',Mem c (cU H ((xv (.sp τ n e) (q4 x) id).2++(iD ms (ui x) (id+1) io).2.1)) w M ν'∧jP w M (cU H ((xv (.sp τ n e) (q4 x) id).2++(iD ms (ui x) (id+1) io).2.1)) ν' ((xv (.sp τ n e) (q4 x) id).1::(iD ms (ui x) (id+1) io).1) (v::E5)∧(∀i,H i≠none→ν' i=ν i)∧
     (∀i,i∉keys io→(i<id∨id+(AM.sp τ n e::ms).length≤i)→cU H ((xv (.sp τ n e) (q4 x) id).2++(iD ms (ui x) (id+1) io).2.1) i=H i)∧(∀i,id≤i→i<id+(AM.sp τ n e::ms).length→ ∀e9,cU H ((xv (.sp τ n e) (q4 x) id).2++(iD ms (ui x) (id+1) io).2.1) i=some e9→(∃e0 l0,e9= .own e0 l0)∨ ∃τ0 z0,e9= .obj τ0 z0)∧
     (∀q∈io,IoE (cU H ((xv (.sp τ n e) (q4 x) id).2++(iD ms (ui x) (id+1) io).2.1)) q)
    rw[Vy]
    have YC:bK (.sp τ n e::ms) (v::E5) ps=(fD u).toList++bK ms E5 ps:=by
     show dA (.sp τ n e) v++bK ms E5 ps=_
     rw[hv,(yS hq Yr uh).1]
    rw[YC]at wV oT kG GJ
    have o9: ∀b,fD u=some b→ ∀i e',H i=some e'→e'.mut→fD (ν i)≠some b:=by
     intro b hb i e' hi ji fb
     have ke:b∈(fD u).toList++bK ms E5 ps:=cX _ (by rw[hb];simp)
     rcases hold i e' b hi ji fb with⟨h3,h4⟩|h3
     ·exact(oT b ke).elim (λh'=>ω) h4
     ·exact kq wV h3 ke
    have YD: ∀b,fD u=some b→ ¬c.M0 b:=by
     intro b hb h0
     have ke:b∈(fD u).toList:=by rw[hb];simp
     obtain⟨p,hp,hpb⟩:=GJ b (cX _ ke) h0
     exact kq (pE.1 wV).2.1 ke (RR.G7 h2 p hp b hpb)
    have yP:=Mem.xN (c:=c) hm (id:=id) (v:=u) (e:= .own e l) (λe' uw=>by rw[BA]at uw;cases uw) hu o9 (λb hb=>kG b (cX _ (by rw[hb];simp))) (λb e0 l0 _ hb=>YD b hb) (.inl BA)
    have zr: ∀q∈io,q.1≠id:=λq hq e=>by
     have h9:=zX q hq
     rw[e,BA]at h9;cases h9
    have hν2: ∀i,i≠id→updν ν id u i=ν i:=λi hi=>by simp[updν,hi]
    obtain⟨ν',r1,r2,r3,r4,r5,r6⟩:=ni (ms:=ms) (x:=ui x) (us:=E5) (ps:=ps) (id:=id+1) (io:=io) (used:=used++(fD u).toList) yP h2
     (by rw[Jn];exact pU λq hq=>(hν2 _ (zr q hq)).symm) (by simpa [nF]using DW) CP
     (λq hq=>by rw[az _ _ (zr q hq)];exact zX q hq)
     (λi h3 h4=>by rw[az _ _ ω];exact jx i ω (by simp only[aT];omega))
     (λi e9 b hi ji hb=>by
      by_cases ct:i=id
      ·subst ct
       have:updν ν i u i=u:=by simp[updν]
       rw[this]at hb
       exact .inr (dD _ (by rw[hb];simp))
      ·rw[az _ _ ct]at hi
       rw[hν2 i ct]at hb
       exact(hold i e9 b hi ji hb).imp (λh=>h) (cX _))
     (by rw[bF];exact wV) (λb hb=>oT b (dD _ hb)) (λb hb=>kG b (dD _ hb)) (λb hb=>GJ b (dD _ hb)) (λq hq e he b hb=>w9 q hq e he b (by rw[hν2 _ (zr q hq)]at hb;exact hb))
    have YE:id∉keys io:=λhk=>by
     obtain⟨q,hq,FL⟩:=cY.1 hk
     exact zr q hq FL
    have pH:cU (cm H id (some (.own e l))) (iD ms (ui x) (id+1) io).2.1 id=some (.own e l):=by
     rw[r4 id YE (.inl ω),ay]
    refine⟨ν',r1,?_,λi hi=> ?_,λi h3 h4=> ?_,λi h3 h4 e9 he=> ?_,r6⟩
    ·simp only[jP,VR]
     refine⟨⟨cs,eQ kf (gy τ n) [.slice none 0 0],hv,hrz,?_,?_,hq⟩,r2⟩
     ·rw[r3 id (by rw[ay];simp),uR (yS (e:=e) hq Yr uh).2,uh];simp[updν]
     ·show cU (cm H id (some (.own e l))) (iD ms (ui x) (id+1) io).2.1 id≠none
      rw[pH];simp
    ·have ct:i≠id:=λe=>hi (e▸BA)
     rw[r3 i (by rw[az _ _ ct];exact hi),hν2 i ct]
    ·have ct:i≠id:=by simp only[aT]at h4;omega
     have:=r4 i h3 (by simp only[aT]at h4;omega)
     rw[az _ _ ct]at this
     exact this
    ·by_cases h5:id+1≤i
     ·exact r5 i h5 (by simp only[aT]at h4;omega) e9 he
     ·have ct:i=id:=ω
      subst ct
      have he:cU (cm H i (some (.own e l))) (iD ms (ui x) (i+1) io).2.1 i=some e9:=he
      rw[pH]at he;cases he
      exact .inl ⟨e,_,rfl⟩
   |ptr τ=>
    have YC:bK (.ptr τ::ms) (v::E5) ps=(fD v).toList++bK ms E5 ps:=rfl
    rw[YC]at wV oT kG GJ
    simp only[A1]at h1
    have o9: ∀b,fD v=some b→ ∀i e',H i=some e'→e'.mut→fD (ν i)≠some b:=by
     intro b hb i e' hi ji fb
     have ke:b∈(fD v).toList++bK ms E5 ps:=cX _ (by rw[hb];simp)
     rcases hold i e' b hi ji fb with⟨h3,h4⟩|h3
     ·exact(oT b ke).elim (λh'=>ω) h4
     ·exact kq wV h3 ke
    have yP:=Mem.xN (c:=c) hm (id:=id) (v:=v) (e:= .obj τ (q4 x)) (λe' uw=>by rw[BA]at uw;cases uw) h1 o9 (λb hb=>kG b (cX _ (by rw[hb];simp))) (λb e0 l0 he _=>by cases he) (.inl BA)
    have zr: ∀q∈io,q.1≠id:=λq hq e=>by
     have h9:=zX q hq
     rw[e,BA]at h9;cases h9
    have hν2: ∀i,i≠id→updν ν id v i=ν i:=λi hi=>by simp[updν,hi]
    obtain⟨ν',r1,r2,r3,r4,r5,r6⟩:=ni (ms:=ms) (x:=ui x) (us:=E5) (ps:=ps) (id:=id+1) (io:=io) (used:=used++(fD v).toList) yP h2
     (by rw[Jn];exact pU λq hq=>(hν2 _ (zr q hq)).symm) (by simpa [nF]using DW) CP
     (λq hq=>by rw[az _ _ (zr q hq)];exact zX q hq)
     (λi h3 h4=>by rw[az _ _ ω];exact jx i ω (by simp only[aT];omega))
     (λi e b hi ji hb=>by
      by_cases ct:i=id
      ·subst ct
       have:updν ν i v i=v:=by simp[updν]
       rw[this]at hb
       exact .inr (dD _ (by rw[hb];simp))
      ·rw[az _ _ ct]at hi
       rw[hν2 i ct]at hb
       exact(hold i e b hi ji hb).imp (λh=>h) (cX _))
     (by rw[bF];exact wV) (λb hb=>oT b (dD _ hb)) (λb hb=>kG b (dD _ hb)) (λb hb=>GJ b (dD _ hb)) (λq hq e he b hb=>w9 q hq e he b (by rw[hν2 _ (zr q hq)]at hb;exact hb))
    have YE:id∉keys io:=λhk=>by
     obtain⟨q,hq,FL⟩:=cY.1 hk
     exact zr q hq FL
    have pH:cU (cm H id (some (.obj τ (q4 x)))) (iD ms (ui x) (id+1) io).2.1 id=some (.obj τ (q4 x)):=by
     rw[r4 id YE (.inl ω),ay]
    refine⟨ν',r1,?_,λi hi=> ?_,λi h3 h4=> ?_,λi h3 h4 e he=> ?_,r6⟩
    ·simp only[xv,jP,VR]
     refine⟨⟨_,pH,trivial,?_⟩,r2⟩
     simp only[A1,ER]at h1
     obtain⟨b,cs,t,YB,_⟩:=h1
     exact⟨b,by rw[r3 id (by rw[ay];simp)];simp[updν,YB],YB⟩
    ·have ct:i≠id:=λe=>hi (e▸BA)
     rw[r3 i (by rw[az _ _ ct];exact hi),hν2 i ct]
    ·have ct:i≠id:=by simp only[aT]at h4;omega
     have:=r4 i h3 (by simp only[aT]at h4;omega)
     rw[az _ _ ct]at this
     exact this
    ·by_cases h5:id+1≤i
     ·exact r5 i h5 (by simp only[aT]at h4;omega) e he
     ·have ct:i=id:=ω
      subst ct
      have he:cU (cm H i (some (.obj τ (q4 x)))) (iD ms (ui x) (i+1) io).2.1 i=some e:=he
      rw[pH]at he;cases he
      exact .inr ⟨τ,_,rfl⟩
end VM
end
