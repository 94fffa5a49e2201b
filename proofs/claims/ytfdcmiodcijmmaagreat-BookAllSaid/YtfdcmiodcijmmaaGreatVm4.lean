/- A part of the proof of BookAll of layer 18: a machine that reads a function of the program as an equation between values. -/
import Derived.Test.YtfdcmiodcijmmaaGreatVm3
set_option linter.all false
section
namespace VM
open Go
variable{P:Program}{E:Env}{o:Oper}{a:Act}{w:World}{M:Nat→Prop}{ν:Nat→Value}{σ:St}{c:Ctx}{α:Type}{r:α}{next:Act→World→Prop}{Q:Exit→Act→World→Prop}
def lP:{m:AM}→{ms:List AM}→HP (m::ms)→m.den
 |_,[],x=>x
 |_,_::_,x=>x.1
def nP:{m:AM}→{ms:List AM}→HP (m::ms)→HP ms
 |_,[],_=>()
 |_,_::_,x=>x.2
def AM.eU:AM→Bool
 | .io _| .lo _=>true
 |_=>false
def AM.NR:AM→Bool
 | .fn _ _| .ft _=>true
 |_=>false
def A1(w:World)(M:Nat→Prop):(m:AM)→m.den→Value→Prop
 | .v τ,x,v=>V w M τ v x
 | .own e,x,v=>ER w M v (.own e x)
 | .io τ,x,v=>ER w M v (.obj τ x)
 | .fn f τ,x,v=>VR w M (λ_=>none) (λ_=>undef) (.Dh f (lA τ x)) v
 | .ptr τ,x,v=>ER w M v (.obj τ x)
 | .ft τ,x,v=>VR w M (λ_=>none) (λ_=>undef) (.mw τ x) v
 | .lo e,x,v=>ER w M v (.own e x)
 | .sp τ n e,x,v=> ∃(cs:Array Value) (fR:List Value) (u:Value) (l:List e.den) (z:τ.den),v= .agg cs∧oI τ n=true∧Rd w M τ fR z∧cs.toList=cL fR (dO τ n) [u]∧ER w M u (.own e l)∧
  dz τ z n (fun υ' _ k'=>bw (.slice e) υ' l k') some=some x
def Wk(n:Nat):Value→Option Value
 | .agg cs=>cs.toList[n]?
 |_=>none
def gj(w:World)(M:Nat→Prop):(ms:List AM)→HP ms→List Value→Prop
 |[],_,vs=>vs=[]
 |_::ms,x,vs=> ∃v CP,vs=v::CP∧A1 w M _ (lP x) v∧gj w M ms (nP x) CP
def cf:AM→Value→List Nat
 | .own _,v| .io _,v| .ptr _,v| .lo _,v=>(dd v).toList
 | .sp τ n _,v=>((Wk (dO τ n) v).bind dd).toList
 |_,_=>[]
theorem ra{τ:Ty}{n:Nat}{e:Ty}{cs:Array Value}{fR:List Value}{u:Value}{z:τ.den}(hq:oI τ n=true)(hr:Rd w M τ fR z)(nO:cs.toList=cL fR (dO τ n) [u]):cf (.sp τ n e) (.agg cs)=(dd u).toList∧dO τ n<fR.length:=by
 obtain⟨e',_,hf⟩:=sg hq
 obtain⟨y,o,zS⟩:=jm hf z
 have hb:=zS.bound
 have ho:=zS.eq.2
 subst ho
 rw[show(Ty.slice e').size=1 from rfl]at hb
 have hl:=hr.length
 have dv:dO τ n<fR.length:=ω
 refine⟨?_,dv⟩
 show((cs.toList[dO τ n]?).bind dd).toList=_
 rw[nO,qV dv];rfl
def cF:List AM→List Value→List Nat
 |m::ms,v::vs=>cf m v++cF ms vs
 |_,_=>[]
def du:List AM→List Value→List Value
 |m::ms,v::vs=>if m.eU then v::du ms vs else du ms vs
 |_,_=>[]
def iX:List AM→List AM
 | .io τ::ms=> .io τ::iX ms
 | .lo e::ms=> .lo e::iX ms
 |_::ms=>iX ms
 |[]=>[]
def RR(w:World)(M:Nat→Prop):(ms:List AM)→HP ms→List Value→List Value→Prop
 |[],_,vs,ps=>vs=[]∧ps=[]
 |m::ms,x,vs,ps=>(∃p zU,m.eU=true∧ps=p::zU∧A1 w M m (lP x) p∧RR w M ms (nP x) vs zU)∨
  (∃v CP,m.eU=false∧m.NR=false∧vs=v::CP∧A1 w M m (lP x) v∧RR w M ms (nP x) CP ps)
def aO:List AM→List Value→List Value→List Nat
 |[],_,_=>[]
 |m::ms,vs,ps=>if m.eU then cf m (ps.headD undef)++aO ms vs ps.tail else cf m (vs.headD undef)++aO ms vs.tail ps
def Ty.flat:Ty→Bool
 | .slice _=>false
 | .pair a b=>a.flat&&b.flat
 | .arr _ e=>e.flat
 |_=>true
def AM.flat:AM→Bool
 | .v τ| .io τ| .own τ| .ptr τ| .lo τ=>τ.flat
 | .fn _ _| .ft _| .sp _ _ _=>false
def qt(vs:List Value):Value:=if h:vs.length=1 then vs[0]else .tuple vs.toArray
structure Left(w:World)(M0:Nat→Prop)(hs:List Nat)(w':World)(M':Nat→Prop):Prop where
 sub: ∀b,M0 b→M' b
 xT: ∀b,M' b→b<w'.heap.size
 less: ∀b,b<w.heap.size→M' b→M0 b∨b∈hs
 frame: ∀b,b<w.heap.size→b∉hs→w'.heap[b]? =w.heap[b]?
 size:w.heap.size≤w'.heap.size
 os:w'.os=w.os
 tape:w'.tape=w.tape
 output:w'.output=w.output
def DG(P:Program)(f:FuncId)(args:Array Value)(w:World)(R:Value→World→Prop):Prop:=
 ∀(o:Oper) (a:Act) (next:Act→World→Prop) (Q:Exit→Act→World→Prop),(∀v w',R v w'→next (a.put o.dst v) w')→o.upon P a next Q ((callFunc f args).run P w)
theorem DG.mono{f:FuncId}{args:Array Value}{R R':Value→World→Prop}(h:DG P f args w R)(hr: ∀v w',R v w'→R' v w'):DG P f args w R':=
 λo a next Q hn=>h o a next Q λv w' hv=>hn v w' (hr v w' hv)
theorem nQ{f:FuncId}{fn:Func}{args:Array Value}{R:Value→World→Prop}(hf:P.funcs[f]? =some fn)(hn:(fn.name== "runtime.NumGoroutine")=false)(hb:fn.body.isNone=false)
  (h:Calls P f args w λe w'=> ∃v,e= .returned v∧R v w'):DG P f args w R:=by
 intro o a next Q pv
 have hn': ¬fn.name= "runtime.NumGoroutine" :=by simpa using hn
 have cY: ¬fn.body=none:=λe=>by rw[e]at hb;cases hb
 have:(callFunc f args).run P w= .ok (.enter f args) w:=by simp[callFunc,hf,hn',cY]
 rw[this,Oper.upon_enter]
 refine Calls.mono h ?_
 rintro e w' ⟨v,rfl,hR⟩
 exact pv v w' hR
theorem Ah{f:FuncId}{args:Array Value}{R:Value→World→Prop}{v:Value}{w':World}(h:(callFunc f args).run P w= .ok (.value v) w')(hR:R v w'):DG P f args w R:=by
 intro o a next Q pv
 rw[h,Oper.upon_value]
 exact pv v w' hR
structure fj(P:Program)(f:FuncId)(S:iI):Prop where
 quiet:S.quiet=true→S.res.all AM.flat=true
 ios:iX S.args=iX S.res
 call: ∀(M0:Nat→Prop) (w:World) (vs:List Value) (x:HP S.args) (y:HP S.res),(∀b,M0 b→b<w.heap.size)→
  gj w (λb=>M0 b∨b∈cF S.args vs) S.args x vs→(cF S.args vs).Nodup→(∀b∈cF S.args vs,¬M0 b)→S.run x=some y→
  DG P f vs.toArray w λv w'=> ∃us M',v=qt us∧RR w' M' S.res y us (du S.args vs)∧Left w M0 (cF S.args vs) w' M'∧
   (aO S.res us (du S.args vs)).Nodup∧ ∀b∈aO S.res us (du S.args vs),¬M0 b
theorem Rd.flat{w:World}{M M':Nat→Prop}: ∀{τ:Ty} {cs:List Value} {x:τ.den},τ.flat=true→Rd w M τ cs x→Rd w M' τ cs x
 | .int _,_,_,_,h| .bool,_,_,_,h| .str,_,_,_,h| .unit,_,_,_,h=>h
 | .slice _,_,_,hf,_=>by simp[Ty.flat]at hf
 | .pair a b,_,_,hf,h=>by
  simp only[Ty.flat,ba]at hf
  simp only[Rd]at h ⊢
  obtain⟨c1,c2,rfl,h1,h2⟩:=h
  exact⟨c1,c2,rfl,h1.flat hf.1,h2.flat hf.2⟩
 | .arr n e,_,x,hf,h=>by
  simp only[Ty.flat]at hf
  simp only[Rd]at h ⊢
  obtain⟨hn,IC,hc,rfl,hr⟩:=h
  exact⟨hn,IC,hc,rfl,λi hi po=>(hr i hi po).flat hf⟩
theorem A1.flat{w:World}{M M':Nat→Prop}(hM: ∀b,M b→M' b){m:AM}{x:m.den}{v:Value}(hf:m.flat=true)(h:A1 w M m x v):A1 w M' m x v:=by
 cases m with
 |v τ=>
  simp only[A1,V,AM.flat]at h hf ⊢
  split
  ·rename_i ha;rw[ae ha]at h;obtain⟨cs,h1,h⟩:=h;exact⟨cs,h1,h.flat hf⟩
  ·rename_i ha;rw[af ha]at h;exact h.flat hf
 |own e=>
  simp only[A1,ER,AM.flat]at h hf ⊢
  rcases h with h|⟨b,cs,t,cap,h1,h2,h3,h4,h5,h6,h7,h8⟩
  ·exact .inl h
  ·exact .inr ⟨b,cs,t,cap,h1,h2,hM b h3,h4,h5,h6,h7,λi hi=>(h8 i hi).flat hf⟩
 |io τ=>
  simp only[A1,ER,AM.flat]at h hf ⊢
  obtain⟨b,cs,t,h1,h2,h3,h4⟩:=h
  exact⟨b,cs,t,h1,h2,hM b h3,h4.flat hf⟩
 |fn f τ=>simp[AM.flat]at hf
 |ft τ=>simp[AM.flat]at hf
 |sp τ n e=>simp[AM.flat]at hf
 |lo e=>
  simp only[A1,ER,AM.flat]at h hf ⊢
  rcases h with h|⟨b,cs,t,cap,h1,h2,h3,h4,h5,h6,h7,h8⟩
  ·exact .inl h
  ·exact .inr ⟨b,cs,t,cap,h1,h2,hM b h3,h4,h5,h6,h7,λi hi=>(h8 i hi).flat hf⟩
 |ptr τ=>
  simp only[A1,ER,AM.flat]at h hf ⊢
  obtain⟨b,cs,t,h1,h2,h3,h4⟩:=h
  exact⟨b,cs,t,h1,h2,hM b h3,h4.flat hf⟩
theorem RR.flat{w:World}{M M':Nat→Prop}(hM: ∀b,M b→M' b): ∀{ms:List AM} {x:HP ms} {vs ps:List Value},ms.all AM.flat=true→RR w M ms x vs ps→RR w M' ms x vs ps
 |[],_,_,_,_,h=>h
 |m::ms,x,vs,ps,hf,h=>by
  simp only[pX,ba]at hf
  simp only[RR]at h ⊢
  rcases h with⟨p,zU,h1,h2,h3,h4⟩|⟨v,CP,h1,h2,h3,h4,h5⟩
  ·exact .inl ⟨p,zU,h1,h2,h3.flat hM hf.1,RR.flat hM hf.2 h4⟩
  ·exact .inr ⟨v,CP,h1,h2,h3,h4.flat hM hf.1,RR.flat hM hf.2 h5⟩
theorem A1.qu{w w':World}{M M':Nat→Prop}(k:dq w M w' M'){m:AM}{x:m.den}{v:Value}(hm: ∀b∈cf m v,w'.heap[b]? =w.heap[b]? ∧M' b)(h:A1 w M m x v):A1 w' M' m x v:=by
 cases m with
 |v τ=>exact V.bm k h
 |own e=>
  simp only[A1]at h ⊢
  exact ER.bm k (λ_ b hb=>hm b (by simp[cf,hb])) h
 |io τ=>
  simp only[A1]at h ⊢
  exact ER.bm k (λ_ b hb=>hm b (by simp[cf,hb])) h
 |fn f τ=>exact VR.bm k (.refl _ _) h
 |ft τ=>exact VR.bm k (.refl _ _) h
 |sp τ n e=>
  simp only[A1]at h ⊢
  obtain⟨cs,fR,u,l,z,rfl,hq,hr,nO,hu,hs⟩:=h
  exact⟨cs,fR,u,l,z,rfl,hq,hr.bm k,nO,ER.bm k (λ_ b hb=>hm b (by rw[(ra hq hr nO).1];simp[hb])) hu,hs⟩
 |lo e=>
  simp only[A1]at h ⊢
  exact ER.bm k (λ_ b hb=>hm b (by simp[cf,hb])) h
 |ptr τ=>
  simp only[A1]at h ⊢
  exact ER.bm k (λ_ b hb=>hm b (by simp[cf,hb])) h
theorem gj.qu{w w':World}{M M':Nat→Prop}(k:dq w M w' M'): ∀{ms:List AM} {x:HP ms} {vs:List Value},(∀b∈cF ms vs,w'.heap[b]? =w.heap[b]? ∧M' b)→gj w M ms x vs→gj w' M' ms x vs
 |[],_,_,_,h=>h
 |m::ms,x,vs,hm,h=>by
  simp only[gj]at h ⊢
  obtain⟨v,CP,rfl,h1,h2⟩:=h
  exact⟨v,CP,rfl,h1.qu k (λb hb=>hm b (by simp[cF,hb])),gj.qu k (λb hb=>hm b (by simp[cF,hb])) h2⟩
theorem RR.qu{w w':World}{M M':Nat→Prop}(k:dq w M w' M'): ∀{ms:List AM} {x:HP ms} {us ps:List Value},(∀b∈aO ms us ps,w'.heap[b]? =w.heap[b]? ∧M' b)→RR w M ms x us ps→RR w' M' ms x us ps
 |[],_,_,_,_,h=>h
 |m::ms,x,us,ps,hm,h=>by
  simp only[RR]at h ⊢
  rcases h with⟨p,zU,h1,rfl,h2,h3⟩|⟨v,wI,h1,h2,rfl,h3,h4⟩
  ·simp only[aO,h1,fO,nZ,n1,br]at hm
   exact .inl ⟨p,zU,h1,rfl,h2.qu k (λb hb=>hm b (.inl hb)),RR.qu k (λb hb=>hm b (.inr hb)) h3⟩
  ·simp only[aO,h1,fD,dW,nZ,n1,br]at hm
   exact .inr ⟨v,wI,h1,h2,rfl,h3.qu k (λb hb=>hm b (.inl hb)),RR.qu k (λb hb=>hm b (.inr hb)) h4⟩
theorem w5{H:Nat→Option aI}(hm:Mem c H w M ν){a:aM}{v:Value}(hv:VR w M H ν a v){τ:Ty}{k:τ.den→List Nat→fu→Option α}{r:α}(h:iH true a H τ k=some r):
  ∃y rd ups,k y rd ups=some r∧((ups=[]∧V w M τ v y)∨ ∃id e l,ups=[(id,some (.ke e l))]∧H id=some (.own e l)∧
   ∀M',(∀b,M' b↔(M b∧dd (ν id)≠some b))→V w M' τ v y):=by
 unfold iH at h
 split at h
 ·obtain⟨e,h⟩:=aJ h
  subst e
  simp only[VR]at hv
  exact⟨_,[],[],h,.inl ⟨rfl,hv⟩⟩
 ·obtain⟨e,h⟩:=aJ h
  subst e
  simp only[VR]at hv
  exact⟨_,[],[],h,.inl ⟨rfl,hv.1⟩⟩
 ·split at h
  ·rename_i e k' _
   simp only[VR]at hv
   obtain⟨a,rfl⟩:=hv
   refine⟨[],[],[],h,.inl ⟨rfl,V.slice.2 ?_⟩⟩
   simp only[Rd]
   exact⟨a,0,rfl,aB _,λi hi=>absurd hi (by simp)⟩
  ·cases h
 ·rename_i id
  simp only[VR]at hv
  obtain⟨_,rfl⟩:=hv
  split at h
  ·rename_i e l aF
   obtain⟨e',h⟩:=aJ h
   subst e'
   refine⟨_,_,_,h,.inr ⟨id,e,l,rfl,aF,λM' hM'=> ?_⟩⟩
   obtain⟨M2,_,hV,BJ⟩:=Tr.freeze hm aF
   have:M'=M2:=by funext b;exact propext ((hM' b).trans (BJ b).symm)
   rw[this];exact hV
  ·rename_i e l aF
   obtain⟨e',h⟩:=aJ h
   subst e'
   have:=hm.fM id _ aF
   simp only[ER]at this
   exact⟨_,_,_,h,.inl ⟨rfl,V.slice.2 this.1⟩⟩
  ·cases h
 ·cases h
theorem KP{H:Nat→Option aI}(hm:Mem c H w M ν): ∀{a:Ty} {x:aM} {v:Value} {k:a.den→List Nat→fu→Option α} {r:α},VR w M H ν x v→vr x H a k=some r→
  ∃y rd ups,k y rd ups=some r∧(ups=[]→VR w M (λ_=>none) (λ_=>undef) (vt a y) v):=by
 intro a x v k r hv h
 unfold vr at h
 split at h
 ·rename_i a k
  split at h
  ·rename_i υ z
   obtain⟨e1,h⟩:=aJ h
   subst e1
   refine⟨_,_,_,h,λ_=> ?_⟩
   simp only[vt,VR]at hv ⊢
   exact hv
  ·cases h
 ·rename_i k0 mD
  obtain⟨y,rd,ups,h,hy⟩:=w5 hm hv h
  refine⟨y,rd,ups,h,λhu=> ?_⟩
  rcases hy with⟨_,hy⟩|⟨_,_,_,h3,_⟩
  ·have:vt _ y= .val _ y:=by
    unfold vt
    split
    ·exact(mD _ _ rfl HEq.rfl).elim
    ·rfl
   rw[this]
   simp only[VR];exact hy
  ·rw[hu]at h3;cases h3
theorem yq{H:Nat→Option aI}(hm:Mem c H w M ν): ∀{τ:Ty} {lL:List aM} {vs:List Value} {k:τ.den→List Nat→fu→Option α} {r:α},fH w M H ν lL vs→mA H τ lL k=some r→
  ∃x rd ups,k x rd ups=some r∧(ups=[]→fH w M (λ_=>none) (λ_=>undef) (lA τ x) vs)
 | .unit,[],[],k,r,_,h=>⟨(),[],[],h,λ_=>by simp[lA,fH]⟩
 | .pair a b,x::xs,v::vs,k,r,hv,h=>by
  simp only[fH]at hv
  unfold mA at h
  obtain⟨y,rd,ups,h,hy⟩:=KP hm hv.1 h
  obtain⟨ys,qT,gu,h,Vn⟩:=yq hm hv.2 h
  refine⟨(y,ys),_,_,h,λhu=> ?_⟩
  have h1:ups=[]:=(Dc.1 hu).1
  have h2:gu=[]:=(Dc.1 hu).2
  simp only[lA,fH]
  exact⟨hy h1,Vn h2⟩
 | .unit,[],_::_,_,_,hv,_=>by simp[fH]at hv
 |_,_::_,[],_,_,hv,_=>by simp[fH]at hv
 | .unit,_::_,_,_,_,_,h=>by simp[mA]at h
 | .pair _ _,[],_,_,_,_,h=>by simp[mA]at h
 | .int _,_,_,_,_,_,h| .bool,_,_,_,_,_,h| .str,_,_,_,_,_,h| .slice _,_,_,_,_,_,h| .arr _ _,_,_,_,_,_,h=>by simp[mA]at h
end VM
end
section
namespace VM
open Go
variable{P:Program}{E:Env}{o:Oper}{a:Act}{w:World}{M:Nat→Prop}{ν:Nat→Value}{σ:St}{c:Ctx}{α:Type}{r:α}{next:Act→World→Prop}{Q:Exit→Act→World→Prop}
def keys{β:Type}(l:List (Nat×β)):List Nat:=l.map (·.1)
theorem ir{i:Nat}: ∀{ups:fu} {H:Nat→Option aI},i∉keys ups→bM H ups i=H i
 |[],_,_=>rfl
 |u::r,H,h=>by
  simp only[keys,bA,aV,not_or]at h
  show bM (a8 H u.1 u.2) r i=_
  rw[ir h.2,aq _ _ h.1]
theorem tJ(u:Nat×Option aI)(b:fu)(hb:u.1∉keys b): ∀(a:fu) (H:Nat→Option aI),bM H (a++u::b)=a8 (bM H (a++b)) u.1 u.2
 |[],H=>by
  show bM (a8 H u.1 u.2) b=a8 (bM H b) u.1 u.2
  induction b generalizing H with
  |nil=>rfl
  |cons v b ih=>
   simp only[keys,bA,aV,not_or]at hb
   show bM (a8 (a8 H u.1 u.2) v.1 v.2) b=a8 (bM (a8 H v.1 v.2) b) u.1 u.2
   rw[←ih hb.2]
   congr 1
   funext i
   by_cases h1:i=v.1
   ·subst h1;rw[al,aq _ _ (cZ hb.1),al]
   ·by_cases h2:i=u.1
    ·subst h2;rw[aq _ _ h1,al,al]
    ·rw[aq _ _ h1,aq _ _ h2,aq _ _ h2,aq _ _ h1]
 |v::a,H=>tJ u b hb a (a8 H v.1 v.2)
def Wl(H:Nat→Option aI)(q:Nat×AM):Prop:=(∃(τ:Ty) (x:τ.den),q.2= .io τ∧H q.1=some (.obj τ x))∨ ∃(e:Ty) (l:List e.den),q.2= .lo e∧H q.1=some (.own e l)
theorem Wl.some{H:Nat→Option aI}{q:Nat×AM}(h:Wl H q):H q.1≠none:=by
 rcases h with⟨_,x,_,h⟩|⟨e,l,_,h⟩<;>rw[h]<;>simp
structure gk(c:Ctx)(w:World)(M:Nat→Prop)(ν:Nat→Value)(H0 H1 Hq:Nat→Option aI)(M1:Nat→Prop)(uo uf:fu)(io:List (Nat×AM))(hs:List Nat):Prop where
 mem:Mem c H1 w M1 ν
 DH:Mem c Hq w M ν
 bm:dq w M w M1
 ext: ∀i,i∉keys io→bM H0 (uo++uf) i=H1 i
 KQ: ∀i,i∉keys io→bM H0 uo i=Hq i
 IW: ∀q∈io,H1 q.1=some .gone∧Hq q.1=some .gone∧Wl H0 q
 Wm:(keys io).Nodup
 ks: ∀i∈keys (uo++uf),∀e l,H1 i≠some (.own e l)
 Vo: ∀i∈keys (uo++uf),i∉keys io∧ ∃e l,H0 i=some (.own e l)
 fz:Fz Hq H1
 Sm: ∀u∈uo,u.2=some .gone
 Vp: ∀u∈uf,∃e l,u.2=some (.ke e l)∧H0 u.1=some (.own e l)
 nd:hs.Nodup
 hM: ∀b∈hs,M1 b
 DI: ∀b∈hs,c.B≤b∨c.may b
 none: ∀b∈hs,∀i e,Hq i=some e→e.mut→dd (ν i)≠some b
 Vq: ∀b∈hs,c.M0 b→ ∃q∈io,dd (ν q.1)=some b
 same: ∀i,i∉keys (uo++uf)→i∉keys io→H1 i=H0 i
theorem gk.start{H:Nat→Option aI}(hm:Mem c H w M ν):gk c w M ν H H H M [] [] [] []:=
 ⟨hm,hm,.refl w M,λ_ _=>rfl,λ_ _=>rfl,λq hq=>by simp at hq,by simp[keys],λi hi=>by simp[keys]at hi,λi hi=>by simp[keys]at hi,.refl H,λu hu=>by simp at hu,λu hu=>by simp at hu,by simp,λb hb=>by simp at hb,λb hb=>by simp at hb,λb hb=>by simp at hb,λb hb=>by simp at hb,λ_ _ _=>rfl⟩
theorem Fz.NS{H H1:Nat→Option aI}(h:Fz H H1){i:Nat}{e:Ty}{l:List e.den}(hi:H1 i=some (.own e l)):H i=some (.own e l):=by
 rcases h i with h'|⟨e',l',_,h'⟩
 ·rw[←h',hi]
 ·rw[hi]at h';cases h'
theorem Fz.Wn{H H1:Nat→Option aI}(h:Fz H H1){i:Nat}{e:Ty}{l:e.den}(hi:H1 i=some (.obj e l)):H i=some (.obj e l):=by
 rcases h i with h'|⟨e',l',_,h'⟩
 ·rw[←h',hi]
 ·rw[hi]at h';cases h'
theorem Fz.mut{H H1:Nat→Option aI}(h:Fz H H1){i:Nat}{e:aI}(hi:H1 i=some e)(hm:e.mut):H i=some e:=by
 cases e with
 |obj=>exact h.Wn hi
 |dT=>
  rcases h i with h'|⟨e',l',_,h'⟩
  ·rw[←h',hi]
  ·rw[hi]at h';cases h'
 |own=>exact h.NS hi
 |ke=>simp[aI.mut]at hm
 |gone=>simp[aI.mut]at hm
theorem gk.freeze{H0 H1 Hq:Nat→Option aI}{M1:Nat→Prop}{uo uf:fu}{io:List (Nat×AM)}{hs:List Nat}(h:gk c w M ν H0 H1 Hq M1 uo uf io hs){id:Nat}{e:Ty}{l:List e.den}(aF:H1 id=some (.own e l)):
  ∃M2,gk c w M ν H0 (a8 H1 id (some (.ke e l))) Hq M2 uo ((id,some (.ke e l))::uf) io hs∧dq w M1 w M2∧(∀b,M2 b↔(M1 b∧dd (ν id)≠some b)):=by
 obtain⟨M2,dP,_,BJ⟩:=Tr.freeze h.mem aF
 have pw:id∉keys io:=λhk=>by
  obtain⟨q,hq,rfl⟩:=cA.1 hk
  have:=(h.IW q hq).1
  rw[aF]at this;cases this
 have Kk:id∉keys (uo++uf):=λhk=>h.ks id hk e l aF
 have Sn:id∉keys uf:=λhk=>Kk (by simp only[keys,cH,br];exact .inr hk)
 have h0:H0 id=some (.own e l):=by rw[←h.same id Kk pw];exact aF
 have hq:Hq id=some (.own e l):=h.fz.NS aF
 have im: ∀i,i∈keys (uo++(id,some (aI.ke e l))::uf)↔i=id∨i∈keys (uo++uf):=by
  intro i
  simp only[keys,cH,bA,br,aV]
  constructor
  ·rintro(h|h|h)
   ·exact .inr (.inl h)
   ·exact .inl h
   ·exact .inr (.inr h)
  ·rintro(h|h|h)
   ·exact .inr (.inl h)
   ·exact .inl h
   ·exact .inr (.inr h)
 refine⟨M2,⟨dP.mem,h.DH,h.bm.trans dP.bm,λi hi=> ?_,h.KQ,λq lQ=> ?_,h.Wm,λi hi e' l'=> ?_,λi hi=> ?_,λi=> ?_,h.Sm,λu hu=> ?_,h.nd,λb hb=> ?_,h.DI,h.none,h.Vq,λi hi po=> ?_⟩,dP.bm,BJ⟩
 ·rw[tJ _ _ Sn]
  by_cases a7:i=id
  ·subst a7;rw[al,al]
  ·rw[aq _ _ a7,aq _ _ a7];exact h.ext i hi
 ·obtain⟨h1,h2,h3⟩:=h.IW q lQ
  have gY:q.1≠id:=λe=>pw (e▸dF lQ)
  exact⟨by rw[aq _ _ gY];exact h1,h2,h3⟩
 ·by_cases a7:i=id
  ·subst a7;rw[al];intro h';cases h'
  ·rw[aq _ _ a7]
   exact h.ks i (((im i).1 hi).resolve_left a7) e' l'
 ·rcases(im i).1 hi with rfl|hi
  ·exact⟨pw,e,l,h0⟩
  ·exact h.Vo i hi
 ·by_cases a7:i=id
  ·subst a7;exact .inr ⟨e,l,hq,al _ _ _⟩
  ·rw[aq _ _ a7];exact h.fz i
 ·rcases aV.1 hu with rfl|hu
  ·exact⟨e,l,rfl,h0⟩
  ·exact h.Vp u hu
 ·exact(BJ b).2 ⟨h.hM b hb,λcY=>h.none b hb id _ hq trivial cY⟩
 ·have gY:i≠id:=λe=>hi ((im i).2 (.inl e))
  rw[aq _ _ gY]
  exact h.same i (λh'=>hi ((im i).2 (.inr h'))) po
theorem gk.hand{H0 H1 Hq:Nat→Option aI}{M1:Nat→Prop}{uo uf:fu}{io:List (Nat×AM)}{hs:List Nat}(h:gk c w M ν H0 H1 Hq M1 uo uf io hs){id:Nat}{e:Ty}{l:List e.den}(aF:H1 id=some (.own e l)):
  gk c w M ν H0 (a8 H1 id (some .gone)) (a8 Hq id (some .gone)) M1 ((id,some .gone)::uo) uf io (hs++(dd (ν id)).toList):=by
 have pw:id∉keys io:=λhk=>by
  obtain⟨q,hq,rfl⟩:=cA.1 hk
  have:=(h.IW q hq).1
  rw[aF]at this;cases this
 have Kk:id∉keys (uo++uf):=λhk=>h.ks id hk e l aF
 have Sn:id∉keys uo:=λhk=>Kk (by simp only[keys,cH,br];exact .inl hk)
 have h0:H0 id=some (.own e l):=by rw[←h.same id Kk pw];exact aF
 have hq:Hq id=some (.own e l):=h.fz.NS aF
 have im: ∀i,i∈keys ((id,some aI.gone)::uo++uf)↔i=id∨i∈keys (uo++uf):=by
  intro i
  simp only[keys,cH,bA,nj,br,aV]
 have tB: ∀b,dd (ν id)=some b→b∉hs:=λb hb cY=>h.none b cY id _ hq trivial hb
 refine⟨(Tr.gone h.mem id).mem,(Tr.gone h.DH id).mem,h.bm,λi hi=> ?_,λi hi=> ?_,λq lQ=> ?_,h.Wm,λi hi e' l'=> ?_,λi hi=> ?_,λi=> ?_,λu hu=> ?_,h.Vp,?_,λb hb=> ?_,λb hb=> ?_,λb hb i e' hi hm=> ?_,λb hb Nf=> ?_,λi hi po=> ?_⟩
 ·have:=tJ (id,some .gone) (uo++uf) Kk [] H0
  simp only[c7]at this
  rw[nj,this]
  by_cases a7:i=id
  ·subst a7;rw[al,al]
  ·rw[aq _ _ a7,aq _ _ a7];exact h.ext i hi
 ·have:=tJ (id,some .gone) uo Sn [] H0
  simp only[c7]at this
  rw[this]
  by_cases a7:i=id
  ·subst a7;rw[al,al]
  ·rw[aq _ _ a7,aq _ _ a7];exact h.KQ i hi
 ·obtain⟨h1,h2,h3⟩:=h.IW q lQ
  have gY:q.1≠id:=λe=>pw (e▸dF lQ)
  exact⟨by rw[aq _ _ gY];exact h1,by rw[aq _ _ gY];exact h2,h3⟩
 ·by_cases a7:i=id
  ·subst a7;rw[al];intro h';cases h'
  ·rw[aq _ _ a7]
   exact h.ks i (((im i).1 hi).resolve_left a7) e' l'
 ·rcases(im i).1 hi with rfl|hi
  ·exact⟨pw,e,l,h0⟩
  ·exact h.Vo i hi
 ·by_cases a7:i=id
  ·subst a7;left;rw[al,al]
  ·rw[aq _ _ a7,aq _ _ a7];exact h.fz i
 ·rcases aV.1 hu with rfl|hu
  ·rfl
  ·exact h.Sm u hu
 ·refine kb.2 ⟨h.nd,?_,λx hx y hy=> ?_⟩
  ·cases dd (ν id)<;>simp
  ·rw[c5]at hy
   intro Ng;subst Ng
   exact tB x hy hx
 ·rcases br.1 hb with hb|hb
  ·exact h.hM b hb
  ·rw[c5]at hb
   exact(h.mem.fM id _ aF).qj trivial hb
 ·rcases br.1 hb with hb|hb
  ·exact h.DI b hb
  ·rw[c5]at hb
   exact h.mem.new id _ b aF trivial hb
 ·by_cases a7:i=id
  ·subst a7;rw[al]at hi;cases hi;simp[aI.mut]at hm
  ·rw[aq _ _ a7]at hi
   rcases br.1 hb with hb|hb
   ·exact h.none b hb i e' hi hm
   ·rw[c5]at hb
    intro cY
    exact h.DH.tt i id e' _ b a7 hi hm hq trivial cY hb
 ·rcases br.1 hb with hb|hb
  ·exact h.Vq b hb Nf
  ·rw[c5]at hb
   exact absurd Nf (h.mem.jE id e l b aF hb)
 ·have gY:i≠id:=λe=>hi ((im i).2 (.inl e))
  rw[aq _ _ gY]
  exact h.same i (λh'=>hi ((im i).2 (.inr h'))) po
theorem gk.So{H0 H1 Hq:Nat→Option aI}{M1:Nat→Prop}{uo uf:fu}{io:List (Nat×AM)}{hs:List Nat}(h:gk c w M ν H0 H1 Hq M1 uo uf io hs){id:Nat}{τ:Ty}{x:τ.den}(aF:H1 id=some (.obj τ x)):
  gk c w M ν H0 (a8 H1 id (some .gone)) (a8 Hq id (some .gone)) M1 uo uf (io++[(id,.io τ)]) (hs++(dd (ν id)).toList):=by
 have pw:id∉keys io:=λhk=>by
  obtain⟨q,hq,rfl⟩:=cA.1 hk
  have:=(h.IW q hq).1
  rw[aF]at this;cases this
 have hq:Hq id=some (.obj τ x):=h.fz.Wn aF
 have Kk:id∉keys (uo++uf):=λhk=>by
  have h1:=h.ext id pw
  obtain⟨_,e,l,h0⟩:=h.Vo id hk
  have key: ∀(ups:fu) (H:Nat→Option aI),(∀u∈ups,u.2=some .gone∨ ∃e l,u.2=some (.ke e l))→id∈keys ups→bM H ups id=some .gone∨ ∃e l,bM H ups id=some (.ke e l):=by
   intro ups
   induction ups with
   |nil=>intro H _ hk;simp[keys]at hk
   |cons u ups ih=>
    intro H hv hk
    by_cases IX:id∈keys ups
    ·exact ih _ (λv Gd=>hv v (aU _ Gd)) IX
    ·show bM (a8 H u.1 u.2) ups id=_∨ ∃e l,bM (a8 H u.1 u.2) ups id=_
     rw[ir IX]
     have Wc:id=u.1:=by
      simp only[keys,bA,aV]at hk IX
      exact hk.resolve_right IX
     rw[Wc,al]
     exact hv u bg
  have:=key (uo++uf) H0 (λu hu=>by
   rcases br.1 hu with hu|hu
   ·exact .inl (h.Sm u hu)
   ·obtain⟨e,l,h',_⟩:=h.Vp u hu;exact .inr ⟨e,l,h'⟩) hk
  rw[h1,aF]at this
  rcases this with h'|⟨_,_,h'⟩<;>cases h'
 have h0:H0 id=some (.obj τ x):=by rw[←h.same id Kk pw];exact aF
 have im: ∀i,i∈keys (io++[(id,.io τ)])↔i∈keys io∨i=id:=by
  intro i
  simp only[keys,cH,bA,eL,br,aV,List.not_mem_nil,or_false]
 have tB: ∀b,dd (ν id)=some b→b∉hs:=λb hb cY=>h.none b cY id _ hq trivial hb
 refine⟨(Tr.gone h.mem id).mem,(Tr.gone h.DH id).mem,h.bm,λi hi=> ?_,λi hi=> ?_,λq lQ=> ?_,?_,λi hi e' l'=> ?_,λi hi=> ?_,λi=> ?_,h.Sm,h.Vp,?_,λb hb=> ?_,λb hb=> ?_,λb hb i e' hi hm=> ?_,λb hb Nf=> ?_,λi hi po=> ?_⟩
 ·rw[aq _ _ (λe=>hi ((im i).2 (.inr e)))];exact h.ext i (λh'=>hi ((im i).2 (.inl h')))
 ·rw[aq _ _ (λe=>hi ((im i).2 (.inr e)))];exact h.KQ i (λh'=>hi ((im i).2 (.inl h')))
 ·rcases br.1 lQ with lQ|lQ
  ·obtain⟨h1,h2,h3⟩:=h.IW q lQ
   have gY:q.1≠id:=λe=>pw (e▸dF lQ)
   exact⟨by rw[aq _ _ gY];exact h1,by rw[aq _ _ gY];exact h2,h3⟩
  ·rw[dw]at lQ;subst lQ
   exact⟨al _ _ _,al _ _ _,.inl ⟨τ,x,rfl,h0⟩⟩
 ·simp only[keys,cH,bA,eL]
  refine kb.2 ⟨h.Wm,by simp,λx hx y hy=> ?_⟩
  rw[dw]at hy;subst hy
  intro e;exact pw (e▸hx)
 ·by_cases a7:i=id
  ·subst a7;rw[al];intro h';cases h'
  ·rw[aq _ _ a7];exact h.ks i hi e' l'
 ·obtain⟨h1,h2⟩:=h.Vo i hi
  exact⟨λh'=>((im i).1 h').elim h1 (λe=>Kk (e▸hi)),h2⟩
 ·by_cases a7:i=id
  ·subst a7;left;rw[al,al]
  ·rw[aq _ _ a7,aq _ _ a7];exact h.fz i
 ·refine kb.2 ⟨h.nd,?_,λx hx y hy=> ?_⟩
  ·cases dd (ν id)<;>simp
  ·rw[c5]at hy
   intro Ng;subst Ng
   exact tB x hy hx
 ·rcases br.1 hb with hb|hb
  ·exact h.hM b hb
  ·rw[c5]at hb
   exact(h.mem.fM id _ aF).qj trivial hb
 ·rcases br.1 hb with hb|hb
  ·exact h.DI b hb
  ·rw[c5]at hb
   exact h.mem.new id _ b aF trivial hb
 ·by_cases a7:i=id
  ·subst a7;rw[al]at hi;cases hi;simp[aI.mut]at hm
  ·rw[aq _ _ a7]at hi
   rcases br.1 hb with hb|hb
   ·exact h.none b hb i e' hi hm
   ·rw[c5]at hb
    intro cY
    exact h.DH.tt i id e' _ b a7 hi hm hq trivial cY hb
 ·rcases br.1 hb with hb|hb
  ·obtain⟨q,Wo,M9⟩:=h.Vq b hb Nf
   exact⟨q,bG _ Wo,M9⟩
  ·rw[c5]at hb
   exact⟨(id,.io τ),by simp,hb⟩
 ·have gY:i≠id:=λe=>po ((im i).2 (.inr e))
  rw[aq _ _ gY]
  exact h.same i hi (λh'=>po ((im i).2 (.inl h')))
theorem gk.Q4{H0 H1 Hq:Nat→Option aI}{M1:Nat→Prop}{uo uf:fu}{io:List (Nat×AM)}{hs:List Nat}(h:gk c w M ν H0 H1 Hq M1 uo uf io hs){id:Nat}{e:Ty}{l:List e.den}(aF:H1 id=some (.own e l)):
  gk c w M ν H0 (a8 H1 id (some .gone)) (a8 Hq id (some .gone)) M1 uo uf (io++[(id,.lo e)]) (hs++(dd (ν id)).toList):=by
 have pw:id∉keys io:=λhk=>by
  obtain⟨q,hq,rfl⟩:=cA.1 hk
  have:=(h.IW q hq).1
  rw[aF]at this;cases this
 have hq:Hq id=some (.own e l):=h.fz.NS aF
 have Kk:id∉keys (uo++uf):=λhk=>h.ks id hk e l aF
 have h0:H0 id=some (.own e l):=by rw[←h.same id Kk pw];exact aF
 have im: ∀i,i∈keys (io++[(id,.lo e)])↔i∈keys io∨i=id:=by
  intro i
  simp only[keys,cH,bA,eL,br,aV,List.not_mem_nil,or_false]
 have tB: ∀b,dd (ν id)=some b→b∉hs:=λb hb cY=>h.none b cY id _ hq trivial hb
 refine⟨(Tr.gone h.mem id).mem,(Tr.gone h.DH id).mem,h.bm,λi hi=> ?_,λi hi=> ?_,λq lQ=> ?_,?_,λi hi e' l'=> ?_,λi hi=> ?_,λi=> ?_,h.Sm,h.Vp,?_,λb hb=> ?_,λb hb=> ?_,λb hb i e' hi hm=> ?_,λb hb Nf=> ?_,λi hi po=> ?_⟩
 ·rw[aq _ _ (λe=>hi ((im i).2 (.inr e)))];exact h.ext i (λh'=>hi ((im i).2 (.inl h')))
 ·rw[aq _ _ (λe=>hi ((im i).2 (.inr e)))];exact h.KQ i (λh'=>hi ((im i).2 (.inl h')))
 ·rcases br.1 lQ with lQ|lQ
  ·obtain⟨h1,h2,h3⟩:=h.IW q lQ
   have gY:q.1≠id:=λe=>pw (e▸dF lQ)
   exact⟨by rw[aq _ _ gY];exact h1,by rw[aq _ _ gY];exact h2,h3⟩
  ·rw[dw]at lQ;subst lQ
   exact⟨al _ _ _,al _ _ _,.inr ⟨e,l,rfl,h0⟩⟩
 ·simp only[keys,cH,bA,eL]
  refine kb.2 ⟨h.Wm,by simp,λx hx y hy=> ?_⟩
  rw[dw]at hy;subst hy
  intro e;exact pw (e▸hx)
 ·by_cases a7:i=id
  ·subst a7;rw[al];intro h';cases h'
  ·rw[aq _ _ a7];exact h.ks i hi e' l'
 ·obtain⟨h1,h2⟩:=h.Vo i hi
  exact⟨λh'=>((im i).1 h').elim h1 (λe=>Kk (e▸hi)),h2⟩
 ·by_cases a7:i=id
  ·subst a7;left;rw[al,al]
  ·rw[aq _ _ a7,aq _ _ a7];exact h.fz i
 ·refine kb.2 ⟨h.nd,?_,λx hx y hy=> ?_⟩
  ·cases dd (ν id)<;>simp
  ·rw[c5]at hy
   intro Ng;subst Ng
   exact tB x hy hx
 ·rcases br.1 hb with hb|hb
  ·exact h.hM b hb
  ·rw[c5]at hb
   exact(h.mem.fM id _ aF).qj trivial hb
 ·rcases br.1 hb with hb|hb
  ·exact h.DI b hb
  ·rw[c5]at hb
   exact h.mem.new id _ b aF trivial hb
 ·by_cases a7:i=id
  ·subst a7;rw[al]at hi;cases hi;simp[aI.mut]at hm
  ·rw[aq _ _ a7]at hi
   rcases br.1 hb with hb|hb
   ·exact h.none b hb i e' hi hm
   ·rw[c5]at hb
    intro cY
    exact h.DH.tt i id e' _ b a7 hi hm hq trivial cY hb
 ·rcases br.1 hb with hb|hb
  ·obtain⟨q,Wo,M9⟩:=h.Vq b hb Nf
   exact⟨q,bG _ Wo,M9⟩
  ·rw[c5]at hb
   exact⟨(id,.lo e),by simp,hb⟩
 ·have gY:i≠id:=λe=>po ((im i).2 (.inr e))
  rw[aq _ _ gY]
  exact h.same i hi (λh'=>po ((im i).2 (.inl h')))
end VM
end
section
namespace VM
open Go
variable{P:Program}{E:Env}{o:Oper}{a:Act}{w:World}{M:Nat→Prop}{ν:Nat→Value}{σ:St}{c:Ctx}{α:Type}{r:α}{next:Act→World→Prop}{Q:Exit→Act→World→Prop}
theorem nM.Nh{H:Nat→Option aI}{id:Nat}{e e':aI}(aF:H id=some e)(hl:e.gR e'):nM H ν (a8 H id (some e')) ν:=
 ⟨λi e1 hi=>by
  by_cases a7:i=id
  ·subst a7;rw[aF]at hi;cases hi;exact⟨e',al _ _ _,hl⟩
  ·exact⟨e1,by rw[aq _ _ a7];exact hi,.refl e1⟩,λ_ _=>rfl⟩
theorem aI.fV(e:aI):e.gR .gone:=by cases e<;>simp[aI.gR]
theorem VR.Wp{H H':Nat→Option aI}{ν':Nat→Value}{a:Ty}{x:a.den}{v:Value}(h:VR w M H ν (vt a x) v):VR w M H' ν' (vt a x) v:=by
 unfold vt at h ⊢
 split at h
 ·simp only[VR]at h ⊢;exact h
 ·simp only[VR]at h ⊢;exact h
theorem fH.free{H H':Nat→Option aI}{ν':Nat→Value}: ∀{τ:Ty} {x:τ.den} {vs:List Value},fH w M H ν (lA τ x) vs→fH w M H' ν' (lA τ x) vs
 | .pair a b,x,v::vs,h=>by
  simp only[lA,fH]at h ⊢
  exact⟨VR.Wp h.1,fH.free h.2⟩
 | .pair a b,x,[],h=>by simp[lA,fH]at h
 | .int _,_,[],_| .bool,_,[],_| .str,_,[],_| .slice _,_,[],_| .unit,_,[],_| .arr _ _,_,[],_=>by simp[lA,fH]
 | .int _,_,_::_,h| .bool,_,_::_,h| .str,_,_::_,h| .slice _,_,_::_,h| .unit,_,_::_,h| .arr _ _,_,_::_,h=>by simp[lA,fH]at h
theorem vH{H0 H1 Hq:Nat→Option aI}{M1:Nat→Prop}{uo uf:fu}{io:List (Nat×AM)}{hs:List Nat}(h:gk c w M ν H0 H1 Hq M1 uo uf io hs){m:AM}{x:aM}{v:Value}(hv:VR w M1 H1 ν x v)
  {k:m.den→(Nat→Option aI)→List Nat→fu→fu→List (Nat×AM)→Option α} (hk:jI m x H1 k=some r):
  ∃y H2 rd CK CL zN Kl M2,k y H2 rd CK CL zN=some r∧gk c w M ν H0 H2 Kl M2 (CK++uo) (CL++uf) (io++zN) (hs++cf m v)∧dq w M1 w M2∧nM H1 ν H2 ν∧A1 w M2 m y v∧
   zN.map (λq=>ν q.1)=(if m.eU then [v]else [])∧zN.map (·.2)=iX [m]:=by
 unfold jI at hk
 split at hk
 ·
  rename_i τ k
  obtain⟨y,rd,ups,hk,hy⟩:=w5 h.mem hv hk
  rcases hy with⟨rfl,hV⟩|⟨id,e,l,rfl,aF,hV⟩
  ·exact⟨y,H1,rd,[],[],[],Hq,M1,hk,by simpa [cf]using h,.refl w M1,.refl H1 ν,hV,rfl,rfl⟩
  ·obtain⟨M2,hA,hK,BJ⟩:=h.freeze aF
   exact⟨y,_,rd,[],_,[],Hq,M2,hk,by simpa [cf]using hA,hK,.Nh aF ⟨rfl,rfl⟩,hV M2 BJ,rfl,rfl⟩
 ·
  rename_i e k
  split at hk
  ·obtain⟨ad,hv⟩:=VR.emp.1 hv
   subst hv
   have hb:dd (.slice ad 0 0)=none:=by cases ad<;>simp[dd]
   exact⟨[],H1,[],[],[],[],Hq,M1,hk,by simpa [cf,hb]using h,.refl w M1,.refl H1 ν,by simp only[A1,ER];exact .inl ⟨trivial,ad,rfl⟩,rfl,rfl⟩
  ·rename_i id
   split at hk
   ·rename_i e' l aF
    obtain⟨e1,hk⟩:=aJ hk
    cases e1
    simp only[VR]at hv
    obtain⟨_,rfl⟩:=hv
    refine⟨_,_,_,_,_,_,_,M1,hk,by simpa [cf]using h.hand aF,.refl w M1,.Nh aF (aI.fV _),?_,rfl,rfl⟩
    have:=h.mem.fM id _ aF
    exact this
   ·cases hk
  ·cases hk
 ·
  rename_i τ k
  split at hk
  ·rename_i id
   split at hk
   ·rename_i υ z aF
    obtain⟨e1,hk⟩:=aJ hk
    subst e1
    simp only[VR]at hv
    obtain⟨e,he,gT⟩:=hv
    rw[aF]at he;cases he
    simp only[AR]at gT
    obtain⟨_,b,hb,hv⟩:=gT
    have KR:v=ν id:=by rw[hv,hb];rfl
    subst KR
    refine⟨_,_,_,_,_,_,_,M1,hk,by simpa [cf]using h.So aF,.refl w M1,.Nh aF (aI.fV _),?_,rfl,rfl⟩
    have:=h.mem.fM id _ aF
    exact this
   ·cases hk
  ·cases hk
 ·
  rename_i f τ k
  split at hk
  ·rename_i f' cs
   obtain⟨hf,IY⟩:=bn hk
   clear hk
   have hf:=df hf
   subst hf
   have hk:=IY
   clear IY
   simp only[VR]at hv
   obtain⟨us,rfl,NJ⟩:=hv
   obtain⟨y,rd,ups,hk,hy⟩:=yq h.mem NJ hk
   split at hk
   ·exact⟨y,H1,rd,[],[],[],Hq,M1,hk,by simpa [cf]using h,.refl w M1,.refl H1 ν,by simp only[A1,VR];exact⟨us,rfl,hy rfl⟩,rfl,rfl⟩
   ·cases hk
  ·cases hk
 ·cases hk
 ·
  rename_i τ k
  split at hk
  ·rename_i υ z
   obtain⟨e1,hk⟩:=aJ hk
   subst e1
   exact⟨_,H1,_,[],[],[],Hq,M1,hk,by simpa [cf]using h,.refl w M1,.refl H1 ν,by simp only[A1,VR]at hv ⊢;exact hv,rfl,rfl⟩
  ·cases hk
 ·
  rename_i e k
  split at hk
  ·rename_i id
   split at hk
   ·rename_i e' l aF
    obtain⟨e1,hk⟩:=aJ hk
    cases e1
    simp only[VR]at hv
    obtain⟨_,rfl⟩:=hv
    refine⟨_,_,_,_,_,_,_,M1,hk,by simpa [cf]using h.Q4 aF,.refl w M1,.Nh aF (aI.fV _),?_,rfl,rfl⟩
    have:=h.mem.fM id _ aF
    exact this
   ·cases hk
  ·cases hk
 ·cases hk
theorem vI{H0:Nat→Option aI}: ∀{ms:List AM} {lL:List aM} {vs:List Value} {H1 Hq:Nat→Option aI} {M1:Nat→Prop} {rd:List Nat} {uo uf:fu} {io:List (Nat×AM)} {hs:List Nat} {K:HP ms→List Nat→fu→fu→List (Nat×AM)→Option α},
  gk c w M ν H0 H1 Hq M1 uo uf io hs→fH w M1 H1 ν lL vs→oa ms lL H1 rd uo uf io K=some r→
  ∃x qT CK CL zN H2 Kl M2,K x qT CK CL zN=some r∧gk c w M ν H0 H2 Kl M2 CK CL zN (hs++cF ms vs)∧dq w M1 w M2∧gj w M2 ms x vs∧
   zN.map (λq=>ν q.1)=io.map (λq=>ν q.1)++du ms vs∧zN.map (·.2)=io.map (·.2)++iX ms
 |[],[],[],H1,Hq,M1,rd,uo,uf,io,hs,K,h,_,hk=>
  ⟨(),rd,uo,uf,io,H1,Hq,M1,hk,by simpa [cF]using h,.refl w M1,rfl,by simp[du],by simp[iX]⟩
 |[m],[x],[v],H1,Hq,M1,rd,uo,uf,io,hs,K,h,hv,hk=>by
  simp only[fH,dR]at hv
  obtain⟨y,H2,KK,uo1,uf1,io1,Kl,M2,hk,hA,hK,hG,hy,NT,HR⟩:=vH h hv (hk:jI m x H1 _=some r)
  refine⟨y,_,_,_,_,H2,Kl,M2,hk,by simpa [cF]using hA,hK,⟨v,[],rfl,hy,rfl⟩,?_,?_⟩
  ·rw[cH,NT];cases pw:m.eU<;>simp[du,pw]
  ·rw[cH,HR]
 |m::n::ms,x::xs,v::vs,H1,Hq,M1,rd,uo,uf,io,hs,K,h,hv,hk=>by
  simp only[fH]at hv
  obtain⟨y,H2,KK,uo1,uf1,io1,Kl,M2,hk,hA,hK,hG,hy,NT,HR⟩:=vH h hv.1 (hk:jI m x H1 _=some r)
  obtain⟨ys,qT,CK,CL,zN,H3,Z5,M3,hk,hA',Z6,Vn,hi3,hi4⟩:=vI (ms:=n::ms) hA (fH.bm hK hG hv.2) hk
  refine⟨(y,ys),_,_,_,_,H3,Z5,M3,hk,by simpa [cF,aT]using hA',hK.trans Z6,⟨v,vs,rfl,?_,Vn⟩,?_,?_⟩
  ·refine A1.qu Z6 (λb hb=>⟨rfl,hA'.hM b ?_⟩) hy
   exact bG _ (ck _ hb)
  ·rw[hi3,cH,NT,aT]
   congr 1
   cases pw:m.eU<;>simp[du,pw]
  ·rw[hi4,cH,HR,aT]
   congr 1
   cases m<;>simp[iX]
 |[],_::_,_,_,_,_,_,_,_,_,_,_,_,_,hk=>by simp[oa]at hk
 |[_],[],_,_,_,_,_,_,_,_,_,_,_,_,hk=>by simp[oa]at hk
 |[_],_::_::_,_,_,_,_,_,_,_,_,_,_,_,_,hk=>by simp[oa]at hk
 |_::_::_,[],_,_,_,_,_,_,_,_,_,_,_,_,hk=>by simp[oa]at hk
 |_,_::_,[],_,_,_,_,_,_,_,_,_,_,hv,_=>by simp[fH]at hv
 |[],[],_::_,_,_,_,_,_,_,_,_,_,_,hv,_=>by simp[fH]at hv
 |[_],[_],_::_::_,_,_,_,_,_,_,_,_,_,_,hv,_=>by simp[fH]at hv
end VM
end
section
namespace VM
open Go
variable{P:Program}{E:Env}{o:Oper}{a:Act}{w:World}{M:Nat→Prop}{ν:Nat→Value}{σ:St}{c:Ctx}{α:Type}{r:α}{next:Act→World→Prop}{Q:Exit→Act→World→Prop}
theorem Mem.call{H:Nat→Option aI}(h:Mem c H w M ν){hs:List Nat}{M0 M':Nat→Prop}{w':World}(hM: ∀b,M0 b→M b)(hhs: ∀b∈hs,M b)
  (mD: ∀b∈hs,∀i e,H i=some e→e.mut→dd (ν i)≠some b) (gl: ∀b∈hs,c.B≤b∨c.may b) (pw: ∀b∈hs,c.M0 b→M' b) (L:Left w M0 hs w' M'):
  Mem c H w' (λb=>M' b∨(M b∧b∉hs)) ν∧dq w M w' (λb=>M' b∨(M b∧b∉hs)):=by
 have hk:dq w M w' (λb=>M' b∨(M b∧b∉hs)):=by
  refine⟨L.size,λb hb hm=>L.frame b hb (λhh=>hm (hhs b hh)),λb hb hm=> ?_⟩
  rcases hm with hm|hm
  ·exact(L.less b hb hm).elim (hM b) (hhs b)
  ·exact hm.1
 refine⟨⟨λi e hi=>(h.fM i e hi).bm hk λhm b hb=> ?_,h.tt,h.new,h.jE,mC h (λ_ _=>rfl) (λ_ h=>h) (λi τ x p j hi=> .inl ⟨hi,λb hb=> ?_⟩),λb hb=> ?_,λb hb=> ?_,λb hb hm=> ?_,iC h.size L.size,h.pI,L.os.trans h.os,L.tape.trans h.tape,L.output.trans h.output⟩,hk⟩
 ·have R0:=(h.fM i e hi).qj hm hb
  have tB:b∉hs:=λhh=>mD b hh i e hi hm hb
  exact⟨L.frame b (h.xT b R0) tB,.inr ⟨R0,tB⟩⟩
 ·have wC:dd (ν i)=some b:=by rw[hb];rfl
  have R0:=(h.fM i _ hi).qj trivial wC
  exact L.frame b (h.xT b R0) (λhh=>mD b hh i _ hi trivial wC)
 ·by_cases hh:b∈hs
  ·exact .inl (pw b hh hb)
  ·exact .inr ⟨h.sub b hb,hh⟩
 ·rcases hb with hb|hb
  ·exact L.xT b hb
  ·exact ka (h.xT b hb.1) L.size
 ·have tB:b∉hs:=λhh=>(gl b hh).elim (λh'=>ω) hm
  rw[L.frame b (ka hb h.size) tB]
  exact h.frame b hb hm
theorem Mem.qv{H:Nat→Option aI}(h:Mem c H w M ν){id:Nat}{v:Value}{e:aI}(aF: ∀e',H id=some e'→ ¬e'.mut)(ID:ER w M v e)
  (hd: ∀b,dd v=some b→ ∀i e',H i=some e'→e'.mut→dd (ν i)≠some b) (hn: ∀b,dd v=some b→c.B≤b∨c.may b) (ho: ∀b e0 l0,e= .own e0 l0→dd v=some b→ ¬c.M0 b)
  (Wq:H id=none∨v=ν id)
  (lB: ∀τ x p j,e= .dT τ x p j→a8 H id (some e) j≠none∧ ∃b,v= .pointer (some ⟨b,0,none⟩)∧w.cell? ⟨b,bs p τ,none⟩=some (updν ν id v j):=by intro _ _ _ _ h;cases h):
  Mem c (a8 H id (some e)) w M (updν ν id v):=by
 have hν: ∀i,i≠id→updν ν id v i=ν i:=λi hi=>by simp[updν,hi]
 have hνs:updν ν id v id=v:=by simp[updν]
 refine⟨λi e1 hi=> ?_,λi k e1 e2 b1 ns hi nN hk qY=> ?_,λi e1 b1 hi nN=> ?_,λi e1 l1 b1 hi=> ?_,mC h (λi hi=> ?_) qX (λi τ x p j hi=> ?_),h.sub,h.xT,h.frame,h.size,h.pI,h.os,h.tape,h.output⟩
 ·by_cases a7:i=id
  ·subst a7;rw[al]at hi;cases hi;rw[hνs];exact ID
  ·rw[aq _ _ a7]at hi;rw[hν i a7];exact h.fM i e1 hi
 ·by_cases a7:i=id
  ·subst a7;rw[hνs]
   have Ds:k≠i:=cZ ns
   rw[aq _ _ Ds]at hk;rw[hν k Ds]
   intro jF
   exact hd b1 jF k e2 hk qY
  ·rw[aq _ _ a7]at hi;rw[hν i a7]
   by_cases Ds:k=id
   ·subst Ds;rw[hνs]
    intro jF sd
    exact hd b1 sd i e1 hi nN jF
   ·rw[aq _ _ Ds]at hk;rw[hν k Ds];exact h.tt i k e1 e2 b1 ns hi nN hk qY
 ·by_cases a7:i=id
  ·subst a7;rw[hνs];exact hn b1
  ·rw[aq _ _ a7]at hi;rw[hν i a7];exact h.new i e1 b1 hi nN
 ·by_cases a7:i=id
  ·subst a7;rw[al]at hi;cases hi;rw[hνs];exact ho b1 e1 l1 rfl
  ·rw[aq _ _ a7]at hi;rw[hν i a7];exact h.jE i e1 l1 b1 hi
 ·by_cases a7:i=id
  ·subst a7
   rcases Wq with Wq|Wq
   ·exact absurd Wq hi
   ·rw[hνs,Wq]
  ·exact hν i a7
 ·by_cases a7:i=id
  ·subst a7
   rw[al]at hi
   cases hi
   obtain⟨h1,b,h2,h3⟩:=lB _ _ _ _ rfl
   exact .inr ⟨h1,b,by rw[hνs];exact h2,h3⟩
  ·rw[aq _ _ a7]at hi
   exact .inl ⟨hi,λ_ _=>rfl⟩
theorem IZ{m:AM}{ms:List AM}(x:HP (m::ms))(id:Nat)(io:List (Nat×AM)):
  eE (m::ms) x id io=match m,lP x,io with
   | .io τ,y,(j,_)::io=>((eE ms (nP x) (id+1) io).1,(j,some (.obj τ y))::(eE ms (nP x) (id+1) io).2.1,(eE ms (nP x) (id+1) io).2.2)
   | .lo e,y,(j,_)::io=>((eE ms (nP x) (id+1) io).1,(j,some (.own e y))::(eE ms (nP x) (id+1) io).2.1,(eE ms (nP x) (id+1) io).2.2)
   |m,y,io=>((qb m y id).1::(eE ms (nP x) (id+1) io).1,(qb m y id).2++(eE ms (nP x) (id+1) io).2.1,(eE ms (nP x) (id+1) io).2.2):=by
 cases ms with
 |nil=>cases m<;>cases io<;>simp[eE,lP]
 |cons n ms=>cases m<;>cases io<;>simp[eE,lP,nP]
theorem fW{l1 l2:List Nat}{b:Nat}(h:(l1++l2).Nodup)(h1:b∈l1):b∉l2:=λh2=>(kb.1 h).2.2 b h1 b h2 rfl
theorem RR.yr: ∀{ms:List AM} {x:HP ms} {us ps:List Value},RR w M ms x us ps→ ∀p∈ps,∀b,dd p=some b→b∈aO ms us ps
 |[],_,_,_,h,p,hp,_,_=>by simp only[RR]at h;rw[h.2]at hp;simp at hp
 |m::ms,x,us,ps,h,p,hp,b,hb=>by
  simp only[RR]at h
  rcases h with⟨p',zU,h1,rfl,h2,h3⟩|⟨v,wI,h1,h2,rfl,h3,h4⟩
  ·simp only[aO,h1,fO,nZ,n1,br]
   rcases aV.1 hp with rfl|hp
   ·left
    cases m<;>simp[AM.eU]at h1<;>simp[cf,hb]
   ·exact .inr (RR.yr h3 p hp b hb)
  ·simp only[aO,h1,fD,dW,nZ,n1,br]
   exact .inr (RR.yr h4 p hp b hb)
theorem iL{hs:List Nat}{sz:Nat}: ∀{ms:List AM} {x:HP ms} {us ps:List Value} {id:Nat} {io:List (Nat×AM)} {H:Nat→Option aI} {ν:Nat→Value} {used:List Nat},
  Mem c H w M ν→RR w M ms x us ps→ps=io.map (λq=>ν q.1)→iX ms=io.map (·.2)→(keys io).Nodup→(∀q∈io,H q.1=some .gone)→(∀i,id≤i→i<id+ms.length→H i=none)→
  (∀i e b,H i=some e→e.mut→dd (ν i)=some b→(b<sz∧b∉hs)∨b∈used)→(used++aO ms us ps).Nodup→(∀b∈aO ms us ps,sz≤b∨b∈hs)→
  (∀b∈aO ms us ps,(c.B≤b∨c.may b))→(∀b∈aO ms us ps,c.M0 b→ ∃p∈ps,dd p=some b)→
  (∀q∈io,∀e,q.2= .lo e→ ∀b,dd (ν q.1)=some b→ ¬c.M0 b)→
  ∃ν',Mem c (bM H (eE ms x id io).2.1) w M ν'∧fH w M (bM H (eE ms x id io).2.1) ν' (eE ms x id io).1 us∧(∀i,H i≠none→ν' i=ν i)∧
   (∀i,i∉keys io→(i<id∨id+ms.length≤i)→bM H (eE ms x id io).2.1 i=H i)∧(∀i,id≤i→i<id+ms.length→ ∀e,bM H (eE ms x id io).2.1 i=some e→(∃e0 l0,e= .own e0 l0)∨ ∃τ0 z0,e= .obj τ0 z0)∧
   (∀q∈io,Wl (bM H (eE ms x id io).2.1) q)
 |[],x,us,ps,id,io,H,ν,used,hm,hr,zT,vD,uO,sl,fk,hold,pJ,jG,gl,xU,pK=>by
  simp only[RR]at hr
  obtain⟨rfl,rfl⟩:=hr
  have pw:io=[]:=by
   cases io with
   |nil=>rfl
   |cons q io=>simp at zT
  subst pw
  exact⟨ν,hm,by simp[eE,fH],λ_ _=>rfl,λ_ _ _=>rfl,λi h1 h2=>by simp at h2;omega,λq hq=>by simp at hq⟩
 |m::ms,x,us,ps,id,io,H,ν,used,hm,hr,zT,vD,uO,sl,fk,hold,pJ,jG,gl,xU,pK=>by
  rw[IZ]
  simp only[RR]at hr
  rcases hr with⟨p,zU,yt,rfl,h1,h2⟩|⟨v,wI,yt,hmf,rfl,h1,h2⟩
  ·
   cases m with
   |io τ=>
    cases io with
    |nil=>simp at zT
    |cons q io=>
     simp only[bA,dx]at zT
     obtain⟨rfl,rfl⟩:=zT
     simp only[iX,bA,dx]at vD
     obtain⟨NU,Sp⟩:=vD
     simp only[keys,bA,xK]at uO
     have KS:aO (.io τ::ms) us (ν q.1::io.map λq=>ν q.1)=(dd (ν q.1)).toList++aO ms us (io.map λq=>ν q.1):=rfl
     rw[KS]at pJ jG gl xU
     have rL:=sl q bg
     have rM:q.1<id∨id+(ms.length+1)≤q.1:=by
      rcases ji q.1 id with h'|h'
      ·exact .inl h'
      ·rcases ji q.1 (id+(ms.length+1))with CQ|CQ
       ·rw[fk q.1 h' CQ]at rL;cases rL
       ·exact .inr CQ
     simp only[A1]at h1
     have jO: ∀b,dd (ν q.1)=some b→ ∀i e',H i=some e'→e'.mut→dd (ν i)≠some b:=by
      intro b hb i e' hi fc cY
      have hJ:b∈(dd (ν q.1)).toList++aO ms us (io.map λq=>ν q.1):=bG _ (by rw[hb];simp)
      rcases hold i e' b hi fc cY with⟨h3,h4⟩|h3
      ·exact(jG b hJ).elim (λh'=>ω) h4
      ·exact fW pJ h3 hJ
     have qY:=Mem.qv (c:=c) hm (id:=q.1) (v:=ν q.1) (e:= .obj τ (lP x)) (λe' nV=>by rw[rL]at nV;cases nV;simp[aI.mut]) h1 jO (λb hb=>gl b (bG _ (by rw[hb];simp))) (λb e0 l0 he=>by cases he) (.inr rfl)
     have hνe:updν ν q.1 (ν q.1)=ν:=by funext i;unfold updν;split<;>simp_all
     rw[hνe]at qY
     have Sq: ∀(q':Nat×AM),q'∈io→q'.1≠q.1:=λq' lQ e=>uO.1 (cA.2 ⟨q',lQ,e⟩)
     obtain⟨ν',r1,r2,r3,r4,r5,r6⟩:=iL (ms:=ms) (x:=nP x) (us:=us) (ps:=io.map λq=>ν q.1) (id:=id+1) (io:=io) (used:=used++(dd (ν q.1)).toList) qY h2 rfl Sp uO.2
      (λq' lQ=>by rw[aq _ _ (Sq q' lQ)];exact sl q' (aU _ lQ))
      (λi h3 h4=>by
       have:i≠q.1:=ω
       rw[aq _ _ this]
       exact fk i ω (by simp only[aL];omega))
      (λi e b hi fc hb=>by
       by_cases a7:i=q.1
       ·subst a7;exact .inr (ck _ (by rw[hb];simp))
       ·rw[aq _ _ a7]at hi
        exact(hold i e b hi fc hb).imp (λh=>h) (bG _))
      (by rw[aT];exact pJ) (λb hb=>jG b (ck _ hb)) (λb hb=>gl b (ck _ hb))
      (λb hb Nf=>by
       obtain⟨p,hp,NV⟩:=xU b (ck _ hb) Nf
       rcases aV.1 hp with rfl|hp
       ·exact absurd (fW (kb.1 pJ).2.1 (b:=b) (by rw[NV];simp)) (by simpa using hb)
       ·exact⟨p,hp,NV⟩) (λq' lQ=>pK q' (aU _ lQ))
     refine⟨ν',r1,r2,λi hi=> ?_,λi h3 h4=> ?_,λi h3 h4 e he=> ?_,λq' lQ=> ?_⟩
     ·exact r3 i (by
       by_cases a7:i=q.1
       ·subst a7;rw[al];simp
       ·rw[aq _ _ a7];exact hi)
     ·simp only[keys,bA,aV,not_or]at h3
      have:=r4 i h3.2 (by simp only[aL]at h4;omega)
      rw[aq _ _ h3.1]at this
      exact this
     ·by_cases h5:id+1≤i
      ·exact r5 i h5 (by simp only[aL]at h4;omega) e he
      ·have a7:i=id:=ω
       subst a7
       by_cases hk:i∈keys io
       ·obtain⟨q',lQ,w6⟩:=cA.1 hk
        have h9:=sl q' (aU _ lQ)
        rw[w6,fk i (aB _) (by simp)]at h9
        cases h9
       ·have:=r4 i hk (.inl ω)
        have gY:i≠q.1:=ω
        rw[aq _ _ gY,fk i (aB _) (by simp)]at this
        have he:bM (a8 H q.1 (some (aI.obj τ (lP x)))) (eE ms (nP x) (i+1) io).2.1 i=some e:=he
        rw[this]at he;cases he
     ·rcases aV.1 lQ with rfl|lQ
      ·have:=r4 q'.1 uO.1 ω
       rw[al]at this
       exact .inl ⟨τ,lP x,NU.symm,this⟩
      ·exact r6 q' lQ
   |lo τ=>
    cases io with
    |nil=>simp at zT
    |cons q io=>
     simp only[bA,dx]at zT
     obtain⟨rfl,rfl⟩:=zT
     simp only[iX,bA,dx]at vD
     obtain⟨NU,Sp⟩:=vD
     simp only[keys,bA,xK]at uO
     have KS:aO (.lo τ::ms) us (ν q.1::io.map λq=>ν q.1)=(dd (ν q.1)).toList++aO ms us (io.map λq=>ν q.1):=rfl
     rw[KS]at pJ jG gl xU
     have rL:=sl q bg
     have rM:q.1<id∨id+(ms.length+1)≤q.1:=by
      rcases ji q.1 id with h'|h'
      ·exact .inl h'
      ·rcases ji q.1 (id+(ms.length+1))with CQ|CQ
       ·rw[fk q.1 h' CQ]at rL;cases rL
       ·exact .inr CQ
     simp only[A1]at h1
     have jO: ∀b,dd (ν q.1)=some b→ ∀i e',H i=some e'→e'.mut→dd (ν i)≠some b:=by
      intro b hb i e' hi fc cY
      have hJ:b∈(dd (ν q.1)).toList++aO ms us (io.map λq=>ν q.1):=bG _ (by rw[hb];simp)
      rcases hold i e' b hi fc cY with⟨h3,h4⟩|h3
      ·exact(jG b hJ).elim (λh'=>ω) h4
      ·exact fW pJ h3 hJ
     have qY:=Mem.qv (c:=c) hm (id:=q.1) (v:=ν q.1) (e:= .own τ (lP x)) (λe' nV=>by rw[rL]at nV;cases nV;simp[aI.mut]) h1 jO (λb hb=>gl b (bG _ (by rw[hb];simp))) (λb e0 l0 _ hb=>pK q bg τ NU.symm b hb) (.inr rfl)
     have hνe:updν ν q.1 (ν q.1)=ν:=by funext i;unfold updν;split<;>simp_all
     rw[hνe]at qY
     have Sq: ∀(q':Nat×AM),q'∈io→q'.1≠q.1:=λq' lQ e=>uO.1 (cA.2 ⟨q',lQ,e⟩)
     obtain⟨ν',r1,r2,r3,r4,r5,r6⟩:=iL (ms:=ms) (x:=nP x) (us:=us) (ps:=io.map λq=>ν q.1) (id:=id+1) (io:=io) (used:=used++(dd (ν q.1)).toList) qY h2 rfl Sp uO.2
      (λq' lQ=>by rw[aq _ _ (Sq q' lQ)];exact sl q' (aU _ lQ))
      (λi h3 h4=>by
       have:i≠q.1:=ω
       rw[aq _ _ this]
       exact fk i ω (by simp only[aL];omega))
      (λi e b hi fc hb=>by
       by_cases a7:i=q.1
       ·subst a7;exact .inr (ck _ (by rw[hb];simp))
       ·rw[aq _ _ a7]at hi
        exact(hold i e b hi fc hb).imp (λh=>h) (bG _))
      (by rw[aT];exact pJ) (λb hb=>jG b (ck _ hb)) (λb hb=>gl b (ck _ hb))
      (λb hb Nf=>by
       obtain⟨p,hp,NV⟩:=xU b (ck _ hb) Nf
       rcases aV.1 hp with rfl|hp
       ·exact absurd (fW (kb.1 pJ).2.1 (b:=b) (by rw[NV];simp)) (by simpa using hb)
       ·exact⟨p,hp,NV⟩) (λq' lQ=>pK q' (aU _ lQ))
     refine⟨ν',r1,r2,λi hi=> ?_,λi h3 h4=> ?_,λi h3 h4 e he=> ?_,λq' lQ=> ?_⟩
     ·exact r3 i (by
       by_cases a7:i=q.1
       ·subst a7;rw[al];simp
       ·rw[aq _ _ a7];exact hi)
     ·simp only[keys,bA,aV,not_or]at h3
      have:=r4 i h3.2 (by simp only[aL]at h4;omega)
      rw[aq _ _ h3.1]at this
      exact this
     ·by_cases h5:id+1≤i
      ·exact r5 i h5 (by simp only[aL]at h4;omega) e he
      ·have a7:i=id:=ω
       subst a7
       by_cases hk:i∈keys io
       ·obtain⟨q',lQ,w6⟩:=cA.1 hk
        have h9:=sl q' (aU _ lQ)
        rw[w6,fk i (aB _) (by simp)]at h9
        cases h9
       ·have:=r4 i hk (.inl ω)
        have gY:i≠q.1:=ω
        rw[aq _ _ gY,fk i (aB _) (by simp)]at this
        have he:bM (a8 H q.1 (some (aI.own τ (lP x)))) (eE ms (nP x) (i+1) io).2.1 i=some e:=he
        rw[this]at he;cases he
     ·rcases aV.1 lQ with rfl|lQ
      ·have:=r4 q'.1 uO.1 ω
       rw[al]at this
       exact .inr ⟨τ,lP x,NU.symm,this⟩
      ·exact r6 q' lQ
   |v τ=>simp[AM.eU]at yt
   |own τ=>simp[AM.eU]at yt
   |fn f τ=>simp[AM.eU]at yt
   |ptr τ=>simp[AM.eU]at yt
   |ft τ=>simp[AM.eU]at yt
   |sp _ _ _=>simp[AM.eU]at yt
  ·
   have tK:H id=none:=fk id (aB _) (by simp)
   cases m with
   |io τ=>simp[AM.eU]at yt
   |lo τ=>simp[AM.eU]at yt
   |fn f τ=>simp[AM.NR]at hmf
   |ft τ=>simp[AM.NR]at hmf
   |v τ=>
    have KS:aO (.v τ::ms) (v::wI) ps=aO ms wI ps:=rfl
    rw[KS]at pJ jG gl xU
    simp only[A1]at h1
    obtain⟨ν',r1,r2,r3,r4,r5,r6⟩:=iL (ms:=ms) (x:=nP x) (us:=wI) (ps:=ps) (id:=id+1) (io:=io) (used:=used) hm h2 zT (by simpa [iX]using vD) uO sl (λi h3 h4=>fk i ω (by simp only[aL];omega)) hold pJ jG gl xU pK
    refine⟨ν',r1,?_,r3,λi h3 h4=>r4 i h3 (by simp only[aL]at h4;omega),λi h3 h4 e he=> ?_,r6⟩
    ·simp only[qb,fH,VR];exact⟨h1,r2⟩
    ·by_cases h5:id+1≤i
     ·exact r5 i h5 (by simp only[aL]at h4;omega) e he
     ·have a7:i=id:=ω
      subst a7
      by_cases hk:i∈keys io
      ·obtain⟨q',lQ,w6⟩:=cA.1 hk
       have h9:=sl q' lQ
       rw[w6,tK]at h9;cases h9
      ·have:=r4 i hk (.inl ω)
       rw[tK]at this
       have he:bM H (eE ms (nP x) (i+1) io).2.1 i=some e:=he
       rw[this]at he;cases he
   |own τ=>
    have KS:aO (.own τ::ms) (v::wI) ps=(dd v).toList++aO ms wI ps:=rfl
    rw[KS]at pJ jG gl xU
    simp only[A1]at h1
    have jO: ∀b,dd v=some b→ ∀i e',H i=some e'→e'.mut→dd (ν i)≠some b:=by
     intro b hb i e' hi fc cY
     have hJ:b∈(dd v).toList++aO ms wI ps:=bG _ (by rw[hb];simp)
     rcases hold i e' b hi fc cY with⟨h3,h4⟩|h3
     ·exact(jG b hJ).elim (λh'=>ω) h4
     ·exact fW pJ h3 hJ
    have KT: ∀b,dd v=some b→ ¬c.M0 b:=by
     intro b hb h0
     have hJ:b∈(dd v).toList:=by rw[hb];simp
     obtain⟨p,hp,NV⟩:=xU b (bG _ hJ) h0
     exact fW (kb.1 pJ).2.1 hJ (RR.yr h2 p hp b NV)
    have qY:=Mem.qv (c:=c) hm (id:=id) (v:=v) (e:= .own τ (lP x)) (λe' nV=>by rw[tK]at nV;cases nV) h1 jO (λb hb=>gl b (bG _ (by rw[hb];simp))) (λb e0 l0 _ hb=>KT b hb) (.inl tK)
    have rM: ∀q∈io,q.1≠id:=λq hq e=>by
     have h9:=sl q hq
     rw[e,tK]at h9;cases h9
    have hν2: ∀i,i≠id→updν ν id v i=ν i:=λi hi=>by simp[updν,hi]
    obtain⟨ν',r1,r2,r3,r4,r5,r6⟩:=iL (ms:=ms) (x:=nP x) (us:=wI) (ps:=ps) (id:=id+1) (io:=io) (used:=used++(dd v).toList) qY h2
     (by rw[zT];exact nh λq hq=>(hν2 _ (rM q hq)).symm) (by simpa [iX]using vD) uO
     (λq hq=>by rw[aq _ _ (rM q hq)];exact sl q hq)
     (λi h3 h4=>by rw[aq _ _ ω];exact fk i ω (by simp only[aL];omega))
     (λi e b hi fc hb=>by
      by_cases a7:i=id
      ·subst a7
       have:updν ν i v i=v:=by simp[updν]
       rw[this]at hb
       exact .inr (ck _ (by rw[hb];simp))
      ·rw[aq _ _ a7]at hi
       rw[hν2 i a7]at hb
       exact(hold i e b hi fc hb).imp (λh=>h) (bG _))
     (by rw[aT];exact pJ) (λb hb=>jG b (ck _ hb)) (λb hb=>gl b (ck _ hb)) (λb hb=>xU b (ck _ hb)) (λq hq e he b hb=>pK q hq e he b (by rw[hν2 _ (rM q hq)]at hb;exact hb))
    have KU:id∉keys io:=λhk=>by
     obtain⟨q,hq,w6⟩:=cA.1 hk
     exact rM q hq w6
    have m2:bM (a8 H id (some (.own τ (lP x)))) (eE ms (nP x) (id+1) io).2.1 id=some (.own τ (lP x)):=by
     rw[r4 id KU (.inl ω),al]
    refine⟨ν',r1,?_,λi hi=> ?_,λi h3 h4=> ?_,λi h3 h4 e he=> ?_,r6⟩
    ·simp only[qb,fH,VR]
     refine⟨⟨?_,?_⟩,r2⟩
     ·show bM (a8 H id (some (.own τ (lP x)))) (eE ms (nP x) (id+1) io).2.1 id≠none
      rw[m2];simp
     ·rw[r3 id (by rw[al];simp)];simp[updν]
    ·have a7:i≠id:=λe=>hi (e▸tK)
     rw[r3 i (by rw[aq _ _ a7];exact hi),hν2 i a7]
    ·have a7:i≠id:=by simp only[aL]at h4;omega
     have:=r4 i h3 (by simp only[aL]at h4;omega)
     rw[aq _ _ a7]at this
     exact this
    ·by_cases h5:id+1≤i
     ·exact r5 i h5 (by simp only[aL]at h4;omega) e he
     ·have a7:i=id:=ω
      subst a7
      have he:bM (a8 H i (some (.own τ (lP x)))) (eE ms (nP x) (i+1) io).2.1 i=some e:=he
      rw[m2]at he;cases he
      exact .inl ⟨τ,_,rfl⟩
   |sp τ n e=>
    simp only[A1]at h1
    obtain⟨cs,fR,u,l,z,hv,hq,Vi,nO,hu,mF⟩:=h1
    obtain⟨x1,Sr,_,aaM,hz⟩:=yb mF
    cases Sr
    obtain⟨z0,Kj,Vr⟩:=hz []
    have hrz:Rd w M τ (cL fR (dO τ n) [.slice none 0 0]) z0:=by
     obtain⟨υ,y,o,k',hf,nN,IY⟩:=gD (Vr _ some)
     obtain⟨rfl,rfl⟩:=hf.eq
     obtain⟨e1,yl⟩:=aJ nN
     obtain⟨x',k9,_,gK⟩:=IY _ _ yl
     cases k9
     refine gK w M fR _ Vi ?_
     have I0:Rd w M (.slice e) [.slice none 0 0] []:=by
      simp only[Rd]
      exact⟨none,0,rfl,aB _,λi hi=>by simp at hi⟩
     exact I0.V3 _
    have II:qb (.sp τ n e) (lP x) id=(.zZ τ z0 n id,[(id,some (.own e l))]):=by
     simp only[qb]
     rw[aaM,Kj]
    show ∃ν',Mem c (bM H ((qb (.sp τ n e) (lP x) id).2++(eE ms (nP x) (id+1) io).2.1)) w M ν'∧fH w M (bM H ((qb (.sp τ n e) (lP x) id).2++(eE ms (nP x) (id+1) io).2.1)) ν' ((qb (.sp τ n e) (lP x) id).1::(eE ms (nP x) (id+1) io).1) (v::wI)∧(∀i,H i≠none→ν' i=ν i)∧
     (∀i,i∉keys io→(i<id∨id+(AM.sp τ n e::ms).length≤i)→bM H ((qb (.sp τ n e) (lP x) id).2++(eE ms (nP x) (id+1) io).2.1) i=H i)∧(∀i,id≤i→i<id+(AM.sp τ n e::ms).length→ ∀e9,bM H ((qb (.sp τ n e) (lP x) id).2++(eE ms (nP x) (id+1) io).2.1) i=some e9→(∃e0 l0,e9= .own e0 l0)∨ ∃τ0 z0,e9= .obj τ0 z0)∧
     (∀q∈io,Wl (bM H ((qb (.sp τ n e) (lP x) id).2++(eE ms (nP x) (id+1) io).2.1)) q)
    rw[II]
    have KS:aO (.sp τ n e::ms) (v::wI) ps=(dd u).toList++aO ms wI ps:=by
     show cf (.sp τ n e) v++aO ms wI ps=_
     rw[hv,(ra hq Vi nO).1]
    rw[KS]at pJ jG gl xU
    have jO: ∀b,dd u=some b→ ∀i e',H i=some e'→e'.mut→dd (ν i)≠some b:=by
     intro b hb i e' hi fc cY
     have hJ:b∈(dd u).toList++aO ms wI ps:=bG _ (by rw[hb];simp)
     rcases hold i e' b hi fc cY with⟨h3,h4⟩|h3
     ·exact(jG b hJ).elim (λh'=>ω) h4
     ·exact fW pJ h3 hJ
    have KT: ∀b,dd u=some b→ ¬c.M0 b:=by
     intro b hb h0
     have hJ:b∈(dd u).toList:=by rw[hb];simp
     obtain⟨p,hp,NV⟩:=xU b (bG _ hJ) h0
     exact fW (kb.1 pJ).2.1 hJ (RR.yr h2 p hp b NV)
    have qY:=Mem.qv (c:=c) hm (id:=id) (v:=u) (e:= .own e l) (λe' nV=>by rw[tK]at nV;cases nV) hu jO (λb hb=>gl b (bG _ (by rw[hb];simp))) (λb e0 l0 _ hb=>KT b hb) (.inl tK)
    have rM: ∀q∈io,q.1≠id:=λq hq e=>by
     have h9:=sl q hq
     rw[e,tK]at h9;cases h9
    have hν2: ∀i,i≠id→updν ν id u i=ν i:=λi hi=>by simp[updν,hi]
    obtain⟨ν',r1,r2,r3,r4,r5,r6⟩:=iL (ms:=ms) (x:=nP x) (us:=wI) (ps:=ps) (id:=id+1) (io:=io) (used:=used++(dd u).toList) qY h2
     (by rw[zT];exact nh λq hq=>(hν2 _ (rM q hq)).symm) (by simpa [iX]using vD) uO
     (λq hq=>by rw[aq _ _ (rM q hq)];exact sl q hq)
     (λi h3 h4=>by rw[aq _ _ ω];exact fk i ω (by simp only[aL];omega))
     (λi e9 b hi fc hb=>by
      by_cases a7:i=id
      ·subst a7
       have:updν ν i u i=u:=by simp[updν]
       rw[this]at hb
       exact .inr (ck _ (by rw[hb];simp))
      ·rw[aq _ _ a7]at hi
       rw[hν2 i a7]at hb
       exact(hold i e9 b hi fc hb).imp (λh=>h) (bG _))
     (by rw[aT];exact pJ) (λb hb=>jG b (ck _ hb)) (λb hb=>gl b (ck _ hb)) (λb hb=>xU b (ck _ hb)) (λq hq e he b hb=>pK q hq e he b (by rw[hν2 _ (rM q hq)]at hb;exact hb))
    have KU:id∉keys io:=λhk=>by
     obtain⟨q,hq,w6⟩:=cA.1 hk
     exact rM q hq w6
    have m2:bM (a8 H id (some (.own e l))) (eE ms (nP x) (id+1) io).2.1 id=some (.own e l):=by
     rw[r4 id KU (.inl ω),al]
    refine⟨ν',r1,?_,λi hi=> ?_,λi h3 h4=> ?_,λi h3 h4 e9 he=> ?_,r6⟩
    ·simp only[fH,VR]
     refine⟨⟨cs,cL fR (dO τ n) [.slice none 0 0],hv,hrz,?_,?_,hq⟩,r2⟩
     ·rw[r3 id (by rw[al];simp),oh (ra (e:=e) hq Vi nO).2,nO];simp[updν]
     ·show bM (a8 H id (some (.own e l))) (eE ms (nP x) (id+1) io).2.1 id≠none
      rw[m2];simp
    ·have a7:i≠id:=λe=>hi (e▸tK)
     rw[r3 i (by rw[aq _ _ a7];exact hi),hν2 i a7]
    ·have a7:i≠id:=by simp only[aL]at h4;omega
     have:=r4 i h3 (by simp only[aL]at h4;omega)
     rw[aq _ _ a7]at this
     exact this
    ·by_cases h5:id+1≤i
     ·exact r5 i h5 (by simp only[aL]at h4;omega) e9 he
     ·have a7:i=id:=ω
      subst a7
      have he:bM (a8 H i (some (.own e l))) (eE ms (nP x) (i+1) io).2.1 i=some e9:=he
      rw[m2]at he;cases he
      exact .inl ⟨e,_,rfl⟩
   |ptr τ=>
    have KS:aO (.ptr τ::ms) (v::wI) ps=(dd v).toList++aO ms wI ps:=rfl
    rw[KS]at pJ jG gl xU
    simp only[A1]at h1
    have jO: ∀b,dd v=some b→ ∀i e',H i=some e'→e'.mut→dd (ν i)≠some b:=by
     intro b hb i e' hi fc cY
     have hJ:b∈(dd v).toList++aO ms wI ps:=bG _ (by rw[hb];simp)
     rcases hold i e' b hi fc cY with⟨h3,h4⟩|h3
     ·exact(jG b hJ).elim (λh'=>ω) h4
     ·exact fW pJ h3 hJ
    have qY:=Mem.qv (c:=c) hm (id:=id) (v:=v) (e:= .obj τ (lP x)) (λe' nV=>by rw[tK]at nV;cases nV) h1 jO (λb hb=>gl b (bG _ (by rw[hb];simp))) (λb e0 l0 he _=>by cases he) (.inl tK)
    have rM: ∀q∈io,q.1≠id:=λq hq e=>by
     have h9:=sl q hq
     rw[e,tK]at h9;cases h9
    have hν2: ∀i,i≠id→updν ν id v i=ν i:=λi hi=>by simp[updν,hi]
    obtain⟨ν',r1,r2,r3,r4,r5,r6⟩:=iL (ms:=ms) (x:=nP x) (us:=wI) (ps:=ps) (id:=id+1) (io:=io) (used:=used++(dd v).toList) qY h2
     (by rw[zT];exact nh λq hq=>(hν2 _ (rM q hq)).symm) (by simpa [iX]using vD) uO
     (λq hq=>by rw[aq _ _ (rM q hq)];exact sl q hq)
     (λi h3 h4=>by rw[aq _ _ ω];exact fk i ω (by simp only[aL];omega))
     (λi e b hi fc hb=>by
      by_cases a7:i=id
      ·subst a7
       have:updν ν i v i=v:=by simp[updν]
       rw[this]at hb
       exact .inr (ck _ (by rw[hb];simp))
      ·rw[aq _ _ a7]at hi
       rw[hν2 i a7]at hb
       exact(hold i e b hi fc hb).imp (λh=>h) (bG _))
     (by rw[aT];exact pJ) (λb hb=>jG b (ck _ hb)) (λb hb=>gl b (ck _ hb)) (λb hb=>xU b (ck _ hb)) (λq hq e he b hb=>pK q hq e he b (by rw[hν2 _ (rM q hq)]at hb;exact hb))
    have KU:id∉keys io:=λhk=>by
     obtain⟨q,hq,w6⟩:=cA.1 hk
     exact rM q hq w6
    have m2:bM (a8 H id (some (.obj τ (lP x)))) (eE ms (nP x) (id+1) io).2.1 id=some (.obj τ (lP x)):=by
     rw[r4 id KU (.inl ω),al]
    refine⟨ν',r1,?_,λi hi=> ?_,λi h3 h4=> ?_,λi h3 h4 e he=> ?_,r6⟩
    ·simp only[qb,fH,VR]
     refine⟨⟨_,m2,trivial,?_⟩,r2⟩
     simp only[A1,ER]at h1
     obtain⟨b,cs,t,KR,_⟩:=h1
     exact⟨b,by rw[r3 id (by rw[al];simp)];simp[updν,KR],KR⟩
    ·have a7:i≠id:=λe=>hi (e▸tK)
     rw[r3 i (by rw[aq _ _ a7];exact hi),hν2 i a7]
    ·have a7:i≠id:=by simp only[aL]at h4;omega
     have:=r4 i h3 (by simp only[aL]at h4;omega)
     rw[aq _ _ a7]at this
     exact this
    ·by_cases h5:id+1≤i
     ·exact r5 i h5 (by simp only[aL]at h4;omega) e he
     ·have a7:i=id:=ω
      subst a7
      have he:bM (a8 H i (some (.obj τ (lP x)))) (eE ms (nP x) (i+1) io).2.1 i=some e:=he
      rw[m2]at he;cases he
      exact .inr ⟨τ,_,rfl⟩
end VM
end
