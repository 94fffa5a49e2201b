/- A part of the proof of LotSlices of layer 23: a machine that reads a function of the program as an equation between values. -/
import Derived.Test.YthnjnpjmbabcaaaVm3
set_option linter.all false
section
namespace VM
open Go
variable{P:Program}{E:Env}{o:Oper}{a:Act}{w:World}{M:Nat→Prop}{ν:Nat→Value}{σ:St}{c:Ctx}{α:Type}{r:α}{next:Act→World→Prop}{Q:Exit→Act→World→Prop}
def gZ:{m:AM}→{ms:List AM}→HP (m::ms)→m.den
 |_,[],x=>x
 |_,_::_,x=>x.1
def jq:{m:AM}→{ms:List AM}→HP (m::ms)→HP ms
 |_,[],_=>()
 |_,_::_,x=>x.2
def AM.dm:AM→Bool
 | .io _| .lo _=>true
 |_=>false
def AM.Hh:AM→Bool
 | .fn _ _| .dg _=>true
 |_=>false
def A1(w:World)(M:Nat→Prop):(m:AM)→m.den→Value→Prop
 | .v τ,x,v=>V w M τ v x
 | .own e,x,v=>ER w M v (.own e x)
 | .io τ,x,v=>ER w M v (.obj τ x)
 | .fn f τ,x,v=>VR w M (λ_=>none) (λ_=>undef) (.yC f (g8 τ x)) v
 | .ptr τ,x,v=>ER w M v (.obj τ x)
 | .dg τ,x,v=>VR w M (λ_=>none) (λ_=>undef) (.iP τ x) v
 | .lo e,x,v=>ER w M v (.own e x)
 | .sp τ n e,x,v=> ∃(cs:Array Value) (dL:List Value) (u:Value) (l:List e.den) (z:τ.den),v= .agg cs∧lx τ n=true∧Rd w M τ dL z∧cs.toList=bG dL (cH τ n) [u]∧ER w M u (.own e l)∧
  cB τ z n (fun υ' _ k'=>aP (.slice e) υ' l k') some=some x
def Nl(n:Nat):Value→Option Value
 | .agg cs=>cs.toList[n]?
 |_=>none
def dC(w:World)(M:Nat→Prop):(ms:List AM)→HP ms→List Value→Prop
 |[],_,vs=>vs=[]
 |_::ms,x,vs=> ∃v yb,vs=v::yb∧A1 w M _ (gZ x) v∧dC w M ms (jq x) yb
def bl:AM→Value→List Nat
 | .own _,v| .io _,v| .ptr _,v| .lo _,v=>(bK v).toList
 | .sp τ n _,v=>((Nl (cH τ n) v).bind bK).toList
 |_,_=>[]
theorem nQ{τ:Ty}{n:Nat}{e:Ty}{cs:Array Value}{dL:List Value}{u:Value}{z:τ.den}(hq:lx τ n=true)(hr:Rd w M τ dL z)(jW:cs.toList=bG dL (cH τ n) [u]):bl (.sp τ n e) (.agg cs)=(bK u).toList∧cH τ n<dL.length:=by
 obtain⟨e',_,hf⟩:=oA hq
 obtain⟨y,o,wo⟩:=ef hf z
 have hb:=wo.bound
 have ho:=wo.eq.2
 subst ho
 rw[show(Ty.slice e').size=1 from rfl]at hb
 have hl:=hr.length
 have cy:cH τ n<dL.length:=ω
 refine⟨?_,cy⟩
 show((cs.toList[cH τ n]?).bind bK).toList=_
 rw[jW,nM cy];rfl
def bE:List AM→List Value→List Nat
 |m::ms,v::vs=>bl m v++bE ms vs
 |_,_=>[]
def cv:List AM→List Value→List Value
 |m::ms,v::vs=>if m.dm then v::cv ms vs else cv ms vs
 |_,_=>[]
def fw:List AM→List AM
 | .io τ::ms=> .io τ::fw ms
 | .lo e::ms=> .lo e::fw ms
 |_::ms=>fw ms
 |[]=>[]
def RR(w:World)(M:Nat→Prop):(ms:List AM)→HP ms→List Value→List Value→Prop
 |[],_,vs,ps=>vs=[]∧ps=[]
 |m::ms,x,vs,ps=>(∃p sR,m.dm=true∧ps=p::sR∧A1 w M m (gZ x) p∧RR w M ms (jq x) vs sR)∨
  (∃v yb,m.dm=false∧m.Hh=false∧vs=v::yb∧A1 w M m (gZ x) v∧RR w M ms (jq x) yb ps)
def aF:List AM→List Value→List Value→List Nat
 |[],_,_=>[]
 |m::ms,vs,ps=>if m.dm then bl m (ps.headD undef)++aF ms vs ps.tail else bl m (vs.headD undef)++aF ms vs.tail ps
def AM.flat:AM→Bool
 | .v τ| .io τ| .own τ| .ptr τ| .lo τ=>τ.flat
 | .fn _ _| .dg _| .sp _ _ _=>false
def oq(vs:List Value):Value:=if h:vs.length=1 then vs[0]else .tuple vs.toArray
structure Left(w:World)(M0:Nat→Prop)(hs:List Nat)(w':World)(M':Nat→Prop):Prop where
 sub: ∀b,M0 b→M' b
 oy: ∀b,M' b→b<w'.heap.size
 less: ∀b,b<w.heap.size→M' b→M0 b∨b∈hs
 frame: ∀b,b<w.heap.size→b∉hs→w'.heap[b]? =w.heap[b]?
 size:w.heap.size≤w'.heap.size
 os:w'.os=w.os
 tape:w'.tape=w.tape
 output:w'.output=w.output
def yY(P:Program)(f:FuncId)(args:Array Value)(w:World)(R:Value→World→Prop):Prop:=
 ∀(o:Oper) (a:Act) (next:Act→World→Prop) (Q:Exit→Act→World→Prop),(∀v w',R v w'→next (a.put o.dst v) w')→o.upon P a next Q ((callFunc f args).run P w)
theorem yY.mono{f:FuncId}{args:Array Value}{R R':Value→World→Prop}(h:yY P f args w R)(hr: ∀v w',R v w'→R' v w'):yY P f args w R':=
 λo a next Q hn=>h o a next Q λv w' hv=>hn v w' (hr v w' hv)
theorem jX{f:FuncId}{fn:Func}{args:Array Value}{R:Value→World→Prop}(hf:P.funcs[f]? =some fn)(hn:(fn.name== "runtime.NumGoroutine")=false)(hb:fn.body.isNone=false)
  (h:Calls P f args w λe w'=> ∃v,e= .returned v∧R v w'):yY P f args w R:=by
 intro o a next Q mm
 have Vb: ¬fn.name= "runtime.NumGoroutine" :=by simpa using hn
 have bA: ¬fn.body=none:=λe=>by rw[e]at hb;cases hb
 have:(callFunc f args).run P w= .ok (.enter f args) w:=by simp[callFunc,hf,Vb,bA]
 rw[this,Oper.upon_enter]
 refine Calls.mono h ?_
 rintro e w' ⟨v,rfl,hR⟩
 exact mm v w' hR
theorem vM{f:FuncId}{args:Array Value}{R:Value→World→Prop}{v:Value}{w':World}(h:(callFunc f args).run P w= .ok (.value v) w')(hR:R v w'):yY P f args w R:=by
 intro o a next Q mm
 rw[h,Oper.upon_value]
 exact mm v w' hR
structure eV(P:Program)(f:FuncId)(S:gV):Prop where
 quiet:S.quiet=true→S.res.all AM.flat=true
 Vc:fw S.args=fw S.res
 call: ∀(M0:Nat→Prop) (w:World) (vs:List Value) (x:HP S.args) (y:HP S.res),(∀b,M0 b→b<w.heap.size)→
  dC w (λb=>M0 b∨b∈bE S.args vs) S.args x vs→(bE S.args vs).Nodup→(∀b∈bE S.args vs,¬M0 b)→S.run x=some y→
  yY P f vs.toArray w λv w'=> ∃us M',v=oq us∧RR w' M' S.res y us (cv S.args vs)∧Left w M0 (bE S.args vs) w' M'∧
   (aF S.res us (cv S.args vs)).Nodup∧ ∀b∈aF S.res us (cv S.args vs),¬M0 b
theorem Rd.flat{w w':World}{M M':Nat→Prop}: ∀{τ:Ty} {cs:List Value} {x:τ.den},τ.flat=true→Rd w M τ cs x→Rd w' M' τ cs x
 | .int _,_,_,_,h| .bool,_,_,_,h| .str,_,_,_,h| .unit,_,_,_,h=>h
 | .slice _,_,_,hf,_=>by simp[Ty.flat]at hf
 | .pair a b,_,_,hf,h=>by
  simp only[Ty.flat,aV]at hf
  simp only[Rd]at h ⊢
  obtain⟨c1,c2,rfl,h1,h2⟩:=h
  exact⟨c1,c2,rfl,h1.flat hf.1,h2.flat hf.2⟩
 | .arr n e,_,x,hf,h=>by
  simp only[Ty.flat]at hf
  simp only[Rd]at h ⊢
  obtain⟨hn,Ci,hc,rfl,hr⟩:=h
  exact⟨hn,Ci,hc,rfl,λi hi kk=>(hr i hi kk).flat hf⟩
theorem A1.flat{w:World}{M M':Nat→Prop}(hM: ∀b,M b→M' b){m:AM}{x:m.den}{v:Value}(hf:m.flat=true)(h:A1 w M m x v):A1 w M' m x v:=by
 cases m with
 |v τ=>
  simp only[A1,V,AM.flat]at h hf ⊢
  split
  ·rename_i ha;rw[af ha]at h;obtain⟨cs,h1,h⟩:=h;exact⟨cs,h1,h.flat hf⟩
  ·rename_i ha;rw[ag ha]at h;exact h.flat hf
 |own e=>
  simp only[A1,ER,AM.flat]at h hf ⊢
  rcases h with h|⟨b,cs,t,cap,h1,h2,h3,h4,h5,h6,h7,h8⟩
  ·exact .inl h
  ·exact .inr ⟨b,cs,t,cap,h1,h2,hM b h3,h4,h5,h6,h7,λi hi=>(h8 i hi).flat hf⟩
 |io τ=>
  simp only[A1,ER,AM.flat]at h hf ⊢
  obtain⟨b,cs,t,h1,h2,h3,h4⟩:=h
  exact⟨b,cs,t,h1,h2,hM b h3,h4.flat hf⟩
 |fn f τ=>simp[AM.flat]at hf
 |dg τ=>simp[AM.flat]at hf
 |sp τ n e=>simp[AM.flat]at hf
 |lo e=>
  simp only[A1,ER,AM.flat]at h hf ⊢
  rcases h with h|⟨b,cs,t,cap,h1,h2,h3,h4,h5,h6,h7,h8⟩
  ·exact .inl h
  ·exact .inr ⟨b,cs,t,cap,h1,h2,hM b h3,h4,h5,h6,h7,λi hi=>(h8 i hi).flat hf⟩
 |ptr τ=>
  simp only[A1,ER,AM.flat]at h hf ⊢
  obtain⟨b,cs,t,h1,h2,h3,h4⟩:=h
  exact⟨b,cs,t,h1,h2,hM b h3,h4.flat hf⟩
theorem RR.flat{w:World}{M M':Nat→Prop}(hM: ∀b,M b→M' b): ∀{ms:List AM} {x:HP ms} {vs ps:List Value},ms.all AM.flat=true→RR w M ms x vs ps→RR w M' ms x vs ps
 |[],_,_,_,_,h=>h
 |m::ms,x,vs,ps,hf,h=>by
  simp only[pn,aV]at hf
  simp only[RR]at h ⊢
  rcases h with⟨p,sR,h1,h2,h3,h4⟩|⟨v,yb,h1,h2,h3,h4,h5⟩
  ·exact .inl ⟨p,sR,h1,h2,h3.flat hM hf.1,RR.flat hM hf.2 h4⟩
  ·exact .inr ⟨v,yb,h1,h2,h3,h4.flat hM hf.1,RR.flat hM hf.2 h5⟩
theorem A1.np{w w':World}{M M':Nat→Prop}(k:bJ w M w' M'){m:AM}{x:m.den}{v:Value}(hm: ∀b∈bl m v,w'.heap[b]? =w.heap[b]? ∧M' b)(h:A1 w M m x v):A1 w' M' m x v:=by
 cases m with
 |v τ=>exact V.aK k h
 |own e=>
  simp only[A1]at h ⊢
  exact ER.aK k (λ_ b hb=>hm b (by simp[bl,hb])) h
 |io τ=>
  simp only[A1]at h ⊢
  exact ER.aK k (λ_ b hb=>hm b (by simp[bl,hb])) h
 |fn f τ=>exact VR.aK k (.refl _ _) h
 |dg τ=>exact VR.aK k (.refl _ _) h
 |sp τ n e=>
  simp only[A1]at h ⊢
  obtain⟨cs,dL,u,l,z,rfl,hq,hr,jW,hu,hs⟩:=h
  exact⟨cs,dL,u,l,z,rfl,hq,hr.aK k,jW,ER.aK k (λ_ b hb=>hm b (by rw[(nQ hq hr jW).1];simp[hb])) hu,hs⟩
 |lo e=>
  simp only[A1]at h ⊢
  exact ER.aK k (λ_ b hb=>hm b (by simp[bl,hb])) h
 |ptr τ=>
  simp only[A1]at h ⊢
  exact ER.aK k (λ_ b hb=>hm b (by simp[bl,hb])) h
theorem dC.np{w w':World}{M M':Nat→Prop}(k:bJ w M w' M'): ∀{ms:List AM} {x:HP ms} {vs:List Value},(∀b∈bE ms vs,w'.heap[b]? =w.heap[b]? ∧M' b)→dC w M ms x vs→dC w' M' ms x vs
 |[],_,_,_,h=>h
 |m::ms,x,vs,hm,h=>by
  simp only[dC]at h ⊢
  obtain⟨v,yb,rfl,h1,h2⟩:=h
  exact⟨v,yb,rfl,h1.np k (λb hb=>hm b (by simp[bE,hb])),dC.np k (λb hb=>hm b (by simp[bE,hb])) h2⟩
theorem RR.np{w w':World}{M M':Nat→Prop}(k:bJ w M w' M'): ∀{ms:List AM} {x:HP ms} {us ps:List Value},(∀b∈aF ms us ps,w'.heap[b]? =w.heap[b]? ∧M' b)→RR w M ms x us ps→RR w' M' ms x us ps
 |[],_,_,_,_,h=>h
 |m::ms,x,us,ps,hm,h=>by
  simp only[RR]at h ⊢
  rcases h with⟨p,sR,h1,rfl,h2,h3⟩|⟨v,sB,h1,h2,rfl,h3,h4⟩
  ·simp only[aF,h1,dv,kq,ku,bg]at hm
   exact .inl ⟨p,sR,h1,rfl,h2.np k (λb hb=>hm b (.inl hb)),RR.np k (λb hb=>hm b (.inr hb)) h3⟩
  ·simp only[aF,h1,dq,c7,kq,ku,bg]at hm
   exact .inr ⟨v,sB,h1,h2,rfl,h3.np k (λb hb=>hm b (.inl hb)),RR.np k (λb hb=>hm b (.inr hb)) h4⟩
theorem sS{H:Nat→Option ar}(hm:Mem c H w M ν){a:ax}{v:Value}(hv:VR w M H ν a v){τ:Ty}{k:τ.den→List Nat→dh→Option α}{r:α}(h:fk true a H τ k=some r):
  ∃y rd ups,k y rd ups=some r∧((ups=[]∧V w M τ v y)∨ ∃id e l,ups=[(id,some (.gr e l))]∧H id=some (.own e l)∧
   ∀M',(∀b,M' b↔(M b∧bK (ν id)≠some b))→V w M' τ v y):=by
 unfold fk at h
 split at h
 ·obtain⟨e,h⟩:=aw h
  subst e
  simp only[VR]at hv
  exact⟨_,[],[],h,.inl ⟨rfl,hv⟩⟩
 ·obtain⟨e,h⟩:=aw h
  subst e
  simp only[VR]at hv
  exact⟨_,[],[],h,.inl ⟨rfl,hv.1⟩⟩
 ·split at h
  ·rename_i e k' _
   simp only[VR]at hv
   obtain⟨a,rfl⟩:=hv
   refine⟨[],[],[],h,.inl ⟨rfl,V.slice.2 ?_⟩⟩
   simp only[Rd]
   exact⟨a,0,rfl,aB _,λi hi=>absurd hi (by simp)⟩
  ·cases h
 ·rename_i id
  simp only[VR]at hv
  obtain⟨_,rfl⟩:=hv
  split at h
  ·rename_i e l hid
   obtain⟨e',h⟩:=aw h
   subst e'
   refine⟨_,_,_,h,.inr ⟨id,e,l,rfl,hid,λM' QO=> ?_⟩⟩
   obtain⟨M2,_,hV,xe⟩:=Tr.freeze hm hid
   have:M'=M2:=by funext b;exact propext ((QO b).trans (xe b).symm)
   rw[this];exact hV
  ·rename_i e l hid
   obtain⟨e',h⟩:=aw h
   subst e'
   have:=hm.dd id _ hid
   simp only[ER]at this
   exact⟨_,_,_,h,.inl ⟨rfl,V.slice.2 this.1⟩⟩
  ·cases h
 ·cases h
theorem Ej{H:Nat→Option ar}(hm:Mem c H w M ν): ∀{a:Ty} {x:ax} {v:Value} {k:a.den→List Nat→dh→Option α} {r:α},VR w M H ν x v→rl x H a k=some r→
  ∃y rd ups,k y rd ups=some r∧(ups=[]→VR w M (λ_=>none) (λ_=>undef) (rm a y) v):=by
 intro a x v k r hv h
 unfold rl at h
 split at h
 ·rename_i a k
  split at h
  ·rename_i υ z
   obtain⟨e1,h⟩:=aw h
   subst e1
   refine⟨_,_,_,h,λ_=> ?_⟩
   simp only[rm,VR]at hv ⊢
   exact hv
  ·cases h
 ·rename_i k0 gX
  obtain⟨y,rd,ups,h,hy⟩:=sS hm hv h
  refine⟨y,rd,ups,h,λhu=> ?_⟩
  rcases hy with⟨_,hy⟩|⟨_,_,_,h3,_⟩
  ·have:rm _ y= .val _ y:=by
    unfold rm
    split
    ·exact(gX _ _ rfl HEq.rfl).elim
    ·rfl
   rw[this]
   simp only[VR];exact hy
  ·rw[hu]at h3;cases h3
theorem tY{H:Nat→Option ar}(hm:Mem c H w M ν): ∀{τ:Ty} {im:List ax} {vs:List Value} {k:τ.den→List Nat→dh→Option α} {r:α},dF w M H ν im vs→iR H τ im k=some r→
  ∃x rd ups,k x rd ups=some r∧(ups=[]→dF w M (λ_=>none) (λ_=>undef) (g8 τ x) vs)
 | .unit,[],[],k,r,_,h=>⟨(),[],[],h,λ_=>by simp[g8,dF]⟩
 | .pair a b,x::xs,v::vs,k,r,hv,h=>by
  simp only[dF]at hv
  unfold iR at h
  obtain⟨y,rd,ups,h,hy⟩:=Ej hm hv.1 h
  obtain⟨ys,nK,dy,h,My⟩:=tY hm hv.2 h
  refine⟨(y,ys),_,_,h,λhu=> ?_⟩
  have h1:ups=[]:=(yw.1 hu).1
  have h2:dy=[]:=(yw.1 hu).2
  simp only[g8,dF]
  exact⟨hy h1,My h2⟩
 | .unit,[],_::_,_,_,hv,_=>by simp[dF]at hv
 |_,_::_,[],_,_,hv,_=>by simp[dF]at hv
 | .unit,_::_,_,_,_,_,h=>by simp[iR]at h
 | .pair _ _,[],_,_,_,_,h=>by simp[iR]at h
 | .int _,_,_,_,_,_,h| .bool,_,_,_,_,_,h| .str,_,_,_,_,_,h| .slice _,_,_,_,_,_,h| .arr _ _,_,_,_,_,_,h=>by simp[iR]at h
def keys{β:Type}(l:List (Nat×β)):List Nat:=l.map (·.1)
theorem eW{i:Nat}: ∀{ups:dh} {H:Nat→Option ar},i∉keys ups→aN H ups i=H i
 |[],_,_=>rfl
 |u::r,H,h=>by
  simp only[keys,bz,bc,not_or]at h
  show aN (au H u.1 u.2) r i=_
  rw[eW h.2,ae _ _ h.1]
theorem pT(u:Nat×Option ar)(b:dh)(hb:u.1∉keys b): ∀(a:dh) (H:Nat→Option ar),aN H (a++u::b)=au (aN H (a++b)) u.1 u.2
 |[],H=>by
  show aN (au H u.1 u.2) b=au (aN H b) u.1 u.2
  induction b generalizing H with
  |nil=>rfl
  |cons v b ih=>
   simp only[keys,bz,bc,not_or]at hb
   show aN (au (au H u.1 u.2) v.1 v.2) b=au (aN (au H v.1 v.2) b) u.1 u.2
   rw[←ih hb.2]
   congr 1
   funext i
   by_cases h1:i=v.1
   ·subst h1;rw[aa,ae _ _ (cf hb.1),aa]
   ·by_cases h2:i=u.1
    ·subst h2;rw[ae _ _ h1,aa,aa]
    ·rw[ae _ _ h1,ae _ _ h2,ae _ _ h2,ae _ _ h1]
 |v::a,H=>pT u b hb a (au H v.1 v.2)
def Nm(H:Nat→Option ar)(q:Nat×AM):Prop:=(∃(τ:Ty) (x:τ.den),q.2= .io τ∧H q.1=some (.obj τ x))∨ ∃(e:Ty) (l:List e.den),q.2= .lo e∧H q.1=some (.own e l)
theorem Nm.some{H:Nat→Option ar}{q:Nat×AM}(h:Nm H q):H q.1≠none:=by
 rcases h with⟨_,x,_,h⟩|⟨e,l,_,h⟩<;>rw[h]<;>simp
structure dU(c:Ctx)(w:World)(M:Nat→Prop)(ν:Nat→Value)(H0 H1 Hq:Nat→Option ar)(M1:Nat→Prop)(uo uf:dh)(io:List (Nat×AM))(hs:List Nat):Prop where
 mem:Mem c H1 w M1 ν
 yZ:Mem c Hq w M ν
 aK:bJ w M w M1
 ext: ∀i,i∉keys io→aN H0 (uo++uf) i=H1 i
 Ek: ∀i,i∉keys io→aN H0 uo i=Hq i
 Cy: ∀q∈io,H1 q.1=some .gone∧Hq q.1=some .gone∧Nm H0 q
 Nn:(keys io).Nodup
 ks: ∀i∈keys (uo++uf),∀e l,H1 i≠some (.own e l)
 Mz: ∀i∈keys (uo++uf),i∉keys io∧ ∃e l,H0 i=some (.own e l)
 fz:Fz Hq H1
 Kf: ∀u∈uo,u.2=some .gone
 MA: ∀u∈uf,∃e l,u.2=some (.gr e l)∧H0 u.1=some (.own e l)
 nd:hs.Nodup
 hM: ∀b∈hs,M1 b
 y3: ∀b∈hs,c.B≤b∨c.may b
 none: ∀b∈hs,∀i e,Hq i=some e→e.mut→bK (ν i)≠some b
 MB: ∀b∈hs,c.M0 b→ ∃q∈io,bK (ν q.1)=some b
 same: ∀i,i∉keys (uo++uf)→i∉keys io→H1 i=H0 i
theorem dU.start{H:Nat→Option ar}(hm:Mem c H w M ν):dU c w M ν H H H M [] [] [] []:=
 ⟨hm,hm,.refl w M,λ_ _=>rfl,λ_ _=>rfl,λq hq=>by simp at hq,by simp[keys],λi hi=>by simp[keys]at hi,λi hi=>by simp[keys]at hi,.refl H,λu hu=>by simp at hu,λu hu=>by simp at hu,by simp,λb hb=>by simp at hb,λb hb=>by simp at hb,λb hb=>by simp at hb,λb hb=>by simp at hb,λ_ _ _=>rfl⟩
theorem Fz.Hi{H H1:Nat→Option ar}(h:Fz H H1){i:Nat}{e:Ty}{l:List e.den}(hi:H1 i=some (.own e l)):H i=some (.own e l):=by
 rcases h i with h'|⟨e',l',_,h'⟩
 ·rw[←h',hi]
 ·rw[hi]at h';cases h'
theorem Fz.No{H H1:Nat→Option ar}(h:Fz H H1){i:Nat}{e:Ty}{l:e.den}(hi:H1 i=some (.obj e l)):H i=some (.obj e l):=by
 rcases h i with h'|⟨e',l',_,h'⟩
 ·rw[←h',hi]
 ·rw[hi]at h';cases h'
theorem Fz.mut{H H1:Nat→Option ar}(h:Fz H H1){i:Nat}{e:ar}(hi:H1 i=some e)(hm:e.mut):H i=some e:=by
 cases e with
 |obj=>exact h.No hi
 |cQ=>
  rcases h i with h'|⟨e',l',_,h'⟩
  ·rw[←h',hi]
  ·rw[hi]at h';cases h'
 |own=>exact h.Hi hi
 |gr=>simp[ar.mut]at hm
 |cq _ _ _=>simp[ar.mut]at hm
 |gone=>simp[ar.mut]at hm
theorem dU.freeze{H0 H1 Hq:Nat→Option ar}{M1:Nat→Prop}{uo uf:dh}{io:List (Nat×AM)}{hs:List Nat}(h:dU c w M ν H0 H1 Hq M1 uo uf io hs){id:Nat}{e:Ty}{l:List e.den}(hid:H1 id=some (.own e l)):
  ∃M2,dU c w M ν H0 (au H1 id (some (.gr e l))) Hq M2 uo ((id,some (.gr e l))::uf) io hs∧bJ w M1 w M2∧(∀b,M2 b↔(M1 b∧bK (ν id)≠some b)):=by
 obtain⟨M2,cI,_,xe⟩:=Tr.freeze h.mem hid
 have kK:id∉keys io:=λhk=>by
  obtain⟨q,hq,rfl⟩:=cm.1 hk
  have:=(h.Cy q hq).1
  rw[hid]at this;cases this
 have DJ:id∉keys (uo++uf):=λhk=>h.ks id hk e l hid
 have Kg:id∉keys uf:=λhk=>DJ (by simp only[keys,cU,bg];exact .inr hk)
 have h0:H0 id=some (.own e l):=by rw[←h.same id DJ kK];exact hid
 have hq:Hq id=some (.own e l):=h.fz.Hi hid
 have eT: ∀i,i∈keys (uo++(id,some (ar.gr e l))::uf)↔i=id∨i∈keys (uo++uf):=by
  intro i
  simp only[keys,cU,bz,bg,bc]
  constructor
  ·rintro(h|h|h)
   ·exact .inr (.inl h)
   ·exact .inl h
   ·exact .inr (.inr h)
  ·rintro(h|h|h)
   ·exact .inr (.inl h)
   ·exact .inl h
   ·exact .inr (.inr h)
 refine⟨M2,⟨cI.mem,h.yZ,h.aK.trans cI.aK,λi hi=> ?_,h.Ek,λq iw=> ?_,h.Nn,λi hi e' l'=> ?_,λi hi=> ?_,λi=> ?_,h.Kf,λu hu=> ?_,h.nd,λb hb=> ?_,h.y3,h.none,h.MB,λi hi kk=> ?_⟩,cI.aK,xe⟩
 ·rw[pT _ _ Kg]
  by_cases ay:i=id
  ·subst ay;rw[aa,aa]
  ·rw[ae _ _ ay,ae _ _ ay];exact h.ext i hi
 ·obtain⟨h1,h2,h3⟩:=h.Cy q iw
  have dT:q.1≠id:=λe=>kK (e▸jB iw)
  exact⟨by rw[ae _ _ dT];exact h1,h2,h3⟩
 ·by_cases ay:i=id
  ·subst ay;rw[aa];intro h';cases h'
  ·rw[ae _ _ ay]
   exact h.ks i (((eT i).1 hi).resolve_left ay) e' l'
 ·rcases(eT i).1 hi with rfl|hi
  ·exact⟨kK,e,l,h0⟩
  ·exact h.Mz i hi
 ·by_cases ay:i=id
  ·subst ay;exact .inr ⟨e,l,hq,aa _ _ _⟩
  ·rw[ae _ _ ay];exact h.fz i
 ·rcases bc.1 hu with rfl|hu
  ·exact⟨e,l,rfl,h0⟩
  ·exact h.MA u hu
 ·exact(xe b).2 ⟨h.hM b hb,λbA=>h.none b hb id _ hq trivial bA⟩
 ·have dT:i≠id:=λe=>hi ((eT i).2 (.inl e))
  rw[ae _ _ dT]
  exact h.same i (λh'=>hi ((eT i).2 (.inr h'))) kk
theorem dU.hand{H0 H1 Hq:Nat→Option ar}{M1:Nat→Prop}{uo uf:dh}{io:List (Nat×AM)}{hs:List Nat}(h:dU c w M ν H0 H1 Hq M1 uo uf io hs){id:Nat}{e:Ty}{l:List e.den}(hid:H1 id=some (.own e l)):
  dU c w M ν H0 (au H1 id (some .gone)) (au Hq id (some .gone)) M1 ((id,some .gone)::uo) uf io (hs++(bK (ν id)).toList):=by
 have kK:id∉keys io:=λhk=>by
  obtain⟨q,hq,rfl⟩:=cm.1 hk
  have:=(h.Cy q hq).1
  rw[hid]at this;cases this
 have DJ:id∉keys (uo++uf):=λhk=>h.ks id hk e l hid
 have Kg:id∉keys uo:=λhk=>DJ (by simp only[keys,cU,bg];exact .inl hk)
 have h0:H0 id=some (.own e l):=by rw[←h.same id DJ kK];exact hid
 have hq:Hq id=some (.own e l):=h.fz.Hi hid
 have eT: ∀i,i∈keys ((id,some ar.gone)::uo++uf)↔i=id∨i∈keys (uo++uf):=by
  intro i
  simp only[keys,cU,bz,iH,bg,bc]
 have pL: ∀b,bK (ν id)=some b→b∉hs:=λb hb bA=>h.none b bA id _ hq trivial hb
 refine⟨(Tr.gone h.mem id).mem,(Tr.gone h.yZ id).mem,h.aK,λi hi=> ?_,λi hi=> ?_,λq iw=> ?_,h.Nn,λi hi e' l'=> ?_,λi hi=> ?_,λi=> ?_,λu hu=> ?_,h.MA,?_,λb hb=> ?_,λb hb=> ?_,λb hb i e' hi hm=> ?_,λb hb GI=> ?_,λi hi kk=> ?_⟩
 ·have:=pT (id,some .gone) (uo++uf) DJ [] H0
  simp only[fF]at this
  rw[iH,this]
  by_cases ay:i=id
  ·subst ay;rw[aa,aa]
  ·rw[ae _ _ ay,ae _ _ ay];exact h.ext i hi
 ·have:=pT (id,some .gone) uo Kg [] H0
  simp only[fF]at this
  rw[this]
  by_cases ay:i=id
  ·subst ay;rw[aa,aa]
  ·rw[ae _ _ ay,ae _ _ ay];exact h.Ek i hi
 ·obtain⟨h1,h2,h3⟩:=h.Cy q iw
  have dT:q.1≠id:=λe=>kK (e▸jB iw)
  exact⟨by rw[ae _ _ dT];exact h1,by rw[ae _ _ dT];exact h2,h3⟩
 ·by_cases ay:i=id
  ·subst ay;rw[aa];intro h';cases h'
  ·rw[ae _ _ ay]
   exact h.ks i (((eT i).1 hi).resolve_left ay) e' l'
 ·rcases(eT i).1 hi with rfl|hi
  ·exact⟨kK,e,l,h0⟩
  ·exact h.Mz i hi
 ·by_cases ay:i=id
  ·subst ay;left;rw[aa,aa]
  ·rw[ae _ _ ay,ae _ _ ay];exact h.fz i
 ·rcases bc.1 hu with rfl|hu
  ·rfl
  ·exact h.Kf u hu
 ·refine gl.2 ⟨h.nd,?_,λx hx y hy=> ?_⟩
  ·cases bK (ν id)<;>simp
  ·rw[ca]at hy
   intro IU;subst IU
   exact pL x hy hx
 ·rcases bg.1 hb with hb|hb
  ·exact h.hM b hb
  ·rw[ca]at hb
   exact(h.mem.dd id _ hid).jt trivial hb
 ·rcases bg.1 hb with hb|hb
  ·exact h.y3 b hb
  ·rw[ca]at hb
   exact h.mem.new id _ b hid trivial hb
 ·by_cases ay:i=id
  ·subst ay;rw[aa]at hi;cases hi;simp[ar.mut]at hm
  ·rw[ae _ _ ay]at hi
   rcases bg.1 hb with hb|hb
   ·exact h.none b hb i e' hi hm
   ·rw[ca]at hb
    intro bA
    exact h.yZ.ob i id e' _ b ay hi hm hq trivial bA hb
 ·rcases bg.1 hb with hb|hb
  ·exact h.MB b hb GI
  ·rw[ca]at hb
   exact absurd GI (h.mem.n7 id e l b hid hb)
 ·have dT:i≠id:=λe=>hi ((eT i).2 (.inl e))
  rw[ae _ _ dT]
  exact h.same i (λh'=>hi ((eT i).2 (.inr h'))) kk
theorem dU.Kh{H0 H1 Hq:Nat→Option ar}{M1:Nat→Prop}{uo uf:dh}{io:List (Nat×AM)}{hs:List Nat}(h:dU c w M ν H0 H1 Hq M1 uo uf io hs){id:Nat}{τ:Ty}{x:τ.den}(hid:H1 id=some (.obj τ x)):
  dU c w M ν H0 (au H1 id (some .gone)) (au Hq id (some .gone)) M1 uo uf (io++[(id,.io τ)]) (hs++(bK (ν id)).toList):=by
 have kK:id∉keys io:=λhk=>by
  obtain⟨q,hq,rfl⟩:=cm.1 hk
  have:=(h.Cy q hq).1
  rw[hid]at this;cases this
 have hq:Hq id=some (.obj τ x):=h.fz.No hid
 have DJ:id∉keys (uo++uf):=λhk=>by
  have h1:=h.ext id kK
  obtain⟨_,e,l,h0⟩:=h.Mz id hk
  have key: ∀(ups:dh) (H:Nat→Option ar),(∀u∈ups,u.2=some .gone∨ ∃e l,u.2=some (.gr e l))→id∈keys ups→aN H ups id=some .gone∨ ∃e l,aN H ups id=some (.gr e l):=by
   intro ups
   induction ups with
   |nil=>intro H _ hk;simp[keys]at hk
   |cons u ups ih=>
    intro H hv hk
    by_cases sT:id∈keys ups
    ·exact ih _ (λv GB=>hv v (a7 _ GB)) sT
    ·show aN (au H u.1 u.2) ups id=_∨ ∃e l,aN (au H u.1 u.2) ups id=_
     rw[eW sT]
     have Nf:id=u.1:=by
      simp only[keys,bz,bc]at hk sT
      exact hk.resolve_right sT
     rw[Nf,aa]
     exact hv u ba
  have:=key (uo++uf) H0 (λu hu=>by
   rcases bg.1 hu with hu|hu
   ·exact .inl (h.Kf u hu)
   ·obtain⟨e,l,h',_⟩:=h.MA u hu;exact .inr ⟨e,l,h'⟩) hk
  rw[h1,hid]at this
  rcases this with h'|⟨_,_,h'⟩<;>cases h'
 have h0:H0 id=some (.obj τ x):=by rw[←h.same id DJ kK];exact hid
 have eT: ∀i,i∈keys (io++[(id,.io τ)])↔i∈keys io∨i=id:=by
  intro i
  simp only[keys,cU,bz,fJ,bg,bc,tp,or_false]
 have pL: ∀b,bK (ν id)=some b→b∉hs:=λb hb bA=>h.none b bA id _ hq trivial hb
 refine⟨(Tr.gone h.mem id).mem,(Tr.gone h.yZ id).mem,h.aK,λi hi=> ?_,λi hi=> ?_,λq iw=> ?_,?_,λi hi e' l'=> ?_,λi hi=> ?_,λi=> ?_,h.Kf,h.MA,?_,λb hb=> ?_,λb hb=> ?_,λb hb i e' hi hm=> ?_,λb hb GI=> ?_,λi hi kk=> ?_⟩
 ·rw[ae _ _ (λe=>hi ((eT i).2 (.inr e)))];exact h.ext i (λh'=>hi ((eT i).2 (.inl h')))
 ·rw[ae _ _ (λe=>hi ((eT i).2 (.inr e)))];exact h.Ek i (λh'=>hi ((eT i).2 (.inl h')))
 ·rcases bg.1 iw with iw|iw
  ·obtain⟨h1,h2,h3⟩:=h.Cy q iw
   have dT:q.1≠id:=λe=>kK (e▸jB iw)
   exact⟨by rw[ae _ _ dT];exact h1,by rw[ae _ _ dT];exact h2,h3⟩
  ·rw[eC]at iw;subst iw
   exact⟨aa _ _ _,aa _ _ _,.inl ⟨τ,x,rfl,h0⟩⟩
 ·simp only[keys,cU,bz,fJ]
  refine gl.2 ⟨h.Nn,by simp,λx hx y hy=> ?_⟩
  rw[eC]at hy;subst hy
  intro e;exact kK (e▸hx)
 ·by_cases ay:i=id
  ·subst ay;rw[aa];intro h';cases h'
  ·rw[ae _ _ ay];exact h.ks i hi e' l'
 ·obtain⟨h1,h2⟩:=h.Mz i hi
  exact⟨λh'=>((eT i).1 h').elim h1 (λe=>DJ (e▸hi)),h2⟩
 ·by_cases ay:i=id
  ·subst ay;left;rw[aa,aa]
  ·rw[ae _ _ ay,ae _ _ ay];exact h.fz i
 ·refine gl.2 ⟨h.nd,?_,λx hx y hy=> ?_⟩
  ·cases bK (ν id)<;>simp
  ·rw[ca]at hy
   intro IU;subst IU
   exact pL x hy hx
 ·rcases bg.1 hb with hb|hb
  ·exact h.hM b hb
  ·rw[ca]at hb
   exact(h.mem.dd id _ hid).jt trivial hb
 ·rcases bg.1 hb with hb|hb
  ·exact h.y3 b hb
  ·rw[ca]at hb
   exact h.mem.new id _ b hid trivial hb
 ·by_cases ay:i=id
  ·subst ay;rw[aa]at hi;cases hi;simp[ar.mut]at hm
  ·rw[ae _ _ ay]at hi
   rcases bg.1 hb with hb|hb
   ·exact h.none b hb i e' hi hm
   ·rw[ca]at hb
    intro bA
    exact h.yZ.ob i id e' _ b ay hi hm hq trivial bA hb
 ·rcases bg.1 hb with hb|hb
  ·obtain⟨q,IV,GA⟩:=h.MB b hb GI
   exact⟨q,aS _ IV,GA⟩
  ·rw[ca]at hb
   exact⟨(id,.io τ),by simp,hb⟩
 ·have dT:i≠id:=λe=>kk ((eT i).2 (.inr e))
  rw[ae _ _ dT]
  exact h.same i hi (λh'=>kk ((eT i).2 (.inl h')))
theorem dU.IW{H0 H1 Hq:Nat→Option ar}{M1:Nat→Prop}{uo uf:dh}{io:List (Nat×AM)}{hs:List Nat}(h:dU c w M ν H0 H1 Hq M1 uo uf io hs){id:Nat}{e:Ty}{l:List e.den}(hid:H1 id=some (.own e l)):
  dU c w M ν H0 (au H1 id (some .gone)) (au Hq id (some .gone)) M1 uo uf (io++[(id,.lo e)]) (hs++(bK (ν id)).toList):=by
 have kK:id∉keys io:=λhk=>by
  obtain⟨q,hq,rfl⟩:=cm.1 hk
  have:=(h.Cy q hq).1
  rw[hid]at this;cases this
 have hq:Hq id=some (.own e l):=h.fz.Hi hid
 have DJ:id∉keys (uo++uf):=λhk=>h.ks id hk e l hid
 have h0:H0 id=some (.own e l):=by rw[←h.same id DJ kK];exact hid
 have eT: ∀i,i∈keys (io++[(id,.lo e)])↔i∈keys io∨i=id:=by
  intro i
  simp only[keys,cU,bz,fJ,bg,bc,tp,or_false]
 have pL: ∀b,bK (ν id)=some b→b∉hs:=λb hb bA=>h.none b bA id _ hq trivial hb
 refine⟨(Tr.gone h.mem id).mem,(Tr.gone h.yZ id).mem,h.aK,λi hi=> ?_,λi hi=> ?_,λq iw=> ?_,?_,λi hi e' l'=> ?_,λi hi=> ?_,λi=> ?_,h.Kf,h.MA,?_,λb hb=> ?_,λb hb=> ?_,λb hb i e' hi hm=> ?_,λb hb GI=> ?_,λi hi kk=> ?_⟩
 ·rw[ae _ _ (λe=>hi ((eT i).2 (.inr e)))];exact h.ext i (λh'=>hi ((eT i).2 (.inl h')))
 ·rw[ae _ _ (λe=>hi ((eT i).2 (.inr e)))];exact h.Ek i (λh'=>hi ((eT i).2 (.inl h')))
 ·rcases bg.1 iw with iw|iw
  ·obtain⟨h1,h2,h3⟩:=h.Cy q iw
   have dT:q.1≠id:=λe=>kK (e▸jB iw)
   exact⟨by rw[ae _ _ dT];exact h1,by rw[ae _ _ dT];exact h2,h3⟩
  ·rw[eC]at iw;subst iw
   exact⟨aa _ _ _,aa _ _ _,.inr ⟨e,l,rfl,h0⟩⟩
 ·simp only[keys,cU,bz,fJ]
  refine gl.2 ⟨h.Nn,by simp,λx hx y hy=> ?_⟩
  rw[eC]at hy;subst hy
  intro e;exact kK (e▸hx)
 ·by_cases ay:i=id
  ·subst ay;rw[aa];intro h';cases h'
  ·rw[ae _ _ ay];exact h.ks i hi e' l'
 ·obtain⟨h1,h2⟩:=h.Mz i hi
  exact⟨λh'=>((eT i).1 h').elim h1 (λe=>DJ (e▸hi)),h2⟩
 ·by_cases ay:i=id
  ·subst ay;left;rw[aa,aa]
  ·rw[ae _ _ ay,ae _ _ ay];exact h.fz i
 ·refine gl.2 ⟨h.nd,?_,λx hx y hy=> ?_⟩
  ·cases bK (ν id)<;>simp
  ·rw[ca]at hy
   intro IU;subst IU
   exact pL x hy hx
 ·rcases bg.1 hb with hb|hb
  ·exact h.hM b hb
  ·rw[ca]at hb
   exact(h.mem.dd id _ hid).jt trivial hb
 ·rcases bg.1 hb with hb|hb
  ·exact h.y3 b hb
  ·rw[ca]at hb
   exact h.mem.new id _ b hid trivial hb
 ·by_cases ay:i=id
  ·subst ay;rw[aa]at hi;cases hi;simp[ar.mut]at hm
  ·rw[ae _ _ ay]at hi
   rcases bg.1 hb with hb|hb
   ·exact h.none b hb i e' hi hm
   ·rw[ca]at hb
    intro bA
    exact h.yZ.ob i id e' _ b ay hi hm hq trivial bA hb
 ·rcases bg.1 hb with hb|hb
  ·obtain⟨q,IV,GA⟩:=h.MB b hb GI
   exact⟨q,aS _ IV,GA⟩
  ·rw[ca]at hb
   exact⟨(id,.lo e),by simp,hb⟩
 ·have dT:i≠id:=λe=>kk ((eT i).2 (.inr e))
  rw[ae _ _ dT]
  exact h.same i hi (λh'=>kk ((eT i).2 (.inl h')))
theorem dM.qz{H:Nat→Option ar}{id:Nat}{e e':ar}(hid:H id=some e)(hl:e.eg e'):dM H ν (au H id (some e')) ν:=
 ⟨λi e1 hi=>by
  by_cases ay:i=id
  ·subst ay;rw[hid]at hi;cases hi;exact⟨e',aa _ _ _,hl⟩
  ·exact⟨e1,by rw[ae _ _ ay];exact hi,.refl e1⟩,λ_ _=>rfl⟩
theorem ar.dN(e:ar):e.eg .gone:=by cases e<;>simp[ar.eg]
theorem VR.Np{H H':Nat→Option ar}{ν':Nat→Value}{a:Ty}{x:a.den}{v:Value}(h:VR w M H ν (rm a x) v):VR w M H' ν' (rm a x) v:=by
 unfold rm at h ⊢
 split at h
 ·simp only[VR]at h ⊢;exact h
 ·simp only[VR]at h ⊢;exact h
theorem dF.free{H H':Nat→Option ar}{ν':Nat→Value}: ∀{τ:Ty} {x:τ.den} {vs:List Value},dF w M H ν (g8 τ x) vs→dF w M H' ν' (g8 τ x) vs
 | .pair a b,x,v::vs,h=>by
  simp only[g8,dF]at h ⊢
  exact⟨VR.Np h.1,dF.free h.2⟩
 | .pair a b,x,[],h=>by simp[g8,dF]at h
 | .int _,_,[],_| .bool,_,[],_| .str,_,[],_| .slice _,_,[],_| .unit,_,[],_| .arr _ _,_,[],_=>by simp[g8,dF]
 | .int _,_,_::_,h| .bool,_,_::_,h| .str,_,_::_,h| .slice _,_,_::_,h| .unit,_,_::_,h| .arr _ _,_,_::_,h=>by simp[g8,dF]at h
theorem rG{H0 H1 Hq:Nat→Option ar}{M1:Nat→Prop}{uo uf:dh}{io:List (Nat×AM)}{hs:List Nat}(h:dU c w M ν H0 H1 Hq M1 uo uf io hs){m:AM}{x:ax}{v:Value}(hv:VR w M1 H1 ν x v)
  {k:m.den→(Nat→Option ar)→List Nat→dh→dh→List (Nat×AM)→Option α} (hk:ga m x H1 k=some r):
  ∃y H2 rd xW xX vq DK M2,k y H2 rd xW xX vq=some r∧dU c w M ν H0 H2 DK M2 (xW++uo) (xX++uf) (io++vq) (hs++bl m v)∧bJ w M1 w M2∧dM H1 ν H2 ν∧A1 w M2 m y v∧
   vq.map (λq=>ν q.1)=(if m.dm then [v]else [])∧vq.map (·.2)=fw [m]:=by
 unfold ga at hk
 split at hk
 ·
  rename_i τ k
  obtain⟨y,rd,ups,hk,hy⟩:=sS h.mem hv hk
  rcases hy with⟨rfl,hV⟩|⟨id,e,l,rfl,hid,hV⟩
  ·exact⟨y,H1,rd,[],[],[],Hq,M1,hk,by simpa [bl]using h,.refl w M1,.refl H1 ν,hV,rfl,rfl⟩
  ·obtain⟨M2,hA,hK,xe⟩:=h.freeze hid
   exact⟨y,_,rd,[],_,[],Hq,M2,hk,by simpa [bl]using hA,hK,.qz hid ⟨rfl,rfl⟩,hV M2 xe,rfl,rfl⟩
 ·
  rename_i e k
  split at hk
  ·obtain⟨ad,hv⟩:=VR.emp.1 hv
   subst hv
   have hb:bK (.slice ad 0 0)=none:=by cases ad<;>simp[bK]
   exact⟨[],H1,[],[],[],[],Hq,M1,hk,by simpa [bl,hb]using h,.refl w M1,.refl H1 ν,by simp only[A1,ER];exact .inl ⟨trivial,ad,rfl⟩,rfl,rfl⟩
  ·rename_i id
   split at hk
   ·rename_i e' l hid
    obtain⟨e1,hk⟩:=aw hk
    cases e1
    simp only[VR]at hv
    obtain⟨_,rfl⟩:=hv
    refine⟨_,_,_,_,_,_,_,M1,hk,by simpa [bl]using h.hand hid,.refl w M1,.qz hid (ar.dN _),?_,rfl,rfl⟩
    have:=h.mem.dd id _ hid
    exact this
   ·cases hk
  ·cases hk
 ·
  rename_i τ k
  split at hk
  ·rename_i id
   split at hk
   ·rename_i υ z hid
    obtain⟨e1,hk⟩:=aw hk
    subst e1
    simp only[VR]at hv
    obtain⟨e,he,dR⟩:=hv
    rw[hid]at he;cases he
    simp only[AR]at dR
    obtain⟨_,b,hb,hv⟩:=dR
    have El:v=ν id:=by rw[hv,hb];rfl
    subst El
    refine⟨_,_,_,_,_,_,_,M1,hk,by simpa [bl]using h.Kh hid,.refl w M1,.qz hid (ar.dN _),?_,rfl,rfl⟩
    have:=h.mem.dd id _ hid
    exact this
   ·cases hk
  ·cases hk
 ·
  rename_i f τ k
  split at hk
  ·rename_i f' cs
   obtain⟨hf,qA⟩:=aG hk
   clear hk
   have hf:=bY hf
   subst hf
   have hk:=qA
   clear qA
   simp only[VR]at hv
   obtain⟨us,rfl,G9⟩:=hv
   obtain⟨y,rd,ups,hk,hy⟩:=tY h.mem G9 hk
   split at hk
   ·exact⟨y,H1,rd,[],[],[],Hq,M1,hk,by simpa [bl]using h,.refl w M1,.refl H1 ν,by simp only[A1,VR];exact⟨us,rfl,hy rfl⟩,rfl,rfl⟩
   ·cases hk
  ·cases hk
 ·cases hk
 ·
  rename_i τ k
  split at hk
  ·rename_i υ z
   obtain⟨e1,hk⟩:=aw hk
   subst e1
   exact⟨_,H1,_,[],[],[],Hq,M1,hk,by simpa [bl]using h,.refl w M1,.refl H1 ν,by simp only[A1,VR]at hv ⊢;exact hv,rfl,rfl⟩
  ·cases hk
 ·
  rename_i e k
  split at hk
  ·rename_i id
   split at hk
   ·rename_i e' l hid
    obtain⟨e1,hk⟩:=aw hk
    cases e1
    simp only[VR]at hv
    obtain⟨_,rfl⟩:=hv
    refine⟨_,_,_,_,_,_,_,M1,hk,by simpa [bl]using h.IW hid,.refl w M1,.qz hid (ar.dN _),?_,rfl,rfl⟩
    have:=h.mem.dd id _ hid
    exact this
   ·cases hk
  ·cases hk
 ·cases hk
theorem rH{H0:Nat→Option ar}: ∀{ms:List AM} {im:List ax} {vs:List Value} {H1 Hq:Nat→Option ar} {M1:Nat→Prop} {rd:List Nat} {uo uf:dh} {io:List (Nat×AM)} {hs:List Nat} {K:HP ms→List Nat→dh→dh→List (Nat×AM)→Option α},
  dU c w M ν H0 H1 Hq M1 uo uf io hs→dF w M1 H1 ν im vs→kA ms im H1 rd uo uf io K=some r→
  ∃x nK xW xX vq H2 DK M2,K x nK xW xX vq=some r∧dU c w M ν H0 H2 DK M2 xW xX vq (hs++bE ms vs)∧bJ w M1 w M2∧dC w M2 ms x vs∧
   vq.map (λq=>ν q.1)=io.map (λq=>ν q.1)++cv ms vs∧vq.map (·.2)=io.map (·.2)++fw ms
 |[],[],[],H1,Hq,M1,rd,uo,uf,io,hs,K,h,_,hk=>
  ⟨(),rd,uo,uf,io,H1,Hq,M1,hk,by simpa [bE]using h,.refl w M1,rfl,by simp[cv],by simp[fw]⟩
 |[m],[x],[v],H1,Hq,M1,rd,uo,uf,io,hs,K,h,hv,hk=>by
  simp only[dF,cn]at hv
  obtain⟨y,H2,Ed,Vd,Ve,Vf,DK,M2,hk,hA,hK,hG,hy,Hj,Bq⟩:=rG h hv (hk:ga m x H1 _=some r)
  refine⟨y,_,_,_,_,H2,DK,M2,hk,by simpa [bE]using hA,hK,⟨v,[],rfl,hy,rfl⟩,?_,?_⟩
  ·rw[cU,Hj];cases kK:m.dm<;>simp[cv,kK]
  ·rw[cU,Bq]
 |m::n::ms,x::xs,v::vs,H1,Hq,M1,rd,uo,uf,io,hs,K,h,hv,hk=>by
  simp only[dF]at hv
  obtain⟨y,H2,Ed,Vd,Ve,Vf,DK,M2,hk,hA,hK,hG,hy,Hj,Bq⟩:=rG h hv.1 (hk:ga m x H1 _=some r)
  obtain⟨ys,nK,xW,xX,vq,H3,P0,M3,hk,S6,P1,My,Vg,S7⟩:=rH (ms:=n::ms) hA (dF.aK hK hG hv.2) hk
  refine⟨(y,ys),_,_,_,_,H3,P0,M3,hk,by simpa [bE,bq]using S6,hK.trans P1,⟨v,vs,rfl,?_,My⟩,?_,?_⟩
  ·refine A1.np P1 (λb hb=>⟨rfl,S6.hM b ?_⟩) hy
   exact aS _ (bh _ hb)
  ·rw[Vg,cU,Hj,bq]
   congr 1
   cases kK:m.dm<;>simp[cv,kK]
  ·rw[S7,cU,Bq,bq]
   congr 1
   cases m<;>simp[fw]
 |[],_::_,_,_,_,_,_,_,_,_,_,_,_,_,hk=>by simp[kA]at hk
 |[_],[],_,_,_,_,_,_,_,_,_,_,_,_,hk=>by simp[kA]at hk
 |[_],_::_::_,_,_,_,_,_,_,_,_,_,_,_,_,hk=>by simp[kA]at hk
 |_::_::_,[],_,_,_,_,_,_,_,_,_,_,_,_,hk=>by simp[kA]at hk
 |_,_::_,[],_,_,_,_,_,_,_,_,_,_,hv,_=>by simp[dF]at hv
 |[],[],_::_,_,_,_,_,_,_,_,_,_,_,hv,_=>by simp[dF]at hv
 |[_],[_],_::_::_,_,_,_,_,_,_,_,_,_,_,hv,_=>by simp[dF]at hv
theorem Mem.call{H:Nat→Option ar}(h:Mem c H w M ν){hs:List Nat}{M0 M':Nat→Prop}{w':World}(hM: ∀b,M0 b→M b)(S8: ∀b∈hs,M b)
  (gX: ∀b∈hs,∀i e,H i=some e→e.mut→bK (ν i)≠some b) (dV: ∀b∈hs,c.B≤b∨c.may b) (kK: ∀b∈hs,c.M0 b→M' b) (L:Left w M0 hs w' M'):
  Mem c H w' (λb=>M' b∨(M b∧b∉hs)) ν∧bJ w M w' (λb=>M' b∨(M b∧b∉hs)):=by
 have hk:bJ w M w' (λb=>M' b∨(M b∧b∉hs)):=by
  refine⟨L.size,λb hb hm=>L.frame b hb (λhh=>hm (S8 b hh)),λb hb hm=> ?_⟩
  rcases hm with hm|hm
  ·exact(L.less b hb hm).elim (hM b) (S8 b)
  ·exact hm.1
 refine⟨⟨λi e hi=>(h.dd i e hi).aK hk λhm b hb=> ?_,h.ob,h.new,h.n7,fM h (λ_ _=>rfl) (λ_ h=>h) (λi τ x p j hi=> .inl ⟨hi,λb hb=> ?_⟩),λb hb=> ?_,λb hb=> ?_,λb hb hm=> ?_,cX h.size L.size,h.gf,L.os.trans h.os,L.tape.trans h.tape,L.output.trans h.output⟩,hk⟩
 ·have JS:=(h.dd i e hi).jt hm hb
  have pL:b∉hs:=λhh=>gX b hh i e hi hm hb
  exact⟨L.frame b (h.oy b JS) pL,.inr ⟨JS,pL⟩⟩
 ·have ru:bK (ν i)=some b:=by rw[hb];rfl
  have JS:=(h.dd i _ hi).jt trivial ru
  exact L.frame b (h.oy b JS) (λhh=>gX b hh i _ hi trivial ru)
 ·by_cases hh:b∈hs
  ·exact .inl (kK b hh hb)
  ·exact .inr ⟨h.sub b hb,hh⟩
 ·rcases hb with hb|hb
  ·exact L.oy b hb
  ·exact fe (h.oy b hb.1) L.size
 ·have pL:b∉hs:=λhh=>(dV b hh).elim (λh'=>ω) hm
  rw[L.frame b (fe hb h.size) pL]
  exact h.frame b hb hm
theorem Mem.mo{H:Nat→Option ar}(h:Mem c H w M ν){id:Nat}{v:Value}{e:ar}(hid: ∀e',H id=some e'→ ¬e'.mut)(tG:ER w M v e)
  (hd: ∀b,bK v=some b→ ∀i e',H i=some e'→e'.mut→bK (ν i)≠some b) (hn: ∀b,bK v=some b→c.B≤b∨c.may b) (ho: ∀b e0 l0,e= .own e0 l0→bK v=some b→ ¬c.M0 b)
  (Nq:H id=none∨v=ν id)
  (iU: ∀τ x p j,e= .cQ τ x p j→au H id (some e) j≠none∧ ∃b,v= .pointer (some ⟨b,0,none⟩)∧w.cell? ⟨b,aO p τ,none⟩=some (updν ν id v j):=by intro _ _ _ _ h;cases h):
  Mem c (au H id (some e)) w M (updν ν id v):=by
 have hν: ∀i,i≠id→updν ν id v i=ν i:=λi hi=>by simp[updν,hi]
 have hνs:updν ν id v id=v:=by simp[updν]
 refine⟨λi e1 hi=> ?_,λi k e1 e2 b1 gH hi ew hk iC=> ?_,λi e1 b1 hi ew=> ?_,λi e1 l1 b1 hi=> ?_,fM h (λi hi=> ?_) ly (λi τ x p j hi=> ?_),h.sub,h.oy,h.frame,h.size,h.gf,h.os,h.tape,h.output⟩
 ·by_cases ay:i=id
  ·subst ay;rw[aa]at hi;cases hi;rw[hνs];exact tG
  ·rw[ae _ _ ay]at hi;rw[hν i ay];exact h.dd i e1 hi
 ·by_cases ay:i=id
  ·subst ay;rw[hνs]
   have vt:k≠i:=cf gH
   rw[ae _ _ vt]at hk;rw[hν k vt]
   intro bL
   exact hd b1 bL k e2 hk iC
  ·rw[ae _ _ ay]at hi;rw[hν i ay]
   by_cases vt:k=id
   ·subst vt;rw[hνs]
    intro bL lz
    exact hd b1 lz i e1 hi ew bL
   ·rw[ae _ _ vt]at hk;rw[hν k vt];exact h.ob i k e1 e2 b1 gH hi ew hk iC
 ·by_cases ay:i=id
  ·subst ay;rw[hνs];exact hn b1
  ·rw[ae _ _ ay]at hi;rw[hν i ay];exact h.new i e1 b1 hi ew
 ·by_cases ay:i=id
  ·subst ay;rw[aa]at hi;cases hi;rw[hνs];exact ho b1 e1 l1 rfl
  ·rw[ae _ _ ay]at hi;rw[hν i ay];exact h.n7 i e1 l1 b1 hi
 ·by_cases ay:i=id
  ·subst ay
   rcases Nq with Nq|Nq
   ·exact absurd Nq hi
   ·rw[hνs,Nq]
  ·exact hν i ay
 ·by_cases ay:i=id
  ·subst ay
   rw[aa]at hi
   cases hi
   obtain⟨h1,b,h2,h3⟩:=iU _ _ _ _ rfl
   exact .inr ⟨h1,b,by rw[hνs];exact h2,h3⟩
  ·rw[ae _ _ ay]at hi
   exact .inl ⟨hi,λ_ _=>rfl⟩
theorem Cz{m:AM}{ms:List AM}(x:HP (m::ms))(id:Nat)(io:List (Nat×AM)):
  db (m::ms) x id io=match m,gZ x,io with
   | .io τ,y,(j,_)::io=>((db ms (jq x) (id+1) io).1,(j,some (.obj τ y))::(db ms (jq x) (id+1) io).2.1,(db ms (jq x) (id+1) io).2.2)
   | .lo e,y,(j,_)::io=>((db ms (jq x) (id+1) io).1,(j,some (.own e y))::(db ms (jq x) (id+1) io).2.1,(db ms (jq x) (id+1) io).2.2)
   |m,y,io=>((m5 m y id).1::(db ms (jq x) (id+1) io).1,(m5 m y id).2++(db ms (jq x) (id+1) io).2.1,(db ms (jq x) (id+1) io).2.2):=by
 cases ms with
 |nil=>cases m<;>cases io<;>simp[db,gZ]
 |cons n ms=>cases m<;>cases io<;>simp[db,gZ,jq]
theorem dO{l1 l2:List Nat}{b:Nat}(h:(l1++l2).Nodup)(h1:b∈l1):b∉l2:=λh2=>(gl.1 h).2.2 b h1 b h2 rfl
theorem RR.tZ: ∀{ms:List AM} {x:HP ms} {us ps:List Value},RR w M ms x us ps→ ∀p∈ps,∀b,bK p=some b→b∈aF ms us ps
 |[],_,_,_,h,p,hp,_,_=>by simp only[RR]at h;rw[h.2]at hp;simp at hp
 |m::ms,x,us,ps,h,p,hp,b,hb=>by
  simp only[RR]at h
  rcases h with⟨p',sR,h1,rfl,h2,h3⟩|⟨v,sB,h1,h2,rfl,h3,h4⟩
  ·simp only[aF,h1,dv,kq,ku,bg]
   rcases bc.1 hp with rfl|hp
   ·left
    cases m<;>simp[AM.dm]at h1<;>simp[bl,hb]
   ·exact .inr (RR.tZ h3 p hp b hb)
  ·simp only[aF,h1,dq,c7,kq,ku,bg]
   exact .inr (RR.tZ h4 p hp b hb)
theorem ft{hs:List Nat}{sz:Nat}: ∀{ms:List AM} {x:HP ms} {us ps:List Value} {id:Nat} {io:List (Nat×AM)} {H:Nat→Option ar} {ν:Nat→Value} {used:List Nat},
  Mem c H w M ν→RR w M ms x us ps→ps=io.map (λq=>ν q.1)→fw ms=io.map (·.2)→(keys io).Nodup→(∀q∈io,H q.1=some .gone)→(∀i,id≤i→i<id+ms.length→H i=none)→
  (∀i e b,H i=some e→e.mut→bK (ν i)=some b→(b<sz∧b∉hs)∨b∈used)→(used++aF ms us ps).Nodup→(∀b∈aF ms us ps,sz≤b∨b∈hs)→
  (∀b∈aF ms us ps,(c.B≤b∨c.may b))→(∀b∈aF ms us ps,c.M0 b→ ∃p∈ps,bK p=some b)→
  (∀q∈io,∀e,q.2= .lo e→ ∀b,bK (ν q.1)=some b→ ¬c.M0 b)→
  ∃ν',Mem c (aN H (db ms x id io).2.1) w M ν'∧dF w M (aN H (db ms x id io).2.1) ν' (db ms x id io).1 us∧(∀i,H i≠none→ν' i=ν i)∧
   (∀i,i∉keys io→(i<id∨id+ms.length≤i)→aN H (db ms x id io).2.1 i=H i)∧(∀i,id≤i→i<id+ms.length→ ∀e,aN H (db ms x id io).2.1 i=some e→(∃e0 l0,e= .own e0 l0)∨ ∃τ0 z0,e= .obj τ0 z0)∧
   (∀q∈io,Nm (aN H (db ms x id io).2.1) q)
 |[],x,us,ps,id,io,H,ν,used,hm,hr,vx,nO,qO,oC,dA,hold,mH,fY,dV,tF,mG=>by
  simp only[RR]at hr
  obtain⟨rfl,rfl⟩:=hr
  have kK:io=[]:=by
   cases io with
   |nil=>rfl
   |cons q io=>simp at vx
  subst kK
  exact⟨ν,hm,by simp[db,dF],λ_ _=>rfl,λ_ _ _=>rfl,λi h1 h2=>by simp at h2;omega,λq hq=>by simp at hq⟩
 |m::ms,x,us,ps,id,io,H,ν,used,hm,hr,vx,nO,qO,oC,dA,hold,mH,fY,dV,tF,mG=>by
  rw[Cz]
  simp only[RR]at hr
  rcases hr with⟨p,sR,ua,rfl,h1,h2⟩|⟨v,sB,ua,S9,rfl,h1,h2⟩
  ·
   cases m with
   |io τ=>
    cases io with
    |nil=>simp at vx
    |cons q io=>
     simp only[bz,cc]at vx
     obtain⟨rfl,rfl⟩:=vx
     simp only[fw,bz,cc]at nO
     obtain⟨Hk,Ki⟩:=nO
     simp only[keys,bz,pd]at qO
     have Em:aF (.io τ::ms) us (ν q.1::io.map λq=>ν q.1)=(bK (ν q.1)).toList++aF ms us (io.map λq=>ν q.1):=rfl
     rw[Em]at mH fY dV tF
     have om:=oC q ba
     have od:q.1<id∨id+(ms.length+1)≤q.1:=by
      rcases gq q.1 id with h'|h'
      ·exact .inl h'
      ·rcases gq q.1 (id+(ms.length+1))with yc|yc
       ·rw[dA q.1 h' yc]at om;cases om
       ·exact .inr yc
     simp only[A1]at h1
     have gg: ∀b,bK (ν q.1)=some b→ ∀i e',H i=some e'→e'.mut→bK (ν i)≠some b:=by
      intro b hb i e' hi dz bA
      have gu:b∈(bK (ν q.1)).toList++aF ms us (io.map λq=>ν q.1):=aS _ (by rw[hb];simp)
      rcases hold i e' b hi dz bA with⟨h3,h4⟩|h3
      ·exact(fY b gu).elim (λh'=>ω) h4
      ·exact dO mH h3 gu
     have iC:=Mem.mo (c:=c) hm (id:=q.1) (v:=ν q.1) (e:= .obj τ (gZ x)) (λe' js=>by rw[om]at js;cases js;simp[ar.mut]) h1 gg (λb hb=>dV b (aS _ (by rw[hb];simp))) (λb e0 l0 he=>by cases he) (.inr rfl)
     have hνe:updν ν q.1 (ν q.1)=ν:=by funext i;unfold updν;split<;>simp_all
     rw[hνe]at iC
     have Kj: ∀(q':Nat×AM),q'∈io→q'.1≠q.1:=λq' iw e=>qO.1 (cm.2 ⟨q',iw,e⟩)
     obtain⟨ν',r1,r2,r3,r4,r5,r6⟩:=ft (ms:=ms) (x:=jq x) (us:=us) (ps:=io.map λq=>ν q.1) (id:=id+1) (io:=io) (used:=used++(bK (ν q.1)).toList) iC h2 rfl Ki qO.2
      (λq' iw=>by rw[ae _ _ (Kj q' iw)];exact oC q' (a7 _ iw))
      (λi h3 h4=>by
       have:i≠q.1:=ω
       rw[ae _ _ this]
       exact dA i ω (by simp only[aE];omega))
      (λi e b hi dz hb=>by
       by_cases ay:i=q.1
       ·subst ay;exact .inr (bh _ (by rw[hb];simp))
       ·rw[ae _ _ ay]at hi
        exact(hold i e b hi dz hb).imp (λh=>h) (aS _))
      (by rw[bq];exact mH) (λb hb=>fY b (bh _ hb)) (λb hb=>dV b (bh _ hb))
      (λb hb GI=>by
       obtain⟨p,hp,Hl⟩:=tF b (bh _ hb) GI
       rcases bc.1 hp with rfl|hp
       ·exact absurd (dO (gl.1 mH).2.1 (b:=b) (by rw[Hl];simp)) (by simpa using hb)
       ·exact⟨p,hp,Hl⟩) (λq' iw=>mG q' (a7 _ iw))
     refine⟨ν',r1,r2,λi hi=> ?_,λi h3 h4=> ?_,λi h3 h4 e he=> ?_,λq' iw=> ?_⟩
     ·exact r3 i (by
       by_cases ay:i=q.1
       ·subst ay;rw[aa];simp
       ·rw[ae _ _ ay];exact hi)
     ·simp only[keys,bz,bc,not_or]at h3
      have:=r4 i h3.2 (by simp only[aE]at h4;omega)
      rw[ae _ _ h3.1]at this
      exact this
     ·by_cases h5:id+1≤i
      ·exact r5 i h5 (by simp only[aE]at h4;omega) e he
      ·have ay:i=id:=ω
       subst ay
       by_cases hk:i∈keys io
       ·obtain⟨q',iw,sU⟩:=cm.1 hk
        have h9:=oC q' (a7 _ iw)
        rw[sU,dA i (aB _) (by simp)]at h9
        cases h9
       ·have:=r4 i hk (.inl ω)
        have dT:i≠q.1:=ω
        rw[ae _ _ dT,dA i (aB _) (by simp)]at this
        have he:aN (au H q.1 (some (ar.obj τ (gZ x)))) (db ms (jq x) (i+1) io).2.1 i=some e:=he
        rw[this]at he;cases he
     ·rcases bc.1 iw with rfl|iw
      ·have:=r4 q'.1 qO.1 ω
       rw[aa]at this
       exact .inl ⟨τ,gZ x,Hk.symm,this⟩
      ·exact r6 q' iw
   |lo τ=>
    cases io with
    |nil=>simp at vx
    |cons q io=>
     simp only[bz,cc]at vx
     obtain⟨rfl,rfl⟩:=vx
     simp only[fw,bz,cc]at nO
     obtain⟨Hk,Ki⟩:=nO
     simp only[keys,bz,pd]at qO
     have Em:aF (.lo τ::ms) us (ν q.1::io.map λq=>ν q.1)=(bK (ν q.1)).toList++aF ms us (io.map λq=>ν q.1):=rfl
     rw[Em]at mH fY dV tF
     have om:=oC q ba
     have od:q.1<id∨id+(ms.length+1)≤q.1:=by
      rcases gq q.1 id with h'|h'
      ·exact .inl h'
      ·rcases gq q.1 (id+(ms.length+1))with yc|yc
       ·rw[dA q.1 h' yc]at om;cases om
       ·exact .inr yc
     simp only[A1]at h1
     have gg: ∀b,bK (ν q.1)=some b→ ∀i e',H i=some e'→e'.mut→bK (ν i)≠some b:=by
      intro b hb i e' hi dz bA
      have gu:b∈(bK (ν q.1)).toList++aF ms us (io.map λq=>ν q.1):=aS _ (by rw[hb];simp)
      rcases hold i e' b hi dz bA with⟨h3,h4⟩|h3
      ·exact(fY b gu).elim (λh'=>ω) h4
      ·exact dO mH h3 gu
     have iC:=Mem.mo (c:=c) hm (id:=q.1) (v:=ν q.1) (e:= .own τ (gZ x)) (λe' js=>by rw[om]at js;cases js;simp[ar.mut]) h1 gg (λb hb=>dV b (aS _ (by rw[hb];simp))) (λb e0 l0 _ hb=>mG q ba τ Hk.symm b hb) (.inr rfl)
     have hνe:updν ν q.1 (ν q.1)=ν:=by funext i;unfold updν;split<;>simp_all
     rw[hνe]at iC
     have Kj: ∀(q':Nat×AM),q'∈io→q'.1≠q.1:=λq' iw e=>qO.1 (cm.2 ⟨q',iw,e⟩)
     obtain⟨ν',r1,r2,r3,r4,r5,r6⟩:=ft (ms:=ms) (x:=jq x) (us:=us) (ps:=io.map λq=>ν q.1) (id:=id+1) (io:=io) (used:=used++(bK (ν q.1)).toList) iC h2 rfl Ki qO.2
      (λq' iw=>by rw[ae _ _ (Kj q' iw)];exact oC q' (a7 _ iw))
      (λi h3 h4=>by
       have:i≠q.1:=ω
       rw[ae _ _ this]
       exact dA i ω (by simp only[aE];omega))
      (λi e b hi dz hb=>by
       by_cases ay:i=q.1
       ·subst ay;exact .inr (bh _ (by rw[hb];simp))
       ·rw[ae _ _ ay]at hi
        exact(hold i e b hi dz hb).imp (λh=>h) (aS _))
      (by rw[bq];exact mH) (λb hb=>fY b (bh _ hb)) (λb hb=>dV b (bh _ hb))
      (λb hb GI=>by
       obtain⟨p,hp,Hl⟩:=tF b (bh _ hb) GI
       rcases bc.1 hp with rfl|hp
       ·exact absurd (dO (gl.1 mH).2.1 (b:=b) (by rw[Hl];simp)) (by simpa using hb)
       ·exact⟨p,hp,Hl⟩) (λq' iw=>mG q' (a7 _ iw))
     refine⟨ν',r1,r2,λi hi=> ?_,λi h3 h4=> ?_,λi h3 h4 e he=> ?_,λq' iw=> ?_⟩
     ·exact r3 i (by
       by_cases ay:i=q.1
       ·subst ay;rw[aa];simp
       ·rw[ae _ _ ay];exact hi)
     ·simp only[keys,bz,bc,not_or]at h3
      have:=r4 i h3.2 (by simp only[aE]at h4;omega)
      rw[ae _ _ h3.1]at this
      exact this
     ·by_cases h5:id+1≤i
      ·exact r5 i h5 (by simp only[aE]at h4;omega) e he
      ·have ay:i=id:=ω
       subst ay
       by_cases hk:i∈keys io
       ·obtain⟨q',iw,sU⟩:=cm.1 hk
        have h9:=oC q' (a7 _ iw)
        rw[sU,dA i (aB _) (by simp)]at h9
        cases h9
       ·have:=r4 i hk (.inl ω)
        have dT:i≠q.1:=ω
        rw[ae _ _ dT,dA i (aB _) (by simp)]at this
        have he:aN (au H q.1 (some (ar.own τ (gZ x)))) (db ms (jq x) (i+1) io).2.1 i=some e:=he
        rw[this]at he;cases he
     ·rcases bc.1 iw with rfl|iw
      ·have:=r4 q'.1 qO.1 ω
       rw[aa]at this
       exact .inr ⟨τ,gZ x,Hk.symm,this⟩
      ·exact r6 q' iw
   |v τ=>simp[AM.dm]at ua
   |own τ=>simp[AM.dm]at ua
   |fn f τ=>simp[AM.dm]at ua
   |ptr τ=>simp[AM.dm]at ua
   |dg τ=>simp[AM.dm]at ua
   |sp _ _ _=>simp[AM.dm]at ua
  ·
   have pU:H id=none:=dA id (aB _) (by simp)
   cases m with
   |io τ=>simp[AM.dm]at ua
   |lo τ=>simp[AM.dm]at ua
   |fn f τ=>simp[AM.Hh]at S9
   |dg τ=>simp[AM.Hh]at S9
   |v τ=>
    have Em:aF (.v τ::ms) (v::sB) ps=aF ms sB ps:=rfl
    rw[Em]at mH fY dV tF
    simp only[A1]at h1
    obtain⟨ν',r1,r2,r3,r4,r5,r6⟩:=ft (ms:=ms) (x:=jq x) (us:=sB) (ps:=ps) (id:=id+1) (io:=io) (used:=used) hm h2 vx (by simpa [fw]using nO) qO oC (λi h3 h4=>dA i ω (by simp only[aE];omega)) hold mH fY dV tF mG
    refine⟨ν',r1,?_,r3,λi h3 h4=>r4 i h3 (by simp only[aE]at h4;omega),λi h3 h4 e he=> ?_,r6⟩
    ·simp only[m5,dF,VR];exact⟨h1,r2⟩
    ·by_cases h5:id+1≤i
     ·exact r5 i h5 (by simp only[aE]at h4;omega) e he
     ·have ay:i=id:=ω
      subst ay
      by_cases hk:i∈keys io
      ·obtain⟨q',iw,sU⟩:=cm.1 hk
       have h9:=oC q' iw
       rw[sU,pU]at h9;cases h9
      ·have:=r4 i hk (.inl ω)
       rw[pU]at this
       have he:aN H (db ms (jq x) (i+1) io).2.1 i=some e:=he
       rw[this]at he;cases he
   |own τ=>
    have Em:aF (.own τ::ms) (v::sB) ps=(bK v).toList++aF ms sB ps:=rfl
    rw[Em]at mH fY dV tF
    simp only[A1]at h1
    have gg: ∀b,bK v=some b→ ∀i e',H i=some e'→e'.mut→bK (ν i)≠some b:=by
     intro b hb i e' hi dz bA
     have gu:b∈(bK v).toList++aF ms sB ps:=aS _ (by rw[hb];simp)
     rcases hold i e' b hi dz bA with⟨h3,h4⟩|h3
     ·exact(fY b gu).elim (λh'=>ω) h4
     ·exact dO mH h3 gu
    have En: ∀b,bK v=some b→ ¬c.M0 b:=by
     intro b hb h0
     have gu:b∈(bK v).toList:=by rw[hb];simp
     obtain⟨p,hp,Hl⟩:=tF b (aS _ gu) h0
     exact dO (gl.1 mH).2.1 gu (RR.tZ h2 p hp b Hl)
    have iC:=Mem.mo (c:=c) hm (id:=id) (v:=v) (e:= .own τ (gZ x)) (λe' js=>by rw[pU]at js;cases js) h1 gg (λb hb=>dV b (aS _ (by rw[hb];simp))) (λb e0 l0 _ hb=>En b hb) (.inl pU)
    have od: ∀q∈io,q.1≠id:=λq hq e=>by
     have h9:=oC q hq
     rw[e,pU]at h9;cases h9
    have hν2: ∀i,i≠id→updν ν id v i=ν i:=λi hi=>by simp[updν,hi]
    obtain⟨ν',r1,r2,r3,r4,r5,r6⟩:=ft (ms:=ms) (x:=jq x) (us:=sB) (ps:=ps) (id:=id+1) (io:=io) (used:=used++(bK v).toList) iC h2
     (by rw[vx];exact fc λq hq=>(hν2 _ (od q hq)).symm) (by simpa [fw]using nO) qO
     (λq hq=>by rw[ae _ _ (od q hq)];exact oC q hq)
     (λi h3 h4=>by rw[ae _ _ ω];exact dA i ω (by simp only[aE];omega))
     (λi e b hi dz hb=>by
      by_cases ay:i=id
      ·subst ay
       have:updν ν i v i=v:=by simp[updν]
       rw[this]at hb
       exact .inr (bh _ (by rw[hb];simp))
      ·rw[ae _ _ ay]at hi
       rw[hν2 i ay]at hb
       exact(hold i e b hi dz hb).imp (λh=>h) (aS _))
     (by rw[bq];exact mH) (λb hb=>fY b (bh _ hb)) (λb hb=>dV b (bh _ hb)) (λb hb=>tF b (bh _ hb)) (λq hq e he b hb=>mG q hq e he b (by rw[hν2 _ (od q hq)]at hb;exact hb))
    have Eo:id∉keys io:=λhk=>by
     obtain⟨q,hq,sU⟩:=cm.1 hk
     exact od q hq sU
    have jo:aN (au H id (some (.own τ (gZ x)))) (db ms (jq x) (id+1) io).2.1 id=some (.own τ (gZ x)):=by
     rw[r4 id Eo (.inl ω),aa]
    refine⟨ν',r1,?_,λi hi=> ?_,λi h3 h4=> ?_,λi h3 h4 e he=> ?_,r6⟩
    ·simp only[m5,dF,VR]
     refine⟨⟨?_,?_⟩,r2⟩
     ·show aN (au H id (some (.own τ (gZ x)))) (db ms (jq x) (id+1) io).2.1 id≠none
      rw[jo];simp
     ·rw[r3 id (by rw[aa];simp)];simp[updν]
    ·have ay:i≠id:=λe=>hi (e▸pU)
     rw[r3 i (by rw[ae _ _ ay];exact hi),hν2 i ay]
    ·have ay:i≠id:=by simp only[aE]at h4;omega
     have:=r4 i h3 (by simp only[aE]at h4;omega)
     rw[ae _ _ ay]at this
     exact this
    ·by_cases h5:id+1≤i
     ·exact r5 i h5 (by simp only[aE]at h4;omega) e he
     ·have ay:i=id:=ω
      subst ay
      have he:aN (au H i (some (.own τ (gZ x)))) (db ms (jq x) (i+1) io).2.1 i=some e:=he
      rw[jo]at he;cases he
      exact .inl ⟨τ,_,rfl⟩
   |sp τ n e=>
    simp only[A1]at h1
    obtain⟨cs,dL,u,l,z,hv,hq,DI,jW,hu,iW⟩:=h1
    obtain⟨x1,CA,_,Q4,hz⟩:=tM iW
    cases CA
    obtain⟨z0,DH,MC⟩:=hz []
    have QR:Rd w M τ (bG dL (cH τ n) [.slice none 0 0]) z0:=by
     obtain⟨υ,y,o,k',hf,ew,qA⟩:=ei (MC _ some)
     obtain⟨rfl,rfl⟩:=hf.eq
     obtain⟨e1,pO⟩:=aw ew
     obtain⟨x',jJ,_,eJ⟩:=qA _ _ pO
     cases jJ
     refine eJ w M dL _ DI ?_
     have CB:Rd w M (.slice e) [.slice none 0 0] []:=by
      simp only[Rd]
      exact⟨none,0,rfl,aB _,λi hi=>by simp at hi⟩
     exact CB.M6 _
    have Cn:m5 (.sp τ n e) (gZ x) id=(.vB τ z0 n id,[(id,some (.own e l))]):=by
     simp only[m5]
     rw[Q4,DH]
    show ∃ν',Mem c (aN H ((m5 (.sp τ n e) (gZ x) id).2++(db ms (jq x) (id+1) io).2.1)) w M ν'∧dF w M (aN H ((m5 (.sp τ n e) (gZ x) id).2++(db ms (jq x) (id+1) io).2.1)) ν' ((m5 (.sp τ n e) (gZ x) id).1::(db ms (jq x) (id+1) io).1) (v::sB)∧(∀i,H i≠none→ν' i=ν i)∧
     (∀i,i∉keys io→(i<id∨id+(AM.sp τ n e::ms).length≤i)→aN H ((m5 (.sp τ n e) (gZ x) id).2++(db ms (jq x) (id+1) io).2.1) i=H i)∧(∀i,id≤i→i<id+(AM.sp τ n e::ms).length→ ∀e9,aN H ((m5 (.sp τ n e) (gZ x) id).2++(db ms (jq x) (id+1) io).2.1) i=some e9→(∃e0 l0,e9= .own e0 l0)∨ ∃τ0 z0,e9= .obj τ0 z0)∧
     (∀q∈io,Nm (aN H ((m5 (.sp τ n e) (gZ x) id).2++(db ms (jq x) (id+1) io).2.1)) q)
    rw[Cn]
    have Em:aF (.sp τ n e::ms) (v::sB) ps=(bK u).toList++aF ms sB ps:=by
     show bl (.sp τ n e) v++aF ms sB ps=_
     rw[hv,(nQ hq DI jW).1]
    rw[Em]at mH fY dV tF
    have gg: ∀b,bK u=some b→ ∀i e',H i=some e'→e'.mut→bK (ν i)≠some b:=by
     intro b hb i e' hi dz bA
     have gu:b∈(bK u).toList++aF ms sB ps:=aS _ (by rw[hb];simp)
     rcases hold i e' b hi dz bA with⟨h3,h4⟩|h3
     ·exact(fY b gu).elim (λh'=>ω) h4
     ·exact dO mH h3 gu
    have En: ∀b,bK u=some b→ ¬c.M0 b:=by
     intro b hb h0
     have gu:b∈(bK u).toList:=by rw[hb];simp
     obtain⟨p,hp,Hl⟩:=tF b (aS _ gu) h0
     exact dO (gl.1 mH).2.1 gu (RR.tZ h2 p hp b Hl)
    have iC:=Mem.mo (c:=c) hm (id:=id) (v:=u) (e:= .own e l) (λe' js=>by rw[pU]at js;cases js) hu gg (λb hb=>dV b (aS _ (by rw[hb];simp))) (λb e0 l0 _ hb=>En b hb) (.inl pU)
    have od: ∀q∈io,q.1≠id:=λq hq e=>by
     have h9:=oC q hq
     rw[e,pU]at h9;cases h9
    have hν2: ∀i,i≠id→updν ν id u i=ν i:=λi hi=>by simp[updν,hi]
    obtain⟨ν',r1,r2,r3,r4,r5,r6⟩:=ft (ms:=ms) (x:=jq x) (us:=sB) (ps:=ps) (id:=id+1) (io:=io) (used:=used++(bK u).toList) iC h2
     (by rw[vx];exact fc λq hq=>(hν2 _ (od q hq)).symm) (by simpa [fw]using nO) qO
     (λq hq=>by rw[ae _ _ (od q hq)];exact oC q hq)
     (λi h3 h4=>by rw[ae _ _ ω];exact dA i ω (by simp only[aE];omega))
     (λi e9 b hi dz hb=>by
      by_cases ay:i=id
      ·subst ay
       have:updν ν i u i=u:=by simp[updν]
       rw[this]at hb
       exact .inr (bh _ (by rw[hb];simp))
      ·rw[ae _ _ ay]at hi
       rw[hν2 i ay]at hb
       exact(hold i e9 b hi dz hb).imp (λh=>h) (aS _))
     (by rw[bq];exact mH) (λb hb=>fY b (bh _ hb)) (λb hb=>dV b (bh _ hb)) (λb hb=>tF b (bh _ hb)) (λq hq e he b hb=>mG q hq e he b (by rw[hν2 _ (od q hq)]at hb;exact hb))
    have Eo:id∉keys io:=λhk=>by
     obtain⟨q,hq,sU⟩:=cm.1 hk
     exact od q hq sU
    have jo:aN (au H id (some (.own e l))) (db ms (jq x) (id+1) io).2.1 id=some (.own e l):=by
     rw[r4 id Eo (.inl ω),aa]
    refine⟨ν',r1,?_,λi hi=> ?_,λi h3 h4=> ?_,λi h3 h4 e9 he=> ?_,r6⟩
    ·simp only[dF,VR]
     refine⟨⟨cs,bG dL (cH τ n) [.slice none 0 0],hv,QR,?_,?_,hq⟩,r2⟩
     ·rw[r3 id (by rw[aa];simp),kG (nQ (e:=e) hq DI jW).2,jW];simp[updν]
     ·show aN (au H id (some (.own e l))) (db ms (jq x) (id+1) io).2.1 id≠none
      rw[jo];simp
    ·have ay:i≠id:=λe=>hi (e▸pU)
     rw[r3 i (by rw[ae _ _ ay];exact hi),hν2 i ay]
    ·have ay:i≠id:=by simp only[aE]at h4;omega
     have:=r4 i h3 (by simp only[aE]at h4;omega)
     rw[ae _ _ ay]at this
     exact this
    ·by_cases h5:id+1≤i
     ·exact r5 i h5 (by simp only[aE]at h4;omega) e9 he
     ·have ay:i=id:=ω
      subst ay
      have he:aN (au H i (some (.own e l))) (db ms (jq x) (i+1) io).2.1 i=some e9:=he
      rw[jo]at he;cases he
      exact .inl ⟨e,_,rfl⟩
   |ptr τ=>
    have Em:aF (.ptr τ::ms) (v::sB) ps=(bK v).toList++aF ms sB ps:=rfl
    rw[Em]at mH fY dV tF
    simp only[A1]at h1
    have gg: ∀b,bK v=some b→ ∀i e',H i=some e'→e'.mut→bK (ν i)≠some b:=by
     intro b hb i e' hi dz bA
     have gu:b∈(bK v).toList++aF ms sB ps:=aS _ (by rw[hb];simp)
     rcases hold i e' b hi dz bA with⟨h3,h4⟩|h3
     ·exact(fY b gu).elim (λh'=>ω) h4
     ·exact dO mH h3 gu
    have iC:=Mem.mo (c:=c) hm (id:=id) (v:=v) (e:= .obj τ (gZ x)) (λe' js=>by rw[pU]at js;cases js) h1 gg (λb hb=>dV b (aS _ (by rw[hb];simp))) (λb e0 l0 he _=>by cases he) (.inl pU)
    have od: ∀q∈io,q.1≠id:=λq hq e=>by
     have h9:=oC q hq
     rw[e,pU]at h9;cases h9
    have hν2: ∀i,i≠id→updν ν id v i=ν i:=λi hi=>by simp[updν,hi]
    obtain⟨ν',r1,r2,r3,r4,r5,r6⟩:=ft (ms:=ms) (x:=jq x) (us:=sB) (ps:=ps) (id:=id+1) (io:=io) (used:=used++(bK v).toList) iC h2
     (by rw[vx];exact fc λq hq=>(hν2 _ (od q hq)).symm) (by simpa [fw]using nO) qO
     (λq hq=>by rw[ae _ _ (od q hq)];exact oC q hq)
     (λi h3 h4=>by rw[ae _ _ ω];exact dA i ω (by simp only[aE];omega))
     (λi e b hi dz hb=>by
      by_cases ay:i=id
      ·subst ay
       have:updν ν i v i=v:=by simp[updν]
       rw[this]at hb
       exact .inr (bh _ (by rw[hb];simp))
      ·rw[ae _ _ ay]at hi
       rw[hν2 i ay]at hb
       exact(hold i e b hi dz hb).imp (λh=>h) (aS _))
     (by rw[bq];exact mH) (λb hb=>fY b (bh _ hb)) (λb hb=>dV b (bh _ hb)) (λb hb=>tF b (bh _ hb)) (λq hq e he b hb=>mG q hq e he b (by rw[hν2 _ (od q hq)]at hb;exact hb))
    have Eo:id∉keys io:=λhk=>by
     obtain⟨q,hq,sU⟩:=cm.1 hk
     exact od q hq sU
    have jo:aN (au H id (some (.obj τ (gZ x)))) (db ms (jq x) (id+1) io).2.1 id=some (.obj τ (gZ x)):=by
     rw[r4 id Eo (.inl ω),aa]
    refine⟨ν',r1,?_,λi hi=> ?_,λi h3 h4=> ?_,λi h3 h4 e he=> ?_,r6⟩
    ·simp only[m5,dF,VR]
     refine⟨⟨_,jo,trivial,?_⟩,r2⟩
     simp only[A1,ER]at h1
     obtain⟨b,cs,t,El,_⟩:=h1
     exact⟨b,by rw[r3 id (by rw[aa];simp)];simp[updν,El],El⟩
    ·have ay:i≠id:=λe=>hi (e▸pU)
     rw[r3 i (by rw[ae _ _ ay];exact hi),hν2 i ay]
    ·have ay:i≠id:=by simp only[aE]at h4;omega
     have:=r4 i h3 (by simp only[aE]at h4;omega)
     rw[ae _ _ ay]at this
     exact this
    ·by_cases h5:id+1≤i
     ·exact r5 i h5 (by simp only[aE]at h4;omega) e he
     ·have ay:i=id:=ω
      subst ay
      have he:aN (au H i (some (.obj τ (gZ x)))) (db ms (jq x) (i+1) io).2.1 i=some e:=he
      rw[jo]at he;cases he
      exact .inr ⟨τ,_,rfl⟩
end VM
end
