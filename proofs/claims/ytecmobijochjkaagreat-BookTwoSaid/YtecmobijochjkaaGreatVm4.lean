/- A part of the proof of BookTwo of layer 18: a machine that reads a function of the program as an equation between values. -/
import Derived.Test.YtecmobijochjkaaGreatVm3
set_option linter.all false
section
namespace VM
open Go
variable{P:Program}{E:Env}{o:Oper}{a:Act}{w:World}{M:Nat→Prop}{ν:Nat→Value}{σ:St}{c:Ctx}{α:Type}{r:α}{next:Act→World→Prop}{Q:Exit→Act→World→Prop}
def q3:{m:AM}→{ms:List AM}→HP (m::ms)→m.den
 |_,[],x=>x
 |_,_::_,x=>x.1
def uk:{m:AM}→{ms:List AM}→HP (m::ms)→HP ms
 |_,[],_=>()
 |_,_::_,x=>x.2
def AM.iS:AM→Bool
 | .io _| .lo _=>true
 |_=>false
def AM.acj:AM→Bool
 | .fn _ _| .jE _=>true
 |_=>false
def A1(w:World)(M:Nat→Prop):(m:AM)→m.den→Value→Prop
 | .v τ,x,v=>V w M τ v x
 | .own e,x,v=>ER w M v (.own e x)
 | .io τ,x,v=>ER w M v (.obj τ x)
 | .fn f τ,x,v=>VR w M (λ_=>none) (λ_=>undef) (.NM f (qO τ x)) v
 | .ptr τ,x,v=>ER w M v (.obj τ x)
 | .jE τ,x,v=>VR w M (λ_=>none) (λ_=>undef) (.se τ x) v
 | .lo e,x,v=>ER w M v (.own e x)
 | .sp τ n e,x,v=> ∃(cs:Array Value) (kb:List Value) (u:Value) (l:List e.den) (z:τ.den),v= .agg cs∧vy τ n=true∧Rd w M τ kb z∧cs.toList=eM kb (gA τ n) [u]∧ER w M u (.own e l)∧
  fT τ z n (fun υ' _ k'=>cL (.slice e) υ' l k') some=some x
def aph(n:Nat):Value→Option Value
 | .agg cs=>cs.toList[n]?
 |_=>none
def kC(w:World)(M:Nat→Prop):(ms:List AM)→HP ms→List Value→Prop
 |[],_,vs=>vs=[]
 |_::ms,x,vs=> ∃v Nk,vs=v::Nk∧A1 w M _ (q3 x) v∧kC w M ms (uk x) Nk
def dw:AM→Value→List Nat
 | .own _,v| .io _,v| .ptr _,v| .lo _,v=>(fv v).toList
 | .sp τ n _,v=>((aph (gA τ n) v).bind fv).toList
 |_,_=>[]
theorem yR{τ:Ty}{n:Nat}{e:Ty}{cs:Array Value}{kb:List Value}{u:Value}{z:τ.den}(hq:vy τ n=true)(hr:Rd w M τ kb z)(uj:cs.toList=eM kb (gA τ n) [u]):dw (.sp τ n e) (.agg cs)=(fv u).toList∧gA τ n<kb.length:=by
 obtain⟨e',_,hf⟩:=zW hq
 obtain⟨y,o,Fu⟩:=n0 hf z
 have hb:=Fu.bound
 have ho:=Fu.eq.2
 subst ho
 rw[show(Ty.slice e').size=1 from rfl]at hb
 have hl:=hr.length
 have eU:gA τ n<kb.length:=ω
 refine⟨?_,eU⟩
 show((cs.toList[gA τ n]?).bind fv).toList=_
 rw[uj,yL eU];rfl
def eD:List AM→List Value→List Nat
 |m::ms,v::vs=>dw m v++eD ms vs
 |_,_=>[]
def fL:List AM→List Value→List Value
 |m::ms,v::vs=>if m.iS then v::fL ms vs else fL ms vs
 |_,_=>[]
def nu:List AM→List AM
 | .io τ::ms=> .io τ::nu ms
 | .lo e::ms=> .lo e::nu ms
 |_::ms=>nu ms
 |[]=>[]
def RR(w:World)(M:Nat→Prop):(ms:List AM)→HP ms→List Value→List Value→Prop
 |[],_,vs,ps=>vs=[]∧ps=[]
 |m::ms,x,vs,ps=>(∃p I4,m.iS=true∧ps=p::I4∧A1 w M m (q3 x) p∧RR w M ms (uk x) vs I4)∨
  (∃v Nk,m.iS=false∧m.acj=false∧vs=v::Nk∧A1 w M m (q3 x) v∧RR w M ms (uk x) Nk ps)
def bI:List AM→List Value→List Value→List Nat
 |[],_,_=>[]
 |m::ms,vs,ps=>if m.iS then dw m (ps.headD undef)++bI ms vs ps.tail else dw m (vs.headD undef)++bI ms vs.tail ps
def Ty.flat:Ty→Bool
 | .slice _=>false
 | .pair a b=>a.flat&&b.flat
 | .arr _ e=>e.flat
 |_=>true
def AM.flat:AM→Bool
 | .v τ| .io τ| .own τ| .ptr τ| .lo τ=>τ.flat
 | .fn _ _| .jE _| .sp _ _ _=>false
def xK(vs:List Value):Value:=if h:vs.length=1 then vs[0]else .tuple vs.toArray
structure Left(w:World)(M0:Nat→Prop)(hs:List Nat)(w':World)(M':Nat→Prop):Prop where
 sub: ∀b,M0 b→M' b
 Gp: ∀b,M' b→b<w'.heap.size
 less: ∀b,b<w.heap.size→M' b→M0 b∨b∈hs
 frame: ∀b,b<w.heap.size→b∉hs→w'.heap[b]? =w.heap[b]?
 size:w.heap.size≤w'.heap.size
 os:w'.os=w.os
 tape:w'.tape=w.tape
 output:w'.output=w.output
def Ob(P:Program)(f:FuncId)(args:Array Value)(w:World)(R:Value→World→Prop):Prop:=
 ∀(o:Oper) (a:Act) (next:Act→World→Prop) (Q:Exit→Act→World→Prop),(∀v w',R v w'→next (a.put o.dst v) w')→o.upon P a next Q ((callFunc f args).run P w)
theorem Ob.mono{f:FuncId}{args:Array Value}{R R':Value→World→Prop}(h:Ob P f args w R)(hr: ∀v w',R v w'→R' v w'):Ob P f args w R':=
 λo a next Q hn=>h o a next Q λv w' hv=>hn v w' (hr v w' hv)
theorem um{f:FuncId}{fn:Func}{args:Array Value}{R:Value→World→Prop}(hf:P.funcs[f]? =some fn)(hn:(fn.name== "runtime.NumGoroutine")=false)(hb:fn.body.isNone=false)
  (h:Calls P f args w λe w'=> ∃v,e= .returned v∧R v w'):Ob P f args w R:=by
 intro o a next Q wF
 have hn': ¬fn.name= "runtime.NumGoroutine" :=by simpa using hn
 have eX: ¬fn.body=none:=λe=>by rw[e]at hb;cases hb
 have:(callFunc f args).run P w= .ok (.enter f args) w:=by simp[callFunc,hf,hn',eX]
 rw[this,Oper.upon_enter]
 refine Calls.mono h ?_
 rintro e w' ⟨v,rfl,hR⟩
 exact wF v w' hR
theorem Jm{f:FuncId}{args:Array Value}{R:Value→World→Prop}{v:Value}{w':World}(h:(callFunc f args).run P w= .ok (.value v) w')(hR:R v w'):Ob P f args w R:=by
 intro o a next Q wF
 rw[h,Oper.upon_value]
 exact wF v w' hR
structure ju(P:Program)(f:FuncId)(S:m2):Prop where
 quiet:S.quiet=true→S.res.all AM.flat=true
 ios:nu S.args=nu S.res
 call: ∀(M0:Nat→Prop) (w:World) (vs:List Value) (x:HP S.args) (y:HP S.res),(∀b,M0 b→b<w.heap.size)→
  kC w (λb=>M0 b∨b∈eD S.args vs) S.args x vs→(eD S.args vs).Nodup→(∀b∈eD S.args vs,¬M0 b)→S.run x=some y→
  Ob P f vs.toArray w λv w'=> ∃us M',v=xK us∧RR w' M' S.res y us (fL S.args vs)∧Left w M0 (eD S.args vs) w' M'∧
   (bI S.res us (fL S.args vs)).Nodup∧ ∀b∈bI S.res us (fL S.args vs),¬M0 b
theorem Rd.flat{w:World}{M M':Nat→Prop}: ∀{τ:Ty} {cs:List Value} {x:τ.den},τ.flat=true→Rd w M τ cs x→Rd w M' τ cs x
 | .int _,_,_,_,h| .bool,_,_,_,h| .str,_,_,_,h| .unit,_,_,_,h=>h
 | .slice _,_,_,hf,_=>by simp[Ty.flat]at hf
 | .pair a b,_,_,hf,h=>by
  simp only[Ty.flat,bM]at hf
  simp only[Rd]at h ⊢
  obtain⟨c1,c2,rfl,h1,h2⟩:=h
  exact⟨c1,c2,rfl,h1.flat hf.1,h2.flat hf.2⟩
 | .arr n e,_,x,hf,h=>by
  simp only[Ty.flat]at hf
  simp only[Rd]at h ⊢
  obtain⟨hn,Vq,hc,rfl,hr⟩:=h
  exact⟨hn,Vq,hc,rfl,λi hi nZ=>(hr i hi nZ).flat hf⟩
theorem A1.flat{w:World}{M M':Nat→Prop}(hM: ∀b,M b→M' b){m:AM}{x:m.den}{v:Value}(hf:m.flat=true)(h:A1 w M m x v):A1 w M' m x v:=by
 cases m with
 |v τ=>
  simp only[A1,V,AM.flat]at h hf ⊢
  split
  ·rename_i ha;rw[aj ha]at h;obtain⟨cs,h1,h⟩:=h;exact⟨cs,h1,h.flat hf⟩
  ·rename_i ha;rw[ah ha]at h;exact h.flat hf
 |own e=>
  simp only[A1,ER,AM.flat]at h hf ⊢
  rcases h with h|⟨b,cs,t,cap,h1,h2,h3,h4,h5,h6,h7,h8⟩
  ·exact .inl h
  ·exact .inr ⟨b,cs,t,cap,h1,h2,hM b h3,h4,h5,h6,h7,λi hi=>(h8 i hi).flat hf⟩
 |io τ=>
  simp only[A1,ER,AM.flat]at h hf ⊢
  obtain⟨b,cs,t,h1,h2,h3,h4⟩:=h
  exact⟨b,cs,t,h1,h2,hM b h3,h4.flat hf⟩
 |fn f τ=>simp[AM.flat]at hf
 |jE τ=>simp[AM.flat]at hf
 |sp τ n e=>simp[AM.flat]at hf
 |lo e=>
  simp only[A1,ER,AM.flat]at h hf ⊢
  rcases h with h|⟨b,cs,t,cap,h1,h2,h3,h4,h5,h6,h7,h8⟩
  ·exact .inl h
  ·exact .inr ⟨b,cs,t,cap,h1,h2,hM b h3,h4,h5,h6,h7,λi hi=>(h8 i hi).flat hf⟩
 |ptr τ=>
  simp only[A1,ER,AM.flat]at h hf ⊢
  obtain⟨b,cs,t,h1,h2,h3,h4⟩:=h
  exact⟨b,cs,t,h1,h2,hM b h3,h4.flat hf⟩
theorem RR.flat{w:World}{M M':Nat→Prop}(hM: ∀b,M b→M' b): ∀{ms:List AM} {x:HP ms} {vs ps:List Value},ms.all AM.flat=true→RR w M ms x vs ps→RR w M' ms x vs ps
 |[],_,_,_,_,h=>h
 |m::ms,x,vs,ps,hf,h=>by
  simp only[xj,bM]at hf
  simp only[RR]at h ⊢
  rcases h with⟨p,I4,h1,h2,h3,h4⟩|⟨v,Nk,h1,h2,h3,h4,h5⟩
  ·exact .inl ⟨p,I4,h1,h2,h3.flat hM hf.1,RR.flat hM hf.2 h4⟩
  ·exact .inr ⟨v,Nk,h1,h2,h3,h4.flat hM hf.1,RR.flat hM hf.2 h5⟩
theorem A1.xL{w w':World}{M M':Nat→Prop}(k:fI w M w' M'){m:AM}{x:m.den}{v:Value}(hm: ∀b∈dw m v,w'.heap[b]? =w.heap[b]? ∧M' b)(h:A1 w M m x v):A1 w' M' m x v:=by
 cases m with
 |v τ=>exact V.cg k h
 |own e=>
  simp only[A1]at h ⊢
  exact ER.cg k (λ_ b hb=>hm b (by simp[dw,hb])) h
 |io τ=>
  simp only[A1]at h ⊢
  exact ER.cg k (λ_ b hb=>hm b (by simp[dw,hb])) h
 |fn f τ=>exact VR.cg k (.refl _ _) h
 |jE τ=>exact VR.cg k (.refl _ _) h
 |sp τ n e=>
  simp only[A1]at h ⊢
  obtain⟨cs,kb,u,l,z,rfl,hq,hr,uj,hu,hs⟩:=h
  exact⟨cs,kb,u,l,z,rfl,hq,hr.cg k,uj,ER.cg k (λ_ b hb=>hm b (by rw[(yR hq hr uj).1];simp[hb])) hu,hs⟩
 |lo e=>
  simp only[A1]at h ⊢
  exact ER.cg k (λ_ b hb=>hm b (by simp[dw,hb])) h
 |ptr τ=>
  simp only[A1]at h ⊢
  exact ER.cg k (λ_ b hb=>hm b (by simp[dw,hb])) h
theorem kC.xL{w w':World}{M M':Nat→Prop}(k:fI w M w' M'): ∀{ms:List AM} {x:HP ms} {vs:List Value},(∀b∈eD ms vs,w'.heap[b]? =w.heap[b]? ∧M' b)→kC w M ms x vs→kC w' M' ms x vs
 |[],_,_,_,h=>h
 |m::ms,x,vs,hm,h=>by
  simp only[kC]at h ⊢
  obtain⟨v,Nk,rfl,h1,h2⟩:=h
  exact⟨v,Nk,rfl,h1.xL k (λb hb=>hm b (by simp[eD,hb])),kC.xL k (λb hb=>hm b (by simp[eD,hb])) h2⟩
theorem RR.xL{w w':World}{M M':Nat→Prop}(k:fI w M w' M'): ∀{ms:List AM} {x:HP ms} {us ps:List Value},(∀b∈bI ms us ps,w'.heap[b]? =w.heap[b]? ∧M' b)→RR w M ms x us ps→RR w' M' ms x us ps
 |[],_,_,_,_,h=>h
 |m::ms,x,us,ps,hm,h=>by
  simp only[RR]at h ⊢
  rcases h with⟨p,I4,h1,rfl,h2,h3⟩|⟨v,EU,h1,h2,rfl,h3,h4⟩
  ·simp only[bI,h1,g9,uB,uE,bl]at hm
   exact .inl ⟨p,I4,h1,rfl,h2.xL k (λb hb=>hm b (.inl hb)),RR.xL k (λb hb=>hm b (.inr hb)) h3⟩
  ·simp only[bI,h1,jM,fC,uB,uE,bl]at hm
   exact .inr ⟨v,EU,h1,h2,rfl,h3.xL k (λb hb=>hm b (.inl hb)),RR.xL k (λb hb=>hm b (.inr hb)) h4⟩
theorem Fw{H:Nat→Option br}(hm:Mem c H w M ν){a:bA}{v:Value}(hv:VR w M H ν a v){τ:Ty}{k:τ.den→List Nat→jF→Option α}{r:α}(h:m1 true a H τ k=some r):
  ∃y rd ups,k y rd ups=some r∧((ups=[]∧V w M τ v y)∨ ∃id e l,ups=[(id,some (.pD e l))]∧H id=some (.own e l)∧
   ∀M',(∀b,M' b↔(M b∧fv (ν id)≠some b))→V w M' τ v y):=by
 unfold m1 at h
 split at h
 ·obtain⟨e,h⟩:=bx h
  subst e
  simp only[VR]at hv
  exact⟨_,[],[],h,.inl ⟨rfl,hv⟩⟩
 ·obtain⟨e,h⟩:=bx h
  subst e
  simp only[VR]at hv
  exact⟨_,[],[],h,.inl ⟨rfl,hv.1⟩⟩
 ·split at h
  ·rename_i e k' _
   simp only[VR]at hv
   obtain⟨a,rfl⟩:=hv
   refine⟨[],[],[],h,.inl ⟨rfl,V.slice.2 ?_⟩⟩
   simp only[Rd]
   exact⟨a,0,rfl,aH _,λi hi=>absurd hi (by simp)⟩
  ·cases h
 ·rename_i id
  simp only[VR]at hv
  obtain⟨_,rfl⟩:=hv
  split at h
  ·rename_i e l bg
   obtain⟨e',h⟩:=bx h
   subst e'
   refine⟨_,_,_,h,.inr ⟨id,e,l,rfl,bg,λM' hM'=> ?_⟩⟩
   obtain⟨M2,_,hV,Lv⟩:=Tr.freeze hm bg
   have:M'=M2:=by funext b;exact propext ((hM' b).trans (Lv b).symm)
   rw[this];exact hV
  ·rename_i e l bg
   obtain⟨e',h⟩:=bx h
   subst e'
   have:=hm.jY id _ bg
   simp only[ER]at this
   exact⟨_,_,_,h,.inl ⟨rfl,V.slice.2 this.1⟩⟩
  ·cases h
 ·cases h
theorem Yq{H:Nat→Option br}(hm:Mem c H w M ν): ∀{a:Ty} {x:bA} {v:Value} {k:a.den→List Nat→jF→Option α} {r:α},VR w M H ν x v→DG x H a k=some r→
  ∃y rd ups,k y rd ups=some r∧(ups=[]→VR w M (λ_=>none) (λ_=>undef) (DH a y) v):=by
 intro a x v k r hv h
 unfold DG at h
 split at h
 ·rename_i a k
  split at h
  ·rename_i υ z
   obtain⟨e1,h⟩:=bx h
   subst e1
   refine⟨_,_,_,h,λ_=> ?_⟩
   simp only[DH,VR]at hv ⊢
   exact hv
  ·cases h
 ·rename_i k0 qX
  obtain⟨y,rd,ups,h,hy⟩:=Fw hm hv h
  refine⟨y,rd,ups,h,λhu=> ?_⟩
  rcases hy with⟨_,hy⟩|⟨_,_,_,h3,_⟩
  ·have:DH _ y= .val _ y:=by
    unfold DH
    split
    ·exact(qX _ _ rfl HEq.rfl).elim
    ·rfl
   rw[this]
   simp only[VR];exact hy
  ·rw[hu]at h3;cases h3
theorem GJ{H:Nat→Option br}(hm:Mem c H w M ν): ∀{τ:Ty} {qV:List bA} {vs:List Value} {k:τ.den→List Nat→jF→Option α} {r:α},jO w M H ν qV vs→si H τ qV k=some r→
  ∃x rd ups,k x rd ups=some r∧(ups=[]→jO w M (λ_=>none) (λ_=>undef) (qO τ x) vs)
 | .unit,[],[],k,r,_,h=>⟨(),[],[],h,λ_=>by simp[qO,jO]⟩
 | .pair a b,x::xs,v::vs,k,r,hv,h=>by
  simp only[jO]at hv
  unfold si at h
  obtain⟨y,rd,ups,h,hy⟩:=Yq hm hv.1 h
  obtain⟨ys,yJ,kN,h,hys⟩:=GJ hm hv.2 h
  refine⟨(y,ys),_,_,h,λhu=> ?_⟩
  have h1:ups=[]:=(NF.1 hu).1
  have h2:kN=[]:=(NF.1 hu).2
  simp only[qO,jO]
  exact⟨hy h1,hys h2⟩
 | .unit,[],_::_,_,_,hv,_=>by simp[jO]at hv
 |_,_::_,[],_,_,hv,_=>by simp[jO]at hv
 | .unit,_::_,_,_,_,_,h=>by simp[si]at h
 | .pair _ _,[],_,_,_,_,h=>by simp[si]at h
 | .int _,_,_,_,_,_,h| .bool,_,_,_,_,_,h| .str,_,_,_,_,_,h| .slice _,_,_,_,_,_,h| .arr _ _,_,_,_,_,_,h=>by simp[si]at h
end VM
end
section
namespace VM
open Go
variable{P:Program}{E:Env}{o:Oper}{a:Act}{w:World}{M:Nat→Prop}{ν:Nat→Value}{σ:St}{c:Ctx}{α:Type}{r:α}{next:Act→World→Prop}{Q:Exit→Act→World→Prop}
def keys{β:Type}(l:List (Nat×β)):List Nat:=l.map (·.1)
theorem mE{i:Nat}: ∀{ups:jF} {H:Nat→Option br},i∉keys ups→c0 H ups i=H i
 |[],_,_=>rfl
 |u::r,H,h=>by
  simp only[keys,bQ,a8,not_or]at h
  show c0 (cn H u.1 u.2) r i=_
  rw[mE h.2,az _ _ h.1]
theorem Br(u:Nat×Option br)(b:jF)(hb:u.1∉keys b): ∀(a:jF) (H:Nat→Option br),c0 H (a++u::b)=cn (c0 H (a++b)) u.1 u.2
 |[],H=>by
  show c0 (cn H u.1 u.2) b=cn (c0 H b) u.1 u.2
  induction b generalizing H with
  |nil=>rfl
  |cons v b ih=>
   simp only[keys,bQ,a8,not_or]at hb
   show c0 (cn (cn H u.1 u.2) v.1 v.2) b=cn (c0 (cn H v.1 v.2) b) u.1 u.2
   rw[←ih hb.2]
   congr 1
   funext i
   by_cases h1:i=v.1
   ·subst h1;rw[ay,az _ _ (fc hb.1),ay]
   ·by_cases h2:i=u.1
    ·subst h2;rw[az _ _ h1,ay,ay]
    ·rw[az _ _ h1,az _ _ h2,az _ _ h2,az _ _ h1]
 |v::a,H=>Br u b hb a (cn H v.1 v.2)
def IoE(H:Nat→Option br)(q:Nat×AM):Prop:=(∃(τ:Ty) (x:τ.den),q.2= .io τ∧H q.1=some (.obj τ x))∨ ∃(e:Ty) (l:List e.den),q.2= .lo e∧H q.1=some (.own e l)
theorem IoE.some{H:Nat→Option br}{q:Nat×AM}(h:IoE H q):H q.1≠none:=by
 rcases h with⟨_,x,_,h⟩|⟨e,l,_,h⟩<;>rw[h]<;>simp
structure kD(c:Ctx)(w:World)(M:Nat→Prop)(ν:Nat→Value)(H0 H1 Hq:Nat→Option br)(M1:Nat→Prop)(uo uf:jF)(io:List (Nat×AM))(hs:List Nat):Prop where
 mem:Mem c H1 w M1 ν
 Oc:Mem c Hq w M ν
 cg:fI w M w M1
 ext: ∀i,i∉keys io→c0 H0 (uo++uf) i=H1 i
 Yr: ∀i,i∉keys io→c0 H0 uo i=Hq i
 VG: ∀q∈io,H1 q.1=some .gone∧Hq q.1=some .gone∧IoE H0 q
 ion:(keys io).Nodup
 ks: ∀i∈keys (uo++uf),∀e l,H1 i≠some (.own e l)
 ksn: ∀i∈keys (uo++uf),i∉keys io∧ ∃e l,H0 i=some (.own e l)
 fz:Fz Hq H1
 uov: ∀u∈uo,u.2=some .gone
 ufv: ∀u∈uf,∃e l,u.2=some (.pD e l)∧H0 u.1=some (.own e l)
 nd:hs.Nodup
 hM: ∀b∈hs,M1 b
 Od: ∀b∈hs,c.B≤b∨c.may b
 none: ∀b∈hs,∀i e,Hq i=some e→e.mut→fv (ν i)≠some b
 iob: ∀b∈hs,c.M0 b→ ∃q∈io,fv (ν q.1)=some b
 same: ∀i,i∉keys (uo++uf)→i∉keys io→H1 i=H0 i
theorem kD.start{H:Nat→Option br}(hm:Mem c H w M ν):kD c w M ν H H H M [] [] [] []:=
 ⟨hm,hm,.refl w M,λ_ _=>rfl,λ_ _=>rfl,λq hq=>by simp at hq,by simp[keys],λi hi=>by simp[keys]at hi,λi hi=>by simp[keys]at hi,.refl H,λu hu=>by simp at hu,λu hu=>by simp at hu,by simp,λb hb=>by simp at hb,λb hb=>by simp at hb,λb hb=>by simp at hb,λb hb=>by simp at hb,λ_ _ _=>rfl⟩
theorem Fz.ack{H H1:Nat→Option br}(h:Fz H H1){i:Nat}{e:Ty}{l:List e.den}(hi:H1 i=some (.own e l)):H i=some (.own e l):=by
 rcases h i with h'|⟨e',l',_,h'⟩
 ·rw[←h',hi]
 ·rw[hi]at h';cases h'
theorem Fz.apl{H H1:Nat→Option br}(h:Fz H H1){i:Nat}{e:Ty}{l:e.den}(hi:H1 i=some (.obj e l)):H i=some (.obj e l):=by
 rcases h i with h'|⟨e',l',_,h'⟩
 ·rw[←h',hi]
 ·rw[hi]at h';cases h'
theorem Fz.mut{H H1:Nat→Option br}(h:Fz H H1){i:Nat}{e:br}(hi:H1 i=some e)(hm:e.mut):H i=some e:=by
 cases e with
 |obj=>exact h.apl hi
 |gk=>
  rcases h i with h'|⟨e',l',_,h'⟩
  ·rw[←h',hi]
  ·rw[hi]at h';cases h'
 |own=>exact h.ack hi
 |pD=>simp[br.mut]at hm
 |gone=>simp[br.mut]at hm
theorem kD.freeze{H0 H1 Hq:Nat→Option br}{M1:Nat→Prop}{uo uf:jF}{io:List (Nat×AM)}{hs:List Nat}(h:kD c w M ν H0 H1 Hq M1 uo uf io hs){id:Nat}{e:Ty}{l:List e.den}(bg:H1 id=some (.own e l)):
  ∃M2,kD c w M ν H0 (cn H1 id (some (.pD e l))) Hq M2 uo ((id,some (.pD e l))::uf) io hs∧fI w M1 w M2∧(∀b,M2 b↔(M1 b∧fv (ν id)≠some b)):=by
 obtain⟨M2,gy,_,Lv⟩:=Tr.freeze h.mem bg
 have wG:id∉keys io:=λhk=>by
  obtain⟨q,hq,rfl⟩:=cV.1 hk
  have:=(h.VG q hq).1
  rw[bg]at this;cases this
 have XO:id∉keys (uo++uf):=λhk=>h.ks id hk e l bg
 have akq:id∉keys uf:=λhk=>XO (by simp only[keys,dj,bl];exact .inr hk)
 have h0:H0 id=some (.own e l):=by rw[←h.same id XO wG];exact bg
 have hq:Hq id=some (.own e l):=h.fz.ack bg
 have mC: ∀i,i∈keys (uo++(id,some (br.pD e l))::uf)↔i=id∨i∈keys (uo++uf):=by
  intro i
  simp only[keys,dj,bQ,bl,a8]
  constructor
  ·rintro(h|h|h)
   ·exact .inr (.inl h)
   ·exact .inl h
   ·exact .inr (.inr h)
  ·rintro(h|h|h)
   ·exact .inr (.inl h)
   ·exact .inl h
   ·exact .inr (.inr h)
 refine⟨M2,⟨gy.mem,h.Oc,h.cg.trans gy.cg,λi hi=> ?_,h.Yr,λq oL=> ?_,h.ion,λi hi e' l'=> ?_,λi hi=> ?_,λi=> ?_,h.uov,λu hu=> ?_,h.nd,λb hb=> ?_,h.Od,h.none,h.iob,λi hi nZ=> ?_⟩,gy.cg,Lv⟩
 ·rw[Br _ _ akq]
  by_cases ca:i=id
  ·subst ca;rw[ay,ay]
  ·rw[az _ _ ca,az _ _ ca];exact h.ext i hi
 ·obtain⟨h1,h2,h3⟩:=h.VG q oL
  have kq:q.1≠id:=λe=>wG (e▸fh oL)
  exact⟨by rw[az _ _ kq];exact h1,h2,h3⟩
 ·by_cases ca:i=id
  ·subst ca;rw[ay];intro h';cases h'
  ·rw[az _ _ ca]
   exact h.ks i (((mC i).1 hi).resolve_left ca) e' l'
 ·rcases(mC i).1 hi with rfl|hi
  ·exact⟨wG,e,l,h0⟩
  ·exact h.ksn i hi
 ·by_cases ca:i=id
  ·subst ca;exact .inr ⟨e,l,hq,ay _ _ _⟩
  ·rw[az _ _ ca];exact h.fz i
 ·rcases a8.1 hu with rfl|hu
  ·exact⟨e,l,rfl,h0⟩
  ·exact h.ufv u hu
 ·exact(Lv b).2 ⟨h.hM b hb,λeX=>h.none b hb id _ hq trivial eX⟩
 ·have kq:i≠id:=λe=>hi ((mC i).2 (.inl e))
  rw[az _ _ kq]
  exact h.same i (λh'=>hi ((mC i).2 (.inr h'))) nZ
theorem kD.hand{H0 H1 Hq:Nat→Option br}{M1:Nat→Prop}{uo uf:jF}{io:List (Nat×AM)}{hs:List Nat}(h:kD c w M ν H0 H1 Hq M1 uo uf io hs){id:Nat}{e:Ty}{l:List e.den}(bg:H1 id=some (.own e l)):
  kD c w M ν H0 (cn H1 id (some .gone)) (cn Hq id (some .gone)) M1 ((id,some .gone)::uo) uf io (hs++(fv (ν id)).toList):=by
 have wG:id∉keys io:=λhk=>by
  obtain⟨q,hq,rfl⟩:=cV.1 hk
  have:=(h.VG q hq).1
  rw[bg]at this;cases this
 have XO:id∉keys (uo++uf):=λhk=>h.ks id hk e l bg
 have akq:id∉keys uo:=λhk=>XO (by simp only[keys,dj,bl];exact .inl hk)
 have h0:H0 id=some (.own e l):=by rw[←h.same id XO wG];exact bg
 have hq:Hq id=some (.own e l):=h.fz.ack bg
 have mC: ∀i,i∈keys ((id,some br.gone)::uo++uf)↔i=id∨i∈keys (uo++uf):=by
  intro i
  simp only[keys,dj,bQ,mV,bl,a8]
 have Be: ∀b,fv (ν id)=some b→b∉hs:=λb hb eX=>h.none b eX id _ hq trivial hb
 refine⟨(Tr.gone h.mem id).mem,(Tr.gone h.Oc id).mem,h.cg,λi hi=> ?_,λi hi=> ?_,λq oL=> ?_,h.ion,λi hi e' l'=> ?_,λi hi=> ?_,λi=> ?_,λu hu=> ?_,h.ufv,?_,λb hb=> ?_,λb hb=> ?_,λb hb i e' hi hm=> ?_,λb hb hb0=> ?_,λi hi nZ=> ?_⟩
 ·have:=Br (id,some .gone) (uo++uf) XO [] H0
  simp only[cM]at this
  rw[mV,this]
  by_cases ca:i=id
  ·subst ca;rw[ay,ay]
  ·rw[az _ _ ca,az _ _ ca];exact h.ext i hi
 ·have:=Br (id,some .gone) uo akq [] H0
  simp only[cM]at this
  rw[this]
  by_cases ca:i=id
  ·subst ca;rw[ay,ay]
  ·rw[az _ _ ca,az _ _ ca];exact h.Yr i hi
 ·obtain⟨h1,h2,h3⟩:=h.VG q oL
  have kq:q.1≠id:=λe=>wG (e▸fh oL)
  exact⟨by rw[az _ _ kq];exact h1,by rw[az _ _ kq];exact h2,h3⟩
 ·by_cases ca:i=id
  ·subst ca;rw[ay];intro h';cases h'
  ·rw[az _ _ ca]
   exact h.ks i (((mC i).1 hi).resolve_left ca) e' l'
 ·rcases(mC i).1 hi with rfl|hi
  ·exact⟨wG,e,l,h0⟩
  ·exact h.ksn i hi
 ·by_cases ca:i=id
  ·subst ca;left;rw[ay,ay]
  ·rw[az _ _ ca,az _ _ ca];exact h.fz i
 ·rcases a8.1 hu with rfl|hu
  ·rfl
  ·exact h.uov u hu
 ·refine pA.2 ⟨h.nd,?_,λx hx y hy=> ?_⟩
  ·cases fv (ν id)<;>simp
  ·rw[fi]at hy
   intro XP;subst XP
   exact Be x hy hx
 ·rcases bl.1 hb with hb|hb
  ·exact h.hM b hb
  ·rw[fi]at hb
   exact(h.mem.jY id _ bg).xB trivial hb
 ·rcases bl.1 hb with hb|hb
  ·exact h.Od b hb
  ·rw[fi]at hb
   exact h.mem.new id _ b bg trivial hb
 ·by_cases ca:i=id
  ·subst ca;rw[ay]at hi;cases hi;simp[br.mut]at hm
  ·rw[az _ _ ca]at hi
   rcases bl.1 hb with hb|hb
   ·exact h.none b hb i e' hi hm
   ·rw[fi]at hb
    intro eX
    exact h.Oc.A8 i id e' _ b ca hi hm hq trivial eX hb
 ·rcases bl.1 hb with hb|hb
  ·exact h.iob b hb hb0
  ·rw[fi]at hb
   exact absurd hb0 (h.mem.oN id e l b bg hb)
 ·have kq:i≠id:=λe=>hi ((mC i).2 (.inl e))
  rw[az _ _ kq]
  exact h.same i (λh'=>hi ((mC i).2 (.inr h'))) nZ
theorem kD.akr{H0 H1 Hq:Nat→Option br}{M1:Nat→Prop}{uo uf:jF}{io:List (Nat×AM)}{hs:List Nat}(h:kD c w M ν H0 H1 Hq M1 uo uf io hs){id:Nat}{τ:Ty}{x:τ.den}(bg:H1 id=some (.obj τ x)):
  kD c w M ν H0 (cn H1 id (some .gone)) (cn Hq id (some .gone)) M1 uo uf (io++[(id,.io τ)]) (hs++(fv (ν id)).toList):=by
 have wG:id∉keys io:=λhk=>by
  obtain⟨q,hq,rfl⟩:=cV.1 hk
  have:=(h.VG q hq).1
  rw[bg]at this;cases this
 have hq:Hq id=some (.obj τ x):=h.fz.apl bg
 have XO:id∉keys (uo++uf):=λhk=>by
  have h1:=h.ext id wG
  obtain⟨_,e,l,h0⟩:=h.ksn id hk
  have key: ∀(ups:jF) (H:Nat→Option br),(∀u∈ups,u.2=some .gone∨ ∃e l,u.2=some (.pD e l))→id∈keys ups→c0 H ups id=some .gone∨ ∃e l,c0 H ups id=some (.pD e l):=by
   intro ups
   induction ups with
   |nil=>intro H _ hk;simp[keys]at hk
   |cons u ups ih=>
    intro H hv hk
    by_cases VH:id∈keys ups
    ·exact ih _ (λv RU=>hv v (aZ _ RU)) VH
    ·show c0 (cn H u.1 u.2) ups id=_∨ ∃e l,c0 (cn H u.1 u.2) ups id=_
     rw[mE VH]
     have hui:id=u.1:=by
      simp only[keys,bQ,a8]at hk VH
      exact hk.resolve_right VH
     rw[hui,ay]
     exact hv u bq
  have:=key (uo++uf) H0 (λu hu=>by
   rcases bl.1 hu with hu|hu
   ·exact .inl (h.uov u hu)
   ·obtain⟨e,l,h',_⟩:=h.ufv u hu;exact .inr ⟨e,l,h'⟩) hk
  rw[h1,bg]at this
  rcases this with h'|⟨_,_,h'⟩<;>cases h'
 have h0:H0 id=some (.obj τ x):=by rw[←h.same id XO wG];exact bg
 have mC: ∀i,i∈keys (io++[(id,.io τ)])↔i∈keys io∨i=id:=by
  intro i
  simp only[keys,dj,bQ,gM,bl,a8,List.not_mem_nil,or_false]
 have Be: ∀b,fv (ν id)=some b→b∉hs:=λb hb eX=>h.none b eX id _ hq trivial hb
 refine⟨(Tr.gone h.mem id).mem,(Tr.gone h.Oc id).mem,h.cg,λi hi=> ?_,λi hi=> ?_,λq oL=> ?_,?_,λi hi e' l'=> ?_,λi hi=> ?_,λi=> ?_,h.uov,h.ufv,?_,λb hb=> ?_,λb hb=> ?_,λb hb i e' hi hm=> ?_,λb hb hb0=> ?_,λi hi nZ=> ?_⟩
 ·rw[az _ _ (λe=>hi ((mC i).2 (.inr e)))];exact h.ext i (λh'=>hi ((mC i).2 (.inl h')))
 ·rw[az _ _ (λe=>hi ((mC i).2 (.inr e)))];exact h.Yr i (λh'=>hi ((mC i).2 (.inl h')))
 ·rcases bl.1 oL with oL|oL
  ·obtain⟨h1,h2,h3⟩:=h.VG q oL
   have kq:q.1≠id:=λe=>wG (e▸fh oL)
   exact⟨by rw[az _ _ kq];exact h1,by rw[az _ _ kq];exact h2,h3⟩
  ·rw[cr]at oL;subst oL
   exact⟨ay _ _ _,ay _ _ _,.inl ⟨τ,x,rfl,h0⟩⟩
 ·simp only[keys,dj,bQ,gM]
  refine pA.2 ⟨h.ion,by simp,λx hx y hy=> ?_⟩
  rw[cr]at hy;subst hy
  intro e;exact wG (e▸hx)
 ·by_cases ca:i=id
  ·subst ca;rw[ay];intro h';cases h'
  ·rw[az _ _ ca];exact h.ks i hi e' l'
 ·obtain⟨h1,h2⟩:=h.ksn i hi
  exact⟨λh'=>((mC i).1 h').elim h1 (λe=>XO (e▸hi)),h2⟩
 ·by_cases ca:i=id
  ·subst ca;left;rw[ay,ay]
  ·rw[az _ _ ca,az _ _ ca];exact h.fz i
 ·refine pA.2 ⟨h.nd,?_,λx hx y hy=> ?_⟩
  ·cases fv (ν id)<;>simp
  ·rw[fi]at hy
   intro XP;subst XP
   exact Be x hy hx
 ·rcases bl.1 hb with hb|hb
  ·exact h.hM b hb
  ·rw[fi]at hb
   exact(h.mem.jY id _ bg).xB trivial hb
 ·rcases bl.1 hb with hb|hb
  ·exact h.Od b hb
  ·rw[fi]at hb
   exact h.mem.new id _ b bg trivial hb
 ·by_cases ca:i=id
  ·subst ca;rw[ay]at hi;cases hi;simp[br.mut]at hm
  ·rw[az _ _ ca]at hi
   rcases bl.1 hb with hb|hb
   ·exact h.none b hb i e' hi hm
   ·rw[fi]at hb
    intro eX
    exact h.Oc.A8 i id e' _ b ca hi hm hq trivial eX hb
 ·rcases bl.1 hb with hb|hb
  ·obtain⟨q,hq1,hq2⟩:=h.iob b hb hb0
   exact⟨q,cU _ hq1,hq2⟩
  ·rw[fi]at hb
   exact⟨(id,.io τ),by simp,hb⟩
 ·have kq:i≠id:=λe=>nZ ((mC i).2 (.inr e))
  rw[az _ _ kq]
  exact h.same i hi (λh'=>nZ ((mC i).2 (.inl h')))
theorem kD.aiY{H0 H1 Hq:Nat→Option br}{M1:Nat→Prop}{uo uf:jF}{io:List (Nat×AM)}{hs:List Nat}(h:kD c w M ν H0 H1 Hq M1 uo uf io hs){id:Nat}{e:Ty}{l:List e.den}(bg:H1 id=some (.own e l)):
  kD c w M ν H0 (cn H1 id (some .gone)) (cn Hq id (some .gone)) M1 uo uf (io++[(id,.lo e)]) (hs++(fv (ν id)).toList):=by
 have wG:id∉keys io:=λhk=>by
  obtain⟨q,hq,rfl⟩:=cV.1 hk
  have:=(h.VG q hq).1
  rw[bg]at this;cases this
 have hq:Hq id=some (.own e l):=h.fz.ack bg
 have XO:id∉keys (uo++uf):=λhk=>h.ks id hk e l bg
 have h0:H0 id=some (.own e l):=by rw[←h.same id XO wG];exact bg
 have mC: ∀i,i∈keys (io++[(id,.lo e)])↔i∈keys io∨i=id:=by
  intro i
  simp only[keys,dj,bQ,gM,bl,a8,List.not_mem_nil,or_false]
 have Be: ∀b,fv (ν id)=some b→b∉hs:=λb hb eX=>h.none b eX id _ hq trivial hb
 refine⟨(Tr.gone h.mem id).mem,(Tr.gone h.Oc id).mem,h.cg,λi hi=> ?_,λi hi=> ?_,λq oL=> ?_,?_,λi hi e' l'=> ?_,λi hi=> ?_,λi=> ?_,h.uov,h.ufv,?_,λb hb=> ?_,λb hb=> ?_,λb hb i e' hi hm=> ?_,λb hb hb0=> ?_,λi hi nZ=> ?_⟩
 ·rw[az _ _ (λe=>hi ((mC i).2 (.inr e)))];exact h.ext i (λh'=>hi ((mC i).2 (.inl h')))
 ·rw[az _ _ (λe=>hi ((mC i).2 (.inr e)))];exact h.Yr i (λh'=>hi ((mC i).2 (.inl h')))
 ·rcases bl.1 oL with oL|oL
  ·obtain⟨h1,h2,h3⟩:=h.VG q oL
   have kq:q.1≠id:=λe=>wG (e▸fh oL)
   exact⟨by rw[az _ _ kq];exact h1,by rw[az _ _ kq];exact h2,h3⟩
  ·rw[cr]at oL;subst oL
   exact⟨ay _ _ _,ay _ _ _,.inr ⟨e,l,rfl,h0⟩⟩
 ·simp only[keys,dj,bQ,gM]
  refine pA.2 ⟨h.ion,by simp,λx hx y hy=> ?_⟩
  rw[cr]at hy;subst hy
  intro e;exact wG (e▸hx)
 ·by_cases ca:i=id
  ·subst ca;rw[ay];intro h';cases h'
  ·rw[az _ _ ca];exact h.ks i hi e' l'
 ·obtain⟨h1,h2⟩:=h.ksn i hi
  exact⟨λh'=>((mC i).1 h').elim h1 (λe=>XO (e▸hi)),h2⟩
 ·by_cases ca:i=id
  ·subst ca;left;rw[ay,ay]
  ·rw[az _ _ ca,az _ _ ca];exact h.fz i
 ·refine pA.2 ⟨h.nd,?_,λx hx y hy=> ?_⟩
  ·cases fv (ν id)<;>simp
  ·rw[fi]at hy
   intro XP;subst XP
   exact Be x hy hx
 ·rcases bl.1 hb with hb|hb
  ·exact h.hM b hb
  ·rw[fi]at hb
   exact(h.mem.jY id _ bg).xB trivial hb
 ·rcases bl.1 hb with hb|hb
  ·exact h.Od b hb
  ·rw[fi]at hb
   exact h.mem.new id _ b bg trivial hb
 ·by_cases ca:i=id
  ·subst ca;rw[ay]at hi;cases hi;simp[br.mut]at hm
  ·rw[az _ _ ca]at hi
   rcases bl.1 hb with hb|hb
   ·exact h.none b hb i e' hi hm
   ·rw[fi]at hb
    intro eX
    exact h.Oc.A8 i id e' _ b ca hi hm hq trivial eX hb
 ·rcases bl.1 hb with hb|hb
  ·obtain⟨q,hq1,hq2⟩:=h.iob b hb hb0
   exact⟨q,cU _ hq1,hq2⟩
  ·rw[fi]at hb
   exact⟨(id,.lo e),by simp,hb⟩
 ·have kq:i≠id:=λe=>nZ ((mC i).2 (.inr e))
  rw[az _ _ kq]
  exact h.same i hi (λh'=>nZ ((mC i).2 (.inl h')))
end VM
end
section
namespace VM
open Go
variable{P:Program}{E:Env}{o:Oper}{a:Act}{w:World}{M:Nat→Prop}{ν:Nat→Value}{σ:St}{c:Ctx}{α:Type}{r:α}{next:Act→World→Prop}{Q:Exit→Act→World→Prop}
theorem uh.upd{H:Nat→Option br}{id:Nat}{e e':br}(bg:H id=some e)(hl:e.lM e'):uh H ν (cn H id (some e')) ν:=
 ⟨λi e1 hi=>by
  by_cases ca:i=id
  ·subst ca;rw[bg]at hi;cases hi;exact⟨e',ay _ _ _,hl⟩
  ·exact⟨e1,by rw[az _ _ ca];exact hi,.refl e1⟩,λ_ _=>rfl⟩
theorem br.kj(e:br):e.lM .gone:=by cases e<;>simp[br.lM]
theorem VR.apn{H H':Nat→Option br}{ν':Nat→Value}{a:Ty}{x:a.den}{v:Value}(h:VR w M H ν (DH a x) v):VR w M H' ν' (DH a x) v:=by
 unfold DH at h ⊢
 split at h
 ·simp only[VR]at h ⊢;exact h
 ·simp only[VR]at h ⊢;exact h
theorem jO.free{H H':Nat→Option br}{ν':Nat→Value}: ∀{τ:Ty} {x:τ.den} {vs:List Value},jO w M H ν (qO τ x) vs→jO w M H' ν' (qO τ x) vs
 | .pair a b,x,v::vs,h=>by
  simp only[qO,jO]at h ⊢
  exact⟨VR.apn h.1,jO.free h.2⟩
 | .pair a b,x,[],h=>by simp[qO,jO]at h
 | .int _,_,[],_| .bool,_,[],_| .str,_,[],_| .slice _,_,[],_| .unit,_,[],_| .arr _ _,_,[],_=>by simp[qO,jO]
 | .int _,_,_::_,h| .bool,_,_::_,h| .str,_,_::_,h| .slice _,_,_::_,h| .unit,_,_::_,h| .arr _ _,_,_::_,h=>by simp[qO,jO]at h
theorem DV{H0 H1 Hq:Nat→Option br}{M1:Nat→Prop}{uo uf:jF}{io:List (Nat×AM)}{hs:List Nat}(h:kD c w M ν H0 H1 Hq M1 uo uf io hs){m:AM}{x:bA}{v:Value}(hv:VR w M1 H1 ν x v)
  {k:m.den→(Nat→Option br)→List Nat→jF→jF→List (Nat×AM)→Option α} (hk:oV m x H1 k=some r):
  ∃y H2 rd Nd Nf IY XQ M2,k y H2 rd Nd Nf IY=some r∧kD c w M ν H0 H2 XQ M2 (Nd++uo) (Nf++uf) (io++IY) (hs++dw m v)∧fI w M1 w M2∧uh H1 ν H2 ν∧A1 w M2 m y v∧
   IY.map (λq=>ν q.1)=(if m.iS then [v]else [])∧IY.map (·.2)=nu [m]:=by
 unfold oV at hk
 split at hk
 ·
  rename_i τ k
  obtain⟨y,rd,ups,hk,hy⟩:=Fw h.mem hv hk
  rcases hy with⟨rfl,hV⟩|⟨id,e,l,rfl,bg,hV⟩
  ·exact⟨y,H1,rd,[],[],[],Hq,M1,hk,by simpa [dw]using h,.refl w M1,.refl H1 ν,hV,rfl,rfl⟩
  ·obtain⟨M2,hA,hK,Lv⟩:=h.freeze bg
   exact⟨y,_,rd,[],_,[],Hq,M2,hk,by simpa [dw]using hA,hK,.upd bg ⟨rfl,rfl⟩,hV M2 Lv,rfl,rfl⟩
 ·
  rename_i e k
  split at hk
  ·obtain⟨ad,hv⟩:=VR.emp.1 hv
   subst hv
   have hb:fv (.slice ad 0 0)=none:=by cases ad<;>simp[fv]
   exact⟨[],H1,[],[],[],[],Hq,M1,hk,by simpa [dw,hb]using h,.refl w M1,.refl H1 ν,by simp only[A1,ER];exact .inl ⟨trivial,ad,rfl⟩,rfl,rfl⟩
  ·rename_i id
   split at hk
   ·rename_i e' l bg
    obtain⟨e1,hk⟩:=bx hk
    cases e1
    simp only[VR]at hv
    obtain⟨_,rfl⟩:=hv
    refine⟨_,_,_,_,_,_,_,M1,hk,by simpa [dw]using h.hand bg,.refl w M1,.upd bg (br.kj _),?_,rfl,rfl⟩
    have:=h.mem.jY id _ bg
    exact this
   ·cases hk
  ·cases hk
 ·
  rename_i τ k
  split at hk
  ·rename_i id
   split at hk
   ·rename_i υ z bg
    obtain⟨e1,hk⟩:=bx hk
    subst e1
    simp only[VR]at hv
    obtain⟨e,he,lO⟩:=hv
    rw[bg]at he;cases he
    simp only[AR]at lO
    obtain⟨_,b,hb,hv⟩:=lO
    have Ys:v=ν id:=by rw[hv,hb];rfl
    subst Ys
    refine⟨_,_,_,_,_,_,_,M1,hk,by simpa [dw]using h.akr bg,.refl w M1,.upd bg (br.kj _),?_,rfl,rfl⟩
    have:=h.mem.jY id _ bg
    exact this
   ·cases hk
  ·cases hk
 ·
  rename_i f τ k
  split at hk
  ·rename_i f' cs
   obtain⟨hf,T7⟩:=cB hk
   clear hk
   have hf:=fy hf
   subst hf
   have hk:=T7
   clear T7
   simp only[VR]at hv
   obtain⟨us,rfl,hvs⟩:=hv
   obtain⟨y,rd,ups,hk,hy⟩:=GJ h.mem hvs hk
   split at hk
   ·exact⟨y,H1,rd,[],[],[],Hq,M1,hk,by simpa [dw]using h,.refl w M1,.refl H1 ν,by simp only[A1,VR];exact⟨us,rfl,hy rfl⟩,rfl,rfl⟩
   ·cases hk
  ·cases hk
 ·cases hk
 ·
  rename_i τ k
  split at hk
  ·rename_i υ z
   obtain⟨e1,hk⟩:=bx hk
   subst e1
   exact⟨_,H1,_,[],[],[],Hq,M1,hk,by simpa [dw]using h,.refl w M1,.refl H1 ν,by simp only[A1,VR]at hv ⊢;exact hv,rfl,rfl⟩
  ·cases hk
 ·
  rename_i e k
  split at hk
  ·rename_i id
   split at hk
   ·rename_i e' l bg
    obtain⟨e1,hk⟩:=bx hk
    cases e1
    simp only[VR]at hv
    obtain⟨_,rfl⟩:=hv
    refine⟨_,_,_,_,_,_,_,M1,hk,by simpa [dw]using h.aiY bg,.refl w M1,.upd bg (br.kj _),?_,rfl,rfl⟩
    have:=h.mem.jY id _ bg
    exact this
   ·cases hk
  ·cases hk
 ·cases hk
theorem DW{H0:Nat→Option br}: ∀{ms:List AM} {qV:List bA} {vs:List Value} {H1 Hq:Nat→Option br} {M1:Nat→Prop} {rd:List Nat} {uo uf:jF} {io:List (Nat×AM)} {hs:List Nat} {K:HP ms→List Nat→jF→jF→List (Nat×AM)→Option α},
  kD c w M ν H0 H1 Hq M1 uo uf io hs→jO w M1 H1 ν qV vs→uK ms qV H1 rd uo uf io K=some r→
  ∃x yJ Nd Nf IY H2 XQ M2,K x yJ Nd Nf IY=some r∧kD c w M ν H0 H2 XQ M2 Nd Nf IY (hs++eD ms vs)∧fI w M1 w M2∧kC w M2 ms x vs∧
   IY.map (λq=>ν q.1)=io.map (λq=>ν q.1)++fL ms vs∧IY.map (·.2)=io.map (·.2)++nu ms
 |[],[],[],H1,Hq,M1,rd,uo,uf,io,hs,K,h,_,hk=>
  ⟨(),rd,uo,uf,io,H1,Hq,M1,hk,by simpa [eD]using h,.refl w M1,rfl,by simp[fL],by simp[nu]⟩
 |[m],[x],[v],H1,Hq,M1,rd,uo,uf,io,hs,K,h,hv,hk=>by
  simp only[jO,fB]at hv
  obtain⟨y,H2,Yh,uo1,uf1,io1,XQ,M2,hk,hA,hK,hG,hy,hi1,T6⟩:=DV h hv (hk:oV m x H1 _=some r)
  refine⟨y,_,_,_,_,H2,XQ,M2,hk,by simpa [eD]using hA,hK,⟨v,[],rfl,hy,rfl⟩,?_,?_⟩
  ·rw[dj,hi1];cases wG:m.iS<;>simp[fL,wG]
  ·rw[dj,T6]
 |m::n::ms,x::xs,v::vs,H1,Hq,M1,rd,uo,uf,io,hs,K,h,hv,hk=>by
  simp only[jO]at hv
  obtain⟨y,H2,Yh,uo1,uf1,io1,XQ,M2,hk,hA,hK,hG,hy,hi1,T6⟩:=DV h hv.1 (hk:oV m x H1 _=some r)
  obtain⟨ys,yJ,Nd,Nf,IY,H3,Hq3,M3,hk,hA',hK',hys,hi3,hi4⟩:=DW (ms:=n::ms) hA (jO.cg hK hG hv.2) hk
  refine⟨(y,ys),_,_,_,_,H3,Hq3,M3,hk,by simpa [eD,bE]using hA',hK.trans hK',⟨v,vs,rfl,?_,hys⟩,?_,?_⟩
  ·refine A1.xL hK' (λb hb=>⟨rfl,hA'.hM b ?_⟩) hy
   exact cU _ (dB _ hb)
  ·rw[hi3,dj,hi1,bE]
   congr 1
   cases wG:m.iS<;>simp[fL,wG]
  ·rw[hi4,dj,T6,bE]
   congr 1
   cases m<;>simp[nu]
 |[],_::_,_,_,_,_,_,_,_,_,_,_,_,_,hk=>by simp[uK]at hk
 |[_],[],_,_,_,_,_,_,_,_,_,_,_,_,hk=>by simp[uK]at hk
 |[_],_::_::_,_,_,_,_,_,_,_,_,_,_,_,_,hk=>by simp[uK]at hk
 |_::_::_,[],_,_,_,_,_,_,_,_,_,_,_,_,hk=>by simp[uK]at hk
 |_,_::_,[],_,_,_,_,_,_,_,_,_,_,hv,_=>by simp[jO]at hv
 |[],[],_::_,_,_,_,_,_,_,_,_,_,_,hv,_=>by simp[jO]at hv
 |[_],[_],_::_::_,_,_,_,_,_,_,_,_,_,_,hv,_=>by simp[jO]at hv
end VM
end
section
namespace VM
open Go
variable{P:Program}{E:Env}{o:Oper}{a:Act}{w:World}{M:Nat→Prop}{ν:Nat→Value}{σ:St}{c:Ctx}{α:Type}{r:α}{next:Act→World→Prop}{Q:Exit→Act→World→Prop}
theorem Mem.call{H:Nat→Option br}(h:Mem c H w M ν){hs:List Nat}{M0 M':Nat→Prop}{w':World}(hM: ∀b,M0 b→M b)(hhs: ∀b∈hs,M b)
  (qX: ∀b∈hs,∀i e,H i=some e→e.mut→fv (ν i)≠some b) (kE: ∀b∈hs,c.B≤b∨c.may b) (wG: ∀b∈hs,c.M0 b→M' b) (L:Left w M0 hs w' M'):
  Mem c H w' (λb=>M' b∨(M b∧b∉hs)) ν∧fI w M w' (λb=>M' b∨(M b∧b∉hs)):=by
 have hk:fI w M w' (λb=>M' b∨(M b∧b∉hs)):=by
  refine⟨L.size,λb hb hm=>L.frame b hb (λhh=>hm (hhs b hh)),λb hb hm=> ?_⟩
  rcases hm with hm|hm
  ·exact(L.less b hb hm).elim (hM b) (hhs b)
  ·exact hm.1
 refine⟨⟨λi e hi=>(h.jY i e hi).cg hk λhm b hb=> ?_,h.A8,h.new,h.oN,sl h (λ_ _=>rfl) (λ_ h=>h) (λi τ x p j hi=> .inl ⟨hi,λb hb=> ?_⟩),λb hb=> ?_,λb hb=> ?_,λb hb hm=> ?_,cv h.size L.size,h.wS,L.os.trans h.os,L.tape.trans h.tape,L.output.trans h.output⟩,hk⟩
 ·have hMb:=(h.jY i e hi).xB hm hb
  have Be:b∉hs:=λhh=>qX b hh i e hi hm hb
  exact⟨L.frame b (h.Gp b hMb) Be,.inr ⟨hMb,Be⟩⟩
 ·have xC:fv (ν i)=some b:=by rw[hb];rfl
  have hMb:=(h.jY i _ hi).xB trivial xC
  exact L.frame b (h.Gp b hMb) (λhh=>qX b hh i _ hi trivial xC)
 ·by_cases hh:b∈hs
  ·exact .inl (wG b hh hb)
  ·exact .inr ⟨h.sub b hb,hh⟩
 ·rcases hb with hb|hb
  ·exact L.Gp b hb
  ·exact nQ (h.Gp b hb.1) L.size
 ·have Be:b∉hs:=λhh=>(kE b hh).elim (λh'=>ω) hm
  rw[L.frame b (nQ hb h.size) Be]
  exact h.frame b hb hm
theorem Mem.xM{H:Nat→Option br}(h:Mem c H w M ν){id:Nat}{v:Value}{e:br}(bg: ∀e',H id=some e'→ ¬e'.mut)(Vr:ER w M v e)
  (hd: ∀b,fv v=some b→ ∀i e',H i=some e'→e'.mut→fv (ν i)≠some b) (hn: ∀b,fv v=some b→c.B≤b∨c.may b) (ho: ∀b e0 l0,e= .own e0 l0→fv v=some b→ ¬c.M0 b)
  (hnv:H id=none∨v=ν id)
  (qP: ∀τ x p j,e= .gk τ x p j→cn H id (some e) j≠none∧ ∃b,v= .pointer (some ⟨b,0,none⟩)∧w.cell? ⟨b,cI p τ,none⟩=some (updν ν id v j):=by intro _ _ _ _ h;cases h):
  Mem c (cn H id (some e)) w M (updν ν id v):=by
 have hν: ∀i,i≠id→updν ν id v i=ν i:=λi hi=>by simp[updν,hi]
 have hνs:updν ν id v id=v:=by simp[updν]
 refine⟨λi e1 hi=> ?_,λi k e1 e2 b1 qy hi ui hk yO=> ?_,λi e1 b1 hi ui=> ?_,λi e1 l1 b1 hi=> ?_,sl h (λi hi=> ?_) yN (λi τ x p j hi=> ?_),h.sub,h.Gp,h.frame,h.size,h.wS,h.os,h.tape,h.output⟩
 ·by_cases ca:i=id
  ·subst ca;rw[ay]at hi;cases hi;rw[hνs];exact Vr
  ·rw[az _ _ ca]at hi;rw[hν i ca];exact h.jY i e1 hi
 ·by_cases ca:i=id
  ·subst ca;rw[hνs]
   have NV:k≠i:=fc qy
   rw[az _ _ NV]at hk;rw[hν k NV]
   intro nr
   exact hd b1 nr k e2 hk yO
  ·rw[az _ _ ca]at hi;rw[hν i ca]
   by_cases NV:k=id
   ·subst NV;rw[hνs]
    intro nr vk
    exact hd b1 vk i e1 hi ui nr
   ·rw[az _ _ NV]at hk;rw[hν k NV];exact h.A8 i k e1 e2 b1 qy hi ui hk yO
 ·by_cases ca:i=id
  ·subst ca;rw[hνs];exact hn b1
  ·rw[az _ _ ca]at hi;rw[hν i ca];exact h.new i e1 b1 hi ui
 ·by_cases ca:i=id
  ·subst ca;rw[ay]at hi;cases hi;rw[hνs];exact ho b1 e1 l1 rfl
  ·rw[az _ _ ca]at hi;rw[hν i ca];exact h.oN i e1 l1 b1 hi
 ·by_cases ca:i=id
  ·subst ca
   rcases hnv with hnv|hnv
   ·exact absurd hnv hi
   ·rw[hνs,hnv]
  ·exact hν i ca
 ·by_cases ca:i=id
  ·subst ca
   rw[ay]at hi
   cases hi
   obtain⟨h1,b,h2,h3⟩:=qP _ _ _ _ rfl
   exact .inr ⟨h1,b,by rw[hνs];exact h2,h3⟩
  ·rw[az _ _ ca]at hi
   exact .inl ⟨hi,λ_ _=>rfl⟩
theorem VI{m:AM}{ms:List AM}(x:HP (m::ms))(id:Nat)(io:List (Nat×AM)):
  ir (m::ms) x id io=match m,q3 x,io with
   | .io τ,y,(j,_)::io=>((ir ms (uk x) (id+1) io).1,(j,some (.obj τ y))::(ir ms (uk x) (id+1) io).2.1,(ir ms (uk x) (id+1) io).2.2)
   | .lo e,y,(j,_)::io=>((ir ms (uk x) (id+1) io).1,(j,some (.own e y))::(ir ms (uk x) (id+1) io).2.1,(ir ms (uk x) (id+1) io).2.2)
   |m,y,io=>((xu m y id).1::(ir ms (uk x) (id+1) io).1,(xu m y id).2++(ir ms (uk x) (id+1) io).2.1,(ir ms (uk x) (id+1) io).2.2):=by
 cases ms with
 |nil=>cases m<;>cases io<;>simp[ir,q3]
 |cons n ms=>cases m<;>cases io<;>simp[ir,q3,uk]
theorem kk{l1 l2:List Nat}{b:Nat}(h:(l1++l2).Nodup)(h1:b∈l1):b∉l2:=λh2=>(pA.1 h).2.2 b h1 b h2 rfl
theorem RR.GK: ∀{ms:List AM} {x:HP ms} {us ps:List Value},RR w M ms x us ps→ ∀p∈ps,∀b,fv p=some b→b∈bI ms us ps
 |[],_,_,_,h,p,hp,_,_=>by simp only[RR]at h;rw[h.2]at hp;simp at hp
 |m::ms,x,us,ps,h,p,hp,b,hb=>by
  simp only[RR]at h
  rcases h with⟨p',I4,h1,rfl,h2,h3⟩|⟨v,EU,h1,h2,rfl,h3,h4⟩
  ·simp only[bI,h1,g9,uB,uE,bl]
   rcases a8.1 hp with rfl|hp
   ·left
    cases m<;>simp[AM.iS]at h1<;>simp[dw,hb]
   ·exact .inr (RR.GK h3 p hp b hb)
  ·simp only[bI,h1,jM,fC,uB,uE,bl]
   exact .inr (RR.GK h4 p hp b hb)
theorem m5{hs:List Nat}{sz:Nat}: ∀{ms:List AM} {x:HP ms} {us ps:List Value} {id:Nat} {io:List (Nat×AM)} {H:Nat→Option br} {ν:Nat→Value} {used:List Nat},
  Mem c H w M ν→RR w M ms x us ps→ps=io.map (λq=>ν q.1)→nu ms=io.map (·.2)→(keys io).Nodup→(∀q∈io,H q.1=some .gone)→(∀i,id≤i→i<id+ms.length→H i=none)→
  (∀i e b,H i=some e→e.mut→fv (ν i)=some b→(b<sz∧b∉hs)∨b∈used)→(used++bI ms us ps).Nodup→(∀b∈bI ms us ps,sz≤b∨b∈hs)→
  (∀b∈bI ms us ps,(c.B≤b∨c.may b))→(∀b∈bI ms us ps,c.M0 b→ ∃p∈ps,fv p=some b)→
  (∀q∈io,∀e,q.2= .lo e→ ∀b,fv (ν q.1)=some b→ ¬c.M0 b)→
  ∃ν',Mem c (c0 H (ir ms x id io).2.1) w M ν'∧jO w M (c0 H (ir ms x id io).2.1) ν' (ir ms x id io).1 us∧(∀i,H i≠none→ν' i=ν i)∧
   (∀i,i∉keys io→(i<id∨id+ms.length≤i)→c0 H (ir ms x id io).2.1 i=H i)∧(∀i,id≤i→i<id+ms.length→ ∀e,c0 H (ir ms x id io).2.1 i=some e→(∃e0 l0,e= .own e0 l0)∨ ∃τ0 z0,e= .obj τ0 z0)∧
   (∀q∈io,IoE (c0 H (ir ms x id io).2.1) q)
 |[],x,us,ps,id,io,H,ν,used,hm,hr,I2,DQ,CF,zZ,jv,hold,wU,oO,kE,Gq,w6=>by
  simp only[RR]at hr
  obtain⟨rfl,rfl⟩:=hr
  have wG:io=[]:=by
   cases io with
   |nil=>rfl
   |cons q io=>simp at I2
  subst wG
  exact⟨ν,hm,by simp[ir,jO],λ_ _=>rfl,λ_ _ _=>rfl,λi h1 h2=>by simp at h2;omega,λq hq=>by simp at hq⟩
 |m::ms,x,us,ps,id,io,H,ν,used,hm,hr,I2,DQ,CF,zZ,jv,hold,wU,oO,kE,Gq,w6=>by
  rw[VI]
  simp only[RR]at hr
  rcases hr with⟨p,I4,GM,rfl,h1,h2⟩|⟨v,EU,GM,hmf,rfl,h1,h2⟩
  ·
   cases m with
   |io τ=>
    cases io with
    |nil=>simp at I2
    |cons q io=>
     simp only[bQ,fQ]at I2
     obtain⟨rfl,rfl⟩:=I2
     simp only[nu,bQ,fQ]at DQ
     obtain⟨acn,aks⟩:=DQ
     simp only[keys,bQ,AT]at CF
     have Yt:bI (.io τ::ms) us (ν q.1::io.map λq=>ν q.1)=(fv (ν q.1)).toList++bI ms us (io.map λq=>ν q.1):=rfl
     rw[Yt]at wU oO kE Gq
     have wT:=zZ q bq
     have zr:q.1<id∨id+(ms.length+1)≤q.1:=by
      rcases nW q.1 id with h'|h'
      ·exact .inl h'
      ·rcases nW q.1 (id+(ms.length+1))with LD|LD
       ·rw[jv q.1 h' LD]at wT;cases wT
       ·exact .inr LD
     simp only[A1]at h1
     have o5: ∀b,fv (ν q.1)=some b→ ∀i e',H i=some e'→e'.mut→fv (ν i)≠some b:=by
      intro b hb i e' hi jt eX
      have ka:b∈(fv (ν q.1)).toList++bI ms us (io.map λq=>ν q.1):=cU _ (by rw[hb];simp)
      rcases hold i e' b hi jt eX with⟨h3,h4⟩|h3
      ·exact(oO b ka).elim (λh'=>ω) h4
      ·exact kk wU h3 ka
     have yO:=Mem.xM (c:=c) hm (id:=q.1) (v:=ν q.1) (e:= .obj τ (q3 x)) (λe' uw=>by rw[wT]at uw;cases uw;simp[br.mut]) h1 o5 (λb hb=>kE b (cU _ (by rw[hb];simp))) (λb e0 l0 he=>by cases he) (.inr rfl)
     have hνe:updν ν q.1 (ν q.1)=ν:=by funext i;unfold updν;split<;>simp_all
     rw[hνe]at yO
     have akt: ∀(q':Nat×AM),q'∈io→q'.1≠q.1:=λq' oL e=>CF.1 (cV.2 ⟨q',oL,e⟩)
     obtain⟨ν',r1,r2,r3,r4,r5,r6⟩:=m5 (ms:=ms) (x:=uk x) (us:=us) (ps:=io.map λq=>ν q.1) (id:=id+1) (io:=io) (used:=used++(fv (ν q.1)).toList) yO h2 rfl aks CF.2
      (λq' oL=>by rw[az _ _ (akt q' oL)];exact zZ q' (aZ _ oL))
      (λi h3 h4=>by
       have:i≠q.1:=ω
       rw[az _ _ this]
       exact jv i ω (by simp only[aT];omega))
      (λi e b hi jt hb=>by
       by_cases ca:i=q.1
       ·subst ca;exact .inr (dB _ (by rw[hb];simp))
       ·rw[az _ _ ca]at hi
        exact(hold i e b hi jt hb).imp (λh=>h) (cU _))
      (by rw[bE];exact wU) (λb hb=>oO b (dB _ hb)) (λb hb=>kE b (dB _ hb))
      (λb hb hb0=>by
       obtain⟨p,hp,hpb⟩:=Gq b (dB _ hb) hb0
       rcases a8.1 hp with rfl|hp
       ·exact absurd (kk (pA.1 wU).2.1 (b:=b) (by rw[hpb];simp)) (by simpa using hb)
       ·exact⟨p,hp,hpb⟩) (λq' oL=>w6 q' (aZ _ oL))
     refine⟨ν',r1,r2,λi hi=> ?_,λi h3 h4=> ?_,λi h3 h4 e he=> ?_,λq' oL=> ?_⟩
     ·exact r3 i (by
       by_cases ca:i=q.1
       ·subst ca;rw[ay];simp
       ·rw[az _ _ ca];exact hi)
     ·simp only[keys,bQ,a8,not_or]at h3
      have:=r4 i h3.2 (by simp only[aT]at h4;omega)
      rw[az _ _ h3.1]at this
      exact this
     ·by_cases h5:id+1≤i
      ·exact r5 i h5 (by simp only[aT]at h4;omega) e he
      ·have ca:i=id:=ω
       subst ca
       by_cases hk:i∈keys io
       ·obtain⟨q',oL,Fy⟩:=cV.1 hk
        have h9:=zZ q' (aZ _ oL)
        rw[Fy,jv i (aH _) (by simp)]at h9
        cases h9
       ·have:=r4 i hk (.inl ω)
        have kq:i≠q.1:=ω
        rw[az _ _ kq,jv i (aH _) (by simp)]at this
        have he:c0 (cn H q.1 (some (br.obj τ (q3 x)))) (ir ms (uk x) (i+1) io).2.1 i=some e:=he
        rw[this]at he;cases he
     ·rcases a8.1 oL with rfl|oL
      ·have:=r4 q'.1 CF.1 ω
       rw[ay]at this
       exact .inl ⟨τ,q3 x,acn.symm,this⟩
      ·exact r6 q' oL
   |lo τ=>
    cases io with
    |nil=>simp at I2
    |cons q io=>
     simp only[bQ,fQ]at I2
     obtain⟨rfl,rfl⟩:=I2
     simp only[nu,bQ,fQ]at DQ
     obtain⟨acn,aks⟩:=DQ
     simp only[keys,bQ,AT]at CF
     have Yt:bI (.lo τ::ms) us (ν q.1::io.map λq=>ν q.1)=(fv (ν q.1)).toList++bI ms us (io.map λq=>ν q.1):=rfl
     rw[Yt]at wU oO kE Gq
     have wT:=zZ q bq
     have zr:q.1<id∨id+(ms.length+1)≤q.1:=by
      rcases nW q.1 id with h'|h'
      ·exact .inl h'
      ·rcases nW q.1 (id+(ms.length+1))with LD|LD
       ·rw[jv q.1 h' LD]at wT;cases wT
       ·exact .inr LD
     simp only[A1]at h1
     have o5: ∀b,fv (ν q.1)=some b→ ∀i e',H i=some e'→e'.mut→fv (ν i)≠some b:=by
      intro b hb i e' hi jt eX
      have ka:b∈(fv (ν q.1)).toList++bI ms us (io.map λq=>ν q.1):=cU _ (by rw[hb];simp)
      rcases hold i e' b hi jt eX with⟨h3,h4⟩|h3
      ·exact(oO b ka).elim (λh'=>ω) h4
      ·exact kk wU h3 ka
     have yO:=Mem.xM (c:=c) hm (id:=q.1) (v:=ν q.1) (e:= .own τ (q3 x)) (λe' uw=>by rw[wT]at uw;cases uw;simp[br.mut]) h1 o5 (λb hb=>kE b (cU _ (by rw[hb];simp))) (λb e0 l0 _ hb=>w6 q bq τ acn.symm b hb) (.inr rfl)
     have hνe:updν ν q.1 (ν q.1)=ν:=by funext i;unfold updν;split<;>simp_all
     rw[hνe]at yO
     have akt: ∀(q':Nat×AM),q'∈io→q'.1≠q.1:=λq' oL e=>CF.1 (cV.2 ⟨q',oL,e⟩)
     obtain⟨ν',r1,r2,r3,r4,r5,r6⟩:=m5 (ms:=ms) (x:=uk x) (us:=us) (ps:=io.map λq=>ν q.1) (id:=id+1) (io:=io) (used:=used++(fv (ν q.1)).toList) yO h2 rfl aks CF.2
      (λq' oL=>by rw[az _ _ (akt q' oL)];exact zZ q' (aZ _ oL))
      (λi h3 h4=>by
       have:i≠q.1:=ω
       rw[az _ _ this]
       exact jv i ω (by simp only[aT];omega))
      (λi e b hi jt hb=>by
       by_cases ca:i=q.1
       ·subst ca;exact .inr (dB _ (by rw[hb];simp))
       ·rw[az _ _ ca]at hi
        exact(hold i e b hi jt hb).imp (λh=>h) (cU _))
      (by rw[bE];exact wU) (λb hb=>oO b (dB _ hb)) (λb hb=>kE b (dB _ hb))
      (λb hb hb0=>by
       obtain⟨p,hp,hpb⟩:=Gq b (dB _ hb) hb0
       rcases a8.1 hp with rfl|hp
       ·exact absurd (kk (pA.1 wU).2.1 (b:=b) (by rw[hpb];simp)) (by simpa using hb)
       ·exact⟨p,hp,hpb⟩) (λq' oL=>w6 q' (aZ _ oL))
     refine⟨ν',r1,r2,λi hi=> ?_,λi h3 h4=> ?_,λi h3 h4 e he=> ?_,λq' oL=> ?_⟩
     ·exact r3 i (by
       by_cases ca:i=q.1
       ·subst ca;rw[ay];simp
       ·rw[az _ _ ca];exact hi)
     ·simp only[keys,bQ,a8,not_or]at h3
      have:=r4 i h3.2 (by simp only[aT]at h4;omega)
      rw[az _ _ h3.1]at this
      exact this
     ·by_cases h5:id+1≤i
      ·exact r5 i h5 (by simp only[aT]at h4;omega) e he
      ·have ca:i=id:=ω
       subst ca
       by_cases hk:i∈keys io
       ·obtain⟨q',oL,Fy⟩:=cV.1 hk
        have h9:=zZ q' (aZ _ oL)
        rw[Fy,jv i (aH _) (by simp)]at h9
        cases h9
       ·have:=r4 i hk (.inl ω)
        have kq:i≠q.1:=ω
        rw[az _ _ kq,jv i (aH _) (by simp)]at this
        have he:c0 (cn H q.1 (some (br.own τ (q3 x)))) (ir ms (uk x) (i+1) io).2.1 i=some e:=he
        rw[this]at he;cases he
     ·rcases a8.1 oL with rfl|oL
      ·have:=r4 q'.1 CF.1 ω
       rw[ay]at this
       exact .inr ⟨τ,q3 x,acn.symm,this⟩
      ·exact r6 q' oL
   |v τ=>simp[AM.iS]at GM
   |own τ=>simp[AM.iS]at GM
   |fn f τ=>simp[AM.iS]at GM
   |ptr τ=>simp[AM.iS]at GM
   |jE τ=>simp[AM.iS]at GM
   |sp _ _ _=>simp[AM.iS]at GM
  ·
   have Bs:H id=none:=jv id (aH _) (by simp)
   cases m with
   |io τ=>simp[AM.iS]at GM
   |lo τ=>simp[AM.iS]at GM
   |fn f τ=>simp[AM.acj]at hmf
   |jE τ=>simp[AM.acj]at hmf
   |v τ=>
    have Yt:bI (.v τ::ms) (v::EU) ps=bI ms EU ps:=rfl
    rw[Yt]at wU oO kE Gq
    simp only[A1]at h1
    obtain⟨ν',r1,r2,r3,r4,r5,r6⟩:=m5 (ms:=ms) (x:=uk x) (us:=EU) (ps:=ps) (id:=id+1) (io:=io) (used:=used) hm h2 I2 (by simpa [nu]using DQ) CF zZ (λi h3 h4=>jv i ω (by simp only[aT];omega)) hold wU oO kE Gq w6
    refine⟨ν',r1,?_,r3,λi h3 h4=>r4 i h3 (by simp only[aT]at h4;omega),λi h3 h4 e he=> ?_,r6⟩
    ·simp only[xu,jO,VR];exact⟨h1,r2⟩
    ·by_cases h5:id+1≤i
     ·exact r5 i h5 (by simp only[aT]at h4;omega) e he
     ·have ca:i=id:=ω
      subst ca
      by_cases hk:i∈keys io
      ·obtain⟨q',oL,Fy⟩:=cV.1 hk
       have h9:=zZ q' oL
       rw[Fy,Bs]at h9;cases h9
      ·have:=r4 i hk (.inl ω)
       rw[Bs]at this
       have he:c0 H (ir ms (uk x) (i+1) io).2.1 i=some e:=he
       rw[this]at he;cases he
   |own τ=>
    have Yt:bI (.own τ::ms) (v::EU) ps=(fv v).toList++bI ms EU ps:=rfl
    rw[Yt]at wU oO kE Gq
    simp only[A1]at h1
    have o5: ∀b,fv v=some b→ ∀i e',H i=some e'→e'.mut→fv (ν i)≠some b:=by
     intro b hb i e' hi jt eX
     have ka:b∈(fv v).toList++bI ms EU ps:=cU _ (by rw[hb];simp)
     rcases hold i e' b hi jt eX with⟨h3,h4⟩|h3
     ·exact(oO b ka).elim (λh'=>ω) h4
     ·exact kk wU h3 ka
    have Yu: ∀b,fv v=some b→ ¬c.M0 b:=by
     intro b hb h0
     have ka:b∈(fv v).toList:=by rw[hb];simp
     obtain⟨p,hp,hpb⟩:=Gq b (cU _ ka) h0
     exact kk (pA.1 wU).2.1 ka (RR.GK h2 p hp b hpb)
    have yO:=Mem.xM (c:=c) hm (id:=id) (v:=v) (e:= .own τ (q3 x)) (λe' uw=>by rw[Bs]at uw;cases uw) h1 o5 (λb hb=>kE b (cU _ (by rw[hb];simp))) (λb e0 l0 _ hb=>Yu b hb) (.inl Bs)
    have zr: ∀q∈io,q.1≠id:=λq hq e=>by
     have h9:=zZ q hq
     rw[e,Bs]at h9;cases h9
    have hν2: ∀i,i≠id→updν ν id v i=ν i:=λi hi=>by simp[updν,hi]
    obtain⟨ν',r1,r2,r3,r4,r5,r6⟩:=m5 (ms:=ms) (x:=uk x) (us:=EU) (ps:=ps) (id:=id+1) (io:=io) (used:=used++(fv v).toList) yO h2
     (by rw[I2];exact pP λq hq=>(hν2 _ (zr q hq)).symm) (by simpa [nu]using DQ) CF
     (λq hq=>by rw[az _ _ (zr q hq)];exact zZ q hq)
     (λi h3 h4=>by rw[az _ _ ω];exact jv i ω (by simp only[aT];omega))
     (λi e b hi jt hb=>by
      by_cases ca:i=id
      ·subst ca
       have:updν ν i v i=v:=by simp[updν]
       rw[this]at hb
       exact .inr (dB _ (by rw[hb];simp))
      ·rw[az _ _ ca]at hi
       rw[hν2 i ca]at hb
       exact(hold i e b hi jt hb).imp (λh=>h) (cU _))
     (by rw[bE];exact wU) (λb hb=>oO b (dB _ hb)) (λb hb=>kE b (dB _ hb)) (λb hb=>Gq b (dB _ hb)) (λq hq e he b hb=>w6 q hq e he b (by rw[hν2 _ (zr q hq)]at hb;exact hb))
    have Yv:id∉keys io:=λhk=>by
     obtain⟨q,hq,Fy⟩:=cV.1 hk
     exact zr q hq Fy
    have pE:c0 (cn H id (some (.own τ (q3 x)))) (ir ms (uk x) (id+1) io).2.1 id=some (.own τ (q3 x)):=by
     rw[r4 id Yv (.inl ω),ay]
    refine⟨ν',r1,?_,λi hi=> ?_,λi h3 h4=> ?_,λi h3 h4 e he=> ?_,r6⟩
    ·simp only[xu,jO,VR]
     refine⟨⟨?_,?_⟩,r2⟩
     ·show c0 (cn H id (some (.own τ (q3 x)))) (ir ms (uk x) (id+1) io).2.1 id≠none
      rw[pE];simp
     ·rw[r3 id (by rw[ay];simp)];simp[updν]
    ·have ca:i≠id:=λe=>hi (e▸Bs)
     rw[r3 i (by rw[az _ _ ca];exact hi),hν2 i ca]
    ·have ca:i≠id:=by simp only[aT]at h4;omega
     have:=r4 i h3 (by simp only[aT]at h4;omega)
     rw[az _ _ ca]at this
     exact this
    ·by_cases h5:id+1≤i
     ·exact r5 i h5 (by simp only[aT]at h4;omega) e he
     ·have ca:i=id:=ω
      subst ca
      have he:c0 (cn H i (some (.own τ (q3 x)))) (ir ms (uk x) (i+1) io).2.1 i=some e:=he
      rw[pE]at he;cases he
      exact .inl ⟨τ,_,rfl⟩
   |sp τ n e=>
    simp only[A1]at h1
    obtain⟨cs,kb,u,l,z,hv,hq,Yi,uj,hu,so⟩:=h1
    obtain⟨x1,RY,_,avx,hz⟩:=Gx so
    cases RY
    obtain⟨z0,zC,FA⟩:=hz []
    have hrz:Rd w M τ (eM kb (gA τ n) [.slice none 0 0]) z0:=by
     obtain⟨υ,y,o,k',hf,ui,T7⟩:=kZ (FA _ some)
     obtain⟨rfl,rfl⟩:=hf.eq
     obtain⟨e1,DT⟩:=bx ui
     obtain⟨x',oW,_,kB⟩:=T7 _ _ DT
     cases oW
     refine kB w M kb _ Yi ?_
     have VJ:Rd w M (.slice e) [.slice none 0 0] []:=by
      simp only[Rd]
      exact⟨none,0,rfl,aH _,λi hi=>by simp at hi⟩
     exact VJ.ao2 _
    have Vv:xu (.sp τ n e) (q3 x) id=(.Ja τ z0 n id,[(id,some (.own e l))]):=by
     simp only[xu]
     rw[avx,zC]
    show ∃ν',Mem c (c0 H ((xu (.sp τ n e) (q3 x) id).2++(ir ms (uk x) (id+1) io).2.1)) w M ν'∧jO w M (c0 H ((xu (.sp τ n e) (q3 x) id).2++(ir ms (uk x) (id+1) io).2.1)) ν' ((xu (.sp τ n e) (q3 x) id).1::(ir ms (uk x) (id+1) io).1) (v::EU)∧(∀i,H i≠none→ν' i=ν i)∧
     (∀i,i∉keys io→(i<id∨id+(AM.sp τ n e::ms).length≤i)→c0 H ((xu (.sp τ n e) (q3 x) id).2++(ir ms (uk x) (id+1) io).2.1) i=H i)∧(∀i,id≤i→i<id+(AM.sp τ n e::ms).length→ ∀e9,c0 H ((xu (.sp τ n e) (q3 x) id).2++(ir ms (uk x) (id+1) io).2.1) i=some e9→(∃e0 l0,e9= .own e0 l0)∨ ∃τ0 z0,e9= .obj τ0 z0)∧
     (∀q∈io,IoE (c0 H ((xu (.sp τ n e) (q3 x) id).2++(ir ms (uk x) (id+1) io).2.1)) q)
    rw[Vv]
    have Yt:bI (.sp τ n e::ms) (v::EU) ps=(fv u).toList++bI ms EU ps:=by
     show dw (.sp τ n e) v++bI ms EU ps=_
     rw[hv,(yR hq Yi uj).1]
    rw[Yt]at wU oO kE Gq
    have o5: ∀b,fv u=some b→ ∀i e',H i=some e'→e'.mut→fv (ν i)≠some b:=by
     intro b hb i e' hi jt eX
     have ka:b∈(fv u).toList++bI ms EU ps:=cU _ (by rw[hb];simp)
     rcases hold i e' b hi jt eX with⟨h3,h4⟩|h3
     ·exact(oO b ka).elim (λh'=>ω) h4
     ·exact kk wU h3 ka
    have Yu: ∀b,fv u=some b→ ¬c.M0 b:=by
     intro b hb h0
     have ka:b∈(fv u).toList:=by rw[hb];simp
     obtain⟨p,hp,hpb⟩:=Gq b (cU _ ka) h0
     exact kk (pA.1 wU).2.1 ka (RR.GK h2 p hp b hpb)
    have yO:=Mem.xM (c:=c) hm (id:=id) (v:=u) (e:= .own e l) (λe' uw=>by rw[Bs]at uw;cases uw) hu o5 (λb hb=>kE b (cU _ (by rw[hb];simp))) (λb e0 l0 _ hb=>Yu b hb) (.inl Bs)
    have zr: ∀q∈io,q.1≠id:=λq hq e=>by
     have h9:=zZ q hq
     rw[e,Bs]at h9;cases h9
    have hν2: ∀i,i≠id→updν ν id u i=ν i:=λi hi=>by simp[updν,hi]
    obtain⟨ν',r1,r2,r3,r4,r5,r6⟩:=m5 (ms:=ms) (x:=uk x) (us:=EU) (ps:=ps) (id:=id+1) (io:=io) (used:=used++(fv u).toList) yO h2
     (by rw[I2];exact pP λq hq=>(hν2 _ (zr q hq)).symm) (by simpa [nu]using DQ) CF
     (λq hq=>by rw[az _ _ (zr q hq)];exact zZ q hq)
     (λi h3 h4=>by rw[az _ _ ω];exact jv i ω (by simp only[aT];omega))
     (λi e9 b hi jt hb=>by
      by_cases ca:i=id
      ·subst ca
       have:updν ν i u i=u:=by simp[updν]
       rw[this]at hb
       exact .inr (dB _ (by rw[hb];simp))
      ·rw[az _ _ ca]at hi
       rw[hν2 i ca]at hb
       exact(hold i e9 b hi jt hb).imp (λh=>h) (cU _))
     (by rw[bE];exact wU) (λb hb=>oO b (dB _ hb)) (λb hb=>kE b (dB _ hb)) (λb hb=>Gq b (dB _ hb)) (λq hq e he b hb=>w6 q hq e he b (by rw[hν2 _ (zr q hq)]at hb;exact hb))
    have Yv:id∉keys io:=λhk=>by
     obtain⟨q,hq,Fy⟩:=cV.1 hk
     exact zr q hq Fy
    have pE:c0 (cn H id (some (.own e l))) (ir ms (uk x) (id+1) io).2.1 id=some (.own e l):=by
     rw[r4 id Yv (.inl ω),ay]
    refine⟨ν',r1,?_,λi hi=> ?_,λi h3 h4=> ?_,λi h3 h4 e9 he=> ?_,r6⟩
    ·simp only[jO,VR]
     refine⟨⟨cs,eM kb (gA τ n) [.slice none 0 0],hv,hrz,?_,?_,hq⟩,r2⟩
     ·rw[r3 id (by rw[ay];simp),uR (yR (e:=e) hq Yi uj).2,uj];simp[updν]
     ·show c0 (cn H id (some (.own e l))) (ir ms (uk x) (id+1) io).2.1 id≠none
      rw[pE];simp
    ·have ca:i≠id:=λe=>hi (e▸Bs)
     rw[r3 i (by rw[az _ _ ca];exact hi),hν2 i ca]
    ·have ca:i≠id:=by simp only[aT]at h4;omega
     have:=r4 i h3 (by simp only[aT]at h4;omega)
     rw[az _ _ ca]at this
     exact this
    ·by_cases h5:id+1≤i
     ·exact r5 i h5 (by simp only[aT]at h4;omega) e9 he
     ·have ca:i=id:=ω
      subst ca
      have he:c0 (cn H i (some (.own e l))) (ir ms (uk x) (i+1) io).2.1 i=some e9:=he
      rw[pE]at he;cases he
      exact .inl ⟨e,_,rfl⟩
   |ptr τ=>
    have Yt:bI (.ptr τ::ms) (v::EU) ps=(fv v).toList++bI ms EU ps:=rfl
    rw[Yt]at wU oO kE Gq
    simp only[A1]at h1
    have o5: ∀b,fv v=some b→ ∀i e',H i=some e'→e'.mut→fv (ν i)≠some b:=by
     intro b hb i e' hi jt eX
     have ka:b∈(fv v).toList++bI ms EU ps:=cU _ (by rw[hb];simp)
     rcases hold i e' b hi jt eX with⟨h3,h4⟩|h3
     ·exact(oO b ka).elim (λh'=>ω) h4
     ·exact kk wU h3 ka
    have yO:=Mem.xM (c:=c) hm (id:=id) (v:=v) (e:= .obj τ (q3 x)) (λe' uw=>by rw[Bs]at uw;cases uw) h1 o5 (λb hb=>kE b (cU _ (by rw[hb];simp))) (λb e0 l0 he _=>by cases he) (.inl Bs)
    have zr: ∀q∈io,q.1≠id:=λq hq e=>by
     have h9:=zZ q hq
     rw[e,Bs]at h9;cases h9
    have hν2: ∀i,i≠id→updν ν id v i=ν i:=λi hi=>by simp[updν,hi]
    obtain⟨ν',r1,r2,r3,r4,r5,r6⟩:=m5 (ms:=ms) (x:=uk x) (us:=EU) (ps:=ps) (id:=id+1) (io:=io) (used:=used++(fv v).toList) yO h2
     (by rw[I2];exact pP λq hq=>(hν2 _ (zr q hq)).symm) (by simpa [nu]using DQ) CF
     (λq hq=>by rw[az _ _ (zr q hq)];exact zZ q hq)
     (λi h3 h4=>by rw[az _ _ ω];exact jv i ω (by simp only[aT];omega))
     (λi e b hi jt hb=>by
      by_cases ca:i=id
      ·subst ca
       have:updν ν i v i=v:=by simp[updν]
       rw[this]at hb
       exact .inr (dB _ (by rw[hb];simp))
      ·rw[az _ _ ca]at hi
       rw[hν2 i ca]at hb
       exact(hold i e b hi jt hb).imp (λh=>h) (cU _))
     (by rw[bE];exact wU) (λb hb=>oO b (dB _ hb)) (λb hb=>kE b (dB _ hb)) (λb hb=>Gq b (dB _ hb)) (λq hq e he b hb=>w6 q hq e he b (by rw[hν2 _ (zr q hq)]at hb;exact hb))
    have Yv:id∉keys io:=λhk=>by
     obtain⟨q,hq,Fy⟩:=cV.1 hk
     exact zr q hq Fy
    have pE:c0 (cn H id (some (.obj τ (q3 x)))) (ir ms (uk x) (id+1) io).2.1 id=some (.obj τ (q3 x)):=by
     rw[r4 id Yv (.inl ω),ay]
    refine⟨ν',r1,?_,λi hi=> ?_,λi h3 h4=> ?_,λi h3 h4 e he=> ?_,r6⟩
    ·simp only[xu,jO,VR]
     refine⟨⟨_,pE,trivial,?_⟩,r2⟩
     simp only[A1,ER]at h1
     obtain⟨b,cs,t,Ys,_⟩:=h1
     exact⟨b,by rw[r3 id (by rw[ay];simp)];simp[updν,Ys],Ys⟩
    ·have ca:i≠id:=λe=>hi (e▸Bs)
     rw[r3 i (by rw[az _ _ ca];exact hi),hν2 i ca]
    ·have ca:i≠id:=by simp only[aT]at h4;omega
     have:=r4 i h3 (by simp only[aT]at h4;omega)
     rw[az _ _ ca]at this
     exact this
    ·by_cases h5:id+1≤i
     ·exact r5 i h5 (by simp only[aT]at h4;omega) e he
     ·have ca:i=id:=ω
      subst ca
      have he:c0 (cn H i (some (.obj τ (q3 x)))) (ir ms (uk x) (i+1) io).2.1 i=some e:=he
      rw[pE]at he;cases he
      exact .inr ⟨τ,_,rfl⟩
end VM
end
