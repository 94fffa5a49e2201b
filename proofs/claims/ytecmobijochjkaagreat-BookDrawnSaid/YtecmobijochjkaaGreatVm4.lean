/- A part of the proof of BookDrawn of layer 18: a machine that reads a function of the program as an equation between values. -/
import Derived.Test.YtecmobijochjkaaGreatVm3
set_option linter.all false
section
namespace VM
open Go
variable{P:Program}{E:Env}{o:Oper}{a:Act}{w:World}{M:Nat→Prop}{ν:Nat→Value}{σ:St}{c:Ctx}{α:Type}{r:α}{next:Act→World→Prop}{Q:Exit→Act→World→Prop}
def rq:{m:AM}→{ms:List AM}→HP (m::ms)→m.den
 |_,[],x=>x
 |_,_::_,x=>x.1
def ux:{m:AM}→{ms:List AM}→HP (m::ms)→HP ms
 |_,[],_=>()
 |_,_::_,x=>x.2
def AM.iV:AM→Bool
 | .io _| .lo _=>true
 |_=>false
def AM.acu:AM→Bool
 | .fn _ _| .jH _=>true
 |_=>false
def A1(w:World)(M:Nat→Prop):(m:AM)→m.den→Value→Prop
 | .v τ,x,v=>V w M τ v x
 | .own e,x,v=>ER w M v (.own e x)
 | .io τ,x,v=>ER w M v (.obj τ x)
 | .fn f τ,x,v=>VR w M (λ_=>none) (λ_=>undef) (.NZ f (q4 τ x)) v
 | .ptr τ,x,v=>ER w M v (.obj τ x)
 | .jH τ,x,v=>VR w M (λ_=>none) (λ_=>undef) (.su τ x) v
 | .lo e,x,v=>ER w M v (.own e x)
 | .sp τ n e,x,v=> ∃(cs:Array Value) (ki:List Value) (u:Value) (l:List e.den) (z:τ.den),v= .agg cs∧vH τ n=true∧Rd w M τ ki z∧cs.toList=eJ ki (gE τ n) [u]∧ER w M u (.own e l)∧
  fV τ z n (fun υ' _ k'=>cP (.slice e) υ' l k') some=some x
def apD(n:Nat):Value→Option Value
 | .agg cs=>cs.toList[n]?
 |_=>none
def kF(w:World)(M:Nat→Prop):(ms:List AM)→HP ms→List Value→Prop
 |[],_,vs=>vs=[]
 |_::ms,x,vs=> ∃v Nt,vs=v::Nt∧A1 w M _ (rq x) v∧kF w M ms (ux x) Nt
def dz:AM→Value→List Nat
 | .own _,v| .io _,v| .ptr _,v| .lo _,v=>(fx v).toList
 | .sp τ n _,v=>((apD (gE τ n) v).bind fx).toList
 |_,_=>[]
theorem y6{τ:Ty}{n:Nat}{e:Ty}{cs:Array Value}{ki:List Value}{u:Value}{z:τ.den}(hq:vH τ n=true)(hr:Rd w M τ ki z)(uw:cs.toList=eJ ki (gE τ n) [u]):dz (.sp τ n e) (.agg cs)=(fx u).toList∧gE τ n<ki.length:=by
 obtain⟨e',_,hf⟩:=z7 hq
 obtain⟨y,o,FB⟩:=og hf z
 have hb:=FB.bound
 have ho:=FB.eq.2
 subst ho
 rw[show(Ty.slice e').size=1 from rfl]at hb
 have hl:=hr.length
 have eV:gE τ n<ki.length:=ω
 refine⟨?_,eV⟩
 show((cs.toList[gE τ n]?).bind fx).toList=_
 rw[uw,yW eV];rfl
def eA:List AM→List Value→List Nat
 |m::ms,v::vs=>dz m v++eA ms vs
 |_,_=>[]
def fN:List AM→List Value→List Value
 |m::ms,v::vs=>if m.iV then v::fN ms vs else fN ms vs
 |_,_=>[]
def nE:List AM→List AM
 | .io τ::ms=> .io τ::nE ms
 | .lo e::ms=> .lo e::nE ms
 |_::ms=>nE ms
 |[]=>[]
def RR(w:World)(M:Nat→Prop):(ms:List AM)→HP ms→List Value→List Value→Prop
 |[],_,vs,ps=>vs=[]∧ps=[]
 |m::ms,x,vs,ps=>(∃p Jh,m.iV=true∧ps=p::Jh∧A1 w M m (rq x) p∧RR w M ms (ux x) vs Jh)∨
  (∃v Nt,m.iV=false∧m.acu=false∧vs=v::Nt∧A1 w M m (rq x) v∧RR w M ms (ux x) Nt ps)
def bI:List AM→List Value→List Value→List Nat
 |[],_,_=>[]
 |m::ms,vs,ps=>if m.iV then dz m (ps.headD undef)++bI ms vs ps.tail else dz m (vs.headD undef)++bI ms vs.tail ps
def Ty.flat:Ty→Bool
 | .slice _=>false
 | .pair a b=>a.flat&&b.flat
 | .arr _ e=>e.flat
 |_=>true
def AM.flat:AM→Bool
 | .v τ| .io τ| .own τ| .ptr τ| .lo τ=>τ.flat
 | .fn _ _| .jH _| .sp _ _ _=>false
def xS(vs:List Value):Value:=if h:vs.length=1 then vs[0]else .tuple vs.toArray
structure Left(w:World)(M0:Nat→Prop)(hs:List Nat)(w':World)(M':Nat→Prop):Prop where
 sub: ∀b,M0 b→M' b
 Gy: ∀b,M' b→b<w'.heap.size
 less: ∀b,b<w.heap.size→M' b→M0 b∨b∈hs
 frame: ∀b,b<w.heap.size→b∉hs→w'.heap[b]? =w.heap[b]?
 size:w.heap.size≤w'.heap.size
 os:w'.os=w.os
 tape:w'.tape=w.tape
 output:w'.output=w.output
def Oo(P:Program)(f:FuncId)(args:Array Value)(w:World)(R:Value→World→Prop):Prop:=
 ∀(o:Oper) (a:Act) (next:Act→World→Prop) (Q:Exit→Act→World→Prop),(∀v w',R v w'→next (a.put o.dst v) w')→o.upon P a next Q ((callFunc f args).run P w)
theorem Oo.mono{f:FuncId}{args:Array Value}{R R':Value→World→Prop}(h:Oo P f args w R)(hr: ∀v w',R v w'→R' v w'):Oo P f args w R':=
 λo a next Q hn=>h o a next Q λv w' hv=>hn v w' (hr v w' hv)
theorem uy{f:FuncId}{fn:Func}{args:Array Value}{R:Value→World→Prop}(hf:P.funcs[f]? =some fn)(hn:(fn.name== "runtime.NumGoroutine")=false)(hb:fn.body.isNone=false)
  (h:Calls P f args w λe w'=> ∃v,e= .returned v∧R v w'):Oo P f args w R:=by
 intro o a next Q wP
 have hn': ¬fn.name= "runtime.NumGoroutine" :=by simpa using hn
 have eY: ¬fn.body=none:=λe=>by rw[e]at hb;cases hb
 have:(callFunc f args).run P w= .ok (.enter f args) w:=by simp[callFunc,hf,hn',eY]
 rw[this,Oper.upon_enter]
 refine Calls.mono h ?_
 rintro e w' ⟨v,rfl,hR⟩
 exact wP v w' hR
theorem JA{f:FuncId}{args:Array Value}{R:Value→World→Prop}{v:Value}{w':World}(h:(callFunc f args).run P w= .ok (.value v) w')(hR:R v w'):Oo P f args w R:=by
 intro o a next Q wP
 rw[h,Oper.upon_value]
 exact wP v w' hR
structure jw(P:Program)(f:FuncId)(S:nc):Prop where
 quiet:S.quiet=true→S.res.all AM.flat=true
 ios:nE S.args=nE S.res
 call: ∀(M0:Nat→Prop) (w:World) (vs:List Value) (x:HP S.args) (y:HP S.res),(∀b,M0 b→b<w.heap.size)→
  kF w (λb=>M0 b∨b∈eA S.args vs) S.args x vs→(eA S.args vs).Nodup→(∀b∈eA S.args vs,¬M0 b)→S.run x=some y→
  Oo P f vs.toArray w λv w'=> ∃us M',v=xS us∧RR w' M' S.res y us (fN S.args vs)∧Left w M0 (eA S.args vs) w' M'∧
   (bI S.res us (fN S.args vs)).Nodup∧ ∀b∈bI S.res us (fN S.args vs),¬M0 b
theorem Rd.flat{w:World}{M M':Nat→Prop}: ∀{τ:Ty} {cs:List Value} {x:τ.den},τ.flat=true→Rd w M τ cs x→Rd w M' τ cs x
 | .int _,_,_,_,h| .bool,_,_,_,h| .str,_,_,_,h| .unit,_,_,_,h=>h
 | .slice _,_,_,hf,_=>by simp[Ty.flat]at hf
 | .pair a b,_,_,hf,h=>by
  simp only[Ty.flat,bP]at hf
  simp only[Rd]at h ⊢
  obtain⟨c1,c2,rfl,h1,h2⟩:=h
  exact⟨c1,c2,rfl,h1.flat hf.1,h2.flat hf.2⟩
 | .arr n e,_,x,hf,h=>by
  simp only[Ty.flat]at hf
  simp only[Rd]at h ⊢
  obtain⟨hn,Vu,hc,rfl,hr⟩:=h
  exact⟨hn,Vu,hc,rfl,λi hi oe=>(hr i hi oe).flat hf⟩
theorem A1.flat{w:World}{M M':Nat→Prop}(hM: ∀b,M b→M' b){m:AM}{x:m.den}{v:Value}(hf:m.flat=true)(h:A1 w M m x v):A1 w M' m x v:=by
 cases m with
 |v τ=>
  simp only[A1,V,AM.flat]at h hf ⊢
  split
  ·rename_i ha;rw[ak ha]at h;obtain⟨cs,h1,h⟩:=h;exact⟨cs,h1,h.flat hf⟩
  ·rename_i ha;rw[ah ha]at h;exact h.flat hf
 |own e=>
  simp only[A1,ER,AM.flat]at h hf ⊢
  rcases h with h|⟨b,cs,t,cap,h1,h2,h3,h4,h5,h6,h7,h8⟩
  ·exact .inl h
  ·exact .inr ⟨b,cs,t,cap,h1,h2,hM b h3,h4,h5,h6,h7,λi hi=>(h8 i hi).flat hf⟩
 |io τ=>
  simp only[A1,ER,AM.flat]at h hf ⊢
  obtain⟨b,cs,t,h1,h2,h3,h4⟩:=h
  exact⟨b,cs,t,h1,h2,hM b h3,h4.flat hf⟩
 |fn f τ=>simp[AM.flat]at hf
 |jH τ=>simp[AM.flat]at hf
 |sp τ n e=>simp[AM.flat]at hf
 |lo e=>
  simp only[A1,ER,AM.flat]at h hf ⊢
  rcases h with h|⟨b,cs,t,cap,h1,h2,h3,h4,h5,h6,h7,h8⟩
  ·exact .inl h
  ·exact .inr ⟨b,cs,t,cap,h1,h2,hM b h3,h4,h5,h6,h7,λi hi=>(h8 i hi).flat hf⟩
 |ptr τ=>
  simp only[A1,ER,AM.flat]at h hf ⊢
  obtain⟨b,cs,t,h1,h2,h3,h4⟩:=h
  exact⟨b,cs,t,h1,h2,hM b h3,h4.flat hf⟩
theorem RR.flat{w:World}{M M':Nat→Prop}(hM: ∀b,M b→M' b): ∀{ms:List AM} {x:HP ms} {vs ps:List Value},ms.all AM.flat=true→RR w M ms x vs ps→RR w M' ms x vs ps
 |[],_,_,_,_,h=>h
 |m::ms,x,vs,ps,hf,h=>by
  simp only[xv,bP]at hf
  simp only[RR]at h ⊢
  rcases h with⟨p,Jh,h1,h2,h3,h4⟩|⟨v,Nt,h1,h2,h3,h4,h5⟩
  ·exact .inl ⟨p,Jh,h1,h2,h3.flat hM hf.1,RR.flat hM hf.2 h4⟩
  ·exact .inr ⟨v,Nt,h1,h2,h3,h4.flat hM hf.1,RR.flat hM hf.2 h5⟩
theorem A1.xT{w w':World}{M M':Nat→Prop}(k:fK w M w' M'){m:AM}{x:m.den}{v:Value}(hm: ∀b∈dz m v,w'.heap[b]? =w.heap[b]? ∧M' b)(h:A1 w M m x v):A1 w' M' m x v:=by
 cases m with
 |v τ=>exact V.cg k h
 |own e=>
  simp only[A1]at h ⊢
  exact ER.cg k (λ_ b hb=>hm b (by simp[dz,hb])) h
 |io τ=>
  simp only[A1]at h ⊢
  exact ER.cg k (λ_ b hb=>hm b (by simp[dz,hb])) h
 |fn f τ=>exact VR.cg k (.refl _ _) h
 |jH τ=>exact VR.cg k (.refl _ _) h
 |sp τ n e=>
  simp only[A1]at h ⊢
  obtain⟨cs,ki,u,l,z,rfl,hq,hr,uw,hu,hs⟩:=h
  exact⟨cs,ki,u,l,z,rfl,hq,hr.cg k,uw,ER.cg k (λ_ b hb=>hm b (by rw[(y6 hq hr uw).1];simp[hb])) hu,hs⟩
 |lo e=>
  simp only[A1]at h ⊢
  exact ER.cg k (λ_ b hb=>hm b (by simp[dz,hb])) h
 |ptr τ=>
  simp only[A1]at h ⊢
  exact ER.cg k (λ_ b hb=>hm b (by simp[dz,hb])) h
theorem kF.xT{w w':World}{M M':Nat→Prop}(k:fK w M w' M'): ∀{ms:List AM} {x:HP ms} {vs:List Value},(∀b∈eA ms vs,w'.heap[b]? =w.heap[b]? ∧M' b)→kF w M ms x vs→kF w' M' ms x vs
 |[],_,_,_,h=>h
 |m::ms,x,vs,hm,h=>by
  simp only[kF]at h ⊢
  obtain⟨v,Nt,rfl,h1,h2⟩:=h
  exact⟨v,Nt,rfl,h1.xT k (λb hb=>hm b (by simp[eA,hb])),kF.xT k (λb hb=>hm b (by simp[eA,hb])) h2⟩
theorem RR.xT{w w':World}{M M':Nat→Prop}(k:fK w M w' M'): ∀{ms:List AM} {x:HP ms} {us ps:List Value},(∀b∈bI ms us ps,w'.heap[b]? =w.heap[b]? ∧M' b)→RR w M ms x us ps→RR w' M' ms x us ps
 |[],_,_,_,_,h=>h
 |m::ms,x,us,ps,hm,h=>by
  simp only[RR]at h ⊢
  rcases h with⟨p,Jh,h1,rfl,h2,h3⟩|⟨v,EX,h1,h2,rfl,h3,h4⟩
  ·simp only[bI,h1,g9,uM,uP,bn]at hm
   exact .inl ⟨p,Jh,h1,rfl,h2.xT k (λb hb=>hm b (.inl hb)),RR.xT k (λb hb=>hm b (.inr hb)) h3⟩
  ·simp only[bI,h1,jO,fE,uM,uP,bn]at hm
   exact .inr ⟨v,EX,h1,h2,rfl,h3.xT k (λb hb=>hm b (.inl hb)),RR.xT k (λb hb=>hm b (.inr hb)) h4⟩
theorem FD{H:Nat→Option br}(hm:Mem c H w M ν){a:bE}{v:Value}(hv:VR w M H ν a v){τ:Ty}{k:τ.den→List Nat→jI→Option α}{r:α}(h:m9 true a H τ k=some r):
  ∃y rd ups,k y rd ups=some r∧((ups=[]∧V w M τ v y)∨ ∃id e l,ups=[(id,some (.pM e l))]∧H id=some (.own e l)∧
   ∀M',(∀b,M' b↔(M b∧fx (ν id)≠some b))→V w M' τ v y):=by
 unfold m9 at h
 split at h
 ·obtain⟨e,h⟩:=bz h
  subst e
  simp only[VR]at hv
  exact⟨_,[],[],h,.inl ⟨rfl,hv⟩⟩
 ·obtain⟨e,h⟩:=bz h
  subst e
  simp only[VR]at hv
  exact⟨_,[],[],h,.inl ⟨rfl,hv.1⟩⟩
 ·split at h
  ·rename_i e k' _
   simp only[VR]at hv
   obtain⟨a,rfl⟩:=hv
   refine⟨[],[],[],h,.inl ⟨rfl,V.slice.2 ?_⟩⟩
   simp only[Rd]
   exact⟨a,0,rfl,aH _,λi hi=>absurd hi (by simp)⟩
  ·cases h
 ·rename_i id
  simp only[VR]at hv
  obtain⟨_,rfl⟩:=hv
  split at h
  ·rename_i e l bk
   obtain⟨e',h⟩:=bz h
   subst e'
   refine⟨_,_,_,h,.inr ⟨id,e,l,rfl,bk,λM' hM'=> ?_⟩⟩
   obtain⟨M2,_,hV,LF⟩:=Tr.freeze hm bk
   have:M'=M2:=by funext b;exact propext ((hM' b).trans (LF b).symm)
   rw[this];exact hV
  ·rename_i e l bk
   obtain⟨e',h⟩:=bz h
   subst e'
   have:=hm.ke id _ bk
   simp only[ER]at this
   exact⟨_,_,_,h,.inl ⟨rfl,V.slice.2 this.1⟩⟩
  ·cases h
 ·cases h
theorem YC{H:Nat→Option br}(hm:Mem c H w M ν): ∀{a:Ty} {x:bE} {v:Value} {k:a.den→List Nat→jI→Option α} {r:α},VR w M H ν x v→DJ x H a k=some r→
  ∃y rd ups,k y rd ups=some r∧(ups=[]→VR w M (λ_=>none) (λ_=>undef) (DK a y) v):=by
 intro a x v k r hv h
 unfold DJ at h
 split at h
 ·rename_i a k
  split at h
  ·rename_i υ z
   obtain⟨e1,h⟩:=bz h
   subst e1
   refine⟨_,_,_,h,λ_=> ?_⟩
   simp only[DK,VR]at hv ⊢
   exact hv
  ·cases h
 ·rename_i k0 rm
  obtain⟨y,rd,ups,h,hy⟩:=FD hm hv h
  refine⟨y,rd,ups,h,λhu=> ?_⟩
  rcases hy with⟨_,hy⟩|⟨_,_,_,h3,_⟩
  ·have:DK _ y= .val _ y:=by
    unfold DK
    split
    ·exact(rm _ _ rfl HEq.rfl).elim
    ·rfl
   rw[this]
   simp only[VR];exact hy
  ·rw[hu]at h3;cases h3
theorem GV{H:Nat→Option br}(hm:Mem c H w M ν): ∀{τ:Ty} {rj:List bE} {vs:List Value} {k:τ.den→List Nat→jI→Option α} {r:α},jQ w M H ν rj vs→sx H τ rj k=some r→
  ∃x rd ups,k x rd ups=some r∧(ups=[]→jQ w M (λ_=>none) (λ_=>undef) (q4 τ x) vs)
 | .unit,[],[],k,r,_,h=>⟨(),[],[],h,λ_=>by simp[q4,jQ]⟩
 | .pair a b,x::xs,v::vs,k,r,hv,h=>by
  simp only[jQ]at hv
  unfold sx at h
  obtain⟨y,rd,ups,h,hy⟩:=YC hm hv.1 h
  obtain⟨ys,yU,kP,h,hys⟩:=GV hm hv.2 h
  refine⟨(y,ys),_,_,h,λhu=> ?_⟩
  have h1:ups=[]:=(NR.1 hu).1
  have h2:kP=[]:=(NR.1 hu).2
  simp only[q4,jQ]
  exact⟨hy h1,hys h2⟩
 | .unit,[],_::_,_,_,hv,_=>by simp[jQ]at hv
 |_,_::_,[],_,_,hv,_=>by simp[jQ]at hv
 | .unit,_::_,_,_,_,_,h=>by simp[sx]at h
 | .pair _ _,[],_,_,_,_,h=>by simp[sx]at h
 | .int _,_,_,_,_,_,h| .bool,_,_,_,_,_,h| .str,_,_,_,_,_,h| .slice _,_,_,_,_,_,h| .arr _ _,_,_,_,_,_,h=>by simp[sx]at h
end VM
end
section
namespace VM
open Go
variable{P:Program}{E:Env}{o:Oper}{a:Act}{w:World}{M:Nat→Prop}{ν:Nat→Value}{σ:St}{c:Ctx}{α:Type}{r:α}{next:Act→World→Prop}{Q:Exit→Act→World→Prop}
def keys{β:Type}(l:List (Nat×β)):List Nat:=l.map (·.1)
theorem mH{i:Nat}: ∀{ups:jI} {H:Nat→Option br},i∉keys ups→c4 H ups i=H i
 |[],_,_=>rfl
 |u::r,H,h=>by
  simp only[keys,bV,bc,not_or]at h
  show c4 (cq H u.1 u.2) r i=_
  rw[mH h.2,az _ _ h.1]
theorem BD(u:Nat×Option br)(b:jI)(hb:u.1∉keys b): ∀(a:jI) (H:Nat→Option br),c4 H (a++u::b)=cq (c4 H (a++b)) u.1 u.2
 |[],H=>by
  show c4 (cq H u.1 u.2) b=cq (c4 H b) u.1 u.2
  induction b generalizing H with
  |nil=>rfl
  |cons v b ih=>
   simp only[keys,bV,bc,not_or]at hb
   show c4 (cq (cq H u.1 u.2) v.1 v.2) b=cq (c4 (cq H v.1 v.2) b) u.1 u.2
   rw[←ih hb.2]
   congr 1
   funext i
   by_cases h1:i=v.1
   ·subst h1;rw[ay,az _ _ (ff hb.1),ay]
   ·by_cases h2:i=u.1
    ·subst h2;rw[az _ _ h1,ay,ay]
    ·rw[az _ _ h1,az _ _ h2,az _ _ h2,az _ _ h1]
 |v::a,H=>BD u b hb a (cq H v.1 v.2)
def IoE(H:Nat→Option br)(q:Nat×AM):Prop:=(∃(τ:Ty) (x:τ.den),q.2= .io τ∧H q.1=some (.obj τ x))∨ ∃(e:Ty) (l:List e.den),q.2= .lo e∧H q.1=some (.own e l)
theorem IoE.some{H:Nat→Option br}{q:Nat×AM}(h:IoE H q):H q.1≠none:=by
 rcases h with⟨_,x,_,h⟩|⟨e,l,_,h⟩<;>rw[h]<;>simp
structure kG(c:Ctx)(w:World)(M:Nat→Prop)(ν:Nat→Value)(H0 H1 Hq:Nat→Option br)(M1:Nat→Prop)(uo uf:jI)(io:List (Nat×AM))(hs:List Nat):Prop where
 mem:Mem c H1 w M1 ν
 Oq:Mem c Hq w M ν
 cg:fK w M w M1
 ext: ∀i,i∉keys io→c4 H0 (uo++uf) i=H1 i
 YD: ∀i,i∉keys io→c4 H0 uo i=Hq i
 VK: ∀q∈io,H1 q.1=some .gone∧Hq q.1=some .gone∧IoE H0 q
 ion:(keys io).Nodup
 ks: ∀i∈keys (uo++uf),∀e l,H1 i≠some (.own e l)
 ksn: ∀i∈keys (uo++uf),i∉keys io∧ ∃e l,H0 i=some (.own e l)
 fz:Fz Hq H1
 uov: ∀u∈uo,u.2=some .gone
 ufv: ∀u∈uf,∃e l,u.2=some (.pM e l)∧H0 u.1=some (.own e l)
 nd:hs.Nodup
 hM: ∀b∈hs,M1 b
 Ot: ∀b∈hs,c.B≤b∨c.may b
 none: ∀b∈hs,∀i e,Hq i=some e→e.mut→fx (ν i)≠some b
 iob: ∀b∈hs,c.M0 b→ ∃q∈io,fx (ν q.1)=some b
 same: ∀i,i∉keys (uo++uf)→i∉keys io→H1 i=H0 i
theorem kG.start{H:Nat→Option br}(hm:Mem c H w M ν):kG c w M ν H H H M [] [] [] []:=
 ⟨hm,hm,.refl w M,λ_ _=>rfl,λ_ _=>rfl,λq hq=>by simp at hq,by simp[keys],λi hi=>by simp[keys]at hi,λi hi=>by simp[keys]at hi,.refl H,λu hu=>by simp at hu,λu hu=>by simp at hu,by simp,λb hb=>by simp at hb,λb hb=>by simp at hb,λb hb=>by simp at hb,λb hb=>by simp at hb,λ_ _ _=>rfl⟩
theorem Fz.acv{H H1:Nat→Option br}(h:Fz H H1){i:Nat}{e:Ty}{l:List e.den}(hi:H1 i=some (.own e l)):H i=some (.own e l):=by
 rcases h i with h'|⟨e',l',_,h'⟩
 ·rw[←h',hi]
 ·rw[hi]at h';cases h'
theorem Fz.apH{H H1:Nat→Option br}(h:Fz H H1){i:Nat}{e:Ty}{l:e.den}(hi:H1 i=some (.obj e l)):H i=some (.obj e l):=by
 rcases h i with h'|⟨e',l',_,h'⟩
 ·rw[←h',hi]
 ·rw[hi]at h';cases h'
theorem Fz.mut{H H1:Nat→Option br}(h:Fz H H1){i:Nat}{e:br}(hi:H1 i=some e)(hm:e.mut):H i=some e:=by
 cases e with
 |obj=>exact h.apH hi
 |gn=>
  rcases h i with h'|⟨e',l',_,h'⟩
  ·rw[←h',hi]
  ·rw[hi]at h';cases h'
 |own=>exact h.acv hi
 |pM=>simp[br.mut]at hm
 |gone=>simp[br.mut]at hm
theorem kG.freeze{H0 H1 Hq:Nat→Option br}{M1:Nat→Prop}{uo uf:jI}{io:List (Nat×AM)}{hs:List Nat}(h:kG c w M ν H0 H1 Hq M1 uo uf io hs){id:Nat}{e:Ty}{l:List e.den}(bk:H1 id=some (.own e l)):
  ∃M2,kG c w M ν H0 (cq H1 id (some (.pM e l))) Hq M2 uo ((id,some (.pM e l))::uf) io hs∧fK w M1 w M2∧(∀b,M2 b↔(M1 b∧fx (ν id)≠some b)):=by
 obtain⟨M2,gF,_,LF⟩:=Tr.freeze h.mem bk
 have wQ:id∉keys io:=λhk=>by
  obtain⟨q,hq,rfl⟩:=cV.1 hk
  have:=(h.VK q hq).1
  rw[bk]at this;cases this
 have X1:id∉keys (uo++uf):=λhk=>h.ks id hk e l bk
 have akD:id∉keys uf:=λhk=>X1 (by simp only[keys,dp,bn];exact .inr hk)
 have h0:H0 id=some (.own e l):=by rw[←h.same id X1 wQ];exact bk
 have hq:Hq id=some (.own e l):=h.fz.acv bk
 have mF: ∀i,i∈keys (uo++(id,some (br.pM e l))::uf)↔i=id∨i∈keys (uo++uf):=by
  intro i
  simp only[keys,dp,bV,bn,bc]
  constructor
  ·rintro(h|h|h)
   ·exact .inr (.inl h)
   ·exact .inl h
   ·exact .inr (.inr h)
  ·rintro(h|h|h)
   ·exact .inr (.inl h)
   ·exact .inl h
   ·exact .inr (.inr h)
 refine⟨M2,⟨gF.mem,h.Oq,h.cg.trans gF.cg,λi hi=> ?_,h.YD,λq oT=> ?_,h.ion,λi hi e' l'=> ?_,λi hi=> ?_,λi=> ?_,h.uov,λu hu=> ?_,h.nd,λb hb=> ?_,h.Ot,h.none,h.iob,λi hi oe=> ?_⟩,gF.cg,LF⟩
 ·rw[BD _ _ akD]
  by_cases cm:i=id
  ·subst cm;rw[ay,ay]
  ·rw[az _ _ cm,az _ _ cm];exact h.ext i hi
 ·obtain⟨h1,h2,h3⟩:=h.VK q oT
  have kQ:q.1≠id:=λe=>wQ (e▸fB oT)
  exact⟨by rw[az _ _ kQ];exact h1,h2,h3⟩
 ·by_cases cm:i=id
  ·subst cm;rw[ay];intro h';cases h'
  ·rw[az _ _ cm]
   exact h.ks i (((mF i).1 hi).resolve_left cm) e' l'
 ·rcases(mF i).1 hi with rfl|hi
  ·exact⟨wQ,e,l,h0⟩
  ·exact h.ksn i hi
 ·by_cases cm:i=id
  ·subst cm;exact .inr ⟨e,l,hq,ay _ _ _⟩
  ·rw[az _ _ cm];exact h.fz i
 ·rcases bc.1 hu with rfl|hu
  ·exact⟨e,l,rfl,h0⟩
  ·exact h.ufv u hu
 ·exact(LF b).2 ⟨h.hM b hb,λeY=>h.none b hb id _ hq trivial eY⟩
 ·have kQ:i≠id:=λe=>hi ((mF i).2 (.inl e))
  rw[az _ _ kQ]
  exact h.same i (λh'=>hi ((mF i).2 (.inr h'))) oe
theorem kG.hand{H0 H1 Hq:Nat→Option br}{M1:Nat→Prop}{uo uf:jI}{io:List (Nat×AM)}{hs:List Nat}(h:kG c w M ν H0 H1 Hq M1 uo uf io hs){id:Nat}{e:Ty}{l:List e.den}(bk:H1 id=some (.own e l)):
  kG c w M ν H0 (cq H1 id (some .gone)) (cq Hq id (some .gone)) M1 ((id,some .gone)::uo) uf io (hs++(fx (ν id)).toList):=by
 have wQ:id∉keys io:=λhk=>by
  obtain⟨q,hq,rfl⟩:=cV.1 hk
  have:=(h.VK q hq).1
  rw[bk]at this;cases this
 have X1:id∉keys (uo++uf):=λhk=>h.ks id hk e l bk
 have akD:id∉keys uo:=λhk=>X1 (by simp only[keys,dp,bn];exact .inl hk)
 have h0:H0 id=some (.own e l):=by rw[←h.same id X1 wQ];exact bk
 have hq:Hq id=some (.own e l):=h.fz.acv bk
 have mF: ∀i,i∈keys ((id,some br.gone)::uo++uf)↔i=id∨i∈keys (uo++uf):=by
  intro i
  simp only[keys,dp,bV,m0,bn,bc]
 have Br: ∀b,fx (ν id)=some b→b∉hs:=λb hb eY=>h.none b eY id _ hq trivial hb
 refine⟨(Tr.gone h.mem id).mem,(Tr.gone h.Oq id).mem,h.cg,λi hi=> ?_,λi hi=> ?_,λq oT=> ?_,h.ion,λi hi e' l'=> ?_,λi hi=> ?_,λi=> ?_,λu hu=> ?_,h.ufv,?_,λb hb=> ?_,λb hb=> ?_,λb hb i e' hi hm=> ?_,λb hb hb0=> ?_,λi hi oe=> ?_⟩
 ·have:=BD (id,some .gone) (uo++uf) X1 [] H0
  simp only[cB]at this
  rw[m0,this]
  by_cases cm:i=id
  ·subst cm;rw[ay,ay]
  ·rw[az _ _ cm,az _ _ cm];exact h.ext i hi
 ·have:=BD (id,some .gone) uo akD [] H0
  simp only[cB]at this
  rw[this]
  by_cases cm:i=id
  ·subst cm;rw[ay,ay]
  ·rw[az _ _ cm,az _ _ cm];exact h.YD i hi
 ·obtain⟨h1,h2,h3⟩:=h.VK q oT
  have kQ:q.1≠id:=λe=>wQ (e▸fB oT)
  exact⟨by rw[az _ _ kQ];exact h1,by rw[az _ _ kQ];exact h2,h3⟩
 ·by_cases cm:i=id
  ·subst cm;rw[ay];intro h';cases h'
  ·rw[az _ _ cm]
   exact h.ks i (((mF i).1 hi).resolve_left cm) e' l'
 ·rcases(mF i).1 hi with rfl|hi
  ·exact⟨wQ,e,l,h0⟩
  ·exact h.ksn i hi
 ·by_cases cm:i=id
  ·subst cm;left;rw[ay,ay]
  ·rw[az _ _ cm,az _ _ cm];exact h.fz i
 ·rcases bc.1 hu with rfl|hu
  ·rfl
  ·exact h.uov u hu
 ·refine pK.2 ⟨h.nd,?_,λx hx y hy=> ?_⟩
  ·cases fx (ν id)<;>simp
  ·rw[fj]at hy
   intro X2;subst X2
   exact Br x hy hx
 ·rcases bn.1 hb with hb|hb
  ·exact h.hM b hb
  ·rw[fj]at hb
   exact(h.mem.ke id _ bk).xJ trivial hb
 ·rcases bn.1 hb with hb|hb
  ·exact h.Ot b hb
  ·rw[fj]at hb
   exact h.mem.new id _ b bk trivial hb
 ·by_cases cm:i=id
  ·subst cm;rw[ay]at hi;cases hi;simp[br.mut]at hm
  ·rw[az _ _ cm]at hi
   rcases bn.1 hb with hb|hb
   ·exact h.none b hb i e' hi hm
   ·rw[fj]at hb
    intro eY
    exact h.Oq.Bk i id e' _ b cm hi hm hq trivial eY hb
 ·rcases bn.1 hb with hb|hb
  ·exact h.iob b hb hb0
  ·rw[fj]at hb
   exact absurd hb0 (h.mem.oV id e l b bk hb)
 ·have kQ:i≠id:=λe=>hi ((mF i).2 (.inl e))
  rw[az _ _ kQ]
  exact h.same i (λh'=>hi ((mF i).2 (.inr h'))) oe
theorem kG.akE{H0 H1 Hq:Nat→Option br}{M1:Nat→Prop}{uo uf:jI}{io:List (Nat×AM)}{hs:List Nat}(h:kG c w M ν H0 H1 Hq M1 uo uf io hs){id:Nat}{τ:Ty}{x:τ.den}(bk:H1 id=some (.obj τ x)):
  kG c w M ν H0 (cq H1 id (some .gone)) (cq Hq id (some .gone)) M1 uo uf (io++[(id,.io τ)]) (hs++(fx (ν id)).toList):=by
 have wQ:id∉keys io:=λhk=>by
  obtain⟨q,hq,rfl⟩:=cV.1 hk
  have:=(h.VK q hq).1
  rw[bk]at this;cases this
 have hq:Hq id=some (.obj τ x):=h.fz.apH bk
 have X1:id∉keys (uo++uf):=λhk=>by
  have h1:=h.ext id wQ
  obtain⟨_,e,l,h0⟩:=h.ksn id hk
  have key: ∀(ups:jI) (H:Nat→Option br),(∀u∈ups,u.2=some .gone∨ ∃e l,u.2=some (.pM e l))→id∈keys ups→c4 H ups id=some .gone∨ ∃e l,c4 H ups id=some (.pM e l):=by
   intro ups
   induction ups with
   |nil=>intro H _ hk;simp[keys]at hk
   |cons u ups ih=>
    intro H hv hk
    by_cases VL:id∈keys ups
    ·exact ih _ (λv R7=>hv v (a8 _ R7)) VL
    ·show c4 (cq H u.1 u.2) ups id=_∨ ∃e l,c4 (cq H u.1 u.2) ups id=_
     rw[mH VL]
     have hui:id=u.1:=by
      simp only[keys,bV,bc]at hk VL
      exact hk.resolve_right VL
     rw[hui,ay]
     exact hv u bt
  have:=key (uo++uf) H0 (λu hu=>by
   rcases bn.1 hu with hu|hu
   ·exact .inl (h.uov u hu)
   ·obtain⟨e,l,h',_⟩:=h.ufv u hu;exact .inr ⟨e,l,h'⟩) hk
  rw[h1,bk]at this
  rcases this with h'|⟨_,_,h'⟩<;>cases h'
 have h0:H0 id=some (.obj τ x):=by rw[←h.same id X1 wQ];exact bk
 have mF: ∀i,i∈keys (io++[(id,.io τ)])↔i∈keys io∨i=id:=by
  intro i
  simp only[keys,dp,bV,gQ,bn,bc,List.not_mem_nil,or_false]
 have Br: ∀b,fx (ν id)=some b→b∉hs:=λb hb eY=>h.none b eY id _ hq trivial hb
 refine⟨(Tr.gone h.mem id).mem,(Tr.gone h.Oq id).mem,h.cg,λi hi=> ?_,λi hi=> ?_,λq oT=> ?_,?_,λi hi e' l'=> ?_,λi hi=> ?_,λi=> ?_,h.uov,h.ufv,?_,λb hb=> ?_,λb hb=> ?_,λb hb i e' hi hm=> ?_,λb hb hb0=> ?_,λi hi oe=> ?_⟩
 ·rw[az _ _ (λe=>hi ((mF i).2 (.inr e)))];exact h.ext i (λh'=>hi ((mF i).2 (.inl h')))
 ·rw[az _ _ (λe=>hi ((mF i).2 (.inr e)))];exact h.YD i (λh'=>hi ((mF i).2 (.inl h')))
 ·rcases bn.1 oT with oT|oT
  ·obtain⟨h1,h2,h3⟩:=h.VK q oT
   have kQ:q.1≠id:=λe=>wQ (e▸fB oT)
   exact⟨by rw[az _ _ kQ];exact h1,by rw[az _ _ kQ];exact h2,h3⟩
  ·rw[cw]at oT;subst oT
   exact⟨ay _ _ _,ay _ _ _,.inl ⟨τ,x,rfl,h0⟩⟩
 ·simp only[keys,dp,bV,gQ]
  refine pK.2 ⟨h.ion,by simp,λx hx y hy=> ?_⟩
  rw[cw]at hy;subst hy
  intro e;exact wQ (e▸hx)
 ·by_cases cm:i=id
  ·subst cm;rw[ay];intro h';cases h'
  ·rw[az _ _ cm];exact h.ks i hi e' l'
 ·obtain⟨h1,h2⟩:=h.ksn i hi
  exact⟨λh'=>((mF i).1 h').elim h1 (λe=>X1 (e▸hi)),h2⟩
 ·by_cases cm:i=id
  ·subst cm;left;rw[ay,ay]
  ·rw[az _ _ cm,az _ _ cm];exact h.fz i
 ·refine pK.2 ⟨h.nd,?_,λx hx y hy=> ?_⟩
  ·cases fx (ν id)<;>simp
  ·rw[fj]at hy
   intro X2;subst X2
   exact Br x hy hx
 ·rcases bn.1 hb with hb|hb
  ·exact h.hM b hb
  ·rw[fj]at hb
   exact(h.mem.ke id _ bk).xJ trivial hb
 ·rcases bn.1 hb with hb|hb
  ·exact h.Ot b hb
  ·rw[fj]at hb
   exact h.mem.new id _ b bk trivial hb
 ·by_cases cm:i=id
  ·subst cm;rw[ay]at hi;cases hi;simp[br.mut]at hm
  ·rw[az _ _ cm]at hi
   rcases bn.1 hb with hb|hb
   ·exact h.none b hb i e' hi hm
   ·rw[fj]at hb
    intro eY
    exact h.Oq.Bk i id e' _ b cm hi hm hq trivial eY hb
 ·rcases bn.1 hb with hb|hb
  ·obtain⟨q,hq1,hq2⟩:=h.iob b hb hb0
   exact⟨q,cU _ hq1,hq2⟩
  ·rw[fj]at hb
   exact⟨(id,.io τ),by simp,hb⟩
 ·have kQ:i≠id:=λe=>oe ((mF i).2 (.inr e))
  rw[az _ _ kQ]
  exact h.same i hi (λh'=>oe ((mF i).2 (.inl h')))
theorem kG.ai8{H0 H1 Hq:Nat→Option br}{M1:Nat→Prop}{uo uf:jI}{io:List (Nat×AM)}{hs:List Nat}(h:kG c w M ν H0 H1 Hq M1 uo uf io hs){id:Nat}{e:Ty}{l:List e.den}(bk:H1 id=some (.own e l)):
  kG c w M ν H0 (cq H1 id (some .gone)) (cq Hq id (some .gone)) M1 uo uf (io++[(id,.lo e)]) (hs++(fx (ν id)).toList):=by
 have wQ:id∉keys io:=λhk=>by
  obtain⟨q,hq,rfl⟩:=cV.1 hk
  have:=(h.VK q hq).1
  rw[bk]at this;cases this
 have hq:Hq id=some (.own e l):=h.fz.acv bk
 have X1:id∉keys (uo++uf):=λhk=>h.ks id hk e l bk
 have h0:H0 id=some (.own e l):=by rw[←h.same id X1 wQ];exact bk
 have mF: ∀i,i∈keys (io++[(id,.lo e)])↔i∈keys io∨i=id:=by
  intro i
  simp only[keys,dp,bV,gQ,bn,bc,List.not_mem_nil,or_false]
 have Br: ∀b,fx (ν id)=some b→b∉hs:=λb hb eY=>h.none b eY id _ hq trivial hb
 refine⟨(Tr.gone h.mem id).mem,(Tr.gone h.Oq id).mem,h.cg,λi hi=> ?_,λi hi=> ?_,λq oT=> ?_,?_,λi hi e' l'=> ?_,λi hi=> ?_,λi=> ?_,h.uov,h.ufv,?_,λb hb=> ?_,λb hb=> ?_,λb hb i e' hi hm=> ?_,λb hb hb0=> ?_,λi hi oe=> ?_⟩
 ·rw[az _ _ (λe=>hi ((mF i).2 (.inr e)))];exact h.ext i (λh'=>hi ((mF i).2 (.inl h')))
 ·rw[az _ _ (λe=>hi ((mF i).2 (.inr e)))];exact h.YD i (λh'=>hi ((mF i).2 (.inl h')))
 ·rcases bn.1 oT with oT|oT
  ·obtain⟨h1,h2,h3⟩:=h.VK q oT
   have kQ:q.1≠id:=λe=>wQ (e▸fB oT)
   exact⟨by rw[az _ _ kQ];exact h1,by rw[az _ _ kQ];exact h2,h3⟩
  ·rw[cw]at oT;subst oT
   exact⟨ay _ _ _,ay _ _ _,.inr ⟨e,l,rfl,h0⟩⟩
 ·simp only[keys,dp,bV,gQ]
  refine pK.2 ⟨h.ion,by simp,λx hx y hy=> ?_⟩
  rw[cw]at hy;subst hy
  intro e;exact wQ (e▸hx)
 ·by_cases cm:i=id
  ·subst cm;rw[ay];intro h';cases h'
  ·rw[az _ _ cm];exact h.ks i hi e' l'
 ·obtain⟨h1,h2⟩:=h.ksn i hi
  exact⟨λh'=>((mF i).1 h').elim h1 (λe=>X1 (e▸hi)),h2⟩
 ·by_cases cm:i=id
  ·subst cm;left;rw[ay,ay]
  ·rw[az _ _ cm,az _ _ cm];exact h.fz i
 ·refine pK.2 ⟨h.nd,?_,λx hx y hy=> ?_⟩
  ·cases fx (ν id)<;>simp
  ·rw[fj]at hy
   intro X2;subst X2
   exact Br x hy hx
 ·rcases bn.1 hb with hb|hb
  ·exact h.hM b hb
  ·rw[fj]at hb
   exact(h.mem.ke id _ bk).xJ trivial hb
 ·rcases bn.1 hb with hb|hb
  ·exact h.Ot b hb
  ·rw[fj]at hb
   exact h.mem.new id _ b bk trivial hb
 ·by_cases cm:i=id
  ·subst cm;rw[ay]at hi;cases hi;simp[br.mut]at hm
  ·rw[az _ _ cm]at hi
   rcases bn.1 hb with hb|hb
   ·exact h.none b hb i e' hi hm
   ·rw[fj]at hb
    intro eY
    exact h.Oq.Bk i id e' _ b cm hi hm hq trivial eY hb
 ·rcases bn.1 hb with hb|hb
  ·obtain⟨q,hq1,hq2⟩:=h.iob b hb hb0
   exact⟨q,cU _ hq1,hq2⟩
  ·rw[fj]at hb
   exact⟨(id,.lo e),by simp,hb⟩
 ·have kQ:i≠id:=λe=>oe ((mF i).2 (.inr e))
  rw[az _ _ kQ]
  exact h.same i hi (λh'=>oe ((mF i).2 (.inl h')))
end VM
end
section
namespace VM
open Go
variable{P:Program}{E:Env}{o:Oper}{a:Act}{w:World}{M:Nat→Prop}{ν:Nat→Value}{σ:St}{c:Ctx}{α:Type}{r:α}{next:Act→World→Prop}{Q:Exit→Act→World→Prop}
theorem uu.upd{H:Nat→Option br}{id:Nat}{e e':br}(bk:H id=some e)(hl:e.lP e'):uu H ν (cq H id (some e')) ν:=
 ⟨λi e1 hi=>by
  by_cases cm:i=id
  ·subst cm;rw[bk]at hi;cases hi;exact⟨e',ay _ _ _,hl⟩
  ·exact⟨e1,by rw[az _ _ cm];exact hi,.refl e1⟩,λ_ _=>rfl⟩
theorem br.kq(e:br):e.lP .gone:=by cases e<;>simp[br.lP]
theorem VR.apJ{H H':Nat→Option br}{ν':Nat→Value}{a:Ty}{x:a.den}{v:Value}(h:VR w M H ν (DK a x) v):VR w M H' ν' (DK a x) v:=by
 unfold DK at h ⊢
 split at h
 ·simp only[VR]at h ⊢;exact h
 ·simp only[VR]at h ⊢;exact h
theorem jQ.free{H H':Nat→Option br}{ν':Nat→Value}: ∀{τ:Ty} {x:τ.den} {vs:List Value},jQ w M H ν (q4 τ x) vs→jQ w M H' ν' (q4 τ x) vs
 | .pair a b,x,v::vs,h=>by
  simp only[q4,jQ]at h ⊢
  exact⟨VR.apJ h.1,jQ.free h.2⟩
 | .pair a b,x,[],h=>by simp[q4,jQ]at h
 | .int _,_,[],_| .bool,_,[],_| .str,_,[],_| .slice _,_,[],_| .unit,_,[],_| .arr _ _,_,[],_=>by simp[q4,jQ]
 | .int _,_,_::_,h| .bool,_,_::_,h| .str,_,_::_,h| .slice _,_,_::_,h| .unit,_,_::_,h| .arr _ _,_,_::_,h=>by simp[q4,jQ]at h
theorem DY{H0 H1 Hq:Nat→Option br}{M1:Nat→Prop}{uo uf:jI}{io:List (Nat×AM)}{hs:List Nat}(h:kG c w M ν H0 H1 Hq M1 uo uf io hs){m:AM}{x:bE}{v:Value}(hv:VR w M1 H1 ν x v)
  {k:m.den→(Nat→Option br)→List Nat→jI→jI→List (Nat×AM)→Option α} (hk:o5 m x H1 k=some r):
  ∃y H2 rd Nm Nn Ja X3 M2,k y H2 rd Nm Nn Ja=some r∧kG c w M ν H0 H2 X3 M2 (Nm++uo) (Nn++uf) (io++Ja) (hs++dz m v)∧fK w M1 w M2∧uu H1 ν H2 ν∧A1 w M2 m y v∧
   Ja.map (λq=>ν q.1)=(if m.iV then [v]else [])∧Ja.map (·.2)=nE [m]:=by
 unfold o5 at hk
 split at hk
 ·
  rename_i τ k
  obtain⟨y,rd,ups,hk,hy⟩:=FD h.mem hv hk
  rcases hy with⟨rfl,hV⟩|⟨id,e,l,rfl,bk,hV⟩
  ·exact⟨y,H1,rd,[],[],[],Hq,M1,hk,by simpa [dz]using h,.refl w M1,.refl H1 ν,hV,rfl,rfl⟩
  ·obtain⟨M2,hA,hK,LF⟩:=h.freeze bk
   exact⟨y,_,rd,[],_,[],Hq,M2,hk,by simpa [dz]using hA,hK,.upd bk ⟨rfl,rfl⟩,hV M2 LF,rfl,rfl⟩
 ·
  rename_i e k
  split at hk
  ·obtain⟨ad,hv⟩:=VR.emp.1 hv
   subst hv
   have hb:fx (.slice ad 0 0)=none:=by cases ad<;>simp[fx]
   exact⟨[],H1,[],[],[],[],Hq,M1,hk,by simpa [dz,hb]using h,.refl w M1,.refl H1 ν,by simp only[A1,ER];exact .inl ⟨trivial,ad,rfl⟩,rfl,rfl⟩
  ·rename_i id
   split at hk
   ·rename_i e' l bk
    obtain⟨e1,hk⟩:=bz hk
    cases e1
    simp only[VR]at hv
    obtain⟨_,rfl⟩:=hv
    refine⟨_,_,_,_,_,_,_,M1,hk,by simpa [dz]using h.hand bk,.refl w M1,.upd bk (br.kq _),?_,rfl,rfl⟩
    have:=h.mem.ke id _ bk
    exact this
   ·cases hk
  ·cases hk
 ·
  rename_i τ k
  split at hk
  ·rename_i id
   split at hk
   ·rename_i υ z bk
    obtain⟨e1,hk⟩:=bz hk
    subst e1
    simp only[VR]at hv
    obtain⟨e,he,lR⟩:=hv
    rw[bk]at he;cases he
    simp only[AR]at lR
    obtain⟨_,b,hb,hv⟩:=lR
    have YE:v=ν id:=by rw[hv,hb];rfl
    subst YE
    refine⟨_,_,_,_,_,_,_,M1,hk,by simpa [dz]using h.akE bk,.refl w M1,.upd bk (br.kq _),?_,rfl,rfl⟩
    have:=h.mem.ke id _ bk
    exact this
   ·cases hk
  ·cases hk
 ·
  rename_i f τ k
  split at hk
  ·rename_i f' cs
   obtain⟨hf,Uf⟩:=cD hk
   clear hk
   have hf:=fA hf
   subst hf
   have hk:=Uf
   clear Uf
   simp only[VR]at hv
   obtain⟨us,rfl,hvs⟩:=hv
   obtain⟨y,rd,ups,hk,hy⟩:=GV h.mem hvs hk
   split at hk
   ·exact⟨y,H1,rd,[],[],[],Hq,M1,hk,by simpa [dz]using h,.refl w M1,.refl H1 ν,by simp only[A1,VR];exact⟨us,rfl,hy rfl⟩,rfl,rfl⟩
   ·cases hk
  ·cases hk
 ·cases hk
 ·
  rename_i τ k
  split at hk
  ·rename_i υ z
   obtain⟨e1,hk⟩:=bz hk
   subst e1
   exact⟨_,H1,_,[],[],[],Hq,M1,hk,by simpa [dz]using h,.refl w M1,.refl H1 ν,by simp only[A1,VR]at hv ⊢;exact hv,rfl,rfl⟩
  ·cases hk
 ·
  rename_i e k
  split at hk
  ·rename_i id
   split at hk
   ·rename_i e' l bk
    obtain⟨e1,hk⟩:=bz hk
    cases e1
    simp only[VR]at hv
    obtain⟨_,rfl⟩:=hv
    refine⟨_,_,_,_,_,_,_,M1,hk,by simpa [dz]using h.ai8 bk,.refl w M1,.upd bk (br.kq _),?_,rfl,rfl⟩
    have:=h.mem.ke id _ bk
    exact this
   ·cases hk
  ·cases hk
 ·cases hk
theorem DZ{H0:Nat→Option br}: ∀{ms:List AM} {rj:List bE} {vs:List Value} {H1 Hq:Nat→Option br} {M1:Nat→Prop} {rd:List Nat} {uo uf:jI} {io:List (Nat×AM)} {hs:List Nat} {K:HP ms→List Nat→jI→jI→List (Nat×AM)→Option α},
  kG c w M ν H0 H1 Hq M1 uo uf io hs→jQ w M1 H1 ν rj vs→uU ms rj H1 rd uo uf io K=some r→
  ∃x yU Nm Nn Ja H2 X3 M2,K x yU Nm Nn Ja=some r∧kG c w M ν H0 H2 X3 M2 Nm Nn Ja (hs++eA ms vs)∧fK w M1 w M2∧kF w M2 ms x vs∧
   Ja.map (λq=>ν q.1)=io.map (λq=>ν q.1)++fN ms vs∧Ja.map (·.2)=io.map (·.2)++nE ms
 |[],[],[],H1,Hq,M1,rd,uo,uf,io,hs,K,h,_,hk=>
  ⟨(),rd,uo,uf,io,H1,Hq,M1,hk,by simpa [eA]using h,.refl w M1,rfl,by simp[fN],by simp[nE]⟩
 |[m],[x],[v],H1,Hq,M1,rd,uo,uf,io,hs,K,h,hv,hk=>by
  simp only[jQ,fD]at hv
  obtain⟨y,H2,Yt,uo1,uf1,io1,X3,M2,hk,hA,hK,hG,hy,hi1,Ue⟩:=DY h hv (hk:o5 m x H1 _=some r)
  refine⟨y,_,_,_,_,H2,X3,M2,hk,by simpa [eA]using hA,hK,⟨v,[],rfl,hy,rfl⟩,?_,?_⟩
  ·rw[dp,hi1];cases wQ:m.iV<;>simp[fN,wQ]
  ·rw[dp,Ue]
 |m::n::ms,x::xs,v::vs,H1,Hq,M1,rd,uo,uf,io,hs,K,h,hv,hk=>by
  simp only[jQ]at hv
  obtain⟨y,H2,Yt,uo1,uf1,io1,X3,M2,hk,hA,hK,hG,hy,hi1,Ue⟩:=DY h hv.1 (hk:o5 m x H1 _=some r)
  obtain⟨ys,yU,Nm,Nn,Ja,H3,Hq3,M3,hk,hA',hK',hys,hi3,hi4⟩:=DZ (ms:=n::ms) hA (jQ.cg hK hG hv.2) hk
  refine⟨(y,ys),_,_,_,_,H3,Hq3,M3,hk,by simpa [eA,bD]using hA',hK.trans hK',⟨v,vs,rfl,?_,hys⟩,?_,?_⟩
  ·refine A1.xT hK' (λb hb=>⟨rfl,hA'.hM b ?_⟩) hy
   exact cU _ (dC _ hb)
  ·rw[hi3,dp,hi1,bD]
   congr 1
   cases wQ:m.iV<;>simp[fN,wQ]
  ·rw[hi4,dp,Ue,bD]
   congr 1
   cases m<;>simp[nE]
 |[],_::_,_,_,_,_,_,_,_,_,_,_,_,_,hk=>by simp[uU]at hk
 |[_],[],_,_,_,_,_,_,_,_,_,_,_,_,hk=>by simp[uU]at hk
 |[_],_::_::_,_,_,_,_,_,_,_,_,_,_,_,_,hk=>by simp[uU]at hk
 |_::_::_,[],_,_,_,_,_,_,_,_,_,_,_,_,hk=>by simp[uU]at hk
 |_,_::_,[],_,_,_,_,_,_,_,_,_,_,hv,_=>by simp[jQ]at hv
 |[],[],_::_,_,_,_,_,_,_,_,_,_,_,hv,_=>by simp[jQ]at hv
 |[_],[_],_::_::_,_,_,_,_,_,_,_,_,_,_,hv,_=>by simp[jQ]at hv
end VM
end
section
namespace VM
open Go
variable{P:Program}{E:Env}{o:Oper}{a:Act}{w:World}{M:Nat→Prop}{ν:Nat→Value}{σ:St}{c:Ctx}{α:Type}{r:α}{next:Act→World→Prop}{Q:Exit→Act→World→Prop}
theorem Mem.call{H:Nat→Option br}(h:Mem c H w M ν){hs:List Nat}{M0 M':Nat→Prop}{w':World}(hM: ∀b,M0 b→M b)(hhs: ∀b∈hs,M b)
  (rm: ∀b∈hs,∀i e,H i=some e→e.mut→fx (ν i)≠some b) (kH: ∀b∈hs,c.B≤b∨c.may b) (wQ: ∀b∈hs,c.M0 b→M' b) (L:Left w M0 hs w' M'):
  Mem c H w' (λb=>M' b∨(M b∧b∉hs)) ν∧fK w M w' (λb=>M' b∨(M b∧b∉hs)):=by
 have hk:fK w M w' (λb=>M' b∨(M b∧b∉hs)):=by
  refine⟨L.size,λb hb hm=>L.frame b hb (λhh=>hm (hhs b hh)),λb hb hm=> ?_⟩
  rcases hm with hm|hm
  ·exact(L.less b hb hm).elim (hM b) (hhs b)
  ·exact hm.1
 refine⟨⟨λi e hi=>(h.ke i e hi).cg hk λhm b hb=> ?_,h.Bk,h.new,h.oV,sA h (λ_ _=>rfl) (λ_ h=>h) (λi τ x p j hi=> .inl ⟨hi,λb hb=> ?_⟩),λb hb=> ?_,λb hb=> ?_,λb hb hm=> ?_,cA h.size L.size,h.w4,L.os.trans h.os,L.tape.trans h.tape,L.output.trans h.output⟩,hk⟩
 ·have hMb:=(h.ke i e hi).xJ hm hb
  have Br:b∉hs:=λhh=>rm b hh i e hi hm hb
  exact⟨L.frame b (h.Gy b hMb) Br,.inr ⟨hMb,Br⟩⟩
 ·have xK:fx (ν i)=some b:=by rw[hb];rfl
  have hMb:=(h.ke i _ hi).xJ trivial xK
  exact L.frame b (h.Gy b hMb) (λhh=>rm b hh i _ hi trivial xK)
 ·by_cases hh:b∈hs
  ·exact .inl (wQ b hh hb)
  ·exact .inr ⟨h.sub b hb,hh⟩
 ·rcases hb with hb|hb
  ·exact L.Gy b hb
  ·exact nX (h.Gy b hb.1) L.size
 ·have Br:b∉hs:=λhh=>(kH b hh).elim (λh'=>ω) hm
  rw[L.frame b (nX hb h.size) Br]
  exact h.frame b hb hm
theorem Mem.xU{H:Nat→Option br}(h:Mem c H w M ν){id:Nat}{v:Value}{e:br}(bk: ∀e',H id=some e'→ ¬e'.mut)(Vv:ER w M v e)
  (hd: ∀b,fx v=some b→ ∀i e',H i=some e'→e'.mut→fx (ν i)≠some b) (hn: ∀b,fx v=some b→c.B≤b∨c.may b) (ho: ∀b e0 l0,e= .own e0 l0→fx v=some b→ ¬c.M0 b)
  (hnv:H id=none∨v=ν id)
  (q5: ∀τ x p j,e= .gn τ x p j→cq H id (some e) j≠none∧ ∃b,v= .pointer (some ⟨b,0,none⟩)∧w.cell? ⟨b,cM p τ,none⟩=some (updν ν id v j):=by intro _ _ _ _ h;cases h):
  Mem c (cq H id (some e)) w M (updν ν id v):=by
 have hν: ∀i,i≠id→updν ν id v i=ν i:=λi hi=>by simp[updν,hi]
 have hνs:updν ν id v id=v:=by simp[updν]
 refine⟨λi e1 hi=> ?_,λi k e1 e2 b1 qI hi uv hk yZ=> ?_,λi e1 b1 hi uv=> ?_,λi e1 l1 b1 hi=> ?_,sA h (λi hi=> ?_) yY (λi τ x p j hi=> ?_),h.sub,h.Gy,h.frame,h.size,h.w4,h.os,h.tape,h.output⟩
 ·by_cases cm:i=id
  ·subst cm;rw[ay]at hi;cases hi;rw[hνs];exact Vv
  ·rw[az _ _ cm]at hi;rw[hν i cm];exact h.ke i e1 hi
 ·by_cases cm:i=id
  ·subst cm;rw[hνs]
   have N7:k≠i:=ff qI
   rw[az _ _ N7]at hk;rw[hν k N7]
   intro nC
   exact hd b1 nC k e2 hk yZ
  ·rw[az _ _ cm]at hi;rw[hν i cm]
   by_cases N7:k=id
   ·subst N7;rw[hνs]
    intro nC vx
    exact hd b1 vx i e1 hi uv nC
   ·rw[az _ _ N7]at hk;rw[hν k N7];exact h.Bk i k e1 e2 b1 qI hi uv hk yZ
 ·by_cases cm:i=id
  ·subst cm;rw[hνs];exact hn b1
  ·rw[az _ _ cm]at hi;rw[hν i cm];exact h.new i e1 b1 hi uv
 ·by_cases cm:i=id
  ·subst cm;rw[ay]at hi;cases hi;rw[hνs];exact ho b1 e1 l1 rfl
  ·rw[az _ _ cm]at hi;rw[hν i cm];exact h.oV i e1 l1 b1 hi
 ·by_cases cm:i=id
  ·subst cm
   rcases hnv with hnv|hnv
   ·exact absurd hnv hi
   ·rw[hνs,hnv]
  ·exact hν i cm
 ·by_cases cm:i=id
  ·subst cm
   rw[ay]at hi
   cases hi
   obtain⟨h1,b,h2,h3⟩:=q5 _ _ _ _ rfl
   exact .inr ⟨h1,b,by rw[hνs];exact h2,h3⟩
  ·rw[az _ _ cm]at hi
   exact .inl ⟨hi,λ_ _=>rfl⟩
theorem VN{m:AM}{ms:List AM}(x:HP (m::ms))(id:Nat)(io:List (Nat×AM)):
  iC (m::ms) x id io=match m,rq x,io with
   | .io τ,y,(j,_)::io=>((iC ms (ux x) (id+1) io).1,(j,some (.obj τ y))::(iC ms (ux x) (id+1) io).2.1,(iC ms (ux x) (id+1) io).2.2)
   | .lo e,y,(j,_)::io=>((iC ms (ux x) (id+1) io).1,(j,some (.own e y))::(iC ms (ux x) (id+1) io).2.1,(iC ms (ux x) (id+1) io).2.2)
   |m,y,io=>((xC m y id).1::(iC ms (ux x) (id+1) io).1,(xC m y id).2++(iC ms (ux x) (id+1) io).2.1,(iC ms (ux x) (id+1) io).2.2):=by
 cases ms with
 |nil=>cases m<;>cases io<;>simp[iC,rq]
 |cons n ms=>cases m<;>cases io<;>simp[iC,rq,ux]
theorem kt{l1 l2:List Nat}{b:Nat}(h:(l1++l2).Nodup)(h1:b∈l1):b∉l2:=λh2=>(pK.1 h).2.2 b h1 b h2 rfl
theorem RR.GW: ∀{ms:List AM} {x:HP ms} {us ps:List Value},RR w M ms x us ps→ ∀p∈ps,∀b,fx p=some b→b∈bI ms us ps
 |[],_,_,_,h,p,hp,_,_=>by simp only[RR]at h;rw[h.2]at hp;simp at hp
 |m::ms,x,us,ps,h,p,hp,b,hb=>by
  simp only[RR]at h
  rcases h with⟨p',Jh,h1,rfl,h2,h3⟩|⟨v,EX,h1,h2,rfl,h3,h4⟩
  ·simp only[bI,h1,g9,uM,uP,bn]
   rcases bc.1 hp with rfl|hp
   ·left
    cases m<;>simp[AM.iV]at h1<;>simp[dz,hb]
   ·exact .inr (RR.GW h3 p hp b hb)
  ·simp only[bI,h1,jO,fE,uM,uP,bn]
   exact .inr (RR.GW h4 p hp b hb)
theorem nh{hs:List Nat}{sz:Nat}: ∀{ms:List AM} {x:HP ms} {us ps:List Value} {id:Nat} {io:List (Nat×AM)} {H:Nat→Option br} {ν:Nat→Value} {used:List Nat},
  Mem c H w M ν→RR w M ms x us ps→ps=io.map (λq=>ν q.1)→nE ms=io.map (·.2)→(keys io).Nodup→(∀q∈io,H q.1=some .gone)→(∀i,id≤i→i<id+ms.length→H i=none)→
  (∀i e b,H i=some e→e.mut→fx (ν i)=some b→(b<sz∧b∉hs)∨b∈used)→(used++bI ms us ps).Nodup→(∀b∈bI ms us ps,sz≤b∨b∈hs)→
  (∀b∈bI ms us ps,(c.B≤b∨c.may b))→(∀b∈bI ms us ps,c.M0 b→ ∃p∈ps,fx p=some b)→
  (∀q∈io,∀e,q.2= .lo e→ ∀b,fx (ν q.1)=some b→ ¬c.M0 b)→
  ∃ν',Mem c (c4 H (iC ms x id io).2.1) w M ν'∧jQ w M (c4 H (iC ms x id io).2.1) ν' (iC ms x id io).1 us∧(∀i,H i≠none→ν' i=ν i)∧
   (∀i,i∉keys io→(i<id∨id+ms.length≤i)→c4 H (iC ms x id io).2.1 i=H i)∧(∀i,id≤i→i<id+ms.length→ ∀e,c4 H (iC ms x id io).2.1 i=some e→(∃e0 l0,e= .own e0 l0)∨ ∃τ0 z0,e= .obj τ0 z0)∧
   (∀q∈io,IoE (c4 H (iC ms x id io).2.1) q)
 |[],x,us,ps,id,io,H,ν,used,hm,hr,Jf,DU,CP,Ab,jx,hold,w6,oW,kH,Gz,xf=>by
  simp only[RR]at hr
  obtain⟨rfl,rfl⟩:=hr
  have wQ:io=[]:=by
   cases io with
   |nil=>rfl
   |cons q io=>simp at Jf
  subst wQ
  exact⟨ν,hm,by simp[iC,jQ],λ_ _=>rfl,λ_ _ _=>rfl,λi h1 h2=>by simp at h2;omega,λq hq=>by simp at hq⟩
 |m::ms,x,us,ps,id,io,H,ν,used,hm,hr,Jf,DU,CP,Ab,jx,hold,w6,oW,kH,Gz,xf=>by
  rw[VN]
  simp only[RR]at hr
  rcases hr with⟨p,Jh,GX,rfl,h1,h2⟩|⟨v,EX,GX,hmf,rfl,h1,h2⟩
  ·
   cases m with
   |io τ=>
    cases io with
    |nil=>simp at Jf
    |cons q io=>
     simp only[bV,fT]at Jf
     obtain⟨rfl,rfl⟩:=Jf
     simp only[nE,bV,fT]at DU
     obtain⟨acx,akF⟩:=DU
     simp only[keys,bV,A2]at CP
     have YF:bI (.io τ::ms) us (ν q.1::io.map λq=>ν q.1)=(fx (ν q.1)).toList++bI ms us (io.map λq=>ν q.1):=rfl
     rw[YF]at w6 oW kH Gz
     have w5:=Ab q bt
     have zA:q.1<id∨id+(ms.length+1)≤q.1:=by
      rcases oc q.1 id with h'|h'
      ·exact .inl h'
      ·rcases oc q.1 (id+(ms.length+1))with LP|LP
       ·rw[jx q.1 h' LP]at w5;cases w5
       ·exact .inr LP
     simp only[A1]at h1
     have pf: ∀b,fx (ν q.1)=some b→ ∀i e',H i=some e'→e'.mut→fx (ν i)≠some b:=by
      intro b hb i e' hi jh eY
      have kg:b∈(fx (ν q.1)).toList++bI ms us (io.map λq=>ν q.1):=cU _ (by rw[hb];simp)
      rcases hold i e' b hi jh eY with⟨h3,h4⟩|h3
      ·exact(oW b kg).elim (λh'=>ω) h4
      ·exact kt w6 h3 kg
     have yZ:=Mem.xU (c:=c) hm (id:=q.1) (v:=ν q.1) (e:= .obj τ (rq x)) (λe' uF=>by rw[w5]at uF;cases uF;simp[br.mut]) h1 pf (λb hb=>kH b (cU _ (by rw[hb];simp))) (λb e0 l0 he=>by cases he) (.inr rfl)
     have hνe:updν ν q.1 (ν q.1)=ν:=by funext i;unfold updν;split<;>simp_all
     rw[hνe]at yZ
     have akG: ∀(q':Nat×AM),q'∈io→q'.1≠q.1:=λq' oT e=>CP.1 (cV.2 ⟨q',oT,e⟩)
     obtain⟨ν',r1,r2,r3,r4,r5,r6⟩:=nh (ms:=ms) (x:=ux x) (us:=us) (ps:=io.map λq=>ν q.1) (id:=id+1) (io:=io) (used:=used++(fx (ν q.1)).toList) yZ h2 rfl akF CP.2
      (λq' oT=>by rw[az _ _ (akG q' oT)];exact Ab q' (a8 _ oT))
      (λi h3 h4=>by
       have:i≠q.1:=ω
       rw[az _ _ this]
       exact jx i ω (by simp only[aT];omega))
      (λi e b hi jh hb=>by
       by_cases cm:i=q.1
       ·subst cm;exact .inr (dC _ (by rw[hb];simp))
       ·rw[az _ _ cm]at hi
        exact(hold i e b hi jh hb).imp (λh=>h) (cU _))
      (by rw[bD];exact w6) (λb hb=>oW b (dC _ hb)) (λb hb=>kH b (dC _ hb))
      (λb hb hb0=>by
       obtain⟨p,hp,hpb⟩:=Gz b (dC _ hb) hb0
       rcases bc.1 hp with rfl|hp
       ·exact absurd (kt (pK.1 w6).2.1 (b:=b) (by rw[hpb];simp)) (by simpa using hb)
       ·exact⟨p,hp,hpb⟩) (λq' oT=>xf q' (a8 _ oT))
     refine⟨ν',r1,r2,λi hi=> ?_,λi h3 h4=> ?_,λi h3 h4 e he=> ?_,λq' oT=> ?_⟩
     ·exact r3 i (by
       by_cases cm:i=q.1
       ·subst cm;rw[ay];simp
       ·rw[az _ _ cm];exact hi)
     ·simp only[keys,bV,bc,not_or]at h3
      have:=r4 i h3.2 (by simp only[aT]at h4;omega)
      rw[az _ _ h3.1]at this
      exact this
     ·by_cases h5:id+1≤i
      ·exact r5 i h5 (by simp only[aT]at h4;omega) e he
      ·have cm:i=id:=ω
       subst cm
       by_cases hk:i∈keys io
       ·obtain⟨q',oT,FE⟩:=cV.1 hk
        have h9:=Ab q' (a8 _ oT)
        rw[FE,jx i (aH _) (by simp)]at h9
        cases h9
       ·have:=r4 i hk (.inl ω)
        have kQ:i≠q.1:=ω
        rw[az _ _ kQ,jx i (aH _) (by simp)]at this
        have he:c4 (cq H q.1 (some (br.obj τ (rq x)))) (iC ms (ux x) (i+1) io).2.1 i=some e:=he
        rw[this]at he;cases he
     ·rcases bc.1 oT with rfl|oT
      ·have:=r4 q'.1 CP.1 ω
       rw[ay]at this
       exact .inl ⟨τ,rq x,acx.symm,this⟩
      ·exact r6 q' oT
   |lo τ=>
    cases io with
    |nil=>simp at Jf
    |cons q io=>
     simp only[bV,fT]at Jf
     obtain⟨rfl,rfl⟩:=Jf
     simp only[nE,bV,fT]at DU
     obtain⟨acx,akF⟩:=DU
     simp only[keys,bV,A2]at CP
     have YF:bI (.lo τ::ms) us (ν q.1::io.map λq=>ν q.1)=(fx (ν q.1)).toList++bI ms us (io.map λq=>ν q.1):=rfl
     rw[YF]at w6 oW kH Gz
     have w5:=Ab q bt
     have zA:q.1<id∨id+(ms.length+1)≤q.1:=by
      rcases oc q.1 id with h'|h'
      ·exact .inl h'
      ·rcases oc q.1 (id+(ms.length+1))with LP|LP
       ·rw[jx q.1 h' LP]at w5;cases w5
       ·exact .inr LP
     simp only[A1]at h1
     have pf: ∀b,fx (ν q.1)=some b→ ∀i e',H i=some e'→e'.mut→fx (ν i)≠some b:=by
      intro b hb i e' hi jh eY
      have kg:b∈(fx (ν q.1)).toList++bI ms us (io.map λq=>ν q.1):=cU _ (by rw[hb];simp)
      rcases hold i e' b hi jh eY with⟨h3,h4⟩|h3
      ·exact(oW b kg).elim (λh'=>ω) h4
      ·exact kt w6 h3 kg
     have yZ:=Mem.xU (c:=c) hm (id:=q.1) (v:=ν q.1) (e:= .own τ (rq x)) (λe' uF=>by rw[w5]at uF;cases uF;simp[br.mut]) h1 pf (λb hb=>kH b (cU _ (by rw[hb];simp))) (λb e0 l0 _ hb=>xf q bt τ acx.symm b hb) (.inr rfl)
     have hνe:updν ν q.1 (ν q.1)=ν:=by funext i;unfold updν;split<;>simp_all
     rw[hνe]at yZ
     have akG: ∀(q':Nat×AM),q'∈io→q'.1≠q.1:=λq' oT e=>CP.1 (cV.2 ⟨q',oT,e⟩)
     obtain⟨ν',r1,r2,r3,r4,r5,r6⟩:=nh (ms:=ms) (x:=ux x) (us:=us) (ps:=io.map λq=>ν q.1) (id:=id+1) (io:=io) (used:=used++(fx (ν q.1)).toList) yZ h2 rfl akF CP.2
      (λq' oT=>by rw[az _ _ (akG q' oT)];exact Ab q' (a8 _ oT))
      (λi h3 h4=>by
       have:i≠q.1:=ω
       rw[az _ _ this]
       exact jx i ω (by simp only[aT];omega))
      (λi e b hi jh hb=>by
       by_cases cm:i=q.1
       ·subst cm;exact .inr (dC _ (by rw[hb];simp))
       ·rw[az _ _ cm]at hi
        exact(hold i e b hi jh hb).imp (λh=>h) (cU _))
      (by rw[bD];exact w6) (λb hb=>oW b (dC _ hb)) (λb hb=>kH b (dC _ hb))
      (λb hb hb0=>by
       obtain⟨p,hp,hpb⟩:=Gz b (dC _ hb) hb0
       rcases bc.1 hp with rfl|hp
       ·exact absurd (kt (pK.1 w6).2.1 (b:=b) (by rw[hpb];simp)) (by simpa using hb)
       ·exact⟨p,hp,hpb⟩) (λq' oT=>xf q' (a8 _ oT))
     refine⟨ν',r1,r2,λi hi=> ?_,λi h3 h4=> ?_,λi h3 h4 e he=> ?_,λq' oT=> ?_⟩
     ·exact r3 i (by
       by_cases cm:i=q.1
       ·subst cm;rw[ay];simp
       ·rw[az _ _ cm];exact hi)
     ·simp only[keys,bV,bc,not_or]at h3
      have:=r4 i h3.2 (by simp only[aT]at h4;omega)
      rw[az _ _ h3.1]at this
      exact this
     ·by_cases h5:id+1≤i
      ·exact r5 i h5 (by simp only[aT]at h4;omega) e he
      ·have cm:i=id:=ω
       subst cm
       by_cases hk:i∈keys io
       ·obtain⟨q',oT,FE⟩:=cV.1 hk
        have h9:=Ab q' (a8 _ oT)
        rw[FE,jx i (aH _) (by simp)]at h9
        cases h9
       ·have:=r4 i hk (.inl ω)
        have kQ:i≠q.1:=ω
        rw[az _ _ kQ,jx i (aH _) (by simp)]at this
        have he:c4 (cq H q.1 (some (br.own τ (rq x)))) (iC ms (ux x) (i+1) io).2.1 i=some e:=he
        rw[this]at he;cases he
     ·rcases bc.1 oT with rfl|oT
      ·have:=r4 q'.1 CP.1 ω
       rw[ay]at this
       exact .inr ⟨τ,rq x,acx.symm,this⟩
      ·exact r6 q' oT
   |v τ=>simp[AM.iV]at GX
   |own τ=>simp[AM.iV]at GX
   |fn f τ=>simp[AM.iV]at GX
   |ptr τ=>simp[AM.iV]at GX
   |jH τ=>simp[AM.iV]at GX
   |sp _ _ _=>simp[AM.iV]at GX
  ·
   have BE:H id=none:=jx id (aH _) (by simp)
   cases m with
   |io τ=>simp[AM.iV]at GX
   |lo τ=>simp[AM.iV]at GX
   |fn f τ=>simp[AM.acu]at hmf
   |jH τ=>simp[AM.acu]at hmf
   |v τ=>
    have YF:bI (.v τ::ms) (v::EX) ps=bI ms EX ps:=rfl
    rw[YF]at w6 oW kH Gz
    simp only[A1]at h1
    obtain⟨ν',r1,r2,r3,r4,r5,r6⟩:=nh (ms:=ms) (x:=ux x) (us:=EX) (ps:=ps) (id:=id+1) (io:=io) (used:=used) hm h2 Jf (by simpa [nE]using DU) CP Ab (λi h3 h4=>jx i ω (by simp only[aT];omega)) hold w6 oW kH Gz xf
    refine⟨ν',r1,?_,r3,λi h3 h4=>r4 i h3 (by simp only[aT]at h4;omega),λi h3 h4 e he=> ?_,r6⟩
    ·simp only[xC,jQ,VR];exact⟨h1,r2⟩
    ·by_cases h5:id+1≤i
     ·exact r5 i h5 (by simp only[aT]at h4;omega) e he
     ·have cm:i=id:=ω
      subst cm
      by_cases hk:i∈keys io
      ·obtain⟨q',oT,FE⟩:=cV.1 hk
       have h9:=Ab q' oT
       rw[FE,BE]at h9;cases h9
      ·have:=r4 i hk (.inl ω)
       rw[BE]at this
       have he:c4 H (iC ms (ux x) (i+1) io).2.1 i=some e:=he
       rw[this]at he;cases he
   |own τ=>
    have YF:bI (.own τ::ms) (v::EX) ps=(fx v).toList++bI ms EX ps:=rfl
    rw[YF]at w6 oW kH Gz
    simp only[A1]at h1
    have pf: ∀b,fx v=some b→ ∀i e',H i=some e'→e'.mut→fx (ν i)≠some b:=by
     intro b hb i e' hi jh eY
     have kg:b∈(fx v).toList++bI ms EX ps:=cU _ (by rw[hb];simp)
     rcases hold i e' b hi jh eY with⟨h3,h4⟩|h3
     ·exact(oW b kg).elim (λh'=>ω) h4
     ·exact kt w6 h3 kg
    have YG: ∀b,fx v=some b→ ¬c.M0 b:=by
     intro b hb h0
     have kg:b∈(fx v).toList:=by rw[hb];simp
     obtain⟨p,hp,hpb⟩:=Gz b (cU _ kg) h0
     exact kt (pK.1 w6).2.1 kg (RR.GW h2 p hp b hpb)
    have yZ:=Mem.xU (c:=c) hm (id:=id) (v:=v) (e:= .own τ (rq x)) (λe' uF=>by rw[BE]at uF;cases uF) h1 pf (λb hb=>kH b (cU _ (by rw[hb];simp))) (λb e0 l0 _ hb=>YG b hb) (.inl BE)
    have zA: ∀q∈io,q.1≠id:=λq hq e=>by
     have h9:=Ab q hq
     rw[e,BE]at h9;cases h9
    have hν2: ∀i,i≠id→updν ν id v i=ν i:=λi hi=>by simp[updν,hi]
    obtain⟨ν',r1,r2,r3,r4,r5,r6⟩:=nh (ms:=ms) (x:=ux x) (us:=EX) (ps:=ps) (id:=id+1) (io:=io) (used:=used++(fx v).toList) yZ h2
     (by rw[Jf];exact p4 λq hq=>(hν2 _ (zA q hq)).symm) (by simpa [nE]using DU) CP
     (λq hq=>by rw[az _ _ (zA q hq)];exact Ab q hq)
     (λi h3 h4=>by rw[az _ _ ω];exact jx i ω (by simp only[aT];omega))
     (λi e b hi jh hb=>by
      by_cases cm:i=id
      ·subst cm
       have:updν ν i v i=v:=by simp[updν]
       rw[this]at hb
       exact .inr (dC _ (by rw[hb];simp))
      ·rw[az _ _ cm]at hi
       rw[hν2 i cm]at hb
       exact(hold i e b hi jh hb).imp (λh=>h) (cU _))
     (by rw[bD];exact w6) (λb hb=>oW b (dC _ hb)) (λb hb=>kH b (dC _ hb)) (λb hb=>Gz b (dC _ hb)) (λq hq e he b hb=>xf q hq e he b (by rw[hν2 _ (zA q hq)]at hb;exact hb))
    have YH:id∉keys io:=λhk=>by
     obtain⟨q,hq,FE⟩:=cV.1 hk
     exact zA q hq FE
    have pN:c4 (cq H id (some (.own τ (rq x)))) (iC ms (ux x) (id+1) io).2.1 id=some (.own τ (rq x)):=by
     rw[r4 id YH (.inl ω),ay]
    refine⟨ν',r1,?_,λi hi=> ?_,λi h3 h4=> ?_,λi h3 h4 e he=> ?_,r6⟩
    ·simp only[xC,jQ,VR]
     refine⟨⟨?_,?_⟩,r2⟩
     ·show c4 (cq H id (some (.own τ (rq x)))) (iC ms (ux x) (id+1) io).2.1 id≠none
      rw[pN];simp
     ·rw[r3 id (by rw[ay];simp)];simp[updν]
    ·have cm:i≠id:=λe=>hi (e▸BE)
     rw[r3 i (by rw[az _ _ cm];exact hi),hν2 i cm]
    ·have cm:i≠id:=by simp only[aT]at h4;omega
     have:=r4 i h3 (by simp only[aT]at h4;omega)
     rw[az _ _ cm]at this
     exact this
    ·by_cases h5:id+1≤i
     ·exact r5 i h5 (by simp only[aT]at h4;omega) e he
     ·have cm:i=id:=ω
      subst cm
      have he:c4 (cq H i (some (.own τ (rq x)))) (iC ms (ux x) (i+1) io).2.1 i=some e:=he
      rw[pN]at he;cases he
      exact .inl ⟨τ,_,rfl⟩
   |sp τ n e=>
    simp only[A1]at h1
    obtain⟨cs,ki,u,l,z,hv,hq,Yu,uw,hu,sC⟩:=h1
    obtain⟨x1,Sa,_,avI,hz⟩:=GH sC
    cases Sa
    obtain⟨z0,zI,FF⟩:=hz []
    have hrz:Rd w M τ (eJ ki (gE τ n) [.slice none 0 0]) z0:=by
     obtain⟨υ,y,o,k',hf,uv,Uf⟩:=lf (FF _ some)
     obtain⟨rfl,rfl⟩:=hf.eq
     obtain⟨e1,EV⟩:=bz uv
     obtain⟨x',o7,_,kE⟩:=Uf _ _ EV
     cases o7
     refine kE w M ki _ Yu ?_
     have VO:Rd w M (.slice e) [.slice none 0 0] []:=by
      simp only[Rd]
      exact⟨none,0,rfl,aH _,λi hi=>by simp at hi⟩
     exact VO.apm _
    have Vz:xC (.sp τ n e) (rq x) id=(.Jo τ z0 n id,[(id,some (.own e l))]):=by
     simp only[xC]
     rw[avI,zI]
    show ∃ν',Mem c (c4 H ((xC (.sp τ n e) (rq x) id).2++(iC ms (ux x) (id+1) io).2.1)) w M ν'∧jQ w M (c4 H ((xC (.sp τ n e) (rq x) id).2++(iC ms (ux x) (id+1) io).2.1)) ν' ((xC (.sp τ n e) (rq x) id).1::(iC ms (ux x) (id+1) io).1) (v::EX)∧(∀i,H i≠none→ν' i=ν i)∧
     (∀i,i∉keys io→(i<id∨id+(AM.sp τ n e::ms).length≤i)→c4 H ((xC (.sp τ n e) (rq x) id).2++(iC ms (ux x) (id+1) io).2.1) i=H i)∧(∀i,id≤i→i<id+(AM.sp τ n e::ms).length→ ∀e9,c4 H ((xC (.sp τ n e) (rq x) id).2++(iC ms (ux x) (id+1) io).2.1) i=some e9→(∃e0 l0,e9= .own e0 l0)∨ ∃τ0 z0,e9= .obj τ0 z0)∧
     (∀q∈io,IoE (c4 H ((xC (.sp τ n e) (rq x) id).2++(iC ms (ux x) (id+1) io).2.1)) q)
    rw[Vz]
    have YF:bI (.sp τ n e::ms) (v::EX) ps=(fx u).toList++bI ms EX ps:=by
     show dz (.sp τ n e) v++bI ms EX ps=_
     rw[hv,(y6 hq Yu uw).1]
    rw[YF]at w6 oW kH Gz
    have pf: ∀b,fx u=some b→ ∀i e',H i=some e'→e'.mut→fx (ν i)≠some b:=by
     intro b hb i e' hi jh eY
     have kg:b∈(fx u).toList++bI ms EX ps:=cU _ (by rw[hb];simp)
     rcases hold i e' b hi jh eY with⟨h3,h4⟩|h3
     ·exact(oW b kg).elim (λh'=>ω) h4
     ·exact kt w6 h3 kg
    have YG: ∀b,fx u=some b→ ¬c.M0 b:=by
     intro b hb h0
     have kg:b∈(fx u).toList:=by rw[hb];simp
     obtain⟨p,hp,hpb⟩:=Gz b (cU _ kg) h0
     exact kt (pK.1 w6).2.1 kg (RR.GW h2 p hp b hpb)
    have yZ:=Mem.xU (c:=c) hm (id:=id) (v:=u) (e:= .own e l) (λe' uF=>by rw[BE]at uF;cases uF) hu pf (λb hb=>kH b (cU _ (by rw[hb];simp))) (λb e0 l0 _ hb=>YG b hb) (.inl BE)
    have zA: ∀q∈io,q.1≠id:=λq hq e=>by
     have h9:=Ab q hq
     rw[e,BE]at h9;cases h9
    have hν2: ∀i,i≠id→updν ν id u i=ν i:=λi hi=>by simp[updν,hi]
    obtain⟨ν',r1,r2,r3,r4,r5,r6⟩:=nh (ms:=ms) (x:=ux x) (us:=EX) (ps:=ps) (id:=id+1) (io:=io) (used:=used++(fx u).toList) yZ h2
     (by rw[Jf];exact p4 λq hq=>(hν2 _ (zA q hq)).symm) (by simpa [nE]using DU) CP
     (λq hq=>by rw[az _ _ (zA q hq)];exact Ab q hq)
     (λi h3 h4=>by rw[az _ _ ω];exact jx i ω (by simp only[aT];omega))
     (λi e9 b hi jh hb=>by
      by_cases cm:i=id
      ·subst cm
       have:updν ν i u i=u:=by simp[updν]
       rw[this]at hb
       exact .inr (dC _ (by rw[hb];simp))
      ·rw[az _ _ cm]at hi
       rw[hν2 i cm]at hb
       exact(hold i e9 b hi jh hb).imp (λh=>h) (cU _))
     (by rw[bD];exact w6) (λb hb=>oW b (dC _ hb)) (λb hb=>kH b (dC _ hb)) (λb hb=>Gz b (dC _ hb)) (λq hq e he b hb=>xf q hq e he b (by rw[hν2 _ (zA q hq)]at hb;exact hb))
    have YH:id∉keys io:=λhk=>by
     obtain⟨q,hq,FE⟩:=cV.1 hk
     exact zA q hq FE
    have pN:c4 (cq H id (some (.own e l))) (iC ms (ux x) (id+1) io).2.1 id=some (.own e l):=by
     rw[r4 id YH (.inl ω),ay]
    refine⟨ν',r1,?_,λi hi=> ?_,λi h3 h4=> ?_,λi h3 h4 e9 he=> ?_,r6⟩
    ·simp only[jQ,VR]
     refine⟨⟨cs,eJ ki (gE τ n) [.slice none 0 0],hv,hrz,?_,?_,hq⟩,r2⟩
     ·rw[r3 id (by rw[ay];simp),u2 (y6 (e:=e) hq Yu uw).2,uw];simp[updν]
     ·show c4 (cq H id (some (.own e l))) (iC ms (ux x) (id+1) io).2.1 id≠none
      rw[pN];simp
    ·have cm:i≠id:=λe=>hi (e▸BE)
     rw[r3 i (by rw[az _ _ cm];exact hi),hν2 i cm]
    ·have cm:i≠id:=by simp only[aT]at h4;omega
     have:=r4 i h3 (by simp only[aT]at h4;omega)
     rw[az _ _ cm]at this
     exact this
    ·by_cases h5:id+1≤i
     ·exact r5 i h5 (by simp only[aT]at h4;omega) e9 he
     ·have cm:i=id:=ω
      subst cm
      have he:c4 (cq H i (some (.own e l))) (iC ms (ux x) (i+1) io).2.1 i=some e9:=he
      rw[pN]at he;cases he
      exact .inl ⟨e,_,rfl⟩
   |ptr τ=>
    have YF:bI (.ptr τ::ms) (v::EX) ps=(fx v).toList++bI ms EX ps:=rfl
    rw[YF]at w6 oW kH Gz
    simp only[A1]at h1
    have pf: ∀b,fx v=some b→ ∀i e',H i=some e'→e'.mut→fx (ν i)≠some b:=by
     intro b hb i e' hi jh eY
     have kg:b∈(fx v).toList++bI ms EX ps:=cU _ (by rw[hb];simp)
     rcases hold i e' b hi jh eY with⟨h3,h4⟩|h3
     ·exact(oW b kg).elim (λh'=>ω) h4
     ·exact kt w6 h3 kg
    have yZ:=Mem.xU (c:=c) hm (id:=id) (v:=v) (e:= .obj τ (rq x)) (λe' uF=>by rw[BE]at uF;cases uF) h1 pf (λb hb=>kH b (cU _ (by rw[hb];simp))) (λb e0 l0 he _=>by cases he) (.inl BE)
    have zA: ∀q∈io,q.1≠id:=λq hq e=>by
     have h9:=Ab q hq
     rw[e,BE]at h9;cases h9
    have hν2: ∀i,i≠id→updν ν id v i=ν i:=λi hi=>by simp[updν,hi]
    obtain⟨ν',r1,r2,r3,r4,r5,r6⟩:=nh (ms:=ms) (x:=ux x) (us:=EX) (ps:=ps) (id:=id+1) (io:=io) (used:=used++(fx v).toList) yZ h2
     (by rw[Jf];exact p4 λq hq=>(hν2 _ (zA q hq)).symm) (by simpa [nE]using DU) CP
     (λq hq=>by rw[az _ _ (zA q hq)];exact Ab q hq)
     (λi h3 h4=>by rw[az _ _ ω];exact jx i ω (by simp only[aT];omega))
     (λi e b hi jh hb=>by
      by_cases cm:i=id
      ·subst cm
       have:updν ν i v i=v:=by simp[updν]
       rw[this]at hb
       exact .inr (dC _ (by rw[hb];simp))
      ·rw[az _ _ cm]at hi
       rw[hν2 i cm]at hb
       exact(hold i e b hi jh hb).imp (λh=>h) (cU _))
     (by rw[bD];exact w6) (λb hb=>oW b (dC _ hb)) (λb hb=>kH b (dC _ hb)) (λb hb=>Gz b (dC _ hb)) (λq hq e he b hb=>xf q hq e he b (by rw[hν2 _ (zA q hq)]at hb;exact hb))
    have YH:id∉keys io:=λhk=>by
     obtain⟨q,hq,FE⟩:=cV.1 hk
     exact zA q hq FE
    have pN:c4 (cq H id (some (.obj τ (rq x)))) (iC ms (ux x) (id+1) io).2.1 id=some (.obj τ (rq x)):=by
     rw[r4 id YH (.inl ω),ay]
    refine⟨ν',r1,?_,λi hi=> ?_,λi h3 h4=> ?_,λi h3 h4 e he=> ?_,r6⟩
    ·simp only[xC,jQ,VR]
     refine⟨⟨_,pN,trivial,?_⟩,r2⟩
     simp only[A1,ER]at h1
     obtain⟨b,cs,t,YE,_⟩:=h1
     exact⟨b,by rw[r3 id (by rw[ay];simp)];simp[updν,YE],YE⟩
    ·have cm:i≠id:=λe=>hi (e▸BE)
     rw[r3 i (by rw[az _ _ cm];exact hi),hν2 i cm]
    ·have cm:i≠id:=by simp only[aT]at h4;omega
     have:=r4 i h3 (by simp only[aT]at h4;omega)
     rw[az _ _ cm]at this
     exact this
    ·by_cases h5:id+1≤i
     ·exact r5 i h5 (by simp only[aT]at h4;omega) e he
     ·have cm:i=id:=ω
      subst cm
      have he:c4 (cq H i (some (.obj τ (rq x)))) (iC ms (ux x) (i+1) io).2.1 i=some e:=he
      rw[pN]at he;cases he
      exact .inr ⟨τ,_,rfl⟩
end VM
end
