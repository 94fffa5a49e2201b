/- A part of the proof of BookAtOnce of layer 18: a machine that reads a function of the program as an equation between values. -/
import Derived.Test.YthkjjlcblhbifaaGreatVm3
set_option linter.all false
section
namespace VM
open Go
variable{P:Program}{E:Env}{o:Oper}{a:Act}{w:World}{M:Nat→Prop}{ν:Nat→Value}{σ:St}{c:Ctx}{α:Type}{r:α}{next:Act→World→Prop}{Q:Exit→Act→World→Prop}
def qK:{m:AM}→{ms:List AM}→HP (m::ms)→m.den
 |_,[],x=>x
 |_,_::_,x=>x.1
def tV:{m:AM}→{ms:List AM}→HP (m::ms)→HP ms
 |_,[],_=>()
 |_,_::_,x=>x.2
def AM.iQ:AM→Bool
 | .io _| .lo _=>true
 |_=>false
def AM.abW:AM→Bool
 | .fn _ _| .jd _=>true
 |_=>false
def A1(w:World)(M:Nat→Prop):(m:AM)→m.den→Value→Prop
 | .v τ,x,v=>V w M τ v x
 | .own e,x,v=>ER w M v (.own e x)
 | .io τ,x,v=>ER w M v (.obj τ x)
 | .fn f τ,x,v=>VR w M (λ_=>none) (λ_=>undef) (.NL f (qz τ x)) v
 | .ptr τ,x,v=>ER w M v (.obj τ x)
 | .jd τ,x,v=>VR w M (λ_=>none) (λ_=>undef) (.rR τ x) v
 | .lo e,x,v=>ER w M v (.own e x)
 | .sp τ n e,x,v=> ∃(cs:Array Value) (ka:List Value) (u:Value) (l:List e.den) (z:τ.den),v= .agg cs∧ve τ n=true∧Rd w M τ ka z∧cs.toList=eN ka (gq τ n) [u]∧ER w M u (.own e l)∧
  fX τ z n (fun υ' _ k'=>cJ (.slice e) υ' l k') some=some x
def aoU(n:Nat):Value→Option Value
 | .agg cs=>cs.toList[n]?
 |_=>none
def kD(w:World)(M:Nat→Prop):(ms:List AM)→HP ms→List Value→Prop
 |[],_,vs=>vs=[]
 |_::ms,x,vs=> ∃v Nj,vs=v::Nj∧A1 w M _ (qK x) v∧kD w M ms (tV x) Nj
def dw:AM→Value→List Nat
 | .own _,v| .io _,v| .ptr _,v| .lo _,v=>(fC v).toList
 | .sp τ n _,v=>((aoU (gq τ n) v).bind fC).toList
 |_,_=>[]
theorem yA{τ:Ty}{n:Nat}{e:Ty}{cs:Array Value}{ka:List Value}{u:Value}{z:τ.den}(hq:ve τ n=true)(hr:Rd w M τ ka z)(tU:cs.toList=eN ka (gq τ n) [u]):dw (.sp τ n e) (.agg cs)=(fC u).toList∧gq τ n<ka.length:=by
 obtain⟨e',_,hf⟩:=zB hq
 obtain⟨y,o,I5⟩:=kZ hf z
 have hb:=I5.bound
 have ho:=I5.eq.2
 subst ho
 rw[show(Ty.slice e').size=1 from rfl]at hb
 have hl:=hr.length
 have eT:gq τ n<ka.length:=ω
 refine⟨?_,eT⟩
 show((cs.toList[gq τ n]?).bind fC).toList=_
 rw[tU,yt eT];rfl
def eA:List AM→List Value→List Nat
 |m::ms,v::vs=>dw m v++eA ms vs
 |_,_=>[]
def fP:List AM→List Value→List Value
 |m::ms,v::vs=>if m.iQ then v::fP ms vs else fP ms vs
 |_,_=>[]
def np:List AM→List AM
 | .io τ::ms=> .io τ::np ms
 | .lo e::ms=> .lo e::np ms
 |_::ms=>np ms
 |[]=>[]
def RR(w:World)(M:Nat→Prop):(ms:List AM)→HP ms→List Value→List Value→Prop
 |[],_,vs,ps=>vs=[]∧ps=[]
 |m::ms,x,vs,ps=>(∃p I8,m.iQ=true∧ps=p::I8∧A1 w M m (qK x) p∧RR w M ms (tV x) vs I8)∨
  (∃v Nj,m.iQ=false∧m.abW=false∧vs=v::Nj∧A1 w M m (qK x) v∧RR w M ms (tV x) Nj ps)
def bH:List AM→List Value→List Value→List Nat
 |[],_,_=>[]
 |m::ms,vs,ps=>if m.iQ then dw m (ps.headD undef)++bH ms vs ps.tail else dw m (vs.headD undef)++bH ms vs.tail ps
def Ty.flat:Ty→Bool
 | .slice _=>false
 | .pair a b=>a.flat&&b.flat
 | .arr _ e=>e.flat
 |_=>true
def AM.flat:AM→Bool
 | .v τ| .io τ| .own τ| .ptr τ| .lo τ=>τ.flat
 | .fn _ _| .jd _| .sp _ _ _=>false
def xp(vs:List Value):Value:=if h:vs.length=1 then vs[0]else .tuple vs.toArray
structure Left(w:World)(M0:Nat→Prop)(hs:List Nat)(w':World)(M':Nat→Prop):Prop where
 sub: ∀b,M0 b→M' b
 Gn: ∀b,M' b→b<w'.heap.size
 less: ∀b,b<w.heap.size→M' b→M0 b∨b∈hs
 frame: ∀b,b<w.heap.size→b∉hs→w'.heap[b]? =w.heap[b]?
 size:w.heap.size≤w'.heap.size
 os:w'.os=w.os
 tape:w'.tape=w.tape
 output:w'.output=w.output
def Oa(P:Program)(f:FuncId)(args:Array Value)(w:World)(R:Value→World→Prop):Prop:=
 ∀(o:Oper) (a:Act) (next:Act→World→Prop) (Q:Exit→Act→World→Prop),(∀v w',R v w'→next (a.put o.dst v) w')→o.upon P a next Q ((callFunc f args).run P w)
theorem Oa.mono{f:FuncId}{args:Array Value}{R R':Value→World→Prop}(h:Oa P f args w R)(hr: ∀v w',R v w'→R' v w'):Oa P f args w R':=
 λo a next Q hn=>h o a next Q λv w' hv=>hn v w' (hr v w' hv)
theorem tW{f:FuncId}{fn:Func}{args:Array Value}{R:Value→World→Prop}(hf:P.funcs[f]? =some fn)(hn:(fn.name== "runtime.NumGoroutine")=false)(hb:fn.body.isNone=false)
  (h:Calls P f args w λe w'=> ∃v,e= .returned v∧R v w'):Oa P f args w R:=by
 intro o a next Q wg
 have hn': ¬fn.name= "runtime.NumGoroutine" :=by simpa using hn
 have fa: ¬fn.body=none:=λe=>by rw[e]at hb;cases hb
 have:(callFunc f args).run P w= .ok (.enter f args) w:=by simp[callFunc,hf,hn',fa]
 rw[this,Oper.upon_enter]
 refine Calls.mono h ?_
 rintro e w' ⟨v,rfl,hR⟩
 exact wg v w' hR
theorem Ju{f:FuncId}{args:Array Value}{R:Value→World→Prop}{v:Value}{w':World}(h:(callFunc f args).run P w= .ok (.value v) w')(hR:R v w'):Oa P f args w R:=by
 intro o a next Q wg
 rw[h,Oper.upon_value]
 exact wg v w' hR
structure jw(P:Program)(f:FuncId)(S:m1):Prop where
 quiet:S.quiet=true→S.res.all AM.flat=true
 ios:np S.args=np S.res
 call: ∀(M0:Nat→Prop) (w:World) (vs:List Value) (x:HP S.args) (y:HP S.res),(∀b,M0 b→b<w.heap.size)→
  kD w (λb=>M0 b∨b∈eA S.args vs) S.args x vs→(eA S.args vs).Nodup→(∀b∈eA S.args vs,¬M0 b)→S.run x=some y→
  Oa P f vs.toArray w λv w'=> ∃us M',v=xp us∧RR w' M' S.res y us (fP S.args vs)∧Left w M0 (eA S.args vs) w' M'∧
   (bH S.res us (fP S.args vs)).Nodup∧ ∀b∈bH S.res us (fP S.args vs),¬M0 b
theorem Rd.flat{w:World}{M M':Nat→Prop}: ∀{τ:Ty} {cs:List Value} {x:τ.den},τ.flat=true→Rd w M τ cs x→Rd w M' τ cs x
 | .int _,_,_,_,h| .bool,_,_,_,h| .str,_,_,_,h| .unit,_,_,_,h=>h
 | .slice _,_,_,hf,_=>by simp[Ty.flat]at hf
 | .pair a b,_,_,hf,h=>by
  simp only[Ty.flat,bM]at hf
  simp only[Rd]at h ⊢
  obtain⟨c1,c2,rfl,h1,h2⟩:=h
  exact⟨c1,c2,rfl,h1.flat hf.1,h2.flat hf.2⟩
 | .arr n e,_,x,hf,h=>by
  simp only[Ty.flat]at hf
  simp only[Rd]at h ⊢
  obtain⟨hn,U2,hc,rfl,hr⟩:=h
  exact⟨hn,U2,hc,rfl,λi hi nV=>(hr i hi nV).flat hf⟩
theorem A1.flat{w:World}{M M':Nat→Prop}(hM: ∀b,M b→M' b){m:AM}{x:m.den}{v:Value}(hf:m.flat=true)(h:A1 w M m x v):A1 w M' m x v:=by
 cases m with
 |v τ=>
  simp only[A1,V,AM.flat]at h hf ⊢
  split
  ·rename_i ha;rw[aj ha]at h;obtain⟨cs,h1,h⟩:=h;exact⟨cs,h1,h.flat hf⟩
  ·rename_i ha;rw[ah ha]at h;exact h.flat hf
 |own e=>
  simp only[A1,ER,AM.flat]at h hf ⊢
  rcases h with h|⟨b,cs,t,cap,h1,h2,h3,h4,h5,h6,h7,h8⟩
  ·exact .inl h
  ·exact .inr ⟨b,cs,t,cap,h1,h2,hM b h3,h4,h5,h6,h7,λi hi=>(h8 i hi).flat hf⟩
 |io τ=>
  simp only[A1,ER,AM.flat]at h hf ⊢
  obtain⟨b,cs,t,h1,h2,h3,h4⟩:=h
  exact⟨b,cs,t,h1,h2,hM b h3,h4.flat hf⟩
 |fn f τ=>simp[AM.flat]at hf
 |jd τ=>simp[AM.flat]at hf
 |sp τ n e=>simp[AM.flat]at hf
 |lo e=>
  simp only[A1,ER,AM.flat]at h hf ⊢
  rcases h with h|⟨b,cs,t,cap,h1,h2,h3,h4,h5,h6,h7,h8⟩
  ·exact .inl h
  ·exact .inr ⟨b,cs,t,cap,h1,h2,hM b h3,h4,h5,h6,h7,λi hi=>(h8 i hi).flat hf⟩
 |ptr τ=>
  simp only[A1,ER,AM.flat]at h hf ⊢
  obtain⟨b,cs,t,h1,h2,h3,h4⟩:=h
  exact⟨b,cs,t,h1,h2,hM b h3,h4.flat hf⟩
theorem RR.flat{w:World}{M M':Nat→Prop}(hM: ∀b,M b→M' b): ∀{ms:List AM} {x:HP ms} {vs ps:List Value},ms.all AM.flat=true→RR w M ms x vs ps→RR w M' ms x vs ps
 |[],_,_,_,_,h=>h
 |m::ms,x,vs,ps,hf,h=>by
  simp only[kR,bM]at hf
  simp only[RR]at h ⊢
  rcases h with⟨p,I8,h1,h2,h3,h4⟩|⟨v,Nj,h1,h2,h3,h4,h5⟩
  ·exact .inl ⟨p,I8,h1,h2,h3.flat hM hf.1,RR.flat hM hf.2 h4⟩
  ·exact .inr ⟨v,Nj,h1,h2,h3,h4.flat hM hf.1,RR.flat hM hf.2 h5⟩
theorem A1.xq{w w':World}{M M':Nat→Prop}(k:fO w M w' M'){m:AM}{x:m.den}{v:Value}(hm: ∀b∈dw m v,w'.heap[b]? =w.heap[b]? ∧M' b)(h:A1 w M m x v):A1 w' M' m x v:=by
 cases m with
 |v τ=>exact V.bZ k h
 |own e=>
  simp only[A1]at h ⊢
  exact ER.bZ k (λ_ b hb=>hm b (by simp[dw,hb])) h
 |io τ=>
  simp only[A1]at h ⊢
  exact ER.bZ k (λ_ b hb=>hm b (by simp[dw,hb])) h
 |fn f τ=>exact VR.bZ k (.refl _ _) h
 |jd τ=>exact VR.bZ k (.refl _ _) h
 |sp τ n e=>
  simp only[A1]at h ⊢
  obtain⟨cs,ka,u,l,z,rfl,hq,hr,tU,hu,hs⟩:=h
  exact⟨cs,ka,u,l,z,rfl,hq,hr.bZ k,tU,ER.bZ k (λ_ b hb=>hm b (by rw[(yA hq hr tU).1];simp[hb])) hu,hs⟩
 |lo e=>
  simp only[A1]at h ⊢
  exact ER.bZ k (λ_ b hb=>hm b (by simp[dw,hb])) h
 |ptr τ=>
  simp only[A1]at h ⊢
  exact ER.bZ k (λ_ b hb=>hm b (by simp[dw,hb])) h
theorem kD.xq{w w':World}{M M':Nat→Prop}(k:fO w M w' M'): ∀{ms:List AM} {x:HP ms} {vs:List Value},(∀b∈eA ms vs,w'.heap[b]? =w.heap[b]? ∧M' b)→kD w M ms x vs→kD w' M' ms x vs
 |[],_,_,_,h=>h
 |m::ms,x,vs,hm,h=>by
  simp only[kD]at h ⊢
  obtain⟨v,Nj,rfl,h1,h2⟩:=h
  exact⟨v,Nj,rfl,h1.xq k (λb hb=>hm b (by simp[eA,hb])),kD.xq k (λb hb=>hm b (by simp[eA,hb])) h2⟩
theorem RR.xq{w w':World}{M M':Nat→Prop}(k:fO w M w' M'): ∀{ms:List AM} {x:HP ms} {us ps:List Value},(∀b∈bH ms us ps,w'.heap[b]? =w.heap[b]? ∧M' b)→RR w M ms x us ps→RR w' M' ms x us ps
 |[],_,_,_,_,h=>h
 |m::ms,x,us,ps,hm,h=>by
  simp only[RR]at h ⊢
  rcases h with⟨p,I8,h1,rfl,h2,h3⟩|⟨v,EN,h1,h2,rfl,h3,h4⟩
  ·simp only[bH,h1,g8,ug,uj,bk]at hm
   exact .inl ⟨p,I8,h1,rfl,h2.xq k (λb hb=>hm b (.inl hb)),RR.xq k (λb hb=>hm b (.inr hb)) h3⟩
  ·simp only[bH,h1,jL,fG,ug,uj,bk]at hm
   exact .inr ⟨v,EN,h1,h2,rfl,h3.xq k (λb hb=>hm b (.inl hb)),RR.xq k (λb hb=>hm b (.inr hb)) h4⟩
theorem Fs{H:Nat→Option bp}(hm:Mem c H w M ν){a:bA}{v:Value}(hv:VR w M H ν a v){τ:Ty}{k:τ.den→List Nat→jr→Option α}{r:α}(h:m0 true a H τ k=some r):
  ∃y rd ups,k y rd ups=some r∧((ups=[]∧V w M τ v y)∨ ∃id e l,ups=[(id,some (.pq e l))]∧H id=some (.own e l)∧
   ∀M',(∀b,M' b↔(M b∧fC (ν id)≠some b))→V w M' τ v y):=by
 unfold m0 at h
 split at h
 ·obtain⟨e,h⟩:=bw h
  subst e
  simp only[VR]at hv
  exact⟨_,[],[],h,.inl ⟨rfl,hv⟩⟩
 ·obtain⟨e,h⟩:=bw h
  subst e
  simp only[VR]at hv
  exact⟨_,[],[],h,.inl ⟨rfl,hv.1⟩⟩
 ·split at h
  ·rename_i e k' _
   simp only[VR]at hv
   obtain⟨a,rfl⟩:=hv
   refine⟨[],[],[],h,.inl ⟨rfl,V.slice.2 ?_⟩⟩
   simp only[Rd]
   exact⟨a,0,rfl,aH _,λi hi=>absurd hi (by simp)⟩
  ·cases h
 ·rename_i id
  simp only[VR]at hv
  obtain⟨_,rfl⟩:=hv
  split at h
  ·rename_i e l bg
   obtain⟨e',h⟩:=bw h
   subst e'
   refine⟨_,_,_,h,.inr ⟨id,e,l,rfl,bg,λM' hM'=> ?_⟩⟩
   obtain⟨M2,_,hV,Ly⟩:=Tr.freeze hm bg
   have:M'=M2:=by funext b;exact propext ((hM' b).trans (Ly b).symm)
   rw[this];exact hV
  ·rename_i e l bg
   obtain⟨e',h⟩:=bw h
   subst e'
   have:=hm.jO id _ bg
   simp only[ER]at this
   exact⟨_,_,_,h,.inl ⟨rfl,V.slice.2 this.1⟩⟩
  ·cases h
 ·cases h
theorem XW{H:Nat→Option bp}(hm:Mem c H w M ν): ∀{a:Ty} {x:bA} {v:Value} {k:a.den→List Nat→jr→Option α} {r:α},VR w M H ν x v→Dy x H a k=some r→
  ∃y rd ups,k y rd ups=some r∧(ups=[]→VR w M (λ_=>none) (λ_=>undef) (Dz a y) v):=by
 intro a x v k r hv h
 unfold Dy at h
 split at h
 ·rename_i a k
  split at h
  ·rename_i υ z
   obtain⟨e1,h⟩:=bw h
   subst e1
   refine⟨_,_,_,h,λ_=> ?_⟩
   simp only[Dz,VR]at hv ⊢
   exact hv
  ·cases h
 ·rename_i k0 qj
  obtain⟨y,rd,ups,h,hy⟩:=Fs hm hv h
  refine⟨y,rd,ups,h,λhu=> ?_⟩
  rcases hy with⟨_,hy⟩|⟨_,_,_,h3,_⟩
  ·have:Dz _ y= .val _ y:=by
    unfold Dz
    split
    ·exact(qj _ _ rfl HEq.rfl).elim
    ·rfl
   rw[this]
   simp only[VR];exact hy
  ·rw[hu]at h3;cases h3
theorem GH{H:Nat→Option bp}(hm:Mem c H w M ν): ∀{τ:Ty} {qG:List bA} {vs:List Value} {k:τ.den→List Nat→jr→Option α} {r:α},jN w M H ν qG vs→rT H τ qG k=some r→
  ∃x rd ups,k x rd ups=some r∧(ups=[]→jN w M (λ_=>none) (λ_=>undef) (qz τ x) vs)
 | .unit,[],[],k,r,_,h=>⟨(),[],[],h,λ_=>by simp[qz,jN]⟩
 | .pair a b,x::xs,v::vs,k,r,hv,h=>by
  simp only[jN]at hv
  unfold rT at h
  obtain⟨y,rd,ups,h,hy⟩:=XW hm hv.1 h
  obtain⟨ys,yq,jt,h,hys⟩:=GH hm hv.2 h
  refine⟨(y,ys),_,_,h,λhu=> ?_⟩
  have h1:ups=[]:=(NC.1 hu).1
  have h2:jt=[]:=(NC.1 hu).2
  simp only[qz,jN]
  exact⟨hy h1,hys h2⟩
 | .unit,[],_::_,_,_,hv,_=>by simp[jN]at hv
 |_,_::_,[],_,_,hv,_=>by simp[jN]at hv
 | .unit,_::_,_,_,_,_,h=>by simp[rT]at h
 | .pair _ _,[],_,_,_,_,h=>by simp[rT]at h
 | .int _,_,_,_,_,_,h| .bool,_,_,_,_,_,h| .str,_,_,_,_,_,h| .slice _,_,_,_,_,_,h| .arr _ _,_,_,_,_,_,h=>by simp[rT]at h
def keys{β:Type}(l:List (Nat×β)):List Nat:=l.map (·.1)
theorem mE{i:Nat}: ∀{ups:jr} {H:Nat→Option bp},i∉keys ups→cP H ups i=H i
 |[],_,_=>rfl
 |u::r,H,h=>by
  simp only[keys,bQ,a8,not_or]at h
  show cP (ca H u.1 u.2) r i=_
  rw[mE h.2,az _ _ h.1]
theorem Ba(u:Nat×Option bp)(b:jr)(hb:u.1∉keys b): ∀(a:jr) (H:Nat→Option bp),cP H (a++u::b)=ca (cP H (a++b)) u.1 u.2
 |[],H=>by
  show cP (ca H u.1 u.2) b=ca (cP H b) u.1 u.2
  induction b generalizing H with
  |nil=>rfl
  |cons v b ih=>
   simp only[keys,bQ,a8,not_or]at hb
   show cP (ca (ca H u.1 u.2) v.1 v.2) b=ca (cP (ca H v.1 v.2) b) u.1 u.2
   rw[←ih hb.2]
   congr 1
   funext i
   by_cases h1:i=v.1
   ·subst h1;rw[ay,az _ _ (fh hb.1),ay]
   ·by_cases h2:i=u.1
    ·subst h2;rw[az _ _ h1,ay,ay]
    ·rw[az _ _ h1,az _ _ h2,az _ _ h2,az _ _ h1]
 |v::a,H=>Ba u b hb a (ca H v.1 v.2)
def IoE(H:Nat→Option bp)(q:Nat×AM):Prop:=(∃(τ:Ty) (x:τ.den),q.2= .io τ∧H q.1=some (.obj τ x))∨ ∃(e:Ty) (l:List e.den),q.2= .lo e∧H q.1=some (.own e l)
theorem IoE.some{H:Nat→Option bp}{q:Nat×AM}(h:IoE H q):H q.1≠none:=by
 rcases h with⟨_,x,_,h⟩|⟨e,l,_,h⟩<;>rw[h]<;>simp
structure kE(c:Ctx)(w:World)(M:Nat→Prop)(ν:Nat→Value)(H0 H1 Hq:Nat→Option bp)(M1:Nat→Prop)(uo uf:jr)(io:List (Nat×AM))(hs:List Nat):Prop where
 mem:Mem c H1 w M1 ν
 Ob:Mem c Hq w M ν
 bZ:fO w M w M1
 ext: ∀i,i∉keys io→cP H0 (uo++uf) i=H1 i
 XX: ∀i,i∉keys io→cP H0 uo i=Hq i
 Vi: ∀q∈io,H1 q.1=some .gone∧Hq q.1=some .gone∧IoE H0 q
 ion:(keys io).Nodup
 ks: ∀i∈keys (uo++uf),∀e l,H1 i≠some (.own e l)
 ksn: ∀i∈keys (uo++uf),i∉keys io∧ ∃e l,H0 i=some (.own e l)
 fz:Fz Hq H1
 uov: ∀u∈uo,u.2=some .gone
 ufv: ∀u∈uf,∃e l,u.2=some (.pq e l)∧H0 u.1=some (.own e l)
 nd:hs.Nodup
 hM: ∀b∈hs,M1 b
 Oc: ∀b∈hs,c.B≤b∨c.may b
 none: ∀b∈hs,∀i e,Hq i=some e→e.mut→fC (ν i)≠some b
 iob: ∀b∈hs,c.M0 b→ ∃q∈io,fC (ν q.1)=some b
 same: ∀i,i∉keys (uo++uf)→i∉keys io→H1 i=H0 i
theorem kE.start{H:Nat→Option bp}(hm:Mem c H w M ν):kE c w M ν H H H M [] [] [] []:=
 ⟨hm,hm,.refl w M,λ_ _=>rfl,λ_ _=>rfl,λq hq=>by simp at hq,by simp[keys],λi hi=>by simp[keys]at hi,λi hi=>by simp[keys]at hi,.refl H,λu hu=>by simp at hu,λu hu=>by simp at hu,by simp,λb hb=>by simp at hb,λb hb=>by simp at hb,λb hb=>by simp at hb,λb hb=>by simp at hb,λ_ _ _=>rfl⟩
theorem Fz.abX{H H1:Nat→Option bp}(h:Fz H H1){i:Nat}{e:Ty}{l:List e.den}(hi:H1 i=some (.own e l)):H i=some (.own e l):=by
 rcases h i with h'|⟨e',l',_,h'⟩
 ·rw[←h',hi]
 ·rw[hi]at h';cases h'
theorem Fz.aoY{H H1:Nat→Option bp}(h:Fz H H1){i:Nat}{e:Ty}{l:e.den}(hi:H1 i=some (.obj e l)):H i=some (.obj e l):=by
 rcases h i with h'|⟨e',l',_,h'⟩
 ·rw[←h',hi]
 ·rw[hi]at h';cases h'
theorem Fz.mut{H H1:Nat→Option bp}(h:Fz H H1){i:Nat}{e:bp}(hi:H1 i=some e)(hm:e.mut):H i=some e:=by
 cases e with
 |obj=>exact h.aoY hi
 |gg=>
  rcases h i with h'|⟨e',l',_,h'⟩
  ·rw[←h',hi]
  ·rw[hi]at h';cases h'
 |own=>exact h.abX hi
 |pq=>simp[bp.mut]at hm
 |gone=>simp[bp.mut]at hm
theorem kE.freeze{H0 H1 Hq:Nat→Option bp}{M1:Nat→Prop}{uo uf:jr}{io:List (Nat×AM)}{hs:List Nat}(h:kE c w M ν H0 H1 Hq M1 uo uf io hs){id:Nat}{e:Ty}{l:List e.den}(bg:H1 id=some (.own e l)):
  ∃M2,kE c w M ν H0 (ca H1 id (some (.pq e l))) Hq M2 uo ((id,some (.pq e l))::uf) io hs∧fO w M1 w M2∧(∀b,M2 b↔(M1 b∧fC (ν id)≠some b)):=by
 obtain⟨M2,gi,_,Ly⟩:=Tr.freeze h.mem bg
 have wh:id∉keys io:=λhk=>by
  obtain⟨q,hq,rfl⟩:=cW.1 hk
  have:=(h.Vi q hq).1
  rw[bg]at this;cases this
 have Xk:id∉keys (uo++uf):=λhk=>h.ks id hk e l bg
 have aj8:id∉keys uf:=λhk=>Xk (by simp only[keys,dn,bk];exact .inr hk)
 have h0:H0 id=some (.own e l):=by rw[←h.same id Xk wh];exact bg
 have hq:Hq id=some (.own e l):=h.fz.abX bg
 have lf: ∀i,i∈keys (uo++(id,some (bp.pq e l))::uf)↔i=id∨i∈keys (uo++uf):=by
  intro i
  simp only[keys,dn,bQ,bk,a8]
  constructor
  ·rintro(h|h|h)
   ·exact .inr (.inl h)
   ·exact .inl h
   ·exact .inr (.inr h)
  ·rintro(h|h|h)
   ·exact .inr (.inl h)
   ·exact .inl h
   ·exact .inr (.inr h)
 refine⟨M2,⟨gi.mem,h.Ob,h.bZ.trans gi.bZ,λi hi=> ?_,h.XX,λq oG=> ?_,h.ion,λi hi e' l'=> ?_,λi hi=> ?_,λi=> ?_,h.uov,λu hu=> ?_,h.nd,λb hb=> ?_,h.Oc,h.none,h.iob,λi hi nV=> ?_⟩,gi.bZ,Ly⟩
 ·rw[Ba _ _ aj8]
  by_cases ch:i=id
  ·subst ch;rw[ay,ay]
  ·rw[az _ _ ch,az _ _ ch];exact h.ext i hi
 ·obtain⟨h1,h2,h3⟩:=h.Vi q oG
  have ko:q.1≠id:=λe=>wh (e▸fm oG)
  exact⟨by rw[az _ _ ko];exact h1,h2,h3⟩
 ·by_cases ch:i=id
  ·subst ch;rw[ay];intro h';cases h'
  ·rw[az _ _ ch]
   exact h.ks i (((lf i).1 hi).resolve_left ch) e' l'
 ·rcases(lf i).1 hi with rfl|hi
  ·exact⟨wh,e,l,h0⟩
  ·exact h.ksn i hi
 ·by_cases ch:i=id
  ·subst ch;exact .inr ⟨e,l,hq,ay _ _ _⟩
  ·rw[az _ _ ch];exact h.fz i
 ·rcases a8.1 hu with rfl|hu
  ·exact⟨e,l,rfl,h0⟩
  ·exact h.ufv u hu
 ·exact(Ly b).2 ⟨h.hM b hb,λfa=>h.none b hb id _ hq trivial fa⟩
 ·have ko:i≠id:=λe=>hi ((lf i).2 (.inl e))
  rw[az _ _ ko]
  exact h.same i (λh'=>hi ((lf i).2 (.inr h'))) nV
theorem kE.hand{H0 H1 Hq:Nat→Option bp}{M1:Nat→Prop}{uo uf:jr}{io:List (Nat×AM)}{hs:List Nat}(h:kE c w M ν H0 H1 Hq M1 uo uf io hs){id:Nat}{e:Ty}{l:List e.den}(bg:H1 id=some (.own e l)):
  kE c w M ν H0 (ca H1 id (some .gone)) (ca Hq id (some .gone)) M1 ((id,some .gone)::uo) uf io (hs++(fC (ν id)).toList):=by
 have wh:id∉keys io:=λhk=>by
  obtain⟨q,hq,rfl⟩:=cW.1 hk
  have:=(h.Vi q hq).1
  rw[bg]at this;cases this
 have Xk:id∉keys (uo++uf):=λhk=>h.ks id hk e l bg
 have aj8:id∉keys uo:=λhk=>Xk (by simp only[keys,dn,bk];exact .inl hk)
 have h0:H0 id=some (.own e l):=by rw[←h.same id Xk wh];exact bg
 have hq:Hq id=some (.own e l):=h.fz.abX bg
 have lf: ∀i,i∈keys ((id,some bp.gone)::uo++uf)↔i=id∨i∈keys (uo++uf):=by
  intro i
  simp only[keys,dn,bQ,ky,bk,a8]
 have AZ: ∀b,fC (ν id)=some b→b∉hs:=λb hb fa=>h.none b fa id _ hq trivial hb
 refine⟨(Tr.gone h.mem id).mem,(Tr.gone h.Ob id).mem,h.bZ,λi hi=> ?_,λi hi=> ?_,λq oG=> ?_,h.ion,λi hi e' l'=> ?_,λi hi=> ?_,λi=> ?_,λu hu=> ?_,h.ufv,?_,λb hb=> ?_,λb hb=> ?_,λb hb i e' hi hm=> ?_,λb hb hb0=> ?_,λi hi nV=> ?_⟩
 ·have:=Ba (id,some .gone) (uo++uf) Xk [] H0
  simp only[cN]at this
  rw[ky,this]
  by_cases ch:i=id
  ·subst ch;rw[ay,ay]
  ·rw[az _ _ ch,az _ _ ch];exact h.ext i hi
 ·have:=Ba (id,some .gone) uo aj8 [] H0
  simp only[cN]at this
  rw[this]
  by_cases ch:i=id
  ·subst ch;rw[ay,ay]
  ·rw[az _ _ ch,az _ _ ch];exact h.XX i hi
 ·obtain⟨h1,h2,h3⟩:=h.Vi q oG
  have ko:q.1≠id:=λe=>wh (e▸fm oG)
  exact⟨by rw[az _ _ ko];exact h1,by rw[az _ _ ko];exact h2,h3⟩
 ·by_cases ch:i=id
  ·subst ch;rw[ay];intro h';cases h'
  ·rw[az _ _ ch]
   exact h.ks i (((lf i).1 hi).resolve_left ch) e' l'
 ·rcases(lf i).1 hi with rfl|hi
  ·exact⟨wh,e,l,h0⟩
  ·exact h.ksn i hi
 ·by_cases ch:i=id
  ·subst ch;left;rw[ay,ay]
  ·rw[az _ _ ch,az _ _ ch];exact h.fz i
 ·rcases a8.1 hu with rfl|hu
  ·rfl
  ·exact h.uov u hu
 ·refine pk.2 ⟨h.nd,?_,λx hx y hy=> ?_⟩
  ·cases fC (ν id)<;>simp
  ·rw[fp]at hy
   intro hxy;subst hxy
   exact AZ x hy hx
 ·rcases bk.1 hb with hb|hb
  ·exact h.hM b hb
  ·rw[fp]at hb
   exact(h.mem.jO id _ bg).xe trivial hb
 ·rcases bk.1 hb with hb|hb
  ·exact h.Oc b hb
  ·rw[fp]at hb
   exact h.mem.new id _ b bg trivial hb
 ·by_cases ch:i=id
  ·subst ch;rw[ay]at hi;cases hi;simp[bp.mut]at hm
  ·rw[az _ _ ch]at hi
   rcases bk.1 hb with hb|hb
   ·exact h.none b hb i e' hi hm
   ·rw[fp]at hb
    intro fa
    exact h.Ob.AT i id e' _ b ch hi hm hq trivial fa hb
 ·rcases bk.1 hb with hb|hb
  ·exact h.iob b hb hb0
  ·rw[fp]at hb
   exact absurd hb0 (h.mem.qf id e l b bg hb)
 ·have ko:i≠id:=λe=>hi ((lf i).2 (.inl e))
  rw[az _ _ ko]
  exact h.same i (λh'=>hi ((lf i).2 (.inr h'))) nV
theorem kE.aj9{H0 H1 Hq:Nat→Option bp}{M1:Nat→Prop}{uo uf:jr}{io:List (Nat×AM)}{hs:List Nat}(h:kE c w M ν H0 H1 Hq M1 uo uf io hs){id:Nat}{τ:Ty}{x:τ.den}(bg:H1 id=some (.obj τ x)):
  kE c w M ν H0 (ca H1 id (some .gone)) (ca Hq id (some .gone)) M1 uo uf (io++[(id,.io τ)]) (hs++(fC (ν id)).toList):=by
 have wh:id∉keys io:=λhk=>by
  obtain⟨q,hq,rfl⟩:=cW.1 hk
  have:=(h.Vi q hq).1
  rw[bg]at this;cases this
 have hq:Hq id=some (.obj τ x):=h.fz.aoY bg
 have Xk:id∉keys (uo++uf):=λhk=>by
  have h1:=h.ext id wh
  obtain⟨_,e,l,h0⟩:=h.ksn id hk
  have key: ∀(ups:jr) (H:Nat→Option bp),(∀u∈ups,u.2=some .gone∨ ∃e l,u.2=some (.pq e l))→id∈keys ups→cP H ups id=some .gone∨ ∃e l,cP H ups id=some (.pq e l):=by
   intro ups
   induction ups with
   |nil=>intro H _ hk;simp[keys]at hk
   |cons u ups ih=>
    intro H hv hk
    by_cases Vj:id∈keys ups
    ·exact ih _ (λv Rz=>hv v (aZ _ Rz)) Vj
    ·show cP (ca H u.1 u.2) ups id=_∨ ∃e l,cP (ca H u.1 u.2) ups id=_
     rw[mE Vj]
     have hui:id=u.1:=by
      simp only[keys,bQ,a8]at hk Vj
      exact hk.resolve_right Vj
     rw[hui,ay]
     exact hv u bs
  have:=key (uo++uf) H0 (λu hu=>by
   rcases bk.1 hu with hu|hu
   ·exact .inl (h.uov u hu)
   ·obtain⟨e,l,h',_⟩:=h.ufv u hu;exact .inr ⟨e,l,h'⟩) hk
  rw[h1,bg]at this
  rcases this with h'|⟨_,_,h'⟩<;>cases h'
 have h0:H0 id=some (.obj τ x):=by rw[←h.same id Xk wh];exact bg
 have lf: ∀i,i∈keys (io++[(id,.io τ)])↔i∈keys io∨i=id:=by
  intro i
  simp only[keys,dn,bQ,ik,bk,a8,List.not_mem_nil,or_false]
 have AZ: ∀b,fC (ν id)=some b→b∉hs:=λb hb fa=>h.none b fa id _ hq trivial hb
 refine⟨(Tr.gone h.mem id).mem,(Tr.gone h.Ob id).mem,h.bZ,λi hi=> ?_,λi hi=> ?_,λq oG=> ?_,?_,λi hi e' l'=> ?_,λi hi=> ?_,λi=> ?_,h.uov,h.ufv,?_,λb hb=> ?_,λb hb=> ?_,λb hb i e' hi hm=> ?_,λb hb hb0=> ?_,λi hi nV=> ?_⟩
 ·rw[az _ _ (λe=>hi ((lf i).2 (.inr e)))];exact h.ext i (λh'=>hi ((lf i).2 (.inl h')))
 ·rw[az _ _ (λe=>hi ((lf i).2 (.inr e)))];exact h.XX i (λh'=>hi ((lf i).2 (.inl h')))
 ·rcases bk.1 oG with oG|oG
  ·obtain⟨h1,h2,h3⟩:=h.Vi q oG
   have ko:q.1≠id:=λe=>wh (e▸fm oG)
   exact⟨by rw[az _ _ ko];exact h1,by rw[az _ _ ko];exact h2,h3⟩
  ·rw[cn]at oG;subst oG
   exact⟨ay _ _ _,ay _ _ _,.inl ⟨τ,x,rfl,h0⟩⟩
 ·simp only[keys,dn,bQ,ik]
  refine pk.2 ⟨h.ion,by simp,λx hx y hy=> ?_⟩
  rw[cn]at hy;subst hy
  intro e;exact wh (e▸hx)
 ·by_cases ch:i=id
  ·subst ch;rw[ay];intro h';cases h'
  ·rw[az _ _ ch];exact h.ks i hi e' l'
 ·obtain⟨h1,h2⟩:=h.ksn i hi
  exact⟨λh'=>((lf i).1 h').elim h1 (λe=>Xk (e▸hi)),h2⟩
 ·by_cases ch:i=id
  ·subst ch;left;rw[ay,ay]
  ·rw[az _ _ ch,az _ _ ch];exact h.fz i
 ·refine pk.2 ⟨h.nd,?_,λx hx y hy=> ?_⟩
  ·cases fC (ν id)<;>simp
  ·rw[fp]at hy
   intro hxy;subst hxy
   exact AZ x hy hx
 ·rcases bk.1 hb with hb|hb
  ·exact h.hM b hb
  ·rw[fp]at hb
   exact(h.mem.jO id _ bg).xe trivial hb
 ·rcases bk.1 hb with hb|hb
  ·exact h.Oc b hb
  ·rw[fp]at hb
   exact h.mem.new id _ b bg trivial hb
 ·by_cases ch:i=id
  ·subst ch;rw[ay]at hi;cases hi;simp[bp.mut]at hm
  ·rw[az _ _ ch]at hi
   rcases bk.1 hb with hb|hb
   ·exact h.none b hb i e' hi hm
   ·rw[fp]at hb
    intro fa
    exact h.Ob.AT i id e' _ b ch hi hm hq trivial fa hb
 ·rcases bk.1 hb with hb|hb
  ·obtain⟨q,hq1,hq2⟩:=h.iob b hb hb0
   exact⟨q,cU _ hq1,hq2⟩
  ·rw[fp]at hb
   exact⟨(id,.io τ),by simp,hb⟩
 ·have ko:i≠id:=λe=>nV ((lf i).2 (.inr e))
  rw[az _ _ ko]
  exact h.same i hi (λh'=>nV ((lf i).2 (.inl h')))
theorem kE.air{H0 H1 Hq:Nat→Option bp}{M1:Nat→Prop}{uo uf:jr}{io:List (Nat×AM)}{hs:List Nat}(h:kE c w M ν H0 H1 Hq M1 uo uf io hs){id:Nat}{e:Ty}{l:List e.den}(bg:H1 id=some (.own e l)):
  kE c w M ν H0 (ca H1 id (some .gone)) (ca Hq id (some .gone)) M1 uo uf (io++[(id,.lo e)]) (hs++(fC (ν id)).toList):=by
 have wh:id∉keys io:=λhk=>by
  obtain⟨q,hq,rfl⟩:=cW.1 hk
  have:=(h.Vi q hq).1
  rw[bg]at this;cases this
 have hq:Hq id=some (.own e l):=h.fz.abX bg
 have Xk:id∉keys (uo++uf):=λhk=>h.ks id hk e l bg
 have h0:H0 id=some (.own e l):=by rw[←h.same id Xk wh];exact bg
 have lf: ∀i,i∈keys (io++[(id,.lo e)])↔i∈keys io∨i=id:=by
  intro i
  simp only[keys,dn,bQ,ik,bk,a8,List.not_mem_nil,or_false]
 have AZ: ∀b,fC (ν id)=some b→b∉hs:=λb hb fa=>h.none b fa id _ hq trivial hb
 refine⟨(Tr.gone h.mem id).mem,(Tr.gone h.Ob id).mem,h.bZ,λi hi=> ?_,λi hi=> ?_,λq oG=> ?_,?_,λi hi e' l'=> ?_,λi hi=> ?_,λi=> ?_,h.uov,h.ufv,?_,λb hb=> ?_,λb hb=> ?_,λb hb i e' hi hm=> ?_,λb hb hb0=> ?_,λi hi nV=> ?_⟩
 ·rw[az _ _ (λe=>hi ((lf i).2 (.inr e)))];exact h.ext i (λh'=>hi ((lf i).2 (.inl h')))
 ·rw[az _ _ (λe=>hi ((lf i).2 (.inr e)))];exact h.XX i (λh'=>hi ((lf i).2 (.inl h')))
 ·rcases bk.1 oG with oG|oG
  ·obtain⟨h1,h2,h3⟩:=h.Vi q oG
   have ko:q.1≠id:=λe=>wh (e▸fm oG)
   exact⟨by rw[az _ _ ko];exact h1,by rw[az _ _ ko];exact h2,h3⟩
  ·rw[cn]at oG;subst oG
   exact⟨ay _ _ _,ay _ _ _,.inr ⟨e,l,rfl,h0⟩⟩
 ·simp only[keys,dn,bQ,ik]
  refine pk.2 ⟨h.ion,by simp,λx hx y hy=> ?_⟩
  rw[cn]at hy;subst hy
  intro e;exact wh (e▸hx)
 ·by_cases ch:i=id
  ·subst ch;rw[ay];intro h';cases h'
  ·rw[az _ _ ch];exact h.ks i hi e' l'
 ·obtain⟨h1,h2⟩:=h.ksn i hi
  exact⟨λh'=>((lf i).1 h').elim h1 (λe=>Xk (e▸hi)),h2⟩
 ·by_cases ch:i=id
  ·subst ch;left;rw[ay,ay]
  ·rw[az _ _ ch,az _ _ ch];exact h.fz i
 ·refine pk.2 ⟨h.nd,?_,λx hx y hy=> ?_⟩
  ·cases fC (ν id)<;>simp
  ·rw[fp]at hy
   intro hxy;subst hxy
   exact AZ x hy hx
 ·rcases bk.1 hb with hb|hb
  ·exact h.hM b hb
  ·rw[fp]at hb
   exact(h.mem.jO id _ bg).xe trivial hb
 ·rcases bk.1 hb with hb|hb
  ·exact h.Oc b hb
  ·rw[fp]at hb
   exact h.mem.new id _ b bg trivial hb
 ·by_cases ch:i=id
  ·subst ch;rw[ay]at hi;cases hi;simp[bp.mut]at hm
  ·rw[az _ _ ch]at hi
   rcases bk.1 hb with hb|hb
   ·exact h.none b hb i e' hi hm
   ·rw[fp]at hb
    intro fa
    exact h.Ob.AT i id e' _ b ch hi hm hq trivial fa hb
 ·rcases bk.1 hb with hb|hb
  ·obtain⟨q,hq1,hq2⟩:=h.iob b hb hb0
   exact⟨q,cU _ hq1,hq2⟩
  ·rw[fp]at hb
   exact⟨(id,.lo e),by simp,hb⟩
 ·have ko:i≠id:=λe=>nV ((lf i).2 (.inr e))
  rw[az _ _ ko]
  exact h.same i hi (λh'=>nV ((lf i).2 (.inl h')))
theorem tS.upd{H:Nat→Option bp}{id:Nat}{e e':bp}(bg:H id=some e)(hl:e.lP e'):tS H ν (ca H id (some e')) ν:=
 ⟨λi e1 hi=>by
  by_cases ch:i=id
  ·subst ch;rw[bg]at hi;cases hi;exact⟨e',ay _ _ _,hl⟩
  ·exact⟨e1,by rw[az _ _ ch];exact hi,.refl e1⟩,λ_ _=>rfl⟩
theorem bp.kg(e:bp):e.lP .gone:=by cases e<;>simp[bp.lP]
theorem VR.ao0{H H':Nat→Option bp}{ν':Nat→Value}{a:Ty}{x:a.den}{v:Value}(h:VR w M H ν (Dz a x) v):VR w M H' ν' (Dz a x) v:=by
 unfold Dz at h ⊢
 split at h
 ·simp only[VR]at h ⊢;exact h
 ·simp only[VR]at h ⊢;exact h
theorem jN.free{H H':Nat→Option bp}{ν':Nat→Value}: ∀{τ:Ty} {x:τ.den} {vs:List Value},jN w M H ν (qz τ x) vs→jN w M H' ν' (qz τ x) vs
 | .pair a b,x,v::vs,h=>by
  simp only[qz,jN]at h ⊢
  exact⟨VR.ao0 h.1,jN.free h.2⟩
 | .pair a b,x,[],h=>by simp[qz,jN]at h
 | .int _,_,[],_| .bool,_,[],_| .str,_,[],_| .slice _,_,[],_| .unit,_,[],_| .arr _ _,_,[],_=>by simp[qz,jN]
 | .int _,_,_::_,h| .bool,_,_::_,h| .str,_,_::_,h| .slice _,_,_::_,h| .unit,_,_::_,h| .arr _ _,_,_::_,h=>by simp[qz,jN]at h
theorem DL{H0 H1 Hq:Nat→Option bp}{M1:Nat→Prop}{uo uf:jr}{io:List (Nat×AM)}{hs:List Nat}(h:kE c w M ν H0 H1 Hq M1 uo uf io hs){m:AM}{x:bA}{v:Value}(hv:VR w M1 H1 ν x v)
  {k:m.den→(Nat→Option bp)→List Nat→jr→jr→List (Nat×AM)→Option α} (hk:oN m x H1 k=some r):
  ∃y H2 rd Nd Nf I0 Xl M2,k y H2 rd Nd Nf I0=some r∧kE c w M ν H0 H2 Xl M2 (Nd++uo) (Nf++uf) (io++I0) (hs++dw m v)∧fO w M1 w M2∧tS H1 ν H2 ν∧A1 w M2 m y v∧
   I0.map (λq=>ν q.1)=(if m.iQ then [v]else [])∧I0.map (·.2)=np [m]:=by
 unfold oN at hk
 split at hk
 ·
  rename_i τ k
  obtain⟨y,rd,ups,hk,hy⟩:=Fs h.mem hv hk
  rcases hy with⟨rfl,hV⟩|⟨id,e,l,rfl,bg,hV⟩
  ·exact⟨y,H1,rd,[],[],[],Hq,M1,hk,by simpa [dw]using h,.refl w M1,.refl H1 ν,hV,rfl,rfl⟩
  ·obtain⟨M2,hA,hK,Ly⟩:=h.freeze bg
   exact⟨y,_,rd,[],_,[],Hq,M2,hk,by simpa [dw]using hA,hK,.upd bg ⟨rfl,rfl⟩,hV M2 Ly,rfl,rfl⟩
 ·
  rename_i e k
  split at hk
  ·obtain⟨ad,hv⟩:=VR.emp.1 hv
   subst hv
   have hb:fC (.slice ad 0 0)=none:=by cases ad<;>simp[fC]
   exact⟨[],H1,[],[],[],[],Hq,M1,hk,by simpa [dw,hb]using h,.refl w M1,.refl H1 ν,by simp only[A1,ER];exact .inl ⟨trivial,ad,rfl⟩,rfl,rfl⟩
  ·rename_i id
   split at hk
   ·rename_i e' l bg
    obtain⟨e1,hk⟩:=bw hk
    cases e1
    simp only[VR]at hv
    obtain⟨_,rfl⟩:=hv
    refine⟨_,_,_,_,_,_,_,M1,hk,by simpa [dw]using h.hand bg,.refl w M1,.upd bg (bp.kg _),?_,rfl,rfl⟩
    have:=h.mem.jO id _ bg
    exact this
   ·cases hk
  ·cases hk
 ·
  rename_i τ k
  split at hk
  ·rename_i id
   split at hk
   ·rename_i υ z bg
    obtain⟨e1,hk⟩:=bw hk
    subst e1
    simp only[VR]at hv
    obtain⟨e,he,lR⟩:=hv
    rw[bg]at he;cases he
    simp only[AR]at lR
    obtain⟨_,b,hb,hv⟩:=lR
    have XY:v=ν id:=by rw[hv,hb];rfl
    subst XY
    refine⟨_,_,_,_,_,_,_,M1,hk,by simpa [dw]using h.aj9 bg,.refl w M1,.upd bg (bp.kg _),?_,rfl,rfl⟩
    have:=h.mem.jO id _ bg
    exact this
   ·cases hk
  ·cases hk
 ·
  rename_i f τ k
  split at hk
  ·rename_i f' cs
   obtain⟨hf,TL⟩:=cz hk
   clear hk
   have hf:=fF hf
   subst hf
   have hk:=TL
   clear TL
   simp only[VR]at hv
   obtain⟨us,rfl,hvs⟩:=hv
   obtain⟨y,rd,ups,hk,hy⟩:=GH h.mem hvs hk
   split at hk
   ·exact⟨y,H1,rd,[],[],[],Hq,M1,hk,by simpa [dw]using h,.refl w M1,.refl H1 ν,by simp only[A1,VR];exact⟨us,rfl,hy rfl⟩,rfl,rfl⟩
   ·cases hk
  ·cases hk
 ·cases hk
 ·
  rename_i τ k
  split at hk
  ·rename_i υ z
   obtain⟨e1,hk⟩:=bw hk
   subst e1
   exact⟨_,H1,_,[],[],[],Hq,M1,hk,by simpa [dw]using h,.refl w M1,.refl H1 ν,by simp only[A1,VR]at hv ⊢;exact hv,rfl,rfl⟩
  ·cases hk
 ·
  rename_i e k
  split at hk
  ·rename_i id
   split at hk
   ·rename_i e' l bg
    obtain⟨e1,hk⟩:=bw hk
    cases e1
    simp only[VR]at hv
    obtain⟨_,rfl⟩:=hv
    refine⟨_,_,_,_,_,_,_,M1,hk,by simpa [dw]using h.air bg,.refl w M1,.upd bg (bp.kg _),?_,rfl,rfl⟩
    have:=h.mem.jO id _ bg
    exact this
   ·cases hk
  ·cases hk
 ·cases hk
theorem DM{H0:Nat→Option bp}: ∀{ms:List AM} {qG:List bA} {vs:List Value} {H1 Hq:Nat→Option bp} {M1:Nat→Prop} {rd:List Nat} {uo uf:jr} {io:List (Nat×AM)} {hs:List Nat} {K:HP ms→List Nat→jr→jr→List (Nat×AM)→Option α},
  kE c w M ν H0 H1 Hq M1 uo uf io hs→jN w M1 H1 ν qG vs→uu ms qG H1 rd uo uf io K=some r→
  ∃x yq Nd Nf I0 H2 Xl M2,K x yq Nd Nf I0=some r∧kE c w M ν H0 H2 Xl M2 Nd Nf I0 (hs++eA ms vs)∧fO w M1 w M2∧kD w M2 ms x vs∧
   I0.map (λq=>ν q.1)=io.map (λq=>ν q.1)++fP ms vs∧I0.map (·.2)=io.map (·.2)++np ms
 |[],[],[],H1,Hq,M1,rd,uo,uf,io,hs,K,h,_,hk=>
  ⟨(),rd,uo,uf,io,H1,Hq,M1,hk,by simpa [eA]using h,.refl w M1,rfl,by simp[fP],by simp[np]⟩
 |[m],[x],[v],H1,Hq,M1,rd,uo,uf,io,hs,K,h,hv,hk=>by
  simp only[jN,eF]at hv
  obtain⟨y,H2,XN,uo1,uf1,io1,Xl,M2,hk,hA,hK,hG,hy,hi1,TJ⟩:=DL h hv (hk:oN m x H1 _=some r)
  refine⟨y,_,_,_,_,H2,Xl,M2,hk,by simpa [eA]using hA,hK,⟨v,[],rfl,hy,rfl⟩,?_,?_⟩
  ·rw[dn,hi1];cases wh:m.iQ<;>simp[fP,wh]
  ·rw[dn,TJ]
 |m::n::ms,x::xs,v::vs,H1,Hq,M1,rd,uo,uf,io,hs,K,h,hv,hk=>by
  simp only[jN]at hv
  obtain⟨y,H2,XN,uo1,uf1,io1,Xl,M2,hk,hA,hK,hG,hy,hi1,TJ⟩:=DL h hv.1 (hk:oN m x H1 _=some r)
  obtain⟨ys,yq,Nd,Nf,I0,H3,Hq3,M3,hk,hA',hK',hys,hi3,hi4⟩:=DM (ms:=n::ms) hA (jN.bZ hK hG hv.2) hk
  refine⟨(y,ys),_,_,_,_,H3,Hq3,M3,hk,by simpa [eA,bE]using hA',hK.trans hK',⟨v,vs,rfl,?_,hys⟩,?_,?_⟩
  ·refine A1.xq hK' (λb hb=>⟨rfl,hA'.hM b ?_⟩) hy
   exact cU _ (dz _ hb)
  ·rw[hi3,dn,hi1,bE]
   congr 1
   cases wh:m.iQ<;>simp[fP,wh]
  ·rw[hi4,dn,TJ,bE]
   congr 1
   cases m<;>simp[np]
 |[],_::_,_,_,_,_,_,_,_,_,_,_,_,_,hk=>by simp[uu]at hk
 |[_],[],_,_,_,_,_,_,_,_,_,_,_,_,hk=>by simp[uu]at hk
 |[_],_::_::_,_,_,_,_,_,_,_,_,_,_,_,_,hk=>by simp[uu]at hk
 |_::_::_,[],_,_,_,_,_,_,_,_,_,_,_,_,hk=>by simp[uu]at hk
 |_,_::_,[],_,_,_,_,_,_,_,_,_,_,hv,_=>by simp[jN]at hv
 |[],[],_::_,_,_,_,_,_,_,_,_,_,_,hv,_=>by simp[jN]at hv
 |[_],[_],_::_::_,_,_,_,_,_,_,_,_,_,_,hv,_=>by simp[jN]at hv
theorem Mem.call{H:Nat→Option bp}(h:Mem c H w M ν){hs:List Nat}{M0 M':Nat→Prop}{w':World}(hM: ∀b,M0 b→M b)(hhs: ∀b∈hs,M b)
  (qj: ∀b∈hs,∀i e,H i=some e→e.mut→fC (ν i)≠some b) (kF: ∀b∈hs,c.B≤b∨c.may b) (wh: ∀b∈hs,c.M0 b→M' b) (L:Left w M0 hs w' M'):
  Mem c H w' (λb=>M' b∨(M b∧b∉hs)) ν∧fO w M w' (λb=>M' b∨(M b∧b∉hs)):=by
 have hk:fO w M w' (λb=>M' b∨(M b∧b∉hs)):=by
  refine⟨L.size,λb hb hm=>L.frame b hb (λhh=>hm (hhs b hh)),λb hb hm=> ?_⟩
  rcases hm with hm|hm
  ·exact(L.less b hb hm).elim (hM b) (hhs b)
  ·exact hm.1
 refine⟨⟨λi e hi=>(h.jO i e hi).bZ hk λhm b hb=> ?_,h.AT,h.new,h.qf,rW h (λ_ _=>rfl) (λ_ h=>h) (λi τ x p j hi=> .inl ⟨hi,λb hb=> ?_⟩),λb hb=> ?_,λb hb=> ?_,λb hb hm=> ?_,ct h.size L.size,h.wB,L.os.trans h.os,L.tape.trans h.tape,L.output.trans h.output⟩,hk⟩
 ·have hMb:=(h.jO i e hi).xe hm hb
  have AZ:b∉hs:=λhh=>qj b hh i e hi hm hb
  exact⟨L.frame b (h.Gn b hMb) AZ,.inr ⟨hMb,AZ⟩⟩
 ·have xf:fC (ν i)=some b:=by rw[hb];rfl
  have hMb:=(h.jO i _ hi).xe trivial xf
  exact L.frame b (h.Gn b hMb) (λhh=>qj b hh i _ hi trivial xf)
 ·by_cases hh:b∈hs
  ·exact .inl (wh b hh hb)
  ·exact .inr ⟨h.sub b hb,hh⟩
 ·rcases hb with hb|hb
  ·exact L.Gn b hb
  ·exact nM (h.Gn b hb.1) L.size
 ·have AZ:b∉hs:=λhh=>(kF b hh).elim (λh'=>ω) hm
  rw[L.frame b (nM hb h.size) AZ]
  exact h.frame b hb hm
theorem Mem.xr{H:Nat→Option bp}(h:Mem c H w M ν){id:Nat}{v:Value}{e:bp}(bg: ∀e',H id=some e'→ ¬e'.mut)(U3:ER w M v e)
  (hd: ∀b,fC v=some b→ ∀i e',H i=some e'→e'.mut→fC (ν i)≠some b) (hn: ∀b,fC v=some b→c.B≤b∨c.may b) (ho: ∀b e0 l0,e= .own e0 l0→fC v=some b→ ¬c.M0 b)
  (hnv:H id=none∨v=ν id)
  (qA: ∀τ x p j,e= .gg τ x p j→ca H id (some e) j≠none∧ ∃b,v= .pointer (some ⟨b,0,none⟩)∧w.cell? ⟨b,cy p τ,none⟩=some (updν ν id v j):=by intro _ _ _ _ h;cases h):
  Mem c (ca H id (some e)) w M (updν ν id v):=by
 have hν: ∀i,i≠id→updν ν id v i=ν i:=λi hi=>by simp[updν,hi]
 have hνs:updν ν id v id=v:=by simp[updν]
 refine⟨λi e1 hi=> ?_,λi k e1 e2 b1 qh hi tT hk yw=> ?_,λi e1 b1 hi tT=> ?_,λi e1 l1 b1 hi=> ?_,rW h (λi hi=> ?_) yv (λi τ x p j hi=> ?_),h.sub,h.Gn,h.frame,h.size,h.wB,h.os,h.tape,h.output⟩
 ·by_cases ch:i=id
  ·subst ch;rw[ay]at hi;cases hi;rw[hνs];exact U3
  ·rw[az _ _ ch]at hi;rw[hν i ch];exact h.jO i e1 hi
 ·by_cases ch:i=id
  ·subst ch;rw[hνs]
   have NU:k≠i:=fh qh
   rw[az _ _ NU]at hk;rw[hν k NU]
   intro nk
   exact hd b1 nk k e2 hk yw
  ·rw[az _ _ ch]at hi;rw[hν i ch]
   by_cases NU:k=id
   ·subst NU;rw[hνs]
    intro nk uX
    exact hd b1 uX i e1 hi tT nk
   ·rw[az _ _ NU]at hk;rw[hν k NU];exact h.AT i k e1 e2 b1 qh hi tT hk yw
 ·by_cases ch:i=id
  ·subst ch;rw[hνs];exact hn b1
  ·rw[az _ _ ch]at hi;rw[hν i ch];exact h.new i e1 b1 hi tT
 ·by_cases ch:i=id
  ·subst ch;rw[ay]at hi;cases hi;rw[hνs];exact ho b1 e1 l1 rfl
  ·rw[az _ _ ch]at hi;rw[hν i ch];exact h.qf i e1 l1 b1 hi
 ·by_cases ch:i=id
  ·subst ch
   rcases hnv with hnv|hnv
   ·exact absurd hnv hi
   ·rw[hνs,hnv]
  ·exact hν i ch
 ·by_cases ch:i=id
  ·subst ch
   rw[ay]at hi
   cases hi
   obtain⟨h1,b,h2,h3⟩:=qA _ _ _ _ rfl
   exact .inr ⟨h1,b,by rw[hνs];exact h2,h3⟩
  ·rw[az _ _ ch]at hi
   exact .inl ⟨hi,λ_ _=>rfl⟩
theorem Vk{m:AM}{ms:List AM}(x:HP (m::ms))(id:Nat)(io:List (Nat×AM)):
  iu (m::ms) x id io=match m,qK x,io with
   | .io τ,y,(j,_)::io=>((iu ms (tV x) (id+1) io).1,(j,some (.obj τ y))::(iu ms (tV x) (id+1) io).2.1,(iu ms (tV x) (id+1) io).2.2)
   | .lo e,y,(j,_)::io=>((iu ms (tV x) (id+1) io).1,(j,some (.own e y))::(iu ms (tV x) (id+1) io).2.1,(iu ms (tV x) (id+1) io).2.2)
   |m,y,io=>((w7 m y id).1::(iu ms (tV x) (id+1) io).1,(w7 m y id).2++(iu ms (tV x) (id+1) io).2.1,(iu ms (tV x) (id+1) io).2.2):=by
 cases ms with
 |nil=>cases m<;>cases io<;>simp[iu,qK]
 |cons n ms=>cases m<;>cases io<;>simp[iu,qK,tV]
theorem ki{l1 l2:List Nat}{b:Nat}(h:(l1++l2).Nodup)(h1:b∈l1):b∉l2:=λh2=>(pk.1 h).2.2 b h1 b h2 rfl
theorem RR.GI: ∀{ms:List AM} {x:HP ms} {us ps:List Value},RR w M ms x us ps→ ∀p∈ps,∀b,fC p=some b→b∈bH ms us ps
 |[],_,_,_,h,p,hp,_,_=>by simp only[RR]at h;rw[h.2]at hp;simp at hp
 |m::ms,x,us,ps,h,p,hp,b,hb=>by
  simp only[RR]at h
  rcases h with⟨p',I8,h1,rfl,h2,h3⟩|⟨v,EN,h1,h2,rfl,h3,h4⟩
  ·simp only[bH,h1,g8,ug,uj,bk]
   rcases a8.1 hp with rfl|hp
   ·left
    cases m<;>simp[AM.iQ]at h1<;>simp[dw,hb]
   ·exact .inr (RR.GI h3 p hp b hb)
  ·simp only[bH,h1,jL,fG,ug,uj,bk]
   exact .inr (RR.GI h4 p hp b hb)
theorem m4{hs:List Nat}{sz:Nat}: ∀{ms:List AM} {x:HP ms} {us ps:List Value} {id:Nat} {io:List (Nat×AM)} {H:Nat→Option bp} {ν:Nat→Value} {used:List Nat},
  Mem c H w M ν→RR w M ms x us ps→ps=io.map (λq=>ν q.1)→np ms=io.map (·.2)→(keys io).Nodup→(∀q∈io,H q.1=some .gone)→(∀i,id≤i→i<id+ms.length→H i=none)→
  (∀i e b,H i=some e→e.mut→fC (ν i)=some b→(b<sz∧b∉hs)∨b∈used)→(used++bH ms us ps).Nodup→(∀b∈bH ms us ps,sz≤b∨b∈hs)→
  (∀b∈bH ms us ps,(c.B≤b∨c.may b))→(∀b∈bH ms us ps,c.M0 b→ ∃p∈ps,fC p=some b)→
  (∀q∈io,∀e,q.2= .lo e→ ∀b,fC (ν q.1)=some b→ ¬c.M0 b)→
  ∃ν',Mem c (cP H (iu ms x id io).2.1) w M ν'∧jN w M (cP H (iu ms x id io).2.1) ν' (iu ms x id io).1 us∧(∀i,H i≠none→ν' i=ν i)∧
   (∀i,i∉keys io→(i<id∨id+ms.length≤i)→cP H (iu ms x id io).2.1 i=H i)∧(∀i,id≤i→i<id+ms.length→ ∀e,cP H (iu ms x id io).2.1 i=some e→(∃e0 l0,e= .own e0 l0)∨ ∃τ0 z0,e= .obj τ0 z0)∧
   (∀q∈io,IoE (cP H (iu ms x id io).2.1) q)
 |[],x,us,ps,id,io,H,ν,used,hm,hr,I6,DH,Cx,zE,jx,hold,wD,oI,kF,Gp,wM=>by
  simp only[RR]at hr
  obtain⟨rfl,rfl⟩:=hr
  have wh:io=[]:=by
   cases io with
   |nil=>rfl
   |cons q io=>simp at I6
  subst wh
  exact⟨ν,hm,by simp[iu,jN],λ_ _=>rfl,λ_ _ _=>rfl,λi h1 h2=>by simp at h2;omega,λq hq=>by simp at hq⟩
 |m::ms,x,us,ps,id,io,H,ν,used,hm,hr,I6,DH,Cx,zE,jx,hold,wD,oI,kF,Gp,wM=>by
  rw[Vk]
  simp only[RR]at hr
  rcases hr with⟨p,I8,GJ,rfl,h1,h2⟩|⟨v,EN,GJ,hmf,rfl,h1,h2⟩
  ·
   cases m with
   |io τ=>
    cases io with
    |nil=>simp at I6
    |cons q io=>
     simp only[bQ,fV]at I6
     obtain⟨rfl,rfl⟩:=I6
     simp only[np,bQ,fV]at DH
     obtain⟨abZ,aka⟩:=DH
     simp only[keys,bQ,AD]at Cx
     have XZ:bH (.io τ::ms) us (ν q.1::io.map λq=>ν q.1)=(fC (ν q.1)).toList++bH ms us (io.map λq=>ν q.1):=rfl
     rw[XZ]at wD oI kF Gp
     have wC:=zE q bs
     have y7:q.1<id∨id+(ms.length+1)≤q.1:=by
      rcases nT q.1 id with h'|h'
      ·exact .inl h'
      ·rcases nT q.1 (id+(ms.length+1))with LH|LH
       ·rw[jx q.1 h' LH]at wC;cases wC
       ·exact .inr LH
     simp only[A1]at h1
     have oV: ∀b,fC (ν q.1)=some b→ ∀i e',H i=some e'→e'.mut→fC (ν i)≠some b:=by
      intro b hb i e' hi jv fa
      have kC:b∈(fC (ν q.1)).toList++bH ms us (io.map λq=>ν q.1):=cU _ (by rw[hb];simp)
      rcases hold i e' b hi jv fa with⟨h3,h4⟩|h3
      ·exact(oI b kC).elim (λh'=>ω) h4
      ·exact ki wD h3 kC
     have yw:=Mem.xr (c:=c) hm (id:=q.1) (v:=ν q.1) (e:= .obj τ (qK x)) (λe' ub=>by rw[wC]at ub;cases ub;simp[bp.mut]) h1 oV (λb hb=>kF b (cU _ (by rw[hb];simp))) (λb e0 l0 he=>by cases he) (.inr rfl)
     have hνe:updν ν q.1 (ν q.1)=ν:=by funext i;unfold updν;split<;>simp_all
     rw[hνe]at yw
     have akb: ∀(q':Nat×AM),q'∈io→q'.1≠q.1:=λq' oG e=>Cx.1 (cW.2 ⟨q',oG,e⟩)
     obtain⟨ν',r1,r2,r3,r4,r5,r6⟩:=m4 (ms:=ms) (x:=tV x) (us:=us) (ps:=io.map λq=>ν q.1) (id:=id+1) (io:=io) (used:=used++(fC (ν q.1)).toList) yw h2 rfl aka Cx.2
      (λq' oG=>by rw[az _ _ (akb q' oG)];exact zE q' (aZ _ oG))
      (λi h3 h4=>by
       have:i≠q.1:=ω
       rw[az _ _ this]
       exact jx i ω (by simp only[aT];omega))
      (λi e b hi jv hb=>by
       by_cases ch:i=q.1
       ·subst ch;exact .inr (dz _ (by rw[hb];simp))
       ·rw[az _ _ ch]at hi
        exact(hold i e b hi jv hb).imp (λh=>h) (cU _))
      (by rw[bE];exact wD) (λb hb=>oI b (dz _ hb)) (λb hb=>kF b (dz _ hb))
      (λb hb hb0=>by
       obtain⟨p,hp,hpb⟩:=Gp b (dz _ hb) hb0
       rcases a8.1 hp with rfl|hp
       ·exact absurd (ki (pk.1 wD).2.1 (b:=b) (by rw[hpb];simp)) (by simpa using hb)
       ·exact⟨p,hp,hpb⟩) (λq' oG=>wM q' (aZ _ oG))
     refine⟨ν',r1,r2,λi hi=> ?_,λi h3 h4=> ?_,λi h3 h4 e he=> ?_,λq' oG=> ?_⟩
     ·exact r3 i (by
       by_cases ch:i=q.1
       ·subst ch;rw[ay];simp
       ·rw[az _ _ ch];exact hi)
     ·simp only[keys,bQ,a8,not_or]at h3
      have:=r4 i h3.2 (by simp only[aT]at h4;omega)
      rw[az _ _ h3.1]at this
      exact this
     ·by_cases h5:id+1≤i
      ·exact r5 i h5 (by simp only[aT]at h4;omega) e he
      ·have ch:i=id:=ω
       subst ch
       by_cases hk:i∈keys io
       ·obtain⟨q',oG,Ft⟩:=cW.1 hk
        have h9:=zE q' (aZ _ oG)
        rw[Ft,jx i (aH _) (by simp)]at h9
        cases h9
       ·have:=r4 i hk (.inl ω)
        have ko:i≠q.1:=ω
        rw[az _ _ ko,jx i (aH _) (by simp)]at this
        have he:cP (ca H q.1 (some (bp.obj τ (qK x)))) (iu ms (tV x) (i+1) io).2.1 i=some e:=he
        rw[this]at he;cases he
     ·rcases a8.1 oG with rfl|oG
      ·have:=r4 q'.1 Cx.1 ω
       rw[ay]at this
       exact .inl ⟨τ,qK x,abZ.symm,this⟩
      ·exact r6 q' oG
   |lo τ=>
    cases io with
    |nil=>simp at I6
    |cons q io=>
     simp only[bQ,fV]at I6
     obtain⟨rfl,rfl⟩:=I6
     simp only[np,bQ,fV]at DH
     obtain⟨abZ,aka⟩:=DH
     simp only[keys,bQ,AD]at Cx
     have XZ:bH (.lo τ::ms) us (ν q.1::io.map λq=>ν q.1)=(fC (ν q.1)).toList++bH ms us (io.map λq=>ν q.1):=rfl
     rw[XZ]at wD oI kF Gp
     have wC:=zE q bs
     have y7:q.1<id∨id+(ms.length+1)≤q.1:=by
      rcases nT q.1 id with h'|h'
      ·exact .inl h'
      ·rcases nT q.1 (id+(ms.length+1))with LH|LH
       ·rw[jx q.1 h' LH]at wC;cases wC
       ·exact .inr LH
     simp only[A1]at h1
     have oV: ∀b,fC (ν q.1)=some b→ ∀i e',H i=some e'→e'.mut→fC (ν i)≠some b:=by
      intro b hb i e' hi jv fa
      have kC:b∈(fC (ν q.1)).toList++bH ms us (io.map λq=>ν q.1):=cU _ (by rw[hb];simp)
      rcases hold i e' b hi jv fa with⟨h3,h4⟩|h3
      ·exact(oI b kC).elim (λh'=>ω) h4
      ·exact ki wD h3 kC
     have yw:=Mem.xr (c:=c) hm (id:=q.1) (v:=ν q.1) (e:= .own τ (qK x)) (λe' ub=>by rw[wC]at ub;cases ub;simp[bp.mut]) h1 oV (λb hb=>kF b (cU _ (by rw[hb];simp))) (λb e0 l0 _ hb=>wM q bs τ abZ.symm b hb) (.inr rfl)
     have hνe:updν ν q.1 (ν q.1)=ν:=by funext i;unfold updν;split<;>simp_all
     rw[hνe]at yw
     have akb: ∀(q':Nat×AM),q'∈io→q'.1≠q.1:=λq' oG e=>Cx.1 (cW.2 ⟨q',oG,e⟩)
     obtain⟨ν',r1,r2,r3,r4,r5,r6⟩:=m4 (ms:=ms) (x:=tV x) (us:=us) (ps:=io.map λq=>ν q.1) (id:=id+1) (io:=io) (used:=used++(fC (ν q.1)).toList) yw h2 rfl aka Cx.2
      (λq' oG=>by rw[az _ _ (akb q' oG)];exact zE q' (aZ _ oG))
      (λi h3 h4=>by
       have:i≠q.1:=ω
       rw[az _ _ this]
       exact jx i ω (by simp only[aT];omega))
      (λi e b hi jv hb=>by
       by_cases ch:i=q.1
       ·subst ch;exact .inr (dz _ (by rw[hb];simp))
       ·rw[az _ _ ch]at hi
        exact(hold i e b hi jv hb).imp (λh=>h) (cU _))
      (by rw[bE];exact wD) (λb hb=>oI b (dz _ hb)) (λb hb=>kF b (dz _ hb))
      (λb hb hb0=>by
       obtain⟨p,hp,hpb⟩:=Gp b (dz _ hb) hb0
       rcases a8.1 hp with rfl|hp
       ·exact absurd (ki (pk.1 wD).2.1 (b:=b) (by rw[hpb];simp)) (by simpa using hb)
       ·exact⟨p,hp,hpb⟩) (λq' oG=>wM q' (aZ _ oG))
     refine⟨ν',r1,r2,λi hi=> ?_,λi h3 h4=> ?_,λi h3 h4 e he=> ?_,λq' oG=> ?_⟩
     ·exact r3 i (by
       by_cases ch:i=q.1
       ·subst ch;rw[ay];simp
       ·rw[az _ _ ch];exact hi)
     ·simp only[keys,bQ,a8,not_or]at h3
      have:=r4 i h3.2 (by simp only[aT]at h4;omega)
      rw[az _ _ h3.1]at this
      exact this
     ·by_cases h5:id+1≤i
      ·exact r5 i h5 (by simp only[aT]at h4;omega) e he
      ·have ch:i=id:=ω
       subst ch
       by_cases hk:i∈keys io
       ·obtain⟨q',oG,Ft⟩:=cW.1 hk
        have h9:=zE q' (aZ _ oG)
        rw[Ft,jx i (aH _) (by simp)]at h9
        cases h9
       ·have:=r4 i hk (.inl ω)
        have ko:i≠q.1:=ω
        rw[az _ _ ko,jx i (aH _) (by simp)]at this
        have he:cP (ca H q.1 (some (bp.own τ (qK x)))) (iu ms (tV x) (i+1) io).2.1 i=some e:=he
        rw[this]at he;cases he
     ·rcases a8.1 oG with rfl|oG
      ·have:=r4 q'.1 Cx.1 ω
       rw[ay]at this
       exact .inr ⟨τ,qK x,abZ.symm,this⟩
      ·exact r6 q' oG
   |v τ=>simp[AM.iQ]at GJ
   |own τ=>simp[AM.iQ]at GJ
   |fn f τ=>simp[AM.iQ]at GJ
   |ptr τ=>simp[AM.iQ]at GJ
   |jd τ=>simp[AM.iQ]at GJ
   |sp _ _ _=>simp[AM.iQ]at GJ
  ·
   have Bb:H id=none:=jx id (aH _) (by simp)
   cases m with
   |io τ=>simp[AM.iQ]at GJ
   |lo τ=>simp[AM.iQ]at GJ
   |fn f τ=>simp[AM.abW]at hmf
   |jd τ=>simp[AM.abW]at hmf
   |v τ=>
    have XZ:bH (.v τ::ms) (v::EN) ps=bH ms EN ps:=rfl
    rw[XZ]at wD oI kF Gp
    simp only[A1]at h1
    obtain⟨ν',r1,r2,r3,r4,r5,r6⟩:=m4 (ms:=ms) (x:=tV x) (us:=EN) (ps:=ps) (id:=id+1) (io:=io) (used:=used) hm h2 I6 (by simpa [np]using DH) Cx zE (λi h3 h4=>jx i ω (by simp only[aT];omega)) hold wD oI kF Gp wM
    refine⟨ν',r1,?_,r3,λi h3 h4=>r4 i h3 (by simp only[aT]at h4;omega),λi h3 h4 e he=> ?_,r6⟩
    ·simp only[w7,jN,VR];exact⟨h1,r2⟩
    ·by_cases h5:id+1≤i
     ·exact r5 i h5 (by simp only[aT]at h4;omega) e he
     ·have ch:i=id:=ω
      subst ch
      by_cases hk:i∈keys io
      ·obtain⟨q',oG,Ft⟩:=cW.1 hk
       have h9:=zE q' oG
       rw[Ft,Bb]at h9;cases h9
      ·have:=r4 i hk (.inl ω)
       rw[Bb]at this
       have he:cP H (iu ms (tV x) (i+1) io).2.1 i=some e:=he
       rw[this]at he;cases he
   |own τ=>
    have XZ:bH (.own τ::ms) (v::EN) ps=(fC v).toList++bH ms EN ps:=rfl
    rw[XZ]at wD oI kF Gp
    simp only[A1]at h1
    have oV: ∀b,fC v=some b→ ∀i e',H i=some e'→e'.mut→fC (ν i)≠some b:=by
     intro b hb i e' hi jv fa
     have kC:b∈(fC v).toList++bH ms EN ps:=cU _ (by rw[hb];simp)
     rcases hold i e' b hi jv fa with⟨h3,h4⟩|h3
     ·exact(oI b kC).elim (λh'=>ω) h4
     ·exact ki wD h3 kC
    have X0: ∀b,fC v=some b→ ¬c.M0 b:=by
     intro b hb h0
     have kC:b∈(fC v).toList:=by rw[hb];simp
     obtain⟨p,hp,hpb⟩:=Gp b (cU _ kC) h0
     exact ki (pk.1 wD).2.1 kC (RR.GI h2 p hp b hpb)
    have yw:=Mem.xr (c:=c) hm (id:=id) (v:=v) (e:= .own τ (qK x)) (λe' ub=>by rw[Bb]at ub;cases ub) h1 oV (λb hb=>kF b (cU _ (by rw[hb];simp))) (λb e0 l0 _ hb=>X0 b hb) (.inl Bb)
    have y7: ∀q∈io,q.1≠id:=λq hq e=>by
     have h9:=zE q hq
     rw[e,Bb]at h9;cases h9
    have hν2: ∀i,i≠id→updν ν id v i=ν i:=λi hi=>by simp[updν,hi]
    obtain⟨ν',r1,r2,r3,r4,r5,r6⟩:=m4 (ms:=ms) (x:=tV x) (us:=EN) (ps:=ps) (id:=id+1) (io:=io) (used:=used++(fC v).toList) yw h2
     (by rw[I6];exact pE λq hq=>(hν2 _ (y7 q hq)).symm) (by simpa [np]using DH) Cx
     (λq hq=>by rw[az _ _ (y7 q hq)];exact zE q hq)
     (λi h3 h4=>by rw[az _ _ ω];exact jx i ω (by simp only[aT];omega))
     (λi e b hi jv hb=>by
      by_cases ch:i=id
      ·subst ch
       have:updν ν i v i=v:=by simp[updν]
       rw[this]at hb
       exact .inr (dz _ (by rw[hb];simp))
      ·rw[az _ _ ch]at hi
       rw[hν2 i ch]at hb
       exact(hold i e b hi jv hb).imp (λh=>h) (cU _))
     (by rw[bE];exact wD) (λb hb=>oI b (dz _ hb)) (λb hb=>kF b (dz _ hb)) (λb hb=>Gp b (dz _ hb)) (λq hq e he b hb=>wM q hq e he b (by rw[hν2 _ (y7 q hq)]at hb;exact hb))
    have X1:id∉keys io:=λhk=>by
     obtain⟨q,hq,Ft⟩:=cW.1 hk
     exact y7 q hq Ft
    have pt:cP (ca H id (some (.own τ (qK x)))) (iu ms (tV x) (id+1) io).2.1 id=some (.own τ (qK x)):=by
     rw[r4 id X1 (.inl ω),ay]
    refine⟨ν',r1,?_,λi hi=> ?_,λi h3 h4=> ?_,λi h3 h4 e he=> ?_,r6⟩
    ·simp only[w7,jN,VR]
     refine⟨⟨?_,?_⟩,r2⟩
     ·show cP (ca H id (some (.own τ (qK x)))) (iu ms (tV x) (id+1) io).2.1 id≠none
      rw[pt];simp
     ·rw[r3 id (by rw[ay];simp)];simp[updν]
    ·have ch:i≠id:=λe=>hi (e▸Bb)
     rw[r3 i (by rw[az _ _ ch];exact hi),hν2 i ch]
    ·have ch:i≠id:=by simp only[aT]at h4;omega
     have:=r4 i h3 (by simp only[aT]at h4;omega)
     rw[az _ _ ch]at this
     exact this
    ·by_cases h5:id+1≤i
     ·exact r5 i h5 (by simp only[aT]at h4;omega) e he
     ·have ch:i=id:=ω
      subst ch
      have he:cP (ca H i (some (.own τ (qK x)))) (iu ms (tV x) (i+1) io).2.1 i=some e:=he
      rw[pt]at he;cases he
      exact .inl ⟨τ,_,rfl⟩
   |sp τ n e=>
    simp only[A1]at h1
    obtain⟨cs,ka,u,l,z,hv,hq,XO,tU,hu,rY⟩:=h1
    obtain⟨x1,RD,_,au8,hz⟩:=Gw rY
    cases RD
    obtain⟨z0,zi,Fu⟩:=hz []
    have hrz:Rd w M τ (eN ka (gq τ n) [.slice none 0 0]) z0:=by
     obtain⟨υ,y,o,k',hf,tT,TL⟩:=ld (Fu _ some)
     obtain⟨rfl,rfl⟩:=hf.eq
     obtain⟨e1,EL⟩:=bw tT
     obtain⟨x',oO,_,kB⟩:=TL _ _ EL
     cases oO
     refine kB w M ka _ XO ?_
     have Vl:Rd w M (.slice e) [.slice none 0 0] []:=by
      simp only[Rd]
      exact⟨none,0,rfl,aH _,λi hi=>by simp at hi⟩
     exact Vl.aoE _
    have U7:w7 (.sp τ n e) (qK x) id=(.Jh τ z0 n id,[(id,some (.own e l))]):=by
     simp only[w7]
     rw[au8,zi]
    show ∃ν',Mem c (cP H ((w7 (.sp τ n e) (qK x) id).2++(iu ms (tV x) (id+1) io).2.1)) w M ν'∧jN w M (cP H ((w7 (.sp τ n e) (qK x) id).2++(iu ms (tV x) (id+1) io).2.1)) ν' ((w7 (.sp τ n e) (qK x) id).1::(iu ms (tV x) (id+1) io).1) (v::EN)∧(∀i,H i≠none→ν' i=ν i)∧
     (∀i,i∉keys io→(i<id∨id+(AM.sp τ n e::ms).length≤i)→cP H ((w7 (.sp τ n e) (qK x) id).2++(iu ms (tV x) (id+1) io).2.1) i=H i)∧(∀i,id≤i→i<id+(AM.sp τ n e::ms).length→ ∀e9,cP H ((w7 (.sp τ n e) (qK x) id).2++(iu ms (tV x) (id+1) io).2.1) i=some e9→(∃e0 l0,e9= .own e0 l0)∨ ∃τ0 z0,e9= .obj τ0 z0)∧
     (∀q∈io,IoE (cP H ((w7 (.sp τ n e) (qK x) id).2++(iu ms (tV x) (id+1) io).2.1)) q)
    rw[U7]
    have XZ:bH (.sp τ n e::ms) (v::EN) ps=(fC u).toList++bH ms EN ps:=by
     show dw (.sp τ n e) v++bH ms EN ps=_
     rw[hv,(yA hq XO tU).1]
    rw[XZ]at wD oI kF Gp
    have oV: ∀b,fC u=some b→ ∀i e',H i=some e'→e'.mut→fC (ν i)≠some b:=by
     intro b hb i e' hi jv fa
     have kC:b∈(fC u).toList++bH ms EN ps:=cU _ (by rw[hb];simp)
     rcases hold i e' b hi jv fa with⟨h3,h4⟩|h3
     ·exact(oI b kC).elim (λh'=>ω) h4
     ·exact ki wD h3 kC
    have X0: ∀b,fC u=some b→ ¬c.M0 b:=by
     intro b hb h0
     have kC:b∈(fC u).toList:=by rw[hb];simp
     obtain⟨p,hp,hpb⟩:=Gp b (cU _ kC) h0
     exact ki (pk.1 wD).2.1 kC (RR.GI h2 p hp b hpb)
    have yw:=Mem.xr (c:=c) hm (id:=id) (v:=u) (e:= .own e l) (λe' ub=>by rw[Bb]at ub;cases ub) hu oV (λb hb=>kF b (cU _ (by rw[hb];simp))) (λb e0 l0 _ hb=>X0 b hb) (.inl Bb)
    have y7: ∀q∈io,q.1≠id:=λq hq e=>by
     have h9:=zE q hq
     rw[e,Bb]at h9;cases h9
    have hν2: ∀i,i≠id→updν ν id u i=ν i:=λi hi=>by simp[updν,hi]
    obtain⟨ν',r1,r2,r3,r4,r5,r6⟩:=m4 (ms:=ms) (x:=tV x) (us:=EN) (ps:=ps) (id:=id+1) (io:=io) (used:=used++(fC u).toList) yw h2
     (by rw[I6];exact pE λq hq=>(hν2 _ (y7 q hq)).symm) (by simpa [np]using DH) Cx
     (λq hq=>by rw[az _ _ (y7 q hq)];exact zE q hq)
     (λi h3 h4=>by rw[az _ _ ω];exact jx i ω (by simp only[aT];omega))
     (λi e9 b hi jv hb=>by
      by_cases ch:i=id
      ·subst ch
       have:updν ν i u i=u:=by simp[updν]
       rw[this]at hb
       exact .inr (dz _ (by rw[hb];simp))
      ·rw[az _ _ ch]at hi
       rw[hν2 i ch]at hb
       exact(hold i e9 b hi jv hb).imp (λh=>h) (cU _))
     (by rw[bE];exact wD) (λb hb=>oI b (dz _ hb)) (λb hb=>kF b (dz _ hb)) (λb hb=>Gp b (dz _ hb)) (λq hq e he b hb=>wM q hq e he b (by rw[hν2 _ (y7 q hq)]at hb;exact hb))
    have X1:id∉keys io:=λhk=>by
     obtain⟨q,hq,Ft⟩:=cW.1 hk
     exact y7 q hq Ft
    have pt:cP (ca H id (some (.own e l))) (iu ms (tV x) (id+1) io).2.1 id=some (.own e l):=by
     rw[r4 id X1 (.inl ω),ay]
    refine⟨ν',r1,?_,λi hi=> ?_,λi h3 h4=> ?_,λi h3 h4 e9 he=> ?_,r6⟩
    ·simp only[jN,VR]
     refine⟨⟨cs,eN ka (gq τ n) [.slice none 0 0],hv,hrz,?_,?_,hq⟩,r2⟩
     ·rw[r3 id (by rw[ay];simp),uA (yA (e:=e) hq XO tU).2,tU];simp[updν]
     ·show cP (ca H id (some (.own e l))) (iu ms (tV x) (id+1) io).2.1 id≠none
      rw[pt];simp
    ·have ch:i≠id:=λe=>hi (e▸Bb)
     rw[r3 i (by rw[az _ _ ch];exact hi),hν2 i ch]
    ·have ch:i≠id:=by simp only[aT]at h4;omega
     have:=r4 i h3 (by simp only[aT]at h4;omega)
     rw[az _ _ ch]at this
     exact this
    ·by_cases h5:id+1≤i
     ·exact r5 i h5 (by simp only[aT]at h4;omega) e9 he
     ·have ch:i=id:=ω
      subst ch
      have he:cP (ca H i (some (.own e l))) (iu ms (tV x) (i+1) io).2.1 i=some e9:=he
      rw[pt]at he;cases he
      exact .inl ⟨e,_,rfl⟩
   |ptr τ=>
    have XZ:bH (.ptr τ::ms) (v::EN) ps=(fC v).toList++bH ms EN ps:=rfl
    rw[XZ]at wD oI kF Gp
    simp only[A1]at h1
    have oV: ∀b,fC v=some b→ ∀i e',H i=some e'→e'.mut→fC (ν i)≠some b:=by
     intro b hb i e' hi jv fa
     have kC:b∈(fC v).toList++bH ms EN ps:=cU _ (by rw[hb];simp)
     rcases hold i e' b hi jv fa with⟨h3,h4⟩|h3
     ·exact(oI b kC).elim (λh'=>ω) h4
     ·exact ki wD h3 kC
    have yw:=Mem.xr (c:=c) hm (id:=id) (v:=v) (e:= .obj τ (qK x)) (λe' ub=>by rw[Bb]at ub;cases ub) h1 oV (λb hb=>kF b (cU _ (by rw[hb];simp))) (λb e0 l0 he _=>by cases he) (.inl Bb)
    have y7: ∀q∈io,q.1≠id:=λq hq e=>by
     have h9:=zE q hq
     rw[e,Bb]at h9;cases h9
    have hν2: ∀i,i≠id→updν ν id v i=ν i:=λi hi=>by simp[updν,hi]
    obtain⟨ν',r1,r2,r3,r4,r5,r6⟩:=m4 (ms:=ms) (x:=tV x) (us:=EN) (ps:=ps) (id:=id+1) (io:=io) (used:=used++(fC v).toList) yw h2
     (by rw[I6];exact pE λq hq=>(hν2 _ (y7 q hq)).symm) (by simpa [np]using DH) Cx
     (λq hq=>by rw[az _ _ (y7 q hq)];exact zE q hq)
     (λi h3 h4=>by rw[az _ _ ω];exact jx i ω (by simp only[aT];omega))
     (λi e b hi jv hb=>by
      by_cases ch:i=id
      ·subst ch
       have:updν ν i v i=v:=by simp[updν]
       rw[this]at hb
       exact .inr (dz _ (by rw[hb];simp))
      ·rw[az _ _ ch]at hi
       rw[hν2 i ch]at hb
       exact(hold i e b hi jv hb).imp (λh=>h) (cU _))
     (by rw[bE];exact wD) (λb hb=>oI b (dz _ hb)) (λb hb=>kF b (dz _ hb)) (λb hb=>Gp b (dz _ hb)) (λq hq e he b hb=>wM q hq e he b (by rw[hν2 _ (y7 q hq)]at hb;exact hb))
    have X1:id∉keys io:=λhk=>by
     obtain⟨q,hq,Ft⟩:=cW.1 hk
     exact y7 q hq Ft
    have pt:cP (ca H id (some (.obj τ (qK x)))) (iu ms (tV x) (id+1) io).2.1 id=some (.obj τ (qK x)):=by
     rw[r4 id X1 (.inl ω),ay]
    refine⟨ν',r1,?_,λi hi=> ?_,λi h3 h4=> ?_,λi h3 h4 e he=> ?_,r6⟩
    ·simp only[w7,jN,VR]
     refine⟨⟨_,pt,trivial,?_⟩,r2⟩
     simp only[A1,ER]at h1
     obtain⟨b,cs,t,XY,_⟩:=h1
     exact⟨b,by rw[r3 id (by rw[ay];simp)];simp[updν,XY],XY⟩
    ·have ch:i≠id:=λe=>hi (e▸Bb)
     rw[r3 i (by rw[az _ _ ch];exact hi),hν2 i ch]
    ·have ch:i≠id:=by simp only[aT]at h4;omega
     have:=r4 i h3 (by simp only[aT]at h4;omega)
     rw[az _ _ ch]at this
     exact this
    ·by_cases h5:id+1≤i
     ·exact r5 i h5 (by simp only[aT]at h4;omega) e he
     ·have ch:i=id:=ω
      subst ch
      have he:cP (ca H i (some (.obj τ (qK x)))) (iu ms (tV x) (i+1) io).2.1 i=some e:=he
      rw[pt]at he;cases he
      exact .inr ⟨τ,_,rfl⟩
end VM
end
