/- A part of the proof of WindDrawn of layer 21: a machine that reads a function of the program as an equation between values. -/
import Derived.Test.YtecmobijochjkaaGreatVm4
set_option linter.all false
section
namespace VM
open Go
variable{α:Type}{r:α}
theorem dE{υ τ:Ty}{y:υ.den}{k:τ.den→Option α}(h:c7 υ τ y k=some r): ∃z,k z=some r∧ ∀k':τ.den→Option α,c7 υ τ y k'=k' z:=by
 obtain⟨e,h⟩:=bB h
 subst e
 exact⟨y,h,λk'=>by simp[c7]⟩
theorem jW{υ τ:Ty}{k:Option α}(h:mV υ τ k=some r):k=some r∧ ∀k':Option α,mV υ τ k'=k':=by
 obtain⟨e,h1⟩:=fU h
 clear h
 subst e
 exact⟨h1,λk'=>by simp[mV]⟩
theorem et{b:Bool}{K:Option α}(h:cond b K none=some r):K=some r∧ ∀K':Option α,cond b K' none=K':=by
 obtain⟨rfl,h⟩:=cA h
 exact⟨h,λ_=>rfl⟩
theorem td{b:Bool}{K:Option α}(h:cond b none K=some r):K=some r∧ ∀K':Option α,cond b none K'=K':=by
 obtain⟨rfl,h⟩:=mf h
 exact⟨h,λ_=>rfl⟩
theorem xj: ∀{τ:Ty} {x:τ.den} {n:Nat} {k:(υ:Ty)→υ.den→Option α},xH τ x n k=some r→ ∃υ y,k υ y=some r∧ ∀k':(υ:Ty)→υ.den→Option α,xH τ x n k'=k' υ y
 | .pair a b,x,0,k,h=>⟨a,x.1,h,λ_=>rfl⟩
 | .pair a b,x,n+1,k,h=>by
  obtain⟨υ,y,h1,h2⟩:=xj (τ:=b) (x:=x.2) (n:=n) (k:=k) h
  exact⟨υ,y,h1,λk'=>h2 k'⟩
 | .int _,_,_,_,h| .bool,_,_,_,h| .str,_,_,_,h| .slice _,_,_,_,h| .unit,_,_,_,h| .arr _ _,_,_,_,h=>by simp[xH]at h
theorem yA: ∀{τ:Ty} {x:τ.den} {n:Nat} {m:(υ:Ty)→υ.den→(υ.den→Option α)→Option α} {k:τ.den→Option α},
  (∀υ y (k:υ.den→Option α),m υ y k=some r→ ∃z,k z=some r∧ ∀k':υ.den→Option α,m υ y k'=k' z)→mU τ x n m k=some r→ ∃z,k z=some r∧ ∀k':τ.den→Option α,mU τ x n m k'=k' z
 | .pair a b,x,0,m,k,hm,h=>by
  obtain⟨z,h1,h2⟩:=hm a x.1 _ h
  exact⟨(z,x.2),h1,λk'=>h2 _⟩
 | .pair a b,x,n+1,m,k,hm,h=>by
  obtain⟨z,h1,h2⟩:=yA (τ:=b) (x:=x.2) (n:=n) (m:=m) (k:=λz=>k (x.1,z)) hm h
  exact⟨(x.1,z),h1,λk'=>h2 (λz=>k' (x.1,z))⟩
 | .int _,_,_,_,_,_,h| .bool,_,_,_,_,_,h| .str,_,_,_,_,_,h| .slice _,_,_,_,_,_,h| .unit,_,_,_,_,_,h| .arr _ _,_,_,_,_,_,h=>by simp[mU]at h
theorem gN: ∀{p:List Step} {τ:Ty} {x:τ.den} {k:(υ:Ty)→υ.den→Option α},zy p τ x k=some r→ ∃υ y,k υ y=some r∧ ∀k':(υ:Ty)→υ.den→Option α,zy p τ x k'=k' υ y
 |[],τ,x,k,h=>⟨τ,x,h,λ_=>rfl⟩
 | .kq n::p,τ,x,k,h=>by
  obtain⟨υ,y,h1,h2⟩:=xj (h:xH τ x n _=some r)
  obtain⟨υ',y',h3,h4⟩:=gN h1
  exact⟨υ',y',h3,λk'=>(h2 _).trans (h4 k')⟩
 | .idx i::p,τ,x,k,h=>by
  cases τ with
  |arr n e=>
   obtain⟨υ',y',h3,h4⟩:=gN (p:=p) (τ:=e) (x:=List.getD x i e.zero) (k:=k) h
   exact⟨υ',y',h3,λk'=>h4 k'⟩
  |_=>simp[zy,agy]at h
theorem ow{υ:Ty}{y:υ.den}: ∀{p:List Step} {τ:Ty} {x:τ.den} {k:τ.den→Option α},ve υ y p τ x k=some r→ ∃z,k z=some r∧ ∀k':τ.den→Option α,ve υ y p τ x k'=k' z
 |[],τ,x,k,h=>dE h
 | .kq n::p,τ,x,k,h=>yA (λ_ _ _ h=>ow h) h
 | .idx i::p,τ,x,k,h=>by
  cases τ with
  |arr n e=>
   obtain⟨z,h1,h2⟩:=ow (p:=p) (τ:=e) (x:=List.getD x i e.zero) (k:=λz=>k (List.set x i z)) h
   exact⟨_,h1,λk'=>h2 (λz=>k' (List.set x i z))⟩
  |_=>simp[ve,DB]at h
theorem se{a:bC}{k:IntKind→Int→Option α}(h:vJ a k=some r): ∃i n,k i n=some r∧ ∀k':IntKind→Int→Option α,vJ a k'=k' i n:=by
 obtain⟨i,n,rfl,h⟩:=mZ h
 exact⟨i,n,h,λ_=>rfl⟩
theorem Rk{a:bC}{k:(τ:Ty)→τ.den→Option α}(h:LG a k=some r): ∃τ x,k τ x=some r∧ ∀k':(τ:Ty)→τ.den→Option α,LG a k'=k' τ x:=by
 unfold LG at h
 split at h
 ·exact⟨_,_,h,λ_=>rfl⟩
 ·cases h
theorem tZ{a:Option bC}{d:Int}{k:Int→Option α}(h:yp a d k=some r): ∃n,k n=some r∧ ∀k':Int→Option α,yp a d k'=k' n:=by
 cases a with
 |none=>exact⟨d,h,λ_=>rfl⟩
 |some a=>
  obtain⟨i,n,h1,h2⟩:=se (h:vJ a (λ_ x=>k x)=some r)
  exact⟨n,h1,λk'=>h2 (λ_ x=>k' x)⟩
abbrev Ag(rd:List Nat)(H H':Nat→Option bh):Prop:= ∀i∈rd,H' i=H i
theorem ox{fz:Bool}{a:bC}{H:Nat→Option bh}{τ:Ty}{k:τ.den→List Nat→iP→Option α}(h:lN fz a H τ k=some r):
  ∃y rd ups,k y rd ups=some r∧ ∀H',Ag rd H H'→ ∀k':τ.den→List Nat→iP→Option α,lN fz a H' τ k'=k' y rd ups:=by
 cases a with
 |val υ x=>
  simp only[lN]at h
  obtain⟨z,h1,h2⟩:=dE h
  refine⟨z,[],[],h1,λH' _ k'=> ?_⟩
  simp only[lN]
  exact h2 (λy=>k' y [] [])
 |Jq υ x n=>
  simp only[lN]at h
  obtain⟨z,h1,h2⟩:=dE h
  refine⟨z,[],[],h1,λH' _ k'=> ?_⟩
  simp only[lN]
  exact h2 (λy=>k' y [] [])
 |emp=>
  cases τ with
  |slice e=>exact⟨[],[],[],h,λ_ _ _=>rfl⟩
  |_=>cases h
 |ref id=>
  have h:(match H id with
   |some (.own e l)=>c7 (.slice e) τ l λy=>k y [id] (cond fz [(id,some (.ot e l))] [])
   |some (.ot e l)=>c7 (.slice e) τ l λy=>k y [id] []
   |_=>none)=some r:=h
  cases hH:H id with
  |none=>rw[hH]at h;cases h
  |some e=>
   rw[hH]at h
   cases e with
   |own e l=>
    obtain⟨z,h1,h2⟩:=dE (h:c7 (.slice e) τ l _=some r)
    refine⟨z,_,_,h1,λH' hA k'=> ?_⟩
    have:H' id=some (.own e l):=by rw[hA id (by simp),hH]
    show(match H' id with
     |some (.own e l)=>c7 (.slice e) τ l λy=>k' y [id] (cond fz [(id,some (.ot e l))] [])
     |some (.ot e l)=>c7 (.slice e) τ l λy=>k' y [id] []
     |_=>none)=_
    rw[this];exact h2 _
   |ot e l=>
    obtain⟨z,h1,h2⟩:=dE (h:c7 (.slice e) τ l _=some r)
    refine⟨z,_,_,h1,λH' hA k'=> ?_⟩
    have:H' id=some (.ot e l):=by rw[hA id (by simp),hH]
    show(match H' id with
     |some (.own e l)=>c7 (.slice e) τ l λy=>k' y [id] (cond fz [(id,some (.ot e l))] [])
     |some (.ot e l)=>c7 (.slice e) τ l λy=>k' y [id] []
     |_=>none)=_
    rw[this];exact h2 _
   |obj _ _=>cases h
   |ga _ _ _ _=>cases h
   |gone=>cases h
 |any|UY|jg _ _|qD _ _|tup _|LD _ _=>cases h
theorem A8{id:Nat}{p:List Step}{H:Nat→Option bh}{k:Ty→Option α}(h:mW id p H k=some r): ∃υ,k υ=some r∧ ∀H',H' id=H id→ ∀k':Ty→Option α,mW id p H' k'=k' υ:=by
 unfold mW at h
 split at h
 ·rename_i τ x bg
  obtain⟨υ,y,h1,h2⟩:=gN h
  exact⟨υ,h1,λH' hA k'=>by unfold mW;rw[hA,bg];exact h2 _⟩
 ·rename_i τ x _ _ bg
  obtain⟨υ,y,h1,h2⟩:=gN h
  exact⟨υ,h1,λH' hA k'=>by unfold mW;rw[hA,bg];exact h2 _⟩
 ·rename_i e l bg
  split at h
  ·obtain⟨υ,y,h1,h2⟩:=gN h
   exact⟨υ,h1,λH' hA k'=>by unfold mW;rw[hA,bg];exact h2 _⟩
  ·cases h
 ·rename_i e l bg
  split at h
  ·obtain⟨υ,y,h1,h2⟩:=gN h
   exact⟨υ,h1,λH' hA k'=>by unfold mW;rw[hA,bg];exact h2 _⟩
  ·cases h
 ·cases h
theorem xk{H:Nat→Option bh}{id:Nat}{e:bh}{K:Option α}(h:qE H id e K=some r):K=some r∧ ∀H',H' id=H id→ ∀(e':bh) (K':Option α),qE H' id e' K'=K':=by
 obtain⟨h1,h2⟩:=kU h
 exact⟨h2,λH' hA e' K'=>by unfold qE;rw[hA,h1]⟩
theorem SU{b:BinOp}{k:IntKind}{x y:Int}{K:bC→Option α}(h:tP b k x y K=some r): ∃v,K v=some r∧ ∀K':bC→Option α,tP b k x y K'=K' v:=by
 cases b<;>simp only[tP]at h ⊢ <;>first
  |exact⟨_,h,λ_=>rfl⟩
  |(obtain⟨h1,h2⟩:=td h;exact⟨_,h1,λ_=>h2 _⟩)
  |cases h
theorem ag8{b:BinOp}{k:IntKind}{x y:Int}{K:bC→Option α}(h:YQ b k x y K=some r): ∃v,K v=some r∧ ∀K':bC→Option α,YQ b k x y K'=K' v:=by
 cases b<;>simp only[YQ]at h ⊢ <;>first
  |(obtain⟨h1,h2⟩:=td h;exact⟨_,h1,λ_=>h2 _⟩)
  |cases h
theorem Vo{t:Option Ty}{op:BinOp}{τ:Ty}{x:τ.den}{υ:Ty}{y:υ.den}{K:bC→Option α}(h:Eu t op τ x υ y K=some r): ∃v,K v=some r∧ ∀K':bC→Option α,Eu t op τ x υ y K'=K' v:=by
 unfold Eu at h ⊢
 split at h
 ·rename_i k x k' y
  cases hs:YR op
  ·rw[hs]at h
   have h:(if k=k' then tP op k x y K else none)=some r:=h
   by_cases hk:k=k'
   ·rw[aj hk]at h
    obtain⟨v,h1,h2⟩:=SU h
    exact⟨v,h1,λK'=>by simp only[av,aj hk];exact h2 K'⟩
   ·rw[ah hk]at h;cases h
  ·rw[hs]at h
   obtain⟨v,h1,h2⟩:=ag8 (h:YQ op k x y K=some r)
   exact⟨v,h1,λK'=>by simp only[ak];exact h2 K'⟩
 ·split at h
  ·cases h
  ·obtain⟨h1,h2⟩:=jW h
   obtain⟨h3,h4⟩:=et h1
   split at h3
   ·obtain⟨z,h5,h6⟩:=dE h3
    exact⟨_,h5,λK'=>by rw[h2,h4];exact h6 _⟩
   ·obtain⟨z,h5,h6⟩:=dE h3
    exact⟨_,h5,λK'=>by rw[h2,h4];exact h6 _⟩
   ·cases h3
theorem Zj{u:UnOp}{a:bC}{K:bC→Option α}(h:Sw u a K=some r): ∃v,K v=some r∧ ∀K':bC→Option α,Sw u a K'=K' v:=by
 unfold Sw at h
 split at h<;>first
  |exact⟨_,h,λ_=>rfl⟩
  |cases h
theorem PK{up:Bool}: ∀{xs:List bC} {a:bC} {K:bC→Option α},Yx up a xs K=some r→ ∃v,K v=some r∧ ∀K':bC→Option α,Yx up a xs K'=K' v
 |[],a,K,h=>⟨a,h,λ_=>rfl⟩
 |b::xs,a,K,h=>by
  unfold Yx at h
  obtain⟨k,x,h1,h2⟩:=se h
  obtain⟨k',y,h3,h4⟩:=se h1
  by_cases hk:k=k'
  ·rw[aj hk]at h3
   obtain⟨v,h5,h6⟩:=PK h3
   refine⟨v,h5,λK'=> ?_⟩
   unfold Yx
   rw[h2,h4,aj hk]
   exact h6 K'
  ·rw[ah hk]at h3;cases h3
theorem Zk{τ:Ty}{a:bC}{H:Nat→Option bh}{K:iU α}(h:LH τ a H K=some r): ∃v rd ups,K v rd ups=some r∧ ∀H',Ag rd H H'→ ∀K':iU α,LH τ a H' K'=K' v rd ups:=by
 unfold LH at h
 split at h
 ·exact⟨_,_,_,h,λ_ _ _=>rfl⟩
 ·exact⟨_,_,_,h,λ_ _ _=>rfl⟩
 ·exact⟨_,_,_,h,λ_ _ _=>rfl⟩
 ·exact⟨_,_,_,h,λ_ _ _=>rfl⟩
 ·split at h
  ·rename_i bg
   exact⟨_,_,_,h,λH' hA K'=>by unfold LH;simp only;rw[hA _ (by simp),bg]⟩
  ·rename_i bg
   exact⟨_,_,_,h,λH' hA K'=>by unfold LH;simp only;rw[hA _ (by simp),bg]⟩
  ·cases h
 ·cases h
theorem Zl{id:Nat}{e:Ty}{a b:bC}{H:Nat→Option bh}{K:iU α}(h:LJ id e a b H K=some r): ∃v rd ups,K v rd ups=some r∧id∈rd∧ ∀H',Ag rd H H'→ ∀K':iU α,LJ id e a b H' K'=K' v rd ups:=by
 unfold LJ at h
 obtain⟨ys,rd,ups,h1,h2⟩:=ox h
 split at h1
 ·obtain⟨h3,h4⟩:=et h1
  refine⟨_,_,_,h3,by simp,λH' hA K'=> ?_⟩
  unfold LJ
  rw[h2 H' (λi hi=>hA i (a6 _ hi))]
  exact h4 _
 ·rename_i j
  split at h1
  ·rename_i e' l hj
   obtain⟨z,h3,h4⟩:=dE h1
   obtain⟨h5,h6⟩:=et h3
   refine⟨_,_,_,h5,by simp,λH' hA K'=> ?_⟩
   unfold LJ
   rw[h2 H' (λi hi=>hA i (a6 _ (a6 _ hi)))]
   simp only
   rw[hA j (by simp),hj]
   simp only
   rw[h4]
   exact h6 _
  ·cases h1
 ·cases h1
theorem ES{e:Ty}{n:Nat}{H:Nat→Option bh}: ∀{ps:List (Nat×bC)} {l:List e.den} {HV:List Nat} {ET:iP} {K:List e.den→List Nat→iP→Option α},vL e H n ps l HV ET K=some r→
  ∃l' rd ups,K l' rd ups=some r∧(∀i∈HV,i∈rd)∧ ∀H',Ag rd H H'→ ∀K':List e.den→List Nat→iP→Option α,vL e H' n ps l HV ET K'=K' l' rd ups
 |[],l,HV,ET,K,h=>⟨l,HV,ET,h,λ_ h=>h,λ_ _ _=>rfl⟩
 |p::ps,l,HV,ET,K,h=>by
  unfold vL at h
  obtain⟨h1,h2⟩:=et h
  obtain⟨y,rd1,PH,h3,h4⟩:=ox h1
  obtain⟨l',rd,ups,h5,h6,h7⟩:=ES h3
  refine⟨l',rd,ups,h5,λi hi=>h6 i (dy _ hi),λH' hA K'=> ?_⟩
  unfold vL
  rw[h2,h4 H' (λi hi=>hA i (h6 i (cS _ hi)))]
  exact h7 H' hA K'
theorem HW{τ:Ty}{H:Nat→Option bh}: ∀{ps:List (Nat×bC)} {x:τ.den} {HV:List Nat} {ET:iP} {K:τ.den→List Nat→iP→Option α},tQ τ H ps x HV ET K=some r→
  ∃x' rd ups,K x' rd ups=some r∧(∀i∈HV,i∈rd)∧ ∀H',Ag rd H H'→ ∀K':τ.den→List Nat→iP→Option α,tQ τ H' ps x HV ET K'=K' x' rd ups
 |[],x,HV,ET,K,h=>⟨x,HV,ET,h,λ_ h=>h,λ_ _ _=>rfl⟩
 |p::ps,x,HV,ET,K,h=>by
  unfold tQ at h
  obtain⟨υ,z,h1,h2⟩:=xj h
  obtain⟨y,rd1,PH,h3,h4⟩:=ox h1
  obtain⟨z',h5,h6⟩:=yA (m:=fun υ' _ k'=>c7 υ υ' y k') (fun υ' y' k hk=>dE hk) h3
  obtain⟨x',rd,ups,h7,h8,h9⟩:=HW h5
  refine⟨x',rd,ups,h7,λi hi=>h8 i (dy _ hi),λH' hA K'=> ?_⟩
  unfold tQ
  rw[h2,h4 H' (λi hi=>hA i (h8 i (cS _ hi))),h6]
  exact h9 H' hA K'
theorem Vp{H:Nat→Option bh}{v:bC}{a:Ty}{k:a.den→List Nat→iP→Option α}(h:BV v H a k=some r):
  ∃x rd ups,k x rd ups=some r∧ ∀H',Ag rd H H'→ ∀k':a.den→List Nat→iP→Option α,BV v H' a k'=k' x rd ups:=by
 unfold BV at h
 split at h
 ·split at h
  ·obtain⟨z,h1,h2⟩:=dE h
   refine⟨_,_,_,h1,λH' _ k'=> ?_⟩
   unfold BV
   simp only
   rw[h2]
  ·cases h
 ·rename_i k0 vp
  obtain⟨y,rd,ups,h1,h2⟩:=ox h
  refine⟨y,rd,ups,h1,λH' hA k'=> ?_⟩
  unfold BV
  split
  ·exact(vp _ _ rfl HEq.rfl).elim
  ·exact h2 H' hA _
theorem Mk{H:Nat→Option bh}: ∀{τ:Ty} {vs:List bC} {k:τ.den→List Nat→iP→Option α},qF H τ vs k=some r→
  ∃x rd ups,k x rd ups=some r∧ ∀H',Ag rd H H'→ ∀k':τ.den→List Nat→iP→Option α,qF H' τ vs k'=k' x rd ups
 | .unit,[],k,h=>⟨(),[],[],h,λ_ _ _=>rfl⟩
 | .pair a b,v::vs,k,h=>by
  unfold qF at h
  obtain⟨y,rd,ups,h1,h2⟩:=Vp h
  obtain⟨ys,AW,nN,h3,h4⟩:=Mk h1
  refine⟨(y,ys),_,_,h3,λH' hA k'=> ?_⟩
  unfold qF
  rw[h2 H' (λi hi=>hA i (dy _ hi)),h4 H' (λi hi=>hA i (cS _ hi))]
 | .unit,_::_,_,h=>by simp[qF]at h
 | .pair _ _,[],_,h=>by simp[qF]at h
 | .int _,_,_,h| .bool,_,_,h| .str,_,_,h| .slice _,_,_,h| .arr _ _,_,_,h=>by simp[qF]at h
theorem EU: ∀{pP:List bC} {H:Nat→Option bh} {K:List bC→List Nat→iP→Option α},vM H pP K=some r→
  ∃cs rd ups,K cs rd ups=some r∧ ∀H',Ag rd H H'→ ∀K':List bC→List Nat→iP→Option α,vM H' pP K'=K' cs rd ups
 |[],H,K,h=>⟨[],[],[],h,λ_ _ _=>rfl⟩
 |a::pP,H,K,h=>by
  unfold vM at h
  split at h
  ·rename_i id
   split at h
   ·rename_i τ x bg
    obtain⟨cs,rd,ups,h1,h2⟩:=EU h
    refine⟨_,_,_,h1,λH' hA K'=> ?_⟩
    unfold vM
    simp only
    rw[hA id (by simp),bg]
    simp only
    rw[h2 (bW H' id (some .gone)) (λi hi=>by
     by_cases bV:i=id
     ·subst bV;rw[ay,ay]
     ·rw[az _ _ bV,az _ _ bV];exact hA i (a6 _ hi))]
   ·cases h
  ·rename_i vp
   obtain⟨cs,rd,ups,h1,h2⟩:=EU h
   refine⟨_,_,_,h1,λH' hA K'=> ?_⟩
   unfold vM
   split
   ·exact absurd rfl (vp _)
   ·rw[h2 H' hA]
end VM
end
section
namespace VM
open Go
variable{α:Type}{r:α}
theorem Ml{m:AM}{a:bC}{H:Nat→Option bh}{k:m.den→(Nat→Option bh)→List Nat→iP→iP→List (Nat×AM)→Option α}(h:nJ m a H k=some r):
  ∃y rd uo uf io,∃g:(Nat→Option bh)→(Nat→Option bh),k y (g H) rd uo uf io=some r∧(∀H' i,H' i=H i→g H' i=g H i)∧
   ∀H',Ag rd H H'→ ∀k':m.den→(Nat→Option bh)→List Nat→iP→iP→List (Nat×AM)→Option α,nJ m a H' k'=k' y (g H') rd uo uf io:=by
 have Mm: ∀(d:Nat) (v:Option bh) (H':Nat→Option bh) (i:Nat),H' i=H i→bW H' d v i=bW H d v i:=by
  intro d v H' i hi
  by_cases bg:i=d
  ·subst bg;rw[ay,ay]
  ·rw[az _ _ bg,az _ _ bg,hi]
 unfold nJ at h
 split at h
 ·rename_i τ k
  obtain⟨y,rd,ups,h1,h2⟩:=ox h
  cases ups with
  |nil=>
   refine⟨y,rd,[],[],[],λH=>H,h1,λ_ _ h=>h,λH' hA k'=> ?_⟩
   unfold nJ;simp only;rw[h2 H' hA]
  |cons u rest=>
   refine⟨y,rd,[],u::rest,[],λH=>bW H u.1 u.2,h1,λH' i hi=>Mm _ _ H' i hi,λH' hA k'=> ?_⟩
   unfold nJ;simp only;rw[h2 H' hA]
 ·rename_i e k
  split at h
  ·exact⟨[],[],[],[],[],λH=>H,h,λ_ _ h=>h,λ_ _ _=>rfl⟩
  ·rename_i id
   split at h
   ·rename_i e' l bg
    obtain⟨z,h1,h2⟩:=dE h
    refine⟨z,[id],_,_,_,λH=>bW H id (some .gone),h1,λH' i hi=>Mm _ _ H' i hi,λH' hA k'=> ?_⟩
    unfold nJ;simp only;rw[hA id (by simp),bg];simp only;rw[h2]
   ·cases h
  ·cases h
 ·rename_i τ k
  split at h
  ·rename_i id
   split at h
   ·rename_i υ x bg
    obtain⟨z,h1,h2⟩:=dE h
    refine⟨z,[id],_,_,_,λH=>bW H id (some .gone),h1,λH' i hi=>Mm _ _ H' i hi,λH' hA k'=> ?_⟩
    unfold nJ;simp only;rw[hA id (by simp),bg];simp only;rw[h2]
   ·cases h
  ·cases h
 ·rename_i f τ k
  split at h
  ·rename_i f' cs
   obtain⟨h1,h2⟩:=et h
   obtain⟨x,rd,ups,h3,h4⟩:=Mk h1
   cases ups with
   |nil=>
    refine⟨x,rd,[],[],[],λH=>H,h3,λ_ _ h=>h,λH' hA k'=> ?_⟩
    unfold nJ;simp only;rw[h2,h4 H' hA]
   |cons _ _=>cases h3
  ·cases h
 ·cases h
 ·rename_i τ k
  split at h
  ·obtain⟨z,h1,h2⟩:=dE h
   refine⟨z,[],[],[],[],λH=>H,h1,λ_ _ h=>h,λH' hA k'=> ?_⟩
   unfold nJ;simp only;rw[h2]
  ·cases h
 ·rename_i e k
  split at h
  ·rename_i id
   split at h
   ·rename_i e' l bg
    obtain⟨z,h1,h2⟩:=dE h
    refine⟨z,[id],_,_,_,λH=>bW H id (some .gone),h1,λH' i hi=>Mm _ _ H' i hi,λH' hA k'=> ?_⟩
    unfold nJ;simp only;rw[hA id (by simp),bg];simp only;rw[h2]
   ·cases h
  ·cases h
theorem Mn: ∀{ms:List AM} {pP:List bC} {H:Nat→Option bh} {HV:List Nat} {uo0 uf0:iP} {io0:List (Nat×AM)} {K:HP ms→List Nat→iP→iP→List (Nat×AM)→Option α},s0 ms pP H HV uo0 uf0 io0 K=some r→
  ∃x rd uo uf io,K x rd uo uf io=some r∧(∀i∈HV,i∈rd)∧ ∀H',Ag rd H H'→ ∀K':HP ms→List Nat→iP→iP→List (Nat×AM)→Option α,s0 ms pP H' HV uo0 uf0 io0 K'=K' x rd uo uf io
 |[],[],H,HV,uo0,uf0,io0,K,h=>⟨(),_,_,_,_,h,λ_ h=>h,λ_ _ _=>rfl⟩
 |[m],[a],H,HV,uo0,uf0,io0,K,h=>by
  obtain⟨y,rd,uo,uf,io,g,h1,h2,h3⟩:=Ml (h:nJ m a H _=some r)
  exact⟨y,_,_,_,_,h1,λi hi=>dy _ hi,λH' hA K'=>h3 H' (λi hi=>hA i (cS _ hi)) _⟩
 |m::n::ms,a::pP,H,HV,uo0,uf0,io0,K,h=>by
  obtain⟨y,rd,uo,uf,io,g,h1,h2,h3⟩:=Ml (h:nJ m a H _=some r)
  obtain⟨ys,AW,K2,K3,GB,h4,h5,h6⟩:=Mn (ms:=n::ms) h1
  refine⟨(y,ys),AW,K2,K3,GB,h4,λi hi=>h5 i (dy _ hi),λH' hA K'=> ?_⟩
  refine(h3 H' (λi hi=>hA i (h5 i (cS _ hi))) _).trans ?_
  exact h6 (g H') (λi hi=>h2 H' i (hA i hi)) _
 |[],_::_,_,_,_,_,_,_,h=>by simp[s0]at h
 |[_],[],_,_,_,_,_,_,h=>by simp[s0]at h
 |[_],_::_::_,_,_,_,_,_,_,h=>by simp[s0]at h
 |_::_::_,[],_,_,_,_,_,_,h=>by simp[s0]at h
theorem Vq{id i:Nat}: ∀{n:Nat},i∈LM id n↔id≤i∧i<id+n
 |0=>by simp[LM]
 |n+1=>by simp only[LM,aX,Vq];omega
theorem yf{H H':Nat→Option bh}{id:Nat}: ∀{n:Nat},(∀i∈LM id n,H' i=H i)→tR H' id n=tR H id n
 |0,_=>rfl
 |n+1,h=>by
  unfold tR
  rw[h (id+n) (by simp[LM]),yf λi hi=>h i (by simp[LM,hi])]
theorem Vr{E:Env}{f id:Nat}{pP:List bC}{H:Nat→Option bh}{K:iU α}(h:BX E f pP id H K=some r): ∃v rd ups,K v rd ups=some r∧ ∀H',Ag rd H H'→ ∀K':iU α,BX E f pP id H' K'=K' v rd ups:=by
 unfold BX at h
 split at h
 ·cases h
 ·rename_i S hS
  obtain⟨x,rd,uo,uf,io,h1,_,h2⟩:=Mn h
  obtain⟨y,hy,h3⟩:=sR.1 h1
  obtain⟨h4,h5⟩:=cA h3
  refine⟨_,_,_,h5,λH' hA K'=> ?_⟩
  unfold BX
  rw[hS]
  simp only
  rw[h2 H' (λi hi=>hA i (dy _ (dy _ hi))),hy]
  simp only[ar]
  rw[yf (λi hi=>hA i (cS _ hi)),h4]
  rfl
theorem SV{t:Ty}{z:Bool}{a:bC}{lo hi mx:Option bC}{H:Nat→Option bh}{K:iU α}(h:qG t z a lo hi mx H K=some r): ∃v rd ups,K v rd ups=some r∧ ∀H',Ag rd H H'→ ∀K':iU α,qG t z a lo hi mx H' K'=K' v rd ups:=by
 unfold qG at h
 split at h
 ·obtain⟨h1,e1⟩:=et h
  obtain⟨l,h2,e2⟩:=tZ h1
  obtain⟨m,h3,e3⟩:=tZ h2
  obtain⟨h4,e4⟩:=et h3
  exact⟨_,_,_,h4,λH' _ K'=>by unfold qG;simp only;rw[e1,e2,e3,e4]⟩
 ·cases z
  ·obtain⟨h1,e1⟩:=et (h:cond mx.isNone _ none=some r)
   obtain⟨l,h2,e2⟩:=tZ h1
   obtain⟨m,h3,e3⟩:=tZ h2
   obtain⟨h4,e4⟩:=et h3
   exact⟨_,_,_,h4,λH' _ K'=>by unfold qG;simp only[av];rw[e1,e2,e3,e4]⟩
  ·exact⟨_,_,_,h,λH' _ K'=>by unfold qG;rfl⟩
 ·rename_i e jH
  obtain⟨y,rd,ups,h1,e1⟩:=ox h
  cases z
  ·obtain⟨h2,e2⟩:=et (h1:cond (mx.isNone||hi.isSome) _ none=some r)
   obtain⟨l,h3,e3⟩:=tZ h2
   obtain⟨m,h4,e4⟩:=tZ h3
   obtain⟨n,h5,e5⟩:=tZ h4
   obtain⟨h6,e6⟩:=et h5
   refine⟨_,_,_,h6,λH' hA K'=> ?_⟩
   unfold qG
   simp only
   rw[e1 H' hA]
   simp only[av]
   rw[e2,e3,e4,e5,e6]
  ·refine⟨_,_,_,(h1:K .emp rd []=some r),λH' hA K'=> ?_⟩
   unfold qG
   simp only
   rw[e1 H' hA]
   rfl
 ·cases h
theorem Hd{τ:Ty}{a i:bC}{H:Nat→Option bh}{K:iU α}(h:gy τ a i H K=some r): ∃v rd ups,K v rd ups=some r∧ ∀H',Ag rd H H'→ ∀K':iU α,gy τ a i H' K'=K' v rd ups:=by
 unfold gy at h
 obtain⟨k,n,h,e0⟩:=se h
 split at h
 ·split at h
  ·obtain⟨z,h1,e1⟩:=dE h
   obtain⟨h2,e2⟩:=et h1
   exact⟨_,_,_,h2,λH' _ K'=>by unfold gy;rw[e0];simp only;rw[e1,e2]⟩
  ·split at h
   ·rename_i bg
    obtain⟨h1,e1⟩:=jW h
    obtain⟨h2,e2⟩:=et h1
    exact⟨_,_,_,h2,λH' hA K'=>by unfold gy;rw[e0];simp only;rw[hA _ (by simp),bg];simp only;rw[e1,e2]⟩
   ·rename_i bg
    obtain⟨h1,e1⟩:=jW h
    obtain⟨h2,e2⟩:=et h1
    exact⟨_,_,_,h2,λH' hA K'=>by unfold gy;rw[e0];simp only;rw[hA _ (by simp),bg];simp only;rw[e1,e2]⟩
   ·cases h
  ·cases h
 ·split at h
  ·obtain⟨υ,h1,e1⟩:=A8 h
   obtain⟨h2,e2⟩:=jW h1
   obtain⟨h3,e3⟩:=et h2
   exact⟨_,_,_,h3,λH' hA K'=>by unfold gy;rw[e0];simp only;rw[e1 H' (hA _ (by simp)),e2,e3]⟩
  ·obtain⟨z,h1,e1⟩:=dE h
   obtain⟨h2,e2⟩:=et h1
   exact⟨_,_,_,h2,λH' _ K'=>by unfold gy;rw[e0];simp only;rw[e1,e2]⟩
  ·cases h
 ·cases h
theorem SW{τ:Ty}{a i:bC}{K:bC→Option α}(h:vN τ a i K=some r): ∃v,K v=some r∧ ∀K':bC→Option α,vN τ a i K'=K' v:=by
 unfold vN at h
 obtain⟨k,n,h,e0⟩:=se h
 split at h
 ·obtain⟨z,h1,e1⟩:=dE h
  obtain⟨h2,e2⟩:=et h1
  exact⟨_,h2,λK'=>by unfold vN;rw[e0];simp only;rw[e1,e2]⟩
 ·obtain⟨h2,e2⟩:=et h
  exact⟨_,h2,λK'=>by unfold vN;rw[e0];simp only;rw[e2]⟩
 ·cases h
theorem Vs{a:bC}{H:Nat→Option bh}{K:(υ:Ty)→υ.den→List Nat→Option α}(h:kL a H K=some r): ∃υ y rd,K υ y rd=some r∧ ∀H',Ag rd H H'→ ∀K':(υ:Ty)→υ.den→List Nat→Option α,kL a H' K'=K' υ y rd:=by
 unfold kL at h
 split at h
 ·exact⟨_,_,_,h,λ_ _ _=>rfl⟩
 ·split at h
  ·rename_i bg
   obtain⟨υ,y,h1,e1⟩:=gN h
   exact⟨_,_,_,h1,λH' hA K'=>by unfold kL;simp only;rw[hA _ (by simp),bg];simp only;rw[e1]⟩
  ·rename_i bg
   split at h
   ·obtain⟨υ,y,h1,e1⟩:=gN h
    exact⟨_,_,_,h1,λH' hA K'=>by unfold kL;simp only;rw[hA _ (by simp),bg];simp only;rw[e1]⟩
   ·cases h
  ·rename_i bg
   split at h
   ·obtain⟨υ,y,h1,e1⟩:=gN h
    exact⟨_,_,_,h1,λH' hA K'=>by unfold kL;simp only;rw[hA _ (by simp),bg];simp only;rw[e1]⟩
   ·cases h
  ·cases h
 ·cases h
theorem SX{τ:Ty}{a v:bC}{H:Nat→Option bh}{K:iU α}(h:lP τ a v H K=some r): ∃u rd ups,K u rd ups=some r∧ ∀H',Ag rd H H'→ ∀K':iU α,lP τ a v H' K'=K' u rd ups:=by
 unfold lP at h
 split at h
 ·obtain⟨y,rd,ups,h1,e1⟩:=ox h
  split at h1
  ·rename_i bg
   obtain⟨z,h2,e2⟩:=ow h1
   exact⟨_,_,_,h2,λH' hA K'=>by
    unfold lP;simp only
    rw[e1 H' (λi hi=>hA i (a6 _ hi))]
    rw[hA _ (by simp),bg];simp only;rw[e2]⟩
  ·rename_i bg
   split at h1
   ·obtain⟨h2,e2⟩:=td h1
    obtain⟨z,h3,e3⟩:=ow h2
    exact⟨_,_,_,h3,λH' hA K'=>by
     unfold lP;simp only
     rw[e1 H' (λi hi=>hA i (a6 _ hi))]
     rw[hA _ (by simp),bg];simp only;rw[e2,e3]⟩
   ·cases h1
  ·cases h1
 ·cases h
theorem Zm{j:Nat}{q:List Step}{τ:Ty}{x:τ.den}{H:Nat→Option bh}{k:τ.den→iP→Option α}(h:CR j q τ x H k=some r): ∃z ups,k z ups=some r∧ ∀H',H' j=H j→ ∀k':τ.den→iP→Option α,CR j q τ x H' k'=k' z ups:=by
 unfold CR at h
 split at h
 ·rename_i hj
  obtain⟨z,h1,e1⟩:=ow h
  exact⟨_,_,h1,λH' hA k'=>by unfold CR;rw[hA,hj];simp only;rw[e1]⟩
 ·rename_i hj
  obtain⟨z,h1,e1⟩:=ow h
  exact⟨_,_,h1,λH' hA k'=>by unfold CR;rw[hA,hj];simp only;rw[e1]⟩
 ·cases h
abbrev Pts(F:(Nat→Option bh)→iU α→Option α)(H:Nat→Option bh)(K:iU α)(r:α):Prop:=
 ∃v rd ups,K v rd ups=some r∧ ∀H',Ag rd H H'→ ∀K':iU α,F H' K'=K' v rd ups
theorem Vt{τ:Ty}{a:bC}{H:Nat→Option bh}{K:iU α}(h:(kL a H fun υ y rd=>c7 υ τ y λz=>K (.val τ z) rd [])=some r):
  Pts (λH K=>kL a H fun υ y rd=>c7 υ τ y λz=>K (.val τ z) rd []) H K r:=by
 obtain⟨υ,y,rd,h1,e1⟩:=Vs h
 obtain⟨z,h2,e2⟩:=dE h1
 exact⟨_,_,_,h2,λH' hA K'=>by simp only;rw[e1 H' hA,e2]⟩
theorem alL{id:Nat}{p:List Step}{H:Nat→Option bh}{K:(υ:Ty)→υ.den→List Nat→Option α}(h:kL (.jg id p) H K=some r): ∃υ y,K υ y [id]=some r:=by
 unfold kL at h
 simp only at h
 split at h
 ·obtain⟨υ,y,h1,_⟩:=gN h;exact⟨υ,y,h1⟩
 ·split at h
  ·obtain⟨υ,y,h1,_⟩:=gN h;exact⟨υ,y,h1⟩
  ·cases h
 ·split at h
  ·obtain⟨υ,y,h1,_⟩:=gN h;exact⟨υ,y,h1⟩
  ·cases h
 ·cases h
theorem Vu{τ:Ty}{id:Nat}{p:List Step}{H:Nat→Option bh}{K:iU α}(h:(kL (.jg id p) H fun υ y rd=>c7 υ τ y λz=>K (.val τ z) rd [])=some r):
  ∃z,K (.val τ z) [id] []=some r∧ ∀H',H' id=H id→ ∀K':iU α,(kL (.jg id p) H' fun υ y rd=>c7 υ τ y λz=>K' (.val τ z) rd [])=K' (.val τ z) [id] []:=by
 unfold kL at h
 simp only at h
 split at h
 ·rename_i bg
  obtain⟨υ,y,h1,e1⟩:=gN h
  obtain⟨z,h2,e2⟩:=dE h1
  exact⟨_,h2,λH' hA K'=>by unfold kL;simp only;rw[hA,bg];simp only;rw[e1,e2]⟩
 ·rename_i bg
  split at h
  ·obtain⟨υ,y,h1,e1⟩:=gN h
   obtain⟨z,h2,e2⟩:=dE h1
   exact⟨_,h2,λH' hA K'=>by unfold kL;simp only;rw[hA,bg];simp only;rw[e1,e2]⟩
  ·cases h
 ·rename_i bg
  split at h
  ·obtain⟨υ,y,h1,e1⟩:=gN h
   obtain⟨z,h2,e2⟩:=dE h1
   exact⟨_,h2,λH' hA K'=>by unfold kL;simp only;rw[hA,bg];simp only;rw[e1,e2]⟩
  ·cases h
 ·cases h
theorem Vv{τ:Ty}{a:bC}{H:Nat→Option bh}{K:iU α}(h:uS τ a H K=some r):Pts (uS τ a) H K r:=by
 unfold uS at h
 simp only at h
 split at h
 ·rename_i id p
  split at h
  ·rename_i υ x q j bg
   cases hp:LC p q
   ·cases GC:xG p q
    ·rw[hp,GC]at h
     simp only[av]at h
     obtain⟨υ',y,h1,e1⟩:=gN h
     obtain⟨z,h2,e2⟩:=dE h1
     exact⟨_,_,_,h2,λH' hA K'=>by
      unfold uS;simp only;rw[hA id (by simp),bg];simp only
      rw[hp,GC];simp only[av];rw[e1,e2]⟩
    ·rw[hp,GC]at h
     simp only[av,ak]at h
     obtain⟨z,ups,h1,e1⟩:=Zm h
     obtain⟨υ',y,h2,e2⟩:=gN h1
     obtain⟨z',h3,e3⟩:=dE h2
     exact⟨_,_,_,h3,λH' hA K'=>by
      unfold uS;simp only;rw[hA id (by simp),bg];simp only
      rw[hp,GC];simp only[av,ak];rw[e1 H' (hA j (by simp)),e2,e3]⟩
   ·rw[hp]at h
    simp only[ak]at h
    obtain⟨h1,e1⟩:=et h
    exact⟨_,_,_,h1,λH' hA K'=>by
     unfold uS;simp only;rw[hA id (by simp),bg];simp only
     rw[hp];simp only[ak];rw[e1]⟩
  ·rename_i vp
   obtain⟨z,h1,e1⟩:=Vu h
   refine⟨_,_,_,h1,λH' hA K'=> ?_⟩
   unfold uS;simp only;rw[hA id (by simp)]
   split
   ·rename_i bg;exact absurd bg (vp _ _ _ _)
   ·exact e1 H' (hA id (by simp)) K'
 ·rename_i vp
  obtain⟨v,rd,ups,h1,e1⟩:=Vt h
  refine⟨v,rd,ups,h1,λH' hA K'=> ?_⟩
  have:uS τ a H' K'=kL a H' fun υ y rd=>c7 υ τ y λz=>K' (.val τ z) rd []:=by
   unfold uS
   cases a<;>first|rfl|exact absurd rfl (vp _ _)
  rw[this]
  exact e1 H' hA K'
theorem Mo{τ:Ty}{id k:Nat}{e:Ty}{q:List Step}{υ:Ty}{x:υ.den}{H:Nat→Option bh}{K:iU α}(h:BY τ id k e q υ x H K=some r):
  ∃v ups,K v [id,k] ups=some r∧ ∀H',H' k=H k→ ∀K':iU α,BY τ id k e q υ x H' K'=K' v [id,k] ups:=by
 unfold BY at h
 split at h
 ·rename_i bg
  obtain⟨h1,e1⟩:=jW h
  obtain⟨h2,e2⟩:=jW h1
  obtain⟨z,h3,e3⟩:=ow h2
  exact⟨_,_,h3,λH' hA K'=>by unfold BY;rw[hA,bg];simp only;rw[e1,e2,e3]⟩
 ·cases h
theorem A9{τ:Ty}{id:Nat}{p:List Step}{v:bC}{H:Nat→Option bh}{K:iU α}(h:lP τ (.jg id p) v H K=some r):
  ∃u rd ups,id∈rd∧K u rd ups=some r∧ ∀H',Ag rd H H'→ ∀K':iU α,lP τ (.jg id p) v H' K'=K' u rd ups:=by
 unfold lP at h
 simp only at h
 obtain⟨y,rd,ups,h1,e1⟩:=ox h
 split at h1
 ·rename_i bg
  obtain⟨z,h2,e2⟩:=ow h1
  exact⟨_,_,_,by simp,h2,λH' hA K'=>by
   unfold lP;simp only
   rw[e1 H' (λi hi=>hA i (a6 _ hi))]
   rw[hA _ (by simp),bg];simp only;rw[e2]⟩
 ·rename_i bg
  split at h1
  ·obtain⟨h2,e2⟩:=td h1
   obtain⟨z,h3,e3⟩:=ow h2
   exact⟨_,_,_,by simp,h3,λH' hA K'=>by
    unfold lP;simp only
    rw[e1 H' (λi hi=>hA i (a6 _ hi))]
    rw[hA _ (by simp),bg];simp only;rw[e2,e3]⟩
  ·cases h1
 ·cases h1
theorem Ba{E:Env}{τ:Ty}{a v:bC}{H:Nat→Option bh}{K:iU α}(h:jT E τ a v H K=some r):
  ∃u rd ups,K u rd ups=some r∧ ∀H',Ag rd H H'→ ∀K':iU α,jT E τ a v H' K'=K' u rd ups:=by
 have h0:=h
 unfold jT at h
 simp only at h
 split at h
 ·rename_i id p
  split at h
  ·rename_i υ x bg
   split at h
   ·rename_i q e k sF
    cases hp:LC p q
    ·rw[hp]at h
     simp only[av]at h
     obtain⟨u,rd,ups,hi,h1,e1⟩:=A9 h
     refine⟨u,rd,ups,h1,λH' hA K'=> ?_⟩
     unfold jT;simp only;rw[hA id hi,bg];simp only;rw[sF];simp only;rw[hp];simp only[av]
     exact e1 H' hA K'
    ·rw[hp]at h
     simp only[ak]at h
     obtain⟨u,ups,h1,e1⟩:=Mo h
     refine⟨u,_,ups,h1,λH' hA K'=> ?_⟩
     unfold jT;simp only;rw[hA id (by simp),bg];simp only;rw[sF];simp only;rw[hp];simp only[ak]
     exact e1 H' (hA k (by simp)) K'
   ·rename_i vp
    obtain⟨u,rd,ups,hi,h1,e1⟩:=A9 h
    refine⟨u,rd,ups,h1,λH' hA K'=> ?_⟩
    unfold jT;simp only;rw[hA id hi,bg];simp only
    exact e1 H' hA K'
  ·rename_i υ x q j bg
   have zI:(lN true v H τ λy rd ups=>ve τ y p υ x λz=>K .any (id::rd) (ups++[(id,some (cond (xG p q) (.obj υ z) (.ga υ z q j)))]))=some r→
     ∃u rd ups,id∈rd∧K u rd ups=some r∧ ∀H',Ag rd H H'→ ∀K':iU α,(lN true v H' τ λy rd ups=>ve τ y p υ x λz=>K' .any (id::rd) (ups++[(id,some (cond (xG p q) (.obj υ z) (.ga υ z q j)))]))=K' u rd ups:=by
    intro h
    obtain⟨y,rd,ups,h1,e1⟩:=ox h
    obtain⟨z,h2,e2⟩:=ow h1
    exact⟨_,_,_,by simp,h2,λH' hA K'=>by rw[e1 H' (λi hi=>hA i (a6 _ hi)),e2]⟩
   split at h
   ·rename_i q' e k sF
    cases hp:(LC p q&&LC q q')
    ·rw[hp]at h
     simp only[av]at h
     obtain⟨u,rd,ups,hi,h1,e1⟩:=zI h
     refine⟨u,rd,ups,h1,λH' hA K'=> ?_⟩
     unfold jT;simp only;rw[hA id hi,bg];simp only;rw[sF];simp only;rw[hp];simp only[av]
     exact e1 H' hA K'
    ·rw[hp]at h
     simp only[ak]at h
     obtain⟨u,ups,h1,e1⟩:=Mo h
     refine⟨u,_,ups,h1,λH' hA K'=> ?_⟩
     unfold jT;simp only;rw[hA id (by simp),bg];simp only;rw[sF];simp only;rw[hp];simp only[ak]
     exact e1 H' (hA k (by simp)) K'
   ·rename_i vp
    obtain⟨u,rd,ups,hi,h1,e1⟩:=zI h
    refine⟨u,rd,ups,h1,λH' hA K'=> ?_⟩
    unfold jT;simp only;rw[hA id hi,bg];simp only
    exact e1 H' hA K'
  ·rename_i aq3 aq4
   obtain⟨u,rd,ups,hi,h1,e1⟩:=A9 h
   refine⟨u,rd,ups,h1,λH' hA K'=> ?_⟩
   unfold jT;simp only;rw[hA id hi]
   split
   ·rename_i bg;exact absurd bg (aq3 _ _)
   ·rename_i bg;exact absurd bg (aq4 _ _ _ _)
   ·exact e1 H' hA K'
 ·rename_i vp
  obtain⟨u,rd,ups,h1,e1⟩:=SX h
  refine⟨u,rd,ups,h1,λH' hA K'=> ?_⟩
  have:jT E τ a v H' K'=lP τ a v H' K':=by
   unfold jT
   cases a<;>first|rfl|exact absurd rfl (vp _ _)
  rw[this]
  exact e1 H' hA K'
theorem SY{E:Env}{τ:Ty}{a v:bC}{H:Nat→Option bh}{K:iU α}(h:sC E τ a v H K=some r):
  ∃u rd ups,K u rd ups=some r∧ ∀H',Ag rd H H'→ ∀K':iU α,sC E τ a v H' K'=K' u rd ups:=by
 unfold sC at h
 split at h
 ·rename_i id υ y n
  split at h
  ·rename_i m e sF
   cases EB:Nat.beq m n
   ·rw[EB]at h
    simp only[av]at h
    obtain⟨u,rd,ups,h1,e1⟩:=Ba h
    exact⟨u,rd,ups,h1,λH' hA K'=>by unfold sC;simp only;rw[sF];simp only;rw[EB];simp only[av];exact e1 H' hA K'⟩
   ·rw[EB]at h
    simp only[ak]at h
    obtain⟨h1,e1⟩:=jW h
    obtain⟨υ',h2,e2⟩:=A8 h1
    obtain⟨h3,e3⟩:=jW h2
    obtain⟨h4,e4⟩:=xk h3
    exact⟨_,_,_,h4,λH' hA K'=>by unfold sC;simp only;rw[sF];simp only;rw[EB];simp only[ak];rw[e1,e2 H' (hA _ (by simp)),e3,e4 H' (hA _ (by simp))]⟩
  ·rename_i vp
   obtain⟨u,rd,ups,h1,e1⟩:=Ba h
   refine⟨u,rd,ups,h1,λH' hA K'=> ?_⟩
   unfold sC;simp only
   exact e1 H' hA K'
 ·rename_i vp
  obtain⟨u,rd,ups,h1,e1⟩:=Ba h
  refine⟨u,rd,ups,h1,λH' hA K'=> ?_⟩
  unfold sC
  split
  ·exact absurd rfl (vp _ _ _ _ rfl)
  ·exact e1 H' hA K'
theorem Rl{H:Nat→Option bh}{id:Nat}{τ:Ty}{x:τ.den}{q:List Step}{e:Ty}{K:iU α}(h:CS H id τ x q e K=some r):Pts (λH K=>CS H id τ x q e K) H K r:=by
 obtain⟨h1,h2,h3⟩:=EA h
 exact⟨_,_,_,h3,λH' hA K'=>by unfold CS qE;simp only;rw[hA id (by simp),h1,hA (id+1) (by simp),h2]⟩
theorem ag9{E:Env}{o:Oper}{ρ:Operand→bC}{H:Nat→Option bh}{K:iU α}(h:sO E o ρ H K=some r):
  ∃v rd ups,K v rd ups=some r∧ ∀ρ' H',(∀x∈o.op.operands,ρ' x=ρ x)→Ag rd H H'→ ∀K':iU α,sO E o ρ' H' K'=K' v rd ups:=by
 obtain⟨dst,op,type,pos,after,guard⟩:=o
 unfold sO at h
 simp only at h
 have Zn: ∀{ρ':Operand→bC} (xs:List Operand),(∀x∈xs,ρ' x=ρ x)→xs.map ρ'=xs.map ρ:=λxs hx=>qo hx
 have PL: ∀{ρ':Operand→bC} (ps:Array (Nat×Operand)),(∀x∈ps.map (·.2),ρ' x=ρ x)→partsOf ρ' ps=partsOf ρ ps:=λps hp=>by
  unfold partsOf
  exact qo λp hm=>by rw[hp p.2 (Array.mem_map.2 ⟨p,by simpa using hm,rfl⟩)]
 have aha: ∀{ρ':Operand→bC} (x:Option Operand),(∀y∈x,ρ' y=ρ y)→x.map ρ'=x.map ρ:=λx hx=>by
  cases x with
  |none=>rfl
  |some x=>simp[hx x rfl]
 split at h
 ·
  rename_i x
  exact⟨_,_,_,h,fun ρ' H' hx _ K'=>by unfold sO;simp only;rw[hx x (by simp[Op.operands])]⟩
 ·rename_i x
  exact⟨_,_,_,h,fun ρ' H' hx _ K'=>by unfold sO;simp only;rw[hx x (by simp[Op.operands])]⟩
 ·rename_i x y z
  split at h
  ·rename_i t hx
   cases t
   ·exact⟨_,_,_,(h:K (ρ z) [] []=some r),fun ρ' H' oL _ K'=>by unfold sO;simp only;rw[oL x (by simp[Op.operands]),hx,oL z (by simp[Op.operands])];rfl⟩
   ·exact⟨_,_,_,(h:K (ρ y) [] []=some r),fun ρ' H' oL _ K'=>by unfold sO;simp only;rw[oL x (by simp[Op.operands]),hx,oL y (by simp[Op.operands])];rfl⟩
  ·cases h
 ·
  split at h
  ·rename_i τ ht
   split at h
   ·rename_i q e sF
    obtain⟨v,rd,ups,h1,e1⟩:=Rl h
    exact⟨_,_,_,h1,fun ρ' H' hx hA K'=>by unfold sO;simp only;rw[ht];simp only;rw[sF];exact e1 H' hA K'⟩
   ·rename_i sF
    obtain⟨h1,e1⟩:=xk h
    exact⟨_,_,_,h1,fun ρ' H' hx hA K'=>by unfold sO;simp only;rw[ht];simp only;rw[sF];simp only;rw[e1 H' (hA _ (by simp))]⟩
  ·cases h
 ·
  rename_i t x
  split at h
  ·rename_i τ ht
   have hold:(lN true (ρ x) H τ λy rd ups=>qE H (16*dst.getD 0) (.obj τ y) (K (.jg (16*dst.getD 0) []) (16*dst.getD 0::rd) (ups++[(16*dst.getD 0,some (.obj τ y))])))=some r→
     Pts (λH K=>lN true (ρ x) H τ λy rd ups=>qE H (16*dst.getD 0) (.obj τ y) (K (.jg (16*dst.getD 0) []) (16*dst.getD 0::rd) (ups++[(16*dst.getD 0,some (.obj τ y))]))) H K r:=by
    intro h
    obtain⟨y,rd,ups,h1,e1⟩:=ox h
    obtain⟨h2,e2⟩:=xk h1
    exact⟨_,_,_,h2,λH' hA K'=>by simp only;rw[e1 H' (λi hi=>hA i (a6 _ hi)),e2 H' (hA _ (by simp))]⟩
   split at h
   ·rename_i m e υ y n sF Vw
    cases EB:Nat.beq m n
    ·rw[EB]at h
     obtain⟨v,rd,ups,h1,e1⟩:=hold h
     refine⟨_,_,_,h1,fun ρ' H' hx hA K'=> ?_⟩
     unfold sO;simp only;rw[ht];simp only
     rw[hx x (by simp[Op.operands]),sF,Vw];simp only
     rw[EB]
     have:=e1 H' hA K'
     rw[Vw]at this
     exact this
    ·rw[EB]at h
     simp only[ak]at h
     obtain⟨z,h1,e1⟩:=dE h
     obtain⟨v,rd,ups,h2,e2⟩:=Rl h1
     refine⟨_,_,_,h2,fun ρ' H' hx hA K'=> ?_⟩
     unfold sO;simp only;rw[ht];simp only
     rw[hx x (by simp[Op.operands]),sF,Vw];simp only
     rw[EB];simp only[ak]
     rw[e1]
     exact e2 H' hA K'
   ·rename_i vp
    obtain⟨v,rd,ups,h1,e1⟩:=hold h
    refine⟨_,_,_,h1,fun ρ' H' hx hA K'=> ?_⟩
    unfold sO;simp only;rw[ht];simp only
    rw[hx x (by simp[Op.operands])]
    split
    ·rename_i sF Vw;exact absurd Vw (vp _ _ _ _ _ sF)
    ·exact e1 H' hA K'
  ·cases h
 ·
  rename_i t ps
  split at h
  ·rename_i n e ht
   obtain⟨l,rd,ups,h1,_,e1⟩:=ES h
   exact⟨_,_,_,h1,fun ρ' H' hx hA K'=>by unfold sO;simp only;rw[ht];simp only;rw[PL ps (λx oL=>hx x (by simpa [Op.operands]using oL)),e1 H' hA]⟩
  ·rename_i τ hna ht
   obtain⟨h0,e0⟩:=et h
   obtain⟨l,rd,ups,h1,_,e1⟩:=HW h0
   refine⟨_,_,_,h1,fun ρ' H' hx hA K'=> ?_⟩
   unfold sO;simp only;rw[ht]
   have: ∀{β:Type} (A:Nat→Ty→β) (B:Ty→β),(match some τ with|some (.arr n e)=>A n e|some τ=>B τ|none=>B τ)=B τ:=by
    intro β A B
    cases τ<;>first|rfl|exact absurd rfl (hna _ _)
   cases τ with
   |arr n e=>exact absurd rfl (hna n e)
   |_=>
    simp only
    rw[PL ps (λx oL=>hx x (by simpa [Op.operands]using oL)),e0,e1 H' hA]
  ·cases h
 ·
  rename_i t n ps
  split at h
  ·rename_i e ht
   obtain⟨h0,e0⟩:=et h
   obtain⟨h1,e1⟩:=xk h0
   obtain⟨l,rd,ups,h2,_,e2⟩:=ES h1
   exact⟨_,_,_,h2,fun ρ' H' hx hA K'=>by
    unfold sO;simp only;rw[ht];simp only
    rw[e0,e1 H' (hA _ (by simp)),PL ps (λx oL=>hx x (by simpa [Op.operands]using oL)),e2 H' (λi hi=>hA i (a6 _ hi))]⟩
  ·cases h
 ·
  rename_i t x
  split at h
  ·rename_i τ ht
   obtain⟨v,rd,ups,h1,e1⟩:=Vv h
   exact⟨_,_,_,h1,fun ρ' H' hx hA K'=>by unfold sO;simp only;rw[ht];simp only;rw[hx x (by simp[Op.operands]),e1 H' hA]⟩
  ·cases h
 ·
  rename_i t x y
  split at h
  ·rename_i τ ht
   obtain⟨u,rd,ups,h1,e1⟩:=SY h
   exact⟨_,_,_,h1,fun ρ' H' hx hA K'=>by unfold sO;simp only;rw[ht];simp only;rw[hx x (by simp[Op.operands]),hx y (by simp[Op.operands]),e1 H' hA]⟩
  ·cases h
 ·
  rename_i x
  split at h
  ·rename_i id p hx
   exact⟨_,_,_,h,fun ρ' H' oL _ K'=>by unfold sO;simp only;rw[oL x (by simp[Op.operands]),hx]⟩
  ·rename_i τ z hx
   exact⟨_,_,_,h,fun ρ' H' oL _ K'=>by unfold sO;simp only;rw[oL x (by simp[Op.operands]),hx]⟩
  ·cases h
 ·
  rename_i b t x y t'
  obtain⟨τ,x1,h1,e1⟩:=Rk h
  obtain⟨υ,y1,h2,e2⟩:=Rk h1
  obtain⟨v,h3,e3⟩:=Vo h2
  exact⟨_,_,_,h3,fun ρ' H' hx _ K'=>by unfold sO;simp only;rw[hx x (by simp[Op.operands]),hx y (by simp[Op.operands]),e1,e2,e3]⟩
 ·
  rename_i u t x
  obtain⟨v,h1,e1⟩:=Zj h
  exact⟨_,_,_,h1,fun ρ' H' hx _ K'=>by unfold sO;simp only;rw[hx x (by simp[Op.operands]),e1]⟩
 ·
  rename_i s d x
  split at h
  ·rename_i τ k hs hd
   obtain⟨i,n,h1,e1⟩:=se h
   exact⟨_,_,_,h1,fun ρ' H' hx _ K'=>by unfold sO;simp only;rw[hs,hd];simp only;rw[hx x (by simp[Op.operands]),e1]⟩
  ·cases h
 ·
  rename_i f first caps
  obtain⟨h1,e1⟩:=et h
  obtain⟨cs,rd,ups,h3,e3⟩:=EU h1
  exact⟨_,_,_,h3,fun ρ' H' hx hA K'=>by unfold sO;simp only;rw[Zn caps.toList (λx oL=>hx x (by simp[Op.operands];exact .inr (by simpa using oL))),e1,e3 H' hA]⟩
 ·
  rename_i t x y
  split at h
  ·rename_i e ht
   obtain⟨i,n,h1,e1⟩:=se h
   obtain⟨i',n',h2,e2⟩:=se h1
   obtain⟨h3,e3⟩:=et h2
   obtain⟨h4,e4⟩:=xk h3
   exact⟨_,_,_,h4,fun ρ' H' hx hA K'=>by
    unfold sO;simp only;rw[ht];simp only
    rw[hx x (by simp[Op.operands]),e1,hx y (by simp[Op.operands]),e2,e3,e4 H' (hA _ (by simp))]⟩
  ·cases h
 ·
  rename_i t x lo hi mx
  split at h
  ·rename_i τ ht
   obtain⟨v,rd,ups,h1,e1⟩:=SV h
   exact⟨_,_,_,h1,fun ρ' H' hx hA K'=>by
    unfold sO;simp only;rw[ht];simp only
    rw[hx x (by simp[Op.operands]),aha lo (λy hy=>hx y (by simp at hy;simp[Op.operands,hy])),aha hi (λy hy=>hx y (by simp at hy;simp[Op.operands,hy])),aha mx (λy hy=>hx y (by simp at hy;simp[Op.operands,hy])),e1 H' hA]⟩
  ·cases h
 ·
  rename_i t x n
  split at h
  ·rename_i τ ht
   split at h
   ·rename_i id p hx
    obtain⟨υ,h1,e1⟩:=A8 h
    obtain⟨h2,e2⟩:=jW h1
    obtain⟨υ',y',h3,e3⟩:=xj h2
    obtain⟨h4,e4⟩:=td h3
    exact⟨_,_,_,h4,fun ρ' H' oL hA K'=>by
     unfold sO;simp only;rw[ht];simp only
     rw[oL x (by simp[Op.operands]),hx];simp only
     rw[e1 H' (hA _ (by simp)),e2,e3,e4]⟩
   ·rename_i υ z hx
    obtain⟨h2,e2⟩:=jW h
    obtain⟨υ',y',h3,e3⟩:=xj h2
    obtain⟨h4,e4⟩:=td h3
    exact⟨_,_,_,h4,fun ρ' H' oL hA K'=>by
     unfold sO;simp only;rw[ht];simp only
     rw[oL x (by simp[Op.operands]),hx];simp only
     rw[e2,e3,e4]⟩
   ·cases h
  ·cases h
 ·
  rename_i t x n
  split at h
  ·rename_i τ ht
   split at h
   ·rename_i υ z hx
    obtain⟨h2,e2⟩:=jW h
    obtain⟨υ',y',h3,e3⟩:=xj h2
    exact⟨_,_,_,h3,fun ρ' H' oL hA K'=>by
     unfold sO;simp only;rw[ht];simp only
     rw[oL x (by simp[Op.operands]),hx];simp only
     rw[e2,e3]⟩
   ·cases h
  ·cases h
 ·
  rename_i t x i
  split at h
  ·rename_i τ ht
   obtain⟨v,rd,ups,h1,e1⟩:=Hd h
   exact⟨_,_,_,h1,fun ρ' H' hx hA K'=>by unfold sO;simp only;rw[ht];simp only;rw[hx x (by simp[Op.operands]),hx i (by simp[Op.operands]),e1 H' hA]⟩
  ·cases h
 ·
  rename_i t x i
  split at h
  ·rename_i τ ht
   obtain⟨v,h1,e1⟩:=SW h
   exact⟨_,_,_,h1,fun ρ' H' hx hA K'=>by unfold sO;simp only;rw[ht];simp only;rw[hx x (by simp[Op.operands]),hx i (by simp[Op.operands]),e1]⟩
  ·cases h
 ·
  rename_i x i
  split at h
  ·rename_i vs hx
   split at h
   ·rename_i v hv
    exact⟨_,_,_,h,fun ρ' H' oL hA K'=>by unfold sO;simp only;rw[oL x (by simp[Op.operands]),hx];simp only;rw[hv]⟩
   ·cases h
  ·cases h
 ·
  rename_i cl
  obtain⟨callee,args,ts⟩:=cl
  simp only at h
  have xQ: ∀{ρ':Operand→bC},(∀x∈(Op.call {callee,args,argTypes:=ts}).operands,ρ' x=ρ x)→ ∀x∈args.toList,ρ' x=ρ x:=
   λhx x oL=>hx x (by simp[Op.operands,Call.operands];exact .inr (by simpa using oL))
  split at h
  ·split at h
   ·rename_i x τ ha ht
    obtain⟨v,rd,ups,h1,e1⟩:=Zk h
    exact⟨_,_,_,h1,fun ρ' H' hx hA K'=>by unfold sO;simp only;rw[ha,ht];simp only;rw[xQ hx x (by rw[ha];simp),e1 H' hA]⟩
   ·cases h
  ·split at h
   ·rename_i x y t t' ha ht
    split at h
    ·rename_i e hte
     obtain⟨h1,e1⟩:=et h
     obtain⟨h2,e2⟩:=xk h1
     obtain⟨v,rd,ups,h3,bg,e3⟩:=Zl h2
     exact⟨_,_,_,h3,fun ρ' H' hx hA K'=>by
      unfold sO;simp only;rw[ha,ht];simp only;rw[hte];simp only
      rw[e1,e2 H' (hA _ bg),xQ hx x (by rw[ha];simp),xQ hx y (by rw[ha];simp),e3 H' hA]⟩
    ·cases h
   ·cases h
  ·split at h
   ·rename_i x xs ha
    obtain⟨v,h1,e1⟩:=PK h
    exact⟨_,_,_,h1,fun ρ' H' hx hA K'=>by
     unfold sO;simp only;rw[ha];simp only
     rw[xQ hx x (by rw[ha];simp),Zn xs (λy hy=>xQ hx y (by rw[ha];simp[hy])),e1]⟩
   ·cases h
  ·split at h
   ·rename_i x xs ha
    obtain⟨v,h1,e1⟩:=PK h
    exact⟨_,_,_,h1,fun ρ' H' hx hA K'=>by
     unfold sO;simp only;rw[ha];simp only
     rw[xQ hx x (by rw[ha];simp),Zn xs (λy hy=>xQ hx y (by rw[ha];simp[hy])),e1]⟩
   ·cases h
  ·rename_i g
   split at h
   ·rename_i f caps hg
    obtain⟨v,rd,ups,h1,e1⟩:=Vr h
    exact⟨_,_,_,h1,fun ρ' H' hx hA K'=>by
     unfold sO;simp only
     rw[hx g (by simp[Op.operands,Call.operands]),hg];simp only
     rw[Zn args.toList (xQ hx),e1 H' hA]⟩
   ·cases h
  ·cases h
 ·cases h
end VM
end
section
namespace VM
open Go
variable{P:Program}{E:Env}{o:Oper}{a:Act}{w:World}{M:Nat→Prop}{ν:Nat→Value}{σ:St}{c:Ctx}{α:Type}{r:α}{next:Act→World→Prop}{Q:Exit→Act→World→Prop}
structure Out where
 dst:Option Nat
 v:bC
 rd:List Nat
 ups:iP
def Out.app(u:Out)(σ:St):St:=(σ.vI u.ups).vd u.dst u.v
theorem Mp(σ:St)(d:Nat)(v:bC):(σ.vd (some d) v).T d=v:=tW σ d v
theorem SZ(σ:St){d:Option Nat}{t:Nat}(v:bC)(h:d≠some t):(σ.vd d v).T t=σ.T t:=by
 cases d with
 |none=>rfl
 |some d=>exact zO σ v (λe=>h (by rw[e]))
theorem ahb(σ:St)(d:Option Nat)(v:bC):(σ.vd d v).H=σ.H:=by cases d<;>rfl
theorem PM{u:Out}{t:Nat}(h:u.dst=some t)(σ:St):(u.app σ).T t=u.v:=by unfold Out.app;rw[h];exact Mp _ _ _
theorem Vx{u:Out}{t:Nat}(h:u.dst≠some t)(σ:St):(u.app σ).T t=σ.T t:=by unfold Out.app;rw[SZ _ _ h,PC]
theorem alM(u:Out)(σ:St):(u.app σ).H=c3 σ.H u.ups:=by unfold Out.app;rw[ahb,PA]
def Pt(E:Env)(ops:List Oper)(o:Oper)(σ:St)(u:Out)(α:Type):Prop:=
 u.dst=o.dst∧ ∀σ':St,(∀t∈names ops o,σ'.T t=σ.T t)→Ag u.rd σ.H σ'.H→ ∀K':St→List Nat→List Nat→Option α,s4 E ops o σ' K'=K' (u.app σ') u.rd (u.ups.map (·.1))
theorem Vy{ops:List Oper}{K:St→List Nat→List Nat→Option α}(h:s4 E ops o σ K=some r): ∃u:Out,K (u.app σ) u.rd (u.ups.map (·.1))=some r∧Pt E ops o σ u α:=by
 unfold s4 at h
 obtain⟨h,e0⟩:=et h
 have aq5: ∀σ':St,(∀t∈names ops o,σ'.T t=σ.T t)→ ∀x∈o.op.operands,σ'.ρ x=σ.ρ x:=by
  intro σ' hT x hx
  cases x with
  |tmp t=>
   refine hT t ?_
   unfold names
   refine cS _ (List.mem_filterMap.2 ⟨.tmp t,by simpa using hx,rfl⟩)
  |_=>rfl
 have dD:sO E o σ.ρ σ.H (λv rd ups=>K ((σ.vI ups).vd o.dst v) rd (ups.map (·.1)))=some r→
   ∃u:Out,K (u.app σ) u.rd (u.ups.map (·.1))=some r∧u.dst=o.dst∧ ∀σ':St,(∀t∈names ops o,σ'.T t=σ.T t)→Ag u.rd σ.H σ'.H→ ∀K':St→List Nat→List Nat→Option α,
    sO E o σ'.ρ σ'.H (λv rd ups=>K' ((σ'.vI ups).vd o.dst v) rd (ups.map (·.1)))=K' (u.app σ') u.rd (u.ups.map (·.1)):=by
  intro h
  obtain⟨v,rd,ups,h1,h2⟩:=ag9 h
  exact⟨⟨o.dst,v,rd,ups⟩,h1,rfl,fun σ' hT hA K'=>h2 σ'.ρ σ'.H (aq5 σ' hT) hA _⟩
 have sd: ∀{K:St→List Nat→List Nat→Option α},K (σ.vd o.dst .UY) [] []=some r→ ∃u:Out,K (u.app σ) u.rd (u.ups.map (·.1))=some r∧u.dst=o.dst∧ ∀σ':St,∀K':St→List Nat→List Nat→Option α,K' (σ'.vd o.dst .UY) [] []=K' (u.app σ') u.rd (u.ups.map (·.1)):=
  λh=>⟨⟨o.dst,.UY,[],[]⟩,h,rfl,λ_ _=>rfl⟩
 simp only at h
 split at h
 ·rename_i hg
  obtain⟨u,h1,h2,h3⟩:=dD h
  refine⟨u,h1,h2,fun σ' hT hA K'=> ?_⟩
  unfold s4
  rw[e0]
  simp only
  rw[hg]
  exact h3 σ' hT hA K'
 ·rename_i j want hg
  split at h
  ·cases h
  ·rename_i t ht
   have S1:t∈names ops o:=by
    unfold names
    refine dy _ ?_
    rw[hg]
    simp[ht]
   split at h
   ·rename_i b hb
    have pI: ∀σ':St,σ'.T t=σ.T t→σ'.put t (.val .bool b)=σ':=fun σ' h'=>by
     rw[←hb,←h'];exact EM σ' t
    cases want<;>cases b
    ·obtain⟨u,h1,h2,h3⟩:=dD (by
      have:=pI σ rfl
      rw[this]at h;exact h)
     refine⟨u,h1,h2,fun σ' hT hA K'=> ?_⟩
     unfold s4
     rw[e0];simp only;rw[hg];simp only;rw[ht];simp only;rw[hT t S1,hb];simp only
     rw[pI σ' (hT t S1)]
     exact h3 σ' hT hA K'
    ·obtain⟨u,h1,h2,h3⟩:=sd (by
      have:=pI σ rfl
      rw[this]at h;exact h)
     refine⟨u,h1,h2,fun σ' hT hA K'=> ?_⟩
     unfold s4
     rw[e0];simp only;rw[hg];simp only;rw[ht];simp only;rw[hT t S1,hb];simp only
     rw[pI σ' (hT t S1)]
     exact h3 σ' K'
    ·obtain⟨u,h1,h2,h3⟩:=sd (by
      have:=pI σ rfl
      rw[this]at h;exact h)
     refine⟨u,h1,h2,fun σ' hT hA K'=> ?_⟩
     unfold s4
     rw[e0];simp only;rw[hg];simp only;rw[ht];simp only;rw[hT t S1,hb];simp only
     rw[pI σ' (hT t S1)]
     exact h3 σ' K'
    ·obtain⟨u,h1,h2,h3⟩:=dD (by
      have:=pI σ rfl
      rw[this]at h;exact h)
     refine⟨u,h1,h2,fun σ' hT hA K'=> ?_⟩
     unfold s4
     rw[e0];simp only;rw[hg];simp only;rw[ht];simp only;rw[hT t S1,hb];simp only
     rw[pI σ' (hT t S1)]
     exact h3 σ' hT hA K'
   ·rename_i hb
    obtain⟨u,h1,h2,h3⟩:=sd h
    refine⟨u,h1,h2,fun σ' hT hA K'=> ?_⟩
    unfold s4
    rw[e0];simp only;rw[hg];simp only;rw[ht];simp only;rw[hT t S1,hb]
    exact h3 σ' K'
   ·cases h
theorem Rm{ops:List Oper}: ∀(l:List Oper) (i:Nat) (σ:St) (lg:Log) (K:St→Log→Option α),Sx E ops l i σ lg K=some r→
  ∃us:List Out,us.length=l.length∧(∀j u o,us[j]? =some u→l[j]? =some o→Pt E ops o ((us.take j).foldl (fun σ u=>u.app σ) σ) u α)∧
   ∃lg',K (us.foldl (fun σ u=>u.app σ) σ) lg'=some r∧(∀x∈lg,x∈lg')∧ ∀j u,us[j]? =some u→(i+j,u.rd,u.ups.map (·.1))∈lg'
 |[],i,σ,lg,K,h=>⟨[],rfl,λj u o hj=>by simp at hj,lg,h,λ_ h=>h,λj u hj=>by simp at hj⟩
 |o::l,i,σ,lg,K,h=>by
  unfold Sx at h
  obtain⟨u,h1,h2⟩:=Vy h
  obtain⟨us,hl,hpt,lg',hK,YJ,hj⟩:=Rm l (i+1) (u.app σ) _ K h1
  refine⟨u::us,by simp[hl],λj u' o' hu ho=> ?_,lg',hK,λx hx=>YJ x (a6 _ hx),λj u' hu=> ?_⟩
  ·cases j with
   |zero=>simp at hu ho;subst hu ho;exact h2
   |succ j=>exact hpt j u' o' (by simpa using hu) (by simpa using ho)
  ·cases j with
   |zero=>simp at hu;subst hu;exact YJ _ bn
   |succ j=>
    have:=hj j u' (by simpa using hu)
    rwa [show i+1+j=i+(j+1)from by omega]at this
theorem S2{k:Nat}{ups:iP}(h:k∈keys ups)(H H':Nat→Option bh):c3 H ups k=c3 H' ups k:=by
 induction ups generalizing H H' with
 |nil=>simp[keys]at h
 |cons u r ih=>
  show c3 (bW H u.1 u.2) r k=c3 (bW H' u.1 u.2) r k
  by_cases hk:k∈keys r
  ·exact ih hk _ _
  ·have hku:k=u.1:=by
    simp only[keys,bU,aX]at h hk
    exact h.resolve_right hk
   rw[kX hk,kX hk,hku,ay,ay]
structure oN(us:List Out)(σ0:St)(S:Nat→Prop)(σ:St):Prop where
 T: ∀t,(∃j u,us[j]? =some u∧S j∧u.dst=some t∧(∀j' u',us[j']? =some u'→S j'→u'.dst=some t→j'≤j)∧σ.T t=u.v)∨((∀j u,us[j]? =some u→S j→u.dst≠some t)∧σ.T t=σ0.T t)
 H: ∀k,(∃j u,us[j]? =some u∧S j∧k∈keys u.ups∧(∀j' u',us[j']? =some u'→S j'→k∈keys u'.ups→j'≤j)∧σ.H k=c3 σ0.H u.ups k)∨((∀j u,us[j]? =some u→S j→k∉keys u.ups)∧σ.H k=σ0.H k)
theorem oN.Vz{us:List Out}{σ0 σ σ':St}{S S':Nat→Prop}(h:oN us σ0 S σ)(h':oN us σ0 S' σ'){t:Nat}(hs: ∀j u,us[j]? =some u→u.dst=some t→(S j↔S' j)):σ.T t=σ'.T t:=by
 rcases h.T t with⟨j,u,h1,h2,h3,h4,h5⟩|⟨h1,h2⟩<;>rcases h'.T t with⟨j',u',pg,yg,PN,h4',h5'⟩|⟨pg,yg⟩
 ·have e1:=h4 j' u' pg ((hs j' u' pg PN).2 yg) PN
  have e2:=h4' j u h1 ((hs j u h1 h3).1 h2) h3
  have:j=j':=ω
  subst this
  rw[h1]at pg;cases pg
  rw[h5,h5']
 ·exact absurd h3 (pg j u h1 ((hs j u h1 h3).1 h2))
 ·exact absurd PN (h1 j' u' pg ((hs j' u' pg PN).2 yg))
 ·rw[h2,yg]
theorem oN.VA{us:List Out}{σ0 σ σ':St}{S S':Nat→Prop}(h:oN us σ0 S σ)(h':oN us σ0 S' σ'){k:Nat}(hs: ∀j u,us[j]? =some u→k∈keys u.ups→(S j↔S' j)):σ.H k=σ'.H k:=by
 rcases h.H k with⟨j,u,h1,h2,h3,h4,h5⟩|⟨h1,h2⟩<;>rcases h'.H k with⟨j',u',pg,yg,PN,h4',h5'⟩|⟨pg,yg⟩
 ·have e1:=h4 j' u' pg ((hs j' u' pg PN).2 yg) PN
  have e2:=h4' j u h1 ((hs j u h1 h3).1 h2) h3
  have:j=j':=ω
  subst this
  rw[h1]at pg;cases pg
  rw[h5,h5']
 ·exact absurd h3 (pg j u h1 ((hs j u h1 h3).1 h2))
 ·exact absurd PN (h1 j' u' pg ((hs j' u' pg PN).2 yg))
 ·rw[h2,yg]
theorem oN.unique{us:List Out}{σ0 σ σ':St}{S S':Nat→Prop}(h:oN us σ0 S σ)(h':oN us σ0 S' σ')(hs: ∀j u,us[j]? =some u→(S j↔S' j)):σ=σ':=by
 obtain⟨T,H⟩:=σ
 obtain⟨T',H'⟩:=σ'
 congr 1
 ·funext t;exact h.Vz h' (λj u hj _=>hs j u hj)
 ·funext k;exact h.VA h' (λj u hj _=>hs j u hj)
theorem oN.step{us:List Out}{σ0 σ:St}{S:Nat→Prop}(h:oN us σ0 S σ){i:Nat}{u:Out}(hi:us[i]? =some u)(hc: ∀j u',us[j]? =some u'→S j→i<j→(∀t,u.dst=some t→u'.dst≠some t)∧ ∀k∈keys u.ups,k∉keys u'.ups):
  oN us σ0 (λj=>j=i∨S j) (u.app σ):=by
 refine⟨λt=> ?_,λk=> ?_⟩
 ·by_cases hd:u.dst=some t
  ·left
   refine⟨i,u,hi,.inl rfl,hd,λj' u' h1 h2 h3=> ?_,PM hd σ⟩
   rcases h2 with rfl|h2
   ·exact aG _
   ·exact Nat.le_of_not_lt λeZ=>(hc j' u' h1 h2 eZ).1 t hd h3
  ·rw[Vx hd]
   rcases h.T t with⟨j,u1,h1,h2,h3,h4,h5⟩|⟨h1,h2⟩
   ·refine .inl ⟨j,u1,h1,.inr h2,h3,λj' u' pg yg PN=> ?_,h5⟩
    rcases yg with rfl|yg
    ·rw[hi]at pg;cases pg;exact absurd PN hd
    ·exact h4 j' u' pg yg PN
   ·refine .inr ⟨λj u' pg yg=> ?_,h2⟩
    rcases yg with rfl|yg
    ·rw[hi]at pg;cases pg;exact hd
    ·exact h1 j u' pg yg
 ·rw[alM]
  by_cases hd:k∈keys u.ups
  ·left
   refine⟨i,u,hi,.inl rfl,hd,λj' u' h1 h2 h3=> ?_,S2 hd _ _⟩
   rcases h2 with rfl|h2
   ·exact aG _
   ·exact Nat.le_of_not_lt λeZ=>(hc j' u' h1 h2 eZ).2 k hd h3
  ·rw[kX hd]
   rcases h.H k with⟨j,u1,h1,h2,h3,h4,h5⟩|⟨h1,h2⟩
   ·refine .inl ⟨j,u1,h1,.inr h2,h3,λj' u' pg yg PN=> ?_,h5⟩
    rcases yg with rfl|yg
    ·rw[hi]at pg;cases pg;exact absurd PN hd
    ·exact h4 j' u' pg yg PN
   ·refine .inr ⟨λj u' pg yg=> ?_,h2⟩
    rcases yg with rfl|yg
    ·rw[hi]at pg;cases pg;exact hd
    ·exact h1 j u' pg yg
theorem oN.start(us:List Out)(σ0:St):oN us σ0 (λ_=>False) σ0:=⟨λt=> .inr ⟨λ_ _ _ h=>h.elim,rfl⟩,λk=> .inr ⟨λ_ _ _ h=>h.elim,rfl⟩⟩
theorem oN.congr{us:List Out}{σ0 σ:St}{S S':Nat→Prop}(h:oN us σ0 S σ)(hs: ∀j,S j↔S' j):oN us σ0 S' σ:=by
 have:S=S':=funext λj=>propext (hs j)
 rw[←this];exact h
theorem oN.text(us:List Out)(σ0:St): ∀i,i≤us.length→oN us σ0 (λj=>j<i) ((us.take i).foldl (fun σ u=>u.app σ) σ0)
 |0,_=>(oN.start us σ0).congr λj=>by simp
 |i+1,hi=>by
  have ih:=oN.text us σ0 i ω
  have hu:us[i]? =some us[i]:=bm ω
  have:=ih.step hu (λj u' _ h2 h3=>ω)
  rw[List.take_add_one,hu,List.foldl_append]
  exact this.congr λj=>by constructor<;>intro h<;>omega
end VM
end
section
namespace VM
open Go
variable{P:Program}{E:Env}{o:Oper}{a:Act}{w:World}{M:Nat→Prop}{ν:Nat→Value}{σ:St}{c:Ctx}{α:Type}{r:α}{next:Act→World→Prop}{Q:Exit→Act→World→Prop}
def Pre(S:Nat→Prop)(o:Oper):Prop:= ∀e∈o.after,Region.binds .any e=true→S e.on
theorem EV{β:Type}{l m:List β}{i:Nat}{d:β}(h:i<l.length):(l++m).getD i d=l.getD i d:=by
 simp only[List.getD,rS h]
theorem EW{β:Type}{l:List β}{x d:β}:(l++[x]).getD l.length d=x:=by
 simp[List.getD]
theorem Cb{acc:List Nat}{i:Nat}: ∀(es:List Edge) (s:Nat),(es.foldl (λs e=>cond (Region.binds .any e) (s|||2^e.on|||acc.getD e.on 0) s) s).testBit i=true→
  s.testBit i=true∨ ∃e∈es,Region.binds .any e=true∧(i=e.on∨(acc.getD e.on 0).testBit i=true)
 |[],s,h=> .inl h
 |e::es,s,h=>by
  rw[List.foldl_cons]at h
  rcases Cb es _ h with h1|⟨e',h1,h2⟩
  ·cases hb:Region.binds .any e
   ·rw[hb]at h1;exact .inl h1
   ·rw[hb]at h1
    simp only[ak,Nat.testBit_or,mR]at h1
    rcases h1 with(h1|h1)|h1
    ·exact .inl h1
    ·refine .inr ⟨e,bn,hb,.inl ?_⟩
     rw[Nat.testBit_two_pow]at h1
     simpa using (bz h1).symm
    ·exact .inr ⟨e,bn,hb,.inr h1⟩
  ·exact .inr ⟨e',a6 _ h1,h2⟩
theorem Cc{S:Nat→Prop}: ∀(l:List Oper) (acc:List Nat) (all:List Oper),all.length=acc.length+l.length→(∀j,l[j]? =all[acc.length+j]?)→
  (∀j o,all[j]? =some o→S j→Pre S o)→(∀j i,j<acc.length→S j→(acc.getD j 0).testBit i=true→S i)→
  ∀j o i,all[j]? =some o→(Pre S o∨S j)→((sD l acc).getD j 0).testBit i=true→(j<acc.length→ ∀i,Pre S o→(acc.getD j 0).testBit i=true→S i)→S i
 |[],acc,all,hl,kW,hS,Zo,j,o,i,hj,Mq,hb,VB=>by
  have eZ:j<all.length:=(tK.1 hj).1
  have vX:j<acc.length:=by simp at hl;omega
  rcases Mq with hp|hp
  ·exact VB vX i hp hb
  ·exact Zo j i vX hp hb
 |p::l,acc,all,hl,kW,hS,Zo,j,o,i,hj,Mq,hb,VB=>by
  unfold sD at hb
  have hp0:all[acc.length]? =some p:=by rw[←mT acc.length,←kW 0];rfl
  have S3: ∀i,Pre S p→(p.after.toList.foldl (λs e=>cond (Region.binds .any e) (s|||2^e.on|||acc.getD e.on 0) s) 0).testBit i=true→S i:=by
   intro i GC hb
   rcases Cb p.after.toList 0 hb with h1|⟨e,he,hbe,h1⟩
   ·simp at h1
   ·have hSe:=GC e (by simpa using he) hbe
    rcases h1 with rfl|h1
    ·exact hSe
    ·by_cases eZ:e.on<acc.length
     ·exact Zo e.on i eZ hSe h1
     ·rw[List.getD,gC ω]at h1;simp at h1
  refine Cc l (acc++[p.after.toList.foldl (λs e=>cond (Region.binds .any e) (s|||2^e.on|||acc.getD e.on 0) s) 0]) all (by simp at hl ⊢;omega) (λj=> ?_) hS (λj' i' YI hS' eV=> ?_) j o i hj Mq hb (λeZ i' Q7 eV=> ?_)
  ·have:=kW (j+1)
   simp only[List.getElem?_cons_succ]at this
   rw[this]
   congr 1
   simp;omega
  ·by_cases eZ:j'<acc.length
   ·rw[EV eZ]at eV
    exact Zo j' i' eZ hS' eV
   ·have hje:j'=acc.length:=by simp at YI;omega
    subst hje
    rw[EW]at eV
    exact S3 i' (hS _ p hp0 hS') eV
  ·by_cases vX:j<acc.length
   ·rw[EV vX]at eV
    exact VB vX i' Q7 eV
   ·have hje:j=acc.length:=by simp at eZ;omega
    subst hje
    rw[hp0]at hj;cases hj
    rw[EW]at eV
    exact S3 i' Q7 eV
theorem forced{ops:List Oper}{S:Nat→Prop}(hS: ∀j o,ops[j]? =some o→S j→Pre S o){j i:Nat}(hj:ops[j]? =some o)(Mq:Pre S o∨S j)(hb:((sD ops []).getD j 0).testBit i=true):S i:=
 Cc ops [] ops (by simp) (λj=>by simp) hS (λj i h=>by simp at h) j o i hj Mq hb (λh=>by simp at h)
theorem mh{l m:List Nat}(h:meets l m=false){x:Nat}(h1:x∈l)(h2:x∈m):False:=by
 have:meets l m=true:=by
  unfold meets
  rw[zk]
  refine⟨x,h1,?_⟩
  rw[zk]
  exact⟨x,h2,sY x⟩
 rw[h]at this;cases this
structure Rnd(c:Ctx)(E:Env)(ops:Array Oper)(us:List Out)(σ0:St)(listed:Array Bool)(a:Act)(w:World):Prop where
 size:listed.size=ops.size
 closed: ∀j o,ops.toList[j]? =some o→listed.getD j false=true→Pre (λi=>listed.getD i false=true) o
 st: ∃σ,oN us σ0 (λj=>listed.getD j false=true) σ∧Inv c E σ a w
theorem yB{listed:Array Bool}{j:Nat}(h:j<listed.size)(d:Bool):listed.getD j d=listed.getD j false:=by
 simp[Array.getD,h]
theorem JP(hE:sb P E){ops:Array Oper}{us:List Out}{σ0 σn:St}{α:Type}(x0:α)(hl:us.length=ops.toList.length)
  (hpt: ∀(j:Nat) (u:Out) (o:Oper),us[j]? =some u→ops.toList[j]? =some o→Pt E ops.toList o ((us.take j).foldl (fun σ u=>u.app σ) σ0) u α)
  (hn:σn=us.foldl (fun σ u=>u.app σ) σ0)
  (eZ: ∀(j:Nat) (o:Oper),ops.toList[j]? =some o→ ∀e∈o.after,Region.binds .any e=true→e.on<j)
  (Mr: ∀(j:Nat) (o:Oper) (i:Nat) (p:Oper),ops.toList[j]? =some o→ops.toList[i]? =some p→i<j→((sD ops.toList []).getD j 0).testBit i=false→
   (∀d,p.dst=some d→o.dst≠some d∧d∉names ops.toList o)∧(∀d,o.dst=some d→d∉names ops.toList p))
  (YJ: ∀(j:Nat) (u:Out) (i:Nat) (v:Out),us[j]? =some u→us[i]? =some v→i<j→((sD ops.toList []).getD j 0).testBit i=false→
   (∀k∈keys v.ups,k∉u.rd∧k∉keys u.ups)∧(∀k∈v.rd,k∉keys u.ups))
  (hq: ∀a' w',Inv c E σn a' w'→Q .normal a' w'):
  ∀(fuel:Nat) (listed:Array Bool) (a:Act) (w:World),((List.range ops.size).filter λj=> !(listed.getD j false)).length≤fuel→Rnd c E ops us σ0 listed a w→wpAny P .any ops Q fuel listed a w:=by
 have kW: ∀(listed:Array Bool) (a:Act) (w:World),Rnd c E ops us σ0 listed a w→Region.ready .any ops listed=[]→Q .normal a w:=by
  intro listed a w hR ahd
  obtain⟨hs,LY,σ,GG,hI⟩:=hR
  have alO: ∀j,j<ops.size→listed.getD j false=true:=by
   intro j
   induction j using Nat.strongRecOn with
   |_ j ih=>
    intro hj
    by_cases hb:listed.getD j false=true
    ·exact hb
    ·exfalso
     have ho:ops[j]? =some ops[j]:=Lm hj
     have:j∈Region.ready .any ops listed:=by
      rw[mem_ready]
      refine⟨by rw[yB ω];simpa using hb,_,ho,λe he hbe=> ?_⟩
      have hej:=eZ j ops[j] (by rw[gL];exact ho) e he hbe
      exact ih e.on hej ω
     rw[ahd]at this
     cases this
  have hσ:σ=σn:=by
   rw[hn]
   have ht:=oN.text us σ0 us.length (aG _)
   rw[iS]at ht
   refine GG.unique ht λj u hj=> ?_
   have GI:j<us.length:=(tK.1 hj).1
   have hjo:j<ops.size:=by rw[hl,bG]at GI;exact GI
   exact⟨λ_=>GI,λ_=>alO j hjo⟩
  exact hq a w (hσ▸hI)
 intro fuel
 induction fuel with
 |zero=>
  intro listed a w hf hR
  have Zp:Region.ready .any ops listed=[]:=by
   rw[List.eq_nil_iff_forall_not_mem]
   intro j hj
   rw[mem_ready]at hj
   obtain⟨h0,o,ho,_⟩:=hj
   have hjs:j<ops.size:=(kt.1 ho).1
   have GI:j<listed.size:=by rw[hR.size];exact hjs
   rw[yB GI]at h0
   have kV:j∈(List.range ops.size).filter λj=> !(listed.getD j false):=by
    rw[vB];exact⟨qx.2 hjs,by rw[h0];rfl⟩
   have:((List.range ops.size).filter λj=> !(listed.getD j false))=[]:=tJ ω
   rw[this]at kV;cases kV
  exact⟨Zp,kW listed a w hR Zp⟩
 |succ fuel ih=>
  intro listed a w hf hR
  refine⟨kW listed a w hR,λi hi=> ?_⟩
  have mX:=hi
  rw[mem_ready]at mX
  obtain⟨h0,o,ho,Mq⟩:=mX
  have his:i<ops.size:=(kt.1 ho).1
  have GY:i<listed.size:=by rw[hR.size];exact his
  rw[yB GY]at h0
  obtain⟨hs,LY,σ,GG,hI⟩:=hR
  have HX:ops.toList[i]? =some o:=by rw[gL];exact ho
  have hiu:i<us.length:=by rw[hl,bG];exact his
  have hu:us[i]? =some us[i]:=bm hiu
  have hPt:=hpt i us[i] o hu HX
  have hSi: ¬listed.getD i false=true:=by rw[h0];simp
  have Ms: ∀j p,ops.toList[j]? =some p→((j<i∧ ¬listed.getD j false=true)→((sD ops.toList []).getD i 0).testBit j=false)∧((i<j∧listed.getD j false=true)→((sD ops.toList []).getD j 0).testBit i=false):=by
   intro j p hj
   refine⟨λ⟨_,h2⟩=> ?_,λ⟨_,h2⟩=> ?_⟩
   ·rw[←mN]
    intro hb
    exact h2 (forced LY HX (.inl Mq) hb)
   ·rw[←mN]
    intro hb
    exact hSi (forced LY hj (.inr h2) hb)
  have VC: ∀(j:Nat) (u:Out),us[j]? =some u→ ∃p:Oper,ops.toList[j]? =some p∧u.dst=p.dst:=by
   intro j u hj
   have GI:j<us.length:=(tK.1 hj).1
   have hp:ops.toList[j]? =some ops.toList[j]:=bm ω
   exact⟨_,hp,(hpt j u _ hj hp).1⟩
  have afB:=oN.text us σ0 i ω
  have hT: ∀t∈names ops.toList o,σ.T t=((us.take i).foldl (fun σ u=>u.app σ) σ0).T t:=by
   intro t ht
   refine GG.Vz afB λj u hj hd=> ?_
   obtain⟨p,hp,hpd⟩:=VC j u hj
   have hpd:p.dst=some t:=by rw[←hpd,hd]
   constructor
   ·intro Mt
    refine Nat.lt_of_not_le λhle=> ?_
    rcases Nat.lt_or_eq_of_le hle with vX|heq
    ·exact(Mr j p i o hp HX vX ((Ms j p hp).2 ⟨vX,Mt⟩)).2 t hpd ht
    ·subst heq;exact hSi Mt
   ·intro yC
    by_cases Mt:listed.getD j false=true
    ·exact Mt
    ·exact absurd ht ((Mr i o j p HX hp yC ((Ms j p hp).1 ⟨yC,Mt⟩)).1 t hpd).2
  have hH:Ag us[i].rd ((us.take i).foldl (fun σ u=>u.app σ) σ0).H σ.H:=by
   intro k hk
   refine GG.VA afB λj u hj hd=> ?_
   obtain⟨p,hp,hpd⟩:=VC j u hj
   constructor
   ·intro Mt
    refine Nat.lt_of_not_le λhle=> ?_
    rcases Nat.lt_or_eq_of_le hle with vX|heq
    ·exact(YJ j u i us[i] hj hu vX ((Ms j p hp).2 ⟨vX,Mt⟩)).2 k hk hd
    ·subst heq;exact hSi Mt
   ·intro yC
    by_cases Mt:listed.getD j false=true
    ·exact Mt
    ·exact absurd hk ((YJ i us[i] j u hu hj yC ((Ms j p hp).1 ⟨yC,Mt⟩)).1 k hd).1
  have alP:=hPt.2 σ hT hH
  have hIs:oN us σ0 (λj=>j=i∨listed.getD j false=true) (us[i].app σ):=by
   refine GG.step hu λj u hj Mt pH=> ?_
   obtain⟨p,hp,hpd⟩:=VC j u hj
   have C5:=(Ms j p hp).2 ⟨pH,Mt⟩
   obtain⟨h1,h2⟩:=Mr j p i o hp HX pH C5
   obtain⟨h3,h4⟩:=YJ j u i us[i] hj hu pH C5
   refine⟨λt ht=> ?_,λk hk=>(h3 k hk).2⟩
   rw[hpd]
   exact(h1 t (by rw[←hPt.1];exact ht)).1
  have zP: ∀j,(listed.setIfInBounds i true).getD j false=true↔(j=i∨listed.getD j false=true):=by
   intro j
   by_cases yC:j=i
   ·subst yC
    constructor
    ·intro _;exact .inl rfl
    ·intro _;simp[GY]
   ·rw[getD_set_ne false (eE yC)]
    exact⟨.inr,λh=>h.resolve_left yC⟩
  classical
  let K':St→List Nat→List Nat→Option α:=fun σ' _ _=>if σ'=us[i].app σ then some x0 else none
  have hK:s4 E ops.toList o σ K'=some x0:=by rw[alP K'];simp[K']
  have:=Ca (Q:=Q) (next:=wpAny P .any ops Q fuel (listed.setIfInBounds i true)) hE hI hK (fun σ' a' w' rd wr hσ' ye=>by
   have arb:σ'=us[i].app σ:=by
    by_cases h:σ'=us[i].app σ
    ·exact h
    ·simp[K',h]at hσ'
   subst arb
   refine ih _ a' w' ?_ ⟨by simpa using hs,λj p hp Mt e he hb=> ?_,_,hIs.congr (λj=>(zP j).symm),ye⟩
   ·have hlen:((List.range ops.size).filter λj=> !((listed.setIfInBounds i true).getD j false)).length<((List.range ops.size).filter λj=> !(listed.getD j false)).length:=by
     have SO:((List.range ops.size).filter λj=> !((listed.setIfInBounds i true).getD j false))=((List.range ops.size).filter λj=> !(listed.getD j false)).filter λj=> !(Nat.beq j i):=by
      rw[List.filter_filter]
      apply List.filter_congr
      intro j _
      by_cases yC:j=i
      ·subst yC
       have h1:=(zP j).2 (.inl rfl)
       rw[h1];simp
      ·have h1:Nat.beq j i=false:=by rw[←mN,vH];exact yC
       rw[h1,getD_set_ne false (eE yC)];simp
     rw[SO]
     refine List.length_filter_lt_length_iff_exists.2 ⟨i,?_,by simp⟩
     rw[vB];exact⟨qx.2 his,by rw[h0];rfl⟩
    omega
   ·rcases(zP j).1 Mt with rfl|Mt
    ·rw[HX]at hp;cases hp
     exact(zP _).2 (.inr (Mq e he hb))
    ·exact(zP _).2 (.inr (LY j p hp Mt e he hb)))
  unfold wpOp
  rw[ho]
  simp only
  split
  ·rename_i hw;rw[aj hw]at this;exact .inl this
  ·rename_i hw;rw[ah hw]at this;exact this
theorem He(hE:sb P E){id:Nat}{ops:Array Oper}{draw:Bool}(hI:Inv c E σ a w){K:St→Option α}(h:DC E ops draw σ K=some r)
  (hn: ∀σ' a' w',K σ'=some r→Inv c E σ' a' w'→Q .normal a' w'):(Code.region id ops draw).wp P Q a w:=by
 cases draw
 ·refine wp_region_list (EN hE ops.toList 0 σ [] a w _ hI h fun σ' lg' a' w' h' ye=> ?_)
  exact hn σ' a' w' (cA h').2 ye
 ·unfold DC at h
  obtain⟨us,hl,hpt,lg,hK,_,alQ⟩:=Rm _ _ _ _ _ h
  obtain⟨hok,hK⟩:=cA hK
  simp only[a7,sW,bP]at hok
  obtain⟨Mr,YJ⟩:=hok
  unfold UZ at Mr
  simp only[bP,qu]at Mr
  obtain⟨arc,ard⟩:=Mr
  have hz: ∀j o,ops.toList[j]? =some o→(o,j)∈ops.toList.zipIdx:=λj o hj=>List.mem_zipIdx_iff_getElem?.2 hj
  refine wp_region_any hE.mixed (JP (Q:=Q) (σ0:=σ) hE r hl hpt rfl (λj o hj e he hbe=> ?_) (λj o i p hj hi pH hb=> ?_) (λj u i v hj hi pH hb=> ?_) (λa' w' ye=>hn _ a' w' hK ye) ops.size (Array.replicate ops.size false) a _ ?_ ?_)
  ·have:=arc (o,j) (hz j o hj) e (by simpa using he)
   rw[hbe]at this
   simpa [zu]using this
  ·have:=ard (o,j) (hz j o hj) (p,i) (hz i p hi)
   simp only[hb,sX,mR,qt,Bool.or_eq_false_iff]at this
   have GV: ¬Nat.ble j i=true:=by rw[zv];omega
   have this:=this.resolve_left GV
   refine⟨λd hd=>⟨λZq=> ?_,λZq=> ?_⟩,λd hd Zq=> ?_⟩
   ·exact mh this.1 (x:=d) (by simp[hd]) (by simp[Zq])
   ·exact mh this.1 (x:=d) (by simp[hd]) (by simp[Zq])
   ·exact mh this.2 (x:=d) (by simp[hd]) Zq
  ·unfold afq at YJ
   simp only[qu]at YJ
   have YI:=alQ j u hj
   have mX:=alQ i v hi
   rw[gh]at YI mX
   have:=YJ _ YI _ mX
   simp only[hb,sX,mR,qt,Bool.or_eq_false_iff]at this
   have GV: ¬Nat.ble j i=true:=by rw[zv];omega
   have this:=this.resolve_left GV
   refine⟨λk hk=>⟨λG0=> ?_,λG0=> ?_⟩,λk hk G0=> ?_⟩
   ·exact mh this.1 (x:=k) hk (cS _ G0)
   ·exact mh this.1 (x:=k) hk (dy _ G0)
   ·exact mh this.2 (x:=k) hk G0
  ·refine ck (List.length_filter_le _ _) ?_
   rw[vw];exact aG _
  ·have hf: ∀j,(Array.replicate ops.size false).getD j false=false:=by
    intro j
    rw[rR,Array.getElem?_replicate]
    split<;>rfl
   obtain⟨⟨M,ν,hc⟩,hs,hd,xQ⟩:=hI
   refine⟨by simp,λj o _ hS=>(by rw[hf]at hS;cases hS),σ,(oN.start us σ).congr (λj=>(by rw[hf];simp)),⟨M,ν,?_⟩,hs,hd,xQ⟩
   exact hc.tr (Tr.drew hc.mem)
end VM
end
