/- A part of the proof of WindEmpty of layer 21: a machine that reads a function of the program as an equation between values. -/
import Derived.Test.YtecmobijochjkaaGreatVm4
set_option linter.all false
section
namespace VM
open Go
variable{α:Type}{r:α}
theorem dF{υ τ:Ty}{y:υ.den}{k:τ.den→Option α}(h:c7 υ τ y k=some r): ∃z,k z=some r∧ ∀k':τ.den→Option α,c7 υ τ y k'=k' z:=by
 obtain⟨e,h⟩:=bC h
 subst e
 exact⟨y,h,λk'=>by simp[c7]⟩
theorem kd{υ τ:Ty}{k:Option α}(h:m2 υ τ k=some r):k=some r∧ ∀k':Option α,m2 υ τ k'=k':=by
 obtain⟨e,h1⟩:=fZ h
 clear h
 subst e
 exact⟨h1,λk'=>by simp[m2]⟩
theorem eC{b:Bool}{K:Option α}(h:cond b K none=some r):K=some r∧ ∀K':Option α,cond b K' none=K':=by
 obtain⟨rfl,h⟩:=cy h
 exact⟨h,λ_=>rfl⟩
theorem tz{b:Bool}{K:Option α}(h:cond b none K=some r):K=some r∧ ∀K':Option α,cond b none K'=K':=by
 obtain⟨rfl,h⟩:=my h
 exact⟨h,λ_=>rfl⟩
theorem xv: ∀{τ:Ty} {x:τ.den} {n:Nat} {k:(υ:Ty)→υ.den→Option α},xS τ x n k=some r→ ∃υ y,k υ y=some r∧ ∀k':(υ:Ty)→υ.den→Option α,xS τ x n k'=k' υ y
 | .pair a b,x,0,k,h=>⟨a,x.1,h,λ_=>rfl⟩
 | .pair a b,x,n+1,k,h=>by
  obtain⟨υ,y,h1,h2⟩:=xv (τ:=b) (x:=x.2) (n:=n) (k:=k) h
  exact⟨υ,y,h1,λk'=>h2 k'⟩
 | .int _,_,_,_,h| .bool,_,_,_,h| .str,_,_,_,h| .slice _,_,_,_,h| .unit,_,_,_,h| .arr _ _,_,_,_,h=>by simp[xS]at h
theorem yL: ∀{τ:Ty} {x:τ.den} {n:Nat} {m:(υ:Ty)→υ.den→(υ.den→Option α)→Option α} {k:τ.den→Option α},
  (∀υ y (k:υ.den→Option α),m υ y k=some r→ ∃z,k z=some r∧ ∀k':υ.den→Option α,m υ y k'=k' z)→m1 τ x n m k=some r→ ∃z,k z=some r∧ ∀k':τ.den→Option α,m1 τ x n m k'=k' z
 | .pair a b,x,0,m,k,hm,h=>by
  obtain⟨z,h1,h2⟩:=hm a x.1 _ h
  exact⟨(z,x.2),h1,λk'=>h2 _⟩
 | .pair a b,x,n+1,m,k,hm,h=>by
  obtain⟨z,h1,h2⟩:=yL (τ:=b) (x:=x.2) (n:=n) (m:=m) (k:=λz=>k (x.1,z)) hm h
  exact⟨(x.1,z),h1,λk'=>h2 (λz=>k' (x.1,z))⟩
 | .int _,_,_,_,_,_,h| .bool,_,_,_,_,_,h| .str,_,_,_,_,_,h| .slice _,_,_,_,_,_,h| .unit,_,_,_,_,_,h| .arr _ _,_,_,_,_,_,h=>by simp[m1]at h
theorem gU: ∀{p:List Step} {τ:Ty} {x:τ.den} {k:(υ:Ty)→υ.den→Option α},zM p τ x k=some r→ ∃υ y,k υ y=some r∧ ∀k':(υ:Ty)→υ.den→Option α,zM p τ x k'=k' υ y
 |[],τ,x,k,h=>⟨τ,x,h,λ_=>rfl⟩
 | .kC n::p,τ,x,k,h=>by
  obtain⟨υ,y,h1,h2⟩:=xv (h:xS τ x n _=some r)
  obtain⟨υ',y',h3,h4⟩:=gU h1
  exact⟨υ',y',h3,λk'=>(h2 _).trans (h4 k')⟩
 | .idx i::p,τ,x,k,h=>by
  cases τ with
  |arr n e=>
   obtain⟨υ',y',h3,h4⟩:=gU (p:=p) (τ:=e) (x:=List.getD x i e.zero) (k:=k) h
   exact⟨υ',y',h3,λk'=>h4 k'⟩
  |_=>simp[zM,agM]at h
theorem oK{υ:Ty}{y:υ.den}: ∀{p:List Step} {τ:Ty} {x:τ.den} {k:τ.den→Option α},vp υ y p τ x k=some r→ ∃z,k z=some r∧ ∀k':τ.den→Option α,vp υ y p τ x k'=k' z
 |[],τ,x,k,h=>dF h
 | .kC n::p,τ,x,k,h=>yL (λ_ _ _ h=>oK h) h
 | .idx i::p,τ,x,k,h=>by
  cases τ with
  |arr n e=>
   obtain⟨z,h1,h2⟩:=oK (p:=p) (τ:=e) (x:=List.getD x i e.zero) (k:=λz=>k (List.set x i z)) h
   exact⟨_,h1,λk'=>h2 (λz=>k' (List.set x i z))⟩
  |_=>simp[vp,DO]at h
theorem su{a:bD}{k:IntKind→Int→Option α}(h:vV a k=some r): ∃i n,k i n=some r∧ ∀k':IntKind→Int→Option α,vV a k'=k' i n:=by
 obtain⟨i,n,rfl,h⟩:=m6 h
 exact⟨i,n,h,λ_=>rfl⟩
theorem RF{a:bD}{k:(τ:Ty)→τ.den→Option α}(h:Mh a k=some r): ∃τ x,k τ x=some r∧ ∀k':(τ:Ty)→τ.den→Option α,Mh a k'=k' τ x:=by
 unfold Mh at h
 split at h
 ·exact⟨_,_,h,λ_=>rfl⟩
 ·cases h
theorem uq{a:Option bD}{d:Int}{k:Int→Option α}(h:yC a d k=some r): ∃n,k n=some r∧ ∀k':Int→Option α,yC a d k'=k' n:=by
 cases a with
 |none=>exact⟨d,h,λ_=>rfl⟩
 |some a=>
  obtain⟨i,n,h1,h2⟩:=su (h:vV a (λ_ x=>k x)=some r)
  exact⟨n,h1,λk'=>h2 (λ_ x=>k' x)⟩
abbrev Ag(rd:List Nat)(H H':Nat→Option bg):Prop:= ∀i∈rd,H' i=H i
theorem oL{fz:Bool}{a:bD}{H:Nat→Option bg}{τ:Ty}{k:τ.den→List Nat→iX→Option α}(h:lV fz a H τ k=some r):
  ∃y rd ups,k y rd ups=some r∧ ∀H',Ag rd H H'→ ∀k':τ.den→List Nat→iX→Option α,lV fz a H' τ k'=k' y rd ups:=by
 cases a with
 |val υ x=>
  simp only[lV]at h
  obtain⟨z,h1,h2⟩:=dF h
  refine⟨z,[],[],h1,λH' _ k'=> ?_⟩
  simp only[lV]
  exact h2 (λy=>k' y [] [])
 |JL υ x n=>
  simp only[lV]at h
  obtain⟨z,h1,h2⟩:=dF h
  refine⟨z,[],[],h1,λH' _ k'=> ?_⟩
  simp only[lV]
  exact h2 (λy=>k' y [] [])
 |emp=>
  cases τ with
  |slice e=>exact⟨[],[],[],h,λ_ _ _=>rfl⟩
  |_=>cases h
 |ref id=>
  have h:(match H id with
   |some (.own e l)=>c7 (.slice e) τ l λy=>k y [id] (cond fz [(id,some (.oH e l))] [])
   |some (.oH e l)=>c7 (.slice e) τ l λy=>k y [id] []
   |_=>none)=some r:=h
  cases hH:H id with
  |none=>rw[hH]at h;cases h
  |some e=>
   rw[hH]at h
   cases e with
   |own e l=>
    obtain⟨z,h1,h2⟩:=dF (h:c7 (.slice e) τ l _=some r)
    refine⟨z,_,_,h1,λH' hA k'=> ?_⟩
    have:H' id=some (.own e l):=by rw[hA id (by simp),hH]
    show(match H' id with
     |some (.own e l)=>c7 (.slice e) τ l λy=>k' y [id] (cond fz [(id,some (.oH e l))] [])
     |some (.oH e l)=>c7 (.slice e) τ l λy=>k' y [id] []
     |_=>none)=_
    rw[this];exact h2 _
   |oH e l=>
    obtain⟨z,h1,h2⟩:=dF (h:c7 (.slice e) τ l _=some r)
    refine⟨z,_,_,h1,λH' hA k'=> ?_⟩
    have:H' id=some (.oH e l):=by rw[hA id (by simp),hH]
    show(match H' id with
     |some (.own e l)=>c7 (.slice e) τ l λy=>k' y [id] (cond fz [(id,some (.oH e l))] [])
     |some (.oH e l)=>c7 (.slice e) τ l λy=>k' y [id] []
     |_=>none)=_
    rw[this];exact h2 _
   |obj _ _=>cases h
   |gh _ _ _ _=>cases h
   |gone=>cases h
 |any|Vp|jn _ _|qM _ _|tup _|Mf _ _=>cases h
theorem Bt{id:Nat}{p:List Step}{H:Nat→Option bg}{k:Ty→Option α}(h:m3 id p H k=some r): ∃υ,k υ=some r∧ ∀H',H' id=H id→ ∀k':Ty→Option α,m3 id p H' k'=k' υ:=by
 unfold m3 at h
 split at h
 ·rename_i τ x bf
  obtain⟨υ,y,h1,h2⟩:=gU h
  exact⟨υ,h1,λH' hA k'=>by unfold m3;rw[hA,bf];exact h2 _⟩
 ·rename_i τ x _ _ bf
  obtain⟨υ,y,h1,h2⟩:=gU h
  exact⟨υ,h1,λH' hA k'=>by unfold m3;rw[hA,bf];exact h2 _⟩
 ·rename_i e l bf
  split at h
  ·obtain⟨υ,y,h1,h2⟩:=gU h
   exact⟨υ,h1,λH' hA k'=>by unfold m3;rw[hA,bf];exact h2 _⟩
  ·cases h
 ·rename_i e l bf
  split at h
  ·obtain⟨υ,y,h1,h2⟩:=gU h
   exact⟨υ,h1,λH' hA k'=>by unfold m3;rw[hA,bf];exact h2 _⟩
  ·cases h
 ·cases h
theorem xw{H:Nat→Option bg}{id:Nat}{e:bg}{K:Option α}(h:qN H id e K=some r):K=some r∧ ∀H',H' id=H id→ ∀(e':bg) (K':Option α),qN H' id e' K'=K':=by
 obtain⟨h1,h2⟩:=ln h
 exact⟨h2,λH' hA e' K'=>by unfold qN;rw[hA,h1]⟩
theorem Ti{b:BinOp}{k:IntKind}{x y:Int}{K:bD→Option α}(h:ub b k x y K=some r): ∃v,K v=some r∧ ∀K':bD→Option α,ub b k x y K'=K' v:=by
 cases b<;>simp only[ub]at h ⊢ <;>first
  |exact⟨_,h,λ_=>rfl⟩
  |(obtain⟨h1,h2⟩:=tz h;exact⟨_,h1,λ_=>h2 _⟩)
  |cases h
theorem ahm{b:BinOp}{k:IntKind}{x y:Int}{K:bD→Option α}(h:Zd b k x y K=some r): ∃v,K v=some r∧ ∀K':bD→Option α,Zd b k x y K'=K' v:=by
 cases b<;>simp only[Zd]at h ⊢ <;>first
  |(obtain⟨h1,h2⟩:=tz h;exact⟨_,h1,λ_=>h2 _⟩)
  |cases h
theorem VT{t:Option Ty}{op:BinOp}{τ:Ty}{x:τ.den}{υ:Ty}{y:υ.den}{K:bD→Option α}(h:EG t op τ x υ y K=some r): ∃v,K v=some r∧ ∀K':bD→Option α,EG t op τ x υ y K'=K' v:=by
 unfold EG at h ⊢
 split at h
 ·rename_i k x k' y
  cases hs:Ze op
  ·rw[hs]at h
   have h:(if k=k' then ub op k x y K else none)=some r:=h
   by_cases hk:k=k'
   ·rw[aj hk]at h
    obtain⟨v,h1,h2⟩:=Ti h
    exact⟨v,h1,λK'=>by simp only[av,aj hk];exact h2 K'⟩
   ·rw[ah hk]at h;cases h
  ·rw[hs]at h
   obtain⟨v,h1,h2⟩:=ahm (h:Zd op k x y K=some r)
   exact⟨v,h1,λK'=>by simp only[aq];exact h2 K'⟩
 ·split at h
  ·cases h
  ·obtain⟨h1,h2⟩:=kd h
   obtain⟨h3,h4⟩:=eC h1
   split at h3
   ·obtain⟨z,h5,h6⟩:=dF h3
    exact⟨_,h5,λK'=>by rw[h2,h4];exact h6 _⟩
   ·obtain⟨z,h5,h6⟩:=dF h3
    exact⟨_,h5,λK'=>by rw[h2,h4];exact h6 _⟩
   ·cases h3
theorem ZG{u:UnOp}{a:bD}{K:bD→Option α}(h:SX u a K=some r): ∃v,K v=some r∧ ∀K':bD→Option α,SX u a K'=K' v:=by
 unfold SX at h
 split at h<;>first
  |exact⟨_,h,λ_=>rfl⟩
  |cases h
theorem P9{up:Bool}: ∀{xs:List bD} {a:bD} {K:bD→Option α},YS up a xs K=some r→ ∃v,K v=some r∧ ∀K':bD→Option α,YS up a xs K'=K' v
 |[],a,K,h=>⟨a,h,λ_=>rfl⟩
 |b::xs,a,K,h=>by
  unfold YS at h
  obtain⟨k,x,h1,h2⟩:=su h
  obtain⟨k',y,h3,h4⟩:=su h1
  by_cases hk:k=k'
  ·rw[aj hk]at h3
   obtain⟨v,h5,h6⟩:=P9 h3
   refine⟨v,h5,λK'=> ?_⟩
   unfold YS
   rw[h2,h4,aj hk]
   exact h6 K'
  ·rw[ah hk]at h3;cases h3
theorem ZH{τ:Ty}{a:bD}{H:Nat→Option bg}{K:jb α}(h:Mi τ a H K=some r): ∃v rd ups,K v rd ups=some r∧ ∀H',Ag rd H H'→ ∀K':jb α,Mi τ a H' K'=K' v rd ups:=by
 unfold Mi at h
 split at h
 ·exact⟨_,_,_,h,λ_ _ _=>rfl⟩
 ·exact⟨_,_,_,h,λ_ _ _=>rfl⟩
 ·exact⟨_,_,_,h,λ_ _ _=>rfl⟩
 ·exact⟨_,_,_,h,λ_ _ _=>rfl⟩
 ·split at h
  ·rename_i bf
   exact⟨_,_,_,h,λH' hA K'=>by unfold Mi;simp only;rw[hA _ (by simp),bf]⟩
  ·rename_i bf
   exact⟨_,_,_,h,λH' hA K'=>by unfold Mi;simp only;rw[hA _ (by simp),bf]⟩
  ·cases h
 ·cases h
theorem ZI{id:Nat}{e:Ty}{a b:bD}{H:Nat→Option bg}{K:jb α}(h:Mj id e a b H K=some r): ∃v rd ups,K v rd ups=some r∧id∈rd∧ ∀H',Ag rd H H'→ ∀K':jb α,Mj id e a b H' K'=K' v rd ups:=by
 unfold Mj at h
 obtain⟨ys,rd,ups,h1,h2⟩:=oL h
 split at h1
 ·obtain⟨h3,h4⟩:=eC h1
  refine⟨_,_,_,h3,by simp,λH' hA K'=> ?_⟩
  unfold Mj
  rw[h2 H' (λi hi=>hA i (aZ _ hi))]
  exact h4 _
 ·rename_i j
  split at h1
  ·rename_i e' l hj
   obtain⟨z,h3,h4⟩:=dF h1
   obtain⟨h5,h6⟩:=eC h3
   refine⟨_,_,_,h5,by simp,λH' hA K'=> ?_⟩
   unfold Mj
   rw[h2 H' (λi hi=>hA i (aZ _ (aZ _ hi)))]
   simp only
   rw[hA j (by simp),hj]
   simp only
   rw[h4]
   exact h6 _
  ·cases h1
 ·cases h1
theorem E4{e:Ty}{n:Nat}{H:Nat→Option bg}: ∀{ps:List (Nat×bD)} {l:List e.den} {Ij:List Nat} {E5:iX} {K:List e.den→List Nat→iX→Option α},vX e H n ps l Ij E5 K=some r→
  ∃l' rd ups,K l' rd ups=some r∧(∀i∈Ij,i∈rd)∧ ∀H',Ag rd H H'→ ∀K':List e.den→List Nat→iX→Option α,vX e H' n ps l Ij E5 K'=K' l' rd ups
 |[],l,Ij,E5,K,h=>⟨l,Ij,E5,h,λ_ h=>h,λ_ _ _=>rfl⟩
 |p::ps,l,Ij,E5,K,h=>by
  unfold vX at h
  obtain⟨h1,h2⟩:=eC h
  obtain⟨y,rd1,P6,h3,h4⟩:=oL h1
  obtain⟨l',rd,ups,h5,h6,h7⟩:=E4 h3
  refine⟨l',rd,ups,h5,λi hi=>h6 i (dA _ hi),λH' hA K'=> ?_⟩
  unfold vX
  rw[h2,h4 H' (λi hi=>hA i (h6 i (cU _ hi)))]
  exact h7 H' hA K'
theorem Ik{τ:Ty}{H:Nat→Option bg}: ∀{ps:List (Nat×bD)} {x:τ.den} {Ij:List Nat} {E5:iX} {K:τ.den→List Nat→iX→Option α},uc τ H ps x Ij E5 K=some r→
  ∃x' rd ups,K x' rd ups=some r∧(∀i∈Ij,i∈rd)∧ ∀H',Ag rd H H'→ ∀K':τ.den→List Nat→iX→Option α,uc τ H' ps x Ij E5 K'=K' x' rd ups
 |[],x,Ij,E5,K,h=>⟨x,Ij,E5,h,λ_ h=>h,λ_ _ _=>rfl⟩
 |p::ps,x,Ij,E5,K,h=>by
  unfold uc at h
  obtain⟨υ,z,h1,h2⟩:=xv h
  obtain⟨y,rd1,P6,h3,h4⟩:=oL h1
  obtain⟨z',h5,h6⟩:=yL (m:=fun υ' _ k'=>c7 υ υ' y k') (fun υ' y' k hk=>dF hk) h3
  obtain⟨x',rd,ups,h7,h8,h9⟩:=Ik h5
  refine⟨x',rd,ups,h7,λi hi=>h8 i (dA _ hi),λH' hA K'=> ?_⟩
  unfold uc
  rw[h2,h4 H' (λi hi=>hA i (h8 i (cU _ hi))),h6]
  exact h9 H' hA K'
theorem VU{H:Nat→Option bg}{v:bD}{a:Ty}{k:a.den→List Nat→iX→Option α}(h:Cg v H a k=some r):
  ∃x rd ups,k x rd ups=some r∧ ∀H',Ag rd H H'→ ∀k':a.den→List Nat→iX→Option α,Cg v H' a k'=k' x rd ups:=by
 unfold Cg at h
 split at h
 ·split at h
  ·obtain⟨z,h1,h2⟩:=dF h
   refine⟨_,_,_,h1,λH' _ k'=> ?_⟩
   unfold Cg
   simp only
   rw[h2]
  ·cases h
 ·rename_i k0 vD
  obtain⟨y,rd,ups,h1,h2⟩:=oL h
  refine⟨y,rd,ups,h1,λH' hA k'=> ?_⟩
  unfold Cg
  split
  ·exact(vD _ _ rfl HEq.rfl).elim
  ·exact h2 H' hA _
theorem MM{H:Nat→Option bg}: ∀{τ:Ty} {vs:List bD} {k:τ.den→List Nat→iX→Option α},qO H τ vs k=some r→
  ∃x rd ups,k x rd ups=some r∧ ∀H',Ag rd H H'→ ∀k':τ.den→List Nat→iX→Option α,qO H' τ vs k'=k' x rd ups
 | .unit,[],k,h=>⟨(),[],[],h,λ_ _ _=>rfl⟩
 | .pair a b,v::vs,k,h=>by
  unfold qO at h
  obtain⟨y,rd,ups,h1,h2⟩:=VU h
  obtain⟨ys,Bj,nZ,h3,h4⟩:=MM h1
  refine⟨(y,ys),_,_,h3,λH' hA k'=> ?_⟩
  unfold qO
  rw[h2 H' (λi hi=>hA i (dA _ hi)),h4 H' (λi hi=>hA i (cU _ hi))]
 | .unit,_::_,_,h=>by simp[qO]at h
 | .pair _ _,[],_,h=>by simp[qO]at h
 | .int _,_,_,h| .bool,_,_,h| .str,_,_,h| .slice _,_,_,h| .arr _ _,_,_,h=>by simp[qO]at h
theorem E6: ∀{pW:List bD} {H:Nat→Option bg} {K:List bD→List Nat→iX→Option α},vY H pW K=some r→
  ∃cs rd ups,K cs rd ups=some r∧ ∀H',Ag rd H H'→ ∀K':List bD→List Nat→iX→Option α,vY H' pW K'=K' cs rd ups
 |[],H,K,h=>⟨[],[],[],h,λ_ _ _=>rfl⟩
 |a::pW,H,K,h=>by
  unfold vY at h
  split at h
  ·rename_i id
   split at h
   ·rename_i τ x bf
    obtain⟨cs,rd,ups,h1,h2⟩:=E6 h
    refine⟨_,_,_,h1,λH' hA K'=> ?_⟩
    unfold vY
    simp only
    rw[hA id (by simp),bf]
    simp only
    rw[h2 (bZ H' id (some .gone)) (λi hi=>by
     by_cases bY:i=id
     ·subst bY;rw[ax,ax]
     ·rw[az _ _ bY,az _ _ bY];exact hA i (aZ _ hi))]
   ·cases h
  ·rename_i vD
   obtain⟨cs,rd,ups,h1,h2⟩:=E6 h
   refine⟨_,_,_,h1,λH' hA K'=> ?_⟩
   unfold vY
   split
   ·exact absurd rfl (vD _)
   ·rw[h2 H' hA]
end VM
end
section
namespace VM
open Go
variable{α:Type}{r:α}
theorem MN{m:AM}{a:bD}{H:Nat→Option bg}{k:m.den→(Nat→Option bg)→List Nat→iX→iX→List (Nat×AM)→Option α}(h:nU m a H k=some r):
  ∃y rd uo uf io,∃g:(Nat→Option bg)→(Nat→Option bg),k y (g H) rd uo uf io=some r∧(∀H' i,H' i=H i→g H' i=g H i)∧
   ∀H',Ag rd H H'→ ∀k':m.den→(Nat→Option bg)→List Nat→iX→iX→List (Nat×AM)→Option α,nU m a H' k'=k' y (g H') rd uo uf io:=by
 have MO: ∀(d:Nat) (v:Option bg) (H':Nat→Option bg) (i:Nat),H' i=H i→bZ H' d v i=bZ H d v i:=by
  intro d v H' i hi
  by_cases bf:i=d
  ·subst bf;rw[ax,ax]
  ·rw[az _ _ bf,az _ _ bf,hi]
 unfold nU at h
 split at h
 ·rename_i τ k
  obtain⟨y,rd,ups,h1,h2⟩:=oL h
  cases ups with
  |nil=>
   refine⟨y,rd,[],[],[],λH=>H,h1,λ_ _ h=>h,λH' hA k'=> ?_⟩
   unfold nU;simp only;rw[h2 H' hA]
  |cons u rest=>
   refine⟨y,rd,[],u::rest,[],λH=>bZ H u.1 u.2,h1,λH' i hi=>MO _ _ H' i hi,λH' hA k'=> ?_⟩
   unfold nU;simp only;rw[h2 H' hA]
 ·rename_i e k
  split at h
  ·exact⟨[],[],[],[],[],λH=>H,h,λ_ _ h=>h,λ_ _ _=>rfl⟩
  ·rename_i id
   split at h
   ·rename_i e' l bf
    obtain⟨z,h1,h2⟩:=dF h
    refine⟨z,[id],_,_,_,λH=>bZ H id (some .gone),h1,λH' i hi=>MO _ _ H' i hi,λH' hA k'=> ?_⟩
    unfold nU;simp only;rw[hA id (by simp),bf];simp only;rw[h2]
   ·cases h
  ·cases h
 ·rename_i τ k
  split at h
  ·rename_i id
   split at h
   ·rename_i υ x bf
    obtain⟨z,h1,h2⟩:=dF h
    refine⟨z,[id],_,_,_,λH=>bZ H id (some .gone),h1,λH' i hi=>MO _ _ H' i hi,λH' hA k'=> ?_⟩
    unfold nU;simp only;rw[hA id (by simp),bf];simp only;rw[h2]
   ·cases h
  ·cases h
 ·rename_i f τ k
  split at h
  ·rename_i f' cs
   obtain⟨h1,h2⟩:=eC h
   obtain⟨x,rd,ups,h3,h4⟩:=MM h1
   cases ups with
   |nil=>
    refine⟨x,rd,[],[],[],λH=>H,h3,λ_ _ h=>h,λH' hA k'=> ?_⟩
    unfold nU;simp only;rw[h2,h4 H' hA]
   |cons _ _=>cases h3
  ·cases h
 ·cases h
 ·rename_i τ k
  split at h
  ·obtain⟨z,h1,h2⟩:=dF h
   refine⟨z,[],[],[],[],λH=>H,h1,λ_ _ h=>h,λH' hA k'=> ?_⟩
   unfold nU;simp only;rw[h2]
  ·cases h
 ·rename_i e k
  split at h
  ·rename_i id
   split at h
   ·rename_i e' l bf
    obtain⟨z,h1,h2⟩:=dF h
    refine⟨z,[id],_,_,_,λH=>bZ H id (some .gone),h1,λH' i hi=>MO _ _ H' i hi,λH' hA k'=> ?_⟩
    unfold nU;simp only;rw[hA id (by simp),bf];simp only;rw[h2]
   ·cases h
  ·cases h
theorem MP: ∀{ms:List AM} {pW:List bD} {H:Nat→Option bg} {Ij:List Nat} {uo0 uf0:iX} {io0:List (Nat×AM)} {K:HP ms→List Nat→iX→iX→List (Nat×AM)→Option α},th ms pW H Ij uo0 uf0 io0 K=some r→
  ∃x rd uo uf io,K x rd uo uf io=some r∧(∀i∈Ij,i∈rd)∧ ∀H',Ag rd H H'→ ∀K':HP ms→List Nat→iX→iX→List (Nat×AM)→Option α,th ms pW H' Ij uo0 uf0 io0 K'=K' x rd uo uf io
 |[],[],H,Ij,uo0,uf0,io0,K,h=>⟨(),_,_,_,_,h,λ_ h=>h,λ_ _ _=>rfl⟩
 |[m],[a],H,Ij,uo0,uf0,io0,K,h=>by
  obtain⟨y,rd,uo,uf,io,g,h1,h2,h3⟩:=MN (h:nU m a H _=some r)
  exact⟨y,_,_,_,_,h1,λi hi=>dA _ hi,λH' hA K'=>h3 H' (λi hi=>hA i (cU _ hi)) _⟩
 |m::n::ms,a::pW,H,Ij,uo0,uf0,io0,K,h=>by
  obtain⟨y,rd,uo,uf,io,g,h1,h2,h3⟩:=MN (h:nU m a H _=some r)
  obtain⟨ys,Bj,Lu,Lv,GZ,h4,h5,h6⟩:=MP (ms:=n::ms) h1
  refine⟨(y,ys),Bj,Lu,Lv,GZ,h4,λi hi=>h5 i (dA _ hi),λH' hA K'=> ?_⟩
  refine(h3 H' (λi hi=>hA i (h5 i (cU _ hi))) _).trans ?_
  exact h6 (g H') (λi hi=>h2 H' i (hA i hi)) _
 |[],_::_,_,_,_,_,_,_,h=>by simp[th]at h
 |[_],[],_,_,_,_,_,_,h=>by simp[th]at h
 |[_],_::_::_,_,_,_,_,_,_,h=>by simp[th]at h
 |_::_::_,[],_,_,_,_,_,_,h=>by simp[th]at h
theorem VV{id i:Nat}: ∀{n:Nat},i∈Ml id n↔id≤i∧i<id+n
 |0=>by simp[Ml]
 |n+1=>by simp only[Ml,aW,VV];omega
theorem yr{H H':Nat→Option bg}{id:Nat}: ∀{n:Nat},(∀i∈Ml id n,H' i=H i)→ud H' id n=ud H id n
 |0,_=>rfl
 |n+1,h=>by
  unfold ud
  rw[h (id+n) (by simp[Ml]),yr λi hi=>h i (by simp[Ml,hi])]
theorem VW{E:Env}{f id:Nat}{pW:List bD}{H:Nat→Option bg}{K:jb α}(h:Ci E f pW id H K=some r): ∃v rd ups,K v rd ups=some r∧ ∀H',Ag rd H H'→ ∀K':jb α,Ci E f pW id H' K'=K' v rd ups:=by
 unfold Ci at h
 split at h
 ·cases h
 ·rename_i S hS
  obtain⟨x,rd,uo,uf,io,h1,_,h2⟩:=MP h
  obtain⟨y,hy,h3⟩:=s7.1 h1
  obtain⟨h4,h5⟩:=cy h3
  refine⟨_,_,_,h5,λH' hA K'=> ?_⟩
  unfold Ci
  rw[hS]
  simp only
  rw[h2 H' (λi hi=>hA i (dA _ (dA _ hi))),hy]
  simp only[ar]
  rw[yr (λi hi=>hA i (cU _ hi)),h4]
  rfl
theorem Tj{t:Ty}{z:Bool}{a:bD}{lo hi mx:Option bD}{H:Nat→Option bg}{K:jb α}(h:qP t z a lo hi mx H K=some r): ∃v rd ups,K v rd ups=some r∧ ∀H',Ag rd H H'→ ∀K':jb α,qP t z a lo hi mx H' K'=K' v rd ups:=by
 unfold qP at h
 split at h
 ·obtain⟨h1,e1⟩:=eC h
  obtain⟨l,h2,e2⟩:=uq h1
  obtain⟨m,h3,e3⟩:=uq h2
  obtain⟨h4,e4⟩:=eC h3
  exact⟨_,_,_,h4,λH' _ K'=>by unfold qP;simp only;rw[e1,e2,e3,e4]⟩
 ·cases z
  ·obtain⟨h1,e1⟩:=eC (h:cond mx.isNone _ none=some r)
   obtain⟨l,h2,e2⟩:=uq h1
   obtain⟨m,h3,e3⟩:=uq h2
   obtain⟨h4,e4⟩:=eC h3
   exact⟨_,_,_,h4,λH' _ K'=>by unfold qP;simp only[av];rw[e1,e2,e3,e4]⟩
  ·exact⟨_,_,_,h,λH' _ K'=>by unfold qP;rfl⟩
 ·rename_i e jy
  obtain⟨y,rd,ups,h1,e1⟩:=oL h
  cases z
  ·obtain⟨h2,e2⟩:=eC (h1:cond (mx.isNone||hi.isSome) _ none=some r)
   obtain⟨l,h3,e3⟩:=uq h2
   obtain⟨m,h4,e4⟩:=uq h3
   obtain⟨n,h5,e5⟩:=uq h4
   obtain⟨h6,e6⟩:=eC h5
   refine⟨_,_,_,h6,λH' hA K'=> ?_⟩
   unfold qP
   simp only
   rw[e1 H' hA]
   simp only[av]
   rw[e2,e3,e4,e5,e6]
  ·refine⟨_,_,_,(h1:K .emp rd []=some r),λH' hA K'=> ?_⟩
   unfold qP
   simp only
   rw[e1 H' hA]
   rfl
 ·cases h
theorem Hy{τ:Ty}{a i:bD}{H:Nat→Option bg}{K:jb α}(h:gC τ a i H K=some r): ∃v rd ups,K v rd ups=some r∧ ∀H',Ag rd H H'→ ∀K':jb α,gC τ a i H' K'=K' v rd ups:=by
 unfold gC at h
 obtain⟨k,n,h,e0⟩:=su h
 split at h
 ·split at h
  ·obtain⟨z,h1,e1⟩:=dF h
   obtain⟨h2,e2⟩:=eC h1
   exact⟨_,_,_,h2,λH' _ K'=>by unfold gC;rw[e0];simp only;rw[e1,e2]⟩
  ·split at h
   ·rename_i bf
    obtain⟨h1,e1⟩:=kd h
    obtain⟨h2,e2⟩:=eC h1
    exact⟨_,_,_,h2,λH' hA K'=>by unfold gC;rw[e0];simp only;rw[hA _ (by simp),bf];simp only;rw[e1,e2]⟩
   ·rename_i bf
    obtain⟨h1,e1⟩:=kd h
    obtain⟨h2,e2⟩:=eC h1
    exact⟨_,_,_,h2,λH' hA K'=>by unfold gC;rw[e0];simp only;rw[hA _ (by simp),bf];simp only;rw[e1,e2]⟩
   ·cases h
  ·cases h
 ·split at h
  ·obtain⟨υ,h1,e1⟩:=Bt h
   obtain⟨h2,e2⟩:=kd h1
   obtain⟨h3,e3⟩:=eC h2
   exact⟨_,_,_,h3,λH' hA K'=>by unfold gC;rw[e0];simp only;rw[e1 H' (hA _ (by simp)),e2,e3]⟩
  ·obtain⟨z,h1,e1⟩:=dF h
   obtain⟨h2,e2⟩:=eC h1
   exact⟨_,_,_,h2,λH' _ K'=>by unfold gC;rw[e0];simp only;rw[e1,e2]⟩
  ·cases h
 ·cases h
theorem Tk{τ:Ty}{a i:bD}{K:bD→Option α}(h:vZ τ a i K=some r): ∃v,K v=some r∧ ∀K':bD→Option α,vZ τ a i K'=K' v:=by
 unfold vZ at h
 obtain⟨k,n,h,e0⟩:=su h
 split at h
 ·obtain⟨z,h1,e1⟩:=dF h
  obtain⟨h2,e2⟩:=eC h1
  exact⟨_,h2,λK'=>by unfold vZ;rw[e0];simp only;rw[e1,e2]⟩
 ·obtain⟨h2,e2⟩:=eC h
  exact⟨_,h2,λK'=>by unfold vZ;rw[e0];simp only;rw[e2]⟩
 ·cases h
theorem VX{a:bD}{H:Nat→Option bg}{K:(υ:Ty)→υ.den→List Nat→Option α}(h:kU a H K=some r): ∃υ y rd,K υ y rd=some r∧ ∀H',Ag rd H H'→ ∀K':(υ:Ty)→υ.den→List Nat→Option α,kU a H' K'=K' υ y rd:=by
 unfold kU at h
 split at h
 ·exact⟨_,_,_,h,λ_ _ _=>rfl⟩
 ·split at h
  ·rename_i bf
   obtain⟨υ,y,h1,e1⟩:=gU h
   exact⟨_,_,_,h1,λH' hA K'=>by unfold kU;simp only;rw[hA _ (by simp),bf];simp only;rw[e1]⟩
  ·rename_i bf
   split at h
   ·obtain⟨υ,y,h1,e1⟩:=gU h
    exact⟨_,_,_,h1,λH' hA K'=>by unfold kU;simp only;rw[hA _ (by simp),bf];simp only;rw[e1]⟩
   ·cases h
  ·rename_i bf
   split at h
   ·obtain⟨υ,y,h1,e1⟩:=gU h
    exact⟨_,_,_,h1,λH' hA K'=>by unfold kU;simp only;rw[hA _ (by simp),bf];simp only;rw[e1]⟩
   ·cases h
  ·cases h
 ·cases h
theorem Tl{τ:Ty}{a v:bD}{H:Nat→Option bg}{K:jb α}(h:lX τ a v H K=some r): ∃u rd ups,K u rd ups=some r∧ ∀H',Ag rd H H'→ ∀K':jb α,lX τ a v H' K'=K' u rd ups:=by
 unfold lX at h
 split at h
 ·obtain⟨y,rd,ups,h1,e1⟩:=oL h
  split at h1
  ·rename_i bf
   obtain⟨z,h2,e2⟩:=oK h1
   exact⟨_,_,_,h2,λH' hA K'=>by
    unfold lX;simp only
    rw[e1 H' (λi hi=>hA i (aZ _ hi))]
    rw[hA _ (by simp),bf];simp only;rw[e2]⟩
  ·rename_i bf
   split at h1
   ·obtain⟨h2,e2⟩:=tz h1
    obtain⟨z,h3,e3⟩:=oK h2
    exact⟨_,_,_,h3,λH' hA K'=>by
     unfold lX;simp only
     rw[e1 H' (λi hi=>hA i (aZ _ hi))]
     rw[hA _ (by simp),bf];simp only;rw[e2,e3]⟩
   ·cases h1
  ·cases h1
 ·cases h
theorem ZJ{j:Nat}{q:List Step}{τ:Ty}{x:τ.den}{H:Nat→Option bg}{k:τ.den→iX→Option α}(h:Dc j q τ x H k=some r): ∃z ups,k z ups=some r∧ ∀H',H' j=H j→ ∀k':τ.den→iX→Option α,Dc j q τ x H' k'=k' z ups:=by
 unfold Dc at h
 split at h
 ·rename_i hj
  obtain⟨z,h1,e1⟩:=oK h
  exact⟨_,_,h1,λH' hA k'=>by unfold Dc;rw[hA,hj];simp only;rw[e1]⟩
 ·rename_i hj
  obtain⟨z,h1,e1⟩:=oK h
  exact⟨_,_,h1,λH' hA k'=>by unfold Dc;rw[hA,hj];simp only;rw[e1]⟩
 ·cases h
abbrev Pts(F:(Nat→Option bg)→jb α→Option α)(H:Nat→Option bg)(K:jb α)(r:α):Prop:=
 ∃v rd ups,K v rd ups=some r∧ ∀H',Ag rd H H'→ ∀K':jb α,F H' K'=K' v rd ups
theorem VY{τ:Ty}{a:bD}{H:Nat→Option bg}{K:jb α}(h:(kU a H fun υ y rd=>c7 υ τ y λz=>K (.val τ z) rd [])=some r):
  Pts (λH K=>kU a H fun υ y rd=>c7 υ τ y λz=>K (.val τ z) rd []) H K r:=by
 obtain⟨υ,y,rd,h1,e1⟩:=VX h
 obtain⟨z,h2,e2⟩:=dF h1
 exact⟨_,_,_,h2,λH' hA K'=>by simp only;rw[e1 H' hA,e2]⟩
theorem al1{id:Nat}{p:List Step}{H:Nat→Option bg}{K:(υ:Ty)→υ.den→List Nat→Option α}(h:kU (.jn id p) H K=some r): ∃υ y,K υ y [id]=some r:=by
 unfold kU at h
 simp only at h
 split at h
 ·obtain⟨υ,y,h1,_⟩:=gU h;exact⟨υ,y,h1⟩
 ·split at h
  ·obtain⟨υ,y,h1,_⟩:=gU h;exact⟨υ,y,h1⟩
  ·cases h
 ·split at h
  ·obtain⟨υ,y,h1,_⟩:=gU h;exact⟨υ,y,h1⟩
  ·cases h
 ·cases h
theorem VZ{τ:Ty}{id:Nat}{p:List Step}{H:Nat→Option bg}{K:jb α}(h:(kU (.jn id p) H fun υ y rd=>c7 υ τ y λz=>K (.val τ z) rd [])=some r):
  ∃z,K (.val τ z) [id] []=some r∧ ∀H',H' id=H id→ ∀K':jb α,(kU (.jn id p) H' fun υ y rd=>c7 υ τ y λz=>K' (.val τ z) rd [])=K' (.val τ z) [id] []:=by
 unfold kU at h
 simp only at h
 split at h
 ·rename_i bf
  obtain⟨υ,y,h1,e1⟩:=gU h
  obtain⟨z,h2,e2⟩:=dF h1
  exact⟨_,h2,λH' hA K'=>by unfold kU;simp only;rw[hA,bf];simp only;rw[e1,e2]⟩
 ·rename_i bf
  split at h
  ·obtain⟨υ,y,h1,e1⟩:=gU h
   obtain⟨z,h2,e2⟩:=dF h1
   exact⟨_,h2,λH' hA K'=>by unfold kU;simp only;rw[hA,bf];simp only;rw[e1,e2]⟩
  ·cases h
 ·rename_i bf
  split at h
  ·obtain⟨υ,y,h1,e1⟩:=gU h
   obtain⟨z,h2,e2⟩:=dF h1
   exact⟨_,h2,λH' hA K'=>by unfold kU;simp only;rw[hA,bf];simp only;rw[e1,e2]⟩
  ·cases h
 ·cases h
theorem V0{τ:Ty}{a:bD}{H:Nat→Option bg}{K:jb α}(h:u9 τ a H K=some r):Pts (u9 τ a) H K r:=by
 unfold u9 at h
 simp only at h
 split at h
 ·rename_i id p
  split at h
  ·rename_i υ x q j bf
   cases hp:Me p q
   ·cases G0:xR p q
    ·rw[hp,G0]at h
     simp only[av]at h
     obtain⟨υ',y,h1,e1⟩:=gU h
     obtain⟨z,h2,e2⟩:=dF h1
     exact⟨_,_,_,h2,λH' hA K'=>by
      unfold u9;simp only;rw[hA id (by simp),bf];simp only
      rw[hp,G0];simp only[av];rw[e1,e2]⟩
    ·rw[hp,G0]at h
     simp only[av,aq]at h
     obtain⟨z,ups,h1,e1⟩:=ZJ h
     obtain⟨υ',y,h2,e2⟩:=gU h1
     obtain⟨z',h3,e3⟩:=dF h2
     exact⟨_,_,_,h3,λH' hA K'=>by
      unfold u9;simp only;rw[hA id (by simp),bf];simp only
      rw[hp,G0];simp only[av,aq];rw[e1 H' (hA j (by simp)),e2,e3]⟩
   ·rw[hp]at h
    simp only[aq]at h
    obtain⟨h1,e1⟩:=eC h
    exact⟨_,_,_,h1,λH' hA K'=>by
     unfold u9;simp only;rw[hA id (by simp),bf];simp only
     rw[hp];simp only[aq];rw[e1]⟩
  ·rename_i vD
   obtain⟨z,h1,e1⟩:=VZ h
   refine⟨_,_,_,h1,λH' hA K'=> ?_⟩
   unfold u9;simp only;rw[hA id (by simp)]
   split
   ·rename_i bf;exact absurd bf (vD _ _ _ _)
   ·exact e1 H' (hA id (by simp)) K'
 ·rename_i vD
  obtain⟨v,rd,ups,h1,e1⟩:=VY h
  refine⟨v,rd,ups,h1,λH' hA K'=> ?_⟩
  have:u9 τ a H' K'=kU a H' fun υ y rd=>c7 υ τ y λz=>K' (.val τ z) rd []:=by
   unfold u9
   cases a<;>first|rfl|exact absurd rfl (vD _ _)
  rw[this]
  exact e1 H' hA K'
theorem MQ{τ:Ty}{id k:Nat}{e:Ty}{q:List Step}{υ:Ty}{x:υ.den}{H:Nat→Option bg}{K:jb α}(h:Cj τ id k e q υ x H K=some r):
  ∃v ups,K v [id,k] ups=some r∧ ∀H',H' k=H k→ ∀K':jb α,Cj τ id k e q υ x H' K'=K' v [id,k] ups:=by
 unfold Cj at h
 split at h
 ·rename_i bf
  obtain⟨h1,e1⟩:=kd h
  obtain⟨h2,e2⟩:=kd h1
  obtain⟨z,h3,e3⟩:=oK h2
  exact⟨_,_,h3,λH' hA K'=>by unfold Cj;rw[hA,bf];simp only;rw[e1,e2,e3]⟩
 ·cases h
theorem Bu{τ:Ty}{id:Nat}{p:List Step}{v:bD}{H:Nat→Option bg}{K:jb α}(h:lX τ (.jn id p) v H K=some r):
  ∃u rd ups,id∈rd∧K u rd ups=some r∧ ∀H',Ag rd H H'→ ∀K':jb α,lX τ (.jn id p) v H' K'=K' u rd ups:=by
 unfold lX at h
 simp only at h
 obtain⟨y,rd,ups,h1,e1⟩:=oL h
 split at h1
 ·rename_i bf
  obtain⟨z,h2,e2⟩:=oK h1
  exact⟨_,_,_,by simp,h2,λH' hA K'=>by
   unfold lX;simp only
   rw[e1 H' (λi hi=>hA i (aZ _ hi))]
   rw[hA _ (by simp),bf];simp only;rw[e2]⟩
 ·rename_i bf
  split at h1
  ·obtain⟨h2,e2⟩:=tz h1
   obtain⟨z,h3,e3⟩:=oK h2
   exact⟨_,_,_,by simp,h3,λH' hA K'=>by
    unfold lX;simp only
    rw[e1 H' (λi hi=>hA i (aZ _ hi))]
    rw[hA _ (by simp),bf];simp only;rw[e2,e3]⟩
  ·cases h1
 ·cases h1
theorem Bv{E:Env}{τ:Ty}{a v:bD}{H:Nat→Option bg}{K:jb α}(h:jZ E τ a v H K=some r):
  ∃u rd ups,K u rd ups=some r∧ ∀H',Ag rd H H'→ ∀K':jb α,jZ E τ a v H' K'=K' u rd ups:=by
 have h0:=h
 unfold jZ at h
 simp only at h
 split at h
 ·rename_i id p
  split at h
  ·rename_i υ x bf
   split at h
   ·rename_i q e k sS
    cases hp:Me p q
    ·rw[hp]at h
     simp only[av]at h
     obtain⟨u,rd,ups,hi,h1,e1⟩:=Bu h
     refine⟨u,rd,ups,h1,λH' hA K'=> ?_⟩
     unfold jZ;simp only;rw[hA id hi,bf];simp only;rw[sS];simp only;rw[hp];simp only[av]
     exact e1 H' hA K'
    ·rw[hp]at h
     simp only[aq]at h
     obtain⟨u,ups,h1,e1⟩:=MQ h
     refine⟨u,_,ups,h1,λH' hA K'=> ?_⟩
     unfold jZ;simp only;rw[hA id (by simp),bf];simp only;rw[sS];simp only;rw[hp];simp only[aq]
     exact e1 H' (hA k (by simp)) K'
   ·rename_i vD
    obtain⟨u,rd,ups,hi,h1,e1⟩:=Bu h
    refine⟨u,rd,ups,h1,λH' hA K'=> ?_⟩
    unfold jZ;simp only;rw[hA id hi,bf];simp only
    exact e1 H' hA K'
  ·rename_i υ x q j bf
   have zY:(lV true v H τ λy rd ups=>vp τ y p υ x λz=>K .any (id::rd) (ups++[(id,some (cond (xR p q) (.obj υ z) (.gh υ z q j)))]))=some r→
     ∃u rd ups,id∈rd∧K u rd ups=some r∧ ∀H',Ag rd H H'→ ∀K':jb α,(lV true v H' τ λy rd ups=>vp τ y p υ x λz=>K' .any (id::rd) (ups++[(id,some (cond (xR p q) (.obj υ z) (.gh υ z q j)))]))=K' u rd ups:=by
    intro h
    obtain⟨y,rd,ups,h1,e1⟩:=oL h
    obtain⟨z,h2,e2⟩:=oK h1
    exact⟨_,_,_,by simp,h2,λH' hA K'=>by rw[e1 H' (λi hi=>hA i (aZ _ hi)),e2]⟩
   split at h
   ·rename_i q' e k sS
    cases hp:(Me p q&&Me q q')
    ·rw[hp]at h
     simp only[av]at h
     obtain⟨u,rd,ups,hi,h1,e1⟩:=zY h
     refine⟨u,rd,ups,h1,λH' hA K'=> ?_⟩
     unfold jZ;simp only;rw[hA id hi,bf];simp only;rw[sS];simp only;rw[hp];simp only[av]
     exact e1 H' hA K'
    ·rw[hp]at h
     simp only[aq]at h
     obtain⟨u,ups,h1,e1⟩:=MQ h
     refine⟨u,_,ups,h1,λH' hA K'=> ?_⟩
     unfold jZ;simp only;rw[hA id (by simp),bf];simp only;rw[sS];simp only;rw[hp];simp only[aq]
     exact e1 H' (hA k (by simp)) K'
   ·rename_i vD
    obtain⟨u,rd,ups,hi,h1,e1⟩:=zY h
    refine⟨u,rd,ups,h1,λH' hA K'=> ?_⟩
    unfold jZ;simp only;rw[hA id hi,bf];simp only
    exact e1 H' hA K'
  ·rename_i arc ard
   obtain⟨u,rd,ups,hi,h1,e1⟩:=Bu h
   refine⟨u,rd,ups,h1,λH' hA K'=> ?_⟩
   unfold jZ;simp only;rw[hA id hi]
   split
   ·rename_i bf;exact absurd bf (arc _ _)
   ·rename_i bf;exact absurd bf (ard _ _ _ _)
   ·exact e1 H' hA K'
 ·rename_i vD
  obtain⟨u,rd,ups,h1,e1⟩:=Tl h
  refine⟨u,rd,ups,h1,λH' hA K'=> ?_⟩
  have:jZ E τ a v H' K'=lX τ a v H' K':=by
   unfold jZ
   cases a<;>first|rfl|exact absurd rfl (vD _ _)
  rw[this]
  exact e1 H' hA K'
theorem Tm{E:Env}{τ:Ty}{a v:bD}{H:Nat→Option bg}{K:jb α}(h:sP E τ a v H K=some r):
  ∃u rd ups,K u rd ups=some r∧ ∀H',Ag rd H H'→ ∀K':jb α,sP E τ a v H' K'=K' u rd ups:=by
 unfold sP at h
 split at h
 ·rename_i id υ y n
  split at h
  ·rename_i m e sS
   cases EN:Nat.beq m n
   ·rw[EN]at h
    simp only[av]at h
    obtain⟨u,rd,ups,h1,e1⟩:=Bv h
    exact⟨u,rd,ups,h1,λH' hA K'=>by unfold sP;simp only;rw[sS];simp only;rw[EN];simp only[av];exact e1 H' hA K'⟩
   ·rw[EN]at h
    simp only[aq]at h
    obtain⟨h1,e1⟩:=kd h
    obtain⟨υ',h2,e2⟩:=Bt h1
    obtain⟨h3,e3⟩:=kd h2
    obtain⟨h4,e4⟩:=xw h3
    exact⟨_,_,_,h4,λH' hA K'=>by unfold sP;simp only;rw[sS];simp only;rw[EN];simp only[aq];rw[e1,e2 H' (hA _ (by simp)),e3,e4 H' (hA _ (by simp))]⟩
  ·rename_i vD
   obtain⟨u,rd,ups,h1,e1⟩:=Bv h
   refine⟨u,rd,ups,h1,λH' hA K'=> ?_⟩
   unfold sP;simp only
   exact e1 H' hA K'
 ·rename_i vD
  obtain⟨u,rd,ups,h1,e1⟩:=Bv h
  refine⟨u,rd,ups,h1,λH' hA K'=> ?_⟩
  unfold sP
  split
  ·exact absurd rfl (vD _ _ _ _ rfl)
  ·exact e1 H' hA K'
theorem RG{H:Nat→Option bg}{id:Nat}{τ:Ty}{x:τ.den}{q:List Step}{e:Ty}{K:jb α}(h:Dd H id τ x q e K=some r):Pts (λH K=>Dd H id τ x q e K) H K r:=by
 obtain⟨h1,h2,h3⟩:=EM h
 exact⟨_,_,_,h3,λH' hA K'=>by unfold Dd qN;simp only;rw[hA id (by simp),h1,hA (id+1) (by simp),h2]⟩
theorem ahn{E:Env}{o:Oper}{ρ:Operand→bD}{H:Nat→Option bg}{K:jb α}(h:sZ E o ρ H K=some r):
  ∃v rd ups,K v rd ups=some r∧ ∀ρ' H',(∀x∈o.op.operands,ρ' x=ρ x)→Ag rd H H'→ ∀K':jb α,sZ E o ρ' H' K'=K' v rd ups:=by
 obtain⟨dst,op,type,pos,after,guard⟩:=o
 unfold sZ at h
 simp only at h
 have ZK: ∀{ρ':Operand→bD} (xs:List Operand),(∀x∈xs,ρ' x=ρ x)→xs.map ρ'=xs.map ρ:=λxs hx=>qz hx
 have Qa: ∀{ρ':Operand→bD} (ps:Array (Nat×Operand)),(∀x∈ps.map (·.2),ρ' x=ρ x)→partsOf ρ' ps=partsOf ρ ps:=λps hp=>by
  unfold partsOf
  exact qz λp hm=>by rw[hp p.2 (Array.mem_map.2 ⟨p,by simpa using hm,rfl⟩)]
 have aho: ∀{ρ':Operand→bD} (x:Option Operand),(∀y∈x,ρ' y=ρ y)→x.map ρ'=x.map ρ:=λx hx=>by
  cases x with
  |none=>rfl
  |some x=>simp[hx x rfl]
 split at h
 ·
  rename_i x
  exact⟨_,_,_,h,fun ρ' H' hx _ K'=>by unfold sZ;simp only;rw[hx x (by simp[Op.operands])]⟩
 ·rename_i x
  exact⟨_,_,_,h,fun ρ' H' hx _ K'=>by unfold sZ;simp only;rw[hx x (by simp[Op.operands])]⟩
 ·rename_i x y z
  split at h
  ·rename_i t hx
   cases t
   ·exact⟨_,_,_,(h:K (ρ z) [] []=some r),fun ρ' H' oX _ K'=>by unfold sZ;simp only;rw[oX x (by simp[Op.operands]),hx,oX z (by simp[Op.operands])];rfl⟩
   ·exact⟨_,_,_,(h:K (ρ y) [] []=some r),fun ρ' H' oX _ K'=>by unfold sZ;simp only;rw[oX x (by simp[Op.operands]),hx,oX y (by simp[Op.operands])];rfl⟩
  ·cases h
 ·
  split at h
  ·rename_i τ ht
   split at h
   ·rename_i q e sS
    obtain⟨v,rd,ups,h1,e1⟩:=RG h
    exact⟨_,_,_,h1,fun ρ' H' hx hA K'=>by unfold sZ;simp only;rw[ht];simp only;rw[sS];exact e1 H' hA K'⟩
   ·rename_i sS
    obtain⟨h1,e1⟩:=xw h
    exact⟨_,_,_,h1,fun ρ' H' hx hA K'=>by unfold sZ;simp only;rw[ht];simp only;rw[sS];simp only;rw[e1 H' (hA _ (by simp))]⟩
  ·cases h
 ·
  rename_i t x
  split at h
  ·rename_i τ ht
   have hold:(lV true (ρ x) H τ λy rd ups=>qN H (16*dst.getD 0) (.obj τ y) (K (.jn (16*dst.getD 0) []) (16*dst.getD 0::rd) (ups++[(16*dst.getD 0,some (.obj τ y))])))=some r→
     Pts (λH K=>lV true (ρ x) H τ λy rd ups=>qN H (16*dst.getD 0) (.obj τ y) (K (.jn (16*dst.getD 0) []) (16*dst.getD 0::rd) (ups++[(16*dst.getD 0,some (.obj τ y))]))) H K r:=by
    intro h
    obtain⟨y,rd,ups,h1,e1⟩:=oL h
    obtain⟨h2,e2⟩:=xw h1
    exact⟨_,_,_,h2,λH' hA K'=>by simp only;rw[e1 H' (λi hi=>hA i (aZ _ hi)),e2 H' (hA _ (by simp))]⟩
   split at h
   ·rename_i m e υ y n sS Tn
    cases EN:Nat.beq m n
    ·rw[EN]at h
     obtain⟨v,rd,ups,h1,e1⟩:=hold h
     refine⟨_,_,_,h1,fun ρ' H' hx hA K'=> ?_⟩
     unfold sZ;simp only;rw[ht];simp only
     rw[hx x (by simp[Op.operands]),sS,Tn];simp only
     rw[EN]
     have:=e1 H' hA K'
     rw[Tn]at this
     exact this
    ·rw[EN]at h
     simp only[aq]at h
     obtain⟨z,h1,e1⟩:=dF h
     obtain⟨v,rd,ups,h2,e2⟩:=RG h1
     refine⟨_,_,_,h2,fun ρ' H' hx hA K'=> ?_⟩
     unfold sZ;simp only;rw[ht];simp only
     rw[hx x (by simp[Op.operands]),sS,Tn];simp only
     rw[EN];simp only[aq]
     rw[e1]
     exact e2 H' hA K'
   ·rename_i vD
    obtain⟨v,rd,ups,h1,e1⟩:=hold h
    refine⟨_,_,_,h1,fun ρ' H' hx hA K'=> ?_⟩
    unfold sZ;simp only;rw[ht];simp only
    rw[hx x (by simp[Op.operands])]
    split
    ·rename_i sS Tn;exact absurd Tn (vD _ _ _ _ _ sS)
    ·exact e1 H' hA K'
  ·cases h
 ·
  rename_i t ps
  split at h
  ·rename_i n e ht
   obtain⟨l,rd,ups,h1,_,e1⟩:=E4 h
   exact⟨_,_,_,h1,fun ρ' H' hx hA K'=>by unfold sZ;simp only;rw[ht];simp only;rw[Qa ps (λx oX=>hx x (by simpa [Op.operands]using oX)),e1 H' hA]⟩
  ·rename_i τ hna ht
   obtain⟨h0,e0⟩:=eC h
   obtain⟨l,rd,ups,h1,_,e1⟩:=Ik h0
   refine⟨_,_,_,h1,fun ρ' H' hx hA K'=> ?_⟩
   unfold sZ;simp only;rw[ht]
   have: ∀{β:Type} (A:Nat→Ty→β) (B:Ty→β),(match some τ with|some (.arr n e)=>A n e|some τ=>B τ|none=>B τ)=B τ:=by
    intro β A B
    cases τ<;>first|rfl|exact absurd rfl (hna _ _)
   cases τ with
   |arr n e=>exact absurd rfl (hna n e)
   |_=>
    simp only
    rw[Qa ps (λx oX=>hx x (by simpa [Op.operands]using oX)),e0,e1 H' hA]
  ·cases h
 ·
  rename_i t n ps
  split at h
  ·rename_i e ht
   obtain⟨h0,e0⟩:=eC h
   obtain⟨h1,e1⟩:=xw h0
   obtain⟨l,rd,ups,h2,_,e2⟩:=E4 h1
   exact⟨_,_,_,h2,fun ρ' H' hx hA K'=>by
    unfold sZ;simp only;rw[ht];simp only
    rw[e0,e1 H' (hA _ (by simp)),Qa ps (λx oX=>hx x (by simpa [Op.operands]using oX)),e2 H' (λi hi=>hA i (aZ _ hi))]⟩
  ·cases h
 ·
  rename_i t x
  split at h
  ·rename_i τ ht
   obtain⟨v,rd,ups,h1,e1⟩:=V0 h
   exact⟨_,_,_,h1,fun ρ' H' hx hA K'=>by unfold sZ;simp only;rw[ht];simp only;rw[hx x (by simp[Op.operands]),e1 H' hA]⟩
  ·cases h
 ·
  rename_i t x y
  split at h
  ·rename_i τ ht
   obtain⟨u,rd,ups,h1,e1⟩:=Tm h
   exact⟨_,_,_,h1,fun ρ' H' hx hA K'=>by unfold sZ;simp only;rw[ht];simp only;rw[hx x (by simp[Op.operands]),hx y (by simp[Op.operands]),e1 H' hA]⟩
  ·cases h
 ·
  rename_i x
  split at h
  ·rename_i id p hx
   exact⟨_,_,_,h,fun ρ' H' oX _ K'=>by unfold sZ;simp only;rw[oX x (by simp[Op.operands]),hx]⟩
  ·rename_i τ z hx
   exact⟨_,_,_,h,fun ρ' H' oX _ K'=>by unfold sZ;simp only;rw[oX x (by simp[Op.operands]),hx]⟩
  ·cases h
 ·
  rename_i b t x y t'
  obtain⟨τ,x1,h1,e1⟩:=RF h
  obtain⟨υ,y1,h2,e2⟩:=RF h1
  obtain⟨v,h3,e3⟩:=VT h2
  exact⟨_,_,_,h3,fun ρ' H' hx _ K'=>by unfold sZ;simp only;rw[hx x (by simp[Op.operands]),hx y (by simp[Op.operands]),e1,e2,e3]⟩
 ·
  rename_i u t x
  obtain⟨v,h1,e1⟩:=ZG h
  exact⟨_,_,_,h1,fun ρ' H' hx _ K'=>by unfold sZ;simp only;rw[hx x (by simp[Op.operands]),e1]⟩
 ·
  rename_i s d x
  split at h
  ·rename_i τ k hs hd
   obtain⟨i,n,h1,e1⟩:=su h
   exact⟨_,_,_,h1,fun ρ' H' hx _ K'=>by unfold sZ;simp only;rw[hs,hd];simp only;rw[hx x (by simp[Op.operands]),e1]⟩
  ·cases h
 ·
  rename_i f first caps
  obtain⟨h1,e1⟩:=eC h
  obtain⟨cs,rd,ups,h3,e3⟩:=E6 h1
  exact⟨_,_,_,h3,fun ρ' H' hx hA K'=>by unfold sZ;simp only;rw[ZK caps.toList (λx oX=>hx x (by simp[Op.operands];exact .inr (by simpa using oX))),e1,e3 H' hA]⟩
 ·
  rename_i t x y
  split at h
  ·rename_i e ht
   obtain⟨i,n,h1,e1⟩:=su h
   obtain⟨i',n',h2,e2⟩:=su h1
   obtain⟨h3,e3⟩:=eC h2
   obtain⟨h4,e4⟩:=xw h3
   exact⟨_,_,_,h4,fun ρ' H' hx hA K'=>by
    unfold sZ;simp only;rw[ht];simp only
    rw[hx x (by simp[Op.operands]),e1,hx y (by simp[Op.operands]),e2,e3,e4 H' (hA _ (by simp))]⟩
  ·cases h
 ·
  rename_i t x lo hi mx
  split at h
  ·rename_i τ ht
   obtain⟨v,rd,ups,h1,e1⟩:=Tj h
   exact⟨_,_,_,h1,fun ρ' H' hx hA K'=>by
    unfold sZ;simp only;rw[ht];simp only
    rw[hx x (by simp[Op.operands]),aho lo (λy hy=>hx y (by simp at hy;simp[Op.operands,hy])),aho hi (λy hy=>hx y (by simp at hy;simp[Op.operands,hy])),aho mx (λy hy=>hx y (by simp at hy;simp[Op.operands,hy])),e1 H' hA]⟩
  ·cases h
 ·
  rename_i t x n
  split at h
  ·rename_i τ ht
   split at h
   ·rename_i id p hx
    obtain⟨υ,h1,e1⟩:=Bt h
    obtain⟨h2,e2⟩:=kd h1
    obtain⟨υ',y',h3,e3⟩:=xv h2
    obtain⟨h4,e4⟩:=tz h3
    exact⟨_,_,_,h4,fun ρ' H' oX hA K'=>by
     unfold sZ;simp only;rw[ht];simp only
     rw[oX x (by simp[Op.operands]),hx];simp only
     rw[e1 H' (hA _ (by simp)),e2,e3,e4]⟩
   ·rename_i υ z hx
    obtain⟨h2,e2⟩:=kd h
    obtain⟨υ',y',h3,e3⟩:=xv h2
    obtain⟨h4,e4⟩:=tz h3
    exact⟨_,_,_,h4,fun ρ' H' oX hA K'=>by
     unfold sZ;simp only;rw[ht];simp only
     rw[oX x (by simp[Op.operands]),hx];simp only
     rw[e2,e3,e4]⟩
   ·cases h
  ·cases h
 ·
  rename_i t x n
  split at h
  ·rename_i τ ht
   split at h
   ·rename_i υ z hx
    obtain⟨h2,e2⟩:=kd h
    obtain⟨υ',y',h3,e3⟩:=xv h2
    exact⟨_,_,_,h3,fun ρ' H' oX hA K'=>by
     unfold sZ;simp only;rw[ht];simp only
     rw[oX x (by simp[Op.operands]),hx];simp only
     rw[e2,e3]⟩
   ·cases h
  ·cases h
 ·
  rename_i t x i
  split at h
  ·rename_i τ ht
   obtain⟨v,rd,ups,h1,e1⟩:=Hy h
   exact⟨_,_,_,h1,fun ρ' H' hx hA K'=>by unfold sZ;simp only;rw[ht];simp only;rw[hx x (by simp[Op.operands]),hx i (by simp[Op.operands]),e1 H' hA]⟩
  ·cases h
 ·
  rename_i t x i
  split at h
  ·rename_i τ ht
   obtain⟨v,h1,e1⟩:=Tk h
   exact⟨_,_,_,h1,fun ρ' H' hx hA K'=>by unfold sZ;simp only;rw[ht];simp only;rw[hx x (by simp[Op.operands]),hx i (by simp[Op.operands]),e1]⟩
  ·cases h
 ·
  rename_i x i
  split at h
  ·rename_i vs hx
   split at h
   ·rename_i v hv
    exact⟨_,_,_,h,fun ρ' H' oX hA K'=>by unfold sZ;simp only;rw[oX x (by simp[Op.operands]),hx];simp only;rw[hv]⟩
   ·cases h
  ·cases h
 ·
  rename_i cl
  obtain⟨callee,args,ts⟩:=cl
  simp only at h
  have yc: ∀{ρ':Operand→bD},(∀x∈(Op.call {callee,args,argTypes:=ts}).operands,ρ' x=ρ x)→ ∀x∈args.toList,ρ' x=ρ x:=
   λhx x oX=>hx x (by simp[Op.operands,Call.operands];exact .inr (by simpa using oX))
  split at h
  ·split at h
   ·rename_i x τ ha ht
    obtain⟨v,rd,ups,h1,e1⟩:=ZH h
    exact⟨_,_,_,h1,fun ρ' H' hx hA K'=>by unfold sZ;simp only;rw[ha,ht];simp only;rw[yc hx x (by rw[ha];simp),e1 H' hA]⟩
   ·cases h
  ·split at h
   ·rename_i x y t t' ha ht
    split at h
    ·rename_i e hte
     obtain⟨h1,e1⟩:=eC h
     obtain⟨h2,e2⟩:=xw h1
     obtain⟨v,rd,ups,h3,bf,e3⟩:=ZI h2
     exact⟨_,_,_,h3,fun ρ' H' hx hA K'=>by
      unfold sZ;simp only;rw[ha,ht];simp only;rw[hte];simp only
      rw[e1,e2 H' (hA _ bf),yc hx x (by rw[ha];simp),yc hx y (by rw[ha];simp),e3 H' hA]⟩
    ·cases h
   ·cases h
  ·split at h
   ·rename_i x xs ha
    obtain⟨v,h1,e1⟩:=P9 h
    exact⟨_,_,_,h1,fun ρ' H' hx hA K'=>by
     unfold sZ;simp only;rw[ha];simp only
     rw[yc hx x (by rw[ha];simp),ZK xs (λy hy=>yc hx y (by rw[ha];simp[hy])),e1]⟩
   ·cases h
  ·split at h
   ·rename_i x xs ha
    obtain⟨v,h1,e1⟩:=P9 h
    exact⟨_,_,_,h1,fun ρ' H' hx hA K'=>by
     unfold sZ;simp only;rw[ha];simp only
     rw[yc hx x (by rw[ha];simp),ZK xs (λy hy=>yc hx y (by rw[ha];simp[hy])),e1]⟩
   ·cases h
  ·rename_i g
   split at h
   ·rename_i f caps hg
    obtain⟨v,rd,ups,h1,e1⟩:=VW h
    exact⟨_,_,_,h1,fun ρ' H' hx hA K'=>by
     unfold sZ;simp only
     rw[hx g (by simp[Op.operands,Call.operands]),hg];simp only
     rw[ZK args.toList (yc hx),e1 H' hA]⟩
   ·cases h
  ·cases h
 ·cases h
end VM
end
section
namespace VM
open Go
variable{P:Program}{E:Env}{o:Oper}{a:Act}{w:World}{M:Nat→Prop}{ν:Nat→Value}{σ:St}{c:Ctx}{α:Type}{r:α}{next:Act→World→Prop}{Q:Exit→Act→World→Prop}
structure Out where
 dst:Option Nat
 v:bD
 rd:List Nat
 ups:iX
def Out.app(u:Out)(σ:St):St:=(σ.vU u.ups).vo u.dst u.v
theorem MR(σ:St)(d:Nat)(v:bD):(σ.vo (some d) v).T d=v:=uj σ d v
theorem To(σ:St){d:Option Nat}{t:Nat}(v:bD)(h:d≠some t):(σ.vo d v).T t=σ.T t:=by
 cases d with
 |none=>rfl
 |some d=>exact Ab σ v (λe=>h (by rw[e]))
theorem ahp(σ:St)(d:Option Nat)(v:bD):(σ.vo d v).H=σ.H:=by cases d<;>rfl
theorem Qb{u:Out}{t:Nat}(h:u.dst=some t)(σ:St):(u.app σ).T t=u.v:=by unfold Out.app;rw[h];exact MR _ _ _
theorem V1{u:Out}{t:Nat}(h:u.dst≠some t)(σ:St):(u.app σ).T t=σ.T t:=by unfold Out.app;rw[To _ _ h,P1]
theorem al2(u:Out)(σ:St):(u.app σ).H=c4 σ.H u.ups:=by unfold Out.app;rw[ahp,P0]
def Pt(E:Env)(ops:List Oper)(o:Oper)(σ:St)(u:Out)(α:Type):Prop:=
 u.dst=o.dst∧ ∀σ':St,(∀t∈names ops o,σ'.T t=σ.T t)→Ag u.rd σ.H σ'.H→ ∀K':St→List Nat→List Nat→Option α,ti E ops o σ' K'=K' (u.app σ') u.rd (u.ups.map (·.1))
theorem V2{ops:List Oper}{K:St→List Nat→List Nat→Option α}(h:ti E ops o σ K=some r): ∃u:Out,K (u.app σ) u.rd (u.ups.map (·.1))=some r∧Pt E ops o σ u α:=by
 unfold ti at h
 obtain⟨h,e0⟩:=eC h
 have are: ∀σ':St,(∀t∈names ops o,σ'.T t=σ.T t)→ ∀x∈o.op.operands,σ'.ρ x=σ.ρ x:=by
  intro σ' hT x hx
  cases x with
  |tmp t=>
   refine hT t ?_
   unfold names
   refine cU _ (List.mem_filterMap.2 ⟨.tmp t,by simpa using hx,rfl⟩)
  |_=>rfl
 have dE:sZ E o σ.ρ σ.H (λv rd ups=>K ((σ.vU ups).vo o.dst v) rd (ups.map (·.1)))=some r→
   ∃u:Out,K (u.app σ) u.rd (u.ups.map (·.1))=some r∧u.dst=o.dst∧ ∀σ':St,(∀t∈names ops o,σ'.T t=σ.T t)→Ag u.rd σ.H σ'.H→ ∀K':St→List Nat→List Nat→Option α,
    sZ E o σ'.ρ σ'.H (λv rd ups=>K' ((σ'.vU ups).vo o.dst v) rd (ups.map (·.1)))=K' (u.app σ') u.rd (u.ups.map (·.1)):=by
  intro h
  obtain⟨v,rd,ups,h1,h2⟩:=ahn h
  exact⟨⟨o.dst,v,rd,ups⟩,h1,rfl,fun σ' hT hA K'=>h2 σ'.ρ σ'.H (are σ' hT) hA _⟩
 have ss: ∀{K:St→List Nat→List Nat→Option α},K (σ.vo o.dst .Vp) [] []=some r→ ∃u:Out,K (u.app σ) u.rd (u.ups.map (·.1))=some r∧u.dst=o.dst∧ ∀σ':St,∀K':St→List Nat→List Nat→Option α,K' (σ'.vo o.dst .Vp) [] []=K' (u.app σ') u.rd (u.ups.map (·.1)):=
  λh=>⟨⟨o.dst,.Vp,[],[]⟩,h,rfl,λ_ _=>rfl⟩
 simp only at h
 split at h
 ·rename_i hg
  obtain⟨u,h1,h2,h3⟩:=dE h
  refine⟨u,h1,h2,fun σ' hT hA K'=> ?_⟩
  unfold ti
  rw[e0]
  simp only
  rw[hg]
  exact h3 σ' hT hA K'
 ·rename_i j want hg
  split at h
  ·cases h
  ·rename_i t ht
   have Tp:t∈names ops o:=by
    unfold names
    refine dA _ ?_
    rw[hg]
    simp[ht]
   split at h
   ·rename_i b hb
    have pO: ∀σ':St,σ'.T t=σ.T t→σ'.put t (.val .bool b)=σ':=fun σ' h'=>by
     rw[←hb,←h'];exact E0 σ' t
    cases want<;>cases b
    ·obtain⟨u,h1,h2,h3⟩:=dE (by
      have:=pO σ rfl
      rw[this]at h;exact h)
     refine⟨u,h1,h2,fun σ' hT hA K'=> ?_⟩
     unfold ti
     rw[e0];simp only;rw[hg];simp only;rw[ht];simp only;rw[hT t Tp,hb];simp only
     rw[pO σ' (hT t Tp)]
     exact h3 σ' hT hA K'
    ·obtain⟨u,h1,h2,h3⟩:=ss (by
      have:=pO σ rfl
      rw[this]at h;exact h)
     refine⟨u,h1,h2,fun σ' hT hA K'=> ?_⟩
     unfold ti
     rw[e0];simp only;rw[hg];simp only;rw[ht];simp only;rw[hT t Tp,hb];simp only
     rw[pO σ' (hT t Tp)]
     exact h3 σ' K'
    ·obtain⟨u,h1,h2,h3⟩:=ss (by
      have:=pO σ rfl
      rw[this]at h;exact h)
     refine⟨u,h1,h2,fun σ' hT hA K'=> ?_⟩
     unfold ti
     rw[e0];simp only;rw[hg];simp only;rw[ht];simp only;rw[hT t Tp,hb];simp only
     rw[pO σ' (hT t Tp)]
     exact h3 σ' K'
    ·obtain⟨u,h1,h2,h3⟩:=dE (by
      have:=pO σ rfl
      rw[this]at h;exact h)
     refine⟨u,h1,h2,fun σ' hT hA K'=> ?_⟩
     unfold ti
     rw[e0];simp only;rw[hg];simp only;rw[ht];simp only;rw[hT t Tp,hb];simp only
     rw[pO σ' (hT t Tp)]
     exact h3 σ' hT hA K'
   ·rename_i hb
    obtain⟨u,h1,h2,h3⟩:=ss h
    refine⟨u,h1,h2,fun σ' hT hA K'=> ?_⟩
    unfold ti
    rw[e0];simp only;rw[hg];simp only;rw[ht];simp only;rw[hT t Tp,hb]
    exact h3 σ' K'
   ·cases h
theorem RH{ops:List Oper}: ∀(l:List Oper) (i:Nat) (σ:St) (lg:Log) (K:St→Log→Option α),SY E ops l i σ lg K=some r→
  ∃us:List Out,us.length=l.length∧(∀j u o,us[j]? =some u→l[j]? =some o→Pt E ops o ((us.take j).foldl (fun σ u=>u.app σ) σ) u α)∧
   ∃lg',K (us.foldl (fun σ u=>u.app σ) σ) lg'=some r∧(∀x∈lg,x∈lg')∧ ∀j u,us[j]? =some u→(i+j,u.rd,u.ups.map (·.1))∈lg'
 |[],i,σ,lg,K,h=>⟨[],rfl,λj u o hj=>by simp at hj,lg,h,λ_ h=>h,λj u hj=>by simp at hj⟩
 |o::l,i,σ,lg,K,h=>by
  unfold SY at h
  obtain⟨u,h1,h2⟩:=V2 h
  obtain⟨us,hl,hpt,lg',hK,Y3,hj⟩:=RH l (i+1) (u.app σ) _ K h1
  refine⟨u::us,by simp[hl],λj u' o' hu ho=> ?_,lg',hK,λx hx=>Y3 x (aZ _ hx),λj u' hu=> ?_⟩
  ·cases j with
   |zero=>simp at hu ho;subst hu ho;exact h2
   |succ j=>exact hpt j u' o' (by simpa using hu) (by simpa using ho)
  ·cases j with
   |zero=>simp at hu;subst hu;exact Y3 _ bm
   |succ j=>
    have:=hj j u' (by simpa using hu)
    rwa [show i+1+j=i+(j+1)from by omega]at this
theorem Tq{k:Nat}{ups:iX}(h:k∈keys ups)(H H':Nat→Option bg):c4 H ups k=c4 H' ups k:=by
 induction ups generalizing H H' with
 |nil=>simp[keys]at h
 |cons u r ih=>
  show c4 (bZ H u.1 u.2) r k=c4 (bZ H' u.1 u.2) r k
  by_cases hk:k∈keys r
  ·exact ih hk _ _
  ·have hku:k=u.1:=by
    simp only[keys,bX,aW]at h hk
    exact h.resolve_right hk
   rw[ly hk,ly hk,hku,ax,ax]
structure oZ(us:List Out)(σ0:St)(S:Nat→Prop)(σ:St):Prop where
 T: ∀t,(∃j u,us[j]? =some u∧S j∧u.dst=some t∧(∀j' u',us[j']? =some u'→S j'→u'.dst=some t→j'≤j)∧σ.T t=u.v)∨((∀j u,us[j]? =some u→S j→u.dst≠some t)∧σ.T t=σ0.T t)
 H: ∀k,(∃j u,us[j]? =some u∧S j∧k∈keys u.ups∧(∀j' u',us[j']? =some u'→S j'→k∈keys u'.ups→j'≤j)∧σ.H k=c4 σ0.H u.ups k)∨((∀j u,us[j]? =some u→S j→k∉keys u.ups)∧σ.H k=σ0.H k)
theorem oZ.V3{us:List Out}{σ0 σ σ':St}{S S':Nat→Prop}(h:oZ us σ0 S σ)(h':oZ us σ0 S' σ'){t:Nat}(hs: ∀j u,us[j]? =some u→u.dst=some t→(S j↔S' j)):σ.T t=σ'.T t:=by
 rcases h.T t with⟨j,u,h1,h2,h3,h4,h5⟩|⟨h1,h2⟩<;>rcases h'.T t with⟨j',u',py,yt,Qc,h4',h5'⟩|⟨py,yt⟩
 ·have e1:=h4 j' u' py ((hs j' u' py Qc).2 yt) Qc
  have e2:=h4' j u h1 ((hs j u h1 h3).1 h2) h3
  have:j=j':=ω
  subst this
  rw[h1]at py;cases py
  rw[h5,h5']
 ·exact absurd h3 (py j u h1 ((hs j u h1 h3).1 h2))
 ·exact absurd Qc (h1 j' u' py ((hs j' u' py Qc).2 yt))
 ·rw[h2,yt]
theorem oZ.V4{us:List Out}{σ0 σ σ':St}{S S':Nat→Prop}(h:oZ us σ0 S σ)(h':oZ us σ0 S' σ'){k:Nat}(hs: ∀j u,us[j]? =some u→k∈keys u.ups→(S j↔S' j)):σ.H k=σ'.H k:=by
 rcases h.H k with⟨j,u,h1,h2,h3,h4,h5⟩|⟨h1,h2⟩<;>rcases h'.H k with⟨j',u',py,yt,Qc,h4',h5'⟩|⟨py,yt⟩
 ·have e1:=h4 j' u' py ((hs j' u' py Qc).2 yt) Qc
  have e2:=h4' j u h1 ((hs j u h1 h3).1 h2) h3
  have:j=j':=ω
  subst this
  rw[h1]at py;cases py
  rw[h5,h5']
 ·exact absurd h3 (py j u h1 ((hs j u h1 h3).1 h2))
 ·exact absurd Qc (h1 j' u' py ((hs j' u' py Qc).2 yt))
 ·rw[h2,yt]
theorem oZ.unique{us:List Out}{σ0 σ σ':St}{S S':Nat→Prop}(h:oZ us σ0 S σ)(h':oZ us σ0 S' σ')(hs: ∀j u,us[j]? =some u→(S j↔S' j)):σ=σ':=by
 obtain⟨T,H⟩:=σ
 obtain⟨T',H'⟩:=σ'
 congr 1
 ·funext t;exact h.V3 h' (λj u hj _=>hs j u hj)
 ·funext k;exact h.V4 h' (λj u hj _=>hs j u hj)
theorem oZ.step{us:List Out}{σ0 σ:St}{S:Nat→Prop}(h:oZ us σ0 S σ){i:Nat}{u:Out}(hi:us[i]? =some u)(hc: ∀j u',us[j]? =some u'→S j→i<j→(∀t,u.dst=some t→u'.dst≠some t)∧ ∀k∈keys u.ups,k∉keys u'.ups):
  oZ us σ0 (λj=>j=i∨S j) (u.app σ):=by
 refine⟨λt=> ?_,λk=> ?_⟩
 ·by_cases hd:u.dst=some t
  ·left
   refine⟨i,u,hi,.inl rfl,hd,λj' u' h1 h2 h3=> ?_,Qb hd σ⟩
   rcases h2 with rfl|h2
   ·exact aG _
   ·exact Nat.le_of_not_lt λe9=>(hc j' u' h1 h2 e9).1 t hd h3
  ·rw[V1 hd]
   rcases h.T t with⟨j,u1,h1,h2,h3,h4,h5⟩|⟨h1,h2⟩
   ·refine .inl ⟨j,u1,h1,.inr h2,h3,λj' u' py yt Qc=> ?_,h5⟩
    rcases yt with rfl|yt
    ·rw[hi]at py;cases py;exact absurd Qc hd
    ·exact h4 j' u' py yt Qc
   ·refine .inr ⟨λj u' py yt=> ?_,h2⟩
    rcases yt with rfl|yt
    ·rw[hi]at py;cases py;exact hd
    ·exact h1 j u' py yt
 ·rw[al2]
  by_cases hd:k∈keys u.ups
  ·left
   refine⟨i,u,hi,.inl rfl,hd,λj' u' h1 h2 h3=> ?_,Tq hd _ _⟩
   rcases h2 with rfl|h2
   ·exact aG _
   ·exact Nat.le_of_not_lt λe9=>(hc j' u' h1 h2 e9).2 k hd h3
  ·rw[ly hd]
   rcases h.H k with⟨j,u1,h1,h2,h3,h4,h5⟩|⟨h1,h2⟩
   ·refine .inl ⟨j,u1,h1,.inr h2,h3,λj' u' py yt Qc=> ?_,h5⟩
    rcases yt with rfl|yt
    ·rw[hi]at py;cases py;exact absurd Qc hd
    ·exact h4 j' u' py yt Qc
   ·refine .inr ⟨λj u' py yt=> ?_,h2⟩
    rcases yt with rfl|yt
    ·rw[hi]at py;cases py;exact hd
    ·exact h1 j u' py yt
theorem oZ.start(us:List Out)(σ0:St):oZ us σ0 (λ_=>False) σ0:=⟨λt=> .inr ⟨λ_ _ _ h=>h.elim,rfl⟩,λk=> .inr ⟨λ_ _ _ h=>h.elim,rfl⟩⟩
theorem oZ.congr{us:List Out}{σ0 σ:St}{S S':Nat→Prop}(h:oZ us σ0 S σ)(hs: ∀j,S j↔S' j):oZ us σ0 S' σ:=by
 have:S=S':=funext λj=>propext (hs j)
 rw[←this];exact h
theorem oZ.text(us:List Out)(σ0:St): ∀i,i≤us.length→oZ us σ0 (λj=>j<i) ((us.take i).foldl (fun σ u=>u.app σ) σ0)
 |0,_=>(oZ.start us σ0).congr λj=>by simp
 |i+1,hi=>by
  have ih:=oZ.text us σ0 i ω
  have hu:us[i]? =some us[i]:=bk ω
  have:=ih.step hu (λj u' _ h2 h3=>ω)
  rw[List.take_add_one,hu,List.foldl_append]
  exact this.congr λj=>by constructor<;>intro h<;>omega
end VM
end
section
namespace VM
open Go
variable{P:Program}{E:Env}{o:Oper}{a:Act}{w:World}{M:Nat→Prop}{ν:Nat→Value}{σ:St}{c:Ctx}{α:Type}{r:α}{next:Act→World→Prop}{Q:Exit→Act→World→Prop}
def Pre(S:Nat→Prop)(o:Oper):Prop:= ∀e∈o.after,Region.binds .any e=true→S e.on
theorem E7{β:Type}{l m:List β}{i:Nat}{d:β}(h:i<l.length):(l++m).getD i d=l.getD i d:=by
 simp only[List.getD,sf h]
theorem E8{β:Type}{l:List β}{x d:β}:(l++[x]).getD l.length d=x:=by
 simp[List.getD]
theorem Cx{acc:List Nat}{i:Nat}: ∀(es:List Edge) (s:Nat),(es.foldl (λs e=>cond (Region.binds .any e) (s|||2^e.on|||acc.getD e.on 0) s) s).testBit i=true→
  s.testBit i=true∨ ∃e∈es,Region.binds .any e=true∧(i=e.on∨(acc.getD e.on 0).testBit i=true)
 |[],s,h=> .inl h
 |e::es,s,h=>by
  rw[List.foldl_cons]at h
  rcases Cx es _ h with h1|⟨e',h1,h2⟩
  ·cases hb:Region.binds .any e
   ·rw[hb]at h1;exact .inl h1
   ·rw[hb]at h1
    simp only[aq,Nat.testBit_or,mY]at h1
    rcases h1 with(h1|h1)|h1
    ·exact .inl h1
    ·refine .inr ⟨e,bm,hb,.inl ?_⟩
     rw[Nat.testBit_two_pow]at h1
     simpa using (bz h1).symm
    ·exact .inr ⟨e,bm,hb,.inr h1⟩
  ·exact .inr ⟨e',aZ _ h1,h2⟩
theorem Cy{S:Nat→Prop}: ∀(l:List Oper) (acc:List Nat) (all:List Oper),all.length=acc.length+l.length→(∀j,l[j]? =all[acc.length+j]?)→
  (∀j o,all[j]? =some o→S j→Pre S o)→(∀j i,j<acc.length→S j→(acc.getD j 0).testBit i=true→S i)→
  ∀j o i,all[j]? =some o→(Pre S o∨S j)→((sQ l acc).getD j 0).testBit i=true→(j<acc.length→ ∀i,Pre S o→(acc.getD j 0).testBit i=true→S i)→S i
 |[],acc,all,hl,lx,hS,ZL,j,o,i,hj,MS,hb,V5=>by
  have e9:j<all.length:=(tW.1 hj).1
  have wm:j<acc.length:=by simp at hl;omega
  rcases MS with hp|hp
  ·exact V5 wm i hp hb
  ·exact ZL j i wm hp hb
 |p::l,acc,all,hl,lx,hS,ZL,j,o,i,hj,MS,hb,V5=>by
  unfold sQ at hb
  have hp0:all[acc.length]? =some p:=by rw[←m0 acc.length,←lx 0];rfl
  have Ts: ∀i,Pre S p→(p.after.toList.foldl (λs e=>cond (Region.binds .any e) (s|||2^e.on|||acc.getD e.on 0) s) 0).testBit i=true→S i:=by
   intro i G0 hb
   rcases Cx p.after.toList 0 hb with h1|⟨e,he,hbe,h1⟩
   ·simp at h1
   ·have hSe:=G0 e (by simpa using he) hbe
    rcases h1 with rfl|h1
    ·exact hSe
    ·by_cases e9:e.on<acc.length
     ·exact ZL e.on i e9 hSe h1
     ·rw[List.getD,gG ω]at h1;simp at h1
  refine Cy l (acc++[p.after.toList.foldl (λs e=>cond (Region.binds .any e) (s|||2^e.on|||acc.getD e.on 0) s) 0]) all (by simp at hl ⊢;omega) (λj=> ?_) hS (λj' i' Y2 hS' eY=> ?_) j o i hj MS hb (λe9 i' Rt eY=> ?_)
  ·have:=lx (j+1)
   simp only[List.getElem?_cons_succ]at this
   rw[this]
   congr 1
   simp;omega
  ·by_cases e9:j'<acc.length
   ·rw[E7 e9]at eY
    exact ZL j' i' e9 hS' eY
   ·have hje:j'=acc.length:=by simp at Y2;omega
    subst hje
    rw[E8]at eY
    exact Ts i' (hS _ p hp0 hS') eY
  ·by_cases wm:j<acc.length
   ·rw[E7 wm]at eY
    exact V5 wm i' Rt eY
   ·have hje:j=acc.length:=by simp at e9;omega
    subst hje
    rw[hp0]at hj;cases hj
    rw[E8]at eY
    exact Ts i' Rt eY
theorem forced{ops:List Oper}{S:Nat→Prop}(hS: ∀j o,ops[j]? =some o→S j→Pre S o){j i:Nat}(hj:ops[j]? =some o)(MS:Pre S o∨S j)(hb:((sQ ops []).getD j 0).testBit i=true):S i:=
 Cy ops [] ops (by simp) (λj=>by simp) hS (λj i h=>by simp at h) j o i hj MS hb (λh=>by simp at h)
theorem mA{l m:List Nat}(h:meets l m=false){x:Nat}(h1:x∈l)(h2:x∈m):False:=by
 have:meets l m=true:=by
  unfold meets
  rw[zy]
  refine⟨x,h1,?_⟩
  rw[zy]
  exact⟨x,h2,tf x⟩
 rw[h]at this;cases this
structure Rnd(c:Ctx)(E:Env)(ops:Array Oper)(us:List Out)(σ0:St)(listed:Array Bool)(a:Act)(w:World):Prop where
 size:listed.size=ops.size
 closed: ∀j o,ops.toList[j]? =some o→listed.getD j false=true→Pre (λi=>listed.getD i false=true) o
 st: ∃σ,oZ us σ0 (λj=>listed.getD j false=true) σ∧Inv c E σ a w
theorem yM{listed:Array Bool}{j:Nat}(h:j<listed.size)(d:Bool):listed.getD j d=listed.getD j false:=by
 simp[Array.getD,h]
theorem Ka(hE:tx P E){ops:Array Oper}{us:List Out}{σ0 σn:St}{α:Type}(x0:α)(hl:us.length=ops.toList.length)
  (hpt: ∀(j:Nat) (u:Out) (o:Oper),us[j]? =some u→ops.toList[j]? =some o→Pt E ops.toList o ((us.take j).foldl (fun σ u=>u.app σ) σ0) u α)
  (hn:σn=us.foldl (fun σ u=>u.app σ) σ0)
  (e9: ∀(j:Nat) (o:Oper),ops.toList[j]? =some o→ ∀e∈o.after,Region.binds .any e=true→e.on<j)
  (MT: ∀(j:Nat) (o:Oper) (i:Nat) (p:Oper),ops.toList[j]? =some o→ops.toList[i]? =some p→i<j→((sQ ops.toList []).getD j 0).testBit i=false→
   (∀d,p.dst=some d→o.dst≠some d∧d∉names ops.toList o)∧(∀d,o.dst=some d→d∉names ops.toList p))
  (Y3: ∀(j:Nat) (u:Out) (i:Nat) (v:Out),us[j]? =some u→us[i]? =some v→i<j→((sQ ops.toList []).getD j 0).testBit i=false→
   (∀k∈keys v.ups,k∉u.rd∧k∉keys u.ups)∧(∀k∈v.rd,k∉keys u.ups))
  (hq: ∀a' w',Inv c E σn a' w'→Q .normal a' w'):
  ∀(fuel:Nat) (listed:Array Bool) (a:Act) (w:World),((List.range ops.size).filter λj=> !(listed.getD j false)).length≤fuel→Rnd c E ops us σ0 listed a w→wpAny P .any ops Q fuel listed a w:=by
 have lx: ∀(listed:Array Bool) (a:Act) (w:World),Rnd c E ops us σ0 listed a w→Region.ready .any ops listed=[]→Q .normal a w:=by
  intro listed a w hR ahr
  obtain⟨hs,Mt,σ,G6,hI⟩:=hR
  have al4: ∀j,j<ops.size→listed.getD j false=true:=by
   intro j
   induction j using Nat.strongRecOn with
   |_ j ih=>
    intro hj
    by_cases hb:listed.getD j false=true
    ·exact hb
    ·exfalso
     have ho:ops[j]? =some ops[j]:=LW hj
     have:j∈Region.ready .any ops listed:=by
      rw[mem_ready]
      refine⟨by rw[yM ω];simpa using hb,_,ho,λe he hbe=> ?_⟩
      have hej:=e9 j ops[j] (by rw[gR];exact ho) e he hbe
      exact ih e.on hej ω
     rw[ahr]at this
     cases this
  have hσ:σ=σn:=by
   rw[hn]
   have ht:=oZ.text us σ0 us.length (aG _)
   rw[ix]at ht
   refine G6.unique ht λj u hj=> ?_
   have G8:j<us.length:=(tW.1 hj).1
   have hjo:j<ops.size:=by rw[hl,bH]at G8;exact G8
   exact⟨λ_=>G8,λ_=>al4 j hjo⟩
  exact hq a w (hσ▸hI)
 intro fuel
 induction fuel with
 |zero=>
  intro listed a w hf hR
  have ZM:Region.ready .any ops listed=[]:=by
   rw[LM]
   intro j hj
   rw[mem_ready]at hj
   obtain⟨h0,o,ho,_⟩:=hj
   have hjs:j<ops.size:=(kD.1 ho).1
   have G8:j<listed.size:=by rw[hR.size];exact hjs
   rw[yM G8]at h0
   have lq:j∈(List.range ops.size).filter λj=> !(listed.getD j false):=by
    rw[vO];exact⟨qG.2 hjs,by rw[h0];rfl⟩
   have:((List.range ops.size).filter λj=> !(listed.getD j false))=[]:=tV ω
   rw[this]at lq;cases lq
  exact⟨ZM,lx listed a w hR ZM⟩
 |succ fuel ih=>
  intro listed a w hf hR
  refine⟨lx listed a w hR,λi hi=> ?_⟩
  have m4:=hi
  rw[mem_ready]at m4
  obtain⟨h0,o,ho,MS⟩:=m4
  have his:i<ops.size:=(kD.1 ho).1
  have Hl:i<listed.size:=by rw[hR.size];exact his
  rw[yM Hl]at h0
  obtain⟨hs,Mt,σ,G6,hI⟩:=hR
  have Il:ops.toList[i]? =some o:=by rw[gR];exact ho
  have hiu:i<us.length:=by rw[hl,bH];exact his
  have hu:us[i]? =some us[i]:=bk hiu
  have hPt:=hpt i us[i] o hu Il
  have hSi: ¬listed.getD i false=true:=by rw[h0];simp
  have MU: ∀j p,ops.toList[j]? =some p→((j<i∧ ¬listed.getD j false=true)→((sQ ops.toList []).getD i 0).testBit j=false)∧((i<j∧listed.getD j false=true)→((sQ ops.toList []).getD j 0).testBit i=false):=by
   intro j p hj
   refine⟨λ⟨_,h2⟩=> ?_,λ⟨_,h2⟩=> ?_⟩
   ·rw[←mV]
    intro hb
    exact h2 (forced Mt Il (.inl MS) hb)
   ·rw[←mV]
    intro hb
    exact hSi (forced Mt hj (.inr h2) hb)
  have V6: ∀(j:Nat) (u:Out),us[j]? =some u→ ∃p:Oper,ops.toList[j]? =some p∧u.dst=p.dst:=by
   intro j u hj
   have G8:j<us.length:=(tW.1 hj).1
   have hp:ops.toList[j]? =some ops.toList[j]:=bk ω
   exact⟨_,hp,(hpt j u _ hj hp).1⟩
  have afT:=oZ.text us σ0 i ω
  have hT: ∀t∈names ops.toList o,σ.T t=((us.take i).foldl (fun σ u=>u.app σ) σ0).T t:=by
   intro t ht
   refine G6.V3 afT λj u hj hd=> ?_
   obtain⟨p,hp,hpd⟩:=V6 j u hj
   have hpd:p.dst=some t:=by rw[←hpd,hd]
   constructor
   ·intro MV
    refine Nat.lt_of_not_le λhle=> ?_
    rcases Nat.lt_or_eq_of_le hle with wm|heq
    ·exact(MT j p i o hp Il wm ((MU j p hp).2 ⟨wm,MV⟩)).2 t hpd ht
    ·subst heq;exact hSi MV
   ·intro yN
    by_cases MV:listed.getD j false=true
    ·exact MV
    ·exact absurd ht ((MT i o j p Il hp yN ((MU j p hp).1 ⟨yN,MV⟩)).1 t hpd).2
  have hH:Ag us[i].rd ((us.take i).foldl (fun σ u=>u.app σ) σ0).H σ.H:=by
   intro k hk
   refine G6.V4 afT λj u hj hd=> ?_
   obtain⟨p,hp,hpd⟩:=V6 j u hj
   constructor
   ·intro MV
    refine Nat.lt_of_not_le λhle=> ?_
    rcases Nat.lt_or_eq_of_le hle with wm|heq
    ·exact(Y3 j u i us[i] hj hu wm ((MU j p hp).2 ⟨wm,MV⟩)).2 k hk hd
    ·subst heq;exact hSi MV
   ·intro yN
    by_cases MV:listed.getD j false=true
    ·exact MV
    ·exact absurd hk ((Y3 i us[i] j u hu hj yN ((MU j p hp).1 ⟨yN,MV⟩)).1 k hd).1
  have al5:=hPt.2 σ hT hH
  have hIs:oZ us σ0 (λj=>j=i∨listed.getD j false=true) (us[i].app σ):=by
   refine G6.step hu λj u hj MV pN=> ?_
   obtain⟨p,hp,hpd⟩:=V6 j u hj
   have Dq:=(MU j p hp).2 ⟨pN,MV⟩
   obtain⟨h1,h2⟩:=MT j p i o hp Il pN Dq
   obtain⟨h3,h4⟩:=Y3 j u i us[i] hj hu pN Dq
   refine⟨λt ht=> ?_,λk hk=>(h3 k hk).2⟩
   rw[hpd]
   exact(h1 t (by rw[←hPt.1];exact ht)).1
  have Ac: ∀j,(listed.setIfInBounds i true).getD j false=true↔(j=i∨listed.getD j false=true):=by
   intro j
   by_cases yN:j=i
   ·subst yN
    constructor
    ·intro _;exact .inl rfl
    ·intro _;simp[Hl]
   ·rw[getD_set_ne false (eH yN)]
    exact⟨.inr,λh=>h.resolve_left yN⟩
  classical
  let K':St→List Nat→List Nat→Option α:=fun σ' _ _=>if σ'=us[i].app σ then some x0 else none
  have hK:ti E ops.toList o σ K'=some x0:=by rw[al5 K'];simp[K']
  have:=Cw (Q:=Q) (next:=wpAny P .any ops Q fuel (listed.setIfInBounds i true)) hE hI hK (fun σ' a' w' rd wr hσ' yq=>by
   have arl:σ'=us[i].app σ:=by
    by_cases h:σ'=us[i].app σ
    ·exact h
    ·simp[K',h]at hσ'
   subst arl
   refine ih _ a' w' ?_ ⟨by simpa using hs,λj p hp MV e he hb=> ?_,_,hIs.congr (λj=>(Ac j).symm),yq⟩
   ·have hlen:((List.range ops.size).filter λj=> !((listed.setIfInBounds i true).getD j false)).length<((List.range ops.size).filter λj=> !(listed.getD j false)).length:=by
     have Te:((List.range ops.size).filter λj=> !((listed.setIfInBounds i true).getD j false))=((List.range ops.size).filter λj=> !(listed.getD j false)).filter λj=> !(Nat.beq j i):=by
      rw[List.filter_filter]
      apply List.filter_congr
      intro j _
      by_cases yN:j=i
      ·subst yN
       have h1:=(Ac j).2 (.inl rfl)
       rw[h1];simp
      ·have h1:Nat.beq j i=false:=by rw[←mV,vT];exact yN
       rw[h1,getD_set_ne false (eH yN)];simp
     rw[Te]
     refine List.length_filter_lt_length_iff_exists.2 ⟨i,?_,by simp⟩
     rw[vO];exact⟨qG.2 his,by rw[h0];rfl⟩
    omega
   ·rcases(Ac j).1 MV with rfl|MV
    ·rw[Il]at hp;cases hp
     exact(Ac _).2 (.inr (MS e he hb))
    ·exact(Ac _).2 (.inr (Mt j p hp MV e he hb)))
  unfold wpOp
  rw[ho]
  simp only
  split
  ·rename_i hw;rw[aj hw]at this;exact .inl this
  ·rename_i hw;rw[ah hw]at this;exact this
theorem Hz(hE:tx P E){id:Nat}{ops:Array Oper}{draw:Bool}(hI:Inv c E σ a w){K:St→Option α}(h:DP E ops draw σ K=some r)
  (hn: ∀σ' a' w',K σ'=some r→Inv c E σ' a' w'→Q .normal a' w'):(Code.region id ops draw).wp P Q a w:=by
 cases draw
 ·refine wp_region_list (E1 hE ops.toList 0 σ [] a w _ hI h fun σ' lg' a' w' h' yq=> ?_)
  exact hn σ' a' w' (cy h').2 yq
 ·unfold DP at h
  obtain⟨us,hl,hpt,lg,hK,_,al6⟩:=RH _ _ _ _ _ h
  obtain⟨hok,hK⟩:=cy hK
  simp only[bn,tc,bQ]at hok
  obtain⟨MT,Y3⟩:=hok
  unfold Vq at MT
  simp only[bQ,qD]at MT
  obtain⟨arn,aro⟩:=MT
  have hz: ∀j o,ops.toList[j]? =some o→(o,j)∈ops.toList.zipIdx:=λj o hj=>List.mem_zipIdx_iff_getElem?.2 hj
  refine wp_region_any hE.mixed (Ka (Q:=Q) (σ0:=σ) hE r hl hpt rfl (λj o hj e he hbe=> ?_) (λj o i p hj hi pN hb=> ?_) (λj u i v hj hi pN hb=> ?_) (λa' w' yq=>hn _ a' w' hK yq) ops.size (Array.replicate ops.size false) a _ ?_ ?_)
  ·have:=arn (o,j) (hz j o hj) e (by simpa using he)
   rw[hbe]at this
   simpa [zI]using this
  ·have:=aro (o,j) (hz j o hj) (p,i) (hz i p hi)
   simp only[hb,td,mY,qC,Bool.or_eq_false_iff]at this
   have Hi: ¬Nat.ble j i=true:=by rw[zJ];omega
   have this:=this.resolve_left Hi
   refine⟨λd hd=>⟨λZN=> ?_,λZN=> ?_⟩,λd hd ZN=> ?_⟩
   ·exact mA this.1 (x:=d) (by simp[hd]) (by simp[ZN])
   ·exact mA this.1 (x:=d) (by simp[hd]) (by simp[ZN])
   ·exact mA this.2 (x:=d) (by simp[hd]) ZN
  ·unfold afI at Y3
   simp only[qD]at Y3
   have Y2:=al6 j u hj
   have m4:=al6 i v hi
   rw[gk]at Y2 m4
   have:=Y3 _ Y2 _ m4
   simp only[hb,td,mY,qC,Bool.or_eq_false_iff]at this
   have Hi: ¬Nat.ble j i=true:=by rw[zJ];omega
   have this:=this.resolve_left Hi
   refine⟨λk hk=>⟨λDS=> ?_,λDS=> ?_⟩,λk hk DS=> ?_⟩
   ·exact mA this.1 (x:=k) hk (cU _ DS)
   ·exact mA this.1 (x:=k) hk (dA _ DS)
   ·exact mA this.2 (x:=k) hk DS
  ·refine cm (List.length_filter_le _ _) ?_
   rw[vJ];exact aG _
  ·have hf: ∀j,(Array.replicate ops.size false).getD j false=false:=by
    intro j
    rw[se,Array.getElem?_replicate]
    split<;>rfl
   obtain⟨⟨M,ν,hc⟩,hs,hd,yc⟩:=hI
   refine⟨by simp,λj o _ hS=>(by rw[hf]at hS;cases hS),σ,(oZ.start us σ).congr (λj=>(by rw[hf];simp)),⟨M,ν,?_⟩,hs,hd,yc⟩
   exact hc.tr (Tr.drew hc.mem)
end VM
end
