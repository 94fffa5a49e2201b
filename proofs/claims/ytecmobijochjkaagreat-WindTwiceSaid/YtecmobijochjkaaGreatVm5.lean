/- A part of the proof of WindTwice of layer 21: a machine that reads a function of the program as an equation between values. -/
import Derived.Test.YtecmobijochjkaaGreatVm4
set_option linter.all false
section
namespace VM
open Go
variable{α:Type}{r:α}
theorem dF{υ τ:Ty}{y:υ.den}{k:τ.den→Option α}(h:c8 υ τ y k=some r): ∃z,k z=some r∧ ∀k':τ.den→Option α,c8 υ τ y k'=k' z:=by
 obtain⟨e,h⟩:=bB h
 subst e
 exact⟨y,h,λk'=>by simp[c8]⟩
theorem kf{υ τ:Ty}{k:Option α}(h:m5 υ τ k=some r):k=some r∧ ∀k':Option α,m5 υ τ k'=k':=by
 obtain⟨e,h1⟩:=fW h
 clear h
 subst e
 exact⟨h1,λk'=>by simp[m5]⟩
theorem eC{b:Bool}{K:Option α}(h:cond b K none=some r):K=some r∧ ∀K':Option α,cond b K' none=K':=by
 obtain⟨rfl,h⟩:=cB h
 exact⟨h,λ_=>rfl⟩
theorem tx{b:Bool}{K:Option α}(h:cond b none K=some r):K=some r∧ ∀K':Option α,cond b none K'=K':=by
 obtain⟨rfl,h⟩:=mz h
 exact⟨h,λ_=>rfl⟩
theorem xt: ∀{τ:Ty} {x:τ.den} {n:Nat} {k:(υ:Ty)→υ.den→Option α},xR τ x n k=some r→ ∃υ y,k υ y=some r∧ ∀k':(υ:Ty)→υ.den→Option α,xR τ x n k'=k' υ y
 | .pair a b,x,0,k,h=>⟨a,x.1,h,λ_=>rfl⟩
 | .pair a b,x,n+1,k,h=>by
  obtain⟨υ,y,h1,h2⟩:=xt (τ:=b) (x:=x.2) (n:=n) (k:=k) h
  exact⟨υ,y,h1,λk'=>h2 k'⟩
 | .int _,_,_,_,h| .bool,_,_,_,h| .str,_,_,_,h| .slice _,_,_,_,h| .unit,_,_,_,h| .arr _ _,_,_,_,h=>by simp[xR]at h
theorem yK: ∀{τ:Ty} {x:τ.den} {n:Nat} {m:(υ:Ty)→υ.den→(υ.den→Option α)→Option α} {k:τ.den→Option α},
  (∀υ y (k:υ.den→Option α),m υ y k=some r→ ∃z,k z=some r∧ ∀k':υ.den→Option α,m υ y k'=k' z)→m4 τ x n m k=some r→ ∃z,k z=some r∧ ∀k':τ.den→Option α,m4 τ x n m k'=k' z
 | .pair a b,x,0,m,k,hm,h=>by
  obtain⟨z,h1,h2⟩:=hm a x.1 _ h
  exact⟨(z,x.2),h1,λk'=>h2 _⟩
 | .pair a b,x,n+1,m,k,hm,h=>by
  obtain⟨z,h1,h2⟩:=yK (τ:=b) (x:=x.2) (n:=n) (m:=m) (k:=λz=>k (x.1,z)) hm h
  exact⟨(x.1,z),h1,λk'=>h2 (λz=>k' (x.1,z))⟩
 | .int _,_,_,_,_,_,h| .bool,_,_,_,_,_,h| .str,_,_,_,_,_,h| .slice _,_,_,_,_,_,h| .unit,_,_,_,_,_,h| .arr _ _,_,_,_,_,_,h=>by simp[m4]at h
theorem gU: ∀{p:List Step} {τ:Ty} {x:τ.den} {k:(υ:Ty)→υ.den→Option α},zI p τ x k=some r→ ∃υ y,k υ y=some r∧ ∀k':(υ:Ty)→υ.den→Option α,zI p τ x k'=k' υ y
 |[],τ,x,k,h=>⟨τ,x,h,λ_=>rfl⟩
 | .kE n::p,τ,x,k,h=>by
  obtain⟨υ,y,h1,h2⟩:=xt (h:xR τ x n _=some r)
  obtain⟨υ',y',h3,h4⟩:=gU h1
  exact⟨υ',y',h3,λk'=>(h2 _).trans (h4 k')⟩
 | .idx i::p,τ,x,k,h=>by
  cases τ with
  |arr n e=>
   obtain⟨υ',y',h3,h4⟩:=gU (p:=p) (τ:=e) (x:=List.getD x i e.zero) (k:=k) h
   exact⟨υ',y',h3,λk'=>h4 k'⟩
  |_=>simp[zI,ag0]at h
theorem oL{υ:Ty}{y:υ.den}: ∀{p:List Step} {τ:Ty} {x:τ.den} {k:τ.den→Option α},vo υ y p τ x k=some r→ ∃z,k z=some r∧ ∀k':τ.den→Option α,vo υ y p τ x k'=k' z
 |[],τ,x,k,h=>dF h
 | .kE n::p,τ,x,k,h=>yK (λ_ _ _ h=>oL h) h
 | .idx i::p,τ,x,k,h=>by
  cases τ with
  |arr n e=>
   obtain⟨z,h1,h2⟩:=oL (p:=p) (τ:=e) (x:=List.getD x i e.zero) (k:=λz=>k (List.set x i z)) h
   exact⟨_,h1,λk'=>h2 (λz=>k' (List.set x i z))⟩
  |_=>simp[vo,DN]at h
theorem su{a:bC}{k:IntKind→Int→Option α}(h:vS a k=some r): ∃i n,k i n=some r∧ ∀k':IntKind→Int→Option α,vS a k'=k' i n:=by
 obtain⟨i,n,rfl,h⟩:=m9 h
 exact⟨i,n,h,λ_=>rfl⟩
theorem RK{a:bC}{k:(τ:Ty)→τ.den→Option α}(h:Mb a k=some r): ∃τ x,k τ x=some r∧ ∀k':(τ:Ty)→τ.den→Option α,Mb a k'=k' τ x:=by
 unfold Mb at h
 split at h
 ·exact⟨_,_,h,λ_=>rfl⟩
 ·cases h
theorem uk{a:Option bC}{d:Int}{k:Int→Option α}(h:yB a d k=some r): ∃n,k n=some r∧ ∀k':Int→Option α,yB a d k'=k' n:=by
 cases a with
 |none=>exact⟨d,h,λ_=>rfl⟩
 |some a=>
  obtain⟨i,n,h1,h2⟩:=su (h:vS a (λ_ x=>k x)=some r)
  exact⟨n,h1,λk'=>h2 (λ_ x=>k' x)⟩
abbrev Ag(rd:List Nat)(H H':Nat→Option bl):Prop:= ∀i∈rd,H' i=H i
theorem oM{fz:Bool}{a:bC}{H:Nat→Option bl}{τ:Ty}{k:τ.den→List Nat→iV→Option α}(h:lX fz a H τ k=some r):
  ∃y rd ups,k y rd ups=some r∧ ∀H',Ag rd H H'→ ∀k':τ.den→List Nat→iV→Option α,lX fz a H' τ k'=k' y rd ups:=by
 cases a with
 |val υ x=>
  simp only[lX]at h
  obtain⟨z,h1,h2⟩:=dF h
  refine⟨z,[],[],h1,λH' _ k'=> ?_⟩
  simp only[lX]
  exact h2 (λy=>k' y [] [])
 |JI υ x n=>
  simp only[lX]at h
  obtain⟨z,h1,h2⟩:=dF h
  refine⟨z,[],[],h1,λH' _ k'=> ?_⟩
  simp only[lX]
  exact h2 (λy=>k' y [] [])
 |emp=>
  cases τ with
  |slice e=>exact⟨[],[],[],h,λ_ _ _=>rfl⟩
  |_=>cases h
 |ref id=>
  have h:(match H id with
   |some (.own e l)=>c8 (.slice e) τ l λy=>k y [id] (cond fz [(id,some (.oI e l))] [])
   |some (.oI e l)=>c8 (.slice e) τ l λy=>k y [id] []
   |_=>none)=some r:=h
  cases hH:H id with
  |none=>rw[hH]at h;cases h
  |some e=>
   rw[hH]at h
   cases e with
   |own e l=>
    obtain⟨z,h1,h2⟩:=dF (h:c8 (.slice e) τ l _=some r)
    refine⟨z,_,_,h1,λH' hA k'=> ?_⟩
    have:H' id=some (.own e l):=by rw[hA id (by simp),hH]
    show(match H' id with
     |some (.own e l)=>c8 (.slice e) τ l λy=>k' y [id] (cond fz [(id,some (.oI e l))] [])
     |some (.oI e l)=>c8 (.slice e) τ l λy=>k' y [id] []
     |_=>none)=_
    rw[this];exact h2 _
   |oI e l=>
    obtain⟨z,h1,h2⟩:=dF (h:c8 (.slice e) τ l _=some r)
    refine⟨z,_,_,h1,λH' hA k'=> ?_⟩
    have:H' id=some (.oI e l):=by rw[hA id (by simp),hH]
    show(match H' id with
     |some (.own e l)=>c8 (.slice e) τ l λy=>k' y [id] (cond fz [(id,some (.oI e l))] [])
     |some (.oI e l)=>c8 (.slice e) τ l λy=>k' y [id] []
     |_=>none)=_
    rw[this];exact h2 _
   |obj _ _=>cases h
   |gd _ _ _ _=>cases h
   |gone=>cases h
 |any|Vu|jo _ _|qM _ _|tup _|L9 _ _=>cases h
theorem Bm{id:Nat}{p:List Step}{H:Nat→Option bl}{k:Ty→Option α}(h:m6 id p H k=some r): ∃υ,k υ=some r∧ ∀H',H' id=H id→ ∀k':Ty→Option α,m6 id p H' k'=k' υ:=by
 unfold m6 at h
 split at h
 ·rename_i τ x bf
  obtain⟨υ,y,h1,h2⟩:=gU h
  exact⟨υ,h1,λH' hA k'=>by unfold m6;rw[hA,bf];exact h2 _⟩
 ·rename_i τ x _ _ bf
  obtain⟨υ,y,h1,h2⟩:=gU h
  exact⟨υ,h1,λH' hA k'=>by unfold m6;rw[hA,bf];exact h2 _⟩
 ·rename_i e l bf
  split at h
  ·obtain⟨υ,y,h1,h2⟩:=gU h
   exact⟨υ,h1,λH' hA k'=>by unfold m6;rw[hA,bf];exact h2 _⟩
  ·cases h
 ·rename_i e l bf
  split at h
  ·obtain⟨υ,y,h1,h2⟩:=gU h
   exact⟨υ,h1,λH' hA k'=>by unfold m6;rw[hA,bf];exact h2 _⟩
  ·cases h
 ·cases h
theorem xu{H:Nat→Option bl}{id:Nat}{e:bl}{K:Option α}(h:qN H id e K=some r):K=some r∧ ∀H',H' id=H id→ ∀(e':bl) (K':Option α),qN H' id e' K'=K':=by
 obtain⟨h1,h2⟩:=ll h
 exact⟨h2,λH' hA e' K'=>by unfold qN;rw[hA,h1]⟩
theorem Tp{b:BinOp}{k:IntKind}{x y:Int}{K:bC→Option α}(h:tZ b k x y K=some r): ∃v,K v=some r∧ ∀K':bC→Option α,tZ b k x y K'=K' v:=by
 cases b<;>simp only[tZ]at h ⊢ <;>first
  |exact⟨_,h,λ_=>rfl⟩
  |(obtain⟨h1,h2⟩:=tx h;exact⟨_,h1,λ_=>h2 _⟩)
  |cases h
theorem ahA{b:BinOp}{k:IntKind}{x y:Int}{K:bC→Option α}(h:Zl b k x y K=some r): ∃v,K v=some r∧ ∀K':bC→Option α,Zl b k x y K'=K' v:=by
 cases b<;>simp only[Zl]at h ⊢ <;>first
  |(obtain⟨h1,h2⟩:=tx h;exact⟨_,h1,λ_=>h2 _⟩)
  |cases h
theorem VY{t:Option Ty}{op:BinOp}{τ:Ty}{x:τ.den}{υ:Ty}{y:υ.den}{K:bC→Option α}(h:EH t op τ x υ y K=some r): ∃v,K v=some r∧ ∀K':bC→Option α,EH t op τ x υ y K'=K' v:=by
 unfold EH at h ⊢
 split at h
 ·rename_i k x k' y
  cases hs:Zm op
  ·rw[hs]at h
   have h:(if k=k' then tZ op k x y K else none)=some r:=h
   by_cases hk:k=k'
   ·rw[aj hk]at h
    obtain⟨v,h1,h2⟩:=Tp h
    exact⟨v,h1,λK'=>by simp only[av,aj hk];exact h2 K'⟩
   ·rw[ah hk]at h;cases h
  ·rw[hs]at h
   obtain⟨v,h1,h2⟩:=ahA (h:Zl op k x y K=some r)
   exact⟨v,h1,λK'=>by simp only[ak];exact h2 K'⟩
 ·split at h
  ·cases h
  ·obtain⟨h1,h2⟩:=kf h
   obtain⟨h3,h4⟩:=eC h1
   split at h3
   ·obtain⟨z,h5,h6⟩:=dF h3
    exact⟨_,h5,λK'=>by rw[h2,h4];exact h6 _⟩
   ·obtain⟨z,h5,h6⟩:=dF h3
    exact⟨_,h5,λK'=>by rw[h2,h4];exact h6 _⟩
   ·cases h3
theorem ZO{u:UnOp}{a:bC}{K:bC→Option α}(h:S5 u a K=some r): ∃v,K v=some r∧ ∀K':bC→Option α,S5 u a K'=K' v:=by
 unfold S5 at h
 split at h<;>first
  |exact⟨_,h,λ_=>rfl⟩
  |cases h
theorem Qa{up:Bool}: ∀{xs:List bC} {a:bC} {K:bC→Option α},Y3 up a xs K=some r→ ∃v,K v=some r∧ ∀K':bC→Option α,Y3 up a xs K'=K' v
 |[],a,K,h=>⟨a,h,λ_=>rfl⟩
 |b::xs,a,K,h=>by
  unfold Y3 at h
  obtain⟨k,x,h1,h2⟩:=su h
  obtain⟨k',y,h3,h4⟩:=su h1
  by_cases hk:k=k'
  ·rw[aj hk]at h3
   obtain⟨v,h5,h6⟩:=Qa h3
   refine⟨v,h5,λK'=> ?_⟩
   unfold Y3
   rw[h2,h4,aj hk]
   exact h6 K'
  ·rw[ah hk]at h3;cases h3
theorem ZP{τ:Ty}{a:bC}{H:Nat→Option bl}{K:ja α}(h:Mc τ a H K=some r): ∃v rd ups,K v rd ups=some r∧ ∀H',Ag rd H H'→ ∀K':ja α,Mc τ a H' K'=K' v rd ups:=by
 unfold Mc at h
 split at h
 ·exact⟨_,_,_,h,λ_ _ _=>rfl⟩
 ·exact⟨_,_,_,h,λ_ _ _=>rfl⟩
 ·exact⟨_,_,_,h,λ_ _ _=>rfl⟩
 ·exact⟨_,_,_,h,λ_ _ _=>rfl⟩
 ·split at h
  ·rename_i bf
   exact⟨_,_,_,h,λH' hA K'=>by unfold Mc;simp only;rw[hA _ (by simp),bf]⟩
  ·rename_i bf
   exact⟨_,_,_,h,λH' hA K'=>by unfold Mc;simp only;rw[hA _ (by simp),bf]⟩
  ·cases h
 ·cases h
theorem ZQ{id:Nat}{e:Ty}{a b:bC}{H:Nat→Option bl}{K:ja α}(h:Md id e a b H K=some r): ∃v rd ups,K v rd ups=some r∧id∈rd∧ ∀H',Ag rd H H'→ ∀K':ja α,Md id e a b H' K'=K' v rd ups:=by
 unfold Md at h
 obtain⟨ys,rd,ups,h1,h2⟩:=oM h
 split at h1
 ·obtain⟨h3,h4⟩:=eC h1
  refine⟨_,_,_,h3,by simp,λH' hA K'=> ?_⟩
  unfold Md
  rw[h2 H' (λi hi=>hA i (aZ _ hi))]
  exact h4 _
 ·rename_i j
  split at h1
  ·rename_i e' l hj
   obtain⟨z,h3,h4⟩:=dF h1
   obtain⟨h5,h6⟩:=eC h3
   refine⟨_,_,_,h5,by simp,λH' hA K'=> ?_⟩
   unfold Md
   rw[h2 H' (λi hi=>hA i (aZ _ (aZ _ hi)))]
   simp only
   rw[hA j (by simp),hj]
   simp only
   rw[h4]
   exact h6 _
  ·cases h1
 ·cases h1
theorem E5{e:Ty}{n:Nat}{H:Nat→Option bl}: ∀{ps:List (Nat×bC)} {l:List e.den} {Ig:List Nat} {E6:iV} {K:List e.den→List Nat→iV→Option α},vU e H n ps l Ig E6 K=some r→
  ∃l' rd ups,K l' rd ups=some r∧(∀i∈Ig,i∈rd)∧ ∀H',Ag rd H H'→ ∀K':List e.den→List Nat→iV→Option α,vU e H' n ps l Ig E6 K'=K' l' rd ups
 |[],l,Ig,E6,K,h=>⟨l,Ig,E6,h,λ_ h=>h,λ_ _ _=>rfl⟩
 |p::ps,l,Ig,E6,K,h=>by
  unfold vU at h
  obtain⟨h1,h2⟩:=eC h
  obtain⟨y,rd1,P7,h3,h4⟩:=oM h1
  obtain⟨l',rd,ups,h5,h6,h7⟩:=E5 h3
  refine⟨l',rd,ups,h5,λi hi=>h6 i (dA _ hi),λH' hA K'=> ?_⟩
  unfold vU
  rw[h2,h4 H' (λi hi=>hA i (h6 i (cT _ hi)))]
  exact h7 H' hA K'
theorem Ih{τ:Ty}{H:Nat→Option bl}: ∀{ps:List (Nat×bC)} {x:τ.den} {Ig:List Nat} {E6:iV} {K:τ.den→List Nat→iV→Option α},ua τ H ps x Ig E6 K=some r→
  ∃x' rd ups,K x' rd ups=some r∧(∀i∈Ig,i∈rd)∧ ∀H',Ag rd H H'→ ∀K':τ.den→List Nat→iV→Option α,ua τ H' ps x Ig E6 K'=K' x' rd ups
 |[],x,Ig,E6,K,h=>⟨x,Ig,E6,h,λ_ h=>h,λ_ _ _=>rfl⟩
 |p::ps,x,Ig,E6,K,h=>by
  unfold ua at h
  obtain⟨υ,z,h1,h2⟩:=xt h
  obtain⟨y,rd1,P7,h3,h4⟩:=oM h1
  obtain⟨z',h5,h6⟩:=yK (m:=fun υ' _ k'=>c8 υ υ' y k') (fun υ' y' k hk=>dF hk) h3
  obtain⟨x',rd,ups,h7,h8,h9⟩:=Ih h5
  refine⟨x',rd,ups,h7,λi hi=>h8 i (dA _ hi),λH' hA K'=> ?_⟩
  unfold ua
  rw[h2,h4 H' (λi hi=>hA i (h8 i (cT _ hi))),h6]
  exact h9 H' hA K'
theorem VZ{H:Nat→Option bl}{v:bC}{a:Ty}{k:a.den→List Nat→iV→Option α}(h:B8 v H a k=some r):
  ∃x rd ups,k x rd ups=some r∧ ∀H',Ag rd H H'→ ∀k':a.den→List Nat→iV→Option α,B8 v H' a k'=k' x rd ups:=by
 unfold B8 at h
 split at h
 ·split at h
  ·obtain⟨z,h1,h2⟩:=dF h
   refine⟨_,_,_,h1,λH' _ k'=> ?_⟩
   unfold B8
   simp only
   rw[h2]
  ·cases h
 ·rename_i k0 vA
  obtain⟨y,rd,ups,h1,h2⟩:=oM h
  refine⟨y,rd,ups,h1,λH' hA k'=> ?_⟩
  unfold B8
  split
  ·exact(vA _ _ rfl HEq.rfl).elim
  ·exact h2 H' hA _
theorem MG{H:Nat→Option bl}: ∀{τ:Ty} {vs:List bC} {k:τ.den→List Nat→iV→Option α},qO H τ vs k=some r→
  ∃x rd ups,k x rd ups=some r∧ ∀H',Ag rd H H'→ ∀k':τ.den→List Nat→iV→Option α,qO H' τ vs k'=k' x rd ups
 | .unit,[],k,h=>⟨(),[],[],h,λ_ _ _=>rfl⟩
 | .pair a b,v::vs,k,h=>by
  unfold qO at h
  obtain⟨y,rd,ups,h1,h2⟩:=VZ h
  obtain⟨ys,Ba,n0,h3,h4⟩:=MG h1
  refine⟨(y,ys),_,_,h3,λH' hA k'=> ?_⟩
  unfold qO
  rw[h2 H' (λi hi=>hA i (dA _ hi)),h4 H' (λi hi=>hA i (cT _ hi))]
 | .unit,_::_,_,h=>by simp[qO]at h
 | .pair _ _,[],_,h=>by simp[qO]at h
 | .int _,_,_,h| .bool,_,_,h| .str,_,_,h| .slice _,_,_,h| .arr _ _,_,_,h=>by simp[qO]at h
theorem E7: ∀{pX:List bC} {H:Nat→Option bl} {K:List bC→List Nat→iV→Option α},vV H pX K=some r→
  ∃cs rd ups,K cs rd ups=some r∧ ∀H',Ag rd H H'→ ∀K':List bC→List Nat→iV→Option α,vV H' pX K'=K' cs rd ups
 |[],H,K,h=>⟨[],[],[],h,λ_ _ _=>rfl⟩
 |a::pX,H,K,h=>by
  unfold vV at h
  split at h
  ·rename_i id
   split at h
   ·rename_i τ x bf
    obtain⟨cs,rd,ups,h1,h2⟩:=E7 h
    refine⟨_,_,_,h1,λH' hA K'=> ?_⟩
    unfold vV
    simp only
    rw[hA id (by simp),bf]
    simp only
    rw[h2 (bY H' id (some .gone)) (λi hi=>by
     by_cases bX:i=id
     ·subst bX;rw[ay,ay]
     ·rw[az _ _ bX,az _ _ bX];exact hA i (aZ _ hi))]
   ·cases h
  ·rename_i vA
   obtain⟨cs,rd,ups,h1,h2⟩:=E7 h
   refine⟨_,_,_,h1,λH' hA K'=> ?_⟩
   unfold vV
   split
   ·exact absurd rfl (vA _)
   ·rw[h2 H' hA]
end VM
end
section
namespace VM
open Go
variable{α:Type}{r:α}
theorem MH{m:AM}{a:bC}{H:Nat→Option bl}{k:m.den→(Nat→Option bl)→List Nat→iV→iV→List (Nat×AM)→Option α}(h:nW m a H k=some r):
  ∃y rd uo uf io,∃g:(Nat→Option bl)→(Nat→Option bl),k y (g H) rd uo uf io=some r∧(∀H' i,H' i=H i→g H' i=g H i)∧
   ∀H',Ag rd H H'→ ∀k':m.den→(Nat→Option bl)→List Nat→iV→iV→List (Nat×AM)→Option α,nW m a H' k'=k' y (g H') rd uo uf io:=by
 have MI: ∀(d:Nat) (v:Option bl) (H':Nat→Option bl) (i:Nat),H' i=H i→bY H' d v i=bY H d v i:=by
  intro d v H' i hi
  by_cases bf:i=d
  ·subst bf;rw[ay,ay]
  ·rw[az _ _ bf,az _ _ bf,hi]
 unfold nW at h
 split at h
 ·rename_i τ k
  obtain⟨y,rd,ups,h1,h2⟩:=oM h
  cases ups with
  |nil=>
   refine⟨y,rd,[],[],[],λH=>H,h1,λ_ _ h=>h,λH' hA k'=> ?_⟩
   unfold nW;simp only;rw[h2 H' hA]
  |cons u rest=>
   refine⟨y,rd,[],u::rest,[],λH=>bY H u.1 u.2,h1,λH' i hi=>MI _ _ H' i hi,λH' hA k'=> ?_⟩
   unfold nW;simp only;rw[h2 H' hA]
 ·rename_i e k
  split at h
  ·exact⟨[],[],[],[],[],λH=>H,h,λ_ _ h=>h,λ_ _ _=>rfl⟩
  ·rename_i id
   split at h
   ·rename_i e' l bf
    obtain⟨z,h1,h2⟩:=dF h
    refine⟨z,[id],_,_,_,λH=>bY H id (some .gone),h1,λH' i hi=>MI _ _ H' i hi,λH' hA k'=> ?_⟩
    unfold nW;simp only;rw[hA id (by simp),bf];simp only;rw[h2]
   ·cases h
  ·cases h
 ·rename_i τ k
  split at h
  ·rename_i id
   split at h
   ·rename_i υ x bf
    obtain⟨z,h1,h2⟩:=dF h
    refine⟨z,[id],_,_,_,λH=>bY H id (some .gone),h1,λH' i hi=>MI _ _ H' i hi,λH' hA k'=> ?_⟩
    unfold nW;simp only;rw[hA id (by simp),bf];simp only;rw[h2]
   ·cases h
  ·cases h
 ·rename_i f τ k
  split at h
  ·rename_i f' cs
   obtain⟨h1,h2⟩:=eC h
   obtain⟨x,rd,ups,h3,h4⟩:=MG h1
   cases ups with
   |nil=>
    refine⟨x,rd,[],[],[],λH=>H,h3,λ_ _ h=>h,λH' hA k'=> ?_⟩
    unfold nW;simp only;rw[h2,h4 H' hA]
   |cons _ _=>cases h3
  ·cases h
 ·cases h
 ·rename_i τ k
  split at h
  ·obtain⟨z,h1,h2⟩:=dF h
   refine⟨z,[],[],[],[],λH=>H,h1,λ_ _ h=>h,λH' hA k'=> ?_⟩
   unfold nW;simp only;rw[h2]
  ·cases h
 ·rename_i e k
  split at h
  ·rename_i id
   split at h
   ·rename_i e' l bf
    obtain⟨z,h1,h2⟩:=dF h
    refine⟨z,[id],_,_,_,λH=>bY H id (some .gone),h1,λH' i hi=>MI _ _ H' i hi,λH' hA k'=> ?_⟩
    unfold nW;simp only;rw[hA id (by simp),bf];simp only;rw[h2]
   ·cases h
  ·cases h
theorem MJ: ∀{ms:List AM} {pX:List bC} {H:Nat→Option bl} {Ig:List Nat} {uo0 uf0:iV} {io0:List (Nat×AM)} {K:HP ms→List Nat→iV→iV→List (Nat×AM)→Option α},tg ms pX H Ig uo0 uf0 io0 K=some r→
  ∃x rd uo uf io,K x rd uo uf io=some r∧(∀i∈Ig,i∈rd)∧ ∀H',Ag rd H H'→ ∀K':HP ms→List Nat→iV→iV→List (Nat×AM)→Option α,tg ms pX H' Ig uo0 uf0 io0 K'=K' x rd uo uf io
 |[],[],H,Ig,uo0,uf0,io0,K,h=>⟨(),_,_,_,_,h,λ_ h=>h,λ_ _ _=>rfl⟩
 |[m],[a],H,Ig,uo0,uf0,io0,K,h=>by
  obtain⟨y,rd,uo,uf,io,g,h1,h2,h3⟩:=MH (h:nW m a H _=some r)
  exact⟨y,_,_,_,_,h1,λi hi=>dA _ hi,λH' hA K'=>h3 H' (λi hi=>hA i (cT _ hi)) _⟩
 |m::n::ms,a::pX,H,Ig,uo0,uf0,io0,K,h=>by
  obtain⟨y,rd,uo,uf,io,g,h1,h2,h3⟩:=MH (h:nW m a H _=some r)
  obtain⟨ys,Ba,Lm,Ln,GV,h4,h5,h6⟩:=MJ (ms:=n::ms) h1
  refine⟨(y,ys),Ba,Lm,Ln,GV,h4,λi hi=>h5 i (dA _ hi),λH' hA K'=> ?_⟩
  refine(h3 H' (λi hi=>hA i (h5 i (cT _ hi))) _).trans ?_
  exact h6 (g H') (λi hi=>h2 H' i (hA i hi)) _
 |[],_::_,_,_,_,_,_,_,h=>by simp[tg]at h
 |[_],[],_,_,_,_,_,_,h=>by simp[tg]at h
 |[_],_::_::_,_,_,_,_,_,_,h=>by simp[tg]at h
 |_::_::_,[],_,_,_,_,_,_,h=>by simp[tg]at h
theorem V0{id i:Nat}: ∀{n:Nat},i∈Mf id n↔id≤i∧i<id+n
 |0=>by simp[Mf]
 |n+1=>by simp only[Mf,aW,V0];omega
theorem yq{H H':Nat→Option bl}{id:Nat}: ∀{n:Nat},(∀i∈Mf id n,H' i=H i)→ub H' id n=ub H id n
 |0,_=>rfl
 |n+1,h=>by
  unfold ub
  rw[h (id+n) (by simp[Mf]),yq λi hi=>h i (by simp[Mf,hi])]
theorem V1{E:Env}{f id:Nat}{pX:List bC}{H:Nat→Option bl}{K:ja α}(h:Ca E f pX id H K=some r): ∃v rd ups,K v rd ups=some r∧ ∀H',Ag rd H H'→ ∀K':ja α,Ca E f pX id H' K'=K' v rd ups:=by
 unfold Ca at h
 split at h
 ·cases h
 ·rename_i S hS
  obtain⟨x,rd,uo,uf,io,h1,_,h2⟩:=MJ h
  obtain⟨y,hy,h3⟩:=s4.1 h1
  obtain⟨h4,h5⟩:=cB h3
  refine⟨_,_,_,h5,λH' hA K'=> ?_⟩
  unfold Ca
  rw[hS]
  simp only
  rw[h2 H' (λi hi=>hA i (dA _ (dA _ hi))),hy]
  simp only[ar]
  rw[yq (λi hi=>hA i (cT _ hi)),h4]
  rfl
theorem Tq{t:Ty}{z:Bool}{a:bC}{lo hi mx:Option bC}{H:Nat→Option bl}{K:ja α}(h:qP t z a lo hi mx H K=some r): ∃v rd ups,K v rd ups=some r∧ ∀H',Ag rd H H'→ ∀K':ja α,qP t z a lo hi mx H' K'=K' v rd ups:=by
 unfold qP at h
 split at h
 ·obtain⟨h1,e1⟩:=eC h
  obtain⟨l,h2,e2⟩:=uk h1
  obtain⟨m,h3,e3⟩:=uk h2
  obtain⟨h4,e4⟩:=eC h3
  exact⟨_,_,_,h4,λH' _ K'=>by unfold qP;simp only;rw[e1,e2,e3,e4]⟩
 ·cases z
  ·obtain⟨h1,e1⟩:=eC (h:cond mx.isNone _ none=some r)
   obtain⟨l,h2,e2⟩:=uk h1
   obtain⟨m,h3,e3⟩:=uk h2
   obtain⟨h4,e4⟩:=eC h3
   exact⟨_,_,_,h4,λH' _ K'=>by unfold qP;simp only[av];rw[e1,e2,e3,e4]⟩
  ·exact⟨_,_,_,h,λH' _ K'=>by unfold qP;rfl⟩
 ·rename_i e jB
  obtain⟨y,rd,ups,h1,e1⟩:=oM h
  cases z
  ·obtain⟨h2,e2⟩:=eC (h1:cond (mx.isNone||hi.isSome) _ none=some r)
   obtain⟨l,h3,e3⟩:=uk h2
   obtain⟨m,h4,e4⟩:=uk h3
   obtain⟨n,h5,e5⟩:=uk h4
   obtain⟨h6,e6⟩:=eC h5
   refine⟨_,_,_,h6,λH' hA K'=> ?_⟩
   unfold qP
   simp only
   rw[e1 H' hA]
   simp only[av]
   rw[e2,e3,e4,e5,e6]
  ·refine⟨_,_,_,(h1:K .emp rd []=some r),λH' hA K'=> ?_⟩
   unfold qP
   simp only
   rw[e1 H' hA]
   rfl
 ·cases h
theorem Hu{τ:Ty}{a i:bC}{H:Nat→Option bl}{K:ja α}(h:gB τ a i H K=some r): ∃v rd ups,K v rd ups=some r∧ ∀H',Ag rd H H'→ ∀K':ja α,gB τ a i H' K'=K' v rd ups:=by
 unfold gB at h
 obtain⟨k,n,h,e0⟩:=su h
 split at h
 ·split at h
  ·obtain⟨z,h1,e1⟩:=dF h
   obtain⟨h2,e2⟩:=eC h1
   exact⟨_,_,_,h2,λH' _ K'=>by unfold gB;rw[e0];simp only;rw[e1,e2]⟩
  ·split at h
   ·rename_i bf
    obtain⟨h1,e1⟩:=kf h
    obtain⟨h2,e2⟩:=eC h1
    exact⟨_,_,_,h2,λH' hA K'=>by unfold gB;rw[e0];simp only;rw[hA _ (by simp),bf];simp only;rw[e1,e2]⟩
   ·rename_i bf
    obtain⟨h1,e1⟩:=kf h
    obtain⟨h2,e2⟩:=eC h1
    exact⟨_,_,_,h2,λH' hA K'=>by unfold gB;rw[e0];simp only;rw[hA _ (by simp),bf];simp only;rw[e1,e2]⟩
   ·cases h
  ·cases h
 ·split at h
  ·obtain⟨υ,h1,e1⟩:=Bm h
   obtain⟨h2,e2⟩:=kf h1
   obtain⟨h3,e3⟩:=eC h2
   exact⟨_,_,_,h3,λH' hA K'=>by unfold gB;rw[e0];simp only;rw[e1 H' (hA _ (by simp)),e2,e3]⟩
  ·obtain⟨z,h1,e1⟩:=dF h
   obtain⟨h2,e2⟩:=eC h1
   exact⟨_,_,_,h2,λH' _ K'=>by unfold gB;rw[e0];simp only;rw[e1,e2]⟩
  ·cases h
 ·cases h
theorem Ts{τ:Ty}{a i:bC}{K:bC→Option α}(h:vW τ a i K=some r): ∃v,K v=some r∧ ∀K':bC→Option α,vW τ a i K'=K' v:=by
 unfold vW at h
 obtain⟨k,n,h,e0⟩:=su h
 split at h
 ·obtain⟨z,h1,e1⟩:=dF h
  obtain⟨h2,e2⟩:=eC h1
  exact⟨_,h2,λK'=>by unfold vW;rw[e0];simp only;rw[e1,e2]⟩
 ·obtain⟨h2,e2⟩:=eC h
  exact⟨_,h2,λK'=>by unfold vW;rw[e0];simp only;rw[e2]⟩
 ·cases h
theorem V2{a:bC}{H:Nat→Option bl}{K:(υ:Ty)→υ.den→List Nat→Option α}(h:kU a H K=some r): ∃υ y rd,K υ y rd=some r∧ ∀H',Ag rd H H'→ ∀K':(υ:Ty)→υ.den→List Nat→Option α,kU a H' K'=K' υ y rd:=by
 unfold kU at h
 split at h
 ·exact⟨_,_,_,h,λ_ _ _=>rfl⟩
 ·split at h
  ·rename_i bf
   obtain⟨υ,y,h1,e1⟩:=gU h
   exact⟨_,_,_,h1,λH' hA K'=>by unfold kU;simp only;rw[hA _ (by simp),bf];simp only;rw[e1]⟩
  ·rename_i bf
   split at h
   ·obtain⟨υ,y,h1,e1⟩:=gU h
    exact⟨_,_,_,h1,λH' hA K'=>by unfold kU;simp only;rw[hA _ (by simp),bf];simp only;rw[e1]⟩
   ·cases h
  ·rename_i bf
   split at h
   ·obtain⟨υ,y,h1,e1⟩:=gU h
    exact⟨_,_,_,h1,λH' hA K'=>by unfold kU;simp only;rw[hA _ (by simp),bf];simp only;rw[e1]⟩
   ·cases h
  ·cases h
 ·cases h
theorem Tt{τ:Ty}{a v:bC}{H:Nat→Option bl}{K:ja α}(h:lZ τ a v H K=some r): ∃u rd ups,K u rd ups=some r∧ ∀H',Ag rd H H'→ ∀K':ja α,lZ τ a v H' K'=K' u rd ups:=by
 unfold lZ at h
 split at h
 ·obtain⟨y,rd,ups,h1,e1⟩:=oM h
  split at h1
  ·rename_i bf
   obtain⟨z,h2,e2⟩:=oL h1
   exact⟨_,_,_,h2,λH' hA K'=>by
    unfold lZ;simp only
    rw[e1 H' (λi hi=>hA i (aZ _ hi))]
    rw[hA _ (by simp),bf];simp only;rw[e2]⟩
  ·rename_i bf
   split at h1
   ·obtain⟨h2,e2⟩:=tx h1
    obtain⟨z,h3,e3⟩:=oL h2
    exact⟨_,_,_,h3,λH' hA K'=>by
     unfold lZ;simp only
     rw[e1 H' (λi hi=>hA i (aZ _ hi))]
     rw[hA _ (by simp),bf];simp only;rw[e2,e3]⟩
   ·cases h1
  ·cases h1
 ·cases h
theorem ZR{j:Nat}{q:List Step}{τ:Ty}{x:τ.den}{H:Nat→Option bl}{k:τ.den→iV→Option α}(h:C5 j q τ x H k=some r): ∃z ups,k z ups=some r∧ ∀H',H' j=H j→ ∀k':τ.den→iV→Option α,C5 j q τ x H' k'=k' z ups:=by
 unfold C5 at h
 split at h
 ·rename_i hj
  obtain⟨z,h1,e1⟩:=oL h
  exact⟨_,_,h1,λH' hA k'=>by unfold C5;rw[hA,hj];simp only;rw[e1]⟩
 ·rename_i hj
  obtain⟨z,h1,e1⟩:=oL h
  exact⟨_,_,h1,λH' hA k'=>by unfold C5;rw[hA,hj];simp only;rw[e1]⟩
 ·cases h
abbrev Pts(F:(Nat→Option bl)→ja α→Option α)(H:Nat→Option bl)(K:ja α)(r:α):Prop:=
 ∃v rd ups,K v rd ups=some r∧ ∀H',Ag rd H H'→ ∀K':ja α,F H' K'=K' v rd ups
theorem V3{τ:Ty}{a:bC}{H:Nat→Option bl}{K:ja α}(h:(kU a H fun υ y rd=>c8 υ τ y λz=>K (.val τ z) rd [])=some r):
  Pts (λH K=>kU a H fun υ y rd=>c8 υ τ y λz=>K (.val τ z) rd []) H K r:=by
 obtain⟨υ,y,rd,h1,e1⟩:=V2 h
 obtain⟨z,h2,e2⟩:=dF h1
 exact⟨_,_,_,h2,λH' hA K'=>by simp only;rw[e1 H' hA,e2]⟩
theorem ame{id:Nat}{p:List Step}{H:Nat→Option bl}{K:(υ:Ty)→υ.den→List Nat→Option α}(h:kU (.jo id p) H K=some r): ∃υ y,K υ y [id]=some r:=by
 unfold kU at h
 simp only at h
 split at h
 ·obtain⟨υ,y,h1,_⟩:=gU h;exact⟨υ,y,h1⟩
 ·split at h
  ·obtain⟨υ,y,h1,_⟩:=gU h;exact⟨υ,y,h1⟩
  ·cases h
 ·split at h
  ·obtain⟨υ,y,h1,_⟩:=gU h;exact⟨υ,y,h1⟩
  ·cases h
 ·cases h
theorem V4{τ:Ty}{id:Nat}{p:List Step}{H:Nat→Option bl}{K:ja α}(h:(kU (.jo id p) H fun υ y rd=>c8 υ τ y λz=>K (.val τ z) rd [])=some r):
  ∃z,K (.val τ z) [id] []=some r∧ ∀H',H' id=H id→ ∀K':ja α,(kU (.jo id p) H' fun υ y rd=>c8 υ τ y λz=>K' (.val τ z) rd [])=K' (.val τ z) [id] []:=by
 unfold kU at h
 simp only at h
 split at h
 ·rename_i bf
  obtain⟨υ,y,h1,e1⟩:=gU h
  obtain⟨z,h2,e2⟩:=dF h1
  exact⟨_,h2,λH' hA K'=>by unfold kU;simp only;rw[hA,bf];simp only;rw[e1,e2]⟩
 ·rename_i bf
  split at h
  ·obtain⟨υ,y,h1,e1⟩:=gU h
   obtain⟨z,h2,e2⟩:=dF h1
   exact⟨_,h2,λH' hA K'=>by unfold kU;simp only;rw[hA,bf];simp only;rw[e1,e2]⟩
  ·cases h
 ·rename_i bf
  split at h
  ·obtain⟨υ,y,h1,e1⟩:=gU h
   obtain⟨z,h2,e2⟩:=dF h1
   exact⟨_,h2,λH' hA K'=>by unfold kU;simp only;rw[hA,bf];simp only;rw[e1,e2]⟩
  ·cases h
 ·cases h
theorem V5{τ:Ty}{a:bC}{H:Nat→Option bl}{K:ja α}(h:u6 τ a H K=some r):Pts (u6 τ a) H K r:=by
 unfold u6 at h
 simp only at h
 split at h
 ·rename_i id p
  split at h
  ·rename_i υ x q j bf
   cases hp:L8 p q
   ·cases GW:xQ p q
    ·rw[hp,GW]at h
     simp only[av]at h
     obtain⟨υ',y,h1,e1⟩:=gU h
     obtain⟨z,h2,e2⟩:=dF h1
     exact⟨_,_,_,h2,λH' hA K'=>by
      unfold u6;simp only;rw[hA id (by simp),bf];simp only
      rw[hp,GW];simp only[av];rw[e1,e2]⟩
    ·rw[hp,GW]at h
     simp only[av,ak]at h
     obtain⟨z,ups,h1,e1⟩:=ZR h
     obtain⟨υ',y,h2,e2⟩:=gU h1
     obtain⟨z',h3,e3⟩:=dF h2
     exact⟨_,_,_,h3,λH' hA K'=>by
      unfold u6;simp only;rw[hA id (by simp),bf];simp only
      rw[hp,GW];simp only[av,ak];rw[e1 H' (hA j (by simp)),e2,e3]⟩
   ·rw[hp]at h
    simp only[ak]at h
    obtain⟨h1,e1⟩:=eC h
    exact⟨_,_,_,h1,λH' hA K'=>by
     unfold u6;simp only;rw[hA id (by simp),bf];simp only
     rw[hp];simp only[ak];rw[e1]⟩
  ·rename_i vA
   obtain⟨z,h1,e1⟩:=V4 h
   refine⟨_,_,_,h1,λH' hA K'=> ?_⟩
   unfold u6;simp only;rw[hA id (by simp)]
   split
   ·rename_i bf;exact absurd bf (vA _ _ _ _)
   ·exact e1 H' (hA id (by simp)) K'
 ·rename_i vA
  obtain⟨v,rd,ups,h1,e1⟩:=V3 h
  refine⟨v,rd,ups,h1,λH' hA K'=> ?_⟩
  have:u6 τ a H' K'=kU a H' fun υ y rd=>c8 υ τ y λz=>K' (.val τ z) rd []:=by
   unfold u6
   cases a<;>first|rfl|exact absurd rfl (vA _ _)
  rw[this]
  exact e1 H' hA K'
theorem MK{τ:Ty}{id k:Nat}{e:Ty}{q:List Step}{υ:Ty}{x:υ.den}{H:Nat→Option bl}{K:ja α}(h:Cb τ id k e q υ x H K=some r):
  ∃v ups,K v [id,k] ups=some r∧ ∀H',H' k=H k→ ∀K':ja α,Cb τ id k e q υ x H' K'=K' v [id,k] ups:=by
 unfold Cb at h
 split at h
 ·rename_i bf
  obtain⟨h1,e1⟩:=kf h
  obtain⟨h2,e2⟩:=kf h1
  obtain⟨z,h3,e3⟩:=oL h2
  exact⟨_,_,h3,λH' hA K'=>by unfold Cb;rw[hA,bf];simp only;rw[e1,e2,e3]⟩
 ·cases h
theorem Bn{τ:Ty}{id:Nat}{p:List Step}{v:bC}{H:Nat→Option bl}{K:ja α}(h:lZ τ (.jo id p) v H K=some r):
  ∃u rd ups,id∈rd∧K u rd ups=some r∧ ∀H',Ag rd H H'→ ∀K':ja α,lZ τ (.jo id p) v H' K'=K' u rd ups:=by
 unfold lZ at h
 simp only at h
 obtain⟨y,rd,ups,h1,e1⟩:=oM h
 split at h1
 ·rename_i bf
  obtain⟨z,h2,e2⟩:=oL h1
  exact⟨_,_,_,by simp,h2,λH' hA K'=>by
   unfold lZ;simp only
   rw[e1 H' (λi hi=>hA i (aZ _ hi))]
   rw[hA _ (by simp),bf];simp only;rw[e2]⟩
 ·rename_i bf
  split at h1
  ·obtain⟨h2,e2⟩:=tx h1
   obtain⟨z,h3,e3⟩:=oL h2
   exact⟨_,_,_,by simp,h3,λH' hA K'=>by
    unfold lZ;simp only
    rw[e1 H' (λi hi=>hA i (aZ _ hi))]
    rw[hA _ (by simp),bf];simp only;rw[e2,e3]⟩
  ·cases h1
 ·cases h1
theorem Bo{E:Env}{τ:Ty}{a v:bC}{H:Nat→Option bl}{K:ja α}(h:kb E τ a v H K=some r):
  ∃u rd ups,K u rd ups=some r∧ ∀H',Ag rd H H'→ ∀K':ja α,kb E τ a v H' K'=K' u rd ups:=by
 have h0:=h
 unfold kb at h
 simp only at h
 split at h
 ·rename_i id p
  split at h
  ·rename_i υ x bf
   split at h
   ·rename_i q e k sS
    cases hp:L8 p q
    ·rw[hp]at h
     simp only[av]at h
     obtain⟨u,rd,ups,hi,h1,e1⟩:=Bn h
     refine⟨u,rd,ups,h1,λH' hA K'=> ?_⟩
     unfold kb;simp only;rw[hA id hi,bf];simp only;rw[sS];simp only;rw[hp];simp only[av]
     exact e1 H' hA K'
    ·rw[hp]at h
     simp only[ak]at h
     obtain⟨u,ups,h1,e1⟩:=MK h
     refine⟨u,_,ups,h1,λH' hA K'=> ?_⟩
     unfold kb;simp only;rw[hA id (by simp),bf];simp only;rw[sS];simp only;rw[hp];simp only[ak]
     exact e1 H' (hA k (by simp)) K'
   ·rename_i vA
    obtain⟨u,rd,ups,hi,h1,e1⟩:=Bn h
    refine⟨u,rd,ups,h1,λH' hA K'=> ?_⟩
    unfold kb;simp only;rw[hA id hi,bf];simp only
    exact e1 H' hA K'
  ·rename_i υ x q j bf
   have zT:(lX true v H τ λy rd ups=>vo τ y p υ x λz=>K .any (id::rd) (ups++[(id,some (cond (xQ p q) (.obj υ z) (.gd υ z q j)))]))=some r→
     ∃u rd ups,id∈rd∧K u rd ups=some r∧ ∀H',Ag rd H H'→ ∀K':ja α,(lX true v H' τ λy rd ups=>vo τ y p υ x λz=>K' .any (id::rd) (ups++[(id,some (cond (xQ p q) (.obj υ z) (.gd υ z q j)))]))=K' u rd ups:=by
    intro h
    obtain⟨y,rd,ups,h1,e1⟩:=oM h
    obtain⟨z,h2,e2⟩:=oL h1
    exact⟨_,_,_,by simp,h2,λH' hA K'=>by rw[e1 H' (λi hi=>hA i (aZ _ hi)),e2]⟩
   split at h
   ·rename_i q' e k sS
    cases hp:(L8 p q&&L8 q q')
    ·rw[hp]at h
     simp only[av]at h
     obtain⟨u,rd,ups,hi,h1,e1⟩:=zT h
     refine⟨u,rd,ups,h1,λH' hA K'=> ?_⟩
     unfold kb;simp only;rw[hA id hi,bf];simp only;rw[sS];simp only;rw[hp];simp only[av]
     exact e1 H' hA K'
    ·rw[hp]at h
     simp only[ak]at h
     obtain⟨u,ups,h1,e1⟩:=MK h
     refine⟨u,_,ups,h1,λH' hA K'=> ?_⟩
     unfold kb;simp only;rw[hA id (by simp),bf];simp only;rw[sS];simp only;rw[hp];simp only[ak]
     exact e1 H' (hA k (by simp)) K'
   ·rename_i vA
    obtain⟨u,rd,ups,hi,h1,e1⟩:=zT h
    refine⟨u,rd,ups,h1,λH' hA K'=> ?_⟩
    unfold kb;simp only;rw[hA id hi,bf];simp only
    exact e1 H' hA K'
  ·rename_i arv arw
   obtain⟨u,rd,ups,hi,h1,e1⟩:=Bn h
   refine⟨u,rd,ups,h1,λH' hA K'=> ?_⟩
   unfold kb;simp only;rw[hA id hi]
   split
   ·rename_i bf;exact absurd bf (arv _ _)
   ·rename_i bf;exact absurd bf (arw _ _ _ _)
   ·exact e1 H' hA K'
 ·rename_i vA
  obtain⟨u,rd,ups,h1,e1⟩:=Tt h
  refine⟨u,rd,ups,h1,λH' hA K'=> ?_⟩
  have:kb E τ a v H' K'=lZ τ a v H' K':=by
   unfold kb
   cases a<;>first|rfl|exact absurd rfl (vA _ _)
  rw[this]
  exact e1 H' hA K'
theorem Tu{E:Env}{τ:Ty}{a v:bC}{H:Nat→Option bl}{K:ja α}(h:sP E τ a v H K=some r):
  ∃u rd ups,K u rd ups=some r∧ ∀H',Ag rd H H'→ ∀K':ja α,sP E τ a v H' K'=K' u rd ups:=by
 unfold sP at h
 split at h
 ·rename_i id υ y n
  split at h
  ·rename_i m e sS
   cases EO:Nat.beq m n
   ·rw[EO]at h
    simp only[av]at h
    obtain⟨u,rd,ups,h1,e1⟩:=Bo h
    exact⟨u,rd,ups,h1,λH' hA K'=>by unfold sP;simp only;rw[sS];simp only;rw[EO];simp only[av];exact e1 H' hA K'⟩
   ·rw[EO]at h
    simp only[ak]at h
    obtain⟨h1,e1⟩:=kf h
    obtain⟨υ',h2,e2⟩:=Bm h1
    obtain⟨h3,e3⟩:=kf h2
    obtain⟨h4,e4⟩:=xu h3
    exact⟨_,_,_,h4,λH' hA K'=>by unfold sP;simp only;rw[sS];simp only;rw[EO];simp only[ak];rw[e1,e2 H' (hA _ (by simp)),e3,e4 H' (hA _ (by simp))]⟩
  ·rename_i vA
   obtain⟨u,rd,ups,h1,e1⟩:=Bo h
   refine⟨u,rd,ups,h1,λH' hA K'=> ?_⟩
   unfold sP;simp only
   exact e1 H' hA K'
 ·rename_i vA
  obtain⟨u,rd,ups,h1,e1⟩:=Bo h
  refine⟨u,rd,ups,h1,λH' hA K'=> ?_⟩
  unfold sP
  split
  ·exact absurd rfl (vA _ _ _ _ rfl)
  ·exact e1 H' hA K'
theorem RL{H:Nat→Option bl}{id:Nat}{τ:Ty}{x:τ.den}{q:List Step}{e:Ty}{K:ja α}(h:C6 H id τ x q e K=some r):Pts (λH K=>C6 H id τ x q e K) H K r:=by
 obtain⟨h1,h2,h3⟩:=EN h
 exact⟨_,_,_,h3,λH' hA K'=>by unfold C6 qN;simp only;rw[hA id (by simp),h1,hA (id+1) (by simp),h2]⟩
theorem ahB{E:Env}{o:Oper}{ρ:Operand→bC}{H:Nat→Option bl}{K:ja α}(h:sY E o ρ H K=some r):
  ∃v rd ups,K v rd ups=some r∧ ∀ρ' H',(∀x∈o.op.operands,ρ' x=ρ x)→Ag rd H H'→ ∀K':ja α,sY E o ρ' H' K'=K' v rd ups:=by
 obtain⟨dst,op,type,pos,after,guard⟩:=o
 unfold sY at h
 simp only at h
 have ZS: ∀{ρ':Operand→bC} (xs:List Operand),(∀x∈xs,ρ' x=ρ x)→xs.map ρ'=xs.map ρ:=λxs hx=>qz hx
 have Qb: ∀{ρ':Operand→bC} (ps:Array (Nat×Operand)),(∀x∈ps.map (·.2),ρ' x=ρ x)→partsOf ρ' ps=partsOf ρ ps:=λps hp=>by
  unfold partsOf
  exact qz λp hm=>by rw[hp p.2 (Array.mem_map.2 ⟨p,by simpa using hm,rfl⟩)]
 have ahC: ∀{ρ':Operand→bC} (x:Option Operand),(∀y∈x,ρ' y=ρ y)→x.map ρ'=x.map ρ:=λx hx=>by
  cases x with
  |none=>rfl
  |some x=>simp[hx x rfl]
 split at h
 ·
  rename_i x
  exact⟨_,_,_,h,fun ρ' H' hx _ K'=>by unfold sY;simp only;rw[hx x (by simp[Op.operands])]⟩
 ·rename_i x
  exact⟨_,_,_,h,fun ρ' H' hx _ K'=>by unfold sY;simp only;rw[hx x (by simp[Op.operands])]⟩
 ·rename_i x y z
  split at h
  ·rename_i t hx
   cases t
   ·exact⟨_,_,_,(h:K (ρ z) [] []=some r),fun ρ' H' oY _ K'=>by unfold sY;simp only;rw[oY x (by simp[Op.operands]),hx,oY z (by simp[Op.operands])];rfl⟩
   ·exact⟨_,_,_,(h:K (ρ y) [] []=some r),fun ρ' H' oY _ K'=>by unfold sY;simp only;rw[oY x (by simp[Op.operands]),hx,oY y (by simp[Op.operands])];rfl⟩
  ·cases h
 ·
  split at h
  ·rename_i τ ht
   split at h
   ·rename_i q e sS
    obtain⟨v,rd,ups,h1,e1⟩:=RL h
    exact⟨_,_,_,h1,fun ρ' H' hx hA K'=>by unfold sY;simp only;rw[ht];simp only;rw[sS];exact e1 H' hA K'⟩
   ·rename_i sS
    obtain⟨h1,e1⟩:=xu h
    exact⟨_,_,_,h1,fun ρ' H' hx hA K'=>by unfold sY;simp only;rw[ht];simp only;rw[sS];simp only;rw[e1 H' (hA _ (by simp))]⟩
  ·cases h
 ·
  rename_i t x
  split at h
  ·rename_i τ ht
   have hold:(lX true (ρ x) H τ λy rd ups=>qN H (16*dst.getD 0) (.obj τ y) (K (.jo (16*dst.getD 0) []) (16*dst.getD 0::rd) (ups++[(16*dst.getD 0,some (.obj τ y))])))=some r→
     Pts (λH K=>lX true (ρ x) H τ λy rd ups=>qN H (16*dst.getD 0) (.obj τ y) (K (.jo (16*dst.getD 0) []) (16*dst.getD 0::rd) (ups++[(16*dst.getD 0,some (.obj τ y))]))) H K r:=by
    intro h
    obtain⟨y,rd,ups,h1,e1⟩:=oM h
    obtain⟨h2,e2⟩:=xu h1
    exact⟨_,_,_,h2,λH' hA K'=>by simp only;rw[e1 H' (λi hi=>hA i (aZ _ hi)),e2 H' (hA _ (by simp))]⟩
   split at h
   ·rename_i m e υ y n sS V6
    cases EO:Nat.beq m n
    ·rw[EO]at h
     obtain⟨v,rd,ups,h1,e1⟩:=hold h
     refine⟨_,_,_,h1,fun ρ' H' hx hA K'=> ?_⟩
     unfold sY;simp only;rw[ht];simp only
     rw[hx x (by simp[Op.operands]),sS,V6];simp only
     rw[EO]
     have:=e1 H' hA K'
     rw[V6]at this
     exact this
    ·rw[EO]at h
     simp only[ak]at h
     obtain⟨z,h1,e1⟩:=dF h
     obtain⟨v,rd,ups,h2,e2⟩:=RL h1
     refine⟨_,_,_,h2,fun ρ' H' hx hA K'=> ?_⟩
     unfold sY;simp only;rw[ht];simp only
     rw[hx x (by simp[Op.operands]),sS,V6];simp only
     rw[EO];simp only[ak]
     rw[e1]
     exact e2 H' hA K'
   ·rename_i vA
    obtain⟨v,rd,ups,h1,e1⟩:=hold h
    refine⟨_,_,_,h1,fun ρ' H' hx hA K'=> ?_⟩
    unfold sY;simp only;rw[ht];simp only
    rw[hx x (by simp[Op.operands])]
    split
    ·rename_i sS V6;exact absurd V6 (vA _ _ _ _ _ sS)
    ·exact e1 H' hA K'
  ·cases h
 ·
  rename_i t ps
  split at h
  ·rename_i n e ht
   obtain⟨l,rd,ups,h1,_,e1⟩:=E5 h
   exact⟨_,_,_,h1,fun ρ' H' hx hA K'=>by unfold sY;simp only;rw[ht];simp only;rw[Qb ps (λx oY=>hx x (by simpa [Op.operands]using oY)),e1 H' hA]⟩
  ·rename_i τ hna ht
   obtain⟨h0,e0⟩:=eC h
   obtain⟨l,rd,ups,h1,_,e1⟩:=Ih h0
   refine⟨_,_,_,h1,fun ρ' H' hx hA K'=> ?_⟩
   unfold sY;simp only;rw[ht]
   have: ∀{β:Type} (A:Nat→Ty→β) (B:Ty→β),(match some τ with|some (.arr n e)=>A n e|some τ=>B τ|none=>B τ)=B τ:=by
    intro β A B
    cases τ<;>first|rfl|exact absurd rfl (hna _ _)
   cases τ with
   |arr n e=>exact absurd rfl (hna n e)
   |_=>
    simp only
    rw[Qb ps (λx oY=>hx x (by simpa [Op.operands]using oY)),e0,e1 H' hA]
  ·cases h
 ·
  rename_i t n ps
  split at h
  ·rename_i e ht
   obtain⟨h0,e0⟩:=eC h
   obtain⟨h1,e1⟩:=xu h0
   obtain⟨l,rd,ups,h2,_,e2⟩:=E5 h1
   exact⟨_,_,_,h2,fun ρ' H' hx hA K'=>by
    unfold sY;simp only;rw[ht];simp only
    rw[e0,e1 H' (hA _ (by simp)),Qb ps (λx oY=>hx x (by simpa [Op.operands]using oY)),e2 H' (λi hi=>hA i (aZ _ hi))]⟩
  ·cases h
 ·
  rename_i t x
  split at h
  ·rename_i τ ht
   obtain⟨v,rd,ups,h1,e1⟩:=V5 h
   exact⟨_,_,_,h1,fun ρ' H' hx hA K'=>by unfold sY;simp only;rw[ht];simp only;rw[hx x (by simp[Op.operands]),e1 H' hA]⟩
  ·cases h
 ·
  rename_i t x y
  split at h
  ·rename_i τ ht
   obtain⟨u,rd,ups,h1,e1⟩:=Tu h
   exact⟨_,_,_,h1,fun ρ' H' hx hA K'=>by unfold sY;simp only;rw[ht];simp only;rw[hx x (by simp[Op.operands]),hx y (by simp[Op.operands]),e1 H' hA]⟩
  ·cases h
 ·
  rename_i x
  split at h
  ·rename_i id p hx
   exact⟨_,_,_,h,fun ρ' H' oY _ K'=>by unfold sY;simp only;rw[oY x (by simp[Op.operands]),hx]⟩
  ·rename_i τ z hx
   exact⟨_,_,_,h,fun ρ' H' oY _ K'=>by unfold sY;simp only;rw[oY x (by simp[Op.operands]),hx]⟩
  ·cases h
 ·
  rename_i b t x y t'
  obtain⟨τ,x1,h1,e1⟩:=RK h
  obtain⟨υ,y1,h2,e2⟩:=RK h1
  obtain⟨v,h3,e3⟩:=VY h2
  exact⟨_,_,_,h3,fun ρ' H' hx _ K'=>by unfold sY;simp only;rw[hx x (by simp[Op.operands]),hx y (by simp[Op.operands]),e1,e2,e3]⟩
 ·
  rename_i u t x
  obtain⟨v,h1,e1⟩:=ZO h
  exact⟨_,_,_,h1,fun ρ' H' hx _ K'=>by unfold sY;simp only;rw[hx x (by simp[Op.operands]),e1]⟩
 ·
  rename_i s d x
  split at h
  ·rename_i τ k hs hd
   obtain⟨i,n,h1,e1⟩:=su h
   exact⟨_,_,_,h1,fun ρ' H' hx _ K'=>by unfold sY;simp only;rw[hs,hd];simp only;rw[hx x (by simp[Op.operands]),e1]⟩
  ·cases h
 ·
  rename_i f first caps
  obtain⟨h1,e1⟩:=eC h
  obtain⟨cs,rd,ups,h3,e3⟩:=E7 h1
  exact⟨_,_,_,h3,fun ρ' H' hx hA K'=>by unfold sY;simp only;rw[ZS caps.toList (λx oY=>hx x (by simp[Op.operands];exact .inr (by simpa using oY))),e1,e3 H' hA]⟩
 ·
  rename_i t x y
  split at h
  ·rename_i e ht
   obtain⟨i,n,h1,e1⟩:=su h
   obtain⟨i',n',h2,e2⟩:=su h1
   obtain⟨h3,e3⟩:=eC h2
   obtain⟨h4,e4⟩:=xu h3
   exact⟨_,_,_,h4,fun ρ' H' hx hA K'=>by
    unfold sY;simp only;rw[ht];simp only
    rw[hx x (by simp[Op.operands]),e1,hx y (by simp[Op.operands]),e2,e3,e4 H' (hA _ (by simp))]⟩
  ·cases h
 ·
  rename_i t x lo hi mx
  split at h
  ·rename_i τ ht
   obtain⟨v,rd,ups,h1,e1⟩:=Tq h
   exact⟨_,_,_,h1,fun ρ' H' hx hA K'=>by
    unfold sY;simp only;rw[ht];simp only
    rw[hx x (by simp[Op.operands]),ahC lo (λy hy=>hx y (by simp at hy;simp[Op.operands,hy])),ahC hi (λy hy=>hx y (by simp at hy;simp[Op.operands,hy])),ahC mx (λy hy=>hx y (by simp at hy;simp[Op.operands,hy])),e1 H' hA]⟩
  ·cases h
 ·
  rename_i t x n
  split at h
  ·rename_i τ ht
   split at h
   ·rename_i id p hx
    obtain⟨υ,h1,e1⟩:=Bm h
    obtain⟨h2,e2⟩:=kf h1
    obtain⟨υ',y',h3,e3⟩:=xt h2
    obtain⟨h4,e4⟩:=tx h3
    exact⟨_,_,_,h4,fun ρ' H' oY hA K'=>by
     unfold sY;simp only;rw[ht];simp only
     rw[oY x (by simp[Op.operands]),hx];simp only
     rw[e1 H' (hA _ (by simp)),e2,e3,e4]⟩
   ·rename_i υ z hx
    obtain⟨h2,e2⟩:=kf h
    obtain⟨υ',y',h3,e3⟩:=xt h2
    obtain⟨h4,e4⟩:=tx h3
    exact⟨_,_,_,h4,fun ρ' H' oY hA K'=>by
     unfold sY;simp only;rw[ht];simp only
     rw[oY x (by simp[Op.operands]),hx];simp only
     rw[e2,e3,e4]⟩
   ·cases h
  ·cases h
 ·
  rename_i t x n
  split at h
  ·rename_i τ ht
   split at h
   ·rename_i υ z hx
    obtain⟨h2,e2⟩:=kf h
    obtain⟨υ',y',h3,e3⟩:=xt h2
    exact⟨_,_,_,h3,fun ρ' H' oY hA K'=>by
     unfold sY;simp only;rw[ht];simp only
     rw[oY x (by simp[Op.operands]),hx];simp only
     rw[e2,e3]⟩
   ·cases h
  ·cases h
 ·
  rename_i t x i
  split at h
  ·rename_i τ ht
   obtain⟨v,rd,ups,h1,e1⟩:=Hu h
   exact⟨_,_,_,h1,fun ρ' H' hx hA K'=>by unfold sY;simp only;rw[ht];simp only;rw[hx x (by simp[Op.operands]),hx i (by simp[Op.operands]),e1 H' hA]⟩
  ·cases h
 ·
  rename_i t x i
  split at h
  ·rename_i τ ht
   obtain⟨v,h1,e1⟩:=Ts h
   exact⟨_,_,_,h1,fun ρ' H' hx hA K'=>by unfold sY;simp only;rw[ht];simp only;rw[hx x (by simp[Op.operands]),hx i (by simp[Op.operands]),e1]⟩
  ·cases h
 ·
  rename_i x i
  split at h
  ·rename_i vs hx
   split at h
   ·rename_i v hv
    exact⟨_,_,_,h,fun ρ' H' oY hA K'=>by unfold sY;simp only;rw[oY x (by simp[Op.operands]),hx];simp only;rw[hv]⟩
   ·cases h
  ·cases h
 ·
  rename_i cl
  obtain⟨callee,args,ts⟩:=cl
  simp only at h
  have yb: ∀{ρ':Operand→bC},(∀x∈(Op.call {callee,args,argTypes:=ts}).operands,ρ' x=ρ x)→ ∀x∈args.toList,ρ' x=ρ x:=
   λhx x oY=>hx x (by simp[Op.operands,Call.operands];exact .inr (by simpa using oY))
  split at h
  ·split at h
   ·rename_i x τ ha ht
    obtain⟨v,rd,ups,h1,e1⟩:=ZP h
    exact⟨_,_,_,h1,fun ρ' H' hx hA K'=>by unfold sY;simp only;rw[ha,ht];simp only;rw[yb hx x (by rw[ha];simp),e1 H' hA]⟩
   ·cases h
  ·split at h
   ·rename_i x y t t' ha ht
    split at h
    ·rename_i e hte
     obtain⟨h1,e1⟩:=eC h
     obtain⟨h2,e2⟩:=xu h1
     obtain⟨v,rd,ups,h3,bf,e3⟩:=ZQ h2
     exact⟨_,_,_,h3,fun ρ' H' hx hA K'=>by
      unfold sY;simp only;rw[ha,ht];simp only;rw[hte];simp only
      rw[e1,e2 H' (hA _ bf),yb hx x (by rw[ha];simp),yb hx y (by rw[ha];simp),e3 H' hA]⟩
    ·cases h
   ·cases h
  ·split at h
   ·rename_i x xs ha
    obtain⟨v,h1,e1⟩:=Qa h
    exact⟨_,_,_,h1,fun ρ' H' hx hA K'=>by
     unfold sY;simp only;rw[ha];simp only
     rw[yb hx x (by rw[ha];simp),ZS xs (λy hy=>yb hx y (by rw[ha];simp[hy])),e1]⟩
   ·cases h
  ·split at h
   ·rename_i x xs ha
    obtain⟨v,h1,e1⟩:=Qa h
    exact⟨_,_,_,h1,fun ρ' H' hx hA K'=>by
     unfold sY;simp only;rw[ha];simp only
     rw[yb hx x (by rw[ha];simp),ZS xs (λy hy=>yb hx y (by rw[ha];simp[hy])),e1]⟩
   ·cases h
  ·rename_i g
   split at h
   ·rename_i f caps hg
    obtain⟨v,rd,ups,h1,e1⟩:=V1 h
    exact⟨_,_,_,h1,fun ρ' H' hx hA K'=>by
     unfold sY;simp only
     rw[hx g (by simp[Op.operands,Call.operands]),hg];simp only
     rw[ZS args.toList (yb hx),e1 H' hA]⟩
   ·cases h
  ·cases h
 ·cases h
end VM
end
section
namespace VM
open Go
variable{P:Program}{E:Env}{o:Oper}{a:Act}{w:World}{M:Nat→Prop}{ν:Nat→Value}{σ:St}{c:Ctx}{α:Type}{r:α}{next:Act→World→Prop}{Q:Exit→Act→World→Prop}
structure Out where
 dst:Option Nat
 v:bC
 rd:List Nat
 ups:iV
def Out.app(u:Out)(σ:St):St:=(σ.vR u.ups).vn u.dst u.v
theorem ML(σ:St)(d:Nat)(v:bC):(σ.vn (some d) v).T d=v:=uh σ d v
theorem Tv(σ:St){d:Option Nat}{t:Nat}(v:bC)(h:d≠some t):(σ.vn d v).T t=σ.T t:=by
 cases d with
 |none=>rfl
 |some d=>exact zZ σ v (λe=>h (by rw[e]))
theorem ahD(σ:St)(d:Option Nat)(v:bC):(σ.vn d v).H=σ.H:=by cases d<;>rfl
theorem Qc{u:Out}{t:Nat}(h:u.dst=some t)(σ:St):(u.app σ).T t=u.v:=by unfold Out.app;rw[h];exact ML _ _ _
theorem V7{u:Out}{t:Nat}(h:u.dst≠some t)(σ:St):(u.app σ).T t=σ.T t:=by unfold Out.app;rw[Tv _ _ h,P2]
theorem amf(u:Out)(σ:St):(u.app σ).H=c4 σ.H u.ups:=by unfold Out.app;rw[ahD,P1]
def Pt(E:Env)(ops:List Oper)(o:Oper)(σ:St)(u:Out)(α:Type):Prop:=
 u.dst=o.dst∧ ∀σ':St,(∀t∈names ops o,σ'.T t=σ.T t)→Ag u.rd σ.H σ'.H→ ∀K':St→List Nat→List Nat→Option α,th E ops o σ' K'=K' (u.app σ') u.rd (u.ups.map (·.1))
theorem V8{ops:List Oper}{K:St→List Nat→List Nat→Option α}(h:th E ops o σ K=some r): ∃u:Out,K (u.app σ) u.rd (u.ups.map (·.1))=some r∧Pt E ops o σ u α:=by
 unfold th at h
 obtain⟨h,e0⟩:=eC h
 have arx: ∀σ':St,(∀t∈names ops o,σ'.T t=σ.T t)→ ∀x∈o.op.operands,σ'.ρ x=σ.ρ x:=by
  intro σ' hT x hx
  cases x with
  |tmp t=>
   refine hT t ?_
   unfold names
   refine cT _ (List.mem_filterMap.2 ⟨.tmp t,by simpa using hx,rfl⟩)
  |_=>rfl
 have dE:sY E o σ.ρ σ.H (λv rd ups=>K ((σ.vR ups).vn o.dst v) rd (ups.map (·.1)))=some r→
   ∃u:Out,K (u.app σ) u.rd (u.ups.map (·.1))=some r∧u.dst=o.dst∧ ∀σ':St,(∀t∈names ops o,σ'.T t=σ.T t)→Ag u.rd σ.H σ'.H→ ∀K':St→List Nat→List Nat→Option α,
    sY E o σ'.ρ σ'.H (λv rd ups=>K' ((σ'.vR ups).vn o.dst v) rd (ups.map (·.1)))=K' (u.app σ') u.rd (u.ups.map (·.1)):=by
  intro h
  obtain⟨v,rd,ups,h1,h2⟩:=ahB h
  exact⟨⟨o.dst,v,rd,ups⟩,h1,rfl,fun σ' hT hA K'=>h2 σ'.ρ σ'.H (arx σ' hT) hA _⟩
 have ss: ∀{K:St→List Nat→List Nat→Option α},K (σ.vn o.dst .Vu) [] []=some r→ ∃u:Out,K (u.app σ) u.rd (u.ups.map (·.1))=some r∧u.dst=o.dst∧ ∀σ':St,∀K':St→List Nat→List Nat→Option α,K' (σ'.vn o.dst .Vu) [] []=K' (u.app σ') u.rd (u.ups.map (·.1)):=
  λh=>⟨⟨o.dst,.Vu,[],[]⟩,h,rfl,λ_ _=>rfl⟩
 simp only at h
 split at h
 ·rename_i hg
  obtain⟨u,h1,h2,h3⟩:=dE h
  refine⟨u,h1,h2,fun σ' hT hA K'=> ?_⟩
  unfold th
  rw[e0]
  simp only
  rw[hg]
  exact h3 σ' hT hA K'
 ·rename_i j want hg
  split at h
  ·cases h
  ·rename_i t ht
   have Tw:t∈names ops o:=by
    unfold names
    refine dA _ ?_
    rw[hg]
    simp[ht]
   split at h
   ·rename_i b hb
    have pQ: ∀σ':St,σ'.T t=σ.T t→σ'.put t (.val .bool b)=σ':=fun σ' h'=>by
     rw[←hb,←h'];exact E1 σ' t
    cases want<;>cases b
    ·obtain⟨u,h1,h2,h3⟩:=dE (by
      have:=pQ σ rfl
      rw[this]at h;exact h)
     refine⟨u,h1,h2,fun σ' hT hA K'=> ?_⟩
     unfold th
     rw[e0];simp only;rw[hg];simp only;rw[ht];simp only;rw[hT t Tw,hb];simp only
     rw[pQ σ' (hT t Tw)]
     exact h3 σ' hT hA K'
    ·obtain⟨u,h1,h2,h3⟩:=ss (by
      have:=pQ σ rfl
      rw[this]at h;exact h)
     refine⟨u,h1,h2,fun σ' hT hA K'=> ?_⟩
     unfold th
     rw[e0];simp only;rw[hg];simp only;rw[ht];simp only;rw[hT t Tw,hb];simp only
     rw[pQ σ' (hT t Tw)]
     exact h3 σ' K'
    ·obtain⟨u,h1,h2,h3⟩:=ss (by
      have:=pQ σ rfl
      rw[this]at h;exact h)
     refine⟨u,h1,h2,fun σ' hT hA K'=> ?_⟩
     unfold th
     rw[e0];simp only;rw[hg];simp only;rw[ht];simp only;rw[hT t Tw,hb];simp only
     rw[pQ σ' (hT t Tw)]
     exact h3 σ' K'
    ·obtain⟨u,h1,h2,h3⟩:=dE (by
      have:=pQ σ rfl
      rw[this]at h;exact h)
     refine⟨u,h1,h2,fun σ' hT hA K'=> ?_⟩
     unfold th
     rw[e0];simp only;rw[hg];simp only;rw[ht];simp only;rw[hT t Tw,hb];simp only
     rw[pQ σ' (hT t Tw)]
     exact h3 σ' hT hA K'
   ·rename_i hb
    obtain⟨u,h1,h2,h3⟩:=ss h
    refine⟨u,h1,h2,fun σ' hT hA K'=> ?_⟩
    unfold th
    rw[e0];simp only;rw[hg];simp only;rw[ht];simp only;rw[hT t Tw,hb]
    exact h3 σ' K'
   ·cases h
theorem RM{ops:List Oper}: ∀(l:List Oper) (i:Nat) (σ:St) (lg:Log) (K:St→Log→Option α),S6 E ops l i σ lg K=some r→
  ∃us:List Out,us.length=l.length∧(∀j u o,us[j]? =some u→l[j]? =some o→Pt E ops o ((us.take j).foldl (fun σ u=>u.app σ) σ) u α)∧
   ∃lg',K (us.foldl (fun σ u=>u.app σ) σ) lg'=some r∧(∀x∈lg,x∈lg')∧ ∀j u,us[j]? =some u→(i+j,u.rd,u.ups.map (·.1))∈lg'
 |[],i,σ,lg,K,h=>⟨[],rfl,λj u o hj=>by simp at hj,lg,h,λ_ h=>h,λj u hj=>by simp at hj⟩
 |o::l,i,σ,lg,K,h=>by
  unfold S6 at h
  obtain⟨u,h1,h2⟩:=V8 h
  obtain⟨us,hl,hpt,lg',hK,Ze,hj⟩:=RM l (i+1) (u.app σ) _ K h1
  refine⟨u::us,by simp[hl],λj u' o' hu ho=> ?_,lg',hK,λx hx=>Ze x (aZ _ hx),λj u' hu=> ?_⟩
  ·cases j with
   |zero=>simp at hu ho;subst hu ho;exact h2
   |succ j=>exact hpt j u' o' (by simpa using hu) (by simpa using ho)
  ·cases j with
   |zero=>simp at hu;subst hu;exact Ze _ bk
   |succ j=>
    have:=hj j u' (by simpa using hu)
    rwa [show i+1+j=i+(j+1)from by omega]at this
theorem Tx{k:Nat}{ups:iV}(h:k∈keys ups)(H H':Nat→Option bl):c4 H ups k=c4 H' ups k:=by
 induction ups generalizing H H' with
 |nil=>simp[keys]at h
 |cons u r ih=>
  show c4 (bY H u.1 u.2) r k=c4 (bY H' u.1 u.2) r k
  by_cases hk:k∈keys r
  ·exact ih hk _ _
  ·have hku:k=u.1:=by
    simp only[keys,bV,aW]at h hk
    exact h.resolve_right hk
   rw[lx hk,lx hk,hku,ay,ay]
structure o0(us:List Out)(σ0:St)(S:Nat→Prop)(σ:St):Prop where
 T: ∀t,(∃j u,us[j]? =some u∧S j∧u.dst=some t∧(∀j' u',us[j']? =some u'→S j'→u'.dst=some t→j'≤j)∧σ.T t=u.v)∨((∀j u,us[j]? =some u→S j→u.dst≠some t)∧σ.T t=σ0.T t)
 H: ∀k,(∃j u,us[j]? =some u∧S j∧k∈keys u.ups∧(∀j' u',us[j']? =some u'→S j'→k∈keys u'.ups→j'≤j)∧σ.H k=c4 σ0.H u.ups k)∨((∀j u,us[j]? =some u→S j→k∉keys u.ups)∧σ.H k=σ0.H k)
theorem o0.V9{us:List Out}{σ0 σ σ':St}{S S':Nat→Prop}(h:o0 us σ0 S σ)(h':o0 us σ0 S' σ'){t:Nat}(hs: ∀j u,us[j]? =some u→u.dst=some t→(S j↔S' j)):σ.T t=σ'.T t:=by
 rcases h.T t with⟨j,u,h1,h2,h3,h4,h5⟩|⟨h1,h2⟩<;>rcases h'.T t with⟨j',u',pA,yr,Qd,h4',h5'⟩|⟨pA,yr⟩
 ·have e1:=h4 j' u' pA ((hs j' u' pA Qd).2 yr) Qd
  have e2:=h4' j u h1 ((hs j u h1 h3).1 h2) h3
  have:j=j':=ω
  subst this
  rw[h1]at pA;cases pA
  rw[h5,h5']
 ·exact absurd h3 (pA j u h1 ((hs j u h1 h3).1 h2))
 ·exact absurd Qd (h1 j' u' pA ((hs j' u' pA Qd).2 yr))
 ·rw[h2,yr]
theorem o0.Wa{us:List Out}{σ0 σ σ':St}{S S':Nat→Prop}(h:o0 us σ0 S σ)(h':o0 us σ0 S' σ'){k:Nat}(hs: ∀j u,us[j]? =some u→k∈keys u.ups→(S j↔S' j)):σ.H k=σ'.H k:=by
 rcases h.H k with⟨j,u,h1,h2,h3,h4,h5⟩|⟨h1,h2⟩<;>rcases h'.H k with⟨j',u',pA,yr,Qd,h4',h5'⟩|⟨pA,yr⟩
 ·have e1:=h4 j' u' pA ((hs j' u' pA Qd).2 yr) Qd
  have e2:=h4' j u h1 ((hs j u h1 h3).1 h2) h3
  have:j=j':=ω
  subst this
  rw[h1]at pA;cases pA
  rw[h5,h5']
 ·exact absurd h3 (pA j u h1 ((hs j u h1 h3).1 h2))
 ·exact absurd Qd (h1 j' u' pA ((hs j' u' pA Qd).2 yr))
 ·rw[h2,yr]
theorem o0.unique{us:List Out}{σ0 σ σ':St}{S S':Nat→Prop}(h:o0 us σ0 S σ)(h':o0 us σ0 S' σ')(hs: ∀j u,us[j]? =some u→(S j↔S' j)):σ=σ':=by
 obtain⟨T,H⟩:=σ
 obtain⟨T',H'⟩:=σ'
 congr 1
 ·funext t;exact h.V9 h' (λj u hj _=>hs j u hj)
 ·funext k;exact h.Wa h' (λj u hj _=>hs j u hj)
theorem o0.step{us:List Out}{σ0 σ:St}{S:Nat→Prop}(h:o0 us σ0 S σ){i:Nat}{u:Out}(hi:us[i]? =some u)(hc: ∀j u',us[j]? =some u'→S j→i<j→(∀t,u.dst=some t→u'.dst≠some t)∧ ∀k∈keys u.ups,k∉keys u'.ups):
  o0 us σ0 (λj=>j=i∨S j) (u.app σ):=by
 refine⟨λt=> ?_,λk=> ?_⟩
 ·by_cases hd:u.dst=some t
  ·left
   refine⟨i,u,hi,.inl rfl,hd,λj' u' h1 h2 h3=> ?_,Qc hd σ⟩
   rcases h2 with rfl|h2
   ·exact aG _
   ·exact Nat.le_of_not_lt λe9=>(hc j' u' h1 h2 e9).1 t hd h3
  ·rw[V7 hd]
   rcases h.T t with⟨j,u1,h1,h2,h3,h4,h5⟩|⟨h1,h2⟩
   ·refine .inl ⟨j,u1,h1,.inr h2,h3,λj' u' pA yr Qd=> ?_,h5⟩
    rcases yr with rfl|yr
    ·rw[hi]at pA;cases pA;exact absurd Qd hd
    ·exact h4 j' u' pA yr Qd
   ·refine .inr ⟨λj u' pA yr=> ?_,h2⟩
    rcases yr with rfl|yr
    ·rw[hi]at pA;cases pA;exact hd
    ·exact h1 j u' pA yr
 ·rw[amf]
  by_cases hd:k∈keys u.ups
  ·left
   refine⟨i,u,hi,.inl rfl,hd,λj' u' h1 h2 h3=> ?_,Tx hd _ _⟩
   rcases h2 with rfl|h2
   ·exact aG _
   ·exact Nat.le_of_not_lt λe9=>(hc j' u' h1 h2 e9).2 k hd h3
  ·rw[lx hd]
   rcases h.H k with⟨j,u1,h1,h2,h3,h4,h5⟩|⟨h1,h2⟩
   ·refine .inl ⟨j,u1,h1,.inr h2,h3,λj' u' pA yr Qd=> ?_,h5⟩
    rcases yr with rfl|yr
    ·rw[hi]at pA;cases pA;exact absurd Qd hd
    ·exact h4 j' u' pA yr Qd
   ·refine .inr ⟨λj u' pA yr=> ?_,h2⟩
    rcases yr with rfl|yr
    ·rw[hi]at pA;cases pA;exact hd
    ·exact h1 j u' pA yr
theorem o0.start(us:List Out)(σ0:St):o0 us σ0 (λ_=>False) σ0:=⟨λt=> .inr ⟨λ_ _ _ h=>h.elim,rfl⟩,λk=> .inr ⟨λ_ _ _ h=>h.elim,rfl⟩⟩
theorem o0.congr{us:List Out}{σ0 σ:St}{S S':Nat→Prop}(h:o0 us σ0 S σ)(hs: ∀j,S j↔S' j):o0 us σ0 S' σ:=by
 have:S=S':=funext λj=>propext (hs j)
 rw[←this];exact h
theorem o0.text(us:List Out)(σ0:St): ∀i,i≤us.length→o0 us σ0 (λj=>j<i) ((us.take i).foldl (fun σ u=>u.app σ) σ0)
 |0,_=>(o0.start us σ0).congr λj=>by simp
 |i+1,hi=>by
  have ih:=o0.text us σ0 i ω
  have hu:us[i]? =some us[i]:=bn ω
  have:=ih.step hu (λj u' _ h2 h3=>ω)
  rw[List.take_add_one,hu,List.foldl_append]
  exact this.congr λj=>by constructor<;>intro h<;>omega
end VM
end
section
namespace VM
open Go
variable{P:Program}{E:Env}{o:Oper}{a:Act}{w:World}{M:Nat→Prop}{ν:Nat→Value}{σ:St}{c:Ctx}{α:Type}{r:α}{next:Act→World→Prop}{Q:Exit→Act→World→Prop}
def Pre(S:Nat→Prop)(o:Oper):Prop:= ∀e∈o.after,Region.binds .any e=true→S e.on
theorem E8{β:Type}{l m:List β}{i:Nat}{d:β}(h:i<l.length):(l++m).getD i d=l.getD i d:=by
 simp only[List.getD,se h]
theorem E9{β:Type}{l:List β}{x d:β}:(l++[x]).getD l.length d=x:=by
 simp[List.getD]
theorem Cp{acc:List Nat}{i:Nat}: ∀(es:List Edge) (s:Nat),(es.foldl (λs e=>cond (Region.binds .any e) (s|||2^e.on|||acc.getD e.on 0) s) s).testBit i=true→
  s.testBit i=true∨ ∃e∈es,Region.binds .any e=true∧(i=e.on∨(acc.getD e.on 0).testBit i=true)
 |[],s,h=> .inl h
 |e::es,s,h=>by
  rw[List.foldl_cons]at h
  rcases Cp es _ h with h1|⟨e',h1,h2⟩
  ·cases hb:Region.binds .any e
   ·rw[hb]at h1;exact .inl h1
   ·rw[hb]at h1
    simp only[ak,Nat.testBit_or,m1]at h1
    rcases h1 with(h1|h1)|h1
    ·exact .inl h1
    ·refine .inr ⟨e,bk,hb,.inl ?_⟩
     rw[Nat.testBit_two_pow]at h1
     simpa using (bx h1).symm
    ·exact .inr ⟨e,bk,hb,.inr h1⟩
  ·exact .inr ⟨e',aZ _ h1,h2⟩
theorem Cr{S:Nat→Prop}: ∀(l:List Oper) (acc:List Nat) (all:List Oper),all.length=acc.length+l.length→(∀j,l[j]? =all[acc.length+j]?)→
  (∀j o,all[j]? =some o→S j→Pre S o)→(∀j i,j<acc.length→S j→(acc.getD j 0).testBit i=true→S i)→
  ∀j o i,all[j]? =some o→(Pre S o∨S j)→((sQ l acc).getD j 0).testBit i=true→(j<acc.length→ ∀i,Pre S o→(acc.getD j 0).testBit i=true→S i)→S i
 |[],acc,all,hl,lq,hS,ZT,j,o,i,hj,MM,hb,Wb=>by
  have e9:j<all.length:=(tU.1 hj).1
  have wi:j<acc.length:=by simp at hl;omega
  rcases MM with hp|hp
  ·exact Wb wi i hp hb
  ·exact ZT j i wi hp hb
 |p::l,acc,all,hl,lq,hS,ZT,j,o,i,hj,MM,hb,Wb=>by
  unfold sQ at hb
  have hp0:all[acc.length]? =some p:=by rw[←m3 acc.length,←lq 0];rfl
  have Tz: ∀i,Pre S p→(p.after.toList.foldl (λs e=>cond (Region.binds .any e) (s|||2^e.on|||acc.getD e.on 0) s) 0).testBit i=true→S i:=by
   intro i GW hb
   rcases Cp p.after.toList 0 hb with h1|⟨e,he,hbe,h1⟩
   ·simp at h1
   ·have hSe:=GW e (by simpa using he) hbe
    rcases h1 with rfl|h1
    ·exact hSe
    ·by_cases e9:e.on<acc.length
     ·exact ZT e.on i e9 hSe h1
     ·rw[List.getD,gH ω]at h1;simp at h1
  refine Cr l (acc++[p.after.toList.foldl (λs e=>cond (Region.binds .any e) (s|||2^e.on|||acc.getD e.on 0) s) 0]) all (by simp at hl ⊢;omega) (λj=> ?_) hS (λj' i' Zd hS' eY=> ?_) j o i hj MM hb (λe9 i' Ry eY=> ?_)
  ·have:=lq (j+1)
   simp only[List.getElem?_cons_succ]at this
   rw[this]
   congr 1
   simp;omega
  ·by_cases e9:j'<acc.length
   ·rw[E8 e9]at eY
    exact ZT j' i' e9 hS' eY
   ·have hje:j'=acc.length:=by simp at Zd;omega
    subst hje
    rw[E9]at eY
    exact Tz i' (hS _ p hp0 hS') eY
  ·by_cases wi:j<acc.length
   ·rw[E8 wi]at eY
    exact Wb wi i' Ry eY
   ·have hje:j=acc.length:=by simp at e9;omega
    subst hje
    rw[hp0]at hj;cases hj
    rw[E9]at eY
    exact Tz i' Ry eY
theorem forced{ops:List Oper}{S:Nat→Prop}(hS: ∀j o,ops[j]? =some o→S j→Pre S o){j i:Nat}(hj:ops[j]? =some o)(MM:Pre S o∨S j)(hb:((sQ ops []).getD j 0).testBit i=true):S i:=
 Cr ops [] ops (by simp) (λj=>by simp) hS (λj i h=>by simp at h) j o i hj MM hb (λh=>by simp at h)
theorem mB{l m:List Nat}(h:meets l m=false){x:Nat}(h1:x∈l)(h2:x∈m):False:=by
 have:meets l m=true:=by
  unfold meets
  rw[zv]
  refine⟨x,h1,?_⟩
  rw[zv]
  exact⟨x,h2,tc x⟩
 rw[h]at this;cases this
structure Rnd(c:Ctx)(E:Env)(ops:Array Oper)(us:List Out)(σ0:St)(listed:Array Bool)(a:Act)(w:World):Prop where
 size:listed.size=ops.size
 closed: ∀j o,ops.toList[j]? =some o→listed.getD j false=true→Pre (λi=>listed.getD i false=true) o
 st: ∃σ,o0 us σ0 (λj=>listed.getD j false=true) σ∧Inv c E σ a w
theorem yL{listed:Array Bool}{j:Nat}(h:j<listed.size)(d:Bool):listed.getD j d=listed.getD j false:=by
 simp[Array.getD,h]
theorem J7(hE:tv P E){ops:Array Oper}{us:List Out}{σ0 σn:St}{α:Type}(x0:α)(hl:us.length=ops.toList.length)
  (hpt: ∀(j:Nat) (u:Out) (o:Oper),us[j]? =some u→ops.toList[j]? =some o→Pt E ops.toList o ((us.take j).foldl (fun σ u=>u.app σ) σ0) u α)
  (hn:σn=us.foldl (fun σ u=>u.app σ) σ0)
  (e9: ∀(j:Nat) (o:Oper),ops.toList[j]? =some o→ ∀e∈o.after,Region.binds .any e=true→e.on<j)
  (MN: ∀(j:Nat) (o:Oper) (i:Nat) (p:Oper),ops.toList[j]? =some o→ops.toList[i]? =some p→i<j→((sQ ops.toList []).getD j 0).testBit i=false→
   (∀d,p.dst=some d→o.dst≠some d∧d∉names ops.toList o)∧(∀d,o.dst=some d→d∉names ops.toList p))
  (Ze: ∀(j:Nat) (u:Out) (i:Nat) (v:Out),us[j]? =some u→us[i]? =some v→i<j→((sQ ops.toList []).getD j 0).testBit i=false→
   (∀k∈keys v.ups,k∉u.rd∧k∉keys u.ups)∧(∀k∈v.rd,k∉keys u.ups))
  (hq: ∀a' w',Inv c E σn a' w'→Q .normal a' w'):
  ∀(fuel:Nat) (listed:Array Bool) (a:Act) (w:World),((List.range ops.size).filter λj=> !(listed.getD j false)).length≤fuel→Rnd c E ops us σ0 listed a w→wpAny P .any ops Q fuel listed a w:=by
 have lq: ∀(listed:Array Bool) (a:Act) (w:World),Rnd c E ops us σ0 listed a w→Region.ready .any ops listed=[]→Q .normal a w:=by
  intro listed a w hR ahF
  obtain⟨hs,Mn,σ,GZ,hI⟩:=hR
  have amh: ∀j,j<ops.size→listed.getD j false=true:=by
   intro j
   induction j using Nat.strongRecOn with
   |_ j ih=>
    intro hj
    by_cases hb:listed.getD j false=true
    ·exact hb
    ·exfalso
     have ho:ops[j]? =some ops[j]:=LN hj
     have:j∈Region.ready .any ops listed:=by
      rw[mem_ready]
      refine⟨by rw[yL ω];simpa using hb,_,ho,λe he hbe=> ?_⟩
      have hej:=e9 j ops[j] (by rw[gR];exact ho) e he hbe
      exact ih e.on hej ω
     rw[ahF]at this
     cases this
  have hσ:σ=σn:=by
   rw[hn]
   have ht:=o0.text us σ0 us.length (aG _)
   rw[iY]at ht
   refine GZ.unique ht λj u hj=> ?_
   have G1:j<us.length:=(tU.1 hj).1
   have hjo:j<ops.size:=by rw[hl,bI]at G1;exact G1
   exact⟨λ_=>G1,λ_=>amh j hjo⟩
  exact hq a w (hσ▸hI)
 intro fuel
 induction fuel with
 |zero=>
  intro listed a w hf hR
  have ZU:Region.ready .any ops listed=[]:=by
   rw[LD]
   intro j hj
   rw[mem_ready]at hj
   obtain⟨h0,o,ho,_⟩:=hj
   have hjs:j<ops.size:=(kF.1 ho).1
   have G1:j<listed.size:=by rw[hR.size];exact hjs
   rw[yL G1]at h0
   have ln:j∈(List.range ops.size).filter λj=> !(listed.getD j false):=by
    rw[vL];exact⟨qG.2 hjs,by rw[h0];rfl⟩
   have:((List.range ops.size).filter λj=> !(listed.getD j false))=[]:=tT ω
   rw[this]at ln;cases ln
  exact⟨ZU,lq listed a w hR ZU⟩
 |succ fuel ih=>
  intro listed a w hf hR
  refine⟨lq listed a w hR,λi hi=> ?_⟩
  have m7:=hi
  rw[mem_ready]at m7
  obtain⟨h0,o,ho,MM⟩:=m7
  have his:i<ops.size:=(kF.1 ho).1
  have Hh:i<listed.size:=by rw[hR.size];exact his
  rw[yL Hh]at h0
  obtain⟨hs,Mn,σ,GZ,hI⟩:=hR
  have Ii:ops.toList[i]? =some o:=by rw[gR];exact ho
  have hiu:i<us.length:=by rw[hl,bI];exact his
  have hu:us[i]? =some us[i]:=bn hiu
  have hPt:=hpt i us[i] o hu Ii
  have hSi: ¬listed.getD i false=true:=by rw[h0];simp
  have MO: ∀j p,ops.toList[j]? =some p→((j<i∧ ¬listed.getD j false=true)→((sQ ops.toList []).getD i 0).testBit j=false)∧((i<j∧listed.getD j false=true)→((sQ ops.toList []).getD j 0).testBit i=false):=by
   intro j p hj
   refine⟨λ⟨_,h2⟩=> ?_,λ⟨_,h2⟩=> ?_⟩
   ·rw[←mY]
    intro hb
    exact h2 (forced Mn Ii (.inl MM) hb)
   ·rw[←mY]
    intro hb
    exact hSi (forced Mn hj (.inr h2) hb)
  have Wc: ∀(j:Nat) (u:Out),us[j]? =some u→ ∃p:Oper,ops.toList[j]? =some p∧u.dst=p.dst:=by
   intro j u hj
   have G1:j<us.length:=(tU.1 hj).1
   have hp:ops.toList[j]? =some ops.toList[j]:=bn ω
   exact⟨_,hp,(hpt j u _ hj hp).1⟩
  have af4:=o0.text us σ0 i ω
  have hT: ∀t∈names ops.toList o,σ.T t=((us.take i).foldl (fun σ u=>u.app σ) σ0).T t:=by
   intro t ht
   refine GZ.V9 af4 λj u hj hd=> ?_
   obtain⟨p,hp,hpd⟩:=Wc j u hj
   have hpd:p.dst=some t:=by rw[←hpd,hd]
   constructor
   ·intro MP
    refine Nat.lt_of_not_le λhle=> ?_
    rcases Nat.lt_or_eq_of_le hle with wi|heq
    ·exact(MN j p i o hp Ii wi ((MO j p hp).2 ⟨wi,MP⟩)).2 t hpd ht
    ·subst heq;exact hSi MP
   ·intro yM
    by_cases MP:listed.getD j false=true
    ·exact MP
    ·exact absurd ht ((MN i o j p Ii hp yM ((MO j p hp).1 ⟨yM,MP⟩)).1 t hpd).2
  have hH:Ag us[i].rd ((us.take i).foldl (fun σ u=>u.app σ) σ0).H σ.H:=by
   intro k hk
   refine GZ.Wa af4 λj u hj hd=> ?_
   obtain⟨p,hp,hpd⟩:=Wc j u hj
   constructor
   ·intro MP
    refine Nat.lt_of_not_le λhle=> ?_
    rcases Nat.lt_or_eq_of_le hle with wi|heq
    ·exact(Ze j u i us[i] hj hu wi ((MO j p hp).2 ⟨wi,MP⟩)).2 k hk hd
    ·subst heq;exact hSi MP
   ·intro yM
    by_cases MP:listed.getD j false=true
    ·exact MP
    ·exact absurd hk ((Ze i us[i] j u hu hj yM ((MO j p hp).1 ⟨yM,MP⟩)).1 k hd).1
  have ami:=hPt.2 σ hT hH
  have hIs:o0 us σ0 (λj=>j=i∨listed.getD j false=true) (us[i].app σ):=by
   refine GZ.step hu λj u hj MP pP=> ?_
   obtain⟨p,hp,hpd⟩:=Wc j u hj
   have Di:=(MO j p hp).2 ⟨pP,MP⟩
   obtain⟨h1,h2⟩:=MN j p i o hp Ii pP Di
   obtain⟨h3,h4⟩:=Ze j u i us[i] hj hu pP Di
   refine⟨λt ht=> ?_,λk hk=>(h3 k hk).2⟩
   rw[hpd]
   exact(h1 t (by rw[←hPt.1];exact ht)).1
  have z6: ∀j,(listed.setIfInBounds i true).getD j false=true↔(j=i∨listed.getD j false=true):=by
   intro j
   by_cases yM:j=i
   ·subst yM
    constructor
    ·intro _;exact .inl rfl
    ·intro _;simp[Hh]
   ·rw[getD_set_ne false (eJ yM)]
    exact⟨.inr,λh=>h.resolve_left yM⟩
  classical
  let K':St→List Nat→List Nat→Option α:=fun σ' _ _=>if σ'=us[i].app σ then some x0 else none
  have hK:th E ops.toList o σ K'=some x0:=by rw[ami K'];simp[K']
  have:=Co (Q:=Q) (next:=wpAny P .any ops Q fuel (listed.setIfInBounds i true)) hE hI hK (fun σ' a' w' rd wr hσ' yp=>by
   have arD:σ'=us[i].app σ:=by
    by_cases h:σ'=us[i].app σ
    ·exact h
    ·simp[K',h]at hσ'
   subst arD
   refine ih _ a' w' ?_ ⟨by simpa using hs,λj p hp MP e he hb=> ?_,_,hIs.congr (λj=>(z6 j).symm),yp⟩
   ·have hlen:((List.range ops.size).filter λj=> !((listed.setIfInBounds i true).getD j false)).length<((List.range ops.size).filter λj=> !(listed.getD j false)).length:=by
     have Tl:((List.range ops.size).filter λj=> !((listed.setIfInBounds i true).getD j false))=((List.range ops.size).filter λj=> !(listed.getD j false)).filter λj=> !(Nat.beq j i):=by
      rw[List.filter_filter]
      apply List.filter_congr
      intro j _
      by_cases yM:j=i
      ·subst yM
       have h1:=(z6 j).2 (.inl rfl)
       rw[h1];simp
      ·have h1:Nat.beq j i=false:=by rw[←mY,vQ];exact yM
       rw[h1,getD_set_ne false (eJ yM)];simp
     rw[Tl]
     refine List.length_filter_lt_length_iff_exists.2 ⟨i,?_,by simp⟩
     rw[vL];exact⟨qG.2 his,by rw[h0];rfl⟩
    omega
   ·rcases(z6 j).1 MP with rfl|MP
    ·rw[Ii]at hp;cases hp
     exact(z6 _).2 (.inr (MM e he hb))
    ·exact(z6 _).2 (.inr (Mn j p hp MP e he hb)))
  unfold wpOp
  rw[ho]
  simp only
  split
  ·rename_i hw;rw[aj hw]at this;exact .inl this
  ·rename_i hw;rw[ah hw]at this;exact this
theorem Hv(hE:tv P E){id:Nat}{ops:Array Oper}{draw:Bool}(hI:Inv c E σ a w){K:St→Option α}(h:DO E ops draw σ K=some r)
  (hn: ∀σ' a' w',K σ'=some r→Inv c E σ' a' w'→Q .normal a' w'):(Code.region id ops draw).wp P Q a w:=by
 cases draw
 ·refine wp_region_list (E2 hE ops.toList 0 σ [] a w _ hI h fun σ' lg' a' w' h' yp=> ?_)
  exact hn σ' a' w' (cB h').2 yp
 ·unfold DO at h
  obtain⟨us,hl,hpt,lg,hK,_,amj⟩:=RM _ _ _ _ _ h
  obtain⟨hok,hK⟩:=cB hK
  simp only[a7,ta,bR]at hok
  obtain⟨MN,Ze⟩:=hok
  unfold Vv at MN
  simp only[bR,qD]at MN
  obtain⟨arE,arF⟩:=MN
  have hz: ∀j o,ops.toList[j]? =some o→(o,j)∈ops.toList.zipIdx:=λj o hj=>List.mem_zipIdx_iff_getElem?.2 hj
  refine wp_region_any hE.mixed (J7 (Q:=Q) (σ0:=σ) hE r hl hpt rfl (λj o hj e he hbe=> ?_) (λj o i p hj hi pP hb=> ?_) (λj u i v hj hi pP hb=> ?_) (λa' w' yp=>hn _ a' w' hK yp) ops.size (Array.replicate ops.size false) a _ ?_ ?_)
  ·have:=arE (o,j) (hz j o hj) e (by simpa using he)
   rw[hbe]at this
   simpa [zE]using this
  ·have:=arF (o,j) (hz j o hj) (p,i) (hz i p hi)
   simp only[hb,tb,m1,qC,Bool.or_eq_false_iff]at this
   have He: ¬Nat.ble j i=true:=by rw[zF];omega
   have this:=this.resolve_left He
   refine⟨λd hd=>⟨λZV=> ?_,λZV=> ?_⟩,λd hd ZV=> ?_⟩
   ·exact mB this.1 (x:=d) (by simp[hd]) (by simp[ZV])
   ·exact mB this.1 (x:=d) (by simp[hd]) (by simp[ZV])
   ·exact mB this.2 (x:=d) (by simp[hd]) ZV
  ·unfold afT at Ze
   simp only[qD]at Ze
   have Zd:=amj j u hj
   have m7:=amj i v hi
   rw[gi]at Zd m7
   have:=Ze _ Zd _ m7
   simp only[hb,tb,m1,qC,Bool.or_eq_false_iff]at this
   have He: ¬Nat.ble j i=true:=by rw[zF];omega
   have this:=this.resolve_left He
   refine⟨λk hk=>⟨λHj=> ?_,λHj=> ?_⟩,λk hk Hj=> ?_⟩
   ·exact mB this.1 (x:=k) hk (cT _ Hj)
   ·exact mB this.1 (x:=k) hk (dA _ Hj)
   ·exact mB this.2 (x:=k) hk Hj
  ·refine cm (List.length_filter_le _ _) ?_
   rw[vG];exact aG _
  ·have hf: ∀j,(Array.replicate ops.size false).getD j false=false:=by
    intro j
    rw[sd,Array.getElem?_replicate]
    split<;>rfl
   obtain⟨⟨M,ν,hc⟩,hs,hd,yb⟩:=hI
   refine⟨by simp,λj o _ hS=>(by rw[hf]at hS;cases hS),σ,(o0.start us σ).congr (λj=>(by rw[hf];simp)),⟨M,ν,?_⟩,hs,hd,yb⟩
   exact hc.tr (Tr.drew hc.mem)
end VM
end
