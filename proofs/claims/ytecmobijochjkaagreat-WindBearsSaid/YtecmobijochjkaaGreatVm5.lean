/- A part of the proof of WindBears of layer 21: a machine that reads a function of the program as an equation between values. -/
import Derived.Test.YtecmobijochjkaaGreatVm4
set_option linter.all false
section
namespace VM
open Go
variable{α:Type}{r:α}
theorem dF{υ τ:Ty}{y:υ.den}{k:τ.den→Option α}(h:c8 υ τ y k=some r): ∃z,k z=some r∧ ∀k':τ.den→Option α,c8 υ τ y k'=k' z:=by
 obtain⟨e,h⟩:=bC h
 subst e
 exact⟨y,h,λk'=>by simp[c8]⟩
theorem kf{υ τ:Ty}{k:Option α}(h:m8 υ τ k=some r):k=some r∧ ∀k':Option α,m8 υ τ k'=k':=by
 obtain⟨e,h1⟩:=fZ h
 clear h
 subst e
 exact⟨h1,λk'=>by simp[m8]⟩
theorem eD{b:Bool}{K:Option α}(h:cond b K none=some r):K=some r∧ ∀K':Option α,cond b K' none=K':=by
 obtain⟨rfl,h⟩:=cB h
 exact⟨h,λ_=>rfl⟩
theorem tL{b:Bool}{K:Option α}(h:cond b none K=some r):K=some r∧ ∀K':Option α,cond b none K'=K':=by
 obtain⟨rfl,h⟩:=mB h
 exact⟨h,λ_=>rfl⟩
theorem xE: ∀{τ:Ty} {x:τ.den} {n:Nat} {k:(υ:Ty)→υ.den→Option α},yc τ x n k=some r→ ∃υ y,k υ y=some r∧ ∀k':(υ:Ty)→υ.den→Option α,yc τ x n k'=k' υ y
 | .pair a b,x,0,k,h=>⟨a,x.1,h,λ_=>rfl⟩
 | .pair a b,x,n+1,k,h=>by
  obtain⟨υ,y,h1,h2⟩:=xE (τ:=b) (x:=x.2) (n:=n) (k:=k) h
  exact⟨υ,y,h1,λk'=>h2 k'⟩
 | .int _,_,_,_,h| .bool,_,_,_,h| .str,_,_,_,h| .slice _,_,_,_,h| .unit,_,_,_,h| .arr _ _,_,_,_,h=>by simp[yc]at h
theorem yW: ∀{τ:Ty} {x:τ.den} {n:Nat} {m:(υ:Ty)→υ.den→(υ.den→Option α)→Option α} {k:τ.den→Option α},
  (∀υ y (k:υ.den→Option α),m υ y k=some r→ ∃z,k z=some r∧ ∀k':υ.den→Option α,m υ y k'=k' z)→m7 τ x n m k=some r→ ∃z,k z=some r∧ ∀k':τ.den→Option α,m7 τ x n m k'=k' z
 | .pair a b,x,0,m,k,hm,h=>by
  obtain⟨z,h1,h2⟩:=hm a x.1 _ h
  exact⟨(z,x.2),h1,λk'=>h2 _⟩
 | .pair a b,x,n+1,m,k,hm,h=>by
  obtain⟨z,h1,h2⟩:=yW (τ:=b) (x:=x.2) (n:=n) (m:=m) (k:=λz=>k (x.1,z)) hm h
  exact⟨(x.1,z),h1,λk'=>h2 (λz=>k' (x.1,z))⟩
 | .int _,_,_,_,_,_,h| .bool,_,_,_,_,_,h| .str,_,_,_,_,_,h| .slice _,_,_,_,_,_,h| .unit,_,_,_,_,_,h| .arr _ _,_,_,_,_,_,h=>by simp[m7]at h
theorem gX: ∀{p:List Step} {τ:Ty} {x:τ.den} {k:(υ:Ty)→υ.den→Option α},zT p τ x k=some r→ ∃υ y,k υ y=some r∧ ∀k':(υ:Ty)→υ.den→Option α,zT p τ x k'=k' υ y
 |[],τ,x,k,h=>⟨τ,x,h,λ_=>rfl⟩
 | .kG n::p,τ,x,k,h=>by
  obtain⟨υ,y,h1,h2⟩:=xE (h:yc τ x n _=some r)
  obtain⟨υ',y',h3,h4⟩:=gX h1
  exact⟨υ',y',h3,λk'=>(h2 _).trans (h4 k')⟩
 | .idx i::p,τ,x,k,h=>by
  cases τ with
  |arr n e=>
   obtain⟨υ',y',h3,h4⟩:=gX (p:=p) (τ:=e) (x:=List.getD x i e.zero) (k:=k) h
   exact⟨υ',y',h3,λk'=>h4 k'⟩
  |_=>simp[zT,agP]at h
theorem oN{υ:Ty}{y:υ.den}: ∀{p:List Step} {τ:Ty} {x:τ.den} {k:τ.den→Option α},vC υ y p τ x k=some r→ ∃z,k z=some r∧ ∀k':τ.den→Option α,vC υ y p τ x k'=k' z
 |[],τ,x,k,h=>dF h
 | .kG n::p,τ,x,k,h=>yW (λ_ _ _ h=>oN h) h
 | .idx i::p,τ,x,k,h=>by
  cases τ with
  |arr n e=>
   obtain⟨z,h1,h2⟩:=oN (p:=p) (τ:=e) (x:=List.getD x i e.zero) (k:=λz=>k (List.set x i z)) h
   exact⟨_,h1,λk'=>h2 (λz=>k' (List.set x i z))⟩
  |_=>simp[vC,DT]at h
theorem sE{a:bD}{k:IntKind→Int→Option α}(h:wh a k=some r): ∃i n,k i n=some r∧ ∀k':IntKind→Int→Option α,wh a k'=k' i n:=by
 obtain⟨i,n,rfl,h⟩:=ng h
 exact⟨i,n,h,λ_=>rfl⟩
theorem RM{a:bD}{k:(τ:Ty)→τ.den→Option α}(h:Mh a k=some r): ∃τ x,k τ x=some r∧ ∀k':(τ:Ty)→τ.den→Option α,Mh a k'=k' τ x:=by
 unfold Mh at h
 split at h
 ·exact⟨_,_,h,λ_=>rfl⟩
 ·cases h
theorem uH{a:Option bD}{d:Int}{k:Int→Option α}(h:yN a d k=some r): ∃n,k n=some r∧ ∀k':Int→Option α,yN a d k'=k' n:=by
 cases a with
 |none=>exact⟨d,h,λ_=>rfl⟩
 |some a=>
  obtain⟨i,n,h1,h2⟩:=sE (h:wh a (λ_ x=>k x)=some r)
  exact⟨n,h1,λk'=>h2 (λ_ x=>k' x)⟩
abbrev Ag(rd:List Nat)(H H':Nat→Option bh):Prop:= ∀i∈rd,H' i=H i
theorem oO{fz:Bool}{a:bD}{H:Nat→Option bh}{τ:Ty}{k:τ.den→List Nat→jb→Option α}(h:mc fz a H τ k=some r):
  ∃y rd ups,k y rd ups=some r∧ ∀H',Ag rd H H'→ ∀k':τ.den→List Nat→jb→Option α,mc fz a H' τ k'=k' y rd ups:=by
 cases a with
 |val υ x=>
  simp only[mc]at h
  obtain⟨z,h1,h2⟩:=dF h
  refine⟨z,[],[],h1,λH' _ k'=> ?_⟩
  simp only[mc]
  exact h2 (λy=>k' y [] [])
 |JO υ x n=>
  simp only[mc]at h
  obtain⟨z,h1,h2⟩:=dF h
  refine⟨z,[],[],h1,λH' _ k'=> ?_⟩
  simp only[mc]
  exact h2 (λy=>k' y [] [])
 |emp=>
  cases τ with
  |slice e=>exact⟨[],[],[],h,λ_ _ _=>rfl⟩
  |_=>cases h
 |ref id=>
  have h:(match H id with
   |some (.own e l)=>c8 (.slice e) τ l λy=>k y [id] (cond fz [(id,some (.oK e l))] [])
   |some (.oK e l)=>c8 (.slice e) τ l λy=>k y [id] []
   |_=>none)=some r:=h
  cases hH:H id with
  |none=>rw[hH]at h;cases h
  |some e=>
   rw[hH]at h
   cases e with
   |own e l=>
    obtain⟨z,h1,h2⟩:=dF (h:c8 (.slice e) τ l _=some r)
    refine⟨z,_,_,h1,λH' hA k'=> ?_⟩
    have:H' id=some (.own e l):=by rw[hA id (by simp),hH]
    show(match H' id with
     |some (.own e l)=>c8 (.slice e) τ l λy=>k' y [id] (cond fz [(id,some (.oK e l))] [])
     |some (.oK e l)=>c8 (.slice e) τ l λy=>k' y [id] []
     |_=>none)=_
    rw[this];exact h2 _
   |oK e l=>
    obtain⟨z,h1,h2⟩:=dF (h:c8 (.slice e) τ l _=some r)
    refine⟨z,_,_,h1,λH' hA k'=> ?_⟩
    have:H' id=some (.oK e l):=by rw[hA id (by simp),hH]
    show(match H' id with
     |some (.own e l)=>c8 (.slice e) τ l λy=>k' y [id] (cond fz [(id,some (.oK e l))] [])
     |some (.oK e l)=>c8 (.slice e) τ l λy=>k' y [id] []
     |_=>none)=_
    rw[this];exact h2 _
   |obj _ _=>cases h
   |gk _ _ _ _=>cases h
   |gone=>cases h
 |any|Vt|jr _ _|qT _ _|tup _|Mf _ _=>cases h
theorem Bz{id:Nat}{p:List Step}{H:Nat→Option bh}{k:Ty→Option α}(h:m9 id p H k=some r): ∃υ,k υ=some r∧ ∀H',H' id=H id→ ∀k':Ty→Option α,m9 id p H' k'=k' υ:=by
 unfold m9 at h
 split at h
 ·rename_i τ x bf
  obtain⟨υ,y,h1,h2⟩:=gX h
  exact⟨υ,h1,λH' hA k'=>by unfold m9;rw[hA,bf];exact h2 _⟩
 ·rename_i τ x _ _ bf
  obtain⟨υ,y,h1,h2⟩:=gX h
  exact⟨υ,h1,λH' hA k'=>by unfold m9;rw[hA,bf];exact h2 _⟩
 ·rename_i e l bf
  split at h
  ·obtain⟨υ,y,h1,h2⟩:=gX h
   exact⟨υ,h1,λH' hA k'=>by unfold m9;rw[hA,bf];exact h2 _⟩
  ·cases h
 ·rename_i e l bf
  split at h
  ·obtain⟨υ,y,h1,h2⟩:=gX h
   exact⟨υ,h1,λH' hA k'=>by unfold m9;rw[hA,bf];exact h2 _⟩
  ·cases h
 ·cases h
theorem xF{H:Nat→Option bh}{id:Nat}{e:bh}{K:Option α}(h:qU H id e K=some r):K=some r∧ ∀H',H' id=H id→ ∀(e':bh) (K':Option α),qU H' id e' K'=K':=by
 obtain⟨h1,h2⟩:=lx h
 exact⟨h2,λH' hA e' K'=>by unfold qU;rw[hA,h1]⟩
theorem Tn{b:BinOp}{k:IntKind}{x y:Int}{K:bD→Option α}(h:ux b k x y K=some r): ∃v,K v=some r∧ ∀K':bD→Option α,ux b k x y K'=K' v:=by
 cases b<;>simp only[ux]at h ⊢ <;>first
  |exact⟨_,h,λ_=>rfl⟩
  |(obtain⟨h1,h2⟩:=tL h;exact⟨_,h1,λ_=>h2 _⟩)
  |cases h
theorem ahp{b:BinOp}{k:IntKind}{x y:Int}{K:bD→Option α}(h:Zf b k x y K=some r): ∃v,K v=some r∧ ∀K':bD→Option α,Zf b k x y K'=K' v:=by
 cases b<;>simp only[Zf]at h ⊢ <;>first
  |(obtain⟨h1,h2⟩:=tL h;exact⟨_,h1,λ_=>h2 _⟩)
  |cases h
theorem VX{t:Option Ty}{op:BinOp}{τ:Ty}{x:τ.den}{υ:Ty}{y:υ.den}{K:bD→Option α}(h:EO t op τ x υ y K=some r): ∃v,K v=some r∧ ∀K':bD→Option α,EO t op τ x υ y K'=K' v:=by
 unfold EO at h ⊢
 split at h
 ·rename_i k x k' y
  cases hs:Zg op
  ·rw[hs]at h
   have h:(if k=k' then ux op k x y K else none)=some r:=h
   by_cases hk:k=k'
   ·rw[aj hk]at h
    obtain⟨v,h1,h2⟩:=Tn h
    exact⟨v,h1,λK'=>by simp only[av,aj hk];exact h2 K'⟩
   ·rw[ah hk]at h;cases h
  ·rw[hs]at h
   obtain⟨v,h1,h2⟩:=ahp (h:Zf op k x y K=some r)
   exact⟨v,h1,λK'=>by simp only[aq];exact h2 K'⟩
 ·split at h
  ·cases h
  ·obtain⟨h1,h2⟩:=kf h
   obtain⟨h3,h4⟩:=eD h1
   split at h3
   ·obtain⟨z,h5,h6⟩:=dF h3
    exact⟨_,h5,λK'=>by rw[h2,h4];exact h6 _⟩
   ·obtain⟨z,h5,h6⟩:=dF h3
    exact⟨_,h5,λK'=>by rw[h2,h4];exact h6 _⟩
   ·cases h3
theorem ZI{u:UnOp}{a:bD}{K:bD→Option α}(h:S3 u a K=some r): ∃v,K v=some r∧ ∀K':bD→Option α,S3 u a K'=K' v:=by
 unfold S3 at h
 split at h<;>first
  |exact⟨_,h,λ_=>rfl⟩
  |cases h
theorem Qd{up:Bool}: ∀{xs:List bD} {a:bD} {K:bD→Option α},YX up a xs K=some r→ ∃v,K v=some r∧ ∀K':bD→Option α,YX up a xs K'=K' v
 |[],a,K,h=>⟨a,h,λ_=>rfl⟩
 |b::xs,a,K,h=>by
  unfold YX at h
  obtain⟨k,x,h1,h2⟩:=sE h
  obtain⟨k',y,h3,h4⟩:=sE h1
  by_cases hk:k=k'
  ·rw[aj hk]at h3
   obtain⟨v,h5,h6⟩:=Qd h3
   refine⟨v,h5,λK'=> ?_⟩
   unfold YX
   rw[h2,h4,aj hk]
   exact h6 K'
  ·rw[ah hk]at h3;cases h3
theorem ZJ{τ:Ty}{a:bD}{H:Nat→Option bh}{K:jf α}(h:Mi τ a H K=some r): ∃v rd ups,K v rd ups=some r∧ ∀H',Ag rd H H'→ ∀K':jf α,Mi τ a H' K'=K' v rd ups:=by
 unfold Mi at h
 split at h
 ·exact⟨_,_,_,h,λ_ _ _=>rfl⟩
 ·exact⟨_,_,_,h,λ_ _ _=>rfl⟩
 ·exact⟨_,_,_,h,λ_ _ _=>rfl⟩
 ·exact⟨_,_,_,h,λ_ _ _=>rfl⟩
 ·split at h
  ·rename_i bf
   exact⟨_,_,_,h,λH' hA K'=>by unfold Mi;simp only;rw[hA _ (by simp),bf]⟩
  ·rename_i bf
   exact⟨_,_,_,h,λH' hA K'=>by unfold Mi;simp only;rw[hA _ (by simp),bf]⟩
  ·cases h
 ·cases h
theorem ZK{id:Nat}{e:Ty}{a b:bD}{H:Nat→Option bh}{K:jf α}(h:Mj id e a b H K=some r): ∃v rd ups,K v rd ups=some r∧id∈rd∧ ∀H',Ag rd H H'→ ∀K':jf α,Mj id e a b H' K'=K' v rd ups:=by
 unfold Mj at h
 obtain⟨ys,rd,ups,h1,h2⟩:=oO h
 split at h1
 ·obtain⟨h3,h4⟩:=eD h1
  refine⟨_,_,_,h3,by simp,λH' hA K'=> ?_⟩
  unfold Mj
  rw[h2 H' (λi hi=>hA i (aY _ hi))]
  exact h4 _
 ·rename_i j
  split at h1
  ·rename_i e' l hj
   obtain⟨z,h3,h4⟩:=dF h1
   obtain⟨h5,h6⟩:=eD h3
   refine⟨_,_,_,h5,by simp,λH' hA K'=> ?_⟩
   unfold Mj
   rw[h2 H' (λi hi=>hA i (aY _ (aY _ hi)))]
   simp only
   rw[hA j (by simp),hj]
   simp only
   rw[h4]
   exact h6 _
  ·cases h1
 ·cases h1
theorem Fe{e:Ty}{n:Nat}{H:Nat→Option bh}: ∀{ps:List (Nat×bD)} {l:List e.den} {Ip:List Nat} {Ff:jb} {K:List e.den→List Nat→jb→Option α},wj e H n ps l Ip Ff K=some r→
  ∃l' rd ups,K l' rd ups=some r∧(∀i∈Ip,i∈rd)∧ ∀H',Ag rd H H'→ ∀K':List e.den→List Nat→jb→Option α,wj e H' n ps l Ip Ff K'=K' l' rd ups
 |[],l,Ip,Ff,K,h=>⟨l,Ip,Ff,h,λ_ h=>h,λ_ _ _=>rfl⟩
 |p::ps,l,Ip,Ff,K,h=>by
  unfold wj at h
  obtain⟨h1,h2⟩:=eD h
  obtain⟨y,rd1,Qa,h3,h4⟩:=oO h1
  obtain⟨l',rd,ups,h5,h6,h7⟩:=Fe h3
  refine⟨l',rd,ups,h5,λi hi=>h6 i (dz _ hi),λH' hA K'=> ?_⟩
  unfold wj
  rw[h2,h4 H' (λi hi=>hA i (h6 i (cW _ hi)))]
  exact h7 H' hA K'
theorem Iq{τ:Ty}{H:Nat→Option bh}: ∀{ps:List (Nat×bD)} {x:τ.den} {Ip:List Nat} {Ff:jb} {K:τ.den→List Nat→jb→Option α},uy τ H ps x Ip Ff K=some r→
  ∃x' rd ups,K x' rd ups=some r∧(∀i∈Ip,i∈rd)∧ ∀H',Ag rd H H'→ ∀K':τ.den→List Nat→jb→Option α,uy τ H' ps x Ip Ff K'=K' x' rd ups
 |[],x,Ip,Ff,K,h=>⟨x,Ip,Ff,h,λ_ h=>h,λ_ _ _=>rfl⟩
 |p::ps,x,Ip,Ff,K,h=>by
  unfold uy at h
  obtain⟨υ,z,h1,h2⟩:=xE h
  obtain⟨y,rd1,Qa,h3,h4⟩:=oO h1
  obtain⟨z',h5,h6⟩:=yW (m:=fun υ' _ k'=>c8 υ υ' y k') (fun υ' y' k hk=>dF hk) h3
  obtain⟨x',rd,ups,h7,h8,h9⟩:=Iq h5
  refine⟨x',rd,ups,h7,λi hi=>h8 i (dz _ hi),λH' hA K'=> ?_⟩
  unfold uy
  rw[h2,h4 H' (λi hi=>hA i (h8 i (cW _ hi))),h6]
  exact h9 H' hA K'
theorem VY{H:Nat→Option bh}{v:bD}{a:Ty}{k:a.den→List Nat→jb→Option α}(h:Ck v H a k=some r):
  ∃x rd ups,k x rd ups=some r∧ ∀H',Ag rd H H'→ ∀k':a.den→List Nat→jb→Option α,Ck v H' a k'=k' x rd ups:=by
 unfold Ck at h
 split at h
 ·split at h
  ·obtain⟨z,h1,h2⟩:=dF h
   refine⟨_,_,_,h1,λH' _ k'=> ?_⟩
   unfold Ck
   simp only
   rw[h2]
  ·cases h
 ·rename_i k0 vN
  obtain⟨y,rd,ups,h1,h2⟩:=oO h
  refine⟨y,rd,ups,h1,λH' hA k'=> ?_⟩
  unfold Ck
  split
  ·exact(vN _ _ rfl HEq.rfl).elim
  ·exact h2 H' hA _
theorem MM{H:Nat→Option bh}: ∀{τ:Ty} {vs:List bD} {k:τ.den→List Nat→jb→Option α},qV H τ vs k=some r→
  ∃x rd ups,k x rd ups=some r∧ ∀H',Ag rd H H'→ ∀k':τ.den→List Nat→jb→Option α,qV H' τ vs k'=k' x rd ups
 | .unit,[],k,h=>⟨(),[],[],h,λ_ _ _=>rfl⟩
 | .pair a b,v::vs,k,h=>by
  unfold qV at h
  obtain⟨y,rd,ups,h1,h2⟩:=VY h
  obtain⟨ys,Bn,ob,h3,h4⟩:=MM h1
  refine⟨(y,ys),_,_,h3,λH' hA k'=> ?_⟩
  unfold qV
  rw[h2 H' (λi hi=>hA i (dz _ hi)),h4 H' (λi hi=>hA i (cW _ hi))]
 | .unit,_::_,_,h=>by simp[qV]at h
 | .pair _ _,[],_,h=>by simp[qV]at h
 | .int _,_,_,h| .bool,_,_,h| .str,_,_,h| .slice _,_,_,h| .arr _ _,_,_,h=>by simp[qV]at h
theorem Fg: ∀{p3:List bD} {H:Nat→Option bh} {K:List bD→List Nat→jb→Option α},wk H p3 K=some r→
  ∃cs rd ups,K cs rd ups=some r∧ ∀H',Ag rd H H'→ ∀K':List bD→List Nat→jb→Option α,wk H' p3 K'=K' cs rd ups
 |[],H,K,h=>⟨[],[],[],h,λ_ _ _=>rfl⟩
 |a::p3,H,K,h=>by
  unfold wk at h
  split at h
  ·rename_i id
   split at h
   ·rename_i τ x bf
    obtain⟨cs,rd,ups,h1,h2⟩:=Fg h
    refine⟨_,_,_,h1,λH' hA K'=> ?_⟩
    unfold wk
    simp only
    rw[hA id (by simp),bf]
    simp only
    rw[h2 (bY H' id (some .gone)) (λi hi=>by
     by_cases bX:i=id
     ·subst bX;rw[ax,ax]
     ·rw[az _ _ bX,az _ _ bX];exact hA i (aY _ hi))]
   ·cases h
  ·rename_i vN
   obtain⟨cs,rd,ups,h1,h2⟩:=Fg h
   refine⟨_,_,_,h1,λH' hA K'=> ?_⟩
   unfold wk
   split
   ·exact absurd rfl (vN _)
   ·rw[h2 H' hA]
end VM
end
section
namespace VM
open Go
variable{α:Type}{r:α}
theorem MN{m:AM}{a:bD}{H:Nat→Option bh}{k:m.den→(Nat→Option bh)→List Nat→jb→jb→List (Nat×AM)→Option α}(h:nZ m a H k=some r):
  ∃y rd uo uf io,∃g:(Nat→Option bh)→(Nat→Option bh),k y (g H) rd uo uf io=some r∧(∀H' i,H' i=H i→g H' i=g H i)∧
   ∀H',Ag rd H H'→ ∀k':m.den→(Nat→Option bh)→List Nat→jb→jb→List (Nat×AM)→Option α,nZ m a H' k'=k' y (g H') rd uo uf io:=by
 have MO: ∀(d:Nat) (v:Option bh) (H':Nat→Option bh) (i:Nat),H' i=H i→bY H' d v i=bY H d v i:=by
  intro d v H' i hi
  by_cases bf:i=d
  ·subst bf;rw[ax,ax]
  ·rw[az _ _ bf,az _ _ bf,hi]
 unfold nZ at h
 split at h
 ·rename_i τ k
  obtain⟨y,rd,ups,h1,h2⟩:=oO h
  cases ups with
  |nil=>
   refine⟨y,rd,[],[],[],λH=>H,h1,λ_ _ h=>h,λH' hA k'=> ?_⟩
   unfold nZ;simp only;rw[h2 H' hA]
  |cons u rest=>
   refine⟨y,rd,[],u::rest,[],λH=>bY H u.1 u.2,h1,λH' i hi=>MO _ _ H' i hi,λH' hA k'=> ?_⟩
   unfold nZ;simp only;rw[h2 H' hA]
 ·rename_i e k
  split at h
  ·exact⟨[],[],[],[],[],λH=>H,h,λ_ _ h=>h,λ_ _ _=>rfl⟩
  ·rename_i id
   split at h
   ·rename_i e' l bf
    obtain⟨z,h1,h2⟩:=dF h
    refine⟨z,[id],_,_,_,λH=>bY H id (some .gone),h1,λH' i hi=>MO _ _ H' i hi,λH' hA k'=> ?_⟩
    unfold nZ;simp only;rw[hA id (by simp),bf];simp only;rw[h2]
   ·cases h
  ·cases h
 ·rename_i τ k
  split at h
  ·rename_i id
   split at h
   ·rename_i υ x bf
    obtain⟨z,h1,h2⟩:=dF h
    refine⟨z,[id],_,_,_,λH=>bY H id (some .gone),h1,λH' i hi=>MO _ _ H' i hi,λH' hA k'=> ?_⟩
    unfold nZ;simp only;rw[hA id (by simp),bf];simp only;rw[h2]
   ·cases h
  ·cases h
 ·rename_i f τ k
  split at h
  ·rename_i f' cs
   obtain⟨h1,h2⟩:=eD h
   obtain⟨x,rd,ups,h3,h4⟩:=MM h1
   cases ups with
   |nil=>
    refine⟨x,rd,[],[],[],λH=>H,h3,λ_ _ h=>h,λH' hA k'=> ?_⟩
    unfold nZ;simp only;rw[h2,h4 H' hA]
   |cons _ _=>cases h3
  ·cases h
 ·cases h
 ·rename_i τ k
  split at h
  ·obtain⟨z,h1,h2⟩:=dF h
   refine⟨z,[],[],[],[],λH=>H,h1,λ_ _ h=>h,λH' hA k'=> ?_⟩
   unfold nZ;simp only;rw[h2]
  ·cases h
 ·rename_i e k
  split at h
  ·rename_i id
   split at h
   ·rename_i e' l bf
    obtain⟨z,h1,h2⟩:=dF h
    refine⟨z,[id],_,_,_,λH=>bY H id (some .gone),h1,λH' i hi=>MO _ _ H' i hi,λH' hA k'=> ?_⟩
    unfold nZ;simp only;rw[hA id (by simp),bf];simp only;rw[h2]
   ·cases h
  ·cases h
theorem MP: ∀{ms:List AM} {p3:List bD} {H:Nat→Option bh} {Ip:List Nat} {uo0 uf0:jb} {io0:List (Nat×AM)} {K:HP ms→List Nat→jb→jb→List (Nat×AM)→Option α},tB ms p3 H Ip uo0 uf0 io0 K=some r→
  ∃x rd uo uf io,K x rd uo uf io=some r∧(∀i∈Ip,i∈rd)∧ ∀H',Ag rd H H'→ ∀K':HP ms→List Nat→jb→jb→List (Nat×AM)→Option α,tB ms p3 H' Ip uo0 uf0 io0 K'=K' x rd uo uf io
 |[],[],H,Ip,uo0,uf0,io0,K,h=>⟨(),_,_,_,_,h,λ_ h=>h,λ_ _ _=>rfl⟩
 |[m],[a],H,Ip,uo0,uf0,io0,K,h=>by
  obtain⟨y,rd,uo,uf,io,g,h1,h2,h3⟩:=MN (h:nZ m a H _=some r)
  exact⟨y,_,_,_,_,h1,λi hi=>dz _ hi,λH' hA K'=>h3 H' (λi hi=>hA i (cW _ hi)) _⟩
 |m::n::ms,a::p3,H,Ip,uo0,uf0,io0,K,h=>by
  obtain⟨y,rd,uo,uf,io,g,h1,h2,h3⟩:=MN (h:nZ m a H _=some r)
  obtain⟨ys,Bn,Lv,Lw,G7,h4,h5,h6⟩:=MP (ms:=n::ms) h1
  refine⟨(y,ys),Bn,Lv,Lw,G7,h4,λi hi=>h5 i (dz _ hi),λH' hA K'=> ?_⟩
  refine(h3 H' (λi hi=>hA i (h5 i (cW _ hi))) _).trans ?_
  exact h6 (g H') (λi hi=>h2 H' i (hA i hi)) _
 |[],_::_,_,_,_,_,_,_,h=>by simp[tB]at h
 |[_],[],_,_,_,_,_,_,h=>by simp[tB]at h
 |[_],_::_::_,_,_,_,_,_,_,h=>by simp[tB]at h
 |_::_::_,[],_,_,_,_,_,_,h=>by simp[tB]at h
theorem VZ{id i:Nat}: ∀{n:Nat},i∈Ml id n↔id≤i∧i<id+n
 |0=>by simp[Ml]
 |n+1=>by simp only[Ml,aX,VZ];omega
theorem yE{H H':Nat→Option bh}{id:Nat}: ∀{n:Nat},(∀i∈Ml id n,H' i=H i)→uz H' id n=uz H id n
 |0,_=>rfl
 |n+1,h=>by
  unfold uz
  rw[h (id+n) (by simp[Ml]),yE λi hi=>h i (by simp[Ml,hi])]
theorem V0{E:Env}{f id:Nat}{p3:List bD}{H:Nat→Option bh}{K:jf α}(h:Cm E f p3 id H K=some r): ∃v rd ups,K v rd ups=some r∧ ∀H',Ag rd H H'→ ∀K':jf α,Cm E f p3 id H' K'=K' v rd ups:=by
 unfold Cm at h
 split at h
 ·cases h
 ·rename_i S hS
  obtain⟨x,rd,uo,uf,io,h1,_,h2⟩:=MP h
  obtain⟨y,hy,h3⟩:=th.1 h1
  obtain⟨h4,h5⟩:=cB h3
  refine⟨_,_,_,h5,λH' hA K'=> ?_⟩
  unfold Cm
  rw[hS]
  simp only
  rw[h2 H' (λi hi=>hA i (dz _ (dz _ hi))),hy]
  simp only[ar]
  rw[yE (λi hi=>hA i (cW _ hi)),h4]
  rfl
theorem To{t:Ty}{z:Bool}{a:bD}{lo hi mx:Option bD}{H:Nat→Option bh}{K:jf α}(h:qW t z a lo hi mx H K=some r): ∃v rd ups,K v rd ups=some r∧ ∀H',Ag rd H H'→ ∀K':jf α,qW t z a lo hi mx H' K'=K' v rd ups:=by
 unfold qW at h
 split at h
 ·obtain⟨h1,e1⟩:=eD h
  obtain⟨l,h2,e2⟩:=uH h1
  obtain⟨m,h3,e3⟩:=uH h2
  obtain⟨h4,e4⟩:=eD h3
  exact⟨_,_,_,h4,λH' _ K'=>by unfold qW;simp only;rw[e1,e2,e3,e4]⟩
 ·cases z
  ·obtain⟨h1,e1⟩:=eD (h:cond mx.isNone _ none=some r)
   obtain⟨l,h2,e2⟩:=uH h1
   obtain⟨m,h3,e3⟩:=uH h2
   obtain⟨h4,e4⟩:=eD h3
   exact⟨_,_,_,h4,λH' _ K'=>by unfold qW;simp only[av];rw[e1,e2,e3,e4]⟩
  ·exact⟨_,_,_,h,λH' _ K'=>by unfold qW;rfl⟩
 ·rename_i e jB
  obtain⟨y,rd,ups,h1,e1⟩:=oO h
  cases z
  ·obtain⟨h2,e2⟩:=eD (h1:cond (mx.isNone||hi.isSome) _ none=some r)
   obtain⟨l,h3,e3⟩:=uH h2
   obtain⟨m,h4,e4⟩:=uH h3
   obtain⟨n,h5,e5⟩:=uH h4
   obtain⟨h6,e6⟩:=eD h5
   refine⟨_,_,_,h6,λH' hA K'=> ?_⟩
   unfold qW
   simp only
   rw[e1 H' hA]
   simp only[av]
   rw[e2,e3,e4,e5,e6]
  ·refine⟨_,_,_,(h1:K .emp rd []=some r),λH' hA K'=> ?_⟩
   unfold qW
   simp only
   rw[e1 H' hA]
   rfl
 ·cases h
theorem HD{τ:Ty}{a i:bD}{H:Nat→Option bh}{K:jf α}(h:gE τ a i H K=some r): ∃v rd ups,K v rd ups=some r∧ ∀H',Ag rd H H'→ ∀K':jf α,gE τ a i H' K'=K' v rd ups:=by
 unfold gE at h
 obtain⟨k,n,h,e0⟩:=sE h
 split at h
 ·split at h
  ·obtain⟨z,h1,e1⟩:=dF h
   obtain⟨h2,e2⟩:=eD h1
   exact⟨_,_,_,h2,λH' _ K'=>by unfold gE;rw[e0];simp only;rw[e1,e2]⟩
  ·split at h
   ·rename_i bf
    obtain⟨h1,e1⟩:=kf h
    obtain⟨h2,e2⟩:=eD h1
    exact⟨_,_,_,h2,λH' hA K'=>by unfold gE;rw[e0];simp only;rw[hA _ (by simp),bf];simp only;rw[e1,e2]⟩
   ·rename_i bf
    obtain⟨h1,e1⟩:=kf h
    obtain⟨h2,e2⟩:=eD h1
    exact⟨_,_,_,h2,λH' hA K'=>by unfold gE;rw[e0];simp only;rw[hA _ (by simp),bf];simp only;rw[e1,e2]⟩
   ·cases h
  ·cases h
 ·split at h
  ·obtain⟨υ,h1,e1⟩:=Bz h
   obtain⟨h2,e2⟩:=kf h1
   obtain⟨h3,e3⟩:=eD h2
   exact⟨_,_,_,h3,λH' hA K'=>by unfold gE;rw[e0];simp only;rw[e1 H' (hA _ (by simp)),e2,e3]⟩
  ·obtain⟨z,h1,e1⟩:=dF h
   obtain⟨h2,e2⟩:=eD h1
   exact⟨_,_,_,h2,λH' _ K'=>by unfold gE;rw[e0];simp only;rw[e1,e2]⟩
  ·cases h
 ·cases h
theorem Tp{τ:Ty}{a i:bD}{K:bD→Option α}(h:wm τ a i K=some r): ∃v,K v=some r∧ ∀K':bD→Option α,wm τ a i K'=K' v:=by
 unfold wm at h
 obtain⟨k,n,h,e0⟩:=sE h
 split at h
 ·obtain⟨z,h1,e1⟩:=dF h
  obtain⟨h2,e2⟩:=eD h1
  exact⟨_,h2,λK'=>by unfold wm;rw[e0];simp only;rw[e1,e2]⟩
 ·obtain⟨h2,e2⟩:=eD h
  exact⟨_,h2,λK'=>by unfold wm;rw[e0];simp only;rw[e2]⟩
 ·cases h
theorem V1{a:bD}{H:Nat→Option bh}{K:(υ:Ty)→υ.den→List Nat→Option α}(h:kW a H K=some r): ∃υ y rd,K υ y rd=some r∧ ∀H',Ag rd H H'→ ∀K':(υ:Ty)→υ.den→List Nat→Option α,kW a H' K'=K' υ y rd:=by
 unfold kW at h
 split at h
 ·exact⟨_,_,_,h,λ_ _ _=>rfl⟩
 ·split at h
  ·rename_i bf
   obtain⟨υ,y,h1,e1⟩:=gX h
   exact⟨_,_,_,h1,λH' hA K'=>by unfold kW;simp only;rw[hA _ (by simp),bf];simp only;rw[e1]⟩
  ·rename_i bf
   split at h
   ·obtain⟨υ,y,h1,e1⟩:=gX h
    exact⟨_,_,_,h1,λH' hA K'=>by unfold kW;simp only;rw[hA _ (by simp),bf];simp only;rw[e1]⟩
   ·cases h
  ·rename_i bf
   split at h
   ·obtain⟨υ,y,h1,e1⟩:=gX h
    exact⟨_,_,_,h1,λH' hA K'=>by unfold kW;simp only;rw[hA _ (by simp),bf];simp only;rw[e1]⟩
   ·cases h
  ·cases h
 ·cases h
theorem Tq{τ:Ty}{a v:bD}{H:Nat→Option bh}{K:jf α}(h:mf τ a v H K=some r): ∃u rd ups,K u rd ups=some r∧ ∀H',Ag rd H H'→ ∀K':jf α,mf τ a v H' K'=K' u rd ups:=by
 unfold mf at h
 split at h
 ·obtain⟨y,rd,ups,h1,e1⟩:=oO h
  split at h1
  ·rename_i bf
   obtain⟨z,h2,e2⟩:=oN h1
   exact⟨_,_,_,h2,λH' hA K'=>by
    unfold mf;simp only
    rw[e1 H' (λi hi=>hA i (aY _ hi))]
    rw[hA _ (by simp),bf];simp only;rw[e2]⟩
  ·rename_i bf
   split at h1
   ·obtain⟨h2,e2⟩:=tL h1
    obtain⟨z,h3,e3⟩:=oN h2
    exact⟨_,_,_,h3,λH' hA K'=>by
     unfold mf;simp only
     rw[e1 H' (λi hi=>hA i (aY _ hi))]
     rw[hA _ (by simp),bf];simp only;rw[e2,e3]⟩
   ·cases h1
  ·cases h1
 ·cases h
theorem ZL{j:Nat}{q:List Step}{τ:Ty}{x:τ.den}{H:Nat→Option bh}{k:τ.den→jb→Option α}(h:Dh j q τ x H k=some r): ∃z ups,k z ups=some r∧ ∀H',H' j=H j→ ∀k':τ.den→jb→Option α,Dh j q τ x H' k'=k' z ups:=by
 unfold Dh at h
 split at h
 ·rename_i hj
  obtain⟨z,h1,e1⟩:=oN h
  exact⟨_,_,h1,λH' hA k'=>by unfold Dh;rw[hA,hj];simp only;rw[e1]⟩
 ·rename_i hj
  obtain⟨z,h1,e1⟩:=oN h
  exact⟨_,_,h1,λH' hA k'=>by unfold Dh;rw[hA,hj];simp only;rw[e1]⟩
 ·cases h
abbrev Pts(F:(Nat→Option bh)→jf α→Option α)(H:Nat→Option bh)(K:jf α)(r:α):Prop:=
 ∃v rd ups,K v rd ups=some r∧ ∀H',Ag rd H H'→ ∀K':jf α,F H' K'=K' v rd ups
theorem V2{τ:Ty}{a:bD}{H:Nat→Option bh}{K:jf α}(h:(kW a H fun υ y rd=>c8 υ τ y λz=>K (.val τ z) rd [])=some r):
  Pts (λH K=>kW a H fun υ y rd=>c8 υ τ y λz=>K (.val τ z) rd []) H K r:=by
 obtain⟨υ,y,rd,h1,e1⟩:=V1 h
 obtain⟨z,h2,e2⟩:=dF h1
 exact⟨_,_,_,h2,λH' hA K'=>by simp only;rw[e1 H' hA,e2]⟩
theorem al3{id:Nat}{p:List Step}{H:Nat→Option bh}{K:(υ:Ty)→υ.den→List Nat→Option α}(h:kW (.jr id p) H K=some r): ∃υ y,K υ y [id]=some r:=by
 unfold kW at h
 simp only at h
 split at h
 ·obtain⟨υ,y,h1,_⟩:=gX h;exact⟨υ,y,h1⟩
 ·split at h
  ·obtain⟨υ,y,h1,_⟩:=gX h;exact⟨υ,y,h1⟩
  ·cases h
 ·split at h
  ·obtain⟨υ,y,h1,_⟩:=gX h;exact⟨υ,y,h1⟩
  ·cases h
 ·cases h
theorem V3{τ:Ty}{id:Nat}{p:List Step}{H:Nat→Option bh}{K:jf α}(h:(kW (.jr id p) H fun υ y rd=>c8 υ τ y λz=>K (.val τ z) rd [])=some r):
  ∃z,K (.val τ z) [id] []=some r∧ ∀H',H' id=H id→ ∀K':jf α,(kW (.jr id p) H' fun υ y rd=>c8 υ τ y λz=>K' (.val τ z) rd [])=K' (.val τ z) [id] []:=by
 unfold kW at h
 simp only at h
 split at h
 ·rename_i bf
  obtain⟨υ,y,h1,e1⟩:=gX h
  obtain⟨z,h2,e2⟩:=dF h1
  exact⟨_,h2,λH' hA K'=>by unfold kW;simp only;rw[hA,bf];simp only;rw[e1,e2]⟩
 ·rename_i bf
  split at h
  ·obtain⟨υ,y,h1,e1⟩:=gX h
   obtain⟨z,h2,e2⟩:=dF h1
   exact⟨_,h2,λH' hA K'=>by unfold kW;simp only;rw[hA,bf];simp only;rw[e1,e2]⟩
  ·cases h
 ·rename_i bf
  split at h
  ·obtain⟨υ,y,h1,e1⟩:=gX h
   obtain⟨z,h2,e2⟩:=dF h1
   exact⟨_,h2,λH' hA K'=>by unfold kW;simp only;rw[hA,bf];simp only;rw[e1,e2]⟩
  ·cases h
 ·cases h
theorem V4{τ:Ty}{a:bD}{H:Nat→Option bh}{K:jf α}(h:vm τ a H K=some r):Pts (vm τ a) H K r:=by
 unfold vm at h
 simp only at h
 split at h
 ·rename_i id p
  split at h
  ·rename_i υ x q j bf
   cases hp:Me p q
   ·cases G8:yb p q
    ·rw[hp,G8]at h
     simp only[av]at h
     obtain⟨υ',y,h1,e1⟩:=gX h
     obtain⟨z,h2,e2⟩:=dF h1
     exact⟨_,_,_,h2,λH' hA K'=>by
      unfold vm;simp only;rw[hA id (by simp),bf];simp only
      rw[hp,G8];simp only[av];rw[e1,e2]⟩
    ·rw[hp,G8]at h
     simp only[av,aq]at h
     obtain⟨z,ups,h1,e1⟩:=ZL h
     obtain⟨υ',y,h2,e2⟩:=gX h1
     obtain⟨z',h3,e3⟩:=dF h2
     exact⟨_,_,_,h3,λH' hA K'=>by
      unfold vm;simp only;rw[hA id (by simp),bf];simp only
      rw[hp,G8];simp only[av,aq];rw[e1 H' (hA j (by simp)),e2,e3]⟩
   ·rw[hp]at h
    simp only[aq]at h
    obtain⟨h1,e1⟩:=eD h
    exact⟨_,_,_,h1,λH' hA K'=>by
     unfold vm;simp only;rw[hA id (by simp),bf];simp only
     rw[hp];simp only[aq];rw[e1]⟩
  ·rename_i vN
   obtain⟨z,h1,e1⟩:=V3 h
   refine⟨_,_,_,h1,λH' hA K'=> ?_⟩
   unfold vm;simp only;rw[hA id (by simp)]
   split
   ·rename_i bf;exact absurd bf (vN _ _ _ _)
   ·exact e1 H' (hA id (by simp)) K'
 ·rename_i vN
  obtain⟨v,rd,ups,h1,e1⟩:=V2 h
  refine⟨v,rd,ups,h1,λH' hA K'=> ?_⟩
  have:vm τ a H' K'=kW a H' fun υ y rd=>c8 υ τ y λz=>K' (.val τ z) rd []:=by
   unfold vm
   cases a<;>first|rfl|exact absurd rfl (vN _ _)
  rw[this]
  exact e1 H' hA K'
theorem MQ{τ:Ty}{id k:Nat}{e:Ty}{q:List Step}{υ:Ty}{x:υ.den}{H:Nat→Option bh}{K:jf α}(h:Cn τ id k e q υ x H K=some r):
  ∃v ups,K v [id,k] ups=some r∧ ∀H',H' k=H k→ ∀K':jf α,Cn τ id k e q υ x H' K'=K' v [id,k] ups:=by
 unfold Cn at h
 split at h
 ·rename_i bf
  obtain⟨h1,e1⟩:=kf h
  obtain⟨h2,e2⟩:=kf h1
  obtain⟨z,h3,e3⟩:=oN h2
  exact⟨_,_,h3,λH' hA K'=>by unfold Cn;rw[hA,bf];simp only;rw[e1,e2,e3]⟩
 ·cases h
theorem BA{τ:Ty}{id:Nat}{p:List Step}{v:bD}{H:Nat→Option bh}{K:jf α}(h:mf τ (.jr id p) v H K=some r):
  ∃u rd ups,id∈rd∧K u rd ups=some r∧ ∀H',Ag rd H H'→ ∀K':jf α,mf τ (.jr id p) v H' K'=K' u rd ups:=by
 unfold mf at h
 simp only at h
 obtain⟨y,rd,ups,h1,e1⟩:=oO h
 split at h1
 ·rename_i bf
  obtain⟨z,h2,e2⟩:=oN h1
  exact⟨_,_,_,by simp,h2,λH' hA K'=>by
   unfold mf;simp only
   rw[e1 H' (λi hi=>hA i (aY _ hi))]
   rw[hA _ (by simp),bf];simp only;rw[e2]⟩
 ·rename_i bf
  split at h1
  ·obtain⟨h2,e2⟩:=tL h1
   obtain⟨z,h3,e3⟩:=oN h2
   exact⟨_,_,_,by simp,h3,λH' hA K'=>by
    unfold mf;simp only
    rw[e1 H' (λi hi=>hA i (aY _ hi))]
    rw[hA _ (by simp),bf];simp only;rw[e2,e3]⟩
  ·cases h1
 ·cases h1
theorem BB{E:Env}{τ:Ty}{a v:bD}{H:Nat→Option bh}{K:jf α}(h:kb E τ a v H K=some r):
  ∃u rd ups,K u rd ups=some r∧ ∀H',Ag rd H H'→ ∀K':jf α,kb E τ a v H' K'=K' u rd ups:=by
 have h0:=h
 unfold kb at h
 simp only at h
 split at h
 ·rename_i id p
  split at h
  ·rename_i υ x bf
   split at h
   ·rename_i q e k sZ
    cases hp:Me p q
    ·rw[hp]at h
     simp only[av]at h
     obtain⟨u,rd,ups,hi,h1,e1⟩:=BA h
     refine⟨u,rd,ups,h1,λH' hA K'=> ?_⟩
     unfold kb;simp only;rw[hA id hi,bf];simp only;rw[sZ];simp only;rw[hp];simp only[av]
     exact e1 H' hA K'
    ·rw[hp]at h
     simp only[aq]at h
     obtain⟨u,ups,h1,e1⟩:=MQ h
     refine⟨u,_,ups,h1,λH' hA K'=> ?_⟩
     unfold kb;simp only;rw[hA id (by simp),bf];simp only;rw[sZ];simp only;rw[hp];simp only[aq]
     exact e1 H' (hA k (by simp)) K'
   ·rename_i vN
    obtain⟨u,rd,ups,hi,h1,e1⟩:=BA h
    refine⟨u,rd,ups,h1,λH' hA K'=> ?_⟩
    unfold kb;simp only;rw[hA id hi,bf];simp only
    exact e1 H' hA K'
  ·rename_i υ x q j bf
   have Aa:(mc true v H τ λy rd ups=>vC τ y p υ x λz=>K .any (id::rd) (ups++[(id,some (cond (yb p q) (.obj υ z) (.gk υ z q j)))]))=some r→
     ∃u rd ups,id∈rd∧K u rd ups=some r∧ ∀H',Ag rd H H'→ ∀K':jf α,(mc true v H' τ λy rd ups=>vC τ y p υ x λz=>K' .any (id::rd) (ups++[(id,some (cond (yb p q) (.obj υ z) (.gk υ z q j)))]))=K' u rd ups:=by
    intro h
    obtain⟨y,rd,ups,h1,e1⟩:=oO h
    obtain⟨z,h2,e2⟩:=oN h1
    exact⟨_,_,_,by simp,h2,λH' hA K'=>by rw[e1 H' (λi hi=>hA i (aY _ hi)),e2]⟩
   split at h
   ·rename_i q' e k sZ
    cases hp:(Me p q&&Me q q')
    ·rw[hp]at h
     simp only[av]at h
     obtain⟨u,rd,ups,hi,h1,e1⟩:=Aa h
     refine⟨u,rd,ups,h1,λH' hA K'=> ?_⟩
     unfold kb;simp only;rw[hA id hi,bf];simp only;rw[sZ];simp only;rw[hp];simp only[av]
     exact e1 H' hA K'
    ·rw[hp]at h
     simp only[aq]at h
     obtain⟨u,ups,h1,e1⟩:=MQ h
     refine⟨u,_,ups,h1,λH' hA K'=> ?_⟩
     unfold kb;simp only;rw[hA id (by simp),bf];simp only;rw[sZ];simp only;rw[hp];simp only[aq]
     exact e1 H' (hA k (by simp)) K'
   ·rename_i vN
    obtain⟨u,rd,ups,hi,h1,e1⟩:=Aa h
    refine⟨u,rd,ups,h1,λH' hA K'=> ?_⟩
    unfold kb;simp only;rw[hA id hi,bf];simp only
    exact e1 H' hA K'
  ·rename_i are arf
   obtain⟨u,rd,ups,hi,h1,e1⟩:=BA h
   refine⟨u,rd,ups,h1,λH' hA K'=> ?_⟩
   unfold kb;simp only;rw[hA id hi]
   split
   ·rename_i bf;exact absurd bf (are _ _)
   ·rename_i bf;exact absurd bf (arf _ _ _ _)
   ·exact e1 H' hA K'
 ·rename_i vN
  obtain⟨u,rd,ups,h1,e1⟩:=Tq h
  refine⟨u,rd,ups,h1,λH' hA K'=> ?_⟩
  have:kb E τ a v H' K'=mf τ a v H' K':=by
   unfold kb
   cases a<;>first|rfl|exact absurd rfl (vN _ _)
  rw[this]
  exact e1 H' hA K'
theorem Ts{E:Env}{τ:Ty}{a v:bD}{H:Nat→Option bh}{K:jf α}(h:sW E τ a v H K=some r):
  ∃u rd ups,K u rd ups=some r∧ ∀H',Ag rd H H'→ ∀K':jf α,sW E τ a v H' K'=K' u rd ups:=by
 unfold sW at h
 split at h
 ·rename_i id υ y n
  split at h
  ·rename_i m e sZ
   cases EX:Nat.beq m n
   ·rw[EX]at h
    simp only[av]at h
    obtain⟨u,rd,ups,h1,e1⟩:=BB h
    exact⟨u,rd,ups,h1,λH' hA K'=>by unfold sW;simp only;rw[sZ];simp only;rw[EX];simp only[av];exact e1 H' hA K'⟩
   ·rw[EX]at h
    simp only[aq]at h
    obtain⟨h1,e1⟩:=kf h
    obtain⟨υ',h2,e2⟩:=Bz h1
    obtain⟨h3,e3⟩:=kf h2
    obtain⟨h4,e4⟩:=xF h3
    exact⟨_,_,_,h4,λH' hA K'=>by unfold sW;simp only;rw[sZ];simp only;rw[EX];simp only[aq];rw[e1,e2 H' (hA _ (by simp)),e3,e4 H' (hA _ (by simp))]⟩
  ·rename_i vN
   obtain⟨u,rd,ups,h1,e1⟩:=BB h
   refine⟨u,rd,ups,h1,λH' hA K'=> ?_⟩
   unfold sW;simp only
   exact e1 H' hA K'
 ·rename_i vN
  obtain⟨u,rd,ups,h1,e1⟩:=BB h
  refine⟨u,rd,ups,h1,λH' hA K'=> ?_⟩
  unfold sW
  split
  ·exact absurd rfl (vN _ _ _ _ rfl)
  ·exact e1 H' hA K'
theorem RN{H:Nat→Option bh}{id:Nat}{τ:Ty}{x:τ.den}{q:List Step}{e:Ty}{K:jf α}(h:Di H id τ x q e K=some r):Pts (λH K=>Di H id τ x q e K) H K r:=by
 obtain⟨h1,h2,h3⟩:=EW h
 exact⟨_,_,_,h3,λH' hA K'=>by unfold Di qU;simp only;rw[hA id (by simp),h1,hA (id+1) (by simp),h2]⟩
theorem ahq{E:Env}{o:Oper}{ρ:Operand→bD}{H:Nat→Option bh}{K:jf α}(h:td E o ρ H K=some r):
  ∃v rd ups,K v rd ups=some r∧ ∀ρ' H',(∀x∈o.op.operands,ρ' x=ρ x)→Ag rd H H'→ ∀K':jf α,td E o ρ' H' K'=K' v rd ups:=by
 obtain⟨dst,op,type,pos,after,guard⟩:=o
 unfold td at h
 simp only at h
 have ZM: ∀{ρ':Operand→bD} (xs:List Operand),(∀x∈xs,ρ' x=ρ x)→xs.map ρ'=xs.map ρ:=λxs hx=>qG hx
 have Qe: ∀{ρ':Operand→bD} (ps:Array (Nat×Operand)),(∀x∈ps.map (·.2),ρ' x=ρ x)→partsOf ρ' ps=partsOf ρ ps:=λps hp=>by
  unfold partsOf
  exact qG λp hm=>by rw[hp p.2 (Array.mem_map.2 ⟨p,by simpa using hm,rfl⟩)]
 have ahr: ∀{ρ':Operand→bD} (x:Option Operand),(∀y∈x,ρ' y=ρ y)→x.map ρ'=x.map ρ:=λx hx=>by
  cases x with
  |none=>rfl
  |some x=>simp[hx x rfl]
 split at h
 ·
  rename_i x
  exact⟨_,_,_,h,fun ρ' H' hx _ K'=>by unfold td;simp only;rw[hx x (by simp[Op.operands])]⟩
 ·rename_i x
  exact⟨_,_,_,h,fun ρ' H' hx _ K'=>by unfold td;simp only;rw[hx x (by simp[Op.operands])]⟩
 ·rename_i x y z
  split at h
  ·rename_i t hx
   cases t
   ·exact⟨_,_,_,(h:K (ρ z) [] []=some r),fun ρ' H' o0 _ K'=>by unfold td;simp only;rw[o0 x (by simp[Op.operands]),hx,o0 z (by simp[Op.operands])];rfl⟩
   ·exact⟨_,_,_,(h:K (ρ y) [] []=some r),fun ρ' H' o0 _ K'=>by unfold td;simp only;rw[o0 x (by simp[Op.operands]),hx,o0 y (by simp[Op.operands])];rfl⟩
  ·cases h
 ·
  split at h
  ·rename_i τ ht
   split at h
   ·rename_i q e sZ
    obtain⟨v,rd,ups,h1,e1⟩:=RN h
    exact⟨_,_,_,h1,fun ρ' H' hx hA K'=>by unfold td;simp only;rw[ht];simp only;rw[sZ];exact e1 H' hA K'⟩
   ·rename_i sZ
    obtain⟨h1,e1⟩:=xF h
    exact⟨_,_,_,h1,fun ρ' H' hx hA K'=>by unfold td;simp only;rw[ht];simp only;rw[sZ];simp only;rw[e1 H' (hA _ (by simp))]⟩
  ·cases h
 ·
  rename_i t x
  split at h
  ·rename_i τ ht
   have hold:(mc true (ρ x) H τ λy rd ups=>qU H (16*dst.getD 0) (.obj τ y) (K (.jr (16*dst.getD 0) []) (16*dst.getD 0::rd) (ups++[(16*dst.getD 0,some (.obj τ y))])))=some r→
     Pts (λH K=>mc true (ρ x) H τ λy rd ups=>qU H (16*dst.getD 0) (.obj τ y) (K (.jr (16*dst.getD 0) []) (16*dst.getD 0::rd) (ups++[(16*dst.getD 0,some (.obj τ y))]))) H K r:=by
    intro h
    obtain⟨y,rd,ups,h1,e1⟩:=oO h
    obtain⟨h2,e2⟩:=xF h1
    exact⟨_,_,_,h2,λH' hA K'=>by simp only;rw[e1 H' (λi hi=>hA i (aY _ hi)),e2 H' (hA _ (by simp))]⟩
   split at h
   ·rename_i m e υ y n sZ V5
    cases EX:Nat.beq m n
    ·rw[EX]at h
     obtain⟨v,rd,ups,h1,e1⟩:=hold h
     refine⟨_,_,_,h1,fun ρ' H' hx hA K'=> ?_⟩
     unfold td;simp only;rw[ht];simp only
     rw[hx x (by simp[Op.operands]),sZ,V5];simp only
     rw[EX]
     have:=e1 H' hA K'
     rw[V5]at this
     exact this
    ·rw[EX]at h
     simp only[aq]at h
     obtain⟨z,h1,e1⟩:=dF h
     obtain⟨v,rd,ups,h2,e2⟩:=RN h1
     refine⟨_,_,_,h2,fun ρ' H' hx hA K'=> ?_⟩
     unfold td;simp only;rw[ht];simp only
     rw[hx x (by simp[Op.operands]),sZ,V5];simp only
     rw[EX];simp only[aq]
     rw[e1]
     exact e2 H' hA K'
   ·rename_i vN
    obtain⟨v,rd,ups,h1,e1⟩:=hold h
    refine⟨_,_,_,h1,fun ρ' H' hx hA K'=> ?_⟩
    unfold td;simp only;rw[ht];simp only
    rw[hx x (by simp[Op.operands])]
    split
    ·rename_i sZ V5;exact absurd V5 (vN _ _ _ _ _ sZ)
    ·exact e1 H' hA K'
  ·cases h
 ·
  rename_i t ps
  split at h
  ·rename_i n e ht
   obtain⟨l,rd,ups,h1,_,e1⟩:=Fe h
   exact⟨_,_,_,h1,fun ρ' H' hx hA K'=>by unfold td;simp only;rw[ht];simp only;rw[Qe ps (λx o0=>hx x (by simpa [Op.operands]using o0)),e1 H' hA]⟩
  ·rename_i τ hna ht
   obtain⟨h0,e0⟩:=eD h
   obtain⟨l,rd,ups,h1,_,e1⟩:=Iq h0
   refine⟨_,_,_,h1,fun ρ' H' hx hA K'=> ?_⟩
   unfold td;simp only;rw[ht]
   have: ∀{β:Type} (A:Nat→Ty→β) (B:Ty→β),(match some τ with|some (.arr n e)=>A n e|some τ=>B τ|none=>B τ)=B τ:=by
    intro β A B
    cases τ<;>first|rfl|exact absurd rfl (hna _ _)
   cases τ with
   |arr n e=>exact absurd rfl (hna n e)
   |_=>
    simp only
    rw[Qe ps (λx o0=>hx x (by simpa [Op.operands]using o0)),e0,e1 H' hA]
  ·cases h
 ·
  rename_i t n ps
  split at h
  ·rename_i e ht
   obtain⟨h0,e0⟩:=eD h
   obtain⟨h1,e1⟩:=xF h0
   obtain⟨l,rd,ups,h2,_,e2⟩:=Fe h1
   exact⟨_,_,_,h2,fun ρ' H' hx hA K'=>by
    unfold td;simp only;rw[ht];simp only
    rw[e0,e1 H' (hA _ (by simp)),Qe ps (λx o0=>hx x (by simpa [Op.operands]using o0)),e2 H' (λi hi=>hA i (aY _ hi))]⟩
  ·cases h
 ·
  rename_i t x
  split at h
  ·rename_i τ ht
   obtain⟨v,rd,ups,h1,e1⟩:=V4 h
   exact⟨_,_,_,h1,fun ρ' H' hx hA K'=>by unfold td;simp only;rw[ht];simp only;rw[hx x (by simp[Op.operands]),e1 H' hA]⟩
  ·cases h
 ·
  rename_i t x y
  split at h
  ·rename_i τ ht
   obtain⟨u,rd,ups,h1,e1⟩:=Ts h
   exact⟨_,_,_,h1,fun ρ' H' hx hA K'=>by unfold td;simp only;rw[ht];simp only;rw[hx x (by simp[Op.operands]),hx y (by simp[Op.operands]),e1 H' hA]⟩
  ·cases h
 ·
  rename_i x
  split at h
  ·rename_i id p hx
   exact⟨_,_,_,h,fun ρ' H' o0 _ K'=>by unfold td;simp only;rw[o0 x (by simp[Op.operands]),hx]⟩
  ·rename_i τ z hx
   exact⟨_,_,_,h,fun ρ' H' o0 _ K'=>by unfold td;simp only;rw[o0 x (by simp[Op.operands]),hx]⟩
  ·cases h
 ·
  rename_i b t x y t'
  obtain⟨τ,x1,h1,e1⟩:=RM h
  obtain⟨υ,y1,h2,e2⟩:=RM h1
  obtain⟨v,h3,e3⟩:=VX h2
  exact⟨_,_,_,h3,fun ρ' H' hx _ K'=>by unfold td;simp only;rw[hx x (by simp[Op.operands]),hx y (by simp[Op.operands]),e1,e2,e3]⟩
 ·
  rename_i u t x
  obtain⟨v,h1,e1⟩:=ZI h
  exact⟨_,_,_,h1,fun ρ' H' hx _ K'=>by unfold td;simp only;rw[hx x (by simp[Op.operands]),e1]⟩
 ·
  rename_i s d x
  split at h
  ·rename_i τ k hs hd
   obtain⟨i,n,h1,e1⟩:=sE h
   exact⟨_,_,_,h1,fun ρ' H' hx _ K'=>by unfold td;simp only;rw[hs,hd];simp only;rw[hx x (by simp[Op.operands]),e1]⟩
  ·cases h
 ·
  rename_i f first caps
  obtain⟨h1,e1⟩:=eD h
  obtain⟨cs,rd,ups,h3,e3⟩:=Fg h1
  exact⟨_,_,_,h3,fun ρ' H' hx hA K'=>by unfold td;simp only;rw[ZM caps.toList (λx o0=>hx x (by simp[Op.operands];exact .inr (by simpa using o0))),e1,e3 H' hA]⟩
 ·
  rename_i t x y
  split at h
  ·rename_i e ht
   obtain⟨i,n,h1,e1⟩:=sE h
   obtain⟨i',n',h2,e2⟩:=sE h1
   obtain⟨h3,e3⟩:=eD h2
   obtain⟨h4,e4⟩:=xF h3
   exact⟨_,_,_,h4,fun ρ' H' hx hA K'=>by
    unfold td;simp only;rw[ht];simp only
    rw[hx x (by simp[Op.operands]),e1,hx y (by simp[Op.operands]),e2,e3,e4 H' (hA _ (by simp))]⟩
  ·cases h
 ·
  rename_i t x lo hi mx
  split at h
  ·rename_i τ ht
   obtain⟨v,rd,ups,h1,e1⟩:=To h
   exact⟨_,_,_,h1,fun ρ' H' hx hA K'=>by
    unfold td;simp only;rw[ht];simp only
    rw[hx x (by simp[Op.operands]),ahr lo (λy hy=>hx y (by simp at hy;simp[Op.operands,hy])),ahr hi (λy hy=>hx y (by simp at hy;simp[Op.operands,hy])),ahr mx (λy hy=>hx y (by simp at hy;simp[Op.operands,hy])),e1 H' hA]⟩
  ·cases h
 ·
  rename_i t x n
  split at h
  ·rename_i τ ht
   split at h
   ·rename_i id p hx
    obtain⟨υ,h1,e1⟩:=Bz h
    obtain⟨h2,e2⟩:=kf h1
    obtain⟨υ',y',h3,e3⟩:=xE h2
    obtain⟨h4,e4⟩:=tL h3
    exact⟨_,_,_,h4,fun ρ' H' o0 hA K'=>by
     unfold td;simp only;rw[ht];simp only
     rw[o0 x (by simp[Op.operands]),hx];simp only
     rw[e1 H' (hA _ (by simp)),e2,e3,e4]⟩
   ·rename_i υ z hx
    obtain⟨h2,e2⟩:=kf h
    obtain⟨υ',y',h3,e3⟩:=xE h2
    obtain⟨h4,e4⟩:=tL h3
    exact⟨_,_,_,h4,fun ρ' H' o0 hA K'=>by
     unfold td;simp only;rw[ht];simp only
     rw[o0 x (by simp[Op.operands]),hx];simp only
     rw[e2,e3,e4]⟩
   ·cases h
  ·cases h
 ·
  rename_i t x n
  split at h
  ·rename_i τ ht
   split at h
   ·rename_i υ z hx
    obtain⟨h2,e2⟩:=kf h
    obtain⟨υ',y',h3,e3⟩:=xE h2
    exact⟨_,_,_,h3,fun ρ' H' o0 hA K'=>by
     unfold td;simp only;rw[ht];simp only
     rw[o0 x (by simp[Op.operands]),hx];simp only
     rw[e2,e3]⟩
   ·cases h
  ·cases h
 ·
  rename_i t x i
  split at h
  ·rename_i τ ht
   obtain⟨v,rd,ups,h1,e1⟩:=HD h
   exact⟨_,_,_,h1,fun ρ' H' hx hA K'=>by unfold td;simp only;rw[ht];simp only;rw[hx x (by simp[Op.operands]),hx i (by simp[Op.operands]),e1 H' hA]⟩
  ·cases h
 ·
  rename_i t x i
  split at h
  ·rename_i τ ht
   obtain⟨v,h1,e1⟩:=Tp h
   exact⟨_,_,_,h1,fun ρ' H' hx hA K'=>by unfold td;simp only;rw[ht];simp only;rw[hx x (by simp[Op.operands]),hx i (by simp[Op.operands]),e1]⟩
  ·cases h
 ·
  rename_i x i
  split at h
  ·rename_i vs hx
   split at h
   ·rename_i v hv
    exact⟨_,_,_,h,fun ρ' H' o0 hA K'=>by unfold td;simp only;rw[o0 x (by simp[Op.operands]),hx];simp only;rw[hv]⟩
   ·cases h
  ·cases h
 ·
  rename_i cl
  obtain⟨callee,args,ts⟩:=cl
  simp only at h
  have yl: ∀{ρ':Operand→bD},(∀x∈(Op.call {callee,args,argTypes:=ts}).operands,ρ' x=ρ x)→ ∀x∈args.toList,ρ' x=ρ x:=
   λhx x o0=>hx x (by simp[Op.operands,Call.operands];exact .inr (by simpa using o0))
  split at h
  ·split at h
   ·rename_i x τ ha ht
    obtain⟨v,rd,ups,h1,e1⟩:=ZJ h
    exact⟨_,_,_,h1,fun ρ' H' hx hA K'=>by unfold td;simp only;rw[ha,ht];simp only;rw[yl hx x (by rw[ha];simp),e1 H' hA]⟩
   ·cases h
  ·split at h
   ·rename_i x y t t' ha ht
    split at h
    ·rename_i e hte
     obtain⟨h1,e1⟩:=eD h
     obtain⟨h2,e2⟩:=xF h1
     obtain⟨v,rd,ups,h3,bf,e3⟩:=ZK h2
     exact⟨_,_,_,h3,fun ρ' H' hx hA K'=>by
      unfold td;simp only;rw[ha,ht];simp only;rw[hte];simp only
      rw[e1,e2 H' (hA _ bf),yl hx x (by rw[ha];simp),yl hx y (by rw[ha];simp),e3 H' hA]⟩
    ·cases h
   ·cases h
  ·split at h
   ·rename_i x xs ha
    obtain⟨v,h1,e1⟩:=Qd h
    exact⟨_,_,_,h1,fun ρ' H' hx hA K'=>by
     unfold td;simp only;rw[ha];simp only
     rw[yl hx x (by rw[ha];simp),ZM xs (λy hy=>yl hx y (by rw[ha];simp[hy])),e1]⟩
   ·cases h
  ·split at h
   ·rename_i x xs ha
    obtain⟨v,h1,e1⟩:=Qd h
    exact⟨_,_,_,h1,fun ρ' H' hx hA K'=>by
     unfold td;simp only;rw[ha];simp only
     rw[yl hx x (by rw[ha];simp),ZM xs (λy hy=>yl hx y (by rw[ha];simp[hy])),e1]⟩
   ·cases h
  ·rename_i g
   split at h
   ·rename_i f caps hg
    obtain⟨v,rd,ups,h1,e1⟩:=V0 h
    exact⟨_,_,_,h1,fun ρ' H' hx hA K'=>by
     unfold td;simp only
     rw[hx g (by simp[Op.operands,Call.operands]),hg];simp only
     rw[ZM args.toList (yl hx),e1 H' hA]⟩
   ·cases h
  ·cases h
 ·cases h
end VM
end
section
namespace VM
open Go
variable{P:Program}{E:Env}{o:Oper}{a:Act}{w:World}{M:Nat→Prop}{ν:Nat→Value}{σ:St}{c:Ctx}{α:Type}{r:α}{next:Act→World→Prop}{Q:Exit→Act→World→Prop}
structure Out where
 dst:Option Nat
 v:bD
 rd:List Nat
 ups:jb
def Out.app(u:Out)(σ:St):St:=(σ.wg u.ups).vB u.dst u.v
theorem MR(σ:St)(d:Nat)(v:bD):(σ.vB (some d) v).T d=v:=uE σ d v
theorem Tt(σ:St){d:Option Nat}{t:Nat}(v:bD)(h:d≠some t):(σ.vB d v).T t=σ.T t:=by
 cases d with
 |none=>rfl
 |some d=>exact Ah σ v (λe=>h (by rw[e]))
theorem ahs(σ:St)(d:Option Nat)(v:bD):(σ.vB d v).H=σ.H:=by cases d<;>rfl
theorem Qf{u:Out}{t:Nat}(h:u.dst=some t)(σ:St):(u.app σ).T t=u.v:=by unfold Out.app;rw[h];exact MR _ _ _
theorem V6{u:Out}{t:Nat}(h:u.dst≠some t)(σ:St):(u.app σ).T t=σ.T t:=by unfold Out.app;rw[Tt _ _ h,P5]
theorem al4(u:Out)(σ:St):(u.app σ).H=c5 σ.H u.ups:=by unfold Out.app;rw[ahs,P4]
def Pt(E:Env)(ops:List Oper)(o:Oper)(σ:St)(u:Out)(α:Type):Prop:=
 u.dst=o.dst∧ ∀σ':St,(∀t∈names ops o,σ'.T t=σ.T t)→Ag u.rd σ.H σ'.H→ ∀K':St→List Nat→List Nat→Option α,tC E ops o σ' K'=K' (u.app σ') u.rd (u.ups.map (·.1))
theorem V7{ops:List Oper}{K:St→List Nat→List Nat→Option α}(h:tC E ops o σ K=some r): ∃u:Out,K (u.app σ) u.rd (u.ups.map (·.1))=some r∧Pt E ops o σ u α:=by
 unfold tC at h
 obtain⟨h,e0⟩:=eD h
 have arh: ∀σ':St,(∀t∈names ops o,σ'.T t=σ.T t)→ ∀x∈o.op.operands,σ'.ρ x=σ.ρ x:=by
  intro σ' hT x hx
  cases x with
  |tmp t=>
   refine hT t ?_
   unfold names
   refine cW _ (List.mem_filterMap.2 ⟨.tmp t,by simpa using hx,rfl⟩)
  |_=>rfl
 have dE:td E o σ.ρ σ.H (λv rd ups=>K ((σ.wg ups).vB o.dst v) rd (ups.map (·.1)))=some r→
   ∃u:Out,K (u.app σ) u.rd (u.ups.map (·.1))=some r∧u.dst=o.dst∧ ∀σ':St,(∀t∈names ops o,σ'.T t=σ.T t)→Ag u.rd σ.H σ'.H→ ∀K':St→List Nat→List Nat→Option α,
    td E o σ'.ρ σ'.H (λv rd ups=>K' ((σ'.wg ups).vB o.dst v) rd (ups.map (·.1)))=K' (u.app σ') u.rd (u.ups.map (·.1)):=by
  intro h
  obtain⟨v,rd,ups,h1,h2⟩:=ahq h
  exact⟨⟨o.dst,v,rd,ups⟩,h1,rfl,fun σ' hT hA K'=>h2 σ'.ρ σ'.H (arh σ' hT) hA _⟩
 have sD: ∀{K:St→List Nat→List Nat→Option α},K (σ.vB o.dst .Vt) [] []=some r→ ∃u:Out,K (u.app σ) u.rd (u.ups.map (·.1))=some r∧u.dst=o.dst∧ ∀σ':St,∀K':St→List Nat→List Nat→Option α,K' (σ'.vB o.dst .Vt) [] []=K' (u.app σ') u.rd (u.ups.map (·.1)):=
  λh=>⟨⟨o.dst,.Vt,[],[]⟩,h,rfl,λ_ _=>rfl⟩
 simp only at h
 split at h
 ·rename_i hg
  obtain⟨u,h1,h2,h3⟩:=dE h
  refine⟨u,h1,h2,fun σ' hT hA K'=> ?_⟩
  unfold tC
  rw[e0]
  simp only
  rw[hg]
  exact h3 σ' hT hA K'
 ·rename_i j want hg
  split at h
  ·cases h
  ·rename_i t ht
   have Tu:t∈names ops o:=by
    unfold names
    refine dz _ ?_
    rw[hg]
    simp[ht]
   split at h
   ·rename_i b hb
    have pR: ∀σ':St,σ'.T t=σ.T t→σ'.put t (.val .bool b)=σ':=fun σ' h'=>by
     rw[←hb,←h'];exact E9 σ' t
    cases want<;>cases b
    ·obtain⟨u,h1,h2,h3⟩:=dE (by
      have:=pR σ rfl
      rw[this]at h;exact h)
     refine⟨u,h1,h2,fun σ' hT hA K'=> ?_⟩
     unfold tC
     rw[e0];simp only;rw[hg];simp only;rw[ht];simp only;rw[hT t Tu,hb];simp only
     rw[pR σ' (hT t Tu)]
     exact h3 σ' hT hA K'
    ·obtain⟨u,h1,h2,h3⟩:=sD (by
      have:=pR σ rfl
      rw[this]at h;exact h)
     refine⟨u,h1,h2,fun σ' hT hA K'=> ?_⟩
     unfold tC
     rw[e0];simp only;rw[hg];simp only;rw[ht];simp only;rw[hT t Tu,hb];simp only
     rw[pR σ' (hT t Tu)]
     exact h3 σ' K'
    ·obtain⟨u,h1,h2,h3⟩:=sD (by
      have:=pR σ rfl
      rw[this]at h;exact h)
     refine⟨u,h1,h2,fun σ' hT hA K'=> ?_⟩
     unfold tC
     rw[e0];simp only;rw[hg];simp only;rw[ht];simp only;rw[hT t Tu,hb];simp only
     rw[pR σ' (hT t Tu)]
     exact h3 σ' K'
    ·obtain⟨u,h1,h2,h3⟩:=dE (by
      have:=pR σ rfl
      rw[this]at h;exact h)
     refine⟨u,h1,h2,fun σ' hT hA K'=> ?_⟩
     unfold tC
     rw[e0];simp only;rw[hg];simp only;rw[ht];simp only;rw[hT t Tu,hb];simp only
     rw[pR σ' (hT t Tu)]
     exact h3 σ' hT hA K'
   ·rename_i hb
    obtain⟨u,h1,h2,h3⟩:=sD h
    refine⟨u,h1,h2,fun σ' hT hA K'=> ?_⟩
    unfold tC
    rw[e0];simp only;rw[hg];simp only;rw[ht];simp only;rw[hT t Tu,hb]
    exact h3 σ' K'
   ·cases h
theorem RO{ops:List Oper}: ∀(l:List Oper) (i:Nat) (σ:St) (lg:Log) (K:St→Log→Option α),S4 E ops l i σ lg K=some r→
  ∃us:List Out,us.length=l.length∧(∀j u o,us[j]? =some u→l[j]? =some o→Pt E ops o ((us.take j).foldl (fun σ u=>u.app σ) σ) u α)∧
   ∃lg',K (us.foldl (fun σ u=>u.app σ) σ) lg'=some r∧(∀x∈lg,x∈lg')∧ ∀j u,us[j]? =some u→(i+j,u.rd,u.ups.map (·.1))∈lg'
 |[],i,σ,lg,K,h=>⟨[],rfl,λj u o hj=>by simp at hj,lg,h,λ_ h=>h,λj u hj=>by simp at hj⟩
 |o::l,i,σ,lg,K,h=>by
  unfold S4 at h
  obtain⟨u,h1,h2⟩:=V7 h
  obtain⟨us,hl,hpt,lg',hK,Y8,hj⟩:=RO l (i+1) (u.app σ) _ K h1
  refine⟨u::us,by simp[hl],λj u' o' hu ho=> ?_,lg',hK,λx hx=>Y8 x (aY _ hx),λj u' hu=> ?_⟩
  ·cases j with
   |zero=>simp at hu ho;subst hu ho;exact h2
   |succ j=>exact hpt j u' o' (by simpa using hu) (by simpa using ho)
  ·cases j with
   |zero=>simp at hu;subst hu;exact Y8 _ bg
   |succ j=>
    have:=hj j u' (by simpa using hu)
    rwa [show i+1+j=i+(j+1)from by omega]at this
theorem Tv{k:Nat}{ups:jb}(h:k∈keys ups)(H H':Nat→Option bh):c5 H ups k=c5 H' ups k:=by
 induction ups generalizing H H' with
 |nil=>simp[keys]at h
 |cons u r ih=>
  show c5 (bY H u.1 u.2) r k=c5 (bY H' u.1 u.2) r k
  by_cases hk:k∈keys r
  ·exact ih hk _ _
  ·have hku:k=u.1:=by
    simp only[keys,bW,aX]at h hk
    exact h.resolve_right hk
   rw[lA hk,lA hk,hku,ax,ax]
structure o5(us:List Out)(σ0:St)(S:Nat→Prop)(σ:St):Prop where
 T: ∀t,(∃j u,us[j]? =some u∧S j∧u.dst=some t∧(∀j' u',us[j']? =some u'→S j'→u'.dst=some t→j'≤j)∧σ.T t=u.v)∨((∀j u,us[j]? =some u→S j→u.dst≠some t)∧σ.T t=σ0.T t)
 H: ∀k,(∃j u,us[j]? =some u∧S j∧k∈keys u.ups∧(∀j' u',us[j']? =some u'→S j'→k∈keys u'.ups→j'≤j)∧σ.H k=c5 σ0.H u.ups k)∨((∀j u,us[j]? =some u→S j→k∉keys u.ups)∧σ.H k=σ0.H k)
theorem o5.V8{us:List Out}{σ0 σ σ':St}{S S':Nat→Prop}(h:o5 us σ0 S σ)(h':o5 us σ0 S' σ'){t:Nat}(hs: ∀j u,us[j]? =some u→u.dst=some t→(S j↔S' j)):σ.T t=σ'.T t:=by
 rcases h.T t with⟨j,u,h1,h2,h3,h4,h5⟩|⟨h1,h2⟩<;>rcases h'.T t with⟨j',u',pC,yF,Qg,h4',h5'⟩|⟨pC,yF⟩
 ·have e1:=h4 j' u' pC ((hs j' u' pC Qg).2 yF) Qg
  have e2:=h4' j u h1 ((hs j u h1 h3).1 h2) h3
  have:j=j':=ω
  subst this
  rw[h1]at pC;cases pC
  rw[h5,h5']
 ·exact absurd h3 (pC j u h1 ((hs j u h1 h3).1 h2))
 ·exact absurd Qg (h1 j' u' pC ((hs j' u' pC Qg).2 yF))
 ·rw[h2,yF]
theorem o5.V9{us:List Out}{σ0 σ σ':St}{S S':Nat→Prop}(h:o5 us σ0 S σ)(h':o5 us σ0 S' σ'){k:Nat}(hs: ∀j u,us[j]? =some u→k∈keys u.ups→(S j↔S' j)):σ.H k=σ'.H k:=by
 rcases h.H k with⟨j,u,h1,h2,h3,h4,h5⟩|⟨h1,h2⟩<;>rcases h'.H k with⟨j',u',pC,yF,Qg,h4',h5'⟩|⟨pC,yF⟩
 ·have e1:=h4 j' u' pC ((hs j' u' pC Qg).2 yF) Qg
  have e2:=h4' j u h1 ((hs j u h1 h3).1 h2) h3
  have:j=j':=ω
  subst this
  rw[h1]at pC;cases pC
  rw[h5,h5']
 ·exact absurd h3 (pC j u h1 ((hs j u h1 h3).1 h2))
 ·exact absurd Qg (h1 j' u' pC ((hs j' u' pC Qg).2 yF))
 ·rw[h2,yF]
theorem o5.unique{us:List Out}{σ0 σ σ':St}{S S':Nat→Prop}(h:o5 us σ0 S σ)(h':o5 us σ0 S' σ')(hs: ∀j u,us[j]? =some u→(S j↔S' j)):σ=σ':=by
 obtain⟨T,H⟩:=σ
 obtain⟨T',H'⟩:=σ'
 congr 1
 ·funext t;exact h.V8 h' (λj u hj _=>hs j u hj)
 ·funext k;exact h.V9 h' (λj u hj _=>hs j u hj)
theorem o5.step{us:List Out}{σ0 σ:St}{S:Nat→Prop}(h:o5 us σ0 S σ){i:Nat}{u:Out}(hi:us[i]? =some u)(hc: ∀j u',us[j]? =some u'→S j→i<j→(∀t,u.dst=some t→u'.dst≠some t)∧ ∀k∈keys u.ups,k∉keys u'.ups):
  o5 us σ0 (λj=>j=i∨S j) (u.app σ):=by
 refine⟨λt=> ?_,λk=> ?_⟩
 ·by_cases hd:u.dst=some t
  ·left
   refine⟨i,u,hi,.inl rfl,hd,λj' u' h1 h2 h3=> ?_,Qf hd σ⟩
   rcases h2 with rfl|h2
   ·exact aG _
   ·exact Nat.le_of_not_lt λfb=>(hc j' u' h1 h2 fb).1 t hd h3
  ·rw[V6 hd]
   rcases h.T t with⟨j,u1,h1,h2,h3,h4,h5⟩|⟨h1,h2⟩
   ·refine .inl ⟨j,u1,h1,.inr h2,h3,λj' u' pC yF Qg=> ?_,h5⟩
    rcases yF with rfl|yF
    ·rw[hi]at pC;cases pC;exact absurd Qg hd
    ·exact h4 j' u' pC yF Qg
   ·refine .inr ⟨λj u' pC yF=> ?_,h2⟩
    rcases yF with rfl|yF
    ·rw[hi]at pC;cases pC;exact hd
    ·exact h1 j u' pC yF
 ·rw[al4]
  by_cases hd:k∈keys u.ups
  ·left
   refine⟨i,u,hi,.inl rfl,hd,λj' u' h1 h2 h3=> ?_,Tv hd _ _⟩
   rcases h2 with rfl|h2
   ·exact aG _
   ·exact Nat.le_of_not_lt λfb=>(hc j' u' h1 h2 fb).2 k hd h3
  ·rw[lA hd]
   rcases h.H k with⟨j,u1,h1,h2,h3,h4,h5⟩|⟨h1,h2⟩
   ·refine .inl ⟨j,u1,h1,.inr h2,h3,λj' u' pC yF Qg=> ?_,h5⟩
    rcases yF with rfl|yF
    ·rw[hi]at pC;cases pC;exact absurd Qg hd
    ·exact h4 j' u' pC yF Qg
   ·refine .inr ⟨λj u' pC yF=> ?_,h2⟩
    rcases yF with rfl|yF
    ·rw[hi]at pC;cases pC;exact hd
    ·exact h1 j u' pC yF
theorem o5.start(us:List Out)(σ0:St):o5 us σ0 (λ_=>False) σ0:=⟨λt=> .inr ⟨λ_ _ _ h=>h.elim,rfl⟩,λk=> .inr ⟨λ_ _ _ h=>h.elim,rfl⟩⟩
theorem o5.congr{us:List Out}{σ0 σ:St}{S S':Nat→Prop}(h:o5 us σ0 S σ)(hs: ∀j,S j↔S' j):o5 us σ0 S' σ:=by
 have:S=S':=funext λj=>propext (hs j)
 rw[←this];exact h
theorem o5.text(us:List Out)(σ0:St): ∀i,i≤us.length→o5 us σ0 (λj=>j<i) ((us.take i).foldl (fun σ u=>u.app σ) σ0)
 |0,_=>(o5.start us σ0).congr λj=>by simp
 |i+1,hi=>by
  have ih:=o5.text us σ0 i ω
  have hu:us[i]? =some us[i]:=bl ω
  have:=ih.step hu (λj u' _ h2 h3=>ω)
  rw[List.take_add_one,hu,List.foldl_append]
  exact this.congr λj=>by constructor<;>intro h<;>omega
end VM
end
section
namespace VM
open Go
variable{P:Program}{E:Env}{o:Oper}{a:Act}{w:World}{M:Nat→Prop}{ν:Nat→Value}{σ:St}{c:Ctx}{α:Type}{r:α}{next:Act→World→Prop}{Q:Exit→Act→World→Prop}
def Pre(S:Nat→Prop)(o:Oper):Prop:= ∀e∈o.after,Region.binds .any e=true→S e.on
theorem Fh{β:Type}{l m:List β}{i:Nat}{d:β}(h:i<l.length):(l++m).getD i d=l.getD i d:=by
 simp only[List.getD,ss h]
theorem Fi{β:Type}{l:List β}{x d:β}:(l++[x]).getD l.length d=x:=by
 simp[List.getD]
theorem CB{acc:List Nat}{i:Nat}: ∀(es:List Edge) (s:Nat),(es.foldl (λs e=>cond (Region.binds .any e) (s|||2^e.on|||acc.getD e.on 0) s) s).testBit i=true→
  s.testBit i=true∨ ∃e∈es,Region.binds .any e=true∧(i=e.on∨(acc.getD e.on 0).testBit i=true)
 |[],s,h=> .inl h
 |e::es,s,h=>by
  rw[List.foldl_cons]at h
  rcases CB es _ h with h1|⟨e',h1,h2⟩
  ·cases hb:Region.binds .any e
   ·rw[hb]at h1;exact .inl h1
   ·rw[hb]at h1
    simp only[aq,Nat.testBit_or,m3]at h1
    rcases h1 with(h1|h1)|h1
    ·exact .inl h1
    ·refine .inr ⟨e,bg,hb,.inl ?_⟩
     rw[Nat.testBit_two_pow]at h1
     simpa using (bz h1).symm
    ·exact .inr ⟨e,bg,hb,.inr h1⟩
  ·exact .inr ⟨e',aY _ h1,h2⟩
theorem CC{S:Nat→Prop}: ∀(l:List Oper) (acc:List Nat) (all:List Oper),all.length=acc.length+l.length→(∀j,l[j]? =all[acc.length+j]?)→
  (∀j o,all[j]? =some o→S j→Pre S o)→(∀j i,j<acc.length→S j→(acc.getD j 0).testBit i=true→S i)→
  ∀j o i,all[j]? =some o→(Pre S o∨S j)→((sX l acc).getD j 0).testBit i=true→(j<acc.length→ ∀i,Pre S o→(acc.getD j 0).testBit i=true→S i)→S i
 |[],acc,all,hl,lz,hS,ZN,j,o,i,hj,MS,hb,Wa=>by
  have fb:j<all.length:=(um.1 hj).1
  have wE:j<acc.length:=by simp at hl;omega
  rcases MS with hp|hp
  ·exact Wa wE i hp hb
  ·exact ZN j i wE hp hb
 |p::l,acc,all,hl,lz,hS,ZN,j,o,i,hj,MS,hb,Wa=>by
  unfold sX at hb
  have hp0:all[acc.length]? =some p:=by rw[←m5 acc.length,←lz 0];rfl
  have Tw: ∀i,Pre S p→(p.after.toList.foldl (λs e=>cond (Region.binds .any e) (s|||2^e.on|||acc.getD e.on 0) s) 0).testBit i=true→S i:=by
   intro i G8 hb
   rcases CB p.after.toList 0 hb with h1|⟨e,he,hbe,h1⟩
   ·simp at h1
   ·have hSe:=G8 e (by simpa using he) hbe
    rcases h1 with rfl|h1
    ·exact hSe
    ·by_cases fb:e.on<acc.length
     ·exact ZN e.on i fb hSe h1
     ·rw[List.getD,gI ω]at h1;simp at h1
  refine CC l (acc++[p.after.toList.foldl (λs e=>cond (Region.binds .any e) (s|||2^e.on|||acc.getD e.on 0) s) 0]) all (by simp at hl ⊢;omega) (λj=> ?_) hS (λj' i' Y7 hS' eZ=> ?_) j o i hj MS hb (λfb i' Rz eZ=> ?_)
  ·have:=lz (j+1)
   simp only[List.getElem?_cons_succ]at this
   rw[this]
   congr 1
   simp;omega
  ·by_cases fb:j'<acc.length
   ·rw[Fh fb]at eZ
    exact ZN j' i' fb hS' eZ
   ·have hje:j'=acc.length:=by simp at Y7;omega
    subst hje
    rw[Fi]at eZ
    exact Tw i' (hS _ p hp0 hS') eZ
  ·by_cases wE:j<acc.length
   ·rw[Fh wE]at eZ
    exact Wa wE i' Rz eZ
   ·have hje:j=acc.length:=by simp at fb;omega
    subst hje
    rw[hp0]at hj;cases hj
    rw[Fi]at eZ
    exact Tw i' Rz eZ
theorem forced{ops:List Oper}{S:Nat→Prop}(hS: ∀j o,ops[j]? =some o→S j→Pre S o){j i:Nat}(hj:ops[j]? =some o)(MS:Pre S o∨S j)(hb:((sX ops []).getD j 0).testBit i=true):S i:=
 CC ops [] ops (by simp) (λj=>by simp) hS (λj i h=>by simp at h) j o i hj MS hb (λh=>by simp at h)
theorem mD{l m:List Nat}(h:meets l m=false){x:Nat}(h1:x∈l)(h2:x∈m):False:=by
 have:meets l m=true:=by
  unfold meets
  rw[zE]
  refine⟨x,h1,?_⟩
  rw[zE]
  exact⟨x,h2,tz x⟩
 rw[h]at this;cases this
structure Rnd(c:Ctx)(E:Env)(ops:Array Oper)(us:List Out)(σ0:St)(listed:Array Bool)(a:Act)(w:World):Prop where
 size:listed.size=ops.size
 closed: ∀j o,ops.toList[j]? =some o→listed.getD j false=true→Pre (λi=>listed.getD i false=true) o
 st: ∃σ,o5 us σ0 (λj=>listed.getD j false=true) σ∧Inv c E σ a w
theorem yX{listed:Array Bool}{j:Nat}(h:j<listed.size)(d:Bool):listed.getD j d=listed.getD j false:=by
 simp[Array.getD,h]
theorem Kd(hE:tK P E){ops:Array Oper}{us:List Out}{σ0 σn:St}{α:Type}(x0:α)(hl:us.length=ops.toList.length)
  (hpt: ∀(j:Nat) (u:Out) (o:Oper),us[j]? =some u→ops.toList[j]? =some o→Pt E ops.toList o ((us.take j).foldl (fun σ u=>u.app σ) σ0) u α)
  (hn:σn=us.foldl (fun σ u=>u.app σ) σ0)
  (fb: ∀(j:Nat) (o:Oper),ops.toList[j]? =some o→ ∀e∈o.after,Region.binds .any e=true→e.on<j)
  (MT: ∀(j:Nat) (o:Oper) (i:Nat) (p:Oper),ops.toList[j]? =some o→ops.toList[i]? =some p→i<j→((sX ops.toList []).getD j 0).testBit i=false→
   (∀d,p.dst=some d→o.dst≠some d∧d∉names ops.toList o)∧(∀d,o.dst=some d→d∉names ops.toList p))
  (Y8: ∀(j:Nat) (u:Out) (i:Nat) (v:Out),us[j]? =some u→us[i]? =some v→i<j→((sX ops.toList []).getD j 0).testBit i=false→
   (∀k∈keys v.ups,k∉u.rd∧k∉keys u.ups)∧(∀k∈v.rd,k∉keys u.ups))
  (hq: ∀a' w',Inv c E σn a' w'→Q .normal a' w'):
  ∀(fuel:Nat) (listed:Array Bool) (a:Act) (w:World),((List.range ops.size).filter λj=> !(listed.getD j false)).length≤fuel→Rnd c E ops us σ0 listed a w→wpAny P .any ops Q fuel listed a w:=by
 have lz: ∀(listed:Array Bool) (a:Act) (w:World),Rnd c E ops us σ0 listed a w→Region.ready .any ops listed=[]→Q .normal a w:=by
  intro listed a w hR ahu
  obtain⟨hs,Mt,σ,Hb,hI⟩:=hR
  have al6: ∀j,j<ops.size→listed.getD j false=true:=by
   intro j
   induction j using Nat.strongRecOn with
   |_ j ih=>
    intro hj
    by_cases hb:listed.getD j false=true
    ·exact hb
    ·exfalso
     have ho:ops[j]? =some ops[j]:=LV hj
     have:j∈Region.ready .any ops listed:=by
      rw[mem_ready]
      refine⟨by rw[yX ω];simpa using hb,_,ho,λe he hbe=> ?_⟩
      have hej:=fb j ops[j] (by rw[gV];exact ho) e he hbe
      exact ih e.on hej ω
     rw[ahu]at this
     cases this
  have hσ:σ=σn:=by
   rw[hn]
   have ht:=o5.text us σ0 us.length (aG _)
   rw[iD]at ht
   refine Hb.unique ht λj u hj=> ?_
   have Hd:j<us.length:=(um.1 hj).1
   have hjo:j<ops.size:=by rw[hl,bI]at Hd;exact Hd
   exact⟨λ_=>Hd,λ_=>al6 j hjo⟩
  exact hq a w (hσ▸hI)
 intro fuel
 induction fuel with
 |zero=>
  intro listed a w hf hR
  have ZO:Region.ready .any ops listed=[]:=by
   rw[List.eq_nil_iff_forall_not_mem]
   intro j hj
   rw[mem_ready]at hj
   obtain⟨h0,o,ho,_⟩:=hj
   have hjs:j<ops.size:=(kH.1 ho).1
   have Hd:j<listed.size:=by rw[hR.size];exact hjs
   rw[yX Hd]at h0
   have ly:j∈(List.range ops.size).filter λj=> !(listed.getD j false):=by
    rw[vZ];exact⟨qN.2 hjs,by rw[h0];rfl⟩
   have:((List.range ops.size).filter λj=> !(listed.getD j false))=[]:=uk ω
   rw[this]at ly;cases ly
  exact⟨ZO,lz listed a w hR ZO⟩
 |succ fuel ih=>
  intro listed a w hf hR
  refine⟨lz listed a w hR,λi hi=> ?_⟩
  have nc:=hi
  rw[mem_ready]at nc
  obtain⟨h0,o,ho,MS⟩:=nc
  have his:i<ops.size:=(kH.1 ho).1
  have Hp:i<listed.size:=by rw[hR.size];exact his
  rw[yX Hp]at h0
  obtain⟨hs,Mt,σ,Hb,hI⟩:=hR
  have Ir:ops.toList[i]? =some o:=by rw[gV];exact ho
  have hiu:i<us.length:=by rw[hl,bI];exact his
  have hu:us[i]? =some us[i]:=bl hiu
  have hPt:=hpt i us[i] o hu Ir
  have hSi: ¬listed.getD i false=true:=by rw[h0];simp
  have MU: ∀j p,ops.toList[j]? =some p→((j<i∧ ¬listed.getD j false=true)→((sX ops.toList []).getD i 0).testBit j=false)∧((i<j∧listed.getD j false=true)→((sX ops.toList []).getD j 0).testBit i=false):=by
   intro j p hj
   refine⟨λ⟨_,h2⟩=> ?_,λ⟨_,h2⟩=> ?_⟩
   ·rw[←m0]
    intro hb
    exact h2 (forced Mt Ir (.inl MS) hb)
   ·rw[←m0]
    intro hb
    exact hSi (forced Mt hj (.inr h2) hb)
  have Wb: ∀(j:Nat) (u:Out),us[j]? =some u→ ∃p:Oper,ops.toList[j]? =some p∧u.dst=p.dst:=by
   intro j u hj
   have Hd:j<us.length:=(um.1 hj).1
   have hp:ops.toList[j]? =some ops.toList[j]:=bl ω
   exact⟨_,hp,(hpt j u _ hj hp).1⟩
  have afV:=o5.text us σ0 i ω
  have hT: ∀t∈names ops.toList o,σ.T t=((us.take i).foldl (fun σ u=>u.app σ) σ0).T t:=by
   intro t ht
   refine Hb.V8 afV λj u hj hd=> ?_
   obtain⟨p,hp,hpd⟩:=Wb j u hj
   have hpd:p.dst=some t:=by rw[←hpd,hd]
   constructor
   ·intro MV
    refine Nat.lt_of_not_le λhle=> ?_
    rcases Nat.lt_or_eq_of_le hle with wE|heq
    ·exact(MT j p i o hp Ir wE ((MU j p hp).2 ⟨wE,MV⟩)).2 t hpd ht
    ·subst heq;exact hSi MV
   ·intro yY
    by_cases MV:listed.getD j false=true
    ·exact MV
    ·exact absurd ht ((MT i o j p Ir hp yY ((MU j p hp).1 ⟨yY,MV⟩)).1 t hpd).2
  have hH:Ag us[i].rd ((us.take i).foldl (fun σ u=>u.app σ) σ0).H σ.H:=by
   intro k hk
   refine Hb.V9 afV λj u hj hd=> ?_
   obtain⟨p,hp,hpd⟩:=Wb j u hj
   constructor
   ·intro MV
    refine Nat.lt_of_not_le λhle=> ?_
    rcases Nat.lt_or_eq_of_le hle with wE|heq
    ·exact(Y8 j u i us[i] hj hu wE ((MU j p hp).2 ⟨wE,MV⟩)).2 k hk hd
    ·subst heq;exact hSi MV
   ·intro yY
    by_cases MV:listed.getD j false=true
    ·exact MV
    ·exact absurd hk ((Y8 i us[i] j u hu hj yY ((MU j p hp).1 ⟨yY,MV⟩)).1 k hd).1
  have al7:=hPt.2 σ hT hH
  have hIs:o5 us σ0 (λj=>j=i∨listed.getD j false=true) (us[i].app σ):=by
   refine Hb.step hu λj u hj MV pQ=> ?_
   obtain⟨p,hp,hpd⟩:=Wb j u hj
   have Dw:=(MU j p hp).2 ⟨pQ,MV⟩
   obtain⟨h1,h2⟩:=MT j p i o hp Ir pQ Dw
   obtain⟨h3,h4⟩:=Y8 j u i us[i] hj hu pQ Dw
   refine⟨λt ht=> ?_,λk hk=>(h3 k hk).2⟩
   rw[hpd]
   exact(h1 t (by rw[←hPt.1];exact ht)).1
  have Ai: ∀j,(listed.setIfInBounds i true).getD j false=true↔(j=i∨listed.getD j false=true):=by
   intro j
   by_cases yY:j=i
   ·subst yY
    constructor
    ·intro _;exact .inl rfl
    ·intro _;simp[Hp]
   ·rw[getD_set_ne false (eJ yY)]
    exact⟨.inr,λh=>h.resolve_left yY⟩
  classical
  let K':St→List Nat→List Nat→Option α:=fun σ' _ _=>if σ'=us[i].app σ then some x0 else none
  have hK:tC E ops.toList o σ K'=some x0:=by rw[al7 K'];simp[K']
  have:=CA (Q:=Q) (next:=wpAny P .any ops Q fuel (listed.setIfInBounds i true)) hE hI hK (fun σ' a' w' rd wr hσ' yD=>by
   have aro:σ'=us[i].app σ:=by
    by_cases h:σ'=us[i].app σ
    ·exact h
    ·simp[K',h]at hσ'
   subst aro
   refine ih _ a' w' ?_ ⟨by simpa using hs,λj p hp MV e he hb=> ?_,_,hIs.congr (λj=>(Ai j).symm),yD⟩
   ·have hlen:((List.range ops.size).filter λj=> !((listed.setIfInBounds i true).getD j false)).length<((List.range ops.size).filter λj=> !(listed.getD j false)).length:=by
     have Tj:((List.range ops.size).filter λj=> !((listed.setIfInBounds i true).getD j false))=((List.range ops.size).filter λj=> !(listed.getD j false)).filter λj=> !(Nat.beq j i):=by
      rw[List.filter_filter]
      apply List.filter_congr
      intro j _
      by_cases yY:j=i
      ·subst yY
       have h1:=(Ai j).2 (.inl rfl)
       rw[h1];simp
      ·have h1:Nat.beq j i=false:=by rw[←m0,we];exact yY
       rw[h1,getD_set_ne false (eJ yY)];simp
     rw[Tj]
     refine List.length_filter_lt_length_iff_exists.2 ⟨i,?_,by simp⟩
     rw[vZ];exact⟨qN.2 his,by rw[h0];rfl⟩
    omega
   ·rcases(Ai j).1 MV with rfl|MV
    ·rw[Ir]at hp;cases hp
     exact(Ai _).2 (.inr (MS e he hb))
    ·exact(Ai _).2 (.inr (Mt j p hp MV e he hb)))
  unfold wpOp
  rw[ho]
  simp only
  split
  ·rename_i hw;rw[aj hw]at this;exact .inl this
  ·rename_i hw;rw[ah hw]at this;exact this
theorem HE(hE:tK P E){id:Nat}{ops:Array Oper}{draw:Bool}(hI:Inv c E σ a w){K:St→Option α}(h:DU E ops draw σ K=some r)
  (hn: ∀σ' a' w',K σ'=some r→Inv c E σ' a' w'→Q .normal a' w'):(Code.region id ops draw).wp P Q a w:=by
 cases draw
 ·refine wp_region_list (Fa hE ops.toList 0 σ [] a w _ hI h fun σ' lg' a' w' h' yD=> ?_)
  exact hn σ' a' w' (cB h').2 yD
 ·unfold DU at h
  obtain⟨us,hl,hpt,lg,hK,_,al8⟩:=RO _ _ _ _ _ h
  obtain⟨hok,hK⟩:=cB hK
  simp only[bt,tv,bQ]at hok
  obtain⟨MT,Y8⟩:=hok
  unfold Vu at MT
  simp only[bQ,qK]at MT
  obtain⟨arp,arq⟩:=MT
  have hz: ∀j o,ops.toList[j]? =some o→(o,j)∈ops.toList.zipIdx:=λj o hj=>List.mem_zipIdx_iff_getElem?.2 hj
  refine wp_region_any hE.mixed (Kd (Q:=Q) (σ0:=σ) hE r hl hpt rfl (λj o hj e he hbe=> ?_) (λj o i p hj hi pQ hb=> ?_) (λj u i v hj hi pQ hb=> ?_) (λa' w' yD=>hn _ a' w' hK yD) ops.size (Array.replicate ops.size false) a _ ?_ ?_)
  ·have:=arp (o,j) (hz j o hj) e (by simpa using he)
   rw[hbe]at this
   simpa [zO]using this
  ·have:=arq (o,j) (hz j o hj) (p,i) (hz i p hi)
   simp only[hb,tx,m3,qJ,Bool.or_eq_false_iff]at this
   have Hm: ¬Nat.ble j i=true:=by rw[zP];omega
   have this:=this.resolve_left Hm
   refine⟨λd hd=>⟨λZP=> ?_,λZP=> ?_⟩,λd hd ZP=> ?_⟩
   ·exact mD this.1 (x:=d) (by simp[hd]) (by simp[ZP])
   ·exact mD this.1 (x:=d) (by simp[hd]) (by simp[ZP])
   ·exact mD this.2 (x:=d) (by simp[hd]) ZP
  ·unfold afK at Y8
   simp only[qK]at Y8
   have Y7:=al8 j u hj
   have nc:=al8 i v hi
   rw[gq]at Y7 nc
   have:=Y8 _ Y7 _ nc
   simp only[hb,tx,m3,qJ,Bool.or_eq_false_iff]at this
   have Hm: ¬Nat.ble j i=true:=by rw[zP];omega
   have this:=this.resolve_left Hm
   refine⟨λk hk=>⟨λHs=> ?_,λHs=> ?_⟩,λk hk Hs=> ?_⟩
   ·exact mD this.1 (x:=k) hk (cW _ Hs)
   ·exact mD this.1 (x:=k) hk (dz _ Hs)
   ·exact mD this.2 (x:=k) hk Hs
  ·refine cq (List.length_filter_le _ _) ?_
   rw[vU];exact aG _
  ·have hf: ∀j,(Array.replicate ops.size false).getD j false=false:=by
    intro j
    rw[sq,Array.getElem?_replicate]
    split<;>rfl
   obtain⟨⟨M,ν,hc⟩,hs,hd,yl⟩:=hI
   refine⟨by simp,λj o _ hS=>(by rw[hf]at hS;cases hS),σ,(o5.start us σ).congr (λj=>(by rw[hf];simp)),⟨M,ν,?_⟩,hs,hd,yl⟩
   exact hc.tr (Tr.drew hc.mem)
end VM
end
