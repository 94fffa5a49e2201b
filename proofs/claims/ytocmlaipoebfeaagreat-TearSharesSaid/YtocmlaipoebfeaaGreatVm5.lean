/- A part of the proof of TearShares of layer 29: a machine that reads a function of the program as an equation between values. -/
import Derived.Test.YtocmlaipoebfeaaGreatVm4
set_option linter.all false
section
namespace VM
open Go
variable{α:Type}{r:α}
theorem cI{υ τ:Ty}{y:υ.den}{k:τ.den→Option α}(h:b7 υ τ y k=some r): ∃z,k z=some r∧ ∀k':τ.den→Option α,b7 υ τ y k'=k' z:=by
 obtain⟨e,h⟩:=a6 h
 subst e
 exact⟨y,h,fun k'=>by simp[b7]⟩
theorem gi{υ τ:Ty}{k:Option α}(h:jk υ τ k=some r):k=some r∧ ∀k':Option α,jk υ τ k'=k':=by
 obtain⟨e,h1⟩:=dH h
 clear h
 subst e
 exact⟨h1,fun k'=>by simp[jk]⟩
theorem cU{b:Bool}{K:Option α}(h:cond b K none=some r):K=some r∧ ∀K':Option α,cond b K' none=K':=by
 obtain⟨rfl,h⟩:=bB h
 exact⟨h,fun _=>rfl⟩
theorem oI{b:Bool}{K:Option α}(h:cond b none K=some r):K=some r∧ ∀K':Option α,cond b none K'=K':=by
 obtain⟨rfl,h⟩:=iO h
 exact⟨h,fun _=>rfl⟩
theorem rI: ∀{τ:Ty} {x:τ.den} {n:Nat} {k:(υ:Ty)→υ.den→Option α},sk τ x n k=some r→ ∃υ y,k υ y=some r∧ ∀k':(υ:Ty)→υ.den→Option α,sk τ x n k'=k' υ y
 | .pair a b,x,0,k,h=>⟨a,x.1,h,fun _=>rfl⟩
 | .pair a b,x,n+1,k,h=>by
  obtain⟨υ,y,h1,h2⟩:=rI (τ:=b) (x:=x.2) (n:=n) (k:=k) h
  exact⟨υ,y,h1,fun k'=>h2 k'⟩
 | .int _,_,_,_,h| .bool,_,_,_,h| .str,_,_,_,h| .slice _,_,_,_,h| .unit,_,_,_,h| .arr _ _,_,_,_,h=>by simp[sk]at h
theorem sW: ∀{τ:Ty} {x:τ.den} {n:Nat} {m:(υ:Ty)→υ.den→(υ.den→Option α)→Option α} {k:τ.den→Option α},
  (∀υ y (k:υ.den→Option α),m υ y k=some r→ ∃z,k z=some r∧ ∀k':υ.den→Option α,m υ y k'=k' z)→jj τ x n m k=some r→ ∃z,k z=some r∧ ∀k':τ.den→Option α,jj τ x n m k'=k' z
 | .pair a b,x,0,m,k,hm,h=>by
  obtain⟨z,h1,h2⟩:=hm a x.1 _ h
  exact⟨(z,x.2),h1,fun k'=>h2 _⟩
 | .pair a b,x,n+1,m,k,hm,h=>by
  obtain⟨z,h1,h2⟩:=sW (τ:=b) (x:=x.2) (n:=n) (m:=m) (k:=fun z=>k (x.1,z)) hm h
  exact⟨(x.1,z),h1,fun k'=>h2 (fun z=>k' (x.1,z))⟩
 | .int _,_,_,_,_,_,h| .bool,_,_,_,_,_,h| .str,_,_,_,_,_,h| .slice _,_,_,_,_,_,h| .unit,_,_,_,_,_,h| .arr _ _,_,_,_,_,_,h=>by simp[jj]at h
theorem eB: ∀{p:List Step} {τ:Ty} {x:τ.den} {k:(υ:Ty)→υ.den→Option α},tz p τ x k=some r→ ∃υ y,k υ y=some r∧ ∀k':(υ:Ty)→υ.den→Option α,tz p τ x k'=k' υ y
 |[],τ,x,k,h=>⟨τ,x,h,fun _=>rfl⟩
 | .gA n::p,τ,x,k,h=>by
  obtain⟨υ,y,h1,h2⟩:=rI (h:sk τ x n _=some r)
  obtain⟨υ',y',h3,h4⟩:=eB h1
  exact⟨υ',y',h3,fun k'=>(h2 _).trans (h4 k')⟩
 | .idx i::p,τ,x,k,h=>by
  cases τ with
  |arr n e=>
   obtain⟨υ',y',h3,h4⟩:=eB (p:=p) (τ:=e) (x:=List.getD x i e.zero) (k:=k) h
   exact⟨υ',y',h3,fun k'=>h4 k'⟩
  |_=>simp[tz,Yy]at h
theorem ky{υ:Ty}{y:υ.den}: ∀{p:List Step} {τ:Ty} {x:τ.den} {k:τ.den→Option α},qi υ y p τ x k=some r→ ∃z,k z=some r∧ ∀k':τ.den→Option α,qi υ y p τ x k'=k' z
 |[],τ,x,k,h=>cI h
 | .gA n::p,τ,x,k,h=>sW (fun _ _ _ h=>ky h) h
 | .idx i::p,τ,x,k,h=>by
  cases τ with
  |arr n e=>
   obtain⟨z,h1,h2⟩:=ky (p:=p) (τ:=e) (x:=List.getD x i e.zero) (k:=fun z=>k (List.set x i z)) h
   exact⟨_,h1,fun k'=>h2 (fun z=>k' (List.set x i z))⟩
  |_=>simp[qi,xN]at h
theorem nM{a:aY}{k:IntKind→Int→Option α}(h:qx a k=some r): ∃i n,k i n=some r∧ ∀k':IntKind→Int→Option α,qx a k'=k' i n:=by
 obtain⟨i,n,rfl,h⟩:=jn h
 exact⟨i,n,h,fun _=>rfl⟩
theorem JO{a:aY}{k:(τ:Ty)→τ.den→Option α}(h:D3 a k=some r): ∃τ x,k τ x=some r∧ ∀k':(τ:Ty)→τ.den→Option α,D3 a k'=k' τ x:=by
 unfold D3 at h
 split at h
 ·exact⟨_,_,h,fun _=>rfl⟩
 ·cases h
theorem pf{a:Option aY}{d:Int}{k:Int→Option α}(h:sO a d k=some r): ∃n,k n=some r∧ ∀k':Int→Option α,sO a d k'=k' n:=by
 cases a with
 |none=>exact⟨d,h,fun _=>rfl⟩
 |some a=>
  obtain⟨i,n,h1,h2⟩:=nM (h:qx a (fun _ x=>k x)=some r)
  exact⟨n,h1,fun k'=>h2 (fun _ x=>k' x)⟩
abbrev Ag(rd:List Nat)(H H':Nat→Option aQ):Prop:= ∀i∈rd,H' i=H i
theorem kz{fz:Bool}{a:aY}{H:Nat→Option aQ}{τ:Ty}{k:τ.den→List Nat→fj→Option α}(h:iC fz a H τ k=some r):
  ∃y rd ups,k y rd ups=some r∧ ∀H',Ag rd H H'→ ∀k':τ.den→List Nat→fj→Option α,iC fz a H' τ k'=k' y rd ups:=by
 cases a with
 |val υ x=>
  simp only[iC]at h
  obtain⟨z,h1,h2⟩:=cI h
  refine⟨z,[],[],h1,fun H' _ k'=> ?_⟩
  simp only[iC]
  exact h2 (fun y=>k' y [] [])
 |Cn υ x n=>
  simp only[iC]at h
  obtain⟨z,h1,h2⟩:=cI h
  refine⟨z,[],[],h1,fun H' _ k'=> ?_⟩
  simp only[iC]
  exact h2 (fun y=>k' y [] [])
 |emp=>
  cases τ with
  |slice e=>exact⟨[],[],[],h,fun _ _ _=>rfl⟩
  |_=>cases h
 |ref id=>
  have h:(match H id with
   |some (.own e l)=>b7 (.slice e) τ l fun y=>k y [id] (cond fz [(id,some (.kt e l))] [])
   |some (.kt e l)=>b7 (.slice e) τ l fun y=>k y [id] []
   |_=>none)=some r:=h
  cases hH:H id with
  |none=>rw[hH]at h;cases h
  |some e=>
   rw[hH]at h
   cases e with
   |own e l=>
    obtain⟨z,h1,h2⟩:=cI (h:b7 (.slice e) τ l _=some r)
    refine⟨z,_,_,h1,fun H' hA k'=> ?_⟩
    have:H' id=some (.own e l):=by rw[hA id (by simp),hH]
    show(match H' id with
     |some (.own e l)=>b7 (.slice e) τ l fun y=>k' y [id] (cond fz [(id,some (.kt e l))] [])
     |some (.kt e l)=>b7 (.slice e) τ l fun y=>k' y [id] []
     |_=>none)=_
    rw[this];exact h2 _
   |kt e l=>
    obtain⟨z,h1,h2⟩:=cI (h:b7 (.slice e) τ l _=some r)
    refine⟨z,_,_,h1,fun H' hA k'=> ?_⟩
    have:H' id=some (.kt e l):=by rw[hA id (by simp),hH]
    show(match H' id with
     |some (.own e l)=>b7 (.slice e) τ l fun y=>k' y [id] (cond fz [(id,some (.kt e l))] [])
     |some (.kt e l)=>b7 (.slice e) τ l fun y=>k' y [id] []
     |_=>none)=_
    rw[this];exact h2 _
   |obj _ _=>cases h
   |dO _ _ _ _=>cases h
   |gone=>cases h
 |any|M4|fC _ _|mc _ _|tup _|D1 _ _=>cases h
theorem vr{id:Nat}{p:List Step}{H:Nat→Option aQ}{k:Ty→Option α}(h:jl id p H k=some r): ∃υ,k υ=some r∧ ∀H',H' id=H id→ ∀k':Ty→Option α,jl id p H' k'=k' υ:=by
 unfold jl at h
 split at h
 ·rename_i τ x aS
  obtain⟨υ,y,h1,h2⟩:=eB h
  exact⟨υ,h1,fun H' hA k'=>by unfold jl;rw[hA,aS];exact h2 _⟩
 ·rename_i τ x _ _ aS
  obtain⟨υ,y,h1,h2⟩:=eB h
  exact⟨υ,h1,fun H' hA k'=>by unfold jl;rw[hA,aS];exact h2 _⟩
 ·rename_i e l aS
  split at h
  ·obtain⟨υ,y,h1,h2⟩:=eB h
   exact⟨υ,h1,fun H' hA k'=>by unfold jl;rw[hA,aS];exact h2 _⟩
  ·cases h
 ·rename_i e l aS
  split at h
  ·obtain⟨υ,y,h1,h2⟩:=eB h
   exact⟨υ,h1,fun H' hA k'=>by unfold jl;rw[hA,aS];exact h2 _⟩
  ·cases h
 ·cases h
theorem rJ{H:Nat→Option aQ}{id:Nat}{e:aQ}{K:Option α}(h:me H id e K=some r):K=some r∧ ∀H',H' id=H id→ ∀(e':aQ) (K':Option α),me H' id e' K'=K':=by
 obtain⟨h1,h2⟩:=hZ h
 exact⟨h2,fun H' hA e' K'=>by unfold me;rw[hA,h1]⟩
theorem K6{b:BinOp}{k:IntKind}{x y:Int}{K:aY→Option α}(h:o4 b k x y K=some r): ∃v,K v=some r∧ ∀K':aY→Option α,o4 b k x y K'=K' v:=by
 cases b<;>simp only[o4]at h ⊢ <;>first
  |exact⟨_,h,fun _=>rfl⟩
  |(obtain⟨h1,h2⟩:=oI h;exact⟨_,h1,fun _=>h2 _⟩)
  |cases h
theorem Zb{b:BinOp}{k:IntKind}{x y:Int}{K:aY→Option α}(h:QN b k x y K=some r): ∃v,K v=some r∧ ∀K':aY→Option α,QN b k x y K'=K' v:=by
 cases b<;>simp only[QN]at h ⊢ <;>first
  |(obtain⟨h1,h2⟩:=oI h;exact⟨_,h1,fun _=>h2 _⟩)
  |cases h
theorem Nx{t:Option Ty}{op:BinOp}{τ:Ty}{x:τ.den}{υ:Ty}{y:υ.den}{K:aY→Option α}(h:yw t op τ x υ y K=some r): ∃v,K v=some r∧ ∀K':aY→Option α,yw t op τ x υ y K'=K' v:=by
 unfold yw at h ⊢
 split at h
 ·rename_i k x k' y
  cases hs:QO op
  ·rw[hs]at h
   have h:(if k=k' then o4 op k x y K else none)=some r:=h
   by_cases hk:k=k'
   ·rw[auh hk]at h
    obtain⟨v,h1,h2⟩:=K6 h
    exact⟨v,h1,fun K'=>by simp only[auc,auh hk];exact h2 K'⟩
   ·rw[aui hk]at h;cases h
  ·rw[hs]at h
   obtain⟨v,h1,h2⟩:=Zb (h:QN op k x y K=some r)
   exact⟨v,h1,fun K'=>by simp only[aua];exact h2 K'⟩
 ·split at h
  ·cases h
  ·obtain⟨h1,h2⟩:=gi h
   obtain⟨h3,h4⟩:=cU h1
   split at h3
   ·obtain⟨z,h5,h6⟩:=cI h3
    exact⟨_,h5,fun K'=>by rw[h2,h4];exact h6 _⟩
   ·obtain⟨z,h5,h6⟩:=cI h3
    exact⟨_,h5,fun K'=>by rw[h2,h4];exact h6 _⟩
   ·cases h3
theorem Rg{u:UnOp}{a:aY}{K:aY→Option α}(h:KL u a K=some r): ∃v,K v=some r∧ ∀K':aY→Option α,KL u a K'=K' v:=by
 unfold KL at h
 split at h<;>first
  |exact⟨_,h,fun _=>rfl⟩
  |cases h
theorem H6{up:Bool}: ∀{xs:List aY} {a:aY} {K:aY→Option α},Qn up a xs K=some r→ ∃v,K v=some r∧ ∀K':aY→Option α,Qn up a xs K'=K' v
 |[],a,K,h=>⟨a,h,fun _=>rfl⟩
 |b::xs,a,K,h=>by
  unfold Qn at h
  obtain⟨k,x,h1,h2⟩:=nM h
  obtain⟨k',y,h3,h4⟩:=nM h1
  by_cases hk:k=k'
  ·rw[auh hk]at h3
   obtain⟨v,h5,h6⟩:=H6 h3
   refine⟨v,h5,fun K'=> ?_⟩
   unfold Qn
   rw[h2,h4,auh hk]
   exact h6 K'
  ·rw[aui hk]at h3;cases h3
theorem Rh{τ:Ty}{a:aY}{H:Nat→Option aQ}{K:fk α}(h:D4 τ a H K=some r): ∃v rd ups,K v rd ups=some r∧ ∀H',Ag rd H H'→ ∀K':fk α,D4 τ a H' K'=K' v rd ups:=by
 unfold D4 at h
 split at h
 ·exact⟨_,_,_,h,fun _ _ _=>rfl⟩
 ·exact⟨_,_,_,h,fun _ _ _=>rfl⟩
 ·exact⟨_,_,_,h,fun _ _ _=>rfl⟩
 ·exact⟨_,_,_,h,fun _ _ _=>rfl⟩
 ·split at h
  ·rename_i aS
   exact⟨_,_,_,h,fun H' hA K'=>by unfold D4;simp only;rw[hA _ (by simp),aS]⟩
  ·rename_i aS
   exact⟨_,_,_,h,fun H' hA K'=>by unfold D4;simp only;rw[hA _ (by simp),aS]⟩
  ·cases h
 ·cases h
theorem Ri{id:Nat}{e:Ty}{a b:aY}{H:Nat→Option aQ}{K:fk α}(h:D5 id e a b H K=some r): ∃v rd ups,K v rd ups=some r∧id∈rd∧ ∀H',Ag rd H H'→ ∀K':fk α,D5 id e a b H' K'=K' v rd ups:=by
 unfold D5 at h
 obtain⟨ys,rd,ups,h1,h2⟩:=kz h
 split at h1
 ·obtain⟨h3,h4⟩:=cU h1
  refine⟨_,_,_,h3,by simp,fun H' hA K'=> ?_⟩
  unfold D5
  rw[h2 H' (fun i hi=>hA i (auk _ hi))]
  exact h4 _
 ·rename_i j
  split at h1
  ·rename_i e' l hj
   obtain⟨z,h3,h4⟩:=cI h1
   obtain⟨h5,h6⟩:=cU h3
   refine⟨_,_,_,h5,by simp,fun H' hA K'=> ?_⟩
   unfold D5
   rw[h2 H' (fun i hi=>hA i (auk _ (auk _ hi)))]
   simp only
   rw[hA j (by simp),hj]
   simp only
   rw[h4]
   exact h6 _
  ·cases h1
 ·cases h1
theorem yS{e:Ty}{n:Nat}{H:Nat→Option aQ}: ∀{ps:List (Nat×aY)} {l:List e.den} {Bt:List Nat} {yT:fj} {K:List e.den→List Nat→fj→Option α},qz e H n ps l Bt yT K=some r→
  ∃l' rd ups,K l' rd ups=some r∧(∀i∈Bt,i∈rd)∧ ∀H',Ag rd H H'→ ∀K':List e.den→List Nat→fj→Option α,qz e H' n ps l Bt yT K'=K' l' rd ups
 |[],l,Bt,yT,K,h=>⟨l,Bt,yT,h,fun _ h=>h,fun _ _ _=>rfl⟩
 |p::ps,l,Bt,yT,K,h=>by
  unfold qz at h
  obtain⟨h1,h2⟩:=cU h
  obtain⟨y,YQ,HY,h3,h4⟩:=kz h1
  obtain⟨l',rd,ups,h5,h6,h7⟩:=yS h3
  refine⟨l',rd,ups,h5,fun i hi=>h6 i (auD _ hi),fun H' hA K'=> ?_⟩
  unfold qz
  rw[h2,h4 H' (fun i hi=>hA i (h6 i (auz _ hi)))]
  exact h7 H' hA K'
theorem Bu{τ:Ty}{H:Nat→Option aQ}: ∀{ps:List (Nat×aY)} {x:τ.den} {Bt:List Nat} {yT:fj} {K:τ.den→List Nat→fj→Option α},o5 τ H ps x Bt yT K=some r→
  ∃x' rd ups,K x' rd ups=some r∧(∀i∈Bt,i∈rd)∧ ∀H',Ag rd H H'→ ∀K':τ.den→List Nat→fj→Option α,o5 τ H' ps x Bt yT K'=K' x' rd ups
 |[],x,Bt,yT,K,h=>⟨x,Bt,yT,h,fun _ h=>h,fun _ _ _=>rfl⟩
 |p::ps,x,Bt,yT,K,h=>by
  unfold o5 at h
  obtain⟨υ,z,h1,h2⟩:=rI h
  obtain⟨y,YQ,HY,h3,h4⟩:=kz h1
  obtain⟨z',h5,h6⟩:=sW (m:=fun υ' _ k'=>b7 υ υ' y k') (fun υ' y' k hk=>cI hk) h3
  obtain⟨x',rd,ups,h7,h8,h9⟩:=Bu h5
  refine⟨x',rd,ups,h7,fun i hi=>h8 i (auD _ hi),fun H' hA K'=> ?_⟩
  unfold o5
  rw[h2,h4 H' (fun i hi=>hA i (h8 i (auz _ hi))),h6]
  exact h9 H' hA K'
theorem Ny{H:Nat→Option aQ}{v:aY}{a:Ty}{k:a.den→List Nat→fj→Option α}(h:wh v H a k=some r):
  ∃x rd ups,k x rd ups=some r∧ ∀H',Ag rd H H'→ ∀k':a.den→List Nat→fj→Option α,wh v H' a k'=k' x rd ups:=by
 unfold wh at h
 split at h
 ·split at h
  ·obtain⟨z,h1,h2⟩:=cI h
   refine⟨_,_,_,h1,fun H' _ k'=> ?_⟩
   unfold wh
   simp only
   rw[h2]
  ·cases h
 ·rename_i k0 ot
  obtain⟨y,rd,ups,h1,h2⟩:=kz h
  refine⟨y,rd,ups,h1,fun H' hA k'=> ?_⟩
  unfold wh
  split
  ·exact(ot _ _ rfl HEq.rfl).elim
  ·exact h2 H' hA _
theorem Ey{H:Nat→Option aQ}: ∀{τ:Ty} {vs:List aY} {k:τ.den→List Nat→fj→Option α},mf H τ vs k=some r→
  ∃x rd ups,k x rd ups=some r∧ ∀H',Ag rd H H'→ ∀k':τ.den→List Nat→fj→Option α,mf H' τ vs k'=k' x rd ups
 | .unit,[],k,h=>⟨(),[],[],h,fun _ _ _=>rfl⟩
 | .pair a b,v::vs,k,h=>by
  unfold mf at h
  obtain⟨y,rd,ups,h1,h2⟩:=Ny h
  obtain⟨ys,vi,jZ,h3,h4⟩:=Ey h1
  refine⟨(y,ys),_,_,h3,fun H' hA k'=> ?_⟩
  unfold mf
  rw[h2 H' (fun i hi=>hA i (auD _ hi)),h4 H' (fun i hi=>hA i (auz _ hi))]
 | .unit,_::_,_,h=>by simp[mf]at h
 | .pair _ _,[],_,h=>by simp[mf]at h
 | .int _,_,_,h| .bool,_,_,h| .str,_,_,h| .slice _,_,_,h| .arr _ _,_,_,h=>by simp[mf]at h
theorem yU: ∀{lB:List aY} {H:Nat→Option aQ} {K:List aY→List Nat→fj→Option α},qA H lB K=some r→
  ∃cs rd ups,K cs rd ups=some r∧ ∀H',Ag rd H H'→ ∀K':List aY→List Nat→fj→Option α,qA H' lB K'=K' cs rd ups
 |[],H,K,h=>⟨[],[],[],h,fun _ _ _=>rfl⟩
 |a::lB,H,K,h=>by
  unfold qA at h
  split at h
  ·rename_i id
   split at h
   ·rename_i τ x aS
    obtain⟨cs,rd,ups,h1,h2⟩:=yU h
    refine⟨_,_,_,h1,fun H' hA K'=> ?_⟩
    unfold qA
    simp only
    rw[hA id (by simp),aS]
    simp only
    rw[h2 (bn H' id (some .gone)) (fun i hi=>by
     by_cases bp:i=id
     ·subst bp;rw[ak,ak]
     ·rw[al _ _ bp,al _ _ bp];exact hA i (auk _ hi))]
   ·cases h
  ·rename_i ot
   obtain⟨cs,rd,ups,h1,h2⟩:=yU h
   refine⟨_,_,_,h1,fun H' hA K'=> ?_⟩
   unfold qA
   split
   ·exact absurd rfl (ot _)
   ·rw[h2 H' hA]
end VM
end
section
namespace VM
open Go
variable{α:Type}{r:α}
theorem Ez{m:AM}{a:aY}{H:Nat→Option aQ}{k:m.den→(Nat→Option aQ)→List Nat→fj→fj→List (Nat×Ty)→Option α}(h:kC m a H k=some r):
  ∃y rd uo uf io,∃g:(Nat→Option aQ)→(Nat→Option aQ),k y (g H) rd uo uf io=some r∧(∀H' i,H' i=H i→g H' i=g H i)∧
   ∀H',Ag rd H H'→ ∀k':m.den→(Nat→Option aQ)→List Nat→fj→fj→List (Nat×Ty)→Option α,kC m a H' k'=k' y (g H') rd uo uf io:=by
 have K7: ∀(d:Nat) (v:Option aQ) (H':Nat→Option aQ) (i:Nat),H' i=H i→bn H' d v i=bn H d v i:=by
  intro d v H' i hi
  by_cases aS:i=d
  ·subst aS;rw[ak,ak]
  ·rw[al _ _ aS,al _ _ aS,hi]
 unfold kC at h
 split at h
 ·rename_i τ k
  obtain⟨y,rd,ups,h1,h2⟩:=kz h
  cases ups with
  |nil=>
   refine⟨y,rd,[],[],[],fun H=>H,h1,fun _ _ h=>h,fun H' hA k'=> ?_⟩
   unfold kC;simp only;rw[h2 H' hA]
  |cons u rest=>
   refine⟨y,rd,[],u::rest,[],fun H=>bn H u.1 u.2,h1,fun H' i hi=>K7 _ _ H' i hi,fun H' hA k'=> ?_⟩
   unfold kC;simp only;rw[h2 H' hA]
 ·rename_i e k
  split at h
  ·exact⟨[],[],[],[],[],fun H=>H,h,fun _ _ h=>h,fun _ _ _=>rfl⟩
  ·rename_i id
   split at h
   ·rename_i e' l aS
    obtain⟨z,h1,h2⟩:=cI h
    refine⟨z,[id],_,_,_,fun H=>bn H id (some .gone),h1,fun H' i hi=>K7 _ _ H' i hi,fun H' hA k'=> ?_⟩
    unfold kC;simp only;rw[hA id (by simp),aS];simp only;rw[h2]
   ·cases h
  ·cases h
 ·rename_i τ k
  split at h
  ·rename_i id
   split at h
   ·rename_i υ x aS
    obtain⟨z,h1,h2⟩:=cI h
    refine⟨z,[id],_,_,_,fun H=>bn H id (some .gone),h1,fun H' i hi=>K7 _ _ H' i hi,fun H' hA k'=> ?_⟩
    unfold kC;simp only;rw[hA id (by simp),aS];simp only;rw[h2]
   ·cases h
  ·cases h
 ·rename_i f τ k
  split at h
  ·rename_i f' cs
   obtain⟨h1,h2⟩:=cU h
   obtain⟨x,rd,ups,h3,h4⟩:=Ey h1
   cases ups with
   |nil=>
    refine⟨x,rd,[],[],[],fun H=>H,h3,fun _ _ h=>h,fun H' hA k'=> ?_⟩
    unfold kC;simp only;rw[h2,h4 H' hA]
   |cons _ _=>cases h3
  ·cases h
 ·cases h
 ·rename_i τ k
  split at h
  ·obtain⟨z,h1,h2⟩:=cI h
   refine⟨z,[],[],[],[],fun H=>H,h1,fun _ _ h=>h,fun H' hA k'=> ?_⟩
   unfold kC;simp only;rw[h2]
  ·cases h
theorem EA: ∀{ms:List AM} {lB:List aY} {H:Nat→Option aQ} {Bt:List Nat} {uo0 uf0:fj} {io0:List (Nat×Ty)} {K:HP ms→List Nat→fj→fj→List (Nat×Ty)→Option α},ox ms lB H Bt uo0 uf0 io0 K=some r→
  ∃x rd uo uf io,K x rd uo uf io=some r∧(∀i∈Bt,i∈rd)∧ ∀H',Ag rd H H'→ ∀K':HP ms→List Nat→fj→fj→List (Nat×Ty)→Option α,ox ms lB H' Bt uo0 uf0 io0 K'=K' x rd uo uf io
 |[],[],H,Bt,uo0,uf0,io0,K,h=>⟨(),_,_,_,_,h,fun _ h=>h,fun _ _ _=>rfl⟩
 |[m],[a],H,Bt,uo0,uf0,io0,K,h=>by
  obtain⟨y,rd,uo,uf,io,g,h1,h2,h3⟩:=Ez (h:kC m a H _=some r)
  exact⟨y,_,_,_,_,h1,fun i hi=>auD _ hi,fun H' hA K'=>h3 H' (fun i hi=>hA i (auz _ hi)) _⟩
 |m::n::ms,a::lB,H,Bt,uo0,uf0,io0,K,h=>by
  obtain⟨y,rd,uo,uf,io,g,h1,h2,h3⟩:=Ez (h:kC m a H _=some r)
  obtain⟨ys,vi,DO,DP,Aw,h4,h5,h6⟩:=EA (ms:=n::ms) h1
  refine⟨(y,ys),vi,DO,DP,Aw,h4,fun i hi=>h5 i (auD _ hi),fun H' hA K'=> ?_⟩
  refine(h3 H' (fun i hi=>hA i (h5 i (auz _ hi))) _).trans ?_
  exact h6 (g H') (fun i hi=>h2 H' i (hA i hi)) _
 |[],_::_,_,_,_,_,_,_,h=>by simp[ox]at h
 |[_],[],_,_,_,_,_,_,h=>by simp[ox]at h
 |[_],_::_::_,_,_,_,_,_,_,h=>by simp[ox]at h
 |_::_::_,[],_,_,_,_,_,_,h=>by simp[ox]at h
theorem Nz{id i:Nat}: ∀{n:Nat},i∈D7 id n↔id≤i∧i<id+n
 |0=>by simp[D7]
 |n+1=>by simp only[D7,auy,Nz];omega
theorem sI{H H':Nat→Option aQ}{id:Nat}: ∀{n:Nat},(∀i∈D7 id n,H' i=H i)→o6 H' id n=o6 H id n
 |0,_=>rfl
 |n+1,h=>by
  unfold o6
  rw[h (id+n) (by simp[D7]),sI fun i hi=>h i (by simp[D7,hi])]
theorem NA{E:Env}{f id:Nat}{lB:List aY}{H:Nat→Option aQ}{K:fk α}(h:wj E f lB id H K=some r): ∃v rd ups,K v rd ups=some r∧ ∀H',Ag rd H H'→ ∀K':fk α,wj E f lB id H' K'=K' v rd ups:=by
 unfold wj at h
 split at h
 ·cases h
 ·rename_i S hS
  obtain⟨x,rd,uo,uf,io,h1,_,h2⟩:=EA h
  obtain⟨y,hy,h3⟩:=avG.1 h1
  obtain⟨h4,h5⟩:=bB h3
  refine⟨_,_,_,h5,fun H' hA K'=> ?_⟩
  unfold wj
  rw[hS]
  simp only
  rw[h2 H' (fun i hi=>hA i (auD _ (auD _ hi))),hy]
  simp only[at7]
  rw[sI (fun i hi=>hA i (auz _ hi)),h4]
  rfl
theorem K8{t:Ty}{z:Bool}{a:aY}{lo hi mx:Option aY}{H:Nat→Option aQ}{K:fk α}(h:mg t z a lo hi mx H K=some r): ∃v rd ups,K v rd ups=some r∧ ∀H',Ag rd H H'→ ∀K':fk α,mg t z a lo hi mx H' K'=K' v rd ups:=by
 unfold mg at h
 split at h
 ·obtain⟨h1,e1⟩:=cU h
  obtain⟨l,h2,e2⟩:=pf h1
  obtain⟨m,h3,e3⟩:=pf h2
  obtain⟨h4,e4⟩:=cU h3
  exact⟨_,_,_,h4,fun H' _ K'=>by unfold mg;simp only;rw[e1,e2,e3,e4]⟩
 ·cases z
  ·obtain⟨h1,e1⟩:=cU (h:cond mx.isNone _ none=some r)
   obtain⟨l,h2,e2⟩:=pf h1
   obtain⟨m,h3,e3⟩:=pf h2
   obtain⟨h4,e4⟩:=cU h3
   exact⟨_,_,_,h4,fun H' _ K'=>by unfold mg;simp only[auc];rw[e1,e2,e3,e4]⟩
  ·exact⟨_,_,_,h,fun H' _ K'=>by unfold mg;rfl⟩
 ·rename_i e fL
  obtain⟨y,rd,ups,h1,e1⟩:=kz h
  cases z
  ·obtain⟨h2,e2⟩:=cU (h1:cond (mx.isNone||hi.isSome) _ none=some r)
   obtain⟨l,h3,e3⟩:=pf h2
   obtain⟨m,h4,e4⟩:=pf h3
   obtain⟨n,h5,e5⟩:=pf h4
   obtain⟨h6,e6⟩:=cU h5
   refine⟨_,_,_,h6,fun H' hA K'=> ?_⟩
   unfold mg
   simp only
   rw[e1 H' hA]
   simp only[auc]
   rw[e2,e3,e4,e5,e6]
  ·refine⟨_,_,_,(h1:K .emp rd []=some r),fun H' hA K'=> ?_⟩
   unfold mg
   simp only
   rw[e1 H' hA]
   rfl
 ·cases h
theorem AX{τ:Ty}{a i:aY}{H:Nat→Option aQ}{K:fk α}(h:dY τ a i H K=some r): ∃v rd ups,K v rd ups=some r∧ ∀H',Ag rd H H'→ ∀K':fk α,dY τ a i H' K'=K' v rd ups:=by
 unfold dY at h
 obtain⟨k,n,h,e0⟩:=nM h
 split at h
 ·split at h
  ·obtain⟨z,h1,e1⟩:=cI h
   obtain⟨h2,e2⟩:=cU h1
   exact⟨_,_,_,h2,fun H' _ K'=>by unfold dY;rw[e0];simp only;rw[e1,e2]⟩
  ·split at h
   ·rename_i aS
    obtain⟨h1,e1⟩:=gi h
    obtain⟨h2,e2⟩:=cU h1
    exact⟨_,_,_,h2,fun H' hA K'=>by unfold dY;rw[e0];simp only;rw[hA _ (by simp),aS];simp only;rw[e1,e2]⟩
   ·rename_i aS
    obtain⟨h1,e1⟩:=gi h
    obtain⟨h2,e2⟩:=cU h1
    exact⟨_,_,_,h2,fun H' hA K'=>by unfold dY;rw[e0];simp only;rw[hA _ (by simp),aS];simp only;rw[e1,e2]⟩
   ·cases h
  ·cases h
 ·split at h
  ·obtain⟨υ,h1,e1⟩:=vr h
   obtain⟨h2,e2⟩:=gi h1
   obtain⟨h3,e3⟩:=cU h2
   exact⟨_,_,_,h3,fun H' hA K'=>by unfold dY;rw[e0];simp only;rw[e1 H' (hA _ (by simp)),e2,e3]⟩
  ·obtain⟨z,h1,e1⟩:=cI h
   obtain⟨h2,e2⟩:=cU h1
   exact⟨_,_,_,h2,fun H' _ K'=>by unfold dY;rw[e0];simp only;rw[e1,e2]⟩
  ·cases h
 ·cases h
theorem K9{τ:Ty}{a i:aY}{K:aY→Option α}(h:qB τ a i K=some r): ∃v,K v=some r∧ ∀K':aY→Option α,qB τ a i K'=K' v:=by
 unfold qB at h
 obtain⟨k,n,h,e0⟩:=nM h
 split at h
 ·obtain⟨z,h1,e1⟩:=cI h
  obtain⟨h2,e2⟩:=cU h1
  exact⟨_,h2,fun K'=>by unfold qB;rw[e0];simp only;rw[e1,e2]⟩
 ·obtain⟨h2,e2⟩:=cU h
  exact⟨_,h2,fun K'=>by unfold qB;rw[e0];simp only;rw[e2]⟩
 ·cases h
theorem NB{a:aY}{H:Nat→Option aQ}{K:(υ:Ty)→υ.den→List Nat→Option α}(h:gU a H K=some r): ∃υ y rd,K υ y rd=some r∧ ∀H',Ag rd H H'→ ∀K':(υ:Ty)→υ.den→List Nat→Option α,gU a H' K'=K' υ y rd:=by
 unfold gU at h
 split at h
 ·exact⟨_,_,_,h,fun _ _ _=>rfl⟩
 ·split at h
  ·rename_i aS
   obtain⟨υ,y,h1,e1⟩:=eB h
   exact⟨_,_,_,h1,fun H' hA K'=>by unfold gU;simp only;rw[hA _ (by simp),aS];simp only;rw[e1]⟩
  ·rename_i aS
   split at h
   ·obtain⟨υ,y,h1,e1⟩:=eB h
    exact⟨_,_,_,h1,fun H' hA K'=>by unfold gU;simp only;rw[hA _ (by simp),aS];simp only;rw[e1]⟩
   ·cases h
  ·rename_i aS
   split at h
   ·obtain⟨υ,y,h1,e1⟩:=eB h
    exact⟨_,_,_,h1,fun H' hA K'=>by unfold gU;simp only;rw[hA _ (by simp),aS];simp only;rw[e1]⟩
   ·cases h
  ·cases h
 ·cases h
theorem La{τ:Ty}{a v:aY}{H:Nat→Option aQ}{K:fk α}(h:iE τ a v H K=some r): ∃u rd ups,K u rd ups=some r∧ ∀H',Ag rd H H'→ ∀K':fk α,iE τ a v H' K'=K' u rd ups:=by
 unfold iE at h
 split at h
 ·obtain⟨y,rd,ups,h1,e1⟩:=kz h
  split at h1
  ·rename_i aS
   obtain⟨z,h2,e2⟩:=ky h1
   exact⟨_,_,_,h2,fun H' hA K'=>by
    unfold iE;simp only
    rw[e1 H' (fun i hi=>hA i (auk _ hi))]
    rw[hA _ (by simp),aS];simp only;rw[e2]⟩
  ·rename_i aS
   split at h1
   ·obtain⟨h2,e2⟩:=oI h1
    obtain⟨z,h3,e3⟩:=ky h2
    exact⟨_,_,_,h3,fun H' hA K'=>by
     unfold iE;simp only
     rw[e1 H' (fun i hi=>hA i (auk _ hi))]
     rw[hA _ (by simp),aS];simp only;rw[e2,e3]⟩
   ·cases h1
  ·cases h1
 ·cases h
theorem Rj{j:Nat}{q:List Step}{τ:Ty}{x:τ.den}{H:Nat→Option aQ}{k:τ.den→fj→Option α}(h:xa j q τ x H k=some r): ∃z ups,k z ups=some r∧ ∀H',H' j=H j→ ∀k':τ.den→fj→Option α,xa j q τ x H' k'=k' z ups:=by
 unfold xa at h
 split at h
 ·rename_i hj
  obtain⟨z,h1,e1⟩:=ky h
  exact⟨_,_,h1,fun H' hA k'=>by unfold xa;rw[hA,hj];simp only;rw[e1]⟩
 ·rename_i hj
  obtain⟨z,h1,e1⟩:=ky h
  exact⟨_,_,h1,fun H' hA k'=>by unfold xa;rw[hA,hj];simp only;rw[e1]⟩
 ·cases h
abbrev Pts(F:(Nat→Option aQ)→fk α→Option α)(H:Nat→Option aQ)(K:fk α)(r:α):Prop:=
 ∃v rd ups,K v rd ups=some r∧ ∀H',Ag rd H H'→ ∀K':fk α,F H' K'=K' v rd ups
theorem NC{τ:Ty}{a:aY}{H:Nat→Option aQ}{K:fk α}(h:(gU a H fun υ y rd=>b7 υ τ y fun z=>K (.val τ z) rd [])=some r):
  Pts (fun H K=>gU a H fun υ y rd=>b7 υ τ y fun z=>K (.val τ z) rd []) H K r:=by
 obtain⟨υ,y,rd,h1,e1⟩:=NB h
 obtain⟨z,h2,e2⟩:=cI h1
 exact⟨_,_,_,h2,fun H' hA K'=>by simp only;rw[e1 H' hA,e2]⟩
theorem aec{id:Nat}{p:List Step}{H:Nat→Option aQ}{K:(υ:Ty)→υ.den→List Nat→Option α}(h:gU (.fC id p) H K=some r): ∃υ y,K υ y [id]=some r:=by
 unfold gU at h
 simp only at h
 split at h
 ·obtain⟨υ,y,h1,_⟩:=eB h;exact⟨υ,y,h1⟩
 ·split at h
  ·obtain⟨υ,y,h1,_⟩:=eB h;exact⟨υ,y,h1⟩
  ·cases h
 ·split at h
  ·obtain⟨υ,y,h1,_⟩:=eB h;exact⟨υ,y,h1⟩
  ·cases h
 ·cases h
theorem ND{τ:Ty}{id:Nat}{p:List Step}{H:Nat→Option aQ}{K:fk α}(h:(gU (.fC id p) H fun υ y rd=>b7 υ τ y fun z=>K (.val τ z) rd [])=some r):
  ∃z,K (.val τ z) [id] []=some r∧ ∀H',H' id=H id→ ∀K':fk α,(gU (.fC id p) H' fun υ y rd=>b7 υ τ y fun z=>K' (.val τ z) rd [])=K' (.val τ z) [id] []:=by
 unfold gU at h
 simp only at h
 split at h
 ·rename_i aS
  obtain⟨υ,y,h1,e1⟩:=eB h
  obtain⟨z,h2,e2⟩:=cI h1
  exact⟨_,h2,fun H' hA K'=>by unfold gU;simp only;rw[hA,aS];simp only;rw[e1,e2]⟩
 ·rename_i aS
  split at h
  ·obtain⟨υ,y,h1,e1⟩:=eB h
   obtain⟨z,h2,e2⟩:=cI h1
   exact⟨_,h2,fun H' hA K'=>by unfold gU;simp only;rw[hA,aS];simp only;rw[e1,e2]⟩
  ·cases h
 ·rename_i aS
  split at h
  ·obtain⟨υ,y,h1,e1⟩:=eB h
   obtain⟨z,h2,e2⟩:=cI h1
   exact⟨_,h2,fun H' hA K'=>by unfold gU;simp only;rw[hA,aS];simp only;rw[e1,e2]⟩
  ·cases h
 ·cases h
theorem NF{τ:Ty}{a:aY}{H:Nat→Option aQ}{K:fk α}(h:p5 τ a H K=some r):Pts (p5 τ a) H K r:=by
 unfold p5 at h
 simp only at h
 split at h
 ·rename_i id p
  split at h
  ·rename_i υ x q j aS
   cases hp:D0 p q
   ·cases yx:sj p q
    ·rw[hp,yx]at h
     simp only[auc]at h
     obtain⟨υ',y,h1,e1⟩:=eB h
     obtain⟨z,h2,e2⟩:=cI h1
     exact⟨_,_,_,h2,fun H' hA K'=>by
      unfold p5;simp only;rw[hA id (by simp),aS];simp only
      rw[hp,yx];simp only[auc];rw[e1,e2]⟩
    ·rw[hp,yx]at h
     simp only[auc,aua]at h
     obtain⟨z,ups,h1,e1⟩:=Rj h
     obtain⟨υ',y,h2,e2⟩:=eB h1
     obtain⟨z',h3,e3⟩:=cI h2
     exact⟨_,_,_,h3,fun H' hA K'=>by
      unfold p5;simp only;rw[hA id (by simp),aS];simp only
      rw[hp,yx];simp only[auc,aua];rw[e1 H' (hA j (by simp)),e2,e3]⟩
   ·rw[hp]at h
    simp only[aua]at h
    obtain⟨h1,e1⟩:=cU h
    exact⟨_,_,_,h1,fun H' hA K'=>by
     unfold p5;simp only;rw[hA id (by simp),aS];simp only
     rw[hp];simp only[aua];rw[e1]⟩
  ·rename_i ot
   obtain⟨z,h1,e1⟩:=ND h
   refine⟨_,_,_,h1,fun H' hA K'=> ?_⟩
   unfold p5;simp only;rw[hA id (by simp)]
   split
   ·rename_i aS;exact absurd aS (ot _ _ _ _)
   ·exact e1 H' (hA id (by simp)) K'
 ·rename_i ot
  obtain⟨v,rd,ups,h1,e1⟩:=NC h
  refine⟨v,rd,ups,h1,fun H' hA K'=> ?_⟩
  have:p5 τ a H' K'=gU a H' fun υ y rd=>b7 υ τ y fun z=>K' (.val τ z) rd []:=by
   unfold p5
   cases a<;>first|rfl|exact absurd rfl (ot _ _)
  rw[this]
  exact e1 H' hA K'
theorem EB{τ:Ty}{id k:Nat}{e:Ty}{q:List Step}{υ:Ty}{x:υ.den}{H:Nat→Option aQ}{K:fk α}(h:wk τ id k e q υ x H K=some r):
  ∃v ups,K v [id,k] ups=some r∧ ∀H',H' k=H k→ ∀K':fk α,wk τ id k e q υ x H' K'=K' v [id,k] ups:=by
 unfold wk at h
 split at h
 ·rename_i aS
  obtain⟨h1,e1⟩:=gi h
  obtain⟨h2,e2⟩:=gi h1
  obtain⟨z,h3,e3⟩:=ky h2
  exact⟨_,_,h3,fun H' hA K'=>by unfold wk;rw[hA,aS];simp only;rw[e1,e2,e3]⟩
 ·cases h
theorem vt{τ:Ty}{id:Nat}{p:List Step}{v:aY}{H:Nat→Option aQ}{K:fk α}(h:iE τ (.fC id p) v H K=some r):
  ∃u rd ups,id∈rd∧K u rd ups=some r∧ ∀H',Ag rd H H'→ ∀K':fk α,iE τ (.fC id p) v H' K'=K' u rd ups:=by
 unfold iE at h
 simp only at h
 obtain⟨y,rd,ups,h1,e1⟩:=kz h
 split at h1
 ·rename_i aS
  obtain⟨z,h2,e2⟩:=ky h1
  exact⟨_,_,_,by simp,h2,fun H' hA K'=>by
   unfold iE;simp only
   rw[e1 H' (fun i hi=>hA i (auk _ hi))]
   rw[hA _ (by simp),aS];simp only;rw[e2]⟩
 ·rename_i aS
  split at h1
  ·obtain⟨h2,e2⟩:=oI h1
   obtain⟨z,h3,e3⟩:=ky h2
   exact⟨_,_,_,by simp,h3,fun H' hA K'=>by
    unfold iE;simp only
    rw[e1 H' (fun i hi=>hA i (auk _ hi))]
    rw[hA _ (by simp),aS];simp only;rw[e2,e3]⟩
  ·cases h1
 ·cases h1
theorem vu{E:Env}{τ:Ty}{a v:aY}{H:Nat→Option aQ}{K:fk α}(h:gf E τ a v H K=some r):
  ∃u rd ups,K u rd ups=some r∧ ∀H',Ag rd H H'→ ∀K':fk α,gf E τ a v H' K'=K' u rd ups:=by
 have h0:=h
 unfold gf at h
 simp only at h
 split at h
 ·rename_i id p
  split at h
  ·rename_i υ x aS
   split at h
   ·rename_i q e k oD
    cases hp:D0 p q
    ·rw[hp]at h
     simp only[auc]at h
     obtain⟨u,rd,ups,hi,h1,e1⟩:=vt h
     refine⟨u,rd,ups,h1,fun H' hA K'=> ?_⟩
     unfold gf;simp only;rw[hA id hi,aS];simp only;rw[oD];simp only;rw[hp];simp only[auc]
     exact e1 H' hA K'
    ·rw[hp]at h
     simp only[aua]at h
     obtain⟨u,ups,h1,e1⟩:=EB h
     refine⟨u,_,ups,h1,fun H' hA K'=> ?_⟩
     unfold gf;simp only;rw[hA id (by simp),aS];simp only;rw[oD];simp only;rw[hp];simp only[aua]
     exact e1 H' (hA k (by simp)) K'
   ·rename_i ot
    obtain⟨u,rd,ups,hi,h1,e1⟩:=vt h
    refine⟨u,rd,ups,h1,fun H' hA K'=> ?_⟩
    unfold gf;simp only;rw[hA id hi,aS];simp only
    exact e1 H' hA K'
  ·rename_i υ x q j aS
   have tK:(iC true v H τ fun y rd ups=>qi τ y p υ x fun z=>K .any (id::rd) (ups++[(id,some (cond (sj p q) (.obj υ z) (.dO υ z q j)))]))=some r→
     ∃u rd ups,id∈rd∧K u rd ups=some r∧ ∀H',Ag rd H H'→ ∀K':fk α,(iC true v H' τ fun y rd ups=>qi τ y p υ x fun z=>K' .any (id::rd) (ups++[(id,some (cond (sj p q) (.obj υ z) (.dO υ z q j)))]))=K' u rd ups:=by
    intro h
    obtain⟨y,rd,ups,h1,e1⟩:=kz h
    obtain⟨z,h2,e2⟩:=ky h1
    exact⟨_,_,_,by simp,h2,fun H' hA K'=>by rw[e1 H' (fun i hi=>hA i (auk _ hi)),e2]⟩
   split at h
   ·rename_i q' e k oD
    cases hp:(D0 p q&&D0 q q')
    ·rw[hp]at h
     simp only[auc]at h
     obtain⟨u,rd,ups,hi,h1,e1⟩:=tK h
     refine⟨u,rd,ups,h1,fun H' hA K'=> ?_⟩
     unfold gf;simp only;rw[hA id hi,aS];simp only;rw[oD];simp only;rw[hp];simp only[auc]
     exact e1 H' hA K'
    ·rw[hp]at h
     simp only[aua]at h
     obtain⟨u,ups,h1,e1⟩:=EB h
     refine⟨u,_,ups,h1,fun H' hA K'=> ?_⟩
     unfold gf;simp only;rw[hA id (by simp),aS];simp only;rw[oD];simp only;rw[hp];simp only[aua]
     exact e1 H' (hA k (by simp)) K'
   ·rename_i ot
    obtain⟨u,rd,ups,hi,h1,e1⟩:=tK h
    refine⟨u,rd,ups,h1,fun H' hA K'=> ?_⟩
    unfold gf;simp only;rw[hA id hi,aS];simp only
    exact e1 H' hA K'
  ·rename_i ajy ajz
   obtain⟨u,rd,ups,hi,h1,e1⟩:=vt h
   refine⟨u,rd,ups,h1,fun H' hA K'=> ?_⟩
   unfold gf;simp only;rw[hA id hi]
   split
   ·rename_i aS;exact absurd aS (ajy _ _)
   ·rename_i aS;exact absurd aS (ajz _ _ _ _)
   ·exact e1 H' hA K'
 ·rename_i ot
  obtain⟨u,rd,ups,h1,e1⟩:=La h
  refine⟨u,rd,ups,h1,fun H' hA K'=> ?_⟩
  have:gf E τ a v H' K'=iE τ a v H' K':=by
   unfold gf
   cases a<;>first|rfl|exact absurd rfl (ot _ _)
  rw[this]
  exact e1 H' hA K'
theorem Lb{E:Env}{τ:Ty}{a v:aY}{H:Nat→Option aQ}{K:fk α}(h:n5 E τ a v H K=some r):
  ∃u rd ups,K u rd ups=some r∧ ∀H',Ag rd H H'→ ∀K':fk α,n5 E τ a v H' K'=K' u rd ups:=by
 unfold n5 at h
 split at h
 ·rename_i id υ y n
  split at h
  ·rename_i m e oD
   cases yF:Nat.beq m n
   ·rw[yF]at h
    simp only[auc]at h
    obtain⟨u,rd,ups,h1,e1⟩:=vu h
    exact⟨u,rd,ups,h1,fun H' hA K'=>by unfold n5;simp only;rw[oD];simp only;rw[yF];simp only[auc];exact e1 H' hA K'⟩
   ·rw[yF]at h
    simp only[aua]at h
    obtain⟨h1,e1⟩:=gi h
    obtain⟨υ',h2,e2⟩:=vr h1
    obtain⟨h3,e3⟩:=gi h2
    obtain⟨h4,e4⟩:=rJ h3
    exact⟨_,_,_,h4,fun H' hA K'=>by unfold n5;simp only;rw[oD];simp only;rw[yF];simp only[aua];rw[e1,e2 H' (hA _ (by simp)),e3,e4 H' (hA _ (by simp))]⟩
  ·rename_i ot
   obtain⟨u,rd,ups,h1,e1⟩:=vu h
   refine⟨u,rd,ups,h1,fun H' hA K'=> ?_⟩
   unfold n5;simp only
   exact e1 H' hA K'
 ·rename_i ot
  obtain⟨u,rd,ups,h1,e1⟩:=vu h
  refine⟨u,rd,ups,h1,fun H' hA K'=> ?_⟩
  unfold n5
  split
  ·exact absurd rfl (ot _ _ _ _ rfl)
  ·exact e1 H' hA K'
theorem JP{H:Nat→Option aQ}{id:Nat}{τ:Ty}{x:τ.den}{q:List Step}{e:Ty}{K:fk α}(h:xb H id τ x q e K=some r):Pts (fun H K=>xb H id τ x q e K) H K r:=by
 obtain⟨h1,h2,h3⟩:=yE h
 exact⟨_,_,_,h3,fun H' hA K'=>by unfold xb me;simp only;rw[hA id (by simp),h1,hA (id+1) (by simp),h2]⟩
theorem Zc{E:Env}{o:Oper}{ρ:Operand→aY}{H:Nat→Option aQ}{K:fk α}(h:oq E o ρ H K=some r):
  ∃v rd ups,K v rd ups=some r∧ ∀ρ' H',(∀x∈o.op.operands,ρ' x=ρ x)→Ag rd H H'→ ∀K':fk α,oq E o ρ' H' K'=K' v rd ups:=by
 obtain⟨dst,op,type,pos,after,guard⟩:=o
 unfold oq at h
 simp only at h
 have Rk: ∀{ρ':Operand→aY} (xs:List Operand),(∀x∈xs,ρ' x=ρ x)→xs.map ρ'=xs.map ρ:=fun xs hx=>avJ hx
 have H7: ∀{ρ':Operand→aY} (ps:Array (Nat×Operand)),(∀x∈ps.map (·.2),ρ' x=ρ x)→partsOf ρ' ps=partsOf ρ ps:=fun ps hp=>by
  unfold partsOf
  exact avJ fun p hm=>by rw[hp p.2 (Array.mem_map.2 ⟨p,by simpa using hm,rfl⟩)]
 have Zd: ∀{ρ':Operand→aY} (x:Option Operand),(∀y∈x,ρ' y=ρ y)→x.map ρ'=x.map ρ:=fun x hx=>by
  cases x with
  |none=>rfl
  |some x=>simp[hx x rfl]
 split at h
 ·
  rename_i x
  exact⟨_,_,_,h,fun ρ' H' hx _ K'=>by unfold oq;simp only;rw[hx x (by simp[Op.operands])]⟩
 ·rename_i x
  exact⟨_,_,_,h,fun ρ' H' hx _ K'=>by unfold oq;simp only;rw[hx x (by simp[Op.operands])]⟩
 ·rename_i x y z
  split at h
  ·rename_i t hx
   cases t
   ·exact⟨_,_,_,(h:K (ρ z) [] []=some r),fun ρ' H' ns _ K'=>by unfold oq;simp only;rw[ns x (by simp[Op.operands]),hx,ns z (by simp[Op.operands])];rfl⟩
   ·exact⟨_,_,_,(h:K (ρ y) [] []=some r),fun ρ' H' ns _ K'=>by unfold oq;simp only;rw[ns x (by simp[Op.operands]),hx,ns y (by simp[Op.operands])];rfl⟩
  ·cases h
 ·
  split at h
  ·rename_i τ ht
   split at h
   ·rename_i q e oD
    obtain⟨v,rd,ups,h1,e1⟩:=JP h
    exact⟨_,_,_,h1,fun ρ' H' hx hA K'=>by unfold oq;simp only;rw[ht];simp only;rw[oD];exact e1 H' hA K'⟩
   ·rename_i oD
    obtain⟨h1,e1⟩:=rJ h
    exact⟨_,_,_,h1,fun ρ' H' hx hA K'=>by unfold oq;simp only;rw[ht];simp only;rw[oD];simp only;rw[e1 H' (hA _ (by simp))]⟩
  ·cases h
 ·
  rename_i t x
  split at h
  ·rename_i τ ht
   have hold:(iC true (ρ x) H τ fun y rd ups=>me H (16*dst.getD 0) (.obj τ y) (K (.fC (16*dst.getD 0) []) (16*dst.getD 0::rd) (ups++[(16*dst.getD 0,some (.obj τ y))])))=some r→
     Pts (fun H K=>iC true (ρ x) H τ fun y rd ups=>me H (16*dst.getD 0) (.obj τ y) (K (.fC (16*dst.getD 0) []) (16*dst.getD 0::rd) (ups++[(16*dst.getD 0,some (.obj τ y))]))) H K r:=by
    intro h
    obtain⟨y,rd,ups,h1,e1⟩:=kz h
    obtain⟨h2,e2⟩:=rJ h1
    exact⟨_,_,_,h2,fun H' hA K'=>by simp only;rw[e1 H' (fun i hi=>hA i (auk _ hi)),e2 H' (hA _ (by simp))]⟩
   split at h
   ·rename_i m e υ y n oD JQ
    cases yF:Nat.beq m n
    ·rw[yF]at h
     obtain⟨v,rd,ups,h1,e1⟩:=hold h
     refine⟨_,_,_,h1,fun ρ' H' hx hA K'=> ?_⟩
     unfold oq;simp only;rw[ht];simp only
     rw[hx x (by simp[Op.operands]),oD,JQ];simp only
     rw[yF]
     have:=e1 H' hA K'
     rw[JQ]at this
     exact this
    ·rw[yF]at h
     simp only[aua]at h
     obtain⟨z,h1,e1⟩:=cI h
     obtain⟨v,rd,ups,h2,e2⟩:=JP h1
     refine⟨_,_,_,h2,fun ρ' H' hx hA K'=> ?_⟩
     unfold oq;simp only;rw[ht];simp only
     rw[hx x (by simp[Op.operands]),oD,JQ];simp only
     rw[yF];simp only[aua]
     rw[e1]
     exact e2 H' hA K'
   ·rename_i ot
    obtain⟨v,rd,ups,h1,e1⟩:=hold h
    refine⟨_,_,_,h1,fun ρ' H' hx hA K'=> ?_⟩
    unfold oq;simp only;rw[ht];simp only
    rw[hx x (by simp[Op.operands])]
    split
    ·rename_i oD JQ;exact absurd JQ (ot _ _ _ _ _ oD)
    ·exact e1 H' hA K'
  ·cases h
 ·
  rename_i t ps
  split at h
  ·rename_i n e ht
   obtain⟨l,rd,ups,h1,_,e1⟩:=yS h
   exact⟨_,_,_,h1,fun ρ' H' hx hA K'=>by unfold oq;simp only;rw[ht];simp only;rw[H7 ps (fun x ns=>hx x (by simpa [Op.operands]using ns)),e1 H' hA]⟩
  ·rename_i τ Q3 ht
   obtain⟨h0,e0⟩:=cU h
   obtain⟨l,rd,ups,h1,_,e1⟩:=Bu h0
   refine⟨_,_,_,h1,fun ρ' H' hx hA K'=> ?_⟩
   unfold oq;simp only;rw[ht]
   have: ∀{β:Type} (A:Nat→Ty→β) (B:Ty→β),(match some τ with|some (.arr n e)=>A n e|some τ=>B τ|none=>B τ)=B τ:=by
    intro β A B
    cases τ<;>first|rfl|exact absurd rfl (Q3 _ _)
   cases τ with
   |arr n e=>exact absurd rfl (Q3 n e)
   |_=>
    simp only
    rw[H7 ps (fun x ns=>hx x (by simpa [Op.operands]using ns)),e0,e1 H' hA]
  ·cases h
 ·
  rename_i t n ps
  split at h
  ·rename_i e ht
   obtain⟨h0,e0⟩:=cU h
   obtain⟨h1,e1⟩:=rJ h0
   obtain⟨l,rd,ups,h2,_,e2⟩:=yS h1
   exact⟨_,_,_,h2,fun ρ' H' hx hA K'=>by
    unfold oq;simp only;rw[ht];simp only
    rw[e0,e1 H' (hA _ (by simp)),H7 ps (fun x ns=>hx x (by simpa [Op.operands]using ns)),e2 H' (fun i hi=>hA i (auk _ hi))]⟩
  ·cases h
 ·
  rename_i t x
  split at h
  ·rename_i τ ht
   obtain⟨v,rd,ups,h1,e1⟩:=NF h
   exact⟨_,_,_,h1,fun ρ' H' hx hA K'=>by unfold oq;simp only;rw[ht];simp only;rw[hx x (by simp[Op.operands]),e1 H' hA]⟩
  ·cases h
 ·
  rename_i t x y
  split at h
  ·rename_i τ ht
   obtain⟨u,rd,ups,h1,e1⟩:=Lb h
   exact⟨_,_,_,h1,fun ρ' H' hx hA K'=>by unfold oq;simp only;rw[ht];simp only;rw[hx x (by simp[Op.operands]),hx y (by simp[Op.operands]),e1 H' hA]⟩
  ·cases h
 ·
  rename_i x
  split at h
  ·rename_i id p hx
   exact⟨_,_,_,h,fun ρ' H' ns _ K'=>by unfold oq;simp only;rw[ns x (by simp[Op.operands]),hx]⟩
  ·rename_i τ z hx
   exact⟨_,_,_,h,fun ρ' H' ns _ K'=>by unfold oq;simp only;rw[ns x (by simp[Op.operands]),hx]⟩
  ·cases h
 ·
  rename_i b t x y t'
  obtain⟨τ,x1,h1,e1⟩:=JO h
  obtain⟨υ,y1,h2,e2⟩:=JO h1
  obtain⟨v,h3,e3⟩:=Nx h2
  exact⟨_,_,_,h3,fun ρ' H' hx _ K'=>by unfold oq;simp only;rw[hx x (by simp[Op.operands]),hx y (by simp[Op.operands]),e1,e2,e3]⟩
 ·
  rename_i u t x
  obtain⟨v,h1,e1⟩:=Rg h
  exact⟨_,_,_,h1,fun ρ' H' hx _ K'=>by unfold oq;simp only;rw[hx x (by simp[Op.operands]),e1]⟩
 ·
  rename_i s d x
  split at h
  ·rename_i τ k hs hd
   obtain⟨i,n,h1,e1⟩:=nM h
   exact⟨_,_,_,h1,fun ρ' H' hx _ K'=>by unfold oq;simp only;rw[hs,hd];simp only;rw[hx x (by simp[Op.operands]),e1]⟩
  ·cases h
 ·
  rename_i f first caps
  obtain⟨h1,e1⟩:=cU h
  obtain⟨cs,rd,ups,h3,e3⟩:=yU h1
  exact⟨_,_,_,h3,fun ρ' H' hx hA K'=>by unfold oq;simp only;rw[Rk caps.toList (fun x ns=>hx x (by simp[Op.operands];exact .inr (by simpa using ns))),e1,e3 H' hA]⟩
 ·
  rename_i t x y
  split at h
  ·rename_i e ht
   obtain⟨i,n,h1,e1⟩:=nM h
   obtain⟨i',n',h2,e2⟩:=nM h1
   obtain⟨h3,e3⟩:=cU h2
   obtain⟨h4,e4⟩:=rJ h3
   exact⟨_,_,_,h4,fun ρ' H' hx hA K'=>by
    unfold oq;simp only;rw[ht];simp only
    rw[hx x (by simp[Op.operands]),e1,hx y (by simp[Op.operands]),e2,e3,e4 H' (hA _ (by simp))]⟩
  ·cases h
 ·
  rename_i t x lo hi mx
  split at h
  ·rename_i τ ht
   obtain⟨v,rd,ups,h1,e1⟩:=K8 h
   exact⟨_,_,_,h1,fun ρ' H' hx hA K'=>by
    unfold oq;simp only;rw[ht];simp only
    rw[hx x (by simp[Op.operands]),Zd lo (fun y hy=>hx y (by simp at hy;simp[Op.operands,hy])),Zd hi (fun y hy=>hx y (by simp at hy;simp[Op.operands,hy])),Zd mx (fun y hy=>hx y (by simp at hy;simp[Op.operands,hy])),e1 H' hA]⟩
  ·cases h
 ·
  rename_i t x n
  split at h
  ·rename_i τ ht
   split at h
   ·rename_i id p hx
    obtain⟨υ,h1,e1⟩:=vr h
    obtain⟨h2,e2⟩:=gi h1
    obtain⟨υ',y',h3,e3⟩:=rI h2
    obtain⟨h4,e4⟩:=oI h3
    exact⟨_,_,_,h4,fun ρ' H' ns hA K'=>by
     unfold oq;simp only;rw[ht];simp only
     rw[ns x (by simp[Op.operands]),hx];simp only
     rw[e1 H' (hA _ (by simp)),e2,e3,e4]⟩
   ·rename_i υ z hx
    obtain⟨h2,e2⟩:=gi h
    obtain⟨υ',y',h3,e3⟩:=rI h2
    obtain⟨h4,e4⟩:=oI h3
    exact⟨_,_,_,h4,fun ρ' H' ns hA K'=>by
     unfold oq;simp only;rw[ht];simp only
     rw[ns x (by simp[Op.operands]),hx];simp only
     rw[e2,e3,e4]⟩
   ·cases h
  ·cases h
 ·
  rename_i t x n
  split at h
  ·rename_i τ ht
   split at h
   ·rename_i υ z hx
    obtain⟨h2,e2⟩:=gi h
    obtain⟨υ',y',h3,e3⟩:=rI h2
    exact⟨_,_,_,h3,fun ρ' H' ns hA K'=>by
     unfold oq;simp only;rw[ht];simp only
     rw[ns x (by simp[Op.operands]),hx];simp only
     rw[e2,e3]⟩
   ·cases h
  ·cases h
 ·
  rename_i t x i
  split at h
  ·rename_i τ ht
   obtain⟨v,rd,ups,h1,e1⟩:=AX h
   exact⟨_,_,_,h1,fun ρ' H' hx hA K'=>by unfold oq;simp only;rw[ht];simp only;rw[hx x (by simp[Op.operands]),hx i (by simp[Op.operands]),e1 H' hA]⟩
  ·cases h
 ·
  rename_i t x i
  split at h
  ·rename_i τ ht
   obtain⟨v,h1,e1⟩:=K9 h
   exact⟨_,_,_,h1,fun ρ' H' hx hA K'=>by unfold oq;simp only;rw[ht];simp only;rw[hx x (by simp[Op.operands]),hx i (by simp[Op.operands]),e1]⟩
  ·cases h
 ·
  rename_i x i
  split at h
  ·rename_i vs hx
   split at h
   ·rename_i v hv
    exact⟨_,_,_,h,fun ρ' H' ns hA K'=>by unfold oq;simp only;rw[ns x (by simp[Op.operands]),hx];simp only;rw[hv]⟩
   ·cases h
  ·cases h
 ·
  rename_i cl
  obtain⟨callee,args,ts⟩:=cl
  simp only at h
  have sv: ∀{ρ':Operand→aY},(∀x∈(Op.call {callee,args,argTypes:=ts}).operands,ρ' x=ρ x)→ ∀x∈args.toList,ρ' x=ρ x:=
   fun hx x ns=>hx x (by simp[Op.operands,Call.operands];exact .inr (by simpa using ns))
  split at h
  ·split at h
   ·rename_i x τ ha ht
    obtain⟨v,rd,ups,h1,e1⟩:=Rh h
    exact⟨_,_,_,h1,fun ρ' H' hx hA K'=>by unfold oq;simp only;rw[ha,ht];simp only;rw[sv hx x (by rw[ha];simp),e1 H' hA]⟩
   ·cases h
  ·split at h
   ·rename_i x y t t' ha ht
    split at h
    ·rename_i e hte
     obtain⟨h1,e1⟩:=cU h
     obtain⟨h2,e2⟩:=rJ h1
     obtain⟨v,rd,ups,h3,aS,e3⟩:=Ri h2
     exact⟨_,_,_,h3,fun ρ' H' hx hA K'=>by
      unfold oq;simp only;rw[ha,ht];simp only;rw[hte];simp only
      rw[e1,e2 H' (hA _ aS),sv hx x (by rw[ha];simp),sv hx y (by rw[ha];simp),e3 H' hA]⟩
    ·cases h
   ·cases h
  ·split at h
   ·rename_i x xs ha
    obtain⟨v,h1,e1⟩:=H6 h
    exact⟨_,_,_,h1,fun ρ' H' hx hA K'=>by
     unfold oq;simp only;rw[ha];simp only
     rw[sv hx x (by rw[ha];simp),Rk xs (fun y hy=>sv hx y (by rw[ha];simp[hy])),e1]⟩
   ·cases h
  ·split at h
   ·rename_i x xs ha
    obtain⟨v,h1,e1⟩:=H6 h
    exact⟨_,_,_,h1,fun ρ' H' hx hA K'=>by
     unfold oq;simp only;rw[ha];simp only
     rw[sv hx x (by rw[ha];simp),Rk xs (fun y hy=>sv hx y (by rw[ha];simp[hy])),e1]⟩
   ·cases h
  ·rename_i g
   split at h
   ·rename_i f caps hg
    obtain⟨v,rd,ups,h1,e1⟩:=NA h
    exact⟨_,_,_,h1,fun ρ' H' hx hA K'=>by
     unfold oq;simp only
     rw[hx g (by simp[Op.operands,Call.operands]),hg];simp only
     rw[Rk args.toList (sv hx),e1 H' hA]⟩
   ·cases h
  ·cases h
 ·cases h
end VM
end
section
namespace VM
open Go
variable{P:Program}{E:Env}{o:Oper}{a:Act}{w:World}{M:Nat→Prop}{ν:Nat→Value}{σ:St}{c:Ctx}{α:Type}{r:α}{next:Act→World→Prop}{Q:Exit→Act→World→Prop}
structure Out where
 dst:Option Nat
 v:aY
 rd:List Nat
 ups:fj
def Out.app(u:Out)(σ:St):St:=(σ.qw u.ups).qg u.dst u.v
theorem EC(σ:St)(d:Nat)(v:aY):(σ.qg (some d) v).T d=v:=pb σ d v
theorem Lc(σ:St){d:Option Nat}{t:Nat}(v:aY)(h:d≠some t):(σ.qg d v).T t=σ.T t:=by
 cases d with
 |none=>rfl
 |some d=>exact tR σ v (fun e=>h (by rw[e]))
theorem Ze(σ:St)(d:Option Nat)(v:aY):(σ.qg d v).H=σ.H:=by cases d<;>rfl
theorem H8{u:Out}{t:Nat}(h:u.dst=some t)(σ:St):(u.app σ).T t=u.v:=by unfold Out.app;rw[h];exact EC _ _ _
theorem NG{u:Out}{t:Nat}(h:u.dst≠some t)(σ:St):(u.app σ).T t=σ.T t:=by unfold Out.app;rw[Lc _ _ h,HU]
theorem aed(u:Out)(σ:St):(u.app σ).H=bS σ.H u.ups:=by unfold Out.app;rw[Ze,HT]
def Pt(E:Env)(ops:List Oper)(o:Oper)(σ:St)(u:Out)(α:Type):Prop:=
 u.dst=o.dst∧ ∀σ':St,(∀t∈names ops o,σ'.T t=σ.T t)→Ag u.rd σ.H σ'.H→ ∀K':St→List Nat→List Nat→Option α,oy E ops o σ' K'=K' (u.app σ') u.rd (u.ups.map (·.1))
theorem NH{ops:List Oper}{K:St→List Nat→List Nat→Option α}(h:oy E ops o σ K=some r): ∃u:Out,K (u.app σ) u.rd (u.ups.map (·.1))=some r∧Pt E ops o σ u α:=by
 unfold oy at h
 obtain⟨h,e0⟩:=cU h
 have ajA: ∀σ':St,(∀t∈names ops o,σ'.T t=σ.T t)→ ∀x∈o.op.operands,σ'.ρ x=σ.ρ x:=by
  intro σ' hT x hx
  cases x with
  |tmp t=>
   refine hT t ?_
   unfold names
   refine auz _ (List.mem_filterMap.2 ⟨.tmp t,by simpa using hx,rfl⟩)
  |_=>rfl
 have cw:oq E o σ.ρ σ.H (fun v rd ups=>K ((σ.qw ups).qg o.dst v) rd (ups.map (·.1)))=some r→
   ∃u:Out,K (u.app σ) u.rd (u.ups.map (·.1))=some r∧u.dst=o.dst∧ ∀σ':St,(∀t∈names ops o,σ'.T t=σ.T t)→Ag u.rd σ.H σ'.H→ ∀K':St→List Nat→List Nat→Option α,
    oq E o σ'.ρ σ'.H (fun v rd ups=>K' ((σ'.qw ups).qg o.dst v) rd (ups.map (·.1)))=K' (u.app σ') u.rd (u.ups.map (·.1)):=by
  intro h
  obtain⟨v,rd,ups,h1,h2⟩:=Zc h
  exact⟨⟨o.dst,v,rd,ups⟩,h1,rfl,fun σ' hT hA K'=>h2 σ'.ρ σ'.H (ajA σ' hT) hA _⟩
 have nL: ∀{K:St→List Nat→List Nat→Option α},K (σ.qg o.dst .M4) [] []=some r→ ∃u:Out,K (u.app σ) u.rd (u.ups.map (·.1))=some r∧u.dst=o.dst∧ ∀σ':St,∀K':St→List Nat→List Nat→Option α,K' (σ'.qg o.dst .M4) [] []=K' (u.app σ') u.rd (u.ups.map (·.1)):=
  fun h=>⟨⟨o.dst,.M4,[],[]⟩,h,rfl,fun _ _=>rfl⟩
 simp only at h
 split at h
 ·rename_i hg
  obtain⟨u,h1,h2,h3⟩:=cw h
  refine⟨u,h1,h2,fun σ' hT hA K'=> ?_⟩
  unfold oy
  rw[e0]
  simp only
  rw[hg]
  exact h3 σ' hT hA K'
 ·rename_i j want hg
  split at h
  ·cases h
  ·rename_i t ht
   have Ld:t∈names ops o:=by
    unfold names
    refine auD _ ?_
    rw[hg]
    simp[ht]
   split at h
   ·rename_i b hb
    have lx: ∀σ':St,σ'.T t=σ.T t→σ'.put t (.val .bool b)=σ':=fun σ' h'=>by
     rw[←hb,←h'];exact yO σ' t
    cases want<;>cases b
    ·obtain⟨u,h1,h2,h3⟩:=cw (by
      have:=lx σ rfl
      rw[this]at h;exact h)
     refine⟨u,h1,h2,fun σ' hT hA K'=> ?_⟩
     unfold oy
     rw[e0];simp only;rw[hg];simp only;rw[ht];simp only;rw[hT t Ld,hb];simp only
     rw[lx σ' (hT t Ld)]
     exact h3 σ' hT hA K'
    ·obtain⟨u,h1,h2,h3⟩:=nL (by
      have:=lx σ rfl
      rw[this]at h;exact h)
     refine⟨u,h1,h2,fun σ' hT hA K'=> ?_⟩
     unfold oy
     rw[e0];simp only;rw[hg];simp only;rw[ht];simp only;rw[hT t Ld,hb];simp only
     rw[lx σ' (hT t Ld)]
     exact h3 σ' K'
    ·obtain⟨u,h1,h2,h3⟩:=nL (by
      have:=lx σ rfl
      rw[this]at h;exact h)
     refine⟨u,h1,h2,fun σ' hT hA K'=> ?_⟩
     unfold oy
     rw[e0];simp only;rw[hg];simp only;rw[ht];simp only;rw[hT t Ld,hb];simp only
     rw[lx σ' (hT t Ld)]
     exact h3 σ' K'
    ·obtain⟨u,h1,h2,h3⟩:=cw (by
      have:=lx σ rfl
      rw[this]at h;exact h)
     refine⟨u,h1,h2,fun σ' hT hA K'=> ?_⟩
     unfold oy
     rw[e0];simp only;rw[hg];simp only;rw[ht];simp only;rw[hT t Ld,hb];simp only
     rw[lx σ' (hT t Ld)]
     exact h3 σ' hT hA K'
   ·rename_i hb
    obtain⟨u,h1,h2,h3⟩:=nL h
    refine⟨u,h1,h2,fun σ' hT hA K'=> ?_⟩
    unfold oy
    rw[e0];simp only;rw[hg];simp only;rw[ht];simp only;rw[hT t Ld,hb]
    exact h3 σ' K'
   ·cases h
theorem JR{ops:List Oper}: ∀(l:List Oper) (i:Nat) (σ:St) (lg:Log) (K:St→Log→Option α),KM E ops l i σ lg K=some r→
  ∃us:List Out,us.length=l.length∧(∀j u o,us[j]? =some u→l[j]? =some o→Pt E ops o ((us.take j).foldl (fun σ u=>u.app σ) σ) u α)∧
   ∃Xz,K (us.foldl (fun σ u=>u.app σ) σ) Xz=some r∧(∀x∈lg,x∈Xz)∧ ∀j u,us[j]? =some u→(i+j,u.rd,u.ups.map (·.1))∈Xz
 |[],i,σ,lg,K,h=>⟨[],rfl,fun j u o hj=>by simp at hj,lg,h,fun _ h=>h,fun j u hj=>by simp at hj⟩
 |o::l,i,σ,lg,K,h=>by
  unfold KM at h
  obtain⟨u,h1,h2⟩:=NH h
  obtain⟨us,hl,hpt,Xz,hK,Qx,hj⟩:=JR l (i+1) (u.app σ) _ K h1
  refine⟨u::us,by simp[hl],fun j u' o' hu ho=> ?_,Xz,hK,fun x hx=>Qx x (auk _ hx),fun j u' hu=> ?_⟩
  ·cases j with
   |zero=>simp at hu ho;subst hu ho;exact h2
   |succ j=>exact hpt j u' o' (by simpa using hu) (by simpa using ho)
  ·cases j with
   |zero=>simp at hu;subst hu;exact Qx _ auo
   |succ j=>
    have:=hj j u' (by simpa using hu)
    rwa [show i+1+j=i+(j+1)from by omega]at this
theorem Le{k:Nat}{ups:fj}(h:k∈keys ups)(H H':Nat→Option aQ):bS H ups k=bS H' ups k:=by
 induction ups generalizing H H' with
 |nil=>simp[keys]at h
 |cons u r ih=>
  show bS (bn H u.1 u.2) r k=bS (bn H' u.1 u.2) r k
  by_cases hk:k∈keys r
  ·exact ih hk _ _
  ·have hku:k=u.1:=by
    simp only[keys,auI,auy]at h hk
    exact h.resolve_right hk
   rw[jq hk,jq hk,hku,ak,ak]
structure kH(us:List Out)(σ0:St)(S:Nat→Prop)(σ:St):Prop where
 T: ∀t,(∃j u,us[j]? =some u∧S j∧u.dst=some t∧(∀j' u',us[j']? =some u'→S j'→u'.dst=some t→j'≤j)∧σ.T t=u.v)∨((∀j u,us[j]? =some u→S j→u.dst≠some t)∧σ.T t=σ0.T t)
 H: ∀k,(∃j u,us[j]? =some u∧S j∧k∈keys u.ups∧(∀j' u',us[j']? =some u'→S j'→k∈keys u'.ups→j'≤j)∧σ.H k=bS σ0.H u.ups k)∨((∀j u,us[j]? =some u→S j→k∉keys u.ups)∧σ.H k=σ0.H k)
theorem kH.NI{us:List Out}{σ0 σ σ':St}{S S':Nat→Prop}(h:kH us σ0 S σ)(h':kH us σ0 S' σ'){t:Nat}(hs: ∀j u,us[j]? =some u→u.dst=some t→(S j↔S' j)):σ.T t=σ'.T t:=by
 rcases h.T t with⟨j,u,h1,h2,h3,h4,h5⟩|⟨h1,h2⟩<;>rcases h'.T t with⟨j',u',lE,sJ,H9,h4',h5'⟩|⟨lE,sJ⟩
 ·have e1:=h4 j' u' lE ((hs j' u' lE H9).2 sJ) H9
  have e2:=h4' j u h1 ((hs j u h1 h3).1 h2) h3
  have:j=j':=by omega
  subst this
  rw[h1]at lE;cases lE
  rw[h5,h5']
 ·exact absurd h3 (lE j u h1 ((hs j u h1 h3).1 h2))
 ·exact absurd H9 (h1 j' u' lE ((hs j' u' lE H9).2 sJ))
 ·rw[h2,sJ]
theorem kH.NJ{us:List Out}{σ0 σ σ':St}{S S':Nat→Prop}(h:kH us σ0 S σ)(h':kH us σ0 S' σ'){k:Nat}(hs: ∀j u,us[j]? =some u→k∈keys u.ups→(S j↔S' j)):σ.H k=σ'.H k:=by
 rcases h.H k with⟨j,u,h1,h2,h3,h4,h5⟩|⟨h1,h2⟩<;>rcases h'.H k with⟨j',u',lE,sJ,H9,h4',h5'⟩|⟨lE,sJ⟩
 ·have e1:=h4 j' u' lE ((hs j' u' lE H9).2 sJ) H9
  have e2:=h4' j u h1 ((hs j u h1 h3).1 h2) h3
  have:j=j':=by omega
  subst this
  rw[h1]at lE;cases lE
  rw[h5,h5']
 ·exact absurd h3 (lE j u h1 ((hs j u h1 h3).1 h2))
 ·exact absurd H9 (h1 j' u' lE ((hs j' u' lE H9).2 sJ))
 ·rw[h2,sJ]
theorem kH.unique{us:List Out}{σ0 σ σ':St}{S S':Nat→Prop}(h:kH us σ0 S σ)(h':kH us σ0 S' σ')(hs: ∀j u,us[j]? =some u→(S j↔S' j)):σ=σ':=by
 obtain⟨T,H⟩:=σ
 obtain⟨T',H'⟩:=σ'
 congr 1
 ·funext t;exact h.NI h' (fun j u hj _=>hs j u hj)
 ·funext k;exact h.NJ h' (fun j u hj _=>hs j u hj)
theorem kH.step{us:List Out}{σ0 σ:St}{S:Nat→Prop}(h:kH us σ0 S σ){i:Nat}{u:Out}(hi:us[i]? =some u)(hc: ∀j u',us[j]? =some u'→S j→i<j→(∀t,u.dst=some t→u'.dst≠some t)∧ ∀k∈keys u.ups,k∉keys u'.ups):
  kH us σ0 (fun j=>j=i∨S j) (u.app σ):=by
 refine⟨fun t=> ?_,fun k=> ?_⟩
 ·by_cases hd:u.dst=some t
  ·left
   refine⟨i,u,hi,.inl rfl,hd,fun j' u' h1 h2 h3=> ?_,H8 hd σ⟩
   rcases h2 with rfl|h2
   ·exact aul _
   ·exact Nat.le_of_not_lt fun dz=>(hc j' u' h1 h2 dz).1 t hd h3
  ·rw[NG hd]
   rcases h.T t with⟨j,u1,h1,h2,h3,h4,h5⟩|⟨h1,h2⟩
   ·refine .inl ⟨j,u1,h1,.inr h2,h3,fun j' u' lE sJ H9=> ?_,h5⟩
    rcases sJ with rfl|sJ
    ·rw[hi]at lE;cases lE;exact absurd H9 hd
    ·exact h4 j' u' lE sJ H9
   ·refine .inr ⟨fun j u' lE sJ=> ?_,h2⟩
    rcases sJ with rfl|sJ
    ·rw[hi]at lE;cases lE;exact hd
    ·exact h1 j u' lE sJ
 ·rw[aed]
  by_cases hd:k∈keys u.ups
  ·left
   refine⟨i,u,hi,.inl rfl,hd,fun j' u' h1 h2 h3=> ?_,Le hd _ _⟩
   rcases h2 with rfl|h2
   ·exact aul _
   ·exact Nat.le_of_not_lt fun dz=>(hc j' u' h1 h2 dz).2 k hd h3
  ·rw[jq hd]
   rcases h.H k with⟨j,u1,h1,h2,h3,h4,h5⟩|⟨h1,h2⟩
   ·refine .inl ⟨j,u1,h1,.inr h2,h3,fun j' u' lE sJ H9=> ?_,h5⟩
    rcases sJ with rfl|sJ
    ·rw[hi]at lE;cases lE;exact absurd H9 hd
    ·exact h4 j' u' lE sJ H9
   ·refine .inr ⟨fun j u' lE sJ=> ?_,h2⟩
    rcases sJ with rfl|sJ
    ·rw[hi]at lE;cases lE;exact hd
    ·exact h1 j u' lE sJ
theorem kH.start(us:List Out)(σ0:St):kH us σ0 (fun _=>False) σ0:=⟨fun t=> .inr ⟨fun _ _ _ h=>h.elim,rfl⟩,fun k=> .inr ⟨fun _ _ _ h=>h.elim,rfl⟩⟩
theorem kH.congr{us:List Out}{σ0 σ:St}{S S':Nat→Prop}(h:kH us σ0 S σ)(hs: ∀j,S j↔S' j):kH us σ0 S' σ:=by
 have:S=S':=funext fun j=>propext (hs j)
 rw[←this];exact h
theorem kH.text(us:List Out)(σ0:St): ∀i,i≤us.length→kH us σ0 (fun j=>j<i) ((us.take i).foldl (fun σ u=>u.app σ) σ0)
 |0,_=>(kH.start us σ0).congr fun j=>by simp
 |i+1,hi=>by
  have ih:=kH.text us σ0 i (by omega)
  have hu:us[i]? =some us[i]:=auf (by omega)
  have:=ih.step hu (fun j u' _ h2 h3=>by omega)
  rw[List.take_add_one,hu,List.foldl_append]
  exact this.congr fun j=>by constructor<;>intro h<;>omega
end VM
end
section
namespace VM
open Go
variable{P:Program}{E:Env}{o:Oper}{a:Act}{w:World}{M:Nat→Prop}{ν:Nat→Value}{σ:St}{c:Ctx}{α:Type}{r:α}{next:Act→World→Prop}{Q:Exit→Act→World→Prop}
def Zf(S:Nat→Prop)(o:Oper):Prop:= ∀e∈o.after,Region.binds .any e=true→S e.on
theorem yV{β:Type}{l m:List β}{i:Nat}{d:β}(h:i<l.length):(l++m).getD i d=l.getD i d:=by
 simp only[List.getD,avm h]
theorem yW{β:Type}{l:List β}{x d:β}:(l++[x]).getD l.length d=x:=by
 simp[List.getD]
theorem wE{acc:List Nat}{i:Nat}: ∀(es:List Edge) (s:Nat),(es.foldl (fun s e=>cond (Region.binds .any e) (s|||2^e.on|||acc.getD e.on 0) s) s).testBit i=true→
  s.testBit i=true∨ ∃e∈es,Region.binds .any e=true∧(i=e.on∨(acc.getD e.on 0).testBit i=true)
 |[],s,h=> .inl h
 |e::es,s,h=>by
  rw[List.foldl_cons]at h
  rcases wE es _ h with h1|⟨e',h1,h2⟩
  ·cases hb:Region.binds .any e
   ·rw[hb]at h1;exact .inl h1
   ·rw[hb]at h1
    simp only[aua,Nat.testBit_or,avM]at h1
    rcases h1 with(h1|h1)|h1
    ·exact .inl h1
    ·refine .inr ⟨e,auo,hb,.inl ?_⟩
     rw[Nat.testBit_two_pow]at h1
     simpa using (auw h1).symm
    ·exact .inr ⟨e,auo,hb,.inr h1⟩
  ·exact .inr ⟨e',auk _ h1,h2⟩
theorem wF{S:Nat→Prop}: ∀(l:List Oper) (acc:List Nat) (all:List Oper),all.length=acc.length+l.length→(∀j,l[j]? =all[acc.length+j]?)→
  (∀j o,all[j]? =some o→S j→Zf S o)→(∀j i,j<acc.length→S j→(acc.getD j 0).testBit i=true→S i)→
  ∀j o i,all[j]? =some o→(Zf S o∨S j)→((n6 l acc).getD j 0).testBit i=true→(j<acc.length→ ∀i,Zf S o→(acc.getD j 0).testBit i=true→S i)→S i
 |[],acc,all,hl,kF,hS,Rl,j,o,i,hj,ED,hb,NK=>by
  have dz:j<all.length:=(avs.1 hj).1
  have sT:j<acc.length:=by simp at hl;omega
  rcases ED with hp|hp
  ·exact NK sT i hp hb
  ·exact Rl j i sT hp hb
 |p::l,acc,all,hl,kF,hS,Rl,j,o,i,hj,ED,hb,NK=>by
  unfold n6 at hb
  have MO:all[acc.length]? =some p:=by rw[←awn acc.length,←kF 0];rfl
  have Rm: ∀i,Zf S p→(p.after.toList.foldl (fun s e=>cond (Region.binds .any e) (s|||2^e.on|||acc.getD e.on 0) s) 0).testBit i=true→S i:=by
   intro i yx hb
   rcases wE p.after.toList 0 hb with h1|⟨e,he,hbe,h1⟩
   ·simp at h1
   ·have hSe:=yx e (by simpa using he) hbe
    rcases h1 with rfl|h1
    ·exact hSe
    ·by_cases dz:e.on<acc.length
     ·exact Rl e.on i dz hSe h1
     ·rw[List.getD,auQ (by omega)]at h1;simp at h1
  refine wF l (acc++[p.after.toList.foldl (fun s e=>cond (Region.binds .any e) (s|||2^e.on|||acc.getD e.on 0) s) 0]) all (by simp at hl ⊢;omega) (fun j=> ?_) hS (fun j' i' XA hS' dy=> ?_) j o i hj ED hb (fun dz i' so dy=> ?_)
  ·have:=kF (j+1)
   simp only[List.getElem?_cons_succ]at this
   rw[this]
   congr 1
   simp;omega
  ·by_cases dz:j'<acc.length
   ·rw[yV dz]at dy
    exact Rl j' i' dz hS' dy
   ·have hje:j'=acc.length:=by simp at XA;omega
    subst hje
    rw[yW]at dy
    exact Rm i' (hS _ p MO hS') dy
  ·by_cases sT:j<acc.length
   ·rw[yV sT]at dy
    exact NK sT i' so dy
   ·have hje:j=acc.length:=by simp at dz;omega
    subst hje
    rw[MO]at hj;cases hj
    rw[yW]at dy
    exact Rm i' so dy
theorem forced{ops:List Oper}{S:Nat→Prop}(hS: ∀j o,ops[j]? =some o→S j→Zf S o){j i:Nat}(hj:ops[j]? =some o)(ED:Zf S o∨S j)(hb:((n6 ops []).getD j 0).testBit i=true):S i:=
 wF ops [] ops (by simp) (fun j=>by simp) hS (fun j i h=>by simp at h) j o i hj ED hb (fun h=>by simp at h)
theorem iP{l m:List Nat}(h:meets l m=false){x:Nat}(h1:x∈l)(h2:x∈m):False:=by
 have:meets l m=true:=by
  unfold meets
  rw[aw3]
  refine⟨x,h1,?_⟩
  rw[aw3]
  exact⟨x,h2,awV x⟩
 rw[h]at this;cases this
structure Rnd(c:Ctx)(E:Env)(ops:Array Oper)(us:List Out)(σ0:St)(listed:Array Bool)(a:Act)(w:World):Prop where
 size:listed.size=ops.size
 closed: ∀j o,ops.toList[j]? =some o→listed.getD j false=true→Zf (fun i=>listed.getD i false=true) o
 st: ∃σ,kH us σ0 (fun j=>listed.getD j false=true) σ∧Inv c E σ a w
theorem sX{listed:Array Bool}{j:Nat}(h:j<listed.size)(d:Bool):listed.getD j d=listed.getD j false:=by
 simp[Array.getD,h]
theorem CK(hE:oH P E){ops:Array Oper}{us:List Out}{σ0 σn:St}{α:Type}(x0:α)(hl:us.length=ops.toList.length)
  (hpt: ∀(j:Nat) (u:Out) (o:Oper),us[j]? =some u→ops.toList[j]? =some o→Pt E ops.toList o ((us.take j).foldl (fun σ u=>u.app σ) σ0) u α)
  (hn:σn=us.foldl (fun σ u=>u.app σ) σ0)
  (dz: ∀(j:Nat) (o:Oper),ops.toList[j]? =some o→ ∀e∈o.after,Region.binds .any e=true→e.on<j)
  (HC: ∀(j:Nat) (o:Oper) (i:Nat) (p:Oper),ops.toList[j]? =some o→ops.toList[i]? =some p→i<j→((n6 ops.toList []).getD j 0).testBit i=false→
   (∀d,p.dst=some d→o.dst≠some d∧d∉names ops.toList o)∧(∀d,o.dst=some d→d∉names ops.toList p))
  (Qx: ∀(j:Nat) (u:Out) (i:Nat) (v:Out),us[j]? =some u→us[i]? =some v→i<j→((n6 ops.toList []).getD j 0).testBit i=false→
   (∀k∈keys v.ups,k∉u.rd∧k∉keys u.ups)∧(∀k∈v.rd,k∉keys u.ups))
  (hq: ∀a' w',Inv c E σn a' w'→Q .normal a' w'):
  ∀(fuel:Nat) (listed:Array Bool) (a:Act) (w:World),((List.range ops.size).filter fun j=> !(listed.getD j false)).length≤fuel→Rnd c E ops us σ0 listed a w→wpAny P .any ops Q fuel listed a w:=by
 have kF: ∀(listed:Array Bool) (a:Act) (w:World),Rnd c E ops us σ0 listed a w→Region.ready .any ops listed=[]→Q .normal a w:=by
  intro listed a w hR Zg
  obtain⟨hs,DS,σ,Hr,hI⟩:=hR
  have aef: ∀j,j<ops.size→listed.getD j false=true:=by
   intro j
   induction j using Nat.strongRecOn with
   |_ j ih=>
    intro hj
    by_cases hb:listed.getD j false=true
    ·exact hb
    ·exfalso
     have ho:ops[j]? =some ops[j]:=axp hj
     have:j∈Region.ready .any ops listed:=by
      rw[mem_ready]
      refine⟨by rw[sX (by omega)];simpa using hb,_,ho,fun e he hbe=> ?_⟩
      have hej:=dz j ops[j] (by rw[auS];exact ho) e he hbe
      exact ih e.on hej (by omega)
     rw[Zg]at this
     cases this
  have hσ:σ=σn:=by
   rw[hn]
   have ht:=kH.text us σ0 us.length (aul _)
   rw[avF]at ht
   refine Hr.unique ht fun j u hj=> ?_
   have AA:j<us.length:=(avs.1 hj).1
   have hjo:j<ops.size:=by rw[hl,aum]at AA;exact AA
   exact⟨fun _=>AA,fun _=>aef j hjo⟩
  exact hq a w (hσ▸hI)
 intro fuel
 induction fuel with
 |zero=>
  intro listed a w hf hR
  have Rn:Region.ready .any ops listed=[]:=by
   rw[List.eq_nil_iff_forall_not_mem]
   intro j hj
   rw[mem_ready]at hj
   obtain⟨h0,o,ho,_⟩:=hj
   have hjs:j<ops.size:=(auU.1 ho).1
   have AA:j<listed.size:=by rw[hR.size];exact hjs
   rw[sX AA]at h0
   have jQ:j∈(List.range ops.size).filter fun j=> !(listed.getD j false):=by
    rw[axI];exact⟨awl.2 hjs,by rw[h0];rfl⟩
   have:((List.range ops.size).filter fun j=> !(listed.getD j false))=[]:=avl (by omega)
   rw[this]at jQ;cases jQ
  exact⟨Rn,kF listed a w hR Rn⟩
 |succ fuel ih=>
  intro listed a w hf hR
  refine⟨kF listed a w hR,fun i hi=> ?_⟩
  have ji:=hi
  rw[mem_ready]at ji
  obtain⟨h0,o,ho,ED⟩:=ji
  have his:i<ops.size:=(auU.1 ho).1
  have AJ:i<listed.size:=by rw[hR.size];exact his
  rw[sX AJ]at h0
  obtain⟨hs,DS,σ,Hr,hI⟩:=hR
  have DU:ops.toList[i]? =some o:=by rw[auS];exact ho
  have hiu:i<us.length:=by rw[hl,aum];exact his
  have hu:us[i]? =some us[i]:=auf hiu
  have hPt:=hpt i us[i] o hu DU
  have hSi: ¬listed.getD i false=true:=by rw[h0];simp
  have EE: ∀j p,ops.toList[j]? =some p→((j<i∧ ¬listed.getD j false=true)→((n6 ops.toList []).getD i 0).testBit j=false)∧((i<j∧listed.getD j false=true)→((n6 ops.toList []).getD j 0).testBit i=false):=by
   intro j p hj
   refine⟨fun⟨_,h2⟩=> ?_,fun⟨_,h2⟩=> ?_⟩
   ·rw[←av4]
    intro hb
    exact h2 (forced DS DU (.inl ED) hb)
   ·rw[←av4]
    intro hb
    exact hSi (forced DS hj (.inr h2) hb)
  have NL: ∀(j:Nat) (u:Out),us[j]? =some u→ ∃p:Oper,ops.toList[j]? =some p∧u.dst=p.dst:=by
   intro j u hj
   have AA:j<us.length:=(avs.1 hj).1
   have hp:ops.toList[j]? =some ops.toList[j]:=auf (by omega)
   exact⟨_,hp,(hpt j u _ hj hp).1⟩
  have XB:=kH.text us σ0 i (by omega)
  have hT: ∀t∈names ops.toList o,σ.T t=((us.take i).foldl (fun σ u=>u.app σ) σ0).T t:=by
   intro t ht
   refine Hr.NI XB fun j u hj hd=> ?_
   obtain⟨p,hp,Zh⟩:=NL j u hj
   have Zh:p.dst=some t:=by rw[←Zh,hd]
   constructor
   ·intro EF
    refine Nat.lt_of_not_le fun hle=> ?_
    rcases Nat.lt_or_eq_of_le hle with sT|heq
    ·exact(HC j p i o hp DU sT ((EE j p hp).2 ⟨sT,EF⟩)).2 t Zh ht
    ·subst heq;exact hSi EF
   ·intro sY
    by_cases EF:listed.getD j false=true
    ·exact EF
    ·exact absurd ht ((HC i o j p DU hp sY ((EE j p hp).1 ⟨sY,EF⟩)).1 t Zh).2
  have hH:Ag us[i].rd ((us.take i).foldl (fun σ u=>u.app σ) σ0).H σ.H:=by
   intro k hk
   refine Hr.NJ XB fun j u hj hd=> ?_
   obtain⟨p,hp,Zh⟩:=NL j u hj
   constructor
   ·intro EF
    refine Nat.lt_of_not_le fun hle=> ?_
    rcases Nat.lt_or_eq_of_le hle with sT|heq
    ·exact(Qx j u i us[i] hj hu sT ((EE j p hp).2 ⟨sT,EF⟩)).2 k hk hd
    ·subst heq;exact hSi EF
   ·intro sY
    by_cases EF:listed.getD j false=true
    ·exact EF
    ·exact absurd hk ((Qx i us[i] j u hu hj sY ((EE j p hp).1 ⟨sY,EF⟩)).1 k hd).1
  have aeg:=hPt.2 σ hT hH
  have hIs:kH us σ0 (fun j=>j=i∨listed.getD j false=true) (us[i].app σ):=by
   refine Hr.step hu fun j u hj EF np=> ?_
   obtain⟨p,hp,Zh⟩:=NL j u hj
   have xn:=(EE j p hp).2 ⟨np,EF⟩
   obtain⟨h1,h2⟩:=HC j p i o hp DU np xn
   obtain⟨h3,h4⟩:=Qx j u i us[i] hj hu np xn
   refine⟨fun t ht=> ?_,fun k hk=>(h3 k hk).2⟩
   rw[Zh]
   exact(h1 t (by rw[←hPt.1];exact ht)).1
  have tT: ∀j,(listed.setIfInBounds i true).getD j false=true↔(j=i∨listed.getD j false=true):=by
   intro j
   by_cases sY:j=i
   ·subst sY
    constructor
    ·intro _;exact .inl rfl
    ·intro _;simp[AJ]
   ·rw[getD_set_ne false (av0 sY)]
    exact⟨.inr,fun h=>h.resolve_left sY⟩
  classical
  let K':St→List Nat→List Nat→Option α:=fun σ' _ _=>if σ'=us[i].app σ then some x0 else none
  have hK:oy E ops.toList o σ K'=some x0:=by rw[aeg K'];simp[K']
  have:=wD (Q:=Q) (next:=wpAny P .any ops Q fuel (listed.setIfInBounds i true)) hE hI hK (fun σ' a' w' rd wr hσ' sH=>by
   have ajG:σ'=us[i].app σ:=by
    by_cases h:σ'=us[i].app σ
    ·exact h
    ·simp[K',h]at hσ'
   subst ajG
   refine ih _ a' w' ?_ ⟨by simpa using hs,fun j p hp EF e he hb=> ?_,_,hIs.congr (fun j=>(tT j).symm),sH⟩
   ·have hlen:((List.range ops.size).filter fun j=> !((listed.setIfInBounds i true).getD j false)).length<((List.range ops.size).filter fun j=> !(listed.getD j false)).length:=by
     have K2:((List.range ops.size).filter fun j=> !((listed.setIfInBounds i true).getD j false))=((List.range ops.size).filter fun j=> !(listed.getD j false)).filter fun j=> !(Nat.beq j i):=by
      rw[List.filter_filter]
      apply List.filter_congr
      intro j _
      by_cases sY:j=i
      ·subst sY
       have h1:=(tT j).2 (.inl rfl)
       rw[h1];simp
      ·have h1:Nat.beq j i=false:=by rw[←av4,axA];exact sY
       rw[h1,getD_set_ne false (av0 sY)];simp
     rw[K2]
     refine List.length_filter_lt_length_iff_exists.2 ⟨i,?_,by simp⟩
     rw[axI];exact⟨awl.2 his,by rw[h0];rfl⟩
    omega
   ·rcases(tT j).1 EF with rfl|EF
    ·rw[DU]at hp;cases hp
     exact(tT _).2 (.inr (ED e he hb))
    ·exact(tT _).2 (.inr (DS j p hp EF e he hb)))
  unfold wpOp
  rw[ho]
  simp only
  split
  ·rename_i hw;rw[auh hw]at this;exact .inl this
  ·rename_i hw;rw[aui hw]at this;exact this
theorem AY(hE:oH P E){id:Nat}{ops:Array Oper}{draw:Bool}(hI:Inv c E σ a w){K:St→Option α}(h:xO E ops draw σ K=some r)
  (hn: ∀σ' a' w',K σ'=some r→Inv c E σ' a' w'→Q .normal a' w'):(Code.region id ops draw).wp P Q a w:=by
 cases draw
 ·refine wp_region_list (yP hE ops.toList 0 σ [] a w _ hI h fun σ' Xz a' w' h' sH=> ?_)
  exact hn σ' a' w' (bB h').2 sH
 ·unfold xO at h
  obtain⟨us,hl,hpt,lg,hK,_,aeh⟩:=JR _ _ _ _ _ h
  obtain⟨hok,hK⟩:=bB hK
  simp only[auq,awH,aus]at hok
  obtain⟨HC,Qx⟩:=hok
  unfold M5 at HC
  simp only[aus,av5]at HC
  obtain⟨ajH,ajI⟩:=HC
  have hz: ∀j o,ops.toList[j]? =some o→(o,j)∈ops.toList.zipIdx:=fun j o hj=>List.mem_zipIdx_iff_getElem?.2 hj
  refine wp_region_any hE.mixed (CK (Q:=Q) (σ0:=σ) hE r hl hpt rfl (fun j o hj e he hbe=> ?_) (fun j o i p hj hi np hb=> ?_) (fun j u i v hj hi np hb=> ?_) (fun a' w' sH=>hn _ a' w' hK sH) ops.size (Array.replicate ops.size false) a _ ?_ ?_)
  ·have:=ajH (o,j) (hz j o hj) e (by simpa using he)
   rw[hbe]at this
   simpa [axQ]using this
  ·have:=ajI (o,j) (hz j o hj) (p,i) (hz i p hi)
   simp only[hb,awI,avM,avW,Bool.or_eq_false_iff]at this
   have AH: ¬Nat.ble j i=true:=by rw[axR];omega
   have this:=this.resolve_left AH
   refine⟨fun d hd=>⟨fun Ro=> ?_,fun Ro=> ?_⟩,fun d hd Ro=> ?_⟩
   ·exact iP this.1 (x:=d) (by simp[hd]) (by simp[Ro])
   ·exact iP this.1 (x:=d) (by simp[hd]) (by simp[Ro])
   ·exact iP this.2 (x:=d) (by simp[hd]) Ro
  ·unfold Xr at Qx
   simp only[av5]at Qx
   have XA:=aeh j u hj
   have ji:=aeh i v hi
   rw[avk]at XA ji
   have:=Qx _ XA _ ji
   simp only[hb,awI,avM,avW,Bool.or_eq_false_iff]at this
   have AH: ¬Nat.ble j i=true:=by rw[axR];omega
   have this:=this.resolve_left AH
   refine⟨fun k hk=>⟨fun AN=> ?_,fun AN=> ?_⟩,fun k hk AN=> ?_⟩
   ·exact iP this.1 (x:=k) hk (auz _ AN)
   ·exact iP this.1 (x:=k) hk (auD _ AN)
   ·exact iP this.2 (x:=k) hk AN
  ·refine auX (List.length_filter_le _ _) ?_
   rw[awu];exact aul _
  ·have hf: ∀j,(Array.replicate ops.size false).getD j false=false:=by
    intro j
    rw[avg,Array.getElem?_replicate]
    split<;>rfl
   obtain⟨⟨M,ν,hc⟩,hs,hd,sv⟩:=hI
   refine⟨by simp,fun j o _ hS=>(by rw[hf]at hS;cases hS),σ,(kH.start us σ).congr (fun j=>(by rw[hf];simp)),⟨M,ν,?_⟩,hs,hd,sv⟩
   exact hc.tr (Tr.drew hc.mem)
end VM
end
