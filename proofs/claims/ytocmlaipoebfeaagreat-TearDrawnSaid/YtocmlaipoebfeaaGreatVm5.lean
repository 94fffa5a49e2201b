/- A part of the proof of TearDrawn of layer 29: a machine that reads a function of the program as an equation between values. -/
import Derived.Test.YtocmlaipoebfeaaGreatVm4
set_option linter.all false
section
namespace VM
open Go
variable{α:Type}{r:α}
theorem cJ{υ τ:Ty}{y:υ.den}{k:τ.den→Option α}(h:bZ υ τ y k=some r): ∃z,k z=some r∧ ∀k':τ.den→Option α,bZ υ τ y k'=k' z:=by
 obtain⟨e,h⟩:=a7 h
 subst e
 exact⟨y,h,fun k'=>by simp[bZ]⟩
theorem gg{υ τ:Ty}{k:Option α}(h:jk υ τ k=some r):k=some r∧ ∀k':Option α,jk υ τ k'=k':=by
 obtain⟨e,h1⟩:=dG h
 clear h
 subst e
 exact⟨h1,fun k'=>by simp[jk]⟩
theorem cX{b:Bool}{K:Option α}(h:cond b K none=some r):K=some r∧ ∀K':Option α,cond b K' none=K':=by
 obtain⟨rfl,h⟩:=bB h
 exact⟨h,fun _=>rfl⟩
theorem oK{b:Bool}{K:Option α}(h:cond b none K=some r):K=some r∧ ∀K':Option α,cond b none K'=K':=by
 obtain⟨rfl,h⟩:=iP h
 exact⟨h,fun _=>rfl⟩
theorem rD: ∀{τ:Ty} {x:τ.den} {n:Nat} {k:(υ:Ty)→υ.den→Option α},sj τ x n k=some r→ ∃υ y,k υ y=some r∧ ∀k':(υ:Ty)→υ.den→Option α,sj τ x n k'=k' υ y
 | .pair a b,x,0,k,h=>⟨a,x.1,h,fun _=>rfl⟩
 | .pair a b,x,n+1,k,h=>by
  obtain⟨υ,y,h1,h2⟩:=rD (τ:=b) (x:=x.2) (n:=n) (k:=k) h
  exact⟨υ,y,h1,fun k'=>h2 k'⟩
 | .int _,_,_,_,h| .bool,_,_,_,h| .str,_,_,_,h| .slice _,_,_,_,h| .unit,_,_,_,h| .arr _ _,_,_,_,h=>by simp[sj]at h
theorem sV: ∀{τ:Ty} {x:τ.den} {n:Nat} {m:(υ:Ty)→υ.den→(υ.den→Option α)→Option α} {k:τ.den→Option α},
  (∀υ y (k:υ.den→Option α),m υ y k=some r→ ∃z,k z=some r∧ ∀k':υ.den→Option α,m υ y k'=k' z)→jj τ x n m k=some r→ ∃z,k z=some r∧ ∀k':τ.den→Option α,jj τ x n m k'=k' z
 | .pair a b,x,0,m,k,hm,h=>by
  obtain⟨z,h1,h2⟩:=hm a x.1 _ h
  exact⟨(z,x.2),h1,fun k'=>h2 _⟩
 | .pair a b,x,n+1,m,k,hm,h=>by
  obtain⟨z,h1,h2⟩:=sV (τ:=b) (x:=x.2) (n:=n) (m:=m) (k:=fun z=>k (x.1,z)) hm h
  exact⟨(x.1,z),h1,fun k'=>h2 (fun z=>k' (x.1,z))⟩
 | .int _,_,_,_,_,_,h| .bool,_,_,_,_,_,h| .str,_,_,_,_,_,h| .slice _,_,_,_,_,_,h| .unit,_,_,_,_,_,h| .arr _ _,_,_,_,_,_,h=>by simp[jj]at h
theorem eD: ∀{p:List Step} {τ:Ty} {x:τ.den} {k:(υ:Ty)→υ.den→Option α},tH p τ x k=some r→ ∃υ y,k υ y=some r∧ ∀k':(υ:Ty)→υ.den→Option α,tH p τ x k'=k' υ y
 |[],τ,x,k,h=>⟨τ,x,h,fun _=>rfl⟩
 | .gw n::p,τ,x,k,h=>by
  obtain⟨υ,y,h1,h2⟩:=rD (h:sj τ x n _=some r)
  obtain⟨υ',y',h3,h4⟩:=eD h1
  exact⟨υ',y',h3,fun k'=>(h2 _).trans (h4 k')⟩
 | .idx i::p,τ,x,k,h=>by
  cases τ with
  |arr n e=>
   obtain⟨υ',y',h3,h4⟩:=eD (p:=p) (τ:=e) (x:=List.getD x i e.zero) (k:=k) h
   exact⟨υ',y',h3,fun k'=>h4 k'⟩
  |_=>simp[tH,YO]at h
theorem kz{υ:Ty}{y:υ.den}: ∀{p:List Step} {τ:Ty} {x:τ.den} {k:τ.den→Option α},qb υ y p τ x k=some r→ ∃z,k z=some r∧ ∀k':τ.den→Option α,qb υ y p τ x k'=k' z
 |[],τ,x,k,h=>cJ h
 | .gw n::p,τ,x,k,h=>sV (fun _ _ _ h=>kz h) h
 | .idx i::p,τ,x,k,h=>by
  cases τ with
  |arr n e=>
   obtain⟨z,h1,h2⟩:=kz (p:=p) (τ:=e) (x:=List.getD x i e.zero) (k:=fun z=>k (List.set x i z)) h
   exact⟨_,h1,fun k'=>h2 (fun z=>k' (List.set x i z))⟩
  |_=>simp[qb,xV]at h
theorem nY{a:aY}{k:IntKind→Int→Option α}(h:qq a k=some r): ∃i n,k i n=some r∧ ∀k':IntKind→Int→Option α,qq a k'=k' i n:=by
 obtain⟨i,n,rfl,h⟩:=jn h
 exact⟨i,n,h,fun _=>rfl⟩
theorem J5{a:aY}{k:(τ:Ty)→τ.den→Option α}(h:Ei a k=some r): ∃τ x,k τ x=some r∧ ∀k':(τ:Ty)→τ.den→Option α,Ei a k'=k' τ x:=by
 unfold Ei at h
 split at h
 ·exact⟨_,_,h,fun _=>rfl⟩
 ·cases h
theorem pe{a:Option aY}{d:Int}{k:Int→Option α}(h:sO a d k=some r): ∃n,k n=some r∧ ∀k':Int→Option α,sO a d k'=k' n:=by
 cases a with
 |none=>exact⟨d,h,fun _=>rfl⟩
 |some a=>
  obtain⟨i,n,h1,h2⟩:=nY (h:qq a (fun _ x=>k x)=some r)
  exact⟨n,h1,fun k'=>h2 (fun _ x=>k' x)⟩
abbrev Ag(rd:List Nat)(H H':Nat→Option aP):Prop:= ∀i∈rd,H' i=H i
theorem kA{fz:Bool}{a:aY}{H:Nat→Option aP}{τ:Ty}{k:τ.den→List Nat→fl→Option α}(h:iC fz a H τ k=some r):
  ∃y rd ups,k y rd ups=some r∧ ∀H',Ag rd H H'→ ∀k':τ.den→List Nat→fl→Option α,iC fz a H' τ k'=k' y rd ups:=by
 cases a with
 |val υ x=>
  simp only[iC]at h
  obtain⟨z,h1,h2⟩:=cJ h
  refine⟨z,[],[],h1,fun H' _ k'=> ?_⟩
  simp only[iC]
  exact h2 (fun y=>k' y [] [])
 |Cv υ x n=>
  simp only[iC]at h
  obtain⟨z,h1,h2⟩:=cJ h
  refine⟨z,[],[],h1,fun H' _ k'=> ?_⟩
  simp only[iC]
  exact h2 (fun y=>k' y [] [])
 |emp=>
  cases τ with
  |slice e=>exact⟨[],[],[],h,fun _ _ _=>rfl⟩
  |_=>cases h
 |ref id=>
  have h:(match H id with
   |some (.own e l)=>bZ (.slice e) τ l fun y=>k y [id] (cond fz [(id,some (.ku e l))] [])
   |some (.ku e l)=>bZ (.slice e) τ l fun y=>k y [id] []
   |_=>none)=some r:=h
  cases hH:H id with
  |none=>rw[hH]at h;cases h
  |some e=>
   rw[hH]at h
   cases e with
   |own e l=>
    obtain⟨z,h1,h2⟩:=cJ (h:bZ (.slice e) τ l _=some r)
    refine⟨z,_,_,h1,fun H' hA k'=> ?_⟩
    have:H' id=some (.own e l):=by rw[hA id (by simp),hH]
    show(match H' id with
     |some (.own e l)=>bZ (.slice e) τ l fun y=>k' y [id] (cond fz [(id,some (.ku e l))] [])
     |some (.ku e l)=>bZ (.slice e) τ l fun y=>k' y [id] []
     |_=>none)=_
    rw[this];exact h2 _
   |ku e l=>
    obtain⟨z,h1,h2⟩:=cJ (h:bZ (.slice e) τ l _=some r)
    refine⟨z,_,_,h1,fun H' hA k'=> ?_⟩
    have:H' id=some (.ku e l):=by rw[hA id (by simp),hH]
    show(match H' id with
     |some (.own e l)=>bZ (.slice e) τ l fun y=>k' y [id] (cond fz [(id,some (.ku e l))] [])
     |some (.ku e l)=>bZ (.slice e) τ l fun y=>k' y [id] []
     |_=>none)=_
    rw[this];exact h2 _
   |obj _ _=>cases h
   |dP _ _ _ _=>cases h
   |gone=>cases h
 |any|Nm|fD _ _|my _ _|tup _|Eg _ _=>cases h
theorem vA{id:Nat}{p:List Step}{H:Nat→Option aP}{k:Ty→Option α}(h:jl id p H k=some r): ∃υ,k υ=some r∧ ∀H',H' id=H id→ ∀k':Ty→Option α,jl id p H' k'=k' υ:=by
 unfold jl at h
 split at h
 ·rename_i τ x aT
  obtain⟨υ,y,h1,h2⟩:=eD h
  exact⟨υ,h1,fun H' hA k'=>by unfold jl;rw[hA,aT];exact h2 _⟩
 ·rename_i τ x _ _ aT
  obtain⟨υ,y,h1,h2⟩:=eD h
  exact⟨υ,h1,fun H' hA k'=>by unfold jl;rw[hA,aT];exact h2 _⟩
 ·rename_i e l aT
  split at h
  ·obtain⟨υ,y,h1,h2⟩:=eD h
   exact⟨υ,h1,fun H' hA k'=>by unfold jl;rw[hA,aT];exact h2 _⟩
  ·cases h
 ·rename_i e l aT
  split at h
  ·obtain⟨υ,y,h1,h2⟩:=eD h
   exact⟨υ,h1,fun H' hA k'=>by unfold jl;rw[hA,aT];exact h2 _⟩
  ·cases h
 ·cases h
theorem rE{H:Nat→Option aP}{id:Nat}{e:aP}{K:Option α}(h:mz H id e K=some r):K=some r∧ ∀H',H' id=H id→ ∀(e':aP) (K':Option α),mz H' id e' K'=K':=by
 obtain⟨h1,h2⟩:=hZ h
 exact⟨h2,fun H' hA e' K'=>by unfold mz;rw[hA,h1]⟩
theorem Lp{b:BinOp}{k:IntKind}{x y:Int}{K:aY→Option α}(h:o3 b k x y K=some r): ∃v,K v=some r∧ ∀K':aY→Option α,o3 b k x y K'=K' v:=by
 cases b<;>simp only[o3]at h ⊢ <;>first
  |exact⟨_,h,fun _=>rfl⟩
  |(obtain⟨h1,h2⟩:=oK h;exact⟨_,h1,fun _=>h2 _⟩)
  |cases h
theorem Zp{b:BinOp}{k:IntKind}{x y:Int}{K:aY→Option α}(h:Q5 b k x y K=some r): ∃v,K v=some r∧ ∀K':aY→Option α,Q5 b k x y K'=K' v:=by
 cases b<;>simp only[Q5]at h ⊢ <;>first
  |(obtain⟨h1,h2⟩:=oK h;exact⟨_,h1,fun _=>h2 _⟩)
  |cases h
theorem NN{t:Option Ty}{op:BinOp}{τ:Ty}{x:τ.den}{υ:Ty}{y:υ.den}{K:aY→Option α}(h:yC t op τ x υ y K=some r): ∃v,K v=some r∧ ∀K':aY→Option α,yC t op τ x υ y K'=K' v:=by
 unfold yC at h ⊢
 split at h
 ·rename_i k x k' y
  cases hs:Q6 op
  ·rw[hs]at h
   have h:(if k=k' then o3 op k x y K else none)=some r:=h
   by_cases hk:k=k'
   ·rw[if_pos hk]at h
    obtain⟨v,h1,h2⟩:=Lp h
    exact⟨v,h1,fun K'=>by simp only[cond_false,if_pos hk];exact h2 K'⟩
   ·rw[if_neg hk]at h;cases h
  ·rw[hs]at h
   obtain⟨v,h1,h2⟩:=Zp (h:Q5 op k x y K=some r)
   exact⟨v,h1,fun K'=>by simp only[cond_true];exact h2 K'⟩
 ·split at h
  ·cases h
  ·obtain⟨h1,h2⟩:=gg h
   obtain⟨h3,h4⟩:=cX h1
   split at h3
   ·obtain⟨z,h5,h6⟩:=cJ h3
    exact⟨_,h5,fun K'=>by rw[h2,h4];exact h6 _⟩
   ·obtain⟨z,h5,h6⟩:=cJ h3
    exact⟨_,h5,fun K'=>by rw[h2,h4];exact h6 _⟩
   ·cases h3
theorem Rv{u:UnOp}{a:aY}{K:aY→Option α}(h:K2 u a K=some r): ∃v,K v=some r∧ ∀K':aY→Option α,K2 u a K'=K' v:=by
 unfold K2 at h
 split at h<;>first
  |exact⟨_,h,fun _=>rfl⟩
  |cases h
theorem It{up:Bool}: ∀{xs:List aY} {a:aY} {K:aY→Option α},QH up a xs K=some r→ ∃v,K v=some r∧ ∀K':aY→Option α,QH up a xs K'=K' v
 |[],a,K,h=>⟨a,h,fun _=>rfl⟩
 |b::xs,a,K,h=>by
  unfold QH at h
  obtain⟨k,x,h1,h2⟩:=nY h
  obtain⟨k',y,h3,h4⟩:=nY h1
  by_cases hk:k=k'
  ·rw[if_pos hk]at h3
   obtain⟨v,h5,h6⟩:=It h3
   refine⟨v,h5,fun K'=> ?_⟩
   unfold QH
   rw[h2,h4,if_pos hk]
   exact h6 K'
  ·rw[if_neg hk]at h3;cases h3
theorem Rw{τ:Ty}{a:aY}{H:Nat→Option aP}{K:fm α}(h:Ej τ a H K=some r): ∃v rd ups,K v rd ups=some r∧ ∀H',Ag rd H H'→ ∀K':fm α,Ej τ a H' K'=K' v rd ups:=by
 unfold Ej at h
 split at h
 ·exact⟨_,_,_,h,fun _ _ _=>rfl⟩
 ·exact⟨_,_,_,h,fun _ _ _=>rfl⟩
 ·exact⟨_,_,_,h,fun _ _ _=>rfl⟩
 ·exact⟨_,_,_,h,fun _ _ _=>rfl⟩
 ·split at h
  ·rename_i aT
   exact⟨_,_,_,h,fun H' hA K'=>by unfold Ej;simp only;rw[hA _ (by simp),aT]⟩
  ·rename_i aT
   exact⟨_,_,_,h,fun H' hA K'=>by unfold Ej;simp only;rw[hA _ (by simp),aT]⟩
  ·cases h
 ·cases h
theorem Rx{id:Nat}{e:Ty}{a b:aY}{H:Nat→Option aP}{K:fm α}(h:Ek id e a b H K=some r): ∃v rd ups,K v rd ups=some r∧id∈rd∧ ∀H',Ag rd H H'→ ∀K':fm α,Ek id e a b H' K'=K' v rd ups:=by
 unfold Ek at h
 obtain⟨ys,rd,ups,h1,h2⟩:=kA h
 split at h1
 ·obtain⟨h3,h4⟩:=cX h1
  refine⟨_,_,_,h3,by simp,fun H' hA K'=> ?_⟩
  unfold Ek
  rw[h2 H' (fun i hi=>hA i (List.mem_cons_of_mem _ hi))]
  exact h4 _
 ·rename_i j
  split at h1
  ·rename_i e' l hj
   obtain⟨z,h3,h4⟩:=cJ h1
   obtain⟨h5,h6⟩:=cX h3
   refine⟨_,_,_,h5,by simp,fun H' hA K'=> ?_⟩
   unfold Ek
   rw[h2 H' (fun i hi=>hA i (List.mem_cons_of_mem _ (List.mem_cons_of_mem _ hi)))]
   simp only
   rw[hA j (by simp),hj]
   simp only
   rw[h4]
   exact h6 _
  ·cases h1
 ·cases h1
theorem yV{e:Ty}{n:Nat}{H:Nat→Option aP}: ∀{ps:List (Nat×aY)} {l:List e.den} {Bx:List Nat} {yW:fl} {K:List e.den→List Nat→fl→Option α},qu e H n ps l Bx yW K=some r→
  ∃l' rd ups,K l' rd ups=some r∧(∀i∈Bx,i∈rd)∧ ∀H',Ag rd H H'→ ∀K':List e.den→List Nat→fl→Option α,qu e H' n ps l Bx yW K'=K' l' rd ups
 |[],l,Bx,yW,K,h=>⟨l,Bx,yW,h,fun _ h=>h,fun _ _ _=>rfl⟩
 |p::ps,l,Bx,yW,K,h=>by
  unfold qu at h
  obtain⟨h1,h2⟩:=cX h
  obtain⟨y,Y5,Io,h3,h4⟩:=kA h1
  obtain⟨l',rd,ups,h5,h6,h7⟩:=yV h3
  refine⟨l',rd,ups,h5,fun i hi=>h6 i (List.mem_append_right _ hi),fun H' hA K'=> ?_⟩
  unfold qu
  rw[h2,h4 H' (fun i hi=>hA i (h6 i (List.mem_append_left _ hi)))]
  exact h7 H' hA K'
theorem By{τ:Ty}{H:Nat→Option aP}: ∀{ps:List (Nat×aY)} {x:τ.den} {Bx:List Nat} {yW:fl} {K:τ.den→List Nat→fl→Option α},o4 τ H ps x Bx yW K=some r→
  ∃x' rd ups,K x' rd ups=some r∧(∀i∈Bx,i∈rd)∧ ∀H',Ag rd H H'→ ∀K':τ.den→List Nat→fl→Option α,o4 τ H' ps x Bx yW K'=K' x' rd ups
 |[],x,Bx,yW,K,h=>⟨x,Bx,yW,h,fun _ h=>h,fun _ _ _=>rfl⟩
 |p::ps,x,Bx,yW,K,h=>by
  unfold o4 at h
  obtain⟨υ,z,h1,h2⟩:=rD h
  obtain⟨y,Y5,Io,h3,h4⟩:=kA h1
  obtain⟨z',h5,h6⟩:=sV (m:=fun υ' _ k'=>bZ υ υ' y k') (fun υ' y' k hk=>cJ hk) h3
  obtain⟨x',rd,ups,h7,h8,h9⟩:=By h5
  refine⟨x',rd,ups,h7,fun i hi=>h8 i (List.mem_append_right _ hi),fun H' hA K'=> ?_⟩
  unfold o4
  rw[h2,h4 H' (fun i hi=>hA i (h8 i (List.mem_append_left _ hi))),h6]
  exact h9 H' hA K'
theorem NO{H:Nat→Option aP}{v:aY}{a:Ty}{k:a.den→List Nat→fl→Option α}(h:wk v H a k=some r):
  ∃x rd ups,k x rd ups=some r∧ ∀H',Ag rd H H'→ ∀k':a.den→List Nat→fl→Option α,wk v H' a k'=k' x rd ups:=by
 unfold wk at h
 split at h
 ·split at h
  ·obtain⟨z,h1,h2⟩:=cJ h
   refine⟨_,_,_,h1,fun H' _ k'=> ?_⟩
   unfold wk
   simp only
   rw[h2]
  ·cases h
 ·rename_i k0 qm
  obtain⟨y,rd,ups,h1,h2⟩:=kA h
  refine⟨y,rd,ups,h1,fun H' hA k'=> ?_⟩
  unfold wk
  split
  ·exact(qm _ _ rfl HEq.rfl).elim
  ·exact h2 H' hA _
theorem EO{H:Nat→Option aP}: ∀{τ:Ty} {vs:List aY} {k:τ.den→List Nat→fl→Option α},mA H τ vs k=some r→
  ∃x rd ups,k x rd ups=some r∧ ∀H',Ag rd H H'→ ∀k':τ.den→List Nat→fl→Option α,mA H' τ vs k'=k' x rd ups
 | .unit,[],k,h=>⟨(),[],[],h,fun _ _ _=>rfl⟩
 | .pair a b,v::vs,k,h=>by
  unfold mA at h
  obtain⟨y,rd,ups,h1,h2⟩:=NO h
  obtain⟨ys,vq,jW,h3,h4⟩:=EO h1
  refine⟨(y,ys),_,_,h3,fun H' hA k'=> ?_⟩
  unfold mA
  rw[h2 H' (fun i hi=>hA i (List.mem_append_right _ hi)),h4 H' (fun i hi=>hA i (List.mem_append_left _ hi))]
 | .unit,_::_,_,h=>by simp[mA]at h
 | .pair _ _,[],_,h=>by simp[mA]at h
 | .int _,_,_,h| .bool,_,_,h| .str,_,_,h| .slice _,_,_,h| .arr _ _,_,_,h=>by simp[mA]at h
theorem yX: ∀{lK:List aY} {H:Nat→Option aP} {K:List aY→List Nat→fl→Option α},qv H lK K=some r→
  ∃cs rd ups,K cs rd ups=some r∧ ∀H',Ag rd H H'→ ∀K':List aY→List Nat→fl→Option α,qv H' lK K'=K' cs rd ups
 |[],H,K,h=>⟨[],[],[],h,fun _ _ _=>rfl⟩
 |a::lK,H,K,h=>by
  unfold qv at h
  split at h
  ·rename_i id
   split at h
   ·rename_i τ x aT
    obtain⟨cs,rd,ups,h1,h2⟩:=yX h
    refine⟨_,_,_,h1,fun H' hA K'=> ?_⟩
    unfold qv
    simp only
    rw[hA id (by simp),aT]
    simp only
    rw[h2 (bm H' id (some .gone)) (fun i hi=>by
     by_cases bq:i=id
     ·subst bq;rw[ak,ak]
     ·rw[an _ _ bq,an _ _ bq];exact hA i (List.mem_cons_of_mem _ hi))]
   ·cases h
  ·rename_i qm
   obtain⟨cs,rd,ups,h1,h2⟩:=yX h
   refine⟨_,_,_,h1,fun H' hA K'=> ?_⟩
   unfold qv
   split
   ·exact absurd rfl (qm _)
   ·rw[h2 H' hA]
end VM
end
section
namespace VM
open Go
variable{α:Type}{r:α}
theorem EP{m:AM}{a:aY}{H:Nat→Option aP}{k:m.den→(Nat→Option aP)→List Nat→fl→fl→List (Nat×Ty)→Option α}(h:kD m a H k=some r):
  ∃y rd uo uf io,∃g:(Nat→Option aP)→(Nat→Option aP),k y (g H) rd uo uf io=some r∧(∀H' i,H' i=H i→g H' i=g H i)∧
   ∀H',Ag rd H H'→ ∀k':m.den→(Nat→Option aP)→List Nat→fl→fl→List (Nat×Ty)→Option α,kD m a H' k'=k' y (g H') rd uo uf io:=by
 have Lq: ∀(d:Nat) (v:Option aP) (H':Nat→Option aP) (i:Nat),H' i=H i→bm H' d v i=bm H d v i:=by
  intro d v H' i hi
  by_cases aT:i=d
  ·subst aT;rw[ak,ak]
  ·rw[an _ _ aT,an _ _ aT,hi]
 unfold kD at h
 split at h
 ·rename_i τ k
  obtain⟨y,rd,ups,h1,h2⟩:=kA h
  cases ups with
  |nil=>
   refine⟨y,rd,[],[],[],fun H=>H,h1,fun _ _ h=>h,fun H' hA k'=> ?_⟩
   unfold kD;simp only;rw[h2 H' hA]
  |cons u rest=>
   refine⟨y,rd,[],u::rest,[],fun H=>bm H u.1 u.2,h1,fun H' i hi=>Lq _ _ H' i hi,fun H' hA k'=> ?_⟩
   unfold kD;simp only;rw[h2 H' hA]
 ·rename_i e k
  split at h
  ·exact⟨[],[],[],[],[],fun H=>H,h,fun _ _ h=>h,fun _ _ _=>rfl⟩
  ·rename_i id
   split at h
   ·rename_i e' l aT
    obtain⟨z,h1,h2⟩:=cJ h
    refine⟨z,[id],_,_,_,fun H=>bm H id (some .gone),h1,fun H' i hi=>Lq _ _ H' i hi,fun H' hA k'=> ?_⟩
    unfold kD;simp only;rw[hA id (by simp),aT];simp only;rw[h2]
   ·cases h
  ·cases h
 ·rename_i τ k
  split at h
  ·rename_i id
   split at h
   ·rename_i υ x aT
    obtain⟨z,h1,h2⟩:=cJ h
    refine⟨z,[id],_,_,_,fun H=>bm H id (some .gone),h1,fun H' i hi=>Lq _ _ H' i hi,fun H' hA k'=> ?_⟩
    unfold kD;simp only;rw[hA id (by simp),aT];simp only;rw[h2]
   ·cases h
  ·cases h
 ·rename_i f τ k
  split at h
  ·rename_i f' cs
   obtain⟨h1,h2⟩:=cX h
   obtain⟨x,rd,ups,h3,h4⟩:=EO h1
   cases ups with
   |nil=>
    refine⟨x,rd,[],[],[],fun H=>H,h3,fun _ _ h=>h,fun H' hA k'=> ?_⟩
    unfold kD;simp only;rw[h2,h4 H' hA]
   |cons _ _=>cases h3
  ·cases h
 ·cases h
 ·rename_i τ k
  split at h
  ·obtain⟨z,h1,h2⟩:=cJ h
   refine⟨z,[],[],[],[],fun H=>H,h1,fun _ _ h=>h,fun H' hA k'=> ?_⟩
   unfold kD;simp only;rw[h2]
  ·cases h
theorem ES: ∀{ms:List AM} {lK:List aY} {H:Nat→Option aP} {Bx:List Nat} {uo0 uf0:fl} {io0:List (Nat×Ty)} {K:HP ms→List Nat→fl→fl→List (Nat×Ty)→Option α},oA ms lK H Bx uo0 uf0 io0 K=some r→
  ∃x rd uo uf io,K x rd uo uf io=some r∧(∀i∈Bx,i∈rd)∧ ∀H',Ag rd H H'→ ∀K':HP ms→List Nat→fl→fl→List (Nat×Ty)→Option α,oA ms lK H' Bx uo0 uf0 io0 K'=K' x rd uo uf io
 |[],[],H,Bx,uo0,uf0,io0,K,h=>⟨(),_,_,_,_,h,fun _ h=>h,fun _ _ _=>rfl⟩
 |[m],[a],H,Bx,uo0,uf0,io0,K,h=>by
  obtain⟨y,rd,uo,uf,io,g,h1,h2,h3⟩:=EP (h:kD m a H _=some r)
  exact⟨y,_,_,_,_,h1,fun i hi=>List.mem_append_right _ hi,fun H' hA K'=>h3 H' (fun i hi=>hA i (List.mem_append_left _ hi)) _⟩
 |m::n::ms,a::lK,H,Bx,uo0,uf0,io0,K,h=>by
  obtain⟨y,rd,uo,uf,io,g,h1,h2,h3⟩:=EP (h:kD m a H _=some r)
  obtain⟨ys,vq,DZ,D0,Ax,h4,h5,h6⟩:=ES (ms:=n::ms) h1
  refine⟨(y,ys),vq,DZ,D0,Ax,h4,fun i hi=>h5 i (List.mem_append_right _ hi),fun H' hA K'=> ?_⟩
  refine(h3 H' (fun i hi=>hA i (h5 i (List.mem_append_left _ hi))) _).trans ?_
  exact h6 (g H') (fun i hi=>h2 H' i (hA i hi)) _
 |[],_::_,_,_,_,_,_,_,h=>by simp[oA]at h
 |[_],[],_,_,_,_,_,_,h=>by simp[oA]at h
 |[_],_::_::_,_,_,_,_,_,_,h=>by simp[oA]at h
 |_::_::_,[],_,_,_,_,_,_,h=>by simp[oA]at h
theorem NP{id i:Nat}: ∀{n:Nat},i∈Em id n↔id≤i∧i<id+n
 |0=>by simp[Em]
 |n+1=>by simp only[Em,List.mem_cons,NP];omega
theorem sG{H H':Nat→Option aP}{id:Nat}: ∀{n:Nat},(∀i∈Em id n,H' i=H i)→o5 H' id n=o5 H id n
 |0,_=>rfl
 |n+1,h=>by
  unfold o5
  rw[h (id+n) (by simp[Em]),sG fun i hi=>h i (by simp[Em,hi])]
theorem NQ{E:Env}{f id:Nat}{lK:List aY}{H:Nat→Option aP}{K:fm α}(h:wo E f lK id H K=some r): ∃v rd ups,K v rd ups=some r∧ ∀H',Ag rd H H'→ ∀K':fm α,wo E f lK id H' K'=K' v rd ups:=by
 unfold wo at h
 split at h
 ·cases h
 ·rename_i S hS
  obtain⟨x,rd,uo,uf,io,h1,_,h2⟩:=ES h
  obtain⟨y,hy,h3⟩:=Option.bind_eq_some_iff.1 h1
  obtain⟨h4,h5⟩:=bB h3
  refine⟨_,_,_,h5,fun H' hA K'=> ?_⟩
  unfold wo
  rw[hS]
  simp only
  rw[h2 H' (fun i hi=>hA i (List.mem_append_right _ (List.mem_append_right _ hi))),hy]
  simp only[Option.bind_some]
  rw[sG (fun i hi=>hA i (List.mem_append_left _ hi)),h4]
  rfl
theorem Lr{t:Ty}{z:Bool}{a:aY}{lo hi mx:Option aY}{H:Nat→Option aP}{K:fm α}(h:mB t z a lo hi mx H K=some r): ∃v rd ups,K v rd ups=some r∧ ∀H',Ag rd H H'→ ∀K':fm α,mB t z a lo hi mx H' K'=K' v rd ups:=by
 unfold mB at h
 split at h
 ·obtain⟨h1,e1⟩:=cX h
  obtain⟨l,h2,e2⟩:=pe h1
  obtain⟨m,h3,e3⟩:=pe h2
  obtain⟨h4,e4⟩:=cX h3
  exact⟨_,_,_,h4,fun H' _ K'=>by unfold mB;simp only;rw[e1,e2,e3,e4]⟩
 ·cases z
  ·obtain⟨h1,e1⟩:=cX (h:cond mx.isNone _ none=some r)
   obtain⟨l,h2,e2⟩:=pe h1
   obtain⟨m,h3,e3⟩:=pe h2
   obtain⟨h4,e4⟩:=cX h3
   exact⟨_,_,_,h4,fun H' _ K'=>by unfold mB;simp only[cond_false];rw[e1,e2,e3,e4]⟩
  ·exact⟨_,_,_,h,fun H' _ K'=>by unfold mB;rfl⟩
 ·rename_i e g9
  obtain⟨y,rd,ups,h1,e1⟩:=kA h
  cases z
  ·obtain⟨h2,e2⟩:=cX (h1:cond (mx.isNone||hi.isSome) _ none=some r)
   obtain⟨l,h3,e3⟩:=pe h2
   obtain⟨m,h4,e4⟩:=pe h3
   obtain⟨n,h5,e5⟩:=pe h4
   obtain⟨h6,e6⟩:=cX h5
   refine⟨_,_,_,h6,fun H' hA K'=> ?_⟩
   unfold mB
   simp only
   rw[e1 H' hA]
   simp only[cond_false]
   rw[e2,e3,e4,e5,e6]
  ·refine⟨_,_,_,(h1:K .emp rd []=some r),fun H' hA K'=> ?_⟩
   unfold mB
   simp only
   rw[e1 H' hA]
   rfl
 ·cases h
theorem AY{τ:Ty}{a i:aY}{H:Nat→Option aP}{K:fm α}(h:ea τ a i H K=some r): ∃v rd ups,K v rd ups=some r∧ ∀H',Ag rd H H'→ ∀K':fm α,ea τ a i H' K'=K' v rd ups:=by
 unfold ea at h
 obtain⟨k,n,h,e0⟩:=nY h
 split at h
 ·split at h
  ·obtain⟨z,h1,e1⟩:=cJ h
   obtain⟨h2,e2⟩:=cX h1
   exact⟨_,_,_,h2,fun H' _ K'=>by unfold ea;rw[e0];simp only;rw[e1,e2]⟩
  ·split at h
   ·rename_i aT
    obtain⟨h1,e1⟩:=gg h
    obtain⟨h2,e2⟩:=cX h1
    exact⟨_,_,_,h2,fun H' hA K'=>by unfold ea;rw[e0];simp only;rw[hA _ (by simp),aT];simp only;rw[e1,e2]⟩
   ·rename_i aT
    obtain⟨h1,e1⟩:=gg h
    obtain⟨h2,e2⟩:=cX h1
    exact⟨_,_,_,h2,fun H' hA K'=>by unfold ea;rw[e0];simp only;rw[hA _ (by simp),aT];simp only;rw[e1,e2]⟩
   ·cases h
  ·cases h
 ·split at h
  ·obtain⟨υ,h1,e1⟩:=vA h
   obtain⟨h2,e2⟩:=gg h1
   obtain⟨h3,e3⟩:=cX h2
   exact⟨_,_,_,h3,fun H' hA K'=>by unfold ea;rw[e0];simp only;rw[e1 H' (hA _ (by simp)),e2,e3]⟩
  ·obtain⟨z,h1,e1⟩:=cJ h
   obtain⟨h2,e2⟩:=cX h1
   exact⟨_,_,_,h2,fun H' _ K'=>by unfold ea;rw[e0];simp only;rw[e1,e2]⟩
  ·cases h
 ·cases h
theorem Ls{τ:Ty}{a i:aY}{K:aY→Option α}(h:qw τ a i K=some r): ∃v,K v=some r∧ ∀K':aY→Option α,qw τ a i K'=K' v:=by
 unfold qw at h
 obtain⟨k,n,h,e0⟩:=nY h
 split at h
 ·obtain⟨z,h1,e1⟩:=cJ h
  obtain⟨h2,e2⟩:=cX h1
  exact⟨_,h2,fun K'=>by unfold qw;rw[e0];simp only;rw[e1,e2]⟩
 ·obtain⟨h2,e2⟩:=cX h
  exact⟨_,h2,fun K'=>by unfold qw;rw[e0];simp only;rw[e2]⟩
 ·cases h
theorem NR{a:aY}{H:Nat→Option aP}{K:(υ:Ty)→υ.den→List Nat→Option α}(h:gU a H K=some r): ∃υ y rd,K υ y rd=some r∧ ∀H',Ag rd H H'→ ∀K':(υ:Ty)→υ.den→List Nat→Option α,gU a H' K'=K' υ y rd:=by
 unfold gU at h
 split at h
 ·exact⟨_,_,_,h,fun _ _ _=>rfl⟩
 ·split at h
  ·rename_i aT
   obtain⟨υ,y,h1,e1⟩:=eD h
   exact⟨_,_,_,h1,fun H' hA K'=>by unfold gU;simp only;rw[hA _ (by simp),aT];simp only;rw[e1]⟩
  ·rename_i aT
   split at h
   ·obtain⟨υ,y,h1,e1⟩:=eD h
    exact⟨_,_,_,h1,fun H' hA K'=>by unfold gU;simp only;rw[hA _ (by simp),aT];simp only;rw[e1]⟩
   ·cases h
  ·rename_i aT
   split at h
   ·obtain⟨υ,y,h1,e1⟩:=eD h
    exact⟨_,_,_,h1,fun H' hA K'=>by unfold gU;simp only;rw[hA _ (by simp),aT];simp only;rw[e1]⟩
   ·cases h
  ·cases h
 ·cases h
theorem Lt{τ:Ty}{a v:aY}{H:Nat→Option aP}{K:fm α}(h:iE τ a v H K=some r): ∃u rd ups,K u rd ups=some r∧ ∀H',Ag rd H H'→ ∀K':fm α,iE τ a v H' K'=K' u rd ups:=by
 unfold iE at h
 split at h
 ·obtain⟨y,rd,ups,h1,e1⟩:=kA h
  split at h1
  ·rename_i aT
   obtain⟨z,h2,e2⟩:=kz h1
   exact⟨_,_,_,h2,fun H' hA K'=>by
    unfold iE;simp only
    rw[e1 H' (fun i hi=>hA i (List.mem_cons_of_mem _ hi))]
    rw[hA _ (by simp),aT];simp only;rw[e2]⟩
  ·rename_i aT
   split at h1
   ·obtain⟨h2,e2⟩:=oK h1
    obtain⟨z,h3,e3⟩:=kz h2
    exact⟨_,_,_,h3,fun H' hA K'=>by
     unfold iE;simp only
     rw[e1 H' (fun i hi=>hA i (List.mem_cons_of_mem _ hi))]
     rw[hA _ (by simp),aT];simp only;rw[e2,e3]⟩
   ·cases h1
  ·cases h1
 ·cases h
theorem Ry{j:Nat}{q:List Step}{τ:Ty}{x:τ.den}{H:Nat→Option aP}{k:τ.den→fl→Option α}(h:xh j q τ x H k=some r): ∃z ups,k z ups=some r∧ ∀H',H' j=H j→ ∀k':τ.den→fl→Option α,xh j q τ x H' k'=k' z ups:=by
 unfold xh at h
 split at h
 ·rename_i hj
  obtain⟨z,h1,e1⟩:=kz h
  exact⟨_,_,h1,fun H' hA k'=>by unfold xh;rw[hA,hj];simp only;rw[e1]⟩
 ·rename_i hj
  obtain⟨z,h1,e1⟩:=kz h
  exact⟨_,_,h1,fun H' hA k'=>by unfold xh;rw[hA,hj];simp only;rw[e1]⟩
 ·cases h
abbrev Pts(F:(Nat→Option aP)→fm α→Option α)(H:Nat→Option aP)(K:fm α)(r:α):Prop:=
 ∃v rd ups,K v rd ups=some r∧ ∀H',Ag rd H H'→ ∀K':fm α,F H' K'=K' v rd ups
theorem NS{τ:Ty}{a:aY}{H:Nat→Option aP}{K:fm α}(h:(gU a H fun υ y rd=>bZ υ τ y fun z=>K (.val τ z) rd [])=some r):
  Pts (fun H K=>gU a H fun υ y rd=>bZ υ τ y fun z=>K (.val τ z) rd []) H K r:=by
 obtain⟨υ,y,rd,h1,e1⟩:=NR h
 obtain⟨z,h2,e2⟩:=cJ h1
 exact⟨_,_,_,h2,fun H' hA K'=>by simp only;rw[e1 H' hA,e2]⟩
theorem aep{id:Nat}{p:List Step}{H:Nat→Option aP}{K:(υ:Ty)→υ.den→List Nat→Option α}(h:gU (.fD id p) H K=some r): ∃υ y,K υ y [id]=some r:=by
 unfold gU at h
 simp only at h
 split at h
 ·obtain⟨υ,y,h1,_⟩:=eD h;exact⟨υ,y,h1⟩
 ·split at h
  ·obtain⟨υ,y,h1,_⟩:=eD h;exact⟨υ,y,h1⟩
  ·cases h
 ·split at h
  ·obtain⟨υ,y,h1,_⟩:=eD h;exact⟨υ,y,h1⟩
  ·cases h
 ·cases h
theorem NT{τ:Ty}{id:Nat}{p:List Step}{H:Nat→Option aP}{K:fm α}(h:(gU (.fD id p) H fun υ y rd=>bZ υ τ y fun z=>K (.val τ z) rd [])=some r):
  ∃z,K (.val τ z) [id] []=some r∧ ∀H',H' id=H id→ ∀K':fm α,(gU (.fD id p) H' fun υ y rd=>bZ υ τ y fun z=>K' (.val τ z) rd [])=K' (.val τ z) [id] []:=by
 unfold gU at h
 simp only at h
 split at h
 ·rename_i aT
  obtain⟨υ,y,h1,e1⟩:=eD h
  obtain⟨z,h2,e2⟩:=cJ h1
  exact⟨_,h2,fun H' hA K'=>by unfold gU;simp only;rw[hA,aT];simp only;rw[e1,e2]⟩
 ·rename_i aT
  split at h
  ·obtain⟨υ,y,h1,e1⟩:=eD h
   obtain⟨z,h2,e2⟩:=cJ h1
   exact⟨_,h2,fun H' hA K'=>by unfold gU;simp only;rw[hA,aT];simp only;rw[e1,e2]⟩
  ·cases h
 ·rename_i aT
  split at h
  ·obtain⟨υ,y,h1,e1⟩:=eD h
   obtain⟨z,h2,e2⟩:=cJ h1
   exact⟨_,h2,fun H' hA K'=>by unfold gU;simp only;rw[hA,aT];simp only;rw[e1,e2]⟩
  ·cases h
 ·cases h
theorem NU{τ:Ty}{a:aY}{H:Nat→Option aP}{K:fm α}(h:pW τ a H K=some r):Pts (pW τ a) H K r:=by
 unfold pW at h
 simp only at h
 split at h
 ·rename_i id p
  split at h
  ·rename_i υ x q j aT
   cases hp:Ef p q
   ·cases AH:si p q
    ·rw[hp,AH]at h
     simp only[cond_false]at h
     obtain⟨υ',y,h1,e1⟩:=eD h
     obtain⟨z,h2,e2⟩:=cJ h1
     exact⟨_,_,_,h2,fun H' hA K'=>by
      unfold pW;simp only;rw[hA id (by simp),aT];simp only
      rw[hp,AH];simp only[cond_false];rw[e1,e2]⟩
    ·rw[hp,AH]at h
     simp only[cond_false,cond_true]at h
     obtain⟨z,ups,h1,e1⟩:=Ry h
     obtain⟨υ',y,h2,e2⟩:=eD h1
     obtain⟨z',h3,e3⟩:=cJ h2
     exact⟨_,_,_,h3,fun H' hA K'=>by
      unfold pW;simp only;rw[hA id (by simp),aT];simp only
      rw[hp,AH];simp only[cond_false,cond_true];rw[e1 H' (hA j (by simp)),e2,e3]⟩
   ·rw[hp]at h
    simp only[cond_true]at h
    obtain⟨h1,e1⟩:=cX h
    exact⟨_,_,_,h1,fun H' hA K'=>by
     unfold pW;simp only;rw[hA id (by simp),aT];simp only
     rw[hp];simp only[cond_true];rw[e1]⟩
  ·rename_i qm
   obtain⟨z,h1,e1⟩:=NT h
   refine⟨_,_,_,h1,fun H' hA K'=> ?_⟩
   unfold pW;simp only;rw[hA id (by simp)]
   split
   ·rename_i aT;exact absurd aT (qm _ _ _ _)
   ·exact e1 H' (hA id (by simp)) K'
 ·rename_i qm
  obtain⟨v,rd,ups,h1,e1⟩:=NS h
  refine⟨v,rd,ups,h1,fun H' hA K'=> ?_⟩
  have:pW τ a H' K'=gU a H' fun υ y rd=>bZ υ τ y fun z=>K' (.val τ z) rd []:=by
   unfold pW
   cases a<;>first|rfl|exact absurd rfl (qm _ _)
  rw[this]
  exact e1 H' hA K'
theorem ET{τ:Ty}{id k:Nat}{e:Ty}{q:List Step}{υ:Ty}{x:υ.den}{H:Nat→Option aP}{K:fm α}(h:wq τ id k e q υ x H K=some r):
  ∃v ups,K v [id,k] ups=some r∧ ∀H',H' k=H k→ ∀K':fm α,wq τ id k e q υ x H' K'=K' v [id,k] ups:=by
 unfold wq at h
 split at h
 ·rename_i aT
  obtain⟨h1,e1⟩:=gg h
  obtain⟨h2,e2⟩:=gg h1
  obtain⟨z,h3,e3⟩:=kz h2
  exact⟨_,_,h3,fun H' hA K'=>by unfold wq;rw[hA,aT];simp only;rw[e1,e2,e3]⟩
 ·cases h
theorem vB{τ:Ty}{id:Nat}{p:List Step}{v:aY}{H:Nat→Option aP}{K:fm α}(h:iE τ (.fD id p) v H K=some r):
  ∃u rd ups,id∈rd∧K u rd ups=some r∧ ∀H',Ag rd H H'→ ∀K':fm α,iE τ (.fD id p) v H' K'=K' u rd ups:=by
 unfold iE at h
 simp only at h
 obtain⟨y,rd,ups,h1,e1⟩:=kA h
 split at h1
 ·rename_i aT
  obtain⟨z,h2,e2⟩:=kz h1
  exact⟨_,_,_,by simp,h2,fun H' hA K'=>by
   unfold iE;simp only
   rw[e1 H' (fun i hi=>hA i (List.mem_cons_of_mem _ hi))]
   rw[hA _ (by simp),aT];simp only;rw[e2]⟩
 ·rename_i aT
  split at h1
  ·obtain⟨h2,e2⟩:=oK h1
   obtain⟨z,h3,e3⟩:=kz h2
   exact⟨_,_,_,by simp,h3,fun H' hA K'=>by
    unfold iE;simp only
    rw[e1 H' (fun i hi=>hA i (List.mem_cons_of_mem _ hi))]
    rw[hA _ (by simp),aT];simp only;rw[e2,e3]⟩
  ·cases h1
 ·cases h1
theorem vC{E:Env}{τ:Ty}{a v:aY}{H:Nat→Option aP}{K:fm α}(h:gb E τ a v H K=some r):
  ∃u rd ups,K u rd ups=some r∧ ∀H',Ag rd H H'→ ∀K':fm α,gb E τ a v H' K'=K' u rd ups:=by
 have h0:=h
 unfold gb at h
 simp only at h
 split at h
 ·rename_i id p
  split at h
  ·rename_i υ x aT
   split at h
   ·rename_i q e k oG
    cases hp:Ef p q
    ·rw[hp]at h
     simp only[cond_false]at h
     obtain⟨u,rd,ups,hi,h1,e1⟩:=vB h
     refine⟨u,rd,ups,h1,fun H' hA K'=> ?_⟩
     unfold gb;simp only;rw[hA id hi,aT];simp only;rw[oG];simp only;rw[hp];simp only[cond_false]
     exact e1 H' hA K'
    ·rw[hp]at h
     simp only[cond_true]at h
     obtain⟨u,ups,h1,e1⟩:=ET h
     refine⟨u,_,ups,h1,fun H' hA K'=> ?_⟩
     unfold gb;simp only;rw[hA id (by simp),aT];simp only;rw[oG];simp only;rw[hp];simp only[cond_true]
     exact e1 H' (hA k (by simp)) K'
   ·rename_i qm
    obtain⟨u,rd,ups,hi,h1,e1⟩:=vB h
    refine⟨u,rd,ups,h1,fun H' hA K'=> ?_⟩
    unfold gb;simp only;rw[hA id hi,aT];simp only
    exact e1 H' hA K'
  ·rename_i υ x q j aT
   have tQ:(iC true v H τ fun y rd ups=>qb τ y p υ x fun z=>K .any (id::rd) (ups++[(id,some (cond (si p q) (.obj υ z) (.dP υ z q j)))]))=some r→
     ∃u rd ups,id∈rd∧K u rd ups=some r∧ ∀H',Ag rd H H'→ ∀K':fm α,(iC true v H' τ fun y rd ups=>qb τ y p υ x fun z=>K' .any (id::rd) (ups++[(id,some (cond (si p q) (.obj υ z) (.dP υ z q j)))]))=K' u rd ups:=by
    intro h
    obtain⟨y,rd,ups,h1,e1⟩:=kA h
    obtain⟨z,h2,e2⟩:=kz h1
    exact⟨_,_,_,by simp,h2,fun H' hA K'=>by rw[e1 H' (fun i hi=>hA i (List.mem_cons_of_mem _ hi)),e2]⟩
   split at h
   ·rename_i q' e k oG
    cases hp:(Ef p q&&Ef q q')
    ·rw[hp]at h
     simp only[cond_false]at h
     obtain⟨u,rd,ups,hi,h1,e1⟩:=tQ h
     refine⟨u,rd,ups,h1,fun H' hA K'=> ?_⟩
     unfold gb;simp only;rw[hA id hi,aT];simp only;rw[oG];simp only;rw[hp];simp only[cond_false]
     exact e1 H' hA K'
    ·rw[hp]at h
     simp only[cond_true]at h
     obtain⟨u,ups,h1,e1⟩:=ET h
     refine⟨u,_,ups,h1,fun H' hA K'=> ?_⟩
     unfold gb;simp only;rw[hA id (by simp),aT];simp only;rw[oG];simp only;rw[hp];simp only[cond_true]
     exact e1 H' (hA k (by simp)) K'
   ·rename_i qm
    obtain⟨u,rd,ups,hi,h1,e1⟩:=tQ h
    refine⟨u,rd,ups,h1,fun H' hA K'=> ?_⟩
    unfold gb;simp only;rw[hA id hi,aT];simp only
    exact e1 H' hA K'
  ·rename_i ajN ajO
   obtain⟨u,rd,ups,hi,h1,e1⟩:=vB h
   refine⟨u,rd,ups,h1,fun H' hA K'=> ?_⟩
   unfold gb;simp only;rw[hA id hi]
   split
   ·rename_i aT;exact absurd aT (ajN _ _)
   ·rename_i aT;exact absurd aT (ajO _ _ _ _)
   ·exact e1 H' hA K'
 ·rename_i qm
  obtain⟨u,rd,ups,h1,e1⟩:=Lt h
  refine⟨u,rd,ups,h1,fun H' hA K'=> ?_⟩
  have:gb E τ a v H' K'=iE τ a v H' K':=by
   unfold gb
   cases a<;>first|rfl|exact absurd rfl (qm _ _)
  rw[this]
  exact e1 H' hA K'
theorem Lu{E:Env}{τ:Ty}{a v:aY}{H:Nat→Option aP}{K:fm α}(h:oc E τ a v H K=some r):
  ∃u rd ups,K u rd ups=some r∧ ∀H',Ag rd H H'→ ∀K':fm α,oc E τ a v H' K'=K' u rd ups:=by
 unfold oc at h
 split at h
 ·rename_i id υ y n
  split at h
  ·rename_i m e oG
   cases yJ:Nat.beq m n
   ·rw[yJ]at h
    simp only[cond_false]at h
    obtain⟨u,rd,ups,h1,e1⟩:=vC h
    exact⟨u,rd,ups,h1,fun H' hA K'=>by unfold oc;simp only;rw[oG];simp only;rw[yJ];simp only[cond_false];exact e1 H' hA K'⟩
   ·rw[yJ]at h
    simp only[cond_true]at h
    obtain⟨h1,e1⟩:=gg h
    obtain⟨υ',h2,e2⟩:=vA h1
    obtain⟨h3,e3⟩:=gg h2
    obtain⟨h4,e4⟩:=rE h3
    exact⟨_,_,_,h4,fun H' hA K'=>by unfold oc;simp only;rw[oG];simp only;rw[yJ];simp only[cond_true];rw[e1,e2 H' (hA _ (by simp)),e3,e4 H' (hA _ (by simp))]⟩
  ·rename_i qm
   obtain⟨u,rd,ups,h1,e1⟩:=vC h
   refine⟨u,rd,ups,h1,fun H' hA K'=> ?_⟩
   unfold oc;simp only
   exact e1 H' hA K'
 ·rename_i qm
  obtain⟨u,rd,ups,h1,e1⟩:=vC h
  refine⟨u,rd,ups,h1,fun H' hA K'=> ?_⟩
  unfold oc
  split
  ·exact absurd rfl (qm _ _ _ _ rfl)
  ·exact e1 H' hA K'
theorem J6{H:Nat→Option aP}{id:Nat}{τ:Ty}{x:τ.den}{q:List Step}{e:Ty}{K:fm α}(h:xi H id τ x q e K=some r):Pts (fun H K=>xi H id τ x q e K) H K r:=by
 obtain⟨h1,h2,h3⟩:=yI h
 exact⟨_,_,_,h3,fun H' hA K'=>by unfold xi mz;simp only;rw[hA id (by simp),h1,hA (id+1) (by simp),h2]⟩
theorem Zq{E:Env}{o:Oper}{ρ:Operand→aY}{H:Nat→Option aP}{K:fm α}(h:ov E o ρ H K=some r):
  ∃v rd ups,K v rd ups=some r∧ ∀ρ' H',(∀x∈o.op.operands,ρ' x=ρ x)→Ag rd H H'→ ∀K':fm α,ov E o ρ' H' K'=K' v rd ups:=by
 obtain⟨dst,op,type,pos,after,guard⟩:=o
 unfold ov at h
 simp only at h
 have Rz: ∀{ρ':Operand→aY} (xs:List Operand),(∀x∈xs,ρ' x=ρ x)→xs.map ρ'=xs.map ρ:=fun xs hx=>List.map_congr_left hx
 have Iu: ∀{ρ':Operand→aY} (ps:Array (Nat×Operand)),(∀x∈ps.map (·.2),ρ' x=ρ x)→partsOf ρ' ps=partsOf ρ ps:=fun ps hp=>by
  unfold partsOf
  exact List.map_congr_left fun p hm=>by rw[hp p.2 (Array.mem_map.2 ⟨p,by simpa using hm,rfl⟩)]
 have Zr: ∀{ρ':Operand→aY} (x:Option Operand),(∀y∈x,ρ' y=ρ y)→x.map ρ'=x.map ρ:=fun x hx=>by
  cases x with
  |none=>rfl
  |some x=>simp[hx x rfl]
 split at h
 ·
  rename_i x
  exact⟨_,_,_,h,fun ρ' H' hx _ K'=>by unfold ov;simp only;rw[hx x (by simp[Op.operands])]⟩
 ·rename_i x
  exact⟨_,_,_,h,fun ρ' H' hx _ K'=>by unfold ov;simp only;rw[hx x (by simp[Op.operands])]⟩
 ·rename_i x y z
  split at h
  ·rename_i t hx
   cases t
   ·exact⟨_,_,_,(h:K (ρ z) [] []=some r),fun ρ' H' nC _ K'=>by unfold ov;simp only;rw[nC x (by simp[Op.operands]),hx,nC z (by simp[Op.operands])];rfl⟩
   ·exact⟨_,_,_,(h:K (ρ y) [] []=some r),fun ρ' H' nC _ K'=>by unfold ov;simp only;rw[nC x (by simp[Op.operands]),hx,nC y (by simp[Op.operands])];rfl⟩
  ·cases h
 ·
  split at h
  ·rename_i τ ht
   split at h
   ·rename_i q e oG
    obtain⟨v,rd,ups,h1,e1⟩:=J6 h
    exact⟨_,_,_,h1,fun ρ' H' hx hA K'=>by unfold ov;simp only;rw[ht];simp only;rw[oG];exact e1 H' hA K'⟩
   ·rename_i oG
    obtain⟨h1,e1⟩:=rE h
    exact⟨_,_,_,h1,fun ρ' H' hx hA K'=>by unfold ov;simp only;rw[ht];simp only;rw[oG];simp only;rw[e1 H' (hA _ (by simp))]⟩
  ·cases h
 ·
  rename_i t x
  split at h
  ·rename_i τ ht
   have hold:(iC true (ρ x) H τ fun y rd ups=>mz H (16*dst.getD 0) (.obj τ y) (K (.fD (16*dst.getD 0) []) (16*dst.getD 0::rd) (ups++[(16*dst.getD 0,some (.obj τ y))])))=some r→
     Pts (fun H K=>iC true (ρ x) H τ fun y rd ups=>mz H (16*dst.getD 0) (.obj τ y) (K (.fD (16*dst.getD 0) []) (16*dst.getD 0::rd) (ups++[(16*dst.getD 0,some (.obj τ y))]))) H K r:=by
    intro h
    obtain⟨y,rd,ups,h1,e1⟩:=kA h
    obtain⟨h2,e2⟩:=rE h1
    exact⟨_,_,_,h2,fun H' hA K'=>by simp only;rw[e1 H' (fun i hi=>hA i (List.mem_cons_of_mem _ hi)),e2 H' (hA _ (by simp))]⟩
   split at h
   ·rename_i m e υ y n oG J7
    cases yJ:Nat.beq m n
    ·rw[yJ]at h
     obtain⟨v,rd,ups,h1,e1⟩:=hold h
     refine⟨_,_,_,h1,fun ρ' H' hx hA K'=> ?_⟩
     unfold ov;simp only;rw[ht];simp only
     rw[hx x (by simp[Op.operands]),oG,J7];simp only
     rw[yJ]
     have:=e1 H' hA K'
     rw[J7]at this
     exact this
    ·rw[yJ]at h
     simp only[cond_true]at h
     obtain⟨z,h1,e1⟩:=cJ h
     obtain⟨v,rd,ups,h2,e2⟩:=J6 h1
     refine⟨_,_,_,h2,fun ρ' H' hx hA K'=> ?_⟩
     unfold ov;simp only;rw[ht];simp only
     rw[hx x (by simp[Op.operands]),oG,J7];simp only
     rw[yJ];simp only[cond_true]
     rw[e1]
     exact e2 H' hA K'
   ·rename_i qm
    obtain⟨v,rd,ups,h1,e1⟩:=hold h
    refine⟨_,_,_,h1,fun ρ' H' hx hA K'=> ?_⟩
    unfold ov;simp only;rw[ht];simp only
    rw[hx x (by simp[Op.operands])]
    split
    ·rename_i oG J7;exact absurd J7 (qm _ _ _ _ _ oG)
    ·exact e1 H' hA K'
  ·cases h
 ·
  rename_i t ps
  split at h
  ·rename_i n e ht
   obtain⟨l,rd,ups,h1,_,e1⟩:=yV h
   exact⟨_,_,_,h1,fun ρ' H' hx hA K'=>by unfold ov;simp only;rw[ht];simp only;rw[Iu ps (fun x nC=>hx x (by simpa [Op.operands]using nC)),e1 H' hA]⟩
  ·rename_i τ XJ ht
   obtain⟨h0,e0⟩:=cX h
   obtain⟨l,rd,ups,h1,_,e1⟩:=By h0
   refine⟨_,_,_,h1,fun ρ' H' hx hA K'=> ?_⟩
   unfold ov;simp only;rw[ht]
   have: ∀{β:Type} (A:Nat→Ty→β) (B:Ty→β),(match some τ with|some (.arr n e)=>A n e|some τ=>B τ|none=>B τ)=B τ:=by
    intro β A B
    cases τ<;>first|rfl|exact absurd rfl (XJ _ _)
   cases τ with
   |arr n e=>exact absurd rfl (XJ n e)
   |_=>
    simp only
    rw[Iu ps (fun x nC=>hx x (by simpa [Op.operands]using nC)),e0,e1 H' hA]
  ·cases h
 ·
  rename_i t n ps
  split at h
  ·rename_i e ht
   obtain⟨h0,e0⟩:=cX h
   obtain⟨h1,e1⟩:=rE h0
   obtain⟨l,rd,ups,h2,_,e2⟩:=yV h1
   exact⟨_,_,_,h2,fun ρ' H' hx hA K'=>by
    unfold ov;simp only;rw[ht];simp only
    rw[e0,e1 H' (hA _ (by simp)),Iu ps (fun x nC=>hx x (by simpa [Op.operands]using nC)),e2 H' (fun i hi=>hA i (List.mem_cons_of_mem _ hi))]⟩
  ·cases h
 ·
  rename_i t x
  split at h
  ·rename_i τ ht
   obtain⟨v,rd,ups,h1,e1⟩:=NU h
   exact⟨_,_,_,h1,fun ρ' H' hx hA K'=>by unfold ov;simp only;rw[ht];simp only;rw[hx x (by simp[Op.operands]),e1 H' hA]⟩
  ·cases h
 ·
  rename_i t x y
  split at h
  ·rename_i τ ht
   obtain⟨u,rd,ups,h1,e1⟩:=Lu h
   exact⟨_,_,_,h1,fun ρ' H' hx hA K'=>by unfold ov;simp only;rw[ht];simp only;rw[hx x (by simp[Op.operands]),hx y (by simp[Op.operands]),e1 H' hA]⟩
  ·cases h
 ·
  rename_i x
  split at h
  ·rename_i id p hx
   exact⟨_,_,_,h,fun ρ' H' nC _ K'=>by unfold ov;simp only;rw[nC x (by simp[Op.operands]),hx]⟩
  ·rename_i τ z hx
   exact⟨_,_,_,h,fun ρ' H' nC _ K'=>by unfold ov;simp only;rw[nC x (by simp[Op.operands]),hx]⟩
  ·cases h
 ·
  rename_i b t x y t'
  obtain⟨τ,x1,h1,e1⟩:=J5 h
  obtain⟨υ,y1,h2,e2⟩:=J5 h1
  obtain⟨v,h3,e3⟩:=NN h2
  exact⟨_,_,_,h3,fun ρ' H' hx _ K'=>by unfold ov;simp only;rw[hx x (by simp[Op.operands]),hx y (by simp[Op.operands]),e1,e2,e3]⟩
 ·
  rename_i u t x
  obtain⟨v,h1,e1⟩:=Rv h
  exact⟨_,_,_,h1,fun ρ' H' hx _ K'=>by unfold ov;simp only;rw[hx x (by simp[Op.operands]),e1]⟩
 ·
  rename_i s d x
  split at h
  ·rename_i τ k hs hd
   obtain⟨i,n,h1,e1⟩:=nY h
   exact⟨_,_,_,h1,fun ρ' H' hx _ K'=>by unfold ov;simp only;rw[hs,hd];simp only;rw[hx x (by simp[Op.operands]),e1]⟩
  ·cases h
 ·
  rename_i f first caps
  obtain⟨h1,e1⟩:=cX h
  obtain⟨cs,rd,ups,h3,e3⟩:=yX h1
  exact⟨_,_,_,h3,fun ρ' H' hx hA K'=>by unfold ov;simp only;rw[Rz caps.toList (fun x nC=>hx x (by simp[Op.operands];exact .inr (by simpa using nC))),e1,e3 H' hA]⟩
 ·
  rename_i t x y
  split at h
  ·rename_i e ht
   obtain⟨i,n,h1,e1⟩:=nY h
   obtain⟨i',n',h2,e2⟩:=nY h1
   obtain⟨h3,e3⟩:=cX h2
   obtain⟨h4,e4⟩:=rE h3
   exact⟨_,_,_,h4,fun ρ' H' hx hA K'=>by
    unfold ov;simp only;rw[ht];simp only
    rw[hx x (by simp[Op.operands]),e1,hx y (by simp[Op.operands]),e2,e3,e4 H' (hA _ (by simp))]⟩
  ·cases h
 ·
  rename_i t x lo hi mx
  split at h
  ·rename_i τ ht
   obtain⟨v,rd,ups,h1,e1⟩:=Lr h
   exact⟨_,_,_,h1,fun ρ' H' hx hA K'=>by
    unfold ov;simp only;rw[ht];simp only
    rw[hx x (by simp[Op.operands]),Zr lo (fun y hy=>hx y (by simp at hy;simp[Op.operands,hy])),Zr hi (fun y hy=>hx y (by simp at hy;simp[Op.operands,hy])),Zr mx (fun y hy=>hx y (by simp at hy;simp[Op.operands,hy])),e1 H' hA]⟩
  ·cases h
 ·
  rename_i t x n
  split at h
  ·rename_i τ ht
   split at h
   ·rename_i id p hx
    obtain⟨υ,h1,e1⟩:=vA h
    obtain⟨h2,e2⟩:=gg h1
    obtain⟨υ',y',h3,e3⟩:=rD h2
    obtain⟨h4,e4⟩:=oK h3
    exact⟨_,_,_,h4,fun ρ' H' nC hA K'=>by
     unfold ov;simp only;rw[ht];simp only
     rw[nC x (by simp[Op.operands]),hx];simp only
     rw[e1 H' (hA _ (by simp)),e2,e3,e4]⟩
   ·rename_i υ z hx
    obtain⟨h2,e2⟩:=gg h
    obtain⟨υ',y',h3,e3⟩:=rD h2
    obtain⟨h4,e4⟩:=oK h3
    exact⟨_,_,_,h4,fun ρ' H' nC hA K'=>by
     unfold ov;simp only;rw[ht];simp only
     rw[nC x (by simp[Op.operands]),hx];simp only
     rw[e2,e3,e4]⟩
   ·cases h
  ·cases h
 ·
  rename_i t x n
  split at h
  ·rename_i τ ht
   split at h
   ·rename_i υ z hx
    obtain⟨h2,e2⟩:=gg h
    obtain⟨υ',y',h3,e3⟩:=rD h2
    exact⟨_,_,_,h3,fun ρ' H' nC hA K'=>by
     unfold ov;simp only;rw[ht];simp only
     rw[nC x (by simp[Op.operands]),hx];simp only
     rw[e2,e3]⟩
   ·cases h
  ·cases h
 ·
  rename_i t x i
  split at h
  ·rename_i τ ht
   obtain⟨v,rd,ups,h1,e1⟩:=AY h
   exact⟨_,_,_,h1,fun ρ' H' hx hA K'=>by unfold ov;simp only;rw[ht];simp only;rw[hx x (by simp[Op.operands]),hx i (by simp[Op.operands]),e1 H' hA]⟩
  ·cases h
 ·
  rename_i t x i
  split at h
  ·rename_i τ ht
   obtain⟨v,h1,e1⟩:=Ls h
   exact⟨_,_,_,h1,fun ρ' H' hx hA K'=>by unfold ov;simp only;rw[ht];simp only;rw[hx x (by simp[Op.operands]),hx i (by simp[Op.operands]),e1]⟩
  ·cases h
 ·
  rename_i x i
  split at h
  ·rename_i vs hx
   split at h
   ·rename_i v hv
    exact⟨_,_,_,h,fun ρ' H' nC hA K'=>by unfold ov;simp only;rw[nC x (by simp[Op.operands]),hx];simp only;rw[hv]⟩
   ·cases h
  ·cases h
 ·
  rename_i cl
  obtain⟨callee,args,ts⟩:=cl
  simp only at h
  have ss: ∀{ρ':Operand→aY},(∀x∈(Op.call {callee,args,argTypes:=ts}).operands,ρ' x=ρ x)→ ∀x∈args.toList,ρ' x=ρ x:=
   fun hx x nC=>hx x (by simp[Op.operands,Call.operands];exact .inr (by simpa using nC))
  split at h
  ·split at h
   ·rename_i x τ ha ht
    obtain⟨v,rd,ups,h1,e1⟩:=Rw h
    exact⟨_,_,_,h1,fun ρ' H' hx hA K'=>by unfold ov;simp only;rw[ha,ht];simp only;rw[ss hx x (by rw[ha];simp),e1 H' hA]⟩
   ·cases h
  ·split at h
   ·rename_i x y t t' ha ht
    split at h
    ·rename_i e hte
     obtain⟨h1,e1⟩:=cX h
     obtain⟨h2,e2⟩:=rE h1
     obtain⟨v,rd,ups,h3,aT,e3⟩:=Rx h2
     exact⟨_,_,_,h3,fun ρ' H' hx hA K'=>by
      unfold ov;simp only;rw[ha,ht];simp only;rw[hte];simp only
      rw[e1,e2 H' (hA _ aT),ss hx x (by rw[ha];simp),ss hx y (by rw[ha];simp),e3 H' hA]⟩
    ·cases h
   ·cases h
  ·split at h
   ·rename_i x xs ha
    obtain⟨v,h1,e1⟩:=It h
    exact⟨_,_,_,h1,fun ρ' H' hx hA K'=>by
     unfold ov;simp only;rw[ha];simp only
     rw[ss hx x (by rw[ha];simp),Rz xs (fun y hy=>ss hx y (by rw[ha];simp[hy])),e1]⟩
   ·cases h
  ·split at h
   ·rename_i x xs ha
    obtain⟨v,h1,e1⟩:=It h
    exact⟨_,_,_,h1,fun ρ' H' hx hA K'=>by
     unfold ov;simp only;rw[ha];simp only
     rw[ss hx x (by rw[ha];simp),Rz xs (fun y hy=>ss hx y (by rw[ha];simp[hy])),e1]⟩
   ·cases h
  ·rename_i g
   split at h
   ·rename_i f caps hg
    obtain⟨v,rd,ups,h1,e1⟩:=NQ h
    exact⟨_,_,_,h1,fun ρ' H' hx hA K'=>by
     unfold ov;simp only
     rw[hx g (by simp[Op.operands,Call.operands]),hg];simp only
     rw[Rz args.toList (ss hx),e1 H' hA]⟩
   ·cases h
  ·cases h
 ·cases h
end VM
end
section
namespace VM
open Go
variable{P:Program}{E:Env}{o:Oper}{a:Act}{w:World}{M:Nat→Prop}{ν:Nat→Value}{σ:St}{c:Ctx}{α:Type}{r:α}{next:Act→World→Prop}{Q:Exit→Act→World→Prop}
structure Out where
 dst:Option Nat
 v:aY
 rd:List Nat
 ups:fl
def Out.app(u:Out)(σ:St):St:=(σ.qp u.ups).qa u.dst u.v
theorem EU(σ:St)(d:Nat)(v:aY):(σ.qa (some d) v).T d=v:=pa σ d v
theorem Lv(σ:St){d:Option Nat}{t:Nat}(v:aY)(h:d≠some t):(σ.qa d v).T t=σ.T t:=by
 cases d with
 |none=>rfl
 |some d=>exact tZ σ v (fun e=>h (by rw[e]))
theorem Zs(σ:St)(d:Option Nat)(v:aY):(σ.qa d v).H=σ.H:=by cases d<;>rfl
theorem Iv{u:Out}{t:Nat}(h:u.dst=some t)(σ:St):(u.app σ).T t=u.v:=by unfold Out.app;rw[h];exact EU _ _ _
theorem NV{u:Out}{t:Nat}(h:u.dst≠some t)(σ:St):(u.app σ).T t=σ.T t:=by unfold Out.app;rw[Lv _ _ h,Ij]
theorem aeq(u:Out)(σ:St):(u.app σ).H=bS σ.H u.ups:=by unfold Out.app;rw[Zs,Ii]
def Pt(E:Env)(ops:List Oper)(o:Oper)(σ:St)(u:Out)(α:Type):Prop:=
 u.dst=o.dst∧ ∀σ':St,(∀t∈names ops o,σ'.T t=σ.T t)→Ag u.rd σ.H σ'.H→ ∀K':St→List Nat→List Nat→Option α,oB E ops o σ' K'=K' (u.app σ') u.rd (u.ups.map (·.1))
theorem NW{ops:List Oper}{K:St→List Nat→List Nat→Option α}(h:oB E ops o σ K=some r): ∃u:Out,K (u.app σ) u.rd (u.ups.map (·.1))=some r∧Pt E ops o σ u α:=by
 unfold oB at h
 obtain⟨h,e0⟩:=cX h
 have ajP: ∀σ':St,(∀t∈names ops o,σ'.T t=σ.T t)→ ∀x∈o.op.operands,σ'.ρ x=σ.ρ x:=by
  intro σ' hT x hx
  cases x with
  |tmp t=>
   refine hT t ?_
   unfold names
   refine List.mem_append_left _ (List.mem_filterMap.2 ⟨.tmp t,by simpa using hx,rfl⟩)
  |_=>rfl
 have cA:ov E o σ.ρ σ.H (fun v rd ups=>K ((σ.qp ups).qa o.dst v) rd (ups.map (·.1)))=some r→
   ∃u:Out,K (u.app σ) u.rd (u.ups.map (·.1))=some r∧u.dst=o.dst∧ ∀σ':St,(∀t∈names ops o,σ'.T t=σ.T t)→Ag u.rd σ.H σ'.H→ ∀K':St→List Nat→List Nat→Option α,
    ov E o σ'.ρ σ'.H (fun v rd ups=>K' ((σ'.qp ups).qa o.dst v) rd (ups.map (·.1)))=K' (u.app σ') u.rd (u.ups.map (·.1)):=by
  intro h
  obtain⟨v,rd,ups,h1,h2⟩:=Zq h
  exact⟨⟨o.dst,v,rd,ups⟩,h1,rfl,fun σ' hT hA K'=>h2 σ'.ρ σ'.H (ajP σ' hT) hA _⟩
 have nX: ∀{K:St→List Nat→List Nat→Option α},K (σ.qa o.dst .Nm) [] []=some r→ ∃u:Out,K (u.app σ) u.rd (u.ups.map (·.1))=some r∧u.dst=o.dst∧ ∀σ':St,∀K':St→List Nat→List Nat→Option α,K' (σ'.qa o.dst .Nm) [] []=K' (u.app σ') u.rd (u.ups.map (·.1)):=
  fun h=>⟨⟨o.dst,.Nm,[],[]⟩,h,rfl,fun _ _=>rfl⟩
 simp only at h
 split at h
 ·rename_i hg
  obtain⟨u,h1,h2,h3⟩:=cA h
  refine⟨u,h1,h2,fun σ' hT hA K'=> ?_⟩
  unfold oB
  rw[e0]
  simp only
  rw[hg]
  exact h3 σ' hT hA K'
 ·rename_i j want hg
  split at h
  ·cases h
  ·rename_i t ht
   have Lw:t∈names ops o:=by
    unfold names
    refine List.mem_append_right _ ?_
    rw[hg]
    simp[ht]
   split at h
   ·rename_i b hb
    have lG: ∀σ':St,σ'.T t=σ.T t→σ'.put t (.val .bool b)=σ':=fun σ' h'=>by
     rw[←hb,←h'];exact yR σ' t
    cases want<;>cases b
    ·obtain⟨u,h1,h2,h3⟩:=cA (by
      have:=lG σ rfl
      rw[this]at h;exact h)
     refine⟨u,h1,h2,fun σ' hT hA K'=> ?_⟩
     unfold oB
     rw[e0];simp only;rw[hg];simp only;rw[ht];simp only;rw[hT t Lw,hb];simp only
     rw[lG σ' (hT t Lw)]
     exact h3 σ' hT hA K'
    ·obtain⟨u,h1,h2,h3⟩:=nX (by
      have:=lG σ rfl
      rw[this]at h;exact h)
     refine⟨u,h1,h2,fun σ' hT hA K'=> ?_⟩
     unfold oB
     rw[e0];simp only;rw[hg];simp only;rw[ht];simp only;rw[hT t Lw,hb];simp only
     rw[lG σ' (hT t Lw)]
     exact h3 σ' K'
    ·obtain⟨u,h1,h2,h3⟩:=nX (by
      have:=lG σ rfl
      rw[this]at h;exact h)
     refine⟨u,h1,h2,fun σ' hT hA K'=> ?_⟩
     unfold oB
     rw[e0];simp only;rw[hg];simp only;rw[ht];simp only;rw[hT t Lw,hb];simp only
     rw[lG σ' (hT t Lw)]
     exact h3 σ' K'
    ·obtain⟨u,h1,h2,h3⟩:=cA (by
      have:=lG σ rfl
      rw[this]at h;exact h)
     refine⟨u,h1,h2,fun σ' hT hA K'=> ?_⟩
     unfold oB
     rw[e0];simp only;rw[hg];simp only;rw[ht];simp only;rw[hT t Lw,hb];simp only
     rw[lG σ' (hT t Lw)]
     exact h3 σ' hT hA K'
   ·rename_i hb
    obtain⟨u,h1,h2,h3⟩:=nX h
    refine⟨u,h1,h2,fun σ' hT hA K'=> ?_⟩
    unfold oB
    rw[e0];simp only;rw[hg];simp only;rw[ht];simp only;rw[hT t Lw,hb]
    exact h3 σ' K'
   ·cases h
theorem J8{ops:List Oper}: ∀(l:List Oper) (i:Nat) (σ:St) (lg:Log) (K:St→Log→Option α),K3 E ops l i σ lg K=some r→
  ∃us:List Out,us.length=l.length∧(∀j u o,us[j]? =some u→l[j]? =some o→Pt E ops o ((us.take j).foldl (fun σ u=>u.app σ) σ) u α)∧
   ∃XN,K (us.foldl (fun σ u=>u.app σ) σ) XN=some r∧(∀x∈lg,x∈XN)∧ ∀j u,us[j]? =some u→(i+j,u.rd,u.ups.map (·.1))∈XN
 |[],i,σ,lg,K,h=>⟨[],rfl,fun j u o hj=>by simp at hj,lg,h,fun _ h=>h,fun j u hj=>by simp at hj⟩
 |o::l,i,σ,lg,K,h=>by
  unfold K3 at h
  obtain⟨u,h1,h2⟩:=NW h
  obtain⟨us,hl,hpt,XN,hK,QS,hj⟩:=J8 l (i+1) (u.app σ) _ K h1
  refine⟨u::us,by simp[hl],fun j u' o' hu ho=> ?_,XN,hK,fun x hx=>QS x (List.mem_cons_of_mem _ hx),fun j u' hu=> ?_⟩
  ·cases j with
   |zero=>simp at hu ho;subst hu ho;exact h2
   |succ j=>exact hpt j u' o' (by simpa using hu) (by simpa using ho)
  ·cases j with
   |zero=>simp at hu;subst hu;exact QS _ List.mem_cons_self
   |succ j=>
    have:=hj j u' (by simpa using hu)
    rwa [show i+1+j=i+(j+1)from by omega]at this
theorem Lx{k:Nat}{ups:fl}(h:k∈keys ups)(H H':Nat→Option aP):bS H ups k=bS H' ups k:=by
 induction ups generalizing H H' with
 |nil=>simp[keys]at h
 |cons u r ih=>
  show bS (bm H u.1 u.2) r k=bS (bm H' u.1 u.2) r k
  by_cases hk:k∈keys r
  ·exact ih hk _ _
  ·have hku:k=u.1:=by
    simp only[keys,List.map_cons,List.mem_cons]at h hk
    exact h.resolve_right hk
   rw[jr hk,jr hk,hku,ak,ak]
structure kH(us:List Out)(σ0:St)(S:Nat→Prop)(σ:St):Prop where
 T: ∀t,(∃j u,us[j]? =some u∧S j∧u.dst=some t∧(∀j' u',us[j']? =some u'→S j'→u'.dst=some t→j'≤j)∧σ.T t=u.v)∨((∀j u,us[j]? =some u→S j→u.dst≠some t)∧σ.T t=σ0.T t)
 H: ∀k,(∃j u,us[j]? =some u∧S j∧k∈keys u.ups∧(∀j' u',us[j']? =some u'→S j'→k∈keys u'.ups→j'≤j)∧σ.H k=bS σ0.H u.ups k)∨((∀j u,us[j]? =some u→S j→k∉keys u.ups)∧σ.H k=σ0.H k)
theorem kH.NX{us:List Out}{σ0 σ σ':St}{S S':Nat→Prop}(h:kH us σ0 S σ)(h':kH us σ0 S' σ'){t:Nat}(hs: ∀j u,us[j]? =some u→u.dst=some t→(S j↔S' j)):σ.T t=σ'.T t:=by
 rcases h.T t with⟨j,u,h1,h2,h3,h4,h5⟩|⟨h1,h2⟩<;>rcases h'.T t with⟨j',u',lO,sH,Iw,h4',h5'⟩|⟨lO,sH⟩
 ·have e1:=h4 j' u' lO ((hs j' u' lO Iw).2 sH) Iw
  have e2:=h4' j u h1 ((hs j u h1 h3).1 h2) h3
  have:j=j':=by omega
  subst this
  rw[h1]at lO;cases lO
  rw[h5,h5']
 ·exact absurd h3 (lO j u h1 ((hs j u h1 h3).1 h2))
 ·exact absurd Iw (h1 j' u' lO ((hs j' u' lO Iw).2 sH))
 ·rw[h2,sH]
theorem kH.NY{us:List Out}{σ0 σ σ':St}{S S':Nat→Prop}(h:kH us σ0 S σ)(h':kH us σ0 S' σ'){k:Nat}(hs: ∀j u,us[j]? =some u→k∈keys u.ups→(S j↔S' j)):σ.H k=σ'.H k:=by
 rcases h.H k with⟨j,u,h1,h2,h3,h4,h5⟩|⟨h1,h2⟩<;>rcases h'.H k with⟨j',u',lO,sH,Iw,h4',h5'⟩|⟨lO,sH⟩
 ·have e1:=h4 j' u' lO ((hs j' u' lO Iw).2 sH) Iw
  have e2:=h4' j u h1 ((hs j u h1 h3).1 h2) h3
  have:j=j':=by omega
  subst this
  rw[h1]at lO;cases lO
  rw[h5,h5']
 ·exact absurd h3 (lO j u h1 ((hs j u h1 h3).1 h2))
 ·exact absurd Iw (h1 j' u' lO ((hs j' u' lO Iw).2 sH))
 ·rw[h2,sH]
theorem kH.unique{us:List Out}{σ0 σ σ':St}{S S':Nat→Prop}(h:kH us σ0 S σ)(h':kH us σ0 S' σ')(hs: ∀j u,us[j]? =some u→(S j↔S' j)):σ=σ':=by
 obtain⟨T,H⟩:=σ
 obtain⟨T',H'⟩:=σ'
 congr 1
 ·funext t;exact h.NX h' (fun j u hj _=>hs j u hj)
 ·funext k;exact h.NY h' (fun j u hj _=>hs j u hj)
theorem kH.step{us:List Out}{σ0 σ:St}{S:Nat→Prop}(h:kH us σ0 S σ){i:Nat}{u:Out}(hi:us[i]? =some u)(hc: ∀j u',us[j]? =some u'→S j→i<j→(∀t,u.dst=some t→u'.dst≠some t)∧ ∀k∈keys u.ups,k∉keys u'.ups):
  kH us σ0 (fun j=>j=i∨S j) (u.app σ):=by
 refine⟨fun t=> ?_,fun k=> ?_⟩
 ·by_cases hd:u.dst=some t
  ·left
   refine⟨i,u,hi,.inl rfl,hd,fun j' u' h1 h2 h3=> ?_,Iv hd σ⟩
   rcases h2 with rfl|h2
   ·exact Nat.le_refl _
   ·exact Nat.le_of_not_lt fun dF=>(hc j' u' h1 h2 dF).1 t hd h3
  ·rw[NV hd]
   rcases h.T t with⟨j,u1,h1,h2,h3,h4,h5⟩|⟨h1,h2⟩
   ·refine .inl ⟨j,u1,h1,.inr h2,h3,fun j' u' lO sH Iw=> ?_,h5⟩
    rcases sH with rfl|sH
    ·rw[hi]at lO;cases lO;exact absurd Iw hd
    ·exact h4 j' u' lO sH Iw
   ·refine .inr ⟨fun j u' lO sH=> ?_,h2⟩
    rcases sH with rfl|sH
    ·rw[hi]at lO;cases lO;exact hd
    ·exact h1 j u' lO sH
 ·rw[aeq]
  by_cases hd:k∈keys u.ups
  ·left
   refine⟨i,u,hi,.inl rfl,hd,fun j' u' h1 h2 h3=> ?_,Lx hd _ _⟩
   rcases h2 with rfl|h2
   ·exact Nat.le_refl _
   ·exact Nat.le_of_not_lt fun dF=>(hc j' u' h1 h2 dF).2 k hd h3
  ·rw[jr hd]
   rcases h.H k with⟨j,u1,h1,h2,h3,h4,h5⟩|⟨h1,h2⟩
   ·refine .inl ⟨j,u1,h1,.inr h2,h3,fun j' u' lO sH Iw=> ?_,h5⟩
    rcases sH with rfl|sH
    ·rw[hi]at lO;cases lO;exact absurd Iw hd
    ·exact h4 j' u' lO sH Iw
   ·refine .inr ⟨fun j u' lO sH=> ?_,h2⟩
    rcases sH with rfl|sH
    ·rw[hi]at lO;cases lO;exact hd
    ·exact h1 j u' lO sH
theorem kH.start(us:List Out)(σ0:St):kH us σ0 (fun _=>False) σ0:=⟨fun t=> .inr ⟨fun _ _ _ h=>h.elim,rfl⟩,fun k=> .inr ⟨fun _ _ _ h=>h.elim,rfl⟩⟩
theorem kH.congr{us:List Out}{σ0 σ:St}{S S':Nat→Prop}(h:kH us σ0 S σ)(hs: ∀j,S j↔S' j):kH us σ0 S' σ:=by
 have:S=S':=funext fun j=>propext (hs j)
 rw[←this];exact h
theorem kH.text(us:List Out)(σ0:St): ∀i,i≤us.length→kH us σ0 (fun j=>j<i) ((us.take i).foldl (fun σ u=>u.app σ) σ0)
 |0,_=>(kH.start us σ0).congr fun j=>by simp
 |i+1,hi=>by
  have ih:=kH.text us σ0 i (by omega)
  have hu:us[i]? =some us[i]:=List.getElem?_eq_getElem (by omega)
  have:=ih.step hu (fun j u' _ h2 h3=>by omega)
  rw[List.take_add_one,hu,List.foldl_append]
  exact this.congr fun j=>by constructor<;>intro h<;>omega
end VM
end
section
namespace VM
open Go
variable{P:Program}{E:Env}{o:Oper}{a:Act}{w:World}{M:Nat→Prop}{ν:Nat→Value}{σ:St}{c:Ctx}{α:Type}{r:α}{next:Act→World→Prop}{Q:Exit→Act→World→Prop}
def Zt(S:Nat→Prop)(o:Oper):Prop:= ∀e∈o.after,Region.binds .any e=true→S e.on
theorem yY{β:Type}{l m:List β}{i:Nat}{d:β}(h:i<l.length):(l++m).getD i d=l.getD i d:=by
 simp only[List.getD,List.getElem?_append_left h]
theorem yZ{β:Type}{l:List β}{x d:β}:(l++[x]).getD l.length d=x:=by
 simp[List.getD]
theorem wH{acc:List Nat}{i:Nat}: ∀(es:List Edge) (s:Nat),(es.foldl (fun s e=>cond (Region.binds .any e) (s|||2^e.on|||acc.getD e.on 0) s) s).testBit i=true→
  s.testBit i=true∨ ∃e∈es,Region.binds .any e=true∧(i=e.on∨(acc.getD e.on 0).testBit i=true)
 |[],s,h=> .inl h
 |e::es,s,h=>by
  rw[List.foldl_cons]at h
  rcases wH es _ h with h1|⟨e',h1,h2⟩
  ·cases hb:Region.binds .any e
   ·rw[hb]at h1;exact .inl h1
   ·rw[hb]at h1
    simp only[cond_true,Nat.testBit_or,Bool.or_eq_true]at h1
    rcases h1 with(h1|h1)|h1
    ·exact .inl h1
    ·refine .inr ⟨e,List.mem_cons_self,hb,.inl ?_⟩
     rw[Nat.testBit_two_pow]at h1
     simpa using (of_decide_eq_true h1).symm
    ·exact .inr ⟨e,List.mem_cons_self,hb,.inr h1⟩
  ·exact .inr ⟨e',List.mem_cons_of_mem _ h1,h2⟩
theorem wI{S:Nat→Prop}: ∀(l:List Oper) (acc:List Nat) (all:List Oper),all.length=acc.length+l.length→(∀j,l[j]? =all[acc.length+j]?)→
  (∀j o,all[j]? =some o→S j→Zt S o)→(∀j i,j<acc.length→S j→(acc.getD j 0).testBit i=true→S i)→
  ∀j o i,all[j]? =some o→(Zt S o∨S j)→((od l acc).getD j 0).testBit i=true→(j<acc.length→ ∀i,Zt S o→(acc.getD j 0).testBit i=true→S i)→S i
 |[],acc,all,hl,jo,hS,RA,j,o,i,hj,EV,hb,NZ=>by
  have dF:j<all.length:=(List.getElem?_eq_some_iff.1 hj).1
  have qE:j<acc.length:=by simp at hl;omega
  rcases EV with hp|hp
  ·exact NZ qE i hp hb
  ·exact RA j i qE hp hb
 |p::l,acc,all,hl,jo,hS,RA,j,o,i,hj,EV,hb,NZ=>by
  unfold od at hb
  have M9:all[acc.length]? =some p:=by rw[←Nat.add_zero acc.length,←jo 0];rfl
  have RB: ∀i,Zt S p→(p.after.toList.foldl (fun s e=>cond (Region.binds .any e) (s|||2^e.on|||acc.getD e.on 0) s) 0).testBit i=true→S i:=by
   intro i AH hb
   rcases wH p.after.toList 0 hb with h1|⟨e,he,hbe,h1⟩
   ·simp at h1
   ·have hSe:=AH e (by simpa using he) hbe
    rcases h1 with rfl|h1
    ·exact hSe
    ·by_cases dF:e.on<acc.length
     ·exact RA e.on i dF hSe h1
     ·rw[List.getD,List.getElem?_eq_none (by omega)]at h1;simp at h1
  refine wI l (acc++[p.after.toList.foldl (fun s e=>cond (Region.binds .any e) (s|||2^e.on|||acc.getD e.on 0) s) 0]) all (by simp at hl ⊢;omega) (fun j=> ?_) hS (fun j' i' XO hS' dw=> ?_) j o i hj EV hb (fun dF i' Bm dw=> ?_)
  ·have:=jo (j+1)
   simp only[List.getElem?_cons_succ]at this
   rw[this]
   congr 1
   simp;omega
  ·by_cases dF:j'<acc.length
   ·rw[yY dF]at dw
    exact RA j' i' dF hS' dw
   ·have hje:j'=acc.length:=by simp at XO;omega
    subst hje
    rw[yZ]at dw
    exact RB i' (hS _ p M9 hS') dw
  ·by_cases qE:j<acc.length
   ·rw[yY qE]at dw
    exact NZ qE i' Bm dw
   ·have hje:j=acc.length:=by simp at dF;omega
    subst hje
    rw[M9]at hj;cases hj
    rw[yZ]at dw
    exact RB i' Bm dw
theorem forced{ops:List Oper}{S:Nat→Prop}(hS: ∀j o,ops[j]? =some o→S j→Zt S o){j i:Nat}(hj:ops[j]? =some o)(EV:Zt S o∨S j)(hb:((od ops []).getD j 0).testBit i=true):S i:=
 wI ops [] ops (by simp) (fun j=>by simp) hS (fun j i h=>by simp at h) j o i hj EV hb (fun h=>by simp at h)
theorem iQ{l m:List Nat}(h:meets l m=false){x:Nat}(h1:x∈l)(h2:x∈m):False:=by
 have:meets l m=true:=by
  unfold meets
  rw[List.any_eq_true]
  refine⟨x,h1,?_⟩
  rw[List.any_eq_true]
  exact⟨x,h2,Nat.beq_refl x⟩
 rw[h]at this;cases this
structure Rnd(c:Ctx)(E:Env)(ops:Array Oper)(us:List Out)(σ0:St)(listed:Array Bool)(a:Act)(w:World):Prop where
 size:listed.size=ops.size
 closed: ∀j o,ops.toList[j]? =some o→listed.getD j false=true→Zt (fun i=>listed.getD i false=true) o
 st: ∃σ,kH us σ0 (fun j=>listed.getD j false=true) σ∧Inv c E σ a w
theorem sW{listed:Array Bool}{j:Nat}(h:j<listed.size)(d:Bool):listed.getD j d=listed.getD j false:=by
 simp[Array.getD,h]
theorem CV(hE:nW P E){ops:Array Oper}{us:List Out}{σ0 σn:St}{α:Type}(x0:α)(hl:us.length=ops.toList.length)
  (hpt: ∀(j:Nat) (u:Out) (o:Oper),us[j]? =some u→ops.toList[j]? =some o→Pt E ops.toList o ((us.take j).foldl (fun σ u=>u.app σ) σ0) u α)
  (hn:σn=us.foldl (fun σ u=>u.app σ) σ0)
  (dF: ∀(j:Nat) (o:Oper),ops.toList[j]? =some o→ ∀e∈o.after,Region.binds .any e=true→e.on<j)
  (HY: ∀(j:Nat) (o:Oper) (i:Nat) (p:Oper),ops.toList[j]? =some o→ops.toList[i]? =some p→i<j→((od ops.toList []).getD j 0).testBit i=false→
   (∀d,p.dst=some d→o.dst≠some d∧d∉names ops.toList o)∧(∀d,o.dst=some d→d∉names ops.toList p))
  (QS: ∀(j:Nat) (u:Out) (i:Nat) (v:Out),us[j]? =some u→us[i]? =some v→i<j→((od ops.toList []).getD j 0).testBit i=false→
   (∀k∈keys v.ups,k∉u.rd∧k∉keys u.ups)∧(∀k∈v.rd,k∉keys u.ups))
  (hq: ∀a' w',Inv c E σn a' w'→Q .normal a' w'):
  ∀(fuel:Nat) (listed:Array Bool) (a:Act) (w:World),((List.range ops.size).filter fun j=> !(listed.getD j false)).length≤fuel→Rnd c E ops us σ0 listed a w→wpAny P .any ops Q fuel listed a w:=by
 have jo: ∀(listed:Array Bool) (a:Act) (w:World),Rnd c E ops us σ0 listed a w→Region.ready .any ops listed=[]→Q .normal a w:=by
  intro listed a w hR Zu
  obtain⟨hs,D3,σ,HO,hI⟩:=hR
  have aes: ∀j,j<ops.size→listed.getD j false=true:=by
   intro j
   induction j using Nat.strongRecOn with
   |_ j ih=>
    intro hj
    by_cases hb:listed.getD j false=true
    ·exact hb
    ·exfalso
     have ho:ops[j]? =some ops[j]:=Array.getElem?_eq_getElem hj
     have:j∈Region.ready .any ops listed:=by
      rw[mem_ready]
      refine⟨by rw[sW (by omega)];simpa using hb,_,ho,fun e he hbe=> ?_⟩
      have hej:=dF j ops[j] (by rw[Array.getElem?_toList];exact ho) e he hbe
      exact ih e.on hej (by omega)
     rw[Zu]at this
     cases this
  have hσ:σ=σn:=by
   rw[hn]
   have ht:=kH.text us σ0 us.length (Nat.le_refl _)
   rw[List.take_length]at ht
   refine HO.unique ht fun j u hj=> ?_
   have AB:j<us.length:=(List.getElem?_eq_some_iff.1 hj).1
   have hjo:j<ops.size:=by rw[hl,Array.length_toList]at AB;exact AB
   exact⟨fun _=>AB,fun _=>aes j hjo⟩
  exact hq a w (hσ▸hI)
 intro fuel
 induction fuel with
 |zero=>
  intro listed a w hf hR
  have RC:Region.ready .any ops listed=[]:=by
   rw[List.eq_nil_iff_forall_not_mem]
   intro j hj
   rw[mem_ready]at hj
   obtain⟨h0,o,ho,_⟩:=hj
   have hjs:j<ops.size:=(Array.getElem?_eq_some_iff.1 ho).1
   have AB:j<listed.size:=by rw[hR.size];exact hjs
   rw[sW AB]at h0
   have lN:j∈(List.range ops.size).filter fun j=> !(listed.getD j false):=by
    rw[List.mem_filter];exact⟨List.mem_range.2 hjs,by rw[h0];rfl⟩
   have:((List.range ops.size).filter fun j=> !(listed.getD j false))=[]:=List.eq_nil_of_length_eq_zero (by omega)
   rw[this]at lN;cases lN
  exact⟨RC,jo listed a w hR RC⟩
 |succ fuel ih=>
  intro listed a w hf hR
  refine⟨jo listed a w hR,fun i hi=> ?_⟩
  have iF:=hi
  rw[mem_ready]at iF
  obtain⟨h0,o,ho,EV⟩:=iF
  have his:i<ops.size:=(Array.getElem?_eq_some_iff.1 ho).1
  have AK:i<listed.size:=by rw[hR.size];exact his
  rw[sW AK]at h0
  obtain⟨hs,D3,σ,HO,hI⟩:=hR
  have D6:ops.toList[i]? =some o:=by rw[Array.getElem?_toList];exact ho
  have hiu:i<us.length:=by rw[hl,Array.length_toList];exact his
  have hu:us[i]? =some us[i]:=List.getElem?_eq_getElem hiu
  have hPt:=hpt i us[i] o hu D6
  have hSi: ¬listed.getD i false=true:=by rw[h0];simp
  have EW: ∀j p,ops.toList[j]? =some p→((j<i∧ ¬listed.getD j false=true)→((od ops.toList []).getD i 0).testBit j=false)∧((i<j∧listed.getD j false=true)→((od ops.toList []).getD j 0).testBit i=false):=by
   intro j p hj
   refine⟨fun⟨_,h2⟩=> ?_,fun⟨_,h2⟩=> ?_⟩
   ·rw[←Bool.not_eq_true]
    intro hb
    exact h2 (forced D3 D6 (.inl EV) hb)
   ·rw[←Bool.not_eq_true]
    intro hb
    exact hSi (forced D3 hj (.inr h2) hb)
  have N0: ∀(j:Nat) (u:Out),us[j]? =some u→ ∃p:Oper,ops.toList[j]? =some p∧u.dst=p.dst:=by
   intro j u hj
   have AB:j<us.length:=(List.getElem?_eq_some_iff.1 hj).1
   have hp:ops.toList[j]? =some ops.toList[j]:=List.getElem?_eq_getElem (by omega)
   exact⟨_,hp,(hpt j u _ hj hp).1⟩
  have XQ:=kH.text us σ0 i (by omega)
  have hT: ∀t∈names ops.toList o,σ.T t=((us.take i).foldl (fun σ u=>u.app σ) σ0).T t:=by
   intro t ht
   refine HO.NX XQ fun j u hj hd=> ?_
   obtain⟨p,hp,Zv⟩:=N0 j u hj
   have Zv:p.dst=some t:=by rw[←Zv,hd]
   constructor
   ·intro EX
    refine Nat.lt_of_not_le fun hle=> ?_
    rcases Nat.lt_or_eq_of_le hle with qE|heq
    ·exact(HY j p i o hp D6 qE ((EW j p hp).2 ⟨qE,EX⟩)).2 t Zv ht
    ·subst heq;exact hSi EX
   ·intro sX
    by_cases EX:listed.getD j false=true
    ·exact EX
    ·exact absurd ht ((HY i o j p D6 hp sX ((EW j p hp).1 ⟨sX,EX⟩)).1 t Zv).2
  have hH:Ag us[i].rd ((us.take i).foldl (fun σ u=>u.app σ) σ0).H σ.H:=by
   intro k hk
   refine HO.NY XQ fun j u hj hd=> ?_
   obtain⟨p,hp,Zv⟩:=N0 j u hj
   constructor
   ·intro EX
    refine Nat.lt_of_not_le fun hle=> ?_
    rcases Nat.lt_or_eq_of_le hle with qE|heq
    ·exact(QS j u i us[i] hj hu qE ((EW j p hp).2 ⟨qE,EX⟩)).2 k hk hd
    ·subst heq;exact hSi EX
   ·intro sX
    by_cases EX:listed.getD j false=true
    ·exact EX
    ·exact absurd hk ((QS i us[i] j u hu hj sX ((EW j p hp).1 ⟨sX,EX⟩)).1 k hd).1
  have aet:=hPt.2 σ hT hH
  have hIs:kH us σ0 (fun j=>j=i∨listed.getD j false=true) (us[i].app σ):=by
   refine HO.step hu fun j u hj EX nR=> ?_
   obtain⟨p,hp,Zv⟩:=N0 j u hj
   have xw:=(EW j p hp).2 ⟨nR,EX⟩
   obtain⟨h1,h2⟩:=HY j p i o hp D6 nR xw
   obtain⟨h3,h4⟩:=QS j u i us[i] hj hu nR xw
   refine⟨fun t ht=> ?_,fun k hk=>(h3 k hk).2⟩
   rw[Zv]
   exact(h1 t (by rw[←hPt.1];exact ht)).1
  have ua: ∀j,(listed.setIfInBounds i true).getD j false=true↔(j=i∨listed.getD j false=true):=by
   intro j
   by_cases sX:j=i
   ·subst sX
    constructor
    ·intro _;exact .inl rfl
    ·intro _;simp[AK]
   ·rw[getD_set_ne false (Ne.symm sX)]
    exact⟨.inr,fun h=>h.resolve_left sX⟩
  classical
  let K':St→List Nat→List Nat→Option α:=fun σ' _ _=>if σ'=us[i].app σ then some x0 else none
  have hK:oB E ops.toList o σ K'=some x0:=by rw[aet K'];simp[K']
  have:=wG (Q:=Q) (next:=wpAny P .any ops Q fuel (listed.setIfInBounds i true)) hE hI hK (fun σ' a' w' rd wr hσ' sF=>by
   have ajV:σ'=us[i].app σ:=by
    by_cases h:σ'=us[i].app σ
    ·exact h
    ·simp[K',h]at hσ'
   subst ajV
   refine ih _ a' w' ?_ ⟨by simpa using hs,fun j p hp EX e he hb=> ?_,_,hIs.congr (fun j=>(ua j).symm),sF⟩
   ·have hlen:((List.range ops.size).filter fun j=> !((listed.setIfInBounds i true).getD j false)).length<((List.range ops.size).filter fun j=> !(listed.getD j false)).length:=by
     have Ll:((List.range ops.size).filter fun j=> !((listed.setIfInBounds i true).getD j false))=((List.range ops.size).filter fun j=> !(listed.getD j false)).filter fun j=> !(Nat.beq j i):=by
      rw[List.filter_filter]
      apply List.filter_congr
      intro j _
      by_cases sX:j=i
      ·subst sX
       have h1:=(ua j).2 (.inl rfl)
       rw[h1];simp
      ·have h1:Nat.beq j i=false:=by rw[←Bool.not_eq_true,Nat.beq_eq];exact sX
       rw[h1,getD_set_ne false (Ne.symm sX)];simp
     rw[Ll]
     refine List.length_filter_lt_length_iff_exists.2 ⟨i,?_,by simp⟩
     rw[List.mem_filter];exact⟨List.mem_range.2 his,by rw[h0];rfl⟩
    omega
   ·rcases(ua j).1 EX with rfl|EX
    ·rw[D6]at hp;cases hp
     exact(ua _).2 (.inr (EV e he hb))
    ·exact(ua _).2 (.inr (D3 j p hp EX e he hb)))
  unfold wpOp
  rw[ho]
  simp only
  split
  ·rename_i hw;rw[if_pos hw]at this;exact .inl this
  ·rename_i hw;rw[if_neg hw]at this;exact this
theorem AZ(hE:nW P E){id:Nat}{ops:Array Oper}{draw:Bool}(hI:Inv c E σ a w){K:St→Option α}(h:xW E ops draw σ K=some r)
  (hn: ∀σ' a' w',K σ'=some r→Inv c E σ' a' w'→Q .normal a' w'):(Code.region id ops draw).wp P Q a w:=by
 cases draw
 ·refine wp_region_list (yS hE ops.toList 0 σ [] a w _ hI h fun σ' XN a' w' h' sF=> ?_)
  exact hn σ' a' w' (bB h').2 sF
 ·unfold xW at h
  obtain⟨us,hl,hpt,lg,hK,_,aeu⟩:=J8 _ _ _ _ _ h
  obtain⟨hok,hK⟩:=bB hK
  simp only[Bool.not_true,Bool.false_or,Bool.and_eq_true]at hok
  obtain⟨HY,QS⟩:=hok
  unfold Nn at HY
  simp only[Bool.and_eq_true,List.all_eq_true]at HY
  obtain⟨ajW,ajX⟩:=HY
  have hz: ∀j o,ops.toList[j]? =some o→(o,j)∈ops.toList.zipIdx:=fun j o hj=>List.mem_zipIdx_iff_getElem?.2 hj
  refine wp_region_any hE.mixed (CV (Q:=Q) (σ0:=σ) hE r hl hpt rfl (fun j o hj e he hbe=> ?_) (fun j o i p hj hi nR hb=> ?_) (fun j u i v hj hi nR hb=> ?_) (fun a' w' sF=>hn _ a' w' hK sF) ops.size (Array.replicate ops.size false) a _ ?_ ?_)
  ·have:=ajW (o,j) (hz j o hj) e (by simpa using he)
   rw[hbe]at this
   simpa [Nat.blt_eq]using this
  ·have:=ajX (o,j) (hz j o hj) (p,i) (hz i p hi)
   simp only[hb,Bool.or_false,Bool.or_eq_true,Bool.not_eq_true',Bool.or_eq_false_iff]at this
   have AI: ¬Nat.ble j i=true:=by rw[Nat.ble_eq];omega
   have this:=this.resolve_left AI
   refine⟨fun d hd=>⟨fun RD=> ?_,fun RD=> ?_⟩,fun d hd RD=> ?_⟩
   ·exact iQ this.1 (x:=d) (by simp[hd]) (by simp[RD])
   ·exact iQ this.1 (x:=d) (by simp[hd]) (by simp[RD])
   ·exact iQ this.2 (x:=d) (by simp[hd]) RD
  ·unfold XE at QS
   simp only[List.all_eq_true]at QS
   have XO:=aeu j u hj
   have iF:=aeu i v hi
   rw[Nat.zero_add]at XO iF
   have:=QS _ XO _ iF
   simp only[hb,Bool.or_false,Bool.or_eq_true,Bool.not_eq_true',Bool.or_eq_false_iff]at this
   have AI: ¬Nat.ble j i=true:=by rw[Nat.ble_eq];omega
   have this:=this.resolve_left AI
   refine⟨fun k hk=>⟨fun AO=> ?_,fun AO=> ?_⟩,fun k hk AO=> ?_⟩
   ·exact iQ this.1 (x:=k) hk (List.mem_append_left _ AO)
   ·exact iQ this.1 (x:=k) hk (List.mem_append_right _ AO)
   ·exact iQ this.2 (x:=k) hk AO
  ·refine Nat.le_trans (List.length_filter_le _ _) ?_
   rw[List.length_range];exact Nat.le_refl _
  ·have hf: ∀j,(Array.replicate ops.size false).getD j false=false:=by
    intro j
    rw[Array.getD_eq_getD_getElem?,Array.getElem?_replicate]
    split<;>rfl
   obtain⟨⟨M,ν,hc⟩,hs,hd,ss⟩:=hI
   refine⟨by simp,fun j o _ hS=>(by rw[hf]at hS;cases hS),σ,(kH.start us σ).congr (fun j=>(by rw[hf];simp)),⟨M,ν,?_⟩,hs,hd,ss⟩
   exact hc.tr (Tr.drew hc.mem)
end VM
end
