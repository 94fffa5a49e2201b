/- A part of the proof of AwardDrawn of layer 25: a machine that reads a function of the program as an equation between values. -/
import Derived.Test.YtocmlaipoebfeaaGreatVm4
set_option linter.all false
section
namespace VM
open Go
variable{α:Type}{r:α}
theorem cE{υ τ:Ty}{y:υ.den}{k:τ.den→Option α}(h:bX υ τ y k=some r): ∃z,k z=some r∧ ∀k':τ.den→Option α,bX υ τ y k'=k' z:=by
 obtain⟨e,h⟩:=a7 h
 subst e
 exact⟨y,h,fun k'=>by simp[bX]⟩
theorem fU{υ τ:Ty}{k:Option α}(h:iT υ τ k=some r):k=some r∧ ∀k':Option α,iT υ τ k'=k':=by
 obtain⟨e,h1⟩:=dF h
 clear h
 subst e
 exact⟨h1,fun k'=>by simp[iT]⟩
theorem cT{b:Bool}{K:Option α}(h:cond b K none=some r):K=some r∧ ∀K':Option α,cond b K' none=K':=by
 obtain⟨rfl,h⟩:=bA h
 exact⟨h,fun _=>rfl⟩
theorem oH{b:Bool}{K:Option α}(h:cond b none K=some r):K=some r∧ ∀K':Option α,cond b none K'=K':=by
 obtain⟨rfl,h⟩:=iy h
 exact⟨h,fun _=>rfl⟩
theorem ri: ∀{τ:Ty} {x:τ.den} {n:Nat} {k:(υ:Ty)→υ.den→Option α},rJ τ x n k=some r→ ∃υ y,k υ y=some r∧ ∀k':(υ:Ty)→υ.den→Option α,rJ τ x n k'=k' υ y
 | .pair a b,x,0,k,h=>⟨a,x.1,h,fun _=>rfl⟩
 | .pair a b,x,n+1,k,h=>by
  obtain⟨υ,y,h1,h2⟩:=ri (τ:=b) (x:=x.2) (n:=n) (k:=k) h
  exact⟨υ,y,h1,fun k'=>h2 k'⟩
 | .int _,_,_,_,h| .bool,_,_,_,h| .str,_,_,_,h| .slice _,_,_,_,h| .unit,_,_,_,h| .arr _ _,_,_,_,h=>by simp[rJ]at h
theorem sE: ∀{τ:Ty} {x:τ.den} {n:Nat} {m:(υ:Ty)→υ.den→(υ.den→Option α)→Option α} {k:τ.den→Option α},
  (∀υ y (k:υ.den→Option α),m υ y k=some r→ ∃z,k z=some r∧ ∀k':υ.den→Option α,m υ y k'=k' z)→iS τ x n m k=some r→ ∃z,k z=some r∧ ∀k':τ.den→Option α,iS τ x n m k'=k' z
 | .pair a b,x,0,m,k,hm,h=>by
  obtain⟨z,h1,h2⟩:=hm a x.1 _ h
  exact⟨(z,x.2),h1,fun k'=>h2 _⟩
 | .pair a b,x,n+1,m,k,hm,h=>by
  obtain⟨z,h1,h2⟩:=sE (τ:=b) (x:=x.2) (n:=n) (m:=m) (k:=fun z=>k (x.1,z)) hm h
  exact⟨(x.1,z),h1,fun k'=>h2 (fun z=>k' (x.1,z))⟩
 | .int _,_,_,_,_,_,h| .bool,_,_,_,_,_,h| .str,_,_,_,_,_,h| .slice _,_,_,_,_,_,h| .unit,_,_,_,_,_,h| .arr _ _,_,_,_,_,_,h=>by simp[iS]at h
theorem ey: ∀{p:List Step} {τ:Ty} {x:τ.den} {k:(υ:Ty)→υ.den→Option α},tt p τ x k=some r→ ∃υ y,k υ y=some r∧ ∀k':(υ:Ty)→υ.den→Option α,tt p τ x k'=k' υ y
 |[],τ,x,k,h=>⟨τ,x,h,fun _=>rfl⟩
 | .gk n::p,τ,x,k,h=>by
  obtain⟨υ,y,h1,h2⟩:=ri (h:rJ τ x n _=some r)
  obtain⟨υ',y',h3,h4⟩:=ey h1
  exact⟨υ',y',h3,fun k'=>(h2 _).trans (h4 k')⟩
 | .idx i::p,τ,x,k,h=>by
  cases τ with
  |arr n e=>
   obtain⟨υ',y',h3,h4⟩:=ey (p:=p) (τ:=e) (x:=List.getD x i e.zero) (k:=k) h
   exact⟨υ',y',h3,fun k'=>h4 k'⟩
  |_=>simp[tt,Xm]at h
theorem jZ{υ:Ty}{y:υ.den}: ∀{p:List Step} {τ:Ty} {x:τ.den} {k:τ.den→Option α},p6 υ y p τ x k=some r→ ∃z,k z=some r∧ ∀k':τ.den→Option α,p6 υ y p τ x k'=k' z
 |[],τ,x,k,h=>cE h
 | .gk n::p,τ,x,k,h=>sE (fun _ _ _ h=>jZ h) h
 | .idx i::p,τ,x,k,h=>by
  cases τ with
  |arr n e=>
   obtain⟨z,h1,h2⟩:=jZ (p:=p) (τ:=e) (x:=List.getD x i e.zero) (k:=fun z=>k (List.set x i z)) h
   exact⟨_,h1,fun k'=>h2 (fun z=>k' (List.set x i z))⟩
  |_=>simp[p6,xr]at h
theorem nM{a:aX}{k:IntKind→Int→Option α}(h:qi a k=some r): ∃i n,k i n=some r∧ ∀k':IntKind→Int→Option α,qi a k'=k' i n:=by
 obtain⟨i,n,rfl,h⟩:=iW h
 exact⟨i,n,h,fun _=>rfl⟩
theorem Jc{a:aX}{k:(τ:Ty)→τ.den→Option α}(h:Dm a k=some r): ∃τ x,k τ x=some r∧ ∀k':(τ:Ty)→τ.den→Option α,Dm a k'=k' τ x:=by
 unfold Dm at h
 split at h
 ·exact⟨_,_,h,fun _=>rfl⟩
 ·cases h
theorem o7{a:Option aX}{d:Int}{k:Int→Option α}(h:ss a d k=some r): ∃n,k n=some r∧ ∀k':Int→Option α,ss a d k'=k' n:=by
 cases a with
 |none=>exact⟨d,h,fun _=>rfl⟩
 |some a=>
  obtain⟨i,n,h1,h2⟩:=nM (h:qi a (fun _ x=>k x)=some r)
  exact⟨n,h1,fun k'=>h2 (fun _ x=>k' x)⟩
abbrev Ag(rd:List Nat)(H H':Nat→Option aQ):Prop:= ∀i∈rd,H' i=H i
theorem j1{fz:Bool}{a:aX}{H:Nat→Option aQ}{τ:Ty}{k:τ.den→List Nat→fg→Option α}(h:hQ fz a H τ k=some r):
  ∃y rd ups,k y rd ups=some r∧ ∀H',Ag rd H H'→ ∀k':τ.den→List Nat→fg→Option α,hQ fz a H' τ k'=k' y rd ups:=by
 cases a with
 |val υ x=>
  simp only[hQ]at h
  obtain⟨z,h1,h2⟩:=cE h
  refine⟨z,[],[],h1,fun H' _ k'=> ?_⟩
  simp only[hQ]
  exact h2 (fun y=>k' y [] [])
 |BH υ x n=>
  simp only[hQ]at h
  obtain⟨z,h1,h2⟩:=cE h
  refine⟨z,[],[],h1,fun H' _ k'=> ?_⟩
  simp only[hQ]
  exact h2 (fun y=>k' y [] [])
 |emp=>
  cases τ with
  |slice e=>exact⟨[],[],[],h,fun _ _ _=>rfl⟩
  |_=>cases h
 |ref id=>
  have h:(match H id with
   |some (.own e l)=>bX (.slice e) τ l fun y=>k y [id] (cond fz [(id,some (.jW e l))] [])
   |some (.jW e l)=>bX (.slice e) τ l fun y=>k y [id] []
   |_=>none)=some r:=h
  cases hH:H id with
  |none=>rw[hH]at h;cases h
  |some e=>
   rw[hH]at h
   cases e with
   |own e l=>
    obtain⟨z,h1,h2⟩:=cE (h:bX (.slice e) τ l _=some r)
    refine⟨z,_,_,h1,fun H' hA k'=> ?_⟩
    have:H' id=some (.own e l):=by rw[hA id (by simp),hH]
    show(match H' id with
     |some (.own e l)=>bX (.slice e) τ l fun y=>k' y [id] (cond fz [(id,some (.jW e l))] [])
     |some (.jW e l)=>bX (.slice e) τ l fun y=>k' y [id] []
     |_=>none)=_
    rw[this];exact h2 _
   |jW e l=>
    obtain⟨z,h1,h2⟩:=cE (h:bX (.slice e) τ l _=some r)
    refine⟨z,_,_,h1,fun H' hA k'=> ?_⟩
    have:H' id=some (.jW e l):=by rw[hA id (by simp),hH]
    show(match H' id with
     |some (.own e l)=>bX (.slice e) τ l fun y=>k' y [id] (cond fz [(id,some (.jW e l))] [])
     |some (.jW e l)=>bX (.slice e) τ l fun y=>k' y [id] []
     |_=>none)=_
    rw[this];exact h2 _
   |obj _ _=>cases h
   |dN _ _ _ _=>cases h
   |gone=>cases h
 |any|Mn|fc _ _|mq _ _|tup _|Dj _ _=>cases h
theorem vd{id:Nat}{p:List Step}{H:Nat→Option aQ}{k:Ty→Option α}(h:iU id p H k=some r): ∃υ,k υ=some r∧ ∀H',H' id=H id→ ∀k':Ty→Option α,iU id p H' k'=k' υ:=by
 unfold iU at h
 split at h
 ·rename_i τ x aR
  obtain⟨υ,y,h1,h2⟩:=ey h
  exact⟨υ,h1,fun H' hA k'=>by unfold iU;rw[hA,aR];exact h2 _⟩
 ·rename_i τ x _ _ aR
  obtain⟨υ,y,h1,h2⟩:=ey h
  exact⟨υ,h1,fun H' hA k'=>by unfold iU;rw[hA,aR];exact h2 _⟩
 ·rename_i e l aR
  split at h
  ·obtain⟨υ,y,h1,h2⟩:=ey h
   exact⟨υ,h1,fun H' hA k'=>by unfold iU;rw[hA,aR];exact h2 _⟩
  ·cases h
 ·rename_i e l aR
  split at h
  ·obtain⟨υ,y,h1,h2⟩:=ey h
   exact⟨υ,h1,fun H' hA k'=>by unfold iU;rw[hA,aR];exact h2 _⟩
  ·cases h
 ·cases h
theorem rj{H:Nat→Option aQ}{id:Nat}{e:aQ}{K:Option α}(h:mu H id e K=some r):K=some r∧ ∀H',H' id=H id→ ∀(e':aQ) (K':Option α),mu H' id e' K'=K':=by
 obtain⟨h1,h2⟩:=gR h
 exact⟨h2,fun H' hA e' K'=>by unfold mu;rw[hA,h1]⟩
theorem Kv{b:BinOp}{k:IntKind}{x y:Int}{K:aX→Option α}(h:oW b k x y K=some r): ∃v,K v=some r∧ ∀K':aX→Option α,oW b k x y K'=K' v:=by
 cases b<;>simp only[oW]at h ⊢ <;>first
  |exact⟨_,h,fun _=>rfl⟩
  |(obtain⟨h1,h2⟩:=oH h;exact⟨_,h1,fun _=>h2 _⟩)
  |cases h
theorem XW{b:BinOp}{k:IntKind}{x y:Int}{K:aX→Option α}(h:P4 b k x y K=some r): ∃v,K v=some r∧ ∀K':aX→Option α,P4 b k x y K'=K' v:=by
 cases b<;>simp only[P4]at h ⊢ <;>first
  |(obtain⟨h1,h2⟩:=oH h;exact⟨_,h1,fun _=>h2 _⟩)
  |cases h
theorem MP{t:Option Ty}{op:BinOp}{τ:Ty}{x:τ.den}{υ:Ty}{y:υ.den}{K:aX→Option α}(h:xP t op τ x υ y K=some r): ∃v,K v=some r∧ ∀K':aX→Option α,xP t op τ x υ y K'=K' v:=by
 unfold xP at h ⊢
 split at h
 ·rename_i k x k' y
  cases hs:P5 op
  ·rw[hs]at h
   have h:(if k=k' then oW op k x y K else none)=some r:=h
   by_cases hk:k=k'
   ·rw[if_pos hk]at h
    obtain⟨v,h1,h2⟩:=Kv h
    exact⟨v,h1,fun K'=>by simp only[cond_false,if_pos hk];exact h2 K'⟩
   ·rw[if_neg hk]at h;cases h
  ·rw[hs]at h
   obtain⟨v,h1,h2⟩:=XW (h:P4 op k x y K=some r)
   exact⟨v,h1,fun K'=>by simp only[cond_true];exact h2 K'⟩
 ·split at h
  ·cases h
  ·obtain⟨h1,h2⟩:=fU h
   obtain⟨h3,h4⟩:=cT h1
   split at h3
   ·obtain⟨z,h5,h6⟩:=cE h3
    exact⟨_,h5,fun K'=>by rw[h2,h4];exact h6 _⟩
   ·obtain⟨z,h5,h6⟩:=cE h3
    exact⟨_,h5,fun K'=>by rw[h2,h4];exact h6 _⟩
   ·cases h3
theorem Qv{u:UnOp}{a:aX}{K:aX→Option α}(h:J8 u a K=some r): ∃v,K v=some r∧ ∀K':aX→Option α,J8 u a K'=K' v:=by
 unfold J8 at h
 split at h<;>first
  |exact⟨_,h,fun _=>rfl⟩
  |cases h
theorem Hn{up:Bool}: ∀{xs:List aX} {a:aX} {K:aX→Option α},PF up a xs K=some r→ ∃v,K v=some r∧ ∀K':aX→Option α,PF up a xs K'=K' v
 |[],a,K,h=>⟨a,h,fun _=>rfl⟩
 |b::xs,a,K,h=>by
  unfold PF at h
  obtain⟨k,x,h1,h2⟩:=nM h
  obtain⟨k',y,h3,h4⟩:=nM h1
  by_cases hk:k=k'
  ·rw[if_pos hk]at h3
   obtain⟨v,h5,h6⟩:=Hn h3
   refine⟨v,h5,fun K'=> ?_⟩
   unfold PF
   rw[h2,h4,if_pos hk]
   exact h6 K'
  ·rw[if_neg hk]at h3;cases h3
theorem Qw{τ:Ty}{a:aX}{H:Nat→Option aQ}{K:fh α}(h:Dn τ a H K=some r): ∃v rd ups,K v rd ups=some r∧ ∀H',Ag rd H H'→ ∀K':fh α,Dn τ a H' K'=K' v rd ups:=by
 unfold Dn at h
 split at h
 ·exact⟨_,_,_,h,fun _ _ _=>rfl⟩
 ·exact⟨_,_,_,h,fun _ _ _=>rfl⟩
 ·exact⟨_,_,_,h,fun _ _ _=>rfl⟩
 ·exact⟨_,_,_,h,fun _ _ _=>rfl⟩
 ·split at h
  ·rename_i aR
   exact⟨_,_,_,h,fun H' hA K'=>by unfold Dn;simp only;rw[hA _ (by simp),aR]⟩
  ·rename_i aR
   exact⟨_,_,_,h,fun H' hA K'=>by unfold Dn;simp only;rw[hA _ (by simp),aR]⟩
  ·cases h
 ·cases h
theorem Qx{id:Nat}{e:Ty}{a b:aX}{H:Nat→Option aQ}{K:fh α}(h:Dp id e a b H K=some r): ∃v rd ups,K v rd ups=some r∧id∈rd∧ ∀H',Ag rd H H'→ ∀K':fh α,Dp id e a b H' K'=K' v rd ups:=by
 unfold Dp at h
 obtain⟨ys,rd,ups,h1,h2⟩:=j1 h
 split at h1
 ·obtain⟨h3,h4⟩:=cT h1
  refine⟨_,_,_,h3,by simp,fun H' hA K'=> ?_⟩
  unfold Dp
  rw[h2 H' (fun i hi=>hA i (List.mem_cons_of_mem _ hi))]
  exact h4 _
 ·rename_i j
  split at h1
  ·rename_i e' l hj
   obtain⟨z,h3,h4⟩:=cE h1
   obtain⟨h5,h6⟩:=cT h3
   refine⟨_,_,_,h5,by simp,fun H' hA K'=> ?_⟩
   unfold Dp
   rw[h2 H' (fun i hi=>hA i (List.mem_cons_of_mem _ (List.mem_cons_of_mem _ hi)))]
   simp only
   rw[hA j (by simp),hj]
   simp only
   rw[h4]
   exact h6 _
  ·cases h1
 ·cases h1
theorem yj{e:Ty}{n:Nat}{H:Nat→Option aQ}: ∀{ps:List (Nat×aX)} {l:List e.den} {AI:List Nat} {yk:fg} {K:List e.den→List Nat→fg→Option α},qk e H n ps l AI yk K=some r→
  ∃l' rd ups,K l' rd ups=some r∧(∀i∈AI,i∈rd)∧ ∀H',Ag rd H H'→ ∀K':List e.den→List Nat→fg→Option α,qk e H' n ps l AI yk K'=K' l' rd ups
 |[],l,AI,yk,K,h=>⟨l,AI,yk,h,fun _ h=>h,fun _ _ _=>rfl⟩
 |p::ps,l,AI,yk,K,h=>by
  unfold qk at h
  obtain⟨h1,h2⟩:=cT h
  obtain⟨y,XD,Hi,h3,h4⟩:=j1 h1
  obtain⟨l',rd,ups,h5,h6,h7⟩:=yj h3
  refine⟨l',rd,ups,h5,fun i hi=>h6 i (List.mem_append_right _ hi),fun H' hA K'=> ?_⟩
  unfold qk
  rw[h2,h4 H' (fun i hi=>hA i (h6 i (List.mem_append_left _ hi)))]
  exact h7 H' hA K'
theorem AJ{τ:Ty}{H:Nat→Option aQ}: ∀{ps:List (Nat×aX)} {x:τ.den} {AI:List Nat} {yk:fg} {K:τ.den→List Nat→fg→Option α},oX τ H ps x AI yk K=some r→
  ∃x' rd ups,K x' rd ups=some r∧(∀i∈AI,i∈rd)∧ ∀H',Ag rd H H'→ ∀K':τ.den→List Nat→fg→Option α,oX τ H' ps x AI yk K'=K' x' rd ups
 |[],x,AI,yk,K,h=>⟨x,AI,yk,h,fun _ h=>h,fun _ _ _=>rfl⟩
 |p::ps,x,AI,yk,K,h=>by
  unfold oX at h
  obtain⟨υ,z,h1,h2⟩:=ri h
  obtain⟨y,XD,Hi,h3,h4⟩:=j1 h1
  obtain⟨z',h5,h6⟩:=sE (m:=fun υ' _ k'=>bX υ υ' y k') (fun υ' y' k hk=>cE hk) h3
  obtain⟨x',rd,ups,h7,h8,h9⟩:=AJ h5
  refine⟨x',rd,ups,h7,fun i hi=>h8 i (List.mem_append_right _ hi),fun H' hA K'=> ?_⟩
  unfold oX
  rw[h2,h4 H' (fun i hi=>hA i (h8 i (List.mem_append_left _ hi))),h6]
  exact h9 H' hA K'
theorem MQ{H:Nat→Option aQ}{v:aX}{a:Ty}{k:a.den→List Nat→fg→Option α}(h:vG v H a k=some r):
  ∃x rd ups,k x rd ups=some r∧ ∀H',Ag rd H H'→ ∀k':a.den→List Nat→fg→Option α,vG v H' a k'=k' x rd ups:=by
 unfold vG at h
 split at h
 ·split at h
  ·obtain⟨z,h1,h2⟩:=cE h
   refine⟨_,_,_,h1,fun H' _ k'=> ?_⟩
   unfold vG
   simp only
   rw[h2]
  ·cases h
 ·rename_i k0 qf
  obtain⟨y,rd,ups,h1,h2⟩:=j1 h
  refine⟨y,rd,ups,h1,fun H' hA k'=> ?_⟩
  unfold vG
  split
  ·exact(qf _ _ rfl HEq.rfl).elim
  ·exact h2 H' hA _
theorem DU{H:Nat→Option aQ}: ∀{τ:Ty} {vs:List aX} {k:τ.den→List Nat→fg→Option α},mv H τ vs k=some r→
  ∃x rd ups,k x rd ups=some r∧ ∀H',Ag rd H H'→ ∀k':τ.den→List Nat→fg→Option α,mv H' τ vs k'=k' x rd ups
 | .unit,[],k,h=>⟨(),[],[],h,fun _ _ _=>rfl⟩
 | .pair a b,v::vs,k,h=>by
  unfold mv at h
  obtain⟨y,rd,ups,h1,h2⟩:=MQ h
  obtain⟨ys,uX,jB,h3,h4⟩:=DU h1
  refine⟨(y,ys),_,_,h3,fun H' hA k'=> ?_⟩
  unfold mv
  rw[h2 H' (fun i hi=>hA i (List.mem_append_right _ hi)),h4 H' (fun i hi=>hA i (List.mem_append_left _ hi))]
 | .unit,_::_,_,h=>by simp[mv]at h
 | .pair _ _,[],_,h=>by simp[mv]at h
 | .int _,_,_,h| .bool,_,_,h| .str,_,_,h| .slice _,_,_,h| .arr _ _,_,_,h=>by simp[mv]at h
theorem yl: ∀{lF:List aX} {H:Nat→Option aQ} {K:List aX→List Nat→fg→Option α},ql H lF K=some r→
  ∃cs rd ups,K cs rd ups=some r∧ ∀H',Ag rd H H'→ ∀K':List aX→List Nat→fg→Option α,ql H' lF K'=K' cs rd ups
 |[],H,K,h=>⟨[],[],[],h,fun _ _ _=>rfl⟩
 |a::lF,H,K,h=>by
  unfold ql at h
  split at h
  ·rename_i id
   split at h
   ·rename_i τ x aR
    obtain⟨cs,rd,ups,h1,h2⟩:=yl h
    refine⟨_,_,_,h1,fun H' hA K'=> ?_⟩
    unfold ql
    simp only
    rw[hA id (by simp),aR]
    simp only
    rw[h2 (bn H' id (some .gone)) (fun i hi=>by
     by_cases bq:i=id
     ·subst bq;rw[ak,ak]
     ·rw[al _ _ bq,al _ _ bq];exact hA i (List.mem_cons_of_mem _ hi))]
   ·cases h
  ·rename_i qf
   obtain⟨cs,rd,ups,h1,h2⟩:=yl h
   refine⟨_,_,_,h1,fun H' hA K'=> ?_⟩
   unfold ql
   split
   ·exact absurd rfl (qf _)
   ·rw[h2 H' hA]
end VM
end
section
namespace VM
open Go
variable{α:Type}{r:α}
theorem DV{m:AM}{a:aX}{H:Nat→Option aQ}{k:m.den→(Nat→Option aQ)→List Nat→fg→fg→List (Nat×Ty)→Option α}(h:ke m a H k=some r):
  ∃y rd uo uf io,∃g:(Nat→Option aQ)→(Nat→Option aQ),k y (g H) rd uo uf io=some r∧(∀H' i,H' i=H i→g H' i=g H i)∧
   ∀H',Ag rd H H'→ ∀k':m.den→(Nat→Option aQ)→List Nat→fg→fg→List (Nat×Ty)→Option α,ke m a H' k'=k' y (g H') rd uo uf io:=by
 have Kw: ∀(d:Nat) (v:Option aQ) (H':Nat→Option aQ) (i:Nat),H' i=H i→bn H' d v i=bn H d v i:=by
  intro d v H' i hi
  by_cases aR:i=d
  ·subst aR;rw[ak,ak]
  ·rw[al _ _ aR,al _ _ aR,hi]
 unfold ke at h
 split at h
 ·rename_i τ k
  obtain⟨y,rd,ups,h1,h2⟩:=j1 h
  cases ups with
  |nil=>
   refine⟨y,rd,[],[],[],fun H=>H,h1,fun _ _ h=>h,fun H' hA k'=> ?_⟩
   unfold ke;simp only;rw[h2 H' hA]
  |cons u rest=>
   refine⟨y,rd,[],u::rest,[],fun H=>bn H u.1 u.2,h1,fun H' i hi=>Kw _ _ H' i hi,fun H' hA k'=> ?_⟩
   unfold ke;simp only;rw[h2 H' hA]
 ·rename_i e k
  split at h
  ·exact⟨[],[],[],[],[],fun H=>H,h,fun _ _ h=>h,fun _ _ _=>rfl⟩
  ·rename_i id
   split at h
   ·rename_i e' l aR
    obtain⟨z,h1,h2⟩:=cE h
    refine⟨z,[id],_,_,_,fun H=>bn H id (some .gone),h1,fun H' i hi=>Kw _ _ H' i hi,fun H' hA k'=> ?_⟩
    unfold ke;simp only;rw[hA id (by simp),aR];simp only;rw[h2]
   ·cases h
  ·cases h
 ·rename_i τ k
  split at h
  ·rename_i id
   split at h
   ·rename_i υ x aR
    obtain⟨z,h1,h2⟩:=cE h
    refine⟨z,[id],_,_,_,fun H=>bn H id (some .gone),h1,fun H' i hi=>Kw _ _ H' i hi,fun H' hA k'=> ?_⟩
    unfold ke;simp only;rw[hA id (by simp),aR];simp only;rw[h2]
   ·cases h
  ·cases h
 ·rename_i f τ k
  split at h
  ·rename_i f' cs
   obtain⟨h1,h2⟩:=cT h
   obtain⟨x,rd,ups,h3,h4⟩:=DU h1
   cases ups with
   |nil=>
    refine⟨x,rd,[],[],[],fun H=>H,h3,fun _ _ h=>h,fun H' hA k'=> ?_⟩
    unfold ke;simp only;rw[h2,h4 H' hA]
   |cons _ _=>cases h3
  ·cases h
 ·cases h
 ·rename_i τ k
  split at h
  ·obtain⟨z,h1,h2⟩:=cE h
   refine⟨z,[],[],[],[],fun H=>H,h1,fun _ _ h=>h,fun H' hA k'=> ?_⟩
   unfold ke;simp only;rw[h2]
  ·cases h
theorem DW: ∀{ms:List AM} {lF:List aX} {H:Nat→Option aQ} {AI:List Nat} {uo0 uf0:fg} {io0:List (Nat×Ty)} {K:HP ms→List Nat→fg→fg→List (Nat×Ty)→Option α},ow ms lF H AI uo0 uf0 io0 K=some r→
  ∃x rd uo uf io,K x rd uo uf io=some r∧(∀i∈AI,i∈rd)∧ ∀H',Ag rd H H'→ ∀K':HP ms→List Nat→fg→fg→List (Nat×Ty)→Option α,ow ms lF H' AI uo0 uf0 io0 K'=K' x rd uo uf io
 |[],[],H,AI,uo0,uf0,io0,K,h=>⟨(),_,_,_,_,h,fun _ h=>h,fun _ _ _=>rfl⟩
 |[m],[a],H,AI,uo0,uf0,io0,K,h=>by
  obtain⟨y,rd,uo,uf,io,g,h1,h2,h3⟩:=DV (h:ke m a H _=some r)
  exact⟨y,_,_,_,_,h1,fun i hi=>List.mem_append_right _ hi,fun H' hA K'=>h3 H' (fun i hi=>hA i (List.mem_append_left _ hi)) _⟩
 |m::n::ms,a::lF,H,AI,uo0,uf0,io0,K,h=>by
  obtain⟨y,rd,uo,uf,io,g,h1,h2,h3⟩:=DV (h:ke m a H _=some r)
  obtain⟨ys,uX,C1,C2,zL,h4,h5,h6⟩:=DW (ms:=n::ms) h1
  refine⟨(y,ys),uX,C1,C2,zL,h4,fun i hi=>h5 i (List.mem_append_right _ hi),fun H' hA K'=> ?_⟩
  refine(h3 H' (fun i hi=>hA i (h5 i (List.mem_append_left _ hi))) _).trans ?_
  exact h6 (g H') (fun i hi=>h2 H' i (hA i hi)) _
 |[],_::_,_,_,_,_,_,_,h=>by simp[ow]at h
 |[_],[],_,_,_,_,_,_,h=>by simp[ow]at h
 |[_],_::_::_,_,_,_,_,_,_,h=>by simp[ow]at h
 |_::_::_,[],_,_,_,_,_,_,h=>by simp[ow]at h
theorem MR{id i:Nat}: ∀{n:Nat},i∈Dr id n↔id≤i∧i<id+n
 |0=>by simp[Dr]
 |n+1=>by simp only[Dr,List.mem_cons,MR];omega
theorem sa{H H':Nat→Option aQ}{id:Nat}: ∀{n:Nat},(∀i∈Dr id n,H' i=H i)→oY H' id n=oY H id n
 |0,_=>rfl
 |n+1,h=>by
  unfold oY
  rw[h (id+n) (by simp[Dr]),sa fun i hi=>h i (by simp[Dr,hi])]
theorem MS{E:Env}{f id:Nat}{lF:List aX}{H:Nat→Option aQ}{K:fh α}(h:vI E f lF id H K=some r): ∃v rd ups,K v rd ups=some r∧ ∀H',Ag rd H H'→ ∀K':fh α,vI E f lF id H' K'=K' v rd ups:=by
 unfold vI at h
 split at h
 ·cases h
 ·rename_i S hS
  obtain⟨x,rd,uo,uf,io,h1,_,h2⟩:=DW h
  obtain⟨y,hy,h3⟩:=Option.bind_eq_some_iff.1 h1
  obtain⟨h4,h5⟩:=bA h3
  refine⟨_,_,_,h5,fun H' hA K'=> ?_⟩
  unfold vI
  rw[hS]
  simp only
  rw[h2 H' (fun i hi=>hA i (List.mem_append_right _ (List.mem_append_right _ hi))),hy]
  simp only[Option.bind_some]
  rw[sa (fun i hi=>hA i (List.mem_append_left _ hi)),h4]
  rfl
theorem Kx{t:Ty}{z:Bool}{a:aX}{lo hi mx:Option aX}{H:Nat→Option aQ}{K:fh α}(h:mw t z a lo hi mx H K=some r): ∃v rd ups,K v rd ups=some r∧ ∀H',Ag rd H H'→ ∀K':fh α,mw t z a lo hi mx H' K'=K' v rd ups:=by
 unfold mw at h
 split at h
 ·obtain⟨h1,e1⟩:=cT h
  obtain⟨l,h2,e2⟩:=o7 h1
  obtain⟨m,h3,e3⟩:=o7 h2
  obtain⟨h4,e4⟩:=cT h3
  exact⟨_,_,_,h4,fun H' _ K'=>by unfold mw;simp only;rw[e1,e2,e3,e4]⟩
 ·cases z
  ·obtain⟨h1,e1⟩:=cT (h:cond mx.isNone _ none=some r)
   obtain⟨l,h2,e2⟩:=o7 h1
   obtain⟨m,h3,e3⟩:=o7 h2
   obtain⟨h4,e4⟩:=cT h3
   exact⟨_,_,_,h4,fun H' _ K'=>by unfold mw;simp only[cond_false];rw[e1,e2,e3,e4]⟩
  ·exact⟨_,_,_,h,fun H' _ K'=>by unfold mw;rfl⟩
 ·rename_i e gH
  obtain⟨y,rd,ups,h1,e1⟩:=j1 h
  cases z
  ·obtain⟨h2,e2⟩:=cT (h1:cond (mx.isNone||hi.isSome) _ none=some r)
   obtain⟨l,h3,e3⟩:=o7 h2
   obtain⟨m,h4,e4⟩:=o7 h3
   obtain⟨n,h5,e5⟩:=o7 h4
   obtain⟨h6,e6⟩:=cT h5
   refine⟨_,_,_,h6,fun H' hA K'=> ?_⟩
   unfold mw
   simp only
   rw[e1 H' hA]
   simp only[cond_false]
   rw[e2,e3,e4,e5,e6]
  ·refine⟨_,_,_,(h1:K .emp rd []=some r),fun H' hA K'=> ?_⟩
   unfold mw
   simp only
   rw[e1 H' hA]
   rfl
 ·cases h
theorem Ab{τ:Ty}{a i:aX}{H:Nat→Option aQ}{K:fh α}(h:dX τ a i H K=some r): ∃v rd ups,K v rd ups=some r∧ ∀H',Ag rd H H'→ ∀K':fh α,dX τ a i H' K'=K' v rd ups:=by
 unfold dX at h
 obtain⟨k,n,h,e0⟩:=nM h
 split at h
 ·split at h
  ·obtain⟨z,h1,e1⟩:=cE h
   obtain⟨h2,e2⟩:=cT h1
   exact⟨_,_,_,h2,fun H' _ K'=>by unfold dX;rw[e0];simp only;rw[e1,e2]⟩
  ·split at h
   ·rename_i aR
    obtain⟨h1,e1⟩:=fU h
    obtain⟨h2,e2⟩:=cT h1
    exact⟨_,_,_,h2,fun H' hA K'=>by unfold dX;rw[e0];simp only;rw[hA _ (by simp),aR];simp only;rw[e1,e2]⟩
   ·rename_i aR
    obtain⟨h1,e1⟩:=fU h
    obtain⟨h2,e2⟩:=cT h1
    exact⟨_,_,_,h2,fun H' hA K'=>by unfold dX;rw[e0];simp only;rw[hA _ (by simp),aR];simp only;rw[e1,e2]⟩
   ·cases h
  ·cases h
 ·split at h
  ·obtain⟨υ,h1,e1⟩:=vd h
   obtain⟨h2,e2⟩:=fU h1
   obtain⟨h3,e3⟩:=cT h2
   exact⟨_,_,_,h3,fun H' hA K'=>by unfold dX;rw[e0];simp only;rw[e1 H' (hA _ (by simp)),e2,e3]⟩
  ·obtain⟨z,h1,e1⟩:=cE h
   obtain⟨h2,e2⟩:=cT h1
   exact⟨_,_,_,h2,fun H' _ K'=>by unfold dX;rw[e0];simp only;rw[e1,e2]⟩
  ·cases h
 ·cases h
theorem Ky{τ:Ty}{a i:aX}{K:aX→Option α}(h:qm τ a i K=some r): ∃v,K v=some r∧ ∀K':aX→Option α,qm τ a i K'=K' v:=by
 unfold qm at h
 obtain⟨k,n,h,e0⟩:=nM h
 split at h
 ·obtain⟨z,h1,e1⟩:=cE h
  obtain⟨h2,e2⟩:=cT h1
  exact⟨_,h2,fun K'=>by unfold qm;rw[e0];simp only;rw[e1,e2]⟩
 ·obtain⟨h2,e2⟩:=cT h
  exact⟨_,h2,fun K'=>by unfold qm;rw[e0];simp only;rw[e2]⟩
 ·cases h
theorem MT{a:aX}{H:Nat→Option aQ}{K:(υ:Ty)→υ.den→List Nat→Option α}(h:gF a H K=some r): ∃υ y rd,K υ y rd=some r∧ ∀H',Ag rd H H'→ ∀K':(υ:Ty)→υ.den→List Nat→Option α,gF a H' K'=K' υ y rd:=by
 unfold gF at h
 split at h
 ·exact⟨_,_,_,h,fun _ _ _=>rfl⟩
 ·split at h
  ·rename_i aR
   obtain⟨υ,y,h1,e1⟩:=ey h
   exact⟨_,_,_,h1,fun H' hA K'=>by unfold gF;simp only;rw[hA _ (by simp),aR];simp only;rw[e1]⟩
  ·rename_i aR
   split at h
   ·obtain⟨υ,y,h1,e1⟩:=ey h
    exact⟨_,_,_,h1,fun H' hA K'=>by unfold gF;simp only;rw[hA _ (by simp),aR];simp only;rw[e1]⟩
   ·cases h
  ·rename_i aR
   split at h
   ·obtain⟨υ,y,h1,e1⟩:=ey h
    exact⟨_,_,_,h1,fun H' hA K'=>by unfold gF;simp only;rw[hA _ (by simp),aR];simp only;rw[e1]⟩
   ·cases h
  ·cases h
 ·cases h
theorem Kz{τ:Ty}{a v:aX}{H:Nat→Option aQ}{K:fh α}(h:ia τ a v H K=some r): ∃u rd ups,K u rd ups=some r∧ ∀H',Ag rd H H'→ ∀K':fh α,ia τ a v H' K'=K' u rd ups:=by
 unfold ia at h
 split at h
 ·obtain⟨y,rd,ups,h1,e1⟩:=j1 h
  split at h1
  ·rename_i aR
   obtain⟨z,h2,e2⟩:=jZ h1
   exact⟨_,_,_,h2,fun H' hA K'=>by
    unfold ia;simp only
    rw[e1 H' (fun i hi=>hA i (List.mem_cons_of_mem _ hi))]
    rw[hA _ (by simp),aR];simp only;rw[e2]⟩
  ·rename_i aR
   split at h1
   ·obtain⟨h2,e2⟩:=oH h1
    obtain⟨z,h3,e3⟩:=jZ h2
    exact⟨_,_,_,h3,fun H' hA K'=>by
     unfold ia;simp only
     rw[e1 H' (fun i hi=>hA i (List.mem_cons_of_mem _ hi))]
     rw[hA _ (by simp),aR];simp only;rw[e2,e3]⟩
   ·cases h1
  ·cases h1
 ·cases h
theorem Qy{j:Nat}{q:List Step}{τ:Ty}{x:τ.den}{H:Nat→Option aQ}{k:τ.den→fg→Option α}(h:wJ j q τ x H k=some r): ∃z ups,k z ups=some r∧ ∀H',H' j=H j→ ∀k':τ.den→fg→Option α,wJ j q τ x H' k'=k' z ups:=by
 unfold wJ at h
 split at h
 ·rename_i hj
  obtain⟨z,h1,e1⟩:=jZ h
  exact⟨_,_,h1,fun H' hA k'=>by unfold wJ;rw[hA,hj];simp only;rw[e1]⟩
 ·rename_i hj
  obtain⟨z,h1,e1⟩:=jZ h
  exact⟨_,_,h1,fun H' hA k'=>by unfold wJ;rw[hA,hj];simp only;rw[e1]⟩
 ·cases h
abbrev Pts(F:(Nat→Option aQ)→fh α→Option α)(H:Nat→Option aQ)(K:fh α)(r:α):Prop:=
 ∃v rd ups,K v rd ups=some r∧ ∀H',Ag rd H H'→ ∀K':fh α,F H' K'=K' v rd ups
theorem MU{τ:Ty}{a:aX}{H:Nat→Option aQ}{K:fh α}(h:(gF a H fun υ y rd=>bX υ τ y fun z=>K (.val τ z) rd [])=some r):
  Pts (fun H K=>gF a H fun υ y rd=>bX υ τ y fun z=>K (.val τ z) rd []) H K r:=by
 obtain⟨υ,y,rd,h1,e1⟩:=MT h
 obtain⟨z,h2,e2⟩:=cE h1
 exact⟨_,_,_,h2,fun H' hA K'=>by simp only;rw[e1 H' hA,e2]⟩
theorem acY{id:Nat}{p:List Step}{H:Nat→Option aQ}{K:(υ:Ty)→υ.den→List Nat→Option α}(h:gF (.fc id p) H K=some r): ∃υ y,K υ y [id]=some r:=by
 unfold gF at h
 simp only at h
 split at h
 ·obtain⟨υ,y,h1,_⟩:=ey h;exact⟨υ,y,h1⟩
 ·split at h
  ·obtain⟨υ,y,h1,_⟩:=ey h;exact⟨υ,y,h1⟩
  ·cases h
 ·split at h
  ·obtain⟨υ,y,h1,_⟩:=ey h;exact⟨υ,y,h1⟩
  ·cases h
 ·cases h
theorem MV{τ:Ty}{id:Nat}{p:List Step}{H:Nat→Option aQ}{K:fh α}(h:(gF (.fc id p) H fun υ y rd=>bX υ τ y fun z=>K (.val τ z) rd [])=some r):
  ∃z,K (.val τ z) [id] []=some r∧ ∀H',H' id=H id→ ∀K':fh α,(gF (.fc id p) H' fun υ y rd=>bX υ τ y fun z=>K' (.val τ z) rd [])=K' (.val τ z) [id] []:=by
 unfold gF at h
 simp only at h
 split at h
 ·rename_i aR
  obtain⟨υ,y,h1,e1⟩:=ey h
  obtain⟨z,h2,e2⟩:=cE h1
  exact⟨_,h2,fun H' hA K'=>by unfold gF;simp only;rw[hA,aR];simp only;rw[e1,e2]⟩
 ·rename_i aR
  split at h
  ·obtain⟨υ,y,h1,e1⟩:=ey h
   obtain⟨z,h2,e2⟩:=cE h1
   exact⟨_,h2,fun H' hA K'=>by unfold gF;simp only;rw[hA,aR];simp only;rw[e1,e2]⟩
  ·cases h
 ·rename_i aR
  split at h
  ·obtain⟨υ,y,h1,e1⟩:=ey h
   obtain⟨z,h2,e2⟩:=cE h1
   exact⟨_,h2,fun H' hA K'=>by unfold gF;simp only;rw[hA,aR];simp only;rw[e1,e2]⟩
  ·cases h
 ·cases h
theorem MW{τ:Ty}{a:aX}{H:Nat→Option aQ}{K:fh α}(h:pT τ a H K=some r):Pts (pT τ a) H K r:=by
 unfold pT at h
 simp only at h
 split at h
 ·rename_i id p
  split at h
  ·rename_i υ x q j aR
   cases hp:Di p q
   ·cases Dv:rI p q
    ·rw[hp,Dv]at h
     simp only[cond_false]at h
     obtain⟨υ',y,h1,e1⟩:=ey h
     obtain⟨z,h2,e2⟩:=cE h1
     exact⟨_,_,_,h2,fun H' hA K'=>by
      unfold pT;simp only;rw[hA id (by simp),aR];simp only
      rw[hp,Dv];simp only[cond_false];rw[e1,e2]⟩
    ·rw[hp,Dv]at h
     simp only[cond_false,cond_true]at h
     obtain⟨z,ups,h1,e1⟩:=Qy h
     obtain⟨υ',y,h2,e2⟩:=ey h1
     obtain⟨z',h3,e3⟩:=cE h2
     exact⟨_,_,_,h3,fun H' hA K'=>by
      unfold pT;simp only;rw[hA id (by simp),aR];simp only
      rw[hp,Dv];simp only[cond_false,cond_true];rw[e1 H' (hA j (by simp)),e2,e3]⟩
   ·rw[hp]at h
    simp only[cond_true]at h
    obtain⟨h1,e1⟩:=cT h
    exact⟨_,_,_,h1,fun H' hA K'=>by
     unfold pT;simp only;rw[hA id (by simp),aR];simp only
     rw[hp];simp only[cond_true];rw[e1]⟩
  ·rename_i qf
   obtain⟨z,h1,e1⟩:=MV h
   refine⟨_,_,_,h1,fun H' hA K'=> ?_⟩
   unfold pT;simp only;rw[hA id (by simp)]
   split
   ·rename_i aR;exact absurd aR (qf _ _ _ _)
   ·exact e1 H' (hA id (by simp)) K'
 ·rename_i qf
  obtain⟨v,rd,ups,h1,e1⟩:=MU h
  refine⟨v,rd,ups,h1,fun H' hA K'=> ?_⟩
  have:pT τ a H' K'=gF a H' fun υ y rd=>bX υ τ y fun z=>K' (.val τ z) rd []:=by
   unfold pT
   cases a<;>first|rfl|exact absurd rfl (qf _ _)
  rw[this]
  exact e1 H' hA K'
theorem DX{τ:Ty}{id k:Nat}{e:Ty}{q:List Step}{υ:Ty}{x:υ.den}{H:Nat→Option aQ}{K:fh α}(h:vJ τ id k e q υ x H K=some r):
  ∃v ups,K v [id,k] ups=some r∧ ∀H',H' k=H k→ ∀K':fh α,vJ τ id k e q υ x H' K'=K' v [id,k] ups:=by
 unfold vJ at h
 split at h
 ·rename_i aR
  obtain⟨h1,e1⟩:=fU h
  obtain⟨h2,e2⟩:=fU h1
  obtain⟨z,h3,e3⟩:=jZ h2
  exact⟨_,_,h3,fun H' hA K'=>by unfold vJ;rw[hA,aR];simp only;rw[e1,e2,e3]⟩
 ·cases h
theorem ve{τ:Ty}{id:Nat}{p:List Step}{v:aX}{H:Nat→Option aQ}{K:fh α}(h:ia τ (.fc id p) v H K=some r):
  ∃u rd ups,id∈rd∧K u rd ups=some r∧ ∀H',Ag rd H H'→ ∀K':fh α,ia τ (.fc id p) v H' K'=K' u rd ups:=by
 unfold ia at h
 simp only at h
 obtain⟨y,rd,ups,h1,e1⟩:=j1 h
 split at h1
 ·rename_i aR
  obtain⟨z,h2,e2⟩:=jZ h1
  exact⟨_,_,_,by simp,h2,fun H' hA K'=>by
   unfold ia;simp only
   rw[e1 H' (fun i hi=>hA i (List.mem_cons_of_mem _ hi))]
   rw[hA _ (by simp),aR];simp only;rw[e2]⟩
 ·rename_i aR
  split at h1
  ·obtain⟨h2,e2⟩:=oH h1
   obtain⟨z,h3,e3⟩:=jZ h2
   exact⟨_,_,_,by simp,h3,fun H' hA K'=>by
    unfold ia;simp only
    rw[e1 H' (fun i hi=>hA i (List.mem_cons_of_mem _ hi))]
    rw[hA _ (by simp),aR];simp only;rw[e2,e3]⟩
  ·cases h1
 ·cases h1
theorem vf{E:Env}{τ:Ty}{a v:aX}{H:Nat→Option aQ}{K:fh α}(h:fQ E τ a v H K=some r):
  ∃u rd ups,K u rd ups=some r∧ ∀H',Ag rd H H'→ ∀K':fh α,fQ E τ a v H' K'=K' u rd ups:=by
 have h0:=h
 unfold fQ at h
 simp only at h
 split at h
 ·rename_i id p
  split at h
  ·rename_i υ x aR
   split at h
   ·rename_i q e k oC
    cases hp:Di p q
    ·rw[hp]at h
     simp only[cond_false]at h
     obtain⟨u,rd,ups,hi,h1,e1⟩:=ve h
     refine⟨u,rd,ups,h1,fun H' hA K'=> ?_⟩
     unfold fQ;simp only;rw[hA id hi,aR];simp only;rw[oC];simp only;rw[hp];simp only[cond_false]
     exact e1 H' hA K'
    ·rw[hp]at h
     simp only[cond_true]at h
     obtain⟨u,ups,h1,e1⟩:=DX h
     refine⟨u,_,ups,h1,fun H' hA K'=> ?_⟩
     unfold fQ;simp only;rw[hA id (by simp),aR];simp only;rw[oC];simp only;rw[hp];simp only[cond_true]
     exact e1 H' (hA k (by simp)) K'
   ·rename_i qf
    obtain⟨u,rd,ups,hi,h1,e1⟩:=ve h
    refine⟨u,rd,ups,h1,fun H' hA K'=> ?_⟩
    unfold fQ;simp only;rw[hA id hi,aR];simp only
    exact e1 H' hA K'
  ·rename_i υ x q j aR
   have tD:(hQ true v H τ fun y rd ups=>p6 τ y p υ x fun z=>K .any (id::rd) (ups++[(id,some (cond (rI p q) (.obj υ z) (.dN υ z q j)))]))=some r→
     ∃u rd ups,id∈rd∧K u rd ups=some r∧ ∀H',Ag rd H H'→ ∀K':fh α,(hQ true v H' τ fun y rd ups=>p6 τ y p υ x fun z=>K' .any (id::rd) (ups++[(id,some (cond (rI p q) (.obj υ z) (.dN υ z q j)))]))=K' u rd ups:=by
    intro h
    obtain⟨y,rd,ups,h1,e1⟩:=j1 h
    obtain⟨z,h2,e2⟩:=jZ h1
    exact⟨_,_,_,by simp,h2,fun H' hA K'=>by rw[e1 H' (fun i hi=>hA i (List.mem_cons_of_mem _ hi)),e2]⟩
   split at h
   ·rename_i q' e k oC
    cases hp:(Di p q&&Di q q')
    ·rw[hp]at h
     simp only[cond_false]at h
     obtain⟨u,rd,ups,hi,h1,e1⟩:=tD h
     refine⟨u,rd,ups,h1,fun H' hA K'=> ?_⟩
     unfold fQ;simp only;rw[hA id hi,aR];simp only;rw[oC];simp only;rw[hp];simp only[cond_false]
     exact e1 H' hA K'
    ·rw[hp]at h
     simp only[cond_true]at h
     obtain⟨u,ups,h1,e1⟩:=DX h
     refine⟨u,_,ups,h1,fun H' hA K'=> ?_⟩
     unfold fQ;simp only;rw[hA id (by simp),aR];simp only;rw[oC];simp only;rw[hp];simp only[cond_true]
     exact e1 H' (hA k (by simp)) K'
   ·rename_i qf
    obtain⟨u,rd,ups,hi,h1,e1⟩:=tD h
    refine⟨u,rd,ups,h1,fun H' hA K'=> ?_⟩
    unfold fQ;simp only;rw[hA id hi,aR];simp only
    exact e1 H' hA K'
  ·rename_i aif aih
   obtain⟨u,rd,ups,hi,h1,e1⟩:=ve h
   refine⟨u,rd,ups,h1,fun H' hA K'=> ?_⟩
   unfold fQ;simp only;rw[hA id hi]
   split
   ·rename_i aR;exact absurd aR (aif _ _)
   ·rename_i aR;exact absurd aR (aih _ _ _ _)
   ·exact e1 H' hA K'
 ·rename_i qf
  obtain⟨u,rd,ups,h1,e1⟩:=Kz h
  refine⟨u,rd,ups,h1,fun H' hA K'=> ?_⟩
  have:fQ E τ a v H' K'=ia τ a v H' K':=by
   unfold fQ
   cases a<;>first|rfl|exact absurd rfl (qf _ _)
  rw[this]
  exact e1 H' hA K'
theorem KA{E:Env}{τ:Ty}{a v:aX}{H:Nat→Option aQ}{K:fh α}(h:n7 E τ a v H K=some r):
  ∃u rd ups,K u rd ups=some r∧ ∀H',Ag rd H H'→ ∀K':fh α,n7 E τ a v H' K'=K' u rd ups:=by
 unfold n7 at h
 split at h
 ·rename_i id υ y n
  split at h
  ·rename_i m e oC
   cases xW:Nat.beq m n
   ·rw[xW]at h
    simp only[cond_false]at h
    obtain⟨u,rd,ups,h1,e1⟩:=vf h
    exact⟨u,rd,ups,h1,fun H' hA K'=>by unfold n7;simp only;rw[oC];simp only;rw[xW];simp only[cond_false];exact e1 H' hA K'⟩
   ·rw[xW]at h
    simp only[cond_true]at h
    obtain⟨h1,e1⟩:=fU h
    obtain⟨υ',h2,e2⟩:=vd h1
    obtain⟨h3,e3⟩:=fU h2
    obtain⟨h4,e4⟩:=rj h3
    exact⟨_,_,_,h4,fun H' hA K'=>by unfold n7;simp only;rw[oC];simp only;rw[xW];simp only[cond_true];rw[e1,e2 H' (hA _ (by simp)),e3,e4 H' (hA _ (by simp))]⟩
  ·rename_i qf
   obtain⟨u,rd,ups,h1,e1⟩:=vf h
   refine⟨u,rd,ups,h1,fun H' hA K'=> ?_⟩
   unfold n7;simp only
   exact e1 H' hA K'
 ·rename_i qf
  obtain⟨u,rd,ups,h1,e1⟩:=vf h
  refine⟨u,rd,ups,h1,fun H' hA K'=> ?_⟩
  unfold n7
  split
  ·exact absurd rfl (qf _ _ _ _ rfl)
  ·exact e1 H' hA K'
theorem Jd{H:Nat→Option aQ}{id:Nat}{τ:Ty}{x:τ.den}{q:List Step}{e:Ty}{K:fh α}(h:wK H id τ x q e K=some r):Pts (fun H K=>wK H id τ x q e K) H K r:=by
 obtain⟨h1,h2,h3⟩:=xV h
 exact⟨_,_,_,h3,fun H' hA K'=>by unfold wK mu;simp only;rw[hA id (by simp),h1,hA (id+1) (by simp),h2]⟩
theorem XX{E:Env}{o:Oper}{ρ:Operand→aX}{H:Nat→Option aQ}{K:fh α}(h:ot E o ρ H K=some r):
  ∃v rd ups,K v rd ups=some r∧ ∀ρ' H',(∀x∈o.op.operands,ρ' x=ρ x)→Ag rd H H'→ ∀K':fh α,ot E o ρ' H' K'=K' v rd ups:=by
 obtain⟨dst,op,type,pos,after,guard⟩:=o
 unfold ot at h
 simp only at h
 have Qz: ∀{ρ':Operand→aX} (xs:List Operand),(∀x∈xs,ρ' x=ρ x)→xs.map ρ'=xs.map ρ:=fun xs hx=>List.map_congr_left hx
 have Ho: ∀{ρ':Operand→aX} (ps:Array (Nat×Operand)),(∀x∈ps.map (·.2),ρ' x=ρ x)→partsOf ρ' ps=partsOf ρ ps:=fun ps hp=>by
  unfold partsOf
  exact List.map_congr_left fun p hm=>by rw[hp p.2 (Array.mem_map.2 ⟨p,by simpa using hm,rfl⟩)]
 have XY: ∀{ρ':Operand→aX} (x:Option Operand),(∀y∈x,ρ' y=ρ y)→x.map ρ'=x.map ρ:=fun x hx=>by
  cases x with
  |none=>rfl
  |some x=>simp[hx x rfl]
 split at h
 ·
  rename_i x
  exact⟨_,_,_,h,fun ρ' H' hx _ K'=>by unfold ot;simp only;rw[hx x (by simp[Op.operands])]⟩
 ·rename_i x
  exact⟨_,_,_,h,fun ρ' H' hx _ K'=>by unfold ot;simp only;rw[hx x (by simp[Op.operands])]⟩
 ·rename_i x y z
  split at h
  ·rename_i t hx
   cases t
   ·exact⟨_,_,_,(h:K (ρ z) [] []=some r),fun ρ' H' oF _ K'=>by unfold ot;simp only;rw[oF x (by simp[Op.operands]),hx,oF z (by simp[Op.operands])];rfl⟩
   ·exact⟨_,_,_,(h:K (ρ y) [] []=some r),fun ρ' H' oF _ K'=>by unfold ot;simp only;rw[oF x (by simp[Op.operands]),hx,oF y (by simp[Op.operands])];rfl⟩
  ·cases h
 ·
  split at h
  ·rename_i τ ht
   split at h
   ·rename_i q e oC
    obtain⟨v,rd,ups,h1,e1⟩:=Jd h
    exact⟨_,_,_,h1,fun ρ' H' hx hA K'=>by unfold ot;simp only;rw[ht];simp only;rw[oC];exact e1 H' hA K'⟩
   ·rename_i oC
    obtain⟨h1,e1⟩:=rj h
    exact⟨_,_,_,h1,fun ρ' H' hx hA K'=>by unfold ot;simp only;rw[ht];simp only;rw[oC];simp only;rw[e1 H' (hA _ (by simp))]⟩
  ·cases h
 ·
  rename_i t x
  split at h
  ·rename_i τ ht
   have hold:(hQ true (ρ x) H τ fun y rd ups=>mu H (16*dst.getD 0) (.obj τ y) (K (.fc (16*dst.getD 0) []) (16*dst.getD 0::rd) (ups++[(16*dst.getD 0,some (.obj τ y))])))=some r→
     Pts (fun H K=>hQ true (ρ x) H τ fun y rd ups=>mu H (16*dst.getD 0) (.obj τ y) (K (.fc (16*dst.getD 0) []) (16*dst.getD 0::rd) (ups++[(16*dst.getD 0,some (.obj τ y))]))) H K r:=by
    intro h
    obtain⟨y,rd,ups,h1,e1⟩:=j1 h
    obtain⟨h2,e2⟩:=rj h1
    exact⟨_,_,_,h2,fun H' hA K'=>by simp only;rw[e1 H' (fun i hi=>hA i (List.mem_cons_of_mem _ hi)),e2 H' (hA _ (by simp))]⟩
   split at h
   ·rename_i m e υ y n oC MX
    cases xW:Nat.beq m n
    ·rw[xW]at h
     obtain⟨v,rd,ups,h1,e1⟩:=hold h
     refine⟨_,_,_,h1,fun ρ' H' hx hA K'=> ?_⟩
     unfold ot;simp only;rw[ht];simp only
     rw[hx x (by simp[Op.operands]),oC,MX];simp only
     rw[xW]
     have:=e1 H' hA K'
     rw[MX]at this
     exact this
    ·rw[xW]at h
     simp only[cond_true]at h
     obtain⟨z,h1,e1⟩:=cE h
     obtain⟨v,rd,ups,h2,e2⟩:=Jd h1
     refine⟨_,_,_,h2,fun ρ' H' hx hA K'=> ?_⟩
     unfold ot;simp only;rw[ht];simp only
     rw[hx x (by simp[Op.operands]),oC,MX];simp only
     rw[xW];simp only[cond_true]
     rw[e1]
     exact e2 H' hA K'
   ·rename_i qf
    obtain⟨v,rd,ups,h1,e1⟩:=hold h
    refine⟨_,_,_,h1,fun ρ' H' hx hA K'=> ?_⟩
    unfold ot;simp only;rw[ht];simp only
    rw[hx x (by simp[Op.operands])]
    split
    ·rename_i oC MX;exact absurd MX (qf _ _ _ _ _ oC)
    ·exact e1 H' hA K'
  ·cases h
 ·
  rename_i t ps
  split at h
  ·rename_i n e ht
   obtain⟨l,rd,ups,h1,_,e1⟩:=yj h
   exact⟨_,_,_,h1,fun ρ' H' hx hA K'=>by unfold ot;simp only;rw[ht];simp only;rw[Ho ps (fun x oF=>hx x (by simpa [Op.operands]using oF)),e1 H' hA]⟩
  ·rename_i τ Wi ht
   obtain⟨h0,e0⟩:=cT h
   obtain⟨l,rd,ups,h1,_,e1⟩:=AJ h0
   refine⟨_,_,_,h1,fun ρ' H' hx hA K'=> ?_⟩
   unfold ot;simp only;rw[ht]
   have: ∀{β:Type} (A:Nat→Ty→β) (B:Ty→β),(match some τ with|some (.arr n e)=>A n e|some τ=>B τ|none=>B τ)=B τ:=by
    intro β A B
    cases τ<;>first|rfl|exact absurd rfl (Wi _ _)
   cases τ with
   |arr n e=>exact absurd rfl (Wi n e)
   |_=>
    simp only
    rw[Ho ps (fun x oF=>hx x (by simpa [Op.operands]using oF)),e0,e1 H' hA]
  ·cases h
 ·
  rename_i t n ps
  split at h
  ·rename_i e ht
   obtain⟨h0,e0⟩:=cT h
   obtain⟨h1,e1⟩:=rj h0
   obtain⟨l,rd,ups,h2,_,e2⟩:=yj h1
   exact⟨_,_,_,h2,fun ρ' H' hx hA K'=>by
    unfold ot;simp only;rw[ht];simp only
    rw[e0,e1 H' (hA _ (by simp)),Ho ps (fun x oF=>hx x (by simpa [Op.operands]using oF)),e2 H' (fun i hi=>hA i (List.mem_cons_of_mem _ hi))]⟩
  ·cases h
 ·
  rename_i t x
  split at h
  ·rename_i τ ht
   obtain⟨v,rd,ups,h1,e1⟩:=MW h
   exact⟨_,_,_,h1,fun ρ' H' hx hA K'=>by unfold ot;simp only;rw[ht];simp only;rw[hx x (by simp[Op.operands]),e1 H' hA]⟩
  ·cases h
 ·
  rename_i t x y
  split at h
  ·rename_i τ ht
   obtain⟨u,rd,ups,h1,e1⟩:=KA h
   exact⟨_,_,_,h1,fun ρ' H' hx hA K'=>by unfold ot;simp only;rw[ht];simp only;rw[hx x (by simp[Op.operands]),hx y (by simp[Op.operands]),e1 H' hA]⟩
  ·cases h
 ·
  rename_i x
  split at h
  ·rename_i id p hx
   exact⟨_,_,_,h,fun ρ' H' oF _ K'=>by unfold ot;simp only;rw[oF x (by simp[Op.operands]),hx]⟩
  ·rename_i τ z hx
   exact⟨_,_,_,h,fun ρ' H' oF _ K'=>by unfold ot;simp only;rw[oF x (by simp[Op.operands]),hx]⟩
  ·cases h
 ·
  rename_i b t x y t'
  obtain⟨τ,x1,h1,e1⟩:=Jc h
  obtain⟨υ,y1,h2,e2⟩:=Jc h1
  obtain⟨v,h3,e3⟩:=MP h2
  exact⟨_,_,_,h3,fun ρ' H' hx _ K'=>by unfold ot;simp only;rw[hx x (by simp[Op.operands]),hx y (by simp[Op.operands]),e1,e2,e3]⟩
 ·
  rename_i u t x
  obtain⟨v,h1,e1⟩:=Qv h
  exact⟨_,_,_,h1,fun ρ' H' hx _ K'=>by unfold ot;simp only;rw[hx x (by simp[Op.operands]),e1]⟩
 ·
  rename_i s d x
  split at h
  ·rename_i τ k hs hd
   obtain⟨i,n,h1,e1⟩:=nM h
   exact⟨_,_,_,h1,fun ρ' H' hx _ K'=>by unfold ot;simp only;rw[hs,hd];simp only;rw[hx x (by simp[Op.operands]),e1]⟩
  ·cases h
 ·
  rename_i f first caps
  obtain⟨h1,e1⟩:=cT h
  obtain⟨cs,rd,ups,h3,e3⟩:=yl h1
  exact⟨_,_,_,h3,fun ρ' H' hx hA K'=>by unfold ot;simp only;rw[Qz caps.toList (fun x oF=>hx x (by simp[Op.operands];exact .inr (by simpa using oF))),e1,e3 H' hA]⟩
 ·
  rename_i t x y
  split at h
  ·rename_i e ht
   obtain⟨i,n,h1,e1⟩:=nM h
   obtain⟨i',n',h2,e2⟩:=nM h1
   obtain⟨h3,e3⟩:=cT h2
   obtain⟨h4,e4⟩:=rj h3
   exact⟨_,_,_,h4,fun ρ' H' hx hA K'=>by
    unfold ot;simp only;rw[ht];simp only
    rw[hx x (by simp[Op.operands]),e1,hx y (by simp[Op.operands]),e2,e3,e4 H' (hA _ (by simp))]⟩
  ·cases h
 ·
  rename_i t x lo hi mx
  split at h
  ·rename_i τ ht
   obtain⟨v,rd,ups,h1,e1⟩:=Kx h
   exact⟨_,_,_,h1,fun ρ' H' hx hA K'=>by
    unfold ot;simp only;rw[ht];simp only
    rw[hx x (by simp[Op.operands]),XY lo (fun y hy=>hx y (by simp at hy;simp[Op.operands,hy])),XY hi (fun y hy=>hx y (by simp at hy;simp[Op.operands,hy])),XY mx (fun y hy=>hx y (by simp at hy;simp[Op.operands,hy])),e1 H' hA]⟩
  ·cases h
 ·
  rename_i t x n
  split at h
  ·rename_i τ ht
   split at h
   ·rename_i id p hx
    obtain⟨υ,h1,e1⟩:=vd h
    obtain⟨h2,e2⟩:=fU h1
    obtain⟨υ',y',h3,e3⟩:=ri h2
    obtain⟨h4,e4⟩:=oH h3
    exact⟨_,_,_,h4,fun ρ' H' oF hA K'=>by
     unfold ot;simp only;rw[ht];simp only
     rw[oF x (by simp[Op.operands]),hx];simp only
     rw[e1 H' (hA _ (by simp)),e2,e3,e4]⟩
   ·rename_i υ z hx
    obtain⟨h2,e2⟩:=fU h
    obtain⟨υ',y',h3,e3⟩:=ri h2
    obtain⟨h4,e4⟩:=oH h3
    exact⟨_,_,_,h4,fun ρ' H' oF hA K'=>by
     unfold ot;simp only;rw[ht];simp only
     rw[oF x (by simp[Op.operands]),hx];simp only
     rw[e2,e3,e4]⟩
   ·cases h
  ·cases h
 ·
  rename_i t x n
  split at h
  ·rename_i τ ht
   split at h
   ·rename_i υ z hx
    obtain⟨h2,e2⟩:=fU h
    obtain⟨υ',y',h3,e3⟩:=ri h2
    exact⟨_,_,_,h3,fun ρ' H' oF hA K'=>by
     unfold ot;simp only;rw[ht];simp only
     rw[oF x (by simp[Op.operands]),hx];simp only
     rw[e2,e3]⟩
   ·cases h
  ·cases h
 ·
  rename_i t x i
  split at h
  ·rename_i τ ht
   obtain⟨v,rd,ups,h1,e1⟩:=Ab h
   exact⟨_,_,_,h1,fun ρ' H' hx hA K'=>by unfold ot;simp only;rw[ht];simp only;rw[hx x (by simp[Op.operands]),hx i (by simp[Op.operands]),e1 H' hA]⟩
  ·cases h
 ·
  rename_i t x i
  split at h
  ·rename_i τ ht
   obtain⟨v,h1,e1⟩:=Ky h
   exact⟨_,_,_,h1,fun ρ' H' hx hA K'=>by unfold ot;simp only;rw[ht];simp only;rw[hx x (by simp[Op.operands]),hx i (by simp[Op.operands]),e1]⟩
  ·cases h
 ·
  rename_i x i
  split at h
  ·rename_i vs hx
   split at h
   ·rename_i v hv
    exact⟨_,_,_,h,fun ρ' H' oF hA K'=>by unfold ot;simp only;rw[oF x (by simp[Op.operands]),hx];simp only;rw[hv]⟩
   ·cases h
  ·cases h
 ·
  rename_i cl
  obtain⟨callee,args,ts⟩:=cl
  simp only at h
  have rO: ∀{ρ':Operand→aX},(∀x∈(Op.call {callee,args,argTypes:=ts}).operands,ρ' x=ρ x)→ ∀x∈args.toList,ρ' x=ρ x:=
   fun hx x oF=>hx x (by simp[Op.operands,Call.operands];exact .inr (by simpa using oF))
  split at h
  ·split at h
   ·rename_i x τ ha ht
    obtain⟨v,rd,ups,h1,e1⟩:=Qw h
    exact⟨_,_,_,h1,fun ρ' H' hx hA K'=>by unfold ot;simp only;rw[ha,ht];simp only;rw[rO hx x (by rw[ha];simp),e1 H' hA]⟩
   ·cases h
  ·split at h
   ·rename_i x y t t' ha ht
    split at h
    ·rename_i e hte
     obtain⟨h1,e1⟩:=cT h
     obtain⟨h2,e2⟩:=rj h1
     obtain⟨v,rd,ups,h3,aR,e3⟩:=Qx h2
     exact⟨_,_,_,h3,fun ρ' H' hx hA K'=>by
      unfold ot;simp only;rw[ha,ht];simp only;rw[hte];simp only
      rw[e1,e2 H' (hA _ aR),rO hx x (by rw[ha];simp),rO hx y (by rw[ha];simp),e3 H' hA]⟩
    ·cases h
   ·cases h
  ·split at h
   ·rename_i x xs ha
    obtain⟨v,h1,e1⟩:=Hn h
    exact⟨_,_,_,h1,fun ρ' H' hx hA K'=>by
     unfold ot;simp only;rw[ha];simp only
     rw[rO hx x (by rw[ha];simp),Qz xs (fun y hy=>rO hx y (by rw[ha];simp[hy])),e1]⟩
   ·cases h
  ·split at h
   ·rename_i x xs ha
    obtain⟨v,h1,e1⟩:=Hn h
    exact⟨_,_,_,h1,fun ρ' H' hx hA K'=>by
     unfold ot;simp only;rw[ha];simp only
     rw[rO hx x (by rw[ha];simp),Qz xs (fun y hy=>rO hx y (by rw[ha];simp[hy])),e1]⟩
   ·cases h
  ·rename_i g
   split at h
   ·rename_i f caps hg
    obtain⟨v,rd,ups,h1,e1⟩:=MS h
    exact⟨_,_,_,h1,fun ρ' H' hx hA K'=>by
     unfold ot;simp only
     rw[hx g (by simp[Op.operands,Call.operands]),hg];simp only
     rw[Qz args.toList (rO hx),e1 H' hA]⟩
   ·cases h
  ·cases h
 ·cases h
end VM
end
section
namespace VM
open Go
variable{P:Program}{E:Env}{o:Oper}{a:Act}{w:World}{M:Nat→Prop}{ν:Nat→Value}{σ:St}{c:Ctx}{α:Type}{r:α}{next:Act→World→Prop}{Q:Exit→Act→World→Prop}
structure Out where
 dst:Option Nat
 v:aX
 rd:List Nat
 ups:fg
def Out.app(u:Out)(σ:St):St:=(σ.qh u.ups).p5 u.dst u.v
theorem DY(σ:St)(d:Nat)(v:aX):(σ.p5 (some d) v).T d=v:=o4 σ d v
theorem KB(σ:St){d:Option Nat}{t:Nat}(v:aX)(h:d≠some t):(σ.p5 d v).T t=σ.T t:=by
 cases d with
 |none=>rfl
 |some d=>exact tL σ v (fun e=>h (by rw[e]))
theorem XZ(σ:St)(d:Option Nat)(v:aX):(σ.p5 d v).H=σ.H:=by cases d<;>rfl
theorem Hp{u:Out}{t:Nat}(h:u.dst=some t)(σ:St):(u.app σ).T t=u.v:=by unfold Out.app;rw[h];exact DY _ _ _
theorem MY{u:Out}{t:Nat}(h:u.dst≠some t)(σ:St):(u.app σ).T t=σ.T t:=by unfold Out.app;rw[KB _ _ h,Hd]
theorem acZ(u:Out)(σ:St):(u.app σ).H=bS σ.H u.ups:=by unfold Out.app;rw[XZ,Hc]
def Pt(E:Env)(ops:List Oper)(o:Oper)(σ:St)(u:Out)(α:Type):Prop:=
 u.dst=o.dst∧ ∀σ':St,(∀t∈names ops o,σ'.T t=σ.T t)→Ag u.rd σ.H σ'.H→ ∀K':St→List Nat→List Nat→Option α,ox E ops o σ' K'=K' (u.app σ') u.rd (u.ups.map (·.1))
theorem MZ{ops:List Oper}{K:St→List Nat→List Nat→Option α}(h:ox E ops o σ K=some r): ∃u:Out,K (u.app σ) u.rd (u.ups.map (·.1))=some r∧Pt E ops o σ u α:=by
 unfold ox at h
 obtain⟨h,e0⟩:=cT h
 have aii: ∀σ':St,(∀t∈names ops o,σ'.T t=σ.T t)→ ∀x∈o.op.operands,σ'.ρ x=σ.ρ x:=by
  intro σ' hT x hx
  cases x with
  |tmp t=>
   refine hT t ?_
   unfold names
   refine List.mem_append_left _ (List.mem_filterMap.2 ⟨.tmp t,by simpa using hx,rfl⟩)
  |_=>rfl
 have cw:ot E o σ.ρ σ.H (fun v rd ups=>K ((σ.qh ups).p5 o.dst v) rd (ups.map (·.1)))=some r→
   ∃u:Out,K (u.app σ) u.rd (u.ups.map (·.1))=some r∧u.dst=o.dst∧ ∀σ':St,(∀t∈names ops o,σ'.T t=σ.T t)→Ag u.rd σ.H σ'.H→ ∀K':St→List Nat→List Nat→Option α,
    ot E o σ'.ρ σ'.H (fun v rd ups=>K' ((σ'.qh ups).p5 o.dst v) rd (ups.map (·.1)))=K' (u.app σ') u.rd (u.ups.map (·.1)):=by
  intro h
  obtain⟨v,rd,ups,h1,h2⟩:=XX h
  exact⟨⟨o.dst,v,rd,ups⟩,h1,rfl,fun σ' hT hA K'=>h2 σ'.ρ σ'.H (aii σ' hT) hA _⟩
 have nL: ∀{K:St→List Nat→List Nat→Option α},K (σ.p5 o.dst .Mn) [] []=some r→ ∃u:Out,K (u.app σ) u.rd (u.ups.map (·.1))=some r∧u.dst=o.dst∧ ∀σ':St,∀K':St→List Nat→List Nat→Option α,K' (σ'.p5 o.dst .Mn) [] []=K' (u.app σ') u.rd (u.ups.map (·.1)):=
  fun h=>⟨⟨o.dst,.Mn,[],[]⟩,h,rfl,fun _ _=>rfl⟩
 simp only at h
 split at h
 ·rename_i hg
  obtain⟨u,h1,h2,h3⟩:=cw h
  refine⟨u,h1,h2,fun σ' hT hA K'=> ?_⟩
  unfold ox
  rw[e0]
  simp only
  rw[hg]
  exact h3 σ' hT hA K'
 ·rename_i j want hg
  split at h
  ·cases h
  ·rename_i t ht
   have KC:t∈names ops o:=by
    unfold names
    refine List.mem_append_right _ ?_
    rw[hg]
    simp[ht]
   split at h
   ·rename_i b hb
    have lB: ∀σ':St,σ'.T t=σ.T t→σ'.put t (.val .bool b)=σ':=fun σ' h'=>by
     rw[←hb,←h'];exact yf σ' t
    cases want<;>cases b
    ·obtain⟨u,h1,h2,h3⟩:=cw (by
      have:=lB σ rfl
      rw[this]at h;exact h)
     refine⟨u,h1,h2,fun σ' hT hA K'=> ?_⟩
     unfold ox
     rw[e0];simp only;rw[hg];simp only;rw[ht];simp only;rw[hT t KC,hb];simp only
     rw[lB σ' (hT t KC)]
     exact h3 σ' hT hA K'
    ·obtain⟨u,h1,h2,h3⟩:=nL (by
      have:=lB σ rfl
      rw[this]at h;exact h)
     refine⟨u,h1,h2,fun σ' hT hA K'=> ?_⟩
     unfold ox
     rw[e0];simp only;rw[hg];simp only;rw[ht];simp only;rw[hT t KC,hb];simp only
     rw[lB σ' (hT t KC)]
     exact h3 σ' K'
    ·obtain⟨u,h1,h2,h3⟩:=nL (by
      have:=lB σ rfl
      rw[this]at h;exact h)
     refine⟨u,h1,h2,fun σ' hT hA K'=> ?_⟩
     unfold ox
     rw[e0];simp only;rw[hg];simp only;rw[ht];simp only;rw[hT t KC,hb];simp only
     rw[lB σ' (hT t KC)]
     exact h3 σ' K'
    ·obtain⟨u,h1,h2,h3⟩:=cw (by
      have:=lB σ rfl
      rw[this]at h;exact h)
     refine⟨u,h1,h2,fun σ' hT hA K'=> ?_⟩
     unfold ox
     rw[e0];simp only;rw[hg];simp only;rw[ht];simp only;rw[hT t KC,hb];simp only
     rw[lB σ' (hT t KC)]
     exact h3 σ' hT hA K'
   ·rename_i hb
    obtain⟨u,h1,h2,h3⟩:=nL h
    refine⟨u,h1,h2,fun σ' hT hA K'=> ?_⟩
    unfold ox
    rw[e0];simp only;rw[hg];simp only;rw[ht];simp only;rw[hT t KC,hb]
    exact h3 σ' K'
   ·cases h
theorem Je{ops:List Oper}: ∀(l:List Oper) (i:Nat) (σ:St) (lg:Log) (K:St→Log→Option α),J9 E ops l i σ lg K=some r→
  ∃us:List Out,us.length=l.length∧(∀j u o,us[j]? =some u→l[j]? =some o→Pt E ops o ((us.take j).foldl (fun σ u=>u.app σ) σ) u α)∧
   ∃Wm,K (us.foldl (fun σ u=>u.app σ) σ) Wm=some r∧(∀x∈lg,x∈Wm)∧ ∀j u,us[j]? =some u→(i+j,u.rd,u.ups.map (·.1))∈Wm
 |[],i,σ,lg,K,h=>⟨[],rfl,fun j u o hj=>by simp at hj,lg,h,fun _ h=>h,fun j u hj=>by simp at hj⟩
 |o::l,i,σ,lg,K,h=>by
  unfold J9 at h
  obtain⟨u,h1,h2⟩:=MZ h
  obtain⟨us,hl,hpt,Wm,hK,PS,hj⟩:=Je l (i+1) (u.app σ) _ K h1
  refine⟨u::us,by simp[hl],fun j u' o' hu ho=> ?_,Wm,hK,fun x hx=>PS x (List.mem_cons_of_mem _ hx),fun j u' hu=> ?_⟩
  ·cases j with
   |zero=>simp at hu ho;subst hu ho;exact h2
   |succ j=>exact hpt j u' o' (by simpa using hu) (by simpa using ho)
  ·cases j with
   |zero=>simp at hu;subst hu;exact PS _ List.mem_cons_self
   |succ j=>
    have:=hj j u' (by simpa using hu)
    rwa [show i+1+j=i+(j+1)from by omega]at this
theorem KD{k:Nat}{ups:fg}(h:k∈keys ups)(H H':Nat→Option aQ):bS H ups k=bS H' ups k:=by
 induction ups generalizing H H' with
 |nil=>simp[keys]at h
 |cons u r ih=>
  show bS (bn H u.1 u.2) r k=bS (bn H' u.1 u.2) r k
  by_cases hk:k∈keys r
  ·exact ih hk _ _
  ·have hku:k=u.1:=by
    simp only[keys,List.map_cons,List.mem_cons]at h hk
    exact h.resolve_right hk
   rw[iZ hk,iZ hk,hku,ak,ak]
structure kk(us:List Out)(σ0:St)(S:Nat→Prop)(σ:St):Prop where
 T: ∀t,(∃j u,us[j]? =some u∧S j∧u.dst=some t∧(∀j' u',us[j']? =some u'→S j'→u'.dst=some t→j'≤j)∧σ.T t=u.v)∨((∀j u,us[j]? =some u→S j→u.dst≠some t)∧σ.T t=σ0.T t)
 H: ∀k,(∃j u,us[j]? =some u∧S j∧k∈keys u.ups∧(∀j' u',us[j']? =some u'→S j'→k∈keys u'.ups→j'≤j)∧σ.H k=bS σ0.H u.ups k)∨((∀j u,us[j]? =some u→S j→k∉keys u.ups)∧σ.H k=σ0.H k)
theorem kk.M4{us:List Out}{σ0 σ σ':St}{S S':Nat→Prop}(h:kk us σ0 S σ)(h':kk us σ0 S' σ'){t:Nat}(hs: ∀j u,us[j]? =some u→u.dst=some t→(S j↔S' j)):σ.T t=σ'.T t:=by
 rcases h.T t with⟨j,u,h1,h2,h3,h4,h5⟩|⟨h1,h2⟩<;>rcases h'.T t with⟨j',u',la,sb,Hr,h4',h5'⟩|⟨la,sb⟩
 ·have e1:=h4 j' u' la ((hs j' u' la Hr).2 sb) Hr
  have e2:=h4' j u h1 ((hs j u h1 h3).1 h2) h3
  have:j=j':=by omega
  subst this
  rw[h1]at la;cases la
  rw[h5,h5']
 ·exact absurd h3 (la j u h1 ((hs j u h1 h3).1 h2))
 ·exact absurd Hr (h1 j' u' la ((hs j' u' la Hr).2 sb))
 ·rw[h2,sb]
theorem kk.M5{us:List Out}{σ0 σ σ':St}{S S':Nat→Prop}(h:kk us σ0 S σ)(h':kk us σ0 S' σ'){k:Nat}(hs: ∀j u,us[j]? =some u→k∈keys u.ups→(S j↔S' j)):σ.H k=σ'.H k:=by
 rcases h.H k with⟨j,u,h1,h2,h3,h4,h5⟩|⟨h1,h2⟩<;>rcases h'.H k with⟨j',u',la,sb,Hr,h4',h5'⟩|⟨la,sb⟩
 ·have e1:=h4 j' u' la ((hs j' u' la Hr).2 sb) Hr
  have e2:=h4' j u h1 ((hs j u h1 h3).1 h2) h3
  have:j=j':=by omega
  subst this
  rw[h1]at la;cases la
  rw[h5,h5']
 ·exact absurd h3 (la j u h1 ((hs j u h1 h3).1 h2))
 ·exact absurd Hr (h1 j' u' la ((hs j' u' la Hr).2 sb))
 ·rw[h2,sb]
theorem kk.unique{us:List Out}{σ0 σ σ':St}{S S':Nat→Prop}(h:kk us σ0 S σ)(h':kk us σ0 S' σ')(hs: ∀j u,us[j]? =some u→(S j↔S' j)):σ=σ':=by
 obtain⟨T,H⟩:=σ
 obtain⟨T',H'⟩:=σ'
 congr 1
 ·funext t;exact h.M4 h' (fun j u hj _=>hs j u hj)
 ·funext k;exact h.M5 h' (fun j u hj _=>hs j u hj)
theorem kk.step{us:List Out}{σ0 σ:St}{S:Nat→Prop}(h:kk us σ0 S σ){i:Nat}{u:Out}(hi:us[i]? =some u)(hc: ∀j u',us[j]? =some u'→S j→i<j→(∀t,u.dst=some t→u'.dst≠some t)∧ ∀k∈keys u.ups,k∉keys u'.ups):
  kk us σ0 (fun j=>j=i∨S j) (u.app σ):=by
 refine⟨fun t=> ?_,fun k=> ?_⟩
 ·by_cases hd:u.dst=some t
  ·left
   refine⟨i,u,hi,.inl rfl,hd,fun j' u' h1 h2 h3=> ?_,Hp hd σ⟩
   rcases h2 with rfl|h2
   ·exact Nat.le_refl _
   ·exact Nat.le_of_not_lt fun dE=>(hc j' u' h1 h2 dE).1 t hd h3
  ·rw[MY hd]
   rcases h.T t with⟨j,u1,h1,h2,h3,h4,h5⟩|⟨h1,h2⟩
   ·refine .inl ⟨j,u1,h1,.inr h2,h3,fun j' u' la sb Hr=> ?_,h5⟩
    rcases sb with rfl|sb
    ·rw[hi]at la;cases la;exact absurd Hr hd
    ·exact h4 j' u' la sb Hr
   ·refine .inr ⟨fun j u' la sb=> ?_,h2⟩
    rcases sb with rfl|sb
    ·rw[hi]at la;cases la;exact hd
    ·exact h1 j u' la sb
 ·rw[acZ]
  by_cases hd:k∈keys u.ups
  ·left
   refine⟨i,u,hi,.inl rfl,hd,fun j' u' h1 h2 h3=> ?_,KD hd _ _⟩
   rcases h2 with rfl|h2
   ·exact Nat.le_refl _
   ·exact Nat.le_of_not_lt fun dE=>(hc j' u' h1 h2 dE).2 k hd h3
  ·rw[iZ hd]
   rcases h.H k with⟨j,u1,h1,h2,h3,h4,h5⟩|⟨h1,h2⟩
   ·refine .inl ⟨j,u1,h1,.inr h2,h3,fun j' u' la sb Hr=> ?_,h5⟩
    rcases sb with rfl|sb
    ·rw[hi]at la;cases la;exact absurd Hr hd
    ·exact h4 j' u' la sb Hr
   ·refine .inr ⟨fun j u' la sb=> ?_,h2⟩
    rcases sb with rfl|sb
    ·rw[hi]at la;cases la;exact hd
    ·exact h1 j u' la sb
theorem kk.start(us:List Out)(σ0:St):kk us σ0 (fun _=>False) σ0:=⟨fun t=> .inr ⟨fun _ _ _ h=>h.elim,rfl⟩,fun k=> .inr ⟨fun _ _ _ h=>h.elim,rfl⟩⟩
theorem kk.congr{us:List Out}{σ0 σ:St}{S S':Nat→Prop}(h:kk us σ0 S σ)(hs: ∀j,S j↔S' j):kk us σ0 S' σ:=by
 have:S=S':=funext fun j=>propext (hs j)
 rw[←this];exact h
theorem kk.text(us:List Out)(σ0:St): ∀i,i≤us.length→kk us σ0 (fun j=>j<i) ((us.take i).foldl (fun σ u=>u.app σ) σ0)
 |0,_=>(kk.start us σ0).congr fun j=>by simp
 |i+1,hi=>by
  have ih:=kk.text us σ0 i (by omega)
  have hu:us[i]? =some us[i]:=List.getElem?_eq_getElem (by omega)
  have:=ih.step hu (fun j u' _ h2 h3=>by omega)
  rw[List.take_add_one,hu,List.foldl_append]
  exact this.congr fun j=>by constructor<;>intro h<;>omega
end VM
end
section
namespace VM
open Go
variable{P:Program}{E:Env}{o:Oper}{a:Act}{w:World}{M:Nat→Prop}{ν:Nat→Value}{σ:St}{c:Ctx}{α:Type}{r:α}{next:Act→World→Prop}{Q:Exit→Act→World→Prop}
def X0(S:Nat→Prop)(o:Oper):Prop:= ∀e∈o.after,Region.binds .any e=true→S e.on
theorem ym{β:Type}{l m:List β}{i:Nat}{d:β}(h:i<l.length):(l++m).getD i d=l.getD i d:=by
 simp only[List.getD,List.getElem?_append_left h]
theorem yn{β:Type}{l:List β}{x d:β}:(l++[x]).getD l.length d=x:=by
 simp[List.getD]
theorem vW{acc:List Nat}{i:Nat}: ∀(es:List Edge) (s:Nat),(es.foldl (fun s e=>cond (Region.binds .any e) (s|||2^e.on|||acc.getD e.on 0) s) s).testBit i=true→
  s.testBit i=true∨ ∃e∈es,Region.binds .any e=true∧(i=e.on∨(acc.getD e.on 0).testBit i=true)
 |[],s,h=> .inl h
 |e::es,s,h=>by
  rw[List.foldl_cons]at h
  rcases vW es _ h with h1|⟨e',h1,h2⟩
  ·cases hb:Region.binds .any e
   ·rw[hb]at h1;exact .inl h1
   ·rw[hb]at h1
    simp only[cond_true,Nat.testBit_or,Bool.or_eq_true]at h1
    rcases h1 with(h1|h1)|h1
    ·exact .inl h1
    ·refine .inr ⟨e,List.mem_cons_self,hb,.inl ?_⟩
     rw[Nat.testBit_two_pow]at h1
     simpa using (of_decide_eq_true h1).symm
    ·exact .inr ⟨e,List.mem_cons_self,hb,.inr h1⟩
  ·exact .inr ⟨e',List.mem_cons_of_mem _ h1,h2⟩
theorem vX{S:Nat→Prop}: ∀(l:List Oper) (acc:List Nat) (all:List Oper),all.length=acc.length+l.length→(∀j,l[j]? =all[acc.length+j]?)→
  (∀j o,all[j]? =some o→S j→X0 S o)→(∀j i,j<acc.length→S j→(acc.getD j 0).testBit i=true→S i)→
  ∀j o i,all[j]? =some o→(X0 S o∨S j)→((n8 l acc).getD j 0).testBit i=true→(j<acc.length→ ∀i,X0 S o→(acc.getD j 0).testBit i=true→S i)→S i
 |[],acc,all,hl,iX,hS,QA,j,o,i,hj,DZ,hb,M6=>by
  have dE:j<all.length:=(List.getElem?_eq_some_iff.1 hj).1
  have qw:j<acc.length:=by simp at hl;omega
  rcases DZ with hp|hp
  ·exact M6 qw i hp hb
  ·exact QA j i qw hp hb
 |p::l,acc,all,hl,iX,hS,QA,j,o,i,hj,DZ,hb,M6=>by
  unfold n8 at hb
  have hp0:all[acc.length]? =some p:=by rw[←Nat.add_zero acc.length,←iX 0];rfl
  have QB: ∀i,X0 S p→(p.after.toList.foldl (fun s e=>cond (Region.binds .any e) (s|||2^e.on|||acc.getD e.on 0) s) 0).testBit i=true→S i:=by
   intro i Dv hb
   rcases vW p.after.toList 0 hb with h1|⟨e,he,hbe,h1⟩
   ·simp at h1
   ·have hSe:=Dv e (by simpa using he) hbe
    rcases h1 with rfl|h1
    ·exact hSe
    ·by_cases dE:e.on<acc.length
     ·exact QA e.on i dE hSe h1
     ·rw[List.getD,List.getElem?_eq_none (by omega)]at h1;simp at h1
  refine vX l (acc++[p.after.toList.foldl (fun s e=>cond (Region.binds .any e) (s|||2^e.on|||acc.getD e.on 0) s) 0]) all (by simp at hl ⊢;omega) (fun j=> ?_) hS (fun j' i' Wn hS' dv=> ?_) j o i hj DZ hb (fun dE i' I0 dv=> ?_)
  ·have:=iX (j+1)
   simp only[List.getElem?_cons_succ]at this
   rw[this]
   congr 1
   simp;omega
  ·by_cases dE:j'<acc.length
   ·rw[ym dE]at dv
    exact QA j' i' dE hS' dv
   ·have hje:j'=acc.length:=by simp at Wn;omega
    subst hje
    rw[yn]at dv
    exact QB i' (hS _ p hp0 hS') dv
  ·by_cases qw:j<acc.length
   ·rw[ym qw]at dv
    exact M6 qw i' I0 dv
   ·have hje:j=acc.length:=by simp at dE;omega
    subst hje
    rw[hp0]at hj;cases hj
    rw[yn]at dv
    exact QB i' I0 dv
theorem forced{ops:List Oper}{S:Nat→Prop}(hS: ∀j o,ops[j]? =some o→S j→X0 S o){j i:Nat}(hj:ops[j]? =some o)(DZ:X0 S o∨S j)(hb:((n8 ops []).getD j 0).testBit i=true):S i:=
 vX ops [] ops (by simp) (fun j=>by simp) hS (fun j i h=>by simp at h) j o i hj DZ hb (fun h=>by simp at h)
theorem iz{l m:List Nat}(h:meets l m=false){x:Nat}(h1:x∈l)(h2:x∈m):False:=by
 have:meets l m=true:=by
  unfold meets
  rw[List.any_eq_true]
  refine⟨x,h1,?_⟩
  rw[List.any_eq_true]
  exact⟨x,h2,Nat.beq_refl x⟩
 rw[h]at this;cases this
structure Rnd(c:Ctx)(E:Env)(ops:Array Oper)(us:List Out)(σ0:St)(listed:Array Bool)(a:Act)(w:World):Prop where
 size:listed.size=ops.size
 closed: ∀j o,ops.toList[j]? =some o→listed.getD j false=true→X0 (fun i=>listed.getD i false=true) o
 st: ∃σ,kk us σ0 (fun j=>listed.getD j false=true) σ∧Inv c E σ a w
theorem sF{listed:Array Bool}{j:Nat}(h:j<listed.size)(d:Bool):listed.getD j d=listed.getD j false:=by
 simp[Array.getD,h]
theorem B4(hE:mF P E){ops:Array Oper}{us:List Out}{σ0 σn:St}{α:Type}(x0:α)(hl:us.length=ops.toList.length)
  (hpt: ∀(j:Nat) (u:Out) (o:Oper),us[j]? =some u→ops.toList[j]? =some o→Pt E ops.toList o ((us.take j).foldl (fun σ u=>u.app σ) σ0) u α)
  (hn:σn=us.foldl (fun σ u=>u.app σ) σ0)
  (dE: ∀(j:Nat) (o:Oper),ops.toList[j]? =some o→ ∀e∈o.after,Region.binds .any e=true→e.on<j)
  (GQ: ∀(j:Nat) (o:Oper) (i:Nat) (p:Oper),ops.toList[j]? =some o→ops.toList[i]? =some p→i<j→((n8 ops.toList []).getD j 0).testBit i=false→
   (∀d,p.dst=some d→o.dst≠some d∧d∉names ops.toList o)∧(∀d,o.dst=some d→d∉names ops.toList p))
  (PS: ∀(j:Nat) (u:Out) (i:Nat) (v:Out),us[j]? =some u→us[i]? =some v→i<j→((n8 ops.toList []).getD j 0).testBit i=false→
   (∀k∈keys v.ups,k∉u.rd∧k∉keys u.ups)∧(∀k∈v.rd,k∉keys u.ups))
  (hq: ∀a' w',Inv c E σn a' w'→Q .normal a' w'):
  ∀(fuel:Nat) (listed:Array Bool) (a:Act) (w:World),((List.range ops.size).filter fun j=> !(listed.getD j false)).length≤fuel→Rnd c E ops us σ0 listed a w→wpAny P .any ops Q fuel listed a w:=by
 have iX: ∀(listed:Array Bool) (a:Act) (w:World),Rnd c E ops us σ0 listed a w→Region.ready .any ops listed=[]→Q .normal a w:=by
  intro listed a w hR X1
  obtain⟨hs,DC,σ,GH,hI⟩:=hR
  have ac1: ∀j,j<ops.size→listed.getD j false=true:=by
   intro j
   induction j using Nat.strongRecOn with
   |_ j ih=>
    intro hj
    by_cases hb:listed.getD j false=true
    ·exact hb
    ·exfalso
     have ho:ops[j]? =some ops[j]:=Array.getElem?_eq_getElem hj
     have:j∈Region.ready .any ops listed:=by
      rw[mem_ready]
      refine⟨by rw[sF (by omega)];simpa using hb,_,ho,fun e he hbe=> ?_⟩
      have hej:=dE j ops[j] (by rw[Array.getElem?_toList];exact ho) e he hbe
      exact ih e.on hej (by omega)
     rw[X1]at this
     cases this
  have hσ:σ=σn:=by
   rw[hn]
   have ht:=kk.text us σ0 us.length (Nat.le_refl _)
   rw[List.take_length]at ht
   refine GH.unique ht fun j u hj=> ?_
   have zP:j<us.length:=(List.getElem?_eq_some_iff.1 hj).1
   have hjo:j<ops.size:=by rw[hl,Array.length_toList]at zP;exact zP
   exact⟨fun _=>zP,fun _=>ac1 j hjo⟩
  exact hq a w (hσ▸hI)
 intro fuel
 induction fuel with
 |zero=>
  intro listed a w hf hR
  have QC:Region.ready .any ops listed=[]:=by
   rw[List.eq_nil_iff_forall_not_mem]
   intro j hj
   rw[mem_ready]at hj
   obtain⟨h0,o,ho,_⟩:=hj
   have hjs:j<ops.size:=(Array.getElem?_eq_some_iff.1 ho).1
   have zP:j<listed.size:=by rw[hR.size];exact hjs
   rw[sF zP]at h0
   have lJ:j∈(List.range ops.size).filter fun j=> !(listed.getD j false):=by
    rw[List.mem_filter];exact⟨List.mem_range.2 hjs,by rw[h0];rfl⟩
   have:((List.range ops.size).filter fun j=> !(listed.getD j false))=[]:=List.eq_nil_of_length_eq_zero (by omega)
   rw[this]at lJ;cases lJ
  exact⟨QC,iX listed a w hR QC⟩
 |succ fuel ih=>
  intro listed a w hf hR
  refine⟨iX listed a w hR,fun i hi=> ?_⟩
  have kg:=hi
  rw[mem_ready]at kg
  obtain⟨h0,o,ho,DZ⟩:=kg
  have his:i<ops.size:=(Array.getElem?_eq_some_iff.1 ho).1
  have zW:i<listed.size:=by rw[hR.size];exact his
  rw[sF zW]at h0
  obtain⟨hs,DC,σ,GH,hI⟩:=hR
  have Da:ops.toList[i]? =some o:=by rw[Array.getElem?_toList];exact ho
  have hiu:i<us.length:=by rw[hl,Array.length_toList];exact his
  have hu:us[i]? =some us[i]:=List.getElem?_eq_getElem hiu
  have hPt:=hpt i us[i] o hu Da
  have hSi: ¬listed.getD i false=true:=by rw[h0];simp
  have D0: ∀j p,ops.toList[j]? =some p→((j<i∧ ¬listed.getD j false=true)→((n8 ops.toList []).getD i 0).testBit j=false)∧((i<j∧listed.getD j false=true)→((n8 ops.toList []).getD j 0).testBit i=false):=by
   intro j p hj
   refine⟨fun⟨_,h2⟩=> ?_,fun⟨_,h2⟩=> ?_⟩
   ·rw[←Bool.not_eq_true]
    intro hb
    exact h2 (forced DC Da (.inl DZ) hb)
   ·rw[←Bool.not_eq_true]
    intro hb
    exact hSi (forced DC hj (.inr h2) hb)
  have M7: ∀(j:Nat) (u:Out),us[j]? =some u→ ∃p:Oper,ops.toList[j]? =some p∧u.dst=p.dst:=by
   intro j u hj
   have zP:j<us.length:=(List.getElem?_eq_some_iff.1 hj).1
   have hp:ops.toList[j]? =some ops.toList[j]:=List.getElem?_eq_getElem (by omega)
   exact⟨_,hp,(hpt j u _ hj hp).1⟩
  have Wo:=kk.text us σ0 i (by omega)
  have hT: ∀t∈names ops.toList o,σ.T t=((us.take i).foldl (fun σ u=>u.app σ) σ0).T t:=by
   intro t ht
   refine GH.M4 Wo fun j u hj hd=> ?_
   obtain⟨p,hp,X2⟩:=M7 j u hj
   have X2:p.dst=some t:=by rw[←X2,hd]
   constructor
   ·intro D1
    refine Nat.lt_of_not_le fun hle=> ?_
    rcases Nat.lt_or_eq_of_le hle with qw|heq
    ·exact(GQ j p i o hp Da qw ((D0 j p hp).2 ⟨qw,D1⟩)).2 t X2 ht
    ·subst heq;exact hSi D1
   ·intro sG
    by_cases D1:listed.getD j false=true
    ·exact D1
    ·exact absurd ht ((GQ i o j p Da hp sG ((D0 j p hp).1 ⟨sG,D1⟩)).1 t X2).2
  have hH:Ag us[i].rd ((us.take i).foldl (fun σ u=>u.app σ) σ0).H σ.H:=by
   intro k hk
   refine GH.M5 Wo fun j u hj hd=> ?_
   obtain⟨p,hp,X2⟩:=M7 j u hj
   constructor
   ·intro D1
    refine Nat.lt_of_not_le fun hle=> ?_
    rcases Nat.lt_or_eq_of_le hle with qw|heq
    ·exact(PS j u i us[i] hj hu qw ((D0 j p hp).2 ⟨qw,D1⟩)).2 k hk hd
    ·subst heq;exact hSi D1
   ·intro sG
    by_cases D1:listed.getD j false=true
    ·exact D1
    ·exact absurd hk ((PS i us[i] j u hu hj sG ((D0 j p hp).1 ⟨sG,D1⟩)).1 k hd).1
  have ac2:=hPt.2 σ hT hH
  have hIs:kk us σ0 (fun j=>j=i∨listed.getD j false=true) (us[i].app σ):=by
   refine GH.step hu fun j u hj D1 nH=> ?_
   obtain⟨p,hp,X2⟩:=M7 j u hj
   have wX:=(D0 j p hp).2 ⟨nH,D1⟩
   obtain⟨h1,h2⟩:=GQ j p i o hp Da nH wX
   obtain⟨h3,h4⟩:=PS j u i us[i] hj hu nH wX
   refine⟨fun t ht=> ?_,fun k hk=>(h3 k hk).2⟩
   rw[X2]
   exact(h1 t (by rw[←hPt.1];exact ht)).1
  have tM: ∀j,(listed.setIfInBounds i true).getD j false=true↔(j=i∨listed.getD j false=true):=by
   intro j
   by_cases sG:j=i
   ·subst sG
    constructor
    ·intro _;exact .inl rfl
    ·intro _;simp[zW]
   ·rw[getD_set_ne false (Ne.symm sG)]
    exact⟨.inr,fun h=>h.resolve_left sG⟩
  classical
  let K':St→List Nat→List Nat→Option α:=fun σ' _ _=>if σ'=us[i].app σ then some x0 else none
  have hK:ox E ops.toList o σ K'=some x0:=by rw[ac2 K'];simp[K']
  have:=vV (Q:=Q) (next:=wpAny P .any ops Q fuel (listed.setIfInBounds i true)) hE hI hK (fun σ' a' w' rd wr hσ' rZ=>by
   have aio:σ'=us[i].app σ:=by
    by_cases h:σ'=us[i].app σ
    ·exact h
    ·simp[K',h]at hσ'
   subst aio
   refine ih _ a' w' ?_ ⟨by simpa using hs,fun j p hp D1 e he hb=> ?_,_,hIs.congr (fun j=>(tM j).symm),rZ⟩
   ·have hlen:((List.range ops.size).filter fun j=> !((listed.setIfInBounds i true).getD j false)).length<((List.range ops.size).filter fun j=> !(listed.getD j false)).length:=by
     have Kr:((List.range ops.size).filter fun j=> !((listed.setIfInBounds i true).getD j false))=((List.range ops.size).filter fun j=> !(listed.getD j false)).filter fun j=> !(Nat.beq j i):=by
      rw[List.filter_filter]
      apply List.filter_congr
      intro j _
      by_cases sG:j=i
      ·subst sG
       have h1:=(tM j).2 (.inl rfl)
       rw[h1];simp
      ·have h1:Nat.beq j i=false:=by rw[←Bool.not_eq_true,Nat.beq_eq];exact sG
       rw[h1,getD_set_ne false (Ne.symm sG)];simp
     rw[Kr]
     refine List.length_filter_lt_length_iff_exists.2 ⟨i,?_,by simp⟩
     rw[List.mem_filter];exact⟨List.mem_range.2 his,by rw[h0];rfl⟩
    omega
   ·rcases(tM j).1 D1 with rfl|D1
    ·rw[Da]at hp;cases hp
     exact(tM _).2 (.inr (DZ e he hb))
    ·exact(tM _).2 (.inr (DC j p hp D1 e he hb)))
  unfold wpOp
  rw[ho]
  simp only
  split
  ·rename_i hw;rw[if_pos hw]at this;exact .inl this
  ·rename_i hw;rw[if_neg hw]at this;exact this
theorem Ac(hE:mF P E){id:Nat}{ops:Array Oper}{draw:Bool}(hI:Inv c E σ a w){K:St→Option α}(h:xt E ops draw σ K=some r)
  (hn: ∀σ' a' w',K σ'=some r→Inv c E σ' a' w'→Q .normal a' w'):(Code.region id ops draw).wp P Q a w:=by
 cases draw
 ·refine wp_region_list (yg hE ops.toList 0 σ [] a w _ hI h fun σ' Wm a' w' h' rZ=> ?_)
  exact hn σ' a' w' (bA h').2 rZ
 ·unfold xt at h
  obtain⟨us,hl,hpt,lg,hK,_,ac3⟩:=Je _ _ _ _ _ h
  obtain⟨hok,hK⟩:=bA hK
  simp only[Bool.not_true,Bool.false_or,Bool.and_eq_true]at hok
  obtain⟨GQ,PS⟩:=hok
  unfold Mo at GQ
  simp only[Bool.and_eq_true,List.all_eq_true]at GQ
  obtain⟨aip,aiq⟩:=GQ
  have hz: ∀j o,ops.toList[j]? =some o→(o,j)∈ops.toList.zipIdx:=fun j o hj=>List.mem_zipIdx_iff_getElem?.2 hj
  refine wp_region_any hE.mixed (B4 (Q:=Q) (σ0:=σ) hE r hl hpt rfl (fun j o hj e he hbe=> ?_) (fun j o i p hj hi nH hb=> ?_) (fun j u i v hj hi nH hb=> ?_) (fun a' w' rZ=>hn _ a' w' hK rZ) ops.size (Array.replicate ops.size false) a _ ?_ ?_)
  ·have:=aip (o,j) (hz j o hj) e (by simpa using he)
   rw[hbe]at this
   simpa [Nat.blt_eq]using this
  ·have:=aiq (o,j) (hz j o hj) (p,i) (hz i p hi)
   simp only[hb,Bool.or_false,Bool.or_eq_true,Bool.not_eq_true',Bool.or_eq_false_iff]at this
   have zU: ¬Nat.ble j i=true:=by rw[Nat.ble_eq];omega
   have this:=this.resolve_left zU
   refine⟨fun d hd=>⟨fun QD=> ?_,fun QD=> ?_⟩,fun d hd QD=> ?_⟩
   ·exact iz this.1 (x:=d) (by simp[hd]) (by simp[QD])
   ·exact iz this.1 (x:=d) (by simp[hd]) (by simp[QD])
   ·exact iz this.2 (x:=d) (by simp[hd]) QD
  ·unfold Wd at PS
   simp only[List.all_eq_true]at PS
   have Wn:=ac3 j u hj
   have kg:=ac3 i v hi
   rw[Nat.zero_add]at Wn kg
   have:=PS _ Wn _ kg
   simp only[hb,Bool.or_false,Bool.or_eq_true,Bool.not_eq_true',Bool.or_eq_false_iff]at this
   have zU: ¬Nat.ble j i=true:=by rw[Nat.ble_eq];omega
   have this:=this.resolve_left zU
   refine⟨fun k hk=>⟨fun zZ=> ?_,fun zZ=> ?_⟩,fun k hk zZ=> ?_⟩
   ·exact iz this.1 (x:=k) hk (List.mem_append_left _ zZ)
   ·exact iz this.1 (x:=k) hk (List.mem_append_right _ zZ)
   ·exact iz this.2 (x:=k) hk zZ
  ·refine Nat.le_trans (List.length_filter_le _ _) ?_
   rw[List.length_range];exact Nat.le_refl _
  ·have hf: ∀j,(Array.replicate ops.size false).getD j false=false:=by
    intro j
    rw[Array.getD_eq_getD_getElem?,Array.getElem?_replicate]
    split<;>rfl
   obtain⟨⟨M,ν,hc⟩,hs,hd,rO⟩:=hI
   refine⟨by simp,fun j o _ hS=>(by rw[hf]at hS;cases hS),σ,(kk.start us σ).congr (fun j=>(by rw[hf];simp)),⟨M,ν,?_⟩,hs,hd,rO⟩
   exact hc.tr (Tr.drew hc.mem)
end VM
end
