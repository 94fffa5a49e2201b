/- A part of the proof of AwardBest of layer 25: a machine that reads a function of the program as an equation between values. -/
import Derived.Test.YtocmlaipoebfeaaGreatVm4
set_option linter.all false
section
namespace VM
open Go
variable{α:Type}{r:α}
theorem cw{υ τ:Ty}{y:υ.den}{k:τ.den→Option α}(h:bU υ τ y k=some r): ∃z,k z=some r∧ ∀k':τ.den→Option α,bU υ τ y k'=k' z:=by
 obtain⟨e,h⟩:=aY h
 subst e
 exact⟨y,h,fun k'=>by simp[bU]⟩
theorem fO{υ τ:Ty}{k:Option α}(h:iN υ τ k=some r):k=some r∧ ∀k':Option α,iN υ τ k'=k':=by
 obtain⟨e,h1⟩:=dt h
 clear h
 subst e
 exact⟨h1,fun k'=>by simp[iN]⟩
theorem cM{b:Bool}{K:Option α}(h:cond b K none=some r):K=some r∧ ∀K':Option α,cond b K' none=K':=by
 obtain⟨rfl,h⟩:=bz h
 exact⟨h,fun _=>rfl⟩
theorem oi{b:Bool}{K:Option α}(h:cond b none K=some r):K=some r∧ ∀K':Option α,cond b none K'=K':=by
 obtain⟨rfl,h⟩:=iq h
 exact⟨h,fun _=>rfl⟩
theorem qT: ∀{τ:Ty} {x:τ.den} {n:Nat} {k:(υ:Ty)→υ.den→Option α},rn τ x n k=some r→ ∃υ y,k υ y=some r∧ ∀k':(υ:Ty)→υ.den→Option α,rn τ x n k'=k' υ y
 | .pair a b,x,0,k,h=>⟨a,x.1,h,fun _=>rfl⟩
 | .pair a b,x,n+1,k,h=>by
  obtain⟨υ,y,h1,h2⟩:=qT (τ:=b) (x:=x.2) (n:=n) (k:=k) h
  exact⟨υ,y,h1,fun k'=>h2 k'⟩
 | .int _,_,_,_,h| .bool,_,_,_,h| .str,_,_,_,h| .slice _,_,_,_,h| .unit,_,_,_,h| .arr _ _,_,_,_,h=>by simp[rn]at h
theorem sg: ∀{τ:Ty} {x:τ.den} {n:Nat} {m:(υ:Ty)→υ.den→(υ.den→Option α)→Option α} {k:τ.den→Option α},
  (∀υ y (k:υ.den→Option α),m υ y k=some r→ ∃z,k z=some r∧ ∀k':υ.den→Option α,m υ y k'=k' z)→iM τ x n m k=some r→ ∃z,k z=some r∧ ∀k':τ.den→Option α,iM τ x n m k'=k' z
 | .pair a b,x,0,m,k,hm,h=>by
  obtain⟨z,h1,h2⟩:=hm a x.1 _ h
  exact⟨(z,x.2),h1,fun k'=>h2 _⟩
 | .pair a b,x,n+1,m,k,hm,h=>by
  obtain⟨z,h1,h2⟩:=sg (τ:=b) (x:=x.2) (n:=n) (m:=m) (k:=fun z=>k (x.1,z)) hm h
  exact⟨(x.1,z),h1,fun k'=>h2 (fun z=>k' (x.1,z))⟩
 | .int _,_,_,_,_,_,h| .bool,_,_,_,_,_,h| .str,_,_,_,_,_,h| .slice _,_,_,_,_,_,h| .unit,_,_,_,_,_,h| .arr _ _,_,_,_,_,_,h=>by simp[iM]at h
theorem eh: ∀{p:List Step} {τ:Ty} {x:τ.den} {k:(υ:Ty)→υ.den→Option α},sU p τ x k=some r→ ∃υ y,k υ y=some r∧ ∀k':(υ:Ty)→υ.den→Option α,sU p τ x k'=k' υ y
 |[],τ,x,k,h=>⟨τ,x,h,fun _=>rfl⟩
 | .gg n::p,τ,x,k,h=>by
  obtain⟨υ,y,h1,h2⟩:=qT (h:rn τ x n _=some r)
  obtain⟨υ',y',h3,h4⟩:=eh h1
  exact⟨υ',y',h3,fun k'=>(h2 _).trans (h4 k')⟩
 | .idx i::p,τ,x,k,h=>by
  cases τ with
  |arr n e=>
   obtain⟨υ',y',h3,h4⟩:=eh (p:=p) (τ:=e) (x:=List.getD x i e.zero) (k:=k) h
   exact⟨υ',y',h3,fun k'=>h4 k'⟩
  |_=>simp[sU,Wt]at h
theorem jS{υ:Ty}{y:υ.den}: ∀{p:List Step} {τ:Ty} {x:τ.den} {k:τ.den→Option α},pM υ y p τ x k=some r→ ∃z,k z=some r∧ ∀k':τ.den→Option α,pM υ y p τ x k'=k' z
 |[],τ,x,k,h=>cw h
 | .gg n::p,τ,x,k,h=>sg (fun _ _ _ h=>jS h) h
 | .idx i::p,τ,x,k,h=>by
  cases τ with
  |arr n e=>
   obtain⟨z,h1,h2⟩:=jS (p:=p) (τ:=e) (x:=List.getD x i e.zero) (k:=fun z=>k (List.set x i z)) h
   exact⟨_,h1,fun k'=>h2 (fun z=>k' (List.set x i z))⟩
  |_=>simp[pM,wT]at h
theorem np{a:aW}{k:IntKind→Int→Option α}(h:pV a k=some r): ∃i n,k i n=some r∧ ∀k':IntKind→Int→Option α,pV a k'=k' i n:=by
 obtain⟨i,n,rfl,h⟩:=iQ h
 exact⟨i,n,h,fun _=>rfl⟩
theorem IC{a:aW}{k:(τ:Ty)→τ.den→Option α}(h:CS a k=some r): ∃τ x,k τ x=some r∧ ∀k':(τ:Ty)→τ.den→Option α,CS a k'=k' τ x:=by
 unfold CS at h
 split at h
 ·exact⟨_,_,h,fun _=>rfl⟩
 ·cases h
theorem oL{a:Option aW}{d:Int}{k:Int→Option α}(h:rV a d k=some r): ∃n,k n=some r∧ ∀k':Int→Option α,rV a d k'=k' n:=by
 cases a with
 |none=>exact⟨d,h,fun _=>rfl⟩
 |some a=>
  obtain⟨i,n,h1,h2⟩:=np (h:pV a (fun _ x=>k x)=some r)
  exact⟨n,h1,fun k'=>h2 (fun _ x=>k' x)⟩
abbrev Ag(rd:List Nat)(H H':Nat→Option aR):Prop:= ∀i∈rd,H' i=H i
theorem jT{fz:Bool}{a:aW}{H:Nat→Option aR}{τ:Ty}{k:τ.den→List Nat→e9→Option α}(h:g6 fz a H τ k=some r):
  ∃y rd ups,k y rd ups=some r∧ ∀H',Ag rd H H'→ ∀k':τ.den→List Nat→e9→Option α,g6 fz a H' τ k'=k' y rd ups:=by
 cases a with
 |val υ x=>
  simp only[g6]at h
  obtain⟨z,h1,h2⟩:=cw h
  refine⟨z,[],[],h1,fun H' _ k'=> ?_⟩
  simp only[g6]
  exact h2 (fun y=>k' y [] [])
 |Bf υ x n=>
  simp only[g6]at h
  obtain⟨z,h1,h2⟩:=cw h
  refine⟨z,[],[],h1,fun H' _ k'=> ?_⟩
  simp only[g6]
  exact h2 (fun y=>k' y [] [])
 |emp=>
  cases τ with
  |slice e=>exact⟨[],[],[],h,fun _ _ _=>rfl⟩
  |_=>cases h
 |ref id=>
  have h:(match H id with
   |some (.own e l)=>bU (.slice e) τ l fun y=>k y [id] (cond fz [(id,some (.jP e l))] [])
   |some (.jP e l)=>bU (.slice e) τ l fun y=>k y [id] []
   |_=>none)=some r:=h
  cases hH:H id with
  |none=>rw[hH]at h;cases h
  |some e=>
   rw[hH]at h
   cases e with
   |own e l=>
    obtain⟨z,h1,h2⟩:=cw (h:bU (.slice e) τ l _=some r)
    refine⟨z,_,_,h1,fun H' hA k'=> ?_⟩
    have:H' id=some (.own e l):=by rw[hA id (by simp),hH]
    show(match H' id with
     |some (.own e l)=>bU (.slice e) τ l fun y=>k' y [id] (cond fz [(id,some (.jP e l))] [])
     |some (.jP e l)=>bU (.slice e) τ l fun y=>k' y [id] []
     |_=>none)=_
    rw[this];exact h2 _
   |jP e l=>
    obtain⟨z,h1,h2⟩:=cw (h:bU (.slice e) τ l _=some r)
    refine⟨z,_,_,h1,fun H' hA k'=> ?_⟩
    have:H' id=some (.jP e l):=by rw[hA id (by simp),hH]
    show(match H' id with
     |some (.own e l)=>bU (.slice e) τ l fun y=>k' y [id] (cond fz [(id,some (.jP e l))] [])
     |some (.jP e l)=>bU (.slice e) τ l fun y=>k' y [id] []
     |_=>none)=_
    rw[this];exact h2 _
   |obj _ _=>cases h
   |dE _ _ _ _=>cases h
   |gone=>cases h
 |any|Lw|eV _ _|lS _ _|tup _|CQ _ _=>cases h
theorem uF{id:Nat}{p:List Step}{H:Nat→Option aR}{k:Ty→Option α}(h:iO id p H k=some r): ∃υ,k υ=some r∧ ∀H',H' id=H id→ ∀k':Ty→Option α,iO id p H' k'=k' υ:=by
 unfold iO at h
 split at h
 ·rename_i τ x aS
  obtain⟨υ,y,h1,h2⟩:=eh h
  exact⟨υ,h1,fun H' hA k'=>by unfold iO;rw[hA,aS];exact h2 _⟩
 ·rename_i τ x _ _ aS
  obtain⟨υ,y,h1,h2⟩:=eh h
  exact⟨υ,h1,fun H' hA k'=>by unfold iO;rw[hA,aS];exact h2 _⟩
 ·rename_i e l aS
  split at h
  ·obtain⟨υ,y,h1,h2⟩:=eh h
   exact⟨υ,h1,fun H' hA k'=>by unfold iO;rw[hA,aS];exact h2 _⟩
  ·cases h
 ·rename_i e l aS
  split at h
  ·obtain⟨υ,y,h1,h2⟩:=eh h
   exact⟨υ,h1,fun H' hA k'=>by unfold iO;rw[hA,aS];exact h2 _⟩
  ·cases h
 ·cases h
theorem qU{H:Nat→Option aR}{id:Nat}{e:aR}{K:Option α}(h:lT H id e K=some r):K=some r∧ ∀H',H' id=H id→ ∀(e':aR) (K':Option α),lT H' id e' K'=K':=by
 obtain⟨h1,h2⟩:=gN h
 exact⟨h2,fun H' hA e' K'=>by unfold lT;rw[hA,h1]⟩
theorem JR{b:BinOp}{k:IntKind}{x y:Int}{K:aW→Option α}(h:oB b k x y K=some r): ∃v,K v=some r∧ ∀K':aW→Option α,oB b k x y K'=K' v:=by
 cases b<;>simp only[oB]at h ⊢ <;>first
  |exact⟨_,h,fun _=>rfl⟩
  |(obtain⟨h1,h2⟩:=oi h;exact⟨_,h1,fun _=>h2 _⟩)
  |cases h
theorem W6{b:BinOp}{k:IntKind}{x y:Int}{K:aW→Option α}(h:Pm b k x y K=some r): ∃v,K v=some r∧ ∀K':aW→Option α,Pm b k x y K'=K' v:=by
 cases b<;>simp only[Pm]at h ⊢ <;>first
  |(obtain⟨h1,h2⟩:=oi h;exact⟨_,h1,fun _=>h2 _⟩)
  |cases h
theorem L8{t:Option Ty}{op:BinOp}{τ:Ty}{x:τ.den}{υ:Ty}{y:υ.den}{K:aW→Option α}(h:xj t op τ x υ y K=some r): ∃v,K v=some r∧ ∀K':aW→Option α,xj t op τ x υ y K'=K' v:=by
 unfold xj at h ⊢
 split at h
 ·rename_i k x k' y
  cases hs:Pn op
  ·rw[hs]at h
   have h:(if k=k' then oB op k x y K else none)=some r:=h
   by_cases hk:k=k'
   ·rw[if_pos hk]at h
    obtain⟨v,h1,h2⟩:=JR h
    exact⟨v,h1,fun K'=>by simp only[cond_false,if_pos hk];exact h2 K'⟩
   ·rw[if_neg hk]at h;cases h
  ·rw[hs]at h
   obtain⟨v,h1,h2⟩:=W6 (h:Pm op k x y K=some r)
   exact⟨v,h1,fun K'=>by simp only[cond_true];exact h2 K'⟩
 ·split at h
  ·cases h
  ·obtain⟨h1,h2⟩:=fO h
   obtain⟨h3,h4⟩:=cM h1
   split at h3
   ·obtain⟨z,h5,h6⟩:=cw h3
    exact⟨_,h5,fun K'=>by rw[h2,h4];exact h6 _⟩
   ·obtain⟨z,h5,h6⟩:=cw h3
    exact⟨_,h5,fun K'=>by rw[h2,h4];exact h6 _⟩
   ·cases h3
theorem PN{u:UnOp}{a:aW}{K:aW→Option α}(h:Jv u a K=some r): ∃v,K v=some r∧ ∀K':aW→Option α,Jv u a K'=K' v:=by
 unfold Jv at h
 split at h<;>first
  |exact⟨_,h,fun _=>rfl⟩
  |cases h
theorem GO{up:Bool}: ∀{xs:List aW} {a:aW} {K:aW→Option α},OW up a xs K=some r→ ∃v,K v=some r∧ ∀K':aW→Option α,OW up a xs K'=K' v
 |[],a,K,h=>⟨a,h,fun _=>rfl⟩
 |b::xs,a,K,h=>by
  unfold OW at h
  obtain⟨k,x,h1,h2⟩:=np h
  obtain⟨k',y,h3,h4⟩:=np h1
  by_cases hk:k=k'
  ·rw[if_pos hk]at h3
   obtain⟨v,h5,h6⟩:=GO h3
   refine⟨v,h5,fun K'=> ?_⟩
   unfold OW
   rw[h2,h4,if_pos hk]
   exact h6 K'
  ·rw[if_neg hk]at h3;cases h3
theorem PO{τ:Ty}{a:aW}{H:Nat→Option aR}{K:fa α}(h:CT τ a H K=some r): ∃v rd ups,K v rd ups=some r∧ ∀H',Ag rd H H'→ ∀K':fa α,CT τ a H' K'=K' v rd ups:=by
 unfold CT at h
 split at h
 ·exact⟨_,_,_,h,fun _ _ _=>rfl⟩
 ·exact⟨_,_,_,h,fun _ _ _=>rfl⟩
 ·exact⟨_,_,_,h,fun _ _ _=>rfl⟩
 ·exact⟨_,_,_,h,fun _ _ _=>rfl⟩
 ·split at h
  ·rename_i aS
   exact⟨_,_,_,h,fun H' hA K'=>by unfold CT;simp only;rw[hA _ (by simp),aS]⟩
  ·rename_i aS
   exact⟨_,_,_,h,fun H' hA K'=>by unfold CT;simp only;rw[hA _ (by simp),aS]⟩
  ·cases h
 ·cases h
theorem PQ{id:Nat}{e:Ty}{a b:aW}{H:Nat→Option aR}{K:fa α}(h:CU id e a b H K=some r): ∃v rd ups,K v rd ups=some r∧id∈rd∧ ∀H',Ag rd H H'→ ∀K':fa α,CU id e a b H' K'=K' v rd ups:=by
 unfold CU at h
 obtain⟨ys,rd,ups,h1,h2⟩:=jT h
 split at h1
 ·obtain⟨h3,h4⟩:=cM h1
  refine⟨_,_,_,h3,by simp,fun H' hA K'=> ?_⟩
  unfold CU
  rw[h2 H' (fun i hi=>hA i (List.mem_cons_of_mem _ hi))]
  exact h4 _
 ·rename_i j
  split at h1
  ·rename_i e' l hj
   obtain⟨z,h3,h4⟩:=cw h1
   obtain⟨h5,h6⟩:=cM h3
   refine⟨_,_,_,h5,by simp,fun H' hA K'=> ?_⟩
   unfold CU
   rw[h2 H' (fun i hi=>hA i (List.mem_cons_of_mem _ (List.mem_cons_of_mem _ hi)))]
   simp only
   rw[hA j (by simp),hj]
   simp only
   rw[h4]
   exact h6 _
  ·cases h1
 ·cases h1
theorem xF{e:Ty}{n:Nat}{H:Nat→Option aR}: ∀{ps:List (Nat×aW)} {l:List e.den} {Af:List Nat} {xG:e9} {K:List e.den→List Nat→e9→Option α},pX e H n ps l Af xG K=some r→
  ∃l' rd ups,K l' rd ups=some r∧(∀i∈Af,i∈rd)∧ ∀H',Ag rd H H'→ ∀K':List e.den→List Nat→e9→Option α,pX e H' n ps l Af xG K'=K' l' rd ups
 |[],l,Af,xG,K,h=>⟨l,Af,xG,h,fun _ h=>h,fun _ _ _=>rfl⟩
 |p::ps,l,Af,xG,K,h=>by
  unfold pX at h
  obtain⟨h1,h2⟩:=cM h
  obtain⟨y,WL,GI,h3,h4⟩:=jT h1
  obtain⟨l',rd,ups,h5,h6,h7⟩:=xF h3
  refine⟨l',rd,ups,h5,fun i hi=>h6 i (List.mem_append_right _ hi),fun H' hA K'=> ?_⟩
  unfold pX
  rw[h2,h4 H' (fun i hi=>hA i (h6 i (List.mem_append_left _ hi)))]
  exact h7 H' hA K'
theorem Ah{τ:Ty}{H:Nat→Option aR}: ∀{ps:List (Nat×aW)} {x:τ.den} {Af:List Nat} {xG:e9} {K:τ.den→List Nat→e9→Option α},oC τ H ps x Af xG K=some r→
  ∃x' rd ups,K x' rd ups=some r∧(∀i∈Af,i∈rd)∧ ∀H',Ag rd H H'→ ∀K':τ.den→List Nat→e9→Option α,oC τ H' ps x Af xG K'=K' x' rd ups
 |[],x,Af,xG,K,h=>⟨x,Af,xG,h,fun _ h=>h,fun _ _ _=>rfl⟩
 |p::ps,x,Af,xG,K,h=>by
  unfold oC at h
  obtain⟨υ,z,h1,h2⟩:=qT h
  obtain⟨y,WL,GI,h3,h4⟩:=jT h1
  obtain⟨z',h5,h6⟩:=sg (m:=fun υ' _ k'=>bU υ υ' y k') (fun υ' y' k hk=>cw hk) h3
  obtain⟨x',rd,ups,h7,h8,h9⟩:=Ah h5
  refine⟨x',rd,ups,h7,fun i hi=>h8 i (List.mem_append_right _ hi),fun H' hA K'=> ?_⟩
  unfold oC
  rw[h2,h4 H' (fun i hi=>hA i (h8 i (List.mem_append_left _ hi))),h6]
  exact h9 H' hA K'
theorem L9{H:Nat→Option aR}{v:aW}{a:Ty}{k:a.den→List Nat→e9→Option α}(h:vf v H a k=some r):
  ∃x rd ups,k x rd ups=some r∧ ∀H',Ag rd H H'→ ∀k':a.den→List Nat→e9→Option α,vf v H' a k'=k' x rd ups:=by
 unfold vf at h
 split at h
 ·split at h
  ·obtain⟨z,h1,h2⟩:=cw h
   refine⟨_,_,_,h1,fun H' _ k'=> ?_⟩
   unfold vf
   simp only
   rw[h2]
  ·cases h
 ·rename_i k0 pB
  obtain⟨y,rd,ups,h1,h2⟩:=jT h
  refine⟨y,rd,ups,h1,fun H' hA k'=> ?_⟩
  unfold vf
  split
  ·exact(pB _ _ rfl HEq.rfl).elim
  ·exact h2 H' hA _
theorem Ds{H:Nat→Option aR}: ∀{τ:Ty} {vs:List aW} {k:τ.den→List Nat→e9→Option α},lU H τ vs k=some r→
  ∃x rd ups,k x rd ups=some r∧ ∀H',Ag rd H H'→ ∀k':τ.den→List Nat→e9→Option α,lU H' τ vs k'=k' x rd ups
 | .unit,[],k,h=>⟨(),[],[],h,fun _ _ _=>rfl⟩
 | .pair a b,v::vs,k,h=>by
  unfold lU at h
  obtain⟨y,rd,ups,h1,h2⟩:=L9 h
  obtain⟨ys,uw,ju,h3,h4⟩:=Ds h1
  refine⟨(y,ys),_,_,h3,fun H' hA k'=> ?_⟩
  unfold lU
  rw[h2 H' (fun i hi=>hA i (List.mem_append_right _ hi)),h4 H' (fun i hi=>hA i (List.mem_append_left _ hi))]
 | .unit,_::_,_,h=>by simp[lU]at h
 | .pair _ _,[],_,h=>by simp[lU]at h
 | .int _,_,_,h| .bool,_,_,h| .str,_,_,h| .slice _,_,_,h| .arr _ _,_,_,h=>by simp[lU]at h
theorem xH: ∀{ld:List aW} {H:Nat→Option aR} {K:List aW→List Nat→e9→Option α},pY H ld K=some r→
  ∃cs rd ups,K cs rd ups=some r∧ ∀H',Ag rd H H'→ ∀K':List aW→List Nat→e9→Option α,pY H' ld K'=K' cs rd ups
 |[],H,K,h=>⟨[],[],[],h,fun _ _ _=>rfl⟩
 |a::ld,H,K,h=>by
  unfold pY at h
  split at h
  ·rename_i id
   split at h
   ·rename_i τ x aS
    obtain⟨cs,rd,ups,h1,h2⟩:=xH h
    refine⟨_,_,_,h1,fun H' hA K'=> ?_⟩
    unfold pY
    simp only
    rw[hA id (by simp),aS]
    simp only
    rw[h2 (bm H' id (some .gone)) (fun i hi=>by
     by_cases bn:i=id
     ·subst bn;rw[ak,ak]
     ·rw[al _ _ bn,al _ _ bn];exact hA i (List.mem_cons_of_mem _ hi))]
   ·cases h
  ·rename_i pB
   obtain⟨cs,rd,ups,h1,h2⟩:=xH h
   refine⟨_,_,_,h1,fun H' hA K'=> ?_⟩
   unfold pY
   split
   ·exact absurd rfl (pB _)
   ·rw[h2 H' hA]
end VM
end
section
namespace VM
open Go
variable{α:Type}{r:α}
theorem Dt{m:AM}{a:aW}{H:Nat→Option aR}{k:m.den→(Nat→Option aR)→List Nat→e9→e9→List (Nat×Ty)→Option α}(h:jZ m a H k=some r):
  ∃y rd uo uf io,∃g:(Nat→Option aR)→(Nat→Option aR),k y (g H) rd uo uf io=some r∧(∀H' i,H' i=H i→g H' i=g H i)∧
   ∀H',Ag rd H H'→ ∀k':m.den→(Nat→Option aR)→List Nat→e9→e9→List (Nat×Ty)→Option α,jZ m a H' k'=k' y (g H') rd uo uf io:=by
 have JS: ∀(d:Nat) (v:Option aR) (H':Nat→Option aR) (i:Nat),H' i=H i→bm H' d v i=bm H d v i:=by
  intro d v H' i hi
  by_cases aS:i=d
  ·subst aS;rw[ak,ak]
  ·rw[al _ _ aS,al _ _ aS,hi]
 unfold jZ at h
 split at h
 ·rename_i τ k
  obtain⟨y,rd,ups,h1,h2⟩:=jT h
  cases ups with
  |nil=>
   refine⟨y,rd,[],[],[],fun H=>H,h1,fun _ _ h=>h,fun H' hA k'=> ?_⟩
   unfold jZ;simp only;rw[h2 H' hA]
  |cons u rest=>
   refine⟨y,rd,[],u::rest,[],fun H=>bm H u.1 u.2,h1,fun H' i hi=>JS _ _ H' i hi,fun H' hA k'=> ?_⟩
   unfold jZ;simp only;rw[h2 H' hA]
 ·rename_i e k
  split at h
  ·exact⟨[],[],[],[],[],fun H=>H,h,fun _ _ h=>h,fun _ _ _=>rfl⟩
  ·rename_i id
   split at h
   ·rename_i e' l aS
    obtain⟨z,h1,h2⟩:=cw h
    refine⟨z,[id],_,_,_,fun H=>bm H id (some .gone),h1,fun H' i hi=>JS _ _ H' i hi,fun H' hA k'=> ?_⟩
    unfold jZ;simp only;rw[hA id (by simp),aS];simp only;rw[h2]
   ·cases h
  ·cases h
 ·rename_i τ k
  split at h
  ·rename_i id
   split at h
   ·rename_i υ x aS
    obtain⟨z,h1,h2⟩:=cw h
    refine⟨z,[id],_,_,_,fun H=>bm H id (some .gone),h1,fun H' i hi=>JS _ _ H' i hi,fun H' hA k'=> ?_⟩
    unfold jZ;simp only;rw[hA id (by simp),aS];simp only;rw[h2]
   ·cases h
  ·cases h
 ·rename_i f τ k
  split at h
  ·rename_i f' cs
   obtain⟨h1,h2⟩:=cM h
   obtain⟨x,rd,ups,h3,h4⟩:=Ds h1
   cases ups with
   |nil=>
    refine⟨x,rd,[],[],[],fun H=>H,h3,fun _ _ h=>h,fun H' hA k'=> ?_⟩
    unfold jZ;simp only;rw[h2,h4 H' hA]
   |cons _ _=>cases h3
  ·cases h
 ·cases h
 ·rename_i τ k
  split at h
  ·obtain⟨z,h1,h2⟩:=cw h
   refine⟨z,[],[],[],[],fun H=>H,h1,fun _ _ h=>h,fun H' hA k'=> ?_⟩
   unfold jZ;simp only;rw[h2]
  ·cases h
theorem Du: ∀{ms:List AM} {ld:List aW} {H:Nat→Option aR} {Af:List Nat} {uo0 uf0:e9} {io0:List (Nat×Ty)} {K:HP ms→List Nat→e9→e9→List (Nat×Ty)→Option α},n6 ms ld H Af uo0 uf0 io0 K=some r→
  ∃x rd uo uf io,K x rd uo uf io=some r∧(∀i∈Af,i∈rd)∧ ∀H',Ag rd H H'→ ∀K':HP ms→List Nat→e9→e9→List (Nat×Ty)→Option α,n6 ms ld H' Af uo0 uf0 io0 K'=K' x rd uo uf io
 |[],[],H,Af,uo0,uf0,io0,K,h=>⟨(),_,_,_,_,h,fun _ h=>h,fun _ _ _=>rfl⟩
 |[m],[a],H,Af,uo0,uf0,io0,K,h=>by
  obtain⟨y,rd,uo,uf,io,g,h1,h2,h3⟩:=Dt (h:jZ m a H _=some r)
  exact⟨y,_,_,_,_,h1,fun i hi=>List.mem_append_right _ hi,fun H' hA K'=>h3 H' (fun i hi=>hA i (List.mem_append_left _ hi)) _⟩
 |m::n::ms,a::ld,H,Af,uo0,uf0,io0,K,h=>by
  obtain⟨y,rd,uo,uf,io,g,h1,h2,h3⟩:=Dt (h:jZ m a H _=some r)
  obtain⟨ys,uw,CD,CE,zl,h4,h5,h6⟩:=Du (ms:=n::ms) h1
  refine⟨(y,ys),uw,CD,CE,zl,h4,fun i hi=>h5 i (List.mem_append_right _ hi),fun H' hA K'=> ?_⟩
  refine(h3 H' (fun i hi=>hA i (h5 i (List.mem_append_left _ hi))) _).trans ?_
  exact h6 (g H') (fun i hi=>h2 H' i (hA i hi)) _
 |[],_::_,_,_,_,_,_,_,h=>by simp[n6]at h
 |[_],[],_,_,_,_,_,_,h=>by simp[n6]at h
 |[_],_::_::_,_,_,_,_,_,_,h=>by simp[n6]at h
 |_::_::_,[],_,_,_,_,_,_,h=>by simp[n6]at h
theorem Ma{id i:Nat}: ∀{n:Nat},i∈CW id n↔id≤i∧i<id+n
 |0=>by simp[CW]
 |n+1=>by simp only[CW,List.mem_cons,Ma];omega
theorem rL{H H':Nat→Option aR}{id:Nat}: ∀{n:Nat},(∀i∈CW id n,H' i=H i)→oD H' id n=oD H id n
 |0,_=>rfl
 |n+1,h=>by
  unfold oD
  rw[h (id+n) (by simp[CW]),rL fun i hi=>h i (by simp[CW,hi])]
theorem Mb{E:Env}{f id:Nat}{ld:List aW}{H:Nat→Option aR}{K:fa α}(h:vh E f ld id H K=some r): ∃v rd ups,K v rd ups=some r∧ ∀H',Ag rd H H'→ ∀K':fa α,vh E f ld id H' K'=K' v rd ups:=by
 unfold vh at h
 split at h
 ·cases h
 ·rename_i S hS
  obtain⟨x,rd,uo,uf,io,h1,_,h2⟩:=Du h
  obtain⟨y,hy,h3⟩:=Option.bind_eq_some_iff.1 h1
  obtain⟨h4,h5⟩:=bz h3
  refine⟨_,_,_,h5,fun H' hA K'=> ?_⟩
  unfold vh
  rw[hS]
  simp only
  rw[h2 H' (fun i hi=>hA i (List.mem_append_right _ (List.mem_append_right _ hi))),hy]
  simp only[Option.bind_some]
  rw[rL (fun i hi=>hA i (List.mem_append_left _ hi)),h4]
  rfl
theorem JT{t:Ty}{z:Bool}{a:aW}{lo hi mx:Option aW}{H:Nat→Option aR}{K:fa α}(h:lV t z a lo hi mx H K=some r): ∃v rd ups,K v rd ups=some r∧ ∀H',Ag rd H H'→ ∀K':fa α,lV t z a lo hi mx H' K'=K' v rd ups:=by
 unfold lV at h
 split at h
 ·obtain⟨h1,e1⟩:=cM h
  obtain⟨l,h2,e2⟩:=oL h1
  obtain⟨m,h3,e3⟩:=oL h2
  obtain⟨h4,e4⟩:=cM h3
  exact⟨_,_,_,h4,fun H' _ K'=>by unfold lV;simp only;rw[e1,e2,e3,e4]⟩
 ·cases z
  ·obtain⟨h1,e1⟩:=cM (h:cond mx.isNone _ none=some r)
   obtain⟨l,h2,e2⟩:=oL h1
   obtain⟨m,h3,e3⟩:=oL h2
   obtain⟨h4,e4⟩:=cM h3
   exact⟨_,_,_,h4,fun H' _ K'=>by unfold lV;simp only[cond_false];rw[e1,e2,e3,e4]⟩
  ·exact⟨_,_,_,h,fun H' _ K'=>by unfold lV;rfl⟩
 ·rename_i e gG
  obtain⟨y,rd,ups,h1,e1⟩:=jT h
  cases z
  ·obtain⟨h2,e2⟩:=cM (h1:cond (mx.isNone||hi.isSome) _ none=some r)
   obtain⟨l,h3,e3⟩:=oL h2
   obtain⟨m,h4,e4⟩:=oL h3
   obtain⟨n,h5,e5⟩:=oL h4
   obtain⟨h6,e6⟩:=cM h5
   refine⟨_,_,_,h6,fun H' hA K'=> ?_⟩
   unfold lV
   simp only
   rw[e1 H' hA]
   simp only[cond_false]
   rw[e2,e3,e4,e5,e6]
  ·refine⟨_,_,_,(h1:K .emp rd []=some r),fun H' hA K'=> ?_⟩
   unfold lV
   simp only
   rw[e1 H' hA]
   rfl
 ·cases h
theorem zI{τ:Ty}{a i:aW}{H:Nat→Option aR}{K:fa α}(h:dQ τ a i H K=some r): ∃v rd ups,K v rd ups=some r∧ ∀H',Ag rd H H'→ ∀K':fa α,dQ τ a i H' K'=K' v rd ups:=by
 unfold dQ at h
 obtain⟨k,n,h,e0⟩:=np h
 split at h
 ·split at h
  ·obtain⟨z,h1,e1⟩:=cw h
   obtain⟨h2,e2⟩:=cM h1
   exact⟨_,_,_,h2,fun H' _ K'=>by unfold dQ;rw[e0];simp only;rw[e1,e2]⟩
  ·split at h
   ·rename_i aS
    obtain⟨h1,e1⟩:=fO h
    obtain⟨h2,e2⟩:=cM h1
    exact⟨_,_,_,h2,fun H' hA K'=>by unfold dQ;rw[e0];simp only;rw[hA _ (by simp),aS];simp only;rw[e1,e2]⟩
   ·rename_i aS
    obtain⟨h1,e1⟩:=fO h
    obtain⟨h2,e2⟩:=cM h1
    exact⟨_,_,_,h2,fun H' hA K'=>by unfold dQ;rw[e0];simp only;rw[hA _ (by simp),aS];simp only;rw[e1,e2]⟩
   ·cases h
  ·cases h
 ·split at h
  ·obtain⟨υ,h1,e1⟩:=uF h
   obtain⟨h2,e2⟩:=fO h1
   obtain⟨h3,e3⟩:=cM h2
   exact⟨_,_,_,h3,fun H' hA K'=>by unfold dQ;rw[e0];simp only;rw[e1 H' (hA _ (by simp)),e2,e3]⟩
  ·obtain⟨z,h1,e1⟩:=cw h
   obtain⟨h2,e2⟩:=cM h1
   exact⟨_,_,_,h2,fun H' _ K'=>by unfold dQ;rw[e0];simp only;rw[e1,e2]⟩
  ·cases h
 ·cases h
theorem JU{τ:Ty}{a i:aW}{K:aW→Option α}(h:pZ τ a i K=some r): ∃v,K v=some r∧ ∀K':aW→Option α,pZ τ a i K'=K' v:=by
 unfold pZ at h
 obtain⟨k,n,h,e0⟩:=np h
 split at h
 ·obtain⟨z,h1,e1⟩:=cw h
  obtain⟨h2,e2⟩:=cM h1
  exact⟨_,h2,fun K'=>by unfold pZ;rw[e0];simp only;rw[e1,e2]⟩
 ·obtain⟨h2,e2⟩:=cM h
  exact⟨_,h2,fun K'=>by unfold pZ;rw[e0];simp only;rw[e2]⟩
 ·cases h
theorem Mc{a:aW}{H:Nat→Option aR}{K:(υ:Ty)→υ.den→List Nat→Option α}(h:gA a H K=some r): ∃υ y rd,K υ y rd=some r∧ ∀H',Ag rd H H'→ ∀K':(υ:Ty)→υ.den→List Nat→Option α,gA a H' K'=K' υ y rd:=by
 unfold gA at h
 split at h
 ·exact⟨_,_,_,h,fun _ _ _=>rfl⟩
 ·split at h
  ·rename_i aS
   obtain⟨υ,y,h1,e1⟩:=eh h
   exact⟨_,_,_,h1,fun H' hA K'=>by unfold gA;simp only;rw[hA _ (by simp),aS];simp only;rw[e1]⟩
  ·rename_i aS
   split at h
   ·obtain⟨υ,y,h1,e1⟩:=eh h
    exact⟨_,_,_,h1,fun H' hA K'=>by unfold gA;simp only;rw[hA _ (by simp),aS];simp only;rw[e1]⟩
   ·cases h
  ·rename_i aS
   split at h
   ·obtain⟨υ,y,h1,e1⟩:=eh h
    exact⟨_,_,_,h1,fun H' hA K'=>by unfold gA;simp only;rw[hA _ (by simp),aS];simp only;rw[e1]⟩
   ·cases h
  ·cases h
 ·cases h
theorem JV{τ:Ty}{a v:aW}{H:Nat→Option aR}{K:fa α}(h:g8 τ a v H K=some r): ∃u rd ups,K u rd ups=some r∧ ∀H',Ag rd H H'→ ∀K':fa α,g8 τ a v H' K'=K' u rd ups:=by
 unfold g8 at h
 split at h
 ·obtain⟨y,rd,ups,h1,e1⟩:=jT h
  split at h1
  ·rename_i aS
   obtain⟨z,h2,e2⟩:=jS h1
   exact⟨_,_,_,h2,fun H' hA K'=>by
    unfold g8;simp only
    rw[e1 H' (fun i hi=>hA i (List.mem_cons_of_mem _ hi))]
    rw[hA _ (by simp),aS];simp only;rw[e2]⟩
  ·rename_i aS
   split at h1
   ·obtain⟨h2,e2⟩:=oi h1
    obtain⟨z,h3,e3⟩:=jS h2
    exact⟨_,_,_,h3,fun H' hA K'=>by
     unfold g8;simp only
     rw[e1 H' (fun i hi=>hA i (List.mem_cons_of_mem _ hi))]
     rw[hA _ (by simp),aS];simp only;rw[e2,e3]⟩
   ·cases h1
  ·cases h1
 ·cases h
theorem PS{j:Nat}{q:List Step}{τ:Ty}{x:τ.den}{H:Nat→Option aR}{k:τ.den→e9→Option α}(h:wb j q τ x H k=some r): ∃z ups,k z ups=some r∧ ∀H',H' j=H j→ ∀k':τ.den→e9→Option α,wb j q τ x H' k'=k' z ups:=by
 unfold wb at h
 split at h
 ·rename_i hj
  obtain⟨z,h1,e1⟩:=jS h
  exact⟨_,_,h1,fun H' hA k'=>by unfold wb;rw[hA,hj];simp only;rw[e1]⟩
 ·rename_i hj
  obtain⟨z,h1,e1⟩:=jS h
  exact⟨_,_,h1,fun H' hA k'=>by unfold wb;rw[hA,hj];simp only;rw[e1]⟩
 ·cases h
abbrev Pts(F:(Nat→Option aR)→fa α→Option α)(H:Nat→Option aR)(K:fa α)(r:α):Prop:=
 ∃v rd ups,K v rd ups=some r∧ ∀H',Ag rd H H'→ ∀K':fa α,F H' K'=K' v rd ups
theorem Md{τ:Ty}{a:aW}{H:Nat→Option aR}{K:fa α}(h:(gA a H fun υ y rd=>bU υ τ y fun z=>K (.val τ z) rd [])=some r):
  Pts (fun H K=>gA a H fun υ y rd=>bU υ τ y fun z=>K (.val τ z) rd []) H K r:=by
 obtain⟨υ,y,rd,h1,e1⟩:=Mc h
 obtain⟨z,h2,e2⟩:=cw h1
 exact⟨_,_,_,h2,fun H' hA K'=>by simp only;rw[e1 H' hA,e2]⟩
theorem ab3{id:Nat}{p:List Step}{H:Nat→Option aR}{K:(υ:Ty)→υ.den→List Nat→Option α}(h:gA (.eV id p) H K=some r): ∃υ y,K υ y [id]=some r:=by
 unfold gA at h
 simp only at h
 split at h
 ·obtain⟨υ,y,h1,_⟩:=eh h;exact⟨υ,y,h1⟩
 ·split at h
  ·obtain⟨υ,y,h1,_⟩:=eh h;exact⟨υ,y,h1⟩
  ·cases h
 ·split at h
  ·obtain⟨υ,y,h1,_⟩:=eh h;exact⟨υ,y,h1⟩
  ·cases h
 ·cases h
theorem Me{τ:Ty}{id:Nat}{p:List Step}{H:Nat→Option aR}{K:fa α}(h:(gA (.eV id p) H fun υ y rd=>bU υ τ y fun z=>K (.val τ z) rd [])=some r):
  ∃z,K (.val τ z) [id] []=some r∧ ∀H',H' id=H id→ ∀K':fa α,(gA (.eV id p) H' fun υ y rd=>bU υ τ y fun z=>K' (.val τ z) rd [])=K' (.val τ z) [id] []:=by
 unfold gA at h
 simp only at h
 split at h
 ·rename_i aS
  obtain⟨υ,y,h1,e1⟩:=eh h
  obtain⟨z,h2,e2⟩:=cw h1
  exact⟨_,h2,fun H' hA K'=>by unfold gA;simp only;rw[hA,aS];simp only;rw[e1,e2]⟩
 ·rename_i aS
  split at h
  ·obtain⟨υ,y,h1,e1⟩:=eh h
   obtain⟨z,h2,e2⟩:=cw h1
   exact⟨_,h2,fun H' hA K'=>by unfold gA;simp only;rw[hA,aS];simp only;rw[e1,e2]⟩
  ·cases h
 ·rename_i aS
  split at h
  ·obtain⟨υ,y,h1,e1⟩:=eh h
   obtain⟨z,h2,e2⟩:=cw h1
   exact⟨_,h2,fun H' hA K'=>by unfold gA;simp only;rw[hA,aS];simp only;rw[e1,e2]⟩
  ·cases h
 ·cases h
theorem Mf{τ:Ty}{a:aW}{H:Nat→Option aR}{K:fa α}(h:pA τ a H K=some r):Pts (pA τ a) H K r:=by
 unfold pA at h
 simp only at h
 split at h
 ·rename_i id p
  split at h
  ·rename_i υ x q j aS
   cases hp:CP p q
   ·cases C1:rm p q
    ·rw[hp,C1]at h
     simp only[cond_false]at h
     obtain⟨υ',y,h1,e1⟩:=eh h
     obtain⟨z,h2,e2⟩:=cw h1
     exact⟨_,_,_,h2,fun H' hA K'=>by
      unfold pA;simp only;rw[hA id (by simp),aS];simp only
      rw[hp,C1];simp only[cond_false];rw[e1,e2]⟩
    ·rw[hp,C1]at h
     simp only[cond_false,cond_true]at h
     obtain⟨z,ups,h1,e1⟩:=PS h
     obtain⟨υ',y,h2,e2⟩:=eh h1
     obtain⟨z',h3,e3⟩:=cw h2
     exact⟨_,_,_,h3,fun H' hA K'=>by
      unfold pA;simp only;rw[hA id (by simp),aS];simp only
      rw[hp,C1];simp only[cond_false,cond_true];rw[e1 H' (hA j (by simp)),e2,e3]⟩
   ·rw[hp]at h
    simp only[cond_true]at h
    obtain⟨h1,e1⟩:=cM h
    exact⟨_,_,_,h1,fun H' hA K'=>by
     unfold pA;simp only;rw[hA id (by simp),aS];simp only
     rw[hp];simp only[cond_true];rw[e1]⟩
  ·rename_i pB
   obtain⟨z,h1,e1⟩:=Me h
   refine⟨_,_,_,h1,fun H' hA K'=> ?_⟩
   unfold pA;simp only;rw[hA id (by simp)]
   split
   ·rename_i aS;exact absurd aS (pB _ _ _ _)
   ·exact e1 H' (hA id (by simp)) K'
 ·rename_i pB
  obtain⟨v,rd,ups,h1,e1⟩:=Md h
  refine⟨v,rd,ups,h1,fun H' hA K'=> ?_⟩
  have:pA τ a H' K'=gA a H' fun υ y rd=>bU υ τ y fun z=>K' (.val τ z) rd []:=by
   unfold pA
   cases a<;>first|rfl|exact absurd rfl (pB _ _)
  rw[this]
  exact e1 H' hA K'
theorem Dv{τ:Ty}{id k:Nat}{e:Ty}{q:List Step}{υ:Ty}{x:υ.den}{H:Nat→Option aR}{K:fa α}(h:vi τ id k e q υ x H K=some r):
  ∃v ups,K v [id,k] ups=some r∧ ∀H',H' k=H k→ ∀K':fa α,vi τ id k e q υ x H' K'=K' v [id,k] ups:=by
 unfold vi at h
 split at h
 ·rename_i aS
  obtain⟨h1,e1⟩:=fO h
  obtain⟨h2,e2⟩:=fO h1
  obtain⟨z,h3,e3⟩:=jS h2
  exact⟨_,_,h3,fun H' hA K'=>by unfold vi;rw[hA,aS];simp only;rw[e1,e2,e3]⟩
 ·cases h
theorem uG{τ:Ty}{id:Nat}{p:List Step}{v:aW}{H:Nat→Option aR}{K:fa α}(h:g8 τ (.eV id p) v H K=some r):
  ∃u rd ups,id∈rd∧K u rd ups=some r∧ ∀H',Ag rd H H'→ ∀K':fa α,g8 τ (.eV id p) v H' K'=K' u rd ups:=by
 unfold g8 at h
 simp only at h
 obtain⟨y,rd,ups,h1,e1⟩:=jT h
 split at h1
 ·rename_i aS
  obtain⟨z,h2,e2⟩:=jS h1
  exact⟨_,_,_,by simp,h2,fun H' hA K'=>by
   unfold g8;simp only
   rw[e1 H' (fun i hi=>hA i (List.mem_cons_of_mem _ hi))]
   rw[hA _ (by simp),aS];simp only;rw[e2]⟩
 ·rename_i aS
  split at h1
  ·obtain⟨h2,e2⟩:=oi h1
   obtain⟨z,h3,e3⟩:=jS h2
   exact⟨_,_,_,by simp,h3,fun H' hA K'=>by
    unfold g8;simp only
    rw[e1 H' (fun i hi=>hA i (List.mem_cons_of_mem _ hi))]
    rw[hA _ (by simp),aS];simp only;rw[e2,e3]⟩
  ·cases h1
 ·cases h1
theorem uH{E:Env}{τ:Ty}{a v:aW}{H:Nat→Option aR}{K:fa α}(h:fL E τ a v H K=some r):
  ∃u rd ups,K u rd ups=some r∧ ∀H',Ag rd H H'→ ∀K':fa α,fL E τ a v H' K'=K' u rd ups:=by
 have h0:=h
 unfold fL at h
 simp only at h
 split at h
 ·rename_i id p
  split at h
  ·rename_i υ x aS
   split at h
   ·rename_i q e k oc
    cases hp:CP p q
    ·rw[hp]at h
     simp only[cond_false]at h
     obtain⟨u,rd,ups,hi,h1,e1⟩:=uG h
     refine⟨u,rd,ups,h1,fun H' hA K'=> ?_⟩
     unfold fL;simp only;rw[hA id hi,aS];simp only;rw[oc];simp only;rw[hp];simp only[cond_false]
     exact e1 H' hA K'
    ·rw[hp]at h
     simp only[cond_true]at h
     obtain⟨u,ups,h1,e1⟩:=Dv h
     refine⟨u,_,ups,h1,fun H' hA K'=> ?_⟩
     unfold fL;simp only;rw[hA id (by simp),aS];simp only;rw[oc];simp only;rw[hp];simp only[cond_true]
     exact e1 H' (hA k (by simp)) K'
   ·rename_i pB
    obtain⟨u,rd,ups,hi,h1,e1⟩:=uG h
    refine⟨u,rd,ups,h1,fun H' hA K'=> ?_⟩
    unfold fL;simp only;rw[hA id hi,aS];simp only
    exact e1 H' hA K'
  ·rename_i υ x q j aS
   have s7:(g6 true v H τ fun y rd ups=>pM τ y p υ x fun z=>K .any (id::rd) (ups++[(id,some (cond (rm p q) (.obj υ z) (.dE υ z q j)))]))=some r→
     ∃u rd ups,id∈rd∧K u rd ups=some r∧ ∀H',Ag rd H H'→ ∀K':fa α,(g6 true v H' τ fun y rd ups=>pM τ y p υ x fun z=>K' .any (id::rd) (ups++[(id,some (cond (rm p q) (.obj υ z) (.dE υ z q j)))]))=K' u rd ups:=by
    intro h
    obtain⟨y,rd,ups,h1,e1⟩:=jT h
    obtain⟨z,h2,e2⟩:=jS h1
    exact⟨_,_,_,by simp,h2,fun H' hA K'=>by rw[e1 H' (fun i hi=>hA i (List.mem_cons_of_mem _ hi)),e2]⟩
   split at h
   ·rename_i q' e k oc
    cases hp:(CP p q&&CP q q')
    ·rw[hp]at h
     simp only[cond_false]at h
     obtain⟨u,rd,ups,hi,h1,e1⟩:=s7 h
     refine⟨u,rd,ups,h1,fun H' hA K'=> ?_⟩
     unfold fL;simp only;rw[hA id hi,aS];simp only;rw[oc];simp only;rw[hp];simp only[cond_false]
     exact e1 H' hA K'
    ·rw[hp]at h
     simp only[cond_true]at h
     obtain⟨u,ups,h1,e1⟩:=Dv h
     refine⟨u,_,ups,h1,fun H' hA K'=> ?_⟩
     unfold fL;simp only;rw[hA id (by simp),aS];simp only;rw[oc];simp only;rw[hp];simp only[cond_true]
     exact e1 H' (hA k (by simp)) K'
   ·rename_i pB
    obtain⟨u,rd,ups,hi,h1,e1⟩:=s7 h
    refine⟨u,rd,ups,h1,fun H' hA K'=> ?_⟩
    unfold fL;simp only;rw[hA id hi,aS];simp only
    exact e1 H' hA K'
  ·rename_i ahh ahi
   obtain⟨u,rd,ups,hi,h1,e1⟩:=uG h
   refine⟨u,rd,ups,h1,fun H' hA K'=> ?_⟩
   unfold fL;simp only;rw[hA id hi]
   split
   ·rename_i aS;exact absurd aS (ahh _ _)
   ·rename_i aS;exact absurd aS (ahi _ _ _ _)
   ·exact e1 H' hA K'
 ·rename_i pB
  obtain⟨u,rd,ups,h1,e1⟩:=JV h
  refine⟨u,rd,ups,h1,fun H' hA K'=> ?_⟩
  have:fL E τ a v H' K'=g8 τ a v H' K':=by
   unfold fL
   cases a<;>first|rfl|exact absurd rfl (pB _ _)
  rw[this]
  exact e1 H' hA K'
theorem JW{E:Env}{τ:Ty}{a v:aW}{H:Nat→Option aR}{K:fa α}(h:nM E τ a v H K=some r):
  ∃u rd ups,K u rd ups=some r∧ ∀H',Ag rd H H'→ ∀K':fa α,nM E τ a v H' K'=K' u rd ups:=by
 unfold nM at h
 split at h
 ·rename_i id υ y n
  split at h
  ·rename_i m e oc
   cases xr:Nat.beq m n
   ·rw[xr]at h
    simp only[cond_false]at h
    obtain⟨u,rd,ups,h1,e1⟩:=uH h
    exact⟨u,rd,ups,h1,fun H' hA K'=>by unfold nM;simp only;rw[oc];simp only;rw[xr];simp only[cond_false];exact e1 H' hA K'⟩
   ·rw[xr]at h
    simp only[cond_true]at h
    obtain⟨h1,e1⟩:=fO h
    obtain⟨υ',h2,e2⟩:=uF h1
    obtain⟨h3,e3⟩:=fO h2
    obtain⟨h4,e4⟩:=qU h3
    exact⟨_,_,_,h4,fun H' hA K'=>by unfold nM;simp only;rw[oc];simp only;rw[xr];simp only[cond_true];rw[e1,e2 H' (hA _ (by simp)),e3,e4 H' (hA _ (by simp))]⟩
  ·rename_i pB
   obtain⟨u,rd,ups,h1,e1⟩:=uH h
   refine⟨u,rd,ups,h1,fun H' hA K'=> ?_⟩
   unfold nM;simp only
   exact e1 H' hA K'
 ·rename_i pB
  obtain⟨u,rd,ups,h1,e1⟩:=uH h
  refine⟨u,rd,ups,h1,fun H' hA K'=> ?_⟩
  unfold nM
  split
  ·exact absurd rfl (pB _ _ _ _ rfl)
  ·exact e1 H' hA K'
theorem ID{H:Nat→Option aR}{id:Nat}{τ:Ty}{x:τ.den}{q:List Step}{e:Ty}{K:fa α}(h:wc H id τ x q e K=some r):Pts (fun H K=>wc H id τ x q e K) H K r:=by
 obtain⟨h1,h2,h3⟩:=xq h
 exact⟨_,_,_,h3,fun H' hA K'=>by unfold wc lT;simp only;rw[hA id (by simp),h1,hA (id+1) (by simp),h2]⟩
theorem W7{E:Env}{o:Oper}{ρ:Operand→aW}{H:Nat→Option aR}{K:fa α}(h:n0 E o ρ H K=some r):
  ∃v rd ups,K v rd ups=some r∧ ∀ρ' H',(∀x∈o.op.operands,ρ' x=ρ x)→Ag rd H H'→ ∀K':fa α,n0 E o ρ' H' K'=K' v rd ups:=by
 obtain⟨dst,op,type,pos,after,guard⟩:=o
 unfold n0 at h
 simp only at h
 have PT: ∀{ρ':Operand→aW} (xs:List Operand),(∀x∈xs,ρ' x=ρ x)→xs.map ρ'=xs.map ρ:=fun xs hx=>List.map_congr_left hx
 have GP: ∀{ρ':Operand→aW} (ps:Array (Nat×Operand)),(∀x∈ps.map (·.2),ρ' x=ρ x)→partsOf ρ' ps=partsOf ρ ps:=fun ps hp=>by
  unfold partsOf
  exact List.map_congr_left fun p hm=>by rw[hp p.2 (Array.mem_map.2 ⟨p,by simpa using hm,rfl⟩)]
 have W8: ∀{ρ':Operand→aW} (x:Option Operand),(∀y∈x,ρ' y=ρ y)→x.map ρ'=x.map ρ:=fun x hx=>by
  cases x with
  |none=>rfl
  |some x=>simp[hx x rfl]
 split at h
 ·
  rename_i x
  exact⟨_,_,_,h,fun ρ' H' hx _ K'=>by unfold n0;simp only;rw[hx x (by simp[Op.operands])]⟩
 ·rename_i x
  exact⟨_,_,_,h,fun ρ' H' hx _ K'=>by unfold n0;simp only;rw[hx x (by simp[Op.operands])]⟩
 ·rename_i x y z
  split at h
  ·rename_i t hx
   cases t
   ·exact⟨_,_,_,(h:K (ρ z) [] []=some r),fun ρ' H' og _ K'=>by unfold n0;simp only;rw[og x (by simp[Op.operands]),hx,og z (by simp[Op.operands])];rfl⟩
   ·exact⟨_,_,_,(h:K (ρ y) [] []=some r),fun ρ' H' og _ K'=>by unfold n0;simp only;rw[og x (by simp[Op.operands]),hx,og y (by simp[Op.operands])];rfl⟩
  ·cases h
 ·
  split at h
  ·rename_i τ ht
   split at h
   ·rename_i q e oc
    obtain⟨v,rd,ups,h1,e1⟩:=ID h
    exact⟨_,_,_,h1,fun ρ' H' hx hA K'=>by unfold n0;simp only;rw[ht];simp only;rw[oc];exact e1 H' hA K'⟩
   ·rename_i oc
    obtain⟨h1,e1⟩:=qU h
    exact⟨_,_,_,h1,fun ρ' H' hx hA K'=>by unfold n0;simp only;rw[ht];simp only;rw[oc];simp only;rw[e1 H' (hA _ (by simp))]⟩
  ·cases h
 ·
  rename_i t x
  split at h
  ·rename_i τ ht
   have hold:(g6 true (ρ x) H τ fun y rd ups=>lT H (16*dst.getD 0) (.obj τ y) (K (.eV (16*dst.getD 0) []) (16*dst.getD 0::rd) (ups++[(16*dst.getD 0,some (.obj τ y))])))=some r→
     Pts (fun H K=>g6 true (ρ x) H τ fun y rd ups=>lT H (16*dst.getD 0) (.obj τ y) (K (.eV (16*dst.getD 0) []) (16*dst.getD 0::rd) (ups++[(16*dst.getD 0,some (.obj τ y))]))) H K r:=by
    intro h
    obtain⟨y,rd,ups,h1,e1⟩:=jT h
    obtain⟨h2,e2⟩:=qU h1
    exact⟨_,_,_,h2,fun H' hA K'=>by simp only;rw[e1 H' (fun i hi=>hA i (List.mem_cons_of_mem _ hi)),e2 H' (hA _ (by simp))]⟩
   split at h
   ·rename_i m e υ y n oc PU
    cases xr:Nat.beq m n
    ·rw[xr]at h
     obtain⟨v,rd,ups,h1,e1⟩:=hold h
     refine⟨_,_,_,h1,fun ρ' H' hx hA K'=> ?_⟩
     unfold n0;simp only;rw[ht];simp only
     rw[hx x (by simp[Op.operands]),oc,PU];simp only
     rw[xr]
     have:=e1 H' hA K'
     rw[PU]at this
     exact this
    ·rw[xr]at h
     simp only[cond_true]at h
     obtain⟨z,h1,e1⟩:=cw h
     obtain⟨v,rd,ups,h2,e2⟩:=ID h1
     refine⟨_,_,_,h2,fun ρ' H' hx hA K'=> ?_⟩
     unfold n0;simp only;rw[ht];simp only
     rw[hx x (by simp[Op.operands]),oc,PU];simp only
     rw[xr];simp only[cond_true]
     rw[e1]
     exact e2 H' hA K'
   ·rename_i pB
    obtain⟨v,rd,ups,h1,e1⟩:=hold h
    refine⟨_,_,_,h1,fun ρ' H' hx hA K'=> ?_⟩
    unfold n0;simp only;rw[ht];simp only
    rw[hx x (by simp[Op.operands])]
    split
    ·rename_i oc PU;exact absurd PU (pB _ _ _ _ _ oc)
    ·exact e1 H' hA K'
  ·cases h
 ·
  rename_i t ps
  split at h
  ·rename_i n e ht
   obtain⟨l,rd,ups,h1,_,e1⟩:=xF h
   exact⟨_,_,_,h1,fun ρ' H' hx hA K'=>by unfold n0;simp only;rw[ht];simp only;rw[GP ps (fun x og=>hx x (by simpa [Op.operands]using og)),e1 H' hA]⟩
  ·rename_i τ Vt ht
   obtain⟨h0,e0⟩:=cM h
   obtain⟨l,rd,ups,h1,_,e1⟩:=Ah h0
   refine⟨_,_,_,h1,fun ρ' H' hx hA K'=> ?_⟩
   unfold n0;simp only;rw[ht]
   have: ∀{β:Type} (A:Nat→Ty→β) (B:Ty→β),(match some τ with|some (.arr n e)=>A n e|some τ=>B τ|none=>B τ)=B τ:=by
    intro β A B
    cases τ<;>first|rfl|exact absurd rfl (Vt _ _)
   cases τ with
   |arr n e=>exact absurd rfl (Vt n e)
   |_=>
    simp only
    rw[GP ps (fun x og=>hx x (by simpa [Op.operands]using og)),e0,e1 H' hA]
  ·cases h
 ·
  rename_i t n ps
  split at h
  ·rename_i e ht
   obtain⟨h0,e0⟩:=cM h
   obtain⟨h1,e1⟩:=qU h0
   obtain⟨l,rd,ups,h2,_,e2⟩:=xF h1
   exact⟨_,_,_,h2,fun ρ' H' hx hA K'=>by
    unfold n0;simp only;rw[ht];simp only
    rw[e0,e1 H' (hA _ (by simp)),GP ps (fun x og=>hx x (by simpa [Op.operands]using og)),e2 H' (fun i hi=>hA i (List.mem_cons_of_mem _ hi))]⟩
  ·cases h
 ·
  rename_i t x
  split at h
  ·rename_i τ ht
   obtain⟨v,rd,ups,h1,e1⟩:=Mf h
   exact⟨_,_,_,h1,fun ρ' H' hx hA K'=>by unfold n0;simp only;rw[ht];simp only;rw[hx x (by simp[Op.operands]),e1 H' hA]⟩
  ·cases h
 ·
  rename_i t x y
  split at h
  ·rename_i τ ht
   obtain⟨u,rd,ups,h1,e1⟩:=JW h
   exact⟨_,_,_,h1,fun ρ' H' hx hA K'=>by unfold n0;simp only;rw[ht];simp only;rw[hx x (by simp[Op.operands]),hx y (by simp[Op.operands]),e1 H' hA]⟩
  ·cases h
 ·
  rename_i x
  split at h
  ·rename_i id p hx
   exact⟨_,_,_,h,fun ρ' H' og _ K'=>by unfold n0;simp only;rw[og x (by simp[Op.operands]),hx]⟩
  ·rename_i τ z hx
   exact⟨_,_,_,h,fun ρ' H' og _ K'=>by unfold n0;simp only;rw[og x (by simp[Op.operands]),hx]⟩
  ·cases h
 ·
  rename_i b t x y t'
  obtain⟨τ,x1,h1,e1⟩:=IC h
  obtain⟨υ,y1,h2,e2⟩:=IC h1
  obtain⟨v,h3,e3⟩:=L8 h2
  exact⟨_,_,_,h3,fun ρ' H' hx _ K'=>by unfold n0;simp only;rw[hx x (by simp[Op.operands]),hx y (by simp[Op.operands]),e1,e2,e3]⟩
 ·
  rename_i u t x
  obtain⟨v,h1,e1⟩:=PN h
  exact⟨_,_,_,h1,fun ρ' H' hx _ K'=>by unfold n0;simp only;rw[hx x (by simp[Op.operands]),e1]⟩
 ·
  rename_i s d x
  split at h
  ·rename_i τ k hs hd
   obtain⟨i,n,h1,e1⟩:=np h
   exact⟨_,_,_,h1,fun ρ' H' hx _ K'=>by unfold n0;simp only;rw[hs,hd];simp only;rw[hx x (by simp[Op.operands]),e1]⟩
  ·cases h
 ·
  rename_i f first caps
  obtain⟨h1,e1⟩:=cM h
  obtain⟨cs,rd,ups,h3,e3⟩:=xH h1
  exact⟨_,_,_,h3,fun ρ' H' hx hA K'=>by unfold n0;simp only;rw[PT caps.toList (fun x og=>hx x (by simp[Op.operands];exact .inr (by simpa using og))),e1,e3 H' hA]⟩
 ·
  rename_i t x y
  split at h
  ·rename_i e ht
   obtain⟨i,n,h1,e1⟩:=np h
   obtain⟨i',n',h2,e2⟩:=np h1
   obtain⟨h3,e3⟩:=cM h2
   obtain⟨h4,e4⟩:=qU h3
   exact⟨_,_,_,h4,fun ρ' H' hx hA K'=>by
    unfold n0;simp only;rw[ht];simp only
    rw[hx x (by simp[Op.operands]),e1,hx y (by simp[Op.operands]),e2,e3,e4 H' (hA _ (by simp))]⟩
  ·cases h
 ·
  rename_i t x lo hi mx
  split at h
  ·rename_i τ ht
   obtain⟨v,rd,ups,h1,e1⟩:=JT h
   exact⟨_,_,_,h1,fun ρ' H' hx hA K'=>by
    unfold n0;simp only;rw[ht];simp only
    rw[hx x (by simp[Op.operands]),W8 lo (fun y hy=>hx y (by simp at hy;simp[Op.operands,hy])),W8 hi (fun y hy=>hx y (by simp at hy;simp[Op.operands,hy])),W8 mx (fun y hy=>hx y (by simp at hy;simp[Op.operands,hy])),e1 H' hA]⟩
  ·cases h
 ·
  rename_i t x n
  split at h
  ·rename_i τ ht
   split at h
   ·rename_i id p hx
    obtain⟨υ,h1,e1⟩:=uF h
    obtain⟨h2,e2⟩:=fO h1
    obtain⟨υ',y',h3,e3⟩:=qT h2
    obtain⟨h4,e4⟩:=oi h3
    exact⟨_,_,_,h4,fun ρ' H' og hA K'=>by
     unfold n0;simp only;rw[ht];simp only
     rw[og x (by simp[Op.operands]),hx];simp only
     rw[e1 H' (hA _ (by simp)),e2,e3,e4]⟩
   ·rename_i υ z hx
    obtain⟨h2,e2⟩:=fO h
    obtain⟨υ',y',h3,e3⟩:=qT h2
    obtain⟨h4,e4⟩:=oi h3
    exact⟨_,_,_,h4,fun ρ' H' og hA K'=>by
     unfold n0;simp only;rw[ht];simp only
     rw[og x (by simp[Op.operands]),hx];simp only
     rw[e2,e3,e4]⟩
   ·cases h
  ·cases h
 ·
  rename_i t x n
  split at h
  ·rename_i τ ht
   split at h
   ·rename_i υ z hx
    obtain⟨h2,e2⟩:=fO h
    obtain⟨υ',y',h3,e3⟩:=qT h2
    exact⟨_,_,_,h3,fun ρ' H' og hA K'=>by
     unfold n0;simp only;rw[ht];simp only
     rw[og x (by simp[Op.operands]),hx];simp only
     rw[e2,e3]⟩
   ·cases h
  ·cases h
 ·
  rename_i t x i
  split at h
  ·rename_i τ ht
   obtain⟨v,rd,ups,h1,e1⟩:=zI h
   exact⟨_,_,_,h1,fun ρ' H' hx hA K'=>by unfold n0;simp only;rw[ht];simp only;rw[hx x (by simp[Op.operands]),hx i (by simp[Op.operands]),e1 H' hA]⟩
  ·cases h
 ·
  rename_i t x i
  split at h
  ·rename_i τ ht
   obtain⟨v,h1,e1⟩:=JU h
   exact⟨_,_,_,h1,fun ρ' H' hx hA K'=>by unfold n0;simp only;rw[ht];simp only;rw[hx x (by simp[Op.operands]),hx i (by simp[Op.operands]),e1]⟩
  ·cases h
 ·
  rename_i x i
  split at h
  ·rename_i vs hx
   split at h
   ·rename_i v hv
    exact⟨_,_,_,h,fun ρ' H' og hA K'=>by unfold n0;simp only;rw[og x (by simp[Op.operands]),hx];simp only;rw[hv]⟩
   ·cases h
  ·cases h
 ·
  rename_i cl
  obtain⟨callee,args,ts⟩:=cl
  simp only at h
  have ry: ∀{ρ':Operand→aW},(∀x∈(Op.call {callee,args,argTypes:=ts}).operands,ρ' x=ρ x)→ ∀x∈args.toList,ρ' x=ρ x:=
   fun hx x og=>hx x (by simp[Op.operands,Call.operands];exact .inr (by simpa using og))
  split at h
  ·split at h
   ·rename_i x τ ha ht
    obtain⟨v,rd,ups,h1,e1⟩:=PO h
    exact⟨_,_,_,h1,fun ρ' H' hx hA K'=>by unfold n0;simp only;rw[ha,ht];simp only;rw[ry hx x (by rw[ha];simp),e1 H' hA]⟩
   ·cases h
  ·split at h
   ·rename_i x y t t' ha ht
    split at h
    ·rename_i e hte
     obtain⟨h1,e1⟩:=cM h
     obtain⟨h2,e2⟩:=qU h1
     obtain⟨v,rd,ups,h3,aS,e3⟩:=PQ h2
     exact⟨_,_,_,h3,fun ρ' H' hx hA K'=>by
      unfold n0;simp only;rw[ha,ht];simp only;rw[hte];simp only
      rw[e1,e2 H' (hA _ aS),ry hx x (by rw[ha];simp),ry hx y (by rw[ha];simp),e3 H' hA]⟩
    ·cases h
   ·cases h
  ·split at h
   ·rename_i x xs ha
    obtain⟨v,h1,e1⟩:=GO h
    exact⟨_,_,_,h1,fun ρ' H' hx hA K'=>by
     unfold n0;simp only;rw[ha];simp only
     rw[ry hx x (by rw[ha];simp),PT xs (fun y hy=>ry hx y (by rw[ha];simp[hy])),e1]⟩
   ·cases h
  ·split at h
   ·rename_i x xs ha
    obtain⟨v,h1,e1⟩:=GO h
    exact⟨_,_,_,h1,fun ρ' H' hx hA K'=>by
     unfold n0;simp only;rw[ha];simp only
     rw[ry hx x (by rw[ha];simp),PT xs (fun y hy=>ry hx y (by rw[ha];simp[hy])),e1]⟩
   ·cases h
  ·rename_i g
   split at h
   ·rename_i f caps hg
    obtain⟨v,rd,ups,h1,e1⟩:=Mb h
    exact⟨_,_,_,h1,fun ρ' H' hx hA K'=>by
     unfold n0;simp only
     rw[hx g (by simp[Op.operands,Call.operands]),hg];simp only
     rw[PT args.toList (ry hx),e1 H' hA]⟩
   ·cases h
  ·cases h
 ·cases h
end VM
end
section
namespace VM
open Go
variable{P:Program}{E:Env}{o:Oper}{a:Act}{w:World}{M:Nat→Prop}{ν:Nat→Value}{σ:St}{c:Ctx}{α:Type}{r:α}{next:Act→World→Prop}{Q:Exit→Act→World→Prop}
structure Out where
 dst:Option Nat
 v:aW
 rd:List Nat
 ups:e9
def Out.app(u:Out)(σ:St):St:=(σ.pU u.ups).pL u.dst u.v
theorem Dw(σ:St)(d:Nat)(v:aW):(σ.pL (some d) v).T d=v:=oI σ d v
theorem JX(σ:St){d:Option Nat}{t:Nat}(v:aW)(h:d≠some t):(σ.pL d v).T t=σ.T t:=by
 cases d with
 |none=>rfl
 |some d=>exact tf σ v (fun e=>h (by rw[e]))
theorem W9(σ:St)(d:Option Nat)(v:aW):(σ.pL d v).H=σ.H:=by cases d<;>rfl
theorem GQ{u:Out}{t:Nat}(h:u.dst=some t)(σ:St):(u.app σ).T t=u.v:=by unfold Out.app;rw[h];exact Dw _ _ _
theorem Mg{u:Out}{t:Nat}(h:u.dst≠some t)(σ:St):(u.app σ).T t=σ.T t:=by unfold Out.app;rw[JX _ _ h,GC]
theorem ab4(u:Out)(σ:St):(u.app σ).H=bP σ.H u.ups:=by unfold Out.app;rw[W9,GB]
def Pt(E:Env)(ops:List Oper)(o:Oper)(σ:St)(u:Out)(α:Type):Prop:=
 u.dst=o.dst∧ ∀σ':St,(∀t∈names ops o,σ'.T t=σ.T t)→Ag u.rd σ.H σ'.H→ ∀K':St→List Nat→List Nat→Option α,n7 E ops o σ' K'=K' (u.app σ') u.rd (u.ups.map (·.1))
theorem Mh{ops:List Oper}{K:St→List Nat→List Nat→Option α}(h:n7 E ops o σ K=some r): ∃u:Out,K (u.app σ) u.rd (u.ups.map (·.1))=some r∧Pt E ops o σ u α:=by
 unfold n7 at h
 obtain⟨h,e0⟩:=cM h
 have ahj: ∀σ':St,(∀t∈names ops o,σ'.T t=σ.T t)→ ∀x∈o.op.operands,σ'.ρ x=σ.ρ x:=by
  intro σ' hT x hx
  cases x with
  |tmp t=>
   refine hT t ?_
   unfold names
   refine List.mem_append_left _ (List.mem_filterMap.2 ⟨.tmp t,by simpa using hx,rfl⟩)
  |_=>rfl
 have cr:n0 E o σ.ρ σ.H (fun v rd ups=>K ((σ.pU ups).pL o.dst v) rd (ups.map (·.1)))=some r→
   ∃u:Out,K (u.app σ) u.rd (u.ups.map (·.1))=some r∧u.dst=o.dst∧ ∀σ':St,(∀t∈names ops o,σ'.T t=σ.T t)→Ag u.rd σ.H σ'.H→ ∀K':St→List Nat→List Nat→Option α,
    n0 E o σ'.ρ σ'.H (fun v rd ups=>K' ((σ'.pU ups).pL o.dst v) rd (ups.map (·.1)))=K' (u.app σ') u.rd (u.ups.map (·.1)):=by
  intro h
  obtain⟨v,rd,ups,h1,h2⟩:=W7 h
  exact⟨⟨o.dst,v,rd,ups⟩,h1,rfl,fun σ' hT hA K'=>h2 σ'.ρ σ'.H (ahj σ' hT) hA _⟩
 have nn: ∀{K:St→List Nat→List Nat→Option α},K (σ.pL o.dst .Lw) [] []=some r→ ∃u:Out,K (u.app σ) u.rd (u.ups.map (·.1))=some r∧u.dst=o.dst∧ ∀σ':St,∀K':St→List Nat→List Nat→Option α,K' (σ'.pL o.dst .Lw) [] []=K' (u.app σ') u.rd (u.ups.map (·.1)):=
  fun h=>⟨⟨o.dst,.Lw,[],[]⟩,h,rfl,fun _ _=>rfl⟩
 simp only at h
 split at h
 ·rename_i hg
  obtain⟨u,h1,h2,h3⟩:=cr h
  refine⟨u,h1,h2,fun σ' hT hA K'=> ?_⟩
  unfold n7
  rw[e0]
  simp only
  rw[hg]
  exact h3 σ' hT hA K'
 ·rename_i j want hg
  split at h
  ·cases h
  ·rename_i t ht
   have JY:t∈names ops o:=by
    unfold names
    refine List.mem_append_right _ ?_
    rw[hg]
    simp[ht]
   split at h
   ·rename_i b hb
    have kZ: ∀σ':St,σ'.T t=σ.T t→σ'.put t (.val .bool b)=σ':=fun σ' h'=>by
     rw[←hb,←h'];exact xB σ' t
    cases want<;>cases b
    ·obtain⟨u,h1,h2,h3⟩:=cr (by
      have:=kZ σ rfl
      rw[this]at h;exact h)
     refine⟨u,h1,h2,fun σ' hT hA K'=> ?_⟩
     unfold n7
     rw[e0];simp only;rw[hg];simp only;rw[ht];simp only;rw[hT t JY,hb];simp only
     rw[kZ σ' (hT t JY)]
     exact h3 σ' hT hA K'
    ·obtain⟨u,h1,h2,h3⟩:=nn (by
      have:=kZ σ rfl
      rw[this]at h;exact h)
     refine⟨u,h1,h2,fun σ' hT hA K'=> ?_⟩
     unfold n7
     rw[e0];simp only;rw[hg];simp only;rw[ht];simp only;rw[hT t JY,hb];simp only
     rw[kZ σ' (hT t JY)]
     exact h3 σ' K'
    ·obtain⟨u,h1,h2,h3⟩:=nn (by
      have:=kZ σ rfl
      rw[this]at h;exact h)
     refine⟨u,h1,h2,fun σ' hT hA K'=> ?_⟩
     unfold n7
     rw[e0];simp only;rw[hg];simp only;rw[ht];simp only;rw[hT t JY,hb];simp only
     rw[kZ σ' (hT t JY)]
     exact h3 σ' K'
    ·obtain⟨u,h1,h2,h3⟩:=cr (by
      have:=kZ σ rfl
      rw[this]at h;exact h)
     refine⟨u,h1,h2,fun σ' hT hA K'=> ?_⟩
     unfold n7
     rw[e0];simp only;rw[hg];simp only;rw[ht];simp only;rw[hT t JY,hb];simp only
     rw[kZ σ' (hT t JY)]
     exact h3 σ' hT hA K'
   ·rename_i hb
    obtain⟨u,h1,h2,h3⟩:=nn h
    refine⟨u,h1,h2,fun σ' hT hA K'=> ?_⟩
    unfold n7
    rw[e0];simp only;rw[hg];simp only;rw[ht];simp only;rw[hT t JY,hb]
    exact h3 σ' K'
   ·cases h
theorem IE{ops:List Oper}: ∀(l:List Oper) (i:Nat) (σ:St) (lg:Log) (K:St→Log→Option α),Jw E ops l i σ lg K=some r→
  ∃us:List Out,us.length=l.length∧(∀j u o,us[j]? =some u→l[j]? =some o→Pt E ops o ((us.take j).foldl (fun σ u=>u.app σ) σ) u α)∧
   ∃Vx,K (us.foldl (fun σ u=>u.app σ) σ) Vx=some r∧(∀x∈lg,x∈Vx)∧ ∀j u,us[j]? =some u→(i+j,u.rd,u.ups.map (·.1))∈Vx
 |[],i,σ,lg,K,h=>⟨[],rfl,fun j u o hj=>by simp at hj,lg,h,fun _ h=>h,fun j u hj=>by simp at hj⟩
 |o::l,i,σ,lg,K,h=>by
  unfold Jw at h
  obtain⟨u,h1,h2⟩:=Mh h
  obtain⟨us,hl,hpt,Vx,hK,O7,hj⟩:=IE l (i+1) (u.app σ) _ K h1
  refine⟨u::us,by simp[hl],fun j u' o' hu ho=> ?_,Vx,hK,fun x hx=>O7 x (List.mem_cons_of_mem _ hx),fun j u' hu=> ?_⟩
  ·cases j with
   |zero=>simp at hu ho;subst hu ho;exact h2
   |succ j=>exact hpt j u' o' (by simpa using hu) (by simpa using ho)
  ·cases j with
   |zero=>simp at hu;subst hu;exact O7 _ List.mem_cons_self
   |succ j=>
    have:=hj j u' (by simpa using hu)
    rwa [show i+1+j=i+(j+1)from by omega]at this
theorem JZ{k:Nat}{ups:e9}(h:k∈keys ups)(H H':Nat→Option aR):bP H ups k=bP H' ups k:=by
 induction ups generalizing H H' with
 |nil=>simp[keys]at h
 |cons u r ih=>
  show bP (bm H u.1 u.2) r k=bP (bm H' u.1 u.2) r k
  by_cases hk:k∈keys r
  ·exact ih hk _ _
  ·have hku:k=u.1:=by
    simp only[keys,List.map_cons,List.mem_cons]at h hk
    exact h.resolve_right hk
   rw[iS hk,iS hk,hku,ak,ak]
structure ke(us:List Out)(σ0:St)(S:Nat→Prop)(σ:St):Prop where
 T: ∀t,(∃j u,us[j]? =some u∧S j∧u.dst=some t∧(∀j' u',us[j']? =some u'→S j'→u'.dst=some t→j'≤j)∧σ.T t=u.v)∨((∀j u,us[j]? =some u→S j→u.dst≠some t)∧σ.T t=σ0.T t)
 H: ∀k,(∃j u,us[j]? =some u∧S j∧k∈keys u.ups∧(∀j' u',us[j']? =some u'→S j'→k∈keys u'.ups→j'≤j)∧σ.H k=bP σ0.H u.ups k)∨((∀j u,us[j]? =some u→S j→k∉keys u.ups)∧σ.H k=σ0.H k)
theorem ke.Mi{us:List Out}{σ0 σ σ':St}{S S':Nat→Prop}(h:ke us σ0 S σ)(h':ke us σ0 S' σ'){t:Nat}(hs: ∀j u,us[j]? =some u→u.dst=some t→(S j↔S' j)):σ.T t=σ'.T t:=by
 rcases h.T t with⟨j,u,h1,h2,h3,h4,h5⟩|⟨h1,h2⟩<;>rcases h'.T t with⟨j',u',kO,rM,GR,h4',h5'⟩|⟨kO,rM⟩
 ·have e1:=h4 j' u' kO ((hs j' u' kO GR).2 rM) GR
  have e2:=h4' j u h1 ((hs j u h1 h3).1 h2) h3
  have:j=j':=by omega
  subst this
  rw[h1]at kO;cases kO
  rw[h5,h5']
 ·exact absurd h3 (kO j u h1 ((hs j u h1 h3).1 h2))
 ·exact absurd GR (h1 j' u' kO ((hs j' u' kO GR).2 rM))
 ·rw[h2,rM]
theorem ke.Mj{us:List Out}{σ0 σ σ':St}{S S':Nat→Prop}(h:ke us σ0 S σ)(h':ke us σ0 S' σ'){k:Nat}(hs: ∀j u,us[j]? =some u→k∈keys u.ups→(S j↔S' j)):σ.H k=σ'.H k:=by
 rcases h.H k with⟨j,u,h1,h2,h3,h4,h5⟩|⟨h1,h2⟩<;>rcases h'.H k with⟨j',u',kO,rM,GR,h4',h5'⟩|⟨kO,rM⟩
 ·have e1:=h4 j' u' kO ((hs j' u' kO GR).2 rM) GR
  have e2:=h4' j u h1 ((hs j u h1 h3).1 h2) h3
  have:j=j':=by omega
  subst this
  rw[h1]at kO;cases kO
  rw[h5,h5']
 ·exact absurd h3 (kO j u h1 ((hs j u h1 h3).1 h2))
 ·exact absurd GR (h1 j' u' kO ((hs j' u' kO GR).2 rM))
 ·rw[h2,rM]
theorem ke.unique{us:List Out}{σ0 σ σ':St}{S S':Nat→Prop}(h:ke us σ0 S σ)(h':ke us σ0 S' σ')(hs: ∀j u,us[j]? =some u→(S j↔S' j)):σ=σ':=by
 obtain⟨T,H⟩:=σ
 obtain⟨T',H'⟩:=σ'
 congr 1
 ·funext t;exact h.Mi h' (fun j u hj _=>hs j u hj)
 ·funext k;exact h.Mj h' (fun j u hj _=>hs j u hj)
theorem ke.step{us:List Out}{σ0 σ:St}{S:Nat→Prop}(h:ke us σ0 S σ){i:Nat}{u:Out}(hi:us[i]? =some u)(hc: ∀j u',us[j]? =some u'→S j→i<j→(∀t,u.dst=some t→u'.dst≠some t)∧ ∀k∈keys u.ups,k∉keys u'.ups):
  ke us σ0 (fun j=>j=i∨S j) (u.app σ):=by
 refine⟨fun t=> ?_,fun k=> ?_⟩
 ·by_cases hd:u.dst=some t
  ·left
   refine⟨i,u,hi,.inl rfl,hd,fun j' u' h1 h2 h3=> ?_,GQ hd σ⟩
   rcases h2 with rfl|h2
   ·exact Nat.le_refl _
   ·exact Nat.le_of_not_lt fun dF=>(hc j' u' h1 h2 dF).1 t hd h3
  ·rw[Mg hd]
   rcases h.T t with⟨j,u1,h1,h2,h3,h4,h5⟩|⟨h1,h2⟩
   ·refine .inl ⟨j,u1,h1,.inr h2,h3,fun j' u' kO rM GR=> ?_,h5⟩
    rcases rM with rfl|rM
    ·rw[hi]at kO;cases kO;exact absurd GR hd
    ·exact h4 j' u' kO rM GR
   ·refine .inr ⟨fun j u' kO rM=> ?_,h2⟩
    rcases rM with rfl|rM
    ·rw[hi]at kO;cases kO;exact hd
    ·exact h1 j u' kO rM
 ·rw[ab4]
  by_cases hd:k∈keys u.ups
  ·left
   refine⟨i,u,hi,.inl rfl,hd,fun j' u' h1 h2 h3=> ?_,JZ hd _ _⟩
   rcases h2 with rfl|h2
   ·exact Nat.le_refl _
   ·exact Nat.le_of_not_lt fun dF=>(hc j' u' h1 h2 dF).2 k hd h3
  ·rw[iS hd]
   rcases h.H k with⟨j,u1,h1,h2,h3,h4,h5⟩|⟨h1,h2⟩
   ·refine .inl ⟨j,u1,h1,.inr h2,h3,fun j' u' kO rM GR=> ?_,h5⟩
    rcases rM with rfl|rM
    ·rw[hi]at kO;cases kO;exact absurd GR hd
    ·exact h4 j' u' kO rM GR
   ·refine .inr ⟨fun j u' kO rM=> ?_,h2⟩
    rcases rM with rfl|rM
    ·rw[hi]at kO;cases kO;exact hd
    ·exact h1 j u' kO rM
theorem ke.start(us:List Out)(σ0:St):ke us σ0 (fun _=>False) σ0:=⟨fun t=> .inr ⟨fun _ _ _ h=>h.elim,rfl⟩,fun k=> .inr ⟨fun _ _ _ h=>h.elim,rfl⟩⟩
theorem ke.congr{us:List Out}{σ0 σ:St}{S S':Nat→Prop}(h:ke us σ0 S σ)(hs: ∀j,S j↔S' j):ke us σ0 S' σ:=by
 have:S=S':=funext fun j=>propext (hs j)
 rw[←this];exact h
theorem ke.text(us:List Out)(σ0:St): ∀i,i≤us.length→ke us σ0 (fun j=>j<i) ((us.take i).foldl (fun σ u=>u.app σ) σ0)
 |0,_=>(ke.start us σ0).congr fun j=>by simp
 |i+1,hi=>by
  have ih:=ke.text us σ0 i (by omega)
  have hu:us[i]? =some us[i]:=List.getElem?_eq_getElem (by omega)
  have:=ih.step hu (fun j u' _ h2 h3=>by omega)
  rw[List.take_add_one,hu,List.foldl_append]
  exact this.congr fun j=>by constructor<;>intro h<;>omega
end VM
end
section
namespace VM
open Go
variable{P:Program}{E:Env}{o:Oper}{a:Act}{w:World}{M:Nat→Prop}{ν:Nat→Value}{σ:St}{c:Ctx}{α:Type}{r:α}{next:Act→World→Prop}{Q:Exit→Act→World→Prop}
def Xa(S:Nat→Prop)(o:Oper):Prop:= ∀e∈o.after,Region.binds .any e=true→S e.on
theorem xI{β:Type}{l m:List β}{i:Nat}{d:β}(h:i<l.length):(l++m).getD i d=l.getD i d:=by
 simp only[List.getD,List.getElem?_append_left h]
theorem xJ{β:Type}{l:List β}{x d:β}:(l++[x]).getD l.length d=x:=by
 simp[List.getD]
theorem vw{acc:List Nat}{i:Nat}: ∀(es:List Edge) (s:Nat),(es.foldl (fun s e=>cond (Region.binds .any e) (s|||2^e.on|||acc.getD e.on 0) s) s).testBit i=true→
  s.testBit i=true∨ ∃e∈es,Region.binds .any e=true∧(i=e.on∨(acc.getD e.on 0).testBit i=true)
 |[],s,h=> .inl h
 |e::es,s,h=>by
  rw[List.foldl_cons]at h
  rcases vw es _ h with h1|⟨e',h1,h2⟩
  ·cases hb:Region.binds .any e
   ·rw[hb]at h1;exact .inl h1
   ·rw[hb]at h1
    simp only[cond_true,Nat.testBit_or,Bool.or_eq_true]at h1
    rcases h1 with(h1|h1)|h1
    ·exact .inl h1
    ·refine .inr ⟨e,List.mem_cons_self,hb,.inl ?_⟩
     rw[Nat.testBit_two_pow]at h1
     simpa using (of_decide_eq_true h1).symm
    ·exact .inr ⟨e,List.mem_cons_self,hb,.inr h1⟩
  ·exact .inr ⟨e',List.mem_cons_of_mem _ h1,h2⟩
theorem vx{S:Nat→Prop}: ∀(l:List Oper) (acc:List Nat) (all:List Oper),all.length=acc.length+l.length→(∀j,l[j]? =all[acc.length+j]?)→
  (∀j o,all[j]? =some o→S j→Xa S o)→(∀j i,j<acc.length→S j→(acc.getD j 0).testBit i=true→S i)→
  ∀j o i,all[j]? =some o→(Xa S o∨S j)→((nN l acc).getD j 0).testBit i=true→(j<acc.length→ ∀i,Xa S o→(acc.getD j 0).testBit i=true→S i)→S i
 |[],acc,all,hl,kb,hS,PV,j,o,i,hj,Dx,hb,Mk=>by
  have dF:j<all.length:=(List.getElem?_eq_some_iff.1 hj).1
  have sb:j<acc.length:=by simp at hl;omega
  rcases Dx with hp|hp
  ·exact Mk sb i hp hb
  ·exact PV j i sb hp hb
 |p::l,acc,all,hl,kb,hS,PV,j,o,i,hj,Dx,hb,Mk=>by
  unfold nN at hb
  have hp0:all[acc.length]? =some p:=by rw[←Nat.add_zero acc.length,←kb 0];rfl
  have PW: ∀i,Xa S p→(p.after.toList.foldl (fun s e=>cond (Region.binds .any e) (s|||2^e.on|||acc.getD e.on 0) s) 0).testBit i=true→S i:=by
   intro i C1 hb
   rcases vw p.after.toList 0 hb with h1|⟨e,he,hbe,h1⟩
   ·simp at h1
   ·have hSe:=C1 e (by simpa using he) hbe
    rcases h1 with rfl|h1
    ·exact hSe
    ·by_cases dF:e.on<acc.length
     ·exact PV e.on i dF hSe h1
     ·rw[List.getD,List.getElem?_eq_none (by omega)]at h1;simp at h1
  refine vx l (acc++[p.after.toList.foldl (fun s e=>cond (Region.binds .any e) (s|||2^e.on|||acc.getD e.on 0) s) 0]) all (by simp at hl ⊢;omega) (fun j=> ?_) hS (fun j' i' Vy hS' di=> ?_) j o i hj Dx hb (fun dF i' Ip di=> ?_)
  ·have:=kb (j+1)
   simp only[List.getElem?_cons_succ]at this
   rw[this]
   congr 1
   simp;omega
  ·by_cases dF:j'<acc.length
   ·rw[xI dF]at di
    exact PV j' i' dF hS' di
   ·have hje:j'=acc.length:=by simp at Vy;omega
    subst hje
    rw[xJ]at di
    exact PW i' (hS _ p hp0 hS') di
  ·by_cases sb:j<acc.length
   ·rw[xI sb]at di
    exact Mk sb i' Ip di
   ·have hje:j=acc.length:=by simp at dF;omega
    subst hje
    rw[hp0]at hj;cases hj
    rw[xJ]at di
    exact PW i' Ip di
theorem forced{ops:List Oper}{S:Nat→Prop}(hS: ∀j o,ops[j]? =some o→S j→Xa S o){j i:Nat}(hj:ops[j]? =some o)(Dx:Xa S o∨S j)(hb:((nN ops []).getD j 0).testBit i=true):S i:=
 vx ops [] ops (by simp) (fun j=>by simp) hS (fun j i h=>by simp at h) j o i hj Dx hb (fun h=>by simp at h)
theorem ir{l m:List Nat}(h:meets l m=false){x:Nat}(h1:x∈l)(h2:x∈m):False:=by
 have:meets l m=true:=by
  unfold meets
  rw[List.any_eq_true]
  refine⟨x,h1,?_⟩
  rw[List.any_eq_true]
  exact⟨x,h2,Nat.beq_refl x⟩
 rw[h]at this;cases this
structure Rnd(c:Ctx)(E:Env)(ops:Array Oper)(us:List Out)(σ0:St)(listed:Array Bool)(a:Act)(w:World):Prop where
 size:listed.size=ops.size
 closed: ∀j o,ops.toList[j]? =some o→listed.getD j false=true→Xa (fun i=>listed.getD i false=true) o
 st: ∃σ,ke us σ0 (fun j=>listed.getD j false=true) σ∧Inv c E σ a w
theorem sh{listed:Array Bool}{j:Nat}(h:j<listed.size)(d:Bool):listed.getD j d=listed.getD j false:=by
 simp[Array.getD,h]
theorem BE(hE:nk P E){ops:Array Oper}{us:List Out}{σ0 σn:St}{α:Type}(x0:α)(hl:us.length=ops.toList.length)
  (hpt: ∀(j:Nat) (u:Out) (o:Oper),us[j]? =some u→ops.toList[j]? =some o→Pt E ops.toList o ((us.take j).foldl (fun σ u=>u.app σ) σ0) u α)
  (hn:σn=us.foldl (fun σ u=>u.app σ) σ0)
  (dF: ∀(j:Nat) (o:Oper),ops.toList[j]? =some o→ ∀e∈o.after,Region.binds .any e=true→e.on<j)
  (Gj: ∀(j:Nat) (o:Oper) (i:Nat) (p:Oper),ops.toList[j]? =some o→ops.toList[i]? =some p→i<j→((nN ops.toList []).getD j 0).testBit i=false→
   (∀d,p.dst=some d→o.dst≠some d∧d∉names ops.toList o)∧(∀d,o.dst=some d→d∉names ops.toList p))
  (O7: ∀(j:Nat) (u:Out) (i:Nat) (v:Out),us[j]? =some u→us[i]? =some v→i<j→((nN ops.toList []).getD j 0).testBit i=false→
   (∀k∈keys v.ups,k∉u.rd∧k∉keys u.ups)∧(∀k∈v.rd,k∉keys u.ups))
  (hq: ∀a' w',Inv c E σn a' w'→Q .normal a' w'):
  ∀(fuel:Nat) (listed:Array Bool) (a:Act) (w:World),((List.range ops.size).filter fun j=> !(listed.getD j false)).length≤fuel→Rnd c E ops us σ0 listed a w→wpAny P .any ops Q fuel listed a w:=by
 have kb: ∀(listed:Array Bool) (a:Act) (w:World),Rnd c E ops us σ0 listed a w→Region.ready .any ops listed=[]→Q .normal a w:=by
  intro listed a w hR Xb
  obtain⟨hs,C8,σ,Gb,hI⟩:=hR
  have ab6: ∀j,j<ops.size→listed.getD j false=true:=by
   intro j
   induction j using Nat.strongRecOn with
   |_ j ih=>
    intro hj
    by_cases hb:listed.getD j false=true
    ·exact hb
    ·exfalso
     have ho:ops[j]? =some ops[j]:=Array.getElem?_eq_getElem hj
     have:j∈Region.ready .any ops listed:=by
      rw[mem_ready]
      refine⟨by rw[sh (by omega)];simpa using hb,_,ho,fun e he hbe=> ?_⟩
      have hej:=dF j ops[j] (by rw[Array.getElem?_toList];exact ho) e he hbe
      exact ih e.on hej (by omega)
     rw[Xb]at this
     cases this
  have hσ:σ=σn:=by
   rw[hn]
   have ht:=ke.text us σ0 us.length (Nat.le_refl _)
   rw[List.take_length]at ht
   refine Gb.unique ht fun j u hj=> ?_
   have zq:j<us.length:=(List.getElem?_eq_some_iff.1 hj).1
   have hjo:j<ops.size:=by rw[hl,Array.length_toList]at zq;exact zq
   exact⟨fun _=>zq,fun _=>ab6 j hjo⟩
  exact hq a w (hσ▸hI)
 intro fuel
 induction fuel with
 |zero=>
  intro listed a w hf hR
  have PX:Region.ready .any ops listed=[]:=by
   rw[List.eq_nil_iff_forall_not_mem]
   intro j hj
   rw[mem_ready]at hj
   obtain⟨h0,o,ho,_⟩:=hj
   have hjs:j<ops.size:=(Array.getElem?_eq_some_iff.1 ho).1
   have zq:j<listed.size:=by rw[hR.size];exact hjs
   rw[sh zq]at h0
   have ll:j∈(List.range ops.size).filter fun j=> !(listed.getD j false):=by
    rw[List.mem_filter];exact⟨List.mem_range.2 hjs,by rw[h0];rfl⟩
   have:((List.range ops.size).filter fun j=> !(listed.getD j false))=[]:=List.eq_nil_of_length_eq_zero (by omega)
   rw[this]at ll;cases ll
  exact⟨PX,kb listed a w hR PX⟩
 |succ fuel ih=>
  intro listed a w hf hR
  refine⟨kb listed a w hR,fun i hi=> ?_⟩
  have j2:=hi
  rw[mem_ready]at j2
  obtain⟨h0,o,ho,Dx⟩:=j2
  have his:i<ops.size:=(Array.getElem?_eq_some_iff.1 ho).1
  have zx:i<listed.size:=by rw[hR.size];exact his
  rw[sh zx]at h0
  obtain⟨hs,C8,σ,Gb,hI⟩:=hR
  have CI:ops.toList[i]? =some o:=by rw[Array.getElem?_toList];exact ho
  have hiu:i<us.length:=by rw[hl,Array.length_toList];exact his
  have hu:us[i]? =some us[i]:=List.getElem?_eq_getElem hiu
  have hPt:=hpt i us[i] o hu CI
  have hSi: ¬listed.getD i false=true:=by rw[h0];simp
  have Dy: ∀j p,ops.toList[j]? =some p→((j<i∧ ¬listed.getD j false=true)→((nN ops.toList []).getD i 0).testBit j=false)∧((i<j∧listed.getD j false=true)→((nN ops.toList []).getD j 0).testBit i=false):=by
   intro j p hj
   refine⟨fun⟨_,h2⟩=> ?_,fun⟨_,h2⟩=> ?_⟩
   ·rw[←Bool.not_eq_true]
    intro hb
    exact h2 (forced C8 CI (.inl Dx) hb)
   ·rw[←Bool.not_eq_true]
    intro hb
    exact hSi (forced C8 hj (.inr h2) hb)
  have Ml: ∀(j:Nat) (u:Out),us[j]? =some u→ ∃p:Oper,ops.toList[j]? =some p∧u.dst=p.dst:=by
   intro j u hj
   have zq:j<us.length:=(List.getElem?_eq_some_iff.1 hj).1
   have hp:ops.toList[j]? =some ops.toList[j]:=List.getElem?_eq_getElem (by omega)
   exact⟨_,hp,(hpt j u _ hj hp).1⟩
  have Vz:=ke.text us σ0 i (by omega)
  have hT: ∀t∈names ops.toList o,σ.T t=((us.take i).foldl (fun σ u=>u.app σ) σ0).T t:=by
   intro t ht
   refine Gb.Mi Vz fun j u hj hd=> ?_
   obtain⟨p,hp,Xc⟩:=Ml j u hj
   have Xc:p.dst=some t:=by rw[←Xc,hd]
   constructor
   ·intro Dz
    refine Nat.lt_of_not_le fun hle=> ?_
    rcases Nat.lt_or_eq_of_le hle with sb|heq
    ·exact(Gj j p i o hp CI sb ((Dy j p hp).2 ⟨sb,Dz⟩)).2 t Xc ht
    ·subst heq;exact hSi Dz
   ·intro si
    by_cases Dz:listed.getD j false=true
    ·exact Dz
    ·exact absurd ht ((Gj i o j p CI hp si ((Dy j p hp).1 ⟨si,Dz⟩)).1 t Xc).2
  have hH:Ag us[i].rd ((us.take i).foldl (fun σ u=>u.app σ) σ0).H σ.H:=by
   intro k hk
   refine Gb.Mj Vz fun j u hj hd=> ?_
   obtain⟨p,hp,Xc⟩:=Ml j u hj
   constructor
   ·intro Dz
    refine Nat.lt_of_not_le fun hle=> ?_
    rcases Nat.lt_or_eq_of_le hle with sb|heq
    ·exact(O7 j u i us[i] hj hu sb ((Dy j p hp).2 ⟨sb,Dz⟩)).2 k hk hd
    ·subst heq;exact hSi Dz
   ·intro si
    by_cases Dz:listed.getD j false=true
    ·exact Dz
    ·exact absurd hk ((O7 i us[i] j u hu hj si ((Dy j p hp).1 ⟨si,Dz⟩)).1 k hd).1
  have ab7:=hPt.2 σ hT hH
  have hIs:ke us σ0 (fun j=>j=i∨listed.getD j false=true) (us[i].app σ):=by
   refine Gb.step hu fun j u hj Dz ng=> ?_
   obtain⟨p,hp,Xc⟩:=Ml j u hj
   have wy:=(Dy j p hp).2 ⟨ng,Dz⟩
   obtain⟨h1,h2⟩:=Gj j p i o hp CI ng wy
   obtain⟨h3,h4⟩:=O7 j u i us[i] hj hu ng wy
   refine⟨fun t ht=> ?_,fun k hk=>(h3 k hk).2⟩
   rw[Xc]
   exact(h1 t (by rw[←hPt.1];exact ht)).1
  have tg: ∀j,(listed.setIfInBounds i true).getD j false=true↔(j=i∨listed.getD j false=true):=by
   intro j
   by_cases si:j=i
   ·subst si
    constructor
    ·intro _;exact .inl rfl
    ·intro _;simp[zx]
   ·rw[getD_set_ne false (Ne.symm si)]
    exact⟨.inr,fun h=>h.resolve_left si⟩
  classical
  let K':St→List Nat→List Nat→Option α:=fun σ' _ _=>if σ'=us[i].app σ then some x0 else none
  have hK:n7 E ops.toList o σ K'=some x0:=by rw[ab7 K'];simp[K']
  have:=vv (Q:=Q) (next:=wpAny P .any ops Q fuel (listed.setIfInBounds i true)) hE hI hK (fun σ' a' w' rd wr hσ' rK=>by
   have ahp:σ'=us[i].app σ:=by
    by_cases h:σ'=us[i].app σ
    ·exact h
    ·simp[K',h]at hσ'
   subst ahp
   refine ih _ a' w' ?_ ⟨by simpa using hs,fun j p hp Dz e he hb=> ?_,_,hIs.congr (fun j=>(tg j).symm),rK⟩
   ·have hlen:((List.range ops.size).filter fun j=> !((listed.setIfInBounds i true).getD j false)).length<((List.range ops.size).filter fun j=> !(listed.getD j false)).length:=by
     have JN:((List.range ops.size).filter fun j=> !((listed.setIfInBounds i true).getD j false))=((List.range ops.size).filter fun j=> !(listed.getD j false)).filter fun j=> !(Nat.beq j i):=by
      rw[List.filter_filter]
      apply List.filter_congr
      intro j _
      by_cases si:j=i
      ·subst si
       have h1:=(tg j).2 (.inl rfl)
       rw[h1];simp
      ·have h1:Nat.beq j i=false:=by rw[←Bool.not_eq_true,Nat.beq_eq];exact si
       rw[h1,getD_set_ne false (Ne.symm si)];simp
     rw[JN]
     refine List.length_filter_lt_length_iff_exists.2 ⟨i,?_,by simp⟩
     rw[List.mem_filter];exact⟨List.mem_range.2 his,by rw[h0];rfl⟩
    omega
   ·rcases(tg j).1 Dz with rfl|Dz
    ·rw[CI]at hp;cases hp
     exact(tg _).2 (.inr (Dx e he hb))
    ·exact(tg _).2 (.inr (C8 j p hp Dz e he hb)))
  unfold wpOp
  rw[ho]
  simp only
  split
  ·rename_i hw;rw[if_pos hw]at this;exact .inl this
  ·rename_i hw;rw[if_neg hw]at this;exact this
theorem zJ(hE:nk P E){id:Nat}{ops:Array Oper}{draw:Bool}(hI:Inv c E σ a w){K:St→Option α}(h:wU E ops draw σ K=some r)
  (hn: ∀σ' a' w',K σ'=some r→Inv c E σ' a' w'→Q .normal a' w'):(Code.region id ops draw).wp P Q a w:=by
 cases draw
 ·refine wp_region_list (xC hE ops.toList 0 σ [] a w _ hI h fun σ' Vx a' w' h' rK=> ?_)
  exact hn σ' a' w' (bz h').2 rK
 ·unfold wU at h
  obtain⟨us,hl,hpt,lg,hK,_,ab8⟩:=IE _ _ _ _ _ h
  obtain⟨hok,hK⟩:=bz hK
  simp only[Bool.not_true,Bool.false_or,Bool.and_eq_true]at hok
  obtain⟨Gj,O7⟩:=hok
  unfold Lx at Gj
  simp only[Bool.and_eq_true,List.all_eq_true]at Gj
  obtain⟨ahq,ahr⟩:=Gj
  have hz: ∀j o,ops.toList[j]? =some o→(o,j)∈ops.toList.zipIdx:=fun j o hj=>List.mem_zipIdx_iff_getElem?.2 hj
  refine wp_region_any hE.mixed (BE (Q:=Q) (σ0:=σ) hE r hl hpt rfl (fun j o hj e he hbe=> ?_) (fun j o i p hj hi ng hb=> ?_) (fun j u i v hj hi ng hb=> ?_) (fun a' w' rK=>hn _ a' w' hK rK) ops.size (Array.replicate ops.size false) a _ ?_ ?_)
  ·have:=ahq (o,j) (hz j o hj) e (by simpa using he)
   rw[hbe]at this
   simpa [Nat.blt_eq]using this
  ·have:=ahr (o,j) (hz j o hj) (p,i) (hz i p hi)
   simp only[hb,Bool.or_false,Bool.or_eq_true,Bool.not_eq_true',Bool.or_eq_false_iff]at this
   have zv: ¬Nat.ble j i=true:=by rw[Nat.ble_eq];omega
   have this:=this.resolve_left zv
   refine⟨fun d hd=>⟨fun PY=> ?_,fun PY=> ?_⟩,fun d hd PY=> ?_⟩
   ·exact ir this.1 (x:=d) (by simp[hd]) (by simp[PY])
   ·exact ir this.1 (x:=d) (by simp[hd]) (by simp[PY])
   ·exact ir this.2 (x:=d) (by simp[hd]) PY
  ·unfold Vo at O7
   simp only[List.all_eq_true]at O7
   have Vy:=ab8 j u hj
   have j2:=ab8 i v hi
   rw[Nat.zero_add]at Vy j2
   have:=O7 _ Vy _ j2
   simp only[hb,Bool.or_false,Bool.or_eq_true,Bool.not_eq_true',Bool.or_eq_false_iff]at this
   have zv: ¬Nat.ble j i=true:=by rw[Nat.ble_eq];omega
   have this:=this.resolve_left zv
   refine⟨fun k hk=>⟨fun zA=> ?_,fun zA=> ?_⟩,fun k hk zA=> ?_⟩
   ·exact ir this.1 (x:=k) hk (List.mem_append_left _ zA)
   ·exact ir this.1 (x:=k) hk (List.mem_append_right _ zA)
   ·exact ir this.2 (x:=k) hk zA
  ·refine Nat.le_trans (List.length_filter_le _ _) ?_
   rw[List.length_range];exact Nat.le_refl _
  ·have hf: ∀j,(Array.replicate ops.size false).getD j false=false:=by
    intro j
    rw[Array.getD_eq_getD_getElem?,Array.getElem?_replicate]
    split<;>rfl
   obtain⟨⟨M,ν,hc⟩,hs,hd,ry⟩:=hI
   refine⟨by simp,fun j o _ hS=>(by rw[hf]at hS;cases hS),σ,(ke.start us σ).congr (fun j=>(by rw[hf];simp)),⟨M,ν,?_⟩,hs,hd,ry⟩
   exact hc.tr (Tr.drew hc.mem)
end VM
end
