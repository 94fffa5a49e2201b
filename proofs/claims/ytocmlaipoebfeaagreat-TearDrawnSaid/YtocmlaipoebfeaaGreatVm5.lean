/- A part of the proof of TearDrawn of layer 29: a machine that reads a function of the program as an equation between values. -/
import Derived.Test.YtocmlaipoebfeaaGreatVm4
set_option linter.all false
section
namespace VM
open Go
variable{α:Type}{r:α}
theorem cD{υ τ:Ty}{y:υ.den}{k:τ.den→Option α}(h:bW υ τ y k=some r): ∃z,k z=some r∧ ∀k':τ.den→Option α,bW υ τ y k'=k' z:=by
 obtain⟨e,h⟩:=aX h
 subst e
 exact⟨y,h,fun k'=>by simp[bW]⟩
theorem fY{υ τ:Ty}{k:Option α}(h:jf υ τ k=some r):k=some r∧ ∀k':Option α,jf υ τ k'=k':=by
 obtain⟨e,h1⟩:=dA h
 clear h
 subst e
 exact⟨h1,fun k'=>by simp[jf]⟩
theorem cU{b:Bool}{K:Option α}(h:cond b K none=some r):K=some r∧ ∀K':Option α,cond b K' none=K':=by
 obtain⟨rfl,h⟩:=bx h
 exact⟨h,fun _=>rfl⟩
theorem om{b:Bool}{K:Option α}(h:cond b none K=some r):K=some r∧ ∀K':Option α,cond b none K'=K':=by
 obtain⟨rfl,h⟩:=iK h
 exact⟨h,fun _=>rfl⟩
theorem rf: ∀{τ:Ty} {x:τ.den} {n:Nat} {k:(υ:Ty)→υ.den→Option α},rM τ x n k=some r→ ∃υ y,k υ y=some r∧ ∀k':(υ:Ty)→υ.den→Option α,rM τ x n k'=k' υ y
 | .pair a b,x,0,k,h=>⟨a,x.1,h,fun _=>rfl⟩
 | .pair a b,x,n+1,k,h=>by
  obtain⟨υ,y,h1,h2⟩:=rf (τ:=b) (x:=x.2) (n:=n) (k:=k) h
  exact⟨υ,y,h1,fun k'=>h2 k'⟩
 | .int _,_,_,_,h| .bool,_,_,_,h| .str,_,_,_,h| .slice _,_,_,_,h| .unit,_,_,_,h| .arr _ _,_,_,_,h=>by simp[rM]at h
theorem sE: ∀{τ:Ty} {x:τ.den} {n:Nat} {m:(υ:Ty)→υ.den→(υ.den→Option α)→Option α} {k:τ.den→Option α},
  (∀υ y (k:υ.den→Option α),m υ y k=some r→ ∃z,k z=some r∧ ∀k':υ.den→Option α,m υ y k'=k' z)→je τ x n m k=some r→ ∃z,k z=some r∧ ∀k':τ.den→Option α,je τ x n m k'=k' z
 | .pair a b,x,0,m,k,hm,h=>by
  obtain⟨z,h1,h2⟩:=hm a x.1 _ h
  exact⟨(z,x.2),h1,fun k'=>h2 _⟩
 | .pair a b,x,n+1,m,k,hm,h=>by
  obtain⟨z,h1,h2⟩:=sE (τ:=b) (x:=x.2) (n:=n) (m:=m) (k:=fun z=>k (x.1,z)) hm h
  exact⟨(x.1,z),h1,fun k'=>h2 (fun z=>k' (x.1,z))⟩
 | .int _,_,_,_,_,_,h| .bool,_,_,_,_,_,h| .str,_,_,_,_,_,h| .slice _,_,_,_,_,_,h| .unit,_,_,_,_,_,h| .arr _ _,_,_,_,_,_,h=>by simp[je]at h
theorem eo: ∀{p:List Step} {τ:Ty} {x:τ.den} {k:(υ:Ty)→υ.den→Option α},tg p τ x k=some r→ ∃υ y,k υ y=some r∧ ∀k':(υ:Ty)→υ.den→Option α,tg p τ x k'=k' υ y
 |[],τ,x,k,h=>⟨τ,x,h,fun _=>rfl⟩
 | .gp n::p,τ,x,k,h=>by
  obtain⟨υ,y,h1,h2⟩:=rf (h:rM τ x n _=some r)
  obtain⟨υ',y',h3,h4⟩:=eo h1
  exact⟨υ',y',h3,fun k'=>(h2 _).trans (h4 k')⟩
 | .idx i::p,τ,x,k,h=>by
  cases τ with
  |arr n e=>
   obtain⟨υ',y',h3,h4⟩:=eo (p:=p) (τ:=e) (x:=List.getD x i e.zero) (k:=k) h
   exact⟨υ',y',h3,fun k'=>h4 k'⟩
  |_=>simp[tg,XH]at h
theorem kk{υ:Ty}{y:υ.den}: ∀{p:List Step} {τ:Ty} {x:τ.den} {k:τ.den→Option α},pQ υ y p τ x k=some r→ ∃z,k z=some r∧ ∀k':τ.den→Option α,pQ υ y p τ x k'=k' z
 |[],τ,x,k,h=>cD h
 | .gp n::p,τ,x,k,h=>sE (fun _ _ _ h=>kk h) h
 | .idx i::p,τ,x,k,h=>by
  cases τ with
  |arr n e=>
   obtain⟨z,h1,h2⟩:=kk (p:=p) (τ:=e) (x:=List.getD x i e.zero) (k:=fun z=>k (List.set x i z)) h
   exact⟨_,h1,fun k'=>h2 (fun z=>k' (List.set x i z))⟩
  |_=>simp[pQ,xD]at h
theorem nI{a:aV}{k:IntKind→Int→Option α}(h:p6 a k=some r): ∃i n,k i n=some r∧ ∀k':IntKind→Int→Option α,p6 a k'=k' i n:=by
 obtain⟨i,n,rfl,h⟩:=ji h
 exact⟨i,n,h,fun _=>rfl⟩
theorem Jy{a:aV}{k:(τ:Ty)→τ.den→Option α}(h:DS a k=some r): ∃τ x,k τ x=some r∧ ∀k':(τ:Ty)→τ.den→Option α,DS a k'=k' τ x:=by
 unfold DS at h
 split at h
 ·exact⟨_,_,h,fun _=>rfl⟩
 ·cases h
theorem oU{a:Option aV}{d:Int}{k:Int→Option α}(h:sv a d k=some r): ∃n,k n=some r∧ ∀k':Int→Option α,sv a d k'=k' n:=by
 cases a with
 |none=>exact⟨d,h,fun _=>rfl⟩
 |some a=>
  obtain⟨i,n,h1,h2⟩:=nI (h:p6 a (fun _ x=>k x)=some r)
  exact⟨n,h1,fun k'=>h2 (fun _ x=>k' x)⟩
abbrev Ag(rd:List Nat)(H H':Nat→Option aN):Prop:= ∀i∈rd,H' i=H i
theorem ko{fz:Bool}{a:aV}{H:Nat→Option aN}{τ:Ty}{k:τ.den→List Nat→fj→Option α}(h:ix fz a H τ k=some r):
  ∃y rd ups,k y rd ups=some r∧ ∀H',Ag rd H H'→ ∀k':τ.den→List Nat→fj→Option α,ix fz a H' τ k'=k' y rd ups:=by
 cases a with
 |val υ x=>
  simp only[ix]at h
  obtain⟨z,h1,h2⟩:=cD h
  refine⟨z,[],[],h1,fun H' _ k'=> ?_⟩
  simp only[ix]
  exact h2 (fun y=>k' y [] [])
 |B5 υ x n=>
  simp only[ix]at h
  obtain⟨z,h1,h2⟩:=cD h
  refine⟨z,[],[],h1,fun H' _ k'=> ?_⟩
  simp only[ix]
  exact h2 (fun y=>k' y [] [])
 |emp=>
  cases τ with
  |slice e=>exact⟨[],[],[],h,fun _ _ _=>rfl⟩
  |_=>cases h
 |ref id=>
  have h:(match H id with
   |some (.own e l)=>bW (.slice e) τ l fun y=>k y [id] (cond fz [(id,some (.kg e l))] [])
   |some (.kg e l)=>bW (.slice e) τ l fun y=>k y [id] []
   |_=>none)=some r:=h
  cases hH:H id with
  |none=>rw[hH]at h;cases h
  |some e=>
   rw[hH]at h
   cases e with
   |own e l=>
    obtain⟨z,h1,h2⟩:=cD (h:bW (.slice e) τ l _=some r)
    refine⟨z,_,_,h1,fun H' hA k'=> ?_⟩
    have:H' id=some (.own e l):=by rw[hA id (by simp),hH]
    show(match H' id with
     |some (.own e l)=>bW (.slice e) τ l fun y=>k' y [id] (cond fz [(id,some (.kg e l))] [])
     |some (.kg e l)=>bW (.slice e) τ l fun y=>k' y [id] []
     |_=>none)=_
    rw[this];exact h2 _
   |kg e l=>
    obtain⟨z,h1,h2⟩:=cD (h:bW (.slice e) τ l _=some r)
    refine⟨z,_,_,h1,fun H' hA k'=> ?_⟩
    have:H' id=some (.kg e l):=by rw[hA id (by simp),hH]
    show(match H' id with
     |some (.own e l)=>bW (.slice e) τ l fun y=>k' y [id] (cond fz [(id,some (.kg e l))] [])
     |some (.kg e l)=>bW (.slice e) τ l fun y=>k' y [id] []
     |_=>none)=_
    rw[this];exact h2 _
   |obj _ _=>cases h
   |dK _ _ _ _=>cases h
   |gone=>cases h
 |any|Ms|fA _ _|me _ _|tup _|DQ _ _=>cases h
theorem vf{id:Nat}{p:List Step}{H:Nat→Option aN}{k:Ty→Option α}(h:jg id p H k=some r): ∃υ,k υ=some r∧ ∀H',H' id=H id→ ∀k':Ty→Option α,jg id p H' k'=k' υ:=by
 unfold jg at h
 split at h
 ·rename_i τ x aQ
  obtain⟨υ,y,h1,h2⟩:=eo h
  exact⟨υ,h1,fun H' hA k'=>by unfold jg;rw[hA,aQ];exact h2 _⟩
 ·rename_i τ x _ _ aQ
  obtain⟨υ,y,h1,h2⟩:=eo h
  exact⟨υ,h1,fun H' hA k'=>by unfold jg;rw[hA,aQ];exact h2 _⟩
 ·rename_i e l aQ
  split at h
  ·obtain⟨υ,y,h1,h2⟩:=eo h
   exact⟨υ,h1,fun H' hA k'=>by unfold jg;rw[hA,aQ];exact h2 _⟩
  ·cases h
 ·rename_i e l aQ
  split at h
  ·obtain⟨υ,y,h1,h2⟩:=eo h
   exact⟨υ,h1,fun H' hA k'=>by unfold jg;rw[hA,aQ];exact h2 _⟩
  ·cases h
 ·cases h
theorem ri{H:Nat→Option aN}{id:Nat}{e:aN}{K:Option α}(h:mf H id e K=some r):K=some r∧ ∀H',H' id=H id→ ∀(e':aN) (K':Option α),mf H' id e' K'=K':=by
 obtain⟨h1,h2⟩:=g9 h
 exact⟨h2,fun H' hA e' K'=>by unfold mf;rw[hA,h1]⟩
theorem KO{b:BinOp}{k:IntKind}{x y:Int}{K:aV→Option α}(h:oK b k x y K=some r): ∃v,K v=some r∧ ∀K':aV→Option α,oK b k x y K'=K' v:=by
 cases b<;>simp only[oK]at h ⊢ <;>first
  |exact⟨_,h,fun _=>rfl⟩
  |(obtain⟨h1,h2⟩:=om h;exact⟨_,h1,fun _=>h2 _⟩)
  |cases h
theorem Yj{b:BinOp}{k:IntKind}{x y:Int}{K:aV→Option α}(h:P7 b k x y K=some r): ∃v,K v=some r∧ ∀K':aV→Option α,P7 b k x y K'=K' v:=by
 cases b<;>simp only[P7]at h ⊢ <;>first
  |(obtain⟨h1,h2⟩:=om h;exact⟨_,h1,fun _=>h2 _⟩)
  |cases h
theorem MT{t:Option Ty}{op:BinOp}{τ:Ty}{x:τ.den}{υ:Ty}{y:υ.den}{K:aV→Option α}(h:yh t op τ x υ y K=some r): ∃v,K v=some r∧ ∀K':aV→Option α,yh t op τ x υ y K'=K' v:=by
 unfold yh at h ⊢
 split at h
 ·rename_i k x k' y
  cases hs:P8 op
  ·rw[hs]at h
   have h:(if k=k' then oK op k x y K else none)=some r:=h
   by_cases hk:k=k'
   ·rw[if_pos hk]at h
    obtain⟨v,h1,h2⟩:=KO h
    exact⟨v,h1,fun K'=>by simp only[cond_false,if_pos hk];exact h2 K'⟩
   ·rw[if_neg hk]at h;cases h
  ·rw[hs]at h
   obtain⟨v,h1,h2⟩:=Yj (h:P7 op k x y K=some r)
   exact⟨v,h1,fun K'=>by simp only[cond_true];exact h2 K'⟩
 ·split at h
  ·cases h
  ·obtain⟨h1,h2⟩:=fY h
   obtain⟨h3,h4⟩:=cU h1
   split at h3
   ·obtain⟨z,h5,h6⟩:=cD h3
    exact⟨_,h5,fun K'=>by rw[h2,h4];exact h6 _⟩
   ·obtain⟨z,h5,h6⟩:=cD h3
    exact⟨_,h5,fun K'=>by rw[h2,h4];exact h6 _⟩
   ·cases h3
theorem Qw{u:UnOp}{a:aV}{K:aV→Option α}(h:Kt u a K=some r): ∃v,K v=some r∧ ∀K':aV→Option α,Kt u a K'=K' v:=by
 unfold Kt at h
 split at h<;>first
  |exact⟨_,h,fun _=>rfl⟩
  |cases h
theorem HS{up:Bool}: ∀{xs:List aV} {a:aV} {K:aV→Option α},PH up a xs K=some r→ ∃v,K v=some r∧ ∀K':aV→Option α,PH up a xs K'=K' v
 |[],a,K,h=>⟨a,h,fun _=>rfl⟩
 |b::xs,a,K,h=>by
  unfold PH at h
  obtain⟨k,x,h1,h2⟩:=nI h
  obtain⟨k',y,h3,h4⟩:=nI h1
  by_cases hk:k=k'
  ·rw[if_pos hk]at h3
   obtain⟨v,h5,h6⟩:=HS h3
   refine⟨v,h5,fun K'=> ?_⟩
   unfold PH
   rw[h2,h4,if_pos hk]
   exact h6 K'
  ·rw[if_neg hk]at h3;cases h3
theorem Qx{τ:Ty}{a:aV}{H:Nat→Option aN}{K:fk α}(h:DT τ a H K=some r): ∃v rd ups,K v rd ups=some r∧ ∀H',Ag rd H H'→ ∀K':fk α,DT τ a H' K'=K' v rd ups:=by
 unfold DT at h
 split at h
 ·exact⟨_,_,_,h,fun _ _ _=>rfl⟩
 ·exact⟨_,_,_,h,fun _ _ _=>rfl⟩
 ·exact⟨_,_,_,h,fun _ _ _=>rfl⟩
 ·exact⟨_,_,_,h,fun _ _ _=>rfl⟩
 ·split at h
  ·rename_i aQ
   exact⟨_,_,_,h,fun H' hA K'=>by unfold DT;simp only;rw[hA _ (by simp),aQ]⟩
  ·rename_i aQ
   exact⟨_,_,_,h,fun H' hA K'=>by unfold DT;simp only;rw[hA _ (by simp),aQ]⟩
  ·cases h
 ·cases h
theorem Qy{id:Nat}{e:Ty}{a b:aV}{H:Nat→Option aN}{K:fk α}(h:DU id e a b H K=some r): ∃v rd ups,K v rd ups=some r∧id∈rd∧ ∀H',Ag rd H H'→ ∀K':fk α,DU id e a b H' K'=K' v rd ups:=by
 unfold DU at h
 obtain⟨ys,rd,ups,h1,h2⟩:=ko h
 split at h1
 ·obtain⟨h3,h4⟩:=cU h1
  refine⟨_,_,_,h3,by simp,fun H' hA K'=> ?_⟩
  unfold DU
  rw[h2 H' (fun i hi=>hA i (List.mem_cons_of_mem _ hi))]
  exact h4 _
 ·rename_i j
  split at h1
  ·rename_i e' l hj
   obtain⟨z,h3,h4⟩:=cD h1
   obtain⟨h5,h6⟩:=cU h3
   refine⟨_,_,_,h5,by simp,fun H' hA K'=> ?_⟩
   unfold DU
   rw[h2 H' (fun i hi=>hA i (List.mem_cons_of_mem _ (List.mem_cons_of_mem _ hi)))]
   simp only
   rw[hA j (by simp),hj]
   simp only
   rw[h4]
   exact h6 _
  ·cases h1
 ·cases h1
theorem yD{e:Ty}{n:Nat}{H:Nat→Option aN}: ∀{ps:List (Nat×aV)} {l:List e.den} {A6:List Nat} {yE:fj} {K:List e.den→List Nat→fj→Option α},p8 e H n ps l A6 yE K=some r→
  ∃l' rd ups,K l' rd ups=some r∧(∀i∈A6,i∈rd)∧ ∀H',Ag rd H H'→ ∀K':List e.den→List Nat→fj→Option α,p8 e H' n ps l A6 yE K'=K' l' rd ups
 |[],l,A6,yE,K,h=>⟨l,A6,yE,h,fun _ h=>h,fun _ _ _=>rfl⟩
 |p::ps,l,A6,yE,K,h=>by
  unfold p8 at h
  obtain⟨h1,h2⟩:=cU h
  obtain⟨y,XY,HL,h3,h4⟩:=ko h1
  obtain⟨l',rd,ups,h5,h6,h7⟩:=yD h3
  refine⟨l',rd,ups,h5,fun i hi=>h6 i (List.mem_append_right _ hi),fun H' hA K'=> ?_⟩
  unfold p8
  rw[h2,h4 H' (fun i hi=>hA i (h6 i (List.mem_append_left _ hi)))]
  exact h7 H' hA K'
theorem A7{τ:Ty}{H:Nat→Option aN}: ∀{ps:List (Nat×aV)} {x:τ.den} {A6:List Nat} {yE:fj} {K:τ.den→List Nat→fj→Option α},oL τ H ps x A6 yE K=some r→
  ∃x' rd ups,K x' rd ups=some r∧(∀i∈A6,i∈rd)∧ ∀H',Ag rd H H'→ ∀K':τ.den→List Nat→fj→Option α,oL τ H' ps x A6 yE K'=K' x' rd ups
 |[],x,A6,yE,K,h=>⟨x,A6,yE,h,fun _ h=>h,fun _ _ _=>rfl⟩
 |p::ps,x,A6,yE,K,h=>by
  unfold oL at h
  obtain⟨υ,z,h1,h2⟩:=rf h
  obtain⟨y,XY,HL,h3,h4⟩:=ko h1
  obtain⟨z',h5,h6⟩:=sE (m:=fun υ' _ k'=>bW υ υ' y k') (fun υ' y' k hk=>cD hk) h3
  obtain⟨x',rd,ups,h7,h8,h9⟩:=A7 h5
  refine⟨x',rd,ups,h7,fun i hi=>h8 i (List.mem_append_right _ hi),fun H' hA K'=> ?_⟩
  unfold oL
  rw[h2,h4 H' (fun i hi=>hA i (h8 i (List.mem_append_left _ hi))),h6]
  exact h9 H' hA K'
theorem MU{H:Nat→Option aN}{v:aV}{a:Ty}{k:a.den→List Nat→fj→Option α}(h:vP v H a k=some r):
  ∃x rd ups,k x rd ups=some r∧ ∀H',Ag rd H H'→ ∀k':a.den→List Nat→fj→Option α,vP v H' a k'=k' x rd ups:=by
 unfold vP at h
 split at h
 ·split at h
  ·obtain⟨z,h1,h2⟩:=cD h
   refine⟨_,_,_,h1,fun H' _ k'=> ?_⟩
   unfold vP
   simp only
   rw[h2]
  ·cases h
 ·rename_i k0 pZ
  obtain⟨y,rd,ups,h1,h2⟩:=ko h
  refine⟨y,rd,ups,h1,fun H' hA k'=> ?_⟩
  unfold vP
  split
  ·exact(pZ _ _ rfl HEq.rfl).elim
  ·exact h2 H' hA _
theorem Eo{H:Nat→Option aN}: ∀{τ:Ty} {vs:List aV} {k:τ.den→List Nat→fj→Option α},mg H τ vs k=some r→
  ∃x rd ups,k x rd ups=some r∧ ∀H',Ag rd H H'→ ∀k':τ.den→List Nat→fj→Option α,mg H' τ vs k'=k' x rd ups
 | .unit,[],k,h=>⟨(),[],[],h,fun _ _ _=>rfl⟩
 | .pair a b,v::vs,k,h=>by
  unfold mg at h
  obtain⟨y,rd,ups,h1,h2⟩:=MU h
  obtain⟨ys,uZ,jP,h3,h4⟩:=Eo h1
  refine⟨(y,ys),_,_,h3,fun H' hA k'=> ?_⟩
  unfold mg
  rw[h2 H' (fun i hi=>hA i (List.mem_append_right _ hi)),h4 H' (fun i hi=>hA i (List.mem_append_left _ hi))]
 | .unit,_::_,_,h=>by simp[mg]at h
 | .pair _ _,[],_,h=>by simp[mg]at h
 | .int _,_,_,h| .bool,_,_,h| .str,_,_,h| .slice _,_,_,h| .arr _ _,_,_,h=>by simp[mg]at h
theorem yF: ∀{lx:List aV} {H:Nat→Option aN} {K:List aV→List Nat→fj→Option α},p9 H lx K=some r→
  ∃cs rd ups,K cs rd ups=some r∧ ∀H',Ag rd H H'→ ∀K':List aV→List Nat→fj→Option α,p9 H' lx K'=K' cs rd ups
 |[],H,K,h=>⟨[],[],[],h,fun _ _ _=>rfl⟩
 |a::lx,H,K,h=>by
  unfold p9 at h
  split at h
  ·rename_i id
   split at h
   ·rename_i τ x aQ
    obtain⟨cs,rd,ups,h1,h2⟩:=yF h
    refine⟨_,_,_,h1,fun H' hA K'=> ?_⟩
    unfold p9
    simp only
    rw[hA id (by simp),aQ]
    simp only
    rw[h2 (bh H' id (some .gone)) (fun i hi=>by
     by_cases bo:i=id
     ·subst bo;rw[ak,ak]
     ·rw[al _ _ bo,al _ _ bo];exact hA i (List.mem_cons_of_mem _ hi))]
   ·cases h
  ·rename_i pZ
   obtain⟨cs,rd,ups,h1,h2⟩:=yF h
   refine⟨_,_,_,h1,fun H' hA K'=> ?_⟩
   unfold p9
   split
   ·exact absurd rfl (pZ _)
   ·rw[h2 H' hA]
end VM
end
section
namespace VM
open Go
variable{α:Type}{r:α}
theorem Ep{m:AM}{a:aV}{H:Nat→Option aN}{k:m.den→(Nat→Option aN)→List Nat→fj→fj→List (Nat×Ty)→Option α}(h:ku m a H k=some r):
  ∃y rd uo uf io,∃g:(Nat→Option aN)→(Nat→Option aN),k y (g H) rd uo uf io=some r∧(∀H' i,H' i=H i→g H' i=g H i)∧
   ∀H',Ag rd H H'→ ∀k':m.den→(Nat→Option aN)→List Nat→fj→fj→List (Nat×Ty)→Option α,ku m a H' k'=k' y (g H') rd uo uf io:=by
 have KP: ∀(d:Nat) (v:Option aN) (H':Nat→Option aN) (i:Nat),H' i=H i→bh H' d v i=bh H d v i:=by
  intro d v H' i hi
  by_cases aQ:i=d
  ·subst aQ;rw[ak,ak]
  ·rw[al _ _ aQ,al _ _ aQ,hi]
 unfold ku at h
 split at h
 ·rename_i τ k
  obtain⟨y,rd,ups,h1,h2⟩:=ko h
  cases ups with
  |nil=>
   refine⟨y,rd,[],[],[],fun H=>H,h1,fun _ _ h=>h,fun H' hA k'=> ?_⟩
   unfold ku;simp only;rw[h2 H' hA]
  |cons u rest=>
   refine⟨y,rd,[],u::rest,[],fun H=>bh H u.1 u.2,h1,fun H' i hi=>KP _ _ H' i hi,fun H' hA k'=> ?_⟩
   unfold ku;simp only;rw[h2 H' hA]
 ·rename_i e k
  split at h
  ·exact⟨[],[],[],[],[],fun H=>H,h,fun _ _ h=>h,fun _ _ _=>rfl⟩
  ·rename_i id
   split at h
   ·rename_i e' l aQ
    obtain⟨z,h1,h2⟩:=cD h
    refine⟨z,[id],_,_,_,fun H=>bh H id (some .gone),h1,fun H' i hi=>KP _ _ H' i hi,fun H' hA k'=> ?_⟩
    unfold ku;simp only;rw[hA id (by simp),aQ];simp only;rw[h2]
   ·cases h
  ·cases h
 ·rename_i τ k
  split at h
  ·rename_i id
   split at h
   ·rename_i υ x aQ
    obtain⟨z,h1,h2⟩:=cD h
    refine⟨z,[id],_,_,_,fun H=>bh H id (some .gone),h1,fun H' i hi=>KP _ _ H' i hi,fun H' hA k'=> ?_⟩
    unfold ku;simp only;rw[hA id (by simp),aQ];simp only;rw[h2]
   ·cases h
  ·cases h
 ·rename_i f τ k
  split at h
  ·rename_i f' cs
   obtain⟨h1,h2⟩:=cU h
   obtain⟨x,rd,ups,h3,h4⟩:=Eo h1
   cases ups with
   |nil=>
    refine⟨x,rd,[],[],[],fun H=>H,h3,fun _ _ h=>h,fun H' hA k'=> ?_⟩
    unfold ku;simp only;rw[h2,h4 H' hA]
   |cons _ _=>cases h3
  ·cases h
 ·cases h
 ·rename_i τ k
  split at h
  ·obtain⟨z,h1,h2⟩:=cD h
   refine⟨z,[],[],[],[],fun H=>H,h1,fun _ _ h=>h,fun H' hA k'=> ?_⟩
   unfold ku;simp only;rw[h2]
  ·cases h
theorem Er: ∀{ms:List AM} {lx:List aV} {H:Nat→Option aN} {A6:List Nat} {uo0 uf0:fj} {io0:List (Nat×Ty)} {K:HP ms→List Nat→fj→fj→List (Nat×Ty)→Option α},n9 ms lx H A6 uo0 uf0 io0 K=some r→
  ∃x rd uo uf io,K x rd uo uf io=some r∧(∀i∈A6,i∈rd)∧ ∀H',Ag rd H H'→ ∀K':HP ms→List Nat→fj→fj→List (Nat×Ty)→Option α,n9 ms lx H' A6 uo0 uf0 io0 K'=K' x rd uo uf io
 |[],[],H,A6,uo0,uf0,io0,K,h=>⟨(),_,_,_,_,h,fun _ h=>h,fun _ _ _=>rfl⟩
 |[m],[a],H,A6,uo0,uf0,io0,K,h=>by
  obtain⟨y,rd,uo,uf,io,g,h1,h2,h3⟩:=Ep (h:ku m a H _=some r)
  exact⟨y,_,_,_,_,h1,fun i hi=>List.mem_append_right _ hi,fun H' hA K'=>h3 H' (fun i hi=>hA i (List.mem_append_left _ hi)) _⟩
 |m::n::ms,a::lx,H,A6,uo0,uf0,io0,K,h=>by
  obtain⟨y,rd,uo,uf,io,g,h1,h2,h3⟩:=Ep (h:ku m a H _=some r)
  obtain⟨ys,uZ,DB,DC,z2,h4,h5,h6⟩:=Er (ms:=n::ms) h1
  refine⟨(y,ys),uZ,DB,DC,z2,h4,fun i hi=>h5 i (List.mem_append_right _ hi),fun H' hA K'=> ?_⟩
  refine(h3 H' (fun i hi=>hA i (h5 i (List.mem_append_left _ hi))) _).trans ?_
  exact h6 (g H') (fun i hi=>h2 H' i (hA i hi)) _
 |[],_::_,_,_,_,_,_,_,h=>by simp[n9]at h
 |[_],[],_,_,_,_,_,_,h=>by simp[n9]at h
 |[_],_::_::_,_,_,_,_,_,_,h=>by simp[n9]at h
 |_::_::_,[],_,_,_,_,_,_,h=>by simp[n9]at h
theorem MV{id i:Nat}: ∀{n:Nat},i∈DW id n↔id≤i∧i<id+n
 |0=>by simp[DW]
 |n+1=>by simp only[DW,List.mem_cons,MV];omega
theorem si{H H':Nat→Option aN}{id:Nat}: ∀{n:Nat},(∀i∈DW id n,H' i=H i)→oM H' id n=oM H id n
 |0,_=>rfl
 |n+1,h=>by
  unfold oM
  rw[h (id+n) (by simp[DW]),si fun i hi=>h i (by simp[DW,hi])]
theorem MW{E:Env}{f id:Nat}{lx:List aV}{H:Nat→Option aN}{K:fk α}(h:vR E f lx id H K=some r): ∃v rd ups,K v rd ups=some r∧ ∀H',Ag rd H H'→ ∀K':fk α,vR E f lx id H' K'=K' v rd ups:=by
 unfold vR at h
 split at h
 ·cases h
 ·rename_i S hS
  obtain⟨x,rd,uo,uf,io,h1,_,h2⟩:=Er h
  obtain⟨y,hy,h3⟩:=Option.bind_eq_some_iff.1 h1
  obtain⟨h4,h5⟩:=bx h3
  refine⟨_,_,_,h5,fun H' hA K'=> ?_⟩
  unfold vR
  rw[hS]
  simp only
  rw[h2 H' (fun i hi=>hA i (List.mem_append_right _ (List.mem_append_right _ hi))),hy]
  simp only[Option.bind_some]
  rw[si (fun i hi=>hA i (List.mem_append_left _ hi)),h4]
  rfl
theorem KQ{t:Ty}{z:Bool}{a:aV}{lo hi mx:Option aV}{H:Nat→Option aN}{K:fk α}(h:mh t z a lo hi mx H K=some r): ∃v rd ups,K v rd ups=some r∧ ∀H',Ag rd H H'→ ∀K':fk α,mh t z a lo hi mx H' K'=K' v rd ups:=by
 unfold mh at h
 split at h
 ·obtain⟨h1,e1⟩:=cU h
  obtain⟨l,h2,e2⟩:=oU h1
  obtain⟨m,h3,e3⟩:=oU h2
  obtain⟨h4,e4⟩:=cU h3
  exact⟨_,_,_,h4,fun H' _ K'=>by unfold mh;simp only;rw[e1,e2,e3,e4]⟩
 ·cases z
  ·obtain⟨h1,e1⟩:=cU (h:cond mx.isNone _ none=some r)
   obtain⟨l,h2,e2⟩:=oU h1
   obtain⟨m,h3,e3⟩:=oU h2
   obtain⟨h4,e4⟩:=cU h3
   exact⟨_,_,_,h4,fun H' _ K'=>by unfold mh;simp only[cond_false];rw[e1,e2,e3,e4]⟩
  ·exact⟨_,_,_,h,fun H' _ K'=>by unfold mh;rfl⟩
 ·rename_i e g7
  obtain⟨y,rd,ups,h1,e1⟩:=ko h
  cases z
  ·obtain⟨h2,e2⟩:=cU (h1:cond (mx.isNone||hi.isSome) _ none=some r)
   obtain⟨l,h3,e3⟩:=oU h2
   obtain⟨m,h4,e4⟩:=oU h3
   obtain⟨n,h5,e5⟩:=oU h4
   obtain⟨h6,e6⟩:=cU h5
   refine⟨_,_,_,h6,fun H' hA K'=> ?_⟩
   unfold mh
   simp only
   rw[e1 H' hA]
   simp only[cond_false]
   rw[e2,e3,e4,e5,e6]
  ·refine⟨_,_,_,(h1:K .emp rd []=some r),fun H' hA K'=> ?_⟩
   unfold mh
   simp only
   rw[e1 H' hA]
   rfl
 ·cases h
theorem Au{τ:Ty}{a i:aV}{H:Nat→Option aN}{K:fk α}(h:dT τ a i H K=some r): ∃v rd ups,K v rd ups=some r∧ ∀H',Ag rd H H'→ ∀K':fk α,dT τ a i H' K'=K' v rd ups:=by
 unfold dT at h
 obtain⟨k,n,h,e0⟩:=nI h
 split at h
 ·split at h
  ·obtain⟨z,h1,e1⟩:=cD h
   obtain⟨h2,e2⟩:=cU h1
   exact⟨_,_,_,h2,fun H' _ K'=>by unfold dT;rw[e0];simp only;rw[e1,e2]⟩
  ·split at h
   ·rename_i aQ
    obtain⟨h1,e1⟩:=fY h
    obtain⟨h2,e2⟩:=cU h1
    exact⟨_,_,_,h2,fun H' hA K'=>by unfold dT;rw[e0];simp only;rw[hA _ (by simp),aQ];simp only;rw[e1,e2]⟩
   ·rename_i aQ
    obtain⟨h1,e1⟩:=fY h
    obtain⟨h2,e2⟩:=cU h1
    exact⟨_,_,_,h2,fun H' hA K'=>by unfold dT;rw[e0];simp only;rw[hA _ (by simp),aQ];simp only;rw[e1,e2]⟩
   ·cases h
  ·cases h
 ·split at h
  ·obtain⟨υ,h1,e1⟩:=vf h
   obtain⟨h2,e2⟩:=fY h1
   obtain⟨h3,e3⟩:=cU h2
   exact⟨_,_,_,h3,fun H' hA K'=>by unfold dT;rw[e0];simp only;rw[e1 H' (hA _ (by simp)),e2,e3]⟩
  ·obtain⟨z,h1,e1⟩:=cD h
   obtain⟨h2,e2⟩:=cU h1
   exact⟨_,_,_,h2,fun H' _ K'=>by unfold dT;rw[e0];simp only;rw[e1,e2]⟩
  ·cases h
 ·cases h
theorem KR{τ:Ty}{a i:aV}{K:aV→Option α}(h:qa τ a i K=some r): ∃v,K v=some r∧ ∀K':aV→Option α,qa τ a i K'=K' v:=by
 unfold qa at h
 obtain⟨k,n,h,e0⟩:=nI h
 split at h
 ·obtain⟨z,h1,e1⟩:=cD h
  obtain⟨h2,e2⟩:=cU h1
  exact⟨_,h2,fun K'=>by unfold qa;rw[e0];simp only;rw[e1,e2]⟩
 ·obtain⟨h2,e2⟩:=cU h
  exact⟨_,h2,fun K'=>by unfold qa;rw[e0];simp only;rw[e2]⟩
 ·cases h
theorem MX{a:aV}{H:Nat→Option aN}{K:(υ:Ty)→υ.den→List Nat→Option α}(h:gN a H K=some r): ∃υ y rd,K υ y rd=some r∧ ∀H',Ag rd H H'→ ∀K':(υ:Ty)→υ.den→List Nat→Option α,gN a H' K'=K' υ y rd:=by
 unfold gN at h
 split at h
 ·exact⟨_,_,_,h,fun _ _ _=>rfl⟩
 ·split at h
  ·rename_i aQ
   obtain⟨υ,y,h1,e1⟩:=eo h
   exact⟨_,_,_,h1,fun H' hA K'=>by unfold gN;simp only;rw[hA _ (by simp),aQ];simp only;rw[e1]⟩
  ·rename_i aQ
   split at h
   ·obtain⟨υ,y,h1,e1⟩:=eo h
    exact⟨_,_,_,h1,fun H' hA K'=>by unfold gN;simp only;rw[hA _ (by simp),aQ];simp only;rw[e1]⟩
   ·cases h
  ·rename_i aQ
   split at h
   ·obtain⟨υ,y,h1,e1⟩:=eo h
    exact⟨_,_,_,h1,fun H' hA K'=>by unfold gN;simp only;rw[hA _ (by simp),aQ];simp only;rw[e1]⟩
   ·cases h
  ·cases h
 ·cases h
theorem KS{τ:Ty}{a v:aV}{H:Nat→Option aN}{K:fk α}(h:iz τ a v H K=some r): ∃u rd ups,K u rd ups=some r∧ ∀H',Ag rd H H'→ ∀K':fk α,iz τ a v H' K'=K' u rd ups:=by
 unfold iz at h
 split at h
 ·obtain⟨y,rd,ups,h1,e1⟩:=ko h
  split at h1
  ·rename_i aQ
   obtain⟨z,h2,e2⟩:=kk h1
   exact⟨_,_,_,h2,fun H' hA K'=>by
    unfold iz;simp only
    rw[e1 H' (fun i hi=>hA i (List.mem_cons_of_mem _ hi))]
    rw[hA _ (by simp),aQ];simp only;rw[e2]⟩
  ·rename_i aQ
   split at h1
   ·obtain⟨h2,e2⟩:=om h1
    obtain⟨z,h3,e3⟩:=kk h2
    exact⟨_,_,_,h3,fun H' hA K'=>by
     unfold iz;simp only
     rw[e1 H' (fun i hi=>hA i (List.mem_cons_of_mem _ hi))]
     rw[hA _ (by simp),aQ];simp only;rw[e2,e3]⟩
   ·cases h1
  ·cases h1
 ·cases h
theorem Qz{j:Nat}{q:List Step}{τ:Ty}{x:τ.den}{H:Nat→Option aN}{k:τ.den→fj→Option α}(h:wW j q τ x H k=some r): ∃z ups,k z ups=some r∧ ∀H',H' j=H j→ ∀k':τ.den→fj→Option α,wW j q τ x H' k'=k' z ups:=by
 unfold wW at h
 split at h
 ·rename_i hj
  obtain⟨z,h1,e1⟩:=kk h
  exact⟨_,_,h1,fun H' hA k'=>by unfold wW;rw[hA,hj];simp only;rw[e1]⟩
 ·rename_i hj
  obtain⟨z,h1,e1⟩:=kk h
  exact⟨_,_,h1,fun H' hA k'=>by unfold wW;rw[hA,hj];simp only;rw[e1]⟩
 ·cases h
abbrev Pts(F:(Nat→Option aN)→fk α→Option α)(H:Nat→Option aN)(K:fk α)(r:α):Prop:=
 ∃v rd ups,K v rd ups=some r∧ ∀H',Ag rd H H'→ ∀K':fk α,F H' K'=K' v rd ups
theorem MY{τ:Ty}{a:aV}{H:Nat→Option aN}{K:fk α}(h:(gN a H fun υ y rd=>bW υ τ y fun z=>K (.val τ z) rd [])=some r):
  Pts (fun H K=>gN a H fun υ y rd=>bW υ τ y fun z=>K (.val τ z) rd []) H K r:=by
 obtain⟨υ,y,rd,h1,e1⟩:=MX h
 obtain⟨z,h2,e2⟩:=cD h1
 exact⟨_,_,_,h2,fun H' hA K'=>by simp only;rw[e1 H' hA,e2]⟩
theorem adu{id:Nat}{p:List Step}{H:Nat→Option aN}{K:(υ:Ty)→υ.den→List Nat→Option α}(h:gN (.fA id p) H K=some r): ∃υ y,K υ y [id]=some r:=by
 unfold gN at h
 simp only at h
 split at h
 ·obtain⟨υ,y,h1,_⟩:=eo h;exact⟨υ,y,h1⟩
 ·split at h
  ·obtain⟨υ,y,h1,_⟩:=eo h;exact⟨υ,y,h1⟩
  ·cases h
 ·split at h
  ·obtain⟨υ,y,h1,_⟩:=eo h;exact⟨υ,y,h1⟩
  ·cases h
 ·cases h
theorem MZ{τ:Ty}{id:Nat}{p:List Step}{H:Nat→Option aN}{K:fk α}(h:(gN (.fA id p) H fun υ y rd=>bW υ τ y fun z=>K (.val τ z) rd [])=some r):
  ∃z,K (.val τ z) [id] []=some r∧ ∀H',H' id=H id→ ∀K':fk α,(gN (.fA id p) H' fun υ y rd=>bW υ τ y fun z=>K' (.val τ z) rd [])=K' (.val τ z) [id] []:=by
 unfold gN at h
 simp only at h
 split at h
 ·rename_i aQ
  obtain⟨υ,y,h1,e1⟩:=eo h
  obtain⟨z,h2,e2⟩:=cD h1
  exact⟨_,h2,fun H' hA K'=>by unfold gN;simp only;rw[hA,aQ];simp only;rw[e1,e2]⟩
 ·rename_i aQ
  split at h
  ·obtain⟨υ,y,h1,e1⟩:=eo h
   obtain⟨z,h2,e2⟩:=cD h1
   exact⟨_,h2,fun H' hA K'=>by unfold gN;simp only;rw[hA,aQ];simp only;rw[e1,e2]⟩
  ·cases h
 ·rename_i aQ
  split at h
  ·obtain⟨υ,y,h1,e1⟩:=eo h
   obtain⟨z,h2,e2⟩:=cD h1
   exact⟨_,h2,fun H' hA K'=>by unfold gN;simp only;rw[hA,aQ];simp only;rw[e1,e2]⟩
  ·cases h
 ·cases h
theorem M4{τ:Ty}{a:aV}{H:Nat→Option aN}{K:fk α}(h:pE τ a H K=some r):Pts (pE τ a) H K r:=by
 unfold pE at h
 simp only at h
 split at h
 ·rename_i id p
  split at h
  ·rename_i υ x q j aQ
   cases hp:DP p q
   ·cases Ae:rL p q
    ·rw[hp,Ae]at h
     simp only[cond_false]at h
     obtain⟨υ',y,h1,e1⟩:=eo h
     obtain⟨z,h2,e2⟩:=cD h1
     exact⟨_,_,_,h2,fun H' hA K'=>by
      unfold pE;simp only;rw[hA id (by simp),aQ];simp only
      rw[hp,Ae];simp only[cond_false];rw[e1,e2]⟩
    ·rw[hp,Ae]at h
     simp only[cond_false,cond_true]at h
     obtain⟨z,ups,h1,e1⟩:=Qz h
     obtain⟨υ',y,h2,e2⟩:=eo h1
     obtain⟨z',h3,e3⟩:=cD h2
     exact⟨_,_,_,h3,fun H' hA K'=>by
      unfold pE;simp only;rw[hA id (by simp),aQ];simp only
      rw[hp,Ae];simp only[cond_false,cond_true];rw[e1 H' (hA j (by simp)),e2,e3]⟩
   ·rw[hp]at h
    simp only[cond_true]at h
    obtain⟨h1,e1⟩:=cU h
    exact⟨_,_,_,h1,fun H' hA K'=>by
     unfold pE;simp only;rw[hA id (by simp),aQ];simp only
     rw[hp];simp only[cond_true];rw[e1]⟩
  ·rename_i pZ
   obtain⟨z,h1,e1⟩:=MZ h
   refine⟨_,_,_,h1,fun H' hA K'=> ?_⟩
   unfold pE;simp only;rw[hA id (by simp)]
   split
   ·rename_i aQ;exact absurd aQ (pZ _ _ _ _)
   ·exact e1 H' (hA id (by simp)) K'
 ·rename_i pZ
  obtain⟨v,rd,ups,h1,e1⟩:=MY h
  refine⟨v,rd,ups,h1,fun H' hA K'=> ?_⟩
  have:pE τ a H' K'=gN a H' fun υ y rd=>bW υ τ y fun z=>K' (.val τ z) rd []:=by
   unfold pE
   cases a<;>first|rfl|exact absurd rfl (pZ _ _)
  rw[this]
  exact e1 H' hA K'
theorem Es{τ:Ty}{id k:Nat}{e:Ty}{q:List Step}{υ:Ty}{x:υ.den}{H:Nat→Option aN}{K:fk α}(h:vS τ id k e q υ x H K=some r):
  ∃v ups,K v [id,k] ups=some r∧ ∀H',H' k=H k→ ∀K':fk α,vS τ id k e q υ x H' K'=K' v [id,k] ups:=by
 unfold vS at h
 split at h
 ·rename_i aQ
  obtain⟨h1,e1⟩:=fY h
  obtain⟨h2,e2⟩:=fY h1
  obtain⟨z,h3,e3⟩:=kk h2
  exact⟨_,_,h3,fun H' hA K'=>by unfold vS;rw[hA,aQ];simp only;rw[e1,e2,e3]⟩
 ·cases h
theorem vg{τ:Ty}{id:Nat}{p:List Step}{v:aV}{H:Nat→Option aN}{K:fk α}(h:iz τ (.fA id p) v H K=some r):
  ∃u rd ups,id∈rd∧K u rd ups=some r∧ ∀H',Ag rd H H'→ ∀K':fk α,iz τ (.fA id p) v H' K'=K' u rd ups:=by
 unfold iz at h
 simp only at h
 obtain⟨y,rd,ups,h1,e1⟩:=ko h
 split at h1
 ·rename_i aQ
  obtain⟨z,h2,e2⟩:=kk h1
  exact⟨_,_,_,by simp,h2,fun H' hA K'=>by
   unfold iz;simp only
   rw[e1 H' (fun i hi=>hA i (List.mem_cons_of_mem _ hi))]
   rw[hA _ (by simp),aQ];simp only;rw[e2]⟩
 ·rename_i aQ
  split at h1
  ·obtain⟨h2,e2⟩:=om h1
   obtain⟨z,h3,e3⟩:=kk h2
   exact⟨_,_,_,by simp,h3,fun H' hA K'=>by
    unfold iz;simp only
    rw[e1 H' (fun i hi=>hA i (List.mem_cons_of_mem _ hi))]
    rw[hA _ (by simp),aQ];simp only;rw[e2,e3]⟩
  ·cases h1
 ·cases h1
theorem vh{E:Env}{τ:Ty}{a v:aV}{H:Nat→Option aN}{K:fk α}(h:fV E τ a v H K=some r):
  ∃u rd ups,K u rd ups=some r∧ ∀H',Ag rd H H'→ ∀K':fk α,fV E τ a v H' K'=K' u rd ups:=by
 have h0:=h
 unfold fV at h
 simp only at h
 split at h
 ·rename_i id p
  split at h
  ·rename_i υ x aQ
   split at h
   ·rename_i q e k og
    cases hp:DP p q
    ·rw[hp]at h
     simp only[cond_false]at h
     obtain⟨u,rd,ups,hi,h1,e1⟩:=vg h
     refine⟨u,rd,ups,h1,fun H' hA K'=> ?_⟩
     unfold fV;simp only;rw[hA id hi,aQ];simp only;rw[og];simp only;rw[hp];simp only[cond_false]
     exact e1 H' hA K'
    ·rw[hp]at h
     simp only[cond_true]at h
     obtain⟨u,ups,h1,e1⟩:=Es h
     refine⟨u,_,ups,h1,fun H' hA K'=> ?_⟩
     unfold fV;simp only;rw[hA id (by simp),aQ];simp only;rw[og];simp only;rw[hp];simp only[cond_true]
     exact e1 H' (hA k (by simp)) K'
   ·rename_i pZ
    obtain⟨u,rd,ups,hi,h1,e1⟩:=vg h
    refine⟨u,rd,ups,h1,fun H' hA K'=> ?_⟩
    unfold fV;simp only;rw[hA id hi,aQ];simp only
    exact e1 H' hA K'
  ·rename_i υ x q j aQ
   have tv:(ix true v H τ fun y rd ups=>pQ τ y p υ x fun z=>K .any (id::rd) (ups++[(id,some (cond (rL p q) (.obj υ z) (.dK υ z q j)))]))=some r→
     ∃u rd ups,id∈rd∧K u rd ups=some r∧ ∀H',Ag rd H H'→ ∀K':fk α,(ix true v H' τ fun y rd ups=>pQ τ y p υ x fun z=>K' .any (id::rd) (ups++[(id,some (cond (rL p q) (.obj υ z) (.dK υ z q j)))]))=K' u rd ups:=by
    intro h
    obtain⟨y,rd,ups,h1,e1⟩:=ko h
    obtain⟨z,h2,e2⟩:=kk h1
    exact⟨_,_,_,by simp,h2,fun H' hA K'=>by rw[e1 H' (fun i hi=>hA i (List.mem_cons_of_mem _ hi)),e2]⟩
   split at h
   ·rename_i q' e k og
    cases hp:(DP p q&&DP q q')
    ·rw[hp]at h
     simp only[cond_false]at h
     obtain⟨u,rd,ups,hi,h1,e1⟩:=tv h
     refine⟨u,rd,ups,h1,fun H' hA K'=> ?_⟩
     unfold fV;simp only;rw[hA id hi,aQ];simp only;rw[og];simp only;rw[hp];simp only[cond_false]
     exact e1 H' hA K'
    ·rw[hp]at h
     simp only[cond_true]at h
     obtain⟨u,ups,h1,e1⟩:=Es h
     refine⟨u,_,ups,h1,fun H' hA K'=> ?_⟩
     unfold fV;simp only;rw[hA id (by simp),aQ];simp only;rw[og];simp only;rw[hp];simp only[cond_true]
     exact e1 H' (hA k (by simp)) K'
   ·rename_i pZ
    obtain⟨u,rd,ups,hi,h1,e1⟩:=tv h
    refine⟨u,rd,ups,h1,fun H' hA K'=> ?_⟩
    unfold fV;simp only;rw[hA id hi,aQ];simp only
    exact e1 H' hA K'
  ·rename_i ajh aji
   obtain⟨u,rd,ups,hi,h1,e1⟩:=vg h
   refine⟨u,rd,ups,h1,fun H' hA K'=> ?_⟩
   unfold fV;simp only;rw[hA id hi]
   split
   ·rename_i aQ;exact absurd aQ (ajh _ _)
   ·rename_i aQ;exact absurd aQ (aji _ _ _ _)
   ·exact e1 H' hA K'
 ·rename_i pZ
  obtain⟨u,rd,ups,h1,e1⟩:=KS h
  refine⟨u,rd,ups,h1,fun H' hA K'=> ?_⟩
  have:fV E τ a v H' K'=iz τ a v H' K':=by
   unfold fV
   cases a<;>first|rfl|exact absurd rfl (pZ _ _)
  rw[this]
  exact e1 H' hA K'
theorem KT{E:Env}{τ:Ty}{a v:aV}{H:Nat→Option aN}{K:fk α}(h:nR E τ a v H K=some r):
  ∃u rd ups,K u rd ups=some r∧ ∀H',Ag rd H H'→ ∀K':fk α,nR E τ a v H' K'=K' u rd ups:=by
 unfold nR at h
 split at h
 ·rename_i id υ y n
  split at h
  ·rename_i m e og
   cases yp:Nat.beq m n
   ·rw[yp]at h
    simp only[cond_false]at h
    obtain⟨u,rd,ups,h1,e1⟩:=vh h
    exact⟨u,rd,ups,h1,fun H' hA K'=>by unfold nR;simp only;rw[og];simp only;rw[yp];simp only[cond_false];exact e1 H' hA K'⟩
   ·rw[yp]at h
    simp only[cond_true]at h
    obtain⟨h1,e1⟩:=fY h
    obtain⟨υ',h2,e2⟩:=vf h1
    obtain⟨h3,e3⟩:=fY h2
    obtain⟨h4,e4⟩:=ri h3
    exact⟨_,_,_,h4,fun H' hA K'=>by unfold nR;simp only;rw[og];simp only;rw[yp];simp only[cond_true];rw[e1,e2 H' (hA _ (by simp)),e3,e4 H' (hA _ (by simp))]⟩
  ·rename_i pZ
   obtain⟨u,rd,ups,h1,e1⟩:=vh h
   refine⟨u,rd,ups,h1,fun H' hA K'=> ?_⟩
   unfold nR;simp only
   exact e1 H' hA K'
 ·rename_i pZ
  obtain⟨u,rd,ups,h1,e1⟩:=vh h
  refine⟨u,rd,ups,h1,fun H' hA K'=> ?_⟩
  unfold nR
  split
  ·exact absurd rfl (pZ _ _ _ _ rfl)
  ·exact e1 H' hA K'
theorem Jz{H:Nat→Option aN}{id:Nat}{τ:Ty}{x:τ.den}{q:List Step}{e:Ty}{K:fk α}(h:wX H id τ x q e K=some r):Pts (fun H K=>wX H id τ x q e K) H K r:=by
 obtain⟨h1,h2,h3⟩:=yn h
 exact⟨_,_,_,h3,fun H' hA K'=>by unfold wX mf;simp only;rw[hA id (by simp),h1,hA (id+1) (by simp),h2]⟩
theorem Yk{E:Env}{o:Oper}{ρ:Operand→aV}{H:Nat→Option aN}{K:fk α}(h:n4 E o ρ H K=some r):
  ∃v rd ups,K v rd ups=some r∧ ∀ρ' H',(∀x∈o.op.operands,ρ' x=ρ x)→Ag rd H H'→ ∀K':fk α,n4 E o ρ' H' K'=K' v rd ups:=by
 obtain⟨dst,op,type,pos,after,guard⟩:=o
 unfold n4 at h
 simp only at h
 have QA: ∀{ρ':Operand→aV} (xs:List Operand),(∀x∈xs,ρ' x=ρ x)→xs.map ρ'=xs.map ρ:=fun xs hx=>List.map_congr_left hx
 have HT: ∀{ρ':Operand→aV} (ps:Array (Nat×Operand)),(∀x∈ps.map (·.2),ρ' x=ρ x)→partsOf ρ' ps=partsOf ρ ps:=fun ps hp=>by
  unfold partsOf
  exact List.map_congr_left fun p hm=>by rw[hp p.2 (Array.mem_map.2 ⟨p,by simpa using hm,rfl⟩)]
 have Yl: ∀{ρ':Operand→aV} (x:Option Operand),(∀y∈x,ρ' y=ρ y)→x.map ρ'=x.map ρ:=fun x hx=>by
  cases x with
  |none=>rfl
  |some x=>simp[hx x rfl]
 split at h
 ·
  rename_i x
  exact⟨_,_,_,h,fun ρ' H' hx _ K'=>by unfold n4;simp only;rw[hx x (by simp[Op.operands])]⟩
 ·rename_i x
  exact⟨_,_,_,h,fun ρ' H' hx _ K'=>by unfold n4;simp only;rw[hx x (by simp[Op.operands])]⟩
 ·rename_i x y z
  split at h
  ·rename_i t hx
   cases t
   ·exact⟨_,_,_,(h:K (ρ z) [] []=some r),fun ρ' H' oH _ K'=>by unfold n4;simp only;rw[oH x (by simp[Op.operands]),hx,oH z (by simp[Op.operands])];rfl⟩
   ·exact⟨_,_,_,(h:K (ρ y) [] []=some r),fun ρ' H' oH _ K'=>by unfold n4;simp only;rw[oH x (by simp[Op.operands]),hx,oH y (by simp[Op.operands])];rfl⟩
  ·cases h
 ·
  split at h
  ·rename_i τ ht
   split at h
   ·rename_i q e og
    obtain⟨v,rd,ups,h1,e1⟩:=Jz h
    exact⟨_,_,_,h1,fun ρ' H' hx hA K'=>by unfold n4;simp only;rw[ht];simp only;rw[og];exact e1 H' hA K'⟩
   ·rename_i og
    obtain⟨h1,e1⟩:=ri h
    exact⟨_,_,_,h1,fun ρ' H' hx hA K'=>by unfold n4;simp only;rw[ht];simp only;rw[og];simp only;rw[e1 H' (hA _ (by simp))]⟩
  ·cases h
 ·
  rename_i t x
  split at h
  ·rename_i τ ht
   have hold:(ix true (ρ x) H τ fun y rd ups=>mf H (16*dst.getD 0) (.obj τ y) (K (.fA (16*dst.getD 0) []) (16*dst.getD 0::rd) (ups++[(16*dst.getD 0,some (.obj τ y))])))=some r→
     Pts (fun H K=>ix true (ρ x) H τ fun y rd ups=>mf H (16*dst.getD 0) (.obj τ y) (K (.fA (16*dst.getD 0) []) (16*dst.getD 0::rd) (ups++[(16*dst.getD 0,some (.obj τ y))]))) H K r:=by
    intro h
    obtain⟨y,rd,ups,h1,e1⟩:=ko h
    obtain⟨h2,e2⟩:=ri h1
    exact⟨_,_,_,h2,fun H' hA K'=>by simp only;rw[e1 H' (fun i hi=>hA i (List.mem_cons_of_mem _ hi)),e2 H' (hA _ (by simp))]⟩
   split at h
   ·rename_i m e υ y n og JA
    cases yp:Nat.beq m n
    ·rw[yp]at h
     obtain⟨v,rd,ups,h1,e1⟩:=hold h
     refine⟨_,_,_,h1,fun ρ' H' hx hA K'=> ?_⟩
     unfold n4;simp only;rw[ht];simp only
     rw[hx x (by simp[Op.operands]),og,JA];simp only
     rw[yp]
     have:=e1 H' hA K'
     rw[JA]at this
     exact this
    ·rw[yp]at h
     simp only[cond_true]at h
     obtain⟨z,h1,e1⟩:=cD h
     obtain⟨v,rd,ups,h2,e2⟩:=Jz h1
     refine⟨_,_,_,h2,fun ρ' H' hx hA K'=> ?_⟩
     unfold n4;simp only;rw[ht];simp only
     rw[hx x (by simp[Op.operands]),og,JA];simp only
     rw[yp];simp only[cond_true]
     rw[e1]
     exact e2 H' hA K'
   ·rename_i pZ
    obtain⟨v,rd,ups,h1,e1⟩:=hold h
    refine⟨_,_,_,h1,fun ρ' H' hx hA K'=> ?_⟩
    unfold n4;simp only;rw[ht];simp only
    rw[hx x (by simp[Op.operands])]
    split
    ·rename_i og JA;exact absurd JA (pZ _ _ _ _ _ og)
    ·exact e1 H' hA K'
  ·cases h
 ·
  rename_i t ps
  split at h
  ·rename_i n e ht
   obtain⟨l,rd,ups,h1,_,e1⟩:=yD h
   exact⟨_,_,_,h1,fun ρ' H' hx hA K'=>by unfold n4;simp only;rw[ht];simp only;rw[HT ps (fun x oH=>hx x (by simpa [Op.operands]using oH)),e1 H' hA]⟩
  ·rename_i τ Wy ht
   obtain⟨h0,e0⟩:=cU h
   obtain⟨l,rd,ups,h1,_,e1⟩:=A7 h0
   refine⟨_,_,_,h1,fun ρ' H' hx hA K'=> ?_⟩
   unfold n4;simp only;rw[ht]
   have: ∀{β:Type} (A:Nat→Ty→β) (B:Ty→β),(match some τ with|some (.arr n e)=>A n e|some τ=>B τ|none=>B τ)=B τ:=by
    intro β A B
    cases τ<;>first|rfl|exact absurd rfl (Wy _ _)
   cases τ with
   |arr n e=>exact absurd rfl (Wy n e)
   |_=>
    simp only
    rw[HT ps (fun x oH=>hx x (by simpa [Op.operands]using oH)),e0,e1 H' hA]
  ·cases h
 ·
  rename_i t n ps
  split at h
  ·rename_i e ht
   obtain⟨h0,e0⟩:=cU h
   obtain⟨h1,e1⟩:=ri h0
   obtain⟨l,rd,ups,h2,_,e2⟩:=yD h1
   exact⟨_,_,_,h2,fun ρ' H' hx hA K'=>by
    unfold n4;simp only;rw[ht];simp only
    rw[e0,e1 H' (hA _ (by simp)),HT ps (fun x oH=>hx x (by simpa [Op.operands]using oH)),e2 H' (fun i hi=>hA i (List.mem_cons_of_mem _ hi))]⟩
  ·cases h
 ·
  rename_i t x
  split at h
  ·rename_i τ ht
   obtain⟨v,rd,ups,h1,e1⟩:=M4 h
   exact⟨_,_,_,h1,fun ρ' H' hx hA K'=>by unfold n4;simp only;rw[ht];simp only;rw[hx x (by simp[Op.operands]),e1 H' hA]⟩
  ·cases h
 ·
  rename_i t x y
  split at h
  ·rename_i τ ht
   obtain⟨u,rd,ups,h1,e1⟩:=KT h
   exact⟨_,_,_,h1,fun ρ' H' hx hA K'=>by unfold n4;simp only;rw[ht];simp only;rw[hx x (by simp[Op.operands]),hx y (by simp[Op.operands]),e1 H' hA]⟩
  ·cases h
 ·
  rename_i x
  split at h
  ·rename_i id p hx
   exact⟨_,_,_,h,fun ρ' H' oH _ K'=>by unfold n4;simp only;rw[oH x (by simp[Op.operands]),hx]⟩
  ·rename_i τ z hx
   exact⟨_,_,_,h,fun ρ' H' oH _ K'=>by unfold n4;simp only;rw[oH x (by simp[Op.operands]),hx]⟩
  ·cases h
 ·
  rename_i b t x y t'
  obtain⟨τ,x1,h1,e1⟩:=Jy h
  obtain⟨υ,y1,h2,e2⟩:=Jy h1
  obtain⟨v,h3,e3⟩:=MT h2
  exact⟨_,_,_,h3,fun ρ' H' hx _ K'=>by unfold n4;simp only;rw[hx x (by simp[Op.operands]),hx y (by simp[Op.operands]),e1,e2,e3]⟩
 ·
  rename_i u t x
  obtain⟨v,h1,e1⟩:=Qw h
  exact⟨_,_,_,h1,fun ρ' H' hx _ K'=>by unfold n4;simp only;rw[hx x (by simp[Op.operands]),e1]⟩
 ·
  rename_i s d x
  split at h
  ·rename_i τ k hs hd
   obtain⟨i,n,h1,e1⟩:=nI h
   exact⟨_,_,_,h1,fun ρ' H' hx _ K'=>by unfold n4;simp only;rw[hs,hd];simp only;rw[hx x (by simp[Op.operands]),e1]⟩
  ·cases h
 ·
  rename_i f first caps
  obtain⟨h1,e1⟩:=cU h
  obtain⟨cs,rd,ups,h3,e3⟩:=yF h1
  exact⟨_,_,_,h3,fun ρ' H' hx hA K'=>by unfold n4;simp only;rw[QA caps.toList (fun x oH=>hx x (by simp[Op.operands];exact .inr (by simpa using oH))),e1,e3 H' hA]⟩
 ·
  rename_i t x y
  split at h
  ·rename_i e ht
   obtain⟨i,n,h1,e1⟩:=nI h
   obtain⟨i',n',h2,e2⟩:=nI h1
   obtain⟨h3,e3⟩:=cU h2
   obtain⟨h4,e4⟩:=ri h3
   exact⟨_,_,_,h4,fun ρ' H' hx hA K'=>by
    unfold n4;simp only;rw[ht];simp only
    rw[hx x (by simp[Op.operands]),e1,hx y (by simp[Op.operands]),e2,e3,e4 H' (hA _ (by simp))]⟩
  ·cases h
 ·
  rename_i t x lo hi mx
  split at h
  ·rename_i τ ht
   obtain⟨v,rd,ups,h1,e1⟩:=KQ h
   exact⟨_,_,_,h1,fun ρ' H' hx hA K'=>by
    unfold n4;simp only;rw[ht];simp only
    rw[hx x (by simp[Op.operands]),Yl lo (fun y hy=>hx y (by simp at hy;simp[Op.operands,hy])),Yl hi (fun y hy=>hx y (by simp at hy;simp[Op.operands,hy])),Yl mx (fun y hy=>hx y (by simp at hy;simp[Op.operands,hy])),e1 H' hA]⟩
  ·cases h
 ·
  rename_i t x n
  split at h
  ·rename_i τ ht
   split at h
   ·rename_i id p hx
    obtain⟨υ,h1,e1⟩:=vf h
    obtain⟨h2,e2⟩:=fY h1
    obtain⟨υ',y',h3,e3⟩:=rf h2
    obtain⟨h4,e4⟩:=om h3
    exact⟨_,_,_,h4,fun ρ' H' oH hA K'=>by
     unfold n4;simp only;rw[ht];simp only
     rw[oH x (by simp[Op.operands]),hx];simp only
     rw[e1 H' (hA _ (by simp)),e2,e3,e4]⟩
   ·rename_i υ z hx
    obtain⟨h2,e2⟩:=fY h
    obtain⟨υ',y',h3,e3⟩:=rf h2
    obtain⟨h4,e4⟩:=om h3
    exact⟨_,_,_,h4,fun ρ' H' oH hA K'=>by
     unfold n4;simp only;rw[ht];simp only
     rw[oH x (by simp[Op.operands]),hx];simp only
     rw[e2,e3,e4]⟩
   ·cases h
  ·cases h
 ·
  rename_i t x n
  split at h
  ·rename_i τ ht
   split at h
   ·rename_i υ z hx
    obtain⟨h2,e2⟩:=fY h
    obtain⟨υ',y',h3,e3⟩:=rf h2
    exact⟨_,_,_,h3,fun ρ' H' oH hA K'=>by
     unfold n4;simp only;rw[ht];simp only
     rw[oH x (by simp[Op.operands]),hx];simp only
     rw[e2,e3]⟩
   ·cases h
  ·cases h
 ·
  rename_i t x i
  split at h
  ·rename_i τ ht
   obtain⟨v,rd,ups,h1,e1⟩:=Au h
   exact⟨_,_,_,h1,fun ρ' H' hx hA K'=>by unfold n4;simp only;rw[ht];simp only;rw[hx x (by simp[Op.operands]),hx i (by simp[Op.operands]),e1 H' hA]⟩
  ·cases h
 ·
  rename_i t x i
  split at h
  ·rename_i τ ht
   obtain⟨v,h1,e1⟩:=KR h
   exact⟨_,_,_,h1,fun ρ' H' hx hA K'=>by unfold n4;simp only;rw[ht];simp only;rw[hx x (by simp[Op.operands]),hx i (by simp[Op.operands]),e1]⟩
  ·cases h
 ·
  rename_i x i
  split at h
  ·rename_i vs hx
   split at h
   ·rename_i v hv
    exact⟨_,_,_,h,fun ρ' H' oH hA K'=>by unfold n4;simp only;rw[oH x (by simp[Op.operands]),hx];simp only;rw[hv]⟩
   ·cases h
  ·cases h
 ·
  rename_i cl
  obtain⟨callee,args,ts⟩:=cl
  simp only at h
  have rT: ∀{ρ':Operand→aV},(∀x∈(Op.call {callee,args,argTypes:=ts}).operands,ρ' x=ρ x)→ ∀x∈args.toList,ρ' x=ρ x:=
   fun hx x oH=>hx x (by simp[Op.operands,Call.operands];exact .inr (by simpa using oH))
  split at h
  ·split at h
   ·rename_i x τ ha ht
    obtain⟨v,rd,ups,h1,e1⟩:=Qx h
    exact⟨_,_,_,h1,fun ρ' H' hx hA K'=>by unfold n4;simp only;rw[ha,ht];simp only;rw[rT hx x (by rw[ha];simp),e1 H' hA]⟩
   ·cases h
  ·split at h
   ·rename_i x y t t' ha ht
    split at h
    ·rename_i e hte
     obtain⟨h1,e1⟩:=cU h
     obtain⟨h2,e2⟩:=ri h1
     obtain⟨v,rd,ups,h3,aQ,e3⟩:=Qy h2
     exact⟨_,_,_,h3,fun ρ' H' hx hA K'=>by
      unfold n4;simp only;rw[ha,ht];simp only;rw[hte];simp only
      rw[e1,e2 H' (hA _ aQ),rT hx x (by rw[ha];simp),rT hx y (by rw[ha];simp),e3 H' hA]⟩
    ·cases h
   ·cases h
  ·split at h
   ·rename_i x xs ha
    obtain⟨v,h1,e1⟩:=HS h
    exact⟨_,_,_,h1,fun ρ' H' hx hA K'=>by
     unfold n4;simp only;rw[ha];simp only
     rw[rT hx x (by rw[ha];simp),QA xs (fun y hy=>rT hx y (by rw[ha];simp[hy])),e1]⟩
   ·cases h
  ·split at h
   ·rename_i x xs ha
    obtain⟨v,h1,e1⟩:=HS h
    exact⟨_,_,_,h1,fun ρ' H' hx hA K'=>by
     unfold n4;simp only;rw[ha];simp only
     rw[rT hx x (by rw[ha];simp),QA xs (fun y hy=>rT hx y (by rw[ha];simp[hy])),e1]⟩
   ·cases h
  ·rename_i g
   split at h
   ·rename_i f caps hg
    obtain⟨v,rd,ups,h1,e1⟩:=MW h
    exact⟨_,_,_,h1,fun ρ' H' hx hA K'=>by
     unfold n4;simp only
     rw[hx g (by simp[Op.operands,Call.operands]),hg];simp only
     rw[QA args.toList (rT hx),e1 H' hA]⟩
   ·cases h
  ·cases h
 ·cases h
end VM
end
section
namespace VM
open Go
variable{P:Program}{E:Env}{o:Oper}{a:Act}{w:World}{M:Nat→Prop}{ν:Nat→Value}{σ:St}{c:Ctx}{α:Type}{r:α}{next:Act→World→Prop}{Q:Exit→Act→World→Prop}
structure Out where
 dst:Option Nat
 v:aV
 rd:List Nat
 ups:fj
def Out.app(u:Out)(σ:St):St:=(σ.p5 u.ups).pP u.dst u.v
theorem Et(σ:St)(d:Nat)(v:aV):(σ.pP (some d) v).T d=v:=oR σ d v
theorem KU(σ:St){d:Option Nat}{t:Nat}(v:aV)(h:d≠some t):(σ.pP d v).T t=σ.T t:=by
 cases d with
 |none=>rfl
 |some d=>exact tF σ v (fun e=>h (by rw[e]))
theorem Ym(σ:St)(d:Option Nat)(v:aV):(σ.pP d v).H=σ.H:=by cases d<;>rfl
theorem HU{u:Out}{t:Nat}(h:u.dst=some t)(σ:St):(u.app σ).T t=u.v:=by unfold Out.app;rw[h];exact Et _ _ _
theorem M5{u:Out}{t:Nat}(h:u.dst≠some t)(σ:St):(u.app σ).T t=σ.T t:=by unfold Out.app;rw[KU _ _ h,HG]
theorem adv(u:Out)(σ:St):(u.app σ).H=bP σ.H u.ups:=by unfold Out.app;rw[Ym,HF]
def Pt(E:Env)(ops:List Oper)(o:Oper)(σ:St)(u:Out)(α:Type):Prop:=
 u.dst=o.dst∧ ∀σ':St,(∀t∈names ops o,σ'.T t=σ.T t)→Ag u.rd σ.H σ'.H→ ∀K':St→List Nat→List Nat→Option α,oa E ops o σ' K'=K' (u.app σ') u.rd (u.ups.map (·.1))
theorem M6{ops:List Oper}{K:St→List Nat→List Nat→Option α}(h:oa E ops o σ K=some r): ∃u:Out,K (u.app σ) u.rd (u.ups.map (·.1))=some r∧Pt E ops o σ u α:=by
 unfold oa at h
 obtain⟨h,e0⟩:=cU h
 have ajj: ∀σ':St,(∀t∈names ops o,σ'.T t=σ.T t)→ ∀x∈o.op.operands,σ'.ρ x=σ.ρ x:=by
  intro σ' hT x hx
  cases x with
  |tmp t=>
   refine hT t ?_
   unfold names
   refine List.mem_append_left _ (List.mem_filterMap.2 ⟨.tmp t,by simpa using hx,rfl⟩)
  |_=>rfl
 have ct:n4 E o σ.ρ σ.H (fun v rd ups=>K ((σ.p5 ups).pP o.dst v) rd (ups.map (·.1)))=some r→
   ∃u:Out,K (u.app σ) u.rd (u.ups.map (·.1))=some r∧u.dst=o.dst∧ ∀σ':St,(∀t∈names ops o,σ'.T t=σ.T t)→Ag u.rd σ.H σ'.H→ ∀K':St→List Nat→List Nat→Option α,
    n4 E o σ'.ρ σ'.H (fun v rd ups=>K' ((σ'.p5 ups).pP o.dst v) rd (ups.map (·.1)))=K' (u.app σ') u.rd (u.ups.map (·.1)):=by
  intro h
  obtain⟨v,rd,ups,h1,h2⟩:=Yk h
  exact⟨⟨o.dst,v,rd,ups⟩,h1,rfl,fun σ' hT hA K'=>h2 σ'.ρ σ'.H (ajj σ' hT) hA _⟩
 have nH: ∀{K:St→List Nat→List Nat→Option α},K (σ.pP o.dst .Ms) [] []=some r→ ∃u:Out,K (u.app σ) u.rd (u.ups.map (·.1))=some r∧u.dst=o.dst∧ ∀σ':St,∀K':St→List Nat→List Nat→Option α,K' (σ'.pP o.dst .Ms) [] []=K' (u.app σ') u.rd (u.ups.map (·.1)):=
  fun h=>⟨⟨o.dst,.Ms,[],[]⟩,h,rfl,fun _ _=>rfl⟩
 simp only at h
 split at h
 ·rename_i hg
  obtain⟨u,h1,h2,h3⟩:=ct h
  refine⟨u,h1,h2,fun σ' hT hA K'=> ?_⟩
  unfold oa
  rw[e0]
  simp only
  rw[hg]
  exact h3 σ' hT hA K'
 ·rename_i j want hg
  split at h
  ·cases h
  ·rename_i t ht
   have KV:t∈names ops o:=by
    unfold names
    refine List.mem_append_right _ ?_
    rw[hg]
    simp[ht]
   split at h
   ·rename_i b hb
    have lj: ∀σ':St,σ'.T t=σ.T t→σ'.put t (.val .bool b)=σ':=fun σ' h'=>by
     rw[←hb,←h'];exact yz σ' t
    cases want<;>cases b
    ·obtain⟨u,h1,h2,h3⟩:=ct (by
      have:=lj σ rfl
      rw[this]at h;exact h)
     refine⟨u,h1,h2,fun σ' hT hA K'=> ?_⟩
     unfold oa
     rw[e0];simp only;rw[hg];simp only;rw[ht];simp only;rw[hT t KV,hb];simp only
     rw[lj σ' (hT t KV)]
     exact h3 σ' hT hA K'
    ·obtain⟨u,h1,h2,h3⟩:=nH (by
      have:=lj σ rfl
      rw[this]at h;exact h)
     refine⟨u,h1,h2,fun σ' hT hA K'=> ?_⟩
     unfold oa
     rw[e0];simp only;rw[hg];simp only;rw[ht];simp only;rw[hT t KV,hb];simp only
     rw[lj σ' (hT t KV)]
     exact h3 σ' K'
    ·obtain⟨u,h1,h2,h3⟩:=nH (by
      have:=lj σ rfl
      rw[this]at h;exact h)
     refine⟨u,h1,h2,fun σ' hT hA K'=> ?_⟩
     unfold oa
     rw[e0];simp only;rw[hg];simp only;rw[ht];simp only;rw[hT t KV,hb];simp only
     rw[lj σ' (hT t KV)]
     exact h3 σ' K'
    ·obtain⟨u,h1,h2,h3⟩:=ct (by
      have:=lj σ rfl
      rw[this]at h;exact h)
     refine⟨u,h1,h2,fun σ' hT hA K'=> ?_⟩
     unfold oa
     rw[e0];simp only;rw[hg];simp only;rw[ht];simp only;rw[hT t KV,hb];simp only
     rw[lj σ' (hT t KV)]
     exact h3 σ' hT hA K'
   ·rename_i hb
    obtain⟨u,h1,h2,h3⟩:=nH h
    refine⟨u,h1,h2,fun σ' hT hA K'=> ?_⟩
    unfold oa
    rw[e0];simp only;rw[hg];simp only;rw[ht];simp only;rw[hT t KV,hb]
    exact h3 σ' K'
   ·cases h
theorem JB{ops:List Oper}: ∀(l:List Oper) (i:Nat) (σ:St) (lg:Log) (K:St→Log→Option α),Ku E ops l i σ lg K=some r→
  ∃us:List Out,us.length=l.length∧(∀j u o,us[j]? =some u→l[j]? =some o→Pt E ops o ((us.take j).foldl (fun σ u=>u.app σ) σ) u α)∧
   ∃WC,K (us.foldl (fun σ u=>u.app σ) σ) WC=some r∧(∀x∈lg,x∈WC)∧ ∀j u,us[j]? =some u→(i+j,u.rd,u.ups.map (·.1))∈WC
 |[],i,σ,lg,K,h=>⟨[],rfl,fun j u o hj=>by simp at hj,lg,h,fun _ h=>h,fun j u hj=>by simp at hj⟩
 |o::l,i,σ,lg,K,h=>by
  unfold Ku at h
  obtain⟨u,h1,h2⟩:=M6 h
  obtain⟨us,hl,hpt,WC,hK,PU,hj⟩:=JB l (i+1) (u.app σ) _ K h1
  refine⟨u::us,by simp[hl],fun j u' o' hu ho=> ?_,WC,hK,fun x hx=>PU x (List.mem_cons_of_mem _ hx),fun j u' hu=> ?_⟩
  ·cases j with
   |zero=>simp at hu ho;subst hu ho;exact h2
   |succ j=>exact hpt j u' o' (by simpa using hu) (by simpa using ho)
  ·cases j with
   |zero=>simp at hu;subst hu;exact PU _ List.mem_cons_self
   |succ j=>
    have:=hj j u' (by simpa using hu)
    rwa [show i+1+j=i+(j+1)from by omega]at this
theorem KW{k:Nat}{ups:fj}(h:k∈keys ups)(H H':Nat→Option aN):bP H ups k=bP H' ups k:=by
 induction ups generalizing H H' with
 |nil=>simp[keys]at h
 |cons u r ih=>
  show bP (bh H u.1 u.2) r k=bP (bh H' u.1 u.2) r k
  by_cases hk:k∈keys r
  ·exact ih hk _ _
  ·have hku:k=u.1:=by
    simp only[keys,List.map_cons,List.mem_cons]at h hk
    exact h.resolve_right hk
   rw[jl hk,jl hk,hku,ak,ak]
structure kB(us:List Out)(σ0:St)(S:Nat→Prop)(σ:St):Prop where
 T: ∀t,(∃j u,us[j]? =some u∧S j∧u.dst=some t∧(∀j' u',us[j']? =some u'→S j'→u'.dst=some t→j'≤j)∧σ.T t=u.v)∨((∀j u,us[j]? =some u→S j→u.dst≠some t)∧σ.T t=σ0.T t)
 H: ∀k,(∃j u,us[j]? =some u∧S j∧k∈keys u.ups∧(∀j' u',us[j']? =some u'→S j'→k∈keys u'.ups→j'≤j)∧σ.H k=bP σ0.H u.ups k)∨((∀j u,us[j]? =some u→S j→k∉keys u.ups)∧σ.H k=σ0.H k)
theorem kB.M7{us:List Out}{σ0 σ σ':St}{S S':Nat→Prop}(h:kB us σ0 S σ)(h':kB us σ0 S' σ'){t:Nat}(hs: ∀j u,us[j]? =some u→u.dst=some t→(S j↔S' j)):σ.T t=σ'.T t:=by
 rcases h.T t with⟨j,u,h1,h2,h3,h4,h5⟩|⟨h1,h2⟩<;>rcases h'.T t with⟨j',u',lB,sj,HV,h4',h5'⟩|⟨lB,sj⟩
 ·have e1:=h4 j' u' lB ((hs j' u' lB HV).2 sj) HV
  have e2:=h4' j u h1 ((hs j u h1 h3).1 h2) h3
  have:j=j':=by omega
  subst this
  rw[h1]at lB;cases lB
  rw[h5,h5']
 ·exact absurd h3 (lB j u h1 ((hs j u h1 h3).1 h2))
 ·exact absurd HV (h1 j' u' lB ((hs j' u' lB HV).2 sj))
 ·rw[h2,sj]
theorem kB.M8{us:List Out}{σ0 σ σ':St}{S S':Nat→Prop}(h:kB us σ0 S σ)(h':kB us σ0 S' σ'){k:Nat}(hs: ∀j u,us[j]? =some u→k∈keys u.ups→(S j↔S' j)):σ.H k=σ'.H k:=by
 rcases h.H k with⟨j,u,h1,h2,h3,h4,h5⟩|⟨h1,h2⟩<;>rcases h'.H k with⟨j',u',lB,sj,HV,h4',h5'⟩|⟨lB,sj⟩
 ·have e1:=h4 j' u' lB ((hs j' u' lB HV).2 sj) HV
  have e2:=h4' j u h1 ((hs j u h1 h3).1 h2) h3
  have:j=j':=by omega
  subst this
  rw[h1]at lB;cases lB
  rw[h5,h5']
 ·exact absurd h3 (lB j u h1 ((hs j u h1 h3).1 h2))
 ·exact absurd HV (h1 j' u' lB ((hs j' u' lB HV).2 sj))
 ·rw[h2,sj]
theorem kB.unique{us:List Out}{σ0 σ σ':St}{S S':Nat→Prop}(h:kB us σ0 S σ)(h':kB us σ0 S' σ')(hs: ∀j u,us[j]? =some u→(S j↔S' j)):σ=σ':=by
 obtain⟨T,H⟩:=σ
 obtain⟨T',H'⟩:=σ'
 congr 1
 ·funext t;exact h.M7 h' (fun j u hj _=>hs j u hj)
 ·funext k;exact h.M8 h' (fun j u hj _=>hs j u hj)
theorem kB.step{us:List Out}{σ0 σ:St}{S:Nat→Prop}(h:kB us σ0 S σ){i:Nat}{u:Out}(hi:us[i]? =some u)(hc: ∀j u',us[j]? =some u'→S j→i<j→(∀t,u.dst=some t→u'.dst≠some t)∧ ∀k∈keys u.ups,k∉keys u'.ups):
  kB us σ0 (fun j=>j=i∨S j) (u.app σ):=by
 refine⟨fun t=> ?_,fun k=> ?_⟩
 ·by_cases hd:u.dst=some t
  ·left
   refine⟨i,u,hi,.inl rfl,hd,fun j' u' h1 h2 h3=> ?_,HU hd σ⟩
   rcases h2 with rfl|h2
   ·exact Nat.le_refl _
   ·exact Nat.le_of_not_lt fun dz=>(hc j' u' h1 h2 dz).1 t hd h3
  ·rw[M5 hd]
   rcases h.T t with⟨j,u1,h1,h2,h3,h4,h5⟩|⟨h1,h2⟩
   ·refine .inl ⟨j,u1,h1,.inr h2,h3,fun j' u' lB sj HV=> ?_,h5⟩
    rcases sj with rfl|sj
    ·rw[hi]at lB;cases lB;exact absurd HV hd
    ·exact h4 j' u' lB sj HV
   ·refine .inr ⟨fun j u' lB sj=> ?_,h2⟩
    rcases sj with rfl|sj
    ·rw[hi]at lB;cases lB;exact hd
    ·exact h1 j u' lB sj
 ·rw[adv]
  by_cases hd:k∈keys u.ups
  ·left
   refine⟨i,u,hi,.inl rfl,hd,fun j' u' h1 h2 h3=> ?_,KW hd _ _⟩
   rcases h2 with rfl|h2
   ·exact Nat.le_refl _
   ·exact Nat.le_of_not_lt fun dz=>(hc j' u' h1 h2 dz).2 k hd h3
  ·rw[jl hd]
   rcases h.H k with⟨j,u1,h1,h2,h3,h4,h5⟩|⟨h1,h2⟩
   ·refine .inl ⟨j,u1,h1,.inr h2,h3,fun j' u' lB sj HV=> ?_,h5⟩
    rcases sj with rfl|sj
    ·rw[hi]at lB;cases lB;exact absurd HV hd
    ·exact h4 j' u' lB sj HV
   ·refine .inr ⟨fun j u' lB sj=> ?_,h2⟩
    rcases sj with rfl|sj
    ·rw[hi]at lB;cases lB;exact hd
    ·exact h1 j u' lB sj
theorem kB.start(us:List Out)(σ0:St):kB us σ0 (fun _=>False) σ0:=⟨fun t=> .inr ⟨fun _ _ _ h=>h.elim,rfl⟩,fun k=> .inr ⟨fun _ _ _ h=>h.elim,rfl⟩⟩
theorem kB.congr{us:List Out}{σ0 σ:St}{S S':Nat→Prop}(h:kB us σ0 S σ)(hs: ∀j,S j↔S' j):kB us σ0 S' σ:=by
 have:S=S':=funext fun j=>propext (hs j)
 rw[←this];exact h
theorem kB.text(us:List Out)(σ0:St): ∀i,i≤us.length→kB us σ0 (fun j=>j<i) ((us.take i).foldl (fun σ u=>u.app σ) σ0)
 |0,_=>(kB.start us σ0).congr fun j=>by simp
 |i+1,hi=>by
  have ih:=kB.text us σ0 i (by omega)
  have hu:us[i]? =some us[i]:=List.getElem?_eq_getElem (by omega)
  have:=ih.step hu (fun j u' _ h2 h3=>by omega)
  rw[List.take_add_one,hu,List.foldl_append]
  exact this.congr fun j=>by constructor<;>intro h<;>omega
end VM
end
section
namespace VM
open Go
variable{P:Program}{E:Env}{o:Oper}{a:Act}{w:World}{M:Nat→Prop}{ν:Nat→Value}{σ:St}{c:Ctx}{α:Type}{r:α}{next:Act→World→Prop}{Q:Exit→Act→World→Prop}
def Yn(S:Nat→Prop)(o:Oper):Prop:= ∀e∈o.after,Region.binds .any e=true→S e.on
theorem yG{β:Type}{l m:List β}{i:Nat}{d:β}(h:i<l.length):(l++m).getD i d=l.getD i d:=by
 simp only[List.getD,List.getElem?_append_left h]
theorem yH{β:Type}{l:List β}{x d:β}:(l++[x]).getD l.length d=x:=by
 simp[List.getD]
theorem wh{acc:List Nat}{i:Nat}: ∀(es:List Edge) (s:Nat),(es.foldl (fun s e=>cond (Region.binds .any e) (s|||2^e.on|||acc.getD e.on 0) s) s).testBit i=true→
  s.testBit i=true∨ ∃e∈es,Region.binds .any e=true∧(i=e.on∨(acc.getD e.on 0).testBit i=true)
 |[],s,h=> .inl h
 |e::es,s,h=>by
  rw[List.foldl_cons]at h
  rcases wh es _ h with h1|⟨e',h1,h2⟩
  ·cases hb:Region.binds .any e
   ·rw[hb]at h1;exact .inl h1
   ·rw[hb]at h1
    simp only[cond_true,Nat.testBit_or,Bool.or_eq_true]at h1
    rcases h1 with(h1|h1)|h1
    ·exact .inl h1
    ·refine .inr ⟨e,List.mem_cons_self,hb,.inl ?_⟩
     rw[Nat.testBit_two_pow]at h1
     simpa using (of_decide_eq_true h1).symm
    ·exact .inr ⟨e,List.mem_cons_self,hb,.inr h1⟩
  ·exact .inr ⟨e',List.mem_cons_of_mem _ h1,h2⟩
theorem wi{S:Nat→Prop}: ∀(l:List Oper) (acc:List Nat) (all:List Oper),all.length=acc.length+l.length→(∀j,l[j]? =all[acc.length+j]?)→
  (∀j o,all[j]? =some o→S j→Yn S o)→(∀j i,j<acc.length→S j→(acc.getD j 0).testBit i=true→S i)→
  ∀j o i,all[j]? =some o→(Yn S o∨S j)→((nS l acc).getD j 0).testBit i=true→(j<acc.length→ ∀i,Yn S o→(acc.getD j 0).testBit i=true→S i)→S i
 |[],acc,all,hl,jj,hS,QB,j,o,i,hj,Eu,hb,M9=>by
  have dz:j<all.length:=(List.getElem?_eq_some_iff.1 hj).1
  have qk:j<acc.length:=by simp at hl;omega
  rcases Eu with hp|hp
  ·exact M9 qk i hp hb
  ·exact QB j i qk hp hb
 |p::l,acc,all,hl,jj,hS,QB,j,o,i,hj,Eu,hb,M9=>by
  unfold nS at hb
  have Mh:all[acc.length]? =some p:=by rw[←Nat.add_zero acc.length,←jj 0];rfl
  have QC: ∀i,Yn S p→(p.after.toList.foldl (fun s e=>cond (Region.binds .any e) (s|||2^e.on|||acc.getD e.on 0) s) 0).testBit i=true→S i:=by
   intro i Ae hb
   rcases wh p.after.toList 0 hb with h1|⟨e,he,hbe,h1⟩
   ·simp at h1
   ·have hSe:=Ae e (by simpa using he) hbe
    rcases h1 with rfl|h1
    ·exact hSe
    ·by_cases dz:e.on<acc.length
     ·exact QB e.on i dz hSe h1
     ·rw[List.getD,List.getElem?_eq_none (by omega)]at h1;simp at h1
  refine wi l (acc++[p.after.toList.foldl (fun s e=>cond (Region.binds .any e) (s|||2^e.on|||acc.getD e.on 0) s) 0]) all (by simp at hl ⊢;omega) (fun j=> ?_) hS (fun j' i' WD hS' dq=> ?_) j o i hj Eu hb (fun dz i' AV dq=> ?_)
  ·have:=jj (j+1)
   simp only[List.getElem?_cons_succ]at this
   rw[this]
   congr 1
   simp;omega
  ·by_cases dz:j'<acc.length
   ·rw[yG dz]at dq
    exact QB j' i' dz hS' dq
   ·have hje:j'=acc.length:=by simp at WD;omega
    subst hje
    rw[yH]at dq
    exact QC i' (hS _ p Mh hS') dq
  ·by_cases qk:j<acc.length
   ·rw[yG qk]at dq
    exact M9 qk i' AV dq
   ·have hje:j=acc.length:=by simp at dz;omega
    subst hje
    rw[Mh]at hj;cases hj
    rw[yH]at dq
    exact QC i' AV dq
theorem forced{ops:List Oper}{S:Nat→Prop}(hS: ∀j o,ops[j]? =some o→S j→Yn S o){j i:Nat}(hj:ops[j]? =some o)(Eu:Yn S o∨S j)(hb:((nS ops []).getD j 0).testBit i=true):S i:=
 wi ops [] ops (by simp) (fun j=>by simp) hS (fun j i h=>by simp at h) j o i hj Eu hb (fun h=>by simp at h)
theorem iL{l m:List Nat}(h:meets l m=false){x:Nat}(h1:x∈l)(h2:x∈m):False:=by
 have:meets l m=true:=by
  unfold meets
  rw[List.any_eq_true]
  refine⟨x,h1,?_⟩
  rw[List.any_eq_true]
  exact⟨x,h2,Nat.beq_refl x⟩
 rw[h]at this;cases this
structure Rnd(c:Ctx)(E:Env)(ops:Array Oper)(us:List Out)(σ0:St)(listed:Array Bool)(a:Act)(w:World):Prop where
 size:listed.size=ops.size
 closed: ∀j o,ops.toList[j]? =some o→listed.getD j false=true→Yn (fun i=>listed.getD i false=true) o
 st: ∃σ,kB us σ0 (fun j=>listed.getD j false=true) σ∧Inv c E σ a w
theorem sF{listed:Array Bool}{j:Nat}(h:j<listed.size)(d:Bool):listed.getD j d=listed.getD j false:=by
 simp[Array.getD,h]
theorem Cv(hE:nG P E){ops:Array Oper}{us:List Out}{σ0 σn:St}{α:Type}(x0:α)(hl:us.length=ops.toList.length)
  (hpt: ∀(j:Nat) (u:Out) (o:Oper),us[j]? =some u→ops.toList[j]? =some o→Pt E ops.toList o ((us.take j).foldl (fun σ u=>u.app σ) σ0) u α)
  (hn:σn=us.foldl (fun σ u=>u.app σ) σ0)
  (dz: ∀(j:Nat) (o:Oper),ops.toList[j]? =some o→ ∀e∈o.after,Region.binds .any e=true→e.on<j)
  (Hr: ∀(j:Nat) (o:Oper) (i:Nat) (p:Oper),ops.toList[j]? =some o→ops.toList[i]? =some p→i<j→((nS ops.toList []).getD j 0).testBit i=false→
   (∀d,p.dst=some d→o.dst≠some d∧d∉names ops.toList o)∧(∀d,o.dst=some d→d∉names ops.toList p))
  (PU: ∀(j:Nat) (u:Out) (i:Nat) (v:Out),us[j]? =some u→us[i]? =some v→i<j→((nS ops.toList []).getD j 0).testBit i=false→
   (∀k∈keys v.ups,k∉u.rd∧k∉keys u.ups)∧(∀k∈v.rd,k∉keys u.ups))
  (hq: ∀a' w',Inv c E σn a' w'→Q .normal a' w'):
  ∀(fuel:Nat) (listed:Array Bool) (a:Act) (w:World),((List.range ops.size).filter fun j=> !(listed.getD j false)).length≤fuel→Rnd c E ops us σ0 listed a w→wpAny P .any ops Q fuel listed a w:=by
 have jj: ∀(listed:Array Bool) (a:Act) (w:World),Rnd c E ops us σ0 listed a w→Region.ready .any ops listed=[]→Q .normal a w:=by
  intro listed a w hR Yo
  obtain⟨hs,D6,σ,Hi,hI⟩:=hR
  have adx: ∀j,j<ops.size→listed.getD j false=true:=by
   intro j
   induction j using Nat.strongRecOn with
   |_ j ih=>
    intro hj
    by_cases hb:listed.getD j false=true
    ·exact hb
    ·exfalso
     have ho:ops[j]? =some ops[j]:=Array.getElem?_eq_getElem hj
     have:j∈Region.ready .any ops listed:=by
      rw[mem_ready]
      refine⟨by rw[sF (by omega)];simpa using hb,_,ho,fun e he hbe=> ?_⟩
      have hej:=dz j ops[j] (by rw[Array.getElem?_toList];exact ho) e he hbe
      exact ih e.on hej (by omega)
     rw[Yo]at this
     cases this
  have hσ:σ=σn:=by
   rw[hn]
   have ht:=kB.text us σ0 us.length (Nat.le_refl _)
   rw[List.take_length]at ht
   refine Hi.unique ht fun j u hj=> ?_
   have z8:j<us.length:=(List.getElem?_eq_some_iff.1 hj).1
   have hjo:j<ops.size:=by rw[hl,Array.length_toList]at z8;exact z8
   exact⟨fun _=>z8,fun _=>adx j hjo⟩
  exact hq a w (hσ▸hI)
 intro fuel
 induction fuel with
 |zero=>
  intro listed a w hf hR
  have QD:Region.ready .any ops listed=[]:=by
   rw[List.eq_nil_iff_forall_not_mem]
   intro j hj
   rw[mem_ready]at hj
   obtain⟨h0,o,ho,_⟩:=hj
   have hjs:j<ops.size:=(Array.getElem?_eq_some_iff.1 ho).1
   have z8:j<listed.size:=by rw[hR.size];exact hjs
   rw[sF z8]at h0
   have lA:j∈(List.range ops.size).filter fun j=> !(listed.getD j false):=by
    rw[List.mem_filter];exact⟨List.mem_range.2 hjs,by rw[h0];rfl⟩
   have:((List.range ops.size).filter fun j=> !(listed.getD j false))=[]:=List.eq_nil_of_length_eq_zero (by omega)
   rw[this]at lA;cases lA
  exact⟨QD,jj listed a w hR QD⟩
 |succ fuel ih=>
  intro listed a w hf hR
  refine⟨jj listed a w hR,fun i hi=> ?_⟩
  have iA:=hi
  rw[mem_ready]at iA
  obtain⟨h0,o,ho,Eu⟩:=iA
  have his:i<ops.size:=(Array.getElem?_eq_some_iff.1 ho).1
  have Ai:i<listed.size:=by rw[hR.size];exact his
  rw[sF Ai]at h0
  obtain⟨hs,D6,σ,Hi,hI⟩:=hR
  have Ev:ops.toList[i]? =some o:=by rw[Array.getElem?_toList];exact ho
  have hiu:i<us.length:=by rw[hl,Array.length_toList];exact his
  have hu:us[i]? =some us[i]:=List.getElem?_eq_getElem hiu
  have hPt:=hpt i us[i] o hu Ev
  have hSi: ¬listed.getD i false=true:=by rw[h0];simp
  have Ew: ∀j p,ops.toList[j]? =some p→((j<i∧ ¬listed.getD j false=true)→((nS ops.toList []).getD i 0).testBit j=false)∧((i<j∧listed.getD j false=true)→((nS ops.toList []).getD j 0).testBit i=false):=by
   intro j p hj
   refine⟨fun⟨_,h2⟩=> ?_,fun⟨_,h2⟩=> ?_⟩
   ·rw[←Bool.not_eq_true]
    intro hb
    exact h2 (forced D6 Ev (.inl Eu) hb)
   ·rw[←Bool.not_eq_true]
    intro hb
    exact hSi (forced D6 hj (.inr h2) hb)
  have Na: ∀(j:Nat) (u:Out),us[j]? =some u→ ∃p:Oper,ops.toList[j]? =some p∧u.dst=p.dst:=by
   intro j u hj
   have z8:j<us.length:=(List.getElem?_eq_some_iff.1 hj).1
   have hp:ops.toList[j]? =some ops.toList[j]:=List.getElem?_eq_getElem (by omega)
   exact⟨_,hp,(hpt j u _ hj hp).1⟩
  have WG:=kB.text us σ0 i (by omega)
  have hT: ∀t∈names ops.toList o,σ.T t=((us.take i).foldl (fun σ u=>u.app σ) σ0).T t:=by
   intro t ht
   refine Hi.M7 WG fun j u hj hd=> ?_
   obtain⟨p,hp,Yp⟩:=Na j u hj
   have Yp:p.dst=some t:=by rw[←Yp,hd]
   constructor
   ·intro Ex
    refine Nat.lt_of_not_le fun hle=> ?_
    rcases Nat.lt_or_eq_of_le hle with qk|heq
    ·exact(Hr j p i o hp Ev qk ((Ew j p hp).2 ⟨qk,Ex⟩)).2 t Yp ht
    ·subst heq;exact hSi Ex
   ·intro sG
    by_cases Ex:listed.getD j false=true
    ·exact Ex
    ·exact absurd ht ((Hr i o j p Ev hp sG ((Ew j p hp).1 ⟨sG,Ex⟩)).1 t Yp).2
  have hH:Ag us[i].rd ((us.take i).foldl (fun σ u=>u.app σ) σ0).H σ.H:=by
   intro k hk
   refine Hi.M8 WG fun j u hj hd=> ?_
   obtain⟨p,hp,Yp⟩:=Na j u hj
   constructor
   ·intro Ex
    refine Nat.lt_of_not_le fun hle=> ?_
    rcases Nat.lt_or_eq_of_le hle with qk|heq
    ·exact(PU j u i us[i] hj hu qk ((Ew j p hp).2 ⟨qk,Ex⟩)).2 k hk hd
    ·subst heq;exact hSi Ex
   ·intro sG
    by_cases Ex:listed.getD j false=true
    ·exact Ex
    ·exact absurd hk ((PU i us[i] j u hu hj sG ((Ew j p hp).1 ⟨sG,Ex⟩)).1 k hd).1
  have ady:=hPt.2 σ hT hH
  have hIs:kB us σ0 (fun j=>j=i∨listed.getD j false=true) (us[i].app σ):=by
   refine Hi.step hu fun j u hj Ex nB=> ?_
   obtain⟨p,hp,Yp⟩:=Na j u hj
   have xb:=(Ew j p hp).2 ⟨nB,Ex⟩
   obtain⟨h1,h2⟩:=Hr j p i o hp Ev nB xb
   obtain⟨h3,h4⟩:=PU j u i us[i] hj hu nB xb
   refine⟨fun t ht=> ?_,fun k hk=>(h3 k hk).2⟩
   rw[Yp]
   exact(h1 t (by rw[←hPt.1];exact ht)).1
  have tG: ∀j,(listed.setIfInBounds i true).getD j false=true↔(j=i∨listed.getD j false=true):=by
   intro j
   by_cases sG:j=i
   ·subst sG
    constructor
    ·intro _;exact .inl rfl
    ·intro _;simp[Ai]
   ·rw[getD_set_ne false (Ne.symm sG)]
    exact⟨.inr,fun h=>h.resolve_left sG⟩
  classical
  let K':St→List Nat→List Nat→Option α:=fun σ' _ _=>if σ'=us[i].app σ then some x0 else none
  have hK:oa E ops.toList o σ K'=some x0:=by rw[ady K'];simp[K']
  have:=wg (Q:=Q) (next:=wpAny P .any ops Q fuel (listed.setIfInBounds i true)) hE hI hK (fun σ' a' w' rd wr hσ' sf=>by
   have ajp:σ'=us[i].app σ:=by
    by_cases h:σ'=us[i].app σ
    ·exact h
    ·simp[K',h]at hσ'
   subst ajp
   refine ih _ a' w' ?_ ⟨by simpa using hs,fun j p hp Ex e he hb=> ?_,_,hIs.congr (fun j=>(tG j).symm),sf⟩
   ·have hlen:((List.range ops.size).filter fun j=> !((listed.setIfInBounds i true).getD j false)).length<((List.range ops.size).filter fun j=> !(listed.getD j false)).length:=by
     have KK:((List.range ops.size).filter fun j=> !((listed.setIfInBounds i true).getD j false))=((List.range ops.size).filter fun j=> !(listed.getD j false)).filter fun j=> !(Nat.beq j i):=by
      rw[List.filter_filter]
      apply List.filter_congr
      intro j _
      by_cases sG:j=i
      ·subst sG
       have h1:=(tG j).2 (.inl rfl)
       rw[h1];simp
      ·have h1:Nat.beq j i=false:=by rw[←Bool.not_eq_true,Nat.beq_eq];exact sG
       rw[h1,getD_set_ne false (Ne.symm sG)];simp
     rw[KK]
     refine List.length_filter_lt_length_iff_exists.2 ⟨i,?_,by simp⟩
     rw[List.mem_filter];exact⟨List.mem_range.2 his,by rw[h0];rfl⟩
    omega
   ·rcases(tG j).1 Ex with rfl|Ex
    ·rw[Ev]at hp;cases hp
     exact(tG _).2 (.inr (Eu e he hb))
    ·exact(tG _).2 (.inr (D6 j p hp Ex e he hb)))
  unfold wpOp
  rw[ho]
  simp only
  split
  ·rename_i hw;rw[if_pos hw]at this;exact .inl this
  ·rename_i hw;rw[if_neg hw]at this;exact this
theorem Av(hE:nG P E){id:Nat}{ops:Array Oper}{draw:Bool}(hI:Inv c E σ a w){K:St→Option α}(h:xE E ops draw σ K=some r)
  (hn: ∀σ' a' w',K σ'=some r→Inv c E σ' a' w'→Q .normal a' w'):(Code.region id ops draw).wp P Q a w:=by
 cases draw
 ·refine wp_region_list (yA hE ops.toList 0 σ [] a w _ hI h fun σ' WC a' w' h' sf=> ?_)
  exact hn σ' a' w' (bx h').2 sf
 ·unfold xE at h
  obtain⟨us,hl,hpt,lg,hK,_,adz⟩:=JB _ _ _ _ _ h
  obtain⟨hok,hK⟩:=bx hK
  simp only[Bool.not_true,Bool.false_or,Bool.and_eq_true]at hok
  obtain⟨Hr,PU⟩:=hok
  unfold Mt at Hr
  simp only[Bool.and_eq_true,List.all_eq_true]at Hr
  obtain⟨ajq,ajr⟩:=Hr
  have hz: ∀j o,ops.toList[j]? =some o→(o,j)∈ops.toList.zipIdx:=fun j o hj=>List.mem_zipIdx_iff_getElem?.2 hj
  refine wp_region_any hE.mixed (Cv (Q:=Q) (σ0:=σ) hE r hl hpt rfl (fun j o hj e he hbe=> ?_) (fun j o i p hj hi nB hb=> ?_) (fun j u i v hj hi nB hb=> ?_) (fun a' w' sf=>hn _ a' w' hK sf) ops.size (Array.replicate ops.size false) a _ ?_ ?_)
  ·have:=ajq (o,j) (hz j o hj) e (by simpa using he)
   rw[hbe]at this
   simpa [Nat.blt_eq]using this
  ·have:=ajr (o,j) (hz j o hj) (p,i) (hz i p hi)
   simp only[hb,Bool.or_false,Bool.or_eq_true,Bool.not_eq_true',Bool.or_eq_false_iff]at this
   have Af: ¬Nat.ble j i=true:=by rw[Nat.ble_eq];omega
   have this:=this.resolve_left Af
   refine⟨fun d hd=>⟨fun QE=> ?_,fun QE=> ?_⟩,fun d hd QE=> ?_⟩
   ·exact iL this.1 (x:=d) (by simp[hd]) (by simp[QE])
   ·exact iL this.1 (x:=d) (by simp[hd]) (by simp[QE])
   ·exact iL this.2 (x:=d) (by simp[hd]) QE
  ·unfold Ws at PU
   simp only[List.all_eq_true]at PU
   have WD:=adz j u hj
   have iA:=adz i v hi
   rw[Nat.zero_add]at WD iA
   have:=PU _ WD _ iA
   simp only[hb,Bool.or_false,Bool.or_eq_true,Bool.not_eq_true',Bool.or_eq_false_iff]at this
   have Af: ¬Nat.ble j i=true:=by rw[Nat.ble_eq];omega
   have this:=this.resolve_left Af
   refine⟨fun k hk=>⟨fun Al=> ?_,fun Al=> ?_⟩,fun k hk Al=> ?_⟩
   ·exact iL this.1 (x:=k) hk (List.mem_append_left _ Al)
   ·exact iL this.1 (x:=k) hk (List.mem_append_right _ Al)
   ·exact iL this.2 (x:=k) hk Al
  ·refine Nat.le_trans (List.length_filter_le _ _) ?_
   rw[List.length_range];exact Nat.le_refl _
  ·have hf: ∀j,(Array.replicate ops.size false).getD j false=false:=by
    intro j
    rw[Array.getD_eq_getD_getElem?,Array.getElem?_replicate]
    split<;>rfl
   obtain⟨⟨M,ν,hc⟩,hs,hd,rT⟩:=hI
   refine⟨by simp,fun j o _ hS=>(by rw[hf]at hS;cases hS),σ,(kB.start us σ).congr (fun j=>(by rw[hf];simp)),⟨M,ν,?_⟩,hs,hd,rT⟩
   exact hc.tr (Tr.drew hc.mem)
end VM
end
