/- A part of the proof of TearFlat of layer 29: a machine that reads a function of the program as an equation between values. -/
import Derived.Test.YtocmlaipoebfeaaGreatVm4
set_option linter.all false
section
namespace VM
open Go
variable{α:Type}{r:α}
theorem dK{υ τ:Ty}{y:υ.den}{k:τ.den→Option α}(h:c8 υ τ y k=some r): ∃z,k z=some r∧ ∀k':τ.den→Option α,c8 υ τ y k'=k' z:=by
 obtain⟨e,h⟩:=bC h
 subst e
 exact⟨y,h,λk'=>by simp[c8]⟩
theorem kj{υ τ:Ty}{k:Option α}(h:nu υ τ k=some r):k=some r∧ ∀k':Option α,nu υ τ k'=k':=by
 obtain⟨e,h1⟩:=fY h
 clear h
 subst e
 exact⟨h1,λk'=>by simp[nu]⟩
theorem eM{b:Bool}{K:Option α}(h:cond b K none=some r):K=some r∧ ∀K':Option α,cond b K' none=K':=by
 obtain⟨rfl,h⟩:=cB h
 exact⟨h,λ_=>rfl⟩
theorem ua{b:Bool}{K:Option α}(h:cond b none K=some r):K=some r∧ ∀K':Option α,cond b none K'=K':=by
 obtain⟨rfl,h⟩:=mH h
 exact⟨h,λ_=>rfl⟩
theorem xy: ∀{τ:Ty} {x:τ.den} {n:Nat} {k:(υ:Ty)→υ.den→Option α},xY τ x n k=some r→ ∃υ y,k υ y=some r∧ ∀k':(υ:Ty)→υ.den→Option α,xY τ x n k'=k' υ y
 | .pair a b,x,0,k,h=>⟨a,x.1,h,λ_=>rfl⟩
 | .pair a b,x,n+1,k,h=>by
  obtain⟨υ,y,h1,h2⟩:=xy (τ:=b) (x:=x.2) (n:=n) (k:=k) h
  exact⟨υ,y,h1,λk'=>h2 k'⟩
 | .int _,_,_,_,h| .bool,_,_,_,h| .str,_,_,_,h| .slice _,_,_,_,h| .unit,_,_,_,h| .arr _ _,_,_,_,h=>by simp[xY]at h
theorem yN: ∀{τ:Ty} {x:τ.den} {n:Nat} {m:(υ:Ty)→υ.den→(υ.den→Option α)→Option α} {k:τ.den→Option α},
  (∀υ y (k:υ.den→Option α),m υ y k=some r→ ∃z,k z=some r∧ ∀k':υ.den→Option α,m υ y k'=k' z)→ns τ x n m k=some r→ ∃z,k z=some r∧ ∀k':τ.den→Option α,ns τ x n m k'=k' z
 | .pair a b,x,0,m,k,hm,h=>by
  obtain⟨z,h1,h2⟩:=hm a x.1 _ h
  exact⟨(z,x.2),h1,λk'=>h2 _⟩
 | .pair a b,x,n+1,m,k,hm,h=>by
  obtain⟨z,h1,h2⟩:=yN (τ:=b) (x:=x.2) (n:=n) (m:=m) (k:=λz=>k (x.1,z)) hm h
  exact⟨(x.1,z),h1,λk'=>h2 (λz=>k' (x.1,z))⟩
 | .int _,_,_,_,_,_,h| .bool,_,_,_,_,_,h| .str,_,_,_,_,_,h| .slice _,_,_,_,_,_,h| .unit,_,_,_,_,_,h| .arr _ _,_,_,_,_,_,h=>by simp[ns]at h
theorem g7: ∀{p:List Step} {τ:Ty} {x:τ.den} {k:(υ:Ty)→υ.den→Option α},zM p τ x k=some r→ ∃υ y,k υ y=some r∧ ∀k':(υ:Ty)→υ.den→Option α,zM p τ x k'=k' υ y
 |[],τ,x,k,h=>⟨τ,x,h,λ_=>rfl⟩
 | .kH n::p,τ,x,k,h=>by
  obtain⟨υ,y,h1,h2⟩:=xy (h:xY τ x n _=some r)
  obtain⟨υ',y',h3,h4⟩:=g7 h1
  exact⟨υ',y',h3,λk'=>(h2 _).trans (h4 k')⟩
 | .idx i::p,τ,x,k,h=>by
  cases τ with
  |arr n e=>
   obtain⟨υ',y',h3,h4⟩:=g7 (p:=p) (τ:=e) (x:=List.getD x i e.zero) (k:=k) h
   exact⟨υ',y',h3,λk'=>h4 k'⟩
  |_=>simp[zM,agL]at h
theorem oV{υ:Ty}{y:υ.den}: ∀{p:List Step} {τ:Ty} {x:τ.den} {k:τ.den→Option α},vP υ y p τ x k=some r→ ∃z,k z=some r∧ ∀k':τ.den→Option α,vP υ y p τ x k'=k' z
 |[],τ,x,k,h=>dK h
 | .kH n::p,τ,x,k,h=>yN (λ_ _ _ h=>oV h) h
 | .idx i::p,τ,x,k,h=>by
  cases τ with
  |arr n e=>
   obtain⟨z,h1,h2⟩:=oV (p:=p) (τ:=e) (x:=List.getD x i e.zero) (k:=λz=>k (List.set x i z)) h
   exact⟨_,h1,λk'=>h2 (λz=>k' (List.set x i z))⟩
  |_=>simp[vP,DW]at h
theorem sM{a:bD}{k:IntKind→Int→Option α}(h:wy a k=some r): ∃i n,k i n=some r∧ ∀k':IntKind→Int→Option α,wy a k'=k' i n:=by
 obtain⟨i,n,rfl,h⟩:=nA h
 exact⟨i,n,h,λ_=>rfl⟩
theorem RJ{a:bD}{k:(τ:Ty)→τ.den→Option α}(h:LV a k=some r): ∃τ x,k τ x=some r∧ ∀k':(τ:Ty)→τ.den→Option α,LV a k'=k' τ x:=by
 unfold LV at h
 split at h
 ·exact⟨_,_,h,λ_=>rfl⟩
 ·cases h
theorem uZ{a:Option bD}{d:Int}{k:Int→Option α}(h:yF a d k=some r): ∃n,k n=some r∧ ∀k':Int→Option α,yF a d k'=k' n:=by
 cases a with
 |none=>exact⟨d,h,λ_=>rfl⟩
 |some a=>
  obtain⟨i,n,h1,h2⟩:=sM (h:wy a (λ_ x=>k x)=some r)
  exact⟨n,h1,λk'=>h2 (λ_ x=>k' x)⟩
abbrev Ag(rd:List Nat)(H H':Nat→Option bh):Prop:= ∀i∈rd,H' i=H i
theorem oW{fz:Bool}{a:bD}{H:Nat→Option bh}{τ:Ty}{k:τ.den→List Nat→ja→Option α}(h:mu fz a H τ k=some r):
  ∃y rd ups,k y rd ups=some r∧ ∀H',Ag rd H H'→ ∀k':τ.den→List Nat→ja→Option α,mu fz a H' τ k'=k' y rd ups:=by
 cases a with
 |val υ x=>
  simp only[mu]at h
  obtain⟨z,h1,h2⟩:=dK h
  refine⟨z,[],[],h1,λH' _ k'=> ?_⟩
  simp only[mu]
  exact h2 (λy=>k' y [] [])
 |JA υ x n=>
  simp only[mu]at h
  obtain⟨z,h1,h2⟩:=dK h
  refine⟨z,[],[],h1,λH' _ k'=> ?_⟩
  simp only[mu]
  exact h2 (λy=>k' y [] [])
 |emp=>
  cases τ with
  |slice e=>exact⟨[],[],[],h,λ_ _ _=>rfl⟩
  |_=>cases h
 |ref id=>
  have h:(match H id with
   |some (.own e l)=>c8 (.slice e) τ l λy=>k y [id] (cond fz [(id,some (.oS e l))] [])
   |some (.oS e l)=>c8 (.slice e) τ l λy=>k y [id] []
   |_=>none)=some r:=h
  cases hH:H id with
  |none=>rw[hH]at h;cases h
  |some e=>
   rw[hH]at h
   cases e with
   |own e l=>
    obtain⟨z,h1,h2⟩:=dK (h:c8 (.slice e) τ l _=some r)
    refine⟨z,_,_,h1,λH' hA k'=> ?_⟩
    have:H' id=some (.own e l):=by rw[hA id (by simp),hH]
    show(match H' id with
     |some (.own e l)=>c8 (.slice e) τ l λy=>k' y [id] (cond fz [(id,some (.oS e l))] [])
     |some (.oS e l)=>c8 (.slice e) τ l λy=>k' y [id] []
     |_=>none)=_
    rw[this];exact h2 _
   |oS e l=>
    obtain⟨z,h1,h2⟩:=dK (h:c8 (.slice e) τ l _=some r)
    refine⟨z,_,_,h1,λH' hA k'=> ?_⟩
    have:H' id=some (.oS e l):=by rw[hA id (by simp),hH]
    show(match H' id with
     |some (.own e l)=>c8 (.slice e) τ l λy=>k' y [id] (cond fz [(id,some (.oS e l))] [])
     |some (.oS e l)=>c8 (.slice e) τ l λy=>k' y [id] []
     |_=>none)=_
    rw[this];exact h2 _
   |obj _ _=>cases h
   |gk _ _ _ _=>cases h
   |gone=>cases h
 |any|Vc|jr _ _|qW _ _|tup _|LR _ _=>cases h
theorem Bt{id:Nat}{p:List Step}{H:Nat→Option bh}{k:Ty→Option α}(h:nv id p H k=some r): ∃υ,k υ=some r∧ ∀H',H' id=H id→ ∀k':Ty→Option α,nv id p H' k'=k' υ:=by
 unfold nv at h
 split at h
 ·rename_i τ x bm
  obtain⟨υ,y,h1,h2⟩:=g7 h
  exact⟨υ,h1,λH' hA k'=>by unfold nv;rw[hA,bm];exact h2 _⟩
 ·rename_i τ x _ _ bm
  obtain⟨υ,y,h1,h2⟩:=g7 h
  exact⟨υ,h1,λH' hA k'=>by unfold nv;rw[hA,bm];exact h2 _⟩
 ·rename_i e l bm
  split at h
  ·obtain⟨υ,y,h1,h2⟩:=g7 h
   exact⟨υ,h1,λH' hA k'=>by unfold nv;rw[hA,bm];exact h2 _⟩
  ·cases h
 ·rename_i e l bm
  split at h
  ·obtain⟨υ,y,h1,h2⟩:=g7 h
   exact⟨υ,h1,λH' hA k'=>by unfold nv;rw[hA,bm];exact h2 _⟩
  ·cases h
 ·cases h
theorem xz{H:Nat→Option bh}{id:Nat}{e:bh}{K:Option α}(h:qX H id e K=some r):K=some r∧ ∀H',H' id=H id→ ∀(e':bh) (K':Option α),qX H' id e' K'=K':=by
 obtain⟨h1,h2⟩:=lL h
 exact⟨h2,λH' hA e' K'=>by unfold qX;rw[hA,h1]⟩
theorem Tb{b:BinOp}{k:IntKind}{x y:Int}{K:bD→Option α}(h:uP b k x y K=some r): ∃v,K v=some r∧ ∀K':bD→Option α,uP b k x y K'=K' v:=by
 cases b<;>simp only[uP]at h ⊢ <;>first
  |exact⟨_,h,λ_=>rfl⟩
  |(obtain⟨h1,h2⟩:=ua h;exact⟨_,h1,λ_=>h2 _⟩)
  |cases h
theorem ahn{b:BinOp}{k:IntKind}{x y:Int}{K:bD→Option α}(h:Y3 b k x y K=some r): ∃v,K v=some r∧ ∀K':bD→Option α,Y3 b k x y K'=K' v:=by
 cases b<;>simp only[Y3]at h ⊢ <;>first
  |(obtain⟨h1,h2⟩:=ua h;exact⟨_,h1,λ_=>h2 _⟩)
  |cases h
theorem VB{t:Option Ty}{op:BinOp}{τ:Ty}{x:τ.den}{υ:Ty}{y:υ.den}{K:bD→Option α}(h:EP t op τ x υ y K=some r): ∃v,K v=some r∧ ∀K':bD→Option α,EP t op τ x υ y K'=K' v:=by
 unfold EP at h ⊢
 split at h
 ·rename_i k x k' y
  cases hs:Y4 op
  ·rw[hs]at h
   have h:(if k=k' then uP op k x y K else none)=some r:=h
   by_cases hk:k=k'
   ·rw[aj hk]at h
    obtain⟨v,h1,h2⟩:=Tb h
    exact⟨v,h1,λK'=>by simp only[ar,aj hk];exact h2 K'⟩
   ·rw[ah hk]at h;cases h
  ·rw[hs]at h
   obtain⟨v,h1,h2⟩:=ahn (h:Y3 op k x y K=some r)
   exact⟨v,h1,λK'=>by simp only[ak];exact h2 K'⟩
 ·split at h
  ·cases h
  ·obtain⟨h1,h2⟩:=kj h
   obtain⟨h3,h4⟩:=eM h1
   split at h3
   ·obtain⟨z,h5,h6⟩:=dK h3
    exact⟨_,h5,λK'=>by rw[h2,h4];exact h6 _⟩
   ·obtain⟨z,h5,h6⟩:=dK h3
    exact⟨_,h5,λK'=>by rw[h2,h4];exact h6 _⟩
   ·cases h3
theorem Zw{u:UnOp}{a:bD}{K:bD→Option α}(h:SO u a K=some r): ∃v,K v=some r∧ ∀K':bD→Option α,SO u a K'=K' v:=by
 unfold SO at h
 split at h<;>first
  |exact⟨_,h,λ_=>rfl⟩
  |cases h
theorem P2{up:Bool}: ∀{xs:List bD} {a:bD} {K:bD→Option α},YD up a xs K=some r→ ∃v,K v=some r∧ ∀K':bD→Option α,YD up a xs K'=K' v
 |[],a,K,h=>⟨a,h,λ_=>rfl⟩
 |b::xs,a,K,h=>by
  unfold YD at h
  obtain⟨k,x,h1,h2⟩:=sM h
  obtain⟨k',y,h3,h4⟩:=sM h1
  by_cases hk:k=k'
  ·rw[aj hk]at h3
   obtain⟨v,h5,h6⟩:=P2 h3
   refine⟨v,h5,λK'=> ?_⟩
   unfold YD
   rw[h2,h4,aj hk]
   exact h6 K'
  ·rw[ah hk]at h3;cases h3
theorem Zx{τ:Ty}{a:bD}{H:Nat→Option bh}{K:jf α}(h:LW τ a H K=some r): ∃v rd ups,K v rd ups=some r∧ ∀H',Ag rd H H'→ ∀K':jf α,LW τ a H' K'=K' v rd ups:=by
 unfold LW at h
 split at h
 ·exact⟨_,_,_,h,λ_ _ _=>rfl⟩
 ·exact⟨_,_,_,h,λ_ _ _=>rfl⟩
 ·exact⟨_,_,_,h,λ_ _ _=>rfl⟩
 ·exact⟨_,_,_,h,λ_ _ _=>rfl⟩
 ·split at h
  ·rename_i bm
   exact⟨_,_,_,h,λH' hA K'=>by unfold LW;simp only;rw[hA _ (by simp),bm]⟩
  ·rename_i bm
   exact⟨_,_,_,h,λH' hA K'=>by unfold LW;simp only;rw[hA _ (by simp),bm]⟩
  ·cases h
 ·cases h
theorem Zy{id:Nat}{e:Ty}{a b:bD}{H:Nat→Option bh}{K:jf α}(h:LX id e a b H K=some r): ∃v rd ups,K v rd ups=some r∧id∈rd∧ ∀H',Ag rd H H'→ ∀K':jf α,LX id e a b H' K'=K' v rd ups:=by
 unfold LX at h
 obtain⟨ys,rd,ups,h1,h2⟩:=oW h
 split at h1
 ·obtain⟨h3,h4⟩:=eM h1
  refine⟨_,_,_,h3,by simp,λH' hA K'=> ?_⟩
  unfold LX
  rw[h2 H' (λi hi=>hA i (a8 _ hi))]
  exact h4 _
 ·rename_i j
  split at h1
  ·rename_i e' l hj
   obtain⟨z,h3,h4⟩:=dK h1
   obtain⟨h5,h6⟩:=eM h3
   refine⟨_,_,_,h5,by simp,λH' hA K'=> ?_⟩
   unfold LX
   rw[h2 H' (λi hi=>hA i (a8 _ (a8 _ hi)))]
   simp only
   rw[hA j (by simp),hj]
   simp only
   rw[h4]
   exact h6 _
  ·cases h1
 ·cases h1
theorem Fe{e:Ty}{n:Nat}{H:Nat→Option bh}: ∀{ps:List (Nat×bD)} {l:List e.den} {Ik:List Nat} {Ff:ja} {K:List e.den→List Nat→ja→Option α},wA e H n ps l Ik Ff K=some r→
  ∃l' rd ups,K l' rd ups=some r∧(∀i∈Ik,i∈rd)∧ ∀H',Ag rd H H'→ ∀K':List e.den→List Nat→ja→Option α,wA e H' n ps l Ik Ff K'=K' l' rd ups
 |[],l,Ik,Ff,K,h=>⟨l,Ik,Ff,h,λ_ h=>h,λ_ _ _=>rfl⟩
 |p::ps,l,Ik,Ff,K,h=>by
  unfold wA at h
  obtain⟨h1,h2⟩:=eM h
  obtain⟨y,rd1,PZ,h3,h4⟩:=oW h1
  obtain⟨l',rd,ups,h5,h6,h7⟩:=Fe h3
  refine⟨l',rd,ups,h5,λi hi=>h6 i (dD _ hi),λH' hA K'=> ?_⟩
  unfold wA
  rw[h2,h4 H' (λi hi=>hA i (h6 i (cQ _ hi)))]
  exact h7 H' hA K'
theorem Il{τ:Ty}{H:Nat→Option bh}: ∀{ps:List (Nat×bD)} {x:τ.den} {Ik:List Nat} {Ff:ja} {K:τ.den→List Nat→ja→Option α},uQ τ H ps x Ik Ff K=some r→
  ∃x' rd ups,K x' rd ups=some r∧(∀i∈Ik,i∈rd)∧ ∀H',Ag rd H H'→ ∀K':τ.den→List Nat→ja→Option α,uQ τ H' ps x Ik Ff K'=K' x' rd ups
 |[],x,Ik,Ff,K,h=>⟨x,Ik,Ff,h,λ_ h=>h,λ_ _ _=>rfl⟩
 |p::ps,x,Ik,Ff,K,h=>by
  unfold uQ at h
  obtain⟨υ,z,h1,h2⟩:=xy h
  obtain⟨y,rd1,PZ,h3,h4⟩:=oW h1
  obtain⟨z',h5,h6⟩:=yN (m:=fun υ' _ k'=>c8 υ υ' y k') (fun υ' y' k hk=>dK hk) h3
  obtain⟨x',rd,ups,h7,h8,h9⟩:=Il h5
  refine⟨x',rd,ups,h7,λi hi=>h8 i (dD _ hi),λH' hA K'=> ?_⟩
  unfold uQ
  rw[h2,h4 H' (λi hi=>hA i (h8 i (cQ _ hi))),h6]
  exact h9 H' hA K'
theorem VC{H:Nat→Option bh}{v:bD}{a:Ty}{k:a.den→List Nat→ja→Option α}(h:Cj v H a k=some r):
  ∃x rd ups,k x rd ups=some r∧ ∀H',Ag rd H H'→ ∀k':a.den→List Nat→ja→Option α,Cj v H' a k'=k' x rd ups:=by
 unfold Cj at h
 split at h
 ·split at h
  ·obtain⟨z,h1,h2⟩:=dK h
   refine⟨_,_,_,h1,λH' _ k'=> ?_⟩
   unfold Cj
   simp only
   rw[h2]
  ·cases h
 ·rename_i k0 vE
  obtain⟨y,rd,ups,h1,h2⟩:=oW h
  refine⟨y,rd,ups,h1,λH' hA k'=> ?_⟩
  unfold Cj
  split
  ·exact(vE _ _ rfl HEq.rfl).elim
  ·exact h2 H' hA _
theorem Mu{H:Nat→Option bh}: ∀{τ:Ty} {vs:List bD} {k:τ.den→List Nat→ja→Option α},qY H τ vs k=some r→
  ∃x rd ups,k x rd ups=some r∧ ∀H',Ag rd H H'→ ∀k':τ.den→List Nat→ja→Option α,qY H' τ vs k'=k' x rd ups
 | .unit,[],k,h=>⟨(),[],[],h,λ_ _ _=>rfl⟩
 | .pair a b,v::vs,k,h=>by
  unfold qY at h
  obtain⟨y,rd,ups,h1,h2⟩:=VC h
  obtain⟨ys,Bj,ot,h3,h4⟩:=Mu h1
  refine⟨(y,ys),_,_,h3,λH' hA k'=> ?_⟩
  unfold qY
  rw[h2 H' (λi hi=>hA i (dD _ hi)),h4 H' (λi hi=>hA i (cQ _ hi))]
 | .unit,_::_,_,h=>by simp[qY]at h
 | .pair _ _,[],_,h=>by simp[qY]at h
 | .int _,_,_,h| .bool,_,_,h| .str,_,_,h| .slice _,_,_,h| .arr _ _,_,_,h=>by simp[qY]at h
theorem Fg: ∀{p5:List bD} {H:Nat→Option bh} {K:List bD→List Nat→ja→Option α},wB H p5 K=some r→
  ∃cs rd ups,K cs rd ups=some r∧ ∀H',Ag rd H H'→ ∀K':List bD→List Nat→ja→Option α,wB H' p5 K'=K' cs rd ups
 |[],H,K,h=>⟨[],[],[],h,λ_ _ _=>rfl⟩
 |a::p5,H,K,h=>by
  unfold wB at h
  split at h
  ·rename_i id
   split at h
   ·rename_i τ x bm
    obtain⟨cs,rd,ups,h1,h2⟩:=Fg h
    refine⟨_,_,_,h1,λH' hA K'=> ?_⟩
    unfold wB
    simp only
    rw[hA id (by simp),bm]
    simp only
    rw[h2 (bT H' id (some .gone)) (λi hi=>by
     by_cases bS:i=id
     ·subst bS;rw[ay,ay]
     ·rw[az _ _ bS,az _ _ bS];exact hA i (a8 _ hi))]
   ·cases h
  ·rename_i vE
   obtain⟨cs,rd,ups,h1,h2⟩:=Fg h
   refine⟨_,_,_,h1,λH' hA K'=> ?_⟩
   unfold wB
   split
   ·exact absurd rfl (vE _)
   ·rw[h2 H' hA]
end VM
end
section
namespace VM
open Go
variable{α:Type}{r:α}
theorem Mv{m:AM}{a:bD}{H:Nat→Option bh}{k:m.den→(Nat→Option bh)→List Nat→ja→ja→List (Nat×AM)→Option α}(h:oi m a H k=some r):
  ∃y rd uo uf io,∃g:(Nat→Option bh)→(Nat→Option bh),k y (g H) rd uo uf io=some r∧(∀H' i,H' i=H i→g H' i=g H i)∧
   ∀H',Ag rd H H'→ ∀k':m.den→(Nat→Option bh)→List Nat→ja→ja→List (Nat×AM)→Option α,oi m a H' k'=k' y (g H') rd uo uf io:=by
 have Mw: ∀(d:Nat) (v:Option bh) (H':Nat→Option bh) (i:Nat),H' i=H i→bT H' d v i=bT H d v i:=by
  intro d v H' i hi
  by_cases bm:i=d
  ·subst bm;rw[ay,ay]
  ·rw[az _ _ bm,az _ _ bm,hi]
 unfold oi at h
 split at h
 ·rename_i τ k
  obtain⟨y,rd,ups,h1,h2⟩:=oW h
  cases ups with
  |nil=>
   refine⟨y,rd,[],[],[],λH=>H,h1,λ_ _ h=>h,λH' hA k'=> ?_⟩
   unfold oi;simp only;rw[h2 H' hA]
  |cons u rest=>
   refine⟨y,rd,[],u::rest,[],λH=>bT H u.1 u.2,h1,λH' i hi=>Mw _ _ H' i hi,λH' hA k'=> ?_⟩
   unfold oi;simp only;rw[h2 H' hA]
 ·rename_i e k
  split at h
  ·exact⟨[],[],[],[],[],λH=>H,h,λ_ _ h=>h,λ_ _ _=>rfl⟩
  ·rename_i id
   split at h
   ·rename_i e' l bm
    obtain⟨z,h1,h2⟩:=dK h
    refine⟨z,[id],_,_,_,λH=>bT H id (some .gone),h1,λH' i hi=>Mw _ _ H' i hi,λH' hA k'=> ?_⟩
    unfold oi;simp only;rw[hA id (by simp),bm];simp only;rw[h2]
   ·cases h
  ·cases h
 ·rename_i τ k
  split at h
  ·rename_i id
   split at h
   ·rename_i υ x bm
    obtain⟨z,h1,h2⟩:=dK h
    refine⟨z,[id],_,_,_,λH=>bT H id (some .gone),h1,λH' i hi=>Mw _ _ H' i hi,λH' hA k'=> ?_⟩
    unfold oi;simp only;rw[hA id (by simp),bm];simp only;rw[h2]
   ·cases h
  ·cases h
 ·rename_i f τ k
  split at h
  ·rename_i f' cs
   obtain⟨h1,h2⟩:=eM h
   obtain⟨x,rd,ups,h3,h4⟩:=Mu h1
   cases ups with
   |nil=>
    refine⟨x,rd,[],[],[],λH=>H,h3,λ_ _ h=>h,λH' hA k'=> ?_⟩
    unfold oi;simp only;rw[h2,h4 H' hA]
   |cons _ _=>cases h3
  ·cases h
 ·cases h
 ·rename_i τ k
  split at h
  ·obtain⟨z,h1,h2⟩:=dK h
   refine⟨z,[],[],[],[],λH=>H,h1,λ_ _ h=>h,λH' hA k'=> ?_⟩
   unfold oi;simp only;rw[h2]
  ·cases h
 ·rename_i e k
  split at h
  ·rename_i id
   split at h
   ·rename_i e' l bm
    obtain⟨z,h1,h2⟩:=dK h
    refine⟨z,[id],_,_,_,λH=>bT H id (some .gone),h1,λH' i hi=>Mw _ _ H' i hi,λH' hA k'=> ?_⟩
    unfold oi;simp only;rw[hA id (by simp),bm];simp only;rw[h2]
   ·cases h
  ·cases h
theorem My: ∀{ms:List AM} {p5:List bD} {H:Nat→Option bh} {Ik:List Nat} {uo0 uf0:ja} {io0:List (Nat×AM)} {K:HP ms→List Nat→ja→ja→List (Nat×AM)→Option α},tN ms p5 H Ik uo0 uf0 io0 K=some r→
  ∃x rd uo uf io,K x rd uo uf io=some r∧(∀i∈Ik,i∈rd)∧ ∀H',Ag rd H H'→ ∀K':HP ms→List Nat→ja→ja→List (Nat×AM)→Option α,tN ms p5 H' Ik uo0 uf0 io0 K'=K' x rd uo uf io
 |[],[],H,Ik,uo0,uf0,io0,K,h=>⟨(),_,_,_,_,h,λ_ h=>h,λ_ _ _=>rfl⟩
 |[m],[a],H,Ik,uo0,uf0,io0,K,h=>by
  obtain⟨y,rd,uo,uf,io,g,h1,h2,h3⟩:=Mv (h:oi m a H _=some r)
  exact⟨y,_,_,_,_,h1,λi hi=>dD _ hi,λH' hA K'=>h3 H' (λi hi=>hA i (cQ _ hi)) _⟩
 |m::n::ms,a::p5,H,Ik,uo0,uf0,io0,K,h=>by
  obtain⟨y,rd,uo,uf,io,g,h1,h2,h3⟩:=Mv (h:oi m a H _=some r)
  obtain⟨ys,Bj,Lf,Lg,Hb,h4,h5,h6⟩:=My (ms:=n::ms) h1
  refine⟨(y,ys),Bj,Lf,Lg,Hb,h4,λi hi=>h5 i (dD _ hi),λH' hA K'=> ?_⟩
  refine(h3 H' (λi hi=>hA i (h5 i (cQ _ hi))) _).trans ?_
  exact h6 (g H') (λi hi=>h2 H' i (hA i hi)) _
 |[],_::_,_,_,_,_,_,_,h=>by simp[tN]at h
 |[_],[],_,_,_,_,_,_,h=>by simp[tN]at h
 |[_],_::_::_,_,_,_,_,_,_,h=>by simp[tN]at h
 |_::_::_,[],_,_,_,_,_,_,h=>by simp[tN]at h
theorem VE{id i:Nat}: ∀{n:Nat},i∈LZ id n↔id≤i∧i<id+n
 |0=>by simp[LZ]
 |n+1=>by simp only[LZ,aX,VE];omega
theorem yx{H H':Nat→Option bh}{id:Nat}: ∀{n:Nat},(∀i∈LZ id n,H' i=H i)→uR H' id n=uR H id n
 |0,_=>rfl
 |n+1,h=>by
  unfold uR
  rw[h (id+n) (by simp[LZ]),yx λi hi=>h i (by simp[LZ,hi])]
theorem VF{E:Env}{f id:Nat}{p5:List bD}{H:Nat→Option bh}{K:jf α}(h:Cl E f p5 id H K=some r): ∃v rd ups,K v rd ups=some r∧ ∀H',Ag rd H H'→ ∀K':jf α,Cl E f p5 id H' K'=K' v rd ups:=by
 unfold Cl at h
 split at h
 ·cases h
 ·rename_i S hS
  obtain⟨x,rd,uo,uf,io,h1,_,h2⟩:=My h
  obtain⟨y,hy,h3⟩:=tD.1 h1
  obtain⟨h4,h5⟩:=cB h3
  refine⟨_,_,_,h5,λH' hA K'=> ?_⟩
  unfold Cl
  rw[hS]
  simp only
  rw[h2 H' (λi hi=>hA i (dD _ (dD _ hi))),hy]
  simp only[av]
  rw[yx (λi hi=>hA i (cQ _ hi)),h4]
  rfl
theorem Tc{t:Ty}{z:Bool}{a:bD}{lo hi mx:Option bD}{H:Nat→Option bh}{K:jf α}(h:qZ t z a lo hi mx H K=some r): ∃v rd ups,K v rd ups=some r∧ ∀H',Ag rd H H'→ ∀K':jf α,qZ t z a lo hi mx H' K'=K' v rd ups:=by
 unfold qZ at h
 split at h
 ·obtain⟨h1,e1⟩:=eM h
  obtain⟨l,h2,e2⟩:=uZ h1
  obtain⟨m,h3,e3⟩:=uZ h2
  obtain⟨h4,e4⟩:=eM h3
  exact⟨_,_,_,h4,λH' _ K'=>by unfold qZ;simp only;rw[e1,e2,e3,e4]⟩
 ·cases z
  ·obtain⟨h1,e1⟩:=eM (h:cond mx.isNone _ none=some r)
   obtain⟨l,h2,e2⟩:=uZ h1
   obtain⟨m,h3,e3⟩:=uZ h2
   obtain⟨h4,e4⟩:=eM h3
   exact⟨_,_,_,h4,λH' _ K'=>by unfold qZ;simp only[ar];rw[e1,e2,e3,e4]⟩
  ·exact⟨_,_,_,h,λH' _ K'=>by unfold qZ;rfl⟩
 ·rename_i e iI
  obtain⟨y,rd,ups,h1,e1⟩:=oW h
  cases z
  ·obtain⟨h2,e2⟩:=eM (h1:cond (mx.isNone||hi.isSome) _ none=some r)
   obtain⟨l,h3,e3⟩:=uZ h2
   obtain⟨m,h4,e4⟩:=uZ h3
   obtain⟨n,h5,e5⟩:=uZ h4
   obtain⟨h6,e6⟩:=eM h5
   refine⟨_,_,_,h6,λH' hA K'=> ?_⟩
   unfold qZ
   simp only
   rw[e1 H' hA]
   simp only[ar]
   rw[e2,e3,e4,e5,e6]
  ·refine⟨_,_,_,(h1:K .emp rd []=some r),λH' hA K'=> ?_⟩
   unfold qZ
   simp only
   rw[e1 H' hA]
   rfl
 ·cases h
theorem HD{τ:Ty}{a i:bD}{H:Nat→Option bh}{K:jf α}(h:gJ τ a i H K=some r): ∃v rd ups,K v rd ups=some r∧ ∀H',Ag rd H H'→ ∀K':jf α,gJ τ a i H' K'=K' v rd ups:=by
 unfold gJ at h
 obtain⟨k,n,h,e0⟩:=sM h
 split at h
 ·split at h
  ·obtain⟨z,h1,e1⟩:=dK h
   obtain⟨h2,e2⟩:=eM h1
   exact⟨_,_,_,h2,λH' _ K'=>by unfold gJ;rw[e0];simp only;rw[e1,e2]⟩
  ·split at h
   ·rename_i bm
    obtain⟨h1,e1⟩:=kj h
    obtain⟨h2,e2⟩:=eM h1
    exact⟨_,_,_,h2,λH' hA K'=>by unfold gJ;rw[e0];simp only;rw[hA _ (by simp),bm];simp only;rw[e1,e2]⟩
   ·rename_i bm
    obtain⟨h1,e1⟩:=kj h
    obtain⟨h2,e2⟩:=eM h1
    exact⟨_,_,_,h2,λH' hA K'=>by unfold gJ;rw[e0];simp only;rw[hA _ (by simp),bm];simp only;rw[e1,e2]⟩
   ·cases h
  ·cases h
 ·split at h
  ·obtain⟨υ,h1,e1⟩:=Bt h
   obtain⟨h2,e2⟩:=kj h1
   obtain⟨h3,e3⟩:=eM h2
   exact⟨_,_,_,h3,λH' hA K'=>by unfold gJ;rw[e0];simp only;rw[e1 H' (hA _ (by simp)),e2,e3]⟩
  ·obtain⟨z,h1,e1⟩:=dK h
   obtain⟨h2,e2⟩:=eM h1
   exact⟨_,_,_,h2,λH' _ K'=>by unfold gJ;rw[e0];simp only;rw[e1,e2]⟩
  ·cases h
 ·cases h
theorem Td{τ:Ty}{a i:bD}{K:bD→Option α}(h:wC τ a i K=some r): ∃v,K v=some r∧ ∀K':bD→Option α,wC τ a i K'=K' v:=by
 unfold wC at h
 obtain⟨k,n,h,e0⟩:=sM h
 split at h
 ·obtain⟨z,h1,e1⟩:=dK h
  obtain⟨h2,e2⟩:=eM h1
  exact⟨_,h2,λK'=>by unfold wC;rw[e0];simp only;rw[e1,e2]⟩
 ·obtain⟨h2,e2⟩:=eM h
  exact⟨_,h2,λK'=>by unfold wC;rw[e0];simp only;rw[e2]⟩
 ·cases h
theorem VG{a:bD}{H:Nat→Option bh}{K:(υ:Ty)→υ.den→List Nat→Option α}(h:lf a H K=some r): ∃υ y rd,K υ y rd=some r∧ ∀H',Ag rd H H'→ ∀K':(υ:Ty)→υ.den→List Nat→Option α,lf a H' K'=K' υ y rd:=by
 unfold lf at h
 split at h
 ·exact⟨_,_,_,h,λ_ _ _=>rfl⟩
 ·split at h
  ·rename_i bm
   obtain⟨υ,y,h1,e1⟩:=g7 h
   exact⟨_,_,_,h1,λH' hA K'=>by unfold lf;simp only;rw[hA _ (by simp),bm];simp only;rw[e1]⟩
  ·rename_i bm
   split at h
   ·obtain⟨υ,y,h1,e1⟩:=g7 h
    exact⟨_,_,_,h1,λH' hA K'=>by unfold lf;simp only;rw[hA _ (by simp),bm];simp only;rw[e1]⟩
   ·cases h
  ·rename_i bm
   split at h
   ·obtain⟨υ,y,h1,e1⟩:=g7 h
    exact⟨_,_,_,h1,λH' hA K'=>by unfold lf;simp only;rw[hA _ (by simp),bm];simp only;rw[e1]⟩
   ·cases h
  ·cases h
 ·cases h
theorem Te{τ:Ty}{a v:bD}{H:Nat→Option bh}{K:jf α}(h:mv τ a v H K=some r): ∃u rd ups,K u rd ups=some r∧ ∀H',Ag rd H H'→ ∀K':jf α,mv τ a v H' K'=K' u rd ups:=by
 unfold mv at h
 split at h
 ·obtain⟨y,rd,ups,h1,e1⟩:=oW h
  split at h1
  ·rename_i bm
   obtain⟨z,h2,e2⟩:=oV h1
   exact⟨_,_,_,h2,λH' hA K'=>by
    unfold mv;simp only
    rw[e1 H' (λi hi=>hA i (a8 _ hi))]
    rw[hA _ (by simp),bm];simp only;rw[e2]⟩
  ·rename_i bm
   split at h1
   ·obtain⟨h2,e2⟩:=ua h1
    obtain⟨z,h3,e3⟩:=oV h2
    exact⟨_,_,_,h3,λH' hA K'=>by
     unfold mv;simp only
     rw[e1 H' (λi hi=>hA i (a8 _ hi))]
     rw[hA _ (by simp),bm];simp only;rw[e2,e3]⟩
   ·cases h1
  ·cases h1
 ·cases h
theorem Zz{j:Nat}{q:List Step}{τ:Ty}{x:τ.den}{H:Nat→Option bh}{k:τ.den→ja→Option α}(h:Df j q τ x H k=some r): ∃z ups,k z ups=some r∧ ∀H',H' j=H j→ ∀k':τ.den→ja→Option α,Df j q τ x H' k'=k' z ups:=by
 unfold Df at h
 split at h
 ·rename_i hj
  obtain⟨z,h1,e1⟩:=oV h
  exact⟨_,_,h1,λH' hA k'=>by unfold Df;rw[hA,hj];simp only;rw[e1]⟩
 ·rename_i hj
  obtain⟨z,h1,e1⟩:=oV h
  exact⟨_,_,h1,λH' hA k'=>by unfold Df;rw[hA,hj];simp only;rw[e1]⟩
 ·cases h
abbrev Pts(F:(Nat→Option bh)→jf α→Option α)(H:Nat→Option bh)(K:jf α)(r:α):Prop:=
 ∃v rd ups,K v rd ups=some r∧ ∀H',Ag rd H H'→ ∀K':jf α,F H' K'=K' v rd ups
theorem VH{τ:Ty}{a:bD}{H:Nat→Option bh}{K:jf α}(h:(lf a H fun υ y rd=>c8 υ τ y λz=>K (.val τ z) rd [])=some r):
  Pts (λH K=>lf a H fun υ y rd=>c8 υ τ y λz=>K (.val τ z) rd []) H K r:=by
 obtain⟨υ,y,rd,h1,e1⟩:=VG h
 obtain⟨z,h2,e2⟩:=dK h1
 exact⟨_,_,_,h2,λH' hA K'=>by simp only;rw[e1 H' hA,e2]⟩
theorem aml{id:Nat}{p:List Step}{H:Nat→Option bh}{K:(υ:Ty)→υ.den→List Nat→Option α}(h:lf (.jr id p) H K=some r): ∃υ y,K υ y [id]=some r:=by
 unfold lf at h
 simp only at h
 split at h
 ·obtain⟨υ,y,h1,_⟩:=g7 h;exact⟨υ,y,h1⟩
 ·split at h
  ·obtain⟨υ,y,h1,_⟩:=g7 h;exact⟨υ,y,h1⟩
  ·cases h
 ·split at h
  ·obtain⟨υ,y,h1,_⟩:=g7 h;exact⟨υ,y,h1⟩
  ·cases h
 ·cases h
theorem VI{τ:Ty}{id:Nat}{p:List Step}{H:Nat→Option bh}{K:jf α}(h:(lf (.jr id p) H fun υ y rd=>c8 υ τ y λz=>K (.val τ z) rd [])=some r):
  ∃z,K (.val τ z) [id] []=some r∧ ∀H',H' id=H id→ ∀K':jf α,(lf (.jr id p) H' fun υ y rd=>c8 υ τ y λz=>K' (.val τ z) rd [])=K' (.val τ z) [id] []:=by
 unfold lf at h
 simp only at h
 split at h
 ·rename_i bm
  obtain⟨υ,y,h1,e1⟩:=g7 h
  obtain⟨z,h2,e2⟩:=dK h1
  exact⟨_,h2,λH' hA K'=>by unfold lf;simp only;rw[hA,bm];simp only;rw[e1,e2]⟩
 ·rename_i bm
  split at h
  ·obtain⟨υ,y,h1,e1⟩:=g7 h
   obtain⟨z,h2,e2⟩:=dK h1
   exact⟨_,h2,λH' hA K'=>by unfold lf;simp only;rw[hA,bm];simp only;rw[e1,e2]⟩
  ·cases h
 ·rename_i bm
  split at h
  ·obtain⟨υ,y,h1,e1⟩:=g7 h
   obtain⟨z,h2,e2⟩:=dK h1
   exact⟨_,h2,λH' hA K'=>by unfold lf;simp only;rw[hA,bm];simp only;rw[e1,e2]⟩
  ·cases h
 ·cases h
theorem VJ{τ:Ty}{a:bD}{H:Nat→Option bh}{K:jf α}(h:vA τ a H K=some r):Pts (vA τ a) H K r:=by
 unfold vA at h
 simp only at h
 split at h
 ·rename_i id p
  split at h
  ·rename_i υ x q j bm
   cases hp:LP p q
   ·cases Co:xX p q
    ·rw[hp,Co]at h
     simp only[ar]at h
     obtain⟨υ',y,h1,e1⟩:=g7 h
     obtain⟨z,h2,e2⟩:=dK h1
     exact⟨_,_,_,h2,λH' hA K'=>by
      unfold vA;simp only;rw[hA id (by simp),bm];simp only
      rw[hp,Co];simp only[ar];rw[e1,e2]⟩
    ·rw[hp,Co]at h
     simp only[ar,ak]at h
     obtain⟨z,ups,h1,e1⟩:=Zz h
     obtain⟨υ',y,h2,e2⟩:=g7 h1
     obtain⟨z',h3,e3⟩:=dK h2
     exact⟨_,_,_,h3,λH' hA K'=>by
      unfold vA;simp only;rw[hA id (by simp),bm];simp only
      rw[hp,Co];simp only[ar,ak];rw[e1 H' (hA j (by simp)),e2,e3]⟩
   ·rw[hp]at h
    simp only[ak]at h
    obtain⟨h1,e1⟩:=eM h
    exact⟨_,_,_,h1,λH' hA K'=>by
     unfold vA;simp only;rw[hA id (by simp),bm];simp only
     rw[hp];simp only[ak];rw[e1]⟩
  ·rename_i vE
   obtain⟨z,h1,e1⟩:=VI h
   refine⟨_,_,_,h1,λH' hA K'=> ?_⟩
   unfold vA;simp only;rw[hA id (by simp)]
   split
   ·rename_i bm;exact absurd bm (vE _ _ _ _)
   ·exact e1 H' (hA id (by simp)) K'
 ·rename_i vE
  obtain⟨v,rd,ups,h1,e1⟩:=VH h
  refine⟨v,rd,ups,h1,λH' hA K'=> ?_⟩
  have:vA τ a H' K'=lf a H' fun υ y rd=>c8 υ τ y λz=>K' (.val τ z) rd []:=by
   unfold vA
   cases a<;>first|rfl|exact absurd rfl (vE _ _)
  rw[this]
  exact e1 H' hA K'
theorem Mz{τ:Ty}{id k:Nat}{e:Ty}{q:List Step}{υ:Ty}{x:υ.den}{H:Nat→Option bh}{K:jf α}(h:Cm τ id k e q υ x H K=some r):
  ∃v ups,K v [id,k] ups=some r∧ ∀H',H' k=H k→ ∀K':jf α,Cm τ id k e q υ x H' K'=K' v [id,k] ups:=by
 unfold Cm at h
 split at h
 ·rename_i bm
  obtain⟨h1,e1⟩:=kj h
  obtain⟨h2,e2⟩:=kj h1
  obtain⟨z,h3,e3⟩:=oV h2
  exact⟨_,_,h3,λH' hA K'=>by unfold Cm;rw[hA,bm];simp only;rw[e1,e2,e3]⟩
 ·cases h
theorem Bu{τ:Ty}{id:Nat}{p:List Step}{v:bD}{H:Nat→Option bh}{K:jf α}(h:mv τ (.jr id p) v H K=some r):
  ∃u rd ups,id∈rd∧K u rd ups=some r∧ ∀H',Ag rd H H'→ ∀K':jf α,mv τ (.jr id p) v H' K'=K' u rd ups:=by
 unfold mv at h
 simp only at h
 obtain⟨y,rd,ups,h1,e1⟩:=oW h
 split at h1
 ·rename_i bm
  obtain⟨z,h2,e2⟩:=oV h1
  exact⟨_,_,_,by simp,h2,λH' hA K'=>by
   unfold mv;simp only
   rw[e1 H' (λi hi=>hA i (a8 _ hi))]
   rw[hA _ (by simp),bm];simp only;rw[e2]⟩
 ·rename_i bm
  split at h1
  ·obtain⟨h2,e2⟩:=ua h1
   obtain⟨z,h3,e3⟩:=oV h2
   exact⟨_,_,_,by simp,h3,λH' hA K'=>by
    unfold mv;simp only
    rw[e1 H' (λi hi=>hA i (a8 _ hi))]
    rw[hA _ (by simp),bm];simp only;rw[e2,e3]⟩
  ·cases h1
 ·cases h1
theorem Bv{E:Env}{τ:Ty}{a v:bD}{H:Nat→Option bh}{K:jf α}(h:kf E τ a v H K=some r):
  ∃u rd ups,K u rd ups=some r∧ ∀H',Ag rd H H'→ ∀K':jf α,kf E τ a v H' K'=K' u rd ups:=by
 have h0:=h
 unfold kf at h
 simp only at h
 split at h
 ·rename_i id p
  split at h
  ·rename_i υ x bm
   split at h
   ·rename_i q e k s9
    cases hp:LP p q
    ·rw[hp]at h
     simp only[ar]at h
     obtain⟨u,rd,ups,hi,h1,e1⟩:=Bu h
     refine⟨u,rd,ups,h1,λH' hA K'=> ?_⟩
     unfold kf;simp only;rw[hA id hi,bm];simp only;rw[s9];simp only;rw[hp];simp only[ar]
     exact e1 H' hA K'
    ·rw[hp]at h
     simp only[ak]at h
     obtain⟨u,ups,h1,e1⟩:=Mz h
     refine⟨u,_,ups,h1,λH' hA K'=> ?_⟩
     unfold kf;simp only;rw[hA id (by simp),bm];simp only;rw[s9];simp only;rw[hp];simp only[ak]
     exact e1 H' (hA k (by simp)) K'
   ·rename_i vE
    obtain⟨u,rd,ups,hi,h1,e1⟩:=Bu h
    refine⟨u,rd,ups,h1,λH' hA K'=> ?_⟩
    unfold kf;simp only;rw[hA id hi,bm];simp only
    exact e1 H' hA K'
  ·rename_i υ x q j bm
   have zY:(mu true v H τ λy rd ups=>vP τ y p υ x λz=>K .any (id::rd) (ups++[(id,some (cond (xX p q) (.obj υ z) (.gk υ z q j)))]))=some r→
     ∃u rd ups,id∈rd∧K u rd ups=some r∧ ∀H',Ag rd H H'→ ∀K':jf α,(mu true v H' τ λy rd ups=>vP τ y p υ x λz=>K' .any (id::rd) (ups++[(id,some (cond (xX p q) (.obj υ z) (.gk υ z q j)))]))=K' u rd ups:=by
    intro h
    obtain⟨y,rd,ups,h1,e1⟩:=oW h
    obtain⟨z,h2,e2⟩:=oV h1
    exact⟨_,_,_,by simp,h2,λH' hA K'=>by rw[e1 H' (λi hi=>hA i (a8 _ hi)),e2]⟩
   split at h
   ·rename_i q' e k s9
    cases hp:(LP p q&&LP q q')
    ·rw[hp]at h
     simp only[ar]at h
     obtain⟨u,rd,ups,hi,h1,e1⟩:=zY h
     refine⟨u,rd,ups,h1,λH' hA K'=> ?_⟩
     unfold kf;simp only;rw[hA id hi,bm];simp only;rw[s9];simp only;rw[hp];simp only[ar]
     exact e1 H' hA K'
    ·rw[hp]at h
     simp only[ak]at h
     obtain⟨u,ups,h1,e1⟩:=Mz h
     refine⟨u,_,ups,h1,λH' hA K'=> ?_⟩
     unfold kf;simp only;rw[hA id (by simp),bm];simp only;rw[s9];simp only;rw[hp];simp only[ak]
     exact e1 H' (hA k (by simp)) K'
   ·rename_i vE
    obtain⟨u,rd,ups,hi,h1,e1⟩:=zY h
    refine⟨u,rd,ups,h1,λH' hA K'=> ?_⟩
    unfold kf;simp only;rw[hA id hi,bm];simp only
    exact e1 H' hA K'
  ·rename_i arT arU
   obtain⟨u,rd,ups,hi,h1,e1⟩:=Bu h
   refine⟨u,rd,ups,h1,λH' hA K'=> ?_⟩
   unfold kf;simp only;rw[hA id hi]
   split
   ·rename_i bm;exact absurd bm (arT _ _)
   ·rename_i bm;exact absurd bm (arU _ _ _ _)
   ·exact e1 H' hA K'
 ·rename_i vE
  obtain⟨u,rd,ups,h1,e1⟩:=Te h
  refine⟨u,rd,ups,h1,λH' hA K'=> ?_⟩
  have:kf E τ a v H' K'=mv τ a v H' K':=by
   unfold kf
   cases a<;>first|rfl|exact absurd rfl (vE _ _)
  rw[this]
  exact e1 H' hA K'
theorem Tf{E:Env}{τ:Ty}{a v:bD}{H:Nat→Option bh}{K:jf α}(h:s6 E τ a v H K=some r):
  ∃u rd ups,K u rd ups=some r∧ ∀H',Ag rd H H'→ ∀K':jf α,s6 E τ a v H' K'=K' u rd ups:=by
 unfold s6 at h
 split at h
 ·rename_i id υ y n
  split at h
  ·rename_i m e s9
   cases EZ:Nat.beq m n
   ·rw[EZ]at h
    simp only[ar]at h
    obtain⟨u,rd,ups,h1,e1⟩:=Bv h
    exact⟨u,rd,ups,h1,λH' hA K'=>by unfold s6;simp only;rw[s9];simp only;rw[EZ];simp only[ar];exact e1 H' hA K'⟩
   ·rw[EZ]at h
    simp only[ak]at h
    obtain⟨h1,e1⟩:=kj h
    obtain⟨υ',h2,e2⟩:=Bt h1
    obtain⟨h3,e3⟩:=kj h2
    obtain⟨h4,e4⟩:=xz h3
    exact⟨_,_,_,h4,λH' hA K'=>by unfold s6;simp only;rw[s9];simp only;rw[EZ];simp only[ak];rw[e1,e2 H' (hA _ (by simp)),e3,e4 H' (hA _ (by simp))]⟩
  ·rename_i vE
   obtain⟨u,rd,ups,h1,e1⟩:=Bv h
   refine⟨u,rd,ups,h1,λH' hA K'=> ?_⟩
   unfold s6;simp only
   exact e1 H' hA K'
 ·rename_i vE
  obtain⟨u,rd,ups,h1,e1⟩:=Bv h
  refine⟨u,rd,ups,h1,λH' hA K'=> ?_⟩
  unfold s6
  split
  ·exact absurd rfl (vE _ _ _ _ rfl)
  ·exact e1 H' hA K'
theorem RK{H:Nat→Option bh}{id:Nat}{τ:Ty}{x:τ.den}{q:List Step}{e:Ty}{K:jf α}(h:Dg H id τ x q e K=some r):Pts (λH K=>Dg H id τ x q e K) H K r:=by
 obtain⟨h1,h2,h3⟩:=EY h
 exact⟨_,_,_,h3,λH' hA K'=>by unfold Dg qX;simp only;rw[hA id (by simp),h1,hA (id+1) (by simp),h2]⟩
theorem aho{E:Env}{o:Oper}{ρ:Operand→bD}{H:Nat→Option bh}{K:jf α}(h:tx E o ρ H K=some r):
  ∃v rd ups,K v rd ups=some r∧ ∀ρ' H',(∀x∈o.op.operands,ρ' x=ρ x)→Ag rd H H'→ ∀K':jf α,tx E o ρ' H' K'=K' v rd ups:=by
 obtain⟨dst,op,type,pos,after,guard⟩:=o
 unfold tx at h
 simp only at h
 have ZA: ∀{ρ':Operand→bD} (xs:List Operand),(∀x∈xs,ρ' x=ρ x)→xs.map ρ'=xs.map ρ:=λxs hx=>qJ hx
 have P3: ∀{ρ':Operand→bD} (ps:Array (Nat×Operand)),(∀x∈ps.map (·.2),ρ' x=ρ x)→partsOf ρ' ps=partsOf ρ ps:=λps hp=>by
  unfold partsOf
  exact qJ λp hm=>by rw[hp p.2 (Array.mem_map.2 ⟨p,by simpa using hm,rfl⟩)]
 have ahp: ∀{ρ':Operand→bD} (x:Option Operand),(∀y∈x,ρ' y=ρ y)→x.map ρ'=x.map ρ:=λx hx=>by
  cases x with
  |none=>rfl
  |some x=>simp[hx x rfl]
 split at h
 ·
  rename_i x
  exact⟨_,_,_,h,fun ρ' H' hx _ K'=>by unfold tx;simp only;rw[hx x (by simp[Op.operands])]⟩
 ·rename_i x
  exact⟨_,_,_,h,fun ρ' H' hx _ K'=>by unfold tx;simp only;rw[hx x (by simp[Op.operands])]⟩
 ·rename_i x y z
  split at h
  ·rename_i t hx
   cases t
   ·exact⟨_,_,_,(h:K (ρ z) [] []=some r),fun ρ' H' pK _ K'=>by unfold tx;simp only;rw[pK x (by simp[Op.operands]),hx,pK z (by simp[Op.operands])];rfl⟩
   ·exact⟨_,_,_,(h:K (ρ y) [] []=some r),fun ρ' H' pK _ K'=>by unfold tx;simp only;rw[pK x (by simp[Op.operands]),hx,pK y (by simp[Op.operands])];rfl⟩
  ·cases h
 ·
  split at h
  ·rename_i τ ht
   split at h
   ·rename_i q e s9
    obtain⟨v,rd,ups,h1,e1⟩:=RK h
    exact⟨_,_,_,h1,fun ρ' H' hx hA K'=>by unfold tx;simp only;rw[ht];simp only;rw[s9];exact e1 H' hA K'⟩
   ·rename_i s9
    obtain⟨h1,e1⟩:=xz h
    exact⟨_,_,_,h1,fun ρ' H' hx hA K'=>by unfold tx;simp only;rw[ht];simp only;rw[s9];simp only;rw[e1 H' (hA _ (by simp))]⟩
  ·cases h
 ·
  rename_i t x
  split at h
  ·rename_i τ ht
   have hold:(mu true (ρ x) H τ λy rd ups=>qX H (16*dst.getD 0) (.obj τ y) (K (.jr (16*dst.getD 0) []) (16*dst.getD 0::rd) (ups++[(16*dst.getD 0,some (.obj τ y))])))=some r→
     Pts (λH K=>mu true (ρ x) H τ λy rd ups=>qX H (16*dst.getD 0) (.obj τ y) (K (.jr (16*dst.getD 0) []) (16*dst.getD 0::rd) (ups++[(16*dst.getD 0,some (.obj τ y))]))) H K r:=by
    intro h
    obtain⟨y,rd,ups,h1,e1⟩:=oW h
    obtain⟨h2,e2⟩:=xz h1
    exact⟨_,_,_,h2,λH' hA K'=>by simp only;rw[e1 H' (λi hi=>hA i (a8 _ hi)),e2 H' (hA _ (by simp))]⟩
   split at h
   ·rename_i m e υ y n s9 Lk
    cases EZ:Nat.beq m n
    ·rw[EZ]at h
     obtain⟨v,rd,ups,h1,e1⟩:=hold h
     refine⟨_,_,_,h1,fun ρ' H' hx hA K'=> ?_⟩
     unfold tx;simp only;rw[ht];simp only
     rw[hx x (by simp[Op.operands]),s9,Lk];simp only
     rw[EZ]
     have:=e1 H' hA K'
     rw[Lk]at this
     exact this
    ·rw[EZ]at h
     simp only[ak]at h
     obtain⟨z,h1,e1⟩:=dK h
     obtain⟨v,rd,ups,h2,e2⟩:=RK h1
     refine⟨_,_,_,h2,fun ρ' H' hx hA K'=> ?_⟩
     unfold tx;simp only;rw[ht];simp only
     rw[hx x (by simp[Op.operands]),s9,Lk];simp only
     rw[EZ];simp only[ak]
     rw[e1]
     exact e2 H' hA K'
   ·rename_i vE
    obtain⟨v,rd,ups,h1,e1⟩:=hold h
    refine⟨_,_,_,h1,fun ρ' H' hx hA K'=> ?_⟩
    unfold tx;simp only;rw[ht];simp only
    rw[hx x (by simp[Op.operands])]
    split
    ·rename_i s9 Lk;exact absurd Lk (vE _ _ _ _ _ s9)
    ·exact e1 H' hA K'
  ·cases h
 ·
  rename_i t ps
  split at h
  ·rename_i n e ht
   obtain⟨l,rd,ups,h1,_,e1⟩:=Fe h
   exact⟨_,_,_,h1,fun ρ' H' hx hA K'=>by unfold tx;simp only;rw[ht];simp only;rw[P3 ps (λx pK=>hx x (by simpa [Op.operands]using pK)),e1 H' hA]⟩
  ·rename_i τ hna ht
   obtain⟨h0,e0⟩:=eM h
   obtain⟨l,rd,ups,h1,_,e1⟩:=Il h0
   refine⟨_,_,_,h1,fun ρ' H' hx hA K'=> ?_⟩
   unfold tx;simp only;rw[ht]
   have: ∀{β:Type} (A:Nat→Ty→β) (B:Ty→β),(match some τ with|some (.arr n e)=>A n e|some τ=>B τ|none=>B τ)=B τ:=by
    intro β A B
    cases τ<;>first|rfl|exact absurd rfl (hna _ _)
   cases τ with
   |arr n e=>exact absurd rfl (hna n e)
   |_=>
    simp only
    rw[P3 ps (λx pK=>hx x (by simpa [Op.operands]using pK)),e0,e1 H' hA]
  ·cases h
 ·
  rename_i t n ps
  split at h
  ·rename_i e ht
   obtain⟨h0,e0⟩:=eM h
   obtain⟨h1,e1⟩:=xz h0
   obtain⟨l,rd,ups,h2,_,e2⟩:=Fe h1
   exact⟨_,_,_,h2,fun ρ' H' hx hA K'=>by
    unfold tx;simp only;rw[ht];simp only
    rw[e0,e1 H' (hA _ (by simp)),P3 ps (λx pK=>hx x (by simpa [Op.operands]using pK)),e2 H' (λi hi=>hA i (a8 _ hi))]⟩
  ·cases h
 ·
  rename_i t x
  split at h
  ·rename_i τ ht
   obtain⟨v,rd,ups,h1,e1⟩:=VJ h
   exact⟨_,_,_,h1,fun ρ' H' hx hA K'=>by unfold tx;simp only;rw[ht];simp only;rw[hx x (by simp[Op.operands]),e1 H' hA]⟩
  ·cases h
 ·
  rename_i t x y
  split at h
  ·rename_i τ ht
   obtain⟨u,rd,ups,h1,e1⟩:=Tf h
   exact⟨_,_,_,h1,fun ρ' H' hx hA K'=>by unfold tx;simp only;rw[ht];simp only;rw[hx x (by simp[Op.operands]),hx y (by simp[Op.operands]),e1 H' hA]⟩
  ·cases h
 ·
  rename_i x
  split at h
  ·rename_i id p hx
   exact⟨_,_,_,h,fun ρ' H' pK _ K'=>by unfold tx;simp only;rw[pK x (by simp[Op.operands]),hx]⟩
  ·rename_i τ z hx
   exact⟨_,_,_,h,fun ρ' H' pK _ K'=>by unfold tx;simp only;rw[pK x (by simp[Op.operands]),hx]⟩
  ·cases h
 ·
  rename_i b t x y t'
  obtain⟨τ,x1,h1,e1⟩:=RJ h
  obtain⟨υ,y1,h2,e2⟩:=RJ h1
  obtain⟨v,h3,e3⟩:=VB h2
  exact⟨_,_,_,h3,fun ρ' H' hx _ K'=>by unfold tx;simp only;rw[hx x (by simp[Op.operands]),hx y (by simp[Op.operands]),e1,e2,e3]⟩
 ·
  rename_i u t x
  obtain⟨v,h1,e1⟩:=Zw h
  exact⟨_,_,_,h1,fun ρ' H' hx _ K'=>by unfold tx;simp only;rw[hx x (by simp[Op.operands]),e1]⟩
 ·
  rename_i s d x
  split at h
  ·rename_i τ k hs hd
   obtain⟨i,n,h1,e1⟩:=sM h
   exact⟨_,_,_,h1,fun ρ' H' hx _ K'=>by unfold tx;simp only;rw[hs,hd];simp only;rw[hx x (by simp[Op.operands]),e1]⟩
  ·cases h
 ·
  rename_i f first caps
  obtain⟨h1,e1⟩:=eM h
  obtain⟨cs,rd,ups,h3,e3⟩:=Fg h1
  exact⟨_,_,_,h3,fun ρ' H' hx hA K'=>by unfold tx;simp only;rw[ZA caps.toList (λx pK=>hx x (by simp[Op.operands];exact .inr (by simpa using pK))),e1,e3 H' hA]⟩
 ·
  rename_i t x y
  split at h
  ·rename_i e ht
   obtain⟨i,n,h1,e1⟩:=sM h
   obtain⟨i',n',h2,e2⟩:=sM h1
   obtain⟨h3,e3⟩:=eM h2
   obtain⟨h4,e4⟩:=xz h3
   exact⟨_,_,_,h4,fun ρ' H' hx hA K'=>by
    unfold tx;simp only;rw[ht];simp only
    rw[hx x (by simp[Op.operands]),e1,hx y (by simp[Op.operands]),e2,e3,e4 H' (hA _ (by simp))]⟩
  ·cases h
 ·
  rename_i t x lo hi mx
  split at h
  ·rename_i τ ht
   obtain⟨v,rd,ups,h1,e1⟩:=Tc h
   exact⟨_,_,_,h1,fun ρ' H' hx hA K'=>by
    unfold tx;simp only;rw[ht];simp only
    rw[hx x (by simp[Op.operands]),ahp lo (λy hy=>hx y (by simp at hy;simp[Op.operands,hy])),ahp hi (λy hy=>hx y (by simp at hy;simp[Op.operands,hy])),ahp mx (λy hy=>hx y (by simp at hy;simp[Op.operands,hy])),e1 H' hA]⟩
  ·cases h
 ·
  rename_i t x n
  split at h
  ·rename_i τ ht
   split at h
   ·rename_i id p hx
    obtain⟨υ,h1,e1⟩:=Bt h
    obtain⟨h2,e2⟩:=kj h1
    obtain⟨υ',y',h3,e3⟩:=xy h2
    obtain⟨h4,e4⟩:=ua h3
    exact⟨_,_,_,h4,fun ρ' H' pK hA K'=>by
     unfold tx;simp only;rw[ht];simp only
     rw[pK x (by simp[Op.operands]),hx];simp only
     rw[e1 H' (hA _ (by simp)),e2,e3,e4]⟩
   ·rename_i υ z hx
    obtain⟨h2,e2⟩:=kj h
    obtain⟨υ',y',h3,e3⟩:=xy h2
    obtain⟨h4,e4⟩:=ua h3
    exact⟨_,_,_,h4,fun ρ' H' pK hA K'=>by
     unfold tx;simp only;rw[ht];simp only
     rw[pK x (by simp[Op.operands]),hx];simp only
     rw[e2,e3,e4]⟩
   ·cases h
  ·cases h
 ·
  rename_i t x n
  split at h
  ·rename_i τ ht
   split at h
   ·rename_i υ z hx
    obtain⟨h2,e2⟩:=kj h
    obtain⟨υ',y',h3,e3⟩:=xy h2
    exact⟨_,_,_,h3,fun ρ' H' pK hA K'=>by
     unfold tx;simp only;rw[ht];simp only
     rw[pK x (by simp[Op.operands]),hx];simp only
     rw[e2,e3]⟩
   ·cases h
  ·cases h
 ·
  rename_i t x i
  split at h
  ·rename_i τ ht
   obtain⟨v,rd,ups,h1,e1⟩:=HD h
   exact⟨_,_,_,h1,fun ρ' H' hx hA K'=>by unfold tx;simp only;rw[ht];simp only;rw[hx x (by simp[Op.operands]),hx i (by simp[Op.operands]),e1 H' hA]⟩
  ·cases h
 ·
  rename_i t x i
  split at h
  ·rename_i τ ht
   obtain⟨v,h1,e1⟩:=Td h
   exact⟨_,_,_,h1,fun ρ' H' hx hA K'=>by unfold tx;simp only;rw[ht];simp only;rw[hx x (by simp[Op.operands]),hx i (by simp[Op.operands]),e1]⟩
  ·cases h
 ·
  rename_i x i
  split at h
  ·rename_i vs hx
   split at h
   ·rename_i v hv
    exact⟨_,_,_,h,fun ρ' H' pK hA K'=>by unfold tx;simp only;rw[pK x (by simp[Op.operands]),hx];simp only;rw[hv]⟩
   ·cases h
  ·cases h
 ·
  rename_i cl
  obtain⟨callee,args,ts⟩:=cl
  simp only at h
  have yi: ∀{ρ':Operand→bD},(∀x∈(Op.call {callee,args,argTypes:=ts}).operands,ρ' x=ρ x)→ ∀x∈args.toList,ρ' x=ρ x:=
   λhx x pK=>hx x (by simp[Op.operands,Call.operands];exact .inr (by simpa using pK))
  split at h
  ·split at h
   ·rename_i x τ ha ht
    obtain⟨v,rd,ups,h1,e1⟩:=Zx h
    exact⟨_,_,_,h1,fun ρ' H' hx hA K'=>by unfold tx;simp only;rw[ha,ht];simp only;rw[yi hx x (by rw[ha];simp),e1 H' hA]⟩
   ·cases h
  ·split at h
   ·rename_i x y t t' ha ht
    split at h
    ·rename_i e hte
     obtain⟨h1,e1⟩:=eM h
     obtain⟨h2,e2⟩:=xz h1
     obtain⟨v,rd,ups,h3,bm,e3⟩:=Zy h2
     exact⟨_,_,_,h3,fun ρ' H' hx hA K'=>by
      unfold tx;simp only;rw[ha,ht];simp only;rw[hte];simp only
      rw[e1,e2 H' (hA _ bm),yi hx x (by rw[ha];simp),yi hx y (by rw[ha];simp),e3 H' hA]⟩
    ·cases h
   ·cases h
  ·split at h
   ·rename_i x xs ha
    obtain⟨v,h1,e1⟩:=P2 h
    exact⟨_,_,_,h1,fun ρ' H' hx hA K'=>by
     unfold tx;simp only;rw[ha];simp only
     rw[yi hx x (by rw[ha];simp),ZA xs (λy hy=>yi hx y (by rw[ha];simp[hy])),e1]⟩
   ·cases h
  ·split at h
   ·rename_i x xs ha
    obtain⟨v,h1,e1⟩:=P2 h
    exact⟨_,_,_,h1,fun ρ' H' hx hA K'=>by
     unfold tx;simp only;rw[ha];simp only
     rw[yi hx x (by rw[ha];simp),ZA xs (λy hy=>yi hx y (by rw[ha];simp[hy])),e1]⟩
   ·cases h
  ·rename_i g
   split at h
   ·rename_i f caps hg
    obtain⟨v,rd,ups,h1,e1⟩:=VF h
    exact⟨_,_,_,h1,fun ρ' H' hx hA K'=>by
     unfold tx;simp only
     rw[hx g (by simp[Op.operands,Call.operands]),hg];simp only
     rw[ZA args.toList (yi hx),e1 H' hA]⟩
   ·cases h
  ·cases h
 ·cases h
end VM
end
section
namespace VM
open Go
variable{P:Program}{E:Env}{o:Oper}{a:Act}{w:World}{M:Nat→Prop}{ν:Nat→Value}{σ:St}{c:Ctx}{α:Type}{r:α}{next:Act→World→Prop}{Q:Exit→Act→World→Prop}
structure Out where
 dst:Option Nat
 v:bD
 rd:List Nat
 ups:ja
def Out.app(u:Out)(σ:St):St:=(σ.wx u.ups).vO u.dst u.v
theorem MA(σ:St)(d:Nat)(v:bD):(σ.vO (some d) v).T d=v:=uW σ d v
theorem Tg(σ:St){d:Option Nat}{t:Nat}(v:bD)(h:d≠some t):(σ.vO d v).T t=σ.T t:=by
 cases d with
 |none=>rfl
 |some d=>exact Ab σ v (λe=>h (by rw[e]))
theorem ahq(σ:St)(d:Option Nat)(v:bD):(σ.vO d v).H=σ.H:=by cases d<;>rfl
theorem P4{u:Out}{t:Nat}(h:u.dst=some t)(σ:St):(u.app σ).T t=u.v:=by unfold Out.app;rw[h];exact MA _ _ _
theorem VK{u:Out}{t:Nat}(h:u.dst≠some t)(σ:St):(u.app σ).T t=σ.T t:=by unfold Out.app;rw[Tg _ _ h,PV]
theorem amm(u:Out)(σ:St):(u.app σ).H=cY σ.H u.ups:=by unfold Out.app;rw[ahq,PU]
def Pt(E:Env)(ops:List Oper)(o:Oper)(σ:St)(u:Out)(α:Type):Prop:=
 u.dst=o.dst∧ ∀σ':St,(∀t∈names ops o,σ'.T t=σ.T t)→Ag u.rd σ.H σ'.H→ ∀K':St→List Nat→List Nat→Option α,tO E ops o σ' K'=K' (u.app σ') u.rd (u.ups.map (·.1))
theorem VL{ops:List Oper}{K:St→List Nat→List Nat→Option α}(h:tO E ops o σ K=some r): ∃u:Out,K (u.app σ) u.rd (u.ups.map (·.1))=some r∧Pt E ops o σ u α:=by
 unfold tO at h
 obtain⟨h,e0⟩:=eM h
 have arV: ∀σ':St,(∀t∈names ops o,σ'.T t=σ.T t)→ ∀x∈o.op.operands,σ'.ρ x=σ.ρ x:=by
  intro σ' hT x hx
  cases x with
  |tmp t=>
   refine hT t ?_
   unfold names
   refine cQ _ (List.mem_filterMap.2 ⟨.tmp t,by simpa using hx,rfl⟩)
  |_=>rfl
 have dJ:tx E o σ.ρ σ.H (λv rd ups=>K ((σ.wx ups).vO o.dst v) rd (ups.map (·.1)))=some r→
   ∃u:Out,K (u.app σ) u.rd (u.ups.map (·.1))=some r∧u.dst=o.dst∧ ∀σ':St,(∀t∈names ops o,σ'.T t=σ.T t)→Ag u.rd σ.H σ'.H→ ∀K':St→List Nat→List Nat→Option α,
    tx E o σ'.ρ σ'.H (λv rd ups=>K' ((σ'.wx ups).vO o.dst v) rd (ups.map (·.1)))=K' (u.app σ') u.rd (u.ups.map (·.1)):=by
  intro h
  obtain⟨v,rd,ups,h1,h2⟩:=aho h
  exact⟨⟨o.dst,v,rd,ups⟩,h1,rfl,fun σ' hT hA K'=>h2 σ'.ρ σ'.H (arV σ' hT) hA _⟩
 have sL: ∀{K:St→List Nat→List Nat→Option α},K (σ.vO o.dst .Vc) [] []=some r→ ∃u:Out,K (u.app σ) u.rd (u.ups.map (·.1))=some r∧u.dst=o.dst∧ ∀σ':St,∀K':St→List Nat→List Nat→Option α,K' (σ'.vO o.dst .Vc) [] []=K' (u.app σ') u.rd (u.ups.map (·.1)):=
  λh=>⟨⟨o.dst,.Vc,[],[]⟩,h,rfl,λ_ _=>rfl⟩
 simp only at h
 split at h
 ·rename_i hg
  obtain⟨u,h1,h2,h3⟩:=dJ h
  refine⟨u,h1,h2,fun σ' hT hA K'=> ?_⟩
  unfold tO
  rw[e0]
  simp only
  rw[hg]
  exact h3 σ' hT hA K'
 ·rename_i j want hg
  split at h
  ·cases h
  ·rename_i t ht
   have Th:t∈names ops o:=by
    unfold names
    refine dD _ ?_
    rw[hg]
    simp[ht]
   split at h
   ·rename_i b hb
    have pX: ∀σ':St,σ'.T t=σ.T t→σ'.put t (.val .bool b)=σ':=fun σ' h'=>by
     rw[←hb,←h'];exact E9 σ' t
    cases want<;>cases b
    ·obtain⟨u,h1,h2,h3⟩:=dJ (by
      have:=pX σ rfl
      rw[this]at h;exact h)
     refine⟨u,h1,h2,fun σ' hT hA K'=> ?_⟩
     unfold tO
     rw[e0];simp only;rw[hg];simp only;rw[ht];simp only;rw[hT t Th,hb];simp only
     rw[pX σ' (hT t Th)]
     exact h3 σ' hT hA K'
    ·obtain⟨u,h1,h2,h3⟩:=sL (by
      have:=pX σ rfl
      rw[this]at h;exact h)
     refine⟨u,h1,h2,fun σ' hT hA K'=> ?_⟩
     unfold tO
     rw[e0];simp only;rw[hg];simp only;rw[ht];simp only;rw[hT t Th,hb];simp only
     rw[pX σ' (hT t Th)]
     exact h3 σ' K'
    ·obtain⟨u,h1,h2,h3⟩:=sL (by
      have:=pX σ rfl
      rw[this]at h;exact h)
     refine⟨u,h1,h2,fun σ' hT hA K'=> ?_⟩
     unfold tO
     rw[e0];simp only;rw[hg];simp only;rw[ht];simp only;rw[hT t Th,hb];simp only
     rw[pX σ' (hT t Th)]
     exact h3 σ' K'
    ·obtain⟨u,h1,h2,h3⟩:=dJ (by
      have:=pX σ rfl
      rw[this]at h;exact h)
     refine⟨u,h1,h2,fun σ' hT hA K'=> ?_⟩
     unfold tO
     rw[e0];simp only;rw[hg];simp only;rw[ht];simp only;rw[hT t Th,hb];simp only
     rw[pX σ' (hT t Th)]
     exact h3 σ' hT hA K'
   ·rename_i hb
    obtain⟨u,h1,h2,h3⟩:=sL h
    refine⟨u,h1,h2,fun σ' hT hA K'=> ?_⟩
    unfold tO
    rw[e0];simp only;rw[hg];simp only;rw[ht];simp only;rw[hT t Th,hb]
    exact h3 σ' K'
   ·cases h
theorem RL{ops:List Oper}: ∀(l:List Oper) (i:Nat) (σ:St) (lg:Log) (K:St→Log→Option α),SP E ops l i σ lg K=some r→
  ∃us:List Out,us.length=l.length∧(∀j u o,us[j]? =some u→l[j]? =some o→Pt E ops o ((us.take j).foldl (fun σ u=>u.app σ) σ) u α)∧
   ∃lg',K (us.foldl (fun σ u=>u.app σ) σ) lg'=some r∧(∀x∈lg,x∈lg')∧ ∀j u,us[j]? =some u→(i+j,u.rd,u.ups.map (·.1))∈lg'
 |[],i,σ,lg,K,h=>⟨[],rfl,λj u o hj=>by simp at hj,lg,h,λ_ h=>h,λj u hj=>by simp at hj⟩
 |o::l,i,σ,lg,K,h=>by
  unfold SP at h
  obtain⟨u,h1,h2⟩:=VL h
  obtain⟨us,hl,hpt,lg',hK,YQ,hj⟩:=RL l (i+1) (u.app σ) _ K h1
  refine⟨u::us,by simp[hl],λj u' o' hu ho=> ?_,lg',hK,λx hx=>YQ x (a8 _ hx),λj u' hu=> ?_⟩
  ·cases j with
   |zero=>simp at hu ho;subst hu ho;exact h2
   |succ j=>exact hpt j u' o' (by simpa using hu) (by simpa using ho)
  ·cases j with
   |zero=>simp at hu;subst hu;exact YQ _ bp
   |succ j=>
    have:=hj j u' (by simpa using hu)
    rwa [show i+1+j=i+(j+1)from by omega]at this
theorem Ti{k:Nat}{ups:ja}(h:k∈keys ups)(H H':Nat→Option bh):cY H ups k=cY H' ups k:=by
 induction ups generalizing H H' with
 |nil=>simp[keys]at h
 |cons u r ih=>
  show cY (bT H u.1 u.2) r k=cY (bT H' u.1 u.2) r k
  by_cases hk:k∈keys r
  ·exact ih hk _ _
  ·have hku:k=u.1:=by
    simp only[keys,bR,aX]at h hk
    exact h.resolve_right hk
   rw[lN hk,lN hk,hku,ay,ay]
structure pb(us:List Out)(σ0:St)(S:Nat→Prop)(σ:St):Prop where
 T: ∀t,(∃j u,us[j]? =some u∧S j∧u.dst=some t∧(∀j' u',us[j']? =some u'→S j'→u'.dst=some t→j'≤j)∧σ.T t=u.v)∨((∀j u,us[j]? =some u→S j→u.dst≠some t)∧σ.T t=σ0.T t)
 H: ∀k,(∃j u,us[j]? =some u∧S j∧k∈keys u.ups∧(∀j' u',us[j']? =some u'→S j'→k∈keys u'.ups→j'≤j)∧σ.H k=cY σ0.H u.ups k)∨((∀j u,us[j]? =some u→S j→k∉keys u.ups)∧σ.H k=σ0.H k)
theorem pb.VN{us:List Out}{σ0 σ σ':St}{S S':Nat→Prop}(h:pb us σ0 S σ)(h':pb us σ0 S' σ'){t:Nat}(hs: ∀j u,us[j]? =some u→u.dst=some t→(S j↔S' j)):σ.T t=σ'.T t:=by
 rcases h.T t with⟨j,u,h1,h2,h3,h4,h5⟩|⟨h1,h2⟩<;>rcases h'.T t with⟨j',u',p8,yz,P5,h4',h5'⟩|⟨p8,yz⟩
 ·have e1:=h4 j' u' p8 ((hs j' u' p8 P5).2 yz) P5
  have e2:=h4' j u h1 ((hs j u h1 h3).1 h2) h3
  have:j=j':=ω
  subst this
  rw[h1]at p8;cases p8
  rw[h5,h5']
 ·exact absurd h3 (p8 j u h1 ((hs j u h1 h3).1 h2))
 ·exact absurd P5 (h1 j' u' p8 ((hs j' u' p8 P5).2 yz))
 ·rw[h2,yz]
theorem pb.VO{us:List Out}{σ0 σ σ':St}{S S':Nat→Prop}(h:pb us σ0 S σ)(h':pb us σ0 S' σ'){k:Nat}(hs: ∀j u,us[j]? =some u→k∈keys u.ups→(S j↔S' j)):σ.H k=σ'.H k:=by
 rcases h.H k with⟨j,u,h1,h2,h3,h4,h5⟩|⟨h1,h2⟩<;>rcases h'.H k with⟨j',u',p8,yz,P5,h4',h5'⟩|⟨p8,yz⟩
 ·have e1:=h4 j' u' p8 ((hs j' u' p8 P5).2 yz) P5
  have e2:=h4' j u h1 ((hs j u h1 h3).1 h2) h3
  have:j=j':=ω
  subst this
  rw[h1]at p8;cases p8
  rw[h5,h5']
 ·exact absurd h3 (p8 j u h1 ((hs j u h1 h3).1 h2))
 ·exact absurd P5 (h1 j' u' p8 ((hs j' u' p8 P5).2 yz))
 ·rw[h2,yz]
theorem pb.unique{us:List Out}{σ0 σ σ':St}{S S':Nat→Prop}(h:pb us σ0 S σ)(h':pb us σ0 S' σ')(hs: ∀j u,us[j]? =some u→(S j↔S' j)):σ=σ':=by
 obtain⟨T,H⟩:=σ
 obtain⟨T',H'⟩:=σ'
 congr 1
 ·funext t;exact h.VN h' (λj u hj _=>hs j u hj)
 ·funext k;exact h.VO h' (λj u hj _=>hs j u hj)
theorem pb.step{us:List Out}{σ0 σ:St}{S:Nat→Prop}(h:pb us σ0 S σ){i:Nat}{u:Out}(hi:us[i]? =some u)(hc: ∀j u',us[j]? =some u'→S j→i<j→(∀t,u.dst=some t→u'.dst≠some t)∧ ∀k∈keys u.ups,k∉keys u'.ups):
  pb us σ0 (λj=>j=i∨S j) (u.app σ):=by
 refine⟨λt=> ?_,λk=> ?_⟩
 ·by_cases hd:u.dst=some t
  ·left
   refine⟨i,u,hi,.inl rfl,hd,λj' u' h1 h2 h3=> ?_,P4 hd σ⟩
   rcases h2 with rfl|h2
   ·exact aI _
   ·exact Nat.le_of_not_lt λfA=>(hc j' u' h1 h2 fA).1 t hd h3
  ·rw[VK hd]
   rcases h.T t with⟨j,u1,h1,h2,h3,h4,h5⟩|⟨h1,h2⟩
   ·refine .inl ⟨j,u1,h1,.inr h2,h3,λj' u' p8 yz P5=> ?_,h5⟩
    rcases yz with rfl|yz
    ·rw[hi]at p8;cases p8;exact absurd P5 hd
    ·exact h4 j' u' p8 yz P5
   ·refine .inr ⟨λj u' p8 yz=> ?_,h2⟩
    rcases yz with rfl|yz
    ·rw[hi]at p8;cases p8;exact hd
    ·exact h1 j u' p8 yz
 ·rw[amm]
  by_cases hd:k∈keys u.ups
  ·left
   refine⟨i,u,hi,.inl rfl,hd,λj' u' h1 h2 h3=> ?_,Ti hd _ _⟩
   rcases h2 with rfl|h2
   ·exact aI _
   ·exact Nat.le_of_not_lt λfA=>(hc j' u' h1 h2 fA).2 k hd h3
  ·rw[lN hd]
   rcases h.H k with⟨j,u1,h1,h2,h3,h4,h5⟩|⟨h1,h2⟩
   ·refine .inl ⟨j,u1,h1,.inr h2,h3,λj' u' p8 yz P5=> ?_,h5⟩
    rcases yz with rfl|yz
    ·rw[hi]at p8;cases p8;exact absurd P5 hd
    ·exact h4 j' u' p8 yz P5
   ·refine .inr ⟨λj u' p8 yz=> ?_,h2⟩
    rcases yz with rfl|yz
    ·rw[hi]at p8;cases p8;exact hd
    ·exact h1 j u' p8 yz
theorem pb.start(us:List Out)(σ0:St):pb us σ0 (λ_=>False) σ0:=⟨λt=> .inr ⟨λ_ _ _ h=>h.elim,rfl⟩,λk=> .inr ⟨λ_ _ _ h=>h.elim,rfl⟩⟩
theorem pb.congr{us:List Out}{σ0 σ:St}{S S':Nat→Prop}(h:pb us σ0 S σ)(hs: ∀j,S j↔S' j):pb us σ0 S' σ:=by
 have:S=S':=funext λj=>propext (hs j)
 rw[←this];exact h
theorem pb.text(us:List Out)(σ0:St): ∀i,i≤us.length→pb us σ0 (λj=>j<i) ((us.take i).foldl (fun σ u=>u.app σ) σ0)
 |0,_=>(pb.start us σ0).congr λj=>by simp
 |i+1,hi=>by
  have ih:=pb.text us σ0 i ω
  have hu:us[i]? =some us[i]:=bl ω
  have:=ih.step hu (λj u' _ h2 h3=>ω)
  rw[List.take_add_one,hu,List.foldl_append]
  exact this.congr λj=>by constructor<;>intro h<;>omega
end VM
end
section
namespace VM
open Go
variable{P:Program}{E:Env}{o:Oper}{a:Act}{w:World}{M:Nat→Prop}{ν:Nat→Value}{σ:St}{c:Ctx}{α:Type}{r:α}{next:Act→World→Prop}{Q:Exit→Act→World→Prop}
def Pre(S:Nat→Prop)(o:Oper):Prop:= ∀e∈o.after,Region.binds .any e=true→S e.on
theorem Fh{β:Type}{l m:List β}{i:Nat}{d:β}(h:i<l.length):(l++m).getD i d=l.getD i d:=by
 simp only[List.getD,sC h]
theorem Fi{β:Type}{l:List β}{x d:β}:(l++[x]).getD l.length d=x:=by
 simp[List.getD]
theorem CB{acc:List Nat}{i:Nat}: ∀(es:List Edge) (s:Nat),(es.foldl (λs e=>cond (Region.binds .any e) (s|||2^e.on|||acc.getD e.on 0) s) s).testBit i=true→
  s.testBit i=true∨ ∃e∈es,Region.binds .any e=true∧(i=e.on∨(acc.getD e.on 0).testBit i=true)
 |[],s,h=> .inl h
 |e::es,s,h=>by
  rw[List.foldl_cons]at h
  rcases CB es _ h with h1|⟨e',h1,h2⟩
  ·cases hb:Region.binds .any e
   ·rw[hb]at h1;exact .inl h1
   ·rw[hb]at h1
    simp only[ak,Nat.testBit_or,nk]at h1
    rcases h1 with(h1|h1)|h1
    ·exact .inl h1
    ·refine .inr ⟨e,bp,hb,.inl ?_⟩
     rw[Nat.testBit_two_pow]at h1
     simpa using (bF h1).symm
    ·exact .inr ⟨e,bp,hb,.inr h1⟩
  ·exact .inr ⟨e',a8 _ h1,h2⟩
theorem CC{S:Nat→Prop}: ∀(l:List Oper) (acc:List Nat) (all:List Oper),all.length=acc.length+l.length→(∀j,l[j]? =all[acc.length+j]?)→
  (∀j o,all[j]? =some o→S j→Pre S o)→(∀j i,j<acc.length→S j→(acc.getD j 0).testBit i=true→S i)→
  ∀j o i,all[j]? =some o→(Pre S o∨S j)→((s7 l acc).getD j 0).testBit i=true→(j<acc.length→ ∀i,Pre S o→(acc.getD j 0).testBit i=true→S i)→S i
 |[],acc,all,hl,lM,hS,ZB,j,o,i,hj,MB,hb,VP=>by
  have fA:j<all.length:=(uK.1 hj).1
  have wL:j<acc.length:=by simp at hl;omega
  rcases MB with hp|hp
  ·exact VP wL i hp hb
  ·exact ZB j i wL hp hb
 |p::l,acc,all,hl,lM,hS,ZB,j,o,i,hj,MB,hb,VP=>by
  unfold s7 at hb
  have U0:all[acc.length]? =some p:=by rw[←nr acc.length,←lM 0];rfl
  have ZC: ∀i,Pre S p→(p.after.toList.foldl (λs e=>cond (Region.binds .any e) (s|||2^e.on|||acc.getD e.on 0) s) 0).testBit i=true→S i:=by
   intro i Co hb
   rcases CB p.after.toList 0 hb with h1|⟨e,he,hbe,h1⟩
   ·simp at h1
   ·have hSe:=Co e (by simpa using he) hbe
    rcases h1 with rfl|h1
    ·exact hSe
    ·by_cases fA:e.on<acc.length
     ·exact ZB e.on i fA hSe h1
     ·rw[List.getD,gP ω]at h1;simp at h1
  refine CC l (acc++[p.after.toList.foldl (λs e=>cond (Region.binds .any e) (s|||2^e.on|||acc.getD e.on 0) s) 0]) all (by simp at hl ⊢;omega) (λj=> ?_) hS (λj' i' YP hS' ff=> ?_) j o i hj MB hb (λfA i' H6 ff=> ?_)
  ·have:=lM (j+1)
   simp only[List.getElem?_cons_succ]at this
   rw[this]
   congr 1
   simp;omega
  ·by_cases fA:j'<acc.length
   ·rw[Fh fA]at ff
    exact ZB j' i' fA hS' ff
   ·have hje:j'=acc.length:=by simp at YP;omega
    subst hje
    rw[Fi]at ff
    exact ZC i' (hS _ p U0 hS') ff
  ·by_cases wL:j<acc.length
   ·rw[Fh wL]at ff
    exact VP wL i' H6 ff
   ·have hje:j=acc.length:=by simp at fA;omega
    subst hje
    rw[U0]at hj;cases hj
    rw[Fi]at ff
    exact ZC i' H6 ff
theorem forced{ops:List Oper}{S:Nat→Prop}(hS: ∀j o,ops[j]? =some o→S j→Pre S o){j i:Nat}(hj:ops[j]? =some o)(MB:Pre S o∨S j)(hb:((s7 ops []).getD j 0).testBit i=true):S i:=
 CC ops [] ops (by simp) (λj=>by simp) hS (λj i h=>by simp at h) j o i hj MB hb (λh=>by simp at h)
theorem mK{l m:List Nat}(h:meets l m=false){x:Nat}(h1:x∈l)(h2:x∈m):False:=by
 have:meets l m=true:=by
  unfold meets
  rw[zA]
  refine⟨x,h1,?_⟩
  rw[zA]
  exact⟨x,h2,tK x⟩
 rw[h]at this;cases this
structure Rnd(c:Ctx)(E:Env)(ops:Array Oper)(us:List Out)(σ0:St)(listed:Array Bool)(a:Act)(w:World):Prop where
 size:listed.size=ops.size
 closed: ∀j o,ops.toList[j]? =some o→listed.getD j false=true→Pre (λi=>listed.getD i false=true) o
 st: ∃σ,pb us σ0 (λj=>listed.getD j false=true) σ∧Inv c E σ a w
theorem yO{listed:Array Bool}{j:Nat}(h:j<listed.size)(d:Bool):listed.getD j d=listed.getD j false:=by
 simp[Array.getD,h]
theorem J0(hE:tZ P E){ops:Array Oper}{us:List Out}{σ0 σn:St}{α:Type}(x0:α)(hl:us.length=ops.toList.length)
  (hpt: ∀(j:Nat) (u:Out) (o:Oper),us[j]? =some u→ops.toList[j]? =some o→Pt E ops.toList o ((us.take j).foldl (fun σ u=>u.app σ) σ0) u α)
  (hn:σn=us.foldl (fun σ u=>u.app σ) σ0)
  (fA: ∀(j:Nat) (o:Oper),ops.toList[j]? =some o→ ∀e∈o.after,Region.binds .any e=true→e.on<j)
  (MC: ∀(j:Nat) (o:Oper) (i:Nat) (p:Oper),ops.toList[j]? =some o→ops.toList[i]? =some p→i<j→((s7 ops.toList []).getD j 0).testBit i=false→
   (∀d,p.dst=some d→o.dst≠some d∧d∉names ops.toList o)∧(∀d,o.dst=some d→d∉names ops.toList p))
  (YQ: ∀(j:Nat) (u:Out) (i:Nat) (v:Out),us[j]? =some u→us[i]? =some v→i<j→((s7 ops.toList []).getD j 0).testBit i=false→
   (∀k∈keys v.ups,k∉u.rd∧k∉keys u.ups)∧(∀k∈v.rd,k∉keys u.ups))
  (hq: ∀a' w',Inv c E σn a' w'→Q .normal a' w'):
  ∀(fuel:Nat) (listed:Array Bool) (a:Act) (w:World),((List.range ops.size).filter λj=> !(listed.getD j false)).length≤fuel→Rnd c E ops us σ0 listed a w→wpAny P .any ops Q fuel listed a w:=by
 have lM: ∀(listed:Array Bool) (a:Act) (w:World),Rnd c E ops us σ0 listed a w→Region.ready .any ops listed=[]→Q .normal a w:=by
  intro listed a w hR ahs
  obtain⟨hs,Ma,σ,EV,hI⟩:=hR
  have amo: ∀j,j<ops.size→listed.getD j false=true:=by
   intro j
   induction j using Nat.strongRecOn with
   |_ j ih=>
    intro hj
    by_cases hb:listed.getD j false=true
    ·exact hb
    ·exfalso
     have ho:ops[j]? =some ops[j]:=LB hj
     have:j∈Region.ready .any ops listed:=by
      rw[mem_ready]
      refine⟨by rw[yO ω];simpa using hb,_,ho,λe he hbe=> ?_⟩
      have hej:=fA j ops[j] (by rw[gY];exact ho) e he hbe
      exact ih e.on hej ω
     rw[ahs]at this
     cases this
  have hσ:σ=σn:=by
   rw[hn]
   have ht:=pb.text us σ0 us.length (aI _)
   rw[iD]at ht
   refine EV.unique ht λj u hj=> ?_
   have Hg:j<us.length:=(uK.1 hj).1
   have hjo:j<ops.size:=by rw[hl,bJ]at Hg;exact Hg
   exact⟨λ_=>Hg,λ_=>amo j hjo⟩
  exact hq a w (hσ▸hI)
 intro fuel
 induction fuel with
 |zero=>
  intro listed a w hf hR
  have ZD:Region.ready .any ops listed=[]:=by
   rw[Lu]
   intro j hj
   rw[mem_ready]at hj
   obtain⟨h0,o,ho,_⟩:=hj
   have hjs:j<ops.size:=(kI.1 ho).1
   have Hg:j<listed.size:=by rw[hR.size];exact hjs
   rw[yO Hg]at h0
   have jX:j∈(List.range ops.size).filter λj=> !(listed.getD j false):=by
    rw[wj];exact⟨qR.2 hjs,by rw[h0];rfl⟩
   have:((List.range ops.size).filter λj=> !(listed.getD j false))=[]:=uI ω
   rw[this]at jX;cases jX
  exact⟨ZD,lM listed a w hR ZD⟩
 |succ fuel ih=>
  intro listed a w hf hR
  refine⟨lM listed a w hR,λi hi=> ?_⟩
  have lA:=hi
  rw[mem_ready]at lA
  obtain⟨h0,o,ho,MB⟩:=lA
  have his:i<ops.size:=(kI.1 ho).1
  have Ht:i<listed.size:=by rw[hR.size];exact his
  rw[yO Ht]at h0
  obtain⟨hs,Ma,σ,EV,hI⟩:=hR
  have Im:ops.toList[i]? =some o:=by rw[gY];exact ho
  have hiu:i<us.length:=by rw[hl,bJ];exact his
  have hu:us[i]? =some us[i]:=bl hiu
  have hPt:=hpt i us[i] o hu Im
  have hSi: ¬listed.getD i false=true:=by rw[h0];simp
  have MD: ∀j p,ops.toList[j]? =some p→((j<i∧ ¬listed.getD j false=true)→((s7 ops.toList []).getD i 0).testBit j=false)∧((i<j∧listed.getD j false=true)→((s7 ops.toList []).getD j 0).testBit i=false):=by
   intro j p hj
   refine⟨λ⟨_,h2⟩=> ?_,λ⟨_,h2⟩=> ?_⟩
   ·rw[←qN]
    intro hb
    exact h2 (forced Ma Im (.inl MB) hb)
   ·rw[←qN]
    intro hb
    exact hSi (forced Ma hj (.inr h2) hb)
  have VQ: ∀(j:Nat) (u:Out),us[j]? =some u→ ∃p:Oper,ops.toList[j]? =some p∧u.dst=p.dst:=by
   intro j u hj
   have Hg:j<us.length:=(uK.1 hj).1
   have hp:ops.toList[j]? =some ops.toList[j]:=bl ω
   exact⟨_,hp,(hpt j u _ hj hp).1⟩
  have afM:=pb.text us σ0 i ω
  have hT: ∀t∈names ops.toList o,σ.T t=((us.take i).foldl (fun σ u=>u.app σ) σ0).T t:=by
   intro t ht
   refine EV.VN afM λj u hj hd=> ?_
   obtain⟨p,hp,hpd⟩:=VQ j u hj
   have hpd:p.dst=some t:=by rw[←hpd,hd]
   constructor
   ·intro ME
    refine Nat.lt_of_not_le λhle=> ?_
    rcases Nat.lt_or_eq_of_le hle with wL|heq
    ·exact(MC j p i o hp Im wL ((MD j p hp).2 ⟨wL,ME⟩)).2 t hpd ht
    ·subst heq;exact hSi ME
   ·intro yP
    by_cases ME:listed.getD j false=true
    ·exact ME
    ·exact absurd ht ((MC i o j p Im hp yP ((MD j p hp).1 ⟨yP,ME⟩)).1 t hpd).2
  have hH:Ag us[i].rd ((us.take i).foldl (fun σ u=>u.app σ) σ0).H σ.H:=by
   intro k hk
   refine EV.VO afM λj u hj hd=> ?_
   obtain⟨p,hp,hpd⟩:=VQ j u hj
   constructor
   ·intro ME
    refine Nat.lt_of_not_le λhle=> ?_
    rcases Nat.lt_or_eq_of_le hle with wL|heq
    ·exact(YQ j u i us[i] hj hu wL ((MD j p hp).2 ⟨wL,ME⟩)).2 k hk hd
    ·subst heq;exact hSi ME
   ·intro yP
    by_cases ME:listed.getD j false=true
    ·exact ME
    ·exact absurd hk ((YQ i us[i] j u hu hj yP ((MD j p hp).1 ⟨yP,ME⟩)).1 k hd).1
  have amp:=hPt.2 σ hT hH
  have hIs:pb us σ0 (λj=>j=i∨listed.getD j false=true) (us[i].app σ):=by
   refine EV.step hu λj u hj ME pF=> ?_
   obtain⟨p,hp,hpd⟩:=VQ j u hj
   have Du:=(MD j p hp).2 ⟨pF,ME⟩
   obtain⟨h1,h2⟩:=MC j p i o hp Im pF Du
   obtain⟨h3,h4⟩:=YQ j u i us[i] hj hu pF Du
   refine⟨λt ht=> ?_,λk hk=>(h3 k hk).2⟩
   rw[hpd]
   exact(h1 t (by rw[←hPt.1];exact ht)).1
  have Ac: ∀j,(listed.setIfInBounds i true).getD j false=true↔(j=i∨listed.getD j false=true):=by
   intro j
   by_cases yP:j=i
   ·subst yP
    constructor
    ·intro _;exact .inl rfl
    ·intro _;simp[Ht]
   ·rw[getD_set_ne false (eU yP)]
    exact⟨.inr,λh=>h.resolve_left yP⟩
  classical
  let K':St→List Nat→List Nat→Option α:=fun σ' _ _=>if σ'=us[i].app σ then some x0 else none
  have hK:tO E ops.toList o σ K'=some x0:=by rw[amp K'];simp[K']
  have:=CA (Q:=Q) (next:=wpAny P .any ops Q fuel (listed.setIfInBounds i true)) hE hI hK (fun σ' a' w' rd wr hσ' yw=>by
   have ar1:σ'=us[i].app σ:=by
    by_cases h:σ'=us[i].app σ
    ·exact h
    ·simp[K',h]at hσ'
   subst ar1
   refine ih _ a' w' ?_ ⟨by simpa using hs,λj p hp ME e he hb=> ?_,_,hIs.congr (λj=>(Ac j).symm),yw⟩
   ·have hlen:((List.range ops.size).filter λj=> !((listed.setIfInBounds i true).getD j false)).length<((List.range ops.size).filter λj=> !(listed.getD j false)).length:=by
     have S7:((List.range ops.size).filter λj=> !((listed.setIfInBounds i true).getD j false))=((List.range ops.size).filter λj=> !(listed.getD j false)).filter λj=> !(Nat.beq j i):=by
      rw[List.filter_filter]
      apply List.filter_congr
      intro j _
      by_cases yP:j=i
      ·subst yP
       have h1:=(Ac j).2 (.inl rfl)
       rw[h1];simp
      ·have h1:Nat.beq j i=false:=by rw[←qN,wv];exact yP
       rw[h1,getD_set_ne false (eU yP)];simp
     rw[S7]
     refine List.length_filter_lt_length_iff_exists.2 ⟨i,?_,by simp⟩
     rw[wj];exact⟨qR.2 his,by rw[h0];rfl⟩
    omega
   ·rcases(Ac j).1 ME with rfl|ME
    ·rw[Im]at hp;cases hp
     exact(Ac _).2 (.inr (MB e he hb))
    ·exact(Ac _).2 (.inr (Ma j p hp ME e he hb)))
  unfold wpOp
  rw[ho]
  simp only
  split
  ·rename_i hw;rw[aj hw]at this;exact .inl this
  ·rename_i hw;rw[ah hw]at this;exact this
theorem HE(hE:tZ P E){id:Nat}{ops:Array Oper}{draw:Bool}(hI:Inv c E σ a w){K:St→Option α}(h:DX E ops draw σ K=some r)
  (hn: ∀σ' a' w',K σ'=some r→Inv c E σ' a' w'→Q .normal a' w'):(Code.region id ops draw).wp P Q a w:=by
 cases draw
 ·refine wp_region_list (Fa hE ops.toList 0 σ [] a w _ hI h fun σ' lg' a' w' h' yw=> ?_)
  exact hn σ' a' w' (cB h').2 yw
 ·unfold DX at h
  obtain⟨us,hl,hpt,lg,hK,_,amq⟩:=RL _ _ _ _ _ h
  obtain⟨hok,hK⟩:=cB hK
  simp only[aY,tI,bP]at hok
  obtain⟨MC,YQ⟩:=hok
  unfold Vd at MC
  simp only[bP,qO]at MC
  obtain⟨ar2,ar3⟩:=MC
  have hz: ∀j o,ops.toList[j]? =some o→(o,j)∈ops.toList.zipIdx:=λj o hj=>List.mem_zipIdx_iff_getElem?.2 hj
  refine wp_region_any hE.mixed (J0 (Q:=Q) (σ0:=σ) hE r hl hpt rfl (λj o hj e he hbe=> ?_) (λj o i p hj hi pF hb=> ?_) (λj u i v hj hi pF hb=> ?_) (λa' w' yw=>hn _ a' w' hK yw) ops.size (Array.replicate ops.size false) a _ ?_ ?_)
  ·have:=ar2 (o,j) (hz j o hj) e (by simpa using he)
   rw[hbe]at this
   simpa [zJ]using this
  ·have:=ar3 (o,j) (hz j o hj) (p,i) (hz i p hi)
   simp only[hb,tJ,nk,qL,Bool.or_eq_false_iff]at this
   have Hp: ¬Nat.ble j i=true:=by rw[zK];omega
   have this:=this.resolve_left Hp
   refine⟨λd hd=>⟨λZE=> ?_,λZE=> ?_⟩,λd hd ZE=> ?_⟩
   ·exact mK this.1 (x:=d) (by simp[hd]) (by simp[ZE])
   ·exact mK this.1 (x:=d) (by simp[hd]) (by simp[ZE])
   ·exact mK this.2 (x:=d) (by simp[hd]) ZE
  ·unfold afy at YQ
   simp only[qO]at YQ
   have YP:=amq j u hj
   have lA:=amq i v hi
   rw[gq]at YP lA
   have:=YQ _ YP _ lA
   simp only[hb,tJ,nk,qL,Bool.or_eq_false_iff]at this
   have Hp: ¬Nat.ble j i=true:=by rw[zK];omega
   have this:=this.resolve_left Hp
   refine⟨λk hk=>⟨λHv=> ?_,λHv=> ?_⟩,λk hk Hv=> ?_⟩
   ·exact mK this.1 (x:=k) hk (cQ _ Hv)
   ·exact mK this.1 (x:=k) hk (dD _ Hv)
   ·exact mK this.2 (x:=k) hk Hv
  ·refine cA (List.length_filter_le _ _) ?_
   rw[wc];exact aI _
  ·have hf: ∀j,(Array.replicate ops.size false).getD j false=false:=by
    intro j
    rw[sB,Array.getElem?_replicate]
    split<;>rfl
   obtain⟨⟨M,ν,hc⟩,hs,hd,yi⟩:=hI
   refine⟨by simp,λj o _ hS=>(by rw[hf]at hS;cases hS),σ,(pb.start us σ).congr (λj=>(by rw[hf];simp)),⟨M,ν,?_⟩,hs,hd,yi⟩
   exact hc.tr (Tr.drew hc.mem)
end VM
end
