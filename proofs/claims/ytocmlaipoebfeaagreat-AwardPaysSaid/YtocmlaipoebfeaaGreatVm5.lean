/- A part of the proof of AwardPays of layer 25: a machine that reads a function of the program as an equation between values. -/
import Derived.Test.YtocmlaipoebfeaaGreatVm4
set_option linter.all false
section
namespace VM
open Go
variable{α:Type}{r:α}
theorem cH{υ τ:Ty}{y:υ.den}{k:τ.den→Option α}(h:ca υ τ y k=some r): ∃z,k z=some r∧ ∀k':τ.den→Option α,ca υ τ y k'=k' z:=by
 obtain⟨e,h⟩:=aY h
 subst e
 exact⟨y,h,fun k'=>by simp[ca]⟩
theorem gu{υ τ:Ty}{k:Option α}(h:jr υ τ k=some r):k=some r∧ ∀k':Option α,jr υ τ k'=k':=by
 obtain⟨e,h1⟩:=dJ h
 clear h
 subst e
 exact⟨h1,fun k'=>by simp[jr]⟩
theorem cU{b:Bool}{K:Option α}(h:cond b K none=some r):K=some r∧ ∀K':Option α,cond b K' none=K':=by
 obtain⟨rfl,h⟩:=bB h
 exact⟨h,fun _=>rfl⟩
theorem pb{b:Bool}{K:Option α}(h:cond b none K=some r):K=some r∧ ∀K':Option α,cond b none K'=K':=by
 obtain⟨rfl,h⟩:=iU h
 exact⟨h,fun _=>rfl⟩
theorem se: ∀{τ:Ty} {x:τ.den} {n:Nat} {k:(υ:Ty)→υ.den→Option α},sE τ x n k=some r→ ∃υ y,k υ y=some r∧ ∀k':(υ:Ty)→υ.den→Option α,sE τ x n k'=k' υ y
 | .pair a b,x,0,k,h=>⟨a,x.1,h,fun _=>rfl⟩
 | .pair a b,x,n+1,k,h=>by
  obtain⟨υ,y,h1,h2⟩:=se (τ:=b) (x:=x.2) (n:=n) (k:=k) h
  exact⟨υ,y,h1,fun k'=>h2 k'⟩
 | .int _,_,_,_,h| .bool,_,_,_,h| .str,_,_,_,h| .slice _,_,_,_,h| .unit,_,_,_,h| .arr _ _,_,_,_,h=>by simp[sE]at h
theorem tv: ∀{τ:Ty} {x:τ.den} {n:Nat} {m:(υ:Ty)→υ.den→(υ.den→Option α)→Option α} {k:τ.den→Option α},
  (∀υ y (k:υ.den→Option α),m υ y k=some r→ ∃z,k z=some r∧ ∀k':υ.den→Option α,m υ y k'=k' z)→jq τ x n m k=some r→ ∃z,k z=some r∧ ∀k':τ.den→Option α,jq τ x n m k'=k' z
 | .pair a b,x,0,m,k,hm,h=>by
  obtain⟨z,h1,h2⟩:=hm a x.1 _ h
  exact⟨(z,x.2),h1,fun k'=>h2 _⟩
 | .pair a b,x,n+1,m,k,hm,h=>by
  obtain⟨z,h1,h2⟩:=tv (τ:=b) (x:=x.2) (n:=n) (m:=m) (k:=fun z=>k (x.1,z)) hm h
  exact⟨(x.1,z),h1,fun k'=>h2 (fun z=>k' (x.1,z))⟩
 | .int _,_,_,_,_,_,h| .bool,_,_,_,_,_,h| .str,_,_,_,_,_,h| .slice _,_,_,_,_,_,h| .unit,_,_,_,_,_,h| .arr _ _,_,_,_,_,_,h=>by simp[jq]at h
theorem eJ: ∀{p:List Step} {τ:Ty} {x:τ.den} {k:(υ:Ty)→υ.den→Option α},uj p τ x k=some r→ ∃υ y,k υ y=some r∧ ∀k':(υ:Ty)→υ.den→Option α,uj p τ x k'=k' υ y
 |[],τ,x,k,h=>⟨τ,x,h,fun _=>rfl⟩
 | .gL n::p,τ,x,k,h=>by
  obtain⟨υ,y,h1,h2⟩:=se (h:sE τ x n _=some r)
  obtain⟨υ',y',h3,h4⟩:=eJ h1
  exact⟨υ',y',h3,fun k'=>(h2 _).trans (h4 k')⟩
 | .idx i::p,τ,x,k,h=>by
  cases τ with
  |arr n e=>
   obtain⟨υ',y',h3,h4⟩:=eJ (p:=p) (τ:=e) (x:=List.getD x i e.zero) (k:=k) h
   exact⟨υ',y',h3,fun k'=>h4 k'⟩
  |_=>simp[uj,Yn]at h
theorem kI{υ:Ty}{y:υ.den}: ∀{p:List Step} {τ:Ty} {x:τ.den} {k:τ.den→Option α},qH υ y p τ x k=some r→ ∃z,k z=some r∧ ∀k':τ.den→Option α,qH υ y p τ x k'=k' z
 |[],τ,x,k,h=>cH h
 | .gL n::p,τ,x,k,h=>tv (fun _ _ _ h=>kI h) h
 | .idx i::p,τ,x,k,h=>by
  cases τ with
  |arr n e=>
   obtain⟨z,h1,h2⟩:=kI (p:=p) (τ:=e) (x:=List.getD x i e.zero) (k:=fun z=>k (List.set x i z)) h
   exact⟨_,h1,fun k'=>h2 (fun z=>k' (List.set x i z))⟩
  |_=>simp[qH,xX]at h
theorem oa{a:aW}{k:IntKind→Int→Option α}(h:qU a k=some r): ∃i n,k i n=some r∧ ∀k':IntKind→Int→Option α,qU a k'=k' i n:=by
 obtain⟨i,n,rfl,h⟩:=ju h
 exact⟨i,n,h,fun _=>rfl⟩
theorem JV{a:aW}{k:(τ:Ty)→τ.den→Option α}(h:D9 a k=some r): ∃τ x,k τ x=some r∧ ∀k':(τ:Ty)→τ.den→Option α,D9 a k'=k' τ x:=by
 unfold D9 at h
 split at h
 ·exact⟨_,_,h,fun _=>rfl⟩
 ·cases h
theorem pJ{a:Option aW}{d:Int}{k:Int→Option α}(h:tf a d k=some r): ∃n,k n=some r∧ ∀k':Int→Option α,tf a d k'=k' n:=by
 cases a with
 |none=>exact⟨d,h,fun _=>rfl⟩
 |some a=>
  obtain⟨i,n,h1,h2⟩:=oa (h:qU a (fun _ x=>k x)=some r)
  exact⟨n,h1,fun k'=>h2 (fun _ x=>k' x)⟩
abbrev Ag(rd:List Nat)(H H':Nat→Option aR):Prop:= ∀i∈rd,H' i=H i
theorem kJ{fz:Bool}{a:aW}{H:Nat→Option aR}{τ:Ty}{k:τ.den→List Nat→fD→Option α}(h:iF fz a H τ k=some r):
  ∃y rd ups,k y rd ups=some r∧ ∀H',Ag rd H H'→ ∀k':τ.den→List Nat→fD→Option α,iF fz a H' τ k'=k' y rd ups:=by
 cases a with
 |val υ x=>
  simp only[iF]at h
  obtain⟨z,h1,h2⟩:=cH h
  refine⟨z,[],[],h1,fun H' _ k'=> ?_⟩
  simp only[iF]
  exact h2 (fun y=>k' y [] [])
 |Cr υ x n=>
  simp only[iF]at h
  obtain⟨z,h1,h2⟩:=cH h
  refine⟨z,[],[],h1,fun H' _ k'=> ?_⟩
  simp only[iF]
  exact h2 (fun y=>k' y [] [])
 |emp=>
  cases τ with
  |slice e=>exact⟨[],[],[],h,fun _ _ _=>rfl⟩
  |_=>cases h
 |ref id=>
  have h:(match H id with
   |some (.own e l)=>ca (.slice e) τ l fun y=>k y [id] (cond fz [(id,some (.kF e l))] [])
   |some (.kF e l)=>ca (.slice e) τ l fun y=>k y [id] []
   |_=>none)=some r:=h
  cases hH:H id with
  |none=>rw[hH]at h;cases h
  |some e=>
   rw[hH]at h
   cases e with
   |own e l=>
    obtain⟨z,h1,h2⟩:=cH (h:ca (.slice e) τ l _=some r)
    refine⟨z,_,_,h1,fun H' hA k'=> ?_⟩
    have:H' id=some (.own e l):=by rw[hA id (by simp),hH]
    show(match H' id with
     |some (.own e l)=>ca (.slice e) τ l fun y=>k' y [id] (cond fz [(id,some (.kF e l))] [])
     |some (.kF e l)=>ca (.slice e) τ l fun y=>k' y [id] []
     |_=>none)=_
    rw[this];exact h2 _
   |kF e l=>
    obtain⟨z,h1,h2⟩:=cH (h:ca (.slice e) τ l _=some r)
    refine⟨z,_,_,h1,fun H' hA k'=> ?_⟩
    have:H' id=some (.kF e l):=by rw[hA id (by simp),hH]
    show(match H' id with
     |some (.own e l)=>ca (.slice e) τ l fun y=>k' y [id] (cond fz [(id,some (.kF e l))] [])
     |some (.kF e l)=>ca (.slice e) τ l fun y=>k' y [id] []
     |_=>none)=_
    rw[this];exact h2 _
   |obj _ _=>cases h
   |dY _ _ _ _=>cases h
   |gone=>cases h
 |any|Ni|fA _ _|mL _ _|tup _|D7 _ _=>cases h
theorem vJ{id:Nat}{p:List Step}{H:Nat→Option aR}{k:Ty→Option α}(h:js id p H k=some r): ∃υ,k υ=some r∧ ∀H',H' id=H id→ ∀k':Ty→Option α,js id p H' k'=k' υ:=by
 unfold js at h
 split at h
 ·rename_i τ x aT
  obtain⟨υ,y,h1,h2⟩:=eJ h
  exact⟨υ,h1,fun H' hA k'=>by unfold js;rw[hA,aT];exact h2 _⟩
 ·rename_i τ x _ _ aT
  obtain⟨υ,y,h1,h2⟩:=eJ h
  exact⟨υ,h1,fun H' hA k'=>by unfold js;rw[hA,aT];exact h2 _⟩
 ·rename_i e l aT
  split at h
  ·obtain⟨υ,y,h1,h2⟩:=eJ h
   exact⟨υ,h1,fun H' hA k'=>by unfold js;rw[hA,aT];exact h2 _⟩
  ·cases h
 ·rename_i e l aT
  split at h
  ·obtain⟨υ,y,h1,h2⟩:=eJ h
   exact⟨υ,h1,fun H' hA k'=>by unfold js;rw[hA,aT];exact h2 _⟩
  ·cases h
 ·cases h
theorem sf{H:Nat→Option aR}{id:Nat}{e:aR}{K:Option α}(h:mM H id e K=some r):K=some r∧ ∀H',H' id=H id→ ∀(e':aR) (K':Option α),mM H' id e' K'=K':=by
 obtain⟨h1,h2⟩:=ig h
 exact⟨h2,fun H' hA e' K'=>by unfold mM;rw[hA,h1]⟩
theorem Lf{b:BinOp}{k:IntKind}{x y:Int}{K:aW→Option α}(h:pz b k x y K=some r): ∃v,K v=some r∧ ∀K':aW→Option α,pz b k x y K'=K' v:=by
 cases b<;>simp only[pz]at h ⊢ <;>first
  |exact⟨_,h,fun _=>rfl⟩
  |(obtain⟨h1,h2⟩:=pb h;exact⟨_,h1,fun _=>h2 _⟩)
  |cases h
theorem Y0{b:BinOp}{k:IntKind}{x y:Int}{K:aW→Option α}(h:Q5 b k x y K=some r): ∃v,K v=some r∧ ∀K':aW→Option α,Q5 b k x y K'=K' v:=by
 cases b<;>simp only[Q5]at h ⊢ <;>first
  |(obtain⟨h1,h2⟩:=pb h;exact⟨_,h1,fun _=>h2 _⟩)
  |cases h
theorem NJ{t:Option Ty}{op:BinOp}{τ:Ty}{x:τ.den}{υ:Ty}{y:υ.den}{K:aW→Option α}(h:yx t op τ x υ y K=some r): ∃v,K v=some r∧ ∀K':aW→Option α,yx t op τ x υ y K'=K' v:=by
 unfold yx at h ⊢
 split at h
 ·rename_i k x k' y
  cases hs:Q6 op
  ·rw[hs]at h
   have h:(if k=k' then pz op k x y K else none)=some r:=h
   by_cases hk:k=k'
   ·rw[atK hk]at h
    obtain⟨v,h1,h2⟩:=Lf h
    exact⟨v,h1,fun K'=>by simp only[atH,atK hk];exact h2 K'⟩
   ·rw[atL hk]at h;cases h
  ·rw[hs]at h
   obtain⟨v,h1,h2⟩:=Y0 (h:Q5 op k x y K=some r)
   exact⟨v,h1,fun K'=>by simp only[atC];exact h2 K'⟩
 ·split at h
  ·cases h
  ·obtain⟨h1,h2⟩:=gu h
   obtain⟨h3,h4⟩:=cU h1
   split at h3
   ·obtain⟨z,h5,h6⟩:=cH h3
    exact⟨_,h5,fun K'=>by rw[h2,h4];exact h6 _⟩
   ·obtain⟨z,h5,h6⟩:=cH h3
    exact⟨_,h5,fun K'=>by rw[h2,h4];exact h6 _⟩
   ·cases h3
theorem Rw{u:UnOp}{a:aW}{K:aW→Option α}(h:KT u a K=some r): ∃v,K v=some r∧ ∀K':aW→Option α,KT u a K'=K' v:=by
 unfold KT at h
 split at h<;>first
  |exact⟨_,h,fun _=>rfl⟩
  |cases h
theorem Ik{up:Bool}: ∀{xs:List aW} {a:aW} {K:aW→Option α},QG up a xs K=some r→ ∃v,K v=some r∧ ∀K':aW→Option α,QG up a xs K'=K' v
 |[],a,K,h=>⟨a,h,fun _=>rfl⟩
 |b::xs,a,K,h=>by
  unfold QG at h
  obtain⟨k,x,h1,h2⟩:=oa h
  obtain⟨k',y,h3,h4⟩:=oa h1
  by_cases hk:k=k'
  ·rw[atK hk]at h3
   obtain⟨v,h5,h6⟩:=Ik h3
   refine⟨v,h5,fun K'=> ?_⟩
   unfold QG
   rw[h2,h4,atK hk]
   exact h6 K'
  ·rw[atL hk]at h3;cases h3
theorem Rx{τ:Ty}{a:aW}{H:Nat→Option aR}{K:fE α}(h:Ea τ a H K=some r): ∃v rd ups,K v rd ups=some r∧ ∀H',Ag rd H H'→ ∀K':fE α,Ea τ a H' K'=K' v rd ups:=by
 unfold Ea at h
 split at h
 ·exact⟨_,_,_,h,fun _ _ _=>rfl⟩
 ·exact⟨_,_,_,h,fun _ _ _=>rfl⟩
 ·exact⟨_,_,_,h,fun _ _ _=>rfl⟩
 ·exact⟨_,_,_,h,fun _ _ _=>rfl⟩
 ·split at h
  ·rename_i aT
   exact⟨_,_,_,h,fun H' hA K'=>by unfold Ea;simp only;rw[hA _ (by simp),aT]⟩
  ·rename_i aT
   exact⟨_,_,_,h,fun H' hA K'=>by unfold Ea;simp only;rw[hA _ (by simp),aT]⟩
  ·cases h
 ·cases h
theorem Ry{id:Nat}{e:Ty}{a b:aW}{H:Nat→Option aR}{K:fE α}(h:Eb id e a b H K=some r): ∃v rd ups,K v rd ups=some r∧id∈rd∧ ∀H',Ag rd H H'→ ∀K':fE α,Eb id e a b H' K'=K' v rd ups:=by
 unfold Eb at h
 obtain⟨ys,rd,ups,h1,h2⟩:=kJ h
 split at h1
 ·obtain⟨h3,h4⟩:=cU h1
  refine⟨_,_,_,h3,by simp,fun H' hA K'=> ?_⟩
  unfold Eb
  rw[h2 H' (fun i hi=>hA i (atM _ hi))]
  exact h4 _
 ·rename_i j
  split at h1
  ·rename_i e' l hj
   obtain⟨z,h3,h4⟩:=cH h1
   obtain⟨h5,h6⟩:=cU h3
   refine⟨_,_,_,h5,by simp,fun H' hA K'=> ?_⟩
   unfold Eb
   rw[h2 H' (fun i hi=>hA i (atM _ (atM _ hi)))]
   simp only
   rw[hA j (by simp),hj]
   simp only
   rw[h4]
   exact h6 _
  ·cases h1
 ·cases h1
theorem yS{e:Ty}{n:Nat}{H:Nat→Option aR}: ∀{ps:List (Nat×aW)} {l:List e.den} {Bz:List Nat} {yT:fD} {K:List e.den→List Nat→fD→Option α},qW e H n ps l Bz yT K=some r→
  ∃l' rd ups,K l' rd ups=some r∧(∀i∈Bz,i∈rd)∧ ∀H',Ag rd H H'→ ∀K':List e.den→List Nat→fD→Option α,qW e H' n ps l Bz yT K'=K' l' rd ups
 |[],l,Bz,yT,K,h=>⟨l,Bz,yT,h,fun _ h=>h,fun _ _ _=>rfl⟩
 |p::ps,l,Bz,yT,K,h=>by
  unfold qW at h
  obtain⟨h1,h2⟩:=cU h
  obtain⟨y,YG,Ie,h3,h4⟩:=kJ h1
  obtain⟨l',rd,ups,h5,h6,h7⟩:=yS h3
  refine⟨l',rd,ups,h5,fun i hi=>h6 i (aub _ hi),fun H' hA K'=> ?_⟩
  unfold qW
  rw[h2,h4 H' (fun i hi=>hA i (h6 i (at5 _ hi)))]
  exact h7 H' hA K'
theorem BA{τ:Ty}{H:Nat→Option aR}: ∀{ps:List (Nat×aW)} {x:τ.den} {Bz:List Nat} {yT:fD} {K:τ.den→List Nat→fD→Option α},pA τ H ps x Bz yT K=some r→
  ∃x' rd ups,K x' rd ups=some r∧(∀i∈Bz,i∈rd)∧ ∀H',Ag rd H H'→ ∀K':τ.den→List Nat→fD→Option α,pA τ H' ps x Bz yT K'=K' x' rd ups
 |[],x,Bz,yT,K,h=>⟨x,Bz,yT,h,fun _ h=>h,fun _ _ _=>rfl⟩
 |p::ps,x,Bz,yT,K,h=>by
  unfold pA at h
  obtain⟨υ,z,h1,h2⟩:=se h
  obtain⟨y,YG,Ie,h3,h4⟩:=kJ h1
  obtain⟨z',h5,h6⟩:=tv (m:=fun υ' _ k'=>ca υ υ' y k') (fun υ' y' k hk=>cH hk) h3
  obtain⟨x',rd,ups,h7,h8,h9⟩:=BA h5
  refine⟨x',rd,ups,h7,fun i hi=>h8 i (aub _ hi),fun H' hA K'=> ?_⟩
  unfold pA
  rw[h2,h4 H' (fun i hi=>hA i (h8 i (at5 _ hi))),h6]
  exact h9 H' hA K'
theorem NK{H:Nat→Option aR}{v:aW}{a:Ty}{k:a.den→List Nat→fD→Option α}(h:wq v H a k=some r):
  ∃x rd ups,k x rd ups=some r∧ ∀H',Ag rd H H'→ ∀k':a.den→List Nat→fD→Option α,wq v H' a k'=k' x rd ups:=by
 unfold wq at h
 split at h
 ·split at h
  ·obtain⟨z,h1,h2⟩:=cH h
   refine⟨_,_,_,h1,fun H' _ k'=> ?_⟩
   unfold wq
   simp only
   rw[h2]
  ·cases h
 ·rename_i k0 qR
  obtain⟨y,rd,ups,h1,h2⟩:=kJ h
  refine⟨y,rd,ups,h1,fun H' hA k'=> ?_⟩
  unfold wq
  split
  ·exact(qR _ _ rfl HEq.rfl).elim
  ·exact h2 H' hA _
theorem EJ{H:Nat→Option aR}: ∀{τ:Ty} {vs:List aW} {k:τ.den→List Nat→fD→Option α},mN H τ vs k=some r→
  ∃x rd ups,k x rd ups=some r∧ ∀H',Ag rd H H'→ ∀k':τ.den→List Nat→fD→Option α,mN H' τ vs k'=k' x rd ups
 | .unit,[],k,h=>⟨(),[],[],h,fun _ _ _=>rfl⟩
 | .pair a b,v::vs,k,h=>by
  unfold mN at h
  obtain⟨y,rd,ups,h1,h2⟩:=NK h
  obtain⟨ys,vA,jZ,h3,h4⟩:=EJ h1
  refine⟨(y,ys),_,_,h3,fun H' hA k'=> ?_⟩
  unfold mN
  rw[h2 H' (fun i hi=>hA i (aub _ hi)),h4 H' (fun i hi=>hA i (at5 _ hi))]
 | .unit,_::_,_,h=>by simp[mN]at h
 | .pair _ _,[],_,h=>by simp[mN]at h
 | .int _,_,_,h| .bool,_,_,h| .str,_,_,h| .slice _,_,_,h| .arr _ _,_,_,h=>by simp[mN]at h
theorem yU: ∀{lY:List aW} {H:Nat→Option aR} {K:List aW→List Nat→fD→Option α},qX H lY K=some r→
  ∃cs rd ups,K cs rd ups=some r∧ ∀H',Ag rd H H'→ ∀K':List aW→List Nat→fD→Option α,qX H' lY K'=K' cs rd ups
 |[],H,K,h=>⟨[],[],[],h,fun _ _ _=>rfl⟩
 |a::lY,H,K,h=>by
  unfold qX at h
  split at h
  ·rename_i id
   split at h
   ·rename_i τ x aT
    obtain⟨cs,rd,ups,h1,h2⟩:=yU h
    refine⟨_,_,_,h1,fun H' hA K'=> ?_⟩
    unfold qX
    simp only
    rw[hA id (by simp),aT]
    simp only
    rw[h2 (bo H' id (some .gone)) (fun i hi=>by
     by_cases br:i=id
     ·subst br;rw[ak,ak]
     ·rw[al _ _ br,al _ _ br];exact hA i (atM _ hi))]
   ·cases h
  ·rename_i qR
   obtain⟨cs,rd,ups,h1,h2⟩:=yU h
   refine⟨_,_,_,h1,fun H' hA K'=> ?_⟩
   unfold qX
   split
   ·exact absurd rfl (qR _)
   ·rw[h2 H' hA]
end VM
end
section
namespace VM
open Go
variable{α:Type}{r:α}
theorem EK{m:AM}{a:aW}{H:Nat→Option aR}{k:m.den→(Nat→Option aR)→List Nat→fD→fD→List (Nat×Ty)→Option α}(h:kO m a H k=some r):
  ∃y rd uo uf io,∃g:(Nat→Option aR)→(Nat→Option aR),k y (g H) rd uo uf io=some r∧(∀H' i,H' i=H i→g H' i=g H i)∧
   ∀H',Ag rd H H'→ ∀k':m.den→(Nat→Option aR)→List Nat→fD→fD→List (Nat×Ty)→Option α,kO m a H' k'=k' y (g H') rd uo uf io:=by
 have Lg: ∀(d:Nat) (v:Option aR) (H':Nat→Option aR) (i:Nat),H' i=H i→bo H' d v i=bo H d v i:=by
  intro d v H' i hi
  by_cases aT:i=d
  ·subst aT;rw[ak,ak]
  ·rw[al _ _ aT,al _ _ aT,hi]
 unfold kO at h
 split at h
 ·rename_i τ k
  obtain⟨y,rd,ups,h1,h2⟩:=kJ h
  cases ups with
  |nil=>
   refine⟨y,rd,[],[],[],fun H=>H,h1,fun _ _ h=>h,fun H' hA k'=> ?_⟩
   unfold kO;simp only;rw[h2 H' hA]
  |cons u rest=>
   refine⟨y,rd,[],u::rest,[],fun H=>bo H u.1 u.2,h1,fun H' i hi=>Lg _ _ H' i hi,fun H' hA k'=> ?_⟩
   unfold kO;simp only;rw[h2 H' hA]
 ·rename_i e k
  split at h
  ·exact⟨[],[],[],[],[],fun H=>H,h,fun _ _ h=>h,fun _ _ _=>rfl⟩
  ·rename_i id
   split at h
   ·rename_i e' l aT
    obtain⟨z,h1,h2⟩:=cH h
    refine⟨z,[id],_,_,_,fun H=>bo H id (some .gone),h1,fun H' i hi=>Lg _ _ H' i hi,fun H' hA k'=> ?_⟩
    unfold kO;simp only;rw[hA id (by simp),aT];simp only;rw[h2]
   ·cases h
  ·cases h
 ·rename_i τ k
  split at h
  ·rename_i id
   split at h
   ·rename_i υ x aT
    obtain⟨z,h1,h2⟩:=cH h
    refine⟨z,[id],_,_,_,fun H=>bo H id (some .gone),h1,fun H' i hi=>Lg _ _ H' i hi,fun H' hA k'=> ?_⟩
    unfold kO;simp only;rw[hA id (by simp),aT];simp only;rw[h2]
   ·cases h
  ·cases h
 ·rename_i f τ k
  split at h
  ·rename_i f' cs
   obtain⟨h1,h2⟩:=cU h
   obtain⟨x,rd,ups,h3,h4⟩:=EJ h1
   cases ups with
   |nil=>
    refine⟨x,rd,[],[],[],fun H=>H,h3,fun _ _ h=>h,fun H' hA k'=> ?_⟩
    unfold kO;simp only;rw[h2,h4 H' hA]
   |cons _ _=>cases h3
  ·cases h
 ·cases h
 ·rename_i τ k
  split at h
  ·obtain⟨z,h1,h2⟩:=cH h
   refine⟨z,[],[],[],[],fun H=>H,h1,fun _ _ h=>h,fun H' hA k'=> ?_⟩
   unfold kO;simp only;rw[h2]
  ·cases h
theorem EL: ∀{ms:List AM} {lY:List aW} {H:Nat→Option aR} {Bz:List Nat} {uo0 uf0:fD} {io0:List (Nat×Ty)} {K:HP ms→List Nat→fD→fD→List (Nat×Ty)→Option α},oZ ms lY H Bz uo0 uf0 io0 K=some r→
  ∃x rd uo uf io,K x rd uo uf io=some r∧(∀i∈Bz,i∈rd)∧ ∀H',Ag rd H H'→ ∀K':HP ms→List Nat→fD→fD→List (Nat×Ty)→Option α,oZ ms lY H' Bz uo0 uf0 io0 K'=K' x rd uo uf io
 |[],[],H,Bz,uo0,uf0,io0,K,h=>⟨(),_,_,_,_,h,fun _ h=>h,fun _ _ _=>rfl⟩
 |[m],[a],H,Bz,uo0,uf0,io0,K,h=>by
  obtain⟨y,rd,uo,uf,io,g,h1,h2,h3⟩:=EK (h:kO m a H _=some r)
  exact⟨y,_,_,_,_,h1,fun i hi=>aub _ hi,fun H' hA K'=>h3 H' (fun i hi=>hA i (at5 _ hi)) _⟩
 |m::n::ms,a::lY,H,Bz,uo0,uf0,io0,K,h=>by
  obtain⟨y,rd,uo,uf,io,g,h1,h2,h3⟩:=EK (h:kO m a H _=some r)
  obtain⟨ys,vA,DT,DU,AA,h4,h5,h6⟩:=EL (ms:=n::ms) h1
  refine⟨(y,ys),vA,DT,DU,AA,h4,fun i hi=>h5 i (aub _ hi),fun H' hA K'=> ?_⟩
  refine(h3 H' (fun i hi=>hA i (h5 i (at5 _ hi))) _).trans ?_
  exact h6 (g H') (fun i hi=>h2 H' i (hA i hi)) _
 |[],_::_,_,_,_,_,_,_,h=>by simp[oZ]at h
 |[_],[],_,_,_,_,_,_,h=>by simp[oZ]at h
 |[_],_::_::_,_,_,_,_,_,_,h=>by simp[oZ]at h
 |_::_::_,[],_,_,_,_,_,_,h=>by simp[oZ]at h
theorem NL{id i:Nat}: ∀{n:Nat},i∈Ed id n↔id≤i∧i<id+n
 |0=>by simp[Ed]
 |n+1=>by simp only[Ed,atZ,NL];omega
theorem sY{H H':Nat→Option aR}{id:Nat}: ∀{n:Nat},(∀i∈Ed id n,H' i=H i)→pB H' id n=pB H id n
 |0,_=>rfl
 |n+1,h=>by
  unfold pB
  rw[h (id+n) (by simp[Ed]),sY fun i hi=>h i (by simp[Ed,hi])]
theorem NM{E:Env}{f id:Nat}{lY:List aW}{H:Nat→Option aR}{K:fE α}(h:wv E f lY id H K=some r): ∃v rd ups,K v rd ups=some r∧ ∀H',Ag rd H H'→ ∀K':fE α,wv E f lY id H' K'=K' v rd ups:=by
 unfold wv at h
 split at h
 ·cases h
 ·rename_i S hS
  obtain⟨x,rd,uo,uf,io,h1,_,h2⟩:=EL h
  obtain⟨y,hy,h3⟩:=au5.1 h1
  obtain⟨h4,h5⟩:=bB h3
  refine⟨_,_,_,h5,fun H' hA K'=> ?_⟩
  unfold wv
  rw[hS]
  simp only
  rw[h2 H' (fun i hi=>hA i (aub _ (aub _ hi))),hy]
  simp only[atB]
  rw[sY (fun i hi=>hA i (at5 _ hi)),h4]
  rfl
theorem Lh{t:Ty}{z:Bool}{a:aW}{lo hi mx:Option aW}{H:Nat→Option aR}{K:fE α}(h:mO t z a lo hi mx H K=some r): ∃v rd ups,K v rd ups=some r∧ ∀H',Ag rd H H'→ ∀K':fE α,mO t z a lo hi mx H' K'=K' v rd ups:=by
 unfold mO at h
 split at h
 ·obtain⟨h1,e1⟩:=cU h
  obtain⟨l,h2,e2⟩:=pJ h1
  obtain⟨m,h3,e3⟩:=pJ h2
  obtain⟨h4,e4⟩:=cU h3
  exact⟨_,_,_,h4,fun H' _ K'=>by unfold mO;simp only;rw[e1,e2,e3,e4]⟩
 ·cases z
  ·obtain⟨h1,e1⟩:=cU (h:cond mx.isNone _ none=some r)
   obtain⟨l,h2,e2⟩:=pJ h1
   obtain⟨m,h3,e3⟩:=pJ h2
   obtain⟨h4,e4⟩:=cU h3
   exact⟨_,_,_,h4,fun H' _ K'=>by unfold mO;simp only[atH];rw[e1,e2,e3,e4]⟩
  ·exact⟨_,_,_,h,fun H' _ K'=>by unfold mO;rfl⟩
 ·rename_i e ib
  obtain⟨y,rd,ups,h1,e1⟩:=kJ h
  cases z
  ·obtain⟨h2,e2⟩:=cU (h1:cond (mx.isNone||hi.isSome) _ none=some r)
   obtain⟨l,h3,e3⟩:=pJ h2
   obtain⟨m,h4,e4⟩:=pJ h3
   obtain⟨n,h5,e5⟩:=pJ h4
   obtain⟨h6,e6⟩:=cU h5
   refine⟨_,_,_,h6,fun H' hA K'=> ?_⟩
   unfold mO
   simp only
   rw[e1 H' hA]
   simp only[atH]
   rw[e2,e3,e4,e5,e6]
  ·refine⟨_,_,_,(h1:K .emp rd []=some r),fun H' hA K'=> ?_⟩
   unfold mO
   simp only
   rw[e1 H' hA]
   rfl
 ·cases h
theorem A2{τ:Ty}{a i:aW}{H:Nat→Option aR}{K:fE α}(h:ep τ a i H K=some r): ∃v rd ups,K v rd ups=some r∧ ∀H',Ag rd H H'→ ∀K':fE α,ep τ a i H' K'=K' v rd ups:=by
 unfold ep at h
 obtain⟨k,n,h,e0⟩:=oa h
 split at h
 ·split at h
  ·obtain⟨z,h1,e1⟩:=cH h
   obtain⟨h2,e2⟩:=cU h1
   exact⟨_,_,_,h2,fun H' _ K'=>by unfold ep;rw[e0];simp only;rw[e1,e2]⟩
  ·split at h
   ·rename_i aT
    obtain⟨h1,e1⟩:=gu h
    obtain⟨h2,e2⟩:=cU h1
    exact⟨_,_,_,h2,fun H' hA K'=>by unfold ep;rw[e0];simp only;rw[hA _ (by simp),aT];simp only;rw[e1,e2]⟩
   ·rename_i aT
    obtain⟨h1,e1⟩:=gu h
    obtain⟨h2,e2⟩:=cU h1
    exact⟨_,_,_,h2,fun H' hA K'=>by unfold ep;rw[e0];simp only;rw[hA _ (by simp),aT];simp only;rw[e1,e2]⟩
   ·cases h
  ·cases h
 ·split at h
  ·obtain⟨υ,h1,e1⟩:=vJ h
   obtain⟨h2,e2⟩:=gu h1
   obtain⟨h3,e3⟩:=cU h2
   exact⟨_,_,_,h3,fun H' hA K'=>by unfold ep;rw[e0];simp only;rw[e1 H' (hA _ (by simp)),e2,e3]⟩
  ·obtain⟨z,h1,e1⟩:=cH h
   obtain⟨h2,e2⟩:=cU h1
   exact⟨_,_,_,h2,fun H' _ K'=>by unfold ep;rw[e0];simp only;rw[e1,e2]⟩
  ·cases h
 ·cases h
theorem Li{τ:Ty}{a i:aW}{K:aW→Option α}(h:qY τ a i K=some r): ∃v,K v=some r∧ ∀K':aW→Option α,qY τ a i K'=K' v:=by
 unfold qY at h
 obtain⟨k,n,h,e0⟩:=oa h
 split at h
 ·obtain⟨z,h1,e1⟩:=cH h
  obtain⟨h2,e2⟩:=cU h1
  exact⟨_,h2,fun K'=>by unfold qY;rw[e0];simp only;rw[e1,e2]⟩
 ·obtain⟨h2,e2⟩:=cU h
  exact⟨_,h2,fun K'=>by unfold qY;rw[e0];simp only;rw[e2]⟩
 ·cases h
theorem NN{a:aW}{H:Nat→Option aR}{K:(υ:Ty)→υ.den→List Nat→Option α}(h:g3 a H K=some r): ∃υ y rd,K υ y rd=some r∧ ∀H',Ag rd H H'→ ∀K':(υ:Ty)→υ.den→List Nat→Option α,g3 a H' K'=K' υ y rd:=by
 unfold g3 at h
 split at h
 ·exact⟨_,_,_,h,fun _ _ _=>rfl⟩
 ·split at h
  ·rename_i aT
   obtain⟨υ,y,h1,e1⟩:=eJ h
   exact⟨_,_,_,h1,fun H' hA K'=>by unfold g3;simp only;rw[hA _ (by simp),aT];simp only;rw[e1]⟩
  ·rename_i aT
   split at h
   ·obtain⟨υ,y,h1,e1⟩:=eJ h
    exact⟨_,_,_,h1,fun H' hA K'=>by unfold g3;simp only;rw[hA _ (by simp),aT];simp only;rw[e1]⟩
   ·cases h
  ·rename_i aT
   split at h
   ·obtain⟨υ,y,h1,e1⟩:=eJ h
    exact⟨_,_,_,h1,fun H' hA K'=>by unfold g3;simp only;rw[hA _ (by simp),aT];simp only;rw[e1]⟩
   ·cases h
  ·cases h
 ·cases h
theorem Lj{τ:Ty}{a v:aW}{H:Nat→Option aR}{K:fE α}(h:iH τ a v H K=some r): ∃u rd ups,K u rd ups=some r∧ ∀H',Ag rd H H'→ ∀K':fE α,iH τ a v H' K'=K' u rd ups:=by
 unfold iH at h
 split at h
 ·obtain⟨y,rd,ups,h1,e1⟩:=kJ h
  split at h1
  ·rename_i aT
   obtain⟨z,h2,e2⟩:=kI h1
   exact⟨_,_,_,h2,fun H' hA K'=>by
    unfold iH;simp only
    rw[e1 H' (fun i hi=>hA i (atM _ hi))]
    rw[hA _ (by simp),aT];simp only;rw[e2]⟩
  ·rename_i aT
   split at h1
   ·obtain⟨h2,e2⟩:=pb h1
    obtain⟨z,h3,e3⟩:=kI h2
    exact⟨_,_,_,h3,fun H' hA K'=>by
     unfold iH;simp only
     rw[e1 H' (fun i hi=>hA i (atM _ hi))]
     rw[hA _ (by simp),aT];simp only;rw[e2,e3]⟩
   ·cases h1
  ·cases h1
 ·cases h
theorem Rz{j:Nat}{q:List Step}{τ:Ty}{x:τ.den}{H:Nat→Option aR}{k:τ.den→fD→Option α}(h:xj j q τ x H k=some r): ∃z ups,k z ups=some r∧ ∀H',H' j=H j→ ∀k':τ.den→fD→Option α,xj j q τ x H' k'=k' z ups:=by
 unfold xj at h
 split at h
 ·rename_i hj
  obtain⟨z,h1,e1⟩:=kI h
  exact⟨_,_,h1,fun H' hA k'=>by unfold xj;rw[hA,hj];simp only;rw[e1]⟩
 ·rename_i hj
  obtain⟨z,h1,e1⟩:=kI h
  exact⟨_,_,h1,fun H' hA k'=>by unfold xj;rw[hA,hj];simp only;rw[e1]⟩
 ·cases h
abbrev Pts(F:(Nat→Option aR)→fE α→Option α)(H:Nat→Option aR)(K:fE α)(r:α):Prop:=
 ∃v rd ups,K v rd ups=some r∧ ∀H',Ag rd H H'→ ∀K':fE α,F H' K'=K' v rd ups
theorem NO{τ:Ty}{a:aW}{H:Nat→Option aR}{K:fE α}(h:(g3 a H fun υ y rd=>ca υ τ y fun z=>K (.val τ z) rd [])=some r):
  Pts (fun H K=>g3 a H fun υ y rd=>ca υ τ y fun z=>K (.val τ z) rd []) H K r:=by
 obtain⟨υ,y,rd,h1,e1⟩:=NN h
 obtain⟨z,h2,e2⟩:=cH h1
 exact⟨_,_,_,h2,fun H' hA K'=>by simp only;rw[e1 H' hA,e2]⟩
theorem ad9{id:Nat}{p:List Step}{H:Nat→Option aR}{K:(υ:Ty)→υ.den→List Nat→Option α}(h:g3 (.fA id p) H K=some r): ∃υ y,K υ y [id]=some r:=by
 unfold g3 at h
 simp only at h
 split at h
 ·obtain⟨υ,y,h1,_⟩:=eJ h;exact⟨υ,y,h1⟩
 ·split at h
  ·obtain⟨υ,y,h1,_⟩:=eJ h;exact⟨υ,y,h1⟩
  ·cases h
 ·split at h
  ·obtain⟨υ,y,h1,_⟩:=eJ h;exact⟨υ,y,h1⟩
  ·cases h
 ·cases h
theorem NP{τ:Ty}{id:Nat}{p:List Step}{H:Nat→Option aR}{K:fE α}(h:(g3 (.fA id p) H fun υ y rd=>ca υ τ y fun z=>K (.val τ z) rd [])=some r):
  ∃z,K (.val τ z) [id] []=some r∧ ∀H',H' id=H id→ ∀K':fE α,(g3 (.fA id p) H' fun υ y rd=>ca υ τ y fun z=>K' (.val τ z) rd [])=K' (.val τ z) [id] []:=by
 unfold g3 at h
 simp only at h
 split at h
 ·rename_i aT
  obtain⟨υ,y,h1,e1⟩:=eJ h
  obtain⟨z,h2,e2⟩:=cH h1
  exact⟨_,h2,fun H' hA K'=>by unfold g3;simp only;rw[hA,aT];simp only;rw[e1,e2]⟩
 ·rename_i aT
  split at h
  ·obtain⟨υ,y,h1,e1⟩:=eJ h
   obtain⟨z,h2,e2⟩:=cH h1
   exact⟨_,h2,fun H' hA K'=>by unfold g3;simp only;rw[hA,aT];simp only;rw[e1,e2]⟩
  ·cases h
 ·rename_i aT
  split at h
  ·obtain⟨υ,y,h1,e1⟩:=eJ h
   obtain⟨z,h2,e2⟩:=cH h1
   exact⟨_,h2,fun H' hA K'=>by unfold g3;simp only;rw[hA,aT];simp only;rw[e1,e2]⟩
  ·cases h
 ·cases h
theorem NQ{τ:Ty}{a:aW}{H:Nat→Option aR}{K:fE α}(h:qv τ a H K=some r):Pts (qv τ a) H K r:=by
 unfold qv at h
 simp only at h
 split at h
 ·rename_i id p
  split at h
  ·rename_i υ x q j aT
   cases hp:D6 p q
   ·cases Ei:sD p q
    ·rw[hp,Ei]at h
     simp only[atH]at h
     obtain⟨υ',y,h1,e1⟩:=eJ h
     obtain⟨z,h2,e2⟩:=cH h1
     exact⟨_,_,_,h2,fun H' hA K'=>by
      unfold qv;simp only;rw[hA id (by simp),aT];simp only
      rw[hp,Ei];simp only[atH];rw[e1,e2]⟩
    ·rw[hp,Ei]at h
     simp only[atH,atC]at h
     obtain⟨z,ups,h1,e1⟩:=Rz h
     obtain⟨υ',y,h2,e2⟩:=eJ h1
     obtain⟨z',h3,e3⟩:=cH h2
     exact⟨_,_,_,h3,fun H' hA K'=>by
      unfold qv;simp only;rw[hA id (by simp),aT];simp only
      rw[hp,Ei];simp only[atH,atC];rw[e1 H' (hA j (by simp)),e2,e3]⟩
   ·rw[hp]at h
    simp only[atC]at h
    obtain⟨h1,e1⟩:=cU h
    exact⟨_,_,_,h1,fun H' hA K'=>by
     unfold qv;simp only;rw[hA id (by simp),aT];simp only
     rw[hp];simp only[atC];rw[e1]⟩
  ·rename_i qR
   obtain⟨z,h1,e1⟩:=NP h
   refine⟨_,_,_,h1,fun H' hA K'=> ?_⟩
   unfold qv;simp only;rw[hA id (by simp)]
   split
   ·rename_i aT;exact absurd aT (qR _ _ _ _)
   ·exact e1 H' (hA id (by simp)) K'
 ·rename_i qR
  obtain⟨v,rd,ups,h1,e1⟩:=NO h
  refine⟨v,rd,ups,h1,fun H' hA K'=> ?_⟩
  have:qv τ a H' K'=g3 a H' fun υ y rd=>ca υ τ y fun z=>K' (.val τ z) rd []:=by
   unfold qv
   cases a<;>first|rfl|exact absurd rfl (qR _ _)
  rw[this]
  exact e1 H' hA K'
theorem EM{τ:Ty}{id k:Nat}{e:Ty}{q:List Step}{υ:Ty}{x:υ.den}{H:Nat→Option aR}{K:fE α}(h:wx τ id k e q υ x H K=some r):
  ∃v ups,K v [id,k] ups=some r∧ ∀H',H' k=H k→ ∀K':fE α,wx τ id k e q υ x H' K'=K' v [id,k] ups:=by
 unfold wx at h
 split at h
 ·rename_i aT
  obtain⟨h1,e1⟩:=gu h
  obtain⟨h2,e2⟩:=gu h1
  obtain⟨z,h3,e3⟩:=kI h2
  exact⟨_,_,h3,fun H' hA K'=>by unfold wx;rw[hA,aT];simp only;rw[e1,e2,e3]⟩
 ·cases h
theorem vK{τ:Ty}{id:Nat}{p:List Step}{v:aW}{H:Nat→Option aR}{K:fE α}(h:iH τ (.fA id p) v H K=some r):
  ∃u rd ups,id∈rd∧K u rd ups=some r∧ ∀H',Ag rd H H'→ ∀K':fE α,iH τ (.fA id p) v H' K'=K' u rd ups:=by
 unfold iH at h
 simp only at h
 obtain⟨y,rd,ups,h1,e1⟩:=kJ h
 split at h1
 ·rename_i aT
  obtain⟨z,h2,e2⟩:=kI h1
  exact⟨_,_,_,by simp,h2,fun H' hA K'=>by
   unfold iH;simp only
   rw[e1 H' (fun i hi=>hA i (atM _ hi))]
   rw[hA _ (by simp),aT];simp only;rw[e2]⟩
 ·rename_i aT
  split at h1
  ·obtain⟨h2,e2⟩:=pb h1
   obtain⟨z,h3,e3⟩:=kI h2
   exact⟨_,_,_,by simp,h3,fun H' hA K'=>by
    unfold iH;simp only
    rw[e1 H' (fun i hi=>hA i (atM _ hi))]
    rw[hA _ (by simp),aT];simp only;rw[e2,e3]⟩
  ·cases h1
 ·cases h1
theorem vL{E:Env}{τ:Ty}{a v:aW}{H:Nat→Option aR}{K:fE α}(h:gn E τ a v H K=some r):
  ∃u rd ups,K u rd ups=some r∧ ∀H',Ag rd H H'→ ∀K':fE α,gn E τ a v H' K'=K' u rd ups:=by
 have h0:=h
 unfold gn at h
 simp only at h
 split at h
 ·rename_i id p
  split at h
  ·rename_i υ x aT
   split at h
   ·rename_i q e k oK
    cases hp:D6 p q
    ·rw[hp]at h
     simp only[atH]at h
     obtain⟨u,rd,ups,hi,h1,e1⟩:=vK h
     refine⟨u,rd,ups,h1,fun H' hA K'=> ?_⟩
     unfold gn;simp only;rw[hA id hi,aT];simp only;rw[oK];simp only;rw[hp];simp only[atH]
     exact e1 H' hA K'
    ·rw[hp]at h
     simp only[atC]at h
     obtain⟨u,ups,h1,e1⟩:=EM h
     refine⟨u,_,ups,h1,fun H' hA K'=> ?_⟩
     unfold gn;simp only;rw[hA id (by simp),aT];simp only;rw[oK];simp only;rw[hp];simp only[atC]
     exact e1 H' (hA k (by simp)) K'
   ·rename_i qR
    obtain⟨u,rd,ups,hi,h1,e1⟩:=vK h
    refine⟨u,rd,ups,h1,fun H' hA K'=> ?_⟩
    unfold gn;simp only;rw[hA id hi,aT];simp only
    exact e1 H' hA K'
  ·rename_i υ x q j aT
   have uy:(iF true v H τ fun y rd ups=>qH τ y p υ x fun z=>K .any (id::rd) (ups++[(id,some (cond (sD p q) (.obj υ z) (.dY υ z q j)))]))=some r→
     ∃u rd ups,id∈rd∧K u rd ups=some r∧ ∀H',Ag rd H H'→ ∀K':fE α,(iF true v H' τ fun y rd ups=>qH τ y p υ x fun z=>K' .any (id::rd) (ups++[(id,some (cond (sD p q) (.obj υ z) (.dY υ z q j)))]))=K' u rd ups:=by
    intro h
    obtain⟨y,rd,ups,h1,e1⟩:=kJ h
    obtain⟨z,h2,e2⟩:=kI h1
    exact⟨_,_,_,by simp,h2,fun H' hA K'=>by rw[e1 H' (fun i hi=>hA i (atM _ hi)),e2]⟩
   split at h
   ·rename_i q' e k oK
    cases hp:(D6 p q&&D6 q q')
    ·rw[hp]at h
     simp only[atH]at h
     obtain⟨u,rd,ups,hi,h1,e1⟩:=uy h
     refine⟨u,rd,ups,h1,fun H' hA K'=> ?_⟩
     unfold gn;simp only;rw[hA id hi,aT];simp only;rw[oK];simp only;rw[hp];simp only[atH]
     exact e1 H' hA K'
    ·rw[hp]at h
     simp only[atC]at h
     obtain⟨u,ups,h1,e1⟩:=EM h
     refine⟨u,_,ups,h1,fun H' hA K'=> ?_⟩
     unfold gn;simp only;rw[hA id (by simp),aT];simp only;rw[oK];simp only;rw[hp];simp only[atC]
     exact e1 H' (hA k (by simp)) K'
   ·rename_i qR
    obtain⟨u,rd,ups,hi,h1,e1⟩:=uy h
    refine⟨u,rd,ups,h1,fun H' hA K'=> ?_⟩
    unfold gn;simp only;rw[hA id hi,aT];simp only
    exact e1 H' hA K'
  ·rename_i ajC ajD
   obtain⟨u,rd,ups,hi,h1,e1⟩:=vK h
   refine⟨u,rd,ups,h1,fun H' hA K'=> ?_⟩
   unfold gn;simp only;rw[hA id hi]
   split
   ·rename_i aT;exact absurd aT (ajC _ _)
   ·rename_i aT;exact absurd aT (ajD _ _ _ _)
   ·exact e1 H' hA K'
 ·rename_i qR
  obtain⟨u,rd,ups,h1,e1⟩:=Lj h
  refine⟨u,rd,ups,h1,fun H' hA K'=> ?_⟩
  have:gn E τ a v H' K'=iH τ a v H' K':=by
   unfold gn
   cases a<;>first|rfl|exact absurd rfl (qR _ _)
  rw[this]
  exact e1 H' hA K'
theorem Lk{E:Env}{τ:Ty}{a v:aW}{H:Nat→Option aR}{K:fE α}(h:oF E τ a v H K=some r):
  ∃u rd ups,K u rd ups=some r∧ ∀H',Ag rd H H'→ ∀K':fE α,oF E τ a v H' K'=K' u rd ups:=by
 unfold oF at h
 split at h
 ·rename_i id υ y n
  split at h
  ·rename_i m e oK
   cases yF:Nat.beq m n
   ·rw[yF]at h
    simp only[atH]at h
    obtain⟨u,rd,ups,h1,e1⟩:=vL h
    exact⟨u,rd,ups,h1,fun H' hA K'=>by unfold oF;simp only;rw[oK];simp only;rw[yF];simp only[atH];exact e1 H' hA K'⟩
   ·rw[yF]at h
    simp only[atC]at h
    obtain⟨h1,e1⟩:=gu h
    obtain⟨υ',h2,e2⟩:=vJ h1
    obtain⟨h3,e3⟩:=gu h2
    obtain⟨h4,e4⟩:=sf h3
    exact⟨_,_,_,h4,fun H' hA K'=>by unfold oF;simp only;rw[oK];simp only;rw[yF];simp only[atC];rw[e1,e2 H' (hA _ (by simp)),e3,e4 H' (hA _ (by simp))]⟩
  ·rename_i qR
   obtain⟨u,rd,ups,h1,e1⟩:=vL h
   refine⟨u,rd,ups,h1,fun H' hA K'=> ?_⟩
   unfold oF;simp only
   exact e1 H' hA K'
 ·rename_i qR
  obtain⟨u,rd,ups,h1,e1⟩:=vL h
  refine⟨u,rd,ups,h1,fun H' hA K'=> ?_⟩
  unfold oF
  split
  ·exact absurd rfl (qR _ _ _ _ rfl)
  ·exact e1 H' hA K'
theorem JW{H:Nat→Option aR}{id:Nat}{τ:Ty}{x:τ.den}{q:List Step}{e:Ty}{K:fE α}(h:xk H id τ x q e K=some r):Pts (fun H K=>xk H id τ x q e K) H K r:=by
 obtain⟨h1,h2,h3⟩:=yE h
 exact⟨_,_,_,h3,fun H' hA K'=>by unfold xk mM;simp only;rw[hA id (by simp),h1,hA (id+1) (by simp),h2]⟩
theorem Y1{E:Env}{o:Oper}{ρ:Operand→aW}{H:Nat→Option aR}{K:fE α}(h:oW E o ρ H K=some r):
  ∃v rd ups,K v rd ups=some r∧ ∀ρ' H',(∀x∈o.op.operands,ρ' x=ρ x)→Ag rd H H'→ ∀K':fE α,oW E o ρ' H' K'=K' v rd ups:=by
 obtain⟨dst,op,type,pos,after,guard⟩:=o
 unfold oW at h
 simp only at h
 have RA: ∀{ρ':Operand→aW} (xs:List Operand),(∀x∈xs,ρ' x=ρ x)→xs.map ρ'=xs.map ρ:=fun xs hx=>ava hx
 have Il: ∀{ρ':Operand→aW} (ps:Array (Nat×Operand)),(∀x∈ps.map (·.2),ρ' x=ρ x)→partsOf ρ' ps=partsOf ρ ps:=fun ps hp=>by
  unfold partsOf
  exact ava fun p hm=>by rw[hp p.2 (Array.mem_map.2 ⟨p,by simpa using hm,rfl⟩)]
 have Y2: ∀{ρ':Operand→aW} (x:Option Operand),(∀y∈x,ρ' y=ρ y)→x.map ρ'=x.map ρ:=fun x hx=>by
  cases x with
  |none=>rfl
  |some x=>simp[hx x rfl]
 split at h
 ·
  rename_i x
  exact⟨_,_,_,h,fun ρ' H' hx _ K'=>by unfold oW;simp only;rw[hx x (by simp[Op.operands])]⟩
 ·rename_i x
  exact⟨_,_,_,h,fun ρ' H' hx _ K'=>by unfold oW;simp only;rw[hx x (by simp[Op.operands])]⟩
 ·rename_i x y z
  split at h
  ·rename_i t hx
   cases t
   ·exact⟨_,_,_,(h:K (ρ z) [] []=some r),fun ρ' H' o9 _ K'=>by unfold oW;simp only;rw[o9 x (by simp[Op.operands]),hx,o9 z (by simp[Op.operands])];rfl⟩
   ·exact⟨_,_,_,(h:K (ρ y) [] []=some r),fun ρ' H' o9 _ K'=>by unfold oW;simp only;rw[o9 x (by simp[Op.operands]),hx,o9 y (by simp[Op.operands])];rfl⟩
  ·cases h
 ·
  split at h
  ·rename_i τ ht
   split at h
   ·rename_i q e oK
    obtain⟨v,rd,ups,h1,e1⟩:=JW h
    exact⟨_,_,_,h1,fun ρ' H' hx hA K'=>by unfold oW;simp only;rw[ht];simp only;rw[oK];exact e1 H' hA K'⟩
   ·rename_i oK
    obtain⟨h1,e1⟩:=sf h
    exact⟨_,_,_,h1,fun ρ' H' hx hA K'=>by unfold oW;simp only;rw[ht];simp only;rw[oK];simp only;rw[e1 H' (hA _ (by simp))]⟩
  ·cases h
 ·
  rename_i t x
  split at h
  ·rename_i τ ht
   have hold:(iF true (ρ x) H τ fun y rd ups=>mM H (16*dst.getD 0) (.obj τ y) (K (.fA (16*dst.getD 0) []) (16*dst.getD 0::rd) (ups++[(16*dst.getD 0,some (.obj τ y))])))=some r→
     Pts (fun H K=>iF true (ρ x) H τ fun y rd ups=>mM H (16*dst.getD 0) (.obj τ y) (K (.fA (16*dst.getD 0) []) (16*dst.getD 0::rd) (ups++[(16*dst.getD 0,some (.obj τ y))]))) H K r:=by
    intro h
    obtain⟨y,rd,ups,h1,e1⟩:=kJ h
    obtain⟨h2,e2⟩:=sf h1
    exact⟨_,_,_,h2,fun H' hA K'=>by simp only;rw[e1 H' (fun i hi=>hA i (atM _ hi)),e2 H' (hA _ (by simp))]⟩
   split at h
   ·rename_i m e υ y n oK RB
    cases yF:Nat.beq m n
    ·rw[yF]at h
     obtain⟨v,rd,ups,h1,e1⟩:=hold h
     refine⟨_,_,_,h1,fun ρ' H' hx hA K'=> ?_⟩
     unfold oW;simp only;rw[ht];simp only
     rw[hx x (by simp[Op.operands]),oK,RB];simp only
     rw[yF]
     have:=e1 H' hA K'
     rw[RB]at this
     exact this
    ·rw[yF]at h
     simp only[atC]at h
     obtain⟨z,h1,e1⟩:=cH h
     obtain⟨v,rd,ups,h2,e2⟩:=JW h1
     refine⟨_,_,_,h2,fun ρ' H' hx hA K'=> ?_⟩
     unfold oW;simp only;rw[ht];simp only
     rw[hx x (by simp[Op.operands]),oK,RB];simp only
     rw[yF];simp only[atC]
     rw[e1]
     exact e2 H' hA K'
   ·rename_i qR
    obtain⟨v,rd,ups,h1,e1⟩:=hold h
    refine⟨_,_,_,h1,fun ρ' H' hx hA K'=> ?_⟩
    unfold oW;simp only;rw[ht];simp only
    rw[hx x (by simp[Op.operands])]
    split
    ·rename_i oK RB;exact absurd RB (qR _ _ _ _ _ oK)
    ·exact e1 H' hA K'
  ·cases h
 ·
  rename_i t ps
  split at h
  ·rename_i n e ht
   obtain⟨l,rd,ups,h1,_,e1⟩:=yS h
   exact⟨_,_,_,h1,fun ρ' H' hx hA K'=>by unfold oW;simp only;rw[ht];simp only;rw[Il ps (fun x o9=>hx x (by simpa [Op.operands]using o9)),e1 H' hA]⟩
  ·rename_i τ Xg ht
   obtain⟨h0,e0⟩:=cU h
   obtain⟨l,rd,ups,h1,_,e1⟩:=BA h0
   refine⟨_,_,_,h1,fun ρ' H' hx hA K'=> ?_⟩
   unfold oW;simp only;rw[ht]
   have: ∀{β:Type} (A:Nat→Ty→β) (B:Ty→β),(match some τ with|some (.arr n e)=>A n e|some τ=>B τ|none=>B τ)=B τ:=by
    intro β A B
    cases τ<;>first|rfl|exact absurd rfl (Xg _ _)
   cases τ with
   |arr n e=>exact absurd rfl (Xg n e)
   |_=>
    simp only
    rw[Il ps (fun x o9=>hx x (by simpa [Op.operands]using o9)),e0,e1 H' hA]
  ·cases h
 ·
  rename_i t n ps
  split at h
  ·rename_i e ht
   obtain⟨h0,e0⟩:=cU h
   obtain⟨h1,e1⟩:=sf h0
   obtain⟨l,rd,ups,h2,_,e2⟩:=yS h1
   exact⟨_,_,_,h2,fun ρ' H' hx hA K'=>by
    unfold oW;simp only;rw[ht];simp only
    rw[e0,e1 H' (hA _ (by simp)),Il ps (fun x o9=>hx x (by simpa [Op.operands]using o9)),e2 H' (fun i hi=>hA i (atM _ hi))]⟩
  ·cases h
 ·
  rename_i t x
  split at h
  ·rename_i τ ht
   obtain⟨v,rd,ups,h1,e1⟩:=NQ h
   exact⟨_,_,_,h1,fun ρ' H' hx hA K'=>by unfold oW;simp only;rw[ht];simp only;rw[hx x (by simp[Op.operands]),e1 H' hA]⟩
  ·cases h
 ·
  rename_i t x y
  split at h
  ·rename_i τ ht
   obtain⟨u,rd,ups,h1,e1⟩:=Lk h
   exact⟨_,_,_,h1,fun ρ' H' hx hA K'=>by unfold oW;simp only;rw[ht];simp only;rw[hx x (by simp[Op.operands]),hx y (by simp[Op.operands]),e1 H' hA]⟩
  ·cases h
 ·
  rename_i x
  split at h
  ·rename_i id p hx
   exact⟨_,_,_,h,fun ρ' H' o9 _ K'=>by unfold oW;simp only;rw[o9 x (by simp[Op.operands]),hx]⟩
  ·rename_i τ z hx
   exact⟨_,_,_,h,fun ρ' H' o9 _ K'=>by unfold oW;simp only;rw[o9 x (by simp[Op.operands]),hx]⟩
  ·cases h
 ·
  rename_i b t x y t'
  obtain⟨τ,x1,h1,e1⟩:=JV h
  obtain⟨υ,y1,h2,e2⟩:=JV h1
  obtain⟨v,h3,e3⟩:=NJ h2
  exact⟨_,_,_,h3,fun ρ' H' hx _ K'=>by unfold oW;simp only;rw[hx x (by simp[Op.operands]),hx y (by simp[Op.operands]),e1,e2,e3]⟩
 ·
  rename_i u t x
  obtain⟨v,h1,e1⟩:=Rw h
  exact⟨_,_,_,h1,fun ρ' H' hx _ K'=>by unfold oW;simp only;rw[hx x (by simp[Op.operands]),e1]⟩
 ·
  rename_i s d x
  split at h
  ·rename_i τ k hs hd
   obtain⟨i,n,h1,e1⟩:=oa h
   exact⟨_,_,_,h1,fun ρ' H' hx _ K'=>by unfold oW;simp only;rw[hs,hd];simp only;rw[hx x (by simp[Op.operands]),e1]⟩
  ·cases h
 ·
  rename_i f first caps
  obtain⟨h1,e1⟩:=cU h
  obtain⟨cs,rd,ups,h3,e3⟩:=yU h1
  exact⟨_,_,_,h3,fun ρ' H' hx hA K'=>by unfold oW;simp only;rw[RA caps.toList (fun x o9=>hx x (by simp[Op.operands];exact .inr (by simpa using o9))),e1,e3 H' hA]⟩
 ·
  rename_i t x y
  split at h
  ·rename_i e ht
   obtain⟨i,n,h1,e1⟩:=oa h
   obtain⟨i',n',h2,e2⟩:=oa h1
   obtain⟨h3,e3⟩:=cU h2
   obtain⟨h4,e4⟩:=sf h3
   exact⟨_,_,_,h4,fun ρ' H' hx hA K'=>by
    unfold oW;simp only;rw[ht];simp only
    rw[hx x (by simp[Op.operands]),e1,hx y (by simp[Op.operands]),e2,e3,e4 H' (hA _ (by simp))]⟩
  ·cases h
 ·
  rename_i t x lo hi mx
  split at h
  ·rename_i τ ht
   obtain⟨v,rd,ups,h1,e1⟩:=Lh h
   exact⟨_,_,_,h1,fun ρ' H' hx hA K'=>by
    unfold oW;simp only;rw[ht];simp only
    rw[hx x (by simp[Op.operands]),Y2 lo (fun y hy=>hx y (by simp at hy;simp[Op.operands,hy])),Y2 hi (fun y hy=>hx y (by simp at hy;simp[Op.operands,hy])),Y2 mx (fun y hy=>hx y (by simp at hy;simp[Op.operands,hy])),e1 H' hA]⟩
  ·cases h
 ·
  rename_i t x n
  split at h
  ·rename_i τ ht
   split at h
   ·rename_i id p hx
    obtain⟨υ,h1,e1⟩:=vJ h
    obtain⟨h2,e2⟩:=gu h1
    obtain⟨υ',y',h3,e3⟩:=se h2
    obtain⟨h4,e4⟩:=pb h3
    exact⟨_,_,_,h4,fun ρ' H' o9 hA K'=>by
     unfold oW;simp only;rw[ht];simp only
     rw[o9 x (by simp[Op.operands]),hx];simp only
     rw[e1 H' (hA _ (by simp)),e2,e3,e4]⟩
   ·rename_i υ z hx
    obtain⟨h2,e2⟩:=gu h
    obtain⟨υ',y',h3,e3⟩:=se h2
    obtain⟨h4,e4⟩:=pb h3
    exact⟨_,_,_,h4,fun ρ' H' o9 hA K'=>by
     unfold oW;simp only;rw[ht];simp only
     rw[o9 x (by simp[Op.operands]),hx];simp only
     rw[e2,e3,e4]⟩
   ·cases h
  ·cases h
 ·
  rename_i t x n
  split at h
  ·rename_i τ ht
   split at h
   ·rename_i υ z hx
    obtain⟨h2,e2⟩:=gu h
    obtain⟨υ',y',h3,e3⟩:=se h2
    exact⟨_,_,_,h3,fun ρ' H' o9 hA K'=>by
     unfold oW;simp only;rw[ht];simp only
     rw[o9 x (by simp[Op.operands]),hx];simp only
     rw[e2,e3]⟩
   ·cases h
  ·cases h
 ·
  rename_i t x i
  split at h
  ·rename_i τ ht
   obtain⟨v,rd,ups,h1,e1⟩:=A2 h
   exact⟨_,_,_,h1,fun ρ' H' hx hA K'=>by unfold oW;simp only;rw[ht];simp only;rw[hx x (by simp[Op.operands]),hx i (by simp[Op.operands]),e1 H' hA]⟩
  ·cases h
 ·
  rename_i t x i
  split at h
  ·rename_i τ ht
   obtain⟨v,h1,e1⟩:=Li h
   exact⟨_,_,_,h1,fun ρ' H' hx hA K'=>by unfold oW;simp only;rw[ht];simp only;rw[hx x (by simp[Op.operands]),hx i (by simp[Op.operands]),e1]⟩
  ·cases h
 ·
  rename_i x i
  split at h
  ·rename_i vs hx
   split at h
   ·rename_i v hv
    exact⟨_,_,_,h,fun ρ' H' o9 hA K'=>by unfold oW;simp only;rw[o9 x (by simp[Op.operands]),hx];simp only;rw[hv]⟩
   ·cases h
  ·cases h
 ·
  rename_i cl
  obtain⟨callee,args,ts⟩:=cl
  simp only at h
  have sJ: ∀{ρ':Operand→aW},(∀x∈(Op.call {callee,args,argTypes:=ts}).operands,ρ' x=ρ x)→ ∀x∈args.toList,ρ' x=ρ x:=
   fun hx x o9=>hx x (by simp[Op.operands,Call.operands];exact .inr (by simpa using o9))
  split at h
  ·split at h
   ·rename_i x τ ha ht
    obtain⟨v,rd,ups,h1,e1⟩:=Rx h
    exact⟨_,_,_,h1,fun ρ' H' hx hA K'=>by unfold oW;simp only;rw[ha,ht];simp only;rw[sJ hx x (by rw[ha];simp),e1 H' hA]⟩
   ·cases h
  ·split at h
   ·rename_i x y t t' ha ht
    split at h
    ·rename_i e hte
     obtain⟨h1,e1⟩:=cU h
     obtain⟨h2,e2⟩:=sf h1
     obtain⟨v,rd,ups,h3,aT,e3⟩:=Ry h2
     exact⟨_,_,_,h3,fun ρ' H' hx hA K'=>by
      unfold oW;simp only;rw[ha,ht];simp only;rw[hte];simp only
      rw[e1,e2 H' (hA _ aT),sJ hx x (by rw[ha];simp),sJ hx y (by rw[ha];simp),e3 H' hA]⟩
    ·cases h
   ·cases h
  ·split at h
   ·rename_i x xs ha
    obtain⟨v,h1,e1⟩:=Ik h
    exact⟨_,_,_,h1,fun ρ' H' hx hA K'=>by
     unfold oW;simp only;rw[ha];simp only
     rw[sJ hx x (by rw[ha];simp),RA xs (fun y hy=>sJ hx y (by rw[ha];simp[hy])),e1]⟩
   ·cases h
  ·split at h
   ·rename_i x xs ha
    obtain⟨v,h1,e1⟩:=Ik h
    exact⟨_,_,_,h1,fun ρ' H' hx hA K'=>by
     unfold oW;simp only;rw[ha];simp only
     rw[sJ hx x (by rw[ha];simp),RA xs (fun y hy=>sJ hx y (by rw[ha];simp[hy])),e1]⟩
   ·cases h
  ·rename_i g
   split at h
   ·rename_i f caps hg
    obtain⟨v,rd,ups,h1,e1⟩:=NM h
    exact⟨_,_,_,h1,fun ρ' H' hx hA K'=>by
     unfold oW;simp only
     rw[hx g (by simp[Op.operands,Call.operands]),hg];simp only
     rw[RA args.toList (sJ hx),e1 H' hA]⟩
   ·cases h
  ·cases h
 ·cases h
end VM
end
section
namespace VM
open Go
variable{P:Program}{E:Env}{o:Oper}{a:Act}{w:World}{M:Nat→Prop}{ν:Nat→Value}{σ:St}{c:Ctx}{α:Type}{r:α}{next:Act→World→Prop}{Q:Exit→Act→World→Prop}
structure Out where
 dst:Option Nat
 v:aW
 rd:List Nat
 ups:fD
def Out.app(u:Out)(σ:St):St:=(σ.qT u.ups).qG u.dst u.v
theorem EN(σ:St)(d:Nat)(v:aW):(σ.qG (some d) v).T d=v:=pG σ d v
theorem Ll(σ:St){d:Option Nat}{t:Nat}(v:aW)(h:d≠some t):(σ.qG d v).T t=σ.T t:=by
 cases d with
 |none=>rfl
 |some d=>exact uF σ v (fun e=>h (by rw[e]))
theorem Y3(σ:St)(d:Option Nat)(v:aW):(σ.qG d v).H=σ.H:=by cases d<;>rfl
theorem Im{u:Out}{t:Nat}(h:u.dst=some t)(σ:St):(u.app σ).T t=u.v:=by unfold Out.app;rw[h];exact EN _ _ _
theorem NR{u:Out}{t:Nat}(h:u.dst≠some t)(σ:St):(u.app σ).T t=σ.T t:=by unfold Out.app;rw[Ll _ _ h,H8]
theorem aea(u:Out)(σ:St):(u.app σ).H=bU σ.H u.ups:=by unfold Out.app;rw[Y3,H7]
def Pt(E:Env)(ops:List Oper)(o:Oper)(σ:St)(u:Out)(α:Type):Prop:=
 u.dst=o.dst∧ ∀σ':St,(∀t∈names ops o,σ'.T t=σ.T t)→Ag u.rd σ.H σ'.H→ ∀K':St→List Nat→List Nat→Option α,o0 E ops o σ' K'=K' (u.app σ') u.rd (u.ups.map (·.1))
theorem NS{ops:List Oper}{K:St→List Nat→List Nat→Option α}(h:o0 E ops o σ K=some r): ∃u:Out,K (u.app σ) u.rd (u.ups.map (·.1))=some r∧Pt E ops o σ u α:=by
 unfold o0 at h
 obtain⟨h,e0⟩:=cU h
 have ajE: ∀σ':St,(∀t∈names ops o,σ'.T t=σ.T t)→ ∀x∈o.op.operands,σ'.ρ x=σ.ρ x:=by
  intro σ' hT x hx
  cases x with
  |tmp t=>
   refine hT t ?_
   unfold names
   refine at5 _ (List.mem_filterMap.2 ⟨.tmp t,by simpa using hx,rfl⟩)
  |_=>rfl
 have cD:oW E o σ.ρ σ.H (fun v rd ups=>K ((σ.qT ups).qG o.dst v) rd (ups.map (·.1)))=some r→
   ∃u:Out,K (u.app σ) u.rd (u.ups.map (·.1))=some r∧u.dst=o.dst∧ ∀σ':St,(∀t∈names ops o,σ'.T t=σ.T t)→Ag u.rd σ.H σ'.H→ ∀K':St→List Nat→List Nat→Option α,
    oW E o σ'.ρ σ'.H (fun v rd ups=>K' ((σ'.qT ups).qG o.dst v) rd (ups.map (·.1)))=K' (u.app σ') u.rd (u.ups.map (·.1)):=by
  intro h
  obtain⟨v,rd,ups,h1,h2⟩:=Y1 h
  exact⟨⟨o.dst,v,rd,ups⟩,h1,rfl,fun σ' hT hA K'=>h2 σ'.ρ σ'.H (ajE σ' hT) hA _⟩
 have n7: ∀{K:St→List Nat→List Nat→Option α},K (σ.qG o.dst .Ni) [] []=some r→ ∃u:Out,K (u.app σ) u.rd (u.ups.map (·.1))=some r∧u.dst=o.dst∧ ∀σ':St,∀K':St→List Nat→List Nat→Option α,K' (σ'.qG o.dst .Ni) [] []=K' (u.app σ') u.rd (u.ups.map (·.1)):=
  fun h=>⟨⟨o.dst,.Ni,[],[]⟩,h,rfl,fun _ _=>rfl⟩
 simp only at h
 split at h
 ·rename_i hg
  obtain⟨u,h1,h2,h3⟩:=cD h
  refine⟨u,h1,h2,fun σ' hT hA K'=> ?_⟩
  unfold o0
  rw[e0]
  simp only
  rw[hg]
  exact h3 σ' hT hA K'
 ·rename_i j want hg
  split at h
  ·cases h
  ·rename_i t ht
   have Lm:t∈names ops o:=by
    unfold names
    refine aub _ ?_
    rw[hg]
    simp[ht]
   split at h
   ·rename_i b hb
    have lT: ∀σ':St,σ'.T t=σ.T t→σ'.put t (.val .bool b)=σ':=fun σ' h'=>by
     rw[←hb,←h'];exact yO σ' t
    cases want<;>cases b
    ·obtain⟨u,h1,h2,h3⟩:=cD (by
      have:=lT σ rfl
      rw[this]at h;exact h)
     refine⟨u,h1,h2,fun σ' hT hA K'=> ?_⟩
     unfold o0
     rw[e0];simp only;rw[hg];simp only;rw[ht];simp only;rw[hT t Lm,hb];simp only
     rw[lT σ' (hT t Lm)]
     exact h3 σ' hT hA K'
    ·obtain⟨u,h1,h2,h3⟩:=n7 (by
      have:=lT σ rfl
      rw[this]at h;exact h)
     refine⟨u,h1,h2,fun σ' hT hA K'=> ?_⟩
     unfold o0
     rw[e0];simp only;rw[hg];simp only;rw[ht];simp only;rw[hT t Lm,hb];simp only
     rw[lT σ' (hT t Lm)]
     exact h3 σ' K'
    ·obtain⟨u,h1,h2,h3⟩:=n7 (by
      have:=lT σ rfl
      rw[this]at h;exact h)
     refine⟨u,h1,h2,fun σ' hT hA K'=> ?_⟩
     unfold o0
     rw[e0];simp only;rw[hg];simp only;rw[ht];simp only;rw[hT t Lm,hb];simp only
     rw[lT σ' (hT t Lm)]
     exact h3 σ' K'
    ·obtain⟨u,h1,h2,h3⟩:=cD (by
      have:=lT σ rfl
      rw[this]at h;exact h)
     refine⟨u,h1,h2,fun σ' hT hA K'=> ?_⟩
     unfold o0
     rw[e0];simp only;rw[hg];simp only;rw[ht];simp only;rw[hT t Lm,hb];simp only
     rw[lT σ' (hT t Lm)]
     exact h3 σ' hT hA K'
   ·rename_i hb
    obtain⟨u,h1,h2,h3⟩:=n7 h
    refine⟨u,h1,h2,fun σ' hT hA K'=> ?_⟩
    unfold o0
    rw[e0];simp only;rw[hg];simp only;rw[ht];simp only;rw[hT t Lm,hb]
    exact h3 σ' K'
   ·cases h
theorem JX{ops:List Oper}: ∀(l:List Oper) (i:Nat) (σ:St) (lg:Log) (K:St→Log→Option α),KU E ops l i σ lg K=some r→
  ∃us:List Out,us.length=l.length∧(∀j u o,us[j]? =some u→l[j]? =some o→Pt E ops o ((us.take j).foldl (fun σ u=>u.app σ) σ) u α)∧
   ∃Xk,K (us.foldl (fun σ u=>u.app σ) σ) Xk=some r∧(∀x∈lg,x∈Xk)∧ ∀j u,us[j]? =some u→(i+j,u.rd,u.ups.map (·.1))∈Xk
 |[],i,σ,lg,K,h=>⟨[],rfl,fun j u o hj=>by simp at hj,lg,h,fun _ h=>h,fun j u hj=>by simp at hj⟩
 |o::l,i,σ,lg,K,h=>by
  unfold KU at h
  obtain⟨u,h1,h2⟩:=NS h
  obtain⟨us,hl,hpt,Xk,hK,QR,hj⟩:=JX l (i+1) (u.app σ) _ K h1
  refine⟨u::us,by simp[hl],fun j u' o' hu ho=> ?_,Xk,hK,fun x hx=>QR x (atM _ hx),fun j u' hu=> ?_⟩
  ·cases j with
   |zero=>simp at hu ho;subst hu ho;exact h2
   |succ j=>exact hpt j u' o' (by simpa using hu) (by simpa using ho)
  ·cases j with
   |zero=>simp at hu;subst hu;exact QR _ atS
   |succ j=>
    have:=hj j u' (by simpa using hu)
    rwa [show i+1+j=i+(j+1)from by omega]at this
theorem Ln{k:Nat}{ups:fD}(h:k∈keys ups)(H H':Nat→Option aR):bU H ups k=bU H' ups k:=by
 induction ups generalizing H H' with
 |nil=>simp[keys]at h
 |cons u r ih=>
  show bU (bo H u.1 u.2) r k=bU (bo H' u.1 u.2) r k
  by_cases hk:k∈keys r
  ·exact ih hk _ _
  ·have hku:k=u.1:=by
    simp only[keys,at7,atZ]at h hk
    exact h.resolve_right hk
   rw[jy hk,jy hk,hku,ak,ak]
structure kU(us:List Out)(σ0:St)(S:Nat→Prop)(σ:St):Prop where
 T: ∀t,(∃j u,us[j]? =some u∧S j∧u.dst=some t∧(∀j' u',us[j']? =some u'→S j'→u'.dst=some t→j'≤j)∧σ.T t=u.v)∨((∀j u,us[j]? =some u→S j→u.dst≠some t)∧σ.T t=σ0.T t)
 H: ∀k,(∃j u,us[j]? =some u∧S j∧k∈keys u.ups∧(∀j' u',us[j']? =some u'→S j'→k∈keys u'.ups→j'≤j)∧σ.H k=bU σ0.H u.ups k)∨((∀j u,us[j]? =some u→S j→k∉keys u.ups)∧σ.H k=σ0.H k)
theorem kU.NT{us:List Out}{σ0 σ σ':St}{S S':Nat→Prop}(h:kU us σ0 S σ)(h':kU us σ0 S' σ'){t:Nat}(hs: ∀j u,us[j]? =some u→u.dst=some t→(S j↔S' j)):σ.T t=σ'.T t:=by
 rcases h.T t with⟨j,u,h1,h2,h3,h4,h5⟩|⟨h1,h2⟩<;>rcases h'.T t with⟨j',u',lI,sZ,Io,h4',h5'⟩|⟨lI,sZ⟩
 ·have e1:=h4 j' u' lI ((hs j' u' lI Io).2 sZ) Io
  have e2:=h4' j u h1 ((hs j u h1 h3).1 h2) h3
  have:j=j':=by omega
  subst this
  rw[h1]at lI;cases lI
  rw[h5,h5']
 ·exact absurd h3 (lI j u h1 ((hs j u h1 h3).1 h2))
 ·exact absurd Io (h1 j' u' lI ((hs j' u' lI Io).2 sZ))
 ·rw[h2,sZ]
theorem kU.NU{us:List Out}{σ0 σ σ':St}{S S':Nat→Prop}(h:kU us σ0 S σ)(h':kU us σ0 S' σ'){k:Nat}(hs: ∀j u,us[j]? =some u→k∈keys u.ups→(S j↔S' j)):σ.H k=σ'.H k:=by
 rcases h.H k with⟨j,u,h1,h2,h3,h4,h5⟩|⟨h1,h2⟩<;>rcases h'.H k with⟨j',u',lI,sZ,Io,h4',h5'⟩|⟨lI,sZ⟩
 ·have e1:=h4 j' u' lI ((hs j' u' lI Io).2 sZ) Io
  have e2:=h4' j u h1 ((hs j u h1 h3).1 h2) h3
  have:j=j':=by omega
  subst this
  rw[h1]at lI;cases lI
  rw[h5,h5']
 ·exact absurd h3 (lI j u h1 ((hs j u h1 h3).1 h2))
 ·exact absurd Io (h1 j' u' lI ((hs j' u' lI Io).2 sZ))
 ·rw[h2,sZ]
theorem kU.unique{us:List Out}{σ0 σ σ':St}{S S':Nat→Prop}(h:kU us σ0 S σ)(h':kU us σ0 S' σ')(hs: ∀j u,us[j]? =some u→(S j↔S' j)):σ=σ':=by
 obtain⟨T,H⟩:=σ
 obtain⟨T',H'⟩:=σ'
 congr 1
 ·funext t;exact h.NT h' (fun j u hj _=>hs j u hj)
 ·funext k;exact h.NU h' (fun j u hj _=>hs j u hj)
theorem kU.step{us:List Out}{σ0 σ:St}{S:Nat→Prop}(h:kU us σ0 S σ){i:Nat}{u:Out}(hi:us[i]? =some u)(hc: ∀j u',us[j]? =some u'→S j→i<j→(∀t,u.dst=some t→u'.dst≠some t)∧ ∀k∈keys u.ups,k∉keys u'.ups):
  kU us σ0 (fun j=>j=i∨S j) (u.app σ):=by
 refine⟨fun t=> ?_,fun k=> ?_⟩
 ·by_cases hd:u.dst=some t
  ·left
   refine⟨i,u,hi,.inl rfl,hd,fun j' u' h1 h2 h3=> ?_,Im hd σ⟩
   rcases h2 with rfl|h2
   ·exact atP _
   ·exact Nat.le_of_not_lt fun dZ=>(hc j' u' h1 h2 dZ).1 t hd h3
  ·rw[NR hd]
   rcases h.T t with⟨j,u1,h1,h2,h3,h4,h5⟩|⟨h1,h2⟩
   ·refine .inl ⟨j,u1,h1,.inr h2,h3,fun j' u' lI sZ Io=> ?_,h5⟩
    rcases sZ with rfl|sZ
    ·rw[hi]at lI;cases lI;exact absurd Io hd
    ·exact h4 j' u' lI sZ Io
   ·refine .inr ⟨fun j u' lI sZ=> ?_,h2⟩
    rcases sZ with rfl|sZ
    ·rw[hi]at lI;cases lI;exact hd
    ·exact h1 j u' lI sZ
 ·rw[aea]
  by_cases hd:k∈keys u.ups
  ·left
   refine⟨i,u,hi,.inl rfl,hd,fun j' u' h1 h2 h3=> ?_,Ln hd _ _⟩
   rcases h2 with rfl|h2
   ·exact atP _
   ·exact Nat.le_of_not_lt fun dZ=>(hc j' u' h1 h2 dZ).2 k hd h3
  ·rw[jy hd]
   rcases h.H k with⟨j,u1,h1,h2,h3,h4,h5⟩|⟨h1,h2⟩
   ·refine .inl ⟨j,u1,h1,.inr h2,h3,fun j' u' lI sZ Io=> ?_,h5⟩
    rcases sZ with rfl|sZ
    ·rw[hi]at lI;cases lI;exact absurd Io hd
    ·exact h4 j' u' lI sZ Io
   ·refine .inr ⟨fun j u' lI sZ=> ?_,h2⟩
    rcases sZ with rfl|sZ
    ·rw[hi]at lI;cases lI;exact hd
    ·exact h1 j u' lI sZ
theorem kU.start(us:List Out)(σ0:St):kU us σ0 (fun _=>False) σ0:=⟨fun t=> .inr ⟨fun _ _ _ h=>h.elim,rfl⟩,fun k=> .inr ⟨fun _ _ _ h=>h.elim,rfl⟩⟩
theorem kU.congr{us:List Out}{σ0 σ:St}{S S':Nat→Prop}(h:kU us σ0 S σ)(hs: ∀j,S j↔S' j):kU us σ0 S' σ:=by
 have:S=S':=funext fun j=>propext (hs j)
 rw[←this];exact h
theorem kU.text(us:List Out)(σ0:St): ∀i,i≤us.length→kU us σ0 (fun j=>j<i) ((us.take i).foldl (fun σ u=>u.app σ) σ0)
 |0,_=>(kU.start us σ0).congr fun j=>by simp
 |i+1,hi=>by
  have ih:=kU.text us σ0 i (by omega)
  have hu:us[i]? =some us[i]:=atI (by omega)
  have:=ih.step hu (fun j u' _ h2 h3=>by omega)
  rw[List.take_add_one,hu,List.foldl_append]
  exact this.congr fun j=>by constructor<;>intro h<;>omega
end VM
end
section
namespace VM
open Go
variable{P:Program}{E:Env}{o:Oper}{a:Act}{w:World}{M:Nat→Prop}{ν:Nat→Value}{σ:St}{c:Ctx}{α:Type}{r:α}{next:Act→World→Prop}{Q:Exit→Act→World→Prop}
def Y4(S:Nat→Prop)(o:Oper):Prop:= ∀e∈o.after,Region.binds .any e=true→S e.on
theorem yV{β:Type}{l m:List β}{i:Nat}{d:β}(h:i<l.length):(l++m).getD i d=l.getD i d:=by
 simp only[List.getD,auR h]
theorem yW{β:Type}{l:List β}{x d:β}:(l++[x]).getD l.length d=x:=by
 simp[List.getD]
theorem wL{acc:List Nat}{i:Nat}: ∀(es:List Edge) (s:Nat),(es.foldl (fun s e=>cond (Region.binds .any e) (s|||2^e.on|||acc.getD e.on 0) s) s).testBit i=true→
  s.testBit i=true∨ ∃e∈es,Region.binds .any e=true∧(i=e.on∨(acc.getD e.on 0).testBit i=true)
 |[],s,h=> .inl h
 |e::es,s,h=>by
  rw[List.foldl_cons]at h
  rcases wL es _ h with h1|⟨e',h1,h2⟩
  ·cases hb:Region.binds .any e
   ·rw[hb]at h1;exact .inl h1
   ·rw[hb]at h1
    simp only[atC,Nat.testBit_or,avf]at h1
    rcases h1 with(h1|h1)|h1
    ·exact .inl h1
    ·refine .inr ⟨e,atS,hb,.inl ?_⟩
     rw[Nat.testBit_two_pow]at h1
     simpa using (atY h1).symm
    ·exact .inr ⟨e,atS,hb,.inr h1⟩
  ·exact .inr ⟨e',atM _ h1,h2⟩
theorem wM{S:Nat→Prop}: ∀(l:List Oper) (acc:List Nat) (all:List Oper),all.length=acc.length+l.length→(∀j,l[j]? =all[acc.length+j]?)→
  (∀j o,all[j]? =some o→S j→Y4 S o)→(∀j i,j<acc.length→S j→(acc.getD j 0).testBit i=true→S i)→
  ∀j o i,all[j]? =some o→(Y4 S o∨S j)→((oG l acc).getD j 0).testBit i=true→(j<acc.length→ ∀i,Y4 S o→(acc.getD j 0).testBit i=true→S i)→S i
 |[],acc,all,hl,jw,hS,RC,j,o,i,hj,EO,hb,NV=>by
  have dZ:j<all.length:=(auX.1 hj).1
  have tp:j<acc.length:=by simp at hl;omega
  rcases EO with hp|hp
  ·exact NV tp i hp hb
  ·exact RC j i tp hp hb
 |p::l,acc,all,hl,jw,hS,RC,j,o,i,hj,EO,hb,NV=>by
  unfold oG at hb
  have hp0:all[acc.length]? =some p:=by rw[←avK acc.length,←jw 0];rfl
  have RD: ∀i,Y4 S p→(p.after.toList.foldl (fun s e=>cond (Region.binds .any e) (s|||2^e.on|||acc.getD e.on 0) s) 0).testBit i=true→S i:=by
   intro i Ei hb
   rcases wL p.after.toList 0 hb with h1|⟨e,he,hbe,h1⟩
   ·simp at h1
   ·have hSe:=Ei e (by simpa using he) hbe
    rcases h1 with rfl|h1
    ·exact hSe
    ·by_cases dZ:e.on<acc.length
     ·exact RC e.on i dZ hSe h1
     ·rw[List.getD,aul (by omega)]at h1;simp at h1
  refine wM l (acc++[p.after.toList.foldl (fun s e=>cond (Region.binds .any e) (s|||2^e.on|||acc.getD e.on 0) s) 0]) all (by simp at hl ⊢;omega) (fun j=> ?_) hS (fun j' i' Xl hS' dx=> ?_) j o i hj EO hb (fun dZ i' JI dx=> ?_)
  ·have:=jw (j+1)
   simp only[List.getElem?_cons_succ]at this
   rw[this]
   congr 1
   simp;omega
  ·by_cases dZ:j'<acc.length
   ·rw[yV dZ]at dx
    exact RC j' i' dZ hS' dx
   ·have hje:j'=acc.length:=by simp at Xl;omega
    subst hje
    rw[yW]at dx
    exact RD i' (hS _ p hp0 hS') dx
  ·by_cases tp:j<acc.length
   ·rw[yV tp]at dx
    exact NV tp i' JI dx
   ·have hje:j=acc.length:=by simp at dZ;omega
    subst hje
    rw[hp0]at hj;cases hj
    rw[yW]at dx
    exact RD i' JI dx
theorem forced{ops:List Oper}{S:Nat→Prop}(hS: ∀j o,ops[j]? =some o→S j→Y4 S o){j i:Nat}(hj:ops[j]? =some o)(EO:Y4 S o∨S j)(hb:((oG ops []).getD j 0).testBit i=true):S i:=
 wM ops [] ops (by simp) (fun j=>by simp) hS (fun j i h=>by simp at h) j o i hj EO hb (fun h=>by simp at h)
theorem iV{l m:List Nat}(h:meets l m=false){x:Nat}(h1:x∈l)(h2:x∈m):False:=by
 have:meets l m=true:=by
  unfold meets
  rw[avZ]
  refine⟨x,h1,?_⟩
  rw[avZ]
  exact⟨x,h2,awm x⟩
 rw[h]at this;cases this
structure Rnd(c:Ctx)(E:Env)(ops:Array Oper)(us:List Out)(σ0:St)(listed:Array Bool)(a:Act)(w:World):Prop where
 size:listed.size=ops.size
 closed: ∀j o,ops.toList[j]? =some o→listed.getD j false=true→Y4 (fun i=>listed.getD i false=true) o
 st: ∃σ,kU us σ0 (fun j=>listed.getD j false=true) σ∧Inv c E σ a w
theorem tw{listed:Array Bool}{j:Nat}(h:j<listed.size)(d:Bool):listed.getD j d=listed.getD j false:=by
 simp[Array.getD,h]
theorem CP(hE:n6 P E){ops:Array Oper}{us:List Out}{σ0 σn:St}{α:Type}(x0:α)(hl:us.length=ops.toList.length)
  (hpt: ∀(j:Nat) (u:Out) (o:Oper),us[j]? =some u→ops.toList[j]? =some o→Pt E ops.toList o ((us.take j).foldl (fun σ u=>u.app σ) σ0) u α)
  (hn:σn=us.foldl (fun σ u=>u.app σ) σ0)
  (dZ: ∀(j:Nat) (o:Oper),ops.toList[j]? =some o→ ∀e∈o.after,Region.binds .any e=true→e.on<j)
  (HL: ∀(j:Nat) (o:Oper) (i:Nat) (p:Oper),ops.toList[j]? =some o→ops.toList[i]? =some p→i<j→((oG ops.toList []).getD j 0).testBit i=false→
   (∀d,p.dst=some d→o.dst≠some d∧d∉names ops.toList o)∧(∀d,o.dst=some d→d∉names ops.toList p))
  (QR: ∀(j:Nat) (u:Out) (i:Nat) (v:Out),us[j]? =some u→us[i]? =some v→i<j→((oG ops.toList []).getD j 0).testBit i=false→
   (∀k∈keys v.ups,k∉u.rd∧k∉keys u.ups)∧(∀k∈v.rd,k∉keys u.ups))
  (hq: ∀a' w',Inv c E σn a' w'→Q .normal a' w'):
  ∀(fuel:Nat) (listed:Array Bool) (a:Act) (w:World),((List.range ops.size).filter fun j=> !(listed.getD j false)).length≤fuel→Rnd c E ops us σ0 listed a w→wpAny P .any ops Q fuel listed a w:=by
 have jw: ∀(listed:Array Bool) (a:Act) (w:World),Rnd c E ops us σ0 listed a w→Region.ready .any ops listed=[]→Q .normal a w:=by
  intro listed a w hR Y5
  obtain⟨hs,DX,σ,q4,hI⟩:=hR
  have aec: ∀j,j<ops.size→listed.getD j false=true:=by
   intro j
   induction j using Nat.strongRecOn with
   |_ j ih=>
    intro hj
    by_cases hb:listed.getD j false=true
    ·exact hb
    ·exfalso
     have ho:ops[j]? =some ops[j]:=awF hj
     have:j∈Region.ready .any ops listed:=by
      rw[mem_ready]
      refine⟨by rw[tw (by omega)];simpa using hb,_,ho,fun e he hbe=> ?_⟩
      have hej:=dZ j ops[j] (by rw[auo];exact ho) e he hbe
      exact ih e.on hej (by omega)
     rw[Y5]at this
     cases this
  have hσ:σ=σn:=by
   rw[hn]
   have ht:=kU.text us σ0 us.length (atP _)
   rw[avv]at ht
   refine q4.unique ht fun j u hj=> ?_
   have wC:j<us.length:=(auX.1 hj).1
   have hjo:j<ops.size:=by rw[hl,atO]at wC;exact wC
   exact⟨fun _=>wC,fun _=>aec j hjo⟩
  exact hq a w (hσ▸hI)
 intro fuel
 induction fuel with
 |zero=>
  intro listed a w hf hR
  have RE:Region.ready .any ops listed=[]:=by
   rw[List.eq_nil_iff_forall_not_mem]
   intro j hj
   rw[mem_ready]at hj
   obtain⟨h0,o,ho,_⟩:=hj
   have hjs:j<ops.size:=(aup.1 ho).1
   have wC:j<listed.size:=by rw[hR.size];exact hjs
   rw[tw wC]at h0
   have jv:j∈(List.range ops.size).filter fun j=> !(listed.getD j false):=by
    rw[awZ];exact⟨avH.2 hjs,by rw[h0];rfl⟩
   have:((List.range ops.size).filter fun j=> !(listed.getD j false))=[]:=auQ (by omega)
   rw[this]at jv;cases jv
  exact⟨RE,jw listed a w hR RE⟩
 |succ fuel ih=>
  intro listed a w hf hR
  refine⟨jw listed a w hR,fun i hi=> ?_⟩
  have kQ:=hi
  rw[mem_ready]at kQ
  obtain⟨h0,o,ho,EO⟩:=kQ
  have his:i<ops.size:=(aup.1 ho).1
  have AP:i<listed.size:=by rw[hR.size];exact his
  rw[tw AP]at h0
  obtain⟨hs,DX,σ,q4,hI⟩:=hR
  have DZ:ops.toList[i]? =some o:=by rw[auo];exact ho
  have hiu:i<us.length:=by rw[hl,atO];exact his
  have hu:us[i]? =some us[i]:=atI hiu
  have hPt:=hpt i us[i] o hu DZ
  have hSi: ¬listed.getD i false=true:=by rw[h0];simp
  have EP: ∀j p,ops.toList[j]? =some p→((j<i∧ ¬listed.getD j false=true)→((oG ops.toList []).getD i 0).testBit j=false)∧((i<j∧listed.getD j false=true)→((oG ops.toList []).getD j 0).testBit i=false):=by
   intro j p hj
   refine⟨fun⟨_,h2⟩=> ?_,fun⟨_,h2⟩=> ?_⟩
   ·rw[←avi]
    intro hb
    exact h2 (forced DX DZ (.inl EO) hb)
   ·rw[←avi]
    intro hb
    exact hSi (forced DX hj (.inr h2) hb)
  have NW: ∀(j:Nat) (u:Out),us[j]? =some u→ ∃p:Oper,ops.toList[j]? =some p∧u.dst=p.dst:=by
   intro j u hj
   have wC:j<us.length:=(auX.1 hj).1
   have hp:ops.toList[j]? =some ops.toList[j]:=atI (by omega)
   exact⟨_,hp,(hpt j u _ hj hp).1⟩
  have Xm:=kU.text us σ0 i (by omega)
  have hT: ∀t∈names ops.toList o,σ.T t=((us.take i).foldl (fun σ u=>u.app σ) σ0).T t:=by
   intro t ht
   refine q4.NT Xm fun j u hj hd=> ?_
   obtain⟨p,hp,Y6⟩:=NW j u hj
   have Y6:p.dst=some t:=by rw[←Y6,hd]
   constructor
   ·intro ES
    refine Nat.lt_of_not_le fun hle=> ?_
    rcases Nat.lt_or_eq_of_le hle with tp|heq
    ·exact(HL j p i o hp DZ tp ((EP j p hp).2 ⟨tp,ES⟩)).2 t Y6 ht
    ·subst heq;exact hSi ES
   ·intro tx
    by_cases ES:listed.getD j false=true
    ·exact ES
    ·exact absurd ht ((HL i o j p DZ hp tx ((EP j p hp).1 ⟨tx,ES⟩)).1 t Y6).2
  have hH:Ag us[i].rd ((us.take i).foldl (fun σ u=>u.app σ) σ0).H σ.H:=by
   intro k hk
   refine q4.NU Xm fun j u hj hd=> ?_
   obtain⟨p,hp,Y6⟩:=NW j u hj
   constructor
   ·intro ES
    refine Nat.lt_of_not_le fun hle=> ?_
    rcases Nat.lt_or_eq_of_le hle with tp|heq
    ·exact(QR j u i us[i] hj hu tp ((EP j p hp).2 ⟨tp,ES⟩)).2 k hk hd
    ·subst heq;exact hSi ES
   ·intro tx
    by_cases ES:listed.getD j false=true
    ·exact ES
    ·exact absurd hk ((QR i us[i] j u hu hj tx ((EP j p hp).1 ⟨tx,ES⟩)).1 k hd).1
  have aed:=hPt.2 σ hT hH
  have hIs:kU us σ0 (fun j=>j=i∨listed.getD j false=true) (us[i].app σ):=by
   refine q4.step hu fun j u hj ES nX=> ?_
   obtain⟨p,hp,Y6⟩:=NW j u hj
   have xA:=(EP j p hp).2 ⟨nX,ES⟩
   obtain⟨h1,h2⟩:=HL j p i o hp DZ nX xA
   obtain⟨h3,h4⟩:=QR j u i us[i] hj hu nX xA
   refine⟨fun t ht=> ?_,fun k hk=>(h3 k hk).2⟩
   rw[Y6]
   exact(h1 t (by rw[←hPt.1];exact ht)).1
  have uG: ∀j,(listed.setIfInBounds i true).getD j false=true↔(j=i∨listed.getD j false=true):=by
   intro j
   by_cases tx:j=i
   ·subst tx
    constructor
    ·intro _;exact .inl rfl
    ·intro _;simp[AP]
   ·rw[getD_set_ne false (avr tx)]
    exact⟨.inr,fun h=>h.resolve_left tx⟩
  classical
  let K':St→List Nat→List Nat→Option α:=fun σ' _ _=>if σ'=us[i].app σ then some x0 else none
  have hK:o0 E ops.toList o σ K'=some x0:=by rw[aed K'];simp[K']
  have:=wK (Q:=Q) (next:=wpAny P .any ops Q fuel (listed.setIfInBounds i true)) hE hI hK (fun σ' a' w' rd wr hσ' sX=>by
   have ajK:σ'=us[i].app σ:=by
    by_cases h:σ'=us[i].app σ
    ·exact h
    ·simp[K',h]at hσ'
   subst ajK
   refine ih _ a' w' ?_ ⟨by simpa using hs,fun j p hp ES e he hb=> ?_,_,hIs.congr (fun j=>(uG j).symm),sX⟩
   ·have hlen:((List.range ops.size).filter fun j=> !((listed.setIfInBounds i true).getD j false)).length<((List.range ops.size).filter fun j=> !(listed.getD j false)).length:=by
     have Lb:((List.range ops.size).filter fun j=> !((listed.setIfInBounds i true).getD j false))=((List.range ops.size).filter fun j=> !(listed.getD j false)).filter fun j=> !(Nat.beq j i):=by
      rw[List.filter_filter]
      apply List.filter_congr
      intro j _
      by_cases tx:j=i
      ·subst tx
       have h1:=(uG j).2 (.inl rfl)
       rw[h1];simp
      ·have h1:Nat.beq j i=false:=by rw[←avi,awQ];exact tx
       rw[h1,getD_set_ne false (avr tx)];simp
     rw[Lb]
     refine List.length_filter_lt_length_iff_exists.2 ⟨i,?_,by simp⟩
     rw[awZ];exact⟨avH.2 his,by rw[h0];rfl⟩
    omega
   ·rcases(uG j).1 ES with rfl|ES
    ·rw[DZ]at hp;cases hp
     exact(uG _).2 (.inr (EO e he hb))
    ·exact(uG _).2 (.inr (DX j p hp ES e he hb)))
  unfold wpOp
  rw[ho]
  simp only
  split
  ·rename_i hw;rw[atK hw]at this;exact .inl this
  ·rename_i hw;rw[atL hw]at this;exact this
theorem A3(hE:n6 P E){id:Nat}{ops:Array Oper}{draw:Bool}(hI:Inv c E σ a w){K:St→Option α}(h:xY E ops draw σ K=some r)
  (hn: ∀σ' a' w',K σ'=some r→Inv c E σ' a' w'→Q .normal a' w'):(Code.region id ops draw).wp P Q a w:=by
 cases draw
 ·refine wp_region_list (yP hE ops.toList 0 σ [] a w _ hI h fun σ' Xk a' w' h' sX=> ?_)
  exact hn σ' a' w' (bB h').2 sX
 ·unfold xY at h
  obtain⟨us,hl,hpt,lg,hK,_,aee⟩:=JX _ _ _ _ _ h
  obtain⟨hok,hK⟩:=bB hK
  simp only[at3,av5,atW]at hok
  obtain⟨HL,QR⟩:=hok
  unfold Nj at HL
  simp only[atW,avw]at HL
  obtain⟨ajL,ajM⟩:=HL
  have hz: ∀j o,ops.toList[j]? =some o→(o,j)∈ops.toList.zipIdx:=fun j o hj=>List.mem_zipIdx_iff_getElem?.2 hj
  refine wp_region_any hE.mixed (CP (Q:=Q) (σ0:=σ) hE r hl hpt rfl (fun j o hj e he hbe=> ?_) (fun j o i p hj hi nX hb=> ?_) (fun j u i v hj hi nX hb=> ?_) (fun a' w' sX=>hn _ a' w' hK sX) ops.size (Array.replicate ops.size false) a _ ?_ ?_)
  ·have:=ajL (o,j) (hz j o hj) e (by simpa using he)
   rw[hbe]at this
   simpa [axa]using this
  ·have:=ajM (o,j) (hz j o hj) (p,i) (hz i p hi)
   simp only[hb,av6,avf,avp,Bool.or_eq_false_iff]at this
   have AN: ¬Nat.ble j i=true:=by rw[axb];omega
   have this:=this.resolve_left AN
   refine⟨fun d hd=>⟨fun RF=> ?_,fun RF=> ?_⟩,fun d hd RF=> ?_⟩
   ·exact iV this.1 (x:=d) (by simp[hd]) (by simp[RF])
   ·exact iV this.1 (x:=d) (by simp[hd]) (by simp[RF])
   ·exact iV this.2 (x:=d) (by simp[hd]) RF
  ·unfold Xb at QR
   simp only[avw]at QR
   have Xl:=aee j u hj
   have kQ:=aee i v hi
   rw[auP]at Xl kQ
   have:=QR _ Xl _ kQ
   simp only[hb,av6,avf,avp,Bool.or_eq_false_iff]at this
   have AN: ¬Nat.ble j i=true:=by rw[axb];omega
   have this:=this.resolve_left AN
   refine⟨fun k hk=>⟨fun AT=> ?_,fun AT=> ?_⟩,fun k hk AT=> ?_⟩
   ·exact iV this.1 (x:=k) hk (at5 _ AT)
   ·exact iV this.1 (x:=k) hk (aub _ AT)
   ·exact iV this.2 (x:=k) hk AT
  ·refine aut (List.length_filter_le _ _) ?_
   rw[avS];exact atP _
  ·have hf: ∀j,(Array.replicate ops.size false).getD j false=false:=by
    intro j
    rw[auM,Array.getElem?_replicate]
    split<;>rfl
   obtain⟨⟨M,ν,hc⟩,hs,hd,sJ⟩:=hI
   refine⟨by simp,fun j o _ hS=>(by rw[hf]at hS;cases hS),σ,(kU.start us σ).congr (fun j=>(by rw[hf];simp)),⟨M,ν,?_⟩,hs,hd,sJ⟩
   exact hc.tr (Tr.drew hc.mem)
end VM
end
