/- A part of the proof of HedgeLess of layer 22: a machine that reads a function of the program as an equation between values. -/
import Derived.Test.YtocmlaipoebfeaaGreatVm4
set_option linter.all false
section
namespace VM
open Go
variable{α:Type}{r:α}
theorem dR{υ τ:Ty}{y:υ.den}{k:τ.den→Option α}(h:df υ τ y k=some r): ∃z,k z=some r∧ ∀k':τ.den→Option α,df υ τ y k'=k' z:=by
 obtain⟨e,h⟩:=bG h
 subst e
 exact⟨y,h,λk'=>by simp[df]⟩
theorem kj{υ τ:Ty}{k:Option α}(h:nB υ τ k=some r):k=some r∧ ∀k':Option α,nB υ τ k'=k':=by
 obtain⟨e,h1⟩:=fV h
 clear h
 subst e
 exact⟨h1,λk'=>by simp[nB]⟩
theorem eM{b:Bool}{K:Option α}(h:cond b K none=some r):K=some r∧ ∀K':Option α,cond b K' none=K':=by
 obtain⟨rfl,h⟩:=cF h
 exact⟨h,λ_=>rfl⟩
theorem uT{b:Bool}{K:Option α}(h:cond b none K=some r):K=some r∧ ∀K':Option α,cond b none K'=K':=by
 obtain⟨rfl,h⟩:=mK h
 exact⟨h,λ_=>rfl⟩
theorem yl: ∀{τ:Ty} {x:τ.den} {n:Nat} {k:(υ:Ty)→υ.den→Option α},yF τ x n k=some r→ ∃υ y,k υ y=some r∧ ∀k':(υ:Ty)→υ.den→Option α,yF τ x n k'=k' υ y
 | .pair a b,x,0,k,h=>⟨a,x.1,h,λ_=>rfl⟩
 | .pair a b,x,n+1,k,h=>by
  obtain⟨υ,y,h1,h2⟩:=yl (τ:=b) (x:=x.2) (n:=n) (k:=k) h
  exact⟨υ,y,h1,λk'=>h2 k'⟩
 | .int _,_,_,_,h| .bool,_,_,_,h| .str,_,_,_,h| .slice _,_,_,_,h| .unit,_,_,_,h| .arr _ _,_,_,_,h=>by simp[yF]at h
theorem zr: ∀{τ:Ty} {x:τ.den} {n:Nat} {m:(υ:Ty)→υ.den→(υ.den→Option α)→Option α} {k:τ.den→Option α},
  (∀υ y (k:υ.den→Option α),m υ y k=some r→ ∃z,k z=some r∧ ∀k':υ.den→Option α,m υ y k'=k' z)→nA τ x n m k=some r→ ∃z,k z=some r∧ ∀k':τ.den→Option α,nA τ x n m k'=k' z
 | .pair a b,x,0,m,k,hm,h=>by
  obtain⟨z,h1,h2⟩:=hm a x.1 _ h
  exact⟨(z,x.2),h1,λk'=>h2 _⟩
 | .pair a b,x,n+1,m,k,hm,h=>by
  obtain⟨z,h1,h2⟩:=zr (τ:=b) (x:=x.2) (n:=n) (m:=m) (k:=λz=>k (x.1,z)) hm h
  exact⟨(x.1,z),h1,λk'=>h2 (λz=>k' (x.1,z))⟩
 | .int _,_,_,_,_,_,h| .bool,_,_,_,_,_,h| .str,_,_,_,_,_,h| .slice _,_,_,_,_,_,h| .unit,_,_,_,_,_,h| .arr _ _,_,_,_,_,_,h=>by simp[nA]at h
theorem gT: ∀{p:List Step} {τ:Ty} {x:τ.den} {k:(υ:Ty)→υ.den→Option α},Ay p τ x k=some r→ ∃υ y,k υ y=some r∧ ∀k':(υ:Ty)→υ.den→Option α,Ay p τ x k'=k' υ y
 |[],τ,x,k,h=>⟨τ,x,h,λ_=>rfl⟩
 | .kE n::p,τ,x,k,h=>by
  obtain⟨υ,y,h1,h2⟩:=yl (h:yF τ x n _=some r)
  obtain⟨υ',y',h3,h4⟩:=gT h1
  exact⟨υ',y',h3,λk'=>(h2 _).trans (h4 k')⟩
 | .idx i::p,τ,x,k,h=>by
  cases τ with
  |arr n e=>
   obtain⟨υ',y',h3,h4⟩:=gT (p:=p) (τ:=e) (x:=List.getD x i e.zero) (k:=k) h
   exact⟨υ',y',h3,λk'=>h4 k'⟩
  |_=>simp[Ay,aji]at h
theorem pb{υ:Ty}{y:υ.den}: ∀{p:List Step} {τ:Ty} {x:τ.den} {k:τ.den→Option α},wJ υ y p τ x k=some r→ ∃z,k z=some r∧ ∀k':τ.den→Option α,wJ υ y p τ x k'=k' z
 |[],τ,x,k,h=>dR h
 | .kE n::p,τ,x,k,h=>zr (λ_ _ _ h=>pb h) h
 | .idx i::p,τ,x,k,h=>by
  cases τ with
  |arr n e=>
   obtain⟨z,h1,h2⟩:=pb (p:=p) (τ:=e) (x:=List.getD x i e.zero) (k:=λz=>k (List.set x i z)) h
   exact⟨_,h1,λk'=>h2 (λz=>k' (List.set x i z))⟩
  |_=>simp[wJ,EC]at h
theorem tu{a:bI}{k:IntKind→Int→Option α}(h:xb a k=some r): ∃i n,k i n=some r∧ ∀k':IntKind→Int→Option α,xb a k'=k' i n:=by
 obtain⟨i,n,rfl,h⟩:=nF h
 exact⟨i,n,h,λ_=>rfl⟩
theorem TD{a:bI}{k:(τ:Ty)→τ.den→Option α}(h:Ng a k=some r): ∃τ x,k τ x=some r∧ ∀k':(τ:Ty)→τ.den→Option α,Ng a k'=k' τ x:=by
 unfold Ng at h
 split at h
 ·exact⟨_,_,h,λ_=>rfl⟩
 ·cases h
theorem vD{a:Option bI}{d:Int}{k:Int→Option α}(h:zi a d k=some r): ∃n,k n=some r∧ ∀k':Int→Option α,zi a d k'=k' n:=by
 cases a with
 |none=>exact⟨d,h,λ_=>rfl⟩
 |some a=>
  obtain⟨i,n,h1,h2⟩:=tu (h:xb a (λ_ x=>k x)=some r)
  exact⟨n,h1,λk'=>h2 (λ_ x=>k' x)⟩
abbrev Ag(rd:List Nat)(H H':Nat→Option bl):Prop:= ∀i∈rd,H' i=H i
theorem pd{fz:Bool}{a:bI}{H:Nat→Option bl}{τ:Ty}{k:τ.den→List Nat→ja→Option α}(h:mw fz a H τ k=some r):
  ∃y rd ups,k y rd ups=some r∧ ∀H',Ag rd H H'→ ∀k':τ.den→List Nat→ja→Option α,mw fz a H' τ k'=k' y rd ups:=by
 cases a with
 |val υ x=>
  simp only[mw]at h
  obtain⟨z,h1,h2⟩:=dR h
  refine⟨z,[],[],h1,λH' _ k'=> ?_⟩
  simp only[mw]
  exact h2 (λy=>k' y [] [])
 |KL υ x n=>
  simp only[mw]at h
  obtain⟨z,h1,h2⟩:=dR h
  refine⟨z,[],[],h1,λH' _ k'=> ?_⟩
  simp only[mw]
  exact h2 (λy=>k' y [] [])
 |emp=>
  cases τ with
  |slice e=>exact⟨[],[],[],h,λ_ _ _=>rfl⟩
  |_=>cases h
 |ref id=>
  have h:(match H id with
   |some (.own e l)=>df (.slice e) τ l λy=>k y [id] (cond fz [(id,some (.o8 e l))] [])
   |some (.o8 e l)=>df (.slice e) τ l λy=>k y [id] []
   |_=>none)=some r:=h
  cases hH:H id with
  |none=>rw[hH]at h;cases h
  |some e=>
   rw[hH]at h
   cases e with
   |own e l=>
    obtain⟨z,h1,h2⟩:=dR (h:df (.slice e) τ l _=some r)
    refine⟨z,_,_,h1,λH' hA k'=> ?_⟩
    have:H' id=some (.own e l):=by rw[hA id (by simp),hH]
    show(match H' id with
     |some (.own e l)=>df (.slice e) τ l λy=>k' y [id] (cond fz [(id,some (.o8 e l))] [])
     |some (.o8 e l)=>df (.slice e) τ l λy=>k' y [id] []
     |_=>none)=_
    rw[this];exact h2 _
   |o8 e l=>
    obtain⟨z,h1,h2⟩:=dR (h:df (.slice e) τ l _=some r)
    refine⟨z,_,_,h1,λH' hA k'=> ?_⟩
    have:H' id=some (.o8 e l):=by rw[hA id (by simp),hH]
    show(match H' id with
     |some (.own e l)=>df (.slice e) τ l λy=>k' y [id] (cond fz [(id,some (.o8 e l))] [])
     |some (.o8 e l)=>df (.slice e) τ l λy=>k' y [id] []
     |_=>none)=_
    rw[this];exact h2 _
   |obj _ _=>cases h
   |ga _ _ _ _=>cases h
   |gone=>cases h
 |any|Xx|jr _ _|rP _ _|tup _|Nd _ _=>cases h
theorem B9{id:Nat}{p:List Step}{H:Nat→Option bl}{k:Ty→Option α}(h:nC id p H k=some r): ∃υ,k υ=some r∧ ∀H',H' id=H id→ ∀k':Ty→Option α,nC id p H' k'=k' υ:=by
 unfold nC at h
 split at h
 ·rename_i τ x bo
  obtain⟨υ,y,h1,h2⟩:=gT h
  exact⟨υ,h1,λH' hA k'=>by unfold nC;rw[hA,bo];exact h2 _⟩
 ·rename_i τ x _ _ bo
  obtain⟨υ,y,h1,h2⟩:=gT h
  exact⟨υ,h1,λH' hA k'=>by unfold nC;rw[hA,bo];exact h2 _⟩
 ·rename_i e l bo
  split at h
  ·obtain⟨υ,y,h1,h2⟩:=gT h
   exact⟨υ,h1,λH' hA k'=>by unfold nC;rw[hA,bo];exact h2 _⟩
  ·cases h
 ·rename_i e l bo
  split at h
  ·obtain⟨υ,y,h1,h2⟩:=gT h
   exact⟨υ,h1,λH' hA k'=>by unfold nC;rw[hA,bo];exact h2 _⟩
  ·cases h
 ·cases h
theorem ym{H:Nat→Option bl}{id:Nat}{e:bl}{K:Option α}(h:rQ H id e K=some r):K=some r∧ ∀H',H' id=H id→ ∀(e':bl) (K':Option α),rQ H' id e' K'=K':=by
 obtain⟨h1,h2⟩:=lK h
 exact⟨h2,λH' hA e' K'=>by unfold rQ;rw[hA,h1]⟩
theorem Vf{b:BinOp}{k:IntKind}{x y:Int}{K:bI→Option α}(h:vt b k x y K=some r): ∃v,K v=some r∧ ∀K':bI→Option α,vt b k x y K'=K' v:=by
 cases b<;>simp only[vt]at h ⊢ <;>first
  |exact⟨_,h,λ_=>rfl⟩
  |(obtain⟨h1,h2⟩:=uT h;exact⟨_,h1,λ_=>h2 _⟩)
  |cases h
theorem ajV{b:BinOp}{k:IntKind}{x y:Int}{K:bI→Option α}(h:shK b k x y K=some r): ∃v,K v=some r∧ ∀K':bI→Option α,shK b k x y K'=K' v:=by
 cases b<;>simp only[shK]at h ⊢ <;>first
  |(obtain⟨h1,h2⟩:=uT h;exact⟨_,h1,λ_=>h2 _⟩)
  |cases h
theorem XW{t:Option Ty}{op:BinOp}{τ:Ty}{x:τ.den}{υ:Ty}{y:υ.den}{K:bI→Option α}(h:FI t op τ x υ y K=some r): ∃v,K v=some r∧ ∀K':bI→Option α,FI t op τ x υ y K'=K' v:=by
 unfold FI at h ⊢
 split at h
 ·rename_i k x k' y
  cases hs:abx op
  ·rw[hs]at h
   have h:(if k=k' then vt op k x y K else none)=some r:=h
   by_cases hk:k=k'
   ·rw[ah hk]at h
    obtain⟨v,h1,h2⟩:=Vf h
    exact⟨v,h1,λK'=>by simp only[av,ah hk];exact h2 K'⟩
   ·rw[aj hk]at h;cases h
  ·rw[hs]at h
   obtain⟨v,h1,h2⟩:=ajV (h:shK op k x y K=some r)
   exact⟨v,h1,λK'=>by simp only[ak];exact h2 K'⟩
 ·split at h
  ·cases h
  ·obtain⟨h1,h2⟩:=kj h
   obtain⟨h3,h4⟩:=eM h1
   split at h3
   ·obtain⟨z,h5,h6⟩:=dR h3
    exact⟨_,h5,λK'=>by rw[h2,h4];exact h6 _⟩
   ·obtain⟨z,h5,h6⟩:=dR h3
    exact⟨_,h5,λK'=>by rw[h2,h4];exact h6 _⟩
   ·cases h3
theorem abZ{u:UnOp}{a:bI}{K:bI→Option α}(h:UT u a K=some r): ∃v,K v=some r∧ ∀K':bI→Option α,UT u a K'=K' v:=by
 unfold UT at h
 split at h<;>first
  |exact⟨_,h,λ_=>rfl⟩
  |cases h
theorem RK{up:Bool}: ∀{xs:List bI} {a:bI} {K:bI→Option α},mmK up a xs K=some r→ ∃v,K v=some r∧ ∀K':bI→Option α,mmK up a xs K'=K' v
 |[],a,K,h=>⟨a,h,λ_=>rfl⟩
 |b::xs,a,K,h=>by
  unfold mmK at h
  obtain⟨k,x,h1,h2⟩:=tu h
  obtain⟨k',y,h3,h4⟩:=tu h1
  by_cases hk:k=k'
  ·rw[ah hk]at h3
   obtain⟨v,h5,h6⟩:=RK h3
   refine⟨v,h5,λK'=> ?_⟩
   unfold mmK
   rw[h2,h4,ah hk]
   exact h6 K'
  ·rw[aj hk]at h3;cases h3
theorem ab0{τ:Ty}{a:bI}{H:Nat→Option bl}{K:jg α}(h:Nh τ a H K=some r): ∃v rd ups,K v rd ups=some r∧ ∀H',Ag rd H H'→ ∀K':jg α,Nh τ a H' K'=K' v rd ups:=by
 unfold Nh at h
 split at h
 ·exact⟨_,_,_,h,λ_ _ _=>rfl⟩
 ·exact⟨_,_,_,h,λ_ _ _=>rfl⟩
 ·exact⟨_,_,_,h,λ_ _ _=>rfl⟩
 ·exact⟨_,_,_,h,λ_ _ _=>rfl⟩
 ·split at h
  ·rename_i bo
   exact⟨_,_,_,h,λH' hA K'=>by unfold Nh;simp only;rw[hA _ (by simp),bo]⟩
  ·rename_i bo
   exact⟨_,_,_,h,λH' hA K'=>by unfold Nh;simp only;rw[hA _ (by simp),bo]⟩
  ·cases h
 ·cases h
theorem ab1{id:Nat}{e:Ty}{a b:bI}{H:Nat→Option bl}{K:jg α}(h:Ni id e a b H K=some r): ∃v rd ups,K v rd ups=some r∧id∈rd∧ ∀H',Ag rd H H'→ ∀K':jg α,Ni id e a b H' K'=K' v rd ups:=by
 unfold Ni at h
 obtain⟨ys,rd,ups,h1,h2⟩:=pd h
 split at h1
 ·obtain⟨h3,h4⟩:=eM h1
  refine⟨_,_,_,h3,by simp,λH' hA K'=> ?_⟩
  unfold Ni
  rw[h2 H' (λi hi=>hA i (a7 _ hi))]
  exact h4 _
 ·rename_i j
  split at h1
  ·rename_i e' l hj
   obtain⟨z,h3,h4⟩:=dR h1
   obtain⟨h5,h6⟩:=eM h3
   refine⟨_,_,_,h5,by simp,λH' hA K'=> ?_⟩
   unfold Ni
   rw[h2 H' (λi hi=>hA i (a7 _ (a7 _ hi)))]
   simp only
   rw[hA j (by simp),hj]
   simp only
   rw[h4]
   exact h6 _
  ·cases h1
 ·cases h1
theorem F8{e:Ty}{n:Nat}{H:Nat→Option bl}: ∀{ps:List (Nat×bI)} {l:List e.den} {Ji:List Nat} {F9:ja} {K:List e.den→List Nat→ja→Option α},xd e H n ps l Ji F9 K=some r→
  ∃l' rd ups,K l' rd ups=some r∧(∀i∈Ji,i∈rd)∧ ∀H',Ag rd H H'→ ∀K':List e.den→List Nat→ja→Option α,xd e H' n ps l Ji F9 K'=K' l' rd ups
 |[],l,Ji,F9,K,h=>⟨l,Ji,F9,h,λ_ h=>h,λ_ _ _=>rfl⟩
 |p::ps,l,Ji,F9,K,h=>by
  unfold xd at h
  obtain⟨h1,h2⟩:=eM h
  obtain⟨y,rd1,RG,h3,h4⟩:=pd h1
  obtain⟨l',rd,ups,h5,h6,h7⟩:=F8 h3
  refine⟨l',rd,ups,h5,λi hi=>h6 i (dK _ hi),λH' hA K'=> ?_⟩
  unfold xd
  rw[h2,h4 H' (λi hi=>hA i (h6 i (c3 _ hi)))]
  exact h7 H' hA K'
theorem Jj{τ:Ty}{H:Nat→Option bl}: ∀{ps:List (Nat×bI)} {x:τ.den} {Ji:List Nat} {F9:ja} {K:τ.den→List Nat→ja→Option α},vu τ H ps x Ji F9 K=some r→
  ∃x' rd ups,K x' rd ups=some r∧(∀i∈Ji,i∈rd)∧ ∀H',Ag rd H H'→ ∀K':τ.den→List Nat→ja→Option α,vu τ H' ps x Ji F9 K'=K' x' rd ups
 |[],x,Ji,F9,K,h=>⟨x,Ji,F9,h,λ_ h=>h,λ_ _ _=>rfl⟩
 |p::ps,x,Ji,F9,K,h=>by
  unfold vu at h
  obtain⟨υ,z,h1,h2⟩:=yl h
  obtain⟨y,rd1,RG,h3,h4⟩:=pd h1
  obtain⟨z',h5,h6⟩:=zr (m:=fun υ' _ k'=>df υ υ' y k') (fun υ' y' k hk=>dR hk) h3
  obtain⟨x',rd,ups,h7,h8,h9⟩:=Jj h5
  refine⟨x',rd,ups,h7,λi hi=>h8 i (dK _ hi),λH' hA K'=> ?_⟩
  unfold vu
  rw[h2,h4 H' (λi hi=>hA i (h8 i (c3 _ hi))),h6]
  exact h9 H' hA K'
theorem XX{H:Nat→Option bl}{v:bI}{a:Ty}{k:a.den→List Nat→ja→Option α}(h:CZ v H a k=some r):
  ∃x rd ups,k x rd ups=some r∧ ∀H',Ag rd H H'→ ∀k':a.den→List Nat→ja→Option α,CZ v H' a k'=k' x rd ups:=by
 unfold CZ at h
 split at h
 ·split at h
  ·obtain⟨z,h1,h2⟩:=dR h
   refine⟨_,_,_,h1,λH' _ k'=> ?_⟩
   unfold CZ
   simp only
   rw[h2]
  ·cases h
 ·rename_i k0 uN
  obtain⟨y,rd,ups,h1,h2⟩:=pd h
  refine⟨y,rd,ups,h1,λH' hA k'=> ?_⟩
  unfold CZ
  split
  ·exact(uN _ _ rfl HEq.rfl).elim
  ·exact h2 H' hA _
theorem NN{H:Nat→Option bl}: ∀{τ:Ty} {vs:List bI} {k:τ.den→List Nat→ja→Option α},rR H τ vs k=some r→
  ∃x rd ups,k x rd ups=some r∧ ∀H',Ag rd H H'→ ∀k':τ.den→List Nat→ja→Option α,rR H' τ vs k'=k' x rd ups
 | .unit,[],k,h=>⟨(),[],[],h,λ_ _ _=>rfl⟩
 | .pair a b,v::vs,k,h=>by
  unfold rR at h
  obtain⟨y,rd,ups,h1,h2⟩:=XX h
  obtain⟨ys,BY,ow,h3,h4⟩:=NN h1
  refine⟨(y,ys),_,_,h3,λH' hA k'=> ?_⟩
  unfold rR
  rw[h2 H' (λi hi=>hA i (dK _ hi)),h4 H' (λi hi=>hA i (c3 _ hi))]
 | .unit,_::_,_,h=>by simp[rR]at h
 | .pair _ _,[],_,h=>by simp[rR]at h
 | .int _,_,_,h| .bool,_,_,h| .str,_,_,h| .slice _,_,_,h| .arr _ _,_,_,h=>by simp[rR]at h
theorem Ga: ∀{qK:List bI} {H:Nat→Option bl} {K:List bI→List Nat→ja→Option α},xe H qK K=some r→
  ∃cs rd ups,K cs rd ups=some r∧ ∀H',Ag rd H H'→ ∀K':List bI→List Nat→ja→Option α,xe H' qK K'=K' cs rd ups
 |[],H,K,h=>⟨[],[],[],h,λ_ _ _=>rfl⟩
 |a::qK,H,K,h=>by
  unfold xe at h
  split at h
  ·rename_i id
   split at h
   ·rename_i τ x bo
    obtain⟨cs,rd,ups,h1,h2⟩:=Ga h
    refine⟨_,_,_,h1,λH' hA K'=> ?_⟩
    unfold xe
    simp only
    rw[hA id (by simp),bo]
    simp only
    rw[h2 (bZ H' id (some .gone)) (λi hi=>by
     by_cases bY:i=id
     ·subst bY;rw[ay,ay]
     ·rw[az _ _ bY,az _ _ bY];exact hA i (a7 _ hi))]
   ·cases h
  ·rename_i uN
   obtain⟨cs,rd,ups,h1,h2⟩:=Ga h
   refine⟨_,_,_,h1,λH' hA K'=> ?_⟩
   unfold xe
   split
   ·exact absurd rfl (uN _)
   ·rw[h2 H' hA]
end VM
end
section
namespace VM
open Go
variable{α:Type}{r:α}
theorem NO{m:AM}{a:bI}{H:Nat→Option bl}{k:m.den→(Nat→Option bl)→List Nat→ja→ja→List (Nat×AM)→Option α}(h:oj m a H k=some r):
  ∃y rd uo uf io,∃g:(Nat→Option bl)→(Nat→Option bl),k y (g H) rd uo uf io=some r∧(∀H' i,H' i=H i→g H' i=g H i)∧
   ∀H',Ag rd H H'→ ∀k':m.den→(Nat→Option bl)→List Nat→ja→ja→List (Nat×AM)→Option α,oj m a H' k'=k' y (g H') rd uo uf io:=by
 have NP: ∀(d:Nat) (v:Option bl) (H':Nat→Option bl) (i:Nat),H' i=H i→bZ H' d v i=bZ H d v i:=by
  intro d v H' i hi
  by_cases bo:i=d
  ·subst bo;rw[ay,ay]
  ·rw[az _ _ bo,az _ _ bo,hi]
 unfold oj at h
 split at h
 ·rename_i τ k
  obtain⟨y,rd,ups,h1,h2⟩:=pd h
  cases ups with
  |nil=>
   refine⟨y,rd,[],[],[],λH=>H,h1,λ_ _ h=>h,λH' hA k'=> ?_⟩
   unfold oj;simp only;rw[h2 H' hA]
  |cons u rest=>
   refine⟨y,rd,[],u::rest,[],λH=>bZ H u.1 u.2,h1,λH' i hi=>NP _ _ H' i hi,λH' hA k'=> ?_⟩
   unfold oj;simp only;rw[h2 H' hA]
 ·rename_i e k
  split at h
  ·exact⟨[],[],[],[],[],λH=>H,h,λ_ _ h=>h,λ_ _ _=>rfl⟩
  ·rename_i id
   split at h
   ·rename_i e' l bo
    obtain⟨z,h1,h2⟩:=dR h
    refine⟨z,[id],_,_,_,λH=>bZ H id (some .gone),h1,λH' i hi=>NP _ _ H' i hi,λH' hA k'=> ?_⟩
    unfold oj;simp only;rw[hA id (by simp),bo];simp only;rw[h2]
   ·cases h
  ·cases h
 ·rename_i τ k
  split at h
  ·rename_i id
   split at h
   ·rename_i υ x bo
    obtain⟨z,h1,h2⟩:=dR h
    refine⟨z,[id],_,_,_,λH=>bZ H id (some .gone),h1,λH' i hi=>NP _ _ H' i hi,λH' hA k'=> ?_⟩
    unfold oj;simp only;rw[hA id (by simp),bo];simp only;rw[h2]
   ·cases h
  ·cases h
 ·rename_i f τ k
  split at h
  ·rename_i f' cs
   obtain⟨h1,h2⟩:=eM h
   obtain⟨x,rd,ups,h3,h4⟩:=NN h1
   cases ups with
   |nil=>
    refine⟨x,rd,[],[],[],λH=>H,h3,λ_ _ h=>h,λH' hA k'=> ?_⟩
    unfold oj;simp only;rw[h2,h4 H' hA]
   |cons _ _=>cases h3
  ·cases h
 ·cases h
 ·rename_i τ k
  split at h
  ·obtain⟨z,h1,h2⟩:=dR h
   refine⟨z,[],[],[],[],λH=>H,h1,λ_ _ h=>h,λH' hA k'=> ?_⟩
   unfold oj;simp only;rw[h2]
  ·cases h
 ·rename_i e k
  split at h
  ·rename_i id
   split at h
   ·rename_i e' l bo
    obtain⟨z,h1,h2⟩:=dR h
    refine⟨z,[id],_,_,_,λH=>bZ H id (some .gone),h1,λH' i hi=>NP _ _ H' i hi,λH' hA k'=> ?_⟩
    unfold oj;simp only;rw[hA id (by simp),bo];simp only;rw[h2]
   ·cases h
  ·cases h
theorem NQ: ∀{ms:List AM} {qK:List bI} {H:Nat→Option bl} {Ji:List Nat} {uo0 uf0:ja} {io0:List (Nat×AM)} {K:HP ms→List Nat→ja→ja→List (Nat×AM)→Option α},uE ms qK H Ji uo0 uf0 io0 K=some r→
  ∃x rd uo uf io,K x rd uo uf io=some r∧(∀i∈Ji,i∈rd)∧ ∀H',Ag rd H H'→ ∀K':HP ms→List Nat→ja→ja→List (Nat×AM)→Option α,uE ms qK H' Ji uo0 uf0 io0 K'=K' x rd uo uf io
 |[],[],H,Ji,uo0,uf0,io0,K,h=>⟨(),_,_,_,_,h,λ_ h=>h,λ_ _ _=>rfl⟩
 |[m],[a],H,Ji,uo0,uf0,io0,K,h=>by
  obtain⟨y,rd,uo,uf,io,g,h1,h2,h3⟩:=NO (h:oj m a H _=some r)
  exact⟨y,_,_,_,_,h1,λi hi=>dK _ hi,λH' hA K'=>h3 H' (λi hi=>hA i (c3 _ hi)) _⟩
 |m::n::ms,a::qK,H,Ji,uo0,uf0,io0,K,h=>by
  obtain⟨y,rd,uo,uf,io,g,h1,h2,h3⟩:=NO (h:oj m a H _=some r)
  obtain⟨ys,BY,MH,MI,HZ,h4,h5,h6⟩:=NQ (ms:=n::ms) h1
  refine⟨(y,ys),BY,MH,MI,HZ,h4,λi hi=>h5 i (dK _ hi),λH' hA K'=> ?_⟩
  refine(h3 H' (λi hi=>hA i (h5 i (c3 _ hi))) _).trans ?_
  exact h6 (g H') (λi hi=>h2 H' i (hA i hi)) _
 |[],_::_,_,_,_,_,_,_,h=>by simp[uE]at h
 |[_],[],_,_,_,_,_,_,h=>by simp[uE]at h
 |[_],_::_::_,_,_,_,_,_,_,h=>by simp[uE]at h
 |_::_::_,[],_,_,_,_,_,_,h=>by simp[uE]at h
theorem XY{id i:Nat}: ∀{n:Nat},i∈Nk id n↔id≤i∧i<id+n
 |0=>by simp[Nk]
 |n+1=>by simp only[Nk,aZ,XY];omega
theorem y5{H H':Nat→Option bl}{id:Nat}: ∀{n:Nat},(∀i∈Nk id n,H' i=H i)→vv H' id n=vv H id n
 |0,_=>rfl
 |n+1,h=>by
  unfold vv
  rw[h (id+n) (by simp[Nk]),y5 λi hi=>h i (by simp[Nk,hi])]
theorem XZ{E:Env}{f id:Nat}{qK:List bI}{H:Nat→Option bl}{K:jg α}(h:C1 E f qK id H K=some r): ∃v rd ups,K v rd ups=some r∧ ∀H',Ag rd H H'→ ∀K':jg α,C1 E f qK id H' K'=K' v rd ups:=by
 unfold C1 at h
 split at h
 ·cases h
 ·rename_i S hS
  obtain⟨x,rd,uo,uf,io,h1,_,h2⟩:=NQ h
  obtain⟨y,hy,h3⟩:=uv.1 h1
  obtain⟨h4,h5⟩:=cF h3
  refine⟨_,_,_,h5,λH' hA K'=> ?_⟩
  unfold C1
  rw[hS]
  simp only
  rw[h2 H' (λi hi=>hA i (dK _ (dK _ hi))),hy]
  simp only[ar]
  rw[y5 (λi hi=>hA i (c3 _ hi)),h4]
  rfl
theorem Vg{t:Ty}{z:Bool}{a:bI}{lo hi mx:Option bI}{H:Nat→Option bl}{K:jg α}(h:rS t z a lo hi mx H K=some r): ∃v rd ups,K v rd ups=some r∧ ∀H',Ag rd H H'→ ∀K':jg α,rS t z a lo hi mx H' K'=K' v rd ups:=by
 unfold rS at h
 split at h
 ·obtain⟨h1,e1⟩:=eM h
  obtain⟨l,h2,e2⟩:=vD h1
  obtain⟨m,h3,e3⟩:=vD h2
  obtain⟨h4,e4⟩:=eM h3
  exact⟨_,_,_,h4,λH' _ K'=>by unfold rS;simp only;rw[e1,e2,e3,e4]⟩
 ·cases z
  ·obtain⟨h1,e1⟩:=eM (h:cond mx.isNone _ none=some r)
   obtain⟨l,h2,e2⟩:=vD h1
   obtain⟨m,h3,e3⟩:=vD h2
   obtain⟨h4,e4⟩:=eM h3
   exact⟨_,_,_,h4,λH' _ K'=>by unfold rS;simp only[av];rw[e1,e2,e3,e4]⟩
  ·exact⟨_,_,_,h,λH' _ K'=>by unfold rS;rfl⟩
 ·rename_i e iI
  obtain⟨y,rd,ups,h1,e1⟩:=pd h
  cases z
  ·obtain⟨h2,e2⟩:=eM (h1:cond (mx.isNone||hi.isSome) _ none=some r)
   obtain⟨l,h3,e3⟩:=vD h2
   obtain⟨m,h4,e4⟩:=vD h3
   obtain⟨n,h5,e5⟩:=vD h4
   obtain⟨h6,e6⟩:=eM h5
   refine⟨_,_,_,h6,λH' hA K'=> ?_⟩
   unfold rS
   simp only
   rw[e1 H' hA]
   simp only[av]
   rw[e2,e3,e4,e5,e6]
  ·refine⟨_,_,_,(h1:K .emp rd []=some r),λH' hA K'=> ?_⟩
   unfold rS
   simp only
   rw[e1 H' hA]
   rfl
 ·cases h
theorem Ix{τ:Ty}{a i:bI}{H:Nat→Option bl}{K:jg α}(h:gC τ a i H K=some r): ∃v rd ups,K v rd ups=some r∧ ∀H',Ag rd H H'→ ∀K':jg α,gC τ a i H' K'=K' v rd ups:=by
 unfold gC at h
 obtain⟨k,n,h,e0⟩:=tu h
 split at h
 ·split at h
  ·obtain⟨z,h1,e1⟩:=dR h
   obtain⟨h2,e2⟩:=eM h1
   exact⟨_,_,_,h2,λH' _ K'=>by unfold gC;rw[e0];simp only;rw[e1,e2]⟩
  ·split at h
   ·rename_i bo
    obtain⟨h1,e1⟩:=kj h
    obtain⟨h2,e2⟩:=eM h1
    exact⟨_,_,_,h2,λH' hA K'=>by unfold gC;rw[e0];simp only;rw[hA _ (by simp),bo];simp only;rw[e1,e2]⟩
   ·rename_i bo
    obtain⟨h1,e1⟩:=kj h
    obtain⟨h2,e2⟩:=eM h1
    exact⟨_,_,_,h2,λH' hA K'=>by unfold gC;rw[e0];simp only;rw[hA _ (by simp),bo];simp only;rw[e1,e2]⟩
   ·cases h
  ·cases h
 ·split at h
  ·obtain⟨υ,h1,e1⟩:=B9 h
   obtain⟨h2,e2⟩:=kj h1
   obtain⟨h3,e3⟩:=eM h2
   exact⟨_,_,_,h3,λH' hA K'=>by unfold gC;rw[e0];simp only;rw[e1 H' (hA _ (by simp)),e2,e3]⟩
  ·obtain⟨z,h1,e1⟩:=dR h
   obtain⟨h2,e2⟩:=eM h1
   exact⟨_,_,_,h2,λH' _ K'=>by unfold gC;rw[e0];simp only;rw[e1,e2]⟩
  ·cases h
 ·cases h
theorem Vh{τ:Ty}{a i:bI}{K:bI→Option α}(h:xf τ a i K=some r): ∃v,K v=some r∧ ∀K':bI→Option α,xf τ a i K'=K' v:=by
 unfold xf at h
 obtain⟨k,n,h,e0⟩:=tu h
 split at h
 ·obtain⟨z,h1,e1⟩:=dR h
  obtain⟨h2,e2⟩:=eM h1
  exact⟨_,h2,λK'=>by unfold xf;rw[e0];simp only;rw[e1,e2]⟩
 ·obtain⟨h2,e2⟩:=eM h
  exact⟨_,h2,λK'=>by unfold xf;rw[e0];simp only;rw[e2]⟩
 ·cases h
theorem X0{a:bI}{H:Nat→Option bl}{K:(υ:Ty)→υ.den→List Nat→Option α}(h:la a H K=some r): ∃υ y rd,K υ y rd=some r∧ ∀H',Ag rd H H'→ ∀K':(υ:Ty)→υ.den→List Nat→Option α,la a H' K'=K' υ y rd:=by
 unfold la at h
 split at h
 ·exact⟨_,_,_,h,λ_ _ _=>rfl⟩
 ·split at h
  ·rename_i bo
   obtain⟨υ,y,h1,e1⟩:=gT h
   exact⟨_,_,_,h1,λH' hA K'=>by unfold la;simp only;rw[hA _ (by simp),bo];simp only;rw[e1]⟩
  ·rename_i bo
   split at h
   ·obtain⟨υ,y,h1,e1⟩:=gT h
    exact⟨_,_,_,h1,λH' hA K'=>by unfold la;simp only;rw[hA _ (by simp),bo];simp only;rw[e1]⟩
   ·cases h
  ·rename_i bo
   split at h
   ·obtain⟨υ,y,h1,e1⟩:=gT h
    exact⟨_,_,_,h1,λH' hA K'=>by unfold la;simp only;rw[hA _ (by simp),bo];simp only;rw[e1]⟩
   ·cases h
  ·cases h
 ·cases h
theorem Vi{τ:Ty}{a v:bI}{H:Nat→Option bl}{K:jg α}(h:my τ a v H K=some r): ∃u rd ups,K u rd ups=some r∧ ∀H',Ag rd H H'→ ∀K':jg α,my τ a v H' K'=K' u rd ups:=by
 unfold my at h
 split at h
 ·obtain⟨y,rd,ups,h1,e1⟩:=pd h
  split at h1
  ·rename_i bo
   obtain⟨z,h2,e2⟩:=pb h1
   exact⟨_,_,_,h2,λH' hA K'=>by
    unfold my;simp only
    rw[e1 H' (λi hi=>hA i (a7 _ hi))]
    rw[hA _ (by simp),bo];simp only;rw[e2]⟩
  ·rename_i bo
   split at h1
   ·obtain⟨h2,e2⟩:=uT h1
    obtain⟨z,h3,e3⟩:=pb h2
    exact⟨_,_,_,h3,λH' hA K'=>by
     unfold my;simp only
     rw[e1 H' (λi hi=>hA i (a7 _ hi))]
     rw[hA _ (by simp),bo];simp only;rw[e2,e3]⟩
   ·cases h1
  ·cases h1
 ·cases h
theorem ab2{j:Nat}{q:List Step}{τ:Ty}{x:τ.den}{H:Nat→Option bl}{k:τ.den→ja→Option α}(h:DZ j q τ x H k=some r): ∃z ups,k z ups=some r∧ ∀H',H' j=H j→ ∀k':τ.den→ja→Option α,DZ j q τ x H' k'=k' z ups:=by
 unfold DZ at h
 split at h
 ·rename_i hj
  obtain⟨z,h1,e1⟩:=pb h
  exact⟨_,_,h1,λH' hA k'=>by unfold DZ;rw[hA,hj];simp only;rw[e1]⟩
 ·rename_i hj
  obtain⟨z,h1,e1⟩:=pb h
  exact⟨_,_,h1,λH' hA k'=>by unfold DZ;rw[hA,hj];simp only;rw[e1]⟩
 ·cases h
abbrev Pts(F:(Nat→Option bl)→jg α→Option α)(H:Nat→Option bl)(K:jg α)(r:α):Prop:=
 ∃v rd ups,K v rd ups=some r∧ ∀H',Ag rd H H'→ ∀K':jg α,F H' K'=K' v rd ups
theorem X1{τ:Ty}{a:bI}{H:Nat→Option bl}{K:jg α}(h:(la a H fun υ y rd=>df υ τ y λz=>K (.val τ z) rd [])=some r):
  Pts (λH K=>la a H fun υ y rd=>df υ τ y λz=>K (.val τ z) rd []) H K r:=by
 obtain⟨υ,y,rd,h1,e1⟩:=X0 h
 obtain⟨z,h2,e2⟩:=dR h1
 exact⟨_,_,_,h2,λH' hA K'=>by simp only;rw[e1 H' hA,e2]⟩
theorem ape{id:Nat}{p:List Step}{H:Nat→Option bl}{K:(υ:Ty)→υ.den→List Nat→Option α}(h:la (.jr id p) H K=some r): ∃υ y,K υ y [id]=some r:=by
 unfold la at h
 simp only at h
 split at h
 ·obtain⟨υ,y,h1,_⟩:=gT h;exact⟨υ,y,h1⟩
 ·split at h
  ·obtain⟨υ,y,h1,_⟩:=gT h;exact⟨υ,y,h1⟩
  ·cases h
 ·split at h
  ·obtain⟨υ,y,h1,_⟩:=gT h;exact⟨υ,y,h1⟩
  ·cases h
 ·cases h
theorem X2{τ:Ty}{id:Nat}{p:List Step}{H:Nat→Option bl}{K:jg α}(h:(la (.jr id p) H fun υ y rd=>df υ τ y λz=>K (.val τ z) rd [])=some r):
  ∃z,K (.val τ z) [id] []=some r∧ ∀H',H' id=H id→ ∀K':jg α,(la (.jr id p) H' fun υ y rd=>df υ τ y λz=>K' (.val τ z) rd [])=K' (.val τ z) [id] []:=by
 unfold la at h
 simp only at h
 split at h
 ·rename_i bo
  obtain⟨υ,y,h1,e1⟩:=gT h
  obtain⟨z,h2,e2⟩:=dR h1
  exact⟨_,h2,λH' hA K'=>by unfold la;simp only;rw[hA,bo];simp only;rw[e1,e2]⟩
 ·rename_i bo
  split at h
  ·obtain⟨υ,y,h1,e1⟩:=gT h
   obtain⟨z,h2,e2⟩:=dR h1
   exact⟨_,h2,λH' hA K'=>by unfold la;simp only;rw[hA,bo];simp only;rw[e1,e2]⟩
  ·cases h
 ·rename_i bo
  split at h
  ·obtain⟨υ,y,h1,e1⟩:=gT h
   obtain⟨z,h2,e2⟩:=dR h1
   exact⟨_,h2,λH' hA K'=>by unfold la;simp only;rw[hA,bo];simp only;rw[e1,e2]⟩
  ·cases h
 ·cases h
theorem X3{τ:Ty}{a:bI}{H:Nat→Option bl}{K:jg α}(h:wy τ a H K=some r):Pts (wy τ a) H K r:=by
 unfold wy at h
 simp only at h
 split at h
 ·rename_i id p
  split at h
  ·rename_i υ x q j bo
   cases hp:Nc p q
   ·cases B1:yE p q
    ·rw[hp,B1]at h
     simp only[av]at h
     obtain⟨υ',y,h1,e1⟩:=gT h
     obtain⟨z,h2,e2⟩:=dR h1
     exact⟨_,_,_,h2,λH' hA K'=>by
      unfold wy;simp only;rw[hA id (by simp),bo];simp only
      rw[hp,B1];simp only[av];rw[e1,e2]⟩
    ·rw[hp,B1]at h
     simp only[av,ak]at h
     obtain⟨z,ups,h1,e1⟩:=ab2 h
     obtain⟨υ',y,h2,e2⟩:=gT h1
     obtain⟨z',h3,e3⟩:=dR h2
     exact⟨_,_,_,h3,λH' hA K'=>by
      unfold wy;simp only;rw[hA id (by simp),bo];simp only
      rw[hp,B1];simp only[av,ak];rw[e1 H' (hA j (by simp)),e2,e3]⟩
   ·rw[hp]at h
    simp only[ak]at h
    obtain⟨h1,e1⟩:=eM h
    exact⟨_,_,_,h1,λH' hA K'=>by
     unfold wy;simp only;rw[hA id (by simp),bo];simp only
     rw[hp];simp only[ak];rw[e1]⟩
  ·rename_i uN
   obtain⟨z,h1,e1⟩:=X2 h
   refine⟨_,_,_,h1,λH' hA K'=> ?_⟩
   unfold wy;simp only;rw[hA id (by simp)]
   split
   ·rename_i bo;exact absurd bo (uN _ _ _ _)
   ·exact e1 H' (hA id (by simp)) K'
 ·rename_i uN
  obtain⟨v,rd,ups,h1,e1⟩:=X1 h
  refine⟨v,rd,ups,h1,λH' hA K'=> ?_⟩
  have:wy τ a H' K'=la a H' fun υ y rd=>df υ τ y λz=>K' (.val τ z) rd []:=by
   unfold wy
   cases a<;>first|rfl|exact absurd rfl (uN _ _)
  rw[this]
  exact e1 H' hA K'
theorem NR{τ:Ty}{id k:Nat}{e:Ty}{q:List Step}{υ:Ty}{x:υ.den}{H:Nat→Option bl}{K:jg α}(h:C2 τ id k e q υ x H K=some r):
  ∃v ups,K v [id,k] ups=some r∧ ∀H',H' k=H k→ ∀K':jg α,C2 τ id k e q υ x H' K'=K' v [id,k] ups:=by
 unfold C2 at h
 split at h
 ·rename_i bo
  obtain⟨h1,e1⟩:=kj h
  obtain⟨h2,e2⟩:=kj h1
  obtain⟨z,h3,e3⟩:=pb h2
  exact⟨_,_,h3,λH' hA K'=>by unfold C2;rw[hA,bo];simp only;rw[e1,e2,e3]⟩
 ·cases h
theorem Ca{τ:Ty}{id:Nat}{p:List Step}{v:bI}{H:Nat→Option bl}{K:jg α}(h:my τ (.jr id p) v H K=some r):
  ∃u rd ups,id∈rd∧K u rd ups=some r∧ ∀H',Ag rd H H'→ ∀K':jg α,my τ (.jr id p) v H' K'=K' u rd ups:=by
 unfold my at h
 simp only at h
 obtain⟨y,rd,ups,h1,e1⟩:=pd h
 split at h1
 ·rename_i bo
  obtain⟨z,h2,e2⟩:=pb h1
  exact⟨_,_,_,by simp,h2,λH' hA K'=>by
   unfold my;simp only
   rw[e1 H' (λi hi=>hA i (a7 _ hi))]
   rw[hA _ (by simp),bo];simp only;rw[e2]⟩
 ·rename_i bo
  split at h1
  ·obtain⟨h2,e2⟩:=uT h1
   obtain⟨z,h3,e3⟩:=pb h2
   exact⟨_,_,_,by simp,h3,λH' hA K'=>by
    unfold my;simp only
    rw[e1 H' (λi hi=>hA i (a7 _ hi))]
    rw[hA _ (by simp),bo];simp only;rw[e2,e3]⟩
  ·cases h1
 ·cases h1
theorem Cb{E:Env}{τ:Ty}{a v:bI}{H:Nat→Option bl}{K:jg α}(h:ke E τ a v H K=some r):
  ∃u rd ups,K u rd ups=some r∧ ∀H',Ag rd H H'→ ∀K':jg α,ke E τ a v H' K'=K' u rd ups:=by
 have h0:=h
 unfold ke at h
 simp only at h
 split at h
 ·rename_i id p
  split at h
  ·rename_i υ x bo
   split at h
   ·rename_i q e k tV
    cases hp:Nc p q
    ·rw[hp]at h
     simp only[av]at h
     obtain⟨u,rd,ups,hi,h1,e1⟩:=Ca h
     refine⟨u,rd,ups,h1,λH' hA K'=> ?_⟩
     unfold ke;simp only;rw[hA id hi,bo];simp only;rw[tV];simp only;rw[hp];simp only[av]
     exact e1 H' hA K'
    ·rw[hp]at h
     simp only[ak]at h
     obtain⟨u,ups,h1,e1⟩:=NR h
     refine⟨u,_,ups,h1,λH' hA K'=> ?_⟩
     unfold ke;simp only;rw[hA id (by simp),bo];simp only;rw[tV];simp only;rw[hp];simp only[ak]
     exact e1 H' (hA k (by simp)) K'
   ·rename_i uN
    obtain⟨u,rd,ups,hi,h1,e1⟩:=Ca h
    refine⟨u,rd,ups,h1,λH' hA K'=> ?_⟩
    unfold ke;simp only;rw[hA id hi,bo];simp only
    exact e1 H' hA K'
  ·rename_i υ x q j bo
   have AK:(mw true v H τ λy rd ups=>wJ τ y p υ x λz=>K .any (id::rd) (ups++[(id,some (cond (yE p q) (.obj υ z) (.ga υ z q j)))]))=some r→
     ∃u rd ups,id∈rd∧K u rd ups=some r∧ ∀H',Ag rd H H'→ ∀K':jg α,(mw true v H' τ λy rd ups=>wJ τ y p υ x λz=>K' .any (id::rd) (ups++[(id,some (cond (yE p q) (.obj υ z) (.ga υ z q j)))]))=K' u rd ups:=by
    intro h
    obtain⟨y,rd,ups,h1,e1⟩:=pd h
    obtain⟨z,h2,e2⟩:=pb h1
    exact⟨_,_,_,by simp,h2,λH' hA K'=>by rw[e1 H' (λi hi=>hA i (a7 _ hi)),e2]⟩
   split at h
   ·rename_i q' e k tV
    cases hp:(Nc p q&&Nc q q')
    ·rw[hp]at h
     simp only[av]at h
     obtain⟨u,rd,ups,hi,h1,e1⟩:=AK h
     refine⟨u,rd,ups,h1,λH' hA K'=> ?_⟩
     unfold ke;simp only;rw[hA id hi,bo];simp only;rw[tV];simp only;rw[hp];simp only[av]
     exact e1 H' hA K'
    ·rw[hp]at h
     simp only[ak]at h
     obtain⟨u,ups,h1,e1⟩:=NR h
     refine⟨u,_,ups,h1,λH' hA K'=> ?_⟩
     unfold ke;simp only;rw[hA id (by simp),bo];simp only;rw[tV];simp only;rw[hp];simp only[ak]
     exact e1 H' (hA k (by simp)) K'
   ·rename_i uN
    obtain⟨u,rd,ups,hi,h1,e1⟩:=AK h
    refine⟨u,rd,ups,h1,λH' hA K'=> ?_⟩
    unfold ke;simp only;rw[hA id hi,bo];simp only
    exact e1 H' hA K'
  ·rename_i au4 au5
   obtain⟨u,rd,ups,hi,h1,e1⟩:=Ca h
   refine⟨u,rd,ups,h1,λH' hA K'=> ?_⟩
   unfold ke;simp only;rw[hA id hi]
   split
   ·rename_i bo;exact absurd bo (au4 _ _)
   ·rename_i bo;exact absurd bo (au5 _ _ _ _)
   ·exact e1 H' hA K'
 ·rename_i uN
  obtain⟨u,rd,ups,h1,e1⟩:=Vi h
  refine⟨u,rd,ups,h1,λH' hA K'=> ?_⟩
  have:ke E τ a v H' K'=my τ a v H' K':=by
   unfold ke
   cases a<;>first|rfl|exact absurd rfl (uN _ _)
  rw[this]
  exact e1 H' hA K'
theorem Vj{E:Env}{τ:Ty}{a v:bI}{H:Nat→Option bl}{K:jg α}(h:tS E τ a v H K=some r):
  ∃u rd ups,K u rd ups=some r∧ ∀H',Ag rd H H'→ ∀K':jg α,tS E τ a v H' K'=K' u rd ups:=by
 unfold tS at h
 split at h
 ·rename_i id υ y n
  split at h
  ·rename_i m e tV
   cases FQ:Nat.beq m n
   ·rw[FQ]at h
    simp only[av]at h
    obtain⟨u,rd,ups,h1,e1⟩:=Cb h
    exact⟨u,rd,ups,h1,λH' hA K'=>by unfold tS;simp only;rw[tV];simp only;rw[FQ];simp only[av];exact e1 H' hA K'⟩
   ·rw[FQ]at h
    simp only[ak]at h
    obtain⟨h1,e1⟩:=kj h
    obtain⟨υ',h2,e2⟩:=B9 h1
    obtain⟨h3,e3⟩:=kj h2
    obtain⟨h4,e4⟩:=ym h3
    exact⟨_,_,_,h4,λH' hA K'=>by unfold tS;simp only;rw[tV];simp only;rw[FQ];simp only[ak];rw[e1,e2 H' (hA _ (by simp)),e3,e4 H' (hA _ (by simp))]⟩
  ·rename_i uN
   obtain⟨u,rd,ups,h1,e1⟩:=Cb h
   refine⟨u,rd,ups,h1,λH' hA K'=> ?_⟩
   unfold tS;simp only
   exact e1 H' hA K'
 ·rename_i uN
  obtain⟨u,rd,ups,h1,e1⟩:=Cb h
  refine⟨u,rd,ups,h1,λH' hA K'=> ?_⟩
  unfold tS
  split
  ·exact absurd rfl (uN _ _ _ _ rfl)
  ·exact e1 H' hA K'
theorem TE{H:Nat→Option bl}{id:Nat}{τ:Ty}{x:τ.den}{q:List Step}{e:Ty}{K:jg α}(h:D0 H id τ x q e K=some r):Pts (λH K=>D0 H id τ x q e K) H K r:=by
 obtain⟨h1,h2,h3⟩:=FP h
 exact⟨_,_,_,h3,λH' hA K'=>by unfold D0 rQ;simp only;rw[hA id (by simp),h1,hA (id+1) (by simp),h2]⟩
theorem ajW{E:Env}{o:Oper}{ρ:Operand→bI}{H:Nat→Option bl}{K:jg α}(h:um E o ρ H K=some r):
  ∃v rd ups,K v rd ups=some r∧ ∀ρ' H',(∀x∈o.op.operands,ρ' x=ρ x)→Ag rd H H'→ ∀K':jg α,um E o ρ' H' K'=K' v rd ups:=by
 obtain⟨dst,op,type,pos,after,guard⟩:=o
 unfold um at h
 simp only at h
 have ab3: ∀{ρ':Operand→bI} (xs:List Operand),(∀x∈xs,ρ' x=ρ x)→xs.map ρ'=xs.map ρ:=λxs hx=>rC hx
 have RL: ∀{ρ':Operand→bI} (ps:Array (Nat×Operand)),(∀x∈ps.map (·.2),ρ' x=ρ x)→partsOf ρ' ps=partsOf ρ ps:=λps hp=>by
  unfold partsOf
  exact rC λp hm=>by rw[hp p.2 (Array.mem_map.2 ⟨p,by simpa using hm,rfl⟩)]
 have ajX: ∀{ρ':Operand→bI} (x:Option Operand),(∀y∈x,ρ' y=ρ y)→x.map ρ'=x.map ρ:=λx hx=>by
  cases x with
  |none=>rfl
  |some x=>simp[hx x rfl]
 split at h
 ·
  rename_i x
  exact⟨_,_,_,h,fun ρ' H' hx _ K'=>by unfold um;simp only;rw[hx x (by simp[Op.operands])]⟩
 ·rename_i x
  exact⟨_,_,_,h,fun ρ' H' hx _ K'=>by unfold um;simp only;rw[hx x (by simp[Op.operands])]⟩
 ·rename_i x y z
  split at h
  ·rename_i t hx
   cases t
   ·exact⟨_,_,_,(h:K (ρ z) [] []=some r),fun ρ' H' uQ _ K'=>by unfold um;simp only;rw[uQ x (by simp[Op.operands]),hx,uQ z (by simp[Op.operands])];rfl⟩
   ·exact⟨_,_,_,(h:K (ρ y) [] []=some r),fun ρ' H' uQ _ K'=>by unfold um;simp only;rw[uQ x (by simp[Op.operands]),hx,uQ y (by simp[Op.operands])];rfl⟩
  ·cases h
 ·
  split at h
  ·rename_i τ ht
   split at h
   ·rename_i q e tV
    obtain⟨v,rd,ups,h1,e1⟩:=TE h
    exact⟨_,_,_,h1,fun ρ' H' hx hA K'=>by unfold um;simp only;rw[ht];simp only;rw[tV];exact e1 H' hA K'⟩
   ·rename_i tV
    obtain⟨h1,e1⟩:=ym h
    exact⟨_,_,_,h1,fun ρ' H' hx hA K'=>by unfold um;simp only;rw[ht];simp only;rw[tV];simp only;rw[e1 H' (hA _ (by simp))]⟩
  ·cases h
 ·
  rename_i t x
  split at h
  ·rename_i τ ht
   have hold:(mw true (ρ x) H τ λy rd ups=>rQ H (16*dst.getD 0) (.obj τ y) (K (.jr (16*dst.getD 0) []) (16*dst.getD 0::rd) (ups++[(16*dst.getD 0,some (.obj τ y))])))=some r→
     Pts (λH K=>mw true (ρ x) H τ λy rd ups=>rQ H (16*dst.getD 0) (.obj τ y) (K (.jr (16*dst.getD 0) []) (16*dst.getD 0::rd) (ups++[(16*dst.getD 0,some (.obj τ y))]))) H K r:=by
    intro h
    obtain⟨y,rd,ups,h1,e1⟩:=pd h
    obtain⟨h2,e2⟩:=ym h1
    exact⟨_,_,_,h2,λH' hA K'=>by simp only;rw[e1 H' (λi hi=>hA i (a7 _ hi)),e2 H' (hA _ (by simp))]⟩
   split at h
   ·rename_i m e υ y n tV X4
    cases FQ:Nat.beq m n
    ·rw[FQ]at h
     obtain⟨v,rd,ups,h1,e1⟩:=hold h
     refine⟨_,_,_,h1,fun ρ' H' hx hA K'=> ?_⟩
     unfold um;simp only;rw[ht];simp only
     rw[hx x (by simp[Op.operands]),tV,X4];simp only
     rw[FQ]
     have:=e1 H' hA K'
     rw[X4]at this
     exact this
    ·rw[FQ]at h
     simp only[ak]at h
     obtain⟨z,h1,e1⟩:=dR h
     obtain⟨v,rd,ups,h2,e2⟩:=TE h1
     refine⟨_,_,_,h2,fun ρ' H' hx hA K'=> ?_⟩
     unfold um;simp only;rw[ht];simp only
     rw[hx x (by simp[Op.operands]),tV,X4];simp only
     rw[FQ];simp only[ak]
     rw[e1]
     exact e2 H' hA K'
   ·rename_i uN
    obtain⟨v,rd,ups,h1,e1⟩:=hold h
    refine⟨_,_,_,h1,fun ρ' H' hx hA K'=> ?_⟩
    unfold um;simp only;rw[ht];simp only
    rw[hx x (by simp[Op.operands])]
    split
    ·rename_i tV X4;exact absurd X4 (uN _ _ _ _ _ tV)
    ·exact e1 H' hA K'
  ·cases h
 ·
  rename_i t ps
  split at h
  ·rename_i n e ht
   obtain⟨l,rd,ups,h1,_,e1⟩:=F8 h
   exact⟨_,_,_,h1,fun ρ' H' hx hA K'=>by unfold um;simp only;rw[ht];simp only;rw[RL ps (λx uQ=>hx x (by simpa [Op.operands]using uQ)),e1 H' hA]⟩
  ·rename_i τ hna ht
   obtain⟨h0,e0⟩:=eM h
   obtain⟨l,rd,ups,h1,_,e1⟩:=Jj h0
   refine⟨_,_,_,h1,fun ρ' H' hx hA K'=> ?_⟩
   unfold um;simp only;rw[ht]
   have: ∀{β:Type} (A:Nat→Ty→β) (B:Ty→β),(match some τ with|some (.arr n e)=>A n e|some τ=>B τ|none=>B τ)=B τ:=by
    intro β A B
    cases τ<;>first|rfl|exact absurd rfl (hna _ _)
   cases τ with
   |arr n e=>exact absurd rfl (hna n e)
   |_=>
    simp only
    rw[RL ps (λx uQ=>hx x (by simpa [Op.operands]using uQ)),e0,e1 H' hA]
  ·cases h
 ·
  rename_i t n ps
  split at h
  ·rename_i e ht
   obtain⟨h0,e0⟩:=eM h
   obtain⟨h1,e1⟩:=ym h0
   obtain⟨l,rd,ups,h2,_,e2⟩:=F8 h1
   exact⟨_,_,_,h2,fun ρ' H' hx hA K'=>by
    unfold um;simp only;rw[ht];simp only
    rw[e0,e1 H' (hA _ (by simp)),RL ps (λx uQ=>hx x (by simpa [Op.operands]using uQ)),e2 H' (λi hi=>hA i (a7 _ hi))]⟩
  ·cases h
 ·
  rename_i t x
  split at h
  ·rename_i τ ht
   obtain⟨v,rd,ups,h1,e1⟩:=X3 h
   exact⟨_,_,_,h1,fun ρ' H' hx hA K'=>by unfold um;simp only;rw[ht];simp only;rw[hx x (by simp[Op.operands]),e1 H' hA]⟩
  ·cases h
 ·
  rename_i t x y
  split at h
  ·rename_i τ ht
   obtain⟨u,rd,ups,h1,e1⟩:=Vj h
   exact⟨_,_,_,h1,fun ρ' H' hx hA K'=>by unfold um;simp only;rw[ht];simp only;rw[hx x (by simp[Op.operands]),hx y (by simp[Op.operands]),e1 H' hA]⟩
  ·cases h
 ·
  rename_i x
  split at h
  ·rename_i id p hx
   exact⟨_,_,_,h,fun ρ' H' uQ _ K'=>by unfold um;simp only;rw[uQ x (by simp[Op.operands]),hx]⟩
  ·rename_i τ z hx
   exact⟨_,_,_,h,fun ρ' H' uQ _ K'=>by unfold um;simp only;rw[uQ x (by simp[Op.operands]),hx]⟩
  ·cases h
 ·
  rename_i b t x y t'
  obtain⟨τ,x1,h1,e1⟩:=TD h
  obtain⟨υ,y1,h2,e2⟩:=TD h1
  obtain⟨v,h3,e3⟩:=XW h2
  exact⟨_,_,_,h3,fun ρ' H' hx _ K'=>by unfold um;simp only;rw[hx x (by simp[Op.operands]),hx y (by simp[Op.operands]),e1,e2,e3]⟩
 ·
  rename_i u t x
  obtain⟨v,h1,e1⟩:=abZ h
  exact⟨_,_,_,h1,fun ρ' H' hx _ K'=>by unfold um;simp only;rw[hx x (by simp[Op.operands]),e1]⟩
 ·
  rename_i s d x
  split at h
  ·rename_i τ k hs hd
   obtain⟨i,n,h1,e1⟩:=tu h
   exact⟨_,_,_,h1,fun ρ' H' hx _ K'=>by unfold um;simp only;rw[hs,hd];simp only;rw[hx x (by simp[Op.operands]),e1]⟩
  ·cases h
 ·
  rename_i f first caps
  obtain⟨h1,e1⟩:=eM h
  obtain⟨cs,rd,ups,h3,e3⟩:=Ga h1
  exact⟨_,_,_,h3,fun ρ' H' hx hA K'=>by unfold um;simp only;rw[ab3 caps.toList (λx uQ=>hx x (by simp[Op.operands];exact .inr (by simpa using uQ))),e1,e3 H' hA]⟩
 ·
  rename_i t x y
  split at h
  ·rename_i e ht
   obtain⟨i,n,h1,e1⟩:=tu h
   obtain⟨i',n',h2,e2⟩:=tu h1
   obtain⟨h3,e3⟩:=eM h2
   obtain⟨h4,e4⟩:=ym h3
   exact⟨_,_,_,h4,fun ρ' H' hx hA K'=>by
    unfold um;simp only;rw[ht];simp only
    rw[hx x (by simp[Op.operands]),e1,hx y (by simp[Op.operands]),e2,e3,e4 H' (hA _ (by simp))]⟩
  ·cases h
 ·
  rename_i t x lo hi mx
  split at h
  ·rename_i τ ht
   obtain⟨v,rd,ups,h1,e1⟩:=Vg h
   exact⟨_,_,_,h1,fun ρ' H' hx hA K'=>by
    unfold um;simp only;rw[ht];simp only
    rw[hx x (by simp[Op.operands]),ajX lo (λy hy=>hx y (by simp at hy;simp[Op.operands,hy])),ajX hi (λy hy=>hx y (by simp at hy;simp[Op.operands,hy])),ajX mx (λy hy=>hx y (by simp at hy;simp[Op.operands,hy])),e1 H' hA]⟩
  ·cases h
 ·
  rename_i t x n
  split at h
  ·rename_i τ ht
   split at h
   ·rename_i id p hx
    obtain⟨υ,h1,e1⟩:=B9 h
    obtain⟨h2,e2⟩:=kj h1
    obtain⟨υ',y',h3,e3⟩:=yl h2
    obtain⟨h4,e4⟩:=uT h3
    exact⟨_,_,_,h4,fun ρ' H' uQ hA K'=>by
     unfold um;simp only;rw[ht];simp only
     rw[uQ x (by simp[Op.operands]),hx];simp only
     rw[e1 H' (hA _ (by simp)),e2,e3,e4]⟩
   ·rename_i υ z hx
    obtain⟨h2,e2⟩:=kj h
    obtain⟨υ',y',h3,e3⟩:=yl h2
    obtain⟨h4,e4⟩:=uT h3
    exact⟨_,_,_,h4,fun ρ' H' uQ hA K'=>by
     unfold um;simp only;rw[ht];simp only
     rw[uQ x (by simp[Op.operands]),hx];simp only
     rw[e2,e3,e4]⟩
   ·cases h
  ·cases h
 ·
  rename_i t x n
  split at h
  ·rename_i τ ht
   split at h
   ·rename_i υ z hx
    obtain⟨h2,e2⟩:=kj h
    obtain⟨υ',y',h3,e3⟩:=yl h2
    exact⟨_,_,_,h3,fun ρ' H' uQ hA K'=>by
     unfold um;simp only;rw[ht];simp only
     rw[uQ x (by simp[Op.operands]),hx];simp only
     rw[e2,e3]⟩
   ·cases h
  ·cases h
 ·
  rename_i t x i
  split at h
  ·rename_i τ ht
   obtain⟨v,rd,ups,h1,e1⟩:=Ix h
   exact⟨_,_,_,h1,fun ρ' H' hx hA K'=>by unfold um;simp only;rw[ht];simp only;rw[hx x (by simp[Op.operands]),hx i (by simp[Op.operands]),e1 H' hA]⟩
  ·cases h
 ·
  rename_i t x i
  split at h
  ·rename_i τ ht
   obtain⟨v,h1,e1⟩:=Vh h
   exact⟨_,_,_,h1,fun ρ' H' hx hA K'=>by unfold um;simp only;rw[ht];simp only;rw[hx x (by simp[Op.operands]),hx i (by simp[Op.operands]),e1]⟩
  ·cases h
 ·
  rename_i x i
  split at h
  ·rename_i vs hx
   split at h
   ·rename_i v hv
    exact⟨_,_,_,h,fun ρ' H' uQ hA K'=>by unfold um;simp only;rw[uQ x (by simp[Op.operands]),hx];simp only;rw[hv]⟩
   ·cases h
  ·cases h
 ·
  rename_i cl
  obtain⟨callee,args,ts⟩:=cl
  simp only at h
  have yO: ∀{ρ':Operand→bI},(∀x∈(Op.call {callee,args,argTypes:=ts}).operands,ρ' x=ρ x)→ ∀x∈args.toList,ρ' x=ρ x:=
   λhx x uQ=>hx x (by simp[Op.operands,Call.operands];exact .inr (by simpa using uQ))
  split at h
  ·split at h
   ·rename_i x τ ha ht
    obtain⟨v,rd,ups,h1,e1⟩:=ab0 h
    exact⟨_,_,_,h1,fun ρ' H' hx hA K'=>by unfold um;simp only;rw[ha,ht];simp only;rw[yO hx x (by rw[ha];simp),e1 H' hA]⟩
   ·cases h
  ·split at h
   ·rename_i x y t t' ha ht
    split at h
    ·rename_i e hte
     obtain⟨h1,e1⟩:=eM h
     obtain⟨h2,e2⟩:=ym h1
     obtain⟨v,rd,ups,h3,bo,e3⟩:=ab1 h2
     exact⟨_,_,_,h3,fun ρ' H' hx hA K'=>by
      unfold um;simp only;rw[ha,ht];simp only;rw[hte];simp only
      rw[e1,e2 H' (hA _ bo),yO hx x (by rw[ha];simp),yO hx y (by rw[ha];simp),e3 H' hA]⟩
    ·cases h
   ·cases h
  ·split at h
   ·rename_i x xs ha
    obtain⟨v,h1,e1⟩:=RK h
    exact⟨_,_,_,h1,fun ρ' H' hx hA K'=>by
     unfold um;simp only;rw[ha];simp only
     rw[yO hx x (by rw[ha];simp),ab3 xs (λy hy=>yO hx y (by rw[ha];simp[hy])),e1]⟩
   ·cases h
  ·split at h
   ·rename_i x xs ha
    obtain⟨v,h1,e1⟩:=RK h
    exact⟨_,_,_,h1,fun ρ' H' hx hA K'=>by
     unfold um;simp only;rw[ha];simp only
     rw[yO hx x (by rw[ha];simp),ab3 xs (λy hy=>yO hx y (by rw[ha];simp[hy])),e1]⟩
   ·cases h
  ·rename_i g
   split at h
   ·rename_i f caps hg
    obtain⟨v,rd,ups,h1,e1⟩:=XZ h
    exact⟨_,_,_,h1,fun ρ' H' hx hA K'=>by
     unfold um;simp only
     rw[hx g (by simp[Op.operands,Call.operands]),hg];simp only
     rw[ab3 args.toList (yO hx),e1 H' hA]⟩
   ·cases h
  ·cases h
 ·cases h
end VM
end
section
namespace VM
open Go
variable{P:Program}{E:Env}{o:Oper}{a:Act}{w:World}{M:Nat→Prop}{ν:Nat→Value}{σ:St}{c:Ctx}{α:Type}{r:α}{next:Act→World→Prop}{Q:Exit→Act→World→Prop}
structure Out where
 dst:Option Nat
 v:bI
 rd:List Nat
 ups:ja
def Out.app(u:Out)(σ:St):St:=(σ.xa u.ups).wI u.dst u.v
theorem NS(σ:St)(d:Nat)(v:bI):(σ.wI (some d) v).T d=v:=vA σ d v
theorem Vk(σ:St){d:Option Nat}{t:Nat}(v:bI)(h:d≠some t):(σ.wI d v).T t=σ.T t:=by
 cases d with
 |none=>rfl
 |some d=>exact AT σ v (λe=>h (by rw[e]))
theorem ajY(σ:St)(d:Option Nat)(v:bI):(σ.wI d v).H=σ.H:=by cases d<;>rfl
theorem RM{u:Out}{t:Nat}(h:u.dst=some t)(σ:St):(u.app σ).T t=u.v:=by unfold Out.app;rw[h];exact NS _ _ _
theorem X5{u:Out}{t:Nat}(h:u.dst≠some t)(σ:St):(u.app σ).T t=σ.T t:=by unfold Out.app;rw[Vk _ _ h,RC]
theorem apf(u:Out)(σ:St):(u.app σ).H=c9 σ.H u.ups:=by unfold Out.app;rw[ajY,RA]
def Pt(E:Env)(ops:List Oper)(o:Oper)(σ:St)(u:Out)(α:Type):Prop:=
 u.dst=o.dst∧ ∀σ':St,(∀t∈names ops o,σ'.T t=σ.T t)→Ag u.rd σ.H σ'.H→ ∀K':St→List Nat→List Nat→Option α,uF E ops o σ' K'=K' (u.app σ') u.rd (u.ups.map (·.1))
theorem X6{ops:List Oper}{K:St→List Nat→List Nat→Option α}(h:uF E ops o σ K=some r): ∃u:Out,K (u.app σ) u.rd (u.ups.map (·.1))=some r∧Pt E ops o σ u α:=by
 unfold uF at h
 obtain⟨h,e0⟩:=eM h
 have au6: ∀σ':St,(∀t∈names ops o,σ'.T t=σ.T t)→ ∀x∈o.op.operands,σ'.ρ x=σ.ρ x:=by
  intro σ' hT x hx
  cases x with
  |tmp t=>
   refine hT t ?_
   unfold names
   refine c3 _ (List.mem_filterMap.2 ⟨.tmp t,by simpa using hx,rfl⟩)
  |_=>rfl
 have dQ:um E o σ.ρ σ.H (λv rd ups=>K ((σ.xa ups).wI o.dst v) rd (ups.map (·.1)))=some r→
   ∃u:Out,K (u.app σ) u.rd (u.ups.map (·.1))=some r∧u.dst=o.dst∧ ∀σ':St,(∀t∈names ops o,σ'.T t=σ.T t)→Ag u.rd σ.H σ'.H→ ∀K':St→List Nat→List Nat→Option α,
    um E o σ'.ρ σ'.H (λv rd ups=>K' ((σ'.xa ups).wI o.dst v) rd (ups.map (·.1)))=K' (u.app σ') u.rd (u.ups.map (·.1)):=by
  intro h
  obtain⟨v,rd,ups,h1,h2⟩:=ajW h
  exact⟨⟨o.dst,v,rd,ups⟩,h1,rfl,fun σ' hT hA K'=>h2 σ'.ρ σ'.H (au6 σ' hT) hA _⟩
 have tt: ∀{K:St→List Nat→List Nat→Option α},K (σ.wI o.dst .Xx) [] []=some r→ ∃u:Out,K (u.app σ) u.rd (u.ups.map (·.1))=some r∧u.dst=o.dst∧ ∀σ':St,∀K':St→List Nat→List Nat→Option α,K' (σ'.wI o.dst .Xx) [] []=K' (u.app σ') u.rd (u.ups.map (·.1)):=
  λh=>⟨⟨o.dst,.Xx,[],[]⟩,h,rfl,λ_ _=>rfl⟩
 simp only at h
 split at h
 ·rename_i hg
  obtain⟨u,h1,h2,h3⟩:=dQ h
  refine⟨u,h1,h2,fun σ' hT hA K'=> ?_⟩
  unfold uF
  rw[e0]
  simp only
  rw[hg]
  exact h3 σ' hT hA K'
 ·rename_i j want hg
  split at h
  ·cases h
  ·rename_i t ht
   have Vl:t∈names ops o:=by
    unfold names
    refine dK _ ?_
    rw[hg]
    simp[ht]
   split at h
   ·rename_i b hb
    have qC: ∀σ':St,σ'.T t=σ.T t→σ'.put t (.val .bool b)=σ':=fun σ' h'=>by
     rw[←hb,←h'];exact F4 σ' t
    cases want<;>cases b
    ·obtain⟨u,h1,h2,h3⟩:=dQ (by
      have:=qC σ rfl
      rw[this]at h;exact h)
     refine⟨u,h1,h2,fun σ' hT hA K'=> ?_⟩
     unfold uF
     rw[e0];simp only;rw[hg];simp only;rw[ht];simp only;rw[hT t Vl,hb];simp only
     rw[qC σ' (hT t Vl)]
     exact h3 σ' hT hA K'
    ·obtain⟨u,h1,h2,h3⟩:=tt (by
      have:=qC σ rfl
      rw[this]at h;exact h)
     refine⟨u,h1,h2,fun σ' hT hA K'=> ?_⟩
     unfold uF
     rw[e0];simp only;rw[hg];simp only;rw[ht];simp only;rw[hT t Vl,hb];simp only
     rw[qC σ' (hT t Vl)]
     exact h3 σ' K'
    ·obtain⟨u,h1,h2,h3⟩:=tt (by
      have:=qC σ rfl
      rw[this]at h;exact h)
     refine⟨u,h1,h2,fun σ' hT hA K'=> ?_⟩
     unfold uF
     rw[e0];simp only;rw[hg];simp only;rw[ht];simp only;rw[hT t Vl,hb];simp only
     rw[qC σ' (hT t Vl)]
     exact h3 σ' K'
    ·obtain⟨u,h1,h2,h3⟩:=dQ (by
      have:=qC σ rfl
      rw[this]at h;exact h)
     refine⟨u,h1,h2,fun σ' hT hA K'=> ?_⟩
     unfold uF
     rw[e0];simp only;rw[hg];simp only;rw[ht];simp only;rw[hT t Vl,hb];simp only
     rw[qC σ' (hT t Vl)]
     exact h3 σ' hT hA K'
   ·rename_i hb
    obtain⟨u,h1,h2,h3⟩:=tt h
    refine⟨u,h1,h2,fun σ' hT hA K'=> ?_⟩
    unfold uF
    rw[e0];simp only;rw[hg];simp only;rw[ht];simp only;rw[hT t Vl,hb]
    exact h3 σ' K'
   ·cases h
theorem TF{ops:List Oper}: ∀(l:List Oper) (i:Nat) (σ:St) (lg:Log) (K:St→Log→Option α),UU E ops l i σ lg K=some r→
  ∃us:List Out,us.length=l.length∧(∀j u o,us[j]? =some u→l[j]? =some o→Pt E ops o ((us.take j).foldl (fun σ u=>u.app σ) σ) u α)∧
   ∃lg',K (us.foldl (fun σ u=>u.app σ) σ) lg'=some r∧(∀x∈lg,x∈lg')∧ ∀j u,us[j]? =some u→(i+j,u.rd,u.ups.map (·.1))∈lg'
 |[],i,σ,lg,K,h=>⟨[],rfl,λj u o hj=>by simp at hj,lg,h,λ_ h=>h,λj u hj=>by simp at hj⟩
 |o::l,i,σ,lg,K,h=>by
  unfold UU at h
  obtain⟨u,h1,h2⟩:=X6 h
  obtain⟨us,hl,hpt,lg',hK,hlg,hj⟩:=TF l (i+1) (u.app σ) _ K h1
  refine⟨u::us,by simp[hl],λj u' o' hu ho=> ?_,lg',hK,λx hx=>hlg x (a7 _ hx),λj u' hu=> ?_⟩
  ·cases j with
   |zero=>simp at hu ho;subst hu ho;exact h2
   |succ j=>exact hpt j u' o' (by simpa using hu) (by simpa using ho)
  ·cases j with
   |zero=>simp at hu;subst hu;exact hlg _ bh
   |succ j=>
    have:=hj j u' (by simpa using hu)
    rwa [show i+1+j=i+(j+1)from by omega]at this
theorem Vm{k:Nat}{ups:ja}(h:k∈keys ups)(H H':Nat→Option bl):c9 H ups k=c9 H' ups k:=by
 induction ups generalizing H H' with
 |nil=>simp[keys]at h
 |cons u r ih=>
  show c9 (bZ H u.1 u.2) r k=c9 (bZ H' u.1 u.2) r k
  by_cases hk:k∈keys r
  ·exact ih hk _ _
  ·have hku:k=u.1:=by
    simp only[keys,bR,aZ]at h hk
    exact h.resolve_right hk
   rw[lM hk,lM hk,hku,ay,ay]
structure pE(us:List Out)(σ0:St)(S:Nat→Prop)(σ:St):Prop where
 T: ∀t,(∃j u,us[j]? =some u∧S j∧u.dst=some t∧(∀j' u',us[j']? =some u'→S j'→u'.dst=some t→j'≤j)∧σ.T t=u.v)∨((∀j u,us[j]? =some u→S j→u.dst≠some t)∧σ.T t=σ0.T t)
 H: ∀k,(∃j u,us[j]? =some u∧S j∧k∈keys u.ups∧(∀j' u',us[j']? =some u'→S j'→k∈keys u'.ups→j'≤j)∧σ.H k=c9 σ0.H u.ups k)∨((∀j u,us[j]? =some u→S j→k∉keys u.ups)∧σ.H k=σ0.H k)
theorem pE.X7{us:List Out}{σ0 σ σ':St}{S S':Nat→Prop}(h:pE us σ0 S σ)(h':pE us σ0 S' σ'){t:Nat}(hs: ∀j u,us[j]? =some u→u.dst=some t→(S j↔S' j)):σ.T t=σ'.T t:=by
 rcases h.T t with⟨j,u,h1,h2,h3,h4,h5⟩|⟨h1,h2⟩<;>rcases h'.T t with⟨j',u',qM,y6,RN,h4',h5'⟩|⟨qM,y6⟩
 ·have e1:=h4 j' u' qM ((hs j' u' qM RN).2 y6) RN
  have e2:=h4' j u h1 ((hs j u h1 h3).1 h2) h3
  have:j=j':=ω
  subst this
  rw[h1]at qM;cases qM
  rw[h5,h5']
 ·exact absurd h3 (qM j u h1 ((hs j u h1 h3).1 h2))
 ·exact absurd RN (h1 j' u' qM ((hs j' u' qM RN).2 y6))
 ·rw[h2,y6]
theorem pE.X8{us:List Out}{σ0 σ σ':St}{S S':Nat→Prop}(h:pE us σ0 S σ)(h':pE us σ0 S' σ'){k:Nat}(hs: ∀j u,us[j]? =some u→k∈keys u.ups→(S j↔S' j)):σ.H k=σ'.H k:=by
 rcases h.H k with⟨j,u,h1,h2,h3,h4,h5⟩|⟨h1,h2⟩<;>rcases h'.H k with⟨j',u',qM,y6,RN,h4',h5'⟩|⟨qM,y6⟩
 ·have e1:=h4 j' u' qM ((hs j' u' qM RN).2 y6) RN
  have e2:=h4' j u h1 ((hs j u h1 h3).1 h2) h3
  have:j=j':=ω
  subst this
  rw[h1]at qM;cases qM
  rw[h5,h5']
 ·exact absurd h3 (qM j u h1 ((hs j u h1 h3).1 h2))
 ·exact absurd RN (h1 j' u' qM ((hs j' u' qM RN).2 y6))
 ·rw[h2,y6]
theorem pE.unique{us:List Out}{σ0 σ σ':St}{S S':Nat→Prop}(h:pE us σ0 S σ)(h':pE us σ0 S' σ')(hs: ∀j u,us[j]? =some u→(S j↔S' j)):σ=σ':=by
 obtain⟨T,H⟩:=σ
 obtain⟨T',H'⟩:=σ'
 congr 1
 ·funext t;exact h.X7 h' (λj u hj _=>hs j u hj)
 ·funext k;exact h.X8 h' (λj u hj _=>hs j u hj)
theorem pE.step{us:List Out}{σ0 σ:St}{S:Nat→Prop}(h:pE us σ0 S σ){i:Nat}{u:Out}(hi:us[i]? =some u)(hc: ∀j u',us[j]? =some u'→S j→i<j→(∀t,u.dst=some t→u'.dst≠some t)∧ ∀k∈keys u.ups,k∉keys u'.ups):
  pE us σ0 (λj=>j=i∨S j) (u.app σ):=by
 refine⟨λt=> ?_,λk=> ?_⟩
 ·by_cases hd:u.dst=some t
  ·left
   refine⟨i,u,hi,.inl rfl,hd,λj' u' h1 h2 h3=> ?_,RM hd σ⟩
   rcases h2 with rfl|h2
   ·exact aH _
   ·exact Nat.le_of_not_lt λfj=>(hc j' u' h1 h2 fj).1 t hd h3
  ·rw[X5 hd]
   rcases h.T t with⟨j,u1,h1,h2,h3,h4,h5⟩|⟨h1,h2⟩
   ·refine .inl ⟨j,u1,h1,.inr h2,h3,λj' u' qM y6 RN=> ?_,h5⟩
    rcases y6 with rfl|y6
    ·rw[hi]at qM;cases qM;exact absurd RN hd
    ·exact h4 j' u' qM y6 RN
   ·refine .inr ⟨λj u' qM y6=> ?_,h2⟩
    rcases y6 with rfl|y6
    ·rw[hi]at qM;cases qM;exact hd
    ·exact h1 j u' qM y6
 ·rw[apf]
  by_cases hd:k∈keys u.ups
  ·left
   refine⟨i,u,hi,.inl rfl,hd,λj' u' h1 h2 h3=> ?_,Vm hd _ _⟩
   rcases h2 with rfl|h2
   ·exact aH _
   ·exact Nat.le_of_not_lt λfj=>(hc j' u' h1 h2 fj).2 k hd h3
  ·rw[lM hd]
   rcases h.H k with⟨j,u1,h1,h2,h3,h4,h5⟩|⟨h1,h2⟩
   ·refine .inl ⟨j,u1,h1,.inr h2,h3,λj' u' qM y6 RN=> ?_,h5⟩
    rcases y6 with rfl|y6
    ·rw[hi]at qM;cases qM;exact absurd RN hd
    ·exact h4 j' u' qM y6 RN
   ·refine .inr ⟨λj u' qM y6=> ?_,h2⟩
    rcases y6 with rfl|y6
    ·rw[hi]at qM;cases qM;exact hd
    ·exact h1 j u' qM y6
theorem pE.start(us:List Out)(σ0:St):pE us σ0 (λ_=>False) σ0:=⟨λt=> .inr ⟨λ_ _ _ h=>h.elim,rfl⟩,λk=> .inr ⟨λ_ _ _ h=>h.elim,rfl⟩⟩
theorem pE.congr{us:List Out}{σ0 σ:St}{S S':Nat→Prop}(h:pE us σ0 S σ)(hs: ∀j,S j↔S' j):pE us σ0 S' σ:=by
 have:S=S':=funext λj=>propext (hs j)
 rw[←this];exact h
theorem pE.text(us:List Out)(σ0:St): ∀i,i≤us.length→pE us σ0 (λj=>j<i) ((us.take i).foldl (fun σ u=>u.app σ) σ0)
 |0,_=>(pE.start us σ0).congr λj=>by simp
 |i+1,hi=>by
  have ih:=pE.text us σ0 i ω
  have hu:us[i]? =some us[i]:=bg ω
  have:=ih.step hu (λj u' _ h2 h3=>ω)
  rw[List.take_add_one,hu,List.foldl_append]
  exact this.congr λj=>by constructor<;>intro h<;>omega
end VM
end
section
namespace VM
open Go
variable{P:Program}{E:Env}{o:Oper}{a:Act}{w:World}{M:Nat→Prop}{ν:Nat→Value}{σ:St}{c:Ctx}{α:Type}{r:α}{next:Act→World→Prop}{Q:Exit→Act→World→Prop}
def Pre(S:Nat→Prop)(o:Oper):Prop:= ∀e∈o.after,Region.binds .any e=true→S e.on
theorem Gb{β:Type}{l m:List β}{i:Nat}{d:β}(h:i<l.length):(l++m).getD i d=l.getD i d:=by
 simp only[List.getD,tc h]
theorem Gc{β:Type}{l:List β}{x d:β}:(l++[x]).getD l.length d=x:=by
 simp[List.getD]
theorem Dh{acc:List Nat}{i:Nat}: ∀(es:List Edge) (s:Nat),(es.foldl (λs e=>cond (Region.binds .any e) (s|||2^e.on|||acc.getD e.on 0) s) s).testBit i=true→
  s.testBit i=true∨ ∃e∈es,Region.binds .any e=true∧(i=e.on∨(acc.getD e.on 0).testBit i=true)
 |[],s,h=> .inl h
 |e::es,s,h=>by
  rw[List.foldl_cons]at h
  rcases Dh es _ h with h1|⟨e',h1,h2⟩
  ·cases hb:Region.binds .any e
   ·rw[hb]at h1;exact .inl h1
   ·rw[hb]at h1
    simp only[ak,Nat.testBit_or,nu]at h1
    rcases h1 with(h1|h1)|h1
    ·exact .inl h1
    ·refine .inr ⟨e,bh,hb,.inl ?_⟩
     rw[Nat.testBit_two_pow]at h1
     simpa using (bA h1).symm
    ·exact .inr ⟨e,bh,hb,.inr h1⟩
  ·exact .inr ⟨e',a7 _ h1,h2⟩
theorem Di{S:Nat→Prop}: ∀(l:List Oper) (acc:List Nat) (all:List Oper),all.length=acc.length+l.length→(∀j,l[j]? =all[acc.length+j]?)→
  (∀j o,all[j]? =some o→S j→Pre S o)→(∀j i,j<acc.length→S j→(acc.getD j 0).testBit i=true→S i)→
  ∀j o i,all[j]? =some o→(Pre S o∨S j)→((tT l acc).getD j 0).testBit i=true→(j<acc.length→ ∀i,Pre S o→(acc.getD j 0).testBit i=true→S i)→S i
 |[],acc,all,hl,ki,hS,ab4,j,o,i,hj,Gd,hb,X9=>by
  have fj:j<all.length:=(vo.1 hj).1
  have xq:j<acc.length:=by simp at hl;omega
  rcases Gd with hp|hp
  ·exact X9 xq i hp hb
  ·exact ab4 j i xq hp hb
 |p::l,acc,all,hl,ki,hS,ab4,j,o,i,hj,Gd,hb,X9=>by
  unfold tT at hb
  have Xj:all[acc.length]? =some p:=by rw[←nw acc.length,←ki 0];rfl
  have ab5: ∀i,Pre S p→(p.after.toList.foldl (λs e=>cond (Region.binds .any e) (s|||2^e.on|||acc.getD e.on 0) s) 0).testBit i=true→S i:=by
   intro i B1 hb
   rcases Dh p.after.toList 0 hb with h1|⟨e,he,hbe,h1⟩
   ·simp at h1
   ·have hSe:=B1 e (by simpa using he) hbe
    rcases h1 with rfl|h1
    ·exact hSe
    ·by_cases fj:e.on<acc.length
     ·exact ab4 e.on i fj hSe h1
     ·rw[List.getD,gH ω]at h1;simp at h1
  refine Di l (acc++[p.after.toList.foldl (λs e=>cond (Region.binds .any e) (s|||2^e.on|||acc.getD e.on 0) s) 0]) all (by simp at hl ⊢;omega) (λj=> ?_) hS (λj' i' XU hS' fg=> ?_) j o i hj Gd hb (λfj i' D2 fg=> ?_)
  ·have:=ki (j+1)
   simp only[List.getElem?_cons_succ]at this
   rw[this]
   congr 1
   simp;omega
  ·by_cases fj:j'<acc.length
   ·rw[Gb fj]at fg
    exact ab4 j' i' fj hS' fg
   ·have hje:j'=acc.length:=by simp at XU;omega
    subst hje
    rw[Gc]at fg
    exact ab5 i' (hS _ p Xj hS') fg
  ·by_cases xq:j<acc.length
   ·rw[Gb xq]at fg
    exact X9 xq i' D2 fg
   ·have hje:j=acc.length:=by simp at fj;omega
    subst hje
    rw[Xj]at hj;cases hj
    rw[Gc]at fg
    exact ab5 i' D2 fg
theorem forced{ops:List Oper}{S:Nat→Prop}(hS: ∀j o,ops[j]? =some o→S j→Pre S o){j i:Nat}(hj:ops[j]? =some o)(Gd:Pre S o∨S j)(hb:((tT ops []).getD j 0).testBit i=true):S i:=
 Di ops [] ops (by simp) (λj=>by simp) hS (λj i h=>by simp at h) j o i hj Gd hb (λh=>by simp at h)
theorem mM{l m:List Nat}(h:meets l m=false){x:Nat}(h1:x∈l)(h2:x∈m):False:=by
 have:meets l m=true:=by
  unfold meets
  rw[Aj]
  refine⟨x,h1,?_⟩
  rw[Aj]
  exact⟨x,h2,uC x⟩
 rw[h]at this;cases this
structure Rnd(c:Ctx)(E:Env)(ops:Array Oper)(us:List Out)(σ0:St)(listed:Array Bool)(a:Act)(w:World):Prop where
 size:listed.size=ops.size
 closed: ∀j o,ops.toList[j]? =some o→listed.getD j false=true→Pre (λi=>listed.getD i false=true) o
 st: ∃σ,pE us σ0 (λj=>listed.getD j false=true) σ∧Inv c E σ a w
theorem zs{listed:Array Bool}{j:Nat}(h:j<listed.size)(d:Bool):listed.getD j d=listed.getD j false:=by
 simp[Array.getD,h]
theorem K9(hE:uS P E){ops:Array Oper}{us:List Out}{σ0 σn:St}{α:Type}(x0:α)(hl:us.length=ops.toList.length)
  (hpt: ∀(j:Nat) (u:Out) (o:Oper),us[j]? =some u→ops.toList[j]? =some o→Pt E ops.toList o ((us.take j).foldl (fun σ u=>u.app σ) σ0) u α)
  (hn:σn=us.foldl (fun σ u=>u.app σ) σ0)
  (fj: ∀(j:Nat) (o:Oper),ops.toList[j]? =some o→ ∀e∈o.after,Region.binds .any e=true→e.on<j)
  (NT: ∀(j:Nat) (o:Oper) (i:Nat) (p:Oper),ops.toList[j]? =some o→ops.toList[i]? =some p→i<j→((tT ops.toList []).getD j 0).testBit i=false→
   (∀d,p.dst=some d→o.dst≠some d∧d∉names ops.toList o)∧(∀d,o.dst=some d→d∉names ops.toList p))
  (hlg: ∀(j:Nat) (u:Out) (i:Nat) (v:Out),us[j]? =some u→us[i]? =some v→i<j→((tT ops.toList []).getD j 0).testBit i=false→
   (∀k∈keys v.ups,k∉u.rd∧k∉keys u.ups)∧(∀k∈v.rd,k∉keys u.ups))
  (hq: ∀a' w',Inv c E σn a' w'→Q .normal a' w'):
  ∀(fuel:Nat) (listed:Array Bool) (a:Act) (w:World),((List.range ops.size).filter λj=> !(listed.getD j false)).length≤fuel→Rnd c E ops us σ0 listed a w→wpAny P .any ops Q fuel listed a w:=by
 have ki: ∀(listed:Array Bool) (a:Act) (w:World),Rnd c E ops us σ0 listed a w→Region.ready .any ops listed=[]→Q .normal a w:=by
  intro listed a w hR aj0
  obtain⟨hs,Ja,σ,H5,hI⟩:=hR
  have aph: ∀j,j<ops.size→listed.getD j false=true:=by
   intro j
   induction j using Nat.strongRecOn with
   |_ j ih=>
    intro hj
    by_cases hb:listed.getD j false=true
    ·exact hb
    ·exfalso
     have ho:ops[j]? =some ops[j]:=MW hj
     have:j∈Region.ready .any ops listed:=by
      rw[mem_ready]
      refine⟨by rw[zs ω];simpa using hb,_,ho,λe he hbe=> ?_⟩
      have hej:=fj j ops[j] (by rw[gP];exact ho) e he hbe
      exact ih e.on hej ω
     rw[aj0]at this
     cases this
  have hσ:σ=σn:=by
   rw[hn]
   have ht:=pE.text us σ0 us.length (aH _)
   rw[jf]at ht
   refine H5.unique ht λj u hj=> ?_
   have H7:j<us.length:=(vo.1 hj).1
   have hjo:j<ops.size:=by rw[hl,bL]at H7;exact H7
   exact⟨λ_=>H7,λ_=>aph j hjo⟩
  exact hq a w (hσ▸hI)
 intro fuel
 induction fuel with
 |zero=>
  intro listed a w hf hR
  have Vn:Region.ready .any ops listed=[]:=by
   rw[List.eq_nil_iff_forall_not_mem]
   intro j hj
   rw[mem_ready]at hj
   obtain⟨h0,o,ho,_⟩:=hj
   have hjs:j<ops.size:=(kH.1 ho).1
   have H7:j<listed.size:=by rw[hR.size];exact hjs
   rw[zs H7]at h0
   have lL:j∈(List.range ops.size).filter λj=> !(listed.getD j false):=by
    rw[w5];exact⟨rH.2 hjs,by rw[h0];rfl⟩
   have:((List.range ops.size).filter λj=> !(listed.getD j false))=[]:=ta ω
   rw[this]at lL;cases lL
  exact⟨Vn,ki listed a w hR Vn⟩
 |succ fuel ih=>
  intro listed a w hf hR
  refine⟨ki listed a w hR,λi hi=> ?_⟩
  have nD:=hi
  rw[mem_ready]at nD
  obtain⟨h0,o,ho,Gd⟩:=nD
  have his:i<ops.size:=(kH.1 ho).1
  have Ip:i<listed.size:=by rw[hR.size];exact his
  rw[zs Ip]at h0
  obtain⟨hs,Ja,σ,H5,hI⟩:=hR
  have Cc:ops.toList[i]? =some o:=by rw[gP];exact ho
  have hiu:i<us.length:=by rw[hl,bL];exact his
  have hu:us[i]? =some us[i]:=bg hiu
  have hPt:=hpt i us[i] o hu Cc
  have hSi: ¬listed.getD i false=true:=by rw[h0];simp
  have NU: ∀j p,ops.toList[j]? =some p→((j<i∧ ¬listed.getD j false=true)→((tT ops.toList []).getD i 0).testBit j=false)∧((i<j∧listed.getD j false=true)→((tT ops.toList []).getD j 0).testBit i=false):=by
   intro j p hj
   refine⟨λ⟨_,h2⟩=> ?_,λ⟨_,h2⟩=> ?_⟩
   ·rw[←nk]
    intro hb
    exact h2 (forced Ja Cc (.inl Gd) hb)
   ·rw[←nk]
    intro hb
    exact hSi (forced Ja hj (.inr h2) hb)
  have Ya: ∀(j:Nat) (u:Out),us[j]? =some u→ ∃p:Oper,ops.toList[j]? =some p∧u.dst=p.dst:=by
   intro j u hj
   have H7:j<us.length:=(vo.1 hj).1
   have hp:ops.toList[j]? =some ops.toList[j]:=bg ω
   exact⟨_,hp,(hpt j u _ hj hp).1⟩
  have ais:=pE.text us σ0 i ω
  have hT: ∀t∈names ops.toList o,σ.T t=((us.take i).foldl (fun σ u=>u.app σ) σ0).T t:=by
   intro t ht
   refine H5.X7 ais λj u hj hd=> ?_
   obtain⟨p,hp,hpd⟩:=Ya j u hj
   have hpd:p.dst=some t:=by rw[←hpd,hd]
   constructor
   ·intro NV
    refine Nat.lt_of_not_le λhle=> ?_
    rcases Nat.lt_or_eq_of_le hle with xq|heq
    ·exact(NT j p i o hp Cc xq ((NU j p hp).2 ⟨xq,NV⟩)).2 t hpd ht
    ·subst heq;exact hSi NV
   ·intro zt
    by_cases NV:listed.getD j false=true
    ·exact NV
    ·exact absurd ht ((NT i o j p Cc hp zt ((NU j p hp).1 ⟨zt,NV⟩)).1 t hpd).2
  have hH:Ag us[i].rd ((us.take i).foldl (fun σ u=>u.app σ) σ0).H σ.H:=by
   intro k hk
   refine H5.X8 ais λj u hj hd=> ?_
   obtain⟨p,hp,hpd⟩:=Ya j u hj
   constructor
   ·intro NV
    refine Nat.lt_of_not_le λhle=> ?_
    rcases Nat.lt_or_eq_of_le hle with xq|heq
    ·exact(hlg j u i us[i] hj hu xq ((NU j p hp).2 ⟨xq,NV⟩)).2 k hk hd
    ·subst heq;exact hSi NV
   ·intro zt
    by_cases NV:listed.getD j false=true
    ·exact NV
    ·exact absurd hk ((hlg i us[i] j u hu hj zt ((NU j p hp).1 ⟨zt,NV⟩)).1 k hd).1
  have api:=hPt.2 σ hT hH
  have hIs:pE us σ0 (λj=>j=i∨listed.getD j false=true) (us[i].app σ):=by
   refine H5.step hu λj u hj NV qB=> ?_
   obtain⟨p,hp,hpd⟩:=Ya j u hj
   have Ec:=(NU j p hp).2 ⟨qB,NV⟩
   obtain⟨h1,h2⟩:=NT j p i o hp Cc qB Ec
   obtain⟨h3,h4⟩:=hlg j u i us[i] hj hu qB Ec
   refine⟨λt ht=> ?_,λk hk=>(h3 k hk).2⟩
   rw[hpd]
   exact(h1 t (by rw[←hPt.1];exact ht)).1
  have AU: ∀j,(listed.setIfInBounds i true).getD j false=true↔(j=i∨listed.getD j false=true):=by
   intro j
   by_cases zt:j=i
   ·subst zt
    constructor
    ·intro _;exact .inl rfl
    ·intro _;simp[Ip]
   ·rw[getD_set_ne false (eU zt)]
    exact⟨.inr,λh=>h.resolve_left zt⟩
  classical
  let K':St→List Nat→List Nat→Option α:=fun σ' _ _=>if σ'=us[i].app σ then some x0 else none
  have hK:uF E ops.toList o σ K'=some x0:=by rw[api K'];simp[K']
  have:=Dg (Q:=Q) (next:=wpAny P .any ops Q fuel (listed.setIfInBounds i true)) hE hI hK (fun σ' a' w' rd wr hσ' y4=>by
   have avc:σ'=us[i].app σ:=by
    by_cases h:σ'=us[i].app σ
    ·exact h
    ·simp[K',h]at hσ'
   subst avc
   refine ih _ a' w' ?_ ⟨by simpa using hs,λj p hp NV e he hb=> ?_,_,hIs.congr (λj=>(AU j).symm),y4⟩
   ·have hlen:((List.range ops.size).filter λj=> !((listed.setIfInBounds i true).getD j false)).length<((List.range ops.size).filter λj=> !(listed.getD j false)).length:=by
     have Vb:((List.range ops.size).filter λj=> !((listed.setIfInBounds i true).getD j false))=((List.range ops.size).filter λj=> !(listed.getD j false)).filter λj=> !(Nat.beq j i):=by
      rw[List.filter_filter]
      apply List.filter_congr
      intro j _
      by_cases zt:j=i
      ·subst zt
       have h1:=(AU j).2 (.inl rfl)
       rw[h1];simp
      ·have h1:Nat.beq j i=false:=by rw[←nk,w8];exact zt
       rw[h1,getD_set_ne false (eU zt)];simp
     rw[Vb]
     refine List.length_filter_lt_length_iff_exists.2 ⟨i,?_,by simp⟩
     rw[w5];exact⟨rH.2 his,by rw[h0];rfl⟩
    omega
   ·rcases(AU j).1 NV with rfl|NV
    ·rw[Cc]at hp;cases hp
     exact(AU _).2 (.inr (Gd e he hb))
    ·exact(AU _).2 (.inr (Ja j p hp NV e he hb)))
  unfold wpOp
  rw[ho]
  simp only
  split
  ·rename_i hw;rw[ah hw]at this;exact .inl this
  ·rename_i hw;rw[aj hw]at this;exact this
theorem Iy(hE:uS P E){id:Nat}{ops:Array Oper}{draw:Bool}(hI:Inv c E σ a w){K:St→Option α}(h:ED E ops draw σ K=some r)
  (hn: ∀σ' a' w',K σ'=some r→Inv c E σ' a' w'→Q .normal a' w'):(Code.region id ops draw).wp P Q a w:=by
 cases draw
 ·refine wp_region_list (F5 hE ops.toList 0 σ [] a w _ hI h fun σ' lg' a' w' h' y4=> ?_)
  exact hn σ' a' w' (cF h').2 y4
 ·unfold ED at h
  obtain⟨us,hl,hpt,lg,hK,_,apj⟩:=TF _ _ _ _ _ h
  obtain⟨Xh,hK⟩:=cF hK
  simp only[bp,uB,bB]at Xh
  obtain⟨NT,hlg⟩:=Xh
  unfold Xy at NT
  simp only[bB,nn]at NT
  obtain⟨avd,ave⟩:=NT
  have hz: ∀j o,ops.toList[j]? =some o→(o,j)∈ops.toList.zipIdx:=λj o hj=>List.mem_zipIdx_iff_getElem?.2 hj
  refine wp_region_any hE.mixed (K9 (Q:=Q) (σ0:=σ) hE r hl hpt rfl (λj o hj e he hbe=> ?_) (λj o i p hj hi qB hb=> ?_) (λj u i v hj hi qB hb=> ?_) (λa' w' y4=>hn _ a' w' hK y4) ops.size (Array.replicate ops.size false) a _ ?_ ?_)
  ·have:=avd (o,j) (hz j o hj) e (by simpa using he)
   rw[hbe]at this
   simpa [Av]using this
  ·have:=ave (o,j) (hz j o hj) (p,i) (hz i p hi)
   simp only[hb,rI,nu,rD,Bool.or_eq_false_iff]at this
   have Il: ¬Nat.ble j i=true:=by rw[Aw];omega
   have this:=this.resolve_left Il
   refine⟨λd hd=>⟨λhd'=> ?_,λhd'=> ?_⟩,λd hd hd'=> ?_⟩
   ·exact mM this.1 (x:=d) (by simp[hd]) (by simp[hd'])
   ·exact mM this.1 (x:=d) (by simp[hd]) (by simp[hd'])
   ·exact mM this.2 (x:=d) (by simp[hd]) hd'
  ·unfold aid at hlg
   simp only[nn]at hlg
   have XU:=apj j u hj
   have nD:=apj i v hi
   rw[fT]at XU nD
   have:=hlg _ XU _ nD
   simp only[hb,rI,nu,rD,Bool.or_eq_false_iff]at this
   have Il: ¬Nat.ble j i=true:=by rw[Aw];omega
   have this:=this.resolve_left Il
   refine⟨λk hk=>⟨λFV=> ?_,λFV=> ?_⟩,λk hk FV=> ?_⟩
   ·exact mM this.1 (x:=k) hk (c3 _ FV)
   ·exact mM this.1 (x:=k) hk (dK _ FV)
   ·exact mM this.2 (x:=k) hk FV
  ·refine ct (List.length_filter_le _ _) ?_
   rw[wZ];exact aH _
  ·have hf: ∀j,(Array.replicate ops.size false).getD j false=false:=by
    intro j
    rw[tb,Array.getElem?_replicate]
    split<;>rfl
   obtain⟨⟨M,ν,hc⟩,hs,hd,yO⟩:=hI
   refine⟨by simp,λj o _ hS=>(by rw[hf]at hS;cases hS),σ,(pE.start us σ).congr (λj=>(by rw[hf];simp)),⟨M,ν,?_⟩,hs,hd,yO⟩
   exact hc.tr (Tr.drew hc.mem)
end VM
end
