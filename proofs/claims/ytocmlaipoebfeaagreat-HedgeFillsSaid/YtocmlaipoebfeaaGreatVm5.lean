/- A part of the proof of HedgeFills of layer 22: a machine that reads a function of the program as an equation between values. -/
import Derived.Test.YtocmlaipoebfeaaGreatVm4
set_option linter.all false
section
namespace VM
open Go
variable{α:Type}{r:α}
theorem cL{υ τ:Ty}{y:υ.den}{k:τ.den→Option α}(h:ch υ τ y k=some r): ∃z,k z=some r∧ ∀k':τ.den→Option α,ch υ τ y k'=k' z:=by
 obtain⟨e,h⟩:=bc h
 subst e
 exact⟨y,h,fun k'=>by simp[ch]⟩
theorem gI{υ τ:Ty}{k:Option α}(h:jK υ τ k=some r):k=some r∧ ∀k':Option α,jK υ τ k'=k':=by
 obtain⟨e,h1⟩:=dN h
 clear h
 subst e
 exact⟨h1,fun k'=>by simp[jK]⟩
theorem c4{b:Bool}{K:Option α}(h:cond b K none=some r):K=some r∧ ∀K':Option α,cond b K' none=K':=by
 obtain⟨rfl,h⟩:=bK h
 exact⟨h,fun _=>rfl⟩
theorem pO{b:Bool}{K:Option α}(h:cond b none K=some r):K=some r∧ ∀K':Option α,cond b none K'=K':=by
 obtain⟨rfl,h⟩:=jk h
 exact⟨h,fun _=>rfl⟩
theorem sM: ∀{τ:Ty} {x:τ.den} {n:Nat} {k:(υ:Ty)→υ.den→Option α},tc τ x n k=some r→ ∃υ y,k υ y=some r∧ ∀k':(υ:Ty)→υ.den→Option α,tc τ x n k'=k' υ y
 | .pair a b,x,0,k,h=>⟨a,x.1,h,fun _=>rfl⟩
 | .pair a b,x,n+1,k,h=>by
  obtain⟨υ,y,h1,h2⟩:=sM (τ:=b) (x:=x.2) (n:=n) (k:=k) h
  exact⟨υ,y,h1,fun k'=>h2 k'⟩
 | .int _,_,_,_,h| .bool,_,_,_,h| .str,_,_,_,h| .slice _,_,_,_,h| .unit,_,_,_,h| .arr _ _,_,_,_,h=>by simp[tc]at h
theorem tV: ∀{τ:Ty} {x:τ.den} {n:Nat} {m:(υ:Ty)→υ.den→(υ.den→Option α)→Option α} {k:τ.den→Option α},
  (∀υ y (k:υ.den→Option α),m υ y k=some r→ ∃z,k z=some r∧ ∀k':υ.den→Option α,m υ y k'=k' z)→jJ τ x n m k=some r→ ∃z,k z=some r∧ ∀k':τ.den→Option α,jJ τ x n m k'=k' z
 | .pair a b,x,0,m,k,hm,h=>by
  obtain⟨z,h1,h2⟩:=hm a x.1 _ h
  exact⟨(z,x.2),h1,fun k'=>h2 _⟩
 | .pair a b,x,n+1,m,k,hm,h=>by
  obtain⟨z,h1,h2⟩:=tV (τ:=b) (x:=x.2) (n:=n) (m:=m) (k:=fun z=>k (x.1,z)) hm h
  exact⟨(x.1,z),h1,fun k'=>h2 (fun z=>k' (x.1,z))⟩
 | .int _,_,_,_,_,_,h| .bool,_,_,_,_,_,h| .str,_,_,_,_,_,h| .slice _,_,_,_,_,_,h| .unit,_,_,_,_,_,h| .arr _ _,_,_,_,_,_,h=>by simp[jJ]at h
theorem eK: ∀{p:List Step} {τ:Ty} {x:τ.den} {k:(υ:Ty)→υ.den→Option α},uO p τ x k=some r→ ∃υ y,k υ y=some r∧ ∀k':(υ:Ty)→υ.den→Option α,uO p τ x k'=k' υ y
 |[],τ,x,k,h=>⟨τ,x,h,fun _=>rfl⟩
 | .gX n::p,τ,x,k,h=>by
  obtain⟨υ,y,h1,h2⟩:=sM (h:tc τ x n _=some r)
  obtain⟨υ',y',h3,h4⟩:=eK h1
  exact⟨υ',y',h3,fun k'=>(h2 _).trans (h4 k')⟩
 | .idx i::p,τ,x,k,h=>by
  cases τ with
  |arr n e=>
   obtain⟨υ',y',h3,h4⟩:=eK (p:=p) (τ:=e) (x:=List.getD x i e.zero) (k:=k) h
   exact⟨υ',y',h3,fun k'=>h4 k'⟩
  |_=>simp[uO,aa8]at h
theorem lj{υ:Ty}{y:υ.den}: ∀{p:List Step} {τ:Ty} {x:τ.den} {k:τ.den→Option α},rm υ y p τ x k=some r→ ∃z,k z=some r∧ ∀k':τ.den→Option α,rm υ y p τ x k'=k' z
 |[],τ,x,k,h=>cL h
 | .gX n::p,τ,x,k,h=>tV (fun _ _ _ h=>lj h) h
 | .idx i::p,τ,x,k,h=>by
  cases τ with
  |arr n e=>
   obtain⟨z,h1,h2⟩:=lj (p:=p) (τ:=e) (x:=List.getD x i e.zero) (k:=fun z=>k (List.set x i z)) h
   exact⟨_,h1,fun k'=>h2 (fun z=>k' (List.set x i z))⟩
  |_=>simp[rm,yU]at h
theorem oO{a:a6}{k:IntKind→Int→Option α}(h:rD a k=some r): ∃i n,k i n=some r∧ ∀k':IntKind→Int→Option α,rD a k'=k' i n:=by
 obtain⟨i,n,rfl,h⟩:=jN h
 exact⟨i,n,h,fun _=>rfl⟩
theorem L8{a:a6}{k:(τ:Ty)→τ.den→Option α}(h:FG a k=some r): ∃τ x,k τ x=some r∧ ∀k':(τ:Ty)→τ.den→Option α,FG a k'=k' τ x:=by
 unfold FG at h
 split at h
 ·exact⟨_,_,h,fun _=>rfl⟩
 ·cases h
theorem qo{a:Option a6}{d:Int}{k:Int→Option α}(h:tN a d k=some r): ∃n,k n=some r∧ ∀k':Int→Option α,tN a d k'=k' n:=by
 cases a with
 |none=>exact⟨d,h,fun _=>rfl⟩
 |some a=>
  obtain⟨i,n,h1,h2⟩:=oO (h:rD a (fun _ x=>k x)=some r)
  exact⟨n,h1,fun k'=>h2 (fun _ x=>k' x)⟩
abbrev Ag(rd:List Nat)(H H':Nat→Option aR):Prop:= ∀i∈rd,H' i=H i
theorem ll{fz:Bool}{a:a6}{H:Nat→Option aR}{τ:Ty}{k:τ.den→List Nat→fF→Option α}(h:iV fz a H τ k=some r):
  ∃y rd ups,k y rd ups=some r∧ ∀H',Ag rd H H'→ ∀k':τ.den→List Nat→fF→Option α,iV fz a H' τ k'=k' y rd ups:=by
 cases a with
 |val υ x=>
  simp only[iV]at h
  obtain⟨z,h1,h2⟩:=cL h
  refine⟨z,[],[],h1,fun H' _ k'=> ?_⟩
  simp only[iV]
  exact h2 (fun y=>k' y [] [])
 |DK υ x n=>
  simp only[iV]at h
  obtain⟨z,h1,h2⟩:=cL h
  refine⟨z,[],[],h1,fun H' _ k'=> ?_⟩
  simp only[iV]
  exact h2 (fun y=>k' y [] [])
 |emp=>
  cases τ with
  |slice e=>exact⟨[],[],[],h,fun _ _ _=>rfl⟩
  |_=>cases h
 |ref id=>
  have h:(match H id with
   |some (.own e l)=>ch (.slice e) τ l fun y=>k y [id] (cond fz [(id,some (.la e l))] [])
   |some (.la e l)=>ch (.slice e) τ l fun y=>k y [id] []
   |_=>none)=some r:=h
  cases hH:H id with
  |none=>rw[hH]at h;cases h
  |some e=>
   rw[hH]at h
   cases e with
   |own e l=>
    obtain⟨z,h1,h2⟩:=cL (h:ch (.slice e) τ l _=some r)
    refine⟨z,_,_,h1,fun H' hA k'=> ?_⟩
    have:H' id=some (.own e l):=by rw[hA id (by simp),hH]
    show(match H' id with
     |some (.own e l)=>ch (.slice e) τ l fun y=>k' y [id] (cond fz [(id,some (.la e l))] [])
     |some (.la e l)=>ch (.slice e) τ l fun y=>k' y [id] []
     |_=>none)=_
    rw[this];exact h2 _
   |la e l=>
    obtain⟨z,h1,h2⟩:=cL (h:ch (.slice e) τ l _=some r)
    refine⟨z,_,_,h1,fun H' hA k'=> ?_⟩
    have:H' id=some (.la e l):=by rw[hA id (by simp),hH]
    show(match H' id with
     |some (.own e l)=>ch (.slice e) τ l fun y=>k' y [id] (cond fz [(id,some (.la e l))] [])
     |some (.la e l)=>ch (.slice e) τ l fun y=>k' y [id] []
     |_=>none)=_
    rw[this];exact h2 _
   |obj _ _=>cases h
   |dW _ _ _ _=>cases h
   |gone=>cases h
 |any|PD|fP _ _|nk _ _|tup _|FE _ _=>cases h
theorem wE{id:Nat}{p:List Step}{H:Nat→Option aR}{k:Ty→Option α}(h:jL id p H k=some r): ∃υ,k υ=some r∧ ∀H',H' id=H id→ ∀k':Ty→Option α,jL id p H' k'=k' υ:=by
 unfold jL at h
 split at h
 ·rename_i τ x aU
  obtain⟨υ,y,h1,h2⟩:=eK h
  exact⟨υ,h1,fun H' hA k'=>by unfold jL;rw[hA,aU];exact h2 _⟩
 ·rename_i τ x _ _ aU
  obtain⟨υ,y,h1,h2⟩:=eK h
  exact⟨υ,h1,fun H' hA k'=>by unfold jL;rw[hA,aU];exact h2 _⟩
 ·rename_i e l aU
  split at h
  ·obtain⟨υ,y,h1,h2⟩:=eK h
   exact⟨υ,h1,fun H' hA k'=>by unfold jL;rw[hA,aU];exact h2 _⟩
  ·cases h
 ·rename_i e l aU
  split at h
  ·obtain⟨υ,y,h1,h2⟩:=eK h
   exact⟨υ,h1,fun H' hA k'=>by unfold jL;rw[hA,aU];exact h2 _⟩
  ·cases h
 ·cases h
theorem sN{H:Nat→Option aR}{id:Nat}{e:aR}{K:Option α}(h:nn H id e K=some r):K=some r∧ ∀H',H' id=H id→ ∀(e':aR) (K':Option α),nn H' id e' K'=K':=by
 obtain⟨h1,h2⟩:=iE h
 exact⟨h2,fun H' hA e' K'=>by unfold nn;rw[hA,h1]⟩
theorem Ny{b:BinOp}{k:IntKind}{x y:Int}{K:a6→Option α}(h:qb b k x y K=some r): ∃v,K v=some r∧ ∀K':a6→Option α,qb b k x y K'=K' v:=by
 cases b<;>simp only[qb]at h ⊢ <;>first
  |exact⟨_,h,fun _=>rfl⟩
  |(obtain⟨h1,h2⟩:=pO h;exact⟨_,h1,fun _=>h2 _⟩)
  |cases h
theorem abN{b:BinOp}{k:IntKind}{x y:Int}{K:a6→Option α}(h:Tx b k x y K=some r): ∃v,K v=some r∧ ∀K':a6→Option α,Tx b k x y K'=K' v:=by
 cases b<;>simp only[Tx]at h ⊢ <;>first
  |(obtain⟨h1,h2⟩:=pO h;exact⟨_,h1,fun _=>h2 _⟩)
  |cases h
theorem P5{t:Option Ty}{op:BinOp}{τ:Ty}{x:τ.den}{υ:Ty}{y:υ.den}{K:a6→Option α}(h:zr t op τ x υ y K=some r): ∃v,K v=some r∧ ∀K':a6→Option α,zr t op τ x υ y K'=K' v:=by
 unfold zr at h ⊢
 split at h
 ·rename_i k x k' y
  cases hs:Tz op
  ·rw[hs]at h
   have h:(if k=k' then qb op k x y K else none)=some r:=h
   by_cases hk:k=k'
   ·rw[if_pos hk]at h
    obtain⟨v,h1,h2⟩:=Ny h
    exact⟨v,h1,fun K'=>by simp only[cond_false,if_pos hk];exact h2 K'⟩
   ·rw[if_neg hk]at h;cases h
  ·rw[hs]at h
   obtain⟨v,h1,h2⟩:=abN (h:Tx op k x y K=some r)
   exact⟨v,h1,fun K'=>by simp only[cond_true];exact h2 K'⟩
 ·split at h
  ·cases h
  ·obtain⟨h1,h2⟩:=gI h
   obtain⟨h3,h4⟩:=c4 h1
   split at h3
   ·obtain⟨z,h5,h6⟩:=cL h3
    exact⟨_,h5,fun K'=>by rw[h2,h4];exact h6 _⟩
   ·obtain⟨z,h5,h6⟩:=cL h3
    exact⟨_,h5,fun K'=>by rw[h2,h4];exact h6 _⟩
   ·cases h3
theorem T1{u:UnOp}{a:a6}{K:a6→Option α}(h:Nb u a K=some r): ∃v,K v=some r∧ ∀K':a6→Option α,Nb u a K'=K' v:=by
 unfold Nb at h
 split at h<;>first
  |exact⟨_,h,fun _=>rfl⟩
  |cases h
theorem J9{up:Bool}: ∀{xs:List a6} {a:a6} {K:a6→Option α},S3 up a xs K=some r→ ∃v,K v=some r∧ ∀K':a6→Option α,S3 up a xs K'=K' v
 |[],a,K,h=>⟨a,h,fun _=>rfl⟩
 |b::xs,a,K,h=>by
  unfold S3 at h
  obtain⟨k,x,h1,h2⟩:=oO h
  obtain⟨k',y,h3,h4⟩:=oO h1
  by_cases hk:k=k'
  ·rw[if_pos hk]at h3
   obtain⟨v,h5,h6⟩:=J9 h3
   refine⟨v,h5,fun K'=> ?_⟩
   unfold S3
   rw[h2,h4,if_pos hk]
   exact h6 K'
  ·rw[if_neg hk]at h3;cases h3
theorem T2{τ:Ty}{a:a6}{H:Nat→Option aR}{K:fG α}(h:FH τ a H K=some r): ∃v rd ups,K v rd ups=some r∧ ∀H',Ag rd H H'→ ∀K':fG α,FH τ a H' K'=K' v rd ups:=by
 unfold FH at h
 split at h
 ·exact⟨_,_,_,h,fun _ _ _=>rfl⟩
 ·exact⟨_,_,_,h,fun _ _ _=>rfl⟩
 ·exact⟨_,_,_,h,fun _ _ _=>rfl⟩
 ·exact⟨_,_,_,h,fun _ _ _=>rfl⟩
 ·split at h
  ·rename_i aU
   exact⟨_,_,_,h,fun H' hA K'=>by unfold FH;simp only;rw[hA _ (by simp),aU]⟩
  ·rename_i aU
   exact⟨_,_,_,h,fun H' hA K'=>by unfold FH;simp only;rw[hA _ (by simp),aU]⟩
  ·cases h
 ·cases h
theorem T3{id:Nat}{e:Ty}{a b:a6}{H:Nat→Option aR}{K:fG α}(h:FI id e a b H K=some r): ∃v rd ups,K v rd ups=some r∧id∈rd∧ ∀H',Ag rd H H'→ ∀K':fG α,FI id e a b H' K'=K' v rd ups:=by
 unfold FI at h
 obtain⟨ys,rd,ups,h1,h2⟩:=ll h
 split at h1
 ·obtain⟨h3,h4⟩:=c4 h1
  refine⟨_,_,_,h3,by simp,fun H' hA K'=> ?_⟩
  unfold FI
  rw[h2 H' (fun i hi=>hA i (List.mem_cons_of_mem _ hi))]
  exact h4 _
 ·rename_i j
  split at h1
  ·rename_i e' l hj
   obtain⟨z,h3,h4⟩:=cL h1
   obtain⟨h5,h6⟩:=c4 h3
   refine⟨_,_,_,h5,by simp,fun H' hA K'=> ?_⟩
   unfold FI
   rw[h2 H' (fun i hi=>hA i (List.mem_cons_of_mem _ (List.mem_cons_of_mem _ hi)))]
   simp only
   rw[hA j (by simp),hj]
   simp only
   rw[h4]
   exact h6 _
  ·cases h1
 ·cases h1
theorem zM{e:Ty}{n:Nat}{H:Nat→Option aR}: ∀{ps:List (Nat×a6)} {l:List e.den} {Cx:List Nat} {zN:fF} {K:List e.den→List Nat→fF→Option α},rF e H n ps l Cx zN K=some r→
  ∃l' rd ups,K l' rd ups=some r∧(∀i∈Cx,i∈rd)∧ ∀H',Ag rd H H'→ ∀K':List e.den→List Nat→fF→Option α,rF e H' n ps l Cx zN K'=K' l' rd ups
 |[],l,Cx,zN,K,h=>⟨l,Cx,zN,h,fun _ h=>h,fun _ _ _=>rfl⟩
 |p::ps,l,Cx,zN,K,h=>by
  unfold rF at h
  obtain⟨h1,h2⟩:=c4 h
  obtain⟨y,rd1,J3,h3,h4⟩:=ll h1
  obtain⟨l',rd,ups,h5,h6,h7⟩:=zM h3
  refine⟨l',rd,ups,h5,fun i hi=>h6 i (List.mem_append_right _ hi),fun H' hA K'=> ?_⟩
  unfold rF
  rw[h2,h4 H' (fun i hi=>hA i (h6 i (List.mem_append_left _ hi)))]
  exact h7 H' hA K'
theorem Cy{τ:Ty}{H:Nat→Option aR}: ∀{ps:List (Nat×a6)} {x:τ.den} {Cx:List Nat} {zN:fF} {K:τ.den→List Nat→fF→Option α},qc τ H ps x Cx zN K=some r→
  ∃x' rd ups,K x' rd ups=some r∧(∀i∈Cx,i∈rd)∧ ∀H',Ag rd H H'→ ∀K':τ.den→List Nat→fF→Option α,qc τ H' ps x Cx zN K'=K' x' rd ups
 |[],x,Cx,zN,K,h=>⟨x,Cx,zN,h,fun _ h=>h,fun _ _ _=>rfl⟩
 |p::ps,x,Cx,zN,K,h=>by
  unfold qc at h
  obtain⟨υ,z,h1,h2⟩:=sM h
  obtain⟨y,rd1,J3,h3,h4⟩:=ll h1
  obtain⟨z',h5,h6⟩:=tV (m:=fun υ' _ k'=>ch υ υ' y k') (fun υ' y' k hk=>cL hk) h3
  obtain⟨x',rd,ups,h7,h8,h9⟩:=Cy h5
  refine⟨x',rd,ups,h7,fun i hi=>h8 i (List.mem_append_right _ hi),fun H' hA K'=> ?_⟩
  unfold qc
  rw[h2,h4 H' (fun i hi=>hA i (h8 i (List.mem_append_left _ hi))),h6]
  exact h9 H' hA K'
theorem P6{H:Nat→Option aR}{v:a6}{a:Ty}{k:a.den→List Nat→fF→Option α}(h:xg v H a k=some r):
  ∃x rd ups,k x rd ups=some r∧ ∀H',Ag rd H H'→ ∀k':a.den→List Nat→fF→Option α,xg v H' a k'=k' x rd ups:=by
 unfold xg at h
 split at h
 ·split at h
  ·obtain⟨z,h1,h2⟩:=cL h
   refine⟨_,_,_,h1,fun H' _ k'=> ?_⟩
   unfold xg
   simp only
   rw[h2]
  ·cases h
 ·rename_i k0 pI
  obtain⟨y,rd,ups,h1,h2⟩:=ll h
  refine⟨y,rd,ups,h1,fun H' hA k'=> ?_⟩
  unfold xg
  split
  ·exact(pI _ _ rfl HEq.rfl).elim
  ·exact h2 H' hA _
theorem Gb{H:Nat→Option aR}: ∀{τ:Ty} {vs:List a6} {k:τ.den→List Nat→fF→Option α},np H τ vs k=some r→
  ∃x rd ups,k x rd ups=some r∧ ∀H',Ag rd H H'→ ∀k':τ.den→List Nat→fF→Option α,np H' τ vs k'=k' x rd ups
 | .unit,[],k,h=>⟨(),[],[],h,fun _ _ _=>rfl⟩
 | .pair a b,v::vs,k,h=>by
  unfold np at h
  obtain⟨y,rd,ups,h1,h2⟩:=P6 h
  obtain⟨ys,wu,kA,h3,h4⟩:=Gb h1
  refine⟨(y,ys),_,_,h3,fun H' hA k'=> ?_⟩
  unfold np
  rw[h2 H' (fun i hi=>hA i (List.mem_append_right _ hi)),h4 H' (fun i hi=>hA i (List.mem_append_left _ hi))]
 | .unit,_::_,_,h=>by simp[np]at h
 | .pair _ _,[],_,h=>by simp[np]at h
 | .int _,_,_,h| .bool,_,_,h| .str,_,_,h| .slice _,_,_,h| .arr _ _,_,_,h=>by simp[np]at h
theorem zO: ∀{mG:List a6} {H:Nat→Option aR} {K:List a6→List Nat→fF→Option α},rG H mG K=some r→
  ∃cs rd ups,K cs rd ups=some r∧ ∀H',Ag rd H H'→ ∀K':List a6→List Nat→fF→Option α,rG H' mG K'=K' cs rd ups
 |[],H,K,h=>⟨[],[],[],h,fun _ _ _=>rfl⟩
 |a::mG,H,K,h=>by
  unfold rG at h
  split at h
  ·rename_i id
   split at h
   ·rename_i τ x aU
    obtain⟨cs,rd,ups,h1,h2⟩:=zO h
    refine⟨_,_,_,h1,fun H' hA K'=> ?_⟩
    unfold rG
    simp only
    rw[hA id (by simp),aU]
    simp only
    rw[h2 (bs H' id (some .gone)) (fun i hi=>by
     by_cases bu:i=id
     ·subst bu;rw[ak,ak]
     ·rw[an _ _ bu,an _ _ bu];exact hA i (List.mem_cons_of_mem _ hi))]
   ·cases h
  ·rename_i pI
   obtain⟨cs,rd,ups,h1,h2⟩:=zO h
   refine⟨_,_,_,h1,fun H' hA K'=> ?_⟩
   unfold rG
   split
   ·exact absurd rfl (pI _)
   ·rw[h2 H' hA]
end VM
end
section
namespace VM
open Go
variable{α:Type}{r:α}
theorem Gc{m:AM}{a:a6}{H:Nat→Option aR}{k:m.den→(Nat→Option aR)→List Nat→fF→fF→List (Nat×Ty)→Option α}(h:ly m a H k=some r):
  ∃y rd uo uf io,∃g:(Nat→Option aR)→(Nat→Option aR),k y (g H) rd uo uf io=some r∧(∀H' i,H' i=H i→g H' i=g H i)∧
   ∀H',Ag rd H H'→ ∀k':m.den→(Nat→Option aR)→List Nat→fF→fF→List (Nat×Ty)→Option α,ly m a H' k'=k' y (g H') rd uo uf io:=by
 have Nz: ∀(d:Nat) (v:Option aR) (H':Nat→Option aR) (i:Nat),H' i=H i→bs H' d v i=bs H d v i:=by
  intro d v H' i hi
  by_cases aU:i=d
  ·subst aU;rw[ak,ak]
  ·rw[an _ _ aU,an _ _ aU,hi]
 unfold ly at h
 split at h
 ·rename_i τ k
  obtain⟨y,rd,ups,h1,h2⟩:=ll h
  cases ups with
  |nil=>
   refine⟨y,rd,[],[],[],fun H=>H,h1,fun _ _ h=>h,fun H' hA k'=> ?_⟩
   unfold ly;simp only;rw[h2 H' hA]
  |cons u rest=>
   refine⟨y,rd,[],u::rest,[],fun H=>bs H u.1 u.2,h1,fun H' i hi=>Nz _ _ H' i hi,fun H' hA k'=> ?_⟩
   unfold ly;simp only;rw[h2 H' hA]
 ·rename_i e k
  split at h
  ·exact⟨[],[],[],[],[],fun H=>H,h,fun _ _ h=>h,fun _ _ _=>rfl⟩
  ·rename_i id
   split at h
   ·rename_i e' l aU
    obtain⟨z,h1,h2⟩:=cL h
    refine⟨z,[id],_,_,_,fun H=>bs H id (some .gone),h1,fun H' i hi=>Nz _ _ H' i hi,fun H' hA k'=> ?_⟩
    unfold ly;simp only;rw[hA id (by simp),aU];simp only;rw[h2]
   ·cases h
  ·cases h
 ·rename_i τ k
  split at h
  ·rename_i id
   split at h
   ·rename_i υ x aU
    obtain⟨z,h1,h2⟩:=cL h
    refine⟨z,[id],_,_,_,fun H=>bs H id (some .gone),h1,fun H' i hi=>Nz _ _ H' i hi,fun H' hA k'=> ?_⟩
    unfold ly;simp only;rw[hA id (by simp),aU];simp only;rw[h2]
   ·cases h
  ·cases h
 ·rename_i f τ k
  split at h
  ·rename_i f' cs
   obtain⟨h1,h2⟩:=c4 h
   obtain⟨x,rd,ups,h3,h4⟩:=Gb h1
   cases ups with
   |nil=>
    refine⟨x,rd,[],[],[],fun H=>H,h3,fun _ _ h=>h,fun H' hA k'=> ?_⟩
    unfold ly;simp only;rw[h2,h4 H' hA]
   |cons _ _=>cases h3
  ·cases h
 ·cases h
 ·rename_i τ k
  split at h
  ·obtain⟨z,h1,h2⟩:=cL h
   refine⟨z,[],[],[],[],fun H=>H,h1,fun _ _ h=>h,fun H' hA k'=> ?_⟩
   unfold ly;simp only;rw[h2]
  ·cases h
theorem Gd: ∀{ms:List AM} {mG:List a6} {H:Nat→Option aR} {Cx:List Nat} {uo0 uf0:fF} {io0:List (Nat×Ty)} {K:HP ms→List Nat→fF→fF→List (Nat×Ty)→Option α},pB ms mG H Cx uo0 uf0 io0 K=some r→
  ∃x rd uo uf io,K x rd uo uf io=some r∧(∀i∈Cx,i∈rd)∧ ∀H',Ag rd H H'→ ∀K':HP ms→List Nat→fF→fF→List (Nat×Ty)→Option α,pB ms mG H' Cx uo0 uf0 io0 K'=K' x rd uo uf io
 |[],[],H,Cx,uo0,uf0,io0,K,h=>⟨(),_,_,_,_,h,fun _ h=>h,fun _ _ _=>rfl⟩
 |[m],[a],H,Cx,uo0,uf0,io0,K,h=>by
  obtain⟨y,rd,uo,uf,io,g,h1,h2,h3⟩:=Gc (h:ly m a H _=some r)
  exact⟨y,_,_,_,_,h1,fun i hi=>List.mem_append_right _ hi,fun H' hA K'=>h3 H' (fun i hi=>hA i (List.mem_append_left _ hi)) _⟩
 |m::n::ms,a::mG,H,Cx,uo0,uf0,io0,K,h=>by
  obtain⟨y,rd,uo,uf,io,g,h1,h2,h3⟩:=Gc (h:ly m a H _=some r)
  obtain⟨ys,wu,Fk,Fl,Bz,h4,h5,h6⟩:=Gd (ms:=n::ms) h1
  refine⟨(y,ys),wu,Fk,Fl,Bz,h4,fun i hi=>h5 i (List.mem_append_right _ hi),fun H' hA K'=> ?_⟩
  refine(h3 H' (fun i hi=>hA i (h5 i (List.mem_append_left _ hi))) _).trans ?_
  exact h6 (g H') (fun i hi=>h2 H' i (hA i hi)) _
 |[],_::_,_,_,_,_,_,_,h=>by simp[pB]at h
 |[_],[],_,_,_,_,_,_,h=>by simp[pB]at h
 |[_],_::_::_,_,_,_,_,_,_,h=>by simp[pB]at h
 |_::_::_,[],_,_,_,_,_,_,h=>by simp[pB]at h
theorem P7{id i:Nat}: ∀{n:Nat},i∈FK id n↔id≤i∧i<id+n
 |0=>by simp[FK]
 |n+1=>by simp only[FK,List.mem_cons,P7];omega
theorem tF{H H':Nat→Option aR}{id:Nat}: ∀{n:Nat},(∀i∈FK id n,H' i=H i)→qd H' id n=qd H id n
 |0,_=>rfl
 |n+1,h=>by
  unfold qd
  rw[h (id+n) (by simp[FK]),tF fun i hi=>h i (by simp[FK,hi])]
theorem P8{E:Env}{f id:Nat}{mG:List a6}{H:Nat→Option aR}{K:fG α}(h:xi E f mG id H K=some r): ∃v rd ups,K v rd ups=some r∧ ∀H',Ag rd H H'→ ∀K':fG α,xi E f mG id H' K'=K' v rd ups:=by
 unfold xi at h
 split at h
 ·cases h
 ·rename_i S hS
  obtain⟨x,rd,uo,uf,io,h1,_,h2⟩:=Gd h
  obtain⟨y,hy,h3⟩:=Option.bind_eq_some_iff.1 h1
  obtain⟨h4,h5⟩:=bK h3
  refine⟨_,_,_,h5,fun H' hA K'=> ?_⟩
  unfold xi
  rw[hS]
  simp only
  rw[h2 H' (fun i hi=>hA i (List.mem_append_right _ (List.mem_append_right _ hi))),hy]
  simp only[Option.bind_some]
  rw[tF (fun i hi=>hA i (List.mem_append_left _ hi)),h4]
  rfl
theorem NA{t:Ty}{z:Bool}{a:a6}{lo hi mx:Option a6}{H:Nat→Option aR}{K:fG α}(h:nq t z a lo hi mx H K=some r): ∃v rd ups,K v rd ups=some r∧ ∀H',Ag rd H H'→ ∀K':fG α,nq t z a lo hi mx H' K'=K' v rd ups:=by
 unfold nq at h
 split at h
 ·obtain⟨h1,e1⟩:=c4 h
  obtain⟨l,h2,e2⟩:=qo h1
  obtain⟨m,h3,e3⟩:=qo h2
  obtain⟨h4,e4⟩:=c4 h3
  exact⟨_,_,_,h4,fun H' _ K'=>by unfold nq;simp only;rw[e1,e2,e3,e4]⟩
 ·cases z
  ·obtain⟨h1,e1⟩:=c4 (h:cond mx.isNone _ none=some r)
   obtain⟨l,h2,e2⟩:=qo h1
   obtain⟨m,h3,e3⟩:=qo h2
   obtain⟨h4,e4⟩:=c4 h3
   exact⟨_,_,_,h4,fun H' _ K'=>by unfold nq;simp only[cond_false];rw[e1,e2,e3,e4]⟩
  ·exact⟨_,_,_,h,fun H' _ K'=>by unfold nq;rfl⟩
 ·rename_i e gi
  obtain⟨y,rd,ups,h1,e1⟩:=ll h
  cases z
  ·obtain⟨h2,e2⟩:=c4 (h1:cond (mx.isNone||hi.isSome) _ none=some r)
   obtain⟨l,h3,e3⟩:=qo h2
   obtain⟨m,h4,e4⟩:=qo h3
   obtain⟨n,h5,e5⟩:=qo h4
   obtain⟨h6,e6⟩:=c4 h5
   refine⟨_,_,_,h6,fun H' hA K'=> ?_⟩
   unfold nq
   simp only
   rw[e1 H' hA]
   simp only[cond_false]
   rw[e2,e3,e4,e5,e6]
  ·refine⟨_,_,_,(h1:K .emp rd []=some r),fun H' hA K'=> ?_⟩
   unfold nq
   simp only
   rw[e1 H' hA]
   rfl
 ·cases h
theorem BZ{τ:Ty}{a i:a6}{H:Nat→Option aR}{K:fG α}(h:eo τ a i H K=some r): ∃v rd ups,K v rd ups=some r∧ ∀H',Ag rd H H'→ ∀K':fG α,eo τ a i H' K'=K' v rd ups:=by
 unfold eo at h
 obtain⟨k,n,h,e0⟩:=oO h
 split at h
 ·split at h
  ·obtain⟨z,h1,e1⟩:=cL h
   obtain⟨h2,e2⟩:=c4 h1
   exact⟨_,_,_,h2,fun H' _ K'=>by unfold eo;rw[e0];simp only;rw[e1,e2]⟩
  ·split at h
   ·rename_i aU
    obtain⟨h1,e1⟩:=gI h
    obtain⟨h2,e2⟩:=c4 h1
    exact⟨_,_,_,h2,fun H' hA K'=>by unfold eo;rw[e0];simp only;rw[hA _ (by simp),aU];simp only;rw[e1,e2]⟩
   ·rename_i aU
    obtain⟨h1,e1⟩:=gI h
    obtain⟨h2,e2⟩:=c4 h1
    exact⟨_,_,_,h2,fun H' hA K'=>by unfold eo;rw[e0];simp only;rw[hA _ (by simp),aU];simp only;rw[e1,e2]⟩
   ·cases h
  ·cases h
 ·split at h
  ·obtain⟨υ,h1,e1⟩:=wE h
   obtain⟨h2,e2⟩:=gI h1
   obtain⟨h3,e3⟩:=c4 h2
   exact⟨_,_,_,h3,fun H' hA K'=>by unfold eo;rw[e0];simp only;rw[e1 H' (hA _ (by simp)),e2,e3]⟩
  ·obtain⟨z,h1,e1⟩:=cL h
   obtain⟨h2,e2⟩:=c4 h1
   exact⟨_,_,_,h2,fun H' _ K'=>by unfold eo;rw[e0];simp only;rw[e1,e2]⟩
  ·cases h
 ·cases h
theorem NB{τ:Ty}{a i:a6}{K:a6→Option α}(h:rH τ a i K=some r): ∃v,K v=some r∧ ∀K':a6→Option α,rH τ a i K'=K' v:=by
 unfold rH at h
 obtain⟨k,n,h,e0⟩:=oO h
 split at h
 ·obtain⟨z,h1,e1⟩:=cL h
  obtain⟨h2,e2⟩:=c4 h1
  exact⟨_,h2,fun K'=>by unfold rH;rw[e0];simp only;rw[e1,e2]⟩
 ·obtain⟨h2,e2⟩:=c4 h
  exact⟨_,h2,fun K'=>by unfold rH;rw[e0];simp only;rw[e2]⟩
 ·cases h
theorem P9{a:a6}{H:Nat→Option aR}{K:(υ:Ty)→υ.den→List Nat→Option α}(h:im a H K=some r): ∃υ y rd,K υ y rd=some r∧ ∀H',Ag rd H H'→ ∀K':(υ:Ty)→υ.den→List Nat→Option α,im a H' K'=K' υ y rd:=by
 unfold im at h
 split at h
 ·exact⟨_,_,_,h,fun _ _ _=>rfl⟩
 ·split at h
  ·rename_i aU
   obtain⟨υ,y,h1,e1⟩:=eK h
   exact⟨_,_,_,h1,fun H' hA K'=>by unfold im;simp only;rw[hA _ (by simp),aU];simp only;rw[e1]⟩
  ·rename_i aU
   split at h
   ·obtain⟨υ,y,h1,e1⟩:=eK h
    exact⟨_,_,_,h1,fun H' hA K'=>by unfold im;simp only;rw[hA _ (by simp),aU];simp only;rw[e1]⟩
   ·cases h
  ·rename_i aU
   split at h
   ·obtain⟨υ,y,h1,e1⟩:=eK h
    exact⟨_,_,_,h1,fun H' hA K'=>by unfold im;simp only;rw[hA _ (by simp),aU];simp only;rw[e1]⟩
   ·cases h
  ·cases h
 ·cases h
theorem NC{τ:Ty}{a v:a6}{H:Nat→Option aR}{K:fG α}(h:iX τ a v H K=some r): ∃u rd ups,K u rd ups=some r∧ ∀H',Ag rd H H'→ ∀K':fG α,iX τ a v H' K'=K' u rd ups:=by
 unfold iX at h
 split at h
 ·obtain⟨y,rd,ups,h1,e1⟩:=ll h
  split at h1
  ·rename_i aU
   obtain⟨z,h2,e2⟩:=lj h1
   exact⟨_,_,_,h2,fun H' hA K'=>by
    unfold iX;simp only
    rw[e1 H' (fun i hi=>hA i (List.mem_cons_of_mem _ hi))]
    rw[hA _ (by simp),aU];simp only;rw[e2]⟩
  ·rename_i aU
   split at h1
   ·obtain⟨h2,e2⟩:=pO h1
    obtain⟨z,h3,e3⟩:=lj h2
    exact⟨_,_,_,h3,fun H' hA K'=>by
     unfold iX;simp only
     rw[e1 H' (fun i hi=>hA i (List.mem_cons_of_mem _ hi))]
     rw[hA _ (by simp),aU];simp only;rw[e2,e3]⟩
   ·cases h1
  ·cases h1
 ·cases h
theorem T4{j:Nat}{q:List Step}{τ:Ty}{x:τ.den}{H:Nat→Option aR}{k:τ.den→fF→Option α}(h:yj j q τ x H k=some r): ∃z ups,k z ups=some r∧ ∀H',H' j=H j→ ∀k':τ.den→fF→Option α,yj j q τ x H' k'=k' z ups:=by
 unfold yj at h
 split at h
 ·rename_i hj
  obtain⟨z,h1,e1⟩:=lj h
  exact⟨_,_,h1,fun H' hA k'=>by unfold yj;rw[hA,hj];simp only;rw[e1]⟩
 ·rename_i hj
  obtain⟨z,h1,e1⟩:=lj h
  exact⟨_,_,h1,fun H' hA k'=>by unfold yj;rw[hA,hj];simp only;rw[e1]⟩
 ·cases h
abbrev Pts(F:(Nat→Option aR)→fG α→Option α)(H:Nat→Option aR)(K:fG α)(r:α):Prop:=
 ∃v rd ups,K v rd ups=some r∧ ∀H',Ag rd H H'→ ∀K':fG α,F H' K'=K' v rd ups
theorem Qa{τ:Ty}{a:a6}{H:Nat→Option aR}{K:fG α}(h:(im a H fun υ y rd=>ch υ τ y fun z=>K (.val τ z) rd [])=some r):
  Pts (fun H K=>im a H fun υ y rd=>ch υ τ y fun z=>K (.val τ z) rd []) H K r:=by
 obtain⟨υ,y,rd,h1,e1⟩:=P9 h
 obtain⟨z,h2,e2⟩:=cL h1
 exact⟨_,_,_,h2,fun H' hA K'=>by simp only;rw[e1 H' hA,e2]⟩
theorem aha{id:Nat}{p:List Step}{H:Nat→Option aR}{K:(υ:Ty)→υ.den→List Nat→Option α}(h:im (.fP id p) H K=some r): ∃υ y,K υ y [id]=some r:=by
 unfold im at h
 simp only at h
 split at h
 ·obtain⟨υ,y,h1,_⟩:=eK h;exact⟨υ,y,h1⟩
 ·split at h
  ·obtain⟨υ,y,h1,_⟩:=eK h;exact⟨υ,y,h1⟩
  ·cases h
 ·split at h
  ·obtain⟨υ,y,h1,_⟩:=eK h;exact⟨υ,y,h1⟩
  ·cases h
 ·cases h
theorem Qb{τ:Ty}{id:Nat}{p:List Step}{H:Nat→Option aR}{K:fG α}(h:(im (.fP id p) H fun υ y rd=>ch υ τ y fun z=>K (.val τ z) rd [])=some r):
  ∃z,K (.val τ z) [id] []=some r∧ ∀H',H' id=H id→ ∀K':fG α,(im (.fP id p) H' fun υ y rd=>ch υ τ y fun z=>K' (.val τ z) rd [])=K' (.val τ z) [id] []:=by
 unfold im at h
 simp only at h
 split at h
 ·rename_i aU
  obtain⟨υ,y,h1,e1⟩:=eK h
  obtain⟨z,h2,e2⟩:=cL h1
  exact⟨_,h2,fun H' hA K'=>by unfold im;simp only;rw[hA,aU];simp only;rw[e1,e2]⟩
 ·rename_i aU
  split at h
  ·obtain⟨υ,y,h1,e1⟩:=eK h
   obtain⟨z,h2,e2⟩:=cL h1
   exact⟨_,h2,fun H' hA K'=>by unfold im;simp only;rw[hA,aU];simp only;rw[e1,e2]⟩
  ·cases h
 ·rename_i aU
  split at h
  ·obtain⟨υ,y,h1,e1⟩:=eK h
   obtain⟨z,h2,e2⟩:=cL h1
   exact⟨_,h2,fun H' hA K'=>by unfold im;simp only;rw[hA,aU];simp only;rw[e1,e2]⟩
  ·cases h
 ·cases h
theorem Qc{τ:Ty}{a:a6}{H:Nat→Option aR}{K:fG α}(h:q6 τ a H K=some r):Pts (q6 τ a) H K r:=by
 unfold q6 at h
 simp only at h
 split at h
 ·rename_i id p
  split at h
  ·rename_i υ x q j aU
   cases hp:FD p q
   ·cases BA:tb p q
    ·rw[hp,BA]at h
     simp only[cond_false]at h
     obtain⟨υ',y,h1,e1⟩:=eK h
     obtain⟨z,h2,e2⟩:=cL h1
     exact⟨_,_,_,h2,fun H' hA K'=>by
      unfold q6;simp only;rw[hA id (by simp),aU];simp only
      rw[hp,BA];simp only[cond_false];rw[e1,e2]⟩
    ·rw[hp,BA]at h
     simp only[cond_false,cond_true]at h
     obtain⟨z,ups,h1,e1⟩:=T4 h
     obtain⟨υ',y,h2,e2⟩:=eK h1
     obtain⟨z',h3,e3⟩:=cL h2
     exact⟨_,_,_,h3,fun H' hA K'=>by
      unfold q6;simp only;rw[hA id (by simp),aU];simp only
      rw[hp,BA];simp only[cond_false,cond_true];rw[e1 H' (hA j (by simp)),e2,e3]⟩
   ·rw[hp]at h
    simp only[cond_true]at h
    obtain⟨h1,e1⟩:=c4 h
    exact⟨_,_,_,h1,fun H' hA K'=>by
     unfold q6;simp only;rw[hA id (by simp),aU];simp only
     rw[hp];simp only[cond_true];rw[e1]⟩
  ·rename_i pI
   obtain⟨z,h1,e1⟩:=Qb h
   refine⟨_,_,_,h1,fun H' hA K'=> ?_⟩
   unfold q6;simp only;rw[hA id (by simp)]
   split
   ·rename_i aU;exact absurd aU (pI _ _ _ _)
   ·exact e1 H' (hA id (by simp)) K'
 ·rename_i pI
  obtain⟨v,rd,ups,h1,e1⟩:=Qa h
  refine⟨v,rd,ups,h1,fun H' hA K'=> ?_⟩
  have:q6 τ a H' K'=im a H' fun υ y rd=>ch υ τ y fun z=>K' (.val τ z) rd []:=by
   unfold q6
   cases a<;>first|rfl|exact absurd rfl (pI _ _)
  rw[this]
  exact e1 H' hA K'
theorem Ge{τ:Ty}{id k:Nat}{e:Ty}{q:List Step}{υ:Ty}{x:υ.den}{H:Nat→Option aR}{K:fG α}(h:xj τ id k e q υ x H K=some r):
  ∃v ups,K v [id,k] ups=some r∧ ∀H',H' k=H k→ ∀K':fG α,xj τ id k e q υ x H' K'=K' v [id,k] ups:=by
 unfold xj at h
 split at h
 ·rename_i aU
  obtain⟨h1,e1⟩:=gI h
  obtain⟨h2,e2⟩:=gI h1
  obtain⟨z,h3,e3⟩:=lj h2
  exact⟨_,_,h3,fun H' hA K'=>by unfold xj;rw[hA,aU];simp only;rw[e1,e2,e3]⟩
 ·cases h
theorem wF{τ:Ty}{id:Nat}{p:List Step}{v:a6}{H:Nat→Option aR}{K:fG α}(h:iX τ (.fP id p) v H K=some r):
  ∃u rd ups,id∈rd∧K u rd ups=some r∧ ∀H',Ag rd H H'→ ∀K':fG α,iX τ (.fP id p) v H' K'=K' u rd ups:=by
 unfold iX at h
 simp only at h
 obtain⟨y,rd,ups,h1,e1⟩:=ll h
 split at h1
 ·rename_i aU
  obtain⟨z,h2,e2⟩:=lj h1
  exact⟨_,_,_,by simp,h2,fun H' hA K'=>by
   unfold iX;simp only
   rw[e1 H' (fun i hi=>hA i (List.mem_cons_of_mem _ hi))]
   rw[hA _ (by simp),aU];simp only;rw[e2]⟩
 ·rename_i aU
  split at h1
  ·obtain⟨h2,e2⟩:=pO h1
   obtain⟨z,h3,e3⟩:=lj h2
   exact⟨_,_,_,by simp,h3,fun H' hA K'=>by
    unfold iX;simp only
    rw[e1 H' (fun i hi=>hA i (List.mem_cons_of_mem _ hi))]
    rw[hA _ (by simp),aU];simp only;rw[e2,e3]⟩
  ·cases h1
 ·cases h1
theorem wG{E:Env}{τ:Ty}{a v:a6}{H:Nat→Option aR}{K:fG α}(h:gE E τ a v H K=some r):
  ∃u rd ups,K u rd ups=some r∧ ∀H',Ag rd H H'→ ∀K':fG α,gE E τ a v H' K'=K' u rd ups:=by
 have h0:=h
 unfold gE at h
 simp only at h
 split at h
 ·rename_i id p
  split at h
  ·rename_i υ x aU
   split at h
   ·rename_i q e k pH
    cases hp:FD p q
    ·rw[hp]at h
     simp only[cond_false]at h
     obtain⟨u,rd,ups,hi,h1,e1⟩:=wF h
     refine⟨u,rd,ups,h1,fun H' hA K'=> ?_⟩
     unfold gE;simp only;rw[hA id hi,aU];simp only;rw[pH];simp only;rw[hp];simp only[cond_false]
     exact e1 H' hA K'
    ·rw[hp]at h
     simp only[cond_true]at h
     obtain⟨u,ups,h1,e1⟩:=Ge h
     refine⟨u,_,ups,h1,fun H' hA K'=> ?_⟩
     unfold gE;simp only;rw[hA id (by simp),aU];simp only;rw[pH];simp only;rw[hp];simp only[cond_true]
     exact e1 H' (hA k (by simp)) K'
   ·rename_i pI
    obtain⟨u,rd,ups,hi,h1,e1⟩:=wF h
    refine⟨u,rd,ups,h1,fun H' hA K'=> ?_⟩
    unfold gE;simp only;rw[hA id hi,aU];simp only
    exact e1 H' hA K'
  ·rename_i υ x q j aU
   have uX:(iV true v H τ fun y rd ups=>rm τ y p υ x fun z=>K .any (id::rd) (ups++[(id,some (cond (tb p q) (.obj υ z) (.dW υ z q j)))]))=some r→
     ∃u rd ups,id∈rd∧K u rd ups=some r∧ ∀H',Ag rd H H'→ ∀K':fG α,(iV true v H' τ fun y rd ups=>rm τ y p υ x fun z=>K' .any (id::rd) (ups++[(id,some (cond (tb p q) (.obj υ z) (.dW υ z q j)))]))=K' u rd ups:=by
    intro h
    obtain⟨y,rd,ups,h1,e1⟩:=ll h
    obtain⟨z,h2,e2⟩:=lj h1
    exact⟨_,_,_,by simp,h2,fun H' hA K'=>by rw[e1 H' (fun i hi=>hA i (List.mem_cons_of_mem _ hi)),e2]⟩
   split at h
   ·rename_i q' e k pH
    cases hp:(FD p q&&FD q q')
    ·rw[hp]at h
     simp only[cond_false]at h
     obtain⟨u,rd,ups,hi,h1,e1⟩:=uX h
     refine⟨u,rd,ups,h1,fun H' hA K'=> ?_⟩
     unfold gE;simp only;rw[hA id hi,aU];simp only;rw[pH];simp only;rw[hp];simp only[cond_false]
     exact e1 H' hA K'
    ·rw[hp]at h
     simp only[cond_true]at h
     obtain⟨u,ups,h1,e1⟩:=Ge h
     refine⟨u,_,ups,h1,fun H' hA K'=> ?_⟩
     unfold gE;simp only;rw[hA id (by simp),aU];simp only;rw[pH];simp only;rw[hp];simp only[cond_true]
     exact e1 H' (hA k (by simp)) K'
   ·rename_i pI
    obtain⟨u,rd,ups,hi,h1,e1⟩:=uX h
    refine⟨u,rd,ups,h1,fun H' hA K'=> ?_⟩
    unfold gE;simp only;rw[hA id hi,aU];simp only
    exact e1 H' hA K'
  ·rename_i amD amE
   obtain⟨u,rd,ups,hi,h1,e1⟩:=wF h
   refine⟨u,rd,ups,h1,fun H' hA K'=> ?_⟩
   unfold gE;simp only;rw[hA id hi]
   split
   ·rename_i aU;exact absurd aU (amD _ _)
   ·rename_i aU;exact absurd aU (amE _ _ _ _)
   ·exact e1 H' hA K'
 ·rename_i pI
  obtain⟨u,rd,ups,h1,e1⟩:=NC h
  refine⟨u,rd,ups,h1,fun H' hA K'=> ?_⟩
  have:gE E τ a v H' K'=iX τ a v H' K':=by
   unfold gE
   cases a<;>first|rfl|exact absurd rfl (pI _ _)
  rw[this]
  exact e1 H' hA K'
theorem ND{E:Env}{τ:Ty}{a v:a6}{H:Nat→Option aR}{K:fG α}(h:pf E τ a v H K=some r):
  ∃u rd ups,K u rd ups=some r∧ ∀H',Ag rd H H'→ ∀K':fG α,pf E τ a v H' K'=K' u rd ups:=by
 unfold pf at h
 split at h
 ·rename_i id υ y n
  split at h
  ·rename_i m e pH
   cases zy:Nat.beq m n
   ·rw[zy]at h
    simp only[cond_false]at h
    obtain⟨u,rd,ups,h1,e1⟩:=wG h
    exact⟨u,rd,ups,h1,fun H' hA K'=>by unfold pf;simp only;rw[pH];simp only;rw[zy];simp only[cond_false];exact e1 H' hA K'⟩
   ·rw[zy]at h
    simp only[cond_true]at h
    obtain⟨h1,e1⟩:=gI h
    obtain⟨υ',h2,e2⟩:=wE h1
    obtain⟨h3,e3⟩:=gI h2
    obtain⟨h4,e4⟩:=sN h3
    exact⟨_,_,_,h4,fun H' hA K'=>by unfold pf;simp only;rw[pH];simp only;rw[zy];simp only[cond_true];rw[e1,e2 H' (hA _ (by simp)),e3,e4 H' (hA _ (by simp))]⟩
  ·rename_i pI
   obtain⟨u,rd,ups,h1,e1⟩:=wG h
   refine⟨u,rd,ups,h1,fun H' hA K'=> ?_⟩
   unfold pf;simp only
   exact e1 H' hA K'
 ·rename_i pI
  obtain⟨u,rd,ups,h1,e1⟩:=wG h
  refine⟨u,rd,ups,h1,fun H' hA K'=> ?_⟩
  unfold pf
  split
  ·exact absurd rfl (pI _ _ _ _ rfl)
  ·exact e1 H' hA K'
theorem L9{H:Nat→Option aR}{id:Nat}{τ:Ty}{x:τ.den}{q:List Step}{e:Ty}{K:fG α}(h:yk H id τ x q e K=some r):Pts (fun H K=>yk H id τ x q e K) H K r:=by
 obtain⟨h1,h2,h3⟩:=zx h
 exact⟨_,_,_,h3,fun H' hA K'=>by unfold yk nn;simp only;rw[hA id (by simp),h1,hA (id+1) (by simp),h2]⟩
theorem abO{E:Env}{o:Oper}{ρ:Operand→a6}{H:Nat→Option aR}{K:fG α}(h:pz E o ρ H K=some r):
  ∃v rd ups,K v rd ups=some r∧ ∀ρ' H',(∀x∈o.op.operands,ρ' x=ρ x)→Ag rd H H'→ ∀K':fG α,pz E o ρ' H' K'=K' v rd ups:=by
 obtain⟨dst,op,type,pos,after,guard⟩:=o
 unfold pz at h
 simp only at h
 have T5: ∀{ρ':Operand→a6} (xs:List Operand),(∀x∈xs,ρ' x=ρ x)→xs.map ρ'=xs.map ρ:=fun xs hx=>List.map_congr_left hx
 have Ka: ∀{ρ':Operand→a6} (ps:Array (Nat×Operand)),(∀x∈ps.map (·.2),ρ' x=ρ x)→partsOf ρ' ps=partsOf ρ ps:=fun ps hp=>by
  unfold partsOf
  exact List.map_congr_left fun p hm=>by rw[hp p.2 (Array.mem_map.2 ⟨p,by simpa using hm,rfl⟩)]
 have abP: ∀{ρ':Operand→a6} (x:Option Operand),(∀y∈x,ρ' y=ρ y)→x.map ρ'=x.map ρ:=fun x hx=>by
  cases x with
  |none=>rfl
  |some x=>simp[hx x rfl]
 split at h
 ·
  rename_i x
  exact⟨_,_,_,h,fun ρ' H' hx _ K'=>by unfold pz;simp only;rw[hx x (by simp[Op.operands])]⟩
 ·rename_i x
  exact⟨_,_,_,h,fun ρ' H' hx _ K'=>by unfold pz;simp only;rw[hx x (by simp[Op.operands])]⟩
 ·rename_i x y z
  split at h
  ·rename_i t hx
   cases t
   ·exact⟨_,_,_,(h:K (ρ z) [] []=some r),fun ρ' H' pL _ K'=>by unfold pz;simp only;rw[pL x (by simp[Op.operands]),hx,pL z (by simp[Op.operands])];rfl⟩
   ·exact⟨_,_,_,(h:K (ρ y) [] []=some r),fun ρ' H' pL _ K'=>by unfold pz;simp only;rw[pL x (by simp[Op.operands]),hx,pL y (by simp[Op.operands])];rfl⟩
  ·cases h
 ·
  split at h
  ·rename_i τ ht
   split at h
   ·rename_i q e pH
    obtain⟨v,rd,ups,h1,e1⟩:=L9 h
    exact⟨_,_,_,h1,fun ρ' H' hx hA K'=>by unfold pz;simp only;rw[ht];simp only;rw[pH];exact e1 H' hA K'⟩
   ·rename_i pH
    obtain⟨h1,e1⟩:=sN h
    exact⟨_,_,_,h1,fun ρ' H' hx hA K'=>by unfold pz;simp only;rw[ht];simp only;rw[pH];simp only;rw[e1 H' (hA _ (by simp))]⟩
  ·cases h
 ·
  rename_i t x
  split at h
  ·rename_i τ ht
   have hold:(iV true (ρ x) H τ fun y rd ups=>nn H (16*dst.getD 0) (.obj τ y) (K (.fP (16*dst.getD 0) []) (16*dst.getD 0::rd) (ups++[(16*dst.getD 0,some (.obj τ y))])))=some r→
     Pts (fun H K=>iV true (ρ x) H τ fun y rd ups=>nn H (16*dst.getD 0) (.obj τ y) (K (.fP (16*dst.getD 0) []) (16*dst.getD 0::rd) (ups++[(16*dst.getD 0,some (.obj τ y))]))) H K r:=by
    intro h
    obtain⟨y,rd,ups,h1,e1⟩:=ll h
    obtain⟨h2,e2⟩:=sN h1
    exact⟨_,_,_,h2,fun H' hA K'=>by simp only;rw[e1 H' (fun i hi=>hA i (List.mem_cons_of_mem _ hi)),e2 H' (hA _ (by simp))]⟩
   split at h
   ·rename_i m e υ y n pH Qd
    cases zy:Nat.beq m n
    ·rw[zy]at h
     obtain⟨v,rd,ups,h1,e1⟩:=hold h
     refine⟨_,_,_,h1,fun ρ' H' hx hA K'=> ?_⟩
     unfold pz;simp only;rw[ht];simp only
     rw[hx x (by simp[Op.operands]),pH,Qd];simp only
     rw[zy]
     have:=e1 H' hA K'
     rw[Qd]at this
     exact this
    ·rw[zy]at h
     simp only[cond_true]at h
     obtain⟨z,h1,e1⟩:=cL h
     obtain⟨v,rd,ups,h2,e2⟩:=L9 h1
     refine⟨_,_,_,h2,fun ρ' H' hx hA K'=> ?_⟩
     unfold pz;simp only;rw[ht];simp only
     rw[hx x (by simp[Op.operands]),pH,Qd];simp only
     rw[zy];simp only[cond_true]
     rw[e1]
     exact e2 H' hA K'
   ·rename_i pI
    obtain⟨v,rd,ups,h1,e1⟩:=hold h
    refine⟨_,_,_,h1,fun ρ' H' hx hA K'=> ?_⟩
    unfold pz;simp only;rw[ht];simp only
    rw[hx x (by simp[Op.operands])]
    split
    ·rename_i pH Qd;exact absurd Qd (pI _ _ _ _ _ pH)
    ·exact e1 H' hA K'
  ·cases h
 ·
  rename_i t ps
  split at h
  ·rename_i n e ht
   obtain⟨l,rd,ups,h1,_,e1⟩:=zM h
   exact⟨_,_,_,h1,fun ρ' H' hx hA K'=>by unfold pz;simp only;rw[ht];simp only;rw[Ka ps (fun x pL=>hx x (by simpa [Op.operands]using pL)),e1 H' hA]⟩
  ·rename_i τ hna ht
   obtain⟨h0,e0⟩:=c4 h
   obtain⟨l,rd,ups,h1,_,e1⟩:=Cy h0
   refine⟨_,_,_,h1,fun ρ' H' hx hA K'=> ?_⟩
   unfold pz;simp only;rw[ht]
   have: ∀{β:Type} (A:Nat→Ty→β) (B:Ty→β),(match some τ with|some (.arr n e)=>A n e|some τ=>B τ|none=>B τ)=B τ:=by
    intro β A B
    cases τ<;>first|rfl|exact absurd rfl (hna _ _)
   cases τ with
   |arr n e=>exact absurd rfl (hna n e)
   |_=>
    simp only
    rw[Ka ps (fun x pL=>hx x (by simpa [Op.operands]using pL)),e0,e1 H' hA]
  ·cases h
 ·
  rename_i t n ps
  split at h
  ·rename_i e ht
   obtain⟨h0,e0⟩:=c4 h
   obtain⟨h1,e1⟩:=sN h0
   obtain⟨l,rd,ups,h2,_,e2⟩:=zM h1
   exact⟨_,_,_,h2,fun ρ' H' hx hA K'=>by
    unfold pz;simp only;rw[ht];simp only
    rw[e0,e1 H' (hA _ (by simp)),Ka ps (fun x pL=>hx x (by simpa [Op.operands]using pL)),e2 H' (fun i hi=>hA i (List.mem_cons_of_mem _ hi))]⟩
  ·cases h
 ·
  rename_i t x
  split at h
  ·rename_i τ ht
   obtain⟨v,rd,ups,h1,e1⟩:=Qc h
   exact⟨_,_,_,h1,fun ρ' H' hx hA K'=>by unfold pz;simp only;rw[ht];simp only;rw[hx x (by simp[Op.operands]),e1 H' hA]⟩
  ·cases h
 ·
  rename_i t x y
  split at h
  ·rename_i τ ht
   obtain⟨u,rd,ups,h1,e1⟩:=ND h
   exact⟨_,_,_,h1,fun ρ' H' hx hA K'=>by unfold pz;simp only;rw[ht];simp only;rw[hx x (by simp[Op.operands]),hx y (by simp[Op.operands]),e1 H' hA]⟩
  ·cases h
 ·
  rename_i x
  split at h
  ·rename_i id p hx
   exact⟨_,_,_,h,fun ρ' H' pL _ K'=>by unfold pz;simp only;rw[pL x (by simp[Op.operands]),hx]⟩
  ·rename_i τ z hx
   exact⟨_,_,_,h,fun ρ' H' pL _ K'=>by unfold pz;simp only;rw[pL x (by simp[Op.operands]),hx]⟩
  ·cases h
 ·
  rename_i b t x y t'
  obtain⟨τ,x1,h1,e1⟩:=L8 h
  obtain⟨υ,y1,h2,e2⟩:=L8 h1
  obtain⟨v,h3,e3⟩:=P5 h2
  exact⟨_,_,_,h3,fun ρ' H' hx _ K'=>by unfold pz;simp only;rw[hx x (by simp[Op.operands]),hx y (by simp[Op.operands]),e1,e2,e3]⟩
 ·
  rename_i u t x
  obtain⟨v,h1,e1⟩:=T1 h
  exact⟨_,_,_,h1,fun ρ' H' hx _ K'=>by unfold pz;simp only;rw[hx x (by simp[Op.operands]),e1]⟩
 ·
  rename_i s d x
  split at h
  ·rename_i τ k hs hd
   obtain⟨i,n,h1,e1⟩:=oO h
   exact⟨_,_,_,h1,fun ρ' H' hx _ K'=>by unfold pz;simp only;rw[hs,hd];simp only;rw[hx x (by simp[Op.operands]),e1]⟩
  ·cases h
 ·
  rename_i f first caps
  obtain⟨h1,e1⟩:=c4 h
  obtain⟨cs,rd,ups,h3,e3⟩:=zO h1
  exact⟨_,_,_,h3,fun ρ' H' hx hA K'=>by unfold pz;simp only;rw[T5 caps.toList (fun x pL=>hx x (by simp[Op.operands];exact .inr (by simpa using pL))),e1,e3 H' hA]⟩
 ·
  rename_i t x y
  split at h
  ·rename_i e ht
   obtain⟨i,n,h1,e1⟩:=oO h
   obtain⟨i',n',h2,e2⟩:=oO h1
   obtain⟨h3,e3⟩:=c4 h2
   obtain⟨h4,e4⟩:=sN h3
   exact⟨_,_,_,h4,fun ρ' H' hx hA K'=>by
    unfold pz;simp only;rw[ht];simp only
    rw[hx x (by simp[Op.operands]),e1,hx y (by simp[Op.operands]),e2,e3,e4 H' (hA _ (by simp))]⟩
  ·cases h
 ·
  rename_i t x lo hi mx
  split at h
  ·rename_i τ ht
   obtain⟨v,rd,ups,h1,e1⟩:=NA h
   exact⟨_,_,_,h1,fun ρ' H' hx hA K'=>by
    unfold pz;simp only;rw[ht];simp only
    rw[hx x (by simp[Op.operands]),abP lo (fun y hy=>hx y (by simp at hy;simp[Op.operands,hy])),abP hi (fun y hy=>hx y (by simp at hy;simp[Op.operands,hy])),abP mx (fun y hy=>hx y (by simp at hy;simp[Op.operands,hy])),e1 H' hA]⟩
  ·cases h
 ·
  rename_i t x n
  split at h
  ·rename_i τ ht
   split at h
   ·rename_i id p hx
    obtain⟨υ,h1,e1⟩:=wE h
    obtain⟨h2,e2⟩:=gI h1
    obtain⟨υ',y',h3,e3⟩:=sM h2
    obtain⟨h4,e4⟩:=pO h3
    exact⟨_,_,_,h4,fun ρ' H' pL hA K'=>by
     unfold pz;simp only;rw[ht];simp only
     rw[pL x (by simp[Op.operands]),hx];simp only
     rw[e1 H' (hA _ (by simp)),e2,e3,e4]⟩
   ·rename_i υ z hx
    obtain⟨h2,e2⟩:=gI h
    obtain⟨υ',y',h3,e3⟩:=sM h2
    obtain⟨h4,e4⟩:=pO h3
    exact⟨_,_,_,h4,fun ρ' H' pL hA K'=>by
     unfold pz;simp only;rw[ht];simp only
     rw[pL x (by simp[Op.operands]),hx];simp only
     rw[e2,e3,e4]⟩
   ·cases h
  ·cases h
 ·
  rename_i t x n
  split at h
  ·rename_i τ ht
   split at h
   ·rename_i υ z hx
    obtain⟨h2,e2⟩:=gI h
    obtain⟨υ',y',h3,e3⟩:=sM h2
    exact⟨_,_,_,h3,fun ρ' H' pL hA K'=>by
     unfold pz;simp only;rw[ht];simp only
     rw[pL x (by simp[Op.operands]),hx];simp only
     rw[e2,e3]⟩
   ·cases h
  ·cases h
 ·
  rename_i t x i
  split at h
  ·rename_i τ ht
   obtain⟨v,rd,ups,h1,e1⟩:=BZ h
   exact⟨_,_,_,h1,fun ρ' H' hx hA K'=>by unfold pz;simp only;rw[ht];simp only;rw[hx x (by simp[Op.operands]),hx i (by simp[Op.operands]),e1 H' hA]⟩
  ·cases h
 ·
  rename_i t x i
  split at h
  ·rename_i τ ht
   obtain⟨v,h1,e1⟩:=NB h
   exact⟨_,_,_,h1,fun ρ' H' hx hA K'=>by unfold pz;simp only;rw[ht];simp only;rw[hx x (by simp[Op.operands]),hx i (by simp[Op.operands]),e1]⟩
  ·cases h
 ·
  rename_i x i
  split at h
  ·rename_i vs hx
   split at h
   ·rename_i v hv
    exact⟨_,_,_,h,fun ρ' H' pL hA K'=>by unfold pz;simp only;rw[pL x (by simp[Op.operands]),hx];simp only;rw[hv]⟩
   ·cases h
  ·cases h
 ·
  rename_i cl
  obtain⟨callee,args,ts⟩:=cl
  simp only at h
  have tj: ∀{ρ':Operand→a6},(∀x∈(Op.call {callee,args,argTypes:=ts}).operands,ρ' x=ρ x)→ ∀x∈args.toList,ρ' x=ρ x:=
   fun hx x pL=>hx x (by simp[Op.operands,Call.operands];exact .inr (by simpa using pL))
  split at h
  ·split at h
   ·rename_i x τ ha ht
    obtain⟨v,rd,ups,h1,e1⟩:=T2 h
    exact⟨_,_,_,h1,fun ρ' H' hx hA K'=>by unfold pz;simp only;rw[ha,ht];simp only;rw[tj hx x (by rw[ha];simp),e1 H' hA]⟩
   ·cases h
  ·split at h
   ·rename_i x y t t' ha ht
    split at h
    ·rename_i e hte
     obtain⟨h1,e1⟩:=c4 h
     obtain⟨h2,e2⟩:=sN h1
     obtain⟨v,rd,ups,h3,aU,e3⟩:=T3 h2
     exact⟨_,_,_,h3,fun ρ' H' hx hA K'=>by
      unfold pz;simp only;rw[ha,ht];simp only;rw[hte];simp only
      rw[e1,e2 H' (hA _ aU),tj hx x (by rw[ha];simp),tj hx y (by rw[ha];simp),e3 H' hA]⟩
    ·cases h
   ·cases h
  ·split at h
   ·rename_i x xs ha
    obtain⟨v,h1,e1⟩:=J9 h
    exact⟨_,_,_,h1,fun ρ' H' hx hA K'=>by
     unfold pz;simp only;rw[ha];simp only
     rw[tj hx x (by rw[ha];simp),T5 xs (fun y hy=>tj hx y (by rw[ha];simp[hy])),e1]⟩
   ·cases h
  ·split at h
   ·rename_i x xs ha
    obtain⟨v,h1,e1⟩:=J9 h
    exact⟨_,_,_,h1,fun ρ' H' hx hA K'=>by
     unfold pz;simp only;rw[ha];simp only
     rw[tj hx x (by rw[ha];simp),T5 xs (fun y hy=>tj hx y (by rw[ha];simp[hy])),e1]⟩
   ·cases h
  ·rename_i g
   split at h
   ·rename_i f caps hg
    obtain⟨v,rd,ups,h1,e1⟩:=P8 h
    exact⟨_,_,_,h1,fun ρ' H' hx hA K'=>by
     unfold pz;simp only
     rw[hx g (by simp[Op.operands,Call.operands]),hg];simp only
     rw[T5 args.toList (tj hx),e1 H' hA]⟩
   ·cases h
  ·cases h
 ·cases h
end VM
end
section
namespace VM
open Go
variable{P:Program}{E:Env}{o:Oper}{a:Act}{w:World}{M:Nat→Prop}{ν:Nat→Value}{σ:St}{c:Ctx}{α:Type}{r:α}{next:Act→World→Prop}{Q:Exit→Act→World→Prop}
structure Out where
 dst:Option Nat
 v:a6
 rd:List Nat
 ups:fF
def Out.app(u:Out)(σ:St):St:=(σ.rC u.ups).rl u.dst u.v
theorem Gf(σ:St)(d:Nat)(v:a6):(σ.rl (some d) v).T d=v:=qk σ d v
theorem NF(σ:St){d:Option Nat}{t:Nat}(v:a6)(h:d≠some t):(σ.rl d v).T t=σ.T t:=by
 cases d with
 |none=>rfl
 |some d=>exact u9 σ v (fun e=>h (by rw[e]))
theorem abQ(σ:St)(d:Option Nat)(v:a6):(σ.rl d v).H=σ.H:=by cases d<;>rfl
theorem Kb{u:Out}{t:Nat}(h:u.dst=some t)(σ:St):(u.app σ).T t=u.v:=by unfold Out.app;rw[h];exact Gf _ _ _
theorem Qe{u:Out}{t:Nat}(h:u.dst≠some t)(σ:St):(u.app σ).T t=σ.T t:=by unfold Out.app;rw[NF _ _ h,JZ]
theorem ahb(u:Out)(σ:St):(u.app σ).H=b8 σ.H u.ups:=by unfold Out.app;rw[abQ,JY]
def Pt(E:Env)(ops:List Oper)(o:Oper)(σ:St)(u:Out)(α:Type):Prop:=
 u.dst=o.dst∧ ∀σ':St,(∀t∈names ops o,σ'.T t=σ.T t)→Ag u.rd σ.H σ'.H→ ∀K':St→List Nat→List Nat→Option α,pC E ops o σ' K'=K' (u.app σ') u.rd (u.ups.map (·.1))
theorem Qf{ops:List Oper}{K:St→List Nat→List Nat→Option α}(h:pC E ops o σ K=some r): ∃u:Out,K (u.app σ) u.rd (u.ups.map (·.1))=some r∧Pt E ops o σ u α:=by
 unfold pC at h
 obtain⟨h,e0⟩:=c4 h
 have amF: ∀σ':St,(∀t∈names ops o,σ'.T t=σ.T t)→ ∀x∈o.op.operands,σ'.ρ x=σ.ρ x:=by
  intro σ' hT x hx
  cases x with
  |tmp t=>
   refine hT t ?_
   unfold names
   refine List.mem_append_left _ (List.mem_filterMap.2 ⟨.tmp t,by simpa using hx,rfl⟩)
  |_=>rfl
 have cI:pz E o σ.ρ σ.H (fun v rd ups=>K ((σ.rC ups).rl o.dst v) rd (ups.map (·.1)))=some r→
   ∃u:Out,K (u.app σ) u.rd (u.ups.map (·.1))=some r∧u.dst=o.dst∧ ∀σ':St,(∀t∈names ops o,σ'.T t=σ.T t)→Ag u.rd σ.H σ'.H→ ∀K':St→List Nat→List Nat→Option α,
    pz E o σ'.ρ σ'.H (fun v rd ups=>K' ((σ'.rC ups).rl o.dst v) rd (ups.map (·.1)))=K' (u.app σ') u.rd (u.ups.map (·.1)):=by
  intro h
  obtain⟨v,rd,ups,h1,h2⟩:=abO h
  exact⟨⟨o.dst,v,rd,ups⟩,h1,rfl,fun σ' hT hA K'=>h2 σ'.ρ σ'.H (amF σ' hT) hA _⟩
 have oN: ∀{K:St→List Nat→List Nat→Option α},K (σ.rl o.dst .PD) [] []=some r→ ∃u:Out,K (u.app σ) u.rd (u.ups.map (·.1))=some r∧u.dst=o.dst∧ ∀σ':St,∀K':St→List Nat→List Nat→Option α,K' (σ'.rl o.dst .PD) [] []=K' (u.app σ') u.rd (u.ups.map (·.1)):=
  fun h=>⟨⟨o.dst,.PD,[],[]⟩,h,rfl,fun _ _=>rfl⟩
 simp only at h
 split at h
 ·rename_i hg
  obtain⟨u,h1,h2,h3⟩:=cI h
  refine⟨u,h1,h2,fun σ' hT hA K'=> ?_⟩
  unfold pC
  rw[e0]
  simp only
  rw[hg]
  exact h3 σ' hT hA K'
 ·rename_i j want hg
  split at h
  ·cases h
  ·rename_i t ht
   have NG:t∈names ops o:=by
    unfold names
    refine List.mem_append_right _ ?_
    rw[hg]
    simp[ht]
   split at h
   ·rename_i b hb
    have mA: ∀σ':St,σ'.T t=σ.T t→σ'.put t (.val .bool b)=σ':=fun σ' h'=>by
     rw[←hb,←h'];exact zI σ' t
    cases want<;>cases b
    ·obtain⟨u,h1,h2,h3⟩:=cI (by
      have:=mA σ rfl
      rw[this]at h;exact h)
     refine⟨u,h1,h2,fun σ' hT hA K'=> ?_⟩
     unfold pC
     rw[e0];simp only;rw[hg];simp only;rw[ht];simp only;rw[hT t NG,hb];simp only
     rw[mA σ' (hT t NG)]
     exact h3 σ' hT hA K'
    ·obtain⟨u,h1,h2,h3⟩:=oN (by
      have:=mA σ rfl
      rw[this]at h;exact h)
     refine⟨u,h1,h2,fun σ' hT hA K'=> ?_⟩
     unfold pC
     rw[e0];simp only;rw[hg];simp only;rw[ht];simp only;rw[hT t NG,hb];simp only
     rw[mA σ' (hT t NG)]
     exact h3 σ' K'
    ·obtain⟨u,h1,h2,h3⟩:=oN (by
      have:=mA σ rfl
      rw[this]at h;exact h)
     refine⟨u,h1,h2,fun σ' hT hA K'=> ?_⟩
     unfold pC
     rw[e0];simp only;rw[hg];simp only;rw[ht];simp only;rw[hT t NG,hb];simp only
     rw[mA σ' (hT t NG)]
     exact h3 σ' K'
    ·obtain⟨u,h1,h2,h3⟩:=cI (by
      have:=mA σ rfl
      rw[this]at h;exact h)
     refine⟨u,h1,h2,fun σ' hT hA K'=> ?_⟩
     unfold pC
     rw[e0];simp only;rw[hg];simp only;rw[ht];simp only;rw[hT t NG,hb];simp only
     rw[mA σ' (hT t NG)]
     exact h3 σ' hT hA K'
   ·rename_i hb
    obtain⟨u,h1,h2,h3⟩:=oN h
    refine⟨u,h1,h2,fun σ' hT hA K'=> ?_⟩
    unfold pC
    rw[e0];simp only;rw[hg];simp only;rw[ht];simp only;rw[hT t NG,hb]
    exact h3 σ' K'
   ·cases h
theorem Ma{ops:List Oper}: ∀(l:List Oper) (i:Nat) (σ:St) (lg:Log) (K:St→Log→Option α),Nc E ops l i σ lg K=some r→
  ∃us:List Out,us.length=l.length∧(∀j u o,us[j]? =some u→l[j]? =some o→Pt E ops o ((us.take j).foldl (fun σ u=>u.app σ) σ) u α)∧
   ∃lg',K (us.foldl (fun σ u=>u.app σ) σ) lg'=some r∧(∀x∈lg,x∈lg')∧ ∀j u,us[j]? =some u→(i+j,u.rd,u.ups.map (·.1))∈lg'
 |[],i,σ,lg,K,h=>⟨[],rfl,fun j u o hj=>by simp at hj,lg,h,fun _ h=>h,fun j u hj=>by simp at hj⟩
 |o::l,i,σ,lg,K,h=>by
  unfold Nc at h
  obtain⟨u,h1,h2⟩:=Qf h
  obtain⟨us,hl,hpt,lg',hK,Tg,hj⟩:=Ma l (i+1) (u.app σ) _ K h1
  refine⟨u::us,by simp[hl],fun j u' o' hu ho=> ?_,lg',hK,fun x hx=>Tg x (List.mem_cons_of_mem _ hx),fun j u' hu=> ?_⟩
  ·cases j with
   |zero=>simp at hu ho;subst hu ho;exact h2
   |succ j=>exact hpt j u' o' (by simpa using hu) (by simpa using ho)
  ·cases j with
   |zero=>simp at hu;subst hu;exact Tg _ List.mem_cons_self
   |succ j=>
    have:=hj j u' (by simpa using hu)
    rwa [show i+1+j=i+(j+1)from by omega]at this
theorem NH{k:Nat}{ups:fF}(h:k∈keys ups)(H H':Nat→Option aR):b8 H ups k=b8 H' ups k:=by
 induction ups generalizing H H' with
 |nil=>simp[keys]at h
 |cons u r ih=>
  show b8 (bs H u.1 u.2) r k=b8 (bs H' u.1 u.2) r k
  by_cases hk:k∈keys r
  ·exact ih hk _ _
  ·have hku:k=u.1:=by
    simp only[keys,List.map_cons,List.mem_cons]at h hk
    exact h.resolve_right hk
   rw[jP hk,jP hk,hku,ak,ak]
structure lD(us:List Out)(σ0:St)(S:Nat→Prop)(σ:St):Prop where
 T: ∀t,(∃j u,us[j]? =some u∧S j∧u.dst=some t∧(∀j' u',us[j']? =some u'→S j'→u'.dst=some t→j'≤j)∧σ.T t=u.v)∨((∀j u,us[j]? =some u→S j→u.dst≠some t)∧σ.T t=σ0.T t)
 H: ∀k,(∃j u,us[j]? =some u∧S j∧k∈keys u.ups∧(∀j' u',us[j']? =some u'→S j'→k∈keys u'.ups→j'≤j)∧σ.H k=b8 σ0.H u.ups k)∨((∀j u,us[j]? =some u→S j→k∉keys u.ups)∧σ.H k=σ0.H k)
theorem lD.Qg{us:List Out}{σ0 σ σ':St}{S S':Nat→Prop}(h:lD us σ0 S σ)(h':lD us σ0 S' σ'){t:Nat}(hs: ∀j u,us[j]? =some u→u.dst=some t→(S j↔S' j)):σ.T t=σ'.T t:=by
 rcases h.T t with⟨j,u,h1,h2,h3,h4,h5⟩|⟨h1,h2⟩<;>rcases h'.T t with⟨j',u',mJ,tG,Kc,h4',h5'⟩|⟨mJ,tG⟩
 ·have e1:=h4 j' u' mJ ((hs j' u' mJ Kc).2 tG) Kc
  have e2:=h4' j u h1 ((hs j u h1 h3).1 h2) h3
  have:j=j':=by omega
  subst this
  rw[h1]at mJ;cases mJ
  rw[h5,h5']
 ·exact absurd h3 (mJ j u h1 ((hs j u h1 h3).1 h2))
 ·exact absurd Kc (h1 j' u' mJ ((hs j' u' mJ Kc).2 tG))
 ·rw[h2,tG]
theorem lD.Qh{us:List Out}{σ0 σ σ':St}{S S':Nat→Prop}(h:lD us σ0 S σ)(h':lD us σ0 S' σ'){k:Nat}(hs: ∀j u,us[j]? =some u→k∈keys u.ups→(S j↔S' j)):σ.H k=σ'.H k:=by
 rcases h.H k with⟨j,u,h1,h2,h3,h4,h5⟩|⟨h1,h2⟩<;>rcases h'.H k with⟨j',u',mJ,tG,Kc,h4',h5'⟩|⟨mJ,tG⟩
 ·have e1:=h4 j' u' mJ ((hs j' u' mJ Kc).2 tG) Kc
  have e2:=h4' j u h1 ((hs j u h1 h3).1 h2) h3
  have:j=j':=by omega
  subst this
  rw[h1]at mJ;cases mJ
  rw[h5,h5']
 ·exact absurd h3 (mJ j u h1 ((hs j u h1 h3).1 h2))
 ·exact absurd Kc (h1 j' u' mJ ((hs j' u' mJ Kc).2 tG))
 ·rw[h2,tG]
theorem lD.unique{us:List Out}{σ0 σ σ':St}{S S':Nat→Prop}(h:lD us σ0 S σ)(h':lD us σ0 S' σ')(hs: ∀j u,us[j]? =some u→(S j↔S' j)):σ=σ':=by
 obtain⟨T,H⟩:=σ
 obtain⟨T',H'⟩:=σ'
 congr 1
 ·funext t;exact h.Qg h' (fun j u hj _=>hs j u hj)
 ·funext k;exact h.Qh h' (fun j u hj _=>hs j u hj)
theorem lD.step{us:List Out}{σ0 σ:St}{S:Nat→Prop}(h:lD us σ0 S σ){i:Nat}{u:Out}(hi:us[i]? =some u)(hc: ∀j u',us[j]? =some u'→S j→i<j→(∀t,u.dst=some t→u'.dst≠some t)∧ ∀k∈keys u.ups,k∉keys u'.ups):
  lD us σ0 (fun j=>j=i∨S j) (u.app σ):=by
 refine⟨fun t=> ?_,fun k=> ?_⟩
 ·by_cases hd:u.dst=some t
  ·left
   refine⟨i,u,hi,.inl rfl,hd,fun j' u' h1 h2 h3=> ?_,Kb hd σ⟩
   rcases h2 with rfl|h2
   ·exact Nat.le_refl _
   ·exact Nat.le_of_not_lt fun dT=>(hc j' u' h1 h2 dT).1 t hd h3
  ·rw[Qe hd]
   rcases h.T t with⟨j,u1,h1,h2,h3,h4,h5⟩|⟨h1,h2⟩
   ·refine .inl ⟨j,u1,h1,.inr h2,h3,fun j' u' mJ tG Kc=> ?_,h5⟩
    rcases tG with rfl|tG
    ·rw[hi]at mJ;cases mJ;exact absurd Kc hd
    ·exact h4 j' u' mJ tG Kc
   ·refine .inr ⟨fun j u' mJ tG=> ?_,h2⟩
    rcases tG with rfl|tG
    ·rw[hi]at mJ;cases mJ;exact hd
    ·exact h1 j u' mJ tG
 ·rw[ahb]
  by_cases hd:k∈keys u.ups
  ·left
   refine⟨i,u,hi,.inl rfl,hd,fun j' u' h1 h2 h3=> ?_,NH hd _ _⟩
   rcases h2 with rfl|h2
   ·exact Nat.le_refl _
   ·exact Nat.le_of_not_lt fun dT=>(hc j' u' h1 h2 dT).2 k hd h3
  ·rw[jP hd]
   rcases h.H k with⟨j,u1,h1,h2,h3,h4,h5⟩|⟨h1,h2⟩
   ·refine .inl ⟨j,u1,h1,.inr h2,h3,fun j' u' mJ tG Kc=> ?_,h5⟩
    rcases tG with rfl|tG
    ·rw[hi]at mJ;cases mJ;exact absurd Kc hd
    ·exact h4 j' u' mJ tG Kc
   ·refine .inr ⟨fun j u' mJ tG=> ?_,h2⟩
    rcases tG with rfl|tG
    ·rw[hi]at mJ;cases mJ;exact hd
    ·exact h1 j u' mJ tG
theorem lD.start(us:List Out)(σ0:St):lD us σ0 (fun _=>False) σ0:=⟨fun t=> .inr ⟨fun _ _ _ h=>h.elim,rfl⟩,fun k=> .inr ⟨fun _ _ _ h=>h.elim,rfl⟩⟩
theorem lD.congr{us:List Out}{σ0 σ:St}{S S':Nat→Prop}(h:lD us σ0 S σ)(hs: ∀j,S j↔S' j):lD us σ0 S' σ:=by
 have:S=S':=funext fun j=>propext (hs j)
 rw[←this];exact h
theorem lD.text(us:List Out)(σ0:St): ∀i,i≤us.length→lD us σ0 (fun j=>j<i) ((us.take i).foldl (fun σ u=>u.app σ) σ0)
 |0,_=>(lD.start us σ0).congr fun j=>by simp
 |i+1,hi=>by
  have ih:=lD.text us σ0 i (by omega)
  have hu:us[i]? =some us[i]:=List.getElem?_eq_getElem (by omega)
  have:=ih.step hu (fun j u' _ h2 h3=>by omega)
  rw[List.take_add_one,hu,List.foldl_append]
  exact this.congr fun j=>by constructor<;>intro h<;>omega
end VM
end
section
namespace VM
open Go
variable{P:Program}{E:Env}{o:Oper}{a:Act}{w:World}{M:Nat→Prop}{ν:Nat→Value}{σ:St}{c:Ctx}{α:Type}{r:α}{next:Act→World→Prop}{Q:Exit→Act→World→Prop}
def Pre(S:Nat→Prop)(o:Oper):Prop:= ∀e∈o.after,Region.binds .any e=true→S e.on
theorem zP{β:Type}{l m:List β}{i:Nat}{d:β}(h:i<l.length):(l++m).getD i d=l.getD i d:=by
 simp only[List.getD,List.getElem?_append_left h]
theorem zQ{β:Type}{l:List β}{x d:β}:(l++[x]).getD l.length d=x:=by
 simp[List.getD]
theorem xz{acc:List Nat}{i:Nat}: ∀(es:List Edge) (s:Nat),(es.foldl (fun s e=>cond (Region.binds .any e) (s|||2^e.on|||acc.getD e.on 0) s) s).testBit i=true→
  s.testBit i=true∨ ∃e∈es,Region.binds .any e=true∧(i=e.on∨(acc.getD e.on 0).testBit i=true)
 |[],s,h=> .inl h
 |e::es,s,h=>by
  rw[List.foldl_cons]at h
  rcases xz es _ h with h1|⟨e',h1,h2⟩
  ·cases hb:Region.binds .any e
   ·rw[hb]at h1;exact .inl h1
   ·rw[hb]at h1
    simp only[cond_true,Nat.testBit_or,Bool.or_eq_true]at h1
    rcases h1 with(h1|h1)|h1
    ·exact .inl h1
    ·refine .inr ⟨e,List.mem_cons_self,hb,.inl ?_⟩
     rw[Nat.testBit_two_pow]at h1
     simpa using (of_decide_eq_true h1).symm
    ·exact .inr ⟨e,List.mem_cons_self,hb,.inr h1⟩
  ·exact .inr ⟨e',List.mem_cons_of_mem _ h1,h2⟩
theorem xA{S:Nat→Prop}: ∀(l:List Oper) (acc:List Nat) (all:List Oper),all.length=acc.length+l.length→(∀j,l[j]? =all[acc.length+j]?)→
  (∀j o,all[j]? =some o→S j→Pre S o)→(∀j i,j<acc.length→S j→(acc.getD j 0).testBit i=true→S i)→
  ∀j o i,all[j]? =some o→(Pre S o∨S j)→((pg l acc).getD j 0).testBit i=true→(j<acc.length→ ∀i,Pre S o→(acc.getD j 0).testBit i=true→S i)→S i
 |[],acc,all,hl,gH,hS,T6,j,o,i,hj,Gg,hb,Qi=>by
  have dT:j<all.length:=(List.getElem?_eq_some_iff.1 hj).1
  have tS:j<acc.length:=by simp at hl;omega
  rcases Gg with hp|hp
  ·exact Qi tS i hp hb
  ·exact T6 j i tS hp hb
 |p::l,acc,all,hl,gH,hS,T6,j,o,i,hj,Gg,hb,Qi=>by
  unfold pg at hb
  have Pu:all[acc.length]? =some p:=by rw[←Nat.add_zero acc.length,←gH 0];rfl
  have T7: ∀i,Pre S p→(p.after.toList.foldl (fun s e=>cond (Region.binds .any e) (s|||2^e.on|||acc.getD e.on 0) s) 0).testBit i=true→S i:=by
   intro i BA hb
   rcases xz p.after.toList 0 hb with h1|⟨e,he,hbe,h1⟩
   ·simp at h1
   ·have hSe:=BA e (by simpa using he) hbe
    rcases h1 with rfl|h1
    ·exact hSe
    ·by_cases dT:e.on<acc.length
     ·exact T6 e.on i dT hSe h1
     ·rw[List.getD,List.getElem?_eq_none (by omega)]at h1;simp at h1
  refine xA l (acc++[p.after.toList.foldl (fun s e=>cond (Region.binds .any e) (s|||2^e.on|||acc.getD e.on 0) s) 0]) all (by simp at hl ⊢;omega) (fun j=> ?_) hS (fun j' i' TY hS' dF=> ?_) j o i hj Gg hb (fun dT i' xl dF=> ?_)
  ·have:=gH (j+1)
   simp only[List.getElem?_cons_succ]at this
   rw[this]
   congr 1
   simp;omega
  ·by_cases dT:j'<acc.length
   ·rw[zP dT]at dF
    exact T6 j' i' dT hS' dF
   ·have hje:j'=acc.length:=by simp at TY;omega
    subst hje
    rw[zQ]at dF
    exact T7 i' (hS _ p Pu hS') dF
  ·by_cases tS:j<acc.length
   ·rw[zP tS]at dF
    exact Qi tS i' xl dF
   ·have hje:j=acc.length:=by simp at dT;omega
    subst hje
    rw[Pu]at hj;cases hj
    rw[zQ]at dF
    exact T7 i' xl dF
theorem forced{ops:List Oper}{S:Nat→Prop}(hS: ∀j o,ops[j]? =some o→S j→Pre S o){j i:Nat}(hj:ops[j]? =some o)(Gg:Pre S o∨S j)(hb:((pg ops []).getD j 0).testBit i=true):S i:=
 xA ops [] ops (by simp) (fun j=>by simp) hS (fun j i h=>by simp at h) j o i hj Gg hb (fun h=>by simp at h)
theorem jl{l m:List Nat}(h:meets l m=false){x:Nat}(h1:x∈l)(h2:x∈m):False:=by
 have:meets l m=true:=by
  unfold meets
  rw[List.any_eq_true]
  refine⟨x,h1,?_⟩
  rw[List.any_eq_true]
  exact⟨x,h2,Nat.beq_refl x⟩
 rw[h]at this;cases this
structure Rnd(c:Ctx)(E:Env)(ops:Array Oper)(us:List Out)(σ0:St)(listed:Array Bool)(a:Act)(w:World):Prop where
 size:listed.size=ops.size
 closed: ∀j o,ops.toList[j]? =some o→listed.getD j false=true→Pre (fun i=>listed.getD i false=true) o
 st: ∃σ,lD us σ0 (fun j=>listed.getD j false=true) σ∧Inv c E σ a w
theorem tW{listed:Array Bool}{j:Nat}(h:j<listed.size)(d:Bool):listed.getD j d=listed.getD j false:=by
 simp[Array.getD,h]
theorem D7(hE:pN P E){ops:Array Oper}{us:List Out}{σ0 σn:St}{α:Type}(x0:α)(hl:us.length=ops.toList.length)
  (hpt: ∀(j:Nat) (u:Out) (o:Oper),us[j]? =some u→ops.toList[j]? =some o→Pt E ops.toList o ((us.take j).foldl (fun σ u=>u.app σ) σ0) u α)
  (hn:σn=us.foldl (fun σ u=>u.app σ) σ0)
  (dT: ∀(j:Nat) (o:Oper),ops.toList[j]? =some o→ ∀e∈o.after,Region.binds .any e=true→e.on<j)
  (JH: ∀(j:Nat) (o:Oper) (i:Nat) (p:Oper),ops.toList[j]? =some o→ops.toList[i]? =some p→i<j→((pg ops.toList []).getD j 0).testBit i=false→
   (∀d,p.dst=some d→o.dst≠some d∧d∉names ops.toList o)∧(∀d,o.dst=some d→d∉names ops.toList p))
  (Tg: ∀(j:Nat) (u:Out) (i:Nat) (v:Out),us[j]? =some u→us[i]? =some v→i<j→((pg ops.toList []).getD j 0).testBit i=false→
   (∀k∈keys v.ups,k∉u.rd∧k∉keys u.ups)∧(∀k∈v.rd,k∉keys u.ups))
  (hq: ∀a' w',Inv c E σn a' w'→Q .normal a' w'):
  ∀(fuel:Nat) (listed:Array Bool) (a:Act) (w:World),((List.range ops.size).filter fun j=> !(listed.getD j false)).length≤fuel→Rnd c E ops us σ0 listed a w→wpAny P .any ops Q fuel listed a w:=by
 have gH: ∀(listed:Array Bool) (a:Act) (w:World),Rnd c E ops us σ0 listed a w→Region.ready .any ops listed=[]→Q .normal a w:=by
  intro listed a w hR abS
  obtain⟨hs,Fp,σ,JA,hI⟩:=hR
  have ahd: ∀j,j<ops.size→listed.getD j false=true:=by
   intro j
   induction j using Nat.strongRecOn with
   |_ j ih=>
    intro hj
    by_cases hb:listed.getD j false=true
    ·exact hb
    ·exfalso
     have ho:ops[j]? =some ops[j]:=Array.getElem?_eq_getElem hj
     have:j∈Region.ready .any ops listed:=by
      rw[mem_ready]
      refine⟨by rw[tW (by omega)];simpa using hb,_,ho,fun e he hbe=> ?_⟩
      have hej:=dT j ops[j] (by rw[Array.getElem?_toList];exact ho) e he hbe
      exact ih e.on hej (by omega)
     rw[abS]at this
     cases this
  have hσ:σ=σn:=by
   rw[hn]
   have ht:=lD.text us σ0 us.length (Nat.le_refl _)
   rw[List.take_length]at ht
   refine JA.unique ht fun j u hj=> ?_
   have BE:j<us.length:=(List.getElem?_eq_some_iff.1 hj).1
   have hjo:j<ops.size:=by rw[hl,Array.length_toList]at BE;exact BE
   exact⟨fun _=>BE,fun _=>ahd j hjo⟩
  exact hq a w (hσ▸hI)
 intro fuel
 induction fuel with
 |zero=>
  intro listed a w hf hR
  have T8:Region.ready .any ops listed=[]:=by
   rw[List.eq_nil_iff_forall_not_mem]
   intro j hj
   rw[mem_ready]at hj
   obtain⟨h0,o,ho,_⟩:=hj
   have hjs:j<ops.size:=(Array.getElem?_eq_some_iff.1 ho).1
   have BE:j<listed.size:=by rw[hR.size];exact hjs
   rw[tW BE]at h0
   have mI:j∈(List.range ops.size).filter fun j=> !(listed.getD j false):=by
    rw[List.mem_filter];exact⟨List.mem_range.2 hjs,by rw[h0];rfl⟩
   have:((List.range ops.size).filter fun j=> !(listed.getD j false))=[]:=List.eq_nil_of_length_eq_zero (by omega)
   rw[this]at mI;cases mI
  exact⟨T8,gH listed a w hR T8⟩
 |succ fuel ih=>
  intro listed a w hf hR
  refine⟨gH listed a w hR,fun i hi=> ?_⟩
  have kk:=hi
  rw[mem_ready]at kk
  obtain⟨h0,o,ho,Gg⟩:=kk
  have his:i<ops.size:=(Array.getElem?_eq_some_iff.1 ho).1
  have BO:i<listed.size:=by rw[hR.size];exact his
  rw[tW BO]at h0
  obtain⟨hs,Fp,σ,JA,hI⟩:=hR
  have yx:ops.toList[i]? =some o:=by rw[Array.getElem?_toList];exact ho
  have hiu:i<us.length:=by rw[hl,Array.length_toList];exact his
  have hu:us[i]? =some us[i]:=List.getElem?_eq_getElem hiu
  have hPt:=hpt i us[i] o hu yx
  have hSi: ¬listed.getD i false=true:=by rw[h0];simp
  have Gh: ∀j p,ops.toList[j]? =some p→((j<i∧ ¬listed.getD j false=true)→((pg ops.toList []).getD i 0).testBit j=false)∧((i<j∧listed.getD j false=true)→((pg ops.toList []).getD j 0).testBit i=false):=by
   intro j p hj
   refine⟨fun⟨_,h2⟩=> ?_,fun⟨_,h2⟩=> ?_⟩
   ·rw[←Bool.not_eq_true]
    intro hb
    exact h2 (forced Fp yx (.inl Gg) hb)
   ·rw[←Bool.not_eq_true]
    intro hb
    exact hSi (forced Fp hj (.inr h2) hb)
  have Qj: ∀(j:Nat) (u:Out),us[j]? =some u→ ∃p:Oper,ops.toList[j]? =some p∧u.dst=p.dst:=by
   intro j u hj
   have BE:j<us.length:=(List.getElem?_eq_some_iff.1 hj).1
   have hp:ops.toList[j]? =some ops.toList[j]:=List.getElem?_eq_getElem (by omega)
   exact⟨_,hp,(hpt j u _ hj hp).1⟩
  have aaj:=lD.text us σ0 i (by omega)
  have hT: ∀t∈names ops.toList o,σ.T t=((us.take i).foldl (fun σ u=>u.app σ) σ0).T t:=by
   intro t ht
   refine JA.Qg aaj fun j u hj hd=> ?_
   obtain⟨p,hp,hpd⟩:=Qj j u hj
   have hpd:p.dst=some t:=by rw[←hpd,hd]
   constructor
   ·intro Gi
    refine Nat.lt_of_not_le fun hle=> ?_
    rcases Nat.lt_or_eq_of_le hle with tS|heq
    ·exact(JH j p i o hp yx tS ((Gh j p hp).2 ⟨tS,Gi⟩)).2 t hpd ht
    ·subst heq;exact hSi Gi
   ·intro tX
    by_cases Gi:listed.getD j false=true
    ·exact Gi
    ·exact absurd ht ((JH i o j p yx hp tX ((Gh j p hp).1 ⟨tX,Gi⟩)).1 t hpd).2
  have hH:Ag us[i].rd ((us.take i).foldl (fun σ u=>u.app σ) σ0).H σ.H:=by
   intro k hk
   refine JA.Qh aaj fun j u hj hd=> ?_
   obtain⟨p,hp,hpd⟩:=Qj j u hj
   constructor
   ·intro Gi
    refine Nat.lt_of_not_le fun hle=> ?_
    rcases Nat.lt_or_eq_of_le hle with tS|heq
    ·exact(Tg j u i us[i] hj hu tS ((Gh j p hp).2 ⟨tS,Gi⟩)).2 k hk hd
    ·subst heq;exact hSi Gi
   ·intro tX
    by_cases Gi:listed.getD j false=true
    ·exact Gi
    ·exact absurd hk ((Tg i us[i] j u hu hj tX ((Gh j p hp).1 ⟨tX,Gi⟩)).1 k hd).1
  have ahe:=hPt.2 σ hT hH
  have hIs:lD us σ0 (fun j=>j=i∨listed.getD j false=true) (us[i].app σ):=by
   refine JA.step hu fun j u hj Gi oH=> ?_
   obtain⟨p,hp,hpd⟩:=Qj j u hj
   have yz:=(Gh j p hp).2 ⟨oH,Gi⟩
   obtain⟨h1,h2⟩:=JH j p i o hp yx oH yz
   obtain⟨h3,h4⟩:=Tg j u i us[i] hj hu oH yz
   refine⟨fun t ht=> ?_,fun k hk=>(h3 k hk).2⟩
   rw[hpd]
   exact(h1 t (by rw[←hPt.1];exact ht)).1
  have vb: ∀j,(listed.setIfInBounds i true).getD j false=true↔(j=i∨listed.getD j false=true):=by
   intro j
   by_cases tX:j=i
   ·subst tX
    constructor
    ·intro _;exact .inl rfl
    ·intro _;simp[BO]
   ·rw[getD_set_ne false (Ne.symm tX)]
    exact⟨.inr,fun h=>h.resolve_left tX⟩
  classical
  let K':St→List Nat→List Nat→Option α:=fun σ' _ _=>if σ'=us[i].app σ then some x0 else none
  have hK:pC E ops.toList o σ K'=some x0:=by rw[ahe K'];simp[K']
  have:=xy (Q:=Q) (next:=wpAny P .any ops Q fuel (listed.setIfInBounds i true)) hE hI hK (fun σ' a' w' rd wr hσ' tE=>by
   have amL:σ'=us[i].app σ:=by
    by_cases h:σ'=us[i].app σ
    ·exact h
    ·simp[K',h]at hσ'
   subst amL
   refine ih _ a' w' ?_ ⟨by simpa using hs,fun j p hp Gi e he hb=> ?_,_,hIs.congr (fun j=>(vb j).symm),tE⟩
   ·have hlen:((List.range ops.size).filter fun j=> !((listed.setIfInBounds i true).getD j false)).length<((List.range ops.size).filter fun j=> !(listed.getD j false)).length:=by
     have Nu:((List.range ops.size).filter fun j=> !((listed.setIfInBounds i true).getD j false))=((List.range ops.size).filter fun j=> !(listed.getD j false)).filter fun j=> !(Nat.beq j i):=by
      rw[List.filter_filter]
      apply List.filter_congr
      intro j _
      by_cases tX:j=i
      ·subst tX
       have h1:=(vb j).2 (.inl rfl)
       rw[h1];simp
      ·have h1:Nat.beq j i=false:=by rw[←Bool.not_eq_true,Nat.beq_eq];exact tX
       rw[h1,getD_set_ne false (Ne.symm tX)];simp
     rw[Nu]
     refine List.length_filter_lt_length_iff_exists.2 ⟨i,?_,by simp⟩
     rw[List.mem_filter];exact⟨List.mem_range.2 his,by rw[h0];rfl⟩
    omega
   ·rcases(vb j).1 Gi with rfl|Gi
    ·rw[yx]at hp;cases hp
     exact(vb _).2 (.inr (Gg e he hb))
    ·exact(vb _).2 (.inr (Fp j p hp Gi e he hb)))
  unfold wpOp
  rw[ho]
  simp only
  split
  ·rename_i hw;rw[if_pos hw]at this;exact .inl this
  ·rename_i hw;rw[if_neg hw]at this;exact this
theorem B0(hE:pN P E){id:Nat}{ops:Array Oper}{draw:Bool}(hI:Inv c E σ a w){K:St→Option α}(h:yV E ops draw σ K=some r)
  (hn: ∀σ' a' w',K σ'=some r→Inv c E σ' a' w'→Q .normal a' w'):(Code.region id ops draw).wp P Q a w:=by
 cases draw
 ·refine wp_region_list (zJ hE ops.toList 0 σ [] a w _ hI h fun σ' lg' a' w' h' tE=> ?_)
  exact hn σ' a' w' (bK h').2 tE
 ·unfold yV at h
  obtain⟨us,hl,hpt,lg,hK,_,ahf⟩:=Ma _ _ _ _ _ h
  obtain⟨Te,hK⟩:=bK hK
  simp only[Bool.not_true,Bool.false_or,Bool.and_eq_true]at Te
  obtain⟨JH,Tg⟩:=Te
  unfold PE at JH
  simp only[Bool.and_eq_true,List.all_eq_true]at JH
  obtain⟨amM,amN⟩:=JH
  have hz: ∀j o,ops.toList[j]? =some o→(o,j)∈ops.toList.zipIdx:=fun j o hj=>List.mem_zipIdx_iff_getElem?.2 hj
  refine wp_region_any hE.mixed (D7 (Q:=Q) (σ0:=σ) hE r hl hpt rfl (fun j o hj e he hbe=> ?_) (fun j o i p hj hi oH hb=> ?_) (fun j u i v hj hi oH hb=> ?_) (fun a' w' tE=>hn _ a' w' hK tE) ops.size (Array.replicate ops.size false) a _ ?_ ?_)
  ·have:=amM (o,j) (hz j o hj) e (by simpa using he)
   rw[hbe]at this
   simpa [Nat.blt_eq]using this
  ·have:=amN (o,j) (hz j o hj) (p,i) (hz i p hi)
   simp only[hb,Bool.or_false,Bool.or_eq_true,Bool.not_eq_true',Bool.or_eq_false_iff]at this
   have BM: ¬Nat.ble j i=true:=by rw[Nat.ble_eq];omega
   have this:=this.resolve_left BM
   refine⟨fun d hd=>⟨fun T9=> ?_,fun T9=> ?_⟩,fun d hd T9=> ?_⟩
   ·exact jl this.1 (x:=d) (by simp[hd]) (by simp[T9])
   ·exact jl this.1 (x:=d) (by simp[hd]) (by simp[T9])
   ·exact jl this.2 (x:=d) (by simp[hd]) T9
  ·unfold Z8 at Tg
   simp only[List.all_eq_true]at Tg
   have TY:=ahf j u hj
   have kk:=ahf i v hi
   rw[Nat.zero_add]at TY kk
   have:=Tg _ TY _ kk
   simp only[hb,Bool.or_false,Bool.or_eq_true,Bool.not_eq_true',Bool.or_eq_false_iff]at this
   have BM: ¬Nat.ble j i=true:=by rw[Nat.ble_eq];omega
   have this:=this.resolve_left BM
   refine⟨fun k hk=>⟨fun zB=> ?_,fun zB=> ?_⟩,fun k hk zB=> ?_⟩
   ·exact jl this.1 (x:=k) hk (List.mem_append_left _ zB)
   ·exact jl this.1 (x:=k) hk (List.mem_append_right _ zB)
   ·exact jl this.2 (x:=k) hk zB
  ·refine Nat.le_trans (List.length_filter_le _ _) ?_
   rw[List.length_range];exact Nat.le_refl _
  ·have hf: ∀j,(Array.replicate ops.size false).getD j false=false:=by
    intro j
    rw[Array.getD_eq_getD_getElem?,Array.getElem?_replicate]
    split<;>rfl
   obtain⟨⟨M,ν,hc⟩,hs,hd,tj⟩:=hI
   refine⟨by simp,fun j o _ hS=>(by rw[hf]at hS;cases hS),σ,(lD.start us σ).congr (fun j=>(by rw[hf];simp)),⟨M,ν,?_⟩,hs,hd,tj⟩
   exact hc.tr (Tr.drew hc.mem)
end VM
end
