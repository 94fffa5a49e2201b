/- A part of the proof of HedgeDrawn of layer 22: a machine that reads a function of the program as an equation between values. -/
import Derived.Test.YtocmlaipoebfeaaGreatVm4
set_option linter.all false
section
namespace VM
open Go
variable{α:Type}{r:α}
theorem cU{υ τ:Ty}{y:υ.den}{k:τ.den→Option α}(h:cn υ τ y k=some r): ∃z,k z=some r∧ ∀k':τ.den→Option α,cn υ τ y k'=k' z:=by
 obtain⟨e,h⟩:=ba h
 subst e
 exact⟨y,h,fun k'=>by simp[cn]⟩
theorem gD{υ τ:Ty}{k:Option α}(h:jS υ τ k=some r):k=some r∧ ∀k':Option α,jS υ τ k'=k':=by
 obtain⟨e,h1⟩:=dU h
 clear h
 subst e
 exact⟨h1,fun k'=>by simp[jS]⟩
theorem c9{b:Bool}{K:Option α}(h:cond b K none=some r):K=some r∧ ∀K':Option α,cond b K' none=K':=by
 obtain⟨rfl,h⟩:=bM h
 exact⟨h,fun _=>rfl⟩
theorem pG{b:Bool}{K:Option α}(h:cond b none K=some r):K=some r∧ ∀K':Option α,cond b none K'=K':=by
 obtain⟨rfl,h⟩:=jl h
 exact⟨h,fun _=>rfl⟩
theorem sN: ∀{τ:Ty} {x:τ.den} {n:Nat} {k:(υ:Ty)→υ.den→Option α},s8 τ x n k=some r→ ∃υ y,k υ y=some r∧ ∀k':(υ:Ty)→υ.den→Option α,s8 τ x n k'=k' υ y
 | .pair a b,x,0,k,h=>⟨a,x.1,h,fun _=>rfl⟩
 | .pair a b,x,n+1,k,h=>by
  obtain⟨υ,y,h1,h2⟩:=sN (τ:=b) (x:=x.2) (n:=n) (k:=k) h
  exact⟨υ,y,h1,fun k'=>h2 k'⟩
 | .int _,_,_,_,h| .bool,_,_,_,h| .str,_,_,_,h| .slice _,_,_,_,h| .unit,_,_,_,h| .arr _ _,_,_,_,h=>by simp[s8]at h
theorem tW: ∀{τ:Ty} {x:τ.den} {n:Nat} {m:(υ:Ty)→υ.den→(υ.den→Option α)→Option α} {k:τ.den→Option α},
  (∀υ y (k:υ.den→Option α),m υ y k=some r→ ∃z,k z=some r∧ ∀k':υ.den→Option α,m υ y k'=k' z)→jR τ x n m k=some r→ ∃z,k z=some r∧ ∀k':τ.den→Option α,jR τ x n m k'=k' z
 | .pair a b,x,0,m,k,hm,h=>by
  obtain⟨z,h1,h2⟩:=hm a x.1 _ h
  exact⟨(z,x.2),h1,fun k'=>h2 _⟩
 | .pair a b,x,n+1,m,k,hm,h=>by
  obtain⟨z,h1,h2⟩:=tW (τ:=b) (x:=x.2) (n:=n) (m:=m) (k:=fun z=>k (x.1,z)) hm h
  exact⟨(x.1,z),h1,fun k'=>h2 (fun z=>k' (x.1,z))⟩
 | .int _,_,_,_,_,_,h| .bool,_,_,_,_,_,h| .str,_,_,_,_,_,h| .slice _,_,_,_,_,_,h| .unit,_,_,_,_,_,h| .arr _ _,_,_,_,_,_,h=>by simp[jR]at h
theorem eS: ∀{p:List Step} {τ:Ty} {x:τ.den} {k:(υ:Ty)→υ.den→Option α},uT p τ x k=some r→ ∃υ y,k υ y=some r∧ ∀k':(υ:Ty)→υ.den→Option α,uT p τ x k'=k' υ y
 |[],τ,x,k,h=>⟨τ,x,h,fun _=>rfl⟩
 | .gP n::p,τ,x,k,h=>by
  obtain⟨υ,y,h1,h2⟩:=sN (h:s8 τ x n _=some r)
  obtain⟨υ',y',h3,h4⟩:=eS h1
  exact⟨υ',y',h3,fun k'=>(h2 _).trans (h4 k')⟩
 | .idx i::p,τ,x,k,h=>by
  cases τ with
  |arr n e=>
   obtain⟨υ',y',h3,h4⟩:=eS (p:=p) (τ:=e) (x:=List.getD x i e.zero) (k:=k) h
   exact⟨υ',y',h3,fun k'=>h4 k'⟩
  |_=>simp[uT,aa1]at h
theorem lx{υ:Ty}{y:υ.den}: ∀{p:List Step} {τ:Ty} {x:τ.den} {k:τ.den→Option α},rj υ y p τ x k=some r→ ∃z,k z=some r∧ ∀k':τ.den→Option α,rj υ y p τ x k'=k' z
 |[],τ,x,k,h=>cU h
 | .gP n::p,τ,x,k,h=>tW (fun _ _ _ h=>lx h) h
 | .idx i::p,τ,x,k,h=>by
  cases τ with
  |arr n e=>
   obtain⟨z,h1,h2⟩:=lx (p:=p) (τ:=e) (x:=List.getD x i e.zero) (k:=fun z=>k (List.set x i z)) h
   exact⟨_,h1,fun k'=>h2 (fun z=>k' (List.set x i z))⟩
  |_=>simp[rj,zf]at h
theorem oP{a:a7}{k:IntKind→Int→Option α}(h:rC a k=some r): ∃i n,k i n=some r∧ ∀k':IntKind→Int→Option α,rC a k'=k' i n:=by
 obtain⟨i,n,rfl,h⟩:=jV h
 exact⟨i,n,h,fun _=>rfl⟩
theorem Mo{a:a7}{k:(τ:Ty)→τ.den→Option α}(h:Gb a k=some r): ∃τ x,k τ x=some r∧ ∀k':(τ:Ty)→τ.den→Option α,Gb a k'=k' τ x:=by
 unfold Gb at h
 split at h
 ·exact⟨_,_,h,fun _=>rfl⟩
 ·cases h
theorem qf{a:Option a7}{d:Int}{k:Int→Option α}(h:tP a d k=some r): ∃n,k n=some r∧ ∀k':Int→Option α,tP a d k'=k' n:=by
 cases a with
 |none=>exact⟨d,h,fun _=>rfl⟩
 |some a=>
  obtain⟨i,n,h1,h2⟩:=oP (h:rC a (fun _ x=>k x)=some r)
  exact⟨n,h1,fun k'=>h2 (fun _ x=>k' x)⟩
abbrev Ag(rd:List Nat)(H H':Nat→Option aR):Prop:= ∀i∈rd,H' i=H i
theorem ly{fz:Bool}{a:a7}{H:Nat→Option aR}{τ:Ty}{k:τ.den→List Nat→fK→Option α}(h:iT fz a H τ k=some r):
  ∃y rd ups,k y rd ups=some r∧ ∀H',Ag rd H H'→ ∀k':τ.den→List Nat→fK→Option α,iT fz a H' τ k'=k' y rd ups:=by
 cases a with
 |val υ x=>
  simp only[iT]at h
  obtain⟨z,h1,h2⟩:=cU h
  refine⟨z,[],[],h1,fun H' _ k'=> ?_⟩
  simp only[iT]
  exact h2 (fun y=>k' y [] [])
 |Ea υ x n=>
  simp only[iT]at h
  obtain⟨z,h1,h2⟩:=cU h
  refine⟨z,[],[],h1,fun H' _ k'=> ?_⟩
  simp only[iT]
  exact h2 (fun y=>k' y [] [])
 |emp=>
  cases τ with
  |slice e=>exact⟨[],[],[],h,fun _ _ _=>rfl⟩
  |_=>cases h
 |ref id=>
  have h:(match H id with
   |some (.own e l)=>cn (.slice e) τ l fun y=>k y [id] (cond fz [(id,some (.lj e l))] [])
   |some (.lj e l)=>cn (.slice e) τ l fun y=>k y [id] []
   |_=>none)=some r:=h
  cases hH:H id with
  |none=>rw[hH]at h;cases h
  |some e=>
   rw[hH]at h
   cases e with
   |own e l=>
    obtain⟨z,h1,h2⟩:=cU (h:cn (.slice e) τ l _=some r)
    refine⟨z,_,_,h1,fun H' hA k'=> ?_⟩
    have:H' id=some (.own e l):=by rw[hA id (by simp),hH]
    show(match H' id with
     |some (.own e l)=>cn (.slice e) τ l fun y=>k' y [id] (cond fz [(id,some (.lj e l))] [])
     |some (.lj e l)=>cn (.slice e) τ l fun y=>k' y [id] []
     |_=>none)=_
    rw[this];exact h2 _
   |lj e l=>
    obtain⟨z,h1,h2⟩:=cU (h:cn (.slice e) τ l _=some r)
    refine⟨z,_,_,h1,fun H' hA k'=> ?_⟩
    have:H' id=some (.lj e l):=by rw[hA id (by simp),hH]
    show(match H' id with
     |some (.own e l)=>cn (.slice e) τ l fun y=>k' y [id] (cond fz [(id,some (.lj e l))] [])
     |some (.lj e l)=>cn (.slice e) τ l fun y=>k' y [id] []
     |_=>none)=_
    rw[this];exact h2 _
   |obj _ _=>cases h
   |ed _ _ _ _=>cases h
   |gone=>cases h
 |any|PD|fR _ _|nw _ _|tup _|F8 _ _=>cases h
theorem wK{id:Nat}{p:List Step}{H:Nat→Option aR}{k:Ty→Option α}(h:jT id p H k=some r): ∃υ,k υ=some r∧ ∀H',H' id=H id→ ∀k':Ty→Option α,jT id p H' k'=k' υ:=by
 unfold jT at h
 split at h
 ·rename_i τ x aU
  obtain⟨υ,y,h1,h2⟩:=eS h
  exact⟨υ,h1,fun H' hA k'=>by unfold jT;rw[hA,aU];exact h2 _⟩
 ·rename_i τ x _ _ aU
  obtain⟨υ,y,h1,h2⟩:=eS h
  exact⟨υ,h1,fun H' hA k'=>by unfold jT;rw[hA,aU];exact h2 _⟩
 ·rename_i e l aU
  split at h
  ·obtain⟨υ,y,h1,h2⟩:=eS h
   exact⟨υ,h1,fun H' hA k'=>by unfold jT;rw[hA,aU];exact h2 _⟩
  ·cases h
 ·rename_i e l aU
  split at h
  ·obtain⟨υ,y,h1,h2⟩:=eS h
   exact⟨υ,h1,fun H' hA k'=>by unfold jT;rw[hA,aU];exact h2 _⟩
  ·cases h
 ·cases h
theorem sO{H:Nat→Option aR}{id:Nat}{e:aR}{K:Option α}(h:nx H id e K=some r):K=some r∧ ∀H',H' id=H id→ ∀(e':aR) (K':Option α),nx H' id e' K'=K':=by
 obtain⟨h1,h2⟩:=iB h
 exact⟨h2,fun H' hA e' K'=>by unfold nx;rw[hA,h1]⟩
theorem NM{b:BinOp}{k:IntKind}{x y:Int}{K:a7→Option α}(h:p4 b k x y K=some r): ∃v,K v=some r∧ ∀K':a7→Option α,p4 b k x y K'=K' v:=by
 cases b<;>simp only[p4]at h ⊢ <;>first
  |exact⟨_,h,fun _=>rfl⟩
  |(obtain⟨h1,h2⟩:=pG h;exact⟨_,h1,fun _=>h2 _⟩)
  |cases h
theorem abG{b:BinOp}{k:IntKind}{x y:Int}{K:a7→Option α}(h:Tp b k x y K=some r): ∃v,K v=some r∧ ∀K':a7→Option α,Tp b k x y K'=K' v:=by
 cases b<;>simp only[Tp]at h ⊢ <;>first
  |(obtain⟨h1,h2⟩:=pG h;exact⟨_,h1,fun _=>h2 _⟩)
  |cases h
theorem P5{t:Option Ty}{op:BinOp}{τ:Ty}{x:τ.den}{υ:Ty}{y:υ.den}{K:a7→Option α}(h:zM t op τ x υ y K=some r): ∃v,K v=some r∧ ∀K':a7→Option α,zM t op τ x υ y K'=K' v:=by
 unfold zM at h ⊢
 split at h
 ·rename_i k x k' y
  cases hs:Tq op
  ·rw[hs]at h
   have h:(if k=k' then p4 op k x y K else none)=some r:=h
   by_cases hk:k=k'
   ·rw[if_pos hk]at h
    obtain⟨v,h1,h2⟩:=NM h
    exact⟨v,h1,fun K'=>by simp only[cond_false,if_pos hk];exact h2 K'⟩
   ·rw[if_neg hk]at h;cases h
  ·rw[hs]at h
   obtain⟨v,h1,h2⟩:=abG (h:Tp op k x y K=some r)
   exact⟨v,h1,fun K'=>by simp only[cond_true];exact h2 K'⟩
 ·split at h
  ·cases h
  ·obtain⟨h1,h2⟩:=gD h
   obtain⟨h3,h4⟩:=c9 h1
   split at h3
   ·obtain⟨z,h5,h6⟩:=cU h3
    exact⟨_,h5,fun K'=>by rw[h2,h4];exact h6 _⟩
   ·obtain⟨z,h5,h6⟩:=cU h3
    exact⟨_,h5,fun K'=>by rw[h2,h4];exact h6 _⟩
   ·cases h3
theorem TS{u:UnOp}{a:a7}{K:a7→Option α}(h:Nq u a K=some r): ∃v,K v=some r∧ ∀K':a7→Option α,Nq u a K'=K' v:=by
 unfold Nq at h
 split at h<;>first
  |exact⟨_,h,fun _=>rfl⟩
  |cases h
theorem Kr{up:Bool}: ∀{xs:List a7} {a:a7} {K:a7→Option α},SY up a xs K=some r→ ∃v,K v=some r∧ ∀K':a7→Option α,SY up a xs K'=K' v
 |[],a,K,h=>⟨a,h,fun _=>rfl⟩
 |b::xs,a,K,h=>by
  unfold SY at h
  obtain⟨k,x,h1,h2⟩:=oP h
  obtain⟨k',y,h3,h4⟩:=oP h1
  by_cases hk:k=k'
  ·rw[if_pos hk]at h3
   obtain⟨v,h5,h6⟩:=Kr h3
   refine⟨v,h5,fun K'=> ?_⟩
   unfold SY
   rw[h2,h4,if_pos hk]
   exact h6 K'
  ·rw[if_neg hk]at h3;cases h3
theorem TT{τ:Ty}{a:a7}{H:Nat→Option aR}{K:fL α}(h:Gc τ a H K=some r): ∃v rd ups,K v rd ups=some r∧ ∀H',Ag rd H H'→ ∀K':fL α,Gc τ a H' K'=K' v rd ups:=by
 unfold Gc at h
 split at h
 ·exact⟨_,_,_,h,fun _ _ _=>rfl⟩
 ·exact⟨_,_,_,h,fun _ _ _=>rfl⟩
 ·exact⟨_,_,_,h,fun _ _ _=>rfl⟩
 ·exact⟨_,_,_,h,fun _ _ _=>rfl⟩
 ·split at h
  ·rename_i aU
   exact⟨_,_,_,h,fun H' hA K'=>by unfold Gc;simp only;rw[hA _ (by simp),aU]⟩
  ·rename_i aU
   exact⟨_,_,_,h,fun H' hA K'=>by unfold Gc;simp only;rw[hA _ (by simp),aU]⟩
  ·cases h
 ·cases h
theorem TU{id:Nat}{e:Ty}{a b:a7}{H:Nat→Option aR}{K:fL α}(h:Gd id e a b H K=some r): ∃v rd ups,K v rd ups=some r∧id∈rd∧ ∀H',Ag rd H H'→ ∀K':fL α,Gd id e a b H' K'=K' v rd ups:=by
 unfold Gd at h
 obtain⟨ys,rd,ups,h1,h2⟩:=ly h
 split at h1
 ·obtain⟨h3,h4⟩:=c9 h1
  refine⟨_,_,_,h3,by simp,fun H' hA K'=> ?_⟩
  unfold Gd
  rw[h2 H' (fun i hi=>hA i (List.mem_cons_of_mem _ hi))]
  exact h4 _
 ·rename_i j
  split at h1
  ·rename_i e' l hj
   obtain⟨z,h3,h4⟩:=cU h1
   obtain⟨h5,h6⟩:=c9 h3
   refine⟨_,_,_,h5,by simp,fun H' hA K'=> ?_⟩
   unfold Gd
   rw[h2 H' (fun i hi=>hA i (List.mem_cons_of_mem _ (List.mem_cons_of_mem _ hi)))]
   simp only
   rw[hA j (by simp),hj]
   simp only
   rw[h4]
   exact h6 _
  ·cases h1
 ·cases h1
theorem Ah{e:Ty}{n:Nat}{H:Nat→Option aR}: ∀{ps:List (Nat×a7)} {l:List e.den} {CT:List Nat} {Ai:fK} {K:List e.den→List Nat→fK→Option α},rE e H n ps l CT Ai K=some r→
  ∃l' rd ups,K l' rd ups=some r∧(∀i∈CT,i∈rd)∧ ∀H',Ag rd H H'→ ∀K':List e.den→List Nat→fK→Option α,rE e H' n ps l CT Ai K'=K' l' rd ups
 |[],l,CT,Ai,K,h=>⟨l,CT,Ai,h,fun _ h=>h,fun _ _ _=>rfl⟩
 |p::ps,l,CT,Ai,K,h=>by
  unfold rE at h
  obtain⟨h1,h2⟩:=c9 h
  obtain⟨y,rd1,Kl,h3,h4⟩:=ly h1
  obtain⟨l',rd,ups,h5,h6,h7⟩:=Ah h3
  refine⟨l',rd,ups,h5,fun i hi=>h6 i (List.mem_append_right _ hi),fun H' hA K'=> ?_⟩
  unfold rE
  rw[h2,h4 H' (fun i hi=>hA i (h6 i (List.mem_append_left _ hi)))]
  exact h7 H' hA K'
theorem CU{τ:Ty}{H:Nat→Option aR}: ∀{ps:List (Nat×a7)} {x:τ.den} {CT:List Nat} {Ai:fK} {K:τ.den→List Nat→fK→Option α},p5 τ H ps x CT Ai K=some r→
  ∃x' rd ups,K x' rd ups=some r∧(∀i∈CT,i∈rd)∧ ∀H',Ag rd H H'→ ∀K':τ.den→List Nat→fK→Option α,p5 τ H' ps x CT Ai K'=K' x' rd ups
 |[],x,CT,Ai,K,h=>⟨x,CT,Ai,h,fun _ h=>h,fun _ _ _=>rfl⟩
 |p::ps,x,CT,Ai,K,h=>by
  unfold p5 at h
  obtain⟨υ,z,h1,h2⟩:=sN h
  obtain⟨y,rd1,Kl,h3,h4⟩:=ly h1
  obtain⟨z',h5,h6⟩:=tW (m:=fun υ' _ k'=>cn υ υ' y k') (fun υ' y' k hk=>cU hk) h3
  obtain⟨x',rd,ups,h7,h8,h9⟩:=CU h5
  refine⟨x',rd,ups,h7,fun i hi=>h8 i (List.mem_append_right _ hi),fun H' hA K'=> ?_⟩
  unfold p5
  rw[h2,h4 H' (fun i hi=>hA i (h8 i (List.mem_append_left _ hi))),h6]
  exact h9 H' hA K'
theorem P6{H:Nat→Option aR}{v:a7}{a:Ty}{k:a.den→List Nat→fK→Option α}(h:xq v H a k=some r):
  ∃x rd ups,k x rd ups=some r∧ ∀H',Ag rd H H'→ ∀k':a.den→List Nat→fK→Option α,xq v H' a k'=k' x rd ups:=by
 unfold xq at h
 split at h
 ·split at h
  ·obtain⟨z,h1,h2⟩:=cU h
   refine⟨_,_,_,h1,fun H' _ k'=> ?_⟩
   unfold xq
   simp only
   rw[h2]
  ·cases h
 ·rename_i k0 pC
  obtain⟨y,rd,ups,h1,h2⟩:=ly h
  refine⟨y,rd,ups,h1,fun H' hA k'=> ?_⟩
  unfold xq
  split
  ·exact(pC _ _ rfl HEq.rfl).elim
  ·exact h2 H' hA _
theorem GI{H:Nat→Option aR}: ∀{τ:Ty} {vs:List a7} {k:τ.den→List Nat→fK→Option α},ny H τ vs k=some r→
  ∃x rd ups,k x rd ups=some r∧ ∀H',Ag rd H H'→ ∀k':τ.den→List Nat→fK→Option α,ny H' τ vs k'=k' x rd ups
 | .unit,[],k,h=>⟨(),[],[],h,fun _ _ _=>rfl⟩
 | .pair a b,v::vs,k,h=>by
  unfold ny at h
  obtain⟨y,rd,ups,h1,h2⟩:=P6 h
  obtain⟨ys,wB,kO,h3,h4⟩:=GI h1
  refine⟨(y,ys),_,_,h3,fun H' hA k'=> ?_⟩
  unfold ny
  rw[h2 H' (fun i hi=>hA i (List.mem_append_right _ hi)),h4 H' (fun i hi=>hA i (List.mem_append_left _ hi))]
 | .unit,_::_,_,h=>by simp[ny]at h
 | .pair _ _,[],_,h=>by simp[ny]at h
 | .int _,_,_,h| .bool,_,_,h| .str,_,_,h| .slice _,_,_,h| .arr _ _,_,_,h=>by simp[ny]at h
theorem Aj: ∀{mR:List a7} {H:Nat→Option aR} {K:List a7→List Nat→fK→Option α},rF H mR K=some r→
  ∃cs rd ups,K cs rd ups=some r∧ ∀H',Ag rd H H'→ ∀K':List a7→List Nat→fK→Option α,rF H' mR K'=K' cs rd ups
 |[],H,K,h=>⟨[],[],[],h,fun _ _ _=>rfl⟩
 |a::mR,H,K,h=>by
  unfold rF at h
  split at h
  ·rename_i id
   split at h
   ·rename_i τ x aU
    obtain⟨cs,rd,ups,h1,h2⟩:=Aj h
    refine⟨_,_,_,h1,fun H' hA K'=> ?_⟩
    unfold rF
    simp only
    rw[hA id (by simp),aU]
    simp only
    rw[h2 (bu H' id (some .gone)) (fun i hi=>by
     by_cases bB:i=id
     ·subst bB;rw[ak,ak]
     ·rw[an _ _ bB,an _ _ bB];exact hA i (List.mem_cons_of_mem _ hi))]
   ·cases h
  ·rename_i pC
   obtain⟨cs,rd,ups,h1,h2⟩:=Aj h
   refine⟨_,_,_,h1,fun H' hA K'=> ?_⟩
   unfold rF
   split
   ·exact absurd rfl (pC _)
   ·rw[h2 H' hA]
end VM
end
section
namespace VM
open Go
variable{α:Type}{r:α}
theorem GJ{m:AM}{a:a7}{H:Nat→Option aR}{k:m.den→(Nat→Option aR)→List Nat→fK→fK→List (Nat×Ty)→Option α}(h:lE m a H k=some r):
  ∃y rd uo uf io,∃g:(Nat→Option aR)→(Nat→Option aR),k y (g H) rd uo uf io=some r∧(∀H' i,H' i=H i→g H' i=g H i)∧
   ∀H',Ag rd H H'→ ∀k':m.den→(Nat→Option aR)→List Nat→fK→fK→List (Nat×Ty)→Option α,lE m a H' k'=k' y (g H') rd uo uf io:=by
 have NN: ∀(d:Nat) (v:Option aR) (H':Nat→Option aR) (i:Nat),H' i=H i→bu H' d v i=bu H d v i:=by
  intro d v H' i hi
  by_cases aU:i=d
  ·subst aU;rw[ak,ak]
  ·rw[an _ _ aU,an _ _ aU,hi]
 unfold lE at h
 split at h
 ·rename_i τ k
  obtain⟨y,rd,ups,h1,h2⟩:=ly h
  cases ups with
  |nil=>
   refine⟨y,rd,[],[],[],fun H=>H,h1,fun _ _ h=>h,fun H' hA k'=> ?_⟩
   unfold lE;simp only;rw[h2 H' hA]
  |cons u rest=>
   refine⟨y,rd,[],u::rest,[],fun H=>bu H u.1 u.2,h1,fun H' i hi=>NN _ _ H' i hi,fun H' hA k'=> ?_⟩
   unfold lE;simp only;rw[h2 H' hA]
 ·rename_i e k
  split at h
  ·exact⟨[],[],[],[],[],fun H=>H,h,fun _ _ h=>h,fun _ _ _=>rfl⟩
  ·rename_i id
   split at h
   ·rename_i e' l aU
    obtain⟨z,h1,h2⟩:=cU h
    refine⟨z,[id],_,_,_,fun H=>bu H id (some .gone),h1,fun H' i hi=>NN _ _ H' i hi,fun H' hA k'=> ?_⟩
    unfold lE;simp only;rw[hA id (by simp),aU];simp only;rw[h2]
   ·cases h
  ·cases h
 ·rename_i τ k
  split at h
  ·rename_i id
   split at h
   ·rename_i υ x aU
    obtain⟨z,h1,h2⟩:=cU h
    refine⟨z,[id],_,_,_,fun H=>bu H id (some .gone),h1,fun H' i hi=>NN _ _ H' i hi,fun H' hA k'=> ?_⟩
    unfold lE;simp only;rw[hA id (by simp),aU];simp only;rw[h2]
   ·cases h
  ·cases h
 ·rename_i f τ k
  split at h
  ·rename_i f' cs
   obtain⟨h1,h2⟩:=c9 h
   obtain⟨x,rd,ups,h3,h4⟩:=GI h1
   cases ups with
   |nil=>
    refine⟨x,rd,[],[],[],fun H=>H,h3,fun _ _ h=>h,fun H' hA k'=> ?_⟩
    unfold lE;simp only;rw[h2,h4 H' hA]
   |cons _ _=>cases h3
  ·cases h
 ·cases h
 ·rename_i τ k
  split at h
  ·obtain⟨z,h1,h2⟩:=cU h
   refine⟨z,[],[],[],[],fun H=>H,h1,fun _ _ h=>h,fun H' hA k'=> ?_⟩
   unfold lE;simp only;rw[h2]
  ·cases h
theorem GK: ∀{ms:List AM} {mR:List a7} {H:Nat→Option aR} {CT:List Nat} {uo0 uf0:fK} {io0:List (Nat×Ty)} {K:HP ms→List Nat→fK→fK→List (Nat×Ty)→Option α},pt ms mR H CT uo0 uf0 io0 K=some r→
  ∃x rd uo uf io,K x rd uo uf io=some r∧(∀i∈CT,i∈rd)∧ ∀H',Ag rd H H'→ ∀K':HP ms→List Nat→fK→fK→List (Nat×Ty)→Option α,pt ms mR H' CT uo0 uf0 io0 K'=K' x rd uo uf io
 |[],[],H,CT,uo0,uf0,io0,K,h=>⟨(),_,_,_,_,h,fun _ h=>h,fun _ _ _=>rfl⟩
 |[m],[a],H,CT,uo0,uf0,io0,K,h=>by
  obtain⟨y,rd,uo,uf,io,g,h1,h2,h3⟩:=GJ (h:lE m a H _=some r)
  exact⟨y,_,_,_,_,h1,fun i hi=>List.mem_append_right _ hi,fun H' hA K'=>h3 H' (fun i hi=>hA i (List.mem_append_left _ hi)) _⟩
 |m::n::ms,a::mR,H,CT,uo0,uf0,io0,K,h=>by
  obtain⟨y,rd,uo,uf,io,g,h1,h2,h3⟩:=GJ (h:lE m a H _=some r)
  obtain⟨ys,wB,FU,FV,BS,h4,h5,h6⟩:=GK (ms:=n::ms) h1
  refine⟨(y,ys),wB,FU,FV,BS,h4,fun i hi=>h5 i (List.mem_append_right _ hi),fun H' hA K'=> ?_⟩
  refine(h3 H' (fun i hi=>hA i (h5 i (List.mem_append_left _ hi))) _).trans ?_
  exact h6 (g H') (fun i hi=>h2 H' i (hA i hi)) _
 |[],_::_,_,_,_,_,_,_,h=>by simp[pt]at h
 |[_],[],_,_,_,_,_,_,h=>by simp[pt]at h
 |[_],_::_::_,_,_,_,_,_,_,h=>by simp[pt]at h
 |_::_::_,[],_,_,_,_,_,_,h=>by simp[pt]at h
theorem P7{id i:Nat}: ∀{n:Nat},i∈Gf id n↔id≤i∧i<id+n
 |0=>by simp[Gf]
 |n+1=>by simp only[Gf,List.mem_cons,P7];omega
theorem tD{H H':Nat→Option aR}{id:Nat}: ∀{n:Nat},(∀i∈Gf id n,H' i=H i)→p6 H' id n=p6 H id n
 |0,_=>rfl
 |n+1,h=>by
  unfold p6
  rw[h (id+n) (by simp[Gf]),tD fun i hi=>h i (by simp[Gf,hi])]
theorem P8{E:Env}{f id:Nat}{mR:List a7}{H:Nat→Option aR}{K:fL α}(h:xt E f mR id H K=some r): ∃v rd ups,K v rd ups=some r∧ ∀H',Ag rd H H'→ ∀K':fL α,xt E f mR id H' K'=K' v rd ups:=by
 unfold xt at h
 split at h
 ·cases h
 ·rename_i S hS
  obtain⟨x,rd,uo,uf,io,h1,_,h2⟩:=GK h
  obtain⟨y,hy,h3⟩:=Option.bind_eq_some_iff.1 h1
  obtain⟨h4,h5⟩:=bM h3
  refine⟨_,_,_,h5,fun H' hA K'=> ?_⟩
  unfold xt
  rw[hS]
  simp only
  rw[h2 H' (fun i hi=>hA i (List.mem_append_right _ (List.mem_append_right _ hi))),hy]
  simp only[Option.bind_some]
  rw[tD (fun i hi=>hA i (List.mem_append_left _ hi)),h4]
  rfl
theorem NO{t:Ty}{z:Bool}{a:a7}{lo hi mx:Option a7}{H:Nat→Option aR}{K:fL α}(h:nA t z a lo hi mx H K=some r): ∃v rd ups,K v rd ups=some r∧ ∀H',Ag rd H H'→ ∀K':fL α,nA t z a lo hi mx H' K'=K' v rd ups:=by
 unfold nA at h
 split at h
 ·obtain⟨h1,e1⟩:=c9 h
  obtain⟨l,h2,e2⟩:=qf h1
  obtain⟨m,h3,e3⟩:=qf h2
  obtain⟨h4,e4⟩:=c9 h3
  exact⟨_,_,_,h4,fun H' _ K'=>by unfold nA;simp only;rw[e1,e2,e3,e4]⟩
 ·cases z
  ·obtain⟨h1,e1⟩:=c9 (h:cond mx.isNone _ none=some r)
   obtain⟨l,h2,e2⟩:=qf h1
   obtain⟨m,h3,e3⟩:=qf h2
   obtain⟨h4,e4⟩:=c9 h3
   exact⟨_,_,_,h4,fun H' _ K'=>by unfold nA;simp only[cond_false];rw[e1,e2,e3,e4]⟩
  ·exact⟨_,_,_,h,fun H' _ K'=>by unfold nA;rfl⟩
 ·rename_i e gk
  obtain⟨y,rd,ups,h1,e1⟩:=ly h
  cases z
  ·obtain⟨h2,e2⟩:=c9 (h1:cond (mx.isNone||hi.isSome) _ none=some r)
   obtain⟨l,h3,e3⟩:=qf h2
   obtain⟨m,h4,e4⟩:=qf h3
   obtain⟨n,h5,e5⟩:=qf h4
   obtain⟨h6,e6⟩:=c9 h5
   refine⟨_,_,_,h6,fun H' hA K'=> ?_⟩
   unfold nA
   simp only
   rw[e1 H' hA]
   simp only[cond_false]
   rw[e2,e3,e4,e5,e6]
  ·refine⟨_,_,_,(h1:K .emp rd []=some r),fun H' hA K'=> ?_⟩
   unfold nA
   simp only
   rw[e1 H' hA]
   rfl
 ·cases h
theorem Ch{τ:Ty}{a i:a7}{H:Nat→Option aR}{K:fL α}(h:eu τ a i H K=some r): ∃v rd ups,K v rd ups=some r∧ ∀H',Ag rd H H'→ ∀K':fL α,eu τ a i H' K'=K' v rd ups:=by
 unfold eu at h
 obtain⟨k,n,h,e0⟩:=oP h
 split at h
 ·split at h
  ·obtain⟨z,h1,e1⟩:=cU h
   obtain⟨h2,e2⟩:=c9 h1
   exact⟨_,_,_,h2,fun H' _ K'=>by unfold eu;rw[e0];simp only;rw[e1,e2]⟩
  ·split at h
   ·rename_i aU
    obtain⟨h1,e1⟩:=gD h
    obtain⟨h2,e2⟩:=c9 h1
    exact⟨_,_,_,h2,fun H' hA K'=>by unfold eu;rw[e0];simp only;rw[hA _ (by simp),aU];simp only;rw[e1,e2]⟩
   ·rename_i aU
    obtain⟨h1,e1⟩:=gD h
    obtain⟨h2,e2⟩:=c9 h1
    exact⟨_,_,_,h2,fun H' hA K'=>by unfold eu;rw[e0];simp only;rw[hA _ (by simp),aU];simp only;rw[e1,e2]⟩
   ·cases h
  ·cases h
 ·split at h
  ·obtain⟨υ,h1,e1⟩:=wK h
   obtain⟨h2,e2⟩:=gD h1
   obtain⟨h3,e3⟩:=c9 h2
   exact⟨_,_,_,h3,fun H' hA K'=>by unfold eu;rw[e0];simp only;rw[e1 H' (hA _ (by simp)),e2,e3]⟩
  ·obtain⟨z,h1,e1⟩:=cU h
   obtain⟨h2,e2⟩:=c9 h1
   exact⟨_,_,_,h2,fun H' _ K'=>by unfold eu;rw[e0];simp only;rw[e1,e2]⟩
  ·cases h
 ·cases h
theorem NP{τ:Ty}{a i:a7}{K:a7→Option α}(h:rG τ a i K=some r): ∃v,K v=some r∧ ∀K':a7→Option α,rG τ a i K'=K' v:=by
 unfold rG at h
 obtain⟨k,n,h,e0⟩:=oP h
 split at h
 ·obtain⟨z,h1,e1⟩:=cU h
  obtain⟨h2,e2⟩:=c9 h1
  exact⟨_,h2,fun K'=>by unfold rG;rw[e0];simp only;rw[e1,e2]⟩
 ·obtain⟨h2,e2⟩:=c9 h
  exact⟨_,h2,fun K'=>by unfold rG;rw[e0];simp only;rw[e2]⟩
 ·cases h
theorem P9{a:a7}{H:Nat→Option aR}{K:(υ:Ty)→υ.den→List Nat→Option α}(h:ib a H K=some r): ∃υ y rd,K υ y rd=some r∧ ∀H',Ag rd H H'→ ∀K':(υ:Ty)→υ.den→List Nat→Option α,ib a H' K'=K' υ y rd:=by
 unfold ib at h
 split at h
 ·exact⟨_,_,_,h,fun _ _ _=>rfl⟩
 ·split at h
  ·rename_i aU
   obtain⟨υ,y,h1,e1⟩:=eS h
   exact⟨_,_,_,h1,fun H' hA K'=>by unfold ib;simp only;rw[hA _ (by simp),aU];simp only;rw[e1]⟩
  ·rename_i aU
   split at h
   ·obtain⟨υ,y,h1,e1⟩:=eS h
    exact⟨_,_,_,h1,fun H' hA K'=>by unfold ib;simp only;rw[hA _ (by simp),aU];simp only;rw[e1]⟩
   ·cases h
  ·rename_i aU
   split at h
   ·obtain⟨υ,y,h1,e1⟩:=eS h
    exact⟨_,_,_,h1,fun H' hA K'=>by unfold ib;simp only;rw[hA _ (by simp),aU];simp only;rw[e1]⟩
   ·cases h
  ·cases h
 ·cases h
theorem NQ{τ:Ty}{a v:a7}{H:Nat→Option aR}{K:fL α}(h:iV τ a v H K=some r): ∃u rd ups,K u rd ups=some r∧ ∀H',Ag rd H H'→ ∀K':fL α,iV τ a v H' K'=K' u rd ups:=by
 unfold iV at h
 split at h
 ·obtain⟨y,rd,ups,h1,e1⟩:=ly h
  split at h1
  ·rename_i aU
   obtain⟨z,h2,e2⟩:=lx h1
   exact⟨_,_,_,h2,fun H' hA K'=>by
    unfold iV;simp only
    rw[e1 H' (fun i hi=>hA i (List.mem_cons_of_mem _ hi))]
    rw[hA _ (by simp),aU];simp only;rw[e2]⟩
  ·rename_i aU
   split at h1
   ·obtain⟨h2,e2⟩:=pG h1
    obtain⟨z,h3,e3⟩:=lx h2
    exact⟨_,_,_,h3,fun H' hA K'=>by
     unfold iV;simp only
     rw[e1 H' (fun i hi=>hA i (List.mem_cons_of_mem _ hi))]
     rw[hA _ (by simp),aU];simp only;rw[e2,e3]⟩
   ·cases h1
  ·cases h1
 ·cases h
theorem TV{j:Nat}{q:List Step}{τ:Ty}{x:τ.den}{H:Nat→Option aR}{k:τ.den→fK→Option α}(h:yz j q τ x H k=some r): ∃z ups,k z ups=some r∧ ∀H',H' j=H j→ ∀k':τ.den→fK→Option α,yz j q τ x H' k'=k' z ups:=by
 unfold yz at h
 split at h
 ·rename_i hj
  obtain⟨z,h1,e1⟩:=lx h
  exact⟨_,_,h1,fun H' hA k'=>by unfold yz;rw[hA,hj];simp only;rw[e1]⟩
 ·rename_i hj
  obtain⟨z,h1,e1⟩:=lx h
  exact⟨_,_,h1,fun H' hA k'=>by unfold yz;rw[hA,hj];simp only;rw[e1]⟩
 ·cases h
abbrev Pts(F:(Nat→Option aR)→fL α→Option α)(H:Nat→Option aR)(K:fL α)(r:α):Prop:=
 ∃v rd ups,K v rd ups=some r∧ ∀H',Ag rd H H'→ ∀K':fL α,F H' K'=K' v rd ups
theorem Qa{τ:Ty}{a:a7}{H:Nat→Option aR}{K:fL α}(h:(ib a H fun υ y rd=>cn υ τ y fun z=>K (.val τ z) rd [])=some r):
  Pts (fun H K=>ib a H fun υ y rd=>cn υ τ y fun z=>K (.val τ z) rd []) H K r:=by
 obtain⟨υ,y,rd,h1,e1⟩:=P9 h
 obtain⟨z,h2,e2⟩:=cU h1
 exact⟨_,_,_,h2,fun H' hA K'=>by simp only;rw[e1 H' hA,e2]⟩
theorem aha{id:Nat}{p:List Step}{H:Nat→Option aR}{K:(υ:Ty)→υ.den→List Nat→Option α}(h:ib (.fR id p) H K=some r): ∃υ y,K υ y [id]=some r:=by
 unfold ib at h
 simp only at h
 split at h
 ·obtain⟨υ,y,h1,_⟩:=eS h;exact⟨υ,y,h1⟩
 ·split at h
  ·obtain⟨υ,y,h1,_⟩:=eS h;exact⟨υ,y,h1⟩
  ·cases h
 ·split at h
  ·obtain⟨υ,y,h1,_⟩:=eS h;exact⟨υ,y,h1⟩
  ·cases h
 ·cases h
theorem Qb{τ:Ty}{id:Nat}{p:List Step}{H:Nat→Option aR}{K:fL α}(h:(ib (.fR id p) H fun υ y rd=>cn υ τ y fun z=>K (.val τ z) rd [])=some r):
  ∃z,K (.val τ z) [id] []=some r∧ ∀H',H' id=H id→ ∀K':fL α,(ib (.fR id p) H' fun υ y rd=>cn υ τ y fun z=>K' (.val τ z) rd [])=K' (.val τ z) [id] []:=by
 unfold ib at h
 simp only at h
 split at h
 ·rename_i aU
  obtain⟨υ,y,h1,e1⟩:=eS h
  obtain⟨z,h2,e2⟩:=cU h1
  exact⟨_,h2,fun H' hA K'=>by unfold ib;simp only;rw[hA,aU];simp only;rw[e1,e2]⟩
 ·rename_i aU
  split at h
  ·obtain⟨υ,y,h1,e1⟩:=eS h
   obtain⟨z,h2,e2⟩:=cU h1
   exact⟨_,h2,fun H' hA K'=>by unfold ib;simp only;rw[hA,aU];simp only;rw[e1,e2]⟩
  ·cases h
 ·rename_i aU
  split at h
  ·obtain⟨υ,y,h1,e1⟩:=eS h
   obtain⟨z,h2,e2⟩:=cU h1
   exact⟨_,h2,fun H' hA K'=>by unfold ib;simp only;rw[hA,aU];simp only;rw[e1,e2]⟩
  ·cases h
 ·cases h
theorem Qc{τ:Ty}{a:a7}{H:Nat→Option aR}{K:fL α}(h:q3 τ a H K=some r):Pts (q3 τ a) H K r:=by
 unfold q3 at h
 simp only at h
 split at h
 ·rename_i id p
  split at h
  ·rename_i υ x q j aU
   cases hp:F7 p q
   ·cases BT:s7 p q
    ·rw[hp,BT]at h
     simp only[cond_false]at h
     obtain⟨υ',y,h1,e1⟩:=eS h
     obtain⟨z,h2,e2⟩:=cU h1
     exact⟨_,_,_,h2,fun H' hA K'=>by
      unfold q3;simp only;rw[hA id (by simp),aU];simp only
      rw[hp,BT];simp only[cond_false];rw[e1,e2]⟩
    ·rw[hp,BT]at h
     simp only[cond_false,cond_true]at h
     obtain⟨z,ups,h1,e1⟩:=TV h
     obtain⟨υ',y,h2,e2⟩:=eS h1
     obtain⟨z',h3,e3⟩:=cU h2
     exact⟨_,_,_,h3,fun H' hA K'=>by
      unfold q3;simp only;rw[hA id (by simp),aU];simp only
      rw[hp,BT];simp only[cond_false,cond_true];rw[e1 H' (hA j (by simp)),e2,e3]⟩
   ·rw[hp]at h
    simp only[cond_true]at h
    obtain⟨h1,e1⟩:=c9 h
    exact⟨_,_,_,h1,fun H' hA K'=>by
     unfold q3;simp only;rw[hA id (by simp),aU];simp only
     rw[hp];simp only[cond_true];rw[e1]⟩
  ·rename_i pC
   obtain⟨z,h1,e1⟩:=Qb h
   refine⟨_,_,_,h1,fun H' hA K'=> ?_⟩
   unfold q3;simp only;rw[hA id (by simp)]
   split
   ·rename_i aU;exact absurd aU (pC _ _ _ _)
   ·exact e1 H' (hA id (by simp)) K'
 ·rename_i pC
  obtain⟨v,rd,ups,h1,e1⟩:=Qa h
  refine⟨v,rd,ups,h1,fun H' hA K'=> ?_⟩
  have:q3 τ a H' K'=ib a H' fun υ y rd=>cn υ τ y fun z=>K' (.val τ z) rd []:=by
   unfold q3
   cases a<;>first|rfl|exact absurd rfl (pC _ _)
  rw[this]
  exact e1 H' hA K'
theorem GM{τ:Ty}{id k:Nat}{e:Ty}{q:List Step}{υ:Ty}{x:υ.den}{H:Nat→Option aR}{K:fL α}(h:xu τ id k e q υ x H K=some r):
  ∃v ups,K v [id,k] ups=some r∧ ∀H',H' k=H k→ ∀K':fL α,xu τ id k e q υ x H' K'=K' v [id,k] ups:=by
 unfold xu at h
 split at h
 ·rename_i aU
  obtain⟨h1,e1⟩:=gD h
  obtain⟨h2,e2⟩:=gD h1
  obtain⟨z,h3,e3⟩:=lx h2
  exact⟨_,_,h3,fun H' hA K'=>by unfold xu;rw[hA,aU];simp only;rw[e1,e2,e3]⟩
 ·cases h
theorem wL{τ:Ty}{id:Nat}{p:List Step}{v:a7}{H:Nat→Option aR}{K:fL α}(h:iV τ (.fR id p) v H K=some r):
  ∃u rd ups,id∈rd∧K u rd ups=some r∧ ∀H',Ag rd H H'→ ∀K':fL α,iV τ (.fR id p) v H' K'=K' u rd ups:=by
 unfold iV at h
 simp only at h
 obtain⟨y,rd,ups,h1,e1⟩:=ly h
 split at h1
 ·rename_i aU
  obtain⟨z,h2,e2⟩:=lx h1
  exact⟨_,_,_,by simp,h2,fun H' hA K'=>by
   unfold iV;simp only
   rw[e1 H' (fun i hi=>hA i (List.mem_cons_of_mem _ hi))]
   rw[hA _ (by simp),aU];simp only;rw[e2]⟩
 ·rename_i aU
  split at h1
  ·obtain⟨h2,e2⟩:=pG h1
   obtain⟨z,h3,e3⟩:=lx h2
   exact⟨_,_,_,by simp,h3,fun H' hA K'=>by
    unfold iV;simp only
    rw[e1 H' (fun i hi=>hA i (List.mem_cons_of_mem _ hi))]
    rw[hA _ (by simp),aU];simp only;rw[e2,e3]⟩
  ·cases h1
 ·cases h1
theorem wM{E:Env}{τ:Ty}{a v:a7}{H:Nat→Option aR}{K:fL α}(h:gz E τ a v H K=some r):
  ∃u rd ups,K u rd ups=some r∧ ∀H',Ag rd H H'→ ∀K':fL α,gz E τ a v H' K'=K' u rd ups:=by
 have h0:=h
 unfold gz at h
 simp only at h
 split at h
 ·rename_i id p
  split at h
  ·rename_i υ x aU
   split at h
   ·rename_i q e k pB
    cases hp:F7 p q
    ·rw[hp]at h
     simp only[cond_false]at h
     obtain⟨u,rd,ups,hi,h1,e1⟩:=wL h
     refine⟨u,rd,ups,h1,fun H' hA K'=> ?_⟩
     unfold gz;simp only;rw[hA id hi,aU];simp only;rw[pB];simp only;rw[hp];simp only[cond_false]
     exact e1 H' hA K'
    ·rw[hp]at h
     simp only[cond_true]at h
     obtain⟨u,ups,h1,e1⟩:=GM h
     refine⟨u,_,ups,h1,fun H' hA K'=> ?_⟩
     unfold gz;simp only;rw[hA id (by simp),aU];simp only;rw[pB];simp only;rw[hp];simp only[cond_true]
     exact e1 H' (hA k (by simp)) K'
   ·rename_i pC
    obtain⟨u,rd,ups,hi,h1,e1⟩:=wL h
    refine⟨u,rd,ups,h1,fun H' hA K'=> ?_⟩
    unfold gz;simp only;rw[hA id hi,aU];simp only
    exact e1 H' hA K'
  ·rename_i υ x q j aU
   have u6:(iT true v H τ fun y rd ups=>rj τ y p υ x fun z=>K .any (id::rd) (ups++[(id,some (cond (s7 p q) (.obj υ z) (.ed υ z q j)))]))=some r→
     ∃u rd ups,id∈rd∧K u rd ups=some r∧ ∀H',Ag rd H H'→ ∀K':fL α,(iT true v H' τ fun y rd ups=>rj τ y p υ x fun z=>K' .any (id::rd) (ups++[(id,some (cond (s7 p q) (.obj υ z) (.ed υ z q j)))]))=K' u rd ups:=by
    intro h
    obtain⟨y,rd,ups,h1,e1⟩:=ly h
    obtain⟨z,h2,e2⟩:=lx h1
    exact⟨_,_,_,by simp,h2,fun H' hA K'=>by rw[e1 H' (fun i hi=>hA i (List.mem_cons_of_mem _ hi)),e2]⟩
   split at h
   ·rename_i q' e k pB
    cases hp:(F7 p q&&F7 q q')
    ·rw[hp]at h
     simp only[cond_false]at h
     obtain⟨u,rd,ups,hi,h1,e1⟩:=u6 h
     refine⟨u,rd,ups,h1,fun H' hA K'=> ?_⟩
     unfold gz;simp only;rw[hA id hi,aU];simp only;rw[pB];simp only;rw[hp];simp only[cond_false]
     exact e1 H' hA K'
    ·rw[hp]at h
     simp only[cond_true]at h
     obtain⟨u,ups,h1,e1⟩:=GM h
     refine⟨u,_,ups,h1,fun H' hA K'=> ?_⟩
     unfold gz;simp only;rw[hA id (by simp),aU];simp only;rw[pB];simp only;rw[hp];simp only[cond_true]
     exact e1 H' (hA k (by simp)) K'
   ·rename_i pC
    obtain⟨u,rd,ups,hi,h1,e1⟩:=u6 h
    refine⟨u,rd,ups,h1,fun H' hA K'=> ?_⟩
    unfold gz;simp only;rw[hA id hi,aU];simp only
    exact e1 H' hA K'
  ·rename_i am4 am5
   obtain⟨u,rd,ups,hi,h1,e1⟩:=wL h
   refine⟨u,rd,ups,h1,fun H' hA K'=> ?_⟩
   unfold gz;simp only;rw[hA id hi]
   split
   ·rename_i aU;exact absurd aU (am4 _ _)
   ·rename_i aU;exact absurd aU (am5 _ _ _ _)
   ·exact e1 H' hA K'
 ·rename_i pC
  obtain⟨u,rd,ups,h1,e1⟩:=NQ h
  refine⟨u,rd,ups,h1,fun H' hA K'=> ?_⟩
  have:gz E τ a v H' K'=iV τ a v H' K':=by
   unfold gz
   cases a<;>first|rfl|exact absurd rfl (pC _ _)
  rw[this]
  exact e1 H' hA K'
theorem NR{E:Env}{τ:Ty}{a v:a7}{H:Nat→Option aR}{K:fL α}(h:pa E τ a v H K=some r):
  ∃u rd ups,K u rd ups=some r∧ ∀H',Ag rd H H'→ ∀K':fL α,pa E τ a v H' K'=K' u rd ups:=by
 unfold pa at h
 split at h
 ·rename_i id υ y n
  split at h
  ·rename_i m e pB
   cases zU:Nat.beq m n
   ·rw[zU]at h
    simp only[cond_false]at h
    obtain⟨u,rd,ups,h1,e1⟩:=wM h
    exact⟨u,rd,ups,h1,fun H' hA K'=>by unfold pa;simp only;rw[pB];simp only;rw[zU];simp only[cond_false];exact e1 H' hA K'⟩
   ·rw[zU]at h
    simp only[cond_true]at h
    obtain⟨h1,e1⟩:=gD h
    obtain⟨υ',h2,e2⟩:=wK h1
    obtain⟨h3,e3⟩:=gD h2
    obtain⟨h4,e4⟩:=sO h3
    exact⟨_,_,_,h4,fun H' hA K'=>by unfold pa;simp only;rw[pB];simp only;rw[zU];simp only[cond_true];rw[e1,e2 H' (hA _ (by simp)),e3,e4 H' (hA _ (by simp))]⟩
  ·rename_i pC
   obtain⟨u,rd,ups,h1,e1⟩:=wM h
   refine⟨u,rd,ups,h1,fun H' hA K'=> ?_⟩
   unfold pa;simp only
   exact e1 H' hA K'
 ·rename_i pC
  obtain⟨u,rd,ups,h1,e1⟩:=wM h
  refine⟨u,rd,ups,h1,fun H' hA K'=> ?_⟩
  unfold pa
  split
  ·exact absurd rfl (pC _ _ _ _ rfl)
  ·exact e1 H' hA K'
theorem Mp{H:Nat→Option aR}{id:Nat}{τ:Ty}{x:τ.den}{q:List Step}{e:Ty}{K:fL α}(h:yA H id τ x q e K=some r):Pts (fun H K=>yA H id τ x q e K) H K r:=by
 obtain⟨h1,h2,h3⟩:=zT h
 exact⟨_,_,_,h3,fun H' hA K'=>by unfold yA nx;simp only;rw[hA id (by simp),h1,hA (id+1) (by simp),h2]⟩
theorem abH{E:Env}{o:Oper}{ρ:Operand→a7}{H:Nat→Option aR}{K:fL α}(h:pk E o ρ H K=some r):
  ∃v rd ups,K v rd ups=some r∧ ∀ρ' H',(∀x∈o.op.operands,ρ' x=ρ x)→Ag rd H H'→ ∀K':fL α,pk E o ρ' H' K'=K' v rd ups:=by
 obtain⟨dst,op,type,pos,after,guard⟩:=o
 unfold pk at h
 simp only at h
 have TW: ∀{ρ':Operand→a7} (xs:List Operand),(∀x∈xs,ρ' x=ρ x)→xs.map ρ'=xs.map ρ:=fun xs hx=>List.map_congr_left hx
 have Ks: ∀{ρ':Operand→a7} (ps:Array (Nat×Operand)),(∀x∈ps.map (·.2),ρ' x=ρ x)→partsOf ρ' ps=partsOf ρ ps:=fun ps hp=>by
  unfold partsOf
  exact List.map_congr_left fun p hm=>by rw[hp p.2 (Array.mem_map.2 ⟨p,by simpa using hm,rfl⟩)]
 have abI: ∀{ρ':Operand→a7} (x:Option Operand),(∀y∈x,ρ' y=ρ y)→x.map ρ'=x.map ρ:=fun x hx=>by
  cases x with
  |none=>rfl
  |some x=>simp[hx x rfl]
 split at h
 ·
  rename_i x
  exact⟨_,_,_,h,fun ρ' H' hx _ K'=>by unfold pk;simp only;rw[hx x (by simp[Op.operands])]⟩
 ·rename_i x
  exact⟨_,_,_,h,fun ρ' H' hx _ K'=>by unfold pk;simp only;rw[hx x (by simp[Op.operands])]⟩
 ·rename_i x y z
  split at h
  ·rename_i t hx
   cases t
   ·exact⟨_,_,_,(h:K (ρ z) [] []=some r),fun ρ' H' ry _ K'=>by unfold pk;simp only;rw[ry x (by simp[Op.operands]),hx,ry z (by simp[Op.operands])];rfl⟩
   ·exact⟨_,_,_,(h:K (ρ y) [] []=some r),fun ρ' H' ry _ K'=>by unfold pk;simp only;rw[ry x (by simp[Op.operands]),hx,ry y (by simp[Op.operands])];rfl⟩
  ·cases h
 ·
  split at h
  ·rename_i τ ht
   split at h
   ·rename_i q e pB
    obtain⟨v,rd,ups,h1,e1⟩:=Mp h
    exact⟨_,_,_,h1,fun ρ' H' hx hA K'=>by unfold pk;simp only;rw[ht];simp only;rw[pB];exact e1 H' hA K'⟩
   ·rename_i pB
    obtain⟨h1,e1⟩:=sO h
    exact⟨_,_,_,h1,fun ρ' H' hx hA K'=>by unfold pk;simp only;rw[ht];simp only;rw[pB];simp only;rw[e1 H' (hA _ (by simp))]⟩
  ·cases h
 ·
  rename_i t x
  split at h
  ·rename_i τ ht
   have hold:(iT true (ρ x) H τ fun y rd ups=>nx H (16*dst.getD 0) (.obj τ y) (K (.fR (16*dst.getD 0) []) (16*dst.getD 0::rd) (ups++[(16*dst.getD 0,some (.obj τ y))])))=some r→
     Pts (fun H K=>iT true (ρ x) H τ fun y rd ups=>nx H (16*dst.getD 0) (.obj τ y) (K (.fR (16*dst.getD 0) []) (16*dst.getD 0::rd) (ups++[(16*dst.getD 0,some (.obj τ y))]))) H K r:=by
    intro h
    obtain⟨y,rd,ups,h1,e1⟩:=ly h
    obtain⟨h2,e2⟩:=sO h1
    exact⟨_,_,_,h2,fun H' hA K'=>by simp only;rw[e1 H' (fun i hi=>hA i (List.mem_cons_of_mem _ hi)),e2 H' (hA _ (by simp))]⟩
   split at h
   ·rename_i m e υ y n pB Qd
    cases zU:Nat.beq m n
    ·rw[zU]at h
     obtain⟨v,rd,ups,h1,e1⟩:=hold h
     refine⟨_,_,_,h1,fun ρ' H' hx hA K'=> ?_⟩
     unfold pk;simp only;rw[ht];simp only
     rw[hx x (by simp[Op.operands]),pB,Qd];simp only
     rw[zU]
     have:=e1 H' hA K'
     rw[Qd]at this
     exact this
    ·rw[zU]at h
     simp only[cond_true]at h
     obtain⟨z,h1,e1⟩:=cU h
     obtain⟨v,rd,ups,h2,e2⟩:=Mp h1
     refine⟨_,_,_,h2,fun ρ' H' hx hA K'=> ?_⟩
     unfold pk;simp only;rw[ht];simp only
     rw[hx x (by simp[Op.operands]),pB,Qd];simp only
     rw[zU];simp only[cond_true]
     rw[e1]
     exact e2 H' hA K'
   ·rename_i pC
    obtain⟨v,rd,ups,h1,e1⟩:=hold h
    refine⟨_,_,_,h1,fun ρ' H' hx hA K'=> ?_⟩
    unfold pk;simp only;rw[ht];simp only
    rw[hx x (by simp[Op.operands])]
    split
    ·rename_i pB Qd;exact absurd Qd (pC _ _ _ _ _ pB)
    ·exact e1 H' hA K'
  ·cases h
 ·
  rename_i t ps
  split at h
  ·rename_i n e ht
   obtain⟨l,rd,ups,h1,_,e1⟩:=Ah h
   exact⟨_,_,_,h1,fun ρ' H' hx hA K'=>by unfold pk;simp only;rw[ht];simp only;rw[Ks ps (fun x ry=>hx x (by simpa [Op.operands]using ry)),e1 H' hA]⟩
  ·rename_i τ ZY ht
   obtain⟨h0,e0⟩:=c9 h
   obtain⟨l,rd,ups,h1,_,e1⟩:=CU h0
   refine⟨_,_,_,h1,fun ρ' H' hx hA K'=> ?_⟩
   unfold pk;simp only;rw[ht]
   have: ∀{β:Type} (A:Nat→Ty→β) (B:Ty→β),(match some τ with|some (.arr n e)=>A n e|some τ=>B τ|none=>B τ)=B τ:=by
    intro β A B
    cases τ<;>first|rfl|exact absurd rfl (ZY _ _)
   cases τ with
   |arr n e=>exact absurd rfl (ZY n e)
   |_=>
    simp only
    rw[Ks ps (fun x ry=>hx x (by simpa [Op.operands]using ry)),e0,e1 H' hA]
  ·cases h
 ·
  rename_i t n ps
  split at h
  ·rename_i e ht
   obtain⟨h0,e0⟩:=c9 h
   obtain⟨h1,e1⟩:=sO h0
   obtain⟨l,rd,ups,h2,_,e2⟩:=Ah h1
   exact⟨_,_,_,h2,fun ρ' H' hx hA K'=>by
    unfold pk;simp only;rw[ht];simp only
    rw[e0,e1 H' (hA _ (by simp)),Ks ps (fun x ry=>hx x (by simpa [Op.operands]using ry)),e2 H' (fun i hi=>hA i (List.mem_cons_of_mem _ hi))]⟩
  ·cases h
 ·
  rename_i t x
  split at h
  ·rename_i τ ht
   obtain⟨v,rd,ups,h1,e1⟩:=Qc h
   exact⟨_,_,_,h1,fun ρ' H' hx hA K'=>by unfold pk;simp only;rw[ht];simp only;rw[hx x (by simp[Op.operands]),e1 H' hA]⟩
  ·cases h
 ·
  rename_i t x y
  split at h
  ·rename_i τ ht
   obtain⟨u,rd,ups,h1,e1⟩:=NR h
   exact⟨_,_,_,h1,fun ρ' H' hx hA K'=>by unfold pk;simp only;rw[ht];simp only;rw[hx x (by simp[Op.operands]),hx y (by simp[Op.operands]),e1 H' hA]⟩
  ·cases h
 ·
  rename_i x
  split at h
  ·rename_i id p hx
   exact⟨_,_,_,h,fun ρ' H' ry _ K'=>by unfold pk;simp only;rw[ry x (by simp[Op.operands]),hx]⟩
  ·rename_i τ z hx
   exact⟨_,_,_,h,fun ρ' H' ry _ K'=>by unfold pk;simp only;rw[ry x (by simp[Op.operands]),hx]⟩
  ·cases h
 ·
  rename_i b t x y t'
  obtain⟨τ,x1,h1,e1⟩:=Mo h
  obtain⟨υ,y1,h2,e2⟩:=Mo h1
  obtain⟨v,h3,e3⟩:=P5 h2
  exact⟨_,_,_,h3,fun ρ' H' hx _ K'=>by unfold pk;simp only;rw[hx x (by simp[Op.operands]),hx y (by simp[Op.operands]),e1,e2,e3]⟩
 ·
  rename_i u t x
  obtain⟨v,h1,e1⟩:=TS h
  exact⟨_,_,_,h1,fun ρ' H' hx _ K'=>by unfold pk;simp only;rw[hx x (by simp[Op.operands]),e1]⟩
 ·
  rename_i s d x
  split at h
  ·rename_i τ k hs hd
   obtain⟨i,n,h1,e1⟩:=oP h
   exact⟨_,_,_,h1,fun ρ' H' hx _ K'=>by unfold pk;simp only;rw[hs,hd];simp only;rw[hx x (by simp[Op.operands]),e1]⟩
  ·cases h
 ·
  rename_i f first caps
  obtain⟨h1,e1⟩:=c9 h
  obtain⟨cs,rd,ups,h3,e3⟩:=Aj h1
  exact⟨_,_,_,h3,fun ρ' H' hx hA K'=>by unfold pk;simp only;rw[TW caps.toList (fun x ry=>hx x (by simp[Op.operands];exact .inr (by simpa using ry))),e1,e3 H' hA]⟩
 ·
  rename_i t x y
  split at h
  ·rename_i e ht
   obtain⟨i,n,h1,e1⟩:=oP h
   obtain⟨i',n',h2,e2⟩:=oP h1
   obtain⟨h3,e3⟩:=c9 h2
   obtain⟨h4,e4⟩:=sO h3
   exact⟨_,_,_,h4,fun ρ' H' hx hA K'=>by
    unfold pk;simp only;rw[ht];simp only
    rw[hx x (by simp[Op.operands]),e1,hx y (by simp[Op.operands]),e2,e3,e4 H' (hA _ (by simp))]⟩
  ·cases h
 ·
  rename_i t x lo hi mx
  split at h
  ·rename_i τ ht
   obtain⟨v,rd,ups,h1,e1⟩:=NO h
   exact⟨_,_,_,h1,fun ρ' H' hx hA K'=>by
    unfold pk;simp only;rw[ht];simp only
    rw[hx x (by simp[Op.operands]),abI lo (fun y hy=>hx y (by simp at hy;simp[Op.operands,hy])),abI hi (fun y hy=>hx y (by simp at hy;simp[Op.operands,hy])),abI mx (fun y hy=>hx y (by simp at hy;simp[Op.operands,hy])),e1 H' hA]⟩
  ·cases h
 ·
  rename_i t x n
  split at h
  ·rename_i τ ht
   split at h
   ·rename_i id p hx
    obtain⟨υ,h1,e1⟩:=wK h
    obtain⟨h2,e2⟩:=gD h1
    obtain⟨υ',y',h3,e3⟩:=sN h2
    obtain⟨h4,e4⟩:=pG h3
    exact⟨_,_,_,h4,fun ρ' H' ry hA K'=>by
     unfold pk;simp only;rw[ht];simp only
     rw[ry x (by simp[Op.operands]),hx];simp only
     rw[e1 H' (hA _ (by simp)),e2,e3,e4]⟩
   ·rename_i υ z hx
    obtain⟨h2,e2⟩:=gD h
    obtain⟨υ',y',h3,e3⟩:=sN h2
    obtain⟨h4,e4⟩:=pG h3
    exact⟨_,_,_,h4,fun ρ' H' ry hA K'=>by
     unfold pk;simp only;rw[ht];simp only
     rw[ry x (by simp[Op.operands]),hx];simp only
     rw[e2,e3,e4]⟩
   ·cases h
  ·cases h
 ·
  rename_i t x n
  split at h
  ·rename_i τ ht
   split at h
   ·rename_i υ z hx
    obtain⟨h2,e2⟩:=gD h
    obtain⟨υ',y',h3,e3⟩:=sN h2
    exact⟨_,_,_,h3,fun ρ' H' ry hA K'=>by
     unfold pk;simp only;rw[ht];simp only
     rw[ry x (by simp[Op.operands]),hx];simp only
     rw[e2,e3]⟩
   ·cases h
  ·cases h
 ·
  rename_i t x i
  split at h
  ·rename_i τ ht
   obtain⟨v,rd,ups,h1,e1⟩:=Ch h
   exact⟨_,_,_,h1,fun ρ' H' hx hA K'=>by unfold pk;simp only;rw[ht];simp only;rw[hx x (by simp[Op.operands]),hx i (by simp[Op.operands]),e1 H' hA]⟩
  ·cases h
 ·
  rename_i t x i
  split at h
  ·rename_i τ ht
   obtain⟨v,h1,e1⟩:=NP h
   exact⟨_,_,_,h1,fun ρ' H' hx hA K'=>by unfold pk;simp only;rw[ht];simp only;rw[hx x (by simp[Op.operands]),hx i (by simp[Op.operands]),e1]⟩
  ·cases h
 ·
  rename_i x i
  split at h
  ·rename_i vs hx
   split at h
   ·rename_i v hv
    exact⟨_,_,_,h,fun ρ' H' ry hA K'=>by unfold pk;simp only;rw[ry x (by simp[Op.operands]),hx];simp only;rw[hv]⟩
   ·cases h
  ·cases h
 ·
  rename_i cl
  obtain⟨callee,args,ts⟩:=cl
  simp only at h
  have tf: ∀{ρ':Operand→a7},(∀x∈(Op.call {callee,args,argTypes:=ts}).operands,ρ' x=ρ x)→ ∀x∈args.toList,ρ' x=ρ x:=
   fun hx x ry=>hx x (by simp[Op.operands,Call.operands];exact .inr (by simpa using ry))
  split at h
  ·split at h
   ·rename_i x τ ha ht
    obtain⟨v,rd,ups,h1,e1⟩:=TT h
    exact⟨_,_,_,h1,fun ρ' H' hx hA K'=>by unfold pk;simp only;rw[ha,ht];simp only;rw[tf hx x (by rw[ha];simp),e1 H' hA]⟩
   ·cases h
  ·split at h
   ·rename_i x y t t' ha ht
    split at h
    ·rename_i e hte
     obtain⟨h1,e1⟩:=c9 h
     obtain⟨h2,e2⟩:=sO h1
     obtain⟨v,rd,ups,h3,aU,e3⟩:=TU h2
     exact⟨_,_,_,h3,fun ρ' H' hx hA K'=>by
      unfold pk;simp only;rw[ha,ht];simp only;rw[hte];simp only
      rw[e1,e2 H' (hA _ aU),tf hx x (by rw[ha];simp),tf hx y (by rw[ha];simp),e3 H' hA]⟩
    ·cases h
   ·cases h
  ·split at h
   ·rename_i x xs ha
    obtain⟨v,h1,e1⟩:=Kr h
    exact⟨_,_,_,h1,fun ρ' H' hx hA K'=>by
     unfold pk;simp only;rw[ha];simp only
     rw[tf hx x (by rw[ha];simp),TW xs (fun y hy=>tf hx y (by rw[ha];simp[hy])),e1]⟩
   ·cases h
  ·split at h
   ·rename_i x xs ha
    obtain⟨v,h1,e1⟩:=Kr h
    exact⟨_,_,_,h1,fun ρ' H' hx hA K'=>by
     unfold pk;simp only;rw[ha];simp only
     rw[tf hx x (by rw[ha];simp),TW xs (fun y hy=>tf hx y (by rw[ha];simp[hy])),e1]⟩
   ·cases h
  ·rename_i g
   split at h
   ·rename_i f caps hg
    obtain⟨v,rd,ups,h1,e1⟩:=P8 h
    exact⟨_,_,_,h1,fun ρ' H' hx hA K'=>by
     unfold pk;simp only
     rw[hx g (by simp[Op.operands,Call.operands]),hg];simp only
     rw[TW args.toList (tf hx),e1 H' hA]⟩
   ·cases h
  ·cases h
 ·cases h
end VM
end
section
namespace VM
open Go
variable{P:Program}{E:Env}{o:Oper}{a:Act}{w:World}{M:Nat→Prop}{ν:Nat→Value}{σ:St}{c:Ctx}{α:Type}{r:α}{next:Act→World→Prop}{Q:Exit→Act→World→Prop}
structure Out where
 dst:Option Nat
 v:a7
 rd:List Nat
 ups:fK
def Out.app(u:Out)(σ:St):St:=(σ.rB u.ups).ri u.dst u.v
theorem GN(σ:St)(d:Nat)(v:a7):(σ.ri (some d) v).T d=v:=qb σ d v
theorem NS(σ:St){d:Option Nat}{t:Nat}(v:a7)(h:d≠some t):(σ.ri d v).T t=σ.T t:=by
 cases d with
 |none=>rfl
 |some d=>exact vg σ v (fun e=>h (by rw[e]))
theorem abJ(σ:St)(d:Option Nat)(v:a7):(σ.ri d v).H=σ.H:=by cases d<;>rfl
theorem Kt{u:Out}{t:Nat}(h:u.dst=some t)(σ:St):(u.app σ).T t=u.v:=by unfold Out.app;rw[h];exact GN _ _ _
theorem Qe{u:Out}{t:Nat}(h:u.dst≠some t)(σ:St):(u.app σ).T t=σ.T t:=by unfold Out.app;rw[NS _ _ h,Ke]
theorem ahb(u:Out)(σ:St):(u.app σ).H=cc σ.H u.ups:=by unfold Out.app;rw[abJ,Kd]
def Pt(E:Env)(ops:List Oper)(o:Oper)(σ:St)(u:Out)(α:Type):Prop:=
 u.dst=o.dst∧ ∀σ':St,(∀t∈names ops o,σ'.T t=σ.T t)→Ag u.rd σ.H σ'.H→ ∀K':St→List Nat→List Nat→Option α,pv E ops o σ' K'=K' (u.app σ') u.rd (u.ups.map (·.1))
theorem Qf{ops:List Oper}{K:St→List Nat→List Nat→Option α}(h:pv E ops o σ K=some r): ∃u:Out,K (u.app σ) u.rd (u.ups.map (·.1))=some r∧Pt E ops o σ u α:=by
 unfold pv at h
 obtain⟨h,e0⟩:=c9 h
 have am6: ∀σ':St,(∀t∈names ops o,σ'.T t=σ.T t)→ ∀x∈o.op.operands,σ'.ρ x=σ.ρ x:=by
  intro σ' hT x hx
  cases x with
  |tmp t=>
   refine hT t ?_
   unfold names
   refine List.mem_append_left _ (List.mem_filterMap.2 ⟨.tmp t,by simpa using hx,rfl⟩)
  |_=>rfl
 have cO:pk E o σ.ρ σ.H (fun v rd ups=>K ((σ.rB ups).ri o.dst v) rd (ups.map (·.1)))=some r→
   ∃u:Out,K (u.app σ) u.rd (u.ups.map (·.1))=some r∧u.dst=o.dst∧ ∀σ':St,(∀t∈names ops o,σ'.T t=σ.T t)→Ag u.rd σ.H σ'.H→ ∀K':St→List Nat→List Nat→Option α,
    pk E o σ'.ρ σ'.H (fun v rd ups=>K' ((σ'.rB ups).ri o.dst v) rd (ups.map (·.1)))=K' (u.app σ') u.rd (u.ups.map (·.1)):=by
  intro h
  obtain⟨v,rd,ups,h1,h2⟩:=abH h
  exact⟨⟨o.dst,v,rd,ups⟩,h1,rfl,fun σ' hT hA K'=>h2 σ'.ρ σ'.H (am6 σ' hT) hA _⟩
 have oO: ∀{K:St→List Nat→List Nat→Option α},K (σ.ri o.dst .PD) [] []=some r→ ∃u:Out,K (u.app σ) u.rd (u.ups.map (·.1))=some r∧u.dst=o.dst∧ ∀σ':St,∀K':St→List Nat→List Nat→Option α,K' (σ'.ri o.dst .PD) [] []=K' (u.app σ') u.rd (u.ups.map (·.1)):=
  fun h=>⟨⟨o.dst,.PD,[],[]⟩,h,rfl,fun _ _=>rfl⟩
 simp only at h
 split at h
 ·rename_i hg
  obtain⟨u,h1,h2,h3⟩:=cO h
  refine⟨u,h1,h2,fun σ' hT hA K'=> ?_⟩
  unfold pv
  rw[e0]
  simp only
  rw[hg]
  exact h3 σ' hT hA K'
 ·rename_i j want hg
  split at h
  ·cases h
  ·rename_i t ht
   have NT:t∈names ops o:=by
    unfold names
    refine List.mem_append_right _ ?_
    rw[hg]
    simp[ht]
   split at h
   ·rename_i b hb
    have mN: ∀σ':St,σ'.T t=σ.T t→σ'.put t (.val .bool b)=σ':=fun σ' h'=>by
     rw[←hb,←h'];exact Ac σ' t
    cases want<;>cases b
    ·obtain⟨u,h1,h2,h3⟩:=cO (by
      have:=mN σ rfl
      rw[this]at h;exact h)
     refine⟨u,h1,h2,fun σ' hT hA K'=> ?_⟩
     unfold pv
     rw[e0];simp only;rw[hg];simp only;rw[ht];simp only;rw[hT t NT,hb];simp only
     rw[mN σ' (hT t NT)]
     exact h3 σ' hT hA K'
    ·obtain⟨u,h1,h2,h3⟩:=oO (by
      have:=mN σ rfl
      rw[this]at h;exact h)
     refine⟨u,h1,h2,fun σ' hT hA K'=> ?_⟩
     unfold pv
     rw[e0];simp only;rw[hg];simp only;rw[ht];simp only;rw[hT t NT,hb];simp only
     rw[mN σ' (hT t NT)]
     exact h3 σ' K'
    ·obtain⟨u,h1,h2,h3⟩:=oO (by
      have:=mN σ rfl
      rw[this]at h;exact h)
     refine⟨u,h1,h2,fun σ' hT hA K'=> ?_⟩
     unfold pv
     rw[e0];simp only;rw[hg];simp only;rw[ht];simp only;rw[hT t NT,hb];simp only
     rw[mN σ' (hT t NT)]
     exact h3 σ' K'
    ·obtain⟨u,h1,h2,h3⟩:=cO (by
      have:=mN σ rfl
      rw[this]at h;exact h)
     refine⟨u,h1,h2,fun σ' hT hA K'=> ?_⟩
     unfold pv
     rw[e0];simp only;rw[hg];simp only;rw[ht];simp only;rw[hT t NT,hb];simp only
     rw[mN σ' (hT t NT)]
     exact h3 σ' hT hA K'
   ·rename_i hb
    obtain⟨u,h1,h2,h3⟩:=oO h
    refine⟨u,h1,h2,fun σ' hT hA K'=> ?_⟩
    unfold pv
    rw[e0];simp only;rw[hg];simp only;rw[ht];simp only;rw[hT t NT,hb]
    exact h3 σ' K'
   ·cases h
theorem Mq{ops:List Oper}: ∀(l:List Oper) (i:Nat) (σ:St) (lg:Log) (K:St→Log→Option α),Nr E ops l i σ lg K=some r→
  ∃us:List Out,us.length=l.length∧(∀j u o,us[j]? =some u→l[j]? =some o→Pt E ops o ((us.take j).foldl (fun σ u=>u.app σ) σ) u α)∧
   ∃Z1,K (us.foldl (fun σ u=>u.app σ) σ) Z1=some r∧(∀x∈lg,x∈Z1)∧ ∀j u,us[j]? =some u→(i+j,u.rd,u.ups.map (·.1))∈Z1
 |[],i,σ,lg,K,h=>⟨[],rfl,fun j u o hj=>by simp at hj,lg,h,fun _ h=>h,fun j u hj=>by simp at hj⟩
 |o::l,i,σ,lg,K,h=>by
  unfold Nr at h
  obtain⟨u,h1,h2⟩:=Qf h
  obtain⟨us,hl,hpt,Z1,hK,Ta,hj⟩:=Mq l (i+1) (u.app σ) _ K h1
  refine⟨u::us,by simp[hl],fun j u' o' hu ho=> ?_,Z1,hK,fun x hx=>Ta x (List.mem_cons_of_mem _ hx),fun j u' hu=> ?_⟩
  ·cases j with
   |zero=>simp at hu ho;subst hu ho;exact h2
   |succ j=>exact hpt j u' o' (by simpa using hu) (by simpa using ho)
  ·cases j with
   |zero=>simp at hu;subst hu;exact Ta _ List.mem_cons_self
   |succ j=>
    have:=hj j u' (by simpa using hu)
    rwa [show i+1+j=i+(j+1)from by omega]at this
theorem NU{k:Nat}{ups:fK}(h:k∈keys ups)(H H':Nat→Option aR):cc H ups k=cc H' ups k:=by
 induction ups generalizing H H' with
 |nil=>simp[keys]at h
 |cons u r ih=>
  show cc (bu H u.1 u.2) r k=cc (bu H' u.1 u.2) r k
  by_cases hk:k∈keys r
  ·exact ih hk _ _
  ·have hku:k=u.1:=by
    simp only[keys,List.map_cons,List.mem_cons]at h hk
    exact h.resolve_right hk
   rw[jX hk,jX hk,hku,ak,ak]
structure lJ(us:List Out)(σ0:St)(S:Nat→Prop)(σ:St):Prop where
 T: ∀t,(∃j u,us[j]? =some u∧S j∧u.dst=some t∧(∀j' u',us[j']? =some u'→S j'→u'.dst=some t→j'≤j)∧σ.T t=u.v)∨((∀j u,us[j]? =some u→S j→u.dst≠some t)∧σ.T t=σ0.T t)
 H: ∀k,(∃j u,us[j]? =some u∧S j∧k∈keys u.ups∧(∀j' u',us[j']? =some u'→S j'→k∈keys u'.ups→j'≤j)∧σ.H k=cc σ0.H u.ups k)∨((∀j u,us[j]? =some u→S j→k∉keys u.ups)∧σ.H k=σ0.H k)
theorem lJ.Qg{us:List Out}{σ0 σ σ':St}{S S':Nat→Prop}(h:lJ us σ0 S σ)(h':lJ us σ0 S' σ'){t:Nat}(hs: ∀j u,us[j]? =some u→u.dst=some t→(S j↔S' j)):σ.T t=σ'.T t:=by
 rcases h.T t with⟨j,u,h1,h2,h3,h4,h5⟩|⟨h1,h2⟩<;>rcases h'.T t with⟨j',u',mU,tE,Ku,h4',h5'⟩|⟨mU,tE⟩
 ·have e1:=h4 j' u' mU ((hs j' u' mU Ku).2 tE) Ku
  have e2:=h4' j u h1 ((hs j u h1 h3).1 h2) h3
  have:j=j':=by omega
  subst this
  rw[h1]at mU;cases mU
  rw[h5,h5']
 ·exact absurd h3 (mU j u h1 ((hs j u h1 h3).1 h2))
 ·exact absurd Ku (h1 j' u' mU ((hs j' u' mU Ku).2 tE))
 ·rw[h2,tE]
theorem lJ.Qh{us:List Out}{σ0 σ σ':St}{S S':Nat→Prop}(h:lJ us σ0 S σ)(h':lJ us σ0 S' σ'){k:Nat}(hs: ∀j u,us[j]? =some u→k∈keys u.ups→(S j↔S' j)):σ.H k=σ'.H k:=by
 rcases h.H k with⟨j,u,h1,h2,h3,h4,h5⟩|⟨h1,h2⟩<;>rcases h'.H k with⟨j',u',mU,tE,Ku,h4',h5'⟩|⟨mU,tE⟩
 ·have e1:=h4 j' u' mU ((hs j' u' mU Ku).2 tE) Ku
  have e2:=h4' j u h1 ((hs j u h1 h3).1 h2) h3
  have:j=j':=by omega
  subst this
  rw[h1]at mU;cases mU
  rw[h5,h5']
 ·exact absurd h3 (mU j u h1 ((hs j u h1 h3).1 h2))
 ·exact absurd Ku (h1 j' u' mU ((hs j' u' mU Ku).2 tE))
 ·rw[h2,tE]
theorem lJ.unique{us:List Out}{σ0 σ σ':St}{S S':Nat→Prop}(h:lJ us σ0 S σ)(h':lJ us σ0 S' σ')(hs: ∀j u,us[j]? =some u→(S j↔S' j)):σ=σ':=by
 obtain⟨T,H⟩:=σ
 obtain⟨T',H'⟩:=σ'
 congr 1
 ·funext t;exact h.Qg h' (fun j u hj _=>hs j u hj)
 ·funext k;exact h.Qh h' (fun j u hj _=>hs j u hj)
theorem lJ.step{us:List Out}{σ0 σ:St}{S:Nat→Prop}(h:lJ us σ0 S σ){i:Nat}{u:Out}(hi:us[i]? =some u)(hc: ∀j u',us[j]? =some u'→S j→i<j→(∀t,u.dst=some t→u'.dst≠some t)∧ ∀k∈keys u.ups,k∉keys u'.ups):
  lJ us σ0 (fun j=>j=i∨S j) (u.app σ):=by
 refine⟨fun t=> ?_,fun k=> ?_⟩
 ·by_cases hd:u.dst=some t
  ·left
   refine⟨i,u,hi,.inl rfl,hd,fun j' u' h1 h2 h3=> ?_,Kt hd σ⟩
   rcases h2 with rfl|h2
   ·exact Nat.le_refl _
   ·exact Nat.le_of_not_lt fun dD=>(hc j' u' h1 h2 dD).1 t hd h3
  ·rw[Qe hd]
   rcases h.T t with⟨j,u1,h1,h2,h3,h4,h5⟩|⟨h1,h2⟩
   ·refine .inl ⟨j,u1,h1,.inr h2,h3,fun j' u' mU tE Ku=> ?_,h5⟩
    rcases tE with rfl|tE
    ·rw[hi]at mU;cases mU;exact absurd Ku hd
    ·exact h4 j' u' mU tE Ku
   ·refine .inr ⟨fun j u' mU tE=> ?_,h2⟩
    rcases tE with rfl|tE
    ·rw[hi]at mU;cases mU;exact hd
    ·exact h1 j u' mU tE
 ·rw[ahb]
  by_cases hd:k∈keys u.ups
  ·left
   refine⟨i,u,hi,.inl rfl,hd,fun j' u' h1 h2 h3=> ?_,NU hd _ _⟩
   rcases h2 with rfl|h2
   ·exact Nat.le_refl _
   ·exact Nat.le_of_not_lt fun dD=>(hc j' u' h1 h2 dD).2 k hd h3
  ·rw[jX hd]
   rcases h.H k with⟨j,u1,h1,h2,h3,h4,h5⟩|⟨h1,h2⟩
   ·refine .inl ⟨j,u1,h1,.inr h2,h3,fun j' u' mU tE Ku=> ?_,h5⟩
    rcases tE with rfl|tE
    ·rw[hi]at mU;cases mU;exact absurd Ku hd
    ·exact h4 j' u' mU tE Ku
   ·refine .inr ⟨fun j u' mU tE=> ?_,h2⟩
    rcases tE with rfl|tE
    ·rw[hi]at mU;cases mU;exact hd
    ·exact h1 j u' mU tE
theorem lJ.start(us:List Out)(σ0:St):lJ us σ0 (fun _=>False) σ0:=⟨fun t=> .inr ⟨fun _ _ _ h=>h.elim,rfl⟩,fun k=> .inr ⟨fun _ _ _ h=>h.elim,rfl⟩⟩
theorem lJ.congr{us:List Out}{σ0 σ:St}{S S':Nat→Prop}(h:lJ us σ0 S σ)(hs: ∀j,S j↔S' j):lJ us σ0 S' σ:=by
 have:S=S':=funext fun j=>propext (hs j)
 rw[←this];exact h
theorem lJ.text(us:List Out)(σ0:St): ∀i,i≤us.length→lJ us σ0 (fun j=>j<i) ((us.take i).foldl (fun σ u=>u.app σ) σ0)
 |0,_=>(lJ.start us σ0).congr fun j=>by simp
 |i+1,hi=>by
  have ih:=lJ.text us σ0 i (by omega)
  have hu:us[i]? =some us[i]:=List.getElem?_eq_getElem (by omega)
  have:=ih.step hu (fun j u' _ h2 h3=>by omega)
  rw[List.take_add_one,hu,List.foldl_append]
  exact this.congr fun j=>by constructor<;>intro h<;>omega
end VM
end
section
namespace VM
open Go
variable{P:Program}{E:Env}{o:Oper}{a:Act}{w:World}{M:Nat→Prop}{ν:Nat→Value}{σ:St}{c:Ctx}{α:Type}{r:α}{next:Act→World→Prop}{Q:Exit→Act→World→Prop}
def Pre(S:Nat→Prop)(o:Oper):Prop:= ∀e∈o.after,Region.binds .any e=true→S e.on
theorem Ak{β:Type}{l m:List β}{i:Nat}{d:β}(h:i<l.length):(l++m).getD i d=l.getD i d:=by
 simp only[List.getD,List.getElem?_append_left h]
theorem Al{β:Type}{l:List β}{x d:β}:(l++[x]).getD l.length d=x:=by
 simp[List.getD]
theorem xH{acc:List Nat}{i:Nat}: ∀(es:List Edge) (s:Nat),(es.foldl (fun s e=>cond (Region.binds .any e) (s|||2^e.on|||acc.getD e.on 0) s) s).testBit i=true→
  s.testBit i=true∨ ∃e∈es,Region.binds .any e=true∧(i=e.on∨(acc.getD e.on 0).testBit i=true)
 |[],s,h=> .inl h
 |e::es,s,h=>by
  rw[List.foldl_cons]at h
  rcases xH es _ h with h1|⟨e',h1,h2⟩
  ·cases hb:Region.binds .any e
   ·rw[hb]at h1;exact .inl h1
   ·rw[hb]at h1
    simp only[cond_true,Nat.testBit_or,Bool.or_eq_true]at h1
    rcases h1 with(h1|h1)|h1
    ·exact .inl h1
    ·refine .inr ⟨e,List.mem_cons_self,hb,.inl ?_⟩
     rw[Nat.testBit_two_pow]at h1
     simpa using (of_decide_eq_true h1).symm
    ·exact .inr ⟨e,List.mem_cons_self,hb,.inr h1⟩
  ·exact .inr ⟨e',List.mem_cons_of_mem _ h1,h2⟩
theorem xI{S:Nat→Prop}: ∀(l:List Oper) (acc:List Nat) (all:List Oper),all.length=acc.length+l.length→(∀j,l[j]? =all[acc.length+j]?)→
  (∀j o,all[j]? =some o→S j→Pre S o)→(∀j i,j<acc.length→S j→(acc.getD j 0).testBit i=true→S i)→
  ∀j o i,all[j]? =some o→(Pre S o∨S j)→((pb l acc).getD j 0).testBit i=true→(j<acc.length→ ∀i,Pre S o→(acc.getD j 0).testBit i=true→S i)→S i
 |[],acc,all,hl,gW,hS,TX,j,o,i,hj,GO,hb,Qi=>by
  have dD:j<all.length:=(List.getElem?_eq_some_iff.1 hj).1
  have rO:j<acc.length:=by simp at hl;omega
  rcases GO with hp|hp
  ·exact Qi rO i hp hb
  ·exact TX j i rO hp hb
 |p::l,acc,all,hl,gW,hS,TX,j,o,i,hj,GO,hb,Qi=>by
  unfold pb at hb
  have Pu:all[acc.length]? =some p:=by rw[←Nat.add_zero acc.length,←gW 0];rfl
  have TY: ∀i,Pre S p→(p.after.toList.foldl (fun s e=>cond (Region.binds .any e) (s|||2^e.on|||acc.getD e.on 0) s) 0).testBit i=true→S i:=by
   intro i BT hb
   rcases xH p.after.toList 0 hb with h1|⟨e,he,hbe,h1⟩
   ·simp at h1
   ·have hSe:=BT e (by simpa using he) hbe
    rcases h1 with rfl|h1
    ·exact hSe
    ·by_cases dD:e.on<acc.length
     ·exact TX e.on i dD hSe h1
     ·rw[List.getD,List.getElem?_eq_none (by omega)]at h1;simp at h1
  refine xI l (acc++[p.after.toList.foldl (fun s e=>cond (Region.binds .any e) (s|||2^e.on|||acc.getD e.on 0) s) 0]) all (by simp at hl ⊢;omega) (fun j=> ?_) hS (fun j' i' S9 hS' dJ=> ?_) j o i hj GO hb (fun dD i' wq dJ=> ?_)
  ·have:=gW (j+1)
   simp only[List.getElem?_cons_succ]at this
   rw[this]
   congr 1
   simp;omega
  ·by_cases dD:j'<acc.length
   ·rw[Ak dD]at dJ
    exact TX j' i' dD hS' dJ
   ·have hje:j'=acc.length:=by simp at S9;omega
    subst hje
    rw[Al]at dJ
    exact TY i' (hS _ p Pu hS') dJ
  ·by_cases rO:j<acc.length
   ·rw[Ak rO]at dJ
    exact Qi rO i' wq dJ
   ·have hje:j=acc.length:=by simp at dD;omega
    subst hje
    rw[Pu]at hj;cases hj
    rw[Al]at dJ
    exact TY i' wq dJ
theorem forced{ops:List Oper}{S:Nat→Prop}(hS: ∀j o,ops[j]? =some o→S j→Pre S o){j i:Nat}(hj:ops[j]? =some o)(GO:Pre S o∨S j)(hb:((pb ops []).getD j 0).testBit i=true):S i:=
 xI ops [] ops (by simp) (fun j=>by simp) hS (fun j i h=>by simp at h) j o i hj GO hb (fun h=>by simp at h)
theorem jm{l m:List Nat}(h:meets l m=false){x:Nat}(h1:x∈l)(h2:x∈m):False:=by
 have:meets l m=true:=by
  unfold meets
  rw[List.any_eq_true]
  refine⟨x,h1,?_⟩
  rw[List.any_eq_true]
  exact⟨x,h2,Nat.beq_refl x⟩
 rw[h]at this;cases this
structure Rnd(c:Ctx)(E:Env)(ops:Array Oper)(us:List Out)(σ0:St)(listed:Array Bool)(a:Act)(w:World):Prop where
 size:listed.size=ops.size
 closed: ∀j o,ops.toList[j]? =some o→listed.getD j false=true→Pre (fun i=>listed.getD i false=true) o
 st: ∃σ,lJ us σ0 (fun j=>listed.getD j false=true) σ∧Inv c E σ a w
theorem tX{listed:Array Bool}{j:Nat}(h:j<listed.size)(d:Bool):listed.getD j d=listed.getD j false:=by
 simp[Array.getD,h]
theorem EA(hE:oN P E){ops:Array Oper}{us:List Out}{σ0 σn:St}{α:Type}(x0:α)(hl:us.length=ops.toList.length)
  (hpt: ∀(j:Nat) (u:Out) (o:Oper),us[j]? =some u→ops.toList[j]? =some o→Pt E ops.toList o ((us.take j).foldl (fun σ u=>u.app σ) σ0) u α)
  (hn:σn=us.foldl (fun σ u=>u.app σ) σ0)
  (dD: ∀(j:Nat) (o:Oper),ops.toList[j]? =some o→ ∀e∈o.after,Region.binds .any e=true→e.on<j)
  (JX: ∀(j:Nat) (o:Oper) (i:Nat) (p:Oper),ops.toList[j]? =some o→ops.toList[i]? =some p→i<j→((pb ops.toList []).getD j 0).testBit i=false→
   (∀d,p.dst=some d→o.dst≠some d∧d∉names ops.toList o)∧(∀d,o.dst=some d→d∉names ops.toList p))
  (Ta: ∀(j:Nat) (u:Out) (i:Nat) (v:Out),us[j]? =some u→us[i]? =some v→i<j→((pb ops.toList []).getD j 0).testBit i=false→
   (∀k∈keys v.ups,k∉u.rd∧k∉keys u.ups)∧(∀k∈v.rd,k∉keys u.ups))
  (hq: ∀a' w',Inv c E σn a' w'→Q .normal a' w'):
  ∀(fuel:Nat) (listed:Array Bool) (a:Act) (w:World),((List.range ops.size).filter fun j=> !(listed.getD j false)).length≤fuel→Rnd c E ops us σ0 listed a w→wpAny P .any ops Q fuel listed a w:=by
 have gW: ∀(listed:Array Bool) (a:Act) (w:World),Rnd c E ops us σ0 listed a w→Region.ready .any ops listed=[]→Q .normal a w:=by
  intro listed a w hR abL
  obtain⟨hs,El,σ,JQ,hI⟩:=hR
  have ahd: ∀j,j<ops.size→listed.getD j false=true:=by
   intro j
   induction j using Nat.strongRecOn with
   |_ j ih=>
    intro hj
    by_cases hb:listed.getD j false=true
    ·exact hb
    ·exfalso
     have ho:ops[j]? =some ops[j]:=Array.getElem?_eq_getElem hj
     have:j∈Region.ready .any ops listed:=by
      rw[mem_ready]
      refine⟨by rw[tX (by omega)];simpa using hb,_,ho,fun e he hbe=> ?_⟩
      have hej:=dD j ops[j] (by rw[Array.getElem?_toList];exact ho) e he hbe
      exact ih e.on hej (by omega)
     rw[abL]at this
     cases this
  have hσ:σ=σn:=by
   rw[hn]
   have ht:=lJ.text us σ0 us.length (Nat.le_refl _)
   rw[List.take_length]at ht
   refine JQ.unique ht fun j u hj=> ?_
   have BX:j<us.length:=(List.getElem?_eq_some_iff.1 hj).1
   have hjo:j<ops.size:=by rw[hl,Array.length_toList]at BX;exact BX
   exact⟨fun _=>BX,fun _=>ahd j hjo⟩
  exact hq a w (hσ▸hI)
 intro fuel
 induction fuel with
 |zero=>
  intro listed a w hf hR
  have TZ:Region.ready .any ops listed=[]:=by
   rw[List.eq_nil_iff_forall_not_mem]
   intro j hj
   rw[mem_ready]at hj
   obtain⟨h0,o,ho,_⟩:=hj
   have hjs:j<ops.size:=(Array.getElem?_eq_some_iff.1 ho).1
   have BX:j<listed.size:=by rw[hR.size];exact hjs
   rw[tX BX]at h0
   have mT:j∈(List.range ops.size).filter fun j=> !(listed.getD j false):=by
    rw[List.mem_filter];exact⟨List.mem_range.2 hjs,by rw[h0];rfl⟩
   have:((List.range ops.size).filter fun j=> !(listed.getD j false))=[]:=List.eq_nil_of_length_eq_zero (by omega)
   rw[this]at mT;cases mT
  exact⟨TZ,gW listed a w hR TZ⟩
 |succ fuel ih=>
  intro listed a w hf hR
  refine⟨gW listed a w hR,fun i hi=> ?_⟩
  have lG:=hi
  rw[mem_ready]at lG
  obtain⟨h0,o,ho,GO⟩:=lG
  have his:i<ops.size:=(Array.getElem?_eq_some_iff.1 ho).1
  have B6:i<listed.size:=by rw[hR.size];exact his
  rw[tX B6]at h0
  obtain⟨hs,El,σ,JQ,hI⟩:=hR
  have tY:ops.toList[i]? =some o:=by rw[Array.getElem?_toList];exact ho
  have hiu:i<us.length:=by rw[hl,Array.length_toList];exact his
  have hu:us[i]? =some us[i]:=List.getElem?_eq_getElem hiu
  have hPt:=hpt i us[i] o hu tY
  have hSi: ¬listed.getD i false=true:=by rw[h0];simp
  have GP: ∀j p,ops.toList[j]? =some p→((j<i∧ ¬listed.getD j false=true)→((pb ops.toList []).getD i 0).testBit j=false)∧((i<j∧listed.getD j false=true)→((pb ops.toList []).getD j 0).testBit i=false):=by
   intro j p hj
   refine⟨fun⟨_,h2⟩=> ?_,fun⟨_,h2⟩=> ?_⟩
   ·rw[←Bool.not_eq_true]
    intro hb
    exact h2 (forced El tY (.inl GO) hb)
   ·rw[←Bool.not_eq_true]
    intro hb
    exact hSi (forced El hj (.inr h2) hb)
  have Qj: ∀(j:Nat) (u:Out),us[j]? =some u→ ∃p:Oper,ops.toList[j]? =some p∧u.dst=p.dst:=by
   intro j u hj
   have BX:j<us.length:=(List.getElem?_eq_some_iff.1 hj).1
   have hp:ops.toList[j]? =some ops.toList[j]:=List.getElem?_eq_getElem (by omega)
   exact⟨_,hp,(hpt j u _ hj hp).1⟩
  have Z2:=lJ.text us σ0 i (by omega)
  have hT: ∀t∈names ops.toList o,σ.T t=((us.take i).foldl (fun σ u=>u.app σ) σ0).T t:=by
   intro t ht
   refine JQ.Qg Z2 fun j u hj hd=> ?_
   obtain⟨p,hp,hpd⟩:=Qj j u hj
   have hpd:p.dst=some t:=by rw[←hpd,hd]
   constructor
   ·intro GQ
    refine Nat.lt_of_not_le fun hle=> ?_
    rcases Nat.lt_or_eq_of_le hle with rO|heq
    ·exact(JX j p i o hp tY rO ((GP j p hp).2 ⟨rO,GQ⟩)).2 t hpd ht
    ·subst heq;exact hSi GQ
   ·intro tZ
    by_cases GQ:listed.getD j false=true
    ·exact GQ
    ·exact absurd ht ((JX i o j p tY hp tZ ((GP j p hp).1 ⟨tZ,GQ⟩)).1 t hpd).2
  have hH:Ag us[i].rd ((us.take i).foldl (fun σ u=>u.app σ) σ0).H σ.H:=by
   intro k hk
   refine JQ.Qh Z2 fun j u hj hd=> ?_
   obtain⟨p,hp,hpd⟩:=Qj j u hj
   constructor
   ·intro GQ
    refine Nat.lt_of_not_le fun hle=> ?_
    rcases Nat.lt_or_eq_of_le hle with rO|heq
    ·exact(Ta j u i us[i] hj hu rO ((GP j p hp).2 ⟨rO,GQ⟩)).2 k hk hd
    ·subst heq;exact hSi GQ
   ·intro tZ
    by_cases GQ:listed.getD j false=true
    ·exact GQ
    ·exact absurd hk ((Ta i us[i] j u hu hj tZ ((GP j p hp).1 ⟨tZ,GQ⟩)).1 k hd).1
  have ahe:=hPt.2 σ hT hH
  have hIs:lJ us σ0 (fun j=>j=i∨listed.getD j false=true) (us[i].app σ):=by
   refine JQ.step hu fun j u hj GQ oH=> ?_
   obtain⟨p,hp,hpd⟩:=Qj j u hj
   have yM:=(GP j p hp).2 ⟨oH,GQ⟩
   obtain⟨h1,h2⟩:=JX j p i o hp tY oH yM
   obtain⟨h3,h4⟩:=Ta j u i us[i] hj hu oH yM
   refine⟨fun t ht=> ?_,fun k hk=>(h3 k hk).2⟩
   rw[hpd]
   exact(h1 t (by rw[←hPt.1];exact ht)).1
  have vh: ∀j,(listed.setIfInBounds i true).getD j false=true↔(j=i∨listed.getD j false=true):=by
   intro j
   by_cases tZ:j=i
   ·subst tZ
    constructor
    ·intro _;exact .inl rfl
    ·intro _;simp[B6]
   ·rw[getD_set_ne false (Ne.symm tZ)]
    exact⟨.inr,fun h=>h.resolve_left tZ⟩
  classical
  let K':St→List Nat→List Nat→Option α:=fun σ' _ _=>if σ'=us[i].app σ then some x0 else none
  have hK:pv E ops.toList o σ K'=some x0:=by rw[ahe K'];simp[K']
  have:=xG (Q:=Q) (next:=wpAny P .any ops Q fuel (listed.setIfInBounds i true)) hE hI hK (fun σ' a' w' rd wr hσ' tC=>by
   have anc:σ'=us[i].app σ:=by
    by_cases h:σ'=us[i].app σ
    ·exact h
    ·simp[K',h]at hσ'
   subst anc
   refine ih _ a' w' ?_ ⟨by simpa using hs,fun j p hp GQ e he hb=> ?_,_,hIs.congr (fun j=>(vh j).symm),tC⟩
   ·have hlen:((List.range ops.size).filter fun j=> !((listed.setIfInBounds i true).getD j false)).length<((List.range ops.size).filter fun j=> !(listed.getD j false)).length:=by
     have NI:((List.range ops.size).filter fun j=> !((listed.setIfInBounds i true).getD j false))=((List.range ops.size).filter fun j=> !(listed.getD j false)).filter fun j=> !(Nat.beq j i):=by
      rw[List.filter_filter]
      apply List.filter_congr
      intro j _
      by_cases tZ:j=i
      ·subst tZ
       have h1:=(vh j).2 (.inl rfl)
       rw[h1];simp
      ·have h1:Nat.beq j i=false:=by rw[←Bool.not_eq_true,Nat.beq_eq];exact tZ
       rw[h1,getD_set_ne false (Ne.symm tZ)];simp
     rw[NI]
     refine List.length_filter_lt_length_iff_exists.2 ⟨i,?_,by simp⟩
     rw[List.mem_filter];exact⟨List.mem_range.2 his,by rw[h0];rfl⟩
    omega
   ·rcases(vh j).1 GQ with rfl|GQ
    ·rw[tY]at hp;cases hp
     exact(vh _).2 (.inr (GO e he hb))
    ·exact(vh _).2 (.inr (El j p hp GQ e he hb)))
  unfold wpOp
  rw[ho]
  simp only
  split
  ·rename_i hw;rw[if_pos hw]at this;exact .inl this
  ·rename_i hw;rw[if_neg hw]at this;exact this
theorem Ci(hE:oN P E){id:Nat}{ops:Array Oper}{draw:Bool}(hI:Inv c E σ a w){K:St→Option α}(h:zg E ops draw σ K=some r)
  (hn: ∀σ' a' w',K σ'=some r→Inv c E σ' a' w'→Q .normal a' w'):(Code.region id ops draw).wp P Q a w:=by
 cases draw
 ·refine wp_region_list (Ad hE ops.toList 0 σ [] a w _ hI h fun σ' Z1 a' w' h' tC=> ?_)
  exact hn σ' a' w' (bM h').2 tC
 ·unfold zg at h
  obtain⟨us,hl,hpt,lg,hK,_,ahf⟩:=Mq _ _ _ _ _ h
  obtain⟨NH,hK⟩:=bM hK
  simp only[Bool.not_true,Bool.false_or,Bool.and_eq_true]at NH
  obtain⟨JX,Ta⟩:=NH
  unfold PE at JX
  simp only[Bool.and_eq_true,List.all_eq_true]at JX
  obtain⟨ane,anf⟩:=JX
  have hz: ∀j o,ops.toList[j]? =some o→(o,j)∈ops.toList.zipIdx:=fun j o hj=>List.mem_zipIdx_iff_getElem?.2 hj
  refine wp_region_any hE.mixed (EA (Q:=Q) (σ0:=σ) hE r hl hpt rfl (fun j o hj e he hbe=> ?_) (fun j o i p hj hi oH hb=> ?_) (fun j u i v hj hi oH hb=> ?_) (fun a' w' tC=>hn _ a' w' hK tC) ops.size (Array.replicate ops.size false) a _ ?_ ?_)
  ·have:=ane (o,j) (hz j o hj) e (by simpa using he)
   rw[hbe]at this
   simpa [Nat.blt_eq]using this
  ·have:=anf (o,j) (hz j o hj) (p,i) (hz i p hi)
   simp only[hb,Bool.or_false,Bool.or_eq_true,Bool.not_eq_true',Bool.or_eq_false_iff]at this
   have B4: ¬Nat.ble j i=true:=by rw[Nat.ble_eq];omega
   have this:=this.resolve_left B4
   refine⟨fun d hd=>⟨fun T0=> ?_,fun T0=> ?_⟩,fun d hd T0=> ?_⟩
   ·exact jm this.1 (x:=d) (by simp[hd]) (by simp[T0])
   ·exact jm this.1 (x:=d) (by simp[hd]) (by simp[T0])
   ·exact jm this.2 (x:=d) (by simp[hd]) T0
  ·unfold ZR at Ta
   simp only[List.all_eq_true]at Ta
   have S9:=ahf j u hj
   have lG:=ahf i v hi
   rw[Nat.zero_add]at S9 lG
   have:=Ta _ S9 _ lG
   simp only[hb,Bool.or_false,Bool.or_eq_true,Bool.not_eq_true',Bool.or_eq_false_iff]at this
   have B4: ¬Nat.ble j i=true:=by rw[Nat.ble_eq];omega
   have this:=this.resolve_left B4
   refine⟨fun k hk=>⟨fun zX=> ?_,fun zX=> ?_⟩,fun k hk zX=> ?_⟩
   ·exact jm this.1 (x:=k) hk (List.mem_append_left _ zX)
   ·exact jm this.1 (x:=k) hk (List.mem_append_right _ zX)
   ·exact jm this.2 (x:=k) hk zX
  ·refine Nat.le_trans (List.length_filter_le _ _) ?_
   rw[List.length_range];exact Nat.le_refl _
  ·have hf: ∀j,(Array.replicate ops.size false).getD j false=false:=by
    intro j
    rw[Array.getD_eq_getD_getElem?,Array.getElem?_replicate]
    split<;>rfl
   obtain⟨⟨M,ν,hc⟩,hs,hd,tf⟩:=hI
   refine⟨by simp,fun j o _ hS=>(by rw[hf]at hS;cases hS),σ,(lJ.start us σ).congr (fun j=>(by rw[hf];simp)),⟨M,ν,?_⟩,hs,hd,tf⟩
   exact hc.tr (Tr.drew hc.mem)
end VM
end
