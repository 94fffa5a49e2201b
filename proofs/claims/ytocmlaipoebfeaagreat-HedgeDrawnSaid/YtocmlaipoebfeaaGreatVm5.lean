/- A part of the proof of HedgeDrawn of layer 22: a machine that reads a function of the program as an equation between values. -/
import Derived.Test.YtocmlaipoebfeaaGreatVm4
set_option linter.all false
section
namespace VM
open Go
variable{α:Type}{r:α}
theorem cZ{υ τ:Ty}{y:υ.den}{k:τ.den→Option α}(h:cv υ τ y k=some r): ∃z,k z=some r∧ ∀k':τ.den→Option α,cv υ τ y k'=k' z:=by
 obtain⟨e,h⟩:=bg h
 subst e
 exact⟨y,h,fun k'=>by simp[cv]⟩
theorem gL{υ τ:Ty}{k:Option α}(h:jY υ τ k=some r):k=some r∧ ∀k':Option α,jY υ τ k'=k':=by
 obtain⟨e,h1⟩:=dY h
 clear h
 subst e
 exact⟨h1,fun k'=>by simp[jY]⟩
theorem de{b:Bool}{K:Option α}(h:cond b K none=some r):K=some r∧ ∀K':Option α,cond b K' none=K':=by
 obtain⟨rfl,h⟩:=bP h
 exact⟨h,fun _=>rfl⟩
theorem pZ{b:Bool}{K:Option α}(h:cond b none K=some r):K=some r∧ ∀K':Option α,cond b none K'=K':=by
 obtain⟨rfl,h⟩:=js h
 exact⟨h,fun _=>rfl⟩
theorem s7: ∀{τ:Ty} {x:τ.den} {n:Nat} {k:(υ:Ty)→υ.den→Option α},tC τ x n k=some r→ ∃υ y,k υ y=some r∧ ∀k':(υ:Ty)→υ.den→Option α,tC τ x n k'=k' υ y
 | .pair a b,x,0,k,h=>⟨a,x.1,h,fun _=>rfl⟩
 | .pair a b,x,n+1,k,h=>by
  obtain⟨υ,y,h1,h2⟩:=s7 (τ:=b) (x:=x.2) (n:=n) (k:=k) h
  exact⟨υ,y,h1,fun k'=>h2 k'⟩
 | .int _,_,_,_,h| .bool,_,_,_,h| .str,_,_,_,h| .slice _,_,_,_,h| .unit,_,_,_,h| .arr _ _,_,_,_,h=>by simp[tC]at h
theorem uy: ∀{τ:Ty} {x:τ.den} {n:Nat} {m:(υ:Ty)→υ.den→(υ.den→Option α)→Option α} {k:τ.den→Option α},
  (∀υ y (k:υ.den→Option α),m υ y k=some r→ ∃z,k z=some r∧ ∀k':υ.den→Option α,m υ y k'=k' z)→jX τ x n m k=some r→ ∃z,k z=some r∧ ∀k':τ.den→Option α,jX τ x n m k'=k' z
 | .pair a b,x,0,m,k,hm,h=>by
  obtain⟨z,h1,h2⟩:=hm a x.1 _ h
  exact⟨(z,x.2),h1,fun k'=>h2 _⟩
 | .pair a b,x,n+1,m,k,hm,h=>by
  obtain⟨z,h1,h2⟩:=uy (τ:=b) (x:=x.2) (n:=n) (m:=m) (k:=fun z=>k (x.1,z)) hm h
  exact⟨(x.1,z),h1,fun k'=>h2 (fun z=>k' (x.1,z))⟩
 | .int _,_,_,_,_,_,h| .bool,_,_,_,_,_,h| .str,_,_,_,_,_,h| .slice _,_,_,_,_,_,h| .unit,_,_,_,_,_,h| .arr _ _,_,_,_,_,_,h=>by simp[jX]at h
theorem eX: ∀{p:List Step} {τ:Ty} {x:τ.den} {k:(υ:Ty)→υ.den→Option α},vh p τ x k=some r→ ∃υ y,k υ y=some r∧ ∀k':(υ:Ty)→υ.den→Option α,vh p τ x k'=k' υ y
 |[],τ,x,k,h=>⟨τ,x,h,fun _=>rfl⟩
 | .gX n::p,τ,x,k,h=>by
  obtain⟨υ,y,h1,h2⟩:=s7 (h:tC τ x n _=some r)
  obtain⟨υ',y',h3,h4⟩:=eX h1
  exact⟨υ',y',h3,fun k'=>(h2 _).trans (h4 k')⟩
 | .idx i::p,τ,x,k,h=>by
  cases τ with
  |arr n e=>
   obtain⟨υ',y',h3,h4⟩:=eX (p:=p) (τ:=e) (x:=List.getD x i e.zero) (k:=k) h
   exact⟨υ',y',h3,fun k'=>h4 k'⟩
  |_=>simp[vh,ab7]at h
theorem lJ{υ:Ty}{y:υ.den}: ∀{p:List Step} {τ:Ty} {x:τ.den} {k:τ.den→Option α},rI υ y p τ x k=some r→ ∃z,k z=some r∧ ∀k':τ.den→Option α,rI υ y p τ x k'=k' z
 |[],τ,x,k,h=>cZ h
 | .gX n::p,τ,x,k,h=>uy (fun _ _ _ h=>lJ h) h
 | .idx i::p,τ,x,k,h=>by
  cases τ with
  |arr n e=>
   obtain⟨z,h1,h2⟩:=lJ (p:=p) (τ:=e) (x:=List.getD x i e.zero) (k:=fun z=>k (List.set x i z)) h
   exact⟨_,h1,fun k'=>h2 (fun z=>k' (List.set x i z))⟩
  |_=>simp[rI,zx]at h
theorem o5{a:bb}{k:IntKind→Int→Option α}(h:rT a k=some r): ∃i n,k i n=some r∧ ∀k':IntKind→Int→Option α,rT a k'=k' i n:=by
 obtain⟨i,n,rfl,h⟩:=j2 h
 exact⟨i,n,h,fun _=>rfl⟩
theorem M4{a:bb}{k:(τ:Ty)→τ.den→Option α}(h:GD a k=some r): ∃τ x,k τ x=some r∧ ∀k':(τ:Ty)→τ.den→Option α,GD a k'=k' τ x:=by
 unfold GD at h
 split at h
 ·exact⟨_,_,h,fun _=>rfl⟩
 ·cases h
theorem qE{a:Option bb}{d:Int}{k:Int→Option α}(h:um a d k=some r): ∃n,k n=some r∧ ∀k':Int→Option α,um a d k'=k' n:=by
 cases a with
 |none=>exact⟨d,h,fun _=>rfl⟩
 |some a=>
  obtain⟨i,n,h1,h2⟩:=o5 (h:rT a (fun _ x=>k x)=some r)
  exact⟨n,h1,fun k'=>h2 (fun _ x=>k' x)⟩
abbrev Ag(rd:List Nat)(H H':Nat→Option aS):Prop:= ∀i∈rd,H' i=H i
theorem lK{fz:Bool}{a:bb}{H:Nat→Option aS}{τ:Ty}{k:τ.den→List Nat→fN→Option α}(h:iZ fz a H τ k=some r):
  ∃y rd ups,k y rd ups=some r∧ ∀H',Ag rd H H'→ ∀k':τ.den→List Nat→fN→Option α,iZ fz a H' τ k'=k' y rd ups:=by
 cases a with
 |val υ x=>
  simp only[iZ]at h
  obtain⟨z,h1,h2⟩:=cZ h
  refine⟨z,[],[],h1,fun H' _ k'=> ?_⟩
  simp only[iZ]
  exact h2 (fun y=>k' y [] [])
 |EF υ x n=>
  simp only[iZ]at h
  obtain⟨z,h1,h2⟩:=cZ h
  refine⟨z,[],[],h1,fun H' _ k'=> ?_⟩
  simp only[iZ]
  exact h2 (fun y=>k' y [] [])
 |emp=>
  cases τ with
  |slice e=>exact⟨[],[],[],h,fun _ _ _=>rfl⟩
  |_=>cases h
 |ref id=>
  have h:(match H id with
   |some (.own e l)=>cv (.slice e) τ l fun y=>k y [id] (cond fz [(id,some (.lF e l))] [])
   |some (.lF e l)=>cv (.slice e) τ l fun y=>k y [id] []
   |_=>none)=some r:=h
  cases hH:H id with
  |none=>rw[hH]at h;cases h
  |some e=>
   rw[hH]at h
   cases e with
   |own e l=>
    obtain⟨z,h1,h2⟩:=cZ (h:cv (.slice e) τ l _=some r)
    refine⟨z,_,_,h1,fun H' hA k'=> ?_⟩
    have:H' id=some (.own e l):=by rw[hA id (by simp),hH]
    show(match H' id with
     |some (.own e l)=>cv (.slice e) τ l fun y=>k' y [id] (cond fz [(id,some (.lF e l))] [])
     |some (.lF e l)=>cv (.slice e) τ l fun y=>k' y [id] []
     |_=>none)=_
    rw[this];exact h2 _
   |lF e l=>
    obtain⟨z,h1,h2⟩:=cZ (h:cv (.slice e) τ l _=some r)
    refine⟨z,_,_,h1,fun H' hA k'=> ?_⟩
    have:H' id=some (.lF e l):=by rw[hA id (by simp),hH]
    show(match H' id with
     |some (.own e l)=>cv (.slice e) τ l fun y=>k' y [id] (cond fz [(id,some (.lF e l))] [])
     |some (.lF e l)=>cv (.slice e) τ l fun y=>k' y [id] []
     |_=>none)=_
    rw[this];exact h2 _
   |obj _ _=>cases h
   |ej _ _ _ _=>cases h
   |gone=>cases h
 |any|Qu|fW _ _|nK _ _|tup _|GB _ _=>cases h
theorem w5{id:Nat}{p:List Step}{H:Nat→Option aS}{k:Ty→Option α}(h:jZ id p H k=some r): ∃υ,k υ=some r∧ ∀H',H' id=H id→ ∀k':Ty→Option α,jZ id p H' k'=k' υ:=by
 unfold jZ at h
 split at h
 ·rename_i τ x aV
  obtain⟨υ,y,h1,h2⟩:=eX h
  exact⟨υ,h1,fun H' hA k'=>by unfold jZ;rw[hA,aV];exact h2 _⟩
 ·rename_i τ x _ _ aV
  obtain⟨υ,y,h1,h2⟩:=eX h
  exact⟨υ,h1,fun H' hA k'=>by unfold jZ;rw[hA,aV];exact h2 _⟩
 ·rename_i e l aV
  split at h
  ·obtain⟨υ,y,h1,h2⟩:=eX h
   exact⟨υ,h1,fun H' hA k'=>by unfold jZ;rw[hA,aV];exact h2 _⟩
  ·cases h
 ·rename_i e l aV
  split at h
  ·obtain⟨υ,y,h1,h2⟩:=eX h
   exact⟨υ,h1,fun H' hA k'=>by unfold jZ;rw[hA,aV];exact h2 _⟩
  ·cases h
 ·cases h
theorem s8{H:Nat→Option aS}{id:Nat}{e:aS}{K:Option α}(h:nL H id e K=some r):K=some r∧ ∀H',H' id=H id→ ∀(e':aS) (K':Option α),nL H' id e' K'=K':=by
 obtain⟨h1,h2⟩:=iF h
 exact⟨h2,fun H' hA e' K'=>by unfold nL;rw[hA,h1]⟩
theorem Ot{b:BinOp}{k:IntKind}{x y:Int}{K:bb→Option α}(h:qu b k x y K=some r): ∃v,K v=some r∧ ∀K':bb→Option α,qu b k x y K'=K' v:=by
 cases b<;>simp only[qu]at h ⊢ <;>first
  |exact⟨_,h,fun _=>rfl⟩
  |(obtain⟨h1,h2⟩:=pZ h;exact⟨_,h1,fun _=>h2 _⟩)
  |cases h
theorem acO{b:BinOp}{k:IntKind}{x y:Int}{K:bb→Option α}(h:Up b k x y K=some r): ∃v,K v=some r∧ ∀K':bb→Option α,Up b k x y K'=K' v:=by
 cases b<;>simp only[Up]at h ⊢ <;>first
  |(obtain⟨h1,h2⟩:=pZ h;exact⟨_,h1,fun _=>h2 _⟩)
  |cases h
theorem QU{t:Option Ty}{op:BinOp}{τ:Ty}{x:τ.den}{υ:Ty}{y:υ.den}{K:bb→Option α}(h:Aa t op τ x υ y K=some r): ∃v,K v=some r∧ ∀K':bb→Option α,Aa t op τ x υ y K'=K' v:=by
 unfold Aa at h ⊢
 split at h
 ·rename_i k x k' y
  cases hs:Uq op
  ·rw[hs]at h
   have h:(if k=k' then qu op k x y K else none)=some r:=h
   by_cases hk:k=k'
   ·rw[ayF hk]at h
    obtain⟨v,h1,h2⟩:=Ot h
    exact⟨v,h1,fun K'=>by simp only[ayB,ayF hk];exact h2 K'⟩
   ·rw[ayE hk]at h;cases h
  ·rw[hs]at h
   obtain⟨v,h1,h2⟩:=acO (h:Up op k x y K=some r)
   exact⟨v,h1,fun K'=>by simp only[ayz];exact h2 K'⟩
 ·split at h
  ·cases h
  ·obtain⟨h1,h2⟩:=gL h
   obtain⟨h3,h4⟩:=de h1
   split at h3
   ·obtain⟨z,h5,h6⟩:=cZ h3
    exact⟨_,h5,fun K'=>by rw[h2,h4];exact h6 _⟩
   ·obtain⟨z,h5,h6⟩:=cZ h3
    exact⟨_,h5,fun K'=>by rw[h2,h4];exact h6 _⟩
   ·cases h3
theorem UQ{u:UnOp}{a:bb}{K:bb→Option α}(h:N2 u a K=some r): ∃v,K v=some r∧ ∀K':bb→Option α,N2 u a K'=K' v:=by
 unfold N2 at h
 split at h<;>first
  |exact⟨_,h,fun _=>rfl⟩
  |cases h
theorem K0{up:Bool}: ∀{xs:List bb} {a:bb} {K:bb→Option α},T0 up a xs K=some r→ ∃v,K v=some r∧ ∀K':bb→Option α,T0 up a xs K'=K' v
 |[],a,K,h=>⟨a,h,fun _=>rfl⟩
 |b::xs,a,K,h=>by
  unfold T0 at h
  obtain⟨k,x,h1,h2⟩:=o5 h
  obtain⟨k',y,h3,h4⟩:=o5 h1
  by_cases hk:k=k'
  ·rw[ayF hk]at h3
   obtain⟨v,h5,h6⟩:=K0 h3
   refine⟨v,h5,fun K'=> ?_⟩
   unfold T0
   rw[h2,h4,ayF hk]
   exact h6 K'
  ·rw[ayE hk]at h3;cases h3
theorem UR{τ:Ty}{a:bb}{H:Nat→Option aS}{K:fO α}(h:GF τ a H K=some r): ∃v rd ups,K v rd ups=some r∧ ∀H',Ag rd H H'→ ∀K':fO α,GF τ a H' K'=K' v rd ups:=by
 unfold GF at h
 split at h
 ·exact⟨_,_,_,h,fun _ _ _=>rfl⟩
 ·exact⟨_,_,_,h,fun _ _ _=>rfl⟩
 ·exact⟨_,_,_,h,fun _ _ _=>rfl⟩
 ·exact⟨_,_,_,h,fun _ _ _=>rfl⟩
 ·split at h
  ·rename_i aV
   exact⟨_,_,_,h,fun H' hA K'=>by unfold GF;simp only;rw[hA _ (by simp),aV]⟩
  ·rename_i aV
   exact⟨_,_,_,h,fun H' hA K'=>by unfold GF;simp only;rw[hA _ (by simp),aV]⟩
  ·cases h
 ·cases h
theorem US{id:Nat}{e:Ty}{a b:bb}{H:Nat→Option aS}{K:fO α}(h:GG id e a b H K=some r): ∃v rd ups,K v rd ups=some r∧id∈rd∧ ∀H',Ag rd H H'→ ∀K':fO α,GG id e a b H' K'=K' v rd ups:=by
 unfold GG at h
 obtain⟨ys,rd,ups,h1,h2⟩:=lK h
 split at h1
 ·obtain⟨h3,h4⟩:=de h1
  refine⟨_,_,_,h3,by simp,fun H' hA K'=> ?_⟩
  unfold GG
  rw[h2 H' (fun i hi=>hA i (ayK _ hi))]
  exact h4 _
 ·rename_i j
  split at h1
  ·rename_i e' l hj
   obtain⟨z,h3,h4⟩:=cZ h1
   obtain⟨h5,h6⟩:=de h3
   refine⟨_,_,_,h5,by simp,fun H' hA K'=> ?_⟩
   unfold GG
   rw[h2 H' (fun i hi=>hA i (ayK _ (ayK _ hi)))]
   simp only
   rw[hA j (by simp),hj]
   simp only
   rw[h4]
   exact h6 _
  ·cases h1
 ·cases h1
theorem AA{e:Ty}{n:Nat}{H:Nat→Option aS}: ∀{ps:List (Nat×bb)} {l:List e.den} {Dr:List Nat} {AB:fN} {K:List e.den→List Nat→fN→Option α},rV e H n ps l Dr AB K=some r→
  ∃l' rd ups,K l' rd ups=some r∧(∀i∈Dr,i∈rd)∧ ∀H',Ag rd H H'→ ∀K':List e.den→List Nat→fN→Option α,rV e H' n ps l Dr AB K'=K' l' rd ups
 |[],l,Dr,AB,K,h=>⟨l,Dr,AB,h,fun _ h=>h,fun _ _ _=>rfl⟩
 |p::ps,l,Dr,AB,K,h=>by
  unfold rV at h
  obtain⟨h1,h2⟩:=de h
  obtain⟨y,rd1,KW,h3,h4⟩:=lK h1
  obtain⟨l',rd,ups,h5,h6,h7⟩:=AA h3
  refine⟨l',rd,ups,h5,fun i hi=>h6 i (ay3 _ hi),fun H' hA K'=> ?_⟩
  unfold rV
  rw[h2,h4 H' (fun i hi=>hA i (h6 i (ayZ _ hi)))]
  exact h7 H' hA K'
theorem Ds{τ:Ty}{H:Nat→Option aS}: ∀{ps:List (Nat×bb)} {x:τ.den} {Dr:List Nat} {AB:fN} {K:τ.den→List Nat→fN→Option α},qv τ H ps x Dr AB K=some r→
  ∃x' rd ups,K x' rd ups=some r∧(∀i∈Dr,i∈rd)∧ ∀H',Ag rd H H'→ ∀K':τ.den→List Nat→fN→Option α,qv τ H' ps x Dr AB K'=K' x' rd ups
 |[],x,Dr,AB,K,h=>⟨x,Dr,AB,h,fun _ h=>h,fun _ _ _=>rfl⟩
 |p::ps,x,Dr,AB,K,h=>by
  unfold qv at h
  obtain⟨υ,z,h1,h2⟩:=s7 h
  obtain⟨y,rd1,KW,h3,h4⟩:=lK h1
  obtain⟨z',h5,h6⟩:=uy (m:=fun υ' _ k'=>cv υ υ' y k') (fun υ' y' k hk=>cZ hk) h3
  obtain⟨x',rd,ups,h7,h8,h9⟩:=Ds h5
  refine⟨x',rd,ups,h7,fun i hi=>h8 i (ay3 _ hi),fun H' hA K'=> ?_⟩
  unfold qv
  rw[h2,h4 H' (fun i hi=>hA i (h8 i (ayZ _ hi))),h6]
  exact h9 H' hA K'
theorem QV{H:Nat→Option aS}{v:bb}{a:Ty}{k:a.den→List Nat→fN→Option α}(h:xJ v H a k=some r):
  ∃x rd ups,k x rd ups=some r∧ ∀H',Ag rd H H'→ ∀k':a.den→List Nat→fN→Option α,xJ v H' a k'=k' x rd ups:=by
 unfold xJ at h
 split at h
 ·split at h
  ·obtain⟨z,h1,h2⟩:=cZ h
   refine⟨_,_,_,h1,fun H' _ k'=> ?_⟩
   unfold xJ
   simp only
   rw[h2]
  ·cases h
 ·rename_i k0 pU
  obtain⟨y,rd,ups,h1,h2⟩:=lK h
  refine⟨y,rd,ups,h1,fun H' hA k'=> ?_⟩
  unfold xJ
  split
  ·exact(pU _ _ rfl HEq.rfl).elim
  ·exact h2 H' hA _
theorem Hg{H:Nat→Option aS}: ∀{τ:Ty} {vs:List bb} {k:τ.den→List Nat→fN→Option α},nM H τ vs k=some r→
  ∃x rd ups,k x rd ups=some r∧ ∀H',Ag rd H H'→ ∀k':τ.den→List Nat→fN→Option α,nM H' τ vs k'=k' x rd ups
 | .unit,[],k,h=>⟨(),[],[],h,fun _ _ _=>rfl⟩
 | .pair a b,v::vs,k,h=>by
  unfold nM at h
  obtain⟨y,rd,ups,h1,h2⟩:=QV h
  obtain⟨ys,wU,kT,h3,h4⟩:=Hg h1
  refine⟨(y,ys),_,_,h3,fun H' hA k'=> ?_⟩
  unfold nM
  rw[h2 H' (fun i hi=>hA i (ay3 _ hi)),h4 H' (fun i hi=>hA i (ayZ _ hi))]
 | .unit,_::_,_,h=>by simp[nM]at h
 | .pair _ _,[],_,h=>by simp[nM]at h
 | .int _,_,_,h| .bool,_,_,h| .str,_,_,h| .slice _,_,_,h| .arr _ _,_,_,h=>by simp[nM]at h
theorem AD: ∀{m6:List bb} {H:Nat→Option aS} {K:List bb→List Nat→fN→Option α},rW H m6 K=some r→
  ∃cs rd ups,K cs rd ups=some r∧ ∀H',Ag rd H H'→ ∀K':List bb→List Nat→fN→Option α,rW H' m6 K'=K' cs rd ups
 |[],H,K,h=>⟨[],[],[],h,fun _ _ _=>rfl⟩
 |a::m6,H,K,h=>by
  unfold rW at h
  split at h
  ·rename_i id
   split at h
   ·rename_i τ x aV
    obtain⟨cs,rd,ups,h1,h2⟩:=AD h
    refine⟨_,_,_,h1,fun H' hA K'=> ?_⟩
    unfold rW
    simp only
    rw[hA id (by simp),aV]
    simp only
    rw[h2 (bz H' id (some .gone)) (fun i hi=>by
     by_cases bC:i=id
     ·subst bC;rw[al,al]
     ·rw[an _ _ bC,an _ _ bC];exact hA i (ayK _ hi))]
   ·cases h
  ·rename_i pU
   obtain⟨cs,rd,ups,h1,h2⟩:=AD h
   refine⟨_,_,_,h1,fun H' hA K'=> ?_⟩
   unfold rW
   split
   ·exact absurd rfl (pU _)
   ·rw[h2 H' hA]
end VM
end
section
namespace VM
open Go
variable{α:Type}{r:α}
theorem Hh{m:AM}{a:bb}{H:Nat→Option aS}{k:m.den→(Nat→Option aS)→List Nat→fN→fN→List (Nat×Ty)→Option α}(h:lP m a H k=some r):
  ∃y rd uo uf io,∃g:(Nat→Option aS)→(Nat→Option aS),k y (g H) rd uo uf io=some r∧(∀H' i,H' i=H i→g H' i=g H i)∧
   ∀H',Ag rd H H'→ ∀k':m.den→(Nat→Option aS)→List Nat→fN→fN→List (Nat×Ty)→Option α,lP m a H' k'=k' y (g H') rd uo uf io:=by
 have Ou: ∀(d:Nat) (v:Option aS) (H':Nat→Option aS) (i:Nat),H' i=H i→bz H' d v i=bz H d v i:=by
  intro d v H' i hi
  by_cases aV:i=d
  ·subst aV;rw[al,al]
  ·rw[an _ _ aV,an _ _ aV,hi]
 unfold lP at h
 split at h
 ·rename_i τ k
  obtain⟨y,rd,ups,h1,h2⟩:=lK h
  cases ups with
  |nil=>
   refine⟨y,rd,[],[],[],fun H=>H,h1,fun _ _ h=>h,fun H' hA k'=> ?_⟩
   unfold lP;simp only;rw[h2 H' hA]
  |cons u rest=>
   refine⟨y,rd,[],u::rest,[],fun H=>bz H u.1 u.2,h1,fun H' i hi=>Ou _ _ H' i hi,fun H' hA k'=> ?_⟩
   unfold lP;simp only;rw[h2 H' hA]
 ·rename_i e k
  split at h
  ·exact⟨[],[],[],[],[],fun H=>H,h,fun _ _ h=>h,fun _ _ _=>rfl⟩
  ·rename_i id
   split at h
   ·rename_i e' l aV
    obtain⟨z,h1,h2⟩:=cZ h
    refine⟨z,[id],_,_,_,fun H=>bz H id (some .gone),h1,fun H' i hi=>Ou _ _ H' i hi,fun H' hA k'=> ?_⟩
    unfold lP;simp only;rw[hA id (by simp),aV];simp only;rw[h2]
   ·cases h
  ·cases h
 ·rename_i τ k
  split at h
  ·rename_i id
   split at h
   ·rename_i υ x aV
    obtain⟨z,h1,h2⟩:=cZ h
    refine⟨z,[id],_,_,_,fun H=>bz H id (some .gone),h1,fun H' i hi=>Ou _ _ H' i hi,fun H' hA k'=> ?_⟩
    unfold lP;simp only;rw[hA id (by simp),aV];simp only;rw[h2]
   ·cases h
  ·cases h
 ·rename_i f τ k
  split at h
  ·rename_i f' cs
   obtain⟨h1,h2⟩:=de h
   obtain⟨x,rd,ups,h3,h4⟩:=Hg h1
   cases ups with
   |nil=>
    refine⟨x,rd,[],[],[],fun H=>H,h3,fun _ _ h=>h,fun H' hA k'=> ?_⟩
    unfold lP;simp only;rw[h2,h4 H' hA]
   |cons _ _=>cases h3
  ·cases h
 ·cases h
 ·rename_i τ k
  split at h
  ·obtain⟨z,h1,h2⟩:=cZ h
   refine⟨z,[],[],[],[],fun H=>H,h1,fun _ _ h=>h,fun H' hA k'=> ?_⟩
   unfold lP;simp only;rw[h2]
  ·cases h
theorem Hi: ∀{ms:List AM} {m6:List bb} {H:Nat→Option aS} {Dr:List Nat} {uo0 uf0:fN} {io0:List (Nat×Ty)} {K:HP ms→List Nat→fN→fN→List (Nat×Ty)→Option α},pN ms m6 H Dr uo0 uf0 io0 K=some r→
  ∃x rd uo uf io,K x rd uo uf io=some r∧(∀i∈Dr,i∈rd)∧ ∀H',Ag rd H H'→ ∀K':HP ms→List Nat→fN→fN→List (Nat×Ty)→Option α,pN ms m6 H' Dr uo0 uf0 io0 K'=K' x rd uo uf io
 |[],[],H,Dr,uo0,uf0,io0,K,h=>⟨(),_,_,_,_,h,fun _ h=>h,fun _ _ _=>rfl⟩
 |[m],[a],H,Dr,uo0,uf0,io0,K,h=>by
  obtain⟨y,rd,uo,uf,io,g,h1,h2,h3⟩:=Hh (h:lP m a H _=some r)
  exact⟨y,_,_,_,_,h1,fun i hi=>ay3 _ hi,fun H' hA K'=>h3 H' (fun i hi=>hA i (ayZ _ hi)) _⟩
 |m::n::ms,a::m6,H,Dr,uo0,uf0,io0,K,h=>by
  obtain⟨y,rd,uo,uf,io,g,h1,h2,h3⟩:=Hh (h:lP m a H _=some r)
  obtain⟨ys,wU,Gn,Gp,Cm,h4,h5,h6⟩:=Hi (ms:=n::ms) h1
  refine⟨(y,ys),wU,Gn,Gp,Cm,h4,fun i hi=>h5 i (ay3 _ hi),fun H' hA K'=> ?_⟩
  refine(h3 H' (fun i hi=>hA i (h5 i (ayZ _ hi))) _).trans ?_
  exact h6 (g H') (fun i hi=>h2 H' i (hA i hi)) _
 |[],_::_,_,_,_,_,_,_,h=>by simp[pN]at h
 |[_],[],_,_,_,_,_,_,h=>by simp[pN]at h
 |[_],_::_::_,_,_,_,_,_,_,h=>by simp[pN]at h
 |_::_::_,[],_,_,_,_,_,_,h=>by simp[pN]at h
theorem QW{id i:Nat}: ∀{n:Nat},i∈GI id n↔id≤i∧i<id+n
 |0=>by simp[GI]
 |n+1=>by simp only[GI,ayY,QW];omega
theorem tZ{H H':Nat→Option aS}{id:Nat}: ∀{n:Nat},(∀i∈GI id n,H' i=H i)→qw H' id n=qw H id n
 |0,_=>rfl
 |n+1,h=>by
  unfold qw
  rw[h (id+n) (by simp[GI]),tZ fun i hi=>h i (by simp[GI,hi])]
theorem QX{E:Env}{f id:Nat}{m6:List bb}{H:Nat→Option aS}{K:fO α}(h:xL E f m6 id H K=some r): ∃v rd ups,K v rd ups=some r∧ ∀H',Ag rd H H'→ ∀K':fO α,xL E f m6 id H' K'=K' v rd ups:=by
 unfold xL at h
 split at h
 ·cases h
 ·rename_i S hS
  obtain⟨x,rd,uo,uf,io,h1,_,h2⟩:=Hi h
  obtain⟨y,hy,h3⟩:=az7.1 h1
  obtain⟨h4,h5⟩:=bP h3
  refine⟨_,_,_,h5,fun H' hA K'=> ?_⟩
  unfold xL
  rw[hS]
  simp only
  rw[h2 H' (fun i hi=>hA i (ay3 _ (ay3 _ hi))),hy]
  simp only[ayy]
  rw[tZ (fun i hi=>hA i (ayZ _ hi)),h4]
  rfl
theorem Ov{t:Ty}{z:Bool}{a:bb}{lo hi mx:Option bb}{H:Nat→Option aS}{K:fO α}(h:nN t z a lo hi mx H K=some r): ∃v rd ups,K v rd ups=some r∧ ∀H',Ag rd H H'→ ∀K':fO α,nN t z a lo hi mx H' K'=K' v rd ups:=by
 unfold nN at h
 split at h
 ·obtain⟨h1,e1⟩:=de h
  obtain⟨l,h2,e2⟩:=qE h1
  obtain⟨m,h3,e3⟩:=qE h2
  obtain⟨h4,e4⟩:=de h3
  exact⟨_,_,_,h4,fun H' _ K'=>by unfold nN;simp only;rw[e1,e2,e3,e4]⟩
 ·cases z
  ·obtain⟨h1,e1⟩:=de (h:cond mx.isNone _ none=some r)
   obtain⟨l,h2,e2⟩:=qE h1
   obtain⟨m,h3,e3⟩:=qE h2
   obtain⟨h4,e4⟩:=de h3
   exact⟨_,_,_,h4,fun H' _ K'=>by unfold nN;simp only[ayB];rw[e1,e2,e3,e4]⟩
  ·exact⟨_,_,_,h,fun H' _ K'=>by unfold nN;rfl⟩
 ·rename_i e gq
  obtain⟨y,rd,ups,h1,e1⟩:=lK h
  cases z
  ·obtain⟨h2,e2⟩:=de (h1:cond (mx.isNone||hi.isSome) _ none=some r)
   obtain⟨l,h3,e3⟩:=qE h2
   obtain⟨m,h4,e4⟩:=qE h3
   obtain⟨n,h5,e5⟩:=qE h4
   obtain⟨h6,e6⟩:=de h5
   refine⟨_,_,_,h6,fun H' hA K'=> ?_⟩
   unfold nN
   simp only
   rw[e1 H' hA]
   simp only[ayB]
   rw[e2,e3,e4,e5,e6]
  ·refine⟨_,_,_,(h1:K .emp rd []=some r),fun H' hA K'=> ?_⟩
   unfold nN
   simp only
   rw[e1 H' hA]
   rfl
 ·cases h
theorem CN{τ:Ty}{a i:bb}{H:Nat→Option aS}{K:fO α}(h:eD τ a i H K=some r): ∃v rd ups,K v rd ups=some r∧ ∀H',Ag rd H H'→ ∀K':fO α,eD τ a i H' K'=K' v rd ups:=by
 unfold eD at h
 obtain⟨k,n,h,e0⟩:=o5 h
 split at h
 ·split at h
  ·obtain⟨z,h1,e1⟩:=cZ h
   obtain⟨h2,e2⟩:=de h1
   exact⟨_,_,_,h2,fun H' _ K'=>by unfold eD;rw[e0];simp only;rw[e1,e2]⟩
  ·split at h
   ·rename_i aV
    obtain⟨h1,e1⟩:=gL h
    obtain⟨h2,e2⟩:=de h1
    exact⟨_,_,_,h2,fun H' hA K'=>by unfold eD;rw[e0];simp only;rw[hA _ (by simp),aV];simp only;rw[e1,e2]⟩
   ·rename_i aV
    obtain⟨h1,e1⟩:=gL h
    obtain⟨h2,e2⟩:=de h1
    exact⟨_,_,_,h2,fun H' hA K'=>by unfold eD;rw[e0];simp only;rw[hA _ (by simp),aV];simp only;rw[e1,e2]⟩
   ·cases h
  ·cases h
 ·split at h
  ·obtain⟨υ,h1,e1⟩:=w5 h
   obtain⟨h2,e2⟩:=gL h1
   obtain⟨h3,e3⟩:=de h2
   exact⟨_,_,_,h3,fun H' hA K'=>by unfold eD;rw[e0];simp only;rw[e1 H' (hA _ (by simp)),e2,e3]⟩
  ·obtain⟨z,h1,e1⟩:=cZ h
   obtain⟨h2,e2⟩:=de h1
   exact⟨_,_,_,h2,fun H' _ K'=>by unfold eD;rw[e0];simp only;rw[e1,e2]⟩
  ·cases h
 ·cases h
theorem Ow{τ:Ty}{a i:bb}{K:bb→Option α}(h:rX τ a i K=some r): ∃v,K v=some r∧ ∀K':bb→Option α,rX τ a i K'=K' v:=by
 unfold rX at h
 obtain⟨k,n,h,e0⟩:=o5 h
 split at h
 ·obtain⟨z,h1,e1⟩:=cZ h
  obtain⟨h2,e2⟩:=de h1
  exact⟨_,h2,fun K'=>by unfold rX;rw[e0];simp only;rw[e1,e2]⟩
 ·obtain⟨h2,e2⟩:=de h
  exact⟨_,h2,fun K'=>by unfold rX;rw[e0];simp only;rw[e2]⟩
 ·cases h
theorem QY{a:bb}{H:Nat→Option aS}{K:(υ:Ty)→υ.den→List Nat→Option α}(h:ir a H K=some r): ∃υ y rd,K υ y rd=some r∧ ∀H',Ag rd H H'→ ∀K':(υ:Ty)→υ.den→List Nat→Option α,ir a H' K'=K' υ y rd:=by
 unfold ir at h
 split at h
 ·exact⟨_,_,_,h,fun _ _ _=>rfl⟩
 ·split at h
  ·rename_i aV
   obtain⟨υ,y,h1,e1⟩:=eX h
   exact⟨_,_,_,h1,fun H' hA K'=>by unfold ir;simp only;rw[hA _ (by simp),aV];simp only;rw[e1]⟩
  ·rename_i aV
   split at h
   ·obtain⟨υ,y,h1,e1⟩:=eX h
    exact⟨_,_,_,h1,fun H' hA K'=>by unfold ir;simp only;rw[hA _ (by simp),aV];simp only;rw[e1]⟩
   ·cases h
  ·rename_i aV
   split at h
   ·obtain⟨υ,y,h1,e1⟩:=eX h
    exact⟨_,_,_,h1,fun H' hA K'=>by unfold ir;simp only;rw[hA _ (by simp),aV];simp only;rw[e1]⟩
   ·cases h
  ·cases h
 ·cases h
theorem Ox{τ:Ty}{a v:bb}{H:Nat→Option aS}{K:fO α}(h:jb τ a v H K=some r): ∃u rd ups,K u rd ups=some r∧ ∀H',Ag rd H H'→ ∀K':fO α,jb τ a v H' K'=K' u rd ups:=by
 unfold jb at h
 split at h
 ·obtain⟨y,rd,ups,h1,e1⟩:=lK h
  split at h1
  ·rename_i aV
   obtain⟨z,h2,e2⟩:=lJ h1
   exact⟨_,_,_,h2,fun H' hA K'=>by
    unfold jb;simp only
    rw[e1 H' (fun i hi=>hA i (ayK _ hi))]
    rw[hA _ (by simp),aV];simp only;rw[e2]⟩
  ·rename_i aV
   split at h1
   ·obtain⟨h2,e2⟩:=pZ h1
    obtain⟨z,h3,e3⟩:=lJ h2
    exact⟨_,_,_,h3,fun H' hA K'=>by
     unfold jb;simp only
     rw[e1 H' (fun i hi=>hA i (ayK _ hi))]
     rw[hA _ (by simp),aV];simp only;rw[e2,e3]⟩
   ·cases h1
  ·cases h1
 ·cases h
theorem UT{j:Nat}{q:List Step}{τ:Ty}{x:τ.den}{H:Nat→Option aS}{k:τ.den→fN→Option α}(h:yR j q τ x H k=some r): ∃z ups,k z ups=some r∧ ∀H',H' j=H j→ ∀k':τ.den→fN→Option α,yR j q τ x H' k'=k' z ups:=by
 unfold yR at h
 split at h
 ·rename_i hj
  obtain⟨z,h1,e1⟩:=lJ h
  exact⟨_,_,h1,fun H' hA k'=>by unfold yR;rw[hA,hj];simp only;rw[e1]⟩
 ·rename_i hj
  obtain⟨z,h1,e1⟩:=lJ h
  exact⟨_,_,h1,fun H' hA k'=>by unfold yR;rw[hA,hj];simp only;rw[e1]⟩
 ·cases h
abbrev Pts(F:(Nat→Option aS)→fO α→Option α)(H:Nat→Option aS)(K:fO α)(r:α):Prop:=
 ∃v rd ups,K v rd ups=some r∧ ∀H',Ag rd H H'→ ∀K':fO α,F H' K'=K' v rd ups
theorem QZ{τ:Ty}{a:bb}{H:Nat→Option aS}{K:fO α}(h:(ir a H fun υ y rd=>cv υ τ y fun z=>K (.val τ z) rd [])=some r):
  Pts (fun H K=>ir a H fun υ y rd=>cv υ τ y fun z=>K (.val τ z) rd []) H K r:=by
 obtain⟨υ,y,rd,h1,e1⟩:=QY h
 obtain⟨z,h2,e2⟩:=cZ h1
 exact⟨_,_,_,h2,fun H' hA K'=>by simp only;rw[e1 H' hA,e2]⟩
theorem ah7{id:Nat}{p:List Step}{H:Nat→Option aS}{K:(υ:Ty)→υ.den→List Nat→Option α}(h:ir (.fW id p) H K=some r): ∃υ y,K υ y [id]=some r:=by
 unfold ir at h
 simp only at h
 split at h
 ·obtain⟨υ,y,h1,_⟩:=eX h;exact⟨υ,y,h1⟩
 ·split at h
  ·obtain⟨υ,y,h1,_⟩:=eX h;exact⟨υ,y,h1⟩
  ·cases h
 ·split at h
  ·obtain⟨υ,y,h1,_⟩:=eX h;exact⟨υ,y,h1⟩
  ·cases h
 ·cases h
theorem Q0{τ:Ty}{id:Nat}{p:List Step}{H:Nat→Option aS}{K:fO α}(h:(ir (.fW id p) H fun υ y rd=>cv υ τ y fun z=>K (.val τ z) rd [])=some r):
  ∃z,K (.val τ z) [id] []=some r∧ ∀H',H' id=H id→ ∀K':fO α,(ir (.fW id p) H' fun υ y rd=>cv υ τ y fun z=>K' (.val τ z) rd [])=K' (.val τ z) [id] []:=by
 unfold ir at h
 simp only at h
 split at h
 ·rename_i aV
  obtain⟨υ,y,h1,e1⟩:=eX h
  obtain⟨z,h2,e2⟩:=cZ h1
  exact⟨_,h2,fun H' hA K'=>by unfold ir;simp only;rw[hA,aV];simp only;rw[e1,e2]⟩
 ·rename_i aV
  split at h
  ·obtain⟨υ,y,h1,e1⟩:=eX h
   obtain⟨z,h2,e2⟩:=cZ h1
   exact⟨_,h2,fun H' hA K'=>by unfold ir;simp only;rw[hA,aV];simp only;rw[e1,e2]⟩
  ·cases h
 ·rename_i aV
  split at h
  ·obtain⟨υ,y,h1,e1⟩:=eX h
   obtain⟨z,h2,e2⟩:=cZ h1
   exact⟨_,h2,fun H' hA K'=>by unfold ir;simp only;rw[hA,aV];simp only;rw[e1,e2]⟩
  ·cases h
 ·cases h
theorem Q1{τ:Ty}{a:bb}{H:Nat→Option aS}{K:fO α}(h:ry τ a H K=some r):Pts (ry τ a) H K r:=by
 unfold ry at h
 simp only at h
 split at h
 ·rename_i id p
  split at h
  ·rename_i υ x q j aV
   cases hp:GA p q
   ·cases Cn:tB p q
    ·rw[hp,Cn]at h
     simp only[ayB]at h
     obtain⟨υ',y,h1,e1⟩:=eX h
     obtain⟨z,h2,e2⟩:=cZ h1
     exact⟨_,_,_,h2,fun H' hA K'=>by
      unfold ry;simp only;rw[hA id (by simp),aV];simp only
      rw[hp,Cn];simp only[ayB];rw[e1,e2]⟩
    ·rw[hp,Cn]at h
     simp only[ayB,ayz]at h
     obtain⟨z,ups,h1,e1⟩:=UT h
     obtain⟨υ',y,h2,e2⟩:=eX h1
     obtain⟨z',h3,e3⟩:=cZ h2
     exact⟨_,_,_,h3,fun H' hA K'=>by
      unfold ry;simp only;rw[hA id (by simp),aV];simp only
      rw[hp,Cn];simp only[ayB,ayz];rw[e1 H' (hA j (by simp)),e2,e3]⟩
   ·rw[hp]at h
    simp only[ayz]at h
    obtain⟨h1,e1⟩:=de h
    exact⟨_,_,_,h1,fun H' hA K'=>by
     unfold ry;simp only;rw[hA id (by simp),aV];simp only
     rw[hp];simp only[ayz];rw[e1]⟩
  ·rename_i pU
   obtain⟨z,h1,e1⟩:=Q0 h
   refine⟨_,_,_,h1,fun H' hA K'=> ?_⟩
   unfold ry;simp only;rw[hA id (by simp)]
   split
   ·rename_i aV;exact absurd aV (pU _ _ _ _)
   ·exact e1 H' (hA id (by simp)) K'
 ·rename_i pU
  obtain⟨v,rd,ups,h1,e1⟩:=QZ h
  refine⟨v,rd,ups,h1,fun H' hA K'=> ?_⟩
  have:ry τ a H' K'=ir a H' fun υ y rd=>cv υ τ y fun z=>K' (.val τ z) rd []:=by
   unfold ry
   cases a<;>first|rfl|exact absurd rfl (pU _ _)
  rw[this]
  exact e1 H' hA K'
theorem Hj{τ:Ty}{id k:Nat}{e:Ty}{q:List Step}{υ:Ty}{x:υ.den}{H:Nat→Option aS}{K:fO α}(h:xM τ id k e q υ x H K=some r):
  ∃v ups,K v [id,k] ups=some r∧ ∀H',H' k=H k→ ∀K':fO α,xM τ id k e q υ x H' K'=K' v [id,k] ups:=by
 unfold xM at h
 split at h
 ·rename_i aV
  obtain⟨h1,e1⟩:=gL h
  obtain⟨h2,e2⟩:=gL h1
  obtain⟨z,h3,e3⟩:=lJ h2
  exact⟨_,_,h3,fun H' hA K'=>by unfold xM;rw[hA,aV];simp only;rw[e1,e2,e3]⟩
 ·cases h
theorem w6{τ:Ty}{id:Nat}{p:List Step}{v:bb}{H:Nat→Option aS}{K:fO α}(h:jb τ (.fW id p) v H K=some r):
  ∃u rd ups,id∈rd∧K u rd ups=some r∧ ∀H',Ag rd H H'→ ∀K':fO α,jb τ (.fW id p) v H' K'=K' u rd ups:=by
 unfold jb at h
 simp only at h
 obtain⟨y,rd,ups,h1,e1⟩:=lK h
 split at h1
 ·rename_i aV
  obtain⟨z,h2,e2⟩:=lJ h1
  exact⟨_,_,_,by simp,h2,fun H' hA K'=>by
   unfold jb;simp only
   rw[e1 H' (fun i hi=>hA i (ayK _ hi))]
   rw[hA _ (by simp),aV];simp only;rw[e2]⟩
 ·rename_i aV
  split at h1
  ·obtain⟨h2,e2⟩:=pZ h1
   obtain⟨z,h3,e3⟩:=lJ h2
   exact⟨_,_,_,by simp,h3,fun H' hA K'=>by
    unfold jb;simp only
    rw[e1 H' (fun i hi=>hA i (ayK _ hi))]
    rw[hA _ (by simp),aV];simp only;rw[e2,e3]⟩
  ·cases h1
 ·cases h1
theorem w7{E:Env}{τ:Ty}{a v:bb}{H:Nat→Option aS}{K:fO α}(h:gI E τ a v H K=some r):
  ∃u rd ups,K u rd ups=some r∧ ∀H',Ag rd H H'→ ∀K':fO α,gI E τ a v H' K'=K' u rd ups:=by
 have h0:=h
 unfold gI at h
 simp only at h
 split at h
 ·rename_i id p
  split at h
  ·rename_i υ x aV
   split at h
   ·rename_i q e k pT
    cases hp:GA p q
    ·rw[hp]at h
     simp only[ayB]at h
     obtain⟨u,rd,ups,hi,h1,e1⟩:=w6 h
     refine⟨u,rd,ups,h1,fun H' hA K'=> ?_⟩
     unfold gI;simp only;rw[hA id hi,aV];simp only;rw[pT];simp only;rw[hp];simp only[ayB]
     exact e1 H' hA K'
    ·rw[hp]at h
     simp only[ayz]at h
     obtain⟨u,ups,h1,e1⟩:=Hj h
     refine⟨u,_,ups,h1,fun H' hA K'=> ?_⟩
     unfold gI;simp only;rw[hA id (by simp),aV];simp only;rw[pT];simp only;rw[hp];simp only[ayz]
     exact e1 H' (hA k (by simp)) K'
   ·rename_i pU
    obtain⟨u,rd,ups,hi,h1,e1⟩:=w6 h
    refine⟨u,rd,ups,h1,fun H' hA K'=> ?_⟩
    unfold gI;simp only;rw[hA id hi,aV];simp only
    exact e1 H' hA K'
  ·rename_i υ x q j aV
   have vq:(iZ true v H τ fun y rd ups=>rI τ y p υ x fun z=>K .any (id::rd) (ups++[(id,some (cond (tB p q) (.obj υ z) (.ej υ z q j)))]))=some r→
     ∃u rd ups,id∈rd∧K u rd ups=some r∧ ∀H',Ag rd H H'→ ∀K':fO α,(iZ true v H' τ fun y rd ups=>rI τ y p υ x fun z=>K' .any (id::rd) (ups++[(id,some (cond (tB p q) (.obj υ z) (.ej υ z q j)))]))=K' u rd ups:=by
    intro h
    obtain⟨y,rd,ups,h1,e1⟩:=lK h
    obtain⟨z,h2,e2⟩:=lJ h1
    exact⟨_,_,_,by simp,h2,fun H' hA K'=>by rw[e1 H' (fun i hi=>hA i (ayK _ hi)),e2]⟩
   split at h
   ·rename_i q' e k pT
    cases hp:(GA p q&&GA q q')
    ·rw[hp]at h
     simp only[ayB]at h
     obtain⟨u,rd,ups,hi,h1,e1⟩:=vq h
     refine⟨u,rd,ups,h1,fun H' hA K'=> ?_⟩
     unfold gI;simp only;rw[hA id hi,aV];simp only;rw[pT];simp only;rw[hp];simp only[ayB]
     exact e1 H' hA K'
    ·rw[hp]at h
     simp only[ayz]at h
     obtain⟨u,ups,h1,e1⟩:=Hj h
     refine⟨u,_,ups,h1,fun H' hA K'=> ?_⟩
     unfold gI;simp only;rw[hA id (by simp),aV];simp only;rw[pT];simp only;rw[hp];simp only[ayz]
     exact e1 H' (hA k (by simp)) K'
   ·rename_i pU
    obtain⟨u,rd,ups,hi,h1,e1⟩:=vq h
    refine⟨u,rd,ups,h1,fun H' hA K'=> ?_⟩
    unfold gI;simp only;rw[hA id hi,aV];simp only
    exact e1 H' hA K'
  ·rename_i anG anH
   obtain⟨u,rd,ups,hi,h1,e1⟩:=w6 h
   refine⟨u,rd,ups,h1,fun H' hA K'=> ?_⟩
   unfold gI;simp only;rw[hA id hi]
   split
   ·rename_i aV;exact absurd aV (anG _ _)
   ·rename_i aV;exact absurd aV (anH _ _ _ _)
   ·exact e1 H' hA K'
 ·rename_i pU
  obtain⟨u,rd,ups,h1,e1⟩:=Ox h
  refine⟨u,rd,ups,h1,fun H' hA K'=> ?_⟩
  have:gI E τ a v H' K'=jb τ a v H' K':=by
   unfold gI
   cases a<;>first|rfl|exact absurd rfl (pU _ _)
  rw[this]
  exact e1 H' hA K'
theorem Oy{E:Env}{τ:Ty}{a v:bb}{H:Nat→Option aS}{K:fO α}(h:pA E τ a v H K=some r):
  ∃u rd ups,K u rd ups=some r∧ ∀H',Ag rd H H'→ ∀K':fO α,pA E τ a v H' K'=K' u rd ups:=by
 unfold pA at h
 split at h
 ·rename_i id υ y n
  split at h
  ·rename_i m e pT
   cases Aj:Nat.beq m n
   ·rw[Aj]at h
    simp only[ayB]at h
    obtain⟨u,rd,ups,h1,e1⟩:=w7 h
    exact⟨u,rd,ups,h1,fun H' hA K'=>by unfold pA;simp only;rw[pT];simp only;rw[Aj];simp only[ayB];exact e1 H' hA K'⟩
   ·rw[Aj]at h
    simp only[ayz]at h
    obtain⟨h1,e1⟩:=gL h
    obtain⟨υ',h2,e2⟩:=w5 h1
    obtain⟨h3,e3⟩:=gL h2
    obtain⟨h4,e4⟩:=s8 h3
    exact⟨_,_,_,h4,fun H' hA K'=>by unfold pA;simp only;rw[pT];simp only;rw[Aj];simp only[ayz];rw[e1,e2 H' (hA _ (by simp)),e3,e4 H' (hA _ (by simp))]⟩
  ·rename_i pU
   obtain⟨u,rd,ups,h1,e1⟩:=w7 h
   refine⟨u,rd,ups,h1,fun H' hA K'=> ?_⟩
   unfold pA;simp only
   exact e1 H' hA K'
 ·rename_i pU
  obtain⟨u,rd,ups,h1,e1⟩:=w7 h
  refine⟨u,rd,ups,h1,fun H' hA K'=> ?_⟩
  unfold pA
  split
  ·exact absurd rfl (pU _ _ _ _ rfl)
  ·exact e1 H' hA K'
theorem M5{H:Nat→Option aS}{id:Nat}{τ:Ty}{x:τ.den}{q:List Step}{e:Ty}{K:fO α}(h:yS H id τ x q e K=some r):Pts (fun H K=>yS H id τ x q e K) H K r:=by
 obtain⟨h1,h2,h3⟩:=Ai h
 exact⟨_,_,_,h3,fun H' hA K'=>by unfold yS nL;simp only;rw[hA id (by simp),h1,hA (id+1) (by simp),h2]⟩
theorem acP{E:Env}{o:Oper}{ρ:Operand→bb}{H:Nat→Option aS}{K:fO α}(h:pL E o ρ H K=some r):
  ∃v rd ups,K v rd ups=some r∧ ∀ρ' H',(∀x∈o.op.operands,ρ' x=ρ x)→Ag rd H H'→ ∀K':fO α,pL E o ρ' H' K'=K' v rd ups:=by
 obtain⟨dst,op,type,pos,after,guard⟩:=o
 unfold pL at h
 simp only at h
 have UU: ∀{ρ':Operand→bb} (xs:List Operand),(∀x∈xs,ρ' x=ρ x)→xs.map ρ'=xs.map ρ:=fun xs hx=>aAf hx
 have K1: ∀{ρ':Operand→bb} (ps:Array (Nat×Operand)),(∀x∈ps.map (·.2),ρ' x=ρ x)→partsOf ρ' ps=partsOf ρ ps:=fun ps hp=>by
  unfold partsOf
  exact aAf fun p hm=>by rw[hp p.2 (Array.mem_map.2 ⟨p,by simpa using hm,rfl⟩)]
 have acQ: ∀{ρ':Operand→bb} (x:Option Operand),(∀y∈x,ρ' y=ρ y)→x.map ρ'=x.map ρ:=fun x hx=>by
  cases x with
  |none=>rfl
  |some x=>simp[hx x rfl]
 split at h
 ·
  rename_i x
  exact⟨_,_,_,h,fun ρ' H' hx _ K'=>by unfold pL;simp only;rw[hx x (by simp[Op.operands])]⟩
 ·rename_i x
  exact⟨_,_,_,h,fun ρ' H' hx _ K'=>by unfold pL;simp only;rw[hx x (by simp[Op.operands])]⟩
 ·rename_i x y z
  split at h
  ·rename_i t hx
   cases t
   ·exact⟨_,_,_,(h:K (ρ z) [] []=some r),fun ρ' H' pX _ K'=>by unfold pL;simp only;rw[pX x (by simp[Op.operands]),hx,pX z (by simp[Op.operands])];rfl⟩
   ·exact⟨_,_,_,(h:K (ρ y) [] []=some r),fun ρ' H' pX _ K'=>by unfold pL;simp only;rw[pX x (by simp[Op.operands]),hx,pX y (by simp[Op.operands])];rfl⟩
  ·cases h
 ·
  split at h
  ·rename_i τ ht
   split at h
   ·rename_i q e pT
    obtain⟨v,rd,ups,h1,e1⟩:=M5 h
    exact⟨_,_,_,h1,fun ρ' H' hx hA K'=>by unfold pL;simp only;rw[ht];simp only;rw[pT];exact e1 H' hA K'⟩
   ·rename_i pT
    obtain⟨h1,e1⟩:=s8 h
    exact⟨_,_,_,h1,fun ρ' H' hx hA K'=>by unfold pL;simp only;rw[ht];simp only;rw[pT];simp only;rw[e1 H' (hA _ (by simp))]⟩
  ·cases h
 ·
  rename_i t x
  split at h
  ·rename_i τ ht
   have hold:(iZ true (ρ x) H τ fun y rd ups=>nL H (16*dst.getD 0) (.obj τ y) (K (.fW (16*dst.getD 0) []) (16*dst.getD 0::rd) (ups++[(16*dst.getD 0,some (.obj τ y))])))=some r→
     Pts (fun H K=>iZ true (ρ x) H τ fun y rd ups=>nL H (16*dst.getD 0) (.obj τ y) (K (.fW (16*dst.getD 0) []) (16*dst.getD 0::rd) (ups++[(16*dst.getD 0,some (.obj τ y))]))) H K r:=by
    intro h
    obtain⟨y,rd,ups,h1,e1⟩:=lK h
    obtain⟨h2,e2⟩:=s8 h1
    exact⟨_,_,_,h2,fun H' hA K'=>by simp only;rw[e1 H' (fun i hi=>hA i (ayK _ hi)),e2 H' (hA _ (by simp))]⟩
   split at h
   ·rename_i m e υ y n pT Q2
    cases Aj:Nat.beq m n
    ·rw[Aj]at h
     obtain⟨v,rd,ups,h1,e1⟩:=hold h
     refine⟨_,_,_,h1,fun ρ' H' hx hA K'=> ?_⟩
     unfold pL;simp only;rw[ht];simp only
     rw[hx x (by simp[Op.operands]),pT,Q2];simp only
     rw[Aj]
     have:=e1 H' hA K'
     rw[Q2]at this
     exact this
    ·rw[Aj]at h
     simp only[ayz]at h
     obtain⟨z,h1,e1⟩:=cZ h
     obtain⟨v,rd,ups,h2,e2⟩:=M5 h1
     refine⟨_,_,_,h2,fun ρ' H' hx hA K'=> ?_⟩
     unfold pL;simp only;rw[ht];simp only
     rw[hx x (by simp[Op.operands]),pT,Q2];simp only
     rw[Aj];simp only[ayz]
     rw[e1]
     exact e2 H' hA K'
   ·rename_i pU
    obtain⟨v,rd,ups,h1,e1⟩:=hold h
    refine⟨_,_,_,h1,fun ρ' H' hx hA K'=> ?_⟩
    unfold pL;simp only;rw[ht];simp only
    rw[hx x (by simp[Op.operands])]
    split
    ·rename_i pT Q2;exact absurd Q2 (pU _ _ _ _ _ pT)
    ·exact e1 H' hA K'
  ·cases h
 ·
  rename_i t ps
  split at h
  ·rename_i n e ht
   obtain⟨l,rd,ups,h1,_,e1⟩:=AA h
   exact⟨_,_,_,h1,fun ρ' H' hx hA K'=>by unfold pL;simp only;rw[ht];simp only;rw[K1 ps (fun x pX=>hx x (by simpa [Op.operands]using pX)),e1 H' hA]⟩
  ·rename_i τ hna ht
   obtain⟨h0,e0⟩:=de h
   obtain⟨l,rd,ups,h1,_,e1⟩:=Ds h0
   refine⟨_,_,_,h1,fun ρ' H' hx hA K'=> ?_⟩
   unfold pL;simp only;rw[ht]
   have: ∀{β:Type} (A:Nat→Ty→β) (B:Ty→β),(match some τ with|some (.arr n e)=>A n e|some τ=>B τ|none=>B τ)=B τ:=by
    intro β A B
    cases τ<;>first|rfl|exact absurd rfl (hna _ _)
   cases τ with
   |arr n e=>exact absurd rfl (hna n e)
   |_=>
    simp only
    rw[K1 ps (fun x pX=>hx x (by simpa [Op.operands]using pX)),e0,e1 H' hA]
  ·cases h
 ·
  rename_i t n ps
  split at h
  ·rename_i e ht
   obtain⟨h0,e0⟩:=de h
   obtain⟨h1,e1⟩:=s8 h0
   obtain⟨l,rd,ups,h2,_,e2⟩:=AA h1
   exact⟨_,_,_,h2,fun ρ' H' hx hA K'=>by
    unfold pL;simp only;rw[ht];simp only
    rw[e0,e1 H' (hA _ (by simp)),K1 ps (fun x pX=>hx x (by simpa [Op.operands]using pX)),e2 H' (fun i hi=>hA i (ayK _ hi))]⟩
  ·cases h
 ·
  rename_i t x
  split at h
  ·rename_i τ ht
   obtain⟨v,rd,ups,h1,e1⟩:=Q1 h
   exact⟨_,_,_,h1,fun ρ' H' hx hA K'=>by unfold pL;simp only;rw[ht];simp only;rw[hx x (by simp[Op.operands]),e1 H' hA]⟩
  ·cases h
 ·
  rename_i t x y
  split at h
  ·rename_i τ ht
   obtain⟨u,rd,ups,h1,e1⟩:=Oy h
   exact⟨_,_,_,h1,fun ρ' H' hx hA K'=>by unfold pL;simp only;rw[ht];simp only;rw[hx x (by simp[Op.operands]),hx y (by simp[Op.operands]),e1 H' hA]⟩
  ·cases h
 ·
  rename_i x
  split at h
  ·rename_i id p hx
   exact⟨_,_,_,h,fun ρ' H' pX _ K'=>by unfold pL;simp only;rw[pX x (by simp[Op.operands]),hx]⟩
  ·rename_i τ z hx
   exact⟨_,_,_,h,fun ρ' H' pX _ K'=>by unfold pL;simp only;rw[pX x (by simp[Op.operands]),hx]⟩
  ·cases h
 ·
  rename_i b t x y t'
  obtain⟨τ,x1,h1,e1⟩:=M4 h
  obtain⟨υ,y1,h2,e2⟩:=M4 h1
  obtain⟨v,h3,e3⟩:=QU h2
  exact⟨_,_,_,h3,fun ρ' H' hx _ K'=>by unfold pL;simp only;rw[hx x (by simp[Op.operands]),hx y (by simp[Op.operands]),e1,e2,e3]⟩
 ·
  rename_i u t x
  obtain⟨v,h1,e1⟩:=UQ h
  exact⟨_,_,_,h1,fun ρ' H' hx _ K'=>by unfold pL;simp only;rw[hx x (by simp[Op.operands]),e1]⟩
 ·
  rename_i s d x
  split at h
  ·rename_i τ k hs hd
   obtain⟨i,n,h1,e1⟩:=o5 h
   exact⟨_,_,_,h1,fun ρ' H' hx _ K'=>by unfold pL;simp only;rw[hs,hd];simp only;rw[hx x (by simp[Op.operands]),e1]⟩
  ·cases h
 ·
  rename_i f first caps
  obtain⟨h1,e1⟩:=de h
  obtain⟨cs,rd,ups,h3,e3⟩:=AD h1
  exact⟨_,_,_,h3,fun ρ' H' hx hA K'=>by unfold pL;simp only;rw[UU caps.toList (fun x pX=>hx x (by simp[Op.operands];exact .inr (by simpa using pX))),e1,e3 H' hA]⟩
 ·
  rename_i t x y
  split at h
  ·rename_i e ht
   obtain⟨i,n,h1,e1⟩:=o5 h
   obtain⟨i',n',h2,e2⟩:=o5 h1
   obtain⟨h3,e3⟩:=de h2
   obtain⟨h4,e4⟩:=s8 h3
   exact⟨_,_,_,h4,fun ρ' H' hx hA K'=>by
    unfold pL;simp only;rw[ht];simp only
    rw[hx x (by simp[Op.operands]),e1,hx y (by simp[Op.operands]),e2,e3,e4 H' (hA _ (by simp))]⟩
  ·cases h
 ·
  rename_i t x lo hi mx
  split at h
  ·rename_i τ ht
   obtain⟨v,rd,ups,h1,e1⟩:=Ov h
   exact⟨_,_,_,h1,fun ρ' H' hx hA K'=>by
    unfold pL;simp only;rw[ht];simp only
    rw[hx x (by simp[Op.operands]),acQ lo (fun y hy=>hx y (by simp at hy;simp[Op.operands,hy])),acQ hi (fun y hy=>hx y (by simp at hy;simp[Op.operands,hy])),acQ mx (fun y hy=>hx y (by simp at hy;simp[Op.operands,hy])),e1 H' hA]⟩
  ·cases h
 ·
  rename_i t x n
  split at h
  ·rename_i τ ht
   split at h
   ·rename_i id p hx
    obtain⟨υ,h1,e1⟩:=w5 h
    obtain⟨h2,e2⟩:=gL h1
    obtain⟨υ',y',h3,e3⟩:=s7 h2
    obtain⟨h4,e4⟩:=pZ h3
    exact⟨_,_,_,h4,fun ρ' H' pX hA K'=>by
     unfold pL;simp only;rw[ht];simp only
     rw[pX x (by simp[Op.operands]),hx];simp only
     rw[e1 H' (hA _ (by simp)),e2,e3,e4]⟩
   ·rename_i υ z hx
    obtain⟨h2,e2⟩:=gL h
    obtain⟨υ',y',h3,e3⟩:=s7 h2
    obtain⟨h4,e4⟩:=pZ h3
    exact⟨_,_,_,h4,fun ρ' H' pX hA K'=>by
     unfold pL;simp only;rw[ht];simp only
     rw[pX x (by simp[Op.operands]),hx];simp only
     rw[e2,e3,e4]⟩
   ·cases h
  ·cases h
 ·
  rename_i t x n
  split at h
  ·rename_i τ ht
   split at h
   ·rename_i υ z hx
    obtain⟨h2,e2⟩:=gL h
    obtain⟨υ',y',h3,e3⟩:=s7 h2
    exact⟨_,_,_,h3,fun ρ' H' pX hA K'=>by
     unfold pL;simp only;rw[ht];simp only
     rw[pX x (by simp[Op.operands]),hx];simp only
     rw[e2,e3]⟩
   ·cases h
  ·cases h
 ·
  rename_i t x i
  split at h
  ·rename_i τ ht
   obtain⟨v,rd,ups,h1,e1⟩:=CN h
   exact⟨_,_,_,h1,fun ρ' H' hx hA K'=>by unfold pL;simp only;rw[ht];simp only;rw[hx x (by simp[Op.operands]),hx i (by simp[Op.operands]),e1 H' hA]⟩
  ·cases h
 ·
  rename_i t x i
  split at h
  ·rename_i τ ht
   obtain⟨v,h1,e1⟩:=Ow h
   exact⟨_,_,_,h1,fun ρ' H' hx hA K'=>by unfold pL;simp only;rw[ht];simp only;rw[hx x (by simp[Op.operands]),hx i (by simp[Op.operands]),e1]⟩
  ·cases h
 ·
  rename_i x i
  split at h
  ·rename_i vs hx
   split at h
   ·rename_i v hv
    exact⟨_,_,_,h,fun ρ' H' pX hA K'=>by unfold pL;simp only;rw[pX x (by simp[Op.operands]),hx];simp only;rw[hv]⟩
   ·cases h
  ·cases h
 ·
  rename_i cl
  obtain⟨callee,args,ts⟩:=cl
  simp only at h
  have tI: ∀{ρ':Operand→bb},(∀x∈(Op.call {callee,args,argTypes:=ts}).operands,ρ' x=ρ x)→ ∀x∈args.toList,ρ' x=ρ x:=
   fun hx x pX=>hx x (by simp[Op.operands,Call.operands];exact .inr (by simpa using pX))
  split at h
  ·split at h
   ·rename_i x τ ha ht
    obtain⟨v,rd,ups,h1,e1⟩:=UR h
    exact⟨_,_,_,h1,fun ρ' H' hx hA K'=>by unfold pL;simp only;rw[ha,ht];simp only;rw[tI hx x (by rw[ha];simp),e1 H' hA]⟩
   ·cases h
  ·split at h
   ·rename_i x y t t' ha ht
    split at h
    ·rename_i e hte
     obtain⟨h1,e1⟩:=de h
     obtain⟨h2,e2⟩:=s8 h1
     obtain⟨v,rd,ups,h3,aV,e3⟩:=US h2
     exact⟨_,_,_,h3,fun ρ' H' hx hA K'=>by
      unfold pL;simp only;rw[ha,ht];simp only;rw[hte];simp only
      rw[e1,e2 H' (hA _ aV),tI hx x (by rw[ha];simp),tI hx y (by rw[ha];simp),e3 H' hA]⟩
    ·cases h
   ·cases h
  ·split at h
   ·rename_i x xs ha
    obtain⟨v,h1,e1⟩:=K0 h
    exact⟨_,_,_,h1,fun ρ' H' hx hA K'=>by
     unfold pL;simp only;rw[ha];simp only
     rw[tI hx x (by rw[ha];simp),UU xs (fun y hy=>tI hx y (by rw[ha];simp[hy])),e1]⟩
   ·cases h
  ·split at h
   ·rename_i x xs ha
    obtain⟨v,h1,e1⟩:=K0 h
    exact⟨_,_,_,h1,fun ρ' H' hx hA K'=>by
     unfold pL;simp only;rw[ha];simp only
     rw[tI hx x (by rw[ha];simp),UU xs (fun y hy=>tI hx y (by rw[ha];simp[hy])),e1]⟩
   ·cases h
  ·rename_i g
   split at h
   ·rename_i f caps hg
    obtain⟨v,rd,ups,h1,e1⟩:=QX h
    exact⟨_,_,_,h1,fun ρ' H' hx hA K'=>by
     unfold pL;simp only
     rw[hx g (by simp[Op.operands,Call.operands]),hg];simp only
     rw[UU args.toList (tI hx),e1 H' hA]⟩
   ·cases h
  ·cases h
 ·cases h
end VM
end
section
namespace VM
open Go
variable{P:Program}{E:Env}{o:Oper}{a:Act}{w:World}{M:Nat→Prop}{ν:Nat→Value}{σ:St}{c:Ctx}{α:Type}{r:α}{next:Act→World→Prop}{Q:Exit→Act→World→Prop}
structure Out where
 dst:Option Nat
 v:bb
 rd:List Nat
 ups:fN
def Out.app(u:Out)(σ:St):St:=(σ.rS u.ups).rH u.dst u.v
theorem Hk(σ:St)(d:Nat)(v:bb):(σ.rH (some d) v).T d=v:=qB σ d v
theorem Oz(σ:St){d:Option Nat}{t:Nat}(v:bb)(h:d≠some t):(σ.rH d v).T t=σ.T t:=by
 cases d with
 |none=>rfl
 |some d=>exact vy σ v (fun e=>h (by rw[e]))
theorem acR(σ:St)(d:Option Nat)(v:bb):(σ.rH d v).H=σ.H:=by cases d<;>rfl
theorem K2{u:Out}{t:Nat}(h:u.dst=some t)(σ:St):(u.app σ).T t=u.v:=by unfold Out.app;rw[h];exact Hk _ _ _
theorem Q3{u:Out}{t:Nat}(h:u.dst≠some t)(σ:St):(u.app σ).T t=σ.T t:=by unfold Out.app;rw[Oz _ _ h,KQ]
theorem ah8(u:Out)(σ:St):(u.app σ).H=ch σ.H u.ups:=by unfold Out.app;rw[acR,KP]
def Pt(E:Env)(ops:List Oper)(o:Oper)(σ:St)(u:Out)(α:Type):Prop:=
 u.dst=o.dst∧ ∀σ':St,(∀t∈names ops o,σ'.T t=σ.T t)→Ag u.rd σ.H σ'.H→ ∀K':St→List Nat→List Nat→Option α,pO E ops o σ' K'=K' (u.app σ') u.rd (u.ups.map (·.1))
theorem Q4{ops:List Oper}{K:St→List Nat→List Nat→Option α}(h:pO E ops o σ K=some r): ∃u:Out,K (u.app σ) u.rd (u.ups.map (·.1))=some r∧Pt E ops o σ u α:=by
 unfold pO at h
 obtain⟨h,e0⟩:=de h
 have anI: ∀σ':St,(∀t∈names ops o,σ'.T t=σ.T t)→ ∀x∈o.op.operands,σ'.ρ x=σ.ρ x:=by
  intro σ' hT x hx
  cases x with
  |tmp t=>
   refine hT t ?_
   unfold names
   refine ayZ _ (List.mem_filterMap.2 ⟨.tmp t,by simpa using hx,rfl⟩)
  |_=>rfl
 have cT:pL E o σ.ρ σ.H (fun v rd ups=>K ((σ.rS ups).rH o.dst v) rd (ups.map (·.1)))=some r→
   ∃u:Out,K (u.app σ) u.rd (u.ups.map (·.1))=some r∧u.dst=o.dst∧ ∀σ':St,(∀t∈names ops o,σ'.T t=σ.T t)→Ag u.rd σ.H σ'.H→ ∀K':St→List Nat→List Nat→Option α,
    pL E o σ'.ρ σ'.H (fun v rd ups=>K' ((σ'.rS ups).rH o.dst v) rd (ups.map (·.1)))=K' (u.app σ') u.rd (u.ups.map (·.1)):=by
  intro h
  obtain⟨v,rd,ups,h1,h2⟩:=acP h
  exact⟨⟨o.dst,v,rd,ups⟩,h1,rfl,fun σ' hT hA K'=>h2 σ'.ρ σ'.H (anI σ' hT) hA _⟩
 have o4: ∀{K:St→List Nat→List Nat→Option α},K (σ.rH o.dst .Qu) [] []=some r→ ∃u:Out,K (u.app σ) u.rd (u.ups.map (·.1))=some r∧u.dst=o.dst∧ ∀σ':St,∀K':St→List Nat→List Nat→Option α,K' (σ'.rH o.dst .Qu) [] []=K' (u.app σ') u.rd (u.ups.map (·.1)):=
  fun h=>⟨⟨o.dst,.Qu,[],[]⟩,h,rfl,fun _ _=>rfl⟩
 simp only at h
 split at h
 ·rename_i hg
  obtain⟨u,h1,h2,h3⟩:=cT h
  refine⟨u,h1,h2,fun σ' hT hA K'=> ?_⟩
  unfold pO
  rw[e0]
  simp only
  rw[hg]
  exact h3 σ' hT hA K'
 ·rename_i j want hg
  split at h
  ·cases h
  ·rename_i t ht
   have OA:t∈names ops o:=by
    unfold names
    refine ay3 _ ?_
    rw[hg]
    simp[ht]
   split at h
   ·rename_i b hb
    have mZ: ∀σ':St,σ'.T t=σ.T t→σ'.put t (.val .bool b)=σ':=fun σ' h'=>by
     rw[←hb,←h'];exact Aw σ' t
    cases want<;>cases b
    ·obtain⟨u,h1,h2,h3⟩:=cT (by
      have:=mZ σ rfl
      rw[this]at h;exact h)
     refine⟨u,h1,h2,fun σ' hT hA K'=> ?_⟩
     unfold pO
     rw[e0];simp only;rw[hg];simp only;rw[ht];simp only;rw[hT t OA,hb];simp only
     rw[mZ σ' (hT t OA)]
     exact h3 σ' hT hA K'
    ·obtain⟨u,h1,h2,h3⟩:=o4 (by
      have:=mZ σ rfl
      rw[this]at h;exact h)
     refine⟨u,h1,h2,fun σ' hT hA K'=> ?_⟩
     unfold pO
     rw[e0];simp only;rw[hg];simp only;rw[ht];simp only;rw[hT t OA,hb];simp only
     rw[mZ σ' (hT t OA)]
     exact h3 σ' K'
    ·obtain⟨u,h1,h2,h3⟩:=o4 (by
      have:=mZ σ rfl
      rw[this]at h;exact h)
     refine⟨u,h1,h2,fun σ' hT hA K'=> ?_⟩
     unfold pO
     rw[e0];simp only;rw[hg];simp only;rw[ht];simp only;rw[hT t OA,hb];simp only
     rw[mZ σ' (hT t OA)]
     exact h3 σ' K'
    ·obtain⟨u,h1,h2,h3⟩:=cT (by
      have:=mZ σ rfl
      rw[this]at h;exact h)
     refine⟨u,h1,h2,fun σ' hT hA K'=> ?_⟩
     unfold pO
     rw[e0];simp only;rw[hg];simp only;rw[ht];simp only;rw[hT t OA,hb];simp only
     rw[mZ σ' (hT t OA)]
     exact h3 σ' hT hA K'
   ·rename_i hb
    obtain⟨u,h1,h2,h3⟩:=o4 h
    refine⟨u,h1,h2,fun σ' hT hA K'=> ?_⟩
    unfold pO
    rw[e0];simp only;rw[hg];simp only;rw[ht];simp only;rw[hT t OA,hb]
    exact h3 σ' K'
   ·cases h
theorem M6{ops:List Oper}: ∀(l:List Oper) (i:Nat) (σ:St) (lg:Log) (K:St→Log→Option α),N3 E ops l i σ lg K=some r→
  ∃us:List Out,us.length=l.length∧(∀j u o,us[j]? =some u→l[j]? =some o→Pt E ops o ((us.take j).foldl (fun σ u=>u.app σ) σ) u α)∧
   ∃lg',K (us.foldl (fun σ u=>u.app σ) σ) lg'=some r∧(∀x∈lg,x∈lg')∧ ∀j u,us[j]? =some u→(i+j,u.rd,u.ups.map (·.1))∈lg'
 |[],i,σ,lg,K,h=>⟨[],rfl,fun j u o hj=>by simp at hj,lg,h,fun _ h=>h,fun j u hj=>by simp at hj⟩
 |o::l,i,σ,lg,K,h=>by
  unfold N3 at h
  obtain⟨u,h1,h2⟩:=Q4 h
  obtain⟨us,hl,hpt,lg',hK,Ub,hj⟩:=M6 l (i+1) (u.app σ) _ K h1
  refine⟨u::us,by simp[hl],fun j u' o' hu ho=> ?_,lg',hK,fun x hx=>Ub x (ayK _ hx),fun j u' hu=> ?_⟩
  ·cases j with
   |zero=>simp at hu ho;subst hu ho;exact h2
   |succ j=>exact hpt j u' o' (by simpa using hu) (by simpa using ho)
  ·cases j with
   |zero=>simp at hu;subst hu;exact Ub _ ayN
   |succ j=>
    have:=hj j u' (by simpa using hu)
    rwa [show i+1+j=i+(j+1)from by omega]at this
theorem OB{k:Nat}{ups:fN}(h:k∈keys ups)(H H':Nat→Option aS):ch H ups k=ch H' ups k:=by
 induction ups generalizing H H' with
 |nil=>simp[keys]at h
 |cons u r ih=>
  show ch (bz H u.1 u.2) r k=ch (bz H' u.1 u.2) r k
  by_cases hk:k∈keys r
  ·exact ih hk _ _
  ·have hku:k=u.1:=by
    simp only[keys,ay6,ayY]at h hk
    exact h.resolve_right hk
   rw[kb hk,kb hk,hku,al,al]
structure lU(us:List Out)(σ0:St)(S:Nat→Prop)(σ:St):Prop where
 T: ∀t,(∃j u,us[j]? =some u∧S j∧u.dst=some t∧(∀j' u',us[j']? =some u'→S j'→u'.dst=some t→j'≤j)∧σ.T t=u.v)∨((∀j u,us[j]? =some u→S j→u.dst≠some t)∧σ.T t=σ0.T t)
 H: ∀k,(∃j u,us[j]? =some u∧S j∧k∈keys u.ups∧(∀j' u',us[j']? =some u'→S j'→k∈keys u'.ups→j'≤j)∧σ.H k=ch σ0.H u.ups k)∨((∀j u,us[j]? =some u→S j→k∉keys u.ups)∧σ.H k=σ0.H k)
theorem lU.Q5{us:List Out}{σ0 σ σ':St}{S S':Nat→Prop}(h:lU us σ0 S σ)(h':lU us σ0 S' σ'){t:Nat}(hs: ∀j u,us[j]? =some u→u.dst=some t→(S j↔S' j)):σ.T t=σ'.T t:=by
 rcases h.T t with⟨j,u,h1,h2,h3,h4,h5⟩|⟨h1,h2⟩<;>rcases h'.T t with⟨j',u',m9,ua,K3,h4',h5'⟩|⟨m9,ua⟩
 ·have e1:=h4 j' u' m9 ((hs j' u' m9 K3).2 ua) K3
  have e2:=h4' j u h1 ((hs j u h1 h3).1 h2) h3
  have:j=j':=by omega
  subst this
  rw[h1]at m9;cases m9
  rw[h5,h5']
 ·exact absurd h3 (m9 j u h1 ((hs j u h1 h3).1 h2))
 ·exact absurd K3 (h1 j' u' m9 ((hs j' u' m9 K3).2 ua))
 ·rw[h2,ua]
theorem lU.Q6{us:List Out}{σ0 σ σ':St}{S S':Nat→Prop}(h:lU us σ0 S σ)(h':lU us σ0 S' σ'){k:Nat}(hs: ∀j u,us[j]? =some u→k∈keys u.ups→(S j↔S' j)):σ.H k=σ'.H k:=by
 rcases h.H k with⟨j,u,h1,h2,h3,h4,h5⟩|⟨h1,h2⟩<;>rcases h'.H k with⟨j',u',m9,ua,K3,h4',h5'⟩|⟨m9,ua⟩
 ·have e1:=h4 j' u' m9 ((hs j' u' m9 K3).2 ua) K3
  have e2:=h4' j u h1 ((hs j u h1 h3).1 h2) h3
  have:j=j':=by omega
  subst this
  rw[h1]at m9;cases m9
  rw[h5,h5']
 ·exact absurd h3 (m9 j u h1 ((hs j u h1 h3).1 h2))
 ·exact absurd K3 (h1 j' u' m9 ((hs j' u' m9 K3).2 ua))
 ·rw[h2,ua]
theorem lU.unique{us:List Out}{σ0 σ σ':St}{S S':Nat→Prop}(h:lU us σ0 S σ)(h':lU us σ0 S' σ')(hs: ∀j u,us[j]? =some u→(S j↔S' j)):σ=σ':=by
 obtain⟨T,H⟩:=σ
 obtain⟨T',H'⟩:=σ'
 congr 1
 ·funext t;exact h.Q5 h' (fun j u hj _=>hs j u hj)
 ·funext k;exact h.Q6 h' (fun j u hj _=>hs j u hj)
theorem lU.step{us:List Out}{σ0 σ:St}{S:Nat→Prop}(h:lU us σ0 S σ){i:Nat}{u:Out}(hi:us[i]? =some u)(hc: ∀j u',us[j]? =some u'→S j→i<j→(∀t,u.dst=some t→u'.dst≠some t)∧ ∀k∈keys u.ups,k∉keys u'.ups):
  lU us σ0 (fun j=>j=i∨S j) (u.app σ):=by
 refine⟨fun t=> ?_,fun k=> ?_⟩
 ·by_cases hd:u.dst=some t
  ·left
   refine⟨i,u,hi,.inl rfl,hd,fun j' u' h1 h2 h3=> ?_,K2 hd σ⟩
   rcases h2 with rfl|h2
   ·exact ayJ _
   ·exact Nat.le_of_not_lt fun dH=>(hc j' u' h1 h2 dH).1 t hd h3
  ·rw[Q3 hd]
   rcases h.T t with⟨j,u1,h1,h2,h3,h4,h5⟩|⟨h1,h2⟩
   ·refine .inl ⟨j,u1,h1,.inr h2,h3,fun j' u' m9 ua K3=> ?_,h5⟩
    rcases ua with rfl|ua
    ·rw[hi]at m9;cases m9;exact absurd K3 hd
    ·exact h4 j' u' m9 ua K3
   ·refine .inr ⟨fun j u' m9 ua=> ?_,h2⟩
    rcases ua with rfl|ua
    ·rw[hi]at m9;cases m9;exact hd
    ·exact h1 j u' m9 ua
 ·rw[ah8]
  by_cases hd:k∈keys u.ups
  ·left
   refine⟨i,u,hi,.inl rfl,hd,fun j' u' h1 h2 h3=> ?_,OB hd _ _⟩
   rcases h2 with rfl|h2
   ·exact ayJ _
   ·exact Nat.le_of_not_lt fun dH=>(hc j' u' h1 h2 dH).2 k hd h3
  ·rw[kb hd]
   rcases h.H k with⟨j,u1,h1,h2,h3,h4,h5⟩|⟨h1,h2⟩
   ·refine .inl ⟨j,u1,h1,.inr h2,h3,fun j' u' m9 ua K3=> ?_,h5⟩
    rcases ua with rfl|ua
    ·rw[hi]at m9;cases m9;exact absurd K3 hd
    ·exact h4 j' u' m9 ua K3
   ·refine .inr ⟨fun j u' m9 ua=> ?_,h2⟩
    rcases ua with rfl|ua
    ·rw[hi]at m9;cases m9;exact hd
    ·exact h1 j u' m9 ua
theorem lU.start(us:List Out)(σ0:St):lU us σ0 (fun _=>False) σ0:=⟨fun t=> .inr ⟨fun _ _ _ h=>h.elim,rfl⟩,fun k=> .inr ⟨fun _ _ _ h=>h.elim,rfl⟩⟩
theorem lU.congr{us:List Out}{σ0 σ:St}{S S':Nat→Prop}(h:lU us σ0 S σ)(hs: ∀j,S j↔S' j):lU us σ0 S' σ:=by
 have:S=S':=funext fun j=>propext (hs j)
 rw[←this];exact h
theorem lU.text(us:List Out)(σ0:St): ∀i,i≤us.length→lU us σ0 (fun j=>j<i) ((us.take i).foldl (fun σ u=>u.app σ) σ0)
 |0,_=>(lU.start us σ0).congr fun j=>by simp
 |i+1,hi=>by
  have ih:=lU.text us σ0 i (by omega)
  have hu:us[i]? =some us[i]:=ayG (by omega)
  have:=ih.step hu (fun j u' _ h2 h3=>by omega)
  rw[List.take_add_one,hu,List.foldl_append]
  exact this.congr fun j=>by constructor<;>intro h<;>omega
end VM
end
section
namespace VM
open Go
variable{P:Program}{E:Env}{o:Oper}{a:Act}{w:World}{M:Nat→Prop}{ν:Nat→Value}{σ:St}{c:Ctx}{α:Type}{r:α}{next:Act→World→Prop}{Q:Exit→Act→World→Prop}
def Pre(S:Nat→Prop)(o:Oper):Prop:= ∀e∈o.after,Region.binds .any e=true→S e.on
theorem AE{β:Type}{l m:List β}{i:Nat}{d:β}(h:i<l.length):(l++m).getD i d=l.getD i d:=by
 simp only[List.getD,azN h]
theorem AF{β:Type}{l:List β}{x d:β}:(l++[x]).getD l.length d=x:=by
 simp[List.getD]
theorem xZ{acc:List Nat}{i:Nat}: ∀(es:List Edge) (s:Nat),(es.foldl (fun s e=>cond (Region.binds .any e) (s|||2^e.on|||acc.getD e.on 0) s) s).testBit i=true→
  s.testBit i=true∨ ∃e∈es,Region.binds .any e=true∧(i=e.on∨(acc.getD e.on 0).testBit i=true)
 |[],s,h=> .inl h
 |e::es,s,h=>by
  rw[List.foldl_cons]at h
  rcases xZ es _ h with h1|⟨e',h1,h2⟩
  ·cases hb:Region.binds .any e
   ·rw[hb]at h1;exact .inl h1
   ·rw[hb]at h1
    simp only[ayz,Nat.testBit_or,aAj]at h1
    rcases h1 with(h1|h1)|h1
    ·exact .inl h1
    ·refine .inr ⟨e,ayN,hb,.inl ?_⟩
     rw[Nat.testBit_two_pow]at h1
     simpa using (ayV h1).symm
    ·exact .inr ⟨e,ayN,hb,.inr h1⟩
  ·exact .inr ⟨e',ayK _ h1,h2⟩
theorem ya{S:Nat→Prop}: ∀(l:List Oper) (acc:List Nat) (all:List Oper),all.length=acc.length+l.length→(∀j,l[j]? =all[acc.length+j]?)→
  (∀j o,all[j]? =some o→S j→Pre S o)→(∀j i,j<acc.length→S j→(acc.getD j 0).testBit i=true→S i)→
  ∀j o i,all[j]? =some o→(Pre S o∨S j)→((pB l acc).getD j 0).testBit i=true→(j<acc.length→ ∀i,Pre S o→(acc.getD j 0).testBit i=true→S i)→S i
 |[],acc,all,hl,g9,hS,UW,j,o,i,hj,Hl,hb,Q7=>by
  have dH:j<all.length:=(azU.1 hj).1
  have sg:j<acc.length:=by simp at hl;omega
  rcases Hl with hp|hp
  ·exact Q7 sg i hp hb
  ·exact UW j i sg hp hb
 |p::l,acc,all,hl,g9,hS,UW,j,o,i,hj,Hl,hb,Q7=>by
  unfold pB at hb
  have Qk:all[acc.length]? =some p:=by rw[←aAO acc.length,←g9 0];rfl
  have UX: ∀i,Pre S p→(p.after.toList.foldl (fun s e=>cond (Region.binds .any e) (s|||2^e.on|||acc.getD e.on 0) s) 0).testBit i=true→S i:=by
   intro i Cn hb
   rcases xZ p.after.toList 0 hb with h1|⟨e,he,hbe,h1⟩
   ·simp at h1
   ·have hSe:=Cn e (by simpa using he) hbe
    rcases h1 with rfl|h1
    ·exact hSe
    ·by_cases dH:e.on<acc.length
     ·exact UW e.on i dH hSe h1
     ·rw[List.getD,azc (by omega)]at h1;simp at h1
  refine ya l (acc++[p.after.toList.foldl (fun s e=>cond (Region.binds .any e) (s|||2^e.on|||acc.getD e.on 0) s) 0]) all (by simp at hl ⊢;omega) (fun j=> ?_) hS (fun j' i' Ua hS' dN=> ?_) j o i hj Hl hb (fun dH i' wN dN=> ?_)
  ·have:=g9 (j+1)
   simp only[List.getElem?_cons_succ]at this
   rw[this]
   congr 1
   simp;omega
  ·by_cases dH:j'<acc.length
   ·rw[AE dH]at dN
    exact UW j' i' dH hS' dN
   ·have hje:j'=acc.length:=by simp at Ua;omega
    subst hje
    rw[AF]at dN
    exact UX i' (hS _ p Qk hS') dN
  ·by_cases sg:j<acc.length
   ·rw[AE sg]at dN
    exact Q7 sg i' wN dN
   ·have hje:j=acc.length:=by simp at dH;omega
    subst hje
    rw[Qk]at hj;cases hj
    rw[AF]at dN
    exact UX i' wN dN
theorem forced{ops:List Oper}{S:Nat→Prop}(hS: ∀j o,ops[j]? =some o→S j→Pre S o){j i:Nat}(hj:ops[j]? =some o)(Hl:Pre S o∨S j)(hb:((pB ops []).getD j 0).testBit i=true):S i:=
 ya ops [] ops (by simp) (fun j=>by simp) hS (fun j i h=>by simp at h) j o i hj Hl hb (fun h=>by simp at h)
theorem jt{l m:List Nat}(h:meets l m=false){x:Nat}(h1:x∈l)(h2:x∈m):False:=by
 have:meets l m=true:=by
  unfold meets
  rw[aBq]
  refine⟨x,h1,?_⟩
  rw[aBq]
  exact⟨x,h2,aBl x⟩
 rw[h]at this;cases this
structure Rnd(c:Ctx)(E:Env)(ops:Array Oper)(us:List Out)(σ0:St)(listed:Array Bool)(a:Act)(w:World):Prop where
 size:listed.size=ops.size
 closed: ∀j o,ops.toList[j]? =some o→listed.getD j false=true→Pre (fun i=>listed.getD i false=true) o
 st: ∃σ,lU us σ0 (fun j=>listed.getD j false=true) σ∧Inv c E σ a w
theorem uz{listed:Array Bool}{j:Nat}(h:j<listed.size)(d:Bool):listed.getD j d=listed.getD j false:=by
 simp[Array.getD,h]
theorem E5(hE:o3 P E){ops:Array Oper}{us:List Out}{σ0 σn:St}{α:Type}(x0:α)(hl:us.length=ops.toList.length)
  (hpt: ∀(j:Nat) (u:Out) (o:Oper),us[j]? =some u→ops.toList[j]? =some o→Pt E ops.toList o ((us.take j).foldl (fun σ u=>u.app σ) σ0) u α)
  (hn:σn=us.foldl (fun σ u=>u.app σ) σ0)
  (dH: ∀(j:Nat) (o:Oper),ops.toList[j]? =some o→ ∀e∈o.after,Region.binds .any e=true→e.on<j)
  (Ky: ∀(j:Nat) (o:Oper) (i:Nat) (p:Oper),ops.toList[j]? =some o→ops.toList[i]? =some p→i<j→((pB ops.toList []).getD j 0).testBit i=false→
   (∀d,p.dst=some d→o.dst≠some d∧d∉names ops.toList o)∧(∀d,o.dst=some d→d∉names ops.toList p))
  (Ub: ∀(j:Nat) (u:Out) (i:Nat) (v:Out),us[j]? =some u→us[i]? =some v→i<j→((pB ops.toList []).getD j 0).testBit i=false→
   (∀k∈keys v.ups,k∉u.rd∧k∉keys u.ups)∧(∀k∈v.rd,k∉keys u.ups))
  (hq: ∀a' w',Inv c E σn a' w'→Q .normal a' w'):
  ∀(fuel:Nat) (listed:Array Bool) (a:Act) (w:World),((List.range ops.size).filter fun j=> !(listed.getD j false)).length≤fuel→Rnd c E ops us σ0 listed a w→wpAny P .any ops Q fuel listed a w:=by
 have g9: ∀(listed:Array Bool) (a:Act) (w:World),Rnd c E ops us σ0 listed a w→Region.ready .any ops listed=[]→Q .normal a w:=by
  intro listed a w hR acT
  obtain⟨hs,ES,σ,Kq,hI⟩:=hR
  have aia: ∀j,j<ops.size→listed.getD j false=true:=by
   intro j
   induction j using Nat.strongRecOn with
   |_ j ih=>
    intro hj
    by_cases hb:listed.getD j false=true
    ·exact hb
    ·exfalso
     have ho:ops[j]? =some ops[j]:=aBI hj
     have:j∈Region.ready .any ops listed:=by
      rw[mem_ready]
      refine⟨by rw[uz (by omega)];simpa using hb,_,ho,fun e he hbe=> ?_⟩
      have hej:=dH j ops[j] (by rw[azh];exact ho) e he hbe
      exact ih e.on hej (by omega)
     rw[acT]at this
     cases this
  have hσ:σ=σn:=by
   rw[hn]
   have ht:=lU.text us σ0 us.length (ayJ _)
   rw[aAM]at ht
   refine Kq.unique ht fun j u hj=> ?_
   have Cr:j<us.length:=(azU.1 hj).1
   have hjo:j<ops.size:=by rw[hl,ayM]at Cr;exact Cr
   exact⟨fun _=>Cr,fun _=>aia j hjo⟩
  exact hq a w (hσ▸hI)
 intro fuel
 induction fuel with
 |zero=>
  intro listed a w hf hR
  have UY:Region.ready .any ops listed=[]:=by
   rw[List.eq_nil_iff_forall_not_mem]
   intro j hj
   rw[mem_ready]at hj
   obtain⟨h0,o,ho,_⟩:=hj
   have hjs:j<ops.size:=(azj.1 ho).1
   have Cr:j<listed.size:=by rw[hR.size];exact hjs
   rw[uz Cr]at h0
   have m8:j∈(List.range ops.size).filter fun j=> !(listed.getD j false):=by
    rw[aB2];exact⟨aAN.2 hjs,by rw[h0];rfl⟩
   have:((List.range ops.size).filter fun j=> !(listed.getD j false))=[]:=azL (by omega)
   rw[this]at m8;cases m8
  exact⟨UY,g9 listed a w hR UY⟩
 |succ fuel ih=>
  intro listed a w hf hR
  refine⟨g9 listed a w hR,fun i hi=> ?_⟩
  have lR:=hi
  rw[mem_ready]at lR
  obtain⟨h0,o,ho,Hl⟩:=lR
  have his:i<ops.size:=(azj.1 ho).1
  have CB:i<listed.size:=by rw[hR.size];exact his
  rw[uz CB]at h0
  obtain⟨hs,ES,σ,Kq,hI⟩:=hR
  have ub:ops.toList[i]? =some o:=by rw[azh];exact ho
  have hiu:i<us.length:=by rw[hl,ayM];exact his
  have hu:us[i]? =some us[i]:=ayG hiu
  have hPt:=hpt i us[i] o hu ub
  have hSi: ¬listed.getD i false=true:=by rw[h0];simp
  have Hm: ∀j p,ops.toList[j]? =some p→((j<i∧ ¬listed.getD j false=true)→((pB ops.toList []).getD i 0).testBit j=false)∧((i<j∧listed.getD j false=true)→((pB ops.toList []).getD j 0).testBit i=false):=by
   intro j p hj
   refine⟨fun⟨_,h2⟩=> ?_,fun⟨_,h2⟩=> ?_⟩
   ·rw[←az6]
    intro hb
    exact h2 (forced ES ub (.inl Hl) hb)
   ·rw[←az6]
    intro hb
    exact hSi (forced ES hj (.inr h2) hb)
  have Q8: ∀(j:Nat) (u:Out),us[j]? =some u→ ∃p:Oper,ops.toList[j]? =some p∧u.dst=p.dst:=by
   intro j u hj
   have Cr:j<us.length:=(azU.1 hj).1
   have hp:ops.toList[j]? =some ops.toList[j]:=ayG (by omega)
   exact⟨_,hp,(hpt j u _ hj hp).1⟩
  have aba:=lU.text us σ0 i (by omega)
  have hT: ∀t∈names ops.toList o,σ.T t=((us.take i).foldl (fun σ u=>u.app σ) σ0).T t:=by
   intro t ht
   refine Kq.Q5 aba fun j u hj hd=> ?_
   obtain⟨p,hp,hpd⟩:=Q8 j u hj
   have hpd:p.dst=some t:=by rw[←hpd,hd]
   constructor
   ·intro Hn
    refine Nat.lt_of_not_le fun hle=> ?_
    rcases Nat.lt_or_eq_of_le hle with sg|heq
    ·exact(Ky j p i o hp ub sg ((Hm j p hp).2 ⟨sg,Hn⟩)).2 t hpd ht
    ·subst heq;exact hSi Hn
   ·intro uA
    by_cases Hn:listed.getD j false=true
    ·exact Hn
    ·exact absurd ht ((Ky i o j p ub hp uA ((Hm j p hp).1 ⟨uA,Hn⟩)).1 t hpd).2
  have hH:Ag us[i].rd ((us.take i).foldl (fun σ u=>u.app σ) σ0).H σ.H:=by
   intro k hk
   refine Kq.Q6 aba fun j u hj hd=> ?_
   obtain⟨p,hp,hpd⟩:=Q8 j u hj
   constructor
   ·intro Hn
    refine Nat.lt_of_not_le fun hle=> ?_
    rcases Nat.lt_or_eq_of_le hle with sg|heq
    ·exact(Ub j u i us[i] hj hu sg ((Hm j p hp).2 ⟨sg,Hn⟩)).2 k hk hd
    ·subst heq;exact hSi Hn
   ·intro uA
    by_cases Hn:listed.getD j false=true
    ·exact Hn
    ·exact absurd hk ((Ub i us[i] j u hu hj uA ((Hm j p hp).1 ⟨uA,Hn⟩)).1 k hd).1
  have aib:=hPt.2 σ hT hH
  have hIs:lU us σ0 (fun j=>j=i∨listed.getD j false=true) (us[i].app σ):=by
   refine Kq.step hu fun j u hj Hn oY=> ?_
   obtain⟨p,hp,hpd⟩:=Q8 j u hj
   have y7:=(Hm j p hp).2 ⟨oY,Hn⟩
   obtain⟨h1,h2⟩:=Ky j p i o hp ub oY y7
   obtain⟨h3,h4⟩:=Ub j u i us[i] hj hu oY y7
   refine⟨fun t ht=> ?_,fun k hk=>(h3 k hk).2⟩
   rw[hpd]
   exact(h1 t (by rw[←hPt.1];exact ht)).1
  have vz: ∀j,(listed.setIfInBounds i true).getD j false=true↔(j=i∨listed.getD j false=true):=by
   intro j
   by_cases uA:j=i
   ·subst uA
    constructor
    ·intro _;exact .inl rfl
    ·intro _;simp[CB]
   ·rw[getD_set_ne false (aAu uA)]
    exact⟨.inr,fun h=>h.resolve_left uA⟩
  classical
  let K':St→List Nat→List Nat→Option α:=fun σ' _ _=>if σ'=us[i].app σ then some x0 else none
  have hK:pO E ops.toList o σ K'=some x0:=by rw[aib K'];simp[K']
  have:=xY (Q:=Q) (next:=wpAny P .any ops Q fuel (listed.setIfInBounds i true)) hE hI hK (fun σ' a' w' rd wr hσ' tY=>by
   have anO:σ'=us[i].app σ:=by
    by_cases h:σ'=us[i].app σ
    ·exact h
    ·simp[K',h]at hσ'
   subst anO
   refine ih _ a' w' ?_ ⟨by simpa using hs,fun j p hp Hn e he hb=> ?_,_,hIs.congr (fun j=>(vz j).symm),tY⟩
   ·have hlen:((List.range ops.size).filter fun j=> !((listed.setIfInBounds i true).getD j false)).length<((List.range ops.size).filter fun j=> !(listed.getD j false)).length:=by
     have Om:((List.range ops.size).filter fun j=> !((listed.setIfInBounds i true).getD j false))=((List.range ops.size).filter fun j=> !(listed.getD j false)).filter fun j=> !(Nat.beq j i):=by
      rw[List.filter_filter]
      apply List.filter_congr
      intro j _
      by_cases uA:j=i
      ·subst uA
       have h1:=(vz j).2 (.inl rfl)
       rw[h1];simp
      ·have h1:Nat.beq j i=false:=by rw[←az6,aBU];exact uA
       rw[h1,getD_set_ne false (aAu uA)];simp
     rw[Om]
     refine List.length_filter_lt_length_iff_exists.2 ⟨i,?_,by simp⟩
     rw[aB2];exact⟨aAN.2 his,by rw[h0];rfl⟩
    omega
   ·rcases(vz j).1 Hn with rfl|Hn
    ·rw[ub]at hp;cases hp
     exact(vz _).2 (.inr (Hl e he hb))
    ·exact(vz _).2 (.inr (ES j p hp Hn e he hb)))
  unfold wpOp
  rw[ho]
  simp only
  split
  ·rename_i hw;rw[ayF hw]at this;exact .inl this
  ·rename_i hw;rw[ayE hw]at this;exact this
theorem CO(hE:o3 P E){id:Nat}{ops:Array Oper}{draw:Bool}(hI:Inv c E σ a w){K:St→Option α}(h:zy E ops draw σ K=some r)
  (hn: ∀σ' a' w',K σ'=some r→Inv c E σ' a' w'→Q .normal a' w'):(Code.region id ops draw).wp P Q a w:=by
 cases draw
 ·refine wp_region_list (Ax hE ops.toList 0 σ [] a w _ hI h fun σ' lg' a' w' h' tY=> ?_)
  exact hn σ' a' w' (bP h').2 tY
 ·unfold zy at h
  obtain⟨us,hl,hpt,lg,hK,_,aic⟩:=M6 _ _ _ _ _ h
  obtain⟨Ol,hK⟩:=bP hK
  simp only[ayL,aBa,ayQ]at Ol
  obtain⟨Ky,Ub⟩:=Ol
  unfold Qv at Ky
  simp only[ayQ,azZ]at Ky
  obtain⟨anP,anQ⟩:=Ky
  have hz: ∀j o,ops.toList[j]? =some o→(o,j)∈ops.toList.zipIdx:=fun j o hj=>List.mem_zipIdx_iff_getElem?.2 hj
  refine wp_region_any hE.mixed (E5 (Q:=Q) (σ0:=σ) hE r hl hpt rfl (fun j o hj e he hbe=> ?_) (fun j o i p hj hi oY hb=> ?_) (fun j u i v hj hi oY hb=> ?_) (fun a' w' tY=>hn _ a' w' hK tY) ops.size (Array.replicate ops.size false) a _ ?_ ?_)
  ·have:=anP (o,j) (hz j o hj) e (by simpa using he)
   rw[hbe]at this
   simpa [aCa]using this
  ·have:=anQ (o,j) (hz j o hj) (p,i) (hz i p hi)
   simp only[hb,aAV,aAj,aAr,Bool.or_eq_false_iff]at this
   have Cz: ¬Nat.ble j i=true:=by rw[aCb];omega
   have this:=this.resolve_left Cz
   refine⟨fun d hd=>⟨fun UZ=> ?_,fun UZ=> ?_⟩,fun d hd UZ=> ?_⟩
   ·exact jt this.1 (x:=d) (by simp[hd]) (by simp[UZ])
   ·exact jt this.1 (x:=d) (by simp[hd]) (by simp[UZ])
   ·exact jt this.2 (x:=d) (by simp[hd]) UZ
  ·unfold aa1 at Ub
   simp only[azZ]at Ub
   have Ua:=aic j u hj
   have lR:=aic i v hi
   rw[azH]at Ua lR
   have:=Ub _ Ua _ lR
   simp only[hb,aAV,aAj,aAr,Bool.or_eq_false_iff]at this
   have Cz: ¬Nat.ble j i=true:=by rw[aCb];omega
   have this:=this.resolve_left Cz
   refine⟨fun k hk=>⟨fun Am=> ?_,fun Am=> ?_⟩,fun k hk Am=> ?_⟩
   ·exact jt this.1 (x:=k) hk (ayZ _ Am)
   ·exact jt this.1 (x:=k) hk (ay3 _ Am)
   ·exact jt this.2 (x:=k) hk Am
  ·refine azl (List.length_filter_le _ _) ?_
   rw[aAW];exact ayJ _
  ·have hf: ∀j,(Array.replicate ops.size false).getD j false=false:=by
    intro j
    rw[azI,Array.getElem?_replicate]
    split<;>rfl
   obtain⟨⟨M,ν,hc⟩,hs,hd,tI⟩:=hI
   refine⟨by simp,fun j o _ hS=>(by rw[hf]at hS;cases hS),σ,(lU.start us σ).congr (fun j=>(by rw[hf];simp)),⟨M,ν,?_⟩,hs,hd,tI⟩
   exact hc.tr (Tr.drew hc.mem)
end VM
end
