/- A part of the proof of BookAll of layer 18: a machine that reads a function of the program as an equation between values. -/
import Derived.Test.YtfdcmiodcijmmaaGreatVm5
set_option linter.all false
open List renaming getD→γ
section
namespace VM
open Go
variable{α:Type}{r:α}
theorem DQ{m:AM}{a:aM}{H:Nat→Option aI}{k:m.den→(Nat→Option aI)→List Nat→fu→fu→List (Nat×AM)→Option α}(h:jI m a H k=some r):
  ∃y rd uo uf io,∃g:(Nat→Option aI)→(Nat→Option aI),k y (g H) rd uo uf io=some r∧(∀H' i,H' i=H i→g H' i=g H i)∧
   ∀H',Ag rd H H'→ ∀k':m.den→(Nat→Option aI)→List Nat→fu→fu→List (Nat×AM)→Option α,jI m a H' k'=k' y (g H') rd uo uf io:=by
 have DR: ∀(d:Nat) (v:Option aI) (H':Nat→Option aI) (i:Nat),H' i=H i→a8 H' d v i=a8 H d v i:=by
  intro d v H' i hi
  by_cases aF:i=d
  ·subst aF;rw[al,al]
  ·rw[aq _ _ aF,aq _ _ aF,hi]
 unfold jI at h
 split at h
 ·rename_i τ k
  obtain⟨y,rd,ups,h1,h2⟩:=ki h
  cases ups with
  |nil=>
   refine⟨y,rd,[],[],[],λH=>H,h1,λ_ _ h=>h,λH' hA k'=> ?_⟩
   unfold jI;simp only;rw[h2 H' hA]
  |cons u rest=>
   refine⟨y,rd,[],u::rest,[],λH=>a8 H u.1 u.2,h1,λH' i hi=>DR _ _ H' i hi,λH' hA k'=> ?_⟩
   unfold jI;simp only;rw[h2 H' hA]
 ·rename_i e k
  split at h
  ·exact⟨[],[],[],[],[],λH=>H,h,λ_ _ h=>h,λ_ _ _=>rfl⟩
  ·rename_i id
   split at h
   ·rename_i e' l aF
    obtain⟨z,h1,h2⟩:=ct h
    refine⟨z,[id],_,_,_,λH=>a8 H id (some .gone),h1,λH' i hi=>DR _ _ H' i hi,λH' hA k'=> ?_⟩
    unfold jI;simp only;rw[hA id (by simp),aF];simp only;rw[h2]
   ·cases h
  ·cases h
 ·rename_i τ k
  split at h
  ·rename_i id
   split at h
   ·rename_i υ x aF
    obtain⟨z,h1,h2⟩:=ct h
    refine⟨z,[id],_,_,_,λH=>a8 H id (some .gone),h1,λH' i hi=>DR _ _ H' i hi,λH' hA k'=> ?_⟩
    unfold jI;simp only;rw[hA id (by simp),aF];simp only;rw[h2]
   ·cases h
  ·cases h
 ·rename_i f τ k
  split at h
  ·rename_i f' cs
   obtain⟨h1,h2⟩:=cJ h
   obtain⟨x,rd,ups,h3,h4⟩:=DP h1
   cases ups with
   |nil=>
    refine⟨x,rd,[],[],[],λH=>H,h3,λ_ _ h=>h,λH' hA k'=> ?_⟩
    unfold jI;simp only;rw[h2,h4 H' hA]
   |cons _ _=>cases h3
  ·cases h
 ·cases h
 ·rename_i τ k
  split at h
  ·obtain⟨z,h1,h2⟩:=ct h
   refine⟨z,[],[],[],[],λH=>H,h1,λ_ _ h=>h,λH' hA k'=> ?_⟩
   unfold jI;simp only;rw[h2]
  ·cases h
 ·rename_i e k
  split at h
  ·rename_i id
   split at h
   ·rename_i e' l aF
    obtain⟨z,h1,h2⟩:=ct h
    refine⟨z,[id],_,_,_,λH=>a8 H id (some .gone),h1,λH' i hi=>DR _ _ H' i hi,λH' hA k'=> ?_⟩
    unfold jI;simp only;rw[hA id (by simp),aF];simp only;rw[h2]
   ·cases h
  ·cases h
 ·cases h
theorem DS: ∀{ms:List AM} {lL:List aM} {H:Nat→Option aI} {AL:List Nat} {Wz WA:fu} {WB:List (Nat×AM)} {K:HP ms→List Nat→fu→fu→List (Nat×AM)→Option α},oa ms lL H AL Wz WA WB K=some r→
  ∃x rd uo uf io,K x rd uo uf io=some r∧(∀i∈AL,i∈rd)∧ ∀H',Ag rd H H'→ ∀K':HP ms→List Nat→fu→fu→List (Nat×AM)→Option α,oa ms lL H' AL Wz WA WB K'=K' x rd uo uf io
 |[],[],H,AL,Wz,WA,WB,K,h=>⟨(),_,_,_,_,h,λ_ h=>h,λ_ _ _=>rfl⟩
 |[m],[a],H,AL,Wz,WA,WB,K,h=>by
  obtain⟨y,rd,uo,uf,io,g,h1,h2,h3⟩:=DQ (h:jI m a H _=some r)
  exact⟨y,_,_,_,_,h1,λi hi=>ck _ hi,λH' hA K'=>h3 H' (λi hi=>hA i (bG _ hi)) _⟩
 |m::n::ms,a::lL,H,AL,Wz,WA,WB,K,h=>by
  obtain⟨y,rd,uo,uf,io,g,h1,h2,h3⟩:=DQ (h:jI m a H _=some r)
  obtain⟨ys,qT,CK,CL,zN,h4,h5,h6⟩:=DS (ms:=n::ms) h1
  refine⟨(y,ys),qT,CK,CL,zN,h4,λi hi=>h5 i (ck _ hi),λH' hA K'=> ?_⟩
  refine(h3 H' (λi hi=>hA i (h5 i (bG _ hi))) _).trans ?_
  exact h6 (g H') (λi hi=>h2 H' i (hA i hi)) _
 |[],_::_,_,_,_,_,_,_,h=>by simp[oa]at h
 |[_],[],_,_,_,_,_,_,h=>by simp[oa]at h
 |[_],_::_::_,_,_,_,_,_,_,h=>by simp[oa]at h
 |_::_::_,[],_,_,_,_,_,_,h=>by simp[oa]at h
theorem K2{id i:Nat}: ∀{n:Nat},i∈Dp id n↔id≤i∧i<id+n
 |0=>by simp[Dp]
 |n+1=>by simp only[Dp,aV,K2];omega
theorem rT{H H':Nat→Option aI}{id:Nat}: ∀{n:Nat},(∀i∈Dp id n,H' i=H i)→oH H' id n=oH H id n
 |0,_=>rfl
 |n+1,h=>by
  unfold oH
  rw[h (id+n) (by simp[Dp]),rT λi hi=>h i (by simp[Dp,hi])]
theorem K3{E:Env}{f id:Nat}{lL:List aM}{H:Nat→Option aI}{K:eo α}(h:vu E f lL id H K=some r): ∃v rd ups,K v rd ups=some r∧ ∀H',Ag rd H H'→ ∀K':eo α,vu E f lL id H' K'=K' v rd ups:=by
 unfold vu at h
 split at h
 ·cases h
 ·rename_i S hS
  obtain⟨x,rd,uo,uf,io,h1,_,h2⟩:=DS h
  obtain⟨y,hy,h3⟩:=qR.1 h1
  obtain⟨h4,h5⟩:=bn h3
  refine⟨_,_,_,h5,λH' hA K'=> ?_⟩
  unfold vu
  rw[hS]
  simp only
  rw[h2 H' (λi hi=>hA i (ck _ (ck _ hi))),hy]
  simp only[ag]
  rw[rT (λi hi=>hA i (bG _ hi)),h4]
  rfl
theorem I5{t:Ty}{z:Bool}{a:aM}{lo hi mx:Option aM}{H:Nat→Option aI}{K:eo α}(h:mB t z a lo hi mx H K=some r): ∃v rd ups,K v rd ups=some r∧ ∀H',Ag rd H H'→ ∀K':eo α,mB t z a lo hi mx H' K'=K' v rd ups:=by
 unfold mB at h
 split at h
 ·obtain⟨h1,e1⟩:=cJ h
  obtain⟨l,h2,e2⟩:=oP h1
  obtain⟨m,h3,e3⟩:=oP h2
  obtain⟨h4,e4⟩:=cJ h3
  exact⟨_,_,_,h4,λH' _ K'=>by unfold mB;simp only;rw[e1,e2,e3,e4]⟩
 ·cases z
  ·obtain⟨h1,e1⟩:=cJ (h:cond mx.isNone _ none=some r)
   obtain⟨l,h2,e2⟩:=oP h1
   obtain⟨m,h3,e3⟩:=oP h2
   obtain⟨h4,e4⟩:=cJ h3
   exact⟨_,_,_,h4,λH' _ K'=>by unfold mB;simp only[an];rw[e1,e2,e3,e4]⟩
  ·exact⟨_,_,_,h,λH' _ K'=>by unfold mB;rfl⟩
 ·rename_i e gY
  obtain⟨y,rd,ups,h1,e1⟩:=ki h
  cases z
  ·obtain⟨h2,e2⟩:=cJ (h1:cond (mx.isNone||hi.isSome) _ none=some r)
   obtain⟨l,h3,e3⟩:=oP h2
   obtain⟨m,h4,e4⟩:=oP h3
   obtain⟨n,h5,e5⟩:=oP h4
   obtain⟨h6,e6⟩:=cJ h5
   refine⟨_,_,_,h6,λH' hA K'=> ?_⟩
   unfold mB
   simp only
   rw[e1 H' hA]
   simp only[an]
   rw[e2,e3,e4,e5,e6]
  ·refine⟨_,_,_,(h1:K .emp rd []=some r),λH' hA K'=> ?_⟩
   unfold mB
   simp only
   rw[e1 H' hA]
   rfl
 ·cases h
theorem Ai{τ:Ty}{a i:aM}{H:Nat→Option aI}{K:eo α}(h:ep τ a i H K=some r): ∃v rd ups,K v rd ups=some r∧ ∀H',Ag rd H H'→ ∀K':eo α,ep τ a i H' K'=K' v rd ups:=by
 unfold ep at h
 obtain⟨k,n,h,e0⟩:=lR h
 split at h
 ·split at h
  ·obtain⟨z,h1,e1⟩:=ct h
   obtain⟨h2,e2⟩:=cJ h1
   exact⟨_,_,_,h2,λH' _ K'=>by unfold ep;rw[e0];simp only;rw[e1,e2]⟩
  ·split at h
   ·rename_i aF
    obtain⟨h1,e1⟩:=dX h
    obtain⟨h2,e2⟩:=cJ h1
    exact⟨_,_,_,h2,λH' hA K'=>by unfold ep;rw[e0];simp only;rw[hA _ (by simp),aF];simp only;rw[e1,e2]⟩
   ·rename_i aF
    obtain⟨h1,e1⟩:=dX h
    obtain⟨h2,e2⟩:=cJ h1
    exact⟨_,_,_,h2,λH' hA K'=>by unfold ep;rw[e0];simp only;rw[hA _ (by simp),aF];simp only;rw[e1,e2]⟩
   ·cases h
  ·cases h
 ·split at h
  ·obtain⟨υ,h1,e1⟩:=ri h
   obtain⟨h2,e2⟩:=dX h1
   obtain⟨h3,e3⟩:=cJ h2
   exact⟨_,_,_,h3,λH' hA K'=>by unfold ep;rw[e0];simp only;rw[e1 H' (hA _ (by simp)),e2,e3]⟩
  ·obtain⟨z,h1,e1⟩:=ct h
   obtain⟨h2,e2⟩:=cJ h1
   exact⟨_,_,_,h2,λH' _ K'=>by unfold ep;rw[e0];simp only;rw[e1,e2]⟩
  ·cases h
 ·cases h
theorem I6{τ:Ty}{a i:aM}{K:aM→Option α}(h:qd τ a i K=some r): ∃v,K v=some r∧ ∀K':aM→Option α,qd τ a i K'=K' v:=by
 unfold qd at h
 obtain⟨k,n,h,e0⟩:=lR h
 split at h
 ·obtain⟨z,h1,e1⟩:=ct h
  obtain⟨h2,e2⟩:=cJ h1
  exact⟨_,h2,λK'=>by unfold qd;rw[e0];simp only;rw[e1,e2]⟩
 ·obtain⟨h2,e2⟩:=cJ h
  exact⟨_,h2,λK'=>by unfold qd;rw[e0];simp only;rw[e2]⟩
 ·cases h
theorem K4{a:aM}{H:Nat→Option aI}{K:(υ:Ty)→υ.den→List Nat→Option α}(h:gX a H K=some r): ∃υ y rd,K υ y rd=some r∧ ∀H',Ag rd H H'→ ∀K':(υ:Ty)→υ.den→List Nat→Option α,gX a H' K'=K' υ y rd:=by
 unfold gX at h
 split at h
 ·exact⟨_,_,_,h,λ_ _ _=>rfl⟩
 ·split at h
  ·rename_i aF
   obtain⟨υ,y,h1,e1⟩:=eM h
   exact⟨_,_,_,h1,λH' hA K'=>by unfold gX;simp only;rw[hA _ (by simp),aF];simp only;rw[e1]⟩
  ·rename_i aF
   split at h
   ·obtain⟨υ,y,h1,e1⟩:=eM h
    exact⟨_,_,_,h1,λH' hA K'=>by unfold gX;simp only;rw[hA _ (by simp),aF];simp only;rw[e1]⟩
   ·cases h
  ·rename_i aF
   split at h
   ·obtain⟨υ,y,h1,e1⟩:=eM h
    exact⟨_,_,_,h1,λH' hA K'=>by unfold gX;simp only;rw[hA _ (by simp),aF];simp only;rw[e1]⟩
   ·cases h
  ·cases h
 ·cases h
theorem I7{τ:Ty}{a v:aM}{H:Nat→Option aI}{K:eo α}(h:iJ τ a v H K=some r): ∃u rd ups,K u rd ups=some r∧ ∀H',Ag rd H H'→ ∀K':eo α,iJ τ a v H' K'=K' u rd ups:=by
 unfold iJ at h
 split at h
 ·obtain⟨y,rd,ups,h1,e1⟩:=ki h
  split at h1
  ·rename_i aF
   obtain⟨z,h2,e2⟩:=kg h1
   exact⟨_,_,_,h2,λH' hA K'=>by
    unfold iJ;simp only
    rw[e1 H' (λi hi=>hA i (aU _ hi))]
    rw[hA _ (by simp),aF];simp only;rw[e2]⟩
  ·rename_i aF
   split at h1
   ·obtain⟨h2,e2⟩:=oi h1
    obtain⟨z,h3,e3⟩:=kg h2
    exact⟨_,_,_,h3,λH' hA K'=>by
     unfold iJ;simp only
     rw[e1 H' (λi hi=>hA i (aU _ hi))]
     rw[hA _ (by simp),aF];simp only;rw[e2,e3]⟩
   ·cases h1
  ·cases h1
 ·cases h
theorem N2{j:Nat}{q:List Step}{τ:Ty}{x:τ.den}{H:Nat→Option aI}{k:τ.den→fu→Option α}(h:wA j q τ x H k=some r): ∃z ups,k z ups=some r∧ ∀H',H' j=H j→ ∀k':τ.den→fu→Option α,wA j q τ x H' k'=k' z ups:=by
 unfold wA at h
 split at h
 ·rename_i hj
  obtain⟨z,h1,e1⟩:=kg h
  exact⟨_,_,h1,λH' hA k'=>by unfold wA;rw[hA,hj];simp only;rw[e1]⟩
 ·rename_i hj
  obtain⟨z,h1,e1⟩:=kg h
  exact⟨_,_,h1,λH' hA k'=>by unfold wA;rw[hA,hj];simp only;rw[e1]⟩
 ·cases h
abbrev Z7(F:(Nat→Option aI)→eo α→Option α)(H:Nat→Option aI)(K:eo α)(r:α):Prop:=
 ∃v rd ups,K v rd ups=some r∧ ∀H',Ag rd H H'→ ∀K':eo α,F H' K'=K' v rd ups
theorem K5{τ:Ty}{a:aM}{H:Nat→Option aI}{K:eo α}(h:(gX a H fun υ y rd=>bw υ τ y λz=>K (.val τ z) rd [])=some r):
  Z7 (λH K=>gX a H fun υ y rd=>bw υ τ y λz=>K (.val τ z) rd []) H K r:=by
 obtain⟨υ,y,rd,h1,e1⟩:=K4 h
 obtain⟨z,h2,e2⟩:=ct h1
 exact⟨_,_,_,h2,λH' hA K'=>by simp only;rw[e1 H' hA,e2]⟩
theorem WC{id:Nat}{p:List Step}{H:Nat→Option aI}{K:(υ:Ty)→υ.den→List Nat→Option α}(h:gX (.ft id p) H K=some r): ∃υ y,K υ y [id]=some r:=by
 unfold gX at h
 simp only at h
 split at h
 ·obtain⟨υ,y,h1,_⟩:=eM h;exact⟨υ,y,h1⟩
 ·split at h
  ·obtain⟨υ,y,h1,_⟩:=eM h;exact⟨υ,y,h1⟩
  ·cases h
 ·split at h
  ·obtain⟨υ,y,h1,_⟩:=eM h;exact⟨υ,y,h1⟩
  ·cases h
 ·cases h
theorem K6{τ:Ty}{id:Nat}{p:List Step}{H:Nat→Option aI}{K:eo α}(h:(gX (.ft id p) H fun υ y rd=>bw υ τ y λz=>K (.val τ z) rd [])=some r):
  ∃z,K (.val τ z) [id] []=some r∧ ∀H',H' id=H id→ ∀K':eo α,(gX (.ft id p) H' fun υ y rd=>bw υ τ y λz=>K' (.val τ z) rd [])=K' (.val τ z) [id] []:=by
 unfold gX at h
 simp only at h
 split at h
 ·rename_i aF
  obtain⟨υ,y,h1,e1⟩:=eM h
  obtain⟨z,h2,e2⟩:=ct h1
  exact⟨_,h2,λH' hA K'=>by unfold gX;simp only;rw[hA,aF];simp only;rw[e1,e2]⟩
 ·rename_i aF
  split at h
  ·obtain⟨υ,y,h1,e1⟩:=eM h
   obtain⟨z,h2,e2⟩:=ct h1
   exact⟨_,h2,λH' hA K'=>by unfold gX;simp only;rw[hA,aF];simp only;rw[e1,e2]⟩
  ·cases h
 ·rename_i aF
  split at h
  ·obtain⟨υ,y,h1,e1⟩:=eM h
   obtain⟨z,h2,e2⟩:=ct h1
   exact⟨_,h2,λH' hA K'=>by unfold gX;simp only;rw[hA,aF];simp only;rw[e1,e2]⟩
  ·cases h
 ·cases h
theorem DT{τ:Ty}{a:aM}{H:Nat→Option aI}{K:eo α}(h:ob τ a H K=some r):Z7 (ob τ a) H K r:=by
 unfold ob at h
 simp only at h
 split at h
 ·rename_i id p
  split at h
  ·rename_i υ x q j aF
   cases hp:CJ p q
   ·cases Dr:rE p q
    ·rw[hp,Dr]at h
     simp only[an]at h
     obtain⟨υ',y,h1,e1⟩:=eM h
     obtain⟨z,h2,e2⟩:=ct h1
     exact⟨_,_,_,h2,λH' hA K'=>by
      unfold ob;simp only;rw[hA id (by simp),aF];simp only
      rw[hp,Dr];simp only[an];rw[e1,e2]⟩
    ·rw[hp,Dr]at h
     simp only[an,aa]at h
     obtain⟨z,ups,h1,e1⟩:=N2 h
     obtain⟨υ',y,h2,e2⟩:=eM h1
     obtain⟨z',h3,e3⟩:=ct h2
     exact⟨_,_,_,h3,λH' hA K'=>by
      unfold ob;simp only;rw[hA id (by simp),aF];simp only
      rw[hp,Dr];simp only[an,aa];rw[e1 H' (hA j (by simp)),e2,e3]⟩
   ·rw[hp]at h
    simp only[aa]at h
    obtain⟨h1,e1⟩:=cJ h
    exact⟨_,_,_,h1,λH' hA K'=>by
     unfold ob;simp only;rw[hA id (by simp),aF];simp only
     rw[hp];simp only[aa];rw[e1]⟩
  ·rename_i mD
   obtain⟨z,h1,e1⟩:=K6 h
   refine⟨_,_,_,h1,λH' hA K'=> ?_⟩
   unfold ob;simp only;rw[hA id (by simp)]
   split
   ·rename_i aF;exact absurd aF (mD _ _ _ _)
   ·exact e1 H' (hA id (by simp)) K'
 ·rename_i mD
  obtain⟨v,rd,ups,h1,e1⟩:=K5 h
  refine⟨v,rd,ups,h1,λH' hA K'=> ?_⟩
  have:ob τ a H' K'=gX a H' fun υ y rd=>bw υ τ y λz=>K' (.val τ z) rd []:=by
   unfold ob
   cases a<;>first|rfl|exact absurd rfl (mD _ _)
  rw[this]
  exact e1 H' hA K'
theorem DU{τ:Ty}{id k:Nat}{e:Ty}{q:List Step}{υ:Ty}{x:υ.den}{H:Nat→Option aI}{K:eo α}(h:vv τ id k e q υ x H K=some r):
  ∃v ups,K v [id,k] ups=some r∧ ∀H',H' k=H k→ ∀K':eo α,vv τ id k e q υ x H' K'=K' v [id,k] ups:=by
 unfold vv at h
 split at h
 ·rename_i aF
  obtain⟨h1,e1⟩:=dX h
  obtain⟨h2,e2⟩:=dX h1
  obtain⟨z,h3,e3⟩:=kg h2
  exact⟨_,_,h3,λH' hA K'=>by unfold vv;rw[hA,aF];simp only;rw[e1,e2,e3]⟩
 ·cases h
theorem uQ{τ:Ty}{id:Nat}{p:List Step}{v:aM}{H:Nat→Option aI}{K:eo α}(h:iJ τ (.ft id p) v H K=some r):
  ∃u rd ups,id∈rd∧K u rd ups=some r∧ ∀H',Ag rd H H'→ ∀K':eo α,iJ τ (.ft id p) v H' K'=K' u rd ups:=by
 unfold iJ at h
 simp only at h
 obtain⟨y,rd,ups,h1,e1⟩:=ki h
 split at h1
 ·rename_i aF
  obtain⟨z,h2,e2⟩:=kg h1
  exact⟨_,_,_,by simp,h2,λH' hA K'=>by
   unfold iJ;simp only
   rw[e1 H' (λi hi=>hA i (aU _ hi))]
   rw[hA _ (by simp),aF];simp only;rw[e2]⟩
 ·rename_i aF
  split at h1
  ·obtain⟨h2,e2⟩:=oi h1
   obtain⟨z,h3,e3⟩:=kg h2
   exact⟨_,_,_,by simp,h3,λH' hA K'=>by
    unfold iJ;simp only
    rw[e1 H' (λi hi=>hA i (aU _ hi))]
    rw[hA _ (by simp),aF];simp only;rw[e2,e3]⟩
  ·cases h1
 ·cases h1
theorem uR{E:Env}{τ:Ty}{a v:aM}{H:Nat→Option aI}{K:eo α}(h:gy E τ a v H K=some r):
  ∃u rd ups,K u rd ups=some r∧ ∀H',Ag rd H H'→ ∀K':eo α,gy E τ a v H' K'=K' u rd ups:=by
 have h0:=h
 unfold gy at h
 simp only at h
 split at h
 ·rename_i id p
  split at h
  ·rename_i υ x aF
   split at h
   ·rename_i q e k lB
    cases hp:CJ p q
    ·rw[hp]at h
     simp only[an]at h
     obtain⟨u,rd,ups,hi,h1,e1⟩:=uQ h
     refine⟨u,rd,ups,h1,λH' hA K'=> ?_⟩
     unfold gy;simp only;rw[hA id hi,aF];simp only;rw[lB];simp only;rw[hp];simp only[an]
     exact e1 H' hA K'
    ·rw[hp]at h
     simp only[aa]at h
     obtain⟨u,ups,h1,e1⟩:=DU h
     refine⟨u,_,ups,h1,λH' hA K'=> ?_⟩
     unfold gy;simp only;rw[hA id (by simp),aF];simp only;rw[lB];simp only;rw[hp];simp only[aa]
     exact e1 H' (hA k (by simp)) K'
   ·rename_i mD
    obtain⟨u,rd,ups,hi,h1,e1⟩:=uQ h
    refine⟨u,rd,ups,h1,λH' hA K'=> ?_⟩
    unfold gy;simp only;rw[hA id hi,aF];simp only
    exact e1 H' hA K'
  ·rename_i υ x q j aF
   have KE:(iH true v H τ λy rd ups=>pF τ y p υ x λz=>K .any (id::rd) (ups++[(id,some (cond (rE p q) (.obj υ z) (.dT υ z q j)))]))=some r→
     ∃u rd ups,id∈rd∧K u rd ups=some r∧ ∀H',Ag rd H H'→ ∀K':eo α,(iH true v H' τ λy rd ups=>pF τ y p υ x λz=>K' .any (id::rd) (ups++[(id,some (cond (rE p q) (.obj υ z) (.dT υ z q j)))]))=K' u rd ups:=by
    intro h
    obtain⟨y,rd,ups,h1,e1⟩:=ki h
    obtain⟨z,h2,e2⟩:=kg h1
    exact⟨_,_,_,by simp,h2,λH' hA K'=>by rw[e1 H' (λi hi=>hA i (aU _ hi)),e2]⟩
   split at h
   ·rename_i q' e k lB
    cases hp:(CJ p q&&CJ q q')
    ·rw[hp]at h
     simp only[an]at h
     obtain⟨u,rd,ups,hi,h1,e1⟩:=KE h
     refine⟨u,rd,ups,h1,λH' hA K'=> ?_⟩
     unfold gy;simp only;rw[hA id hi,aF];simp only;rw[lB];simp only;rw[hp];simp only[an]
     exact e1 H' hA K'
    ·rw[hp]at h
     simp only[aa]at h
     obtain⟨u,ups,h1,e1⟩:=DU h
     refine⟨u,_,ups,h1,λH' hA K'=> ?_⟩
     unfold gy;simp only;rw[hA id (by simp),aF];simp only;rw[lB];simp only;rw[hp];simp only[aa]
     exact e1 H' (hA k (by simp)) K'
   ·rename_i mD
    obtain⟨u,rd,ups,hi,h1,e1⟩:=KE h
    refine⟨u,rd,ups,h1,λH' hA K'=> ?_⟩
    unfold gy;simp only;rw[hA id hi,aF];simp only
    exact e1 H' hA K'
  ·rename_i aaT aaU
   obtain⟨u,rd,ups,hi,h1,e1⟩:=uQ h
   refine⟨u,rd,ups,h1,λH' hA K'=> ?_⟩
   unfold gy;simp only;rw[hA id hi]
   split
   ·rename_i aF;exact absurd aF (aaT _ _)
   ·rename_i aF;exact absurd aF (aaU _ _ _ _)
   ·exact e1 H' hA K'
 ·rename_i mD
  obtain⟨u,rd,ups,h1,e1⟩:=I7 h
  refine⟨u,rd,ups,h1,λH' hA K'=> ?_⟩
  have:gy E τ a v H' K'=iJ τ a v H' K':=by
   unfold gy
   cases a<;>first|rfl|exact absurd rfl (mD _ _)
  rw[this]
  exact e1 H' hA K'
theorem I8{E:Env}{τ:Ty}{a v:aM}{H:Nat→Option aI}{K:eo α}(h:nK E τ a v H K=some r):
  ∃u rd ups,K u rd ups=some r∧ ∀H',Ag rd H H'→ ∀K':eo α,nK E τ a v H' K'=K' u rd ups:=by
 unfold nK at h
 split at h
 ·rename_i id υ y n
  split at h
  ·rename_i m e lB
   cases w4:Nat.beq m n
   ·rw[w4]at h
    simp only[an]at h
    obtain⟨u,rd,ups,h1,e1⟩:=uR h
    exact⟨u,rd,ups,h1,λH' hA K'=>by unfold nK;simp only;rw[lB];simp only;rw[w4];simp only[an];exact e1 H' hA K'⟩
   ·rw[w4]at h
    simp only[aa]at h
    obtain⟨h1,e1⟩:=dX h
    obtain⟨υ',h2,e2⟩:=ri h1
    obtain⟨h3,e3⟩:=dX h2
    obtain⟨h4,e4⟩:=rj h3
    exact⟨_,_,_,h4,λH' hA K'=>by unfold nK;simp only;rw[lB];simp only;rw[w4];simp only[aa];rw[e1,e2 H' (hA _ (by simp)),e3,e4 H' (hA _ (by simp))]⟩
  ·rename_i mD
   obtain⟨u,rd,ups,h1,e1⟩:=uR h
   refine⟨u,rd,ups,h1,λH' hA K'=> ?_⟩
   unfold nK;simp only
   exact e1 H' hA K'
 ·rename_i mD
  obtain⟨u,rd,ups,h1,e1⟩:=uR h
  refine⟨u,rd,ups,h1,λH' hA K'=> ?_⟩
  unfold nK
  split
  ·exact absurd rfl (mD _ _ _ _ rfl)
  ·exact e1 H' hA K'
theorem I9{E:Env}{t:Ty}{z:Bool}{a:aM}{lo hi mx:Option aM}{H:Nat→Option aI}{K:eo α}(h:qc E t z a lo hi mx H K=some r): ∃v rd ups,K v rd ups=some r∧ ∀H',Ag rd H H'→ ∀K':eo α,qc E t z a lo hi mx H' K'=K' v rd ups:=by
 unfold qc at h
 split at h
 ·rename_i e id lo' Z3
  obtain⟨k,i,h1,e1⟩:=lR h
  split at h1
  ·rename_i e' l aF
   obtain⟨h2,e2⟩:=dX h1
   obtain⟨h3,e3⟩:=cJ h2
   refine⟨_,_,_,h3,λH' hA K'=> ?_⟩
   unfold qc;rw[Z3];simp only
   rw[e1,hA id (by simp),aF];simp only
   rw[e2,e3]
  ·cases h1
 ·rename_i mD
  obtain⟨v,rd,ups,h1,e1⟩:=I5 h
  refine⟨v,rd,ups,h1,λH' hA K'=> ?_⟩
  unfold qc
  split
  ·rename_i Z3;exact absurd rfl (mD _ _ _ Z3 rfl rfl rfl rfl)
  ·exact e1 H' hA K'
theorem Ja{e:Ty}{a:aM}{H:Nat→Option aI}{K:eo α}(h:rZ e a H K=some r): ∃v rd ups,K v rd ups=some r∧ ∀H',Ag rd H H'→ ∀K':eo α,rZ e a H' K'=K' v rd ups:=by
 unfold rZ at h
 split at h
 ·rename_i id e' lo
  obtain⟨h1,e1⟩:=dX h
  split at h1
  ·rename_i e2 l aF
   obtain⟨z,h2,e3⟩:=ct h1
   refine⟨_,_,_,h2,λH' hA K'=> ?_⟩
   unfold rZ;simp only
   rw[e1,hA id (by simp),aF];simp only
   rw[e3]
  ·cases h1
 ·cases h
theorem Jb{E:Env}{τ:Ty}{a v:aM}{H:Nat→Option aI}{K:eo α}(h:qf E τ a v H K=some r):
  ∃u rd ups,K u rd ups=some r∧ ∀H',Ag rd H H'→ ∀K':eo α,qf E τ a v H' K'=K' u rd ups:=by
 unfold qf at h
 split at h
 ·rename_i id υ y n j
  split at h
  ·rename_i m e lB
   obtain⟨h1,e1⟩:=cJ h
   obtain⟨h2,e2⟩:=dX h1
   obtain⟨υ',h3,e3⟩:=ri h2
   obtain⟨h4,e4⟩:=dX h3
   split at h4
   ·rename_i e' l hj
    obtain⟨h5,e5⟩:=dX h4
    refine⟨_,_,_,h5,λH' hA K'=> ?_⟩
    unfold qf;simp only;rw[lB];simp only
    rw[e1,e2,e3 H' (hA _ (by simp)),e4,hA j (by simp),hj];simp only
    rw[e5]
   ·cases h4
  ·cases h
 ·rename_i mD
  obtain⟨u,rd,ups,h1,e1⟩:=I8 h
  refine⟨u,rd,ups,h1,λH' hA K'=> ?_⟩
  unfold qf
  split
  ·exact absurd rfl (mD _ _ _ _ _ rfl)
  ·exact e1 H' hA K'
theorem K7{E:Env}{τ:Ty}{a:aM}{H:Nat→Option aI}{K:eo α}(h:tk E τ a H K=some r):
  ∃u rd ups,K u rd ups=some r∧ ∀H',Ag rd H H'→ ∀K':eo α,tk E τ a H' K'=K' u rd ups:=by
 unfold tk at h
 split at h
 ·rename_i id II
  split at h
  ·rename_i υ x n j aF
   obtain⟨z,h1,e1⟩:=ct h
   refine⟨_,_,_,h1,λH' hA K'=> ?_⟩
   unfold tk;rw[II];simp only;rw[hA id (by simp),aF];simp only
   rw[e1]
  ·rename_i mD
   obtain⟨u,rd,ups,h1,e1⟩:=DT h
   refine⟨_,_,_,h1,λH' hA K'=> ?_⟩
   unfold tk;rw[II];simp only;rw[hA id (by simp)]
   split
   ·rename_i aF;exact absurd aF (mD _ _ _ _)
   ·exact e1 H' (λi hi=>hA i (aU _ hi)) _
 ·rename_i mD
  obtain⟨u,rd,ups,h1,e1⟩:=DT h
  refine⟨u,rd,ups,h1,λH' hA K'=> ?_⟩
  unfold tk
  split
  ·rename_i II;exact absurd rfl (mD _ II)
  ·exact e1 H' hA K'
theorem HW{H:Nat→Option aI}{id:Nat}{τ:Ty}{x:τ.den}{q:List Step}{e:Ty}{K:eo α}(h:wB H id τ x q e K=some r):Z7 (λH K=>wB H id τ x q e K) H K r:=by
 obtain⟨h1,h2,h3⟩:=yc h
 exact⟨_,_,_,h3,λH' hA K'=>by unfold wB mz;simp only;rw[hA id (by simp),h1,hA (id+1) (by simp),h2]⟩
theorem Sy{E:Env}{o:Oper}{ρ:Operand→aM}{H:Nat→Option aI}{K:eo α}(h:nn E o ρ H K=some r):
  ∃v rd ups,K v rd ups=some r∧ ∀ρ' H',(∀x∈o.op.operands,ρ' x=ρ x)→Ag rd H H'→ ∀K':eo α,nn E o ρ' H' K'=K' v rd ups:=by
 obtain⟨dst,op,type,pos,after,guard⟩:=o
 unfold nn at h
 simp only at h
 have N3: ∀{ρ':Operand→aM} (xs:List Operand),(∀x∈xs,ρ' x=ρ x)→xs.map ρ'=xs.map ρ:=λxs hx=>nh hx
 have BT: ∀{ρ':Operand→aM} (ps:Array (Nat×Operand)),(∀x∈ps.map (·.2),ρ' x=ρ x)→partsOf ρ' ps=partsOf ρ ps:=λps hp=>by
  unfold partsOf
  exact nh λp hm=>by rw[hp p.2 (Array.mem_map.2 ⟨p,by simpa using hm,rfl⟩)]
 have Sz: ∀{ρ':Operand→aM} (x:Option Operand),(∀y∈x,ρ' y=ρ y)→x.map ρ'=x.map ρ:=λx hx=>by
  cases x with
  |none=>rfl
  |some x=>simp[hx x rfl]
 split at h
 ·
  rename_i x
  exact⟨_,_,_,h,fun ρ' H' hx _ K'=>by unfold nn;simp only;rw[hx x (by simp[Op.operands])]⟩
 ·rename_i x
  exact⟨_,_,_,h,fun ρ' H' hx _ K'=>by unfold nn;simp only;rw[hx x (by simp[Op.operands])]⟩
 ·rename_i x y z
  split at h
  ·rename_i t hx
   cases t
   ·exact⟨_,_,_,(h:K (ρ z) [] []=some r),fun ρ' H' k9 _ K'=>by unfold nn;simp only;rw[k9 x (by simp[Op.operands]),hx,k9 z (by simp[Op.operands])];rfl⟩
   ·exact⟨_,_,_,(h:K (ρ y) [] []=some r),fun ρ' H' k9 _ K'=>by unfold nn;simp only;rw[k9 x (by simp[Op.operands]),hx,k9 y (by simp[Op.operands])];rfl⟩
  ·cases h
 ·
  split at h
  ·rename_i τ ht
   split at h
   ·rename_i q e lB
    obtain⟨v,rd,ups,h1,e1⟩:=HW h
    exact⟨_,_,_,h1,fun ρ' H' hx hA K'=>by unfold nn;simp only;rw[ht];simp only;rw[lB];exact e1 H' hA K'⟩
   ·rename_i lB
    obtain⟨h1,e1⟩:=rj h
    exact⟨_,_,_,h1,fun ρ' H' hx hA K'=>by unfold nn;simp only;rw[ht];simp only;rw[lB];simp only;rw[e1 H' (hA _ (by simp))]⟩
  ·cases h
 ·
  rename_i t x
  split at h
  ·rename_i τ ht
   have hold:(iH true (ρ x) H τ λy rd ups=>mz H (16*dst.getD 0) (.obj τ y) (K (.ft (16*dst.getD 0) []) (16*dst.getD 0::rd) (ups++[(16*dst.getD 0,some (.obj τ y))])))=some r→
     Z7 (λH K=>iH true (ρ x) H τ λy rd ups=>mz H (16*dst.getD 0) (.obj τ y) (K (.ft (16*dst.getD 0) []) (16*dst.getD 0::rd) (ups++[(16*dst.getD 0,some (.obj τ y))]))) H K r:=by
    intro h
    obtain⟨y,rd,ups,h1,e1⟩:=ki h
    obtain⟨h2,e2⟩:=rj h1
    exact⟨_,_,_,h2,λH' hA K'=>by simp only;rw[e1 H' (λi hi=>hA i (aU _ hi)),e2 H' (hA _ (by simp))]⟩
   split at h
   ·rename_i m e υ y n lB Q7
    cases w4:Nat.beq m n
    ·rw[w4]at h
     obtain⟨v,rd,ups,h1,e1⟩:=hold h
     refine⟨_,_,_,h1,fun ρ' H' hx hA K'=> ?_⟩
     unfold nn;simp only;rw[ht];simp only
     rw[hx x (by simp[Op.operands]),lB,Q7];simp only
     rw[w4]
     have:=e1 H' hA K'
     rw[Q7]at this
     exact this
    ·rw[w4]at h
     simp only[aa]at h
     obtain⟨z,h1,e1⟩:=ct h
     obtain⟨v,rd,ups,h2,e2⟩:=HW h1
     refine⟨_,_,_,h2,fun ρ' H' hx hA K'=> ?_⟩
     unfold nn;simp only;rw[ht];simp only
     rw[hx x (by simp[Op.operands]),lB,Q7];simp only
     rw[w4];simp only[aa]
     rw[e1]
     exact e2 H' hA K'
   ·rename_i mD
    obtain⟨v,rd,ups,h1,e1⟩:=hold h
    refine⟨_,_,_,h1,fun ρ' H' hx hA K'=> ?_⟩
    unfold nn;simp only;rw[ht];simp only
    rw[hx x (by simp[Op.operands])]
    split
    ·rename_i lB Q7;exact absurd Q7 (mD _ _ _ _ _ lB)
    ·exact e1 H' hA K'
  ·cases h
 ·
  rename_i t ps
  split at h
  ·rename_i n e ht
   obtain⟨l,rd,ups,h1,_,e1⟩:=yB h
   exact⟨_,_,_,h1,fun ρ' H' hx hA K'=>by unfold nn;simp only;rw[ht];simp only;rw[BT ps (λx k9=>hx x (by simpa [Op.operands]using k9)),e1 H' hA]⟩
  ·rename_i τ NO ht
   split at h
   ·rename_i n k hs
    split at h
    ·rename_i e' l' hk
     obtain⟨h0,e0⟩:=cJ h
     obtain⟨l,rd,ups,h1,_,e1⟩:=uP h0
     refine⟨_,_,_,h1,fun ρ' H' hx hA K'=> ?_⟩
     unfold nn;simp only;rw[ht]
     cases τ with
     |arr n e=>exact absurd rfl (NO n e)
     |_=>
      simp only
      rw[BT ps (λx k9=>hx x (by simpa [Op.operands]using k9)),hs];simp only
      rw[hA k (by simp),hk];simp only
      rw[e0,e1 H' (λi hi=>hA i (aU _ hi))]
    ·cases h
   ·rename_i hs
    obtain⟨h0,e0⟩:=cJ h
    obtain⟨l,rd,ups,h1,_,e1⟩:=uP h0
    refine⟨_,_,_,h1,fun ρ' H' hx hA K'=> ?_⟩
    unfold nn;simp only;rw[ht]
    cases τ with
    |arr n e=>exact absurd rfl (NO n e)
    |_=>
     simp only
     rw[BT ps (λx k9=>hx x (by simpa [Op.operands]using k9)),hs];simp only
     rw[e0,e1 H' hA]
  ·cases h
 ·
  rename_i t n ps
  split at h
  ·rename_i e ht
   obtain⟨h0,e0⟩:=cJ h
   obtain⟨h1,e1⟩:=rj h0
   obtain⟨l,rd,ups,h2,_,e2⟩:=yB h1
   exact⟨_,_,_,h2,fun ρ' H' hx hA K'=>by
    unfold nn;simp only;rw[ht];simp only
    rw[e0,e1 H' (hA _ (by simp)),BT ps (λx k9=>hx x (by simpa [Op.operands]using k9)),e2 H' (λi hi=>hA i (aU _ hi))]⟩
  ·cases h
 ·
  rename_i t x
  split at h
  ·rename_i τ ht
   obtain⟨v,rd,ups,h1,e1⟩:=K7 h
   exact⟨_,_,_,h1,fun ρ' H' hx hA K'=>by unfold nn;simp only;rw[ht];simp only;rw[hx x (by simp[Op.operands]),e1 H' hA]⟩
  ·cases h
 ·
  rename_i t x y
  split at h
  ·rename_i τ ht
   obtain⟨u,rd,ups,h1,e1⟩:=Jb h
   exact⟨_,_,_,h1,fun ρ' H' hx hA K'=>by unfold nn;simp only;rw[ht];simp only;rw[hx x (by simp[Op.operands]),hx y (by simp[Op.operands]),e1 H' hA]⟩
  ·cases h
 ·
  rename_i x
  split at h
  ·rename_i id p hx
   exact⟨_,_,_,h,fun ρ' H' k9 _ K'=>by unfold nn;simp only;rw[k9 x (by simp[Op.operands]),hx]⟩
  ·rename_i τ z hx
   exact⟨_,_,_,h,fun ρ' H' k9 _ K'=>by unfold nn;simp only;rw[k9 x (by simp[Op.operands]),hx]⟩
  ·cases h
 ·
  rename_i b t x y t'
  obtain⟨τ,x1,h1,e1⟩:=HV h
  obtain⟨υ,y1,h2,e2⟩:=HV h1
  obtain⟨v,h3,e3⟩:=K0 h2
  exact⟨_,_,_,h3,fun ρ' H' hx _ K'=>by unfold nn;simp only;rw[hx x (by simp[Op.operands]),hx y (by simp[Op.operands]),e1,e2,e3]⟩
 ·
  rename_i u t x
  obtain⟨v,h1,e1⟩:=NZ h
  exact⟨_,_,_,h1,fun ρ' H' hx _ K'=>by unfold nn;simp only;rw[hx x (by simp[Op.operands]),e1]⟩
 ·
  rename_i s d x
  split at h
  ·rename_i τ k hs hd
   obtain⟨i,n,h1,e1⟩:=lR h
   exact⟨_,_,_,h1,fun ρ' H' hx _ K'=>by unfold nn;simp only;rw[hs,hd];simp only;rw[hx x (by simp[Op.operands]),e1]⟩
  ·cases h
 ·
  rename_i f first my
  obtain⟨h1,e1⟩:=cJ h
  obtain⟨cs,rd,ups,h3,e3⟩:=yD h1
  exact⟨_,_,_,h3,fun ρ' H' hx hA K'=>by unfold nn;simp only;rw[N3 my.toList (λx k9=>hx x (by simp[Op.operands];exact .inr (by simpa using k9))),e1,e3 H' hA]⟩
 ·
  rename_i t x y
  split at h
  ·rename_i e ht
   obtain⟨i,n,h1,e1⟩:=lR h
   obtain⟨i',n',h2,e2⟩:=lR h1
   obtain⟨h3,e3⟩:=cJ h2
   obtain⟨h4,e4⟩:=rj h3
   exact⟨_,_,_,h4,fun ρ' H' hx hA K'=>by
    unfold nn;simp only;rw[ht];simp only
    rw[hx x (by simp[Op.operands]),e1,hx y (by simp[Op.operands]),e2,e3,e4 H' (hA _ (by simp))]⟩
  ·cases h
 ·
  rename_i t x lo hi mx
  split at h
  ·rename_i τ ht
   obtain⟨v,rd,ups,h1,e1⟩:=I9 h
   exact⟨_,_,_,h1,fun ρ' H' hx hA K'=>by
    unfold nn;simp only;rw[ht];simp only
    rw[hx x (by simp[Op.operands]),Sz lo (λy hy=>hx y (by simp at hy;simp[Op.operands,hy])),Sz hi (λy hy=>hx y (by simp at hy;simp[Op.operands,hy])),Sz mx (λy hy=>hx y (by simp at hy;simp[Op.operands,hy])),e1 H' hA]⟩
  ·cases h
 ·
  rename_i t x n
  split at h
  ·rename_i τ ht
   split at h
   ·rename_i id p hx
    obtain⟨υ,h1,e1⟩:=ri h
    obtain⟨h2,e2⟩:=dX h1
    obtain⟨υ',y',h3,e3⟩:=rf h2
    obtain⟨h4,e4⟩:=oi h3
    exact⟨_,_,_,h4,fun ρ' H' k9 hA K'=>by
     unfold nn;simp only;rw[ht];simp only
     rw[k9 x (by simp[Op.operands]),hx];simp only
     rw[e1 H' (hA _ (by simp)),e2,e3,e4]⟩
   ·rename_i υ z hx
    obtain⟨h2,e2⟩:=dX h
    obtain⟨υ',y',h3,e3⟩:=rf h2
    obtain⟨h4,e4⟩:=oi h3
    exact⟨_,_,_,h4,fun ρ' H' k9 hA K'=>by
     unfold nn;simp only;rw[ht];simp only
     rw[k9 x (by simp[Op.operands]),hx];simp only
     rw[e2,e3,e4]⟩
   ·cases h
  ·cases h
 ·
  rename_i t x n
  split at h
  ·rename_i τ ht
   split at h
   ·rename_i υ z hx
    obtain⟨h2,e2⟩:=dX h
    obtain⟨υ',y',h3,e3⟩:=rf h2
    exact⟨_,_,_,h3,fun ρ' H' k9 hA K'=>by
     unfold nn;simp only;rw[ht];simp only
     rw[k9 x (by simp[Op.operands]),hx];simp only
     rw[e2,e3]⟩
   ·cases h
  ·cases h
 ·
  rename_i t x i
  split at h
  ·rename_i τ ht
   obtain⟨v,rd,ups,h1,e1⟩:=Ai h
   exact⟨_,_,_,h1,fun ρ' H' hx hA K'=>by unfold nn;simp only;rw[ht];simp only;rw[hx x (by simp[Op.operands]),hx i (by simp[Op.operands]),e1 H' hA]⟩
  ·cases h
 ·
  rename_i t x i
  split at h
  ·rename_i τ ht
   obtain⟨v,h1,e1⟩:=I6 h
   exact⟨_,_,_,h1,fun ρ' H' hx hA K'=>by unfold nn;simp only;rw[ht];simp only;rw[hx x (by simp[Op.operands]),hx i (by simp[Op.operands]),e1]⟩
  ·cases h
 ·
  rename_i x i
  split at h
  ·rename_i vs hx
   split at h
   ·rename_i v hv
    exact⟨_,_,_,h,fun ρ' H' k9 hA K'=>by unfold nn;simp only;rw[k9 x (by simp[Op.operands]),hx];simp only;rw[hv]⟩
   ·cases h
  ·cases h
 ·
  rename_i cl
  obtain⟨callee,args,ts⟩:=cl
  simp only at h
  have qw: ∀{ρ':Operand→aM},(∀x∈(Op.call {callee,args,argTypes:=ts}).operands,ρ' x=ρ x)→ ∀x∈args.toList,ρ' x=ρ x:=
   λhx x k9=>hx x (by simp[Op.operands,Call.operands];exact .inr (by simpa using k9))
  split at h
  ·split at h
   ·rename_i x τ ha ht
    obtain⟨v,rd,ups,h1,e1⟩:=N0 h
    exact⟨_,_,_,h1,fun ρ' H' hx hA K'=>by unfold nn;simp only;rw[ha,ht];simp only;rw[qw hx x (by rw[ha];simp),e1 H' hA]⟩
   ·cases h
  ·split at h
   ·rename_i x y t t' ha ht
    split at h
    ·rename_i e Sv
     obtain⟨h1,e1⟩:=cJ h
     obtain⟨h2,e2⟩:=rj h1
     obtain⟨v,rd,ups,h3,aF,e3⟩:=N1 h2
     exact⟨_,_,_,h3,fun ρ' H' hx hA K'=>by
      unfold nn;simp only;rw[ha,ht];simp only;rw[Sv];simp only
      rw[e1,e2 H' (hA _ aF),qw hx x (by rw[ha];simp),qw hx y (by rw[ha];simp),e3 H' hA]⟩
    ·cases h
   ·cases h
  ·split at h
   ·rename_i x t ha ht
    split at h
    ·rename_i e Sv
     obtain⟨v,rd,ups,h1,e1⟩:=Ja h
     exact⟨_,_,_,h1,fun ρ' H' hx hA K'=>by
      unfold nn;simp only;rw[ha,ht];simp only;rw[Sv];simp only
      rw[qw hx x (by rw[ha];simp),e1 H' hA]⟩
    ·cases h
   ·cases h
  ·split at h
   ·rename_i x xs ha
    obtain⟨v,h1,e1⟩:=Gx h
    exact⟨_,_,_,h1,fun ρ' H' hx hA K'=>by
     unfold nn;simp only;rw[ha];simp only
     rw[qw hx x (by rw[ha];simp),N3 xs (λy hy=>qw hx y (by rw[ha];simp[hy])),e1]⟩
   ·cases h
  ·split at h
   ·rename_i x xs ha
    obtain⟨v,h1,e1⟩:=Gx h
    exact⟨_,_,_,h1,fun ρ' H' hx hA K'=>by
     unfold nn;simp only;rw[ha];simp only
     rw[qw hx x (by rw[ha];simp),N3 xs (λy hy=>qw hx y (by rw[ha];simp[hy])),e1]⟩
   ·cases h
  ·rename_i g
   split at h
   ·rename_i f my hg
    obtain⟨v,rd,ups,h1,e1⟩:=K3 h
    exact⟨_,_,_,h1,fun ρ' H' hx hA K'=>by
     unfold nn;simp only
     rw[hx g (by simp[Op.operands,Call.operands]),hg];simp only
     rw[N3 args.toList (qw hx),e1 H' hA]⟩
   ·cases h
  ·cases h
 ·cases h
end VM
end
section
namespace VM
open Go
variable{P:Program}{E:Env}{o:Oper}{a:Act}{w:World}{M:Nat→Prop}{ν:Nat→Value}{σ:St}{c:Ctx}{α:Type}{r:α}{next:Act→World→Prop}{Q:Exit→Act→World→Prop}
structure Out where
 dst:Option Nat
 v:aM
 rd:List Nat
 ups:fu
def Out.app(u:Out)(σ:St):St:=(σ.p7 u.ups).pE u.dst u.v
theorem DV(σ:St)(d:Nat)(v:aM):(σ.pE (some d) v).T d=v:=oM σ d v
theorem Jc(σ:St){d:Option Nat}{t:Nat}(v:aM)(h:d≠some t):(σ.pE d v).T t=σ.T t:=by
 cases d with
 |none=>rfl
 |some d=>exact tL σ v (λe=>h (by rw[e]))
theorem SA(σ:St)(d:Option Nat)(v:aM):(σ.pE d v).H=σ.H:=by cases d<;>rfl
theorem Gy{u:Out}{t:Nat}(h:u.dst=some t)(σ:St):(u.app σ).T t=u.v:=by unfold Out.app;rw[h];exact DV _ _ _
theorem K8{u:Out}{t:Nat}(h:u.dst≠some t)(σ:St):(u.app σ).T t=σ.T t:=by unfold Out.app;rw[Jc _ _ h,Gn]
theorem WD(u:Out)(σ:St):(u.app σ).H=bM σ.H u.ups:=by unfold Out.app;rw[SA,Gm]
def Pt(E:Env)(ops:List Oper)(o:Oper)(σ:St)(u:Out)(α:Type):Prop:=
 u.dst=o.dst∧ ∀σ':St,(∀t∈names ops o,σ'.T t=σ.T t)→Ag u.rd σ.H σ'.H→ ∀K':St→List Nat→List Nat→Option α,oc E ops o σ' K'=K' (u.app σ') u.rd (u.ups.map (·.1))
theorem K9{ops:List Oper}{K:St→List Nat→List Nat→Option α}(h:oc E ops o σ K=some r): ∃u:Out,K (u.app σ) u.rd (u.ups.map (·.1))=some r∧Pt E ops o σ u α:=by
 unfold oc at h
 obtain⟨h,e0⟩:=cJ h
 have aaV: ∀σ':St,(∀t∈names ops o,σ'.T t=σ.T t)→ ∀x∈o.op.operands,σ'.ρ x=σ.ρ x:=by
  intro σ' hT x hx
  cases x with
  |tmp t=>
   refine hT t ?_
   unfold names
   refine bG _ (List.mem_filterMap.2 ⟨.tmp t,by simpa using hx,rfl⟩)
  |_=>rfl
 have cr:nn E o σ.ρ σ.H (λv rd ups=>K ((σ.p7 ups).pE o.dst v) rd (ups.map (·.1)))=some r→
   ∃u:Out,K (u.app σ) u.rd (u.ups.map (·.1))=some r∧u.dst=o.dst∧ ∀σ':St,(∀t∈names ops o,σ'.T t=σ.T t)→Ag u.rd σ.H σ'.H→ ∀K':St→List Nat→List Nat→Option α,
    nn E o σ'.ρ σ'.H (λv rd ups=>K' ((σ'.p7 ups).pE o.dst v) rd (ups.map (·.1)))=K' (u.app σ') u.rd (u.ups.map (·.1)):=by
  intro h
  obtain⟨v,rd,ups,h1,h2⟩:=Sy h
  exact⟨⟨o.dst,v,rd,ups⟩,h1,rfl,fun σ' hT hA K'=>h2 σ'.ρ σ'.H (aaV σ' hT) hA _⟩
 have yx: ∀{K:St→List Nat→List Nat→Option α},K (σ.pE o.dst .Kw) [] []=some r→ ∃u:Out,K (u.app σ) u.rd (u.ups.map (·.1))=some r∧u.dst=o.dst∧ ∀σ':St,∀K':St→List Nat→List Nat→Option α,K' (σ'.pE o.dst .Kw) [] []=K' (u.app σ') u.rd (u.ups.map (·.1)):=
  λh=>⟨⟨o.dst,.Kw,[],[]⟩,h,rfl,λ_ _=>rfl⟩
 simp only at h
 split at h
 ·rename_i hg
  obtain⟨u,h1,h2,h3⟩:=cr h
  refine⟨u,h1,h2,fun σ' hT hA K'=> ?_⟩
  unfold oc
  rw[e0]
  simp only
  rw[hg]
  exact h3 σ' hT hA K'
 ·rename_i j want hg
  split at h
  ·cases h
  ·rename_i t ht
   have Jd:t∈names ops o:=by
    unfold names
    refine ck _ ?_
    rw[hg]
    simp[ht]
   split at h
   ·rename_i b hb
    have lC: ∀σ':St,σ'.T t=σ.T t→σ'.put t (.val .bool b)=σ':=fun σ' h'=>by
     rw[←hb,←h'];exact yw σ' t
    cases want<;>cases b
    ·obtain⟨u,h1,h2,h3⟩:=cr (by
      have:=lC σ rfl
      rw[this]at h;exact h)
     refine⟨u,h1,h2,fun σ' hT hA K'=> ?_⟩
     unfold oc
     rw[e0];simp only;rw[hg];simp only;rw[ht];simp only;rw[hT t Jd,hb];simp only
     rw[lC σ' (hT t Jd)]
     exact h3 σ' hT hA K'
    ·obtain⟨u,h1,h2,h3⟩:=yx (by
      have:=lC σ rfl
      rw[this]at h;exact h)
     refine⟨u,h1,h2,fun σ' hT hA K'=> ?_⟩
     unfold oc
     rw[e0];simp only;rw[hg];simp only;rw[ht];simp only;rw[hT t Jd,hb];simp only
     rw[lC σ' (hT t Jd)]
     exact h3 σ' K'
    ·obtain⟨u,h1,h2,h3⟩:=yx (by
      have:=lC σ rfl
      rw[this]at h;exact h)
     refine⟨u,h1,h2,fun σ' hT hA K'=> ?_⟩
     unfold oc
     rw[e0];simp only;rw[hg];simp only;rw[ht];simp only;rw[hT t Jd,hb];simp only
     rw[lC σ' (hT t Jd)]
     exact h3 σ' K'
    ·obtain⟨u,h1,h2,h3⟩:=cr (by
      have:=lC σ rfl
      rw[this]at h;exact h)
     refine⟨u,h1,h2,fun σ' hT hA K'=> ?_⟩
     unfold oc
     rw[e0];simp only;rw[hg];simp only;rw[ht];simp only;rw[hT t Jd,hb];simp only
     rw[lC σ' (hT t Jd)]
     exact h3 σ' hT hA K'
   ·rename_i hb
    obtain⟨u,h1,h2,h3⟩:=yx h
    refine⟨u,h1,h2,fun σ' hT hA K'=> ?_⟩
    unfold oc
    rw[e0];simp only;rw[hg];simp only;rw[ht];simp only;rw[hT t Jd,hb]
    exact h3 σ' K'
   ·cases h
theorem HX{ops:List Oper}: ∀(l:List Oper) (i:Nat) (σ:St) (lg:Log) (K:St→Log→Option α),IB E ops l i σ lg K=some r→
  ∃us:List Out,us.length=l.length∧(∀j u o,us[j]? =some u→l[j]? =some o→Pt E ops o ((us.take j).foldl (fun σ u=>u.app σ) σ) u α)∧
   ∃Q5,K (us.foldl (fun σ u=>u.app σ) σ) Q5=some r∧(∀x∈lg,x∈Q5)∧ ∀j u,us[j]? =some u→(i+j,u.rd,u.ups.map (·.1))∈Q5
 |[],i,σ,lg,K,h=>⟨[],rfl,λj u o hj=>by simp at hj,lg,h,λ_ h=>h,λj u hj=>by simp at hj⟩
 |o::l,i,σ,lg,K,h=>by
  unfold IB at h
  obtain⟨u,h1,h2⟩:=K9 h
  obtain⟨us,hl,Vv,Q5,hK,Nj,hj⟩:=HX l (i+1) (u.app σ) _ K h1
  refine⟨u::us,by simp[hl],λj u' o' hu ho=> ?_,Q5,hK,λx hx=>Nj x (aU _ hx),λj u' hu=> ?_⟩
  ·cases j with
   |zero=>simp at hu ho;subst hu ho;exact h2
   |succ j=>exact Vv j u' o' (by simpa using hu) (by simpa using ho)
  ·cases j with
   |zero=>simp at hu;subst hu;exact Nj _ bg
   |succ j=>
    have:=hj j u' (by simpa using hu)
    rwa [show i+1+j=i+(j+1)from by omega]at this
theorem Je{k:Nat}{ups:fu}(h:k∈keys ups)(H H':Nat→Option aI):bM H ups k=bM H' ups k:=by
 induction ups generalizing H H' with
 |nil=>simp[keys]at h
 |cons u r ih=>
  show bM (a8 H u.1 u.2) r k=bM (a8 H' u.1 u.2) r k
  by_cases hk:k∈keys r
  ·exact ih hk _ _
  ·have hku:k=u.1:=by
    simp only[keys,bA,aV]at h hk
    exact h.resolve_right hk
   rw[ir hk,ir hk,hku,al,al]
structure kC(us:List Out)(σ0:St)(S:Nat→Prop)(σ:St):Prop where
 T: ∀t,(∃j u,us[j]? =some u∧S j∧u.dst=some t∧(∀j' u',us[j']? =some u'→S j'→u'.dst=some t→j'≤j)∧σ.T t=u.v)∨((∀j u,us[j]? =some u→S j→u.dst≠some t)∧σ.T t=σ0.T t)
 H: ∀k,(∃j u,us[j]? =some u∧S j∧k∈keys u.ups∧(∀j' u',us[j']? =some u'→S j'→k∈keys u'.ups→j'≤j)∧σ.H k=bM σ0.H u.ups k)∨((∀j u,us[j]? =some u→S j→k∉keys u.ups)∧σ.H k=σ0.H k)
theorem kC.La{us:List Out}{σ0 σ σ':St}{S S':Nat→Prop}(h:kC us σ0 S σ)(h':kC us σ0 S' σ'){t:Nat}(hs: ∀j u,us[j]? =some u→u.dst=some t→(S j↔S' j)):σ.T t=σ'.T t:=by
 rcases h.T t with⟨j,u,h1,h2,h3,h4,h5⟩|⟨h1,h2⟩<;>rcases h'.T t with⟨j',u',m4,rU,Gz,h4',h5'⟩|⟨m4,rU⟩
 ·have e1:=h4 j' u' m4 ((hs j' u' m4 Gz).2 rU) Gz
  have e2:=h4' j u h1 ((hs j u h1 h3).1 h2) h3
  have:j=j':=ω
  subst this
  rw[h1]at m4;cases m4
  rw[h5,h5']
 ·exact absurd h3 (m4 j u h1 ((hs j u h1 h3).1 h2))
 ·exact absurd Gz (h1 j' u' m4 ((hs j' u' m4 Gz).2 rU))
 ·rw[h2,rU]
theorem kC.Lb{us:List Out}{σ0 σ σ':St}{S S':Nat→Prop}(h:kC us σ0 S σ)(h':kC us σ0 S' σ'){k:Nat}(hs: ∀j u,us[j]? =some u→k∈keys u.ups→(S j↔S' j)):σ.H k=σ'.H k:=by
 rcases h.H k with⟨j,u,h1,h2,h3,h4,h5⟩|⟨h1,h2⟩<;>rcases h'.H k with⟨j',u',m4,rU,Gz,h4',h5'⟩|⟨m4,rU⟩
 ·have e1:=h4 j' u' m4 ((hs j' u' m4 Gz).2 rU) Gz
  have e2:=h4' j u h1 ((hs j u h1 h3).1 h2) h3
  have:j=j':=ω
  subst this
  rw[h1]at m4;cases m4
  rw[h5,h5']
 ·exact absurd h3 (m4 j u h1 ((hs j u h1 h3).1 h2))
 ·exact absurd Gz (h1 j' u' m4 ((hs j' u' m4 Gz).2 rU))
 ·rw[h2,rU]
theorem kC.unique{us:List Out}{σ0 σ σ':St}{S S':Nat→Prop}(h:kC us σ0 S σ)(h':kC us σ0 S' σ')(hs: ∀j u,us[j]? =some u→(S j↔S' j)):σ=σ':=by
 obtain⟨T,H⟩:=σ
 obtain⟨T',H'⟩:=σ'
 congr 1
 ·funext t;exact h.La h' (λj u hj _=>hs j u hj)
 ·funext k;exact h.Lb h' (λj u hj _=>hs j u hj)
theorem kC.step{us:List Out}{σ0 σ:St}{S:Nat→Prop}(h:kC us σ0 S σ){i:Nat}{u:Out}(hi:us[i]? =some u)(hc: ∀j u',us[j]? =some u'→S j→i<j→(∀t,u.dst=some t→u'.dst≠some t)∧ ∀k∈keys u.ups,k∉keys u'.ups):
  kC us σ0 (λj=>j=i∨S j) (u.app σ):=by
 refine⟨λt=> ?_,λk=> ?_⟩
 ·by_cases hd:u.dst=some t
  ·left
   refine⟨i,u,hi,.inl rfl,hd,λj' u' h1 h2 h3=> ?_,Gy hd σ⟩
   rcases h2 with rfl|h2
   ·exact aB _
   ·exact Nat.le_of_not_lt λdv=>(hc j' u' h1 h2 dv).1 t hd h3
  ·rw[K8 hd]
   rcases h.T t with⟨j,u1,h1,h2,h3,h4,h5⟩|⟨h1,h2⟩
   ·refine .inl ⟨j,u1,h1,.inr h2,h3,λj' u' m4 rU Gz=> ?_,h5⟩
    rcases rU with rfl|rU
    ·rw[hi]at m4;cases m4;exact absurd Gz hd
    ·exact h4 j' u' m4 rU Gz
   ·refine .inr ⟨λj u' m4 rU=> ?_,h2⟩
    rcases rU with rfl|rU
    ·rw[hi]at m4;cases m4;exact hd
    ·exact h1 j u' m4 rU
 ·rw[WD]
  by_cases hd:k∈keys u.ups
  ·left
   refine⟨i,u,hi,.inl rfl,hd,λj' u' h1 h2 h3=> ?_,Je hd _ _⟩
   rcases h2 with rfl|h2
   ·exact aB _
   ·exact Nat.le_of_not_lt λdv=>(hc j' u' h1 h2 dv).2 k hd h3
  ·rw[ir hd]
   rcases h.H k with⟨j,u1,h1,h2,h3,h4,h5⟩|⟨h1,h2⟩
   ·refine .inl ⟨j,u1,h1,.inr h2,h3,λj' u' m4 rU Gz=> ?_,h5⟩
    rcases rU with rfl|rU
    ·rw[hi]at m4;cases m4;exact absurd Gz hd
    ·exact h4 j' u' m4 rU Gz
   ·refine .inr ⟨λj u' m4 rU=> ?_,h2⟩
    rcases rU with rfl|rU
    ·rw[hi]at m4;cases m4;exact hd
    ·exact h1 j u' m4 rU
theorem kC.start(us:List Out)(σ0:St):kC us σ0 (λ_=>False) σ0:=⟨λt=> .inr ⟨λ_ _ _ h=>h.elim,rfl⟩,λk=> .inr ⟨λ_ _ _ h=>h.elim,rfl⟩⟩
theorem kC.congr{us:List Out}{σ0 σ:St}{S S':Nat→Prop}(h:kC us σ0 S σ)(hs: ∀j,S j↔S' j):kC us σ0 S' σ:=by
 have:S=S':=funext λj=>propext (hs j)
 rw[←this];exact h
theorem kC.text(us:List Out)(σ0:St): ∀i,i≤us.length→kC us σ0 (λj=>j<i) ((us.take i).foldl (fun σ u=>u.app σ) σ0)
 |0,_=>(kC.start us σ0).congr λj=>by simp
 |i+1,hi=>by
  have ih:=kC.text us σ0 i ω
  have hu:us[i]? =some us[i]:=bc ω
  have:=ih.step hu (λj u' _ h2 h3=>ω)
  rw[List.take_add_one,hu,List.foldl_append]
  exact this.congr λj=>by constructor<;>intro h<;>omega
end VM
end
section
namespace VM
open Go
variable{P:Program}{E:Env}{o:Oper}{a:Act}{w:World}{M:Nat→Prop}{ν:Nat→Value}{σ:St}{c:Ctx}{α:Type}{r:α}{next:Act→World→Prop}{Q:Exit→Act→World→Prop}
def SB(S:Nat→Prop)(o:Oper):Prop:= ∀e∈o.after,Region.binds .any e=true→S e.on
theorem yE{β:Type}{l m:List β}{i:Nat}{d:β}(h:i<l.length):(l++m).getD i d=l.getD i d:=by
 simp only[γ,ng h]
theorem yF{β:Type}{l:List β}{x d:β}:(l++[x]).getD l.length d=x:=by
 simp[γ]
theorem vM{acc:List Nat}{i:Nat}: ∀(es:List Edge) (s:Nat),(es.foldl (λs e=>cond (Region.binds .any e) (s|||2^e.on|||acc.getD e.on 0) s) s).testBit i=true→
  s.testBit i=true∨ ∃e∈es,Region.binds .any e=true∧(i=e.on∨(acc.getD e.on 0).testBit i=true)
 |[],s,h=> .inl h
 |e::es,s,h=>by
  rw[List.foldl_cons]at h
  rcases vM es _ h with h1|⟨e',h1,h2⟩
  ·cases hb:Region.binds .any e
   ·rw[hb]at h1;exact .inl h1
   ·rw[hb]at h1
    simp only[aa,Nat.testBit_or,nk]at h1
    rcases h1 with(h1|h1)|h1
    ·exact .inl h1
    ·refine .inr ⟨e,bg,hb,.inl ?_⟩
     rw[Nat.testBit_two_pow]at h1
     simpa using (bH h1).symm
    ·exact .inr ⟨e,bg,hb,.inr h1⟩
  ·exact .inr ⟨e',aU _ h1,h2⟩
theorem vN{S:Nat→Prop}: ∀(l:List Oper) (acc:List Nat) (all:List Oper),all.length=acc.length+l.length→(∀j,l[j]? =all[acc.length+j]?)→
  (∀j o,all[j]? =some o→S j→SB S o)→(∀j i,j<acc.length→S j→(acc.getD j 0).testBit i=true→S i)→
  ∀j o i,all[j]? =some o→(SB S o∨S j)→((nL l acc).getD j 0).testBit i=true→(j<acc.length→ ∀i,SB S o→(acc.getD j 0).testBit i=true→S i)→S i
 |[],acc,all,hl,fi,hS,N4,j,o,i,hj,DW,hb,Lc=>by
  have dv:j<all.length:=(oz.1 hj).1
  have qq:j<acc.length:=by simp at hl;omega
  rcases DW with hp|hp
  ·exact Lc qq i hp hb
  ·exact N4 j i qq hp hb
 |p::l,acc,all,hl,fi,hS,N4,j,o,i,hj,DW,hb,Lc=>by
  unfold nL at hb
  have Vl:all[acc.length]? =some p:=by rw[←ik acc.length,←fi 0];rfl
  have N5: ∀i,SB S p→(p.after.toList.foldl (λs e=>cond (Region.binds .any e) (s|||2^e.on|||acc.getD e.on 0) s) 0).testBit i=true→S i:=by
   intro i Dr hb
   rcases vM p.after.toList 0 hb with h1|⟨e,he,WE,h1⟩
   ·simp at h1
   ·have hSe:=Dr e (by simpa using he) WE
    rcases h1 with rfl|h1
    ·exact hSe
    ·by_cases dv:e.on<acc.length
     ·exact N4 e.on i dv hSe h1
     ·rw[γ,fC ω]at h1;simp at h1
  refine vN l (acc++[p.after.toList.foldl (λs e=>cond (Region.binds .any e) (s|||2^e.on|||acc.getD e.on 0) s) 0]) all (by simp at hl ⊢;omega) (λj=> ?_) hS (λj' i' Q6 hS' cY=> ?_) j o i hj DW hb (λdv i' HE cY=> ?_)
  ·have:=fi (j+1)
   simp only[List.getElem?_cons_succ]at this
   rw[this]
   congr 1
   simp;omega
  ·by_cases dv:j'<acc.length
   ·rw[yE dv]at cY
    exact N4 j' i' dv hS' cY
   ·have WG:j'=acc.length:=by simp at Q6;omega
    subst WG
    rw[yF]at cY
    exact N5 i' (hS _ p Vl hS') cY
  ·by_cases qq:j<acc.length
   ·rw[yE qq]at cY
    exact Lc qq i' HE cY
   ·have WG:j=acc.length:=by simp at dv;omega
    subst WG
    rw[Vl]at hj;cases hj
    rw[yF]at cY
    exact N5 i' HE cY
theorem forced{ops:List Oper}{S:Nat→Prop}(hS: ∀j o,ops[j]? =some o→S j→SB S o){j i:Nat}(hj:ops[j]? =some o)(DW:SB S o∨S j)(hb:((nL ops []).getD j 0).testBit i=true):S i:=
 vN ops [] ops (by simp) (λj=>by simp) hS (λj i h=>by simp at h) j o i hj DW hb (λh=>by simp at h)
theorem iY{l m:List Nat}(h:meets l m=false){x:Nat}(h1:x∈l)(h2:x∈m):False:=by
 have:meets l m=true:=by
  unfold meets
  rw[xI]
  refine⟨x,h1,?_⟩
  rw[xI]
  exact⟨x,h2,ku x⟩
 rw[h]at this;cases this
structure Rnd(c:Ctx)(E:Env)(ops:Array Oper)(us:List Out)(σ0:St)(listed:Array Bool)(a:Act)(w:World):Prop where
 size:listed.size=ops.size
 closed: ∀j o,ops.toList[j]? =some o→listed.getD j false=true→SB (λi=>listed.getD i false=true) o
 st: ∃σ,kC us σ0 (λj=>listed.getD j false=true) σ∧Inv c E σ a w
theorem sq{listed:Array Bool}{j:Nat}(h:j<listed.size)(d:Bool):listed.getD j d=listed.getD j false:=by
 simp[Array.getD,h]
theorem BU(hE:mI P E){ops:Array Oper}{us:List Out}{σ0 σn:St}{α:Type}(x0:α)(hl:us.length=ops.toList.length)
  (Vv: ∀(j:Nat) (u:Out) (o:Oper),us[j]? =some u→ops.toList[j]? =some o→Pt E ops.toList o ((us.take j).foldl (fun σ u=>u.app σ) σ0) u α)
  (hn:σn=us.foldl (fun σ u=>u.app σ) σ0)
  (dv: ∀(j:Nat) (o:Oper),ops.toList[j]? =some o→ ∀e∈o.after,Region.binds .any e=true→e.on<j)
  (DX: ∀(j:Nat) (o:Oper) (i:Nat) (p:Oper),ops.toList[j]? =some o→ops.toList[i]? =some p→i<j→((nL ops.toList []).getD j 0).testBit i=false→
   (∀d,p.dst=some d→o.dst≠some d∧d∉names ops.toList o)∧(∀d,o.dst=some d→d∉names ops.toList p))
  (Nj: ∀(j:Nat) (u:Out) (i:Nat) (v:Out),us[j]? =some u→us[i]? =some v→i<j→((nL ops.toList []).getD j 0).testBit i=false→
   (∀k∈keys v.ups,k∉u.rd∧k∉keys u.ups)∧(∀k∈v.rd,k∉keys u.ups))
  (hq: ∀a' w',Inv c E σn a' w'→Q .normal a' w'):
  ∀(fuel:Nat) (listed:Array Bool) (a:Act) (w:World),((List.range ops.size).filter λj=> !(listed.getD j false)).length≤fuel→Rnd c E ops us σ0 listed a w→wpAny P .any ops Q fuel listed a w:=by
 have fi: ∀(listed:Array Bool) (a:Act) (w:World),Rnd c E ops us σ0 listed a w→Region.ready .any ops listed=[]→Q .normal a w:=by
  intro listed a w hR SC
  obtain⟨hs,yf,σ,sM,hI⟩:=hR
  have WH: ∀j,j<ops.size→listed.getD j false=true:=by
   intro j
   induction j using Nat.strongRecOn with
   |_ j ih=>
    intro hj
    by_cases hb:listed.getD j false=true
    ·exact hb
    ·exfalso
     have ho:ops[j]? =some ops[j]:=C3 hj
     have:j∈Region.ready .any ops listed:=by
      rw[mem_ready]
      refine⟨by rw[sq ω];simpa using hb,_,ho,λe he WE=> ?_⟩
      have hej:=dv j ops[j] (by rw[eI];exact ho) e he WE
      exact ih e.on hej ω
     rw[SC]at this
     cases this
  have hσ:σ=σn:=by
   rw[hn]
   have ht:=kC.text us σ0 us.length (aB _)
   rw[ni]at ht
   refine sM.unique ht λj u hj=> ?_
   have tA:j<us.length:=(oz.1 hj).1
   have hjo:j<ops.size:=by rw[hl,aG]at tA;exact tA
   exact⟨λ_=>tA,λ_=>WH j hjo⟩
  exact hq a w (hσ▸hI)
 intro fuel
 induction fuel with
 |zero=>
  intro listed a w hf hR
  have I0:Region.ready .any ops listed=[]:=by
   rw[List.eq_nil_iff_forall_not_mem]
   intro j hj
   rw[mem_ready]at hj
   obtain⟨h0,o,ho,_⟩:=hj
   have hjs:j<ops.size:=(gM.1 ho).1
   have tA:j<listed.size:=by rw[hR.size];exact hjs
   rw[sq tA]at h0
   have im:j∈(List.range ops.size).filter λj=> !(listed.getD j false):=by
    rw[pU];exact⟨s6.2 hjs,by rw[h0];rfl⟩
   have:((List.range ops.size).filter λj=> !(listed.getD j false))=[]:=oy ω
   rw[this]at im;cases im
  exact⟨I0,fi listed a w hR I0⟩
 |succ fuel ih=>
  intro listed a w hf hR
  refine⟨fi listed a w hR,λi hi=> ?_⟩
  have po:=hi
  rw[mem_ready]at po
  obtain⟨h0,o,ho,DW⟩:=po
  have his:i<ops.size:=(gM.1 ho).1
  have tz:i<listed.size:=by rw[hR.size];exact his
  rw[sq tz]at h0
  obtain⟨hs,yf,σ,sM,hI⟩:=hR
  have uS:ops.toList[i]? =some o:=by rw[eI];exact ho
  have hiu:i<us.length:=by rw[hl,aG];exact his
  have hu:us[i]? =some us[i]:=bc hiu
  have hPt:=Vv i us[i] o hu uS
  have hSi: ¬listed.getD i false=true:=by rw[h0];simp
  have DY: ∀j p,ops.toList[j]? =some p→((j<i∧ ¬listed.getD j false=true)→((nL ops.toList []).getD i 0).testBit j=false)∧((i<j∧listed.getD j false=true)→((nL ops.toList []).getD j 0).testBit i=false):=by
   intro j p hj
   refine⟨λ⟨_,h2⟩=> ?_,λ⟨_,h2⟩=> ?_⟩
   ·rw[←gN]
    intro hb
    exact h2 (forced yf uS (.inl DW) hb)
   ·rw[←gN]
    intro hb
    exact hSi (forced yf hj (.inr h2) hb)
  have Ld: ∀(j:Nat) (u:Out),us[j]? =some u→ ∃p:Oper,ops.toList[j]? =some p∧u.dst=p.dst:=by
   intro j u hj
   have tA:j<us.length:=(oz.1 hj).1
   have hp:ops.toList[j]? =some ops.toList[j]:=bc ω
   exact⟨_,hp,(Vv j u _ hj hp).1⟩
  have Q8:=kC.text us σ0 i ω
  have hT: ∀t∈names ops.toList o,σ.T t=((us.take i).foldl (fun σ u=>u.app σ) σ0).T t:=by
   intro t ht
   refine sM.La Q8 λj u hj hd=> ?_
   obtain⟨p,hp,SD⟩:=Ld j u hj
   have SD:p.dst=some t:=by rw[←SD,hd]
   constructor
   ·intro DZ
    refine Nat.lt_of_not_le λhle=> ?_
    rcases Nat.lt_or_eq_of_le hle with qq|heq
    ·exact(DX j p i o hp uS qq ((DY j p hp).2 ⟨qq,DZ⟩)).2 t SD ht
    ·subst heq;exact hSi DZ
   ·intro yG
    by_cases DZ:listed.getD j false=true
    ·exact DZ
    ·exact absurd ht ((DX i o j p uS hp yG ((DY j p hp).1 ⟨yG,DZ⟩)).1 t SD).2
  have hH:Ag us[i].rd ((us.take i).foldl (fun σ u=>u.app σ) σ0).H σ.H:=by
   intro k hk
   refine sM.Lb Q8 λj u hj hd=> ?_
   obtain⟨p,hp,SD⟩:=Ld j u hj
   constructor
   ·intro DZ
    refine Nat.lt_of_not_le λhle=> ?_
    rcases Nat.lt_or_eq_of_le hle with qq|heq
    ·exact(Nj j u i us[i] hj hu qq ((DY j p hp).2 ⟨qq,DZ⟩)).2 k hk hd
    ·subst heq;exact hSi DZ
   ·intro yG
    by_cases DZ:listed.getD j false=true
    ·exact DZ
    ·exact absurd hk ((Nj i us[i] j u hu hj yG ((DY j p hp).1 ⟨yG,DZ⟩)).1 k hd).1
  have WI:=hPt.2 σ hT hH
  have hIs:kC us σ0 (λj=>j=i∨listed.getD j false=true) (us[i].app σ):=by
   refine sM.step hu λj u hj DZ ns=> ?_
   obtain⟨p,hp,SD⟩:=Ld j u hj
   have WJ:=(DY j p hp).2 ⟨ns,DZ⟩
   obtain⟨h1,h2⟩:=DX j p i o hp uS ns WJ
   obtain⟨h3,h4⟩:=Nj j u i us[i] hj hu ns WJ
   refine⟨λt ht=> ?_,λk hk=>(h3 k hk).2⟩
   rw[SD]
   exact(h1 t (by rw[←hPt.1];exact ht)).1
  have tM: ∀j,(listed.setIfInBounds i true).getD j false=true↔(j=i∨listed.getD j false=true):=by
   intro j
   by_cases yG:j=i
   ·subst yG
    constructor
    ·intro _;exact .inl rfl
    ·intro _;simp[tz]
   ·rw[getD_set_ne false (cZ yG)]
    exact⟨.inr,λh=>h.resolve_left yG⟩
  classical
  let K':St→List Nat→List Nat→Option α:=fun σ' _ _=>if σ'=us[i].app σ then some x0 else none
  have hK:oc E ops.toList o σ K'=some x0:=by rw[WI K'];simp[K']
  have:=vK (Q:=Q) (next:=wpAny P .any ops Q fuel (listed.setIfInBounds i true)) hE hI hK (fun σ' a' w' rd wr hσ' vL=>by
   have hσ'':σ'=us[i].app σ:=by
    by_cases h:σ'=us[i].app σ
    ·exact h
    ·simp[K',h]at hσ'
   subst hσ''
   refine ih _ a' w' ?_ ⟨by simpa using hs,λj p hp DZ e he hb=> ?_,_,hIs.congr (λj=>(tM j).symm),vL⟩
   ·have hlen:((List.range ops.size).filter λj=> !((listed.setIfInBounds i true).getD j false)).length<((List.range ops.size).filter λj=> !(listed.getD j false)).length:=by
     have I1:((List.range ops.size).filter λj=> !((listed.setIfInBounds i true).getD j false))=((List.range ops.size).filter λj=> !(listed.getD j false)).filter λj=> !(Nat.beq j i):=by
      rw[List.filter_filter]
      apply List.filter_congr
      intro j _
      by_cases yG:j=i
      ·subst yG
       have h1:=(tM j).2 (.inl rfl)
       rw[h1];simp
      ·have h1:Nat.beq j i=false:=by rw[←gN,pZ];exact yG
       rw[h1,getD_set_ne false (cZ yG)];simp
     rw[I1]
     refine List.length_filter_lt_length_iff_exists.2 ⟨i,?_,by simp⟩
     rw[pU];exact⟨s6.2 his,by rw[h0];rfl⟩
    omega
   ·rcases(tM j).1 DZ with rfl|DZ
    ·rw[uS]at hp;cases hp
     exact(tM _).2 (.inr (DW e he hb))
    ·exact(tM _).2 (.inr (yf j p hp DZ e he hb)))
  unfold wpOp
  rw[ho]
  simp only
  split
  ·rename_i hw;rw[ae hw]at this;exact .inl this
  ·rename_i hw;rw[af hw]at this;exact this
theorem Aj(hE:mI P E){id:Nat}{ops:Array Oper}{draw:Bool}(hI:Inv c E σ a w){K:St→Option α}(h:wY E ops draw σ K=some r)
  (hn: ∀σ' a' w',K σ'=some r→Inv c E σ' a' w'→Q .normal a' w'):(Code.region id ops draw).wp P Q a w:=by
 cases draw
 ·refine wp_region_list (yz hE ops.toList 0 σ [] a w _ hI h fun σ' Q5 a' w' h' vL=> ?_)
  exact hn σ' a' w' (bn h').2 vL
 ·unfold wY at h
  obtain⟨us,hl,Vv,lg,hK,_,WK⟩:=HX _ _ _ _ _ h
  obtain⟨Vs,hK⟩:=bn hK
  simp only[aN,ta,ba]at Vs
  obtain⟨DX,Nj⟩:=Vs
  unfold Kx at DX
  simp only[ba,lJ]at DX
  obtain⟨aa0,aa1⟩:=DX
  have hz: ∀j o,ops.toList[j]? =some o→(o,j)∈ops.toList.zipIdx:=λj o hj=>List.mem_zipIdx_iff_getElem?.2 hj
  refine wp_region_any hE.mixed (BU (Q:=Q) (σ0:=σ) hE r hl Vv rfl (λj o hj e he WE=> ?_) (λj o i p hj hi ns hb=> ?_) (λj u i v hj hi ns hb=> ?_) (λa' w' vL=>hn _ a' w' hK vL) ops.size (Array.replicate ops.size false) a _ ?_ ?_)
  ·have:=aa0 (o,j) (hz j o hj) e (by simpa using he)
   rw[WE]at this
   simpa [tf]using this
  ·have:=aa1 (o,j) (hz j o hj) (p,i) (hz i p hi)
   simp only[hb,n3,nk,pP,Bool.or_eq_false_iff]at this
   have z8: ¬Nat.ble j i=true:=by rw[tg];omega
   have this:=this.resolve_left z8
   refine⟨λd hd=>⟨λWL=> ?_,λWL=> ?_⟩,λd hd WL=> ?_⟩
   ·exact iY this.1 (x:=d) (by simp[hd]) (by simp[WL])
   ·exact iY this.1 (x:=d) (by simp[hd]) (by simp[WL])
   ·exact iY this.2 (x:=d) (by simp[hd]) WL
  ·unfold QV at Nj
   simp only[lJ]at Nj
   have Q6:=WK j u hj
   have po:=WK i v hi
   rw[dG]at Q6 po
   have:=Nj _ Q6 _ po
   simp only[hb,n3,nk,pP,Bool.or_eq_false_iff]at this
   have z8: ¬Nat.ble j i=true:=by rw[tg];omega
   have this:=this.resolve_left z8
   refine⟨λk hk=>⟨λuH=> ?_,λuH=> ?_⟩,λk hk uH=> ?_⟩
   ·exact iY this.1 (x:=k) hk (bG _ uH)
   ·exact iY this.1 (x:=k) hk (ck _ uH)
   ·exact iY this.2 (x:=k) hk uH
  ·refine iC (De _ _) ?_
   rw[xG];exact aB _
  ·have hf: ∀j,(Array.replicate ops.size false).getD j false=false:=by
    intro j
    rw[nf,Array.getElem?_replicate]
    split<;>rfl
   obtain⟨⟨M,ν,hc⟩,hs,hd,qw⟩:=hI
   refine⟨by simp,λj o _ hS=>(by rw[hf]at hS;cases hS),σ,(kC.start us σ).congr (λj=>(by rw[hf];simp)),⟨M,ν,?_⟩,hs,hd,qw⟩
   exact hc.tr (Tr.drew hc.mem)
end VM
end
section
namespace VM
open Go
variable{P:Program}{E:Env}{o:Oper}{a:Act}{w:World}{M:Nat→Prop}{ν:Nat→Value}{σ:St}{c:Ctx}{α:Type}{r:α}{next:Act→World→Prop}{Q:Exit→Act→World→Prop}
theorem vO{L:Option (List (Nat×CM))}(hL: ∀L',L=some L'→gz L'=true){b:Code}{Q:Exit→Act→World→Prop}{step:St→(St→Option α)→Option α}
  (hs: ∀σ a w kn (Q':Exit→Act→World→Prop),Inv c E σ a w→step σ kn=some r→(∀σ' a' w',kn σ'=some r→Inv c E σ' a' w'→Q' .normal a' w')→(∀e a' w',e≠ .normal→Q e a' w'→Q' e a' w')→b.wp P Q' a w):
  ∀n σ a w,Inv c E σ a w→vx L step n σ=some r→Code.rounds P b Q n a w
 |0,σ,a,w,_,h=>by cases h
 |n+1,σ,a,w,hI,h=>by
  rw[rounds_succ]
  refine hs σ a w _ _ hI h (fun σ' a' w' h' vL=> ?_) (λe a' w' he hq=> ?_)
  ·obtain⟨σ'',CQ,SE⟩:=sn vL hL h'
   exact vO hL hs n σ'' a' w' SE CQ
  ·cases e<;>first|exact hq|exact absurd rfl he
theorem Jf(hE:mI P E): ∀(cd:Code) (σ:St) (a:Act) (w:World) (k:St→Option α) (kx:Nat→St→Option α) (kr:St→Option α) (Q:Exit→Act→World→Prop),Inv c E σ a w→wZ E cd σ k kx kr=some r→
  (∀σ' a' w',k σ'=some r→Inv c E σ' a' w'→Q .normal a' w')→(∀i σ' a' w',kx i σ'=some r→Inv c E σ' a' w'→Q (.exit i) a' w')→(∀σ' a' w',kr σ'=some r→Inv c E σ' a' w'→Q .ret a' w')→cd.wp P Q a w:=by
 intro cd
 induction cd with
 |skip=>intro σ a w k kx kr Q hI h hk _ _;exact wp_skip (hk σ a w h hI)
 |region id ops draw=>intro σ a w k kx kr Q hI h hk _ _;exact Aj hE hI h hk
 |seq x y ihx ihy=>
  intro σ a w k kx kr Q hI h hk hx hr
  refine wp_seq (ihx σ a w _ kx kr _ hI h (fun σ' a' w' h' vL=> ?_) hx hr)
  obtain⟨σ'',CQ,SE⟩:=sn vL (λL' hL=>by
   cases hf:bN y with
   |none=>rw[hf]at hL;cases hL
   |some i=>rw[hf]at hL;exact hE.KX i L' hL) h'
  exact ihy σ'' a' w' k kx kr Q SE CQ hk hx hr
 |cond x t e iht ihe=>
  intro σ a w k kx kr Q hI h hk hx hr
  obtain⟨b,hb,h⟩:=DO (E:=E) (A:=fun σ'=>wZ E t σ' k kx kr) (B:=fun σ'=>wZ E e σ' k kx kr) hI h
  refine wp_cond hb ?_
  cases b
  ·exact ihe σ a w k kx kr Q hI h hk hx hr
  ·exact iht σ a w k kx kr Q hI h hk hx hr
 |block id x ih=>
  intro σ a w k kx kr Q hI h hk hx hr
  refine wp_block (ih σ a w k _ kr _ hI h hk (λi σ' a' w' h' vL=> ?_) hr)
  show if i=id then Q .normal a' w' else Q (.exit i) a' w'
  cases hb:Nat.beq i id
  ·have gY:i≠id:=λe=>by subst e;rw[show Nat.beq i i=true from ku i]at hb;cases hb
   rw[hb]at h'
   rw[af gY]
   exact hx i σ' a' w' h' vL
  ·rw[hb]at h'
   rw[ae (df hb)]
   exact hk σ' a' w' h' vL
 |loop b ih=>
  intro σ a w k kx kr Q hI h hk hx hr
  have hL: ∀L',(bN b).bind E.p8=some L'→gz L'=true:=λL' hL=>by
   cases hf:bN b with
   |none=>rw[hf]at hL;cases hL
   |some i=>rw[hf]at hL;exact hE.gz i L' hL
  obtain⟨σ',h',vL⟩:=sn hI hL h
  refine wp_loop_rounds E.N (vO hL (fun σ a w kn Q' hI h hkn hq=> ?_) E.N σ' a w vL h')
  exact ih σ a w kn kx kr Q' hI h hkn (λi σ' a' w' h' vL=>hq _ _ _ (by simp) (hx i σ' a' w' h' vL)) (fun σ' a' w' h' vL=>hq _ _ _ (by simp) (hr σ' a' w' h' vL))
 |rangeFunc f ps x y ihx ihy=>intro σ a w k kx kr Q hI h;cases h
 |exit id=>intro σ a w k kx kr Q hI h hk hx hr;exact wp_exit (hx id σ a w h hI)
 |scope x ih=>
  intro σ a w k kx kr Q hI h hk hx hr
  exact wp_scope_straight (ih σ a w k kx kr _ hI h hk hx hr)
 |label l=>intro σ a w k kx kr Q hI h hk _ _;exact wp_label (hk σ a w h hI)
 |goto l=>intro σ a w k kx kr Q hI h;cases h
 |ret=>intro σ a w k kx kr Q hI h hk hx hr;exact wp_ret (hr σ a w h hI)
 |refuse s=>intro σ a w k kx kr Q hI h;cases h
end VM
end
