/- A part of the proof of LotEven of layer 23: a machine that reads a function of the program as an equation between values. -/
import Derived.Test.YthnjnpjmbabcaaaGreatVm6
set_option linter.all false
open List renaming getD→γ
section
namespace VM
open Go
variable{α:Type}{r:α}
theorem M8{m:AM}{a:bk}{H:Nat→Option aW}{k:m.den→(Nat→Option aW)→List Nat→ig→ig→List (Nat×AM)→Option α}(h:oa m a H k=some r):
  ∃y rd uo uf io,∃g:(Nat→Option aW)→(Nat→Option aW),k y (g H) rd uo uf io=some r∧(∀H' i,H' i=H i→g H' i=g H i)∧
   ∀H',Ag rd H H'→ ∀k':m.den→(Nat→Option aW)→List Nat→ig→ig→List (Nat×AM)→Option α,oa m a H' k'=k' y (g H') rd uo uf io:=by
 have M9: ∀(d:Nat) (v:Option aW) (H':Nat→Option aW) (i:Nat),H' i=H i→bc H' d v i=bc H d v i:=by
  intro d v H' i hi
  by_cases hid:i=d
  ·subst hid;rw[ar,ar]
  ·rw[av _ _ hid,av _ _ hid,hi]
 unfold oa at h
 split at h
 ·rename_i τ k
  obtain⟨y,rd,ups,h1,h2⟩:=oR h
  cases ups with
  |nil=>
   refine⟨y,rd,[],[],[],λH=>H,h1,λ_ _ h=>h,λH' hA k'=> ?_⟩
   unfold oa;simp only;rw[h2 H' hA]
  |cons u rest=>
   refine⟨y,rd,[],u::rest,[],λH=>bc H u.1 u.2,h1,λH' i hi=>M9 _ _ H' i hi,λH' hA k'=> ?_⟩
   unfold oa;simp only;rw[h2 H' hA]
 ·rename_i e k
  split at h
  ·exact⟨[],[],[],[],[],λH=>H,h,λ_ _ h=>h,λ_ _ _=>rfl⟩
  ·rename_i id
   split at h
   ·rename_i e' l hid
    obtain⟨z,h1,h2⟩:=de h
    refine⟨z,[id],_,_,_,λH=>bc H id (some .gone),h1,λH' i hi=>M9 _ _ H' i hi,λH' hA k'=> ?_⟩
    unfold oa;simp only;rw[hA id (by simp),hid];simp only;rw[h2]
   ·cases h
  ·cases h
 ·rename_i τ k
  split at h
  ·rename_i id
   split at h
   ·rename_i υ x hid
    obtain⟨z,h1,h2⟩:=de h
    refine⟨z,[id],_,_,_,λH=>bc H id (some .gone),h1,λH' i hi=>M9 _ _ H' i hi,λH' hA k'=> ?_⟩
    unfold oa;simp only;rw[hA id (by simp),hid];simp only;rw[h2]
   ·cases h
  ·cases h
 ·rename_i f τ k
  split at h
  ·rename_i f' cs
   obtain⟨h1,h2⟩:=dM h
   obtain⟨x,rd,ups,h3,h4⟩:=M7 h1
   cases ups with
   |nil=>
    refine⟨x,rd,[],[],[],λH=>H,h3,λ_ _ h=>h,λH' hA k'=> ?_⟩
    unfold oa;simp only;rw[h2,h4 H' hA]
   |cons _ _=>cases h3
  ·cases h
 ·cases h
 ·rename_i τ k
  split at h
  ·obtain⟨z,h1,h2⟩:=de h
   refine⟨z,[],[],[],[],λH=>H,h1,λ_ _ h=>h,λH' hA k'=> ?_⟩
   unfold oa;simp only;rw[h2]
  ·cases h
 ·rename_i e k
  split at h
  ·rename_i id
   split at h
   ·rename_i e' l hid
    obtain⟨z,h1,h2⟩:=de h
    refine⟨z,[id],_,_,_,λH=>bc H id (some .gone),h1,λH' i hi=>M9 _ _ H' i hi,λH' hA k'=> ?_⟩
    unfold oa;simp only;rw[hA id (by simp),hid];simp only;rw[h2]
   ·cases h
  ·cases h
 ·cases h
theorem Na: ∀{ms:List AM} {qo:List bk} {H:Nat→Option aW} {Jf:List Nat} {uo0 uf0:ig} {io0:List (Nat×AM)} {K:HP ms→List Nat→ig→ig→List (Nat×AM)→Option α},tW ms qo H Jf uo0 uf0 io0 K=some r→
  ∃x rd uo uf io,K x rd uo uf io=some r∧(∀i∈Jf,i∈rd)∧ ∀H',Ag rd H H'→ ∀K':HP ms→List Nat→ig→ig→List (Nat×AM)→Option α,tW ms qo H' Jf uo0 uf0 io0 K'=K' x rd uo uf io
 |[],[],H,Jf,uo0,uf0,io0,K,h=>⟨(),_,_,_,_,h,λ_ h=>h,λ_ _ _=>rfl⟩
 |[m],[a],H,Jf,uo0,uf0,io0,K,h=>by
  obtain⟨y,rd,uo,uf,io,g,h1,h2,h3⟩:=M8 (h:oa m a H _=some r)
  exact⟨y,_,_,_,_,h1,λi hi=>cS _ hi,λH' hA K'=>h3 H' (λi hi=>hA i (cA _ hi)) _⟩
 |m::n::ms,a::qo,H,Jf,uo0,uf0,io0,K,h=>by
  obtain⟨y,rd,uo,uf,io,g,h1,h2,h3⟩:=M8 (h:oa m a H _=some r)
  obtain⟨ys,xL,LO,LP,HY,h4,h5,h6⟩:=Na (ms:=n::ms) h1
  refine⟨(y,ys),xL,LO,LP,HY,h4,λi hi=>h5 i (cS _ hi),λH' hA K'=> ?_⟩
  refine(h3 H' (λi hi=>hA i (h5 i (cA _ hi))) _).trans ?_
  exact h6 (g H') (λi hi=>h2 H' i (hA i hi)) _
 |[],_::_,_,_,_,_,_,_,h=>by simp[tW]at h
 |[_],[],_,_,_,_,_,_,h=>by simp[tW]at h
 |[_],_::_::_,_,_,_,_,_,_,h=>by simp[tW]at h
 |_::_::_,[],_,_,_,_,_,_,h=>by simp[tW]at h
theorem Wj{id i:Nat}: ∀{n:Nat},i∈My id n↔id≤i∧i<id+n
 |0=>by simp[My]
 |n+1=>by simp only[My,bm,Wj];omega
theorem yS{H H':Nat→Option aW}{id:Nat}: ∀{n:Nat},(∀i∈My id n,H' i=H i)→uX H' id n=uX H id n
 |0,_=>rfl
 |n+1,h=>by
  unfold uX
  rw[h (id+n) (by simp[My]),yS λi hi=>h i (by simp[My,hi])]
theorem Wk{E:Env}{f id:Nat}{qo:List bk}{H:Nat→Option aW}{K:fV α}(h:CQ E f qo id H K=some r): ∃v rd ups,K v rd ups=some r∧ ∀H',Ag rd H H'→ ∀K':fV α,CQ E f qo id H' K'=K' v rd ups:=by
 unfold CQ at h
 split at h
 ·cases h
 ·rename_i S hS
  obtain⟨x,rd,uo,uf,io,h1,_,h2⟩:=Na h
  obtain⟨y,hy,h3⟩:=qm.1 h1
  obtain⟨h4,h5⟩:=bN h3
  refine⟨_,_,_,h5,λH' hA K'=> ?_⟩
  unfold CQ
  rw[hS]
  simp only
  rw[h2 H' (λi hi=>hA i (cS _ (cS _ hi))),hy]
  simp only[aw]
  rw[yS (λi hi=>hA i (cA _ hi)),h4]
  rfl
theorem TK{t:Ty}{z:Bool}{a:bk}{lo hi mx:Option bk}{H:Nat→Option aW}{K:fV α}(h:rq t z a lo hi mx H K=some r): ∃v rd ups,K v rd ups=some r∧ ∀H',Ag rd H H'→ ∀K':fV α,rq t z a lo hi mx H' K'=K' v rd ups:=by
 unfold rq at h
 split at h
 ·obtain⟨h1,e1⟩:=dM h
  obtain⟨l,h2,e2⟩:=vf h1
  obtain⟨m,h3,e3⟩:=vf h2
  obtain⟨h4,e4⟩:=dM h3
  exact⟨_,_,_,h4,λH' _ K'=>by unfold rq;simp only;rw[e1,e2,e3,e4]⟩
 ·cases z
  ·obtain⟨h1,e1⟩:=dM (h:cond mx.isNone _ none=some r)
   obtain⟨l,h2,e2⟩:=vf h1
   obtain⟨m,h3,e3⟩:=vf h2
   obtain⟨h4,e4⟩:=dM h3
   exact⟨_,_,_,h4,λH' _ K'=>by unfold rq;simp only[au];rw[e1,e2,e3,e4]⟩
  ·exact⟨_,_,_,h,λH' _ K'=>by unfold rq;rfl⟩
 ·rename_i e ij
  obtain⟨y,rd,ups,h1,e1⟩:=oR h
  cases z
  ·obtain⟨h2,e2⟩:=dM (h1:cond (mx.isNone||hi.isSome) _ none=some r)
   obtain⟨l,h3,e3⟩:=vf h2
   obtain⟨m,h4,e4⟩:=vf h3
   obtain⟨n,h5,e5⟩:=vf h4
   obtain⟨h6,e6⟩:=dM h5
   refine⟨_,_,_,h6,λH' hA K'=> ?_⟩
   unfold rq
   simp only
   rw[e1 H' hA]
   simp only[au]
   rw[e2,e3,e4,e5,e6]
  ·refine⟨_,_,_,(h1:K .emp rd []=some r),λH' hA K'=> ?_⟩
   unfold rq
   simp only
   rw[e1 H' hA]
   rfl
 ·cases h
theorem Iz{τ:Ty}{a i:bk}{H:Nat→Option aW}{K:fV α}(h:gB τ a i H K=some r): ∃v rd ups,K v rd ups=some r∧ ∀H',Ag rd H H'→ ∀K':fV α,gB τ a i H' K'=K' v rd ups:=by
 unfold gB at h
 obtain⟨k,n,h,e0⟩:=qw h
 split at h
 ·split at h
  ·obtain⟨z,h1,e1⟩:=de h
   obtain⟨h2,e2⟩:=dM h1
   exact⟨_,_,_,h2,λH' _ K'=>by unfold gB;rw[e0];simp only;rw[e1,e2]⟩
  ·split at h
   ·rename_i hid
    obtain⟨h1,e1⟩:=gd h
    obtain⟨h2,e2⟩:=dM h1
    exact⟨_,_,_,h2,λH' hA K'=>by unfold gB;rw[e0];simp only;rw[hA _ (by simp),hid];simp only;rw[e1,e2]⟩
   ·rename_i hid
    obtain⟨h1,e1⟩:=gd h
    obtain⟨h2,e2⟩:=dM h1
    exact⟨_,_,_,h2,λH' hA K'=>by unfold gB;rw[e0];simp only;rw[hA _ (by simp),hid];simp only;rw[e1,e2]⟩
   ·cases h
  ·cases h
 ·split at h
  ·obtain⟨υ,h1,e1⟩:=xU h
   obtain⟨h2,e2⟩:=gd h1
   obtain⟨h3,e3⟩:=dM h2
   exact⟨_,_,_,h3,λH' hA K'=>by unfold gB;rw[e0];simp only;rw[e1 H' (hA _ (by simp)),e2,e3]⟩
  ·obtain⟨z,h1,e1⟩:=de h
   obtain⟨h2,e2⟩:=dM h1
   exact⟨_,_,_,h2,λH' _ K'=>by unfold gB;rw[e0];simp only;rw[e1,e2]⟩
  ·cases h
 ·cases h
theorem TL{τ:Ty}{a i:bk}{K:bk→Option α}(h:wY τ a i K=some r): ∃v,K v=some r∧ ∀K':bk→Option α,wY τ a i K'=K' v:=by
 unfold wY at h
 obtain⟨k,n,h,e0⟩:=qw h
 split at h
 ·obtain⟨z,h1,e1⟩:=de h
  obtain⟨h2,e2⟩:=dM h1
  exact⟨_,h2,λK'=>by unfold wY;rw[e0];simp only;rw[e1,e2]⟩
 ·obtain⟨h2,e2⟩:=dM h
  exact⟨_,h2,λK'=>by unfold wY;rw[e0];simp only;rw[e2]⟩
 ·cases h
theorem Wl{a:bk}{H:Nat→Option aW}{K:(υ:Ty)→υ.den→List Nat→Option α}(h:ln a H K=some r): ∃υ y rd,K υ y rd=some r∧ ∀H',Ag rd H H'→ ∀K':(υ:Ty)→υ.den→List Nat→Option α,ln a H' K'=K' υ y rd:=by
 unfold ln at h
 split at h
 ·exact⟨_,_,_,h,λ_ _ _=>rfl⟩
 ·split at h
  ·rename_i hid
   obtain⟨υ,y,h1,e1⟩:=gZ h
   exact⟨_,_,_,h1,λH' hA K'=>by unfold ln;simp only;rw[hA _ (by simp),hid];simp only;rw[e1]⟩
  ·rename_i hid
   split at h
   ·obtain⟨υ,y,h1,e1⟩:=gZ h
    exact⟨_,_,_,h1,λH' hA K'=>by unfold ln;simp only;rw[hA _ (by simp),hid];simp only;rw[e1]⟩
   ·cases h
  ·rename_i hid
   split at h
   ·obtain⟨υ,y,h1,e1⟩:=gZ h
    exact⟨_,_,_,h1,λH' hA K'=>by unfold ln;simp only;rw[hA _ (by simp),hid];simp only;rw[e1]⟩
   ·cases h
  ·cases h
 ·cases h
theorem TM{τ:Ty}{a v:bk}{H:Nat→Option aW}{K:fV α}(h:my τ a v H K=some r): ∃u rd ups,K u rd ups=some r∧ ∀H',Ag rd H H'→ ∀K':fV α,my τ a v H' K'=K' u rd ups:=by
 unfold my at h
 split at h
 ·obtain⟨y,rd,ups,h1,e1⟩:=oR h
  split at h1
  ·rename_i hid
   obtain⟨z,h2,e2⟩:=oQ h1
   exact⟨_,_,_,h2,λH' hA K'=>by
    unfold my;simp only
    rw[e1 H' (λi hi=>hA i (a6 _ hi))]
    rw[hA _ (by simp),hid];simp only;rw[e2]⟩
  ·rename_i hid
   split at h1
   ·obtain⟨h2,e2⟩:=uh h1
    obtain⟨z,h3,e3⟩:=oQ h2
    exact⟨_,_,_,h3,λH' hA K'=>by
     unfold my;simp only
     rw[e1 H' (λi hi=>hA i (a6 _ hi))]
     rw[hA _ (by simp),hid];simp only;rw[e2,e3]⟩
   ·cases h1
  ·cases h1
 ·cases h
theorem RZ{j:Nat}{q:List Step}{τ:Ty}{x:τ.den}{H:Nat→Option aW}{k:τ.den→ig→Option α}(h:BM j q τ x H k=some r): ∃z ups,k z ups=some r∧ ∀H',H' j=H j→ ∀k':τ.den→ig→Option α,BM j q τ x H' k'=k' z ups:=by
 unfold BM at h
 split at h
 ·rename_i hj
  obtain⟨z,h1,e1⟩:=oQ h
  exact⟨_,_,h1,λH' hA k'=>by unfold BM;rw[hA,hj];simp only;rw[e1]⟩
 ·rename_i hj
  obtain⟨z,h1,e1⟩:=oQ h
  exact⟨_,_,h1,λH' hA k'=>by unfold BM;rw[hA,hj];simp only;rw[e1]⟩
 ·cases h
abbrev Pts(F:(Nat→Option aW)→fV α→Option α)(H:Nat→Option aW)(K:fV α)(r:α):Prop:=
 ∃v rd ups,K v rd ups=some r∧ ∀H',Ag rd H H'→ ∀K':fV α,F H' K'=K' v rd ups
theorem Wm{τ:Ty}{a:bk}{H:Nat→Option aW}{K:fV α}(h:(ln a H fun υ y rd=>cr υ τ y λz=>K (.val τ z) rd [])=some r):
  Pts (λH K=>ln a H fun υ y rd=>cr υ τ y λz=>K (.val τ z) rd []) H K r:=by
 obtain⟨υ,y,rd,h1,e1⟩:=Wl h
 obtain⟨z,h2,e2⟩:=de h1
 exact⟨_,_,_,h2,λH' hA K'=>by simp only;rw[e1 H' hA,e2]⟩
theorem amA{id:Nat}{p:List Step}{H:Nat→Option aW}{K:(υ:Ty)→υ.den→List Nat→Option α}(h:ln (.ic id p) H K=some r): ∃υ y,K υ y [id]=some r:=by
 unfold ln at h
 simp only at h
 split at h
 ·obtain⟨υ,y,h1,_⟩:=gZ h;exact⟨υ,y,h1⟩
 ·split at h
  ·obtain⟨υ,y,h1,_⟩:=gZ h;exact⟨υ,y,h1⟩
  ·cases h
 ·split at h
  ·obtain⟨υ,y,h1,_⟩:=gZ h;exact⟨υ,y,h1⟩
  ·cases h
 ·cases h
theorem Wn{τ:Ty}{id:Nat}{p:List Step}{H:Nat→Option aW}{K:fV α}(h:(ln (.ic id p) H fun υ y rd=>cr υ τ y λz=>K (.val τ z) rd [])=some r):
  ∃z,K (.val τ z) [id] []=some r∧ ∀H',H' id=H id→ ∀K':fV α,(ln (.ic id p) H' fun υ y rd=>cr υ τ y λz=>K' (.val τ z) rd [])=K' (.val τ z) [id] []:=by
 unfold ln at h
 simp only at h
 split at h
 ·rename_i hid
  obtain⟨υ,y,h1,e1⟩:=gZ h
  obtain⟨z,h2,e2⟩:=de h1
  exact⟨_,h2,λH' hA K'=>by unfold ln;simp only;rw[hA,hid];simp only;rw[e1,e2]⟩
 ·rename_i hid
  split at h
  ·obtain⟨υ,y,h1,e1⟩:=gZ h
   obtain⟨z,h2,e2⟩:=de h1
   exact⟨_,h2,λH' hA K'=>by unfold ln;simp only;rw[hA,hid];simp only;rw[e1,e2]⟩
  ·cases h
 ·rename_i hid
  split at h
  ·obtain⟨υ,y,h1,e1⟩:=gZ h
   obtain⟨z,h2,e2⟩:=de h1
   exact⟨_,h2,λH' hA K'=>by unfold ln;simp only;rw[hA,hid];simp only;rw[e1,e2]⟩
  ·cases h
 ·cases h
theorem Nb{τ:Ty}{a:bk}{H:Nat→Option aW}{K:fV α}(h:tX τ a H K=some r):Pts (tX τ a) H K r:=by
 unfold tX at h
 simp only at h
 split at h
 ·rename_i id p
  split at h
  ·rename_i υ x q j hid
   cases hp:Ii p q
   ·cases EF:yq p q
    ·rw[hp,EF]at h
     simp only[au]at h
     obtain⟨υ',y,h1,e1⟩:=gZ h
     obtain⟨z,h2,e2⟩:=de h1
     exact⟨_,_,_,h2,λH' hA K'=>by
      unfold tX;simp only;rw[hA id (by simp),hid];simp only
      rw[hp,EF];simp only[au];rw[e1,e2]⟩
    ·rw[hp,EF]at h
     simp only[au,aj]at h
     obtain⟨z,ups,h1,e1⟩:=RZ h
     obtain⟨υ',y,h2,e2⟩:=gZ h1
     obtain⟨z',h3,e3⟩:=de h2
     exact⟨_,_,_,h3,λH' hA K'=>by
      unfold tX;simp only;rw[hA id (by simp),hid];simp only
      rw[hp,EF];simp only[au,aj];rw[e1 H' (hA j (by simp)),e2,e3]⟩
   ·rw[hp]at h
    simp only[aj]at h
    obtain⟨h1,e1⟩:=dM h
    exact⟨_,_,_,h1,λH' hA K'=>by
     unfold tX;simp only;rw[hA id (by simp),hid];simp only
     rw[hp];simp only[aj];rw[e1]⟩
  ·rename_i nr
   obtain⟨z,h1,e1⟩:=Wn h
   refine⟨_,_,_,h1,λH' hA K'=> ?_⟩
   unfold tX;simp only;rw[hA id (by simp)]
   split
   ·rename_i hid;exact absurd hid (nr _ _ _ _)
   ·exact e1 H' (hA id (by simp)) K'
 ·rename_i nr
  obtain⟨v,rd,ups,h1,e1⟩:=Wm h
  refine⟨v,rd,ups,h1,λH' hA K'=> ?_⟩
  have:tX τ a H' K'=ln a H' fun υ y rd=>cr υ τ y λz=>K' (.val τ z) rd []:=by
   unfold tX
   cases a<;>first|rfl|exact absurd rfl (nr _ _)
  rw[this]
  exact e1 H' hA K'
theorem AL{τ:Ty}{id k:Nat}{e:Ty}{q:List Step}{υ:Ty}{x:υ.den}{H:Nat→Option aW}{K:fV α}(h:yM τ id k e q υ x H K=some r):
  ∃v ups,K v [id,k] ups=some r∧ ∀H',H' k=H k→ ∀K':fV α,yM τ id k e q υ x H' K'=K' v [id,k] ups:=by
 unfold yM at h
 split at h
 ·rename_i hid
  obtain⟨h1,e1⟩:=gd h
  obtain⟨h2,e2⟩:=gd h1
  obtain⟨z,h3,e3⟩:=oQ h2
  exact⟨_,_,h3,λH' hA K'=>by unfold yM;rw[hA,hid];simp only;rw[e1,e2,e3]⟩
 ·cases h
theorem BZ{τ:Ty}{id:Nat}{p:List Step}{v:bk}{H:Nat→Option aW}{K:fV α}(h:my τ (.ic id p) v H K=some r):
  ∃u rd ups,id∈rd∧K u rd ups=some r∧ ∀H',Ag rd H H'→ ∀K':fV α,my τ (.ic id p) v H' K'=K' u rd ups:=by
 unfold my at h
 simp only at h
 obtain⟨y,rd,ups,h1,e1⟩:=oR h
 split at h1
 ·rename_i hid
  obtain⟨z,h2,e2⟩:=oQ h1
  exact⟨_,_,_,by simp,h2,λH' hA K'=>by
   unfold my;simp only
   rw[e1 H' (λi hi=>hA i (a6 _ hi))]
   rw[hA _ (by simp),hid];simp only;rw[e2]⟩
 ·rename_i hid
  split at h1
  ·obtain⟨h2,e2⟩:=uh h1
   obtain⟨z,h3,e3⟩:=oQ h2
   exact⟨_,_,_,by simp,h3,λH' hA K'=>by
    unfold my;simp only
    rw[e1 H' (λi hi=>hA i (a6 _ hi))]
    rw[hA _ (by simp),hid];simp only;rw[e2,e3]⟩
  ·cases h1
 ·cases h1
theorem B0{E:Env}{τ:Ty}{a v:bk}{H:Nat→Option aW}{K:fV α}(h:kj E τ a v H K=some r):
  ∃u rd ups,K u rd ups=some r∧ ∀H',Ag rd H H'→ ∀K':fV α,kj E τ a v H' K'=K' u rd ups:=by
 have h0:=h
 unfold kj at h
 simp only at h
 split at h
 ·rename_i id p
  split at h
  ·rename_i υ x hid
   split at h
   ·rename_i q e k qp
    cases hp:Ii p q
    ·rw[hp]at h
     simp only[au]at h
     obtain⟨u,rd,ups,hi,h1,e1⟩:=BZ h
     refine⟨u,rd,ups,h1,λH' hA K'=> ?_⟩
     unfold kj;simp only;rw[hA id hi,hid];simp only;rw[qp];simp only;rw[hp];simp only[au]
     exact e1 H' hA K'
    ·rw[hp]at h
     simp only[aj]at h
     obtain⟨u,ups,h1,e1⟩:=AL h
     refine⟨u,_,ups,h1,λH' hA K'=> ?_⟩
     unfold kj;simp only;rw[hA id (by simp),hid];simp only;rw[qp];simp only;rw[hp];simp only[aj]
     exact e1 H' (hA k (by simp)) K'
   ·rename_i nr
    obtain⟨u,rd,ups,hi,h1,e1⟩:=BZ h
    refine⟨u,rd,ups,h1,λH' hA K'=> ?_⟩
    unfold kj;simp only;rw[hA id hi,hid];simp only
    exact e1 H' hA K'
  ·rename_i υ x q j hid
   have AB:(mw true v H τ λy rd ups=>we τ y p υ x λz=>K .any (id::rd) (ups++[(id,some (cond (yq p q) (.obj υ z) (.fv υ z q j)))]))=some r→
     ∃u rd ups,id∈rd∧K u rd ups=some r∧ ∀H',Ag rd H H'→ ∀K':fV α,(mw true v H' τ λy rd ups=>we τ y p υ x λz=>K' .any (id::rd) (ups++[(id,some (cond (yq p q) (.obj υ z) (.fv υ z q j)))]))=K' u rd ups:=by
    intro h
    obtain⟨y,rd,ups,h1,e1⟩:=oR h
    obtain⟨z,h2,e2⟩:=oQ h1
    exact⟨_,_,_,by simp,h2,λH' hA K'=>by rw[e1 H' (λi hi=>hA i (a6 _ hi)),e2]⟩
   split at h
   ·rename_i q' e k qp
    cases hp:(Ii p q&&Ii q q')
    ·rw[hp]at h
     simp only[au]at h
     obtain⟨u,rd,ups,hi,h1,e1⟩:=AB h
     refine⟨u,rd,ups,h1,λH' hA K'=> ?_⟩
     unfold kj;simp only;rw[hA id hi,hid];simp only;rw[qp];simp only;rw[hp];simp only[au]
     exact e1 H' hA K'
    ·rw[hp]at h
     simp only[aj]at h
     obtain⟨u,ups,h1,e1⟩:=AL h
     refine⟨u,_,ups,h1,λH' hA K'=> ?_⟩
     unfold kj;simp only;rw[hA id (by simp),hid];simp only;rw[qp];simp only;rw[hp];simp only[aj]
     exact e1 H' (hA k (by simp)) K'
   ·rename_i nr
    obtain⟨u,rd,ups,hi,h1,e1⟩:=AB h
    refine⟨u,rd,ups,h1,λH' hA K'=> ?_⟩
    unfold kj;simp only;rw[hA id hi,hid];simp only
    exact e1 H' hA K'
  ·rename_i asd ase
   obtain⟨u,rd,ups,hi,h1,e1⟩:=BZ h
   refine⟨u,rd,ups,h1,λH' hA K'=> ?_⟩
   unfold kj;simp only;rw[hA id hi]
   split
   ·rename_i hid;exact absurd hid (asd _ _)
   ·rename_i hid;exact absurd hid (ase _ _ _ _)
   ·exact e1 H' hA K'
 ·rename_i nr
  obtain⟨u,rd,ups,h1,e1⟩:=TM h
  refine⟨u,rd,ups,h1,λH' hA K'=> ?_⟩
  have:kj E τ a v H' K'=my τ a v H' K':=by
   unfold kj
   cases a<;>first|rfl|exact absurd rfl (nr _ _)
  rw[this]
  exact e1 H' hA K'
theorem TN{E:Env}{τ:Ty}{a v:bk}{H:Nat→Option aW}{K:fV α}(h:tj E τ a v H K=some r):
  ∃u rd ups,K u rd ups=some r∧ ∀H',Ag rd H H'→ ∀K':fV α,tj E τ a v H' K'=K' u rd ups:=by
 unfold tj at h
 split at h
 ·rename_i id υ y n
  split at h
  ·rename_i m e qp
   cases BS:Nat.beq m n
   ·rw[BS]at h
    simp only[au]at h
    obtain⟨u,rd,ups,h1,e1⟩:=B0 h
    exact⟨u,rd,ups,h1,λH' hA K'=>by unfold tj;simp only;rw[qp];simp only;rw[BS];simp only[au];exact e1 H' hA K'⟩
   ·rw[BS]at h
    simp only[aj]at h
    obtain⟨h1,e1⟩:=gd h
    obtain⟨υ',h2,e2⟩:=xU h1
    obtain⟨h3,e3⟩:=gd h2
    obtain⟨h4,e4⟩:=xV h3
    exact⟨_,_,_,h4,λH' hA K'=>by unfold tj;simp only;rw[qp];simp only;rw[BS];simp only[aj];rw[e1,e2 H' (hA _ (by simp)),e3,e4 H' (hA _ (by simp))]⟩
  ·rename_i nr
   obtain⟨u,rd,ups,h1,e1⟩:=B0 h
   refine⟨u,rd,ups,h1,λH' hA K'=> ?_⟩
   unfold tj;simp only
   exact e1 H' hA K'
 ·rename_i nr
  obtain⟨u,rd,ups,h1,e1⟩:=B0 h
  refine⟨u,rd,ups,h1,λH' hA K'=> ?_⟩
  unfold tj
  split
  ·exact absurd rfl (nr _ _ _ _ rfl)
  ·exact e1 H' hA K'
theorem TO{E:Env}{t:Ty}{z:Bool}{a:bk}{lo hi mx:Option bk}{H:Nat→Option aW}{K:fV α}(h:wX E t z a lo hi mx H K=some r): ∃v rd ups,K v rd ups=some r∧ ∀H',Ag rd H H'→ ∀K':fV α,wX E t z a lo hi mx H' K'=K' v rd ups:=by
 unfold wX at h
 split at h
 ·rename_i e id lo' hvw
  obtain⟨k,i,h1,e1⟩:=qw h
  split at h1
  ·rename_i e' l hid
   obtain⟨h2,e2⟩:=gd h1
   obtain⟨h3,e3⟩:=dM h2
   refine⟨_,_,_,h3,λH' hA K'=> ?_⟩
   unfold wX;rw[hvw];simp only
   rw[e1,hA id (by simp),hid];simp only
   rw[e2,e3]
  ·cases h1
 ·rename_i nr
  obtain⟨v,rd,ups,h1,e1⟩:=TK h
  refine⟨v,rd,ups,h1,λH' hA K'=> ?_⟩
  unfold wX
  split
  ·rename_i hvw;exact absurd rfl (nr _ _ _ hvw rfl rfl rfl rfl)
  ·exact e1 H' hA K'
theorem TP{e:Ty}{a:bk}{H:Nat→Option aW}{K:fV α}(h:y4 e a H K=some r): ∃v rd ups,K v rd ups=some r∧ ∀H',Ag rd H H'→ ∀K':fV α,y4 e a H' K'=K' v rd ups:=by
 unfold y4 at h
 split at h
 ·rename_i id e' lo
  obtain⟨h1,e1⟩:=gd h
  split at h1
  ·rename_i e2 l hid
   obtain⟨z,h2,e3⟩:=de h1
   refine⟨_,_,_,h2,λH' hA K'=> ?_⟩
   unfold y4;simp only
   rw[e1,hA id (by simp),hid];simp only
   rw[e3]
  ·cases h1
 ·cases h
theorem B1{E:Env}{τ:Ty}{a v:bk}{H:Nat→Option aW}{K:fV α}(h:tk E τ a v H K=some r):
  ∃u rd ups,K u rd ups=some r∧ ∀H',Ag rd H H'→ ∀K':fV α,tk E τ a v H' K'=K' u rd ups:=by
 unfold tk at h
 split at h
 ·rename_i id υ y n j
  split at h
  ·rename_i m e qp
   obtain⟨h1,e1⟩:=dM h
   obtain⟨h2,e2⟩:=gd h1
   obtain⟨υ',h3,e3⟩:=xU h2
   obtain⟨h4,e4⟩:=gd h3
   split at h4
   ·rename_i e' l hj
    obtain⟨h5,e5⟩:=gd h4
    refine⟨_,_,_,h5,λH' hA K'=> ?_⟩
    unfold tk;simp only;rw[qp];simp only
    rw[e1,e2,e3 H' (hA _ (by simp)),e4,hA j (by simp),hj];simp only
    rw[e5]
   ·cases h4
  ·cases h
 ·rename_i nr
  obtain⟨u,rd,ups,h1,e1⟩:=TN h
  refine⟨u,rd,ups,h1,λH' hA K'=> ?_⟩
  unfold tk
  split
  ·exact absurd rfl (nr _ _ _ _ _ rfl)
  ·exact e1 H' hA K'
theorem R1{k:Nat}: ∀(ups:ig) {H H':Nat→Option aW},H' k=H k→cj H' ups k=cj H ups k
 |[],_,_,h=>h
 |u::r,H,H',h=>by
  show cj (bc H' u.1 u.2) r k=cj (bc H u.1 u.2) r k
  refine R1 r ?_
  by_cases e:k=u.1
  ·subst e;rw[ar,ar]
  ·rw[av _ _ e,av _ _ e,h]
theorem TQ{E:Env}{τ:Ty}{a v:bk}{H:Nat→Option aW}{K:fV α}(h:rr E τ a v H K=some r):
  ∃u rd ups,K u rd ups=some r∧ ∀H',Ag rd H H'→ ∀K':fV α,rr E τ a v H' K'=K' u rd ups:=by
 unfold rr at h
 split at h
 ·rename_i id n k
  cases hb:agO E id n
  ·rw[hb]at h
   simp only[au]at h
   obtain⟨u,rd,ups,h1,e1⟩:=B1 h
   exact⟨u,rd,ups,h1,λH' hA K'=>by unfold rr;simp only;rw[hb];simp only[au];exact e1 H' hA K'⟩
  ·rw[hb]at h
   simp only[aj]at h
   split at h
   ·rename_i υ x q j hid
    cases hp:Ii q [.gr n]
    ·rw[hp]at h
     simp only[au]at h
     split at h
     ·rename_i e Tv
      obtain⟨z,ups,h1,e1⟩:=RZ h
      obtain⟨u,iR,h2,e2⟩:=AL h1
      refine⟨_,_,_,h2,λH' hA K'=> ?_⟩
      unfold rr;simp only;rw[hb];simp only[aj]
      rw[hA id (by simp),hid];simp only
      rw[hp];simp only[au]
      rw[Tv];simp only
      rw[e1 H' (hA j (by simp)),e2 _ (R1 ups (hA k (by simp)))]
     ·cases h
    ·rw[hp]at h
     simp only[aj]at h
     obtain⟨u,rd,ups,h1,e1⟩:=B1 h
     refine⟨_,_,_,h1,λH' hA K'=> ?_⟩
     unfold rr;simp only;rw[hb];simp only[aj]
     rw[hA id (by simp),hid];simp only
     rw[hp];simp only[aj]
     exact e1 H' (λi hi=>hA i (a6 _ hi)) _
   ·rename_i υ x hid
    split at h
    ·rename_i e Tv
     obtain⟨u,iR,h2,e2⟩:=AL h
     refine⟨_,_,_,h2,λH' hA K'=> ?_⟩
     unfold rr;simp only;rw[hb];simp only[aj]
     rw[hA id (by simp),hid];simp only
     rw[Tv];simp only
     exact e2 H' (hA k (by simp)) K'
    ·cases h
   ·cases h
 ·rename_i nr
  obtain⟨u,rd,ups,h1,e1⟩:=B1 h
  refine⟨u,rd,ups,h1,λH' hA K'=> ?_⟩
  unfold rr
  split
  ·exact absurd rfl (nr _ _ _ rfl)
  ·exact e1 H' hA K'
theorem Wo{E:Env}{τ:Ty}{a:bk}{H:Nat→Option aW}{K:fV α}(h:An E τ a H K=some r):
  ∃u rd ups,K u rd ups=some r∧ ∀H',Ag rd H H'→ ∀K':fV α,An E τ a H' K'=K' u rd ups:=by
 unfold An at h
 split at h
 ·rename_i id Tq
  split at h
  ·rename_i υ x n j hid
   obtain⟨z,h1,e1⟩:=de h
   refine⟨_,_,_,h1,λH' hA K'=> ?_⟩
   unfold An;rw[Tq];simp only;rw[hA id (by simp),hid];simp only
   rw[e1]
  ·rename_i nr
   obtain⟨u,rd,ups,h1,e1⟩:=Nb h
   refine⟨_,_,_,h1,λH' hA K'=> ?_⟩
   unfold An;rw[Tq];simp only;rw[hA id (by simp)]
   split
   ·rename_i hid;exact absurd hid (nr _ _ _ _)
   ·exact e1 H' (λi hi=>hA i (a6 _ hi)) _
 ·rename_i nr
  obtain⟨u,rd,ups,h1,e1⟩:=Nb h
  refine⟨u,rd,ups,h1,λH' hA K'=> ?_⟩
  unfold An
  split
  ·rename_i Tq;exact absurd rfl (nr _ Tq)
  ·exact e1 H' hA K'
theorem R2{H:Nat→Option aW}{id:Nat}{τ:Ty}{x:τ.den}{q:List Step}{e:Ty}{K:fV α}(h:DX H id τ x q e K=some r):Pts (λH K=>DX H id τ x q e K) H K r:=by
 obtain⟨h1,h2,h3⟩:=FP h
 exact⟨_,_,_,h3,λH' hA K'=>by unfold DX qn;simp only;rw[hA id (by simp),h1,hA (id+1) (by simp),h2]⟩
theorem Wp{E:Env}{o:Oper}{ρ:Operand→bk}{H:Nat→Option aW}{K:fV α}(h:tI E o ρ H K=some r):
  ∃v rd ups,K v rd ups=some r∧ ∀ρ' H',(∀x∈o.op.operands,ρ' x=ρ x)→Ag rd H H'→ ∀K':fV α,tI E o ρ' H' K'=K' v rd ups:=by
 obtain⟨dst,op,type,pos,after,guard⟩:=o
 unfold tI at h
 simp only at h
 have ZX: ∀{ρ':Operand→bk} (xs:List Operand),(∀x∈xs,ρ' x=ρ x)→xs.map ρ'=xs.map ρ:=λxs hx=>mc hx
 have KE: ∀{ρ':Operand→bk} (ps:Array (Nat×Operand)),(∀x∈ps.map (·.2),ρ' x=ρ x)→partsOf ρ' ps=partsOf ρ ps:=λps hp=>by
  unfold partsOf
  exact mc λp hm=>by rw[hp p.2 (Array.mem_map.2 ⟨p,by simpa using hm,rfl⟩)]
 have ahs: ∀{ρ':Operand→bk} (x:Option Operand),(∀y∈x,ρ' y=ρ y)→x.map ρ'=x.map ρ:=λx hx=>by
  cases x with
  |none=>rfl
  |some x=>simp[hx x rfl]
 split at h
 ·
  rename_i x
  exact⟨_,_,_,h,fun ρ' H' hx _ K'=>by unfold tI;simp only;rw[hx x (by simp[Op.operands])]⟩
 ·rename_i x
  exact⟨_,_,_,h,fun ρ' H' hx _ K'=>by unfold tI;simp only;rw[hx x (by simp[Op.operands])]⟩
 ·rename_i x y z
  split at h
  ·rename_i t hx
   cases t
   ·exact⟨_,_,_,(h:K (ρ z) [] []=some r),fun ρ' H' qt _ K'=>by unfold tI;simp only;rw[qt x (by simp[Op.operands]),hx,qt z (by simp[Op.operands])];rfl⟩
   ·exact⟨_,_,_,(h:K (ρ y) [] []=some r),fun ρ' H' qt _ K'=>by unfold tI;simp only;rw[qt x (by simp[Op.operands]),hx,qt y (by simp[Op.operands])];rfl⟩
  ·cases h
 ·
  split at h
  ·rename_i τ ht
   split at h
   ·rename_i q e qp
    obtain⟨v,rd,ups,h1,e1⟩:=R2 h
    exact⟨_,_,_,h1,fun ρ' H' hx hA K'=>by unfold tI;simp only;rw[ht];simp only;rw[qp];exact e1 H' hA K'⟩
   ·rename_i qp
    obtain⟨h1,e1⟩:=xV h
    exact⟨_,_,_,h1,fun ρ' H' hx hA K'=>by unfold tI;simp only;rw[ht];simp only;rw[qp];simp only;rw[e1 H' (hA _ (by simp))]⟩
  ·cases h
 ·
  rename_i t x
  split at h
  ·rename_i τ ht
   have hold:(mw true (ρ x) H τ λy rd ups=>qn H (16*dst.getD 0) (.obj τ y) (K (.ic (16*dst.getD 0) []) (16*dst.getD 0::rd) (ups++[(16*dst.getD 0,some (.obj τ y))])))=some r→
     Pts (λH K=>mw true (ρ x) H τ λy rd ups=>qn H (16*dst.getD 0) (.obj τ y) (K (.ic (16*dst.getD 0) []) (16*dst.getD 0::rd) (ups++[(16*dst.getD 0,some (.obj τ y))]))) H K r:=by
    intro h
    obtain⟨y,rd,ups,h1,e1⟩:=oR h
    obtain⟨h2,e2⟩:=xV h1
    exact⟨_,_,_,h2,λH' hA K'=>by simp only;rw[e1 H' (λi hi=>hA i (a6 _ hi)),e2 H' (hA _ (by simp))]⟩
   split at h
   ·rename_i m e υ y n qp M4
    cases BS:Nat.beq m n
    ·rw[BS]at h
     obtain⟨v,rd,ups,h1,e1⟩:=hold h
     refine⟨_,_,_,h1,fun ρ' H' hx hA K'=> ?_⟩
     unfold tI;simp only;rw[ht];simp only
     rw[hx x (by simp[Op.operands]),qp,M4];simp only
     rw[BS]
     have:=e1 H' hA K'
     rw[M4]at this
     exact this
    ·rw[BS]at h
     simp only[aj]at h
     obtain⟨z,h1,e1⟩:=de h
     obtain⟨v,rd,ups,h2,e2⟩:=R2 h1
     refine⟨_,_,_,h2,fun ρ' H' hx hA K'=> ?_⟩
     unfold tI;simp only;rw[ht];simp only
     rw[hx x (by simp[Op.operands]),qp,M4];simp only
     rw[BS];simp only[aj]
     rw[e1]
     exact e2 H' hA K'
   ·rename_i nr
    obtain⟨v,rd,ups,h1,e1⟩:=hold h
    refine⟨_,_,_,h1,fun ρ' H' hx hA K'=> ?_⟩
    unfold tI;simp only;rw[ht];simp only
    rw[hx x (by simp[Op.operands])]
    split
    ·rename_i qp M4;exact absurd M4 (nr _ _ _ _ _ qp)
    ·exact e1 H' hA K'
  ·cases h
 ·
  rename_i t ps
  split at h
  ·rename_i n e ht
   obtain⟨l,rd,ups,h1,_,e1⟩:=Gb h
   exact⟨_,_,_,h1,fun ρ' H' hx hA K'=>by unfold tI;simp only;rw[ht];simp only;rw[KE ps (λx qt=>hx x (by simpa [Op.operands]using qt)),e1 H' hA]⟩
  ·rename_i τ VY ht
   split at h
   ·rename_i n k hs
    split at h
    ·rename_i e' l' hk
     obtain⟨h0,e0⟩:=dM h
     obtain⟨l,rd,ups,h1,_,e1⟩:=BY h0
     refine⟨_,_,_,h1,fun ρ' H' hx hA K'=> ?_⟩
     unfold tI;simp only;rw[ht]
     cases τ with
     |arr n e=>exact absurd rfl (VY n e)
     |_=>
      simp only
      rw[KE ps (λx qt=>hx x (by simpa [Op.operands]using qt)),hs];simp only
      rw[hA k (by simp),hk];simp only
      rw[e0,e1 H' (λi hi=>hA i (a6 _ hi))]
    ·cases h
   ·rename_i hs
    obtain⟨h0,e0⟩:=dM h
    obtain⟨l,rd,ups,h1,_,e1⟩:=BY h0
    refine⟨_,_,_,h1,fun ρ' H' hx hA K'=> ?_⟩
    unfold tI;simp only;rw[ht]
    cases τ with
    |arr n e=>exact absurd rfl (VY n e)
    |_=>
     simp only
     rw[KE ps (λx qt=>hx x (by simpa [Op.operands]using qt)),hs];simp only
     rw[e0,e1 H' hA]
  ·cases h
 ·
  rename_i t n ps
  split at h
  ·rename_i e ht
   obtain⟨h0,e0⟩:=dM h
   obtain⟨h1,e1⟩:=xV h0
   obtain⟨l,rd,ups,h2,_,e2⟩:=Gb h1
   exact⟨_,_,_,h2,fun ρ' H' hx hA K'=>by
    unfold tI;simp only;rw[ht];simp only
    rw[e0,e1 H' (hA _ (by simp)),KE ps (λx qt=>hx x (by simpa [Op.operands]using qt)),e2 H' (λi hi=>hA i (a6 _ hi))]⟩
  ·cases h
 ·
  rename_i t x
  split at h
  ·rename_i τ ht
   obtain⟨v,rd,ups,h1,e1⟩:=Wo h
   exact⟨_,_,_,h1,fun ρ' H' hx hA K'=>by unfold tI;simp only;rw[ht];simp only;rw[hx x (by simp[Op.operands]),e1 H' hA]⟩
  ·cases h
 ·
  rename_i t x y
  split at h
  ·rename_i τ ht
   obtain⟨u,rd,ups,h1,e1⟩:=TQ h
   exact⟨_,_,_,h1,fun ρ' H' hx hA K'=>by unfold tI;simp only;rw[ht];simp only;rw[hx x (by simp[Op.operands]),hx y (by simp[Op.operands]),e1 H' hA]⟩
  ·cases h
 ·
  rename_i x
  split at h
  ·rename_i id p hx
   exact⟨_,_,_,h,fun ρ' H' qt _ K'=>by unfold tI;simp only;rw[qt x (by simp[Op.operands]),hx]⟩
  ·rename_i τ z hx
   exact⟨_,_,_,h,fun ρ' H' qt _ K'=>by unfold tI;simp only;rw[qt x (by simp[Op.operands]),hx]⟩
  ·cases h
 ·
  rename_i b t x y t'
  obtain⟨τ,x1,h1,e1⟩:=RY h
  obtain⟨υ,y1,h2,e2⟩:=RY h1
  obtain⟨v,h3,e3⟩:=Wh h2
  exact⟨_,_,_,h3,fun ρ' H' hx _ K'=>by unfold tI;simp only;rw[hx x (by simp[Op.operands]),hx y (by simp[Op.operands]),e1,e2,e3]⟩
 ·
  rename_i u t x
  obtain⟨v,h1,e1⟩:=ZU h
  exact⟨_,_,_,h1,fun ρ' H' hx _ K'=>by unfold tI;simp only;rw[hx x (by simp[Op.operands]),e1]⟩
 ·
  rename_i s d x
  split at h
  ·rename_i τ k hs hd
   obtain⟨i,n,h1,e1⟩:=qw h
   exact⟨_,_,_,h1,fun ρ' H' hx _ K'=>by unfold tI;simp only;rw[hs,hd];simp only;rw[hx x (by simp[Op.operands]),e1]⟩
  ·cases h
 ·
  rename_i f first caps
  obtain⟨h1,e1⟩:=dM h
  obtain⟨cs,rd,ups,h3,e3⟩:=Gd h1
  exact⟨_,_,_,h3,fun ρ' H' hx hA K'=>by unfold tI;simp only;rw[ZX caps.toList (λx qt=>hx x (by simp[Op.operands];exact .inr (by simpa using qt))),e1,e3 H' hA]⟩
 ·
  rename_i t x y
  split at h
  ·rename_i e ht
   obtain⟨i,n,h1,e1⟩:=qw h
   obtain⟨i',n',h2,e2⟩:=qw h1
   obtain⟨h3,e3⟩:=dM h2
   obtain⟨h4,e4⟩:=xV h3
   exact⟨_,_,_,h4,fun ρ' H' hx hA K'=>by
    unfold tI;simp only;rw[ht];simp only
    rw[hx x (by simp[Op.operands]),e1,hx y (by simp[Op.operands]),e2,e3,e4 H' (hA _ (by simp))]⟩
  ·cases h
 ·
  rename_i t x lo hi mx
  split at h
  ·rename_i τ ht
   obtain⟨v,rd,ups,h1,e1⟩:=TO h
   exact⟨_,_,_,h1,fun ρ' H' hx hA K'=>by
    unfold tI;simp only;rw[ht];simp only
    rw[hx x (by simp[Op.operands]),ahs lo (λy hy=>hx y (by simp at hy;simp[Op.operands,hy])),ahs hi (λy hy=>hx y (by simp at hy;simp[Op.operands,hy])),ahs mx (λy hy=>hx y (by simp at hy;simp[Op.operands,hy])),e1 H' hA]⟩
  ·cases h
 ·
  rename_i t x n
  split at h
  ·rename_i τ ht
   split at h
   ·rename_i id p hx
    obtain⟨υ,h1,e1⟩:=xU h
    obtain⟨h2,e2⟩:=gd h1
    obtain⟨υ',y',h3,e3⟩:=xT h2
    obtain⟨h4,e4⟩:=uh h3
    exact⟨_,_,_,h4,fun ρ' H' qt hA K'=>by
     unfold tI;simp only;rw[ht];simp only
     rw[qt x (by simp[Op.operands]),hx];simp only
     rw[e1 H' (hA _ (by simp)),e2,e3,e4]⟩
   ·rename_i υ z hx
    obtain⟨h2,e2⟩:=gd h
    obtain⟨υ',y',h3,e3⟩:=xT h2
    obtain⟨h4,e4⟩:=uh h3
    exact⟨_,_,_,h4,fun ρ' H' qt hA K'=>by
     unfold tI;simp only;rw[ht];simp only
     rw[qt x (by simp[Op.operands]),hx];simp only
     rw[e2,e3,e4]⟩
   ·cases h
  ·cases h
 ·
  rename_i t x n
  split at h
  ·rename_i τ ht
   split at h
   ·rename_i υ z hx
    obtain⟨h2,e2⟩:=gd h
    obtain⟨υ',y',h3,e3⟩:=xT h2
    exact⟨_,_,_,h3,fun ρ' H' qt hA K'=>by
     unfold tI;simp only;rw[ht];simp only
     rw[qt x (by simp[Op.operands]),hx];simp only
     rw[e2,e3]⟩
   ·cases h
  ·cases h
 ·
  rename_i t x i
  split at h
  ·rename_i τ ht
   obtain⟨v,rd,ups,h1,e1⟩:=Iz h
   exact⟨_,_,_,h1,fun ρ' H' hx hA K'=>by unfold tI;simp only;rw[ht];simp only;rw[hx x (by simp[Op.operands]),hx i (by simp[Op.operands]),e1 H' hA]⟩
  ·cases h
 ·
  rename_i t x i
  split at h
  ·rename_i τ ht
   obtain⟨v,h1,e1⟩:=TL h
   exact⟨_,_,_,h1,fun ρ' H' hx hA K'=>by unfold tI;simp only;rw[ht];simp only;rw[hx x (by simp[Op.operands]),hx i (by simp[Op.operands]),e1]⟩
  ·cases h
 ·
  rename_i x i
  split at h
  ·rename_i vs hx
   split at h
   ·rename_i v hv
    exact⟨_,_,_,h,fun ρ' H' qt hA K'=>by unfold tI;simp only;rw[qt x (by simp[Op.operands]),hx];simp only;rw[hv]⟩
   ·cases h
  ·cases h
 ·
  rename_i cl
  obtain⟨callee,args,ts⟩:=cl
  simp only at h
  have xg: ∀{ρ':Operand→bk},(∀x∈(Op.call {callee,args,argTypes:=ts}).operands,ρ' x=ρ x)→ ∀x∈args.toList,ρ' x=ρ x:=
   λhx x qt=>hx x (by simp[Op.operands,Call.operands];exact .inr (by simpa using qt))
  split at h
  ·split at h
   ·rename_i x τ ha ht
    obtain⟨v,rd,ups,h1,e1⟩:=ZV h
    exact⟨_,_,_,h1,fun ρ' H' hx hA K'=>by unfold tI;simp only;rw[ha,ht];simp only;rw[xg hx x (by rw[ha];simp),e1 H' hA]⟩
   ·cases h
  ·split at h
   ·rename_i x y t t' ha ht
    split at h
    ·rename_i e hte
     obtain⟨h1,e1⟩:=dM h
     obtain⟨h2,e2⟩:=xV h1
     obtain⟨v,rd,ups,h3,hid,e3⟩:=ZW h2
     exact⟨_,_,_,h3,fun ρ' H' hx hA K'=>by
      unfold tI;simp only;rw[ha,ht];simp only;rw[hte];simp only
      rw[e1,e2 H' (hA _ hid),xg hx x (by rw[ha];simp),xg hx y (by rw[ha];simp),e3 H' hA]⟩
    ·cases h
   ·cases h
  ·split at h
   ·rename_i x t ha ht
    split at h
    ·rename_i e hte
     obtain⟨v,rd,ups,h1,e1⟩:=TP h
     exact⟨_,_,_,h1,fun ρ' H' hx hA K'=>by
      unfold tI;simp only;rw[ha,ht];simp only;rw[hte];simp only
      rw[xg hx x (by rw[ha];simp),e1 H' hA]⟩
    ·cases h
   ·cases h
  ·split at h
   ·rename_i x xs ha
    obtain⟨v,h1,e1⟩:=Qt h
    exact⟨_,_,_,h1,fun ρ' H' hx hA K'=>by
     unfold tI;simp only;rw[ha];simp only
     rw[xg hx x (by rw[ha];simp),ZX xs (λy hy=>xg hx y (by rw[ha];simp[hy])),e1]⟩
   ·cases h
  ·split at h
   ·rename_i x xs ha
    obtain⟨v,h1,e1⟩:=Qt h
    exact⟨_,_,_,h1,fun ρ' H' hx hA K'=>by
     unfold tI;simp only;rw[ha];simp only
     rw[xg hx x (by rw[ha];simp),ZX xs (λy hy=>xg hx y (by rw[ha];simp[hy])),e1]⟩
   ·cases h
  ·rename_i g
   split at h
   ·rename_i f caps hg
    obtain⟨v,rd,ups,h1,e1⟩:=Wk h
    exact⟨_,_,_,h1,fun ρ' H' hx hA K'=>by
     unfold tI;simp only
     rw[hx g (by simp[Op.operands,Call.operands]),hg];simp only
     rw[ZX args.toList (xg hx),e1 H' hA]⟩
   ·cases h
  ·cases h
 ·cases h
end VM
end
section
namespace VM
open Go
variable{P:Program}{E:Env}{o:Oper}{a:Act}{w:World}{M:Nat→Prop}{ν:Nat→Value}{σ:St}{c:Ctx}{α:Type}{r:α}{next:Act→World→Prop}{Q:Exit→Act→World→Prop}
theorem R3{E:Env}{o:Oper}{ρ ρ':Operand→bk}(hx: ∀x∈o.op.operands,ρ' x=ρ x):Qh E o ρ'=Qh E o ρ:=by
 obtain⟨dst,op,type,pos,after,guard⟩:=o
 unfold Qh
 simp only at hx ⊢
 cases op with
 |call cl=>
  simp only
  split
  ·rename_i x h1 h2
   rw[hx x (by
    have:x∈cl.args.toList:=by rw[h2];simp
    simp only[Op.operands,Call.operands]
    simp[this]
    try (first|exact .inr (by simpa using this)|exact .inl (by simpa using this)))]
  ·rfl
 |indexAddr t x i=>simp only;rw[hx x (by simp[Op.operands])]
 |load t x=>simp only;rw[hx x (by simp[Op.operands])]
 |store t x y=>simp only;rw[hx x (by simp[Op.operands]),hx y (by simp[Op.operands])]
 |move x=>simp only;rw[hx x (by simp[Op.operands])]
 |_=>rfl
theorem R4{E:Env}{o:Oper}{ρ ρ':Operand→bk}{H H':Nat→Option aW}(hx: ∀x∈o.op.operands,ρ' x=ρ x)(hA:Ag (Qh E o ρ) H H'):Tk E o ρ' H'=Tk E o ρ H:=by
 obtain⟨dst,op,type,pos,after,guard⟩:=o
 unfold Qh at hA
 unfold Tk
 simp only at hA hx ⊢
 cases op with
 |makeSlice t x y=>
  simp only at hA ⊢
  rw[hA (16*dst.getD 0) (by simp),hA 7 (by simp),hx x (by simp[Op.operands]),hx y (by simp[Op.operands])]
 |call cl=>
  simp only at hA ⊢
  split
  ·rename_i x e h1 h2 h3
   rw[h1,h2]at hA
   simp only at hA
   have hxm:x∈(Op.call cl).operands:=by
    have:x∈cl.args.toList:=by rw[h2];simp
    simp only[Op.operands,Call.operands]
    simp[this]
    try (first|exact .inr (by simpa using this)|exact .inl (by simpa using this))
   rw[hx x hxm]
   split
   ·rename_i id hr
    rw[hA id (by rw[hr];simp[DY])]
   ·rfl
  ·rfl
 |indexAddr t x i=>
  simp only at hA ⊢
  rw[hx x (by simp[Op.operands]),hx i (by simp[Op.operands])]
  split
  ·rename_i e id k n _ hr _
   rw[hA id (by rw[hr];simp[DY])]
  ·rfl
 |load t x=>
  simp only at hA ⊢
  rw[hx x (by simp[Op.operands])]
  split
  ·rename_i e id n _ hr
   rw[hA id (by rw[hr];simp[DY]),hA (16*dst.getD 0) (by simp)]
  ·rfl
 |store t x y=>
  simp only at hA ⊢
  rw[hx x (by simp[Op.operands]),hx y (by simp[Op.operands])]
  split
  ·rename_i e id n j _ hr xQ
   rw[hA id (by rw[hr];simp[DY]),hA j (by rw[xQ];simp[DY])]
  ·rfl
 |move x=>
  simp only at hA ⊢
  rw[hx x (by simp[Op.operands])]
  cases Iy:Ti E 4000000 (dst.getD 0)
  ·rfl
  ·rw[Iy]at hA
   simp only[aj]at hA ⊢
   split
   ·rename_i id hr
    rw[hA id (by rw[hr];simp[DY])]
   ·rfl
 |_=>rfl
theorem aht{E:Env}{o:Oper}{ρ:Operand→bk}{H:Nat→Option aW}{K:fV α}(h:Vm E o ρ H K=some r):
  ∃v rd ups,K v rd ups=some r∧ ∀ρ' H',(∀x∈o.op.operands,ρ' x=ρ x)→Ag rd H H'→ ∀K':fV α,Vm E o ρ' H' K'=K' v rd ups:=by
 unfold Vm at h
 cases hf:E.eU
 ·rw[hf]at h
  obtain⟨v,rd,ups,h1,h2⟩:=Wp h
  exact⟨v,rd,ups,h1,fun ρ' H' hx hA K'=>by unfold Vm;rw[hf];exact h2 ρ' H' hx hA K'⟩
 ·rw[hf]at h
  simp only[aj]at h
  split at h
  ·rename_i u hs
   obtain⟨hg,h⟩:=bN h
   refine⟨_,_,_,h,fun ρ' H' hx hA K'=> ?_⟩
   unfold Vm;rw[hf];simp only[aj]
   rw[R4 hx hA,hs,R3 hx];simp only
   rw[hg];rfl
  ·rename_i hs
   obtain⟨v,rd,ups,h1,h2⟩:=Wp h
   obtain⟨nr,h1⟩:=bN h1
   refine⟨_,_,_,h1,fun ρ' H' hx hA K'=> ?_⟩
   unfold Vm;rw[hf];simp only[aj]
   rw[R4 hx (λi hi=>hA i (cA _ hi)),hs,R3 hx];simp only
   rw[h2 ρ' H' hx (λi hi=>hA i (cS _ hi)),nr];rfl
structure Out where
 dst:Option Nat
 v:bk
 rd:List Nat
 ups:ig
def Out.app(u:Out)(σ:St):St:=(σ.wS u.ups).wc u.dst u.v
theorem Nc(σ:St)(d:Nat)(v:bk):(σ.wc (some d) v).T d=v:=rD σ d v
theorem TR(σ:St){d:Option Nat}{t:Nat}(v:bk)(h:d≠some t):(σ.wc d v).T t=σ.T t:=by
 cases d with
 |none=>rfl
 |some d=>exact xf σ v (λe=>h (by rw[e]))
theorem Qu{u:Out}{t:Nat}(h:u.dst=some t)(σ:St):(u.app σ).T t=u.v:=by unfold Out.app;rw[h];exact Nc _ _ _
theorem Wq{u:Out}{t:Nat}(h:u.dst≠some t)(σ:St):(u.app σ).T t=σ.T t:=by unfold Out.app;rw[TR _ _ h,Qk]
theorem amB(u:Out)(σ:St):(u.app σ).H=cj σ.H u.ups:=by unfold Out.app;rw[Qs,Qj]
def Pt(E:Env)(ops:List Oper)(o:Oper)(σ:St)(u:Out)(α:Type):Prop:=
 u.dst=o.dst∧ ∀σ':St,(∀t∈names ops o,σ'.T t=σ.T t)→Ag u.rd σ.H σ'.H→ ∀K':St→List Nat→List Nat→Option α,tY E ops o σ' K'=K' (u.app σ') u.rd (u.ups.map (·.1))
theorem Wr{ops:List Oper}{K:St→List Nat→List Nat→Option α}(h:tY E ops o σ K=some r): ∃u:Out,K (u.app σ) u.rd (u.ups.map (·.1))=some r∧Pt E ops o σ u α:=by
 unfold tY at h
 obtain⟨h,e0⟩:=dM h
 have asf: ∀σ':St,(∀t∈names ops o,σ'.T t=σ.T t)→ ∀x∈o.op.operands,σ'.ρ x=σ.ρ x:=by
  intro σ' hT x hx
  cases x with
  |tmp t=>
   refine hT t ?_
   unfold names
   refine cA _ (zV.2 ⟨.tmp t,by simpa using hx,rfl⟩)
  |_=>rfl
 have cU:Vm E o σ.ρ σ.H (λv rd ups=>K ((σ.wS ups).wc o.dst v) rd (ups.map (·.1)))=some r→
   ∃u:Out,K (u.app σ) u.rd (u.ups.map (·.1))=some r∧u.dst=o.dst∧ ∀σ':St,(∀t∈names ops o,σ'.T t=σ.T t)→Ag u.rd σ.H σ'.H→ ∀K':St→List Nat→List Nat→Option α,
    Vm E o σ'.ρ σ'.H (λv rd ups=>K' ((σ'.wS ups).wc o.dst v) rd (ups.map (·.1)))=K' (u.app σ') u.rd (u.ups.map (·.1)):=by
  intro h
  obtain⟨v,rd,ups,h1,h2⟩:=aht h
  exact⟨⟨o.dst,v,rd,ups⟩,h1,rfl,fun σ' hT hA K'=>h2 σ'.ρ σ'.H (asf σ' hT) hA _⟩
 have sW: ∀{K:St→List Nat→List Nat→Option α},K (σ.wc o.dst .VF) [] []=some r→ ∃u:Out,K (u.app σ) u.rd (u.ups.map (·.1))=some r∧u.dst=o.dst∧ ∀σ':St,∀K':St→List Nat→List Nat→Option α,K' (σ'.wc o.dst .VF) [] []=K' (u.app σ') u.rd (u.ups.map (·.1)):=
  λh=>⟨⟨o.dst,.VF,[],[]⟩,h,rfl,λ_ _=>rfl⟩
 simp only at h
 split at h
 ·rename_i hg
  obtain⟨u,h1,h2,h3⟩:=cU h
  refine⟨u,h1,h2,fun σ' hT hA K'=> ?_⟩
  unfold tY
  rw[e0]
  simp only
  rw[hg]
  exact h3 σ' hT hA K'
 ·rename_i j want hg
  split at h
  ·cases h
  ·rename_i t ht
   have TS:t∈names ops o:=by
    unfold names
    refine cS _ ?_
    rw[hg]
    simp[ht]
   split at h
   ·rename_i b hb
    have p9: ∀σ':St,σ'.T t=σ.T t→σ'.put t (.val .bool b)=σ':=fun σ' h'=>by
     rw[←hb,←h'];exact F8 σ' t
    cases want<;>cases b
    ·obtain⟨u,h1,h2,h3⟩:=cU (by
      have:=p9 σ rfl
      rw[this]at h;exact h)
     refine⟨u,h1,h2,fun σ' hT hA K'=> ?_⟩
     unfold tY
     rw[e0];simp only;rw[hg];simp only;rw[ht];simp only;rw[hT t TS,hb];simp only
     rw[p9 σ' (hT t TS)]
     exact h3 σ' hT hA K'
    ·obtain⟨u,h1,h2,h3⟩:=sW (by
      have:=p9 σ rfl
      rw[this]at h;exact h)
     refine⟨u,h1,h2,fun σ' hT hA K'=> ?_⟩
     unfold tY
     rw[e0];simp only;rw[hg];simp only;rw[ht];simp only;rw[hT t TS,hb];simp only
     rw[p9 σ' (hT t TS)]
     exact h3 σ' K'
    ·obtain⟨u,h1,h2,h3⟩:=sW (by
      have:=p9 σ rfl
      rw[this]at h;exact h)
     refine⟨u,h1,h2,fun σ' hT hA K'=> ?_⟩
     unfold tY
     rw[e0];simp only;rw[hg];simp only;rw[ht];simp only;rw[hT t TS,hb];simp only
     rw[p9 σ' (hT t TS)]
     exact h3 σ' K'
    ·obtain⟨u,h1,h2,h3⟩:=cU (by
      have:=p9 σ rfl
      rw[this]at h;exact h)
     refine⟨u,h1,h2,fun σ' hT hA K'=> ?_⟩
     unfold tY
     rw[e0];simp only;rw[hg];simp only;rw[ht];simp only;rw[hT t TS,hb];simp only
     rw[p9 σ' (hT t TS)]
     exact h3 σ' hT hA K'
   ·rename_i hb
    obtain⟨u,h1,h2,h3⟩:=sW h
    refine⟨u,h1,h2,fun σ' hT hA K'=> ?_⟩
    unfold tY
    rw[e0];simp only;rw[hg];simp only;rw[ht];simp only;rw[hT t TS,hb]
    exact h3 σ' K'
   ·cases h
theorem R5{ops:List Oper}: ∀(l:List Oper) (i:Nat) (σ:St) (lg:Log) (K:St→Log→Option α),Tl E ops l i σ lg K=some r→
  ∃us:List Out,us.length=l.length∧(∀j u o,us[j]? =some u→l[j]? =some o→Pt E ops o ((us.take j).foldl (fun σ u=>u.app σ) σ) u α)∧
   ∃lg',K (us.foldl (fun σ u=>u.app σ) σ) lg'=some r∧(∀x∈lg,x∈lg')∧ ∀j u,us[j]? =some u→(i+j,u.rd,u.ups.map (·.1))∈lg'
 |[],i,σ,lg,K,h=>⟨[],rfl,λj u o hj=>by simp at hj,lg,h,λ_ h=>h,λj u hj=>by simp at hj⟩
 |o::l,i,σ,lg,K,h=>by
  unfold Tl at h
  obtain⟨u,h1,h2⟩:=Wr h
  obtain⟨us,hl,hpt,lg',hK,Zd,hj⟩:=R5 l (i+1) (u.app σ) _ K h1
  refine⟨u::us,by simp[hl],λj u' o' hu ho=> ?_,lg',hK,λx hx=>Zd x (a6 _ hx),λj u' hu=> ?_⟩
  ·cases j with
   |zero=>simp at hu ho;subst hu ho;exact h2
   |succ j=>exact hpt j u' o' (by simpa using hu) (by simpa using ho)
  ·cases j with
   |zero=>simp at hu;subst hu;exact Zd _ bu
   |succ j=>
    have:=hj j u' (by simpa using hu)
    rwa [show i+1+j=i+(j+1)from by omega]at this
theorem TT{k:Nat}{ups:ig}(h:k∈keys ups)(H H':Nat→Option aW):cj H ups k=cj H' ups k:=by
 induction ups generalizing H H' with
 |nil=>simp[keys]at h
 |cons u r ih=>
  show cj (bc H u.1 u.2) r k=cj (bc H' u.1 u.2) r k
  by_cases hk:k∈keys r
  ·exact ih hk _ _
  ·have hku:k=u.1:=by
    simp only[keys,bZ,bm]at h hk
    exact h.resolve_right hk
   rw[lO hk,lO hk,hku,ar,ar]
structure pg(us:List Out)(σ0:St)(S:Nat→Prop)(σ:St):Prop where
 T: ∀t,(∃j u,us[j]? =some u∧S j∧u.dst=some t∧(∀j' u',us[j']? =some u'→S j'→u'.dst=some t→j'≤j)∧σ.T t=u.v)∨((∀j u,us[j]? =some u→S j→u.dst≠some t)∧σ.T t=σ0.T t)
 H: ∀k,(∃j u,us[j]? =some u∧S j∧k∈keys u.ups∧(∀j' u',us[j']? =some u'→S j'→k∈keys u'.ups→j'≤j)∧σ.H k=cj σ0.H u.ups k)∨((∀j u,us[j]? =some u→S j→k∉keys u.ups)∧σ.H k=σ0.H k)
theorem pg.Ws{us:List Out}{σ0 σ σ':St}{S S':Nat→Prop}(h:pg us σ0 S σ)(h':pg us σ0 S' σ'){t:Nat}(hs: ∀j u,us[j]? =some u→u.dst=some t→(S j↔S' j)):σ.T t=σ'.T t:=by
 rcases h.T t with⟨j,u,h1,h2,h3,h4,h5⟩|⟨h1,h2⟩<;>rcases h'.T t with⟨j',u',pV,yT,Qv,h4',h5'⟩|⟨pV,yT⟩
 ·have e1:=h4 j' u' pV ((hs j' u' pV Qv).2 yT) Qv
  have e2:=h4' j u h1 ((hs j u h1 h3).1 h2) h3
  have:j=j':=ω
  subst this
  rw[h1]at pV;cases pV
  rw[h5,h5']
 ·exact absurd h3 (pV j u h1 ((hs j u h1 h3).1 h2))
 ·exact absurd Qv (h1 j' u' pV ((hs j' u' pV Qv).2 yT))
 ·rw[h2,yT]
theorem pg.Wt{us:List Out}{σ0 σ σ':St}{S S':Nat→Prop}(h:pg us σ0 S σ)(h':pg us σ0 S' σ'){k:Nat}(hs: ∀j u,us[j]? =some u→k∈keys u.ups→(S j↔S' j)):σ.H k=σ'.H k:=by
 rcases h.H k with⟨j,u,h1,h2,h3,h4,h5⟩|⟨h1,h2⟩<;>rcases h'.H k with⟨j',u',pV,yT,Qv,h4',h5'⟩|⟨pV,yT⟩
 ·have e1:=h4 j' u' pV ((hs j' u' pV Qv).2 yT) Qv
  have e2:=h4' j u h1 ((hs j u h1 h3).1 h2) h3
  have:j=j':=ω
  subst this
  rw[h1]at pV;cases pV
  rw[h5,h5']
 ·exact absurd h3 (pV j u h1 ((hs j u h1 h3).1 h2))
 ·exact absurd Qv (h1 j' u' pV ((hs j' u' pV Qv).2 yT))
 ·rw[h2,yT]
theorem pg.unique{us:List Out}{σ0 σ σ':St}{S S':Nat→Prop}(h:pg us σ0 S σ)(h':pg us σ0 S' σ')(hs: ∀j u,us[j]? =some u→(S j↔S' j)):σ=σ':=by
 obtain⟨T,H⟩:=σ
 obtain⟨T',H'⟩:=σ'
 congr 1
 ·funext t;exact h.Ws h' (λj u hj _=>hs j u hj)
 ·funext k;exact h.Wt h' (λj u hj _=>hs j u hj)
theorem pg.step{us:List Out}{σ0 σ:St}{S:Nat→Prop}(h:pg us σ0 S σ){i:Nat}{u:Out}(hi:us[i]? =some u)(hc: ∀j u',us[j]? =some u'→S j→i<j→(∀t,u.dst=some t→u'.dst≠some t)∧ ∀k∈keys u.ups,k∉keys u'.ups):
  pg us σ0 (λj=>j=i∨S j) (u.app σ):=by
 refine⟨λt=> ?_,λk=> ?_⟩
 ·by_cases hd:u.dst=some t
  ·left
   refine⟨i,u,hi,.inl rfl,hd,λj' u' h1 h2 h3=> ?_,Qu hd σ⟩
   rcases h2 with rfl|h2
   ·exact aI _
   ·exact Nat.le_of_not_lt λdU=>(hc j' u' h1 h2 dU).1 t hd h3
  ·rw[Wq hd]
   rcases h.T t with⟨j,u1,h1,h2,h3,h4,h5⟩|⟨h1,h2⟩
   ·refine .inl ⟨j,u1,h1,.inr h2,h3,λj' u' pV yT Qv=> ?_,h5⟩
    rcases yT with rfl|yT
    ·rw[hi]at pV;cases pV;exact absurd Qv hd
    ·exact h4 j' u' pV yT Qv
   ·refine .inr ⟨λj u' pV yT=> ?_,h2⟩
    rcases yT with rfl|yT
    ·rw[hi]at pV;cases pV;exact hd
    ·exact h1 j u' pV yT
 ·rw[amB]
  by_cases hd:k∈keys u.ups
  ·left
   refine⟨i,u,hi,.inl rfl,hd,λj' u' h1 h2 h3=> ?_,TT hd _ _⟩
   rcases h2 with rfl|h2
   ·exact aI _
   ·exact Nat.le_of_not_lt λdU=>(hc j' u' h1 h2 dU).2 k hd h3
  ·rw[lO hd]
   rcases h.H k with⟨j,u1,h1,h2,h3,h4,h5⟩|⟨h1,h2⟩
   ·refine .inl ⟨j,u1,h1,.inr h2,h3,λj' u' pV yT Qv=> ?_,h5⟩
    rcases yT with rfl|yT
    ·rw[hi]at pV;cases pV;exact absurd Qv hd
    ·exact h4 j' u' pV yT Qv
   ·refine .inr ⟨λj u' pV yT=> ?_,h2⟩
    rcases yT with rfl|yT
    ·rw[hi]at pV;cases pV;exact hd
    ·exact h1 j u' pV yT
theorem pg.start(us:List Out)(σ0:St):pg us σ0 (λ_=>False) σ0:=⟨λt=> .inr ⟨λ_ _ _ h=>h.elim,rfl⟩,λk=> .inr ⟨λ_ _ _ h=>h.elim,rfl⟩⟩
theorem pg.congr{us:List Out}{σ0 σ:St}{S S':Nat→Prop}(h:pg us σ0 S σ)(hs: ∀j,S j↔S' j):pg us σ0 S' σ:=by
 have:S=S':=funext λj=>propext (hs j)
 rw[←this];exact h
theorem pg.text(us:List Out)(σ0:St): ∀i,i≤us.length→pg us σ0 (λj=>j<i) ((us.take i).foldl (fun σ u=>u.app σ) σ0)
 |0,_=>(pg.start us σ0).congr λj=>by simp
 |i+1,hi=>by
  have ih:=pg.text us σ0 i ω
  have hu:us[i]? =some us[i]:=bo ω
  have:=ih.step hu (λj u' _ h2 h3=>ω)
  rw[zY,hu,List.foldl_append]
  exact this.congr λj=>by constructor<;>intro h<;>omega
def Pre(S:Nat→Prop)(o:Oper):Prop:= ∀e∈o.after,Region.binds .any e=true→S e.on
theorem Ge{β:Type}{l m:List β}{i:Nat}{d:β}(h:i<l.length):(l++m).getD i d=l.getD i d:=by
 simp only[γ,qj h]
theorem Gf{β:Type}{l:List β}{x d:β}:(l++[x]).getD l.length d=x:=by
 simp[γ]
theorem Da{acc:List Nat}{i:Nat}: ∀(es:List Edge) (s:Nat),(es.foldl (λs e=>cond (Region.binds .any e) (s|||2^e.on|||acc.getD e.on 0) s) s).testBit i=true→
  s.testBit i=true∨ ∃e∈es,Region.binds .any e=true∧(i=e.on∨(acc.getD e.on 0).testBit i=true)
 |[],s,h=> .inl h
 |e::es,s,h=>by
  rw[List.foldl_cons]at h
  rcases Da es _ h with h1|⟨e',h1,h2⟩
  ·cases hb:Region.binds .any e
   ·rw[hb]at h1;exact .inl h1
   ·rw[hb]at h1
    simp only[aj,Nat.testBit_or,ni]at h1
    rcases h1 with(h1|h1)|h1
    ·exact .inl h1
    ·refine .inr ⟨e,bu,hb,.inl ?_⟩
     rw[Nat.testBit_two_pow]at h1
     simpa using (bl h1).symm
    ·exact .inr ⟨e,bu,hb,.inr h1⟩
  ·exact .inr ⟨e',a6 _ h1,h2⟩
theorem Db{S:Nat→Prop}: ∀(l:List Oper) (acc:List Nat) (all:List Oper),all.length=acc.length+l.length→(∀j,l[j]? =all[acc.length+j]?)→
  (∀j o,all[j]? =some o→S j→Pre S o)→(∀j i,j<acc.length→S j→(acc.getD j 0).testBit i=true→S i)→
  ∀j o i,all[j]? =some o→(Pre S o∨S j)→((tp l acc).getD j 0).testBit i=true→(j<acc.length→ ∀i,Pre S o→(acc.getD j 0).testBit i=true→S i)→S i
 |[],acc,all,hl,iT,hS,ZY,j,o,i,hj,Nd,hb,Wu=>by
  have dU:j<all.length:=(sN.1 hj).1
  have xb:j<acc.length:=by simp at hl;omega
  rcases Nd with hp|hp
  ·exact Wu xb i hp hb
  ·exact ZY j i xb hp hb
 |p::l,acc,all,hl,iT,hS,ZY,j,o,i,hj,Nd,hb,Wu=>by
  unfold tp at hb
  have It:all[acc.length]? =some p:=by rw[←kf acc.length,←iT 0];rfl
  have amC: ∀i,Pre S p→(p.after.toList.foldl (λs e=>cond (Region.binds .any e) (s|||2^e.on|||acc.getD e.on 0) s) 0).testBit i=true→S i:=by
   intro i EF hb
   rcases Da p.after.toList 0 hb with h1|⟨e,he,Wv,h1⟩
   ·simp at h1
   ·have hSe:=EF e (by simpa using he) Wv
    rcases h1 with rfl|h1
    ·exact hSe
    ·by_cases dU:e.on<acc.length
     ·exact ZY e.on i dU hSe h1
     ·rw[γ,gV ω]at h1;simp at h1
  refine Db l (acc++[p.after.toList.foldl (λs e=>cond (Region.binds .any e) (s|||2^e.on|||acc.getD e.on 0) s) 0]) all (by simp at hl ⊢;omega) (λj=> ?_) hS (λj' i' Qq hS' dj=> ?_) j o i hj Nd hb (λdU i' H4 dj=> ?_)
  ·have:=iT (j+1)
   simp only[List.getElem?_cons_succ]at this
   rw[this]
   congr 1
   simp;omega
  ·by_cases dU:j'<acc.length
   ·rw[Ge dU]at dj
    exact ZY j' i' dU hS' dj
   ·have hje:j'=acc.length:=by simp at Qq;omega
    subst hje
    rw[Gf]at dj
    exact amC i' (hS _ p It hS') dj
  ·by_cases xb:j<acc.length
   ·rw[Ge xb]at dj
    exact Wu xb i' H4 dj
   ·have hje:j=acc.length:=by simp at dU;omega
    subst hje
    rw[It]at hj;cases hj
    rw[Gf]at dj
    exact amC i' H4 dj
theorem forced{ops:List Oper}{S:Nat→Prop}(hS: ∀j o,ops[j]? =some o→S j→Pre S o){j i:Nat}(hj:ops[j]? =some o)(Nd:Pre S o∨S j)(hb:((tp ops []).getD j 0).testBit i=true):S i:=
 Db ops [] ops (by simp) (λj=>by simp) hS (λj i h=>by simp at h) j o i hj Nd hb (λh=>by simp at h)
theorem mO{l m:List Nat}(h:meets l m=false){x:Nat}(h1:x∈l)(h2:x∈m):False:=by
 have:meets l m=true:=by
  unfold meets
  rw[zZ]
  refine⟨x,h1,?_⟩
  rw[zZ]
  exact⟨x,h2,o7 x⟩
 rw[h]at this;cases this
structure Rnd(c:Ctx)(E:Env)(ops:Array Oper)(us:List Out)(σ0:St)(listed:Array Bool)(a:Act)(w:World):Prop where
 size:listed.size=ops.size
 closed: ∀j o,ops.toList[j]? =some o→listed.getD j false=true→Pre (λi=>listed.getD i false=true) o
 st: ∃σ,pg us σ0 (λj=>listed.getD j false=true) σ∧Inv c E σ a w
theorem ze{listed:Array Bool}{j:Nat}(h:j<listed.size)(d:Bool):listed.getD j d=listed.getD j false:=by
 simp[Array.getD,h]
theorem KF(hE:p8 P E){ops:Array Oper}{us:List Out}{σ0 σn:St}{α:Type}(x0:α)(hl:us.length=ops.toList.length)
  (hpt: ∀(j:Nat) (u:Out) (o:Oper),us[j]? =some u→ops.toList[j]? =some o→Pt E ops.toList o ((us.take j).foldl (fun σ u=>u.app σ) σ0) u α)
  (hn:σn=us.foldl (fun σ u=>u.app σ) σ0)
  (dU: ∀(j:Nat) (o:Oper),ops.toList[j]? =some o→ ∀e∈o.after,Region.binds .any e=true→e.on<j)
  (Nf: ∀(j:Nat) (o:Oper) (i:Nat) (p:Oper),ops.toList[j]? =some o→ops.toList[i]? =some p→i<j→((tp ops.toList []).getD j 0).testBit i=false→
   (∀d,p.dst=some d→o.dst≠some d∧d∉names ops.toList o)∧(∀d,o.dst=some d→d∉names ops.toList p))
  (Zd: ∀(j:Nat) (u:Out) (i:Nat) (v:Out),us[j]? =some u→us[i]? =some v→i<j→((tp ops.toList []).getD j 0).testBit i=false→
   (∀k∈keys v.ups,k∉u.rd∧k∉keys u.ups)∧(∀k∈v.rd,k∉keys u.ups))
  (hq: ∀a' w',Inv c E σn a' w'→Q .normal a' w'):
  ∀(fuel:Nat) (listed:Array Bool) (a:Act) (w:World),((List.range ops.size).filter λj=> !(listed.getD j false)).length≤fuel→Rnd c E ops us σ0 listed a w→wpAny P .any ops Q fuel listed a w:=by
 have iT: ∀(listed:Array Bool) (a:Act) (w:World),Rnd c E ops us σ0 listed a w→Region.ready .any ops listed=[]→Q .normal a w:=by
  intro listed a w hR ahv
  obtain⟨hs,D2,σ,CY,hI⟩:=hR
  have amD: ∀j,j<ops.size→listed.getD j false=true:=by
   intro j
   induction j using Nat.strongRecOn with
   |_ j ih=>
    intro hj
    by_cases hb:listed.getD j false=true
    ·exact hb
    ·exfalso
     have ho:ops[j]? =some ops[j]:=Mg hj
     have:j∈Region.ready .any ops listed:=by
      rw[mem_ready]
      refine⟨by rw[ze ω];simpa using hb,_,ho,λe he Wv=> ?_⟩
      have hej:=dU j ops[j] (by rw[fR];exact ho) e he Wv
      exact ih e.on hej ω
     rw[ahv]at this
     cases this
  have hσ:σ=σn:=by
   rw[hn]
   have ht:=pg.text us σ0 us.length (aI _)
   rw[fD]at ht
   refine CY.unique ht λj u hj=> ?_
   have Ax:j<us.length:=(sN.1 hj).1
   have hjo:j<ops.size:=by rw[hl,ba]at Ax;exact Ax
   exact⟨λ_=>Ax,λ_=>amD j hjo⟩
  exact hq a w (hσ▸hI)
 intro fuel
 induction fuel with
 |zero=>
  intro listed a w hf hR
  have TE:Region.ready .any ops listed=[]:=by
   rw[List.eq_nil_iff_forall_not_mem]
   intro j hj
   rw[mem_ready]at hj
   obtain⟨h0,o,ho,_⟩:=hj
   have hjs:j<ops.size:=(kP.1 ho).1
   have Ax:j<listed.size:=by rw[hR.size];exact hjs
   rw[ze Ax]at h0
   have lK:j∈(List.range ops.size).filter λj=> !(listed.getD j false):=by
    rw[nh];exact⟨nj.2 hjs,by rw[h0];rfl⟩
   have:((List.range ops.size).filter λj=> !(listed.getD j false))=[]:=qg ω
   rw[this]at lK;cases lK
  exact⟨TE,iT listed a w hR TE⟩
 |succ fuel ih=>
  intro listed a w hf hR
  refine⟨iT listed a w hR,λi hi=> ?_⟩
  have mz:=hi
  rw[mem_ready]at mz
  obtain⟨h0,o,ho,Nd⟩:=mz
  have his:i<ops.size:=(kP.1 ho).1
  have D1:i<listed.size:=by rw[hR.size];exact his
  rw[ze D1]at h0
  obtain⟨hs,D2,σ,CY,hI⟩:=hR
  have Jg:ops.toList[i]? =some o:=by rw[fR];exact ho
  have hiu:i<us.length:=by rw[hl,ba];exact his
  have hu:us[i]? =some us[i]:=bo hiu
  have hPt:=hpt i us[i] o hu Jg
  have hSi: ¬listed.getD i false=true:=by rw[h0];simp
  have Ng: ∀j p,ops.toList[j]? =some p→((j<i∧ ¬listed.getD j false=true)→((tp ops.toList []).getD i 0).testBit j=false)∧((i<j∧listed.getD j false=true)→((tp ops.toList []).getD j 0).testBit i=false):=by
   intro j p hj
   refine⟨λ⟨_,h2⟩=> ?_,λ⟨_,h2⟩=> ?_⟩
   ·rw[←lF]
    intro hb
    exact h2 (forced D2 Jg (.inl Nd) hb)
   ·rw[←lF]
    intro hb
    exact hSi (forced D2 hj (.inr h2) hb)
  have Ww: ∀(j:Nat) (u:Out),us[j]? =some u→ ∃p:Oper,ops.toList[j]? =some p∧u.dst=p.dst:=by
   intro j u hj
   have Ax:j<us.length:=(sN.1 hj).1
   have hp:ops.toList[j]? =some ops.toList[j]:=bo ω
   exact⟨_,hp,(hpt j u _ hj hp).1⟩
  have afL:=pg.text us σ0 i ω
  have hT: ∀t∈names ops.toList o,σ.T t=((us.take i).foldl (fun σ u=>u.app σ) σ0).T t:=by
   intro t ht
   refine CY.Ws afL λj u hj hd=> ?_
   obtain⟨p,hp,hpd⟩:=Ww j u hj
   have hpd:p.dst=some t:=by rw[←hpd,hd]
   constructor
   ·intro Nh
    refine Nat.lt_of_not_le λhle=> ?_
    rcases Nat.lt_or_eq_of_le hle with xb|heq
    ·exact(Nf j p i o hp Jg xb ((Ng j p hp).2 ⟨xb,Nh⟩)).2 t hpd ht
    ·subst heq;exact hSi Nh
   ·intro zf
    by_cases Nh:listed.getD j false=true
    ·exact Nh
    ·exact absurd ht ((Nf i o j p Jg hp zf ((Ng j p hp).1 ⟨zf,Nh⟩)).1 t hpd).2
  have hH:Ag us[i].rd ((us.take i).foldl (fun σ u=>u.app σ) σ0).H σ.H:=by
   intro k hk
   refine CY.Wt afL λj u hj hd=> ?_
   obtain⟨p,hp,hpd⟩:=Ww j u hj
   constructor
   ·intro Nh
    refine Nat.lt_of_not_le λhle=> ?_
    rcases Nat.lt_or_eq_of_le hle with xb|heq
    ·exact(Zd j u i us[i] hj hu xb ((Ng j p hp).2 ⟨xb,Nh⟩)).2 k hk hd
    ·subst heq;exact hSi Nh
   ·intro zf
    by_cases Nh:listed.getD j false=true
    ·exact Nh
    ·exact absurd hk ((Zd i us[i] j u hu hj zf ((Ng j p hp).1 ⟨zf,Nh⟩)).1 k hd).1
  have amE:=hPt.2 σ hT hH
  have hIs:pg us σ0 (λj=>j=i∨listed.getD j false=true) (us[i].app σ):=by
   refine CY.step hu λj u hj Nh mj=> ?_
   obtain⟨p,hp,hpd⟩:=Ww j u hj
   have Ea:=(Ng j p hp).2 ⟨mj,Nh⟩
   obtain⟨h1,h2⟩:=Nf j p i o hp Jg mj Ea
   obtain⟨h3,h4⟩:=Zd j u i us[i] hj hu mj Ea
   refine⟨λt ht=> ?_,λk hk=>(h3 k hk).2⟩
   rw[hpd]
   exact(h1 t (by rw[←hPt.1];exact ht)).1
  have AN: ∀j,(listed.setIfInBounds i true).getD j false=true↔(j=i∨listed.getD j false=true):=by
   intro j
   by_cases zf:j=i
   ·subst zf
    constructor
    ·intro _;exact .inl rfl
    ·intro _;simp[D1]
   ·rw[getD_set_ne false (dz zf)]
    exact⟨.inr,λh=>h.resolve_left zf⟩
  classical
  let K':St→List Nat→List Nat→Option α:=fun σ' _ _=>if σ'=us[i].app σ then some x0 else none
  have hK:tY E ops.toList o σ K'=some x0:=by rw[amE K'];simp[K']
  have:=C9 (Q:=Q) (next:=wpAny P .any ops Q fuel (listed.setIfInBounds i true)) hE hI hK (fun σ' a' w' rd wr hσ' yR=>by
   have hσ'':σ'=us[i].app σ:=by
    by_cases h:σ'=us[i].app σ
    ·exact h
    ·simp[K',h]at hσ'
   subst hσ''
   refine ih _ a' w' ?_ ⟨by simpa using hs,λj p hp Nh e he hb=> ?_,_,hIs.congr (λj=>(AN j).symm),yR⟩
   ·have hlen:((List.range ops.size).filter λj=> !((listed.setIfInBounds i true).getD j false)).length<((List.range ops.size).filter λj=> !(listed.getD j false)).length:=by
     have TF:((List.range ops.size).filter λj=> !((listed.setIfInBounds i true).getD j false))=((List.range ops.size).filter λj=> !(listed.getD j false)).filter λj=> !(Nat.beq j i):=by
      rw[List.filter_filter]
      apply List.filter_congr
      intro j _
      by_cases zf:j=i
      ·subst zf
       have h1:=(AN j).2 (.inl rfl)
       rw[h1];simp
      ·have h1:Nat.beq j i=false:=by rw[←lF,wQ];exact zf
       rw[h1,getD_set_ne false (dz zf)];simp
     rw[TF]
     refine List.length_filter_lt_length_iff_exists.2 ⟨i,?_,by simp⟩
     rw[nh];exact⟨nj.2 his,by rw[h0];rfl⟩
    omega
   ·rcases(AN j).1 Nh with rfl|Nh
    ·rw[Jg]at hp;cases hp
     exact(AN _).2 (.inr (Nd e he hb))
    ·exact(AN _).2 (.inr (D2 j p hp Nh e he hb)))
  unfold wpOp
  rw[ho]
  simp only
  split
  ·rename_i hw;rw[ak hw]at this;exact .inl this
  ·rename_i hw;rw[ah hw]at this;exact this
theorem IA(hE:p8 P E){id:Nat}{ops:Array Oper}{draw:Bool}(hI:Inv c E σ a w){K:St→Option α}(h:EA E ops draw σ K=some r)
  (hn: ∀σ' a' w',K σ'=some r→Inv c E σ' a' w'→Q .normal a' w'):(Code.region id ops draw).wp P Q a w:=by
 cases draw
 ·refine wp_region_list (Ga hE ops.toList 0 σ [] a w _ hI h fun σ' lg' a' w' h' yR=> ?_)
  exact hn σ' a' w' (bN h').2 yR
 ·unfold EA at h
  obtain⟨us,hl,hpt,lg,hK,_,amF⟩:=R5 _ _ _ _ _ h
  obtain⟨hok,hK⟩:=bN hK
  simp only[bR,tR,bQ]at hok
  obtain⟨Nf,Zd⟩:=hok
  unfold VH at Nf
  simp only[bQ,q6]at Nf
  obtain⟨asm,asn⟩:=Nf
  have hz: ∀j o,ops.toList[j]? =some o→(o,j)∈ops.toList.zipIdx:=λj o hj=>List.mem_zipIdx_iff_getElem?.2 hj
  refine wp_region_any hE.mixed (KF (Q:=Q) (σ0:=σ) hE r hl hpt rfl (λj o hj e he Wv=> ?_) (λj o i p hj hi mj hb=> ?_) (λj u i v hj hi mj hb=> ?_) (λa' w' yR=>hn _ a' w' hK yR) ops.size (Array.replicate ops.size false) a _ ?_ ?_)
  ·have:=asm (o,j) (hz j o hj) e (by simpa using he)
   rw[Wv]at this
   simpa [Ai]using this
  ·have:=asn (o,j) (hz j o hj) (p,i) (hz i p hi)
   simp only[hb,tS,ni,qZ,Bool.or_eq_false_iff]at this
   have Io: ¬Nat.ble j i=true:=by rw[Aj];omega
   have this:=this.resolve_left Io
   refine⟨λd hd=>⟨λZZ=> ?_,λZZ=> ?_⟩,λd hd ZZ=> ?_⟩
   ·exact mO this.1 (x:=d) (by simp[hd]) (by simp[ZZ])
   ·exact mO this.1 (x:=d) (by simp[hd]) (by simp[ZZ])
   ·exact mO this.2 (x:=d) (by simp[hd]) ZZ
  ·unfold afp at Zd
   simp only[q6]at Zd
   have Qq:=amF j u hj
   have mz:=amF i v hi
   rw[fh]at Qq mz
   have:=Zd _ Qq _ mz
   simp only[hb,tS,ni,qZ,Bool.or_eq_false_iff]at this
   have Io: ¬Nat.ble j i=true:=by rw[Aj];omega
   have this:=this.resolve_left Io
   refine⟨λk hk=>⟨λrz=> ?_,λrz=> ?_⟩,λk hk rz=> ?_⟩
   ·exact mO this.1 (x:=k) hk (cA _ rz)
   ·exact mO this.1 (x:=k) hk (cS _ rz)
   ·exact mO this.2 (x:=k) hk rz
  ·refine ca (Mn _ _) ?_
   rw[ng];exact aI _
  ·have hf: ∀j,(Array.replicate ops.size false).getD j false=false:=by
    intro j
    rw[sM,Array.getElem?_replicate]
    split<;>rfl
   obtain⟨⟨d,M,ν,hle,hc,D9⟩,hs,hd,xg⟩:=hI
   refine⟨by simp,λj o _ hS=>(by rw[hf]at hS;cases hS),σ,(pg.start us σ).congr (λj=>(by rw[hf];simp)),⟨d,M,ν,hle,hc.tr (Tr.drew hc.mem),D9⟩,hs,hd,xg⟩
theorem Dc{L:Option (List (Nat×CM))}(hL: ∀L',L=some L'→kk L'=true){b:Code}{Q:Exit→Act→World→Prop}{step:St→(St→Option α)→Option α}
  (hs: ∀σ a w kn (Q':Exit→Act→World→Prop),Inv c E σ a w→step σ kn=some r→(∀σ' a' w',kn σ'=some r→Inv c E σ' a' w'→Q' .normal a' w')→(∀e a' w',e≠ .normal→Q e a' w'→Q' e a' w')→b.wp P Q' a w):
  ∀n σ a w,Inv c E σ a w→CR L step n σ=some r→Code.rounds P b Q n a w
 |0,σ,a,w,_,h=>by cases h
 |n+1,σ,a,w,hI,h=>by
  rw[rounds_succ]
  refine hs σ a w _ _ hI h (fun σ' a' w' h' yR=> ?_) (λe a' w' he hq=> ?_)
  ·obtain⟨σ'',Kz,ahx⟩:=zb yR hL h'
   exact Dc hL hs n σ'' a' w' ahx Kz
  ·cases e<;>first|exact hq|exact absurd rfl he
theorem TU(hE:p8 P E): ∀(cd:Code) (σ:St) (a:Act) (w:World) (k:St→Option α) (kx:Nat→St→Option α) (kr:St→Option α) (Q:Exit→Act→World→Prop),Inv c E σ a w→EB E cd σ k kx kr=some r→
  (∀σ' a' w',k σ'=some r→Inv c E σ' a' w'→Q .normal a' w')→(∀i σ' a' w',kx i σ'=some r→Inv c E σ' a' w'→Q (.exit i) a' w')→(∀σ' a' w',kr σ'=some r→Inv c E σ' a' w'→Q .ret a' w')→cd.wp P Q a w:=by
 intro cd
 induction cd with
 |skip=>intro σ a w k kx kr Q hI h hk _ _;exact wp_skip (hk σ a w h hI)
 |region id ops draw=>intro σ a w k kx kr Q hI h hk _ _;exact IA hE hI h hk
 |seq x y ihx ihy=>
  intro σ a w k kx kr Q hI h hk hx hr
  refine wp_seq (ihx σ a w _ kx kr _ hI h (fun σ' a' w' h' yR=> ?_) hx hr)
  obtain⟨σ'',Kz,ahx⟩:=zb yR (λL' hL=>by
   cases hf:cI y with
   |none=>rw[hf]at hL;cases hL
   |some i=>rw[hf]at hL;exact hE.Wb i L' hL) h'
  exact ihy σ'' a' w' k kx kr Q ahx Kz hk hx hr
 |cond x t e iht ihe=>
  intro σ a w k kx kr Q hI h hk hx hr
  obtain⟨b,hb,h⟩:=M6 (E:=E) (A:=fun σ'=>EB E t σ' k kx kr) (B:=fun σ'=>EB E e σ' k kx kr) hI h
  refine wp_cond hb ?_
  cases b
  ·exact ihe σ a w k kx kr Q hI h hk hx hr
  ·exact iht σ a w k kx kr Q hI h hk hx hr
 |block id x ih=>
  intro σ a w k kx kr Q hI h hk hx hr
  refine wp_block (ih σ a w k _ kr _ hI h hk (λi σ' a' w' h' yR=> ?_) hr)
  show if i=id then Q .normal a' w' else Q (.exit i) a' w'
  cases hb:Nat.beq i id
  ·have ij:i≠id:=λe=>by subst e;rw[show Nat.beq i i=true from o7 i]at hb;cases hb
   rw[hb]at h'
   rw[ah ij]
   exact hx i σ' a' w' h' yR
  ·rw[hb]at h'
   rw[ak (eK hb)]
   exact hk σ' a' w' h' yR
 |loop b ih=>
  intro σ a w k kx kr Q hI h hk hx hr
  have hL: ∀L',(cI b).bind E.wT=some L'→kk L'=true:=λL' hL=>by
   cases hf:cI b with
   |none=>rw[hf]at hL;cases hL
   |some i=>rw[hf]at hL;exact hE.kk i L' hL
  obtain⟨σ',h',yR⟩:=zb hI hL h
  refine wp_loop_rounds E.N (Dc hL (fun σ a w kn Q' hI h MZ hq=> ?_) E.N σ' a w yR h')
  exact ih σ a w kn kx kr Q' hI h MZ (λi σ' a' w' h' yR=>hq _ _ _ (by simp) (hx i σ' a' w' h' yR)) (fun σ' a' w' h' yR=>hq _ _ _ (by simp) (hr σ' a' w' h' yR))
 |rangeFunc f ps x y ihx ihy=>intro σ a w k kx kr Q hI h;cases h
 |exit id=>intro σ a w k kx kr Q hI h hk hx hr;exact wp_exit (hx id σ a w h hI)
 |scope x ih=>
  intro σ a w k kx kr Q hI h hk hx hr
  exact wp_scope_straight (ih σ a w k kx kr _ hI h hk hx hr)
 |label l=>intro σ a w k kx kr Q hI h hk _ _;exact wp_label (hk σ a w h hI)
 |goto l=>intro σ a w k kx kr Q hI h;cases h
 |ret=>intro σ a w k kx kr Q hI h hk hx hr;exact wp_ret (hr σ a w h hI)
 |refuse s=>intro σ a w k kx kr Q hI h;cases h
end VM
end
