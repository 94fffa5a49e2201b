/- A part of the proof of BookTurned of layer 18: a machine that reads a function of the program as an equation between values. -/
import Derived.Test.YthkjjlcblhbifaaGreatVm5
set_option linter.all false
open List renaming getD→γ
section
namespace VM
open Go
variable{α:Type}{r:α}
theorem OJ{m:AM}{a:bG}{H:Nat→Option br}{k:m.den→(Nat→Option br)→List Nat→js→js→List (Nat×AM)→Option α}(h:oY m a H k=some r):
  ∃y rd uo uf io,∃g:(Nat→Option br)→(Nat→Option br),k y (g H) rd uo uf io=some r∧(∀H' i,H' i=H i→g H' i=g H i)∧
   ∀H',Ag rd H H'→ ∀k':m.den→(Nat→Option br)→List Nat→js→js→List (Nat×AM)→Option α,oY m a H' k'=k' y (g H') rd uo uf io:=by
 have OK: ∀(d:Nat) (v:Option br) (H':Nat→Option br) (i:Nat),H' i=H i→cm H' d v i=cm H d v i:=by
  intro d v H' i hi
  by_cases bl:i=d
  ·subst bl;rw[ay,ay]
  ·rw[az _ _ bl,az _ _ bl,hi]
 unfold oY at h
 split at h
 ·rename_i τ k
  obtain⟨y,rd,ups,h1,h2⟩:=pK h
  cases ups with
  |nil=>
   refine⟨y,rd,[],[],[],λH=>H,h1,λ_ _ h=>h,λH' hA k'=> ?_⟩
   unfold oY;simp only;rw[h2 H' hA]
  |cons u rest=>
   refine⟨y,rd,[],u::rest,[],λH=>cm H u.1 u.2,h1,λH' i hi=>OK _ _ H' i hi,λH' hA k'=> ?_⟩
   unfold oY;simp only;rw[h2 H' hA]
 ·rename_i e k
  split at h
  ·exact⟨[],[],[],[],[],λH=>H,h,λ_ _ h=>h,λ_ _ _=>rfl⟩
  ·rename_i id
   split at h
   ·rename_i e' l bl
    obtain⟨z,h1,h2⟩:=dK h
    refine⟨z,[id],_,_,_,λH=>cm H id (some .gone),h1,λH' i hi=>OK _ _ H' i hi,λH' hA k'=> ?_⟩
    unfold oY;simp only;rw[hA id (by simp),bl];simp only;rw[h2]
   ·cases h
  ·cases h
 ·rename_i τ k
  split at h
  ·rename_i id
   split at h
   ·rename_i υ x bl
    obtain⟨z,h1,h2⟩:=dK h
    refine⟨z,[id],_,_,_,λH=>cm H id (some .gone),h1,λH' i hi=>OK _ _ H' i hi,λH' hA k'=> ?_⟩
    unfold oY;simp only;rw[hA id (by simp),bl];simp only;rw[h2]
   ·cases h
  ·cases h
 ·rename_i f τ k
  split at h
  ·rename_i f' cs
   obtain⟨h1,h2⟩:=eK h
   obtain⟨x,rd,ups,h3,h4⟩:=OI h1
   cases ups with
   |nil=>
    refine⟨x,rd,[],[],[],λH=>H,h3,λ_ _ h=>h,λH' hA k'=> ?_⟩
    unfold oY;simp only;rw[h2,h4 H' hA]
   |cons _ _=>cases h3
  ·cases h
 ·cases h
 ·rename_i τ k
  split at h
  ·obtain⟨z,h1,h2⟩:=dK h
   refine⟨z,[],[],[],[],λH=>H,h1,λ_ _ h=>h,λH' hA k'=> ?_⟩
   unfold oY;simp only;rw[h2]
  ·cases h
 ·rename_i e k
  split at h
  ·rename_i id
   split at h
   ·rename_i e' l bl
    obtain⟨z,h1,h2⟩:=dK h
    refine⟨z,[id],_,_,_,λH=>cm H id (some .gone),h1,λH' i hi=>OK _ _ H' i hi,λH' hA k'=> ?_⟩
    unfold oY;simp only;rw[hA id (by simp),bl];simp only;rw[h2]
   ·cases h
  ·cases h
 ·cases h
theorem OL: ∀{ms:List AM} {qX:List bG} {H:Nat→Option br} {Ko:List Nat} {uo0 uf0:js} {io0:List (Nat×AM)} {K:HP ms→List Nat→js→js→List (Nat×AM)→Option α},uK ms qX H Ko uo0 uf0 io0 K=some r→
  ∃x rd uo uf io,K x rd uo uf io=some r∧(∀i∈Ko,i∈rd)∧ ∀H',Ag rd H H'→ ∀K':HP ms→List Nat→js→js→List (Nat×AM)→Option α,uK ms qX H' Ko uo0 uf0 io0 K'=K' x rd uo uf io
 |[],[],H,Ko,uo0,uf0,io0,K,h=>⟨(),_,_,_,_,h,λ_ h=>h,λ_ _ _=>rfl⟩
 |[m],[a],H,Ko,uo0,uf0,io0,K,h=>by
  obtain⟨y,rd,uo,uf,io,g,h1,h2,h3⟩:=OJ (h:oY m a H _=some r)
  exact⟨y,_,_,_,_,h1,λi hi=>dD _ hi,λH' hA K'=>h3 H' (λi hi=>hA i (cX _ hi)) _⟩
 |m::n::ms,a::qX,H,Ko,uo0,uf0,io0,K,h=>by
  obtain⟨y,rd,uo,uf,io,g,h1,h2,h3⟩:=OJ (h:oY m a H _=some r)
  obtain⟨ys,yK,Nx,Ny,Ji,h4,h5,h6⟩:=OL (ms:=n::ms) h1
  refine⟨(y,ys),yK,Nx,Ny,Ji,h4,λi hi=>h5 i (dD _ hi),λH' hA K'=> ?_⟩
  refine(h3 H' (λi hi=>hA i (h5 i (cX _ hi))) _).trans ?_
  exact h6 (g H') (λi hi=>h2 H' i (hA i hi)) _
 |[],_::_,_,_,_,_,_,_,h=>by simp[uK]at h
 |[_],[],_,_,_,_,_,_,h=>by simp[uK]at h
 |[_],_::_::_,_,_,_,_,_,_,h=>by simp[uK]at h
 |_::_::_,[],_,_,_,_,_,_,h=>by simp[uK]at h
theorem YM{id i:Nat}: ∀{n:Nat},i∈Od id n↔id≤i∧i<id+n
 |0=>by simp[Od]
 |n+1=>by simp only[Od,bh,YM];omega
theorem zE{H H':Nat→Option br}{id:Nat}: ∀{n:Nat},(∀i∈Od id n,H' i=H i)→vy H' id n=vy H id n
 |0,_=>rfl
 |n+1,h=>by
  unfold vy
  rw[h (id+n) (by simp[Od]),zE λi hi=>h i (by simp[Od,hi])]
theorem YN{E:Env}{f id:Nat}{qX:List bG}{H:Nat→Option br}{K:gS α}(h:DO E f qX id H K=some r): ∃v rd ups,K v rd ups=some r∧ ∀H',Ag rd H H'→ ∀K':gS α,DO E f qX id H' K'=K' v rd ups:=by
 unfold DO at h
 split at h
 ·cases h
 ·rename_i S hS
  obtain⟨x,rd,uo,uf,io,h1,_,h2⟩:=OL h
  obtain⟨y,hy,h3⟩:=ux.1 h1
  obtain⟨h4,h5⟩:=cG h3
  refine⟨_,_,_,h5,λH' hA K'=> ?_⟩
  unfold DO
  rw[hS]
  simp only
  rw[h2 H' (λi hi=>hA i (dD _ (dD _ hi))),hy]
  simp only[ar]
  rw[zE (λi hi=>hA i (cX _ hi)),h4]
  rfl
theorem VT{t:Ty}{z:Bool}{a:bG}{lo hi mx:Option bG}{H:Nat→Option br}{K:gS α}(h:si t z a lo hi mx H K=some r): ∃v rd ups,K v rd ups=some r∧ ∀H',Ag rd H H'→ ∀K':gS α,si t z a lo hi mx H' K'=K' v rd ups:=by
 unfold si at h
 split at h
 ·obtain⟨h1,e1⟩:=eK h
  obtain⟨l,h2,e2⟩:=vI h1
  obtain⟨m,h3,e3⟩:=vI h2
  obtain⟨h4,e4⟩:=eK h3
  exact⟨_,_,_,h4,λH' _ K'=>by unfold si;simp only;rw[e1,e2,e3,e4]⟩
 ·cases z
  ·obtain⟨h1,e1⟩:=eK (h:cond mx.isNone _ none=some r)
   obtain⟨l,h2,e2⟩:=vI h1
   obtain⟨m,h3,e3⟩:=vI h2
   obtain⟨h4,e4⟩:=eK h3
   exact⟨_,_,_,h4,λH' _ K'=>by unfold si;simp only[av];rw[e1,e2,e3,e4]⟩
  ·exact⟨_,_,_,h,λH' _ K'=>by unfold si;rfl⟩
 ·rename_i e kN
  obtain⟨y,rd,ups,h1,e1⟩:=pK h
  cases z
  ·obtain⟨h2,e2⟩:=eK (h1:cond (mx.isNone||hi.isSome) _ none=some r)
   obtain⟨l,h3,e3⟩:=vI h2
   obtain⟨m,h4,e4⟩:=vI h3
   obtain⟨n,h5,e5⟩:=vI h4
   obtain⟨h6,e6⟩:=eK h5
   refine⟨_,_,_,h6,λH' hA K'=> ?_⟩
   unfold si
   simp only
   rw[e1 H' hA]
   simp only[av]
   rw[e2,e3,e4,e5,e6]
  ·refine⟨_,_,_,(h1:K .emp rd []=some r),λH' hA K'=> ?_⟩
   unfold si
   simp only
   rw[e1 H' hA]
   rfl
 ·cases h
theorem JL{τ:Ty}{a i:bG}{H:Nat→Option br}{K:gS α}(h:ic τ a i H K=some r): ∃v rd ups,K v rd ups=some r∧ ∀H',Ag rd H H'→ ∀K':gS α,ic τ a i H' K'=K' v rd ups:=by
 unfold ic at h
 obtain⟨k,n,h,e0⟩:=q5 h
 split at h
 ·split at h
  ·obtain⟨z,h1,e1⟩:=dK h
   obtain⟨h2,e2⟩:=eK h1
   exact⟨_,_,_,h2,λH' _ K'=>by unfold ic;rw[e0];simp only;rw[e1,e2]⟩
  ·split at h
   ·rename_i bl
    obtain⟨h1,e1⟩:=gP h
    obtain⟨h2,e2⟩:=eK h1
    exact⟨_,_,_,h2,λH' hA K'=>by unfold ic;rw[e0];simp only;rw[hA _ (by simp),bl];simp only;rw[e1,e2]⟩
   ·rename_i bl
    obtain⟨h1,e1⟩:=gP h
    obtain⟨h2,e2⟩:=eK h1
    exact⟨_,_,_,h2,λH' hA K'=>by unfold ic;rw[e0];simp only;rw[hA _ (by simp),bl];simp only;rw[e1,e2]⟩
   ·cases h
  ·cases h
 ·split at h
  ·obtain⟨υ,h1,e1⟩:=yU h
   obtain⟨h2,e2⟩:=gP h1
   obtain⟨h3,e3⟩:=eK h2
   exact⟨_,_,_,h3,λH' hA K'=>by unfold ic;rw[e0];simp only;rw[e1 H' (hA _ (by simp)),e2,e3]⟩
  ·obtain⟨z,h1,e1⟩:=dK h
   obtain⟨h2,e2⟩:=eK h1
   exact⟨_,_,_,h2,λH' _ K'=>by unfold ic;rw[e0];simp only;rw[e1,e2]⟩
  ·cases h
 ·cases h
theorem VU{τ:Ty}{a i:bG}{K:bG→Option α}(h:xx τ a i K=some r): ∃v,K v=some r∧ ∀K':bG→Option α,xx τ a i K'=K' v:=by
 unfold xx at h
 obtain⟨k,n,h,e0⟩:=q5 h
 split at h
 ·obtain⟨z,h1,e1⟩:=dK h
  obtain⟨h2,e2⟩:=eK h1
  exact⟨_,h2,λK'=>by unfold xx;rw[e0];simp only;rw[e1,e2]⟩
 ·obtain⟨h2,e2⟩:=eK h
  exact⟨_,h2,λK'=>by unfold xx;rw[e0];simp only;rw[e2]⟩
 ·cases h
theorem YO{a:bG}{H:Nat→Option br}{K:(υ:Ty)→υ.den→List Nat→Option α}(h:lY a H K=some r): ∃υ y rd,K υ y rd=some r∧ ∀H',Ag rd H H'→ ∀K':(υ:Ty)→υ.den→List Nat→Option α,lY a H' K'=K' υ y rd:=by
 unfold lY at h
 split at h
 ·exact⟨_,_,_,h,λ_ _ _=>rfl⟩
 ·split at h
  ·rename_i bl
   obtain⟨υ,y,h1,e1⟩:=iK h
   exact⟨_,_,_,h1,λH' hA K'=>by unfold lY;simp only;rw[hA _ (by simp),bl];simp only;rw[e1]⟩
  ·rename_i bl
   split at h
   ·obtain⟨υ,y,h1,e1⟩:=iK h
    exact⟨_,_,_,h1,λH' hA K'=>by unfold lY;simp only;rw[hA _ (by simp),bl];simp only;rw[e1]⟩
   ·cases h
  ·rename_i bl
   split at h
   ·obtain⟨υ,y,h1,e1⟩:=iK h
    exact⟨_,_,_,h1,λH' hA K'=>by unfold lY;simp only;rw[hA _ (by simp),bl];simp only;rw[e1]⟩
   ·cases h
  ·cases h
 ·cases h
theorem VV{τ:Ty}{a v:bG}{H:Nat→Option br}{K:gS α}(h:ng τ a v H K=some r): ∃u rd ups,K u rd ups=some r∧ ∀H',Ag rd H H'→ ∀K':gS α,ng τ a v H' K'=K' u rd ups:=by
 unfold ng at h
 split at h
 ·obtain⟨y,rd,ups,h1,e1⟩:=pK h
  split at h1
  ·rename_i bl
   obtain⟨z,h2,e2⟩:=pJ h1
   exact⟨_,_,_,h2,λH' hA K'=>by
    unfold ng;simp only
    rw[e1 H' (λi hi=>hA i (ba _ hi))]
    rw[hA _ (by simp),bl];simp only;rw[e2]⟩
  ·rename_i bl
   split at h1
   ·obtain⟨h2,e2⟩:=uS h1
    obtain⟨z,h3,e3⟩:=pJ h2
    exact⟨_,_,_,h3,λH' hA K'=>by
     unfold ng;simp only
     rw[e1 H' (λi hi=>hA i (ba _ hi))]
     rw[hA _ (by simp),bl];simp only;rw[e2,e3]⟩
   ·cases h1
  ·cases h1
 ·cases h
theorem Uh{j:Nat}{q:List Step}{τ:Ty}{x:τ.den}{H:Nat→Option br}{k:τ.den→js→Option α}(h:CD j q τ x H k=some r): ∃z ups,k z ups=some r∧ ∀H',H' j=H j→ ∀k':τ.den→js→Option α,CD j q τ x H' k'=k' z ups:=by
 unfold CD at h
 split at h
 ·rename_i hj
  obtain⟨z,h1,e1⟩:=pJ h
  exact⟨_,_,h1,λH' hA k'=>by unfold CD;rw[hA,hj];simp only;rw[e1]⟩
 ·rename_i hj
  obtain⟨z,h1,e1⟩:=pJ h
  exact⟨_,_,h1,λH' hA k'=>by unfold CD;rw[hA,hj];simp only;rw[e1]⟩
 ·cases h
abbrev Pts(F:(Nat→Option br)→gS α→Option α)(H:Nat→Option br)(K:gS α)(r:α):Prop:=
 ∃v rd ups,K v rd ups=some r∧ ∀H',Ag rd H H'→ ∀K':gS α,F H' K'=K' v rd ups
theorem YP{τ:Ty}{a:bG}{H:Nat→Option br}{K:gS α}(h:(lY a H fun υ y rd=>cR υ τ y λz=>K (.val τ z) rd [])=some r):
  Pts (λH K=>lY a H fun υ y rd=>cR υ τ y λz=>K (.val τ z) rd []) H K r:=by
 obtain⟨υ,y,rd,h1,e1⟩:=YO h
 obtain⟨z,h2,e2⟩:=dK h1
 exact⟨_,_,_,h2,λH' hA K'=>by simp only;rw[e1 H' hA,e2]⟩
theorem apz{id:Nat}{p:List Step}{H:Nat→Option br}{K:(υ:Ty)→υ.den→List Nat→Option α}(h:lY (.jf id p) H K=some r): ∃υ y,K υ y [id]=some r:=by
 unfold lY at h
 simp only at h
 split at h
 ·obtain⟨υ,y,h1,_⟩:=iK h;exact⟨υ,y,h1⟩
 ·split at h
  ·obtain⟨υ,y,h1,_⟩:=iK h;exact⟨υ,y,h1⟩
  ·cases h
 ·split at h
  ·obtain⟨υ,y,h1,_⟩:=iK h;exact⟨υ,y,h1⟩
  ·cases h
 ·cases h
theorem YQ{τ:Ty}{id:Nat}{p:List Step}{H:Nat→Option br}{K:gS α}(h:(lY (.jf id p) H fun υ y rd=>cR υ τ y λz=>K (.val τ z) rd [])=some r):
  ∃z,K (.val τ z) [id] []=some r∧ ∀H',H' id=H id→ ∀K':gS α,(lY (.jf id p) H' fun υ y rd=>cR υ τ y λz=>K' (.val τ z) rd [])=K' (.val τ z) [id] []:=by
 unfold lY at h
 simp only at h
 split at h
 ·rename_i bl
  obtain⟨υ,y,h1,e1⟩:=iK h
  obtain⟨z,h2,e2⟩:=dK h1
  exact⟨_,h2,λH' hA K'=>by unfold lY;simp only;rw[hA,bl];simp only;rw[e1,e2]⟩
 ·rename_i bl
  split at h
  ·obtain⟨υ,y,h1,e1⟩:=iK h
   obtain⟨z,h2,e2⟩:=dK h1
   exact⟨_,h2,λH' hA K'=>by unfold lY;simp only;rw[hA,bl];simp only;rw[e1,e2]⟩
  ·cases h
 ·rename_i bl
  split at h
  ·obtain⟨υ,y,h1,e1⟩:=iK h
   obtain⟨z,h2,e2⟩:=dK h1
   exact⟨_,h2,λH' hA K'=>by unfold lY;simp only;rw[hA,bl];simp only;rw[e1,e2]⟩
  ·cases h
 ·cases h
theorem OM{τ:Ty}{a:bG}{H:Nat→Option br}{K:gS α}(h:uM τ a H K=some r):Pts (uM τ a) H K r:=by
 unfold uM at h
 simp only at h
 split at h
 ·rename_i id p
  split at h
  ·rename_i υ x q j bl
   cases hp:Jx p q
   ·cases Jk:zi p q
    ·rw[hp,Jk]at h
     simp only[av]at h
     obtain⟨υ',y,h1,e1⟩:=iK h
     obtain⟨z,h2,e2⟩:=dK h1
     exact⟨_,_,_,h2,λH' hA K'=>by
      unfold uM;simp only;rw[hA id (by simp),bl];simp only
      rw[hp,Jk];simp only[av];rw[e1,e2]⟩
    ·rw[hp,Jk]at h
     simp only[av,aj]at h
     obtain⟨z,ups,h1,e1⟩:=Uh h
     obtain⟨υ',y,h2,e2⟩:=iK h1
     obtain⟨z',h3,e3⟩:=dK h2
     exact⟨_,_,_,h3,λH' hA K'=>by
      unfold uM;simp only;rw[hA id (by simp),bl];simp only
      rw[hp,Jk];simp only[av,aj];rw[e1 H' (hA j (by simp)),e2,e3]⟩
   ·rw[hp]at h
    simp only[aj]at h
    obtain⟨h1,e1⟩:=eK h
    exact⟨_,_,_,h1,λH' hA K'=>by
     unfold uM;simp only;rw[hA id (by simp),bl];simp only
     rw[hp];simp only[aj];rw[e1]⟩
  ·rename_i qy
   obtain⟨z,h1,e1⟩:=YQ h
   refine⟨_,_,_,h1,λH' hA K'=> ?_⟩
   unfold uM;simp only;rw[hA id (by simp)]
   split
   ·rename_i bl;exact absurd bl (qy _ _ _ _)
   ·exact e1 H' (hA id (by simp)) K'
 ·rename_i qy
  obtain⟨v,rd,ups,h1,e1⟩:=YP h
  refine⟨v,rd,ups,h1,λH' hA K'=> ?_⟩
  have:uM τ a H' K'=lY a H' fun υ y rd=>cR υ τ y λz=>K' (.val τ z) rd []:=by
   unfold uM
   cases a<;>first|rfl|exact absurd rfl (qy _ _)
  rw[this]
  exact e1 H' hA K'
theorem BC{τ:Ty}{id k:Nat}{e:Ty}{q:List Step}{υ:Ty}{x:υ.den}{H:Nat→Option br}{K:gS α}(h:zA τ id k e q υ x H K=some r):
  ∃v ups,K v [id,k] ups=some r∧ ∀H',H' k=H k→ ∀K':gS α,zA τ id k e q υ x H' K'=K' v [id,k] ups:=by
 unfold zA at h
 split at h
 ·rename_i bl
  obtain⟨h1,e1⟩:=gP h
  obtain⟨h2,e2⟩:=gP h1
  obtain⟨z,h3,e3⟩:=pJ h2
  exact⟨_,_,h3,λH' hA K'=>by unfold zA;rw[hA,bl];simp only;rw[e1,e2,e3]⟩
 ·cases h
theorem CR{τ:Ty}{id:Nat}{p:List Step}{v:bG}{H:Nat→Option br}{K:gS α}(h:ng τ (.jf id p) v H K=some r):
  ∃u rd ups,id∈rd∧K u rd ups=some r∧ ∀H',Ag rd H H'→ ∀K':gS α,ng τ (.jf id p) v H' K'=K' u rd ups:=by
 unfold ng at h
 simp only at h
 obtain⟨y,rd,ups,h1,e1⟩:=pK h
 split at h1
 ·rename_i bl
  obtain⟨z,h2,e2⟩:=pJ h1
  exact⟨_,_,_,by simp,h2,λH' hA K'=>by
   unfold ng;simp only
   rw[e1 H' (λi hi=>hA i (ba _ hi))]
   rw[hA _ (by simp),bl];simp only;rw[e2]⟩
 ·rename_i bl
  split at h1
  ·obtain⟨h2,e2⟩:=uS h1
   obtain⟨z,h3,e3⟩:=pJ h2
   exact⟨_,_,_,by simp,h3,λH' hA K'=>by
    unfold ng;simp only
    rw[e1 H' (λi hi=>hA i (ba _ hi))]
    rw[hA _ (by simp),bl];simp only;rw[e2,e3]⟩
  ·cases h1
 ·cases h1
theorem CS{E:Env}{τ:Ty}{a v:bG}{H:Nat→Option br}{K:gS α}(h:kV E τ a v H K=some r):
  ∃u rd ups,K u rd ups=some r∧ ∀H',Ag rd H H'→ ∀K':gS α,kV E τ a v H' K'=K' u rd ups:=by
 have h0:=h
 unfold kV at h
 simp only at h
 split at h
 ·rename_i id p
  split at h
  ·rename_i υ x bl
   split at h
   ·rename_i q e k qQ
    cases hp:Jx p q
    ·rw[hp]at h
     simp only[av]at h
     obtain⟨u,rd,ups,hi,h1,e1⟩:=CR h
     refine⟨u,rd,ups,h1,λH' hA K'=> ?_⟩
     unfold kV;simp only;rw[hA id hi,bl];simp only;rw[qQ];simp only;rw[hp];simp only[av]
     exact e1 H' hA K'
    ·rw[hp]at h
     simp only[aj]at h
     obtain⟨u,ups,h1,e1⟩:=BC h
     refine⟨u,_,ups,h1,λH' hA K'=> ?_⟩
     unfold kV;simp only;rw[hA id (by simp),bl];simp only;rw[qQ];simp only;rw[hp];simp only[aj]
     exact e1 H' (hA k (by simp)) K'
   ·rename_i qy
    obtain⟨u,rd,ups,hi,h1,e1⟩:=CR h
    refine⟨u,rd,ups,h1,λH' hA K'=> ?_⟩
    unfold kV;simp only;rw[hA id hi,bl];simp only
    exact e1 H' hA K'
  ·rename_i υ x q j bl
   have Br:(nc true v H τ λy rd ups=>wQ τ y p υ x λz=>K .any (id::rd) (ups++[(id,some (cond (zi p q) (.obj υ z) (.gk υ z q j)))]))=some r→
     ∃u rd ups,id∈rd∧K u rd ups=some r∧ ∀H',Ag rd H H'→ ∀K':gS α,(nc true v H' τ λy rd ups=>wQ τ y p υ x λz=>K' .any (id::rd) (ups++[(id,some (cond (zi p q) (.obj υ z) (.gk υ z q j)))]))=K' u rd ups:=by
    intro h
    obtain⟨y,rd,ups,h1,e1⟩:=pK h
    obtain⟨z,h2,e2⟩:=pJ h1
    exact⟨_,_,_,by simp,h2,λH' hA K'=>by rw[e1 H' (λi hi=>hA i (ba _ hi)),e2]⟩
   split at h
   ·rename_i q' e k qQ
    cases hp:(Jx p q&&Jx q q')
    ·rw[hp]at h
     simp only[av]at h
     obtain⟨u,rd,ups,hi,h1,e1⟩:=Br h
     refine⟨u,rd,ups,h1,λH' hA K'=> ?_⟩
     unfold kV;simp only;rw[hA id hi,bl];simp only;rw[qQ];simp only;rw[hp];simp only[av]
     exact e1 H' hA K'
    ·rw[hp]at h
     simp only[aj]at h
     obtain⟨u,ups,h1,e1⟩:=BC h
     refine⟨u,_,ups,h1,λH' hA K'=> ?_⟩
     unfold kV;simp only;rw[hA id (by simp),bl];simp only;rw[qQ];simp only;rw[hp];simp only[aj]
     exact e1 H' (hA k (by simp)) K'
   ·rename_i qy
    obtain⟨u,rd,ups,hi,h1,e1⟩:=Br h
    refine⟨u,rd,ups,h1,λH' hA K'=> ?_⟩
    unfold kV;simp only;rw[hA id hi,bl];simp only
    exact e1 H' hA K'
  ·rename_i avC avD
   obtain⟨u,rd,ups,hi,h1,e1⟩:=CR h
   refine⟨u,rd,ups,h1,λH' hA K'=> ?_⟩
   unfold kV;simp only;rw[hA id hi]
   split
   ·rename_i bl;exact absurd bl (avC _ _)
   ·rename_i bl;exact absurd bl (avD _ _ _ _)
   ·exact e1 H' hA K'
 ·rename_i qy
  obtain⟨u,rd,ups,h1,e1⟩:=VV h
  refine⟨u,rd,ups,h1,λH' hA K'=> ?_⟩
  have:kV E τ a v H' K'=ng τ a v H' K':=by
   unfold kV
   cases a<;>first|rfl|exact absurd rfl (qy _ _)
  rw[this]
  exact e1 H' hA K'
theorem VW{E:Env}{τ:Ty}{a v:bG}{H:Nat→Option br}{K:gS α}(h:ub E τ a v H K=some r):
  ∃u rd ups,K u rd ups=some r∧ ∀H',Ag rd H H'→ ∀K':gS α,ub E τ a v H' K'=K' u rd ups:=by
 unfold ub at h
 split at h
 ·rename_i id υ y n
  split at h
  ·rename_i m e qQ
   cases CI:Nat.beq m n
   ·rw[CI]at h
    simp only[av]at h
    obtain⟨u,rd,ups,h1,e1⟩:=CS h
    exact⟨u,rd,ups,h1,λH' hA K'=>by unfold ub;simp only;rw[qQ];simp only;rw[CI];simp only[av];exact e1 H' hA K'⟩
   ·rw[CI]at h
    simp only[aj]at h
    obtain⟨h1,e1⟩:=gP h
    obtain⟨υ',h2,e2⟩:=yU h1
    obtain⟨h3,e3⟩:=gP h2
    obtain⟨h4,e4⟩:=yV h3
    exact⟨_,_,_,h4,λH' hA K'=>by unfold ub;simp only;rw[qQ];simp only;rw[CI];simp only[aj];rw[e1,e2 H' (hA _ (by simp)),e3,e4 H' (hA _ (by simp))]⟩
  ·rename_i qy
   obtain⟨u,rd,ups,h1,e1⟩:=CS h
   refine⟨u,rd,ups,h1,λH' hA K'=> ?_⟩
   unfold ub;simp only
   exact e1 H' hA K'
 ·rename_i qy
  obtain⟨u,rd,ups,h1,e1⟩:=CS h
  refine⟨u,rd,ups,h1,λH' hA K'=> ?_⟩
  unfold ub
  split
  ·exact absurd rfl (qy _ _ _ _ rfl)
  ·exact e1 H' hA K'
theorem VX{E:Env}{t:Ty}{z:Bool}{a:bG}{lo hi mx:Option bG}{H:Nat→Option br}{K:gS α}(h:xw E t z a lo hi mx H K=some r): ∃v rd ups,K v rd ups=some r∧ ∀H',Ag rd H H'→ ∀K':gS α,xw E t z a lo hi mx H' K'=K' v rd ups:=by
 unfold xw at h
 split at h
 ·rename_i e id lo' hvw
  obtain⟨k,i,h1,e1⟩:=q5 h
  split at h1
  ·rename_i e' l bl
   obtain⟨h2,e2⟩:=gP h1
   obtain⟨h3,e3⟩:=eK h2
   refine⟨_,_,_,h3,λH' hA K'=> ?_⟩
   unfold xw;rw[hvw];simp only
   rw[e1,hA id (by simp),bl];simp only
   rw[e2,e3]
  ·cases h1
 ·rename_i qy
  obtain⟨v,rd,ups,h1,e1⟩:=VT h
  refine⟨v,rd,ups,h1,λH' hA K'=> ?_⟩
  unfold xw
  split
  ·rename_i hvw;exact absurd rfl (qy _ _ _ hvw rfl rfl rfl rfl)
  ·exact e1 H' hA K'
theorem VY{e:Ty}{a:bG}{H:Nat→Option br}{K:gS α}(h:zO e a H K=some r): ∃v rd ups,K v rd ups=some r∧ ∀H',Ag rd H H'→ ∀K':gS α,zO e a H' K'=K' v rd ups:=by
 unfold zO at h
 split at h
 ·rename_i id e' lo
  obtain⟨h1,e1⟩:=gP h
  split at h1
  ·rename_i e2 l bl
   obtain⟨z,h2,e3⟩:=dK h1
   refine⟨_,_,_,h2,λH' hA K'=> ?_⟩
   unfold zO;simp only
   rw[e1,hA id (by simp),bl];simp only
   rw[e3]
  ·cases h1
 ·cases h
theorem CT{E:Env}{τ:Ty}{a v:bG}{H:Nat→Option br}{K:gS α}(h:uc E τ a v H K=some r):
  ∃u rd ups,K u rd ups=some r∧ ∀H',Ag rd H H'→ ∀K':gS α,uc E τ a v H' K'=K' u rd ups:=by
 unfold uc at h
 split at h
 ·rename_i id υ y n j
  split at h
  ·rename_i m e qQ
   obtain⟨h1,e1⟩:=eK h
   obtain⟨h2,e2⟩:=gP h1
   obtain⟨υ',h3,e3⟩:=yU h2
   obtain⟨h4,e4⟩:=gP h3
   split at h4
   ·rename_i e' l hj
    obtain⟨h5,e5⟩:=gP h4
    refine⟨_,_,_,h5,λH' hA K'=> ?_⟩
    unfold uc;simp only;rw[qQ];simp only
    rw[e1,e2,e3 H' (hA _ (by simp)),e4,hA j (by simp),hj];simp only
    rw[e5]
   ·cases h4
  ·cases h
 ·rename_i qy
  obtain⟨u,rd,ups,h1,e1⟩:=VW h
  refine⟨u,rd,ups,h1,λH' hA K'=> ?_⟩
  unfold uc
  split
  ·exact absurd rfl (qy _ _ _ _ _ rfl)
  ·exact e1 H' hA K'
theorem Ui{k:Nat}: ∀(ups:js) {H H':Nat→Option br},H' k=H k→cU H' ups k=cU H ups k
 |[],_,_,h=>h
 |u::r,H,H',h=>by
  show cU (cm H' u.1 u.2) r k=cU (cm H u.1 u.2) r k
  refine Ui r ?_
  by_cases e:k=u.1
  ·subst e;rw[ay,ay]
  ·rw[az _ _ e,az _ _ e,h]
theorem VZ{E:Env}{τ:Ty}{a v:bG}{H:Nat→Option br}{K:gS α}(h:sj E τ a v H K=some r):
  ∃u rd ups,K u rd ups=some r∧ ∀H',Ag rd H H'→ ∀K':gS α,sj E τ a v H' K'=K' u rd ups:=by
 unfold sj at h
 split at h
 ·rename_i id n k
  cases hb:aj6 E id n
  ·rw[hb]at h
   simp only[av]at h
   obtain⟨u,rd,ups,h1,e1⟩:=CT h
   exact⟨u,rd,ups,h1,λH' hA K'=>by unfold sj;simp only;rw[hb];simp only[av];exact e1 H' hA K'⟩
  ·rw[hb]at h
   simp only[aj]at h
   split at h
   ·rename_i υ x q j bl
    cases hp:Jx q [.gM n]
    ·rw[hp]at h
     simp only[av]at h
     split at h
     ·rename_i e R1
      obtain⟨z,ups,h1,e1⟩:=Uh h
      obtain⟨u,ju,h2,e2⟩:=BC h1
      refine⟨_,_,_,h2,λH' hA K'=> ?_⟩
      unfold sj;simp only;rw[hb];simp only[aj]
      rw[hA id (by simp),bl];simp only
      rw[hp];simp only[av]
      rw[R1];simp only
      rw[e1 H' (hA j (by simp)),e2 _ (Ui ups (hA k (by simp)))]
     ·cases h
    ·rw[hp]at h
     simp only[aj]at h
     obtain⟨u,rd,ups,h1,e1⟩:=CT h
     refine⟨_,_,_,h1,λH' hA K'=> ?_⟩
     unfold sj;simp only;rw[hb];simp only[aj]
     rw[hA id (by simp),bl];simp only
     rw[hp];simp only[aj]
     exact e1 H' (λi hi=>hA i (ba _ hi)) _
   ·rename_i υ x bl
    split at h
    ·rename_i e R1
     obtain⟨u,ju,h2,e2⟩:=BC h
     refine⟨_,_,_,h2,λH' hA K'=> ?_⟩
     unfold sj;simp only;rw[hb];simp only[aj]
     rw[hA id (by simp),bl];simp only
     rw[R1];simp only
     exact e2 H' (hA k (by simp)) K'
    ·cases h
   ·cases h
 ·rename_i qy
  obtain⟨u,rd,ups,h1,e1⟩:=CT h
  refine⟨u,rd,ups,h1,λH' hA K'=> ?_⟩
  unfold sj
  split
  ·exact absurd rfl (qy _ _ _ rfl)
  ·exact e1 H' hA K'
theorem YR{E:Env}{τ:Ty}{a:bG}{H:Nat→Option br}{K:gS α}(h:Bc E τ a H K=some r):
  ∃u rd ups,K u rd ups=some r∧ ∀H',Ag rd H H'→ ∀K':gS α,Bc E τ a H' K'=K' u rd ups:=by
 unfold Bc at h
 split at h
 ·rename_i id Vy
  split at h
  ·rename_i υ x n j bl
   obtain⟨z,h1,e1⟩:=dK h
   refine⟨_,_,_,h1,λH' hA K'=> ?_⟩
   unfold Bc;rw[Vy];simp only;rw[hA id (by simp),bl];simp only
   rw[e1]
  ·rename_i qy
   obtain⟨u,rd,ups,h1,e1⟩:=OM h
   refine⟨_,_,_,h1,λH' hA K'=> ?_⟩
   unfold Bc;rw[Vy];simp only;rw[hA id (by simp)]
   split
   ·rename_i bl;exact absurd bl (qy _ _ _ _)
   ·exact e1 H' (λi hi=>hA i (ba _ hi)) _
 ·rename_i qy
  obtain⟨u,rd,ups,h1,e1⟩:=OM h
  refine⟨u,rd,ups,h1,λH' hA K'=> ?_⟩
  unfold Bc
  split
  ·rename_i Vy;exact absurd rfl (qy _ Vy)
  ·exact e1 H' hA K'
theorem Uj{H:Nat→Option br}{id:Nat}{τ:Ty}{x:τ.den}{q:List Step}{e:Ty}{K:gS α}(h:EZ H id τ x q e K=some r):Pts (λH K=>EZ H id τ x q e K) H K r:=by
 obtain⟨h1,h2,h3⟩:=GU h
 exact⟨_,_,_,h3,λH' hA K'=>by unfold EZ se;simp only;rw[hA id (by simp),h1,hA (id+1) (by simp),h2]⟩
theorem akH{E:Env}{o:Oper}{ρ:Operand→bG}{H:Nat→Option br}{K:gS α}(h:tz E o ρ H K=some r):
  ∃v rd ups,K v rd ups=some r∧ ∀ρ' H',(∀x∈o.op.operands,ρ' x=ρ x)→Ag rd H H'→ ∀K':gS α,tz E o ρ' H' K'=K' v rd ups:=by
 obtain⟨dst,op,type,pos,after,guard⟩:=o
 unfold tz at h
 simp only at h
 have acz: ∀{ρ':Operand→bG} (xs:List Operand),(∀x∈xs,ρ' x=ρ x)→xs.map ρ'=xs.map ρ:=λxs hx=>pU hx
 have L9: ∀{ρ':Operand→bG} (ps:Array (Nat×Operand)),(∀x∈ps.map (·.2),ρ' x=ρ x)→partsOf ρ' ps=partsOf ρ ps:=λps hp=>by
  unfold partsOf
  exact pU λp hm=>by rw[hp p.2 (Array.mem_map.2 ⟨p,by simpa using hm,rfl⟩)]
 have akI: ∀{ρ':Operand→bG} (x:Option Operand),(∀y∈x,ρ' y=ρ y)→x.map ρ'=x.map ρ:=λx hx=>by
  cases x with
  |none=>rfl
  |some x=>simp[hx x rfl]
 split at h
 ·
  rename_i x
  exact⟨_,_,_,h,fun ρ' H' hx _ K'=>by unfold tz;simp only;rw[hx x (by simp[Op.operands])]⟩
 ·rename_i x
  exact⟨_,_,_,h,fun ρ' H' hx _ K'=>by unfold tz;simp only;rw[hx x (by simp[Op.operands])]⟩
 ·rename_i x y z
  split at h
  ·rename_i t hx
   cases t
   ·exact⟨_,_,_,(h:K (ρ z) [] []=some r),fun ρ' H' o4 _ K'=>by unfold tz;simp only;rw[o4 x (by simp[Op.operands]),hx,o4 z (by simp[Op.operands])];rfl⟩
   ·exact⟨_,_,_,(h:K (ρ y) [] []=some r),fun ρ' H' o4 _ K'=>by unfold tz;simp only;rw[o4 x (by simp[Op.operands]),hx,o4 y (by simp[Op.operands])];rfl⟩
  ·cases h
 ·
  split at h
  ·rename_i τ ht
   split at h
   ·rename_i q e qQ
    obtain⟨v,rd,ups,h1,e1⟩:=Uj h
    exact⟨_,_,_,h1,fun ρ' H' hx hA K'=>by unfold tz;simp only;rw[ht];simp only;rw[qQ];exact e1 H' hA K'⟩
   ·rename_i qQ
    obtain⟨h1,e1⟩:=yV h
    exact⟨_,_,_,h1,fun ρ' H' hx hA K'=>by unfold tz;simp only;rw[ht];simp only;rw[qQ];simp only;rw[e1 H' (hA _ (by simp))]⟩
  ·cases h
 ·
  rename_i t x
  split at h
  ·rename_i τ ht
   have hold:(nc true (ρ x) H τ λy rd ups=>se H (16*dst.getD 0) (.obj τ y) (K (.jf (16*dst.getD 0) []) (16*dst.getD 0::rd) (ups++[(16*dst.getD 0,some (.obj τ y))])))=some r→
     Pts (λH K=>nc true (ρ x) H τ λy rd ups=>se H (16*dst.getD 0) (.obj τ y) (K (.jf (16*dst.getD 0) []) (16*dst.getD 0::rd) (ups++[(16*dst.getD 0,some (.obj τ y))]))) H K r:=by
    intro h
    obtain⟨y,rd,ups,h1,e1⟩:=pK h
    obtain⟨h2,e2⟩:=yV h1
    exact⟨_,_,_,h2,λH' hA K'=>by simp only;rw[e1 H' (λi hi=>hA i (ba _ hi)),e2 H' (hA _ (by simp))]⟩
   split at h
   ·rename_i m e υ y n qQ YS
    cases CI:Nat.beq m n
    ·rw[CI]at h
     obtain⟨v,rd,ups,h1,e1⟩:=hold h
     refine⟨_,_,_,h1,fun ρ' H' hx hA K'=> ?_⟩
     unfold tz;simp only;rw[ht];simp only
     rw[hx x (by simp[Op.operands]),qQ,YS];simp only
     rw[CI]
     have:=e1 H' hA K'
     rw[YS]at this
     exact this
    ·rw[CI]at h
     simp only[aj]at h
     obtain⟨z,h1,e1⟩:=dK h
     obtain⟨v,rd,ups,h2,e2⟩:=Uj h1
     refine⟨_,_,_,h2,fun ρ' H' hx hA K'=> ?_⟩
     unfold tz;simp only;rw[ht];simp only
     rw[hx x (by simp[Op.operands]),qQ,YS];simp only
     rw[CI];simp only[aj]
     rw[e1]
     exact e2 H' hA K'
   ·rename_i qy
    obtain⟨v,rd,ups,h1,e1⟩:=hold h
    refine⟨_,_,_,h1,fun ρ' H' hx hA K'=> ?_⟩
    unfold tz;simp only;rw[ht];simp only
    rw[hx x (by simp[Op.operands])]
    split
    ·rename_i qQ YS;exact absurd YS (qy _ _ _ _ _ qQ)
    ·exact e1 H' hA K'
  ·cases h
 ·
  rename_i t ps
  split at h
  ·rename_i n e ht
   obtain⟨l,rd,ups,h1,_,e1⟩:=Hf h
   exact⟨_,_,_,h1,fun ρ' H' hx hA K'=>by unfold tz;simp only;rw[ht];simp only;rw[L9 ps (λx o4=>hx x (by simpa [Op.operands]using o4)),e1 H' hA]⟩
  ·rename_i τ Ys ht
   split at h
   ·rename_i n k hs
    split at h
    ·rename_i e' l' hk
     obtain⟨h0,e0⟩:=eK h
     obtain⟨l,rd,ups,h1,_,e1⟩:=CQ h0
     refine⟨_,_,_,h1,fun ρ' H' hx hA K'=> ?_⟩
     unfold tz;simp only;rw[ht]
     cases τ with
     |arr n e=>exact absurd rfl (Ys n e)
     |_=>
      simp only
      rw[L9 ps (λx o4=>hx x (by simpa [Op.operands]using o4)),hs];simp only
      rw[hA k (by simp),hk];simp only
      rw[e0,e1 H' (λi hi=>hA i (ba _ hi))]
    ·cases h
   ·rename_i hs
    obtain⟨h0,e0⟩:=eK h
    obtain⟨l,rd,ups,h1,_,e1⟩:=CQ h0
    refine⟨_,_,_,h1,fun ρ' H' hx hA K'=> ?_⟩
    unfold tz;simp only;rw[ht]
    cases τ with
    |arr n e=>exact absurd rfl (Ys n e)
    |_=>
     simp only
     rw[L9 ps (λx o4=>hx x (by simpa [Op.operands]using o4)),hs];simp only
     rw[e0,e1 H' hA]
  ·cases h
 ·
  rename_i t n ps
  split at h
  ·rename_i e ht
   obtain⟨h0,e0⟩:=eK h
   obtain⟨h1,e1⟩:=yV h0
   obtain⟨l,rd,ups,h2,_,e2⟩:=Hf h1
   exact⟨_,_,_,h2,fun ρ' H' hx hA K'=>by
    unfold tz;simp only;rw[ht];simp only
    rw[e0,e1 H' (hA _ (by simp)),L9 ps (λx o4=>hx x (by simpa [Op.operands]using o4)),e2 H' (λi hi=>hA i (ba _ hi))]⟩
  ·cases h
 ·
  rename_i t x
  split at h
  ·rename_i τ ht
   obtain⟨v,rd,ups,h1,e1⟩:=YR h
   exact⟨_,_,_,h1,fun ρ' H' hx hA K'=>by unfold tz;simp only;rw[ht];simp only;rw[hx x (by simp[Op.operands]),e1 H' hA]⟩
  ·cases h
 ·
  rename_i t x y
  split at h
  ·rename_i τ ht
   obtain⟨u,rd,ups,h1,e1⟩:=VZ h
   exact⟨_,_,_,h1,fun ρ' H' hx hA K'=>by unfold tz;simp only;rw[ht];simp only;rw[hx x (by simp[Op.operands]),hx y (by simp[Op.operands]),e1 H' hA]⟩
  ·cases h
 ·
  rename_i x
  split at h
  ·rename_i id p hx
   exact⟨_,_,_,h,fun ρ' H' o4 _ K'=>by unfold tz;simp only;rw[o4 x (by simp[Op.operands]),hx]⟩
  ·rename_i τ z hx
   exact⟨_,_,_,h,fun ρ' H' o4 _ K'=>by unfold tz;simp only;rw[o4 x (by simp[Op.operands]),hx]⟩
  ·cases h
 ·
  rename_i b t x y t'
  obtain⟨τ,x1,h1,e1⟩:=Ug h
  obtain⟨υ,y1,h2,e2⟩:=Ug h1
  obtain⟨v,h3,e3⟩:=YK h2
  exact⟨_,_,_,h3,fun ρ' H' hx _ K'=>by unfold tz;simp only;rw[hx x (by simp[Op.operands]),hx y (by simp[Op.operands]),e1,e2,e3]⟩
 ·
  rename_i u t x
  obtain⟨v,h1,e1⟩:=acw h
  exact⟨_,_,_,h1,fun ρ' H' hx _ K'=>by unfold tz;simp only;rw[hx x (by simp[Op.operands]),e1]⟩
 ·
  rename_i s d x
  split at h
  ·rename_i τ k hs hd
   obtain⟨i,n,h1,e1⟩:=q5 h
   exact⟨_,_,_,h1,fun ρ' H' hx _ K'=>by unfold tz;simp only;rw[hs,hd];simp only;rw[hx x (by simp[Op.operands]),e1]⟩
  ·cases h
 ·
  rename_i f first caps
  obtain⟨h1,e1⟩:=eK h
  obtain⟨cs,rd,ups,h3,e3⟩:=Hh h1
  exact⟨_,_,_,h3,fun ρ' H' hx hA K'=>by unfold tz;simp only;rw[acz caps.toList (λx o4=>hx x (by simp[Op.operands];exact .inr (by simpa using o4))),e1,e3 H' hA]⟩
 ·
  rename_i t x y
  split at h
  ·rename_i e ht
   obtain⟨i,n,h1,e1⟩:=q5 h
   obtain⟨i',n',h2,e2⟩:=q5 h1
   obtain⟨h3,e3⟩:=eK h2
   obtain⟨h4,e4⟩:=yV h3
   exact⟨_,_,_,h4,fun ρ' H' hx hA K'=>by
    unfold tz;simp only;rw[ht];simp only
    rw[hx x (by simp[Op.operands]),e1,hx y (by simp[Op.operands]),e2,e3,e4 H' (hA _ (by simp))]⟩
  ·cases h
 ·
  rename_i t x lo hi mx
  split at h
  ·rename_i τ ht
   obtain⟨v,rd,ups,h1,e1⟩:=VX h
   exact⟨_,_,_,h1,fun ρ' H' hx hA K'=>by
    unfold tz;simp only;rw[ht];simp only
    rw[hx x (by simp[Op.operands]),akI lo (λy hy=>hx y (by simp at hy;simp[Op.operands,hy])),akI hi (λy hy=>hx y (by simp at hy;simp[Op.operands,hy])),akI mx (λy hy=>hx y (by simp at hy;simp[Op.operands,hy])),e1 H' hA]⟩
  ·cases h
 ·
  rename_i t x n
  split at h
  ·rename_i τ ht
   split at h
   ·rename_i id p hx
    obtain⟨υ,h1,e1⟩:=yU h
    obtain⟨h2,e2⟩:=gP h1
    obtain⟨υ',y',h3,e3⟩:=yT h2
    obtain⟨h4,e4⟩:=uS h3
    exact⟨_,_,_,h4,fun ρ' H' o4 hA K'=>by
     unfold tz;simp only;rw[ht];simp only
     rw[o4 x (by simp[Op.operands]),hx];simp only
     rw[e1 H' (hA _ (by simp)),e2,e3,e4]⟩
   ·rename_i υ z hx
    obtain⟨h2,e2⟩:=gP h
    obtain⟨υ',y',h3,e3⟩:=yT h2
    obtain⟨h4,e4⟩:=uS h3
    exact⟨_,_,_,h4,fun ρ' H' o4 hA K'=>by
     unfold tz;simp only;rw[ht];simp only
     rw[o4 x (by simp[Op.operands]),hx];simp only
     rw[e2,e3,e4]⟩
   ·cases h
  ·cases h
 ·
  rename_i t x n
  split at h
  ·rename_i τ ht
   split at h
   ·rename_i υ z hx
    obtain⟨h2,e2⟩:=gP h
    obtain⟨υ',y',h3,e3⟩:=yT h2
    exact⟨_,_,_,h3,fun ρ' H' o4 hA K'=>by
     unfold tz;simp only;rw[ht];simp only
     rw[o4 x (by simp[Op.operands]),hx];simp only
     rw[e2,e3]⟩
   ·cases h
  ·cases h
 ·
  rename_i t x i
  split at h
  ·rename_i τ ht
   obtain⟨v,rd,ups,h1,e1⟩:=JL h
   exact⟨_,_,_,h1,fun ρ' H' hx hA K'=>by unfold tz;simp only;rw[ht];simp only;rw[hx x (by simp[Op.operands]),hx i (by simp[Op.operands]),e1 H' hA]⟩
  ·cases h
 ·
  rename_i t x i
  split at h
  ·rename_i τ ht
   obtain⟨v,h1,e1⟩:=VU h
   exact⟨_,_,_,h1,fun ρ' H' hx hA K'=>by unfold tz;simp only;rw[ht];simp only;rw[hx x (by simp[Op.operands]),hx i (by simp[Op.operands]),e1]⟩
  ·cases h
 ·
  rename_i x i
  split at h
  ·rename_i vs hx
   split at h
   ·rename_i v hv
    exact⟨_,_,_,h,fun ρ' H' o4 hA K'=>by unfold tz;simp only;rw[o4 x (by simp[Op.operands]),hx];simp only;rw[hv]⟩
   ·cases h
  ·cases h
 ·
  rename_i cl
  obtain⟨callee,args,ts⟩:=cl
  simp only at h
  have xO: ∀{ρ':Operand→bG},(∀x∈(Op.call {callee,args,argTypes:=ts}).operands,ρ' x=ρ x)→ ∀x∈args.toList,ρ' x=ρ x:=
   λhx x o4=>hx x (by simp[Op.operands,Call.operands];exact .inr (by simpa using o4))
  split at h
  ·split at h
   ·rename_i x τ ha ht
    obtain⟨v,rd,ups,h1,e1⟩:=acx h
    exact⟨_,_,_,h1,fun ρ' H' hx hA K'=>by unfold tz;simp only;rw[ha,ht];simp only;rw[xO hx x (by rw[ha];simp),e1 H' hA]⟩
   ·cases h
  ·split at h
   ·rename_i x y t t' ha ht
    split at h
    ·rename_i e hte
     obtain⟨h1,e1⟩:=eK h
     obtain⟨h2,e2⟩:=yV h1
     obtain⟨v,rd,ups,h3,bl,e3⟩:=acy h2
     exact⟨_,_,_,h3,fun ρ' H' hx hA K'=>by
      unfold tz;simp only;rw[ha,ht];simp only;rw[hte];simp only
      rw[e1,e2 H' (hA _ bl),xO hx x (by rw[ha];simp),xO hx y (by rw[ha];simp),e3 H' hA]⟩
    ·cases h
   ·cases h
  ·split at h
   ·rename_i x t ha ht
    split at h
    ·rename_i e hte
     obtain⟨v,rd,ups,h1,e1⟩:=VY h
     exact⟨_,_,_,h1,fun ρ' H' hx hA K'=>by
      unfold tz;simp only;rw[ha,ht];simp only;rw[hte];simp only
      rw[xO hx x (by rw[ha];simp),e1 H' hA]⟩
    ·cases h
   ·cases h
  ·split at h
   ·rename_i x xs ha
    obtain⟨v,h1,e1⟩:=Sp h
    exact⟨_,_,_,h1,fun ρ' H' hx hA K'=>by
     unfold tz;simp only;rw[ha];simp only
     rw[xO hx x (by rw[ha];simp),acz xs (λy hy=>xO hx y (by rw[ha];simp[hy])),e1]⟩
   ·cases h
  ·split at h
   ·rename_i x xs ha
    obtain⟨v,h1,e1⟩:=Sp h
    exact⟨_,_,_,h1,fun ρ' H' hx hA K'=>by
     unfold tz;simp only;rw[ha];simp only
     rw[xO hx x (by rw[ha];simp),acz xs (λy hy=>xO hx y (by rw[ha];simp[hy])),e1]⟩
   ·cases h
  ·rename_i g
   split at h
   ·rename_i f caps hg
    obtain⟨v,rd,ups,h1,e1⟩:=YN h
    exact⟨_,_,_,h1,fun ρ' H' hx hA K'=>by
     unfold tz;simp only
     rw[hx g (by simp[Op.operands,Call.operands]),hg];simp only
     rw[acz args.toList (xO hx),e1 H' hA]⟩
   ·cases h
  ·cases h
 ·cases h
end VM
end
section
namespace VM
open Go
variable{P:Program}{E:Env}{o:Oper}{a:Act}{w:World}{M:Nat→Prop}{ν:Nat→Value}{σ:St}{c:Ctx}{α:Type}{r:α}{next:Act→World→Prop}{Q:Exit→Act→World→Prop}
structure Out where
 dst:Option Nat
 v:bG
 rd:List Nat
 ups:js
def Out.app(u:Out)(σ:St):St:=(σ.xq u.ups).wP u.dst u.v
theorem ON(σ:St)(d:Nat)(v:bG):(σ.wP (some d) v).T d=v:=vF σ d v
theorem V0(σ:St){d:Option Nat}{t:Nat}(v:bG)(h:d≠some t):(σ.wP d v).T t=σ.T t:=by
 cases d with
 |none=>rfl
 |some d=>exact BB σ v (λe=>h (by rw[e]))
theorem akJ(σ:St)(d:Option Nat)(v:bG):(σ.wP d v).H=σ.H:=by cases d<;>rfl
theorem Sq{u:Out}{t:Nat}(h:u.dst=some t)(σ:St):(u.app σ).T t=u.v:=by unfold Out.app;rw[h];exact ON _ _ _
theorem YT{u:Out}{t:Nat}(h:u.dst≠some t)(σ:St):(u.app σ).T t=σ.T t:=by unfold Out.app;rw[V0 _ _ h,Sf]
theorem apA(u:Out)(σ:St):(u.app σ).H=cU σ.H u.ups:=by unfold Out.app;rw[akJ,Se]
def Pt(E:Env)(ops:List Oper)(o:Oper)(σ:St)(u:Out)(α:Type):Prop:=
 u.dst=o.dst∧ ∀σ':St,(∀t∈names ops o,σ'.T t=σ.T t)→Ag u.rd σ.H σ'.H→ ∀K':St→List Nat→List Nat→Option α,uN E ops o σ' K'=K' (u.app σ') u.rd (u.ups.map (·.1))
theorem YU{ops:List Oper}{K:St→List Nat→List Nat→Option α}(h:uN E ops o σ K=some r): ∃u:Out,K (u.app σ) u.rd (u.ups.map (·.1))=some r∧Pt E ops o σ u α:=by
 unfold uN at h
 obtain⟨h,e0⟩:=eK h
 have avE: ∀σ':St,(∀t∈names ops o,σ'.T t=σ.T t)→ ∀x∈o.op.operands,σ'.ρ x=σ.ρ x:=by
  intro σ' hT x hx
  cases x with
  |tmp t=>
   refine hT t ?_
   unfold names
   refine cX _ (List.mem_filterMap.2 ⟨.tmp t,by simpa using hx,rfl⟩)
  |_=>rfl
 have dH:tz E o σ.ρ σ.H (λv rd ups=>K ((σ.xq ups).wP o.dst v) rd (ups.map (·.1)))=some r→
   ∃u:Out,K (u.app σ) u.rd (u.ups.map (·.1))=some r∧u.dst=o.dst∧ ∀σ':St,(∀t∈names ops o,σ'.T t=σ.T t)→Ag u.rd σ.H σ'.H→ ∀K':St→List Nat→List Nat→Option α,
    tz E o σ'.ρ σ'.H (λv rd ups=>K' ((σ'.xq ups).wP o.dst v) rd (ups.map (·.1)))=K' (u.app σ') u.rd (u.ups.map (·.1)):=by
  intro h
  obtain⟨v,rd,ups,h1,h2⟩:=akH h
  exact⟨⟨o.dst,v,rd,ups⟩,h1,rfl,fun σ' hT hA K'=>h2 σ'.ρ σ'.H (avE σ' hT) hA _⟩
 have tG: ∀{K:St→List Nat→List Nat→Option α},K (σ.wP o.dst .Yd) [] []=some r→ ∃u:Out,K (u.app σ) u.rd (u.ups.map (·.1))=some r∧u.dst=o.dst∧ ∀σ':St,∀K':St→List Nat→List Nat→Option α,K' (σ'.wP o.dst .Yd) [] []=K' (u.app σ') u.rd (u.ups.map (·.1)):=
  λh=>⟨⟨o.dst,.Yd,[],[]⟩,h,rfl,λ_ _=>rfl⟩
 simp only at h
 split at h
 ·rename_i hg
  obtain⟨u,h1,h2,h3⟩:=dH h
  refine⟨u,h1,h2,fun σ' hT hA K'=> ?_⟩
  unfold uN
  rw[e0]
  simp only
  rw[hg]
  exact h3 σ' hT hA K'
 ·rename_i j want hg
  split at h
  ·cases h
  ·rename_i t ht
   have V1:t∈names ops o:=by
    unfold names
    refine dD _ ?_
    rw[hg]
    simp[ht]
   split at h
   ·rename_i b hb
    have qS: ∀σ':St,σ'.T t=σ.T t→σ'.put t (.val .bool b)=σ':=fun σ' h'=>by
     rw[←hb,←h'];exact Hc σ' t
    cases want<;>cases b
    ·obtain⟨u,h1,h2,h3⟩:=dH (by
      have:=qS σ rfl
      rw[this]at h;exact h)
     refine⟨u,h1,h2,fun σ' hT hA K'=> ?_⟩
     unfold uN
     rw[e0];simp only;rw[hg];simp only;rw[ht];simp only;rw[hT t V1,hb];simp only
     rw[qS σ' (hT t V1)]
     exact h3 σ' hT hA K'
    ·obtain⟨u,h1,h2,h3⟩:=tG (by
      have:=qS σ rfl
      rw[this]at h;exact h)
     refine⟨u,h1,h2,fun σ' hT hA K'=> ?_⟩
     unfold uN
     rw[e0];simp only;rw[hg];simp only;rw[ht];simp only;rw[hT t V1,hb];simp only
     rw[qS σ' (hT t V1)]
     exact h3 σ' K'
    ·obtain⟨u,h1,h2,h3⟩:=tG (by
      have:=qS σ rfl
      rw[this]at h;exact h)
     refine⟨u,h1,h2,fun σ' hT hA K'=> ?_⟩
     unfold uN
     rw[e0];simp only;rw[hg];simp only;rw[ht];simp only;rw[hT t V1,hb];simp only
     rw[qS σ' (hT t V1)]
     exact h3 σ' K'
    ·obtain⟨u,h1,h2,h3⟩:=dH (by
      have:=qS σ rfl
      rw[this]at h;exact h)
     refine⟨u,h1,h2,fun σ' hT hA K'=> ?_⟩
     unfold uN
     rw[e0];simp only;rw[hg];simp only;rw[ht];simp only;rw[hT t V1,hb];simp only
     rw[qS σ' (hT t V1)]
     exact h3 σ' hT hA K'
   ·rename_i hb
    obtain⟨u,h1,h2,h3⟩:=tG h
    refine⟨u,h1,h2,fun σ' hT hA K'=> ?_⟩
    unfold uN
    rw[e0];simp only;rw[hg];simp only;rw[ht];simp only;rw[hT t V1,hb]
    exact h3 σ' K'
   ·cases h
theorem Uk{ops:List Oper}: ∀(l:List Oper) (i:Nat) (σ:St) (lg:Log) (K:St→Log→Option α),Vs E ops l i σ lg K=some r→
  ∃us:List Out,us.length=l.length∧(∀j u o,us[j]? =some u→l[j]? =some o→Pt E ops o ((us.take j).foldl (fun σ u=>u.app σ) σ) u α)∧
   ∃lg',K (us.foldl (fun σ u=>u.app σ) σ) lg'=some r∧(∀x∈lg,x∈lg')∧ ∀j u,us[j]? =some u→(i+j,u.rd,u.ups.map (·.1))∈lg'
 |[],i,σ,lg,K,h=>⟨[],rfl,λj u o hj=>by simp at hj,lg,h,λ_ h=>h,λj u hj=>by simp at hj⟩
 |o::l,i,σ,lg,K,h=>by
  unfold Vs at h
  obtain⟨u,h1,h2⟩:=YU h
  obtain⟨us,hl,hpt,lg',hK,hlg,hj⟩:=Uk l (i+1) (u.app σ) _ K h1
  refine⟨u::us,by simp[hl],λj u' o' hu ho=> ?_,lg',hK,λx hx=>hlg x (ba _ hx),λj u' hu=> ?_⟩
  ·cases j with
   |zero=>simp at hu ho;subst hu ho;exact h2
   |succ j=>exact hpt j u' o' (by simpa using hu) (by simpa using ho)
  ·cases j with
   |zero=>simp at hu;subst hu;exact hlg _ bu
   |succ j=>
    have:=hj j u' (by simpa using hu)
    rwa [show i+1+j=i+(j+1)from by omega]at this
theorem V2{k:Nat}{ups:js}(h:k∈keys ups)(H H':Nat→Option br):cU H ups k=cU H' ups k:=by
 induction ups generalizing H H' with
 |nil=>simp[keys]at h
 |cons u r ih=>
  show cU (cm H u.1 u.2) r k=cU (cm H' u.1 u.2) r k
  by_cases hk:k∈keys r
  ·exact ih hk _ _
  ·have hku:k=u.1:=by
    simp only[keys,ca,bh]at h hk
    exact h.resolve_right hk
   rw[mG hk,mG hk,hku,ay,ay]
structure p7(us:List Out)(σ0:St)(S:Nat→Prop)(σ:St):Prop where
 T: ∀t,(∃j u,us[j]? =some u∧S j∧u.dst=some t∧(∀j' u',us[j']? =some u'→S j'→u'.dst=some t→j'≤j)∧σ.T t=u.v)∨((∀j u,us[j]? =some u→S j→u.dst≠some t)∧σ.T t=σ0.T t)
 H: ∀k,(∃j u,us[j]? =some u∧S j∧k∈keys u.ups∧(∀j' u',us[j']? =some u'→S j'→k∈keys u'.ups→j'≤j)∧σ.H k=cU σ0.H u.ups k)∨((∀j u,us[j]? =some u→S j→k∉keys u.ups)∧σ.H k=σ0.H k)
theorem p7.YV{us:List Out}{σ0 σ σ':St}{S S':Nat→Prop}(h:p7 us σ0 S σ)(h':p7 us σ0 S' σ'){t:Nat}(hs: ∀j u,us[j]? =some u→u.dst=some t→(S j↔S' j)):σ.T t=σ'.T t:=by
 rcases h.T t with⟨j,u,h1,h2,h3,h4,h5⟩|⟨h1,h2⟩<;>rcases h'.T t with⟨j',u',q6,zF,Sr,h4',h5'⟩|⟨q6,zF⟩
 ·have e1:=h4 j' u' q6 ((hs j' u' q6 Sr).2 zF) Sr
  have e2:=h4' j u h1 ((hs j u h1 h3).1 h2) h3
  have:j=j':=ω
  subst this
  rw[h1]at q6;cases q6
  rw[h5,h5']
 ·exact absurd h3 (q6 j u h1 ((hs j u h1 h3).1 h2))
 ·exact absurd Sr (h1 j' u' q6 ((hs j' u' q6 Sr).2 zF))
 ·rw[h2,zF]
theorem p7.YW{us:List Out}{σ0 σ σ':St}{S S':Nat→Prop}(h:p7 us σ0 S σ)(h':p7 us σ0 S' σ'){k:Nat}(hs: ∀j u,us[j]? =some u→k∈keys u.ups→(S j↔S' j)):σ.H k=σ'.H k:=by
 rcases h.H k with⟨j,u,h1,h2,h3,h4,h5⟩|⟨h1,h2⟩<;>rcases h'.H k with⟨j',u',q6,zF,Sr,h4',h5'⟩|⟨q6,zF⟩
 ·have e1:=h4 j' u' q6 ((hs j' u' q6 Sr).2 zF) Sr
  have e2:=h4' j u h1 ((hs j u h1 h3).1 h2) h3
  have:j=j':=ω
  subst this
  rw[h1]at q6;cases q6
  rw[h5,h5']
 ·exact absurd h3 (q6 j u h1 ((hs j u h1 h3).1 h2))
 ·exact absurd Sr (h1 j' u' q6 ((hs j' u' q6 Sr).2 zF))
 ·rw[h2,zF]
theorem p7.unique{us:List Out}{σ0 σ σ':St}{S S':Nat→Prop}(h:p7 us σ0 S σ)(h':p7 us σ0 S' σ')(hs: ∀j u,us[j]? =some u→(S j↔S' j)):σ=σ':=by
 obtain⟨T,H⟩:=σ
 obtain⟨T',H'⟩:=σ'
 congr 1
 ·funext t;exact h.YV h' (λj u hj _=>hs j u hj)
 ·funext k;exact h.YW h' (λj u hj _=>hs j u hj)
theorem p7.step{us:List Out}{σ0 σ:St}{S:Nat→Prop}(h:p7 us σ0 S σ){i:Nat}{u:Out}(hi:us[i]? =some u)(hc: ∀j u',us[j]? =some u'→S j→i<j→(∀t,u.dst=some t→u'.dst≠some t)∧ ∀k∈keys u.ups,k∉keys u'.ups):
  p7 us σ0 (λj=>j=i∨S j) (u.app σ):=by
 refine⟨λt=> ?_,λk=> ?_⟩
 ·by_cases hd:u.dst=some t
  ·left
   refine⟨i,u,hi,.inl rfl,hd,λj' u' h1 h2 h3=> ?_,Sq hd σ⟩
   rcases h2 with rfl|h2
   ·exact aH _
   ·exact Nat.le_of_not_lt λeU=>(hc j' u' h1 h2 eU).1 t hd h3
  ·rw[YT hd]
   rcases h.T t with⟨j,u1,h1,h2,h3,h4,h5⟩|⟨h1,h2⟩
   ·refine .inl ⟨j,u1,h1,.inr h2,h3,λj' u' q6 zF Sr=> ?_,h5⟩
    rcases zF with rfl|zF
    ·rw[hi]at q6;cases q6;exact absurd Sr hd
    ·exact h4 j' u' q6 zF Sr
   ·refine .inr ⟨λj u' q6 zF=> ?_,h2⟩
    rcases zF with rfl|zF
    ·rw[hi]at q6;cases q6;exact hd
    ·exact h1 j u' q6 zF
 ·rw[apA]
  by_cases hd:k∈keys u.ups
  ·left
   refine⟨i,u,hi,.inl rfl,hd,λj' u' h1 h2 h3=> ?_,V2 hd _ _⟩
   rcases h2 with rfl|h2
   ·exact aH _
   ·exact Nat.le_of_not_lt λeU=>(hc j' u' h1 h2 eU).2 k hd h3
  ·rw[mG hd]
   rcases h.H k with⟨j,u1,h1,h2,h3,h4,h5⟩|⟨h1,h2⟩
   ·refine .inl ⟨j,u1,h1,.inr h2,h3,λj' u' q6 zF Sr=> ?_,h5⟩
    rcases zF with rfl|zF
    ·rw[hi]at q6;cases q6;exact absurd Sr hd
    ·exact h4 j' u' q6 zF Sr
   ·refine .inr ⟨λj u' q6 zF=> ?_,h2⟩
    rcases zF with rfl|zF
    ·rw[hi]at q6;cases q6;exact hd
    ·exact h1 j u' q6 zF
theorem p7.start(us:List Out)(σ0:St):p7 us σ0 (λ_=>False) σ0:=⟨λt=> .inr ⟨λ_ _ _ h=>h.elim,rfl⟩,λk=> .inr ⟨λ_ _ _ h=>h.elim,rfl⟩⟩
theorem p7.congr{us:List Out}{σ0 σ:St}{S S':Nat→Prop}(h:p7 us σ0 S σ)(hs: ∀j,S j↔S' j):p7 us σ0 S' σ:=by
 have:S=S':=funext λj=>propext (hs j)
 rw[←this];exact h
theorem p7.text(us:List Out)(σ0:St): ∀i,i≤us.length→p7 us σ0 (λj=>j<i) ((us.take i).foldl (fun σ u=>u.app σ) σ0)
 |0,_=>(p7.start us σ0).congr λj=>by simp
 |i+1,hi=>by
  have ih:=p7.text us σ0 i ω
  have hu:us[i]? =some us[i]:=bm ω
  have:=ih.step hu (λj u' _ h2 h3=>ω)
  rw[List.take_add_one,hu,List.foldl_append]
  exact this.congr λj=>by constructor<;>intro h<;>omega
def Pre(S:Nat→Prop)(o:Oper):Prop:= ∀e∈o.after,Region.binds .any e=true→S e.on
theorem Hi{β:Type}{l m:List β}{i:Nat}{d:β}(h:i<l.length):(l++m).getD i d=l.getD i d:=by
 simp only[γ,tv h]
theorem Hj{β:Type}{l:List β}{x d:β}:(l++[x]).getD l.length d=x:=by
 simp[γ]
theorem D4{acc:List Nat}{i:Nat}: ∀(es:List Edge) (s:Nat),(es.foldl (λs e=>cond (Region.binds .any e) (s|||2^e.on|||acc.getD e.on 0) s) s).testBit i=true→
  s.testBit i=true∨ ∃e∈es,Region.binds .any e=true∧(i=e.on∨(acc.getD e.on 0).testBit i=true)
 |[],s,h=> .inl h
 |e::es,s,h=>by
  rw[List.foldl_cons]at h
  rcases D4 es _ h with h1|⟨e',h1,h2⟩
  ·cases hb:Region.binds .any e
   ·rw[hb]at h1;exact .inl h1
   ·rw[hb]at h1
    simp only[aj,Nat.testBit_or,og]at h1
    rcases h1 with(h1|h1)|h1
    ·exact .inl h1
    ·refine .inr ⟨e,bu,hb,.inl ?_⟩
     rw[Nat.testBit_two_pow]at h1
     simpa using (bD h1).symm
    ·exact .inr ⟨e,bu,hb,.inr h1⟩
  ·exact .inr ⟨e',ba _ h1,h2⟩
theorem D5{S:Nat→Prop}: ∀(l:List Oper) (acc:List Nat) (all:List Oper),all.length=acc.length+l.length→(∀j,l[j]? =all[acc.length+j]?)→
  (∀j o,all[j]? =some o→S j→Pre S o)→(∀j i,j<acc.length→S j→(acc.getD j 0).testBit i=true→S i)→
  ∀j o i,all[j]? =some o→(Pre S o∨S j)→((ud l acc).getD j 0).testBit i=true→(j<acc.length→ ∀i,Pre S o→(acc.getD j 0).testBit i=true→S i)→S i
 |[],acc,all,hl,iS,hS,acA,j,o,i,hj,OO,hb,YX=>by
  have eU:j<all.length:=(vp.1 hj).1
  have xK:j<acc.length:=by simp at hl;omega
  rcases OO with hp|hp
  ·exact YX xK i hp hb
  ·exact acA j i xK hp hb
 |p::l,acc,all,hl,iS,hS,acA,j,o,i,hj,OO,hb,YX=>by
  unfold ud at hb
  have hp0:all[acc.length]? =some p:=by rw[←mB acc.length,←iS 0];rfl
  have acB: ∀i,Pre S p→(p.after.toList.foldl (λs e=>cond (Region.binds .any e) (s|||2^e.on|||acc.getD e.on 0) s) 0).testBit i=true→S i:=by
   intro i Jk hb
   rcases D4 p.after.toList 0 hb with h1|⟨e,he,hbe,h1⟩
   ·simp at h1
   ·have hSe:=Jk e (by simpa using he) hbe
    rcases h1 with rfl|h1
    ·exact hSe
    ·by_cases eU:e.on<acc.length
     ·exact acA e.on i eU hSe h1
     ·rw[γ,iq ω]at h1;simp at h1
  refine D5 l (acc++[p.after.toList.foldl (λs e=>cond (Region.binds .any e) (s|||2^e.on|||acc.getD e.on 0) s) 0]) all (by simp at hl ⊢;omega) (λj=> ?_) hS (λj' i' XV hS' fb=> ?_) j o i hj OO hb (λeU i' RZ fb=> ?_)
  ·have:=iS (j+1)
   simp only[List.getElem?_cons_succ]at this
   rw[this]
   congr 1
   simp;omega
  ·by_cases eU:j'<acc.length
   ·rw[Hi eU]at fb
    exact acA j' i' eU hS' fb
   ·have hje:j'=acc.length:=by simp at XV;omega
    subst hje
    rw[Hj]at fb
    exact acB i' (hS _ p hp0 hS') fb
  ·by_cases xK:j<acc.length
   ·rw[Hi xK]at fb
    exact YX xK i' RZ fb
   ·have hje:j=acc.length:=by simp at eU;omega
    subst hje
    rw[hp0]at hj;cases hj
    rw[Hj]at fb
    exact acB i' RZ fb
theorem forced{ops:List Oper}{S:Nat→Prop}(hS: ∀j o,ops[j]? =some o→S j→Pre S o){j i:Nat}(hj:ops[j]? =some o)(OO:Pre S o∨S j)(hb:((ud ops []).getD j 0).testBit i=true):S i:=
 D5 ops [] ops (by simp) (λj=>by simp) hS (λj i h=>by simp at h) j o i hj OO hb (λh=>by simp at h)
theorem nG{l m:List Nat}(h:meets l m=false){x:Nat}(h1:x∈l)(h2:x∈m):False:=by
 have:meets l m=true:=by
  unfold meets
  rw[AX]
  refine⟨x,h1,?_⟩
  rw[AX]
  exact⟨x,h2,pY x⟩
 rw[h]at this;cases this
structure Rnd(c:Ctx)(E:Env)(ops:Array Oper)(us:List Out)(σ0:St)(listed:Array Bool)(a:Act)(w:World):Prop where
 size:listed.size=ops.size
 closed: ∀j o,ops.toList[j]? =some o→listed.getD j false=true→Pre (λi=>listed.getD i false=true) o
 st: ∃σ,p7 us σ0 (λj=>listed.getD j false=true) σ∧Inv c E σ a w
theorem z7{listed:Array Bool}{j:Nat}(h:j<listed.size)(d:Bool):listed.getD j d=listed.getD j false:=by
 simp[Array.getD,h]
theorem Ma(hE:tF P E){ops:Array Oper}{us:List Out}{σ0 σn:St}{α:Type}(x0:α)(hl:us.length=ops.toList.length)
  (hpt: ∀(j:Nat) (u:Out) (o:Oper),us[j]? =some u→ops.toList[j]? =some o→Pt E ops.toList o ((us.take j).foldl (fun σ u=>u.app σ) σ0) u α)
  (hn:σn=us.foldl (fun σ u=>u.app σ) σ0)
  (eU: ∀(j:Nat) (o:Oper),ops.toList[j]? =some o→ ∀e∈o.after,Region.binds .any e=true→e.on<j)
  (OP: ∀(j:Nat) (o:Oper) (i:Nat) (p:Oper),ops.toList[j]? =some o→ops.toList[i]? =some p→i<j→((ud ops.toList []).getD j 0).testBit i=false→
   (∀d,p.dst=some d→o.dst≠some d∧d∉names ops.toList o)∧(∀d,o.dst=some d→d∉names ops.toList p))
  (hlg: ∀(j:Nat) (u:Out) (i:Nat) (v:Out),us[j]? =some u→us[i]? =some v→i<j→((ud ops.toList []).getD j 0).testBit i=false→
   (∀k∈keys v.ups,k∉u.rd∧k∉keys u.ups)∧(∀k∈v.rd,k∉keys u.ups))
  (hq: ∀a' w',Inv c E σn a' w'→Q .normal a' w'):
  ∀(fuel:Nat) (listed:Array Bool) (a:Act) (w:World),((List.range ops.size).filter λj=> !(listed.getD j false)).length≤fuel→Rnd c E ops us σ0 listed a w→wpAny P .any ops Q fuel listed a w:=by
 have iS: ∀(listed:Array Bool) (a:Act) (w:World),Rnd c E ops us σ0 listed a w→Region.ready .any ops listed=[]→Q .normal a w:=by
  intro listed a w hR akL
  obtain⟨hs,FG,σ,w7,hI⟩:=hR
  have apD: ∀j,j<ops.size→listed.getD j false=true:=by
   intro j
   induction j using Nat.strongRecOn with
   |_ j ih=>
    intro hj
    by_cases hb:listed.getD j false=true
    ·exact hb
    ·exfalso
     have ho:ops[j]? =some ops[j]:=NR hj
     have:j∈Region.ready .any ops listed:=by
      rw[mem_ready]
      refine⟨by rw[z7 ω];simpa using hb,_,ho,λe he hbe=> ?_⟩
      have hej:=eU j ops[j] (by rw[iH];exact ho) e he hbe
      exact ih e.on hej ω
     rw[akL]at this
     cases this
  have hσ:σ=σn:=by
   rw[hn]
   have ht:=p7.text us σ0 us.length (aH _)
   rw[ir]at ht
   refine w7.unique ht λj u hj=> ?_
   have Bm:j<us.length:=(vp.1 hj).1
   have hjo:j<ops.size:=by rw[hl,bp]at Bm;exact Bm
   exact⟨λ_=>Bm,λ_=>apD j hjo⟩
  exact hq a w (hσ▸hI)
 intro fuel
 induction fuel with
 |zero=>
  intro listed a w hf hR
  have VN:Region.ready .any ops listed=[]:=by
   rw[List.eq_nil_iff_forall_not_mem]
   intro j hj
   rw[mem_ready]at hj
   obtain⟨h0,o,ho,_⟩:=hj
   have hjs:j<ops.size:=(lH.1 ho).1
   have Bm:j<listed.size:=by rw[hR.size];exact hjs
   rw[z7 Bm]at h0
   have mE:j∈(List.range ops.size).filter λj=> !(listed.getD j false):=by
    rw[rS];exact⟨rV.2 hjs,by rw[h0];rfl⟩
   have:((List.range ops.size).filter λj=> !(listed.getD j false))=[]:=vo ω
   rw[this]at mE;cases mE
  exact⟨VN,iS listed a w hR VN⟩
 |succ fuel ih=>
  intro listed a w hf hR
  refine⟨iS listed a w hR,λi hi=> ?_⟩
  have oj:=hi
  rw[mem_ready]at oj
  obtain⟨h0,o,ho,OO⟩:=oj
  have his:i<ops.size:=(lH.1 ho).1
  have Bl:i<listed.size:=by rw[hR.size];exact his
  rw[z7 Bl]at h0
  obtain⟨hs,FG,σ,w7,hI⟩:=hR
  have xa:ops.toList[i]? =some o:=by rw[iH];exact ho
  have hiu:i<us.length:=by rw[hl,bp];exact his
  have hu:us[i]? =some us[i]:=bm hiu
  have hPt:=hpt i us[i] o hu xa
  have hSi: ¬listed.getD i false=true:=by rw[h0];simp
  have OQ: ∀j p,ops.toList[j]? =some p→((j<i∧ ¬listed.getD j false=true)→((ud ops.toList []).getD i 0).testBit j=false)∧((i<j∧listed.getD j false=true)→((ud ops.toList []).getD j 0).testBit i=false):=by
   intro j p hj
   refine⟨λ⟨_,h2⟩=> ?_,λ⟨_,h2⟩=> ?_⟩
   ·rw[←lJ]
    intro hb
    exact h2 (forced FG xa (.inl OO) hb)
   ·rw[←lJ]
    intro hb
    exact hSi (forced FG hj (.inr h2) hb)
  have YY: ∀(j:Nat) (u:Out),us[j]? =some u→ ∃p:Oper,ops.toList[j]? =some p∧u.dst=p.dst:=by
   intro j u hj
   have Bm:j<us.length:=(vp.1 hj).1
   have hp:ops.toList[j]? =some ops.toList[j]:=bm ω
   exact⟨_,hp,(hpt j u _ hj hp).1⟩
  have aiU:=p7.text us σ0 i ω
  have hT: ∀t∈names ops.toList o,σ.T t=((us.take i).foldl (fun σ u=>u.app σ) σ0).T t:=by
   intro t ht
   refine w7.YV aiU λj u hj hd=> ?_
   obtain⟨p,hp,hpd⟩:=YY j u hj
   have hpd:p.dst=some t:=by rw[←hpd,hd]
   constructor
   ·intro OR
    refine Nat.lt_of_not_le λhle=> ?_
    rcases Nat.lt_or_eq_of_le hle with xK|heq
    ·exact(OP j p i o hp xa xK ((OQ j p hp).2 ⟨xK,OR⟩)).2 t hpd ht
    ·subst heq;exact hSi OR
   ·intro z8
    by_cases OR:listed.getD j false=true
    ·exact OR
    ·exact absurd ht ((OP i o j p xa hp z8 ((OQ j p hp).1 ⟨z8,OR⟩)).1 t hpd).2
  have hH:Ag us[i].rd ((us.take i).foldl (fun σ u=>u.app σ) σ0).H σ.H:=by
   intro k hk
   refine w7.YW aiU λj u hj hd=> ?_
   obtain⟨p,hp,hpd⟩:=YY j u hj
   constructor
   ·intro OR
    refine Nat.lt_of_not_le λhle=> ?_
    rcases Nat.lt_or_eq_of_le hle with xK|heq
    ·exact(hlg j u i us[i] hj hu xK ((OQ j p hp).2 ⟨xK,OR⟩)).2 k hk hd
    ·subst heq;exact hSi OR
   ·intro z8
    by_cases OR:listed.getD j false=true
    ·exact OR
    ·exact absurd hk ((hlg i us[i] j u hu hj z8 ((OQ j p hp).1 ⟨z8,OR⟩)).1 k hd).1
  have apE:=hPt.2 σ hT hH
  have hIs:p7 us σ0 (λj=>j=i∨listed.getD j false=true) (us[i].app σ):=by
   refine w7.step hu λj u hj OR qw=> ?_
   obtain⟨p,hp,hpd⟩:=YY j u hj
   have E6:=(OQ j p hp).2 ⟨qw,OR⟩
   obtain⟨h1,h2⟩:=OP j p i o hp xa qw E6
   obtain⟨h3,h4⟩:=hlg j u i us[i] hj hu qw E6
   refine⟨λt ht=> ?_,λk hk=>(h3 k hk).2⟩
   rw[hpd]
   exact(h1 t (by rw[←hPt.1];exact ht)).1
  have BD: ∀j,(listed.setIfInBounds i true).getD j false=true↔(j=i∨listed.getD j false=true):=by
   intro j
   by_cases z8:j=i
   ·subst z8
    constructor
    ·intro _;exact .inl rfl
    ·intro _;simp[Bl]
   ·rw[getD_set_ne false (fk z8)]
    exact⟨.inr,λh=>h.resolve_left z8⟩
  classical
  let K':St→List Nat→List Nat→Option α:=fun σ' _ _=>if σ'=us[i].app σ then some x0 else none
  have hK:uN E ops.toList o σ K'=some x0:=by rw[apE K'];simp[K']
  have:=D3 (Q:=Q) (next:=wpAny P .any ops Q fuel (listed.setIfInBounds i true)) hE hI hK (fun σ' a' w' rd wr hσ' zD=>by
   have hσ'':σ'=us[i].app σ:=by
    by_cases h:σ'=us[i].app σ
    ·exact h
    ·simp[K',h]at hσ'
   subst hσ''
   refine ih _ a' w' ?_ ⟨by simpa using hs,λj p hp OR e he hb=> ?_,_,hIs.congr (λj=>(BD j).symm),zD⟩
   ·have hlen:((List.range ops.size).filter λj=> !((listed.setIfInBounds i true).getD j false)).length<((List.range ops.size).filter λj=> !(listed.getD j false)).length:=by
     have VO:((List.range ops.size).filter λj=> !((listed.setIfInBounds i true).getD j false))=((List.range ops.size).filter λj=> !(listed.getD j false)).filter λj=> !(Nat.beq j i):=by
      rw[List.filter_filter]
      apply List.filter_congr
      intro j _
      by_cases z8:j=i
      ·subst z8
       have h1:=(BD j).2 (.inl rfl)
       rw[h1];simp
      ·have h1:Nat.beq j i=false:=by rw[←lJ,xp];exact z8
       rw[h1,getD_set_ne false (fk z8)];simp
     rw[VO]
     refine List.length_filter_lt_length_iff_exists.2 ⟨i,?_,by simp⟩
     rw[rS];exact⟨rV.2 his,by rw[h0];rfl⟩
    omega
   ·rcases(BD j).1 OR with rfl|OR
    ·rw[xa]at hp;cases hp
     exact(BD _).2 (.inr (OO e he hb))
    ·exact(BD _).2 (.inr (FG j p hp OR e he hb)))
  unfold wpOp
  rw[ho]
  simp only
  split
  ·rename_i hw;rw[ak hw]at this;exact .inl this
  ·rename_i hw;rw[ag hw]at this;exact this
theorem JM(hE:tF P E){id:Nat}{ops:Array Oper}{draw:Bool}(hI:Inv c E σ a w){K:St→Option α}(h:FC E ops draw σ K=some r)
  (hn: ∀σ' a' w',K σ'=some r→Inv c E σ' a' w'→Q .normal a' w'):(Code.region id ops draw).wp P Q a w:=by
 cases draw
 ·refine wp_region_list (Hd hE ops.toList 0 σ [] a w _ hI h fun σ' lg' a' w' h' zD=> ?_)
  exact hn σ' a' w' (cG h').2 zD
 ·unfold FC at h
  obtain⟨us,hl,hpt,lg,hK,_,apF⟩:=Uk _ _ _ _ _ h
  obtain⟨hok,hK⟩:=cG hK
  simp only[bk,pX,bQ]at hok
  obtain⟨OP,hlg⟩:=hok
  unfold Ye at OP
  simp only[bQ,pF]at OP
  obtain⟨avJ,avK⟩:=OP
  have hz: ∀j o,ops.toList[j]? =some o→(o,j)∈ops.toList.zipIdx:=λj o hj=>List.mem_zipIdx_iff_getElem?.2 hj
  refine wp_region_any hE.mixed (Ma (Q:=Q) (σ0:=σ) hE r hl hpt rfl (λj o hj e he hbe=> ?_) (λj o i p hj hi qw hb=> ?_) (λj u i v hj hi qw hb=> ?_) (λa' w' zD=>hn _ a' w' hK zD) ops.size (Array.replicate ops.size false) a _ ?_ ?_)
  ·have:=avJ (o,j) (hz j o hj) e (by simpa using he)
   rw[hbe]at this
   simpa [A8]using this
  ·have:=avK (o,j) (hz j o hj) (p,i) (hz i p hi)
   simp only[hb,rW,og,rQ,Bool.or_eq_false_iff]at this
   have JC: ¬Nat.ble j i=true:=by rw[A9];omega
   have this:=this.resolve_left JC
   refine⟨λd hd=>⟨λhd'=> ?_,λhd'=> ?_⟩,λd hd hd'=> ?_⟩
   ·exact nG this.1 (x:=d) (by simp[hd]) (by simp[hd'])
   ·exact nG this.1 (x:=d) (by simp[hd]) (by simp[hd'])
   ·exact nG this.2 (x:=d) (by simp[hd]) hd'
  ·unfold aiF at hlg
   simp only[pF]at hlg
   have XV:=apF j u hj
   have oj:=apF i v hi
   rw[fX]at XV oj
   have:=hlg _ XV _ oj
   simp only[hb,rW,og,rQ,Bool.or_eq_false_iff]at this
   have JC: ¬Nat.ble j i=true:=by rw[A9];omega
   have this:=this.resolve_left JC
   refine⟨λk hk=>⟨λBq=> ?_,λBq=> ?_⟩,λk hk Bq=> ?_⟩
   ·exact nG this.1 (x:=k) hk (cX _ Bq)
   ·exact nG this.1 (x:=k) hk (dD _ Bq)
   ·exact nG this.2 (x:=k) hk Bq
  ·refine ck (N2 _ _) ?_
   rw[xh];exact aH _
  ·have hf: ∀j,(Array.replicate ops.size false).getD j false=false:=by
    intro j
    rw[tu,Array.getElem?_replicate]
    split<;>rfl
   obtain⟨⟨M,ν,hc⟩,hs,hd,xO⟩:=hI
   refine⟨by simp,λj o _ hS=>(by rw[hf]at hS;cases hS),σ,(p7.start us σ).congr (λj=>(by rw[hf];simp)),⟨M,ν,?_⟩,hs,hd,xO⟩
   exact hc.tr (Tr.drew hc.mem)
theorem D6{L:Option (List (Nat×CM))}(hL: ∀L',L=some L'→kW L'=true){b:Code}{Q:Exit→Act→World→Prop}{step:St→(St→Option α)→Option α}
  (hs: ∀σ a w kn (Q':Exit→Act→World→Prop),Inv c E σ a w→step σ kn=some r→(∀σ' a' w',kn σ'=some r→Inv c E σ' a' w'→Q' .normal a' w')→(∀e a' w',e≠ .normal→Q e a' w'→Q' e a' w')→b.wp P Q' a w):
  ∀n σ a w,Inv c E σ a w→DP L step n σ=some r→Code.rounds P b Q n a w
 |0,σ,a,w,_,h=>by cases h
 |n+1,σ,a,w,hI,h=>by
  rw[rounds_succ]
  refine hs σ a w _ _ hI h (fun σ' a' w' h' zD=> ?_) (λe a' w' he hq=> ?_)
  ·obtain⟨σ'',L4,akN⟩:=zZ zD hL h'
   exact D6 hL hs n σ'' a' w' akN L4
  ·cases e<;>first|exact hq|exact absurd rfl he
theorem V3(hE:tF P E): ∀(cd:Code) (σ:St) (a:Act) (w:World) (k:St→Option α) (kx:Nat→St→Option α) (kr:St→Option α) (Q:Exit→Act→World→Prop),Inv c E σ a w→FD E cd σ k kx kr=some r→
  (∀σ' a' w',k σ'=some r→Inv c E σ' a' w'→Q .normal a' w')→(∀i σ' a' w',kx i σ'=some r→Inv c E σ' a' w'→Q (.exit i) a' w')→(∀σ' a' w',kr σ'=some r→Inv c E σ' a' w'→Q .ret a' w')→cd.wp P Q a w:=by
 intro cd
 induction cd with
 |skip=>intro σ a w k kx kr Q hI h hk _ _;exact wp_skip (hk σ a w h hI)
 |region id ops draw=>intro σ a w k kx kr Q hI h hk _ _;exact JM hE hI h hk
 |seq x y ihx ihy=>
  intro σ a w k kx kr Q hI h hk hx hr
  refine wp_seq (ihx σ a w _ kx kr _ hI h (fun σ' a' w' h' zD=> ?_) hx hr)
  obtain⟨σ'',L4,akN⟩:=zZ zD (λL' hL=>by
   cases hf:da y with
   |none=>rw[hf]at hL;cases hL
   |some i=>rw[hf]at hL;exact hE.YH i L' hL) h'
  exact ihy σ'' a' w' k kx kr Q akN L4 hk hx hr
 |cond x t e iht ihe=>
  intro σ a w k kx kr Q hI h hk hx hr
  obtain⟨b,hb,h⟩:=OH (E:=E) (A:=fun σ'=>FD E t σ' k kx kr) (B:=fun σ'=>FD E e σ' k kx kr) hI h
  refine wp_cond hb ?_
  cases b
  ·exact ihe σ a w k kx kr Q hI h hk hx hr
  ·exact iht σ a w k kx kr Q hI h hk hx hr
 |block id x ih=>
  intro σ a w k kx kr Q hI h hk hx hr
  refine wp_block (ih σ a w k _ kr _ hI h hk (λi σ' a' w' h' zD=> ?_) hr)
  show if i=id then Q .normal a' w' else Q (.exit i) a' w'
  cases hb:Nat.beq i id
  ·have kN:i≠id:=λe=>by subst e;rw[show Nat.beq i i=true from pY i]at hb;cases hb
   rw[hb]at h'
   rw[ag kN]
   exact hx i σ' a' w' h' zD
  ·rw[hb]at h'
   rw[ak (fF hb)]
   exact hk σ' a' w' h' zD
 |loop b ih=>
  intro σ a w k kx kr Q hI h hk hx hr
  have hL: ∀L',(da b).bind E.xr=some L'→kW L'=true:=λL' hL=>by
   cases hf:da b with
   |none=>rw[hf]at hL;cases hL
   |some i=>rw[hf]at hL;exact hE.kW i L' hL
  obtain⟨σ',h',zD⟩:=zZ hI hL h
  refine wp_loop_rounds E.N (D6 hL (fun σ a w kn Q' hI h hkn hq=> ?_) E.N σ' a w zD h')
  exact ih σ a w kn kx kr Q' hI h hkn (λi σ' a' w' h' zD=>hq _ _ _ (by simp) (hx i σ' a' w' h' zD)) (fun σ' a' w' h' zD=>hq _ _ _ (by simp) (hr σ' a' w' h' zD))
 |rangeFunc f ps x y ihx ihy=>intro σ a w k kx kr Q hI h;cases h
 |exit id=>intro σ a w k kx kr Q hI h hk hx hr;exact wp_exit (hx id σ a w h hI)
 |scope x ih=>
  intro σ a w k kx kr Q hI h hk hx hr
  exact wp_scope_straight (ih σ a w k kx kr _ hI h hk hx hr)
 |label l=>intro σ a w k kx kr Q hI h hk _ _;exact wp_label (hk σ a w h hI)
 |goto l=>intro σ a w k kx kr Q hI h;cases h
 |ret=>intro σ a w k kx kr Q hI h hk hx hr;exact wp_ret (hr σ a w h hI)
 |refuse s=>intro σ a w k kx kr Q hI h;cases h
end VM
end
