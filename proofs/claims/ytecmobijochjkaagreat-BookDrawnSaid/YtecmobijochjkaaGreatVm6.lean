/- A part of the proof of BookDrawn of layer 18: a machine that reads a function of the program as an equation between values. -/
import Derived.Test.YtecmobijochjkaaGreatVm5
set_option linter.all false
open List renaming getD→γ
section
namespace VM
open Go
variable{α:Type}{r:α}
theorem OB{m:AM}{a:bE}{H:Nat→Option br}{k:m.den→(Nat→Option br)→List Nat→jI→jI→List (Nat×AM)→Option α}(h:o5 m a H k=some r):
  ∃y rd uo uf io,∃g:(Nat→Option br)→(Nat→Option br),k y (g H) rd uo uf io=some r∧(∀H' i,H' i=H i→g H' i=g H i)∧
   ∀H',Ag rd H H'→ ∀k':m.den→(Nat→Option br)→List Nat→jI→jI→List (Nat×AM)→Option α,o5 m a H' k'=k' y (g H') rd uo uf io:=by
 have OC: ∀(d:Nat) (v:Option br) (H':Nat→Option br) (i:Nat),H' i=H i→cq H' d v i=cq H d v i:=by
  intro d v H' i hi
  by_cases bk:i=d
  ·subst bk;rw[ay,ay]
  ·rw[az _ _ bk,az _ _ bk,hi]
 unfold o5 at h
 split at h
 ·rename_i τ k
  obtain⟨y,rd,ups,h1,h2⟩:=pQ h
  cases ups with
  |nil=>
   refine⟨y,rd,[],[],[],λH=>H,h1,λ_ _ h=>h,λH' hA k'=> ?_⟩
   unfold o5;simp only;rw[h2 H' hA]
  |cons u rest=>
   refine⟨y,rd,[],u::rest,[],λH=>cq H u.1 u.2,h1,λH' i hi=>OC _ _ H' i hi,λH' hA k'=> ?_⟩
   unfold o5;simp only;rw[h2 H' hA]
 ·rename_i e k
  split at h
  ·exact⟨[],[],[],[],[],λH=>H,h,λ_ _ h=>h,λ_ _ _=>rfl⟩
  ·rename_i id
   split at h
   ·rename_i e' l bk
    obtain⟨z,h1,h2⟩:=dK h
    refine⟨z,[id],_,_,_,λH=>cq H id (some .gone),h1,λH' i hi=>OC _ _ H' i hi,λH' hA k'=> ?_⟩
    unfold o5;simp only;rw[hA id (by simp),bk];simp only;rw[h2]
   ·cases h
  ·cases h
 ·rename_i τ k
  split at h
  ·rename_i id
   split at h
   ·rename_i υ x bk
    obtain⟨z,h1,h2⟩:=dK h
    refine⟨z,[id],_,_,_,λH=>cq H id (some .gone),h1,λH' i hi=>OC _ _ H' i hi,λH' hA k'=> ?_⟩
    unfold o5;simp only;rw[hA id (by simp),bk];simp only;rw[h2]
   ·cases h
  ·cases h
 ·rename_i f τ k
  split at h
  ·rename_i f' cs
   obtain⟨h1,h2⟩:=eE h
   obtain⟨x,rd,ups,h3,h4⟩:=OA h1
   cases ups with
   |nil=>
    refine⟨x,rd,[],[],[],λH=>H,h3,λ_ _ h=>h,λH' hA k'=> ?_⟩
    unfold o5;simp only;rw[h2,h4 H' hA]
   |cons _ _=>cases h3
  ·cases h
 ·cases h
 ·rename_i τ k
  split at h
  ·obtain⟨z,h1,h2⟩:=dK h
   refine⟨z,[],[],[],[],λH=>H,h1,λ_ _ h=>h,λH' hA k'=> ?_⟩
   unfold o5;simp only;rw[h2]
  ·cases h
 ·rename_i e k
  split at h
  ·rename_i id
   split at h
   ·rename_i e' l bk
    obtain⟨z,h1,h2⟩:=dK h
    refine⟨z,[id],_,_,_,λH=>cq H id (some .gone),h1,λH' i hi=>OC _ _ H' i hi,λH' hA k'=> ?_⟩
    unfold o5;simp only;rw[hA id (by simp),bk];simp only;rw[h2]
   ·cases h
  ·cases h
 ·cases h
theorem OD: ∀{ms:List AM} {rj:List bE} {H:Nat→Option br} {Ke:List Nat} {uo0 uf0:jI} {io0:List (Nat×AM)} {K:HP ms→List Nat→jI→jI→List (Nat×AM)→Option α},uU ms rj H Ke uo0 uf0 io0 K=some r→
  ∃x rd uo uf io,K x rd uo uf io=some r∧(∀i∈Ke,i∈rd)∧ ∀H',Ag rd H H'→ ∀K':HP ms→List Nat→jI→jI→List (Nat×AM)→Option α,uU ms rj H' Ke uo0 uf0 io0 K'=K' x rd uo uf io
 |[],[],H,Ke,uo0,uf0,io0,K,h=>⟨(),_,_,_,_,h,λ_ h=>h,λ_ _ _=>rfl⟩
 |[m],[a],H,Ke,uo0,uf0,io0,K,h=>by
  obtain⟨y,rd,uo,uf,io,g,h1,h2,h3⟩:=OB (h:o5 m a H _=some r)
  exact⟨y,_,_,_,_,h1,λi hi=>dC _ hi,λH' hA K'=>h3 H' (λi hi=>hA i (cU _ hi)) _⟩
 |m::n::ms,a::rj,H,Ke,uo0,uf0,io0,K,h=>by
  obtain⟨y,rd,uo,uf,io,g,h1,h2,h3⟩:=OB (h:o5 m a H _=some r)
  obtain⟨ys,yU,Nm,Nn,Ja,h4,h5,h6⟩:=OD (ms:=n::ms) h1
  refine⟨(y,ys),yU,Nm,Nn,Ja,h4,λi hi=>h5 i (dC _ hi),λH' hA K'=> ?_⟩
  refine(h3 H' (λi hi=>hA i (h5 i (cU _ hi))) _).trans ?_
  exact h6 (g H') (λi hi=>h2 H' i (hA i hi)) _
 |[],_::_,_,_,_,_,_,_,h=>by simp[uU]at h
 |[_],[],_,_,_,_,_,_,h=>by simp[uU]at h
 |[_],_::_::_,_,_,_,_,_,_,h=>by simp[uU]at h
 |_::_::_,[],_,_,_,_,_,_,h=>by simp[uU]at h
theorem YP{id i:Nat}: ∀{n:Nat},i∈N5 id n↔id≤i∧i<id+n
 |0=>by simp[N5]
 |n+1=>by simp only[N5,bc,YP];omega
theorem zK{H H':Nat→Option br}{id:Nat}: ∀{n:Nat},(∀i∈N5 id n,H' i=H i)→vG H' id n=vG H id n
 |0,_=>rfl
 |n+1,h=>by
  unfold vG
  rw[h (id+n) (by simp[N5]),zK λi hi=>h i (by simp[N5,hi])]
theorem YQ{E:Env}{f id:Nat}{rj:List bE}{H:Nat→Option br}{K:g7 α}(h:DL E f rj id H K=some r): ∃v rd ups,K v rd ups=some r∧ ∀H',Ag rd H H'→ ∀K':g7 α,DL E f rj id H' K'=K' v rd ups:=by
 unfold DL at h
 split at h
 ·cases h
 ·rename_i S hS
  obtain⟨x,rd,uo,uf,io,h1,_,h2⟩:=OD h
  obtain⟨y,hy,h3⟩:=uH.1 h1
  obtain⟨h4,h5⟩:=cD h3
  refine⟨_,_,_,h5,λH' hA K'=> ?_⟩
  unfold DL
  rw[hS]
  simp only
  rw[h2 H' (λi hi=>hA i (dC _ (dC _ hi))),hy]
  simp only[ar]
  rw[zK (λi hi=>hA i (cU _ hi)),h4]
  rfl
theorem VU{t:Ty}{z:Bool}{a:bE}{lo hi mx:Option bE}{H:Nat→Option br}{K:g7 α}(h:sy t z a lo hi mx H K=some r): ∃v rd ups,K v rd ups=some r∧ ∀H',Ag rd H H'→ ∀K':g7 α,sy t z a lo hi mx H' K'=K' v rd ups:=by
 unfold sy at h
 split at h
 ·obtain⟨h1,e1⟩:=eE h
  obtain⟨l,h2,e2⟩:=vO h1
  obtain⟨m,h3,e3⟩:=vO h2
  obtain⟨h4,e4⟩:=eE h3
  exact⟨_,_,_,h4,λH' _ K'=>by unfold sy;simp only;rw[e1,e2,e3,e4]⟩
 ·cases z
  ·obtain⟨h1,e1⟩:=eE (h:cond mx.isNone _ none=some r)
   obtain⟨l,h2,e2⟩:=vO h1
   obtain⟨m,h3,e3⟩:=vO h2
   obtain⟨h4,e4⟩:=eE h3
   exact⟨_,_,_,h4,λH' _ K'=>by unfold sy;simp only[av];rw[e1,e2,e3,e4]⟩
  ·exact⟨_,_,_,h,λH' _ K'=>by unfold sy;rfl⟩
 ·rename_i e kQ
  obtain⟨y,rd,ups,h1,e1⟩:=pQ h
  cases z
  ·obtain⟨h2,e2⟩:=eE (h1:cond (mx.isNone||hi.isSome) _ none=some r)
   obtain⟨l,h3,e3⟩:=vO h2
   obtain⟨m,h4,e4⟩:=vO h3
   obtain⟨n,h5,e5⟩:=vO h4
   obtain⟨h6,e6⟩:=eE h5
   refine⟨_,_,_,h6,λH' hA K'=> ?_⟩
   unfold sy
   simp only
   rw[e1 H' hA]
   simp only[av]
   rw[e2,e3,e4,e5,e6]
  ·refine⟨_,_,_,(h1:K .emp rd []=some r),λH' hA K'=> ?_⟩
   unfold sy
   simp only
   rw[e1 H' hA]
   rfl
 ·cases h
theorem JB{τ:Ty}{a i:bE}{H:Nat→Option br}{K:g7 α}(h:hZ τ a i H K=some r): ∃v rd ups,K v rd ups=some r∧ ∀H',Ag rd H H'→ ∀K':g7 α,hZ τ a i H' K'=K' v rd ups:=by
 unfold hZ at h
 obtain⟨k,n,h,e0⟩:=rr h
 split at h
 ·split at h
  ·obtain⟨z,h1,e1⟩:=dK h
   obtain⟨h2,e2⟩:=eE h1
   exact⟨_,_,_,h2,λH' _ K'=>by unfold hZ;rw[e0];simp only;rw[e1,e2]⟩
  ·split at h
   ·rename_i bk
    obtain⟨h1,e1⟩:=gM h
    obtain⟨h2,e2⟩:=eE h1
    exact⟨_,_,_,h2,λH' hA K'=>by unfold hZ;rw[e0];simp only;rw[hA _ (by simp),bk];simp only;rw[e1,e2]⟩
   ·rename_i bk
    obtain⟨h1,e1⟩:=gM h
    obtain⟨h2,e2⟩:=eE h1
    exact⟨_,_,_,h2,λH' hA K'=>by unfold hZ;rw[e0];simp only;rw[hA _ (by simp),bk];simp only;rw[e1,e2]⟩
   ·cases h
  ·cases h
 ·split at h
  ·obtain⟨υ,h1,e1⟩:=y8 h
   obtain⟨h2,e2⟩:=gM h1
   obtain⟨h3,e3⟩:=eE h2
   exact⟨_,_,_,h3,λH' hA K'=>by unfold hZ;rw[e0];simp only;rw[e1 H' (hA _ (by simp)),e2,e3]⟩
  ·obtain⟨z,h1,e1⟩:=dK h
   obtain⟨h2,e2⟩:=eE h1
   exact⟨_,_,_,h2,λH' _ K'=>by unfold hZ;rw[e0];simp only;rw[e1,e2]⟩
  ·cases h
 ·cases h
theorem VV{τ:Ty}{a i:bE}{K:bE→Option α}(h:xE τ a i K=some r): ∃v,K v=some r∧ ∀K':bE→Option α,xE τ a i K'=K' v:=by
 unfold xE at h
 obtain⟨k,n,h,e0⟩:=rr h
 split at h
 ·obtain⟨z,h1,e1⟩:=dK h
  obtain⟨h2,e2⟩:=eE h1
  exact⟨_,h2,λK'=>by unfold xE;rw[e0];simp only;rw[e1,e2]⟩
 ·obtain⟨h2,e2⟩:=eE h
  exact⟨_,h2,λK'=>by unfold xE;rw[e0];simp only;rw[e2]⟩
 ·cases h
theorem YR{a:bE}{H:Nat→Option br}{K:(υ:Ty)→υ.den→List Nat→Option α}(h:lZ a H K=some r): ∃υ y rd,K υ y rd=some r∧ ∀H',Ag rd H H'→ ∀K':(υ:Ty)→υ.den→List Nat→Option α,lZ a H' K'=K' υ y rd:=by
 unfold lZ at h
 split at h
 ·exact⟨_,_,_,h,λ_ _ _=>rfl⟩
 ·split at h
  ·rename_i bk
   obtain⟨υ,y,h1,e1⟩:=iL h
   exact⟨_,_,_,h1,λH' hA K'=>by unfold lZ;simp only;rw[hA _ (by simp),bk];simp only;rw[e1]⟩
  ·rename_i bk
   split at h
   ·obtain⟨υ,y,h1,e1⟩:=iL h
    exact⟨_,_,_,h1,λH' hA K'=>by unfold lZ;simp only;rw[hA _ (by simp),bk];simp only;rw[e1]⟩
   ·cases h
  ·rename_i bk
   split at h
   ·obtain⟨υ,y,h1,e1⟩:=iL h
    exact⟨_,_,_,h1,λH' hA K'=>by unfold lZ;simp only;rw[hA _ (by simp),bk];simp only;rw[e1]⟩
   ·cases h
  ·cases h
 ·cases h
theorem VW{τ:Ty}{a v:bE}{H:Nat→Option br}{K:g7 α}(h:nf τ a v H K=some r): ∃u rd ups,K u rd ups=some r∧ ∀H',Ag rd H H'→ ∀K':g7 α,nf τ a v H' K'=K' u rd ups:=by
 unfold nf at h
 split at h
 ·obtain⟨y,rd,ups,h1,e1⟩:=pQ h
  split at h1
  ·rename_i bk
   obtain⟨z,h2,e2⟩:=pP h1
   exact⟨_,_,_,h2,λH' hA K'=>by
    unfold nf;simp only
    rw[e1 H' (λi hi=>hA i (a8 _ hi))]
    rw[hA _ (by simp),bk];simp only;rw[e2]⟩
  ·rename_i bk
   split at h1
   ·obtain⟨h2,e2⟩:=u5 h1
    obtain⟨z,h3,e3⟩:=pP h2
    exact⟨_,_,_,h3,λH' hA K'=>by
     unfold nf;simp only
     rw[e1 H' (λi hi=>hA i (a8 _ hi))]
     rw[hA _ (by simp),bk];simp only;rw[e2,e3]⟩
   ·cases h1
  ·cases h1
 ·cases h
theorem acF{j:Nat}{q:List Step}{τ:Ty}{x:τ.den}{H:Nat→Option br}{k:τ.den→jI→Option α}(h:EN j q τ x H k=some r): ∃z ups,k z ups=some r∧ ∀H',H' j=H j→ ∀k':τ.den→jI→Option α,EN j q τ x H' k'=k' z ups:=by
 unfold EN at h
 split at h
 ·rename_i hj
  obtain⟨z,h1,e1⟩:=pP h
  exact⟨_,_,h1,λH' hA k'=>by unfold EN;rw[hA,hj];simp only;rw[e1]⟩
 ·rename_i hj
  obtain⟨z,h1,e1⟩:=pP h
  exact⟨_,_,h1,λH' hA k'=>by unfold EN;rw[hA,hj];simp only;rw[e1]⟩
 ·cases h
abbrev Pts(F:(Nat→Option br)→g7 α→Option α)(H:Nat→Option br)(K:g7 α)(r:α):Prop:=
 ∃v rd ups,K v rd ups=some r∧ ∀H',Ag rd H H'→ ∀K':g7 α,F H' K'=K' v rd ups
theorem YS{τ:Ty}{a:bE}{H:Nat→Option br}{K:g7 α}(h:(lZ a H fun υ y rd=>cP υ τ y λz=>K (.val τ z) rd [])=some r):
  Pts (λH K=>lZ a H fun υ y rd=>cP υ τ y λz=>K (.val τ z) rd []) H K r:=by
 obtain⟨υ,y,rd,h1,e1⟩:=YR h
 obtain⟨z,h2,e2⟩:=dK h1
 exact⟨_,_,_,h2,λH' hA K'=>by simp only;rw[e1 H' hA,e2]⟩
theorem apW{id:Nat}{p:List Step}{H:Nat→Option br}{K:(υ:Ty)→υ.den→List Nat→Option α}(h:lZ (.jH id p) H K=some r): ∃υ y,K υ y [id]=some r:=by
 unfold lZ at h
 simp only at h
 split at h
 ·obtain⟨υ,y,h1,_⟩:=iL h;exact⟨υ,y,h1⟩
 ·split at h
  ·obtain⟨υ,y,h1,_⟩:=iL h;exact⟨υ,y,h1⟩
  ·cases h
 ·split at h
  ·obtain⟨υ,y,h1,_⟩:=iL h;exact⟨υ,y,h1⟩
  ·cases h
 ·cases h
theorem YT{τ:Ty}{id:Nat}{p:List Step}{H:Nat→Option br}{K:g7 α}(h:(lZ (.jH id p) H fun υ y rd=>cP υ τ y λz=>K (.val τ z) rd [])=some r):
  ∃z,K (.val τ z) [id] []=some r∧ ∀H',H' id=H id→ ∀K':g7 α,(lZ (.jH id p) H' fun υ y rd=>cP υ τ y λz=>K' (.val τ z) rd [])=K' (.val τ z) [id] []:=by
 unfold lZ at h
 simp only at h
 split at h
 ·rename_i bk
  obtain⟨υ,y,h1,e1⟩:=iL h
  obtain⟨z,h2,e2⟩:=dK h1
  exact⟨_,h2,λH' hA K'=>by unfold lZ;simp only;rw[hA,bk];simp only;rw[e1,e2]⟩
 ·rename_i bk
  split at h
  ·obtain⟨υ,y,h1,e1⟩:=iL h
   obtain⟨z,h2,e2⟩:=dK h1
   exact⟨_,h2,λH' hA K'=>by unfold lZ;simp only;rw[hA,bk];simp only;rw[e1,e2]⟩
  ·cases h
 ·rename_i bk
  split at h
  ·obtain⟨υ,y,h1,e1⟩:=iL h
   obtain⟨z,h2,e2⟩:=dK h1
   exact⟨_,h2,λH' hA K'=>by unfold lZ;simp only;rw[hA,bk];simp only;rw[e1,e2]⟩
  ·cases h
 ·cases h
theorem OE{τ:Ty}{a:bE}{H:Nat→Option br}{K:g7 α}(h:uV τ a H K=some r):Pts (uV τ a) H K r:=by
 unfold uV at h
 simp only at h
 split at h
 ·rename_i id p
  split at h
  ·rename_i υ x q j bk
   cases hp:Nl p q
   ·cases Jc:zt p q
    ·rw[hp,Jc]at h
     simp only[av]at h
     obtain⟨υ',y,h1,e1⟩:=iL h
     obtain⟨z,h2,e2⟩:=dK h1
     exact⟨_,_,_,h2,λH' hA K'=>by
      unfold uV;simp only;rw[hA id (by simp),bk];simp only
      rw[hp,Jc];simp only[av];rw[e1,e2]⟩
    ·rw[hp,Jc]at h
     simp only[av,aj]at h
     obtain⟨z,ups,h1,e1⟩:=acF h
     obtain⟨υ',y,h2,e2⟩:=iL h1
     obtain⟨z',h3,e3⟩:=dK h2
     exact⟨_,_,_,h3,λH' hA K'=>by
      unfold uV;simp only;rw[hA id (by simp),bk];simp only
      rw[hp,Jc];simp only[av,aj];rw[e1 H' (hA j (by simp)),e2,e3]⟩
   ·rw[hp]at h
    simp only[aj]at h
    obtain⟨h1,e1⟩:=eE h
    exact⟨_,_,_,h1,λH' hA K'=>by
     unfold uV;simp only;rw[hA id (by simp),bk];simp only
     rw[hp];simp only[aj];rw[e1]⟩
  ·rename_i rm
   obtain⟨z,h1,e1⟩:=YT h
   refine⟨_,_,_,h1,λH' hA K'=> ?_⟩
   unfold uV;simp only;rw[hA id (by simp)]
   split
   ·rename_i bk;exact absurd bk (rm _ _ _ _)
   ·exact e1 H' (hA id (by simp)) K'
 ·rename_i rm
  obtain⟨v,rd,ups,h1,e1⟩:=YS h
  refine⟨v,rd,ups,h1,λH' hA K'=> ?_⟩
  have:uV τ a H' K'=lZ a H' fun υ y rd=>cP υ τ y λz=>K' (.val τ z) rd []:=by
   unfold uV
   cases a<;>first|rfl|exact absurd rfl (rm _ _)
  rw[this]
  exact e1 H' hA K'
theorem OF{τ:Ty}{id k:Nat}{e:Ty}{q:List Step}{υ:Ty}{x:υ.den}{H:Nat→Option br}{K:g7 α}(h:DM τ id k e q υ x H K=some r):
  ∃v ups,K v [id,k] ups=some r∧ ∀H',H' k=H k→ ∀K':g7 α,DM τ id k e q υ x H' K'=K' v [id,k] ups:=by
 unfold DM at h
 split at h
 ·rename_i bk
  obtain⟨h1,e1⟩:=gM h
  obtain⟨h2,e2⟩:=gM h1
  obtain⟨z,h3,e3⟩:=pP h2
  exact⟨_,_,h3,λH' hA K'=>by unfold DM;rw[hA,bk];simp only;rw[e1,e2,e3]⟩
 ·cases h
theorem CR{τ:Ty}{id:Nat}{p:List Step}{v:bE}{H:Nat→Option br}{K:g7 α}(h:nf τ (.jH id p) v H K=some r):
  ∃u rd ups,id∈rd∧K u rd ups=some r∧ ∀H',Ag rd H H'→ ∀K':g7 α,nf τ (.jH id p) v H' K'=K' u rd ups:=by
 unfold nf at h
 simp only at h
 obtain⟨y,rd,ups,h1,e1⟩:=pQ h
 split at h1
 ·rename_i bk
  obtain⟨z,h2,e2⟩:=pP h1
  exact⟨_,_,_,by simp,h2,λH' hA K'=>by
   unfold nf;simp only
   rw[e1 H' (λi hi=>hA i (a8 _ hi))]
   rw[hA _ (by simp),bk];simp only;rw[e2]⟩
 ·rename_i bk
  split at h1
  ·obtain⟨h2,e2⟩:=u5 h1
   obtain⟨z,h3,e3⟩:=pP h2
   exact⟨_,_,_,by simp,h3,λH' hA K'=>by
    unfold nf;simp only
    rw[e1 H' (λi hi=>hA i (a8 _ hi))]
    rw[hA _ (by simp),bk];simp only;rw[e2,e3]⟩
  ·cases h1
 ·cases h1
theorem CS{E:Env}{τ:Ty}{a v:bE}{H:Nat→Option br}{K:g7 α}(h:kX E τ a v H K=some r):
  ∃u rd ups,K u rd ups=some r∧ ∀H',Ag rd H H'→ ∀K':g7 α,kX E τ a v H' K'=K' u rd ups:=by
 have h0:=h
 unfold kX at h
 simp only at h
 split at h
 ·rename_i id p
  split at h
  ·rename_i υ x bk
   split at h
   ·rename_i q e k q5
    cases hp:Nl p q
    ·rw[hp]at h
     simp only[av]at h
     obtain⟨u,rd,ups,hi,h1,e1⟩:=CR h
     refine⟨u,rd,ups,h1,λH' hA K'=> ?_⟩
     unfold kX;simp only;rw[hA id hi,bk];simp only;rw[q5];simp only;rw[hp];simp only[av]
     exact e1 H' hA K'
    ·rw[hp]at h
     simp only[aj]at h
     obtain⟨u,ups,h1,e1⟩:=OF h
     refine⟨u,_,ups,h1,λH' hA K'=> ?_⟩
     unfold kX;simp only;rw[hA id (by simp),bk];simp only;rw[q5];simp only;rw[hp];simp only[aj]
     exact e1 H' (hA k (by simp)) K'
   ·rename_i rm
    obtain⟨u,rd,ups,hi,h1,e1⟩:=CR h
    refine⟨u,rd,ups,h1,λH' hA K'=> ?_⟩
    unfold kX;simp only;rw[hA id hi,bk];simp only
    exact e1 H' hA K'
  ·rename_i υ x q j bk
   have Bv:(m9 true v H τ λy rd ups=>wZ τ y p υ x λz=>K .any (id::rd) (ups++[(id,some (cond (zt p q) (.obj υ z) (.gn υ z q j)))]))=some r→
     ∃u rd ups,id∈rd∧K u rd ups=some r∧ ∀H',Ag rd H H'→ ∀K':g7 α,(m9 true v H' τ λy rd ups=>wZ τ y p υ x λz=>K' .any (id::rd) (ups++[(id,some (cond (zt p q) (.obj υ z) (.gn υ z q j)))]))=K' u rd ups:=by
    intro h
    obtain⟨y,rd,ups,h1,e1⟩:=pQ h
    obtain⟨z,h2,e2⟩:=pP h1
    exact⟨_,_,_,by simp,h2,λH' hA K'=>by rw[e1 H' (λi hi=>hA i (a8 _ hi)),e2]⟩
   split at h
   ·rename_i q' e k q5
    cases hp:(Nl p q&&Nl q q')
    ·rw[hp]at h
     simp only[av]at h
     obtain⟨u,rd,ups,hi,h1,e1⟩:=Bv h
     refine⟨u,rd,ups,h1,λH' hA K'=> ?_⟩
     unfold kX;simp only;rw[hA id hi,bk];simp only;rw[q5];simp only;rw[hp];simp only[av]
     exact e1 H' hA K'
    ·rw[hp]at h
     simp only[aj]at h
     obtain⟨u,ups,h1,e1⟩:=OF h
     refine⟨u,_,ups,h1,λH' hA K'=> ?_⟩
     unfold kX;simp only;rw[hA id (by simp),bk];simp only;rw[q5];simp only;rw[hp];simp only[aj]
     exact e1 H' (hA k (by simp)) K'
   ·rename_i rm
    obtain⟨u,rd,ups,hi,h1,e1⟩:=Bv h
    refine⟨u,rd,ups,h1,λH' hA K'=> ?_⟩
    unfold kX;simp only;rw[hA id hi,bk];simp only
    exact e1 H' hA K'
  ·rename_i avP avQ
   obtain⟨u,rd,ups,hi,h1,e1⟩:=CR h
   refine⟨u,rd,ups,h1,λH' hA K'=> ?_⟩
   unfold kX;simp only;rw[hA id hi]
   split
   ·rename_i bk;exact absurd bk (avP _ _)
   ·rename_i bk;exact absurd bk (avQ _ _ _ _)
   ·exact e1 H' hA K'
 ·rename_i rm
  obtain⟨u,rd,ups,h1,e1⟩:=VW h
  refine⟨u,rd,ups,h1,λH' hA K'=> ?_⟩
  have:kX E τ a v H' K'=nf τ a v H' K':=by
   unfold kX
   cases a<;>first|rfl|exact absurd rfl (rm _ _)
  rw[this]
  exact e1 H' hA K'
theorem VX{E:Env}{τ:Ty}{a v:bE}{H:Nat→Option br}{K:g7 α}(h:uq E τ a v H K=some r):
  ∃u rd ups,K u rd ups=some r∧ ∀H',Ag rd H H'→ ∀K':g7 α,uq E τ a v H' K'=K' u rd ups:=by
 unfold uq at h
 split at h
 ·rename_i id υ y n
  split at h
  ·rename_i m e q5
   cases CJ:Nat.beq m n
   ·rw[CJ]at h
    simp only[av]at h
    obtain⟨u,rd,ups,h1,e1⟩:=CS h
    exact⟨u,rd,ups,h1,λH' hA K'=>by unfold uq;simp only;rw[q5];simp only;rw[CJ];simp only[av];exact e1 H' hA K'⟩
   ·rw[CJ]at h
    simp only[aj]at h
    obtain⟨h1,e1⟩:=gM h
    obtain⟨υ',h2,e2⟩:=y8 h1
    obtain⟨h3,e3⟩:=gM h2
    obtain⟨h4,e4⟩:=y9 h3
    exact⟨_,_,_,h4,λH' hA K'=>by unfold uq;simp only;rw[q5];simp only;rw[CJ];simp only[aj];rw[e1,e2 H' (hA _ (by simp)),e3,e4 H' (hA _ (by simp))]⟩
  ·rename_i rm
   obtain⟨u,rd,ups,h1,e1⟩:=CS h
   refine⟨u,rd,ups,h1,λH' hA K'=> ?_⟩
   unfold uq;simp only
   exact e1 H' hA K'
 ·rename_i rm
  obtain⟨u,rd,ups,h1,e1⟩:=CS h
  refine⟨u,rd,ups,h1,λH' hA K'=> ?_⟩
  unfold uq
  split
  ·exact absurd rfl (rm _ _ _ _ rfl)
  ·exact e1 H' hA K'
theorem VY{E:Env}{t:Ty}{z:Bool}{a:bE}{lo hi mx:Option bE}{H:Nat→Option br}{K:g7 α}(h:xD E t z a lo hi mx H K=some r): ∃v rd ups,K v rd ups=some r∧ ∀H',Ag rd H H'→ ∀K':g7 α,xD E t z a lo hi mx H' K'=K' v rd ups:=by
 unfold xD at h
 split at h
 ·rename_i e id lo' hvw
  obtain⟨k,i,h1,e1⟩:=rr h
  split at h1
  ·rename_i e' l bk
   obtain⟨h2,e2⟩:=gM h1
   obtain⟨h3,e3⟩:=eE h2
   refine⟨_,_,_,h3,λH' hA K'=> ?_⟩
   unfold xD;rw[hvw];simp only
   rw[e1,hA id (by simp),bk];simp only
   rw[e2,e3]
  ·cases h1
 ·rename_i rm
  obtain⟨v,rd,ups,h1,e1⟩:=VU h
  refine⟨v,rd,ups,h1,λH' hA K'=> ?_⟩
  unfold xD
  split
  ·rename_i hvw;exact absurd rfl (rm _ _ _ hvw rfl rfl rfl rfl)
  ·exact e1 H' hA K'
theorem VZ{e:Ty}{a:bE}{H:Nat→Option br}{K:g7 α}(h:zV e a H K=some r): ∃v rd ups,K v rd ups=some r∧ ∀H',Ag rd H H'→ ∀K':g7 α,zV e a H' K'=K' v rd ups:=by
 unfold zV at h
 split at h
 ·rename_i id e' lo
  obtain⟨h1,e1⟩:=gM h
  split at h1
  ·rename_i e2 l bk
   obtain⟨z,h2,e3⟩:=dK h1
   refine⟨_,_,_,h2,λH' hA K'=> ?_⟩
   unfold zV;simp only
   rw[e1,hA id (by simp),bk];simp only
   rw[e3]
  ·cases h1
 ·cases h
theorem V0{E:Env}{τ:Ty}{a v:bE}{H:Nat→Option br}{K:g7 α}(h:xF E τ a v H K=some r):
  ∃u rd ups,K u rd ups=some r∧ ∀H',Ag rd H H'→ ∀K':g7 α,xF E τ a v H' K'=K' u rd ups:=by
 unfold xF at h
 split at h
 ·rename_i id υ y n j
  split at h
  ·rename_i m e q5
   obtain⟨h1,e1⟩:=eE h
   obtain⟨h2,e2⟩:=gM h1
   obtain⟨υ',h3,e3⟩:=y8 h2
   obtain⟨h4,e4⟩:=gM h3
   split at h4
   ·rename_i e' l hj
    obtain⟨h5,e5⟩:=gM h4
    refine⟨_,_,_,h5,λH' hA K'=> ?_⟩
    unfold xF;simp only;rw[q5];simp only
    rw[e1,e2,e3 H' (hA _ (by simp)),e4,hA j (by simp),hj];simp only
    rw[e5]
   ·cases h4
  ·cases h
 ·rename_i rm
  obtain⟨u,rd,ups,h1,e1⟩:=VX h
  refine⟨u,rd,ups,h1,λH' hA K'=> ?_⟩
  unfold xF
  split
  ·exact absurd rfl (rm _ _ _ _ _ rfl)
  ·exact e1 H' hA K'
theorem YU{E:Env}{τ:Ty}{a:bE}{H:Nat→Option br}{K:g7 α}(h:Bh E τ a H K=some r):
  ∃u rd ups,K u rd ups=some r∧ ∀H',Ag rd H H'→ ∀K':g7 α,Bh E τ a H' K'=K' u rd ups:=by
 unfold Bh at h
 split at h
 ·rename_i id Vz
  split at h
  ·rename_i υ x n j bk
   obtain⟨z,h1,e1⟩:=dK h
   refine⟨_,_,_,h1,λH' hA K'=> ?_⟩
   unfold Bh;rw[Vz];simp only;rw[hA id (by simp),bk];simp only
   rw[e1]
  ·rename_i rm
   obtain⟨u,rd,ups,h1,e1⟩:=OE h
   refine⟨_,_,_,h1,λH' hA K'=> ?_⟩
   unfold Bh;rw[Vz];simp only;rw[hA id (by simp)]
   split
   ·rename_i bk;exact absurd bk (rm _ _ _ _)
   ·exact e1 H' (λi hi=>hA i (a8 _ hi)) _
 ·rename_i rm
  obtain⟨u,rd,ups,h1,e1⟩:=OE h
  refine⟨u,rd,ups,h1,λH' hA K'=> ?_⟩
  unfold Bh
  split
  ·rename_i Vz;exact absurd rfl (rm _ Vz)
  ·exact e1 H' hA K'
theorem Uj{H:Nat→Option br}{id:Nat}{τ:Ty}{x:τ.den}{q:List Step}{e:Ty}{K:g7 α}(h:EO H id τ x q e K=some r):Pts (λH K=>EO H id τ x q e K) H K r:=by
 obtain⟨h1,h2,h3⟩:=GI h
 exact⟨_,_,_,h3,λH' hA K'=>by unfold EO sv;simp only;rw[hA id (by simp),h1,hA (id+1) (by simp),h2]⟩
theorem akM{E:Env}{o:Oper}{ρ:Operand→bE}{H:Nat→Option br}{K:g7 α}(h:tL E o ρ H K=some r):
  ∃v rd ups,K v rd ups=some r∧ ∀ρ' H',(∀x∈o.op.operands,ρ' x=ρ x)→Ag rd H H'→ ∀K':g7 α,tL E o ρ' H' K'=K' v rd ups:=by
 obtain⟨dst,op,type,pos,after,guard⟩:=o
 unfold tL at h
 simp only at h
 have acG: ∀{ρ':Operand→bE} (xs:List Operand),(∀x∈xs,ρ' x=ρ x)→xs.map ρ'=xs.map ρ:=λxs hx=>p4 hx
 have LV: ∀{ρ':Operand→bE} (ps:Array (Nat×Operand)),(∀x∈ps.map (·.2),ρ' x=ρ x)→partsOf ρ' ps=partsOf ρ ps:=λps hp=>by
  unfold partsOf
  exact p4 λp hm=>by rw[hp p.2 (Array.mem_map.2 ⟨p,by simpa using hm,rfl⟩)]
 have akN: ∀{ρ':Operand→bE} (x:Option Operand),(∀y∈x,ρ' y=ρ y)→x.map ρ'=x.map ρ:=λx hx=>by
  cases x with
  |none=>rfl
  |some x=>simp[hx x rfl]
 split at h
 ·
  rename_i x
  exact⟨_,_,_,h,fun ρ' H' hx _ K'=>by unfold tL;simp only;rw[hx x (by simp[Op.operands])]⟩
 ·rename_i x
  exact⟨_,_,_,h,fun ρ' H' hx _ K'=>by unfold tL;simp only;rw[hx x (by simp[Op.operands])]⟩
 ·rename_i x y z
  split at h
  ·rename_i t hx
   cases t
   ·exact⟨_,_,_,(h:K (ρ z) [] []=some r),fun ρ' H' o7 _ K'=>by unfold tL;simp only;rw[o7 x (by simp[Op.operands]),hx,o7 z (by simp[Op.operands])];rfl⟩
   ·exact⟨_,_,_,(h:K (ρ y) [] []=some r),fun ρ' H' o7 _ K'=>by unfold tL;simp only;rw[o7 x (by simp[Op.operands]),hx,o7 y (by simp[Op.operands])];rfl⟩
  ·cases h
 ·
  split at h
  ·rename_i τ ht
   split at h
   ·rename_i q e q5
    obtain⟨v,rd,ups,h1,e1⟩:=Uj h
    exact⟨_,_,_,h1,fun ρ' H' hx hA K'=>by unfold tL;simp only;rw[ht];simp only;rw[q5];exact e1 H' hA K'⟩
   ·rename_i q5
    obtain⟨h1,e1⟩:=y9 h
    exact⟨_,_,_,h1,fun ρ' H' hx hA K'=>by unfold tL;simp only;rw[ht];simp only;rw[q5];simp only;rw[e1 H' (hA _ (by simp))]⟩
  ·cases h
 ·
  rename_i t x
  split at h
  ·rename_i τ ht
   have hold:(m9 true (ρ x) H τ λy rd ups=>sv H (16*dst.getD 0) (.obj τ y) (K (.jH (16*dst.getD 0) []) (16*dst.getD 0::rd) (ups++[(16*dst.getD 0,some (.obj τ y))])))=some r→
     Pts (λH K=>m9 true (ρ x) H τ λy rd ups=>sv H (16*dst.getD 0) (.obj τ y) (K (.jH (16*dst.getD 0) []) (16*dst.getD 0::rd) (ups++[(16*dst.getD 0,some (.obj τ y))]))) H K r:=by
    intro h
    obtain⟨y,rd,ups,h1,e1⟩:=pQ h
    obtain⟨h2,e2⟩:=y9 h1
    exact⟨_,_,_,h2,λH' hA K'=>by simp only;rw[e1 H' (λi hi=>hA i (a8 _ hi)),e2 H' (hA _ (by simp))]⟩
   split at h
   ·rename_i m e υ y n q5 YV
    cases CJ:Nat.beq m n
    ·rw[CJ]at h
     obtain⟨v,rd,ups,h1,e1⟩:=hold h
     refine⟨_,_,_,h1,fun ρ' H' hx hA K'=> ?_⟩
     unfold tL;simp only;rw[ht];simp only
     rw[hx x (by simp[Op.operands]),q5,YV];simp only
     rw[CJ]
     have:=e1 H' hA K'
     rw[YV]at this
     exact this
    ·rw[CJ]at h
     simp only[aj]at h
     obtain⟨z,h1,e1⟩:=dK h
     obtain⟨v,rd,ups,h2,e2⟩:=Uj h1
     refine⟨_,_,_,h2,fun ρ' H' hx hA K'=> ?_⟩
     unfold tL;simp only;rw[ht];simp only
     rw[hx x (by simp[Op.operands]),q5,YV];simp only
     rw[CJ];simp only[aj]
     rw[e1]
     exact e2 H' hA K'
   ·rename_i rm
    obtain⟨v,rd,ups,h1,e1⟩:=hold h
    refine⟨_,_,_,h1,fun ρ' H' hx hA K'=> ?_⟩
    unfold tL;simp only;rw[ht];simp only
    rw[hx x (by simp[Op.operands])]
    split
    ·rename_i q5 YV;exact absurd YV (rm _ _ _ _ _ q5)
    ·exact e1 H' hA K'
  ·cases h
 ·
  rename_i t ps
  split at h
  ·rename_i n e ht
   obtain⟨l,rd,ups,h1,_,e1⟩:=G7 h
   exact⟨_,_,_,h1,fun ρ' H' hx hA K'=>by unfold tL;simp only;rw[ht];simp only;rw[LV ps (λx o7=>hx x (by simpa [Op.operands]using o7)),e1 H' hA]⟩
  ·rename_i τ Yv ht
   split at h
   ·rename_i n k hs
    split at h
    ·rename_i e' l' hk
     obtain⟨h0,e0⟩:=eE h
     obtain⟨l,rd,ups,h1,_,e1⟩:=CQ h0
     refine⟨_,_,_,h1,fun ρ' H' hx hA K'=> ?_⟩
     unfold tL;simp only;rw[ht]
     cases τ with
     |arr n e=>exact absurd rfl (Yv n e)
     |_=>
      simp only
      rw[LV ps (λx o7=>hx x (by simpa [Op.operands]using o7)),hs];simp only
      rw[hA k (by simp),hk];simp only
      rw[e0,e1 H' (λi hi=>hA i (a8 _ hi))]
    ·cases h
   ·rename_i hs
    obtain⟨h0,e0⟩:=eE h
    obtain⟨l,rd,ups,h1,_,e1⟩:=CQ h0
    refine⟨_,_,_,h1,fun ρ' H' hx hA K'=> ?_⟩
    unfold tL;simp only;rw[ht]
    cases τ with
    |arr n e=>exact absurd rfl (Yv n e)
    |_=>
     simp only
     rw[LV ps (λx o7=>hx x (by simpa [Op.operands]using o7)),hs];simp only
     rw[e0,e1 H' hA]
  ·cases h
 ·
  rename_i t n ps
  split at h
  ·rename_i e ht
   obtain⟨h0,e0⟩:=eE h
   obtain⟨h1,e1⟩:=y9 h0
   obtain⟨l,rd,ups,h2,_,e2⟩:=G7 h1
   exact⟨_,_,_,h2,fun ρ' H' hx hA K'=>by
    unfold tL;simp only;rw[ht];simp only
    rw[e0,e1 H' (hA _ (by simp)),LV ps (λx o7=>hx x (by simpa [Op.operands]using o7)),e2 H' (λi hi=>hA i (a8 _ hi))]⟩
  ·cases h
 ·
  rename_i t x
  split at h
  ·rename_i τ ht
   obtain⟨v,rd,ups,h1,e1⟩:=YU h
   exact⟨_,_,_,h1,fun ρ' H' hx hA K'=>by unfold tL;simp only;rw[ht];simp only;rw[hx x (by simp[Op.operands]),e1 H' hA]⟩
  ·cases h
 ·
  rename_i t x y
  split at h
  ·rename_i τ ht
   obtain⟨u,rd,ups,h1,e1⟩:=V0 h
   exact⟨_,_,_,h1,fun ρ' H' hx hA K'=>by unfold tL;simp only;rw[ht];simp only;rw[hx x (by simp[Op.operands]),hx y (by simp[Op.operands]),e1 H' hA]⟩
  ·cases h
 ·
  rename_i x
  split at h
  ·rename_i id p hx
   exact⟨_,_,_,h,fun ρ' H' o7 _ K'=>by unfold tL;simp only;rw[o7 x (by simp[Op.operands]),hx]⟩
  ·rename_i τ z hx
   exact⟨_,_,_,h,fun ρ' H' o7 _ K'=>by unfold tL;simp only;rw[o7 x (by simp[Op.operands]),hx]⟩
  ·cases h
 ·
  rename_i b t x y t'
  obtain⟨τ,x1,h1,e1⟩:=Ui h
  obtain⟨υ,y1,h2,e2⟩:=Ui h1
  obtain⟨v,h3,e3⟩:=YN h2
  exact⟨_,_,_,h3,fun ρ' H' hx _ K'=>by unfold tL;simp only;rw[hx x (by simp[Op.operands]),hx y (by simp[Op.operands]),e1,e2,e3]⟩
 ·
  rename_i u t x
  obtain⟨v,h1,e1⟩:=acC h
  exact⟨_,_,_,h1,fun ρ' H' hx _ K'=>by unfold tL;simp only;rw[hx x (by simp[Op.operands]),e1]⟩
 ·
  rename_i s d x
  split at h
  ·rename_i τ k hs hd
   obtain⟨i,n,h1,e1⟩:=rr h
   exact⟨_,_,_,h1,fun ρ' H' hx _ K'=>by unfold tL;simp only;rw[hs,hd];simp only;rw[hx x (by simp[Op.operands]),e1]⟩
  ·cases h
 ·
  rename_i f first caps
  obtain⟨h1,e1⟩:=eE h
  obtain⟨cs,rd,ups,h3,e3⟩:=G9 h1
  exact⟨_,_,_,h3,fun ρ' H' hx hA K'=>by unfold tL;simp only;rw[acG caps.toList (λx o7=>hx x (by simp[Op.operands];exact .inr (by simpa using o7))),e1,e3 H' hA]⟩
 ·
  rename_i t x y
  split at h
  ·rename_i e ht
   obtain⟨i,n,h1,e1⟩:=rr h
   obtain⟨i',n',h2,e2⟩:=rr h1
   obtain⟨h3,e3⟩:=eE h2
   obtain⟨h4,e4⟩:=y9 h3
   exact⟨_,_,_,h4,fun ρ' H' hx hA K'=>by
    unfold tL;simp only;rw[ht];simp only
    rw[hx x (by simp[Op.operands]),e1,hx y (by simp[Op.operands]),e2,e3,e4 H' (hA _ (by simp))]⟩
  ·cases h
 ·
  rename_i t x lo hi mx
  split at h
  ·rename_i τ ht
   obtain⟨v,rd,ups,h1,e1⟩:=VY h
   exact⟨_,_,_,h1,fun ρ' H' hx hA K'=>by
    unfold tL;simp only;rw[ht];simp only
    rw[hx x (by simp[Op.operands]),akN lo (λy hy=>hx y (by simp at hy;simp[Op.operands,hy])),akN hi (λy hy=>hx y (by simp at hy;simp[Op.operands,hy])),akN mx (λy hy=>hx y (by simp at hy;simp[Op.operands,hy])),e1 H' hA]⟩
  ·cases h
 ·
  rename_i t x n
  split at h
  ·rename_i τ ht
   split at h
   ·rename_i id p hx
    obtain⟨υ,h1,e1⟩:=y8 h
    obtain⟨h2,e2⟩:=gM h1
    obtain⟨υ',y',h3,e3⟩:=y7 h2
    obtain⟨h4,e4⟩:=u5 h3
    exact⟨_,_,_,h4,fun ρ' H' o7 hA K'=>by
     unfold tL;simp only;rw[ht];simp only
     rw[o7 x (by simp[Op.operands]),hx];simp only
     rw[e1 H' (hA _ (by simp)),e2,e3,e4]⟩
   ·rename_i υ z hx
    obtain⟨h2,e2⟩:=gM h
    obtain⟨υ',y',h3,e3⟩:=y7 h2
    obtain⟨h4,e4⟩:=u5 h3
    exact⟨_,_,_,h4,fun ρ' H' o7 hA K'=>by
     unfold tL;simp only;rw[ht];simp only
     rw[o7 x (by simp[Op.operands]),hx];simp only
     rw[e2,e3,e4]⟩
   ·cases h
  ·cases h
 ·
  rename_i t x n
  split at h
  ·rename_i τ ht
   split at h
   ·rename_i υ z hx
    obtain⟨h2,e2⟩:=gM h
    obtain⟨υ',y',h3,e3⟩:=y7 h2
    exact⟨_,_,_,h3,fun ρ' H' o7 hA K'=>by
     unfold tL;simp only;rw[ht];simp only
     rw[o7 x (by simp[Op.operands]),hx];simp only
     rw[e2,e3]⟩
   ·cases h
  ·cases h
 ·
  rename_i t x i
  split at h
  ·rename_i τ ht
   obtain⟨v,rd,ups,h1,e1⟩:=JB h
   exact⟨_,_,_,h1,fun ρ' H' hx hA K'=>by unfold tL;simp only;rw[ht];simp only;rw[hx x (by simp[Op.operands]),hx i (by simp[Op.operands]),e1 H' hA]⟩
  ·cases h
 ·
  rename_i t x i
  split at h
  ·rename_i τ ht
   obtain⟨v,h1,e1⟩:=VV h
   exact⟨_,_,_,h1,fun ρ' H' hx hA K'=>by unfold tL;simp only;rw[ht];simp only;rw[hx x (by simp[Op.operands]),hx i (by simp[Op.operands]),e1]⟩
  ·cases h
 ·
  rename_i x i
  split at h
  ·rename_i vs hx
   split at h
   ·rename_i v hv
    exact⟨_,_,_,h,fun ρ' H' o7 hA K'=>by unfold tL;simp only;rw[o7 x (by simp[Op.operands]),hx];simp only;rw[hv]⟩
   ·cases h
  ·cases h
 ·
  rename_i cl
  obtain⟨callee,args,ts⟩:=cl
  simp only at h
  have xV: ∀{ρ':Operand→bE},(∀x∈(Op.call {callee,args,argTypes:=ts}).operands,ρ' x=ρ x)→ ∀x∈args.toList,ρ' x=ρ x:=
   λhx x o7=>hx x (by simp[Op.operands,Call.operands];exact .inr (by simpa using o7))
  split at h
  ·split at h
   ·rename_i x τ ha ht
    obtain⟨v,rd,ups,h1,e1⟩:=acD h
    exact⟨_,_,_,h1,fun ρ' H' hx hA K'=>by unfold tL;simp only;rw[ha,ht];simp only;rw[xV hx x (by rw[ha];simp),e1 H' hA]⟩
   ·cases h
  ·split at h
   ·rename_i x y t t' ha ht
    split at h
    ·rename_i e hte
     obtain⟨h1,e1⟩:=eE h
     obtain⟨h2,e2⟩:=y9 h1
     obtain⟨v,rd,ups,h3,bk,e3⟩:=acE h2
     exact⟨_,_,_,h3,fun ρ' H' hx hA K'=>by
      unfold tL;simp only;rw[ha,ht];simp only;rw[hte];simp only
      rw[e1,e2 H' (hA _ bk),xV hx x (by rw[ha];simp),xV hx y (by rw[ha];simp),e3 H' hA]⟩
    ·cases h
   ·cases h
  ·split at h
   ·rename_i x t ha ht
    split at h
    ·rename_i e hte
     obtain⟨v,rd,ups,h1,e1⟩:=VZ h
     exact⟨_,_,_,h1,fun ρ' H' hx hA K'=>by
      unfold tL;simp only;rw[ha,ht];simp only;rw[hte];simp only
      rw[xV hx x (by rw[ha];simp),e1 H' hA]⟩
    ·cases h
   ·cases h
  ·split at h
   ·rename_i x xs ha
    obtain⟨v,h1,e1⟩:=Ss h
    exact⟨_,_,_,h1,fun ρ' H' hx hA K'=>by
     unfold tL;simp only;rw[ha];simp only
     rw[xV hx x (by rw[ha];simp),acG xs (λy hy=>xV hx y (by rw[ha];simp[hy])),e1]⟩
   ·cases h
  ·split at h
   ·rename_i x xs ha
    obtain⟨v,h1,e1⟩:=Ss h
    exact⟨_,_,_,h1,fun ρ' H' hx hA K'=>by
     unfold tL;simp only;rw[ha];simp only
     rw[xV hx x (by rw[ha];simp),acG xs (λy hy=>xV hx y (by rw[ha];simp[hy])),e1]⟩
   ·cases h
  ·rename_i g
   split at h
   ·rename_i f caps hg
    obtain⟨v,rd,ups,h1,e1⟩:=YQ h
    exact⟨_,_,_,h1,fun ρ' H' hx hA K'=>by
     unfold tL;simp only
     rw[hx g (by simp[Op.operands,Call.operands]),hg];simp only
     rw[acG args.toList (xV hx),e1 H' hA]⟩
   ·cases h
  ·cases h
 ·cases h
end VM
end
section
namespace VM
open Go
variable{P:Program}{E:Env}{o:Oper}{a:Act}{w:World}{M:Nat→Prop}{ν:Nat→Value}{σ:St}{c:Ctx}{α:Type}{r:α}{next:Act→World→Prop}{Q:Exit→Act→World→Prop}
structure Out where
 dst:Option Nat
 v:bE
 rd:List Nat
 ups:jI
def Out.app(u:Out)(σ:St):St:=(σ.xy u.ups).wY u.dst u.v
theorem OG(σ:St)(d:Nat)(v:bE):(σ.wY (some d) v).T d=v:=vL σ d v
theorem V1(σ:St){d:Option Nat}{t:Nat}(v:bE)(h:d≠some t):(σ.wY d v).T t=σ.T t:=by
 cases d with
 |none=>rfl
 |some d=>exact BF σ v (λe=>h (by rw[e]))
theorem akO(σ:St)(d:Option Nat)(v:bE):(σ.wY d v).H=σ.H:=by cases d<;>rfl
theorem Su{u:Out}{t:Nat}(h:u.dst=some t)(σ:St):(u.app σ).T t=u.v:=by unfold Out.app;rw[h];exact OG _ _ _
theorem YW{u:Out}{t:Nat}(h:u.dst≠some t)(σ:St):(u.app σ).T t=σ.T t:=by unfold Out.app;rw[V1 _ _ h,Sj]
theorem apX(u:Out)(σ:St):(u.app σ).H=c4 σ.H u.ups:=by unfold Out.app;rw[akO,Si]
def Pt(E:Env)(ops:List Oper)(o:Oper)(σ:St)(u:Out)(α:Type):Prop:=
 u.dst=o.dst∧ ∀σ':St,(∀t∈names ops o,σ'.T t=σ.T t)→Ag u.rd σ.H σ'.H→ ∀K':St→List Nat→List Nat→Option α,uW E ops o σ' K'=K' (u.app σ') u.rd (u.ups.map (·.1))
theorem YX{ops:List Oper}{K:St→List Nat→List Nat→Option α}(h:uW E ops o σ K=some r): ∃u:Out,K (u.app σ) u.rd (u.ups.map (·.1))=some r∧Pt E ops o σ u α:=by
 unfold uW at h
 obtain⟨h,e0⟩:=eE h
 have avR: ∀σ':St,(∀t∈names ops o,σ'.T t=σ.T t)→ ∀x∈o.op.operands,σ'.ρ x=σ.ρ x:=by
  intro σ' hT x hx
  cases x with
  |tmp t=>
   refine hT t ?_
   unfold names
   refine cU _ (List.mem_filterMap.2 ⟨.tmp t,by simpa using hx,rfl⟩)
  |_=>rfl
 have dG:tL E o σ.ρ σ.H (λv rd ups=>K ((σ.xy ups).wY o.dst v) rd (ups.map (·.1)))=some r→
   ∃u:Out,K (u.app σ) u.rd (u.ups.map (·.1))=some r∧u.dst=o.dst∧ ∀σ':St,(∀t∈names ops o,σ'.T t=σ.T t)→Ag u.rd σ.H σ'.H→ ∀K':St→List Nat→List Nat→Option α,
    tL E o σ'.ρ σ'.H (λv rd ups=>K' ((σ'.xy ups).wY o.dst v) rd (ups.map (·.1)))=K' (u.app σ') u.rd (u.ups.map (·.1)):=by
  intro h
  obtain⟨v,rd,ups,h1,h2⟩:=akM h
  exact⟨⟨o.dst,v,rd,ups⟩,h1,rfl,fun σ' hT hA K'=>h2 σ'.ρ σ'.H (avR σ' hT) hA _⟩
 have tR: ∀{K:St→List Nat→List Nat→Option α},K (σ.wY o.dst .Yg) [] []=some r→ ∃u:Out,K (u.app σ) u.rd (u.ups.map (·.1))=some r∧u.dst=o.dst∧ ∀σ':St,∀K':St→List Nat→List Nat→Option α,K' (σ'.wY o.dst .Yg) [] []=K' (u.app σ') u.rd (u.ups.map (·.1)):=
  λh=>⟨⟨o.dst,.Yg,[],[]⟩,h,rfl,λ_ _=>rfl⟩
 simp only at h
 split at h
 ·rename_i hg
  obtain⟨u,h1,h2,h3⟩:=dG h
  refine⟨u,h1,h2,fun σ' hT hA K'=> ?_⟩
  unfold uW
  rw[e0]
  simp only
  rw[hg]
  exact h3 σ' hT hA K'
 ·rename_i j want hg
  split at h
  ·cases h
  ·rename_i t ht
   have V2:t∈names ops o:=by
    unfold names
    refine dC _ ?_
    rw[hg]
    simp[ht]
   split at h
   ·rename_i b hb
    have q7: ∀σ':St,σ'.T t=σ.T t→σ'.put t (.val .bool b)=σ':=fun σ' h'=>by
     rw[←hb,←h'];exact G1 σ' t
    cases want<;>cases b
    ·obtain⟨u,h1,h2,h3⟩:=dG (by
      have:=q7 σ rfl
      rw[this]at h;exact h)
     refine⟨u,h1,h2,fun σ' hT hA K'=> ?_⟩
     unfold uW
     rw[e0];simp only;rw[hg];simp only;rw[ht];simp only;rw[hT t V2,hb];simp only
     rw[q7 σ' (hT t V2)]
     exact h3 σ' hT hA K'
    ·obtain⟨u,h1,h2,h3⟩:=tR (by
      have:=q7 σ rfl
      rw[this]at h;exact h)
     refine⟨u,h1,h2,fun σ' hT hA K'=> ?_⟩
     unfold uW
     rw[e0];simp only;rw[hg];simp only;rw[ht];simp only;rw[hT t V2,hb];simp only
     rw[q7 σ' (hT t V2)]
     exact h3 σ' K'
    ·obtain⟨u,h1,h2,h3⟩:=tR (by
      have:=q7 σ rfl
      rw[this]at h;exact h)
     refine⟨u,h1,h2,fun σ' hT hA K'=> ?_⟩
     unfold uW
     rw[e0];simp only;rw[hg];simp only;rw[ht];simp only;rw[hT t V2,hb];simp only
     rw[q7 σ' (hT t V2)]
     exact h3 σ' K'
    ·obtain⟨u,h1,h2,h3⟩:=dG (by
      have:=q7 σ rfl
      rw[this]at h;exact h)
     refine⟨u,h1,h2,fun σ' hT hA K'=> ?_⟩
     unfold uW
     rw[e0];simp only;rw[hg];simp only;rw[ht];simp only;rw[hT t V2,hb];simp only
     rw[q7 σ' (hT t V2)]
     exact h3 σ' hT hA K'
   ·rename_i hb
    obtain⟨u,h1,h2,h3⟩:=tR h
    refine⟨u,h1,h2,fun σ' hT hA K'=> ?_⟩
    unfold uW
    rw[e0];simp only;rw[hg];simp only;rw[ht];simp only;rw[hT t V2,hb]
    exact h3 σ' K'
   ·cases h
theorem Uk{ops:List Oper}: ∀(l:List Oper) (i:Nat) (σ:St) (lg:Log) (K:St→Log→Option α),Vt E ops l i σ lg K=some r→
  ∃us:List Out,us.length=l.length∧(∀j u o,us[j]? =some u→l[j]? =some o→Pt E ops o ((us.take j).foldl (fun σ u=>u.app σ) σ) u α)∧
   ∃lg',K (us.foldl (fun σ u=>u.app σ) σ) lg'=some r∧(∀x∈lg,x∈lg')∧ ∀j u,us[j]? =some u→(i+j,u.rd,u.ups.map (·.1))∈lg'
 |[],i,σ,lg,K,h=>⟨[],rfl,λj u o hj=>by simp at hj,lg,h,λ_ h=>h,λj u hj=>by simp at hj⟩
 |o::l,i,σ,lg,K,h=>by
  unfold Vt at h
  obtain⟨u,h1,h2⟩:=YX h
  obtain⟨us,hl,hpt,lg',hK,hlg,hj⟩:=Uk l (i+1) (u.app σ) _ K h1
  refine⟨u::us,by simp[hl],λj u' o' hu ho=> ?_,lg',hK,λx hx=>hlg x (a8 _ hx),λj u' hu=> ?_⟩
  ·cases j with
   |zero=>simp at hu ho;subst hu ho;exact h2
   |succ j=>exact hpt j u' o' (by simpa using hu) (by simpa using ho)
  ·cases j with
   |zero=>simp at hu;subst hu;exact hlg _ bt
   |succ j=>
    have:=hj j u' (by simpa using hu)
    rwa [show i+1+j=i+(j+1)from by omega]at this
theorem V3{k:Nat}{ups:jI}(h:k∈keys ups)(H H':Nat→Option br):c4 H ups k=c4 H' ups k:=by
 induction ups generalizing H H' with
 |nil=>simp[keys]at h
 |cons u r ih=>
  show c4 (cq H u.1 u.2) r k=c4 (cq H' u.1 u.2) r k
  by_cases hk:k∈keys r
  ·exact ih hk _ _
  ·have hku:k=u.1:=by
    simp only[keys,bV,bc]at h hk
    exact h.resolve_right hk
   rw[mH hk,mH hk,hku,ay,ay]
structure qf(us:List Out)(σ0:St)(S:Nat→Prop)(σ:St):Prop where
 T: ∀t,(∃j u,us[j]? =some u∧S j∧u.dst=some t∧(∀j' u',us[j']? =some u'→S j'→u'.dst=some t→j'≤j)∧σ.T t=u.v)∨((∀j u,us[j]? =some u→S j→u.dst≠some t)∧σ.T t=σ0.T t)
 H: ∀k,(∃j u,us[j]? =some u∧S j∧k∈keys u.ups∧(∀j' u',us[j']? =some u'→S j'→k∈keys u'.ups→j'≤j)∧σ.H k=c4 σ0.H u.ups k)∨((∀j u,us[j]? =some u→S j→k∉keys u.ups)∧σ.H k=σ0.H k)
theorem qf.YY{us:List Out}{σ0 σ σ':St}{S S':Nat→Prop}(h:qf us σ0 S σ)(h':qf us σ0 S' σ'){t:Nat}(hs: ∀j u,us[j]? =some u→u.dst=some t→(S j↔S' j)):σ.T t=σ'.T t:=by
 rcases h.T t with⟨j,u,h1,h2,h3,h4,h5⟩|⟨h1,h2⟩<;>rcases h'.T t with⟨j',u',ru,zL,Sv,h4',h5'⟩|⟨ru,zL⟩
 ·have e1:=h4 j' u' ru ((hs j' u' ru Sv).2 zL) Sv
  have e2:=h4' j u h1 ((hs j u h1 h3).1 h2) h3
  have:j=j':=ω
  subst this
  rw[h1]at ru;cases ru
  rw[h5,h5']
 ·exact absurd h3 (ru j u h1 ((hs j u h1 h3).1 h2))
 ·exact absurd Sv (h1 j' u' ru ((hs j' u' ru Sv).2 zL))
 ·rw[h2,zL]
theorem qf.YZ{us:List Out}{σ0 σ σ':St}{S S':Nat→Prop}(h:qf us σ0 S σ)(h':qf us σ0 S' σ'){k:Nat}(hs: ∀j u,us[j]? =some u→k∈keys u.ups→(S j↔S' j)):σ.H k=σ'.H k:=by
 rcases h.H k with⟨j,u,h1,h2,h3,h4,h5⟩|⟨h1,h2⟩<;>rcases h'.H k with⟨j',u',ru,zL,Sv,h4',h5'⟩|⟨ru,zL⟩
 ·have e1:=h4 j' u' ru ((hs j' u' ru Sv).2 zL) Sv
  have e2:=h4' j u h1 ((hs j u h1 h3).1 h2) h3
  have:j=j':=ω
  subst this
  rw[h1]at ru;cases ru
  rw[h5,h5']
 ·exact absurd h3 (ru j u h1 ((hs j u h1 h3).1 h2))
 ·exact absurd Sv (h1 j' u' ru ((hs j' u' ru Sv).2 zL))
 ·rw[h2,zL]
theorem qf.unique{us:List Out}{σ0 σ σ':St}{S S':Nat→Prop}(h:qf us σ0 S σ)(h':qf us σ0 S' σ')(hs: ∀j u,us[j]? =some u→(S j↔S' j)):σ=σ':=by
 obtain⟨T,H⟩:=σ
 obtain⟨T',H'⟩:=σ'
 congr 1
 ·funext t;exact h.YY h' (λj u hj _=>hs j u hj)
 ·funext k;exact h.YZ h' (λj u hj _=>hs j u hj)
theorem qf.step{us:List Out}{σ0 σ:St}{S:Nat→Prop}(h:qf us σ0 S σ){i:Nat}{u:Out}(hi:us[i]? =some u)(hc: ∀j u',us[j]? =some u'→S j→i<j→(∀t,u.dst=some t→u'.dst≠some t)∧ ∀k∈keys u.ups,k∉keys u'.ups):
  qf us σ0 (λj=>j=i∨S j) (u.app σ):=by
 refine⟨λt=> ?_,λk=> ?_⟩
 ·by_cases hd:u.dst=some t
  ·left
   refine⟨i,u,hi,.inl rfl,hd,λj' u' h1 h2 h3=> ?_,Su hd σ⟩
   rcases h2 with rfl|h2
   ·exact aH _
   ·exact Nat.le_of_not_lt λeV=>(hc j' u' h1 h2 eV).1 t hd h3
  ·rw[YW hd]
   rcases h.T t with⟨j,u1,h1,h2,h3,h4,h5⟩|⟨h1,h2⟩
   ·refine .inl ⟨j,u1,h1,.inr h2,h3,λj' u' ru zL Sv=> ?_,h5⟩
    rcases zL with rfl|zL
    ·rw[hi]at ru;cases ru;exact absurd Sv hd
    ·exact h4 j' u' ru zL Sv
   ·refine .inr ⟨λj u' ru zL=> ?_,h2⟩
    rcases zL with rfl|zL
    ·rw[hi]at ru;cases ru;exact hd
    ·exact h1 j u' ru zL
 ·rw[apX]
  by_cases hd:k∈keys u.ups
  ·left
   refine⟨i,u,hi,.inl rfl,hd,λj' u' h1 h2 h3=> ?_,V3 hd _ _⟩
   rcases h2 with rfl|h2
   ·exact aH _
   ·exact Nat.le_of_not_lt λeV=>(hc j' u' h1 h2 eV).2 k hd h3
  ·rw[mH hd]
   rcases h.H k with⟨j,u1,h1,h2,h3,h4,h5⟩|⟨h1,h2⟩
   ·refine .inl ⟨j,u1,h1,.inr h2,h3,λj' u' ru zL Sv=> ?_,h5⟩
    rcases zL with rfl|zL
    ·rw[hi]at ru;cases ru;exact absurd Sv hd
    ·exact h4 j' u' ru zL Sv
   ·refine .inr ⟨λj u' ru zL=> ?_,h2⟩
    rcases zL with rfl|zL
    ·rw[hi]at ru;cases ru;exact hd
    ·exact h1 j u' ru zL
theorem qf.start(us:List Out)(σ0:St):qf us σ0 (λ_=>False) σ0:=⟨λt=> .inr ⟨λ_ _ _ h=>h.elim,rfl⟩,λk=> .inr ⟨λ_ _ _ h=>h.elim,rfl⟩⟩
theorem qf.congr{us:List Out}{σ0 σ:St}{S S':Nat→Prop}(h:qf us σ0 S σ)(hs: ∀j,S j↔S' j):qf us σ0 S' σ:=by
 have:S=S':=funext λj=>propext (hs j)
 rw[←this];exact h
theorem qf.text(us:List Out)(σ0:St): ∀i,i≤us.length→qf us σ0 (λj=>j<i) ((us.take i).foldl (fun σ u=>u.app σ) σ0)
 |0,_=>(qf.start us σ0).congr λj=>by simp
 |i+1,hi=>by
  have ih:=qf.text us σ0 i ω
  have hu:us[i]? =some us[i]:=bl ω
  have:=ih.step hu (λj u' _ h2 h3=>ω)
  rw[List.take_add_one,hu,List.foldl_append]
  exact this.congr λj=>by constructor<;>intro h<;>omega
end VM
end
section
namespace VM
open Go
variable{P:Program}{E:Env}{o:Oper}{a:Act}{w:World}{M:Nat→Prop}{ν:Nat→Value}{σ:St}{c:Ctx}{α:Type}{r:α}{next:Act→World→Prop}{Q:Exit→Act→World→Prop}
def Pre(S:Nat→Prop)(o:Oper):Prop:= ∀e∈o.after,Region.binds .any e=true→S e.on
theorem Ha{β:Type}{l m:List β}{i:Nat}{d:β}(h:i<l.length):(l++m).getD i d=l.getD i d:=by
 simp only[γ,tJ h]
theorem Hb{β:Type}{l:List β}{x d:β}:(l++[x]).getD l.length d=x:=by
 simp[γ]
theorem D2{acc:List Nat}{i:Nat}: ∀(es:List Edge) (s:Nat),(es.foldl (λs e=>cond (Region.binds .any e) (s|||2^e.on|||acc.getD e.on 0) s) s).testBit i=true→
  s.testBit i=true∨ ∃e∈es,Region.binds .any e=true∧(i=e.on∨(acc.getD e.on 0).testBit i=true)
 |[],s,h=> .inl h
 |e::es,s,h=>by
  rw[List.foldl_cons]at h
  rcases D2 es _ h with h1|⟨e',h1,h2⟩
  ·cases hb:Region.binds .any e
   ·rw[hb]at h1;exact .inl h1
   ·rw[hb]at h1
    simp only[aj,Nat.testBit_or,ob]at h1
    rcases h1 with(h1|h1)|h1
    ·exact .inl h1
    ·refine .inr ⟨e,bt,hb,.inl ?_⟩
     rw[Nat.testBit_two_pow]at h1
     simpa using (bA h1).symm
    ·exact .inr ⟨e,bt,hb,.inr h1⟩
  ·exact .inr ⟨e',a8 _ h1,h2⟩
theorem D3{S:Nat→Prop}: ∀(l:List Oper) (acc:List Nat) (all:List Oper),all.length=acc.length+l.length→(∀j,l[j]? =all[acc.length+j]?)→
  (∀j o,all[j]? =some o→S j→Pre S o)→(∀j i,j<acc.length→S j→(acc.getD j 0).testBit i=true→S i)→
  ∀j o i,all[j]? =some o→(Pre S o∨S j)→((ur l acc).getD j 0).testBit i=true→(j<acc.length→ ∀i,Pre S o→(acc.getD j 0).testBit i=true→S i)→S i
 |[],acc,all,hl,iT,hS,acH,j,o,i,hj,OH,hb,Y0=>by
  have eV:j<all.length:=(vA.1 hj).1
  have xR:j<acc.length:=by simp at hl;omega
  rcases OH with hp|hp
  ·exact Y0 xR i hp hb
  ·exact acH j i xR hp hb
 |p::l,acc,all,hl,iT,hS,acH,j,o,i,hj,OH,hb,Y0=>by
  unfold ur at hb
  have hp0:all[acc.length]? =some p:=by rw[←mC acc.length,←iT 0];rfl
  have acI: ∀i,Pre S p→(p.after.toList.foldl (λs e=>cond (Region.binds .any e) (s|||2^e.on|||acc.getD e.on 0) s) 0).testBit i=true→S i:=by
   intro i Jc hb
   rcases D2 p.after.toList 0 hb with h1|⟨e,he,hbe,h1⟩
   ·simp at h1
   ·have hSe:=Jc e (by simpa using he) hbe
    rcases h1 with rfl|h1
    ·exact hSe
    ·by_cases eV:e.on<acc.length
     ·exact acH e.on i eV hSe h1
     ·rw[γ,il ω]at h1;simp at h1
  refine D3 l (acc++[p.after.toList.foldl (λs e=>cond (Region.binds .any e) (s|||2^e.on|||acc.getD e.on 0) s) 0]) all (by simp at hl ⊢;omega) (λj=> ?_) hS (λj' i' X5 hS' eY=> ?_) j o i hj OH hb (λeV i' R5 eY=> ?_)
  ·have:=iT (j+1)
   simp only[List.getElem?_cons_succ]at this
   rw[this]
   congr 1
   simp;omega
  ·by_cases eV:j'<acc.length
   ·rw[Ha eV]at eY
    exact acH j' i' eV hS' eY
   ·have hje:j'=acc.length:=by simp at X5;omega
    subst hje
    rw[Hb]at eY
    exact acI i' (hS _ p hp0 hS') eY
  ·by_cases xR:j<acc.length
   ·rw[Ha xR]at eY
    exact Y0 xR i' R5 eY
   ·have hje:j=acc.length:=by simp at eV;omega
    subst hje
    rw[hp0]at hj;cases hj
    rw[Hb]at eY
    exact acI i' R5 eY
theorem forced{ops:List Oper}{S:Nat→Prop}(hS: ∀j o,ops[j]? =some o→S j→Pre S o){j i:Nat}(hj:ops[j]? =some o)(OH:Pre S o∨S j)(hb:((ur ops []).getD j 0).testBit i=true):S i:=
 D3 ops [] ops (by simp) (λj=>by simp) hS (λj i h=>by simp at h) j o i hj OH hb (λh=>by simp at h)
theorem nF{l m:List Nat}(h:meets l m=false){x:Nat}(h1:x∈l)(h2:x∈m):False:=by
 have:meets l m=true:=by
  unfold meets
  rw[A0]
  refine⟨x,h1,?_⟩
  rw[A0]
  exact⟨x,h2,p8 x⟩
 rw[h]at this;cases this
structure Rnd(c:Ctx)(E:Env)(ops:Array Oper)(us:List Out)(σ0:St)(listed:Array Bool)(a:Act)(w:World):Prop where
 size:listed.size=ops.size
 closed: ∀j o,ops.toList[j]? =some o→listed.getD j false=true→Pre (λi=>listed.getD i false=true) o
 st: ∃σ,qf us σ0 (λj=>listed.getD j false=true) σ∧Inv c E σ a w
theorem Af{listed:Array Bool}{j:Nat}(h:j<listed.size)(d:Bool):listed.getD j d=listed.getD j false:=by
 simp[Array.getD,h]
theorem LW(hE:sF P E){ops:Array Oper}{us:List Out}{σ0 σn:St}{α:Type}(x0:α)(hl:us.length=ops.toList.length)
  (hpt: ∀(j:Nat) (u:Out) (o:Oper),us[j]? =some u→ops.toList[j]? =some o→Pt E ops.toList o ((us.take j).foldl (fun σ u=>u.app σ) σ0) u α)
  (hn:σn=us.foldl (fun σ u=>u.app σ) σ0)
  (eV: ∀(j:Nat) (o:Oper),ops.toList[j]? =some o→ ∀e∈o.after,Region.binds .any e=true→e.on<j)
  (OI: ∀(j:Nat) (o:Oper) (i:Nat) (p:Oper),ops.toList[j]? =some o→ops.toList[i]? =some p→i<j→((ur ops.toList []).getD j 0).testBit i=false→
   (∀d,p.dst=some d→o.dst≠some d∧d∉names ops.toList o)∧(∀d,o.dst=some d→d∉names ops.toList p))
  (hlg: ∀(j:Nat) (u:Out) (i:Nat) (v:Out),us[j]? =some u→us[i]? =some v→i<j→((ur ops.toList []).getD j 0).testBit i=false→
   (∀k∈keys v.ups,k∉u.rd∧k∉keys u.ups)∧(∀k∈v.rd,k∉keys u.ups))
  (hq: ∀a' w',Inv c E σn a' w'→Q .normal a' w'):
  ∀(fuel:Nat) (listed:Array Bool) (a:Act) (w:World),((List.range ops.size).filter λj=> !(listed.getD j false)).length≤fuel→Rnd c E ops us σ0 listed a w→wpAny P .any ops Q fuel listed a w:=by
 have iT: ∀(listed:Array Bool) (a:Act) (w:World),Rnd c E ops us σ0 listed a w→Region.ready .any ops listed=[]→Q .normal a w:=by
  intro listed a w hR akQ
  obtain⟨hs,FA,σ,xd,hI⟩:=hR
  have ap0: ∀j,j<ops.size→listed.getD j false=true:=by
   intro j
   induction j using Nat.strongRecOn with
   |_ j ih=>
    intro hj
    by_cases hb:listed.getD j false=true
    ·exact hb
    ·exfalso
     have ho:ops[j]? =some ops[j]:=NJ hj
     have:j∈Region.ready .any ops listed:=by
      rw[mem_ready]
      refine⟨by rw[Af ω];simpa using hb,_,ho,λe he hbe=> ?_⟩
      have hej:=eV j ops[j] (by rw[iH];exact ho) e he hbe
      exact ih e.on hej ω
     rw[akQ]at this
     cases this
  have hσ:σ=σn:=by
   rw[hn]
   have ht:=qf.text us σ0 us.length (aH _)
   rw[im]at ht
   refine xd.unique ht λj u hj=> ?_
   have Bq:j<us.length:=(vA.1 hj).1
   have hjo:j<ops.size:=by rw[hl,bm]at Bq;exact Bq
   exact⟨λ_=>Bq,λ_=>ap0 j hjo⟩
  exact hq a w (hσ▸hI)
 intro fuel
 induction fuel with
 |zero=>
  intro listed a w hf hR
  have VO:Region.ready .any ops listed=[]:=by
   rw[List.eq_nil_iff_forall_not_mem]
   intro j hj
   rw[mem_ready]at hj
   obtain⟨h0,o,ho,_⟩:=hj
   have hjs:j<ops.size:=(lI.1 ho).1
   have Bq:j<listed.size:=by rw[hR.size];exact hjs
   rw[Af Bq]at h0
   have mF:j∈(List.range ops.size).filter λj=> !(listed.getD j false):=by
    rw[se];exact⟨sj.2 hjs,by rw[h0];rfl⟩
   have:((List.range ops.size).filter λj=> !(listed.getD j false))=[]:=vz ω
   rw[this]at mF;cases mF
  exact⟨VO,iT listed a w hR VO⟩
 |succ fuel ih=>
  intro listed a w hf hR
  refine⟨iT listed a w hR,λi hi=> ?_⟩
  have oe:=hi
  rw[mem_ready]at oe
  obtain⟨h0,o,ho,OH⟩:=oe
  have his:i<ops.size:=(lI.1 ho).1
  have Bp:i<listed.size:=by rw[hR.size];exact his
  rw[Af Bp]at h0
  obtain⟨hs,FA,σ,xd,hI⟩:=hR
  have xg:ops.toList[i]? =some o:=by rw[iH];exact ho
  have hiu:i<us.length:=by rw[hl,bm];exact his
  have hu:us[i]? =some us[i]:=bl hiu
  have hPt:=hpt i us[i] o hu xg
  have hSi: ¬listed.getD i false=true:=by rw[h0];simp
  have OJ: ∀j p,ops.toList[j]? =some p→((j<i∧ ¬listed.getD j false=true)→((ur ops.toList []).getD i 0).testBit j=false)∧((i<j∧listed.getD j false=true)→((ur ops.toList []).getD j 0).testBit i=false):=by
   intro j p hj
   refine⟨λ⟨_,h2⟩=> ?_,λ⟨_,h2⟩=> ?_⟩
   ·rw[←lK]
    intro hb
    exact h2 (forced FA xg (.inl OH) hb)
   ·rw[←lK]
    intro hb
    exact hSi (forced FA hj (.inr h2) hb)
  have Y1: ∀(j:Nat) (u:Out),us[j]? =some u→ ∃p:Oper,ops.toList[j]? =some p∧u.dst=p.dst:=by
   intro j u hj
   have Bq:j<us.length:=(vA.1 hj).1
   have hp:ops.toList[j]? =some ops.toList[j]:=bl ω
   exact⟨_,hp,(hpt j u _ hj hp).1⟩
  have ajb:=qf.text us σ0 i ω
  have hT: ∀t∈names ops.toList o,σ.T t=((us.take i).foldl (fun σ u=>u.app σ) σ0).T t:=by
   intro t ht
   refine xd.YY ajb λj u hj hd=> ?_
   obtain⟨p,hp,hpd⟩:=Y1 j u hj
   have hpd:p.dst=some t:=by rw[←hpd,hd]
   constructor
   ·intro OK
    refine Nat.lt_of_not_le λhle=> ?_
    rcases Nat.lt_or_eq_of_le hle with xR|heq
    ·exact(OI j p i o hp xg xR ((OJ j p hp).2 ⟨xR,OK⟩)).2 t hpd ht
    ·subst heq;exact hSi OK
   ·intro Ah
    by_cases OK:listed.getD j false=true
    ·exact OK
    ·exact absurd ht ((OI i o j p xg hp Ah ((OJ j p hp).1 ⟨Ah,OK⟩)).1 t hpd).2
  have hH:Ag us[i].rd ((us.take i).foldl (fun σ u=>u.app σ) σ0).H σ.H:=by
   intro k hk
   refine xd.YZ ajb λj u hj hd=> ?_
   obtain⟨p,hp,hpd⟩:=Y1 j u hj
   constructor
   ·intro OK
    refine Nat.lt_of_not_le λhle=> ?_
    rcases Nat.lt_or_eq_of_le hle with xR|heq
    ·exact(hlg j u i us[i] hj hu xR ((OJ j p hp).2 ⟨xR,OK⟩)).2 k hk hd
    ·subst heq;exact hSi OK
   ·intro Ah
    by_cases OK:listed.getD j false=true
    ·exact OK
    ·exact absurd hk ((hlg i us[i] j u hu hj Ah ((OJ j p hp).1 ⟨Ah,OK⟩)).1 k hd).1
  have ap1:=hPt.2 σ hT hH
  have hIs:qf us σ0 (λj=>j=i∨listed.getD j false=true) (us[i].app σ):=by
   refine xd.step hu λj u hj OK qI=> ?_
   obtain⟨p,hp,hpd⟩:=Y1 j u hj
   have EY:=(OJ j p hp).2 ⟨qI,OK⟩
   obtain⟨h1,h2⟩:=OI j p i o hp xg qI EY
   obtain⟨h3,h4⟩:=hlg j u i us[i] hj hu qI EY
   refine⟨λt ht=> ?_,λk hk=>(h3 k hk).2⟩
   rw[hpd]
   exact(h1 t (by rw[←hPt.1];exact ht)).1
  have BG: ∀j,(listed.setIfInBounds i true).getD j false=true↔(j=i∨listed.getD j false=true):=by
   intro j
   by_cases Ah:j=i
   ·subst Ah
    constructor
    ·intro _;exact .inl rfl
    ·intro _;simp[Bp]
   ·rw[getD_set_ne false (ff Ah)]
    exact⟨.inr,λh=>h.resolve_left Ah⟩
  classical
  let K':St→List Nat→List Nat→Option α:=fun σ' _ _=>if σ'=us[i].app σ then some x0 else none
  have hK:uW E ops.toList o σ K'=some x0:=by rw[ap1 K'];simp[K']
  have:=D1 (Q:=Q) (next:=wpAny P .any ops Q fuel (listed.setIfInBounds i true)) hE hI hK (fun σ' a' w' rd wr hσ' zJ=>by
   have hσ'':σ'=us[i].app σ:=by
    by_cases h:σ'=us[i].app σ
    ·exact h
    ·simp[K',h]at hσ'
   subst hσ''
   refine ih _ a' w' ?_ ⟨by simpa using hs,λj p hp OK e he hb=> ?_,_,hIs.congr (λj=>(BG j).symm),zJ⟩
   ·have hlen:((List.range ops.size).filter λj=> !((listed.setIfInBounds i true).getD j false)).length<((List.range ops.size).filter λj=> !(listed.getD j false)).length:=by
     have VP:((List.range ops.size).filter λj=> !((listed.setIfInBounds i true).getD j false))=((List.range ops.size).filter λj=> !(listed.getD j false)).filter λj=> !(Nat.beq j i):=by
      rw[List.filter_filter]
      apply List.filter_congr
      intro j _
      by_cases Ah:j=i
      ·subst Ah
       have h1:=(BG j).2 (.inl rfl)
       rw[h1];simp
      ·have h1:Nat.beq j i=false:=by rw[←lK,xx];exact Ah
       rw[h1,getD_set_ne false (ff Ah)];simp
     rw[VP]
     refine List.length_filter_lt_length_iff_exists.2 ⟨i,?_,by simp⟩
     rw[se];exact⟨sj.2 his,by rw[h0];rfl⟩
    omega
   ·rcases(BG j).1 OK with rfl|OK
    ·rw[xg]at hp;cases hp
     exact(BG _).2 (.inr (OH e he hb))
    ·exact(BG _).2 (.inr (FA j p hp OK e he hb)))
  unfold wpOp
  rw[ho]
  simp only
  split
  ·rename_i hw;rw[ak hw]at this;exact .inl this
  ·rename_i hw;rw[ah hw]at this;exact this
theorem JC(hE:sF P E){id:Nat}{ops:Array Oper}{draw:Bool}(hI:Inv c E σ a w){K:St→Option α}(h:Fu E ops draw σ K=some r)
  (hn: ∀σ' a' w',K σ'=some r→Inv c E σ' a' w'→Q .normal a' w'):(Code.region id ops draw).wp P Q a w:=by
 cases draw
 ·refine wp_region_list (G4 hE ops.toList 0 σ [] a w _ hI h fun σ' lg' a' w' h' zJ=> ?_)
  exact hn σ' a' w' (cD h').2 zJ
 ·unfold Fu at h
  obtain⟨us,hl,hpt,lg,hK,_,ap2⟩:=Uk _ _ _ _ _ h
  obtain⟨hok,hK⟩:=cD hK
  simp only[bg,p7,bP]at hok
  obtain⟨OI,hlg⟩:=hok
  unfold Yh at OI
  simp only[bP,pL]at OI
  obtain⟨avW,avX⟩:=OI
  have hz: ∀j o,ops.toList[j]? =some o→(o,j)∈ops.toList.zipIdx:=λj o hj=>List.mem_zipIdx_iff_getElem?.2 hj
  refine wp_region_any hE.mixed (LW (Q:=Q) (σ0:=σ) hE r hl hpt rfl (λj o hj e he hbe=> ?_) (λj o i p hj hi qI hb=> ?_) (λj u i v hj hi qI hb=> ?_) (λa' w' zJ=>hn _ a' w' hK zJ) ops.size (Array.replicate ops.size false) a _ ?_ ?_)
  ·have:=avW (o,j) (hz j o hj) e (by simpa using he)
   rw[hbe]at this
   simpa [Bb]using this
  ·have:=avX (o,j) (hz j o hj) (p,i) (hz i p hi)
   simp only[hb,sl,ob,sb,Bool.or_eq_false_iff]at this
   have Js: ¬Nat.ble j i=true:=by rw[Bc];omega
   have this:=this.resolve_left Js
   refine⟨λd hd=>⟨λhd'=> ?_,λhd'=> ?_⟩,λd hd hd'=> ?_⟩
   ·exact nF this.1 (x:=d) (by simp[hd]) (by simp[hd'])
   ·exact nF this.1 (x:=d) (by simp[hd]) (by simp[hd'])
   ·exact nF this.2 (x:=d) (by simp[hd]) hd'
  ·unfold aiX at hlg
   simp only[pL]at hlg
   have X5:=ap2 j u hj
   have oe:=ap2 i v hi
   rw[gr]at X5 oe
   have:=hlg _ X5 _ oe
   simp only[hb,sl,ob,sb,Bool.or_eq_false_iff]at this
   have Js: ¬Nat.ble j i=true:=by rw[Bc];omega
   have this:=this.resolve_left Js
   refine⟨λk hk=>⟨λBu=> ?_,λBu=> ?_⟩,λk hk Bu=> ?_⟩
   ·exact nF this.1 (x:=k) hk (cU _ Bu)
   ·exact nF this.1 (x:=k) hk (dC _ Bu)
   ·exact nF this.2 (x:=k) hk Bu
  ·refine cA (NU _ _) ?_
   rw[xn];exact aH _
  ·have hf: ∀j,(Array.replicate ops.size false).getD j false=false:=by
    intro j
    rw[tI,Array.getElem?_replicate]
    split<;>rfl
   obtain⟨⟨M,ν,hc⟩,hs,hd,xV⟩:=hI
   refine⟨by simp,λj o _ hS=>(by rw[hf]at hS;cases hS),σ,(qf.start us σ).congr (λj=>(by rw[hf];simp)),⟨M,ν,?_⟩,hs,hd,xV⟩
   exact hc.tr (Tr.drew hc.mem)
end VM
end
section
namespace VM
open Go
variable{P:Program}{E:Env}{o:Oper}{a:Act}{w:World}{M:Nat→Prop}{ν:Nat→Value}{σ:St}{c:Ctx}{α:Type}{r:α}{next:Act→World→Prop}{Q:Exit→Act→World→Prop}
theorem D4{L:Option (List (Nat×CM))}(hL: ∀L',L=some L'→kY L'=true){b:Code}{Q:Exit→Act→World→Prop}{step:St→(St→Option α)→Option α}
  (hs: ∀σ a w kn (Q':Exit→Act→World→Prop),Inv c E σ a w→step σ kn=some r→(∀σ' a' w',kn σ'=some r→Inv c E σ' a' w'→Q' .normal a' w')→(∀e a' w',e≠ .normal→Q e a' w'→Q' e a' w')→b.wp P Q' a w):
  ∀n σ a w,Inv c E σ a w→DN L step n σ=some r→Code.rounds P b Q n a w
 |0,σ,a,w,_,h=>by cases h
 |n+1,σ,a,w,hI,h=>by
  rw[rounds_succ]
  refine hs σ a w _ _ hI h (fun σ' a' w' h' zJ=> ?_) (λe a' w' he hq=> ?_)
  ·obtain⟨σ'',LP,akS⟩:=Ad zJ hL h'
   exact D4 hL hs n σ'' a' w' akS LP
  ·cases e<;>first|exact hq|exact absurd rfl he
theorem V4(hE:sF P E): ∀(cd:Code) (σ:St) (a:Act) (w:World) (k:St→Option α) (kx:Nat→St→Option α) (kr:St→Option α) (Q:Exit→Act→World→Prop),Inv c E σ a w→Fv E cd σ k kx kr=some r→
  (∀σ' a' w',k σ'=some r→Inv c E σ' a' w'→Q .normal a' w')→(∀i σ' a' w',kx i σ'=some r→Inv c E σ' a' w'→Q (.exit i) a' w')→(∀σ' a' w',kr σ'=some r→Inv c E σ' a' w'→Q .ret a' w')→cd.wp P Q a w:=by
 intro cd
 induction cd with
 |skip=>intro σ a w k kx kr Q hI h hk _ _;exact wp_skip (hk σ a w h hI)
 |region id ops draw=>intro σ a w k kx kr Q hI h hk _ _;exact JC hE hI h hk
 |seq x y ihx ihy=>
  intro σ a w k kx kr Q hI h hk hx hr
  refine wp_seq (ihx σ a w _ kx kr _ hI h (fun σ' a' w' h' zJ=> ?_) hx hr)
  obtain⟨σ'',LP,akS⟩:=Ad zJ (λL' hL=>by
   cases hf:c8 y with
   |none=>rw[hf]at hL;cases hL
   |some i=>rw[hf]at hL;exact hE.YK i L' hL) h'
  exact ihy σ'' a' w' k kx kr Q akS LP hk hx hr
 |cond x t e iht ihe=>
  intro σ a w k kx kr Q hI h hk hx hr
  obtain⟨b,hb,h⟩:=Oz (E:=E) (A:=fun σ'=>Fv E t σ' k kx kr) (B:=fun σ'=>Fv E e σ' k kx kr) hI h
  refine wp_cond hb ?_
  cases b
  ·exact ihe σ a w k kx kr Q hI h hk hx hr
  ·exact iht σ a w k kx kr Q hI h hk hx hr
 |block id x ih=>
  intro σ a w k kx kr Q hI h hk hx hr
  refine wp_block (ih σ a w k _ kr _ hI h hk (λi σ' a' w' h' zJ=> ?_) hr)
  show if i=id then Q .normal a' w' else Q (.exit i) a' w'
  cases hb:Nat.beq i id
  ·have kQ:i≠id:=λe=>by subst e;rw[show Nat.beq i i=true from p8 i]at hb;cases hb
   rw[hb]at h'
   rw[ah kQ]
   exact hx i σ' a' w' h' zJ
  ·rw[hb]at h'
   rw[ak (fA hb)]
   exact hk σ' a' w' h' zJ
 |loop b ih=>
  intro σ a w k kx kr Q hI h hk hx hr
  have hL: ∀L',(c8 b).bind E.xz=some L'→kY L'=true:=λL' hL=>by
   cases hf:c8 b with
   |none=>rw[hf]at hL;cases hL
   |some i=>rw[hf]at hL;exact hE.kY i L' hL
  obtain⟨σ',h',zJ⟩:=Ad hI hL h
  refine wp_loop_rounds E.N (D4 hL (fun σ a w kn Q' hI h hkn hq=> ?_) E.N σ' a w zJ h')
  exact ih σ a w kn kx kr Q' hI h hkn (λi σ' a' w' h' zJ=>hq _ _ _ (by simp) (hx i σ' a' w' h' zJ)) (fun σ' a' w' h' zJ=>hq _ _ _ (by simp) (hr σ' a' w' h' zJ))
 |rangeFunc f ps x y ihx ihy=>intro σ a w k kx kr Q hI h;cases h
 |exit id=>intro σ a w k kx kr Q hI h hk hx hr;exact wp_exit (hx id σ a w h hI)
 |scope x ih=>
  intro σ a w k kx kr Q hI h hk hx hr
  exact wp_scope_straight (ih σ a w k kx kr _ hI h hk hx hr)
 |label l=>intro σ a w k kx kr Q hI h hk _ _;exact wp_label (hk σ a w h hI)
 |goto l=>intro σ a w k kx kr Q hI h;cases h
 |ret=>intro σ a w k kx kr Q hI h hk hx hr;exact wp_ret (hr σ a w h hI)
 |refuse s=>intro σ a w k kx kr Q hI h;cases h
end VM
end
