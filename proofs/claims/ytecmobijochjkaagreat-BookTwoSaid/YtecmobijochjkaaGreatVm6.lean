/- A part of the proof of BookTwo of layer 18: a machine that reads a function of the program as an equation between values. -/
import Derived.Test.YtecmobijochjkaaGreatVm5
set_option linter.all false
open List renaming getD→γ
section
namespace VM
open Go
variable{α:Type}{r:α}
theorem Om{m:AM}{a:bA}{H:Nat→Option br}{k:m.den→(Nat→Option br)→List Nat→jF→jF→List (Nat×AM)→Option α}(h:oV m a H k=some r):
  ∃y rd uo uf io,∃g:(Nat→Option br)→(Nat→Option br),k y (g H) rd uo uf io=some r∧(∀H' i,H' i=H i→g H' i=g H i)∧
   ∀H',Ag rd H H'→ ∀k':m.den→(Nat→Option br)→List Nat→jF→jF→List (Nat×AM)→Option α,oV m a H' k'=k' y (g H') rd uo uf io:=by
 have On: ∀(d:Nat) (v:Option br) (H':Nat→Option br) (i:Nat),H' i=H i→cn H' d v i=cn H d v i:=by
  intro d v H' i hi
  by_cases bg:i=d
  ·subst bg;rw[ay,ay]
  ·rw[az _ _ bg,az _ _ bg,hi]
 unfold oV at h
 split at h
 ·rename_i τ k
  obtain⟨y,rd,ups,h1,h2⟩:=pH h
  cases ups with
  |nil=>
   refine⟨y,rd,[],[],[],λH=>H,h1,λ_ _ h=>h,λH' hA k'=> ?_⟩
   unfold oV;simp only;rw[h2 H' hA]
  |cons u rest=>
   refine⟨y,rd,[],u::rest,[],λH=>cn H u.1 u.2,h1,λH' i hi=>On _ _ H' i hi,λH' hA k'=> ?_⟩
   unfold oV;simp only;rw[h2 H' hA]
 ·rename_i e k
  split at h
  ·exact⟨[],[],[],[],[],λH=>H,h,λ_ _ h=>h,λ_ _ _=>rfl⟩
  ·rename_i id
   split at h
   ·rename_i e' l bg
    obtain⟨z,h1,h2⟩:=dK h
    refine⟨z,[id],_,_,_,λH=>cn H id (some .gone),h1,λH' i hi=>On _ _ H' i hi,λH' hA k'=> ?_⟩
    unfold oV;simp only;rw[hA id (by simp),bg];simp only;rw[h2]
   ·cases h
  ·cases h
 ·rename_i τ k
  split at h
  ·rename_i id
   split at h
   ·rename_i υ x bg
    obtain⟨z,h1,h2⟩:=dK h
    refine⟨z,[id],_,_,_,λH=>cn H id (some .gone),h1,λH' i hi=>On _ _ H' i hi,λH' hA k'=> ?_⟩
    unfold oV;simp only;rw[hA id (by simp),bg];simp only;rw[h2]
   ·cases h
  ·cases h
 ·rename_i f τ k
  split at h
  ·rename_i f' cs
   obtain⟨h1,h2⟩:=eH h
   obtain⟨x,rd,ups,h3,h4⟩:=Ol h1
   cases ups with
   |nil=>
    refine⟨x,rd,[],[],[],λH=>H,h3,λ_ _ h=>h,λH' hA k'=> ?_⟩
    unfold oV;simp only;rw[h2,h4 H' hA]
   |cons _ _=>cases h3
  ·cases h
 ·cases h
 ·rename_i τ k
  split at h
  ·obtain⟨z,h1,h2⟩:=dK h
   refine⟨z,[],[],[],[],λH=>H,h1,λ_ _ h=>h,λH' hA k'=> ?_⟩
   unfold oV;simp only;rw[h2]
  ·cases h
 ·rename_i e k
  split at h
  ·rename_i id
   split at h
   ·rename_i e' l bg
    obtain⟨z,h1,h2⟩:=dK h
    refine⟨z,[id],_,_,_,λH=>cn H id (some .gone),h1,λH' i hi=>On _ _ H' i hi,λH' hA k'=> ?_⟩
    unfold oV;simp only;rw[hA id (by simp),bg];simp only;rw[h2]
   ·cases h
  ·cases h
 ·cases h
theorem Oo: ∀{ms:List AM} {qV:List bA} {H:Nat→Option br} {J2:List Nat} {uo0 uf0:jF} {io0:List (Nat×AM)} {K:HP ms→List Nat→jF→jF→List (Nat×AM)→Option α},uK ms qV H J2 uo0 uf0 io0 K=some r→
  ∃x rd uo uf io,K x rd uo uf io=some r∧(∀i∈J2,i∈rd)∧ ∀H',Ag rd H H'→ ∀K':HP ms→List Nat→jF→jF→List (Nat×AM)→Option α,uK ms qV H' J2 uo0 uf0 io0 K'=K' x rd uo uf io
 |[],[],H,J2,uo0,uf0,io0,K,h=>⟨(),_,_,_,_,h,λ_ h=>h,λ_ _ _=>rfl⟩
 |[m],[a],H,J2,uo0,uf0,io0,K,h=>by
  obtain⟨y,rd,uo,uf,io,g,h1,h2,h3⟩:=Om (h:oV m a H _=some r)
  exact⟨y,_,_,_,_,h1,λi hi=>dB _ hi,λH' hA K'=>h3 H' (λi hi=>hA i (cU _ hi)) _⟩
 |m::n::ms,a::qV,H,J2,uo0,uf0,io0,K,h=>by
  obtain⟨y,rd,uo,uf,io,g,h1,h2,h3⟩:=Om (h:oV m a H _=some r)
  obtain⟨ys,yJ,Nd,Nf,IY,h4,h5,h6⟩:=Oo (ms:=n::ms) h1
  refine⟨(y,ys),yJ,Nd,Nf,IY,h4,λi hi=>h5 i (dB _ hi),λH' hA K'=> ?_⟩
  refine(h3 H' (λi hi=>hA i (h5 i (cU _ hi))) _).trans ?_
  exact h6 (g H') (λi hi=>h2 H' i (hA i hi)) _
 |[],_::_,_,_,_,_,_,_,h=>by simp[uK]at h
 |[_],[],_,_,_,_,_,_,h=>by simp[uK]at h
 |[_],_::_::_,_,_,_,_,_,_,h=>by simp[uK]at h
 |_::_::_,[],_,_,_,_,_,_,h=>by simp[uK]at h
theorem YC{id i:Nat}: ∀{n:Nat},i∈NS id n↔id≤i∧i<id+n
 |0=>by simp[NS]
 |n+1=>by simp only[NS,a8,YC];omega
theorem zE{H H':Nat→Option br}{id:Nat}: ∀{n:Nat},(∀i∈NS id n,H' i=H i)→vx H' id n=vx H id n
 |0,_=>rfl
 |n+1,h=>by
  unfold vx
  rw[h (id+n) (by simp[NS]),zE λi hi=>h i (by simp[NS,hi])]
theorem YD{E:Env}{f id:Nat}{qV:List bA}{H:Nat→Option br}{K:g7 α}(h:DI E f qV id H K=some r): ∃v rd ups,K v rd ups=some r∧ ∀H',Ag rd H H'→ ∀K':g7 α,DI E f qV id H' K'=K' v rd ups:=by
 unfold DI at h
 split at h
 ·cases h
 ·rename_i S hS
  obtain⟨x,rd,uo,uf,io,h1,_,h2⟩:=Oo h
  obtain⟨y,hy,h3⟩:=uy.1 h1
  obtain⟨h4,h5⟩:=cB h3
  refine⟨_,_,_,h5,λH' hA K'=> ?_⟩
  unfold DI
  rw[hS]
  simp only
  rw[h2 H' (λi hi=>hA i (dB _ (dB _ hi))),hy]
  simp only[ar]
  rw[zE (λi hi=>hA i (cU _ hi)),h4]
  rfl
theorem VP{t:Ty}{z:Bool}{a:bA}{lo hi mx:Option bA}{H:Nat→Option br}{K:g7 α}(h:sj t z a lo hi mx H K=some r): ∃v rd ups,K v rd ups=some r∧ ∀H',Ag rd H H'→ ∀K':g7 α,sj t z a lo hi mx H' K'=K' v rd ups:=by
 unfold sj at h
 split at h
 ·obtain⟨h1,e1⟩:=eH h
  obtain⟨l,h2,e2⟩:=vF h1
  obtain⟨m,h3,e3⟩:=vF h2
  obtain⟨h4,e4⟩:=eH h3
  exact⟨_,_,_,h4,λH' _ K'=>by unfold sj;simp only;rw[e1,e2,e3,e4]⟩
 ·cases z
  ·obtain⟨h1,e1⟩:=eH (h:cond mx.isNone _ none=some r)
   obtain⟨l,h2,e2⟩:=vF h1
   obtain⟨m,h3,e3⟩:=vF h2
   obtain⟨h4,e4⟩:=eH h3
   exact⟨_,_,_,h4,λH' _ K'=>by unfold sj;simp only[av];rw[e1,e2,e3,e4]⟩
  ·exact⟨_,_,_,h,λH' _ K'=>by unfold sj;rfl⟩
 ·rename_i e kq
  obtain⟨y,rd,ups,h1,e1⟩:=pH h
  cases z
  ·obtain⟨h2,e2⟩:=eH (h1:cond (mx.isNone||hi.isSome) _ none=some r)
   obtain⟨l,h3,e3⟩:=vF h2
   obtain⟨m,h4,e4⟩:=vF h3
   obtain⟨n,h5,e5⟩:=vF h4
   obtain⟨h6,e6⟩:=eH h5
   refine⟨_,_,_,h6,λH' hA K'=> ?_⟩
   unfold sj
   simp only
   rw[e1 H' hA]
   simp only[av]
   rw[e2,e3,e4,e5,e6]
  ·refine⟨_,_,_,(h1:K .emp rd []=some r),λH' hA K'=> ?_⟩
   unfold sj
   simp only
   rw[e1 H' hA]
   rfl
 ·cases h
theorem Jn{τ:Ty}{a i:bA}{H:Nat→Option br}{K:g7 α}(h:hZ τ a i H K=some r): ∃v rd ups,K v rd ups=some r∧ ∀H',Ag rd H H'→ ∀K':g7 α,hZ τ a i H' K'=K' v rd ups:=by
 unfold hZ at h
 obtain⟨k,n,h,e0⟩:=q4 h
 split at h
 ·split at h
  ·obtain⟨z,h1,e1⟩:=dK h
   obtain⟨h2,e2⟩:=eH h1
   exact⟨_,_,_,h2,λH' _ K'=>by unfold hZ;rw[e0];simp only;rw[e1,e2]⟩
  ·split at h
   ·rename_i bg
    obtain⟨h1,e1⟩:=gI h
    obtain⟨h2,e2⟩:=eH h1
    exact⟨_,_,_,h2,λH' hA K'=>by unfold hZ;rw[e0];simp only;rw[hA _ (by simp),bg];simp only;rw[e1,e2]⟩
   ·rename_i bg
    obtain⟨h1,e1⟩:=gI h
    obtain⟨h2,e2⟩:=eH h1
    exact⟨_,_,_,h2,λH' hA K'=>by unfold hZ;rw[e0];simp only;rw[hA _ (by simp),bg];simp only;rw[e1,e2]⟩
   ·cases h
  ·cases h
 ·split at h
  ·obtain⟨υ,h1,e1⟩:=yT h
   obtain⟨h2,e2⟩:=gI h1
   obtain⟨h3,e3⟩:=eH h2
   exact⟨_,_,_,h3,λH' hA K'=>by unfold hZ;rw[e0];simp only;rw[e1 H' (hA _ (by simp)),e2,e3]⟩
  ·obtain⟨z,h1,e1⟩:=dK h
   obtain⟨h2,e2⟩:=eH h1
   exact⟨_,_,_,h2,λH' _ K'=>by unfold hZ;rw[e0];simp only;rw[e1,e2]⟩
  ·cases h
 ·cases h
theorem VQ{τ:Ty}{a i:bA}{K:bA→Option α}(h:xw τ a i K=some r): ∃v,K v=some r∧ ∀K':bA→Option α,xw τ a i K'=K' v:=by
 unfold xw at h
 obtain⟨k,n,h,e0⟩:=q4 h
 split at h
 ·obtain⟨z,h1,e1⟩:=dK h
  obtain⟨h2,e2⟩:=eH h1
  exact⟨_,h2,λK'=>by unfold xw;rw[e0];simp only;rw[e1,e2]⟩
 ·obtain⟨h2,e2⟩:=eH h
  exact⟨_,h2,λK'=>by unfold xw;rw[e0];simp only;rw[e2]⟩
 ·cases h
theorem YE{a:bA}{H:Nat→Option br}{K:(υ:Ty)→υ.den→List Nat→Option α}(h:lW a H K=some r): ∃υ y rd,K υ y rd=some r∧ ∀H',Ag rd H H'→ ∀K':(υ:Ty)→υ.den→List Nat→Option α,lW a H' K'=K' υ y rd:=by
 unfold lW at h
 split at h
 ·exact⟨_,_,_,h,λ_ _ _=>rfl⟩
 ·split at h
  ·rename_i bg
   obtain⟨υ,y,h1,e1⟩:=iE h
   exact⟨_,_,_,h1,λH' hA K'=>by unfold lW;simp only;rw[hA _ (by simp),bg];simp only;rw[e1]⟩
  ·rename_i bg
   split at h
   ·obtain⟨υ,y,h1,e1⟩:=iE h
    exact⟨_,_,_,h1,λH' hA K'=>by unfold lW;simp only;rw[hA _ (by simp),bg];simp only;rw[e1]⟩
   ·cases h
  ·rename_i bg
   split at h
   ·obtain⟨υ,y,h1,e1⟩:=iE h
    exact⟨_,_,_,h1,λH' hA K'=>by unfold lW;simp only;rw[hA _ (by simp),bg];simp only;rw[e1]⟩
   ·cases h
  ·cases h
 ·cases h
theorem VS{τ:Ty}{a v:bA}{H:Nat→Option br}{K:g7 α}(h:m3 τ a v H K=some r): ∃u rd ups,K u rd ups=some r∧ ∀H',Ag rd H H'→ ∀K':g7 α,m3 τ a v H' K'=K' u rd ups:=by
 unfold m3 at h
 split at h
 ·obtain⟨y,rd,ups,h1,e1⟩:=pH h
  split at h1
  ·rename_i bg
   obtain⟨z,h2,e2⟩:=pG h1
   exact⟨_,_,_,h2,λH' hA K'=>by
    unfold m3;simp only
    rw[e1 H' (λi hi=>hA i (aZ _ hi))]
    rw[hA _ (by simp),bg];simp only;rw[e2]⟩
  ·rename_i bg
   split at h1
   ·obtain⟨h2,e2⟩:=uS h1
    obtain⟨z,h3,e3⟩:=pG h2
    exact⟨_,_,_,h3,λH' hA K'=>by
     unfold m3;simp only
     rw[e1 H' (λi hi=>hA i (aZ _ hi))]
     rw[hA _ (by simp),bg];simp only;rw[e2,e3]⟩
   ·cases h1
  ·cases h1
 ·cases h
theorem acw{j:Nat}{q:List Step}{τ:Ty}{x:τ.den}{H:Nat→Option br}{k:τ.den→jF→Option α}(h:EJ j q τ x H k=some r): ∃z ups,k z ups=some r∧ ∀H',H' j=H j→ ∀k':τ.den→jF→Option α,EJ j q τ x H' k'=k' z ups:=by
 unfold EJ at h
 split at h
 ·rename_i hj
  obtain⟨z,h1,e1⟩:=pG h
  exact⟨_,_,h1,λH' hA k'=>by unfold EJ;rw[hA,hj];simp only;rw[e1]⟩
 ·rename_i hj
  obtain⟨z,h1,e1⟩:=pG h
  exact⟨_,_,h1,λH' hA k'=>by unfold EJ;rw[hA,hj];simp only;rw[e1]⟩
 ·cases h
abbrev Pts(F:(Nat→Option br)→g7 α→Option α)(H:Nat→Option br)(K:g7 α)(r:α):Prop:=
 ∃v rd ups,K v rd ups=some r∧ ∀H',Ag rd H H'→ ∀K':g7 α,F H' K'=K' v rd ups
theorem YF{τ:Ty}{a:bA}{H:Nat→Option br}{K:g7 α}(h:(lW a H fun υ y rd=>cL υ τ y λz=>K (.val τ z) rd [])=some r):
  Pts (λH K=>lW a H fun υ y rd=>cL υ τ y λz=>K (.val τ z) rd []) H K r:=by
 obtain⟨υ,y,rd,h1,e1⟩:=YE h
 obtain⟨z,h2,e2⟩:=dK h1
 exact⟨_,_,_,h2,λH' hA K'=>by simp only;rw[e1 H' hA,e2]⟩
theorem apB{id:Nat}{p:List Step}{H:Nat→Option br}{K:(υ:Ty)→υ.den→List Nat→Option α}(h:lW (.jE id p) H K=some r): ∃υ y,K υ y [id]=some r:=by
 unfold lW at h
 simp only at h
 split at h
 ·obtain⟨υ,y,h1,_⟩:=iE h;exact⟨υ,y,h1⟩
 ·split at h
  ·obtain⟨υ,y,h1,_⟩:=iE h;exact⟨υ,y,h1⟩
  ·cases h
 ·split at h
  ·obtain⟨υ,y,h1,_⟩:=iE h;exact⟨υ,y,h1⟩
  ·cases h
 ·cases h
theorem YG{τ:Ty}{id:Nat}{p:List Step}{H:Nat→Option br}{K:g7 α}(h:(lW (.jE id p) H fun υ y rd=>cL υ τ y λz=>K (.val τ z) rd [])=some r):
  ∃z,K (.val τ z) [id] []=some r∧ ∀H',H' id=H id→ ∀K':g7 α,(lW (.jE id p) H' fun υ y rd=>cL υ τ y λz=>K' (.val τ z) rd [])=K' (.val τ z) [id] []:=by
 unfold lW at h
 simp only at h
 split at h
 ·rename_i bg
  obtain⟨υ,y,h1,e1⟩:=iE h
  obtain⟨z,h2,e2⟩:=dK h1
  exact⟨_,h2,λH' hA K'=>by unfold lW;simp only;rw[hA,bg];simp only;rw[e1,e2]⟩
 ·rename_i bg
  split at h
  ·obtain⟨υ,y,h1,e1⟩:=iE h
   obtain⟨z,h2,e2⟩:=dK h1
   exact⟨_,h2,λH' hA K'=>by unfold lW;simp only;rw[hA,bg];simp only;rw[e1,e2]⟩
  ·cases h
 ·rename_i bg
  split at h
  ·obtain⟨υ,y,h1,e1⟩:=iE h
   obtain⟨z,h2,e2⟩:=dK h1
   exact⟨_,h2,λH' hA K'=>by unfold lW;simp only;rw[hA,bg];simp only;rw[e1,e2]⟩
  ·cases h
 ·cases h
theorem Oq{τ:Ty}{a:bA}{H:Nat→Option br}{K:g7 α}(h:uM τ a H K=some r):Pts (uM τ a) H K r:=by
 unfold uM at h
 simp only at h
 split at h
 ·rename_i id p
  split at h
  ·rename_i υ x q j bg
   cases hp:Nc p q
   ·cases EM:zj p q
    ·rw[hp,EM]at h
     simp only[av]at h
     obtain⟨υ',y,h1,e1⟩:=iE h
     obtain⟨z,h2,e2⟩:=dK h1
     exact⟨_,_,_,h2,λH' hA K'=>by
      unfold uM;simp only;rw[hA id (by simp),bg];simp only
      rw[hp,EM];simp only[av];rw[e1,e2]⟩
    ·rw[hp,EM]at h
     simp only[av,ak]at h
     obtain⟨z,ups,h1,e1⟩:=acw h
     obtain⟨υ',y,h2,e2⟩:=iE h1
     obtain⟨z',h3,e3⟩:=dK h2
     exact⟨_,_,_,h3,λH' hA K'=>by
      unfold uM;simp only;rw[hA id (by simp),bg];simp only
      rw[hp,EM];simp only[av,ak];rw[e1 H' (hA j (by simp)),e2,e3]⟩
   ·rw[hp]at h
    simp only[ak]at h
    obtain⟨h1,e1⟩:=eH h
    exact⟨_,_,_,h1,λH' hA K'=>by
     unfold uM;simp only;rw[hA id (by simp),bg];simp only
     rw[hp];simp only[ak];rw[e1]⟩
  ·rename_i qX
   obtain⟨z,h1,e1⟩:=YG h
   refine⟨_,_,_,h1,λH' hA K'=> ?_⟩
   unfold uM;simp only;rw[hA id (by simp)]
   split
   ·rename_i bg;exact absurd bg (qX _ _ _ _)
   ·exact e1 H' (hA id (by simp)) K'
 ·rename_i qX
  obtain⟨v,rd,ups,h1,e1⟩:=YF h
  refine⟨v,rd,ups,h1,λH' hA K'=> ?_⟩
  have:uM τ a H' K'=lW a H' fun υ y rd=>cL υ τ y λz=>K' (.val τ z) rd []:=by
   unfold uM
   cases a<;>first|rfl|exact absurd rfl (qX _ _)
  rw[this]
  exact e1 H' hA K'
theorem Ot{τ:Ty}{id k:Nat}{e:Ty}{q:List Step}{υ:Ty}{x:υ.den}{H:Nat→Option br}{K:g7 α}(h:DJ τ id k e q υ x H K=some r):
  ∃v ups,K v [id,k] ups=some r∧ ∀H',H' k=H k→ ∀K':g7 α,DJ τ id k e q υ x H' K'=K' v [id,k] ups:=by
 unfold DJ at h
 split at h
 ·rename_i bg
  obtain⟨h1,e1⟩:=gI h
  obtain⟨h2,e2⟩:=gI h1
  obtain⟨z,h3,e3⟩:=pG h2
  exact⟨_,_,h3,λH' hA K'=>by unfold DJ;rw[hA,bg];simp only;rw[e1,e2,e3]⟩
 ·cases h
theorem CH{τ:Ty}{id:Nat}{p:List Step}{v:bA}{H:Nat→Option br}{K:g7 α}(h:m3 τ (.jE id p) v H K=some r):
  ∃u rd ups,id∈rd∧K u rd ups=some r∧ ∀H',Ag rd H H'→ ∀K':g7 α,m3 τ (.jE id p) v H' K'=K' u rd ups:=by
 unfold m3 at h
 simp only at h
 obtain⟨y,rd,ups,h1,e1⟩:=pH h
 split at h1
 ·rename_i bg
  obtain⟨z,h2,e2⟩:=pG h1
  exact⟨_,_,_,by simp,h2,λH' hA K'=>by
   unfold m3;simp only
   rw[e1 H' (λi hi=>hA i (aZ _ hi))]
   rw[hA _ (by simp),bg];simp only;rw[e2]⟩
 ·rename_i bg
  split at h1
  ·obtain⟨h2,e2⟩:=uS h1
   obtain⟨z,h3,e3⟩:=pG h2
   exact⟨_,_,_,by simp,h3,λH' hA K'=>by
    unfold m3;simp only
    rw[e1 H' (λi hi=>hA i (aZ _ hi))]
    rw[hA _ (by simp),bg];simp only;rw[e2,e3]⟩
  ·cases h1
 ·cases h1
theorem CI{E:Env}{τ:Ty}{a v:bA}{H:Nat→Option br}{K:g7 α}(h:kU E τ a v H K=some r):
  ∃u rd ups,K u rd ups=some r∧ ∀H',Ag rd H H'→ ∀K':g7 α,kU E τ a v H' K'=K' u rd ups:=by
 have h0:=h
 unfold kU at h
 simp only at h
 split at h
 ·rename_i id p
  split at h
  ·rename_i υ x bg
   split at h
   ·rename_i q e k qP
    cases hp:Nc p q
    ·rw[hp]at h
     simp only[av]at h
     obtain⟨u,rd,ups,hi,h1,e1⟩:=CH h
     refine⟨u,rd,ups,h1,λH' hA K'=> ?_⟩
     unfold kU;simp only;rw[hA id hi,bg];simp only;rw[qP];simp only;rw[hp];simp only[av]
     exact e1 H' hA K'
    ·rw[hp]at h
     simp only[ak]at h
     obtain⟨u,ups,h1,e1⟩:=Ot h
     refine⟨u,_,ups,h1,λH' hA K'=> ?_⟩
     unfold kU;simp only;rw[hA id (by simp),bg];simp only;rw[qP];simp only;rw[hp];simp only[ak]
     exact e1 H' (hA k (by simp)) K'
   ·rename_i qX
    obtain⟨u,rd,ups,hi,h1,e1⟩:=CH h
    refine⟨u,rd,ups,h1,λH' hA K'=> ?_⟩
    unfold kU;simp only;rw[hA id hi,bg];simp only
    exact e1 H' hA K'
  ·rename_i υ x q j bg
   have Bj:(m1 true v H τ λy rd ups=>wP τ y p υ x λz=>K .any (id::rd) (ups++[(id,some (cond (zj p q) (.obj υ z) (.gk υ z q j)))]))=some r→
     ∃u rd ups,id∈rd∧K u rd ups=some r∧ ∀H',Ag rd H H'→ ∀K':g7 α,(m1 true v H' τ λy rd ups=>wP τ y p υ x λz=>K' .any (id::rd) (ups++[(id,some (cond (zj p q) (.obj υ z) (.gk υ z q j)))]))=K' u rd ups:=by
    intro h
    obtain⟨y,rd,ups,h1,e1⟩:=pH h
    obtain⟨z,h2,e2⟩:=pG h1
    exact⟨_,_,_,by simp,h2,λH' hA K'=>by rw[e1 H' (λi hi=>hA i (aZ _ hi)),e2]⟩
   split at h
   ·rename_i q' e k qP
    cases hp:(Nc p q&&Nc q q')
    ·rw[hp]at h
     simp only[av]at h
     obtain⟨u,rd,ups,hi,h1,e1⟩:=Bj h
     refine⟨u,rd,ups,h1,λH' hA K'=> ?_⟩
     unfold kU;simp only;rw[hA id hi,bg];simp only;rw[qP];simp only;rw[hp];simp only[av]
     exact e1 H' hA K'
    ·rw[hp]at h
     simp only[ak]at h
     obtain⟨u,ups,h1,e1⟩:=Ot h
     refine⟨u,_,ups,h1,λH' hA K'=> ?_⟩
     unfold kU;simp only;rw[hA id (by simp),bg];simp only;rw[qP];simp only;rw[hp];simp only[ak]
     exact e1 H' (hA k (by simp)) K'
   ·rename_i qX
    obtain⟨u,rd,ups,hi,h1,e1⟩:=Bj h
    refine⟨u,rd,ups,h1,λH' hA K'=> ?_⟩
    unfold kU;simp only;rw[hA id hi,bg];simp only
    exact e1 H' hA K'
  ·rename_i avE avF
   obtain⟨u,rd,ups,hi,h1,e1⟩:=CH h
   refine⟨u,rd,ups,h1,λH' hA K'=> ?_⟩
   unfold kU;simp only;rw[hA id hi]
   split
   ·rename_i bg;exact absurd bg (avE _ _)
   ·rename_i bg;exact absurd bg (avF _ _ _ _)
   ·exact e1 H' hA K'
 ·rename_i qX
  obtain⟨u,rd,ups,h1,e1⟩:=VS h
  refine⟨u,rd,ups,h1,λH' hA K'=> ?_⟩
  have:kU E τ a v H' K'=m3 τ a v H' K':=by
   unfold kU
   cases a<;>first|rfl|exact absurd rfl (qX _ _)
  rw[this]
  exact e1 H' hA K'
theorem VT{E:Env}{τ:Ty}{a v:bA}{H:Nat→Option br}{K:g7 α}(h:ue E τ a v H K=some r):
  ∃u rd ups,K u rd ups=some r∧ ∀H',Ag rd H H'→ ∀K':g7 α,ue E τ a v H' K'=K' u rd ups:=by
 unfold ue at h
 split at h
 ·rename_i id υ y n
  split at h
  ·rename_i m e qP
   cases CA:Nat.beq m n
   ·rw[CA]at h
    simp only[av]at h
    obtain⟨u,rd,ups,h1,e1⟩:=CI h
    exact⟨u,rd,ups,h1,λH' hA K'=>by unfold ue;simp only;rw[qP];simp only;rw[CA];simp only[av];exact e1 H' hA K'⟩
   ·rw[CA]at h
    simp only[ak]at h
    obtain⟨h1,e1⟩:=gI h
    obtain⟨υ',h2,e2⟩:=yT h1
    obtain⟨h3,e3⟩:=gI h2
    obtain⟨h4,e4⟩:=yU h3
    exact⟨_,_,_,h4,λH' hA K'=>by unfold ue;simp only;rw[qP];simp only;rw[CA];simp only[ak];rw[e1,e2 H' (hA _ (by simp)),e3,e4 H' (hA _ (by simp))]⟩
  ·rename_i qX
   obtain⟨u,rd,ups,h1,e1⟩:=CI h
   refine⟨u,rd,ups,h1,λH' hA K'=> ?_⟩
   unfold ue;simp only
   exact e1 H' hA K'
 ·rename_i qX
  obtain⟨u,rd,ups,h1,e1⟩:=CI h
  refine⟨u,rd,ups,h1,λH' hA K'=> ?_⟩
  unfold ue
  split
  ·exact absurd rfl (qX _ _ _ _ rfl)
  ·exact e1 H' hA K'
theorem VU{E:Env}{t:Ty}{z:Bool}{a:bA}{lo hi mx:Option bA}{H:Nat→Option br}{K:g7 α}(h:xv E t z a lo hi mx H K=some r): ∃v rd ups,K v rd ups=some r∧ ∀H',Ag rd H H'→ ∀K':g7 α,xv E t z a lo hi mx H' K'=K' v rd ups:=by
 unfold xv at h
 split at h
 ·rename_i e id lo' hvw
  obtain⟨k,i,h1,e1⟩:=q4 h
  split at h1
  ·rename_i e' l bg
   obtain⟨h2,e2⟩:=gI h1
   obtain⟨h3,e3⟩:=eH h2
   refine⟨_,_,_,h3,λH' hA K'=> ?_⟩
   unfold xv;rw[hvw];simp only
   rw[e1,hA id (by simp),bg];simp only
   rw[e2,e3]
  ·cases h1
 ·rename_i qX
  obtain⟨v,rd,ups,h1,e1⟩:=VP h
  refine⟨v,rd,ups,h1,λH' hA K'=> ?_⟩
  unfold xv
  split
  ·rename_i hvw;exact absurd rfl (qX _ _ _ hvw rfl rfl rfl rfl)
  ·exact e1 H' hA K'
theorem VV{e:Ty}{a:bA}{H:Nat→Option br}{K:g7 α}(h:zP e a H K=some r): ∃v rd ups,K v rd ups=some r∧ ∀H',Ag rd H H'→ ∀K':g7 α,zP e a H' K'=K' v rd ups:=by
 unfold zP at h
 split at h
 ·rename_i id e' lo
  obtain⟨h1,e1⟩:=gI h
  split at h1
  ·rename_i e2 l bg
   obtain⟨z,h2,e3⟩:=dK h1
   refine⟨_,_,_,h2,λH' hA K'=> ?_⟩
   unfold zP;simp only
   rw[e1,hA id (by simp),bg];simp only
   rw[e3]
  ·cases h1
 ·cases h
theorem VW{E:Env}{τ:Ty}{a v:bA}{H:Nat→Option br}{K:g7 α}(h:xx E τ a v H K=some r):
  ∃u rd ups,K u rd ups=some r∧ ∀H',Ag rd H H'→ ∀K':g7 α,xx E τ a v H' K'=K' u rd ups:=by
 unfold xx at h
 split at h
 ·rename_i id υ y n j
  split at h
  ·rename_i m e qP
   obtain⟨h1,e1⟩:=eH h
   obtain⟨h2,e2⟩:=gI h1
   obtain⟨υ',h3,e3⟩:=yT h2
   obtain⟨h4,e4⟩:=gI h3
   split at h4
   ·rename_i e' l hj
    obtain⟨h5,e5⟩:=gI h4
    refine⟨_,_,_,h5,λH' hA K'=> ?_⟩
    unfold xx;simp only;rw[qP];simp only
    rw[e1,e2,e3 H' (hA _ (by simp)),e4,hA j (by simp),hj];simp only
    rw[e5]
   ·cases h4
  ·cases h
 ·rename_i qX
  obtain⟨u,rd,ups,h1,e1⟩:=VT h
  refine⟨u,rd,ups,h1,λH' hA K'=> ?_⟩
  unfold xx
  split
  ·exact absurd rfl (qX _ _ _ _ _ rfl)
  ·exact e1 H' hA K'
theorem YH{E:Env}{τ:Ty}{a:bA}{H:Nat→Option br}{K:g7 α}(h:A5 E τ a H K=some r):
  ∃u rd ups,K u rd ups=some r∧ ∀H',Ag rd H H'→ ∀K':g7 α,A5 E τ a H' K'=K' u rd ups:=by
 unfold A5 at h
 split at h
 ·rename_i id Vv
  split at h
  ·rename_i υ x n j bg
   obtain⟨z,h1,e1⟩:=dK h
   refine⟨_,_,_,h1,λH' hA K'=> ?_⟩
   unfold A5;rw[Vv];simp only;rw[hA id (by simp),bg];simp only
   rw[e1]
  ·rename_i qX
   obtain⟨u,rd,ups,h1,e1⟩:=Oq h
   refine⟨_,_,_,h1,λH' hA K'=> ?_⟩
   unfold A5;rw[Vv];simp only;rw[hA id (by simp)]
   split
   ·rename_i bg;exact absurd bg (qX _ _ _ _)
   ·exact e1 H' (λi hi=>hA i (aZ _ hi)) _
 ·rename_i qX
  obtain⟨u,rd,ups,h1,e1⟩:=Oq h
  refine⟨u,rd,ups,h1,λH' hA K'=> ?_⟩
  unfold A5
  split
  ·rename_i Vv;exact absurd rfl (qX _ Vv)
  ·exact e1 H' hA K'
theorem Ub{H:Nat→Option br}{id:Nat}{τ:Ty}{x:τ.den}{q:List Step}{e:Ty}{K:g7 α}(h:EK H id τ x q e K=some r):Pts (λH K=>EK H id τ x q e K) H K r:=by
 obtain⟨h1,h2,h3⟩:=Gy h
 exact⟨_,_,_,h3,λH' hA K'=>by unfold EK sf;simp only;rw[hA id (by simp),h1,hA (id+1) (by simp),h2]⟩
theorem akz{E:Env}{o:Oper}{ρ:Operand→bA}{H:Nat→Option br}{K:g7 α}(h:tC E o ρ H K=some r):
  ∃v rd ups,K v rd ups=some r∧ ∀ρ' H',(∀x∈o.op.operands,ρ' x=ρ x)→Ag rd H H'→ ∀K':g7 α,tC E o ρ' H' K'=K' v rd ups:=by
 obtain⟨dst,op,type,pos,after,guard⟩:=o
 unfold tC at h
 simp only at h
 have acx: ∀{ρ':Operand→bA} (xs:List Operand),(∀x∈xs,ρ' x=ρ x)→xs.map ρ'=xs.map ρ:=λxs hx=>pP hx
 have LJ: ∀{ρ':Operand→bA} (ps:Array (Nat×Operand)),(∀x∈ps.map (·.2),ρ' x=ρ x)→partsOf ρ' ps=partsOf ρ ps:=λps hp=>by
  unfold partsOf
  exact pP λp hm=>by rw[hp p.2 (Array.mem_map.2 ⟨p,by simpa using hm,rfl⟩)]
 have akA: ∀{ρ':Operand→bA} (x:Option Operand),(∀y∈x,ρ' y=ρ y)→x.map ρ'=x.map ρ:=λx hx=>by
  cases x with
  |none=>rfl
  |some x=>simp[hx x rfl]
 split at h
 ·
  rename_i x
  exact⟨_,_,_,h,fun ρ' H' hx _ K'=>by unfold tC;simp only;rw[hx x (by simp[Op.operands])]⟩
 ·rename_i x
  exact⟨_,_,_,h,fun ρ' H' hx _ K'=>by unfold tC;simp only;rw[hx x (by simp[Op.operands])]⟩
 ·rename_i x y z
  split at h
  ·rename_i t hx
   cases t
   ·exact⟨_,_,_,(h:K (ρ z) [] []=some r),fun ρ' H' oW _ K'=>by unfold tC;simp only;rw[oW x (by simp[Op.operands]),hx,oW z (by simp[Op.operands])];rfl⟩
   ·exact⟨_,_,_,(h:K (ρ y) [] []=some r),fun ρ' H' oW _ K'=>by unfold tC;simp only;rw[oW x (by simp[Op.operands]),hx,oW y (by simp[Op.operands])];rfl⟩
  ·cases h
 ·
  split at h
  ·rename_i τ ht
   split at h
   ·rename_i q e qP
    obtain⟨v,rd,ups,h1,e1⟩:=Ub h
    exact⟨_,_,_,h1,fun ρ' H' hx hA K'=>by unfold tC;simp only;rw[ht];simp only;rw[qP];exact e1 H' hA K'⟩
   ·rename_i qP
    obtain⟨h1,e1⟩:=yU h
    exact⟨_,_,_,h1,fun ρ' H' hx hA K'=>by unfold tC;simp only;rw[ht];simp only;rw[qP];simp only;rw[e1 H' (hA _ (by simp))]⟩
  ·cases h
 ·
  rename_i t x
  split at h
  ·rename_i τ ht
   have hold:(m1 true (ρ x) H τ λy rd ups=>sf H (16*dst.getD 0) (.obj τ y) (K (.jE (16*dst.getD 0) []) (16*dst.getD 0::rd) (ups++[(16*dst.getD 0,some (.obj τ y))])))=some r→
     Pts (λH K=>m1 true (ρ x) H τ λy rd ups=>sf H (16*dst.getD 0) (.obj τ y) (K (.jE (16*dst.getD 0) []) (16*dst.getD 0::rd) (ups++[(16*dst.getD 0,some (.obj τ y))]))) H K r:=by
    intro h
    obtain⟨y,rd,ups,h1,e1⟩:=pH h
    obtain⟨h2,e2⟩:=yU h1
    exact⟨_,_,_,h2,λH' hA K'=>by simp only;rw[e1 H' (λi hi=>hA i (aZ _ hi)),e2 H' (hA _ (by simp))]⟩
   split at h
   ·rename_i m e υ y n qP YI
    cases CA:Nat.beq m n
    ·rw[CA]at h
     obtain⟨v,rd,ups,h1,e1⟩:=hold h
     refine⟨_,_,_,h1,fun ρ' H' hx hA K'=> ?_⟩
     unfold tC;simp only;rw[ht];simp only
     rw[hx x (by simp[Op.operands]),qP,YI];simp only
     rw[CA]
     have:=e1 H' hA K'
     rw[YI]at this
     exact this
    ·rw[CA]at h
     simp only[ak]at h
     obtain⟨z,h1,e1⟩:=dK h
     obtain⟨v,rd,ups,h2,e2⟩:=Ub h1
     refine⟨_,_,_,h2,fun ρ' H' hx hA K'=> ?_⟩
     unfold tC;simp only;rw[ht];simp only
     rw[hx x (by simp[Op.operands]),qP,YI];simp only
     rw[CA];simp only[ak]
     rw[e1]
     exact e2 H' hA K'
   ·rename_i qX
    obtain⟨v,rd,ups,h1,e1⟩:=hold h
    refine⟨_,_,_,h1,fun ρ' H' hx hA K'=> ?_⟩
    unfold tC;simp only;rw[ht];simp only
    rw[hx x (by simp[Op.operands])]
    split
    ·rename_i qP YI;exact absurd YI (qX _ _ _ _ _ qP)
    ·exact e1 H' hA K'
  ·cases h
 ·
  rename_i t ps
  split at h
  ·rename_i n e ht
   obtain⟨l,rd,ups,h1,_,e1⟩:=GU h
   exact⟨_,_,_,h1,fun ρ' H' hx hA K'=>by unfold tC;simp only;rw[ht];simp only;rw[LJ ps (λx oW=>hx x (by simpa [Op.operands]using oW)),e1 H' hA]⟩
  ·rename_i τ Yj ht
   split at h
   ·rename_i n k hs
    split at h
    ·rename_i e' l' hk
     obtain⟨h0,e0⟩:=eH h
     obtain⟨l,rd,ups,h1,_,e1⟩:=CG h0
     refine⟨_,_,_,h1,fun ρ' H' hx hA K'=> ?_⟩
     unfold tC;simp only;rw[ht]
     cases τ with
     |arr n e=>exact absurd rfl (Yj n e)
     |_=>
      simp only
      rw[LJ ps (λx oW=>hx x (by simpa [Op.operands]using oW)),hs];simp only
      rw[hA k (by simp),hk];simp only
      rw[e0,e1 H' (λi hi=>hA i (aZ _ hi))]
    ·cases h
   ·rename_i hs
    obtain⟨h0,e0⟩:=eH h
    obtain⟨l,rd,ups,h1,_,e1⟩:=CG h0
    refine⟨_,_,_,h1,fun ρ' H' hx hA K'=> ?_⟩
    unfold tC;simp only;rw[ht]
    cases τ with
    |arr n e=>exact absurd rfl (Yj n e)
    |_=>
     simp only
     rw[LJ ps (λx oW=>hx x (by simpa [Op.operands]using oW)),hs];simp only
     rw[e0,e1 H' hA]
  ·cases h
 ·
  rename_i t n ps
  split at h
  ·rename_i e ht
   obtain⟨h0,e0⟩:=eH h
   obtain⟨h1,e1⟩:=yU h0
   obtain⟨l,rd,ups,h2,_,e2⟩:=GU h1
   exact⟨_,_,_,h2,fun ρ' H' hx hA K'=>by
    unfold tC;simp only;rw[ht];simp only
    rw[e0,e1 H' (hA _ (by simp)),LJ ps (λx oW=>hx x (by simpa [Op.operands]using oW)),e2 H' (λi hi=>hA i (aZ _ hi))]⟩
  ·cases h
 ·
  rename_i t x
  split at h
  ·rename_i τ ht
   obtain⟨v,rd,ups,h1,e1⟩:=YH h
   exact⟨_,_,_,h1,fun ρ' H' hx hA K'=>by unfold tC;simp only;rw[ht];simp only;rw[hx x (by simp[Op.operands]),e1 H' hA]⟩
  ·cases h
 ·
  rename_i t x y
  split at h
  ·rename_i τ ht
   obtain⟨u,rd,ups,h1,e1⟩:=VW h
   exact⟨_,_,_,h1,fun ρ' H' hx hA K'=>by unfold tC;simp only;rw[ht];simp only;rw[hx x (by simp[Op.operands]),hx y (by simp[Op.operands]),e1 H' hA]⟩
  ·cases h
 ·
  rename_i x
  split at h
  ·rename_i id p hx
   exact⟨_,_,_,h,fun ρ' H' oW _ K'=>by unfold tC;simp only;rw[oW x (by simp[Op.operands]),hx]⟩
  ·rename_i τ z hx
   exact⟨_,_,_,h,fun ρ' H' oW _ K'=>by unfold tC;simp only;rw[oW x (by simp[Op.operands]),hx]⟩
  ·cases h
 ·
  rename_i b t x y t'
  obtain⟨τ,x1,h1,e1⟩:=Ua h
  obtain⟨υ,y1,h2,e2⟩:=Ua h1
  obtain⟨v,h3,e3⟩:=YA h2
  exact⟨_,_,_,h3,fun ρ' H' hx _ K'=>by unfold tC;simp only;rw[hx x (by simp[Op.operands]),hx y (by simp[Op.operands]),e1,e2,e3]⟩
 ·
  rename_i u t x
  obtain⟨v,h1,e1⟩:=acs h
  exact⟨_,_,_,h1,fun ρ' H' hx _ K'=>by unfold tC;simp only;rw[hx x (by simp[Op.operands]),e1]⟩
 ·
  rename_i s d x
  split at h
  ·rename_i τ k hs hd
   obtain⟨i,n,h1,e1⟩:=q4 h
   exact⟨_,_,_,h1,fun ρ' H' hx _ K'=>by unfold tC;simp only;rw[hs,hd];simp only;rw[hx x (by simp[Op.operands]),e1]⟩
  ·cases h
 ·
  rename_i f first caps
  obtain⟨h1,e1⟩:=eH h
  obtain⟨cs,rd,ups,h3,e3⟩:=GW h1
  exact⟨_,_,_,h3,fun ρ' H' hx hA K'=>by unfold tC;simp only;rw[acx caps.toList (λx oW=>hx x (by simp[Op.operands];exact .inr (by simpa using oW))),e1,e3 H' hA]⟩
 ·
  rename_i t x y
  split at h
  ·rename_i e ht
   obtain⟨i,n,h1,e1⟩:=q4 h
   obtain⟨i',n',h2,e2⟩:=q4 h1
   obtain⟨h3,e3⟩:=eH h2
   obtain⟨h4,e4⟩:=yU h3
   exact⟨_,_,_,h4,fun ρ' H' hx hA K'=>by
    unfold tC;simp only;rw[ht];simp only
    rw[hx x (by simp[Op.operands]),e1,hx y (by simp[Op.operands]),e2,e3,e4 H' (hA _ (by simp))]⟩
  ·cases h
 ·
  rename_i t x lo hi mx
  split at h
  ·rename_i τ ht
   obtain⟨v,rd,ups,h1,e1⟩:=VU h
   exact⟨_,_,_,h1,fun ρ' H' hx hA K'=>by
    unfold tC;simp only;rw[ht];simp only
    rw[hx x (by simp[Op.operands]),akA lo (λy hy=>hx y (by simp at hy;simp[Op.operands,hy])),akA hi (λy hy=>hx y (by simp at hy;simp[Op.operands,hy])),akA mx (λy hy=>hx y (by simp at hy;simp[Op.operands,hy])),e1 H' hA]⟩
  ·cases h
 ·
  rename_i t x n
  split at h
  ·rename_i τ ht
   split at h
   ·rename_i id p hx
    obtain⟨υ,h1,e1⟩:=yT h
    obtain⟨h2,e2⟩:=gI h1
    obtain⟨υ',y',h3,e3⟩:=yS h2
    obtain⟨h4,e4⟩:=uS h3
    exact⟨_,_,_,h4,fun ρ' H' oW hA K'=>by
     unfold tC;simp only;rw[ht];simp only
     rw[oW x (by simp[Op.operands]),hx];simp only
     rw[e1 H' (hA _ (by simp)),e2,e3,e4]⟩
   ·rename_i υ z hx
    obtain⟨h2,e2⟩:=gI h
    obtain⟨υ',y',h3,e3⟩:=yS h2
    obtain⟨h4,e4⟩:=uS h3
    exact⟨_,_,_,h4,fun ρ' H' oW hA K'=>by
     unfold tC;simp only;rw[ht];simp only
     rw[oW x (by simp[Op.operands]),hx];simp only
     rw[e2,e3,e4]⟩
   ·cases h
  ·cases h
 ·
  rename_i t x n
  split at h
  ·rename_i τ ht
   split at h
   ·rename_i υ z hx
    obtain⟨h2,e2⟩:=gI h
    obtain⟨υ',y',h3,e3⟩:=yS h2
    exact⟨_,_,_,h3,fun ρ' H' oW hA K'=>by
     unfold tC;simp only;rw[ht];simp only
     rw[oW x (by simp[Op.operands]),hx];simp only
     rw[e2,e3]⟩
   ·cases h
  ·cases h
 ·
  rename_i t x i
  split at h
  ·rename_i τ ht
   obtain⟨v,rd,ups,h1,e1⟩:=Jn h
   exact⟨_,_,_,h1,fun ρ' H' hx hA K'=>by unfold tC;simp only;rw[ht];simp only;rw[hx x (by simp[Op.operands]),hx i (by simp[Op.operands]),e1 H' hA]⟩
  ·cases h
 ·
  rename_i t x i
  split at h
  ·rename_i τ ht
   obtain⟨v,h1,e1⟩:=VQ h
   exact⟨_,_,_,h1,fun ρ' H' hx hA K'=>by unfold tC;simp only;rw[ht];simp only;rw[hx x (by simp[Op.operands]),hx i (by simp[Op.operands]),e1]⟩
  ·cases h
 ·
  rename_i x i
  split at h
  ·rename_i vs hx
   split at h
   ·rename_i v hv
    exact⟨_,_,_,h,fun ρ' H' oW hA K'=>by unfold tC;simp only;rw[oW x (by simp[Op.operands]),hx];simp only;rw[hv]⟩
   ·cases h
  ·cases h
 ·
  rename_i cl
  obtain⟨callee,args,ts⟩:=cl
  simp only at h
  have xN: ∀{ρ':Operand→bA},(∀x∈(Op.call {callee,args,argTypes:=ts}).operands,ρ' x=ρ x)→ ∀x∈args.toList,ρ' x=ρ x:=
   λhx x oW=>hx x (by simp[Op.operands,Call.operands];exact .inr (by simpa using oW))
  split at h
  ·split at h
   ·rename_i x τ ha ht
    obtain⟨v,rd,ups,h1,e1⟩:=acu h
    exact⟨_,_,_,h1,fun ρ' H' hx hA K'=>by unfold tC;simp only;rw[ha,ht];simp only;rw[xN hx x (by rw[ha];simp),e1 H' hA]⟩
   ·cases h
  ·split at h
   ·rename_i x y t t' ha ht
    split at h
    ·rename_i e hte
     obtain⟨h1,e1⟩:=eH h
     obtain⟨h2,e2⟩:=yU h1
     obtain⟨v,rd,ups,h3,bg,e3⟩:=acv h2
     exact⟨_,_,_,h3,fun ρ' H' hx hA K'=>by
      unfold tC;simp only;rw[ha,ht];simp only;rw[hte];simp only
      rw[e1,e2 H' (hA _ bg),xN hx x (by rw[ha];simp),xN hx y (by rw[ha];simp),e3 H' hA]⟩
    ·cases h
   ·cases h
  ·split at h
   ·rename_i x t ha ht
    split at h
    ·rename_i e hte
     obtain⟨v,rd,ups,h1,e1⟩:=VV h
     exact⟨_,_,_,h1,fun ρ' H' hx hA K'=>by
      unfold tC;simp only;rw[ha,ht];simp only;rw[hte];simp only
      rw[xN hx x (by rw[ha];simp),e1 H' hA]⟩
    ·cases h
   ·cases h
  ·split at h
   ·rename_i x xs ha
    obtain⟨v,h1,e1⟩:=Si h
    exact⟨_,_,_,h1,fun ρ' H' hx hA K'=>by
     unfold tC;simp only;rw[ha];simp only
     rw[xN hx x (by rw[ha];simp),acx xs (λy hy=>xN hx y (by rw[ha];simp[hy])),e1]⟩
   ·cases h
  ·split at h
   ·rename_i x xs ha
    obtain⟨v,h1,e1⟩:=Si h
    exact⟨_,_,_,h1,fun ρ' H' hx hA K'=>by
     unfold tC;simp only;rw[ha];simp only
     rw[xN hx x (by rw[ha];simp),acx xs (λy hy=>xN hx y (by rw[ha];simp[hy])),e1]⟩
   ·cases h
  ·rename_i g
   split at h
   ·rename_i f caps hg
    obtain⟨v,rd,ups,h1,e1⟩:=YD h
    exact⟨_,_,_,h1,fun ρ' H' hx hA K'=>by
     unfold tC;simp only
     rw[hx g (by simp[Op.operands,Call.operands]),hg];simp only
     rw[acx args.toList (xN hx),e1 H' hA]⟩
   ·cases h
  ·cases h
 ·cases h
end VM
end
section
namespace VM
open Go
variable{P:Program}{E:Env}{o:Oper}{a:Act}{w:World}{M:Nat→Prop}{ν:Nat→Value}{σ:St}{c:Ctx}{α:Type}{r:α}{next:Act→World→Prop}{Q:Exit→Act→World→Prop}
structure Out where
 dst:Option Nat
 v:bA
 rd:List Nat
 ups:jF
def Out.app(u:Out)(σ:St):St:=(σ.xp u.ups).wO u.dst u.v
theorem Ou(σ:St)(d:Nat)(v:bA):(σ.wO (some d) v).T d=v:=vC σ d v
theorem VX(σ:St){d:Option Nat}{t:Nat}(v:bA)(h:d≠some t):(σ.wO d v).T t=σ.T t:=by
 cases d with
 |none=>rfl
 |some d=>exact Bt σ v (λe=>h (by rw[e]))
theorem akB(σ:St)(d:Option Nat)(v:bA):(σ.wO d v).H=σ.H:=by cases d<;>rfl
theorem Sj{u:Out}{t:Nat}(h:u.dst=some t)(σ:St):(u.app σ).T t=u.v:=by unfold Out.app;rw[h];exact Ou _ _ _
theorem YJ{u:Out}{t:Nat}(h:u.dst≠some t)(σ:St):(u.app σ).T t=σ.T t:=by unfold Out.app;rw[VX _ _ h,R8]
theorem apC(u:Out)(σ:St):(u.app σ).H=c0 σ.H u.ups:=by unfold Out.app;rw[akB,R7]
def Pt(E:Env)(ops:List Oper)(o:Oper)(σ:St)(u:Out)(α:Type):Prop:=
 u.dst=o.dst∧ ∀σ':St,(∀t∈names ops o,σ'.T t=σ.T t)→Ag u.rd σ.H σ'.H→ ∀K':St→List Nat→List Nat→Option α,uN E ops o σ' K'=K' (u.app σ') u.rd (u.ups.map (·.1))
theorem YK{ops:List Oper}{K:St→List Nat→List Nat→Option α}(h:uN E ops o σ K=some r): ∃u:Out,K (u.app σ) u.rd (u.ups.map (·.1))=some r∧Pt E ops o σ u α:=by
 unfold uN at h
 obtain⟨h,e0⟩:=eH h
 have avG: ∀σ':St,(∀t∈names ops o,σ'.T t=σ.T t)→ ∀x∈o.op.operands,σ'.ρ x=σ.ρ x:=by
  intro σ' hT x hx
  cases x with
  |tmp t=>
   refine hT t ?_
   unfold names
   refine cU _ (List.mem_filterMap.2 ⟨.tmp t,by simpa using hx,rfl⟩)
  |_=>rfl
 have dF:tC E o σ.ρ σ.H (λv rd ups=>K ((σ.xp ups).wO o.dst v) rd (ups.map (·.1)))=some r→
   ∃u:Out,K (u.app σ) u.rd (u.ups.map (·.1))=some r∧u.dst=o.dst∧ ∀σ':St,(∀t∈names ops o,σ'.T t=σ.T t)→Ag u.rd σ.H σ'.H→ ∀K':St→List Nat→List Nat→Option α,
    tC E o σ'.ρ σ'.H (λv rd ups=>K' ((σ'.xp ups).wO o.dst v) rd (ups.map (·.1)))=K' (u.app σ') u.rd (u.ups.map (·.1)):=by
  intro h
  obtain⟨v,rd,ups,h1,h2⟩:=akz h
  exact⟨⟨o.dst,v,rd,ups⟩,h1,rfl,fun σ' hT hA K'=>h2 σ'.ρ σ'.H (avG σ' hT) hA _⟩
 have tJ: ∀{K:St→List Nat→List Nat→Option α},K (σ.wO o.dst .X4) [] []=some r→ ∃u:Out,K (u.app σ) u.rd (u.ups.map (·.1))=some r∧u.dst=o.dst∧ ∀σ':St,∀K':St→List Nat→List Nat→Option α,K' (σ'.wO o.dst .X4) [] []=K' (u.app σ') u.rd (u.ups.map (·.1)):=
  λh=>⟨⟨o.dst,.X4,[],[]⟩,h,rfl,λ_ _=>rfl⟩
 simp only at h
 split at h
 ·rename_i hg
  obtain⟨u,h1,h2,h3⟩:=dF h
  refine⟨u,h1,h2,fun σ' hT hA K'=> ?_⟩
  unfold uN
  rw[e0]
  simp only
  rw[hg]
  exact h3 σ' hT hA K'
 ·rename_i j want hg
  split at h
  ·cases h
  ·rename_i t ht
   have VY:t∈names ops o:=by
    unfold names
    refine dB _ ?_
    rw[hg]
    simp[ht]
   split at h
   ·rename_i b hb
    have qR: ∀σ':St,σ'.T t=σ.T t→σ'.put t (.val .bool b)=σ':=fun σ' h'=>by
     rw[←hb,←h'];exact GP σ' t
    cases want<;>cases b
    ·obtain⟨u,h1,h2,h3⟩:=dF (by
      have:=qR σ rfl
      rw[this]at h;exact h)
     refine⟨u,h1,h2,fun σ' hT hA K'=> ?_⟩
     unfold uN
     rw[e0];simp only;rw[hg];simp only;rw[ht];simp only;rw[hT t VY,hb];simp only
     rw[qR σ' (hT t VY)]
     exact h3 σ' hT hA K'
    ·obtain⟨u,h1,h2,h3⟩:=tJ (by
      have:=qR σ rfl
      rw[this]at h;exact h)
     refine⟨u,h1,h2,fun σ' hT hA K'=> ?_⟩
     unfold uN
     rw[e0];simp only;rw[hg];simp only;rw[ht];simp only;rw[hT t VY,hb];simp only
     rw[qR σ' (hT t VY)]
     exact h3 σ' K'
    ·obtain⟨u,h1,h2,h3⟩:=tJ (by
      have:=qR σ rfl
      rw[this]at h;exact h)
     refine⟨u,h1,h2,fun σ' hT hA K'=> ?_⟩
     unfold uN
     rw[e0];simp only;rw[hg];simp only;rw[ht];simp only;rw[hT t VY,hb];simp only
     rw[qR σ' (hT t VY)]
     exact h3 σ' K'
    ·obtain⟨u,h1,h2,h3⟩:=dF (by
      have:=qR σ rfl
      rw[this]at h;exact h)
     refine⟨u,h1,h2,fun σ' hT hA K'=> ?_⟩
     unfold uN
     rw[e0];simp only;rw[hg];simp only;rw[ht];simp only;rw[hT t VY,hb];simp only
     rw[qR σ' (hT t VY)]
     exact h3 σ' hT hA K'
   ·rename_i hb
    obtain⟨u,h1,h2,h3⟩:=tJ h
    refine⟨u,h1,h2,fun σ' hT hA K'=> ?_⟩
    unfold uN
    rw[e0];simp only;rw[hg];simp only;rw[ht];simp only;rw[hT t VY,hb]
    exact h3 σ' K'
   ·cases h
theorem Uc{ops:List Oper}: ∀(l:List Oper) (i:Nat) (σ:St) (lg:Log) (K:St→Log→Option α),Vp E ops l i σ lg K=some r→
  ∃us:List Out,us.length=l.length∧(∀j u o,us[j]? =some u→l[j]? =some o→Pt E ops o ((us.take j).foldl (fun σ u=>u.app σ) σ) u α)∧
   ∃lg',K (us.foldl (fun σ u=>u.app σ) σ) lg'=some r∧(∀x∈lg,x∈lg')∧ ∀j u,us[j]? =some u→(i+j,u.rd,u.ups.map (·.1))∈lg'
 |[],i,σ,lg,K,h=>⟨[],rfl,λj u o hj=>by simp at hj,lg,h,λ_ h=>h,λj u hj=>by simp at hj⟩
 |o::l,i,σ,lg,K,h=>by
  unfold Vp at h
  obtain⟨u,h1,h2⟩:=YK h
  obtain⟨us,hl,hpt,lg',hK,hlg,hj⟩:=Uc l (i+1) (u.app σ) _ K h1
  refine⟨u::us,by simp[hl],λj u' o' hu ho=> ?_,lg',hK,λx hx=>hlg x (aZ _ hx),λj u' hu=> ?_⟩
  ·cases j with
   |zero=>simp at hu ho;subst hu ho;exact h2
   |succ j=>exact hpt j u' o' (by simpa using hu) (by simpa using ho)
  ·cases j with
   |zero=>simp at hu;subst hu;exact hlg _ bq
   |succ j=>
    have:=hj j u' (by simpa using hu)
    rwa [show i+1+j=i+(j+1)from by omega]at this
theorem VZ{k:Nat}{ups:jF}(h:k∈keys ups)(H H':Nat→Option br):c0 H ups k=c0 H' ups k:=by
 induction ups generalizing H H' with
 |nil=>simp[keys]at h
 |cons u r ih=>
  show c0 (cn H u.1 u.2) r k=c0 (cn H' u.1 u.2) r k
  by_cases hk:k∈keys r
  ·exact ih hk _ _
  ·have hku:k=u.1:=by
    simp only[keys,bQ,a8]at h hk
    exact h.resolve_right hk
   rw[mE hk,mE hk,hku,ay,ay]
structure pY(us:List Out)(σ0:St)(S:Nat→Prop)(σ:St):Prop where
 T: ∀t,(∃j u,us[j]? =some u∧S j∧u.dst=some t∧(∀j' u',us[j']? =some u'→S j'→u'.dst=some t→j'≤j)∧σ.T t=u.v)∨((∀j u,us[j]? =some u→S j→u.dst≠some t)∧σ.T t=σ0.T t)
 H: ∀k,(∃j u,us[j]? =some u∧S j∧k∈keys u.ups∧(∀j' u',us[j']? =some u'→S j'→k∈keys u'.ups→j'≤j)∧σ.H k=c0 σ0.H u.ups k)∨((∀j u,us[j]? =some u→S j→k∉keys u.ups)∧σ.H k=σ0.H k)
theorem pY.YL{us:List Out}{σ0 σ σ':St}{S S':Nat→Prop}(h:pY us σ0 S σ)(h':pY us σ0 S' σ'){t:Nat}(hs: ∀j u,us[j]? =some u→u.dst=some t→(S j↔S' j)):σ.T t=σ'.T t:=by
 rcases h.T t with⟨j,u,h1,h2,h3,h4,h5⟩|⟨h1,h2⟩<;>rcases h'.T t with⟨j',u',q5,zF,Sk,h4',h5'⟩|⟨q5,zF⟩
 ·have e1:=h4 j' u' q5 ((hs j' u' q5 Sk).2 zF) Sk
  have e2:=h4' j u h1 ((hs j u h1 h3).1 h2) h3
  have:j=j':=ω
  subst this
  rw[h1]at q5;cases q5
  rw[h5,h5']
 ·exact absurd h3 (q5 j u h1 ((hs j u h1 h3).1 h2))
 ·exact absurd Sk (h1 j' u' q5 ((hs j' u' q5 Sk).2 zF))
 ·rw[h2,zF]
theorem pY.YM{us:List Out}{σ0 σ σ':St}{S S':Nat→Prop}(h:pY us σ0 S σ)(h':pY us σ0 S' σ'){k:Nat}(hs: ∀j u,us[j]? =some u→k∈keys u.ups→(S j↔S' j)):σ.H k=σ'.H k:=by
 rcases h.H k with⟨j,u,h1,h2,h3,h4,h5⟩|⟨h1,h2⟩<;>rcases h'.H k with⟨j',u',q5,zF,Sk,h4',h5'⟩|⟨q5,zF⟩
 ·have e1:=h4 j' u' q5 ((hs j' u' q5 Sk).2 zF) Sk
  have e2:=h4' j u h1 ((hs j u h1 h3).1 h2) h3
  have:j=j':=ω
  subst this
  rw[h1]at q5;cases q5
  rw[h5,h5']
 ·exact absurd h3 (q5 j u h1 ((hs j u h1 h3).1 h2))
 ·exact absurd Sk (h1 j' u' q5 ((hs j' u' q5 Sk).2 zF))
 ·rw[h2,zF]
theorem pY.unique{us:List Out}{σ0 σ σ':St}{S S':Nat→Prop}(h:pY us σ0 S σ)(h':pY us σ0 S' σ')(hs: ∀j u,us[j]? =some u→(S j↔S' j)):σ=σ':=by
 obtain⟨T,H⟩:=σ
 obtain⟨T',H'⟩:=σ'
 congr 1
 ·funext t;exact h.YL h' (λj u hj _=>hs j u hj)
 ·funext k;exact h.YM h' (λj u hj _=>hs j u hj)
theorem pY.step{us:List Out}{σ0 σ:St}{S:Nat→Prop}(h:pY us σ0 S σ){i:Nat}{u:Out}(hi:us[i]? =some u)(hc: ∀j u',us[j]? =some u'→S j→i<j→(∀t,u.dst=some t→u'.dst≠some t)∧ ∀k∈keys u.ups,k∉keys u'.ups):
  pY us σ0 (λj=>j=i∨S j) (u.app σ):=by
 refine⟨λt=> ?_,λk=> ?_⟩
 ·by_cases hd:u.dst=some t
  ·left
   refine⟨i,u,hi,.inl rfl,hd,λj' u' h1 h2 h3=> ?_,Sj hd σ⟩
   rcases h2 with rfl|h2
   ·exact aH _
   ·exact Nat.le_of_not_lt λeU=>(hc j' u' h1 h2 eU).1 t hd h3
  ·rw[YJ hd]
   rcases h.T t with⟨j,u1,h1,h2,h3,h4,h5⟩|⟨h1,h2⟩
   ·refine .inl ⟨j,u1,h1,.inr h2,h3,λj' u' q5 zF Sk=> ?_,h5⟩
    rcases zF with rfl|zF
    ·rw[hi]at q5;cases q5;exact absurd Sk hd
    ·exact h4 j' u' q5 zF Sk
   ·refine .inr ⟨λj u' q5 zF=> ?_,h2⟩
    rcases zF with rfl|zF
    ·rw[hi]at q5;cases q5;exact hd
    ·exact h1 j u' q5 zF
 ·rw[apC]
  by_cases hd:k∈keys u.ups
  ·left
   refine⟨i,u,hi,.inl rfl,hd,λj' u' h1 h2 h3=> ?_,VZ hd _ _⟩
   rcases h2 with rfl|h2
   ·exact aH _
   ·exact Nat.le_of_not_lt λeU=>(hc j' u' h1 h2 eU).2 k hd h3
  ·rw[mE hd]
   rcases h.H k with⟨j,u1,h1,h2,h3,h4,h5⟩|⟨h1,h2⟩
   ·refine .inl ⟨j,u1,h1,.inr h2,h3,λj' u' q5 zF Sk=> ?_,h5⟩
    rcases zF with rfl|zF
    ·rw[hi]at q5;cases q5;exact absurd Sk hd
    ·exact h4 j' u' q5 zF Sk
   ·refine .inr ⟨λj u' q5 zF=> ?_,h2⟩
    rcases zF with rfl|zF
    ·rw[hi]at q5;cases q5;exact hd
    ·exact h1 j u' q5 zF
theorem pY.start(us:List Out)(σ0:St):pY us σ0 (λ_=>False) σ0:=⟨λt=> .inr ⟨λ_ _ _ h=>h.elim,rfl⟩,λk=> .inr ⟨λ_ _ _ h=>h.elim,rfl⟩⟩
theorem pY.congr{us:List Out}{σ0 σ:St}{S S':Nat→Prop}(h:pY us σ0 S σ)(hs: ∀j,S j↔S' j):pY us σ0 S' σ:=by
 have:S=S':=funext λj=>propext (hs j)
 rw[←this];exact h
theorem pY.text(us:List Out)(σ0:St): ∀i,i≤us.length→pY us σ0 (λj=>j<i) ((us.take i).foldl (fun σ u=>u.app σ) σ0)
 |0,_=>(pY.start us σ0).congr λj=>by simp
 |i+1,hi=>by
  have ih:=pY.text us σ0 i ω
  have hu:us[i]? =some us[i]:=bo ω
  have:=ih.step hu (λj u' _ h2 h3=>ω)
  rw[List.take_add_one,hu,List.foldl_append]
  exact this.congr λj=>by constructor<;>intro h<;>omega
end VM
end
section
namespace VM
open Go
variable{P:Program}{E:Env}{o:Oper}{a:Act}{w:World}{M:Nat→Prop}{ν:Nat→Value}{σ:St}{c:Ctx}{α:Type}{r:α}{next:Act→World→Prop}{Q:Exit→Act→World→Prop}
def Pre(S:Nat→Prop)(o:Oper):Prop:= ∀e∈o.after,Region.binds .any e=true→S e.on
theorem GX{β:Type}{l m:List β}{i:Nat}{d:β}(h:i<l.length):(l++m).getD i d=l.getD i d:=by
 simp only[γ,tA h]
theorem GY{β:Type}{l:List β}{x d:β}:(l++[x]).getD l.length d=x:=by
 simp[γ]
theorem DZ{acc:List Nat}{i:Nat}: ∀(es:List Edge) (s:Nat),(es.foldl (λs e=>cond (Region.binds .any e) (s|||2^e.on|||acc.getD e.on 0) s) s).testBit i=true→
  s.testBit i=true∨ ∃e∈es,Region.binds .any e=true∧(i=e.on∨(acc.getD e.on 0).testBit i=true)
 |[],s,h=> .inl h
 |e::es,s,h=>by
  rw[List.foldl_cons]at h
  rcases DZ es _ h with h1|⟨e',h1,h2⟩
  ·cases hb:Region.binds .any e
   ·rw[hb]at h1;exact .inl h1
   ·rw[hb]at h1
    simp only[ak,Nat.testBit_or,nV]at h1
    rcases h1 with(h1|h1)|h1
    ·exact .inl h1
    ·refine .inr ⟨e,bq,hb,.inl ?_⟩
     rw[Nat.testBit_two_pow]at h1
     simpa using (bt h1).symm
    ·exact .inr ⟨e,bq,hb,.inr h1⟩
  ·exact .inr ⟨e',aZ _ h1,h2⟩
theorem D0{S:Nat→Prop}: ∀(l:List Oper) (acc:List Nat) (all:List Oper),all.length=acc.length+l.length→(∀j,l[j]? =all[acc.length+j]?)→
  (∀j o,all[j]? =some o→S j→Pre S o)→(∀j i,j<acc.length→S j→(acc.getD j 0).testBit i=true→S i)→
  ∀j o i,all[j]? =some o→(Pre S o∨S j)→((ug l acc).getD j 0).testBit i=true→(j<acc.length→ ∀i,Pre S o→(acc.getD j 0).testBit i=true→S i)→S i
 |[],acc,all,hl,iQ,hS,acy,j,o,i,hj,Ov,hb,YN=>by
  have eU:j<all.length:=(vp.1 hj).1
  have xJ:j<acc.length:=by simp at hl;omega
  rcases Ov with hp|hp
  ·exact YN xJ i hp hb
  ·exact acy j i xJ hp hb
 |p::l,acc,all,hl,iQ,hS,acy,j,o,i,hj,Ov,hb,YN=>by
  unfold ug at hb
  have hp0:all[acc.length]? =some p:=by rw[←mz acc.length,←iQ 0];rfl
  have acz: ∀i,Pre S p→(p.after.toList.foldl (λs e=>cond (Region.binds .any e) (s|||2^e.on|||acc.getD e.on 0) s) 0).testBit i=true→S i:=by
   intro i EM hb
   rcases DZ p.after.toList 0 hb with h1|⟨e,he,hbe,h1⟩
   ·simp at h1
   ·have hSe:=EM e (by simpa using he) hbe
    rcases h1 with rfl|h1
    ·exact hSe
    ·by_cases eU:e.on<acc.length
     ·exact acy e.on i eU hSe h1
     ·rw[γ,ig ω]at h1;simp at h1
  refine D0 l (acc++[p.after.toList.foldl (λs e=>cond (Region.binds .any e) (s|||2^e.on|||acc.getD e.on 0) s) 0]) all (by simp at hl ⊢;omega) (λj=> ?_) hS (λj' i' XS hS' eX=> ?_) j o i hj Ov hb (λeU i' RS eX=> ?_)
  ·have:=iQ (j+1)
   simp only[List.getElem?_cons_succ]at this
   rw[this]
   congr 1
   simp;omega
  ·by_cases eU:j'<acc.length
   ·rw[GX eU]at eX
    exact acy j' i' eU hS' eX
   ·have hje:j'=acc.length:=by simp at XS;omega
    subst hje
    rw[GY]at eX
    exact acz i' (hS _ p hp0 hS') eX
  ·by_cases xJ:j<acc.length
   ·rw[GX xJ]at eX
    exact YN xJ i' RS eX
   ·have hje:j=acc.length:=by simp at eU;omega
    subst hje
    rw[hp0]at hj;cases hj
    rw[GY]at eX
    exact acz i' RS eX
theorem forced{ops:List Oper}{S:Nat→Prop}(hS: ∀j o,ops[j]? =some o→S j→Pre S o){j i:Nat}(hj:ops[j]? =some o)(Ov:Pre S o∨S j)(hb:((ug ops []).getD j 0).testBit i=true):S i:=
 D0 ops [] ops (by simp) (λj=>by simp) hS (λj i h=>by simp at h) j o i hj Ov hb (λh=>by simp at h)
theorem nv{l m:List Nat}(h:meets l m=false){x:Nat}(h1:x∈l)(h2:x∈m):False:=by
 have:meets l m=true:=by
  unfold meets
  rw[AQ]
  refine⟨x,h1,?_⟩
  rw[AQ]
  exact⟨x,h2,pT x⟩
 rw[h]at this;cases this
structure Rnd(c:Ctx)(E:Env)(ops:Array Oper)(us:List Out)(σ0:St)(listed:Array Bool)(a:Act)(w:World):Prop where
 size:listed.size=ops.size
 closed: ∀j o,ops.toList[j]? =some o→listed.getD j false=true→Pre (λi=>listed.getD i false=true) o
 st: ∃σ,pY us σ0 (λj=>listed.getD j false=true) σ∧Inv c E σ a w
theorem Aa{listed:Array Bool}{j:Nat}(h:j<listed.size)(d:Bool):listed.getD j d=listed.getD j false:=by
 simp[Array.getD,h]
theorem LK(hE:tI P E){ops:Array Oper}{us:List Out}{σ0 σn:St}{α:Type}(x0:α)(hl:us.length=ops.toList.length)
  (hpt: ∀(j:Nat) (u:Out) (o:Oper),us[j]? =some u→ops.toList[j]? =some o→Pt E ops.toList o ((us.take j).foldl (fun σ u=>u.app σ) σ0) u α)
  (hn:σn=us.foldl (fun σ u=>u.app σ) σ0)
  (eU: ∀(j:Nat) (o:Oper),ops.toList[j]? =some o→ ∀e∈o.after,Region.binds .any e=true→e.on<j)
  (Ow: ∀(j:Nat) (o:Oper) (i:Nat) (p:Oper),ops.toList[j]? =some o→ops.toList[i]? =some p→i<j→((ug ops.toList []).getD j 0).testBit i=false→
   (∀d,p.dst=some d→o.dst≠some d∧d∉names ops.toList o)∧(∀d,o.dst=some d→d∉names ops.toList p))
  (hlg: ∀(j:Nat) (u:Out) (i:Nat) (v:Out),us[j]? =some u→us[i]? =some v→i<j→((ug ops.toList []).getD j 0).testBit i=false→
   (∀k∈keys v.ups,k∉u.rd∧k∉keys u.ups)∧(∀k∈v.rd,k∉keys u.ups))
  (hq: ∀a' w',Inv c E σn a' w'→Q .normal a' w'):
  ∀(fuel:Nat) (listed:Array Bool) (a:Act) (w:World),((List.range ops.size).filter λj=> !(listed.getD j false)).length≤fuel→Rnd c E ops us σ0 listed a w→wpAny P .any ops Q fuel listed a w:=by
 have iQ: ∀(listed:Array Bool) (a:Act) (w:World),Rnd c E ops us σ0 listed a w→Region.ready .any ops listed=[]→Q .normal a w:=by
  intro listed a w hR akD
  obtain⟨hs,Ft,σ,vl,hI⟩:=hR
  have apF: ∀j,j<ops.size→listed.getD j false=true:=by
   intro j
   induction j using Nat.strongRecOn with
   |_ j ih=>
    intro hj
    by_cases hb:listed.getD j false=true
    ·exact hb
    ·exfalso
     have ho:ops[j]? =some ops[j]:=Nw hj
     have:j∈Region.ready .any ops listed:=by
      rw[mem_ready]
      refine⟨by rw[Aa ω];simpa using hb,_,ho,λe he hbe=> ?_⟩
      have hej:=eU j ops[j] (by rw[iz];exact ho) e he hbe
      exact ih e.on hej ω
     rw[akD]at this
     cases this
  have hσ:σ=σn:=by
   rw[hn]
   have ht:=pY.text us σ0 us.length (aH _)
   rw[ij]at ht
   refine vl.unique ht λj u hj=> ?_
   have Bd:j<us.length:=(vp.1 hj).1
   have hjo:j<ops.size:=by rw[hl,bk]at Bd;exact Bd
   exact⟨λ_=>Bd,λ_=>apF j hjo⟩
  exact hq a w (hσ▸hI)
 intro fuel
 induction fuel with
 |zero=>
  intro listed a w hf hR
  have VJ:Region.ready .any ops listed=[]:=by
   rw[List.eq_nil_iff_forall_not_mem]
   intro j hj
   rw[mem_ready]at hj
   obtain⟨h0,o,ho,_⟩:=hj
   have hjs:j<ops.size:=(lG.1 ho).1
   have Bd:j<listed.size:=by rw[hR.size];exact hjs
   rw[Aa Bd]at h0
   have mC:j∈(List.range ops.size).filter λj=> !(listed.getD j false):=by
    rw[rS];exact⟨rV.2 hjs,by rw[h0];rfl⟩
   have:((List.range ops.size).filter λj=> !(listed.getD j false))=[]:=vo ω
   rw[this]at mC;cases mC
  exact⟨VJ,iQ listed a w hR VJ⟩
 |succ fuel ih=>
  intro listed a w hf hR
  refine⟨iQ listed a w hR,λi hi=> ?_⟩
  have nZ:=hi
  rw[mem_ready]at nZ
  obtain⟨h0,o,ho,Ov⟩:=nZ
  have his:i<ops.size:=(lG.1 ho).1
  have zB:i<listed.size:=by rw[hR.size];exact his
  rw[Aa zB]at h0
  obtain⟨hs,Ft,σ,vl,hI⟩:=hR
  have Cs:ops.toList[i]? =some o:=by rw[iz];exact ho
  have hiu:i<us.length:=by rw[hl,bk];exact his
  have hu:us[i]? =some us[i]:=bo hiu
  have hPt:=hpt i us[i] o hu Cs
  have hSi: ¬listed.getD i false=true:=by rw[h0];simp
  have Ox: ∀j p,ops.toList[j]? =some p→((j<i∧ ¬listed.getD j false=true)→((ug ops.toList []).getD i 0).testBit j=false)∧((i<j∧listed.getD j false=true)→((ug ops.toList []).getD j 0).testBit i=false):=by
   intro j p hj
   refine⟨λ⟨_,h2⟩=> ?_,λ⟨_,h2⟩=> ?_⟩
   ·rw[←mU]
    intro hb
    exact h2 (forced Ft Cs (.inl Ov) hb)
   ·rw[←mU]
    intro hb
    exact hSi (forced Ft hj (.inr h2) hb)
  have YO: ∀(j:Nat) (u:Out),us[j]? =some u→ ∃p:Oper,ops.toList[j]? =some p∧u.dst=p.dst:=by
   intro j u hj
   have Bd:j<us.length:=(vp.1 hj).1
   have hp:ops.toList[j]? =some ops.toList[j]:=bo ω
   exact⟨_,hp,(hpt j u _ hj hp).1⟩
  have ai2:=pY.text us σ0 i ω
  have hT: ∀t∈names ops.toList o,σ.T t=((us.take i).foldl (fun σ u=>u.app σ) σ0).T t:=by
   intro t ht
   refine vl.YL ai2 λj u hj hd=> ?_
   obtain⟨p,hp,hpd⟩:=YO j u hj
   have hpd:p.dst=some t:=by rw[←hpd,hd]
   constructor
   ·intro Oy
    refine Nat.lt_of_not_le λhle=> ?_
    rcases Nat.lt_or_eq_of_le hle with xJ|heq
    ·exact(Ow j p i o hp Cs xJ ((Ox j p hp).2 ⟨xJ,Oy⟩)).2 t hpd ht
    ·subst heq;exact hSi Oy
   ·intro Ab
    by_cases Oy:listed.getD j false=true
    ·exact Oy
    ·exact absurd ht ((Ow i o j p Cs hp Ab ((Ox j p hp).1 ⟨Ab,Oy⟩)).1 t hpd).2
  have hH:Ag us[i].rd ((us.take i).foldl (fun σ u=>u.app σ) σ0).H σ.H:=by
   intro k hk
   refine vl.YM ai2 λj u hj hd=> ?_
   obtain⟨p,hp,hpd⟩:=YO j u hj
   constructor
   ·intro Oy
    refine Nat.lt_of_not_le λhle=> ?_
    rcases Nat.lt_or_eq_of_le hle with xJ|heq
    ·exact(hlg j u i us[i] hj hu xJ ((Ox j p hp).2 ⟨xJ,Oy⟩)).2 k hk hd
    ·subst heq;exact hSi Oy
   ·intro Ab
    by_cases Oy:listed.getD j false=true
    ·exact Oy
    ·exact absurd hk ((hlg i us[i] j u hu hj Ab ((Ox j p hp).1 ⟨Ab,Oy⟩)).1 k hd).1
  have apG:=hPt.2 σ hT hH
  have hIs:pY us σ0 (λj=>j=i∨listed.getD j false=true) (us[i].app σ):=by
   refine vl.step hu λj u hj Oy qy=> ?_
   obtain⟨p,hp,hpd⟩:=YO j u hj
   have EV:=(Ox j p hp).2 ⟨qy,Oy⟩
   obtain⟨h1,h2⟩:=Ow j p i o hp Cs qy EV
   obtain⟨h3,h4⟩:=hlg j u i us[i] hj hu qy EV
   refine⟨λt ht=> ?_,λk hk=>(h3 k hk).2⟩
   rw[hpd]
   exact(h1 t (by rw[←hPt.1];exact ht)).1
  have Bu: ∀j,(listed.setIfInBounds i true).getD j false=true↔(j=i∨listed.getD j false=true):=by
   intro j
   by_cases Ab:j=i
   ·subst Ab
    constructor
    ·intro _;exact .inl rfl
    ·intro _;simp[zB]
   ·rw[getD_set_ne false (fc Ab)]
    exact⟨.inr,λh=>h.resolve_left Ab⟩
  classical
  let K':St→List Nat→List Nat→Option α:=fun σ' _ _=>if σ'=us[i].app σ then some x0 else none
  have hK:uN E ops.toList o σ K'=some x0:=by rw[apG K'];simp[K']
  have:=DY (Q:=Q) (next:=wpAny P .any ops Q fuel (listed.setIfInBounds i true)) hE hI hK (fun σ' a' w' rd wr hσ' zD=>by
   have hσ'':σ'=us[i].app σ:=by
    by_cases h:σ'=us[i].app σ
    ·exact h
    ·simp[K',h]at hσ'
   subst hσ''
   refine ih _ a' w' ?_ ⟨by simpa using hs,λj p hp Oy e he hb=> ?_,_,hIs.congr (λj=>(Bu j).symm),zD⟩
   ·have hlen:((List.range ops.size).filter λj=> !((listed.setIfInBounds i true).getD j false)).length<((List.range ops.size).filter λj=> !(listed.getD j false)).length:=by
     have VK:((List.range ops.size).filter λj=> !((listed.setIfInBounds i true).getD j false))=((List.range ops.size).filter λj=> !(listed.getD j false)).filter λj=> !(Nat.beq j i):=by
      rw[List.filter_filter]
      apply List.filter_congr
      intro j _
      by_cases Ab:j=i
      ·subst Ab
       have h1:=(Bu j).2 (.inl rfl)
       rw[h1];simp
      ·have h1:Nat.beq j i=false:=by rw[←mU,xn];exact Ab
       rw[h1,getD_set_ne false (fc Ab)];simp
     rw[VK]
     refine List.length_filter_lt_length_iff_exists.2 ⟨i,?_,by simp⟩
     rw[rS];exact⟨rV.2 his,by rw[h0];rfl⟩
    omega
   ·rcases(Bu j).1 Oy with rfl|Oy
    ·rw[Cs]at hp;cases hp
     exact(Bu _).2 (.inr (Ov e he hb))
    ·exact(Bu _).2 (.inr (Ft j p hp Oy e he hb)))
  unfold wpOp
  rw[ho]
  simp only
  split
  ·rename_i hw;rw[aj hw]at this;exact .inl this
  ·rename_i hw;rw[ah hw]at this;exact this
theorem Jo(hE:tI P E){id:Nat}{ops:Array Oper}{draw:Bool}(hI:Inv c E σ a w){K:St→Option α}(h:Fm E ops draw σ K=some r)
  (hn: ∀σ' a' w',K σ'=some r→Inv c E σ' a' w'→Q .normal a' w'):(Code.region id ops draw).wp P Q a w:=by
 cases draw
 ·refine wp_region_list (GQ hE ops.toList 0 σ [] a w _ hI h fun σ' lg' a' w' h' zD=> ?_)
  exact hn σ' a' w' (cB h').2 zD
 ·unfold Fm at h
  obtain⟨us,hl,hpt,lg,hK,_,apH⟩:=Uc _ _ _ _ _ h
  obtain⟨hok,hK⟩:=cB hK
  simp only[bh,rW,bM]at hok
  obtain⟨Ow,hlg⟩:=hok
  unfold X5 at Ow
  simp only[bM,pB]at Ow
  obtain⟨avL,avM⟩:=Ow
  have hz: ∀j o,ops.toList[j]? =some o→(o,j)∈ops.toList.zipIdx:=λj o hj=>List.mem_zipIdx_iff_getElem?.2 hj
  refine wp_region_any hE.mixed (LK (Q:=Q) (σ0:=σ) hE r hl hpt rfl (λj o hj e he hbe=> ?_) (λj o i p hj hi qy hb=> ?_) (λj u i v hj hi qy hb=> ?_) (λa' w' zD=>hn _ a' w' hK zD) ops.size (Array.replicate ops.size false) a _ ?_ ?_)
  ·have:=avL (o,j) (hz j o hj) e (by simpa using he)
   rw[hbe]at this
   simpa [AZ]using this
  ·have:=avM (o,j) (hz j o hj) (p,i) (hz i p hi)
   simp only[hb,rX,nV,rQ,Bool.or_eq_false_iff]at this
   have Je: ¬Nat.ble j i=true:=by rw[A0];omega
   have this:=this.resolve_left Je
   refine⟨λd hd=>⟨λhd'=> ?_,λhd'=> ?_⟩,λd hd hd'=> ?_⟩
   ·exact nv this.1 (x:=d) (by simp[hd]) (by simp[hd'])
   ·exact nv this.1 (x:=d) (by simp[hd]) (by simp[hd'])
   ·exact nv this.2 (x:=d) (by simp[hd]) hd'
  ·unfold aiN at hlg
   simp only[pB]at hlg
   have XS:=apH j u hj
   have nZ:=apH i v hi
   rw[gm]at XS nZ
   have:=hlg _ XS _ nZ
   simp only[hb,rX,nV,rQ,Bool.or_eq_false_iff]at this
   have Je: ¬Nat.ble j i=true:=by rw[A0];omega
   have this:=this.resolve_left Je
   refine⟨λk hk=>⟨λBi=> ?_,λBi=> ?_⟩,λk hk Bi=> ?_⟩
   ·exact nv this.1 (x:=k) hk (cU _ Bi)
   ·exact nv this.1 (x:=k) hk (dB _ Bi)
   ·exact nv this.2 (x:=k) hk Bi
  ·refine cv (NH _ _) ?_
   rw[xe];exact aH _
  ·have hf: ∀j,(Array.replicate ops.size false).getD j false=false:=by
    intro j
    rw[tz,Array.getElem?_replicate]
    split<;>rfl
   obtain⟨⟨M,ν,hc⟩,hs,hd,xN⟩:=hI
   refine⟨by simp,λj o _ hS=>(by rw[hf]at hS;cases hS),σ,(pY.start us σ).congr (λj=>(by rw[hf];simp)),⟨M,ν,?_⟩,hs,hd,xN⟩
   exact hc.tr (Tr.drew hc.mem)
end VM
end
section
namespace VM
open Go
variable{P:Program}{E:Env}{o:Oper}{a:Act}{w:World}{M:Nat→Prop}{ν:Nat→Value}{σ:St}{c:Ctx}{α:Type}{r:α}{next:Act→World→Prop}{Q:Exit→Act→World→Prop}
theorem D1{L:Option (List (Nat×CM))}(hL: ∀L',L=some L'→kV L'=true){b:Code}{Q:Exit→Act→World→Prop}{step:St→(St→Option α)→Option α}
  (hs: ∀σ a w kn (Q':Exit→Act→World→Prop),Inv c E σ a w→step σ kn=some r→(∀σ' a' w',kn σ'=some r→Inv c E σ' a' w'→Q' .normal a' w')→(∀e a' w',e≠ .normal→Q e a' w'→Q' e a' w')→b.wp P Q' a w):
  ∀n σ a w,Inv c E σ a w→DK L step n σ=some r→Code.rounds P b Q n a w
 |0,σ,a,w,_,h=>by cases h
 |n+1,σ,a,w,hI,h=>by
  rw[rounds_succ]
  refine hs σ a w _ _ hI h (fun σ' a' w' h' zD=> ?_) (λe a' w' he hq=> ?_)
  ·obtain⟨σ'',LD,akF⟩:=z7 zD hL h'
   exact D1 hL hs n σ'' a' w' akF LD
  ·cases e<;>first|exact hq|exact absurd rfl he
theorem V0(hE:tI P E): ∀(cd:Code) (σ:St) (a:Act) (w:World) (k:St→Option α) (kx:Nat→St→Option α) (kr:St→Option α) (Q:Exit→Act→World→Prop),Inv c E σ a w→Fo E cd σ k kx kr=some r→
  (∀σ' a' w',k σ'=some r→Inv c E σ' a' w'→Q .normal a' w')→(∀i σ' a' w',kx i σ'=some r→Inv c E σ' a' w'→Q (.exit i) a' w')→(∀σ' a' w',kr σ'=some r→Inv c E σ' a' w'→Q .ret a' w')→cd.wp P Q a w:=by
 intro cd
 induction cd with
 |skip=>intro σ a w k kx kr Q hI h hk _ _;exact wp_skip (hk σ a w h hI)
 |region id ops draw=>intro σ a w k kx kr Q hI h hk _ _;exact Jo hE hI h hk
 |seq x y ihx ihy=>
  intro σ a w k kx kr Q hI h hk hx hr
  refine wp_seq (ihx σ a w _ kx kr _ hI h (fun σ' a' w' h' zD=> ?_) hx hr)
  obtain⟨σ'',LD,akF⟩:=z7 zD (λL' hL=>by
   cases hf:c8 y with
   |none=>rw[hf]at hL;cases hL
   |some i=>rw[hf]at hL;exact hE.Yy i L' hL) h'
  exact ihy σ'' a' w' k kx kr Q akF LD hk hx hr
 |cond x t e iht ihe=>
  intro σ a w k kx kr Q hI h hk hx hr
  obtain⟨b,hb,h⟩:=Oj (E:=E) (A:=fun σ'=>Fo E t σ' k kx kr) (B:=fun σ'=>Fo E e σ' k kx kr) hI h
  refine wp_cond hb ?_
  cases b
  ·exact ihe σ a w k kx kr Q hI h hk hx hr
  ·exact iht σ a w k kx kr Q hI h hk hx hr
 |block id x ih=>
  intro σ a w k kx kr Q hI h hk hx hr
  refine wp_block (ih σ a w k _ kr _ hI h hk (λi σ' a' w' h' zD=> ?_) hr)
  show if i=id then Q .normal a' w' else Q (.exit i) a' w'
  cases hb:Nat.beq i id
  ·have kq:i≠id:=λe=>by subst e;rw[show Nat.beq i i=true from pT i]at hb;cases hb
   rw[hb]at h'
   rw[ah kq]
   exact hx i σ' a' w' h' zD
  ·rw[hb]at h'
   rw[aj (fy hb)]
   exact hk σ' a' w' h' zD
 |loop b ih=>
  intro σ a w k kx kr Q hI h hk hx hr
  have hL: ∀L',(c8 b).bind E.xq=some L'→kV L'=true:=λL' hL=>by
   cases hf:c8 b with
   |none=>rw[hf]at hL;cases hL
   |some i=>rw[hf]at hL;exact hE.kV i L' hL
  obtain⟨σ',h',zD⟩:=z7 hI hL h
  refine wp_loop_rounds E.N (D1 hL (fun σ a w kn Q' hI h hkn hq=> ?_) E.N σ' a w zD h')
  exact ih σ a w kn kx kr Q' hI h hkn (λi σ' a' w' h' zD=>hq _ _ _ (by simp) (hx i σ' a' w' h' zD)) (fun σ' a' w' h' zD=>hq _ _ _ (by simp) (hr σ' a' w' h' zD))
 |rangeFunc f ps x y ihx ihy=>intro σ a w k kx kr Q hI h;cases h
 |exit id=>intro σ a w k kx kr Q hI h hk hx hr;exact wp_exit (hx id σ a w h hI)
 |scope x ih=>
  intro σ a w k kx kr Q hI h hk hx hr
  exact wp_scope_straight (ih σ a w k kx kr _ hI h hk hx hr)
 |label l=>intro σ a w k kx kr Q hI h hk _ _;exact wp_label (hk σ a w h hI)
 |goto l=>intro σ a w k kx kr Q hI h;cases h
 |ret=>intro σ a w k kx kr Q hI h hk hx hr;exact wp_ret (hr σ a w h hI)
 |refuse s=>intro σ a w k kx kr Q hI h;cases h
end VM
end
