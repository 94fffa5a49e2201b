/- A part of the proof of BookAtOnce of layer 18: a machine that reads a function of the program as an equation between values. -/
import Derived.Test.YthkjjlcblhbifaaGreatVm5
set_option linter.all false
open List renaming getD→γ
section
namespace VM
open Go
variable{α:Type}{r:α}
theorem Ol{m:AM}{a:bA}{H:Nat→Option bp}{k:m.den→(Nat→Option bp)→List Nat→jr→jr→List (Nat×AM)→Option α}(h:oN m a H k=some r):
  ∃y rd uo uf io,∃g:(Nat→Option bp)→(Nat→Option bp),k y (g H) rd uo uf io=some r∧(∀H' i,H' i=H i→g H' i=g H i)∧
   ∀H',Ag rd H H'→ ∀k':m.den→(Nat→Option bp)→List Nat→jr→jr→List (Nat×AM)→Option α,oN m a H' k'=k' y (g H') rd uo uf io:=by
 have Om: ∀(d:Nat) (v:Option bp) (H':Nat→Option bp) (i:Nat),H' i=H i→ca H' d v i=ca H d v i:=by
  intro d v H' i hi
  by_cases bg:i=d
  ·subst bg;rw[ay,ay]
  ·rw[az _ _ bg,az _ _ bg,hi]
 unfold oN at h
 split at h
 ·rename_i τ k
  obtain⟨y,rd,ups,h1,h2⟩:=py h
  cases ups with
  |nil=>
   refine⟨y,rd,[],[],[],λH=>H,h1,λ_ _ h=>h,λH' hA k'=> ?_⟩
   unfold oN;simp only;rw[h2 H' hA]
  |cons u rest=>
   refine⟨y,rd,[],u::rest,[],λH=>ca H u.1 u.2,h1,λH' i hi=>Om _ _ H' i hi,λH' hA k'=> ?_⟩
   unfold oN;simp only;rw[h2 H' hA]
 ·rename_i e k
  split at h
  ·exact⟨[],[],[],[],[],λH=>H,h,λ_ _ h=>h,λ_ _ _=>rfl⟩
  ·rename_i id
   split at h
   ·rename_i e' l bg
    obtain⟨z,h1,h2⟩:=dG h
    refine⟨z,[id],_,_,_,λH=>ca H id (some .gone),h1,λH' i hi=>Om _ _ H' i hi,λH' hA k'=> ?_⟩
    unfold oN;simp only;rw[hA id (by simp),bg];simp only;rw[h2]
   ·cases h
  ·cases h
 ·rename_i τ k
  split at h
  ·rename_i id
   split at h
   ·rename_i υ x bg
    obtain⟨z,h1,h2⟩:=dG h
    refine⟨z,[id],_,_,_,λH=>ca H id (some .gone),h1,λH' i hi=>Om _ _ H' i hi,λH' hA k'=> ?_⟩
    unfold oN;simp only;rw[hA id (by simp),bg];simp only;rw[h2]
   ·cases h
  ·cases h
 ·rename_i f τ k
  split at h
  ·rename_i f' cs
   obtain⟨h1,h2⟩:=eE h
   obtain⟨x,rd,ups,h3,h4⟩:=Oj h1
   cases ups with
   |nil=>
    refine⟨x,rd,[],[],[],λH=>H,h3,λ_ _ h=>h,λH' hA k'=> ?_⟩
    unfold oN;simp only;rw[h2,h4 H' hA]
   |cons _ _=>cases h3
  ·cases h
 ·cases h
 ·rename_i τ k
  split at h
  ·obtain⟨z,h1,h2⟩:=dG h
   refine⟨z,[],[],[],[],λH=>H,h1,λ_ _ h=>h,λH' hA k'=> ?_⟩
   unfold oN;simp only;rw[h2]
  ·cases h
 ·rename_i e k
  split at h
  ·rename_i id
   split at h
   ·rename_i e' l bg
    obtain⟨z,h1,h2⟩:=dG h
    refine⟨z,[id],_,_,_,λH=>ca H id (some .gone),h1,λH' i hi=>Om _ _ H' i hi,λH' hA k'=> ?_⟩
    unfold oN;simp only;rw[hA id (by simp),bg];simp only;rw[h2]
   ·cases h
  ·cases h
 ·cases h
theorem On: ∀{ms:List AM} {qG:List bA} {H:Nat→Option bp} {Kb:List Nat} {uo0 uf0:jr} {io0:List (Nat×AM)} {K:HP ms→List Nat→jr→jr→List (Nat×AM)→Option α},uu ms qG H Kb uo0 uf0 io0 K=some r→
  ∃x rd uo uf io,K x rd uo uf io=some r∧(∀i∈Kb,i∈rd)∧ ∀H',Ag rd H H'→ ∀K':HP ms→List Nat→jr→jr→List (Nat×AM)→Option α,uu ms qG H' Kb uo0 uf0 io0 K'=K' x rd uo uf io
 |[],[],H,Kb,uo0,uf0,io0,K,h=>⟨(),_,_,_,_,h,λ_ h=>h,λ_ _ _=>rfl⟩
 |[m],[a],H,Kb,uo0,uf0,io0,K,h=>by
  obtain⟨y,rd,uo,uf,io,g,h1,h2,h3⟩:=Ol (h:oN m a H _=some r)
  exact⟨y,_,_,_,_,h1,λi hi=>dz _ hi,λH' hA K'=>h3 H' (λi hi=>hA i (cU _ hi)) _⟩
 |m::n::ms,a::qG,H,Kb,uo0,uf0,io0,K,h=>by
  obtain⟨y,rd,uo,uf,io,g,h1,h2,h3⟩:=Ol (h:oN m a H _=some r)
  obtain⟨ys,yq,Nd,Nf,I0,h4,h5,h6⟩:=On (ms:=n::ms) h1
  refine⟨(y,ys),yq,Nd,Nf,I0,h4,λi hi=>h5 i (dz _ hi),λH' hA K'=> ?_⟩
  refine(h3 H' (λi hi=>hA i (h5 i (cU _ hi))) _).trans ?_
  exact h6 (g H') (λi hi=>h2 H' i (hA i hi)) _
 |[],_::_,_,_,_,_,_,_,h=>by simp[uu]at h
 |[_],[],_,_,_,_,_,_,h=>by simp[uu]at h
 |[_],_::_::_,_,_,_,_,_,_,h=>by simp[uu]at h
 |_::_::_,[],_,_,_,_,_,_,h=>by simp[uu]at h
theorem Ye{id i:Nat}: ∀{n:Nat},i∈NR id n↔id≤i∧i<id+n
 |0=>by simp[NR]
 |n+1=>by simp only[NR,a8,Ye];omega
theorem zk{H H':Nat→Option bp}{id:Nat}: ∀{n:Nat},(∀i∈NR id n,H' i=H i)→vd H' id n=vd H id n
 |0,_=>rfl
 |n+1,h=>by
  unfold vd
  rw[h (id+n) (by simp[NR]),zk λi hi=>h i (by simp[NR,hi])]
theorem Yf{E:Env}{f id:Nat}{qG:List bA}{H:Nat→Option bp}{K:gL α}(h:DA E f qG id H K=some r): ∃v rd ups,K v rd ups=some r∧ ∀H',Ag rd H H'→ ∀K':gL α,DA E f qG id H' K'=K' v rd ups:=by
 unfold DA at h
 split at h
 ·cases h
 ·rename_i S hS
  obtain⟨x,rd,uo,uf,io,h1,_,h2⟩:=On h
  obtain⟨y,hy,h3⟩:=ud.1 h1
  obtain⟨h4,h5⟩:=cz h3
  refine⟨_,_,_,h5,λH' hA K'=> ?_⟩
  unfold DA
  rw[hS]
  simp only
  rw[h2 H' (λi hi=>hA i (dz _ (dz _ hi))),hy]
  simp only[ar]
  rw[zk (λi hi=>hA i (cU _ hi)),h4]
  rfl
theorem Vq{t:Ty}{z:Bool}{a:bA}{lo hi mx:Option bA}{H:Nat→Option bp}{K:gL α}(h:rU t z a lo hi mx H K=some r): ∃v rd ups,K v rd ups=some r∧ ∀H',Ag rd H H'→ ∀K':gL α,rU t z a lo hi mx H' K'=K' v rd ups:=by
 unfold rU at h
 split at h
 ·obtain⟨h1,e1⟩:=eE h
  obtain⟨l,h2,e2⟩:=vn h1
  obtain⟨m,h3,e3⟩:=vn h2
  obtain⟨h4,e4⟩:=eE h3
  exact⟨_,_,_,h4,λH' _ K'=>by unfold rU;simp only;rw[e1,e2,e3,e4]⟩
 ·cases z
  ·obtain⟨h1,e1⟩:=eE (h:cond mx.isNone _ none=some r)
   obtain⟨l,h2,e2⟩:=vn h1
   obtain⟨m,h3,e3⟩:=vn h2
   obtain⟨h4,e4⟩:=eE h3
   exact⟨_,_,_,h4,λH' _ K'=>by unfold rU;simp only[av];rw[e1,e2,e3,e4]⟩
  ·exact⟨_,_,_,h,λH' _ K'=>by unfold rU;rfl⟩
 ·rename_i e ko
  obtain⟨y,rd,ups,h1,e1⟩:=py h
  cases z
  ·obtain⟨h2,e2⟩:=eE (h1:cond (mx.isNone||hi.isSome) _ none=some r)
   obtain⟨l,h3,e3⟩:=vn h2
   obtain⟨m,h4,e4⟩:=vn h3
   obtain⟨n,h5,e5⟩:=vn h4
   obtain⟨h6,e6⟩:=eE h5
   refine⟨_,_,_,h6,λH' hA K'=> ?_⟩
   unfold rU
   simp only
   rw[e1 H' hA]
   simp only[av]
   rw[e2,e3,e4,e5,e6]
  ·refine⟨_,_,_,(h1:K .emp rd []=some r),λH' hA K'=> ?_⟩
   unfold rU
   simp only
   rw[e1 H' hA]
   rfl
 ·cases h
theorem Jv{τ:Ty}{a i:bA}{H:Nat→Option bp}{K:gL α}(h:g9 τ a i H K=some r): ∃v rd ups,K v rd ups=some r∧ ∀H',Ag rd H H'→ ∀K':gL α,g9 τ a i H' K'=K' v rd ups:=by
 unfold g9 at h
 obtain⟨k,n,h,e0⟩:=qL h
 split at h
 ·split at h
  ·obtain⟨z,h1,e1⟩:=dG h
   obtain⟨h2,e2⟩:=eE h1
   exact⟨_,_,_,h2,λH' _ K'=>by unfold g9;rw[e0];simp only;rw[e1,e2]⟩
  ·split at h
   ·rename_i bg
    obtain⟨h1,e1⟩:=gI h
    obtain⟨h2,e2⟩:=eE h1
    exact⟨_,_,_,h2,λH' hA K'=>by unfold g9;rw[e0];simp only;rw[hA _ (by simp),bg];simp only;rw[e1,e2]⟩
   ·rename_i bg
    obtain⟨h1,e1⟩:=gI h
    obtain⟨h2,e2⟩:=eE h1
    exact⟨_,_,_,h2,λH' hA K'=>by unfold g9;rw[e0];simp only;rw[hA _ (by simp),bg];simp only;rw[e1,e2]⟩
   ·cases h
  ·cases h
 ·split at h
  ·obtain⟨υ,h1,e1⟩:=yC h
   obtain⟨h2,e2⟩:=gI h1
   obtain⟨h3,e3⟩:=eE h2
   exact⟨_,_,_,h3,λH' hA K'=>by unfold g9;rw[e0];simp only;rw[e1 H' (hA _ (by simp)),e2,e3]⟩
  ·obtain⟨z,h1,e1⟩:=dG h
   obtain⟨h2,e2⟩:=eE h1
   exact⟨_,_,_,h2,λH' _ K'=>by unfold g9;rw[e0];simp only;rw[e1,e2]⟩
  ·cases h
 ·cases h
theorem Vr{τ:Ty}{a i:bA}{K:bA→Option α}(h:w9 τ a i K=some r): ∃v,K v=some r∧ ∀K':bA→Option α,w9 τ a i K'=K' v:=by
 unfold w9 at h
 obtain⟨k,n,h,e0⟩:=qL h
 split at h
 ·obtain⟨z,h1,e1⟩:=dG h
  obtain⟨h2,e2⟩:=eE h1
  exact⟨_,h2,λK'=>by unfold w9;rw[e0];simp only;rw[e1,e2]⟩
 ·obtain⟨h2,e2⟩:=eE h
  exact⟨_,h2,λK'=>by unfold w9;rw[e0];simp only;rw[e2]⟩
 ·cases h
theorem Yg{a:bA}{H:Nat→Option bp}{K:(υ:Ty)→υ.den→List Nat→Option α}(h:lY a H K=some r): ∃υ y rd,K υ y rd=some r∧ ∀H',Ag rd H H'→ ∀K':(υ:Ty)→υ.den→List Nat→Option α,lY a H' K'=K' υ y rd:=by
 unfold lY at h
 split at h
 ·exact⟨_,_,_,h,λ_ _ _=>rfl⟩
 ·split at h
  ·rename_i bg
   obtain⟨υ,y,h1,e1⟩:=iD h
   exact⟨_,_,_,h1,λH' hA K'=>by unfold lY;simp only;rw[hA _ (by simp),bg];simp only;rw[e1]⟩
  ·rename_i bg
   split at h
   ·obtain⟨υ,y,h1,e1⟩:=iD h
    exact⟨_,_,_,h1,λH' hA K'=>by unfold lY;simp only;rw[hA _ (by simp),bg];simp only;rw[e1]⟩
   ·cases h
  ·rename_i bg
   split at h
   ·obtain⟨υ,y,h1,e1⟩:=iD h
    exact⟨_,_,_,h1,λH' hA K'=>by unfold lY;simp only;rw[hA _ (by simp),bg];simp only;rw[e1]⟩
   ·cases h
  ·cases h
 ·cases h
theorem Vs{τ:Ty}{a v:bA}{H:Nat→Option bp}{K:gL α}(h:m2 τ a v H K=some r): ∃u rd ups,K u rd ups=some r∧ ∀H',Ag rd H H'→ ∀K':gL α,m2 τ a v H' K'=K' u rd ups:=by
 unfold m2 at h
 split at h
 ·obtain⟨y,rd,ups,h1,e1⟩:=py h
  split at h1
  ·rename_i bg
   obtain⟨z,h2,e2⟩:=px h1
   exact⟨_,_,_,h2,λH' hA K'=>by
    unfold m2;simp only
    rw[e1 H' (λi hi=>hA i (aZ _ hi))]
    rw[hA _ (by simp),bg];simp only;rw[e2]⟩
  ·rename_i bg
   split at h1
   ·obtain⟨h2,e2⟩:=uB h1
    obtain⟨z,h3,e3⟩:=px h2
    exact⟨_,_,_,h3,λH' hA K'=>by
     unfold m2;simp only
     rw[e1 H' (λi hi=>hA i (aZ _ hi))]
     rw[hA _ (by simp),bg];simp only;rw[e2,e3]⟩
   ·cases h1
  ·cases h1
 ·cases h
theorem TP{j:Nat}{q:List Step}{τ:Ty}{x:τ.den}{H:Nat→Option bp}{k:τ.den→jr→Option α}(h:Ck j q τ x H k=some r): ∃z ups,k z ups=some r∧ ∀H',H' j=H j→ ∀k':τ.den→jr→Option α,Ck j q τ x H' k'=k' z ups:=by
 unfold Ck at h
 split at h
 ·rename_i hj
  obtain⟨z,h1,e1⟩:=px h
  exact⟨_,_,h1,λH' hA k'=>by unfold Ck;rw[hA,hj];simp only;rw[e1]⟩
 ·rename_i hj
  obtain⟨z,h1,e1⟩:=px h
  exact⟨_,_,h1,λH' hA k'=>by unfold Ck;rw[hA,hj];simp only;rw[e1]⟩
 ·cases h
abbrev Pts(F:(Nat→Option bp)→gL α→Option α)(H:Nat→Option bp)(K:gL α)(r:α):Prop:=
 ∃v rd ups,K v rd ups=some r∧ ∀H',Ag rd H H'→ ∀K':gL α,F H' K'=K' v rd ups
theorem Yh{τ:Ty}{a:bA}{H:Nat→Option bp}{K:gL α}(h:(lY a H fun υ y rd=>cJ υ τ y λz=>K (.val τ z) rd [])=some r):
  Pts (λH K=>lY a H fun υ y rd=>cJ υ τ y λz=>K (.val τ z) rd []) H K r:=by
 obtain⟨υ,y,rd,h1,e1⟩:=Yg h
 obtain⟨z,h2,e2⟩:=dG h1
 exact⟨_,_,_,h2,λH' hA K'=>by simp only;rw[e1 H' hA,e2]⟩
theorem apd{id:Nat}{p:List Step}{H:Nat→Option bp}{K:(υ:Ty)→υ.den→List Nat→Option α}(h:lY (.jd id p) H K=some r): ∃υ y,K υ y [id]=some r:=by
 unfold lY at h
 simp only at h
 split at h
 ·obtain⟨υ,y,h1,_⟩:=iD h;exact⟨υ,y,h1⟩
 ·split at h
  ·obtain⟨υ,y,h1,_⟩:=iD h;exact⟨υ,y,h1⟩
  ·cases h
 ·split at h
  ·obtain⟨υ,y,h1,_⟩:=iD h;exact⟨υ,y,h1⟩
  ·cases h
 ·cases h
theorem Yi{τ:Ty}{id:Nat}{p:List Step}{H:Nat→Option bp}{K:gL α}(h:(lY (.jd id p) H fun υ y rd=>cJ υ τ y λz=>K (.val τ z) rd [])=some r):
  ∃z,K (.val τ z) [id] []=some r∧ ∀H',H' id=H id→ ∀K':gL α,(lY (.jd id p) H' fun υ y rd=>cJ υ τ y λz=>K' (.val τ z) rd [])=K' (.val τ z) [id] []:=by
 unfold lY at h
 simp only at h
 split at h
 ·rename_i bg
  obtain⟨υ,y,h1,e1⟩:=iD h
  obtain⟨z,h2,e2⟩:=dG h1
  exact⟨_,h2,λH' hA K'=>by unfold lY;simp only;rw[hA,bg];simp only;rw[e1,e2]⟩
 ·rename_i bg
  split at h
  ·obtain⟨υ,y,h1,e1⟩:=iD h
   obtain⟨z,h2,e2⟩:=dG h1
   exact⟨_,h2,λH' hA K'=>by unfold lY;simp only;rw[hA,bg];simp only;rw[e1,e2]⟩
  ·cases h
 ·rename_i bg
  split at h
  ·obtain⟨υ,y,h1,e1⟩:=iD h
   obtain⟨z,h2,e2⟩:=dG h1
   exact⟨_,h2,λH' hA K'=>by unfold lY;simp only;rw[hA,bg];simp only;rw[e1,e2]⟩
  ·cases h
 ·cases h
theorem Oo{τ:Ty}{a:bA}{H:Nat→Option bp}{K:gL α}(h:uv τ a H K=some r):Pts (uv τ a) H K r:=by
 unfold uv at h
 simp only at h
 split at h
 ·rename_i id p
  split at h
  ·rename_i υ x q j bg
   cases hp:Jg p q
   ·cases I2:yV p q
    ·rw[hp,I2]at h
     simp only[av]at h
     obtain⟨υ',y,h1,e1⟩:=iD h
     obtain⟨z,h2,e2⟩:=dG h1
     exact⟨_,_,_,h2,λH' hA K'=>by
      unfold uv;simp only;rw[hA id (by simp),bg];simp only
      rw[hp,I2];simp only[av];rw[e1,e2]⟩
    ·rw[hp,I2]at h
     simp only[av,ak]at h
     obtain⟨z,ups,h1,e1⟩:=TP h
     obtain⟨υ',y,h2,e2⟩:=iD h1
     obtain⟨z',h3,e3⟩:=dG h2
     exact⟨_,_,_,h3,λH' hA K'=>by
      unfold uv;simp only;rw[hA id (by simp),bg];simp only
      rw[hp,I2];simp only[av,ak];rw[e1 H' (hA j (by simp)),e2,e3]⟩
   ·rw[hp]at h
    simp only[ak]at h
    obtain⟨h1,e1⟩:=eE h
    exact⟨_,_,_,h1,λH' hA K'=>by
     unfold uv;simp only;rw[hA id (by simp),bg];simp only
     rw[hp];simp only[ak];rw[e1]⟩
  ·rename_i qj
   obtain⟨z,h1,e1⟩:=Yi h
   refine⟨_,_,_,h1,λH' hA K'=> ?_⟩
   unfold uv;simp only;rw[hA id (by simp)]
   split
   ·rename_i bg;exact absurd bg (qj _ _ _ _)
   ·exact e1 H' (hA id (by simp)) K'
 ·rename_i qj
  obtain⟨v,rd,ups,h1,e1⟩:=Yh h
  refine⟨v,rd,ups,h1,λH' hA K'=> ?_⟩
  have:uv τ a H' K'=lY a H' fun υ y rd=>cJ υ τ y λz=>K' (.val τ z) rd []:=by
   unfold uv
   cases a<;>first|rfl|exact absurd rfl (qj _ _)
  rw[this]
  exact e1 H' hA K'
theorem Bd{τ:Ty}{id k:Nat}{e:Ty}{q:List Step}{υ:Ty}{x:υ.den}{H:Nat→Option bp}{K:gL α}(h:zh τ id k e q υ x H K=some r):
  ∃v ups,K v [id,k] ups=some r∧ ∀H',H' k=H k→ ∀K':gL α,zh τ id k e q υ x H' K'=K' v [id,k] ups:=by
 unfold zh at h
 split at h
 ·rename_i bg
  obtain⟨h1,e1⟩:=gI h
  obtain⟨h2,e2⟩:=gI h1
  obtain⟨z,h3,e3⟩:=px h2
  exact⟨_,_,h3,λH' hA K'=>by unfold zh;rw[hA,bg];simp only;rw[e1,e2,e3]⟩
 ·cases h
theorem Cz{τ:Ty}{id:Nat}{p:List Step}{v:bA}{H:Nat→Option bp}{K:gL α}(h:m2 τ (.jd id p) v H K=some r):
  ∃u rd ups,id∈rd∧K u rd ups=some r∧ ∀H',Ag rd H H'→ ∀K':gL α,m2 τ (.jd id p) v H' K'=K' u rd ups:=by
 unfold m2 at h
 simp only at h
 obtain⟨y,rd,ups,h1,e1⟩:=py h
 split at h1
 ·rename_i bg
  obtain⟨z,h2,e2⟩:=px h1
  exact⟨_,_,_,by simp,h2,λH' hA K'=>by
   unfold m2;simp only
   rw[e1 H' (λi hi=>hA i (aZ _ hi))]
   rw[hA _ (by simp),bg];simp only;rw[e2]⟩
 ·rename_i bg
  split at h1
  ·obtain⟨h2,e2⟩:=uB h1
   obtain⟨z,h3,e3⟩:=px h2
   exact⟨_,_,_,by simp,h3,λH' hA K'=>by
    unfold m2;simp only
    rw[e1 H' (λi hi=>hA i (aZ _ hi))]
    rw[hA _ (by simp),bg];simp only;rw[e2,e3]⟩
  ·cases h1
 ·cases h1
theorem CA{E:Env}{τ:Ty}{a v:bA}{H:Nat→Option bp}{K:gL α}(h:kV E τ a v H K=some r):
  ∃u rd ups,K u rd ups=some r∧ ∀H',Ag rd H H'→ ∀K':gL α,kV E τ a v H' K'=K' u rd ups:=by
 have h0:=h
 unfold kV at h
 simp only at h
 split at h
 ·rename_i id p
  split at h
  ·rename_i υ x bg
   split at h
   ·rename_i q e k qA
    cases hp:Jg p q
    ·rw[hp]at h
     simp only[av]at h
     obtain⟨u,rd,ups,hi,h1,e1⟩:=Cz h
     refine⟨u,rd,ups,h1,λH' hA K'=> ?_⟩
     unfold kV;simp only;rw[hA id hi,bg];simp only;rw[qA];simp only;rw[hp];simp only[av]
     exact e1 H' hA K'
    ·rw[hp]at h
     simp only[ak]at h
     obtain⟨u,ups,h1,e1⟩:=Bd h
     refine⟨u,_,ups,h1,λH' hA K'=> ?_⟩
     unfold kV;simp only;rw[hA id (by simp),bg];simp only;rw[qA];simp only;rw[hp];simp only[ak]
     exact e1 H' (hA k (by simp)) K'
   ·rename_i qj
    obtain⟨u,rd,ups,hi,h1,e1⟩:=Cz h
    refine⟨u,rd,ups,h1,λH' hA K'=> ?_⟩
    unfold kV;simp only;rw[hA id hi,bg];simp only
    exact e1 H' hA K'
  ·rename_i υ x q j bg
   have A4:(m0 true v H τ λy rd ups=>wx τ y p υ x λz=>K .any (id::rd) (ups++[(id,some (cond (yV p q) (.obj υ z) (.gg υ z q j)))]))=some r→
     ∃u rd ups,id∈rd∧K u rd ups=some r∧ ∀H',Ag rd H H'→ ∀K':gL α,(m0 true v H' τ λy rd ups=>wx τ y p υ x λz=>K' .any (id::rd) (ups++[(id,some (cond (yV p q) (.obj υ z) (.gg υ z q j)))]))=K' u rd ups:=by
    intro h
    obtain⟨y,rd,ups,h1,e1⟩:=py h
    obtain⟨z,h2,e2⟩:=px h1
    exact⟨_,_,_,by simp,h2,λH' hA K'=>by rw[e1 H' (λi hi=>hA i (aZ _ hi)),e2]⟩
   split at h
   ·rename_i q' e k qA
    cases hp:(Jg p q&&Jg q q')
    ·rw[hp]at h
     simp only[av]at h
     obtain⟨u,rd,ups,hi,h1,e1⟩:=A4 h
     refine⟨u,rd,ups,h1,λH' hA K'=> ?_⟩
     unfold kV;simp only;rw[hA id hi,bg];simp only;rw[qA];simp only;rw[hp];simp only[av]
     exact e1 H' hA K'
    ·rw[hp]at h
     simp only[ak]at h
     obtain⟨u,ups,h1,e1⟩:=Bd h
     refine⟨u,_,ups,h1,λH' hA K'=> ?_⟩
     unfold kV;simp only;rw[hA id (by simp),bg];simp only;rw[qA];simp only;rw[hp];simp only[ak]
     exact e1 H' (hA k (by simp)) K'
   ·rename_i qj
    obtain⟨u,rd,ups,hi,h1,e1⟩:=A4 h
    refine⟨u,rd,ups,h1,λH' hA K'=> ?_⟩
    unfold kV;simp only;rw[hA id hi,bg];simp only
    exact e1 H' hA K'
  ·rename_i avf avg
   obtain⟨u,rd,ups,hi,h1,e1⟩:=Cz h
   refine⟨u,rd,ups,h1,λH' hA K'=> ?_⟩
   unfold kV;simp only;rw[hA id hi]
   split
   ·rename_i bg;exact absurd bg (avf _ _)
   ·rename_i bg;exact absurd bg (avg _ _ _ _)
   ·exact e1 H' hA K'
 ·rename_i qj
  obtain⟨u,rd,ups,h1,e1⟩:=Vs h
  refine⟨u,rd,ups,h1,λH' hA K'=> ?_⟩
  have:kV E τ a v H' K'=m2 τ a v H' K':=by
   unfold kV
   cases a<;>first|rfl|exact absurd rfl (qj _ _)
  rw[this]
  exact e1 H' hA K'
theorem Vt{E:Env}{τ:Ty}{a v:bA}{H:Nat→Option bp}{K:gL α}(h:tP E τ a v H K=some r):
  ∃u rd ups,K u rd ups=some r∧ ∀H',Ag rd H H'→ ∀K':gL α,tP E τ a v H' K'=K' u rd ups:=by
 unfold tP at h
 split at h
 ·rename_i id υ y n
  split at h
  ·rename_i m e qA
   cases Cp:Nat.beq m n
   ·rw[Cp]at h
    simp only[av]at h
    obtain⟨u,rd,ups,h1,e1⟩:=CA h
    exact⟨u,rd,ups,h1,λH' hA K'=>by unfold tP;simp only;rw[qA];simp only;rw[Cp];simp only[av];exact e1 H' hA K'⟩
   ·rw[Cp]at h
    simp only[ak]at h
    obtain⟨h1,e1⟩:=gI h
    obtain⟨υ',h2,e2⟩:=yC h1
    obtain⟨h3,e3⟩:=gI h2
    obtain⟨h4,e4⟩:=yD h3
    exact⟨_,_,_,h4,λH' hA K'=>by unfold tP;simp only;rw[qA];simp only;rw[Cp];simp only[ak];rw[e1,e2 H' (hA _ (by simp)),e3,e4 H' (hA _ (by simp))]⟩
  ·rename_i qj
   obtain⟨u,rd,ups,h1,e1⟩:=CA h
   refine⟨u,rd,ups,h1,λH' hA K'=> ?_⟩
   unfold tP;simp only
   exact e1 H' hA K'
 ·rename_i qj
  obtain⟨u,rd,ups,h1,e1⟩:=CA h
  refine⟨u,rd,ups,h1,λH' hA K'=> ?_⟩
  unfold tP
  split
  ·exact absurd rfl (qj _ _ _ _ rfl)
  ·exact e1 H' hA K'
theorem Vu{E:Env}{t:Ty}{z:Bool}{a:bA}{lo hi mx:Option bA}{H:Nat→Option bp}{K:gL α}(h:w8 E t z a lo hi mx H K=some r): ∃v rd ups,K v rd ups=some r∧ ∀H',Ag rd H H'→ ∀K':gL α,w8 E t z a lo hi mx H' K'=K' v rd ups:=by
 unfold w8 at h
 split at h
 ·rename_i e id lo' hvw
  obtain⟨k,i,h1,e1⟩:=qL h
  split at h1
  ·rename_i e' l bg
   obtain⟨h2,e2⟩:=gI h1
   obtain⟨h3,e3⟩:=eE h2
   refine⟨_,_,_,h3,λH' hA K'=> ?_⟩
   unfold w8;rw[hvw];simp only
   rw[e1,hA id (by simp),bg];simp only
   rw[e2,e3]
  ·cases h1
 ·rename_i qj
  obtain⟨v,rd,ups,h1,e1⟩:=Vq h
  refine⟨v,rd,ups,h1,λH' hA K'=> ?_⟩
  unfold w8
  split
  ·rename_i hvw;exact absurd rfl (qj _ _ _ hvw rfl rfl rfl rfl)
  ·exact e1 H' hA K'
theorem Vv{e:Ty}{a:bA}{H:Nat→Option bp}{K:gL α}(h:zw e a H K=some r): ∃v rd ups,K v rd ups=some r∧ ∀H',Ag rd H H'→ ∀K':gL α,zw e a H' K'=K' v rd ups:=by
 unfold zw at h
 split at h
 ·rename_i id e' lo
  obtain⟨h1,e1⟩:=gI h
  split at h1
  ·rename_i e2 l bg
   obtain⟨z,h2,e3⟩:=dG h1
   refine⟨_,_,_,h2,λH' hA K'=> ?_⟩
   unfold zw;simp only
   rw[e1,hA id (by simp),bg];simp only
   rw[e3]
  ·cases h1
 ·cases h
theorem CB{E:Env}{τ:Ty}{a v:bA}{H:Nat→Option bp}{K:gL α}(h:tQ E τ a v H K=some r):
  ∃u rd ups,K u rd ups=some r∧ ∀H',Ag rd H H'→ ∀K':gL α,tQ E τ a v H' K'=K' u rd ups:=by
 unfold tQ at h
 split at h
 ·rename_i id υ y n j
  split at h
  ·rename_i m e qA
   obtain⟨h1,e1⟩:=eE h
   obtain⟨h2,e2⟩:=gI h1
   obtain⟨υ',h3,e3⟩:=yC h2
   obtain⟨h4,e4⟩:=gI h3
   split at h4
   ·rename_i e' l hj
    obtain⟨h5,e5⟩:=gI h4
    refine⟨_,_,_,h5,λH' hA K'=> ?_⟩
    unfold tQ;simp only;rw[qA];simp only
    rw[e1,e2,e3 H' (hA _ (by simp)),e4,hA j (by simp),hj];simp only
    rw[e5]
   ·cases h4
  ·cases h
 ·rename_i qj
  obtain⟨u,rd,ups,h1,e1⟩:=Vt h
  refine⟨u,rd,ups,h1,λH' hA K'=> ?_⟩
  unfold tQ
  split
  ·exact absurd rfl (qj _ _ _ _ _ rfl)
  ·exact e1 H' hA K'
theorem TQ{k:Nat}: ∀(ups:jr) {H H':Nat→Option bp},H' k=H k→cP H' ups k=cP H ups k
 |[],_,_,h=>h
 |u::r,H,H',h=>by
  show cP (ca H' u.1 u.2) r k=cP (ca H u.1 u.2) r k
  refine TQ r ?_
  by_cases e:k=u.1
  ·subst e;rw[ay,ay]
  ·rw[az _ _ e,az _ _ e,h]
theorem Vw{E:Env}{τ:Ty}{a v:bA}{H:Nat→Option bp}{K:gL α}(h:rV E τ a v H K=some r):
  ∃u rd ups,K u rd ups=some r∧ ∀H',Ag rd H H'→ ∀K':gL α,rV E τ a v H' K'=K' u rd ups:=by
 unfold rV at h
 split at h
 ·rename_i id n k
  cases hb:ajG E id n
  ·rw[hb]at h
   simp only[av]at h
   obtain⟨u,rd,ups,h1,e1⟩:=CB h
   exact⟨u,rd,ups,h1,λH' hA K'=>by unfold rV;simp only;rw[hb];simp only[av];exact e1 H' hA K'⟩
  ·rw[hb]at h
   simp only[ak]at h
   split at h
   ·rename_i υ x q j bg
    cases hp:Jg q [.gG n]
    ·rw[hp]at h
     simp only[av]at h
     split at h
     ·rename_i e Vc
      obtain⟨z,ups,h1,e1⟩:=TP h
      obtain⟨u,jt,h2,e2⟩:=Bd h1
      refine⟨_,_,_,h2,λH' hA K'=> ?_⟩
      unfold rV;simp only;rw[hb];simp only[ak]
      rw[hA id (by simp),bg];simp only
      rw[hp];simp only[av]
      rw[Vc];simp only
      rw[e1 H' (hA j (by simp)),e2 _ (TQ ups (hA k (by simp)))]
     ·cases h
    ·rw[hp]at h
     simp only[ak]at h
     obtain⟨u,rd,ups,h1,e1⟩:=CB h
     refine⟨_,_,_,h1,λH' hA K'=> ?_⟩
     unfold rV;simp only;rw[hb];simp only[ak]
     rw[hA id (by simp),bg];simp only
     rw[hp];simp only[ak]
     exact e1 H' (λi hi=>hA i (aZ _ hi)) _
   ·rename_i υ x bg
    split at h
    ·rename_i e Vc
     obtain⟨u,jt,h2,e2⟩:=Bd h
     refine⟨_,_,_,h2,λH' hA K'=> ?_⟩
     unfold rV;simp only;rw[hb];simp only[ak]
     rw[hA id (by simp),bg];simp only
     rw[Vc];simp only
     exact e2 H' (hA k (by simp)) K'
    ·cases h
   ·cases h
 ·rename_i qj
  obtain⟨u,rd,ups,h1,e1⟩:=CB h
  refine⟨u,rd,ups,h1,λH' hA K'=> ?_⟩
  unfold rV
  split
  ·exact absurd rfl (qj _ _ _ rfl)
  ·exact e1 H' hA K'
theorem Yj{E:Env}{τ:Ty}{a:bA}{H:Nat→Option bp}{K:gL α}(h:AP E τ a H K=some r):
  ∃u rd ups,K u rd ups=some r∧ ∀H',Ag rd H H'→ ∀K':gL α,AP E τ a H' K'=K' u rd ups:=by
 unfold AP at h
 split at h
 ·rename_i id U7
  split at h
  ·rename_i υ x n j bg
   obtain⟨z,h1,e1⟩:=dG h
   refine⟨_,_,_,h1,λH' hA K'=> ?_⟩
   unfold AP;rw[U7];simp only;rw[hA id (by simp),bg];simp only
   rw[e1]
  ·rename_i qj
   obtain⟨u,rd,ups,h1,e1⟩:=Oo h
   refine⟨_,_,_,h1,λH' hA K'=> ?_⟩
   unfold AP;rw[U7];simp only;rw[hA id (by simp)]
   split
   ·rename_i bg;exact absurd bg (qj _ _ _ _)
   ·exact e1 H' (λi hi=>hA i (aZ _ hi)) _
 ·rename_i qj
  obtain⟨u,rd,ups,h1,e1⟩:=Oo h
  refine⟨u,rd,ups,h1,λH' hA K'=> ?_⟩
  unfold AP
  split
  ·rename_i U7;exact absurd rfl (qj _ U7)
  ·exact e1 H' hA K'
theorem TR{H:Nat→Option bp}{id:Nat}{τ:Ty}{x:τ.den}{q:List Step}{e:Ty}{K:gL α}(h:EF H id τ x q e K=some r):Pts (λH K=>EF H id τ x q e K) H K r:=by
 obtain⟨h1,h2,h3⟩:=Gx h
 exact⟨_,_,_,h3,λH' hA K'=>by unfold EF rS;simp only;rw[hA id (by simp),h1,hA (id+1) (by simp),h2]⟩
theorem akh{E:Env}{o:Oper}{ρ:Operand→bA}{H:Nat→Option bp}{K:gL α}(h:tf E o ρ H K=some r):
  ∃v rd ups,K v rd ups=some r∧ ∀ρ' H',(∀x∈o.op.operands,ρ' x=ρ x)→Ag rd H H'→ ∀K':gL α,tf E o ρ' H' K'=K' v rd ups:=by
 obtain⟨dst,op,type,pos,after,guard⟩:=o
 unfold tf at h
 simp only at h
 have ab7: ∀{ρ':Operand→bA} (xs:List Operand),(∀x∈xs,ρ' x=ρ x)→xs.map ρ'=xs.map ρ:=λxs hx=>pE hx
 have LN: ∀{ρ':Operand→bA} (ps:Array (Nat×Operand)),(∀x∈ps.map (·.2),ρ' x=ρ x)→partsOf ρ' ps=partsOf ρ ps:=λps hp=>by
  unfold partsOf
  exact pE λp hm=>by rw[hp p.2 (Array.mem_map.2 ⟨p,by simpa using hm,rfl⟩)]
 have aki: ∀{ρ':Operand→bA} (x:Option Operand),(∀y∈x,ρ' y=ρ y)→x.map ρ'=x.map ρ:=λx hx=>by
  cases x with
  |none=>rfl
  |some x=>simp[hx x rfl]
 split at h
 ·
  rename_i x
  exact⟨_,_,_,h,fun ρ' H' hx _ K'=>by unfold tf;simp only;rw[hx x (by simp[Op.operands])]⟩
 ·rename_i x
  exact⟨_,_,_,h,fun ρ' H' hx _ K'=>by unfold tf;simp only;rw[hx x (by simp[Op.operands])]⟩
 ·rename_i x y z
  split at h
  ·rename_i t hx
   cases t
   ·exact⟨_,_,_,(h:K (ρ z) [] []=some r),fun ρ' H' oO _ K'=>by unfold tf;simp only;rw[oO x (by simp[Op.operands]),hx,oO z (by simp[Op.operands])];rfl⟩
   ·exact⟨_,_,_,(h:K (ρ y) [] []=some r),fun ρ' H' oO _ K'=>by unfold tf;simp only;rw[oO x (by simp[Op.operands]),hx,oO y (by simp[Op.operands])];rfl⟩
  ·cases h
 ·
  split at h
  ·rename_i τ ht
   split at h
   ·rename_i q e qA
    obtain⟨v,rd,ups,h1,e1⟩:=TR h
    exact⟨_,_,_,h1,fun ρ' H' hx hA K'=>by unfold tf;simp only;rw[ht];simp only;rw[qA];exact e1 H' hA K'⟩
   ·rename_i qA
    obtain⟨h1,e1⟩:=yD h
    exact⟨_,_,_,h1,fun ρ' H' hx hA K'=>by unfold tf;simp only;rw[ht];simp only;rw[qA];simp only;rw[e1 H' (hA _ (by simp))]⟩
  ·cases h
 ·
  rename_i t x
  split at h
  ·rename_i τ ht
   have hold:(m0 true (ρ x) H τ λy rd ups=>rS H (16*dst.getD 0) (.obj τ y) (K (.jd (16*dst.getD 0) []) (16*dst.getD 0::rd) (ups++[(16*dst.getD 0,some (.obj τ y))])))=some r→
     Pts (λH K=>m0 true (ρ x) H τ λy rd ups=>rS H (16*dst.getD 0) (.obj τ y) (K (.jd (16*dst.getD 0) []) (16*dst.getD 0::rd) (ups++[(16*dst.getD 0,some (.obj τ y))]))) H K r:=by
    intro h
    obtain⟨y,rd,ups,h1,e1⟩:=py h
    obtain⟨h2,e2⟩:=yD h1
    exact⟨_,_,_,h2,λH' hA K'=>by simp only;rw[e1 H' (λi hi=>hA i (aZ _ hi)),e2 H' (hA _ (by simp))]⟩
   split at h
   ·rename_i m e υ y n qA Yk
    cases Cp:Nat.beq m n
    ·rw[Cp]at h
     obtain⟨v,rd,ups,h1,e1⟩:=hold h
     refine⟨_,_,_,h1,fun ρ' H' hx hA K'=> ?_⟩
     unfold tf;simp only;rw[ht];simp only
     rw[hx x (by simp[Op.operands]),qA,Yk];simp only
     rw[Cp]
     have:=e1 H' hA K'
     rw[Yk]at this
     exact this
    ·rw[Cp]at h
     simp only[ak]at h
     obtain⟨z,h1,e1⟩:=dG h
     obtain⟨v,rd,ups,h2,e2⟩:=TR h1
     refine⟨_,_,_,h2,fun ρ' H' hx hA K'=> ?_⟩
     unfold tf;simp only;rw[ht];simp only
     rw[hx x (by simp[Op.operands]),qA,Yk];simp only
     rw[Cp];simp only[ak]
     rw[e1]
     exact e2 H' hA K'
   ·rename_i qj
    obtain⟨v,rd,ups,h1,e1⟩:=hold h
    refine⟨_,_,_,h1,fun ρ' H' hx hA K'=> ?_⟩
    unfold tf;simp only;rw[ht];simp only
    rw[hx x (by simp[Op.operands])]
    split
    ·rename_i qA Yk;exact absurd Yk (qj _ _ _ _ _ qA)
    ·exact e1 H' hA K'
  ·cases h
 ·
  rename_i t ps
  split at h
  ·rename_i n e ht
   obtain⟨l,rd,ups,h1,_,e1⟩:=GQ h
   exact⟨_,_,_,h1,fun ρ' H' hx hA K'=>by unfold tf;simp only;rw[ht];simp only;rw[LN ps (λx oO=>hx x (by simpa [Op.operands]using oO)),e1 H' hA]⟩
  ·rename_i τ XP ht
   split at h
   ·rename_i n k hs
    split at h
    ·rename_i e' l' hk
     obtain⟨h0,e0⟩:=eE h
     obtain⟨l,rd,ups,h1,_,e1⟩:=Cy h0
     refine⟨_,_,_,h1,fun ρ' H' hx hA K'=> ?_⟩
     unfold tf;simp only;rw[ht]
     cases τ with
     |arr n e=>exact absurd rfl (XP n e)
     |_=>
      simp only
      rw[LN ps (λx oO=>hx x (by simpa [Op.operands]using oO)),hs];simp only
      rw[hA k (by simp),hk];simp only
      rw[e0,e1 H' (λi hi=>hA i (aZ _ hi))]
    ·cases h
   ·rename_i hs
    obtain⟨h0,e0⟩:=eE h
    obtain⟨l,rd,ups,h1,_,e1⟩:=Cy h0
    refine⟨_,_,_,h1,fun ρ' H' hx hA K'=> ?_⟩
    unfold tf;simp only;rw[ht]
    cases τ with
    |arr n e=>exact absurd rfl (XP n e)
    |_=>
     simp only
     rw[LN ps (λx oO=>hx x (by simpa [Op.operands]using oO)),hs];simp only
     rw[e0,e1 H' hA]
  ·cases h
 ·
  rename_i t n ps
  split at h
  ·rename_i e ht
   obtain⟨h0,e0⟩:=eE h
   obtain⟨h1,e1⟩:=yD h0
   obtain⟨l,rd,ups,h2,_,e2⟩:=GQ h1
   exact⟨_,_,_,h2,fun ρ' H' hx hA K'=>by
    unfold tf;simp only;rw[ht];simp only
    rw[e0,e1 H' (hA _ (by simp)),LN ps (λx oO=>hx x (by simpa [Op.operands]using oO)),e2 H' (λi hi=>hA i (aZ _ hi))]⟩
  ·cases h
 ·
  rename_i t x
  split at h
  ·rename_i τ ht
   obtain⟨v,rd,ups,h1,e1⟩:=Yj h
   exact⟨_,_,_,h1,fun ρ' H' hx hA K'=>by unfold tf;simp only;rw[ht];simp only;rw[hx x (by simp[Op.operands]),e1 H' hA]⟩
  ·cases h
 ·
  rename_i t x y
  split at h
  ·rename_i τ ht
   obtain⟨u,rd,ups,h1,e1⟩:=Vw h
   exact⟨_,_,_,h1,fun ρ' H' hx hA K'=>by unfold tf;simp only;rw[ht];simp only;rw[hx x (by simp[Op.operands]),hx y (by simp[Op.operands]),e1 H' hA]⟩
  ·cases h
 ·
  rename_i x
  split at h
  ·rename_i id p hx
   exact⟨_,_,_,h,fun ρ' H' oO _ K'=>by unfold tf;simp only;rw[oO x (by simp[Op.operands]),hx]⟩
  ·rename_i τ z hx
   exact⟨_,_,_,h,fun ρ' H' oO _ K'=>by unfold tf;simp only;rw[oO x (by simp[Op.operands]),hx]⟩
  ·cases h
 ·
  rename_i b t x y t'
  obtain⟨τ,x1,h1,e1⟩:=TO h
  obtain⟨υ,y1,h2,e2⟩:=TO h1
  obtain⟨v,h3,e3⟩:=Yc h2
  exact⟨_,_,_,h3,fun ρ' H' hx _ K'=>by unfold tf;simp only;rw[hx x (by simp[Op.operands]),hx y (by simp[Op.operands]),e1,e2,e3]⟩
 ·
  rename_i u t x
  obtain⟨v,h1,e1⟩:=ab4 h
  exact⟨_,_,_,h1,fun ρ' H' hx _ K'=>by unfold tf;simp only;rw[hx x (by simp[Op.operands]),e1]⟩
 ·
  rename_i s d x
  split at h
  ·rename_i τ k hs hd
   obtain⟨i,n,h1,e1⟩:=qL h
   exact⟨_,_,_,h1,fun ρ' H' hx _ K'=>by unfold tf;simp only;rw[hs,hd];simp only;rw[hx x (by simp[Op.operands]),e1]⟩
  ·cases h
 ·
  rename_i f first caps
  obtain⟨h1,e1⟩:=eE h
  obtain⟨cs,rd,ups,h3,e3⟩:=GU h1
  exact⟨_,_,_,h3,fun ρ' H' hx hA K'=>by unfold tf;simp only;rw[ab7 caps.toList (λx oO=>hx x (by simp[Op.operands];exact .inr (by simpa using oO))),e1,e3 H' hA]⟩
 ·
  rename_i t x y
  split at h
  ·rename_i e ht
   obtain⟨i,n,h1,e1⟩:=qL h
   obtain⟨i',n',h2,e2⟩:=qL h1
   obtain⟨h3,e3⟩:=eE h2
   obtain⟨h4,e4⟩:=yD h3
   exact⟨_,_,_,h4,fun ρ' H' hx hA K'=>by
    unfold tf;simp only;rw[ht];simp only
    rw[hx x (by simp[Op.operands]),e1,hx y (by simp[Op.operands]),e2,e3,e4 H' (hA _ (by simp))]⟩
  ·cases h
 ·
  rename_i t x lo hi mx
  split at h
  ·rename_i τ ht
   obtain⟨v,rd,ups,h1,e1⟩:=Vu h
   exact⟨_,_,_,h1,fun ρ' H' hx hA K'=>by
    unfold tf;simp only;rw[ht];simp only
    rw[hx x (by simp[Op.operands]),aki lo (λy hy=>hx y (by simp at hy;simp[Op.operands,hy])),aki hi (λy hy=>hx y (by simp at hy;simp[Op.operands,hy])),aki mx (λy hy=>hx y (by simp at hy;simp[Op.operands,hy])),e1 H' hA]⟩
  ·cases h
 ·
  rename_i t x n
  split at h
  ·rename_i τ ht
   split at h
   ·rename_i id p hx
    obtain⟨υ,h1,e1⟩:=yC h
    obtain⟨h2,e2⟩:=gI h1
    obtain⟨υ',y',h3,e3⟩:=yB h2
    obtain⟨h4,e4⟩:=uB h3
    exact⟨_,_,_,h4,fun ρ' H' oO hA K'=>by
     unfold tf;simp only;rw[ht];simp only
     rw[oO x (by simp[Op.operands]),hx];simp only
     rw[e1 H' (hA _ (by simp)),e2,e3,e4]⟩
   ·rename_i υ z hx
    obtain⟨h2,e2⟩:=gI h
    obtain⟨υ',y',h3,e3⟩:=yB h2
    obtain⟨h4,e4⟩:=uB h3
    exact⟨_,_,_,h4,fun ρ' H' oO hA K'=>by
     unfold tf;simp only;rw[ht];simp only
     rw[oO x (by simp[Op.operands]),hx];simp only
     rw[e2,e3,e4]⟩
   ·cases h
  ·cases h
 ·
  rename_i t x n
  split at h
  ·rename_i τ ht
   split at h
   ·rename_i υ z hx
    obtain⟨h2,e2⟩:=gI h
    obtain⟨υ',y',h3,e3⟩:=yB h2
    exact⟨_,_,_,h3,fun ρ' H' oO hA K'=>by
     unfold tf;simp only;rw[ht];simp only
     rw[oO x (by simp[Op.operands]),hx];simp only
     rw[e2,e3]⟩
   ·cases h
  ·cases h
 ·
  rename_i t x i
  split at h
  ·rename_i τ ht
   obtain⟨v,rd,ups,h1,e1⟩:=Jv h
   exact⟨_,_,_,h1,fun ρ' H' hx hA K'=>by unfold tf;simp only;rw[ht];simp only;rw[hx x (by simp[Op.operands]),hx i (by simp[Op.operands]),e1 H' hA]⟩
  ·cases h
 ·
  rename_i t x i
  split at h
  ·rename_i τ ht
   obtain⟨v,h1,e1⟩:=Vr h
   exact⟨_,_,_,h1,fun ρ' H' hx hA K'=>by unfold tf;simp only;rw[ht];simp only;rw[hx x (by simp[Op.operands]),hx i (by simp[Op.operands]),e1]⟩
  ·cases h
 ·
  rename_i x i
  split at h
  ·rename_i vs hx
   split at h
   ·rename_i v hv
    exact⟨_,_,_,h,fun ρ' H' oO hA K'=>by unfold tf;simp only;rw[oO x (by simp[Op.operands]),hx];simp only;rw[hv]⟩
   ·cases h
  ·cases h
 ·
  rename_i cl
  obtain⟨callee,args,ts⟩:=cl
  simp only at h
  have xt: ∀{ρ':Operand→bA},(∀x∈(Op.call {callee,args,argTypes:=ts}).operands,ρ' x=ρ x)→ ∀x∈args.toList,ρ' x=ρ x:=
   λhx x oO=>hx x (by simp[Op.operands,Call.operands];exact .inr (by simpa using oO))
  split at h
  ·split at h
   ·rename_i x τ ha ht
    obtain⟨v,rd,ups,h1,e1⟩:=ab5 h
    exact⟨_,_,_,h1,fun ρ' H' hx hA K'=>by unfold tf;simp only;rw[ha,ht];simp only;rw[xt hx x (by rw[ha];simp),e1 H' hA]⟩
   ·cases h
  ·split at h
   ·rename_i x y t t' ha ht
    split at h
    ·rename_i e hte
     obtain⟨h1,e1⟩:=eE h
     obtain⟨h2,e2⟩:=yD h1
     obtain⟨v,rd,ups,h3,bg,e3⟩:=ab6 h2
     exact⟨_,_,_,h3,fun ρ' H' hx hA K'=>by
      unfold tf;simp only;rw[ha,ht];simp only;rw[hte];simp only
      rw[e1,e2 H' (hA _ bg),xt hx x (by rw[ha];simp),xt hx y (by rw[ha];simp),e3 H' hA]⟩
    ·cases h
   ·cases h
  ·split at h
   ·rename_i x t ha ht
    split at h
    ·rename_i e hte
     obtain⟨v,rd,ups,h1,e1⟩:=Vv h
     exact⟨_,_,_,h1,fun ρ' H' hx hA K'=>by
      unfold tf;simp only;rw[ha,ht];simp only;rw[hte];simp only
      rw[xt hx x (by rw[ha];simp),e1 H' hA]⟩
    ·cases h
   ·cases h
  ·split at h
   ·rename_i x xs ha
    obtain⟨v,h1,e1⟩:=RX h
    exact⟨_,_,_,h1,fun ρ' H' hx hA K'=>by
     unfold tf;simp only;rw[ha];simp only
     rw[xt hx x (by rw[ha];simp),ab7 xs (λy hy=>xt hx y (by rw[ha];simp[hy])),e1]⟩
   ·cases h
  ·split at h
   ·rename_i x xs ha
    obtain⟨v,h1,e1⟩:=RX h
    exact⟨_,_,_,h1,fun ρ' H' hx hA K'=>by
     unfold tf;simp only;rw[ha];simp only
     rw[xt hx x (by rw[ha];simp),ab7 xs (λy hy=>xt hx y (by rw[ha];simp[hy])),e1]⟩
   ·cases h
  ·rename_i g
   split at h
   ·rename_i f caps hg
    obtain⟨v,rd,ups,h1,e1⟩:=Yf h
    exact⟨_,_,_,h1,fun ρ' H' hx hA K'=>by
     unfold tf;simp only
     rw[hx g (by simp[Op.operands,Call.operands]),hg];simp only
     rw[ab7 args.toList (xt hx),e1 H' hA]⟩
   ·cases h
  ·cases h
 ·cases h
end VM
end
section
namespace VM
open Go
variable{P:Program}{E:Env}{o:Oper}{a:Act}{w:World}{M:Nat→Prop}{ν:Nat→Value}{σ:St}{c:Ctx}{α:Type}{r:α}{next:Act→World→Prop}{Q:Exit→Act→World→Prop}
structure Out where
 dst:Option Nat
 v:bA
 rd:List Nat
 ups:jr
def Out.app(u:Out)(σ:St):St:=(σ.w3 u.ups).wv u.dst u.v
theorem Oq(σ:St)(d:Nat)(v:bA):(σ.wv (some d) v).T d=v:=vk σ d v
theorem Vx(σ:St){d:Option Nat}{t:Nat}(v:bA)(h:d≠some t):(σ.wv d v).T t=σ.T t:=by
 cases d with
 |none=>rfl
 |some d=>exact Bc σ v (λe=>h (by rw[e]))
theorem akj(σ:St)(d:Option Nat)(v:bA):(σ.wv d v).H=σ.H:=by cases d<;>rfl
theorem RY{u:Out}{t:Nat}(h:u.dst=some t)(σ:St):(u.app σ).T t=u.v:=by unfold Out.app;rw[h];exact Oq _ _ _
theorem Yl{u:Out}{t:Nat}(h:u.dst≠some t)(σ:St):(u.app σ).T t=σ.T t:=by unfold Out.app;rw[Vx _ _ h,RM]
theorem ape(u:Out)(σ:St):(u.app σ).H=cP σ.H u.ups:=by unfold Out.app;rw[akj,RL]
def Pt(E:Env)(ops:List Oper)(o:Oper)(σ:St)(u:Out)(α:Type):Prop:=
 u.dst=o.dst∧ ∀σ':St,(∀t∈names ops o,σ'.T t=σ.T t)→Ag u.rd σ.H σ'.H→ ∀K':St→List Nat→List Nat→Option α,uw E ops o σ' K'=K' (u.app σ') u.rd (u.ups.map (·.1))
theorem Ym{ops:List Oper}{K:St→List Nat→List Nat→Option α}(h:uw E ops o σ K=some r): ∃u:Out,K (u.app σ) u.rd (u.ups.map (·.1))=some r∧Pt E ops o σ u α:=by
 unfold uw at h
 obtain⟨h,e0⟩:=eE h
 have avh: ∀σ':St,(∀t∈names ops o,σ'.T t=σ.T t)→ ∀x∈o.op.operands,σ'.ρ x=σ.ρ x:=by
  intro σ' hT x hx
  cases x with
  |tmp t=>
   refine hT t ?_
   unfold names
   refine cU _ (List.mem_filterMap.2 ⟨.tmp t,by simpa using hx,rfl⟩)
  |_=>rfl
 have dC:tf E o σ.ρ σ.H (λv rd ups=>K ((σ.w3 ups).wv o.dst v) rd (ups.map (·.1)))=some r→
   ∃u:Out,K (u.app σ) u.rd (u.ups.map (·.1))=some r∧u.dst=o.dst∧ ∀σ':St,(∀t∈names ops o,σ'.T t=σ.T t)→Ag u.rd σ.H σ'.H→ ∀K':St→List Nat→List Nat→Option α,
    tf E o σ'.ρ σ'.H (λv rd ups=>K' ((σ'.w3 ups).wv o.dst v) rd (ups.map (·.1)))=K' (u.app σ') u.rd (u.ups.map (·.1)):=by
  intro h
  obtain⟨v,rd,ups,h1,h2⟩:=akh h
  exact⟨⟨o.dst,v,rd,ups⟩,h1,rfl,fun σ' hT hA K'=>h2 σ'.ρ σ'.H (avh σ' hT) hA _⟩
 have tq: ∀{K:St→List Nat→List Nat→Option α},K (σ.wv o.dst .XA) [] []=some r→ ∃u:Out,K (u.app σ) u.rd (u.ups.map (·.1))=some r∧u.dst=o.dst∧ ∀σ':St,∀K':St→List Nat→List Nat→Option α,K' (σ'.wv o.dst .XA) [] []=K' (u.app σ') u.rd (u.ups.map (·.1)):=
  λh=>⟨⟨o.dst,.XA,[],[]⟩,h,rfl,λ_ _=>rfl⟩
 simp only at h
 split at h
 ·rename_i hg
  obtain⟨u,h1,h2,h3⟩:=dC h
  refine⟨u,h1,h2,fun σ' hT hA K'=> ?_⟩
  unfold uw
  rw[e0]
  simp only
  rw[hg]
  exact h3 σ' hT hA K'
 ·rename_i j want hg
  split at h
  ·cases h
  ·rename_i t ht
   have Vy:t∈names ops o:=by
    unfold names
    refine dz _ ?_
    rw[hg]
    simp[ht]
   split at h
   ·rename_i b hb
    have qC: ∀σ':St,σ'.T t=σ.T t→σ'.put t (.val .bool b)=σ':=fun σ' h'=>by
     rw[←hb,←h'];exact GN σ' t
    cases want<;>cases b
    ·obtain⟨u,h1,h2,h3⟩:=dC (by
      have:=qC σ rfl
      rw[this]at h;exact h)
     refine⟨u,h1,h2,fun σ' hT hA K'=> ?_⟩
     unfold uw
     rw[e0];simp only;rw[hg];simp only;rw[ht];simp only;rw[hT t Vy,hb];simp only
     rw[qC σ' (hT t Vy)]
     exact h3 σ' hT hA K'
    ·obtain⟨u,h1,h2,h3⟩:=tq (by
      have:=qC σ rfl
      rw[this]at h;exact h)
     refine⟨u,h1,h2,fun σ' hT hA K'=> ?_⟩
     unfold uw
     rw[e0];simp only;rw[hg];simp only;rw[ht];simp only;rw[hT t Vy,hb];simp only
     rw[qC σ' (hT t Vy)]
     exact h3 σ' K'
    ·obtain⟨u,h1,h2,h3⟩:=tq (by
      have:=qC σ rfl
      rw[this]at h;exact h)
     refine⟨u,h1,h2,fun σ' hT hA K'=> ?_⟩
     unfold uw
     rw[e0];simp only;rw[hg];simp only;rw[ht];simp only;rw[hT t Vy,hb];simp only
     rw[qC σ' (hT t Vy)]
     exact h3 σ' K'
    ·obtain⟨u,h1,h2,h3⟩:=dC (by
      have:=qC σ rfl
      rw[this]at h;exact h)
     refine⟨u,h1,h2,fun σ' hT hA K'=> ?_⟩
     unfold uw
     rw[e0];simp only;rw[hg];simp only;rw[ht];simp only;rw[hT t Vy,hb];simp only
     rw[qC σ' (hT t Vy)]
     exact h3 σ' hT hA K'
   ·rename_i hb
    obtain⟨u,h1,h2,h3⟩:=tq h
    refine⟨u,h1,h2,fun σ' hT hA K'=> ?_⟩
    unfold uw
    rw[e0];simp only;rw[hg];simp only;rw[ht];simp only;rw[hT t Vy,hb]
    exact h3 σ' K'
   ·cases h
theorem TS{ops:List Oper}: ∀(l:List Oper) (i:Nat) (σ:St) (lg:Log) (K:St→Log→Option α),U1 E ops l i σ lg K=some r→
  ∃us:List Out,us.length=l.length∧(∀j u o,us[j]? =some u→l[j]? =some o→Pt E ops o ((us.take j).foldl (fun σ u=>u.app σ) σ) u α)∧
   ∃lg',K (us.foldl (fun σ u=>u.app σ) σ) lg'=some r∧(∀x∈lg,x∈lg')∧ ∀j u,us[j]? =some u→(i+j,u.rd,u.ups.map (·.1))∈lg'
 |[],i,σ,lg,K,h=>⟨[],rfl,λj u o hj=>by simp at hj,lg,h,λ_ h=>h,λj u hj=>by simp at hj⟩
 |o::l,i,σ,lg,K,h=>by
  unfold U1 at h
  obtain⟨u,h1,h2⟩:=Ym h
  obtain⟨us,hl,hpt,lg',hK,hlg,hj⟩:=TS l (i+1) (u.app σ) _ K h1
  refine⟨u::us,by simp[hl],λj u' o' hu ho=> ?_,lg',hK,λx hx=>hlg x (aZ _ hx),λj u' hu=> ?_⟩
  ·cases j with
   |zero=>simp at hu ho;subst hu ho;exact h2
   |succ j=>exact hpt j u' o' (by simpa using hu) (by simpa using ho)
  ·cases j with
   |zero=>simp at hu;subst hu;exact hlg _ bs
   |succ j=>
    have:=hj j u' (by simpa using hu)
    rwa [show i+1+j=i+(j+1)from by omega]at this
theorem Vz{k:Nat}{ups:jr}(h:k∈keys ups)(H H':Nat→Option bp):cP H ups k=cP H' ups k:=by
 induction ups generalizing H H' with
 |nil=>simp[keys]at h
 |cons u r ih=>
  show cP (ca H u.1 u.2) r k=cP (ca H' u.1 u.2) r k
  by_cases hk:k∈keys r
  ·exact ih hk _ _
  ·have hku:k=u.1:=by
    simp only[keys,bQ,a8]at h hk
    exact h.resolve_right hk
   rw[mE hk,mE hk,hku,ay,ay]
structure pP(us:List Out)(σ0:St)(S:Nat→Prop)(σ:St):Prop where
 T: ∀t,(∃j u,us[j]? =some u∧S j∧u.dst=some t∧(∀j' u',us[j']? =some u'→S j'→u'.dst=some t→j'≤j)∧σ.T t=u.v)∨((∀j u,us[j]? =some u→S j→u.dst≠some t)∧σ.T t=σ0.T t)
 H: ∀k,(∃j u,us[j]? =some u∧S j∧k∈keys u.ups∧(∀j' u',us[j']? =some u'→S j'→k∈keys u'.ups→j'≤j)∧σ.H k=cP σ0.H u.ups k)∨((∀j u,us[j]? =some u→S j→k∉keys u.ups)∧σ.H k=σ0.H k)
theorem pP.Yn{us:List Out}{σ0 σ σ':St}{S S':Nat→Prop}(h:pP us σ0 S σ)(h':pP us σ0 S' σ'){t:Nat}(hs: ∀j u,us[j]? =some u→u.dst=some t→(S j↔S' j)):σ.T t=σ'.T t:=by
 rcases h.T t with⟨j,u,h1,h2,h3,h4,h5⟩|⟨h1,h2⟩<;>rcases h'.T t with⟨j',u',qM,zm,RZ,h4',h5'⟩|⟨qM,zm⟩
 ·have e1:=h4 j' u' qM ((hs j' u' qM RZ).2 zm) RZ
  have e2:=h4' j u h1 ((hs j u h1 h3).1 h2) h3
  have:j=j':=ω
  subst this
  rw[h1]at qM;cases qM
  rw[h5,h5']
 ·exact absurd h3 (qM j u h1 ((hs j u h1 h3).1 h2))
 ·exact absurd RZ (h1 j' u' qM ((hs j' u' qM RZ).2 zm))
 ·rw[h2,zm]
theorem pP.Yo{us:List Out}{σ0 σ σ':St}{S S':Nat→Prop}(h:pP us σ0 S σ)(h':pP us σ0 S' σ'){k:Nat}(hs: ∀j u,us[j]? =some u→k∈keys u.ups→(S j↔S' j)):σ.H k=σ'.H k:=by
 rcases h.H k with⟨j,u,h1,h2,h3,h4,h5⟩|⟨h1,h2⟩<;>rcases h'.H k with⟨j',u',qM,zm,RZ,h4',h5'⟩|⟨qM,zm⟩
 ·have e1:=h4 j' u' qM ((hs j' u' qM RZ).2 zm) RZ
  have e2:=h4' j u h1 ((hs j u h1 h3).1 h2) h3
  have:j=j':=ω
  subst this
  rw[h1]at qM;cases qM
  rw[h5,h5']
 ·exact absurd h3 (qM j u h1 ((hs j u h1 h3).1 h2))
 ·exact absurd RZ (h1 j' u' qM ((hs j' u' qM RZ).2 zm))
 ·rw[h2,zm]
theorem pP.unique{us:List Out}{σ0 σ σ':St}{S S':Nat→Prop}(h:pP us σ0 S σ)(h':pP us σ0 S' σ')(hs: ∀j u,us[j]? =some u→(S j↔S' j)):σ=σ':=by
 obtain⟨T,H⟩:=σ
 obtain⟨T',H'⟩:=σ'
 congr 1
 ·funext t;exact h.Yn h' (λj u hj _=>hs j u hj)
 ·funext k;exact h.Yo h' (λj u hj _=>hs j u hj)
theorem pP.step{us:List Out}{σ0 σ:St}{S:Nat→Prop}(h:pP us σ0 S σ){i:Nat}{u:Out}(hi:us[i]? =some u)(hc: ∀j u',us[j]? =some u'→S j→i<j→(∀t,u.dst=some t→u'.dst≠some t)∧ ∀k∈keys u.ups,k∉keys u'.ups):
  pP us σ0 (λj=>j=i∨S j) (u.app σ):=by
 refine⟨λt=> ?_,λk=> ?_⟩
 ·by_cases hd:u.dst=some t
  ·left
   refine⟨i,u,hi,.inl rfl,hd,λj' u' h1 h2 h3=> ?_,RY hd σ⟩
   rcases h2 with rfl|h2
   ·exact aH _
   ·exact Nat.le_of_not_lt λeT=>(hc j' u' h1 h2 eT).1 t hd h3
  ·rw[Yl hd]
   rcases h.T t with⟨j,u1,h1,h2,h3,h4,h5⟩|⟨h1,h2⟩
   ·refine .inl ⟨j,u1,h1,.inr h2,h3,λj' u' qM zm RZ=> ?_,h5⟩
    rcases zm with rfl|zm
    ·rw[hi]at qM;cases qM;exact absurd RZ hd
    ·exact h4 j' u' qM zm RZ
   ·refine .inr ⟨λj u' qM zm=> ?_,h2⟩
    rcases zm with rfl|zm
    ·rw[hi]at qM;cases qM;exact hd
    ·exact h1 j u' qM zm
 ·rw[ape]
  by_cases hd:k∈keys u.ups
  ·left
   refine⟨i,u,hi,.inl rfl,hd,λj' u' h1 h2 h3=> ?_,Vz hd _ _⟩
   rcases h2 with rfl|h2
   ·exact aH _
   ·exact Nat.le_of_not_lt λeT=>(hc j' u' h1 h2 eT).2 k hd h3
  ·rw[mE hd]
   rcases h.H k with⟨j,u1,h1,h2,h3,h4,h5⟩|⟨h1,h2⟩
   ·refine .inl ⟨j,u1,h1,.inr h2,h3,λj' u' qM zm RZ=> ?_,h5⟩
    rcases zm with rfl|zm
    ·rw[hi]at qM;cases qM;exact absurd RZ hd
    ·exact h4 j' u' qM zm RZ
   ·refine .inr ⟨λj u' qM zm=> ?_,h2⟩
    rcases zm with rfl|zm
    ·rw[hi]at qM;cases qM;exact hd
    ·exact h1 j u' qM zm
theorem pP.start(us:List Out)(σ0:St):pP us σ0 (λ_=>False) σ0:=⟨λt=> .inr ⟨λ_ _ _ h=>h.elim,rfl⟩,λk=> .inr ⟨λ_ _ _ h=>h.elim,rfl⟩⟩
theorem pP.congr{us:List Out}{σ0 σ:St}{S S':Nat→Prop}(h:pP us σ0 S σ)(hs: ∀j,S j↔S' j):pP us σ0 S' σ:=by
 have:S=S':=funext λj=>propext (hs j)
 rw[←this];exact h
theorem pP.text(us:List Out)(σ0:St): ∀i,i≤us.length→pP us σ0 (λj=>j<i) ((us.take i).foldl (fun σ u=>u.app σ) σ0)
 |0,_=>(pP.start us σ0).congr λj=>by simp
 |i+1,hi=>by
  have ih:=pP.text us σ0 i ω
  have hu:us[i]? =some us[i]:=bm ω
  have:=ih.step hu (λj u' _ h2 h3=>ω)
  rw[List.take_add_one,hu,List.foldl_append]
  exact this.congr λj=>by constructor<;>intro h<;>omega
def Pre(S:Nat→Prop)(o:Oper):Prop:= ∀e∈o.after,Region.binds .any e=true→S e.on
theorem GV{β:Type}{l m:List β}{i:Nat}{d:β}(h:i<l.length):(l++m).getD i d=l.getD i d:=by
 simp only[γ,tc h]
theorem GW{β:Type}{l:List β}{x d:β}:(l++[x]).getD l.length d=x:=by
 simp[γ]
theorem DP{acc:List Nat}{i:Nat}: ∀(es:List Edge) (s:Nat),(es.foldl (λs e=>cond (Region.binds .any e) (s|||2^e.on|||acc.getD e.on 0) s) s).testBit i=true→
  s.testBit i=true∨ ∃e∈es,Region.binds .any e=true∧(i=e.on∨(acc.getD e.on 0).testBit i=true)
 |[],s,h=> .inl h
 |e::es,s,h=>by
  rw[List.foldl_cons]at h
  rcases DP es _ h with h1|⟨e',h1,h2⟩
  ·cases hb:Region.binds .any e
   ·rw[hb]at h1;exact .inl h1
   ·rw[hb]at h1
    simp only[ak,Nat.testBit_or,nS]at h1
    rcases h1 with(h1|h1)|h1
    ·exact .inl h1
    ·refine .inr ⟨e,bs,hb,.inl ?_⟩
     rw[Nat.testBit_two_pow]at h1
     simpa using (bt h1).symm
    ·exact .inr ⟨e,bs,hb,.inr h1⟩
  ·exact .inr ⟨e',aZ _ h1,h2⟩
theorem DQ{S:Nat→Prop}: ∀(l:List Oper) (acc:List Nat) (all:List Oper),all.length=acc.length+l.length→(∀j,l[j]? =all[acc.length+j]?)→
  (∀j o,all[j]? =some o→S j→Pre S o)→(∀j i,j<acc.length→S j→(acc.getD j 0).testBit i=true→S i)→
  ∀j o i,all[j]? =some o→(Pre S o∨S j)→((tR l acc).getD j 0).testBit i=true→(j<acc.length→ ∀i,Pre S o→(acc.getD j 0).testBit i=true→S i)→S i
 |[],acc,all,hl,iv,hS,ab8,j,o,i,hj,Ot,hb,Yp=>by
  have eT:j<all.length:=(u2.1 hj).1
  have xn:j<acc.length:=by simp at hl;omega
  rcases Ot with hp|hp
  ·exact Yp xn i hp hb
  ·exact ab8 j i xn hp hb
 |p::l,acc,all,hl,iv,hS,ab8,j,o,i,hj,Ot,hb,Yp=>by
  unfold tR at hb
  have hp0:all[acc.length]? =some p:=by rw[←mA acc.length,←iv 0];rfl
  have ab9: ∀i,Pre S p→(p.after.toList.foldl (λs e=>cond (Region.binds .any e) (s|||2^e.on|||acc.getD e.on 0) s) 0).testBit i=true→S i:=by
   intro i I2 hb
   rcases DP p.after.toList 0 hb with h1|⟨e,he,hbe,h1⟩
   ·simp at h1
   ·have hSe:=I2 e (by simpa using he) hbe
    rcases h1 with rfl|h1
    ·exact hSe
    ·by_cases eT:e.on<acc.length
     ·exact ab8 e.on i eT hSe h1
     ·rw[γ,ig ω]at h1;simp at h1
  refine DQ l (acc++[p.after.toList.foldl (λs e=>cond (Region.binds .any e) (s|||2^e.on|||acc.getD e.on 0) s) 0]) all (by simp at hl ⊢;omega) (λj=> ?_) hS (λj' i' Xn hS' fa=> ?_) j o i hj Ot hb (λeT i' Rx fa=> ?_)
  ·have:=iv (j+1)
   simp only[List.getElem?_cons_succ]at this
   rw[this]
   congr 1
   simp;omega
  ·by_cases eT:j'<acc.length
   ·rw[GV eT]at fa
    exact ab8 j' i' eT hS' fa
   ·have hje:j'=acc.length:=by simp at Xn;omega
    subst hje
    rw[GW]at fa
    exact ab9 i' (hS _ p hp0 hS') fa
  ·by_cases xn:j<acc.length
   ·rw[GV xn]at fa
    exact Yp xn i' Rx fa
   ·have hje:j=acc.length:=by simp at eT;omega
    subst hje
    rw[hp0]at hj;cases hj
    rw[GW]at fa
    exact ab9 i' Rx fa
theorem forced{ops:List Oper}{S:Nat→Prop}(hS: ∀j o,ops[j]? =some o→S j→Pre S o){j i:Nat}(hj:ops[j]? =some o)(Ot:Pre S o∨S j)(hb:((tR ops []).getD j 0).testBit i=true):S i:=
 DQ ops [] ops (by simp) (λj=>by simp) hS (λj i h=>by simp at h) j o i hj Ot hb (λh=>by simp at h)
theorem nq{l m:List Nat}(h:meets l m=false){x:Nat}(h1:x∈l)(h2:x∈m):False:=by
 have:meets l m=true:=by
  unfold meets
  rw[AA]
  refine⟨x,h1,?_⟩
  rw[AA]
  exact⟨x,h2,pJ x⟩
 rw[h]at this;cases this
structure Rnd(c:Ctx)(E:Env)(ops:Array Oper)(us:List Out)(σ0:St)(listed:Array Bool)(a:Act)(w:World):Prop where
 size:listed.size=ops.size
 closed: ∀j o,ops.toList[j]? =some o→listed.getD j false=true→Pre (λi=>listed.getD i false=true) o
 st: ∃σ,pP us σ0 (λj=>listed.getD j false=true) σ∧Inv c E σ a w
theorem zI{listed:Array Bool}{j:Nat}(h:j<listed.size)(d:Bool):listed.getD j d=listed.getD j false:=by
 simp[Array.getD,h]
theorem LO(hE:tp P E){ops:Array Oper}{us:List Out}{σ0 σn:St}{α:Type}(x0:α)(hl:us.length=ops.toList.length)
  (hpt: ∀(j:Nat) (u:Out) (o:Oper),us[j]? =some u→ops.toList[j]? =some o→Pt E ops.toList o ((us.take j).foldl (fun σ u=>u.app σ) σ0) u α)
  (hn:σn=us.foldl (fun σ u=>u.app σ) σ0)
  (eT: ∀(j:Nat) (o:Oper),ops.toList[j]? =some o→ ∀e∈o.after,Region.binds .any e=true→e.on<j)
  (Ou: ∀(j:Nat) (o:Oper) (i:Nat) (p:Oper),ops.toList[j]? =some o→ops.toList[i]? =some p→i<j→((tR ops.toList []).getD j 0).testBit i=false→
   (∀d,p.dst=some d→o.dst≠some d∧d∉names ops.toList o)∧(∀d,o.dst=some d→d∉names ops.toList p))
  (hlg: ∀(j:Nat) (u:Out) (i:Nat) (v:Out),us[j]? =some u→us[i]? =some v→i<j→((tR ops.toList []).getD j 0).testBit i=false→
   (∀k∈keys v.ups,k∉u.rd∧k∉keys u.ups)∧(∀k∈v.rd,k∉keys u.ups))
  (hq: ∀a' w',Inv c E σn a' w'→Q .normal a' w'):
  ∀(fuel:Nat) (listed:Array Bool) (a:Act) (w:World),((List.range ops.size).filter λj=> !(listed.getD j false)).length≤fuel→Rnd c E ops us σ0 listed a w→wpAny P .any ops Q fuel listed a w:=by
 have iv: ∀(listed:Array Bool) (a:Act) (w:World),Rnd c E ops us σ0 listed a w→Region.ready .any ops listed=[]→Q .normal a w:=by
  intro listed a w hR akl
  obtain⟨hs,Fo,σ,xh,hI⟩:=hR
  have aph: ∀j,j<ops.size→listed.getD j false=true:=by
   intro j
   induction j using Nat.strongRecOn with
   |_ j ih=>
    intro hj
    by_cases hb:listed.getD j false=true
    ·exact hb
    ·exfalso
     have ho:ops[j]? =some ops[j]:=Nu hj
     have:j∈Region.ready .any ops listed:=by
      rw[mem_ready]
      refine⟨by rw[zI ω];simpa using hb,_,ho,λe he hbe=> ?_⟩
      have hej:=eT j ops[j] (by rw[iA];exact ho) e he hbe
      exact ih e.on hej ω
     rw[akl]at this
     cases this
  have hσ:σ=σn:=by
   rw[hn]
   have ht:=pP.text us σ0 us.length (aH _)
   rw[gN]at ht
   refine xh.unique ht λj u hj=> ?_
   have AY:j<us.length:=(u2.1 hj).1
   have hjo:j<ops.size:=by rw[hl,bn]at AY;exact AY
   exact⟨λ_=>AY,λ_=>aph j hjo⟩
  exact hq a w (hσ▸hI)
 intro fuel
 induction fuel with
 |zero=>
  intro listed a w hf hR
  have Vl:Region.ready .any ops listed=[]:=by
   rw[List.eq_nil_iff_forall_not_mem]
   intro j hj
   rw[mem_ready]at hj
   obtain⟨h0,o,ho,_⟩:=hj
   have hjs:j<ops.size:=(lJ.1 ho).1
   have AY:j<listed.size:=by rw[hR.size];exact hjs
   rw[zI AY]at h0
   have lf:j∈(List.range ops.size).filter λj=> !(listed.getD j false):=by
    rw[rG];exact⟨rJ.2 hjs,by rw[h0];rfl⟩
   have:((List.range ops.size).filter λj=> !(listed.getD j false))=[]:=uZ ω
   rw[this]at lf;cases lf
  exact⟨Vl,iv listed a w hR Vl⟩
 |succ fuel ih=>
  intro listed a w hf hR
  refine⟨iv listed a w hR,λi hi=> ?_⟩
  have nV:=hi
  rw[mem_ready]at nV
  obtain⟨h0,o,ho,Ot⟩:=nV
  have his:i<ops.size:=(lJ.1 ho).1
  have Fm:i<listed.size:=by rw[hR.size];exact his
  rw[zI Fm]at h0
  obtain⟨hs,Fo,σ,xh,hI⟩:=hR
  have Cg:ops.toList[i]? =some o:=by rw[iA];exact ho
  have hiu:i<us.length:=by rw[hl,bn];exact his
  have hu:us[i]? =some us[i]:=bm hiu
  have hPt:=hpt i us[i] o hu Cg
  have hSi: ¬listed.getD i false=true:=by rw[h0];simp
  have Ov: ∀j p,ops.toList[j]? =some p→((j<i∧ ¬listed.getD j false=true)→((tR ops.toList []).getD i 0).testBit j=false)∧((i<j∧listed.getD j false=true)→((tR ops.toList []).getD j 0).testBit i=false):=by
   intro j p hj
   refine⟨λ⟨_,h2⟩=> ?_,λ⟨_,h2⟩=> ?_⟩
   ·rw[←nN]
    intro hb
    exact h2 (forced Fo Cg (.inl Ot) hb)
   ·rw[←nN]
    intro hb
    exact hSi (forced Fo hj (.inr h2) hb)
  have Yq: ∀(j:Nat) (u:Out),us[j]? =some u→ ∃p:Oper,ops.toList[j]? =some p∧u.dst=p.dst:=by
   intro j u hj
   have AY:j<us.length:=(u2.1 hj).1
   have hp:ops.toList[j]? =some ops.toList[j]:=bm ω
   exact⟨_,hp,(hpt j u _ hj hp).1⟩
  have aiv:=pP.text us σ0 i ω
  have hT: ∀t∈names ops.toList o,σ.T t=((us.take i).foldl (fun σ u=>u.app σ) σ0).T t:=by
   intro t ht
   refine xh.Yn aiv λj u hj hd=> ?_
   obtain⟨p,hp,hpd⟩:=Yq j u hj
   have hpd:p.dst=some t:=by rw[←hpd,hd]
   constructor
   ·intro Ow
    refine Nat.lt_of_not_le λhle=> ?_
    rcases Nat.lt_or_eq_of_le hle with xn|heq
    ·exact(Ou j p i o hp Cg xn ((Ov j p hp).2 ⟨xn,Ow⟩)).2 t hpd ht
    ·subst heq;exact hSi Ow
   ·intro zJ
    by_cases Ow:listed.getD j false=true
    ·exact Ow
    ·exact absurd ht ((Ou i o j p Cg hp zJ ((Ov j p hp).1 ⟨zJ,Ow⟩)).1 t hpd).2
  have hH:Ag us[i].rd ((us.take i).foldl (fun σ u=>u.app σ) σ0).H σ.H:=by
   intro k hk
   refine xh.Yo aiv λj u hj hd=> ?_
   obtain⟨p,hp,hpd⟩:=Yq j u hj
   constructor
   ·intro Ow
    refine Nat.lt_of_not_le λhle=> ?_
    rcases Nat.lt_or_eq_of_le hle with xn|heq
    ·exact(hlg j u i us[i] hj hu xn ((Ov j p hp).2 ⟨xn,Ow⟩)).2 k hk hd
    ·subst heq;exact hSi Ow
   ·intro zJ
    by_cases Ow:listed.getD j false=true
    ·exact Ow
    ·exact absurd hk ((hlg i us[i] j u hu hj zJ ((Ov j p hp).1 ⟨zJ,Ow⟩)).1 k hd).1
  have api:=hPt.2 σ hT hH
  have hIs:pP us σ0 (λj=>j=i∨listed.getD j false=true) (us[i].app σ):=by
   refine xh.step hu λj u hj Ow qh=> ?_
   obtain⟨p,hp,hpd⟩:=Yq j u hj
   have EO:=(Ov j p hp).2 ⟨qh,Ow⟩
   obtain⟨h1,h2⟩:=Ou j p i o hp Cg qh EO
   obtain⟨h3,h4⟩:=hlg j u i us[i] hj hu qh EO
   refine⟨λt ht=> ?_,λk hk=>(h3 k hk).2⟩
   rw[hpd]
   exact(h1 t (by rw[←hPt.1];exact ht)).1
  have Be: ∀j,(listed.setIfInBounds i true).getD j false=true↔(j=i∨listed.getD j false=true):=by
   intro j
   by_cases zJ:j=i
   ·subst zJ
    constructor
    ·intro _;exact .inl rfl
    ·intro _;simp[Fm]
   ·rw[getD_set_ne false (fh zJ)]
    exact⟨.inr,λh=>h.resolve_left zJ⟩
  classical
  let K':St→List Nat→List Nat→Option α:=fun σ' _ _=>if σ'=us[i].app σ then some x0 else none
  have hK:uw E ops.toList o σ K'=some x0:=by rw[api K'];simp[K']
  have:=DO (Q:=Q) (next:=wpAny P .any ops Q fuel (listed.setIfInBounds i true)) hE hI hK (fun σ' a' w' rd wr hσ' zj=>by
   have hσ'':σ'=us[i].app σ:=by
    by_cases h:σ'=us[i].app σ
    ·exact h
    ·simp[K',h]at hσ'
   subst hσ''
   refine ih _ a' w' ?_ ⟨by simpa using hs,λj p hp Ow e he hb=> ?_,_,hIs.congr (λj=>(Be j).symm),zj⟩
   ·have hlen:((List.range ops.size).filter λj=> !((listed.setIfInBounds i true).getD j false)).length<((List.range ops.size).filter λj=> !(listed.getD j false)).length:=by
     have Vm:((List.range ops.size).filter λj=> !((listed.setIfInBounds i true).getD j false))=((List.range ops.size).filter λj=> !(listed.getD j false)).filter λj=> !(Nat.beq j i):=by
      rw[List.filter_filter]
      apply List.filter_congr
      intro j _
      by_cases zJ:j=i
      ·subst zJ
       have h1:=(Be j).2 (.inl rfl)
       rw[h1];simp
      ·have h1:Nat.beq j i=false:=by rw[←nN,w1];exact zJ
       rw[h1,getD_set_ne false (fh zJ)];simp
     rw[Vm]
     refine List.length_filter_lt_length_iff_exists.2 ⟨i,?_,by simp⟩
     rw[rG];exact⟨rJ.2 his,by rw[h0];rfl⟩
    omega
   ·rcases(Be j).1 Ow with rfl|Ow
    ·rw[Cg]at hp;cases hp
     exact(Be _).2 (.inr (Ot e he hb))
    ·exact(Be _).2 (.inr (Fo j p hp Ow e he hb)))
  unfold wpOp
  rw[ho]
  simp only
  split
  ·rename_i hw;rw[aj hw]at this;exact .inl this
  ·rename_i hw;rw[ah hw]at this;exact this
theorem Jw(hE:tp P E){id:Nat}{ops:Array Oper}{draw:Bool}(hI:Inv c E σ a w){K:St→Option α}(h:Fi E ops draw σ K=some r)
  (hn: ∀σ' a' w',K σ'=some r→Inv c E σ' a' w'→Q .normal a' w'):(Code.region id ops draw).wp P Q a w:=by
 cases draw
 ·refine wp_region_list (GO hE ops.toList 0 σ [] a w _ hI h fun σ' lg' a' w' h' zj=> ?_)
  exact hn σ' a' w' (cz h').2 zj
 ·unfold Fi at h
  obtain⟨us,hl,hpt,lg,hK,_,apj⟩:=TS _ _ _ _ _ h
  obtain⟨hok,hK⟩:=cz hK
  simp only[bl,rK,bM]at hok
  obtain⟨Ou,hlg⟩:=hok
  unfold XB at Ou
  simp only[bM,kz]at Ou
  obtain⟨avm,avn⟩:=Ou
  have hz: ∀j o,ops.toList[j]? =some o→(o,j)∈ops.toList.zipIdx:=λj o hj=>List.mem_zipIdx_iff_getElem?.2 hj
  refine wp_region_any hE.mixed (LO (Q:=Q) (σ0:=σ) hE r hl hpt rfl (λj o hj e he hbe=> ?_) (λj o i p hj hi qh hb=> ?_) (λj u i v hj hi qh hb=> ?_) (λa' w' zj=>hn _ a' w' hK zj) ops.size (Array.replicate ops.size false) a _ ?_ ?_)
  ·have:=avm (o,j) (hz j o hj) e (by simpa using he)
   rw[hbe]at this
   simpa [AK]using this
  ·have:=avn (o,j) (hz j o hj) (p,i) (hz i p hi)
   simp only[hb,rL,nS,rE,Bool.or_eq_false_iff]at this
   have Jl: ¬Nat.ble j i=true:=by rw[AL];omega
   have this:=this.resolve_left Jl
   refine⟨λd hd=>⟨λhd'=> ?_,λhd'=> ?_⟩,λd hd hd'=> ?_⟩
   ·exact nq this.1 (x:=d) (by simp[hd]) (by simp[hd'])
   ·exact nq this.1 (x:=d) (by simp[hd]) (by simp[hd'])
   ·exact nq this.2 (x:=d) (by simp[hd]) hd'
  ·unfold aie at hlg
   simp only[kz]at hlg
   have Xn:=apj j u hj
   have nV:=apj i v hi
   rw[gn]at Xn nV
   have:=hlg _ Xn _ nV
   simp only[hb,rL,nS,rE,Bool.or_eq_false_iff]at this
   have Jl: ¬Nat.ble j i=true:=by rw[AL];omega
   have this:=this.resolve_left Jl
   refine⟨λk hk=>⟨λA3=> ?_,λA3=> ?_⟩,λk hk A3=> ?_⟩
   ·exact nq this.1 (x:=k) hk (cU _ A3)
   ·exact nq this.1 (x:=k) hk (dz _ A3)
   ·exact nq this.2 (x:=k) hk A3
  ·refine ct (NG _ _) ?_
   rw[wT];exact aH _
  ·have hf: ∀j,(Array.replicate ops.size false).getD j false=false:=by
    intro j
    rw[tb,Array.getElem?_replicate]
    split<;>rfl
   obtain⟨⟨M,ν,hc⟩,hs,hd,xt⟩:=hI
   refine⟨by simp,λj o _ hS=>(by rw[hf]at hS;cases hS),σ,(pP.start us σ).congr (λj=>(by rw[hf];simp)),⟨M,ν,?_⟩,hs,hd,xt⟩
   exact hc.tr (Tr.drew hc.mem)
theorem DR{L:Option (List (Nat×CM))}(hL: ∀L',L=some L'→kW L'=true){b:Code}{Q:Exit→Act→World→Prop}{step:St→(St→Option α)→Option α}
  (hs: ∀σ a w kn (Q':Exit→Act→World→Prop),Inv c E σ a w→step σ kn=some r→(∀σ' a' w',kn σ'=some r→Inv c E σ' a' w'→Q' .normal a' w')→(∀e a' w',e≠ .normal→Q e a' w'→Q' e a' w')→b.wp P Q' a w):
  ∀n σ a w,Inv c E σ a w→DB L step n σ=some r→Code.rounds P b Q n a w
 |0,σ,a,w,_,h=>by cases h
 |n+1,σ,a,w,hI,h=>by
  rw[rounds_succ]
  refine hs σ a w _ _ hI h (fun σ' a' w' h' zj=> ?_) (λe a' w' he hq=> ?_)
  ·obtain⟨σ'',LH,akn⟩:=zG zj hL h'
   exact DR hL hs n σ'' a' w' akn LH
  ·cases e<;>first|exact hq|exact absurd rfl he
theorem VA(hE:tp P E): ∀(cd:Code) (σ:St) (a:Act) (w:World) (k:St→Option α) (kx:Nat→St→Option α) (kr:St→Option α) (Q:Exit→Act→World→Prop),Inv c E σ a w→Fj E cd σ k kx kr=some r→
  (∀σ' a' w',k σ'=some r→Inv c E σ' a' w'→Q .normal a' w')→(∀i σ' a' w',kx i σ'=some r→Inv c E σ' a' w'→Q (.exit i) a' w')→(∀σ' a' w',kr σ'=some r→Inv c E σ' a' w'→Q .ret a' w')→cd.wp P Q a w:=by
 intro cd
 induction cd with
 |skip=>intro σ a w k kx kr Q hI h hk _ _;exact wp_skip (hk σ a w h hI)
 |region id ops draw=>intro σ a w k kx kr Q hI h hk _ _;exact Jw hE hI h hk
 |seq x y ihx ihy=>
  intro σ a w k kx kr Q hI h hk hx hr
  refine wp_seq (ihx σ a w _ kx kr _ hI h (fun σ' a' w' h' zj=> ?_) hx hr)
  obtain⟨σ'',LH,akn⟩:=zG zj (λL' hL=>by
   cases hf:c6 y with
   |none=>rw[hf]at hL;cases hL
   |some i=>rw[hf]at hL;exact hE.X3 i L' hL) h'
  exact ihy σ'' a' w' k kx kr Q akn LH hk hx hr
 |cond x t e iht ihe=>
  intro σ a w k kx kr Q hI h hk hx hr
  obtain⟨b,hb,h⟩:=Oi (E:=E) (A:=fun σ'=>Fj E t σ' k kx kr) (B:=fun σ'=>Fj E e σ' k kx kr) hI h
  refine wp_cond hb ?_
  cases b
  ·exact ihe σ a w k kx kr Q hI h hk hx hr
  ·exact iht σ a w k kx kr Q hI h hk hx hr
 |block id x ih=>
  intro σ a w k kx kr Q hI h hk hx hr
  refine wp_block (ih σ a w k _ kr _ hI h hk (λi σ' a' w' h' zj=> ?_) hr)
  show if i=id then Q .normal a' w' else Q (.exit i) a' w'
  cases hb:Nat.beq i id
  ·have ko:i≠id:=λe=>by subst e;rw[show Nat.beq i i=true from pJ i]at hb;cases hb
   rw[hb]at h'
   rw[ah ko]
   exact hx i σ' a' w' h' zj
  ·rw[hb]at h'
   rw[aj (fF hb)]
   exact hk σ' a' w' h' zj
 |loop b ih=>
  intro σ a w k kx kr Q hI h hk hx hr
  have hL: ∀L',(c6 b).bind E.w4=some L'→kW L'=true:=λL' hL=>by
   cases hf:c6 b with
   |none=>rw[hf]at hL;cases hL
   |some i=>rw[hf]at hL;exact hE.kW i L' hL
  obtain⟨σ',h',zj⟩:=zG hI hL h
  refine wp_loop_rounds E.N (DR hL (fun σ a w kn Q' hI h hkn hq=> ?_) E.N σ' a w zj h')
  exact ih σ a w kn kx kr Q' hI h hkn (λi σ' a' w' h' zj=>hq _ _ _ (by simp) (hx i σ' a' w' h' zj)) (fun σ' a' w' h' zj=>hq _ _ _ (by simp) (hr σ' a' w' h' zj))
 |rangeFunc f ps x y ihx ihy=>intro σ a w k kx kr Q hI h;cases h
 |exit id=>intro σ a w k kx kr Q hI h hk hx hr;exact wp_exit (hx id σ a w h hI)
 |scope x ih=>
  intro σ a w k kx kr Q hI h hk hx hr
  exact wp_scope_straight (ih σ a w k kx kr _ hI h hk hx hr)
 |label l=>intro σ a w k kx kr Q hI h hk _ _;exact wp_label (hk σ a w h hI)
 |goto l=>intro σ a w k kx kr Q hI h;cases h
 |ret=>intro σ a w k kx kr Q hI h hk hx hr;exact wp_ret (hr σ a w h hI)
 |refuse s=>intro σ a w k kx kr Q hI h;cases h
end VM
end
