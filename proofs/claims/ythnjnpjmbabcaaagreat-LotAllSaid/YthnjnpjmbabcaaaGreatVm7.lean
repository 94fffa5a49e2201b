/- A part of the proof of LotAll of layer 23: a machine that reads a function of the program as an equation between values. -/
import Derived.Test.YthnjnpjmbabcaaaGreatVm6
set_option linter.all false
open List renaming getD→γ
section
namespace VM
open Go
variable{α:Type}{r:α}
theorem Cb{m:AM}{a:aF}{H:Nat→Option az}{k:m.den→(Nat→Option az)→List Nat→dR→dR→List (Nat×AM)→Option α}(h:iP m a H k=some r):
  ∃y rd uo uf io,∃g:(Nat→Option az)→(Nat→Option az),k y (g H) rd uo uf io=some r∧(∀H' i,H' i=H i→g H' i=g H i)∧
   ∀H',Ag rd H H'→ ∀k':m.den→(Nat→Option az)→List Nat→dR→dR→List (Nat×AM)→Option α,iP m a H' k'=k' y (g H') rd uo uf io:=by
 have Cc: ∀(d:Nat) (v:Option az) (H':Nat→Option az) (i:Nat),H' i=H i→aC H' d v i=aC H d v i:=by
  intro d v H' i hi
  by_cases hid:i=d
  ·subst hid;rw[ag,ag]
  ·rw[aj _ _ hid,aj _ _ hid,hi]
 unfold iP at h
 split at h
 ·rename_i τ k
  obtain⟨y,rd,ups,h1,h2⟩:=jo h
  cases ups with
  |nil=>
   refine⟨y,rd,[],[],[],λH=>H,h1,λ_ _ h=>h,λH' hA k'=> ?_⟩
   unfold iP;simp only;rw[h2 H' hA]
  |cons u rest=>
   refine⟨y,rd,[],u::rest,[],λH=>aC H u.1 u.2,h1,λH' i hi=>Cc _ _ H' i hi,λH' hA k'=> ?_⟩
   unfold iP;simp only;rw[h2 H' hA]
 ·rename_i e k
  split at h
  ·exact⟨[],[],[],[],[],λH=>H,h,λ_ _ h=>h,λ_ _ _=>rfl⟩
  ·rename_i id
   split at h
   ·rename_i e' l hid
    obtain⟨z,h1,h2⟩:=bR h
    refine⟨z,[id],_,_,_,λH=>aC H id (some .gone),h1,λH' i hi=>Cc _ _ H' i hi,λH' hA k'=> ?_⟩
    unfold iP;simp only;rw[hA id (by simp),hid];simp only;rw[h2]
   ·cases h
  ·cases h
 ·rename_i τ k
  split at h
  ·rename_i id
   split at h
   ·rename_i υ x hid
    obtain⟨z,h1,h2⟩:=bR h
    refine⟨z,[id],_,_,_,λH=>aC H id (some .gone),h1,λH' i hi=>Cc _ _ H' i hi,λH' hA k'=> ?_⟩
    unfold iP;simp only;rw[hA id (by simp),hid];simp only;rw[h2]
   ·cases h
  ·cases h
 ·rename_i f τ k
  split at h
  ·rename_i f' cs
   obtain⟨h1,h2⟩:=ch h
   obtain⟨x,rd,ups,h3,h4⟩:=Ca h1
   cases ups with
   |nil=>
    refine⟨x,rd,[],[],[],λH=>H,h3,λ_ _ h=>h,λH' hA k'=> ?_⟩
    unfold iP;simp only;rw[h2,h4 H' hA]
   |cons _ _=>cases h3
  ·cases h
 ·cases h
 ·rename_i τ k
  split at h
  ·obtain⟨z,h1,h2⟩:=bR h
   refine⟨z,[],[],[],[],λH=>H,h1,λ_ _ h=>h,λH' hA k'=> ?_⟩
   unfold iP;simp only;rw[h2]
  ·cases h
 ·rename_i e k
  split at h
  ·rename_i id
   split at h
   ·rename_i e' l hid
    obtain⟨z,h1,h2⟩:=bR h
    refine⟨z,[id],_,_,_,λH=>aC H id (some .gone),h1,λH' i hi=>Cc _ _ H' i hi,λH' hA k'=> ?_⟩
    unfold iP;simp only;rw[hA id (by simp),hid];simp only;rw[h2]
   ·cases h
  ·cases h
 ·cases h
theorem Cd: ∀{ms:List AM} {kv:List aF} {H:Nat→Option az} {zx:List Nat} {Tu Tv:dR} {Tw:List (Nat×AM)} {K:HP ms→List Nat→dR→dR→List (Nat×AM)→Option α},m4 ms kv H zx Tu Tv Tw K=some r→
  ∃x rd uo uf io,K x rd uo uf io=some r∧(∀i∈zx,i∈rd)∧ ∀H',Ag rd H H'→ ∀K':HP ms→List Nat→dR→dR→List (Nat×AM)→Option α,m4 ms kv H' zx Tu Tv Tw K'=K' x rd uo uf io
 |[],[],H,zx,Tu,Tv,Tw,K,h=>⟨(),_,_,_,_,h,λ_ h=>h,λ_ _ _=>rfl⟩
 |[m],[a],H,zx,Tu,Tv,Tw,K,h=>by
  obtain⟨y,rd,uo,uf,io,g,h1,h2,h3⟩:=Cb (h:iP m a H _=some r)
  exact⟨y,_,_,_,_,h1,λi hi=>bF _ hi,λH' hA K'=>h3 H' (λi hi=>hA i (bk _ hi)) _⟩
 |m::n::ms,a::kv,H,zx,Tu,Tv,Tw,K,h=>by
  obtain⟨y,rd,uo,uf,io,g,h1,h2,h3⟩:=Cb (h:iP m a H _=some r)
  obtain⟨ys,pU,A9,Ba,yD,h4,h5,h6⟩:=Cd (ms:=n::ms) h1
  refine⟨(y,ys),pU,A9,Ba,yD,h4,λi hi=>h5 i (bF _ hi),λH' hA K'=> ?_⟩
  refine(h3 H' (λi hi=>hA i (h5 i (bk _ hi))) _).trans ?_
  exact h6 (g H') (λi hi=>h2 H' i (hA i hi)) _
 |[],_::_,_,_,_,_,_,_,h=>by simp[m4]at h
 |[_],[],_,_,_,_,_,_,h=>by simp[m4]at h
 |[_],_::_::_,_,_,_,_,_,_,h=>by simp[m4]at h
 |_::_::_,[],_,_,_,_,_,_,h=>by simp[m4]at h
theorem II{id i:Nat}: ∀{n:Nat},i∈BJ id n↔id≤i∧i<id+n
 |0=>by simp[BJ]
 |n+1=>by simp only[BJ,bu,II];omega
theorem qH{H H':Nat→Option az}{id:Nat}: ∀{n:Nat},(∀i∈BJ id n,H' i=H i)→nE H' id n=nE H id n
 |0,_=>rfl
 |n+1,h=>by
  unfold nE
  rw[h (id+n) (by simp[BJ]),qH λi hi=>h i (by simp[BJ,hi])]
theorem IJ{E:Env}{f id:Nat}{kv:List aF}{H:Nat→Option az}{K:dp α}(h:ug E f kv id H K=some r): ∃v rd ups,K v rd ups=some r∧ ∀H',Ag rd H H'→ ∀K':dp α,ug E f kv id H' K'=K' v rd ups:=by
 unfold ug at h
 split at h
 ·cases h
 ·rename_i S hS
  obtain⟨x,rd,uo,uf,io,h1,_,h2⟩:=Cd h
  obtain⟨y,hy,h3⟩:=lY.1 h1
  obtain⟨h4,h5⟩:=aP h3
  refine⟨_,_,_,h5,λH' hA K'=> ?_⟩
  unfold ug
  rw[hS]
  simp only
  rw[h2 H' (λi hi=>hA i (bF _ (bF _ hi))),hy]
  simp only[al]
  rw[qH (λi hi=>hA i (bk _ hi)),h4]
  rfl
theorem Gv{t:Ty}{z:Bool}{a:aF}{lo hi mx:Option aF}{H:Nat→Option az}{K:dp α}(h:kZ t z a lo hi mx H K=some r): ∃v rd ups,K v rd ups=some r∧ ∀H',Ag rd H H'→ ∀K':dp α,kZ t z a lo hi mx H' K'=K' v rd ups:=by
 unfold kZ at h
 split at h
 ·obtain⟨h1,e1⟩:=ch h
  obtain⟨l,h2,e2⟩:=nP h1
  obtain⟨m,h3,e3⟩:=nP h2
  obtain⟨h4,e4⟩:=ch h3
  exact⟨_,_,_,h4,λH' _ K'=>by unfold kZ;simp only;rw[e1,e2,e3,e4]⟩
 ·cases z
  ·obtain⟨h1,e1⟩:=ch (h:cond mx.isNone _ none=some r)
   obtain⟨l,h2,e2⟩:=nP h1
   obtain⟨m,h3,e3⟩:=nP h2
   obtain⟨h4,e4⟩:=ch h3
   exact⟨_,_,_,h4,λH' _ K'=>by unfold kZ;simp only[ah];rw[e1,e2,e3,e4]⟩
  ·exact⟨_,_,_,h,λH' _ K'=>by unfold kZ;rfl⟩
 ·rename_i e eX
  obtain⟨y,rd,ups,h1,e1⟩:=jo h
  cases z
  ·obtain⟨h2,e2⟩:=ch (h1:cond (mx.isNone||hi.isSome) _ none=some r)
   obtain⟨l,h3,e3⟩:=nP h2
   obtain⟨m,h4,e4⟩:=nP h3
   obtain⟨n,h5,e5⟩:=nP h4
   obtain⟨h6,e6⟩:=ch h5
   refine⟨_,_,_,h6,λH' hA K'=> ?_⟩
   unfold kZ
   simp only
   rw[e1 H' hA]
   simp only[ah]
   rw[e2,e3,e4,e5,e6]
  ·refine⟨_,_,_,(h1:K .emp rd []=some r),λH' hA K'=> ?_⟩
   unfold kZ
   simp only
   rw[e1 H' hA]
   rfl
 ·cases h
theorem y3{τ:Ty}{a i:aF}{H:Nat→Option az}{K:dp α}(h:dy τ a i H K=some r): ∃v rd ups,K v rd ups=some r∧ ∀H',Ag rd H H'→ ∀K':dp α,dy τ a i H' K'=K' v rd ups:=by
 unfold dy at h
 obtain⟨k,n,h,e0⟩:=kD h
 split at h
 ·split at h
  ·obtain⟨z,h1,e1⟩:=bR h
   obtain⟨h2,e2⟩:=ch h1
   exact⟨_,_,_,h2,λH' _ K'=>by unfold dy;rw[e0];simp only;rw[e1,e2]⟩
  ·split at h
   ·rename_i hid
    obtain⟨h1,e1⟩:=dr h
    obtain⟨h2,e2⟩:=ch h1
    exact⟨_,_,_,h2,λH' hA K'=>by unfold dy;rw[e0];simp only;rw[hA _ (by simp),hid];simp only;rw[e1,e2]⟩
   ·rename_i hid
    obtain⟨h1,e1⟩:=dr h
    obtain⟨h2,e2⟩:=ch h1
    exact⟨_,_,_,h2,λH' hA K'=>by unfold dy;rw[e0];simp only;rw[hA _ (by simp),hid];simp only;rw[e1,e2]⟩
   ·cases h
  ·cases h
 ·split at h
  ·obtain⟨υ,h1,e1⟩:=p7 h
   obtain⟨h2,e2⟩:=dr h1
   obtain⟨h3,e3⟩:=ch h2
   exact⟨_,_,_,h3,λH' hA K'=>by unfold dy;rw[e0];simp only;rw[e1 H' (hA _ (by simp)),e2,e3]⟩
  ·obtain⟨z,h1,e1⟩:=bR h
   obtain⟨h2,e2⟩:=ch h1
   exact⟨_,_,_,h2,λH' _ K'=>by unfold dy;rw[e0];simp only;rw[e1,e2]⟩
  ·cases h
 ·cases h
theorem Gw{τ:Ty}{a i:aF}{K:aF→Option α}(h:ph τ a i K=some r): ∃v,K v=some r∧ ∀K':aF→Option α,ph τ a i K'=K' v:=by
 unfold ph at h
 obtain⟨k,n,h,e0⟩:=kD h
 split at h
 ·obtain⟨z,h1,e1⟩:=bR h
  obtain⟨h2,e2⟩:=ch h1
  exact⟨_,h2,λK'=>by unfold ph;rw[e0];simp only;rw[e1,e2]⟩
 ·obtain⟨h2,e2⟩:=ch h
  exact⟨_,h2,λK'=>by unfold ph;rw[e0];simp only;rw[e2]⟩
 ·cases h
theorem IK{a:aF}{H:Nat→Option az}{K:(υ:Ty)→υ.den→List Nat→Option α}(h:gb a H K=some r): ∃υ y rd,K υ y rd=some r∧ ∀H',Ag rd H H'→ ∀K':(υ:Ty)→υ.den→List Nat→Option α,gb a H' K'=K' υ y rd:=by
 unfold gb at h
 split at h
 ·exact⟨_,_,_,h,λ_ _ _=>rfl⟩
 ·split at h
  ·rename_i hid
   obtain⟨υ,y,h1,e1⟩:=dL h
   exact⟨_,_,_,h1,λH' hA K'=>by unfold gb;simp only;rw[hA _ (by simp),hid];simp only;rw[e1]⟩
  ·rename_i hid
   split at h
   ·obtain⟨υ,y,h1,e1⟩:=dL h
    exact⟨_,_,_,h1,λH' hA K'=>by unfold gb;simp only;rw[hA _ (by simp),hid];simp only;rw[e1]⟩
   ·cases h
  ·rename_i hid
   split at h
   ·obtain⟨υ,y,h1,e1⟩:=dL h
    exact⟨_,_,_,h1,λH' hA K'=>by unfold gb;simp only;rw[hA _ (by simp),hid];simp only;rw[e1]⟩
   ·cases h
  ·cases h
 ·cases h
theorem Gx{τ:Ty}{a v:aF}{H:Nat→Option az}{K:dp α}(h:gT τ a v H K=some r): ∃u rd ups,K u rd ups=some r∧ ∀H',Ag rd H H'→ ∀K':dp α,gT τ a v H' K'=K' u rd ups:=by
 unfold gT at h
 split at h
 ·obtain⟨y,rd,ups,h1,e1⟩:=jo h
  split at h1
  ·rename_i hid
   obtain⟨z,h2,e2⟩:=jn h1
   exact⟨_,_,_,h2,λH' hA K'=>by
    unfold gT;simp only
    rw[e1 H' (λi hi=>hA i (aR _ hi))]
    rw[hA _ (by simp),hid];simp only;rw[e2]⟩
  ·rename_i hid
   split at h1
   ·obtain⟨h2,e2⟩:=nj h1
    obtain⟨z,h3,e3⟩:=jn h2
    exact⟨_,_,_,h3,λH' hA K'=>by
     unfold gT;simp only
     rw[e1 H' (λi hi=>hA i (aR _ hi))]
     rw[hA _ (by simp),hid];simp only;rw[e2,e3]⟩
   ·cases h1
  ·cases h1
 ·cases h
theorem E9{j:Nat}{q:List Step}{τ:Ty}{x:τ.den}{H:Nat→Option az}{k:τ.den→dR→Option α}(h:tj j q τ x H k=some r): ∃z ups,k z ups=some r∧ ∀H',H' j=H j→ ∀k':τ.den→dR→Option α,tj j q τ x H' k'=k' z ups:=by
 unfold tj at h
 split at h
 ·rename_i hj
  obtain⟨z,h1,e1⟩:=jn h
  exact⟨_,_,h1,λH' hA k'=>by unfold tj;rw[hA,hj];simp only;rw[e1]⟩
 ·rename_i hj
  obtain⟨z,h1,e1⟩:=jn h
  exact⟨_,_,h1,λH' hA k'=>by unfold tj;rw[hA,hj];simp only;rw[e1]⟩
 ·cases h
abbrev Wv(F:(Nat→Option az)→dp α→Option α)(H:Nat→Option az)(K:dp α)(r:α):Prop:=
 ∃v rd ups,K v rd ups=some r∧ ∀H',Ag rd H H'→ ∀K':dp α,F H' K'=K' v rd ups
theorem IL{τ:Ty}{a:aF}{H:Nat→Option az}{K:dp α}(h:(gb a H fun υ y rd=>bc υ τ y λz=>K (.val τ z) rd [])=some r):
  Wv (λH K=>gb a H fun υ y rd=>bc υ τ y λz=>K (.val τ z) rd []) H K r:=by
 obtain⟨υ,y,rd,h1,e1⟩:=IK h
 obtain⟨z,h2,e2⟩:=bR h1
 exact⟨_,_,_,h2,λH' hA K'=>by simp only;rw[e1 H' hA,e2]⟩
theorem Tx{id:Nat}{p:List Step}{H:Nat→Option az}{K:(υ:Ty)→υ.den→List Nat→Option α}(h:gb (.dQ id p) H K=some r): ∃υ y,K υ y [id]=some r:=by
 unfold gb at h
 simp only at h
 split at h
 ·obtain⟨υ,y,h1,_⟩:=dL h;exact⟨υ,y,h1⟩
 ·split at h
  ·obtain⟨υ,y,h1,_⟩:=dL h;exact⟨υ,y,h1⟩
  ·cases h
 ·split at h
  ·obtain⟨υ,y,h1,_⟩:=dL h;exact⟨υ,y,h1⟩
  ·cases h
 ·cases h
theorem IM{τ:Ty}{id:Nat}{p:List Step}{H:Nat→Option az}{K:dp α}(h:(gb (.dQ id p) H fun υ y rd=>bc υ τ y λz=>K (.val τ z) rd [])=some r):
  ∃z,K (.val τ z) [id] []=some r∧ ∀H',H' id=H id→ ∀K':dp α,(gb (.dQ id p) H' fun υ y rd=>bc υ τ y λz=>K' (.val τ z) rd [])=K' (.val τ z) [id] []:=by
 unfold gb at h
 simp only at h
 split at h
 ·rename_i hid
  obtain⟨υ,y,h1,e1⟩:=dL h
  obtain⟨z,h2,e2⟩:=bR h1
  exact⟨_,h2,λH' hA K'=>by unfold gb;simp only;rw[hA,hid];simp only;rw[e1,e2]⟩
 ·rename_i hid
  split at h
  ·obtain⟨υ,y,h1,e1⟩:=dL h
   obtain⟨z,h2,e2⟩:=bR h1
   exact⟨_,h2,λH' hA K'=>by unfold gb;simp only;rw[hA,hid];simp only;rw[e1,e2]⟩
  ·cases h
 ·rename_i hid
  split at h
  ·obtain⟨υ,y,h1,e1⟩:=dL h
   obtain⟨z,h2,e2⟩:=bR h1
   exact⟨_,h2,λH' hA K'=>by unfold gb;simp only;rw[hA,hid];simp only;rw[e1,e2]⟩
  ·cases h
 ·cases h
theorem Ce{τ:Ty}{a:aF}{H:Nat→Option az}{K:dp α}(h:m5 τ a H K=some r):Wv (m5 τ a) H K r:=by
 unfold m5 at h
 simp only at h
 split at h
 ·rename_i id p
  split at h
  ·rename_i υ x q j hid
   cases hp:yL p q
   ·cases Aa:qk p q
    ·rw[hp,Aa]at h
     simp only[ah]at h
     obtain⟨υ',y,h1,e1⟩:=dL h
     obtain⟨z,h2,e2⟩:=bR h1
     exact⟨_,_,_,h2,λH' hA K'=>by
      unfold m5;simp only;rw[hA id (by simp),hid];simp only
      rw[hp,Aa];simp only[ah];rw[e1,e2]⟩
    ·rw[hp,Aa]at h
     simp only[ah,aa]at h
     obtain⟨z,ups,h1,e1⟩:=E9 h
     obtain⟨υ',y,h2,e2⟩:=dL h1
     obtain⟨z',h3,e3⟩:=bR h2
     exact⟨_,_,_,h3,λH' hA K'=>by
      unfold m5;simp only;rw[hA id (by simp),hid];simp only
      rw[hp,Aa];simp only[ah,aa];rw[e1 H' (hA j (by simp)),e2,e3]⟩
   ·rw[hp]at h
    simp only[aa]at h
    obtain⟨h1,e1⟩:=ch h
    exact⟨_,_,_,h1,λH' hA K'=>by
     unfold m5;simp only;rw[hA id (by simp),hid];simp only
     rw[hp];simp only[aa];rw[e1]⟩
  ·rename_i iU
   obtain⟨z,h1,e1⟩:=IM h
   refine⟨_,_,_,h1,λH' hA K'=> ?_⟩
   unfold m5;simp only;rw[hA id (by simp)]
   split
   ·rename_i hid;exact absurd hid (iU _ _ _ _)
   ·exact e1 H' (hA id (by simp)) K'
 ·rename_i iU
  obtain⟨v,rd,ups,h1,e1⟩:=IL h
  refine⟨v,rd,ups,h1,λH' hA K'=> ?_⟩
  have:m5 τ a H' K'=gb a H' fun υ y rd=>bc υ τ y λz=>K' (.val τ z) rd []:=by
   unfold m5
   cases a<;>first|rfl|exact absurd rfl (iU _ _)
  rw[this]
  exact e1 H' hA K'
theorem sI{τ:Ty}{id k:Nat}{e:Ty}{q:List Step}{υ:Ty}{x:υ.den}{H:Nat→Option az}{K:dp α}(h:qC τ id k e q υ x H K=some r):
  ∃v ups,K v [id,k] ups=some r∧ ∀H',H' k=H k→ ∀K':dp α,qC τ id k e q υ x H' K'=K' v [id,k] ups:=by
 unfold qC at h
 split at h
 ·rename_i hid
  obtain⟨h1,e1⟩:=dr h
  obtain⟨h2,e2⟩:=dr h1
  obtain⟨z,h3,e3⟩:=jn h2
  exact⟨_,_,h3,λH' hA K'=>by unfold qC;rw[hA,hid];simp only;rw[e1,e2,e3]⟩
 ·cases h
theorem tD{τ:Ty}{id:Nat}{p:List Step}{v:aF}{H:Nat→Option az}{K:dp α}(h:gT τ (.dQ id p) v H K=some r):
  ∃u rd ups,id∈rd∧K u rd ups=some r∧ ∀H',Ag rd H H'→ ∀K':dp α,gT τ (.dQ id p) v H' K'=K' u rd ups:=by
 unfold gT at h
 simp only at h
 obtain⟨y,rd,ups,h1,e1⟩:=jo h
 split at h1
 ·rename_i hid
  obtain⟨z,h2,e2⟩:=jn h1
  exact⟨_,_,_,by simp,h2,λH' hA K'=>by
   unfold gT;simp only
   rw[e1 H' (λi hi=>hA i (aR _ hi))]
   rw[hA _ (by simp),hid];simp only;rw[e2]⟩
 ·rename_i hid
  split at h1
  ·obtain⟨h2,e2⟩:=nj h1
   obtain⟨z,h3,e3⟩:=jn h2
   exact⟨_,_,_,by simp,h3,λH' hA K'=>by
    unfold gT;simp only
    rw[e1 H' (λi hi=>hA i (aR _ hi))]
    rw[hA _ (by simp),hid];simp only;rw[e2,e3]⟩
  ·cases h1
 ·cases h1
theorem tE{E:Env}{τ:Ty}{a v:aF}{H:Nat→Option az}{K:dp α}(h:fm E τ a v H K=some r):
  ∃u rd ups,K u rd ups=some r∧ ∀H',Ag rd H H'→ ∀K':dp α,fm E τ a v H' K'=K' u rd ups:=by
 have h0:=h
 unfold fm at h
 simp only at h
 split at h
 ·rename_i id p
  split at h
  ·rename_i υ x hid
   split at h
   ·rename_i q e k k5
    cases hp:yL p q
    ·rw[hp]at h
     simp only[ah]at h
     obtain⟨u,rd,ups,hi,h1,e1⟩:=tD h
     refine⟨u,rd,ups,h1,λH' hA K'=> ?_⟩
     unfold fm;simp only;rw[hA id hi,hid];simp only;rw[k5];simp only;rw[hp];simp only[ah]
     exact e1 H' hA K'
    ·rw[hp]at h
     simp only[aa]at h
     obtain⟨u,ups,h1,e1⟩:=sI h
     refine⟨u,_,ups,h1,λH' hA K'=> ?_⟩
     unfold fm;simp only;rw[hA id (by simp),hid];simp only;rw[k5];simp only;rw[hp];simp only[aa]
     exact e1 H' (hA k (by simp)) K'
   ·rename_i iU
    obtain⟨u,rd,ups,hi,h1,e1⟩:=tD h
    refine⟨u,rd,ups,h1,λH' hA K'=> ?_⟩
    unfold fm;simp only;rw[hA id hi,hid];simp only
    exact e1 H' hA K'
  ·rename_i υ x q j hid
   have H7:(gS true v H τ λy rd ups=>oL τ y p υ x λz=>K .any (id::rd) (ups++[(id,some (cond (qk p q) (.obj υ z) (.dj υ z q j)))]))=some r→
     ∃u rd ups,id∈rd∧K u rd ups=some r∧ ∀H',Ag rd H H'→ ∀K':dp α,(gS true v H' τ λy rd ups=>oL τ y p υ x λz=>K' .any (id::rd) (ups++[(id,some (cond (qk p q) (.obj υ z) (.dj υ z q j)))]))=K' u rd ups:=by
    intro h
    obtain⟨y,rd,ups,h1,e1⟩:=jo h
    obtain⟨z,h2,e2⟩:=jn h1
    exact⟨_,_,_,by simp,h2,λH' hA K'=>by rw[e1 H' (λi hi=>hA i (aR _ hi)),e2]⟩
   split at h
   ·rename_i q' e k k5
    cases hp:(yL p q&&yL q q')
    ·rw[hp]at h
     simp only[ah]at h
     obtain⟨u,rd,ups,hi,h1,e1⟩:=H7 h
     refine⟨u,rd,ups,h1,λH' hA K'=> ?_⟩
     unfold fm;simp only;rw[hA id hi,hid];simp only;rw[k5];simp only;rw[hp];simp only[ah]
     exact e1 H' hA K'
    ·rw[hp]at h
     simp only[aa]at h
     obtain⟨u,ups,h1,e1⟩:=sI h
     refine⟨u,_,ups,h1,λH' hA K'=> ?_⟩
     unfold fm;simp only;rw[hA id (by simp),hid];simp only;rw[k5];simp only;rw[hp];simp only[aa]
     exact e1 H' (hA k (by simp)) K'
   ·rename_i iU
    obtain⟨u,rd,ups,hi,h1,e1⟩:=H7 h
    refine⟨u,rd,ups,h1,λH' hA K'=> ?_⟩
    unfold fm;simp only;rw[hA id hi,hid];simp only
    exact e1 H' hA K'
  ·rename_i XI XJ
   obtain⟨u,rd,ups,hi,h1,e1⟩:=tD h
   refine⟨u,rd,ups,h1,λH' hA K'=> ?_⟩
   unfold fm;simp only;rw[hA id hi]
   split
   ·rename_i hid;exact absurd hid (XI _ _)
   ·rename_i hid;exact absurd hid (XJ _ _ _ _)
   ·exact e1 H' hA K'
 ·rename_i iU
  obtain⟨u,rd,ups,h1,e1⟩:=Gx h
  refine⟨u,rd,ups,h1,λH' hA K'=> ?_⟩
  have:fm E τ a v H' K'=gT τ a v H' K':=by
   unfold fm
   cases a<;>first|rfl|exact absurd rfl (iU _ _)
  rw[this]
  exact e1 H' hA K'
theorem Gy{E:Env}{τ:Ty}{a v:aF}{H:Nat→Option az}{K:dp α}(h:mH E τ a v H K=some r):
  ∃u rd ups,K u rd ups=some r∧ ∀H',Ag rd H H'→ ∀K':dp α,mH E τ a v H' K'=K' u rd ups:=by
 unfold mH at h
 split at h
 ·rename_i id υ y n
  split at h
  ·rename_i m e k5
   cases vS:Nat.beq m n
   ·rw[vS]at h
    simp only[ah]at h
    obtain⟨u,rd,ups,h1,e1⟩:=tE h
    exact⟨u,rd,ups,h1,λH' hA K'=>by unfold mH;simp only;rw[k5];simp only;rw[vS];simp only[ah];exact e1 H' hA K'⟩
   ·rw[vS]at h
    simp only[aa]at h
    obtain⟨h1,e1⟩:=dr h
    obtain⟨υ',h2,e2⟩:=p7 h1
    obtain⟨h3,e3⟩:=dr h2
    obtain⟨h4,e4⟩:=p8 h3
    exact⟨_,_,_,h4,λH' hA K'=>by unfold mH;simp only;rw[k5];simp only;rw[vS];simp only[aa];rw[e1,e2 H' (hA _ (by simp)),e3,e4 H' (hA _ (by simp))]⟩
  ·rename_i iU
   obtain⟨u,rd,ups,h1,e1⟩:=tE h
   refine⟨u,rd,ups,h1,λH' hA K'=> ?_⟩
   unfold mH;simp only
   exact e1 H' hA K'
 ·rename_i iU
  obtain⟨u,rd,ups,h1,e1⟩:=tE h
  refine⟨u,rd,ups,h1,λH' hA K'=> ?_⟩
  unfold mH
  split
  ·exact absurd rfl (iU _ _ _ _ rfl)
  ·exact e1 H' hA K'
theorem Gz{E:Env}{t:Ty}{z:Bool}{a:aF}{lo hi mx:Option aF}{H:Nat→Option az}{K:dp α}(h:pg E t z a lo hi mx H K=some r): ∃v rd ups,K v rd ups=some r∧ ∀H',Ag rd H H'→ ∀K':dp α,pg E t z a lo hi mx H' K'=K' v rd ups:=by
 unfold pg at h
 split at h
 ·rename_i e id lo' Wn
  obtain⟨k,i,h1,e1⟩:=kD h
  split at h1
  ·rename_i e' l hid
   obtain⟨h2,e2⟩:=dr h1
   obtain⟨h3,e3⟩:=ch h2
   refine⟨_,_,_,h3,λH' hA K'=> ?_⟩
   unfold pg;rw[Wn];simp only
   rw[e1,hA id (by simp),hid];simp only
   rw[e2,e3]
  ·cases h1
 ·rename_i iU
  obtain⟨v,rd,ups,h1,e1⟩:=Gv h
  refine⟨v,rd,ups,h1,λH' hA K'=> ?_⟩
  unfold pg
  split
  ·rename_i Wn;exact absurd rfl (iU _ _ _ Wn rfl rfl rfl rfl)
  ·exact e1 H' hA K'
theorem GA{e:Ty}{a:aF}{H:Nat→Option az}{K:dp α}(h:qQ e a H K=some r): ∃v rd ups,K v rd ups=some r∧ ∀H',Ag rd H H'→ ∀K':dp α,qQ e a H' K'=K' v rd ups:=by
 unfold qQ at h
 split at h
 ·rename_i id e' lo
  obtain⟨h1,e1⟩:=dr h
  split at h1
  ·rename_i e2 l hid
   obtain⟨z,h2,e3⟩:=bR h1
   refine⟨_,_,_,h2,λH' hA K'=> ?_⟩
   unfold qQ;simp only
   rw[e1,hA id (by simp),hid];simp only
   rw[e3]
  ·cases h1
 ·cases h
theorem tF{E:Env}{τ:Ty}{a v:aF}{H:Nat→Option az}{K:dp α}(h:mI E τ a v H K=some r):
  ∃u rd ups,K u rd ups=some r∧ ∀H',Ag rd H H'→ ∀K':dp α,mI E τ a v H' K'=K' u rd ups:=by
 unfold mI at h
 split at h
 ·rename_i id υ y n j
  split at h
  ·rename_i m e k5
   obtain⟨h1,e1⟩:=ch h
   obtain⟨h2,e2⟩:=dr h1
   obtain⟨υ',h3,e3⟩:=p7 h2
   obtain⟨h4,e4⟩:=dr h3
   split at h4
   ·rename_i e' l hj
    obtain⟨h5,e5⟩:=dr h4
    refine⟨_,_,_,h5,λH' hA K'=> ?_⟩
    unfold mI;simp only;rw[k5];simp only
    rw[e1,e2,e3 H' (hA _ (by simp)),e4,hA j (by simp),hj];simp only
    rw[e5]
   ·cases h4
  ·cases h
 ·rename_i iU
  obtain⟨u,rd,ups,h1,e1⟩:=Gy h
  refine⟨u,rd,ups,h1,λH' hA K'=> ?_⟩
  unfold mI
  split
  ·exact absurd rfl (iU _ _ _ _ _ rfl)
  ·exact e1 H' hA K'
theorem Fa{k:Nat}: ∀(ups:dR) {H H':Nat→Option az},H' k=H k→a8 H' ups k=a8 H ups k
 |[],_,_,h=>h
 |u::r,H,H',h=>by
  show a8 (aC H' u.1 u.2) r k=a8 (aC H u.1 u.2) r k
  refine Fa r ?_
  by_cases e:k=u.1
  ·subst e;rw[ag,ag]
  ·rw[aj _ _ e,aj _ _ e,h]
theorem GB{E:Env}{τ:Ty}{a v:aF}{H:Nat→Option az}{K:dp α}(h:k4 E τ a v H K=some r):
  ∃u rd ups,K u rd ups=some r∧ ∀H',Ag rd H H'→ ∀K':dp α,k4 E τ a v H' K'=K' u rd ups:=by
 unfold k4 at h
 split at h
 ·rename_i id n k
  cases hb:OK E id n
  ·rw[hb]at h
   simp only[ah]at h
   obtain⟨u,rd,ups,h1,e1⟩:=tF h
   exact⟨u,rd,ups,h1,λH' hA K'=>by unfold k4;simp only;rw[hb];simp only[ah];exact e1 H' hA K'⟩
  ·rw[hb]at h
   simp only[aa]at h
   split at h
   ·rename_i υ x q j hid
    cases hp:yL q [.dS n]
    ·rw[hp]at h
     simp only[ah]at h
     split at h
     ·rename_i e BS
      obtain⟨z,ups,h1,e1⟩:=E9 h
      obtain⟨u,eg,h2,e2⟩:=sI h1
      refine⟨_,_,_,h2,λH' hA K'=> ?_⟩
      unfold k4;simp only;rw[hb];simp only[aa]
      rw[hA id (by simp),hid];simp only
      rw[hp];simp only[ah]
      rw[BS];simp only
      rw[e1 H' (hA j (by simp)),e2 _ (Fa ups (hA k (by simp)))]
     ·cases h
    ·rw[hp]at h
     simp only[aa]at h
     obtain⟨u,rd,ups,h1,e1⟩:=tF h
     refine⟨_,_,_,h1,λH' hA K'=> ?_⟩
     unfold k4;simp only;rw[hb];simp only[aa]
     rw[hA id (by simp),hid];simp only
     rw[hp];simp only[aa]
     exact e1 H' (λi hi=>hA i (aR _ hi)) _
   ·rename_i υ x hid
    split at h
    ·rename_i e BS
     obtain⟨u,eg,h2,e2⟩:=sI h
     refine⟨_,_,_,h2,λH' hA K'=> ?_⟩
     unfold k4;simp only;rw[hb];simp only[aa]
     rw[hA id (by simp),hid];simp only
     rw[BS];simp only
     exact e2 H' (hA k (by simp)) K'
    ·cases h
   ·cases h
 ·rename_i iU
  obtain⟨u,rd,ups,h1,e1⟩:=tF h
  refine⟨u,rd,ups,h1,λH' hA K'=> ?_⟩
  unfold k4
  split
  ·exact absurd rfl (iU _ _ _ rfl)
  ·exact e1 H' hA K'
theorem IN{E:Env}{τ:Ty}{a:aF}{H:Nat→Option az}{K:dp α}(h:sj E τ a H K=some r):
  ∃u rd ups,K u rd ups=some r∧ ∀H',Ag rd H H'→ ∀K':dp α,sj E τ a H' K'=K' u rd ups:=by
 unfold sj at h
 split at h
 ·rename_i id Ga
  split at h
  ·rename_i υ x n j hid
   obtain⟨z,h1,e1⟩:=bR h
   refine⟨_,_,_,h1,λH' hA K'=> ?_⟩
   unfold sj;rw[Ga];simp only;rw[hA id (by simp),hid];simp only
   rw[e1]
  ·rename_i iU
   obtain⟨u,rd,ups,h1,e1⟩:=Ce h
   refine⟨_,_,_,h1,λH' hA K'=> ?_⟩
   unfold sj;rw[Ga];simp only;rw[hA id (by simp)]
   split
   ·rename_i hid;exact absurd hid (iU _ _ _ _)
   ·exact e1 H' (λi hi=>hA i (aR _ hi)) _
 ·rename_i iU
  obtain⟨u,rd,ups,h1,e1⟩:=Ce h
  refine⟨u,rd,ups,h1,λH' hA K'=> ?_⟩
  unfold sj
  split
  ·rename_i Ga;exact absurd rfl (iU _ Ga)
  ·exact e1 H' hA K'
theorem Fb{H:Nat→Option az}{id:Nat}{τ:Ty}{x:τ.den}{q:List Step}{e:Ty}{K:dp α}(h:vk H id τ x q e K=some r):Wv (λH K=>vk H id τ x q e K) H K r:=by
 obtain⟨h1,h2,h3⟩:=w7 h
 exact⟨_,_,_,h3,λH' hA K'=>by unfold vk ku;simp only;rw[hA id (by simp),h1,hA (id+1) (by simp),h2]⟩
theorem IP{E:Env}{o:Oper}{ρ:Operand→aF}{H:Nat→Option az}{K:dp α}(h:mS E o ρ H K=some r):
  ∃v rd ups,K v rd ups=some r∧ ∀ρ' H',(∀x∈o.op.operands,ρ' x=ρ x)→Ag rd H H'→ ∀K':dp α,mS E o ρ' H' K'=K' v rd ups:=by
 obtain⟨dst,op,type,pos,after,guard⟩:=o
 unfold mS at h
 simp only at h
 have Lr: ∀{ρ':Operand→aF} (xs:List Operand),(∀x∈xs,ρ' x=ρ x)→xs.map ρ'=xs.map ρ:=λxs hx=>gJ hx
 have Ar: ∀{ρ':Operand→aF} (ps:Array (Nat×Operand)),(∀x∈ps.map (·.2),ρ' x=ρ x)→partsOf ρ' ps=partsOf ρ ps:=λps hp=>by
  unfold partsOf
  exact gJ λp hm=>by rw[hp p.2 (Array.mem_map.2 ⟨p,by simpa using hm,rfl⟩)]
 have Ps: ∀{ρ':Operand→aF} (x:Option Operand),(∀y∈x,ρ' y=ρ y)→x.map ρ'=x.map ρ:=λx hx=>by
  cases x with
  |none=>rfl
  |some x=>simp[hx x rfl]
 split at h
 ·
  rename_i x
  exact⟨_,_,_,h,fun ρ' H' hx _ K'=>by unfold mS;simp only;rw[hx x (by simp[Op.operands])]⟩
 ·rename_i x
  exact⟨_,_,_,h,fun ρ' H' hx _ K'=>by unfold mS;simp only;rw[hx x (by simp[Op.operands])]⟩
 ·rename_i x y z
  split at h
  ·rename_i t hx
   cases t
   ·exact⟨_,_,_,(h:K (ρ z) [] []=some r),fun ρ' H' mu _ K'=>by unfold mS;simp only;rw[mu x (by simp[Op.operands]),hx,mu z (by simp[Op.operands])];rfl⟩
   ·exact⟨_,_,_,(h:K (ρ y) [] []=some r),fun ρ' H' mu _ K'=>by unfold mS;simp only;rw[mu x (by simp[Op.operands]),hx,mu y (by simp[Op.operands])];rfl⟩
  ·cases h
 ·
  split at h
  ·rename_i τ ht
   split at h
   ·rename_i q e k5
    obtain⟨v,rd,ups,h1,e1⟩:=Fb h
    exact⟨_,_,_,h1,fun ρ' H' hx hA K'=>by unfold mS;simp only;rw[ht];simp only;rw[k5];exact e1 H' hA K'⟩
   ·rename_i k5
    obtain⟨h1,e1⟩:=p8 h
    exact⟨_,_,_,h1,fun ρ' H' hx hA K'=>by unfold mS;simp only;rw[ht];simp only;rw[k5];simp only;rw[e1 H' (hA _ (by simp))]⟩
  ·cases h
 ·
  rename_i t x
  split at h
  ·rename_i τ ht
   have hold:(gS true (ρ x) H τ λy rd ups=>ku H (16*dst.getD 0) (.obj τ y) (K (.dQ (16*dst.getD 0) []) (16*dst.getD 0::rd) (ups++[(16*dst.getD 0,some (.obj τ y))])))=some r→
     Wv (λH K=>gS true (ρ x) H τ λy rd ups=>ku H (16*dst.getD 0) (.obj τ y) (K (.dQ (16*dst.getD 0) []) (16*dst.getD 0::rd) (ups++[(16*dst.getD 0,some (.obj τ y))]))) H K r:=by
    intro h
    obtain⟨y,rd,ups,h1,e1⟩:=jo h
    obtain⟨h2,e2⟩:=p8 h1
    exact⟨_,_,_,h2,λH' hA K'=>by simp only;rw[e1 H' (λi hi=>hA i (aR _ hi)),e2 H' (hA _ (by simp))]⟩
   split at h
   ·rename_i m e υ y n k5 Ed
    cases vS:Nat.beq m n
    ·rw[vS]at h
     obtain⟨v,rd,ups,h1,e1⟩:=hold h
     refine⟨_,_,_,h1,fun ρ' H' hx hA K'=> ?_⟩
     unfold mS;simp only;rw[ht];simp only
     rw[hx x (by simp[Op.operands]),k5,Ed];simp only
     rw[vS]
     have:=e1 H' hA K'
     rw[Ed]at this
     exact this
    ·rw[vS]at h
     simp only[aa]at h
     obtain⟨z,h1,e1⟩:=bR h
     obtain⟨v,rd,ups,h2,e2⟩:=Fb h1
     refine⟨_,_,_,h2,fun ρ' H' hx hA K'=> ?_⟩
     unfold mS;simp only;rw[ht];simp only
     rw[hx x (by simp[Op.operands]),k5,Ed];simp only
     rw[vS];simp only[aa]
     rw[e1]
     exact e2 H' hA K'
   ·rename_i iU
    obtain⟨v,rd,ups,h1,e1⟩:=hold h
    refine⟨_,_,_,h1,fun ρ' H' hx hA K'=> ?_⟩
    unfold mS;simp only;rw[ht];simp only
    rw[hx x (by simp[Op.operands])]
    split
    ·rename_i k5 Ed;exact absurd Ed (iU _ _ _ _ _ k5)
    ·exact e1 H' hA K'
  ·cases h
 ·
  rename_i t ps
  split at h
  ·rename_i n e ht
   obtain⟨l,rd,ups,h1,_,e1⟩:=xt h
   exact⟨_,_,_,h1,fun ρ' H' hx hA K'=>by unfold mS;simp only;rw[ht];simp only;rw[Ar ps (λx mu=>hx x (by simpa [Op.operands]using mu)),e1 H' hA]⟩
  ·rename_i τ Ih ht
   split at h
   ·rename_i n k hs
    split at h
    ·rename_i e' l' hk
     obtain⟨h0,e0⟩:=ch h
     obtain⟨l,rd,ups,h1,_,e1⟩:=tC h0
     refine⟨_,_,_,h1,fun ρ' H' hx hA K'=> ?_⟩
     unfold mS;simp only;rw[ht]
     cases τ with
     |arr n e=>exact absurd rfl (Ih n e)
     |_=>
      simp only
      rw[Ar ps (λx mu=>hx x (by simpa [Op.operands]using mu)),hs];simp only
      rw[hA k (by simp),hk];simp only
      rw[e0,e1 H' (λi hi=>hA i (aR _ hi))]
    ·cases h
   ·rename_i hs
    obtain⟨h0,e0⟩:=ch h
    obtain⟨l,rd,ups,h1,_,e1⟩:=tC h0
    refine⟨_,_,_,h1,fun ρ' H' hx hA K'=> ?_⟩
    unfold mS;simp only;rw[ht]
    cases τ with
    |arr n e=>exact absurd rfl (Ih n e)
    |_=>
     simp only
     rw[Ar ps (λx mu=>hx x (by simpa [Op.operands]using mu)),hs];simp only
     rw[e0,e1 H' hA]
  ·cases h
 ·
  rename_i t n ps
  split at h
  ·rename_i e ht
   obtain⟨h0,e0⟩:=ch h
   obtain⟨h1,e1⟩:=p8 h0
   obtain⟨l,rd,ups,h2,_,e2⟩:=xt h1
   exact⟨_,_,_,h2,fun ρ' H' hx hA K'=>by
    unfold mS;simp only;rw[ht];simp only
    rw[e0,e1 H' (hA _ (by simp)),Ar ps (λx mu=>hx x (by simpa [Op.operands]using mu)),e2 H' (λi hi=>hA i (aR _ hi))]⟩
  ·cases h
 ·
  rename_i t x
  split at h
  ·rename_i τ ht
   obtain⟨v,rd,ups,h1,e1⟩:=IN h
   exact⟨_,_,_,h1,fun ρ' H' hx hA K'=>by unfold mS;simp only;rw[ht];simp only;rw[hx x (by simp[Op.operands]),e1 H' hA]⟩
  ·cases h
 ·
  rename_i t x y
  split at h
  ·rename_i τ ht
   obtain⟨u,rd,ups,h1,e1⟩:=GB h
   exact⟨_,_,_,h1,fun ρ' H' hx hA K'=>by unfold mS;simp only;rw[ht];simp only;rw[hx x (by simp[Op.operands]),hx y (by simp[Op.operands]),e1 H' hA]⟩
  ·cases h
 ·
  rename_i x
  split at h
  ·rename_i id p hx
   exact⟨_,_,_,h,fun ρ' H' mu _ K'=>by unfold mS;simp only;rw[mu x (by simp[Op.operands]),hx]⟩
  ·rename_i τ z hx
   exact⟨_,_,_,h,fun ρ' H' mu _ K'=>by unfold mS;simp only;rw[mu x (by simp[Op.operands]),hx]⟩
  ·cases h
 ·
  rename_i b t x y t'
  obtain⟨τ,x1,h1,e1⟩:=E8 h
  obtain⟨υ,y1,h2,e2⟩:=E8 h1
  obtain⟨v,h3,e3⟩:=IG h2
  exact⟨_,_,_,h3,fun ρ' H' hx _ K'=>by unfold mS;simp only;rw[hx x (by simp[Op.operands]),hx y (by simp[Op.operands]),e1,e2,e3]⟩
 ·
  rename_i u t x
  obtain⟨v,h1,e1⟩:=Lo h
  exact⟨_,_,_,h1,fun ρ' H' hx _ K'=>by unfold mS;simp only;rw[hx x (by simp[Op.operands]),e1]⟩
 ·
  rename_i s d x
  split at h
  ·rename_i τ k hs hd
   obtain⟨i,n,h1,e1⟩:=kD h
   exact⟨_,_,_,h1,fun ρ' H' hx _ K'=>by unfold mS;simp only;rw[hs,hd];simp only;rw[hx x (by simp[Op.operands]),e1]⟩
  ·cases h
 ·
  rename_i f first kX
  obtain⟨h1,e1⟩:=ch h
  obtain⟨cs,rd,ups,h3,e3⟩:=xv h1
  exact⟨_,_,_,h3,fun ρ' H' hx hA K'=>by unfold mS;simp only;rw[Lr kX.toList (λx mu=>hx x (by simp[Op.operands];exact .inr (by simpa using mu))),e1,e3 H' hA]⟩
 ·
  rename_i t x y
  split at h
  ·rename_i e ht
   obtain⟨i,n,h1,e1⟩:=kD h
   obtain⟨i',n',h2,e2⟩:=kD h1
   obtain⟨h3,e3⟩:=ch h2
   obtain⟨h4,e4⟩:=p8 h3
   exact⟨_,_,_,h4,fun ρ' H' hx hA K'=>by
    unfold mS;simp only;rw[ht];simp only
    rw[hx x (by simp[Op.operands]),e1,hx y (by simp[Op.operands]),e2,e3,e4 H' (hA _ (by simp))]⟩
  ·cases h
 ·
  rename_i t x lo hi mx
  split at h
  ·rename_i τ ht
   obtain⟨v,rd,ups,h1,e1⟩:=Gz h
   exact⟨_,_,_,h1,fun ρ' H' hx hA K'=>by
    unfold mS;simp only;rw[ht];simp only
    rw[hx x (by simp[Op.operands]),Ps lo (λy hy=>hx y (by simp at hy;simp[Op.operands,hy])),Ps hi (λy hy=>hx y (by simp at hy;simp[Op.operands,hy])),Ps mx (λy hy=>hx y (by simp at hy;simp[Op.operands,hy])),e1 H' hA]⟩
  ·cases h
 ·
  rename_i t x n
  split at h
  ·rename_i τ ht
   split at h
   ·rename_i id p hx
    obtain⟨υ,h1,e1⟩:=p7 h
    obtain⟨h2,e2⟩:=dr h1
    obtain⟨υ',y',h3,e3⟩:=p6 h2
    obtain⟨h4,e4⟩:=nj h3
    exact⟨_,_,_,h4,fun ρ' H' mu hA K'=>by
     unfold mS;simp only;rw[ht];simp only
     rw[mu x (by simp[Op.operands]),hx];simp only
     rw[e1 H' (hA _ (by simp)),e2,e3,e4]⟩
   ·rename_i υ z hx
    obtain⟨h2,e2⟩:=dr h
    obtain⟨υ',y',h3,e3⟩:=p6 h2
    obtain⟨h4,e4⟩:=nj h3
    exact⟨_,_,_,h4,fun ρ' H' mu hA K'=>by
     unfold mS;simp only;rw[ht];simp only
     rw[mu x (by simp[Op.operands]),hx];simp only
     rw[e2,e3,e4]⟩
   ·cases h
  ·cases h
 ·
  rename_i t x n
  split at h
  ·rename_i τ ht
   split at h
   ·rename_i υ z hx
    obtain⟨h2,e2⟩:=dr h
    obtain⟨υ',y',h3,e3⟩:=p6 h2
    exact⟨_,_,_,h3,fun ρ' H' mu hA K'=>by
     unfold mS;simp only;rw[ht];simp only
     rw[mu x (by simp[Op.operands]),hx];simp only
     rw[e2,e3]⟩
   ·cases h
  ·cases h
 ·
  rename_i t x i
  split at h
  ·rename_i τ ht
   obtain⟨v,rd,ups,h1,e1⟩:=y3 h
   exact⟨_,_,_,h1,fun ρ' H' hx hA K'=>by unfold mS;simp only;rw[ht];simp only;rw[hx x (by simp[Op.operands]),hx i (by simp[Op.operands]),e1 H' hA]⟩
  ·cases h
 ·
  rename_i t x i
  split at h
  ·rename_i τ ht
   obtain⟨v,h1,e1⟩:=Gw h
   exact⟨_,_,_,h1,fun ρ' H' hx hA K'=>by unfold mS;simp only;rw[ht];simp only;rw[hx x (by simp[Op.operands]),hx i (by simp[Op.operands]),e1]⟩
  ·cases h
 ·
  rename_i x i
  split at h
  ·rename_i vs hx
   split at h
   ·rename_i v hv
    exact⟨_,_,_,h,fun ρ' H' mu hA K'=>by unfold mS;simp only;rw[mu x (by simp[Op.operands]),hx];simp only;rw[hv]⟩
   ·cases h
  ·cases h
 ·
  rename_i cl
  obtain⟨callee,args,ts⟩:=cl
  simp only at h
  have pC: ∀{ρ':Operand→aF},(∀x∈(Op.call {callee,args,argTypes:=ts}).operands,ρ' x=ρ x)→ ∀x∈args.toList,ρ' x=ρ x:=
   λhx x mu=>hx x (by simp[Op.operands,Call.operands];exact .inr (by simpa using mu))
  split at h
  ·split at h
   ·rename_i x τ ha ht
    obtain⟨v,rd,ups,h1,e1⟩:=Lp h
    exact⟨_,_,_,h1,fun ρ' H' hx hA K'=>by unfold mS;simp only;rw[ha,ht];simp only;rw[pC hx x (by rw[ha];simp),e1 H' hA]⟩
   ·cases h
  ·split at h
   ·rename_i x y t t' ha ht
    split at h
    ·rename_i e Pl
     obtain⟨h1,e1⟩:=ch h
     obtain⟨h2,e2⟩:=p8 h1
     obtain⟨v,rd,ups,h3,hid,e3⟩:=Lq h2
     exact⟨_,_,_,h3,fun ρ' H' hx hA K'=>by
      unfold mS;simp only;rw[ha,ht];simp only;rw[Pl];simp only
      rw[e1,e2 H' (hA _ hid),pC hx x (by rw[ha];simp),pC hx y (by rw[ha];simp),e3 H' hA]⟩
    ·cases h
   ·cases h
  ·split at h
   ·rename_i x t ha ht
    split at h
    ·rename_i e Pl
     obtain⟨v,rd,ups,h1,e1⟩:=GA h
     exact⟨_,_,_,h1,fun ρ' H' hx hA K'=>by
      unfold mS;simp only;rw[ha,ht];simp only;rw[Pl];simp only
      rw[pC hx x (by rw[ha];simp),e1 H' hA]⟩
    ·cases h
   ·cases h
  ·split at h
   ·rename_i x xs ha
    obtain⟨v,h1,e1⟩:=Ef h
    exact⟨_,_,_,h1,fun ρ' H' hx hA K'=>by
     unfold mS;simp only;rw[ha];simp only
     rw[pC hx x (by rw[ha];simp),Lr xs (λy hy=>pC hx y (by rw[ha];simp[hy])),e1]⟩
   ·cases h
  ·split at h
   ·rename_i x xs ha
    obtain⟨v,h1,e1⟩:=Ef h
    exact⟨_,_,_,h1,fun ρ' H' hx hA K'=>by
     unfold mS;simp only;rw[ha];simp only
     rw[pC hx x (by rw[ha];simp),Lr xs (λy hy=>pC hx y (by rw[ha];simp[hy])),e1]⟩
   ·cases h
  ·rename_i g
   split at h
   ·rename_i f kX hg
    obtain⟨v,rd,ups,h1,e1⟩:=IJ h
    exact⟨_,_,_,h1,fun ρ' H' hx hA K'=>by
     unfold mS;simp only
     rw[hx g (by simp[Op.operands,Call.operands]),hg];simp only
     rw[Lr args.toList (pC hx),e1 H' hA]⟩
   ·cases h
  ·cases h
 ·cases h
end VM
end
section
namespace VM
open Go
variable{P:Program}{E:Env}{o:Oper}{a:Act}{w:World}{M:Nat→Prop}{ν:Nat→Value}{σ:St}{c:Ctx}{α:Type}{r:α}{next:Act→World→Prop}{Q:Exit→Act→World→Prop}
theorem Fc{E:Env}{o:Oper}{ρ ρ':Operand→aF}(hx: ∀x∈o.op.operands,ρ' x=ρ x):D3 E o ρ'=D3 E o ρ:=by
 obtain⟨dst,op,type,pos,after,guard⟩:=o
 unfold D3
 simp only at hx ⊢
 cases op with
 |call cl=>
  simp only
  split
  ·rename_i x h1 h2
   rw[hx x (by
    have:x∈cl.args.toList:=by rw[h2];simp
    simp only[Op.operands,Call.operands]
    simp[this]
    try (first|exact .inr (by simpa using this)|exact .inl (by simpa using this)))]
  ·rfl
 |indexAddr t x i=>simp only;rw[hx x (by simp[Op.operands])]
 |load t x=>simp only;rw[hx x (by simp[Op.operands])]
 |store t x y=>simp only;rw[hx x (by simp[Op.operands]),hx y (by simp[Op.operands])]
 |move x=>simp only;rw[hx x (by simp[Op.operands])]
 |_=>rfl
theorem Fe{E:Env}{o:Oper}{ρ ρ':Operand→aF}{H H':Nat→Option az}(hx: ∀x∈o.op.operands,ρ' x=ρ x)(hA:Ag (D3 E o ρ) H H'):F0 E o ρ' H'=F0 E o ρ H:=by
 obtain⟨dst,op,type,pos,after,guard⟩:=o
 unfold D3 at hA
 unfold F0
 simp only at hA hx ⊢
 cases op with
 |makeSlice t x y=>
  simp only at hA ⊢
  rw[hA (16*dst.getD 0) (by simp),hA 7 (by simp),hx x (by simp[Op.operands]),hx y (by simp[Op.operands])]
 |call cl=>
  simp only at hA ⊢
  split
  ·rename_i x e h1 h2 h3
   rw[h1,h2]at hA
   simp only at hA
   have hxm:x∈(Op.call cl).operands:=by
    have:x∈cl.args.toList:=by rw[h2];simp
    simp only[Op.operands,Call.operands]
    simp[this]
    try (first|exact .inr (by simpa using this)|exact .inl (by simpa using this))
   rw[hx x hxm]
   split
   ·rename_i id hr
    rw[hA id (by rw[hr];simp[vl])]
   ·rfl
  ·rfl
 |indexAddr t x i=>
  simp only at hA ⊢
  rw[hx x (by simp[Op.operands]),hx i (by simp[Op.operands])]
  split
  ·rename_i e id k n _ hr _
   rw[hA id (by rw[hr];simp[vl])]
  ·rfl
 |load t x=>
  simp only at hA ⊢
  rw[hx x (by simp[Op.operands])]
  split
  ·rename_i e id n _ hr
   rw[hA id (by rw[hr];simp[vl]),hA (16*dst.getD 0) (by simp)]
  ·rfl
 |store t x y=>
  simp only at hA ⊢
  rw[hx x (by simp[Op.operands]),hx y (by simp[Op.operands])]
  split
  ·rename_i e id n j _ hr H5
   rw[hA id (by rw[hr];simp[vl]),hA j (by rw[H5];simp[vl])]
  ·rfl
 |move x=>
  simp only at hA ⊢
  rw[hx x (by simp[Op.operands])]
  cases yY:FY E 4000000 (dst.getD 0)
  ·rfl
  ·rw[yY]at hA
   simp only[aa]at hA ⊢
   split
   ·rename_i id hr
    rw[hA id (by rw[hr];simp[vl])]
   ·rfl
 |_=>rfl
theorem Pu{E:Env}{o:Oper}{ρ:Operand→aF}{H:Nat→Option az}{K:dp α}(h:Hv E o ρ H K=some r):
  ∃v rd ups,K v rd ups=some r∧ ∀ρ' H',(∀x∈o.op.operands,ρ' x=ρ x)→Ag rd H H'→ ∀K':dp α,Hv E o ρ' H' K'=K' v rd ups:=by
 unfold Hv at h
 cases hf:E.cV
 ·rw[hf]at h
  obtain⟨v,rd,ups,h1,h2⟩:=IP h
  exact⟨v,rd,ups,h1,fun ρ' H' hx hA K'=>by unfold Hv;rw[hf];exact h2 ρ' H' hx hA K'⟩
 ·rw[hf]at h
  simp only[aa]at h
  split at h
  ·rename_i u hs
   obtain⟨hg,h⟩:=aP h
   refine⟨_,_,_,h,fun ρ' H' hx hA K'=> ?_⟩
   unfold Hv;rw[hf];simp only[aa]
   rw[Fe hx hA,hs,Fc hx];simp only
   rw[hg];rfl
  ·rename_i hs
   obtain⟨v,rd,ups,h1,h2⟩:=IP h
   obtain⟨iU,h1⟩:=aP h1
   refine⟨_,_,_,h1,fun ρ' H' hx hA K'=> ?_⟩
   unfold Hv;rw[hf];simp only[aa]
   rw[Fe hx (λi hi=>hA i (bk _ hi)),hs,Fc hx];simp only
   rw[h2 ρ' H' hx (λi hi=>hA i (bF _ hi)),iU];rfl
structure Out where
 dst:Option Nat
 v:aF
 rd:List Nat
 ups:dR
def Out.app(u:Out)(σ:St):St:=(σ.pb u.ups).oK u.dst u.v
theorem Cg(σ:St)(d:Nat)(v:aF):(σ.oK (some d) v).T d=v:=lf σ d v
theorem GC(σ:St){d:Option Nat}{t:Nat}(v:aF)(h:d≠some t):(σ.oK d v).T t=σ.T t:=by
 cases d with
 |none=>rfl
 |some d=>exact pB σ v (λe=>h (by rw[e]))
theorem Eg{u:Out}{t:Nat}(h:u.dst=some t)(σ:St):(u.app σ).T t=u.v:=by unfold Out.app;rw[h];exact Cg _ _ _
theorem IQ{u:Out}{t:Nat}(h:u.dst≠some t)(σ:St):(u.app σ).T t=σ.T t:=by unfold Out.app;rw[GC _ _ h,D6]
theorem Tz(u:Out)(σ:St):(u.app σ).H=a8 σ.H u.ups:=by unfold Out.app;rw[Ee,D5]
def Pt(E:Env)(ops:List Oper)(o:Oper)(σ:St)(u:Out)(α:Type):Prop:=
 u.dst=o.dst∧ ∀σ':St,(∀t∈names ops o,σ'.T t=σ.T t)→Ag u.rd σ.H σ'.H→ ∀K':St→List Nat→List Nat→Option α,m6 E ops o σ' K'=K' (u.app σ') u.rd (u.ups.map (·.1))
theorem IS{ops:List Oper}{K:St→List Nat→List Nat→Option α}(h:m6 E ops o σ K=some r): ∃u:Out,K (u.app σ) u.rd (u.ups.map (·.1))=some r∧Pt E ops o σ u α:=by
 unfold m6 at h
 obtain⟨h,e0⟩:=ch h
 have XK: ∀σ':St,(∀t∈names ops o,σ'.T t=σ.T t)→ ∀x∈o.op.operands,σ'.ρ x=σ.ρ x:=by
  intro σ' hT x hx
  cases x with
  |tmp t=>
   refine hT t ?_
   unfold names
   refine bk _ (List.mem_filterMap.2 ⟨.tmp t,by simpa using hx,rfl⟩)
  |_=>rfl
 have bG:Hv E o σ.ρ σ.H (λv rd ups=>K ((σ.pb ups).oK o.dst v) rd (ups.map (·.1)))=some r→
   ∃u:Out,K (u.app σ) u.rd (u.ups.map (·.1))=some r∧u.dst=o.dst∧ ∀σ':St,(∀t∈names ops o,σ'.T t=σ.T t)→Ag u.rd σ.H σ'.H→ ∀K':St→List Nat→List Nat→Option α,
    Hv E o σ'.ρ σ'.H (λv rd ups=>K' ((σ'.pb ups).oK o.dst v) rd (ups.map (·.1)))=K' (u.app σ') u.rd (u.ups.map (·.1)):=by
  intro h
  obtain⟨v,rd,ups,h1,h2⟩:=Pu h
  exact⟨⟨o.dst,v,rd,ups⟩,h1,rfl,fun σ' hT hA K'=>h2 σ'.ρ σ'.H (XK σ' hT) hA _⟩
 have xq: ∀{K:St→List Nat→List Nat→Option α},K (σ.oK o.dst .HS) [] []=some r→ ∃u:Out,K (u.app σ) u.rd (u.ups.map (·.1))=some r∧u.dst=o.dst∧ ∀σ':St,∀K':St→List Nat→List Nat→Option α,K' (σ'.oK o.dst .HS) [] []=K' (u.app σ') u.rd (u.ups.map (·.1)):=
  λh=>⟨⟨o.dst,.HS,[],[]⟩,h,rfl,λ_ _=>rfl⟩
 simp only at h
 split at h
 ·rename_i hg
  obtain⟨u,h1,h2,h3⟩:=bG h
  refine⟨u,h1,h2,fun σ' hT hA K'=> ?_⟩
  unfold m6
  rw[e0]
  simp only
  rw[hg]
  exact h3 σ' hT hA K'
 ·rename_i j want hg
  split at h
  ·cases h
  ·rename_i t ht
   have GD:t∈names ops o:=by
    unfold names
    refine bF _ ?_
    rw[hg]
    simp[ht]
   split at h
   ·rename_i b hb
    have ki: ∀σ':St,σ'.T t=σ.T t→σ'.put t (.val .bool b)=σ':=fun σ' h'=>by
     rw[←hb,←h'];exact xp σ' t
    cases want<;>cases b
    ·obtain⟨u,h1,h2,h3⟩:=bG (by
      have:=ki σ rfl
      rw[this]at h;exact h)
     refine⟨u,h1,h2,fun σ' hT hA K'=> ?_⟩
     unfold m6
     rw[e0];simp only;rw[hg];simp only;rw[ht];simp only;rw[hT t GD,hb];simp only
     rw[ki σ' (hT t GD)]
     exact h3 σ' hT hA K'
    ·obtain⟨u,h1,h2,h3⟩:=xq (by
      have:=ki σ rfl
      rw[this]at h;exact h)
     refine⟨u,h1,h2,fun σ' hT hA K'=> ?_⟩
     unfold m6
     rw[e0];simp only;rw[hg];simp only;rw[ht];simp only;rw[hT t GD,hb];simp only
     rw[ki σ' (hT t GD)]
     exact h3 σ' K'
    ·obtain⟨u,h1,h2,h3⟩:=xq (by
      have:=ki σ rfl
      rw[this]at h;exact h)
     refine⟨u,h1,h2,fun σ' hT hA K'=> ?_⟩
     unfold m6
     rw[e0];simp only;rw[hg];simp only;rw[ht];simp only;rw[hT t GD,hb];simp only
     rw[ki σ' (hT t GD)]
     exact h3 σ' K'
    ·obtain⟨u,h1,h2,h3⟩:=bG (by
      have:=ki σ rfl
      rw[this]at h;exact h)
     refine⟨u,h1,h2,fun σ' hT hA K'=> ?_⟩
     unfold m6
     rw[e0];simp only;rw[hg];simp only;rw[ht];simp only;rw[hT t GD,hb];simp only
     rw[ki σ' (hT t GD)]
     exact h3 σ' hT hA K'
   ·rename_i hb
    obtain⟨u,h1,h2,h3⟩:=xq h
    refine⟨u,h1,h2,fun σ' hT hA K'=> ?_⟩
    unfold m6
    rw[e0];simp only;rw[hg];simp only;rw[ht];simp only;rw[hT t GD,hb]
    exact h3 σ' K'
   ·cases h
theorem Ff{ops:List Oper}: ∀(l:List Oper) (i:Nat) (σ:St) (lg:Log) (K:St→Log→Option α),F1 E ops l i σ lg K=some r→
  ∃us:List Out,us.length=l.length∧(∀j u o,us[j]? =some u→l[j]? =some o→Pt E ops o ((us.take j).foldl (fun σ u=>u.app σ) σ) u α)∧
   ∃NK,K (us.foldl (fun σ u=>u.app σ) σ) NK=some r∧(∀x∈lg,x∈NK)∧ ∀j u,us[j]? =some u→(i+j,u.rd,u.ups.map (·.1))∈NK
 |[],i,σ,lg,K,h=>⟨[],rfl,λj u o hj=>by simp at hj,lg,h,λ_ h=>h,λj u hj=>by simp at hj⟩
 |o::l,i,σ,lg,K,h=>by
  unfold F1 at h
  obtain⟨u,h1,h2⟩:=IS h
  obtain⟨us,hl,Ss,NK,hK,KJ,hj⟩:=Ff l (i+1) (u.app σ) _ K h1
  refine⟨u::us,by simp[hl],λj u' o' hu ho=> ?_,NK,hK,λx hx=>KJ x (aR _ hx),λj u' hu=> ?_⟩
  ·cases j with
   |zero=>simp at hu ho;subst hu ho;exact h2
   |succ j=>exact Ss j u' o' (by simpa using hu) (by simpa using ho)
  ·cases j with
   |zero=>simp at hu;subst hu;exact KJ _ bl
   |succ j=>
    have:=hj j u' (by simpa using hu)
    rwa [show i+1+j=i+(j+1)from by omega]at this
theorem GF{k:Nat}{ups:dR}(h:k∈keys ups)(H H':Nat→Option az):a8 H ups k=a8 H' ups k:=by
 induction ups generalizing H H' with
 |nil=>simp[keys]at h
 |cons u r ih=>
  show a8 (aC H u.1 u.2) r k=a8 (aC H' u.1 u.2) r k
  by_cases hk:k∈keys r
  ·exact ih hk _ _
  ·have hku:k=u.1:=by
    simp only[keys,bQ,bu]at h hk
    exact h.resolve_right hk
   rw[gz hk,gz hk,hku,ag,ag]
structure jG(us:List Out)(σ0:St)(S:Nat→Prop)(σ:St):Prop where
 T: ∀t,(∃j u,us[j]? =some u∧S j∧u.dst=some t∧(∀j' u',us[j']? =some u'→S j'→u'.dst=some t→j'≤j)∧σ.T t=u.v)∨((∀j u,us[j]? =some u→S j→u.dst≠some t)∧σ.T t=σ0.T t)
 H: ∀k,(∃j u,us[j]? =some u∧S j∧k∈keys u.ups∧(∀j' u',us[j']? =some u'→S j'→k∈keys u'.ups→j'≤j)∧σ.H k=a8 σ0.H u.ups k)∨((∀j u,us[j]? =some u→S j→k∉keys u.ups)∧σ.H k=σ0.H k)
theorem jG.IT{us:List Out}{σ0 σ σ':St}{S S':Nat→Prop}(h:jG us σ0 S σ)(h':jG us σ0 S' σ'){t:Nat}(hs: ∀j u,us[j]? =some u→u.dst=some t→(S j↔S' j)):σ.T t=σ'.T t:=by
 rcases h.T t with⟨j,u,h1,h2,h3,h4,h5⟩|⟨h1,h2⟩<;>rcases h'.T t with⟨j',u',jY,qI,Eh,XL,XM⟩|⟨jY,qI⟩
 ·have e1:=h4 j' u' jY ((hs j' u' jY Eh).2 qI) Eh
  have e2:=XL j u h1 ((hs j u h1 h3).1 h2) h3
  have:j=j':=ω
  subst this
  rw[h1]at jY;cases jY
  rw[h5,XM]
 ·exact absurd h3 (jY j u h1 ((hs j u h1 h3).1 h2))
 ·exact absurd Eh (h1 j' u' jY ((hs j' u' jY Eh).2 qI))
 ·rw[h2,qI]
theorem jG.IU{us:List Out}{σ0 σ σ':St}{S S':Nat→Prop}(h:jG us σ0 S σ)(h':jG us σ0 S' σ'){k:Nat}(hs: ∀j u,us[j]? =some u→k∈keys u.ups→(S j↔S' j)):σ.H k=σ'.H k:=by
 rcases h.H k with⟨j,u,h1,h2,h3,h4,h5⟩|⟨h1,h2⟩<;>rcases h'.H k with⟨j',u',jY,qI,Eh,XL,XM⟩|⟨jY,qI⟩
 ·have e1:=h4 j' u' jY ((hs j' u' jY Eh).2 qI) Eh
  have e2:=XL j u h1 ((hs j u h1 h3).1 h2) h3
  have:j=j':=ω
  subst this
  rw[h1]at jY;cases jY
  rw[h5,XM]
 ·exact absurd h3 (jY j u h1 ((hs j u h1 h3).1 h2))
 ·exact absurd Eh (h1 j' u' jY ((hs j' u' jY Eh).2 qI))
 ·rw[h2,qI]
theorem jG.unique{us:List Out}{σ0 σ σ':St}{S S':Nat→Prop}(h:jG us σ0 S σ)(h':jG us σ0 S' σ')(hs: ∀j u,us[j]? =some u→(S j↔S' j)):σ=σ':=by
 obtain⟨T,H⟩:=σ
 obtain⟨T',H'⟩:=σ'
 congr 1
 ·funext t;exact h.IT h' (λj u hj _=>hs j u hj)
 ·funext k;exact h.IU h' (λj u hj _=>hs j u hj)
theorem jG.step{us:List Out}{σ0 σ:St}{S:Nat→Prop}(h:jG us σ0 S σ){i:Nat}{u:Out}(hi:us[i]? =some u)(hc: ∀j u',us[j]? =some u'→S j→i<j→(∀t,u.dst=some t→u'.dst≠some t)∧ ∀k∈keys u.ups,k∉keys u'.ups):
  jG us σ0 (λj=>j=i∨S j) (u.app σ):=by
 refine⟨λt=> ?_,λk=> ?_⟩
 ·by_cases hd:u.dst=some t
  ·left
   refine⟨i,u,hi,.inl rfl,hd,λj' u' h1 h2 h3=> ?_,Eg hd σ⟩
   rcases h2 with rfl|h2
   ·exact aH _
   ·exact Nat.le_of_not_lt λc6=>(hc j' u' h1 h2 c6).1 t hd h3
  ·rw[IQ hd]
   rcases h.T t with⟨j,u1,h1,h2,h3,h4,h5⟩|⟨h1,h2⟩
   ·refine .inl ⟨j,u1,h1,.inr h2,h3,λj' u' jY qI Eh=> ?_,h5⟩
    rcases qI with rfl|qI
    ·rw[hi]at jY;cases jY;exact absurd Eh hd
    ·exact h4 j' u' jY qI Eh
   ·refine .inr ⟨λj u' jY qI=> ?_,h2⟩
    rcases qI with rfl|qI
    ·rw[hi]at jY;cases jY;exact hd
    ·exact h1 j u' jY qI
 ·rw[Tz]
  by_cases hd:k∈keys u.ups
  ·left
   refine⟨i,u,hi,.inl rfl,hd,λj' u' h1 h2 h3=> ?_,GF hd _ _⟩
   rcases h2 with rfl|h2
   ·exact aH _
   ·exact Nat.le_of_not_lt λc6=>(hc j' u' h1 h2 c6).2 k hd h3
  ·rw[gz hd]
   rcases h.H k with⟨j,u1,h1,h2,h3,h4,h5⟩|⟨h1,h2⟩
   ·refine .inl ⟨j,u1,h1,.inr h2,h3,λj' u' jY qI Eh=> ?_,h5⟩
    rcases qI with rfl|qI
    ·rw[hi]at jY;cases jY;exact absurd Eh hd
    ·exact h4 j' u' jY qI Eh
   ·refine .inr ⟨λj u' jY qI=> ?_,h2⟩
    rcases qI with rfl|qI
    ·rw[hi]at jY;cases jY;exact hd
    ·exact h1 j u' jY qI
theorem jG.start(us:List Out)(σ0:St):jG us σ0 (λ_=>False) σ0:=⟨λt=> .inr ⟨λ_ _ _ h=>h.elim,rfl⟩,λk=> .inr ⟨λ_ _ _ h=>h.elim,rfl⟩⟩
theorem jG.congr{us:List Out}{σ0 σ:St}{S S':Nat→Prop}(h:jG us σ0 S σ)(hs: ∀j,S j↔S' j):jG us σ0 S' σ:=by
 have:S=S':=funext λj=>propext (hs j)
 rw[←this];exact h
theorem jG.text(us:List Out)(σ0:St): ∀i,i≤us.length→jG us σ0 (λj=>j<i) ((us.take i).foldl (fun σ u=>u.app σ) σ0)
 |0,_=>(jG.start us σ0).congr λj=>by simp
 |i+1,hi=>by
  have ih:=jG.text us σ0 i ω
  have hu:us[i]? =some us[i]:=ba ω
  have:=ih.step hu (λj u' _ h2 h3=>ω)
  rw[wF,hu,List.foldl_append]
  exact this.congr λj=>by constructor<;>intro h<;>omega
def Pv(S:Nat→Prop)(o:Oper):Prop:= ∀e∈o.after,Region.binds .any e=true→S e.on
theorem xw{β:Type}{l m:List β}{i:Nat}{d:β}(h:i<l.length):(l++m).getD i d=l.getD i d:=by
 simp only[γ,kt h]
theorem xx{β:Type}{l:List β}{x d:β}:(l++[x]).getD l.length d=x:=by
 simp[γ]
theorem uD{acc:List Nat}{i:Nat}: ∀(es:List Edge) (s:Nat),(es.foldl (λs e=>cond (Region.binds .any e) (s|||2^e.on|||acc.getD e.on 0) s) s).testBit i=true→
  s.testBit i=true∨ ∃e∈es,Region.binds .any e=true∧(i=e.on∨(acc.getD e.on 0).testBit i=true)
 |[],s,h=> .inl h
 |e::es,s,h=>by
  rw[List.foldl_cons]at h
  rcases uD es _ h with h1|⟨e',h1,h2⟩
  ·cases hb:Region.binds .any e
   ·rw[hb]at h1;exact .inl h1
   ·rw[hb]at h1
    simp only[aa,Nat.testBit_or,js]at h1
    rcases h1 with(h1|h1)|h1
    ·exact .inl h1
    ·refine .inr ⟨e,bl,hb,.inl ?_⟩
     rw[Nat.testBit_two_pow]at h1
     simpa using (bO h1).symm
    ·exact .inr ⟨e,bl,hb,.inr h1⟩
  ·exact .inr ⟨e',aR _ h1,h2⟩
theorem uE{S:Nat→Prop}: ∀(l:List Oper) (acc:List Nat) (all:List Oper),all.length=acc.length+l.length→(∀j,l[j]? =all[acc.length+j]?)→
  (∀j o,all[j]? =some o→S j→Pv S o)→(∀j i,j<acc.length→S j→(acc.getD j 0).testBit i=true→S i)→
  ∀j o i,all[j]? =some o→(Pv S o∨S j)→((mJ l acc).getD j 0).testBit i=true→(j<acc.length→ ∀i,Pv S o→(acc.getD j 0).testBit i=true→S i)→S i
 |[],acc,all,hl,ia,hS,Ls,j,o,i,hj,Ch,hb,IV=>by
  have c6:j<all.length:=(lX.1 hj).1
  have qV:j<acc.length:=by simp at hl;omega
  rcases Ch with hp|hp
  ·exact IV qV i hp hb
  ·exact Ls j i qV hp hb
 |p::l,acc,all,hl,ia,hS,Ls,j,o,i,hj,Ch,hb,IV=>by
  unfold mJ at hb
  have qx:all[acc.length]? =some p:=by rw[←gr acc.length,←ia 0];rfl
  have TA: ∀i,Pv S p→(p.after.toList.foldl (λs e=>cond (Region.binds .any e) (s|||2^e.on|||acc.getD e.on 0) s) 0).testBit i=true→S i:=by
   intro i Aa hb
   rcases uD p.after.toList 0 hb with h1|⟨e,he,IW,h1⟩
   ·simp at h1
   ·have hSe:=Aa e (by simpa using he) IW
    rcases h1 with rfl|h1
    ·exact hSe
    ·by_cases c6:e.on<acc.length
     ·exact Ls e.on i c6 hSe h1
     ·rw[γ,eU ω]at h1;simp at h1
  refine uE l (acc++[p.after.toList.foldl (λs e=>cond (Region.binds .any e) (s|||2^e.on|||acc.getD e.on 0) s) 0]) all (by simp at hl ⊢;omega) (λj=> ?_) hS (λj' i' IB hS' bT=> ?_) j o i hj Ch hb (λc6 i' yF bT=> ?_)
  ·have:=ia (j+1)
   simp only[List.getElem?_cons_succ]at this
   rw[this]
   congr 1
   simp;omega
  ·by_cases c6:j'<acc.length
   ·rw[xw c6]at bT
    exact Ls j' i' c6 hS' bT
   ·have XN:j'=acc.length:=by simp at IB;omega
    subst XN
    rw[xx]at bT
    exact TA i' (hS _ p qx hS') bT
  ·by_cases qV:j<acc.length
   ·rw[xw qV]at bT
    exact IV qV i' yF bT
   ·have XN:j=acc.length:=by simp at c6;omega
    subst XN
    rw[qx]at hj;cases hj
    rw[xx]at bT
    exact TA i' yF bT
theorem forced{ops:List Oper}{S:Nat→Prop}(hS: ∀j o,ops[j]? =some o→S j→Pv S o){j i:Nat}(hj:ops[j]? =some o)(Ch:Pv S o∨S j)(hb:((mJ ops []).getD j 0).testBit i=true):S i:=
 uE ops [] ops (by simp) (λj=>by simp) hS (λj i h=>by simp at h) j o i hj Ch hb (λh=>by simp at h)
theorem g7{l m:List Nat}(h:meets l m=false){x:Nat}(h1:x∈l)(h2:x∈m):False:=by
 have:meets l m=true:=by
  unfold meets
  rw[wJ]
  refine⟨x,h1,?_⟩
  rw[wJ]
  exact⟨x,h2,jw x⟩
 rw[h]at this;cases this
structure Rnd(c:Ctx)(E:Env)(ops:Array Oper)(us:List Out)(σ0:St)(listed:Array Bool)(a:Act)(w:World):Prop where
 size:listed.size=ops.size
 closed: ∀j o,ops.toList[j]? =some o→listed.getD j false=true→Pv (λi=>listed.getD i false=true) o
 st: ∃σ,jG us σ0 (λj=>listed.getD j false=true) σ∧Inv c E σ a w
theorem qZ{listed:Array Bool}{j:Nat}(h:j<listed.size)(d:Bool):listed.getD j d=listed.getD j false:=by
 simp[Array.getD,h]
theorem As(hE:jF P E){ops:Array Oper}{us:List Out}{σ0 σn:St}{α:Type}(x0:α)(hl:us.length=ops.toList.length)
  (Ss: ∀(j:Nat) (u:Out) (o:Oper),us[j]? =some u→ops.toList[j]? =some o→Pt E ops.toList o ((us.take j).foldl (fun σ u=>u.app σ) σ0) u α)
  (hn:σn=us.foldl (fun σ u=>u.app σ) σ0)
  (c6: ∀(j:Nat) (o:Oper),ops.toList[j]? =some o→ ∀e∈o.after,Region.binds .any e=true→e.on<j)
  (Ci: ∀(j:Nat) (o:Oper) (i:Nat) (p:Oper),ops.toList[j]? =some o→ops.toList[i]? =some p→i<j→((mJ ops.toList []).getD j 0).testBit i=false→
   (∀d,p.dst=some d→o.dst≠some d∧d∉names ops.toList o)∧(∀d,o.dst=some d→d∉names ops.toList p))
  (KJ: ∀(j:Nat) (u:Out) (i:Nat) (v:Out),us[j]? =some u→us[i]? =some v→i<j→((mJ ops.toList []).getD j 0).testBit i=false→
   (∀k∈keys v.ups,k∉u.rd∧k∉keys u.ups)∧(∀k∈v.rd,k∉keys u.ups))
  (hq: ∀a' w',Inv c E σn a' w'→Q .normal a' w'):
  ∀(fuel:Nat) (listed:Array Bool) (a:Act) (w:World),((List.range ops.size).filter λj=> !(listed.getD j false)).length≤fuel→Rnd c E ops us σ0 listed a w→wpAny P .any ops Q fuel listed a w:=by
 have ia: ∀(listed:Array Bool) (a:Act) (w:World),Rnd c E ops us σ0 listed a w→Region.ready .any ops listed=[]→Q .normal a w:=by
  intro listed a w hR Pw
  obtain⟨hs,w9,σ,zo,hI⟩:=hR
  have TB: ∀j,j<ops.size→listed.getD j false=true:=by
   intro j
   induction j using Nat.strongRecOn with
   |_ j ih=>
    intro hj
    by_cases hb:listed.getD j false=true
    ·exact hb
    ·exfalso
     have ho:ops[j]? =some ops[j]:=Bp hj
     have:j∈Region.ready .any ops listed:=by
      rw[mem_ready]
      refine⟨by rw[qZ ω];simpa using hb,_,ho,λe he IW=> ?_⟩
      have hej:=c6 j ops[j] (by rw[dm];exact ho) e he IW
      exact ih e.on hej ω
     rw[Pw]at this
     cases this
  have hσ:σ=σn:=by
   rw[hn]
   have ht:=jG.text us σ0 us.length (aH _)
   rw[fR]at ht
   refine zo.unique ht λj u hj=> ?_
   have sv:j<us.length:=(lX.1 hj).1
   have hjo:j<ops.size:=by rw[hl,aJ]at sv;exact sv
   exact⟨λ_=>sv,λ_=>TB j hjo⟩
  exact hq a w (hσ▸hI)
 intro fuel
 induction fuel with
 |zero=>
  intro listed a w hf hR
  have Gp:Region.ready .any ops listed=[]:=by
   rw[List.eq_nil_iff_forall_not_mem]
   intro j hj
   rw[mem_ready]at hj
   obtain⟨h0,o,ho,_⟩:=hj
   have hjs:j<ops.size:=(fO.1 ho).1
   have sv:j<listed.size:=by rw[hR.size];exact hjs
   rw[qZ sv]at h0
   have gw:j∈(List.range ops.size).filter λj=> !(listed.getD j false):=by
    rw[oX];exact⟨o3.2 hjs,by rw[h0];rfl⟩
   have:((List.range ops.size).filter λj=> !(listed.getD j false))=[]:=ij ω
   rw[this]at gw;cases gw
  exact⟨Gp,ia listed a w hR Gp⟩
 |succ fuel ih=>
  intro listed a w hf hR
  refine⟨ia listed a w hR,λi hi=> ?_⟩
  have mj:=hi
  rw[mem_ready]at mj
  obtain⟨h0,o,ho,Ch⟩:=mj
  have XO:i<ops.size:=(fO.1 ho).1
  have vo:i<listed.size:=by rw[hR.size];exact XO
  rw[qZ vo]at h0
  obtain⟨hs,w9,σ,zo,hI⟩:=hR
  have Fg:ops.toList[i]? =some o:=by rw[dm];exact ho
  have hiu:i<us.length:=by rw[hl,aJ];exact XO
  have hu:us[i]? =some us[i]:=ba hiu
  have hPt:=Ss i us[i] o hu Fg
  have XP: ¬listed.getD i false=true:=by rw[h0];simp
  have Cj: ∀j p,ops.toList[j]? =some p→((j<i∧ ¬listed.getD j false=true)→((mJ ops.toList []).getD i 0).testBit j=false)∧((i<j∧listed.getD j false=true)→((mJ ops.toList []).getD j 0).testBit i=false):=by
   intro j p hj
   refine⟨λ⟨_,h2⟩=> ?_,λ⟨_,h2⟩=> ?_⟩
   ·rw[←fQ]
    intro hb
    exact h2 (forced w9 Fg (.inl Ch) hb)
   ·rw[←fQ]
    intro hb
    exact XP (forced w9 hj (.inr h2) hb)
  have IX: ∀(j:Nat) (u:Out),us[j]? =some u→ ∃p:Oper,ops.toList[j]? =some p∧u.dst=p.dst:=by
   intro j u hj
   have sv:j<us.length:=(lX.1 hj).1
   have hp:ops.toList[j]? =some ops.toList[j]:=ba ω
   exact⟨_,hp,(Ss j u _ hj hp).1⟩
  have NL:=jG.text us σ0 i ω
  have hT: ∀t∈names ops.toList o,σ.T t=((us.take i).foldl (fun σ u=>u.app σ) σ0).T t:=by
   intro t ht
   refine zo.IT NL λj u hj hd=> ?_
   obtain⟨p,hp,Px⟩:=IX j u hj
   have Px:p.dst=some t:=by rw[←Px,hd]
   constructor
   ·intro Ck
    refine Nat.lt_of_not_le λhle=> ?_
    rcases Nat.lt_or_eq_of_le hle with qV|heq
    ·exact(Ci j p i o hp Fg qV ((Cj j p hp).2 ⟨qV,Ck⟩)).2 t Px ht
    ·subst heq;exact XP Ck
   ·intro xy
    by_cases Ck:listed.getD j false=true
    ·exact Ck
    ·exact absurd ht ((Ci i o j p Fg hp xy ((Cj j p hp).1 ⟨xy,Ck⟩)).1 t Px).2
  have hH:Ag us[i].rd ((us.take i).foldl (fun σ u=>u.app σ) σ0).H σ.H:=by
   intro k hk
   refine zo.IU NL λj u hj hd=> ?_
   obtain⟨p,hp,Px⟩:=IX j u hj
   constructor
   ·intro Ck
    refine Nat.lt_of_not_le λhle=> ?_
    rcases Nat.lt_or_eq_of_le hle with qV|heq
    ·exact(KJ j u i us[i] hj hu qV ((Cj j p hp).2 ⟨qV,Ck⟩)).2 k hk hd
    ·subst heq;exact XP Ck
   ·intro xy
    by_cases Ck:listed.getD j false=true
    ·exact Ck
    ·exact absurd hk ((KJ i us[i] j u hu hj xy ((Cj j p hp).1 ⟨xy,Ck⟩)).1 k hd).1
  have TC:=hPt.2 σ hT hH
  have hIs:jG us σ0 (λj=>j=i∨listed.getD j false=true) (us[i].app σ):=by
   refine zo.step hu λj u hj Ck jC=> ?_
   obtain⟨p,hp,Px⟩:=IX j u hj
   have vv:=(Cj j p hp).2 ⟨jC,Ck⟩
   obtain⟨h1,h2⟩:=Ci j p i o hp Fg jC vv
   obtain⟨h3,h4⟩:=KJ j u i us[i] hj hu jC vv
   refine⟨λt ht=> ?_,λk hk=>(h3 k hk).2⟩
   rw[Px]
   exact(h1 t (by rw[←hPt.1];exact ht)).1
  have sJ: ∀j,(listed.setIfInBounds i true).getD j false=true↔(j=i∨listed.getD j false=true):=by
   intro j
   by_cases xy:j=i
   ·subst xy
    constructor
    ·intro _;exact .inl rfl
    ·intro _;simp[vo]
   ·rw[getD_set_ne false (cP xy)]
    exact⟨.inr,λh=>h.resolve_left xy⟩
  classical
  let K':St→List Nat→List Nat→Option α:=fun σ' _ _=>if σ'=us[i].app σ then some x0 else none
  have hK:m6 E ops.toList o σ K'=some x0:=by rw[TC K'];simp[K']
  have:=uB (Q:=Q) (next:=wpAny P .any ops Q fuel (listed.setIfInBounds i true)) hE hI hK (fun σ' a' w' rd wr hσ' uC=>by
   have hσ'':σ'=us[i].app σ:=by
    by_cases h:σ'=us[i].app σ
    ·exact h
    ·simp[K',h]at hσ'
   subst hσ''
   refine ih _ a' w' ?_ ⟨by simpa using hs,λj p hp Ck e he hb=> ?_,_,hIs.congr (λj=>(sJ j).symm),uC⟩
   ·have hlen:((List.range ops.size).filter λj=> !((listed.setIfInBounds i true).getD j false)).length<((List.range ops.size).filter λj=> !(listed.getD j false)).length:=by
     have Gq:((List.range ops.size).filter λj=> !((listed.setIfInBounds i true).getD j false))=((List.range ops.size).filter λj=> !(listed.getD j false)).filter λj=> !(Nat.beq j i):=by
      rw[List.filter_filter]
      apply List.filter_congr
      intro j _
      by_cases xy:j=i
      ·subst xy
       have h1:=(sJ j).2 (.inl rfl)
       rw[h1];simp
      ·have h1:Nat.beq j i=false:=by rw[←fQ,o9];exact xy
       rw[h1,getD_set_ne false (cP xy)];simp
     rw[Gq]
     refine List.length_filter_lt_length_iff_exists.2 ⟨i,?_,by simp⟩
     rw[oX];exact⟨o3.2 XO,by rw[h0];rfl⟩
    omega
   ·rcases(sJ j).1 Ck with rfl|Ck
    ·rw[Fg]at hp;cases hp
     exact(sJ _).2 (.inr (Ch e he hb))
    ·exact(sJ _).2 (.inr (w9 j p hp Ck e he hb)))
  unfold wpOp
  rw[ho]
  simp only
  split
  ·rename_i hw;rw[ae hw]at this;exact .inl this
  ·rename_i hw;rw[af hw]at this;exact this
theorem y4(hE:jF P E){id:Nat}{ops:Array Oper}{draw:Bool}(hI:Inv c E σ a w){K:St→Option α}(h:vM E ops draw σ K=some r)
  (hn: ∀σ' a' w',K σ'=some r→Inv c E σ' a' w'→Q .normal a' w'):(Code.region id ops draw).wp P Q a w:=by
 cases draw
 ·refine wp_region_list (xr hE ops.toList 0 σ [] a w _ hI h fun σ' NK a' w' h' uC=> ?_)
  exact hn σ' a' w' (aP h').2 uC
 ·unfold vM at h
  obtain⟨us,hl,Ss,lg,hK,_,TD⟩:=Ff _ _ _ _ _ h
  obtain⟨Iv,hK⟩:=aP hK
  simp only[aS,sa,bg]at Iv
  obtain⟨Ci,KJ⟩:=Iv
  unfold HU at Ci
  simp only[bg,kO]at Ci
  obtain⟨XQ,XR⟩:=Ci
  have hz: ∀j o,ops.toList[j]? =some o→(o,j)∈ops.toList.zipIdx:=λj o hj=>List.mem_zipIdx_iff_getElem?.2 hj
  refine wp_region_any hE.mixed (As (Q:=Q) (σ0:=σ) hE r hl Ss rfl (λj o hj e he IW=> ?_) (λj o i p hj hi jC hb=> ?_) (λj u i v hj hi jC hb=> ?_) (λa' w' uC=>hn _ a' w' hK uC) ops.size (Array.replicate ops.size false) a _ ?_ ?_)
  ·have:=XQ (o,j) (hz j o hj) e (by simpa using he)
   rw[IW]at this
   simpa [sf]using this
  ·have:=XR (o,j) (hz j o hj) (p,i) (hz i p hi)
   simp only[hb,o5,js,mU,Bool.or_eq_false_iff]at this
   have yQ: ¬Nat.ble j i=true:=by rw[sg];omega
   have this:=this.resolve_left yQ
   refine⟨λd hd=>⟨λTE=> ?_,λTE=> ?_⟩,λd hd TE=> ?_⟩
   ·exact g7 this.1 (x:=d) (by simp[hd]) (by simp[TE])
   ·exact g7 this.1 (x:=d) (by simp[hd]) (by simp[TE])
   ·exact g7 this.2 (x:=d) (by simp[hd]) TE
  ·unfold Nr at KJ
   simp only[kO]at KJ
   have IB:=TD j u hj
   have mj:=TD i v hi
   rw[c7]at IB mj
   have:=KJ _ IB _ mj
   simp only[hb,o5,js,mU,Bool.or_eq_false_iff]at this
   have yQ: ¬Nat.ble j i=true:=by rw[sg];omega
   have this:=this.resolve_left yQ
   refine⟨λk hk=>⟨λnf=> ?_,λnf=> ?_⟩,λk hk nf=> ?_⟩
   ·exact g7 this.1 (x:=k) hk (bk _ nf)
   ·exact g7 this.1 (x:=k) hk (bF _ nf)
   ·exact g7 this.2 (x:=k) hk nf
  ·refine ea (BA _ _) ?_
   rw[ji];exact aH _
  ·have hf: ∀j,(Array.replicate ops.size false).getD j false=false:=by
    intro j
    rw[lW,Array.getElem?_replicate]
    split<;>rfl
   obtain⟨⟨d,M,ν,hle,hc,yZ⟩,hs,hd,pC⟩:=hI
   refine⟨by simp,λj o _ hS=>(by rw[hf]at hS;cases hS),σ,(jG.start us σ).congr (λj=>(by rw[hf];simp)),⟨d,M,ν,hle,hc.tr (Tr.drew hc.mem),yZ⟩,hs,hd,pC⟩
theorem uF{L:Option (List (Nat×CM))}(hL: ∀L',L=some L'→fp L'=true){b:Code}{Q:Exit→Act→World→Prop}{step:St→(St→Option α)→Option α}
  (hs: ∀σ a w kn (Q':Exit→Act→World→Prop),Inv c E σ a w→step σ kn=some r→(∀σ' a' w',kn σ'=some r→Inv c E σ' a' w'→Q' .normal a' w')→(∀e a' w',e≠ .normal→Q e a' w'→Q' e a' w')→b.wp P Q' a w):
  ∀n σ a w,Inv c E σ a w→uh L step n σ=some r→Code.rounds P b Q n a w
 |0,σ,a,w,_,h=>by cases h
 |n+1,σ,a,w,hI,h=>by
  rw[rounds_succ]
  refine hs σ a w _ _ hI h (fun σ' a' w' h' uC=> ?_) (λe a' w' he hq=> ?_)
  ·obtain⟨σ'',Be,Py⟩:=qX uC hL h'
   exact uF hL hs n σ'' a' w' Py Be
  ·cases e<;>first|exact hq|exact absurd rfl he
theorem GG(hE:jF P E): ∀(cd:Code) (σ:St) (a:Act) (w:World) (k:St→Option α) (kx:Nat→St→Option α) (kr:St→Option α) (Q:Exit→Act→World→Prop),Inv c E σ a w→vN E cd σ k kx kr=some r→
  (∀σ' a' w',k σ'=some r→Inv c E σ' a' w'→Q .normal a' w')→(∀i σ' a' w',kx i σ'=some r→Inv c E σ' a' w'→Q (.exit i) a' w')→(∀σ' a' w',kr σ'=some r→Inv c E σ' a' w'→Q .ret a' w')→cd.wp P Q a w:=by
 intro cd
 induction cd with
 |skip=>intro σ a w k kx kr Q hI h hk _ _;exact wp_skip (hk σ a w h hI)
 |region id ops draw=>intro σ a w k kx kr Q hI h hk _ _;exact y4 hE hI h hk
 |seq x y ihx ihy=>
  intro σ a w k kx kr Q hI h hk hx hr
  refine wp_seq (ihx σ a w _ kx kr _ hI h (fun σ' a' w' h' uC=> ?_) hx hr)
  obtain⟨σ'',Be,Py⟩:=qX uC (λL' hL=>by
   cases hf:br y with
   |none=>rw[hf]at hL;cases hL
   |some i=>rw[hf]at hL;exact hE.Iz i L' hL) h'
  exact ihy σ'' a' w' k kx kr Q Py Be hk hx hr
 |cond x t e iht ihe=>
  intro σ a w k kx kr Q hI h hk hx hr
  obtain⟨b,hb,h⟩:=B9 (E:=E) (A:=fun σ'=>vN E t σ' k kx kr) (B:=fun σ'=>vN E e σ' k kx kr) hI h
  refine wp_cond hb ?_
  cases b
  ·exact ihe σ a w k kx kr Q hI h hk hx hr
  ·exact iht σ a w k kx kr Q hI h hk hx hr
 |block id x ih=>
  intro σ a w k kx kr Q hI h hk hx hr
  refine wp_block (ih σ a w k _ kr _ hI h hk (λi σ' a' w' h' uC=> ?_) hr)
  show if i=id then Q .normal a' w' else Q (.exit i) a' w'
  cases hb:Nat.beq i id
  ·have eX:i≠id:=λe=>by subst e;rw[show Nat.beq i i=true from jw i]at hb;cases hb
   rw[hb]at h'
   rw[af eX]
   exact hx i σ' a' w' h' uC
  ·rw[hb]at h'
   rw[ae (cJ hb)]
   exact hk σ' a' w' h' uC
 |loop b ih=>
  intro σ a w k kx kr Q hI h hk hx hr
  have hL: ∀L',(br b).bind E.pc=some L'→fp L'=true:=λL' hL=>by
   cases hf:br b with
   |none=>rw[hf]at hL;cases hL
   |some i=>rw[hf]at hL;exact hE.fp i L' hL
  obtain⟨σ',h',uC⟩:=qX hI hL h
  refine wp_loop_rounds E.N (uF hL (fun σ a w kn Q' hI h B7 hq=> ?_) E.N σ' a w uC h')
  exact ih σ a w kn kx kr Q' hI h B7 (λi σ' a' w' h' uC=>hq _ _ _ (by simp) (hx i σ' a' w' h' uC)) (fun σ' a' w' h' uC=>hq _ _ _ (by simp) (hr σ' a' w' h' uC))
 |rangeFunc f ps x y ihx ihy=>intro σ a w k kx kr Q hI h;cases h
 |exit id=>intro σ a w k kx kr Q hI h hk hx hr;exact wp_exit (hx id σ a w h hI)
 |scope x ih=>
  intro σ a w k kx kr Q hI h hk hx hr
  exact wp_scope_straight (ih σ a w k kx kr _ hI h hk hx hr)
 |label l=>intro σ a w k kx kr Q hI h hk _ _;exact wp_label (hk σ a w h hI)
 |goto l=>intro σ a w k kx kr Q hI h;cases h
 |ret=>intro σ a w k kx kr Q hI h hk hx hr;exact wp_ret (hr σ a w h hI)
 |refuse s=>intro σ a w k kx kr Q hI h;cases h
end VM
end
