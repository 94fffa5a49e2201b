/- A part of the proof of LotSlices of layer 23: a machine that reads a function of the program as an equation between values. -/
import Derived.Test.YthnjnpjmbabcaaaVm6
set_option linter.all false
open List renaming getD→γ
section
namespace VM
open Go
variable{α:Type}{r:α}
theorem zc{m:AM}{a:ax}{H:Nat→Option ar}{k:m.den→(Nat→Option ar)→List Nat→dh→dh→List (Nat×AM)→Option α}(h:ga m a H k=some r):
  ∃y rd uo uf io,∃g:(Nat→Option ar)→(Nat→Option ar),k y (g H) rd uo uf io=some r∧(∀H' i,H' i=H i→g H' i=g H i)∧
   ∀H',Ag rd H H'→ ∀k':m.den→(Nat→Option ar)→List Nat→dh→dh→List (Nat×AM)→Option α,ga m a H' k'=k' y (g H') rd uo uf io:=by
 have zd: ∀(d:Nat) (v:Option ar) (H':Nat→Option ar) (i:Nat),H' i=H i→au H' d v i=au H d v i:=by
  intro d v H' i hi
  by_cases hid:i=d
  ·subst hid;rw[aa,aa]
  ·rw[ae _ _ hid,ae _ _ hid,hi]
 unfold ga at h
 split at h
 ·rename_i τ k
  obtain⟨y,rd,ups,h1,h2⟩:=gx h
  cases ups with
  |nil=>
   refine⟨y,rd,[],[],[],λH=>H,h1,λ_ _ h=>h,λH' hA k'=> ?_⟩
   unfold ga;simp only;rw[h2 H' hA]
  |cons u rest=>
   refine⟨y,rd,[],u::rest,[],λH=>au H u.1 u.2,h1,λH' i hi=>zd _ _ H' i hi,λH' hA k'=> ?_⟩
   unfold ga;simp only;rw[h2 H' hA]
 ·rename_i e k
  split at h
  ·exact⟨[],[],[],[],[],λH=>H,h,λ_ _ h=>h,λ_ _ _=>rfl⟩
  ·rename_i id
   split at h
   ·rename_i e' l hid
    obtain⟨z,h1,h2⟩:=bw h
    refine⟨z,[id],_,_,_,λH=>au H id (some .gone),h1,λH' i hi=>zd _ _ H' i hi,λH' hA k'=> ?_⟩
    unfold ga;simp only;rw[hA id (by simp),hid];simp only;rw[h2]
   ·cases h
  ·cases h
 ·rename_i τ k
  split at h
  ·rename_i id
   split at h
   ·rename_i υ x hid
    obtain⟨z,h1,h2⟩:=bw h
    refine⟨z,[id],_,_,_,λH=>au H id (some .gone),h1,λH' i hi=>zd _ _ H' i hi,λH' hA k'=> ?_⟩
    unfold ga;simp only;rw[hA id (by simp),hid];simp only;rw[h2]
   ·cases h
  ·cases h
 ·rename_i f τ k
  split at h
  ·rename_i f' cs
   obtain⟨h1,h2⟩:=bI h
   obtain⟨x,rd,ups,h3,h4⟩:=zb h1
   cases ups with
   |nil=>
    refine⟨x,rd,[],[],[],λH=>H,h3,λ_ _ h=>h,λH' hA k'=> ?_⟩
    unfold ga;simp only;rw[h2,h4 H' hA]
   |cons _ _=>cases h3
  ·cases h
 ·cases h
 ·rename_i τ k
  split at h
  ·obtain⟨z,h1,h2⟩:=bw h
   refine⟨z,[],[],[],[],λH=>H,h1,λ_ _ h=>h,λH' hA k'=> ?_⟩
   unfold ga;simp only;rw[h2]
  ·cases h
 ·rename_i e k
  split at h
  ·rename_i id
   split at h
   ·rename_i e' l hid
    obtain⟨z,h1,h2⟩:=bw h
    refine⟨z,[id],_,_,_,λH=>au H id (some .gone),h1,λH' i hi=>zd _ _ H' i hi,λH' hA k'=> ?_⟩
    unfold ga;simp only;rw[hA id (by simp),hid];simp only;rw[h2]
   ·cases h
  ·cases h
 ·cases h
theorem ze: ∀{ms:List AM} {im:List ax} {H:Nat→Option ar} {wy:List Nat} {ND NF:dh} {NG:List (Nat×AM)} {K:HP ms→List Nat→dh→dh→List (Nat×AM)→Option α},kA ms im H wy ND NF NG K=some r→
  ∃x rd uo uf io,K x rd uo uf io=some r∧(∀i∈wy,i∈rd)∧ ∀H',Ag rd H H'→ ∀K':HP ms→List Nat→dh→dh→List (Nat×AM)→Option α,kA ms im H' wy ND NF NG K'=K' x rd uo uf io
 |[],[],H,wy,ND,NF,NG,K,h=>⟨(),_,_,_,_,h,λ_ h=>h,λ_ _ _=>rfl⟩
 |[m],[a],H,wy,ND,NF,NG,K,h=>by
  obtain⟨y,rd,uo,uf,io,g,h1,h2,h3⟩:=zc (h:ga m a H _=some r)
  exact⟨y,_,_,_,_,h1,λi hi=>bh _ hi,λH' hA K'=>h3 H' (λi hi=>hA i (aS _ hi)) _⟩
 |m::n::ms,a::im,H,wy,ND,NF,NG,K,h=>by
  obtain⟨y,rd,uo,uf,io,g,h1,h2,h3⟩:=zc (h:ga m a H _=some r)
  obtain⟨ys,nK,xW,xX,vq,h4,h5,h6⟩:=ze (ms:=n::ms) h1
  refine⟨(y,ys),nK,xW,xX,vq,h4,λi hi=>h5 i (bh _ hi),λH' hA K'=> ?_⟩
  refine(h3 H' (λi hi=>hA i (h5 i (aS _ hi))) _).trans ?_
  exact h6 (g H') (λi hi=>h2 H' i (hA i hi)) _
 |[],_::_,_,_,_,_,_,_,h=>by simp[kA]at h
 |[_],[],_,_,_,_,_,_,h=>by simp[kA]at h
 |[_],_::_::_,_,_,_,_,_,_,h=>by simp[kA]at h
 |_::_::_,[],_,_,_,_,_,_,h=>by simp[kA]at h
theorem EC{id i:Nat}: ∀{n:Nat},i∈yI id n↔id≤i∧i<id+n
 |0=>by simp[yI]
 |n+1=>by simp only[yI,bc,EC];omega
theorem ot{H H':Nat→Option ar}{id:Nat}: ∀{n:Nat},(∀i∈yI id n,H' i=H i)→lq H' id n=lq H id n
 |0,_=>rfl
 |n+1,h=>by
  unfold lq
  rw[h (id+n) (by simp[yI]),ot λi hi=>h i (by simp[yI,hi])]
theorem ED{E:Env}{f id:Nat}{im:List ax}{H:Nat→Option ar}{K:cN α}(h:rn E f im id H K=some r): ∃v rd ups,K v rd ups=some r∧ ∀H',Ag rd H H'→ ∀K':cN α,rn E f im id H' K'=K' v rd ups:=by
 unfold rn at h
 split at h
 ·cases h
 ·rename_i S hS
  obtain⟨x,rd,uo,uf,io,h1,_,h2⟩:=ze h
  obtain⟨y,hy,h3⟩:=la.1 h1
  obtain⟨h4,h5⟩:=aG h3
  refine⟨_,_,_,h5,λH' hA K'=> ?_⟩
  unfold rn
  rw[hS]
  simp only
  rw[h2 H' (λi hi=>hA i (bh _ (bh _ hi))),hy]
  simp only[ak]
  rw[ot (λi hi=>hA i (aS _ hi)),h4]
  rfl
theorem CI{t:Ty}{z:Bool}{a:ax}{lo hi mx:Option ax}{H:Nat→Option ar}{K:cN α}(h:iS t z a lo hi mx H K=some r): ∃v rd ups,K v rd ups=some r∧ ∀H',Ag rd H H'→ ∀K':cN α,iS t z a lo hi mx H' K'=K' v rd ups:=by
 unfold iS at h
 split at h
 ·obtain⟨h1,e1⟩:=bI h
  obtain⟨l,h2,e2⟩:=lH h1
  obtain⟨m,h3,e3⟩:=lH h2
  obtain⟨h4,e4⟩:=bI h3
  exact⟨_,_,_,h4,λH' _ K'=>by unfold iS;simp only;rw[e1,e2,e3,e4]⟩
 ·cases z
  ·obtain⟨h1,e1⟩:=bI (h:cond mx.isNone _ none=some r)
   obtain⟨l,h2,e2⟩:=lH h1
   obtain⟨m,h3,e3⟩:=lH h2
   obtain⟨h4,e4⟩:=bI h3
   exact⟨_,_,_,h4,λH' _ K'=>by unfold iS;simp only[aj];rw[e1,e2,e3,e4]⟩
  ·exact⟨_,_,_,h,λH' _ K'=>by unfold iS;rfl⟩
 ·rename_i e dT
  obtain⟨y,rd,ups,h1,e1⟩:=gx h
  cases z
  ·obtain⟨h2,e2⟩:=bI (h1:cond (mx.isNone||hi.isSome) _ none=some r)
   obtain⟨l,h3,e3⟩:=lH h2
   obtain⟨m,h4,e4⟩:=lH h3
   obtain⟨n,h5,e5⟩:=lH h4
   obtain⟨h6,e6⟩:=bI h5
   refine⟨_,_,_,h6,λH' hA K'=> ?_⟩
   unfold iS
   simp only
   rw[e1 H' hA]
   simp only[aj]
   rw[e2,e3,e4,e5,e6]
  ·refine⟨_,_,_,(h1:K .emp rd []=some r),λH' hA K'=> ?_⟩
   unfold iS
   simp only
   rw[e1 H' hA]
   rfl
 ·cases h
theorem vP{τ:Ty}{a i:ax}{H:Nat→Option ar}{K:cN α}(h:c3 τ a i H K=some r): ∃v rd ups,K v rd ups=some r∧ ∀H',Ag rd H H'→ ∀K':cN α,c3 τ a i H' K'=K' v rd ups:=by
 unfold c3 at h
 obtain⟨k,n,h,e0⟩:=iy h
 split at h
 ·split at h
  ·obtain⟨z,h1,e1⟩:=bw h
   obtain⟨h2,e2⟩:=bI h1
   exact⟨_,_,_,h2,λH' _ K'=>by unfold c3;rw[e0];simp only;rw[e1,e2]⟩
  ·split at h
   ·rename_i hid
    obtain⟨h1,e1⟩:=cR h
    obtain⟨h2,e2⟩:=bI h1
    exact⟨_,_,_,h2,λH' hA K'=>by unfold c3;rw[e0];simp only;rw[hA _ (by simp),hid];simp only;rw[e1,e2]⟩
   ·rename_i hid
    obtain⟨h1,e1⟩:=cR h
    obtain⟨h2,e2⟩:=bI h1
    exact⟨_,_,_,h2,λH' hA K'=>by unfold c3;rw[e0];simp only;rw[hA _ (by simp),hid];simp only;rw[e1,e2]⟩
   ·cases h
  ·cases h
 ·split at h
  ·obtain⟨υ,h1,e1⟩:=nS h
   obtain⟨h2,e2⟩:=cR h1
   obtain⟨h3,e3⟩:=bI h2
   exact⟨_,_,_,h3,λH' hA K'=>by unfold c3;rw[e0];simp only;rw[e1 H' (hA _ (by simp)),e2,e3]⟩
  ·obtain⟨z,h1,e1⟩:=bw h
   obtain⟨h2,e2⟩:=bI h1
   exact⟨_,_,_,h2,λH' _ K'=>by unfold c3;rw[e0];simp only;rw[e1,e2]⟩
  ·cases h
 ·cases h
theorem CJ{τ:Ty}{a i:ax}{K:ax→Option α}(h:m7 τ a i K=some r): ∃v,K v=some r∧ ∀K':ax→Option α,m7 τ a i K'=K' v:=by
 unfold m7 at h
 obtain⟨k,n,h,e0⟩:=iy h
 split at h
 ·obtain⟨z,h1,e1⟩:=bw h
  obtain⟨h2,e2⟩:=bI h1
  exact⟨_,h2,λK'=>by unfold m7;rw[e0];simp only;rw[e1,e2]⟩
 ·obtain⟨h2,e2⟩:=bI h
  exact⟨_,h2,λK'=>by unfold m7;rw[e0];simp only;rw[e2]⟩
 ·cases h
theorem EE{a:ax}{H:Nat→Option ar}{K:(υ:Ty)→υ.den→List Nat→Option α}(h:eI a H K=some r): ∃υ y rd,K υ y rd=some r∧ ∀H',Ag rd H H'→ ∀K':(υ:Ty)→υ.den→List Nat→Option α,eI a H' K'=K' υ y rd:=by
 unfold eI at h
 split at h
 ·exact⟨_,_,_,h,λ_ _ _=>rfl⟩
 ·split at h
  ·rename_i hid
   obtain⟨υ,y,h1,e1⟩:=de h
   exact⟨_,_,_,h1,λH' hA K'=>by unfold eI;simp only;rw[hA _ (by simp),hid];simp only;rw[e1]⟩
  ·rename_i hid
   split at h
   ·obtain⟨υ,y,h1,e1⟩:=de h
    exact⟨_,_,_,h1,λH' hA K'=>by unfold eI;simp only;rw[hA _ (by simp),hid];simp only;rw[e1]⟩
   ·cases h
  ·rename_i hid
   split at h
   ·obtain⟨υ,y,h1,e1⟩:=de h
    exact⟨_,_,_,h1,λH' hA K'=>by unfold eI;simp only;rw[hA _ (by simp),hid];simp only;rw[e1]⟩
   ·cases h
  ·cases h
 ·cases h
theorem CK{τ:Ty}{a v:ax}{H:Nat→Option ar}{K:cN α}(h:fm τ a v H K=some r): ∃u rd ups,K u rd ups=some r∧ ∀H',Ag rd H H'→ ∀K':cN α,fm τ a v H' K'=K' u rd ups:=by
 unfold fm at h
 split at h
 ·obtain⟨y,rd,ups,h1,e1⟩:=gx h
  split at h1
  ·rename_i hid
   obtain⟨z,h2,e2⟩:=gw h1
   exact⟨_,_,_,h2,λH' hA K'=>by
    unfold fm;simp only
    rw[e1 H' (λi hi=>hA i (a7 _ hi))]
    rw[hA _ (by simp),hid];simp only;rw[e2]⟩
  ·rename_i hid
   split at h1
   ·obtain⟨h2,e2⟩:=kL h1
    obtain⟨z,h3,e3⟩:=gw h2
    exact⟨_,_,_,h3,λH' hA K'=>by
     unfold fm;simp only
     rw[e1 H' (λi hi=>hA i (a7 _ hi))]
     rw[hA _ (by simp),hid];simp only;rw[e2,e3]⟩
   ·cases h1
  ·cases h1
 ·cases h
theorem Bu{j:Nat}{q:List Step}{τ:Ty}{x:τ.den}{H:Nat→Option ar}{k:τ.den→dh→Option α}(h:qE j q τ x H k=some r): ∃z ups,k z ups=some r∧ ∀H',H' j=H j→ ∀k':τ.den→dh→Option α,qE j q τ x H' k'=k' z ups:=by
 unfold qE at h
 split at h
 ·rename_i hj
  obtain⟨z,h1,e1⟩:=gw h
  exact⟨_,_,h1,λH' hA k'=>by unfold qE;rw[hA,hj];simp only;rw[e1]⟩
 ·rename_i hj
  obtain⟨z,h1,e1⟩:=gw h
  exact⟨_,_,h1,λH' hA k'=>by unfold qE;rw[hA,hj];simp only;rw[e1]⟩
 ·cases h
abbrev P5(F:(Nat→Option ar)→cN α→Option α)(H:Nat→Option ar)(K:cN α)(r:α):Prop:=
 ∃v rd ups,K v rd ups=some r∧ ∀H',Ag rd H H'→ ∀K':cN α,F H' K'=K' v rd ups
theorem EF{τ:Ty}{a:ax}{H:Nat→Option ar}{K:cN α}(h:(eI a H fun υ y rd=>aP υ τ y λz=>K (.val τ z) rd [])=some r):
  P5 (λH K=>eI a H fun υ y rd=>aP υ τ y λz=>K (.val τ z) rd []) H K r:=by
 obtain⟨υ,y,rd,h1,e1⟩:=EE h
 obtain⟨z,h2,e2⟩:=bw h1
 exact⟨_,_,_,h2,λH' hA K'=>by simp only;rw[e1 H' hA,e2]⟩
theorem NH{id:Nat}{p:List Step}{H:Nat→Option ar}{K:(υ:Ty)→υ.den→List Nat→Option α}(h:eI (.dg id p) H K=some r): ∃υ y,K υ y [id]=some r:=by
 unfold eI at h
 simp only at h
 split at h
 ·obtain⟨υ,y,h1,_⟩:=de h;exact⟨υ,y,h1⟩
 ·split at h
  ·obtain⟨υ,y,h1,_⟩:=de h;exact⟨υ,y,h1⟩
  ·cases h
 ·split at h
  ·obtain⟨υ,y,h1,_⟩:=de h;exact⟨υ,y,h1⟩
  ·cases h
 ·cases h
theorem EG{τ:Ty}{id:Nat}{p:List Step}{H:Nat→Option ar}{K:cN α}(h:(eI (.dg id p) H fun υ y rd=>aP υ τ y λz=>K (.val τ z) rd [])=some r):
  ∃z,K (.val τ z) [id] []=some r∧ ∀H',H' id=H id→ ∀K':cN α,(eI (.dg id p) H' fun υ y rd=>aP υ τ y λz=>K' (.val τ z) rd [])=K' (.val τ z) [id] []:=by
 unfold eI at h
 simp only at h
 split at h
 ·rename_i hid
  obtain⟨υ,y,h1,e1⟩:=de h
  obtain⟨z,h2,e2⟩:=bw h1
  exact⟨_,h2,λH' hA K'=>by unfold eI;simp only;rw[hA,hid];simp only;rw[e1,e2]⟩
 ·rename_i hid
  split at h
  ·obtain⟨υ,y,h1,e1⟩:=de h
   obtain⟨z,h2,e2⟩:=bw h1
   exact⟨_,h2,λH' hA K'=>by unfold eI;simp only;rw[hA,hid];simp only;rw[e1,e2]⟩
  ·cases h
 ·rename_i hid
  split at h
  ·obtain⟨υ,y,h1,e1⟩:=de h
   obtain⟨z,h2,e2⟩:=bw h1
   exact⟨_,h2,λH' hA K'=>by unfold eI;simp only;rw[hA,hid];simp only;rw[e1,e2]⟩
  ·cases h
 ·cases h
theorem zf{τ:Ty}{a:ax}{H:Nat→Option ar}{K:cN α}(h:kB τ a H K=some r):P5 (kB τ a) H K r:=by
 unfold kB at h
 simp only at h
 split at h
 ·rename_i id p
  split at h
  ·rename_i υ x q j hid
   cases hp:vA p q
   ·cases xa:n0 p q
    ·rw[hp,xa]at h
     simp only[aj]at h
     obtain⟨υ',y,h1,e1⟩:=de h
     obtain⟨z,h2,e2⟩:=bw h1
     exact⟨_,_,_,h2,λH' hA K'=>by
      unfold kB;simp only;rw[hA id (by simp),hid];simp only
      rw[hp,xa];simp only[aj];rw[e1,e2]⟩
    ·rw[hp,xa]at h
     simp only[aj,ah]at h
     obtain⟨z,ups,h1,e1⟩:=Bu h
     obtain⟨υ',y,h2,e2⟩:=de h1
     obtain⟨z',h3,e3⟩:=bw h2
     exact⟨_,_,_,h3,λH' hA K'=>by
      unfold kB;simp only;rw[hA id (by simp),hid];simp only
      rw[hp,xa];simp only[aj,ah];rw[e1 H' (hA j (by simp)),e2,e3]⟩
   ·rw[hp]at h
    simp only[ah]at h
    obtain⟨h1,e1⟩:=bI h
    exact⟨_,_,_,h1,λH' hA K'=>by
     unfold kB;simp only;rw[hA id (by simp),hid];simp only
     rw[hp];simp only[ah];rw[e1]⟩
  ·rename_i gX
   obtain⟨z,h1,e1⟩:=EG h
   refine⟨_,_,_,h1,λH' hA K'=> ?_⟩
   unfold kB;simp only;rw[hA id (by simp)]
   split
   ·rename_i hid;exact absurd hid (gX _ _ _ _)
   ·exact e1 H' (hA id (by simp)) K'
 ·rename_i gX
  obtain⟨v,rd,ups,h1,e1⟩:=EF h
  refine⟨v,rd,ups,h1,λH' hA K'=> ?_⟩
  have:kB τ a H' K'=eI a H' fun υ y rd=>aP υ τ y λz=>K' (.val τ z) rd []:=by
   unfold kB
   cases a<;>first|rfl|exact absurd rfl (gX _ _)
  rw[this]
  exact e1 H' hA K'
theorem pW{τ:Ty}{id k:Nat}{e:Ty}{q:List Step}{υ:Ty}{x:υ.den}{H:Nat→Option ar}{K:cN α}(h:oh τ id k e q υ x H K=some r):
  ∃v ups,K v [id,k] ups=some r∧ ∀H',H' k=H k→ ∀K':cN α,oh τ id k e q υ x H' K'=K' v [id,k] ups:=by
 unfold oh at h
 split at h
 ·rename_i hid
  obtain⟨h1,e1⟩:=cR h
  obtain⟨h2,e2⟩:=cR h1
  obtain⟨z,h3,e3⟩:=gw h2
  exact⟨_,_,h3,λH' hA K'=>by unfold oh;rw[hA,hid];simp only;rw[e1,e2,e3]⟩
 ·cases h
theorem qQ{τ:Ty}{id:Nat}{p:List Step}{v:ax}{H:Nat→Option ar}{K:cN α}(h:fm τ (.dg id p) v H K=some r):
  ∃u rd ups,id∈rd∧K u rd ups=some r∧ ∀H',Ag rd H H'→ ∀K':cN α,fm τ (.dg id p) v H' K'=K' u rd ups:=by
 unfold fm at h
 simp only at h
 obtain⟨y,rd,ups,h1,e1⟩:=gx h
 split at h1
 ·rename_i hid
  obtain⟨z,h2,e2⟩:=gw h1
  exact⟨_,_,_,by simp,h2,λH' hA K'=>by
   unfold fm;simp only
   rw[e1 H' (λi hi=>hA i (a7 _ hi))]
   rw[hA _ (by simp),hid];simp only;rw[e2]⟩
 ·rename_i hid
  split at h1
  ·obtain⟨h2,e2⟩:=kL h1
   obtain⟨z,h3,e3⟩:=gw h2
   exact⟨_,_,_,by simp,h3,λH' hA K'=>by
    unfold fm;simp only
    rw[e1 H' (λi hi=>hA i (a7 _ hi))]
    rw[hA _ (by simp),hid];simp only;rw[e2,e3]⟩
  ·cases h1
 ·cases h1
theorem qR{E:Env}{τ:Ty}{a v:ax}{H:Nat→Option ar}{K:cN α}(h:eb E τ a v H K=some r):
  ∃u rd ups,K u rd ups=some r∧ ∀H',Ag rd H H'→ ∀K':cN α,eb E τ a v H' K'=K' u rd ups:=by
 have h0:=h
 unfold eb at h
 simp only at h
 split at h
 ·rename_i id p
  split at h
  ·rename_i υ x hid
   split at h
   ·rename_i q e k iU
    cases hp:vA p q
    ·rw[hp]at h
     simp only[aj]at h
     obtain⟨u,rd,ups,hi,h1,e1⟩:=qQ h
     refine⟨u,rd,ups,h1,λH' hA K'=> ?_⟩
     unfold eb;simp only;rw[hA id hi,hid];simp only;rw[iU];simp only;rw[hp];simp only[aj]
     exact e1 H' hA K'
    ·rw[hp]at h
     simp only[ah]at h
     obtain⟨u,ups,h1,e1⟩:=pW h
     refine⟨u,_,ups,h1,λH' hA K'=> ?_⟩
     unfold eb;simp only;rw[hA id (by simp),hid];simp only;rw[iU];simp only;rw[hp];simp only[ah]
     exact e1 H' (hA k (by simp)) K'
   ·rename_i gX
    obtain⟨u,rd,ups,hi,h1,e1⟩:=qQ h
    refine⟨u,rd,ups,h1,λH' hA K'=> ?_⟩
    unfold eb;simp only;rw[hA id hi,hid];simp only
    exact e1 H' hA K'
  ·rename_i υ x q j hid
   have D7:(fk true v H τ λy rd ups=>mD τ y p υ x λz=>K .any (id::rd) (ups++[(id,some (cond (n0 p q) (.obj υ z) (.cQ υ z q j)))]))=some r→
     ∃u rd ups,id∈rd∧K u rd ups=some r∧ ∀H',Ag rd H H'→ ∀K':cN α,(fk true v H' τ λy rd ups=>mD τ y p υ x λz=>K' .any (id::rd) (ups++[(id,some (cond (n0 p q) (.obj υ z) (.cQ υ z q j)))]))=K' u rd ups:=by
    intro h
    obtain⟨y,rd,ups,h1,e1⟩:=gx h
    obtain⟨z,h2,e2⟩:=gw h1
    exact⟨_,_,_,by simp,h2,λH' hA K'=>by rw[e1 H' (λi hi=>hA i (a7 _ hi)),e2]⟩
   split at h
   ·rename_i q' e k iU
    cases hp:(vA p q&&vA q q')
    ·rw[hp]at h
     simp only[aj]at h
     obtain⟨u,rd,ups,hi,h1,e1⟩:=D7 h
     refine⟨u,rd,ups,h1,λH' hA K'=> ?_⟩
     unfold eb;simp only;rw[hA id hi,hid];simp only;rw[iU];simp only;rw[hp];simp only[aj]
     exact e1 H' hA K'
    ·rw[hp]at h
     simp only[ah]at h
     obtain⟨u,ups,h1,e1⟩:=pW h
     refine⟨u,_,ups,h1,λH' hA K'=> ?_⟩
     unfold eb;simp only;rw[hA id (by simp),hid];simp only;rw[iU];simp only;rw[hp];simp only[ah]
     exact e1 H' (hA k (by simp)) K'
   ·rename_i gX
    obtain⟨u,rd,ups,hi,h1,e1⟩:=D7 h
    refine⟨u,rd,ups,h1,λH' hA K'=> ?_⟩
    unfold eb;simp only;rw[hA id hi,hid];simp only
    exact e1 H' hA K'
  ·rename_i Rl Rm
   obtain⟨u,rd,ups,hi,h1,e1⟩:=qQ h
   refine⟨u,rd,ups,h1,λH' hA K'=> ?_⟩
   unfold eb;simp only;rw[hA id hi]
   split
   ·rename_i hid;exact absurd hid (Rl _ _)
   ·rename_i hid;exact absurd hid (Rm _ _ _ _)
   ·exact e1 H' hA K'
 ·rename_i gX
  obtain⟨u,rd,ups,h1,e1⟩:=CK h
  refine⟨u,rd,ups,h1,λH' hA K'=> ?_⟩
  have:eb E τ a v H' K'=fm τ a v H' K':=by
   unfold eb
   cases a<;>first|rfl|exact absurd rfl (gX _ _)
  rw[this]
  exact e1 H' hA K'
theorem CL{E:Env}{τ:Ty}{a v:ax}{H:Nat→Option ar}{K:cN α}(h:jS E τ a v H K=some r):
  ∃u rd ups,K u rd ups=some r∧ ∀H',Ag rd H H'→ ∀K':cN α,jS E τ a v H' K'=K' u rd ups:=by
 unfold jS at h
 split at h
 ·rename_i id υ y n
  split at h
  ·rename_i m e iU
   cases sP:Nat.beq m n
   ·rw[sP]at h
    simp only[aj]at h
    obtain⟨u,rd,ups,h1,e1⟩:=qR h
    exact⟨u,rd,ups,h1,λH' hA K'=>by unfold jS;simp only;rw[iU];simp only;rw[sP];simp only[aj];exact e1 H' hA K'⟩
   ·rw[sP]at h
    simp only[ah]at h
    obtain⟨h1,e1⟩:=cR h
    obtain⟨υ',h2,e2⟩:=nS h1
    obtain⟨h3,e3⟩:=cR h2
    obtain⟨h4,e4⟩:=nT h3
    exact⟨_,_,_,h4,λH' hA K'=>by unfold jS;simp only;rw[iU];simp only;rw[sP];simp only[ah];rw[e1,e2 H' (hA _ (by simp)),e3,e4 H' (hA _ (by simp))]⟩
  ·rename_i gX
   obtain⟨u,rd,ups,h1,e1⟩:=qR h
   refine⟨u,rd,ups,h1,λH' hA K'=> ?_⟩
   unfold jS;simp only
   exact e1 H' hA K'
 ·rename_i gX
  obtain⟨u,rd,ups,h1,e1⟩:=qR h
  refine⟨u,rd,ups,h1,λH' hA K'=> ?_⟩
  unfold jS
  split
  ·exact absurd rfl (gX _ _ _ _ rfl)
  ·exact e1 H' hA K'
theorem CN{E:Env}{t:Ty}{z:Bool}{a:ax}{lo hi mx:Option ax}{H:Nat→Option ar}{K:cN α}(h:m6 E t z a lo hi mx H K=some r): ∃v rd ups,K v rd ups=some r∧ ∀H',Ag rd H H'→ ∀K':cN α,m6 E t z a lo hi mx H' K'=K' v rd ups:=by
 unfold m6 at h
 split at h
 ·rename_i e id U7 PY
  obtain⟨k,i,h1,e1⟩:=iy h
  split at h1
  ·rename_i e' l hid
   obtain⟨h2,e2⟩:=cR h1
   obtain⟨h3,e3⟩:=bI h2
   refine⟨_,_,_,h3,λH' hA K'=> ?_⟩
   unfold m6;rw[PY];simp only
   rw[e1,hA id (by simp),hid];simp only
   rw[e2,e3]
  ·cases h1
 ·rename_i gX
  obtain⟨v,rd,ups,h1,e1⟩:=CI h
  refine⟨v,rd,ups,h1,λH' hA K'=> ?_⟩
  unfold m6
  split
  ·rename_i PY;exact absurd rfl (gX _ _ _ PY rfl rfl rfl rfl)
  ·exact e1 H' hA K'
theorem CO{e:Ty}{a:ax}{H:Nat→Option ar}{K:cN α}(h:ow e a H K=some r): ∃v rd ups,K v rd ups=some r∧ ∀H',Ag rd H H'→ ∀K':cN α,ow e a H' K'=K' v rd ups:=by
 unfold ow at h
 split at h
 ·rename_i id e' lo
  obtain⟨h1,e1⟩:=cR h
  split at h1
  ·rename_i e2 l hid
   obtain⟨z,h2,e3⟩:=bw h1
   refine⟨_,_,_,h2,λH' hA K'=> ?_⟩
   unfold ow;simp only
   rw[e1,hA id (by simp),hid];simp only
   rw[e3]
  ·cases h1
 ·cases h
theorem qS{E:Env}{τ:Ty}{a v:ax}{H:Nat→Option ar}{K:cN α}(h:jT E τ a v H K=some r):
  ∃u rd ups,K u rd ups=some r∧ ∀H',Ag rd H H'→ ∀K':cN α,jT E τ a v H' K'=K' u rd ups:=by
 unfold jT at h
 split at h
 ·rename_i id υ y n j
  split at h
  ·rename_i m e iU
   obtain⟨h1,e1⟩:=bI h
   obtain⟨h2,e2⟩:=cR h1
   obtain⟨υ',h3,e3⟩:=nS h2
   obtain⟨h4,e4⟩:=cR h3
   split at h4
   ·rename_i e' l hj
    obtain⟨h5,e5⟩:=cR h4
    refine⟨_,_,_,h5,λH' hA K'=> ?_⟩
    unfold jT;simp only;rw[iU];simp only
    rw[e1,e2,e3 H' (hA _ (by simp)),e4,hA j (by simp),hj];simp only
    rw[e5]
   ·cases h4
  ·cases h
 ·rename_i gX
  obtain⟨u,rd,ups,h1,e1⟩:=CL h
  refine⟨u,rd,ups,h1,λH' hA K'=> ?_⟩
  unfold jT
  split
  ·exact absurd rfl (gX _ _ _ _ _ rfl)
  ·exact e1 H' hA K'
theorem Bv{k:Nat}: ∀(ups:dh) {H H':Nat→Option ar},H' k=H k→aN H' ups k=aN H ups k
 |[],_,_,h=>h
 |u::r,H,H',h=>by
  show aN (au H' u.1 u.2) r k=aN (au H u.1 u.2) r k
  refine Bv r ?_
  by_cases e:k=u.1
  ·subst e;rw[aa,aa]
  ·rw[ae _ _ e,ae _ _ e,h]
theorem CP{E:Env}{τ:Ty}{a v:ax}{H:Nat→Option ar}{K:cN α}(h:iT E τ a v H K=some r):
  ∃u rd ups,K u rd ups=some r∧ ∀H',Ag rd H H'→ ∀K':cN α,iT E τ a v H' K'=K' u rd ups:=by
 unfold iT at h
 split at h
 ·rename_i id n k
  cases hb:JM E id n
  ·rw[hb]at h
   simp only[aj]at h
   obtain⟨u,rd,ups,h1,e1⟩:=qS h
   exact⟨u,rd,ups,h1,λH' hA K'=>by unfold iT;simp only;rw[hb];simp only[aj];exact e1 H' hA K'⟩
  ·rw[hb]at h
   simp only[ah]at h
   split at h
   ·rename_i υ x q j hid
    cases hp:vA q [.dw n]
    ·rw[hp]at h
     simp only[aj]at h
     split at h
     ·rename_i e Cr
      obtain⟨z,ups,h1,e1⟩:=Bu h
      obtain⟨u,dy,h2,e2⟩:=pW h1
      refine⟨_,_,_,h2,λH' hA K'=> ?_⟩
      unfold iT;simp only;rw[hb];simp only[ah]
      rw[hA id (by simp),hid];simp only
      rw[hp];simp only[aj]
      rw[Cr];simp only
      rw[e1 H' (hA j (by simp)),e2 _ (Bv ups (hA k (by simp)))]
     ·cases h
    ·rw[hp]at h
     simp only[ah]at h
     obtain⟨u,rd,ups,h1,e1⟩:=qS h
     refine⟨_,_,_,h1,λH' hA K'=> ?_⟩
     unfold iT;simp only;rw[hb];simp only[ah]
     rw[hA id (by simp),hid];simp only
     rw[hp];simp only[ah]
     exact e1 H' (λi hi=>hA i (a7 _ hi)) _
   ·rename_i υ x hid
    split at h
    ·rename_i e Cr
     obtain⟨u,dy,h2,e2⟩:=pW h
     refine⟨_,_,_,h2,λH' hA K'=> ?_⟩
     unfold iT;simp only;rw[hb];simp only[ah]
     rw[hA id (by simp),hid];simp only
     rw[Cr];simp only
     exact e2 H' (hA k (by simp)) K'
    ·cases h
   ·cases h
 ·rename_i gX
  obtain⟨u,rd,ups,h1,e1⟩:=qS h
  refine⟨u,rd,ups,h1,λH' hA K'=> ?_⟩
  unfold iT
  split
  ·exact absurd rfl (gX _ _ _ rfl)
  ·exact e1 H' hA K'
theorem EH{E:Env}{τ:Ty}{a:ax}{H:Nat→Option ar}{K:cN α}(h:pA E τ a H K=some r):
  ∃u rd ups,K u rd ups=some r∧ ∀H',Ag rd H H'→ ∀K':cN α,pA E τ a H' K'=K' u rd ups:=by
 unfold pA at h
 split at h
 ·rename_i id Cn
  split at h
  ·rename_i υ x n j hid
   obtain⟨z,h1,e1⟩:=bw h
   refine⟨_,_,_,h1,λH' hA K'=> ?_⟩
   unfold pA;rw[Cn];simp only;rw[hA id (by simp),hid];simp only
   rw[e1]
  ·rename_i gX
   obtain⟨u,rd,ups,h1,e1⟩:=zf h
   refine⟨_,_,_,h1,λH' hA K'=> ?_⟩
   unfold pA;rw[Cn];simp only;rw[hA id (by simp)]
   split
   ·rename_i hid;exact absurd hid (gX _ _ _ _)
   ·exact e1 H' (λi hi=>hA i (a7 _ hi)) _
 ·rename_i gX
  obtain⟨u,rd,ups,h1,e1⟩:=zf h
  refine⟨u,rd,ups,h1,λH' hA K'=> ?_⟩
  unfold pA
  split
  ·rename_i Cn;exact absurd rfl (gX _ Cn)
  ·exact e1 H' hA K'
theorem Bx{H:Nat→Option ar}{id:Nat}{τ:Ty}{x:τ.den}{q:List Step}{e:Ty}{K:cN α}(h:sq H id τ x q e K=some r):P5 (λH K=>sq H id τ x q e K) H K r:=by
 obtain⟨h1,h2,h3⟩:=tN h
 exact⟨_,_,_,h3,λH' hA K'=>by unfold sq il;simp only;rw[hA id (by simp),h1,hA (id+1) (by simp),h2]⟩
theorem EI{E:Env}{o:Oper}{ρ:Operand→ax}{H:Nat→Option ar}{K:cN α}(h:kj E o ρ H K=some r):
  ∃v rd ups,K v rd ups=some r∧ ∀ρ' H',(∀x∈o.op.operands,ρ' x=ρ x)→Ag rd H H'→ ∀K':cN α,kj E o ρ' H' K'=K' v rd ups:=by
 obtain⟨dst,op,type,pos,after,guard⟩:=o
 unfold kj at h
 simp only at h
 have Hv: ∀{ρ':Operand→ax} (xs:List Operand),(∀x∈xs,ρ' x=ρ x)→xs.map ρ'=xs.map ρ:=λxs hx=>fc hx
 have xp: ∀{ρ':Operand→ax} (ps:Array (Nat×Operand)),(∀x∈ps.map (·.2),ρ' x=ρ x)→partsOf ρ' ps=partsOf ρ ps:=λps hp=>by
  unfold partsOf
  exact fc λp hm=>by rw[hp p.2 (Array.mem_map.2 ⟨p,by simpa using hm,rfl⟩)]
 have Kv: ∀{ρ':Operand→ax} (x:Option Operand),(∀y∈x,ρ' y=ρ y)→x.map ρ'=x.map ρ:=λx hx=>by
  cases x with
  |none=>rfl
  |some x=>simp[hx x rfl]
 split at h
 ·
  rename_i x
  exact⟨_,_,_,h,fun ρ' H' hx _ K'=>by unfold kj;simp only;rw[hx x (by simp[Op.operands])]⟩
 ·rename_i x
  exact⟨_,_,_,h,fun ρ' H' hx _ K'=>by unfold kj;simp only;rw[hx x (by simp[Op.operands])]⟩
 ·rename_i x y z
  split at h
  ·rename_i t hx
   cases t
   ·exact⟨_,_,_,(h:K (ρ z) [] []=some r),fun ρ' H' jJ _ K'=>by unfold kj;simp only;rw[jJ x (by simp[Op.operands]),hx,jJ z (by simp[Op.operands])];rfl⟩
   ·exact⟨_,_,_,(h:K (ρ y) [] []=some r),fun ρ' H' jJ _ K'=>by unfold kj;simp only;rw[jJ x (by simp[Op.operands]),hx,jJ y (by simp[Op.operands])];rfl⟩
  ·cases h
 ·
  split at h
  ·rename_i τ ht
   split at h
   ·rename_i q e iU
    obtain⟨v,rd,ups,h1,e1⟩:=Bx h
    exact⟨_,_,_,h1,fun ρ' H' hx hA K'=>by unfold kj;simp only;rw[ht];simp only;rw[iU];exact e1 H' hA K'⟩
   ·rename_i iU
    obtain⟨h1,e1⟩:=nT h
    exact⟨_,_,_,h1,fun ρ' H' hx hA K'=>by unfold kj;simp only;rw[ht];simp only;rw[iU];simp only;rw[e1 H' (hA _ (by simp))]⟩
  ·cases h
 ·
  rename_i t x
  split at h
  ·rename_i τ ht
   have hold:(fk true (ρ x) H τ λy rd ups=>il H (16*dst.getD 0) (.obj τ y) (K (.dg (16*dst.getD 0) []) (16*dst.getD 0::rd) (ups++[(16*dst.getD 0,some (.obj τ y))])))=some r→
     P5 (λH K=>fk true (ρ x) H τ λy rd ups=>il H (16*dst.getD 0) (.obj τ y) (K (.dg (16*dst.getD 0) []) (16*dst.getD 0::rd) (ups++[(16*dst.getD 0,some (.obj τ y))]))) H K r:=by
    intro h
    obtain⟨y,rd,ups,h1,e1⟩:=gx h
    obtain⟨h2,e2⟩:=nT h1
    exact⟨_,_,_,h2,λH' hA K'=>by simp only;rw[e1 H' (λi hi=>hA i (a7 _ hi)),e2 H' (hA _ (by simp))]⟩
   split at h
   ·rename_i m e υ y n iU DM
    cases sP:Nat.beq m n
    ·rw[sP]at h
     obtain⟨v,rd,ups,h1,e1⟩:=hold h
     refine⟨_,_,_,h1,fun ρ' H' hx hA K'=> ?_⟩
     unfold kj;simp only;rw[ht];simp only
     rw[hx x (by simp[Op.operands]),iU,DM];simp only
     rw[sP]
     have:=e1 H' hA K'
     rw[DM]at this
     exact this
    ·rw[sP]at h
     simp only[ah]at h
     obtain⟨z,h1,e1⟩:=bw h
     obtain⟨v,rd,ups,h2,e2⟩:=Bx h1
     refine⟨_,_,_,h2,fun ρ' H' hx hA K'=> ?_⟩
     unfold kj;simp only;rw[ht];simp only
     rw[hx x (by simp[Op.operands]),iU,DM];simp only
     rw[sP];simp only[ah]
     rw[e1]
     exact e2 H' hA K'
   ·rename_i gX
    obtain⟨v,rd,ups,h1,e1⟩:=hold h
    refine⟨_,_,_,h1,fun ρ' H' hx hA K'=> ?_⟩
    unfold kj;simp only;rw[ht];simp only
    rw[hx x (by simp[Op.operands])]
    split
    ·rename_i iU DM;exact absurd DM (gX _ _ _ _ _ iU)
    ·exact e1 H' hA K'
  ·cases h
 ·
  rename_i t ps
  split at h
  ·rename_i n e ht
   obtain⟨l,rd,ups,h1,_,e1⟩:=uj h
   exact⟨_,_,_,h1,fun ρ' H' hx hA K'=>by unfold kj;simp only;rw[ht];simp only;rw[xp ps (λx jJ=>hx x (by simpa [Op.operands]using jJ)),e1 H' hA]⟩
  ·rename_i τ Hd ht
   split at h
   ·rename_i n k hs
    split at h
    ·rename_i e' l' hk
     obtain⟨h0,e0⟩:=bI h
     obtain⟨l,rd,ups,h1,_,e1⟩:=qP h0
     refine⟨_,_,_,h1,fun ρ' H' hx hA K'=> ?_⟩
     unfold kj;simp only;rw[ht]
     cases τ with
     |arr n e=>exact absurd rfl (Hd n e)
     |_=>
      simp only
      rw[xp ps (λx jJ=>hx x (by simpa [Op.operands]using jJ)),hs];simp only
      rw[hA k (by simp),hk];simp only
      rw[e0,e1 H' (λi hi=>hA i (a7 _ hi))]
    ·cases h
   ·rename_i hs
    obtain⟨h0,e0⟩:=bI h
    obtain⟨l,rd,ups,h1,_,e1⟩:=qP h0
    refine⟨_,_,_,h1,fun ρ' H' hx hA K'=> ?_⟩
    unfold kj;simp only;rw[ht]
    cases τ with
    |arr n e=>exact absurd rfl (Hd n e)
    |_=>
     simp only
     rw[xp ps (λx jJ=>hx x (by simpa [Op.operands]using jJ)),hs];simp only
     rw[e0,e1 H' hA]
  ·cases h
 ·
  rename_i t n ps
  split at h
  ·rename_i e ht
   obtain⟨h0,e0⟩:=bI h
   obtain⟨h1,e1⟩:=nT h0
   obtain⟨l,rd,ups,h2,_,e2⟩:=uj h1
   exact⟨_,_,_,h2,fun ρ' H' hx hA K'=>by
    unfold kj;simp only;rw[ht];simp only
    rw[e0,e1 H' (hA _ (by simp)),xp ps (λx jJ=>hx x (by simpa [Op.operands]using jJ)),e2 H' (λi hi=>hA i (a7 _ hi))]⟩
  ·cases h
 ·
  rename_i t x
  split at h
  ·rename_i τ ht
   obtain⟨v,rd,ups,h1,e1⟩:=EH h
   exact⟨_,_,_,h1,fun ρ' H' hx hA K'=>by unfold kj;simp only;rw[ht];simp only;rw[hx x (by simp[Op.operands]),e1 H' hA]⟩
  ·cases h
 ·
  rename_i t x y
  split at h
  ·rename_i τ ht
   obtain⟨u,rd,ups,h1,e1⟩:=CP h
   exact⟨_,_,_,h1,fun ρ' H' hx hA K'=>by unfold kj;simp only;rw[ht];simp only;rw[hx x (by simp[Op.operands]),hx y (by simp[Op.operands]),e1 H' hA]⟩
  ·cases h
 ·
  rename_i x
  split at h
  ·rename_i id p hx
   exact⟨_,_,_,h,fun ρ' H' jJ _ K'=>by unfold kj;simp only;rw[jJ x (by simp[Op.operands]),hx]⟩
  ·rename_i τ z hx
   exact⟨_,_,_,h,fun ρ' H' jJ _ K'=>by unfold kj;simp only;rw[jJ x (by simp[Op.operands]),hx]⟩
  ·cases h
 ·
  rename_i b t x y t'
  obtain⟨τ,x1,h1,e1⟩:=Bt h
  obtain⟨υ,y1,h2,e2⟩:=Bt h1
  obtain⟨v,h3,e3⟩:=EA h2
  exact⟨_,_,_,h3,fun ρ' H' hx _ K'=>by unfold kj;simp only;rw[hx x (by simp[Op.operands]),hx y (by simp[Op.operands]),e1,e2,e3]⟩
 ·
  rename_i u t x
  obtain⟨v,h1,e1⟩:=Hs h
  exact⟨_,_,_,h1,fun ρ' H' hx _ K'=>by unfold kj;simp only;rw[hx x (by simp[Op.operands]),e1]⟩
 ·
  rename_i s d x
  split at h
  ·rename_i τ k hs hd
   obtain⟨i,n,h1,e1⟩:=iy h
   exact⟨_,_,_,h1,fun ρ' H' hx _ K'=>by unfold kj;simp only;rw[hs,hd];simp only;rw[hx x (by simp[Op.operands]),e1]⟩
  ·cases h
 ·
  rename_i f first iQ
  obtain⟨h1,e1⟩:=bI h
  obtain⟨cs,rd,ups,h3,e3⟩:=um h1
  exact⟨_,_,_,h3,fun ρ' H' hx hA K'=>by unfold kj;simp only;rw[Hv iQ.toList (λx jJ=>hx x (by simp[Op.operands];exact .inr (by simpa using jJ))),e1,e3 H' hA]⟩
 ·
  rename_i t x y
  split at h
  ·rename_i e ht
   obtain⟨i,n,h1,e1⟩:=iy h
   obtain⟨i',n',h2,e2⟩:=iy h1
   obtain⟨h3,e3⟩:=bI h2
   obtain⟨h4,e4⟩:=nT h3
   exact⟨_,_,_,h4,fun ρ' H' hx hA K'=>by
    unfold kj;simp only;rw[ht];simp only
    rw[hx x (by simp[Op.operands]),e1,hx y (by simp[Op.operands]),e2,e3,e4 H' (hA _ (by simp))]⟩
  ·cases h
 ·
  rename_i t x lo hi mx
  split at h
  ·rename_i τ ht
   obtain⟨v,rd,ups,h1,e1⟩:=CN h
   exact⟨_,_,_,h1,fun ρ' H' hx hA K'=>by
    unfold kj;simp only;rw[ht];simp only
    rw[hx x (by simp[Op.operands]),Kv lo (λy hy=>hx y (by simp at hy;simp[Op.operands,hy])),Kv hi (λy hy=>hx y (by simp at hy;simp[Op.operands,hy])),Kv mx (λy hy=>hx y (by simp at hy;simp[Op.operands,hy])),e1 H' hA]⟩
  ·cases h
 ·
  rename_i t x n
  split at h
  ·rename_i τ ht
   split at h
   ·rename_i id p hx
    obtain⟨υ,h1,e1⟩:=nS h
    obtain⟨h2,e2⟩:=cR h1
    obtain⟨υ',y',h3,e3⟩:=nR h2
    obtain⟨h4,e4⟩:=kL h3
    exact⟨_,_,_,h4,fun ρ' H' jJ hA K'=>by
     unfold kj;simp only;rw[ht];simp only
     rw[jJ x (by simp[Op.operands]),hx];simp only
     rw[e1 H' (hA _ (by simp)),e2,e3,e4]⟩
   ·rename_i υ z hx
    obtain⟨h2,e2⟩:=cR h
    obtain⟨υ',y',h3,e3⟩:=nR h2
    obtain⟨h4,e4⟩:=kL h3
    exact⟨_,_,_,h4,fun ρ' H' jJ hA K'=>by
     unfold kj;simp only;rw[ht];simp only
     rw[jJ x (by simp[Op.operands]),hx];simp only
     rw[e2,e3,e4]⟩
   ·cases h
  ·cases h
 ·
  rename_i t x n
  split at h
  ·rename_i τ ht
   split at h
   ·rename_i υ z hx
    obtain⟨h2,e2⟩:=cR h
    obtain⟨υ',y',h3,e3⟩:=nR h2
    exact⟨_,_,_,h3,fun ρ' H' jJ hA K'=>by
     unfold kj;simp only;rw[ht];simp only
     rw[jJ x (by simp[Op.operands]),hx];simp only
     rw[e2,e3]⟩
   ·cases h
  ·cases h
 ·
  rename_i t x i
  split at h
  ·rename_i τ ht
   obtain⟨v,rd,ups,h1,e1⟩:=vP h
   exact⟨_,_,_,h1,fun ρ' H' hx hA K'=>by unfold kj;simp only;rw[ht];simp only;rw[hx x (by simp[Op.operands]),hx i (by simp[Op.operands]),e1 H' hA]⟩
  ·cases h
 ·
  rename_i t x i
  split at h
  ·rename_i τ ht
   obtain⟨v,h1,e1⟩:=CJ h
   exact⟨_,_,_,h1,fun ρ' H' hx hA K'=>by unfold kj;simp only;rw[ht];simp only;rw[hx x (by simp[Op.operands]),hx i (by simp[Op.operands]),e1]⟩
  ·cases h
 ·
  rename_i x i
  split at h
  ·rename_i vs hx
   split at h
   ·rename_i v hv
    exact⟨_,_,_,h,fun ρ' H' jJ hA K'=>by unfold kj;simp only;rw[jJ x (by simp[Op.operands]),hx];simp only;rw[hv]⟩
   ·cases h
  ·cases h
 ·
  rename_i cl
  obtain⟨callee,args,ts⟩:=cl
  simp only at h
  have ns: ∀{ρ':Operand→ax},(∀x∈(Op.call {callee,args,argTypes:=ts}).operands,ρ' x=ρ x)→ ∀x∈args.toList,ρ' x=ρ x:=
   λhx x jJ=>hx x (by simp[Op.operands,Call.operands];exact .inr (by simpa using jJ))
  split at h
  ·split at h
   ·rename_i x τ ha ht
    obtain⟨v,rd,ups,h1,e1⟩:=Ht h
    exact⟨_,_,_,h1,fun ρ' H' hx hA K'=>by unfold kj;simp only;rw[ha,ht];simp only;rw[ns hx x (by rw[ha];simp),e1 H' hA]⟩
   ·cases h
  ·split at h
   ·rename_i x y t t' ha ht
    split at h
    ·rename_i e Km
     obtain⟨h1,e1⟩:=bI h
     obtain⟨h2,e2⟩:=nT h1
     obtain⟨v,rd,ups,h3,hid,e3⟩:=Hu h2
     exact⟨_,_,_,h3,fun ρ' H' hx hA K'=>by
      unfold kj;simp only;rw[ha,ht];simp only;rw[Km];simp only
      rw[e1,e2 H' (hA _ hid),ns hx x (by rw[ha];simp),ns hx y (by rw[ha];simp),e3 H' hA]⟩
    ·cases h
   ·cases h
  ·split at h
   ·rename_i x t ha ht
    split at h
    ·rename_i e Km
     obtain⟨v,rd,ups,h1,e1⟩:=CO h
     exact⟨_,_,_,h1,fun ρ' H' hx hA K'=>by
      unfold kj;simp only;rw[ha,ht];simp only;rw[Km];simp only
      rw[ns hx x (by rw[ha];simp),e1 H' hA]⟩
    ·cases h
   ·cases h
  ·split at h
   ·rename_i x xs ha
    obtain⟨v,h1,e1⟩:=AG h
    exact⟨_,_,_,h1,fun ρ' H' hx hA K'=>by
     unfold kj;simp only;rw[ha];simp only
     rw[ns hx x (by rw[ha];simp),Hv xs (λy hy=>ns hx y (by rw[ha];simp[hy])),e1]⟩
   ·cases h
  ·split at h
   ·rename_i x xs ha
    obtain⟨v,h1,e1⟩:=AG h
    exact⟨_,_,_,h1,fun ρ' H' hx hA K'=>by
     unfold kj;simp only;rw[ha];simp only
     rw[ns hx x (by rw[ha];simp),Hv xs (λy hy=>ns hx y (by rw[ha];simp[hy])),e1]⟩
   ·cases h
  ·rename_i g
   split at h
   ·rename_i f iQ hg
    obtain⟨v,rd,ups,h1,e1⟩:=ED h
    exact⟨_,_,_,h1,fun ρ' H' hx hA K'=>by
     unfold kj;simp only
     rw[hx g (by simp[Op.operands,Call.operands]),hg];simp only
     rw[Hv args.toList (ns hx),e1 H' hA]⟩
   ·cases h
  ·cases h
 ·cases h
end VM
end
section
namespace VM
open Go
variable{P:Program}{E:Env}{o:Oper}{a:Act}{w:World}{M:Nat→Prop}{ν:Nat→Value}{σ:St}{c:Ctx}{α:Type}{r:α}{next:Act→World→Prop}{Q:Exit→Act→World→Prop}
theorem By{E:Env}{o:Oper}{ρ ρ':Operand→ax}(hx: ∀x∈o.op.operands,ρ' x=ρ x):As E o ρ'=As E o ρ:=by
 obtain⟨dst,op,type,pos,after,guard⟩:=o
 unfold As
 simp only at hx ⊢
 cases op with
 |call cl=>
  simp only
  split
  ·rename_i x h1 h2
   rw[hx x (by
    have:x∈cl.args.toList:=by rw[h2];simp
    simp only[Op.operands,Call.operands]
    simp[this]
    try (first|exact .inr (by simpa using this)|exact .inl (by simpa using this)))]
  ·rfl
 |indexAddr t x i=>simp only;rw[hx x (by simp[Op.operands])]
 |load t x=>simp only;rw[hx x (by simp[Op.operands])]
 |store t x y=>simp only;rw[hx x (by simp[Op.operands]),hx y (by simp[Op.operands])]
 |move x=>simp only;rw[hx x (by simp[Op.operands])]
 |_=>rfl
theorem Bz{E:Env}{o:Oper}{ρ ρ':Operand→ax}{H H':Nat→Option ar}(hx: ∀x∈o.op.operands,ρ' x=ρ x)(hA:Ag (As E o ρ) H H'):Cg E o ρ' H'=Cg E o ρ H:=by
 obtain⟨dst,op,type,pos,after,guard⟩:=o
 unfold As at hA
 unfold Cg
 simp only at hA hx ⊢
 cases op with
 |makeSlice t x y=>
  simp only at hA ⊢
  rw[hA (16*dst.getD 0) (by simp),hA 7 (by simp),hx x (by simp[Op.operands]),hx y (by simp[Op.operands])]
 |call cl=>
  simp only at hA ⊢
  split
  ·rename_i x e h1 h2 h3
   rw[h1,h2]at hA
   simp only at hA
   have Vr:x∈(Op.call cl).operands:=by
    have:x∈cl.args.toList:=by rw[h2];simp
    simp only[Op.operands,Call.operands]
    simp[this]
    try (first|exact .inr (by simpa using this)|exact .inl (by simpa using this))
   rw[hx x Vr]
   split
   ·rename_i id hr
    rw[hA id (by rw[hr];simp[sr])]
   ·rfl
  ·rfl
 |indexAddr t x i=>
  simp only at hA ⊢
  rw[hx x (by simp[Op.operands]),hx i (by simp[Op.operands])]
  split
  ·rename_i e id k n _ hr _
   rw[hA id (by rw[hr];simp[sr])]
  ·rfl
 |load t x=>
  simp only at hA ⊢
  rw[hx x (by simp[Op.operands])]
  split
  ·rename_i e id n _ hr
   rw[hA id (by rw[hr];simp[sr]),hA (16*dst.getD 0) (by simp)]
  ·rfl
 |store t x y=>
  simp only at hA ⊢
  rw[hx x (by simp[Op.operands]),hx y (by simp[Op.operands])]
  split
  ·rename_i e id n j _ hr D5
   rw[hA id (by rw[hr];simp[sr]),hA j (by rw[D5];simp[sr])]
  ·rfl
 |move x=>
  simp only at hA ⊢
  rw[hx x (by simp[Op.operands])]
  cases Ks:Cd E 4000000 (dst.getD 0)
  ·rfl
  ·rw[Ks]at hA
   simp only[ah]at hA ⊢
   split
   ·rename_i id hr
    rw[hA id (by rw[hr];simp[sr])]
   ·rfl
 |_=>rfl
theorem Kw{E:Env}{o:Oper}{ρ:Operand→ax}{H:Nat→Option ar}{K:cN α}(h:DE E o ρ H K=some r):
  ∃v rd ups,K v rd ups=some r∧ ∀ρ' H',(∀x∈o.op.operands,ρ' x=ρ x)→Ag rd H H'→ ∀K':cN α,DE E o ρ' H' K'=K' v rd ups:=by
 unfold DE at h
 cases hf:E.cq
 ·rw[hf]at h
  obtain⟨v,rd,ups,h1,h2⟩:=EI h
  exact⟨v,rd,ups,h1,fun ρ' H' hx hA K'=>by unfold DE;rw[hf];exact h2 ρ' H' hx hA K'⟩
 ·rw[hf]at h
  simp only[ah]at h
  split at h
  ·rename_i u hs
   obtain⟨hg,h⟩:=aG h
   refine⟨_,_,_,h,fun ρ' H' hx hA K'=> ?_⟩
   unfold DE;rw[hf];simp only[ah]
   rw[Bz hx hA,hs,By hx];simp only
   rw[hg];rfl
  ·rename_i hs
   obtain⟨v,rd,ups,h1,h2⟩:=EI h
   obtain⟨gX,h1⟩:=aG h1
   refine⟨_,_,_,h1,fun ρ' H' hx hA K'=> ?_⟩
   unfold DE;rw[hf];simp only[ah]
   rw[Bz hx (λi hi=>hA i (aS _ hi)),hs,By hx];simp only
   rw[h2 ρ' H' hx (λi hi=>hA i (bh _ hi)),gX];rfl
structure Out where
 dst:Option Nat
 v:ax
 rd:List Nat
 ups:dh
def Out.app(u:Out)(σ:St):St:=(σ.mY u.ups).mC u.dst u.v
theorem zg(σ:St)(d:Nat)(v:ax):(σ.mC (some d) v).T d=v:=iZ σ d v
theorem CQ(σ:St){d:Option Nat}{t:Nat}(v:ax)(h:d≠some t):(σ.mC d v).T t=σ.T t:=by
 cases d with
 |none=>rfl
 |some d=>exact nr σ v (λe=>h (by rw[e]))
theorem AH{u:Out}{t:Nat}(h:u.dst=some t)(σ:St):(u.app σ).T t=u.v:=by unfold Out.app;rw[h];exact zg _ _ _
theorem EJ{u:Out}{t:Nat}(h:u.dst≠some t)(σ:St):(u.app σ).T t=σ.T t:=by unfold Out.app;rw[CQ _ _ h,Ax]
theorem NI(u:Out)(σ:St):(u.app σ).H=aN σ.H u.ups:=by unfold Out.app;rw[AF,Aw]
def Pt(E:Env)(ops:List Oper)(o:Oper)(σ:St)(u:Out)(α:Type):Prop:=
 u.dst=o.dst∧ ∀σ':St,(∀t∈names ops o,σ'.T t=σ.T t)→Ag u.rd σ.H σ'.H→ ∀K':St→List Nat→List Nat→Option α,kC E ops o σ' K'=K' (u.app σ') u.rd (u.ups.map (·.1))
theorem EK{ops:List Oper}{K:St→List Nat→List Nat→Option α}(h:kC E ops o σ K=some r): ∃u:Out,K (u.app σ) u.rd (u.ups.map (·.1))=some r∧Pt E ops o σ u α:=by
 unfold kC at h
 obtain⟨h,e0⟩:=bI h
 have Rn: ∀σ':St,(∀t∈names ops o,σ'.T t=σ.T t)→ ∀x∈o.op.operands,σ'.ρ x=σ.ρ x:=by
  intro σ' hT x hx
  cases x with
  |tmp t=>
   refine hT t ?_
   unfold names
   refine aS _ (List.mem_filterMap.2 ⟨.tmp t,by simpa using hx,rfl⟩)
  |_=>rfl
 have bk:DE E o σ.ρ σ.H (λv rd ups=>K ((σ.mY ups).mC o.dst v) rd (ups.map (·.1)))=some r→
   ∃u:Out,K (u.app σ) u.rd (u.ups.map (·.1))=some r∧u.dst=o.dst∧ ∀σ':St,(∀t∈names ops o,σ'.T t=σ.T t)→Ag u.rd σ.H σ'.H→ ∀K':St→List Nat→List Nat→Option α,
    DE E o σ'.ρ σ'.H (λv rd ups=>K' ((σ'.mY ups).mC o.dst v) rd (ups.map (·.1)))=K' (u.app σ') u.rd (u.ups.map (·.1)):=by
  intro h
  obtain⟨v,rd,ups,h1,h2⟩:=Kw h
  exact⟨⟨o.dst,v,rd,ups⟩,h1,rfl,fun σ' hT hA K'=>h2 σ'.ρ σ'.H (Rn σ' hT) hA _⟩
 have uh: ∀{K:St→List Nat→List Nat→Option α},K (σ.mC o.dst .DW) [] []=some r→ ∃u:Out,K (u.app σ) u.rd (u.ups.map (·.1))=some r∧u.dst=o.dst∧ ∀σ':St,∀K':St→List Nat→List Nat→Option α,K' (σ'.mC o.dst .DW) [] []=K' (u.app σ') u.rd (u.ups.map (·.1)):=
  λh=>⟨⟨o.dst,.DW,[],[]⟩,h,rfl,λ_ _=>rfl⟩
 simp only at h
 split at h
 ·rename_i hg
  obtain⟨u,h1,h2,h3⟩:=bk h
  refine⟨u,h1,h2,fun σ' hT hA K'=> ?_⟩
  unfold kC
  rw[e0]
  simp only
  rw[hg]
  exact h3 σ' hT hA K'
 ·rename_i j want hg
  split at h
  ·cases h
  ·rename_i t ht
   have CR:t∈names ops o:=by
    unfold names
    refine bh _ ?_
    rw[hg]
    simp[ht]
   split at h
   ·rename_i b hb
    have hJ: ∀σ':St,σ'.T t=σ.T t→σ'.put t (.val .bool b)=σ':=fun σ' h'=>by
     rw[←hb,←h'];exact ug σ' t
    cases want<;>cases b
    ·obtain⟨u,h1,h2,h3⟩:=bk (by
      have:=hJ σ rfl
      rw[this]at h;exact h)
     refine⟨u,h1,h2,fun σ' hT hA K'=> ?_⟩
     unfold kC
     rw[e0];simp only;rw[hg];simp only;rw[ht];simp only;rw[hT t CR,hb];simp only
     rw[hJ σ' (hT t CR)]
     exact h3 σ' hT hA K'
    ·obtain⟨u,h1,h2,h3⟩:=uh (by
      have:=hJ σ rfl
      rw[this]at h;exact h)
     refine⟨u,h1,h2,fun σ' hT hA K'=> ?_⟩
     unfold kC
     rw[e0];simp only;rw[hg];simp only;rw[ht];simp only;rw[hT t CR,hb];simp only
     rw[hJ σ' (hT t CR)]
     exact h3 σ' K'
    ·obtain⟨u,h1,h2,h3⟩:=uh (by
      have:=hJ σ rfl
      rw[this]at h;exact h)
     refine⟨u,h1,h2,fun σ' hT hA K'=> ?_⟩
     unfold kC
     rw[e0];simp only;rw[hg];simp only;rw[ht];simp only;rw[hT t CR,hb];simp only
     rw[hJ σ' (hT t CR)]
     exact h3 σ' K'
    ·obtain⟨u,h1,h2,h3⟩:=bk (by
      have:=hJ σ rfl
      rw[this]at h;exact h)
     refine⟨u,h1,h2,fun σ' hT hA K'=> ?_⟩
     unfold kC
     rw[e0];simp only;rw[hg];simp only;rw[ht];simp only;rw[hT t CR,hb];simp only
     rw[hJ σ' (hT t CR)]
     exact h3 σ' hT hA K'
   ·rename_i hb
    obtain⟨u,h1,h2,h3⟩:=uh h
    refine⟨u,h1,h2,fun σ' hT hA K'=> ?_⟩
    unfold kC
    rw[e0];simp only;rw[hg];simp only;rw[ht];simp only;rw[hT t CR,hb]
    exact h3 σ' K'
   ·cases h
theorem BA{ops:List Oper}: ∀(l:List Oper) (i:Nat) (σ:St) (lg:Log) (K:St→Log→Option α),Ch E ops l i σ lg K=some r→
  ∃us:List Out,us.length=l.length∧(∀j u o,us[j]? =some u→l[j]? =some o→Pt E ops o ((us.take j).foldl (fun σ u=>u.app σ) σ) u α)∧
   ∃I1,K (us.foldl (fun σ u=>u.app σ) σ) I1=some r∧(∀x∈lg,x∈I1)∧ ∀j u,us[j]? =some u→(i+j,u.rd,u.ups.map (·.1))∈I1
 |[],i,σ,lg,K,h=>⟨[],rfl,λj u o hj=>by simp at hj,lg,h,λ_ h=>h,λj u hj=>by simp at hj⟩
 |o::l,i,σ,lg,K,h=>by
  unfold Ch at h
  obtain⟨u,h1,h2⟩:=EK h
  obtain⟨us,hl,MH,I1,hK,GK,hj⟩:=BA l (i+1) (u.app σ) _ K h1
  refine⟨u::us,by simp[hl],λj u' o' hu ho=> ?_,I1,hK,λx hx=>GK x (a7 _ hx),λj u' hu=> ?_⟩
  ·cases j with
   |zero=>simp at hu ho;subst hu ho;exact h2
   |succ j=>exact MH j u' o' (by simpa using hu) (by simpa using ho)
  ·cases j with
   |zero=>simp at hu;subst hu;exact GK _ ba
   |succ j=>
    have:=hj j u' (by simpa using hu)
    rwa [show i+1+j=i+(j+1)from by omega]at this
theorem CS{k:Nat}{ups:dh}(h:k∈keys ups)(H H':Nat→Option ar):aN H ups k=aN H' ups k:=by
 induction ups generalizing H H' with
 |nil=>simp[keys]at h
 |cons u r ih=>
  show aN (au H u.1 u.2) r k=aN (au H' u.1 u.2) r k
  by_cases hk:k∈keys r
  ·exact ih hk _ _
  ·have Vs:k=u.1:=by
    simp only[keys,bz,bc]at h hk
    exact h.resolve_right hk
   rw[eW hk,eW hk,Vs,aa,aa]
structure gK(us:List Out)(σ0:St)(S:Nat→Prop)(σ:St):Prop where
 T: ∀t,(∃j u,us[j]? =some u∧S j∧u.dst=some t∧(∀j' u',us[j']? =some u'→S j'→u'.dst=some t→j'≤j)∧σ.T t=u.v)∨((∀j u,us[j]? =some u→S j→u.dst≠some t)∧σ.T t=σ0.T t)
 H: ∀k,(∃j u,us[j]? =some u∧S j∧k∈keys u.ups∧(∀j' u',us[j']? =some u'→S j'→k∈keys u'.ups→j'≤j)∧σ.H k=aN σ0.H u.ups k)∨((∀j u,us[j]? =some u→S j→k∉keys u.ups)∧σ.H k=σ0.H k)
theorem gK.EL{us:List Out}{σ0 σ σ':St}{S S':Nat→Prop}(h:gK us σ0 S σ)(h':gK us σ0 S' σ'){t:Nat}(hs: ∀j u,us[j]? =some u→u.dst=some t→(S j↔S' j)):σ.T t=σ'.T t:=by
 rcases h.T t with⟨j,u,h1,h2,h3,h4,h5⟩|⟨h1,h2⟩<;>rcases h'.T t with⟨j',u',ju,qB,AI,Ro,Rp⟩|⟨ju,qB⟩
 ·have e1:=h4 j' u' ju ((hs j' u' ju AI).2 qB) AI
  have e2:=Ro j u h1 ((hs j u h1 h3).1 h2) h3
  have:j=j':=ω
  subst this
  rw[h1]at ju;cases ju
  rw[h5,Rp]
 ·exact absurd h3 (ju j u h1 ((hs j u h1 h3).1 h2))
 ·exact absurd AI (h1 j' u' ju ((hs j' u' ju AI).2 qB))
 ·rw[h2,qB]
theorem gK.EM{us:List Out}{σ0 σ σ':St}{S S':Nat→Prop}(h:gK us σ0 S σ)(h':gK us σ0 S' σ'){k:Nat}(hs: ∀j u,us[j]? =some u→k∈keys u.ups→(S j↔S' j)):σ.H k=σ'.H k:=by
 rcases h.H k with⟨j,u,h1,h2,h3,h4,h5⟩|⟨h1,h2⟩<;>rcases h'.H k with⟨j',u',ju,qB,AI,Ro,Rp⟩|⟨ju,qB⟩
 ·have e1:=h4 j' u' ju ((hs j' u' ju AI).2 qB) AI
  have e2:=Ro j u h1 ((hs j u h1 h3).1 h2) h3
  have:j=j':=ω
  subst this
  rw[h1]at ju;cases ju
  rw[h5,Rp]
 ·exact absurd h3 (ju j u h1 ((hs j u h1 h3).1 h2))
 ·exact absurd AI (h1 j' u' ju ((hs j' u' ju AI).2 qB))
 ·rw[h2,qB]
theorem gK.unique{us:List Out}{σ0 σ σ':St}{S S':Nat→Prop}(h:gK us σ0 S σ)(h':gK us σ0 S' σ')(hs: ∀j u,us[j]? =some u→(S j↔S' j)):σ=σ':=by
 obtain⟨T,H⟩:=σ
 obtain⟨T',H'⟩:=σ'
 congr 1
 ·funext t;exact h.EL h' (λj u hj _=>hs j u hj)
 ·funext k;exact h.EM h' (λj u hj _=>hs j u hj)
theorem gK.step{us:List Out}{σ0 σ:St}{S:Nat→Prop}(h:gK us σ0 S σ){i:Nat}{u:Out}(hi:us[i]? =some u)(hc: ∀j u',us[j]? =some u'→S j→i<j→(∀t,u.dst=some t→u'.dst≠some t)∧ ∀k∈keys u.ups,k∉keys u'.ups):
  gK us σ0 (λj=>j=i∨S j) (u.app σ):=by
 refine⟨λt=> ?_,λk=> ?_⟩
 ·by_cases hd:u.dst=some t
  ·left
   refine⟨i,u,hi,.inl rfl,hd,λj' u' h1 h2 h3=> ?_,AH hd σ⟩
   rcases h2 with rfl|h2
   ·exact aB _
   ·exact Nat.le_of_not_lt λcy=>(hc j' u' h1 h2 cy).1 t hd h3
  ·rw[EJ hd]
   rcases h.T t with⟨j,u1,h1,h2,h3,h4,h5⟩|⟨h1,h2⟩
   ·refine .inl ⟨j,u1,h1,.inr h2,h3,λj' u' ju qB AI=> ?_,h5⟩
    rcases qB with rfl|qB
    ·rw[hi]at ju;cases ju;exact absurd AI hd
    ·exact h4 j' u' ju qB AI
   ·refine .inr ⟨λj u' ju qB=> ?_,h2⟩
    rcases qB with rfl|qB
    ·rw[hi]at ju;cases ju;exact hd
    ·exact h1 j u' ju qB
 ·rw[NI]
  by_cases hd:k∈keys u.ups
  ·left
   refine⟨i,u,hi,.inl rfl,hd,λj' u' h1 h2 h3=> ?_,CS hd _ _⟩
   rcases h2 with rfl|h2
   ·exact aB _
   ·exact Nat.le_of_not_lt λcy=>(hc j' u' h1 h2 cy).2 k hd h3
  ·rw[eW hd]
   rcases h.H k with⟨j,u1,h1,h2,h3,h4,h5⟩|⟨h1,h2⟩
   ·refine .inl ⟨j,u1,h1,.inr h2,h3,λj' u' ju qB AI=> ?_,h5⟩
    rcases qB with rfl|qB
    ·rw[hi]at ju;cases ju;exact absurd AI hd
    ·exact h4 j' u' ju qB AI
   ·refine .inr ⟨λj u' ju qB=> ?_,h2⟩
    rcases qB with rfl|qB
    ·rw[hi]at ju;cases ju;exact hd
    ·exact h1 j u' ju qB
theorem gK.start(us:List Out)(σ0:St):gK us σ0 (λ_=>False) σ0:=⟨λt=> .inr ⟨λ_ _ _ h=>h.elim,rfl⟩,λk=> .inr ⟨λ_ _ _ h=>h.elim,rfl⟩⟩
theorem gK.congr{us:List Out}{σ0 σ:St}{S S':Nat→Prop}(h:gK us σ0 S σ)(hs: ∀j,S j↔S' j):gK us σ0 S' σ:=by
 have:S=S':=funext λj=>propext (hs j)
 rw[←this];exact h
theorem gK.text(us:List Out)(σ0:St): ∀i,i≤us.length→gK us σ0 (λj=>j<i) ((us.take i).foldl (fun σ u=>u.app σ) σ0)
 |0,_=>(gK.start us σ0).congr λj=>by simp
 |i+1,hi=>by
  have ih:=gK.text us σ0 i ω
  have hu:us[i]? =some us[i]:=a6 ω
  have:=ih.step hu (λj u' _ h2 h3=>ω)
  rw[th,hu,List.foldl_append]
  exact this.congr λj=>by constructor<;>intro h<;>omega
def Kx(S:Nat→Prop)(o:Oper):Prop:= ∀e∈o.after,Region.binds .any e=true→S e.on
theorem uq{β:Type}{l m:List β}{i:Nat}{d:β}(h:i<l.length):(l++m).getD i d=l.getD i d:=by
 simp only[γ,ic h]
theorem ur{β:Type}{l:List β}{x d:β}:(l++[x]).getD l.length d=x:=by
 simp[γ]
theorem rL{acc:List Nat}{i:Nat}: ∀(es:List Edge) (s:Nat),(es.foldl (λs e=>cond (Region.binds .any e) (s|||2^e.on|||acc.getD e.on 0) s) s).testBit i=true→
  s.testBit i=true∨ ∃e∈es,Region.binds .any e=true∧(i=e.on∨(acc.getD e.on 0).testBit i=true)
 |[],s,h=> .inl h
 |e::es,s,h=>by
  rw[List.foldl_cons]at h
  rcases rL es _ h with h1|⟨e',h1,h2⟩
  ·cases hb:Region.binds .any e
   ·rw[hb]at h1;exact .inl h1
   ·rw[hb]at h1
    simp only[ah,Nat.testBit_or,mT]at h1
    rcases h1 with(h1|h1)|h1
    ·exact .inl h1
    ·refine .inr ⟨e,ba,hb,.inl ?_⟩
     rw[Nat.testBit_two_pow]at h1
     simpa using (bs h1).symm
    ·exact .inr ⟨e,ba,hb,.inr h1⟩
  ·exact .inr ⟨e',a7 _ h1,h2⟩
theorem rM{S:Nat→Prop}: ∀(l:List Oper) (acc:List Nat) (all:List Oper),all.length=acc.length+l.length→(∀j,l[j]? =all[acc.length+j]?)→
  (∀j o,all[j]? =some o→S j→Kx S o)→(∀j i,j<acc.length→S j→(acc.getD j 0).testBit i=true→S i)→
  ∀j o i,all[j]? =some o→(Kx S o∨S j)→((jU l acc).getD j 0).testBit i=true→(j<acc.length→ ∀i,Kx S o→(acc.getD j 0).testBit i=true→S i)→S i
 |[],acc,all,hl,fB,hS,Hw,j,o,i,hj,zh,hb,EN=>by
  have cy:j<all.length:=(jz.1 hj).1
  have oB:j<acc.length:=by simp at hl;omega
  rcases zh with hp|hp
  ·exact EN oB i hp hb
  ·exact Hw j i oB hp hb
 |p::l,acc,all,hl,fB,hS,Hw,j,o,i,hj,zh,hb,EN=>by
  unfold jU at hb
  have vJ:all[acc.length]? =some p:=by rw[←eR acc.length,←fB 0];rfl
  have NJ: ∀i,Kx S p→(p.after.toList.foldl (λs e=>cond (Region.binds .any e) (s|||2^e.on|||acc.getD e.on 0) s) 0).testBit i=true→S i:=by
   intro i xa hb
   rcases rL p.after.toList 0 hb with h1|⟨e,he,EO,h1⟩
   ·simp at h1
   ·have Tg:=xa e (by simpa using he) EO
    rcases h1 with rfl|h1
    ·exact Tg
    ·by_cases cy:e.on<acc.length
     ·exact Hw e.on i cy Tg h1
     ·rw[γ,eB ω]at h1;simp at h1
  refine rM l (acc++[p.after.toList.foldl (λs e=>cond (Region.binds .any e) (s|||2^e.on|||acc.getD e.on 0) s) 0]) all (by simp at hl ⊢;omega) (λj=> ?_) hS (λj' i' Ev Th bA=> ?_) j o i hj zh hb (λcy i' xY bA=> ?_)
  ·have:=fB (j+1)
   simp only[List.getElem?_cons_succ]at this
   rw[this]
   congr 1
   simp;omega
  ·by_cases cy:j'<acc.length
   ·rw[uq cy]at bA
    exact Hw j' i' cy Th bA
   ·have Rq:j'=acc.length:=by simp at Ev;omega
    subst Rq
    rw[ur]at bA
    exact NJ i' (hS _ p vJ Th) bA
  ·by_cases oB:j<acc.length
   ·rw[uq oB]at bA
    exact EN oB i' xY bA
   ·have Rq:j=acc.length:=by simp at cy;omega
    subst Rq
    rw[vJ]at hj;cases hj
    rw[ur]at bA
    exact NJ i' xY bA
theorem forced{ops:List Oper}{S:Nat→Prop}(hS: ∀j o,ops[j]? =some o→S j→Kx S o){j i:Nat}(hj:ops[j]? =some o)(zh:Kx S o∨S j)(hb:((jU ops []).getD j 0).testBit i=true):S i:=
 rM ops [] ops (by simp) (λj=>by simp) hS (λj i h=>by simp at h) j o i hj zh hb (λh=>by simp at h)
theorem fy{l m:List Nat}(h:meets l m=false){x:Nat}(h1:x∈l)(h2:x∈m):False:=by
 have:meets l m=true:=by
  unfold meets
  rw[List.any_eq_true]
  refine⟨x,h1,?_⟩
  rw[List.any_eq_true]
  exact⟨x,h2,gC x⟩
 rw[h]at this;cases this
structure Ti(c:Ctx)(E:Env)(ops:Array Oper)(us:List Out)(σ0:St)(listed:Array Bool)(a:Act)(w:World):Prop where
 size:listed.size=ops.size
 closed: ∀j o,ops.toList[j]? =some o→listed.getD j false=true→Kx (λi=>listed.getD i false=true) o
 st: ∃σ,gK us σ0 (λj=>listed.getD j false=true) σ∧Inv c E σ a w
theorem oF{listed:Array Bool}{j:Nat}(h:j<listed.size)(d:Bool):listed.getD j d=listed.getD j false:=by
 simp[Array.getD,h]
theorem xq(hE:g9 P E){ops:Array Oper}{us:List Out}{σ0 σn:St}{α:Type}(x0:α)(hl:us.length=ops.toList.length)
  (MH: ∀(j:Nat) (u:Out) (o:Oper),us[j]? =some u→ops.toList[j]? =some o→Pt E ops.toList o ((us.take j).foldl (fun σ u=>u.app σ) σ0) u α)
  (hn:σn=us.foldl (fun σ u=>u.app σ) σ0)
  (cy: ∀(j:Nat) (o:Oper),ops.toList[j]? =some o→ ∀e∈o.after,Region.binds .any e=true→e.on<j)
  (zi: ∀(j:Nat) (o:Oper) (i:Nat) (p:Oper),ops.toList[j]? =some o→ops.toList[i]? =some p→i<j→((jU ops.toList []).getD j 0).testBit i=false→
   (∀d,p.dst=some d→o.dst≠some d∧d∉names ops.toList o)∧(∀d,o.dst=some d→d∉names ops.toList p))
  (GK: ∀(j:Nat) (u:Out) (i:Nat) (v:Out),us[j]? =some u→us[i]? =some v→i<j→((jU ops.toList []).getD j 0).testBit i=false→
   (∀k∈keys v.ups,k∉u.rd∧k∉keys u.ups)∧(∀k∈v.rd,k∉keys u.ups))
  (hq: ∀a' w',Inv c E σn a' w'→Q .normal a' w'):
  ∀(fuel:Nat) (listed:Array Bool) (a:Act) (w:World),((List.range ops.size).filter λj=> !(listed.getD j false)).length≤fuel→Ti c E ops us σ0 listed a w→wpAny P .any ops Q fuel listed a w:=by
 have fB: ∀(listed:Array Bool) (a:Act) (w:World),Ti c E ops us σ0 listed a w→Region.ready .any ops listed=[]→Q .normal a w:=by
  intro listed a w hR Ky
  obtain⟨hs,tP,σ,wj,hI⟩:=hR
  have NK: ∀j,j<ops.size→listed.getD j false=true:=by
   intro j
   induction j using Nat.strongRecOn with
   |_ j ih=>
    intro hj
    by_cases hb:listed.getD j false=true
    ·exact hb
    ·exfalso
     have ho:ops[j]? =some ops[j]:=ym hj
     have:j∈Region.ready .any ops listed:=by
      rw[mem_ready]
      refine⟨by rw[oF ω];simpa using hb,_,ho,λe he EO=> ?_⟩
      have Vt:=cy j ops[j] (by rw[cM];exact ho) e he EO
      exact ih e.on Vt ω
     rw[Ky]at this
     cases this
  have hσ:σ=σn:=by
   rw[hn]
   have ht:=gK.text us σ0 us.length (aB _)
   rw[gn]at ht
   refine wj.unique ht λj u hj=> ?_
   have pJ:j<us.length:=(jz.1 hj).1
   have Vu:j<ops.size:=by rw[hl,az]at pJ;exact pJ
   exact⟨λ_=>pJ,λ_=>NK j Vu⟩
  exact hq a w (hσ▸hI)
 intro fuel
 induction fuel with
 |zero=>
  intro listed a w hf hR
  have CB:Region.ready .any ops listed=[]:=by
   rw[List.eq_nil_iff_forall_not_mem]
   intro j hj
   rw[mem_ready]at hj
   obtain⟨h0,o,ho,_⟩:=hj
   have Tj:j<ops.size:=(ez.1 ho).1
   have pJ:j<listed.size:=by rw[hR.size];exact Tj
   rw[oF pJ]at h0
   have eT:j∈(List.range ops.size).filter λj=> !(listed.getD j false):=by
    rw[mS];exact⟨pg.2 Tj,by rw[h0];rfl⟩
   have:((List.range ops.size).filter λj=> !(listed.getD j false))=[]:=ia ω
   rw[this]at eT;cases eT
  exact⟨CB,fB listed a w hR CB⟩
 |succ fuel ih=>
  intro listed a w hf hR
  refine⟨fB listed a w hR,λi hi=> ?_⟩
  have kk:=hi
  rw[mem_ready]at kk
  obtain⟨h0,o,ho,zh⟩:=kk
  have Rr:i<ops.size:=(ez.1 ho).1
  have sv:i<listed.size:=by rw[hR.size];exact Rr
  rw[oF sv]at h0
  obtain⟨hs,tP,σ,wj,hI⟩:=hR
  have EP:ops.toList[i]? =some o:=by rw[cM];exact ho
  have Vv:i<us.length:=by rw[hl,az];exact Rr
  have hu:us[i]? =some us[i]:=a6 Vv
  have Tk:=MH i us[i] o hu EP
  have Rs: ¬listed.getD i false=true:=by rw[h0];simp
  have zj: ∀j p,ops.toList[j]? =some p→((j<i∧ ¬listed.getD j false=true)→((jU ops.toList []).getD i 0).testBit j=false)∧((i<j∧listed.getD j false=true)→((jU ops.toList []).getD j 0).testBit i=false):=by
   intro j p hj
   refine⟨λ⟨_,h2⟩=> ?_,λ⟨_,h2⟩=> ?_⟩
   ·rw[←gm]
    intro hb
    exact h2 (forced tP EP (.inl zh) hb)
   ·rw[←gm]
    intro hb
    exact Rs (forced tP hj (.inr h2) hb)
  have ES: ∀(j:Nat) (u:Out),us[j]? =some u→ ∃p:Oper,ops.toList[j]? =some p∧u.dst=p.dst:=by
   intro j u hj
   have pJ:j<us.length:=(jz.1 hj).1
   have hp:ops.toList[j]? =some ops.toList[j]:=a6 ω
   exact⟨_,hp,(MH j u _ hj hp).1⟩
  have I2:=gK.text us σ0 i ω
  have hT: ∀t∈names ops.toList o,σ.T t=((us.take i).foldl (fun σ u=>u.app σ) σ0).T t:=by
   intro t ht
   refine wj.EL I2 λj u hj hd=> ?_
   obtain⟨p,hp,Kz⟩:=ES j u hj
   have Kz:p.dst=some t:=by rw[←Kz,hd]
   constructor
   ·intro zk
    refine Nat.lt_of_not_le λhle=> ?_
    rcases Nat.lt_or_eq_of_le hle with oB|heq
    ·exact(zi j p i o hp EP oB ((zj j p hp).2 ⟨oB,zk⟩)).2 t Kz ht
    ·subst heq;exact Rs zk
   ·intro uu
    by_cases zk:listed.getD j false=true
    ·exact zk
    ·exact absurd ht ((zi i o j p EP hp uu ((zj j p hp).1 ⟨uu,zk⟩)).1 t Kz).2
  have hH:Ag us[i].rd ((us.take i).foldl (fun σ u=>u.app σ) σ0).H σ.H:=by
   intro k hk
   refine wj.EM I2 λj u hj hd=> ?_
   obtain⟨p,hp,Kz⟩:=ES j u hj
   constructor
   ·intro zk
    refine Nat.lt_of_not_le λhle=> ?_
    rcases Nat.lt_or_eq_of_le hle with oB|heq
    ·exact(GK j u i us[i] hj hu oB ((zj j p hp).2 ⟨oB,zk⟩)).2 k hk hd
    ·subst heq;exact Rs zk
   ·intro uu
    by_cases zk:listed.getD j false=true
    ·exact zk
    ·exact absurd hk ((GK i us[i] j u hu hj uu ((zj j p hp).1 ⟨uu,zk⟩)).1 k hd).1
  have NL:=Tk.2 σ hT hH
  have Vw:gK us σ0 (λj=>j=i∨listed.getD j false=true) (us[i].app σ):=by
   refine wj.step hu λj u hj zk gH=> ?_
   obtain⟨p,hp,Kz⟩:=ES j u hj
   have NM:=(zj j p hp).2 ⟨gH,zk⟩
   obtain⟨h1,h2⟩:=zi j p i o hp EP gH NM
   obtain⟨h3,h4⟩:=GK j u i us[i] hj hu gH NM
   refine⟨λt ht=> ?_,λk hk=>(h3 k hk).2⟩
   rw[Kz]
   exact(h1 t (by rw[←Tk.1];exact ht)).1
  have pX: ∀j,(listed.setIfInBounds i true).getD j false=true↔(j=i∨listed.getD j false=true):=by
   intro j
   by_cases uu:j=i
   ·subst uu
    constructor
    ·intro _;exact .inl rfl
    ·intro _;simp[sv]
   ·rw[getD_set_ne false (cf uu)]
    exact⟨.inr,λh=>h.resolve_left uu⟩
  classical
  let K':St→List Nat→List Nat→Option α:=fun σ' _ _=>if σ'=us[i].app σ then some x0 else none
  have hK:kC E ops.toList o σ K'=some x0:=by rw[NL K'];simp[K']
  have:=rJ (Q:=Q) (next:=wpAny P .any ops Q fuel (listed.setIfInBounds i true)) hE hI hK (fun σ' a' w' rd wr hσ' rK=>by
   have hσ'':σ'=us[i].app σ:=by
    by_cases h:σ'=us[i].app σ
    ·exact h
    ·simp[K',h]at hσ'
   subst hσ''
   refine ih _ a' w' ?_ ⟨by simpa using hs,λj p hp zk e he hb=> ?_,_,Vw.congr (λj=>(pX j).symm),rK⟩
   ·have hlen:((List.range ops.size).filter λj=> !((listed.setIfInBounds i true).getD j false)).length<((List.range ops.size).filter λj=> !(listed.getD j false)).length:=by
     have CC:((List.range ops.size).filter λj=> !((listed.setIfInBounds i true).getD j false))=((List.range ops.size).filter λj=> !(listed.getD j false)).filter λj=> !(Nat.beq j i):=by
      rw[List.filter_filter]
      apply List.filter_congr
      intro j _
      by_cases uu:j=i
      ·subst uu
       have h1:=(pX j).2 (.inl rfl)
       rw[h1];simp
      ·have h1:Nat.beq j i=false:=by rw[←gm,mW];exact uu
       rw[h1,getD_set_ne false (cf uu)];simp
     rw[CC]
     refine List.length_filter_lt_length_iff_exists.2 ⟨i,?_,by simp⟩
     rw[mS];exact⟨pg.2 Rr,by rw[h0];rfl⟩
    omega
   ·rcases(pX j).1 zk with rfl|zk
    ·rw[EP]at hp;cases hp
     exact(pX _).2 (.inr (zh e he hb))
    ·exact(pX _).2 (.inr (tP j p hp zk e he hb)))
  unfold wpOp
  rw[ho]
  simp only
  split
  ·rename_i hw;rw[af hw]at this;exact .inl this
  ·rename_i hw;rw[ag hw]at this;exact this
theorem vQ(hE:g9 P E){id:Nat}{ops:Array Oper}{draw:Bool}(hI:Inv c E σ a w){K:St→Option α}(h:sK E ops draw σ K=some r)
  (hn: ∀σ' a' w',K σ'=some r→Inv c E σ' a' w'→Q .normal a' w'):(Code.region id ops draw).wp P Q a w:=by
 cases draw
 ·refine wp_region_list (ui hE ops.toList 0 σ [] a w _ hI h fun σ' I1 a' w' h' rK=> ?_)
  exact hn σ' a' w' (aG h').2 rK
 ·unfold sK at h
  obtain⟨us,hl,MH,lg,hK,_,NN⟩:=BA _ _ _ _ _ h
  obtain⟨MD,hK⟩:=aG hK
  simp only[bo,Bool.false_or,aV]at MD
  obtain⟨zi,GK⟩:=MD
  unfold DY at zi
  simp only[aV,iI]at zi
  obtain⟨Rt,Ru⟩:=zi
  have hz: ∀j o,ops.toList[j]? =some o→(o,j)∈ops.toList.zipIdx:=λj o hj=>List.mem_zipIdx_iff_getElem?.2 hj
  refine wp_region_any hE.mixed (xq (Q:=Q) (σ0:=σ) hE r hl MH rfl (λj o hj e he EO=> ?_) (λj o i p hj hi gH hb=> ?_) (λj u i v hj hi gH hb=> ?_) (λa' w' rK=>hn _ a' w' hK rK) ops.size (Array.replicate ops.size false) a _ ?_ ?_)
  ·have:=Rt (o,j) (hz j o hj) e (by simpa using he)
   rw[EO]at this
   simpa [pw]using this
  ·have:=Ru (o,j) (hz j o hj) (p,i) (hz i p hi)
   simp only[hb,po,mT,o9,Bool.or_eq_false_iff]at this
   have vF: ¬Nat.ble j i=true:=by rw[px];omega
   have this:=this.resolve_left vF
   refine⟨λd hd=>⟨λNO=> ?_,λNO=> ?_⟩,λd hd NO=> ?_⟩
   ·exact fy this.1 (x:=d) (by simp[hd]) (by simp[NO])
   ·exact fy this.1 (x:=d) (by simp[hd]) (by simp[NO])
   ·exact fy this.2 (x:=d) (by simp[hd]) NO
  ·unfold IF at GK
   simp only[iI]at GK
   have Ev:=NN j u hj
   have kk:=NN i v hi
   rw[cF]at Ev kk
   have:=GK _ Ev _ kk
   simp only[hb,po,mT,o9,Bool.or_eq_false_iff]at this
   have vF: ¬Nat.ble j i=true:=by rw[px];omega
   have this:=this.resolve_left vF
   refine⟨λk hk=>⟨λkH=> ?_,λkH=> ?_⟩,λk hk kH=> ?_⟩
   ·exact fy this.1 (x:=k) hk (aS _ kH)
   ·exact fy this.1 (x:=k) hk (bh _ kH)
   ·exact fy this.2 (x:=k) hk kH
  ·refine cX (yA _ _) ?_
   rw[ko];exact aB _
  ·have hf: ∀j,(Array.replicate ops.size false).getD j false=false:=by
    intro j
    rw[jy,Array.getElem?_replicate]
    split<;>rfl
   obtain⟨⟨d,M,ν,hle,hc,GJ⟩,hs,hd,ns⟩:=hI
   refine⟨by simp,λj o _ hS=>(by rw[hf]at hS;cases hS),σ,(gK.start us σ).congr (λj=>(by rw[hf];simp)),⟨d,M,ν,hle,hc.tr (Tr.drew hc.mem),GJ⟩,hs,hd,ns⟩
theorem rN{L:Option (List (Nat×CM))}(hL: ∀L',L=some L'→ec L'=true){b:Code}{Q:Exit→Act→World→Prop}{step:St→(St→Option α)→Option α}
  (hs: ∀σ a w kn (Q':Exit→Act→World→Prop),Inv c E σ a w→step σ kn=some r→(∀σ' a' w',kn σ'=some r→Inv c E σ' a' w'→Q' .normal a' w')→(∀e a' w',e≠ .normal→Q e a' w'→Q' e a' w')→b.wp P Q' a w):
  ∀n σ a w,Inv c E σ a w→rp L step n σ=some r→Code.rounds P b Q n a w
 |0,σ,a,w,_,h=>by cases h
 |n+1,σ,a,w,hI,h=>by
  rw[rounds_succ]
  refine hs σ a w _ _ hI h (fun σ' a' w' h' rK=> ?_) (λe a' w' he hq=> ?_)
  ·obtain⟨σ'',yc,KA⟩:=oD rK hL h'
   exact rN hL hs n σ'' a' w' KA yc
  ·cases e<;>first|exact hq|exact absurd rfl he
theorem CT(hE:g9 P E): ∀(cd:Code) (σ:St) (a:Act) (w:World) (k:St→Option α) (kx:Nat→St→Option α) (kr:St→Option α) (Q:Exit→Act→World→Prop),Inv c E σ a w→sL E cd σ k kx kr=some r→
  (∀σ' a' w',k σ'=some r→Inv c E σ' a' w'→Q .normal a' w')→(∀i σ' a' w',kx i σ'=some r→Inv c E σ' a' w'→Q (.exit i) a' w')→(∀σ' a' w',kr σ'=some r→Inv c E σ' a' w'→Q .ret a' w')→cd.wp P Q a w:=by
 intro cd
 induction cd with
 |skip=>intro σ a w k kx kr Q hI h hk _ _;exact wp_skip (hk σ a w h hI)
 |region id ops draw=>intro σ a w k kx kr Q hI h hk _ _;exact vQ hE hI h hk
 |seq x y Tl Tm=>
  intro σ a w k kx kr Q hI h hk hx hr
  refine wp_seq (Tl σ a w _ kx kr _ hI h (fun σ' a' w' h' rK=> ?_) hx hr)
  obtain⟨σ'',yc,KA⟩:=oD rK (λL' hL=>by
   cases hf:aZ y with
   |none=>rw[hf]at hL;cases hL
   |some i=>rw[hf]at hL;exact hE.Et i L' hL) h'
  exact Tm σ'' a' w' k kx kr Q KA yc hk hx hr
 |cond x t e Vx Vy=>
  intro σ a w k kx kr Q hI h hk hx hr
  obtain⟨b,hb,h⟩:=za (E:=E) (A:=fun σ'=>sL E t σ' k kx kr) (B:=fun σ'=>sL E e σ' k kx kr) hI h
  refine wp_cond hb ?_
  cases b
  ·exact Vy σ a w k kx kr Q hI h hk hx hr
  ·exact Vx σ a w k kx kr Q hI h hk hx hr
 |block id x ih=>
  intro σ a w k kx kr Q hI h hk hx hr
  refine wp_block (ih σ a w k _ kr _ hI h hk (λi σ' a' w' h' rK=> ?_) hr)
  show if i=id then Q .normal a' w' else Q (.exit i) a' w'
  cases hb:Nat.beq i id
  ·have dT:i≠id:=λe=>by subst e;rw[show Nat.beq i i=true from gC i]at hb;cases hb
   rw[hb]at h'
   rw[ag dT]
   exact hx i σ' a' w' h' rK
  ·rw[hb]at h'
   rw[af (bY hb)]
   exact hk σ' a' w' h' rK
 |loop b ih=>
  intro σ a w k kx kr Q hI h hk hx hr
  have hL: ∀L',(aZ b).bind E.mZ=some L'→ec L'=true:=λL' hL=>by
   cases hf:aZ b with
   |none=>rw[hf]at hL;cases hL
   |some i=>rw[hf]at hL;exact hE.ec i L' hL
  obtain⟨σ',h',rK⟩:=oD hI hL h
  refine wp_loop_rounds E.N (rN hL (fun σ a w kn Q' hI h y8 hq=> ?_) E.N σ' a w rK h')
  exact ih σ a w kn kx kr Q' hI h y8 (λi σ' a' w' h' rK=>hq _ _ _ (by simp) (hx i σ' a' w' h' rK)) (fun σ' a' w' h' rK=>hq _ _ _ (by simp) (hr σ' a' w' h' rK))
 |rangeFunc f ps x y Tl Tm=>intro σ a w k kx kr Q hI h;cases h
 |exit id=>intro σ a w k kx kr Q hI h hk hx hr;exact wp_exit (hx id σ a w h hI)
 |scope x ih=>
  intro σ a w k kx kr Q hI h hk hx hr
  exact wp_scope_straight (ih σ a w k kx kr _ hI h hk hx hr)
 |label l=>intro σ a w k kx kr Q hI h hk _ _;exact wp_label (hk σ a w h hI)
 |goto l=>intro σ a w k kx kr Q hI h;cases h
 |ret=>intro σ a w k kx kr Q hI h hk hx hr;exact wp_ret (hr σ a w h hI)
 |refuse s=>intro σ a w k kx kr Q hI h;cases h
end VM
end
