/- A part of the proof of WindBears of layer 21: a machine that reads a function of the program as an equation between values. -/
import Derived.Test.YtecmobijochjkaaGreatVm5
import Derived.Laws.StructEq
import Derived.OpenShut
import Derived.ChangeShapes
import Derived.ChangeMaps5
import Derived.RowKit
import Derived.ChangeOld
import Derived.Carry
import Derived.Below
import Derived.Test.YtecmobijochjkaaGreatVm0
set_option linter.all false
noncomputable section
section
namespace VM
open Go
variable{P:Program}{E:Env}{o:Oper}{a:Act}{w:World}{M:Nat→Prop}{ν:Nat→Value}{σ:St}{c:Ctx}{α:Type}{r:α}{next:Act→World→Prop}{Q:Exit→Act→World→Prop}
theorem CD{L:Option (List (Nat×CM))}(hL: ∀L',L=some L'→kd L'=true){b:Code}{Q:Exit→Act→World→Prop}{step:St→(St→Option α)→Option α}
  (hs: ∀σ a w kn (Q':Exit→Act→World→Prop),Inv c E σ a w→step σ kn=some r→(∀σ' a' w',kn σ'=some r→Inv c E σ' a' w'→Q' .normal a' w')→(∀e a' w',e≠ .normal→Q e a' w'→Q' e a' w')→b.wp P Q' a w):
  ∀n σ a w,Inv c E σ a w→Co L step n σ=some r→Code.rounds P b Q n a w
 |0,σ,a,w,_,h=>by cases h
 |n+1,σ,a,w,hI,h=>by
  rw[rounds_succ]
  refine hs σ a w _ _ hI h (fun σ' a' w' h' yD=> ?_) (λe a' w' he hq=> ?_)
  ·obtain⟨vD,J9,ahw⟩:=yV yD hL h'
   exact CD hL hs n vD a' w' ahw J9
  ·cases e<;>first|exact hq|exact absurd rfl he
theorem Tx(hE:tK P E): ∀(cd:Code) (σ:St) (a:Act) (w:World) (k:St→Option α) (kx:Nat→St→Option α) (kr:St→Option α) (Q:Exit→Act→World→Prop),Inv c E σ a w→DV E cd σ k kx kr=some r→
  (∀σ' a' w',k σ'=some r→Inv c E σ' a' w'→Q .normal a' w')→(∀i σ' a' w',kx i σ'=some r→Inv c E σ' a' w'→Q (.exit i) a' w')→(∀σ' a' w',kr σ'=some r→Inv c E σ' a' w'→Q .ret a' w')→cd.wp P Q a w:=by
 intro cd
 induction cd with
 |skip=>intro σ a w k kx kr Q hI h hk _ _;exact wp_skip (hk σ a w h hI)
 |region id ops draw=>intro σ a w k kx kr Q hI h hk _ _;exact HE hE hI h hk
 |seq x y ihx ihy=>
  intro σ a w k kx kr Q hI h hk hx hr
  refine wp_seq (ihx σ a w _ kx kr _ hI h (fun σ' a' w' h' yD=> ?_) hx hr)
  obtain⟨vD,J9,ahw⟩:=yV yD (λL' hL=>by
   cases hf:cN y with
   |none=>rw[hf]at hL;cases hL
   |some i=>rw[hf]at hL;exact hE.VV i L' hL) h'
  exact ihy vD a' w' k kx kr Q ahw J9 hk hx hr
 |cond x t e iht ihe=>
  intro σ a w k kx kr Q hI h hk hx hr
  obtain⟨b,hb,h⟩:=ML (E:=E) (A:=fun σ'=>DV E t σ' k kx kr) (B:=fun σ'=>DV E e σ' k kx kr) hI h
  refine wp_cond hb ?_
  cases b
  ·exact ihe σ a w k kx kr Q hI h hk hx hr
  ·exact iht σ a w k kx kr Q hI h hk hx hr
 |block id x ih=>
  intro σ a w k kx kr Q hI h hk hx hr
  refine wp_block (ih σ a w k _ kr _ hI h hk (λi σ' a' w' h' yD=> ?_) hr)
  show if i=id then Q .normal a' w' else Q (.exit i) a' w'
  cases hb:Nat.beq i id
  ·have jB:i≠id:=λe=>by subst e;rw[show Nat.beq i i=true from tz i]at hb;cases hb
   rw[hb]at h'
   rw[ah jB]
   exact hx i σ' a' w' h' yD
  ·rw[hb]at h'
   rw[aj (fW hb)]
   exact hk σ' a' w' h' yD
 |loop b ih=>
  intro σ a w k kx kr Q hI h hk hx hr
  have hL: ∀L',(cN b).bind E.wi=some L'→kd L'=true:=λL' hL=>by
   cases hf:cN b with
   |none=>rw[hf]at hL;cases hL
   |some i=>rw[hf]at hL;exact hE.kd i L' hL
  obtain⟨σ',h',yD⟩:=yV hI hL h
  refine wp_loop_rounds E.N (CD hL (fun σ a w kn Q' hI h hkn hq=> ?_) E.N σ' a w yD h')
  exact ih σ a w kn kx kr Q' hI h hkn (λi σ' a' w' h' yD=>hq _ _ _ (by simp) (hx i σ' a' w' h' yD)) (fun σ' a' w' h' yD=>hq _ _ _ (by simp) (hr σ' a' w' h' yD))
 |rangeFunc f ps x y ihx ihy=>intro σ a w k kx kr Q hI h;cases h
 |exit id=>intro σ a w k kx kr Q hI h hk hx hr;exact wp_exit (hx id σ a w h hI)
 |scope x ih=>
  intro σ a w k kx kr Q hI h hk hx hr
  exact wp_scope_straight (ih σ a w k kx kr _ hI h hk hx hr)
 |label l=>intro σ a w k kx kr Q hI h hk _ _;exact wp_label (hk σ a w h hI)
 |goto l=>intro σ a w k kx kr Q hI h;cases h
 |ret=>intro σ a w k kx kr Q hI h hk hx hr;exact wp_ret (hr σ a w h hI)
 |refuse s=>intro σ a w k kx kr Q hI h;cases h
end VM
end
section
namespace VM
open Go
variable{P:Program}{E:Env}{o:Oper}{a:Act}{w:World}{M:Nat→Prop}{ν:Nat→Value}{σ:St}{c:Ctx}{α:Type}{r:α}{next:Act→World→Prop}{Q:Exit→Act→World→Prop}
theorem Qh{m:AM}{ms:List AM}(x:HP (m::ms))(i:Nat)(σ:St):entry (m::ms) x i σ=entry ms (yj x) (i+1) (P3 m (tg x) i σ):=by
 cases ms with
 |nil=>simp[entry,tg]
 |cons n ms=>simp[entry,tg,yj]
theorem Core.yC{tm:Array Value}(h:Core c σ tm w M ν){id:Nat}{v:Value}{e:bh}(bf:σ.H id=none)(S6:ER w M v e)
  (hd: ∀b,fM v=some b→ ∀i e',σ.H i=some e'→e'.mut→fM (ν i)≠some b) (hn: ∀b,fM v=some b→c.B≤b∨c.may b) (ho: ∀b e0 l0,e= .own e0 l0→fM v=some b→ ¬c.M0 b)
  (sZ: ∀τ x p j,e= .gk τ x p j→bY σ.H id (some e) j≠none∧ ∃b,v= .pointer (some ⟨b,0,none⟩)∧w.cell? ⟨b,cF p τ,none⟩=some (dg ν id v j):=by intro _ _ _ _ h;cases h):
  Core c ⟨σ.T,bY σ.H id (some e)⟩ tm w M (dg ν id v):=by
 have hm:=Mem.yC h.mem (id:=id) (v:=v) (e:=e) (λe' wu=>by rw[bf]at wu;cases wu) S6 hd hn ho (.inl bf) sZ
 refine h.tr ⟨hm,.refl w M,⟨λi e1 hi=> ?_,λi hi=> ?_⟩⟩
 ·have bX:i≠id:=λe=>by rw[e,bf]at hi;cases hi
  exact⟨e1,by rw[az _ _ bX];exact hi,.refl e1⟩
 ·have bX:i≠id:=λe=>hi (e▸bf)
  simp[dg,bX]
theorem Core.put{tm:Array Value}(h:Core c σ tm w M ν){d:Nat}{x:bD}(hx:VR w M σ.H ν x (tm.getD d undef)):Core c (σ.put d x) tm w M ν:=by
 refine⟨h.mem,λi=> ?_⟩
 by_cases hi:i=d
 ·subst hi;rw[uE];exact hx
 ·rw[Ah _ _ hi];exact h.tmp i
theorem CE{tm:Array Value}: ∀{ms:List AM} {x:HP ms} {vs:List Value} {i:Nat} {σ:St} {ν:Nat→Value} {used:List Nat},Core c σ tm w M ν→jJ w M ms x vs→(∀j v,vs[j]? =some v→tm.getD (i+j) undef=v)→
  (∀j,16*i≤j→σ.H j=none)→(∀j e b,σ.H j=some e→e.mut→fM (ν j)=some b→b∈used)→(used++dO ms vs).Nodup→(∀b∈dO ms vs,c.may b)→(∀b,c.may b→ ¬c.M0 b)→
  ∃ν',Core c (entry ms x i σ) tm w M ν'
 |[],x,vs,i,σ,ν,used,h,_,_,_,_,_,_,_=>⟨ν,h⟩
 |m::ms,x,vs,i,σ,ν,used,h,hA,MT,ju,Is,yk,Qi,Ic=>by
  rw[Qh]
  simp only[jJ]at hA
  obtain⟨v,LC,rfl,h1,h2⟩:=hA
  have hv:tm.getD i undef=v:=by simpa using MT 0 v rfl
  have Ke: ∀j u,LC[j]? =some u→tm.getD (i+1+j) undef=u:=λj u hj=>by
   have:=MT (j+1) u (by simpa using hj)
   rwa [show i+(j+1)=i+1+j from by omega]at this
  have bf:σ.H (16*i+15)=none:=ju _ ω
  have ahx:dO (m::ms) (v::LC)=da m v++dO ms LC:=rfl
  rw[ahx]at yk Qi
  have q5: ∀b,b∈da m v→ ∀j e',σ.H j=some e'→e'.mut→fM (ν j)≠some b:=λb hb j e' hj jT eZ=>
   mC yk (Is j e' b hj jT eZ) (cW _ hb)
  have wG: ∀{σ':St} {ν':Nat→Value},Core c σ' tm w M ν'→(∀j,16*(i+1)≤j→σ'.H j=none)→(∀j e b,σ'.H j=some e→e.mut→fM (ν' j)=some b→b∈used++da m v)→ ∃ν'',Core c (entry ms (yj x) (i+1) σ') tm w M ν'':=
   λh' Bo hu'=>CE h' h2 Ke Bo hu' (by rw[bu];exact yk) (λb hb=>Qi b (dz _ hb)) Ic
  have MO: ∀(e:bh) (v':Value),v'=v→(∀b,fM v=some b→b∈da m v)→(∀j,16*(i+1)≤j→bY σ.H (16*i+15) (some e) j=none)∧
    (∀j e1 b,bY σ.H (16*i+15) (some e) j=some e1→e1.mut→fM (dg ν (16*i+15) v' j)=some b→b∈used++da m v):=by
   rintro e v' rfl hb
   refine⟨λj hj=>by rw[az _ _ ω];exact ju j ω,λj e1 b hj jT eZ=> ?_⟩
   by_cases yY:j=16*i+15
   ·subst yY
    simp only[dg,gD]at eZ
    exact dz _ (hb b eZ)
   ·rw[az _ _ yY]at hj
    simp only[dg,yY,eU]at eZ
    exact cW _ (Is j e1 b hj jT eZ)
  cases m with
  |v τ=>
   refine wG (σ':=σ.put i (.val τ (tg x))) (h.put ?_) (λj hj=>ju j ω) (λj e b hj jT eZ=>cW _ (Is j e b hj jT eZ))
   simp only[VR,hv];exact h1
  |fn f τ=>
   refine wG (σ':=σ.put i (.Mf f (pP τ (tg x)))) (h.put ?_) (λj hj=>ju j ω) (λj e b hj jT eZ=>cW _ (Is j e b hj jT eZ))
   rw[hv]
   simp only[A1,VR]at h1 ⊢
   obtain⟨us,hu,PQ⟩:=h1
   exact⟨us,hu,jt.free PQ⟩
  |own e=>
   have wv: ∀b,fM v=some b→b∈da (.own e) v:=λb hb=>by simp[da,hb]
   have hc:=h.yC bf (v:=v) (e:= .own e (tg x)) h1 (λb hb=>q5 b (wv b hb)) (λb hb=> .inr (Qi b (cW _ (wv b hb)))) (λb _ _ _ hb=>Ic b (Qi b (cW _ (wv b hb))))
   obtain⟨Bo,hu'⟩:=MO (.own e (tg x)) v rfl wv
   refine wG (σ':=(σ.put i (.ref (16*i+15))).jR (16*i+15) (some (.own e (tg x)))) (ν':=dg ν (16*i+15) v) (hc.put (d:=i) (x:= .ref (16*i+15)) ?_) Bo hu'
   simp only[VR,hv]
   exact⟨by rw[ax];simp,by simp[dg]⟩
  |lo e=>
   have wv: ∀b,fM v=some b→b∈da (.lo e) v:=λb hb=>by simp[da,hb]
   have hc:=h.yC bf (v:=v) (e:= .own e (tg x)) h1 (λb hb=>q5 b (wv b hb)) (λb hb=> .inr (Qi b (cW _ (wv b hb)))) (λb _ _ _ hb=>Ic b (Qi b (cW _ (wv b hb))))
   obtain⟨Bo,hu'⟩:=MO (.own e (tg x)) v rfl wv
   refine wG (σ':=(σ.put i (.ref (16*i+15))).jR (16*i+15) (some (.own e (tg x)))) (ν':=dg ν (16*i+15) v) (hc.put (d:=i) (x:= .ref (16*i+15)) ?_) Bo hu'
   simp only[VR,hv]
   exact⟨by rw[ax];simp,by simp[dg]⟩
  |io τ=>
   have wv: ∀b,fM v=some b→b∈da (.io τ) v:=λb hb=>by simp[da,hb]
   have hc:=h.yC bf (v:=v) (e:= .obj τ (tg x)) h1 (λb hb=>q5 b (wv b hb)) (λb hb=> .inr (Qi b (cW _ (wv b hb)))) (λb _ _ he=>by cases he)
   obtain⟨Bo,hu'⟩:=MO (.obj τ (tg x)) v rfl wv
   refine wG (σ':=(σ.put i (.jr (16*i+15) [])).jR (16*i+15) (some (.obj τ (tg x)))) (ν':=dg ν (16*i+15) v) (hc.put (d:=i) (x:= .jr (16*i+15) []) ?_) Bo hu'
   simp only[A1,ER]at h1
   obtain⟨b,cs,t,VQ,_⟩:=h1
   simp only[VR,hv]
   exact⟨_,ax _ _ _,trivial,b,by simp[dg,VQ],VQ⟩
  |jr τ=>
   refine wG (σ':=σ.put i (.qT τ (tg x))) (h.put ?_) (λj hj=>ju j ω) (λj e b hj jT eZ=>cW _ (Is j e b hj jT eZ))
   rw[hv]
   simp only[A1,VR]at h1 ⊢
   exact h1
  |ptr τ=>
   refine wG (σ':=σ) h (λj hj=>ju j ω) (λj e b hj jT eZ=>cW _ (Is j e b hj jT eZ))
def wI(tm:Array Value):ResultVar→Sem Value
 | .tmp t=>pure (tm.getD t undef)
 | .cell x t=>do loadVar t (←asAddr (tm.getD x undef))
def Dx(P:Program)(tm:Array Value)(w:World)(rv:ResultVar)(u:Value):Prop:=(wI tm rv).run P w= .ok u w
def Kf(P:Program)(tm:Array Value)(w:World):List (ResultVar ⊕ Nat)→List Value→List Value→Prop
 |[],us,ps=>us=[]∧ps=[]
 | .inl rv::rs,us,ps=> ∃u J7,us=u::J7∧Dx P tm w rv u∧Kf P tm w rs J7 ps
 | .inr i::rs,us,ps=> ∃p Hf,ps=p::Hf∧p=tm.getD i undef∧Kf P tm w rs us Hf
theorem Core.ZQ{tm:Array Value}{H1:Nat→Option bh}{M1:Nat→Prop}(h: ∀i,VR w M σ.H ν (σ.T i) (tm.getD i undef))(k:fa w M w M1)(g:sY σ.H ν H1 ν): ∀i,VR w M1 H1 ν (σ.T i) (tm.getD i undef):=
 λi=>VR.cc k g (h i)
theorem CF(hE:EnvTy P E){tm:Array Value}{H0 Hq:Nat→Option bh}{M1:Nat→Prop}{uo uf:jb}{io:List (Nat×AM)}{hs:List Nat}(h:jK c w M ν H0 σ.H Hq M1 uo uf io hs)(ht: ∀i,VR w M1 σ.H ν (σ.T i) (tm.getD i undef))
  {m:AM} {rs:ResultVar ⊕ Nat} {k:m.den→St→Option α} (hk:Ib E m rs σ k=some r):
  ∃y σ' Lv Lw G7 Vf M2 u,k y σ'=some r∧σ'.T=σ.T∧jK c w M ν H0 σ'.H Vf M2 Lv Lw G7 (hs++da m u)∧fa w M1 w M2∧sY σ.H ν σ'.H ν∧A1 w M2 m y u∧
   ((m.iL=false∧m.Zx=false∧ ∃rv,rs= .inl rv∧Dx P tm w rv u)∨(m.iL=true∧ ∃i,rs= .inr i∧u=tm.getD i undef)):=by
 unfold Ib at hk
 split at hk
 ·
  rename_i τ t k
  obtain⟨y,rd,ups,hk,hy⟩:=DY h.mem (ht t) hk
  have Qj:Dx P tm w (.tmp t) (tm.getD t undef):=by simp[Dx,wI]
  rcases hy with⟨rfl,hV⟩|⟨id,e,l,rfl,bf,hV⟩
  ·exact⟨y,σ,uo,uf,io,Hq,M1,_,hk,rfl,by simpa [da]using h,.refl w M1,.refl _ ν,hV,.inl ⟨rfl,rfl,_,rfl,Qj⟩⟩
  ·obtain⟨M2,hA,hK,JZ⟩:=h.freeze bf
   exact⟨y,_,uo,_,io,Hq,M2,_,hk,rfl,(by simp only[da,ck];exact hA),hK,.Zz bf ⟨rfl,rfl⟩,hV M2 JZ,.inl ⟨rfl,rfl,_,rfl,Qj⟩⟩
 ·
  rename_i τ x t k
  split at hk
  ·rename_i τ' EY
   obtain⟨e1,hk1⟩:=fZ hk
   clear hk
   subst e1
   obtain⟨υ,z,rd,hk,b,off,cs,hv,p5,kX⟩:=Cs h.mem (ht x) hk1
   obtain⟨e2,Y5⟩:=bC hk
   subst e2
   refine⟨_,σ,uo,uf,io,Hq,M1,cM _ cs,Y5,rfl,by simpa [da]using h,.refl w M1,.refl _ ν,V.cM kX,.inl ⟨rfl,rfl,_,rfl,?_⟩⟩
   simp only[Dx,wI,hv]
   simp[asAddr,Cr (hE.ty t _ EY) p5 kX]
  ·cases hk
 ·
  rename_i e t k
  have hv:=ht t
  have Qj:Dx P tm w (.tmp t) (tm.getD t undef):=by simp[Dx,wI]
  split at hk
  ·rename_i hT
   rw[hT]at hv
   obtain⟨ad,hv⟩:=VR.emp.1 hv
   have hb:fM (.slice ad 0 0)=none:=by cases ad<;>simp[fM]
   exact⟨[],σ,uo,uf,io,Hq,M1,_,hk,rfl,by rw[hv];simpa [da,hb]using h,.refl w M1,.refl _ ν,by rw[hv];simp only[A1,ER];exact .inl ⟨trivial,ad,rfl⟩,.inl ⟨rfl,rfl,_,rfl,Qj⟩⟩
  ·rename_i id hT
   rw[hT]at hv
   simp only[VR]at hv
   split at hk
   ·rename_i e' l bf
    obtain⟨e1,hk⟩:=bC hk
    cases e1
    refine⟨_,_,_,uf,io,_,M1,ν id,hk,rfl,(by simp only[da];exact h.hand bf),.refl w M1,.Zz bf (bh.kO _),h.mem.la id _ bf,.inl ⟨rfl,rfl,_,rfl,by rw[←hv.2];exact Qj⟩⟩
   ·cases hk
  ·cases hk
 ·
  rename_i τ i k
  have hv:=ht i
  split at hk
  ·rename_i id hT
   rw[hT]at hv
   split at hk
   ·rename_i υ z bf
    obtain⟨e1,hk⟩:=bC hk
    subst e1
    simp only[VR]at hv
    obtain⟨e,he,nR⟩:=hv
    rw[bf]at he;cases he
    simp only[AR]at nR
    obtain⟨_,b,hb,hv⟩:=nR
    have VQ:tm.getD i undef=ν id:=by rw[hv,hb];rfl
    refine⟨_,_,uo,uf,_,_,M1,ν id,hk,rfl,(by simp only[da];exact h.ahg bf),.refl w M1,.Zz bf (bh.kO _),h.mem.la id _ bf,.inr ⟨rfl,i,rfl,VQ.symm⟩⟩
   ·cases hk
  ·cases hk
 ·
  rename_i e i k
  have hv:=ht i
  split at hk
  ·rename_i id hT
   rw[hT]at hv
   simp only[VR]at hv
   split at hk
   ·rename_i e' l bf
    obtain⟨e1,hk⟩:=bC hk
    cases e1
    refine⟨_,_,uo,uf,_,_,M1,ν id,hk,rfl,(by simp only[da];exact h.afS bf),.refl w M1,.Zz bf (bh.kO _),h.mem.la id _ bf,.inr ⟨rfl,i,rfl,hv.2.symm⟩⟩
   ·cases hk
  ·cases hk
 ·
  rename_i τ t k
  have hv:=ht t
  have Qj:Dx P tm w (.tmp t) (tm.getD t undef):=by simp[Dx,wI]
  split at hk
  ·rename_i id hT
   rw[hT]at hv
   split at hk
   ·rename_i υ z bf
    obtain⟨e1,hk⟩:=bC hk
    subst e1
    simp only[VR]at hv
    obtain⟨e,he,nR⟩:=hv
    rw[bf]at he;cases he
    simp only[AR]at nR
    obtain⟨_,b,hb,hv⟩:=nR
    have VQ:tm.getD t undef=ν id:=by rw[hv,hb];rfl
    refine⟨_,_,uo,uf,_,_,M1,ν id,hk,rfl,(by simp only[da];exact h.ahg bf),.refl w M1,.Zz bf (bh.kO _),h.mem.la id _ bf,.inl ⟨rfl,rfl,_,rfl,by rw[←VQ];exact Qj⟩⟩
   ·cases hk
  ·cases hk
 ·cases hk
theorem Fj(hE:EnvTy P E){tm:Array Value}{H0:Nat→Option bh}: ∀{ms:List AM} {rs:List (ResultVar ⊕ Nat)} {σ:St} {Hq:Nat→Option bh} {M1:Nat→Prop} {uo uf:jb} {io:List (Nat×AM)} {hs:List Nat} {K:HP ms→Option α},
  jK c w M ν H0 σ.H Hq M1 uo uf io hs→(∀i,VR w M1 σ.H ν (σ.T i) (tm.getD i undef))→JR E ms rs σ K=some r→
  ∃y us ps H2 Lv Lw G7 Vf M2,K y=some r∧jK c w M ν H0 H2 Vf M2 Lv Lw G7 (hs++bF ms us ps)∧fa w M1 w M2∧RR w M2 ms y us ps∧Kf P tm w rs us ps
 |[],[],σ,Hq,M1,uo,uf,io,hs,K,h,ht,hk=>⟨(),[],[],σ.H,uo,uf,io,Hq,M1,hk,by simpa [bF]using h,.refl w M1,⟨rfl,rfl⟩,⟨rfl,rfl⟩⟩
 |[m],[q],σ,Hq,M1,uo,uf,io,hs,K,h,ht,hk0=>by
  obtain⟨y,σ',Lv,Lw,G7,Vf,M2,u,hk,hT,hA,hK,hG,hy,hu⟩:=CF hE h ht (hk0:Ib E m q σ _=some r)
  clear hk0
  rcases hu with⟨h1,h2,rv,rfl,hv⟩|⟨h1,i,rfl,hv⟩
  ·refine⟨y,[u],[],_,_,_,_,_,M2,hk,by simpa [bF,h1]using hA,hK,?_,?_⟩
   ·simp only[RR];exact .inr ⟨u,[],h1,h2,rfl,hy,by simp⟩
   ·simp only[Kf];exact⟨u,[],rfl,hv,by simp⟩
  ·refine⟨y,[],[u],_,_,_,_,_,M2,hk,by simpa [bF,h1]using hA,hK,?_,?_⟩
   ·simp only[RR];exact .inl ⟨u,[],h1,rfl,hy,by simp⟩
   ·simp only[Kf];exact⟨u,[],rfl,hv,by simp⟩
 |m::n::ms,q::rs,σ,Hq,M1,uo,uf,io,hs,K,h,ht,hk0=>by
  obtain⟨y,σ',Lv,Lw,G7,Vf,M2,u,hk1,hT,hA,hK,hG,hy,hu⟩:=CF hE h ht (hk0:Ib E m q σ _=some r)
  obtain⟨ys,us,ps,H3,uo3,uf3,io3,Hq3,M3,hk,hA3,hK3,hys,hrs⟩:=Fj (ms:=n::ms) hE hA (λi=>by rw[hT];exact Core.ZQ ht hK hG i) hk1
  have Io:A1 w M3 m y u:=A1.wH hK3 (λb hb=>⟨rfl,hA3.hM b (cW _ (dz _ hb))⟩) hy
  clear hk0
  rcases hu with⟨h1,h2,rv,rfl,hv⟩|⟨h1,i,rfl,hv⟩
  ·refine⟨(y,ys),u::us,ps,H3,uo3,uf3,io3,Hq3,M3,hk,?_,hK.trans hK3,?_,?_⟩
   ·have:bF (m::n::ms) (u::us) ps=da m u++bF (n::ms) us ps:=by rw[bF];simp[h1]
    rw[this,←bu];exact hA3
   ·rw[RR];exact .inr ⟨u,us,h1,h2,rfl,Io,hys⟩
   ·simp only[Kf];exact⟨u,us,rfl,hv,hrs⟩
  ·refine⟨(y,ys),us,u::ps,H3,uo3,uf3,io3,Hq3,M3,hk,?_,hK.trans hK3,?_,?_⟩
   ·have:bF (m::n::ms) us (u::ps)=da m u++bF (n::ms) us ps:=by rw[bF];simp[h1]
    rw[this,←bu];exact hA3
   ·rw[RR];exact .inl ⟨u,ps,h1,rfl,Io,hys⟩
   ·simp only[Kf];exact⟨u,ps,rfl,hv,hrs⟩
 |[],_::_,_,_,_,_,_,_,_,_,_,_,hk=>by simp[JR]at hk
 |[_],[],_,_,_,_,_,_,_,_,_,_,hk=>by simp[JR]at hk
 |[_],_::_::_,_,_,_,_,_,_,_,_,_,_,hk=>by simp[JR]at hk
 |_::_::_,[],_,_,_,_,_,_,_,_,_,_,hk=>by simp[JR]at hk
end VM
end
section
namespace VM
open Go
variable{P:Program}{E:Env}{o:Oper}{a:Act}{w:World}{M:Nat→Prop}{ν:Nat→Value}{σ:St}{c:Ctx}{α:Type}{r:α}{next:Act→World→Prop}{Q:Exit→Act→World→Prop}
theorem It{tm:Array Value}: ∀{rv:List ResultVar} {is:List (ResultVar ⊕ Nat)} {us ps:List Value},Kf P tm w (rv.map .inl++is) us ps→
  ∃Y9 us2,us=Y9++us2∧Y9.length=rv.length∧(∀i (h:i<rv.length) (h':i<Y9.length),Dx P tm w rv[i] Y9[i])∧Kf P tm w is us2 ps
 |[],is,us,ps,h=>⟨[],us,rfl,rfl,λi h=>by simp at h,h⟩
 |rv::rvs,is,us,ps,h=>by
  simp only[bW,kJ,Kf]at h
  obtain⟨u,J7,rfl,h1,h2⟩:=h
  obtain⟨Y9,us2,rfl,hl,h3,h4⟩:=It h2
  refine⟨u::Y9,us2,rfl,by simp[hl],λi hi nc=> ?_,h4⟩
  cases i with
  |zero=>exact h1
  |succ i=>exact h3 i (by simpa using hi) (by simpa using nc)
theorem wJ{tm:Array Value}: ∀{ms:List AM} {vs:List Value} {i:Nat} {us ps:List Value},vs.length=ms.length→(∀j v m,vs[j]? =some v→ms[j]? =some m→m.iL=true→tm.getD (i+j) undef=v)→Kf P tm w (yP ms i) us ps→us=[]∧ps=fp ms vs
 |[],vs,i,us,ps,_,_,h=>by simp only[yP,Kf]at h;simpa [fp]using h
 |m::ms,[],_,_,_,hl,_,_=>by simp at hl
 |m::ms,v::vs,i,us,ps,hl,MT,h=>by
  have Ke: ∀j u m,vs[j]? =some u→ms[j]? =some m→m.iL=true→tm.getD (i+1+j) undef=u:=λj u m hj hm vq=>by
   have:=MT (j+1) u m (by simpa using hj) (by simpa using hm) vq
   rwa [show i+(j+1)=i+1+j from by omega]at this
  have JT:vs.length=ms.length:=by simpa using hl
  cases m with
  |io τ=>
   simp only[yP,Kf]at h
   obtain⟨p,Hf,rfl,hp,h⟩:=h
   obtain⟨h1,h2⟩:=wJ JT Ke h
   refine⟨h1,?_⟩
   have:=MT 0 v (.io τ) rfl rfl rfl
   simp only[m5]at this
   simp[fp,AM.iL,h2,hp,this]
  |lo e=>
   simp only[yP,Kf]at h
   obtain⟨p,Hf,rfl,hp,h⟩:=h
   obtain⟨h1,h2⟩:=wJ JT Ke h
   refine⟨h1,?_⟩
   have:=MT 0 v (.lo e) rfl rfl rfl
   simp only[m5]at this
   simp[fp,AM.iL,h2,hp,this]
  |v τ=>
   obtain⟨h1,h2⟩:=wJ JT Ke (show Kf P tm w (yP ms (i+1)) us ps from h)
   exact⟨h1,by simp[fp,AM.iL,h2]⟩
  |own τ=>
   obtain⟨h1,h2⟩:=wJ JT Ke (show Kf P tm w (yP ms (i+1)) us ps from h)
   exact⟨h1,by simp[fp,AM.iL,h2]⟩
  |fn f τ=>
   obtain⟨h1,h2⟩:=wJ JT Ke (show Kf P tm w (yP ms (i+1)) us ps from h)
   exact⟨h1,by simp[fp,AM.iL,h2]⟩
  |jr τ=>
   obtain⟨h1,h2⟩:=wJ JT Ke (show Kf P tm w (yP ms (i+1)) us ps from h)
   exact⟨h1,by simp[fp,AM.iL,h2]⟩
  |ptr τ=>
   obtain⟨h1,h2⟩:=wJ JT Ke (show Kf P tm w (yP ms (i+1)) us ps from h)
   exact⟨h1,by simp[fp,AM.iL,h2]⟩
theorem MW{fn:Func}{tm:Array Value}{us:List Value}(hl:us.length=fn.results.toList.length)(h: ∀i (h:i<fn.results.toList.length) (h':i<us.length),Dx P tm w fn.results.toList[i] us[i]):
  (results fn tm).run P w= .ok (wF us) w:=by
 have key: ∀(rs:List ResultVar) (us:List Value),us.length=rs.length→(∀i (h:i<rs.length) (h':i<us.length),Dx P tm w rs[i] us[i])→(rs.mapM (wI tm)).run P w= .ok us w:=by
  intro rs
  induction rs with
  |nil=>intro us hl _;cases us with
   |nil=>simp
   |cons _ _=>simp at hl
  |cons r rs ih=>intro us hl h;cases us with
   |nil=>simp at hl
   |cons u us=>
    have h0:(wI tm r).run P w= .ok u w:=h 0 (by simp) (by simp)
    have h1:=ih us (by simpa using hl) (λi hi nc=>h (i+1) (by simpa using hi) (by simpa using nc))
    simp[zG,h0,h1]
 have h2:=key fn.results.toList us hl h
 have h3:results fn tm=(do let vs ←fn.results.mapM (wI tm);pure (if h:vs.size=1 then vs[0]else .tuple vs)):=by
  unfold results
  congr 1
 rw[h3,Array.mapM_eq_mapM_toList]
 simp only[Sem.run_bind,Sem.run_map,h2]
 unfold wF
 by_cases h3:us.length=1
 ·simp[h3]
 ·simp[h3]
theorem Iu(hE:tK P E){f:FuncId}{fn:Func}(hf:P.funcs[f]? =some fn)(hnt:E.nt=fn.ntmps){args res:List AM}(vq: ∀i m,args[i]? =some m→m.iL=true→i∈E.io)(amb: ∀i∈E.io,i<args.length)(hlen:args.length≤fn.ntmps)
  {M0:Nat→Prop} {vs:List Value} {x:HP args} {y:HP res} (rW: ∀b,M0 b→b<w.heap.size) (hA:jJ w (λb=>M0 b∨b∈dO args vs) args x vs) (yk:(dO args vs).Nodup) (wK: ∀b∈dO args vs,¬M0 b)
  (h:PN E fn args res x=some y):
  Calls P f vs.toArray w λe w'=> ∃v,e= .returned v∧ ∃us M',v=wF us∧RR w' M' res y us (fp args vs)∧Left w M0 (dO args vs) w' M'∧(bF res us (fp args vs)).Nodup∧ ∀b∈bF res us (fp args vs),¬M0 b:=by
 unfold PN at h
 split at h
 ·cases h
 rename_i cd hb
 simp only at h
 have hvl: ∀{ms:List AM} {x:HP ms} {vs:List Value} {M:Nat→Prop},jJ w M ms x vs→vs.length=ms.length:=by
  intro ms
  induction ms with
  |nil=>intro x vs M h;simp only[jJ]at h;subst h;rfl
  |cons m ms ih=>intro x vs M h;simp only[jJ]at h;obtain⟨v,LC,rfl,_,h⟩:=h;simp[ih h]
 have Zp:=hvl hA
 let tm:Array Value:=vs.toArray++Array.replicate (fn.ntmps-vs.toArray.size) undef
 have MT: ∀j v,vs[j]? =some v→tm.getD j undef=v:=by
  intro j v hj
  have fb:j<vs.length:=(um.1 hj).1
  rw[sq,Array.getElem?_append_left (by simpa using fb),L9,hj];rfl
 have tf:tm.size=fn.ntmps:=by simp[tm];omega
 have hhb: ∀{ms:List AM} {x:HP ms} {vs:List Value} {M:Nat→Prop},jJ w M ms x vs→ ∀b∈dO ms vs,b<w.heap.size:=by
  intro ms
  induction ms with
  |nil=>intro x vs M h b hb;simp[dO]at hb
  |cons m ms ih=>
   intro x vs M h b hb
   simp only[jJ]at h
   obtain⟨v,LC,rfl,h1,h⟩:=h
   simp only[dO,ba]at hb
   rcases hb with hb|hb
   ·cases m with
    |v _=>simp[da]at hb
    |fn _ _=>simp[da]at hb
    |jr _=>simp[da]at hb
    |own e=>
     simp only[da,fh,A1,ER]at hb h1
     rcases h1 with⟨_,a,hv⟩|⟨b',cs,t,cap,hv,hg,_⟩
     ·rw[hv]at hb;cases a<;>simp[fM]at hb
     ·rw[hv]at hb
      simp only[fM]at hb
      split at hb
      ·cases hb
      ·simp only[iC]at hb;subst hb;exact lt_of_block hg
    |lo e=>
     simp only[da,fh,A1,ER]at hb h1
     rcases h1 with⟨_,a,hv⟩|⟨b',cs,t,cap,hv,hg,_⟩
     ·rw[hv]at hb;cases a<;>simp[fM]at hb
     ·rw[hv]at hb
      simp only[fM]at hb
      split at hb
      ·cases hb
      ·simp only[iC]at hb;subst hb;exact lt_of_block hg
    |io τ=>
     simp only[da,fh,A1,ER]at hb h1
     obtain⟨b',cs,t,hv,hg,_⟩:=h1
     rw[hv]at hb
     simp only[fM,iC]at hb;subst hb;exact lt_of_block hg
    |ptr τ=>
     simp only[da,fh,A1,ER]at hb h1
     obtain⟨b',cs,t,hv,hg,_⟩:=h1
     rw[hv]at hb
     simp only[fM,iC]at hb;subst hb;exact lt_of_block hg
   ·exact ih h b hb
 let cx:Ctx:={B:=w.heap.size,w0:=w,M0:=M0,may:=λb=>b∈dO args vs,arg:=λi=>tm.getD i undef}
 have hm0:Mem cx (λ_=>none) w (λb=>M0 b∨b∈dO args vs) (λ_=>undef):=
  ⟨λi e hi=>(by cases hi),λi j e e' b _ hi=>(by cases hi),λi e b hi=>(by cases hi),λi e l b hi=>(by cases hi),λi τ x p j hi=>(by cases hi),λb hb=> .inl hb,λb hb=>hb.elim (rW b) (hhb hA b),λ_ _ _=>rfl,aG _,⟨rW,wK⟩,rfl,rfl,rfl⟩
 have Vc:Core cx ⟨λ_=> .any,λ_=>none⟩ tm w (λb=>M0 b∨b∈dO args vs) (λ_=>undef):=⟨hm0,λi=>by simp[VR]⟩
 obtain⟨ν',hc⟩:=CE (i:=0) (used:=[]) Vc hA (λj v hj=>by rw[gq];exact MT j v hj) (λ_ _=>rfl) (λj e b hj=>by cases hj) (by simpa using yk) (λb hb=>hb) (λb hb=>wK b hb)
 have hI:Inv cx E (entry args x 0 ⟨λ_=> .any,λ_=>none⟩) {tmps:=tm,defers:=[]} w:=⟨⟨_,_,hc⟩,by rw[hnt,tf],rfl,λi _=>rfl⟩
 refine calls_of_wp hf hb ?_
 have amc: ∀(σ':St) (a':Act) (w':World),JR E res (fn.results.toList.map .inl++yP args 0) σ' some=some y→Inv cx E σ' a' w'→
   a'.defers=[]∧ ∃v,(results fn a'.tmps).run P w'= .ok v w'∧ ∃v',Ending.returned v= .returned v'∧ ∃us M',v'=wF us∧RR w' M' res y us (fp args vs)∧Left w M0 (dO args vs) w' M'∧(bF res us (fp args vs)).Nodup∧ ∀b∈bF res us (fp args vs),¬M0 b:=by
  rintro σ' a' w' hk ⟨⟨M1,ν1,LA⟩,Ly,hd1,yl⟩
  obtain⟨y',us,ps,H2,uo,uf,io,Hq,M2,hy,Wc,hK,Vh,hRs⟩:=Fj (P:=P) hE.toEnvTy (jK.start LA.mem) LA.tmp hk
  cases hy
  obtain⟨Y9,us2,rfl,hl,hv,aru⟩:=It hRs
  obtain⟨rfl,J5⟩:=wJ (vs:=vs) Zp (λj v m hj hm HB=>by
   rw[gq]
   rw[yl j (vq j m hm HB)]
   exact MT j v hj) aru
  rw[ck]at*
  subst J5
  simp only[cL]at Wc
  have lB: ∀b∈bF res Y9 (fp args vs),b<w.heap.size→b∈dO args vs:=λb hb fb=>(Wc.MF b hb).elim (λh'=>absurd fb (Nat.not_lt.2 h')) (λh=>h)
  have Io:fa w' M2 w' (λb=>M2 b∧(b<w.heap.size→M0 b∨b∈dO args vs)):=⟨aG _,λ_ _ _=>rfl,λ_ _ h=>h.1⟩
  refine⟨hd1,wF Y9,MW hl hv,_,rfl,Y9,λb=>M2 b∧(b<w.heap.size→M0 b∨b∈dO args vs),rfl,RR.wH Io (λb hb=>⟨rfl,Vh.q6 b hb,λfb=> .inr (lB b hb fb)⟩) Vh,⟨λb hb=>⟨Wc.mem.sub b hb,λ_=> .inl hb⟩,λb hb=>Wc.mem.EP b hb.1,λb fb hb=>hb.2 fb,λb fb hb=>Wc.mem.frame b fb hb,Wc.mem.size,Wc.mem.os,Wc.mem.tape,Wc.mem.output⟩,Wc.nd,λb hb h0=> ?_⟩
  rcases Wc.MF b hb with h'|h'
  ·exact absurd (rW b h0) (Nat.not_lt.2 h')
  ·exact wK b h' h0
 refine Tx (c:=cx) hE cd _ _ w _ _ _ _ hI h (fun σ' a' w' hk yD=> ?_) (λi σ' a' w' hk=>by cases hk) (fun σ' a' w' hk yD=> ?_)
 ·exact amc σ' a' w' hk yD
 ·exact amc σ' a' w' hk yD
theorem Wd(hE:tK P E){f:FuncId}{fn:Func}(hf:P.funcs[f]? =some fn)(Aj:(fn.name== "runtime.NumGoroutine")=false)(hnt:E.nt=fn.ntmps)(S:me)
  (vq: ∀i m,S.args[i]? =some m→m.iL=true→i∈E.io) (amb: ∀i∈E.io,i<S.args.length) (hlen:S.args.length≤fn.ntmps) (hq:S.quiet=true→S.res.all AM.flat=true) (arv:ni S.args=ni S.res)
  (dE: ∀x,PN E fn S.args S.res x=S.run x):iM P f S:=by
 refine⟨hq,arv,λM0 w vs x y rW hA yk wK hy=> ?_⟩
 have hb:fn.body.isNone=false:=by
  have:=dE x
  rw[hy]at this
  unfold PN at this
  split at this
  ·cases this
  ·rename_i cd hcd;rw[hcd];rfl
 exact s0 hf Aj hb (Iu hE hf hnt vq amb hlen rW hA yk wK (by rw[dE,hy]))
end VM
end
section
namespace VM
open Go
variable{P:Program}
def Ak:Ty→List Value→Option (List Value)
 | .int k,v::r=>match v with
  | .int k' n=>if k'=k∧n=0 then some r else none
  |_=>none
 | .bool,v::r=>match v with
  | .bool false=>some r
  |_=>none
 | .str,v::r=>match v with
  | .string s=>if s.data.size=0 then some r else none
  |_=>none
 | .slice _,v::r=>match v with
  | .slice none n m=>if n=0∧m=0 then some r else none
  |_=>none
 | .unit,r=>some r
 | .pair a b,r=>match Ak a r with
  |some r=>Ak b r
  |none=>none
 | .arr n e,r=>Nat.rec (motive:=λ_=>List Value→Option (List Value)) (λr=>some r) (λ_ ih r=>match Ak e r with
  |some r=>ih r
  |none=>none) n r
 |_,[]=>none
theorem Al: ∀{τ:Ty} {l r:List Value},Ak τ l=some r→l=τ.dj++r
 | .int k,[],_,h| .bool,[],_,h| .str,[],_,h| .slice _,[],_,h=>by simp[Ak]at h
 | .int k,v::l,r,h=>by
  simp only[Ak]at h
  split at h
  ·split at h
   ·rename_i hc;obtain⟨rfl,rfl⟩:=hc;cases h;rfl
   ·cases h
  ·cases h
 | .bool,v::l,r,h=>by
  simp only[Ak]at h
  split at h
  ·cases h;rfl
  ·cases h
 | .str,v::l,r,h=>by
  simp only[Ak]at h
  split at h
  ·rename_i s
   split at h
   ·rename_i hs
    cases h
    have:s=ByteArray.empty:=by
     obtain⟨d⟩:=s
     have:d= #[]:=Array.eq_empty_of_size_eq_zero hs
     subst this;rfl
    subst this;rfl
   ·cases h
  ·cases h
 | .slice _,v::l,r,h=>by
  simp only[Ak]at h
  split at h
  ·split at h
   ·rename_i hc;obtain⟨rfl,rfl⟩:=hc;cases h;rfl
   ·cases h
  ·cases h
 | .unit,l,r,h=>by simp only[Ak]at h;cases h;rfl
 | .pair a b,l,r,h=>by
  simp only[Ak]at h
  split at h
  ·rename_i r1 h1
   rw[Al h1,Al h];simp[Ty.dj]
  ·cases h
 | .arr n e,l,r,h=>by
  simp only[Ak]at h
  simp only[Ty.dj]
  induction n generalizing l with
  |zero=>cases h;rfl
  |succ n ih=>
   simp only at h
   split at h
   ·rename_i r1 h1
    rw[Al h1,ih _ h];simp[zA]
   ·cases h
def Am(P:Program)(τ:Ty)(t:TypeId):Bool:=
 match P.info? t with
 |none=>false
 |some i=>Nat.beq i.size τ.size&&Nat.ble i.bytes 2048&&(match i.zero with
  |none=>false
  |some z=>match τ.isAgg,z with
   |true,.agg cs=>(match Ak τ cs.toList with|some []=>true|_=>false)
   |false,z=>(match Ak τ [z]with|some []=>true|_=>false)
   |_,_=>false)
theorem rf{τ:Ty}{t:TypeId}(h:Am P τ t=true):JS P τ t:=by
 unfold Am at h
 split at h
 ·cases h
 ·rename_i i hi
  simp only[bQ,zP]at h
  obtain⟨⟨h1,h2⟩,h3⟩:=h
  refine⟨i,hi,fW h1,?_,h2⟩
  split at h3
  ·cases h3
  ·rename_i z hz
   rw[hz]
   split at h3
   ·rename_i _ cs ha
    split at h3
    ·rename_i he
     have:=Al he
     unfold cM
     rw[aj ha,←ck τ.dj,←this]
    ·cases h3
   ·rename_i ha
    split at h3
    ·rename_i he
     have:=Al he
     unfold cM
     rw[ah (by rw[ha];exact qH),←ck τ.dj,←this];rfl
    ·cases h3
   ·cases h3
def tM(P:Program):Ty→TypeId ⊕ (Array Field×Nat×Nat)→Bool
 | .int k,.inl t=>Am P (.int k) t&&(match P.underlying t with|some (.int k')=>decide (k'=k)|_=>false)
 | .bool,.inl t=>Am P .bool t&&(match P.underlying t with|some .bool=>true|_=>false)
 | .str,.inl t=>Am P .str t&&(match P.underlying t with|some .string=>true|_=>false)
 | .slice e,.inl t=>Am P (.slice e) t&&(match P.underlying t with|some (.slice e')=>tM P e (.inl e')|_=>false)
 | .arr n e,.inl t=>Am P (.arr n e) t&&(match P.underlying t with|some (.array n' e')=>Nat.beq n' n&&tM P e (.inl e')|_=>false)
 | .unit,.inl t=>Am P .unit t&&(match P.underlying t with|some (.struct fs)=>Nat.beq fs.size 0|_=>false)
 | .unit,.inr q=>Nat.beq q.1.size q.2.1
 | .pair a b,.inl t=>Am P (.pair a b) t&&(match P.underlying t with
  |some (.struct fs)=>(match fs[0]? with
   |some f=>Nat.beq f.offset 0&&(tM P a (.inl f.type)&&tM P b (.inr (fs,1,a.size)))
   |none=>false)
  |_=>false)
 | .pair a b,.inr q=>(match q.1[q.2.1]? with
  |some f=>Nat.beq f.offset q.2.2&&(tM P a (.inl f.type)&&tM P b (.inr (q.1,q.2.1+1,q.2.2+a.size)))
  |none=>false)
 |_,.inr _=>false
theorem gY: ∀{τ:Ty} {x:TypeId ⊕ (Array Field×Nat×Nat)},tM P τ x=true→fT P τ x
 | .int k,.inl t,h=>by
  simp only[tM,bQ]at h
  refine⟨rf h.1,?_⟩
  have h:=h.2
  split at h
  ·rename_i k' hu;rw[hu,bz h]
  ·cases h
 | .bool,.inl t,h=>by
  simp only[tM,bQ]at h
  refine⟨rf h.1,?_⟩
  have h:=h.2
  split at h
  ·rename_i hu;exact hu
  ·cases h
 | .str,.inl t,h=>by
  simp only[tM,bQ]at h
  refine⟨rf h.1,?_⟩
  have h:=h.2
  split at h
  ·rename_i hu;exact hu
  ·cases h
 | .slice e,.inl t,h=>by
  simp only[tM,bQ]at h
  refine⟨rf h.1,?_⟩
  have h:=h.2
  split at h
  ·rename_i e' hu;exact⟨e',hu,gY h⟩
  ·cases h
 | .arr n e,.inl t,h=>by
  simp only[tM,bQ]at h
  refine⟨rf h.1,?_⟩
  have h:=h.2
  split at h
  ·rename_i n' e' hu
   simp only[bQ]at h
   obtain⟨h0,h⟩:=h
   rw[fW h0]at hu
   exact⟨e',hu,gY h⟩
  ·cases h
 | .unit,.inl t,h=>by
  simp only[tM,bQ]at h
  refine⟨rf h.1,?_⟩
  have h:=h.2
  split at h
  ·rename_i fs hu;exact⟨fs,hu,fW h⟩
  ·cases h
 | .unit,.inr (fs,n,o),h=>by simp only[tM]at h;exact fW h
 | .pair a b,.inl t,h=>by
  simp only[tM,bQ]at h
  refine⟨rf h.1,?_⟩
  have h:=h.2
  split at h
  ·rename_i fs hu
   split at h
   ·rename_i f hf
    simp only[bQ]at h
    exact⟨fs,f,hu,hf,fW h.1,gY h.2.1,gY h.2.2⟩
   ·cases h
  ·cases h
 | .pair a b,.inr (fs,n,o),h=>by
  simp only[tM]at h
  split at h
  ·rename_i f hf
   simp only[bQ]at h
   exact⟨f,hf,fW h.1,gY h.2.1,gY h.2.2⟩
  ·cases h
 | .int _,.inr _,h| .bool,.inr _,h| .str,.inr _,h| .slice _,.inr _,h| .arr _ _,.inr _,h=>by simp[tM]at h
def vt(P:Program):Ty→TypeId ⊕ (Array Field×Nat)→Bool
 | .int _,.inl _| .bool,.inl _| .str,.inl _=>true
 | .unit,.inl t=> !P.stoodInHeld t
 | .unit,.inr _=>true
 | .pair a b,.inl t=> !P.stoodInHeld t&&(match P.underlying t with
  |some (.struct fs)=>(match fs[0]? with
   |some f=>f.name != "_" &&(vt P a (.inl f.type)&&vt P b (.inr (fs,1)))
   |none=>false)
  |_=>false)
 | .pair a b,.inr q=>(match q.1[q.2]? with
  |some f=>f.name != "_" &&(vt P a (.inl f.type)&&vt P b (.inr (q.1,q.2+1)))
  |none=>false)
 |_,_=>false
def Ty.deep:Ty→Nat
 | .pair a b=>a.deep+b.deep+1
 |_=>1
theorem V.ofC{w:World}{M:Nat→Prop}{τ:Ty}{cs:List Value}{x:τ.den}(h:Rd w M τ cs x):V w M τ (VM.cM τ cs) x:=V.cM h
mutual
theorem MX{w:World}{M:Nat→Prop}: ∀{τ:Ty} {t:TypeId} {u v:Value} {x y:τ.den} {d:Nat},kL P τ t→vt P τ (.inl t)=true→V w M τ u x→V w M τ v y→τ.deep≤d→(Op.equalIn d t u v).run P w= .ok (uw τ x y) w
 | .int k,t,u,v,x,y,d+1,hl,_,hx,hy,_=>by
  simp only[V,Ty.isAgg,jc,eU,Rd,fi,eT]at hx hy
  subst hx;subst hy
  rw[run_equalIn_int w d t k k _ _ hl.int];simp only[uw,jA];congr 1
 | .bool,t,u,v,x,y,d+1,hl,_,hx,hy,_=>by
  simp only[V,Ty.isAgg,jc,eU,Rd,fi,eT]at hx hy
  subst hx;subst hy
  rw[run_equalIn_bool w d t _ _ hl.bool];simp only[uw]
 | .str,t,u,v,x,y,d+1,hl,_,hx,hy,_=>by
  simp only[V,Ty.isAgg,jc,eU,Rd,fi,eT]at hx hy
  subst hx;subst hy
  rw[run_equalIn_string w d t _ _ hl.str];simp only[uw,EN];congr 1;rw[oV];simp
 | .slice _,_,_,_,_,_,_,_,h,_,_,_| .arr _ _,_,_,_,_,_,_,_,h,_,_,_=>by simp[vt]at h
 | .unit,t,u,v,x,y,d+1,hl,he,hx,hy,_=>by
  simp only[V,Ty.isAgg,gD]at hx hy
  obtain⟨cs,rfl,_⟩:=hx
  obtain⟨cs',rfl,_⟩:=hy
  simp only[kL,fT]at hl
  obtain⟨_,fs,hu,h0⟩:=hl
  have hfs:P.fieldsOf t=fs:=by simp[Program.fieldsOf,hu]
  rw[run_equalIn_struct w d t cs cs' (by rw[hfs];exact hu) (by simpa [vt]using he),hfs]
  have:fs.toList=[]:=by rw[←LZ,bI];exact h0
  rw[this];simp[Op.eqFields,uw]
 | .pair a b,t,u,v,x,y,d+1,hl,he,hx,hy,hd=>by
  simp only[V,Ty.isAgg,gD]at hx hy
  obtain⟨cs,rfl,hx⟩:=hx
  obtain⟨cs',rfl,hy⟩:=hy
  simp only[kL,fT]at hl
  obtain⟨_,fs,f,hu,hf,ho,yZ,PW⟩:=hl
  have hfs:P.fieldsOf t=fs:=by simp[Program.fieldsOf,hu]
  simp only[vt,hu,hf,bQ]at he
  rw[run_equalIn_struct w d t cs cs' (by rw[hfs];exact hu) (by simpa using he.1),hfs]
  have h0:fs.toList=f::fs.toList.drop 1:=by
   have h1:=pW (l:=fs.toList) (i:=0) (by rw[bI];exact(kH.1 hf).1)
   rw[c0]at h1
   rw[h1];congr 1
   rw[zz];exact(kH.1 hf).2
  simp only[Ty.deep]at hd
  rw[h0]
  have o0:Rd w M (.pair a b) (cs.toList.drop 0) x:=by rw[c0];exact hx
  have RP:Rd w M (.pair a b) (cs'.toList.drop 0) y:=by rw[c0];exact hy
  have jB:f.name≠ "_" :=by simpa using he.2.1
  simp only[Op.eqFields,jB,ne_eq,not_false_eq_true,gD]
  exact We (off:=0) ho yZ he.2.2.1 o0 RP ω (λh1 h2=>Wf (n:=1) (fs:=fs) (off:=a.size) PW he.2.2.2 (by rw[gq]at h1;exact h1) (by rw[gq]at h2;exact h2) ω)
 | .int _,_,_,_,_,_,0,_,_,_,_,hd| .bool,_,_,_,_,_,0,_,_,_,_,hd| .str,_,_,_,_,_,0,_,_,_,_,hd| .unit,_,_,_,_,_,0,_,_,_,_,hd| .pair _ _,_,_,_,_,_,0,_,_,_,_,hd=>by simp[Ty.deep]at hd
theorem Wf{w:World}{M:Nat→Prop}: ∀{b:Ty} {fs:Array Field} {n off:Nat} {cs cs':Array Value} {x y:b.den} {d:Nat},fT P b (.inr (fs,n,off))→vt P b (.inr (fs,n))=true→Rd w M b (cs.toList.drop off) x→Rd w M b (cs'.toList.drop off) y→b.deep≤d→
  (Op.eqFields d cs cs' (fs.toList.drop n)).run P w= .ok (uw b x y) w
 | .unit,fs,n,off,cs,cs',x,y,d,hl,_,_,_,_=>by
  simp only[fT]at hl
  rw[kI (by rw[bI];omega)]
  simp[Op.eqFields,uw]
 | .pair a b,fs,n,off,cs,cs',x,y,d,hl,he,hx,hy,hd=>by
  simp only[fT]at hl
  obtain⟨f,hf,ho,yZ,PW⟩:=hl
  simp only[vt,hf,bQ]at he
  have h0:fs.toList.drop n=f::fs.toList.drop (n+1):=by
   rw[pW (l:=fs.toList) (i:=n) (by rw[bI];exact(kH.1 hf).1)]
   congr 1
   rw[zz];exact(kH.1 hf).2
  simp only[Ty.deep]at hd
  rw[h0]
  have jB:f.name≠ "_" :=by simpa using he.1
  simp only[Op.eqFields,jB,ne_eq,not_false_eq_true,gD]
  exact We ho yZ he.2.1 hx hy ω (λh1 h2=>Wf PW he.2.2 h1 h2 ω)
 | .int _,_,_,_,_,_,_,_,_,hl,_,_,_,_| .bool,_,_,_,_,_,_,_,_,hl,_,_,_,_| .str,_,_,_,_,_,_,_,_,hl,_,_,_,_| .slice _,_,_,_,_,_,_,_,_,hl,_,_,_,_| .arr _ _,_,_,_,_,_,_,_,_,hl,_,_,_,_=>by simp[fT]at hl
theorem We{w:World}{M:Nat→Prop}{a b:Ty}{f:Field}{fs:List Field}{off:Nat}{cs cs':Array Value}{x y:(Ty.pair a b).den}{d:Nat}(ho:f.offset=off)(yZ:kL P a f.type)(he:vt P a (.inl f.type)=true)
  (hx:Rd w M (.pair a b) (cs.toList.drop off) x) (hy:Rd w M (.pair a b) (cs'.toList.drop off) y) (hd:a.deep≤d)
  (hr:Rd w M b (cs.toList.drop (off+a.size)) x.2→Rd w M b (cs'.toList.drop (off+a.size)) y.2→(Op.eqFields d cs cs' fs).run P w= .ok (uw b x.2 y.2) w):
  (do let u ←part f.type cs f.offset;let v ←part f.type cs' f.offset;let r ←Op.equalIn d f.type u v;if(!r)=true then pure false else Op.eqFields d cs cs' fs:Sem Bool).run P w= .ok (uw (.pair a b) x y) w:=by
 simp only[Rd]at hx hy
 obtain⟨c1,c2,hc,h1,h2⟩:=hx
 obtain⟨c1',c2',Tz,pC,yF⟩:=hy
 subst ho
 have p1:(cs.toList.drop f.offset).take a.size=c1:=by rw[hc,vY h1.length]
 have p2:(cs'.toList.drop f.offset).take a.size=c1':=by rw[Tz,vY pC.length]
 have q1:cs.toList.drop (f.offset+a.size)=c2:=by rw[←jI,hc,m2 h1.length]
 have q2:cs'.toList.drop (f.offset+a.size)=c2':=by rw[←jI,Tz,m2 pC.length]
 have r1:=zZ yZ (w:=w) (M:=M) (cs:=cs) (off:=f.offset) (x:=x.1) (by rw[p1];exact h1)
 have r2:=zZ yZ (w:=w) (M:=M) (cs:=cs') (off:=f.offset) (x:=y.1) (by rw[p2];exact pC)
 have r3:=MX (d:=d) yZ he (V.ofC (by rw[p1];exact h1):V w M a (VM.cM a ((cs.toList.drop f.offset).take a.size)) x.1) (V.ofC (by rw[p2];exact pC):V w M a (VM.cM a ((cs'.toList.drop f.offset).take a.size)) y.1) hd
 simp only[Sem.run_bind,r1,r2,r3,Result.andThen_ok,uw]
 cases uw a x.1 y.1
 ·simp
 ·simpa using hr (by rw[q1];exact h2) (by rw[q2];exact yF)
end
def ZR(P:Program)(τ:Ty)(t:TypeId):Bool:= !(τ.comparable&&τ.isAgg)||(vt P τ (.inl t)&&(Nat.ble τ.deep 10000&& !P.eqGuardType P.depth t))
theorem ZS{τ:Ty}{t:TypeId}(hl:kL P τ t)(h:ZR P τ t=true)(hc:τ.comparable=true)(ha:τ.isAgg=true):alu P t τ:=by
 unfold ZR at h
 rw[hc,ha]at h
 simp only[Bool.and_self,bt,tv,bQ,zP,qJ]at h
 obtain⟨h1,h2,h3⟩:=h
 intro w M u v x y b xo yo hx hy
 have he:=MX (d:=10000) hl h1 hx hy h2
 unfold V at hx hy
 rw[aj ha]at hx hy
 obtain⟨cs,rfl,_⟩:=hx
 obtain⟨cs',rfl,_⟩:=hy
 refine⟨?_,?_,?_⟩
 ·cases b<;>simp[eqGuard,h3]
 ·simp only[binOp];simp[Op.equal,Op.maxDepth,he]
 ·simp only[binOp];simp[Op.equal,Op.maxDepth,he]
def ame(P:Program)(l:List (Nat×Ty)):Bool:=l.all λq=>tM P q.2 (.inl q.1)&&ZR P q.2 q.1
end VM
end
section
namespace VM
open Go Go.WideShapes Go.RowKit Go.ChangeShapes
def WF:(τ:Ty)→τ.den→Prop
 | .int k,x=>(Lit.int k x).wf=true
 | .bool,_=>True
 | .str,s=>ByteArray.size s≤maxLen
 | .slice e,l=>List.length l≤maxLen∧ ∀i (h:i<List.length l),WF e (List.get l ⟨i,h⟩)
 | .unit,_=>True
 | .pair a b,x=>WF a x.1∧WF b x.2
 | .arr _ e,l=> ∀i (h:i<List.length l),WF e (List.get l ⟨i,h⟩)
def Ty.pS:Ty→Bool
 | .slice e=>Nat.blt 0 e.size&&e.pS
 | .pair a b=>a.pS&&b.pS
 | .arr _ e=>e.pS
 |_=>true
theorem Wg{α β:Type}{f:α→Option β}: ∀{l:List α} {r:List β},l.mapM f=some r→ ∀x∈l,∃y,f x=some y
 |[],_,_,x,hx=>by cases hx
 |a::l,r,h,x,hx=>by
  rw[zG]at h
  simp only[bind,th,pure,iC]at h
  obtain⟨y,hy,r',hr,_⟩:=h
  rcases aX.1 hx with rfl|hx
  ·exact⟨y,hy⟩
  ·exact Wg hr x hx
theorem MY{α β:Type}{f:α→Option β}: ∀{l:List α} {r:List β},l.mapM f=some r→r.length=l.length∧ ∀i (h:i<l.length) (h':i<r.length),f l[i]=some r[i]
 |[],r,h=>by simp at h;subst h;exact⟨rfl,λi h=>by cases h⟩
 |a::l,r,h=>by
  rw[zG]at h
  simp only[bind,th,pure,iC]at h
  obtain⟨y,hy,r',hr,rfl⟩:=h
  obtain⟨h1,h2⟩:=MY hr
  refine⟨by simp[h1],λi hi nc=> ?_⟩
  cases i with
  |zero=>exact hy
  |succ i=>exact h2 i (by simpa using hi) (by simpa using nc)
theorem wL{α:Type}{p:Nat→α→Prop}: ∀n,(∀i,i<n→ ∃x,p i x)→ ∃l:List α,l.length=n∧ ∀i (h:i<l.length),p i (l.get ⟨i,h⟩)
 |0,_=>⟨[],rfl,λi h=>by cases h⟩
 |n+1,h=>by
  obtain⟨l,hl,hp⟩:=wL n (λi hi=>h i ω)
  obtain⟨x,hx⟩:=h n ω
  refine⟨l++[x],by simp[hl],λi hi=> ?_⟩
  simp only[Es]
  by_cases fb:i<l.length
  ·rw[Ek fb];exact hp i fb
  ·have lW:i=n:=by simp at hi;omega
   subst lW
   rw[LS ω]
   simp[hl,hx]
section
variable{H:Type}{enc:TypeId×Value→H}{P:Program}{w:World}
theorem kL.cells{τ:Ty}{t:TypeId}(h:kL P τ t):P.cellsOf t=τ.size:=by
 obtain⟨i,hi,hs,_⟩:=h.base
 simp[Program.cellsOf,hi,hs]
theorem Iv{a:Addr}{n:Nat}{cs:List Value}(h:w.cells? 0 a n=some cs):cs.length=n∧ ∀j v,cs[j]? =some v→w.cell? (a.add j)=some v:=by
 unfold World.cells? at h
 rw[aj (bp _)]at h
 obtain⟨h1,h2⟩:=MY h
 rw[vU]at h1
 refine⟨h1,λj v hj=> ?_⟩
 obtain⟨fb,rfl⟩:=um.1 hj
 have:=h2 j (by rw[vU];omega) fb
 rw[Et]at this
 exact this
def Wh(H:Type)(enc:TypeId×Value→H)(P:Program)(w:World)(τ:Ty):TypeId ⊕ (Array Field×Nat×Nat)→Prop
 | .inl t=> ∀(fuel:Nat) (cs:List Value) (d:DataW H×List MemPlace),DataW.trod enc P w 0 (λ_=>true) true fuel t cs=some d→ ∃x:τ.den,Rd w (λ_=>False) τ cs x∧WF τ x
 | .inr q=> ∀(cs:List Value),cs.length=q.2.2+τ.size→(∀f∈q.1.toList,∃fuel d,DataW.trod enc P w 0 (λ_=>true) true fuel f.type ((cs.drop f.offset).take (P.cellsOf f.type))=some d)→ ∃x:τ.den,Rd w (λ_=>False) τ (cs.drop q.2.2) x∧WF τ x
theorem Iw{a b:Ty}{f:Field}{fs:Array Field}{n off:Nat}(hf:fs[n]? =some f)(ho:f.offset=off)(yZ:kL P a f.type)(iha:Wh H enc P w a (.inl f.type))(Vv:Wh H enc P w b (.inr (fs,n+1,off+a.size)))
  {cs:List Value} (hc:cs.length=off+(a.size+b.size)) (lz: ∀f∈fs.toList,∃fuel d,DataW.trod enc P w 0 (λ_=>true) true fuel f.type ((cs.drop f.offset).take (P.cellsOf f.type))=some d):
  ∃x:(Ty.pair a b).den,Rd w (λ_=>False) (.pair a b) (cs.drop off) x∧WF (.pair a b) x:=by
 subst ho
 obtain⟨fuel,d,hd⟩:=lz f (by rw[Array.mem_toList_iff];exact Array.mem_of_getElem? hf)
 rw[yZ.cells]at hd
 obtain⟨x,hx,hwx⟩:=iha fuel _ d hd
 obtain⟨y,hy,hwy⟩:=Vv cs (by simp only;omega) lz
 refine⟨(x,y),?_,hwx,hwy⟩
 simp only[Rd]
 refine⟨_,_,(gl a.size (cs.drop f.offset)).symm,hx,?_⟩
 rw[jI];exact hy
theorem uI: ∀{τ:Ty} {x:TypeId ⊕ (Array Field×Nat×Nat)},fT P τ x→τ.pS=true→Wh H enc P w τ x
 | .int k,.inl t,hl,_=>by
  intro fuel cs d h
  simp only[fT]at hl
  obtain⟨n,rfl,_,hw⟩:=DataW.trod_int hl.2 h
  exact⟨n,rfl,hw⟩
 | .bool,.inl t,hl,_=>by
  intro fuel cs d h
  simp only[fT]at hl
  obtain⟨b,rfl,_⟩:=DataW.trod_bool hl.2 h
  exact⟨b,rfl,trivial⟩
 | .str,.inl t,hl,_=>by
  intro fuel cs d h
  simp only[fT]at hl
  obtain⟨s,rfl,_,hs⟩:=DataW.trod_string hl.2 h
  exact⟨s,rfl,hs⟩
 | .slice e,.inl t,hl,hs=>by
  intro fuel cs d h
  simp only[fT]at hl
  obtain⟨_,e',hu,hle⟩:=hl
  simp only[Ty.pS,bQ,zO]at hs
  have ih:=uI hle hs.2
  have tf:P.cellsOf e'=e.size:=kL.cells hle
  rcases DataW.trod_slice hu h with⟨rfl,_⟩|⟨a,len,cap,elems,rest,n,_,rfl,_,_,Zk,DX,hel,lz,_⟩
  ·refine⟨[],?_,bp _,λi h=>by cases h⟩
   simp only[Rd]
   exact⟨none,0,rfl,aG _,λi h=>by cases h⟩
  ·rw[tf]at lz
   have get: ∀i,i<len→ ∃cs' y,w.cells? 0 (a.add (i*e.size)) e.size=some cs'∧DataW.trod enc P w 0 (λ_=>true) true n e' cs'=some y:=λi hi=>by
    have:=lz i hi
    rw[bl ω]at this
    obtain⟨cs',h1,h2⟩:=th.1 this
    exact⟨cs',_,h1,h2⟩
   have key: ∀i,i<len→ ∃x:e.den,(a.spot=none∧a.block<w.heap.size∧ ∃cs',At w a.block (a.off+i*e.size) cs'∧Rd w (λ_=>False) e cs' x)∧WF e x:=by
    intro i hi
    obtain⟨cs',y,JY,ht⟩:=get i hi
    obtain⟨h1,h2⟩:=Iv JY
    obtain⟨x,hx,hw⟩:=ih n cs' y ht
    have hsp:a.spot=none∧a.block<w.heap.size:=by
     obtain⟨sy,y0,arx,_⟩:=get 0 ω
     obtain⟨h10,h20⟩:=Iv arx
     have:=h20 0 sy[0] (bl ω)
     simp only[Nat.zero_mul,Addr.add,gD,World.cell?]at this
     split at this
     ·rename_i hb
      refine⟨?_,(kH.1 hb).1⟩
      split at this
      ·cases this
      ·rename_i hn;simpa using hn
     ·cases this
    refine⟨x,⟨hsp.1,hsp.2,cs',λj v hj=> ?_,hx⟩,hw⟩
    have:=h2 j v hj
    have he:(a.add (i*e.size)).add j=⟨a.block,a.off+i*e.size+j,none⟩:=by
     obtain⟨ab,ao,asp⟩:=a
     simp only at hsp
     obtain⟨rfl,_⟩:=hsp
     simp only[Addr.add]
     split<;>split<;>simp_all<;>omega
    rw[he]at this
    exact this
   obtain⟨l,hl,hp⟩:=wL len key
   refine⟨l,?_,by rw[hl];omega,λi h=>(hp i h).2⟩
   simp only[Rd]
   refine⟨some a,cap,by rw[hl],by rw[hl];exact Zk,λi h=> ?_⟩
   obtain⟨h1,h2,cs',h3,h4⟩:=(hp i h).1
   refine⟨a.block,a.off,?_,h2,λh=>h,cs',h3,h4⟩
   rw[←h1]
 | .unit,.inl t,hl,_=>by
  intro fuel cs d h
  simp only[fT]at hl
  obtain⟨⟨i,hi,tf,_⟩,fs,hu,h0⟩:=hl
  obtain⟨xs,n,_,_,hc,_⟩:=DataW.trod_struct hu h
  refine⟨(),?_,trivial⟩
  simp only[Rd]
  rw[←LZ,hc]
  simp[Program.cellsOf,hi,tf,Ty.size]
 | .unit,.inr q,hl,_=>by
  intro cs hc _
  refine⟨(),?_,trivial⟩
  simp only[Rd]
  rw[kI (by rw[hc];simp[Ty.size])]
 | .pair a b,.inl t,hl,hs=>by
  intro fuel cs d h
  simp only[fT]at hl
  obtain⟨⟨i,hi,tf,_⟩,fs,f,hu,hf,ho,yZ,PW⟩:=hl
  simp only[Ty.pS,bQ]at hs
  have iha:=uI yZ hs.1
  have Vv:=uI PW hs.2
  obtain⟨xs,n,_,_,hc,hxl,hxs⟩:=DataW.trod_struct hu h
  have:=Iw (b:=b) (off:=0) hf ho yZ iha (by simp only[gq];exact Vv) (cs:=cs) (by rw[hc];simp[Program.cellsOf,hi,tf,Ty.size]) (λf hf=>by
   obtain⟨j,hj,rfl⟩:=qF.1 hf
   rw[bI]at hj
   have:=hxs j fs[j] (by simp[hj])
   rw[bl ω]at this
   exact⟨n,_,by rw[zz];exact this⟩)
  rw[c0]at this
  exact this
 | .pair a b,.inr (fs,n,off),hl,hs=>by
  intro cs hc lz
  simp only[fT]at hl
  obtain⟨f,hf,ho,yZ,PW⟩:=hl
  simp only[Ty.pS,bQ]at hs
  exact Iw hf ho yZ (uI yZ hs.1) (uI PW hs.2) (by simpa [Ty.size]using hc) lz
 | .arr n e,.inl t,hl,hs=>by
  intro fuel cs d h
  simp only[fT]at hl
  obtain⟨⟨i,hi,tf,_⟩,e',hu,hle⟩:=hl
  simp only[Ty.pS]at hs
  have ih:=uI hle hs
  have hse:P.cellsOf e'=e.size:=kL.cells hle
  obtain⟨xs,m,_,_,hc,hxl,hxs⟩:=DataW.trod_array hu h
  have hlen:cs.length=n*e.size:=by rw[hc];simp[Program.cellsOf,hi,tf,Ty.size]
  have key: ∀i,i<n→ ∃x:e.den,Rd w (λ_=>False) e ((cs.drop (i*e.size)).take e.size) x∧WF e x:=λi hi=>by
   have:=hxs i hi
   rw[bl ω,hse]at this
   exact ih m _ _ this
  obtain⟨l,He,hp⟩:=wL n key
  refine⟨l,?_,λi h=>(hp i h).2⟩
  simp only[Rd]
  refine⟨He,(List.range n).map λi=>(cs.drop (i*e.size)).take e.size,by simp,?_,λi h h'=> ?_⟩
  ·clear hxs h key hp He hu
   have: ∀m,m≤n→cs.take (m*e.size)=((List.range m).map λi=>(cs.drop (i*e.size)).take e.size).flatten:=by
    intro m
    induction m with
    |zero=>simp
    |succ m ihm=>
     intro hm
     rw[EB,cZ,List.flatten_append,←ihm ω]
     simp only[bW,je,zC,List.flatten_nil,ck]
     rw[eu,jX,List.take_add]
   have h2:=this n (aG _)
   rw[jH ω]at h2
   exact h2
  ·have:=(hp i h).1
   simpa using this
 | .int _,.inr _,h,_| .bool,.inr _,h,_| .str,.inr _,h,_| .slice _,.inr _,h,_| .arr _ _,.inr _,h,_=>by simp[fT]at h
theorem ahA{τ:Ty}{t:TypeId}{r:Reach}{b0:Nat}{v:Value}{d:DataW H}{ps:List MemPlace}(hl:kL P τ t)(hs:τ.pS=true)(hv:Value.okWide P w r b0 t v)(h:DataW.Trod enc P w 0 (λ_=>true) true t v d ps):
  ∃x:τ.den,V w (λ_=>False) τ v x∧WF τ x:=by
 obtain⟨fuel,h⟩:=h
 obtain⟨x,hx,hw⟩:=uI (H:=H) (enc:=enc) (w:=w) hl hs fuel _ _ h
 refine⟨x,?_,hw⟩
 unfold V
 cases τ with
 |int k=>
  obtain⟨n,rfl⟩:=okWide_int hl.int hv
  exact hx
 |bool=>
  obtain⟨n,rfl⟩:=okWide_bool hl.bool hv
  exact hx
 |str=>
  obtain⟨n,rfl⟩:=okWide_string hl.str hv
  exact hx
 |slice e=>
  obtain⟨e',hu,_⟩:=hl.slice
  obtain⟨a,len,cap,rfl⟩:=okWide_slice hu hv
  exact hx
 |unit=>
  simp only[kL,fT]at hl
  obtain⟨_,fs,hu,_⟩:=hl
  simp only[Value.okWide,hu]at hv
  obtain⟨cs,rfl,_⟩:=hv
  exact⟨cs,rfl,hx⟩
 |pair a b=>
  simp only[kL,fT]at hl
  obtain⟨_,fs,f,hu,_⟩:=hl
  simp only[Value.okWide,hu]at hv
  obtain⟨cs,rfl,_⟩:=hv
  exact⟨cs,rfl,hx⟩
 |arr n e=>
  obtain⟨e',hu,_⟩:=hl.arr
  simp only[Value.okWide,hu]at hv
  obtain⟨cs,rfl,_⟩:=hv
  exact⟨cs,rfl,hx⟩
def WFs:(ms:List Ty)→HP (ms.map .v)→Prop
 |[],_=>True
 |_::ms,x=>WF _ (tg x)∧WFs ms (yj x)
def hpC:{m:AM}→{ms:List AM}→m.den→HP ms→HP (m::ms)
 |_,[],x,_=>x
 |_,_::_,x,y=>(x,y)
theorem RQ{m:AM}: ∀{ms:List AM} (x:m.den) (y:HP ms),tg (hpC x y)=x
 |[],_,_=>rfl
 |_::_,_,_=>rfl
theorem RS{m:AM}: ∀{ms:List AM} (x:m.den) (y:HP ms),yj (hpC x y)=y
 |[],_,()=>rfl
 |_::_,_,_=>rfl
theorem Ix(laid:laidOutB P=true){r:Reach}{b0:Nat}: ∀{τs:List Ty} {ts:List TypeId} {vs:List Value} {ds:List (DataW H)} {ps:List MemPlace},DataW.TrodAll enc P w 0 (λ_=>true) true ts vs ds ps→
  τs.length=ts.length→(∀(j:Nat) τ t,τs[j]? =some τ→ts[j]? =some t→(kL P τ t∧τ.pS=true∧P.readableRec t=true∧t<P.types.size))→
  (∀(j:Nat) t v,ts[j]? =some t→vs[j]? =some v→Value.okWide P w r b0 t v)→
  (∃x:HP (τs.map .v),jJ w (λ_=>False) (τs.map .v) x vs∧WFs τs x)∧ ∀w',Below w.heap.size w w'→ ∃Hf,DataW.TrodAll enc P w' 0 (λb=>decide (b<w.heap.size)) true ts vs ds Hf
 |[],[],vs,ds,ps,h,_,_,_=>by
  obtain⟨rfl,rfl,rfl⟩:=trodAll_nil h
  exact⟨⟨(),rfl,trivial⟩,λw' _=>⟨[],rfl⟩⟩
 |τ::τs,t::ts,vs,ds,ps,h,hl,EY,hv=>by
  obtain⟨v,LC,d,ds',p,q,rfl,rfl,rfl,h1,h2⟩:=trodAll_cons h
  obtain⟨z7,ahB,hrr,fb⟩:=EY 0 τ t rfl rfl
  obtain⟨x,hx,hwx⟩:=ahA z7 ahB (hv 0 t v rfl rfl) h1
  obtain⟨⟨y,hy,hwy⟩,Wi⟩:=Ix laid h2 (by simpa using hl) (λj τ' t' h h'=>EY (j+1) τ' t' (by simpa using h) (by simpa using h')) (λj t' v' h h'=>hv (j+1) t' v' (by simpa using h) (by simpa using h'))
  refine⟨⟨hpC (m:= .v τ) x y,?_,?_⟩,λw' hb=> ?_⟩
  ·show jJ w _ (.v τ::τs.map .v) _ _
   simp only[jJ]
   exact⟨v,LC,rfl,by rw[RQ];exact hx,by rw[RS];exact hy⟩
  ·simp only[WFs]
   exact⟨by rw[RQ];exact hwx,by rw[RS];exact hwy⟩
  ·obtain⟨Hf,h'⟩:=Wi w' hb
   have wE: ∀z∈p,z.block<w.heap.size:=by
    obtain⟨m,hm⟩:=h1
    exact DataW.trod_lt m _ _ _ hm
   exact⟨p++Hf,trodAll_cons_mk (Below.trod laid hrr fb h1 hb wE) h'⟩
 |[],_::_,_,_,_,_,hl,_,_|_::_,[],_,_,_,_,hl,_,_=>by simp at hl
end
end VM
end
section
namespace VM
open Go
variable{α:Type}
def An(L:Nat→Option (List (Nat×CM)))(κ:Nat→St→Option α)(i:Option Nat)(f:St→Option α):St→Option α:=
 match i with
 |none=>f
 |some i=>match L i with
  |none=>f
  |some _=>κ i
def Wj(E:Env)(κJ κL:Nat→St→Option α)(c:Code):St→(St→Option α)→(Nat→St→Option α)→(St→Option α)→Option α:=
 Code.rec (motive:=λ_=>St→(St→Option α)→(Nat→St→Option α)→(St→Option α)→Option α)
  (fun σ k _ _=>k σ)
  (λ_ ops draw σ k _ _=>DU E ops draw σ k)
  (λ_ b A B σ k kx kr=>A σ (fun σ'=>wo ((cN b).bind E.yd) σ' (An E.yd κJ (cN b) λvD=>B vD k kx kr)) kx kr)
  (λc _ _ A B σ k kx kr=>Ia E c σ (fun σ'=>A σ' k kx kr) (fun σ'=>B σ' k kx kr))
  (λid _ A σ k kx kr=>A σ k (λi σ'=>cond (Nat.beq i id) (k σ') (kx i σ')) kr)
  (λb _ σ _ kx kr=>wo ((cN b).bind E.wi) σ (An E.wi κL (cN b) (Co ((cN b).bind E.wi) (fun σ' kn=>DV E b σ' kn kx kr) E.N)))
  (λ_ _ _ _ _ _ _ _ _ _=>none)
  (λid σ _ kx _=>kx id σ)
  (λ_ A σ k kx kr=>A σ k kx kr)
  (λ_ σ k _ _=>k σ)
  (λ_ _ _ _ _=>none)
  (fun σ _ _ kr=>kr σ)
  (λ_ _ _ _ _=>none)
  c
def Fk(E:Env)(c:Code):(St→Option α)→(Nat→St→Option α)→(St→Option α)→List (Bool×Nat×(St→Option α)):=
 Code.rec (motive:=λ_=>(St→Option α)→(Nat→St→Option α)→(St→Option α)→List (Bool×Nat×(St→Option α)))
  (λ_ _ _=>[])
  (λ_ _ _ _ _ _=>[])
  (λ_ b A B k kx kr=>A (fun σ'=>wo ((cN b).bind E.yd) σ' λvD=>DV E b vD k kx kr) kx kr++(((cN b).toList.map λi=>(false,i,λvD=>DV E b vD k kx kr))++B k kx kr))
  (λ_ _ _ A B k kx kr=>A k kx kr++B k kx kr)
  (λid _ A k kx kr=>A k (λi σ'=>cond (Nat.beq i id) (k σ') (kx i σ')) kr)
  (λb _ _ kx kr=>(cN b).toList.map λi=>(true,i,Co ((cN b).bind E.wi) (fun σ' kn=>DV E b σ' kn kx kr) E.N))
  (λ_ _ _ _ _ _ _ _ _=>[])
  (λ_ _ _ _=>[])
  (λ_ A k kx kr=>A k kx kr)
  (λ_ _ _ _=>[])
  (λ_ _ _ _=>[])
  (λ_ _ _=>[])
  (λ_ _ _ _=>[])
  c
def wM(E:Env)(κJ κL:Nat→St→Option α):List (Bool×Nat×(St→Option α))→List ((St→Option α)×(St→Option α))
 |[]=>[]
 |q::r=>match q.1 with
  |false=>match E.yd q.2.1 with
   |some _=>(κJ q.2.1,q.2.2)::wM E κJ κL r
   |none=>wM E κJ κL r
  |true=>match E.wi q.2.1 with
   |some _=>(κL q.2.1,q.2.2)::wM E κJ κL r
   |none=>wM E κJ κL r
def HF(E:Env)(κJ κL:Nat→St→Option α)(l:List (Bool×Nat×(St→Option α))):Prop:= ∀p∈wM E κJ κL l,p.1=p.2
theorem ahC{E:Env}{κJ κL:Nat→St→Option α}{l:List (Bool×Nat×(St→Option α))}(g:List (St→Option α))(h:wM E κJ κL l=g.map λf=>(f,f)):HF E κJ κL l:=by
 intro p hp
 rw[h]at hp
 obtain⟨f,_,rfl⟩:=cD.1 hp
 rfl
theorem CG{E:Env}{κJ κL:Nat→St→Option α}: ∀(l m:List (Bool×Nat×(St→Option α))),wM E κJ κL (l++m)=wM E κJ κL l++wM E κJ κL m
 |[],m=>rfl
 |(b,i,f)::l,m=>by
  have ih:=CG (E:=E) (κJ:=κJ) (κL:=κL) l m
  cases b<;>simp only[kJ,wM]<;>split<;>simp[ih]
theorem HF.app{E:Env}{κJ κL:Nat→St→Option α}{l m:List (Bool×Nat×(St→Option α))}(h:HF E κJ κL (l++m)):HF E κJ κL l∧HF E κJ κL m:=by
 unfold HF at*
 rw[CG]at h
 exact⟨λp hp=>h p (cW _ hp),λp hp=>h p (dz _ hp)⟩
theorem afW{E:Env}{κJ κL:Nat→St→Option α}{i:Option Nat}{f:St→Option α}(h:HF E κJ κL (i.toList.map λi=>(false,i,f))):An E.yd κJ i f=f:=by
 cases i with
 |none=>rfl
 |some i=>
  simp only[Option.toList,List.map,HF,wM]at h
  unfold An
  cases hL:E.yd i with
  |none=>simp[hL]
  |some L=>rw[hL]at h;simp only[hL];exact h (κJ i,f) (bV.2 rfl)
theorem amh{E:Env}{κJ κL:Nat→St→Option α}{i:Option Nat}{f:St→Option α}(h:HF E κJ κL (i.toList.map λi=>(true,i,f))):An E.wi κL i f=f:=by
 cases i with
 |none=>rfl
 |some i=>
  simp only[Option.toList,List.map,HF,wM]at h
  unfold An
  cases hL:E.wi i with
  |none=>simp[hL]
  |some L=>rw[hL]at h;simp only[hL];exact h (κL i,f) (bV.2 rfl)
theorem Wk{E:Env}{κJ κL:Nat→St→Option α}(c:Code): ∀(k:St→Option α) (kx:Nat→St→Option α) (kr:St→Option α) (σ:St),HF E κJ κL (Fk E c k kx kr)→Wj E κJ κL c σ k kx kr=DV E c σ k kx kr:=by
 induction c with
 |skip=>intros;rfl
 |region=>intros;rfl
 |seq a b iha Vv=>
  intro k kx kr σ h
  obtain⟨h1,h2⟩:=HF.app (h:HF E κJ κL (Fk E a _ kx kr++(((cN b).toList.map λi=>(false,i,λvD=>DV E b vD k kx kr))++Fk E b k kx kr)))
  obtain⟨h2,h3⟩:=HF.app h2
  show Wj E κJ κL a σ (fun σ'=>wo ((cN b).bind E.yd) σ' (An E.yd κJ (cN b) λvD=>Wj E κJ κL b vD k kx kr)) kx kr=DV E a σ (fun σ'=>wo ((cN b).bind E.yd) σ' λvD=>DV E b vD k kx kr) kx kr
  have hb:(λvD=>Wj E κJ κL b vD k kx kr)=λvD=>DV E b vD k kx kr:=funext λvD=>Vv k kx kr vD h3
  rw[hb,afW h2]
  exact iha _ _ _ _ h1
 |cond x a b iha Vv=>
  intro k kx kr σ h
  obtain⟨h1,h2⟩:=HF.app (h:HF E κJ κL (Fk E a k kx kr++Fk E b k kx kr))
  show Ia E x σ (fun σ'=>Wj E κJ κL a σ' k kx kr) (fun σ'=>Wj E κJ κL b σ' k kx kr)=Ia E x σ (fun σ'=>DV E a σ' k kx kr) (fun σ'=>DV E b σ' k kx kr)
  rw[show(fun σ'=>Wj E κJ κL a σ' k kx kr)=fun σ'=>DV E a σ' k kx kr from funext fun σ'=>iha k kx kr σ' h1,show(fun σ'=>Wj E κJ κL b σ' k kx kr)=fun σ'=>DV E b σ' k kx kr from funext fun σ'=>Vv k kx kr σ' h2]
 |block id x ih=>intro k kx kr σ h;exact ih _ _ _ σ h
 |loop b _=>
  intro k kx kr σ h
  show wo ((cN b).bind E.wi) σ (An E.wi κL (cN b) (Co ((cN b).bind E.wi) (fun σ' kn=>DV E b σ' kn kx kr) E.N))=wo ((cN b).bind E.wi) σ (Co ((cN b).bind E.wi) (fun σ' kn=>DV E b σ' kn kx kr) E.N)
  rw[amh (h:HF E κJ κL ((cN b).toList.map λi=>(true,i,_)))]
 |rangeFunc=>intros;rfl
 |exit=>intros;rfl
 |scope x ih=>intro k kx kr σ h;exact ih _ _ _ σ h
 |label=>intros;rfl
 |goto=>intros;rfl
 |ret=>intros;rfl
 |refuse=>intros;rfl
def n0(E:Env)(κJ κL:Nat→St→Option α):List Nat→Code→List (St→Option α)→St→(St→Option α)→(Nat→St→Option α)→(St→Option α)→Option α
 |[],c,_,σ,k,kx,kr=>Wj E κJ κL c σ k kx kr
 |n::p,c,ks,σ,k,kx,kr=>match c with
  | .seq a b=>match n with
   |0=>n0 E κJ κL p a ks σ (fun σ'=>wo ((cN b).bind E.yd) σ' (An E.yd κJ (cN b) λvD=>Wj E κJ κL b vD k kx kr)) kx kr
   |_=>n0 E κJ κL p b ks σ k kx kr
  | .cond _ a b=>match n with
   |0=>n0 E κJ κL p a ks σ k kx kr
   |_=>n0 E κJ κL p b ks σ k kx kr
  | .block id c=>n0 E κJ κL p c ks σ k (λi σ'=>cond (Nat.beq i id) (k σ') (kx i σ')) kr
  | .loop b=>match ks with
   |κ::ks=>n0 E κJ κL p b ks σ κ kx kr
   |[]=>none
  | .scope c=>n0 E κJ κL p c ks σ k kx kr
  |_=>none
def gZ(E:Env):List Nat→Code→List (St→Option α)→(St→Option α)→(Nat→St→Option α)→(St→Option α)→List (Bool×Nat×(St→Option α))
 |[],c,_,k,kx,kr=>Fk E c k kx kr
 |n::p,c,ks,k,kx,kr=>match c with
  | .seq a b=>match n with
   |0=>((cN b).toList.map λi=>(false,i,λvD=>DV E b vD k kx kr))++(Fk E b k kx kr++gZ E p a ks (fun σ'=>wo ((cN b).bind E.yd) σ' λvD=>DV E b vD k kx kr) kx kr)
   |_=>gZ E p b ks k kx kr
  | .cond _ a b=>match n with
   |0=>gZ E p a ks k kx kr
   |_=>gZ E p b ks k kx kr
  | .block id c=>gZ E p c ks k (λi σ'=>cond (Nat.beq i id) (k σ') (kx i σ')) kr
  | .loop b=>match ks with
   |κ::ks=>gZ E p b ks κ kx kr
   |[]=>[]
  | .scope c=>gZ E p c ks k kx kr
  |_=>[]
theorem nj{E:Env}{κJ κL:Nat→St→Option α}: ∀(p:List Nat) (c:Code) (ks:List (St→Option α)) (k:St→Option α) (kx:Nat→St→Option α) (kr:St→Option α) (σ:St),HF E κJ κL (gZ E p c ks k kx kr)→
  n0 E κJ κL p c ks σ k kx kr=vE E p c ks σ k kx kr
 |[],c,ks,k,kx,kr,σ,h=>Wk c k kx kr σ h
 |n::p,c,ks,k,kx,kr,σ,h=>by
  cases c with
  |seq a b=>
   cases n with
   |zero=>
    simp only[n0,vE,gZ]at h ⊢
    obtain⟨h1,h2⟩:=HF.app h
    obtain⟨h2,h3⟩:=HF.app h2
    rw[show(λvD=>Wj E κJ κL b vD k kx kr)=λvD=>DV E b vD k kx kr from funext λvD=>Wk b k kx kr vD h2,afW h1]
    exact nj p a ks _ kx kr σ h3
   |succ n=>simp only[n0,vE,gZ]at h ⊢;exact nj p b ks k kx kr σ h
  |cond x a b=>
   cases n with
   |zero=>simp only[n0,vE,gZ]at h ⊢;exact nj p a ks k kx kr σ h
   |succ n=>simp only[n0,vE,gZ]at h ⊢;exact nj p b ks k kx kr σ h
  |block id x=>simp only[n0,vE,gZ]at h ⊢;exact nj p x ks k _ kr σ h
  |loop b=>
   cases ks with
   |nil=>simp only[n0,vE]
   |cons κ ks=>simp only[n0,vE,gZ]at h ⊢;exact nj p b ks κ kx kr σ h
  |scope x=>simp only[n0,vE,gZ]at h ⊢;exact nj p x ks k kx kr σ h
  |_=>simp only[n0,vE]
def Fl(fn:Func):Code:=fn.body.getD .skip
def MZ(E:Env)(fn:Func)(args res:List AM):St→Option (HP res):=fun σ=>JR E res (fn.results.toList.map .inl++yP args 0) σ some
def nox:Nat→St→Option α:=λ_ _=>none
def ayG:St→Option α:=λ_=>none
def atF(E:Env)(fn:Func)(args res:List AM)(p:List Nat)(ks:List (St→Option (HP res)))(σ:St):Option (HP res):=
 vE E p (Fl fn) ks σ (MZ E fn args res) nox (MZ E fn args res)
def atQ(E:Env)(fn:Func)(args res:List AM)(κJ κL:Nat→St→Option (HP res))(p:List Nat)(ks:List (St→Option (HP res)))(σ:St):Option (HP res):=
 n0 E κJ κL p (Fl fn) ks σ (MZ E fn args res) nox (MZ E fn args res)
def ZT(E:Env)(fn:Func)(args res:List AM)(p:List Nat)(ks:List (St→Option (HP res))):List (Bool×Nat×(St→Option (HP res))):=
 gZ E p (Fl fn) ks (MZ E fn args res) nox (MZ E fn args res)
theorem arz{E:Env}{fn:Func}{args res:List AM}{κJ κL:Nat→St→Option (HP res)}{p:List Nat}{ks:List (St→Option (HP res))}(g:List (St→Option (HP res)))(h:wM E κJ κL (ZT E fn args res p ks)=g.map λf=>(f,f))(σ:St):
 atF E fn args res p ks σ=atQ E fn args res κJ κL p ks σ:=(nj p _ ks _ _ _ σ (ahC g h)).symm
theorem ahE{E:Env}{fn:Func}{args res:List AM}(hb:fn.body.isSome=true)(x:HP args):PN E fn args res x=atF E fn args res [] [] (entry args x 0 S0):=by
 unfold PN atF Fl
 cases h:fn.body with
 |none=>rw[h]at hb;cases hb
 |some c=>rfl
def lpF(E:Env)(fn:Func)(args res:List AM)(c:List (Nat×CM))(p:List Nat)(ks:List (St→Option (HP res)))(n:Nat):St→Option (HP res):=
 Co (some c) (fun σ kn=>atF E fn args res p (ks++[kn]) σ) n
theorem Wl(E:Env)(fn:Func)(args res:List AM)(c:List (Nat×CM))(p:List Nat)(ks:List (St→Option (HP res)))(n:Nat)(σ:St):
 lpF E fn args res c p ks (n+1) σ=atF E fn args res p (ks++[fun σ'=>wo (some c) σ' (lpF E fn args res c p ks n)]) σ:=rfl
def Wm{β:Type}(κ:Nat→β):List (Nat×β)→Prop
 |[]=>True
 |q::r=>κ q.1=q.2∧Wm κ r
def TA{β:Type}:List (β×β)→Prop
 |[]=>True
 |q::r=>q.1=q.2∧TA r
theorem TA.mem{β:Type}: ∀{l:List (β×β)},TA l→ ∀p∈l,p.1=p.2
 |q::r,h,p,hp=>by
  rcases aX.1 hp with rfl|hp
  ·exact h.1
  ·exact TA.mem h.2 p hp
theorem ami{β:Type}(d:β): ∀(l:List (Nat×β)),(l.map (·.1)).Nodup→ ∃κ:Nat→β,Wm κ l
 |[],_=>⟨λ_=>d,trivial⟩
 |q::r,h=>by
  rw[bW,zF]at h
  obtain⟨κ,hκ⟩:=ami d r h.2
  refine⟨λi=>if i=q.1 then q.2 else κ i,by simp,?_⟩
  have key: ∀(r':List (Nat×β)),(∀p∈r',p∈r)→Wm κ r'→Wm (λi=>if i=q.1 then q.2 else κ i) r':=by
   intro r'
   induction r' with
   |nil=>intros;trivial
   |cons p r' ih=>
    intro hm ha
    refine⟨?_,ih (λp' Rz=>hm p' (aY _ Rz)) ha.2⟩
    have jB:p.1≠q.1:=λe=>h.1 (e▸eS (hm p (bg ..)))
    show(if p.1=q.1 then q.2 else κ p.1)=p.2
    rw[ah jB]
    exact ha.1
  exact key r (λ_ h=>h) hκ
theorem awr{β:Type}(d:β)(l:List (Nat×β)){ks:List Nat}(h:l.map (·.1)=ks)(hd:ks.Nodup): ∃κ:Nat→β,Wm κ l:=ami d l (h▸hd)
theorem at_eq(E:Env)(fn:Func)(args res:List AM){κJ κL:Nat→St→Option (HP res)}{p:List Nat}{ks:List (St→Option (HP res))}{l:List ((St→Option (HP res))×(St→Option (HP res)))}(h:wM E κJ κL (ZT E fn args res p ks)=l)(hl:TA l)(σ:St):
 atF E fn args res p ks σ=atQ E fn args res κJ κL p ks σ:=(nj p _ ks _ _ _ σ (by unfold HF;rw[show wM E κJ κL (gZ E p (Fl fn) ks (MZ E fn args res) nox (MZ E fn args res))=l from h];exact hl.mem)).symm
end VM
end
section
namespace VM
open Go Go.RowKit
variable{P:Program}
def M4(i:Nat):List (Nat×Ty)→Option Ty
 |[]=>none
 |q::r=>cond (Nat.beq i q.1) (some q.2) (M4 i r)
theorem Iy{i:Nat}{τ:Ty}: ∀{l:List (Nat×Ty)},M4 i l=some τ→(i,τ)∈l
 |q::r,h=>by
  unfold M4 at h
  cases hb:Nat.beq i q.1<;>rw[hb]at h
  ·exact aY _ (Iy h)
  ·cases h;rw[fW hb];exact bg ..
structure Fm(P:Program)(tab:List (Nat×Ty)):Prop where
 ok:ame P tab=true
 mixed:P.follows .mixedOrders=true
theorem TB{E:Env}(hE:tK P E)(arB:E.io=[]){f:FuncId}{fn:Func}(hf:P.funcs[f]? =some fn)(τs:List Ty)
  (hc:(Nat.beq E.nt fn.ntmps&&Nat.ble τs.length E.nt)=true) {w:World} {vs:List Value} {x:HP (τs.map .v)} (hA:jJ w (λ_=>False) (τs.map .v) x vs)
  (h:PN E fn (τs.map .v) [.v .bool] x=some true):Calls P f vs.toArray w λe w'=>e= .returned (.bool true)∧Below w.heap.size w w':=by
 rw[bQ]at hc
 have hnt:=fW hc.1
 have hlen:=Ep hc.2
 have hh: ∀(τs:List Ty) (vs:List Value),dO (τs.map .v) vs=[]:=by
  intro τs
  induction τs with
  |nil=>intro vs;cases vs<;>rfl
  |cons τ τs ih=>intro vs;cases vs with
   |nil=>rfl
   |cons v vs=>simp[dO,da,ih]
 have hi: ∀(τs:List Ty) (vs:List Value),fp (τs.map .v) vs=[]:=by
  intro τs
  induction τs with
  |nil=>intro vs;cases vs<;>rfl
  |cons τ τs ih=>intro vs;cases vs with
   |nil=>rfl
   |cons v vs=>simp[fp,AM.iL,ih]
 refine(Iu (M0:=λ_=>False) (vs:=vs) hE hf hnt (λi m hm vq=> ?_) (λi hi=>by rw[arB]at hi;cases hi) (by rw[cy];rw[←hnt];exact hlen) (λb hb=>hb.elim) (by rw[hh];simpa using hA) (by rw[hh];exact List.nodup_nil) (λb _ hb=>hb) h).mono ?_
 ·rw[pZ]at hm
  obtain⟨τ,_,rfl⟩:=zx.1 hm
  cases vq
 ·rintro e w' ⟨v,rfl,us,M',rfl,Vh,hL,_,_⟩
  rw[hh]at hL
  rw[hi]at Vh
  simp only[RR]at Vh
  rcases Vh with⟨p,Hf,h1,_⟩|⟨v,LC,_,_,rfl,hv,rfl,_⟩
  ·cases h1
  ·refine⟨?_,hL.os,hL.tape,hL.output,hL.size,λb hb=>hL.frame b hb (by simp)⟩
   have:v= .bool true:=by
    simp only[A1,V,Ty.isAgg,jc,eU,Rd,fi,eT]at hv
    exact hv
   rw[this];rfl
def Wn(P:Program):List Ty→List TypeId→Bool
 |[],[]=>true
 |τ::τs,t::ts=>(tM P τ (.inl t)&&τ.pS)&&((P.readableRec t&&decide (t<P.types.size))&&Wn P τs ts)
 |_,_=>false
theorem Kg: ∀{τs:List Ty} {ts:List TypeId},Wn P τs ts=true→τs.length=ts.length∧ ∀(j:Nat) τ t,τs[j]? =some τ→ts[j]? =some t→(kL P τ t∧τ.pS=true∧P.readableRec t=true∧t<P.types.size)
 |[],[],_=>⟨rfl,λj τ t h=>by simp at h⟩
 |τ::τs,t::ts,h=>by
  simp only[Wn,bQ]at h
  obtain⟨⟨h1,h2⟩,⟨h3,h4⟩,h5⟩:=h
  obtain⟨hl,ih⟩:=Kg h5
  refine⟨by simp[hl],λj τ' t' ha hb=> ?_⟩
  cases j with
  |zero=>
   simp only[L0,iC]at ha hb
   subst ha;subst hb
   exact⟨gY h1,h2,h3,bz h4⟩
  |succ j=>exact ih j τ' t' (by simpa using ha) (by simpa using hb)
 |[],_::_,h|_::_,[],h=>by simp[Wn]at h
theorem Wo{H:Type}{enc:TypeId×Value→H}{w:World}{fn:Func}{args:Array Value}{ds:List (DataW H)}{ps:List MemPlace}{r:Reach}{b0:Nat}(laid:laidOutB P=true)(τs:List Ty)
  (hA:DataW.TrodAll enc P w 0 (λ_=>true) true fn.params.toList args.toList ds ps) (EY:Wn P τs fn.params.toList=true)
  (hv: ∀(j:Nat) t v,fn.params[j]? =some t→args[j]? =some v→Value.okWide P w r b0 t v):
  (∃x:HP (τs.map .v),jJ w (λ_=>False) (τs.map .v) x args.toList∧WFs τs x)∧ ∀w',Below w.heap.size w w'→ ∃Hf,DataW.TrodAll enc P w' 0 (λb=>decide (b<w.heap.size)) true fn.params.toList args.toList ds Hf:=
 Ix laid hA (Kg EY).1 (Kg EY).2 (λj t v h h'=>hv j t v (by rw[gV]at h;exact h) (by rw[gV]at h';exact h'))
end VM
end
