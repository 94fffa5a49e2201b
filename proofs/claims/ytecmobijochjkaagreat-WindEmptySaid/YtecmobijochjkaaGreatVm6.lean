/- A part of the proof of WindEmpty of layer 21: a machine that reads a function of the program as an equation between values. -/
import Derived.Test.YtecmobijochjkaaGreatVm5
import Derived.Laws.StructEq
import Derived.OpenShut
import Derived.ChangeShapes
import Derived.ChangeMaps5
import Derived.RowKit
import Derived.ChangeOld
import Derived.Carry
import Derived.Below
import Derived.Test.YtecmobijochjkaaGreatVm0
set_option linter.all false
noncomputable section
section
namespace VM
open Go
variable{P:Program}{E:Env}{o:Oper}{a:Act}{w:World}{M:Nat→Prop}{ν:Nat→Value}{σ:St}{c:Ctx}{α:Type}{r:α}{next:Act→World→Prop}{Q:Exit→Act→World→Prop}
theorem Cz{L:Option (List (Nat×CM))}(hL: ∀L',L=some L'→ka L'=true){b:Code}{Q:Exit→Act→World→Prop}{step:St→(St→Option α)→Option α}
  (hs: ∀σ a w kn (Q':Exit→Act→World→Prop),Inv c E σ a w→step σ kn=some r→(∀σ' a' w',kn σ'=some r→Inv c E σ' a' w'→Q' .normal a' w')→(∀e a' w',e≠ .normal→Q e a' w'→Q' e a' w')→b.wp P Q' a w):
  ∀n σ a w,Inv c E σ a w→Ck L step n σ=some r→Code.rounds P b Q n a w
 |0,σ,a,w,_,h=>by cases h
 |n+1,σ,a,w,hI,h=>by
  rw[rounds_succ]
  refine hs σ a w _ _ hI h (fun σ' a' w' h' yq=> ?_) (λe a' w' he hq=> ?_)
  ·obtain⟨vq,J6,aht⟩:=yK yq hL h'
   exact Cz hL hs n vq a' w' aht J6
  ·cases e<;>first|exact hq|exact absurd rfl he
theorem Tt(hE:tx P E): ∀(cd:Code) (σ:St) (a:Act) (w:World) (k:St→Option α) (kx:Nat→St→Option α) (kr:St→Option α) (Q:Exit→Act→World→Prop),Inv c E σ a w→DQ E cd σ k kx kr=some r→
  (∀σ' a' w',k σ'=some r→Inv c E σ' a' w'→Q .normal a' w')→(∀i σ' a' w',kx i σ'=some r→Inv c E σ' a' w'→Q (.exit i) a' w')→(∀σ' a' w',kr σ'=some r→Inv c E σ' a' w'→Q .ret a' w')→cd.wp P Q a w:=by
 intro cd
 induction cd with
 |skip=>intro σ a w k kx kr Q hI h hk _ _;exact wp_skip (hk σ a w h hI)
 |region id ops draw=>intro σ a w k kx kr Q hI h hk _ _;exact Hz hE hI h hk
 |seq x y ihx ihy=>
  intro σ a w k kx kr Q hI h hk hx hr
  refine wp_seq (ihx σ a w _ kx kr _ hI h (fun σ' a' w' h' yq=> ?_) hx hr)
  obtain⟨vq,J6,aht⟩:=yK yq (λL' hL=>by
   cases hf:cL y with
   |none=>rw[hf]at hL;cases hL
   |some i=>rw[hf]at hL;exact hE.VQ i L' hL) h'
  exact ihy vq a' w' k kx kr Q aht J6 hk hx hr
 |cond x t e iht ihe=>
  intro σ a w k kx kr Q hI h hk hx hr
  obtain⟨b,hb,h⟩:=ML (E:=E) (A:=fun σ'=>DQ E t σ' k kx kr) (B:=fun σ'=>DQ E e σ' k kx kr) hI h
  refine wp_cond hb ?_
  cases b
  ·exact ihe σ a w k kx kr Q hI h hk hx hr
  ·exact iht σ a w k kx kr Q hI h hk hx hr
 |block id x ih=>
  intro σ a w k kx kr Q hI h hk hx hr
  refine wp_block (ih σ a w k _ kr _ hI h hk (λi σ' a' w' h' yq=> ?_) hr)
  show if i=id then Q .normal a' w' else Q (.exit i) a' w'
  cases hb:Nat.beq i id
  ·have jy:i≠id:=λe=>by subst e;rw[show Nat.beq i i=true from tf i]at hb;cases hb
   rw[hb]at h'
   rw[ah jy]
   exact hx i σ' a' w' h' yq
  ·rw[hb]at h'
   rw[aj (fW hb)]
   exact hk σ' a' w' h' yq
 |loop b ih=>
  intro σ a w k kx kr Q hI h hk hx hr
  have hL: ∀L',(cL b).bind E.vW=some L'→ka L'=true:=λL' hL=>by
   cases hf:cL b with
   |none=>rw[hf]at hL;cases hL
   |some i=>rw[hf]at hL;exact hE.ka i L' hL
  obtain⟨σ',h',yq⟩:=yK hI hL h
  refine wp_loop_rounds E.N (Cz hL (fun σ a w kn Q' hI h hkn hq=> ?_) E.N σ' a w yq h')
  exact ih σ a w kn kx kr Q' hI h hkn (λi σ' a' w' h' yq=>hq _ _ _ (by simp) (hx i σ' a' w' h' yq)) (fun σ' a' w' h' yq=>hq _ _ _ (by simp) (hr σ' a' w' h' yq))
 |rangeFunc f ps x y ihx ihy=>intro σ a w k kx kr Q hI h;cases h
 |exit id=>intro σ a w k kx kr Q hI h hk hx hr;exact wp_exit (hx id σ a w h hI)
 |scope x ih=>
  intro σ a w k kx kr Q hI h hk hx hr
  exact wp_scope_straight (ih σ a w k kx kr _ hI h hk hx hr)
 |label l=>intro σ a w k kx kr Q hI h hk _ _;exact wp_label (hk σ a w h hI)
 |goto l=>intro σ a w k kx kr Q hI h;cases h
 |ret=>intro σ a w k kx kr Q hI h hk hx hr;exact wp_ret (hr σ a w h hI)
 |refuse s=>intro σ a w k kx kr Q hI h;cases h
end VM
end
section
namespace VM
open Go
variable{P:Program}{E:Env}{o:Oper}{a:Act}{w:World}{M:Nat→Prop}{ν:Nat→Value}{σ:St}{c:Ctx}{α:Type}{r:α}{next:Act→World→Prop}{Q:Exit→Act→World→Prop}
theorem Qd{m:AM}{ms:List AM}(x:HP (m::ms))(i:Nat)(σ:St):entry (m::ms) x i σ=entry ms (ya x) (i+1) (PZ m (s4 x) i σ):=by
 cases ms with
 |nil=>simp[entry,s4]
 |cons n ms=>simp[entry,s4,ya]
theorem Core.yp{tm:Array Value}(h:Core c σ tm w M ν){id:Nat}{v:Value}{e:bg}(bf:σ.H id=none)(S1:ER w M v e)
  (hd: ∀b,fL v=some b→ ∀i e',σ.H i=some e'→e'.mut→fL (ν i)≠some b) (hn: ∀b,fL v=some b→c.B≤b∨c.may b) (ho: ∀b e0 l0,e= .own e0 l0→fL v=some b→ ¬c.M0 b)
  (sS: ∀τ x p j,e= .gh τ x p j→bZ σ.H id (some e) j≠none∧ ∃b,v= .pointer (some ⟨b,0,none⟩)∧w.cell? ⟨b,cE p τ,none⟩=some (dg ν id v j):=by intro _ _ _ _ h;cases h):
  Core c ⟨σ.T,bZ σ.H id (some e)⟩ tm w M (dg ν id v):=by
 have hm:=Mem.yp h.mem (id:=id) (v:=v) (e:=e) (λe' wc=>by rw[bf]at wc;cases wc) S1 hd hn ho (.inl bf) sS
 refine h.tr ⟨hm,.refl w M,⟨λi e1 hi=> ?_,λi hi=> ?_⟩⟩
 ·have bY:i≠id:=λe=>by rw[e,bf]at hi;cases hi
  exact⟨e1,by rw[az _ _ bY];exact hi,.refl e1⟩
 ·have bY:i≠id:=λe=>hi (e▸bf)
  simp[dg,bY]
theorem Core.put{tm:Array Value}(h:Core c σ tm w M ν){d:Nat}{x:bD}(hx:VR w M σ.H ν x (tm.getD d undef)):Core c (σ.put d x) tm w M ν:=by
 refine⟨h.mem,λi=> ?_⟩
 by_cases hi:i=d
 ·subst hi;rw[uj];exact hx
 ·rw[Ab _ _ hi];exact h.tmp i
theorem CA{tm:Array Value}: ∀{ms:List AM} {x:HP ms} {vs:List Value} {i:Nat} {σ:St} {ν:Nat→Value} {used:List Nat},Core c σ tm w M ν→jH w M ms x vs→(∀j v,vs[j]? =some v→tm.getD (i+j) undef=v)→
  (∀j,16*i≤j→σ.H j=none)→(∀j e b,σ.H j=some e→e.mut→fL (ν j)=some b→b∈used)→(used++dO ms vs).Nodup→(∀b∈dO ms vs,c.may b)→(∀b,c.may b→ ¬c.M0 b)→
  ∃ν',Core c (entry ms x i σ) tm w M ν'
 |[],x,vs,i,σ,ν,used,h,_,_,_,_,_,_,_=>⟨ν,h⟩
 |m::ms,x,vs,i,σ,ν,used,h,hA,MT,jr,Im,yb,Qe,H7=>by
  rw[Qd]
  simp only[jH]at hA
  obtain⟨v,LC,rfl,h1,h2⟩:=hA
  have hv:tm.getD i undef=v:=by simpa using MT 0 v rfl
  have Kb: ∀j u,LC[j]? =some u→tm.getD (i+1+j) undef=u:=λj u hj=>by
   have:=MT (j+1) u (by simpa using hj)
   rwa [show i+(j+1)=i+1+j from by omega]at this
  have bf:σ.H (16*i+15)=none:=jr _ ω
  have ahu:dO (m::ms) (v::LC)=c9 m v++dO ms LC:=rfl
  rw[ahu]at yb Qe
  have qV: ∀b,b∈c9 m v→ ∀j e',σ.H j=some e'→e'.mut→fL (ν j)≠some b:=λb hb j e' hj jQ eY=>
   mz yb (Im j e' b hj jQ eY) (cU _ hb)
  have wq: ∀{σ':St} {ν':Nat→Value},Core c σ' tm w M ν'→(∀j,16*(i+1)≤j→σ'.H j=none)→(∀j e b,σ'.H j=some e→e.mut→fL (ν' j)=some b→b∈used++c9 m v)→ ∃ν'',Core c (entry ms (ya x) (i+1) σ') tm w M ν'':=
   λh' zN hu'=>CA h' h2 Kb zN hu' (by rw[bt];exact yb) (λb hb=>Qe b (dA _ hb)) H7
  have MO: ∀(e:bg) (v':Value),v'=v→(∀b,fL v=some b→b∈c9 m v)→(∀j,16*(i+1)≤j→bZ σ.H (16*i+15) (some e) j=none)∧
    (∀j e1 b,bZ σ.H (16*i+15) (some e) j=some e1→e1.mut→fL (dg ν (16*i+15) v' j)=some b→b∈used++c9 m v):=by
   rintro e v' rfl hb
   refine⟨λj hj=>by rw[az _ _ ω];exact jr j ω,λj e1 b hj jQ eY=> ?_⟩
   by_cases yN:j=16*i+15
   ·subst yN
    simp only[dg,gB]at eY
    exact dA _ (hb b eY)
   ·rw[az _ _ yN]at hj
    simp only[dg,yN,eT]at eY
    exact cU _ (Im j e1 b hj jQ eY)
  cases m with
  |v τ=>
   refine wq (σ':=σ.put i (.val τ (s4 x))) (h.put ?_) (λj hj=>jr j ω) (λj e b hj jQ eY=>cU _ (Im j e b hj jQ eY))
   simp only[VR,hv];exact h1
  |fn f τ=>
   refine wq (σ':=σ.put i (.Mf f (pM τ (s4 x)))) (h.put ?_) (λj hj=>jr j ω) (λj e b hj jQ eY=>cU _ (Im j e b hj jQ eY))
   rw[hv]
   simp only[A1,VR]at h1 ⊢
   obtain⟨us,hu,PL⟩:=h1
   exact⟨us,hu,jq.free PL⟩
  |own e=>
   have we: ∀b,fL v=some b→b∈c9 (.own e) v:=λb hb=>by simp[c9,hb]
   have hc:=h.yp bf (v:=v) (e:= .own e (s4 x)) h1 (λb hb=>qV b (we b hb)) (λb hb=> .inr (Qe b (cU _ (we b hb)))) (λb _ _ _ hb=>H7 b (Qe b (cU _ (we b hb))))
   obtain⟨zN,hu'⟩:=MO (.own e (s4 x)) v rfl we
   refine wq (σ':=(σ.put i (.ref (16*i+15))).jO (16*i+15) (some (.own e (s4 x)))) (ν':=dg ν (16*i+15) v) (hc.put (d:=i) (x:= .ref (16*i+15)) ?_) zN hu'
   simp only[VR,hv]
   exact⟨by rw[ax];simp,by simp[dg]⟩
  |lo e=>
   have we: ∀b,fL v=some b→b∈c9 (.lo e) v:=λb hb=>by simp[c9,hb]
   have hc:=h.yp bf (v:=v) (e:= .own e (s4 x)) h1 (λb hb=>qV b (we b hb)) (λb hb=> .inr (Qe b (cU _ (we b hb)))) (λb _ _ _ hb=>H7 b (Qe b (cU _ (we b hb))))
   obtain⟨zN,hu'⟩:=MO (.own e (s4 x)) v rfl we
   refine wq (σ':=(σ.put i (.ref (16*i+15))).jO (16*i+15) (some (.own e (s4 x)))) (ν':=dg ν (16*i+15) v) (hc.put (d:=i) (x:= .ref (16*i+15)) ?_) zN hu'
   simp only[VR,hv]
   exact⟨by rw[ax];simp,by simp[dg]⟩
  |io τ=>
   have we: ∀b,fL v=some b→b∈c9 (.io τ) v:=λb hb=>by simp[c9,hb]
   have hc:=h.yp bf (v:=v) (e:= .obj τ (s4 x)) h1 (λb hb=>qV b (we b hb)) (λb hb=> .inr (Qe b (cU _ (we b hb)))) (λb _ _ he=>by cases he)
   obtain⟨zN,hu'⟩:=MO (.obj τ (s4 x)) v rfl we
   refine wq (σ':=(σ.put i (.jn (16*i+15) [])).jO (16*i+15) (some (.obj τ (s4 x)))) (ν':=dg ν (16*i+15) v) (hc.put (d:=i) (x:= .jn (16*i+15) []) ?_) zN hu'
   simp only[A1,ER]at h1
   obtain⟨b,cs,t,VL,_⟩:=h1
   simp only[VR,hv]
   exact⟨_,ax _ _ _,trivial,b,by simp[dg,VL],VL⟩
  |jn τ=>
   refine wq (σ':=σ.put i (.qM τ (s4 x))) (h.put ?_) (λj hj=>jr j ω) (λj e b hj jQ eY=>cU _ (Im j e b hj jQ eY))
   rw[hv]
   simp only[A1,VR]at h1 ⊢
   exact h1
  |ptr τ=>
   refine wq (σ':=σ) h (λj hj=>jr j ω) (λj e b hj jQ eY=>cU _ (Im j e b hj jQ eY))
def wv(tm:Array Value):ResultVar→Sem Value
 | .tmp t=>pure (tm.getD t undef)
 | .cell x t=>do loadVar t (←asAddr (tm.getD x undef))
def Dr(P:Program)(tm:Array Value)(w:World)(rv:ResultVar)(u:Value):Prop:=(wv tm rv).run P w= .ok u w
def Kc(P:Program)(tm:Array Value)(w:World):List (ResultVar ⊕ Nat)→List Value→List Value→Prop
 |[],us,ps=>us=[]∧ps=[]
 | .inl rv::rs,us,ps=> ∃u J4,us=u::J4∧Dr P tm w rv u∧Kc P tm w rs J4 ps
 | .inr i::rs,us,ps=> ∃p Ha,ps=p::Ha∧p=tm.getD i undef∧Kc P tm w rs us Ha
theorem Core.ZO{tm:Array Value}{H1:Nat→Option bg}{M1:Nat→Prop}(h: ∀i,VR w M σ.H ν (σ.T i) (tm.getD i undef))(k:e8 w M w M1)(g:sR σ.H ν H1 ν): ∀i,VR w M1 H1 ν (σ.T i) (tm.getD i undef):=
 λi=>VR.ca k g (h i)
theorem CB(hE:EnvTy P E){tm:Array Value}{H0 Hq:Nat→Option bg}{M1:Nat→Prop}{uo uf:iX}{io:List (Nat×AM)}{hs:List Nat}(h:jI c w M ν H0 σ.H Hq M1 uo uf io hs)(ht: ∀i,VR w M1 σ.H ν (σ.T i) (tm.getD i undef))
  {m:AM} {rs:ResultVar ⊕ Nat} {k:m.den→St→Option α} (hk:H6 E m rs σ k=some r):
  ∃y σ' Lu Lv GZ Vc M2 u,k y σ'=some r∧σ'.T=σ.T∧jI c w M ν H0 σ'.H Vc M2 Lu Lv GZ (hs++c9 m u)∧e8 w M1 w M2∧sR σ.H ν σ'.H ν∧A1 w M2 m y u∧
   ((m.iE=false∧m.Zv=false∧ ∃rv,rs= .inl rv∧Dr P tm w rv u)∨(m.iE=true∧ ∃i,rs= .inr i∧u=tm.getD i undef)):=by
 unfold H6 at hk
 split at hk
 ·
  rename_i τ t k
  obtain⟨y,rd,ups,hk,hy⟩:=DU h.mem (ht t) hk
  have Qf:Dr P tm w (.tmp t) (tm.getD t undef):=by simp[Dr,wv]
  rcases hy with⟨rfl,hV⟩|⟨id,e,l,rfl,bf,hV⟩
  ·exact⟨y,σ,uo,uf,io,Hq,M1,_,hk,rfl,by simpa [c9]using h,.refl w M1,.refl _ ν,hV,.inl ⟨rfl,rfl,_,rfl,Qf⟩⟩
  ·obtain⟨M2,hA,hK,JW⟩:=h.freeze bf
   exact⟨y,_,uo,_,io,Hq,M2,_,hk,rfl,(by simp only[c9,ch];exact hA),hK,.Zx bf ⟨rfl,rfl⟩,hV M2 JW,.inl ⟨rfl,rfl,_,rfl,Qf⟩⟩
 ·
  rename_i τ x t k
  split at hk
  ·rename_i τ' EO
   obtain⟨e1,hk1⟩:=fZ hk
   clear hk
   subst e1
   obtain⟨υ,z,rd,hk,b,off,cs,hv,pY,kV⟩:=Cn h.mem (ht x) hk1
   obtain⟨e2,Y0⟩:=bC hk
   subst e2
   refine⟨_,σ,uo,uf,io,Hq,M1,cK _ cs,Y0,rfl,by simpa [c9]using h,.refl w M1,.refl _ ν,V.cK kV,.inl ⟨rfl,rfl,_,rfl,?_⟩⟩
   simp only[Dr,wv,hv]
   simp[asAddr,Cm (hE.ty t _ EO) pY kV]
  ·cases hk
 ·
  rename_i e t k
  have hv:=ht t
  have Qf:Dr P tm w (.tmp t) (tm.getD t undef):=by simp[Dr,wv]
  split at hk
  ·rename_i hT
   rw[hT]at hv
   obtain⟨ad,hv⟩:=VR.emp.1 hv
   have hb:fL (.slice ad 0 0)=none:=by cases ad<;>simp[fL]
   exact⟨[],σ,uo,uf,io,Hq,M1,_,hk,rfl,by rw[hv];simpa [c9,hb]using h,.refl w M1,.refl _ ν,by rw[hv];simp only[A1,ER];exact .inl ⟨trivial,ad,rfl⟩,.inl ⟨rfl,rfl,_,rfl,Qf⟩⟩
  ·rename_i id hT
   rw[hT]at hv
   simp only[VR]at hv
   split at hk
   ·rename_i e' l bf
    obtain⟨e1,hk⟩:=bC hk
    cases e1
    refine⟨_,_,_,uf,io,_,M1,ν id,hk,rfl,(by simp only[c9];exact h.hand bf),.refl w M1,.Zx bf (bg.kK _),h.mem.kZ id _ bf,.inl ⟨rfl,rfl,_,rfl,by rw[←hv.2];exact Qf⟩⟩
   ·cases hk
  ·cases hk
 ·
  rename_i τ i k
  have hv:=ht i
  split at hk
  ·rename_i id hT
   rw[hT]at hv
   split at hk
   ·rename_i υ z bf
    obtain⟨e1,hk⟩:=bC hk
    subst e1
    simp only[VR]at hv
    obtain⟨e,he,nM⟩:=hv
    rw[bf]at he;cases he
    simp only[AR]at nM
    obtain⟨_,b,hb,hv⟩:=nM
    have VL:tm.getD i undef=ν id:=by rw[hv,hb];rfl
    refine⟨_,_,uo,uf,_,_,M1,ν id,hk,rfl,(by simp only[c9];exact h.ahd bf),.refl w M1,.Zx bf (bg.kK _),h.mem.kZ id _ bf,.inr ⟨rfl,i,rfl,VL.symm⟩⟩
   ·cases hk
  ·cases hk
 ·
  rename_i e i k
  have hv:=ht i
  split at hk
  ·rename_i id hT
   rw[hT]at hv
   simp only[VR]at hv
   split at hk
   ·rename_i e' l bf
    obtain⟨e1,hk⟩:=bC hk
    cases e1
    refine⟨_,_,uo,uf,_,_,M1,ν id,hk,rfl,(by simp only[c9];exact h.afQ bf),.refl w M1,.Zx bf (bg.kK _),h.mem.kZ id _ bf,.inr ⟨rfl,i,rfl,hv.2.symm⟩⟩
   ·cases hk
  ·cases hk
 ·
  rename_i τ t k
  have hv:=ht t
  have Qf:Dr P tm w (.tmp t) (tm.getD t undef):=by simp[Dr,wv]
  split at hk
  ·rename_i id hT
   rw[hT]at hv
   split at hk
   ·rename_i υ z bf
    obtain⟨e1,hk⟩:=bC hk
    subst e1
    simp only[VR]at hv
    obtain⟨e,he,nM⟩:=hv
    rw[bf]at he;cases he
    simp only[AR]at nM
    obtain⟨_,b,hb,hv⟩:=nM
    have VL:tm.getD t undef=ν id:=by rw[hv,hb];rfl
    refine⟨_,_,uo,uf,_,_,M1,ν id,hk,rfl,(by simp only[c9];exact h.ahd bf),.refl w M1,.Zx bf (bg.kK _),h.mem.kZ id _ bf,.inl ⟨rfl,rfl,_,rfl,by rw[←VL];exact Qf⟩⟩
   ·cases hk
  ·cases hk
 ·cases hk
theorem E9(hE:EnvTy P E){tm:Array Value}{H0:Nat→Option bg}: ∀{ms:List AM} {rs:List (ResultVar ⊕ Nat)} {σ:St} {Hq:Nat→Option bg} {M1:Nat→Prop} {uo uf:iX} {io:List (Nat×AM)} {hs:List Nat} {K:HP ms→Option α},
  jI c w M ν H0 σ.H Hq M1 uo uf io hs→(∀i,VR w M1 σ.H ν (σ.T i) (tm.getD i undef))→JO E ms rs σ K=some r→
  ∃y us ps H2 Lu Lv GZ Vc M2,K y=some r∧jI c w M ν H0 H2 Vc M2 Lu Lv GZ (hs++bF ms us ps)∧e8 w M1 w M2∧RR w M2 ms y us ps∧Kc P tm w rs us ps
 |[],[],σ,Hq,M1,uo,uf,io,hs,K,h,ht,hk=>⟨(),[],[],σ.H,uo,uf,io,Hq,M1,hk,by simpa [bF]using h,.refl w M1,⟨rfl,rfl⟩,⟨rfl,rfl⟩⟩
 |[m],[q],σ,Hq,M1,uo,uf,io,hs,K,h,ht,hk0=>by
  obtain⟨y,σ',Lu,Lv,GZ,Vc,M2,u,hk,hT,hA,hK,hG,hy,hu⟩:=CB hE h ht (hk0:H6 E m q σ _=some r)
  clear hk0
  rcases hu with⟨h1,h2,rv,rfl,hv⟩|⟨h1,i,rfl,hv⟩
  ·refine⟨y,[u],[],_,_,_,_,_,M2,hk,by simpa [bF,h1]using hA,hK,?_,?_⟩
   ·simp only[RR];exact .inr ⟨u,[],h1,h2,rfl,hy,by simp⟩
   ·simp only[Kc];exact⟨u,[],rfl,hv,by simp⟩
  ·refine⟨y,[],[u],_,_,_,_,_,M2,hk,by simpa [bF,h1]using hA,hK,?_,?_⟩
   ·simp only[RR];exact .inl ⟨u,[],h1,rfl,hy,by simp⟩
   ·simp only[Kc];exact⟨u,[],rfl,hv,by simp⟩
 |m::n::ms,q::rs,σ,Hq,M1,uo,uf,io,hs,K,h,ht,hk0=>by
  obtain⟨y,σ',Lu,Lv,GZ,Vc,M2,u,hk1,hT,hA,hK,hG,hy,hu⟩:=CB hE h ht (hk0:H6 E m q σ _=some r)
  obtain⟨ys,us,ps,H3,uo3,uf3,io3,Hq3,M3,hk,hA3,hK3,hys,hrs⟩:=E9 (ms:=n::ms) hE hA (λi=>by rw[hT];exact Core.ZO ht hK hG i) hk1
  have Ii:A1 w M3 m y u:=A1.wu hK3 (λb hb=>⟨rfl,hA3.hM b (cU _ (dA _ hb))⟩) hy
  clear hk0
  rcases hu with⟨h1,h2,rv,rfl,hv⟩|⟨h1,i,rfl,hv⟩
  ·refine⟨(y,ys),u::us,ps,H3,uo3,uf3,io3,Hq3,M3,hk,?_,hK.trans hK3,?_,?_⟩
   ·have:bF (m::n::ms) (u::us) ps=c9 m u++bF (n::ms) us ps:=by rw[bF];simp[h1]
    rw[this,←bt];exact hA3
   ·rw[RR];exact .inr ⟨u,us,h1,h2,rfl,Ii,hys⟩
   ·simp only[Kc];exact⟨u,us,rfl,hv,hrs⟩
  ·refine⟨(y,ys),us,u::ps,H3,uo3,uf3,io3,Hq3,M3,hk,?_,hK.trans hK3,?_,?_⟩
   ·have:bF (m::n::ms) us (u::ps)=c9 m u++bF (n::ms) us ps:=by rw[bF];simp[h1]
    rw[this,←bt];exact hA3
   ·rw[RR];exact .inl ⟨u,ps,h1,rfl,Ii,hys⟩
   ·simp only[Kc];exact⟨u,ps,rfl,hv,hrs⟩
 |[],_::_,_,_,_,_,_,_,_,_,_,_,hk=>by simp[JO]at hk
 |[_],[],_,_,_,_,_,_,_,_,_,_,hk=>by simp[JO]at hk
 |[_],_::_::_,_,_,_,_,_,_,_,_,_,_,hk=>by simp[JO]at hk
 |_::_::_,[],_,_,_,_,_,_,_,_,_,_,hk=>by simp[JO]at hk
end VM
end
section
namespace VM
open Go
variable{P:Program}{E:Env}{o:Oper}{a:Act}{w:World}{M:Nat→Prop}{ν:Nat→Value}{σ:St}{c:Ctx}{α:Type}{r:α}{next:Act→World→Prop}{Q:Exit→Act→World→Prop}
theorem Io{tm:Array Value}: ∀{rv:List ResultVar} {is:List (ResultVar ⊕ Nat)} {us ps:List Value},Kc P tm w (rv.map .inl++is) us ps→
  ∃Y4 us2,us=Y4++us2∧Y4.length=rv.length∧(∀i (h:i<rv.length) (h':i<Y4.length),Dr P tm w rv[i] Y4[i])∧Kc P tm w is us2 ps
 |[],is,us,ps,h=>⟨[],us,rfl,rfl,λi h=>by simp at h,h⟩
 |rv::rvs,is,us,ps,h=>by
  simp only[bX,kF,Kc]at h
  obtain⟨u,J4,rfl,h1,h2⟩:=h
  obtain⟨Y4,us2,rfl,hl,h3,h4⟩:=Io h2
  refine⟨u::Y4,us2,rfl,by simp[hl],λi hi m4=> ?_,h4⟩
  cases i with
  |zero=>exact h1
  |succ i=>exact h3 i (by simpa using hi) (by simpa using m4)
theorem wx{tm:Array Value}: ∀{ms:List AM} {vs:List Value} {i:Nat} {us ps:List Value},vs.length=ms.length→(∀j v m,vs[j]? =some v→ms[j]? =some m→m.iE=true→tm.getD (i+j) undef=v)→Kc P tm w (yE ms i) us ps→us=[]∧ps=fm ms vs
 |[],vs,i,us,ps,_,_,h=>by simp only[yE,Kc]at h;simpa [fm]using h
 |m::ms,[],_,_,_,hl,_,_=>by simp at hl
 |m::ms,v::vs,i,us,ps,hl,MT,h=>by
  have Kb: ∀j u m,vs[j]? =some u→ms[j]? =some m→m.iE=true→tm.getD (i+1+j) undef=u:=λj u m hj hm vf=>by
   have:=MT (j+1) u m (by simpa using hj) (by simpa using hm) vf
   rwa [show i+(j+1)=i+1+j from by omega]at this
  have JQ:vs.length=ms.length:=by simpa using hl
  cases m with
  |io τ=>
   simp only[yE,Kc]at h
   obtain⟨p,Ha,rfl,hp,h⟩:=h
   obtain⟨h1,h2⟩:=wx JQ Kb h
   refine⟨h1,?_⟩
   have:=MT 0 v (.io τ) rfl rfl rfl
   simp only[m0]at this
   simp[fm,AM.iE,h2,hp,this]
  |lo e=>
   simp only[yE,Kc]at h
   obtain⟨p,Ha,rfl,hp,h⟩:=h
   obtain⟨h1,h2⟩:=wx JQ Kb h
   refine⟨h1,?_⟩
   have:=MT 0 v (.lo e) rfl rfl rfl
   simp only[m0]at this
   simp[fm,AM.iE,h2,hp,this]
  |v τ=>
   obtain⟨h1,h2⟩:=wx JQ Kb (show Kc P tm w (yE ms (i+1)) us ps from h)
   exact⟨h1,by simp[fm,AM.iE,h2]⟩
  |own τ=>
   obtain⟨h1,h2⟩:=wx JQ Kb (show Kc P tm w (yE ms (i+1)) us ps from h)
   exact⟨h1,by simp[fm,AM.iE,h2]⟩
  |fn f τ=>
   obtain⟨h1,h2⟩:=wx JQ Kb (show Kc P tm w (yE ms (i+1)) us ps from h)
   exact⟨h1,by simp[fm,AM.iE,h2]⟩
  |jn τ=>
   obtain⟨h1,h2⟩:=wx JQ Kb (show Kc P tm w (yE ms (i+1)) us ps from h)
   exact⟨h1,by simp[fm,AM.iE,h2]⟩
  |ptr τ=>
   obtain⟨h1,h2⟩:=wx JQ Kb (show Kc P tm w (yE ms (i+1)) us ps from h)
   exact⟨h1,by simp[fm,AM.iE,h2]⟩
theorem MW{fn:Func}{tm:Array Value}{us:List Value}(hl:us.length=fn.results.toList.length)(h: ∀i (h:i<fn.results.toList.length) (h':i<us.length),Dr P tm w fn.results.toList[i] us[i]):
  (results fn tm).run P w= .ok (wo us) w:=by
 have key: ∀(rs:List ResultVar) (us:List Value),us.length=rs.length→(∀i (h:i<rs.length) (h':i<us.length),Dr P tm w rs[i] us[i])→(rs.mapM (wv tm)).run P w= .ok us w:=by
  intro rs
  induction rs with
  |nil=>intro us hl _;cases us with
   |nil=>simp
   |cons _ _=>simp at hl
  |cons r rs ih=>intro us hl h;cases us with
   |nil=>simp at hl
   |cons u us=>
    have h0:(wv tm r).run P w= .ok u w:=h 0 (by simp) (by simp)
    have h1:=ih us (by simpa using hl) (λi hi m4=>h (i+1) (by simpa using hi) (by simpa using m4))
    simp[zA,h0,h1]
 have h2:=key fn.results.toList us hl h
 have h3:results fn tm=(do let vs ←fn.results.mapM (wv tm);pure (if h:vs.size=1 then vs[0]else .tuple vs)):=by
  unfold results
  congr 1
 rw[h3,Array.mapM_eq_mapM_toList]
 simp only[Sem.run_bind,Sem.run_map,h2]
 unfold wo
 by_cases h3:us.length=1
 ·simp[h3]
 ·simp[h3]
theorem Ip(hE:tx P E){f:FuncId}{fn:Func}(hf:P.funcs[f]? =some fn)(hnt:E.nt=fn.ntmps){args res:List AM}(vf: ∀i m,args[i]? =some m→m.iE=true→i∈E.io)(al9: ∀i∈E.io,i<args.length)(hlen:args.length≤fn.ntmps)
  {M0:Nat→Prop} {vs:List Value} {x:HP args} {y:HP res} (rQ: ∀b,M0 b→b<w.heap.size) (hA:jH w (λb=>M0 b∨b∈dO args vs) args x vs) (yb:(dO args vs).Nodup) (wy: ∀b∈dO args vs,¬M0 b)
  (h:PJ E fn args res x=some y):
  Calls P f vs.toArray w λe w'=> ∃v,e= .returned v∧ ∃us M',v=wo us∧RR w' M' res y us (fm args vs)∧Left w M0 (dO args vs) w' M'∧(bF res us (fm args vs)).Nodup∧ ∀b∈bF res us (fm args vs),¬M0 b:=by
 unfold PJ at h
 split at h
 ·cases h
 rename_i cd hb
 simp only at h
 have hvl: ∀{ms:List AM} {x:HP ms} {vs:List Value} {M:Nat→Prop},jH w M ms x vs→vs.length=ms.length:=by
  intro ms
  induction ms with
  |nil=>intro x vs M h;simp only[jH]at h;subst h;rfl
  |cons m ms ih=>intro x vs M h;simp only[jH]at h;obtain⟨v,LC,rfl,_,h⟩:=h;simp[ih h]
 have Zn:=hvl hA
 let tm:Array Value:=vs.toArray++Array.replicate (fn.ntmps-vs.toArray.size) undef
 have MT: ∀j v,vs[j]? =some v→tm.getD j undef=v:=by
  intro j v hj
  have e9:j<vs.length:=(tW.1 hj).1
  rw[se,Array.getElem?_append_left (by simpa using e9),L9,hj];rfl
 have s0:tm.size=fn.ntmps:=by simp[tm];omega
 have hhb: ∀{ms:List AM} {x:HP ms} {vs:List Value} {M:Nat→Prop},jH w M ms x vs→ ∀b∈dO ms vs,b<w.heap.size:=by
  intro ms
  induction ms with
  |nil=>intro x vs M h b hb;simp[dO]at hb
  |cons m ms ih=>
   intro x vs M h b hb
   simp only[jH]at h
   obtain⟨v,LC,rfl,h1,h⟩:=h
   simp only[dO,a8]at hb
   rcases hb with hb|hb
   ·cases m with
    |v _=>simp[c9]at hb
    |fn _ _=>simp[c9]at hb
    |jn _=>simp[c9]at hb
    |own e=>
     simp only[c9,fg,A1,ER]at hb h1
     rcases h1 with⟨_,a,hv⟩|⟨b',cs,t,cap,hv,hg,_⟩
     ·rw[hv]at hb;cases a<;>simp[fL]at hb
     ·rw[hv]at hb
      simp only[fL]at hb
      split at hb
      ·cases hb
      ·simp only[iw]at hb;subst hb;exact lt_of_block hg
    |lo e=>
     simp only[c9,fg,A1,ER]at hb h1
     rcases h1 with⟨_,a,hv⟩|⟨b',cs,t,cap,hv,hg,_⟩
     ·rw[hv]at hb;cases a<;>simp[fL]at hb
     ·rw[hv]at hb
      simp only[fL]at hb
      split at hb
      ·cases hb
      ·simp only[iw]at hb;subst hb;exact lt_of_block hg
    |io τ=>
     simp only[c9,fg,A1,ER]at hb h1
     obtain⟨b',cs,t,hv,hg,_⟩:=h1
     rw[hv]at hb
     simp only[fL,iw]at hb;subst hb;exact lt_of_block hg
    |ptr τ=>
     simp only[c9,fg,A1,ER]at hb h1
     obtain⟨b',cs,t,hv,hg,_⟩:=h1
     rw[hv]at hb
     simp only[fL,iw]at hb;subst hb;exact lt_of_block hg
   ·exact ih h b hb
 let cx:Ctx:={B:=w.heap.size,w0:=w,M0:=M0,may:=λb=>b∈dO args vs,arg:=λi=>tm.getD i undef}
 have hm0:Mem cx (λ_=>none) w (λb=>M0 b∨b∈dO args vs) (λ_=>undef):=
  ⟨λi e hi=>(by cases hi),λi j e e' b _ hi=>(by cases hi),λi e b hi=>(by cases hi),λi e l b hi=>(by cases hi),λi τ x p j hi=>(by cases hi),λb hb=> .inl hb,λb hb=>hb.elim (rQ b) (hhb hA b),λ_ _ _=>rfl,aG _,⟨rQ,wy⟩,rfl,rfl,rfl⟩
 have U9:Core cx ⟨λ_=> .any,λ_=>none⟩ tm w (λb=>M0 b∨b∈dO args vs) (λ_=>undef):=⟨hm0,λi=>by simp[VR]⟩
 obtain⟨ν',hc⟩:=CA (i:=0) (used:=[]) U9 hA (λj v hj=>by rw[gk];exact MT j v hj) (λ_ _=>rfl) (λj e b hj=>by cases hj) (by simpa using yb) (λb hb=>hb) (λb hb=>wy b hb)
 have hI:Inv cx E (entry args x 0 ⟨λ_=> .any,λ_=>none⟩) {tmps:=tm,defers:=[]} w:=⟨⟨_,_,hc⟩,by rw[hnt,s0],rfl,λi _=>rfl⟩
 refine calls_of_wp hf hb ?_
 have ama: ∀(σ':St) (a':Act) (w':World),JO E res (fn.results.toList.map .inl++yE args 0) σ' some=some y→Inv cx E σ' a' w'→
   a'.defers=[]∧ ∃v,(results fn a'.tmps).run P w'= .ok v w'∧ ∃v',Ending.returned v= .returned v'∧ ∃us M',v'=wo us∧RR w' M' res y us (fm args vs)∧Left w M0 (dO args vs) w' M'∧(bF res us (fm args vs)).Nodup∧ ∀b∈bF res us (fm args vs),¬M0 b:=by
  rintro σ' a' w' hk ⟨⟨M1,ν1,Ly⟩,Lx,hd1,yc⟩
  obtain⟨y',us,ps,H2,uo,uf,io,Hq,M2,hy,V7,hK,Ve,hRs⟩:=E9 (P:=P) hE.toEnvTy (jI.start Ly.mem) Ly.tmp hk
  cases hy
  obtain⟨Y4,us2,rfl,hl,hv,ars⟩:=Io hRs
  obtain⟨rfl,J2⟩:=wx (vs:=vs) Zn (λj v m hj hm Hv=>by
   rw[gk]
   rw[yc j (vf j m hm Hv)]
   exact MT j v hj) ars
  rw[ch]at*
  subst J2
  simp only[cJ]at V7
  have lz: ∀b∈bF res Y4 (fm args vs),b<w.heap.size→b∈dO args vs:=λb hb e9=>(V7.MF b hb).elim (λh'=>absurd e9 (Nat.not_lt.2 h')) (λh=>h)
  have Ii:e8 w' M2 w' (λb=>M2 b∧(b<w.heap.size→M0 b∨b∈dO args vs)):=⟨aG _,λ_ _ _=>rfl,λ_ _ h=>h.1⟩
  refine⟨hd1,wo Y4,MW hl hv,_,rfl,Y4,λb=>M2 b∧(b<w.heap.size→M0 b∨b∈dO args vs),rfl,RR.wu Ii (λb hb=>⟨rfl,Ve.qW b hb,λe9=> .inr (lz b hb e9)⟩) Ve,⟨λb hb=>⟨V7.mem.sub b hb,λ_=> .inl hb⟩,λb hb=>V7.mem.EH b hb.1,λb e9 hb=>hb.2 e9,λb e9 hb=>V7.mem.frame b e9 hb,V7.mem.size,V7.mem.os,V7.mem.tape,V7.mem.output⟩,V7.nd,λb hb h0=> ?_⟩
  rcases V7.MF b hb with h'|h'
  ·exact absurd (rQ b h0) (Nat.not_lt.2 h')
  ·exact wy b h' h0
 refine Tt (c:=cx) hE cd _ _ w _ _ _ _ hI h (fun σ' a' w' hk yq=> ?_) (λi σ' a' w' hk=>by cases hk) (fun σ' a' w' hk yq=> ?_)
 ·exact ama σ' a' w' hk yq
 ·exact ama σ' a' w' hk yq
theorem V8(hE:tx P E){f:FuncId}{fn:Func}(hf:P.funcs[f]? =some fn)(Ad:(fn.name== "runtime.NumGoroutine")=false)(hnt:E.nt=fn.ntmps)(S:lW)
  (vf: ∀i m,S.args[i]? =some m→m.iE=true→i∈E.io) (al9: ∀i∈E.io,i<S.args.length) (hlen:S.args.length≤fn.ntmps) (hq:S.quiet=true→S.res.all AM.flat=true) (art:m8 S.args=m8 S.res)
  (dE: ∀x,PJ E fn S.args S.res x=S.run x):iF P f S:=by
 refine⟨hq,art,λM0 w vs x y rQ hA yb wy hy=> ?_⟩
 have hb:fn.body.isNone=false:=by
  have:=dE x
  rw[hy]at this
  unfold PJ at this
  split at this
  ·cases this
  ·rename_i cd hcd;rw[hcd];rfl
 exact sT hf Ad hb (Ip hE hf hnt vf al9 hlen rQ hA yb wy (by rw[dE,hy]))
end VM
end
section
namespace VM
open Go
variable{P:Program}
def Ae:Ty→List Value→Option (List Value)
 | .int k,v::r=>match v with
  | .int k' n=>if k'=k∧n=0 then some r else none
  |_=>none
 | .bool,v::r=>match v with
  | .bool false=>some r
  |_=>none
 | .str,v::r=>match v with
  | .string s=>if s.data.size=0 then some r else none
  |_=>none
 | .slice _,v::r=>match v with
  | .slice none n m=>if n=0∧m=0 then some r else none
  |_=>none
 | .unit,r=>some r
 | .pair a b,r=>match Ae a r with
  |some r=>Ae b r
  |none=>none
 | .arr n e,r=>Nat.rec (motive:=λ_=>List Value→Option (List Value)) (λr=>some r) (λ_ ih r=>match Ae e r with
  |some r=>ih r
  |none=>none) n r
 |_,[]=>none
theorem Af: ∀{τ:Ty} {l r:List Value},Ae τ l=some r→l=τ.di++r
 | .int k,[],_,h| .bool,[],_,h| .str,[],_,h| .slice _,[],_,h=>by simp[Ae]at h
 | .int k,v::l,r,h=>by
  simp only[Ae]at h
  split at h
  ·split at h
   ·rename_i hc;obtain⟨rfl,rfl⟩:=hc;cases h;rfl
   ·cases h
  ·cases h
 | .bool,v::l,r,h=>by
  simp only[Ae]at h
  split at h
  ·cases h;rfl
  ·cases h
 | .str,v::l,r,h=>by
  simp only[Ae]at h
  split at h
  ·rename_i s
   split at h
   ·rename_i hs
    cases h
    have:s=ByteArray.empty:=by
     obtain⟨d⟩:=s
     have:d= #[]:=Array.eq_empty_of_size_eq_zero hs
     subst this;rfl
    subst this;rfl
   ·cases h
  ·cases h
 | .slice _,v::l,r,h=>by
  simp only[Ae]at h
  split at h
  ·split at h
   ·rename_i hc;obtain⟨rfl,rfl⟩:=hc;cases h;rfl
   ·cases h
  ·cases h
 | .unit,l,r,h=>by simp only[Ae]at h;cases h;rfl
 | .pair a b,l,r,h=>by
  simp only[Ae]at h
  split at h
  ·rename_i r1 h1
   rw[Af h1,Af h];simp[Ty.di]
  ·cases h
 | .arr n e,l,r,h=>by
  simp only[Ae]at h
  simp only[Ty.di]
  induction n generalizing l with
  |zero=>cases h;rfl
  |succ n ih=>
   simp only at h
   split at h
   ·rename_i r1 h1
    rw[Af h1,ih _ h];simp[zt]
   ·cases h
def Ah(P:Program)(τ:Ty)(t:TypeId):Bool:=
 match P.info? t with
 |none=>false
 |some i=>Nat.beq i.size τ.size&&Nat.ble i.bytes 2048&&(match i.zero with
  |none=>false
  |some z=>match τ.isAgg,z with
   |true,.agg cs=>(match Ae τ cs.toList with|some []=>true|_=>false)
   |false,z=>(match Ae τ [z]with|some []=>true|_=>false)
   |_,_=>false)
theorem qZ{τ:Ty}{t:TypeId}(h:Ah P τ t=true):JP P τ t:=by
 unfold Ah at h
 split at h
 ·cases h
 ·rename_i i hi
  simp only[bQ,zJ]at h
  obtain⟨⟨h1,h2⟩,h3⟩:=h
  refine⟨i,hi,fW h1,?_,h2⟩
  split at h3
  ·cases h3
  ·rename_i z hz
   rw[hz]
   split at h3
   ·rename_i _ cs ha
    split at h3
    ·rename_i he
     have:=Af he
     unfold cK
     rw[aj ha,←ch τ.di,←this]
    ·cases h3
   ·rename_i ha
    split at h3
    ·rename_i he
     have:=Af he
     unfold cK
     rw[ah (by rw[ha];exact qA),←ch τ.di,←this];rfl
    ·cases h3
   ·cases h3
def tA(P:Program):Ty→TypeId ⊕ (Array Field×Nat×Nat)→Bool
 | .int k,.inl t=>Ah P (.int k) t&&(match P.underlying t with|some (.int k')=>decide (k'=k)|_=>false)
 | .bool,.inl t=>Ah P .bool t&&(match P.underlying t with|some .bool=>true|_=>false)
 | .str,.inl t=>Ah P .str t&&(match P.underlying t with|some .string=>true|_=>false)
 | .slice e,.inl t=>Ah P (.slice e) t&&(match P.underlying t with|some (.slice e')=>tA P e (.inl e')|_=>false)
 | .arr n e,.inl t=>Ah P (.arr n e) t&&(match P.underlying t with|some (.array n' e')=>Nat.beq n' n&&tA P e (.inl e')|_=>false)
 | .unit,.inl t=>Ah P .unit t&&(match P.underlying t with|some (.struct fs)=>Nat.beq fs.size 0|_=>false)
 | .unit,.inr q=>Nat.beq q.1.size q.2.1
 | .pair a b,.inl t=>Ah P (.pair a b) t&&(match P.underlying t with
  |some (.struct fs)=>(match fs[0]? with
   |some f=>Nat.beq f.offset 0&&(tA P a (.inl f.type)&&tA P b (.inr (fs,1,a.size)))
   |none=>false)
  |_=>false)
 | .pair a b,.inr q=>(match q.1[q.2.1]? with
  |some f=>Nat.beq f.offset q.2.2&&(tA P a (.inl f.type)&&tA P b (.inr (q.1,q.2.1+1,q.2.2+a.size)))
  |none=>false)
 |_,.inr _=>false
theorem gV: ∀{τ:Ty} {x:TypeId ⊕ (Array Field×Nat×Nat)},tA P τ x=true→fT P τ x
 | .int k,.inl t,h=>by
  simp only[tA,bQ]at h
  refine⟨qZ h.1,?_⟩
  have h:=h.2
  split at h
  ·rename_i k' hu;rw[hu,bz h]
  ·cases h
 | .bool,.inl t,h=>by
  simp only[tA,bQ]at h
  refine⟨qZ h.1,?_⟩
  have h:=h.2
  split at h
  ·rename_i hu;exact hu
  ·cases h
 | .str,.inl t,h=>by
  simp only[tA,bQ]at h
  refine⟨qZ h.1,?_⟩
  have h:=h.2
  split at h
  ·rename_i hu;exact hu
  ·cases h
 | .slice e,.inl t,h=>by
  simp only[tA,bQ]at h
  refine⟨qZ h.1,?_⟩
  have h:=h.2
  split at h
  ·rename_i e' hu;exact⟨e',hu,gV h⟩
  ·cases h
 | .arr n e,.inl t,h=>by
  simp only[tA,bQ]at h
  refine⟨qZ h.1,?_⟩
  have h:=h.2
  split at h
  ·rename_i n' e' hu
   simp only[bQ]at h
   obtain⟨h0,h⟩:=h
   rw[fW h0]at hu
   exact⟨e',hu,gV h⟩
  ·cases h
 | .unit,.inl t,h=>by
  simp only[tA,bQ]at h
  refine⟨qZ h.1,?_⟩
  have h:=h.2
  split at h
  ·rename_i fs hu;exact⟨fs,hu,fW h⟩
  ·cases h
 | .unit,.inr (fs,n,o),h=>by simp only[tA]at h;exact fW h
 | .pair a b,.inl t,h=>by
  simp only[tA,bQ]at h
  refine⟨qZ h.1,?_⟩
  have h:=h.2
  split at h
  ·rename_i fs hu
   split at h
   ·rename_i f hf
    simp only[bQ]at h
    exact⟨fs,f,hu,hf,fW h.1,gV h.2.1,gV h.2.2⟩
   ·cases h
  ·cases h
 | .pair a b,.inr (fs,n,o),h=>by
  simp only[tA]at h
  split at h
  ·rename_i f hf
   simp only[bQ]at h
   exact⟨f,hf,fW h.1,gV h.2.1,gV h.2.2⟩
  ·cases h
 | .int _,.inr _,h| .bool,.inr _,h| .str,.inr _,h| .slice _,.inr _,h| .arr _ _,.inr _,h=>by simp[tA]at h
def vh(P:Program):Ty→TypeId ⊕ (Array Field×Nat)→Bool
 | .int _,.inl _| .bool,.inl _| .str,.inl _=>true
 | .unit,.inl t=> !P.stoodInHeld t
 | .unit,.inr _=>true
 | .pair a b,.inl t=> !P.stoodInHeld t&&(match P.underlying t with
  |some (.struct fs)=>(match fs[0]? with
   |some f=>f.name != "_" &&(vh P a (.inl f.type)&&vh P b (.inr (fs,1)))
   |none=>false)
  |_=>false)
 | .pair a b,.inr q=>(match q.1[q.2]? with
  |some f=>f.name != "_" &&(vh P a (.inl f.type)&&vh P b (.inr (q.1,q.2+1)))
  |none=>false)
 |_,_=>false
def Ty.deep:Ty→Nat
 | .pair a b=>a.deep+b.deep+1
 |_=>1
theorem V.ofC{w:World}{M:Nat→Prop}{τ:Ty}{cs:List Value}{x:τ.den}(h:Rd w M τ cs x):V w M τ (VM.cK τ cs) x:=V.cK h
mutual
theorem MX{w:World}{M:Nat→Prop}: ∀{τ:Ty} {t:TypeId} {u v:Value} {x y:τ.den} {d:Nat},kH P τ t→vh P τ (.inl t)=true→V w M τ u x→V w M τ v y→τ.deep≤d→(Op.equalIn d t u v).run P w= .ok (ql τ x y) w
 | .int k,t,u,v,x,y,d+1,hl,_,hx,hy,_=>by
  simp only[V,Ty.isAgg,iY,eT,Rd,fh,eS]at hx hy
  subst hx;subst hy
  rw[run_equalIn_int w d t k k _ _ hl.int];simp only[ql,jx];congr 1
 | .bool,t,u,v,x,y,d+1,hl,_,hx,hy,_=>by
  simp only[V,Ty.isAgg,iY,eT,Rd,fh,eS]at hx hy
  subst hx;subst hy
  rw[run_equalIn_bool w d t _ _ hl.bool];simp only[ql]
 | .str,t,u,v,x,y,d+1,hl,_,hx,hy,_=>by
  simp only[V,Ty.isAgg,iY,eT,Rd,fh,eS]at hx hy
  subst hx;subst hy
  rw[run_equalIn_string w d t _ _ hl.str];simp only[ql,EF];congr 1;rw[oR];simp
 | .slice _,_,_,_,_,_,_,_,h,_,_,_| .arr _ _,_,_,_,_,_,_,_,h,_,_,_=>by simp[vh]at h
 | .unit,t,u,v,x,y,d+1,hl,he,hx,hy,_=>by
  simp only[V,Ty.isAgg,gB]at hx hy
  obtain⟨cs,rfl,_⟩:=hx
  obtain⟨cs',rfl,_⟩:=hy
  simp only[kH,fT]at hl
  obtain⟨_,fs,hu,h0⟩:=hl
  have hfs:P.fieldsOf t=fs:=by simp[Program.fieldsOf,hu]
  rw[run_equalIn_struct w d t cs cs' (by rw[hfs];exact hu) (by simpa [vh]using he),hfs]
  have:fs.toList=[]:=by rw[←LZ,bH];exact h0
  rw[this];simp[Op.eqFields,ql]
 | .pair a b,t,u,v,x,y,d+1,hl,he,hx,hy,hd=>by
  simp only[V,Ty.isAgg,gB]at hx hy
  obtain⟨cs,rfl,hx⟩:=hx
  obtain⟨cs',rfl,hy⟩:=hy
  simp only[kH,fT]at hl
  obtain⟨_,fs,f,hu,hf,ho,yO,PS⟩:=hl
  have hfs:P.fieldsOf t=fs:=by simp[Program.fieldsOf,hu]
  simp only[vh,hu,hf,bQ]at he
  rw[run_equalIn_struct w d t cs cs' (by rw[hfs];exact hu) (by simpa using he.1),hfs]
  have h0:fs.toList=f::fs.toList.drop 1:=by
   have h1:=pS (l:=fs.toList) (i:=0) (by rw[bH];exact(kD.1 hf).1)
   rw[cZ]at h1
   rw[h1];congr 1
   rw[zs];exact(kD.1 hf).2
  simp only[Ty.deep]at hd
  rw[h0]
  have oX:Rd w M (.pair a b) (cs.toList.drop 0) x:=by rw[cZ];exact hx
  have RI:Rd w M (.pair a b) (cs'.toList.drop 0) y:=by rw[cZ];exact hy
  have jy:f.name≠ "_" :=by simpa using he.2.1
  simp only[Op.eqFields,jy,ne_eq,not_false_eq_true,gB]
  exact V9 (off:=0) ho yO he.2.2.1 oX RI ω (λh1 h2=>Wa (n:=1) (fs:=fs) (off:=a.size) PS he.2.2.2 (by rw[gk]at h1;exact h1) (by rw[gk]at h2;exact h2) ω)
 | .int _,_,_,_,_,_,0,_,_,_,_,hd| .bool,_,_,_,_,_,0,_,_,_,_,hd| .str,_,_,_,_,_,0,_,_,_,_,hd| .unit,_,_,_,_,_,0,_,_,_,_,hd| .pair _ _,_,_,_,_,_,0,_,_,_,_,hd=>by simp[Ty.deep]at hd
theorem Wa{w:World}{M:Nat→Prop}: ∀{b:Ty} {fs:Array Field} {n off:Nat} {cs cs':Array Value} {x y:b.den} {d:Nat},fT P b (.inr (fs,n,off))→vh P b (.inr (fs,n))=true→Rd w M b (cs.toList.drop off) x→Rd w M b (cs'.toList.drop off) y→b.deep≤d→
  (Op.eqFields d cs cs' (fs.toList.drop n)).run P w= .ok (ql b x y) w
 | .unit,fs,n,off,cs,cs',x,y,d,hl,_,_,_,_=>by
  simp only[fT]at hl
  rw[kE (by rw[bH];omega)]
  simp[Op.eqFields,ql]
 | .pair a b,fs,n,off,cs,cs',x,y,d,hl,he,hx,hy,hd=>by
  simp only[fT]at hl
  obtain⟨f,hf,ho,yO,PS⟩:=hl
  simp only[vh,hf,bQ]at he
  have h0:fs.toList.drop n=f::fs.toList.drop (n+1):=by
   rw[pS (l:=fs.toList) (i:=n) (by rw[bH];exact(kD.1 hf).1)]
   congr 1
   rw[zs];exact(kD.1 hf).2
  simp only[Ty.deep]at hd
  rw[h0]
  have jy:f.name≠ "_" :=by simpa using he.1
  simp only[Op.eqFields,jy,ne_eq,not_false_eq_true,gB]
  exact V9 ho yO he.2.1 hx hy ω (λh1 h2=>Wa PS he.2.2 h1 h2 ω)
 | .int _,_,_,_,_,_,_,_,_,hl,_,_,_,_| .bool,_,_,_,_,_,_,_,_,hl,_,_,_,_| .str,_,_,_,_,_,_,_,_,hl,_,_,_,_| .slice _,_,_,_,_,_,_,_,_,hl,_,_,_,_| .arr _ _,_,_,_,_,_,_,_,_,hl,_,_,_,_=>by simp[fT]at hl
theorem V9{w:World}{M:Nat→Prop}{a b:Ty}{f:Field}{fs:List Field}{off:Nat}{cs cs':Array Value}{x y:(Ty.pair a b).den}{d:Nat}(ho:f.offset=off)(yO:kH P a f.type)(he:vh P a (.inl f.type)=true)
  (hx:Rd w M (.pair a b) (cs.toList.drop off) x) (hy:Rd w M (.pair a b) (cs'.toList.drop off) y) (hd:a.deep≤d)
  (hr:Rd w M b (cs.toList.drop (off+a.size)) x.2→Rd w M b (cs'.toList.drop (off+a.size)) y.2→(Op.eqFields d cs cs' fs).run P w= .ok (ql b x.2 y.2) w):
  (do let u ←part f.type cs f.offset;let v ←part f.type cs' f.offset;let r ←Op.equalIn d f.type u v;if(!r)=true then pure false else Op.eqFields d cs cs' fs:Sem Bool).run P w= .ok (ql (.pair a b) x y) w:=by
 simp only[Rd]at hx hy
 obtain⟨c1,c2,hc,h1,h2⟩:=hx
 obtain⟨c1',c2',Tu,py,yt⟩:=hy
 subst ho
 have p1:(cs.toList.drop f.offset).take a.size=c1:=by rw[hc,vN h1.length]
 have p2:(cs'.toList.drop f.offset).take a.size=c1':=by rw[Tu,vN py.length]
 have q1:cs.toList.drop (f.offset+a.size)=c2:=by rw[←jG,hc,mX h1.length]
 have q2:cs'.toList.drop (f.offset+a.size)=c2':=by rw[←jG,Tu,mX py.length]
 have r1:=zU yO (w:=w) (M:=M) (cs:=cs) (off:=f.offset) (x:=x.1) (by rw[p1];exact h1)
 have r2:=zU yO (w:=w) (M:=M) (cs:=cs') (off:=f.offset) (x:=y.1) (by rw[p2];exact py)
 have r3:=MX (d:=d) yO he (V.ofC (by rw[p1];exact h1):V w M a (VM.cK a ((cs.toList.drop f.offset).take a.size)) x.1) (V.ofC (by rw[p2];exact py):V w M a (VM.cK a ((cs'.toList.drop f.offset).take a.size)) y.1) hd
 simp only[Sem.run_bind,r1,r2,r3,Result.andThen_ok,ql]
 cases ql a x.1 y.1
 ·simp
 ·simpa using hr (by rw[q1];exact h2) (by rw[q2];exact yt)
end
def ZP(P:Program)(τ:Ty)(t:TypeId):Bool:= !(τ.comparable&&τ.isAgg)||(vh P τ (.inl t)&&(Nat.ble τ.deep 10000&& !P.eqGuardType P.depth t))
theorem ZQ{τ:Ty}{t:TypeId}(hl:kH P τ t)(h:ZP P τ t=true)(hc:τ.comparable=true)(ha:τ.isAgg=true):alr P t τ:=by
 unfold ZP at h
 rw[hc,ha]at h
 simp only[Bool.and_self,bn,tc,bQ,zJ,qC]at h
 obtain⟨h1,h2,h3⟩:=h
 intro w M u v x y b xo yo hx hy
 have he:=MX (d:=10000) hl h1 hx hy h2
 unfold V at hx hy
 rw[aj ha]at hx hy
 obtain⟨cs,rfl,_⟩:=hx
 obtain⟨cs',rfl,_⟩:=hy
 refine⟨?_,?_,?_⟩
 ·cases b<;>simp[eqGuard,h3]
 ·simp only[binOp];simp[Op.equal,Op.maxDepth,he]
 ·simp only[binOp];simp[Op.equal,Op.maxDepth,he]
def amc(P:Program)(l:List (Nat×Ty)):Bool:=l.all λq=>tA P q.2 (.inl q.1)&&ZP P q.2 q.1
end VM
end
section
namespace VM
open Go Go.WideShapes Go.RowKit Go.ChangeShapes
def WF:(τ:Ty)→τ.den→Prop
 | .int k,x=>(Lit.int k x).wf=true
 | .bool,_=>True
 | .str,s=>ByteArray.size s≤maxLen
 | .slice e,l=>List.length l≤maxLen∧ ∀i (h:i<List.length l),WF e (List.get l ⟨i,h⟩)
 | .unit,_=>True
 | .pair a b,x=>WF a x.1∧WF b x.2
 | .arr _ e,l=> ∀i (h:i<List.length l),WF e (List.get l ⟨i,h⟩)
def Ty.pP:Ty→Bool
 | .slice e=>Nat.blt 0 e.size&&e.pP
 | .pair a b=>a.pP&&b.pP
 | .arr _ e=>e.pP
 |_=>true
theorem Wb{α β:Type}{f:α→Option β}: ∀{l:List α} {r:List β},l.mapM f=some r→ ∀x∈l,∃y,f x=some y
 |[],_,_,x,hx=>by cases hx
 |a::l,r,h,x,hx=>by
  rw[zA]at h
  simp only[bind,s7,pure,iw]at h
  obtain⟨y,hy,r',hr,_⟩:=h
  rcases aW.1 hx with rfl|hx
  ·exact⟨y,hy⟩
  ·exact Wb hr x hx
theorem MY{α β:Type}{f:α→Option β}: ∀{l:List α} {r:List β},l.mapM f=some r→r.length=l.length∧ ∀i (h:i<l.length) (h':i<r.length),f l[i]=some r[i]
 |[],r,h=>by simp at h;subst h;exact⟨rfl,λi h=>by cases h⟩
 |a::l,r,h=>by
  rw[zA]at h
  simp only[bind,s7,pure,iw]at h
  obtain⟨y,hy,r',hr,rfl⟩:=h
  obtain⟨h1,h2⟩:=MY hr
  refine⟨by simp[h1],λi hi m4=> ?_⟩
  cases i with
  |zero=>exact hy
  |succ i=>exact h2 i (by simpa using hi) (by simpa using m4)
theorem wz{α:Type}{p:Nat→α→Prop}: ∀n,(∀i,i<n→ ∃x,p i x)→ ∃l:List α,l.length=n∧ ∀i (h:i<l.length),p i (l.get ⟨i,h⟩)
 |0,_=>⟨[],rfl,λi h=>by cases h⟩
 |n+1,h=>by
  obtain⟨l,hl,hp⟩:=wz n (λi hi=>h i ω)
  obtain⟨x,hx⟩:=h n ω
  refine⟨l++[x],by simp[hl],λi hi=> ?_⟩
  simp only[El]
  by_cases e9:i<l.length
  ·rw[Ee e9];exact hp i e9
  ·have lT:i=n:=by simp at hi;omega
   subst lT
   rw[LV ω]
   simp[hl,hx]
section
variable{H:Type}{enc:TypeId×Value→H}{P:Program}{w:World}
theorem kH.cells{τ:Ty}{t:TypeId}(h:kH P τ t):P.cellsOf t=τ.size:=by
 obtain⟨i,hi,hs,_⟩:=h.base
 simp[Program.cellsOf,hi,hs]
theorem Iq{a:Addr}{n:Nat}{cs:List Value}(h:w.cells? 0 a n=some cs):cs.length=n∧ ∀j v,cs[j]? =some v→w.cell? (a.add j)=some v:=by
 unfold World.cells? at h
 rw[aj (bo _)]at h
 obtain⟨h1,h2⟩:=MY h
 rw[vJ]at h1
 refine⟨h1,λj v hj=> ?_⟩
 obtain⟨e9,rfl⟩:=tW.1 hj
 have:=h2 j (by rw[vJ];omega) e9
 rw[Em]at this
 exact this
def Wc(H:Type)(enc:TypeId×Value→H)(P:Program)(w:World)(τ:Ty):TypeId ⊕ (Array Field×Nat×Nat)→Prop
 | .inl t=> ∀(fuel:Nat) (cs:List Value) (d:DataW H×List MemPlace),DataW.trod enc P w 0 (λ_=>true) true fuel t cs=some d→ ∃x:τ.den,Rd w (λ_=>False) τ cs x∧WF τ x
 | .inr q=> ∀(cs:List Value),cs.length=q.2.2+τ.size→(∀f∈q.1.toList,∃fuel d,DataW.trod enc P w 0 (λ_=>true) true fuel f.type ((cs.drop f.offset).take (P.cellsOf f.type))=some d)→ ∃x:τ.den,Rd w (λ_=>False) τ (cs.drop q.2.2) x∧WF τ x
theorem Ir{a b:Ty}{f:Field}{fs:Array Field}{n off:Nat}(hf:fs[n]? =some f)(ho:f.offset=off)(yO:kH P a f.type)(iha:Wc H enc P w a (.inl f.type))(Vr:Wc H enc P w b (.inr (fs,n+1,off+a.size)))
  {cs:List Value} (hc:cs.length=off+(a.size+b.size)) (lx: ∀f∈fs.toList,∃fuel d,DataW.trod enc P w 0 (λ_=>true) true fuel f.type ((cs.drop f.offset).take (P.cellsOf f.type))=some d):
  ∃x:(Ty.pair a b).den,Rd w (λ_=>False) (.pair a b) (cs.drop off) x∧WF (.pair a b) x:=by
 subst ho
 obtain⟨fuel,d,hd⟩:=lx f (by rw[Array.mem_toList_iff];exact Array.mem_of_getElem? hf)
 rw[yO.cells]at hd
 obtain⟨x,hx,hwx⟩:=iha fuel _ d hd
 obtain⟨y,hy,hwy⟩:=Vr cs (by simp only;omega) lx
 refine⟨(x,y),?_,hwx,hwy⟩
 simp only[Rd]
 refine⟨_,_,(gi a.size (cs.drop f.offset)).symm,hx,?_⟩
 rw[jG];exact hy
theorem ur: ∀{τ:Ty} {x:TypeId ⊕ (Array Field×Nat×Nat)},fT P τ x→τ.pP=true→Wc H enc P w τ x
 | .int k,.inl t,hl,_=>by
  intro fuel cs d h
  simp only[fT]at hl
  obtain⟨n,rfl,_,hw⟩:=DataW.trod_int hl.2 h
  exact⟨n,rfl,hw⟩
 | .bool,.inl t,hl,_=>by
  intro fuel cs d h
  simp only[fT]at hl
  obtain⟨b,rfl,_⟩:=DataW.trod_bool hl.2 h
  exact⟨b,rfl,trivial⟩
 | .str,.inl t,hl,_=>by
  intro fuel cs d h
  simp only[fT]at hl
  obtain⟨s,rfl,_,hs⟩:=DataW.trod_string hl.2 h
  exact⟨s,rfl,hs⟩
 | .slice e,.inl t,hl,hs=>by
  intro fuel cs d h
  simp only[fT]at hl
  obtain⟨_,e',hu,hle⟩:=hl
  simp only[Ty.pP,bQ,zI]at hs
  have ih:=ur hle hs.2
  have s0:P.cellsOf e'=e.size:=kH.cells hle
  rcases DataW.trod_slice hu h with⟨rfl,_⟩|⟨a,len,cap,elems,rest,n,_,rfl,_,_,Zi,DT,hel,lx,_⟩
  ·refine⟨[],?_,bo _,λi h=>by cases h⟩
   simp only[Rd]
   exact⟨none,0,rfl,aG _,λi h=>by cases h⟩
  ·rw[s0]at lx
   have get: ∀i,i<len→ ∃cs' y,w.cells? 0 (a.add (i*e.size)) e.size=some cs'∧DataW.trod enc P w 0 (λ_=>true) true n e' cs'=some y:=λi hi=>by
    have:=lx i hi
    rw[bk ω]at this
    obtain⟨cs',h1,h2⟩:=s7.1 this
    exact⟨cs',_,h1,h2⟩
   have key: ∀i,i<len→ ∃x:e.den,(a.spot=none∧a.block<w.heap.size∧ ∃cs',At w a.block (a.off+i*e.size) cs'∧Rd w (λ_=>False) e cs' x)∧WF e x:=by
    intro i hi
    obtain⟨cs',y,JV,ht⟩:=get i hi
    obtain⟨h1,h2⟩:=Iq JV
    obtain⟨x,hx,hw⟩:=ih n cs' y ht
    have hsp:a.spot=none∧a.block<w.heap.size:=by
     obtain⟨sm,y0,arv,_⟩:=get 0 ω
     obtain⟨h10,h20⟩:=Iq arv
     have:=h20 0 sm[0] (bk ω)
     simp only[Nat.zero_mul,Addr.add,gB,World.cell?]at this
     split at this
     ·rename_i hb
      refine⟨?_,(kD.1 hb).1⟩
      split at this
      ·cases this
      ·rename_i hn;simpa using hn
     ·cases this
    refine⟨x,⟨hsp.1,hsp.2,cs',λj v hj=> ?_,hx⟩,hw⟩
    have:=h2 j v hj
    have he:(a.add (i*e.size)).add j=⟨a.block,a.off+i*e.size+j,none⟩:=by
     obtain⟨ab,ao,asp⟩:=a
     simp only at hsp
     obtain⟨rfl,_⟩:=hsp
     simp only[Addr.add]
     split<;>split<;>simp_all<;>omega
    rw[he]at this
    exact this
   obtain⟨l,hl,hp⟩:=wz len key
   refine⟨l,?_,by rw[hl];omega,λi h=>(hp i h).2⟩
   simp only[Rd]
   refine⟨some a,cap,by rw[hl],by rw[hl];exact Zi,λi h=> ?_⟩
   obtain⟨h1,h2,cs',h3,h4⟩:=(hp i h).1
   refine⟨a.block,a.off,?_,h2,λh=>h,cs',h3,h4⟩
   rw[←h1]
 | .unit,.inl t,hl,_=>by
  intro fuel cs d h
  simp only[fT]at hl
  obtain⟨⟨i,hi,s0,_⟩,fs,hu,h0⟩:=hl
  obtain⟨xs,n,_,_,hc,_⟩:=DataW.trod_struct hu h
  refine⟨(),?_,trivial⟩
  simp only[Rd]
  rw[←LZ,hc]
  simp[Program.cellsOf,hi,s0,Ty.size]
 | .unit,.inr q,hl,_=>by
  intro cs hc _
  refine⟨(),?_,trivial⟩
  simp only[Rd]
  rw[kE (by rw[hc];simp[Ty.size])]
 | .pair a b,.inl t,hl,hs=>by
  intro fuel cs d h
  simp only[fT]at hl
  obtain⟨⟨i,hi,s0,_⟩,fs,f,hu,hf,ho,yO,PS⟩:=hl
  simp only[Ty.pP,bQ]at hs
  have iha:=ur yO hs.1
  have Vr:=ur PS hs.2
  obtain⟨xs,n,_,_,hc,hxl,hxs⟩:=DataW.trod_struct hu h
  have:=Ir (b:=b) (off:=0) hf ho yO iha (by simp only[gk];exact Vr) (cs:=cs) (by rw[hc];simp[Program.cellsOf,hi,s0,Ty.size]) (λf hf=>by
   obtain⟨j,hj,rfl⟩:=qy.1 hf
   rw[bH]at hj
   have:=hxs j fs[j] (by simp[hj])
   rw[bk ω]at this
   exact⟨n,_,by rw[zs];exact this⟩)
  rw[cZ]at this
  exact this
 | .pair a b,.inr (fs,n,off),hl,hs=>by
  intro cs hc lx
  simp only[fT]at hl
  obtain⟨f,hf,ho,yO,PS⟩:=hl
  simp only[Ty.pP,bQ]at hs
  exact Ir hf ho yO (ur yO hs.1) (ur PS hs.2) (by simpa [Ty.size]using hc) lx
 | .arr n e,.inl t,hl,hs=>by
  intro fuel cs d h
  simp only[fT]at hl
  obtain⟨⟨i,hi,s0,_⟩,e',hu,hle⟩:=hl
  simp only[Ty.pP]at hs
  have ih:=ur hle hs
  have hse:P.cellsOf e'=e.size:=kH.cells hle
  obtain⟨xs,m,_,_,hc,hxl,hxs⟩:=DataW.trod_array hu h
  have hlen:cs.length=n*e.size:=by rw[hc];simp[Program.cellsOf,hi,s0,Ty.size]
  have key: ∀i,i<n→ ∃x:e.den,Rd w (λ_=>False) e ((cs.drop (i*e.size)).take e.size) x∧WF e x:=λi hi=>by
   have:=hxs i hi
   rw[bk ω,hse]at this
   exact ih m _ _ this
  obtain⟨l,G9,hp⟩:=wz n key
  refine⟨l,?_,λi h=>(hp i h).2⟩
  simp only[Rd]
  refine⟨G9,(List.range n).map λi=>(cs.drop (i*e.size)).take e.size,by simp,?_,λi h h'=> ?_⟩
  ·clear hxs h key hp G9 hu
   have: ∀m,m≤n→cs.take (m*e.size)=((List.range m).map λi=>(cs.drop (i*e.size)).take e.size).flatten:=by
    intro m
    induction m with
    |zero=>simp
    |succ m ihm=>
     intro hm
     rw[Eu,cY,List.flatten_append,←ihm ω]
     simp only[bX,ja,zv,List.flatten_nil,ch]
     rw[et,jV,List.take_add]
   have h2:=this n (aG _)
   rw[jF ω]at h2
   exact h2
  ·have:=(hp i h).1
   simpa using this
 | .int _,.inr _,h,_| .bool,.inr _,h,_| .str,.inr _,h,_| .slice _,.inr _,h,_| .arr _ _,.inr _,h,_=>by simp[fT]at h
theorem ahx{τ:Ty}{t:TypeId}{r:Reach}{b0:Nat}{v:Value}{d:DataW H}{ps:List MemPlace}(hl:kH P τ t)(hs:τ.pP=true)(hv:Value.okWide P w r b0 t v)(h:DataW.Trod enc P w 0 (λ_=>true) true t v d ps):
  ∃x:τ.den,V w (λ_=>False) τ v x∧WF τ x:=by
 obtain⟨fuel,h⟩:=h
 obtain⟨x,hx,hw⟩:=ur (H:=H) (enc:=enc) (w:=w) hl hs fuel _ _ h
 refine⟨x,?_,hw⟩
 unfold V
 cases τ with
 |int k=>
  obtain⟨n,rfl⟩:=okWide_int hl.int hv
  exact hx
 |bool=>
  obtain⟨n,rfl⟩:=okWide_bool hl.bool hv
  exact hx
 |str=>
  obtain⟨n,rfl⟩:=okWide_string hl.str hv
  exact hx
 |slice e=>
  obtain⟨e',hu,_⟩:=hl.slice
  obtain⟨a,len,cap,rfl⟩:=okWide_slice hu hv
  exact hx
 |unit=>
  simp only[kH,fT]at hl
  obtain⟨_,fs,hu,_⟩:=hl
  simp only[Value.okWide,hu]at hv
  obtain⟨cs,rfl,_⟩:=hv
  exact⟨cs,rfl,hx⟩
 |pair a b=>
  simp only[kH,fT]at hl
  obtain⟨_,fs,f,hu,_⟩:=hl
  simp only[Value.okWide,hu]at hv
  obtain⟨cs,rfl,_⟩:=hv
  exact⟨cs,rfl,hx⟩
 |arr n e=>
  obtain⟨e',hu,_⟩:=hl.arr
  simp only[Value.okWide,hu]at hv
  obtain⟨cs,rfl,_⟩:=hv
  exact⟨cs,rfl,hx⟩
def WFs:(ms:List Ty)→HP (ms.map .v)→Prop
 |[],_=>True
 |_::ms,x=>WF _ (s4 x)∧WFs ms (ya x)
def hpC:{m:AM}→{ms:List AM}→m.den→HP ms→HP (m::ms)
 |_,[],x,_=>x
 |_,_::_,x,y=>(x,y)
theorem RJ{m:AM}: ∀{ms:List AM} (x:m.den) (y:HP ms),s4 (hpC x y)=x
 |[],_,_=>rfl
 |_::_,_,_=>rfl
theorem RK{m:AM}: ∀{ms:List AM} (x:m.den) (y:HP ms),ya (hpC x y)=y
 |[],_,()=>rfl
 |_::_,_,_=>rfl
theorem Is(laid:laidOutB P=true){r:Reach}{b0:Nat}: ∀{τs:List Ty} {ts:List TypeId} {vs:List Value} {ds:List (DataW H)} {ps:List MemPlace},DataW.TrodAll enc P w 0 (λ_=>true) true ts vs ds ps→
  τs.length=ts.length→(∀(j:Nat) τ t,τs[j]? =some τ→ts[j]? =some t→(kH P τ t∧τ.pP=true∧P.readableRec t=true∧t<P.types.size))→
  (∀(j:Nat) t v,ts[j]? =some t→vs[j]? =some v→Value.okWide P w r b0 t v)→
  (∃x:HP (τs.map .v),jH w (λ_=>False) (τs.map .v) x vs∧WFs τs x)∧ ∀w',Below w.heap.size w w'→ ∃Ha,DataW.TrodAll enc P w' 0 (λb=>decide (b<w.heap.size)) true ts vs ds Ha
 |[],[],vs,ds,ps,h,_,_,_=>by
  obtain⟨rfl,rfl,rfl⟩:=trodAll_nil h
  exact⟨⟨(),rfl,trivial⟩,λw' _=>⟨[],rfl⟩⟩
 |τ::τs,t::ts,vs,ds,ps,h,hl,EO,hv=>by
  obtain⟨v,LC,d,ds',p,q,rfl,rfl,rfl,h1,h2⟩:=trodAll_cons h
  obtain⟨zW,ahy,hrr,e9⟩:=EO 0 τ t rfl rfl
  obtain⟨x,hx,hwx⟩:=ahx zW ahy (hv 0 t v rfl rfl) h1
  obtain⟨⟨y,hy,hwy⟩,Wd⟩:=Is laid h2 (by simpa using hl) (λj τ' t' h h'=>EO (j+1) τ' t' (by simpa using h) (by simpa using h')) (λj t' v' h h'=>hv (j+1) t' v' (by simpa using h) (by simpa using h'))
  refine⟨⟨hpC (m:= .v τ) x y,?_,?_⟩,λw' hb=> ?_⟩
  ·show jH w _ (.v τ::τs.map .v) _ _
   simp only[jH]
   exact⟨v,LC,rfl,by rw[RJ];exact hx,by rw[RK];exact hy⟩
  ·simp only[WFs]
   exact⟨by rw[RJ];exact hwx,by rw[RK];exact hwy⟩
  ·obtain⟨Ha,h'⟩:=Wd w' hb
   have wm: ∀z∈p,z.block<w.heap.size:=by
    obtain⟨m,hm⟩:=h1
    exact DataW.trod_lt m _ _ _ hm
   exact⟨p++Ha,trodAll_cons_mk (Below.trod laid hrr e9 h1 hb wm) h'⟩
 |[],_::_,_,_,_,_,hl,_,_|_::_,[],_,_,_,_,hl,_,_=>by simp at hl
end
end VM
end
section
namespace VM
open Go
variable{α:Type}
def Ai(L:Nat→Option (List (Nat×CM)))(κ:Nat→St→Option α)(i:Option Nat)(f:St→Option α):St→Option α:=
 match i with
 |none=>f
 |some i=>match L i with
  |none=>f
  |some _=>κ i
def We(E:Env)(κJ κL:Nat→St→Option α)(c:Code):St→(St→Option α)→(Nat→St→Option α)→(St→Option α)→Option α:=
 Code.rec (motive:=λ_=>St→(St→Option α)→(Nat→St→Option α)→(St→Option α)→Option α)
  (fun σ k _ _=>k σ)
  (λ_ ops draw σ k _ _=>DP E ops draw σ k)
  (λ_ b A B σ k kx kr=>A σ (fun σ'=>wa ((cL b).bind E.xT) σ' (Ai E.xT κJ (cL b) λvq=>B vq k kx kr)) kx kr)
  (λc _ _ A B σ k kx kr=>H5 E c σ (fun σ'=>A σ' k kx kr) (fun σ'=>B σ' k kx kr))
  (λid _ A σ k kx kr=>A σ k (λi σ'=>cond (Nat.beq i id) (k σ') (kx i σ')) kr)
  (λb _ σ _ kx kr=>wa ((cL b).bind E.vW) σ (Ai E.vW κL (cL b) (Ck ((cL b).bind E.vW) (fun σ' kn=>DQ E b σ' kn kx kr) E.N)))
  (λ_ _ _ _ _ _ _ _ _ _=>none)
  (λid σ _ kx _=>kx id σ)
  (λ_ A σ k kx kr=>A σ k kx kr)
  (λ_ σ k _ _=>k σ)
  (λ_ _ _ _ _=>none)
  (fun σ _ _ kr=>kr σ)
  (λ_ _ _ _ _=>none)
  c
def Fa(E:Env)(c:Code):(St→Option α)→(Nat→St→Option α)→(St→Option α)→List (Bool×Nat×(St→Option α)):=
 Code.rec (motive:=λ_=>(St→Option α)→(Nat→St→Option α)→(St→Option α)→List (Bool×Nat×(St→Option α)))
  (λ_ _ _=>[])
  (λ_ _ _ _ _ _=>[])
  (λ_ b A B k kx kr=>A (fun σ'=>wa ((cL b).bind E.xT) σ' λvq=>DQ E b vq k kx kr) kx kr++(((cL b).toList.map λi=>(false,i,λvq=>DQ E b vq k kx kr))++B k kx kr))
  (λ_ _ _ A B k kx kr=>A k kx kr++B k kx kr)
  (λid _ A k kx kr=>A k (λi σ'=>cond (Nat.beq i id) (k σ') (kx i σ')) kr)
  (λb _ _ kx kr=>(cL b).toList.map λi=>(true,i,Ck ((cL b).bind E.vW) (fun σ' kn=>DQ E b σ' kn kx kr) E.N))
  (λ_ _ _ _ _ _ _ _ _=>[])
  (λ_ _ _ _=>[])
  (λ_ A k kx kr=>A k kx kr)
  (λ_ _ _ _=>[])
  (λ_ _ _ _=>[])
  (λ_ _ _=>[])
  (λ_ _ _ _=>[])
  c
def wA(E:Env)(κJ κL:Nat→St→Option α):List (Bool×Nat×(St→Option α))→List ((St→Option α)×(St→Option α))
 |[]=>[]
 |q::r=>match q.1 with
  |false=>match E.xT q.2.1 with
   |some _=>(κJ q.2.1,q.2.2)::wA E κJ κL r
   |none=>wA E κJ κL r
  |true=>match E.vW q.2.1 with
   |some _=>(κL q.2.1,q.2.2)::wA E κJ κL r
   |none=>wA E κJ κL r
def HA(E:Env)(κJ κL:Nat→St→Option α)(l:List (Bool×Nat×(St→Option α))):Prop:= ∀p∈wA E κJ κL l,p.1=p.2
theorem ahz{E:Env}{κJ κL:Nat→St→Option α}{l:List (Bool×Nat×(St→Option α))}(g:List (St→Option α))(h:wA E κJ κL l=g.map λf=>(f,f)):HA E κJ κL l:=by
 intro p hp
 rw[h]at hp
 obtain⟨f,_,rfl⟩:=cA.1 hp
 rfl
theorem CC{E:Env}{κJ κL:Nat→St→Option α}: ∀(l m:List (Bool×Nat×(St→Option α))),wA E κJ κL (l++m)=wA E κJ κL l++wA E κJ κL m
 |[],m=>rfl
 |(b,i,f)::l,m=>by
  have ih:=CC (E:=E) (κJ:=κJ) (κL:=κL) l m
  cases b<;>simp only[kF,wA]<;>split<;>simp[ih]
theorem HA.app{E:Env}{κJ κL:Nat→St→Option α}{l m:List (Bool×Nat×(St→Option α))}(h:HA E κJ κL (l++m)):HA E κJ κL l∧HA E κJ κL m:=by
 unfold HA at*
 rw[CC]at h
 exact⟨λp hp=>h p (cU _ hp),λp hp=>h p (dA _ hp)⟩
theorem afU{E:Env}{κJ κL:Nat→St→Option α}{i:Option Nat}{f:St→Option α}(h:HA E κJ κL (i.toList.map λi=>(false,i,f))):Ai E.xT κJ i f=f:=by
 cases i with
 |none=>rfl
 |some i=>
  simp only[Option.toList,List.map,HA,wA]at h
  unfold Ai
  cases hL:E.xT i with
  |none=>simp[hL]
  |some L=>rw[hL]at h;simp only[hL];exact h (κJ i,f) (bW.2 rfl)
theorem amf{E:Env}{κJ κL:Nat→St→Option α}{i:Option Nat}{f:St→Option α}(h:HA E κJ κL (i.toList.map λi=>(true,i,f))):Ai E.vW κL i f=f:=by
 cases i with
 |none=>rfl
 |some i=>
  simp only[Option.toList,List.map,HA,wA]at h
  unfold Ai
  cases hL:E.vW i with
  |none=>simp[hL]
  |some L=>rw[hL]at h;simp only[hL];exact h (κL i,f) (bW.2 rfl)
theorem Wf{E:Env}{κJ κL:Nat→St→Option α}(c:Code): ∀(k:St→Option α) (kx:Nat→St→Option α) (kr:St→Option α) (σ:St),HA E κJ κL (Fa E c k kx kr)→We E κJ κL c σ k kx kr=DQ E c σ k kx kr:=by
 induction c with
 |skip=>intros;rfl
 |region=>intros;rfl
 |seq a b iha Vr=>
  intro k kx kr σ h
  obtain⟨h1,h2⟩:=HA.app (h:HA E κJ κL (Fa E a _ kx kr++(((cL b).toList.map λi=>(false,i,λvq=>DQ E b vq k kx kr))++Fa E b k kx kr)))
  obtain⟨h2,h3⟩:=HA.app h2
  show We E κJ κL a σ (fun σ'=>wa ((cL b).bind E.xT) σ' (Ai E.xT κJ (cL b) λvq=>We E κJ κL b vq k kx kr)) kx kr=DQ E a σ (fun σ'=>wa ((cL b).bind E.xT) σ' λvq=>DQ E b vq k kx kr) kx kr
  have hb:(λvq=>We E κJ κL b vq k kx kr)=λvq=>DQ E b vq k kx kr:=funext λvq=>Vr k kx kr vq h3
  rw[hb,afU h2]
  exact iha _ _ _ _ h1
 |cond x a b iha Vr=>
  intro k kx kr σ h
  obtain⟨h1,h2⟩:=HA.app (h:HA E κJ κL (Fa E a k kx kr++Fa E b k kx kr))
  show H5 E x σ (fun σ'=>We E κJ κL a σ' k kx kr) (fun σ'=>We E κJ κL b σ' k kx kr)=H5 E x σ (fun σ'=>DQ E a σ' k kx kr) (fun σ'=>DQ E b σ' k kx kr)
  rw[show(fun σ'=>We E κJ κL a σ' k kx kr)=fun σ'=>DQ E a σ' k kx kr from funext fun σ'=>iha k kx kr σ' h1,show(fun σ'=>We E κJ κL b σ' k kx kr)=fun σ'=>DQ E b σ' k kx kr from funext fun σ'=>Vr k kx kr σ' h2]
 |block id x ih=>intro k kx kr σ h;exact ih _ _ _ σ h
 |loop b _=>
  intro k kx kr σ h
  show wa ((cL b).bind E.vW) σ (Ai E.vW κL (cL b) (Ck ((cL b).bind E.vW) (fun σ' kn=>DQ E b σ' kn kx kr) E.N))=wa ((cL b).bind E.vW) σ (Ck ((cL b).bind E.vW) (fun σ' kn=>DQ E b σ' kn kx kr) E.N)
  rw[amf (h:HA E κJ κL ((cL b).toList.map λi=>(true,i,_)))]
 |rangeFunc=>intros;rfl
 |exit=>intros;rfl
 |scope x ih=>intro k kx kr σ h;exact ih _ _ _ σ h
 |label=>intros;rfl
 |goto=>intros;rfl
 |ret=>intros;rfl
 |refuse=>intros;rfl
def nV(E:Env)(κJ κL:Nat→St→Option α):List Nat→Code→List (St→Option α)→St→(St→Option α)→(Nat→St→Option α)→(St→Option α)→Option α
 |[],c,_,σ,k,kx,kr=>We E κJ κL c σ k kx kr
 |n::p,c,ks,σ,k,kx,kr=>match c with
  | .seq a b=>match n with
   |0=>nV E κJ κL p a ks σ (fun σ'=>wa ((cL b).bind E.xT) σ' (Ai E.xT κJ (cL b) λvq=>We E κJ κL b vq k kx kr)) kx kr
   |_=>nV E κJ κL p b ks σ k kx kr
  | .cond _ a b=>match n with
   |0=>nV E κJ κL p a ks σ k kx kr
   |_=>nV E κJ κL p b ks σ k kx kr
  | .block id c=>nV E κJ κL p c ks σ k (λi σ'=>cond (Nat.beq i id) (k σ') (kx i σ')) kr
  | .loop b=>match ks with
   |κ::ks=>nV E κJ κL p b ks σ κ kx kr
   |[]=>none
  | .scope c=>nV E κJ κL p c ks σ k kx kr
  |_=>none
def gW(E:Env):List Nat→Code→List (St→Option α)→(St→Option α)→(Nat→St→Option α)→(St→Option α)→List (Bool×Nat×(St→Option α))
 |[],c,_,k,kx,kr=>Fa E c k kx kr
 |n::p,c,ks,k,kx,kr=>match c with
  | .seq a b=>match n with
   |0=>((cL b).toList.map λi=>(false,i,λvq=>DQ E b vq k kx kr))++(Fa E b k kx kr++gW E p a ks (fun σ'=>wa ((cL b).bind E.xT) σ' λvq=>DQ E b vq k kx kr) kx kr)
   |_=>gW E p b ks k kx kr
  | .cond _ a b=>match n with
   |0=>gW E p a ks k kx kr
   |_=>gW E p b ks k kx kr
  | .block id c=>gW E p c ks k (λi σ'=>cond (Nat.beq i id) (k σ') (kx i σ')) kr
  | .loop b=>match ks with
   |κ::ks=>gW E p b ks κ kx kr
   |[]=>[]
  | .scope c=>gW E p c ks k kx kr
  |_=>[]
theorem m9{E:Env}{κJ κL:Nat→St→Option α}: ∀(p:List Nat) (c:Code) (ks:List (St→Option α)) (k:St→Option α) (kx:Nat→St→Option α) (kr:St→Option α) (σ:St),HA E κJ κL (gW E p c ks k kx kr)→
  nV E κJ κL p c ks σ k kx kr=vr E p c ks σ k kx kr
 |[],c,ks,k,kx,kr,σ,h=>Wf c k kx kr σ h
 |n::p,c,ks,k,kx,kr,σ,h=>by
  cases c with
  |seq a b=>
   cases n with
   |zero=>
    simp only[nV,vr,gW]at h ⊢
    obtain⟨h1,h2⟩:=HA.app h
    obtain⟨h2,h3⟩:=HA.app h2
    rw[show(λvq=>We E κJ κL b vq k kx kr)=λvq=>DQ E b vq k kx kr from funext λvq=>Wf b k kx kr vq h2,afU h1]
    exact m9 p a ks _ kx kr σ h3
   |succ n=>simp only[nV,vr,gW]at h ⊢;exact m9 p b ks k kx kr σ h
  |cond x a b=>
   cases n with
   |zero=>simp only[nV,vr,gW]at h ⊢;exact m9 p a ks k kx kr σ h
   |succ n=>simp only[nV,vr,gW]at h ⊢;exact m9 p b ks k kx kr σ h
  |block id x=>simp only[nV,vr,gW]at h ⊢;exact m9 p x ks k _ kr σ h
  |loop b=>
   cases ks with
   |nil=>simp only[nV,vr]
   |cons κ ks=>simp only[nV,vr,gW]at h ⊢;exact m9 p b ks κ kx kr σ h
  |scope x=>simp only[nV,vr,gW]at h ⊢;exact m9 p x ks k kx kr σ h
  |_=>simp only[nV,vr]
def Fb(fn:Func):Code:=fn.body.getD .skip
def MZ(E:Env)(fn:Func)(args res:List AM):St→Option (HP res):=fun σ=>JO E res (fn.results.toList.map .inl++yE args 0) σ some
def nox:Nat→St→Option α:=λ_ _=>none
def ayz:St→Option α:=λ_=>none
def atF(E:Env)(fn:Func)(args res:List AM)(p:List Nat)(ks:List (St→Option (HP res)))(σ:St):Option (HP res):=
 vr E p (Fb fn) ks σ (MZ E fn args res) nox (MZ E fn args res)
def atQ(E:Env)(fn:Func)(args res:List AM)(κJ κL:Nat→St→Option (HP res))(p:List Nat)(ks:List (St→Option (HP res)))(σ:St):Option (HP res):=
 nV E κJ κL p (Fb fn) ks σ (MZ E fn args res) nox (MZ E fn args res)
def ZR(E:Env)(fn:Func)(args res:List AM)(p:List Nat)(ks:List (St→Option (HP res))):List (Bool×Nat×(St→Option (HP res))):=
 gW E p (Fb fn) ks (MZ E fn args res) nox (MZ E fn args res)
theorem arx{E:Env}{fn:Func}{args res:List AM}{κJ κL:Nat→St→Option (HP res)}{p:List Nat}{ks:List (St→Option (HP res))}(g:List (St→Option (HP res)))(h:wA E κJ κL (ZR E fn args res p ks)=g.map λf=>(f,f))(σ:St):
 atF E fn args res p ks σ=atQ E fn args res κJ κL p ks σ:=(m9 p _ ks _ _ _ σ (ahz g h)).symm
theorem ahB{E:Env}{fn:Func}{args res:List AM}(hb:fn.body.isSome=true)(x:HP args):PJ E fn args res x=atF E fn args res [] [] (entry args x 0 S0):=by
 unfold PJ atF Fb
 cases h:fn.body with
 |none=>rw[h]at hb;cases hb
 |some c=>rfl
def lpF(E:Env)(fn:Func)(args res:List AM)(c:List (Nat×CM))(p:List Nat)(ks:List (St→Option (HP res)))(n:Nat):St→Option (HP res):=
 Ck (some c) (fun σ kn=>atF E fn args res p (ks++[kn]) σ) n
theorem Wg(E:Env)(fn:Func)(args res:List AM)(c:List (Nat×CM))(p:List Nat)(ks:List (St→Option (HP res)))(n:Nat)(σ:St):
 lpF E fn args res c p ks (n+1) σ=atF E fn args res p (ks++[fun σ'=>wa (some c) σ' (lpF E fn args res c p ks n)]) σ:=rfl
def Wh{β:Type}(κ:Nat→β):List (Nat×β)→Prop
 |[]=>True
 |q::r=>κ q.1=q.2∧Wh κ r
def Tv{β:Type}:List (β×β)→Prop
 |[]=>True
 |q::r=>q.1=q.2∧Tv r
theorem Tv.mem{β:Type}: ∀{l:List (β×β)},Tv l→ ∀p∈l,p.1=p.2
 |q::r,h,p,hp=>by
  rcases aW.1 hp with rfl|hp
  ·exact h.1
  ·exact Tv.mem h.2 p hp
theorem amg{β:Type}(d:β): ∀(l:List (Nat×β)),(l.map (·.1)).Nodup→ ∃κ:Nat→β,Wh κ l
 |[],_=>⟨λ_=>d,trivial⟩
 |q::r,h=>by
  rw[bX,zz]at h
  obtain⟨κ,hκ⟩:=amg d r h.2
  refine⟨λi=>if i=q.1 then q.2 else κ i,by simp,?_⟩
  have key: ∀(r':List (Nat×β)),(∀p∈r',p∈r)→Wh κ r'→Wh (λi=>if i=q.1 then q.2 else κ i) r':=by
   intro r'
   induction r' with
   |nil=>intros;trivial
   |cons p r' ih=>
    intro hm ha
    refine⟨?_,ih (λp' Rt=>hm p' (aZ _ Rt)) ha.2⟩
    have jy:p.1≠q.1:=λe=>h.1 (e▸eL (hm p (bm ..)))
    show(if p.1=q.1 then q.2 else κ p.1)=p.2
    rw[ah jy]
    exact ha.1
  exact key r (λ_ h=>h) hκ
theorem awl{β:Type}(d:β)(l:List (Nat×β)){ks:List Nat}(h:l.map (·.1)=ks)(hd:ks.Nodup): ∃κ:Nat→β,Wh κ l:=amg d l (h▸hd)
theorem at_eq(E:Env)(fn:Func)(args res:List AM){κJ κL:Nat→St→Option (HP res)}{p:List Nat}{ks:List (St→Option (HP res))}{l:List ((St→Option (HP res))×(St→Option (HP res)))}(h:wA E κJ κL (ZR E fn args res p ks)=l)(hl:Tv l)(σ:St):
 atF E fn args res p ks σ=atQ E fn args res κJ κL p ks σ:=(m9 p _ ks _ _ _ σ (by unfold HA;rw[show wA E κJ κL (gW E p (Fb fn) ks (MZ E fn args res) nox (MZ E fn args res))=l from h];exact hl.mem)).symm
end VM
end
section
namespace VM
open Go Go.RowKit
variable{P:Program}
def M4(i:Nat):List (Nat×Ty)→Option Ty
 |[]=>none
 |q::r=>cond (Nat.beq i q.1) (some q.2) (M4 i r)
theorem It{i:Nat}{τ:Ty}: ∀{l:List (Nat×Ty)},M4 i l=some τ→(i,τ)∈l
 |q::r,h=>by
  unfold M4 at h
  cases hb:Nat.beq i q.1<;>rw[hb]at h
  ·exact aZ _ (It h)
  ·cases h;rw[fW hb];exact bm ..
structure Fc(P:Program)(tab:List (Nat×Ty)):Prop where
 ok:amc P tab=true
 mixed:P.follows .mixedOrders=true
theorem Tw{E:Env}(hE:tx P E)(arz:E.io=[]){f:FuncId}{fn:Func}(hf:P.funcs[f]? =some fn)(τs:List Ty)
  (hc:(Nat.beq E.nt fn.ntmps&&Nat.ble τs.length E.nt)=true) {w:World} {vs:List Value} {x:HP (τs.map .v)} (hA:jH w (λ_=>False) (τs.map .v) x vs)
  (h:PJ E fn (τs.map .v) [.v .bool] x=some true):Calls P f vs.toArray w λe w'=>e= .returned (.bool true)∧Below w.heap.size w w':=by
 rw[bQ]at hc
 have hnt:=fW hc.1
 have hlen:=Ej hc.2
 have hh: ∀(τs:List Ty) (vs:List Value),dO (τs.map .v) vs=[]:=by
  intro τs
  induction τs with
  |nil=>intro vs;cases vs<;>rfl
  |cons τ τs ih=>intro vs;cases vs with
   |nil=>rfl
   |cons v vs=>simp[dO,c9,ih]
 have hi: ∀(τs:List Ty) (vs:List Value),fm (τs.map .v) vs=[]:=by
  intro τs
  induction τs with
  |nil=>intro vs;cases vs<;>rfl
  |cons τ τs ih=>intro vs;cases vs with
   |nil=>rfl
   |cons v vs=>simp[fm,AM.iE,ih]
 refine(Ip (M0:=λ_=>False) (vs:=vs) hE hf hnt (λi m hm vf=> ?_) (λi hi=>by rw[arz]at hi;cases hi) (by rw[ct];rw[←hnt];exact hlen) (λb hb=>hb.elim) (by rw[hh];simpa using hA) (by rw[hh];exact List.nodup_nil) (λb _ hb=>hb) h).mono ?_
 ·rw[pV]at hm
  obtain⟨τ,_,rfl⟩:=zq.1 hm
  cases vf
 ·rintro e w' ⟨v,rfl,us,M',rfl,Ve,hL,_,_⟩
  rw[hh]at hL
  rw[hi]at Ve
  simp only[RR]at Ve
  rcases Ve with⟨p,Ha,h1,_⟩|⟨v,LC,_,_,rfl,hv,rfl,_⟩
  ·cases h1
  ·refine⟨?_,hL.os,hL.tape,hL.output,hL.size,λb hb=>hL.frame b hb (by simp)⟩
   have:v= .bool true:=by
    simp only[A1,V,Ty.isAgg,iY,eT,Rd,fh,eS]at hv
    exact hv
   rw[this];rfl
def Wi(P:Program):List Ty→List TypeId→Bool
 |[],[]=>true
 |τ::τs,t::ts=>(tA P τ (.inl t)&&τ.pP)&&((P.readableRec t&&decide (t<P.types.size))&&Wi P τs ts)
 |_,_=>false
theorem Kd: ∀{τs:List Ty} {ts:List TypeId},Wi P τs ts=true→τs.length=ts.length∧ ∀(j:Nat) τ t,τs[j]? =some τ→ts[j]? =some t→(kH P τ t∧τ.pP=true∧P.readableRec t=true∧t<P.types.size)
 |[],[],_=>⟨rfl,λj τ t h=>by simp at h⟩
 |τ::τs,t::ts,h=>by
  simp only[Wi,bQ]at h
  obtain⟨⟨h1,h2⟩,⟨h3,h4⟩,h5⟩:=h
  obtain⟨hl,ih⟩:=Kd h5
  refine⟨by simp[hl],λj τ' t' ha hb=> ?_⟩
  cases j with
  |zero=>
   simp only[L0,iw]at ha hb
   subst ha;subst hb
   exact⟨gV h1,h2,h3,bz h4⟩
  |succ j=>exact ih j τ' t' (by simpa using ha) (by simpa using hb)
 |[],_::_,h|_::_,[],h=>by simp[Wi]at h
theorem Wj{H:Type}{enc:TypeId×Value→H}{w:World}{fn:Func}{args:Array Value}{ds:List (DataW H)}{ps:List MemPlace}{r:Reach}{b0:Nat}(laid:laidOutB P=true)(τs:List Ty)
  (hA:DataW.TrodAll enc P w 0 (λ_=>true) true fn.params.toList args.toList ds ps) (EO:Wi P τs fn.params.toList=true)
  (hv: ∀(j:Nat) t v,fn.params[j]? =some t→args[j]? =some v→Value.okWide P w r b0 t v):
  (∃x:HP (τs.map .v),jH w (λ_=>False) (τs.map .v) x args.toList∧WFs τs x)∧ ∀w',Below w.heap.size w w'→ ∃Ha,DataW.TrodAll enc P w' 0 (λb=>decide (b<w.heap.size)) true fn.params.toList args.toList ds Ha:=
 Is laid hA (Kd EO).1 (Kd EO).2 (λj t v h h'=>hv j t v (by rw[gR]at h;exact h) (by rw[gR]at h';exact h'))
end VM
end
