/- A part of the proof of HedgeLess of layer 22: a machine that reads a function of the program as an equation between values. -/
import Derived.Test.YtocmlaipoebfeaaGreatVm5
import Derived.Laws.StructEq
import Derived.OpenShut
import Derived.ChangeShapes
import Derived.ChangeMaps5
import Derived.RowKit
import Derived.ChangeOld
import Derived.Carry
import Derived.Below
import Derived.Test.YtocmlaipoebfeaaGreatVm0
set_option linter.all false
noncomputable section
section
namespace VM
open Go
variable{P:Program}{E:Env}{o:Oper}{a:Act}{w:World}{M:Nat→Prop}{ν:Nat→Value}{σ:St}{c:Ctx}{α:Type}{r:α}{next:Act→World→Prop}{Q:Exit→Act→World→Prop}
theorem Dj{L:Option (List (Nat×CM))}(hL: ∀L',L=some L'→kf L'=true){b:Code}{Q:Exit→Act→World→Prop}{step:St→(St→Option α)→Option α}
  (hs: ∀σ a w kn (Q':Exit→Act→World→Prop),Inv c E σ a w→step σ kn=some r→(∀σ' a' w',kn σ'=some r→Inv c E σ' a' w'→Q' .normal a' w')→(∀e a' w',e≠ .normal→Q e a' w'→Q' e a' w')→b.wp P Q' a w):
  ∀n σ a w,Inv c E σ a w→C3 L step n σ=some r→Code.rounds P b Q n a w
 |0,σ,a,w,_,h=>by cases h
 |n+1,σ,a,w,hI,h=>by
  rw[rounds_succ]
  refine hs σ a w _ _ hI h (fun σ' a' w' h' y4=> ?_) (λe a' w' he hq=> ?_)
  ·obtain⟨wK,K6,aj2⟩:=zq y4 hL h'
   exact Dj hL hs n wK a' w' aj2 K6
  ·cases e<;>first|exact hq|exact absurd rfl he
theorem Vo(hE:uS P E): ∀(cd:Code) (σ:St) (a:Act) (w:World) (k:St→Option α) (kx:Nat→St→Option α) (kr:St→Option α) (Q:Exit→Act→World→Prop),Inv c E σ a w→EE E cd σ k kx kr=some r→
  (∀σ' a' w',k σ'=some r→Inv c E σ' a' w'→Q .normal a' w')→(∀i σ' a' w',kx i σ'=some r→Inv c E σ' a' w'→Q (.exit i) a' w')→(∀σ' a' w',kr σ'=some r→Inv c E σ' a' w'→Q .ret a' w')→cd.wp P Q a w:=by
 intro cd
 induction cd with
 |skip=>intro σ a w k kx kr Q hI h hk _ _;exact wp_skip (hk σ a w h hI)
 |region id ops draw=>intro σ a w k kx kr Q hI h hk _ _;exact Iy hE hI h hk
 |seq x y ihx ihy=>
  intro σ a w k kx kr Q hI h hk hx hr
  refine wp_seq (ihx σ a w _ kx kr _ hI h (fun σ' a' w' h' y4=> ?_) hx hr)
  obtain⟨wK,K6,aj2⟩:=zq y4 (λL' hL=>by
   cases hf:cS y with
   |none=>rw[hf]at hL;cases hL
   |some i=>rw[hf]at hL;exact hE.XT i L' hL) h'
  exact ihy wK a' w' k kx kr Q aj2 K6 hk hx hr
 |cond x t e iht ihe=>
  intro σ a w k kx kr Q hI h hk hx hr
  obtain⟨b,hb,h⟩:=NM (E:=E) (A:=fun σ'=>EE E t σ' k kx kr) (B:=fun σ'=>EE E e σ' k kx kr) hI h
  refine wp_cond hb ?_
  cases b
  ·exact ihe σ a w k kx kr Q hI h hk hx hr
  ·exact iht σ a w k kx kr Q hI h hk hx hr
 |block id x ih=>
  intro σ a w k kx kr Q hI h hk hx hr
  refine wp_block (ih σ a w k _ kr _ hI h hk (λi σ' a' w' h' y4=> ?_) hr)
  show if i=id then Q .normal a' w' else Q (.exit i) a' w'
  cases hb:Nat.beq i id
  ·have iI:i≠id:=λe=>by subst e;rw[show Nat.beq i i=true from uC i]at hb;cases hb
   rw[hb]at h'
   rw[aj iI]
   exact hx i σ' a' w' h' y4
  ·rw[hb]at h'
   rw[ah (fR hb)]
   exact hk σ' a' w' h' y4
 |loop b ih=>
  intro σ a w k kx kr Q hI h hk hx hr
  have hL: ∀L',(cS b).bind E.xc=some L'→kf L'=true:=λL' hL=>by
   cases hf:cS b with
   |none=>rw[hf]at hL;cases hL
   |some i=>rw[hf]at hL;exact hE.kf i L' hL
  obtain⟨σ',h',y4⟩:=zq hI hL h
  refine wp_loop_rounds E.N (Dj hL (fun σ a w kn Q' hI h hkn hq=> ?_) E.N σ' a w y4 h')
  exact ih σ a w kn kx kr Q' hI h hkn (λi σ' a' w' h' y4=>hq _ _ _ (by simp) (hx i σ' a' w' h' y4)) (fun σ' a' w' h' y4=>hq _ _ _ (by simp) (hr σ' a' w' h' y4))
 |rangeFunc f ps x y ihx ihy=>intro σ a w k kx kr Q hI h;cases h
 |exit id=>intro σ a w k kx kr Q hI h hk hx hr;exact wp_exit (hx id σ a w h hI)
 |scope x ih=>
  intro σ a w k kx kr Q hI h hk hx hr
  exact wp_scope_straight (ih σ a w k kx kr _ hI h hk hx hr)
 |label l=>intro σ a w k kx kr Q hI h hk _ _;exact wp_label (hk σ a w h hI)
 |goto l=>intro σ a w k kx kr Q hI h;cases h
 |ret=>intro σ a w k kx kr Q hI h hk hx hr;exact wp_ret (hr σ a w h hI)
 |refuse s=>intro σ a w k kx kr Q hI h;cases h
end VM
end
section
namespace VM
open Go
variable{P:Program}{E:Env}{o:Oper}{a:Act}{w:World}{M:Nat→Prop}{ν:Nat→Value}{σ:St}{c:Ctx}{α:Type}{r:α}{next:Act→World→Prop}{Q:Exit→Act→World→Prop}
theorem RO{m:AM}{ms:List AM}(x:HP (m::ms))(i:Nat)(σ:St):entry (m::ms) x i σ=entry ms (yM x) (i+1) (Rz m (ur x) i σ):=by
 cases ms with
 |nil=>simp[entry,ur]
 |cons n ms=>simp[entry,ur,yM]
theorem Core.yZ{tm:Array Value}(h:Core c σ tm w M ν){id:Nat}{v:Value}{e:bl}(bo:σ.H id=none)(UX:ER w M v e)
  (hd: ∀b,fI v=some b→ ∀i e',σ.H i=some e'→e'.mut→fI (ν i)≠some b) (hn: ∀b,fI v=some b→c.B≤b∨c.may b) (ho: ∀b e0 l0,e= .own e0 l0→fI v=some b→ ¬c.M0 b)
  (tV: ∀τ x p j,e= .ga τ x p j→bZ σ.H id (some e) j≠none∧ ∃b,v= .pointer (some ⟨b,0,none⟩)∧w.cell? ⟨b,cJ p τ,none⟩=some (dr ν id v j):=by intro _ _ _ _ h;cases h):
  Core c ⟨σ.T,bZ σ.H id (some e)⟩ tm w M (dr ν id v):=by
 have hm:=Mem.yZ h.mem (id:=id) (v:=v) (e:=e) (λe' xi=>by rw[bo]at xi;cases xi) UX hd hn ho (.inl bo) tV
 refine h.tr ⟨hm,.refl w M,⟨λi e1 hi=> ?_,λi hi=> ?_⟩⟩
 ·have bY:i≠id:=λe=>by rw[e,bo]at hi;cases hi
  exact⟨e1,by rw[az _ _ bY];exact hi,.refl e1⟩
 ·have bY:i≠id:=λe=>hi (e▸bo)
  simp[dr,bY]
theorem Core.put{tm:Array Value}(h:Core c σ tm w M ν){d:Nat}{x:bI}(hx:VR w M σ.H ν x (tm.getD d undef)):Core c (σ.put d x) tm w M ν:=by
 refine⟨h.mem,λi=> ?_⟩
 by_cases hi:i=d
 ·subst hi;rw[vA];exact hx
 ·rw[AT _ _ hi];exact h.tmp i
theorem Dl{tm:Array Value}: ∀{ms:List AM} {x:HP ms} {vs:List Value} {i:Nat} {σ:St} {ν:Nat→Value} {used:List Nat},Core c σ tm w M ν→jM w M ms x vs→(∀j v,vs[j]? =some v→tm.getD (i+j) undef=v)→
  (∀j,16*i≤j→σ.H j=none)→(∀j e b,σ.H j=some e→e.mut→fI (ν j)=some b→b∈used)→(used++dX ms vs).Nodup→(∀b∈dX ms vs,c.may b)→(∀b,c.may b→ ¬c.M0 b)→
  ∃ν',Core c (entry ms x i σ) tm w M ν'
 |[],x,vs,i,σ,ν,used,h,_,_,_,_,_,_,_=>⟨ν,h⟩
 |m::ms,x,vs,i,σ,ν,used,h,hA,NT,jv,Jk,yN,RP,I6=>by
  rw[RO]
  simp only[jM]at hA
  obtain⟨v,MK,rfl,h1,h2⟩:=hA
  have hv:tm.getD i undef=v:=by simpa using NT 0 v rfl
  have La: ∀j u,MK[j]? =some u→tm.getD (i+1+j) undef=u:=λj u hj=>by
   have:=NT (j+1) u (by simpa using hj)
   rwa [show i+(j+1)=i+1+j from by omega]at this
  have bo:σ.H (16*i+15)=none:=jv _ ω
  have aj3:dX (m::ms) (v::MK)=dh m v++dX ms MK:=rfl
  rw[aj3]at yN RP
  have rY: ∀b,b∈dh m v→ ∀j e',σ.H j=some e'→e'.mut→fI (ν j)≠some b:=λb hb j e' hj jY fg=>
   mL yN (Jk j e' b hj jY fg) (c3 _ hb)
  have xt: ∀{σ':St} {ν':Nat→Value},Core c σ' tm w M ν'→(∀j,16*(i+1)≤j→σ'.H j=none)→(∀j e b,σ'.H j=some e→e.mut→fI (ν' j)=some b→b∈used++dh m v)→ ∃ν'',Core c (entry ms (yM x) (i+1) σ') tm w M ν'':=
   λh' BZ Yb=>Dl h' h2 La BZ Yb (by rw[bH];exact yN) (λb hb=>RP b (dK _ hb)) I6
  have NP: ∀(e:bl) (v':Value),v'=v→(∀b,fI v=some b→b∈dh m v)→(∀j,16*(i+1)≤j→bZ σ.H (16*i+15) (some e) j=none)∧
    (∀j e1 b,bZ σ.H (16*i+15) (some e) j=some e1→e1.mut→fI (dr ν (16*i+15) v' j)=some b→b∈used++dh m v):=by
   rintro e v' rfl hb
   refine⟨λj hj=>by rw[az _ _ ω];exact jv j ω,λj e1 b hj jY fg=> ?_⟩
   by_cases zt:j=16*i+15
   ·subst zt
    simp only[dr,gB]at fg
    exact dK _ (hb b fg)
   ·rw[az _ _ zt]at hj
    simp only[dr,zt,fc]at fg
    exact c3 _ (Jk j e1 b hj jY fg)
  cases m with
  |v τ=>
   refine xt (σ':=σ.put i (.val τ (ur x))) (h.put ?_) (λj hj=>jv j ω) (λj e b hj jY fg=>c3 _ (Jk j e b hj jY fg))
   simp only[VR,hv];exact h1
  |fn f τ=>
   refine xt (σ':=σ.put i (.Nd f (qA τ (ur x)))) (h.put ?_) (λj hj=>jv j ω) (λj e b hj jY fg=>c3 _ (Jk j e b hj jY fg))
   rw[hv]
   simp only[A1,VR]at h1 ⊢
   obtain⟨us,hu,Rm⟩:=h1
   exact⟨us,hu,ju.free Rm⟩
  |own e=>
   have xj: ∀b,fI v=some b→b∈dh (.own e) v:=λb hb=>by simp[dh,hb]
   have hc:=h.yZ bo (v:=v) (e:= .own e (ur x)) h1 (λb hb=>rY b (xj b hb)) (λb hb=> .inr (RP b (c3 _ (xj b hb)))) (λb _ _ _ hb=>I6 b (RP b (c3 _ (xj b hb))))
   obtain⟨BZ,Yb⟩:=NP (.own e (ur x)) v rfl xj
   refine xt (σ':=(σ.put i (.ref (16*i+15))).jW (16*i+15) (some (.own e (ur x)))) (ν':=dr ν (16*i+15) v) (hc.put (d:=i) (x:= .ref (16*i+15)) ?_) BZ Yb
   simp only[VR,hv]
   exact⟨by rw[ay];simp,by simp[dr]⟩
  |lo e=>
   have xj: ∀b,fI v=some b→b∈dh (.lo e) v:=λb hb=>by simp[dh,hb]
   have hc:=h.yZ bo (v:=v) (e:= .own e (ur x)) h1 (λb hb=>rY b (xj b hb)) (λb hb=> .inr (RP b (c3 _ (xj b hb)))) (λb _ _ _ hb=>I6 b (RP b (c3 _ (xj b hb))))
   obtain⟨BZ,Yb⟩:=NP (.own e (ur x)) v rfl xj
   refine xt (σ':=(σ.put i (.ref (16*i+15))).jW (16*i+15) (some (.own e (ur x)))) (ν':=dr ν (16*i+15) v) (hc.put (d:=i) (x:= .ref (16*i+15)) ?_) BZ Yb
   simp only[VR,hv]
   exact⟨by rw[ay];simp,by simp[dr]⟩
  |io τ=>
   have xj: ∀b,fI v=some b→b∈dh (.io τ) v:=λb hb=>by simp[dh,hb]
   have hc:=h.yZ bo (v:=v) (e:= .obj τ (ur x)) h1 (λb hb=>rY b (xj b hb)) (λb hb=> .inr (RP b (c3 _ (xj b hb)))) (λb _ _ he=>by cases he)
   obtain⟨BZ,Yb⟩:=NP (.obj τ (ur x)) v rfl xj
   refine xt (σ':=(σ.put i (.jr (16*i+15) [])).jW (16*i+15) (some (.obj τ (ur x)))) (ν':=dr ν (16*i+15) v) (hc.put (d:=i) (x:= .jr (16*i+15) []) ?_) BZ Yb
   simp only[A1,ER]at h1
   obtain⟨b,cs,t,XR,_⟩:=h1
   simp only[VR,hv]
   exact⟨_,ay _ _ _,trivial,b,by simp[dr,XR],XR⟩
  |jr τ=>
   refine xt (σ':=σ.put i (.rP τ (ur x))) (h.put ?_) (λj hj=>jv j ω) (λj e b hj jY fg=>c3 _ (Jk j e b hj jY fg))
   rw[hv]
   simp only[A1,VR]at h1 ⊢
   exact h1
  |ptr τ=>
   refine xt (σ':=σ) h (λj hj=>jv j ω) (λj e b hj jY fg=>c3 _ (Jk j e b hj jY fg))
def xv(tm:Array Value):ResultVar→Sem Value
 | .tmp t=>pure (tm.getD t undef)
 | .cell x t=>do loadVar t (←asAddr (tm.getD x undef))
def Ed(P:Program)(tm:Array Value)(w:World)(rv:ResultVar)(u:Value):Prop:=(xv tm rv).run P w= .ok u w
def Lb(P:Program)(tm:Array Value)(w:World):List (ResultVar ⊕ Nat)→List Value→List Value→Prop
 |[],us,ps=>us=[]∧ps=[]
 | .inl rv::rs,us,ps=> ∃u K4,us=u::K4∧Ed P tm w rv u∧Lb P tm w rs K4 ps
 | .inr i::rs,us,ps=> ∃p H9,ps=p::H9∧p=tm.getD i undef∧Lb P tm w rs us H9
theorem Core.ab7{tm:Array Value}{H1:Nat→Option bl}{M1:Nat→Prop}(h: ∀i,VR w M σ.H ν (σ.T i) (tm.getD i undef))(k:fi w M w M1)(g:tU σ.H ν H1 ν): ∀i,VR w M1 H1 ν (σ.T i) (tm.getD i undef):=
 λi=>VR.cm k g (h i)
theorem Dm(hE:EnvTy P E){tm:Array Value}{H0 Hq:Nat→Option bl}{M1:Nat→Prop}{uo uf:ja}{io:List (Nat×AM)}{hs:List Nat}(h:jN c w M ν H0 σ.H Hq M1 uo uf io hs)(ht: ∀i,VR w M1 σ.H ν (σ.T i) (tm.getD i undef))
  {m:AM} {rs:ResultVar ⊕ Nat} {k:m.den→St→Option α} (hk:I5 E m rs σ k=some r):
  ∃y σ' MH MI HZ Xf M2 u,k y σ'=some r∧σ'.T=σ.T∧jN c w M ν H0 σ'.H Xf M2 MH MI HZ (hs++dh m u)∧fi w M1 w M2∧tU σ.H ν σ'.H ν∧A1 w M2 m y u∧
   ((m.iJ=false∧m.abO=false∧ ∃rv,rs= .inl rv∧Ed P tm w rv u)∨(m.iJ=true∧ ∃i,rs= .inr i∧u=tm.getD i undef)):=by
 unfold I5 at hk
 split at hk
 ·
  rename_i τ t k
  obtain⟨y,rd,ups,hk,hy⟩:=EI h.mem (ht t) hk
  have RQ:Ed P tm w (.tmp t) (tm.getD t undef):=by simp[Ed,xv]
  rcases hy with⟨rfl,hV⟩|⟨id,e,l,rfl,bo,hV⟩
  ·exact⟨y,σ,uo,uf,io,Hq,M1,_,hk,rfl,by simpa [dh]using h,.refl w M1,.refl _ ν,hV,.inl ⟨rfl,rfl,_,rfl,RQ⟩⟩
  ·obtain⟨M2,hA,hK,KW⟩:=h.freeze bo
   exact⟨y,_,uo,_,io,Hq,M2,_,hk,rfl,(by simp only[dh,cH];exact hA),hK,.upd bo ⟨rfl,rfl⟩,hV M2 KW,.inl ⟨rfl,rfl,_,rfl,RQ⟩⟩
 ·
  rename_i τ x t k
  split at hk
  ·rename_i τ' FR
   obtain⟨e1,hk1⟩:=fV hk
   clear hk
   subst e1
   obtain⟨υ,z,rd,hk,b,off,cs,hv,qa,ld⟩:=C8 h.mem (ht x) hk1
   obtain⟨e2,hk2⟩:=bG hk
   subst e2
   refine⟨_,σ,uo,uf,io,Hq,M1,cR _ cs,hk2,rfl,by simpa [dh]using h,.refl w M1,.refl _ ν,V.cR ld,.inl ⟨rfl,rfl,_,rfl,?_⟩⟩
   simp only[Ed,xv,hv]
   simp[asAddr,C6 (hE.ty t _ FR) qa ld]
  ·cases hk
 ·
  rename_i e t k
  have hv:=ht t
  have RQ:Ed P tm w (.tmp t) (tm.getD t undef):=by simp[Ed,xv]
  split at hk
  ·rename_i hT
   rw[hT]at hv
   obtain⟨ad,hv⟩:=VR.emp.1 hv
   have hb:fI (.slice ad 0 0)=none:=by cases ad<;>simp[fI]
   exact⟨[],σ,uo,uf,io,Hq,M1,_,hk,rfl,by rw[hv];simpa [dh,hb]using h,.refl w M1,.refl _ ν,by rw[hv];simp only[A1,ER];exact .inl ⟨trivial,ad,rfl⟩,.inl ⟨rfl,rfl,_,rfl,RQ⟩⟩
  ·rename_i id hT
   rw[hT]at hv
   simp only[VR]at hv
   split at hk
   ·rename_i e' l bo
    obtain⟨e1,hk⟩:=bG hk
    cases e1
    refine⟨_,_,_,uf,io,_,M1,ν id,hk,rfl,(by simp only[dh];exact h.hand bo),.refl w M1,.upd bo (bl.kR _),h.mem.ll id _ bo,.inl ⟨rfl,rfl,_,rfl,by rw[←hv.2];exact RQ⟩⟩
   ·cases hk
  ·cases hk
 ·
  rename_i τ i k
  have hv:=ht i
  split at hk
  ·rename_i id hT
   rw[hT]at hv
   split at hk
   ·rename_i υ z bo
    obtain⟨e1,hk⟩:=bG hk
    subst e1
    simp only[VR]at hv
    obtain⟨e,he,oa⟩:=hv
    rw[bo]at he;cases he
    simp only[AR]at oa
    obtain⟨_,b,hb,hv⟩:=oa
    have XR:tm.getD i undef=ν id:=by rw[hv,hb];rfl
    refine⟨_,_,uo,uf,_,_,M1,ν id,hk,rfl,(by simp only[dh];exact h.ajM bo),.refl w M1,.upd bo (bl.kR _),h.mem.ll id _ bo,.inr ⟨rfl,i,rfl,XR.symm⟩⟩
   ·cases hk
  ·cases hk
 ·
  rename_i e i k
  have hv:=ht i
  split at hk
  ·rename_i id hT
   rw[hT]at hv
   simp only[VR]at hv
   split at hk
   ·rename_i e' l bo
    obtain⟨e1,hk⟩:=bG hk
    cases e1
    refine⟨_,_,uo,uf,_,_,M1,ν id,hk,rfl,(by simp only[dh];exact h.aio bo),.refl w M1,.upd bo (bl.kR _),h.mem.ll id _ bo,.inr ⟨rfl,i,rfl,hv.2.symm⟩⟩
   ·cases hk
  ·cases hk
 ·
  rename_i τ t k
  have hv:=ht t
  have RQ:Ed P tm w (.tmp t) (tm.getD t undef):=by simp[Ed,xv]
  split at hk
  ·rename_i id hT
   rw[hT]at hv
   split at hk
   ·rename_i υ z bo
    obtain⟨e1,hk⟩:=bG hk
    subst e1
    simp only[VR]at hv
    obtain⟨e,he,oa⟩:=hv
    rw[bo]at he;cases he
    simp only[AR]at oa
    obtain⟨_,b,hb,hv⟩:=oa
    have XR:tm.getD t undef=ν id:=by rw[hv,hb];rfl
    refine⟨_,_,uo,uf,_,_,M1,ν id,hk,rfl,(by simp only[dh];exact h.ajM bo),.refl w M1,.upd bo (bl.kR _),h.mem.ll id _ bo,.inl ⟨rfl,rfl,_,rfl,by rw[←XR];exact RQ⟩⟩
   ·cases hk
  ·cases hk
 ·cases hk
theorem Ge(hE:EnvTy P E){tm:Array Value}{H0:Nat→Option bl}: ∀{ms:List AM} {rs:List (ResultVar ⊕ Nat)} {σ:St} {Hq:Nat→Option bl} {M1:Nat→Prop} {uo uf:ja} {io:List (Nat×AM)} {hs:List Nat} {K:HP ms→Option α},
  jN c w M ν H0 σ.H Hq M1 uo uf io hs→(∀i,VR w M1 σ.H ν (σ.T i) (tm.getD i undef))→KO E ms rs σ K=some r→
  ∃y us ps H2 MH MI HZ Xf M2,K y=some r∧jN c w M ν H0 H2 Xf M2 MH MI HZ (hs++bK ms us ps)∧fi w M1 w M2∧RR w M2 ms y us ps∧Lb P tm w rs us ps
 |[],[],σ,Hq,M1,uo,uf,io,hs,K,h,ht,hk=>⟨(),[],[],σ.H,uo,uf,io,Hq,M1,hk,by simpa [bK]using h,.refl w M1,⟨rfl,rfl⟩,⟨rfl,rfl⟩⟩
 |[m],[q],σ,Hq,M1,uo,uf,io,hs,K,h,ht,hk0=>by
  obtain⟨y,σ',MH,MI,HZ,Xf,M2,u,hk,hT,hA,hK,hG,hy,hu⟩:=Dm hE h ht (hk0:I5 E m q σ _=some r)
  clear hk0
  rcases hu with⟨h1,h2,rv,rfl,hv⟩|⟨h1,i,rfl,hv⟩
  ·refine⟨y,[u],[],_,_,_,_,_,M2,hk,by simpa [bK,h1]using hA,hK,?_,?_⟩
   ·simp only[RR];exact .inr ⟨u,[],h1,h2,rfl,hy,by simp⟩
   ·simp only[Lb];exact⟨u,[],rfl,hv,by simp⟩
  ·refine⟨y,[],[u],_,_,_,_,_,M2,hk,by simpa [bK,h1]using hA,hK,?_,?_⟩
   ·simp only[RR];exact .inl ⟨u,[],h1,rfl,hy,by simp⟩
   ·simp only[Lb];exact⟨u,[],rfl,hv,by simp⟩
 |m::n::ms,q::rs,σ,Hq,M1,uo,uf,io,hs,K,h,ht,hk0=>by
  obtain⟨y,σ',MH,MI,HZ,Xf,M2,u,hk1,hT,hA,hK,hG,hy,hu⟩:=Dm hE h ht (hk0:I5 E m q σ _=some r)
  obtain⟨ys,us,ps,H3,uo3,uf3,io3,Hq3,M3,hk,hA3,hK3,hys,hrs⟩:=Ge (ms:=n::ms) hE hA (λi=>by rw[hT];exact Core.ab7 ht hK hG i) hk1
  have Jh:A1 w M3 m y u:=A1.xu hK3 (λb hb=>⟨rfl,hA3.hM b (c3 _ (dK _ hb))⟩) hy
  clear hk0
  rcases hu with⟨h1,h2,rv,rfl,hv⟩|⟨h1,i,rfl,hv⟩
  ·refine⟨(y,ys),u::us,ps,H3,uo3,uf3,io3,Hq3,M3,hk,?_,hK.trans hK3,?_,?_⟩
   ·have:bK (m::n::ms) (u::us) ps=dh m u++bK (n::ms) us ps:=by rw[bK];simp[h1]
    rw[this,←bH];exact hA3
   ·rw[RR];exact .inr ⟨u,us,h1,h2,rfl,Jh,hys⟩
   ·simp only[Lb];exact⟨u,us,rfl,hv,hrs⟩
  ·refine⟨(y,ys),us,u::ps,H3,uo3,uf3,io3,Hq3,M3,hk,?_,hK.trans hK3,?_,?_⟩
   ·have:bK (m::n::ms) us (u::ps)=dh m u++bK (n::ms) us ps:=by rw[bK];simp[h1]
    rw[this,←bH];exact hA3
   ·rw[RR];exact .inl ⟨u,ps,h1,rfl,Jh,hys⟩
   ·simp only[Lb];exact⟨u,ps,rfl,hv,hrs⟩
 |[],_::_,_,_,_,_,_,_,_,_,_,_,hk=>by simp[KO]at hk
 |[_],[],_,_,_,_,_,_,_,_,_,_,hk=>by simp[KO]at hk
 |[_],_::_::_,_,_,_,_,_,_,_,_,_,_,hk=>by simp[KO]at hk
 |_::_::_,[],_,_,_,_,_,_,_,_,_,_,hk=>by simp[KO]at hk
end VM
end
section
namespace VM
open Go
variable{P:Program}{E:Env}{o:Oper}{a:Act}{w:World}{M:Nat→Prop}{ν:Nat→Value}{σ:St}{c:Ctx}{α:Type}{r:α}{next:Act→World→Prop}{Q:Exit→Act→World→Prop}
theorem Jl{tm:Array Value}: ∀{rv:List ResultVar} {is:List (ResultVar ⊕ Nat)} {us ps:List Value},Lb P tm w (rv.map .inl++is) us ps→
  ∃us1 us2,us=us1++us2∧us1.length=rv.length∧(∀i (h:i<rv.length) (h':i<us1.length),Ed P tm w rv[i] us1[i])∧Lb P tm w is us2 ps
 |[],is,us,ps,h=>⟨[],us,rfl,rfl,λi h=>by simp at h,h⟩
 |rv::rvs,is,us,ps,h=>by
  simp only[bR,kK,Lb]at h
  obtain⟨u,K4,rfl,h1,h2⟩:=h
  obtain⟨us1,us2,rfl,hl,h3,h4⟩:=Jl h2
  refine⟨u::us1,us2,rfl,by simp[hl],λi hi nD=> ?_,h4⟩
  cases i with
  |zero=>exact h1
  |succ i=>exact h3 i (by simpa using hi) (by simpa using nD)
theorem xw{tm:Array Value}: ∀{ms:List AM} {vs:List Value} {i:Nat} {us ps:List Value},vs.length=ms.length→(∀j v m,vs[j]? =some v→ms[j]? =some m→m.iJ=true→tm.getD (i+j) undef=v)→Lb P tm w (zk ms i) us ps→us=[]∧ps=fx ms vs
 |[],vs,i,us,ps,_,_,h=>by simp only[zk,Lb]at h;simpa [fx]using h
 |m::ms,[],_,_,_,hl,_,_=>by simp at hl
 |m::ms,v::vs,i,us,ps,hl,NT,h=>by
  have La: ∀j u m,vs[j]? =some u→ms[j]? =some m→m.iJ=true→tm.getD (i+1+j) undef=u:=λj u m hj hm wB=>by
   have:=NT (j+1) u m (by simpa using hj) (by simpa using hm) wB
   rwa [show i+(j+1)=i+1+j from by omega]at this
  have KQ:vs.length=ms.length:=by simpa using hl
  cases m with
  |io τ=>
   simp only[zk,Lb]at h
   obtain⟨p,H9,rfl,hp,h⟩:=h
   obtain⟨h1,h2⟩:=xw KQ La h
   refine⟨h1,?_⟩
   have:=NT 0 v (.io τ) rfl rfl rfl
   simp only[nw]at this
   simp[fx,AM.iJ,h2,hp,this]
  |lo e=>
   simp only[zk,Lb]at h
   obtain⟨p,H9,rfl,hp,h⟩:=h
   obtain⟨h1,h2⟩:=xw KQ La h
   refine⟨h1,?_⟩
   have:=NT 0 v (.lo e) rfl rfl rfl
   simp only[nw]at this
   simp[fx,AM.iJ,h2,hp,this]
  |v τ=>
   obtain⟨h1,h2⟩:=xw KQ La (show Lb P tm w (zk ms (i+1)) us ps from h)
   exact⟨h1,by simp[fx,AM.iJ,h2]⟩
  |own τ=>
   obtain⟨h1,h2⟩:=xw KQ La (show Lb P tm w (zk ms (i+1)) us ps from h)
   exact⟨h1,by simp[fx,AM.iJ,h2]⟩
  |fn f τ=>
   obtain⟨h1,h2⟩:=xw KQ La (show Lb P tm w (zk ms (i+1)) us ps from h)
   exact⟨h1,by simp[fx,AM.iJ,h2]⟩
  |jr τ=>
   obtain⟨h1,h2⟩:=xw KQ La (show Lb P tm w (zk ms (i+1)) us ps from h)
   exact⟨h1,by simp[fx,AM.iJ,h2]⟩
  |ptr τ=>
   obtain⟨h1,h2⟩:=xw KQ La (show Lb P tm w (zk ms (i+1)) us ps from h)
   exact⟨h1,by simp[fx,AM.iJ,h2]⟩
theorem NW{fn:Func}{tm:Array Value}{us:List Value}(hl:us.length=fn.results.toList.length)(h: ∀i (h:i<fn.results.toList.length) (h':i<us.length),Ed P tm w fn.results.toList[i] us[i]):
  (results fn tm).run P w= .ok (xr us) w:=by
 have key: ∀(rs:List ResultVar) (us:List Value),us.length=rs.length→(∀i (h:i<rs.length) (h':i<us.length),Ed P tm w rs[i] us[i])→(rs.mapM (xv tm)).run P w= .ok us w:=by
  intro rs
  induction rs with
  |nil=>intro us hl _;cases us with
   |nil=>simp
   |cons _ _=>simp at hl
  |cons r rs ih=>intro us hl h;cases us with
   |nil=>simp at hl
   |cons u us=>
    have h0:(xv tm r).run P w= .ok u w:=h 0 (by simp) (by simp)
    have h1:=ih us (by simpa using hl) (λi hi nD=>h (i+1) (by simpa using hi) (by simpa using nD))
    simp[An,h0,h1]
 have h2:=key fn.results.toList us hl h
 have h3:results fn tm=(do let vs ←fn.results.mapM (xv tm);pure (if h:vs.size=1 then vs[0]else .tuple vs)):=by
  unfold results
  congr 1
 rw[h3,Array.mapM_eq_mapM_toList]
 simp only[Sem.run_bind,Sem.run_map,h2]
 unfold xr
 by_cases h3:us.length=1
 ·simp[h3]
 ·simp[h3]
theorem Jm(hE:uS P E){f:FuncId}{fn:Func}(hf:P.funcs[f]? =some fn)(hnt:E.nt=fn.ntmps){args res:List AM}(wB: ∀i m,args[i]? =some m→m.iJ=true→i∈E.io)(apm: ∀i∈E.io,i<args.length)(hlen:args.length≤fn.ntmps)
  {M0:Nat→Prop} {vs:List Value} {x:HP args} {y:HP res} (sd: ∀b,M0 b→b<w.heap.size) (hA:jM w (λb=>M0 b∨b∈dX args vs) args x vs) (yN:(dX args vs).Nodup) (xx: ∀b∈dX args vs,¬M0 b)
  (h:Rk E fn args res x=some y):
  Calls P f vs.toArray w λe w'=> ∃v,e= .returned v∧ ∃us M',v=xr us∧RR w' M' res y us (fx args vs)∧Left w M0 (dX args vs) w' M'∧(bK res us (fx args vs)).Nodup∧ ∀b∈bK res us (fx args vs),¬M0 b:=by
 unfold Rk at h
 split at h
 ·cases h
 rename_i cd hb
 simp only at h
 have hvl: ∀{ms:List AM} {x:HP ms} {vs:List Value} {M:Nat→Prop},jM w M ms x vs→vs.length=ms.length:=by
  intro ms
  induction ms with
  |nil=>intro x vs M h;simp only[jM]at h;subst h;rfl
  |cons m ms ih=>intro x vs M h;simp only[jM]at h;obtain⟨v,MK,rfl,_,h⟩:=h;simp[ih h]
 have hvs:=hvl hA
 let tm:Array Value:=vs.toArray++Array.replicate (fn.ntmps-vs.toArray.size) undef
 have NT: ∀j v,vs[j]? =some v→tm.getD j undef=v:=by
  intro j v hj
  have fj:j<vs.length:=(vo.1 hj).1
  rw[tb,Array.getElem?_append_left (by simpa using fj),Na,hj];rfl
 have uq:tm.size=fn.ntmps:=by simp[tm];omega
 have hhb: ∀{ms:List AM} {x:HP ms} {vs:List Value} {M:Nat→Prop},jM w M ms x vs→ ∀b∈dX ms vs,b<w.heap.size:=by
  intro ms
  induction ms with
  |nil=>intro x vs M h b hb;simp[dX]at hb
  |cons m ms ih=>
   intro x vs M h b hb
   simp only[jM]at h
   obtain⟨v,MK,rfl,h1,h⟩:=h
   simp only[dX,bk]at hb
   rcases hb with hb|hb
   ·cases m with
    |v _=>simp[dh]at hb
    |fn _ _=>simp[dh]at hb
    |jr _=>simp[dh]at hb
    |own e=>
     simp only[dh,fp,A1,ER]at hb h1
     rcases h1 with⟨_,a,hv⟩|⟨b',cs,t,cap,hv,hg,_⟩
     ·rw[hv]at hb;cases a<;>simp[fI]at hb
     ·rw[hv]at hb
      simp only[fI]at hb
      split at hb
      ·cases hb
      ·simp only[iA]at hb;subst hb;exact lt_of_block hg
    |lo e=>
     simp only[dh,fp,A1,ER]at hb h1
     rcases h1 with⟨_,a,hv⟩|⟨b',cs,t,cap,hv,hg,_⟩
     ·rw[hv]at hb;cases a<;>simp[fI]at hb
     ·rw[hv]at hb
      simp only[fI]at hb
      split at hb
      ·cases hb
      ·simp only[iA]at hb;subst hb;exact lt_of_block hg
    |io τ=>
     simp only[dh,fp,A1,ER]at hb h1
     obtain⟨b',cs,t,hv,hg,_⟩:=h1
     rw[hv]at hb
     simp only[fI,iA]at hb;subst hb;exact lt_of_block hg
    |ptr τ=>
     simp only[dh,fp,A1,ER]at hb h1
     obtain⟨b',cs,t,hv,hg,_⟩:=h1
     rw[hv]at hb
     simp only[fI,iA]at hb;subst hb;exact lt_of_block hg
   ·exact ih h b hb
 let cx:Ctx:={B:=w.heap.size,w0:=w,M0:=M0,may:=λb=>b∈dX args vs,arg:=λi=>tm.getD i undef}
 have hm0:Mem cx (λ_=>none) w (λb=>M0 b∨b∈dX args vs) (λ_=>undef):=
  ⟨λi e hi=>(by cases hi),λi j e e' b _ hi=>(by cases hi),λi e b hi=>(by cases hi),λi e l b hi=>(by cases hi),λi τ x p j hi=>(by cases hi),λb hb=> .inl hb,λb hb=>hb.elim (sd b) (hhb hA b),λ_ _ _=>rfl,aH _,⟨sd,xx⟩,rfl,rfl,rfl⟩
 have Xd:Core cx ⟨λ_=> .any,λ_=>none⟩ tm w (λb=>M0 b∨b∈dX args vs) (λ_=>undef):=⟨hm0,λi=>by simp[VR]⟩
 obtain⟨ν',hc⟩:=Dl (i:=0) (used:=[]) Xd hA (λj v hj=>by rw[fT];exact NT j v hj) (λ_ _=>rfl) (λj e b hj=>by cases hj) (by simpa using yN) (λb hb=>hb) (λb hb=>xx b hb)
 have hI:Inv cx E (entry args x 0 ⟨λ_=> .any,λ_=>none⟩) {tmps:=tm,defers:=[]} w:=⟨⟨_,_,hc⟩,by rw[hnt,uq],rfl,λi _=>rfl⟩
 refine calls_of_wp hf hb ?_
 have apn: ∀(σ':St) (a':Act) (w':World),KO E res (fn.results.toList.map .inl++zk args 0) σ' some=some y→Inv cx E σ' a' w'→
   a'.defers=[]∧ ∃v,(results fn a'.tmps).run P w'= .ok v w'∧ ∃v',Ending.returned v= .returned v'∧ ∃us M',v'=xr us∧RR w' M' res y us (fx args vs)∧Left w M0 (dX args vs) w' M'∧(bK res us (fx args vs)).Nodup∧ ∀b∈bK res us (fx args vs),¬M0 b:=by
  rintro σ' a' w' hk ⟨⟨M1,ν1,Jf⟩,Tv,hd1,yO⟩
  obtain⟨y',us,ps,H2,uo,uf,io,Hq,M2,hy,Yc,hK,Xi,hRs⟩:=Ge (P:=P) hE.toEnvTy (jN.start Jf.mem) Jf.tmp hk
  cases hy
  obtain⟨us1,us2,rfl,hl,hv,avi⟩:=Jl hRs
  obtain⟨rfl,K2⟩:=xw (vs:=vs) hvs (λj v m hj hm Iv=>by
   rw[fT]
   rw[yO j (wB j m hm Iv)]
   exact NT j v hj) avi
  rw[cH]at*
  subst K2
  simp only[cW]at Yc
  have lN: ∀b∈bK res us1 (fx args vs),b<w.heap.size→b∈dX args vs:=λb hb fj=>(Yc.NG b hb).elim (λh'=>absurd fj (Nat.not_lt.2 h')) (λh=>h)
  have Jh:fi w' M2 w' (λb=>M2 b∧(b<w.heap.size→M0 b∨b∈dX args vs)):=⟨aH _,λ_ _ _=>rfl,λ_ _ h=>h.1⟩
  refine⟨hd1,xr us1,NW hl hv,_,rfl,us1,λb=>M2 b∧(b<w.heap.size→M0 b∨b∈dX args vs),rfl,RR.xu Jh (λb hb=>⟨rfl,Xi.rZ b hb,λfj=> .inr (lN b hb fj)⟩) Xi,⟨λb hb=>⟨Yc.mem.sub b hb,λ_=> .inl hb⟩,λb hb=>Yc.mem.FJ b hb.1,λb fj hb=>hb.2 fj,λb fj hb=>Yc.mem.frame b fj hb,Yc.mem.size,Yc.mem.os,Yc.mem.tape,Yc.mem.output⟩,Yc.nd,λb hb h0=> ?_⟩
  rcases Yc.NG b hb with h'|h'
  ·exact absurd (sd b h0) (Nat.not_lt.2 h')
  ·exact xx b h' h0
 refine Vo (c:=cx) hE cd _ _ w _ _ _ _ hI h (fun σ' a' w' hk y4=> ?_) (λi σ' a' w' hk=>by cases hk) (fun σ' a' w' hk y4=> ?_)
 ·exact apn σ' a' w' hk y4
 ·exact apn σ' a' w' hk y4
theorem Yd(hE:uS P E){f:FuncId}{fn:Func}(hf:P.funcs[f]? =some fn)(AV:(fn.name== "runtime.NumGoroutine")=false)(hnt:E.nt=fn.ntmps)(S:lI)
  (wB: ∀i m,S.args[i]? =some m→m.iJ=true→i∈E.io) (apm: ∀i∈E.io,i<S.args.length) (hlen:S.args.length≤fn.ntmps) (hq:S.quiet=true→S.res.all AM.flat=true) (avj:nH S.args=nH S.res)
  (dQ: ∀x,Rk E fn S.args S.res x=S.run x):ix P f S:=by
 refine⟨hq,avj,λM0 w vs x y sd hA yN xx hy=> ?_⟩
 have hb:fn.body.isNone=false:=by
  have:=dQ x
  rw[hy]at this
  unfold Rk at this
  split at this
  ·cases this
  ·rename_i cd hcd;rw[hcd];rfl
 exact tW hf AV hb (Jm hE hf hnt wB apm hlen sd hA yN xx (by rw[dQ,hy]))
end VM
end
section
namespace VM
open Go
variable{P:Program}
def AW:Ty→List Value→Option (List Value)
 | .int k,v::r=>match v with
  | .int k' n=>if k'=k∧n=0 then some r else none
  |_=>none
 | .bool,v::r=>match v with
  | .bool false=>some r
  |_=>none
 | .str,v::r=>match v with
  | .string s=>if s.data.size=0 then some r else none
  |_=>none
 | .slice _,v::r=>match v with
  | .slice none n m=>if n=0∧m=0 then some r else none
  |_=>none
 | .unit,r=>some r
 | .pair a b,r=>match AW a r with
  |some r=>AW b r
  |none=>none
 | .arr n e,r=>Nat.rec (motive:=λ_=>List Value→Option (List Value)) (λr=>some r) (λ_ ih r=>match AW e r with
  |some r=>ih r
  |none=>none) n r
 |_,[]=>none
theorem AX: ∀{τ:Ty} {l r:List Value},AW τ l=some r→l=τ.du++r
 | .int k,[],_,h| .bool,[],_,h| .str,[],_,h| .slice _,[],_,h=>by simp[AW]at h
 | .int k,v::l,r,h=>by
  simp only[AW]at h
  split at h
  ·split at h
   ·rename_i hc;obtain⟨rfl,rfl⟩:=hc;cases h;rfl
   ·cases h
  ·cases h
 | .bool,v::l,r,h=>by
  simp only[AW]at h
  split at h
  ·cases h;rfl
  ·cases h
 | .str,v::l,r,h=>by
  simp only[AW]at h
  split at h
  ·rename_i s
   split at h
   ·rename_i hs
    cases h
    have:s=ByteArray.empty:=by
     obtain⟨d⟩:=s
     have:d= #[]:=Array.eq_empty_of_size_eq_zero hs
     subst this;rfl
    subst this;rfl
   ·cases h
  ·cases h
 | .slice _,v::l,r,h=>by
  simp only[AW]at h
  split at h
  ·split at h
   ·rename_i hc;obtain⟨rfl,rfl⟩:=hc;cases h;rfl
   ·cases h
  ·cases h
 | .unit,l,r,h=>by simp only[AW]at h;cases h;rfl
 | .pair a b,l,r,h=>by
  simp only[AW]at h
  split at h
  ·rename_i r1 h1
   rw[AX h1,AX h];simp[Ty.du]
  ·cases h
 | .arr n e,l,r,h=>by
  simp only[AW]at h
  simp only[Ty.du]
  induction n generalizing l with
  |zero=>cases h;rfl
  |succ n ih=>
   simp only at h
   split at h
   ·rename_i r1 h1
    rw[AX h1,ih _ h];simp[Ac]
   ·cases h
def AY(P:Program)(τ:Ty)(t:TypeId):Bool:=
 match P.info? t with
 |none=>false
 |some i=>Nat.beq i.size τ.size&&Nat.ble i.bytes 2048&&(match i.zero with
  |none=>false
  |some z=>match τ.isAgg,z with
   |true,.agg cs=>(match AW τ cs.toList with|some []=>true|_=>false)
   |false,z=>(match AW τ [z]with|some []=>true|_=>false)
   |_,_=>false)
theorem se{τ:Ty}{t:TypeId}(h:AY P τ t=true):KP P τ t:=by
 unfold AY at h
 split at h
 ·cases h
 ·rename_i i hi
  simp only[bB,Aw]at h
  obtain⟨⟨h1,h2⟩,h3⟩:=h
  refine⟨i,hi,fR h1,?_,h2⟩
  split at h3
  ·cases h3
  ·rename_i z hz
   rw[hz]
   split at h3
   ·rename_i _ cs ha
    split at h3
    ·rename_i he
     have:=AX he
     unfold cR
     rw[ah ha,←cH τ.du,←this]
    ·cases h3
   ·rename_i ha
    split at h3
    ·rename_i he
     have:=AX he
     unfold cR
     rw[aj (by rw[ha];exact qJ),←cH τ.du,←this];rfl
    ·cases h3
   ·cases h3
def uU(P:Program):Ty→TypeId ⊕ (Array Field×Nat×Nat)→Bool
 | .int k,.inl t=>AY P (.int k) t&&(match P.underlying t with|some (.int k')=>decide (k'=k)|_=>false)
 | .bool,.inl t=>AY P .bool t&&(match P.underlying t with|some .bool=>true|_=>false)
 | .str,.inl t=>AY P .str t&&(match P.underlying t with|some .string=>true|_=>false)
 | .slice e,.inl t=>AY P (.slice e) t&&(match P.underlying t with|some (.slice e')=>uU P e (.inl e')|_=>false)
 | .arr n e,.inl t=>AY P (.arr n e) t&&(match P.underlying t with|some (.array n' e')=>Nat.beq n' n&&uU P e (.inl e')|_=>false)
 | .unit,.inl t=>AY P .unit t&&(match P.underlying t with|some (.struct fs)=>Nat.beq fs.size 0|_=>false)
 | .unit,.inr q=>Nat.beq q.1.size q.2.1
 | .pair a b,.inl t=>AY P (.pair a b) t&&(match P.underlying t with
  |some (.struct fs)=>(match fs[0]? with
   |some f=>Nat.beq f.offset 0&&(uU P a (.inl f.type)&&uU P b (.inr (fs,1,a.size)))
   |none=>false)
  |_=>false)
 | .pair a b,.inr q=>(match q.1[q.2.1]? with
  |some f=>Nat.beq f.offset q.2.2&&(uU P a (.inl f.type)&&uU P b (.inr (q.1,q.2.1+1,q.2.2+a.size)))
  |none=>false)
 |_,.inr _=>false
theorem gI: ∀{τ:Ty} {x:TypeId ⊕ (Array Field×Nat×Nat)},uU P τ x=true→fO P τ x
 | .int k,.inl t,h=>by
  simp only[uU,bB]at h
  refine⟨se h.1,?_⟩
  have h:=h.2
  split at h
  ·rename_i k' hu;rw[hu,bA h]
  ·cases h
 | .bool,.inl t,h=>by
  simp only[uU,bB]at h
  refine⟨se h.1,?_⟩
  have h:=h.2
  split at h
  ·rename_i hu;exact hu
  ·cases h
 | .str,.inl t,h=>by
  simp only[uU,bB]at h
  refine⟨se h.1,?_⟩
  have h:=h.2
  split at h
  ·rename_i hu;exact hu
  ·cases h
 | .slice e,.inl t,h=>by
  simp only[uU,bB]at h
  refine⟨se h.1,?_⟩
  have h:=h.2
  split at h
  ·rename_i e' hu;exact⟨e',hu,gI h⟩
  ·cases h
 | .arr n e,.inl t,h=>by
  simp only[uU,bB]at h
  refine⟨se h.1,?_⟩
  have h:=h.2
  split at h
  ·rename_i n' e' hu
   simp only[bB]at h
   obtain⟨h0,h⟩:=h
   rw[fR h0]at hu
   exact⟨e',hu,gI h⟩
  ·cases h
 | .unit,.inl t,h=>by
  simp only[uU,bB]at h
  refine⟨se h.1,?_⟩
  have h:=h.2
  split at h
  ·rename_i fs hu;exact⟨fs,hu,fR h⟩
  ·cases h
 | .unit,.inr (fs,n,o),h=>by simp only[uU]at h;exact fR h
 | .pair a b,.inl t,h=>by
  simp only[uU,bB]at h
  refine⟨se h.1,?_⟩
  have h:=h.2
  split at h
  ·rename_i fs hu
   split at h
   ·rename_i f hf
    simp only[bB]at h
    exact⟨fs,f,hu,hf,fR h.1,gI h.2.1,gI h.2.2⟩
   ·cases h
  ·cases h
 | .pair a b,.inr (fs,n,o),h=>by
  simp only[uU]at h
  split at h
  ·rename_i f hf
   simp only[bB]at h
   exact⟨f,hf,fR h.1,gI h.2.1,gI h.2.2⟩
  ·cases h
 | .int _,.inr _,h| .bool,.inr _,h| .str,.inr _,h| .slice _,.inr _,h| .arr _ _,.inr _,h=>by simp[uU]at h
def wD(P:Program):Ty→TypeId ⊕ (Array Field×Nat)→Bool
 | .int _,.inl _| .bool,.inl _| .str,.inl _=>true
 | .unit,.inl t=> !P.stoodInHeld t
 | .unit,.inr _=>true
 | .pair a b,.inl t=> !P.stoodInHeld t&&(match P.underlying t with
  |some (.struct fs)=>(match fs[0]? with
   |some f=>f.name != "_" &&(wD P a (.inl f.type)&&wD P b (.inr (fs,1)))
   |none=>false)
  |_=>false)
 | .pair a b,.inr q=>(match q.1[q.2]? with
  |some f=>f.name != "_" &&(wD P a (.inl f.type)&&wD P b (.inr (q.1,q.2+1)))
  |none=>false)
 |_,_=>false
def Ty.deep:Ty→Nat
 | .pair a b=>a.deep+b.deep+1
 |_=>1
theorem V.ofC{w:World}{M:Nat→Prop}{τ:Ty}{cs:List Value}{x:τ.den}(h:Rd w M τ cs x):V w M τ (VM.cR τ cs) x:=V.cR h
mutual
theorem NX{w:World}{M:Nat→Prop}: ∀{τ:Ty} {t:TypeId} {u v:Value} {x y:τ.den} {d:Nat},kO P τ t→wD P τ (.inl t)=true→V w M τ u x→V w M τ v y→τ.deep≤d→(Op.equalIn d t u v).run P w= .ok (p8 τ x y) w
 | .int k,t,u,v,x,y,d+1,hl,_,hx,hy,_=>by
  simp only[V,Ty.isAgg,jd,fc,Rd,fu,ec]at hx hy
  subst hx;subst hy
  rw[run_equalIn_int w d t k k _ _ hl.int];simp only[p8,jB];congr 1
 | .bool,t,u,v,x,y,d+1,hl,_,hx,hy,_=>by
  simp only[V,Ty.isAgg,jd,fc,Rd,fu,ec]at hx hy
  subst hx;subst hy
  rw[run_equalIn_bool w d t _ _ hl.bool];simp only[p8]
 | .str,t,u,v,x,y,d+1,hl,_,hx,hy,_=>by
  simp only[V,Ty.isAgg,jd,fc,Rd,fu,ec]at hx hy
  subst hx;subst hy
  rw[run_equalIn_string w d t _ _ hl.str];simp only[p8,FH];congr 1;rw[ns];simp
 | .slice _,_,_,_,_,_,_,_,h,_,_,_| .arr _ _,_,_,_,_,_,_,_,h,_,_,_=>by simp[wD]at h
 | .unit,t,u,v,x,y,d+1,hl,he,hx,hy,_=>by
  simp only[V,Ty.isAgg,gB]at hx hy
  obtain⟨cs,rfl,_⟩:=hx
  obtain⟨cs',rfl,_⟩:=hy
  simp only[kO,fO]at hl
  obtain⟨_,fs,hu,h0⟩:=hl
  have hfs:P.fieldsOf t=fs:=by simp[Program.fieldsOf,hu]
  rw[run_equalIn_struct w d t cs cs' (by rw[hfs];exact hu) (by simpa [wD]using he),hfs]
  have:fs.toList=[]:=by rw[←M5,bL];exact h0
  rw[this];simp[Op.eqFields,p8]
 | .pair a b,t,u,v,x,y,d+1,hl,he,hx,hy,hd=>by
  simp only[V,Ty.isAgg,gB]at hx hy
  obtain⟨cs,rfl,hx⟩:=hx
  obtain⟨cs',rfl,hy⟩:=hy
  simp only[kO,fO]at hl
  obtain⟨_,fs,f,hu,hf,ho,zu,Rq⟩:=hl
  have hfs:P.fieldsOf t=fs:=by simp[Program.fieldsOf,hu]
  simp only[wD,hu,hf,bB]at he
  rw[run_equalIn_struct w d t cs cs' (by rw[hfs];exact hu) (by simpa using he.1),hfs]
  have h0:fs.toList=f::fs.toList.drop 1:=by
   have h1:=qI (l:=fs.toList) (i:=0) (by rw[bL];exact(kH.1 hf).1)
   rw[c0]at h1
   rw[h1];congr 1
   rw[Ab];exact(kH.1 hf).2
  simp only[Ty.deep]at hd
  rw[h0]
  have uQ:Rd w M (.pair a b) (cs.toList.drop 0) x:=by rw[c0];exact hx
  have TG:Rd w M (.pair a b) (cs'.toList.drop 0) y:=by rw[c0];exact hy
  have iI:f.name≠ "_" :=by simpa using he.2.1
  simp only[Op.eqFields,iI,ne_eq,not_false_eq_true,gB]
  exact Ye (off:=0) ho zu he.2.2.1 uQ TG ω (λh1 h2=>Yf (n:=1) (fs:=fs) (off:=a.size) Rq he.2.2.2 (by rw[fT]at h1;exact h1) (by rw[fT]at h2;exact h2) ω)
 | .int _,_,_,_,_,_,0,_,_,_,_,hd| .bool,_,_,_,_,_,0,_,_,_,_,hd| .str,_,_,_,_,_,0,_,_,_,_,hd| .unit,_,_,_,_,_,0,_,_,_,_,hd| .pair _ _,_,_,_,_,_,0,_,_,_,_,hd=>by simp[Ty.deep]at hd
theorem Yf{w:World}{M:Nat→Prop}: ∀{b:Ty} {fs:Array Field} {n off:Nat} {cs cs':Array Value} {x y:b.den} {d:Nat},fO P b (.inr (fs,n,off))→wD P b (.inr (fs,n))=true→Rd w M b (cs.toList.drop off) x→Rd w M b (cs'.toList.drop off) y→b.deep≤d→
  (Op.eqFields d cs cs' (fs.toList.drop n)).run P w= .ok (p8 b x y) w
 | .unit,fs,n,off,cs,cs',x,y,d,hl,_,_,_,_=>by
  simp only[fO]at hl
  rw[kI (by rw[bL];omega)]
  simp[Op.eqFields,p8]
 | .pair a b,fs,n,off,cs,cs',x,y,d,hl,he,hx,hy,hd=>by
  simp only[fO]at hl
  obtain⟨f,hf,ho,zu,Rq⟩:=hl
  simp only[wD,hf,bB]at he
  have h0:fs.toList.drop n=f::fs.toList.drop (n+1):=by
   rw[qI (l:=fs.toList) (i:=n) (by rw[bL];exact(kH.1 hf).1)]
   congr 1
   rw[Ab];exact(kH.1 hf).2
  simp only[Ty.deep]at hd
  rw[h0]
  have iI:f.name≠ "_" :=by simpa using he.1
  simp only[Op.eqFields,iI,ne_eq,not_false_eq_true,gB]
  exact Ye ho zu he.2.1 hx hy ω (λh1 h2=>Yf Rq he.2.2 h1 h2 ω)
 | .int _,_,_,_,_,_,_,_,_,hl,_,_,_,_| .bool,_,_,_,_,_,_,_,_,hl,_,_,_,_| .str,_,_,_,_,_,_,_,_,hl,_,_,_,_| .slice _,_,_,_,_,_,_,_,_,hl,_,_,_,_| .arr _ _,_,_,_,_,_,_,_,_,hl,_,_,_,_=>by simp[fO]at hl
theorem Ye{w:World}{M:Nat→Prop}{a b:Ty}{f:Field}{fs:List Field}{off:Nat}{cs cs':Array Value}{x y:(Ty.pair a b).den}{d:Nat}(ho:f.offset=off)(zu:kO P a f.type)(he:wD P a (.inl f.type)=true)
  (hx:Rd w M (.pair a b) (cs.toList.drop off) x) (hy:Rd w M (.pair a b) (cs'.toList.drop off) y) (hd:a.deep≤d)
  (hr:Rd w M b (cs.toList.drop (off+a.size)) x.2→Rd w M b (cs'.toList.drop (off+a.size)) y.2→(Op.eqFields d cs cs' fs).run P w= .ok (p8 b x.2 y.2) w):
  (do let u ←part f.type cs f.offset;let v ←part f.type cs' f.offset;let r ←Op.equalIn d f.type u v;if(!r)=true then pure false else Op.eqFields d cs cs' fs:Sem Bool).run P w= .ok (p8 (.pair a b) x y) w:=by
 simp only[Rd]at hx hy
 obtain⟨c1,c2,hc,h1,h2⟩:=hx
 obtain⟨c1',c2',Vp,qM,y6⟩:=hy
 subst ho
 have p1:(cs.toList.drop f.offset).take a.size=c1:=by rw[hc,w4 h1.length]
 have p2:(cs'.toList.drop f.offset).take a.size=c1':=by rw[Vp,w4 qM.length]
 have q1:cs.toList.drop (f.offset+a.size)=c2:=by rw[←jL,hc,nq h1.length]
 have q2:cs'.toList.drop (f.offset+a.size)=c2':=by rw[←jL,Vp,nq qM.length]
 have r1:=AF zu (w:=w) (M:=M) (cs:=cs) (off:=f.offset) (x:=x.1) (by rw[p1];exact h1)
 have r2:=AF zu (w:=w) (M:=M) (cs:=cs') (off:=f.offset) (x:=y.1) (by rw[p2];exact qM)
 have r3:=NX (d:=d) zu he (V.ofC (by rw[p1];exact h1):V w M a (VM.cR a ((cs.toList.drop f.offset).take a.size)) x.1) (V.ofC (by rw[p2];exact qM):V w M a (VM.cR a ((cs'.toList.drop f.offset).take a.size)) y.1) hd
 simp only[Sem.run_bind,r1,r2,r3,Result.andThen_ok,p8]
 cases p8 a x.1 y.1
 ·simp
 ·simpa using hr (by rw[q1];exact h2) (by rw[q2];exact y6)
end
def ab8(P:Program)(τ:Ty)(t:TypeId):Bool:= !(τ.comparable&&τ.isAgg)||(wD P τ (.inl t)&&(Nat.ble τ.deep 10000&& !P.eqGuardType P.depth t))
theorem ab9{τ:Ty}{t:TypeId}(hl:kO P τ t)(h:ab8 P τ t=true)(hc:τ.comparable=true)(ha:τ.isAgg=true):aoF P t τ:=by
 unfold ab8 at h
 rw[hc,ha]at h
 simp only[Bool.and_self,bp,uB,bB,Aw,rD]at h
 obtain⟨h1,h2,h3⟩:=h
 intro w M u v x y b xo yo hx hy
 have he:=NX (d:=10000) hl h1 hx hy h2
 unfold V at hx hy
 rw[ah ha]at hx hy
 obtain⟨cs,rfl,_⟩:=hx
 obtain⟨cs',rfl,_⟩:=hy
 refine⟨?_,?_,?_⟩
 ·cases b<;>simp[eqGuard,h3]
 ·simp only[binOp];simp[Op.equal,Op.maxDepth,he]
 ·simp only[binOp];simp[Op.equal,Op.maxDepth,he]
def apq(P:Program)(l:List (Nat×Ty)):Bool:=l.all λq=>uU P q.2 (.inl q.1)&&ab8 P q.2 q.1
end VM
end
section
namespace VM
open Go Go.WideShapes Go.RowKit Go.ChangeShapes
def WF:(τ:Ty)→τ.den→Prop
 | .int k,x=>(Lit.int k x).wf=true
 | .bool,_=>True
 | .str,s=>ByteArray.size s≤maxLen
 | .slice e,l=>List.length l≤maxLen∧ ∀i (h:i<List.length l),WF e (List.get l ⟨i,h⟩)
 | .unit,_=>True
 | .pair a b,x=>WF a x.1∧WF b x.2
 | .arr _ e,l=> ∀i (h:i<List.length l),WF e (List.get l ⟨i,h⟩)
def Ty.qD:Ty→Bool
 | .slice e=>Nat.blt 0 e.size&&e.qD
 | .pair a b=>a.qD&&b.qD
 | .arr _ e=>e.qD
 |_=>true
theorem Yg{α β:Type}{f:α→Option β}: ∀{l:List α} {r:List β},l.mapM f=some r→ ∀x∈l,∃y,f x=some y
 |[],_,_,x,hx=>by cases hx
 |a::l,r,h,x,hx=>by
  rw[An]at h
  simp only[bind,uv,pure,iA]at h
  obtain⟨y,hy,r',hr,_⟩:=h
  rcases aZ.1 hx with rfl|hx
  ·exact⟨y,hy⟩
  ·exact Yg hr x hx
theorem NY{α β:Type}{f:α→Option β}: ∀{l:List α} {r:List β},l.mapM f=some r→r.length=l.length∧ ∀i (h:i<l.length) (h':i<r.length),f l[i]=some r[i]
 |[],r,h=>by simp at h;subst h;exact⟨rfl,λi h=>by cases h⟩
 |a::l,r,h=>by
  rw[An]at h
  simp only[bind,uv,pure,iA]at h
  obtain⟨y,hy,r',hr,rfl⟩:=h
  obtain⟨h1,h2⟩:=NY hr
  refine⟨by simp[h1],λi hi nD=> ?_⟩
  cases i with
  |zero=>exact hy
  |succ i=>exact h2 i (by simpa using hi) (by simpa using nD)
theorem xy{α:Type}{p:Nat→α→Prop}: ∀n,(∀i,i<n→ ∃x,p i x)→ ∃l:List α,l.length=n∧ ∀i (h:i<l.length),p i (l.get ⟨i,h⟩)
 |0,_=>⟨[],rfl,λi h=>by cases h⟩
 |n+1,h=>by
  obtain⟨l,hl,hp⟩:=xy n (λi hi=>h i ω)
  obtain⟨x,hx⟩:=h n ω
  refine⟨l++[x],by simp[hl],λi hi=> ?_⟩
  simp only[Fl]
  by_cases fj:i<l.length
  ·rw[Fb fj];exact hp i fj
  ·have lj:i=n:=by simp at hi;omega
   subst lj
   rw[MV ω]
   simp[hl,hx]
section
variable{H:Type}{enc:TypeId×Value→H}{P:Program}{w:World}
theorem kO.cells{τ:Ty}{t:TypeId}(h:kO P τ t):P.cellsOf t=τ.size:=by
 obtain⟨i,hi,hs,_⟩:=h.base
 simp[Program.cellsOf,hi,hs]
theorem Jn{a:Addr}{n:Nat}{cs:List Value}(h:w.cells? 0 a n=some cs):cs.length=n∧ ∀j v,cs[j]? =some v→w.cell? (a.add j)=some v:=by
 unfold World.cells? at h
 rw[ah (bF _)]at h
 obtain⟨h1,h2⟩:=NY h
 rw[wZ]at h1
 refine⟨h1,λj v hj=> ?_⟩
 obtain⟨fj,rfl⟩:=vo.1 hj
 have:=h2 j (by rw[wZ];omega) fj
 rw[Fm]at this
 exact this
def Yh(H:Type)(enc:TypeId×Value→H)(P:Program)(w:World)(τ:Ty):TypeId ⊕ (Array Field×Nat×Nat)→Prop
 | .inl t=> ∀(fuel:Nat) (cs:List Value) (d:DataW H×List MemPlace),DataW.trod enc P w 0 (λ_=>true) true fuel t cs=some d→ ∃x:τ.den,Rd w (λ_=>False) τ cs x∧WF τ x
 | .inr q=> ∀(cs:List Value),cs.length=q.2.2+τ.size→(∀f∈q.1.toList,∃fuel d,DataW.trod enc P w 0 (λ_=>true) true fuel f.type ((cs.drop f.offset).take (P.cellsOf f.type))=some d)→ ∃x:τ.den,Rd w (λ_=>False) τ (cs.drop q.2.2) x∧WF τ x
theorem Jo{a b:Ty}{f:Field}{fs:Array Field}{n off:Nat}(hf:fs[n]? =some f)(ho:f.offset=off)(zu:kO P a f.type)(iha:Yh H enc P w a (.inl f.type))(Xz:Yh H enc P w b (.inr (fs,n+1,off+a.size)))
  {cs:List Value} (hc:cs.length=off+(a.size+b.size)) (ki: ∀f∈fs.toList,∃fuel d,DataW.trod enc P w 0 (λ_=>true) true fuel f.type ((cs.drop f.offset).take (P.cellsOf f.type))=some d):
  ∃x:(Ty.pair a b).den,Rd w (λ_=>False) (.pair a b) (cs.drop off) x∧WF (.pair a b) x:=by
 subst ho
 obtain⟨fuel,d,hd⟩:=ki f (by rw[Array.mem_toList_iff];exact Array.mem_of_getElem? hf)
 rw[zu.cells]at hd
 obtain⟨x,hx,hwx⟩:=iha fuel _ d hd
 obtain⟨y,hy,hwy⟩:=Xz cs (by simp only;omega) ki
 refine⟨(x,y),?_,hwx,hwy⟩
 simp only[Rd]
 refine⟨_,_,(gb a.size (cs.drop f.offset)).symm,hx,?_⟩
 rw[jL];exact hy
theorem vE: ∀{τ:Ty} {x:TypeId ⊕ (Array Field×Nat×Nat)},fO P τ x→τ.qD=true→Yh H enc P w τ x
 | .int k,.inl t,hl,_=>by
  intro fuel cs d h
  simp only[fO]at hl
  obtain⟨n,rfl,_,hw⟩:=DataW.trod_int hl.2 h
  exact⟨n,rfl,hw⟩
 | .bool,.inl t,hl,_=>by
  intro fuel cs d h
  simp only[fO]at hl
  obtain⟨b,rfl,_⟩:=DataW.trod_bool hl.2 h
  exact⟨b,rfl,trivial⟩
 | .str,.inl t,hl,_=>by
  intro fuel cs d h
  simp only[fO]at hl
  obtain⟨s,rfl,_,hs⟩:=DataW.trod_string hl.2 h
  exact⟨s,rfl,hs⟩
 | .slice e,.inl t,hl,hs=>by
  intro fuel cs d h
  simp only[fO]at hl
  obtain⟨_,e',hu,hle⟩:=hl
  simp only[Ty.qD,bB,Av]at hs
  have ih:=vE hle hs.2
  have uq:P.cellsOf e'=e.size:=kO.cells hle
  rcases DataW.trod_slice hu h with⟨rfl,_⟩|⟨a,len,cap,elems,rest,n,_,rfl,_,_,hlc,EH,hel,ki,_⟩
  ·refine⟨[],?_,bF _,λi h=>by cases h⟩
   simp only[Rd]
   exact⟨none,0,rfl,aH _,λi h=>by cases h⟩
  ·rw[uq]at ki
   have get: ∀i,i<len→ ∃cs' y,w.cells? 0 (a.add (i*e.size)) e.size=some cs'∧DataW.trod enc P w 0 (λ_=>true) true n e' cs'=some y:=λi hi=>by
    have:=ki i hi
    rw[bg ω]at this
    obtain⟨cs',h1,h2⟩:=uv.1 this
    exact⟨cs',_,h1,h2⟩
   have key: ∀i,i<len→ ∃x:e.den,(a.spot=none∧a.block<w.heap.size∧ ∃cs',At w a.block (a.off+i*e.size) cs'∧Rd w (λ_=>False) e cs' x)∧WF e x:=by
    intro i hi
    obtain⟨cs',y,KV,ht⟩:=get i hi
    obtain⟨h1,h2⟩:=Jn KV
    obtain⟨x,hx,hw⟩:=ih n cs' y ht
    have hsp:a.spot=none∧a.block<w.heap.size:=by
     obtain⟨tj,y0,avk,_⟩:=get 0 ω
     obtain⟨h10,h20⟩:=Jn avk
     have:=h20 0 tj[0] (bg ω)
     simp only[Nat.zero_mul,Addr.add,gB,World.cell?]at this
     split at this
     ·rename_i hb
      refine⟨?_,(kH.1 hb).1⟩
      split at this
      ·cases this
      ·rename_i hn;simpa using hn
     ·cases this
    refine⟨x,⟨hsp.1,hsp.2,cs',λj v hj=> ?_,hx⟩,hw⟩
    have:=h2 j v hj
    have he:(a.add (i*e.size)).add j=⟨a.block,a.off+i*e.size+j,none⟩:=by
     obtain⟨ab,ao,asp⟩:=a
     simp only at hsp
     obtain⟨rfl,_⟩:=hsp
     simp only[Addr.add]
     split<;>split<;>simp_all<;>omega
    rw[he]at this
    exact this
   obtain⟨l,hl,hp⟩:=xy len key
   refine⟨l,?_,by rw[hl];omega,λi h=>(hp i h).2⟩
   simp only[Rd]
   refine⟨some a,cap,by rw[hl],by rw[hl];exact hlc,λi h=> ?_⟩
   obtain⟨h1,h2,cs',h3,h4⟩:=(hp i h).1
   refine⟨a.block,a.off,?_,h2,λh=>h,cs',h3,h4⟩
   rw[←h1]
 | .unit,.inl t,hl,_=>by
  intro fuel cs d h
  simp only[fO]at hl
  obtain⟨⟨i,hi,uq,_⟩,fs,hu,h0⟩:=hl
  obtain⟨xs,n,_,_,hc,_⟩:=DataW.trod_struct hu h
  refine⟨(),?_,trivial⟩
  simp only[Rd]
  rw[←M5,hc]
  simp[Program.cellsOf,hi,uq,Ty.size]
 | .unit,.inr q,hl,_=>by
  intro cs hc _
  refine⟨(),?_,trivial⟩
  simp only[Rd]
  rw[kI (by rw[hc];simp[Ty.size])]
 | .pair a b,.inl t,hl,hs=>by
  intro fuel cs d h
  simp only[fO]at hl
  obtain⟨⟨i,hi,uq,_⟩,fs,f,hu,hf,ho,zu,Rq⟩:=hl
  simp only[Ty.qD,bB]at hs
  have iha:=vE zu hs.1
  have Xz:=vE Rq hs.2
  obtain⟨xs,n,_,_,hc,hxl,hxs⟩:=DataW.trod_struct hu h
  have:=Jo (b:=b) (off:=0) hf ho zu iha (by simp only[fT];exact Xz) (cs:=cs) (by rw[hc];simp[Program.cellsOf,hi,uq,Ty.size]) (λf hf=>by
   obtain⟨j,hj,rfl⟩:=rB.1 hf
   rw[bL]at hj
   have:=hxs j fs[j] (by simp[hj])
   rw[bg ω]at this
   exact⟨n,_,by rw[Ab];exact this⟩)
  rw[c0]at this
  exact this
 | .pair a b,.inr (fs,n,off),hl,hs=>by
  intro cs hc ki
  simp only[fO]at hl
  obtain⟨f,hf,ho,zu,Rq⟩:=hl
  simp only[Ty.qD,bB]at hs
  exact Jo hf ho zu (vE zu hs.1) (vE Rq hs.2) (by simpa [Ty.size]using hc) ki
 | .arr n e,.inl t,hl,hs=>by
  intro fuel cs d h
  simp only[fO]at hl
  obtain⟨⟨i,hi,uq,_⟩,e',hu,hle⟩:=hl
  simp only[Ty.qD]at hs
  have ih:=vE hle hs
  have hse:P.cellsOf e'=e.size:=kO.cells hle
  obtain⟨xs,m,_,_,hc,hxl,hxs⟩:=DataW.trod_array hu h
  have hlen:cs.length=n*e.size:=by rw[hc];simp[Program.cellsOf,hi,uq,Ty.size]
  have key: ∀i,i<n→ ∃x:e.den,Rd w (λ_=>False) e ((cs.drop (i*e.size)).take e.size) x∧WF e x:=λi hi=>by
   have:=hxs i hi
   rw[bg ω,hse]at this
   exact ih m _ _ this
  obtain⟨l,H8,hp⟩:=xy n key
  refine⟨l,?_,λi h=>(hp i h).2⟩
  simp only[Rd]
  refine⟨H8,(List.range n).map λi=>(cs.drop (i*e.size)).take e.size,by simp,?_,λi h h'=> ?_⟩
  ·clear hxs h key hp H8 hu
   have: ∀m,m≤n→cs.take (m*e.size)=((List.range m).map λi=>(cs.drop (i*e.size)).take e.size).flatten:=by
    intro m
    induction m with
    |zero=>simp
    |succ m ihm=>
     intro hm
     rw[FA,dg,List.flatten_append,←ihm ω]
     simp only[bR,gQ,Af,List.flatten_nil,cH]
     rw[eE,kb,List.take_add]
   have h2:=this n (aH _)
   rw[jK ω]at h2
   exact h2
  ·have:=(hp i h).1
   simpa using this
 | .int _,.inr _,h,_| .bool,.inr _,h,_| .str,.inr _,h,_| .slice _,.inr _,h,_| .arr _ _,.inr _,h,_=>by simp[fO]at h
theorem aj5{τ:Ty}{t:TypeId}{r:Reach}{b0:Nat}{v:Value}{d:DataW H}{ps:List MemPlace}(hl:kO P τ t)(hs:τ.qD=true)(hv:Value.okWide P w r b0 t v)(h:DataW.Trod enc P w 0 (λ_=>true) true t v d ps):
  ∃x:τ.den,V w (λ_=>False) τ v x∧WF τ x:=by
 obtain⟨fuel,h⟩:=h
 obtain⟨x,hx,hw⟩:=vE (H:=H) (enc:=enc) (w:=w) hl hs fuel _ _ h
 refine⟨x,?_,hw⟩
 unfold V
 cases τ with
 |int k=>
  obtain⟨n,rfl⟩:=okWide_int hl.int hv
  exact hx
 |bool=>
  obtain⟨n,rfl⟩:=okWide_bool hl.bool hv
  exact hx
 |str=>
  obtain⟨n,rfl⟩:=okWide_string hl.str hv
  exact hx
 |slice e=>
  obtain⟨e',hu,_⟩:=hl.slice
  obtain⟨a,len,cap,rfl⟩:=okWide_slice hu hv
  exact hx
 |unit=>
  simp only[kO,fO]at hl
  obtain⟨_,fs,hu,_⟩:=hl
  simp only[Value.okWide,hu]at hv
  obtain⟨cs,rfl,_⟩:=hv
  exact⟨cs,rfl,hx⟩
 |pair a b=>
  simp only[kO,fO]at hl
  obtain⟨_,fs,f,hu,_⟩:=hl
  simp only[Value.okWide,hu]at hv
  obtain⟨cs,rfl,_⟩:=hv
  exact⟨cs,rfl,hx⟩
 |arr n e=>
  obtain⟨e',hu,_⟩:=hl.arr
  simp only[Value.okWide,hu]at hv
  obtain⟨cs,rfl,_⟩:=hv
  exact⟨cs,rfl,hx⟩
def WFs:(ms:List Ty)→HP (ms.map .v)→Prop
 |[],_=>True
 |_::ms,x=>WF _ (ur x)∧WFs ms (yM x)
def hpC:{m:AM}→{ms:List AM}→m.den→HP ms→HP (m::ms)
 |_,[],x,_=>x
 |_,_::_,x,y=>(x,y)
theorem TH{m:AM}: ∀{ms:List AM} (x:m.den) (y:HP ms),ur (hpC x y)=x
 |[],_,_=>rfl
 |_::_,_,_=>rfl
theorem TI{m:AM}: ∀{ms:List AM} (x:m.den) (y:HP ms),yM (hpC x y)=y
 |[],_,()=>rfl
 |_::_,_,_=>rfl
theorem Jp(laid:laidOutB P=true){r:Reach}{b0:Nat}: ∀{τs:List Ty} {ts:List TypeId} {vs:List Value} {ds:List (DataW H)} {ps:List MemPlace},DataW.TrodAll enc P w 0 (λ_=>true) true ts vs ds ps→
  τs.length=ts.length→(∀(j:Nat) τ t,τs[j]? =some τ→ts[j]? =some t→(kO P τ t∧τ.qD=true∧P.readableRec t=true∧t<P.types.size))→
  (∀(j:Nat) t v,ts[j]? =some t→vs[j]? =some v→Value.okWide P w r b0 t v)→
  (∃x:HP (τs.map .v),jM w (λ_=>False) (τs.map .v) x vs∧WFs τs x)∧ ∀w',Below w.heap.size w w'→ ∃H9,DataW.TrodAll enc P w' 0 (λb=>decide (b<w.heap.size)) true ts vs ds H9
 |[],[],vs,ds,ps,h,_,_,_=>by
  obtain⟨rfl,rfl,rfl⟩:=trodAll_nil h
  exact⟨⟨(),rfl,trivial⟩,λw' _=>⟨[],rfl⟩⟩
 |τ::τs,t::ts,vs,ds,ps,h,hl,FR,hv=>by
  obtain⟨v,MK,d,ds',p,q,rfl,rfl,rfl,h1,h2⟩:=trodAll_cons h
  obtain⟨AI,aj6,hrr,fj⟩:=FR 0 τ t rfl rfl
  obtain⟨x,hx,hwx⟩:=aj5 AI aj6 (hv 0 t v rfl rfl) h1
  obtain⟨⟨y,hy,hwy⟩,Yi⟩:=Jp laid h2 (by simpa using hl) (λj τ' t' h h'=>FR (j+1) τ' t' (by simpa using h) (by simpa using h')) (λj t' v' h h'=>hv (j+1) t' v' (by simpa using h) (by simpa using h'))
  refine⟨⟨hpC (m:= .v τ) x y,?_,?_⟩,λw' hb=> ?_⟩
  ·show jM w _ (.v τ::τs.map .v) _ _
   simp only[jM]
   exact⟨v,MK,rfl,by rw[TH];exact hx,by rw[TI];exact hy⟩
  ·simp only[WFs]
   exact⟨by rw[TH];exact hwx,by rw[TI];exact hwy⟩
  ·obtain⟨H9,h'⟩:=Yi w' hb
   have xq: ∀z∈p,z.block<w.heap.size:=by
    obtain⟨m,hm⟩:=h1
    exact DataW.trod_lt m _ _ _ hm
   exact⟨p++H9,trodAll_cons_mk (Below.trod laid hrr fj h1 hb xq) h'⟩
 |[],_::_,_,_,_,_,hl,_,_|_::_,[],_,_,_,_,hl,_,_=>by simp at hl
end
end VM
end
section
namespace VM
open Go
variable{α:Type}
def AZ(L:Nat→Option (List (Nat×CM)))(κ:Nat→St→Option α)(i:Option Nat)(f:St→Option α):St→Option α:=
 match i with
 |none=>f
 |some i=>match L i with
  |none=>f
  |some _=>κ i
def Yj(E:Env)(κJ κL:Nat→St→Option α)(c:Code):St→(St→Option α)→(Nat→St→Option α)→(St→Option α)→Option α:=
 Code.rec (motive:=λ_=>St→(St→Option α)→(Nat→St→Option α)→(St→Option α)→Option α)
  (fun σ k _ _=>k σ)
  (λ_ ops draw σ k _ _=>ED E ops draw σ k)
  (λ_ b A B σ k kx kr=>A σ (fun σ'=>xg ((cS b).bind E.yG) σ' (AZ E.yG κJ (cS b) λwK=>B wK k kx kr)) kx kr)
  (λc _ _ A B σ k kx kr=>I4 E c σ (fun σ'=>A σ' k kx kr) (fun σ'=>B σ' k kx kr))
  (λid _ A σ k kx kr=>A σ k (λi σ'=>cond (Nat.beq i id) (k σ') (kx i σ')) kr)
  (λb _ σ _ kx kr=>xg ((cS b).bind E.xc) σ (AZ E.xc κL (cS b) (C3 ((cS b).bind E.xc) (fun σ' kn=>EE E b σ' kn kx kr) E.N)))
  (λ_ _ _ _ _ _ _ _ _ _=>none)
  (λid σ _ kx _=>kx id σ)
  (λ_ A σ k kx kr=>A σ k kx kr)
  (λ_ σ k _ _=>k σ)
  (λ_ _ _ _ _=>none)
  (fun σ _ _ kr=>kr σ)
  (λ_ _ _ _ _=>none)
  c
def Gf(E:Env)(c:Code):(St→Option α)→(Nat→St→Option α)→(St→Option α)→List (Bool×Nat×(St→Option α)):=
 Code.rec (motive:=λ_=>(St→Option α)→(Nat→St→Option α)→(St→Option α)→List (Bool×Nat×(St→Option α)))
  (λ_ _ _=>[])
  (λ_ _ _ _ _ _=>[])
  (λ_ b A B k kx kr=>A (fun σ'=>xg ((cS b).bind E.yG) σ' λwK=>EE E b wK k kx kr) kx kr++(((cS b).toList.map λi=>(false,i,λwK=>EE E b wK k kx kr))++B k kx kr))
  (λ_ _ _ A B k kx kr=>A k kx kr++B k kx kr)
  (λid _ A k kx kr=>A k (λi σ'=>cond (Nat.beq i id) (k σ') (kx i σ')) kr)
  (λb _ _ kx kr=>(cS b).toList.map λi=>(true,i,C3 ((cS b).bind E.xc) (fun σ' kn=>EE E b σ' kn kx kr) E.N))
  (λ_ _ _ _ _ _ _ _ _=>[])
  (λ_ _ _ _=>[])
  (λ_ A k kx kr=>A k kx kr)
  (λ_ _ _ _=>[])
  (λ_ _ _ _=>[])
  (λ_ _ _=>[])
  (λ_ _ _ _=>[])
  c
def xz(E:Env)(κJ κL:Nat→St→Option α):List (Bool×Nat×(St→Option α))→List ((St→Option α)×(St→Option α))
 |[]=>[]
 |q::r=>match q.1 with
  |false=>match E.yG q.2.1 with
   |some _=>(κJ q.2.1,q.2.2)::xz E κJ κL r
   |none=>xz E κJ κL r
  |true=>match E.xc q.2.1 with
   |some _=>(κL q.2.1,q.2.2)::xz E κJ κL r
   |none=>xz E κJ κL r
def Iz(E:Env)(κJ κL:Nat→St→Option α)(l:List (Bool×Nat×(St→Option α))):Prop:= ∀p∈xz E κJ κL l,p.1=p.2
theorem aj7{E:Env}{κJ κL:Nat→St→Option α}{l:List (Bool×Nat×(St→Option α))}(g:List (St→Option α))(h:xz E κJ κL l=g.map λf=>(f,f)):Iz E κJ κL l:=by
 intro p hp
 rw[h]at hp
 obtain⟨f,_,rfl⟩:=cL.1 hp
 rfl
theorem Dn{E:Env}{κJ κL:Nat→St→Option α}: ∀(l m:List (Bool×Nat×(St→Option α))),xz E κJ κL (l++m)=xz E κJ κL l++xz E κJ κL m
 |[],m=>rfl
 |(b,i,f)::l,m=>by
  have ih:=Dn (E:=E) (κJ:=κJ) (κL:=κL) l m
  cases b<;>simp only[kK,xz]<;>split<;>simp[ih]
theorem Iz.app{E:Env}{κJ κL:Nat→St→Option α}{l m:List (Bool×Nat×(St→Option α))}(h:Iz E κJ κL (l++m)):Iz E κJ κL l∧Iz E κJ κL m:=by
 unfold Iz at*
 rw[Dn]at h
 exact⟨λp hp=>h p (c3 _ hp),λp hp=>h p (dK _ hp)⟩
theorem ait{E:Env}{κJ κL:Nat→St→Option α}{i:Option Nat}{f:St→Option α}(h:Iz E κJ κL (i.toList.map λi=>(false,i,f))):AZ E.yG κJ i f=f:=by
 cases i with
 |none=>rfl
 |some i=>
  simp only[Option.toList,List.map,Iz,xz]at h
  unfold AZ
  cases hL:E.yG i with
  |none=>simp[hL]
  |some L=>rw[hL]at h;simp only[hL];exact h (κJ i,f) (cr.2 rfl)
theorem apu{E:Env}{κJ κL:Nat→St→Option α}{i:Option Nat}{f:St→Option α}(h:Iz E κJ κL (i.toList.map λi=>(true,i,f))):AZ E.xc κL i f=f:=by
 cases i with
 |none=>rfl
 |some i=>
  simp only[Option.toList,List.map,Iz,xz]at h
  unfold AZ
  cases hL:E.xc i with
  |none=>simp[hL]
  |some L=>rw[hL]at h;simp only[hL];exact h (κL i,f) (cr.2 rfl)
theorem Yk{E:Env}{κJ κL:Nat→St→Option α}(c:Code): ∀(k:St→Option α) (kx:Nat→St→Option α) (kr:St→Option α) (σ:St),Iz E κJ κL (Gf E c k kx kr)→Yj E κJ κL c σ k kx kr=EE E c σ k kx kr:=by
 induction c with
 |skip=>intros;rfl
 |region=>intros;rfl
 |seq a b iha Xz=>
  intro k kx kr σ h
  obtain⟨h1,h2⟩:=Iz.app (h:Iz E κJ κL (Gf E a _ kx kr++(((cS b).toList.map λi=>(false,i,λwK=>EE E b wK k kx kr))++Gf E b k kx kr)))
  obtain⟨h2,h3⟩:=Iz.app h2
  show Yj E κJ κL a σ (fun σ'=>xg ((cS b).bind E.yG) σ' (AZ E.yG κJ (cS b) λwK=>Yj E κJ κL b wK k kx kr)) kx kr=EE E a σ (fun σ'=>xg ((cS b).bind E.yG) σ' λwK=>EE E b wK k kx kr) kx kr
  have hb:(λwK=>Yj E κJ κL b wK k kx kr)=λwK=>EE E b wK k kx kr:=funext λwK=>Xz k kx kr wK h3
  rw[hb,ait h2]
  exact iha _ _ _ _ h1
 |cond x a b iha Xz=>
  intro k kx kr σ h
  obtain⟨h1,h2⟩:=Iz.app (h:Iz E κJ κL (Gf E a k kx kr++Gf E b k kx kr))
  show I4 E x σ (fun σ'=>Yj E κJ κL a σ' k kx kr) (fun σ'=>Yj E κJ κL b σ' k kx kr)=I4 E x σ (fun σ'=>EE E a σ' k kx kr) (fun σ'=>EE E b σ' k kx kr)
  rw[show(fun σ'=>Yj E κJ κL a σ' k kx kr)=fun σ'=>EE E a σ' k kx kr from funext fun σ'=>iha k kx kr σ' h1,show(fun σ'=>Yj E κJ κL b σ' k kx kr)=fun σ'=>EE E b σ' k kx kr from funext fun σ'=>Xz k kx kr σ' h2]
 |block id x ih=>intro k kx kr σ h;exact ih _ _ _ σ h
 |loop b _=>
  intro k kx kr σ h
  show xg ((cS b).bind E.xc) σ (AZ E.xc κL (cS b) (C3 ((cS b).bind E.xc) (fun σ' kn=>EE E b σ' kn kx kr) E.N))=xg ((cS b).bind E.xc) σ (C3 ((cS b).bind E.xc) (fun σ' kn=>EE E b σ' kn kx kr) E.N)
  rw[apu (h:Iz E κJ κL ((cS b).toList.map λi=>(true,i,_)))]
 |rangeFunc=>intros;rfl
 |exit=>intros;rfl
 |scope x ih=>intro k kx kr σ h;exact ih _ _ _ σ h
 |label=>intros;rfl
 |goto=>intros;rfl
 |ret=>intros;rfl
 |refuse=>intros;rfl
def om(E:Env)(κJ κL:Nat→St→Option α):List Nat→Code→List (St→Option α)→St→(St→Option α)→(Nat→St→Option α)→(St→Option α)→Option α
 |[],c,_,σ,k,kx,kr=>Yj E κJ κL c σ k kx kr
 |n::p,c,ks,σ,k,kx,kr=>match c with
  | .seq a b=>match n with
   |0=>om E κJ κL p a ks σ (fun σ'=>xg ((cS b).bind E.yG) σ' (AZ E.yG κJ (cS b) λwK=>Yj E κJ κL b wK k kx kr)) kx kr
   |_=>om E κJ κL p b ks σ k kx kr
  | .cond _ a b=>match n with
   |0=>om E κJ κL p a ks σ k kx kr
   |_=>om E κJ κL p b ks σ k kx kr
  | .block id c=>om E κJ κL p c ks σ k (λi σ'=>cond (Nat.beq i id) (k σ') (kx i σ')) kr
  | .loop b=>match ks with
   |κ::ks=>om E κJ κL p b ks σ κ kx kr
   |[]=>none
  | .scope c=>om E κJ κL p c ks σ k kx kr
  |_=>none
def gU(E:Env):List Nat→Code→List (St→Option α)→(St→Option α)→(Nat→St→Option α)→(St→Option α)→List (Bool×Nat×(St→Option α))
 |[],c,_,k,kx,kr=>Gf E c k kx kr
 |n::p,c,ks,k,kx,kr=>match c with
  | .seq a b=>match n with
   |0=>((cS b).toList.map λi=>(false,i,λwK=>EE E b wK k kx kr))++(Gf E b k kx kr++gU E p a ks (fun σ'=>xg ((cS b).bind E.yG) σ' λwK=>EE E b wK k kx kr) kx kr)
   |_=>gU E p b ks k kx kr
  | .cond _ a b=>match n with
   |0=>gU E p a ks k kx kr
   |_=>gU E p b ks k kx kr
  | .block id c=>gU E p c ks k (λi σ'=>cond (Nat.beq i id) (k σ') (kx i σ')) kr
  | .loop b=>match ks with
   |κ::ks=>gU E p b ks κ kx kr
   |[]=>[]
  | .scope c=>gU E p c ks k kx kr
  |_=>[]
theorem nI{E:Env}{κJ κL:Nat→St→Option α}: ∀(p:List Nat) (c:Code) (ks:List (St→Option α)) (k:St→Option α) (kx:Nat→St→Option α) (kr:St→Option α) (σ:St),Iz E κJ κL (gU E p c ks k kx kr)→
  om E κJ κL p c ks σ k kx kr=wL E p c ks σ k kx kr
 |[],c,ks,k,kx,kr,σ,h=>Yk c k kx kr σ h
 |n::p,c,ks,k,kx,kr,σ,h=>by
  cases c with
  |seq a b=>
   cases n with
   |zero=>
    simp only[om,wL,gU]at h ⊢
    obtain⟨h1,h2⟩:=Iz.app h
    obtain⟨h2,h3⟩:=Iz.app h2
    rw[show(λwK=>Yj E κJ κL b wK k kx kr)=λwK=>EE E b wK k kx kr from funext λwK=>Yk b k kx kr wK h2,ait h1]
    exact nI p a ks _ kx kr σ h3
   |succ n=>simp only[om,wL,gU]at h ⊢;exact nI p b ks k kx kr σ h
  |cond x a b=>
   cases n with
   |zero=>simp only[om,wL,gU]at h ⊢;exact nI p a ks k kx kr σ h
   |succ n=>simp only[om,wL,gU]at h ⊢;exact nI p b ks k kx kr σ h
  |block id x=>simp only[om,wL,gU]at h ⊢;exact nI p x ks k _ kr σ h
  |loop b=>
   cases ks with
   |nil=>simp only[om,wL]
   |cons κ ks=>simp only[om,wL,gU]at h ⊢;exact nI p b ks κ kx kr σ h
  |scope x=>simp only[om,wL,gU]at h ⊢;exact nI p x ks k kx kr σ h
  |_=>simp only[om,wL]
def Gg(fn:Func):Code:=fn.body.getD .skip
def NZ(E:Env)(fn:Func)(args res:List AM):St→Option (HP res):=fun σ=>KO E res (fn.results.toList.map .inl++zk args 0) σ some
def nox:Nat→St→Option α:=λ_ _=>none
def aCr:St→Option α:=λ_=>none
def atF(E:Env)(fn:Func)(args res:List AM)(p:List Nat)(ks:List (St→Option (HP res)))(σ:St):Option (HP res):=
 wL E p (Gg fn) ks σ (NZ E fn args res) nox (NZ E fn args res)
def atQ(E:Env)(fn:Func)(args res:List AM)(κJ κL:Nat→St→Option (HP res))(p:List Nat)(ks:List (St→Option (HP res)))(σ:St):Option (HP res):=
 om E κJ κL p (Gg fn) ks σ (NZ E fn args res) nox (NZ E fn args res)
def aca(E:Env)(fn:Func)(args res:List AM)(p:List Nat)(ks:List (St→Option (HP res))):List (Bool×Nat×(St→Option (HP res))):=
 gU E p (Gg fn) ks (NZ E fn args res) nox (NZ E fn args res)
theorem avn{E:Env}{fn:Func}{args res:List AM}{κJ κL:Nat→St→Option (HP res)}{p:List Nat}{ks:List (St→Option (HP res))}(g:List (St→Option (HP res)))(h:xz E κJ κL (aca E fn args res p ks)=g.map λf=>(f,f))(σ:St):
 atF E fn args res p ks σ=atQ E fn args res κJ κL p ks σ:=(nI p _ ks _ _ _ σ (aj7 g h)).symm
theorem aj9{E:Env}{fn:Func}{args res:List AM}(hb:fn.body.isSome=true)(x:HP args):Rk E fn args res x=atF E fn args res [] [] (entry args x 0 S0):=by
 unfold Rk atF Gg
 cases h:fn.body with
 |none=>rw[h]at hb;cases hb
 |some c=>rfl
def lpF(E:Env)(fn:Func)(args res:List AM)(c:List (Nat×CM))(p:List Nat)(ks:List (St→Option (HP res)))(n:Nat):St→Option (HP res):=
 C3 (some c) (fun σ kn=>atF E fn args res p (ks++[kn]) σ) n
theorem Yl(E:Env)(fn:Func)(args res:List AM)(c:List (Nat×CM))(p:List Nat)(ks:List (St→Option (HP res)))(n:Nat)(σ:St):
 lpF E fn args res c p ks (n+1) σ=atF E fn args res p (ks++[fun σ'=>xg (some c) σ' (lpF E fn args res c p ks n)]) σ:=rfl
def Ym{β:Type}(κ:Nat→β):List (Nat×β)→Prop
 |[]=>True
 |q::r=>κ q.1=q.2∧Ym κ r
def Vq{β:Type}:List (β×β)→Prop
 |[]=>True
 |q::r=>q.1=q.2∧Vq r
theorem Vq.mem{β:Type}: ∀{l:List (β×β)},Vq l→ ∀p∈l,p.1=p.2
 |q::r,h,p,hp=>by
  rcases aZ.1 hp with rfl|hp
  ·exact h.1
  ·exact Vq.mem h.2 p hp
theorem apv{β:Type}(d:β): ∀(l:List (Nat×β)),(l.map (·.1)).Nodup→ ∃κ:Nat→β,Ym κ l
 |[],_=>⟨λ_=>d,trivial⟩
 |q::r,h=>by
  rw[bR,Al]at h
  obtain⟨κ,hκ⟩:=apv d r h.2
  refine⟨λi=>if i=q.1 then q.2 else κ i,by simp,?_⟩
  have key: ∀(r':List (Nat×β)),(∀p∈r',p∈r)→Ym κ r'→Ym (λi=>if i=q.1 then q.2 else κ i) r':=by
   intro r'
   induction r' with
   |nil=>intros;trivial
   |cons p r' ih=>
    intro hm ha
    refine⟨?_,ih (λp' D2=>hm p' (a7 _ D2)) ha.2⟩
    have iI:p.1≠q.1:=λe=>h.1 (e▸fa (hm p (bh ..)))
    show(if p.1=q.1 then q.2 else κ p.1)=p.2
    rw[aj iI]
    exact ha.1
  exact key r (λ_ h=>h) hκ
theorem aAa{β:Type}(d:β)(l:List (Nat×β)){ks:List Nat}(h:l.map (·.1)=ks)(hd:ks.Nodup): ∃κ:Nat→β,Ym κ l:=apv d l (h▸hd)
theorem at_eq(E:Env)(fn:Func)(args res:List AM){κJ κL:Nat→St→Option (HP res)}{p:List Nat}{ks:List (St→Option (HP res))}{l:List ((St→Option (HP res))×(St→Option (HP res)))}(h:xz E κJ κL (aca E fn args res p ks)=l)(hl:Vq l)(σ:St):
 atF E fn args res p ks σ=atQ E fn args res κJ κL p ks σ:=(nI p _ ks _ _ _ σ (by unfold Iz;rw[show xz E κJ κL (gU E p (Gg fn) ks (NZ E fn args res) nox (NZ E fn args res))=l from h];exact hl.mem)).symm
end VM
end
section
namespace VM
open Go Go.RowKit
variable{P:Program}
def N0(i:Nat):List (Nat×Ty)→Option Ty
 |[]=>none
 |q::r=>cond (Nat.beq i q.1) (some q.2) (N0 i r)
theorem Jq{i:Nat}{τ:Ty}: ∀{l:List (Nat×Ty)},N0 i l=some τ→(i,τ)∈l
 |q::r,h=>by
  unfold N0 at h
  cases hb:Nat.beq i q.1<;>rw[hb]at h
  ·exact a7 _ (Jq h)
  ·cases h;rw[fR hb];exact bh ..
structure Gh(P:Program)(tab:List (Nat×Ty)):Prop where
 ok:apq P tab=true
 mixed:P.follows .mixedOrders=true
theorem Vr{E:Env}(hE:uS P E)(avp:E.io=[]){f:FuncId}{fn:Func}(hf:P.funcs[f]? =some fn)(τs:List Ty)
  (hc:(Nat.beq E.nt fn.ntmps&&Nat.ble τs.length E.nt)=true) {w:World} {vs:List Value} {x:HP (τs.map .v)} (hA:jM w (λ_=>False) (τs.map .v) x vs)
  (h:Rk E fn (τs.map .v) [.v .bool] x=some true):Calls P f vs.toArray w λe w'=>e= .returned (.bool true)∧Below w.heap.size w w':=by
 rw[bB]at hc
 have hnt:=fR hc.1
 have hlen:=Fh hc.2
 have hh: ∀(τs:List Ty) (vs:List Value),dX (τs.map .v) vs=[]:=by
  intro τs
  induction τs with
  |nil=>intro vs;cases vs<;>rfl
  |cons τ τs ih=>intro vs;cases vs with
   |nil=>rfl
   |cons v vs=>simp[dX,dh,ih]
 have hi: ∀(τs:List Ty) (vs:List Value),fx (τs.map .v) vs=[]:=by
  intro τs
  induction τs with
  |nil=>intro vs;cases vs<;>rfl
  |cons τ τs ih=>intro vs;cases vs with
   |nil=>rfl
   |cons v vs=>simp[fx,AM.iJ,ih]
 refine(Jm (M0:=λ_=>False) (vs:=vs) hE hf hnt (λi m hm wB=> ?_) (λi hi=>by rw[avp]at hi;cases hi) (by rw[cI];rw[←hnt];exact hlen) (λb hb=>hb.elim) (by rw[hh];simpa using hA) (by rw[hh];exact List.nodup_nil) (λb _ hb=>hb) h).mono ?_
 ·rw[nj]at hm
  obtain⟨τ,_,rfl⟩:=z8.1 hm
  cases wB
 ·rintro e w' ⟨v,rfl,us,M',rfl,Xi,hL,_,_⟩
  rw[hh]at hL
  rw[hi]at Xi
  simp only[RR]at Xi
  rcases Xi with⟨p,H9,h1,_⟩|⟨v,MK,_,_,rfl,hv,rfl,_⟩
  ·cases h1
  ·refine⟨?_,hL.os,hL.tape,hL.output,hL.size,λb hb=>hL.frame b hb (by simp)⟩
   have:v= .bool true:=by
    simp only[A1,V,Ty.isAgg,jd,fc,Rd,fu,ec]at hv
    exact hv
   rw[this];rfl
def Yn(P:Program):List Ty→List TypeId→Bool
 |[],[]=>true
 |τ::τs,t::ts=>(uU P τ (.inl t)&&τ.qD)&&((P.readableRec t&&decide (t<P.types.size))&&Yn P τs ts)
 |_,_=>false
theorem Lc: ∀{τs:List Ty} {ts:List TypeId},Yn P τs ts=true→τs.length=ts.length∧ ∀(j:Nat) τ t,τs[j]? =some τ→ts[j]? =some t→(kO P τ t∧τ.qD=true∧P.readableRec t=true∧t<P.types.size)
 |[],[],_=>⟨rfl,λj τ t h=>by simp at h⟩
 |τ::τs,t::ts,h=>by
  simp only[Yn,bB]at h
  obtain⟨⟨h1,h2⟩,⟨h3,h4⟩,h5⟩:=h
  obtain⟨hl,ih⟩:=Lc h5
  refine⟨by simp[hl],λj τ' t' ha hb=> ?_⟩
  cases j with
  |zero=>
   simp only[M6,iA]at ha hb
   subst ha;subst hb
   exact⟨gI h1,h2,h3,bA h4⟩
  |succ j=>exact ih j τ' t' (by simpa using ha) (by simpa using hb)
 |[],_::_,h|_::_,[],h=>by simp[Yn]at h
theorem Yo{H:Type}{enc:TypeId×Value→H}{w:World}{fn:Func}{args:Array Value}{ds:List (DataW H)}{ps:List MemPlace}{r:Reach}{b0:Nat}(laid:laidOutB P=true)(τs:List Ty)
  (hA:DataW.TrodAll enc P w 0 (λ_=>true) true fn.params.toList args.toList ds ps) (FR:Yn P τs fn.params.toList=true)
  (hv: ∀(j:Nat) t v,fn.params[j]? =some t→args[j]? =some v→Value.okWide P w r b0 t v):
  (∃x:HP (τs.map .v),jM w (λ_=>False) (τs.map .v) x args.toList∧WFs τs x)∧ ∀w',Below w.heap.size w w'→ ∃H9,DataW.TrodAll enc P w' 0 (λb=>decide (b<w.heap.size)) true fn.params.toList args.toList ds H9:=
 Jp laid hA (Lc FR).1 (Lc FR).2 (λj t v h h'=>hv j t v (by rw[gP]at h;exact h) (by rw[gP]at h';exact h'))
end VM
end
