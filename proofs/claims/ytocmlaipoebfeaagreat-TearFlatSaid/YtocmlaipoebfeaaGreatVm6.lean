/- A part of the proof of TearFlat of layer 29: a machine that reads a function of the program as an equation between values. -/
import Derived.Test.YtocmlaipoebfeaaGreatVm5
import Derived.Laws.StructEq
import Derived.OpenShut
import Derived.ChangeShapes
import Derived.ChangeMaps5
import Derived.RowKit
import Derived.ChangeOld
import Derived.Carry
import Derived.Below
import Derived.Test.YtocmlaipoebfeaaGreatVm0
set_option linter.all false
noncomputable section
section
namespace VM
open Go
variable{P:Program}{E:Env}{o:Oper}{a:Act}{w:World}{M:Nat→Prop}{ν:Nat→Value}{σ:St}{c:Ctx}{α:Type}{r:α}{next:Act→World→Prop}{Q:Exit→Act→World→Prop}
theorem CD{L:Option (List (Nat×CM))}(hL: ∀L',L=some L'→kg L'=true){b:Code}{Q:Exit→Act→World→Prop}{step:St→(St→Option α)→Option α}
  (hs: ∀σ a w kn (Q':Exit→Act→World→Prop),Inv c E σ a w→step σ kn=some r→(∀σ' a' w',kn σ'=some r→Inv c E σ' a' w'→Q' .normal a' w')→(∀e a' w',e≠ .normal→Q e a' w'→Q' e a' w')→b.wp P Q' a w):
  ∀n σ a w,Inv c E σ a w→Cn L step n σ=some r→Code.rounds P b Q n a w
 |0,σ,a,w,_,h=>by cases h
 |n+1,σ,a,w,hI,h=>by
  rw[rounds_succ]
  refine hs σ a w _ _ hI h (fun σ' a' w' h' yw=> ?_) (λe a' w' he hq=> ?_)
  ·obtain⟨vQ,JW,ahu⟩:=yM yw hL h'
   exact CD hL hs n vQ a' w' ahu JW
  ·cases e<;>first|exact hq|exact absurd rfl he
theorem Tj(hE:tZ P E): ∀(cd:Code) (σ:St) (a:Act) (w:World) (k:St→Option α) (kx:Nat→St→Option α) (kr:St→Option α) (Q:Exit→Act→World→Prop),Inv c E σ a w→DY E cd σ k kx kr=some r→
  (∀σ' a' w',k σ'=some r→Inv c E σ' a' w'→Q .normal a' w')→(∀i σ' a' w',kx i σ'=some r→Inv c E σ' a' w'→Q (.exit i) a' w')→(∀σ' a' w',kr σ'=some r→Inv c E σ' a' w'→Q .ret a' w')→cd.wp P Q a w:=by
 intro cd
 induction cd with
 |skip=>intro σ a w k kx kr Q hI h hk _ _;exact wp_skip (hk σ a w h hI)
 |region id ops draw=>intro σ a w k kx kr Q hI h hk _ _;exact HE hE hI h hk
 |seq x y ihx ihy=>
  intro σ a w k kx kr Q hI h hk hx hr
  refine wp_seq (ihx σ a w _ kx kr _ hI h (fun σ' a' w' h' yw=> ?_) hx hr)
  obtain⟨vQ,JW,ahu⟩:=yM yw (λL' hL=>by
   cases hf:cJ y with
   |none=>rw[hf]at hL;cases hL
   |some i=>rw[hf]at hL;exact hE.Vz i L' hL) h'
  exact ihy vQ a' w' k kx kr Q ahu JW hk hx hr
 |cond x t e iht ihe=>
  intro σ a w k kx kr Q hI h hk hx hr
  obtain⟨b,hb,h⟩:=Mt (E:=E) (A:=fun σ'=>DY E t σ' k kx kr) (B:=fun σ'=>DY E e σ' k kx kr) hI h
  refine wp_cond hb ?_
  cases b
  ·exact ihe σ a w k kx kr Q hI h hk hx hr
  ·exact iht σ a w k kx kr Q hI h hk hx hr
 |block id x ih=>
  intro σ a w k kx kr Q hI h hk hx hr
  refine wp_block (ih σ a w k _ kr _ hI h hk (λi σ' a' w' h' yw=> ?_) hr)
  show if i=id then Q .normal a' w' else Q (.exit i) a' w'
  cases hb:Nat.beq i id
  ·have iI:i≠id:=λe=>by subst e;rw[show Nat.beq i i=true from tK i]at hb;cases hb
   rw[hb]at h'
   rw[ah iI]
   exact hx i σ' a' w' h' yw
  ·rw[hb]at h'
   rw[aj (fV hb)]
   exact hk σ' a' w' h' yw
 |loop b ih=>
  intro σ a w k kx kr Q hI h hk hx hr
  have hL: ∀L',(cJ b).bind E.wz=some L'→kg L'=true:=λL' hL=>by
   cases hf:cJ b with
   |none=>rw[hf]at hL;cases hL
   |some i=>rw[hf]at hL;exact hE.kg i L' hL
  obtain⟨σ',h',yw⟩:=yM hI hL h
  refine wp_loop_rounds E.N (CD hL (fun σ a w kn Q' hI h hkn hq=> ?_) E.N σ' a w yw h')
  exact ih σ a w kn kx kr Q' hI h hkn (λi σ' a' w' h' yw=>hq _ _ _ (by simp) (hx i σ' a' w' h' yw)) (fun σ' a' w' h' yw=>hq _ _ _ (by simp) (hr σ' a' w' h' yw))
 |rangeFunc f ps x y ihx ihy=>intro σ a w k kx kr Q hI h;cases h
 |exit id=>intro σ a w k kx kr Q hI h hk hx hr;exact wp_exit (hx id σ a w h hI)
 |scope x ih=>
  intro σ a w k kx kr Q hI h hk hx hr
  exact wp_scope_straight (ih σ a w k kx kr _ hI h hk hx hr)
 |label l=>intro σ a w k kx kr Q hI h hk _ _;exact wp_label (hk σ a w h hI)
 |goto l=>intro σ a w k kx kr Q hI h;cases h
 |ret=>intro σ a w k kx kr Q hI h hk hx hr;exact wp_ret (hr σ a w h hI)
 |refuse s=>intro σ a w k kx kr Q hI h;cases h
end VM
end
section
namespace VM
open Go
variable{P:Program}{E:Env}{o:Oper}{a:Act}{w:World}{M:Nat→Prop}{ν:Nat→Value}{σ:St}{c:Ctx}{α:Type}{r:α}{next:Act→World→Prop}{Q:Exit→Act→World→Prop}
theorem P6{m:AM}{ms:List AM}(x:HP (m::ms))(i:Nat)(σ:St):entry (m::ms) x i σ=entry ms (yf x) (i+1) (PS m (tz x) i σ):=by
 cases ms with
 |nil=>simp[entry,tz]
 |cons n ms=>simp[entry,tz,yf]
theorem Core.yv{tm:Array Value}(h:Core c σ tm w M ν){id:Nat}{v:Value}{e:bh}(bm:σ.H id=none)(SS:ER w M v e)
  (hd: ∀b,fL v=some b→ ∀i e',σ.H i=some e'→e'.mut→fL (ν i)≠some b) (hn: ∀b,fL v=some b→c.B≤b∨c.may b) (ho: ∀b e0 l0,e= .own e0 l0→fL v=some b→ ¬c.M0 b)
  (s9: ∀τ x p j,e= .gk τ x p j→bT σ.H id (some e) j≠none∧ ∃b,v= .pointer (some ⟨b,0,none⟩)∧w.cell? ⟨b,cC p τ,none⟩=some (dp ν id v j):=by intro _ _ _ _ h;cases h):
  Core c ⟨σ.T,bT σ.H id (some e)⟩ tm w M (dp ν id v):=by
 have hm:=Mem.yv h.mem (id:=id) (v:=v) (e:=e) (λe' wF=>by rw[bm]at wF;cases wF) SS hd hn ho (.inl bm) s9
 refine h.tr ⟨hm,.refl w M,⟨λi e1 hi=> ?_,λi hi=> ?_⟩⟩
 ·have bS:i≠id:=λe=>by rw[e,bm]at hi;cases hi
  exact⟨e1,by rw[az _ _ bS];exact hi,.refl e1⟩
 ·have bS:i≠id:=λe=>hi (e▸bm)
  simp[dp,bS]
theorem Core.put{tm:Array Value}(h:Core c σ tm w M ν){d:Nat}{x:bD}(hx:VR w M σ.H ν x (tm.getD d undef)):Core c (σ.put d x) tm w M ν:=by
 refine⟨h.mem,λi=> ?_⟩
 by_cases hi:i=d
 ·subst hi;rw[uW];exact hx
 ·rw[Ab _ _ hi];exact h.tmp i
theorem CE{tm:Array Value}: ∀{ms:List AM} {x:HP ms} {vs:List Value} {i:Nat} {σ:St} {ν:Nat→Value} {used:List Nat},Core c σ tm w M ν→jL w M ms x vs→(∀j v,vs[j]? =some v→tm.getD (i+j) undef=v)→
  (∀j,16*i≤j→σ.H j=none)→(∀j e b,σ.H j=some e→e.mut→fL (ν j)=some b→b∈used)→(used++dX ms vs).Nodup→(∀b∈dX ms vs,c.may b)→(∀b,c.may b→ ¬c.M0 b)→
  ∃ν',Core c (entry ms x i σ) tm w M ν'
 |[],x,vs,i,σ,ν,used,h,_,_,_,_,_,_,_=>⟨ν,h⟩
 |m::ms,x,vs,i,σ,ν,used,h,hA,MC,jv,Io,yg,P7,H7=>by
  rw[P6]
  simp only[jL]at hA
  obtain⟨v,Lj,rfl,h1,h2⟩:=hA
  have hv:tm.getD i undef=v:=by simpa using MC 0 v rfl
  have J1: ∀j u,Lj[j]? =some u→tm.getD (i+1+j) undef=u:=λj u hj=>by
   have:=MC (j+1) u (by simpa using hj)
   rwa [show i+(j+1)=i+1+j from by omega]at this
  have bm:σ.H (16*i+15)=none:=jv _ ω
  have ahv:dX (m::ms) (v::Lj)=db m v++dX ms Lj:=rfl
  rw[ahv]at yg P7
  have ra: ∀b,b∈db m v→ ∀j e',σ.H j=some e'→e'.mut→fL (ν j)≠some b:=λb hb j e' hj jW ff=>
   mJ yg (Io j e' b hj jW ff) (cQ _ hb)
  have wN: ∀{σ':St} {ν':Nat→Value},Core c σ' tm w M ν'→(∀j,16*(i+1)≤j→σ'.H j=none)→(∀j e b,σ'.H j=some e→e.mut→fL (ν' j)=some b→b∈used++db m v)→ ∃ν'',Core c (entry ms (yf x) (i+1) σ') tm w M ν'':=
   λh' Bk VS=>CE h' h2 J1 Bk VS (by rw[bM];exact yg) (λb hb=>P7 b (dD _ hb)) H7
  have Mw: ∀(e:bh) (v':Value),v'=v→(∀b,fL v=some b→b∈db m v)→(∀j,16*(i+1)≤j→bT σ.H (16*i+15) (some e) j=none)∧
    (∀j e1 b,bT σ.H (16*i+15) (some e) j=some e1→e1.mut→fL (dp ν (16*i+15) v' j)=some b→b∈used++db m v):=by
   rintro e v' rfl hb
   refine⟨λj hj=>by rw[az _ _ ω];exact jv j ω,λj e1 b hj jW ff=> ?_⟩
   by_cases yP:j=16*i+15
   ·subst yP
    simp only[dp,gH]at ff
    exact dD _ (hb b ff)
   ·rw[az _ _ yP]at hj
    simp only[dp,yP,fa]at ff
    exact cQ _ (Io j e1 b hj jW ff)
  cases m with
  |v τ=>
   refine wN (σ':=σ.put i (.val τ (tz x))) (h.put ?_) (λj hj=>jv j ω) (λj e b hj jW ff=>cQ _ (Io j e b hj jW ff))
   simp only[VR,hv];exact h1
  |fn f τ=>
   refine wN (σ':=σ.put i (.LR f (pW τ (tz x)))) (h.put ?_) (λj hj=>jv j ω) (λj e b hj jW ff=>cQ _ (Io j e b hj jW ff))
   rw[hv]
   simp only[A1,VR]at h1 ⊢
   obtain⟨us,hu,Pz⟩:=h1
   exact⟨us,hu,ju.free Pz⟩
  |own e=>
   have vD: ∀b,fL v=some b→b∈db (.own e) v:=λb hb=>by simp[db,hb]
   have hc:=h.yv bm (v:=v) (e:= .own e (tz x)) h1 (λb hb=>ra b (vD b hb)) (λb hb=> .inr (P7 b (cQ _ (vD b hb)))) (λb _ _ _ hb=>H7 b (P7 b (cQ _ (vD b hb))))
   obtain⟨Bk,VS⟩:=Mw (.own e (tz x)) v rfl vD
   refine wN (σ':=(σ.put i (.ref (16*i+15))).jU (16*i+15) (some (.own e (tz x)))) (ν':=dp ν (16*i+15) v) (hc.put (d:=i) (x:= .ref (16*i+15)) ?_) Bk VS
   simp only[VR,hv]
   exact⟨by rw[ay];simp,by simp[dp]⟩
  |lo e=>
   have vD: ∀b,fL v=some b→b∈db (.lo e) v:=λb hb=>by simp[db,hb]
   have hc:=h.yv bm (v:=v) (e:= .own e (tz x)) h1 (λb hb=>ra b (vD b hb)) (λb hb=> .inr (P7 b (cQ _ (vD b hb)))) (λb _ _ _ hb=>H7 b (P7 b (cQ _ (vD b hb))))
   obtain⟨Bk,VS⟩:=Mw (.own e (tz x)) v rfl vD
   refine wN (σ':=(σ.put i (.ref (16*i+15))).jU (16*i+15) (some (.own e (tz x)))) (ν':=dp ν (16*i+15) v) (hc.put (d:=i) (x:= .ref (16*i+15)) ?_) Bk VS
   simp only[VR,hv]
   exact⟨by rw[ay];simp,by simp[dp]⟩
  |io τ=>
   have vD: ∀b,fL v=some b→b∈db (.io τ) v:=λb hb=>by simp[db,hb]
   have hc:=h.yv bm (v:=v) (e:= .obj τ (tz x)) h1 (λb hb=>ra b (vD b hb)) (λb hb=> .inr (P7 b (cQ _ (vD b hb)))) (λb _ _ he=>by cases he)
   obtain⟨Bk,VS⟩:=Mw (.obj τ (tz x)) v rfl vD
   refine wN (σ':=(σ.put i (.jr (16*i+15) [])).jU (16*i+15) (some (.obj τ (tz x)))) (ν':=dp ν (16*i+15) v) (hc.put (d:=i) (x:= .jr (16*i+15) []) ?_) Bk VS
   simp only[A1,ER]at h1
   obtain⟨b,cs,t,Vx,_⟩:=h1
   simp only[VR,hv]
   exact⟨_,ay _ _ _,trivial,b,by simp[dp,Vx],Vx⟩
  |jr τ=>
   refine wN (σ':=σ.put i (.qW τ (tz x))) (h.put ?_) (λj hj=>jv j ω) (λj e b hj jW ff=>cQ _ (Io j e b hj jW ff))
   rw[hv]
   simp only[A1,VR]at h1 ⊢
   exact h1
  |ptr τ=>
   refine wN (σ':=σ) h (λj hj=>jv j ω) (λj e b hj jW ff=>cQ _ (Io j e b hj jW ff))
def wP(tm:Array Value):ResultVar→Sem Value
 | .tmp t=>pure (tm.getD t undef)
 | .cell x t=>do loadVar t (←asAddr (tm.getD x undef))
def Dv(P:Program)(tm:Array Value)(w:World)(rv:ResultVar)(u:Value):Prop:=(wP tm rv).run P w= .ok u w
def J2(P:Program)(tm:Array Value)(w:World):List (ResultVar ⊕ Nat)→List Value→List Value→Prop
 |[],us,ps=>us=[]∧ps=[]
 | .inl rv::rs,us,ps=> ∃u JU,us=u::JU∧Dv P tm w rv u∧J2 P tm w rs JU ps
 | .inr i::rs,us,ps=> ∃p Hh,ps=p::Hh∧p=tm.getD i undef∧J2 P tm w rs us Hh
theorem Core.ZF{tm:Array Value}{H1:Nat→Option bh}{M1:Nat→Prop}(h: ∀i,VR w M σ.H ν (σ.T i) (tm.getD i undef))(k:fh w M w M1)(g:s8 σ.H ν H1 ν): ∀i,VR w M1 H1 ν (σ.T i) (tm.getD i undef):=
 λi=>VR.cc k g (h i)
theorem CF(hE:EnvTy P E){tm:Array Value}{H0 Hq:Nat→Option bh}{M1:Nat→Prop}{uo uf:ja}{io:List (Nat×AM)}{hs:List Nat}(h:jM c w M ν H0 σ.H Hq M1 uo uf io hs)(ht: ∀i,VR w M1 σ.H ν (σ.T i) (tm.getD i undef))
  {m:AM} {rs:ResultVar ⊕ Nat} {k:m.den→St→Option α} (hk:H5 E m rs σ k=some r):
  ∃y σ' Lf Lg Hb UX M2 u,k y σ'=some r∧σ'.T=σ.T∧jM c w M ν H0 σ'.H UX M2 Lf Lg Hb (hs++db m u)∧fh w M1 w M2∧s8 σ.H ν σ'.H ν∧A1 w M2 m y u∧
   ((m.iJ=false∧m.Zl=false∧ ∃rv,rs= .inl rv∧Dv P tm w rv u)∨(m.iJ=true∧ ∃i,rs= .inr i∧u=tm.getD i undef)):=by
 unfold H5 at hk
 split at hk
 ·
  rename_i τ t k
  obtain⟨y,rd,ups,hk,hy⟩:=D2 h.mem (ht t) hk
  have P8:Dv P tm w (.tmp t) (tm.getD t undef):=by simp[Dv,wP]
  rcases hy with⟨rfl,hV⟩|⟨id,e,l,rfl,bm,hV⟩
  ·exact⟨y,σ,uo,uf,io,Hq,M1,_,hk,rfl,by simpa [db]using h,.refl w M1,.refl _ ν,hV,.inl ⟨rfl,rfl,_,rfl,P8⟩⟩
  ·obtain⟨M2,hA,hK,JL⟩:=h.freeze bm
   exact⟨y,_,uo,_,io,Hq,M2,_,hk,rfl,(by simp only[db,cK];exact hA),hK,.Zn bm ⟨rfl,rfl⟩,hV M2 JL,.inl ⟨rfl,rfl,_,rfl,P8⟩⟩
 ·
  rename_i τ x t k
  split at hk
  ·rename_i τ' E0
   obtain⟨e1,hk1⟩:=fY hk
   clear hk
   subst e1
   obtain⟨υ,z,rd,hk,b,off,cs,hv,p6,lh⟩:=Cs h.mem (ht x) hk1
   obtain⟨e2,YM⟩:=bC hk
   subst e2
   refine⟨_,σ,uo,uf,io,Hq,M1,cI _ cs,YM,rfl,by simpa [db]using h,.refl w M1,.refl _ ν,V.cI lh,.inl ⟨rfl,rfl,_,rfl,?_⟩⟩
   simp only[Dv,wP,hv]
   simp[asAddr,Cr (hE.ty t _ E0) p6 lh]
  ·cases hk
 ·
  rename_i e t k
  have hv:=ht t
  have P8:Dv P tm w (.tmp t) (tm.getD t undef):=by simp[Dv,wP]
  split at hk
  ·rename_i hT
   rw[hT]at hv
   obtain⟨ad,hv⟩:=VR.emp.1 hv
   have hb:fL (.slice ad 0 0)=none:=by cases ad<;>simp[fL]
   exact⟨[],σ,uo,uf,io,Hq,M1,_,hk,rfl,by rw[hv];simpa [db,hb]using h,.refl w M1,.refl _ ν,by rw[hv];simp only[A1,ER];exact .inl ⟨trivial,ad,rfl⟩,.inl ⟨rfl,rfl,_,rfl,P8⟩⟩
  ·rename_i id hT
   rw[hT]at hv
   simp only[VR]at hv
   split at hk
   ·rename_i e' l bm
    obtain⟨e1,hk⟩:=bC hk
    cases e1
    refine⟨_,_,_,uf,io,_,M1,ν id,hk,rfl,(by simp only[db];exact h.hand bm),.refl w M1,.Zn bm (bh.kR _),h.mem.ln id _ bm,.inl ⟨rfl,rfl,_,rfl,by rw[←hv.2];exact P8⟩⟩
   ·cases hk
  ·cases hk
 ·
  rename_i τ i k
  have hv:=ht i
  split at hk
  ·rename_i id hT
   rw[hT]at hv
   split at hk
   ·rename_i υ z bm
    obtain⟨e1,hk⟩:=bC hk
    subst e1
    simp only[VR]at hv
    obtain⟨e,he,oc⟩:=hv
    rw[bm]at he;cases he
    simp only[AR]at oc
    obtain⟨_,b,hb,hv⟩:=oc
    have Vx:tm.getD i undef=ν id:=by rw[hv,hb];rfl
    refine⟨_,_,uo,uf,_,_,M1,ν id,hk,rfl,(by simp only[db];exact h.ahd bm),.refl w M1,.Zn bm (bh.kR _),h.mem.ln id _ bm,.inr ⟨rfl,i,rfl,Vx.symm⟩⟩
   ·cases hk
  ·cases hk
 ·
  rename_i e i k
  have hv:=ht i
  split at hk
  ·rename_i id hT
   rw[hT]at hv
   simp only[VR]at hv
   split at hk
   ·rename_i e' l bm
    obtain⟨e1,hk⟩:=bC hk
    cases e1
    refine⟨_,_,uo,uf,_,_,M1,ν id,hk,rfl,(by simp only[db];exact h.afI bm),.refl w M1,.Zn bm (bh.kR _),h.mem.ln id _ bm,.inr ⟨rfl,i,rfl,hv.2.symm⟩⟩
   ·cases hk
  ·cases hk
 ·
  rename_i τ t k
  have hv:=ht t
  have P8:Dv P tm w (.tmp t) (tm.getD t undef):=by simp[Dv,wP]
  split at hk
  ·rename_i id hT
   rw[hT]at hv
   split at hk
   ·rename_i υ z bm
    obtain⟨e1,hk⟩:=bC hk
    subst e1
    simp only[VR]at hv
    obtain⟨e,he,oc⟩:=hv
    rw[bm]at he;cases he
    simp only[AR]at oc
    obtain⟨_,b,hb,hv⟩:=oc
    have Vx:tm.getD t undef=ν id:=by rw[hv,hb];rfl
    refine⟨_,_,uo,uf,_,_,M1,ν id,hk,rfl,(by simp only[db];exact h.ahd bm),.refl w M1,.Zn bm (bh.kR _),h.mem.ln id _ bm,.inl ⟨rfl,rfl,_,rfl,by rw[←Vx];exact P8⟩⟩
   ·cases hk
  ·cases hk
 ·cases hk
theorem Fj(hE:EnvTy P E){tm:Array Value}{H0:Nat→Option bh}: ∀{ms:List AM} {rs:List (ResultVar ⊕ Nat)} {σ:St} {Hq:Nat→Option bh} {M1:Nat→Prop} {uo uf:ja} {io:List (Nat×AM)} {hs:List Nat} {K:HP ms→Option α},
  jM c w M ν H0 σ.H Hq M1 uo uf io hs→(∀i,VR w M1 σ.H ν (σ.T i) (tm.getD i undef))→JD E ms rs σ K=some r→
  ∃y us ps H2 Lf Lg Hb UX M2,K y=some r∧jM c w M ν H0 H2 UX M2 Lf Lg Hb (hs++bH ms us ps)∧fh w M1 w M2∧RR w M2 ms y us ps∧J2 P tm w rs us ps
 |[],[],σ,Hq,M1,uo,uf,io,hs,K,h,ht,hk=>⟨(),[],[],σ.H,uo,uf,io,Hq,M1,hk,by simpa [bH]using h,.refl w M1,⟨rfl,rfl⟩,⟨rfl,rfl⟩⟩
 |[m],[q],σ,Hq,M1,uo,uf,io,hs,K,h,ht,hk0=>by
  obtain⟨y,σ',Lf,Lg,Hb,UX,M2,u,hk,hT,hA,hK,hG,hy,hu⟩:=CF hE h ht (hk0:H5 E m q σ _=some r)
  clear hk0
  rcases hu with⟨h1,h2,rv,rfl,hv⟩|⟨h1,i,rfl,hv⟩
  ·refine⟨y,[u],[],_,_,_,_,_,M2,hk,by simpa [bH,h1]using hA,hK,?_,?_⟩
   ·simp only[RR];exact .inr ⟨u,[],h1,h2,rfl,hy,by simp⟩
   ·simp only[J2];exact⟨u,[],rfl,hv,by simp⟩
  ·refine⟨y,[],[u],_,_,_,_,_,M2,hk,by simpa [bH,h1]using hA,hK,?_,?_⟩
   ·simp only[RR];exact .inl ⟨u,[],h1,rfl,hy,by simp⟩
   ·simp only[J2];exact⟨u,[],rfl,hv,by simp⟩
 |m::n::ms,q::rs,σ,Hq,M1,uo,uf,io,hs,K,h,ht,hk0=>by
  obtain⟨y,σ',Lf,Lg,Hb,UX,M2,u,hk1,hT,hA,hK,hG,hy,hu⟩:=CF hE h ht (hk0:H5 E m q σ _=some r)
  obtain⟨ys,us,ps,H3,uo3,uf3,io3,Hq3,M3,hk,hA3,hK3,hys,hrs⟩:=Fj (ms:=n::ms) hE hA (λi=>by rw[hT];exact Core.ZF ht hK hG i) hk1
  have Ij:A1 w M3 m y u:=A1.wO hK3 (λb hb=>⟨rfl,hA3.hM b (cQ _ (dD _ hb))⟩) hy
  clear hk0
  rcases hu with⟨h1,h2,rv,rfl,hv⟩|⟨h1,i,rfl,hv⟩
  ·refine⟨(y,ys),u::us,ps,H3,uo3,uf3,io3,Hq3,M3,hk,?_,hK.trans hK3,?_,?_⟩
   ·have:bH (m::n::ms) (u::us) ps=db m u++bH (n::ms) us ps:=by rw[bH];simp[h1]
    rw[this,←bM];exact hA3
   ·rw[RR];exact .inr ⟨u,us,h1,h2,rfl,Ij,hys⟩
   ·simp only[J2];exact⟨u,us,rfl,hv,hrs⟩
  ·refine⟨(y,ys),us,u::ps,H3,uo3,uf3,io3,Hq3,M3,hk,?_,hK.trans hK3,?_,?_⟩
   ·have:bH (m::n::ms) us (u::ps)=db m u++bH (n::ms) us ps:=by rw[bH];simp[h1]
    rw[this,←bM];exact hA3
   ·rw[RR];exact .inl ⟨u,ps,h1,rfl,Ij,hys⟩
   ·simp only[J2];exact⟨u,ps,rfl,hv,hrs⟩
 |[],_::_,_,_,_,_,_,_,_,_,_,_,hk=>by simp[JD]at hk
 |[_],[],_,_,_,_,_,_,_,_,_,_,hk=>by simp[JD]at hk
 |[_],_::_::_,_,_,_,_,_,_,_,_,_,_,hk=>by simp[JD]at hk
 |_::_::_,[],_,_,_,_,_,_,_,_,_,_,hk=>by simp[JD]at hk
end VM
end
section
namespace VM
open Go
variable{P:Program}{E:Env}{o:Oper}{a:Act}{w:World}{M:Nat→Prop}{ν:Nat→Value}{σ:St}{c:Ctx}{α:Type}{r:α}{next:Act→World→Prop}{Q:Exit→Act→World→Prop}
theorem Ip{tm:Array Value}: ∀{rv:List ResultVar} {is:List (ResultVar ⊕ Nat)} {us ps:List Value},J2 P tm w (rv.map .inl++is) us ps→
  ∃YR us2,us=YR++us2∧YR.length=rv.length∧(∀i (h:i<rv.length) (h':i<YR.length),Dv P tm w rv[i] YR[i])∧J2 P tm w is us2 ps
 |[],is,us,ps,h=>⟨[],us,rfl,rfl,λi h=>by simp at h,h⟩
 |rv::rvs,is,us,ps,h=>by
  simp only[bR,kL,J2]at h
  obtain⟨u,JU,rfl,h1,h2⟩:=h
  obtain⟨YR,us2,rfl,hl,h3,h4⟩:=Ip h2
  refine⟨u::YR,us2,rfl,by simp[hl],λi hi lA=> ?_,h4⟩
  cases i with
  |zero=>exact h1
  |succ i=>exact h3 i (by simpa using hi) (by simpa using lA)
theorem wQ{tm:Array Value}: ∀{ms:List AM} {vs:List Value} {i:Nat} {us ps:List Value},vs.length=ms.length→(∀j v m,vs[j]? =some v→ms[j]? =some m→m.iJ=true→tm.getD (i+j) undef=v)→J2 P tm w (yH ms i) us ps→us=[]∧ps=fC ms vs
 |[],vs,i,us,ps,_,_,h=>by simp only[yH,J2]at h;simpa [fC]using h
 |m::ms,[],_,_,_,hl,_,_=>by simp at hl
 |m::ms,v::vs,i,us,ps,hl,MC,h=>by
  have J1: ∀j u m,vs[j]? =some u→ms[j]? =some m→m.iJ=true→tm.getD (i+1+j) undef=u:=λj u m hj hm vH=>by
   have:=MC (j+1) u m (by simpa using hj) (by simpa using hm) vH
   rwa [show i+(j+1)=i+1+j from by omega]at this
  have JF:vs.length=ms.length:=by simpa using hl
  cases m with
  |io τ=>
   simp only[yH,J2]at h
   obtain⟨p,Hh,rfl,hp,h⟩:=h
   obtain⟨h1,h2⟩:=wQ JF J1 h
   refine⟨h1,?_⟩
   have:=MC 0 v (.io τ) rfl rfl rfl
   simp only[nr]at this
   simp[fC,AM.iJ,h2,hp,this]
  |lo e=>
   simp only[yH,J2]at h
   obtain⟨p,Hh,rfl,hp,h⟩:=h
   obtain⟨h1,h2⟩:=wQ JF J1 h
   refine⟨h1,?_⟩
   have:=MC 0 v (.lo e) rfl rfl rfl
   simp only[nr]at this
   simp[fC,AM.iJ,h2,hp,this]
  |v τ=>
   obtain⟨h1,h2⟩:=wQ JF J1 (show J2 P tm w (yH ms (i+1)) us ps from h)
   exact⟨h1,by simp[fC,AM.iJ,h2]⟩
  |own τ=>
   obtain⟨h1,h2⟩:=wQ JF J1 (show J2 P tm w (yH ms (i+1)) us ps from h)
   exact⟨h1,by simp[fC,AM.iJ,h2]⟩
  |fn f τ=>
   obtain⟨h1,h2⟩:=wQ JF J1 (show J2 P tm w (yH ms (i+1)) us ps from h)
   exact⟨h1,by simp[fC,AM.iJ,h2]⟩
  |jr τ=>
   obtain⟨h1,h2⟩:=wQ JF J1 (show J2 P tm w (yH ms (i+1)) us ps from h)
   exact⟨h1,by simp[fC,AM.iJ,h2]⟩
  |ptr τ=>
   obtain⟨h1,h2⟩:=wQ JF J1 (show J2 P tm w (yH ms (i+1)) us ps from h)
   exact⟨h1,by simp[fC,AM.iJ,h2]⟩
theorem MF{fn:Func}{tm:Array Value}{us:List Value}(hl:us.length=fn.results.toList.length)(h: ∀i (h:i<fn.results.toList.length) (h':i<us.length),Dv P tm w fn.results.toList[i] us[i]):
  (results fn tm).run P w= .ok (wM us) w:=by
 have key: ∀(rs:List ResultVar) (us:List Value),us.length=rs.length→(∀i (h:i<rs.length) (h':i<us.length),Dv P tm w rs[i] us[i])→(rs.mapM (wP tm)).run P w= .ok us w:=by
  intro rs
  induction rs with
  |nil=>intro us hl _;cases us with
   |nil=>simp
   |cons _ _=>simp at hl
  |cons r rs ih=>intro us hl h;cases us with
   |nil=>simp at hl
   |cons u us=>
    have h0:(wP tm r).run P w= .ok u w:=h 0 (by simp) (by simp)
    have h1:=ih us (by simpa using hl) (λi hi lA=>h (i+1) (by simpa using hi) (by simpa using lA))
    simp[zE,h0,h1]
 have h2:=key fn.results.toList us hl h
 have h3:results fn tm=(do let vs ←fn.results.mapM (wP tm);pure (if h:vs.size=1 then vs[0]else .tuple vs)):=by
  unfold results
  congr 1
 rw[h3,Array.mapM_eq_mapM_toList]
 simp only[Sem.run_bind,Sem.run_map,h2]
 unfold wM
 by_cases h3:us.length=1
 ·simp[h3]
 ·simp[h3]
theorem Iq(hE:tZ P E){f:FuncId}{fn:Func}(hf:P.funcs[f]? =some fn)(hnt:E.nt=fn.ntmps){args res:List AM}(vH: ∀i m,args[i]? =some m→m.iJ=true→i∈E.io)(amt: ∀i∈E.io,i<args.length)(hlen:args.length≤fn.ntmps)
  {M0:Nat→Prop} {vs:List Value} {x:HP args} {y:HP res} (sj: ∀b,M0 b→b<w.heap.size) (hA:jL w (λb=>M0 b∨b∈dX args vs) args x vs) (yg:(dX args vs).Nodup) (wR: ∀b∈dX args vs,¬M0 b)
  (h:Pw E fn args res x=some y):
  Calls P f vs.toArray w λe w'=> ∃v,e= .returned v∧ ∃us M',v=wM us∧RR w' M' res y us (fC args vs)∧Left w M0 (dX args vs) w' M'∧(bH res us (fC args vs)).Nodup∧ ∀b∈bH res us (fC args vs),¬M0 b:=by
 unfold Pw at h
 split at h
 ·cases h
 rename_i cd hb
 simp only at h
 have hvl: ∀{ms:List AM} {x:HP ms} {vs:List Value} {M:Nat→Prop},jL w M ms x vs→vs.length=ms.length:=by
  intro ms
  induction ms with
  |nil=>intro x vs M h;simp only[jL]at h;subst h;rfl
  |cons m ms ih=>intro x vs M h;simp only[jL]at h;obtain⟨v,Lj,rfl,_,h⟩:=h;simp[ih h]
 have Zd:=hvl hA
 let tm:Array Value:=vs.toArray++Array.replicate (fn.ntmps-vs.toArray.size) undef
 have MC: ∀j v,vs[j]? =some v→tm.getD j undef=v:=by
  intro j v hj
  have fA:j<vs.length:=(uK.1 hj).1
  rw[sB,Array.getElem?_append_left (by simpa using fA),LK,hj];rfl
 have sh:tm.size=fn.ntmps:=by simp[tm];omega
 have hhb: ∀{ms:List AM} {x:HP ms} {vs:List Value} {M:Nat→Prop},jL w M ms x vs→ ∀b∈dX ms vs,b<w.heap.size:=by
  intro ms
  induction ms with
  |nil=>intro x vs M h b hb;simp[dX]at hb
  |cons m ms ih=>
   intro x vs M h b hb
   simp only[jL]at h
   obtain⟨v,Lj,rfl,h1,h⟩:=h
   simp only[dX,bo]at hb
   rcases hb with hb|hb
   ·cases m with
    |v _=>simp[db]at hb
    |fn _ _=>simp[db]at hb
    |jr _=>simp[db]at hb
    |own e=>
     simp only[db,fu,A1,ER]at hb h1
     rcases h1 with⟨_,a,hv⟩|⟨b',cs,t,cap,hv,hg,_⟩
     ·rw[hv]at hb;cases a<;>simp[fL]at hb
     ·rw[hv]at hb
      simp only[fL]at hb
      split at hb
      ·cases hb
      ·simp only[iC]at hb;subst hb;exact lt_of_block hg
    |lo e=>
     simp only[db,fu,A1,ER]at hb h1
     rcases h1 with⟨_,a,hv⟩|⟨b',cs,t,cap,hv,hg,_⟩
     ·rw[hv]at hb;cases a<;>simp[fL]at hb
     ·rw[hv]at hb
      simp only[fL]at hb
      split at hb
      ·cases hb
      ·simp only[iC]at hb;subst hb;exact lt_of_block hg
    |io τ=>
     simp only[db,fu,A1,ER]at hb h1
     obtain⟨b',cs,t,hv,hg,_⟩:=h1
     rw[hv]at hb
     simp only[fL,iC]at hb;subst hb;exact lt_of_block hg
    |ptr τ=>
     simp only[db,fu,A1,ER]at hb h1
     obtain⟨b',cs,t,hv,hg,_⟩:=h1
     rw[hv]at hb
     simp only[fL,iC]at hb;subst hb;exact lt_of_block hg
   ·exact ih h b hb
 let cx:Ctx:={B:=w.heap.size,w0:=w,M0:=M0,may:=λb=>b∈dX args vs,arg:=λi=>tm.getD i undef}
 have hm0:Mem cx (λ_=>none) w (λb=>M0 b∨b∈dX args vs) (λ_=>undef):=
  ⟨λi e hi=>(by cases hi),λi j e e' b _ hi=>(by cases hi),λi e b hi=>(by cases hi),λi e l b hi=>(by cases hi),λi τ x p j hi=>(by cases hi),λb hb=> .inl hb,λb hb=>hb.elim (sj b) (hhb hA b),λ_ _ _=>rfl,aI _,⟨sj,wR⟩,rfl,rfl,rfl⟩
 have UU:Core cx ⟨λ_=> .any,λ_=>none⟩ tm w (λb=>M0 b∨b∈dX args vs) (λ_=>undef):=⟨hm0,λi=>by simp[VR]⟩
 obtain⟨ν',hc⟩:=CE (i:=0) (used:=[]) UU hA (λj v hj=>by rw[gq];exact MC j v hj) (λ_ _=>rfl) (λj e b hj=>by cases hj) (by simpa using yg) (λb hb=>hb) (λb hb=>wR b hb)
 have hI:Inv cx E (entry args x 0 ⟨λ_=> .any,λ_=>none⟩) {tmps:=tm,defers:=[]} w:=⟨⟨_,_,hc⟩,by rw[hnt,sh],rfl,λi _=>rfl⟩
 refine calls_of_wp hf hb ?_
 have amu: ∀(σ':St) (a':Act) (w':World),JD E res (fn.results.toList.map .inl++yH args 0) σ' some=some y→Inv cx E σ' a' w'→
   a'.defers=[]∧ ∃v,(results fn a'.tmps).run P w'= .ok v w'∧ ∃v',Ending.returned v= .returned v'∧ ∃us M',v'=wM us∧RR w' M' res y us (fC args vs)∧Left w M0 (dX args vs) w' M'∧(bH res us (fC args vs)).Nodup∧ ∀b∈bH res us (fC args vs),¬M0 b:=by
  rintro σ' a' w' hk ⟨⟨M1,ν1,Ih⟩,Py,hd1,yi⟩
  obtain⟨y',us,ps,H2,uo,uf,io,Hq,M2,hy,VT,hK,UZ,hRs⟩:=Fj (P:=P) hE.toEnvTy (jM.start Ih.mem) Ih.tmp hk
  cases hy
  obtain⟨YR,us2,rfl,hl,hv,ar7⟩:=Ip hRs
  obtain⟨rfl,JR⟩:=wQ (vs:=vs) Zd (λj v m hj hm HB=>by
   rw[gq]
   rw[yi j (vH j m hm HB)]
   exact MC j v hj) ar7
  rw[cK]at*
  subst JR
  simp only[cL]at VT
  have lO: ∀b∈bH res YR (fC args vs),b<w.heap.size→b∈dX args vs:=λb hb fA=>(VT.Mn b hb).elim (λh'=>absurd fA (Nat.not_lt.2 h')) (λh=>h)
  have Ij:fh w' M2 w' (λb=>M2 b∧(b<w.heap.size→M0 b∨b∈dX args vs)):=⟨aI _,λ_ _ _=>rfl,λ_ _ h=>h.1⟩
  refine⟨hd1,wM YR,MF hl hv,_,rfl,YR,λb=>M2 b∧(b<w.heap.size→M0 b∨b∈dX args vs),rfl,RR.wO Ij (λb hb=>⟨rfl,UZ.rf b hb,λfA=> .inr (lO b hb fA)⟩) UZ,⟨λb hb=>⟨VT.mem.sub b hb,λ_=> .inl hb⟩,λb hb=>VT.mem.ES b hb.1,λb fA hb=>hb.2 fA,λb fA hb=>VT.mem.frame b fA hb,VT.mem.size,VT.mem.os,VT.mem.tape,VT.mem.output⟩,VT.nd,λb hb h0=> ?_⟩
  rcases VT.Mn b hb with h'|h'
  ·exact absurd (sj b h0) (Nat.not_lt.2 h')
  ·exact wR b h' h0
 refine Tj (c:=cx) hE cd _ _ w _ _ _ _ hI h (fun σ' a' w' hk yw=> ?_) (λi σ' a' w' hk=>by cases hk) (fun σ' a' w' hk yw=> ?_)
 ·exact amu σ' a' w' hk yw
 ·exact amu σ' a' w' hk yw
theorem VU(hE:tZ P E){f:FuncId}{fn:Func}(hf:P.funcs[f]? =some fn)(Ad:(fn.name== "runtime.NumGoroutine")=false)(hnt:E.nt=fn.ntmps)(S:lJ)
  (vH: ∀i m,S.args[i]? =some m→m.iJ=true→i∈E.io) (amt: ∀i∈E.io,i<S.args.length) (hlen:S.args.length≤fn.ntmps) (hq:S.quiet=true→S.res.all AM.flat=true) (ar8:nC S.args=nC S.res)
  (dJ: ∀x,Pw E fn S.args S.res x=S.run x):iy P f S:=by
 refine⟨hq,ar8,λM0 w vs x y sj hA yg wR hy=> ?_⟩
 have hb:fn.body.isNone=false:=by
  have:=dJ x
  rw[hy]at this
  unfold Pw at this
  split at this
  ·cases this
  ·rename_i cd hcd;rw[hcd];rfl
 exact ta hf Ad hb (Iq hE hf hnt vH amt hlen sj hA yg wR (by rw[dJ,hy]))
end VM
end
section
namespace VM
open Go
variable{P:Program}
def Ae:Ty→List Value→Option (List Value)
 | .int k,v::r=>match v with
  | .int k' n=>if k'=k∧n=0 then some r else none
  |_=>none
 | .bool,v::r=>match v with
  | .bool false=>some r
  |_=>none
 | .str,v::r=>match v with
  | .string s=>if s.data.size=0 then some r else none
  |_=>none
 | .slice _,v::r=>match v with
  | .slice none n m=>if n=0∧m=0 then some r else none
  |_=>none
 | .unit,r=>some r
 | .pair a b,r=>match Ae a r with
  |some r=>Ae b r
  |none=>none
 | .arr n e,r=>Nat.rec (motive:=λ_=>List Value→Option (List Value)) (λr=>some r) (λ_ ih r=>match Ae e r with
  |some r=>ih r
  |none=>none) n r
 |_,[]=>none
theorem Af: ∀{τ:Ty} {l r:List Value},Ae τ l=some r→l=τ.dr++r
 | .int k,[],_,h| .bool,[],_,h| .str,[],_,h| .slice _,[],_,h=>by simp[Ae]at h
 | .int k,v::l,r,h=>by
  simp only[Ae]at h
  split at h
  ·split at h
   ·rename_i hc;obtain⟨rfl,rfl⟩:=hc;cases h;rfl
   ·cases h
  ·cases h
 | .bool,v::l,r,h=>by
  simp only[Ae]at h
  split at h
  ·cases h;rfl
  ·cases h
 | .str,v::l,r,h=>by
  simp only[Ae]at h
  split at h
  ·rename_i s
   split at h
   ·rename_i hs
    cases h
    have:s=ByteArray.empty:=by
     obtain⟨d⟩:=s
     have:d= #[]:=Array.eq_empty_of_size_eq_zero hs
     subst this;rfl
    subst this;rfl
   ·cases h
  ·cases h
 | .slice _,v::l,r,h=>by
  simp only[Ae]at h
  split at h
  ·split at h
   ·rename_i hc;obtain⟨rfl,rfl⟩:=hc;cases h;rfl
   ·cases h
  ·cases h
 | .unit,l,r,h=>by simp only[Ae]at h;cases h;rfl
 | .pair a b,l,r,h=>by
  simp only[Ae]at h
  split at h
  ·rename_i r1 h1
   rw[Af h1,Af h];simp[Ty.dr]
  ·cases h
 | .arr n e,l,r,h=>by
  simp only[Ae]at h
  simp only[Ty.dr]
  induction n generalizing l with
  |zero=>cases h;rfl
  |succ n ih=>
   simp only at h
   split at h
   ·rename_i r1 h1
    rw[Af h1,ih _ h];simp[zu]
   ·cases h
def Ah(P:Program)(τ:Ty)(t:TypeId):Bool:=
 match P.info? t with
 |none=>false
 |some i=>Nat.beq i.size τ.size&&Nat.ble i.bytes 2048&&(match i.zero with
  |none=>false
  |some z=>match τ.isAgg,z with
   |true,.agg cs=>(match Ae τ cs.toList with|some []=>true|_=>false)
   |false,z=>(match Ae τ [z]with|some []=>true|_=>false)
   |_,_=>false)
theorem rl{τ:Ty}{t:TypeId}(h:Ah P τ t=true):JE P τ t:=by
 unfold Ah at h
 split at h
 ·cases h
 ·rename_i i hi
  simp only[bP,zK]at h
  obtain⟨⟨h1,h2⟩,h3⟩:=h
  refine⟨i,hi,fV h1,?_,h2⟩
  split at h3
  ·cases h3
  ·rename_i z hz
   rw[hz]
   split at h3
   ·rename_i _ cs ha
    split at h3
    ·rename_i he
     have:=Af he
     unfold cI
     rw[aj ha,←cK τ.dr,←this]
    ·cases h3
   ·rename_i ha
    split at h3
    ·rename_i he
     have:=Af he
     unfold cI
     rw[ah (by rw[ha];exact qK),←cK τ.dr,←this];rfl
    ·cases h3
   ·cases h3
def ub(P:Program):Ty→TypeId ⊕ (Array Field×Nat×Nat)→Bool
 | .int k,.inl t=>Ah P (.int k) t&&(match P.underlying t with|some (.int k')=>decide (k'=k)|_=>false)
 | .bool,.inl t=>Ah P .bool t&&(match P.underlying t with|some .bool=>true|_=>false)
 | .str,.inl t=>Ah P .str t&&(match P.underlying t with|some .string=>true|_=>false)
 | .slice e,.inl t=>Ah P (.slice e) t&&(match P.underlying t with|some (.slice e')=>ub P e (.inl e')|_=>false)
 | .arr n e,.inl t=>Ah P (.arr n e) t&&(match P.underlying t with|some (.array n' e')=>Nat.beq n' n&&ub P e (.inl e')|_=>false)
 | .unit,.inl t=>Ah P .unit t&&(match P.underlying t with|some (.struct fs)=>Nat.beq fs.size 0|_=>false)
 | .unit,.inr q=>Nat.beq q.1.size q.2.1
 | .pair a b,.inl t=>Ah P (.pair a b) t&&(match P.underlying t with
  |some (.struct fs)=>(match fs[0]? with
   |some f=>Nat.beq f.offset 0&&(ub P a (.inl f.type)&&ub P b (.inr (fs,1,a.size)))
   |none=>false)
  |_=>false)
 | .pair a b,.inr q=>(match q.1[q.2.1]? with
  |some f=>Nat.beq f.offset q.2.2&&(ub P a (.inl f.type)&&ub P b (.inr (q.1,q.2.1+1,q.2.2+a.size)))
  |none=>false)
 |_,.inr _=>false
theorem gR: ∀{τ:Ty} {x:TypeId ⊕ (Array Field×Nat×Nat)},ub P τ x=true→fR P τ x
 | .int k,.inl t,h=>by
  simp only[ub,bP]at h
  refine⟨rl h.1,?_⟩
  have h:=h.2
  split at h
  ·rename_i k' hu;rw[hu,bF h]
  ·cases h
 | .bool,.inl t,h=>by
  simp only[ub,bP]at h
  refine⟨rl h.1,?_⟩
  have h:=h.2
  split at h
  ·rename_i hu;exact hu
  ·cases h
 | .str,.inl t,h=>by
  simp only[ub,bP]at h
  refine⟨rl h.1,?_⟩
  have h:=h.2
  split at h
  ·rename_i hu;exact hu
  ·cases h
 | .slice e,.inl t,h=>by
  simp only[ub,bP]at h
  refine⟨rl h.1,?_⟩
  have h:=h.2
  split at h
  ·rename_i e' hu;exact⟨e',hu,gR h⟩
  ·cases h
 | .arr n e,.inl t,h=>by
  simp only[ub,bP]at h
  refine⟨rl h.1,?_⟩
  have h:=h.2
  split at h
  ·rename_i n' e' hu
   simp only[bP]at h
   obtain⟨h0,h⟩:=h
   rw[fV h0]at hu
   exact⟨e',hu,gR h⟩
  ·cases h
 | .unit,.inl t,h=>by
  simp only[ub,bP]at h
  refine⟨rl h.1,?_⟩
  have h:=h.2
  split at h
  ·rename_i fs hu;exact⟨fs,hu,fV h⟩
  ·cases h
 | .unit,.inr (fs,n,o),h=>by simp only[ub]at h;exact fV h
 | .pair a b,.inl t,h=>by
  simp only[ub,bP]at h
  refine⟨rl h.1,?_⟩
  have h:=h.2
  split at h
  ·rename_i fs hu
   split at h
   ·rename_i f hf
    simp only[bP]at h
    exact⟨fs,f,hu,hf,fV h.1,gR h.2.1,gR h.2.2⟩
   ·cases h
  ·cases h
 | .pair a b,.inr (fs,n,o),h=>by
  simp only[ub]at h
  split at h
  ·rename_i f hf
   simp only[bP]at h
   exact⟨f,hf,fV h.1,gR h.2.1,gR h.2.2⟩
  ·cases h
 | .int _,.inr _,h| .bool,.inr _,h| .str,.inr _,h| .slice _,.inr _,h| .arr _ _,.inr _,h=>by simp[ub]at h
def vJ(P:Program):Ty→TypeId ⊕ (Array Field×Nat)→Bool
 | .int _,.inl _| .bool,.inl _| .str,.inl _=>true
 | .unit,.inl t=> !P.stoodInHeld t
 | .unit,.inr _=>true
 | .pair a b,.inl t=> !P.stoodInHeld t&&(match P.underlying t with
  |some (.struct fs)=>(match fs[0]? with
   |some f=>f.name != "_" &&(vJ P a (.inl f.type)&&vJ P b (.inr (fs,1)))
   |none=>false)
  |_=>false)
 | .pair a b,.inr q=>(match q.1[q.2]? with
  |some f=>f.name != "_" &&(vJ P a (.inl f.type)&&vJ P b (.inr (q.1,q.2+1)))
  |none=>false)
 |_,_=>false
def Ty.deep:Ty→Nat
 | .pair a b=>a.deep+b.deep+1
 |_=>1
theorem V.ofC{w:World}{M:Nat→Prop}{τ:Ty}{cs:List Value}{x:τ.den}(h:Rd w M τ cs x):V w M τ (VM.cI τ cs) x:=V.cI h
mutual
theorem MG{w:World}{M:Nat→Prop}: ∀{τ:Ty} {t:TypeId} {u v:Value} {x y:τ.den} {d:Nat},kO P τ t→vJ P τ (.inl t)=true→V w M τ u x→V w M τ v y→τ.deep≤d→(Op.equalIn d t u v).run P w= .ok (oR τ x y) w
 | .int k,t,u,v,x,y,d+1,hl,_,hx,hy,_=>by
  simp only[V,Ty.isAgg,jd,fa,Rd,fv,ec]at hx hy
  subst hx;subst hy
  rw[run_equalIn_int w d t k k _ _ hl.int];simp only[oR,jB];congr 1
 | .bool,t,u,v,x,y,d+1,hl,_,hx,hy,_=>by
  simp only[V,Ty.isAgg,jd,fa,Rd,fv,ec]at hx hy
  subst hx;subst hy
  rw[run_equalIn_bool w d t _ _ hl.bool];simp only[oR]
 | .str,t,u,v,x,y,d+1,hl,_,hx,hy,_=>by
  simp only[V,Ty.isAgg,jd,fa,Rd,fv,ec]at hx hy
  subst hx;subst hy
  rw[run_equalIn_string w d t _ _ hl.str];simp only[oR,EO];congr 1;rw[o4];simp
 | .slice _,_,_,_,_,_,_,_,h,_,_,_| .arr _ _,_,_,_,_,_,_,_,h,_,_,_=>by simp[vJ]at h
 | .unit,t,u,v,x,y,d+1,hl,he,hx,hy,_=>by
  simp only[V,Ty.isAgg,gH]at hx hy
  obtain⟨cs,rfl,_⟩:=hx
  obtain⟨cs',rfl,_⟩:=hy
  simp only[kO,fR]at hl
  obtain⟨_,fs,hu,h0⟩:=hl
  have hfs:P.fieldsOf t=fs:=by simp[Program.fieldsOf,hu]
  rw[run_equalIn_struct w d t cs cs' (by rw[hfs];exact hu) (by simpa [vJ]using he),hfs]
  have:fs.toList=[]:=by rw[←LD,bJ];exact h0
  rw[this];simp[Op.eqFields,oR]
 | .pair a b,t,u,v,x,y,d+1,hl,he,hx,hy,hd=>by
  simp only[V,Ty.isAgg,gH]at hx hy
  obtain⟨cs,rfl,hx⟩:=hx
  obtain⟨cs',rfl,hy⟩:=hy
  simp only[kO,fR]at hl
  obtain⟨_,fs,f,hu,hf,ho,yQ,PF⟩:=hl
  have hfs:P.fieldsOf t=fs:=by simp[Program.fieldsOf,hu]
  simp only[vJ,hu,hf,bP]at he
  rw[run_equalIn_struct w d t cs cs' (by rw[hfs];exact hu) (by simpa using he.1),hfs]
  have h0:fs.toList=f::fs.toList.drop 1:=by
   have h1:=lX (l:=fs.toList) (i:=0) (by rw[bJ];exact(kI.1 hf).1)
   rw[cM]at h1
   rw[h1];congr 1
   rw[zt];exact(kI.1 hf).2
  simp only[Ty.deep]at hd
  rw[h0]
  have pK:Rd w M (.pair a b) (cs.toList.drop 0) x:=by rw[cM];exact hx
  have RM:Rd w M (.pair a b) (cs'.toList.drop 0) y:=by rw[cM];exact hy
  have iI:f.name≠ "_" :=by simpa using he.2.1
  simp only[Op.eqFields,iI,ne_eq,not_false_eq_true,gH]
  exact VV (off:=0) ho yQ he.2.2.1 pK RM ω (λh1 h2=>VW (n:=1) (fs:=fs) (off:=a.size) PF he.2.2.2 (by rw[gq]at h1;exact h1) (by rw[gq]at h2;exact h2) ω)
 | .int _,_,_,_,_,_,0,_,_,_,_,hd| .bool,_,_,_,_,_,0,_,_,_,_,hd| .str,_,_,_,_,_,0,_,_,_,_,hd| .unit,_,_,_,_,_,0,_,_,_,_,hd| .pair _ _,_,_,_,_,_,0,_,_,_,_,hd=>by simp[Ty.deep]at hd
theorem VW{w:World}{M:Nat→Prop}: ∀{b:Ty} {fs:Array Field} {n off:Nat} {cs cs':Array Value} {x y:b.den} {d:Nat},fR P b (.inr (fs,n,off))→vJ P b (.inr (fs,n))=true→Rd w M b (cs.toList.drop off) x→Rd w M b (cs'.toList.drop off) y→b.deep≤d→
  (Op.eqFields d cs cs' (fs.toList.drop n)).run P w= .ok (oR b x y) w
 | .unit,fs,n,off,cs,cs',x,y,d,hl,_,_,_,_=>by
  simp only[fR]at hl
  rw[kJ (by rw[bJ];omega)]
  simp[Op.eqFields,oR]
 | .pair a b,fs,n,off,cs,cs',x,y,d,hl,he,hx,hy,hd=>by
  simp only[fR]at hl
  obtain⟨f,hf,ho,yQ,PF⟩:=hl
  simp only[vJ,hf,bP]at he
  have h0:fs.toList.drop n=f::fs.toList.drop (n+1):=by
   rw[lX (l:=fs.toList) (i:=n) (by rw[bJ];exact(kI.1 hf).1)]
   congr 1
   rw[zt];exact(kI.1 hf).2
  simp only[Ty.deep]at hd
  rw[h0]
  have iI:f.name≠ "_" :=by simpa using he.1
  simp only[Op.eqFields,iI,ne_eq,not_false_eq_true,gH]
  exact VV ho yQ he.2.1 hx hy ω (λh1 h2=>VW PF he.2.2 h1 h2 ω)
 | .int _,_,_,_,_,_,_,_,_,hl,_,_,_,_| .bool,_,_,_,_,_,_,_,_,hl,_,_,_,_| .str,_,_,_,_,_,_,_,_,hl,_,_,_,_| .slice _,_,_,_,_,_,_,_,_,hl,_,_,_,_| .arr _ _,_,_,_,_,_,_,_,_,hl,_,_,_,_=>by simp[fR]at hl
theorem VV{w:World}{M:Nat→Prop}{a b:Ty}{f:Field}{fs:List Field}{off:Nat}{cs cs':Array Value}{x y:(Ty.pair a b).den}{d:Nat}(ho:f.offset=off)(yQ:kO P a f.type)(he:vJ P a (.inl f.type)=true)
  (hx:Rd w M (.pair a b) (cs.toList.drop off) x) (hy:Rd w M (.pair a b) (cs'.toList.drop off) y) (hd:a.deep≤d)
  (hr:Rd w M b (cs.toList.drop (off+a.size)) x.2→Rd w M b (cs'.toList.drop (off+a.size)) y.2→(Op.eqFields d cs cs' fs).run P w= .ok (oR b x.2 y.2) w):
  (do let u ←part f.type cs f.offset;let v ←part f.type cs' f.offset;let r ←Op.equalIn d f.type u v;if(!r)=true then pure false else Op.eqFields d cs cs' fs:Sem Bool).run P w= .ok (oR (.pair a b) x y) w:=by
 simp only[Rd]at hx hy
 obtain⟨c1,c2,hc,h1,h2⟩:=hx
 obtain⟨c1',c2',Tk,p8,yz⟩:=hy
 subst ho
 have p1:(cs.toList.drop f.offset).take a.size=c1:=by rw[hc,wi h1.length]
 have p2:(cs'.toList.drop f.offset).take a.size=c1':=by rw[Tk,wi p8.length]
 have q1:cs.toList.drop (f.offset+a.size)=c2:=by rw[←jJ,hc,nj h1.length]
 have q2:cs'.toList.drop (f.offset+a.size)=c2':=by rw[←jJ,Tk,nj p8.length]
 have r1:=zT yQ (w:=w) (M:=M) (cs:=cs) (off:=f.offset) (x:=x.1) (by rw[p1];exact h1)
 have r2:=zT yQ (w:=w) (M:=M) (cs:=cs') (off:=f.offset) (x:=y.1) (by rw[p2];exact p8)
 have r3:=MG (d:=d) yQ he (V.ofC (by rw[p1];exact h1):V w M a (VM.cI a ((cs.toList.drop f.offset).take a.size)) x.1) (V.ofC (by rw[p2];exact p8):V w M a (VM.cI a ((cs'.toList.drop f.offset).take a.size)) y.1) hd
 simp only[Sem.run_bind,r1,r2,r3,Result.andThen_ok,oR]
 cases oR a x.1 y.1
 ·simp
 ·simpa using hr (by rw[q1];exact h2) (by rw[q2];exact yz)
end
def ZG(P:Program)(τ:Ty)(t:TypeId):Bool:= !(τ.comparable&&τ.isAgg)||(vJ P τ (.inl t)&&(Nat.ble τ.deep 10000&& !P.eqGuardType P.depth t))
theorem ZH{τ:Ty}{t:TypeId}(hl:kO P τ t)(h:ZG P τ t=true)(hc:τ.comparable=true)(ha:τ.isAgg=true):alN P t τ:=by
 unfold ZG at h
 rw[hc,ha]at h
 simp only[Bool.and_self,aY,tI,bP,zK,qL]at h
 obtain⟨h1,h2,h3⟩:=h
 intro w M u v x y b xo yo hx hy
 have he:=MG (d:=10000) hl h1 hx hy h2
 unfold V at hx hy
 rw[aj ha]at hx hy
 obtain⟨cs,rfl,_⟩:=hx
 obtain⟨cs',rfl,_⟩:=hy
 refine⟨?_,?_,?_⟩
 ·cases b<;>simp[eqGuard,h3]
 ·simp only[binOp];simp[Op.equal,Op.maxDepth,he]
 ·simp only[binOp];simp[Op.equal,Op.maxDepth,he]
def amw(P:Program)(l:List (Nat×Ty)):Bool:=l.all λq=>ub P q.2 (.inl q.1)&&ZG P q.2 q.1
end VM
end
section
namespace VM
open Go Go.WideShapes Go.RowKit Go.ChangeShapes
def WF:(τ:Ty)→τ.den→Prop
 | .int k,x=>(Lit.int k x).wf=true
 | .bool,_=>True
 | .str,s=>ByteArray.size s≤maxLen
 | .slice e,l=>List.length l≤maxLen∧ ∀i (h:i<List.length l),WF e (List.get l ⟨i,h⟩)
 | .unit,_=>True
 | .pair a b,x=>WF a x.1∧WF b x.2
 | .arr _ e,l=> ∀i (h:i<List.length l),WF e (List.get l ⟨i,h⟩)
def Ty.pY:Ty→Bool
 | .slice e=>Nat.blt 0 e.size&&e.pY
 | .pair a b=>a.pY&&b.pY
 | .arr _ e=>e.pY
 |_=>true
theorem VX{α β:Type}{f:α→Option β}: ∀{l:List α} {r:List β},l.mapM f=some r→ ∀x∈l,∃y,f x=some y
 |[],_,_,x,hx=>by cases hx
 |a::l,r,h,x,hx=>by
  rw[zE]at h
  simp only[bind,tD,pure,iC]at h
  obtain⟨y,hy,r',hr,_⟩:=h
  rcases aX.1 hx with rfl|hx
  ·exact⟨y,hy⟩
  ·exact VX hr x hx
theorem MH{α β:Type}{f:α→Option β}: ∀{l:List α} {r:List β},l.mapM f=some r→r.length=l.length∧ ∀i (h:i<l.length) (h':i<r.length),f l[i]=some r[i]
 |[],r,h=>by simp at h;subst h;exact⟨rfl,λi h=>by cases h⟩
 |a::l,r,h=>by
  rw[zE]at h
  simp only[bind,tD,pure,iC]at h
  obtain⟨y,hy,r',hr,rfl⟩:=h
  obtain⟨h1,h2⟩:=MH hr
  refine⟨by simp[h1],λi hi lA=> ?_⟩
  cases i with
  |zero=>exact hy
  |succ i=>exact h2 i (by simpa using hi) (by simpa using lA)
theorem wS{α:Type}{p:Nat→α→Prop}: ∀n,(∀i,i<n→ ∃x,p i x)→ ∃l:List α,l.length=n∧ ∀i (h:i<l.length),p i (l.get ⟨i,h⟩)
 |0,_=>⟨[],rfl,λi h=>by cases h⟩
 |n+1,h=>by
  obtain⟨l,hl,hp⟩:=wS n (λi hi=>h i ω)
  obtain⟨x,hx⟩:=h n ω
  refine⟨l++[x],by simp[hl],λi hi=> ?_⟩
  simp only[EB]
  by_cases fA:i<l.length
  ·rw[Et fA];exact hp i fA
  ·have m4:i=n:=by simp at hi;omega
   subst m4
   rw[LA ω]
   simp[hl,hx]
section
variable{H:Type}{enc:TypeId×Value→H}{P:Program}{w:World}
theorem kO.cells{τ:Ty}{t:TypeId}(h:kO P τ t):P.cellsOf t=τ.size:=by
 obtain⟨i,hi,hs,_⟩:=h.base
 simp[Program.cellsOf,hi,hs]
theorem Ir{a:Addr}{n:Nat}{cs:List Value}(h:w.cells? 0 a n=some cs):cs.length=n∧ ∀j v,cs[j]? =some v→w.cell? (a.add j)=some v:=by
 unfold World.cells? at h
 rw[aj (bG _)]at h
 obtain⟨h1,h2⟩:=MH h
 rw[wc]at h1
 refine⟨h1,λj v hj=> ?_⟩
 obtain⟨fA,rfl⟩:=uK.1 hj
 have:=h2 j (by rw[wc];omega) fA
 rw[EC]at this
 exact this
def VY(H:Type)(enc:TypeId×Value→H)(P:Program)(w:World)(τ:Ty):TypeId ⊕ (Array Field×Nat×Nat)→Prop
 | .inl t=> ∀(fuel:Nat) (cs:List Value) (d:DataW H×List MemPlace),DataW.trod enc P w 0 (λ_=>true) true fuel t cs=some d→ ∃x:τ.den,Rd w (λ_=>False) τ cs x∧WF τ x
 | .inr q=> ∀(cs:List Value),cs.length=q.2.2+τ.size→(∀f∈q.1.toList,∃fuel d,DataW.trod enc P w 0 (λ_=>true) true fuel f.type ((cs.drop f.offset).take (P.cellsOf f.type))=some d)→ ∃x:τ.den,Rd w (λ_=>False) τ (cs.drop q.2.2) x∧WF τ x
theorem Is{a b:Ty}{f:Field}{fs:Array Field}{n off:Nat}(hf:fs[n]? =some f)(ho:f.offset=off)(yQ:kO P a f.type)(iha:VY H enc P w a (.inl f.type))(Ve:VY H enc P w b (.inr (fs,n+1,off+a.size)))
  {cs:List Value} (hc:cs.length=off+(a.size+b.size)) (lM: ∀f∈fs.toList,∃fuel d,DataW.trod enc P w 0 (λ_=>true) true fuel f.type ((cs.drop f.offset).take (P.cellsOf f.type))=some d):
  ∃x:(Ty.pair a b).den,Rd w (λ_=>False) (.pair a b) (cs.drop off) x∧WF (.pair a b) x:=by
 subst ho
 obtain⟨fuel,d,hd⟩:=lM f (by rw[Array.mem_toList_iff];exact Array.mem_of_getElem? hf)
 rw[yQ.cells]at hd
 obtain⟨x,hx,hwx⟩:=iha fuel _ d hd
 obtain⟨y,hy,hwy⟩:=Ve cs (by simp only;omega) lM
 refine⟨(x,y),?_,hwx,hwy⟩
 simp only[Rd]
 refine⟨_,_,(fW a.size (cs.drop f.offset)).symm,hx,?_⟩
 rw[jJ];exact hy
theorem u2: ∀{τ:Ty} {x:TypeId ⊕ (Array Field×Nat×Nat)},fR P τ x→τ.pY=true→VY H enc P w τ x
 | .int k,.inl t,hl,_=>by
  intro fuel cs d h
  simp only[fR]at hl
  obtain⟨n,rfl,_,hw⟩:=DataW.trod_int hl.2 h
  exact⟨n,rfl,hw⟩
 | .bool,.inl t,hl,_=>by
  intro fuel cs d h
  simp only[fR]at hl
  obtain⟨b,rfl,_⟩:=DataW.trod_bool hl.2 h
  exact⟨b,rfl,trivial⟩
 | .str,.inl t,hl,_=>by
  intro fuel cs d h
  simp only[fR]at hl
  obtain⟨s,rfl,_,hs⟩:=DataW.trod_string hl.2 h
  exact⟨s,rfl,hs⟩
 | .slice e,.inl t,hl,hs=>by
  intro fuel cs d h
  simp only[fR]at hl
  obtain⟨_,e',hu,hle⟩:=hl
  simp only[Ty.pY,bP,zJ]at hs
  have ih:=u2 hle hs.2
  have sh:P.cellsOf e'=e.size:=kO.cells hle
  rcases DataW.trod_slice hu h with⟨rfl,_⟩|⟨a,len,cap,elems,rest,n,_,rfl,_,_,Y8,D1,hel,lM,_⟩
  ·refine⟨[],?_,bG _,λi h=>by cases h⟩
   simp only[Rd]
   exact⟨none,0,rfl,aI _,λi h=>by cases h⟩
  ·rw[sh]at lM
   have get: ∀i,i<len→ ∃cs' y,w.cells? 0 (a.add (i*e.size)) e.size=some cs'∧DataW.trod enc P w 0 (λ_=>true) true n e' cs'=some y:=λi hi=>by
    have:=lM i hi
    rw[bl ω]at this
    obtain⟨cs',h1,h2⟩:=tD.1 this
    exact⟨cs',_,h1,h2⟩
   have key: ∀i,i<len→ ∃x:e.den,(a.spot=none∧a.block<w.heap.size∧ ∃cs',At w a.block (a.off+i*e.size) cs'∧Rd w (λ_=>False) e cs' x)∧WF e x:=by
    intro i hi
    obtain⟨cs',y,JK,ht⟩:=get i hi
    obtain⟨h1,h2⟩:=Ir JK
    obtain⟨x,hx,hw⟩:=ih n cs' y ht
    have hsp:a.spot=none∧a.block<w.heap.size:=by
     obtain⟨sH,y0,ar9,_⟩:=get 0 ω
     obtain⟨h10,h20⟩:=Ir ar9
     have:=h20 0 sH[0] (bl ω)
     simp only[Nat.zero_mul,Addr.add,gH,World.cell?]at this
     split at this
     ·rename_i hb
      refine⟨?_,(kI.1 hb).1⟩
      split at this
      ·cases this
      ·rename_i hn;simpa using hn
     ·cases this
    refine⟨x,⟨hsp.1,hsp.2,cs',λj v hj=> ?_,hx⟩,hw⟩
    have:=h2 j v hj
    have he:(a.add (i*e.size)).add j=⟨a.block,a.off+i*e.size+j,none⟩:=by
     obtain⟨ab,ao,asp⟩:=a
     simp only at hsp
     obtain⟨rfl,_⟩:=hsp
     simp only[Addr.add]
     split<;>split<;>simp_all<;>omega
    rw[he]at this
    exact this
   obtain⟨l,hl,hp⟩:=wS len key
   refine⟨l,?_,by rw[hl];omega,λi h=>(hp i h).2⟩
   simp only[Rd]
   refine⟨some a,cap,by rw[hl],by rw[hl];exact Y8,λi h=> ?_⟩
   obtain⟨h1,h2,cs',h3,h4⟩:=(hp i h).1
   refine⟨a.block,a.off,?_,h2,λh=>h,cs',h3,h4⟩
   rw[←h1]
 | .unit,.inl t,hl,_=>by
  intro fuel cs d h
  simp only[fR]at hl
  obtain⟨⟨i,hi,sh,_⟩,fs,hu,h0⟩:=hl
  obtain⟨xs,n,_,_,hc,_⟩:=DataW.trod_struct hu h
  refine⟨(),?_,trivial⟩
  simp only[Rd]
  rw[←LD,hc]
  simp[Program.cellsOf,hi,sh,Ty.size]
 | .unit,.inr q,hl,_=>by
  intro cs hc _
  refine⟨(),?_,trivial⟩
  simp only[Rd]
  rw[kJ (by rw[hc];simp[Ty.size])]
 | .pair a b,.inl t,hl,hs=>by
  intro fuel cs d h
  simp only[fR]at hl
  obtain⟨⟨i,hi,sh,_⟩,fs,f,hu,hf,ho,yQ,PF⟩:=hl
  simp only[Ty.pY,bP]at hs
  have iha:=u2 yQ hs.1
  have Ve:=u2 PF hs.2
  obtain⟨xs,n,_,_,hc,hxl,hxs⟩:=DataW.trod_struct hu h
  have:=Is (b:=b) (off:=0) hf ho yQ iha (by simp only[gq];exact Ve) (cs:=cs) (by rw[hc];simp[Program.cellsOf,hi,sh,Ty.size]) (λf hf=>by
   obtain⟨j,hj,rfl⟩:=qI.1 hf
   rw[bJ]at hj
   have:=hxs j fs[j] (by simp[hj])
   rw[bl ω]at this
   exact⟨n,_,by rw[zt];exact this⟩)
  rw[cM]at this
  exact this
 | .pair a b,.inr (fs,n,off),hl,hs=>by
  intro cs hc lM
  simp only[fR]at hl
  obtain⟨f,hf,ho,yQ,PF⟩:=hl
  simp only[Ty.pY,bP]at hs
  exact Is hf ho yQ (u2 yQ hs.1) (u2 PF hs.2) (by simpa [Ty.size]using hc) lM
 | .arr n e,.inl t,hl,hs=>by
  intro fuel cs d h
  simp only[fR]at hl
  obtain⟨⟨i,hi,sh,_⟩,e',hu,hle⟩:=hl
  simp only[Ty.pY]at hs
  have ih:=u2 hle hs
  have hse:P.cellsOf e'=e.size:=kO.cells hle
  obtain⟨xs,m,_,_,hc,hxl,hxs⟩:=DataW.trod_array hu h
  have hlen:cs.length=n*e.size:=by rw[hc];simp[Program.cellsOf,hi,sh,Ty.size]
  have key: ∀i,i<n→ ∃x:e.den,Rd w (λ_=>False) e ((cs.drop (i*e.size)).take e.size) x∧WF e x:=λi hi=>by
   have:=hxs i hi
   rw[bl ω,hse]at this
   exact ih m _ _ this
  obtain⟨l,JT,hp⟩:=wS n key
  refine⟨l,?_,λi h=>(hp i h).2⟩
  simp only[Rd]
  refine⟨JT,(List.range n).map λi=>(cs.drop (i*e.size)).take e.size,by simp,?_,λi h h'=> ?_⟩
  ·clear hxs h key hp JT hu
   have: ∀m,m≤n→cs.take (m*e.size)=((List.range m).map λi=>(cs.drop (i*e.size)).take e.size).flatten:=by
    intro m
    induction m with
    |zero=>simp
    |succ m ihm=>
     intro hm
     rw[EI,dn,List.flatten_append,←ihm ω]
     simp only[bR,iE,zv,List.flatten_nil,cK]
     rw[eG,ke,List.take_add]
   have h2:=this n (aI _)
   rw[gl ω]at h2
   exact h2
  ·have:=(hp i h).1
   simpa using this
 | .int _,.inr _,h,_| .bool,.inr _,h,_| .str,.inr _,h,_| .slice _,.inr _,h,_| .arr _ _,.inr _,h,_=>by simp[fR]at h
theorem ahx{τ:Ty}{t:TypeId}{r:Reach}{b0:Nat}{v:Value}{d:DataW H}{ps:List MemPlace}(hl:kO P τ t)(hs:τ.pY=true)(hv:Value.okWide P w r b0 t v)(h:DataW.Trod enc P w 0 (λ_=>true) true t v d ps):
  ∃x:τ.den,V w (λ_=>False) τ v x∧WF τ x:=by
 obtain⟨fuel,h⟩:=h
 obtain⟨x,hx,hw⟩:=u2 (H:=H) (enc:=enc) (w:=w) hl hs fuel _ _ h
 refine⟨x,?_,hw⟩
 unfold V
 cases τ with
 |int k=>
  obtain⟨n,rfl⟩:=okWide_int hl.int hv
  exact hx
 |bool=>
  obtain⟨n,rfl⟩:=okWide_bool hl.bool hv
  exact hx
 |str=>
  obtain⟨n,rfl⟩:=okWide_string hl.str hv
  exact hx
 |slice e=>
  obtain⟨e',hu,_⟩:=hl.slice
  obtain⟨a,len,cap,rfl⟩:=okWide_slice hu hv
  exact hx
 |unit=>
  simp only[kO,fR]at hl
  obtain⟨_,fs,hu,_⟩:=hl
  simp only[Value.okWide,hu]at hv
  obtain⟨cs,rfl,_⟩:=hv
  exact⟨cs,rfl,hx⟩
 |pair a b=>
  simp only[kO,fR]at hl
  obtain⟨_,fs,f,hu,_⟩:=hl
  simp only[Value.okWide,hu]at hv
  obtain⟨cs,rfl,_⟩:=hv
  exact⟨cs,rfl,hx⟩
 |arr n e=>
  obtain⟨e',hu,_⟩:=hl.arr
  simp only[Value.okWide,hu]at hv
  obtain⟨cs,rfl,_⟩:=hv
  exact⟨cs,rfl,hx⟩
def WFs:(ms:List Ty)→HP (ms.map .v)→Prop
 |[],_=>True
 |_::ms,x=>WF _ (tz x)∧WFs ms (yf x)
def hpC:{m:AM}→{ms:List AM}→m.den→HP ms→HP (m::ms)
 |_,[],x,_=>x
 |_,_::_,x,y=>(x,y)
theorem RN{m:AM}: ∀{ms:List AM} (x:m.den) (y:HP ms),tz (hpC x y)=x
 |[],_,_=>rfl
 |_::_,_,_=>rfl
theorem RO{m:AM}: ∀{ms:List AM} (x:m.den) (y:HP ms),yf (hpC x y)=y
 |[],_,()=>rfl
 |_::_,_,_=>rfl
theorem It(laid:laidOutB P=true){r:Reach}{b0:Nat}: ∀{τs:List Ty} {ts:List TypeId} {vs:List Value} {ds:List (DataW H)} {ps:List MemPlace},DataW.TrodAll enc P w 0 (λ_=>true) true ts vs ds ps→
  τs.length=ts.length→(∀(j:Nat) τ t,τs[j]? =some τ→ts[j]? =some t→(kO P τ t∧τ.pY=true∧P.readableRec t=true∧t<P.types.size))→
  (∀(j:Nat) t v,ts[j]? =some t→vs[j]? =some v→Value.okWide P w r b0 t v)→
  (∃x:HP (τs.map .v),jL w (λ_=>False) (τs.map .v) x vs∧WFs τs x)∧ ∀w',Below w.heap.size w w'→ ∃Hh,DataW.TrodAll enc P w' 0 (λb=>decide (b<w.heap.size)) true ts vs ds Hh
 |[],[],vs,ds,ps,h,_,_,_=>by
  obtain⟨rfl,rfl,rfl⟩:=trodAll_nil h
  exact⟨⟨(),rfl,trivial⟩,λw' _=>⟨[],rfl⟩⟩
 |τ::τs,t::ts,vs,ds,ps,h,hl,E0,hv=>by
  obtain⟨v,Lj,d,ds',p,q,rfl,rfl,rfl,h1,h2⟩:=trodAll_cons h
  obtain⟨zW,ahy,hrr,fA⟩:=E0 0 τ t rfl rfl
  obtain⟨x,hx,hwx⟩:=ahx zW ahy (hv 0 t v rfl rfl) h1
  obtain⟨⟨y,hy,hwy⟩,VZ⟩:=It laid h2 (by simpa using hl) (λj τ' t' h h'=>E0 (j+1) τ' t' (by simpa using h) (by simpa using h')) (λj t' v' h h'=>hv (j+1) t' v' (by simpa using h) (by simpa using h'))
  refine⟨⟨hpC (m:= .v τ) x y,?_,?_⟩,λw' hb=> ?_⟩
  ·show jL w _ (.v τ::τs.map .v) _ _
   simp only[jL]
   exact⟨v,Lj,rfl,by rw[RN];exact hx,by rw[RO];exact hy⟩
  ·simp only[WFs]
   exact⟨by rw[RN];exact hwx,by rw[RO];exact hwy⟩
  ·obtain⟨Hh,h'⟩:=VZ w' hb
   have wL: ∀z∈p,z.block<w.heap.size:=by
    obtain⟨m,hm⟩:=h1
    exact DataW.trod_lt m _ _ _ hm
   exact⟨p++Hh,trodAll_cons_mk (Below.trod laid hrr fA h1 hb wL) h'⟩
 |[],_::_,_,_,_,_,hl,_,_|_::_,[],_,_,_,_,hl,_,_=>by simp at hl
end
end VM
end
section
namespace VM
open Go
variable{α:Type}
def Ai(L:Nat→Option (List (Nat×CM)))(κ:Nat→St→Option α)(i:Option Nat)(f:St→Option α):St→Option α:=
 match i with
 |none=>f
 |some i=>match L i with
  |none=>f
  |some _=>κ i
def V0(E:Env)(κJ κL:Nat→St→Option α)(c:Code):St→(St→Option α)→(Nat→St→Option α)→(St→Option α)→Option α:=
 Code.rec (motive:=λ_=>St→(St→Option α)→(Nat→St→Option α)→(St→Option α)→Option α)
  (fun σ k _ _=>k σ)
  (λ_ ops draw σ k _ _=>DX E ops draw σ k)
  (λ_ b A B σ k kx kr=>A σ (fun σ'=>wD ((cJ b).bind E.xZ) σ' (Ai E.xZ κJ (cJ b) λvQ=>B vQ k kx kr)) kx kr)
  (λc _ _ A B σ k kx kr=>H4 E c σ (fun σ'=>A σ' k kx kr) (fun σ'=>B σ' k kx kr))
  (λid _ A σ k kx kr=>A σ k (λi σ'=>cond (Nat.beq i id) (k σ') (kx i σ')) kr)
  (λb _ σ _ kx kr=>wD ((cJ b).bind E.wz) σ (Ai E.wz κL (cJ b) (Cn ((cJ b).bind E.wz) (fun σ' kn=>DY E b σ' kn kx kr) E.N)))
  (λ_ _ _ _ _ _ _ _ _ _=>none)
  (λid σ _ kx _=>kx id σ)
  (λ_ A σ k kx kr=>A σ k kx kr)
  (λ_ σ k _ _=>k σ)
  (λ_ _ _ _ _=>none)
  (fun σ _ _ kr=>kr σ)
  (λ_ _ _ _ _=>none)
  c
def Fk(E:Env)(c:Code):(St→Option α)→(Nat→St→Option α)→(St→Option α)→List (Bool×Nat×(St→Option α)):=
 Code.rec (motive:=λ_=>(St→Option α)→(Nat→St→Option α)→(St→Option α)→List (Bool×Nat×(St→Option α)))
  (λ_ _ _=>[])
  (λ_ _ _ _ _ _=>[])
  (λ_ b A B k kx kr=>A (fun σ'=>wD ((cJ b).bind E.xZ) σ' λvQ=>DY E b vQ k kx kr) kx kr++(((cJ b).toList.map λi=>(false,i,λvQ=>DY E b vQ k kx kr))++B k kx kr))
  (λ_ _ _ A B k kx kr=>A k kx kr++B k kx kr)
  (λid _ A k kx kr=>A k (λi σ'=>cond (Nat.beq i id) (k σ') (kx i σ')) kr)
  (λb _ _ kx kr=>(cJ b).toList.map λi=>(true,i,Cn ((cJ b).bind E.wz) (fun σ' kn=>DY E b σ' kn kx kr) E.N))
  (λ_ _ _ _ _ _ _ _ _=>[])
  (λ_ _ _ _=>[])
  (λ_ A k kx kr=>A k kx kr)
  (λ_ _ _ _=>[])
  (λ_ _ _ _=>[])
  (λ_ _ _=>[])
  (λ_ _ _ _=>[])
  c
def wT(E:Env)(κJ κL:Nat→St→Option α):List (Bool×Nat×(St→Option α))→List ((St→Option α)×(St→Option α))
 |[]=>[]
 |q::r=>match q.1 with
  |false=>match E.xZ q.2.1 with
   |some _=>(κJ q.2.1,q.2.2)::wT E κJ κL r
   |none=>wT E κJ κL r
  |true=>match E.wz q.2.1 with
   |some _=>(κL q.2.1,q.2.2)::wT E κJ κL r
   |none=>wT E κJ κL r
def HF(E:Env)(κJ κL:Nat→St→Option α)(l:List (Bool×Nat×(St→Option α))):Prop:= ∀p∈wT E κJ κL l,p.1=p.2
theorem ahz{E:Env}{κJ κL:Nat→St→Option α}{l:List (Bool×Nat×(St→Option α))}(g:List (St→Option α))(h:wT E κJ κL l=g.map λf=>(f,f)):HF E κJ κL l:=by
 intro p hp
 rw[h]at hp
 obtain⟨f,_,rfl⟩:=cD.1 hp
 rfl
theorem CG{E:Env}{κJ κL:Nat→St→Option α}: ∀(l m:List (Bool×Nat×(St→Option α))),wT E κJ κL (l++m)=wT E κJ κL l++wT E κJ κL m
 |[],m=>rfl
 |(b,i,f)::l,m=>by
  have ih:=CG (E:=E) (κJ:=κJ) (κL:=κL) l m
  cases b<;>simp only[kL,wT]<;>split<;>simp[ih]
theorem HF.app{E:Env}{κJ κL:Nat→St→Option α}{l m:List (Bool×Nat×(St→Option α))}(h:HF E κJ κL (l++m)):HF E κJ κL l∧HF E κJ κL m:=by
 unfold HF at*
 rw[CG]at h
 exact⟨λp hp=>h p (cQ _ hp),λp hp=>h p (dD _ hp)⟩
theorem afN{E:Env}{κJ κL:Nat→St→Option α}{i:Option Nat}{f:St→Option α}(h:HF E κJ κL (i.toList.map λi=>(false,i,f))):Ai E.xZ κJ i f=f:=by
 cases i with
 |none=>rfl
 |some i=>
  simp only[Option.toList,List.map,HF,wT]at h
  unfold Ai
  cases hL:E.xZ i with
  |none=>simp[hL]
  |some L=>rw[hL]at h;simp only[hL];exact h (κJ i,f) (cm.2 rfl)
theorem amB{E:Env}{κJ κL:Nat→St→Option α}{i:Option Nat}{f:St→Option α}(h:HF E κJ κL (i.toList.map λi=>(true,i,f))):Ai E.wz κL i f=f:=by
 cases i with
 |none=>rfl
 |some i=>
  simp only[Option.toList,List.map,HF,wT]at h
  unfold Ai
  cases hL:E.wz i with
  |none=>simp[hL]
  |some L=>rw[hL]at h;simp only[hL];exact h (κL i,f) (cm.2 rfl)
theorem V1{E:Env}{κJ κL:Nat→St→Option α}(c:Code): ∀(k:St→Option α) (kx:Nat→St→Option α) (kr:St→Option α) (σ:St),HF E κJ κL (Fk E c k kx kr)→V0 E κJ κL c σ k kx kr=DY E c σ k kx kr:=by
 induction c with
 |skip=>intros;rfl
 |region=>intros;rfl
 |seq a b iha Ve=>
  intro k kx kr σ h
  obtain⟨h1,h2⟩:=HF.app (h:HF E κJ κL (Fk E a _ kx kr++(((cJ b).toList.map λi=>(false,i,λvQ=>DY E b vQ k kx kr))++Fk E b k kx kr)))
  obtain⟨h2,h3⟩:=HF.app h2
  show V0 E κJ κL a σ (fun σ'=>wD ((cJ b).bind E.xZ) σ' (Ai E.xZ κJ (cJ b) λvQ=>V0 E κJ κL b vQ k kx kr)) kx kr=DY E a σ (fun σ'=>wD ((cJ b).bind E.xZ) σ' λvQ=>DY E b vQ k kx kr) kx kr
  have hb:(λvQ=>V0 E κJ κL b vQ k kx kr)=λvQ=>DY E b vQ k kx kr:=funext λvQ=>Ve k kx kr vQ h3
  rw[hb,afN h2]
  exact iha _ _ _ _ h1
 |cond x a b iha Ve=>
  intro k kx kr σ h
  obtain⟨h1,h2⟩:=HF.app (h:HF E κJ κL (Fk E a k kx kr++Fk E b k kx kr))
  show H4 E x σ (fun σ'=>V0 E κJ κL a σ' k kx kr) (fun σ'=>V0 E κJ κL b σ' k kx kr)=H4 E x σ (fun σ'=>DY E a σ' k kx kr) (fun σ'=>DY E b σ' k kx kr)
  rw[show(fun σ'=>V0 E κJ κL a σ' k kx kr)=fun σ'=>DY E a σ' k kx kr from funext fun σ'=>iha k kx kr σ' h1,show(fun σ'=>V0 E κJ κL b σ' k kx kr)=fun σ'=>DY E b σ' k kx kr from funext fun σ'=>Ve k kx kr σ' h2]
 |block id x ih=>intro k kx kr σ h;exact ih _ _ _ σ h
 |loop b _=>
  intro k kx kr σ h
  show wD ((cJ b).bind E.wz) σ (Ai E.wz κL (cJ b) (Cn ((cJ b).bind E.wz) (fun σ' kn=>DY E b σ' kn kx kr) E.N))=wD ((cJ b).bind E.wz) σ (Cn ((cJ b).bind E.wz) (fun σ' kn=>DY E b σ' kn kx kr) E.N)
  rw[amB (h:HF E κJ κL ((cJ b).toList.map λi=>(true,i,_)))]
 |rangeFunc=>intros;rfl
 |exit=>intros;rfl
 |scope x ih=>intro k kx kr σ h;exact ih _ _ _ σ h
 |label=>intros;rfl
 |goto=>intros;rfl
 |ret=>intros;rfl
 |refuse=>intros;rfl
def oj(E:Env)(κJ κL:Nat→St→Option α):List Nat→Code→List (St→Option α)→St→(St→Option α)→(Nat→St→Option α)→(St→Option α)→Option α
 |[],c,_,σ,k,kx,kr=>V0 E κJ κL c σ k kx kr
 |n::p,c,ks,σ,k,kx,kr=>match c with
  | .seq a b=>match n with
   |0=>oj E κJ κL p a ks σ (fun σ'=>wD ((cJ b).bind E.xZ) σ' (Ai E.xZ κJ (cJ b) λvQ=>V0 E κJ κL b vQ k kx kr)) kx kr
   |_=>oj E κJ κL p b ks σ k kx kr
  | .cond _ a b=>match n with
   |0=>oj E κJ κL p a ks σ k kx kr
   |_=>oj E κJ κL p b ks σ k kx kr
  | .block id c=>oj E κJ κL p c ks σ k (λi σ'=>cond (Nat.beq i id) (k σ') (kx i σ')) kr
  | .loop b=>match ks with
   |κ::ks=>oj E κJ κL p b ks σ κ kx kr
   |[]=>none
  | .scope c=>oj E κJ κL p c ks σ k kx kr
  |_=>none
def g8(E:Env):List Nat→Code→List (St→Option α)→(St→Option α)→(Nat→St→Option α)→(St→Option α)→List (Bool×Nat×(St→Option α))
 |[],c,_,k,kx,kr=>Fk E c k kx kr
 |n::p,c,ks,k,kx,kr=>match c with
  | .seq a b=>match n with
   |0=>((cJ b).toList.map λi=>(false,i,λvQ=>DY E b vQ k kx kr))++(Fk E b k kx kr++g8 E p a ks (fun σ'=>wD ((cJ b).bind E.xZ) σ' λvQ=>DY E b vQ k kx kr) kx kr)
   |_=>g8 E p b ks k kx kr
  | .cond _ a b=>match n with
   |0=>g8 E p a ks k kx kr
   |_=>g8 E p b ks k kx kr
  | .block id c=>g8 E p c ks k (λi σ'=>cond (Nat.beq i id) (k σ') (kx i σ')) kr
  | .loop b=>match ks with
   |κ::ks=>g8 E p b ks κ kx kr
   |[]=>[]
  | .scope c=>g8 E p c ks k kx kr
  |_=>[]
theorem nD{E:Env}{κJ κL:Nat→St→Option α}: ∀(p:List Nat) (c:Code) (ks:List (St→Option α)) (k:St→Option α) (kx:Nat→St→Option α) (kr:St→Option α) (σ:St),HF E κJ κL (g8 E p c ks k kx kr)→
  oj E κJ κL p c ks σ k kx kr=vR E p c ks σ k kx kr
 |[],c,ks,k,kx,kr,σ,h=>V1 c k kx kr σ h
 |n::p,c,ks,k,kx,kr,σ,h=>by
  cases c with
  |seq a b=>
   cases n with
   |zero=>
    simp only[oj,vR,g8]at h ⊢
    obtain⟨h1,h2⟩:=HF.app h
    obtain⟨h2,h3⟩:=HF.app h2
    rw[show(λvQ=>V0 E κJ κL b vQ k kx kr)=λvQ=>DY E b vQ k kx kr from funext λvQ=>V1 b k kx kr vQ h2,afN h1]
    exact nD p a ks _ kx kr σ h3
   |succ n=>simp only[oj,vR,g8]at h ⊢;exact nD p b ks k kx kr σ h
  |cond x a b=>
   cases n with
   |zero=>simp only[oj,vR,g8]at h ⊢;exact nD p a ks k kx kr σ h
   |succ n=>simp only[oj,vR,g8]at h ⊢;exact nD p b ks k kx kr σ h
  |block id x=>simp only[oj,vR,g8]at h ⊢;exact nD p x ks k _ kr σ h
  |loop b=>
   cases ks with
   |nil=>simp only[oj,vR]
   |cons κ ks=>simp only[oj,vR,g8]at h ⊢;exact nD p b ks κ kx kr σ h
  |scope x=>simp only[oj,vR,g8]at h ⊢;exact nD p x ks k kx kr σ h
  |_=>simp only[oj,vR]
def Fl(fn:Func):Code:=fn.body.getD .skip
def MI(E:Env)(fn:Func)(args res:List AM):St→Option (HP res):=fun σ=>JD E res (fn.results.toList.map .inl++yH args 0) σ some
def nox:Nat→St→Option α:=λ_ _=>none
def azf:St→Option α:=λ_=>none
def atF(E:Env)(fn:Func)(args res:List AM)(p:List Nat)(ks:List (St→Option (HP res)))(σ:St):Option (HP res):=
 vR E p (Fl fn) ks σ (MI E fn args res) nox (MI E fn args res)
def atQ(E:Env)(fn:Func)(args res:List AM)(κJ κL:Nat→St→Option (HP res))(p:List Nat)(ks:List (St→Option (HP res)))(σ:St):Option (HP res):=
 oj E κJ κL p (Fl fn) ks σ (MI E fn args res) nox (MI E fn args res)
def ZI(E:Env)(fn:Func)(args res:List AM)(p:List Nat)(ks:List (St→Option (HP res))):List (Bool×Nat×(St→Option (HP res))):=
 g8 E p (Fl fn) ks (MI E fn args res) nox (MI E fn args res)
theorem asc{E:Env}{fn:Func}{args res:List AM}{κJ κL:Nat→St→Option (HP res)}{p:List Nat}{ks:List (St→Option (HP res))}(g:List (St→Option (HP res)))(h:wT E κJ κL (ZI E fn args res p ks)=g.map λf=>(f,f))(σ:St):
 atF E fn args res p ks σ=atQ E fn args res κJ κL p ks σ:=(nD p _ ks _ _ _ σ (ahz g h)).symm
theorem ahB{E:Env}{fn:Func}{args res:List AM}(hb:fn.body.isSome=true)(x:HP args):Pw E fn args res x=atF E fn args res [] [] (entry args x 0 S0):=by
 unfold Pw atF Fl
 cases h:fn.body with
 |none=>rw[h]at hb;cases hb
 |some c=>rfl
def lpF(E:Env)(fn:Func)(args res:List AM)(c:List (Nat×CM))(p:List Nat)(ks:List (St→Option (HP res)))(n:Nat):St→Option (HP res):=
 Cn (some c) (fun σ kn=>atF E fn args res p (ks++[kn]) σ) n
theorem V2(E:Env)(fn:Func)(args res:List AM)(c:List (Nat×CM))(p:List Nat)(ks:List (St→Option (HP res)))(n:Nat)(σ:St):
 lpF E fn args res c p ks (n+1) σ=atF E fn args res p (ks++[fun σ'=>wD (some c) σ' (lpF E fn args res c p ks n)]) σ:=rfl
def V3{β:Type}(κ:Nat→β):List (Nat×β)→Prop
 |[]=>True
 |q::r=>κ q.1=q.2∧V3 κ r
def Tl{β:Type}:List (β×β)→Prop
 |[]=>True
 |q::r=>q.1=q.2∧Tl r
theorem Tl.mem{β:Type}: ∀{l:List (β×β)},Tl l→ ∀p∈l,p.1=p.2
 |q::r,h,p,hp=>by
  rcases aX.1 hp with rfl|hp
  ·exact h.1
  ·exact Tl.mem h.2 p hp
theorem amC{β:Type}(d:β): ∀(l:List (Nat×β)),(l.map (·.1)).Nodup→ ∃κ:Nat→β,V3 κ l
 |[],_=>⟨λ_=>d,trivial⟩
 |q::r,h=>by
  rw[bR,zB]at h
  obtain⟨κ,hκ⟩:=amC d r h.2
  refine⟨λi=>if i=q.1 then q.2 else κ i,by simp,?_⟩
  have key: ∀(r':List (Nat×β)),(∀p∈r',p∈r)→V3 κ r'→V3 (λi=>if i=q.1 then q.2 else κ i) r':=by
   intro r'
   induction r' with
   |nil=>intros;trivial
   |cons p r' ih=>
    intro hm ha
    refine⟨?_,ih (λp' H6=>hm p' (a8 _ H6)) ha.2⟩
    have iI:p.1≠q.1:=λe=>h.1 (e▸eX (hm p (bp ..)))
    show(if p.1=q.1 then q.2 else κ p.1)=p.2
    rw[ah iI]
    exact ha.1
  exact key r (λ_ h=>h) hκ
theorem aw2{β:Type}(d:β)(l:List (Nat×β)){ks:List Nat}(h:l.map (·.1)=ks)(hd:ks.Nodup): ∃κ:Nat→β,V3 κ l:=amC d l (h▸hd)
theorem at_eq(E:Env)(fn:Func)(args res:List AM){κJ κL:Nat→St→Option (HP res)}{p:List Nat}{ks:List (St→Option (HP res))}{l:List ((St→Option (HP res))×(St→Option (HP res)))}(h:wT E κJ κL (ZI E fn args res p ks)=l)(hl:Tl l)(σ:St):
 atF E fn args res p ks σ=atQ E fn args res κJ κL p ks σ:=(nD p _ ks _ _ _ σ (by unfold HF;rw[show wT E κJ κL (g8 E p (Fl fn) ks (MI E fn args res) nox (MI E fn args res))=l from h];exact hl.mem)).symm
end VM
end
section
namespace VM
open Go Go.RowKit
variable{P:Program}
def MJ(i:Nat):List (Nat×Ty)→Option Ty
 |[]=>none
 |q::r=>cond (Nat.beq i q.1) (some q.2) (MJ i r)
theorem Iu{i:Nat}{τ:Ty}: ∀{l:List (Nat×Ty)},MJ i l=some τ→(i,τ)∈l
 |q::r,h=>by
  unfold MJ at h
  cases hb:Nat.beq i q.1<;>rw[hb]at h
  ·exact a8 _ (Iu h)
  ·cases h;rw[fV hb];exact bp ..
structure Fm(P:Program)(tab:List (Nat×Ty)):Prop where
 ok:amw P tab=true
 mixed:P.follows .mixedOrders=true
theorem Tm{E:Env}(hE:tZ P E)(ase:E.io=[]){f:FuncId}{fn:Func}(hf:P.funcs[f]? =some fn)(τs:List Ty)
  (hc:(Nat.beq E.nt fn.ntmps&&Nat.ble τs.length E.nt)=true) {w:World} {vs:List Value} {x:HP (τs.map .v)} (hA:jL w (λ_=>False) (τs.map .v) x vs)
  (h:Pw E fn (τs.map .v) [.v .bool] x=some true):Calls P f vs.toArray w λe w'=>e= .returned (.bool true)∧Below w.heap.size w w':=by
 rw[bP]at hc
 have hnt:=fV hc.1
 have hlen:=Ez hc.2
 have hh: ∀(τs:List Ty) (vs:List Value),dX (τs.map .v) vs=[]:=by
  intro τs
  induction τs with
  |nil=>intro vs;cases vs<;>rfl
  |cons τ τs ih=>intro vs;cases vs with
   |nil=>rfl
   |cons v vs=>simp[dX,db,ih]
 have hi: ∀(τs:List Ty) (vs:List Value),fC (τs.map .v) vs=[]:=by
  intro τs
  induction τs with
  |nil=>intro vs;cases vs<;>rfl
  |cons τ τs ih=>intro vs;cases vs with
   |nil=>rfl
   |cons v vs=>simp[fC,AM.iJ,ih]
 refine(Iq (M0:=λ_=>False) (vs:=vs) hE hf hnt (λi m hm vH=> ?_) (λi hi=>by rw[ase]at hi;cases hi) (by rw[cO];rw[←hnt];exact hlen) (λb hb=>hb.elim) (by rw[hh];simpa using hA) (by rw[hh];exact List.nodup_nil) (λb _ hb=>hb) h).mono ?_
 ·rw[nf]at hm
  obtain⟨τ,_,rfl⟩:=zq.1 hm
  cases vH
 ·rintro e w' ⟨v,rfl,us,M',rfl,UZ,hL,_,_⟩
  rw[hh]at hL
  rw[hi]at UZ
  simp only[RR]at UZ
  rcases UZ with⟨p,Hh,h1,_⟩|⟨v,Lj,_,_,rfl,hv,rfl,_⟩
  ·cases h1
  ·refine⟨?_,hL.os,hL.tape,hL.output,hL.size,λb hb=>hL.frame b hb (by simp)⟩
   have:v= .bool true:=by
    simp only[A1,V,Ty.isAgg,jd,fa,Rd,fv,ec]at hv
    exact hv
   rw[this];rfl
def V4(P:Program):List Ty→List TypeId→Bool
 |[],[]=>true
 |τ::τs,t::ts=>(ub P τ (.inl t)&&τ.pY)&&((P.readableRec t&&decide (t<P.types.size))&&V4 P τs ts)
 |_,_=>false
theorem J3: ∀{τs:List Ty} {ts:List TypeId},V4 P τs ts=true→τs.length=ts.length∧ ∀(j:Nat) τ t,τs[j]? =some τ→ts[j]? =some t→(kO P τ t∧τ.pY=true∧P.readableRec t=true∧t<P.types.size)
 |[],[],_=>⟨rfl,λj τ t h=>by simp at h⟩
 |τ::τs,t::ts,h=>by
  simp only[V4,bP]at h
  obtain⟨⟨h1,h2⟩,⟨h3,h4⟩,h5⟩:=h
  obtain⟨hl,ih⟩:=J3 h5
  refine⟨by simp[hl],λj τ' t' ha hb=> ?_⟩
  cases j with
  |zero=>
   simp only[LF,iC]at ha hb
   subst ha;subst hb
   exact⟨gR h1,h2,h3,bF h4⟩
  |succ j=>exact ih j τ' t' (by simpa using ha) (by simpa using hb)
 |[],_::_,h|_::_,[],h=>by simp[V4]at h
theorem V5{H:Type}{enc:TypeId×Value→H}{w:World}{fn:Func}{args:Array Value}{ds:List (DataW H)}{ps:List MemPlace}{r:Reach}{b0:Nat}(laid:laidOutB P=true)(τs:List Ty)
  (hA:DataW.TrodAll enc P w 0 (λ_=>true) true fn.params.toList args.toList ds ps) (E0:V4 P τs fn.params.toList=true)
  (hv: ∀(j:Nat) t v,fn.params[j]? =some t→args[j]? =some v→Value.okWide P w r b0 t v):
  (∃x:HP (τs.map .v),jL w (λ_=>False) (τs.map .v) x args.toList∧WFs τs x)∧ ∀w',Below w.heap.size w w'→ ∃Hh,DataW.TrodAll enc P w' 0 (λb=>decide (b<w.heap.size)) true fn.params.toList args.toList ds Hh:=
 It laid hA (J3 E0).1 (J3 E0).2 (λj t v h h'=>hv j t v (by rw[gY]at h;exact h) (by rw[gY]at h';exact h'))
end VM
end
