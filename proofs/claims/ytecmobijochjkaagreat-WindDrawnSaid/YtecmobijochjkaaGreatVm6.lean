/- A part of the proof of WindDrawn of layer 21: a machine that reads a function of the program as an equation between values. -/
import Derived.Test.YtecmobijochjkaaGreatVm5
import Derived.Laws.StructEq
import Derived.OpenShut
import Derived.ChangeShapes
import Derived.ChangeMaps5
import Derived.RowKit
import Derived.ChangeOld
import Derived.Carry
import Derived.Below
import Derived.Test.YtecmobijochjkaaGreatVm0
set_option linter.all false
noncomputable section
section
namespace VM
open Go
variable{P:Program}{E:Env}{o:Oper}{a:Act}{w:World}{M:Nat→Prop}{ν:Nat→Value}{σ:St}{c:Ctx}{α:Type}{r:α}{next:Act→World→Prop}{Q:Exit→Act→World→Prop}
theorem Cd{L:Option (List (Nat×CM))}(hL: ∀L',L=some L'→jU L'=true){b:Code}{Q:Exit→Act→World→Prop}{step:St→(St→Option α)→Option α}
  (hs: ∀σ a w kn (Q':Exit→Act→World→Prop),Inv c E σ a w→step σ kn=some r→(∀σ' a' w',kn σ'=some r→Inv c E σ' a' w'→Q' .normal a' w')→(∀e a' w',e≠ .normal→Q e a' w'→Q' e a' w')→b.wp P Q' a w):
  ∀n σ a w,Inv c E σ a w→BZ L step n σ=some r→Code.rounds P b Q n a w
 |0,σ,a,w,_,h=>by cases h
 |n+1,σ,a,w,hI,h=>by
  rw[rounds_succ]
  refine hs σ a w _ _ hI h (fun σ' a' w' h' ye=> ?_) (λe a' w' he hq=> ?_)
  ·obtain⟨vf,JL,ahf⟩:=yz ye hL h'
   exact Cd hL hs n vf a' w' ahf JL
  ·cases e<;>first|exact hq|exact absurd rfl he
theorem S4(hE:sb P E): ∀(cd:Code) (σ:St) (a:Act) (w:World) (k:St→Option α) (kx:Nat→St→Option α) (kr:St→Option α) (Q:Exit→Act→World→Prop),Inv c E σ a w→DD E cd σ k kx kr=some r→
  (∀σ' a' w',k σ'=some r→Inv c E σ' a' w'→Q .normal a' w')→(∀i σ' a' w',kx i σ'=some r→Inv c E σ' a' w'→Q (.exit i) a' w')→(∀σ' a' w',kr σ'=some r→Inv c E σ' a' w'→Q .ret a' w')→cd.wp P Q a w:=by
 intro cd
 induction cd with
 |skip=>intro σ a w k kx kr Q hI h hk _ _;exact wp_skip (hk σ a w h hI)
 |region id ops draw=>intro σ a w k kx kr Q hI h hk _ _;exact He hE hI h hk
 |seq x y ihx ihy=>
  intro σ a w k kx kr Q hI h hk hx hr
  refine wp_seq (ihx σ a w _ kx kr _ hI h (fun σ' a' w' h' ye=> ?_) hx hr)
  obtain⟨vf,JL,ahf⟩:=yz ye (λL' hL=>by
   cases hf:cK y with
   |none=>rw[hf]at hL;cases hL
   |some i=>rw[hf]at hL;exact hE.Vm i L' hL) h'
  exact ihy vf a' w' k kx kr Q ahf JL hk hx hr
 |cond x t e iht ihe=>
  intro σ a w k kx kr Q hI h hk hx hr
  obtain⟨b,hb,h⟩:=Mj (E:=E) (A:=fun σ'=>DD E t σ' k kx kr) (B:=fun σ'=>DD E e σ' k kx kr) hI h
  refine wp_cond hb ?_
  cases b
  ·exact ihe σ a w k kx kr Q hI h hk hx hr
  ·exact iht σ a w k kx kr Q hI h hk hx hr
 |block id x ih=>
  intro σ a w k kx kr Q hI h hk hx hr
  refine wp_block (ih σ a w k _ kr _ hI h hk (λi σ' a' w' h' ye=> ?_) hr)
  show if i=id then Q .normal a' w' else Q (.exit i) a' w'
  cases hb:Nat.beq i id
  ·have jH:i≠id:=λe=>by subst e;rw[show Nat.beq i i=true from sY i]at hb;cases hb
   rw[hb]at h'
   rw[ah jH]
   exact hx i σ' a' w' h' ye
  ·rw[hb]at h'
   rw[aj (fT hb)]
   exact hk σ' a' w' h' ye
 |loop b ih=>
  intro σ a w k kx kr Q hI h hk hx hr
  have hL: ∀L',(cK b).bind E.vK=some L'→jU L'=true:=λL' hL=>by
   cases hf:cK b with
   |none=>rw[hf]at hL;cases hL
   |some i=>rw[hf]at hL;exact hE.jU i L' hL
  obtain⟨σ',h',ye⟩:=yz hI hL h
  refine wp_loop_rounds E.N (Cd hL (fun σ a w kn Q' hI h hkn hq=> ?_) E.N σ' a w ye h')
  exact ih σ a w kn kx kr Q' hI h hkn (λi σ' a' w' h' ye=>hq _ _ _ (by simp) (hx i σ' a' w' h' ye)) (fun σ' a' w' h' ye=>hq _ _ _ (by simp) (hr σ' a' w' h' ye))
 |rangeFunc f ps x y ihx ihy=>intro σ a w k kx kr Q hI h;cases h
 |exit id=>intro σ a w k kx kr Q hI h hk hx hr;exact wp_exit (hx id σ a w h hI)
 |scope x ih=>
  intro σ a w k kx kr Q hI h hk hx hr
  exact wp_scope_straight (ih σ a w k kx kr _ hI h hk hx hr)
 |label l=>intro σ a w k kx kr Q hI h hk _ _;exact wp_label (hk σ a w h hI)
 |goto l=>intro σ a w k kx kr Q hI h;cases h
 |ret=>intro σ a w k kx kr Q hI h hk hx hr;exact wp_ret (hr σ a w h hI)
 |refuse s=>intro σ a w k kx kr Q hI h;cases h
end VM
end
section
namespace VM
open Go
variable{P:Program}{E:Env}{o:Oper}{a:Act}{w:World}{M:Nat→Prop}{ν:Nat→Value}{σ:St}{c:Ctx}{α:Type}{r:α}{next:Act→World→Prop}{Q:Exit→Act→World→Prop}
theorem PO{m:AM}{ms:List AM}(x:HP (m::ms))(i:Nat)(σ:St):entry (m::ms) x i σ=entry ms (xO x) (i+1) (Pz m (sQ x) i σ):=by
 cases ms with
 |nil=>simp[entry,sQ]
 |cons n ms=>simp[entry,sQ,xO]
theorem Core.yd{tm:Array Value}(h:Core c σ tm w M ν){id:Nat}{v:Value}{e:bh}(bg:σ.H id=none)(Sz:ER w M v e)
  (hd: ∀b,fH v=some b→ ∀i e',σ.H i=some e'→e'.mut→fH (ν i)≠some b) (hn: ∀b,fH v=some b→c.B≤b∨c.may b) (ho: ∀b e0 l0,e= .own e0 l0→fH v=some b→ ¬c.M0 b)
  (sF: ∀τ x p j,e= .ga τ x p j→bW σ.H id (some e) j≠none∧ ∃b,v= .pointer (some ⟨b,0,none⟩)∧w.cell? ⟨b,cE p τ,none⟩=some (dg ν id v j):=by intro _ _ _ _ h;cases h):
  Core c ⟨σ.T,bW σ.H id (some e)⟩ tm w M (dg ν id v):=by
 have hm:=Mem.yd h.mem (id:=id) (v:=v) (e:=e) (λe' vQ=>by rw[bg]at vQ;cases vQ) Sz hd hn ho (.inl bg) sF
 refine h.tr ⟨hm,.refl w M,⟨λi e1 hi=> ?_,λi hi=> ?_⟩⟩
 ·have bV:i≠id:=λe=>by rw[e,bg]at hi;cases hi
  exact⟨e1,by rw[az _ _ bV];exact hi,.refl e1⟩
 ·have bV:i≠id:=λe=>hi (e▸bg)
  simp[dg,bV]
theorem Core.put{tm:Array Value}(h:Core c σ tm w M ν){d:Nat}{x:bC}(hx:VR w M σ.H ν x (tm.getD d undef)):Core c (σ.put d x) tm w M ν:=by
 refine⟨h.mem,λi=> ?_⟩
 by_cases hi:i=d
 ·subst hi;rw[tW];exact hx
 ·rw[zO _ _ hi];exact h.tmp i
theorem Ce{tm:Array Value}: ∀{ms:List AM} {x:HP ms} {vs:List Value} {i:Nat} {σ:St} {ν:Nat→Value} {used:List Nat},Core c σ tm w M ν→jy w M ms x vs→(∀j v,vs[j]? =some v→tm.getD (i+j) undef=v)→
  (∀j,16*i≤j→σ.H j=none)→(∀j e b,σ.H j=some e→e.mut→fH (ν j)=some b→b∈used)→(used++dM ms vs).Nodup→(∀b∈dM ms vs,c.may b)→(∀b,c.may b→ ¬c.M0 b)→
  ∃ν',Core c (entry ms x i σ) tm w M ν'
 |[],x,vs,i,σ,ν,used,h,_,_,_,_,_,_,_=>⟨ν,h⟩
 |m::ms,x,vs,i,σ,ν,used,h,hA,Mr,jj,HY,xP,PQ,HK=>by
  rw[PO]
  simp only[jy]at hA
  obtain⟨v,K8,rfl,h1,h2⟩:=hA
  have hv:tm.getD i undef=v:=by simpa using Mr 0 v rfl
  have JQ: ∀j u,K8[j]? =some u→tm.getD (i+1+j) undef=u:=λj u hj=>by
   have:=Mr (j+1) u (by simpa using hj)
   rwa [show i+(j+1)=i+1+j from by omega]at this
  have bg:σ.H (16*i+15)=none:=jj _ ω
  have ahg:dM (m::ms) (v::K8)=c9 m v++dM ms K8:=rfl
  rw[ahg]at xP PQ
  have qM: ∀b,b∈c9 m v→ ∀j e',σ.H j=some e'→e'.mut→fH (ν j)≠some b:=λb hb j e' hj jI eV=>
   mg xP (HY j e' b hj jI eV) (cS _ hb)
  have vZ: ∀{σ':St} {ν':Nat→Value},Core c σ' tm w M ν'→(∀j,16*(i+1)≤j→σ'.H j=none)→(∀j e b,σ'.H j=some e→e.mut→fH (ν' j)=some b→b∈used++c9 m v)→ ∃ν'',Core c (entry ms (xO x) (i+1) σ') tm w M ν'':=
   λh' AX hu'=>Ce h' h2 JQ AX hu' (by rw[br];exact xP) (λb hb=>PQ b (dy _ hb)) HK
  have Mm: ∀(e:bh) (v':Value),v'=v→(∀b,fH v=some b→b∈c9 m v)→(∀j,16*(i+1)≤j→bW σ.H (16*i+15) (some e) j=none)∧
    (∀j e1 b,bW σ.H (16*i+15) (some e) j=some e1→e1.mut→fH (dg ν (16*i+15) v' j)=some b→b∈used++c9 m v):=by
   rintro e v' rfl hb
   refine⟨λj hj=>by rw[az _ _ ω];exact jj j ω,λj e1 b hj jI eV=> ?_⟩
   by_cases yC:j=16*i+15
   ·subst yC
    simp only[dg,gw]at eV
    exact dy _ (hb b eV)
   ·rw[az _ _ yC]at hj
    simp only[dg,yC,eQ]at eV
    exact cS _ (HY j e1 b hj jI eV)
  cases m with
  |v τ=>
   refine vZ (σ':=σ.put i (.val τ (sQ x))) (h.put ?_) (λj hj=>jj j ω) (λj e b hj jI eV=>cS _ (HY j e b hj jI eV))
   simp only[VR,hv];exact h1
  |fn f τ=>
   refine vZ (σ':=σ.put i (.LD f (pG τ (sQ x)))) (h.put ?_) (λj hj=>jj j ω) (λj e b hj jI eV=>cS _ (HY j e b hj jI eV))
   rw[hv]
   simp only[A1,VR]at h1 ⊢
   obtain⟨us,hu,Po⟩:=h1
   exact⟨us,hu,ji.free Po⟩
  |own e=>
   have vR: ∀b,fH v=some b→b∈c9 (.own e) v:=λb hb=>by simp[c9,hb]
   have hc:=h.yd bg (v:=v) (e:= .own e (sQ x)) h1 (λb hb=>qM b (vR b hb)) (λb hb=> .inr (PQ b (cS _ (vR b hb)))) (λb _ _ _ hb=>HK b (PQ b (cS _ (vR b hb))))
   obtain⟨AX,hu'⟩:=Mm (.own e (sQ x)) v rfl vR
   refine vZ (σ':=(σ.put i (.ref (16*i+15))).jF (16*i+15) (some (.own e (sQ x)))) (ν':=dg ν (16*i+15) v) (hc.put (d:=i) (x:= .ref (16*i+15)) ?_) AX hu'
   simp only[VR,hv]
   exact⟨by rw[ay];simp,by simp[dg]⟩
  |lo e=>
   have vR: ∀b,fH v=some b→b∈c9 (.lo e) v:=λb hb=>by simp[c9,hb]
   have hc:=h.yd bg (v:=v) (e:= .own e (sQ x)) h1 (λb hb=>qM b (vR b hb)) (λb hb=> .inr (PQ b (cS _ (vR b hb)))) (λb _ _ _ hb=>HK b (PQ b (cS _ (vR b hb))))
   obtain⟨AX,hu'⟩:=Mm (.own e (sQ x)) v rfl vR
   refine vZ (σ':=(σ.put i (.ref (16*i+15))).jF (16*i+15) (some (.own e (sQ x)))) (ν':=dg ν (16*i+15) v) (hc.put (d:=i) (x:= .ref (16*i+15)) ?_) AX hu'
   simp only[VR,hv]
   exact⟨by rw[ay];simp,by simp[dg]⟩
  |io τ=>
   have vR: ∀b,fH v=some b→b∈c9 (.io τ) v:=λb hb=>by simp[c9,hb]
   have hc:=h.yd bg (v:=v) (e:= .obj τ (sQ x)) h1 (λb hb=>qM b (vR b hb)) (λb hb=> .inr (PQ b (cS _ (vR b hb)))) (λb _ _ he=>by cases he)
   obtain⟨AX,hu'⟩:=Mm (.obj τ (sQ x)) v rfl vR
   refine vZ (σ':=(σ.put i (.jg (16*i+15) [])).jF (16*i+15) (some (.obj τ (sQ x)))) (ν':=dg ν (16*i+15) v) (hc.put (d:=i) (x:= .jg (16*i+15) []) ?_) AX hu'
   simp only[A1,ER]at h1
   obtain⟨b,cs,t,Vj,_⟩:=h1
   simp only[VR,hv]
   exact⟨_,ay _ _ _,trivial,b,by simp[dg,Vj],Vj⟩
  |jg τ=>
   refine vZ (σ':=σ.put i (.qD τ (sQ x))) (h.put ?_) (λj hj=>jj j ω) (λj e b hj jI eV=>cS _ (HY j e b hj jI eV))
   rw[hv]
   simp only[A1,VR]at h1 ⊢
   exact h1
  |ptr τ=>
   refine vZ (σ':=σ) h (λj hj=>jj j ω) (λj e b hj jI eV=>cS _ (HY j e b hj jI eV))
def wb(tm:Array Value):ResultVar→Sem Value
 | .tmp t=>pure (tm.getD t undef)
 | .cell x t=>do loadVar t (←asAddr (tm.getD x undef))
def C6(P:Program)(tm:Array Value)(w:World)(rv:ResultVar)(u:Value):Prop:=(wb tm rv).run P w= .ok u w
def JR(P:Program)(tm:Array Value)(w:World):List (ResultVar ⊕ Nat)→List Value→List Value→Prop
 |[],us,ps=>us=[]∧ps=[]
 | .inl rv::rs,us,ps=> ∃u JJ,us=u::JJ∧C6 P tm w rv u∧JR P tm w rs JJ ps
 | .inr i::rs,us,ps=> ∃p GK,ps=p::GK∧p=tm.getD i undef∧JR P tm w rs us GK
theorem Core.Zr{tm:Array Value}{H1:Nat→Option bh}{M1:Nat→Prop}(h: ∀i,VR w M σ.H ν (σ.T i) (tm.getD i undef))(k:eY w M w M1)(g:sE σ.H ν H1 ν): ∀i,VR w M1 H1 ν (σ.T i) (tm.getD i undef):=
 λi=>VR.bZ k g (h i)
theorem Cg(hE:EnvTy P E){tm:Array Value}{H0 Hq:Nat→Option bh}{M1:Nat→Prop}{uo uf:iP}{io:List (Nat×AM)}{hs:List Nat}(h:jz c w M ν H0 σ.H Hq M1 uo uf io hs)(ht: ∀i,VR w M1 σ.H ν (σ.T i) (tm.getD i undef))
  {m:AM} {rs:ResultVar ⊕ Nat} {k:m.den→St→Option α} (hk:HJ E m rs σ k=some r):
  ∃y σ' K2 K3 GB UK M2 u,k y σ'=some r∧σ'.T=σ.T∧jz c w M ν H0 σ'.H UK M2 K2 K3 GB (hs++c9 m u)∧eY w M1 w M2∧sE σ.H ν σ'.H ν∧A1 w M2 m y u∧
   ((m.iz=false∧m.Y8=false∧ ∃rv,rs= .inl rv∧C6 P tm w rv u)∨(m.iz=true∧ ∃i,rs= .inr i∧u=tm.getD i undef)):=by
 unfold HJ at hk
 split at hk
 ·
  rename_i τ t k
  obtain⟨y,rd,ups,hk,hy⟩:=DG h.mem (ht t) hk
  have PS:C6 P tm w (.tmp t) (tm.getD t undef):=by simp[C6,wb]
  rcases hy with⟨rfl,hV⟩|⟨id,e,l,rfl,bg,hV⟩
  ·exact⟨y,σ,uo,uf,io,Hq,M1,_,hk,rfl,by simpa [c9]using h,.refl w M1,.refl _ ν,hV,.inl ⟨rfl,rfl,_,rfl,PS⟩⟩
  ·obtain⟨M2,hA,hK,JB⟩:=h.freeze bg
   exact⟨y,_,uo,_,io,Hq,M2,_,hk,rfl,(by simp only[c9,ch];exact hA),hK,.Za bg ⟨rfl,rfl⟩,hV M2 JB,.inl ⟨rfl,rfl,_,rfl,PS⟩⟩
 ·
  rename_i τ x t k
  split at hk
  ·rename_i τ' EC
   obtain⟨e1,hk1⟩:=fU hk
   clear hk
   subst e1
   obtain⟨υ,z,rd,hk,b,off,cs,hv,pR,kM⟩:=B2 h.mem (ht x) hk1
   obtain⟨e2,YF⟩:=bB hk
   subst e2
   refine⟨_,σ,uo,uf,io,Hq,M1,cJ _ cs,YF,rfl,by simpa [c9]using h,.refl w M1,.refl _ ν,V.cJ kM,.inl ⟨rfl,rfl,_,rfl,?_⟩⟩
   simp only[C6,wb,hv]
   simp[asAddr,B1 (hE.ty t _ EC) pR kM]
  ·cases hk
 ·
  rename_i e t k
  have hv:=ht t
  have PS:C6 P tm w (.tmp t) (tm.getD t undef):=by simp[C6,wb]
  split at hk
  ·rename_i hT
   rw[hT]at hv
   obtain⟨ad,hv⟩:=VR.emp.1 hv
   have hb:fH (.slice ad 0 0)=none:=by cases ad<;>simp[fH]
   exact⟨[],σ,uo,uf,io,Hq,M1,_,hk,rfl,by rw[hv];simpa [c9,hb]using h,.refl w M1,.refl _ ν,by rw[hv];simp only[A1,ER];exact .inl ⟨trivial,ad,rfl⟩,.inl ⟨rfl,rfl,_,rfl,PS⟩⟩
  ·rename_i id hT
   rw[hT]at hv
   simp only[VR]at hv
   split at hk
   ·rename_i e' l bg
    obtain⟨e1,hk⟩:=bB hk
    cases e1
    refine⟨_,_,_,uf,io,_,M1,ν id,hk,rfl,(by simp only[c9];exact h.hand bg),.refl w M1,.Za bg (bh.kD _),h.mem.kP id _ bg,.inl ⟨rfl,rfl,_,rfl,by rw[←hv.2];exact PS⟩⟩
   ·cases hk
  ·cases hk
 ·
  rename_i τ i k
  have hv:=ht i
  split at hk
  ·rename_i id hT
   rw[hT]at hv
   split at hk
   ·rename_i υ z bg
    obtain⟨e1,hk⟩:=bB hk
    subst e1
    simp only[VR]at hv
    obtain⟨e,he,nA⟩:=hv
    rw[bg]at he;cases he
    simp only[AR]at nA
    obtain⟨_,b,hb,hv⟩:=nA
    have Vj:tm.getD i undef=ν id:=by rw[hv,hb];rfl
    refine⟨_,_,uo,uf,_,_,M1,ν id,hk,rfl,(by simp only[c9];exact h.agZ bg),.refl w M1,.Za bg (bh.kD _),h.mem.kP id _ bg,.inr ⟨rfl,i,rfl,Vj.symm⟩⟩
   ·cases hk
  ·cases hk
 ·
  rename_i e i k
  have hv:=ht i
  split at hk
  ·rename_i id hT
   rw[hT]at hv
   simp only[VR]at hv
   split at hk
   ·rename_i e' l bg
    obtain⟨e1,hk⟩:=bB hk
    cases e1
    refine⟨_,_,uo,uf,_,_,M1,ν id,hk,rfl,(by simp only[c9];exact h.afy bg),.refl w M1,.Za bg (bh.kD _),h.mem.kP id _ bg,.inr ⟨rfl,i,rfl,hv.2.symm⟩⟩
   ·cases hk
  ·cases hk
 ·
  rename_i τ t k
  have hv:=ht t
  have PS:C6 P tm w (.tmp t) (tm.getD t undef):=by simp[C6,wb]
  split at hk
  ·rename_i id hT
   rw[hT]at hv
   split at hk
   ·rename_i υ z bg
    obtain⟨e1,hk⟩:=bB hk
    subst e1
    simp only[VR]at hv
    obtain⟨e,he,nA⟩:=hv
    rw[bg]at he;cases he
    simp only[AR]at nA
    obtain⟨_,b,hb,hv⟩:=nA
    have Vj:tm.getD t undef=ν id:=by rw[hv,hb];rfl
    refine⟨_,_,uo,uf,_,_,M1,ν id,hk,rfl,(by simp only[c9];exact h.agZ bg),.refl w M1,.Za bg (bh.kD _),h.mem.kP id _ bg,.inl ⟨rfl,rfl,_,rfl,by rw[←Vj];exact PS⟩⟩
   ·cases hk
  ·cases hk
 ·cases hk
theorem EX(hE:EnvTy P E){tm:Array Value}{H0:Nat→Option bh}: ∀{ms:List AM} {rs:List (ResultVar ⊕ Nat)} {σ:St} {Hq:Nat→Option bh} {M1:Nat→Prop} {uo uf:iP} {io:List (Nat×AM)} {hs:List Nat} {K:HP ms→Option α},
  jz c w M ν H0 σ.H Hq M1 uo uf io hs→(∀i,VR w M1 σ.H ν (σ.T i) (tm.getD i undef))→Jt E ms rs σ K=some r→
  ∃y us ps H2 K2 K3 GB UK M2,K y=some r∧jz c w M ν H0 H2 UK M2 K2 K3 GB (hs++bF ms us ps)∧eY w M1 w M2∧RR w M2 ms y us ps∧JR P tm w rs us ps
 |[],[],σ,Hq,M1,uo,uf,io,hs,K,h,ht,hk=>⟨(),[],[],σ.H,uo,uf,io,Hq,M1,hk,by simpa [bF]using h,.refl w M1,⟨rfl,rfl⟩,⟨rfl,rfl⟩⟩
 |[m],[q],σ,Hq,M1,uo,uf,io,hs,K,h,ht,hk0=>by
  obtain⟨y,σ',K2,K3,GB,UK,M2,u,hk,hT,hA,hK,hG,hy,hu⟩:=Cg hE h ht (hk0:HJ E m q σ _=some r)
  clear hk0
  rcases hu with⟨h1,h2,rv,rfl,hv⟩|⟨h1,i,rfl,hv⟩
  ·refine⟨y,[u],[],_,_,_,_,_,M2,hk,by simpa [bF,h1]using hA,hK,?_,?_⟩
   ·simp only[RR];exact .inr ⟨u,[],h1,h2,rfl,hy,by simp⟩
   ·simp only[JR];exact⟨u,[],rfl,hv,by simp⟩
  ·refine⟨y,[],[u],_,_,_,_,_,M2,hk,by simpa [bF,h1]using hA,hK,?_,?_⟩
   ·simp only[RR];exact .inl ⟨u,[],h1,rfl,hy,by simp⟩
   ·simp only[JR];exact⟨u,[],rfl,hv,by simp⟩
 |m::n::ms,q::rs,σ,Hq,M1,uo,uf,io,hs,K,h,ht,hk0=>by
  obtain⟨y,σ',K2,K3,GB,UK,M2,u,hk1,hT,hA,hK,hG,hy,hu⟩:=Cg hE h ht (hk0:HJ E m q σ _=some r)
  obtain⟨ys,us,ps,H3,uo3,uf3,io3,Hq3,M3,hk,hA3,hK3,hys,hrs⟩:=EX (ms:=n::ms) hE hA (λi=>by rw[hT];exact Core.Zr ht hK hG i) hk1
  have HU:A1 w M3 m y u:=A1.wa hK3 (λb hb=>⟨rfl,hA3.hM b (cS _ (dy _ hb))⟩) hy
  clear hk0
  rcases hu with⟨h1,h2,rv,rfl,hv⟩|⟨h1,i,rfl,hv⟩
  ·refine⟨(y,ys),u::us,ps,H3,uo3,uf3,io3,Hq3,M3,hk,?_,hK.trans hK3,?_,?_⟩
   ·have:bF (m::n::ms) (u::us) ps=c9 m u++bF (n::ms) us ps:=by rw[bF];simp[h1]
    rw[this,←br];exact hA3
   ·rw[RR];exact .inr ⟨u,us,h1,h2,rfl,HU,hys⟩
   ·simp only[JR];exact⟨u,us,rfl,hv,hrs⟩
  ·refine⟨(y,ys),us,u::ps,H3,uo3,uf3,io3,Hq3,M3,hk,?_,hK.trans hK3,?_,?_⟩
   ·have:bF (m::n::ms) us (u::ps)=c9 m u++bF (n::ms) us ps:=by rw[bF];simp[h1]
    rw[this,←br];exact hA3
   ·rw[RR];exact .inl ⟨u,ps,h1,rfl,HU,hys⟩
   ·simp only[JR];exact⟨u,ps,rfl,hv,hrs⟩
 |[],_::_,_,_,_,_,_,_,_,_,_,_,hk=>by simp[Jt]at hk
 |[_],[],_,_,_,_,_,_,_,_,_,_,hk=>by simp[Jt]at hk
 |[_],_::_::_,_,_,_,_,_,_,_,_,_,_,hk=>by simp[Jt]at hk
 |_::_::_,[],_,_,_,_,_,_,_,_,_,_,hk=>by simp[Jt]at hk
end VM
end
section
namespace VM
open Go
variable{P:Program}{E:Env}{o:Oper}{a:Act}{w:World}{M:Nat→Prop}{ν:Nat→Value}{σ:St}{c:Ctx}{α:Type}{r:α}{next:Act→World→Prop}{Q:Exit→Act→World→Prop}
theorem HZ{tm:Array Value}: ∀{rv:List ResultVar} {is:List (ResultVar ⊕ Nat)} {us ps:List Value},JR P tm w (rv.map .inl++is) us ps→
  ∃YK us2,us=YK++us2∧YK.length=rv.length∧(∀i (h:i<rv.length) (h':i<YK.length),C6 P tm w rv[i] YK[i])∧JR P tm w is us2 ps
 |[],is,us,ps,h=>⟨[],us,rfl,rfl,λi h=>by simp at h,h⟩
 |rv::rvs,is,us,ps,h=>by
  simp only[bU,lG,JR]at h
  obtain⟨u,JJ,rfl,h1,h2⟩:=h
  obtain⟨YK,us2,rfl,hl,h3,h4⟩:=HZ h2
  refine⟨u::YK,us2,rfl,by simp[hl],λi hi mX=> ?_,h4⟩
  cases i with
  |zero=>exact h1
  |succ i=>exact h3 i (by simpa using hi) (by simpa using mX)
theorem wc{tm:Array Value}: ∀{ms:List AM} {vs:List Value} {i:Nat} {us ps:List Value},vs.length=ms.length→(∀j v m,vs[j]? =some v→ms[j]? =some m→m.iz=true→tm.getD (i+j) undef=v)→JR P tm w (yr ms i) us ps→us=[]∧ps=fg ms vs
 |[],vs,i,us,ps,_,_,h=>by simp only[yr,JR]at h;simpa [fg]using h
 |m::ms,[],_,_,_,hl,_,_=>by simp at hl
 |m::ms,v::vs,i,us,ps,hl,Mr,h=>by
  have JQ: ∀j u m,vs[j]? =some u→ms[j]? =some m→m.iz=true→tm.getD (i+1+j) undef=u:=λj u m hj hm uW=>by
   have:=Mr (j+1) u m (by simpa using hj) (by simpa using hm) uW
   rwa [show i+(j+1)=i+1+j from by omega]at this
  have Jv:vs.length=ms.length:=by simpa using hl
  cases m with
  |io τ=>
   simp only[yr,JR]at h
   obtain⟨p,GK,rfl,hp,h⟩:=h
   obtain⟨h1,h2⟩:=wc Jv JQ h
   refine⟨h1,?_⟩
   have:=Mr 0 v (.io τ) rfl rfl rfl
   simp only[mT]at this
   simp[fg,AM.iz,h2,hp,this]
  |lo e=>
   simp only[yr,JR]at h
   obtain⟨p,GK,rfl,hp,h⟩:=h
   obtain⟨h1,h2⟩:=wc Jv JQ h
   refine⟨h1,?_⟩
   have:=Mr 0 v (.lo e) rfl rfl rfl
   simp only[mT]at this
   simp[fg,AM.iz,h2,hp,this]
  |v τ=>
   obtain⟨h1,h2⟩:=wc Jv JQ (show JR P tm w (yr ms (i+1)) us ps from h)
   exact⟨h1,by simp[fg,AM.iz,h2]⟩
  |own τ=>
   obtain⟨h1,h2⟩:=wc Jv JQ (show JR P tm w (yr ms (i+1)) us ps from h)
   exact⟨h1,by simp[fg,AM.iz,h2]⟩
  |fn f τ=>
   obtain⟨h1,h2⟩:=wc Jv JQ (show JR P tm w (yr ms (i+1)) us ps from h)
   exact⟨h1,by simp[fg,AM.iz,h2]⟩
  |jg τ=>
   obtain⟨h1,h2⟩:=wc Jv JQ (show JR P tm w (yr ms (i+1)) us ps from h)
   exact⟨h1,by simp[fg,AM.iz,h2]⟩
  |ptr τ=>
   obtain⟨h1,h2⟩:=wc Jv JQ (show JR P tm w (yr ms (i+1)) us ps from h)
   exact⟨h1,by simp[fg,AM.iz,h2]⟩
theorem Mu{fn:Func}{tm:Array Value}{us:List Value}(hl:us.length=fn.results.toList.length)(h: ∀i (h:i<fn.results.toList.length) (h':i<us.length),C6 P tm w fn.results.toList[i] us[i]):
  (results fn tm).run P w= .ok (vY us) w:=by
 have key: ∀(rs:List ResultVar) (us:List Value),us.length=rs.length→(∀i (h:i<rs.length) (h':i<us.length),C6 P tm w rs[i] us[i])→(rs.mapM (wb tm)).run P w= .ok us w:=by
  intro rs
  induction rs with
  |nil=>intro us hl _;cases us with
   |nil=>simp
   |cons _ _=>simp at hl
  |cons r rs ih=>intro us hl h;cases us with
   |nil=>simp at hl
   |cons u us=>
    have h0:(wb tm r).run P w= .ok u w:=h 0 (by simp) (by simp)
    have h1:=ih us (by simpa using hl) (λi hi mX=>h (i+1) (by simpa using hi) (by simpa using mX))
    simp[zn,h0,h1]
 have h2:=key fn.results.toList us hl h
 have h3:results fn tm=(do let vs ←fn.results.mapM (wb tm);pure (if h:vs.size=1 then vs[0]else .tuple vs)):=by
  unfold results
  congr 1
 rw[h3,Array.mapM_eq_mapM_toList]
 simp only[Sem.run_bind,Sem.run_map,h2]
 unfold vY
 by_cases h3:us.length=1
 ·simp[h3]
 ·simp[h3]
theorem H4(hE:sb P E){f:FuncId}{fn:Func}(hf:P.funcs[f]? =some fn)(hnt:E.nt=fn.ntmps){args res:List AM}(uW: ∀i m,args[i]? =some m→m.iz=true→i∈E.io)(alT: ∀i∈E.io,i<args.length)(hlen:args.length≤fn.ntmps)
  {M0:Nat→Prop} {vs:List Value} {x:HP args} {y:HP res} (rE: ∀b,M0 b→b<w.heap.size) (hA:jy w (λb=>M0 b∨b∈dM args vs) args x vs) (xP:(dM args vs).Nodup) (we: ∀b∈dM args vs,¬M0 b)
  (h:LO E fn args res x=some y):
  Calls P f vs.toArray w λe w'=> ∃v,e= .returned v∧ ∃us M',v=vY us∧RR w' M' res y us (fg args vs)∧Left w M0 (dM args vs) w' M'∧(bF res us (fg args vs)).Nodup∧ ∀b∈bF res us (fg args vs),¬M0 b:=by
 unfold LO at h
 split at h
 ·cases h
 rename_i cd hb
 simp only at h
 have hvl: ∀{ms:List AM} {x:HP ms} {vs:List Value} {M:Nat→Prop},jy w M ms x vs→vs.length=ms.length:=by
  intro ms
  induction ms with
  |nil=>intro x vs M h;simp only[jy]at h;subst h;rfl
  |cons m ms ih=>intro x vs M h;simp only[jy]at h;obtain⟨v,K8,rfl,_,h⟩:=h;simp[ih h]
 have Y0:=hvl hA
 let tm:Array Value:=vs.toArray++Array.replicate (fn.ntmps-vs.toArray.size) undef
 have Mr: ∀j v,vs[j]? =some v→tm.getD j undef=v:=by
  intro j v hj
  have eZ:j<vs.length:=(tK.1 hj).1
  rw[rR,Array.getElem?_append_left (by simpa using eZ),Lw,hj];rfl
 have sP:tm.size=fn.ntmps:=by simp[tm];omega
 have hhb: ∀{ms:List AM} {x:HP ms} {vs:List Value} {M:Nat→Prop},jy w M ms x vs→ ∀b∈dM ms vs,b<w.heap.size:=by
  intro ms
  induction ms with
  |nil=>intro x vs M h b hb;simp[dM]at hb
  |cons m ms ih=>
   intro x vs M h b hb
   simp only[jy]at h
   obtain⟨v,K8,rfl,h1,h⟩:=h
   simp only[dM,bb]at hb
   rcases hb with hb|hb
   ·cases m with
    |v _=>simp[c9]at hb
    |fn _ _=>simp[c9]at hb
    |jg _=>simp[c9]at hb
    |own e=>
     simp only[c9,fc,A1,ER]at hb h1
     rcases h1 with⟨_,a,hv⟩|⟨b',cs,t,cap,hv,hg,_⟩
     ·rw[hv]at hb;cases a<;>simp[fH]at hb
     ·rw[hv]at hb
      simp only[fH]at hb
      split at hb
      ·cases hb
      ·simp only[iq]at hb;subst hb;exact lt_of_block hg
    |lo e=>
     simp only[c9,fc,A1,ER]at hb h1
     rcases h1 with⟨_,a,hv⟩|⟨b',cs,t,cap,hv,hg,_⟩
     ·rw[hv]at hb;cases a<;>simp[fH]at hb
     ·rw[hv]at hb
      simp only[fH]at hb
      split at hb
      ·cases hb
      ·simp only[iq]at hb;subst hb;exact lt_of_block hg
    |io τ=>
     simp only[c9,fc,A1,ER]at hb h1
     obtain⟨b',cs,t,hv,hg,_⟩:=h1
     rw[hv]at hb
     simp only[fH,iq]at hb;subst hb;exact lt_of_block hg
    |ptr τ=>
     simp only[c9,fc,A1,ER]at hb h1
     obtain⟨b',cs,t,hv,hg,_⟩:=h1
     rw[hv]at hb
     simp only[fH,iq]at hb;subst hb;exact lt_of_block hg
   ·exact ih h b hb
 let cx:Ctx:={B:=w.heap.size,w0:=w,M0:=M0,may:=λb=>b∈dM args vs,arg:=λi=>tm.getD i undef}
 have hm0:Mem cx (λ_=>none) w (λb=>M0 b∨b∈dM args vs) (λ_=>undef):=
  ⟨λi e hi=>(by cases hi),λi j e e' b _ hi=>(by cases hi),λi e b hi=>(by cases hi),λi e l b hi=>(by cases hi),λi τ x p j hi=>(by cases hi),λb hb=> .inl hb,λb hb=>hb.elim (rE b) (hhb hA b),λ_ _ _=>rfl,aG _,⟨rE,we⟩,rfl,rfl,rfl⟩
 have UH:Core cx ⟨λ_=> .any,λ_=>none⟩ tm w (λb=>M0 b∨b∈dM args vs) (λ_=>undef):=⟨hm0,λi=>by simp[VR]⟩
 obtain⟨ν',hc⟩:=Ce (i:=0) (used:=[]) UH hA (λj v hj=>by rw[gh];exact Mr j v hj) (λ_ _=>rfl) (λj e b hj=>by cases hj) (by simpa using xP) (λb hb=>hb) (λb hb=>we b hb)
 have hI:Inv cx E (entry args x 0 ⟨λ_=> .any,λ_=>none⟩) {tmps:=tm,defers:=[]} w:=⟨⟨_,_,hc⟩,by rw[hnt,sP],rfl,λi _=>rfl⟩
 refine calls_of_wp hf hb ?_
 have alU: ∀(σ':St) (a':Act) (w':World),Jt E res (fn.results.toList.map .inl++yr args 0) σ' some=some y→Inv cx E σ' a' w'→
   a'.defers=[]∧ ∃v,(results fn a'.tmps).run P w'= .ok v w'∧ ∃v',Ending.returned v= .returned v'∧ ∃us M',v'=vY us∧RR w' M' res y us (fg args vs)∧Left w M0 (dM args vs) w' M'∧(bF res us (fg args vs)).Nodup∧ ∀b∈bF res us (fg args vs),¬M0 b:=by
  rintro σ' a' w' hk ⟨⟨M1,ν1,K5⟩,Pn,hd1,xQ⟩
  obtain⟨y',us,ps,H2,uo,uf,io,Hq,M2,hy,VE,hK,UM,hRs⟩:=EX (P:=P) hE.toEnvTy (jz.start K5.mem) K5.tmp hk
  cases hy
  obtain⟨YK,us2,rfl,hl,hv,arh⟩:=HZ hRs
  obtain⟨rfl,JH⟩:=wc (vs:=vs) Y0 (λj v m hj hm Hb=>by
   rw[gh]
   rw[xQ j (uW j m hm Hb)]
   exact Mr j v hj) arh
  rw[ch]at*
  subst JH
  simp only[cI]at VE
  have kY: ∀b∈bF res YK (fg args vs),b<w.heap.size→b∈dM args vs:=λb hb eZ=>(VE.Md b hb).elim (λh'=>absurd eZ (Nat.not_lt.2 h')) (λh=>h)
  have HU:eY w' M2 w' (λb=>M2 b∧(b<w.heap.size→M0 b∨b∈dM args vs)):=⟨aG _,λ_ _ _=>rfl,λ_ _ h=>h.1⟩
  refine⟨hd1,vY YK,Mu hl hv,_,rfl,YK,λb=>M2 b∧(b<w.heap.size→M0 b∨b∈dM args vs),rfl,RR.wa HU (λb hb=>⟨rfl,UM.qN b hb,λeZ=> .inr (kY b hb eZ)⟩) UM,⟨λb hb=>⟨VE.mem.sub b hb,λ_=> .inl hb⟩,λb hb=>VE.mem.Ev b hb.1,λb eZ hb=>hb.2 eZ,λb eZ hb=>VE.mem.frame b eZ hb,VE.mem.size,VE.mem.os,VE.mem.tape,VE.mem.output⟩,VE.nd,λb hb h0=> ?_⟩
  rcases VE.Md b hb with h'|h'
  ·exact absurd (rE b h0) (Nat.not_lt.2 h')
  ·exact we b h' h0
 refine S4 (c:=cx) hE cd _ _ w _ _ _ _ hI h (fun σ' a' w' hk ye=> ?_) (λi σ' a' w' hk=>by cases hk) (fun σ' a' w' hk ye=> ?_)
 ·exact alU σ' a' w' hk ye
 ·exact alU σ' a' w' hk ye
theorem VF(hE:sb P E){f:FuncId}{fn:Func}(hf:P.funcs[f]? =some fn)(zQ:(fn.name== "runtime.NumGoroutine")=false)(hnt:E.nt=fn.ntmps)(S:lO)
  (uW: ∀i m,S.args[i]? =some m→m.iz=true→i∈E.io) (alT: ∀i∈E.io,i<S.args.length) (hlen:S.args.length≤fn.ntmps) (hq:S.quiet=true→S.res.all AM.flat=true) (ari:m1 S.args=m1 S.res)
  (dD: ∀x,LO E fn S.args S.res x=S.run x):iA P f S:=by
 refine⟨hq,ari,λM0 w vs x y rE hA xP we hy=> ?_⟩
 have hb:fn.body.isNone=false:=by
  have:=dD x
  rw[hy]at this
  unfold LO at this
  split at this
  ·cases this
  ·rename_i cd hcd;rw[hcd];rfl
 exact sG hf zQ hb (H4 hE hf hnt uW alT hlen rE hA xP we (by rw[dD,hy]))
end VM
end
section
namespace VM
open Go
variable{P:Program}
def zS:Ty→List Value→Option (List Value)
 | .int k,v::r=>match v with
  | .int k' n=>if k'=k∧n=0 then some r else none
  |_=>none
 | .bool,v::r=>match v with
  | .bool false=>some r
  |_=>none
 | .str,v::r=>match v with
  | .string s=>if s.data.size=0 then some r else none
  |_=>none
 | .slice _,v::r=>match v with
  | .slice none n m=>if n=0∧m=0 then some r else none
  |_=>none
 | .unit,r=>some r
 | .pair a b,r=>match zS a r with
  |some r=>zS b r
  |none=>none
 | .arr n e,r=>Nat.rec (motive:=λ_=>List Value→Option (List Value)) (λr=>some r) (λ_ ih r=>match zS e r with
  |some r=>ih r
  |none=>none) n r
 |_,[]=>none
theorem zT: ∀{τ:Ty} {l r:List Value},zS τ l=some r→l=τ.di++r
 | .int k,[],_,h| .bool,[],_,h| .str,[],_,h| .slice _,[],_,h=>by simp[zS]at h
 | .int k,v::l,r,h=>by
  simp only[zS]at h
  split at h
  ·split at h
   ·rename_i hc;obtain⟨rfl,rfl⟩:=hc;cases h;rfl
   ·cases h
  ·cases h
 | .bool,v::l,r,h=>by
  simp only[zS]at h
  split at h
  ·cases h;rfl
  ·cases h
 | .str,v::l,r,h=>by
  simp only[zS]at h
  split at h
  ·rename_i s
   split at h
   ·rename_i hs
    cases h
    have:s=ByteArray.empty:=by
     obtain⟨d⟩:=s
     have:d= #[]:=Array.eq_empty_of_size_eq_zero hs
     subst this;rfl
    subst this;rfl
   ·cases h
  ·cases h
 | .slice _,v::l,r,h=>by
  simp only[zS]at h
  split at h
  ·split at h
   ·rename_i hc;obtain⟨rfl,rfl⟩:=hc;cases h;rfl
   ·cases h
  ·cases h
 | .unit,l,r,h=>by simp only[zS]at h;cases h;rfl
 | .pair a b,l,r,h=>by
  simp only[zS]at h
  split at h
  ·rename_i r1 h1
   rw[zT h1,zT h];simp[Ty.di]
  ·cases h
 | .arr n e,l,r,h=>by
  simp only[zS]at h
  simp only[Ty.di]
  induction n generalizing l with
  |zero=>cases h;rfl
  |succ n ih=>
   simp only at h
   split at h
   ·rename_i r1 h1
    rw[zT h1,ih _ h];simp[zf]
   ·cases h
def zU(P:Program)(τ:Ty)(t:TypeId):Bool:=
 match P.info? t with
 |none=>false
 |some i=>Nat.beq i.size τ.size&&Nat.ble i.bytes 2048&&(match i.zero with
  |none=>false
  |some z=>match τ.isAgg,z with
   |true,.agg cs=>(match zS τ cs.toList with|some []=>true|_=>false)
   |false,z=>(match zS τ [z]with|some []=>true|_=>false)
   |_,_=>false)
theorem qQ{τ:Ty}{t:TypeId}(h:zU P τ t=true):Ju P τ t:=by
 unfold zU at h
 split at h
 ·cases h
 ·rename_i i hi
  simp only[bP,zv]at h
  obtain⟨⟨h1,h2⟩,h3⟩:=h
  refine⟨i,hi,fT h1,?_,h2⟩
  split at h3
  ·cases h3
  ·rename_i z hz
   rw[hz]
   split at h3
   ·rename_i _ cs ha
    split at h3
    ·rename_i he
     have:=zT he
     unfold cJ
     rw[aj ha,←ch τ.di,←this]
    ·cases h3
   ·rename_i ha
    split at h3
    ·rename_i he
     have:=zT he
     unfold cJ
     rw[ah (by rw[ha];exact qp),←ch τ.di,←this];rfl
    ·cases h3
   ·cases h3
def tf(P:Program):Ty→TypeId ⊕ (Array Field×Nat×Nat)→Bool
 | .int k,.inl t=>zU P (.int k) t&&(match P.underlying t with|some (.int k')=>decide (k'=k)|_=>false)
 | .bool,.inl t=>zU P .bool t&&(match P.underlying t with|some .bool=>true|_=>false)
 | .str,.inl t=>zU P .str t&&(match P.underlying t with|some .string=>true|_=>false)
 | .slice e,.inl t=>zU P (.slice e) t&&(match P.underlying t with|some (.slice e')=>tf P e (.inl e')|_=>false)
 | .arr n e,.inl t=>zU P (.arr n e) t&&(match P.underlying t with|some (.array n' e')=>Nat.beq n' n&&tf P e (.inl e')|_=>false)
 | .unit,.inl t=>zU P .unit t&&(match P.underlying t with|some (.struct fs)=>Nat.beq fs.size 0|_=>false)
 | .unit,.inr q=>Nat.beq q.1.size q.2.1
 | .pair a b,.inl t=>zU P (.pair a b) t&&(match P.underlying t with
  |some (.struct fs)=>(match fs[0]? with
   |some f=>Nat.beq f.offset 0&&(tf P a (.inl f.type)&&tf P b (.inr (fs,1,a.size)))
   |none=>false)
  |_=>false)
 | .pair a b,.inr q=>(match q.1[q.2.1]? with
  |some f=>Nat.beq f.offset q.2.2&&(tf P a (.inl f.type)&&tf P b (.inr (q.1,q.2.1+1,q.2.2+a.size)))
  |none=>false)
 |_,.inr _=>false
theorem gO: ∀{τ:Ty} {x:TypeId ⊕ (Array Field×Nat×Nat)},tf P τ x=true→fP P τ x
 | .int k,.inl t,h=>by
  simp only[tf,bP]at h
  refine⟨qQ h.1,?_⟩
  have h:=h.2
  split at h
  ·rename_i k' hu;rw[hu,bz h]
  ·cases h
 | .bool,.inl t,h=>by
  simp only[tf,bP]at h
  refine⟨qQ h.1,?_⟩
  have h:=h.2
  split at h
  ·rename_i hu;exact hu
  ·cases h
 | .str,.inl t,h=>by
  simp only[tf,bP]at h
  refine⟨qQ h.1,?_⟩
  have h:=h.2
  split at h
  ·rename_i hu;exact hu
  ·cases h
 | .slice e,.inl t,h=>by
  simp only[tf,bP]at h
  refine⟨qQ h.1,?_⟩
  have h:=h.2
  split at h
  ·rename_i e' hu;exact⟨e',hu,gO h⟩
  ·cases h
 | .arr n e,.inl t,h=>by
  simp only[tf,bP]at h
  refine⟨qQ h.1,?_⟩
  have h:=h.2
  split at h
  ·rename_i n' e' hu
   simp only[bP]at h
   obtain⟨h0,h⟩:=h
   rw[fT h0]at hu
   exact⟨e',hu,gO h⟩
  ·cases h
 | .unit,.inl t,h=>by
  simp only[tf,bP]at h
  refine⟨qQ h.1,?_⟩
  have h:=h.2
  split at h
  ·rename_i fs hu;exact⟨fs,hu,fT h⟩
  ·cases h
 | .unit,.inr (fs,n,o),h=>by simp only[tf]at h;exact fT h
 | .pair a b,.inl t,h=>by
  simp only[tf,bP]at h
  refine⟨qQ h.1,?_⟩
  have h:=h.2
  split at h
  ·rename_i fs hu
   split at h
   ·rename_i f hf
    simp only[bP]at h
    exact⟨fs,f,hu,hf,fT h.1,gO h.2.1,gO h.2.2⟩
   ·cases h
  ·cases h
 | .pair a b,.inr (fs,n,o),h=>by
  simp only[tf]at h
  split at h
  ·rename_i f hf
   simp only[bP]at h
   exact⟨f,hf,fT h.1,gO h.2.1,gO h.2.2⟩
  ·cases h
 | .int _,.inr _,h| .bool,.inr _,h| .str,.inr _,h| .slice _,.inr _,h| .arr _ _,.inr _,h=>by simp[tf]at h
def uY(P:Program):Ty→TypeId ⊕ (Array Field×Nat)→Bool
 | .int _,.inl _| .bool,.inl _| .str,.inl _=>true
 | .unit,.inl t=> !P.stoodInHeld t
 | .unit,.inr _=>true
 | .pair a b,.inl t=> !P.stoodInHeld t&&(match P.underlying t with
  |some (.struct fs)=>(match fs[0]? with
   |some f=>f.name != "_" &&(uY P a (.inl f.type)&&uY P b (.inr (fs,1)))
   |none=>false)
  |_=>false)
 | .pair a b,.inr q=>(match q.1[q.2]? with
  |some f=>f.name != "_" &&(uY P a (.inl f.type)&&uY P b (.inr (q.1,q.2+1)))
  |none=>false)
 |_,_=>false
def Ty.deep:Ty→Nat
 | .pair a b=>a.deep+b.deep+1
 |_=>1
theorem V.ofC{w:World}{M:Nat→Prop}{τ:Ty}{cs:List Value}{x:τ.den}(h:Rd w M τ cs x):V w M τ (VM.cJ τ cs) x:=V.cJ h
mutual
theorem Mv{w:World}{M:Nat→Prop}: ∀{τ:Ty} {t:TypeId} {u v:Value} {x y:τ.den} {d:Nat},kA P τ t→uY P τ (.inl t)=true→V w M τ u x→V w M τ v y→τ.deep≤d→(Op.equalIn d t u v).run P w= .ok (pa τ x y) w
 | .int k,t,u,v,x,y,d+1,hl,_,hx,hy,_=>by
  simp only[V,Ty.isAgg,iQ,eQ,Rd,fe,eP]at hx hy
  subst hx;subst hy
  rw[run_equalIn_int w d t k k _ _ hl.int];simp only[pa,jq];congr 1
 | .bool,t,u,v,x,y,d+1,hl,_,hx,hy,_=>by
  simp only[V,Ty.isAgg,iQ,eQ,Rd,fe,eP]at hx hy
  subst hx;subst hy
  rw[run_equalIn_bool w d t _ _ hl.bool];simp only[pa]
 | .str,t,u,v,x,y,d+1,hl,_,hx,hy,_=>by
  simp only[V,Ty.isAgg,iQ,eQ,Rd,fe,eP]at hx hy
  subst hx;subst hy
  rw[run_equalIn_string w d t _ _ hl.str];simp only[pa,Et];congr 1;rw[oG];simp
 | .slice _,_,_,_,_,_,_,_,h,_,_,_| .arr _ _,_,_,_,_,_,_,_,h,_,_,_=>by simp[uY]at h
 | .unit,t,u,v,x,y,d+1,hl,he,hx,hy,_=>by
  simp only[V,Ty.isAgg,gw]at hx hy
  obtain⟨cs,rfl,_⟩:=hx
  obtain⟨cs',rfl,_⟩:=hy
  simp only[kA,fP]at hl
  obtain⟨_,fs,hu,h0⟩:=hl
  have hfs:P.fieldsOf t=fs:=by simp[Program.fieldsOf,hu]
  rw[run_equalIn_struct w d t cs cs' (by rw[hfs];exact hu) (by simpa [uY]using he),hfs]
  have:fs.toList=[]:=by rw[←Lq,bG];exact h0
  rw[this];simp[Op.eqFields,pa]
 | .pair a b,t,u,v,x,y,d+1,hl,he,hx,hy,hd=>by
  simp only[V,Ty.isAgg,gw]at hx hy
  obtain⟨cs,rfl,hx⟩:=hx
  obtain⟨cs',rfl,hy⟩:=hy
  simp only[kA,fP]at hl
  obtain⟨_,fs,f,hu,hf,ho,yD,Ps⟩:=hl
  have hfs:P.fieldsOf t=fs:=by simp[Program.fieldsOf,hu]
  simp only[uY,hu,hf,bP]at he
  rw[run_equalIn_struct w d t cs cs' (by rw[hfs];exact hu) (by simpa using he.1),hfs]
  have h0:fs.toList=f::fs.toList.drop 1:=by
   have h1:=pM (l:=fs.toList) (i:=0) (by rw[bG];exact(kt.1 hf).1)
   rw[cX]at h1
   rw[h1];congr 1
   rw[ze];exact(kt.1 hf).2
  simp only[Ty.deep]at hd
  rw[h0]
  have oL:Rd w M (.pair a b) (cs.toList.drop 0) x:=by rw[cX];exact hx
  have Rn:Rd w M (.pair a b) (cs'.toList.drop 0) y:=by rw[cX];exact hy
  have jH:f.name≠ "_" :=by simpa using he.2.1
  simp only[Op.eqFields,jH,ne_eq,not_false_eq_true,gw]
  exact VG (off:=0) ho yD he.2.2.1 oL Rn ω (λh1 h2=>VH (n:=1) (fs:=fs) (off:=a.size) Ps he.2.2.2 (by rw[gh]at h1;exact h1) (by rw[gh]at h2;exact h2) ω)
 | .int _,_,_,_,_,_,0,_,_,_,_,hd| .bool,_,_,_,_,_,0,_,_,_,_,hd| .str,_,_,_,_,_,0,_,_,_,_,hd| .unit,_,_,_,_,_,0,_,_,_,_,hd| .pair _ _,_,_,_,_,_,0,_,_,_,_,hd=>by simp[Ty.deep]at hd
theorem VH{w:World}{M:Nat→Prop}: ∀{b:Ty} {fs:Array Field} {n off:Nat} {cs cs':Array Value} {x y:b.den} {d:Nat},fP P b (.inr (fs,n,off))→uY P b (.inr (fs,n))=true→Rd w M b (cs.toList.drop off) x→Rd w M b (cs'.toList.drop off) y→b.deep≤d→
  (Op.eqFields d cs cs' (fs.toList.drop n)).run P w= .ok (pa b x y) w
 | .unit,fs,n,off,cs,cs',x,y,d,hl,_,_,_,_=>by
  simp only[fP]at hl
  rw[ku (by rw[bG];omega)]
  simp[Op.eqFields,pa]
 | .pair a b,fs,n,off,cs,cs',x,y,d,hl,he,hx,hy,hd=>by
  simp only[fP]at hl
  obtain⟨f,hf,ho,yD,Ps⟩:=hl
  simp only[uY,hf,bP]at he
  have h0:fs.toList.drop n=f::fs.toList.drop (n+1):=by
   rw[pM (l:=fs.toList) (i:=n) (by rw[bG];exact(kt.1 hf).1)]
   congr 1
   rw[ze];exact(kt.1 hf).2
  simp only[Ty.deep]at hd
  rw[h0]
  have jH:f.name≠ "_" :=by simpa using he.1
  simp only[Op.eqFields,jH,ne_eq,not_false_eq_true,gw]
  exact VG ho yD he.2.1 hx hy ω (λh1 h2=>VH Ps he.2.2 h1 h2 ω)
 | .int _,_,_,_,_,_,_,_,_,hl,_,_,_,_| .bool,_,_,_,_,_,_,_,_,hl,_,_,_,_| .str,_,_,_,_,_,_,_,_,hl,_,_,_,_| .slice _,_,_,_,_,_,_,_,_,hl,_,_,_,_| .arr _ _,_,_,_,_,_,_,_,_,hl,_,_,_,_=>by simp[fP]at hl
theorem VG{w:World}{M:Nat→Prop}{a b:Ty}{f:Field}{fs:List Field}{off:Nat}{cs cs':Array Value}{x y:(Ty.pair a b).den}{d:Nat}(ho:f.offset=off)(yD:kA P a f.type)(he:uY P a (.inl f.type)=true)
  (hx:Rd w M (.pair a b) (cs.toList.drop off) x) (hy:Rd w M (.pair a b) (cs'.toList.drop off) y) (hd:a.deep≤d)
  (hr:Rd w M b (cs.toList.drop (off+a.size)) x.2→Rd w M b (cs'.toList.drop (off+a.size)) y.2→(Op.eqFields d cs cs' fs).run P w= .ok (pa b x.2 y.2) w):
  (do let u ←part f.type cs f.offset;let v ←part f.type cs' f.offset;let r ←Op.equalIn d f.type u v;if(!r)=true then pure false else Op.eqFields d cs cs' fs:Sem Bool).run P w= .ok (pa (.pair a b) x y) w:=by
 simp only[Rd]at hx hy
 obtain⟨c1,c2,hc,h1,h2⟩:=hx
 obtain⟨c1',c2',S5,pg,yg⟩:=hy
 subst ho
 have p1:(cs.toList.drop f.offset).take a.size=c1:=by rw[hc,vA h1.length]
 have p2:(cs'.toList.drop f.offset).take a.size=c1':=by rw[S5,vA pg.length]
 have q1:cs.toList.drop (f.offset+a.size)=c2:=by rw[←jx,hc,mP h1.length]
 have q2:cs'.toList.drop (f.offset+a.size)=c2':=by rw[←jx,S5,mP pg.length]
 have r1:=zE yD (w:=w) (M:=M) (cs:=cs) (off:=f.offset) (x:=x.1) (by rw[p1];exact h1)
 have r2:=zE yD (w:=w) (M:=M) (cs:=cs') (off:=f.offset) (x:=y.1) (by rw[p2];exact pg)
 have r3:=Mv (d:=d) yD he (V.ofC (by rw[p1];exact h1):V w M a (VM.cJ a ((cs.toList.drop f.offset).take a.size)) x.1) (V.ofC (by rw[p2];exact pg):V w M a (VM.cJ a ((cs'.toList.drop f.offset).take a.size)) y.1) hd
 simp only[Sem.run_bind,r1,r2,r3,Result.andThen_ok,pa]
 cases pa a x.1 y.1
 ·simp
 ·simpa using hr (by rw[q1];exact h2) (by rw[q2];exact yg)
end
def Zs(P:Program)(τ:Ty)(t:TypeId):Bool:= !(τ.comparable&&τ.isAgg)||(uY P τ (.inl t)&&(Nat.ble τ.deep 10000&& !P.eqGuardType P.depth t))
theorem Zt{τ:Ty}{t:TypeId}(hl:kA P τ t)(h:Zs P τ t=true)(hc:τ.comparable=true)(ha:τ.isAgg=true):ala P t τ:=by
 unfold Zs at h
 rw[hc,ha]at h
 simp only[Bool.and_self,a7,sW,bP,zv,qt]at h
 obtain⟨h1,h2,h3⟩:=h
 intro w M u v x y b xo yo hx hy
 have he:=Mv (d:=10000) hl h1 hx hy h2
 unfold V at hx hy
 rw[aj ha]at hx hy
 obtain⟨cs,rfl,_⟩:=hx
 obtain⟨cs',rfl,_⟩:=hy
 refine⟨?_,?_,?_⟩
 ·cases b<;>simp[eqGuard,h3]
 ·simp only[binOp];simp[Op.equal,Op.maxDepth,he]
 ·simp only[binOp];simp[Op.equal,Op.maxDepth,he]
def alW(P:Program)(l:List (Nat×Ty)):Bool:=l.all λq=>tf P q.2 (.inl q.1)&&Zs P q.2 q.1
end VM
end
section
namespace VM
open Go Go.WideShapes Go.RowKit Go.ChangeShapes
def WF:(τ:Ty)→τ.den→Prop
 | .int k,x=>(Lit.int k x).wf=true
 | .bool,_=>True
 | .str,s=>ByteArray.size s≤maxLen
 | .slice e,l=>List.length l≤maxLen∧ ∀i (h:i<List.length l),WF e (List.get l ⟨i,h⟩)
 | .unit,_=>True
 | .pair a b,x=>WF a x.1∧WF b x.2
 | .arr _ e,l=> ∀i (h:i<List.length l),WF e (List.get l ⟨i,h⟩)
def Ty.pJ:Ty→Bool
 | .slice e=>Nat.blt 0 e.size&&e.pJ
 | .pair a b=>a.pJ&&b.pJ
 | .arr _ e=>e.pJ
 |_=>true
theorem VI{α β:Type}{f:α→Option β}: ∀{l:List α} {r:List β},l.mapM f=some r→ ∀x∈l,∃y,f x=some y
 |[],_,_,x,hx=>by cases hx
 |a::l,r,h,x,hx=>by
  rw[zn]at h
  simp only[bind,sR,pure,iq]at h
  obtain⟨y,hy,r',hr,_⟩:=h
  rcases aX.1 hx with rfl|hx
  ·exact⟨y,hy⟩
  ·exact VI hr x hx
theorem Mw{α β:Type}{f:α→Option β}: ∀{l:List α} {r:List β},l.mapM f=some r→r.length=l.length∧ ∀i (h:i<l.length) (h':i<r.length),f l[i]=some r[i]
 |[],r,h=>by simp at h;subst h;exact⟨rfl,λi h=>by cases h⟩
 |a::l,r,h=>by
  rw[zn]at h
  simp only[bind,sR,pure,iq]at h
  obtain⟨y,hy,r',hr,rfl⟩:=h
  obtain⟨h1,h2⟩:=Mw hr
  refine⟨by simp[h1],λi hi mX=> ?_⟩
  cases i with
  |zero=>exact hy
  |succ i=>exact h2 i (by simpa using hi) (by simpa using mX)
theorem wg{α:Type}{p:Nat→α→Prop}: ∀n,(∀i,i<n→ ∃x,p i x)→ ∃l:List α,l.length=n∧ ∀i (h:i<l.length),p i (l.get ⟨i,h⟩)
 |0,_=>⟨[],rfl,λi h=>by cases h⟩
 |n+1,h=>by
  obtain⟨l,hl,hp⟩:=wg n (λi hi=>h i ω)
  obtain⟨x,hx⟩:=h n ω
  refine⟨l++[x],by simp[hl],λi hi=> ?_⟩
  simp only[D9]
  by_cases eZ:i<l.length
  ·rw[D2 eZ];exact hp i eZ
  ·have lK:i=n:=by simp at hi;omega
   subst lK
   rw[Ll ω]
   simp[hl,hx]
section
variable{H:Type}{enc:TypeId×Value→H}{P:Program}{w:World}
theorem kA.cells{τ:Ty}{t:TypeId}(h:kA P τ t):P.cellsOf t=τ.size:=by
 obtain⟨i,hi,hs,_⟩:=h.base
 simp[Program.cellsOf,hi,hs]
theorem H5{a:Addr}{n:Nat}{cs:List Value}(h:w.cells? 0 a n=some cs):cs.length=n∧ ∀j v,cs[j]? =some v→w.cell? (a.add j)=some v:=by
 unfold World.cells? at h
 rw[aj (bo _)]at h
 obtain⟨h1,h2⟩:=Mw h
 rw[vw]at h1
 refine⟨h1,λj v hj=> ?_⟩
 obtain⟨eZ,rfl⟩:=tK.1 hj
 have:=h2 j (by rw[vw];omega) eZ
 rw[Ea]at this
 exact this
def VJ(H:Type)(enc:TypeId×Value→H)(P:Program)(w:World)(τ:Ty):TypeId ⊕ (Array Field×Nat×Nat)→Prop
 | .inl t=> ∀(fuel:Nat) (cs:List Value) (d:DataW H×List MemPlace),DataW.trod enc P w 0 (λ_=>true) true fuel t cs=some d→ ∃x:τ.den,Rd w (λ_=>False) τ cs x∧WF τ x
 | .inr q=> ∀(cs:List Value),cs.length=q.2.2+τ.size→(∀f∈q.1.toList,∃fuel d,DataW.trod enc P w 0 (λ_=>true) true fuel f.type ((cs.drop f.offset).take (P.cellsOf f.type))=some d)→ ∃x:τ.den,Rd w (λ_=>False) τ (cs.drop q.2.2) x∧WF τ x
theorem H6{a b:Ty}{f:Field}{fs:Array Field}{n off:Nat}(hf:fs[n]? =some f)(ho:f.offset=off)(yD:kA P a f.type)(iha:VJ H enc P w a (.inl f.type))(U0:VJ H enc P w b (.inr (fs,n+1,off+a.size)))
  {cs:List Value} (hc:cs.length=off+(a.size+b.size)) (kW: ∀f∈fs.toList,∃fuel d,DataW.trod enc P w 0 (λ_=>true) true fuel f.type ((cs.drop f.offset).take (P.cellsOf f.type))=some d):
  ∃x:(Ty.pair a b).den,Rd w (λ_=>False) (.pair a b) (cs.drop off) x∧WF (.pair a b) x:=by
 subst ho
 obtain⟨fuel,d,hd⟩:=kW f (by rw[Array.mem_toList_iff];exact Array.mem_of_getElem? hf)
 rw[yD.cells]at hd
 obtain⟨x,hx,hwx⟩:=iha fuel _ d hd
 obtain⟨y,hy,hwy⟩:=U0 cs (by simp only;omega) kW
 refine⟨(x,y),?_,hwx,hwy⟩
 simp only[Rd]
 refine⟨_,_,(gb a.size (cs.drop f.offset)).symm,hx,?_⟩
 rw[jx];exact hy
theorem ua: ∀{τ:Ty} {x:TypeId ⊕ (Array Field×Nat×Nat)},fP P τ x→τ.pJ=true→VJ H enc P w τ x
 | .int k,.inl t,hl,_=>by
  intro fuel cs d h
  simp only[fP]at hl
  obtain⟨n,rfl,_,hw⟩:=DataW.trod_int hl.2 h
  exact⟨n,rfl,hw⟩
 | .bool,.inl t,hl,_=>by
  intro fuel cs d h
  simp only[fP]at hl
  obtain⟨b,rfl,_⟩:=DataW.trod_bool hl.2 h
  exact⟨b,rfl,trivial⟩
 | .str,.inl t,hl,_=>by
  intro fuel cs d h
  simp only[fP]at hl
  obtain⟨s,rfl,_,hs⟩:=DataW.trod_string hl.2 h
  exact⟨s,rfl,hs⟩
 | .slice e,.inl t,hl,hs=>by
  intro fuel cs d h
  simp only[fP]at hl
  obtain⟨_,e',hu,hle⟩:=hl
  simp only[Ty.pJ,bP,zu]at hs
  have ih:=ua hle hs.2
  have sP:P.cellsOf e'=e.size:=kA.cells hle
  rcases DataW.trod_slice hu h with⟨rfl,_⟩|⟨a,len,cap,elems,rest,n,_,rfl,_,_,YV,DF,hel,kW,_⟩
  ·refine⟨[],?_,bo _,λi h=>by cases h⟩
   simp only[Rd]
   exact⟨none,0,rfl,aG _,λi h=>by cases h⟩
  ·rw[sP]at kW
   have get: ∀i,i<len→ ∃cs' y,w.cells? 0 (a.add (i*e.size)) e.size=some cs'∧DataW.trod enc P w 0 (λ_=>true) true n e' cs'=some y:=λi hi=>by
    have:=kW i hi
    rw[bm ω]at this
    obtain⟨cs',h1,h2⟩:=sR.1 this
    exact⟨cs',_,h1,h2⟩
   have key: ∀i,i<len→ ∃x:e.den,(a.spot=none∧a.block<w.heap.size∧ ∃cs',At w a.block (a.off+i*e.size) cs'∧Rd w (λ_=>False) e cs' x)∧WF e x:=by
    intro i hi
    obtain⟨cs',y,JA,ht⟩:=get i hi
    obtain⟨h1,h2⟩:=H5 JA
    obtain⟨x,hx,hw⟩:=ih n cs' y ht
    have hsp:a.spot=none∧a.block<w.heap.size:=by
     obtain⟨rX,y0,ark,_⟩:=get 0 ω
     obtain⟨h10,h20⟩:=H5 ark
     have:=h20 0 rX[0] (bm ω)
     simp only[Nat.zero_mul,Addr.add,gw,World.cell?]at this
     split at this
     ·rename_i hb
      refine⟨?_,(kt.1 hb).1⟩
      split at this
      ·cases this
      ·rename_i hn;simpa using hn
     ·cases this
    refine⟨x,⟨hsp.1,hsp.2,cs',λj v hj=> ?_,hx⟩,hw⟩
    have:=h2 j v hj
    have he:(a.add (i*e.size)).add j=⟨a.block,a.off+i*e.size+j,none⟩:=by
     obtain⟨ab,ao,asp⟩:=a
     simp only at hsp
     obtain⟨rfl,_⟩:=hsp
     simp only[Addr.add]
     split<;>split<;>simp_all<;>omega
    rw[he]at this
    exact this
   obtain⟨l,hl,hp⟩:=wg len key
   refine⟨l,?_,by rw[hl];omega,λi h=>(hp i h).2⟩
   simp only[Rd]
   refine⟨some a,cap,by rw[hl],by rw[hl];exact YV,λi h=> ?_⟩
   obtain⟨h1,h2,cs',h3,h4⟩:=(hp i h).1
   refine⟨a.block,a.off,?_,h2,λh=>h,cs',h3,h4⟩
   rw[←h1]
 | .unit,.inl t,hl,_=>by
  intro fuel cs d h
  simp only[fP]at hl
  obtain⟨⟨i,hi,sP,_⟩,fs,hu,h0⟩:=hl
  obtain⟨xs,n,_,_,hc,_⟩:=DataW.trod_struct hu h
  refine⟨(),?_,trivial⟩
  simp only[Rd]
  rw[←Lq,hc]
  simp[Program.cellsOf,hi,sP,Ty.size]
 | .unit,.inr q,hl,_=>by
  intro cs hc _
  refine⟨(),?_,trivial⟩
  simp only[Rd]
  rw[ku (by rw[hc];simp[Ty.size])]
 | .pair a b,.inl t,hl,hs=>by
  intro fuel cs d h
  simp only[fP]at hl
  obtain⟨⟨i,hi,sP,_⟩,fs,f,hu,hf,ho,yD,Ps⟩:=hl
  simp only[Ty.pJ,bP]at hs
  have iha:=ua yD hs.1
  have U0:=ua Ps hs.2
  obtain⟨xs,n,_,_,hc,hxl,hxs⟩:=DataW.trod_struct hu h
  have:=H6 (b:=b) (off:=0) hf ho yD iha (by simp only[gh];exact U0) (cs:=cs) (by rw[hc];simp[Program.cellsOf,hi,sP,Ty.size]) (λf hf=>by
   obtain⟨j,hj,rfl⟩:=qn.1 hf
   rw[bG]at hj
   have:=hxs j fs[j] (by simp[hj])
   rw[bm ω]at this
   exact⟨n,_,by rw[ze];exact this⟩)
  rw[cX]at this
  exact this
 | .pair a b,.inr (fs,n,off),hl,hs=>by
  intro cs hc kW
  simp only[fP]at hl
  obtain⟨f,hf,ho,yD,Ps⟩:=hl
  simp only[Ty.pJ,bP]at hs
  exact H6 hf ho yD (ua yD hs.1) (ua Ps hs.2) (by simpa [Ty.size]using hc) kW
 | .arr n e,.inl t,hl,hs=>by
  intro fuel cs d h
  simp only[fP]at hl
  obtain⟨⟨i,hi,sP,_⟩,e',hu,hle⟩:=hl
  simp only[Ty.pJ]at hs
  have ih:=ua hle hs
  have hse:P.cellsOf e'=e.size:=kA.cells hle
  obtain⟨xs,m,_,_,hc,hxl,hxs⟩:=DataW.trod_array hu h
  have hlen:cs.length=n*e.size:=by rw[hc];simp[Program.cellsOf,hi,sP,Ty.size]
  have key: ∀i,i<n→ ∃x:e.den,Rd w (λ_=>False) e ((cs.drop (i*e.size)).take e.size) x∧WF e x:=λi hi=>by
   have:=hxs i hi
   rw[bm ω,hse]at this
   exact ih m _ _ this
  obtain⟨l,GJ,hp⟩:=wg n key
  refine⟨l,?_,λi h=>(hp i h).2⟩
  simp only[Rd]
  refine⟨GJ,(List.range n).map λi=>(cs.drop (i*e.size)).take e.size,by simp,?_,λi h h'=> ?_⟩
  ·clear hxs h key hp GJ hu
   have: ∀m,m≤n→cs.take (m*e.size)=((List.range m).map λi=>(cs.drop (i*e.size)).take e.size).flatten:=by
    intro m
    induction m with
    |zero=>simp
    |succ m ihm=>
     intro hm
     rw[Eh,cW,List.flatten_append,←ihm ω]
     simp only[bU,iT,zh,List.flatten_nil,ch]
     rw[eg,jP,List.take_add]
   have h2:=this n (aG _)
   rw[jw ω]at h2
   exact h2
  ·have:=(hp i h).1
   simpa using this
 | .int _,.inr _,h,_| .bool,.inr _,h,_| .str,.inr _,h,_| .slice _,.inr _,h,_| .arr _ _,.inr _,h,_=>by simp[fP]at h
theorem ahj{τ:Ty}{t:TypeId}{r:Reach}{b0:Nat}{v:Value}{d:DataW H}{ps:List MemPlace}(hl:kA P τ t)(hs:τ.pJ=true)(hv:Value.okWide P w r b0 t v)(h:DataW.Trod enc P w 0 (λ_=>true) true t v d ps):
  ∃x:τ.den,V w (λ_=>False) τ v x∧WF τ x:=by
 obtain⟨fuel,h⟩:=h
 obtain⟨x,hx,hw⟩:=ua (H:=H) (enc:=enc) (w:=w) hl hs fuel _ _ h
 refine⟨x,?_,hw⟩
 unfold V
 cases τ with
 |int k=>
  obtain⟨n,rfl⟩:=okWide_int hl.int hv
  exact hx
 |bool=>
  obtain⟨n,rfl⟩:=okWide_bool hl.bool hv
  exact hx
 |str=>
  obtain⟨n,rfl⟩:=okWide_string hl.str hv
  exact hx
 |slice e=>
  obtain⟨e',hu,_⟩:=hl.slice
  obtain⟨a,len,cap,rfl⟩:=okWide_slice hu hv
  exact hx
 |unit=>
  simp only[kA,fP]at hl
  obtain⟨_,fs,hu,_⟩:=hl
  simp only[Value.okWide,hu]at hv
  obtain⟨cs,rfl,_⟩:=hv
  exact⟨cs,rfl,hx⟩
 |pair a b=>
  simp only[kA,fP]at hl
  obtain⟨_,fs,f,hu,_⟩:=hl
  simp only[Value.okWide,hu]at hv
  obtain⟨cs,rfl,_⟩:=hv
  exact⟨cs,rfl,hx⟩
 |arr n e=>
  obtain⟨e',hu,_⟩:=hl.arr
  simp only[Value.okWide,hu]at hv
  obtain⟨cs,rfl,_⟩:=hv
  exact⟨cs,rfl,hx⟩
def WFs:(ms:List Ty)→HP (ms.map .v)→Prop
 |[],_=>True
 |_::ms,x=>WF _ (sQ x)∧WFs ms (xO x)
def hpC:{m:AM}→{ms:List AM}→m.den→HP ms→HP (m::ms)
 |_,[],x,_=>x
 |_,_::_,x,y=>(x,y)
theorem Ro{m:AM}: ∀{ms:List AM} (x:m.den) (y:HP ms),sQ (hpC x y)=x
 |[],_,_=>rfl
 |_::_,_,_=>rfl
theorem Rp{m:AM}: ∀{ms:List AM} (x:m.den) (y:HP ms),xO (hpC x y)=y
 |[],_,()=>rfl
 |_::_,_,_=>rfl
theorem H7(laid:laidOutB P=true){r:Reach}{b0:Nat}: ∀{τs:List Ty} {ts:List TypeId} {vs:List Value} {ds:List (DataW H)} {ps:List MemPlace},DataW.TrodAll enc P w 0 (λ_=>true) true ts vs ds ps→
  τs.length=ts.length→(∀(j:Nat) τ t,τs[j]? =some τ→ts[j]? =some t→(kA P τ t∧τ.pJ=true∧P.readableRec t=true∧t<P.types.size))→
  (∀(j:Nat) t v,ts[j]? =some t→vs[j]? =some v→Value.okWide P w r b0 t v)→
  (∃x:HP (τs.map .v),jy w (λ_=>False) (τs.map .v) x vs∧WFs τs x)∧ ∀w',Below w.heap.size w w'→ ∃GK,DataW.TrodAll enc P w' 0 (λb=>decide (b<w.heap.size)) true ts vs ds GK
 |[],[],vs,ds,ps,h,_,_,_=>by
  obtain⟨rfl,rfl,rfl⟩:=trodAll_nil h
  exact⟨⟨(),rfl,trivial⟩,λw' _=>⟨[],rfl⟩⟩
 |τ::τs,t::ts,vs,ds,ps,h,hl,EC,hv=>by
  obtain⟨v,K8,d,ds',p,q,rfl,rfl,rfl,h1,h2⟩:=trodAll_cons h
  obtain⟨zG,ahk,hrr,eZ⟩:=EC 0 τ t rfl rfl
  obtain⟨x,hx,hwx⟩:=ahj zG ahk (hv 0 t v rfl rfl) h1
  obtain⟨⟨y,hy,hwy⟩,VK⟩:=H7 laid h2 (by simpa using hl) (λj τ' t' h h'=>EC (j+1) τ' t' (by simpa using h) (by simpa using h')) (λj t' v' h h'=>hv (j+1) t' v' (by simpa using h) (by simpa using h'))
  refine⟨⟨hpC (m:= .v τ) x y,?_,?_⟩,λw' hb=> ?_⟩
  ·show jy w _ (.v τ::τs.map .v) _ _
   simp only[jy]
   exact⟨v,K8,rfl,by rw[Ro];exact hx,by rw[Rp];exact hy⟩
  ·simp only[WFs]
   exact⟨by rw[Ro];exact hwx,by rw[Rp];exact hwy⟩
  ·obtain⟨GK,h'⟩:=VK w' hb
   have vX: ∀z∈p,z.block<w.heap.size:=by
    obtain⟨m,hm⟩:=h1
    exact DataW.trod_lt m _ _ _ hm
   exact⟨p++GK,trodAll_cons_mk (Below.trod laid hrr eZ h1 hb vX) h'⟩
 |[],_::_,_,_,_,_,hl,_,_|_::_,[],_,_,_,_,hl,_,_=>by simp at hl
end
end VM
end
section
namespace VM
open Go
variable{α:Type}
def zV(L:Nat→Option (List (Nat×CM)))(κ:Nat→St→Option α)(i:Option Nat)(f:St→Option α):St→Option α:=
 match i with
 |none=>f
 |some i=>match L i with
  |none=>f
  |some _=>κ i
def VL(E:Env)(κJ κL:Nat→St→Option α)(c:Code):St→(St→Option α)→(Nat→St→Option α)→(St→Option α)→Option α:=
 Code.rec (motive:=λ_=>St→(St→Option α)→(Nat→St→Option α)→(St→Option α)→Option α)
  (fun σ k _ _=>k σ)
  (λ_ ops draw σ k _ _=>DC E ops draw σ k)
  (λ_ b A B σ k kx kr=>A σ (fun σ'=>vO ((cK b).bind E.xI) σ' (zV E.xI κJ (cK b) λvf=>B vf k kx kr)) kx kr)
  (λc _ _ A B σ k kx kr=>HI E c σ (fun σ'=>A σ' k kx kr) (fun σ'=>B σ' k kx kr))
  (λid _ A σ k kx kr=>A σ k (λi σ'=>cond (Nat.beq i id) (k σ') (kx i σ')) kr)
  (λb _ σ _ kx kr=>vO ((cK b).bind E.vK) σ (zV E.vK κL (cK b) (BZ ((cK b).bind E.vK) (fun σ' kn=>DD E b σ' kn kx kr) E.N)))
  (λ_ _ _ _ _ _ _ _ _ _=>none)
  (λid σ _ kx _=>kx id σ)
  (λ_ A σ k kx kr=>A σ k kx kr)
  (λ_ σ k _ _=>k σ)
  (λ_ _ _ _ _=>none)
  (fun σ _ _ kr=>kr σ)
  (λ_ _ _ _ _=>none)
  c
def EY(E:Env)(c:Code):(St→Option α)→(Nat→St→Option α)→(St→Option α)→List (Bool×Nat×(St→Option α)):=
 Code.rec (motive:=λ_=>(St→Option α)→(Nat→St→Option α)→(St→Option α)→List (Bool×Nat×(St→Option α)))
  (λ_ _ _=>[])
  (λ_ _ _ _ _ _=>[])
  (λ_ b A B k kx kr=>A (fun σ'=>vO ((cK b).bind E.xI) σ' λvf=>DD E b vf k kx kr) kx kr++(((cK b).toList.map λi=>(false,i,λvf=>DD E b vf k kx kr))++B k kx kr))
  (λ_ _ _ A B k kx kr=>A k kx kr++B k kx kr)
  (λid _ A k kx kr=>A k (λi σ'=>cond (Nat.beq i id) (k σ') (kx i σ')) kr)
  (λb _ _ kx kr=>(cK b).toList.map λi=>(true,i,BZ ((cK b).bind E.vK) (fun σ' kn=>DD E b σ' kn kx kr) E.N))
  (λ_ _ _ _ _ _ _ _ _=>[])
  (λ_ _ _ _=>[])
  (λ_ A k kx kr=>A k kx kr)
  (λ_ _ _ _=>[])
  (λ_ _ _ _=>[])
  (λ_ _ _=>[])
  (λ_ _ _ _=>[])
  c
def wh(E:Env)(κJ κL:Nat→St→Option α):List (Bool×Nat×(St→Option α))→List ((St→Option α)×(St→Option α))
 |[]=>[]
 |q::r=>match q.1 with
  |false=>match E.xI q.2.1 with
   |some _=>(κJ q.2.1,q.2.2)::wh E κJ κL r
   |none=>wh E κJ κL r
  |true=>match E.vK q.2.1 with
   |some _=>(κL q.2.1,q.2.2)::wh E κJ κL r
   |none=>wh E κJ κL r
def Hf(E:Env)(κJ κL:Nat→St→Option α)(l:List (Bool×Nat×(St→Option α))):Prop:= ∀p∈wh E κJ κL l,p.1=p.2
theorem ahl{E:Env}{κJ κL:Nat→St→Option α}{l:List (Bool×Nat×(St→Option α))}(g:List (St→Option α))(h:wh E κJ κL l=g.map λf=>(f,f)):Hf E κJ κL l:=by
 intro p hp
 rw[h]at hp
 obtain⟨f,_,rfl⟩:=cC.1 hp
 rfl
theorem Ch{E:Env}{κJ κL:Nat→St→Option α}: ∀(l m:List (Bool×Nat×(St→Option α))),wh E κJ κL (l++m)=wh E κJ κL l++wh E κJ κL m
 |[],m=>rfl
 |(b,i,f)::l,m=>by
  have ih:=Ch (E:=E) (κJ:=κJ) (κL:=κL) l m
  cases b<;>simp only[lG,wh]<;>split<;>simp[ih]
theorem Hf.app{E:Env}{κJ κL:Nat→St→Option α}{l m:List (Bool×Nat×(St→Option α))}(h:Hf E κJ κL (l++m)):Hf E κJ κL l∧Hf E κJ κL m:=by
 unfold Hf at*
 rw[Ch]at h
 exact⟨λp hp=>h p (cS _ hp),λp hp=>h p (dy _ hp)⟩
theorem afC{E:Env}{κJ κL:Nat→St→Option α}{i:Option Nat}{f:St→Option α}(h:Hf E κJ κL (i.toList.map λi=>(false,i,f))):zV E.xI κJ i f=f:=by
 cases i with
 |none=>rfl
 |some i=>
  simp only[Option.toList,List.map,Hf,wh]at h
  unfold zV
  cases hL:E.xI i with
  |none=>simp[hL]
  |some L=>rw[hL]at h;simp only[hL];exact h (κJ i,f) (bT.2 rfl)
theorem alZ{E:Env}{κJ κL:Nat→St→Option α}{i:Option Nat}{f:St→Option α}(h:Hf E κJ κL (i.toList.map λi=>(true,i,f))):zV E.vK κL i f=f:=by
 cases i with
 |none=>rfl
 |some i=>
  simp only[Option.toList,List.map,Hf,wh]at h
  unfold zV
  cases hL:E.vK i with
  |none=>simp[hL]
  |some L=>rw[hL]at h;simp only[hL];exact h (κL i,f) (bT.2 rfl)
theorem VN{E:Env}{κJ κL:Nat→St→Option α}(c:Code): ∀(k:St→Option α) (kx:Nat→St→Option α) (kr:St→Option α) (σ:St),Hf E κJ κL (EY E c k kx kr)→VL E κJ κL c σ k kx kr=DD E c σ k kx kr:=by
 induction c with
 |skip=>intros;rfl
 |region=>intros;rfl
 |seq a b iha U0=>
  intro k kx kr σ h
  obtain⟨h1,h2⟩:=Hf.app (h:Hf E κJ κL (EY E a _ kx kr++(((cK b).toList.map λi=>(false,i,λvf=>DD E b vf k kx kr))++EY E b k kx kr)))
  obtain⟨h2,h3⟩:=Hf.app h2
  show VL E κJ κL a σ (fun σ'=>vO ((cK b).bind E.xI) σ' (zV E.xI κJ (cK b) λvf=>VL E κJ κL b vf k kx kr)) kx kr=DD E a σ (fun σ'=>vO ((cK b).bind E.xI) σ' λvf=>DD E b vf k kx kr) kx kr
  have hb:(λvf=>VL E κJ κL b vf k kx kr)=λvf=>DD E b vf k kx kr:=funext λvf=>U0 k kx kr vf h3
  rw[hb,afC h2]
  exact iha _ _ _ _ h1
 |cond x a b iha U0=>
  intro k kx kr σ h
  obtain⟨h1,h2⟩:=Hf.app (h:Hf E κJ κL (EY E a k kx kr++EY E b k kx kr))
  show HI E x σ (fun σ'=>VL E κJ κL a σ' k kx kr) (fun σ'=>VL E κJ κL b σ' k kx kr)=HI E x σ (fun σ'=>DD E a σ' k kx kr) (fun σ'=>DD E b σ' k kx kr)
  rw[show(fun σ'=>VL E κJ κL a σ' k kx kr)=fun σ'=>DD E a σ' k kx kr from funext fun σ'=>iha k kx kr σ' h1,show(fun σ'=>VL E κJ κL b σ' k kx kr)=fun σ'=>DD E b σ' k kx kr from funext fun σ'=>U0 k kx kr σ' h2]
 |block id x ih=>intro k kx kr σ h;exact ih _ _ _ σ h
 |loop b _=>
  intro k kx kr σ h
  show vO ((cK b).bind E.vK) σ (zV E.vK κL (cK b) (BZ ((cK b).bind E.vK) (fun σ' kn=>DD E b σ' kn kx kr) E.N))=vO ((cK b).bind E.vK) σ (BZ ((cK b).bind E.vK) (fun σ' kn=>DD E b σ' kn kx kr) E.N)
  rw[alZ (h:Hf E κJ κL ((cK b).toList.map λi=>(true,i,_)))]
 |rangeFunc=>intros;rfl
 |exit=>intros;rfl
 |scope x ih=>intro k kx kr σ h;exact ih _ _ _ σ h
 |label=>intros;rfl
 |goto=>intros;rfl
 |ret=>intros;rfl
 |refuse=>intros;rfl
def nK(E:Env)(κJ κL:Nat→St→Option α):List Nat→Code→List (St→Option α)→St→(St→Option α)→(Nat→St→Option α)→(St→Option α)→Option α
 |[],c,_,σ,k,kx,kr=>VL E κJ κL c σ k kx kr
 |n::p,c,ks,σ,k,kx,kr=>match c with
  | .seq a b=>match n with
   |0=>nK E κJ κL p a ks σ (fun σ'=>vO ((cK b).bind E.xI) σ' (zV E.xI κJ (cK b) λvf=>VL E κJ κL b vf k kx kr)) kx kr
   |_=>nK E κJ κL p b ks σ k kx kr
  | .cond _ a b=>match n with
   |0=>nK E κJ κL p a ks σ k kx kr
   |_=>nK E κJ κL p b ks σ k kx kr
  | .block id c=>nK E κJ κL p c ks σ k (λi σ'=>cond (Nat.beq i id) (k σ') (kx i σ')) kr
  | .loop b=>match ks with
   |κ::ks=>nK E κJ κL p b ks σ κ kx kr
   |[]=>none
  | .scope c=>nK E κJ κL p c ks σ k kx kr
  |_=>none
def gP(E:Env):List Nat→Code→List (St→Option α)→(St→Option α)→(Nat→St→Option α)→(St→Option α)→List (Bool×Nat×(St→Option α))
 |[],c,_,k,kx,kr=>EY E c k kx kr
 |n::p,c,ks,k,kx,kr=>match c with
  | .seq a b=>match n with
   |0=>((cK b).toList.map λi=>(false,i,λvf=>DD E b vf k kx kr))++(EY E b k kx kr++gP E p a ks (fun σ'=>vO ((cK b).bind E.xI) σ' λvf=>DD E b vf k kx kr) kx kr)
   |_=>gP E p b ks k kx kr
  | .cond _ a b=>match n with
   |0=>gP E p a ks k kx kr
   |_=>gP E p b ks k kx kr
  | .block id c=>gP E p c ks k (λi σ'=>cond (Nat.beq i id) (k σ') (kx i σ')) kr
  | .loop b=>match ks with
   |κ::ks=>gP E p b ks κ kx kr
   |[]=>[]
  | .scope c=>gP E p c ks k kx kr
  |_=>[]
theorem m2{E:Env}{κJ κL:Nat→St→Option α}: ∀(p:List Nat) (c:Code) (ks:List (St→Option α)) (k:St→Option α) (kx:Nat→St→Option α) (kr:St→Option α) (σ:St),Hf E κJ κL (gP E p c ks k kx kr)→
  nK E κJ κL p c ks σ k kx kr=vg E p c ks σ k kx kr
 |[],c,ks,k,kx,kr,σ,h=>VN c k kx kr σ h
 |n::p,c,ks,k,kx,kr,σ,h=>by
  cases c with
  |seq a b=>
   cases n with
   |zero=>
    simp only[nK,vg,gP]at h ⊢
    obtain⟨h1,h2⟩:=Hf.app h
    obtain⟨h2,h3⟩:=Hf.app h2
    rw[show(λvf=>VL E κJ κL b vf k kx kr)=λvf=>DD E b vf k kx kr from funext λvf=>VN b k kx kr vf h2,afC h1]
    exact m2 p a ks _ kx kr σ h3
   |succ n=>simp only[nK,vg,gP]at h ⊢;exact m2 p b ks k kx kr σ h
  |cond x a b=>
   cases n with
   |zero=>simp only[nK,vg,gP]at h ⊢;exact m2 p a ks k kx kr σ h
   |succ n=>simp only[nK,vg,gP]at h ⊢;exact m2 p b ks k kx kr σ h
  |block id x=>simp only[nK,vg,gP]at h ⊢;exact m2 p x ks k _ kr σ h
  |loop b=>
   cases ks with
   |nil=>simp only[nK,vg]
   |cons κ ks=>simp only[nK,vg,gP]at h ⊢;exact m2 p b ks κ kx kr σ h
  |scope x=>simp only[nK,vg,gP]at h ⊢;exact m2 p x ks k kx kr σ h
  |_=>simp only[nK,vg]
def EZ(fn:Func):Code:=fn.body.getD .skip
def My(E:Env)(fn:Func)(args res:List AM):St→Option (HP res):=fun σ=>Jt E res (fn.results.toList.map .inl++yr args 0) σ some
def nox:Nat→St→Option α:=λ_ _=>none
def ayw:St→Option α:=λ_=>none
def atF(E:Env)(fn:Func)(args res:List AM)(p:List Nat)(ks:List (St→Option (HP res)))(σ:St):Option (HP res):=
 vg E p (EZ fn) ks σ (My E fn args res) nox (My E fn args res)
def atQ(E:Env)(fn:Func)(args res:List AM)(κJ κL:Nat→St→Option (HP res))(p:List Nat)(ks:List (St→Option (HP res)))(σ:St):Option (HP res):=
 nK E κJ κL p (EZ fn) ks σ (My E fn args res) nox (My E fn args res)
def Zu(E:Env)(fn:Func)(args res:List AM)(p:List Nat)(ks:List (St→Option (HP res))):List (Bool×Nat×(St→Option (HP res))):=
 gP E p (EZ fn) ks (My E fn args res) nox (My E fn args res)
theorem arn{E:Env}{fn:Func}{args res:List AM}{κJ κL:Nat→St→Option (HP res)}{p:List Nat}{ks:List (St→Option (HP res))}(g:List (St→Option (HP res)))(h:wh E κJ κL (Zu E fn args res p ks)=g.map λf=>(f,f))(σ:St):
 atF E fn args res p ks σ=atQ E fn args res κJ κL p ks σ:=(m2 p _ ks _ _ _ σ (ahl g h)).symm
theorem ahn{E:Env}{fn:Func}{args res:List AM}(hb:fn.body.isSome=true)(x:HP args):LO E fn args res x=atF E fn args res [] [] (entry args x 0 S0):=by
 unfold LO atF EZ
 cases h:fn.body with
 |none=>rw[h]at hb;cases hb
 |some c=>rfl
def lpF(E:Env)(fn:Func)(args res:List AM)(c:List (Nat×CM))(p:List Nat)(ks:List (St→Option (HP res)))(n:Nat):St→Option (HP res):=
 BZ (some c) (fun σ kn=>atF E fn args res p (ks++[kn]) σ) n
theorem VO(E:Env)(fn:Func)(args res:List AM)(c:List (Nat×CM))(p:List Nat)(ks:List (St→Option (HP res)))(n:Nat)(σ:St):
 lpF E fn args res c p ks (n+1) σ=atF E fn args res p (ks++[fun σ'=>vO (some c) σ' (lpF E fn args res c p ks n)]) σ:=rfl
def VP{β:Type}(κ:Nat→β):List (Nat×β)→Prop
 |[]=>True
 |q::r=>κ q.1=q.2∧VP κ r
def S6{β:Type}:List (β×β)→Prop
 |[]=>True
 |q::r=>q.1=q.2∧S6 r
theorem S6.mem{β:Type}: ∀{l:List (β×β)},S6 l→ ∀p∈l,p.1=p.2
 |q::r,h,p,hp=>by
  rcases aX.1 hp with rfl|hp
  ·exact h.1
  ·exact S6.mem h.2 p hp
theorem al0{β:Type}(d:β): ∀(l:List (Nat×β)),(l.map (·.1)).Nodup→ ∃κ:Nat→β,VP κ l
 |[],_=>⟨λ_=>d,trivial⟩
 |q::r,h=>by
  rw[bU,zm]at h
  obtain⟨κ,hκ⟩:=al0 d r h.2
  refine⟨λi=>if i=q.1 then q.2 else κ i,by simp,?_⟩
  have key: ∀(r':List (Nat×β)),(∀p∈r',p∈r)→VP κ r'→VP (λi=>if i=q.1 then q.2 else κ i) r':=by
   intro r'
   induction r' with
   |nil=>intros;trivial
   |cons p r' ih=>
    intro hm ha
    refine⟨?_,ih (λp' Q7=>hm p' (a6 _ Q7)) ha.2⟩
    have jH:p.1≠q.1:=λe=>h.1 (e▸eO (hm p (bn ..)))
    show(if p.1=q.1 then q.2 else κ p.1)=p.2
    rw[ah jH]
    exact ha.1
  exact key r (λ_ h=>h) hκ
theorem awd{β:Type}(d:β)(l:List (Nat×β)){ks:List Nat}(h:l.map (·.1)=ks)(hd:ks.Nodup): ∃κ:Nat→β,VP κ l:=al0 d l (h▸hd)
theorem at_eq(E:Env)(fn:Func)(args res:List AM){κJ κL:Nat→St→Option (HP res)}{p:List Nat}{ks:List (St→Option (HP res))}{l:List ((St→Option (HP res))×(St→Option (HP res)))}(h:wh E κJ κL (Zu E fn args res p ks)=l)(hl:S6 l)(σ:St):
 atF E fn args res p ks σ=atQ E fn args res κJ κL p ks σ:=(m2 p _ ks _ _ _ σ (by unfold Hf;rw[show wh E κJ κL (gP E p (EZ fn) ks (My E fn args res) nox (My E fn args res))=l from h];exact hl.mem)).symm
end VM
end
section
namespace VM
open Go Go.RowKit
variable{P:Program}
def Mz(i:Nat):List (Nat×Ty)→Option Ty
 |[]=>none
 |q::r=>cond (Nat.beq i q.1) (some q.2) (Mz i r)
theorem H8{i:Nat}{τ:Ty}: ∀{l:List (Nat×Ty)},Mz i l=some τ→(i,τ)∈l
 |q::r,h=>by
  unfold Mz at h
  cases hb:Nat.beq i q.1<;>rw[hb]at h
  ·exact a6 _ (H8 h)
  ·cases h;rw[fT hb];exact bn ..
structure E0(P:Program)(tab:List (Nat×Ty)):Prop where
 ok:alW P tab=true
 mixed:P.follows .mixedOrders=true
theorem S7{E:Env}(hE:sb P E)(arp:E.io=[]){f:FuncId}{fn:Func}(hf:P.funcs[f]? =some fn)(τs:List Ty)
  (hc:(Nat.beq E.nt fn.ntmps&&Nat.ble τs.length E.nt)=true) {w:World} {vs:List Value} {x:HP (τs.map .v)} (hA:jy w (λ_=>False) (τs.map .v) x vs)
  (h:LO E fn (τs.map .v) [.v .bool] x=some true):Calls P f vs.toArray w λe w'=>e= .returned (.bool true)∧Below w.heap.size w w':=by
 rw[bP]at hc
 have hnt:=fT hc.1
 have hlen:=D7 hc.2
 have hh: ∀(τs:List Ty) (vs:List Value),dM (τs.map .v) vs=[]:=by
  intro τs
  induction τs with
  |nil=>intro vs;cases vs<;>rfl
  |cons τ τs ih=>intro vs;cases vs with
   |nil=>rfl
   |cons v vs=>simp[dM,c9,ih]
 have hi: ∀(τs:List Ty) (vs:List Value),fg (τs.map .v) vs=[]:=by
  intro τs
  induction τs with
  |nil=>intro vs;cases vs<;>rfl
  |cons τ τs ih=>intro vs;cases vs with
   |nil=>rfl
   |cons v vs=>simp[fg,AM.iz,ih]
 refine(H4 (M0:=λ_=>False) (vs:=vs) hE hf hnt (λi m hm uW=> ?_) (λi hi=>by rw[arp]at hi;cases hi) (by rw[cv];rw[←hnt];exact hlen) (λb hb=>hb.elim) (by rw[hh];simpa using hA) (by rw[hh];exact List.nodup_nil) (λb _ hb=>hb) h).mono ?_
 ·rw[pO]at hm
  obtain⟨τ,_,rfl⟩:=zb.1 hm
  cases uW
 ·rintro e w' ⟨v,rfl,us,M',rfl,UM,hL,_,_⟩
  rw[hh]at hL
  rw[hi]at UM
  simp only[RR]at UM
  rcases UM with⟨p,GK,h1,_⟩|⟨v,K8,_,_,rfl,hv,rfl,_⟩
  ·cases h1
  ·refine⟨?_,hL.os,hL.tape,hL.output,hL.size,λb hb=>hL.frame b hb (by simp)⟩
   have:v= .bool true:=by
    simp only[A1,V,Ty.isAgg,iQ,eQ,Rd,fe,eP]at hv
    exact hv
   rw[this];rfl
def VQ(P:Program):List Ty→List TypeId→Bool
 |[],[]=>true
 |τ::τs,t::ts=>(tf P τ (.inl t)&&τ.pJ)&&((P.readableRec t&&decide (t<P.types.size))&&VQ P τs ts)
 |_,_=>false
theorem JS: ∀{τs:List Ty} {ts:List TypeId},VQ P τs ts=true→τs.length=ts.length∧ ∀(j:Nat) τ t,τs[j]? =some τ→ts[j]? =some t→(kA P τ t∧τ.pJ=true∧P.readableRec t=true∧t<P.types.size)
 |[],[],_=>⟨rfl,λj τ t h=>by simp at h⟩
 |τ::τs,t::ts,h=>by
  simp only[VQ,bP]at h
  obtain⟨⟨h1,h2⟩,⟨h3,h4⟩,h5⟩:=h
  obtain⟨hl,ih⟩:=JS h5
  refine⟨by simp[hl],λj τ' t' ha hb=> ?_⟩
  cases j with
  |zero=>
   simp only[Lr,iq]at ha hb
   subst ha;subst hb
   exact⟨gO h1,h2,h3,bz h4⟩
  |succ j=>exact ih j τ' t' (by simpa using ha) (by simpa using hb)
 |[],_::_,h|_::_,[],h=>by simp[VQ]at h
theorem VS{H:Type}{enc:TypeId×Value→H}{w:World}{fn:Func}{args:Array Value}{ds:List (DataW H)}{ps:List MemPlace}{r:Reach}{b0:Nat}(laid:laidOutB P=true)(τs:List Ty)
  (hA:DataW.TrodAll enc P w 0 (λ_=>true) true fn.params.toList args.toList ds ps) (EC:VQ P τs fn.params.toList=true)
  (hv: ∀(j:Nat) t v,fn.params[j]? =some t→args[j]? =some v→Value.okWide P w r b0 t v):
  (∃x:HP (τs.map .v),jy w (λ_=>False) (τs.map .v) x args.toList∧WFs τs x)∧ ∀w',Below w.heap.size w w'→ ∃GK,DataW.TrodAll enc P w' 0 (λb=>decide (b<w.heap.size)) true fn.params.toList args.toList ds GK:=
 H7 laid hA (JS EC).1 (JS EC).2 (λj t v h h'=>hv j t v (by rw[gL]at h;exact h) (by rw[gL]at h';exact h'))
end VM
end
