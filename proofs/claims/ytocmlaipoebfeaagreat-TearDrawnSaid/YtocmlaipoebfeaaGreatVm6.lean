/- A part of the proof of TearDrawn of layer 29: a machine that reads a function of the program as an equation between values. -/
import Derived.Test.YtocmlaipoebfeaaGreatVm5
import Derived.Laws.StructEq
import Derived.OpenShut
import Derived.ChangeShapes
import Derived.ChangeMaps5
import Derived.RowKit
import Derived.ChangeOld
import Derived.Carry
import Derived.Below
import Derived.Test.YtocmlaipoebfeaaGreatVm0
set_option linter.all false
section
namespace VM
open Go
variable{P:Program}{E:Env}{o:Oper}{a:Act}{w:World}{M:Nat→Prop}{ν:Nat→Value}{σ:St}{c:Ctx}{α:Type}{r:α}{next:Act→World→Prop}{Q:Exit→Act→World→Prop}
theorem wj{L:Option (List (Nat×CM))}(hL: ∀L',L=some L'→fW L'=true){b:Code}{Q:Exit→Act→World→Prop}{step:St→(St→Option α)→Option α}
  (hs: ∀σ a w kn (Q':Exit→Act→World→Prop),Inv c E σ a w→step σ kn=some r→(∀σ' a' w',kn σ'=some r→Inv c E σ' a' w'→Q' .normal a' w')→(∀e a' w',e≠ .normal→Q e a' w'→Q' e a' w')→b.wp P Q' a w):
  ∀n σ a w,Inv c E σ a w→vT L step n σ=some r→Code.rounds P b Q n a w
 |0,σ,a,w,_,h=>by cases h
 |n+1,σ,a,w,hI,h=>by
  rw[rounds_succ]
  refine hs σ a w _ _ hI h (fun σ' a' w' h' sf=> ?_) (fun e a' w' he hq=> ?_)
  ·obtain⟨pR,Jv,Yq⟩:=sD sf hL h'
   exact wj hL hs n pR a' w' Yq Jv
  ·cases e<;>first|exact hq|exact absurd rfl he
theorem KX(hE:nG P E): ∀(cd:Code) (σ:St) (a:Act) (w:World) (k:St→Option α) (kx:Nat→St→Option α) (kr:St→Option α) (Q:Exit→Act→World→Prop),Inv c E σ a w→xF E cd σ k kx kr=some r→
  (∀σ' a' w',k σ'=some r→Inv c E σ' a' w'→Q .normal a' w')→(∀i σ' a' w',kx i σ'=some r→Inv c E σ' a' w'→Q (.exit i) a' w')→(∀σ' a' w',kr σ'=some r→Inv c E σ' a' w'→Q .ret a' w')→cd.wp P Q a w:=by
 intro cd
 induction cd with
 |skip=>intro σ a w k kx kr Q hI h hk _ _;exact wp_skip (hk σ a w h hI)
 |region id ops draw=>intro σ a w k kx kr Q hI h hk _ _;exact Av hE hI h hk
 |seq x y ihx ihy=>
  intro σ a w k kx kr Q hI h hk hx hr
  refine wp_seq (ihx σ a w _ kx kr _ hI h (fun σ' a' w' h' sf=> ?_) hx hr)
  obtain⟨pR,Jv,Yq⟩:=sD sf (fun L' hL=>by
   cases hf:bF y with
   |none=>rw[hf]at hL;cases hL
   |some i=>rw[hf]at hL;exact hE.MR i L' hL) h'
  exact ihy pR a' w' k kx kr Q Yq Jv hk hx hr
 |cond x t e iht ihe=>
  intro σ a w k kx kr Q hI h hk hx hr
  obtain⟨b,hb,h⟩:=En (E:=E) (A:=fun σ'=>xF E t σ' k kx kr) (B:=fun σ'=>xF E e σ' k kx kr) hI h
  refine wp_cond hb ?_
  cases b
  ·exact ihe σ a w k kx kr Q hI h hk hx hr
  ·exact iht σ a w k kx kr Q hI h hk hx hr
 |block id x ih=>
  intro σ a w k kx kr Q hI h hk hx hr
  refine wp_block (ih σ a w k _ kr _ hI h hk (fun i σ' a' w' h' sf=> ?_) hr)
  show if i=id then Q .normal a' w' else Q (.exit i) a' w'
  cases hb:Nat.beq i id
  ·have g7:i≠id:=fun e=>by subst e;rw[show Nat.beq i i=true from Nat.beq_refl i]at hb;cases hb
   rw[hb]at h'
   rw[if_neg g7]
   exact hx i σ' a' w' h' sf
  ·rw[hb]at h'
   rw[if_pos (Nat.eq_of_beq_eq_true hb)]
   exact hk σ' a' w' h' sf
 |loop b ih=>
  intro σ a w k kx kr Q hI h hk hx hr
  have hL: ∀L',(bF b).bind E.p7=some L'→fW L'=true:=fun L' hL=>by
   cases hf:bF b with
   |none=>rw[hf]at hL;cases hL
   |some i=>rw[hf]at hL;exact hE.fW i L' hL
  obtain⟨σ',h',sf⟩:=sD hI hL h
  refine wp_loop_rounds E.N (wj hL (fun σ a w kn Q' hI h hkn hq=> ?_) E.N σ' a w sf h')
  exact ih σ a w kn kx kr Q' hI h hkn (fun i σ' a' w' h' sf=>hq _ _ _ (by simp) (hx i σ' a' w' h' sf)) (fun σ' a' w' h' sf=>hq _ _ _ (by simp) (hr σ' a' w' h' sf))
 |rangeFunc f ps x y ihx ihy=>intro σ a w k kx kr Q hI h;cases h
 |exit id=>intro σ a w k kx kr Q hI h hk hx hr;exact wp_exit (hx id σ a w h hI)
 |scope x ih=>
  intro σ a w k kx kr Q hI h hk hx hr
  exact wp_scope_straight (ih σ a w k kx kr _ hI h hk hx hr)
 |label l=>intro σ a w k kx kr Q hI h hk _ _;exact wp_label (hk σ a w h hI)
 |goto l=>intro σ a w k kx kr Q hI h;cases h
 |ret=>intro σ a w k kx kr Q hI h hk hx hr;exact wp_ret (hr σ a w h hI)
 |refuse s=>intro σ a w k kx kr Q hI h;cases h
end VM
end
section
namespace VM
open Go
variable{P:Program}{E:Env}{o:Oper}{a:Act}{w:World}{M:Nat→Prop}{ν:Nat→Value}{σ:St}{c:Ctx}{α:Type}{r:α}{next:Act→World→Prop}{Q:Exit→Act→World→Prop}
theorem HW{m:AM}{ms:List AM}(x:HP (m::ms))(i:Nat)(σ:St):entry (m::ms) x i σ=entry ms (uT x) (i+1) (HE m (p3 x) i σ):=by
 cases ms with
 |nil=>simp[entry,p3]
 |cons n ms=>simp[entry,p3,uT]
theorem Core.wc{tm:Array Value}(h:Core c σ tm w M ν){id:Nat}{v:Value}{e:aN}(aQ:σ.H id=none)(Kw:ER w M v e)
  (hd: ∀b,dX v=some b→ ∀i e',σ.H i=some e'→e'.mut→dX (ν i)≠some b) (hn: ∀b,dX v=some b→c.B≤b∨c.may b) (ho: ∀b e0 l0,e= .own e0 l0→dX v=some b→ ¬c.M0 b)
  (og: ∀τ x p j,e= .dK τ x p j→bh σ.H id (some e) j≠none∧ ∃b,v= .pointer (some ⟨b,0,none⟩)∧w.cell? ⟨b,bA p τ,none⟩=some (cg ν id v j):=by intro _ _ _ _ h;cases h):
  Core c ⟨σ.T,bh σ.H id (some e)⟩ tm w M (cg ν id v):=by
 have hm:=Mem.wc h.mem (id:=id) (v:=v) (e:=e) (fun e' sd=>by rw[aQ]at sd;cases sd) Kw hd hn ho (.inl aQ) og
 refine h.tr ⟨hm,.refl w M,⟨fun i e1 hi=> ?_,fun i hi=> ?_⟩⟩
 ·have bo:i≠id:=fun e=>by rw[e,aQ]at hi;cases hi
  exact⟨e1,by rw[al _ _ bo];exact hi,.refl e1⟩
 ·have bo:i≠id:=fun e=>hi (e▸aQ)
  simp[cg,bo]
theorem Core.put{tm:Array Value}(h:Core c σ tm w M ν){d:Nat}{x:aV}(hx:VR w M σ.H ν x (tm.getD d undef)):Core c (σ.put d x) tm w M ν:=by
 refine⟨h.mem,fun i=> ?_⟩
 by_cases hi:i=d
 ·subst hi;rw[oR];exact hx
 ·rw[tF _ _ hi];exact h.tmp i
theorem wk{tm:Array Value}: ∀{ms:List AM} {x:HP ms} {vs:List Value} {i:Nat} {σ:St} {ν:Nat→Value} {used:List Nat},Core c σ tm w M ν→fN w M ms x vs→(∀j v,vs[j]? =some v→tm.getD (i+j) undef=v)→
  (∀j,16*i≤j→σ.H j=none)→(∀j e b,σ.H j=some e→e.mut→dX (ν j)=some b→b∈used)→(used++cA ms vs).Nodup→(∀b∈cA ms vs,c.may b)→(∀b,c.may b→ ¬c.M0 b)→
  ∃ν',Core c (entry ms x i σ) tm w M ν'
 |[],x,vs,i,σ,ν,used,h,_,_,_,_,_,_,_=>⟨ν,h⟩
 |m::ms,x,vs,i,σ,ν,used,h,hA,Hr,hX,A8,tE,HX,D0=>by
  rw[HW]
  simp only[fN]at hA
  obtain⟨v,DF,rfl,h1,h2⟩:=hA
  have hv:tm.getD i undef=v:=by simpa using Hr 0 v rfl
  have Ey: ∀j u,DF[j]? =some u→tm.getD (i+1+j) undef=u:=fun j u hj=>by
   have:=Hr (j+1) u (by simpa using hj)
   rwa [show i+(j+1)=i+1+j from by omega]at this
  have aQ:σ.H (16*i+15)=none:=hX _ (by omega)
  have Yr:cA (m::ms) (v::DF)=cm m v++cA ms DF:=rfl
  rw[Yr]at tE HX
  have qo: ∀b,b∈cm m v→ ∀j e',σ.H j=some e'→e'.mut→dX (ν j)≠some b:=fun b hb j e' hj gy dq=>
   lU tE (A8 j e' b hj gy dq) (List.mem_append_left _ hb)
  have se: ∀{σ':St} {ν':Nat→Value},Core c σ' tm w M ν'→(∀j,16*(i+1)≤j→σ'.H j=none)→(∀j e b,σ'.H j=some e→e.mut→dX (ν' j)=some b→b∈used++cm m v)→ ∃ν'',Core c (entry ms (uT x) (i+1) σ') tm w M ν'':=
   fun h' wZ QF=>wk h' h2 Ey wZ QF (by rw[List.append_assoc];exact tE) (fun b hb=>HX b (List.mem_append_right _ hb)) D0
  have KP: ∀(e:aN) (v':Value),v'=v→(∀b,dX v=some b→b∈cm m v)→(∀j,16*(i+1)≤j→bh σ.H (16*i+15) (some e) j=none)∧
    (∀j e1 b,bh σ.H (16*i+15) (some e) j=some e1→e1.mut→dX (cg ν (16*i+15) v' j)=some b→b∈used++cm m v):=by
   rintro e v' rfl hb
   refine⟨fun j hj=>by rw[al _ _ (by omega)];exact hX j (by omega),fun j e1 b hj gy dq=> ?_⟩
   by_cases sG:j=16*i+15
   ·subst sG
    simp only[cg,if_true]at dq
    exact List.mem_append_right _ (hb b dq)
   ·rw[al _ _ sG]at hj
    simp only[cg,sG,if_false]at dq
    exact List.mem_append_left _ (A8 j e1 b hj gy dq)
  cases m with
  |v τ=>
   refine se (σ':=σ.put i (.val τ (p3 x))) (h.put ?_) (fun j hj=>hX j (by omega)) (fun j e b hj gy dq=>List.mem_append_left _ (A8 j e b hj gy dq))
   simp only[VR,hv];exact h1
  |fn f τ=>
   refine se (σ':=σ.put i (.DQ f (lh τ (p3 x)))) (h.put ?_) (fun j hj=>hX j (by omega)) (fun j e b hj gy dq=>List.mem_append_left _ (A8 j e b hj gy dq))
   rw[hv]
   simp only[A1,VR]at h1 ⊢
   obtain⟨us,hu,Hk⟩:=h1
   exact⟨us,hu,fC.free Hk⟩
  |own e=>
   have rP: ∀b,dX v=some b→b∈cm (.own e) v:=fun b hb=>by simp[cm,hb]
   have hc:=h.wc aQ (v:=v) (e:= .own e (p3 x)) h1 (fun b hb=>qo b (rP b hb)) (fun b hb=> .inr (HX b (List.mem_append_left _ (rP b hb)))) (fun b _ _ _ hb=>D0 b (HX b (List.mem_append_left _ (rP b hb))))
   obtain⟨wZ,QF⟩:=KP (.own e (p3 x)) v rfl rP
   refine se (σ':=(σ.put i (.ref (16*i+15))).gR (16*i+15) (some (.own e (p3 x)))) (ν':=cg ν (16*i+15) v) (hc.put (d:=i) (x:= .ref (16*i+15)) ?_) wZ QF
   simp only[VR,hv]
   exact⟨by rw[ak];simp,by simp[cg]⟩
  |io τ=>
   have rP: ∀b,dX v=some b→b∈cm (.io τ) v:=fun b hb=>by simp[cm,hb]
   have hc:=h.wc aQ (v:=v) (e:= .obj τ (p3 x)) h1 (fun b hb=>qo b (rP b hb)) (fun b hb=> .inr (HX b (List.mem_append_left _ (rP b hb)))) (fun b _ _ he=>by cases he)
   obtain⟨wZ,QF⟩:=KP (.obj τ (p3 x)) v rfl rP
   refine se (σ':=(σ.put i (.fA (16*i+15) [])).gR (16*i+15) (some (.obj τ (p3 x)))) (ν':=cg ν (16*i+15) v) (hc.put (d:=i) (x:= .fA (16*i+15) []) ?_) wZ QF
   simp only[A1,ER]at h1
   obtain⟨b,cs,t,MO,_⟩:=h1
   simp only[VR,hv]
   exact⟨_,ak _ _ _,trivial,b,by simp[cg,MO],MO⟩
  |fA τ=>
   refine se (σ':=σ.put i (.me τ (p3 x))) (h.put ?_) (fun j hj=>hX j (by omega)) (fun j e b hj gy dq=>List.mem_append_left _ (A8 j e b hj gy dq))
   rw[hv]
   simp only[A1,VR]at h1 ⊢
   exact h1
  |ptr τ=>
   refine se (σ':=σ) h (fun j hj=>hX j (by omega)) (fun j e b hj gy dq=>List.mem_append_left _ (A8 j e b hj gy dq))
def qp(tm:Array Value):ResultVar→Sem Value
 | .tmp t=>pure (tm.getD t undef)
 | .cell x t=>do loadVar t (←asAddr (tm.getD x undef))
def xc(P:Program)(tm:Array Value)(w:World)(rv:ResultVar)(u:Value):Prop:=(qp tm rv).run P w= .ok u w
def DG(P:Program)(tm:Array Value)(w:World):List (ResultVar ⊕ Nat)→List Value→List Value→Prop
 |[],us,ps=>us=[]∧ps=[]
 | .inl rv::rs,us,ps=> ∃u Cp,us=u::Cp∧xc P tm w rv u∧DG P tm w rs Cp ps
 | .inr i::rs,us,ps=> ∃p Ap,ps=p::Ap∧p=tm.getD i undef∧DG P tm w rs us Ap
theorem Core.QG{tm:Array Value}{H1:Nat→Option aN}{M1:Nat→Prop}(h: ∀i,VR w M σ.H ν (σ.T i) (tm.getD i undef))(k:dd w M w M1)(g:nT σ.H ν H1 ν): ∀i,VR w M1 H1 ν (σ.T i) (tm.getD i undef):=
 fun i=>VR.bB k g (h i)
theorem wm(hE:EnvTy P E){tm:Array Value}{H0 Hq:Nat→Option aN}{M1:Nat→Prop}{uo uf:fj}{io:List (Nat×Ty)}{hs:List Nat}(h:hO c w M ν H0 σ.H Hq M1 uo uf io hs)(ht: ∀i,VR w M1 σ.H ν (σ.T i) (tm.getD i undef))
  {m:AM} {rs:ResultVar ⊕ Nat} {k:m.den→St→Option α} (hk:AU E m rs σ k=some r):
  ∃y σ' DB DC z2 Me M2 u,k y σ'=some r∧σ'.T=σ.T∧hO c w M ν H0 σ'.H Me M2 DB DC z2 (hs++cm m u)∧dd w M1 w M2∧nT σ.H ν σ'.H ν∧A1 w M2 m y u∧
   ((m.fD=false∧m.Qo=false∧ ∃rv,rs= .inl rv∧xc P tm w rv u)∨(m.fD=true∧ ∃i,rs= .inr i∧u=tm.getD i undef)):=by
 unfold AU at hk
 split at hk
 ·
  rename_i τ t k
  obtain⟨y,rd,ups,hk,hy⟩:=xJ h.mem (ht t) hk
  have HY:xc P tm w (.tmp t) (tm.getD t undef):=by simp[xc,qp]
  rcases hy with⟨rfl,hV⟩|⟨id,e,l,rfl,aQ,hV⟩
  ·exact⟨y,σ,uo,uf,io,Hq,M1,_,hk,rfl,by simpa [cm]using h,.refl w M1,.refl _ ν,hV,.inl ⟨rfl,rfl,_,rfl,HY⟩⟩
  ·obtain⟨M2,hA,hK,Cg⟩:=h.freeze aQ
   exact⟨y,_,uo,_,io,Hq,M2,_,hk,rfl,(by simp only[cm,List.append_nil];exact hA),hK,.Yb aQ ⟨rfl,rfl⟩,hV M2 Cg,.inl ⟨rfl,rfl,_,rfl,HY⟩⟩
 ·
  rename_i τ x t k
  split at hk
  ·rename_i τ' Aj
   obtain⟨e1,Yc⟩:=dA hk
   clear hk
   subst e1
   obtain⟨υ,z,rd,hk,b,off,cs,hv,ly,gO⟩:=vW h.mem (ht x) Yc
   obtain⟨e2,PQ⟩:=aX hk
   subst e2
   refine⟨_,σ,uo,uf,io,Hq,M1,bE _ cs,PQ,rfl,by simpa [cm]using h,.refl w M1,.refl _ ν,V.bE gO,.inl ⟨rfl,rfl,_,rfl,?_⟩⟩
   simp only[xc,qp,hv]
   simp[asAddr,vV (hE.ty t _ Aj) ly gO]
  ·cases hk
 ·
  rename_i e t k
  have hv:=ht t
  have HY:xc P tm w (.tmp t) (tm.getD t undef):=by simp[xc,qp]
  split at hk
  ·rename_i hT
   rw[hT]at hv
   obtain⟨ad,hv⟩:=VR.emp.1 hv
   have hb:dX (.slice ad 0 0)=none:=by cases ad<;>simp[dX]
   exact⟨[],σ,uo,uf,io,Hq,M1,_,hk,rfl,by rw[hv];simpa [cm,hb]using h,.refl w M1,.refl _ ν,by rw[hv];simp only[A1,ER];exact .inl ⟨trivial,ad,rfl⟩,.inl ⟨rfl,rfl,_,rfl,HY⟩⟩
  ·rename_i id hT
   rw[hT]at hv
   simp only[VR]at hv
   split at hk
   ·rename_i e' l aQ
    obtain⟨e1,hk⟩:=aX hk
    cases e1
    refine⟨_,_,_,uf,io,_,M1,ν id,hk,rfl,(by simp only[cm];exact h.hand aQ),.refl w M1,.Yb aQ (aN.jU _),h.mem.iJ id _ aQ,.inl ⟨rfl,rfl,_,rfl,by rw[←hv.2];exact HY⟩⟩
   ·cases hk
  ·cases hk
 ·
  rename_i τ i k
  have hv:=ht i
  split at hk
  ·rename_i id hT
   rw[hT]at hv
   split at hk
   ·rename_i υ z aQ
    obtain⟨e1,hk⟩:=aX hk
    subst e1
    simp only[VR]at hv
    obtain⟨e,he,jE⟩:=hv
    rw[aQ]at he;cases he
    simp only[AR]at jE
    obtain⟨_,b,hb,hv⟩:=jE
    have MO:tm.getD i undef=ν id:=by rw[hv,hb];rfl
    refine⟨_,_,uo,uf,_,_,M1,ν id,hk,rfl,(by simp only[cm];exact h.Ya aQ),.refl w M1,.Yb aQ (aN.jU _),h.mem.iJ id _ aQ,.inr ⟨rfl,i,rfl,MO.symm⟩⟩
   ·cases hk
  ·cases hk
 ·
  rename_i τ t k
  have hv:=ht t
  have HY:xc P tm w (.tmp t) (tm.getD t undef):=by simp[xc,qp]
  split at hk
  ·rename_i id hT
   rw[hT]at hv
   split at hk
   ·rename_i υ z aQ
    obtain⟨e1,hk⟩:=aX hk
    subst e1
    simp only[VR]at hv
    obtain⟨e,he,jE⟩:=hv
    rw[aQ]at he;cases he
    simp only[AR]at jE
    obtain⟨_,b,hb,hv⟩:=jE
    have MO:tm.getD t undef=ν id:=by rw[hv,hb];rfl
    refine⟨_,_,uo,uf,_,_,M1,ν id,hk,rfl,(by simp only[cm];exact h.Ya aQ),.refl w M1,.Yb aQ (aN.jU _),h.mem.iJ id _ aQ,.inl ⟨rfl,rfl,_,rfl,by rw[←MO];exact HY⟩⟩
   ·cases hk
  ·cases hk
 ·cases hk
theorem yI(hE:EnvTy P E){tm:Array Value}{H0:Nat→Option aN}: ∀{ms:List AM} {rs:List (ResultVar ⊕ Nat)} {σ:St} {Hq:Nat→Option aN} {M1:Nat→Prop} {uo uf:fj} {io:List (Nat×Ty)} {hs:List Nat} {K:HP ms→Option α},
  hO c w M ν H0 σ.H Hq M1 uo uf io hs→(∀i,VR w M1 σ.H ν (σ.T i) (tm.getD i undef))→B8 E ms rs σ K=some r→
  ∃y us ps H2 DB DC z2 Me M2,K y=some r∧hO c w M ν H0 H2 Me M2 DB DC z2 (hs++aZ ms us ps)∧dd w M1 w M2∧RR w M2 ms y us ps∧DG P tm w rs us ps
 |[],[],σ,Hq,M1,uo,uf,io,hs,K,h,ht,hk=>⟨(),[],[],σ.H,uo,uf,io,Hq,M1,hk,by simpa [aZ]using h,.refl w M1,⟨rfl,rfl⟩,⟨rfl,rfl⟩⟩
 |[m],[q],σ,Hq,M1,uo,uf,io,hs,K,h,ht,hk0=>by
  obtain⟨y,σ',DB,DC,z2,Me,M2,u,hk,hT,hA,hK,hG,hy,hu⟩:=wm hE h ht (hk0:AU E m q σ _=some r)
  clear hk0
  rcases hu with⟨h1,h2,rv,rfl,hv⟩|⟨h1,i,rfl,hv⟩
  ·refine⟨y,[u],[],_,_,_,_,_,M2,hk,by simpa [aZ,h1]using hA,hK,?_,?_⟩
   ·simp only[RR];exact .inr ⟨u,[],h1,h2,rfl,hy,by simp⟩
   ·simp only[DG];exact⟨u,[],rfl,hv,by simp⟩
  ·refine⟨y,[],[u],_,_,_,_,_,M2,hk,by simpa [aZ,h1]using hA,hK,?_,?_⟩
   ·simp only[RR];exact .inl ⟨u,[],h1,rfl,hy,by simp⟩
   ·simp only[DG];exact⟨u,[],rfl,hv,by simp⟩
 |m::n::ms,q::rs,σ,Hq,M1,uo,uf,io,hs,K,h,ht,hk0=>by
  obtain⟨y,σ',DB,DC,z2,Me,M2,u,Yc,hT,hA,hK,hG,hy,hu⟩:=wm hE h ht (hk0:AU E m q σ _=some r)
  obtain⟨ys,us,ps,H3,uo3,uf3,io3,Hq3,M3,hk,hA3,hK3,hys,hrs⟩:=yI (ms:=n::ms) hE hA (fun i=>by rw[hT];exact Core.QG ht hK hG i) Yc
  have A5:A1 w M3 m y u:=A1.qn hK3 (fun b hb=>⟨rfl,hA3.hM b (List.mem_append_left _ (List.mem_append_right _ hb))⟩) hy
  clear hk0
  rcases hu with⟨h1,h2,rv,rfl,hv⟩|⟨h1,i,rfl,hv⟩
  ·refine⟨(y,ys),u::us,ps,H3,uo3,uf3,io3,Hq3,M3,hk,?_,hK.trans hK3,?_,?_⟩
   ·have:aZ (m::n::ms) (u::us) ps=cm m u++aZ (n::ms) us ps:=by rw[aZ];simp[h1]
    rw[this,←List.append_assoc];exact hA3
   ·rw[RR];exact .inr ⟨u,us,h1,h2,rfl,A5,hys⟩
   ·simp only[DG];exact⟨u,us,rfl,hv,hrs⟩
  ·refine⟨(y,ys),us,u::ps,H3,uo3,uf3,io3,Hq3,M3,hk,?_,hK.trans hK3,?_,?_⟩
   ·have:aZ (m::n::ms) us (u::ps)=cm m u++aZ (n::ms) us ps:=by rw[aZ];simp[h1]
    rw[this,←List.append_assoc];exact hA3
   ·rw[RR];exact .inl ⟨u,ps,h1,rfl,A5,hys⟩
   ·simp only[DG];exact⟨u,ps,rfl,hv,hrs⟩
 |[],_::_,_,_,_,_,_,_,_,_,_,_,hk=>by simp[B8]at hk
 |[_],[],_,_,_,_,_,_,_,_,_,_,hk=>by simp[B8]at hk
 |[_],_::_::_,_,_,_,_,_,_,_,_,_,_,hk=>by simp[B8]at hk
 |_::_::_,[],_,_,_,_,_,_,_,_,_,_,hk=>by simp[B8]at hk
end VM
end
section
namespace VM
open Go
variable{P:Program}{E:Env}{o:Oper}{a:Act}{w:World}{M:Nat→Prop}{ν:Nat→Value}{σ:St}{c:Ctx}{α:Type}{r:α}{next:Act→World→Prop}{Q:Exit→Act→World→Prop}
theorem A9{tm:Array Value}: ∀{rv:List ResultVar} {is:List (ResultVar ⊕ Nat)} {us ps:List Value},DG P tm w (rv.map .inl++is) us ps→
  ∃PV us2,us=PV++us2∧PV.length=rv.length∧(∀i (h:i<rv.length) (h':i<PV.length),xc P tm w rv[i] PV[i])∧DG P tm w is us2 ps
 |[],is,us,ps,h=>⟨[],us,rfl,rfl,fun i h=>by simp at h,h⟩
 |rv::rvs,is,us,ps,h=>by
  simp only[List.map_cons,List.cons_append,DG]at h
  obtain⟨u,Cp,rfl,h1,h2⟩:=h
  obtain⟨PV,us2,rfl,hl,h3,h4⟩:=A9 h2
  refine⟨u::PV,us2,rfl,by simp[hl],fun i hi iA=> ?_,h4⟩
  cases i with
  |zero=>exact h1
  |succ i=>exact h3 i (by simpa using hi) (by simpa using iA)
theorem sH{tm:Array Value}: ∀{ms:List AM} {vs:List Value} {i:Nat} {us ps:List Value},vs.length=ms.length→(∀j v m,vs[j]? =some v→ms[j]? =some m→m.fD=true→tm.getD (i+j) undef=v)→DG P tm w (u2 ms i) us ps→us=[]∧ps=dm ms vs
 |[],vs,i,us,ps,_,_,h=>by simp only[u2,DG]at h;simpa [dm]using h
 |m::ms,[],_,_,_,hl,_,_=>by simp at hl
 |m::ms,v::vs,i,us,ps,hl,Hr,h=>by
  have Ey: ∀j u m,vs[j]? =some u→ms[j]? =some m→m.fD=true→tm.getD (i+1+j) undef=u:=fun j u m hj hm ra=>by
   have:=Hr (j+1) u m (by simpa using hj) (by simpa using hm) ra
   rwa [show i+(j+1)=i+1+j from by omega]at this
  have DD:vs.length=ms.length:=by simpa using hl
  cases m with
  |io τ=>
   simp only[u2,DG]at h
   obtain⟨p,Ap,rfl,hp,h⟩:=h
   obtain⟨h1,h2⟩:=sH DD Ey h
   refine⟨h1,?_⟩
   have:=Hr 0 v (.io τ) rfl rfl rfl
   simp only[Nat.add_zero]at this
   simp[dm,AM.fD,h2,hp,this]
  |v τ=>
   obtain⟨h1,h2⟩:=sH DD Ey (show DG P tm w (u2 ms (i+1)) us ps from h)
   exact⟨h1,by simp[dm,AM.fD,h2]⟩
  |own τ=>
   obtain⟨h1,h2⟩:=sH DD Ey (show DG P tm w (u2 ms (i+1)) us ps from h)
   exact⟨h1,by simp[dm,AM.fD,h2]⟩
  |fn f τ=>
   obtain⟨h1,h2⟩:=sH DD Ey (show DG P tm w (u2 ms (i+1)) us ps from h)
   exact⟨h1,by simp[dm,AM.fD,h2]⟩
  |fA τ=>
   obtain⟨h1,h2⟩:=sH DD Ey (show DG P tm w (u2 ms (i+1)) us ps from h)
   exact⟨h1,by simp[dm,AM.fD,h2]⟩
  |ptr τ=>
   obtain⟨h1,h2⟩:=sH DD Ey (show DG P tm w (u2 ms (i+1)) us ps from h)
   exact⟨h1,by simp[dm,AM.fD,h2]⟩
theorem Ez{fn:Func}{tm:Array Value}{us:List Value}(hl:us.length=fn.results.toList.length)(h: ∀i (h:i<fn.results.toList.length) (h':i<us.length),xc P tm w fn.results.toList[i] us[i]):
  (results fn tm).run P w= .ok (qm us) w:=by
 have key: ∀(rs:List ResultVar) (us:List Value),us.length=rs.length→(∀i (h:i<rs.length) (h':i<us.length),xc P tm w rs[i] us[i])→(rs.mapM (qp tm)).run P w= .ok us w:=by
  intro rs
  induction rs with
  |nil=>intro us hl _;cases us with
   |nil=>simp
   |cons _ _=>simp at hl
  |cons r rs ih=>intro us hl h;cases us with
   |nil=>simp at hl
   |cons u us=>
    have h0:(qp tm r).run P w= .ok u w:=h 0 (by simp) (by simp)
    have h1:=ih us (by simpa using hl) (fun i hi iA=>h (i+1) (by simpa using hi) (by simpa using iA))
    simp[List.mapM_cons,h0,h1]
 have h2:=key fn.results.toList us hl h
 have h3:results fn tm=(do let vs ←fn.results.mapM (qp tm);pure (if h:vs.size=1 then vs[0]else .tuple vs)):=by
  unfold results
  congr 1
 rw[h3,Array.mapM_eq_mapM_toList]
 simp only[Sem.run_bind,Sem.run_map,h2]
 unfold qm
 by_cases h3:us.length=1
 ·simp[h3]
 ·simp[h3]
theorem Ba(hE:nG P E){f:FuncId}{fn:Func}(hf:P.funcs[f]? =some fn)(hnt:E.nt=fn.ntmps){args res:List AM}(ra: ∀i m,args[i]? =some m→m.fD=true→i∈E.io)(adC: ∀i∈E.io,i<args.length)(hlen:args.length≤fn.ntmps)
  {M0:Nat→Prop} {vs:List Value} {x:HP args} {y:HP res} (nn: ∀b,M0 b→b<w.heap.size) (hA:fN w (fun b=>M0 b∨b∈cA args vs) args x vs) (tE:(cA args vs).Nodup) (qq: ∀b∈cA args vs,¬M0 b)
  (h:DY E fn args res x=some y):
  Calls P f vs.toArray w fun e w'=> ∃v,e= .returned v∧ ∃us M',v=qm us∧RR w' M' res y us (dm args vs)∧Left w M0 (cA args vs) w' M'∧(aZ res us (dm args vs)).Nodup∧ ∀b∈aZ res us (dm args vs),¬M0 b:=by
 unfold DY at h
 split at h
 ·cases h
 rename_i cd hb
 simp only at h
 have hvl: ∀{ms:List AM} {x:HP ms} {vs:List Value} {M:Nat→Prop},fN w M ms x vs→vs.length=ms.length:=by
  intro ms
  induction ms with
  |nil=>intro x vs M h;simp only[fN]at h;subst h;rfl
  |cons m ms ih=>intro x vs M h;simp only[fN]at h;obtain⟨v,DF,rfl,_,h⟩:=h;simp[ih h]
 have Qh:=hvl hA
 let tm:Array Value:=vs.toArray++Array.replicate (fn.ntmps-vs.toArray.size) undef
 have Hr: ∀j v,vs[j]? =some v→tm.getD j undef=v:=by
  intro j v hj
  have dz:j<vs.length:=(List.getElem?_eq_some_iff.1 hj).1
  rw[Array.getD_eq_getD_getElem?,Array.getElem?_append_left (by simpa using dz),List.getElem?_toArray,hj];rfl
 have nE:tm.size=fn.ntmps:=by simp[tm];omega
 have hhb: ∀{ms:List AM} {x:HP ms} {vs:List Value} {M:Nat→Prop},fN w M ms x vs→ ∀b∈cA ms vs,b<w.heap.size:=by
  intro ms
  induction ms with
  |nil=>intro x vs M h b hb;simp[cA]at hb
  |cons m ms ih=>
   intro x vs M h b hb
   simp only[fN]at h
   obtain⟨v,DF,rfl,h1,h⟩:=h
   simp only[cA,List.mem_append]at hb
   rcases hb with hb|hb
   ·cases m with
    |v _=>simp[cm]at hb
    |fn _ _=>simp[cm]at hb
    |fA _=>simp[cm]at hb
    |own e=>
     simp only[cm,Option.mem_toList,A1,ER]at hb h1
     rcases h1 with⟨_,a,hv⟩|⟨b',cs,t,cap,hv,hg,_⟩
     ·rw[hv]at hb;cases a<;>simp[dX]at hb
     ·rw[hv]at hb
      simp only[dX]at hb
      split at hb
      ·cases hb
      ·simp only[Option.some.injEq]at hb;subst hb;exact lt_of_block hg
    |io τ=>
     simp only[cm,Option.mem_toList,A1,ER]at hb h1
     obtain⟨b',cs,t,hv,hg,_⟩:=h1
     rw[hv]at hb
     simp only[dX,Option.some.injEq]at hb;subst hb;exact lt_of_block hg
    |ptr τ=>
     simp only[cm,Option.mem_toList,A1,ER]at hb h1
     obtain⟨b',cs,t,hv,hg,_⟩:=h1
     rw[hv]at hb
     simp only[dX,Option.some.injEq]at hb;subst hb;exact lt_of_block hg
   ·exact ih h b hb
 let cx:Ctx:={B:=w.heap.size,w0:=w,M0:=M0,may:=fun b=>b∈cA args vs,arg:=fun i=>tm.getD i undef}
 have X1:Mem cx (fun _=>none) w (fun b=>M0 b∨b∈cA args vs) (fun _=>undef):=
  ⟨fun i e hi=>(by cases hi),fun i j e e' b _ hi=>(by cases hi),fun i e b hi=>(by cases hi),fun i e l b hi=>(by cases hi),fun i τ x p j hi=>(by cases hi),fun b hb=> .inl hb,fun b hb=>hb.elim (nn b) (hhb hA b),fun _ _ _=>rfl,Nat.le_refl _,⟨nn,qq⟩,rfl,rfl,rfl⟩
 have Md:Core cx ⟨fun _=> .any,fun _=>none⟩ tm w (fun b=>M0 b∨b∈cA args vs) (fun _=>undef):=⟨X1,fun i=>by simp[VR]⟩
 obtain⟨ν',hc⟩:=wk (i:=0) (used:=[]) Md hA (fun j v hj=>by rw[Nat.zero_add];exact Hr j v hj) (fun _ _=>rfl) (fun j e b hj=>by cases hj) (by simpa using tE) (fun b hb=>hb) (fun b hb=>qq b hb)
 have hI:Inv cx E (entry args x 0 ⟨fun _=> .any,fun _=>none⟩) {tmps:=tm,defers:=[]} w:=⟨⟨_,_,hc⟩,by rw[hnt,nE],rfl,fun i _=>rfl⟩
 refine calls_of_wp hf hb ?_
 have adD: ∀(σ':St) (a':Act) (w':World),B8 E res (fn.results.toList.map .inl++u2 args 0) σ' some=some y→Inv cx E σ' a' w'→
   a'.defers=[]∧ ∃v,(results fn a'.tmps).run P w'= .ok v w'∧ ∃v',Ending.returned v= .returned v'∧ ∃us M',v'=qm us∧RR w' M' res y us (dm args vs)∧Left w M0 (cA args vs) w' M'∧(aZ res us (dm args vs)).Nodup∧ ∀b∈aZ res us (dm args vs),¬M0 b:=by
  rintro σ' a' w' hk ⟨⟨M1,ν1,Cn⟩,Hj,hd1,rT⟩
  obtain⟨y',us,ps,H2,uo,uf,io,Hq,M2,hy,Nb,hK,Mg,hRs⟩:=yI (P:=P) hE.toEnvTy (hO.start Cn.mem) Cn.tmp hk
  cases hy
  obtain⟨PV,us2,rfl,hl,hv,ajv⟩:=A9 hRs
  obtain⟨rfl,Hl⟩:=sH (vs:=vs) Qh (fun j v m hj hm Cr=>by
   rw[Nat.zero_add]
   rw[rT j (ra j m hm Cr)]
   exact Hr j v hj) ajv
  rw[List.append_nil]at*
  subst Hl
  simp only[List.nil_append]at Nb
  have jJ: ∀b∈aZ res PV (dm args vs),b<w.heap.size→b∈cA args vs:=fun b hb dz=>(Nb.HR b hb).elim (fun h'=>absurd dz (Nat.not_lt.2 h')) (fun h=>h)
  have A5:dd w' M2 w' (fun b=>M2 b∧(b<w.heap.size→M0 b∨b∈cA args vs)):=⟨Nat.le_refl _,fun _ _ _=>rfl,fun _ _ h=>h.1⟩
  refine⟨hd1,qm PV,Ez hl hv,_,rfl,PV,fun b=>M2 b∧(b<w.heap.size→M0 b∨b∈cA args vs),rfl,RR.qn A5 (fun b hb=>⟨rfl,Mg.mv b hb,fun dz=> .inr (jJ b hb dz)⟩) Mg,⟨fun b hb=>⟨Nb.mem.sub b hb,fun _=> .inl hb⟩,fun b hb=>Nb.mem.yi b hb.1,fun b dz hb=>hb.2 dz,fun b dz hb=>Nb.mem.frame b dz hb,Nb.mem.size,Nb.mem.os,Nb.mem.tape,Nb.mem.output⟩,Nb.nd,fun b hb h0=> ?_⟩
  rcases Nb.HR b hb with h'|h'
  ·exact absurd (nn b h0) (Nat.not_lt.2 h')
  ·exact qq b h' h0
 refine KX (c:=cx) hE cd _ _ w _ _ _ _ hI h (fun σ' a' w' hk sf=> ?_) (fun i σ' a' w' hk=>by cases hk) (fun σ' a' w' hk sf=> ?_)
 ·exact adD σ' a' w' hk sf
 ·exact adD σ' a' w' hk sf
theorem Nc(hE:nG P E){f:FuncId}{fn:Func}(hf:P.funcs[f]? =some fn)(tH:(fn.name== "runtime.NumGoroutine")=false)(hnt:E.nt=fn.ntmps)(S:g6)
  (ra: ∀i m,S.args[i]? =some m→m.fD=true→i∈E.io) (adC: ∀i∈E.io,i<S.args.length) (hlen:S.args.length≤fn.ntmps) (hq:S.quiet=true→S.res.all AM.flat=true) (ajw:kA S.args=kA S.res)
  (ct: ∀x,DY E fn S.args S.res x=S.run x):eM P f S:=by
 refine⟨hq,ajw,fun M0 w vs x y nn hA tE qq hy=> ?_⟩
 have hb:fn.body.isNone=false:=by
  have:=ct x
  rw[hy]at this
  unfold DY at this
  split at this
  ·cases this
  ·rename_i cd hcd;rw[hcd];rfl
 exact nU hf tH hb (Ba hE hf hnt ra adC hlen nn hA tE qq (by rw[ct,hy]))
end VM
end
section
namespace VM
open Go
variable{P:Program}
def tI:Ty→List Value→Option (List Value)
 | .int k,v::r=>match v with
  | .int k' n=>if k'=k∧n=0 then some r else none
  |_=>none
 | .bool,v::r=>match v with
  | .bool false=>some r
  |_=>none
 | .str,v::r=>match v with
  | .string s=>if s.data.size=0 then some r else none
  |_=>none
 | .slice _,v::r=>match v with
  | .slice none n m=>if n=0∧m=0 then some r else none
  |_=>none
 | .unit,r=>some r
 | .pair a b,r=>match tI a r with
  |some r=>tI b r
  |none=>none
 | .arr n e,r=>Nat.rec (motive:=fun _=>List Value→Option (List Value)) (fun r=>some r) (fun _ ih r=>match tI e r with
  |some r=>ih r
  |none=>none) n r
 |_,[]=>none
theorem tJ: ∀{τ:Ty} {l r:List Value},tI τ l=some r→l=τ.bZ++r
 | .int k,[],_,h| .bool,[],_,h| .str,[],_,h| .slice _,[],_,h=>by simp[tI]at h
 | .int k,v::l,r,h=>by
  simp only[tI]at h
  split at h
  ·split at h
   ·rename_i hc;obtain⟨rfl,rfl⟩:=hc;cases h;rfl
   ·cases h
  ·cases h
 | .bool,v::l,r,h=>by
  simp only[tI]at h
  split at h
  ·cases h;rfl
  ·cases h
 | .str,v::l,r,h=>by
  simp only[tI]at h
  split at h
  ·rename_i s
   split at h
   ·rename_i hs
    cases h
    have:s=ByteArray.empty:=by
     obtain⟨d⟩:=s
     have:d= #[]:=Array.eq_empty_of_size_eq_zero hs
     subst this;rfl
    subst this;rfl
   ·cases h
  ·cases h
 | .slice _,v::l,r,h=>by
  simp only[tI]at h
  split at h
  ·split at h
   ·rename_i hc;obtain⟨rfl,rfl⟩:=hc;cases h;rfl
   ·cases h
  ·cases h
 | .unit,l,r,h=>by simp only[tI]at h;cases h;rfl
 | .pair a b,l,r,h=>by
  simp only[tI]at h
  split at h
  ·rename_i r1 h1
   rw[tJ h1,tJ h];simp[Ty.bZ]
  ·cases h
 | .arr n e,l,r,h=>by
  simp only[tI]at h
  simp only[Ty.bZ]
  induction n generalizing l with
  |zero=>cases h;rfl
  |succ n ih=>
   simp only at h
   split at h
   ·rename_i r1 h1
    rw[tJ h1,ih _ h];simp[List.replicate_succ]
   ·cases h
def tK(P:Program)(τ:Ty)(t:TypeId):Bool:=
 match P.info? t with
 |none=>false
 |some i=>Nat.beq i.size τ.size&&Nat.ble i.bytes 2048&&(match i.zero with
  |none=>false
  |some z=>match τ.isAgg,z with
   |true,.agg cs=>(match tI τ cs.toList with|some []=>true|_=>false)
   |false,z=>(match tI τ [z]with|some []=>true|_=>false)
   |_,_=>false)
theorem mz{τ:Ty}{t:TypeId}(h:tK P τ t=true):B9 P τ t:=by
 unfold tK at h
 split at h
 ·cases h
 ·rename_i i hi
  simp only[Bool.and_eq_true,Nat.ble_eq]at h
  obtain⟨⟨h1,h2⟩,h3⟩:=h
  refine⟨i,hi,Nat.eq_of_beq_eq_true h1,?_,h2⟩
  split at h3
  ·cases h3
  ·rename_i z hz
   rw[hz]
   split at h3
   ·rename_i _ cs ha
    split at h3
    ·rename_i he
     have:=tJ he
     unfold bE
     rw[if_pos ha,←List.append_nil τ.bZ,←this]
    ·cases h3
   ·rename_i ha
    split at h3
    ·rename_i he
     have:=tJ he
     unfold bE
     rw[if_neg (by rw[ha];exact Bool.false_ne_true),←List.append_nil τ.bZ,←this];rfl
    ·cases h3
   ·cases h3
def oq(P:Program):Ty→TypeId ⊕ (Array Field×Nat×Nat)→Bool
 | .int k,.inl t=>tK P (.int k) t&&(match P.underlying t with|some (.int k')=>decide (k'=k)|_=>false)
 | .bool,.inl t=>tK P .bool t&&(match P.underlying t with|some .bool=>true|_=>false)
 | .str,.inl t=>tK P .str t&&(match P.underlying t with|some .string=>true|_=>false)
 | .slice e,.inl t=>tK P (.slice e) t&&(match P.underlying t with|some (.slice e')=>oq P e (.inl e')|_=>false)
 | .arr n e,.inl t=>tK P (.arr n e) t&&(match P.underlying t with|some (.array n' e')=>Nat.beq n' n&&oq P e (.inl e')|_=>false)
 | .unit,.inl t=>tK P .unit t&&(match P.underlying t with|some (.struct fs)=>Nat.beq fs.size 0|_=>false)
 | .unit,.inr q=>Nat.beq q.1.size q.2.1
 | .pair a b,.inl t=>tK P (.pair a b) t&&(match P.underlying t with
  |some (.struct fs)=>(match fs[0]? with
   |some f=>Nat.beq f.offset 0&&(oq P a (.inl f.type)&&oq P b (.inr (fs,1,a.size)))
   |none=>false)
  |_=>false)
 | .pair a b,.inr q=>(match q.1[q.2.1]? with
  |some f=>Nat.beq f.offset q.2.2&&(oq P a (.inl f.type)&&oq P b (.inr (q.1,q.2.1+1,q.2.2+a.size)))
  |none=>false)
 |_,.inr _=>false
theorem dY: ∀{τ:Ty} {x:TypeId ⊕ (Array Field×Nat×Nat)},oq P τ x=true→dw P τ x
 | .int k,.inl t,h=>by
  simp only[oq,Bool.and_eq_true]at h
  refine⟨mz h.1,?_⟩
  have h:=h.2
  split at h
  ·rename_i k' hu;rw[hu,of_decide_eq_true h]
  ·cases h
 | .bool,.inl t,h=>by
  simp only[oq,Bool.and_eq_true]at h
  refine⟨mz h.1,?_⟩
  have h:=h.2
  split at h
  ·rename_i hu;exact hu
  ·cases h
 | .str,.inl t,h=>by
  simp only[oq,Bool.and_eq_true]at h
  refine⟨mz h.1,?_⟩
  have h:=h.2
  split at h
  ·rename_i hu;exact hu
  ·cases h
 | .slice e,.inl t,h=>by
  simp only[oq,Bool.and_eq_true]at h
  refine⟨mz h.1,?_⟩
  have h:=h.2
  split at h
  ·rename_i e' hu;exact⟨e',hu,dY h⟩
  ·cases h
 | .arr n e,.inl t,h=>by
  simp only[oq,Bool.and_eq_true]at h
  refine⟨mz h.1,?_⟩
  have h:=h.2
  split at h
  ·rename_i n' e' hu
   simp only[Bool.and_eq_true]at h
   obtain⟨h0,h⟩:=h
   rw[Nat.eq_of_beq_eq_true h0]at hu
   exact⟨e',hu,dY h⟩
  ·cases h
 | .unit,.inl t,h=>by
  simp only[oq,Bool.and_eq_true]at h
  refine⟨mz h.1,?_⟩
  have h:=h.2
  split at h
  ·rename_i fs hu;exact⟨fs,hu,Nat.eq_of_beq_eq_true h⟩
  ·cases h
 | .unit,.inr (fs,n,o),h=>by simp only[oq]at h;exact Nat.eq_of_beq_eq_true h
 | .pair a b,.inl t,h=>by
  simp only[oq,Bool.and_eq_true]at h
  refine⟨mz h.1,?_⟩
  have h:=h.2
  split at h
  ·rename_i fs hu
   split at h
   ·rename_i f hf
    simp only[Bool.and_eq_true]at h
    exact⟨fs,f,hu,hf,Nat.eq_of_beq_eq_true h.1,dY h.2.1,dY h.2.2⟩
   ·cases h
  ·cases h
 | .pair a b,.inr (fs,n,o),h=>by
  simp only[oq]at h
  split at h
  ·rename_i f hf
   simp only[Bool.and_eq_true]at h
   exact⟨f,hf,Nat.eq_of_beq_eq_true h.1,dY h.2.1,dY h.2.2⟩
  ·cases h
 | .int _,.inr _,h| .bool,.inr _,h| .str,.inr _,h| .slice _,.inr _,h| .arr _ _,.inr _,h=>by simp[oq]at h
def pK(P:Program):Ty→TypeId ⊕ (Array Field×Nat)→Bool
 | .int _,.inl _| .bool,.inl _| .str,.inl _=>true
 | .unit,.inl t=> !P.stoodInHeld t
 | .unit,.inr _=>true
 | .pair a b,.inl t=> !P.stoodInHeld t&&(match P.underlying t with
  |some (.struct fs)=>(match fs[0]? with
   |some f=>f.name != "_" &&(pK P a (.inl f.type)&&pK P b (.inr (fs,1)))
   |none=>false)
  |_=>false)
 | .pair a b,.inr q=>(match q.1[q.2]? with
  |some f=>f.name != "_" &&(pK P a (.inl f.type)&&pK P b (.inr (q.1,q.2+1)))
  |none=>false)
 |_,_=>false
def Ty.deep:Ty→Nat
 | .pair a b=>a.deep+b.deep+1
 |_=>1
theorem V.ofC{w:World}{M:Nat→Prop}{τ:Ty}{cs:List Value}{x:τ.den}(h:Rd w M τ cs x):V w M τ (VM.bE τ cs) x:=V.bE h
mutual
theorem EA{w:World}{M:Nat→Prop}: ∀{τ:Ty} {t:TypeId} {u v:Value} {x y:τ.den} {d:Nat},gu P τ t→pK P τ (.inl t)=true→V w M τ u x→V w M τ v y→τ.deep≤d→(Op.equalIn d t u v).run P w= .ok (kV τ x y) w
 | .int k,t,u,v,x,y,d+1,hl,_,hx,hy,_=>by
  simp only[V,Ty.isAgg,Bool.false_eq_true,if_false,Rd,List.cons.injEq,and_true]at hx hy
  subst hx;subst hy
  rw[run_equalIn_int w d t k k _ _ hl.int];simp only[kV,fI];congr 1
 | .bool,t,u,v,x,y,d+1,hl,_,hx,hy,_=>by
  simp only[V,Ty.isAgg,Bool.false_eq_true,if_false,Rd,List.cons.injEq,and_true]at hx hy
  subst hx;subst hy
  rw[run_equalIn_bool w d t _ _ hl.bool];simp only[kV]
 | .str,t,u,v,x,y,d+1,hl,_,hx,hy,_=>by
  simp only[V,Ty.isAgg,Bool.false_eq_true,if_false,Rd,List.cons.injEq,and_true]at hx hy
  subst hx;subst hy
  rw[run_equalIn_string w d t _ _ hl.str];simp only[kV,yg];congr 1;rw[Bool.eq_iff_iff];simp
 | .slice _,_,_,_,_,_,_,_,h,_,_,_| .arr _ _,_,_,_,_,_,_,_,h,_,_,_=>by simp[pK]at h
 | .unit,t,u,v,x,y,d+1,hl,he,hx,hy,_=>by
  simp only[V,Ty.isAgg,if_true]at hx hy
  obtain⟨cs,rfl,_⟩:=hx
  obtain⟨cs',rfl,_⟩:=hy
  simp only[gu,dw]at hl
  obtain⟨_,fs,hu,h0⟩:=hl
  have hfs:P.fieldsOf t=fs:=by simp[Program.fieldsOf,hu]
  rw[run_equalIn_struct w d t cs cs' (by rw[hfs];exact hu) (by simpa [pK]using he),hfs]
  have:fs.toList=[]:=by rw[←List.length_eq_zero_iff,Array.length_toList];exact h0
  rw[this];simp[Op.eqFields,kV]
 | .pair a b,t,u,v,x,y,d+1,hl,he,hx,hy,hd=>by
  simp only[V,Ty.isAgg,if_true]at hx hy
  obtain⟨cs,rfl,hx⟩:=hx
  obtain⟨cs',rfl,hy⟩:=hy
  simp only[gu,dw]at hl
  obtain⟨_,fs,f,hu,hf,ho,sI,Hs⟩:=hl
  have hfs:P.fieldsOf t=fs:=by simp[Program.fieldsOf,hu]
  simp only[pK,hu,hf,Bool.and_eq_true]at he
  rw[run_equalIn_struct w d t cs cs' (by rw[hfs];exact hu) (by simpa using he.1),hfs]
  have h0:fs.toList=f::fs.toList.drop 1:=by
   have h1:=List.drop_eq_getElem_cons (l:=fs.toList) (i:=0) (by rw[Array.length_toList];exact(Array.getElem?_eq_some_iff.1 hf).1)
   rw[List.drop_zero]at h1
   rw[h1];congr 1
   rw[Array.getElem_toList];exact(Array.getElem?_eq_some_iff.1 hf).2
  simp only[Ty.deep]at hd
  rw[h0]
  have oH:Rd w M (.pair a b) (cs.toList.drop 0) x:=by rw[List.drop_zero];exact hx
  have JC:Rd w M (.pair a b) (cs'.toList.drop 0) y:=by rw[List.drop_zero];exact hy
  have g7:f.name≠ "_" :=by simpa using he.2.1
  simp only[Op.eqFields,g7,ne_eq,not_false_eq_true,if_true]
  exact Nd (off:=0) ho sI he.2.2.1 oH JC (by omega) (fun h1 h2=>Nf (n:=1) (fs:=fs) (off:=a.size) Hs he.2.2.2 (by rw[Nat.zero_add]at h1;exact h1) (by rw[Nat.zero_add]at h2;exact h2) (by omega))
 | .int _,_,_,_,_,_,0,_,_,_,_,hd| .bool,_,_,_,_,_,0,_,_,_,_,hd| .str,_,_,_,_,_,0,_,_,_,_,hd| .unit,_,_,_,_,_,0,_,_,_,_,hd| .pair _ _,_,_,_,_,_,0,_,_,_,_,hd=>by simp[Ty.deep]at hd
theorem Nf{w:World}{M:Nat→Prop}: ∀{b:Ty} {fs:Array Field} {n off:Nat} {cs cs':Array Value} {x y:b.den} {d:Nat},dw P b (.inr (fs,n,off))→pK P b (.inr (fs,n))=true→Rd w M b (cs.toList.drop off) x→Rd w M b (cs'.toList.drop off) y→b.deep≤d→
  (Op.eqFields d cs cs' (fs.toList.drop n)).run P w= .ok (kV b x y) w
 | .unit,fs,n,off,cs,cs',x,y,d,hl,_,_,_,_=>by
  simp only[dw]at hl
  rw[List.drop_of_length_le (by rw[Array.length_toList];omega)]
  simp[Op.eqFields,kV]
 | .pair a b,fs,n,off,cs,cs',x,y,d,hl,he,hx,hy,hd=>by
  simp only[dw]at hl
  obtain⟨f,hf,ho,sI,Hs⟩:=hl
  simp only[pK,hf,Bool.and_eq_true]at he
  have h0:fs.toList.drop n=f::fs.toList.drop (n+1):=by
   rw[List.drop_eq_getElem_cons (l:=fs.toList) (i:=n) (by rw[Array.length_toList];exact(Array.getElem?_eq_some_iff.1 hf).1)]
   congr 1
   rw[Array.getElem_toList];exact(Array.getElem?_eq_some_iff.1 hf).2
  simp only[Ty.deep]at hd
  rw[h0]
  have g7:f.name≠ "_" :=by simpa using he.1
  simp only[Op.eqFields,g7,ne_eq,not_false_eq_true,if_true]
  exact Nd ho sI he.2.1 hx hy (by omega) (fun h1 h2=>Nf Hs he.2.2 h1 h2 (by omega))
 | .int _,_,_,_,_,_,_,_,_,hl,_,_,_,_| .bool,_,_,_,_,_,_,_,_,hl,_,_,_,_| .str,_,_,_,_,_,_,_,_,hl,_,_,_,_| .slice _,_,_,_,_,_,_,_,_,hl,_,_,_,_| .arr _ _,_,_,_,_,_,_,_,_,hl,_,_,_,_=>by simp[dw]at hl
theorem Nd{w:World}{M:Nat→Prop}{a b:Ty}{f:Field}{fs:List Field}{off:Nat}{cs cs':Array Value}{x y:(Ty.pair a b).den}{d:Nat}(ho:f.offset=off)(sI:gu P a f.type)(he:pK P a (.inl f.type)=true)
  (hx:Rd w M (.pair a b) (cs.toList.drop off) x) (hy:Rd w M (.pair a b) (cs'.toList.drop off) y) (hd:a.deep≤d)
  (hr:Rd w M b (cs.toList.drop (off+a.size)) x.2→Rd w M b (cs'.toList.drop (off+a.size)) y.2→(Op.eqFields d cs cs' fs).run P w= .ok (kV b x.2 y.2) w):
  (do let u ←part f.type cs f.offset;let v ←part f.type cs' f.offset;let r ←Op.equalIn d f.type u v;if(!r)=true then pure false else Op.eqFields d cs cs' fs:Sem Bool).run P w= .ok (kV (.pair a b) x y) w:=by
 simp only[Rd]at hx hy
 obtain⟨c1,c2,hc,h1,h2⟩:=hx
 obtain⟨c1',c2',KY,lB,sj⟩:=hy
 subst ho
 have p1:(cs.toList.drop f.offset).take a.size=c1:=by rw[hc,List.take_left' h1.length]
 have p2:(cs'.toList.drop f.offset).take a.size=c1':=by rw[KY,List.take_left' lB.length]
 have q1:cs.toList.drop (f.offset+a.size)=c2:=by rw[←List.drop_drop,hc,List.drop_left' h1.length]
 have q2:cs'.toList.drop (f.offset+a.size)=c2':=by rw[←List.drop_drop,KY,List.drop_left' lB.length]
 have r1:=tq sI (w:=w) (M:=M) (cs:=cs) (off:=f.offset) (x:=x.1) (by rw[p1];exact h1)
 have r2:=tq sI (w:=w) (M:=M) (cs:=cs') (off:=f.offset) (x:=y.1) (by rw[p2];exact lB)
 have r3:=EA (d:=d) sI he (V.ofC (by rw[p1];exact h1):V w M a (VM.bE a ((cs.toList.drop f.offset).take a.size)) x.1) (V.ofC (by rw[p2];exact lB):V w M a (VM.bE a ((cs'.toList.drop f.offset).take a.size)) y.1) hd
 simp only[Sem.run_bind,r1,r2,r3,Result.andThen_ok,kV]
 cases kV a x.1 y.1
 ·simp
 ·simpa using hr (by rw[q1];exact h2) (by rw[q2];exact sj)
end
def QH(P:Program)(τ:Ty)(t:TypeId):Bool:= !(τ.comparable&&τ.isAgg)||(pK P τ (.inl t)&&(Nat.ble τ.deep 10000&& !P.eqGuardType P.depth t))
theorem QI{τ:Ty}{t:TypeId}(hl:gu P τ t)(h:QH P τ t=true)(hc:τ.comparable=true)(ha:τ.isAgg=true):acP P t τ:=by
 unfold QH at h
 rw[hc,ha]at h
 simp only[Bool.and_self,Bool.not_true,Bool.false_or,Bool.and_eq_true,Nat.ble_eq,Bool.not_eq_true']at h
 obtain⟨h1,h2,h3⟩:=h
 intro w M u v x y b xo yo hx hy
 have he:=EA (d:=10000) hl h1 hx hy h2
 unfold V at hx hy
 rw[if_pos ha]at hx hy
 obtain⟨cs,rfl,_⟩:=hx
 obtain⟨cs',rfl,_⟩:=hy
 refine⟨?_,?_,?_⟩
 ·cases b<;>simp[eqGuard,h3]
 ·simp only[binOp];simp[Op.equal,Op.maxDepth,he]
 ·simp only[binOp];simp[Op.equal,Op.maxDepth,he]
def adF(P:Program)(l:List (Nat×Ty)):Bool:=l.all fun q=>oq P q.2 (.inl q.1)&&QH P q.2 q.1
end VM
end
section
namespace VM
open Go Go.WideShapes Go.RowKit Go.ChangeShapes
def WF:(τ:Ty)→τ.den→Prop
 | .int k,x=>(Lit.int k x).wf=true
 | .bool,_=>True
 | .str,s=>ByteArray.size s≤maxLen
 | .slice e,l=>List.length l≤maxLen∧ ∀i (h:i<List.length l),WF e (List.get l ⟨i,h⟩)
 | .unit,_=>True
 | .pair a b,x=>WF a x.1∧WF b x.2
 | .arr _ e,l=> ∀i (h:i<List.length l),WF e (List.get l ⟨i,h⟩)
def Ty.ll:Ty→Bool
 | .slice e=>Nat.blt 0 e.size&&e.ll
 | .pair a b=>a.ll&&b.ll
 | .arr _ e=>e.ll
 |_=>true
theorem Ng{α β:Type}{f:α→Option β}: ∀{l:List α} {r:List β},l.mapM f=some r→ ∀x∈l,∃y,f x=some y
 |[],_,_,x,hx=>by cases hx
 |a::l,r,h,x,hx=>by
  rw[List.mapM_cons]at h
  simp only[bind,Option.bind_eq_some_iff,pure,Option.some.injEq]at h
  obtain⟨y,hy,r',hr,_⟩:=h
  rcases List.mem_cons.1 hx with rfl|hx
  ·exact⟨y,hy⟩
  ·exact Ng hr x hx
theorem EB{α β:Type}{f:α→Option β}: ∀{l:List α} {r:List β},l.mapM f=some r→r.length=l.length∧ ∀i (h:i<l.length) (h':i<r.length),f l[i]=some r[i]
 |[],r,h=>by simp at h;subst h;exact⟨rfl,fun i h=>by cases h⟩
 |a::l,r,h=>by
  rw[List.mapM_cons]at h
  simp only[bind,Option.bind_eq_some_iff,pure,Option.some.injEq]at h
  obtain⟨y,hy,r',hr,rfl⟩:=h
  obtain⟨h1,h2⟩:=EB hr
  refine⟨by simp[h1],fun i hi iA=> ?_⟩
  cases i with
  |zero=>exact hy
  |succ i=>exact h2 i (by simpa using hi) (by simpa using iA)
theorem qt{α:Type}{p:Nat→α→Prop}: ∀n,(∀i,i<n→ ∃x,p i x)→ ∃l:List α,l.length=n∧ ∀i (h:i<l.length),p i (l.get ⟨i,h⟩)
 |0,_=>⟨[],rfl,fun i h=>by cases h⟩
 |n+1,h=>by
  obtain⟨l,hl,hp⟩:=qt n (fun i hi=>h i (by omega))
  obtain⟨x,hx⟩:=h n (by omega)
  refine⟨l++[x],by simp[hl],fun i hi=> ?_⟩
  simp only[List.get_eq_getElem]
  by_cases dz:i<l.length
  ·rw[List.getElem_append_left dz];exact hp i dz
  ·have ky:i=n:=by simp at hi;omega
   subst ky
   rw[List.getElem_append_right (by omega)]
   simp[hl,hx]
section
variable{H:Type}{enc:TypeId×Value→H}{P:Program}{w:World}
theorem gu.cells{τ:Ty}{t:TypeId}(h:gu P τ t):P.cellsOf t=τ.size:=by
 obtain⟨i,hi,hs,_⟩:=h.base
 simp[Program.cellsOf,hi,hs]
theorem Bb{a:Addr}{n:Nat}{cs:List Value}(h:w.cells? 0 a n=some cs):cs.length=n∧ ∀j v,cs[j]? =some v→w.cell? (a.add j)=some v:=by
 unfold World.cells? at h
 rw[if_pos (Nat.zero_le _)]at h
 obtain⟨h1,h2⟩:=EB h
 rw[List.length_range]at h1
 refine⟨h1,fun j v hj=> ?_⟩
 obtain⟨dz,rfl⟩:=List.getElem?_eq_some_iff.1 hj
 have:=h2 j (by rw[List.length_range];omega) dz
 rw[List.getElem_range]at this
 exact this
def Nh(H:Type)(enc:TypeId×Value→H)(P:Program)(w:World)(τ:Ty):TypeId ⊕ (Array Field×Nat×Nat)→Prop
 | .inl t=> ∀(fuel:Nat) (cs:List Value) (d:DataW H×List MemPlace),DataW.trod enc P w 0 (fun _=>true) true fuel t cs=some d→ ∃x:τ.den,Rd w (fun _=>False) τ cs x∧WF τ x
 | .inr q=> ∀(cs:List Value),cs.length=q.2.2+τ.size→(∀f∈q.1.toList,∃fuel d,DataW.trod enc P w 0 (fun _=>true) true fuel f.type ((cs.drop f.offset).take (P.cellsOf f.type))=some d)→ ∃x:τ.den,Rd w (fun _=>False) τ (cs.drop q.2.2) x∧WF τ x
theorem Bc{a b:Ty}{f:Field}{fs:Array Field}{n off:Nat}(hf:fs[n]? =some f)(ho:f.offset=off)(sI:gu P a f.type)(Ys:Nh H enc P w a (.inl f.type))(Mu:Nh H enc P w b (.inr (fs,n+1,off+a.size)))
  {cs:List Value} (hc:cs.length=off+(a.size+b.size)) (jj: ∀f∈fs.toList,∃fuel d,DataW.trod enc P w 0 (fun _=>true) true fuel f.type ((cs.drop f.offset).take (P.cellsOf f.type))=some d):
  ∃x:(Ty.pair a b).den,Rd w (fun _=>False) (.pair a b) (cs.drop off) x∧WF (.pair a b) x:=by
 subst ho
 obtain⟨fuel,d,hd⟩:=jj f (by rw[Array.mem_toList_iff];exact Array.mem_of_getElem? hf)
 rw[sI.cells]at hd
 obtain⟨x,hx,hwx⟩:=Ys fuel _ d hd
 obtain⟨y,hy,hwy⟩:=Mu cs (by simp only;omega) jj
 refine⟨(x,y),?_,hwx,hwy⟩
 simp only[Rd]
 refine⟨_,_,(List.take_append_drop a.size (cs.drop f.offset)).symm,hx,?_⟩
 rw[List.drop_drop];exact hy
theorem oV: ∀{τ:Ty} {x:TypeId ⊕ (Array Field×Nat×Nat)},dw P τ x→τ.ll=true→Nh H enc P w τ x
 | .int k,.inl t,hl,_=>by
  intro fuel cs d h
  simp only[dw]at hl
  obtain⟨n,rfl,_,hw⟩:=DataW.trod_int hl.2 h
  exact⟨n,rfl,hw⟩
 | .bool,.inl t,hl,_=>by
  intro fuel cs d h
  simp only[dw]at hl
  obtain⟨b,rfl,_⟩:=DataW.trod_bool hl.2 h
  exact⟨b,rfl,trivial⟩
 | .str,.inl t,hl,_=>by
  intro fuel cs d h
  simp only[dw]at hl
  obtain⟨s,rfl,_,hs⟩:=DataW.trod_string hl.2 h
  exact⟨s,rfl,hs⟩
 | .slice e,.inl t,hl,hs=>by
  intro fuel cs d h
  simp only[dw]at hl
  obtain⟨_,e',hu,hle⟩:=hl
  simp only[Ty.ll,Bool.and_eq_true,Nat.blt_eq]at hs
  have ih:=oV hle hs.2
  have nE:P.cellsOf e'=e.size:=gu.cells hle
  rcases DataW.trod_slice hu h with⟨rfl,_⟩|⟨a,len,cap,elems,rest,n,_,rfl,_,_,Qc,hcm,hel,jj,_⟩
  ·refine⟨[],?_,Nat.zero_le _,fun i h=>by cases h⟩
   simp only[Rd]
   exact⟨none,0,rfl,Nat.le_refl _,fun i h=>by cases h⟩
  ·rw[nE]at jj
   have get: ∀i,i<len→ ∃cs' y,w.cells? 0 (a.add (i*e.size)) e.size=some cs'∧DataW.trod enc P w 0 (fun _=>true) true n e' cs'=some y:=fun i hi=>by
    have:=jj i hi
    rw[List.getElem?_eq_getElem (by omega)]at this
    obtain⟨cs',h1,h2⟩:=Option.bind_eq_some_iff.1 this
    exact⟨cs',_,h1,h2⟩
   have key: ∀i,i<len→ ∃x:e.den,(a.spot=none∧a.block<w.heap.size∧ ∃cs',At w a.block (a.off+i*e.size) cs'∧Rd w (fun _=>False) e cs' x)∧WF e x:=by
    intro i hi
    obtain⟨cs',y,Ce,ht⟩:=get i hi
    obtain⟨h1,h2⟩:=Bb Ce
    obtain⟨x,hx,hw⟩:=ih n cs' y ht
    have hsp:a.spot=none∧a.block<w.heap.size:=by
     obtain⟨nA,y0,ajx,_⟩:=get 0 (by omega)
     obtain⟨h10,h20⟩:=Bb ajx
     have:=h20 0 nA[0] (List.getElem?_eq_getElem (by omega))
     simp only[Nat.zero_mul,Addr.add,if_true,World.cell?]at this
     split at this
     ·rename_i hb
      refine⟨?_,(Array.getElem?_eq_some_iff.1 hb).1⟩
      split at this
      ·cases this
      ·rename_i hn;simpa using hn
     ·cases this
    refine⟨x,⟨hsp.1,hsp.2,cs',fun j v hj=> ?_,hx⟩,hw⟩
    have:=h2 j v hj
    have he:(a.add (i*e.size)).add j=⟨a.block,a.off+i*e.size+j,none⟩:=by
     obtain⟨ab,ao,asp⟩:=a
     simp only at hsp
     obtain⟨rfl,_⟩:=hsp
     simp only[Addr.add]
     split<;>split<;>simp_all<;>omega
    rw[he]at this
    exact this
   obtain⟨l,hl,hp⟩:=qt len key
   refine⟨l,?_,by rw[hl];omega,fun i h=>(hp i h).2⟩
   simp only[Rd]
   refine⟨some a,cap,by rw[hl],by rw[hl];exact Qc,fun i h=> ?_⟩
   obtain⟨h1,h2,cs',h3,h4⟩:=(hp i h).1
   refine⟨a.block,a.off,?_,h2,fun h=>h,cs',h3,h4⟩
   rw[←h1]
 | .unit,.inl t,hl,_=>by
  intro fuel cs d h
  simp only[dw]at hl
  obtain⟨⟨i,hi,nE,_⟩,fs,hu,h0⟩:=hl
  obtain⟨xs,n,_,_,hc,_⟩:=DataW.trod_struct hu h
  refine⟨(),?_,trivial⟩
  simp only[Rd]
  rw[←List.length_eq_zero_iff,hc]
  simp[Program.cellsOf,hi,nE,Ty.size]
 | .unit,.inr q,hl,_=>by
  intro cs hc _
  refine⟨(),?_,trivial⟩
  simp only[Rd]
  rw[List.drop_of_length_le (by rw[hc];simp[Ty.size])]
 | .pair a b,.inl t,hl,hs=>by
  intro fuel cs d h
  simp only[dw]at hl
  obtain⟨⟨i,hi,nE,_⟩,fs,f,hu,hf,ho,sI,Hs⟩:=hl
  simp only[Ty.ll,Bool.and_eq_true]at hs
  have Ys:=oV sI hs.1
  have Mu:=oV Hs hs.2
  obtain⟨xs,n,_,_,hc,hxl,hxs⟩:=DataW.trod_struct hu h
  have:=Bc (b:=b) (off:=0) hf ho sI Ys (by simp only[Nat.zero_add];exact Mu) (cs:=cs) (by rw[hc];simp[Program.cellsOf,hi,nE,Ty.size]) (fun f hf=>by
   obtain⟨j,hj,rfl⟩:=List.mem_iff_getElem.1 hf
   rw[Array.length_toList]at hj
   have:=hxs j fs[j] (by simp[hj])
   rw[List.getElem?_eq_getElem (by omega)]at this
   exact⟨n,_,by rw[Array.getElem_toList];exact this⟩)
  rw[List.drop_zero]at this
  exact this
 | .pair a b,.inr (fs,n,off),hl,hs=>by
  intro cs hc jj
  simp only[dw]at hl
  obtain⟨f,hf,ho,sI,Hs⟩:=hl
  simp only[Ty.ll,Bool.and_eq_true]at hs
  exact Bc hf ho sI (oV sI hs.1) (oV Hs hs.2) (by simpa [Ty.size]using hc) jj
 | .arr n e,.inl t,hl,hs=>by
  intro fuel cs d h
  simp only[dw]at hl
  obtain⟨⟨i,hi,nE,_⟩,e',hu,hle⟩:=hl
  simp only[Ty.ll]at hs
  have ih:=oV hle hs
  have hse:P.cellsOf e'=e.size:=gu.cells hle
  obtain⟨xs,m,_,_,hc,hxl,hxs⟩:=DataW.trod_array hu h
  have hlen:cs.length=n*e.size:=by rw[hc];simp[Program.cellsOf,hi,nE,Ty.size]
  have key: ∀i,i<n→ ∃x:e.den,Rd w (fun _=>False) e ((cs.drop (i*e.size)).take e.size) x∧WF e x:=fun i hi=>by
   have:=hxs i hi
   rw[List.getElem?_eq_getElem (by omega),hse]at this
   exact ih m _ _ this
  obtain⟨l,HQ,hp⟩:=qt n key
  refine⟨l,?_,fun i h=>(hp i h).2⟩
  simp only[Rd]
  refine⟨HQ,(List.range n).map fun i=>(cs.drop (i*e.size)).take e.size,by simp,?_,fun i h h'=> ?_⟩
  ·clear hxs h key hp HQ hu
   have: ∀m,m≤n→cs.take (m*e.size)=((List.range m).map fun i=>(cs.drop (i*e.size)).take e.size).flatten:=by
    intro m
    induction m with
    |zero=>simp
    |succ m ihm=>
     intro hm
     rw[List.range_succ,List.map_append,List.flatten_append,←ihm (by omega)]
     simp only[List.map_cons,List.map_nil,List.flatten_cons,List.flatten_nil,List.append_nil]
     rw[Nat.add_mul,Nat.one_mul,List.take_add]
   have h2:=this n (Nat.le_refl _)
   rw[List.take_of_length_le (by omega)]at h2
   exact h2
  ·have:=(hp i h).1
   simpa using this
 | .int _,.inr _,h,_| .bool,.inr _,h,_| .str,.inr _,h,_| .slice _,.inr _,h,_| .arr _ _,.inr _,h,_=>by simp[dw]at h
theorem Yt{τ:Ty}{t:TypeId}{r:Reach}{b0:Nat}{v:Value}{d:DataW H}{ps:List MemPlace}(hl:gu P τ t)(hs:τ.ll=true)(hv:Value.okWide P w r b0 t v)(h:DataW.Trod enc P w 0 (fun _=>true) true t v d ps):
  ∃x:τ.den,V w (fun _=>False) τ v x∧WF τ x:=by
 obtain⟨fuel,h⟩:=h
 obtain⟨x,hx,hw⟩:=oV (H:=H) (enc:=enc) (w:=w) hl hs fuel _ _ h
 refine⟨x,?_,hw⟩
 unfold V
 cases τ with
 |int k=>
  obtain⟨n,rfl⟩:=okWide_int hl.int hv
  exact hx
 |bool=>
  obtain⟨n,rfl⟩:=okWide_bool hl.bool hv
  exact hx
 |str=>
  obtain⟨n,rfl⟩:=okWide_string hl.str hv
  exact hx
 |slice e=>
  obtain⟨e',hu,_⟩:=hl.slice
  obtain⟨a,len,cap,rfl⟩:=okWide_slice hu hv
  exact hx
 |unit=>
  simp only[gu,dw]at hl
  obtain⟨_,fs,hu,_⟩:=hl
  simp only[Value.okWide,hu]at hv
  obtain⟨cs,rfl,_⟩:=hv
  exact⟨cs,rfl,hx⟩
 |pair a b=>
  simp only[gu,dw]at hl
  obtain⟨_,fs,f,hu,_⟩:=hl
  simp only[Value.okWide,hu]at hv
  obtain⟨cs,rfl,_⟩:=hv
  exact⟨cs,rfl,hx⟩
 |arr n e=>
  obtain⟨e',hu,_⟩:=hl.arr
  simp only[Value.okWide,hu]at hv
  obtain⟨cs,rfl,_⟩:=hv
  exact⟨cs,rfl,hx⟩
def WFs:(ms:List Ty)→HP (ms.map .v)→Prop
 |[],_=>True
 |_::ms,x=>WF _ (p3 x)∧WFs ms (uT x)
def hpC:{m:AM}→{ms:List AM}→m.den→HP ms→HP (m::ms)
 |_,[],x,_=>x
 |_,_::_,x,y=>(x,y)
theorem JD{m:AM}: ∀{ms:List AM} (x:m.den) (y:HP ms),p3 (hpC x y)=x
 |[],_,_=>rfl
 |_::_,_,_=>rfl
theorem JE{m:AM}: ∀{ms:List AM} (x:m.den) (y:HP ms),uT (hpC x y)=y
 |[],_,()=>rfl
 |_::_,_,_=>rfl
theorem Bd(laid:laidOutB P=true){r:Reach}{b0:Nat}: ∀{τs:List Ty} {ts:List TypeId} {vs:List Value} {ds:List (DataW H)} {ps:List MemPlace},DataW.TrodAll enc P w 0 (fun _=>true) true ts vs ds ps→
  τs.length=ts.length→(∀(j:Nat) τ t,τs[j]? =some τ→ts[j]? =some t→(gu P τ t∧τ.ll=true∧P.readableRec t=true∧t<P.types.size))→
  (∀(j:Nat) t v,ts[j]? =some t→vs[j]? =some v→Value.okWide P w r b0 t v)→
  (∃x:HP (τs.map .v),fN w (fun _=>False) (τs.map .v) x vs∧WFs τs x)∧ ∀w',Below w.heap.size w w'→ ∃Ap,DataW.TrodAll enc P w' 0 (fun b=>decide (b<w.heap.size)) true ts vs ds Ap
 |[],[],vs,ds,ps,h,_,_,_=>by
  obtain⟨rfl,rfl,rfl⟩:=trodAll_nil h
  exact⟨⟨(),rfl,trivial⟩,fun w' _=>⟨[],rfl⟩⟩
 |τ::τs,t::ts,vs,ds,ps,h,hl,Aj,hv=>by
  obtain⟨v,DF,d,ds',p,q,rfl,rfl,rfl,h1,h2⟩:=trodAll_cons h
  obtain⟨tu,Yu,Wv,dz⟩:=Aj 0 τ t rfl rfl
  obtain⟨x,hx,hwx⟩:=Yt tu Yu (hv 0 t v rfl rfl) h1
  obtain⟨⟨y,hy,hwy⟩,Ni⟩:=Bd laid h2 (by simpa using hl) (fun j τ' t' h h'=>Aj (j+1) τ' t' (by simpa using h) (by simpa using h')) (fun j t' v' h h'=>hv (j+1) t' v' (by simpa using h) (by simpa using h'))
  refine⟨⟨hpC (m:= .v τ) x y,?_,?_⟩,fun w' hb=> ?_⟩
  ·show fN w _ (.v τ::τs.map .v) _ _
   simp only[fN]
   exact⟨v,DF,rfl,by rw[JD];exact hx,by rw[JE];exact hy⟩
  ·simp only[WFs]
   exact⟨by rw[JD];exact hwx,by rw[JE];exact hwy⟩
  ·obtain⟨Ap,h'⟩:=Ni w' hb
   have qk: ∀z∈p,z.block<w.heap.size:=by
    obtain⟨m,hm⟩:=h1
    exact DataW.trod_lt m _ _ _ hm
   exact⟨p++Ap,trodAll_cons_mk (Below.trod laid Wv dz h1 hb qk) h'⟩
 |[],_::_,_,_,_,_,hl,_,_|_::_,[],_,_,_,_,hl,_,_=>by simp at hl
end
end VM
end
section
namespace VM
open Go
variable{α:Type}
noncomputable def tL(L:Nat→Option (List (Nat×CM)))(κ:Nat→St→Option α)(i:Option Nat)(f:St→Option α):St→Option α:=
 match i with
 |none=>f
 |some i=>match L i with
  |none=>f
  |some _=>κ i
noncomputable def Nj(E:Env)(κJ κL:Nat→St→Option α)(c:Code):St→(St→Option α)→(Nat→St→Option α)→(St→Option α)→Option α:=
 Code.rec (motive:=fun _=>St→(St→Option α)→(Nat→St→Option α)→(St→Option α)→Option α)
  (fun σ k _ _=>k σ)
  (fun _ ops draw σ k _ _=>xE E ops draw σ k)
  (fun _ b A B σ k kx kr=>A σ (fun σ'=>qb ((bF b).bind E.rN) σ' (tL E.rN κJ (bF b) fun pR=>B pR k kx kr)) kx kr)
  (fun c _ _ A B σ k kx kr=>AT E c σ (fun σ'=>A σ' k kx kr) (fun σ'=>B σ' k kx kr))
  (fun id _ A σ k kx kr=>A σ k (fun i σ'=>cond (Nat.beq i id) (k σ') (kx i σ')) kr)
  (fun b _ σ _ kx kr=>qb ((bF b).bind E.p7) σ (tL E.p7 κL (bF b) (vT ((bF b).bind E.p7) (fun σ' kn=>xF E b σ' kn kx kr) E.N)))
  (fun _ _ _ _ _ _ _ _ _ _=>none)
  (fun id σ _ kx _=>kx id σ)
  (fun _ A σ k kx kr=>A σ k kx kr)
  (fun _ σ k _ _=>k σ)
  (fun _ _ _ _ _=>none)
  (fun σ _ _ kr=>kr σ)
  (fun _ _ _ _ _=>none)
  c
noncomputable def yJ(E:Env)(c:Code):(St→Option α)→(Nat→St→Option α)→(St→Option α)→List (Bool×Nat×(St→Option α)):=
 Code.rec (motive:=fun _=>(St→Option α)→(Nat→St→Option α)→(St→Option α)→List (Bool×Nat×(St→Option α)))
  (fun _ _ _=>[])
  (fun _ _ _ _ _ _=>[])
  (fun _ b A B k kx kr=>A (fun σ'=>qb ((bF b).bind E.rN) σ' fun pR=>xF E b pR k kx kr) kx kr++(((bF b).toList.map fun i=>(false,i,fun pR=>xF E b pR k kx kr))++B k kx kr))
  (fun _ _ _ A B k kx kr=>A k kx kr++B k kx kr)
  (fun id _ A k kx kr=>A k (fun i σ'=>cond (Nat.beq i id) (k σ') (kx i σ')) kr)
  (fun b _ _ kx kr=>(bF b).toList.map fun i=>(true,i,vT ((bF b).bind E.p7) (fun σ' kn=>xF E b σ' kn kx kr) E.N))
  (fun _ _ _ _ _ _ _ _ _=>[])
  (fun _ _ _ _=>[])
  (fun _ A k kx kr=>A k kx kr)
  (fun _ _ _ _=>[])
  (fun _ _ _ _=>[])
  (fun _ _ _=>[])
  (fun _ _ _ _=>[])
  c
noncomputable def qu(E:Env)(κJ κL:Nat→St→Option α):List (Bool×Nat×(St→Option α))→List ((St→Option α)×(St→Option α))
 |[]=>[]
 |q::r=>match q.1 with
  |false=>match E.rN q.2.1 with
   |some _=>(κJ q.2.1,q.2.2)::qu E κJ κL r
   |none=>qu E κJ κL r
  |true=>match E.p7 q.2.1 with
   |some _=>(κL q.2.1,q.2.2)::qu E κJ κL r
   |none=>qu E κJ κL r
def Aw(E:Env)(κJ κL:Nat→St→Option α)(l:List (Bool×Nat×(St→Option α))):Prop:= ∀p∈qu E κJ κL l,p.1=p.2
theorem Yv{E:Env}{κJ κL:Nat→St→Option α}{l:List (Bool×Nat×(St→Option α))}(g:List (St→Option α))(h:qu E κJ κL l=g.map fun f=>(f,f)):Aw E κJ κL l:=by
 intro p hp
 rw[h]at hp
 obtain⟨f,_,rfl⟩:=List.mem_map.1 hp
 rfl
theorem wo{E:Env}{κJ κL:Nat→St→Option α}: ∀(l m:List (Bool×Nat×(St→Option α))),qu E κJ κL (l++m)=qu E κJ κL l++qu E κJ κL m
 |[],m=>rfl
 |(b,i,f)::l,m=>by
  have ih:=wo (E:=E) (κJ:=κJ) (κL:=κL) l m
  cases b<;>simp only[List.cons_append,qu]<;>split<;>simp[ih]
theorem Aw.app{E:Env}{κJ κL:Nat→St→Option α}{l m:List (Bool×Nat×(St→Option α))}(h:Aw E κJ κL (l++m)):Aw E κJ κL l∧Aw E κJ κL m:=by
 unfold Aw at*
 rw[wo]at h
 exact⟨fun p hp=>h p (List.mem_append_left _ hp),fun p hp=>h p (List.mem_append_right _ hp)⟩
theorem WH{E:Env}{κJ κL:Nat→St→Option α}{i:Option Nat}{f:St→Option α}(h:Aw E κJ κL (i.toList.map fun i=>(false,i,f))):tL E.rN κJ i f=f:=by
 cases i with
 |none=>rfl
 |some i=>
  simp only[Option.toList,List.map,Aw,qu]at h
  unfold tL
  cases hL:E.rN i with
  |none=>simp[hL]
  |some L=>rw[hL]at h;simp only[hL];exact h (κJ i,f) (List.mem_singleton.2 rfl)
theorem adJ{E:Env}{κJ κL:Nat→St→Option α}{i:Option Nat}{f:St→Option α}(h:Aw E κJ κL (i.toList.map fun i=>(true,i,f))):tL E.p7 κL i f=f:=by
 cases i with
 |none=>rfl
 |some i=>
  simp only[Option.toList,List.map,Aw,qu]at h
  unfold tL
  cases hL:E.p7 i with
  |none=>simp[hL]
  |some L=>rw[hL]at h;simp only[hL];exact h (κL i,f) (List.mem_singleton.2 rfl)
theorem Nk{E:Env}{κJ κL:Nat→St→Option α}(c:Code): ∀(k:St→Option α) (kx:Nat→St→Option α) (kr:St→Option α) (σ:St),Aw E κJ κL (yJ E c k kx kr)→Nj E κJ κL c σ k kx kr=xF E c σ k kx kr:=by
 induction c with
 |skip=>intros;rfl
 |region=>intros;rfl
 |seq a b Ys Mu=>
  intro k kx kr σ h
  obtain⟨h1,h2⟩:=Aw.app (h:Aw E κJ κL (yJ E a _ kx kr++(((bF b).toList.map fun i=>(false,i,fun pR=>xF E b pR k kx kr))++yJ E b k kx kr)))
  obtain⟨h2,h3⟩:=Aw.app h2
  show Nj E κJ κL a σ (fun σ'=>qb ((bF b).bind E.rN) σ' (tL E.rN κJ (bF b) fun pR=>Nj E κJ κL b pR k kx kr)) kx kr=xF E a σ (fun σ'=>qb ((bF b).bind E.rN) σ' fun pR=>xF E b pR k kx kr) kx kr
  have hb:(fun pR=>Nj E κJ κL b pR k kx kr)=fun pR=>xF E b pR k kx kr:=funext fun pR=>Mu k kx kr pR h3
  rw[hb,WH h2]
  exact Ys _ _ _ _ h1
 |cond x a b Ys Mu=>
  intro k kx kr σ h
  obtain⟨h1,h2⟩:=Aw.app (h:Aw E κJ κL (yJ E a k kx kr++yJ E b k kx kr))
  show AT E x σ (fun σ'=>Nj E κJ κL a σ' k kx kr) (fun σ'=>Nj E κJ κL b σ' k kx kr)=AT E x σ (fun σ'=>xF E a σ' k kx kr) (fun σ'=>xF E b σ' k kx kr)
  rw[show(fun σ'=>Nj E κJ κL a σ' k kx kr)=fun σ'=>xF E a σ' k kx kr from funext fun σ'=>Ys k kx kr σ' h1,show(fun σ'=>Nj E κJ κL b σ' k kx kr)=fun σ'=>xF E b σ' k kx kr from funext fun σ'=>Mu k kx kr σ' h2]
 |block id x ih=>intro k kx kr σ h;exact ih _ _ _ σ h
 |loop b _=>
  intro k kx kr σ h
  show qb ((bF b).bind E.p7) σ (tL E.p7 κL (bF b) (vT ((bF b).bind E.p7) (fun σ' kn=>xF E b σ' kn kx kr) E.N))=qb ((bF b).bind E.p7) σ (vT ((bF b).bind E.p7) (fun σ' kn=>xF E b σ' kn kx kr) E.N)
  rw[adJ (h:Aw E κJ κL ((bF b).toList.map fun i=>(true,i,_)))]
 |rangeFunc=>intros;rfl
 |exit=>intros;rfl
 |scope x ih=>intro k kx kr σ h;exact ih _ _ _ σ h
 |label=>intros;rfl
 |goto=>intros;rfl
 |ret=>intros;rfl
 |refuse=>intros;rfl
noncomputable def jK(E:Env)(κJ κL:Nat→St→Option α):List Nat→Code→List (St→Option α)→St→(St→Option α)→(Nat→St→Option α)→(St→Option α)→Option α
 |[],c,_,σ,k,kx,kr=>Nj E κJ κL c σ k kx kr
 |n::p,c,ks,σ,k,kx,kr=>match c with
  | .seq a b=>match n with
   |0=>jK E κJ κL p a ks σ (fun σ'=>qb ((bF b).bind E.rN) σ' (tL E.rN κJ (bF b) fun pR=>Nj E κJ κL b pR k kx kr)) kx kr
   |_=>jK E κJ κL p b ks σ k kx kr
  | .cond _ a b=>match n with
   |0=>jK E κJ κL p a ks σ k kx kr
   |_=>jK E κJ κL p b ks σ k kx kr
  | .block id c=>jK E κJ κL p c ks σ k (fun i σ'=>cond (Nat.beq i id) (k σ') (kx i σ')) kr
  | .loop b=>match ks with
   |κ::ks=>jK E κJ κL p b ks σ κ kx kr
   |[]=>none
  | .scope c=>jK E κJ κL p c ks σ k kx kr
  |_=>none
noncomputable def et(E:Env):List Nat→Code→List (St→Option α)→(St→Option α)→(Nat→St→Option α)→(St→Option α)→List (Bool×Nat×(St→Option α))
 |[],c,_,k,kx,kr=>yJ E c k kx kr
 |n::p,c,ks,k,kx,kr=>match c with
  | .seq a b=>match n with
   |0=>((bF b).toList.map fun i=>(false,i,fun pR=>xF E b pR k kx kr))++(yJ E b k kx kr++et E p a ks (fun σ'=>qb ((bF b).bind E.rN) σ' fun pR=>xF E b pR k kx kr) kx kr)
   |_=>et E p b ks k kx kr
  | .cond _ a b=>match n with
   |0=>et E p a ks k kx kr
   |_=>et E p b ks k kx kr
  | .block id c=>et E p c ks k (fun i σ'=>cond (Nat.beq i id) (k σ') (kx i σ')) kr
  | .loop b=>match ks with
   |κ::ks=>et E p b ks κ kx kr
   |[]=>[]
  | .scope c=>et E p c ks k kx kr
  |_=>[]
theorem jm{E:Env}{κJ κL:Nat→St→Option α}: ∀(p:List Nat) (c:Code) (ks:List (St→Option α)) (k:St→Option α) (kx:Nat→St→Option α) (kr:St→Option α) (σ:St),Aw E κJ κL (et E p c ks k kx kr)→
  jK E κJ κL p c ks σ k kx kr=pS E p c ks σ k kx kr
 |[],c,ks,k,kx,kr,σ,h=>Nk c k kx kr σ h
 |n::p,c,ks,k,kx,kr,σ,h=>by
  cases c with
  |seq a b=>
   cases n with
   |zero=>
    simp only[jK,pS,et]at h ⊢
    obtain⟨h1,h2⟩:=Aw.app h
    obtain⟨h2,h3⟩:=Aw.app h2
    rw[show(fun pR=>Nj E κJ κL b pR k kx kr)=fun pR=>xF E b pR k kx kr from funext fun pR=>Nk b k kx kr pR h2,WH h1]
    exact jm p a ks _ kx kr σ h3
   |succ n=>simp only[jK,pS,et]at h ⊢;exact jm p b ks k kx kr σ h
  |cond x a b=>
   cases n with
   |zero=>simp only[jK,pS,et]at h ⊢;exact jm p a ks k kx kr σ h
   |succ n=>simp only[jK,pS,et]at h ⊢;exact jm p b ks k kx kr σ h
  |block id x=>simp only[jK,pS,et]at h ⊢;exact jm p x ks k _ kr σ h
  |loop b=>
   cases ks with
   |nil=>simp only[jK,pS]
   |cons κ ks=>simp only[jK,pS,et]at h ⊢;exact jm p b ks κ kx kr σ h
  |scope x=>simp only[jK,pS,et]at h ⊢;exact jm p x ks k kx kr σ h
  |_=>simp only[jK,pS]
noncomputable def yK(fn:Func):Code:=fn.body.getD .skip
noncomputable def EC(E:Env)(fn:Func)(args res:List AM):St→Option (HP res):=fun σ=>B8 E res (fn.results.toList.map .inl++u2 args 0) σ some
noncomputable def nox:Nat→St→Option α:=fun _ _=>none
noncomputable def aqE:St→Option α:=fun _=>none
noncomputable def Yw(E:Env)(fn:Func)(args res:List AM)(p:List Nat)(ks:List (St→Option (HP res)))(σ:St):Option (HP res):=
 pS E p (yK fn) ks σ (EC E fn args res) nox (EC E fn args res)
noncomputable def atQ(E:Env)(fn:Func)(args res:List AM)(κJ κL:Nat→St→Option (HP res))(p:List Nat)(ks:List (St→Option (HP res)))(σ:St):Option (HP res):=
 jK E κJ κL p (yK fn) ks σ (EC E fn args res) nox (EC E fn args res)
noncomputable def QJ(E:Env)(fn:Func)(args res:List AM)(p:List Nat)(ks:List (St→Option (HP res))):List (Bool×Nat×(St→Option (HP res))):=
 et E p (yK fn) ks (EC E fn args res) nox (EC E fn args res)
theorem ajA{E:Env}{fn:Func}{args res:List AM}{κJ κL:Nat→St→Option (HP res)}{p:List Nat}{ks:List (St→Option (HP res))}(g:List (St→Option (HP res)))(h:qu E κJ κL (QJ E fn args res p ks)=g.map fun f=>(f,f))(σ:St):
 Yw E fn args res p ks σ=atQ E fn args res κJ κL p ks σ:=(jm p _ ks _ _ _ σ (Yv g h)).symm
theorem Yx{E:Env}{fn:Func}{args res:List AM}(hb:fn.body.isSome=true)(x:HP args):DY E fn args res x=Yw E fn args res [] [] (entry args x 0 S0):=by
 unfold DY Yw yK
 cases h:fn.body with
 |none=>rw[h]at hb;cases hb
 |some c=>rfl
noncomputable def lpF(E:Env)(fn:Func)(args res:List AM)(c:List (Nat×CM))(p:List Nat)(ks:List (St→Option (HP res)))(n:Nat):St→Option (HP res):=
 vT (some c) (fun σ kn=>Yw E fn args res p (ks++[kn]) σ) n
theorem Nl(E:Env)(fn:Func)(args res:List AM)(c:List (Nat×CM))(p:List Nat)(ks:List (St→Option (HP res)))(n:Nat)(σ:St):
 lpF E fn args res c p ks (n+1) σ=Yw E fn args res p (ks++[fun σ'=>qb (some c) σ' (lpF E fn args res c p ks n)]) σ:=rfl
def Nm{β:Type}(κ:Nat→β):List (Nat×β)→Prop
 |[]=>True
 |q::r=>κ q.1=q.2∧Nm κ r
def KZ{β:Type}:List (β×β)→Prop
 |[]=>True
 |q::r=>q.1=q.2∧KZ r
theorem KZ.mem{β:Type}: ∀{l:List (β×β)},KZ l→ ∀p∈l,p.1=p.2
 |q::r,h,p,hp=>by
  rcases List.mem_cons.1 hp with rfl|hp
  ·exact h.1
  ·exact KZ.mem h.2 p hp
theorem adK{β:Type}(d:β): ∀(l:List (Nat×β)),(l.map (·.1)).Nodup→ ∃κ:Nat→β,Nm κ l
 |[],_=>⟨fun _=>d,trivial⟩
 |q::r,h=>by
  rw[List.map_cons,List.nodup_cons]at h
  obtain⟨κ,hκ⟩:=adK d r h.2
  refine⟨fun i=>if i=q.1 then q.2 else κ i,by simp,?_⟩
  have key: ∀(r':List (Nat×β)),(∀p∈r',p∈r)→Nm κ r'→Nm (fun i=>if i=q.1 then q.2 else κ i) r':=by
   intro r'
   induction r' with
   |nil=>intros;trivial
   |cons p r' ih=>
    intro hm ha
    refine⟨?_,ih (fun p' AV=>hm p' (List.mem_cons_of_mem _ AV)) ha.2⟩
    have g7:p.1≠q.1:=fun e=>h.1 (e▸List.mem_map_of_mem (hm p (List.mem_cons_self ..)))
    show(if p.1=q.1 then q.2 else κ p.1)=p.2
    rw[if_neg g7]
    exact ha.1
  exact key r (fun _ h=>h) hκ
theorem aoi{β:Type}(d:β)(l:List (Nat×β)){ks:List Nat}(h:l.map (·.1)=ks)(hd:ks.Nodup): ∃κ:Nat→β,Nm κ l:=adK d l (h▸hd)
theorem at_eq(E:Env)(fn:Func)(args res:List AM){κJ κL:Nat→St→Option (HP res)}{p:List Nat}{ks:List (St→Option (HP res))}{l:List ((St→Option (HP res))×(St→Option (HP res)))}(h:qu E κJ κL (QJ E fn args res p ks)=l)(hl:KZ l)(σ:St):
 Yw E fn args res p ks σ=atQ E fn args res κJ κL p ks σ:=(jm p _ ks _ _ _ σ (by unfold Aw;rw[show qu E κJ κL (et E p (yK fn) ks (EC E fn args res) nox (EC E fn args res))=l from h];exact hl.mem)).symm
end VM
end
section
namespace VM
open Go Go.RowKit
variable{P:Program}
def ED(i:Nat):List (Nat×Ty)→Option Ty
 |[]=>none
 |q::r=>cond (Nat.beq i q.1) (some q.2) (ED i r)
theorem Be{i:Nat}{τ:Ty}: ∀{l:List (Nat×Ty)},ED i l=some τ→(i,τ)∈l
 |q::r,h=>by
  unfold ED at h
  cases hb:Nat.beq i q.1<;>rw[hb]at h
  ·exact List.mem_cons_of_mem _ (Be h)
  ·cases h;rw[Nat.eq_of_beq_eq_true hb];exact List.mem_cons_self ..
structure yL(P:Program)(tab:List (Nat×Ty)):Prop where
 ok:adF P tab=true
 mixed:P.follows .mixedOrders=true
theorem K0{E:Env}(hE:nG P E)(ajC:E.io=[]){f:FuncId}{fn:Func}(hf:P.funcs[f]? =some fn)(τs:List Ty)
  (hc:(Nat.beq E.nt fn.ntmps&&Nat.ble τs.length E.nt)=true) {w:World} {vs:List Value} {x:HP (τs.map .v)} (hA:fN w (fun _=>False) (τs.map .v) x vs)
  (h:DY E fn (τs.map .v) [.v .bool] x=some true):Calls P f vs.toArray w fun e w'=>e= .returned (.bool true)∧Below w.heap.size w w':=by
 rw[Bool.and_eq_true]at hc
 have hnt:=Nat.eq_of_beq_eq_true hc.1
 have hlen:=Nat.le_of_ble_eq_true hc.2
 have hh: ∀(τs:List Ty) (vs:List Value),cA (τs.map .v) vs=[]:=by
  intro τs
  induction τs with
  |nil=>intro vs;cases vs<;>rfl
  |cons τ τs ih=>intro vs;cases vs with
   |nil=>rfl
   |cons v vs=>simp[cA,cm,ih]
 have hi: ∀(τs:List Ty) (vs:List Value),dm (τs.map .v) vs=[]:=by
  intro τs
  induction τs with
  |nil=>intro vs;cases vs<;>rfl
  |cons τ τs ih=>intro vs;cases vs with
   |nil=>rfl
   |cons v vs=>simp[dm,AM.fD,ih]
 refine(Ba (M0:=fun _=>False) (vs:=vs) hE hf hnt (fun i m hm ra=> ?_) (fun i hi=>by rw[ajC]at hi;cases hi) (by rw[List.length_map];rw[←hnt];exact hlen) (fun b hb=>hb.elim) (by rw[hh];simpa using hA) (by rw[hh];exact List.nodup_nil) (fun b _ hb=>hb) h).mono ?_
 ·rw[List.getElem?_map]at hm
  obtain⟨τ,_,rfl⟩:=Option.map_eq_some_iff.1 hm
  cases ra
 ·rintro e w' ⟨v,rfl,us,M',rfl,Mg,hL,_,_⟩
  rw[hh]at hL
  rw[hi]at Mg
  simp only[RR]at Mg
  rcases Mg with⟨p,Ap,h1,_⟩|⟨v,DF,_,_,rfl,hv,rfl,_⟩
  ·cases h1
  ·refine⟨?_,hL.os,hL.tape,hL.output,hL.size,fun b hb=>hL.frame b hb (by simp)⟩
   have:v= .bool true:=by
    simp only[A1,V,Ty.isAgg,Bool.false_eq_true,if_false,Rd,List.cons.injEq,and_true]at hv
    exact hv
   rw[this];rfl
def Nn(P:Program):List Ty→List TypeId→Bool
 |[],[]=>true
 |τ::τs,t::ts=>(oq P τ (.inl t)&&τ.ll)&&((P.readableRec t&&decide (t<P.types.size))&&Nn P τs ts)
 |_,_=>false
theorem Cw: ∀{τs:List Ty} {ts:List TypeId},Nn P τs ts=true→τs.length=ts.length∧ ∀(j:Nat) τ t,τs[j]? =some τ→ts[j]? =some t→(gu P τ t∧τ.ll=true∧P.readableRec t=true∧t<P.types.size)
 |[],[],_=>⟨rfl,fun j τ t h=>by simp at h⟩
 |τ::τs,t::ts,h=>by
  simp only[Nn,Bool.and_eq_true]at h
  obtain⟨⟨h1,h2⟩,⟨h3,h4⟩,h5⟩:=h
  obtain⟨hl,ih⟩:=Cw h5
  refine⟨by simp[hl],fun j τ' t' ha hb=> ?_⟩
  cases j with
  |zero=>
   simp only[List.getElem?_cons_zero,Option.some.injEq]at ha hb
   subst ha;subst hb
   exact⟨dY h1,h2,h3,of_decide_eq_true h4⟩
  |succ j=>exact ih j τ' t' (by simpa using ha) (by simpa using hb)
 |[],_::_,h|_::_,[],h=>by simp[Nn]at h
theorem No{H:Type}{enc:TypeId×Value→H}{w:World}{fn:Func}{args:Array Value}{ds:List (DataW H)}{ps:List MemPlace}{r:Reach}{b0:Nat}(laid:laidOutB P=true)(τs:List Ty)
  (hA:DataW.TrodAll enc P w 0 (fun _=>true) true fn.params.toList args.toList ds ps) (Aj:Nn P τs fn.params.toList=true)
  (hv: ∀(j:Nat) t v,fn.params[j]? =some t→args[j]? =some v→Value.okWide P w r b0 t v):
  (∃x:HP (τs.map .v),fN w (fun _=>False) (τs.map .v) x args.toList∧WFs τs x)∧ ∀w',Below w.heap.size w w'→ ∃Ap,DataW.TrodAll enc P w' 0 (fun b=>decide (b<w.heap.size)) true fn.params.toList args.toList ds Ap:=
 Bd laid hA (Cw Aj).1 (Cw Aj).2 (fun j t v h h'=>hv j t v (by rw[Array.getElem?_toList]at h;exact h) (by rw[Array.getElem?_toList]at h';exact h'))
end VM
end
