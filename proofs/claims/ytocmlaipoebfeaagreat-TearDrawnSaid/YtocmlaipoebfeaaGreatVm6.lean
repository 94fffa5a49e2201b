/- A part of the proof of TearDrawn of layer 29: a machine that reads a function of the program as an equation between values. -/
import Derived.Test.YtocmlaipoebfeaaGreatVm5
import Derived.Laws.StructEq
import Derived.OpenShut
import Derived.ChangeShapes
import Derived.ChangeMaps5
import Derived.RowKit
import Derived.ChangeOld
import Derived.Carry
import Derived.Below
import Derived.Test.YtocmlaipoebfeaaGreatVm0
set_option linter.all false
section
namespace VM
open Go
variable{P:Program}{E:Env}{o:Oper}{a:Act}{w:World}{M:Nat→Prop}{ν:Nat→Value}{σ:St}{c:Ctx}{α:Type}{r:α}{next:Act→World→Prop}{Q:Exit→Act→World→Prop}
theorem wJ{L:Option (List (Nat×CM))}(hL: ∀L',L=some L'→gd L'=true){b:Code}{Q:Exit→Act→World→Prop}{step:St→(St→Option α)→Option α}
  (hs: ∀σ a w kn (Q':Exit→Act→World→Prop),Inv c E σ a w→step σ kn=some r→(∀σ' a' w',kn σ'=some r→Inv c E σ' a' w'→Q' .normal a' w')→(∀e a' w',e≠ .normal→Q e a' w'→Q' e a' w')→b.wp P Q' a w):
  ∀n σ a w,Inv c E σ a w→wu L step n σ=some r→Code.rounds P b Q n a w
 |0,σ,a,w,_,h=>by cases h
 |n+1,σ,a,w,hI,h=>by
  rw[rounds_succ]
  refine hs σ a w _ _ hI h (fun σ' a' w' h' sF=> ?_) (fun e a' w' he hq=> ?_)
  ·obtain⟨qc,J2,Zw⟩:=sU sF hL h'
   exact wJ hL hs n qc a' w' Zw J2
  ·cases e<;>first|exact hq|exact absurd rfl he
theorem Ly(hE:nW P E): ∀(cd:Code) (σ:St) (a:Act) (w:World) (k:St→Option α) (kx:Nat→St→Option α) (kr:St→Option α) (Q:Exit→Act→World→Prop),Inv c E σ a w→xX E cd σ k kx kr=some r→
  (∀σ' a' w',k σ'=some r→Inv c E σ' a' w'→Q .normal a' w')→(∀i σ' a' w',kx i σ'=some r→Inv c E σ' a' w'→Q (.exit i) a' w')→(∀σ' a' w',kr σ'=some r→Inv c E σ' a' w'→Q .ret a' w')→cd.wp P Q a w:=by
 intro cd
 induction cd with
 |skip=>intro σ a w k kx kr Q hI h hk _ _;exact wp_skip (hk σ a w h hI)
 |region id ops draw=>intro σ a w k kx kr Q hI h hk _ _;exact AZ hE hI h hk
 |seq x y ihx ihy=>
  intro σ a w k kx kr Q hI h hk hx hr
  refine wp_seq (ihx σ a w _ kx kr _ hI h (fun σ' a' w' h' sF=> ?_) hx hr)
  obtain⟨qc,J2,Zw⟩:=sU sF (fun L' hL=>by
   cases hf:bG y with
   |none=>rw[hf]at hL;cases hL
   |some i=>rw[hf]at hL;exact hE.NL i L' hL) h'
  exact ihy qc a' w' k kx kr Q Zw J2 hk hx hr
 |cond x t e iht ihe=>
  intro σ a w k kx kr Q hI h hk hx hr
  obtain⟨b,hb,h⟩:=EN (E:=E) (A:=fun σ'=>xX E t σ' k kx kr) (B:=fun σ'=>xX E e σ' k kx kr) hI h
  refine wp_cond hb ?_
  cases b
  ·exact ihe σ a w k kx kr Q hI h hk hx hr
  ·exact iht σ a w k kx kr Q hI h hk hx hr
 |block id x ih=>
  intro σ a w k kx kr Q hI h hk hx hr
  refine wp_block (ih σ a w k _ kr _ hI h hk (fun i σ' a' w' h' sF=> ?_) hr)
  show if i=id then Q .normal a' w' else Q (.exit i) a' w'
  cases hb:Nat.beq i id
  ·have g9:i≠id:=fun e=>by subst e;rw[show Nat.beq i i=true from Nat.beq_refl i]at hb;cases hb
   rw[hb]at h'
   rw[if_neg g9]
   exact hx i σ' a' w' h' sF
  ·rw[hb]at h'
   rw[if_pos (Nat.eq_of_beq_eq_true hb)]
   exact hk σ' a' w' h' sF
 |loop b ih=>
  intro σ a w k kx kr Q hI h hk hx hr
  have hL: ∀L',(bG b).bind E.qt=some L'→gd L'=true:=fun L' hL=>by
   cases hf:bG b with
   |none=>rw[hf]at hL;cases hL
   |some i=>rw[hf]at hL;exact hE.gd i L' hL
  obtain⟨σ',h',sF⟩:=sU hI hL h
  refine wp_loop_rounds E.N (wJ hL (fun σ a w kn Q' hI h hkn hq=> ?_) E.N σ' a w sF h')
  exact ih σ a w kn kx kr Q' hI h hkn (fun i σ' a' w' h' sF=>hq _ _ _ (by simp) (hx i σ' a' w' h' sF)) (fun σ' a' w' h' sF=>hq _ _ _ (by simp) (hr σ' a' w' h' sF))
 |rangeFunc f ps x y ihx ihy=>intro σ a w k kx kr Q hI h;cases h
 |exit id=>intro σ a w k kx kr Q hI h hk hx hr;exact wp_exit (hx id σ a w h hI)
 |scope x ih=>
  intro σ a w k kx kr Q hI h hk hx hr
  exact wp_scope_straight (ih σ a w k kx kr _ hI h hk hx hr)
 |label l=>intro σ a w k kx kr Q hI h hk _ _;exact wp_label (hk σ a w h hI)
 |goto l=>intro σ a w k kx kr Q hI h;cases h
 |ret=>intro σ a w k kx kr Q hI h hk hx hr;exact wp_ret (hr σ a w h hI)
 |refuse s=>intro σ a w k kx kr Q hI h;cases h
end VM
end
section
namespace VM
open Go
variable{P:Program}{E:Env}{o:Oper}{a:Act}{w:World}{M:Nat→Prop}{ν:Nat→Value}{σ:St}{c:Ctx}{α:Type}{r:α}{next:Act→World→Prop}{Q:Exit→Act→World→Prop}
theorem Ix{m:AM}{ms:List AM}(x:HP (m::ms))(i:Nat)(σ:St):entry (m::ms) x i σ=entry ms (vj x) (i+1) (Ih m (qn x) i σ):=by
 cases ms with
 |nil=>simp[entry,qn]
 |cons n ms=>simp[entry,qn,vj]
theorem Core.wE{tm:Array Value}(h:Core c σ tm w M ν){id:Nat}{v:Value}{e:aP}(aT:σ.H id=none)(K5:ER w M v e)
  (hd: ∀b,ej v=some b→ ∀i e',σ.H i=some e'→e'.mut→ej (ν i)≠some b) (hn: ∀b,ej v=some b→c.B≤b∨c.may b) (ho: ∀b e0 l0,e= .own e0 l0→ej v=some b→ ¬c.M0 b)
  (oG: ∀τ x p j,e= .dP τ x p j→bm σ.H id (some e) j≠none∧ ∃b,v= .pointer (some ⟨b,0,none⟩)∧w.cell? ⟨b,bC p τ,none⟩=some (cj ν id v j):=by intro _ _ _ _ h;cases h):
  Core c ⟨σ.T,bm σ.H id (some e)⟩ tm w M (cj ν id v):=by
 have hm:=Mem.wE h.mem (id:=id) (v:=v) (e:=e) (fun e' sD=>by rw[aT]at sD;cases sD) K5 hd hn ho (.inl aT) oG
 refine h.tr ⟨hm,.refl w M,⟨fun i e1 hi=> ?_,fun i hi=> ?_⟩⟩
 ·have bq:i≠id:=fun e=>by rw[e,aT]at hi;cases hi
  exact⟨e1,by rw[an _ _ bq];exact hi,.refl e1⟩
 ·have bq:i≠id:=fun e=>hi (e▸aT)
  simp[cj,bq]
theorem Core.put{tm:Array Value}(h:Core c σ tm w M ν){d:Nat}{x:aY}(hx:VR w M σ.H ν x (tm.getD d undef)):Core c (σ.put d x) tm w M ν:=by
 refine⟨h.mem,fun i=> ?_⟩
 by_cases hi:i=d
 ·subst hi;rw[pa];exact hx
 ·rw[tZ _ _ hi];exact h.tmp i
theorem wK{tm:Array Value}: ∀{ms:List AM} {x:HP ms} {vs:List Value} {i:Nat} {σ:St} {ν:Nat→Value} {used:List Nat},Core c σ tm w M ν→fR w M ms x vs→(∀j v,vs[j]? =some v→tm.getD (i+j) undef=v)→
  (∀j,16*i≤j→σ.H j=none)→(∀j e b,σ.H j=some e→e.mut→ej (ν j)=some b→b∈used)→(used++cG ms vs).Nodup→(∀b∈cG ms vs,c.may b)→(∀b,c.may b→ ¬c.M0 b)→
  ∃ν',Core c (entry ms x i σ) tm w M ν'
 |[],x,vs,i,σ,ν,used,h,_,_,_,_,_,_,_=>⟨ν,h⟩
 |m::ms,x,vs,i,σ,ν,used,h,hA,HY,ib,Bz,tY,Iy,Er=>by
  rw[Ix]
  simp only[fR]at hA
  obtain⟨v,D5,rfl,h1,h2⟩:=hA
  have hv:tm.getD i undef=v:=by simpa using HY 0 v rfl
  have EY: ∀j u,D5[j]? =some u→tm.getD (i+1+j) undef=u:=fun j u hj=>by
   have:=HY (j+1) u (by simpa using hj)
   rwa [show i+(j+1)=i+1+j from by omega]at this
  have aT:σ.H (16*i+15)=none:=ib _ (by omega)
  have Zx:cG (m::ms) (v::D5)=ct m v++cG ms D5:=rfl
  rw[Zx]at tY Iy
  have qH: ∀b,b∈ct m v→ ∀j e',σ.H j=some e'→e'.mut→ej (ν j)≠some b:=fun b hb j e' hj gD dw=>
   mh tY (Bz j e' b hj gD dw) (List.mem_append_left _ hb)
  have sE: ∀{σ':St} {ν':Nat→Value},Core c σ' tm w M ν'→(∀j,16*(i+1)≤j→σ'.H j=none)→(∀j e b,σ'.H j=some e→e.mut→ej (ν' j)=some b→b∈used++ct m v)→ ∃ν'',Core c (entry ms (vj x) (i+1) σ') tm w M ν'':=
   fun h' xk RE=>wK h' h2 EY xk RE (by rw[List.append_assoc];exact tY) (fun b hb=>Iy b (List.mem_append_right _ hb)) Er
  have Lq: ∀(e:aP) (v':Value),v'=v→(∀b,ej v=some b→b∈ct m v)→(∀j,16*(i+1)≤j→bm σ.H (16*i+15) (some e) j=none)∧
    (∀j e1 b,bm σ.H (16*i+15) (some e) j=some e1→e1.mut→ej (cj ν (16*i+15) v' j)=some b→b∈used++ct m v):=by
   rintro e v' rfl hb
   refine⟨fun j hj=>by rw[an _ _ (by omega)];exact ib j (by omega),fun j e1 b hj gD dw=> ?_⟩
   by_cases sX:j=16*i+15
   ·subst sX
    simp only[cj,if_true]at dw
    exact List.mem_append_right _ (hb b dw)
   ·rw[an _ _ sX]at hj
    simp only[cj,sX,if_false]at dw
    exact List.mem_append_left _ (Bz j e1 b hj gD dw)
  cases m with
  |v τ=>
   refine sE (σ':=σ.put i (.val τ (qn x))) (h.put ?_) (fun j hj=>ib j (by omega)) (fun j e b hj gD dw=>List.mem_append_left _ (Bz j e b hj gD dw))
   simp only[VR,hv];exact h1
  |fn f τ=>
   refine sE (σ':=σ.put i (.Eg f (lF τ (qn x)))) (h.put ?_) (fun j hj=>ib j (by omega)) (fun j e b hj gD dw=>List.mem_append_left _ (Bz j e b hj gD dw))
   rw[hv]
   simp only[A1,VR]at h1 ⊢
   obtain⟨us,hu,HS⟩:=h1
   exact⟨us,hu,fF.free HS⟩
  |own e=>
   have sm: ∀b,ej v=some b→b∈ct (.own e) v:=fun b hb=>by simp[ct,hb]
   have hc:=h.wE aT (v:=v) (e:= .own e (qn x)) h1 (fun b hb=>qH b (sm b hb)) (fun b hb=> .inr (Iy b (List.mem_append_left _ (sm b hb)))) (fun b _ _ _ hb=>Er b (Iy b (List.mem_append_left _ (sm b hb))))
   obtain⟨xk,RE⟩:=Lq (.own e (qn x)) v rfl sm
   refine sE (σ':=(σ.put i (.ref (16*i+15))).gX (16*i+15) (some (.own e (qn x)))) (ν':=cj ν (16*i+15) v) (hc.put (d:=i) (x:= .ref (16*i+15)) ?_) xk RE
   simp only[VR,hv]
   exact⟨by rw[ak];simp,by simp[cj]⟩
  |io τ=>
   have sm: ∀b,ej v=some b→b∈ct (.io τ) v:=fun b hb=>by simp[ct,hb]
   have hc:=h.wE aT (v:=v) (e:= .obj τ (qn x)) h1 (fun b hb=>qH b (sm b hb)) (fun b hb=> .inr (Iy b (List.mem_append_left _ (sm b hb)))) (fun b _ _ he=>by cases he)
   obtain⟨xk,RE⟩:=Lq (.obj τ (qn x)) v rfl sm
   refine sE (σ':=(σ.put i (.fD (16*i+15) [])).gX (16*i+15) (some (.obj τ (qn x)))) (ν':=cj ν (16*i+15) v) (hc.put (d:=i) (x:= .fD (16*i+15) []) ?_) xk RE
   simp only[A1,ER]at h1
   obtain⟨b,cs,t,NI,_⟩:=h1
   simp only[VR,hv]
   exact⟨_,ak _ _ _,trivial,b,by simp[cj,NI],NI⟩
  |fD τ=>
   refine sE (σ':=σ.put i (.my τ (qn x))) (h.put ?_) (fun j hj=>ib j (by omega)) (fun j e b hj gD dw=>List.mem_append_left _ (Bz j e b hj gD dw))
   rw[hv]
   simp only[A1,VR]at h1 ⊢
   exact h1
  |ptr τ=>
   refine sE (σ':=σ) h (fun j hj=>ib j (by omega)) (fun j e b hj gD dw=>List.mem_append_left _ (Bz j e b hj gD dw))
def qI(tm:Array Value):ResultVar→Sem Value
 | .tmp t=>pure (tm.getD t undef)
 | .cell x t=>do loadVar t (←asAddr (tm.getD x undef))
def xx(P:Program)(tm:Array Value)(w:World)(rv:ResultVar)(u:Value):Prop:=(qI tm rv).run P w= .ok u w
def D7(P:Program)(tm:Array Value)(w:World):List (ResultVar ⊕ Nat)→List Value→List Value→Prop
 |[],us,ps=>us=[]∧ps=[]
 | .inl rv::rs,us,ps=> ∃u CP,us=u::CP∧xx P tm w rv u∧D7 P tm w rs CP ps
 | .inr i::rs,us,ps=> ∃p AU,ps=p::AU∧p=tm.getD i undef∧D7 P tm w rs us AU
theorem Core.RF{tm:Array Value}{H1:Nat→Option aP}{M1:Nat→Prop}(h: ∀i,VR w M σ.H ν (σ.T i) (tm.getD i undef))(k:di w M w M1)(g:oe σ.H ν H1 ν): ∀i,VR w M1 H1 ν (σ.T i) (tm.getD i undef):=
 fun i=>VR.bs k g (h i)
theorem wL(hE:EnvTy P E){tm:Array Value}{H0 Hq:Nat→Option aP}{M1:Nat→Prop}{uo uf:fl}{io:List (Nat×Ty)}{hs:List Nat}(h:ia c w M ν H0 σ.H Hq M1 uo uf io hs)(ht: ∀i,VR w M1 σ.H ν (σ.T i) (tm.getD i undef))
  {m:AM} {rs:ResultVar ⊕ Nat} {k:m.den→St→Option α} (hk:Bl E m rs σ k=some r):
  ∃y σ' DZ D0 Ax M6 M2 u,k y σ'=some r∧σ'.T=σ.T∧ia c w M ν H0 σ'.H M6 M2 DZ D0 Ax (hs++ct m u)∧di w M1 w M2∧oe σ.H ν σ'.H ν∧A1 w M2 m y u∧
   ((m.fG=false∧m.Rn=false∧ ∃rv,rs= .inl rv∧xx P tm w rv u)∨(m.fG=true∧ ∃i,rs= .inr i∧u=tm.getD i undef)):=by
 unfold Bl at hk
 split at hk
 ·
  rename_i τ t k
  obtain⟨y,rd,ups,hk,hy⟩:=yb h.mem (ht t) hk
  have Iz:xx P tm w (.tmp t) (tm.getD t undef):=by simp[xx,qI]
  rcases hy with⟨rfl,hV⟩|⟨id,e,l,rfl,aT,hV⟩
  ·exact⟨y,σ,uo,uf,io,Hq,M1,_,hk,rfl,by simpa [ct]using h,.refl w M1,.refl _ ν,hV,.inl ⟨rfl,rfl,_,rfl,Iz⟩⟩
  ·obtain⟨M2,hA,hK,CF⟩:=h.freeze aT
   exact⟨y,_,uo,_,io,Hq,M2,_,hk,rfl,(by simp only[ct,List.append_nil];exact hA),hK,.Zh aT ⟨rfl,rfl⟩,hV M2 CF,.inl ⟨rfl,rfl,_,rfl,Iz⟩⟩
 ·
  rename_i τ x t k
  split at hk
  ·rename_i τ' AL
   obtain⟨e1,Zi⟩:=dG hk
   clear hk
   subst e1
   obtain⟨υ,z,rd,hk,b,off,cs,hv,lL,gV⟩:=wy h.mem (ht x) Zi
   obtain⟨e2,QP⟩:=a7 hk
   subst e2
   refine⟨_,σ,uo,uf,io,Hq,M1,bF _ cs,QP,rfl,by simpa [ct]using h,.refl w M1,.refl _ ν,V.bF gV,.inl ⟨rfl,rfl,_,rfl,?_⟩⟩
   simp only[xx,qI,hv]
   simp[asAddr,wx (hE.ty t _ AL) lL gV]
  ·cases hk
 ·
  rename_i e t k
  have hv:=ht t
  have Iz:xx P tm w (.tmp t) (tm.getD t undef):=by simp[xx,qI]
  split at hk
  ·rename_i hT
   rw[hT]at hv
   obtain⟨ad,hv⟩:=VR.emp.1 hv
   have hb:ej (.slice ad 0 0)=none:=by cases ad<;>simp[ej]
   exact⟨[],σ,uo,uf,io,Hq,M1,_,hk,rfl,by rw[hv];simpa [ct,hb]using h,.refl w M1,.refl _ ν,by rw[hv];simp only[A1,ER];exact .inl ⟨trivial,ad,rfl⟩,.inl ⟨rfl,rfl,_,rfl,Iz⟩⟩
  ·rename_i id hT
   rw[hT]at hv
   simp only[VR]at hv
   split at hk
   ·rename_i e' l aT
    obtain⟨e1,hk⟩:=a7 hk
    cases e1
    refine⟨_,_,_,uf,io,_,M1,ν id,hk,rfl,(by simp only[ct];exact h.hand aT),.refl w M1,.Zh aT (aP.ka _),h.mem.iO id _ aT,.inl ⟨rfl,rfl,_,rfl,by rw[←hv.2];exact Iz⟩⟩
   ·cases hk
  ·cases hk
 ·
  rename_i τ i k
  have hv:=ht i
  split at hk
  ·rename_i id hT
   rw[hT]at hv
   split at hk
   ·rename_i υ z aT
    obtain⟨e1,hk⟩:=a7 hk
    subst e1
    simp only[VR]at hv
    obtain⟨e,he,jJ⟩:=hv
    rw[aT]at he;cases he
    simp only[AR]at jJ
    obtain⟨_,b,hb,hv⟩:=jJ
    have NI:tm.getD i undef=ν id:=by rw[hv,hb];rfl
    refine⟨_,_,uo,uf,_,_,M1,ν id,hk,rfl,(by simp only[ct];exact h.Zg aT),.refl w M1,.Zh aT (aP.ka _),h.mem.iO id _ aT,.inr ⟨rfl,i,rfl,NI.symm⟩⟩
   ·cases hk
  ·cases hk
 ·
  rename_i τ t k
  have hv:=ht t
  have Iz:xx P tm w (.tmp t) (tm.getD t undef):=by simp[xx,qI]
  split at hk
  ·rename_i id hT
   rw[hT]at hv
   split at hk
   ·rename_i υ z aT
    obtain⟨e1,hk⟩:=a7 hk
    subst e1
    simp only[VR]at hv
    obtain⟨e,he,jJ⟩:=hv
    rw[aT]at he;cases he
    simp only[AR]at jJ
    obtain⟨_,b,hb,hv⟩:=jJ
    have NI:tm.getD t undef=ν id:=by rw[hv,hb];rfl
    refine⟨_,_,uo,uf,_,_,M1,ν id,hk,rfl,(by simp only[ct];exact h.Zg aT),.refl w M1,.Zh aT (aP.ka _),h.mem.iO id _ aT,.inl ⟨rfl,rfl,_,rfl,by rw[←NI];exact Iz⟩⟩
   ·cases hk
  ·cases hk
 ·cases hk
theorem y3(hE:EnvTy P E){tm:Array Value}{H0:Nat→Option aP}: ∀{ms:List AM} {rs:List (ResultVar ⊕ Nat)} {σ:St} {Hq:Nat→Option aP} {M1:Nat→Prop} {uo uf:fl} {io:List (Nat×Ty)} {hs:List Nat} {K:HP ms→Option α},
  ia c w M ν H0 σ.H Hq M1 uo uf io hs→(∀i,VR w M1 σ.H ν (σ.T i) (tm.getD i undef))→Cy E ms rs σ K=some r→
  ∃y us ps H2 DZ D0 Ax M6 M2,K y=some r∧ia c w M ν H0 H2 M6 M2 DZ D0 Ax (hs++a8 ms us ps)∧di w M1 w M2∧RR w M2 ms y us ps∧D7 P tm w rs us ps
 |[],[],σ,Hq,M1,uo,uf,io,hs,K,h,ht,hk=>⟨(),[],[],σ.H,uo,uf,io,Hq,M1,hk,by simpa [a8]using h,.refl w M1,⟨rfl,rfl⟩,⟨rfl,rfl⟩⟩
 |[m],[q],σ,Hq,M1,uo,uf,io,hs,K,h,ht,hk0=>by
  obtain⟨y,σ',DZ,D0,Ax,M6,M2,u,hk,hT,hA,hK,hG,hy,hu⟩:=wL hE h ht (hk0:Bl E m q σ _=some r)
  clear hk0
  rcases hu with⟨h1,h2,rv,rfl,hv⟩|⟨h1,i,rfl,hv⟩
  ·refine⟨y,[u],[],_,_,_,_,_,M2,hk,by simpa [a8,h1]using hA,hK,?_,?_⟩
   ·simp only[RR];exact .inr ⟨u,[],h1,h2,rfl,hy,by simp⟩
   ·simp only[D7];exact⟨u,[],rfl,hv,by simp⟩
  ·refine⟨y,[],[u],_,_,_,_,_,M2,hk,by simpa [a8,h1]using hA,hK,?_,?_⟩
   ·simp only[RR];exact .inl ⟨u,[],h1,rfl,hy,by simp⟩
   ·simp only[D7];exact⟨u,[],rfl,hv,by simp⟩
 |m::n::ms,q::rs,σ,Hq,M1,uo,uf,io,hs,K,h,ht,hk0=>by
  obtain⟨y,σ',DZ,D0,Ax,M6,M2,u,Zi,hT,hA,hK,hG,hy,hu⟩:=wL hE h ht (hk0:Bl E m q σ _=some r)
  obtain⟨ys,us,ps,H3,uo3,uf3,io3,Hq3,M3,hk,hA3,hK3,hys,hrs⟩:=y3 (ms:=n::ms) hE hA (fun i=>by rw[hT];exact Core.RF ht hK hG i) Zi
  have Bv:A1 w M3 m y u:=A1.qG hK3 (fun b hb=>⟨rfl,hA3.hM b (List.mem_append_left _ (List.mem_append_right _ hb))⟩) hy
  clear hk0
  rcases hu with⟨h1,h2,rv,rfl,hv⟩|⟨h1,i,rfl,hv⟩
  ·refine⟨(y,ys),u::us,ps,H3,uo3,uf3,io3,Hq3,M3,hk,?_,hK.trans hK3,?_,?_⟩
   ·have:a8 (m::n::ms) (u::us) ps=ct m u++a8 (n::ms) us ps:=by rw[a8];simp[h1]
    rw[this,←List.append_assoc];exact hA3
   ·rw[RR];exact .inr ⟨u,us,h1,h2,rfl,Bv,hys⟩
   ·simp only[D7];exact⟨u,us,rfl,hv,hrs⟩
  ·refine⟨(y,ys),us,u::ps,H3,uo3,uf3,io3,Hq3,M3,hk,?_,hK.trans hK3,?_,?_⟩
   ·have:a8 (m::n::ms) us (u::ps)=ct m u++a8 (n::ms) us ps:=by rw[a8];simp[h1]
    rw[this,←List.append_assoc];exact hA3
   ·rw[RR];exact .inl ⟨u,ps,h1,rfl,Bv,hys⟩
   ·simp only[D7];exact⟨u,ps,rfl,hv,hrs⟩
 |[],_::_,_,_,_,_,_,_,_,_,_,_,hk=>by simp[Cy]at hk
 |[_],[],_,_,_,_,_,_,_,_,_,_,hk=>by simp[Cy]at hk
 |[_],_::_::_,_,_,_,_,_,_,_,_,_,_,hk=>by simp[Cy]at hk
 |_::_::_,[],_,_,_,_,_,_,_,_,_,_,hk=>by simp[Cy]at hk
end VM
end
section
namespace VM
open Go
variable{P:Program}{E:Env}{o:Oper}{a:Act}{w:World}{M:Nat→Prop}{ν:Nat→Value}{σ:St}{c:Ctx}{α:Type}{r:α}{next:Act→World→Prop}{Q:Exit→Act→World→Prop}
theorem BA{tm:Array Value}: ∀{rv:List ResultVar} {is:List (ResultVar ⊕ Nat)} {us ps:List Value},D7 P tm w (rv.map .inl++is) us ps→
  ∃QT us2,us=QT++us2∧QT.length=rv.length∧(∀i (h:i<rv.length) (h':i<QT.length),xx P tm w rv[i] QT[i])∧D7 P tm w is us2 ps
 |[],is,us,ps,h=>⟨[],us,rfl,rfl,fun i h=>by simp at h,h⟩
 |rv::rvs,is,us,ps,h=>by
  simp only[List.map_cons,List.cons_append,D7]at h
  obtain⟨u,CP,rfl,h1,h2⟩:=h
  obtain⟨QT,us2,rfl,hl,h3,h4⟩:=BA h2
  refine⟨u::QT,us2,rfl,by simp[hl],fun i hi iF=> ?_,h4⟩
  cases i with
  |zero=>exact h1
  |succ i=>exact h3 i (by simpa using hi) (by simpa using iF)
theorem sY{tm:Array Value}: ∀{ms:List AM} {vs:List Value} {i:Nat} {us ps:List Value},vs.length=ms.length→(∀j v m,vs[j]? =some v→ms[j]? =some m→m.fG=true→tm.getD (i+j) undef=v)→D7 P tm w (vr ms i) us ps→us=[]∧ps=du ms vs
 |[],vs,i,us,ps,_,_,h=>by simp only[vr,D7]at h;simpa [du]using h
 |m::ms,[],_,_,_,hl,_,_=>by simp at hl
 |m::ms,v::vs,i,us,ps,hl,HY,h=>by
  have EY: ∀j u m,vs[j]? =some u→ms[j]? =some m→m.fG=true→tm.getD (i+1+j) undef=u:=fun j u m hj hm rC=>by
   have:=HY (j+1) u m (by simpa using hj) (by simpa using hm) rC
   rwa [show i+(j+1)=i+1+j from by omega]at this
  have D1:vs.length=ms.length:=by simpa using hl
  cases m with
  |io τ=>
   simp only[vr,D7]at h
   obtain⟨p,AU,rfl,hp,h⟩:=h
   obtain⟨h1,h2⟩:=sY D1 EY h
   refine⟨h1,?_⟩
   have:=HY 0 v (.io τ) rfl rfl rfl
   simp only[Nat.add_zero]at this
   simp[du,AM.fG,h2,hp,this]
  |v τ=>
   obtain⟨h1,h2⟩:=sY D1 EY (show D7 P tm w (vr ms (i+1)) us ps from h)
   exact⟨h1,by simp[du,AM.fG,h2]⟩
  |own τ=>
   obtain⟨h1,h2⟩:=sY D1 EY (show D7 P tm w (vr ms (i+1)) us ps from h)
   exact⟨h1,by simp[du,AM.fG,h2]⟩
  |fn f τ=>
   obtain⟨h1,h2⟩:=sY D1 EY (show D7 P tm w (vr ms (i+1)) us ps from h)
   exact⟨h1,by simp[du,AM.fG,h2]⟩
  |fD τ=>
   obtain⟨h1,h2⟩:=sY D1 EY (show D7 P tm w (vr ms (i+1)) us ps from h)
   exact⟨h1,by simp[du,AM.fG,h2]⟩
  |ptr τ=>
   obtain⟨h1,h2⟩:=sY D1 EY (show D7 P tm w (vr ms (i+1)) us ps from h)
   exact⟨h1,by simp[du,AM.fG,h2]⟩
theorem EZ{fn:Func}{tm:Array Value}{us:List Value}(hl:us.length=fn.results.toList.length)(h: ∀i (h:i<fn.results.toList.length) (h':i<us.length),xx P tm w fn.results.toList[i] us[i]):
  (results fn tm).run P w= .ok (qF us) w:=by
 have key: ∀(rs:List ResultVar) (us:List Value),us.length=rs.length→(∀i (h:i<rs.length) (h':i<us.length),xx P tm w rs[i] us[i])→(rs.mapM (qI tm)).run P w= .ok us w:=by
  intro rs
  induction rs with
  |nil=>intro us hl _;cases us with
   |nil=>simp
   |cons _ _=>simp at hl
  |cons r rs ih=>intro us hl h;cases us with
   |nil=>simp at hl
   |cons u us=>
    have h0:(qI tm r).run P w= .ok u w:=h 0 (by simp) (by simp)
    have h1:=ih us (by simpa using hl) (fun i hi iF=>h (i+1) (by simpa using hi) (by simpa using iF))
    simp[List.mapM_cons,h0,h1]
 have h2:=key fn.results.toList us hl h
 have h3:results fn tm=(do let vs ←fn.results.mapM (qI tm);pure (if h:vs.size=1 then vs[0]else .tuple vs)):=by
  unfold results
  congr 1
 rw[h3,Array.mapM_eq_mapM_toList]
 simp only[Sem.run_bind,Sem.run_map,h2]
 unfold qF
 by_cases h3:us.length=1
 ·simp[h3]
 ·simp[h3]
theorem BB(hE:nW P E){f:FuncId}{fn:Func}(hf:P.funcs[f]? =some fn)(hnt:E.nt=fn.ntmps){args res:List AM}(rC: ∀i m,args[i]? =some m→m.fG=true→i∈E.io)(aex: ∀i∈E.io,i<args.length)(hlen:args.length≤fn.ntmps)
  {M0:Nat→Prop} {vs:List Value} {x:HP args} {y:HP res} (nF: ∀b,M0 b→b<w.heap.size) (hA:fR w (fun b=>M0 b∨b∈cG args vs) args x vs) (tY:(cG args vs).Nodup) (qJ: ∀b∈cG args vs,¬M0 b)
  (h:Eo E fn args res x=some y):
  Calls P f vs.toArray w fun e w'=> ∃v,e= .returned v∧ ∃us M',v=qF us∧RR w' M' res y us (du args vs)∧Left w M0 (cG args vs) w' M'∧(a8 res us (du args vs)).Nodup∧ ∀b∈a8 res us (du args vs),¬M0 b:=by
 unfold Eo at h
 split at h
 ·cases h
 rename_i cd hb
 simp only at h
 have hvl: ∀{ms:List AM} {x:HP ms} {vs:List Value} {M:Nat→Prop},fR w M ms x vs→vs.length=ms.length:=by
  intro ms
  induction ms with
  |nil=>intro x vs M h;simp only[fR]at h;subst h;rfl
  |cons m ms ih=>intro x vs M h;simp only[fR]at h;obtain⟨v,D5,rfl,_,h⟩:=h;simp[ih h]
 have Rg:=hvl hA
 let tm:Array Value:=vs.toArray++Array.replicate (fn.ntmps-vs.toArray.size) undef
 have HY: ∀j v,vs[j]? =some v→tm.getD j undef=v:=by
  intro j v hj
  have dF:j<vs.length:=(List.getElem?_eq_some_iff.1 hj).1
  rw[Array.getD_eq_getD_getElem?,Array.getElem?_append_left (by simpa using dF),List.getElem?_toArray,hj];rfl
 have nU:tm.size=fn.ntmps:=by simp[tm];omega
 have hhb: ∀{ms:List AM} {x:HP ms} {vs:List Value} {M:Nat→Prop},fR w M ms x vs→ ∀b∈cG ms vs,b<w.heap.size:=by
  intro ms
  induction ms with
  |nil=>intro x vs M h b hb;simp[cG]at hb
  |cons m ms ih=>
   intro x vs M h b hb
   simp only[fR]at h
   obtain⟨v,D5,rfl,h1,h⟩:=h
   simp only[cG,List.mem_append]at hb
   rcases hb with hb|hb
   ·cases m with
    |v _=>simp[ct]at hb
    |fn _ _=>simp[ct]at hb
    |fD _=>simp[ct]at hb
    |own e=>
     simp only[ct,Option.mem_toList,A1,ER]at hb h1
     rcases h1 with⟨_,a,hv⟩|⟨b',cs,t,cap,hv,hg,_⟩
     ·rw[hv]at hb;cases a<;>simp[ej]at hb
     ·rw[hv]at hb
      simp only[ej]at hb
      split at hb
      ·cases hb
      ·simp only[Option.some.injEq]at hb;subst hb;exact lt_of_block hg
    |io τ=>
     simp only[ct,Option.mem_toList,A1,ER]at hb h1
     obtain⟨b',cs,t,hv,hg,_⟩:=h1
     rw[hv]at hb
     simp only[ej,Option.some.injEq]at hb;subst hb;exact lt_of_block hg
    |ptr τ=>
     simp only[ct,Option.mem_toList,A1,ER]at hb h1
     obtain⟨b',cs,t,hv,hg,_⟩:=h1
     rw[hv]at hb
     simp only[ej,Option.some.injEq]at hb;subst hb;exact lt_of_block hg
   ·exact ih h b hb
 let cx:Ctx:={B:=w.heap.size,w0:=w,M0:=M0,may:=fun b=>b∈cG args vs,arg:=fun i=>tm.getD i undef}
 have Y8:Mem cx (fun _=>none) w (fun b=>M0 b∨b∈cG args vs) (fun _=>undef):=
  ⟨fun i e hi=>(by cases hi),fun i j e e' b _ hi=>(by cases hi),fun i e b hi=>(by cases hi),fun i e l b hi=>(by cases hi),fun i τ x p j hi=>(by cases hi),fun b hb=> .inl hb,fun b hb=>hb.elim (nF b) (hhb hA b),fun _ _ _=>rfl,Nat.le_refl _,⟨nF,qJ⟩,rfl,rfl,rfl⟩
 have M5:Core cx ⟨fun _=> .any,fun _=>none⟩ tm w (fun b=>M0 b∨b∈cG args vs) (fun _=>undef):=⟨Y8,fun i=>by simp[VR]⟩
 obtain⟨ν',hc⟩:=wK (i:=0) (used:=[]) M5 hA (fun j v hj=>by rw[Nat.zero_add];exact HY j v hj) (fun _ _=>rfl) (fun j e b hj=>by cases hj) (by simpa using tY) (fun b hb=>hb) (fun b hb=>qJ b hb)
 have hI:Inv cx E (entry args x 0 ⟨fun _=> .any,fun _=>none⟩) {tmps:=tm,defers:=[]} w:=⟨⟨_,_,hc⟩,by rw[hnt,nU],rfl,fun i _=>rfl⟩
 refine calls_of_wp hf hb ?_
 have aey: ∀(σ':St) (a':Act) (w':World),Cy E res (fn.results.toList.map .inl++vr args 0) σ' some=some y→Inv cx E σ' a' w'→
   a'.defers=[]∧ ∃v,(results fn a'.tmps).run P w'= .ok v w'∧ ∃v',Ending.returned v= .returned v'∧ ∃us M',v'=qF us∧RR w' M' res y us (du args vs)∧Left w M0 (cG args vs) w' M'∧(a8 res us (du args vs)).Nodup∧ ∀b∈a8 res us (du args vs),¬M0 b:=by
  rintro σ' a' w' hk ⟨⟨M1,ν1,AQ⟩,HR,hd1,ss⟩
  obtain⟨y',us,ps,H2,uo,uf,io,Hq,M2,hy,N1,hK,M8,hRs⟩:=y3 (P:=P) hE.toEnvTy (ia.start AQ.mem) AQ.tmp hk
  cases hy
  obtain⟨QT,us2,rfl,hl,hv,aj1⟩:=BA hRs
  obtain⟨rfl,HT⟩:=sY (vs:=vs) Rg (fun j v m hj hm CR=>by
   rw[Nat.zero_add]
   rw[ss j (rC j m hm CR)]
   exact HY j v hj) aj1
  rw[List.append_nil]at*
  subst HT
  simp only[List.nil_append]at N1
  have jQ: ∀b∈a8 res QT (du args vs),b<w.heap.size→b∈cG args vs:=fun b hb dF=>(N1.Is b hb).elim (fun h'=>absurd dF (Nat.not_lt.2 h')) (fun h=>h)
  have Bv:di w' M2 w' (fun b=>M2 b∧(b<w.heap.size→M0 b∨b∈cG args vs)):=⟨Nat.le_refl _,fun _ _ _=>rfl,fun _ _ h=>h.1⟩
  refine⟨hd1,qF QT,EZ hl hv,_,rfl,QT,fun b=>M2 b∧(b<w.heap.size→M0 b∨b∈cG args vs),rfl,RR.qG Bv (fun b hb=>⟨rfl,M8.mI b hb,fun dF=> .inr (jQ b hb dF)⟩) M8,⟨fun b hb=>⟨N1.mem.sub b hb,fun _=> .inl hb⟩,fun b hb=>N1.mem.yD b hb.1,fun b dF hb=>hb.2 dF,fun b dF hb=>N1.mem.frame b dF hb,N1.mem.size,N1.mem.os,N1.mem.tape,N1.mem.output⟩,N1.nd,fun b hb h0=> ?_⟩
  rcases N1.Is b hb with h'|h'
  ·exact absurd (nF b h0) (Nat.not_lt.2 h')
  ·exact qJ b h' h0
 refine Ly (c:=cx) hE cd _ _ w _ _ _ _ hI h (fun σ' a' w' hk sF=> ?_) (fun i σ' a' w' hk=>by cases hk) (fun σ' a' w' hk sF=> ?_)
 ·exact aey σ' a' w' hk sF
 ·exact aey σ' a' w' hk sF
theorem N2(hE:nW P E){f:FuncId}{fn:Func}(hf:P.funcs[f]? =some fn)(ub:(fn.name== "runtime.NumGoroutine")=false)(hnt:E.nt=fn.ntmps)(S:g8)
  (rC: ∀i m,S.args[i]? =some m→m.fG=true→i∈E.io) (aex: ∀i∈E.io,i<S.args.length) (hlen:S.args.length≤fn.ntmps) (hq:S.quiet=true→S.res.all AM.flat=true) (aj2:kG S.args=kG S.res)
  (cA: ∀x,Eo E fn S.args S.res x=S.run x):eQ P f S:=by
 refine⟨hq,aj2,fun M0 w vs x y nF hA tY qJ hy=> ?_⟩
 have hb:fn.body.isNone=false:=by
  have:=cA x
  rw[hy]at this
  unfold Eo at this
  split at this
  ·cases this
  ·rename_i cd hcd;rw[hcd];rfl
 exact og hf ub hb (BB hE hf hnt rC aex hlen nF hA tY qJ (by rw[cA,hy]))
end VM
end
section
namespace VM
open Go
variable{P:Program}
def uc:Ty→List Value→Option (List Value)
 | .int k,v::r=>match v with
  | .int k' n=>if k'=k∧n=0 then some r else none
  |_=>none
 | .bool,v::r=>match v with
  | .bool false=>some r
  |_=>none
 | .str,v::r=>match v with
  | .string s=>if s.data.size=0 then some r else none
  |_=>none
 | .slice _,v::r=>match v with
  | .slice none n m=>if n=0∧m=0 then some r else none
  |_=>none
 | .unit,r=>some r
 | .pair a b,r=>match uc a r with
  |some r=>uc b r
  |none=>none
 | .arr n e,r=>Nat.rec (motive:=fun _=>List Value→Option (List Value)) (fun r=>some r) (fun _ ih r=>match uc e r with
  |some r=>ih r
  |none=>none) n r
 |_,[]=>none
theorem ud: ∀{τ:Ty} {l r:List Value},uc τ l=some r→l=τ.b9++r
 | .int k,[],_,h| .bool,[],_,h| .str,[],_,h| .slice _,[],_,h=>by simp[uc]at h
 | .int k,v::l,r,h=>by
  simp only[uc]at h
  split at h
  ·split at h
   ·rename_i hc;obtain⟨rfl,rfl⟩:=hc;cases h;rfl
   ·cases h
  ·cases h
 | .bool,v::l,r,h=>by
  simp only[uc]at h
  split at h
  ·cases h;rfl
  ·cases h
 | .str,v::l,r,h=>by
  simp only[uc]at h
  split at h
  ·rename_i s
   split at h
   ·rename_i hs
    cases h
    have:s=ByteArray.empty:=by
     obtain⟨d⟩:=s
     have:d= #[]:=Array.eq_empty_of_size_eq_zero hs
     subst this;rfl
    subst this;rfl
   ·cases h
  ·cases h
 | .slice _,v::l,r,h=>by
  simp only[uc]at h
  split at h
  ·split at h
   ·rename_i hc;obtain⟨rfl,rfl⟩:=hc;cases h;rfl
   ·cases h
  ·cases h
 | .unit,l,r,h=>by simp only[uc]at h;cases h;rfl
 | .pair a b,l,r,h=>by
  simp only[uc]at h
  split at h
  ·rename_i r1 h1
   rw[ud h1,ud h];simp[Ty.b9]
  ·cases h
 | .arr n e,l,r,h=>by
  simp only[uc]at h
  simp only[Ty.b9]
  induction n generalizing l with
  |zero=>cases h;rfl
  |succ n ih=>
   simp only at h
   split at h
   ·rename_i r1 h1
    rw[ud h1,ih _ h];simp[List.replicate_succ]
   ·cases h
def ue(P:Program)(τ:Ty)(t:TypeId):Bool:=
 match P.info? t with
 |none=>false
 |some i=>Nat.beq i.size τ.size&&Nat.ble i.bytes 2048&&(match i.zero with
  |none=>false
  |some z=>match τ.isAgg,z with
   |true,.agg cs=>(match uc τ cs.toList with|some []=>true|_=>false)
   |false,z=>(match uc τ [z]with|some []=>true|_=>false)
   |_,_=>false)
theorem mL{τ:Ty}{t:TypeId}(h:ue P τ t=true):Cz P τ t:=by
 unfold ue at h
 split at h
 ·cases h
 ·rename_i i hi
  simp only[Bool.and_eq_true,Nat.ble_eq]at h
  obtain⟨⟨h1,h2⟩,h3⟩:=h
  refine⟨i,hi,Nat.eq_of_beq_eq_true h1,?_,h2⟩
  split at h3
  ·cases h3
  ·rename_i z hz
   rw[hz]
   split at h3
   ·rename_i _ cs ha
    split at h3
    ·rename_i he
     have:=ud he
     unfold bF
     rw[if_pos ha,←List.append_nil τ.b9,←this]
    ·cases h3
   ·rename_i ha
    split at h3
    ·rename_i he
     have:=ud he
     unfold bF
     rw[if_neg (by rw[ha];exact Bool.false_ne_true),←List.append_nil τ.b9,←this];rfl
    ·cases h3
   ·cases h3
def oL(P:Program):Ty→TypeId ⊕ (Array Field×Nat×Nat)→Bool
 | .int k,.inl t=>ue P (.int k) t&&(match P.underlying t with|some (.int k')=>decide (k'=k)|_=>false)
 | .bool,.inl t=>ue P .bool t&&(match P.underlying t with|some .bool=>true|_=>false)
 | .str,.inl t=>ue P .str t&&(match P.underlying t with|some .string=>true|_=>false)
 | .slice e,.inl t=>ue P (.slice e) t&&(match P.underlying t with|some (.slice e')=>oL P e (.inl e')|_=>false)
 | .arr n e,.inl t=>ue P (.arr n e) t&&(match P.underlying t with|some (.array n' e')=>Nat.beq n' n&&oL P e (.inl e')|_=>false)
 | .unit,.inl t=>ue P .unit t&&(match P.underlying t with|some (.struct fs)=>Nat.beq fs.size 0|_=>false)
 | .unit,.inr q=>Nat.beq q.1.size q.2.1
 | .pair a b,.inl t=>ue P (.pair a b) t&&(match P.underlying t with
  |some (.struct fs)=>(match fs[0]? with
   |some f=>Nat.beq f.offset 0&&(oL P a (.inl f.type)&&oL P b (.inr (fs,1,a.size)))
   |none=>false)
  |_=>false)
 | .pair a b,.inr q=>(match q.1[q.2.1]? with
  |some f=>Nat.beq f.offset q.2.2&&(oL P a (.inl f.type)&&oL P b (.inr (q.1,q.2.1+1,q.2.2+a.size)))
  |none=>false)
 |_,.inr _=>false
theorem eo: ∀{τ:Ty} {x:TypeId ⊕ (Array Field×Nat×Nat)},oL P τ x=true→dC P τ x
 | .int k,.inl t,h=>by
  simp only[oL,Bool.and_eq_true]at h
  refine⟨mL h.1,?_⟩
  have h:=h.2
  split at h
  ·rename_i k' hu;rw[hu,of_decide_eq_true h]
  ·cases h
 | .bool,.inl t,h=>by
  simp only[oL,Bool.and_eq_true]at h
  refine⟨mL h.1,?_⟩
  have h:=h.2
  split at h
  ·rename_i hu;exact hu
  ·cases h
 | .str,.inl t,h=>by
  simp only[oL,Bool.and_eq_true]at h
  refine⟨mL h.1,?_⟩
  have h:=h.2
  split at h
  ·rename_i hu;exact hu
  ·cases h
 | .slice e,.inl t,h=>by
  simp only[oL,Bool.and_eq_true]at h
  refine⟨mL h.1,?_⟩
  have h:=h.2
  split at h
  ·rename_i e' hu;exact⟨e',hu,eo h⟩
  ·cases h
 | .arr n e,.inl t,h=>by
  simp only[oL,Bool.and_eq_true]at h
  refine⟨mL h.1,?_⟩
  have h:=h.2
  split at h
  ·rename_i n' e' hu
   simp only[Bool.and_eq_true]at h
   obtain⟨h0,h⟩:=h
   rw[Nat.eq_of_beq_eq_true h0]at hu
   exact⟨e',hu,eo h⟩
  ·cases h
 | .unit,.inl t,h=>by
  simp only[oL,Bool.and_eq_true]at h
  refine⟨mL h.1,?_⟩
  have h:=h.2
  split at h
  ·rename_i fs hu;exact⟨fs,hu,Nat.eq_of_beq_eq_true h⟩
  ·cases h
 | .unit,.inr (fs,n,o),h=>by simp only[oL]at h;exact Nat.eq_of_beq_eq_true h
 | .pair a b,.inl t,h=>by
  simp only[oL,Bool.and_eq_true]at h
  refine⟨mL h.1,?_⟩
  have h:=h.2
  split at h
  ·rename_i fs hu
   split at h
   ·rename_i f hf
    simp only[Bool.and_eq_true]at h
    exact⟨fs,f,hu,hf,Nat.eq_of_beq_eq_true h.1,eo h.2.1,eo h.2.2⟩
   ·cases h
  ·cases h
 | .pair a b,.inr (fs,n,o),h=>by
  simp only[oL]at h
  split at h
  ·rename_i f hf
   simp only[Bool.and_eq_true]at h
   exact⟨f,hf,Nat.eq_of_beq_eq_true h.1,eo h.2.1,eo h.2.2⟩
  ·cases h
 | .int _,.inr _,h| .bool,.inr _,h| .str,.inr _,h| .slice _,.inr _,h| .arr _ _,.inr _,h=>by simp[oL]at h
def p5(P:Program):Ty→TypeId ⊕ (Array Field×Nat)→Bool
 | .int _,.inl _| .bool,.inl _| .str,.inl _=>true
 | .unit,.inl t=> !P.stoodInHeld t
 | .unit,.inr _=>true
 | .pair a b,.inl t=> !P.stoodInHeld t&&(match P.underlying t with
  |some (.struct fs)=>(match fs[0]? with
   |some f=>f.name != "_" &&(p5 P a (.inl f.type)&&p5 P b (.inr (fs,1)))
   |none=>false)
  |_=>false)
 | .pair a b,.inr q=>(match q.1[q.2]? with
  |some f=>f.name != "_" &&(p5 P a (.inl f.type)&&p5 P b (.inr (q.1,q.2+1)))
  |none=>false)
 |_,_=>false
def Ty.deep:Ty→Nat
 | .pair a b=>a.deep+b.deep+1
 |_=>1
theorem V.ofC{w:World}{M:Nat→Prop}{τ:Ty}{cs:List Value}{x:τ.den}(h:Rd w M τ cs x):V w M τ (VM.bF τ cs) x:=V.bF h
mutual
theorem E0{w:World}{M:Nat→Prop}: ∀{τ:Ty} {t:TypeId} {u v:Value} {x y:τ.den} {d:Nat},gA P τ t→p5 P τ (.inl t)=true→V w M τ u x→V w M τ v y→τ.deep≤d→(Op.equalIn d t u v).run P w= .ok (la τ x y) w
 | .int k,t,u,v,x,y,d+1,hl,_,hx,hy,_=>by
  simp only[V,Ty.isAgg,Bool.false_eq_true,if_false,Rd,List.cons.injEq,and_true]at hx hy
  subst hx;subst hy
  rw[run_equalIn_int w d t k k _ _ hl.int];simp only[la,fL];congr 1
 | .bool,t,u,v,x,y,d+1,hl,_,hx,hy,_=>by
  simp only[V,Ty.isAgg,Bool.false_eq_true,if_false,Rd,List.cons.injEq,and_true]at hx hy
  subst hx;subst hy
  rw[run_equalIn_bool w d t _ _ hl.bool];simp only[la]
 | .str,t,u,v,x,y,d+1,hl,_,hx,hy,_=>by
  simp only[V,Ty.isAgg,Bool.false_eq_true,if_false,Rd,List.cons.injEq,and_true]at hx hy
  subst hx;subst hy
  rw[run_equalIn_string w d t _ _ hl.str];simp only[la,yB];congr 1;rw[Bool.eq_iff_iff];simp
 | .slice _,_,_,_,_,_,_,_,h,_,_,_| .arr _ _,_,_,_,_,_,_,_,h,_,_,_=>by simp[p5]at h
 | .unit,t,u,v,x,y,d+1,hl,he,hx,hy,_=>by
  simp only[V,Ty.isAgg,if_true]at hx hy
  obtain⟨cs,rfl,_⟩:=hx
  obtain⟨cs',rfl,_⟩:=hy
  simp only[gA,dC]at hl
  obtain⟨_,fs,hu,h0⟩:=hl
  have hfs:P.fieldsOf t=fs:=by simp[Program.fieldsOf,hu]
  rw[run_equalIn_struct w d t cs cs' (by rw[hfs];exact hu) (by simpa [p5]using he),hfs]
  have:fs.toList=[]:=by rw[←List.length_eq_zero_iff,Array.length_toList];exact h0
  rw[this];simp[Op.eqFields,la]
 | .pair a b,t,u,v,x,y,d+1,hl,he,hx,hy,hd=>by
  simp only[V,Ty.isAgg,if_true]at hx hy
  obtain⟨cs,rfl,hx⟩:=hx
  obtain⟨cs',rfl,hy⟩:=hy
  simp only[gA,dC]at hl
  obtain⟨_,fs,f,hu,hf,ho,sZ,HZ⟩:=hl
  have hfs:P.fieldsOf t=fs:=by simp[Program.fieldsOf,hu]
  simp only[p5,hu,hf,Bool.and_eq_true]at he
  rw[run_equalIn_struct w d t cs cs' (by rw[hfs];exact hu) (by simpa using he.1),hfs]
  have h0:fs.toList=f::fs.toList.drop 1:=by
   have h1:=List.drop_eq_getElem_cons (l:=fs.toList) (i:=0) (by rw[Array.length_toList];exact(Array.getElem?_eq_some_iff.1 hf).1)
   rw[List.drop_zero]at h1
   rw[h1];congr 1
   rw[Array.getElem_toList];exact(Array.getElem?_eq_some_iff.1 hf).2
  simp only[Ty.deep]at hd
  rw[h0]
  have nC:Rd w M (.pair a b) (cs.toList.drop 0) x:=by rw[List.drop_zero];exact hx
  have J9:Rd w M (.pair a b) (cs'.toList.drop 0) y:=by rw[List.drop_zero];exact hy
  have g9:f.name≠ "_" :=by simpa using he.2.1
  simp only[Op.eqFields,g9,ne_eq,not_false_eq_true,if_true]
  exact N3 (off:=0) ho sZ he.2.2.1 nC J9 (by omega) (fun h1 h2=>N4 (n:=1) (fs:=fs) (off:=a.size) HZ he.2.2.2 (by rw[Nat.zero_add]at h1;exact h1) (by rw[Nat.zero_add]at h2;exact h2) (by omega))
 | .int _,_,_,_,_,_,0,_,_,_,_,hd| .bool,_,_,_,_,_,0,_,_,_,_,hd| .str,_,_,_,_,_,0,_,_,_,_,hd| .unit,_,_,_,_,_,0,_,_,_,_,hd| .pair _ _,_,_,_,_,_,0,_,_,_,_,hd=>by simp[Ty.deep]at hd
theorem N4{w:World}{M:Nat→Prop}: ∀{b:Ty} {fs:Array Field} {n off:Nat} {cs cs':Array Value} {x y:b.den} {d:Nat},dC P b (.inr (fs,n,off))→p5 P b (.inr (fs,n))=true→Rd w M b (cs.toList.drop off) x→Rd w M b (cs'.toList.drop off) y→b.deep≤d→
  (Op.eqFields d cs cs' (fs.toList.drop n)).run P w= .ok (la b x y) w
 | .unit,fs,n,off,cs,cs',x,y,d,hl,_,_,_,_=>by
  simp only[dC]at hl
  rw[List.drop_of_length_le (by rw[Array.length_toList];omega)]
  simp[Op.eqFields,la]
 | .pair a b,fs,n,off,cs,cs',x,y,d,hl,he,hx,hy,hd=>by
  simp only[dC]at hl
  obtain⟨f,hf,ho,sZ,HZ⟩:=hl
  simp only[p5,hf,Bool.and_eq_true]at he
  have h0:fs.toList.drop n=f::fs.toList.drop (n+1):=by
   rw[List.drop_eq_getElem_cons (l:=fs.toList) (i:=n) (by rw[Array.length_toList];exact(Array.getElem?_eq_some_iff.1 hf).1)]
   congr 1
   rw[Array.getElem_toList];exact(Array.getElem?_eq_some_iff.1 hf).2
  simp only[Ty.deep]at hd
  rw[h0]
  have g9:f.name≠ "_" :=by simpa using he.1
  simp only[Op.eqFields,g9,ne_eq,not_false_eq_true,if_true]
  exact N3 ho sZ he.2.1 hx hy (by omega) (fun h1 h2=>N4 HZ he.2.2 h1 h2 (by omega))
 | .int _,_,_,_,_,_,_,_,_,hl,_,_,_,_| .bool,_,_,_,_,_,_,_,_,hl,_,_,_,_| .str,_,_,_,_,_,_,_,_,hl,_,_,_,_| .slice _,_,_,_,_,_,_,_,_,hl,_,_,_,_| .arr _ _,_,_,_,_,_,_,_,_,hl,_,_,_,_=>by simp[dC]at hl
theorem N3{w:World}{M:Nat→Prop}{a b:Ty}{f:Field}{fs:List Field}{off:Nat}{cs cs':Array Value}{x y:(Ty.pair a b).den}{d:Nat}(ho:f.offset=off)(sZ:gA P a f.type)(he:p5 P a (.inl f.type)=true)
  (hx:Rd w M (.pair a b) (cs.toList.drop off) x) (hy:Rd w M (.pair a b) (cs'.toList.drop off) y) (hd:a.deep≤d)
  (hr:Rd w M b (cs.toList.drop (off+a.size)) x.2→Rd w M b (cs'.toList.drop (off+a.size)) y.2→(Op.eqFields d cs cs' fs).run P w= .ok (la b x.2 y.2) w):
  (do let u ←part f.type cs f.offset;let v ←part f.type cs' f.offset;let r ←Op.equalIn d f.type u v;if(!r)=true then pure false else Op.eqFields d cs cs' fs:Sem Bool).run P w= .ok (la (.pair a b) x y) w:=by
 simp only[Rd]at hx hy
 obtain⟨c1,c2,hc,h1,h2⟩:=hx
 obtain⟨c1',c2',LA,lO,sH⟩:=hy
 subst ho
 have p1:(cs.toList.drop f.offset).take a.size=c1:=by rw[hc,List.take_left' h1.length]
 have p2:(cs'.toList.drop f.offset).take a.size=c1':=by rw[LA,List.take_left' lO.length]
 have q1:cs.toList.drop (f.offset+a.size)=c2:=by rw[←List.drop_drop,hc,List.drop_left' h1.length]
 have q2:cs'.toList.drop (f.offset+a.size)=c2':=by rw[←List.drop_drop,LA,List.drop_left' lO.length]
 have r1:=tN sZ (w:=w) (M:=M) (cs:=cs) (off:=f.offset) (x:=x.1) (by rw[p1];exact h1)
 have r2:=tN sZ (w:=w) (M:=M) (cs:=cs') (off:=f.offset) (x:=y.1) (by rw[p2];exact lO)
 have r3:=E0 (d:=d) sZ he (V.ofC (by rw[p1];exact h1):V w M a (VM.bF a ((cs.toList.drop f.offset).take a.size)) x.1) (V.ofC (by rw[p2];exact lO):V w M a (VM.bF a ((cs'.toList.drop f.offset).take a.size)) y.1) hd
 simp only[Sem.run_bind,r1,r2,r3,Result.andThen_ok,la]
 cases la a x.1 y.1
 ·simp
 ·simpa using hr (by rw[q1];exact h2) (by rw[q2];exact sH)
end
def RG(P:Program)(τ:Ty)(t:TypeId):Bool:= !(τ.comparable&&τ.isAgg)||(p5 P τ (.inl t)&&(Nat.ble τ.deep 10000&& !P.eqGuardType P.depth t))
theorem RH{τ:Ty}{t:TypeId}(hl:gA P τ t)(h:RG P τ t=true)(hc:τ.comparable=true)(ha:τ.isAgg=true):adO P t τ:=by
 unfold RG at h
 rw[hc,ha]at h
 simp only[Bool.and_self,Bool.not_true,Bool.false_or,Bool.and_eq_true,Nat.ble_eq,Bool.not_eq_true']at h
 obtain⟨h1,h2,h3⟩:=h
 intro w M u v x y b xo yo hx hy
 have he:=E0 (d:=10000) hl h1 hx hy h2
 unfold V at hx hy
 rw[if_pos ha]at hx hy
 obtain⟨cs,rfl,_⟩:=hx
 obtain⟨cs',rfl,_⟩:=hy
 refine⟨?_,?_,?_⟩
 ·cases b<;>simp[eqGuard,h3]
 ·simp only[binOp];simp[Op.equal,Op.maxDepth,he]
 ·simp only[binOp];simp[Op.equal,Op.maxDepth,he]
def aeA(P:Program)(l:List (Nat×Ty)):Bool:=l.all fun q=>oL P q.2 (.inl q.1)&&RG P q.2 q.1
end VM
end
section
namespace VM
open Go Go.WideShapes Go.RowKit Go.ChangeShapes
def WF:(τ:Ty)→τ.den→Prop
 | .int k,x=>(Lit.int k x).wf=true
 | .bool,_=>True
 | .str,s=>ByteArray.size s≤maxLen
 | .slice e,l=>List.length l≤maxLen∧ ∀i (h:i<List.length l),WF e (List.get l ⟨i,h⟩)
 | .unit,_=>True
 | .pair a b,x=>WF a x.1∧WF b x.2
 | .arr _ e,l=> ∀i (h:i<List.length l),WF e (List.get l ⟨i,h⟩)
def Ty.lH:Ty→Bool
 | .slice e=>Nat.blt 0 e.size&&e.lH
 | .pair a b=>a.lH&&b.lH
 | .arr _ e=>e.lH
 |_=>true
theorem N5{α β:Type}{f:α→Option β}: ∀{l:List α} {r:List β},l.mapM f=some r→ ∀x∈l,∃y,f x=some y
 |[],_,_,x,hx=>by cases hx
 |a::l,r,h,x,hx=>by
  rw[List.mapM_cons]at h
  simp only[bind,Option.bind_eq_some_iff,pure,Option.some.injEq]at h
  obtain⟨y,hy,r',hr,_⟩:=h
  rcases List.mem_cons.1 hx with rfl|hx
  ·exact⟨y,hy⟩
  ·exact N5 hr x hx
theorem E1{α β:Type}{f:α→Option β}: ∀{l:List α} {r:List β},l.mapM f=some r→r.length=l.length∧ ∀i (h:i<l.length) (h':i<r.length),f l[i]=some r[i]
 |[],r,h=>by simp at h;subst h;exact⟨rfl,fun i h=>by cases h⟩
 |a::l,r,h=>by
  rw[List.mapM_cons]at h
  simp only[bind,Option.bind_eq_some_iff,pure,Option.some.injEq]at h
  obtain⟨y,hy,r',hr,rfl⟩:=h
  obtain⟨h1,h2⟩:=E1 hr
  refine⟨by simp[h1],fun i hi iF=> ?_⟩
  cases i with
  |zero=>exact hy
  |succ i=>exact h2 i (by simpa using hi) (by simpa using iF)
theorem qK{α:Type}{p:Nat→α→Prop}: ∀n,(∀i,i<n→ ∃x,p i x)→ ∃l:List α,l.length=n∧ ∀i (h:i<l.length),p i (l.get ⟨i,h⟩)
 |0,_=>⟨[],rfl,fun i h=>by cases h⟩
 |n+1,h=>by
  obtain⟨l,hl,hp⟩:=qK n (fun i hi=>h i (by omega))
  obtain⟨x,hx⟩:=h n (by omega)
  refine⟨l++[x],by simp[hl],fun i hi=> ?_⟩
  simp only[List.get_eq_getElem]
  by_cases dF:i<l.length
  ·rw[List.getElem_append_left dF];exact hp i dF
  ·have jZ:i=n:=by simp at hi;omega
   subst jZ
   rw[List.getElem_append_right (by omega)]
   simp[hl,hx]
section
variable{H:Type}{enc:TypeId×Value→H}{P:Program}{w:World}
theorem gA.cells{τ:Ty}{t:TypeId}(h:gA P τ t):P.cellsOf t=τ.size:=by
 obtain⟨i,hi,hs,_⟩:=h.base
 simp[Program.cellsOf,hi,hs]
theorem BC{a:Addr}{n:Nat}{cs:List Value}(h:w.cells? 0 a n=some cs):cs.length=n∧ ∀j v,cs[j]? =some v→w.cell? (a.add j)=some v:=by
 unfold World.cells? at h
 rw[if_pos (Nat.zero_le _)]at h
 obtain⟨h1,h2⟩:=E1 h
 rw[List.length_range]at h1
 refine⟨h1,fun j v hj=> ?_⟩
 obtain⟨dF,rfl⟩:=List.getElem?_eq_some_iff.1 hj
 have:=h2 j (by rw[List.length_range];omega) dF
 rw[List.getElem_range]at this
 exact this
def N6(H:Type)(enc:TypeId×Value→H)(P:Program)(w:World)(τ:Ty):TypeId ⊕ (Array Field×Nat×Nat)→Prop
 | .inl t=> ∀(fuel:Nat) (cs:List Value) (d:DataW H×List MemPlace),DataW.trod enc P w 0 (fun _=>true) true fuel t cs=some d→ ∃x:τ.den,Rd w (fun _=>False) τ cs x∧WF τ x
 | .inr q=> ∀(cs:List Value),cs.length=q.2.2+τ.size→(∀f∈q.1.toList,∃fuel d,DataW.trod enc P w 0 (fun _=>true) true fuel f.type ((cs.drop f.offset).take (P.cellsOf f.type))=some d)→ ∃x:τ.den,Rd w (fun _=>False) τ (cs.drop q.2.2) x∧WF τ x
theorem BD{a b:Ty}{f:Field}{fs:Array Field}{n off:Nat}(hf:fs[n]? =some f)(ho:f.offset=off)(sZ:gA P a f.type)(Zy:N6 H enc P w a (.inl f.type))(No:N6 H enc P w b (.inr (fs,n+1,off+a.size)))
  {cs:List Value} (hc:cs.length=off+(a.size+b.size)) (jo: ∀f∈fs.toList,∃fuel d,DataW.trod enc P w 0 (fun _=>true) true fuel f.type ((cs.drop f.offset).take (P.cellsOf f.type))=some d):
  ∃x:(Ty.pair a b).den,Rd w (fun _=>False) (.pair a b) (cs.drop off) x∧WF (.pair a b) x:=by
 subst ho
 obtain⟨fuel,d,hd⟩:=jo f (by rw[Array.mem_toList_iff];exact Array.mem_of_getElem? hf)
 rw[sZ.cells]at hd
 obtain⟨x,hx,hwx⟩:=Zy fuel _ d hd
 obtain⟨y,hy,hwy⟩:=No cs (by simp only;omega) jo
 refine⟨(x,y),?_,hwx,hwy⟩
 simp only[Rd]
 refine⟨_,_,(List.take_append_drop a.size (cs.drop f.offset)).symm,hx,?_⟩
 rw[List.drop_drop];exact hy
theorem pf: ∀{τ:Ty} {x:TypeId ⊕ (Array Field×Nat×Nat)},dC P τ x→τ.lH=true→N6 H enc P w τ x
 | .int k,.inl t,hl,_=>by
  intro fuel cs d h
  simp only[dC]at hl
  obtain⟨n,rfl,_,hw⟩:=DataW.trod_int hl.2 h
  exact⟨n,rfl,hw⟩
 | .bool,.inl t,hl,_=>by
  intro fuel cs d h
  simp only[dC]at hl
  obtain⟨b,rfl,_⟩:=DataW.trod_bool hl.2 h
  exact⟨b,rfl,trivial⟩
 | .str,.inl t,hl,_=>by
  intro fuel cs d h
  simp only[dC]at hl
  obtain⟨s,rfl,_,hs⟩:=DataW.trod_string hl.2 h
  exact⟨s,rfl,hs⟩
 | .slice e,.inl t,hl,hs=>by
  intro fuel cs d h
  simp only[dC]at hl
  obtain⟨_,e',hu,hle⟩:=hl
  simp only[Ty.lH,Bool.and_eq_true,Nat.blt_eq]at hs
  have ih:=pf hle hs.2
  have nU:P.cellsOf e'=e.size:=gA.cells hle
  rcases DataW.trod_slice hu h with⟨rfl,_⟩|⟨a,len,cap,elems,rest,n,_,rfl,_,_,Ra,Lf,hel,jo,_⟩
  ·refine⟨[],?_,Nat.zero_le _,fun i h=>by cases h⟩
   simp only[Rd]
   exact⟨none,0,rfl,Nat.le_refl _,fun i h=>by cases h⟩
  ·rw[nU]at jo
   have get: ∀i,i<len→ ∃cs' y,w.cells? 0 (a.add (i*e.size)) e.size=some cs'∧DataW.trod enc P w 0 (fun _=>true) true n e' cs'=some y:=fun i hi=>by
    have:=jo i hi
    rw[List.getElem?_eq_getElem (by omega)]at this
    obtain⟨cs',h1,h2⟩:=Option.bind_eq_some_iff.1 this
    exact⟨cs',_,h1,h2⟩
   have key: ∀i,i<len→ ∃x:e.den,(a.spot=none∧a.block<w.heap.size∧ ∃cs',At w a.block (a.off+i*e.size) cs'∧Rd w (fun _=>False) e cs' x)∧WF e x:=by
    intro i hi
    obtain⟨cs',y,CE,ht⟩:=get i hi
    obtain⟨h1,h2⟩:=BC CE
    obtain⟨x,hx,hw⟩:=ih n cs' y ht
    have hsp:a.spot=none∧a.block<w.heap.size:=by
     obtain⟨nQ,y0,aj3,_⟩:=get 0 (by omega)
     obtain⟨h10,h20⟩:=BC aj3
     have:=h20 0 nQ[0] (List.getElem?_eq_getElem (by omega))
     simp only[Nat.zero_mul,Addr.add,if_true,World.cell?]at this
     split at this
     ·rename_i hb
      refine⟨?_,(Array.getElem?_eq_some_iff.1 hb).1⟩
      split at this
      ·cases this
      ·rename_i hn;simpa using hn
     ·cases this
    refine⟨x,⟨hsp.1,hsp.2,cs',fun j v hj=> ?_,hx⟩,hw⟩
    have:=h2 j v hj
    have he:(a.add (i*e.size)).add j=⟨a.block,a.off+i*e.size+j,none⟩:=by
     obtain⟨ab,ao,asp⟩:=a
     simp only at hsp
     obtain⟨rfl,_⟩:=hsp
     simp only[Addr.add]
     split<;>split<;>simp_all<;>omega
    rw[he]at this
    exact this
   obtain⟨l,hl,hp⟩:=qK len key
   refine⟨l,?_,by rw[hl];omega,fun i h=>(hp i h).2⟩
   simp only[Rd]
   refine⟨some a,cap,by rw[hl],by rw[hl];exact Ra,fun i h=> ?_⟩
   obtain⟨h1,h2,cs',h3,h4⟩:=(hp i h).1
   refine⟨a.block,a.off,?_,h2,fun h=>h,cs',h3,h4⟩
   rw[←h1]
 | .unit,.inl t,hl,_=>by
  intro fuel cs d h
  simp only[dC]at hl
  obtain⟨⟨i,hi,nU,_⟩,fs,hu,h0⟩:=hl
  obtain⟨xs,n,_,_,hc,_⟩:=DataW.trod_struct hu h
  refine⟨(),?_,trivial⟩
  simp only[Rd]
  rw[←List.length_eq_zero_iff,hc]
  simp[Program.cellsOf,hi,nU,Ty.size]
 | .unit,.inr q,hl,_=>by
  intro cs hc _
  refine⟨(),?_,trivial⟩
  simp only[Rd]
  rw[List.drop_of_length_le (by rw[hc];simp[Ty.size])]
 | .pair a b,.inl t,hl,hs=>by
  intro fuel cs d h
  simp only[dC]at hl
  obtain⟨⟨i,hi,nU,_⟩,fs,f,hu,hf,ho,sZ,HZ⟩:=hl
  simp only[Ty.lH,Bool.and_eq_true]at hs
  have Zy:=pf sZ hs.1
  have No:=pf HZ hs.2
  obtain⟨xs,n,_,_,hc,hxl,hxs⟩:=DataW.trod_struct hu h
  have:=BD (b:=b) (off:=0) hf ho sZ Zy (by simp only[Nat.zero_add];exact No) (cs:=cs) (by rw[hc];simp[Program.cellsOf,hi,nU,Ty.size]) (fun f hf=>by
   obtain⟨j,hj,rfl⟩:=List.mem_iff_getElem.1 hf
   rw[Array.length_toList]at hj
   have:=hxs j fs[j] (by simp[hj])
   rw[List.getElem?_eq_getElem (by omega)]at this
   exact⟨n,_,by rw[Array.getElem_toList];exact this⟩)
  rw[List.drop_zero]at this
  exact this
 | .pair a b,.inr (fs,n,off),hl,hs=>by
  intro cs hc jo
  simp only[dC]at hl
  obtain⟨f,hf,ho,sZ,HZ⟩:=hl
  simp only[Ty.lH,Bool.and_eq_true]at hs
  exact BD hf ho sZ (pf sZ hs.1) (pf HZ hs.2) (by simpa [Ty.size]using hc) jo
 | .arr n e,.inl t,hl,hs=>by
  intro fuel cs d h
  simp only[dC]at hl
  obtain⟨⟨i,hi,nU,_⟩,e',hu,hle⟩:=hl
  simp only[Ty.lH]at hs
  have ih:=pf hle hs
  have hse:P.cellsOf e'=e.size:=gA.cells hle
  obtain⟨xs,m,_,_,hc,hxl,hxs⟩:=DataW.trod_array hu h
  have hlen:cs.length=n*e.size:=by rw[hc];simp[Program.cellsOf,hi,nU,Ty.size]
  have key: ∀i,i<n→ ∃x:e.den,Rd w (fun _=>False) e ((cs.drop (i*e.size)).take e.size) x∧WF e x:=fun i hi=>by
   have:=hxs i hi
   rw[List.getElem?_eq_getElem (by omega),hse]at this
   exact ih m _ _ this
  obtain⟨l,CO,hp⟩:=qK n key
  refine⟨l,?_,fun i h=>(hp i h).2⟩
  simp only[Rd]
  refine⟨CO,(List.range n).map fun i=>(cs.drop (i*e.size)).take e.size,by simp,?_,fun i h h'=> ?_⟩
  ·clear hxs h key hp CO hu
   have: ∀m,m≤n→cs.take (m*e.size)=((List.range m).map fun i=>(cs.drop (i*e.size)).take e.size).flatten:=by
    intro m
    induction m with
    |zero=>simp
    |succ m ihm=>
     intro hm
     rw[List.range_succ,List.map_append,List.flatten_append,←ihm (by omega)]
     simp only[List.map_cons,List.map_nil,List.flatten_cons,List.flatten_nil,List.append_nil]
     rw[Nat.add_mul,Nat.one_mul,List.take_add]
   have h2:=this n (Nat.le_refl _)
   rw[List.take_of_length_le (by omega)]at h2
   exact h2
  ·have:=(hp i h).1
   simpa using this
 | .int _,.inr _,h,_| .bool,.inr _,h,_| .str,.inr _,h,_| .slice _,.inr _,h,_| .arr _ _,.inr _,h,_=>by simp[dC]at h
theorem Zz{τ:Ty}{t:TypeId}{r:Reach}{b0:Nat}{v:Value}{d:DataW H}{ps:List MemPlace}(hl:gA P τ t)(hs:τ.lH=true)(hv:Value.okWide P w r b0 t v)(h:DataW.Trod enc P w 0 (fun _=>true) true t v d ps):
  ∃x:τ.den,V w (fun _=>False) τ v x∧WF τ x:=by
 obtain⟨fuel,h⟩:=h
 obtain⟨x,hx,hw⟩:=pf (H:=H) (enc:=enc) (w:=w) hl hs fuel _ _ h
 refine⟨x,?_,hw⟩
 unfold V
 cases τ with
 |int k=>
  obtain⟨n,rfl⟩:=okWide_int hl.int hv
  exact hx
 |bool=>
  obtain⟨n,rfl⟩:=okWide_bool hl.bool hv
  exact hx
 |str=>
  obtain⟨n,rfl⟩:=okWide_string hl.str hv
  exact hx
 |slice e=>
  obtain⟨e',hu,_⟩:=hl.slice
  obtain⟨a,len,cap,rfl⟩:=okWide_slice hu hv
  exact hx
 |unit=>
  simp only[gA,dC]at hl
  obtain⟨_,fs,hu,_⟩:=hl
  simp only[Value.okWide,hu]at hv
  obtain⟨cs,rfl,_⟩:=hv
  exact⟨cs,rfl,hx⟩
 |pair a b=>
  simp only[gA,dC]at hl
  obtain⟨_,fs,f,hu,_⟩:=hl
  simp only[Value.okWide,hu]at hv
  obtain⟨cs,rfl,_⟩:=hv
  exact⟨cs,rfl,hx⟩
 |arr n e=>
  obtain⟨e',hu,_⟩:=hl.arr
  simp only[Value.okWide,hu]at hv
  obtain⟨cs,rfl,_⟩:=hv
  exact⟨cs,rfl,hx⟩
def WFs:(ms:List Ty)→HP (ms.map .v)→Prop
 |[],_=>True
 |_::ms,x=>WF _ (qn x)∧WFs ms (vj x)
def hpC:{m:AM}→{ms:List AM}→m.den→HP ms→HP (m::ms)
 |_,[],x,_=>x
 |_,_::_,x,y=>(x,y)
theorem Ka{m:AM}: ∀{ms:List AM} (x:m.den) (y:HP ms),qn (hpC x y)=x
 |[],_,_=>rfl
 |_::_,_,_=>rfl
theorem Kb{m:AM}: ∀{ms:List AM} (x:m.den) (y:HP ms),vj (hpC x y)=y
 |[],_,()=>rfl
 |_::_,_,_=>rfl
theorem BE(laid:laidOutB P=true){r:Reach}{b0:Nat}: ∀{τs:List Ty} {ts:List TypeId} {vs:List Value} {ds:List (DataW H)} {ps:List MemPlace},DataW.TrodAll enc P w 0 (fun _=>true) true ts vs ds ps→
  τs.length=ts.length→(∀(j:Nat) τ t,τs[j]? =some τ→ts[j]? =some t→(gA P τ t∧τ.lH=true∧P.readableRec t=true∧t<P.types.size))→
  (∀(j:Nat) t v,ts[j]? =some t→vs[j]? =some v→Value.okWide P w r b0 t v)→
  (∃x:HP (τs.map .v),fR w (fun _=>False) (τs.map .v) x vs∧WFs τs x)∧ ∀w',Below w.heap.size w w'→ ∃AU,DataW.TrodAll enc P w' 0 (fun b=>decide (b<w.heap.size)) true ts vs ds AU
 |[],[],vs,ds,ps,h,_,_,_=>by
  obtain⟨rfl,rfl,rfl⟩:=trodAll_nil h
  exact⟨⟨(),rfl,trivial⟩,fun w' _=>⟨[],rfl⟩⟩
 |τ::τs,t::ts,vs,ds,ps,h,hl,AL,hv=>by
  obtain⟨v,D5,d,ds',p,q,rfl,rfl,rfl,h1,h2⟩:=trodAll_cons h
  obtain⟨tP,ZA,QJ,dF⟩:=AL 0 τ t rfl rfl
  obtain⟨x,hx,hwx⟩:=Zz tP ZA (hv 0 t v rfl rfl) h1
  obtain⟨⟨y,hy,hwy⟩,N7⟩:=BE laid h2 (by simpa using hl) (fun j τ' t' h h'=>AL (j+1) τ' t' (by simpa using h) (by simpa using h')) (fun j t' v' h h'=>hv (j+1) t' v' (by simpa using h) (by simpa using h'))
  refine⟨⟨hpC (m:= .v τ) x y,?_,?_⟩,fun w' hb=> ?_⟩
  ·show fR w _ (.v τ::τs.map .v) _ _
   simp only[fR]
   exact⟨v,D5,rfl,by rw[Ka];exact hx,by rw[Kb];exact hy⟩
  ·simp only[WFs]
   exact⟨by rw[Ka];exact hwx,by rw[Kb];exact hwy⟩
  ·obtain⟨AU,h'⟩:=N7 w' hb
   have qE: ∀z∈p,z.block<w.heap.size:=by
    obtain⟨m,hm⟩:=h1
    exact DataW.trod_lt m _ _ _ hm
   exact⟨p++AU,trodAll_cons_mk (Below.trod laid QJ dF h1 hb qE) h'⟩
 |[],_::_,_,_,_,_,hl,_,_|_::_,[],_,_,_,_,hl,_,_=>by simp at hl
end
end VM
end
section
namespace VM
open Go
variable{α:Type}
noncomputable def ug(L:Nat→Option (List (Nat×CM)))(κ:Nat→St→Option α)(i:Option Nat)(f:St→Option α):St→Option α:=
 match i with
 |none=>f
 |some i=>match L i with
  |none=>f
  |some _=>κ i
noncomputable def N8(E:Env)(κJ κL:Nat→St→Option α)(c:Code):St→(St→Option α)→(Nat→St→Option α)→(St→Option α)→Option α:=
 Code.rec (motive:=fun _=>St→(St→Option α)→(Nat→St→Option α)→(St→Option α)→Option α)
  (fun σ k _ _=>k σ)
  (fun _ ops draw σ k _ _=>xW E ops draw σ k)
  (fun _ b A B σ k kx kr=>A σ (fun σ'=>qx ((bG b).bind E.sk) σ' (ug E.sk κJ (bG b) fun qc=>B qc k kx kr)) kx kr)
  (fun c _ _ A B σ k kx kr=>Bk E c σ (fun σ'=>A σ' k kx kr) (fun σ'=>B σ' k kx kr))
  (fun id _ A σ k kx kr=>A σ k (fun i σ'=>cond (Nat.beq i id) (k σ') (kx i σ')) kr)
  (fun b _ σ _ kx kr=>qx ((bG b).bind E.qt) σ (ug E.qt κL (bG b) (wu ((bG b).bind E.qt) (fun σ' kn=>xX E b σ' kn kx kr) E.N)))
  (fun _ _ _ _ _ _ _ _ _ _=>none)
  (fun id σ _ kx _=>kx id σ)
  (fun _ A σ k kx kr=>A σ k kx kr)
  (fun _ σ k _ _=>k σ)
  (fun _ _ _ _ _=>none)
  (fun σ _ _ kr=>kr σ)
  (fun _ _ _ _ _=>none)
  c
noncomputable def y4(E:Env)(c:Code):(St→Option α)→(Nat→St→Option α)→(St→Option α)→List (Bool×Nat×(St→Option α)):=
 Code.rec (motive:=fun _=>(St→Option α)→(Nat→St→Option α)→(St→Option α)→List (Bool×Nat×(St→Option α)))
  (fun _ _ _=>[])
  (fun _ _ _ _ _ _=>[])
  (fun _ b A B k kx kr=>A (fun σ'=>qx ((bG b).bind E.sk) σ' fun qc=>xX E b qc k kx kr) kx kr++(((bG b).toList.map fun i=>(false,i,fun qc=>xX E b qc k kx kr))++B k kx kr))
  (fun _ _ _ A B k kx kr=>A k kx kr++B k kx kr)
  (fun id _ A k kx kr=>A k (fun i σ'=>cond (Nat.beq i id) (k σ') (kx i σ')) kr)
  (fun b _ _ kx kr=>(bG b).toList.map fun i=>(true,i,wu ((bG b).bind E.qt) (fun σ' kn=>xX E b σ' kn kx kr) E.N))
  (fun _ _ _ _ _ _ _ _ _=>[])
  (fun _ _ _ _=>[])
  (fun _ A k kx kr=>A k kx kr)
  (fun _ _ _ _=>[])
  (fun _ _ _ _=>[])
  (fun _ _ _=>[])
  (fun _ _ _ _=>[])
  c
noncomputable def qL(E:Env)(κJ κL:Nat→St→Option α):List (Bool×Nat×(St→Option α))→List ((St→Option α)×(St→Option α))
 |[]=>[]
 |q::r=>match q.1 with
  |false=>match E.sk q.2.1 with
   |some _=>(κJ q.2.1,q.2.2)::qL E κJ κL r
   |none=>qL E κJ κL r
  |true=>match E.qt q.2.1 with
   |some _=>(κL q.2.1,q.2.2)::qL E κJ κL r
   |none=>qL E κJ κL r
def A0(E:Env)(κJ κL:Nat→St→Option α)(l:List (Bool×Nat×(St→Option α))):Prop:= ∀p∈qL E κJ κL l,p.1=p.2
theorem ZB{E:Env}{κJ κL:Nat→St→Option α}{l:List (Bool×Nat×(St→Option α))}(g:List (St→Option α))(h:qL E κJ κL l=g.map fun f=>(f,f)):A0 E κJ κL l:=by
 intro p hp
 rw[h]at hp
 obtain⟨f,_,rfl⟩:=List.mem_map.1 hp
 rfl
theorem wM{E:Env}{κJ κL:Nat→St→Option α}: ∀(l m:List (Bool×Nat×(St→Option α))),qL E κJ κL (l++m)=qL E κJ κL l++qL E κJ κL m
 |[],m=>rfl
 |(b,i,f)::l,m=>by
  have ih:=wM (E:=E) (κJ:=κJ) (κL:=κL) l m
  cases b<;>simp only[List.cons_append,qL]<;>split<;>simp[ih]
theorem A0.app{E:Env}{κJ κL:Nat→St→Option α}{l m:List (Bool×Nat×(St→Option α))}(h:A0 E κJ κL (l++m)):A0 E κJ κL l∧A0 E κJ κL m:=by
 unfold A0 at*
 rw[wM]at h
 exact⟨fun p hp=>h p (List.mem_append_left _ hp),fun p hp=>h p (List.mem_append_right _ hp)⟩
theorem XR{E:Env}{κJ κL:Nat→St→Option α}{i:Option Nat}{f:St→Option α}(h:A0 E κJ κL (i.toList.map fun i=>(false,i,f))):ug E.sk κJ i f=f:=by
 cases i with
 |none=>rfl
 |some i=>
  simp only[Option.toList,List.map,A0,qL]at h
  unfold ug
  cases hL:E.sk i with
  |none=>simp[hL]
  |some L=>rw[hL]at h;simp only[hL];exact h (κJ i,f) (List.mem_singleton.2 rfl)
theorem aeF{E:Env}{κJ κL:Nat→St→Option α}{i:Option Nat}{f:St→Option α}(h:A0 E κJ κL (i.toList.map fun i=>(true,i,f))):ug E.qt κL i f=f:=by
 cases i with
 |none=>rfl
 |some i=>
  simp only[Option.toList,List.map,A0,qL]at h
  unfold ug
  cases hL:E.qt i with
  |none=>simp[hL]
  |some L=>rw[hL]at h;simp only[hL];exact h (κL i,f) (List.mem_singleton.2 rfl)
theorem N9{E:Env}{κJ κL:Nat→St→Option α}(c:Code): ∀(k:St→Option α) (kx:Nat→St→Option α) (kr:St→Option α) (σ:St),A0 E κJ κL (y4 E c k kx kr)→N8 E κJ κL c σ k kx kr=xX E c σ k kx kr:=by
 induction c with
 |skip=>intros;rfl
 |region=>intros;rfl
 |seq a b Zy No=>
  intro k kx kr σ h
  obtain⟨h1,h2⟩:=A0.app (h:A0 E κJ κL (y4 E a _ kx kr++(((bG b).toList.map fun i=>(false,i,fun qc=>xX E b qc k kx kr))++y4 E b k kx kr)))
  obtain⟨h2,h3⟩:=A0.app h2
  show N8 E κJ κL a σ (fun σ'=>qx ((bG b).bind E.sk) σ' (ug E.sk κJ (bG b) fun qc=>N8 E κJ κL b qc k kx kr)) kx kr=xX E a σ (fun σ'=>qx ((bG b).bind E.sk) σ' fun qc=>xX E b qc k kx kr) kx kr
  have hb:(fun qc=>N8 E κJ κL b qc k kx kr)=fun qc=>xX E b qc k kx kr:=funext fun qc=>No k kx kr qc h3
  rw[hb,XR h2]
  exact Zy _ _ _ _ h1
 |cond x a b Zy No=>
  intro k kx kr σ h
  obtain⟨h1,h2⟩:=A0.app (h:A0 E κJ κL (y4 E a k kx kr++y4 E b k kx kr))
  show Bk E x σ (fun σ'=>N8 E κJ κL a σ' k kx kr) (fun σ'=>N8 E κJ κL b σ' k kx kr)=Bk E x σ (fun σ'=>xX E a σ' k kx kr) (fun σ'=>xX E b σ' k kx kr)
  rw[show(fun σ'=>N8 E κJ κL a σ' k kx kr)=fun σ'=>xX E a σ' k kx kr from funext fun σ'=>Zy k kx kr σ' h1,show(fun σ'=>N8 E κJ κL b σ' k kx kr)=fun σ'=>xX E b σ' k kx kr from funext fun σ'=>No k kx kr σ' h2]
 |block id x ih=>intro k kx kr σ h;exact ih _ _ _ σ h
 |loop b _=>
  intro k kx kr σ h
  show qx ((bG b).bind E.qt) σ (ug E.qt κL (bG b) (wu ((bG b).bind E.qt) (fun σ' kn=>xX E b σ' kn kx kr) E.N))=qx ((bG b).bind E.qt) σ (wu ((bG b).bind E.qt) (fun σ' kn=>xX E b σ' kn kx kr) E.N)
  rw[aeF (h:A0 E κJ κL ((bG b).toList.map fun i=>(true,i,_)))]
 |rangeFunc=>intros;rfl
 |exit=>intros;rfl
 |scope x ih=>intro k kx kr σ h;exact ih _ _ _ σ h
 |label=>intros;rfl
 |goto=>intros;rfl
 |ret=>intros;rfl
 |refuse=>intros;rfl
noncomputable def jR(E:Env)(κJ κL:Nat→St→Option α):List Nat→Code→List (St→Option α)→St→(St→Option α)→(Nat→St→Option α)→(St→Option α)→Option α
 |[],c,_,σ,k,kx,kr=>N8 E κJ κL c σ k kx kr
 |n::p,c,ks,σ,k,kx,kr=>match c with
  | .seq a b=>match n with
   |0=>jR E κJ κL p a ks σ (fun σ'=>qx ((bG b).bind E.sk) σ' (ug E.sk κJ (bG b) fun qc=>N8 E κJ κL b qc k kx kr)) kx kr
   |_=>jR E κJ κL p b ks σ k kx kr
  | .cond _ a b=>match n with
   |0=>jR E κJ κL p a ks σ k kx kr
   |_=>jR E κJ κL p b ks σ k kx kr
  | .block id c=>jR E κJ κL p c ks σ k (fun i σ'=>cond (Nat.beq i id) (k σ') (kx i σ')) kr
  | .loop b=>match ks with
   |κ::ks=>jR E κJ κL p b ks σ κ kx kr
   |[]=>none
  | .scope c=>jR E κJ κL p c ks σ k kx kr
  |_=>none
noncomputable def eE(E:Env):List Nat→Code→List (St→Option α)→(St→Option α)→(Nat→St→Option α)→(St→Option α)→List (Bool×Nat×(St→Option α))
 |[],c,_,k,kx,kr=>y4 E c k kx kr
 |n::p,c,ks,k,kx,kr=>match c with
  | .seq a b=>match n with
   |0=>((bG b).toList.map fun i=>(false,i,fun qc=>xX E b qc k kx kr))++(y4 E b k kx kr++eE E p a ks (fun σ'=>qx ((bG b).bind E.sk) σ' fun qc=>xX E b qc k kx kr) kx kr)
   |_=>eE E p b ks k kx kr
  | .cond _ a b=>match n with
   |0=>eE E p a ks k kx kr
   |_=>eE E p b ks k kx kr
  | .block id c=>eE E p c ks k (fun i σ'=>cond (Nat.beq i id) (k σ') (kx i σ')) kr
  | .loop b=>match ks with
   |κ::ks=>eE E p b ks κ kx kr
   |[]=>[]
  | .scope c=>eE E p c ks k kx kr
  |_=>[]
theorem js{E:Env}{κJ κL:Nat→St→Option α}: ∀(p:List Nat) (c:Code) (ks:List (St→Option α)) (k:St→Option α) (kx:Nat→St→Option α) (kr:St→Option α) (σ:St),A0 E κJ κL (eE E p c ks k kx kr)→
  jR E κJ κL p c ks σ k kx kr=qd E p c ks σ k kx kr
 |[],c,ks,k,kx,kr,σ,h=>N9 c k kx kr σ h
 |n::p,c,ks,k,kx,kr,σ,h=>by
  cases c with
  |seq a b=>
   cases n with
   |zero=>
    simp only[jR,qd,eE]at h ⊢
    obtain⟨h1,h2⟩:=A0.app h
    obtain⟨h2,h3⟩:=A0.app h2
    rw[show(fun qc=>N8 E κJ κL b qc k kx kr)=fun qc=>xX E b qc k kx kr from funext fun qc=>N9 b k kx kr qc h2,XR h1]
    exact js p a ks _ kx kr σ h3
   |succ n=>simp only[jR,qd,eE]at h ⊢;exact js p b ks k kx kr σ h
  |cond x a b=>
   cases n with
   |zero=>simp only[jR,qd,eE]at h ⊢;exact js p a ks k kx kr σ h
   |succ n=>simp only[jR,qd,eE]at h ⊢;exact js p b ks k kx kr σ h
  |block id x=>simp only[jR,qd,eE]at h ⊢;exact js p x ks k _ kr σ h
  |loop b=>
   cases ks with
   |nil=>simp only[jR,qd]
   |cons κ ks=>simp only[jR,qd,eE]at h ⊢;exact js p b ks κ kx kr σ h
  |scope x=>simp only[jR,qd,eE]at h ⊢;exact js p x ks k kx kr σ h
  |_=>simp only[jR,qd]
noncomputable def y5(fn:Func):Code:=fn.body.getD .skip
noncomputable def E2(E:Env)(fn:Func)(args res:List AM):St→Option (HP res):=fun σ=>Cy E res (fn.results.toList.map .inl++vr args 0) σ some
noncomputable def nox:Nat→St→Option α:=fun _ _=>none
noncomputable def aq9:St→Option α:=fun _=>none
noncomputable def ZC(E:Env)(fn:Func)(args res:List AM)(p:List Nat)(ks:List (St→Option (HP res)))(σ:St):Option (HP res):=
 qd E p (y5 fn) ks σ (E2 E fn args res) nox (E2 E fn args res)
noncomputable def atQ(E:Env)(fn:Func)(args res:List AM)(κJ κL:Nat→St→Option (HP res))(p:List Nat)(ks:List (St→Option (HP res)))(σ:St):Option (HP res):=
 jR E κJ κL p (y5 fn) ks σ (E2 E fn args res) nox (E2 E fn args res)
noncomputable def RI(E:Env)(fn:Func)(args res:List AM)(p:List Nat)(ks:List (St→Option (HP res))):List (Bool×Nat×(St→Option (HP res))):=
 eE E p (y5 fn) ks (E2 E fn args res) nox (E2 E fn args res)
theorem aj6{E:Env}{fn:Func}{args res:List AM}{κJ κL:Nat→St→Option (HP res)}{p:List Nat}{ks:List (St→Option (HP res))}(g:List (St→Option (HP res)))(h:qL E κJ κL (RI E fn args res p ks)=g.map fun f=>(f,f))(σ:St):
 ZC E fn args res p ks σ=atQ E fn args res κJ κL p ks σ:=(js p _ ks _ _ _ σ (ZB g h)).symm
theorem ZD{E:Env}{fn:Func}{args res:List AM}(hb:fn.body.isSome=true)(x:HP args):Eo E fn args res x=ZC E fn args res [] [] (entry args x 0 S0):=by
 unfold Eo ZC y5
 cases h:fn.body with
 |none=>rw[h]at hb;cases hb
 |some c=>rfl
noncomputable def lpF(E:Env)(fn:Func)(args res:List AM)(c:List (Nat×CM))(p:List Nat)(ks:List (St→Option (HP res)))(n:Nat):St→Option (HP res):=
 wu (some c) (fun σ kn=>ZC E fn args res p (ks++[kn]) σ) n
theorem Oa(E:Env)(fn:Func)(args res:List AM)(c:List (Nat×CM))(p:List Nat)(ks:List (St→Option (HP res)))(n:Nat)(σ:St):
 lpF E fn args res c p ks (n+1) σ=ZC E fn args res p (ks++[fun σ'=>qx (some c) σ' (lpF E fn args res c p ks n)]) σ:=rfl
def Ob{β:Type}(κ:Nat→β):List (Nat×β)→Prop
 |[]=>True
 |q::r=>κ q.1=q.2∧Ob κ r
def LB{β:Type}:List (β×β)→Prop
 |[]=>True
 |q::r=>q.1=q.2∧LB r
theorem LB.mem{β:Type}: ∀{l:List (β×β)},LB l→ ∀p∈l,p.1=p.2
 |q::r,h,p,hp=>by
  rcases List.mem_cons.1 hp with rfl|hp
  ·exact h.1
  ·exact LB.mem h.2 p hp
theorem aeG{β:Type}(d:β): ∀(l:List (Nat×β)),(l.map (·.1)).Nodup→ ∃κ:Nat→β,Ob κ l
 |[],_=>⟨fun _=>d,trivial⟩
 |q::r,h=>by
  rw[List.map_cons,List.nodup_cons]at h
  obtain⟨κ,hκ⟩:=aeG d r h.2
  refine⟨fun i=>if i=q.1 then q.2 else κ i,by simp,?_⟩
  have key: ∀(r':List (Nat×β)),(∀p∈r',p∈r)→Ob κ r'→Ob (fun i=>if i=q.1 then q.2 else κ i) r':=by
   intro r'
   induction r' with
   |nil=>intros;trivial
   |cons p r' ih=>
    intro hm ha
    refine⟨?_,ih (fun p' Bm=>hm p' (List.mem_cons_of_mem _ Bm)) ha.2⟩
    have g9:p.1≠q.1:=fun e=>h.1 (e▸List.mem_map_of_mem (hm p (List.mem_cons_self ..)))
    show(if p.1=q.1 then q.2 else κ p.1)=p.2
    rw[if_neg g9]
    exact ha.1
  exact key r (fun _ h=>h) hκ
theorem aoR{β:Type}(d:β)(l:List (Nat×β)){ks:List Nat}(h:l.map (·.1)=ks)(hd:ks.Nodup): ∃κ:Nat→β,Ob κ l:=aeG d l (h▸hd)
theorem at_eq(E:Env)(fn:Func)(args res:List AM){κJ κL:Nat→St→Option (HP res)}{p:List Nat}{ks:List (St→Option (HP res))}{l:List ((St→Option (HP res))×(St→Option (HP res)))}(h:qL E κJ κL (RI E fn args res p ks)=l)(hl:LB l)(σ:St):
 ZC E fn args res p ks σ=atQ E fn args res κJ κL p ks σ:=(js p _ ks _ _ _ σ (by unfold A0;rw[show qL E κJ κL (eE E p (y5 fn) ks (E2 E fn args res) nox (E2 E fn args res))=l from h];exact hl.mem)).symm
end VM
end
section
namespace VM
open Go Go.RowKit
variable{P:Program}
def E3(i:Nat):List (Nat×Ty)→Option Ty
 |[]=>none
 |q::r=>cond (Nat.beq i q.1) (some q.2) (E3 i r)
theorem BF{i:Nat}{τ:Ty}: ∀{l:List (Nat×Ty)},E3 i l=some τ→(i,τ)∈l
 |q::r,h=>by
  unfold E3 at h
  cases hb:Nat.beq i q.1<;>rw[hb]at h
  ·exact List.mem_cons_of_mem _ (BF h)
  ·cases h;rw[Nat.eq_of_beq_eq_true hb];exact List.mem_cons_self ..
structure y6(P:Program)(tab:List (Nat×Ty)):Prop where
 ok:aeA P tab=true
 mixed:P.follows .mixedOrders=true
theorem LC{E:Env}(hE:nW P E)(aj8:E.io=[]){f:FuncId}{fn:Func}(hf:P.funcs[f]? =some fn)(τs:List Ty)
  (hc:(Nat.beq E.nt fn.ntmps&&Nat.ble τs.length E.nt)=true) {w:World} {vs:List Value} {x:HP (τs.map .v)} (hA:fR w (fun _=>False) (τs.map .v) x vs)
  (h:Eo E fn (τs.map .v) [.v .bool] x=some true):Calls P f vs.toArray w fun e w'=>e= .returned (.bool true)∧Below w.heap.size w w':=by
 rw[Bool.and_eq_true]at hc
 have hnt:=Nat.eq_of_beq_eq_true hc.1
 have hlen:=Nat.le_of_ble_eq_true hc.2
 have hh: ∀(τs:List Ty) (vs:List Value),cG (τs.map .v) vs=[]:=by
  intro τs
  induction τs with
  |nil=>intro vs;cases vs<;>rfl
  |cons τ τs ih=>intro vs;cases vs with
   |nil=>rfl
   |cons v vs=>simp[cG,ct,ih]
 have hi: ∀(τs:List Ty) (vs:List Value),du (τs.map .v) vs=[]:=by
  intro τs
  induction τs with
  |nil=>intro vs;cases vs<;>rfl
  |cons τ τs ih=>intro vs;cases vs with
   |nil=>rfl
   |cons v vs=>simp[du,AM.fG,ih]
 refine(BB (M0:=fun _=>False) (vs:=vs) hE hf hnt (fun i m hm rC=> ?_) (fun i hi=>by rw[aj8]at hi;cases hi) (by rw[List.length_map];rw[←hnt];exact hlen) (fun b hb=>hb.elim) (by rw[hh];simpa using hA) (by rw[hh];exact List.nodup_nil) (fun b _ hb=>hb) h).mono ?_
 ·rw[List.getElem?_map]at hm
  obtain⟨τ,_,rfl⟩:=Option.map_eq_some_iff.1 hm
  cases rC
 ·rintro e w' ⟨v,rfl,us,M',rfl,M8,hL,_,_⟩
  rw[hh]at hL
  rw[hi]at M8
  simp only[RR]at M8
  rcases M8 with⟨p,AU,h1,_⟩|⟨v,D5,_,_,rfl,hv,rfl,_⟩
  ·cases h1
  ·refine⟨?_,hL.os,hL.tape,hL.output,hL.size,fun b hb=>hL.frame b hb (by simp)⟩
   have:v= .bool true:=by
    simp only[A1,V,Ty.isAgg,Bool.false_eq_true,if_false,Rd,List.cons.injEq,and_true]at hv
    exact hv
   rw[this];rfl
def Oc(P:Program):List Ty→List TypeId→Bool
 |[],[]=>true
 |τ::τs,t::ts=>(oL P τ (.inl t)&&τ.lH)&&((P.readableRec t&&decide (t<P.types.size))&&Oc P τs ts)
 |_,_=>false
theorem CW: ∀{τs:List Ty} {ts:List TypeId},Oc P τs ts=true→τs.length=ts.length∧ ∀(j:Nat) τ t,τs[j]? =some τ→ts[j]? =some t→(gA P τ t∧τ.lH=true∧P.readableRec t=true∧t<P.types.size)
 |[],[],_=>⟨rfl,fun j τ t h=>by simp at h⟩
 |τ::τs,t::ts,h=>by
  simp only[Oc,Bool.and_eq_true]at h
  obtain⟨⟨h1,h2⟩,⟨h3,h4⟩,h5⟩:=h
  obtain⟨hl,ih⟩:=CW h5
  refine⟨by simp[hl],fun j τ' t' ha hb=> ?_⟩
  cases j with
  |zero=>
   simp only[List.getElem?_cons_zero,Option.some.injEq]at ha hb
   subst ha;subst hb
   exact⟨eo h1,h2,h3,of_decide_eq_true h4⟩
  |succ j=>exact ih j τ' t' (by simpa using ha) (by simpa using hb)
 |[],_::_,h|_::_,[],h=>by simp[Oc]at h
theorem Od{H:Type}{enc:TypeId×Value→H}{w:World}{fn:Func}{args:Array Value}{ds:List (DataW H)}{ps:List MemPlace}{r:Reach}{b0:Nat}(laid:laidOutB P=true)(τs:List Ty)
  (hA:DataW.TrodAll enc P w 0 (fun _=>true) true fn.params.toList args.toList ds ps) (AL:Oc P τs fn.params.toList=true)
  (hv: ∀(j:Nat) t v,fn.params[j]? =some t→args[j]? =some v→Value.okWide P w r b0 t v):
  (∃x:HP (τs.map .v),fR w (fun _=>False) (τs.map .v) x args.toList∧WFs τs x)∧ ∀w',Below w.heap.size w w'→ ∃AU,DataW.TrodAll enc P w' 0 (fun b=>decide (b<w.heap.size)) true fn.params.toList args.toList ds AU:=
 BE laid hA (CW AL).1 (CW AL).2 (fun j t v h h'=>hv j t v (by rw[Array.getElem?_toList]at h;exact h) (by rw[Array.getElem?_toList]at h';exact h'))
end VM
end
