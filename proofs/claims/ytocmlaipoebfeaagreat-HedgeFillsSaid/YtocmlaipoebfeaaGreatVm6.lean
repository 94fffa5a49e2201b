/- A part of the proof of HedgeFills of layer 22: a machine that reads a function of the program as an equation between values. -/
import Derived.Test.YtocmlaipoebfeaaGreatVm5
import Derived.Laws.StructEq
import Derived.OpenShut
import Derived.ChangeShapes
import Derived.ChangeMaps5
import Derived.RowKit
import Derived.ChangeOld
import Derived.Carry
import Derived.Below
import Derived.Test.YtocmlaipoebfeaaGreatVm0
set_option linter.all false
section
namespace VM
open Go
variable{P:Program}{E:Env}{o:Oper}{a:Act}{w:World}{M:Nat→Prop}{ν:Nat→Value}{σ:St}{c:Ctx}{α:Type}{r:α}{next:Act→World→Prop}{Q:Exit→Act→World→Prop}
theorem xB{L:Option (List (Nat×CM))}(hL: ∀L',L=some L'→gF L'=true){b:Code}{Q:Exit→Act→World→Prop}{step:St→(St→Option α)→Option α}
  (hs: ∀σ a w kn (Q':Exit→Act→World→Prop),Inv c E σ a w→step σ kn=some r→(∀σ' a' w',kn σ'=some r→Inv c E σ' a' w'→Q' .normal a' w')→(∀e a' w',e≠ .normal→Q e a' w'→Q' e a' w')→b.wp P Q' a w):
  ∀n σ a w,Inv c E σ a w→xk L step n σ=some r→Code.rounds P b Q n a w
 |0,σ,a,w,_,h=>by cases h
 |n+1,σ,a,w,hI,h=>by
  rw[rounds_succ]
  refine hs σ a w _ _ hI h (fun σ' a' w' h' tE=> ?_) (fun e a' w' he hq=> ?_)
  ·obtain⟨rn,L1,abU⟩:=tU tE hL h'
   exact xB hL hs n rn a' w' abU L1
  ·cases e<;>first|exact hq|exact absurd rfl he
theorem NI(hE:pN P E): ∀(cd:Code) (σ:St) (a:Act) (w:World) (k:St→Option α) (kx:Nat→St→Option α) (kr:St→Option α) (Q:Exit→Act→World→Prop),Inv c E σ a w→yW E cd σ k kx kr=some r→
  (∀σ' a' w',k σ'=some r→Inv c E σ' a' w'→Q .normal a' w')→(∀i σ' a' w',kx i σ'=some r→Inv c E σ' a' w'→Q (.exit i) a' w')→(∀σ' a' w',kr σ'=some r→Inv c E σ' a' w'→Q .ret a' w')→cd.wp P Q a w:=by
 intro cd
 induction cd with
 |skip=>intro σ a w k kx kr Q hI h hk _ _;exact wp_skip (hk σ a w h hI)
 |region id ops draw=>intro σ a w k kx kr Q hI h hk _ _;exact B0 hE hI h hk
 |seq x y ihx ihy=>
  intro σ a w k kx kr Q hI h hk hx hr
  refine wp_seq (ihx σ a w _ kx kr _ hI h (fun σ' a' w' h' tE=> ?_) hx hr)
  obtain⟨rn,L1,abU⟩:=tU tE (fun L' hL=>by
   cases hf:bS y with
   |none=>rw[hf]at hL;cases hL
   |some i=>rw[hf]at hL;exact hE.P3 i L' hL) h'
  exact ihy rn a' w' k kx kr Q abU L1 hk hx hr
 |cond x t e iht ihe=>
  intro σ a w k kx kr Q hI h hk hx hr
  obtain⟨b,hb,h⟩:=Ga (E:=E) (A:=fun σ'=>yW E t σ' k kx kr) (B:=fun σ'=>yW E e σ' k kx kr) hI h
  refine wp_cond hb ?_
  cases b
  ·exact ihe σ a w k kx kr Q hI h hk hx hr
  ·exact iht σ a w k kx kr Q hI h hk hx hr
 |block id x ih=>
  intro σ a w k kx kr Q hI h hk hx hr
  refine wp_block (ih σ a w k _ kr _ hI h hk (fun i σ' a' w' h' tE=> ?_) hr)
  show if i=id then Q .normal a' w' else Q (.exit i) a' w'
  cases hb:Nat.beq i id
  ·have gi:i≠id:=fun e=>by subst e;rw[show Nat.beq i i=true from Nat.beq_refl i]at hb;cases hb
   rw[hb]at h'
   rw[if_neg gi]
   exact hx i σ' a' w' h' tE
  ·rw[hb]at h'
   rw[if_pos (Nat.eq_of_beq_eq_true hb)]
   exact hk σ' a' w' h' tE
 |loop b ih=>
  intro σ a w k kx kr Q hI h hk hx hr
  have hL: ∀L',(bS b).bind E.rE=some L'→gF L'=true:=fun L' hL=>by
   cases hf:bS b with
   |none=>rw[hf]at hL;cases hL
   |some i=>rw[hf]at hL;exact hE.gF i L' hL
  obtain⟨σ',h',tE⟩:=tU hI hL h
  refine wp_loop_rounds E.N (xB hL (fun σ a w kn Q' hI h hkn hq=> ?_) E.N σ' a w tE h')
  exact ih σ a w kn kx kr Q' hI h hkn (fun i σ' a' w' h' tE=>hq _ _ _ (by simp) (hx i σ' a' w' h' tE)) (fun σ' a' w' h' tE=>hq _ _ _ (by simp) (hr σ' a' w' h' tE))
 |rangeFunc f ps x y ihx ihy=>intro σ a w k kx kr Q hI h;cases h
 |exit id=>intro σ a w k kx kr Q hI h hk hx hr;exact wp_exit (hx id σ a w h hI)
 |scope x ih=>
  intro σ a w k kx kr Q hI h hk hx hr
  exact wp_scope_straight (ih σ a w k kx kr _ hI h hk hx hr)
 |label l=>intro σ a w k kx kr Q hI h hk _ _;exact wp_label (hk σ a w h hI)
 |goto l=>intro σ a w k kx kr Q hI h;cases h
 |ret=>intro σ a w k kx kr Q hI h hk hx hr;exact wp_ret (hr σ a w h hI)
 |refuse s=>intro σ a w k kx kr Q hI h;cases h
end VM
end
section
namespace VM
open Go
variable{P:Program}{E:Env}{o:Oper}{a:Act}{w:World}{M:Nat→Prop}{ν:Nat→Value}{σ:St}{c:Ctx}{α:Type}{r:α}{next:Act→World→Prop}{Q:Exit→Act→World→Prop}
theorem Kd{m:AM}{ms:List AM}(x:HP (m::ms))(i:Nat)(σ:St):entry (m::ms) x i σ=entry ms (wh x) (i+1) (JX m (rz x) i σ):=by
 cases ms with
 |nil=>simp[entry,rz]
 |cons n ms=>simp[entry,rz,wh]
theorem Core.xw{tm:Array Value}(h:Core c σ tm w M ν){id:Nat}{v:Value}{e:aR}(aU:σ.H id=none)(Nf:ER w M v e)
  (hd: ∀b,ez v=some b→ ∀i e',σ.H i=some e'→e'.mut→ez (ν i)≠some b) (hn: ∀b,ez v=some b→c.B≤b∨c.may b) (ho: ∀b e0 l0,e= .own e0 l0→ez v=some b→ ¬c.M0 b)
  (pH: ∀τ x p j,e= .dW τ x p j→bs σ.H id (some e) j≠none∧ ∃b,v= .pointer (some ⟨b,0,none⟩)∧w.cell? ⟨b,bM p τ,none⟩=some (cr ν id v j):=by intro _ _ _ _ h;cases h):
  Core c ⟨σ.T,bs σ.H id (some e)⟩ tm w M (cr ν id v):=by
 have hm:=Mem.xw h.mem (id:=id) (v:=v) (e:=e) (fun e' tC=>by rw[aU]at tC;cases tC) Nf hd hn ho (.inl aU) pH
 refine h.tr ⟨hm,.refl w M,⟨fun i e1 hi=> ?_,fun i hi=> ?_⟩⟩
 ·have bu:i≠id:=fun e=>by rw[e,aU]at hi;cases hi
  exact⟨e1,by rw[an _ _ bu];exact hi,.refl e1⟩
 ·have bu:i≠id:=fun e=>hi (e▸aU)
  simp[cr,bu]
theorem Core.put{tm:Array Value}(h:Core c σ tm w M ν){d:Nat}{x:a6}(hx:VR w M σ.H ν x (tm.getD d undef)):Core c (σ.put d x) tm w M ν:=by
 refine⟨h.mem,fun i=> ?_⟩
 by_cases hi:i=d
 ·subst hi;rw[qk];exact hx
 ·rw[u9 _ _ hi];exact h.tmp i
theorem xC{tm:Array Value}: ∀{ms:List AM} {x:HP ms} {vs:List Value} {i:Nat} {σ:St} {ν:Nat→Value} {used:List Nat},Core c σ tm w M ν→gj w M ms x vs→(∀j v,vs[j]? =some v→tm.getD (i+j) undef=v)→
  (∀j,16*i≤j→σ.H j=none)→(∀j e b,σ.H j=some e→e.mut→ez (ν j)=some b→b∈used)→(used++cK ms vs).Nodup→(∀b∈cK ms vs,c.may b)→(∀b,c.may b→ ¬c.M0 b)→
  ∃ν',Core c (entry ms x i σ) tm w M ν'
 |[],x,vs,i,σ,ν,used,h,_,_,_,_,_,_,_=>⟨ν,h⟩
 |m::ms,x,vs,i,σ,ν,used,h,hA,JH,iG,Cz,u7,Ke,FN=>by
  rw[Kd]
  simp only[gj]at hA
  obtain⟨v,Ft,rfl,h1,h2⟩:=hA
  have hv:tm.getD i undef=v:=by simpa using JH 0 v rfl
  have Gj: ∀j u,Ft[j]? =some u→tm.getD (i+1+j) undef=u:=fun j u hj=>by
   have:=JH (j+1) u (by simpa using hj)
   rwa [show i+(j+1)=i+1+j from by omega]at this
  have aU:σ.H (16*i+15)=none:=iG _ (by omega)
  have abV:cK (m::ms) (v::Ft)=cD m v++cK ms Ft:=rfl
  rw[abV]at u7 Ke
  have rR: ∀b,b∈cD m v→ ∀j e',σ.H j=some e'→e'.mut→ez (ν j)≠some b:=fun b hb j e' hj gB dF=>
   m8 u7 (Cz j e' b hj gB dF) (List.mem_append_left _ hb)
  have tD: ∀{σ':St} {ν':Nat→Value},Core c σ' tm w M ν'→(∀j,16*(i+1)≤j→σ'.H j=none)→(∀j e b,σ'.H j=some e→e.mut→ez (ν' j)=some b→b∈used++cD m v)→ ∃ν'',Core c (entry ms (wh x) (i+1) σ') tm w M ν'':=
   fun h' we Ua=>xC h' h2 Gj we Ua (by rw[List.append_assoc];exact u7) (fun b hb=>Ke b (List.mem_append_right _ hb)) FN
  have Nz: ∀(e:aR) (v':Value),v'=v→(∀b,ez v=some b→b∈cD m v)→(∀j,16*(i+1)≤j→bs σ.H (16*i+15) (some e) j=none)∧
    (∀j e1 b,bs σ.H (16*i+15) (some e) j=some e1→e1.mut→ez (cr ν (16*i+15) v' j)=some b→b∈used++cD m v):=by
   rintro e v' rfl hb
   refine⟨fun j hj=>by rw[an _ _ (by omega)];exact iG j (by omega),fun j e1 b hj gB dF=> ?_⟩
   by_cases tX:j=16*i+15
   ·subst tX
    simp only[cr,if_true]at dF
    exact List.mem_append_right _ (hb b dF)
   ·rw[an _ _ tX]at hj
    simp only[cr,tX,if_false]at dF
    exact List.mem_append_left _ (Cz j e1 b hj gB dF)
  cases m with
  |v τ=>
   refine tD (σ':=σ.put i (.val τ (rz x))) (h.put ?_) (fun j hj=>iG j (by omega)) (fun j e b hj gB dF=>List.mem_append_left _ (Cz j e b hj gB dF))
   simp only[VR,hv];exact h1
  |fn f τ=>
   refine tD (σ':=σ.put i (.FE f (mz τ (rz x)))) (h.put ?_) (fun j hj=>iG j (by omega)) (fun j e b hj gB dF=>List.mem_append_left _ (Cz j e b hj gB dF))
   rw[hv]
   simp only[A1,VR]at h1 ⊢
   obtain⟨us,hu,JC⟩:=h1
   exact⟨us,hu,fQ.free JC⟩
  |own e=>
   have uF: ∀b,ez v=some b→b∈cD (.own e) v:=fun b hb=>by simp[cD,hb]
   have hc:=h.xw aU (v:=v) (e:= .own e (rz x)) h1 (fun b hb=>rR b (uF b hb)) (fun b hb=> .inr (Ke b (List.mem_append_left _ (uF b hb)))) (fun b _ _ _ hb=>FN b (Ke b (List.mem_append_left _ (uF b hb))))
   obtain⟨we,Ua⟩:=Nz (.own e (rz x)) v rfl uF
   refine tD (σ':=(σ.put i (.ref (16*i+15))).iv (16*i+15) (some (.own e (rz x)))) (ν':=cr ν (16*i+15) v) (hc.put (d:=i) (x:= .ref (16*i+15)) ?_) we Ua
   simp only[VR,hv]
   exact⟨by rw[ak];simp,by simp[cr]⟩
  |io τ=>
   have uF: ∀b,ez v=some b→b∈cD (.io τ) v:=fun b hb=>by simp[cD,hb]
   have hc:=h.xw aU (v:=v) (e:= .obj τ (rz x)) h1 (fun b hb=>rR b (uF b hb)) (fun b hb=> .inr (Ke b (List.mem_append_left _ (uF b hb)))) (fun b _ _ he=>by cases he)
   obtain⟨we,Ua⟩:=Nz (.obj τ (rz x)) v rfl uF
   refine tD (σ':=(σ.put i (.fP (16*i+15) [])).iv (16*i+15) (some (.obj τ (rz x)))) (ν':=cr ν (16*i+15) v) (hc.put (d:=i) (x:= .fP (16*i+15) []) ?_) we Ua
   simp only[A1,ER]at h1
   obtain⟨b,cs,t,P0,_⟩:=h1
   simp only[VR,hv]
   exact⟨_,ak _ _ _,trivial,b,by simp[cr,P0],P0⟩
  |fP τ=>
   refine tD (σ':=σ.put i (.nk τ (rz x))) (h.put ?_) (fun j hj=>iG j (by omega)) (fun j e b hj gB dF=>List.mem_append_left _ (Cz j e b hj gB dF))
   rw[hv]
   simp only[A1,VR]at h1 ⊢
   exact h1
  |ptr τ=>
   refine tD (σ':=σ) h (fun j hj=>iG j (by omega)) (fun j e b hj gB dF=>List.mem_append_left _ (Cz j e b hj gB dF))
def rS(tm:Array Value):ResultVar→Sem Value
 | .tmp t=>pure (tm.getD t undef)
 | .cell x t=>do loadVar t (←asAddr (tm.getD x undef))
def yA(P:Program)(tm:Array Value)(w:World)(rv:ResultVar)(u:Value):Prop:=(rS tm rv).run P w= .ok u w
def Fv(P:Program)(tm:Array Value)(w:World):List (ResultVar ⊕ Nat)→List Value→List Value→Prop
 |[],us,ps=>us=[]∧ps=[]
 | .inl rv::rs,us,ps=> ∃u D1,us=u::D1∧yA P tm w rv u∧Fv P tm w rs D1 ps
 | .inr i::rs,us,ps=> ∃p BV,ps=p::BV∧p=tm.getD i undef∧Fv P tm w rs us BV
theorem Core.Ub{tm:Array Value}{H1:Nat→Option aR}{M1:Nat→Prop}(h: ∀i,VR w M σ.H ν (σ.T i) (tm.getD i undef))(k:dp w M w M1)(g:ph σ.H ν H1 ν): ∀i,VR w M1 H1 ν (σ.T i) (tm.getD i undef):=
 fun i=>VR.bx k g (h i)
theorem xD(hE:EnvTy P E){tm:Array Value}{H0 Hq:Nat→Option aR}{M1:Nat→Prop}{uo uf:fF}{io:List (Nat×Ty)}{hs:List Nat}(h:iF c w M ν H0 σ.H Hq M1 uo uf io hs)(ht: ∀i,VR w M1 σ.H ν (σ.T i) (tm.getD i undef))
  {m:AM} {rs:ResultVar ⊕ Nat} {k:m.den→St→Option α} (hk:Co E m rs σ k=some r):
  ∃y σ' Fk Fl Bz Pq M2 u,k y σ'=some r∧σ'.T=σ.T∧iF c w M ν H0 σ'.H Pq M2 Fk Fl Bz (hs++cD m u)∧dp w M1 w M2∧ph σ.H ν σ'.H ν∧A1 w M2 m y u∧
   ((m.fR=false∧m.TQ=false∧ ∃rv,rs= .inl rv∧yA P tm w rv u)∨(m.fR=true∧ ∃i,rs= .inr i∧u=tm.getD i undef)):=by
 unfold Co at hk
 split at hk
 ·
  rename_i τ t k
  obtain⟨y,rd,ups,hk,hy⟩:=y3 h.mem (ht t) hk
  have Kf:yA P tm w (.tmp t) (tm.getD t undef):=by simp[yA,rS]
  rcases hy with⟨rfl,hV⟩|⟨id,e,l,rfl,aU,hV⟩
  ·exact⟨y,σ,uo,uf,io,Hq,M1,_,hk,rfl,by simpa [cD]using h,.refl w M1,.refl _ ν,hV,.inl ⟨rfl,rfl,_,rfl,Kf⟩⟩
  ·obtain⟨M2,hA,hK,DU⟩:=h.freeze aU
   exact⟨y,_,uo,_,io,Hq,M2,_,hk,rfl,(by simp only[cD,List.append_nil];exact hA),hK,.upd aU ⟨rfl,rfl⟩,hV M2 DU,.inl ⟨rfl,rfl,_,rfl,Kf⟩⟩
 ·
  rename_i τ x t k
  split at hk
  ·rename_i τ' BP
   obtain⟨e1,hk1⟩:=dN hk
   clear hk
   subst e1
   obtain⟨υ,z,rd,hk,b,off,cs,hv,ld,iq⟩:=xp h.mem (ht x) hk1
   obtain⟨e2,Td⟩:=bc hk
   subst e2
   refine⟨_,σ,uo,uf,io,Hq,M1,bQ _ cs,Td,rfl,by simpa [cD]using h,.refl w M1,.refl _ ν,V.bQ iq,.inl ⟨rfl,rfl,_,rfl,?_⟩⟩
   simp only[yA,rS,hv]
   simp[asAddr,xn (hE.ty t _ BP) ld iq]
  ·cases hk
 ·
  rename_i e t k
  have hv:=ht t
  have Kf:yA P tm w (.tmp t) (tm.getD t undef):=by simp[yA,rS]
  split at hk
  ·rename_i hT
   rw[hT]at hv
   obtain⟨ad,hv⟩:=VR.emp.1 hv
   have hb:ez (.slice ad 0 0)=none:=by cases ad<;>simp[ez]
   exact⟨[],σ,uo,uf,io,Hq,M1,_,hk,rfl,by rw[hv];simpa [cD,hb]using h,.refl w M1,.refl _ ν,by rw[hv];simp only[A1,ER];exact .inl ⟨trivial,ad,rfl⟩,.inl ⟨rfl,rfl,_,rfl,Kf⟩⟩
  ·rename_i id hT
   rw[hT]at hv
   simp only[VR]at hv
   split at hk
   ·rename_i e' l aU
    obtain⟨e1,hk⟩:=bc hk
    cases e1
    refine⟨_,_,_,uf,io,_,M1,ν id,hk,rfl,(by simp only[cD];exact h.hand aU),.refl w M1,.upd aU (aR.kE _),h.mem.jj id _ aU,.inl ⟨rfl,rfl,_,rfl,by rw[←hv.2];exact Kf⟩⟩
   ·cases hk
  ·cases hk
 ·
  rename_i τ i k
  have hv:=ht i
  split at hk
  ·rename_i id hT
   rw[hT]at hv
   split at hk
   ·rename_i υ z aU
    obtain⟨e1,hk⟩:=bc hk
    subst e1
    simp only[VR]at hv
    obtain⟨e,he,kf⟩:=hv
    rw[aU]at he;cases he
    simp only[AR]at kf
    obtain⟨_,b,hb,hv⟩:=kf
    have P0:tm.getD i undef=ν id:=by rw[hv,hb];rfl
    refine⟨_,_,uo,uf,_,_,M1,ν id,hk,rfl,(by simp only[cD];exact h.abE aU),.refl w M1,.upd aU (aR.kE _),h.mem.jj id _ aU,.inr ⟨rfl,i,rfl,P0.symm⟩⟩
   ·cases hk
  ·cases hk
 ·
  rename_i τ t k
  have hv:=ht t
  have Kf:yA P tm w (.tmp t) (tm.getD t undef):=by simp[yA,rS]
  split at hk
  ·rename_i id hT
   rw[hT]at hv
   split at hk
   ·rename_i υ z aU
    obtain⟨e1,hk⟩:=bc hk
    subst e1
    simp only[VR]at hv
    obtain⟨e,he,kf⟩:=hv
    rw[aU]at he;cases he
    simp only[AR]at kf
    obtain⟨_,b,hb,hv⟩:=kf
    have P0:tm.getD t undef=ν id:=by rw[hv,hb];rfl
    refine⟨_,_,uo,uf,_,_,M1,ν id,hk,rfl,(by simp only[cD];exact h.abE aU),.refl w M1,.upd aU (aR.kE _),h.mem.jj id _ aU,.inl ⟨rfl,rfl,_,rfl,by rw[←P0];exact Kf⟩⟩
   ·cases hk
  ·cases hk
 ·cases hk
theorem zR(hE:EnvTy P E){tm:Array Value}{H0:Nat→Option aR}: ∀{ms:List AM} {rs:List (ResultVar ⊕ Nat)} {σ:St} {Hq:Nat→Option aR} {M1:Nat→Prop} {uo uf:fF} {io:List (Nat×Ty)} {hs:List Nat} {K:HP ms→Option α},
  iF c w M ν H0 σ.H Hq M1 uo uf io hs→(∀i,VR w M1 σ.H ν (σ.T i) (tm.getD i undef))→DN E ms rs σ K=some r→
  ∃y us ps H2 Fk Fl Bz Pq M2,K y=some r∧iF c w M ν H0 H2 Pq M2 Fk Fl Bz (hs++bg ms us ps)∧dp w M1 w M2∧RR w M2 ms y us ps∧Fv P tm w rs us ps
 |[],[],σ,Hq,M1,uo,uf,io,hs,K,h,ht,hk=>⟨(),[],[],σ.H,uo,uf,io,Hq,M1,hk,by simpa [bg]using h,.refl w M1,⟨rfl,rfl⟩,⟨rfl,rfl⟩⟩
 |[m],[q],σ,Hq,M1,uo,uf,io,hs,K,h,ht,hk0=>by
  obtain⟨y,σ',Fk,Fl,Bz,Pq,M2,u,hk,hT,hA,hK,hG,hy,hu⟩:=xD hE h ht (hk0:Co E m q σ _=some r)
  clear hk0
  rcases hu with⟨h1,h2,rv,rfl,hv⟩|⟨h1,i,rfl,hv⟩
  ·refine⟨y,[u],[],_,_,_,_,_,M2,hk,by simpa [bg,h1]using hA,hK,?_,?_⟩
   ·simp only[RR];exact .inr ⟨u,[],h1,h2,rfl,hy,by simp⟩
   ·simp only[Fv];exact⟨u,[],rfl,hv,by simp⟩
  ·refine⟨y,[],[u],_,_,_,_,_,M2,hk,by simpa [bg,h1]using hA,hK,?_,?_⟩
   ·simp only[RR];exact .inl ⟨u,[],h1,rfl,hy,by simp⟩
   ·simp only[Fv];exact⟨u,[],rfl,hv,by simp⟩
 |m::n::ms,q::rs,σ,Hq,M1,uo,uf,io,hs,K,h,ht,hk0=>by
  obtain⟨y,σ',Fk,Fl,Bz,Pq,M2,u,hk1,hT,hA,hK,hG,hy,hu⟩:=xD hE h ht (hk0:Co E m q σ _=some r)
  obtain⟨ys,us,ps,H3,uo3,uf3,io3,Hq3,M3,hk,hA3,hK3,hys,hrs⟩:=zR (ms:=n::ms) hE hA (fun i=>by rw[hT];exact Core.Ub ht hK hG i) hk1
  have Cw:A1 w M3 m y u:=A1.rQ hK3 (fun b hb=>⟨rfl,hA3.hM b (List.mem_append_left _ (List.mem_append_right _ hb))⟩) hy
  clear hk0
  rcases hu with⟨h1,h2,rv,rfl,hv⟩|⟨h1,i,rfl,hv⟩
  ·refine⟨(y,ys),u::us,ps,H3,uo3,uf3,io3,Hq3,M3,hk,?_,hK.trans hK3,?_,?_⟩
   ·have:bg (m::n::ms) (u::us) ps=cD m u++bg (n::ms) us ps:=by rw[bg];simp[h1]
    rw[this,←List.append_assoc];exact hA3
   ·rw[RR];exact .inr ⟨u,us,h1,h2,rfl,Cw,hys⟩
   ·simp only[Fv];exact⟨u,us,rfl,hv,hrs⟩
  ·refine⟨(y,ys),us,u::ps,H3,uo3,uf3,io3,Hq3,M3,hk,?_,hK.trans hK3,?_,?_⟩
   ·have:bg (m::n::ms) us (u::ps)=cD m u++bg (n::ms) us ps:=by rw[bg];simp[h1]
    rw[this,←List.append_assoc];exact hA3
   ·rw[RR];exact .inl ⟨u,ps,h1,rfl,Cw,hys⟩
   ·simp only[Fv];exact⟨u,ps,rfl,hv,hrs⟩
 |[],_::_,_,_,_,_,_,_,_,_,_,_,hk=>by simp[DN]at hk
 |[_],[],_,_,_,_,_,_,_,_,_,_,hk=>by simp[DN]at hk
 |[_],_::_::_,_,_,_,_,_,_,_,_,_,_,hk=>by simp[DN]at hk
 |_::_::_,[],_,_,_,_,_,_,_,_,_,_,hk=>by simp[DN]at hk
end VM
end
section
namespace VM
open Go
variable{P:Program}{E:Env}{o:Oper}{a:Act}{w:World}{M:Nat→Prop}{ν:Nat→Value}{σ:St}{c:Ctx}{α:Type}{r:α}{next:Act→World→Prop}{Q:Exit→Act→World→Prop}
theorem CA{tm:Array Value}: ∀{rv:List ResultVar} {is:List (ResultVar ⊕ Nat)} {us ps:List Value},Fv P tm w (rv.map .inl++is) us ps→
  ∃Th us2,us=Th++us2∧Th.length=rv.length∧(∀i (h:i<rv.length) (h':i<Th.length),yA P tm w rv[i] Th[i])∧Fv P tm w is us2 ps
 |[],is,us,ps,h=>⟨[],us,rfl,rfl,fun i h=>by simp at h,h⟩
 |rv::rvs,is,us,ps,h=>by
  simp only[List.map_cons,List.cons_append,Fv]at h
  obtain⟨u,D1,rfl,h1,h2⟩:=h
  obtain⟨Th,us2,rfl,hl,h3,h4⟩:=CA h2
  refine⟨u::Th,us2,rfl,by simp[hl],fun i hi kk=> ?_,h4⟩
  cases i with
  |zero=>exact h1
  |succ i=>exact h3 i (by simpa using hi) (by simpa using kk)
theorem tY{tm:Array Value}: ∀{ms:List AM} {vs:List Value} {i:Nat} {us ps:List Value},vs.length=ms.length→(∀j v m,vs[j]? =some v→ms[j]? =some m→m.fR=true→tm.getD (i+j) undef=v)→Fv P tm w (wv ms i) us ps→us=[]∧ps=dB ms vs
 |[],vs,i,us,ps,_,_,h=>by simp only[wv,Fv]at h;simpa [dB]using h
 |m::ms,[],_,_,_,hl,_,_=>by simp at hl
 |m::ms,v::vs,i,us,ps,hl,JH,h=>by
  have Gj: ∀j u m,vs[j]? =some u→ms[j]? =some m→m.fR=true→tm.getD (i+1+j) undef=u:=fun j u m hj hm sL=>by
   have:=JH (j+1) u m (by simpa using hj) (by simpa using hm) sL
   rwa [show i+(j+1)=i+1+j from by omega]at this
  have Fm:vs.length=ms.length:=by simpa using hl
  cases m with
  |io τ=>
   simp only[wv,Fv]at h
   obtain⟨p,BV,rfl,hp,h⟩:=h
   obtain⟨h1,h2⟩:=tY Fm Gj h
   refine⟨h1,?_⟩
   have:=JH 0 v (.io τ) rfl rfl rfl
   simp only[Nat.add_zero]at this
   simp[dB,AM.fR,h2,hp,this]
  |v τ=>
   obtain⟨h1,h2⟩:=tY Fm Gj (show Fv P tm w (wv ms (i+1)) us ps from h)
   exact⟨h1,by simp[dB,AM.fR,h2]⟩
  |own τ=>
   obtain⟨h1,h2⟩:=tY Fm Gj (show Fv P tm w (wv ms (i+1)) us ps from h)
   exact⟨h1,by simp[dB,AM.fR,h2]⟩
  |fn f τ=>
   obtain⟨h1,h2⟩:=tY Fm Gj (show Fv P tm w (wv ms (i+1)) us ps from h)
   exact⟨h1,by simp[dB,AM.fR,h2]⟩
  |fP τ=>
   obtain⟨h1,h2⟩:=tY Fm Gj (show Fv P tm w (wv ms (i+1)) us ps from h)
   exact⟨h1,by simp[dB,AM.fR,h2]⟩
  |ptr τ=>
   obtain⟨h1,h2⟩:=tY Fm Gj (show Fv P tm w (wv ms (i+1)) us ps from h)
   exact⟨h1,by simp[dB,AM.fR,h2]⟩
theorem Gk{fn:Func}{tm:Array Value}{us:List Value}(hl:us.length=fn.results.toList.length)(h: ∀i (h:i<fn.results.toList.length) (h':i<us.length),yA P tm w fn.results.toList[i] us[i]):
  (results fn tm).run P w= .ok (rP us) w:=by
 have key: ∀(rs:List ResultVar) (us:List Value),us.length=rs.length→(∀i (h:i<rs.length) (h':i<us.length),yA P tm w rs[i] us[i])→(rs.mapM (rS tm)).run P w= .ok us w:=by
  intro rs
  induction rs with
  |nil=>intro us hl _;cases us with
   |nil=>simp
   |cons _ _=>simp at hl
  |cons r rs ih=>intro us hl h;cases us with
   |nil=>simp at hl
   |cons u us=>
    have h0:(rS tm r).run P w= .ok u w:=h 0 (by simp) (by simp)
    have h1:=ih us (by simpa using hl) (fun i hi kk=>h (i+1) (by simpa using hi) (by simpa using kk))
    simp[List.mapM_cons,h0,h1]
 have h2:=key fn.results.toList us hl h
 have h3:results fn tm=(do let vs ←fn.results.mapM (rS tm);pure (if h:vs.size=1 then vs[0]else .tuple vs)):=by
  unfold results
  congr 1
 rw[h3,Array.mapM_eq_mapM_toList]
 simp only[Sem.run_bind,Sem.run_map,h2]
 unfold rP
 by_cases h3:us.length=1
 ·simp[h3]
 ·simp[h3]
theorem CB(hE:pN P E){f:FuncId}{fn:Func}(hf:P.funcs[f]? =some fn)(hnt:E.nt=fn.ntmps){args res:List AM}(sL: ∀i m,args[i]? =some m→m.fR=true→i∈E.io)(ahi: ∀i∈E.io,i<args.length)(hlen:args.length≤fn.ntmps)
  {M0:Nat→Prop} {vs:List Value} {x:HP args} {y:HP res} (nC: ∀b,M0 b→b<w.heap.size) (hA:gj w (fun b=>M0 b∨b∈cK args vs) args x vs) (u7:(cK args vs).Nodup) (rT: ∀b∈cK args vs,¬M0 b)
  (h:Jy E fn args res x=some y):
  Calls P f vs.toArray w fun e w'=> ∃v,e= .returned v∧ ∃us M',v=rP us∧RR w' M' res y us (dB args vs)∧Left w M0 (cK args vs) w' M'∧(bg res us (dB args vs)).Nodup∧ ∀b∈bg res us (dB args vs),¬M0 b:=by
 unfold Jy at h
 split at h
 ·cases h
 rename_i cd hb
 simp only at h
 have hvl: ∀{ms:List AM} {x:HP ms} {vs:List Value} {M:Nat→Prop},gj w M ms x vs→vs.length=ms.length:=by
  intro ms
  induction ms with
  |nil=>intro x vs M h;simp only[gj]at h;subst h;rfl
  |cons m ms ih=>intro x vs M h;simp only[gj]at h;obtain⟨v,Ft,rfl,_,h⟩:=h;simp[ih h]
 have TJ:=hvl hA
 let tm:Array Value:=vs.toArray++Array.replicate (fn.ntmps-vs.toArray.size) undef
 have JH: ∀j v,vs[j]? =some v→tm.getD j undef=v:=by
  intro j v hj
  have dT:j<vs.length:=(List.getElem?_eq_some_iff.1 hj).1
  rw[Array.getD_eq_getD_getElem?,Array.getElem?_append_left (by simpa using dT),List.getElem?_toArray,hj];rfl
 have p9:tm.size=fn.ntmps:=by simp[tm];omega
 have hhb: ∀{ms:List AM} {x:HP ms} {vs:List Value} {M:Nat→Prop},gj w M ms x vs→ ∀b∈cK ms vs,b<w.heap.size:=by
  intro ms
  induction ms with
  |nil=>intro x vs M h b hb;simp[cK]at hb
  |cons m ms ih=>
   intro x vs M h b hb
   simp only[gj]at h
   obtain⟨v,Ft,rfl,h1,h⟩:=h
   simp only[cK,List.mem_append]at hb
   rcases hb with hb|hb
   ·cases m with
    |v _=>simp[cD]at hb
    |fn _ _=>simp[cD]at hb
    |fP _=>simp[cD]at hb
    |own e=>
     simp only[cD,Option.mem_toList,A1,ER]at hb h1
     rcases h1 with⟨_,a,hv⟩|⟨b',cs,t,cap,hv,hg,_⟩
     ·rw[hv]at hb;cases a<;>simp[ez]at hb
     ·rw[hv]at hb
      simp only[ez]at hb
      split at hb
      ·cases hb
      ·simp only[Option.some.injEq]at hb;subst hb;exact lt_of_block hg
    |io τ=>
     simp only[cD,Option.mem_toList,A1,ER]at hb h1
     obtain⟨b',cs,t,hv,hg,_⟩:=h1
     rw[hv]at hb
     simp only[ez,Option.some.injEq]at hb;subst hb;exact lt_of_block hg
    |ptr τ=>
     simp only[cD,Option.mem_toList,A1,ER]at hb h1
     obtain⟨b',cs,t,hv,hg,_⟩:=h1
     rw[hv]at hb
     simp only[ez,Option.some.injEq]at hb;subst hb;exact lt_of_block hg
   ·exact ih h b hb
 let cx:Ctx:={B:=w.heap.size,w0:=w,M0:=M0,may:=fun b=>b∈cK args vs,arg:=fun i=>tm.getD i undef}
 have hm0:Mem cx (fun _=>none) w (fun b=>M0 b∨b∈cK args vs) (fun _=>undef):=
  ⟨fun i e hi=>(by cases hi),fun i j e e' b _ hi=>(by cases hi),fun i e b hi=>(by cases hi),fun i e l b hi=>(by cases hi),fun i τ x p j hi=>(by cases hi),fun b hb=> .inl hb,fun b hb=>hb.elim (nC b) (hhb hA b),fun _ _ _=>rfl,Nat.le_refl _,⟨nC,rT⟩,rfl,rfl,rfl⟩
 have Pp:Core cx ⟨fun _=> .any,fun _=>none⟩ tm w (fun b=>M0 b∨b∈cK args vs) (fun _=>undef):=⟨hm0,fun i=>by simp[VR]⟩
 obtain⟨ν',hc⟩:=xC (i:=0) (used:=[]) Pp hA (fun j v hj=>by rw[Nat.zero_add];exact JH j v hj) (fun _ _=>rfl) (fun j e b hj=>by cases hj) (by simpa using u7) (fun b hb=>hb) (fun b hb=>rT b hb)
 have hI:Inv cx E (entry args x 0 ⟨fun _=> .any,fun _=>none⟩) {tmps:=tm,defers:=[]} w:=⟨⟨_,_,hc⟩,by rw[hnt,p9],rfl,fun i _=>rfl⟩
 refine calls_of_wp hf hb ?_
 have ahj: ∀(σ':St) (a':Act) (w':World),DN E res (fn.results.toList.map .inl++wv args 0) σ' some=some y→Inv cx E σ' a' w'→
   a'.defers=[]∧ ∃v,(results fn a'.tmps).run P w'= .ok v w'∧ ∃v',Ending.returned v= .returned v'∧ ∃us M',v'=rP us∧RR w' M' res y us (dB args vs)∧Left w M0 (cK args vs) w' M'∧(bg res us (dB args vs)).Nodup∧ ∀b∈bg res us (dB args vs),¬M0 b:=by
  rintro σ' a' w' hk ⟨⟨M1,ν1,BS⟩,LY,hd1,tj⟩
  obtain⟨y',us,ps,H2,uo,uf,io,Hq,M2,hy,Qk,hK,Ps,hRs⟩:=zR (P:=P) hE.toEnvTy (iF.start BS.mem) BS.tmp hk
  cases hy
  obtain⟨Th,us2,rfl,hl,hv,amR⟩:=CA hRs
  obtain⟨rfl,JD⟩:=tY (vs:=vs) TJ (fun j v m hj hm D3=>by
   rw[Nat.zero_add]
   rw[tj j (sL j m hm D3)]
   exact JH j v hj) amR
  rw[List.append_nil]at*
  subst JD
  simp only[List.nil_append]at Qk
  have ko: ∀b∈bg res Th (dB args vs),b<w.heap.size→b∈cK args vs:=fun b hb dT=>(Qk.J8 b hb).elim (fun h'=>absurd dT (Nat.not_lt.2 h')) (fun h=>h)
  have Cw:dp w' M2 w' (fun b=>M2 b∧(b<w.heap.size→M0 b∨b∈cK args vs)):=⟨Nat.le_refl _,fun _ _ _=>rfl,fun _ _ h=>h.1⟩
  refine⟨hd1,rP Th,Gk hl hv,_,rfl,Th,fun b=>M2 b∧(b<w.heap.size→M0 b∨b∈cK args vs),rfl,RR.rQ Cw (fun b hb=>⟨rfl,Ps.ny b hb,fun dT=> .inr (ko b hb dT)⟩) Ps,⟨fun b hb=>⟨Qk.mem.sub b hb,fun _=> .inl hb⟩,fun b hb=>Qk.mem.zs b hb.1,fun b dT hb=>hb.2 dT,fun b dT hb=>Qk.mem.frame b dT hb,Qk.mem.size,Qk.mem.os,Qk.mem.tape,Qk.mem.output⟩,Qk.nd,fun b hb h0=> ?_⟩
  rcases Qk.J8 b hb with h'|h'
  ·exact absurd (nC b h0) (Nat.not_lt.2 h')
  ·exact rT b h' h0
 refine NI (c:=cx) hE cd _ _ w _ _ _ _ hI h (fun σ' a' w' hk tE=> ?_) (fun i σ' a' w' hk=>by cases hk) (fun σ' a' w' hk tE=> ?_)
 ·exact ahj σ' a' w' hk tE
 ·exact ahj σ' a' w' hk tE
theorem Ql(hE:pN P E){f:FuncId}{fn:Func}(hf:P.funcs[f]? =some fn)(vd:(fn.name== "runtime.NumGoroutine")=false)(hnt:E.nt=fn.ntmps)(S:iC)
  (sL: ∀i m,S.args[i]? =some m→m.fR=true→i∈E.io) (ahi: ∀i∈E.io,i<S.args.length) (hlen:S.args.length≤fn.ntmps) (hq:S.quiet=true→S.res.all AM.flat=true) (amS:lC S.args=lC S.res)
  (cI: ∀x,Jy E fn S.args S.res x=S.run x):e7 P f S:=by
 refine⟨hq,amS,fun M0 w vs x y nC hA u7 rT hy=> ?_⟩
 have hb:fn.body.isNone=false:=by
  have:=cI x
  rw[hy]at this
  unfold Jy at this
  split at this
  ·cases this
  ·rename_i cd hcd;rw[hcd];rfl
 exact pj hf vd hb (CB hE hf hnt sL ahi hlen nC hA u7 rT (by rw[cI,hy]))
end VM
end
section
namespace VM
open Go
variable{P:Program}
def ve:Ty→List Value→Option (List Value)
 | .int k,v::r=>match v with
  | .int k' n=>if k'=k∧n=0 then some r else none
  |_=>none
 | .bool,v::r=>match v with
  | .bool false=>some r
  |_=>none
 | .str,v::r=>match v with
  | .string s=>if s.data.size=0 then some r else none
  |_=>none
 | .slice _,v::r=>match v with
  | .slice none n m=>if n=0∧m=0 then some r else none
  |_=>none
 | .unit,r=>some r
 | .pair a b,r=>match ve a r with
  |some r=>ve b r
  |none=>none
 | .arr n e,r=>Nat.rec (motive:=fun _=>List Value→Option (List Value)) (fun r=>some r) (fun _ ih r=>match ve e r with
  |some r=>ih r
  |none=>none) n r
 |_,[]=>none
theorem vf: ∀{τ:Ty} {l r:List Value},ve τ l=some r→l=τ.ck++r
 | .int k,[],_,h| .bool,[],_,h| .str,[],_,h| .slice _,[],_,h=>by simp[ve]at h
 | .int k,v::l,r,h=>by
  simp only[ve]at h
  split at h
  ·split at h
   ·rename_i hc;obtain⟨rfl,rfl⟩:=hc;cases h;rfl
   ·cases h
  ·cases h
 | .bool,v::l,r,h=>by
  simp only[ve]at h
  split at h
  ·cases h;rfl
  ·cases h
 | .str,v::l,r,h=>by
  simp only[ve]at h
  split at h
  ·rename_i s
   split at h
   ·rename_i hs
    cases h
    have:s=ByteArray.empty:=by
     obtain⟨d⟩:=s
     have:d= #[]:=Array.eq_empty_of_size_eq_zero hs
     subst this;rfl
    subst this;rfl
   ·cases h
  ·cases h
 | .slice _,v::l,r,h=>by
  simp only[ve]at h
  split at h
  ·split at h
   ·rename_i hc;obtain⟨rfl,rfl⟩:=hc;cases h;rfl
   ·cases h
  ·cases h
 | .unit,l,r,h=>by simp only[ve]at h;cases h;rfl
 | .pair a b,l,r,h=>by
  simp only[ve]at h
  split at h
  ·rename_i r1 h1
   rw[vf h1,vf h];simp[Ty.ck]
  ·cases h
 | .arr n e,l,r,h=>by
  simp only[ve]at h
  simp only[Ty.ck]
  induction n generalizing l with
  |zero=>cases h;rfl
  |succ n ih=>
   simp only at h
   split at h
   ·rename_i r1 h1
    rw[vf h1,ih _ h];simp[List.replicate_succ]
   ·cases h
def vg(P:Program)(τ:Ty)(t:TypeId):Bool:=
 match P.info? t with
 |none=>false
 |some i=>Nat.beq i.size τ.size&&Nat.ble i.bytes 2048&&(match i.zero with
  |none=>false
  |some z=>match τ.isAgg,z with
   |true,.agg cs=>(match ve τ cs.toList with|some []=>true|_=>false)
   |false,z=>(match ve τ [z]with|some []=>true|_=>false)
   |_,_=>false)
theorem nD{τ:Ty}{t:TypeId}(h:vg P τ t=true):DO P τ t:=by
 unfold vg at h
 split at h
 ·cases h
 ·rename_i i hi
  simp only[Bool.and_eq_true,Nat.ble_eq]at h
  obtain⟨⟨h1,h2⟩,h3⟩:=h
  refine⟨i,hi,Nat.eq_of_beq_eq_true h1,?_,h2⟩
  split at h3
  ·cases h3
  ·rename_i z hz
   rw[hz]
   split at h3
   ·rename_i _ cs ha
    split at h3
    ·rename_i he
     have:=vf he
     unfold bQ
     rw[if_pos ha,←List.append_nil τ.ck,←this]
    ·cases h3
   ·rename_i ha
    split at h3
    ·rename_i he
     have:=vf he
     unfold bQ
     rw[if_neg (by rw[ha];exact Bool.false_ne_true),←List.append_nil τ.ck,←this];rfl
    ·cases h3
   ·cases h3
def pP(P:Program):Ty→TypeId ⊕ (Array Field×Nat×Nat)→Bool
 | .int k,.inl t=>vg P (.int k) t&&(match P.underlying t with|some (.int k')=>decide (k'=k)|_=>false)
 | .bool,.inl t=>vg P .bool t&&(match P.underlying t with|some .bool=>true|_=>false)
 | .str,.inl t=>vg P .str t&&(match P.underlying t with|some .string=>true|_=>false)
 | .slice e,.inl t=>vg P (.slice e) t&&(match P.underlying t with|some (.slice e')=>pP P e (.inl e')|_=>false)
 | .arr n e,.inl t=>vg P (.arr n e) t&&(match P.underlying t with|some (.array n' e')=>Nat.beq n' n&&pP P e (.inl e')|_=>false)
 | .unit,.inl t=>vg P .unit t&&(match P.underlying t with|some (.struct fs)=>Nat.beq fs.size 0|_=>false)
 | .unit,.inr q=>Nat.beq q.1.size q.2.1
 | .pair a b,.inl t=>vg P (.pair a b) t&&(match P.underlying t with
  |some (.struct fs)=>(match fs[0]? with
   |some f=>Nat.beq f.offset 0&&(pP P a (.inl f.type)&&pP P b (.inr (fs,1,a.size)))
   |none=>false)
  |_=>false)
 | .pair a b,.inr q=>(match q.1[q.2.1]? with
  |some f=>Nat.beq f.offset q.2.2&&(pP P a (.inl f.type)&&pP P b (.inr (q.1,q.2.1+1,q.2.2+a.size)))
  |none=>false)
 |_,.inr _=>false
theorem eA: ∀{τ:Ty} {x:TypeId ⊕ (Array Field×Nat×Nat)},pP P τ x=true→dM P τ x
 | .int k,.inl t,h=>by
  simp only[pP,Bool.and_eq_true]at h
  refine⟨nD h.1,?_⟩
  have h:=h.2
  split at h
  ·rename_i k' hu;rw[hu,of_decide_eq_true h]
  ·cases h
 | .bool,.inl t,h=>by
  simp only[pP,Bool.and_eq_true]at h
  refine⟨nD h.1,?_⟩
  have h:=h.2
  split at h
  ·rename_i hu;exact hu
  ·cases h
 | .str,.inl t,h=>by
  simp only[pP,Bool.and_eq_true]at h
  refine⟨nD h.1,?_⟩
  have h:=h.2
  split at h
  ·rename_i hu;exact hu
  ·cases h
 | .slice e,.inl t,h=>by
  simp only[pP,Bool.and_eq_true]at h
  refine⟨nD h.1,?_⟩
  have h:=h.2
  split at h
  ·rename_i e' hu;exact⟨e',hu,eA h⟩
  ·cases h
 | .arr n e,.inl t,h=>by
  simp only[pP,Bool.and_eq_true]at h
  refine⟨nD h.1,?_⟩
  have h:=h.2
  split at h
  ·rename_i n' e' hu
   simp only[Bool.and_eq_true]at h
   obtain⟨h0,h⟩:=h
   rw[Nat.eq_of_beq_eq_true h0]at hu
   exact⟨e',hu,eA h⟩
  ·cases h
 | .unit,.inl t,h=>by
  simp only[pP,Bool.and_eq_true]at h
  refine⟨nD h.1,?_⟩
  have h:=h.2
  split at h
  ·rename_i fs hu;exact⟨fs,hu,Nat.eq_of_beq_eq_true h⟩
  ·cases h
 | .unit,.inr (fs,n,o),h=>by simp only[pP]at h;exact Nat.eq_of_beq_eq_true h
 | .pair a b,.inl t,h=>by
  simp only[pP,Bool.and_eq_true]at h
  refine⟨nD h.1,?_⟩
  have h:=h.2
  split at h
  ·rename_i fs hu
   split at h
   ·rename_i f hf
    simp only[Bool.and_eq_true]at h
    exact⟨fs,f,hu,hf,Nat.eq_of_beq_eq_true h.1,eA h.2.1,eA h.2.2⟩
   ·cases h
  ·cases h
 | .pair a b,.inr (fs,n,o),h=>by
  simp only[pP]at h
  split at h
  ·rename_i f hf
   simp only[Bool.and_eq_true]at h
   exact⟨f,hf,Nat.eq_of_beq_eq_true h.1,eA h.2.1,eA h.2.2⟩
  ·cases h
 | .int _,.inr _,h| .bool,.inr _,h| .str,.inr _,h| .slice _,.inr _,h| .arr _ _,.inr _,h=>by simp[pP]at h
def ra(P:Program):Ty→TypeId ⊕ (Array Field×Nat)→Bool
 | .int _,.inl _| .bool,.inl _| .str,.inl _=>true
 | .unit,.inl t=> !P.stoodInHeld t
 | .unit,.inr _=>true
 | .pair a b,.inl t=> !P.stoodInHeld t&&(match P.underlying t with
  |some (.struct fs)=>(match fs[0]? with
   |some f=>f.name != "_" &&(ra P a (.inl f.type)&&ra P b (.inr (fs,1)))
   |none=>false)
  |_=>false)
 | .pair a b,.inr q=>(match q.1[q.2]? with
  |some f=>f.name != "_" &&(ra P a (.inl f.type)&&ra P b (.inr (q.1,q.2+1)))
  |none=>false)
 |_,_=>false
def Ty.deep:Ty→Nat
 | .pair a b=>a.deep+b.deep+1
 |_=>1
theorem V.ofC{w:World}{M:Nat→Prop}{τ:Ty}{cs:List Value}{x:τ.den}(h:Rd w M τ cs x):V w M τ (VM.bQ τ cs) x:=V.bQ h
mutual
theorem Gl{w:World}{M:Nat→Prop}: ∀{τ:Ty} {t:TypeId} {u v:Value} {x y:τ.den} {d:Nat},g5 P τ t→ra P τ (.inl t)=true→V w M τ u x→V w M τ v y→τ.deep≤d→(Op.equalIn d t u v).run P w= .ok (kZ τ x y) w
 | .int k,t,u,v,x,y,d+1,hl,_,hx,hy,_=>by
  simp only[V,Ty.isAgg,Bool.false_eq_true,if_false,Rd,List.cons.injEq,and_true]at hx hy
  subst hx;subst hy
  rw[run_equalIn_int w d t k k _ _ hl.int];simp only[kZ,fY];congr 1
 | .bool,t,u,v,x,y,d+1,hl,_,hx,hy,_=>by
  simp only[V,Ty.isAgg,Bool.false_eq_true,if_false,Rd,List.cons.injEq,and_true]at hx hy
  subst hx;subst hy
  rw[run_equalIn_bool w d t _ _ hl.bool];simp only[kZ]
 | .str,t,u,v,x,y,d+1,hl,_,hx,hy,_=>by
  simp only[V,Ty.isAgg,Bool.false_eq_true,if_false,Rd,List.cons.injEq,and_true]at hx hy
  subst hx;subst hy
  rw[run_equalIn_string w d t _ _ hl.str];simp only[kZ,zq];congr 1;rw[Bool.eq_iff_iff];simp
 | .slice _,_,_,_,_,_,_,_,h,_,_,_| .arr _ _,_,_,_,_,_,_,_,h,_,_,_=>by simp[ra]at h
 | .unit,t,u,v,x,y,d+1,hl,he,hx,hy,_=>by
  simp only[V,Ty.isAgg,if_true]at hx hy
  obtain⟨cs,rfl,_⟩:=hx
  obtain⟨cs',rfl,_⟩:=hy
  simp only[g5,dM]at hl
  obtain⟨_,fs,hu,h0⟩:=hl
  have hfs:P.fieldsOf t=fs:=by simp[Program.fieldsOf,hu]
  rw[run_equalIn_struct w d t cs cs' (by rw[hfs];exact hu) (by simpa [ra]using he),hfs]
  have:fs.toList=[]:=by rw[←List.length_eq_zero_iff,Array.length_toList];exact h0
  rw[this];simp[Op.eqFields,kZ]
 | .pair a b,t,u,v,x,y,d+1,hl,he,hx,hy,hd=>by
  simp only[V,Ty.isAgg,if_true]at hx hy
  obtain⟨cs,rfl,hx⟩:=hx
  obtain⟨cs',rfl,hy⟩:=hy
  simp only[g5,dM]at hl
  obtain⟨_,fs,f,hu,hf,ho,tZ,JI⟩:=hl
  have hfs:P.fieldsOf t=fs:=by simp[Program.fieldsOf,hu]
  simp only[ra,hu,hf,Bool.and_eq_true]at he
  rw[run_equalIn_struct w d t cs cs' (by rw[hfs];exact hu) (by simpa using he.1),hfs]
  have h0:fs.toList=f::fs.toList.drop 1:=by
   have h1:=List.drop_eq_getElem_cons (l:=fs.toList) (i:=0) (by rw[Array.length_toList];exact(Array.getElem?_eq_some_iff.1 hf).1)
   rw[List.drop_zero]at h1
   rw[h1];congr 1
   rw[Array.getElem_toList];exact(Array.getElem?_eq_some_iff.1 hf).2
  simp only[Ty.deep]at hd
  rw[h0]
  have pL:Rd w M (.pair a b) (cs.toList.drop 0) x:=by rw[List.drop_zero];exact hx
  have Qm:Rd w M (.pair a b) (cs'.toList.drop 0) y:=by rw[List.drop_zero];exact hy
  have gi:f.name≠ "_" :=by simpa using he.2.1
  simp only[Op.eqFields,gi,ne_eq,not_false_eq_true,if_true]
  exact Qn (off:=0) ho tZ he.2.2.1 pL Qm (by omega) (fun h1 h2=>Qo (n:=1) (fs:=fs) (off:=a.size) JI he.2.2.2 (by rw[Nat.zero_add]at h1;exact h1) (by rw[Nat.zero_add]at h2;exact h2) (by omega))
 | .int _,_,_,_,_,_,0,_,_,_,_,hd| .bool,_,_,_,_,_,0,_,_,_,_,hd| .str,_,_,_,_,_,0,_,_,_,_,hd| .unit,_,_,_,_,_,0,_,_,_,_,hd| .pair _ _,_,_,_,_,_,0,_,_,_,_,hd=>by simp[Ty.deep]at hd
theorem Qo{w:World}{M:Nat→Prop}: ∀{b:Ty} {fs:Array Field} {n off:Nat} {cs cs':Array Value} {x y:b.den} {d:Nat},dM P b (.inr (fs,n,off))→ra P b (.inr (fs,n))=true→Rd w M b (cs.toList.drop off) x→Rd w M b (cs'.toList.drop off) y→b.deep≤d→
  (Op.eqFields d cs cs' (fs.toList.drop n)).run P w= .ok (kZ b x y) w
 | .unit,fs,n,off,cs,cs',x,y,d,hl,_,_,_,_=>by
  simp only[dM]at hl
  rw[List.drop_of_length_le (by rw[Array.length_toList];omega)]
  simp[Op.eqFields,kZ]
 | .pair a b,fs,n,off,cs,cs',x,y,d,hl,he,hx,hy,hd=>by
  simp only[dM]at hl
  obtain⟨f,hf,ho,tZ,JI⟩:=hl
  simp only[ra,hf,Bool.and_eq_true]at he
  have h0:fs.toList.drop n=f::fs.toList.drop (n+1):=by
   rw[List.drop_eq_getElem_cons (l:=fs.toList) (i:=n) (by rw[Array.length_toList];exact(Array.getElem?_eq_some_iff.1 hf).1)]
   congr 1
   rw[Array.getElem_toList];exact(Array.getElem?_eq_some_iff.1 hf).2
  simp only[Ty.deep]at hd
  rw[h0]
  have gi:f.name≠ "_" :=by simpa using he.1
  simp only[Op.eqFields,gi,ne_eq,not_false_eq_true,if_true]
  exact Qn ho tZ he.2.1 hx hy (by omega) (fun h1 h2=>Qo JI he.2.2 h1 h2 (by omega))
 | .int _,_,_,_,_,_,_,_,_,hl,_,_,_,_| .bool,_,_,_,_,_,_,_,_,hl,_,_,_,_| .str,_,_,_,_,_,_,_,_,hl,_,_,_,_| .slice _,_,_,_,_,_,_,_,_,hl,_,_,_,_| .arr _ _,_,_,_,_,_,_,_,_,hl,_,_,_,_=>by simp[dM]at hl
theorem Qn{w:World}{M:Nat→Prop}{a b:Ty}{f:Field}{fs:List Field}{off:Nat}{cs cs':Array Value}{x y:(Ty.pair a b).den}{d:Nat}(ho:f.offset=off)(tZ:g5 P a f.type)(he:ra P a (.inl f.type)=true)
  (hx:Rd w M (.pair a b) (cs.toList.drop off) x) (hy:Rd w M (.pair a b) (cs'.toList.drop off) y) (hd:a.deep≤d)
  (hr:Rd w M b (cs.toList.drop (off+a.size)) x.2→Rd w M b (cs'.toList.drop (off+a.size)) y.2→(Op.eqFields d cs cs' fs).run P w= .ok (kZ b x.2 y.2) w):
  (do let u ←part f.type cs f.offset;let v ←part f.type cs' f.offset;let r ←Op.equalIn d f.type u v;if(!r)=true then pure false else Op.eqFields d cs cs' fs:Sem Bool).run P w= .ok (kZ (.pair a b) x y) w:=by
 simp only[Rd]at hx hy
 obtain⟨c1,c2,hc,h1,h2⟩:=hx
 obtain⟨c1',c2',NJ,mJ,tG⟩:=hy
 subst ho
 have p1:(cs.toList.drop f.offset).take a.size=c1:=by rw[hc,List.take_left' h1.length]
 have p2:(cs'.toList.drop f.offset).take a.size=c1':=by rw[NJ,List.take_left' mJ.length]
 have q1:cs.toList.drop (f.offset+a.size)=c2:=by rw[←List.drop_drop,hc,List.drop_left' h1.length]
 have q2:cs'.toList.drop (f.offset+a.size)=c2':=by rw[←List.drop_drop,NJ,List.drop_left' mJ.length]
 have r1:=uU tZ (w:=w) (M:=M) (cs:=cs) (off:=f.offset) (x:=x.1) (by rw[p1];exact h1)
 have r2:=uU tZ (w:=w) (M:=M) (cs:=cs') (off:=f.offset) (x:=y.1) (by rw[p2];exact mJ)
 have r3:=Gl (d:=d) tZ he (V.ofC (by rw[p1];exact h1):V w M a (VM.bQ a ((cs.toList.drop f.offset).take a.size)) x.1) (V.ofC (by rw[p2];exact mJ):V w M a (VM.bQ a ((cs'.toList.drop f.offset).take a.size)) y.1) hd
 simp only[Sem.run_bind,r1,r2,r3,Result.andThen_ok,kZ]
 cases kZ a x.1 y.1
 ·simp
 ·simpa using hr (by rw[q1];exact h2) (by rw[q2];exact tG)
end
def Uc(P:Program)(τ:Ty)(t:TypeId):Bool:= !(τ.comparable&&τ.isAgg)||(ra P τ (.inl t)&&(Nat.ble τ.deep 10000&& !P.eqGuardType P.depth t))
theorem Ud{τ:Ty}{t:TypeId}(hl:g5 P τ t)(h:Uc P τ t=true)(hc:τ.comparable=true)(ha:τ.isAgg=true):agz P t τ:=by
 unfold Uc at h
 rw[hc,ha]at h
 simp only[Bool.and_self,Bool.not_true,Bool.false_or,Bool.and_eq_true,Nat.ble_eq,Bool.not_eq_true']at h
 obtain⟨h1,h2,h3⟩:=h
 intro w M u v x y b xo yo hx hy
 have he:=Gl (d:=10000) hl h1 hx hy h2
 unfold V at hx hy
 rw[if_pos ha]at hx hy
 obtain⟨cs,rfl,_⟩:=hx
 obtain⟨cs',rfl,_⟩:=hy
 refine⟨?_,?_,?_⟩
 ·cases b<;>simp[eqGuard,h3]
 ·simp only[binOp];simp[Op.equal,Op.maxDepth,he]
 ·simp only[binOp];simp[Op.equal,Op.maxDepth,he]
def ahl(P:Program)(l:List (Nat×Ty)):Bool:=l.all fun q=>pP P q.2 (.inl q.1)&&Uc P q.2 q.1
end VM
end
section
namespace VM
open Go Go.WideShapes Go.RowKit Go.ChangeShapes
def WF:(τ:Ty)→τ.den→Prop
 | .int k,x=>(Lit.int k x).wf=true
 | .bool,_=>True
 | .str,s=>ByteArray.size s≤maxLen
 | .slice e,l=>List.length l≤maxLen∧ ∀i (h:i<List.length l),WF e (List.get l ⟨i,h⟩)
 | .unit,_=>True
 | .pair a b,x=>WF a x.1∧WF b x.2
 | .arr _ e,l=> ∀i (h:i<List.length l),WF e (List.get l ⟨i,h⟩)
def Ty.mB:Ty→Bool
 | .slice e=>Nat.blt 0 e.size&&e.mB
 | .pair a b=>a.mB&&b.mB
 | .arr _ e=>e.mB
 |_=>true
theorem Qp{α β:Type}{f:α→Option β}: ∀{l:List α} {r:List β},l.mapM f=some r→ ∀x∈l,∃y,f x=some y
 |[],_,_,x,hx=>by cases hx
 |a::l,r,h,x,hx=>by
  rw[List.mapM_cons]at h
  simp only[bind,Option.bind_eq_some_iff,pure,Option.some.injEq]at h
  obtain⟨y,hy,r',hr,_⟩:=h
  rcases List.mem_cons.1 hx with rfl|hx
  ·exact⟨y,hy⟩
  ·exact Qp hr x hx
theorem Gm{α β:Type}{f:α→Option β}: ∀{l:List α} {r:List β},l.mapM f=some r→r.length=l.length∧ ∀i (h:i<l.length) (h':i<r.length),f l[i]=some r[i]
 |[],r,h=>by simp at h;subst h;exact⟨rfl,fun i h=>by cases h⟩
 |a::l,r,h=>by
  rw[List.mapM_cons]at h
  simp only[bind,Option.bind_eq_some_iff,pure,Option.some.injEq]at h
  obtain⟨y,hy,r',hr,rfl⟩:=h
  obtain⟨h1,h2⟩:=Gm hr
  refine⟨by simp[h1],fun i hi kk=> ?_⟩
  cases i with
  |zero=>exact hy
  |succ i=>exact h2 i (by simpa using hi) (by simpa using kk)
theorem rU{α:Type}{p:Nat→α→Prop}: ∀n,(∀i,i<n→ ∃x,p i x)→ ∃l:List α,l.length=n∧ ∀i (h:i<l.length),p i (l.get ⟨i,h⟩)
 |0,_=>⟨[],rfl,fun i h=>by cases h⟩
 |n+1,h=>by
  obtain⟨l,hl,hp⟩:=rU n (fun i hi=>h i (by omega))
  obtain⟨x,hx⟩:=h n (by omega)
  refine⟨l++[x],by simp[hl],fun i hi=> ?_⟩
  simp only[List.get_eq_getElem]
  by_cases dT:i<l.length
  ·rw[List.getElem_append_left dT];exact hp i dT
  ·have ir:i=n:=by simp at hi;omega
   subst ir
   rw[List.getElem_append_right (by omega)]
   simp[hl,hx]
section
variable{H:Type}{enc:TypeId×Value→H}{P:Program}{w:World}
theorem g5.cells{τ:Ty}{t:TypeId}(h:g5 P τ t):P.cellsOf t=τ.size:=by
 obtain⟨i,hi,hs,_⟩:=h.base
 simp[Program.cellsOf,hi,hs]
theorem CC{a:Addr}{n:Nat}{cs:List Value}(h:w.cells? 0 a n=some cs):cs.length=n∧ ∀j v,cs[j]? =some v→w.cell? (a.add j)=some v:=by
 unfold World.cells? at h
 rw[if_pos (Nat.zero_le _)]at h
 obtain⟨h1,h2⟩:=Gm h
 rw[List.length_range]at h1
 refine⟨h1,fun j v hj=> ?_⟩
 obtain⟨dT,rfl⟩:=List.getElem?_eq_some_iff.1 hj
 have:=h2 j (by rw[List.length_range];omega) dT
 rw[List.getElem_range]at this
 exact this
def Qq(H:Type)(enc:TypeId×Value→H)(P:Program)(w:World)(τ:Ty):TypeId ⊕ (Array Field×Nat×Nat)→Prop
 | .inl t=> ∀(fuel:Nat) (cs:List Value) (d:DataW H×List MemPlace),DataW.trod enc P w 0 (fun _=>true) true fuel t cs=some d→ ∃x:τ.den,Rd w (fun _=>False) τ cs x∧WF τ x
 | .inr q=> ∀(cs:List Value),cs.length=q.2.2+τ.size→(∀f∈q.1.toList,∃fuel d,DataW.trod enc P w 0 (fun _=>true) true fuel f.type ((cs.drop f.offset).take (P.cellsOf f.type))=some d)→ ∃x:τ.den,Rd w (fun _=>False) τ (cs.drop q.2.2) x∧WF τ x
theorem CD{a b:Ty}{f:Field}{fs:Array Field}{n off:Nat}(hf:fs[n]? =some f)(ho:f.offset=off)(tZ:g5 P a f.type)(iha:Qq H enc P w a (.inl f.type))(PF:Qq H enc P w b (.inr (fs,n+1,off+a.size)))
  {cs:List Value} (hc:cs.length=off+(a.size+b.size)) (gH: ∀f∈fs.toList,∃fuel d,DataW.trod enc P w 0 (fun _=>true) true fuel f.type ((cs.drop f.offset).take (P.cellsOf f.type))=some d):
  ∃x:(Ty.pair a b).den,Rd w (fun _=>False) (.pair a b) (cs.drop off) x∧WF (.pair a b) x:=by
 subst ho
 obtain⟨fuel,d,hd⟩:=gH f (by rw[Array.mem_toList_iff];exact Array.mem_of_getElem? hf)
 rw[tZ.cells]at hd
 obtain⟨x,hx,hwx⟩:=iha fuel _ d hd
 obtain⟨y,hy,hwy⟩:=PF cs (by simp only;omega) gH
 refine⟨(x,y),?_,hwx,hwy⟩
 simp only[Rd]
 refine⟨_,_,(List.take_append_drop a.size (cs.drop f.offset)).symm,hx,?_⟩
 rw[List.drop_drop];exact hy
theorem qp: ∀{τ:Ty} {x:TypeId ⊕ (Array Field×Nat×Nat)},dM P τ x→τ.mB=true→Qq H enc P w τ x
 | .int k,.inl t,hl,_=>by
  intro fuel cs d h
  simp only[dM]at hl
  obtain⟨n,rfl,_,hw⟩:=DataW.trod_int hl.2 h
  exact⟨n,rfl,hw⟩
 | .bool,.inl t,hl,_=>by
  intro fuel cs d h
  simp only[dM]at hl
  obtain⟨b,rfl,_⟩:=DataW.trod_bool hl.2 h
  exact⟨b,rfl,trivial⟩
 | .str,.inl t,hl,_=>by
  intro fuel cs d h
  simp only[dM]at hl
  obtain⟨s,rfl,_,hs⟩:=DataW.trod_string hl.2 h
  exact⟨s,rfl,hs⟩
 | .slice e,.inl t,hl,hs=>by
  intro fuel cs d h
  simp only[dM]at hl
  obtain⟨_,e',hu,hle⟩:=hl
  simp only[Ty.mB,Bool.and_eq_true,Nat.blt_eq]at hs
  have ih:=qp hle hs.2
  have p9:P.cellsOf e'=e.size:=g5.cells hle
  rcases DataW.trod_slice hu h with⟨rfl,_⟩|⟨a,len,cap,elems,rest,n,_,rfl,_,_,TE,Nq,hel,gH,_⟩
  ·refine⟨[],?_,Nat.zero_le _,fun i h=>by cases h⟩
   simp only[Rd]
   exact⟨none,0,rfl,Nat.le_refl _,fun i h=>by cases h⟩
  ·rw[p9]at gH
   have get: ∀i,i<len→ ∃cs' y,w.cells? 0 (a.add (i*e.size)) e.size=some cs'∧DataW.trod enc P w 0 (fun _=>true) true n e' cs'=some y:=fun i hi=>by
    have:=gH i hi
    rw[List.getElem?_eq_getElem (by omega)]at this
    obtain⟨cs',h1,h2⟩:=Option.bind_eq_some_iff.1 this
    exact⟨cs',_,h1,h2⟩
   have key: ∀i,i<len→ ∃x:e.den,(a.spot=none∧a.block<w.heap.size∧ ∃cs',At w a.block (a.off+i*e.size) cs'∧Rd w (fun _=>False) e cs' x)∧WF e x:=by
    intro i hi
    obtain⟨cs',y,DT,ht⟩:=get i hi
    obtain⟨h1,h2⟩:=CC DT
    obtain⟨x,hx,hw⟩:=ih n cs' y ht
    have hsp:a.spot=none∧a.block<w.heap.size:=by
     obtain⟨oG,y0,amT,_⟩:=get 0 (by omega)
     obtain⟨h10,h20⟩:=CC amT
     have:=h20 0 oG[0] (List.getElem?_eq_getElem (by omega))
     simp only[Nat.zero_mul,Addr.add,if_true,World.cell?]at this
     split at this
     ·rename_i hb
      refine⟨?_,(Array.getElem?_eq_some_iff.1 hb).1⟩
      split at this
      ·cases this
      ·rename_i hn;simpa using hn
     ·cases this
    refine⟨x,⟨hsp.1,hsp.2,cs',fun j v hj=> ?_,hx⟩,hw⟩
    have:=h2 j v hj
    have he:(a.add (i*e.size)).add j=⟨a.block,a.off+i*e.size+j,none⟩:=by
     obtain⟨ab,ao,asp⟩:=a
     simp only at hsp
     obtain⟨rfl,_⟩:=hsp
     simp only[Addr.add]
     split<;>split<;>simp_all<;>omega
    rw[he]at this
    exact this
   obtain⟨l,hl,hp⟩:=rU len key
   refine⟨l,?_,by rw[hl];omega,fun i h=>(hp i h).2⟩
   simp only[Rd]
   refine⟨some a,cap,by rw[hl],by rw[hl];exact TE,fun i h=> ?_⟩
   obtain⟨h1,h2,cs',h3,h4⟩:=(hp i h).1
   refine⟨a.block,a.off,?_,h2,fun h=>h,cs',h3,h4⟩
   rw[←h1]
 | .unit,.inl t,hl,_=>by
  intro fuel cs d h
  simp only[dM]at hl
  obtain⟨⟨i,hi,p9,_⟩,fs,hu,h0⟩:=hl
  obtain⟨xs,n,_,_,hc,_⟩:=DataW.trod_struct hu h
  refine⟨(),?_,trivial⟩
  simp only[Rd]
  rw[←List.length_eq_zero_iff,hc]
  simp[Program.cellsOf,hi,p9,Ty.size]
 | .unit,.inr q,hl,_=>by
  intro cs hc _
  refine⟨(),?_,trivial⟩
  simp only[Rd]
  rw[List.drop_of_length_le (by rw[hc];simp[Ty.size])]
 | .pair a b,.inl t,hl,hs=>by
  intro fuel cs d h
  simp only[dM]at hl
  obtain⟨⟨i,hi,p9,_⟩,fs,f,hu,hf,ho,tZ,JI⟩:=hl
  simp only[Ty.mB,Bool.and_eq_true]at hs
  have iha:=qp tZ hs.1
  have PF:=qp JI hs.2
  obtain⟨xs,n,_,_,hc,hxl,hxs⟩:=DataW.trod_struct hu h
  have:=CD (b:=b) (off:=0) hf ho tZ iha (by simp only[Nat.zero_add];exact PF) (cs:=cs) (by rw[hc];simp[Program.cellsOf,hi,p9,Ty.size]) (fun f hf=>by
   obtain⟨j,hj,rfl⟩:=List.mem_iff_getElem.1 hf
   rw[Array.length_toList]at hj
   have:=hxs j fs[j] (by simp[hj])
   rw[List.getElem?_eq_getElem (by omega)]at this
   exact⟨n,_,by rw[Array.getElem_toList];exact this⟩)
  rw[List.drop_zero]at this
  exact this
 | .pair a b,.inr (fs,n,off),hl,hs=>by
  intro cs hc gH
  simp only[dM]at hl
  obtain⟨f,hf,ho,tZ,JI⟩:=hl
  simp only[Ty.mB,Bool.and_eq_true]at hs
  exact CD hf ho tZ (qp tZ hs.1) (qp JI hs.2) (by simpa [Ty.size]using hc) gH
 | .arr n e,.inl t,hl,hs=>by
  intro fuel cs d h
  simp only[dM]at hl
  obtain⟨⟨i,hi,p9,_⟩,e',hu,hle⟩:=hl
  simp only[Ty.mB]at hs
  have ih:=qp hle hs
  have hse:P.cellsOf e'=e.size:=g5.cells hle
  obtain⟨xs,m,_,_,hc,hxl,hxs⟩:=DataW.trod_array hu h
  have hlen:cs.length=n*e.size:=by rw[hc];simp[Program.cellsOf,hi,p9,Ty.size]
  have key: ∀i,i<n→ ∃x:e.den,Rd w (fun _=>False) e ((cs.drop (i*e.size)).take e.size) x∧WF e x:=fun i hi=>by
   have:=hxs i hi
   rw[List.getElem?_eq_getElem (by omega),hse]at this
   exact ih m _ _ this
  obtain⟨l,Tb,hp⟩:=rU n key
  refine⟨l,?_,fun i h=>(hp i h).2⟩
  simp only[Rd]
  refine⟨Tb,(List.range n).map fun i=>(cs.drop (i*e.size)).take e.size,by simp,?_,fun i h h'=> ?_⟩
  ·clear hxs h key hp Tb hu
   have: ∀m,m≤n→cs.take (m*e.size)=((List.range m).map fun i=>(cs.drop (i*e.size)).take e.size).flatten:=by
    intro m
    induction m with
    |zero=>simp
    |succ m ihm=>
     intro hm
     rw[List.range_succ,List.map_append,List.flatten_append,←ihm (by omega)]
     simp only[List.map_cons,List.map_nil,List.flatten_cons,List.flatten_nil,List.append_nil]
     rw[Nat.add_mul,Nat.one_mul,List.take_add]
   have h2:=this n (Nat.le_refl _)
   rw[List.take_of_length_le (by omega)]at h2
   exact h2
  ·have:=(hp i h).1
   simpa using this
 | .int _,.inr _,h,_| .bool,.inr _,h,_| .str,.inr _,h,_| .slice _,.inr _,h,_| .arr _ _,.inr _,h,_=>by simp[dM]at h
theorem abX{τ:Ty}{t:TypeId}{r:Reach}{b0:Nat}{v:Value}{d:DataW H}{ps:List MemPlace}(hl:g5 P τ t)(hs:τ.mB=true)(hv:Value.okWide P w r b0 t v)(h:DataW.Trod enc P w 0 (fun _=>true) true t v d ps):
  ∃x:τ.den,V w (fun _=>False) τ v x∧WF τ x:=by
 obtain⟨fuel,h⟩:=h
 obtain⟨x,hx,hw⟩:=qp (H:=H) (enc:=enc) (w:=w) hl hs fuel _ _ h
 refine⟨x,?_,hw⟩
 unfold V
 cases τ with
 |int k=>
  obtain⟨n,rfl⟩:=okWide_int hl.int hv
  exact hx
 |bool=>
  obtain⟨n,rfl⟩:=okWide_bool hl.bool hv
  exact hx
 |str=>
  obtain⟨n,rfl⟩:=okWide_string hl.str hv
  exact hx
 |slice e=>
  obtain⟨e',hu,_⟩:=hl.slice
  obtain⟨a,len,cap,rfl⟩:=okWide_slice hu hv
  exact hx
 |unit=>
  simp only[g5,dM]at hl
  obtain⟨_,fs,hu,_⟩:=hl
  simp only[Value.okWide,hu]at hv
  obtain⟨cs,rfl,_⟩:=hv
  exact⟨cs,rfl,hx⟩
 |pair a b=>
  simp only[g5,dM]at hl
  obtain⟨_,fs,f,hu,_⟩:=hl
  simp only[Value.okWide,hu]at hv
  obtain⟨cs,rfl,_⟩:=hv
  exact⟨cs,rfl,hx⟩
 |arr n e=>
  obtain⟨e',hu,_⟩:=hl.arr
  simp only[Value.okWide,hu]at hv
  obtain⟨cs,rfl,_⟩:=hv
  exact⟨cs,rfl,hx⟩
def WFs:(ms:List Ty)→HP (ms.map .v)→Prop
 |[],_=>True
 |_::ms,x=>WF _ (rz x)∧WFs ms (wh x)
def hpC:{m:AM}→{ms:List AM}→m.den→HP ms→HP (m::ms)
 |_,[],x,_=>x
 |_,_::_,x,y=>(x,y)
theorem Mb{m:AM}: ∀{ms:List AM} (x:m.den) (y:HP ms),rz (hpC x y)=x
 |[],_,_=>rfl
 |_::_,_,_=>rfl
theorem Mc{m:AM}: ∀{ms:List AM} (x:m.den) (y:HP ms),wh (hpC x y)=y
 |[],_,()=>rfl
 |_::_,_,_=>rfl
theorem CE(laid:laidOutB P=true){r:Reach}{b0:Nat}: ∀{τs:List Ty} {ts:List TypeId} {vs:List Value} {ds:List (DataW H)} {ps:List MemPlace},DataW.TrodAll enc P w 0 (fun _=>true) true ts vs ds ps→
  τs.length=ts.length→(∀(j:Nat) τ t,τs[j]? =some τ→ts[j]? =some t→(g5 P τ t∧τ.mB=true∧P.readableRec t=true∧t<P.types.size))→
  (∀(j:Nat) t v,ts[j]? =some t→vs[j]? =some v→Value.okWide P w r b0 t v)→
  (∃x:HP (τs.map .v),gj w (fun _=>False) (τs.map .v) x vs∧WFs τs x)∧ ∀w',Below w.heap.size w w'→ ∃BV,DataW.TrodAll enc P w' 0 (fun b=>decide (b<w.heap.size)) true ts vs ds BV
 |[],[],vs,ds,ps,h,_,_,_=>by
  obtain⟨rfl,rfl,rfl⟩:=trodAll_nil h
  exact⟨⟨(),rfl,trivial⟩,fun w' _=>⟨[],rfl⟩⟩
 |τ::τs,t::ts,vs,ds,ps,h,hl,BP,hv=>by
  obtain⟨v,Ft,d,ds',p,q,rfl,rfl,rfl,h1,h2⟩:=trodAll_cons h
  obtain⟨uW,abY,S5,dT⟩:=BP 0 τ t rfl rfl
  obtain⟨x,hx,hwx⟩:=abX uW abY (hv 0 t v rfl rfl) h1
  obtain⟨⟨y,hy,hwy⟩,Qr⟩:=CE laid h2 (by simpa using hl) (fun j τ' t' h h'=>BP (j+1) τ' t' (by simpa using h) (by simpa using h')) (fun j t' v' h h'=>hv (j+1) t' v' (by simpa using h) (by simpa using h'))
  refine⟨⟨hpC (m:= .v τ) x y,?_,?_⟩,fun w' hb=> ?_⟩
  ·show gj w _ (.v τ::τs.map .v) _ _
   simp only[gj]
   exact⟨v,Ft,rfl,by rw[Mb];exact hx,by rw[Mc];exact hy⟩
  ·simp only[WFs]
   exact⟨by rw[Mb];exact hwx,by rw[Mc];exact hwy⟩
  ·obtain⟨BV,h'⟩:=Qr w' hb
   have tS: ∀z∈p,z.block<w.heap.size:=by
    obtain⟨m,hm⟩:=h1
    exact DataW.trod_lt m _ _ _ hm
   exact⟨p++BV,trodAll_cons_mk (Below.trod laid S5 dT h1 hb tS) h'⟩
 |[],_::_,_,_,_,_,hl,_,_|_::_,[],_,_,_,_,hl,_,_=>by simp at hl
end
end VM
end
section
namespace VM
open Go
variable{α:Type}
noncomputable def vh(L:Nat→Option (List (Nat×CM)))(κ:Nat→St→Option α)(i:Option Nat)(f:St→Option α):St→Option α:=
 match i with
 |none=>f
 |some i=>match L i with
  |none=>f
  |some _=>κ i
noncomputable def Qs(E:Env)(κJ κL:Nat→St→Option α)(c:Code):St→(St→Option α)→(Nat→St→Option α)→(St→Option α)→Option α:=
 Code.rec (motive:=fun _=>St→(St→Option α)→(Nat→St→Option α)→(St→Option α)→Option α)
  (fun σ k _ _=>k σ)
  (fun _ ops draw σ k _ _=>yV E ops draw σ k)
  (fun _ b A B σ k kx kr=>A σ (fun σ'=>rI ((bS b).bind E.td) σ' (vh E.td κJ (bS b) fun rn=>B rn k kx kr)) kx kr)
  (fun c _ _ A B σ k kx kr=>Cn E c σ (fun σ'=>A σ' k kx kr) (fun σ'=>B σ' k kx kr))
  (fun id _ A σ k kx kr=>A σ k (fun i σ'=>cond (Nat.beq i id) (k σ') (kx i σ')) kr)
  (fun b _ σ _ kx kr=>rI ((bS b).bind E.rE) σ (vh E.rE κL (bS b) (xk ((bS b).bind E.rE) (fun σ' kn=>yW E b σ' kn kx kr) E.N)))
  (fun _ _ _ _ _ _ _ _ _ _=>none)
  (fun id σ _ kx _=>kx id σ)
  (fun _ A σ k kx kr=>A σ k kx kr)
  (fun _ σ k _ _=>k σ)
  (fun _ _ _ _ _=>none)
  (fun σ _ _ kr=>kr σ)
  (fun _ _ _ _ _=>none)
  c
noncomputable def zS(E:Env)(c:Code):(St→Option α)→(Nat→St→Option α)→(St→Option α)→List (Bool×Nat×(St→Option α)):=
 Code.rec (motive:=fun _=>(St→Option α)→(Nat→St→Option α)→(St→Option α)→List (Bool×Nat×(St→Option α)))
  (fun _ _ _=>[])
  (fun _ _ _ _ _ _=>[])
  (fun _ b A B k kx kr=>A (fun σ'=>rI ((bS b).bind E.td) σ' fun rn=>yW E b rn k kx kr) kx kr++(((bS b).toList.map fun i=>(false,i,fun rn=>yW E b rn k kx kr))++B k kx kr))
  (fun _ _ _ A B k kx kr=>A k kx kr++B k kx kr)
  (fun id _ A k kx kr=>A k (fun i σ'=>cond (Nat.beq i id) (k σ') (kx i σ')) kr)
  (fun b _ _ kx kr=>(bS b).toList.map fun i=>(true,i,xk ((bS b).bind E.rE) (fun σ' kn=>yW E b σ' kn kx kr) E.N))
  (fun _ _ _ _ _ _ _ _ _=>[])
  (fun _ _ _ _=>[])
  (fun _ A k kx kr=>A k kx kr)
  (fun _ _ _ _=>[])
  (fun _ _ _ _=>[])
  (fun _ _ _=>[])
  (fun _ _ _ _=>[])
  c
noncomputable def rV(E:Env)(κJ κL:Nat→St→Option α):List (Bool×Nat×(St→Option α))→List ((St→Option α)×(St→Option α))
 |[]=>[]
 |q::r=>match q.1 with
  |false=>match E.td q.2.1 with
   |some _=>(κJ q.2.1,q.2.2)::rV E κJ κL r
   |none=>rV E κJ κL r
  |true=>match E.rE q.2.1 with
   |some _=>(κL q.2.1,q.2.2)::rV E κJ κL r
   |none=>rV E κJ κL r
def B1(E:Env)(κJ κL:Nat→St→Option α)(l:List (Bool×Nat×(St→Option α))):Prop:= ∀p∈rV E κJ κL l,p.1=p.2
theorem abZ{E:Env}{κJ κL:Nat→St→Option α}{l:List (Bool×Nat×(St→Option α))}(g:List (St→Option α))(h:rV E κJ κL l=g.map fun f=>(f,f)):B1 E κJ κL l:=by
 intro p hp
 rw[h]at hp
 obtain⟨f,_,rfl⟩:=List.mem_map.1 hp
 rfl
theorem xE{E:Env}{κJ κL:Nat→St→Option α}: ∀(l m:List (Bool×Nat×(St→Option α))),rV E κJ κL (l++m)=rV E κJ κL l++rV E κJ κL m
 |[],m=>rfl
 |(b,i,f)::l,m=>by
  have ih:=xE (E:=E) (κJ:=κJ) (κL:=κL) l m
  cases b<;>simp only[List.cons_append,rV]<;>split<;>simp[ih]
theorem B1.app{E:Env}{κJ κL:Nat→St→Option α}{l m:List (Bool×Nat×(St→Option α))}(h:B1 E κJ κL (l++m)):B1 E κJ κL l∧B1 E κJ κL m:=by
 unfold B1 at*
 rw[xE]at h
 exact⟨fun p hp=>h p (List.mem_append_left _ hp),fun p hp=>h p (List.mem_append_right _ hp)⟩
theorem aak{E:Env}{κJ κL:Nat→St→Option α}{i:Option Nat}{f:St→Option α}(h:B1 E κJ κL (i.toList.map fun i=>(false,i,f))):vh E.td κJ i f=f:=by
 cases i with
 |none=>rfl
 |some i=>
  simp only[Option.toList,List.map,B1,rV]at h
  unfold vh
  cases hL:E.td i with
  |none=>simp[hL]
  |some L=>rw[hL]at h;simp only[hL];exact h (κJ i,f) (List.mem_singleton.2 rfl)
theorem ahp{E:Env}{κJ κL:Nat→St→Option α}{i:Option Nat}{f:St→Option α}(h:B1 E κJ κL (i.toList.map fun i=>(true,i,f))):vh E.rE κL i f=f:=by
 cases i with
 |none=>rfl
 |some i=>
  simp only[Option.toList,List.map,B1,rV]at h
  unfold vh
  cases hL:E.rE i with
  |none=>simp[hL]
  |some L=>rw[hL]at h;simp only[hL];exact h (κL i,f) (List.mem_singleton.2 rfl)
theorem Qt{E:Env}{κJ κL:Nat→St→Option α}(c:Code): ∀(k:St→Option α) (kx:Nat→St→Option α) (kr:St→Option α) (σ:St),B1 E κJ κL (zS E c k kx kr)→Qs E κJ κL c σ k kx kr=yW E c σ k kx kr:=by
 induction c with
 |skip=>intros;rfl
 |region=>intros;rfl
 |seq a b iha PF=>
  intro k kx kr σ h
  obtain⟨h1,h2⟩:=B1.app (h:B1 E κJ κL (zS E a _ kx kr++(((bS b).toList.map fun i=>(false,i,fun rn=>yW E b rn k kx kr))++zS E b k kx kr)))
  obtain⟨h2,h3⟩:=B1.app h2
  show Qs E κJ κL a σ (fun σ'=>rI ((bS b).bind E.td) σ' (vh E.td κJ (bS b) fun rn=>Qs E κJ κL b rn k kx kr)) kx kr=yW E a σ (fun σ'=>rI ((bS b).bind E.td) σ' fun rn=>yW E b rn k kx kr) kx kr
  have hb:(fun rn=>Qs E κJ κL b rn k kx kr)=fun rn=>yW E b rn k kx kr:=funext fun rn=>PF k kx kr rn h3
  rw[hb,aak h2]
  exact iha _ _ _ _ h1
 |cond x a b iha PF=>
  intro k kx kr σ h
  obtain⟨h1,h2⟩:=B1.app (h:B1 E κJ κL (zS E a k kx kr++zS E b k kx kr))
  show Cn E x σ (fun σ'=>Qs E κJ κL a σ' k kx kr) (fun σ'=>Qs E κJ κL b σ' k kx kr)=Cn E x σ (fun σ'=>yW E a σ' k kx kr) (fun σ'=>yW E b σ' k kx kr)
  rw[show(fun σ'=>Qs E κJ κL a σ' k kx kr)=fun σ'=>yW E a σ' k kx kr from funext fun σ'=>iha k kx kr σ' h1,show(fun σ'=>Qs E κJ κL b σ' k kx kr)=fun σ'=>yW E b σ' k kx kr from funext fun σ'=>PF k kx kr σ' h2]
 |block id x ih=>intro k kx kr σ h;exact ih _ _ _ σ h
 |loop b _=>
  intro k kx kr σ h
  show rI ((bS b).bind E.rE) σ (vh E.rE κL (bS b) (xk ((bS b).bind E.rE) (fun σ' kn=>yW E b σ' kn kx kr) E.N))=rI ((bS b).bind E.rE) σ (xk ((bS b).bind E.rE) (fun σ' kn=>yW E b σ' kn kx kr) E.N)
  rw[ahp (h:B1 E κJ κL ((bS b).toList.map fun i=>(true,i,_)))]
 |rangeFunc=>intros;rfl
 |exit=>intros;rfl
 |scope x ih=>intro k kx kr σ h;exact ih _ _ _ σ h
 |label=>intros;rfl
 |goto=>intros;rfl
 |ret=>intros;rfl
 |refuse=>intros;rfl
noncomputable def kp(E:Env)(κJ κL:Nat→St→Option α):List Nat→Code→List (St→Option α)→St→(St→Option α)→(Nat→St→Option α)→(St→Option α)→Option α
 |[],c,_,σ,k,kx,kr=>Qs E κJ κL c σ k kx kr
 |n::p,c,ks,σ,k,kx,kr=>match c with
  | .seq a b=>match n with
   |0=>kp E κJ κL p a ks σ (fun σ'=>rI ((bS b).bind E.td) σ' (vh E.td κJ (bS b) fun rn=>Qs E κJ κL b rn k kx kr)) kx kr
   |_=>kp E κJ κL p b ks σ k kx kr
  | .cond _ a b=>match n with
   |0=>kp E κJ κL p a ks σ k kx kr
   |_=>kp E κJ κL p b ks σ k kx kr
  | .block id c=>kp E κJ κL p c ks σ k (fun i σ'=>cond (Nat.beq i id) (k σ') (kx i σ')) kr
  | .loop b=>match ks with
   |κ::ks=>kp E κJ κL p b ks σ κ kx kr
   |[]=>none
  | .scope c=>kp E κJ κL p c ks σ k kx kr
  |_=>none
noncomputable def eL(E:Env):List Nat→Code→List (St→Option α)→(St→Option α)→(Nat→St→Option α)→(St→Option α)→List (Bool×Nat×(St→Option α))
 |[],c,_,k,kx,kr=>zS E c k kx kr
 |n::p,c,ks,k,kx,kr=>match c with
  | .seq a b=>match n with
   |0=>((bS b).toList.map fun i=>(false,i,fun rn=>yW E b rn k kx kr))++(zS E b k kx kr++eL E p a ks (fun σ'=>rI ((bS b).bind E.td) σ' fun rn=>yW E b rn k kx kr) kx kr)
   |_=>eL E p b ks k kx kr
  | .cond _ a b=>match n with
   |0=>eL E p a ks k kx kr
   |_=>eL E p b ks k kx kr
  | .block id c=>eL E p c ks k (fun i σ'=>cond (Nat.beq i id) (k σ') (kx i σ')) kr
  | .loop b=>match ks with
   |κ::ks=>eL E p b ks κ kx kr
   |[]=>[]
  | .scope c=>eL E p c ks k kx kr
  |_=>[]
theorem jQ{E:Env}{κJ κL:Nat→St→Option α}: ∀(p:List Nat) (c:Code) (ks:List (St→Option α)) (k:St→Option α) (kx:Nat→St→Option α) (kr:St→Option α) (σ:St),B1 E κJ κL (eL E p c ks k kx kr)→
  kp E κJ κL p c ks σ k kx kr=rp E p c ks σ k kx kr
 |[],c,ks,k,kx,kr,σ,h=>Qt c k kx kr σ h
 |n::p,c,ks,k,kx,kr,σ,h=>by
  cases c with
  |seq a b=>
   cases n with
   |zero=>
    simp only[kp,rp,eL]at h ⊢
    obtain⟨h1,h2⟩:=B1.app h
    obtain⟨h2,h3⟩:=B1.app h2
    rw[show(fun rn=>Qs E κJ κL b rn k kx kr)=fun rn=>yW E b rn k kx kr from funext fun rn=>Qt b k kx kr rn h2,aak h1]
    exact jQ p a ks _ kx kr σ h3
   |succ n=>simp only[kp,rp,eL]at h ⊢;exact jQ p b ks k kx kr σ h
  |cond x a b=>
   cases n with
   |zero=>simp only[kp,rp,eL]at h ⊢;exact jQ p a ks k kx kr σ h
   |succ n=>simp only[kp,rp,eL]at h ⊢;exact jQ p b ks k kx kr σ h
  |block id x=>simp only[kp,rp,eL]at h ⊢;exact jQ p x ks k _ kr σ h
  |loop b=>
   cases ks with
   |nil=>simp only[kp,rp]
   |cons κ ks=>simp only[kp,rp,eL]at h ⊢;exact jQ p b ks κ kx kr σ h
  |scope x=>simp only[kp,rp,eL]at h ⊢;exact jQ p x ks k kx kr σ h
  |_=>simp only[kp,rp]
noncomputable def zT(fn:Func):Code:=fn.body.getD .skip
noncomputable def Gn(E:Env)(fn:Func)(args res:List AM):St→Option (HP res):=fun σ=>DN E res (fn.results.toList.map .inl++wv args 0) σ some
noncomputable def nox:Nat→St→Option α:=fun _ _=>none
noncomputable def auh:St→Option α:=fun _=>none
noncomputable def atF(E:Env)(fn:Func)(args res:List AM)(p:List Nat)(ks:List (St→Option (HP res)))(σ:St):Option (HP res):=
 rp E p (zT fn) ks σ (Gn E fn args res) nox (Gn E fn args res)
noncomputable def atQ(E:Env)(fn:Func)(args res:List AM)(κJ κL:Nat→St→Option (HP res))(p:List Nat)(ks:List (St→Option (HP res)))(σ:St):Option (HP res):=
 kp E κJ κL p (zT fn) ks σ (Gn E fn args res) nox (Gn E fn args res)
noncomputable def Ue(E:Env)(fn:Func)(args res:List AM)(p:List Nat)(ks:List (St→Option (HP res))):List (Bool×Nat×(St→Option (HP res))):=
 eL E p (zT fn) ks (Gn E fn args res) nox (Gn E fn args res)
theorem amW{E:Env}{fn:Func}{args res:List AM}{κJ κL:Nat→St→Option (HP res)}{p:List Nat}{ks:List (St→Option (HP res))}(g:List (St→Option (HP res)))(h:rV E κJ κL (Ue E fn args res p ks)=g.map fun f=>(f,f))(σ:St):
 atF E fn args res p ks σ=atQ E fn args res κJ κL p ks σ:=(jQ p _ ks _ _ _ σ (abZ g h)).symm
theorem ab1{E:Env}{fn:Func}{args res:List AM}(hb:fn.body.isSome=true)(x:HP args):Jy E fn args res x=atF E fn args res [] [] (entry args x 0 S0):=by
 unfold Jy atF zT
 cases h:fn.body with
 |none=>rw[h]at hb;cases hb
 |some c=>rfl
noncomputable def lpF(E:Env)(fn:Func)(args res:List AM)(c:List (Nat×CM))(p:List Nat)(ks:List (St→Option (HP res)))(n:Nat):St→Option (HP res):=
 xk (some c) (fun σ kn=>atF E fn args res p (ks++[kn]) σ) n
theorem Qu(E:Env)(fn:Func)(args res:List AM)(c:List (Nat×CM))(p:List Nat)(ks:List (St→Option (HP res)))(n:Nat)(σ:St):
 lpF E fn args res c p ks (n+1) σ=atF E fn args res p (ks++[fun σ'=>rI (some c) σ' (lpF E fn args res c p ks n)]) σ:=rfl
def Qv{β:Type}(κ:Nat→β):List (Nat×β)→Prop
 |[]=>True
 |q::r=>κ q.1=q.2∧Qv κ r
def NK{β:Type}:List (β×β)→Prop
 |[]=>True
 |q::r=>q.1=q.2∧NK r
theorem NK.mem{β:Type}: ∀{l:List (β×β)},NK l→ ∀p∈l,p.1=p.2
 |q::r,h,p,hp=>by
  rcases List.mem_cons.1 hp with rfl|hp
  ·exact h.1
  ·exact NK.mem h.2 p hp
theorem ahq{β:Type}(d:β): ∀(l:List (Nat×β)),(l.map (·.1)).Nodup→ ∃κ:Nat→β,Qv κ l
 |[],_=>⟨fun _=>d,trivial⟩
 |q::r,h=>by
  rw[List.map_cons,List.nodup_cons]at h
  obtain⟨κ,hκ⟩:=ahq d r h.2
  refine⟨fun i=>if i=q.1 then q.2 else κ i,by simp,?_⟩
  have key: ∀(r':List (Nat×β)),(∀p∈r',p∈r)→Qv κ r'→Qv (fun i=>if i=q.1 then q.2 else κ i) r':=by
   intro r'
   induction r' with
   |nil=>intros;trivial
   |cons p r' ih=>
    intro hm ha
    refine⟨?_,ih (fun p' xl=>hm p' (List.mem_cons_of_mem _ xl)) ha.2⟩
    have gi:p.1≠q.1:=fun e=>h.1 (e▸List.mem_map_of_mem (hm p (List.mem_cons_self ..)))
    show(if p.1=q.1 then q.2 else κ p.1)=p.2
    rw[if_neg gi]
    exact ha.1
  exact key r (fun _ h=>h) hκ
theorem arR{β:Type}(d:β)(l:List (Nat×β)){ks:List Nat}(h:l.map (·.1)=ks)(hd:ks.Nodup): ∃κ:Nat→β,Qv κ l:=ahq d l (h▸hd)
theorem at_eq(E:Env)(fn:Func)(args res:List AM){κJ κL:Nat→St→Option (HP res)}{p:List Nat}{ks:List (St→Option (HP res))}{l:List ((St→Option (HP res))×(St→Option (HP res)))}(h:rV E κJ κL (Ue E fn args res p ks)=l)(hl:NK l)(σ:St):
 atF E fn args res p ks σ=atQ E fn args res κJ κL p ks σ:=(jQ p _ ks _ _ _ σ (by unfold B1;rw[show rV E κJ κL (eL E p (zT fn) ks (Gn E fn args res) nox (Gn E fn args res))=l from h];exact hl.mem)).symm
end VM
end
section
namespace VM
open Go Go.RowKit
variable{P:Program}
def Gp(i:Nat):List (Nat×Ty)→Option Ty
 |[]=>none
 |q::r=>cond (Nat.beq i q.1) (some q.2) (Gp i r)
theorem CF{i:Nat}{τ:Ty}: ∀{l:List (Nat×Ty)},Gp i l=some τ→(i,τ)∈l
 |q::r,h=>by
  unfold Gp at h
  cases hb:Nat.beq i q.1<;>rw[hb]at h
  ·exact List.mem_cons_of_mem _ (CF h)
  ·cases h;rw[Nat.eq_of_beq_eq_true hb];exact List.mem_cons_self ..
structure zU(P:Program)(tab:List (Nat×Ty)):Prop where
 ok:ahl P tab=true
 mixed:P.follows .mixedOrders=true
theorem NL{E:Env}(hE:pN P E)(amY:E.io=[]){f:FuncId}{fn:Func}(hf:P.funcs[f]? =some fn)(τs:List Ty)
  (hc:(Nat.beq E.nt fn.ntmps&&Nat.ble τs.length E.nt)=true) {w:World} {vs:List Value} {x:HP (τs.map .v)} (hA:gj w (fun _=>False) (τs.map .v) x vs)
  (h:Jy E fn (τs.map .v) [.v .bool] x=some true):Calls P f vs.toArray w fun e w'=>e= .returned (.bool true)∧Below w.heap.size w w':=by
 rw[Bool.and_eq_true]at hc
 have hnt:=Nat.eq_of_beq_eq_true hc.1
 have hlen:=Nat.le_of_ble_eq_true hc.2
 have hh: ∀(τs:List Ty) (vs:List Value),cK (τs.map .v) vs=[]:=by
  intro τs
  induction τs with
  |nil=>intro vs;cases vs<;>rfl
  |cons τ τs ih=>intro vs;cases vs with
   |nil=>rfl
   |cons v vs=>simp[cK,cD,ih]
 have hi: ∀(τs:List Ty) (vs:List Value),dB (τs.map .v) vs=[]:=by
  intro τs
  induction τs with
  |nil=>intro vs;cases vs<;>rfl
  |cons τ τs ih=>intro vs;cases vs with
   |nil=>rfl
   |cons v vs=>simp[dB,AM.fR,ih]
 refine(CB (M0:=fun _=>False) (vs:=vs) hE hf hnt (fun i m hm sL=> ?_) (fun i hi=>by rw[amY]at hi;cases hi) (by rw[List.length_map];rw[←hnt];exact hlen) (fun b hb=>hb.elim) (by rw[hh];simpa using hA) (by rw[hh];exact List.nodup_nil) (fun b _ hb=>hb) h).mono ?_
 ·rw[List.getElem?_map]at hm
  obtain⟨τ,_,rfl⟩:=Option.map_eq_some_iff.1 hm
  cases sL
 ·rintro e w' ⟨v,rfl,us,M',rfl,Ps,hL,_,_⟩
  rw[hh]at hL
  rw[hi]at Ps
  simp only[RR]at Ps
  rcases Ps with⟨p,BV,h1,_⟩|⟨v,Ft,_,_,rfl,hv,rfl,_⟩
  ·cases h1
  ·refine⟨?_,hL.os,hL.tape,hL.output,hL.size,fun b hb=>hL.frame b hb (by simp)⟩
   have:v= .bool true:=by
    simp only[A1,V,Ty.isAgg,Bool.false_eq_true,if_false,Rd,List.cons.injEq,and_true]at hv
    exact hv
   rw[this];rfl
def Qw(P:Program):List Ty→List TypeId→Bool
 |[],[]=>true
 |τ::τs,t::ts=>(pP P τ (.inl t)&&τ.mB)&&((P.readableRec t&&decide (t<P.types.size))&&Qw P τs ts)
 |_,_=>false
theorem D8: ∀{τs:List Ty} {ts:List TypeId},Qw P τs ts=true→τs.length=ts.length∧ ∀(j:Nat) τ t,τs[j]? =some τ→ts[j]? =some t→(g5 P τ t∧τ.mB=true∧P.readableRec t=true∧t<P.types.size)
 |[],[],_=>⟨rfl,fun j τ t h=>by simp at h⟩
 |τ::τs,t::ts,h=>by
  simp only[Qw,Bool.and_eq_true]at h
  obtain⟨⟨h1,h2⟩,⟨h3,h4⟩,h5⟩:=h
  obtain⟨hl,ih⟩:=D8 h5
  refine⟨by simp[hl],fun j τ' t' ha hb=> ?_⟩
  cases j with
  |zero=>
   simp only[List.getElem?_cons_zero,Option.some.injEq]at ha hb
   subst ha;subst hb
   exact⟨eA h1,h2,h3,of_decide_eq_true h4⟩
  |succ j=>exact ih j τ' t' (by simpa using ha) (by simpa using hb)
 |[],_::_,h|_::_,[],h=>by simp[Qw]at h
theorem Qx{H:Type}{enc:TypeId×Value→H}{w:World}{fn:Func}{args:Array Value}{ds:List (DataW H)}{ps:List MemPlace}{r:Reach}{b0:Nat}(laid:laidOutB P=true)(τs:List Ty)
  (hA:DataW.TrodAll enc P w 0 (fun _=>true) true fn.params.toList args.toList ds ps) (BP:Qw P τs fn.params.toList=true)
  (hv: ∀(j:Nat) t v,fn.params[j]? =some t→args[j]? =some v→Value.okWide P w r b0 t v):
  (∃x:HP (τs.map .v),gj w (fun _=>False) (τs.map .v) x args.toList∧WFs τs x)∧ ∀w',Below w.heap.size w w'→ ∃BV,DataW.TrodAll enc P w' 0 (fun b=>decide (b<w.heap.size)) true fn.params.toList args.toList ds BV:=
 CE laid hA (D8 BP).1 (D8 BP).2 (fun j t v h h'=>hv j t v (by rw[Array.getElem?_toList]at h;exact h) (by rw[Array.getElem?_toList]at h';exact h'))
end VM
end
