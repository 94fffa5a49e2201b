/- A part of the proof of HedgeDrawn of layer 22: a machine that reads a function of the program as an equation between values. -/
import Derived.Test.YtocmlaipoebfeaaGreatVm5
import Derived.Laws.StructEq
import Derived.OpenShut
import Derived.ChangeShapes
import Derived.ChangeMaps5
import Derived.RowKit
import Derived.ChangeOld
import Derived.Carry
import Derived.Below
import Derived.Test.YtocmlaipoebfeaaGreatVm0
set_option linter.all false
section
namespace VM
open Go
variable{P:Program}{E:Env}{o:Oper}{a:Act}{w:World}{M:Nat→Prop}{ν:Nat→Value}{σ:St}{c:Ctx}{α:Type}{r:α}{next:Act→World→Prop}{Q:Exit→Act→World→Prop}
theorem xJ{L:Option (List (Nat×CM))}(hL: ∀L',L=some L'→gA L'=true){b:Code}{Q:Exit→Act→World→Prop}{step:St→(St→Option α)→Option α}
  (hs: ∀σ a w kn (Q':Exit→Act→World→Prop),Inv c E σ a w→step σ kn=some r→(∀σ' a' w',kn σ'=some r→Inv c E σ' a' w'→Q' .normal a' w')→(∀e a' w',e≠ .normal→Q e a' w'→Q' e a' w')→b.wp P Q' a w):
  ∀n σ a w,Inv c E σ a w→xv L step n σ=some r→Code.rounds P b Q n a w
 |0,σ,a,w,_,h=>by cases h
 |n+1,σ,a,w,hI,h=>by
  rw[rounds_succ]
  refine hs σ a w _ _ hI h (fun σ' a' w' h' tC=> ?_) (fun e a' w' he hq=> ?_)
  ·obtain⟨rk,Ml,abN⟩:=tV tC hL h'
   exact xJ hL hs n rk a' w' abN Ml
  ·cases e<;>first|exact hq|exact absurd rfl he
theorem NV(hE:oN P E): ∀(cd:Code) (σ:St) (a:Act) (w:World) (k:St→Option α) (kx:Nat→St→Option α) (kr:St→Option α) (Q:Exit→Act→World→Prop),Inv c E σ a w→zh E cd σ k kx kr=some r→
  (∀σ' a' w',k σ'=some r→Inv c E σ' a' w'→Q .normal a' w')→(∀i σ' a' w',kx i σ'=some r→Inv c E σ' a' w'→Q (.exit i) a' w')→(∀σ' a' w',kr σ'=some r→Inv c E σ' a' w'→Q .ret a' w')→cd.wp P Q a w:=by
 intro cd
 induction cd with
 |skip=>intro σ a w k kx kr Q hI h hk _ _;exact wp_skip (hk σ a w h hI)
 |region id ops draw=>intro σ a w k kx kr Q hI h hk _ _;exact Ci hE hI h hk
 |seq x y ihx ihy=>
  intro σ a w k kx kr Q hI h hk hx hr
  refine wp_seq (ihx σ a w _ kx kr _ hI h (fun σ' a' w' h' tC=> ?_) hx hr)
  obtain⟨rk,Ml,abN⟩:=tV tC (fun L' hL=>by
   cases hf:bU y with
   |none=>rw[hf]at hL;cases hL
   |some i=>rw[hf]at hL;exact hE.P3 i L' hL) h'
  exact ihy rk a' w' k kx kr Q abN Ml hk hx hr
 |cond x t e iht ihe=>
  intro σ a w k kx kr Q hI h hk hx hr
  obtain⟨b,hb,h⟩:=GH (E:=E) (A:=fun σ'=>zh E t σ' k kx kr) (B:=fun σ'=>zh E e σ' k kx kr) hI h
  refine wp_cond hb ?_
  cases b
  ·exact ihe σ a w k kx kr Q hI h hk hx hr
  ·exact iht σ a w k kx kr Q hI h hk hx hr
 |block id x ih=>
  intro σ a w k kx kr Q hI h hk hx hr
  refine wp_block (ih σ a w k _ kr _ hI h hk (fun i σ' a' w' h' tC=> ?_) hr)
  show if i=id then Q .normal a' w' else Q (.exit i) a' w'
  cases hb:Nat.beq i id
  ·have gk:i≠id:=fun e=>by subst e;rw[show Nat.beq i i=true from Nat.beq_refl i]at hb;cases hb
   rw[hb]at h'
   rw[if_neg gk]
   exact hx i σ' a' w' h' tC
  ·rw[hb]at h'
   rw[if_pos (Nat.eq_of_beq_eq_true hb)]
   exact hk σ' a' w' h' tC
 |loop b ih=>
  intro σ a w k kx kr Q hI h hk hx hr
  have hL: ∀L',(bU b).bind E.rD=some L'→gA L'=true:=fun L' hL=>by
   cases hf:bU b with
   |none=>rw[hf]at hL;cases hL
   |some i=>rw[hf]at hL;exact hE.gA i L' hL
  obtain⟨σ',h',tC⟩:=tV hI hL h
  refine wp_loop_rounds E.N (xJ hL (fun σ a w kn Q' hI h hkn hq=> ?_) E.N σ' a w tC h')
  exact ih σ a w kn kx kr Q' hI h hkn (fun i σ' a' w' h' tC=>hq _ _ _ (by simp) (hx i σ' a' w' h' tC)) (fun σ' a' w' h' tC=>hq _ _ _ (by simp) (hr σ' a' w' h' tC))
 |rangeFunc f ps x y ihx ihy=>intro σ a w k kx kr Q hI h;cases h
 |exit id=>intro σ a w k kx kr Q hI h hk hx hr;exact wp_exit (hx id σ a w h hI)
 |scope x ih=>
  intro σ a w k kx kr Q hI h hk hx hr
  exact wp_scope_straight (ih σ a w k kx kr _ hI h hk hx hr)
 |label l=>intro σ a w k kx kr Q hI h hk _ _;exact wp_label (hk σ a w h hI)
 |goto l=>intro σ a w k kx kr Q hI h;cases h
 |ret=>intro σ a w k kx kr Q hI h hk hx hr;exact wp_ret (hr σ a w h hI)
 |refuse s=>intro σ a w k kx kr Q hI h;cases h
end VM
end
section
namespace VM
open Go
variable{P:Program}{E:Env}{o:Oper}{a:Act}{w:World}{M:Nat→Prop}{ν:Nat→Value}{σ:St}{c:Ctx}{α:Type}{r:α}{next:Act→World→Prop}{Q:Exit→Act→World→Prop}
theorem Kv{m:AM}{ms:List AM}(x:HP (m::ms))(i:Nat)(σ:St):entry (m::ms) x i σ=entry ms (wv x) (i+1) (Kc m (rz x) i σ):=by
 cases ms with
 |nil=>simp[entry,rz]
 |cons n ms=>simp[entry,rz,wv]
theorem Core.xE{tm:Array Value}(h:Core c σ tm w M ν){id:Nat}{v:Value}{e:aR}(aU:σ.H id=none)(Nt:ER w M v e)
  (hd: ∀b,eD v=some b→ ∀i e',σ.H i=some e'→e'.mut→eD (ν i)≠some b) (hn: ∀b,eD v=some b→c.B≤b∨c.may b) (ho: ∀b e0 l0,e= .own e0 l0→eD v=some b→ ¬c.M0 b)
  (pB: ∀τ x p j,e= .ed τ x p j→bu σ.H id (some e) j≠none∧ ∃b,v= .pointer (some ⟨b,0,none⟩)∧w.cell? ⟨b,bO p τ,none⟩=some (cB ν id v j):=by intro _ _ _ _ h;cases h):
  Core c ⟨σ.T,bu σ.H id (some e)⟩ tm w M (cB ν id v):=by
 have hm:=Mem.xE h.mem (id:=id) (v:=v) (e:=e) (fun e' tz=>by rw[aU]at tz;cases tz) Nt hd hn ho (.inl aU) pB
 refine h.tr ⟨hm,.refl w M,⟨fun i e1 hi=> ?_,fun i hi=> ?_⟩⟩
 ·have bB:i≠id:=fun e=>by rw[e,aU]at hi;cases hi
  exact⟨e1,by rw[an _ _ bB];exact hi,.refl e1⟩
 ·have bB:i≠id:=fun e=>hi (e▸aU)
  simp[cB,bB]
theorem Core.put{tm:Array Value}(h:Core c σ tm w M ν){d:Nat}{x:a7}(hx:VR w M σ.H ν x (tm.getD d undef)):Core c (σ.put d x) tm w M ν:=by
 refine⟨h.mem,fun i=> ?_⟩
 by_cases hi:i=d
 ·subst hi;rw[qb];exact hx
 ·rw[vg _ _ hi];exact h.tmp i
theorem xK{tm:Array Value}: ∀{ms:List AM} {x:HP ms} {vs:List Value} {i:Nat} {σ:St} {ν:Nat→Value} {used:List Nat},Core c σ tm w M ν→gl w M ms x vs→(∀j v,vs[j]? =some v→tm.getD (i+j) undef=v)→
  (∀j,16*i≤j→σ.H j=none)→(∀j e b,σ.H j=some e→e.mut→eD (ν j)=some b→b∈used)→(used++cR ms vs).Nodup→(∀b∈cR ms vs,c.may b)→(∀b,c.may b→ ¬c.M0 b)→
  ∃ν',Core c (entry ms x i σ) tm w M ν'
 |[],x,vs,i,σ,ν,used,h,_,_,_,_,_,_,_=>⟨ν,h⟩
 |m::ms,x,vs,i,σ,ν,used,h,hA,JX,iD,CV,vf,Kw,Gj=>by
  rw[Kv]
  simp only[gl]at hA
  obtain⟨v,FY,rfl,h1,h2⟩:=hA
  have hv:tm.getD i undef=v:=by simpa using JX 0 v rfl
  have GR: ∀j u,FY[j]? =some u→tm.getD (i+1+j) undef=u:=fun j u hj=>by
   have:=JX (j+1) u (by simpa using hj)
   rwa [show i+(j+1)=i+1+j from by omega]at this
  have aU:σ.H (16*i+15)=none:=iD _ (by omega)
  have abO:cR (m::ms) (v::FY)=cI m v++cR ms FY:=rfl
  rw[abO]at vf Kw
  have rR: ∀b,b∈cI m v→ ∀j e',σ.H j=some e'→e'.mut→eD (ν j)≠some b:=fun b hb j e' hj gQ dJ=>
   nn vf (CV j e' b hj gQ dJ) (List.mem_append_left _ hb)
  have tB: ∀{σ':St} {ν':Nat→Value},Core c σ' tm w M ν'→(∀j,16*(i+1)≤j→σ'.H j=none)→(∀j e b,σ'.H j=some e→e.mut→eD (ν' j)=some b→b∈used++cI m v)→ ∃ν'',Core c (entry ms (wv x) (i+1) σ') tm w M ν'':=
   fun h' yC T1=>xK h' h2 GR yC T1 (by rw[List.append_assoc];exact vf) (fun b hb=>Kw b (List.mem_append_right _ hb)) Gj
  have NN: ∀(e:aR) (v':Value),v'=v→(∀b,eD v=some b→b∈cI m v)→(∀j,16*(i+1)≤j→bu σ.H (16*i+15) (some e) j=none)∧
    (∀j e1 b,bu σ.H (16*i+15) (some e) j=some e1→e1.mut→eD (cB ν (16*i+15) v' j)=some b→b∈used++cI m v):=by
   rintro e v' rfl hb
   refine⟨fun j hj=>by rw[an _ _ (by omega)];exact iD j (by omega),fun j e1 b hj gQ dJ=> ?_⟩
   by_cases tZ:j=16*i+15
   ·subst tZ
    simp only[cB,if_true]at dJ
    exact List.mem_append_right _ (hb b dJ)
   ·rw[an _ _ tZ]at hj
    simp only[cB,tZ,if_false]at dJ
    exact List.mem_append_left _ (CV j e1 b hj gQ dJ)
  cases m with
  |v τ=>
   refine tB (σ':=σ.put i (.val τ (rz x))) (h.put ?_) (fun j hj=>iD j (by omega)) (fun j e b hj gQ dJ=>List.mem_append_left _ (CV j e b hj gQ dJ))
   simp only[VR,hv];exact h1
  |fn f τ=>
   refine tB (σ':=σ.put i (.F8 f (mM τ (rz x)))) (h.put ?_) (fun j hj=>iD j (by omega)) (fun j e b hj gQ dJ=>List.mem_append_left _ (CV j e b hj gQ dJ))
   rw[hv]
   simp only[A1,VR]at h1 ⊢
   obtain⟨us,hu,JR⟩:=h1
   exact⟨us,hu,fT.free JR⟩
  |own e=>
   have tA: ∀b,eD v=some b→b∈cI (.own e) v:=fun b hb=>by simp[cI,hb]
   have hc:=h.xE aU (v:=v) (e:= .own e (rz x)) h1 (fun b hb=>rR b (tA b hb)) (fun b hb=> .inr (Kw b (List.mem_append_left _ (tA b hb)))) (fun b _ _ _ hb=>Gj b (Kw b (List.mem_append_left _ (tA b hb))))
   obtain⟨yC,T1⟩:=NN (.own e (rz x)) v rfl tA
   refine tB (σ':=(σ.put i (.ref (16*i+15))).il (16*i+15) (some (.own e (rz x)))) (ν':=cB ν (16*i+15) v) (hc.put (d:=i) (x:= .ref (16*i+15)) ?_) yC T1
   simp only[VR,hv]
   exact⟨by rw[ak];simp,by simp[cB]⟩
  |io τ=>
   have tA: ∀b,eD v=some b→b∈cI (.io τ) v:=fun b hb=>by simp[cI,hb]
   have hc:=h.xE aU (v:=v) (e:= .obj τ (rz x)) h1 (fun b hb=>rR b (tA b hb)) (fun b hb=> .inr (Kw b (List.mem_append_left _ (tA b hb)))) (fun b _ _ he=>by cases he)
   obtain⟨yC,T1⟩:=NN (.obj τ (rz x)) v rfl tA
   refine tB (σ':=(σ.put i (.fR (16*i+15) [])).il (16*i+15) (some (.obj τ (rz x)))) (ν':=cB ν (16*i+15) v) (hc.put (d:=i) (x:= .fR (16*i+15) []) ?_) yC T1
   simp only[A1,ER]at h1
   obtain⟨b,cs,t,PZ,_⟩:=h1
   simp only[VR,hv]
   exact⟨_,ak _ _ _,trivial,b,by simp[cB,PZ],PZ⟩
  |fR τ=>
   refine tB (σ':=σ.put i (.nw τ (rz x))) (h.put ?_) (fun j hj=>iD j (by omega)) (fun j e b hj gQ dJ=>List.mem_append_left _ (CV j e b hj gQ dJ))
   rw[hv]
   simp only[A1,VR]at h1 ⊢
   exact h1
  |ptr τ=>
   refine tB (σ':=σ) h (fun j hj=>iD j (by omega)) (fun j e b hj gQ dJ=>List.mem_append_left _ (CV j e b hj gQ dJ))
def rS(tm:Array Value):ResultVar→Sem Value
 | .tmp t=>pure (tm.getD t undef)
 | .cell x t=>do loadVar t (←asAddr (tm.getD x undef))
def yN(P:Program)(tm:Array Value)(w:World)(rv:ResultVar)(u:Value):Prop:=(rS tm rv).run P w= .ok u w
def F0(P:Program)(tm:Array Value)(w:World):List (ResultVar ⊕ Nat)→List Value→List Value→Prop
 |[],us,ps=>us=[]∧ps=[]
 | .inl rv::rs,us,ps=> ∃u Ev,us=u::Ev∧yN P tm w rv u∧F0 P tm w rs Ev ps
 | .inr i::rs,us,ps=> ∃p Cc,ps=p::Cc∧p=tm.getD i undef∧F0 P tm w rs us Cc
theorem Core.T2{tm:Array Value}{H1:Nat→Option aR}{M1:Nat→Prop}(h: ∀i,VR w M σ.H ν (σ.T i) (tm.getD i undef))(k:du w M w M1)(g:pd σ.H ν H1 ν): ∀i,VR w M1 H1 ν (σ.T i) (tm.getD i undef):=
 fun i=>VR.bP k g (h i)
theorem xL(hE:EnvTy P E){tm:Array Value}{H0 Hq:Nat→Option aR}{M1:Nat→Prop}{uo uf:fK}{io:List (Nat×Ty)}{hs:List Nat}(h:iC c w M ν H0 σ.H Hq M1 uo uf io hs)(ht: ∀i,VR w M1 σ.H ν (σ.T i) (tm.getD i undef))
  {m:AM} {rs:ResultVar ⊕ Nat} {k:m.den→St→Option α} (hk:CJ E m rs σ k=some r):
  ∃y σ' FU FV BS Pq M2 u,k y σ'=some r∧σ'.T=σ.T∧iC c w M ν H0 σ'.H Pq M2 FU FV BS (hs++cI m u)∧du w M1 w M2∧pd σ.H ν σ'.H ν∧A1 w M2 m y u∧
   ((m.fU=false∧m.TJ=false∧ ∃rv,rs= .inl rv∧yN P tm w rv u)∨(m.fU=true∧ ∃i,rs= .inr i∧u=tm.getD i undef)):=by
 unfold CJ at hk
 split at hk
 ·
  rename_i τ t k
  obtain⟨y,rd,ups,hk,hy⟩:=zl h.mem (ht t) hk
  have Kx:yN P tm w (.tmp t) (tm.getD t undef):=by simp[yN,rS]
  rcases hy with⟨rfl,hV⟩|⟨id,e,l,rfl,aU,hV⟩
  ·exact⟨y,σ,uo,uf,io,Hq,M1,_,hk,rfl,by simpa [cI]using h,.refl w M1,.refl _ ν,hV,.inl ⟨rfl,rfl,_,rfl,Kx⟩⟩
  ·obtain⟨M2,hA,hK,Ek⟩:=h.freeze aU
   exact⟨y,_,uo,_,io,Hq,M2,_,hk,rfl,(by simp only[cI,List.append_nil];exact hA),hK,.upd aU ⟨rfl,rfl⟩,hV M2 Ek,.inl ⟨rfl,rfl,_,rfl,Kx⟩⟩
 ·
  rename_i τ x t k
  split at hk
  ·rename_i τ' B7
   obtain⟨e1,hk1⟩:=dU hk
   clear hk
   subst e1
   obtain⟨υ,z,rd,hk,b,off,cs,hv,ll,ic⟩:=xy h.mem (ht x) hk1
   obtain⟨e2,S7⟩:=ba hk
   subst e2
   refine⟨_,σ,uo,uf,io,Hq,M1,bT _ cs,S7,rfl,by simpa [cI]using h,.refl w M1,.refl _ ν,V.bT ic,.inl ⟨rfl,rfl,_,rfl,?_⟩⟩
   simp only[yN,rS,hv]
   simp[asAddr,xx (hE.ty t _ B7) ll ic]
  ·cases hk
 ·
  rename_i e t k
  have hv:=ht t
  have Kx:yN P tm w (.tmp t) (tm.getD t undef):=by simp[yN,rS]
  split at hk
  ·rename_i hT
   rw[hT]at hv
   obtain⟨ad,hv⟩:=VR.emp.1 hv
   have hb:eD (.slice ad 0 0)=none:=by cases ad<;>simp[eD]
   exact⟨[],σ,uo,uf,io,Hq,M1,_,hk,rfl,by rw[hv];simpa [cI,hb]using h,.refl w M1,.refl _ ν,by rw[hv];simp only[A1,ER];exact .inl ⟨trivial,ad,rfl⟩,.inl ⟨rfl,rfl,_,rfl,Kx⟩⟩
  ·rename_i id hT
   rw[hT]at hv
   simp only[VR]at hv
   split at hk
   ·rename_i e' l aU
    obtain⟨e1,hk⟩:=ba hk
    cases e1
    refine⟨_,_,_,uf,io,_,M1,ν id,hk,rfl,(by simp only[cI];exact h.hand aU),.refl w M1,.upd aU (aR.kT _),h.mem.jk id _ aU,.inl ⟨rfl,rfl,_,rfl,by rw[←hv.2];exact Kx⟩⟩
   ·cases hk
  ·cases hk
 ·
  rename_i τ i k
  have hv:=ht i
  split at hk
  ·rename_i id hT
   rw[hT]at hv
   split at hk
   ·rename_i υ z aU
    obtain⟨e1,hk⟩:=ba hk
    subst e1
    simp only[VR]at hv
    obtain⟨e,he,kC⟩:=hv
    rw[aU]at he;cases he
    simp only[AR]at kC
    obtain⟨_,b,hb,hv⟩:=kC
    have PZ:tm.getD i undef=ν id:=by rw[hv,hb];rfl
    refine⟨_,_,uo,uf,_,_,M1,ν id,hk,rfl,(by simp only[cI];exact h.abx aU),.refl w M1,.upd aU (aR.kT _),h.mem.jk id _ aU,.inr ⟨rfl,i,rfl,PZ.symm⟩⟩
   ·cases hk
  ·cases hk
 ·
  rename_i τ t k
  have hv:=ht t
  have Kx:yN P tm w (.tmp t) (tm.getD t undef):=by simp[yN,rS]
  split at hk
  ·rename_i id hT
   rw[hT]at hv
   split at hk
   ·rename_i υ z aU
    obtain⟨e1,hk⟩:=ba hk
    subst e1
    simp only[VR]at hv
    obtain⟨e,he,kC⟩:=hv
    rw[aU]at he;cases he
    simp only[AR]at kC
    obtain⟨_,b,hb,hv⟩:=kC
    have PZ:tm.getD t undef=ν id:=by rw[hv,hb];rfl
    refine⟨_,_,uo,uf,_,_,M1,ν id,hk,rfl,(by simp only[cI];exact h.abx aU),.refl w M1,.upd aU (aR.kT _),h.mem.jk id _ aU,.inl ⟨rfl,rfl,_,rfl,by rw[←PZ];exact Kx⟩⟩
   ·cases hk
  ·cases hk
 ·cases hk
theorem Am(hE:EnvTy P E){tm:Array Value}{H0:Nat→Option aR}: ∀{ms:List AM} {rs:List (ResultVar ⊕ Nat)} {σ:St} {Hq:Nat→Option aR} {M1:Nat→Prop} {uo uf:fK} {io:List (Nat×Ty)} {hs:List Nat} {K:HP ms→Option α},
  iC c w M ν H0 σ.H Hq M1 uo uf io hs→(∀i,VR w M1 σ.H ν (σ.T i) (tm.getD i undef))→Ed E ms rs σ K=some r→
  ∃y us ps H2 FU FV BS Pq M2,K y=some r∧iC c w M ν H0 H2 Pq M2 FU FV BS (hs++bf ms us ps)∧du w M1 w M2∧RR w M2 ms y us ps∧F0 P tm w rs us ps
 |[],[],σ,Hq,M1,uo,uf,io,hs,K,h,ht,hk=>⟨(),[],[],σ.H,uo,uf,io,Hq,M1,hk,by simpa [bf]using h,.refl w M1,⟨rfl,rfl⟩,⟨rfl,rfl⟩⟩
 |[m],[q],σ,Hq,M1,uo,uf,io,hs,K,h,ht,hk0=>by
  obtain⟨y,σ',FU,FV,BS,Pq,M2,u,hk,hT,hA,hK,hG,hy,hu⟩:=xL hE h ht (hk0:CJ E m q σ _=some r)
  clear hk0
  rcases hu with⟨h1,h2,rv,rfl,hv⟩|⟨h1,i,rfl,hv⟩
  ·refine⟨y,[u],[],_,_,_,_,_,M2,hk,by simpa [bf,h1]using hA,hK,?_,?_⟩
   ·simp only[RR];exact .inr ⟨u,[],h1,h2,rfl,hy,by simp⟩
   ·simp only[F0];exact⟨u,[],rfl,hv,by simp⟩
  ·refine⟨y,[],[u],_,_,_,_,_,M2,hk,by simpa [bf,h1]using hA,hK,?_,?_⟩
   ·simp only[RR];exact .inl ⟨u,[],h1,rfl,hy,by simp⟩
   ·simp only[F0];exact⟨u,[],rfl,hv,by simp⟩
 |m::n::ms,q::rs,σ,Hq,M1,uo,uf,io,hs,K,h,ht,hk0=>by
  obtain⟨y,σ',FU,FV,BS,Pq,M2,u,hk1,hT,hA,hK,hG,hy,hu⟩:=xL hE h ht (hk0:CJ E m q σ _=some r)
  obtain⟨ys,us,ps,H3,uo3,uf3,io3,Hq3,M3,hk,hA3,hK3,hys,hrs⟩:=Am (ms:=n::ms) hE hA (fun i=>by rw[hT];exact Core.T2 ht hK hG i) hk1
  have CS:A1 w M3 m y u:=A1.rQ hK3 (fun b hb=>⟨rfl,hA3.hM b (List.mem_append_left _ (List.mem_append_right _ hb))⟩) hy
  clear hk0
  rcases hu with⟨h1,h2,rv,rfl,hv⟩|⟨h1,i,rfl,hv⟩
  ·refine⟨(y,ys),u::us,ps,H3,uo3,uf3,io3,Hq3,M3,hk,?_,hK.trans hK3,?_,?_⟩
   ·have:bf (m::n::ms) (u::us) ps=cI m u++bf (n::ms) us ps:=by rw[bf];simp[h1]
    rw[this,←List.append_assoc];exact hA3
   ·rw[RR];exact .inr ⟨u,us,h1,h2,rfl,CS,hys⟩
   ·simp only[F0];exact⟨u,us,rfl,hv,hrs⟩
  ·refine⟨(y,ys),us,u::ps,H3,uo3,uf3,io3,Hq3,M3,hk,?_,hK.trans hK3,?_,?_⟩
   ·have:bf (m::n::ms) us (u::ps)=cI m u++bf (n::ms) us ps:=by rw[bf];simp[h1]
    rw[this,←List.append_assoc];exact hA3
   ·rw[RR];exact .inl ⟨u,ps,h1,rfl,CS,hys⟩
   ·simp only[F0];exact⟨u,ps,rfl,hv,hrs⟩
 |[],_::_,_,_,_,_,_,_,_,_,_,_,hk=>by simp[Ed]at hk
 |[_],[],_,_,_,_,_,_,_,_,_,_,hk=>by simp[Ed]at hk
 |[_],_::_::_,_,_,_,_,_,_,_,_,_,_,hk=>by simp[Ed]at hk
 |_::_::_,[],_,_,_,_,_,_,_,_,_,_,hk=>by simp[Ed]at hk
end VM
end
section
namespace VM
open Go
variable{P:Program}{E:Env}{o:Oper}{a:Act}{w:World}{M:Nat→Prop}{ν:Nat→Value}{σ:St}{c:Ctx}{α:Type}{r:α}{next:Act→World→Prop}{Q:Exit→Act→World→Prop}
theorem CW{tm:Array Value}: ∀{rv:List ResultVar} {is:List (ResultVar ⊕ Nat)} {us ps:List Value},F0 P tm w (rv.map .inl++is) us ps→
  ∃Tb us2,us=Tb++us2∧Tb.length=rv.length∧(∀i (h:i<rv.length) (h':i<Tb.length),yN P tm w rv[i] Tb[i])∧F0 P tm w is us2 ps
 |[],is,us,ps,h=>⟨[],us,rfl,rfl,fun i h=>by simp at h,h⟩
 |rv::rvs,is,us,ps,h=>by
  simp only[List.map_cons,List.cons_append,F0]at h
  obtain⟨u,Ev,rfl,h1,h2⟩:=h
  obtain⟨Tb,us2,rfl,hl,h3,h4⟩:=CW h2
  refine⟨u::Tb,us2,rfl,by simp[hl],fun i hi lG=> ?_,h4⟩
  cases i with
  |zero=>exact h1
  |succ i=>exact h3 i (by simpa using hi) (by simpa using lG)
theorem ua{tm:Array Value}: ∀{ms:List AM} {vs:List Value} {i:Nat} {us ps:List Value},vs.length=ms.length→(∀j v m,vs[j]? =some v→ms[j]? =some m→m.fU=true→tm.getD (i+j) undef=v)→F0 P tm w (wC ms i) us ps→us=[]∧ps=dG ms vs
 |[],vs,i,us,ps,_,_,h=>by simp only[wC,F0]at h;simpa [dG]using h
 |m::ms,[],_,_,_,hl,_,_=>by simp at hl
 |m::ms,v::vs,i,us,ps,hl,JX,h=>by
  have GR: ∀j u m,vs[j]? =some u→ms[j]? =some m→m.fU=true→tm.getD (i+1+j) undef=u:=fun j u m hj hm sM=>by
   have:=JX (j+1) u m (by simpa using hj) (by simpa using hm) sM
   rwa [show i+(j+1)=i+1+j from by omega]at this
  have FW:vs.length=ms.length:=by simpa using hl
  cases m with
  |io τ=>
   simp only[wC,F0]at h
   obtain⟨p,Cc,rfl,hp,h⟩:=h
   obtain⟨h1,h2⟩:=ua FW GR h
   refine⟨h1,?_⟩
   have:=JX 0 v (.io τ) rfl rfl rfl
   simp only[Nat.add_zero]at this
   simp[dG,AM.fU,h2,hp,this]
  |v τ=>
   obtain⟨h1,h2⟩:=ua FW GR (show F0 P tm w (wC ms (i+1)) us ps from h)
   exact⟨h1,by simp[dG,AM.fU,h2]⟩
  |own τ=>
   obtain⟨h1,h2⟩:=ua FW GR (show F0 P tm w (wC ms (i+1)) us ps from h)
   exact⟨h1,by simp[dG,AM.fU,h2]⟩
  |fn f τ=>
   obtain⟨h1,h2⟩:=ua FW GR (show F0 P tm w (wC ms (i+1)) us ps from h)
   exact⟨h1,by simp[dG,AM.fU,h2]⟩
  |fR τ=>
   obtain⟨h1,h2⟩:=ua FW GR (show F0 P tm w (wC ms (i+1)) us ps from h)
   exact⟨h1,by simp[dG,AM.fU,h2]⟩
  |ptr τ=>
   obtain⟨h1,h2⟩:=ua FW GR (show F0 P tm w (wC ms (i+1)) us ps from h)
   exact⟨h1,by simp[dG,AM.fU,h2]⟩
theorem GU{fn:Func}{tm:Array Value}{us:List Value}(hl:us.length=fn.results.toList.length)(h: ∀i (h:i<fn.results.toList.length) (h':i<us.length),yN P tm w fn.results.toList[i] us[i]):
  (results fn tm).run P w= .ok (rP us) w:=by
 have key: ∀(rs:List ResultVar) (us:List Value),us.length=rs.length→(∀i (h:i<rs.length) (h':i<us.length),yN P tm w rs[i] us[i])→(rs.mapM (rS tm)).run P w= .ok us w:=by
  intro rs
  induction rs with
  |nil=>intro us hl _;cases us with
   |nil=>simp
   |cons _ _=>simp at hl
  |cons r rs ih=>intro us hl h;cases us with
   |nil=>simp at hl
   |cons u us=>
    have h0:(rS tm r).run P w= .ok u w:=h 0 (by simp) (by simp)
    have h1:=ih us (by simpa using hl) (fun i hi lG=>h (i+1) (by simpa using hi) (by simpa using lG))
    simp[List.mapM_cons,h0,h1]
 have h2:=key fn.results.toList us hl h
 have h3:results fn tm=(do let vs ←fn.results.mapM (rS tm);pure (if h:vs.size=1 then vs[0]else .tuple vs)):=by
  unfold results
  congr 1
 rw[h3,Array.mapM_eq_mapM_toList]
 simp only[Sem.run_bind,Sem.run_map,h2]
 unfold rP
 by_cases h3:us.length=1
 ·simp[h3]
 ·simp[h3]
theorem CX(hE:oN P E){f:FuncId}{fn:Func}(hf:P.funcs[f]? =some fn)(hnt:E.nt=fn.ntmps){args res:List AM}(sM: ∀i m,args[i]? =some m→m.fU=true→i∈E.io)(ahi: ∀i∈E.io,i<args.length)(hlen:args.length≤fn.ntmps)
  {M0:Nat→Prop} {vs:List Value} {x:HP args} {y:HP res} (mV: ∀b,M0 b→b<w.heap.size) (hA:gl w (fun b=>M0 b∨b∈cR args vs) args x vs) (vf:(cR args vs).Nodup) (rT: ∀b∈cR args vs,¬M0 b)
  (h:Gh E fn args res x=some y):
  Calls P f vs.toArray w fun e w'=> ∃v,e= .returned v∧ ∃us M',v=rP us∧RR w' M' res y us (dG args vs)∧Left w M0 (cR args vs) w' M'∧(bf res us (dG args vs)).Nodup∧ ∀b∈bf res us (dG args vs),¬M0 b:=by
 unfold Gh at h
 split at h
 ·cases h
 rename_i cd hb
 simp only at h
 have hvl: ∀{ms:List AM} {x:HP ms} {vs:List Value} {M:Nat→Prop},gl w M ms x vs→vs.length=ms.length:=by
  intro ms
  induction ms with
  |nil=>intro x vs M h;simp only[gl]at h;subst h;rfl
  |cons m ms ih=>intro x vs M h;simp only[gl]at h;obtain⟨v,FY,rfl,_,h⟩:=h;simp[ih h]
 have TC:=hvl hA
 let tm:Array Value:=vs.toArray++Array.replicate (fn.ntmps-vs.toArray.size) undef
 have JX: ∀j v,vs[j]? =some v→tm.getD j undef=v:=by
  intro j v hj
  have dD:j<vs.length:=(List.getElem?_eq_some_iff.1 hj).1
  rw[Array.getD_eq_getD_getElem?,Array.getElem?_append_left (by simpa using dD),List.getElem?_toArray,hj];rfl
 have pY:tm.size=fn.ntmps:=by simp[tm];omega
 have hhb: ∀{ms:List AM} {x:HP ms} {vs:List Value} {M:Nat→Prop},gl w M ms x vs→ ∀b∈cR ms vs,b<w.heap.size:=by
  intro ms
  induction ms with
  |nil=>intro x vs M h b hb;simp[cR]at hb
  |cons m ms ih=>
   intro x vs M h b hb
   simp only[gl]at h
   obtain⟨v,FY,rfl,h1,h⟩:=h
   simp only[cR,List.mem_append]at hb
   rcases hb with hb|hb
   ·cases m with
    |v _=>simp[cI]at hb
    |fn _ _=>simp[cI]at hb
    |fR _=>simp[cI]at hb
    |own e=>
     simp only[cI,Option.mem_toList,A1,ER]at hb h1
     rcases h1 with⟨_,a,hv⟩|⟨b',cs,t,cap,hv,hg,_⟩
     ·rw[hv]at hb;cases a<;>simp[eD]at hb
     ·rw[hv]at hb
      simp only[eD]at hb
      split at hb
      ·cases hb
      ·simp only[Option.some.injEq]at hb;subst hb;exact lt_of_block hg
    |io τ=>
     simp only[cI,Option.mem_toList,A1,ER]at hb h1
     obtain⟨b',cs,t,hv,hg,_⟩:=h1
     rw[hv]at hb
     simp only[eD,Option.some.injEq]at hb;subst hb;exact lt_of_block hg
    |ptr τ=>
     simp only[cI,Option.mem_toList,A1,ER]at hb h1
     obtain⟨b',cs,t,hv,hg,_⟩:=h1
     rw[hv]at hb
     simp only[eD,Option.some.injEq]at hb;subst hb;exact lt_of_block hg
   ·exact ih h b hb
 let cx:Ctx:={B:=w.heap.size,w0:=w,M0:=M0,may:=fun b=>b∈cR args vs,arg:=fun i=>tm.getD i undef}
 have hm0:Mem cx (fun _=>none) w (fun b=>M0 b∨b∈cR args vs) (fun _=>undef):=
  ⟨fun i e hi=>(by cases hi),fun i j e e' b _ hi=>(by cases hi),fun i e b hi=>(by cases hi),fun i e l b hi=>(by cases hi),fun i τ x p j hi=>(by cases hi),fun b hb=> .inl hb,fun b hb=>hb.elim (mV b) (hhb hA b),fun _ _ _=>rfl,Nat.le_refl _,⟨mV,rT⟩,rfl,rfl,rfl⟩
 have Pp:Core cx ⟨fun _=> .any,fun _=>none⟩ tm w (fun b=>M0 b∨b∈cR args vs) (fun _=>undef):=⟨hm0,fun i=>by simp[VR]⟩
 obtain⟨ν',hc⟩:=xK (i:=0) (used:=[]) Pp hA (fun j v hj=>by rw[Nat.zero_add];exact JX j v hj) (fun _ _=>rfl) (fun j e b hj=>by cases hj) (by simpa using vf) (fun b hb=>hb) (fun b hb=>rT b hb)
 have hI:Inv cx E (entry args x 0 ⟨fun _=> .any,fun _=>none⟩) {tmps:=tm,defers:=[]} w:=⟨⟨_,_,hc⟩,by rw[hnt,pY],rfl,fun i _=>rfl⟩
 refine calls_of_wp hf hb ?_
 have ahj: ∀(σ':St) (a':Act) (w':World),Ed E res (fn.results.toList.map .inl++wC args 0) σ' some=some y→Inv cx E σ' a' w'→
   a'.defers=[]∧ ∃v,(results fn a'.tmps).run P w'= .ok v w'∧ ∃v',Ending.returned v= .returned v'∧ ∃us M',v'=rP us∧RR w' M' res y us (dG args vs)∧Left w M0 (cR args vs) w' M'∧(bf res us (dG args vs)).Nodup∧ ∀b∈bf res us (dG args vs),¬M0 b:=by
  rintro σ' a' w' hk ⟨⟨M1,ν1,Es⟩,Mi,hd1,tf⟩
  obtain⟨y',us,ps,H2,uo,uf,io,Hq,M2,hy,Qk,hK,Ps,hRs⟩:=Am (P:=P) hE.toEnvTy (iC.start Es.mem) Es.tmp hk
  cases hy
  obtain⟨Tb,us2,rfl,hl,hv,anj⟩:=CW hRs
  obtain⟨rfl,JS⟩:=ua (vs:=vs) TC (fun j v m hj hm Ex=>by
   rw[Nat.zero_add]
   rw[tf j (sM j m hm Ex)]
   exact JX j v hj) anj
  rw[List.append_nil]at*
  subst JS
  simp only[List.nil_append]at Qk
  have kI: ∀b∈bf res Tb (dG args vs),b<w.heap.size→b∈cR args vs:=fun b hb dD=>(Qk.Kq b hb).elim (fun h'=>absurd dD (Nat.not_lt.2 h')) (fun h=>h)
  have CS:du w' M2 w' (fun b=>M2 b∧(b<w.heap.size→M0 b∨b∈cR args vs)):=⟨Nat.le_refl _,fun _ _ _=>rfl,fun _ _ h=>h.1⟩
  refine⟨hd1,rP Tb,GU hl hv,_,rfl,Tb,fun b=>M2 b∧(b<w.heap.size→M0 b∨b∈cR args vs),rfl,RR.rQ CS (fun b hb=>⟨rfl,Ps.nH b hb,fun dD=> .inr (kI b hb dD)⟩) Ps,⟨fun b hb=>⟨Qk.mem.sub b hb,fun _=> .inl hb⟩,fun b hb=>Qk.mem.zN b hb.1,fun b dD hb=>hb.2 dD,fun b dD hb=>Qk.mem.frame b dD hb,Qk.mem.size,Qk.mem.os,Qk.mem.tape,Qk.mem.output⟩,Qk.nd,fun b hb h0=> ?_⟩
  rcases Qk.Kq b hb with h'|h'
  ·exact absurd (mV b h0) (Nat.not_lt.2 h')
  ·exact rT b h' h0
 refine NV (c:=cx) hE cd _ _ w _ _ _ _ hI h (fun σ' a' w' hk tC=> ?_) (fun i σ' a' w' hk=>by cases hk) (fun σ' a' w' hk tC=> ?_)
 ·exact ahj σ' a' w' hk tC
 ·exact ahj σ' a' w' hk tC
theorem Ql(hE:oN P E){f:FuncId}{fn:Func}(hf:P.funcs[f]? =some fn)(vi:(fn.name== "runtime.NumGoroutine")=false)(hnt:E.nt=fn.ntmps)(S:iz)
  (sM: ∀i m,S.args[i]? =some m→m.fU=true→i∈E.io) (ahi: ∀i∈E.io,i<S.args.length) (hlen:S.args.length≤fn.ntmps) (hq:S.quiet=true→S.res.all AM.flat=true) (ank:lI S.args=lI S.res)
  (cO: ∀x,Gh E fn S.args S.res x=S.run x):fc P f S:=by
 refine⟨hq,ank,fun M0 w vs x y mV hA vf rT hy=> ?_⟩
 have hb:fn.body.isNone=false:=by
  have:=cO x
  rw[hy]at this
  unfold Gh at this
  split at this
  ·cases this
  ·rename_i cd hcd;rw[hcd];rfl
 exact pe hf vi hb (CX hE hf hnt sM ahi hlen mV hA vf rT (by rw[cO,hy]))
end VM
end
section
namespace VM
open Go
variable{P:Program}
def vj:Ty→List Value→Option (List Value)
 | .int k,v::r=>match v with
  | .int k' n=>if k'=k∧n=0 then some r else none
  |_=>none
 | .bool,v::r=>match v with
  | .bool false=>some r
  |_=>none
 | .str,v::r=>match v with
  | .string s=>if s.data.size=0 then some r else none
  |_=>none
 | .slice _,v::r=>match v with
  | .slice none n m=>if n=0∧m=0 then some r else none
  |_=>none
 | .unit,r=>some r
 | .pair a b,r=>match vj a r with
  |some r=>vj b r
  |none=>none
 | .arr n e,r=>Nat.rec (motive:=fun _=>List Value→Option (List Value)) (fun r=>some r) (fun _ ih r=>match vj e r with
  |some r=>ih r
  |none=>none) n r
 |_,[]=>none
theorem vk: ∀{τ:Ty} {l r:List Value},vj τ l=some r→l=τ.cr++r
 | .int k,[],_,h| .bool,[],_,h| .str,[],_,h| .slice _,[],_,h=>by simp[vj]at h
 | .int k,v::l,r,h=>by
  simp only[vj]at h
  split at h
  ·split at h
   ·rename_i hc;obtain⟨rfl,rfl⟩:=hc;cases h;rfl
   ·cases h
  ·cases h
 | .bool,v::l,r,h=>by
  simp only[vj]at h
  split at h
  ·cases h;rfl
  ·cases h
 | .str,v::l,r,h=>by
  simp only[vj]at h
  split at h
  ·rename_i s
   split at h
   ·rename_i hs
    cases h
    have:s=ByteArray.empty:=by
     obtain⟨d⟩:=s
     have:d= #[]:=Array.eq_empty_of_size_eq_zero hs
     subst this;rfl
    subst this;rfl
   ·cases h
  ·cases h
 | .slice _,v::l,r,h=>by
  simp only[vj]at h
  split at h
  ·split at h
   ·rename_i hc;obtain⟨rfl,rfl⟩:=hc;cases h;rfl
   ·cases h
  ·cases h
 | .unit,l,r,h=>by simp only[vj]at h;cases h;rfl
 | .pair a b,l,r,h=>by
  simp only[vj]at h
  split at h
  ·rename_i r1 h1
   rw[vk h1,vk h];simp[Ty.cr]
  ·cases h
 | .arr n e,l,r,h=>by
  simp only[vj]at h
  simp only[Ty.cr]
  induction n generalizing l with
  |zero=>cases h;rfl
  |succ n ih=>
   simp only at h
   split at h
   ·rename_i r1 h1
    rw[vk h1,ih _ h];simp[List.replicate_succ]
   ·cases h
def vl(P:Program)(τ:Ty)(t:TypeId):Bool:=
 match P.info? t with
 |none=>false
 |some i=>Nat.beq i.size τ.size&&Nat.ble i.bytes 2048&&(match i.zero with
  |none=>false
  |some z=>match τ.isAgg,z with
   |true,.agg cs=>(match vj τ cs.toList with|some []=>true|_=>false)
   |false,z=>(match vj τ [z]with|some []=>true|_=>false)
   |_,_=>false)
theorem nK{τ:Ty}{t:TypeId}(h:vl P τ t=true):Ee P τ t:=by
 unfold vl at h
 split at h
 ·cases h
 ·rename_i i hi
  simp only[Bool.and_eq_true,Nat.ble_eq]at h
  obtain⟨⟨h1,h2⟩,h3⟩:=h
  refine⟨i,hi,Nat.eq_of_beq_eq_true h1,?_,h2⟩
  split at h3
  ·cases h3
  ·rename_i z hz
   rw[hz]
   split at h3
   ·rename_i _ cs ha
    split at h3
    ·rename_i he
     have:=vk he
     unfold bT
     rw[if_pos ha,←List.append_nil τ.cr,←this]
    ·cases h3
   ·rename_i ha
    split at h3
    ·rename_i he
     have:=vk he
     unfold bT
     rw[if_neg (by rw[ha];exact Bool.false_ne_true),←List.append_nil τ.cr,←this];rfl
    ·cases h3
   ·cases h3
def pH(P:Program):Ty→TypeId ⊕ (Array Field×Nat×Nat)→Bool
 | .int k,.inl t=>vl P (.int k) t&&(match P.underlying t with|some (.int k')=>decide (k'=k)|_=>false)
 | .bool,.inl t=>vl P .bool t&&(match P.underlying t with|some .bool=>true|_=>false)
 | .str,.inl t=>vl P .str t&&(match P.underlying t with|some .string=>true|_=>false)
 | .slice e,.inl t=>vl P (.slice e) t&&(match P.underlying t with|some (.slice e')=>pH P e (.inl e')|_=>false)
 | .arr n e,.inl t=>vl P (.arr n e) t&&(match P.underlying t with|some (.array n' e')=>Nat.beq n' n&&pH P e (.inl e')|_=>false)
 | .unit,.inl t=>vl P .unit t&&(match P.underlying t with|some (.struct fs)=>Nat.beq fs.size 0|_=>false)
 | .unit,.inr q=>Nat.beq q.1.size q.2.1
 | .pair a b,.inl t=>vl P (.pair a b) t&&(match P.underlying t with
  |some (.struct fs)=>(match fs[0]? with
   |some f=>Nat.beq f.offset 0&&(pH P a (.inl f.type)&&pH P b (.inr (fs,1,a.size)))
   |none=>false)
  |_=>false)
 | .pair a b,.inr q=>(match q.1[q.2.1]? with
  |some f=>Nat.beq f.offset q.2.2&&(pH P a (.inl f.type)&&pH P b (.inr (q.1,q.2.1+1,q.2.2+a.size)))
  |none=>false)
 |_,.inr _=>false
theorem eE: ∀{τ:Ty} {x:TypeId ⊕ (Array Field×Nat×Nat)},pH P τ x=true→dQ P τ x
 | .int k,.inl t,h=>by
  simp only[pH,Bool.and_eq_true]at h
  refine⟨nK h.1,?_⟩
  have h:=h.2
  split at h
  ·rename_i k' hu;rw[hu,of_decide_eq_true h]
  ·cases h
 | .bool,.inl t,h=>by
  simp only[pH,Bool.and_eq_true]at h
  refine⟨nK h.1,?_⟩
  have h:=h.2
  split at h
  ·rename_i hu;exact hu
  ·cases h
 | .str,.inl t,h=>by
  simp only[pH,Bool.and_eq_true]at h
  refine⟨nK h.1,?_⟩
  have h:=h.2
  split at h
  ·rename_i hu;exact hu
  ·cases h
 | .slice e,.inl t,h=>by
  simp only[pH,Bool.and_eq_true]at h
  refine⟨nK h.1,?_⟩
  have h:=h.2
  split at h
  ·rename_i e' hu;exact⟨e',hu,eE h⟩
  ·cases h
 | .arr n e,.inl t,h=>by
  simp only[pH,Bool.and_eq_true]at h
  refine⟨nK h.1,?_⟩
  have h:=h.2
  split at h
  ·rename_i n' e' hu
   simp only[Bool.and_eq_true]at h
   obtain⟨h0,h⟩:=h
   rw[Nat.eq_of_beq_eq_true h0]at hu
   exact⟨e',hu,eE h⟩
  ·cases h
 | .unit,.inl t,h=>by
  simp only[pH,Bool.and_eq_true]at h
  refine⟨nK h.1,?_⟩
  have h:=h.2
  split at h
  ·rename_i fs hu;exact⟨fs,hu,Nat.eq_of_beq_eq_true h⟩
  ·cases h
 | .unit,.inr (fs,n,o),h=>by simp only[pH]at h;exact Nat.eq_of_beq_eq_true h
 | .pair a b,.inl t,h=>by
  simp only[pH,Bool.and_eq_true]at h
  refine⟨nK h.1,?_⟩
  have h:=h.2
  split at h
  ·rename_i fs hu
   split at h
   ·rename_i f hf
    simp only[Bool.and_eq_true]at h
    exact⟨fs,f,hu,hf,Nat.eq_of_beq_eq_true h.1,eE h.2.1,eE h.2.2⟩
   ·cases h
  ·cases h
 | .pair a b,.inr (fs,n,o),h=>by
  simp only[pH]at h
  split at h
  ·rename_i f hf
   simp only[Bool.and_eq_true]at h
   exact⟨f,hf,Nat.eq_of_beq_eq_true h.1,eE h.2.1,eE h.2.2⟩
  ·cases h
 | .int _,.inr _,h| .bool,.inr _,h| .str,.inr _,h| .slice _,.inr _,h| .arr _ _,.inr _,h=>by simp[pH]at h
def q7(P:Program):Ty→TypeId ⊕ (Array Field×Nat)→Bool
 | .int _,.inl _| .bool,.inl _| .str,.inl _=>true
 | .unit,.inl t=> !P.stoodInHeld t
 | .unit,.inr _=>true
 | .pair a b,.inl t=> !P.stoodInHeld t&&(match P.underlying t with
  |some (.struct fs)=>(match fs[0]? with
   |some f=>f.name != "_" &&(q7 P a (.inl f.type)&&q7 P b (.inr (fs,1)))
   |none=>false)
  |_=>false)
 | .pair a b,.inr q=>(match q.1[q.2]? with
  |some f=>f.name != "_" &&(q7 P a (.inl f.type)&&q7 P b (.inr (q.1,q.2+1)))
  |none=>false)
 |_,_=>false
def Ty.deep:Ty→Nat
 | .pair a b=>a.deep+b.deep+1
 |_=>1
theorem V.ofC{w:World}{M:Nat→Prop}{τ:Ty}{cs:List Value}{x:τ.den}(h:Rd w M τ cs x):V w M τ (VM.bT τ cs) x:=V.bT h
mutual
theorem GV{w:World}{M:Nat→Prop}: ∀{τ:Ty} {t:TypeId} {u v:Value} {x y:τ.den} {d:Nat},gT P τ t→q7 P τ (.inl t)=true→V w M τ u x→V w M τ v y→τ.deep≤d→(Op.equalIn d t u v).run P w= .ok (jO τ x y) w
 | .int k,t,u,v,x,y,d+1,hl,_,hx,hy,_=>by
  simp only[V,Ty.isAgg,Bool.false_eq_true,if_false,Rd,List.cons.injEq,and_true]at hx hy
  subst hx;subst hy
  rw[run_equalIn_int w d t k k _ _ hl.int];simp only[jO,gb];congr 1
 | .bool,t,u,v,x,y,d+1,hl,_,hx,hy,_=>by
  simp only[V,Ty.isAgg,Bool.false_eq_true,if_false,Rd,List.cons.injEq,and_true]at hx hy
  subst hx;subst hy
  rw[run_equalIn_bool w d t _ _ hl.bool];simp only[jO]
 | .str,t,u,v,x,y,d+1,hl,_,hx,hy,_=>by
  simp only[V,Ty.isAgg,Bool.false_eq_true,if_false,Rd,List.cons.injEq,and_true]at hx hy
  subst hx;subst hy
  rw[run_equalIn_string w d t _ _ hl.str];simp only[jO,zL];congr 1;rw[Bool.eq_iff_iff];simp
 | .slice _,_,_,_,_,_,_,_,h,_,_,_| .arr _ _,_,_,_,_,_,_,_,h,_,_,_=>by simp[q7]at h
 | .unit,t,u,v,x,y,d+1,hl,he,hx,hy,_=>by
  simp only[V,Ty.isAgg,if_true]at hx hy
  obtain⟨cs,rfl,_⟩:=hx
  obtain⟨cs',rfl,_⟩:=hy
  simp only[gT,dQ]at hl
  obtain⟨_,fs,hu,h0⟩:=hl
  have hfs:P.fieldsOf t=fs:=by simp[Program.fieldsOf,hu]
  rw[run_equalIn_struct w d t cs cs' (by rw[hfs];exact hu) (by simpa [q7]using he),hfs]
  have:fs.toList=[]:=by rw[←List.length_eq_zero_iff,Array.length_toList];exact h0
  rw[this];simp[Op.eqFields,jO]
 | .pair a b,t,u,v,x,y,d+1,hl,he,hx,hy,hd=>by
  simp only[V,Ty.isAgg,if_true]at hx hy
  obtain⟨cs,rfl,hx⟩:=hx
  obtain⟨cs',rfl,hy⟩:=hy
  simp only[gT,dQ]at hl
  obtain⟨_,fs,f,hu,hf,ho,ub,JY⟩:=hl
  have hfs:P.fieldsOf t=fs:=by simp[Program.fieldsOf,hu]
  simp only[q7,hu,hf,Bool.and_eq_true]at he
  rw[run_equalIn_struct w d t cs cs' (by rw[hfs];exact hu) (by simpa using he.1),hfs]
  have h0:fs.toList=f::fs.toList.drop 1:=by
   have h1:=List.drop_eq_getElem_cons (l:=fs.toList) (i:=0) (by rw[Array.length_toList];exact(Array.getElem?_eq_some_iff.1 hf).1)
   rw[List.drop_zero]at h1
   rw[h1];congr 1
   rw[Array.getElem_toList];exact(Array.getElem?_eq_some_iff.1 hf).2
  simp only[Ty.deep]at hd
  rw[h0]
  have ry:Rd w M (.pair a b) (cs.toList.drop 0) x:=by rw[List.drop_zero];exact hx
  have Qm:Rd w M (.pair a b) (cs'.toList.drop 0) y:=by rw[List.drop_zero];exact hy
  have gk:f.name≠ "_" :=by simpa using he.2.1
  simp only[Op.eqFields,gk,ne_eq,not_false_eq_true,if_true]
  exact Qn (off:=0) ho ub he.2.2.1 ry Qm (by omega) (fun h1 h2=>Qo (n:=1) (fs:=fs) (off:=a.size) JY he.2.2.2 (by rw[Nat.zero_add]at h1;exact h1) (by rw[Nat.zero_add]at h2;exact h2) (by omega))
 | .int _,_,_,_,_,_,0,_,_,_,_,hd| .bool,_,_,_,_,_,0,_,_,_,_,hd| .str,_,_,_,_,_,0,_,_,_,_,hd| .unit,_,_,_,_,_,0,_,_,_,_,hd| .pair _ _,_,_,_,_,_,0,_,_,_,_,hd=>by simp[Ty.deep]at hd
theorem Qo{w:World}{M:Nat→Prop}: ∀{b:Ty} {fs:Array Field} {n off:Nat} {cs cs':Array Value} {x y:b.den} {d:Nat},dQ P b (.inr (fs,n,off))→q7 P b (.inr (fs,n))=true→Rd w M b (cs.toList.drop off) x→Rd w M b (cs'.toList.drop off) y→b.deep≤d→
  (Op.eqFields d cs cs' (fs.toList.drop n)).run P w= .ok (jO b x y) w
 | .unit,fs,n,off,cs,cs',x,y,d,hl,_,_,_,_=>by
  simp only[dQ]at hl
  rw[List.drop_of_length_le (by rw[Array.length_toList];omega)]
  simp[Op.eqFields,jO]
 | .pair a b,fs,n,off,cs,cs',x,y,d,hl,he,hx,hy,hd=>by
  simp only[dQ]at hl
  obtain⟨f,hf,ho,ub,JY⟩:=hl
  simp only[q7,hf,Bool.and_eq_true]at he
  have h0:fs.toList.drop n=f::fs.toList.drop (n+1):=by
   rw[List.drop_eq_getElem_cons (l:=fs.toList) (i:=n) (by rw[Array.length_toList];exact(Array.getElem?_eq_some_iff.1 hf).1)]
   congr 1
   rw[Array.getElem_toList];exact(Array.getElem?_eq_some_iff.1 hf).2
  simp only[Ty.deep]at hd
  rw[h0]
  have gk:f.name≠ "_" :=by simpa using he.1
  simp only[Op.eqFields,gk,ne_eq,not_false_eq_true,if_true]
  exact Qn ho ub he.2.1 hx hy (by omega) (fun h1 h2=>Qo JY he.2.2 h1 h2 (by omega))
 | .int _,_,_,_,_,_,_,_,_,hl,_,_,_,_| .bool,_,_,_,_,_,_,_,_,hl,_,_,_,_| .str,_,_,_,_,_,_,_,_,hl,_,_,_,_| .slice _,_,_,_,_,_,_,_,_,hl,_,_,_,_| .arr _ _,_,_,_,_,_,_,_,_,hl,_,_,_,_=>by simp[dQ]at hl
theorem Qn{w:World}{M:Nat→Prop}{a b:Ty}{f:Field}{fs:List Field}{off:Nat}{cs cs':Array Value}{x y:(Ty.pair a b).den}{d:Nat}(ho:f.offset=off)(ub:gT P a f.type)(he:q7 P a (.inl f.type)=true)
  (hx:Rd w M (.pair a b) (cs.toList.drop off) x) (hy:Rd w M (.pair a b) (cs'.toList.drop off) y) (hd:a.deep≤d)
  (hr:Rd w M b (cs.toList.drop (off+a.size)) x.2→Rd w M b (cs'.toList.drop (off+a.size)) y.2→(Op.eqFields d cs cs' fs).run P w= .ok (jO b x.2 y.2) w):
  (do let u ←part f.type cs f.offset;let v ←part f.type cs' f.offset;let r ←Op.equalIn d f.type u v;if(!r)=true then pure false else Op.eqFields d cs cs' fs:Sem Bool).run P w= .ok (jO (.pair a b) x y) w:=by
 simp only[Rd]at hx hy
 obtain⟨c1,c2,hc,h1,h2⟩:=hx
 obtain⟨c1',c2',NW,mU,tE⟩:=hy
 subst ho
 have p1:(cs.toList.drop f.offset).take a.size=c1:=by rw[hc,List.take_left' h1.length]
 have p2:(cs'.toList.drop f.offset).take a.size=c1':=by rw[NW,List.take_left' mU.length]
 have q1:cs.toList.drop (f.offset+a.size)=c2:=by rw[←List.drop_drop,hc,List.drop_left' h1.length]
 have q2:cs'.toList.drop (f.offset+a.size)=c2':=by rw[←List.drop_drop,NW,List.drop_left' mU.length]
 have r1:=uZ ub (w:=w) (M:=M) (cs:=cs) (off:=f.offset) (x:=x.1) (by rw[p1];exact h1)
 have r2:=uZ ub (w:=w) (M:=M) (cs:=cs') (off:=f.offset) (x:=y.1) (by rw[p2];exact mU)
 have r3:=GV (d:=d) ub he (V.ofC (by rw[p1];exact h1):V w M a (VM.bT a ((cs.toList.drop f.offset).take a.size)) x.1) (V.ofC (by rw[p2];exact mU):V w M a (VM.bT a ((cs'.toList.drop f.offset).take a.size)) y.1) hd
 simp only[Sem.run_bind,r1,r2,r3,Result.andThen_ok,jO]
 cases jO a x.1 y.1
 ·simp
 ·simpa using hr (by rw[q1];exact h2) (by rw[q2];exact tE)
end
def T3(P:Program)(τ:Ty)(t:TypeId):Bool:= !(τ.comparable&&τ.isAgg)||(q7 P τ (.inl t)&&(Nat.ble τ.deep 10000&& !P.eqGuardType P.depth t))
theorem T4{τ:Ty}{t:TypeId}(hl:gT P τ t)(h:T3 P τ t=true)(hc:τ.comparable=true)(ha:τ.isAgg=true):agz P t τ:=by
 unfold T3 at h
 rw[hc,ha]at h
 simp only[Bool.and_self,Bool.not_true,Bool.false_or,Bool.and_eq_true,Nat.ble_eq,Bool.not_eq_true']at h
 obtain⟨h1,h2,h3⟩:=h
 intro w M u v x y b xo yo hx hy
 have he:=GV (d:=10000) hl h1 hx hy h2
 unfold V at hx hy
 rw[if_pos ha]at hx hy
 obtain⟨cs,rfl,_⟩:=hx
 obtain⟨cs',rfl,_⟩:=hy
 refine⟨?_,?_,?_⟩
 ·cases b<;>simp[eqGuard,h3]
 ·simp only[binOp];simp[Op.equal,Op.maxDepth,he]
 ·simp only[binOp];simp[Op.equal,Op.maxDepth,he]
def ahl(P:Program)(l:List (Nat×Ty)):Bool:=l.all fun q=>pH P q.2 (.inl q.1)&&T3 P q.2 q.1
end VM
end
section
namespace VM
open Go Go.WideShapes Go.RowKit Go.ChangeShapes
def WF:(τ:Ty)→τ.den→Prop
 | .int k,x=>(Lit.int k x).wf=true
 | .bool,_=>True
 | .str,s=>ByteArray.size s≤maxLen
 | .slice e,l=>List.length l≤maxLen∧ ∀i (h:i<List.length l),WF e (List.get l ⟨i,h⟩)
 | .unit,_=>True
 | .pair a b,x=>WF a x.1∧WF b x.2
 | .arr _ e,l=> ∀i (h:i<List.length l),WF e (List.get l ⟨i,h⟩)
def Ty.mO:Ty→Bool
 | .slice e=>Nat.blt 0 e.size&&e.mO
 | .pair a b=>a.mO&&b.mO
 | .arr _ e=>e.mO
 |_=>true
theorem Qp{α β:Type}{f:α→Option β}: ∀{l:List α} {r:List β},l.mapM f=some r→ ∀x∈l,∃y,f x=some y
 |[],_,_,x,hx=>by cases hx
 |a::l,r,h,x,hx=>by
  rw[List.mapM_cons]at h
  simp only[bind,Option.bind_eq_some_iff,pure,Option.some.injEq]at h
  obtain⟨y,hy,r',hr,_⟩:=h
  rcases List.mem_cons.1 hx with rfl|hx
  ·exact⟨y,hy⟩
  ·exact Qp hr x hx
theorem GW{α β:Type}{f:α→Option β}: ∀{l:List α} {r:List β},l.mapM f=some r→r.length=l.length∧ ∀i (h:i<l.length) (h':i<r.length),f l[i]=some r[i]
 |[],r,h=>by simp at h;subst h;exact⟨rfl,fun i h=>by cases h⟩
 |a::l,r,h=>by
  rw[List.mapM_cons]at h
  simp only[bind,Option.bind_eq_some_iff,pure,Option.some.injEq]at h
  obtain⟨y,hy,r',hr,rfl⟩:=h
  obtain⟨h1,h2⟩:=GW hr
  refine⟨by simp[h1],fun i hi lG=> ?_⟩
  cases i with
  |zero=>exact hy
  |succ i=>exact h2 i (by simpa using hi) (by simpa using lG)
theorem rU{α:Type}{p:Nat→α→Prop}: ∀n,(∀i,i<n→ ∃x,p i x)→ ∃l:List α,l.length=n∧ ∀i (h:i<l.length),p i (l.get ⟨i,h⟩)
 |0,_=>⟨[],rfl,fun i h=>by cases h⟩
 |n+1,h=>by
  obtain⟨l,hl,hp⟩:=rU n (fun i hi=>h i (by omega))
  obtain⟨x,hx⟩:=h n (by omega)
  refine⟨l++[x],by simp[hl],fun i hi=> ?_⟩
  simp only[List.get_eq_getElem]
  by_cases dD:i<l.length
  ·rw[List.getElem_append_left dD];exact hp i dD
  ·have gC:i=n:=by simp at hi;omega
   subst gC
   rw[List.getElem_append_right (by omega)]
   simp[hl,hx]
section
variable{H:Type}{enc:TypeId×Value→H}{P:Program}{w:World}
theorem gT.cells{τ:Ty}{t:TypeId}(h:gT P τ t):P.cellsOf t=τ.size:=by
 obtain⟨i,hi,hs,_⟩:=h.base
 simp[Program.cellsOf,hi,hs]
theorem CY{a:Addr}{n:Nat}{cs:List Value}(h:w.cells? 0 a n=some cs):cs.length=n∧ ∀j v,cs[j]? =some v→w.cell? (a.add j)=some v:=by
 unfold World.cells? at h
 rw[if_pos (Nat.zero_le _)]at h
 obtain⟨h1,h2⟩:=GW h
 rw[List.length_range]at h1
 refine⟨h1,fun j v hj=> ?_⟩
 obtain⟨dD,rfl⟩:=List.getElem?_eq_some_iff.1 hj
 have:=h2 j (by rw[List.length_range];omega) dD
 rw[List.getElem_range]at this
 exact this
def Qq(H:Type)(enc:TypeId×Value→H)(P:Program)(w:World)(τ:Ty):TypeId ⊕ (Array Field×Nat×Nat)→Prop
 | .inl t=> ∀(fuel:Nat) (cs:List Value) (d:DataW H×List MemPlace),DataW.trod enc P w 0 (fun _=>true) true fuel t cs=some d→ ∃x:τ.den,Rd w (fun _=>False) τ cs x∧WF τ x
 | .inr q=> ∀(cs:List Value),cs.length=q.2.2+τ.size→(∀f∈q.1.toList,∃fuel d,DataW.trod enc P w 0 (fun _=>true) true fuel f.type ((cs.drop f.offset).take (P.cellsOf f.type))=some d)→ ∃x:τ.den,Rd w (fun _=>False) τ (cs.drop q.2.2) x∧WF τ x
theorem CZ{a b:Ty}{f:Field}{fs:Array Field}{n off:Nat}(hf:fs[n]? =some f)(ho:f.offset=off)(ub:gT P a f.type)(iha:Qq H enc P w a (.inl f.type))(PF:Qq H enc P w b (.inr (fs,n+1,off+a.size)))
  {cs:List Value} (hc:cs.length=off+(a.size+b.size)) (gW: ∀f∈fs.toList,∃fuel d,DataW.trod enc P w 0 (fun _=>true) true fuel f.type ((cs.drop f.offset).take (P.cellsOf f.type))=some d):
  ∃x:(Ty.pair a b).den,Rd w (fun _=>False) (.pair a b) (cs.drop off) x∧WF (.pair a b) x:=by
 subst ho
 obtain⟨fuel,d,hd⟩:=gW f (by rw[Array.mem_toList_iff];exact Array.mem_of_getElem? hf)
 rw[ub.cells]at hd
 obtain⟨x,hx,hwx⟩:=iha fuel _ d hd
 obtain⟨y,hy,hwy⟩:=PF cs (by simp only;omega) gW
 refine⟨(x,y),?_,hwx,hwy⟩
 simp only[Rd]
 refine⟨_,_,(List.take_append_drop a.size (cs.drop f.offset)).symm,hx,?_⟩
 rw[List.drop_drop];exact hy
theorem qg: ∀{τ:Ty} {x:TypeId ⊕ (Array Field×Nat×Nat)},dQ P τ x→τ.mO=true→Qq H enc P w τ x
 | .int k,.inl t,hl,_=>by
  intro fuel cs d h
  simp only[dQ]at hl
  obtain⟨n,rfl,_,hw⟩:=DataW.trod_int hl.2 h
  exact⟨n,rfl,hw⟩
 | .bool,.inl t,hl,_=>by
  intro fuel cs d h
  simp only[dQ]at hl
  obtain⟨b,rfl,_⟩:=DataW.trod_bool hl.2 h
  exact⟨b,rfl,trivial⟩
 | .str,.inl t,hl,_=>by
  intro fuel cs d h
  simp only[dQ]at hl
  obtain⟨s,rfl,_,hs⟩:=DataW.trod_string hl.2 h
  exact⟨s,rfl,hs⟩
 | .slice e,.inl t,hl,hs=>by
  intro fuel cs d h
  simp only[dQ]at hl
  obtain⟨_,e',hu,hle⟩:=hl
  simp only[Ty.mO,Bool.and_eq_true,Nat.blt_eq]at hs
  have ih:=qg hle hs.2
  have pY:P.cellsOf e'=e.size:=gT.cells hle
  rcases DataW.trod_slice hu h with⟨rfl,_⟩|⟨a,len,cap,elems,rest,n,_,rfl,_,_,Tw,hcm,hel,gW,_⟩
  ·refine⟨[],?_,Nat.zero_le _,fun i h=>by cases h⟩
   simp only[Rd]
   exact⟨none,0,rfl,Nat.le_refl _,fun i h=>by cases h⟩
  ·rw[pY]at gW
   have get: ∀i,i<len→ ∃cs' y,w.cells? 0 (a.add (i*e.size)) e.size=some cs'∧DataW.trod enc P w 0 (fun _=>true) true n e' cs'=some y:=fun i hi=>by
    have:=gW i hi
    rw[List.getElem?_eq_getElem (by omega)]at this
    obtain⟨cs',h1,h2⟩:=Option.bind_eq_some_iff.1 this
    exact⟨cs',_,h1,h2⟩
   have key: ∀i,i<len→ ∃x:e.den,(a.spot=none∧a.block<w.heap.size∧ ∃cs',At w a.block (a.off+i*e.size) cs'∧Rd w (fun _=>False) e cs' x)∧WF e x:=by
    intro i hi
    obtain⟨cs',y,Ej,ht⟩:=get i hi
    obtain⟨h1,h2⟩:=CY Ej
    obtain⟨x,hx,hw⟩:=ih n cs' y ht
    have hsp:a.spot=none∧a.block<w.heap.size:=by
     obtain⟨oG,y0,anl,_⟩:=get 0 (by omega)
     obtain⟨h10,h20⟩:=CY anl
     have:=h20 0 oG[0] (List.getElem?_eq_getElem (by omega))
     simp only[Nat.zero_mul,Addr.add,if_true,World.cell?]at this
     split at this
     ·rename_i hb
      refine⟨?_,(Array.getElem?_eq_some_iff.1 hb).1⟩
      split at this
      ·cases this
      ·rename_i hn;simpa using hn
     ·cases this
    refine⟨x,⟨hsp.1,hsp.2,cs',fun j v hj=> ?_,hx⟩,hw⟩
    have:=h2 j v hj
    have he:(a.add (i*e.size)).add j=⟨a.block,a.off+i*e.size+j,none⟩:=by
     obtain⟨ab,ao,asp⟩:=a
     simp only at hsp
     obtain⟨rfl,_⟩:=hsp
     simp only[Addr.add]
     split<;>split<;>simp_all<;>omega
    rw[he]at this
    exact this
   obtain⟨l,hl,hp⟩:=rU len key
   refine⟨l,?_,by rw[hl];omega,fun i h=>(hp i h).2⟩
   simp only[Rd]
   refine⟨some a,cap,by rw[hl],by rw[hl];exact Tw,fun i h=> ?_⟩
   obtain⟨h1,h2,cs',h3,h4⟩:=(hp i h).1
   refine⟨a.block,a.off,?_,h2,fun h=>h,cs',h3,h4⟩
   rw[←h1]
 | .unit,.inl t,hl,_=>by
  intro fuel cs d h
  simp only[dQ]at hl
  obtain⟨⟨i,hi,pY,_⟩,fs,hu,h0⟩:=hl
  obtain⟨xs,n,_,_,hc,_⟩:=DataW.trod_struct hu h
  refine⟨(),?_,trivial⟩
  simp only[Rd]
  rw[←List.length_eq_zero_iff,hc]
  simp[Program.cellsOf,hi,pY,Ty.size]
 | .unit,.inr q,hl,_=>by
  intro cs hc _
  refine⟨(),?_,trivial⟩
  simp only[Rd]
  rw[List.drop_of_length_le (by rw[hc];simp[Ty.size])]
 | .pair a b,.inl t,hl,hs=>by
  intro fuel cs d h
  simp only[dQ]at hl
  obtain⟨⟨i,hi,pY,_⟩,fs,f,hu,hf,ho,ub,JY⟩:=hl
  simp only[Ty.mO,Bool.and_eq_true]at hs
  have iha:=qg ub hs.1
  have PF:=qg JY hs.2
  obtain⟨xs,n,_,_,hc,hxl,hxs⟩:=DataW.trod_struct hu h
  have:=CZ (b:=b) (off:=0) hf ho ub iha (by simp only[Nat.zero_add];exact PF) (cs:=cs) (by rw[hc];simp[Program.cellsOf,hi,pY,Ty.size]) (fun f hf=>by
   obtain⟨j,hj,rfl⟩:=List.mem_iff_getElem.1 hf
   rw[Array.length_toList]at hj
   have:=hxs j fs[j] (by simp[hj])
   rw[List.getElem?_eq_getElem (by omega)]at this
   exact⟨n,_,by rw[Array.getElem_toList];exact this⟩)
  rw[List.drop_zero]at this
  exact this
 | .pair a b,.inr (fs,n,off),hl,hs=>by
  intro cs hc gW
  simp only[dQ]at hl
  obtain⟨f,hf,ho,ub,JY⟩:=hl
  simp only[Ty.mO,Bool.and_eq_true]at hs
  exact CZ hf ho ub (qg ub hs.1) (qg JY hs.2) (by simpa [Ty.size]using hc) gW
 | .arr n e,.inl t,hl,hs=>by
  intro fuel cs d h
  simp only[dQ]at hl
  obtain⟨⟨i,hi,pY,_⟩,e',hu,hle⟩:=hl
  simp only[Ty.mO]at hs
  have ih:=qg hle hs
  have hse:P.cellsOf e'=e.size:=gT.cells hle
  obtain⟨xs,m,_,_,hc,hxl,hxs⟩:=DataW.trod_array hu h
  have hlen:cs.length=n*e.size:=by rw[hc];simp[Program.cellsOf,hi,pY,Ty.size]
  have key: ∀i,i<n→ ∃x:e.den,Rd w (fun _=>False) e ((cs.drop (i*e.size)).take e.size) x∧WF e x:=fun i hi=>by
   have:=hxs i hi
   rw[List.getElem?_eq_getElem (by omega),hse]at this
   exact ih m _ _ this
  obtain⟨l,Kp,hp⟩:=rU n key
  refine⟨l,?_,fun i h=>(hp i h).2⟩
  simp only[Rd]
  refine⟨Kp,(List.range n).map fun i=>(cs.drop (i*e.size)).take e.size,by simp,?_,fun i h h'=> ?_⟩
  ·clear hxs h key hp Kp hu
   have: ∀m,m≤n→cs.take (m*e.size)=((List.range m).map fun i=>(cs.drop (i*e.size)).take e.size).flatten:=by
    intro m
    induction m with
    |zero=>simp
    |succ m ihm=>
     intro hm
     rw[List.range_succ,List.map_append,List.flatten_append,←ihm (by omega)]
     simp only[List.map_cons,List.map_nil,List.flatten_cons,List.flatten_nil,List.append_nil]
     rw[Nat.add_mul,Nat.one_mul,List.take_add]
   have h2:=this n (Nat.le_refl _)
   rw[List.take_of_length_le (by omega)]at h2
   exact h2
  ·have:=(hp i h).1
   simpa using this
 | .int _,.inr _,h,_| .bool,.inr _,h,_| .str,.inr _,h,_| .slice _,.inr _,h,_| .arr _ _,.inr _,h,_=>by simp[dQ]at h
theorem abQ{τ:Ty}{t:TypeId}{r:Reach}{b0:Nat}{v:Value}{d:DataW H}{ps:List MemPlace}(hl:gT P τ t)(hs:τ.mO=true)(hv:Value.okWide P w r b0 t v)(h:DataW.Trod enc P w 0 (fun _=>true) true t v d ps):
  ∃x:τ.den,V w (fun _=>False) τ v x∧WF τ x:=by
 obtain⟨fuel,h⟩:=h
 obtain⟨x,hx,hw⟩:=qg (H:=H) (enc:=enc) (w:=w) hl hs fuel _ _ h
 refine⟨x,?_,hw⟩
 unfold V
 cases τ with
 |int k=>
  obtain⟨n,rfl⟩:=okWide_int hl.int hv
  exact hx
 |bool=>
  obtain⟨n,rfl⟩:=okWide_bool hl.bool hv
  exact hx
 |str=>
  obtain⟨n,rfl⟩:=okWide_string hl.str hv
  exact hx
 |slice e=>
  obtain⟨e',hu,_⟩:=hl.slice
  obtain⟨a,len,cap,rfl⟩:=okWide_slice hu hv
  exact hx
 |unit=>
  simp only[gT,dQ]at hl
  obtain⟨_,fs,hu,_⟩:=hl
  simp only[Value.okWide,hu]at hv
  obtain⟨cs,rfl,_⟩:=hv
  exact⟨cs,rfl,hx⟩
 |pair a b=>
  simp only[gT,dQ]at hl
  obtain⟨_,fs,f,hu,_⟩:=hl
  simp only[Value.okWide,hu]at hv
  obtain⟨cs,rfl,_⟩:=hv
  exact⟨cs,rfl,hx⟩
 |arr n e=>
  obtain⟨e',hu,_⟩:=hl.arr
  simp only[Value.okWide,hu]at hv
  obtain⟨cs,rfl,_⟩:=hv
  exact⟨cs,rfl,hx⟩
def WFs:(ms:List Ty)→HP (ms.map .v)→Prop
 |[],_=>True
 |_::ms,x=>WF _ (rz x)∧WFs ms (wv x)
def hpC:{m:AM}→{ms:List AM}→m.den→HP ms→HP (m::ms)
 |_,[],x,_=>x
 |_,_::_,x,y=>(x,y)
theorem Mr{m:AM}: ∀{ms:List AM} (x:m.den) (y:HP ms),rz (hpC x y)=x
 |[],_,_=>rfl
 |_::_,_,_=>rfl
theorem Ms{m:AM}: ∀{ms:List AM} (x:m.den) (y:HP ms),wv (hpC x y)=y
 |[],_,()=>rfl
 |_::_,_,_=>rfl
theorem C0(laid:laidOutB P=true){r:Reach}{b0:Nat}: ∀{τs:List Ty} {ts:List TypeId} {vs:List Value} {ds:List (DataW H)} {ps:List MemPlace},DataW.TrodAll enc P w 0 (fun _=>true) true ts vs ds ps→
  τs.length=ts.length→(∀(j:Nat) τ t,τs[j]? =some τ→ts[j]? =some t→(gT P τ t∧τ.mO=true∧P.readableRec t=true∧t<P.types.size))→
  (∀(j:Nat) t v,ts[j]? =some t→vs[j]? =some v→Value.okWide P w r b0 t v)→
  (∃x:HP (τs.map .v),gl w (fun _=>False) (τs.map .v) x vs∧WFs τs x)∧ ∀w',Below w.heap.size w w'→ ∃Cc,DataW.TrodAll enc P w' 0 (fun b=>decide (b<w.heap.size)) true ts vs ds Cc
 |[],[],vs,ds,ps,h,_,_,_=>by
  obtain⟨rfl,rfl,rfl⟩:=trodAll_nil h
  exact⟨⟨(),rfl,trivial⟩,fun w' _=>⟨[],rfl⟩⟩
 |τ::τs,t::ts,vs,ds,ps,h,hl,B7,hv=>by
  obtain⟨v,FY,d,ds',p,q,rfl,rfl,rfl,h1,h2⟩:=trodAll_cons h
  obtain⟨u5,abR,ZU,dD⟩:=B7 0 τ t rfl rfl
  obtain⟨x,hx,hwx⟩:=abQ u5 abR (hv 0 t v rfl rfl) h1
  obtain⟨⟨y,hy,hwy⟩,Qr⟩:=C0 laid h2 (by simpa using hl) (fun j τ' t' h h'=>B7 (j+1) τ' t' (by simpa using h) (by simpa using h')) (fun j t' v' h h'=>hv (j+1) t' v' (by simpa using h) (by simpa using h'))
  refine⟨⟨hpC (m:= .v τ) x y,?_,?_⟩,fun w' hb=> ?_⟩
  ·show gl w _ (.v τ::τs.map .v) _ _
   simp only[gl]
   exact⟨v,FY,rfl,by rw[Mr];exact hx,by rw[Ms];exact hy⟩
  ·simp only[WFs]
   exact⟨by rw[Mr];exact hwx,by rw[Ms];exact hwy⟩
  ·obtain⟨Cc,h'⟩:=Qr w' hb
   have rO: ∀z∈p,z.block<w.heap.size:=by
    obtain⟨m,hm⟩:=h1
    exact DataW.trod_lt m _ _ _ hm
   exact⟨p++Cc,trodAll_cons_mk (Below.trod laid ZU dD h1 hb rO) h'⟩
 |[],_::_,_,_,_,_,hl,_,_|_::_,[],_,_,_,_,hl,_,_=>by simp at hl
end
end VM
end
section
namespace VM
open Go
variable{α:Type}
noncomputable def vm(L:Nat→Option (List (Nat×CM)))(κ:Nat→St→Option α)(i:Option Nat)(f:St→Option α):St→Option α:=
 match i with
 |none=>f
 |some i=>match L i with
  |none=>f
  |some _=>κ i
noncomputable def Qs(E:Env)(κJ κL:Nat→St→Option α)(c:Code):St→(St→Option α)→(Nat→St→Option α)→(St→Option α)→Option α:=
 Code.rec (motive:=fun _=>St→(St→Option α)→(Nat→St→Option α)→(St→Option α)→Option α)
  (fun σ k _ _=>k σ)
  (fun _ ops draw σ k _ _=>zg E ops draw σ k)
  (fun _ b A B σ k kx kr=>A σ (fun σ'=>rH ((bU b).bind E.s9) σ' (vm E.s9 κJ (bU b) fun rk=>B rk k kx kr)) kx kr)
  (fun c _ _ A B σ k kx kr=>CI E c σ (fun σ'=>A σ' k kx kr) (fun σ'=>B σ' k kx kr))
  (fun id _ A σ k kx kr=>A σ k (fun i σ'=>cond (Nat.beq i id) (k σ') (kx i σ')) kr)
  (fun b _ σ _ kx kr=>rH ((bU b).bind E.rD) σ (vm E.rD κL (bU b) (xv ((bU b).bind E.rD) (fun σ' kn=>zh E b σ' kn kx kr) E.N)))
  (fun _ _ _ _ _ _ _ _ _ _=>none)
  (fun id σ _ kx _=>kx id σ)
  (fun _ A σ k kx kr=>A σ k kx kr)
  (fun _ σ k _ _=>k σ)
  (fun _ _ _ _ _=>none)
  (fun σ _ _ kr=>kr σ)
  (fun _ _ _ _ _=>none)
  c
noncomputable def An(E:Env)(c:Code):(St→Option α)→(Nat→St→Option α)→(St→Option α)→List (Bool×Nat×(St→Option α)):=
 Code.rec (motive:=fun _=>(St→Option α)→(Nat→St→Option α)→(St→Option α)→List (Bool×Nat×(St→Option α)))
  (fun _ _ _=>[])
  (fun _ _ _ _ _ _=>[])
  (fun _ b A B k kx kr=>A (fun σ'=>rH ((bU b).bind E.s9) σ' fun rk=>zh E b rk k kx kr) kx kr++(((bU b).toList.map fun i=>(false,i,fun rk=>zh E b rk k kx kr))++B k kx kr))
  (fun _ _ _ A B k kx kr=>A k kx kr++B k kx kr)
  (fun id _ A k kx kr=>A k (fun i σ'=>cond (Nat.beq i id) (k σ') (kx i σ')) kr)
  (fun b _ _ kx kr=>(bU b).toList.map fun i=>(true,i,xv ((bU b).bind E.rD) (fun σ' kn=>zh E b σ' kn kx kr) E.N))
  (fun _ _ _ _ _ _ _ _ _=>[])
  (fun _ _ _ _=>[])
  (fun _ A k kx kr=>A k kx kr)
  (fun _ _ _ _=>[])
  (fun _ _ _ _=>[])
  (fun _ _ _=>[])
  (fun _ _ _ _=>[])
  c
noncomputable def rV(E:Env)(κJ κL:Nat→St→Option α):List (Bool×Nat×(St→Option α))→List ((St→Option α)×(St→Option α))
 |[]=>[]
 |q::r=>match q.1 with
  |false=>match E.s9 q.2.1 with
   |some _=>(κJ q.2.1,q.2.2)::rV E κJ κL r
   |none=>rV E κJ κL r
  |true=>match E.rD q.2.1 with
   |some _=>(κL q.2.1,q.2.2)::rV E κJ κL r
   |none=>rV E κJ κL r
def Cj(E:Env)(κJ κL:Nat→St→Option α)(l:List (Bool×Nat×(St→Option α))):Prop:= ∀p∈rV E κJ κL l,p.1=p.2
theorem abS{E:Env}{κJ κL:Nat→St→Option α}{l:List (Bool×Nat×(St→Option α))}(g:List (St→Option α))(h:rV E κJ κL l=g.map fun f=>(f,f)):Cj E κJ κL l:=by
 intro p hp
 rw[h]at hp
 obtain⟨f,_,rfl⟩:=List.mem_map.1 hp
 rfl
theorem xM{E:Env}{κJ κL:Nat→St→Option α}: ∀(l m:List (Bool×Nat×(St→Option α))),rV E κJ κL (l++m)=rV E κJ κL l++rV E κJ κL m
 |[],m=>rfl
 |(b,i,f)::l,m=>by
  have ih:=xM (E:=E) (κJ:=κJ) (κL:=κL) l m
  cases b<;>simp only[List.cons_append,rV]<;>split<;>simp[ih]
theorem Cj.app{E:Env}{κJ κL:Nat→St→Option α}{l m:List (Bool×Nat×(St→Option α))}(h:Cj E κJ κL (l++m)):Cj E κJ κL l∧Cj E κJ κL m:=by
 unfold Cj at*
 rw[xM]at h
 exact⟨fun p hp=>h p (List.mem_append_left _ hp),fun p hp=>h p (List.mem_append_right _ hp)⟩
theorem Z3{E:Env}{κJ κL:Nat→St→Option α}{i:Option Nat}{f:St→Option α}(h:Cj E κJ κL (i.toList.map fun i=>(false,i,f))):vm E.s9 κJ i f=f:=by
 cases i with
 |none=>rfl
 |some i=>
  simp only[Option.toList,List.map,Cj,rV]at h
  unfold vm
  cases hL:E.s9 i with
  |none=>simp[hL]
  |some L=>rw[hL]at h;simp only[hL];exact h (κJ i,f) (List.mem_singleton.2 rfl)
theorem aho{E:Env}{κJ κL:Nat→St→Option α}{i:Option Nat}{f:St→Option α}(h:Cj E κJ κL (i.toList.map fun i=>(true,i,f))):vm E.rD κL i f=f:=by
 cases i with
 |none=>rfl
 |some i=>
  simp only[Option.toList,List.map,Cj,rV]at h
  unfold vm
  cases hL:E.rD i with
  |none=>simp[hL]
  |some L=>rw[hL]at h;simp only[hL];exact h (κL i,f) (List.mem_singleton.2 rfl)
theorem Qt{E:Env}{κJ κL:Nat→St→Option α}(c:Code): ∀(k:St→Option α) (kx:Nat→St→Option α) (kr:St→Option α) (σ:St),Cj E κJ κL (An E c k kx kr)→Qs E κJ κL c σ k kx kr=zh E c σ k kx kr:=by
 induction c with
 |skip=>intros;rfl
 |region=>intros;rfl
 |seq a b iha PF=>
  intro k kx kr σ h
  obtain⟨h1,h2⟩:=Cj.app (h:Cj E κJ κL (An E a _ kx kr++(((bU b).toList.map fun i=>(false,i,fun rk=>zh E b rk k kx kr))++An E b k kx kr)))
  obtain⟨h2,h3⟩:=Cj.app h2
  show Qs E κJ κL a σ (fun σ'=>rH ((bU b).bind E.s9) σ' (vm E.s9 κJ (bU b) fun rk=>Qs E κJ κL b rk k kx kr)) kx kr=zh E a σ (fun σ'=>rH ((bU b).bind E.s9) σ' fun rk=>zh E b rk k kx kr) kx kr
  have hb:(fun rk=>Qs E κJ κL b rk k kx kr)=fun rk=>zh E b rk k kx kr:=funext fun rk=>PF k kx kr rk h3
  rw[hb,Z3 h2]
  exact iha _ _ _ _ h1
 |cond x a b iha PF=>
  intro k kx kr σ h
  obtain⟨h1,h2⟩:=Cj.app (h:Cj E κJ κL (An E a k kx kr++An E b k kx kr))
  show CI E x σ (fun σ'=>Qs E κJ κL a σ' k kx kr) (fun σ'=>Qs E κJ κL b σ' k kx kr)=CI E x σ (fun σ'=>zh E a σ' k kx kr) (fun σ'=>zh E b σ' k kx kr)
  rw[show(fun σ'=>Qs E κJ κL a σ' k kx kr)=fun σ'=>zh E a σ' k kx kr from funext fun σ'=>iha k kx kr σ' h1,show(fun σ'=>Qs E κJ κL b σ' k kx kr)=fun σ'=>zh E b σ' k kx kr from funext fun σ'=>PF k kx kr σ' h2]
 |block id x ih=>intro k kx kr σ h;exact ih _ _ _ σ h
 |loop b _=>
  intro k kx kr σ h
  show rH ((bU b).bind E.rD) σ (vm E.rD κL (bU b) (xv ((bU b).bind E.rD) (fun σ' kn=>zh E b σ' kn kx kr) E.N))=rH ((bU b).bind E.rD) σ (xv ((bU b).bind E.rD) (fun σ' kn=>zh E b σ' kn kx kr) E.N)
  rw[aho (h:Cj E κJ κL ((bU b).toList.map fun i=>(true,i,_)))]
 |rangeFunc=>intros;rfl
 |exit=>intros;rfl
 |scope x ih=>intro k kx kr σ h;exact ih _ _ _ σ h
 |label=>intros;rfl
 |goto=>intros;rfl
 |ret=>intros;rfl
 |refuse=>intros;rfl
noncomputable def kJ(E:Env)(κJ κL:Nat→St→Option α):List Nat→Code→List (St→Option α)→St→(St→Option α)→(Nat→St→Option α)→(St→Option α)→Option α
 |[],c,_,σ,k,kx,kr=>Qs E κJ κL c σ k kx kr
 |n::p,c,ks,σ,k,kx,kr=>match c with
  | .seq a b=>match n with
   |0=>kJ E κJ κL p a ks σ (fun σ'=>rH ((bU b).bind E.s9) σ' (vm E.s9 κJ (bU b) fun rk=>Qs E κJ κL b rk k kx kr)) kx kr
   |_=>kJ E κJ κL p b ks σ k kx kr
  | .cond _ a b=>match n with
   |0=>kJ E κJ κL p a ks σ k kx kr
   |_=>kJ E κJ κL p b ks σ k kx kr
  | .block id c=>kJ E κJ κL p c ks σ k (fun i σ'=>cond (Nat.beq i id) (k σ') (kx i σ')) kr
  | .loop b=>match ks with
   |κ::ks=>kJ E κJ κL p b ks σ κ kx kr
   |[]=>none
  | .scope c=>kJ E κJ κL p c ks σ k kx kr
  |_=>none
noncomputable def eT(E:Env):List Nat→Code→List (St→Option α)→(St→Option α)→(Nat→St→Option α)→(St→Option α)→List (Bool×Nat×(St→Option α))
 |[],c,_,k,kx,kr=>An E c k kx kr
 |n::p,c,ks,k,kx,kr=>match c with
  | .seq a b=>match n with
   |0=>((bU b).toList.map fun i=>(false,i,fun rk=>zh E b rk k kx kr))++(An E b k kx kr++eT E p a ks (fun σ'=>rH ((bU b).bind E.s9) σ' fun rk=>zh E b rk k kx kr) kx kr)
   |_=>eT E p b ks k kx kr
  | .cond _ a b=>match n with
   |0=>eT E p a ks k kx kr
   |_=>eT E p b ks k kx kr
  | .block id c=>eT E p c ks k (fun i σ'=>cond (Nat.beq i id) (k σ') (kx i σ')) kr
  | .loop b=>match ks with
   |κ::ks=>eT E p b ks κ kx kr
   |[]=>[]
  | .scope c=>eT E p c ks k kx kr
  |_=>[]
theorem jY{E:Env}{κJ κL:Nat→St→Option α}: ∀(p:List Nat) (c:Code) (ks:List (St→Option α)) (k:St→Option α) (kx:Nat→St→Option α) (kr:St→Option α) (σ:St),Cj E κJ κL (eT E p c ks k kx kr)→
  kJ E κJ κL p c ks σ k kx kr=rl E p c ks σ k kx kr
 |[],c,ks,k,kx,kr,σ,h=>Qt c k kx kr σ h
 |n::p,c,ks,k,kx,kr,σ,h=>by
  cases c with
  |seq a b=>
   cases n with
   |zero=>
    simp only[kJ,rl,eT]at h ⊢
    obtain⟨h1,h2⟩:=Cj.app h
    obtain⟨h2,h3⟩:=Cj.app h2
    rw[show(fun rk=>Qs E κJ κL b rk k kx kr)=fun rk=>zh E b rk k kx kr from funext fun rk=>Qt b k kx kr rk h2,Z3 h1]
    exact jY p a ks _ kx kr σ h3
   |succ n=>simp only[kJ,rl,eT]at h ⊢;exact jY p b ks k kx kr σ h
  |cond x a b=>
   cases n with
   |zero=>simp only[kJ,rl,eT]at h ⊢;exact jY p a ks k kx kr σ h
   |succ n=>simp only[kJ,rl,eT]at h ⊢;exact jY p b ks k kx kr σ h
  |block id x=>simp only[kJ,rl,eT]at h ⊢;exact jY p x ks k _ kr σ h
  |loop b=>
   cases ks with
   |nil=>simp only[kJ,rl]
   |cons κ ks=>simp only[kJ,rl,eT]at h ⊢;exact jY p b ks κ kx kr σ h
  |scope x=>simp only[kJ,rl,eT]at h ⊢;exact jY p x ks k kx kr σ h
  |_=>simp only[kJ,rl]
noncomputable def Ao(fn:Func):Code:=fn.body.getD .skip
noncomputable def GX(E:Env)(fn:Func)(args res:List AM):St→Option (HP res):=fun σ=>Ed E res (fn.results.toList.map .inl++wC args 0) σ some
noncomputable def nox:Nat→St→Option α:=fun _ _=>none
noncomputable def auS:St→Option α:=fun _=>none
noncomputable def atF(E:Env)(fn:Func)(args res:List AM)(p:List Nat)(ks:List (St→Option (HP res)))(σ:St):Option (HP res):=
 rl E p (Ao fn) ks σ (GX E fn args res) nox (GX E fn args res)
noncomputable def atQ(E:Env)(fn:Func)(args res:List AM)(κJ κL:Nat→St→Option (HP res))(p:List Nat)(ks:List (St→Option (HP res)))(σ:St):Option (HP res):=
 kJ E κJ κL p (Ao fn) ks σ (GX E fn args res) nox (GX E fn args res)
noncomputable def T5(E:Env)(fn:Func)(args res:List AM)(p:List Nat)(ks:List (St→Option (HP res))):List (Bool×Nat×(St→Option (HP res))):=
 eT E p (Ao fn) ks (GX E fn args res) nox (GX E fn args res)
theorem ano{E:Env}{fn:Func}{args res:List AM}{κJ κL:Nat→St→Option (HP res)}{p:List Nat}{ks:List (St→Option (HP res))}(g:List (St→Option (HP res)))(h:rV E κJ κL (T5 E fn args res p ks)=g.map fun f=>(f,f))(σ:St):
 atF E fn args res p ks σ=atQ E fn args res κJ κL p ks σ:=(jY p _ ks _ _ _ σ (abS g h)).symm
theorem abU{E:Env}{fn:Func}{args res:List AM}(hb:fn.body.isSome=true)(x:HP args):Gh E fn args res x=atF E fn args res [] [] (entry args x 0 S0):=by
 unfold Gh atF Ao
 cases h:fn.body with
 |none=>rw[h]at hb;cases hb
 |some c=>rfl
noncomputable def lpF(E:Env)(fn:Func)(args res:List AM)(c:List (Nat×CM))(p:List Nat)(ks:List (St→Option (HP res)))(n:Nat):St→Option (HP res):=
 xv (some c) (fun σ kn=>atF E fn args res p (ks++[kn]) σ) n
theorem Qu(E:Env)(fn:Func)(args res:List AM)(c:List (Nat×CM))(p:List Nat)(ks:List (St→Option (HP res)))(n:Nat)(σ:St):
 lpF E fn args res c p ks (n+1) σ=atF E fn args res p (ks++[fun σ'=>rH (some c) σ' (lpF E fn args res c p ks n)]) σ:=rfl
def Qv{β:Type}(κ:Nat→β):List (Nat×β)→Prop
 |[]=>True
 |q::r=>κ q.1=q.2∧Qv κ r
def NX{β:Type}:List (β×β)→Prop
 |[]=>True
 |q::r=>q.1=q.2∧NX r
theorem NX.mem{β:Type}: ∀{l:List (β×β)},NX l→ ∀p∈l,p.1=p.2
 |q::r,h,p,hp=>by
  rcases List.mem_cons.1 hp with rfl|hp
  ·exact h.1
  ·exact NX.mem h.2 p hp
theorem ahp{β:Type}(d:β): ∀(l:List (Nat×β)),(l.map (·.1)).Nodup→ ∃κ:Nat→β,Qv κ l
 |[],_=>⟨fun _=>d,trivial⟩
 |q::r,h=>by
  rw[List.map_cons,List.nodup_cons]at h
  obtain⟨κ,hκ⟩:=ahp d r h.2
  refine⟨fun i=>if i=q.1 then q.2 else κ i,by simp,?_⟩
  have key: ∀(r':List (Nat×β)),(∀p∈r',p∈r)→Qv κ r'→Qv (fun i=>if i=q.1 then q.2 else κ i) r':=by
   intro r'
   induction r' with
   |nil=>intros;trivial
   |cons p r' ih=>
    intro hm ha
    refine⟨?_,ih (fun p' wq=>hm p' (List.mem_cons_of_mem _ wq)) ha.2⟩
    have gk:p.1≠q.1:=fun e=>h.1 (e▸List.mem_map_of_mem (hm p (List.mem_cons_self ..)))
    show(if p.1=q.1 then q.2 else κ p.1)=p.2
    rw[if_neg gk]
    exact ha.1
  exact key r (fun _ h=>h) hκ
theorem aso{β:Type}(d:β)(l:List (Nat×β)){ks:List Nat}(h:l.map (·.1)=ks)(hd:ks.Nodup): ∃κ:Nat→β,Qv κ l:=ahp d l (h▸hd)
theorem at_eq(E:Env)(fn:Func)(args res:List AM){κJ κL:Nat→St→Option (HP res)}{p:List Nat}{ks:List (St→Option (HP res))}{l:List ((St→Option (HP res))×(St→Option (HP res)))}(h:rV E κJ κL (T5 E fn args res p ks)=l)(hl:NX l)(σ:St):
 atF E fn args res p ks σ=atQ E fn args res κJ κL p ks σ:=(jY p _ ks _ _ _ σ (by unfold Cj;rw[show rV E κJ κL (eT E p (Ao fn) ks (GX E fn args res) nox (GX E fn args res))=l from h];exact hl.mem)).symm
end VM
end
section
namespace VM
open Go Go.RowKit
variable{P:Program}
def GY(i:Nat):List (Nat×Ty)→Option Ty
 |[]=>none
 |q::r=>cond (Nat.beq i q.1) (some q.2) (GY i r)
theorem C1{i:Nat}{τ:Ty}: ∀{l:List (Nat×Ty)},GY i l=some τ→(i,τ)∈l
 |q::r,h=>by
  unfold GY at h
  cases hb:Nat.beq i q.1<;>rw[hb]at h
  ·exact List.mem_cons_of_mem _ (C1 h)
  ·cases h;rw[Nat.eq_of_beq_eq_true hb];exact List.mem_cons_self ..
structure Ap(P:Program)(tab:List (Nat×Ty)):Prop where
 ok:ahl P tab=true
 mixed:P.follows .mixedOrders=true
theorem NY{E:Env}(hE:oN P E)(anq:E.io=[]){f:FuncId}{fn:Func}(hf:P.funcs[f]? =some fn)(τs:List Ty)
  (hc:(Nat.beq E.nt fn.ntmps&&Nat.ble τs.length E.nt)=true) {w:World} {vs:List Value} {x:HP (τs.map .v)} (hA:gl w (fun _=>False) (τs.map .v) x vs)
  (h:Gh E fn (τs.map .v) [.v .bool] x=some true):Calls P f vs.toArray w fun e w'=>e= .returned (.bool true)∧Below w.heap.size w w':=by
 rw[Bool.and_eq_true]at hc
 have hnt:=Nat.eq_of_beq_eq_true hc.1
 have hlen:=Nat.le_of_ble_eq_true hc.2
 have hh: ∀(τs:List Ty) (vs:List Value),cR (τs.map .v) vs=[]:=by
  intro τs
  induction τs with
  |nil=>intro vs;cases vs<;>rfl
  |cons τ τs ih=>intro vs;cases vs with
   |nil=>rfl
   |cons v vs=>simp[cR,cI,ih]
 have hi: ∀(τs:List Ty) (vs:List Value),dG (τs.map .v) vs=[]:=by
  intro τs
  induction τs with
  |nil=>intro vs;cases vs<;>rfl
  |cons τ τs ih=>intro vs;cases vs with
   |nil=>rfl
   |cons v vs=>simp[dG,AM.fU,ih]
 refine(CX (M0:=fun _=>False) (vs:=vs) hE hf hnt (fun i m hm sM=> ?_) (fun i hi=>by rw[anq]at hi;cases hi) (by rw[List.length_map];rw[←hnt];exact hlen) (fun b hb=>hb.elim) (by rw[hh];simpa using hA) (by rw[hh];exact List.nodup_nil) (fun b _ hb=>hb) h).mono ?_
 ·rw[List.getElem?_map]at hm
  obtain⟨τ,_,rfl⟩:=Option.map_eq_some_iff.1 hm
  cases sM
 ·rintro e w' ⟨v,rfl,us,M',rfl,Ps,hL,_,_⟩
  rw[hh]at hL
  rw[hi]at Ps
  simp only[RR]at Ps
  rcases Ps with⟨p,Cc,h1,_⟩|⟨v,FY,_,_,rfl,hv,rfl,_⟩
  ·cases h1
  ·refine⟨?_,hL.os,hL.tape,hL.output,hL.size,fun b hb=>hL.frame b hb (by simp)⟩
   have:v= .bool true:=by
    simp only[A1,V,Ty.isAgg,Bool.false_eq_true,if_false,Rd,List.cons.injEq,and_true]at hv
    exact hv
   rw[this];rfl
def Qw(P:Program):List Ty→List TypeId→Bool
 |[],[]=>true
 |τ::τs,t::ts=>(pH P τ (.inl t)&&τ.mO)&&((P.readableRec t&&decide (t<P.types.size))&&Qw P τs ts)
 |_,_=>false
theorem EB: ∀{τs:List Ty} {ts:List TypeId},Qw P τs ts=true→τs.length=ts.length∧ ∀(j:Nat) τ t,τs[j]? =some τ→ts[j]? =some t→(gT P τ t∧τ.mO=true∧P.readableRec t=true∧t<P.types.size)
 |[],[],_=>⟨rfl,fun j τ t h=>by simp at h⟩
 |τ::τs,t::ts,h=>by
  simp only[Qw,Bool.and_eq_true]at h
  obtain⟨⟨h1,h2⟩,⟨h3,h4⟩,h5⟩:=h
  obtain⟨hl,ih⟩:=EB h5
  refine⟨by simp[hl],fun j τ' t' ha hb=> ?_⟩
  cases j with
  |zero=>
   simp only[List.getElem?_cons_zero,Option.some.injEq]at ha hb
   subst ha;subst hb
   exact⟨eE h1,h2,h3,of_decide_eq_true h4⟩
  |succ j=>exact ih j τ' t' (by simpa using ha) (by simpa using hb)
 |[],_::_,h|_::_,[],h=>by simp[Qw]at h
theorem Qx{H:Type}{enc:TypeId×Value→H}{w:World}{fn:Func}{args:Array Value}{ds:List (DataW H)}{ps:List MemPlace}{r:Reach}{b0:Nat}(laid:laidOutB P=true)(τs:List Ty)
  (hA:DataW.TrodAll enc P w 0 (fun _=>true) true fn.params.toList args.toList ds ps) (B7:Qw P τs fn.params.toList=true)
  (hv: ∀(j:Nat) t v,fn.params[j]? =some t→args[j]? =some v→Value.okWide P w r b0 t v):
  (∃x:HP (τs.map .v),gl w (fun _=>False) (τs.map .v) x args.toList∧WFs τs x)∧ ∀w',Below w.heap.size w w'→ ∃Cc,DataW.TrodAll enc P w' 0 (fun b=>decide (b<w.heap.size)) true fn.params.toList args.toList ds Cc:=
 C0 laid hA (EB B7).1 (EB B7).2 (fun j t v h h'=>hv j t v (by rw[Array.getElem?_toList]at h;exact h) (by rw[Array.getElem?_toList]at h';exact h'))
end VM
end
