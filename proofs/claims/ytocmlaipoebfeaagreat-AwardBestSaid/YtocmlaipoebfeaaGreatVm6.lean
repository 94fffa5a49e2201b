/- A part of the proof of AwardBest of layer 25: a machine that reads a function of the program as an equation between values. -/
import Derived.Test.YtocmlaipoebfeaaGreatVm5
import Derived.Laws.StructEq
import Derived.OpenShut
import Derived.ChangeShapes
import Derived.ChangeMaps5
import Derived.RowKit
import Derived.ChangeOld
import Derived.Carry
import Derived.Below
import Derived.Test.YtocmlaipoebfeaaGreatVm0
set_option linter.all false
section
namespace VM
open Go
variable{P:Program}{E:Env}{o:Oper}{a:Act}{w:World}{M:Nat→Prop}{ν:Nat→Value}{σ:St}{c:Ctx}{α:Type}{r:α}{next:Act→World→Prop}{Q:Exit→Act→World→Prop}
theorem vy{L:Option (List (Nat×CM))}(hL: ∀L',L=some L'→fM L'=true){b:Code}{Q:Exit→Act→World→Prop}{step:St→(St→Option α)→Option α}
  (hs: ∀σ a w kn (Q':Exit→Act→World→Prop),Inv c E σ a w→step σ kn=some r→(∀σ' a' w',kn σ'=some r→Inv c E σ' a' w'→Q' .normal a' w')→(∀e a' w',e≠ .normal→Q e a' w'→Q' e a' w')→b.wp P Q' a w):
  ∀n σ a w,Inv c E σ a w→vj L step n σ=some r→Code.rounds P b Q n a w
 |0,σ,a,w,_,h=>by cases h
 |n+1,σ,a,w,hI,h=>by
  rw[rounds_succ]
  refine hs σ a w _ _ hI h (fun σ' a' w' h' rK=> ?_) (fun e a' w' he hq=> ?_)
  ·obtain⟨pN,Iz,Xd⟩:=sf rK hL h'
   exact vy hL hs n pN a' w' Xd Iz
  ·cases e<;>first|exact hq|exact absurd rfl he
theorem J0(hE:nk P E): ∀(cd:Code) (σ:St) (a:Act) (w:World) (k:St→Option α) (kx:Nat→St→Option α) (kr:St→Option α) (Q:Exit→Act→World→Prop),Inv c E σ a w→wV E cd σ k kx kr=some r→
  (∀σ' a' w',k σ'=some r→Inv c E σ' a' w'→Q .normal a' w')→(∀i σ' a' w',kx i σ'=some r→Inv c E σ' a' w'→Q (.exit i) a' w')→(∀σ' a' w',kr σ'=some r→Inv c E σ' a' w'→Q .ret a' w')→cd.wp P Q a w:=by
 intro cd
 induction cd with
 |skip=>intro σ a w k kx kr Q hI h hk _ _;exact wp_skip (hk σ a w h hI)
 |region id ops draw=>intro σ a w k kx kr Q hI h hk _ _;exact zJ hE hI h hk
 |seq x y ihx ihy=>
  intro σ a w k kx kr Q hI h hk hx hr
  refine wp_seq (ihx σ a w _ kx kr _ hI h (fun σ' a' w' h' rK=> ?_) hx hr)
  obtain⟨pN,Iz,Xd⟩:=sf rK (fun L' hL=>by
   cases hf:bF y with
   |none=>rw[hf]at hL;cases hL
   |some i=>rw[hf]at hL;exact hE.L4 i L' hL) h'
  exact ihy pN a' w' k kx kr Q Xd Iz hk hx hr
 |cond x t e iht ihe=>
  intro σ a w k kx kr Q hI h hk hx hr
  obtain⟨b,hb,h⟩:=Dr (E:=E) (A:=fun σ'=>wV E t σ' k kx kr) (B:=fun σ'=>wV E e σ' k kx kr) hI h
  refine wp_cond hb ?_
  cases b
  ·exact ihe σ a w k kx kr Q hI h hk hx hr
  ·exact iht σ a w k kx kr Q hI h hk hx hr
 |block id x ih=>
  intro σ a w k kx kr Q hI h hk hx hr
  refine wp_block (ih σ a w k _ kr _ hI h hk (fun i σ' a' w' h' rK=> ?_) hr)
  show if i=id then Q .normal a' w' else Q (.exit i) a' w'
  cases hb:Nat.beq i id
  ·have gG:i≠id:=fun e=>by subst e;rw[show Nat.beq i i=true from Nat.beq_refl i]at hb;cases hb
   rw[hb]at h'
   rw[if_neg gG]
   exact hx i σ' a' w' h' rK
  ·rw[hb]at h'
   rw[if_pos (Nat.eq_of_beq_eq_true hb)]
   exact hk σ' a' w' h' rK
 |loop b ih=>
  intro σ a w k kx kr Q hI h hk hx hr
  have hL: ∀L',(bF b).bind E.pW=some L'→fM L'=true:=fun L' hL=>by
   cases hf:bF b with
   |none=>rw[hf]at hL;cases hL
   |some i=>rw[hf]at hL;exact hE.fM i L' hL
  obtain⟨σ',h',rK⟩:=sf hI hL h
  refine wp_loop_rounds E.N (vy hL (fun σ a w kn Q' hI h hkn hq=> ?_) E.N σ' a w rK h')
  exact ih σ a w kn kx kr Q' hI h hkn (fun i σ' a' w' h' rK=>hq _ _ _ (by simp) (hx i σ' a' w' h' rK)) (fun σ' a' w' h' rK=>hq _ _ _ (by simp) (hr σ' a' w' h' rK))
 |rangeFunc f ps x y ihx ihy=>intro σ a w k kx kr Q hI h;cases h
 |exit id=>intro σ a w k kx kr Q hI h hk hx hr;exact wp_exit (hx id σ a w h hI)
 |scope x ih=>
  intro σ a w k kx kr Q hI h hk hx hr
  exact wp_scope_straight (ih σ a w k kx kr _ hI h hk hx hr)
 |label l=>intro σ a w k kx kr Q hI h hk _ _;exact wp_label (hk σ a w h hI)
 |goto l=>intro σ a w k kx kr Q hI h;cases h
 |ret=>intro σ a w k kx kr Q hI h hk hx hr;exact wp_ret (hr σ a w h hI)
 |refuse s=>intro σ a w k kx kr Q hI h;cases h
end VM
end
section
namespace VM
open Go
variable{P:Program}{E:Env}{o:Oper}{a:Act}{w:World}{M:Nat→Prop}{ν:Nat→Value}{σ:St}{c:Ctx}{α:Type}{r:α}{next:Act→World→Prop}{Q:Exit→Act→World→Prop}
theorem GU{m:AM}{ms:List AM}(x:HP (m::ms))(i:Nat)(σ:St):entry (m::ms) x i σ=entry ms (uq x) (i+1) (GA m (pS x) i σ):=by
 cases ms with
 |nil=>simp[entry,pS]
 |cons n ms=>simp[entry,pS,uq]
theorem Core.vt{tm:Array Value}(h:Core c σ tm w M ν){id:Nat}{v:Value}{e:aR}(aS:σ.H id=none)(Jy:ER w M v e)
  (hd: ∀b,dV v=some b→ ∀i e',σ.H i=some e'→e'.mut→dV (ν i)≠some b) (hn: ∀b,dV v=some b→c.B≤b∨c.may b) (ho: ∀b e0 l0,e= .own e0 l0→dV v=some b→ ¬c.M0 b)
  (oc: ∀τ x p j,e= .dE τ x p j→bm σ.H id (some e) j≠none∧ ∃b,v= .pointer (some ⟨b,0,none⟩)∧w.cell? ⟨b,bA p τ,none⟩=some (b9 ν id v j):=by intro _ _ _ _ h;cases h):
  Core c ⟨σ.T,bm σ.H id (some e)⟩ tm w M (b9 ν id v):=by
 have hm:=Mem.vt h.mem (id:=id) (v:=v) (e:=e) (fun e' rI=>by rw[aS]at rI;cases rI) Jy hd hn ho (.inl aS) oc
 refine h.tr ⟨hm,.refl w M,⟨fun i e1 hi=> ?_,fun i hi=> ?_⟩⟩
 ·have bn:i≠id:=fun e=>by rw[e,aS]at hi;cases hi
  exact⟨e1,by rw[al _ _ bn];exact hi,.refl e1⟩
 ·have bn:i≠id:=fun e=>hi (e▸aS)
  simp[b9,bn]
theorem Core.put{tm:Array Value}(h:Core c σ tm w M ν){d:Nat}{x:aW}(hx:VR w M σ.H ν x (tm.getD d undef)):Core c (σ.put d x) tm w M ν:=by
 refine⟨h.mem,fun i=> ?_⟩
 by_cases hi:i=d
 ·subst hi;rw[oI];exact hx
 ·rw[tf _ _ hi];exact h.tmp i
theorem vz{tm:Array Value}: ∀{ms:List AM} {x:HP ms} {vs:List Value} {i:Nat} {σ:St} {ν:Nat→Value} {used:List Nat},Core c σ tm w M ν→fB w M ms x vs→(∀j v,vs[j]? =some v→tm.getD (i+j) undef=v)→
  (∀j,16*i≤j→σ.H j=none)→(∀j e b,σ.H j=some e→e.mut→dV (ν j)=some b→b∈used)→(used++cv ms vs).Nodup→(∀b∈cv ms vs,c.may b)→(∀b,c.may b→ ¬c.M0 b)→
  ∃ν',Core c (entry ms x i σ) tm w M ν'
 |[],x,vs,i,σ,ν,used,h,_,_,_,_,_,_,_=>⟨ν,h⟩
 |m::ms,x,vs,i,σ,ν,used,h,hA,Gj,gP,Ai,td,GV,C2=>by
  rw[GU]
  simp only[fB]at hA
  obtain⟨v,CH,rfl,h1,h2⟩:=hA
  have hv:tm.getD i undef=v:=by simpa using Gj 0 v rfl
  have DA: ∀j u,CH[j]? =some u→tm.getD (i+1+j) undef=u:=fun j u hj=>by
   have:=Gj (j+1) u (by simpa using hj)
   rwa [show i+(j+1)=i+1+j from by omega]at this
  have aS:σ.H (16*i+15)=none:=gP _ (by omega)
  have Xe:cv (m::ms) (v::CH)=cf m v++cv ms CH:=rfl
  rw[Xe]at td GV
  have qc: ∀b,b∈cf m v→ ∀j e',σ.H j=some e'→e'.mut→dV (ν j)≠some b:=fun b hb j e' hj gk di=>
   lK td (Ai j e' b hj gk di) (List.mem_append_left _ hb)
  have rJ: ∀{σ':St} {ν':Nat→Value},Core c σ' tm w M ν'→(∀j,16*(i+1)≤j→σ'.H j=none)→(∀j e b,σ'.H j=some e→e.mut→dV (ν' j)=some b→b∈used++cf m v)→ ∃ν'',Core c (entry ms (uq x) (i+1) σ') tm w M ν'':=
   fun h' wh hu'=>vz h' h2 DA wh hu' (by rw[List.append_assoc];exact td) (fun b hb=>GV b (List.mem_append_right _ hb)) C2
  have JS: ∀(e:aR) (v':Value),v'=v→(∀b,dV v=some b→b∈cf m v)→(∀j,16*(i+1)≤j→bm σ.H (16*i+15) (some e) j=none)∧
    (∀j e1 b,bm σ.H (16*i+15) (some e) j=some e1→e1.mut→dV (b9 ν (16*i+15) v' j)=some b→b∈used++cf m v):=by
   rintro e v' rfl hb
   refine⟨fun j hj=>by rw[al _ _ (by omega)];exact gP j (by omega),fun j e1 b hj gk di=> ?_⟩
   by_cases si:j=16*i+15
   ·subst si
    simp only[b9,if_true]at di
    exact List.mem_append_right _ (hb b di)
   ·rw[al _ _ si]at hj
    simp only[b9,si,if_false]at di
    exact List.mem_append_left _ (Ai j e1 b hj gk di)
  cases m with
  |v τ=>
   refine rJ (σ':=σ.put i (.val τ (pS x))) (h.put ?_) (fun j hj=>gP j (by omega)) (fun j e b hj gk di=>List.mem_append_left _ (Ai j e b hj gk di))
   simp only[VR,hv];exact h1
  |fn f τ=>
   refine rJ (σ':=σ.put i (.CQ f (kX τ (pS x)))) (h.put ?_) (fun j hj=>gP j (by omega)) (fun j e b hj gk di=>List.mem_append_left _ (Ai j e b hj gk di))
   rw[hv]
   simp only[A1,VR]at h1 ⊢
   obtain⟨us,hu,Gd⟩:=h1
   exact⟨us,hu,fj.free Gd⟩
  |own e=>
   have sN: ∀b,dV v=some b→b∈cf (.own e) v:=fun b hb=>by simp[cf,hb]
   have hc:=h.vt aS (v:=v) (e:= .own e (pS x)) h1 (fun b hb=>qc b (sN b hb)) (fun b hb=> .inr (GV b (List.mem_append_left _ (sN b hb)))) (fun b _ _ _ hb=>C2 b (GV b (List.mem_append_left _ (sN b hb))))
   obtain⟨wh,hu'⟩:=JS (.own e (pS x)) v rfl sN
   refine rJ (σ':=(σ.put i (.ref (16*i+15))).gF (16*i+15) (some (.own e (pS x)))) (ν':=b9 ν (16*i+15) v) (hc.put (d:=i) (x:= .ref (16*i+15)) ?_) wh hu'
   simp only[VR,hv]
   exact⟨by rw[ak];simp,by simp[b9]⟩
  |io τ=>
   have sN: ∀b,dV v=some b→b∈cf (.io τ) v:=fun b hb=>by simp[cf,hb]
   have hc:=h.vt aS (v:=v) (e:= .obj τ (pS x)) h1 (fun b hb=>qc b (sN b hb)) (fun b hb=> .inr (GV b (List.mem_append_left _ (sN b hb)))) (fun b _ _ he=>by cases he)
   obtain⟨wh,hu'⟩:=JS (.obj τ (pS x)) v rfl sN
   refine rJ (σ':=(σ.put i (.eV (16*i+15) [])).gF (16*i+15) (some (.obj τ (pS x)))) (ν':=b9 ν (16*i+15) v) (hc.put (d:=i) (x:= .eV (16*i+15) []) ?_) wh hu'
   simp only[A1,ER]at h1
   obtain⟨b,cs,t,LZ,_⟩:=h1
   simp only[VR,hv]
   exact⟨_,ak _ _ _,trivial,b,by simp[b9,LZ],LZ⟩
  |eV τ=>
   refine rJ (σ':=σ.put i (.lS τ (pS x))) (h.put ?_) (fun j hj=>gP j (by omega)) (fun j e b hj gk di=>List.mem_append_left _ (Ai j e b hj gk di))
   rw[hv]
   simp only[A1,VR]at h1 ⊢
   exact h1
  |ptr τ=>
   refine rJ (σ':=σ) h (fun j hj=>gP j (by omega)) (fun j e b hj gk di=>List.mem_append_left _ (Ai j e b hj gk di))
def qd(tm:Array Value):ResultVar→Sem Value
 | .tmp t=>pure (tm.getD t undef)
 | .cell x t=>do loadVar t (←asAddr (tm.getD x undef))
def wz(P:Program)(tm:Array Value)(w:World)(rv:ResultVar)(u:Value):Prop:=(qd tm rv).run P w= .ok u w
def CJ(P:Program)(tm:Array Value)(w:World):List (ResultVar ⊕ Nat)→List Value→List Value→Prop
 |[],us,ps=>us=[]∧ps=[]
 | .inl rv::rs,us,ps=> ∃u By,us=u::By∧wz P tm w rv u∧CJ P tm w rs By ps
 | .inr i::rs,us,ps=> ∃p zE,ps=p::zE∧p=tm.getD i undef∧CJ P tm w rs us zE
theorem Core.PZ{tm:Array Value}{H1:Nat→Option aR}{M1:Nat→Prop}(h: ∀i,VR w M σ.H ν (σ.T i) (tm.getD i undef))(k:c4 w M w M1)(g:nP σ.H ν H1 ν): ∀i,VR w M1 H1 ν (σ.T i) (tm.getD i undef):=
 fun i=>VR.br k g (h i)
theorem vA(hE:EnvTy P E){tm:Array Value}{H0 Hq:Nat→Option aR}{M1:Nat→Prop}{uo uf:e9}{io:List (Nat×Ty)}{hs:List Nat}(h:gO c w M ν H0 σ.H Hq M1 uo uf io hs)(ht: ∀i,VR w M1 σ.H ν (σ.T i) (tm.getD i undef))
  {m:AM} {rs:ResultVar ⊕ Nat} {k:m.den→St→Option α} (hk:z5 E m rs σ k=some r):
  ∃y σ' CD CE zl Lk M2 u,k y σ'=some r∧σ'.T=σ.T∧gO c w M ν H0 σ'.H Lk M2 CD CE zl (hs++cf m u)∧c4 w M1 w M2∧nP σ.H ν σ'.H ν∧A1 w M2 m y u∧
   ((m.fk=false∧m.PE=false∧ ∃rv,rs= .inl rv∧wz P tm w rv u)∨(m.fk=true∧ ∃i,rs= .inr i∧u=tm.getD i undef)):=by
 unfold z5 at hk
 split at hk
 ·
  rename_i τ t k
  obtain⟨y,rd,ups,hk,hy⟩:=wY h.mem (ht t) hk
  have GW:wz P tm w (.tmp t) (tm.getD t undef):=by simp[wz,qd]
  rcases hy with⟨rfl,hV⟩|⟨id,e,l,rfl,aS,hV⟩
  ·exact⟨y,σ,uo,uf,io,Hq,M1,_,hk,rfl,by simpa [cf]using h,.refl w M1,.refl _ ν,hV,.inl ⟨rfl,rfl,_,rfl,GW⟩⟩
  ·obtain⟨M2,hA,hK,Bq⟩:=h.freeze aS
   exact⟨y,_,uo,_,io,Hq,M2,_,hk,rfl,(by simp only[cf,List.append_nil];exact hA),hK,.WY aS ⟨rfl,rfl⟩,hV M2 Bq,.inl ⟨rfl,rfl,_,rfl,GW⟩⟩
 ·
  rename_i τ x t k
  split at hk
  ·rename_i τ' zy
   obtain⟨e1,WZ⟩:=dt hk
   clear hk
   subst e1
   obtain⟨υ,z,rd,hk,b,off,cs,hv,lh,gB⟩:=vm h.mem (ht x) WZ
   obtain⟨e2,O5⟩:=aY hk
   subst e2
   refine⟨_,σ,uo,uf,io,Hq,M1,bE _ cs,O5,rfl,by simpa [cf]using h,.refl w M1,.refl _ ν,V.bE gB,.inl ⟨rfl,rfl,_,rfl,?_⟩⟩
   simp only[wz,qd,hv]
   simp[asAddr,vl (hE.ty t _ zy) lh gB]
  ·cases hk
 ·
  rename_i e t k
  have hv:=ht t
  have GW:wz P tm w (.tmp t) (tm.getD t undef):=by simp[wz,qd]
  split at hk
  ·rename_i hT
   rw[hT]at hv
   obtain⟨ad,hv⟩:=VR.emp.1 hv
   have hb:dV (.slice ad 0 0)=none:=by cases ad<;>simp[dV]
   exact⟨[],σ,uo,uf,io,Hq,M1,_,hk,rfl,by rw[hv];simpa [cf,hb]using h,.refl w M1,.refl _ ν,by rw[hv];simp only[A1,ER];exact .inl ⟨trivial,ad,rfl⟩,.inl ⟨rfl,rfl,_,rfl,GW⟩⟩
  ·rename_i id hT
   rw[hT]at hv
   simp only[VR]at hv
   split at hk
   ·rename_i e' l aS
    obtain⟨e1,hk⟩:=aY hk
    cases e1
    refine⟨_,_,_,uf,io,_,M1,ν id,hk,rfl,(by simp only[cf];exact h.hand aS),.refl w M1,.WY aS (aR.jy _),h.mem.im id _ aS,.inl ⟨rfl,rfl,_,rfl,by rw[←hv.2];exact GW⟩⟩
   ·cases hk
  ·cases hk
 ·
  rename_i τ i k
  have hv:=ht i
  split at hk
  ·rename_i id hT
   rw[hT]at hv
   split at hk
   ·rename_i υ z aS
    obtain⟨e1,hk⟩:=aY hk
    subst e1
    simp only[VR]at hv
    obtain⟨e,he,jk⟩:=hv
    rw[aS]at he;cases he
    simp only[AR]at jk
    obtain⟨_,b,hb,hv⟩:=jk
    have LZ:tm.getD i undef=ν id:=by rw[hv,hb];rfl
    refine⟨_,_,uo,uf,_,_,M1,ν id,hk,rfl,(by simp only[cf];exact h.WX aS),.refl w M1,.WY aS (aR.jy _),h.mem.im id _ aS,.inr ⟨rfl,i,rfl,LZ.symm⟩⟩
   ·cases hk
  ·cases hk
 ·
  rename_i τ t k
  have hv:=ht t
  have GW:wz P tm w (.tmp t) (tm.getD t undef):=by simp[wz,qd]
  split at hk
  ·rename_i id hT
   rw[hT]at hv
   split at hk
   ·rename_i υ z aS
    obtain⟨e1,hk⟩:=aY hk
    subst e1
    simp only[VR]at hv
    obtain⟨e,he,jk⟩:=hv
    rw[aS]at he;cases he
    simp only[AR]at jk
    obtain⟨_,b,hb,hv⟩:=jk
    have LZ:tm.getD t undef=ν id:=by rw[hv,hb];rfl
    refine⟨_,_,uo,uf,_,_,M1,ν id,hk,rfl,(by simp only[cf];exact h.WX aS),.refl w M1,.WY aS (aR.jy _),h.mem.im id _ aS,.inl ⟨rfl,rfl,_,rfl,by rw[←LZ];exact GW⟩⟩
   ·cases hk
  ·cases hk
 ·cases hk
theorem xK(hE:EnvTy P E){tm:Array Value}{H0:Nat→Option aR}: ∀{ms:List AM} {rs:List (ResultVar ⊕ Nat)} {σ:St} {Hq:Nat→Option aR} {M1:Nat→Prop} {uo uf:e9} {io:List (Nat×Ty)} {hs:List Nat} {K:HP ms→Option α},
  gO c w M ν H0 σ.H Hq M1 uo uf io hs→(∀i,VR w M1 σ.H ν (σ.T i) (tm.getD i undef))→Bj E ms rs σ K=some r→
  ∃y us ps H2 CD CE zl Lk M2,K y=some r∧gO c w M ν H0 H2 Lk M2 CD CE zl (hs++aZ ms us ps)∧c4 w M1 w M2∧RR w M2 ms y us ps∧CJ P tm w rs us ps
 |[],[],σ,Hq,M1,uo,uf,io,hs,K,h,ht,hk=>⟨(),[],[],σ.H,uo,uf,io,Hq,M1,hk,by simpa [aZ]using h,.refl w M1,⟨rfl,rfl⟩,⟨rfl,rfl⟩⟩
 |[m],[q],σ,Hq,M1,uo,uf,io,hs,K,h,ht,hk0=>by
  obtain⟨y,σ',CD,CE,zl,Lk,M2,u,hk,hT,hA,hK,hG,hy,hu⟩:=vA hE h ht (hk0:z5 E m q σ _=some r)
  clear hk0
  rcases hu with⟨h1,h2,rv,rfl,hv⟩|⟨h1,i,rfl,hv⟩
  ·refine⟨y,[u],[],_,_,_,_,_,M2,hk,by simpa [aZ,h1]using hA,hK,?_,?_⟩
   ·simp only[RR];exact .inr ⟨u,[],h1,h2,rfl,hy,by simp⟩
   ·simp only[CJ];exact⟨u,[],rfl,hv,by simp⟩
  ·refine⟨y,[],[u],_,_,_,_,_,M2,hk,by simpa [aZ,h1]using hA,hK,?_,?_⟩
   ·simp only[RR];exact .inl ⟨u,[],h1,rfl,hy,by simp⟩
   ·simp only[CJ];exact⟨u,[],rfl,hv,by simp⟩
 |m::n::ms,q::rs,σ,Hq,M1,uo,uf,io,hs,K,h,ht,hk0=>by
  obtain⟨y,σ',CD,CE,zl,Lk,M2,u,WZ,hT,hA,hK,hG,hy,hu⟩:=vA hE h ht (hk0:z5 E m q σ _=some r)
  obtain⟨ys,us,ps,H3,uo3,uf3,io3,Hq3,M3,hk,hA3,hK3,hys,hrs⟩:=xK (ms:=n::ms) hE hA (fun i=>by rw[hT];exact Core.PZ ht hK hG i) WZ
  have Ae:A1 w M3 m y u:=A1.qb hK3 (fun b hb=>⟨rfl,hA3.hM b (List.mem_append_left _ (List.mem_append_right _ hb))⟩) hy
  clear hk0
  rcases hu with⟨h1,h2,rv,rfl,hv⟩|⟨h1,i,rfl,hv⟩
  ·refine⟨(y,ys),u::us,ps,H3,uo3,uf3,io3,Hq3,M3,hk,?_,hK.trans hK3,?_,?_⟩
   ·have:aZ (m::n::ms) (u::us) ps=cf m u++aZ (n::ms) us ps:=by rw[aZ];simp[h1]
    rw[this,←List.append_assoc];exact hA3
   ·rw[RR];exact .inr ⟨u,us,h1,h2,rfl,Ae,hys⟩
   ·simp only[CJ];exact⟨u,us,rfl,hv,hrs⟩
  ·refine⟨(y,ys),us,u::ps,H3,uo3,uf3,io3,Hq3,M3,hk,?_,hK.trans hK3,?_,?_⟩
   ·have:aZ (m::n::ms) us (u::ps)=cf m u++aZ (n::ms) us ps:=by rw[aZ];simp[h1]
    rw[this,←List.append_assoc];exact hA3
   ·rw[RR];exact .inl ⟨u,ps,h1,rfl,Ae,hys⟩
   ·simp only[CJ];exact⟨u,ps,rfl,hv,hrs⟩
 |[],_::_,_,_,_,_,_,_,_,_,_,_,hk=>by simp[Bj]at hk
 |[_],[],_,_,_,_,_,_,_,_,_,_,hk=>by simp[Bj]at hk
 |[_],_::_::_,_,_,_,_,_,_,_,_,_,_,hk=>by simp[Bj]at hk
 |_::_::_,[],_,_,_,_,_,_,_,_,_,_,hk=>by simp[Bj]at hk
end VM
end
section
namespace VM
open Go
variable{P:Program}{E:Env}{o:Oper}{a:Act}{w:World}{M:Nat→Prop}{ν:Nat→Value}{σ:St}{c:Ctx}{α:Type}{r:α}{next:Act→World→Prop}{Q:Exit→Act→World→Prop}
theorem Aj{tm:Array Value}: ∀{rv:List ResultVar} {is:List (ResultVar ⊕ Nat)} {us ps:List Value},CJ P tm w (rv.map .inl++is) us ps→
  ∃O8 us2,us=O8++us2∧O8.length=rv.length∧(∀i (h:i<rv.length) (h':i<O8.length),wz P tm w rv[i] O8[i])∧CJ P tm w is us2 ps
 |[],is,us,ps,h=>⟨[],us,rfl,rfl,fun i h=>by simp at h,h⟩
 |rv::rvs,is,us,ps,h=>by
  simp only[List.map_cons,List.cons_append,CJ]at h
  obtain⟨u,By,rfl,h1,h2⟩:=h
  obtain⟨O8,us2,rfl,hl,h3,h4⟩:=Aj h2
  refine⟨u::O8,us2,rfl,by simp[hl],fun i hi j2=> ?_,h4⟩
  cases i with
  |zero=>exact h1
  |succ i=>exact h3 i (by simpa using hi) (by simpa using j2)
theorem sj{tm:Array Value}: ∀{ms:List AM} {vs:List Value} {i:Nat} {us ps:List Value},vs.length=ms.length→(∀j v m,vs[j]? =some v→ms[j]? =some m→m.fk=true→tm.getD (i+j) undef=v)→CJ P tm w (ux ms i) us ps→us=[]∧ps=dg ms vs
 |[],vs,i,us,ps,_,_,h=>by simp only[ux,CJ]at h;simpa [dg]using h
 |m::ms,[],_,_,_,hl,_,_=>by simp at hl
 |m::ms,v::vs,i,us,ps,hl,Gj,h=>by
  have DA: ∀j u m,vs[j]? =some u→ms[j]? =some m→m.fk=true→tm.getD (i+1+j) undef=u:=fun j u m hj hm qS=>by
   have:=Gj (j+1) u m (by simpa using hj) (by simpa using hm) qS
   rwa [show i+(j+1)=i+1+j from by omega]at this
  have CF:vs.length=ms.length:=by simpa using hl
  cases m with
  |io τ=>
   simp only[ux,CJ]at h
   obtain⟨p,zE,rfl,hp,h⟩:=h
   obtain⟨h1,h2⟩:=sj CF DA h
   refine⟨h1,?_⟩
   have:=Gj 0 v (.io τ) rfl rfl rfl
   simp only[Nat.add_zero]at this
   simp[dg,AM.fk,h2,hp,this]
  |v τ=>
   obtain⟨h1,h2⟩:=sj CF DA (show CJ P tm w (ux ms (i+1)) us ps from h)
   exact⟨h1,by simp[dg,AM.fk,h2]⟩
  |own τ=>
   obtain⟨h1,h2⟩:=sj CF DA (show CJ P tm w (ux ms (i+1)) us ps from h)
   exact⟨h1,by simp[dg,AM.fk,h2]⟩
  |fn f τ=>
   obtain⟨h1,h2⟩:=sj CF DA (show CJ P tm w (ux ms (i+1)) us ps from h)
   exact⟨h1,by simp[dg,AM.fk,h2]⟩
  |eV τ=>
   obtain⟨h1,h2⟩:=sj CF DA (show CJ P tm w (ux ms (i+1)) us ps from h)
   exact⟨h1,by simp[dg,AM.fk,h2]⟩
  |ptr τ=>
   obtain⟨h1,h2⟩:=sj CF DA (show CJ P tm w (ux ms (i+1)) us ps from h)
   exact⟨h1,by simp[dg,AM.fk,h2]⟩
theorem DB{fn:Func}{tm:Array Value}{us:List Value}(hl:us.length=fn.results.toList.length)(h: ∀i (h:i<fn.results.toList.length) (h':i<us.length),wz P tm w fn.results.toList[i] us[i]):
  (results fn tm).run P w= .ok (qa us) w:=by
 have key: ∀(rs:List ResultVar) (us:List Value),us.length=rs.length→(∀i (h:i<rs.length) (h':i<us.length),wz P tm w rs[i] us[i])→(rs.mapM (qd tm)).run P w= .ok us w:=by
  intro rs
  induction rs with
  |nil=>intro us hl _;cases us with
   |nil=>simp
   |cons _ _=>simp at hl
  |cons r rs ih=>intro us hl h;cases us with
   |nil=>simp at hl
   |cons u us=>
    have h0:(qd tm r).run P w= .ok u w:=h 0 (by simp) (by simp)
    have h1:=ih us (by simpa using hl) (fun i hi j2=>h (i+1) (by simpa using hi) (by simpa using j2))
    simp[List.mapM_cons,h0,h1]
 have h2:=key fn.results.toList us hl h
 have h3:results fn tm=(do let vs ←fn.results.mapM (qd tm);pure (if h:vs.size=1 then vs[0]else .tuple vs)):=by
  unfold results
  congr 1
 rw[h3,Array.mapM_eq_mapM_toList]
 simp only[Sem.run_bind,Sem.run_map,h2]
 unfold qa
 by_cases h3:us.length=1
 ·simp[h3]
 ·simp[h3]
theorem Ak(hE:nk P E){f:FuncId}{fn:Func}(hf:P.funcs[f]? =some fn)(hnt:E.nt=fn.ntmps){args res:List AM}(qS: ∀i m,args[i]? =some m→m.fk=true→i∈E.io)(acd: ∀i∈E.io,i<args.length)(hlen:args.length≤fn.ntmps)
  {M0:Nat→Prop} {vs:List Value} {x:HP args} {y:HP res} (mX: ∀b,M0 b→b<w.heap.size) (hA:fB w (fun b=>M0 b∨b∈cv args vs) args x vs) (td:(cv args vs).Nodup) (qf: ∀b∈cv args vs,¬M0 b)
  (h:CY E fn args res x=some y):
  Calls P f vs.toArray w fun e w'=> ∃v,e= .returned v∧ ∃us M',v=qa us∧RR w' M' res y us (dg args vs)∧Left w M0 (cv args vs) w' M'∧(aZ res us (dg args vs)).Nodup∧ ∀b∈aZ res us (dg args vs),¬M0 b:=by
 unfold CY at h
 split at h
 ·cases h
 rename_i cd hb
 simp only at h
 have hvl: ∀{ms:List AM} {x:HP ms} {vs:List Value} {M:Nat→Prop},fB w M ms x vs→vs.length=ms.length:=by
  intro ms
  induction ms with
  |nil=>intro x vs M h;simp only[fB]at h;subst h;rfl
  |cons m ms ih=>intro x vs M h;simp only[fB]at h;obtain⟨v,CH,rfl,_,h⟩:=h;simp[ih h]
 have Px:=hvl hA
 let tm:Array Value:=vs.toArray++Array.replicate (fn.ntmps-vs.toArray.size) undef
 have Gj: ∀j v,vs[j]? =some v→tm.getD j undef=v:=by
  intro j v hj
  have dF:j<vs.length:=(List.getElem?_eq_some_iff.1 hj).1
  rw[Array.getD_eq_getD_getElem?,Array.getElem?_append_left (by simpa using dF),List.getElem?_toArray,hj];rfl
 have oy:tm.size=fn.ntmps:=by simp[tm];omega
 have hhb: ∀{ms:List AM} {x:HP ms} {vs:List Value} {M:Nat→Prop},fB w M ms x vs→ ∀b∈cv ms vs,b<w.heap.size:=by
  intro ms
  induction ms with
  |nil=>intro x vs M h b hb;simp[cv]at hb
  |cons m ms ih=>
   intro x vs M h b hb
   simp only[fB]at h
   obtain⟨v,CH,rfl,h1,h⟩:=h
   simp only[cv,List.mem_append]at hb
   rcases hb with hb|hb
   ·cases m with
    |v _=>simp[cf]at hb
    |fn _ _=>simp[cf]at hb
    |eV _=>simp[cf]at hb
    |own e=>
     simp only[cf,Option.mem_toList,A1,ER]at hb h1
     rcases h1 with⟨_,a,hv⟩|⟨b',cs,t,cap,hv,hg,_⟩
     ·rw[hv]at hb;cases a<;>simp[dV]at hb
     ·rw[hv]at hb
      simp only[dV]at hb
      split at hb
      ·cases hb
      ·simp only[Option.some.injEq]at hb;subst hb;exact lt_of_block hg
    |io τ=>
     simp only[cf,Option.mem_toList,A1,ER]at hb h1
     obtain⟨b',cs,t,hv,hg,_⟩:=h1
     rw[hv]at hb
     simp only[dV,Option.some.injEq]at hb;subst hb;exact lt_of_block hg
    |ptr τ=>
     simp only[cf,Option.mem_toList,A1,ER]at hb h1
     obtain⟨b',cs,t,hv,hg,_⟩:=h1
     rw[hv]at hb
     simp only[dV,Option.some.injEq]at hb;subst hb;exact lt_of_block hg
   ·exact ih h b hb
 let cx:Ctx:={B:=w.heap.size,w0:=w,M0:=M0,may:=fun b=>b∈cv args vs,arg:=fun i=>tm.getD i undef}
 have WO:Mem cx (fun _=>none) w (fun b=>M0 b∨b∈cv args vs) (fun _=>undef):=
  ⟨fun i e hi=>(by cases hi),fun i j e e' b _ hi=>(by cases hi),fun i e b hi=>(by cases hi),fun i e l b hi=>(by cases hi),fun i τ x p j hi=>(by cases hi),fun b hb=> .inl hb,fun b hb=>hb.elim (mX b) (hhb hA b),fun _ _ _=>rfl,Nat.le_refl _,⟨mX,qf⟩,rfl,rfl,rfl⟩
 have Lj:Core cx ⟨fun _=> .any,fun _=>none⟩ tm w (fun b=>M0 b∨b∈cv args vs) (fun _=>undef):=⟨WO,fun i=>by simp[VR]⟩
 obtain⟨ν',hc⟩:=vz (i:=0) (used:=[]) Lj hA (fun j v hj=>by rw[Nat.zero_add];exact Gj j v hj) (fun _ _=>rfl) (fun j e b hj=>by cases hj) (by simpa using td) (fun b hb=>hb) (fun b hb=>qf b hb)
 have hI:Inv cx E (entry args x 0 ⟨fun _=> .any,fun _=>none⟩) {tmps:=tm,defers:=[]} w:=⟨⟨_,_,hc⟩,by rw[hnt,oy],rfl,fun i _=>rfl⟩
 refine calls_of_wp hf hb ?_
 have ace: ∀(σ':St) (a':Act) (w':World),Bj E res (fn.results.toList.map .inl++ux args 0) σ' some=some y→Inv cx E σ' a' w'→
   a'.defers=[]∧ ∃v,(results fn a'.tmps).run P w'= .ok v w'∧ ∃v',Ending.returned v= .returned v'∧ ∃us M',v'=qa us∧RR w' M' res y us (dg args vs)∧Left w M0 (cv args vs) w' M'∧(aZ res us (dg args vs)).Nodup∧ ∀b∈aZ res us (dg args vs),¬M0 b:=by
  rintro σ' a' w' hk ⟨⟨M1,ν1,Df⟩,Iu,hd1,ry⟩
  obtain⟨y',us,ps,H2,uo,uf,io,Hq,M2,hy,Mm,hK,Lm,hRs⟩:=xK (P:=P) hE.toEnvTy (gO.start Df.mem) Df.tmp hk
  cases hy
  obtain⟨O8,us2,rfl,hl,hv,ahu⟩:=Aj hRs
  obtain⟨rfl,Ge⟩:=sj (vs:=vs) Px (fun j v m hj hm BA=>by
   rw[Nat.zero_add]
   rw[ry j (qS j m hm BA)]
   exact Gj j v hj) ahu
  rw[List.append_nil]at*
  subst Ge
  simp only[List.nil_append]at Mm
  have jq: ∀b∈aZ res O8 (dg args vs),b<w.heap.size→b∈cv args vs:=fun b hb dF=>(Mm.GN b hb).elim (fun h'=>absurd dF (Nat.not_lt.2 h')) (fun h=>h)
  have Ae:c4 w' M2 w' (fun b=>M2 b∧(b<w.heap.size→M0 b∨b∈cv args vs)):=⟨Nat.le_refl _,fun _ _ _=>rfl,fun _ _ h=>h.1⟩
  refine⟨hd1,qa O8,DB hl hv,_,rfl,O8,fun b=>M2 b∧(b<w.heap.size→M0 b∨b∈cv args vs),rfl,RR.qb Ae (fun b hb=>⟨rfl,Lm.me b hb,fun dF=> .inr (jq b hb dF)⟩) Lm,⟨fun b hb=>⟨Mm.mem.sub b hb,fun _=> .inl hb⟩,fun b hb=>Mm.mem.xk b hb.1,fun b dF hb=>hb.2 dF,fun b dF hb=>Mm.mem.frame b dF hb,Mm.mem.size,Mm.mem.os,Mm.mem.tape,Mm.mem.output⟩,Mm.nd,fun b hb h0=> ?_⟩
  rcases Mm.GN b hb with h'|h'
  ·exact absurd (mX b h0) (Nat.not_lt.2 h')
  ·exact qf b h' h0
 refine J0 (c:=cx) hE cd _ _ w _ _ _ _ hI h (fun σ' a' w' hk rK=> ?_) (fun i σ' a' w' hk=>by cases hk) (fun σ' a' w' hk rK=> ?_)
 ·exact ace σ' a' w' hk rK
 ·exact ace σ' a' w' hk rK
theorem Mn(hE:nk P E){f:FuncId}{fn:Func}(hf:P.funcs[f]? =some fn)(th:(fn.name== "runtime.NumGoroutine")=false)(hnt:E.nt=fn.ntmps)(S:gL)
  (qS: ∀i m,S.args[i]? =some m→m.fk=true→i∈E.io) (acd: ∀i∈E.io,i<S.args.length) (hlen:S.args.length≤fn.ntmps) (hq:S.quiet=true→S.res.all AM.flat=true) (ahv:kd S.args=kd S.res)
  (cr: ∀x,CY E fn S.args S.res x=S.run x):eE P f S:=by
 refine⟨hq,ahv,fun M0 w vs x y mX hA td qf hy=> ?_⟩
 have hb:fn.body.isNone=false:=by
  have:=cr x
  rw[hy]at this
  unfold CY at this
  split at this
  ·cases this
  ·rename_i cd hcd;rw[hcd];rfl
 exact nQ hf th hb (Ak hE hf hnt qS acd hlen mX hA td qf (by rw[cr,hy]))
end VM
end
section
namespace VM
open Go
variable{P:Program}
def ti:Ty→List Value→Option (List Value)
 | .int k,v::r=>match v with
  | .int k' n=>if k'=k∧n=0 then some r else none
  |_=>none
 | .bool,v::r=>match v with
  | .bool false=>some r
  |_=>none
 | .str,v::r=>match v with
  | .string s=>if s.data.size=0 then some r else none
  |_=>none
 | .slice _,v::r=>match v with
  | .slice none n m=>if n=0∧m=0 then some r else none
  |_=>none
 | .unit,r=>some r
 | .pair a b,r=>match ti a r with
  |some r=>ti b r
  |none=>none
 | .arr n e,r=>Nat.rec (motive:=fun _=>List Value→Option (List Value)) (fun r=>some r) (fun _ ih r=>match ti e r with
  |some r=>ih r
  |none=>none) n r
 |_,[]=>none
theorem tj: ∀{τ:Ty} {l r:List Value},ti τ l=some r→l=τ.bW++r
 | .int k,[],_,h| .bool,[],_,h| .str,[],_,h| .slice _,[],_,h=>by simp[ti]at h
 | .int k,v::l,r,h=>by
  simp only[ti]at h
  split at h
  ·split at h
   ·rename_i hc;obtain⟨rfl,rfl⟩:=hc;cases h;rfl
   ·cases h
  ·cases h
 | .bool,v::l,r,h=>by
  simp only[ti]at h
  split at h
  ·cases h;rfl
  ·cases h
 | .str,v::l,r,h=>by
  simp only[ti]at h
  split at h
  ·rename_i s
   split at h
   ·rename_i hs
    cases h
    have:s=ByteArray.empty:=by
     obtain⟨d⟩:=s
     have:d= #[]:=Array.eq_empty_of_size_eq_zero hs
     subst this;rfl
    subst this;rfl
   ·cases h
  ·cases h
 | .slice _,v::l,r,h=>by
  simp only[ti]at h
  split at h
  ·split at h
   ·rename_i hc;obtain⟨rfl,rfl⟩:=hc;cases h;rfl
   ·cases h
  ·cases h
 | .unit,l,r,h=>by simp only[ti]at h;cases h;rfl
 | .pair a b,l,r,h=>by
  simp only[ti]at h
  split at h
  ·rename_i r1 h1
   rw[tj h1,tj h];simp[Ty.bW]
  ·cases h
 | .arr n e,l,r,h=>by
  simp only[ti]at h
  simp only[Ty.bW]
  induction n generalizing l with
  |zero=>cases h;rfl
  |succ n ih=>
   simp only at h
   split at h
   ·rename_i r1 h1
    rw[tj h1,ih _ h];simp[List.replicate_succ]
   ·cases h
def tk(P:Program)(τ:Ty)(t:TypeId):Bool:=
 match P.info? t with
 |none=>false
 |some i=>Nat.beq i.size τ.size&&Nat.ble i.bytes 2048&&(match i.zero with
  |none=>false
  |some z=>match τ.isAgg,z with
   |true,.agg cs=>(match ti τ cs.toList with|some []=>true|_=>false)
   |false,z=>(match ti τ [z]with|some []=>true|_=>false)
   |_,_=>false)
theorem mh{τ:Ty}{t:TypeId}(h:tk P τ t=true):Bk P τ t:=by
 unfold tk at h
 split at h
 ·cases h
 ·rename_i i hi
  simp only[Bool.and_eq_true,Nat.ble_eq]at h
  obtain⟨⟨h1,h2⟩,h3⟩:=h
  refine⟨i,hi,Nat.eq_of_beq_eq_true h1,?_,h2⟩
  split at h3
  ·cases h3
  ·rename_i z hz
   rw[hz]
   split at h3
   ·rename_i _ cs ha
    split at h3
    ·rename_i he
     have:=tj he
     unfold bE
     rw[if_pos ha,←List.append_nil τ.bW,←this]
    ·cases h3
   ·rename_i ha
    split at h3
    ·rename_i he
     have:=tj he
     unfold bE
     rw[if_neg (by rw[ha];exact Bool.false_ne_true),←List.append_nil τ.bW,←this];rfl
    ·cases h3
   ·cases h3
def oj(P:Program):Ty→TypeId ⊕ (Array Field×Nat×Nat)→Bool
 | .int k,.inl t=>tk P (.int k) t&&(match P.underlying t with|some (.int k')=>decide (k'=k)|_=>false)
 | .bool,.inl t=>tk P .bool t&&(match P.underlying t with|some .bool=>true|_=>false)
 | .str,.inl t=>tk P .str t&&(match P.underlying t with|some .string=>true|_=>false)
 | .slice e,.inl t=>tk P (.slice e) t&&(match P.underlying t with|some (.slice e')=>oj P e (.inl e')|_=>false)
 | .arr n e,.inl t=>tk P (.arr n e) t&&(match P.underlying t with|some (.array n' e')=>Nat.beq n' n&&oj P e (.inl e')|_=>false)
 | .unit,.inl t=>tk P .unit t&&(match P.underlying t with|some (.struct fs)=>Nat.beq fs.size 0|_=>false)
 | .unit,.inr q=>Nat.beq q.1.size q.2.1
 | .pair a b,.inl t=>tk P (.pair a b) t&&(match P.underlying t with
  |some (.struct fs)=>(match fs[0]? with
   |some f=>Nat.beq f.offset 0&&(oj P a (.inl f.type)&&oj P b (.inr (fs,1,a.size)))
   |none=>false)
  |_=>false)
 | .pair a b,.inr q=>(match q.1[q.2.1]? with
  |some f=>Nat.beq f.offset q.2.2&&(oj P a (.inl f.type)&&oj P b (.inr (q.1,q.2.1+1,q.2.2+a.size)))
  |none=>false)
 |_,.inr _=>false
theorem dG: ∀{τ:Ty} {x:TypeId ⊕ (Array Field×Nat×Nat)},oj P τ x=true→dq P τ x
 | .int k,.inl t,h=>by
  simp only[oj,Bool.and_eq_true]at h
  refine⟨mh h.1,?_⟩
  have h:=h.2
  split at h
  ·rename_i k' hu;rw[hu,of_decide_eq_true h]
  ·cases h
 | .bool,.inl t,h=>by
  simp only[oj,Bool.and_eq_true]at h
  refine⟨mh h.1,?_⟩
  have h:=h.2
  split at h
  ·rename_i hu;exact hu
  ·cases h
 | .str,.inl t,h=>by
  simp only[oj,Bool.and_eq_true]at h
  refine⟨mh h.1,?_⟩
  have h:=h.2
  split at h
  ·rename_i hu;exact hu
  ·cases h
 | .slice e,.inl t,h=>by
  simp only[oj,Bool.and_eq_true]at h
  refine⟨mh h.1,?_⟩
  have h:=h.2
  split at h
  ·rename_i e' hu;exact⟨e',hu,dG h⟩
  ·cases h
 | .arr n e,.inl t,h=>by
  simp only[oj,Bool.and_eq_true]at h
  refine⟨mh h.1,?_⟩
  have h:=h.2
  split at h
  ·rename_i n' e' hu
   simp only[Bool.and_eq_true]at h
   obtain⟨h0,h⟩:=h
   rw[Nat.eq_of_beq_eq_true h0]at hu
   exact⟨e',hu,dG h⟩
  ·cases h
 | .unit,.inl t,h=>by
  simp only[oj,Bool.and_eq_true]at h
  refine⟨mh h.1,?_⟩
  have h:=h.2
  split at h
  ·rename_i fs hu;exact⟨fs,hu,Nat.eq_of_beq_eq_true h⟩
  ·cases h
 | .unit,.inr (fs,n,o),h=>by simp only[oj]at h;exact Nat.eq_of_beq_eq_true h
 | .pair a b,.inl t,h=>by
  simp only[oj,Bool.and_eq_true]at h
  refine⟨mh h.1,?_⟩
  have h:=h.2
  split at h
  ·rename_i fs hu
   split at h
   ·rename_i f hf
    simp only[Bool.and_eq_true]at h
    exact⟨fs,f,hu,hf,Nat.eq_of_beq_eq_true h.1,dG h.2.1,dG h.2.2⟩
   ·cases h
  ·cases h
 | .pair a b,.inr (fs,n,o),h=>by
  simp only[oj]at h
  split at h
  ·rename_i f hf
   simp only[Bool.and_eq_true]at h
   exact⟨f,hf,Nat.eq_of_beq_eq_true h.1,dG h.2.1,dG h.2.2⟩
  ·cases h
 | .int _,.inr _,h| .bool,.inr _,h| .str,.inr _,h| .slice _,.inr _,h| .arr _ _,.inr _,h=>by simp[oj]at h
def pF(P:Program):Ty→TypeId ⊕ (Array Field×Nat)→Bool
 | .int _,.inl _| .bool,.inl _| .str,.inl _=>true
 | .unit,.inl t=> !P.stoodInHeld t
 | .unit,.inr _=>true
 | .pair a b,.inl t=> !P.stoodInHeld t&&(match P.underlying t with
  |some (.struct fs)=>(match fs[0]? with
   |some f=>f.name != "_" &&(pF P a (.inl f.type)&&pF P b (.inr (fs,1)))
   |none=>false)
  |_=>false)
 | .pair a b,.inr q=>(match q.1[q.2]? with
  |some f=>f.name != "_" &&(pF P a (.inl f.type)&&pF P b (.inr (q.1,q.2+1)))
  |none=>false)
 |_,_=>false
def Ty.deep:Ty→Nat
 | .pair a b=>a.deep+b.deep+1
 |_=>1
theorem V.ofC{w:World}{M:Nat→Prop}{τ:Ty}{cs:List Value}{x:τ.den}(h:Rd w M τ cs x):V w M τ (VM.bE τ cs) x:=V.bE h
mutual
theorem DC{w:World}{M:Nat→Prop}: ∀{τ:Ty} {t:TypeId} {u v:Value} {x y:τ.den} {d:Nat},gh P τ t→pF P τ (.inl t)=true→V w M τ u x→V w M τ v y→τ.deep≤d→(Op.equalIn d t u v).run P w= .ok (pz τ x y) w
 | .int k,t,u,v,x,y,d+1,hl,_,hx,hy,_=>by
  simp only[V,Ty.isAgg,Bool.false_eq_true,if_false,Rd,List.cons.injEq,and_true]at hx hy
  subst hx;subst hy
  rw[run_equalIn_int w d t k k _ _ hl.int];simp only[pz,eL];congr 1
 | .bool,t,u,v,x,y,d+1,hl,_,hx,hy,_=>by
  simp only[V,Ty.isAgg,Bool.false_eq_true,if_false,Rd,List.cons.injEq,and_true]at hx hy
  subst hx;subst hy
  rw[run_equalIn_bool w d t _ _ hl.bool];simp only[pz]
 | .str,t,u,v,x,y,d+1,hl,_,hx,hy,_=>by
  simp only[V,Ty.isAgg,Bool.false_eq_true,if_false,Rd,List.cons.injEq,and_true]at hx hy
  subst hx;subst hy
  rw[run_equalIn_string w d t _ _ hl.str];simp only[pz,xi];congr 1;rw[Bool.eq_iff_iff];simp
 | .slice _,_,_,_,_,_,_,_,h,_,_,_| .arr _ _,_,_,_,_,_,_,_,h,_,_,_=>by simp[pF]at h
 | .unit,t,u,v,x,y,d+1,hl,he,hx,hy,_=>by
  simp only[V,Ty.isAgg,if_true]at hx hy
  obtain⟨cs,rfl,_⟩:=hx
  obtain⟨cs',rfl,_⟩:=hy
  simp only[gh,dq]at hl
  obtain⟨_,fs,hu,h0⟩:=hl
  have hfs:P.fieldsOf t=fs:=by simp[Program.fieldsOf,hu]
  rw[run_equalIn_struct w d t cs cs' (by rw[hfs];exact hu) (by simpa [pF]using he),hfs]
  have:fs.toList=[]:=by rw[←List.length_eq_zero_iff,Array.length_toList];exact h0
  rw[this];simp[Op.eqFields,pz]
 | .pair a b,t,u,v,x,y,d+1,hl,he,hx,hy,hd=>by
  simp only[V,Ty.isAgg,if_true]at hx hy
  obtain⟨cs,rfl,hx⟩:=hx
  obtain⟨cs',rfl,hy⟩:=hy
  simp only[gh,dq]at hl
  obtain⟨_,fs,f,hu,hf,ho,sk,Gk⟩:=hl
  have hfs:P.fieldsOf t=fs:=by simp[Program.fieldsOf,hu]
  simp only[pF,hu,hf,Bool.and_eq_true]at he
  rw[run_equalIn_struct w d t cs cs' (by rw[hfs];exact hu) (by simpa using he.1),hfs]
  have h0:fs.toList=f::fs.toList.drop 1:=by
   have h1:=List.drop_eq_getElem_cons (l:=fs.toList) (i:=0) (by rw[Array.length_toList];exact(Array.getElem?_eq_some_iff.1 hf).1)
   rw[List.drop_zero]at h1
   rw[h1];congr 1
   rw[Array.getElem_toList];exact(Array.getElem?_eq_some_iff.1 hf).2
  simp only[Ty.deep]at hd
  rw[h0]
  have og:Rd w M (.pair a b) (cs.toList.drop 0) x:=by rw[List.drop_zero];exact hx
  have Mo:Rd w M (.pair a b) (cs'.toList.drop 0) y:=by rw[List.drop_zero];exact hy
  have gG:f.name≠ "_" :=by simpa using he.2.1
  simp only[Op.eqFields,gG,ne_eq,not_false_eq_true,if_true]
  exact Mp (off:=0) ho sk he.2.2.1 og Mo (by omega) (fun h1 h2=>Mq (n:=1) (fs:=fs) (off:=a.size) Gk he.2.2.2 (by rw[Nat.zero_add]at h1;exact h1) (by rw[Nat.zero_add]at h2;exact h2) (by omega))
 | .int _,_,_,_,_,_,0,_,_,_,_,hd| .bool,_,_,_,_,_,0,_,_,_,_,hd| .str,_,_,_,_,_,0,_,_,_,_,hd| .unit,_,_,_,_,_,0,_,_,_,_,hd| .pair _ _,_,_,_,_,_,0,_,_,_,_,hd=>by simp[Ty.deep]at hd
theorem Mq{w:World}{M:Nat→Prop}: ∀{b:Ty} {fs:Array Field} {n off:Nat} {cs cs':Array Value} {x y:b.den} {d:Nat},dq P b (.inr (fs,n,off))→pF P b (.inr (fs,n))=true→Rd w M b (cs.toList.drop off) x→Rd w M b (cs'.toList.drop off) y→b.deep≤d→
  (Op.eqFields d cs cs' (fs.toList.drop n)).run P w= .ok (pz b x y) w
 | .unit,fs,n,off,cs,cs',x,y,d,hl,_,_,_,_=>by
  simp only[dq]at hl
  rw[List.drop_of_length_le (by rw[Array.length_toList];omega)]
  simp[Op.eqFields,pz]
 | .pair a b,fs,n,off,cs,cs',x,y,d,hl,he,hx,hy,hd=>by
  simp only[dq]at hl
  obtain⟨f,hf,ho,sk,Gk⟩:=hl
  simp only[pF,hf,Bool.and_eq_true]at he
  have h0:fs.toList.drop n=f::fs.toList.drop (n+1):=by
   rw[List.drop_eq_getElem_cons (l:=fs.toList) (i:=n) (by rw[Array.length_toList];exact(Array.getElem?_eq_some_iff.1 hf).1)]
   congr 1
   rw[Array.getElem_toList];exact(Array.getElem?_eq_some_iff.1 hf).2
  simp only[Ty.deep]at hd
  rw[h0]
  have gG:f.name≠ "_" :=by simpa using he.1
  simp only[Op.eqFields,gG,ne_eq,not_false_eq_true,if_true]
  exact Mp ho sk he.2.1 hx hy (by omega) (fun h1 h2=>Mq Gk he.2.2 h1 h2 (by omega))
 | .int _,_,_,_,_,_,_,_,_,hl,_,_,_,_| .bool,_,_,_,_,_,_,_,_,hl,_,_,_,_| .str,_,_,_,_,_,_,_,_,hl,_,_,_,_| .slice _,_,_,_,_,_,_,_,_,hl,_,_,_,_| .arr _ _,_,_,_,_,_,_,_,_,hl,_,_,_,_=>by simp[dq]at hl
theorem Mp{w:World}{M:Nat→Prop}{a b:Ty}{f:Field}{fs:List Field}{off:Nat}{cs cs':Array Value}{x y:(Ty.pair a b).den}{d:Nat}(ho:f.offset=off)(sk:gh P a f.type)(he:pF P a (.inl f.type)=true)
  (hx:Rd w M (.pair a b) (cs.toList.drop off) x) (hy:Rd w M (.pair a b) (cs'.toList.drop off) y) (hd:a.deep≤d)
  (hr:Rd w M b (cs.toList.drop (off+a.size)) x.2→Rd w M b (cs'.toList.drop (off+a.size)) y.2→(Op.eqFields d cs cs' fs).run P w= .ok (pz b x.2 y.2) w):
  (do let u ←part f.type cs f.offset;let v ←part f.type cs' f.offset;let r ←Op.equalIn d f.type u v;if(!r)=true then pure false else Op.eqFields d cs cs' fs:Sem Bool).run P w= .ok (pz (.pair a b) x y) w:=by
 simp only[Rd]at hx hy
 obtain⟨c1,c2,hc,h1,h2⟩:=hx
 obtain⟨c1',c2',J1,kO,rM⟩:=hy
 subst ho
 have p1:(cs.toList.drop f.offset).take a.size=c1:=by rw[hc,List.take_left' h1.length]
 have p2:(cs'.toList.drop f.offset).take a.size=c1':=by rw[J1,List.take_left' kO.length]
 have q1:cs.toList.drop (f.offset+a.size)=c2:=by rw[←List.drop_drop,hc,List.drop_left' h1.length]
 have q2:cs'.toList.drop (f.offset+a.size)=c2':=by rw[←List.drop_drop,J1,List.drop_left' kO.length]
 have r1:=s0 sk (w:=w) (M:=M) (cs:=cs) (off:=f.offset) (x:=x.1) (by rw[p1];exact h1)
 have r2:=s0 sk (w:=w) (M:=M) (cs:=cs') (off:=f.offset) (x:=y.1) (by rw[p2];exact kO)
 have r3:=DC (d:=d) sk he (V.ofC (by rw[p1];exact h1):V w M a (VM.bE a ((cs.toList.drop f.offset).take a.size)) x.1) (V.ofC (by rw[p2];exact kO):V w M a (VM.bE a ((cs'.toList.drop f.offset).take a.size)) y.1) hd
 simp only[Sem.run_bind,r1,r2,r3,Result.andThen_ok,pz]
 cases pz a x.1 y.1
 ·simp
 ·simpa using hr (by rw[q1];exact h2) (by rw[q2];exact rM)
end
def P0(P:Program)(τ:Ty)(t:TypeId):Bool:= !(τ.comparable&&τ.isAgg)||(pF P τ (.inl t)&&(Nat.ble τ.deep 10000&& !P.eqGuardType P.depth t))
theorem P1{τ:Ty}{t:TypeId}(hl:gh P τ t)(h:P0 P τ t=true)(hc:τ.comparable=true)(ha:τ.isAgg=true):abr P t τ:=by
 unfold P0 at h
 rw[hc,ha]at h
 simp only[Bool.and_self,Bool.not_true,Bool.false_or,Bool.and_eq_true,Nat.ble_eq,Bool.not_eq_true']at h
 obtain⟨h1,h2,h3⟩:=h
 intro w M u v x y b xo yo hx hy
 have he:=DC (d:=10000) hl h1 hx hy h2
 unfold V at hx hy
 rw[if_pos ha]at hx hy
 obtain⟨cs,rfl,_⟩:=hx
 obtain⟨cs',rfl,_⟩:=hy
 refine⟨?_,?_,?_⟩
 ·cases b<;>simp[eqGuard,h3]
 ·simp only[binOp];simp[Op.equal,Op.maxDepth,he]
 ·simp only[binOp];simp[Op.equal,Op.maxDepth,he]
def acg(P:Program)(l:List (Nat×Ty)):Bool:=l.all fun q=>oj P q.2 (.inl q.1)&&P0 P q.2 q.1
end VM
end
section
namespace VM
open Go Go.WideShapes Go.RowKit Go.ChangeShapes
def WF:(τ:Ty)→τ.den→Prop
 | .int k,x=>(Lit.int k x).wf=true
 | .bool,_=>True
 | .str,s=>ByteArray.size s≤maxLen
 | .slice e,l=>List.length l≤maxLen∧ ∀i (h:i<List.length l),WF e (List.get l ⟨i,h⟩)
 | .unit,_=>True
 | .pair a b,x=>WF a x.1∧WF b x.2
 | .arr _ e,l=> ∀i (h:i<List.length l),WF e (List.get l ⟨i,h⟩)
def Ty.la:Ty→Bool
 | .slice e=>Nat.blt 0 e.size&&e.la
 | .pair a b=>a.la&&b.la
 | .arr _ e=>e.la
 |_=>true
theorem Mr{α β:Type}{f:α→Option β}: ∀{l:List α} {r:List β},l.mapM f=some r→ ∀x∈l,∃y,f x=some y
 |[],_,_,x,hx=>by cases hx
 |a::l,r,h,x,hx=>by
  rw[List.mapM_cons]at h
  simp only[bind,Option.bind_eq_some_iff,pure,Option.some.injEq]at h
  obtain⟨y,hy,r',hr,_⟩:=h
  rcases List.mem_cons.1 hx with rfl|hx
  ·exact⟨y,hy⟩
  ·exact Mr hr x hx
theorem DD{α β:Type}{f:α→Option β}: ∀{l:List α} {r:List β},l.mapM f=some r→r.length=l.length∧ ∀i (h:i<l.length) (h':i<r.length),f l[i]=some r[i]
 |[],r,h=>by simp at h;subst h;exact⟨rfl,fun i h=>by cases h⟩
 |a::l,r,h=>by
  rw[List.mapM_cons]at h
  simp only[bind,Option.bind_eq_some_iff,pure,Option.some.injEq]at h
  obtain⟨y,hy,r',hr,rfl⟩:=h
  obtain⟨h1,h2⟩:=DD hr
  refine⟨by simp[h1],fun i hi j2=> ?_⟩
  cases i with
  |zero=>exact hy
  |succ i=>exact h2 i (by simpa using hi) (by simpa using j2)
theorem qg{α:Type}{p:Nat→α→Prop}: ∀n,(∀i,i<n→ ∃x,p i x)→ ∃l:List α,l.length=n∧ ∀i (h:i<l.length),p i (l.get ⟨i,h⟩)
 |0,_=>⟨[],rfl,fun i h=>by cases h⟩
 |n+1,h=>by
  obtain⟨l,hl,hp⟩:=qg n (fun i hi=>h i (by omega))
  obtain⟨x,hx⟩:=h n (by omega)
  refine⟨l++[x],by simp[hl],fun i hi=> ?_⟩
  simp only[List.get_eq_getElem]
  by_cases dF:i<l.length
  ·rw[List.getElem_append_left dF];exact hp i dF
  ·have gC:i=n:=by simp at hi;omega
   subst gC
   rw[List.getElem_append_right (by omega)]
   simp[hl,hx]
section
variable{H:Type}{enc:TypeId×Value→H}{P:Program}{w:World}
theorem gh.cells{τ:Ty}{t:TypeId}(h:gh P τ t):P.cellsOf t=τ.size:=by
 obtain⟨i,hi,hs,_⟩:=h.base
 simp[Program.cellsOf,hi,hs]
theorem Al{a:Addr}{n:Nat}{cs:List Value}(h:w.cells? 0 a n=some cs):cs.length=n∧ ∀j v,cs[j]? =some v→w.cell? (a.add j)=some v:=by
 unfold World.cells? at h
 rw[if_pos (Nat.zero_le _)]at h
 obtain⟨h1,h2⟩:=DD h
 rw[List.length_range]at h1
 refine⟨h1,fun j v hj=> ?_⟩
 obtain⟨dF,rfl⟩:=List.getElem?_eq_some_iff.1 hj
 have:=h2 j (by rw[List.length_range];omega) dF
 rw[List.getElem_range]at this
 exact this
def Ms(H:Type)(enc:TypeId×Value→H)(P:Program)(w:World)(τ:Ty):TypeId ⊕ (Array Field×Nat×Nat)→Prop
 | .inl t=> ∀(fuel:Nat) (cs:List Value) (d:DataW H×List MemPlace),DataW.trod enc P w 0 (fun _=>true) true fuel t cs=some d→ ∃x:τ.den,Rd w (fun _=>False) τ cs x∧WF τ x
 | .inr q=> ∀(cs:List Value),cs.length=q.2.2+τ.size→(∀f∈q.1.toList,∃fuel d,DataW.trod enc P w 0 (fun _=>true) true fuel f.type ((cs.drop f.offset).take (P.cellsOf f.type))=some d)→ ∃x:τ.den,Rd w (fun _=>False) τ (cs.drop q.2.2) x∧WF τ x
theorem Am{a b:Ty}{f:Field}{fs:Array Field}{n off:Nat}(hf:fs[n]? =some f)(ho:f.offset=off)(sk:gh P a f.type)(Xf:Ms H enc P w a (.inl f.type))(Ly:Ms H enc P w b (.inr (fs,n+1,off+a.size)))
  {cs:List Value} (hc:cs.length=off+(a.size+b.size)) (kb: ∀f∈fs.toList,∃fuel d,DataW.trod enc P w 0 (fun _=>true) true fuel f.type ((cs.drop f.offset).take (P.cellsOf f.type))=some d):
  ∃x:(Ty.pair a b).den,Rd w (fun _=>False) (.pair a b) (cs.drop off) x∧WF (.pair a b) x:=by
 subst ho
 obtain⟨fuel,d,hd⟩:=kb f (by rw[Array.mem_toList_iff];exact Array.mem_of_getElem? hf)
 rw[sk.cells]at hd
 obtain⟨x,hx,hwx⟩:=Xf fuel _ d hd
 obtain⟨y,hy,hwy⟩:=Ly cs (by simp only;omega) kb
 refine⟨(x,y),?_,hwx,hwy⟩
 simp only[Rd]
 refine⟨_,_,(List.take_append_drop a.size (cs.drop f.offset)).symm,hx,?_⟩
 rw[List.drop_drop];exact hy
theorem oM: ∀{τ:Ty} {x:TypeId ⊕ (Array Field×Nat×Nat)},dq P τ x→τ.la=true→Ms H enc P w τ x
 | .int k,.inl t,hl,_=>by
  intro fuel cs d h
  simp only[dq]at hl
  obtain⟨n,rfl,_,hw⟩:=DataW.trod_int hl.2 h
  exact⟨n,rfl,hw⟩
 | .bool,.inl t,hl,_=>by
  intro fuel cs d h
  simp only[dq]at hl
  obtain⟨b,rfl,_⟩:=DataW.trod_bool hl.2 h
  exact⟨b,rfl,trivial⟩
 | .str,.inl t,hl,_=>by
  intro fuel cs d h
  simp only[dq]at hl
  obtain⟨s,rfl,_,hs⟩:=DataW.trod_string hl.2 h
  exact⟨s,rfl,hs⟩
 | .slice e,.inl t,hl,hs=>by
  intro fuel cs d h
  simp only[dq]at hl
  obtain⟨_,e',hu,hle⟩:=hl
  simp only[Ty.la,Bool.and_eq_true,Nat.blt_eq]at hs
  have ih:=oM hle hs.2
  have oy:P.cellsOf e'=e.size:=gh.cells hle
  rcases DataW.trod_slice hu h with⟨rfl,_⟩|⟨a,len,cap,elems,rest,n,_,rfl,_,_,Pr,JI,hel,kb,_⟩
  ·refine⟨[],?_,Nat.zero_le _,fun i h=>by cases h⟩
   simp only[Rd]
   exact⟨none,0,rfl,Nat.le_refl _,fun i h=>by cases h⟩
  ·rw[oy]at kb
   have get: ∀i,i<len→ ∃cs' y,w.cells? 0 (a.add (i*e.size)) e.size=some cs'∧DataW.trod enc P w 0 (fun _=>true) true n e' cs'=some y:=fun i hi=>by
    have:=kb i hi
    rw[List.getElem?_eq_getElem (by omega)]at this
    obtain⟨cs',h1,h2⟩:=Option.bind_eq_some_iff.1 this
    exact⟨cs',_,h1,h2⟩
   have key: ∀i,i<len→ ∃x:e.den,(a.spot=none∧a.block<w.heap.size∧ ∃cs',At w a.block (a.off+i*e.size) cs'∧Rd w (fun _=>False) e cs' x)∧WF e x:=by
    intro i hi
    obtain⟨cs',y,Bp,ht⟩:=get i hi
    obtain⟨h1,h2⟩:=Al Bp
    obtain⟨x,hx,hw⟩:=ih n cs' y ht
    have hsp:a.spot=none∧a.block<w.heap.size:=by
     obtain⟨nf,y0,ahx,_⟩:=get 0 (by omega)
     obtain⟨h10,h20⟩:=Al ahx
     have:=h20 0 nf[0] (List.getElem?_eq_getElem (by omega))
     simp only[Nat.zero_mul,Addr.add,if_true,World.cell?]at this
     split at this
     ·rename_i hb
      refine⟨?_,(Array.getElem?_eq_some_iff.1 hb).1⟩
      split at this
      ·cases this
      ·rename_i hn;simpa using hn
     ·cases this
    refine⟨x,⟨hsp.1,hsp.2,cs',fun j v hj=> ?_,hx⟩,hw⟩
    have:=h2 j v hj
    have he:(a.add (i*e.size)).add j=⟨a.block,a.off+i*e.size+j,none⟩:=by
     obtain⟨ab,ao,asp⟩:=a
     simp only at hsp
     obtain⟨rfl,_⟩:=hsp
     simp only[Addr.add]
     split<;>split<;>simp_all<;>omega
    rw[he]at this
    exact this
   obtain⟨l,hl,hp⟩:=qg len key
   refine⟨l,?_,by rw[hl];omega,fun i h=>(hp i h).2⟩
   simp only[Rd]
   refine⟨some a,cap,by rw[hl],by rw[hl];exact Pr,fun i h=> ?_⟩
   obtain⟨h1,h2,cs',h3,h4⟩:=(hp i h).1
   refine⟨a.block,a.off,?_,h2,fun h=>h,cs',h3,h4⟩
   rw[←h1]
 | .unit,.inl t,hl,_=>by
  intro fuel cs d h
  simp only[dq]at hl
  obtain⟨⟨i,hi,oy,_⟩,fs,hu,h0⟩:=hl
  obtain⟨xs,n,_,_,hc,_⟩:=DataW.trod_struct hu h
  refine⟨(),?_,trivial⟩
  simp only[Rd]
  rw[←List.length_eq_zero_iff,hc]
  simp[Program.cellsOf,hi,oy,Ty.size]
 | .unit,.inr q,hl,_=>by
  intro cs hc _
  refine⟨(),?_,trivial⟩
  simp only[Rd]
  rw[List.drop_of_length_le (by rw[hc];simp[Ty.size])]
 | .pair a b,.inl t,hl,hs=>by
  intro fuel cs d h
  simp only[dq]at hl
  obtain⟨⟨i,hi,oy,_⟩,fs,f,hu,hf,ho,sk,Gk⟩:=hl
  simp only[Ty.la,Bool.and_eq_true]at hs
  have Xf:=oM sk hs.1
  have Ly:=oM Gk hs.2
  obtain⟨xs,n,_,_,hc,hxl,hxs⟩:=DataW.trod_struct hu h
  have:=Am (b:=b) (off:=0) hf ho sk Xf (by simp only[Nat.zero_add];exact Ly) (cs:=cs) (by rw[hc];simp[Program.cellsOf,hi,oy,Ty.size]) (fun f hf=>by
   obtain⟨j,hj,rfl⟩:=List.mem_iff_getElem.1 hf
   rw[Array.length_toList]at hj
   have:=hxs j fs[j] (by simp[hj])
   rw[List.getElem?_eq_getElem (by omega)]at this
   exact⟨n,_,by rw[Array.getElem_toList];exact this⟩)
  rw[List.drop_zero]at this
  exact this
 | .pair a b,.inr (fs,n,off),hl,hs=>by
  intro cs hc kb
  simp only[dq]at hl
  obtain⟨f,hf,ho,sk,Gk⟩:=hl
  simp only[Ty.la,Bool.and_eq_true]at hs
  exact Am hf ho sk (oM sk hs.1) (oM Gk hs.2) (by simpa [Ty.size]using hc) kb
 | .arr n e,.inl t,hl,hs=>by
  intro fuel cs d h
  simp only[dq]at hl
  obtain⟨⟨i,hi,oy,_⟩,e',hu,hle⟩:=hl
  simp only[Ty.la]at hs
  have ih:=oM hle hs
  have hse:P.cellsOf e'=e.size:=gh.cells hle
  obtain⟨xs,m,_,_,hc,hxl,hxs⟩:=DataW.trod_array hu h
  have hlen:cs.length=n*e.size:=by rw[hc];simp[Program.cellsOf,hi,oy,Ty.size]
  have key: ∀i,i<n→ ∃x:e.den,Rd w (fun _=>False) e ((cs.drop (i*e.size)).take e.size) x∧WF e x:=fun i hi=>by
   have:=hxs i hi
   rw[List.getElem?_eq_getElem (by omega),hse]at this
   exact ih m _ _ this
  obtain⟨l,JK,hp⟩:=qg n key
  refine⟨l,?_,fun i h=>(hp i h).2⟩
  simp only[Rd]
  refine⟨JK,(List.range n).map fun i=>(cs.drop (i*e.size)).take e.size,by simp,?_,fun i h h'=> ?_⟩
  ·clear hxs h key hp JK hu
   have: ∀m,m≤n→cs.take (m*e.size)=((List.range m).map fun i=>(cs.drop (i*e.size)).take e.size).flatten:=by
    intro m
    induction m with
    |zero=>simp
    |succ m ihm=>
     intro hm
     rw[List.range_succ,List.map_append,List.flatten_append,←ihm (by omega)]
     simp only[List.map_cons,List.map_nil,List.flatten_cons,List.flatten_nil,List.append_nil]
     rw[Nat.add_mul,Nat.one_mul,List.take_add]
   have h2:=this n (Nat.le_refl _)
   rw[List.take_of_length_le (by omega)]at h2
   exact h2
  ·have:=(hp i h).1
   simpa using this
 | .int _,.inr _,h,_| .bool,.inr _,h,_| .str,.inr _,h,_| .slice _,.inr _,h,_| .arr _ _,.inr _,h,_=>by simp[dq]at h
theorem Xg{τ:Ty}{t:TypeId}{r:Reach}{b0:Nat}{v:Value}{d:DataW H}{ps:List MemPlace}(hl:gh P τ t)(hs:τ.la=true)(hv:Value.okWide P w r b0 t v)(h:DataW.Trod enc P w 0 (fun _=>true) true t v d ps):
  ∃x:τ.den,V w (fun _=>False) τ v x∧WF τ x:=by
 obtain⟨fuel,h⟩:=h
 obtain⟨x,hx,hw⟩:=oM (H:=H) (enc:=enc) (w:=w) hl hs fuel _ _ h
 refine⟨x,?_,hw⟩
 unfold V
 cases τ with
 |int k=>
  obtain⟨n,rfl⟩:=okWide_int hl.int hv
  exact hx
 |bool=>
  obtain⟨n,rfl⟩:=okWide_bool hl.bool hv
  exact hx
 |str=>
  obtain⟨n,rfl⟩:=okWide_string hl.str hv
  exact hx
 |slice e=>
  obtain⟨e',hu,_⟩:=hl.slice
  obtain⟨a,len,cap,rfl⟩:=okWide_slice hu hv
  exact hx
 |unit=>
  simp only[gh,dq]at hl
  obtain⟨_,fs,hu,_⟩:=hl
  simp only[Value.okWide,hu]at hv
  obtain⟨cs,rfl,_⟩:=hv
  exact⟨cs,rfl,hx⟩
 |pair a b=>
  simp only[gh,dq]at hl
  obtain⟨_,fs,f,hu,_⟩:=hl
  simp only[Value.okWide,hu]at hv
  obtain⟨cs,rfl,_⟩:=hv
  exact⟨cs,rfl,hx⟩
 |arr n e=>
  obtain⟨e',hu,_⟩:=hl.arr
  simp only[Value.okWide,hu]at hv
  obtain⟨cs,rfl,_⟩:=hv
  exact⟨cs,rfl,hx⟩
def WFs:(ms:List Ty)→HP (ms.map .v)→Prop
 |[],_=>True
 |_::ms,x=>WF _ (pS x)∧WFs ms (uq x)
def hpC:{m:AM}→{ms:List AM}→m.den→HP ms→HP (m::ms)
 |_,[],x,_=>x
 |_,_::_,x,y=>(x,y)
theorem IF{m:AM}: ∀{ms:List AM} (x:m.den) (y:HP ms),pS (hpC x y)=x
 |[],_,_=>rfl
 |_::_,_,_=>rfl
theorem IG{m:AM}: ∀{ms:List AM} (x:m.den) (y:HP ms),uq (hpC x y)=y
 |[],_,()=>rfl
 |_::_,_,_=>rfl
theorem An(laid:laidOutB P=true){r:Reach}{b0:Nat}: ∀{τs:List Ty} {ts:List TypeId} {vs:List Value} {ds:List (DataW H)} {ps:List MemPlace},DataW.TrodAll enc P w 0 (fun _=>true) true ts vs ds ps→
  τs.length=ts.length→(∀(j:Nat) τ t,τs[j]? =some τ→ts[j]? =some t→(gh P τ t∧τ.la=true∧P.readableRec t=true∧t<P.types.size))→
  (∀(j:Nat) t v,ts[j]? =some t→vs[j]? =some v→Value.okWide P w r b0 t v)→
  (∃x:HP (τs.map .v),fB w (fun _=>False) (τs.map .v) x vs∧WFs τs x)∧ ∀w',Below w.heap.size w w'→ ∃zE,DataW.TrodAll enc P w' 0 (fun b=>decide (b<w.heap.size)) true ts vs ds zE
 |[],[],vs,ds,ps,h,_,_,_=>by
  obtain⟨rfl,rfl,rfl⟩:=trodAll_nil h
  exact⟨⟨(),rfl,trivial⟩,fun w' _=>⟨[],rfl⟩⟩
 |τ::τs,t::ts,vs,ds,ps,h,hl,zy,hv=>by
  obtain⟨v,CH,d,ds',p,q,rfl,rfl,rfl,h1,h2⟩:=trodAll_cons h
  obtain⟨s6,Xh,OY,dF⟩:=zy 0 τ t rfl rfl
  obtain⟨x,hx,hwx⟩:=Xg s6 Xh (hv 0 t v rfl rfl) h1
  obtain⟨⟨y,hy,hwy⟩,Mt⟩:=An laid h2 (by simpa using hl) (fun j τ' t' h h'=>zy (j+1) τ' t' (by simpa using h) (by simpa using h')) (fun j t' v' h h'=>hv (j+1) t' v' (by simpa using h) (by simpa using h'))
  refine⟨⟨hpC (m:= .v τ) x y,?_,?_⟩,fun w' hb=> ?_⟩
  ·show fB w _ (.v τ::τs.map .v) _ _
   simp only[fB]
   exact⟨v,CH,rfl,by rw[IF];exact hx,by rw[IG];exact hy⟩
  ·simp only[WFs]
   exact⟨by rw[IF];exact hwx,by rw[IG];exact hwy⟩
  ·obtain⟨zE,h'⟩:=Mt w' hb
   have sb: ∀z∈p,z.block<w.heap.size:=by
    obtain⟨m,hm⟩:=h1
    exact DataW.trod_lt m _ _ _ hm
   exact⟨p++zE,trodAll_cons_mk (Below.trod laid OY dF h1 hb sb) h'⟩
 |[],_::_,_,_,_,_,hl,_,_|_::_,[],_,_,_,_,hl,_,_=>by simp at hl
end
end VM
end
section
namespace VM
open Go
variable{α:Type}
noncomputable def tp(L:Nat→Option (List (Nat×CM)))(κ:Nat→St→Option α)(i:Option Nat)(f:St→Option α):St→Option α:=
 match i with
 |none=>f
 |some i=>match L i with
  |none=>f
  |some _=>κ i
noncomputable def Mu(E:Env)(κJ κL:Nat→St→Option α)(c:Code):St→(St→Option α)→(Nat→St→Option α)→(St→Option α)→Option α:=
 Code.rec (motive:=fun _=>St→(St→Option α)→(Nat→St→Option α)→(St→Option α)→Option α)
  (fun σ k _ _=>k σ)
  (fun _ ops draw σ k _ _=>wU E ops draw σ k)
  (fun _ b A B σ k kx kr=>A σ (fun σ'=>p3 ((bF b).bind E.rp) σ' (tp E.rp κJ (bF b) fun pN=>B pN k kx kr)) kx kr)
  (fun c _ _ A B σ k kx kr=>z2 E c σ (fun σ'=>A σ' k kx kr) (fun σ'=>B σ' k kx kr))
  (fun id _ A σ k kx kr=>A σ k (fun i σ'=>cond (Nat.beq i id) (k σ') (kx i σ')) kr)
  (fun b _ σ _ kx kr=>p3 ((bF b).bind E.pW) σ (tp E.pW κL (bF b) (vj ((bF b).bind E.pW) (fun σ' kn=>wV E b σ' kn kx kr) E.N)))
  (fun _ _ _ _ _ _ _ _ _ _=>none)
  (fun id σ _ kx _=>kx id σ)
  (fun _ A σ k kx kr=>A σ k kx kr)
  (fun _ σ k _ _=>k σ)
  (fun _ _ _ _ _=>none)
  (fun σ _ _ kr=>kr σ)
  (fun _ _ _ _ _=>none)
  c
noncomputable def xL(E:Env)(c:Code):(St→Option α)→(Nat→St→Option α)→(St→Option α)→List (Bool×Nat×(St→Option α)):=
 Code.rec (motive:=fun _=>(St→Option α)→(Nat→St→Option α)→(St→Option α)→List (Bool×Nat×(St→Option α)))
  (fun _ _ _=>[])
  (fun _ _ _ _ _ _=>[])
  (fun _ b A B k kx kr=>A (fun σ'=>p3 ((bF b).bind E.rp) σ' fun pN=>wV E b pN k kx kr) kx kr++(((bF b).toList.map fun i=>(false,i,fun pN=>wV E b pN k kx kr))++B k kx kr))
  (fun _ _ _ A B k kx kr=>A k kx kr++B k kx kr)
  (fun id _ A k kx kr=>A k (fun i σ'=>cond (Nat.beq i id) (k σ') (kx i σ')) kr)
  (fun b _ _ kx kr=>(bF b).toList.map fun i=>(true,i,vj ((bF b).bind E.pW) (fun σ' kn=>wV E b σ' kn kx kr) E.N))
  (fun _ _ _ _ _ _ _ _ _=>[])
  (fun _ _ _ _=>[])
  (fun _ A k kx kr=>A k kx kr)
  (fun _ _ _ _=>[])
  (fun _ _ _ _=>[])
  (fun _ _ _=>[])
  (fun _ _ _ _=>[])
  c
noncomputable def qh(E:Env)(κJ κL:Nat→St→Option α):List (Bool×Nat×(St→Option α))→List ((St→Option α)×(St→Option α))
 |[]=>[]
 |q::r=>match q.1 with
  |false=>match E.rp q.2.1 with
   |some _=>(κJ q.2.1,q.2.2)::qh E κJ κL r
   |none=>qh E κJ κL r
  |true=>match E.pW q.2.1 with
   |some _=>(κL q.2.1,q.2.2)::qh E κJ κL r
   |none=>qh E κJ κL r
def zK(E:Env)(κJ κL:Nat→St→Option α)(l:List (Bool×Nat×(St→Option α))):Prop:= ∀p∈qh E κJ κL l,p.1=p.2
theorem Xi{E:Env}{κJ κL:Nat→St→Option α}{l:List (Bool×Nat×(St→Option α))}(g:List (St→Option α))(h:qh E κJ κL l=g.map fun f=>(f,f)):zK E κJ κL l:=by
 intro p hp
 rw[h]at hp
 obtain⟨f,_,rfl⟩:=List.mem_map.1 hp
 rfl
theorem vB{E:Env}{κJ κL:Nat→St→Option α}: ∀(l m:List (Bool×Nat×(St→Option α))),qh E κJ κL (l++m)=qh E κJ κL l++qh E κJ κL m
 |[],m=>rfl
 |(b,i,f)::l,m=>by
  have ih:=vB (E:=E) (κJ:=κJ) (κL:=κL) l m
  cases b<;>simp only[List.cons_append,qh]<;>split<;>simp[ih]
theorem zK.app{E:Env}{κJ κL:Nat→St→Option α}{l m:List (Bool×Nat×(St→Option α))}(h:zK E κJ κL (l++m)):zK E κJ κL l∧zK E κJ κL m:=by
 unfold zK at*
 rw[vB]at h
 exact⟨fun p hp=>h p (List.mem_append_left _ hp),fun p hp=>h p (List.mem_append_right _ hp)⟩
theorem VA{E:Env}{κJ κL:Nat→St→Option α}{i:Option Nat}{f:St→Option α}(h:zK E κJ κL (i.toList.map fun i=>(false,i,f))):tp E.rp κJ i f=f:=by
 cases i with
 |none=>rfl
 |some i=>
  simp only[Option.toList,List.map,zK,qh]at h
  unfold tp
  cases hL:E.rp i with
  |none=>simp[hL]
  |some L=>rw[hL]at h;simp only[hL];exact h (κJ i,f) (List.mem_singleton.2 rfl)
theorem acj{E:Env}{κJ κL:Nat→St→Option α}{i:Option Nat}{f:St→Option α}(h:zK E κJ κL (i.toList.map fun i=>(true,i,f))):tp E.pW κL i f=f:=by
 cases i with
 |none=>rfl
 |some i=>
  simp only[Option.toList,List.map,zK,qh]at h
  unfold tp
  cases hL:E.pW i with
  |none=>simp[hL]
  |some L=>rw[hL]at h;simp only[hL];exact h (κL i,f) (List.mem_singleton.2 rfl)
theorem Mv{E:Env}{κJ κL:Nat→St→Option α}(c:Code): ∀(k:St→Option α) (kx:Nat→St→Option α) (kr:St→Option α) (σ:St),zK E κJ κL (xL E c k kx kr)→Mu E κJ κL c σ k kx kr=wV E c σ k kx kr:=by
 induction c with
 |skip=>intros;rfl
 |region=>intros;rfl
 |seq a b Xf Ly=>
  intro k kx kr σ h
  obtain⟨h1,h2⟩:=zK.app (h:zK E κJ κL (xL E a _ kx kr++(((bF b).toList.map fun i=>(false,i,fun pN=>wV E b pN k kx kr))++xL E b k kx kr)))
  obtain⟨h2,h3⟩:=zK.app h2
  show Mu E κJ κL a σ (fun σ'=>p3 ((bF b).bind E.rp) σ' (tp E.rp κJ (bF b) fun pN=>Mu E κJ κL b pN k kx kr)) kx kr=wV E a σ (fun σ'=>p3 ((bF b).bind E.rp) σ' fun pN=>wV E b pN k kx kr) kx kr
  have hb:(fun pN=>Mu E κJ κL b pN k kx kr)=fun pN=>wV E b pN k kx kr:=funext fun pN=>Ly k kx kr pN h3
  rw[hb,VA h2]
  exact Xf _ _ _ _ h1
 |cond x a b Xf Ly=>
  intro k kx kr σ h
  obtain⟨h1,h2⟩:=zK.app (h:zK E κJ κL (xL E a k kx kr++xL E b k kx kr))
  show z2 E x σ (fun σ'=>Mu E κJ κL a σ' k kx kr) (fun σ'=>Mu E κJ κL b σ' k kx kr)=z2 E x σ (fun σ'=>wV E a σ' k kx kr) (fun σ'=>wV E b σ' k kx kr)
  rw[show(fun σ'=>Mu E κJ κL a σ' k kx kr)=fun σ'=>wV E a σ' k kx kr from funext fun σ'=>Xf k kx kr σ' h1,show(fun σ'=>Mu E κJ κL b σ' k kx kr)=fun σ'=>wV E b σ' k kx kr from funext fun σ'=>Ly k kx kr σ' h2]
 |block id x ih=>intro k kx kr σ h;exact ih _ _ _ σ h
 |loop b _=>
  intro k kx kr σ h
  show p3 ((bF b).bind E.pW) σ (tp E.pW κL (bF b) (vj ((bF b).bind E.pW) (fun σ' kn=>wV E b σ' kn kx kr) E.N))=p3 ((bF b).bind E.pW) σ (vj ((bF b).bind E.pW) (fun σ' kn=>wV E b σ' kn kx kr) E.N)
  rw[acj (h:zK E κJ κL ((bF b).toList.map fun i=>(true,i,_)))]
 |rangeFunc=>intros;rfl
 |exit=>intros;rfl
 |scope x ih=>intro k kx kr σ h;exact ih _ _ _ σ h
 |label=>intros;rfl
 |goto=>intros;rfl
 |ret=>intros;rfl
 |refuse=>intros;rfl
noncomputable def jr(E:Env)(κJ κL:Nat→St→Option α):List Nat→Code→List (St→Option α)→St→(St→Option α)→(Nat→St→Option α)→(St→Option α)→Option α
 |[],c,_,σ,k,kx,kr=>Mu E κJ κL c σ k kx kr
 |n::p,c,ks,σ,k,kx,kr=>match c with
  | .seq a b=>match n with
   |0=>jr E κJ κL p a ks σ (fun σ'=>p3 ((bF b).bind E.rp) σ' (tp E.rp κJ (bF b) fun pN=>Mu E κJ κL b pN k kx kr)) kx kr
   |_=>jr E κJ κL p b ks σ k kx kr
  | .cond _ a b=>match n with
   |0=>jr E κJ κL p a ks σ k kx kr
   |_=>jr E κJ κL p b ks σ k kx kr
  | .block id c=>jr E κJ κL p c ks σ k (fun i σ'=>cond (Nat.beq i id) (k σ') (kx i σ')) kr
  | .loop b=>match ks with
   |κ::ks=>jr E κJ κL p b ks σ κ kx kr
   |[]=>none
  | .scope c=>jr E κJ κL p c ks σ k kx kr
  |_=>none
noncomputable def ei(E:Env):List Nat→Code→List (St→Option α)→(St→Option α)→(Nat→St→Option α)→(St→Option α)→List (Bool×Nat×(St→Option α))
 |[],c,_,k,kx,kr=>xL E c k kx kr
 |n::p,c,ks,k,kx,kr=>match c with
  | .seq a b=>match n with
   |0=>((bF b).toList.map fun i=>(false,i,fun pN=>wV E b pN k kx kr))++(xL E b k kx kr++ei E p a ks (fun σ'=>p3 ((bF b).bind E.rp) σ' fun pN=>wV E b pN k kx kr) kx kr)
   |_=>ei E p b ks k kx kr
  | .cond _ a b=>match n with
   |0=>ei E p a ks k kx kr
   |_=>ei E p b ks k kx kr
  | .block id c=>ei E p c ks k (fun i σ'=>cond (Nat.beq i id) (k σ') (kx i σ')) kr
  | .loop b=>match ks with
   |κ::ks=>ei E p b ks κ kx kr
   |[]=>[]
  | .scope c=>ei E p c ks k kx kr
  |_=>[]
theorem iT{E:Env}{κJ κL:Nat→St→Option α}: ∀(p:List Nat) (c:Code) (ks:List (St→Option α)) (k:St→Option α) (kx:Nat→St→Option α) (kr:St→Option α) (σ:St),zK E κJ κL (ei E p c ks k kx kr)→
  jr E κJ κL p c ks σ k kx kr=pO E p c ks σ k kx kr
 |[],c,ks,k,kx,kr,σ,h=>Mv c k kx kr σ h
 |n::p,c,ks,k,kx,kr,σ,h=>by
  cases c with
  |seq a b=>
   cases n with
   |zero=>
    simp only[jr,pO,ei]at h ⊢
    obtain⟨h1,h2⟩:=zK.app h
    obtain⟨h2,h3⟩:=zK.app h2
    rw[show(fun pN=>Mu E κJ κL b pN k kx kr)=fun pN=>wV E b pN k kx kr from funext fun pN=>Mv b k kx kr pN h2,VA h1]
    exact iT p a ks _ kx kr σ h3
   |succ n=>simp only[jr,pO,ei]at h ⊢;exact iT p b ks k kx kr σ h
  |cond x a b=>
   cases n with
   |zero=>simp only[jr,pO,ei]at h ⊢;exact iT p a ks k kx kr σ h
   |succ n=>simp only[jr,pO,ei]at h ⊢;exact iT p b ks k kx kr σ h
  |block id x=>simp only[jr,pO,ei]at h ⊢;exact iT p x ks k _ kr σ h
  |loop b=>
   cases ks with
   |nil=>simp only[jr,pO]
   |cons κ ks=>simp only[jr,pO,ei]at h ⊢;exact iT p b ks κ kx kr σ h
  |scope x=>simp only[jr,pO,ei]at h ⊢;exact iT p x ks k kx kr σ h
  |_=>simp only[jr,pO]
noncomputable def xM(fn:Func):Code:=fn.body.getD .skip
noncomputable def DE(E:Env)(fn:Func)(args res:List AM):St→Option (HP res):=fun σ=>Bj E res (fn.results.toList.map .inl++ux args 0) σ some
noncomputable def nox:Nat→St→Option α:=fun _ _=>none
noncomputable def an0:St→Option α:=fun _=>none
noncomputable def Xj(E:Env)(fn:Func)(args res:List AM)(p:List Nat)(ks:List (St→Option (HP res)))(σ:St):Option (HP res):=
 pO E p (xM fn) ks σ (DE E fn args res) nox (DE E fn args res)
noncomputable def atQ(E:Env)(fn:Func)(args res:List AM)(κJ κL:Nat→St→Option (HP res))(p:List Nat)(ks:List (St→Option (HP res)))(σ:St):Option (HP res):=
 jr E κJ κL p (xM fn) ks σ (DE E fn args res) nox (DE E fn args res)
noncomputable def P2(E:Env)(fn:Func)(args res:List AM)(p:List Nat)(ks:List (St→Option (HP res))):List (Bool×Nat×(St→Option (HP res))):=
 ei E p (xM fn) ks (DE E fn args res) nox (DE E fn args res)
theorem ahA{E:Env}{fn:Func}{args res:List AM}{κJ κL:Nat→St→Option (HP res)}{p:List Nat}{ks:List (St→Option (HP res))}(g:List (St→Option (HP res)))(h:qh E κJ κL (P2 E fn args res p ks)=g.map fun f=>(f,f))(σ:St):
 Xj E fn args res p ks σ=atQ E fn args res κJ κL p ks σ:=(iT p _ ks _ _ _ σ (Xi g h)).symm
theorem Xk{E:Env}{fn:Func}{args res:List AM}(hb:fn.body.isSome=true)(x:HP args):CY E fn args res x=Xj E fn args res [] [] (entry args x 0 S0):=by
 unfold CY Xj xM
 cases h:fn.body with
 |none=>rw[h]at hb;cases hb
 |some c=>rfl
noncomputable def lpF(E:Env)(fn:Func)(args res:List AM)(c:List (Nat×CM))(p:List Nat)(ks:List (St→Option (HP res)))(n:Nat):St→Option (HP res):=
 vj (some c) (fun σ kn=>Xj E fn args res p (ks++[kn]) σ) n
theorem Mw(E:Env)(fn:Func)(args res:List AM)(c:List (Nat×CM))(p:List Nat)(ks:List (St→Option (HP res)))(n:Nat)(σ:St):
 lpF E fn args res c p ks (n+1) σ=Xj E fn args res p (ks++[fun σ'=>p3 (some c) σ' (lpF E fn args res c p ks n)]) σ:=rfl
def My{β:Type}(κ:Nat→β):List (Nat×β)→Prop
 |[]=>True
 |q::r=>κ q.1=q.2∧My κ r
def J2{β:Type}:List (β×β)→Prop
 |[]=>True
 |q::r=>q.1=q.2∧J2 r
theorem J2.mem{β:Type}: ∀{l:List (β×β)},J2 l→ ∀p∈l,p.1=p.2
 |q::r,h,p,hp=>by
  rcases List.mem_cons.1 hp with rfl|hp
  ·exact h.1
  ·exact J2.mem h.2 p hp
theorem ack{β:Type}(d:β): ∀(l:List (Nat×β)),(l.map (·.1)).Nodup→ ∃κ:Nat→β,My κ l
 |[],_=>⟨fun _=>d,trivial⟩
 |q::r,h=>by
  rw[List.map_cons,List.nodup_cons]at h
  obtain⟨κ,hκ⟩:=ack d r h.2
  refine⟨fun i=>if i=q.1 then q.2 else κ i,by simp,?_⟩
  have key: ∀(r':List (Nat×β)),(∀p∈r',p∈r)→My κ r'→My (fun i=>if i=q.1 then q.2 else κ i) r':=by
   intro r'
   induction r' with
   |nil=>intros;trivial
   |cons p r' ih=>
    intro hm ha
    refine⟨?_,ih (fun p' Ip=>hm p' (List.mem_cons_of_mem _ Ip)) ha.2⟩
    have gG:p.1≠q.1:=fun e=>h.1 (e▸List.mem_map_of_mem (hm p (List.mem_cons_self ..)))
    show(if p.1=q.1 then q.2 else κ p.1)=p.2
    rw[if_neg gG]
    exact ha.1
  exact key r (fun _ h=>h) hκ
theorem alV{β:Type}(d:β)(l:List (Nat×β)){ks:List Nat}(h:l.map (·.1)=ks)(hd:ks.Nodup): ∃κ:Nat→β,My κ l:=ack d l (h▸hd)
theorem at_eq(E:Env)(fn:Func)(args res:List AM){κJ κL:Nat→St→Option (HP res)}{p:List Nat}{ks:List (St→Option (HP res))}{l:List ((St→Option (HP res))×(St→Option (HP res)))}(h:qh E κJ κL (P2 E fn args res p ks)=l)(hl:J2 l)(σ:St):
 Xj E fn args res p ks σ=atQ E fn args res κJ κL p ks σ:=(iT p _ ks _ _ _ σ (by unfold zK;rw[show qh E κJ κL (ei E p (xM fn) ks (DE E fn args res) nox (DE E fn args res))=l from h];exact hl.mem)).symm
end VM
end
section
namespace VM
open Go Go.RowKit
variable{P:Program}
def DF(i:Nat):List (Nat×Ty)→Option Ty
 |[]=>none
 |q::r=>cond (Nat.beq i q.1) (some q.2) (DF i r)
theorem Ao{i:Nat}{τ:Ty}: ∀{l:List (Nat×Ty)},DF i l=some τ→(i,τ)∈l
 |q::r,h=>by
  unfold DF at h
  cases hb:Nat.beq i q.1<;>rw[hb]at h
  ·exact List.mem_cons_of_mem _ (Ao h)
  ·cases h;rw[Nat.eq_of_beq_eq_true hb];exact List.mem_cons_self ..
structure xN(P:Program)(tab:List (Nat×Ty)):Prop where
 ok:acg P tab=true
 mixed:P.follows .mixedOrders=true
theorem J3{E:Env}(hE:nk P E)(ahC:E.io=[]){f:FuncId}{fn:Func}(hf:P.funcs[f]? =some fn)(τs:List Ty)
  (hc:(Nat.beq E.nt fn.ntmps&&Nat.ble τs.length E.nt)=true) {w:World} {vs:List Value} {x:HP (τs.map .v)} (hA:fB w (fun _=>False) (τs.map .v) x vs)
  (h:CY E fn (τs.map .v) [.v .bool] x=some true):Calls P f vs.toArray w fun e w'=>e= .returned (.bool true)∧Below w.heap.size w w':=by
 rw[Bool.and_eq_true]at hc
 have hnt:=Nat.eq_of_beq_eq_true hc.1
 have hlen:=Nat.le_of_ble_eq_true hc.2
 have hh: ∀(τs:List Ty) (vs:List Value),cv (τs.map .v) vs=[]:=by
  intro τs
  induction τs with
  |nil=>intro vs;cases vs<;>rfl
  |cons τ τs ih=>intro vs;cases vs with
   |nil=>rfl
   |cons v vs=>simp[cv,cf,ih]
 have hi: ∀(τs:List Ty) (vs:List Value),dg (τs.map .v) vs=[]:=by
  intro τs
  induction τs with
  |nil=>intro vs;cases vs<;>rfl
  |cons τ τs ih=>intro vs;cases vs with
   |nil=>rfl
   |cons v vs=>simp[dg,AM.fk,ih]
 refine(Ak (M0:=fun _=>False) (vs:=vs) hE hf hnt (fun i m hm qS=> ?_) (fun i hi=>by rw[ahC]at hi;cases hi) (by rw[List.length_map];rw[←hnt];exact hlen) (fun b hb=>hb.elim) (by rw[hh];simpa using hA) (by rw[hh];exact List.nodup_nil) (fun b _ hb=>hb) h).mono ?_
 ·rw[List.getElem?_map]at hm
  obtain⟨τ,_,rfl⟩:=Option.map_eq_some_iff.1 hm
  cases qS
 ·rintro e w' ⟨v,rfl,us,M',rfl,Lm,hL,_,_⟩
  rw[hh]at hL
  rw[hi]at Lm
  simp only[RR]at Lm
  rcases Lm with⟨p,zE,h1,_⟩|⟨v,CH,_,_,rfl,hv,rfl,_⟩
  ·cases h1
  ·refine⟨?_,hL.os,hL.tape,hL.output,hL.size,fun b hb=>hL.frame b hb (by simp)⟩
   have:v= .bool true:=by
    simp only[A1,V,Ty.isAgg,Bool.false_eq_true,if_false,Rd,List.cons.injEq,and_true]at hv
    exact hv
   rw[this];rfl
def Mz(P:Program):List Ty→List TypeId→Bool
 |[],[]=>true
 |τ::τs,t::ts=>(oj P τ (.inl t)&&τ.la)&&((P.readableRec t&&decide (t<P.types.size))&&Mz P τs ts)
 |_,_=>false
theorem BF: ∀{τs:List Ty} {ts:List TypeId},Mz P τs ts=true→τs.length=ts.length∧ ∀(j:Nat) τ t,τs[j]? =some τ→ts[j]? =some t→(gh P τ t∧τ.la=true∧P.readableRec t=true∧t<P.types.size)
 |[],[],_=>⟨rfl,fun j τ t h=>by simp at h⟩
 |τ::τs,t::ts,h=>by
  simp only[Mz,Bool.and_eq_true]at h
  obtain⟨⟨h1,h2⟩,⟨h3,h4⟩,h5⟩:=h
  obtain⟨hl,ih⟩:=BF h5
  refine⟨by simp[hl],fun j τ' t' ha hb=> ?_⟩
  cases j with
  |zero=>
   simp only[List.getElem?_cons_zero,Option.some.injEq]at ha hb
   subst ha;subst hb
   exact⟨dG h1,h2,h3,of_decide_eq_true h4⟩
  |succ j=>exact ih j τ' t' (by simpa using ha) (by simpa using hb)
 |[],_::_,h|_::_,[],h=>by simp[Mz]at h
theorem MA{H:Type}{enc:TypeId×Value→H}{w:World}{fn:Func}{args:Array Value}{ds:List (DataW H)}{ps:List MemPlace}{r:Reach}{b0:Nat}(laid:laidOutB P=true)(τs:List Ty)
  (hA:DataW.TrodAll enc P w 0 (fun _=>true) true fn.params.toList args.toList ds ps) (zy:Mz P τs fn.params.toList=true)
  (hv: ∀(j:Nat) t v,fn.params[j]? =some t→args[j]? =some v→Value.okWide P w r b0 t v):
  (∃x:HP (τs.map .v),fB w (fun _=>False) (τs.map .v) x args.toList∧WFs τs x)∧ ∀w',Below w.heap.size w w'→ ∃zE,DataW.TrodAll enc P w' 0 (fun b=>decide (b<w.heap.size)) true fn.params.toList args.toList ds zE:=
 An laid hA (BF zy).1 (BF zy).2 (fun j t v h h'=>hv j t v (by rw[Array.getElem?_toList]at h;exact h) (by rw[Array.getElem?_toList]at h';exact h'))
end VM
end
