/- A part of the proof of TearShares of layer 29: a machine that reads a function of the program as an equation between values. -/
import Derived.Test.YtocmlaipoebfeaaGreatVm5
import Derived.Laws.StructEq
import Derived.OpenShut
import Derived.ChangeShapes
import Derived.ChangeMaps5
import Derived.RowKit
import Derived.ChangeOld
import Derived.Carry
import Derived.Below
import Derived.Test.YtocmlaipoebfeaaGreatVm0
set_option linter.all false
section
namespace VM
open Go
variable{P:Program}{E:Env}{o:Oper}{a:Act}{w:World}{M:Nat→Prop}{ν:Nat→Value}{σ:St}{c:Ctx}{α:Type}{r:α}{next:Act→World→Prop}{Q:Exit→Act→World→Prop}
theorem wG{L:Option (List (Nat×CM))}(hL: ∀L',L=some L'→gg L'=true){b:Code}{Q:Exit→Act→World→Prop}{step:St→(St→Option α)→Option α}
  (hs: ∀σ a w kn (Q':Exit→Act→World→Prop),Inv c E σ a w→step σ kn=some r→(∀σ' a' w',kn σ'=some r→Inv c E σ' a' w'→Q' .normal a' w')→(∀e a' w',e≠ .normal→Q e a' w'→Q' e a' w')→b.wp P Q' a w):
  ∀n σ a w,Inv c E σ a w→wm L step n σ=some r→Code.rounds P b Q n a w
 |0,σ,a,w,_,h=>by cases h
 |n+1,σ,a,w,hI,h=>by
  rw[rounds_succ]
  refine hs σ a w _ _ hI h (fun σ' a' w' h' sH=> ?_) (fun e a' w' he hq=> ?_)
  ·obtain⟨qj,JL,Zi⟩:=sV sH hL h'
   exact wG hL hs n qj a' w' Zi JL
  ·cases e<;>first|exact hq|exact absurd rfl he
theorem Lf(hE:oH P E): ∀(cd:Code) (σ:St) (a:Act) (w:World) (k:St→Option α) (kx:Nat→St→Option α) (kr:St→Option α) (Q:Exit→Act→World→Prop),Inv c E σ a w→xP E cd σ k kx kr=some r→
  (∀σ' a' w',k σ'=some r→Inv c E σ' a' w'→Q .normal a' w')→(∀i σ' a' w',kx i σ'=some r→Inv c E σ' a' w'→Q (.exit i) a' w')→(∀σ' a' w',kr σ'=some r→Inv c E σ' a' w'→Q .ret a' w')→cd.wp P Q a w:=by
 intro cd
 induction cd with
 |skip=>intro σ a w k kx kr Q hI h hk _ _;exact wp_skip (hk σ a w h hI)
 |region id ops draw=>intro σ a w k kx kr Q hI h hk _ _;exact AY hE hI h hk
 |seq x y ihx ihy=>
  intro σ a w k kx kr Q hI h hk hx hr
  refine wp_seq (ihx σ a w _ kx kr _ hI h (fun σ' a' w' h' sH=> ?_) hx hr)
  obtain⟨qj,JL,Zi⟩:=sV sH (fun L' hL=>by
   cases hf:bG y with
   |none=>rw[hf]at hL;cases hL
   |some i=>rw[hf]at hL;exact hE.Nv i L' hL) h'
  exact ihy qj a' w' k kx kr Q Zi JL hk hx hr
 |cond x t e iht ihe=>
  intro σ a w k kx kr Q hI h hk hx hr
  obtain⟨b,hb,h⟩:=Ex (E:=E) (A:=fun σ'=>xP E t σ' k kx kr) (B:=fun σ'=>xP E e σ' k kx kr) hI h
  refine wp_cond hb ?_
  cases b
  ·exact ihe σ a w k kx kr Q hI h hk hx hr
  ·exact iht σ a w k kx kr Q hI h hk hx hr
 |block id x ih=>
  intro σ a w k kx kr Q hI h hk hx hr
  refine wp_block (ih σ a w k _ kr _ hI h hk (fun i σ' a' w' h' sH=> ?_) hr)
  show if i=id then Q .normal a' w' else Q (.exit i) a' w'
  cases hb:Nat.beq i id
  ·have fL:i≠id:=fun e=>by subst e;rw[show Nat.beq i i=true from awV i]at hb;cases hb
   rw[hb]at h'
   rw[aui fL]
   exact hx i σ' a' w' h' sH
  ·rw[hb]at h'
   rw[auh (auN hb)]
   exact hk σ' a' w' h' sH
 |loop b ih=>
  intro σ a w k kx kr Q hI h hk hx hr
  have hL: ∀L',(bG b).bind E.qy=some L'→gg L'=true:=fun L' hL=>by
   cases hf:bG b with
   |none=>rw[hf]at hL;cases hL
   |some i=>rw[hf]at hL;exact hE.gg i L' hL
  obtain⟨σ',h',sH⟩:=sV hI hL h
  refine wp_loop_rounds E.N (wG hL (fun σ a w kn Q' hI h hkn hq=> ?_) E.N σ' a w sH h')
  exact ih σ a w kn kx kr Q' hI h hkn (fun i σ' a' w' h' sH=>hq _ _ _ (by simp) (hx i σ' a' w' h' sH)) (fun σ' a' w' h' sH=>hq _ _ _ (by simp) (hr σ' a' w' h' sH))
 |rangeFunc f ps x y ihx ihy=>intro σ a w k kx kr Q hI h;cases h
 |exit id=>intro σ a w k kx kr Q hI h hk hx hr;exact wp_exit (hx id σ a w h hI)
 |scope x ih=>
  intro σ a w k kx kr Q hI h hk hx hr
  exact wp_scope_straight (ih σ a w k kx kr _ hI h hk hx hr)
 |label l=>intro σ a w k kx kr Q hI h hk _ _;exact wp_label (hk σ a w h hI)
 |goto l=>intro σ a w k kx kr Q hI h;cases h
 |ret=>intro σ a w k kx kr Q hI h hk hx hr;exact wp_ret (hr σ a w h hI)
 |refuse s=>intro σ a w k kx kr Q hI h;cases h
end VM
end
section
namespace VM
open Go
variable{P:Program}{E:Env}{o:Oper}{a:Act}{w:World}{M:Nat→Prop}{ν:Nat→Value}{σ:St}{c:Ctx}{α:Type}{r:α}{next:Act→World→Prop}{Q:Exit→Act→World→Prop}
theorem Ia{m:AM}{ms:List AM}(x:HP (m::ms))(i:Nat)(σ:St):entry (m::ms) x i σ=entry ms (u9 x) (i+1) (HS m (qt x) i σ):=by
 cases ms with
 |nil=>simp[entry,qt]
 |cons n ms=>simp[entry,qt,u9]
theorem Core.wB{tm:Array Value}(h:Core c σ tm w M ν){id:Nat}{v:Value}{e:aQ}(aS:σ.H id=none)(KO:ER w M v e)
  (hd: ∀b,ed v=some b→ ∀i e',σ.H i=some e'→e'.mut→ed (ν i)≠some b) (hn: ∀b,ed v=some b→c.B≤b∨c.may b) (ho: ∀b e0 l0,e= .own e0 l0→ed v=some b→ ¬c.M0 b)
  (oD: ∀τ x p j,e= .dO τ x p j→bn σ.H id (some e) j≠none∧ ∃b,v= .pointer (some ⟨b,0,none⟩)∧w.cell? ⟨b,bC p τ,none⟩=some (cj ν id v j):=by intro _ _ _ _ h;cases h):
  Core c ⟨σ.T,bn σ.H id (some e)⟩ tm w M (cj ν id v):=by
 have hm:=Mem.wB h.mem (id:=id) (v:=v) (e:=e) (fun e' sF=>by rw[aS]at sF;cases sF) KO hd hn ho (.inl aS) oD
 refine h.tr ⟨hm,.refl w M,⟨fun i e1 hi=> ?_,fun i hi=> ?_⟩⟩
 ·have bp:i≠id:=fun e=>by rw[e,aS]at hi;cases hi
  exact⟨e1,by rw[al _ _ bp];exact hi,.refl e1⟩
 ·have bp:i≠id:=fun e=>hi (e▸aS)
  simp[cj,bp]
theorem Core.put{tm:Array Value}(h:Core c σ tm w M ν){d:Nat}{x:aY}(hx:VR w M σ.H ν x (tm.getD d undef)):Core c (σ.put d x) tm w M ν:=by
 refine⟨h.mem,fun i=> ?_⟩
 by_cases hi:i=d
 ·subst hi;rw[pb];exact hx
 ·rw[tR _ _ hi];exact h.tmp i
theorem wH{tm:Array Value}: ∀{ms:List AM} {x:HP ms} {vs:List Value} {i:Nat} {σ:St} {ν:Nat→Value} {used:List Nat},Core c σ tm w M ν→fU w M ms x vs→(∀j v,vs[j]? =some v→tm.getD (i+j) undef=v)→
  (∀j,16*i≤j→σ.H j=none)→(∀j e b,σ.H j=some e→e.mut→ed (ν j)=some b→b∈used)→(used++cD ms vs).Nodup→(∀b∈cD ms vs,c.may b)→(∀b,c.may b→ ¬c.M0 b)→
  ∃ν',Core c (entry ms x i σ) tm w M ν'
 |[],x,vs,i,σ,ν,used,h,_,_,_,_,_,_,_=>⟨ν,h⟩
 |m::ms,x,vs,i,σ,ν,used,h,hA,HC,ib,Bv,tQ,Ib,Ea=>by
  rw[Ia]
  simp only[fU]at hA
  obtain⟨v,DT,rfl,h1,h2⟩:=hA
  have hv:tm.getD i undef=v:=by simpa using HC 0 v rfl
  have EG: ∀j u,DT[j]? =some u→tm.getD (i+1+j) undef=u:=fun j u hj=>by
   have:=HC (j+1) u (by simpa using hj)
   rwa [show i+(j+1)=i+1+j from by omega]at this
  have aS:σ.H (16*i+15)=none:=ib _ (by omega)
  have Zj:cD (m::ms) (v::DT)=ct m v++cD ms DT:=rfl
  rw[Zj]at tQ Ib
  have qM: ∀b,b∈ct m v→ ∀j e',σ.H j=some e'→e'.mut→ed (ν j)≠some b:=fun b hb j e' hj gG dy=>
   lT tQ (Bv j e' b hj gG dy) (auz _ hb)
  have sG: ∀{σ':St} {ν':Nat→Value},Core c σ' tm w M ν'→(∀j,16*(i+1)≤j→σ'.H j=none)→(∀j e b,σ'.H j=some e→e.mut→ed (ν' j)=some b→b∈used++ct m v)→ ∃ν'',Core c (entry ms (u9 x) (i+1) σ') tm w M ν'':=
   fun h' xd Rp=>wH h' h2 EG xd Rp (by rw[aur];exact tQ) (fun b hb=>Ib b (auD _ hb)) Ea
  have K7: ∀(e:aQ) (v':Value),v'=v→(∀b,ed v=some b→b∈ct m v)→(∀j,16*(i+1)≤j→bn σ.H (16*i+15) (some e) j=none)∧
    (∀j e1 b,bn σ.H (16*i+15) (some e) j=some e1→e1.mut→ed (cj ν (16*i+15) v' j)=some b→b∈used++ct m v):=by
   rintro e v' rfl hb
   refine⟨fun j hj=>by rw[al _ _ (by omega)];exact ib j (by omega),fun j e1 b hj gG dy=> ?_⟩
   by_cases sY:j=16*i+15
   ·subst sY
    simp only[cj,awt]at dy
    exact auD _ (hb b dy)
   ·rw[al _ _ sY]at hj
    simp only[cj,sY,avQ]at dy
    exact auz _ (Bv j e1 b hj gG dy)
  cases m with
  |v τ=>
   refine sG (σ':=σ.put i (.val τ (qt x))) (h.put ?_) (fun j hj=>ib j (by omega)) (fun j e b hj gG dy=>auz _ (Bv j e b hj gG dy))
   simp only[VR,hv];exact h1
  |fn f τ=>
   refine sG (σ':=σ.put i (.D1 f (lq τ (qt x)))) (h.put ?_) (fun j hj=>ib j (by omega)) (fun j e b hj gG dy=>auz _ (Bv j e b hj gG dy))
   rw[hv]
   simp only[A1,VR]at h1 ⊢
   obtain⟨us,hu,Hu⟩:=h1
   exact⟨us,hu,fE.free Hu⟩
  |own e=>
   have sq: ∀b,ed v=some b→b∈ct (.own e) v:=fun b hb=>by simp[ct,hb]
   have hc:=h.wB aS (v:=v) (e:= .own e (qt x)) h1 (fun b hb=>qM b (sq b hb)) (fun b hb=> .inr (Ib b (auz _ (sq b hb)))) (fun b _ _ _ hb=>Ea b (Ib b (auz _ (sq b hb))))
   obtain⟨xd,Rp⟩:=K7 (.own e (qt x)) v rfl sq
   refine sG (σ':=(σ.put i (.ref (16*i+15))).gZ (16*i+15) (some (.own e (qt x)))) (ν':=cj ν (16*i+15) v) (hc.put (d:=i) (x:= .ref (16*i+15)) ?_) xd Rp
   simp only[VR,hv]
   exact⟨by rw[ak];simp,by simp[cj]⟩
  |io τ=>
   have sq: ∀b,ed v=some b→b∈ct (.io τ) v:=fun b hb=>by simp[ct,hb]
   have hc:=h.wB aS (v:=v) (e:= .obj τ (qt x)) h1 (fun b hb=>qM b (sq b hb)) (fun b hb=> .inr (Ib b (auz _ (sq b hb)))) (fun b _ _ he=>by cases he)
   obtain⟨xd,Rp⟩:=K7 (.obj τ (qt x)) v rfl sq
   refine sG (σ':=(σ.put i (.fC (16*i+15) [])).gZ (16*i+15) (some (.obj τ (qt x)))) (ν':=cj ν (16*i+15) v) (hc.put (d:=i) (x:= .fC (16*i+15) []) ?_) xd Rp
   simp only[A1,ER]at h1
   obtain⟨b,cs,t,Nr,_⟩:=h1
   simp only[VR,hv]
   exact⟨_,ak _ _ _,trivial,b,by simp[cj,Nr],Nr⟩
  |fC τ=>
   refine sG (σ':=σ.put i (.mc τ (qt x))) (h.put ?_) (fun j hj=>ib j (by omega)) (fun j e b hj gG dy=>auz _ (Bv j e b hj gG dy))
   rw[hv]
   simp only[A1,VR]at h1 ⊢
   exact h1
  |ptr τ=>
   refine sG (σ':=σ) h (fun j hj=>ib j (by omega)) (fun j e b hj gG dy=>auz _ (Bv j e b hj gG dy))
def qN(tm:Array Value):ResultVar→Sem Value
 | .tmp t=>pure (tm.getD t undef)
 | .cell x t=>do loadVar t (←asAddr (tm.getD x undef))
def xp(P:Program)(tm:Array Value)(w:World)(rv:ResultVar)(u:Value):Prop:=(qN tm rv).run P w= .ok u w
def DV(P:Program)(tm:Array Value)(w:World):List (ResultVar ⊕ Nat)→List Value→List Value→Prop
 |[],us,ps=>us=[]∧ps=[]
 | .inl rv::rs,us,ps=> ∃u CE,us=u::CE∧xp P tm w rv u∧DV P tm w rs CE ps
 | .inr i::rs,us,ps=> ∃p AT,ps=p::AT∧p=tm.getD i undef∧DV P tm w rs us AT
theorem Core.Rq{tm:Array Value}{H1:Nat→Option aQ}{M1:Nat→Prop}(h: ∀i,VR w M σ.H ν (σ.T i) (tm.getD i undef))(k:df w M w M1)(g:n7 σ.H ν H1 ν): ∀i,VR w M1 H1 ν (σ.T i) (tm.getD i undef):=
 fun i=>VR.bt k g (h i)
theorem wI(hE:EnvTy P E){tm:Array Value}{H0 Hq:Nat→Option aQ}{M1:Nat→Prop}{uo uf:fj}{io:List (Nat×Ty)}{hs:List Nat}(h:ia c w M ν H0 σ.H Hq M1 uo uf io hs)(ht: ∀i,VR w M1 σ.H ν (σ.T i) (tm.getD i undef))
  {m:AM} {rs:ResultVar ⊕ Nat} {k:m.den→St→Option α} (hk:Bj E m rs σ k=some r):
  ∃y σ' DO DP Aw ML M2 u,k y σ'=some r∧σ'.T=σ.T∧ia c w M ν H0 σ'.H ML M2 DO DP Aw (hs++ct m u)∧df w M1 w M2∧n7 σ.H ν σ'.H ν∧A1 w M2 m y u∧
   ((m.fF=false∧m.Q6=false∧ ∃rv,rs= .inl rv∧xp P tm w rv u)∨(m.fF=true∧ ∃i,rs= .inr i∧u=tm.getD i undef)):=by
 unfold Bj at hk
 split at hk
 ·
  rename_i τ t k
  obtain⟨y,rd,ups,hk,hy⟩:=xT h.mem (ht t) hk
  have Ic:xp P tm w (.tmp t) (tm.getD t undef):=by simp[xp,qN]
  rcases hy with⟨rfl,hV⟩|⟨id,e,l,rfl,aS,hV⟩
  ·exact⟨y,σ,uo,uf,io,Hq,M1,_,hk,rfl,by simpa [ct]using h,.refl w M1,.refl _ ν,hV,.inl ⟨rfl,rfl,_,rfl,Ic⟩⟩
  ·obtain⟨M2,hA,hK,Cx⟩:=h.freeze aS
   exact⟨y,_,uo,_,io,Hq,M2,_,hk,rfl,(by simp only[ct,auJ];exact hA),hK,.Y2 aS ⟨rfl,rfl⟩,hV M2 Cx,.inl ⟨rfl,rfl,_,rfl,Ic⟩⟩
 ·
  rename_i τ x t k
  split at hk
  ·rename_i τ' AK
   obtain⟨e1,Y3⟩:=dH hk
   clear hk
   subst e1
   obtain⟨υ,z,rd,hk,b,off,cs,hv,lC,gV⟩:=wu h.mem (ht x) Y3
   obtain⟨e2,Qv⟩:=a6 hk
   subst e2
   refine⟨_,σ,uo,uf,io,Hq,M1,bF _ cs,Qv,rfl,by simpa [ct]using h,.refl w M1,.refl _ ν,V.bF gV,.inl ⟨rfl,rfl,_,rfl,?_⟩⟩
   simp only[xp,qN,hv]
   simp[asAddr,wq (hE.ty t _ AK) lC gV]
  ·cases hk
 ·
  rename_i e t k
  have hv:=ht t
  have Ic:xp P tm w (.tmp t) (tm.getD t undef):=by simp[xp,qN]
  split at hk
  ·rename_i hT
   rw[hT]at hv
   obtain⟨ad,hv⟩:=VR.emp.1 hv
   have hb:ed (.slice ad 0 0)=none:=by cases ad<;>simp[ed]
   exact⟨[],σ,uo,uf,io,Hq,M1,_,hk,rfl,by rw[hv];simpa [ct,hb]using h,.refl w M1,.refl _ ν,by rw[hv];simp only[A1,ER];exact .inl ⟨trivial,ad,rfl⟩,.inl ⟨rfl,rfl,_,rfl,Ic⟩⟩
  ·rename_i id hT
   rw[hT]at hv
   simp only[VR]at hv
   split at hk
   ·rename_i e' l aS
    obtain⟨e1,hk⟩:=a6 hk
    cases e1
    refine⟨_,_,_,uf,io,_,M1,ν id,hk,rfl,(by simp only[ct];exact h.hand aS),.refl w M1,.Y2 aS (aQ.kd _),h.mem.iN id _ aS,.inl ⟨rfl,rfl,_,rfl,by rw[←hv.2];exact Ic⟩⟩
   ·cases hk
  ·cases hk
 ·
  rename_i τ i k
  have hv:=ht i
  split at hk
  ·rename_i id hT
   rw[hT]at hv
   split at hk
   ·rename_i υ z aS
    obtain⟨e1,hk⟩:=a6 hk
    subst e1
    simp only[VR]at hv
    obtain⟨e,he,jO⟩:=hv
    rw[aS]at he;cases he
    simp only[AR]at jO
    obtain⟨_,b,hb,hv⟩:=jO
    have Nr:tm.getD i undef=ν id:=by rw[hv,hb];rfl
    refine⟨_,_,uo,uf,_,_,M1,ν id,hk,rfl,(by simp only[ct];exact h.Y1 aS),.refl w M1,.Y2 aS (aQ.kd _),h.mem.iN id _ aS,.inr ⟨rfl,i,rfl,Nr.symm⟩⟩
   ·cases hk
  ·cases hk
 ·
  rename_i τ t k
  have hv:=ht t
  have Ic:xp P tm w (.tmp t) (tm.getD t undef):=by simp[xp,qN]
  split at hk
  ·rename_i id hT
   rw[hT]at hv
   split at hk
   ·rename_i υ z aS
    obtain⟨e1,hk⟩:=a6 hk
    subst e1
    simp only[VR]at hv
    obtain⟨e,he,jO⟩:=hv
    rw[aS]at he;cases he
    simp only[AR]at jO
    obtain⟨_,b,hb,hv⟩:=jO
    have Nr:tm.getD t undef=ν id:=by rw[hv,hb];rfl
    refine⟨_,_,uo,uf,_,_,M1,ν id,hk,rfl,(by simp only[ct];exact h.Y1 aS),.refl w M1,.Y2 aS (aQ.kd _),h.mem.iN id _ aS,.inl ⟨rfl,rfl,_,rfl,by rw[←Nr];exact Ic⟩⟩
   ·cases hk
  ·cases hk
 ·cases hk
theorem yX(hE:EnvTy P E){tm:Array Value}{H0:Nat→Option aQ}: ∀{ms:List AM} {rs:List (ResultVar ⊕ Nat)} {σ:St} {Hq:Nat→Option aQ} {M1:Nat→Prop} {uo uf:fj} {io:List (Nat×Ty)} {hs:List Nat} {K:HP ms→Option α},
  ia c w M ν H0 σ.H Hq M1 uo uf io hs→(∀i,VR w M1 σ.H ν (σ.T i) (tm.getD i undef))→Cq E ms rs σ K=some r→
  ∃y us ps H2 DO DP Aw ML M2,K y=some r∧ia c w M ν H0 H2 ML M2 DO DP Aw (hs++a7 ms us ps)∧df w M1 w M2∧RR w M2 ms y us ps∧DV P tm w rs us ps
 |[],[],σ,Hq,M1,uo,uf,io,hs,K,h,ht,hk=>⟨(),[],[],σ.H,uo,uf,io,Hq,M1,hk,by simpa [a7]using h,.refl w M1,⟨rfl,rfl⟩,⟨rfl,rfl⟩⟩
 |[m],[q],σ,Hq,M1,uo,uf,io,hs,K,h,ht,hk0=>by
  obtain⟨y,σ',DO,DP,Aw,ML,M2,u,hk,hT,hA,hK,hG,hy,hu⟩:=wI hE h ht (hk0:Bj E m q σ _=some r)
  clear hk0
  rcases hu with⟨h1,h2,rv,rfl,hv⟩|⟨h1,i,rfl,hv⟩
  ·refine⟨y,[u],[],_,_,_,_,_,M2,hk,by simpa [a7,h1]using hA,hK,?_,?_⟩
   ·simp only[RR];exact .inr ⟨u,[],h1,h2,rfl,hy,by simp⟩
   ·simp only[DV];exact⟨u,[],rfl,hv,by simp⟩
  ·refine⟨y,[],[u],_,_,_,_,_,M2,hk,by simpa [a7,h1]using hA,hK,?_,?_⟩
   ·simp only[RR];exact .inl ⟨u,[],h1,rfl,hy,by simp⟩
   ·simp only[DV];exact⟨u,[],rfl,hv,by simp⟩
 |m::n::ms,q::rs,σ,Hq,M1,uo,uf,io,hs,K,h,ht,hk0=>by
  obtain⟨y,σ',DO,DP,Aw,ML,M2,u,Y3,hT,hA,hK,hG,hy,hu⟩:=wI hE h ht (hk0:Bj E m q σ _=some r)
  obtain⟨ys,us,ps,H3,uo3,uf3,io3,Hq3,M3,hk,hA3,hK3,hys,hrs⟩:=yX (ms:=n::ms) hE hA (fun i=>by rw[hT];exact Core.Rq ht hK hG i) Y3
  have Bs:A1 w M3 m y u:=A1.qK hK3 (fun b hb=>⟨rfl,hA3.hM b (auz _ (auD _ hb))⟩) hy
  clear hk0
  rcases hu with⟨h1,h2,rv,rfl,hv⟩|⟨h1,i,rfl,hv⟩
  ·refine⟨(y,ys),u::us,ps,H3,uo3,uf3,io3,Hq3,M3,hk,?_,hK.trans hK3,?_,?_⟩
   ·have:a7 (m::n::ms) (u::us) ps=ct m u++a7 (n::ms) us ps:=by rw[a7];simp[h1]
    rw[this,←aur];exact hA3
   ·rw[RR];exact .inr ⟨u,us,h1,h2,rfl,Bs,hys⟩
   ·simp only[DV];exact⟨u,us,rfl,hv,hrs⟩
  ·refine⟨(y,ys),us,u::ps,H3,uo3,uf3,io3,Hq3,M3,hk,?_,hK.trans hK3,?_,?_⟩
   ·have:a7 (m::n::ms) us (u::ps)=ct m u++a7 (n::ms) us ps:=by rw[a7];simp[h1]
    rw[this,←aur];exact hA3
   ·rw[RR];exact .inl ⟨u,ps,h1,rfl,Bs,hys⟩
   ·simp only[DV];exact⟨u,ps,rfl,hv,hrs⟩
 |[],_::_,_,_,_,_,_,_,_,_,_,_,hk=>by simp[Cq]at hk
 |[_],[],_,_,_,_,_,_,_,_,_,_,hk=>by simp[Cq]at hk
 |[_],_::_::_,_,_,_,_,_,_,_,_,_,_,hk=>by simp[Cq]at hk
 |_::_::_,[],_,_,_,_,_,_,_,_,_,_,hk=>by simp[Cq]at hk
end VM
end
section
namespace VM
open Go
variable{P:Program}{E:Env}{o:Oper}{a:Act}{w:World}{M:Nat→Prop}{ν:Nat→Value}{σ:St}{c:Ctx}{α:Type}{r:α}{next:Act→World→Prop}{Q:Exit→Act→World→Prop}
theorem Bx{tm:Array Value}: ∀{rv:List ResultVar} {is:List (ResultVar ⊕ Nat)} {us ps:List Value},DV P tm w (rv.map .inl++is) us ps→
  ∃Qy us2,us=Qy++us2∧Qy.length=rv.length∧(∀i (h:i<rv.length) (h':i<Qy.length),xp P tm w rv[i] Qy[i])∧DV P tm w is us2 ps
 |[],is,us,ps,h=>⟨[],us,rfl,rfl,fun i h=>by simp at h,h⟩
 |rv::rvs,is,us,ps,h=>by
  simp only[auI,avz,DV]at h
  obtain⟨u,CE,rfl,h1,h2⟩:=h
  obtain⟨Qy,us2,rfl,hl,h3,h4⟩:=Bx h2
  refine⟨u::Qy,us2,rfl,by simp[hl],fun i hi ji=> ?_,h4⟩
  cases i with
  |zero=>exact h1
  |succ i=>exact h3 i (by simpa using hi) (by simpa using ji)
theorem sZ{tm:Array Value}: ∀{ms:List AM} {vs:List Value} {i:Nat} {us ps:List Value},vs.length=ms.length→(∀j v m,vs[j]? =some v→ms[j]? =some m→m.fF=true→tm.getD (i+j) undef=v)→DV P tm w (vj ms i) us ps→us=[]∧ps=dr ms vs
 |[],vs,i,us,ps,_,_,h=>by simp only[vj,DV]at h;simpa [dr]using h
 |m::ms,[],_,_,_,hl,_,_=>by simp at hl
 |m::ms,v::vs,i,us,ps,hl,HC,h=>by
  have EG: ∀j u m,vs[j]? =some u→ms[j]? =some m→m.fF=true→tm.getD (i+1+j) undef=u:=fun j u m hj hm rH=>by
   have:=HC (j+1) u m (by simpa using hj) (by simpa using hm) rH
   rwa [show i+(j+1)=i+1+j from by omega]at this
  have DQ:vs.length=ms.length:=by simpa using hl
  cases m with
  |io τ=>
   simp only[vj,DV]at h
   obtain⟨p,AT,rfl,hp,h⟩:=h
   obtain⟨h1,h2⟩:=sZ DQ EG h
   refine⟨h1,?_⟩
   have:=HC 0 v (.io τ) rfl rfl rfl
   simp only[awn]at this
   simp[dr,AM.fF,h2,hp,this]
  |v τ=>
   obtain⟨h1,h2⟩:=sZ DQ EG (show DV P tm w (vj ms (i+1)) us ps from h)
   exact⟨h1,by simp[dr,AM.fF,h2]⟩
  |own τ=>
   obtain⟨h1,h2⟩:=sZ DQ EG (show DV P tm w (vj ms (i+1)) us ps from h)
   exact⟨h1,by simp[dr,AM.fF,h2]⟩
  |fn f τ=>
   obtain⟨h1,h2⟩:=sZ DQ EG (show DV P tm w (vj ms (i+1)) us ps from h)
   exact⟨h1,by simp[dr,AM.fF,h2]⟩
  |fC τ=>
   obtain⟨h1,h2⟩:=sZ DQ EG (show DV P tm w (vj ms (i+1)) us ps from h)
   exact⟨h1,by simp[dr,AM.fF,h2]⟩
  |ptr τ=>
   obtain⟨h1,h2⟩:=sZ DQ EG (show DV P tm w (vj ms (i+1)) us ps from h)
   exact⟨h1,by simp[dr,AM.fF,h2]⟩
theorem EH{fn:Func}{tm:Array Value}{us:List Value}(hl:us.length=fn.results.toList.length)(h: ∀i (h:i<fn.results.toList.length) (h':i<us.length),xp P tm w fn.results.toList[i] us[i]):
  (results fn tm).run P w= .ok (qJ us) w:=by
 have key: ∀(rs:List ResultVar) (us:List Value),us.length=rs.length→(∀i (h:i<rs.length) (h':i<us.length),xp P tm w rs[i] us[i])→(rs.mapM (qN tm)).run P w= .ok us w:=by
  intro rs
  induction rs with
  |nil=>intro us hl _;cases us with
   |nil=>simp
   |cons _ _=>simp at hl
  |cons r rs ih=>intro us hl h;cases us with
   |nil=>simp at hl
   |cons u us=>
    have h0:(qN tm r).run P w= .ok u w:=h 0 (by simp) (by simp)
    have h1:=ih us (by simpa using hl) (fun i hi ji=>h (i+1) (by simpa using hi) (by simpa using ji))
    simp[axi,h0,h1]
 have h2:=key fn.results.toList us hl h
 have h3:results fn tm=(do let vs ←fn.results.mapM (qN tm);pure (if h:vs.size=1 then vs[0]else .tuple vs)):=by
  unfold results
  congr 1
 rw[h3,Array.mapM_eq_mapM_toList]
 simp only[Sem.run_bind,Sem.run_map,h2]
 unfold qJ
 by_cases h3:us.length=1
 ·simp[h3]
 ·simp[h3]
theorem By(hE:oH P E){f:FuncId}{fn:Func}(hf:P.funcs[f]? =some fn)(hnt:E.nt=fn.ntmps){args res:List AM}(rH: ∀i m,args[i]? =some m→m.fF=true→i∈E.io)(aek: ∀i∈E.io,i<args.length)(hlen:args.length≤fn.ntmps)
  {M0:Nat→Prop} {vs:List Value} {x:HP args} {y:HP res} (nw: ∀b,M0 b→b<w.heap.size) (hA:fU w (fun b=>M0 b∨b∈cD args vs) args x vs) (tQ:(cD args vs).Nodup) (qO: ∀b∈cD args vs,¬M0 b)
  (h:Ho E fn args res x=some y):
  Calls P f vs.toArray w fun e w'=> ∃v,e= .returned v∧ ∃us M',v=qJ us∧RR w' M' res y us (dr args vs)∧Left w M0 (cD args vs) w' M'∧(a7 res us (dr args vs)).Nodup∧ ∀b∈a7 res us (dr args vs),¬M0 b:=by
 unfold Ho at h
 split at h
 ·cases h
 rename_i cd hb
 simp only at h
 have hvl: ∀{ms:List AM} {x:HP ms} {vs:List Value} {M:Nat→Prop},fU w M ms x vs→vs.length=ms.length:=by
  intro ms
  induction ms with
  |nil=>intro x vs M h;simp only[fU]at h;subst h;rfl
  |cons m ms ih=>intro x vs M h;simp only[fU]at h;obtain⟨v,DT,rfl,_,h⟩:=h;simp[ih h]
 have QX:=hvl hA
 let tm:Array Value:=vs.toArray++Array.replicate (fn.ntmps-vs.toArray.size) undef
 have HC: ∀j v,vs[j]? =some v→tm.getD j undef=v:=by
  intro j v hj
  have dz:j<vs.length:=(avs.1 hj).1
  rw[avg,Array.getElem?_append_left (by simpa using dz),axJ,hj];rfl
 have ou:tm.size=fn.ntmps:=by simp[tm];omega
 have hhb: ∀{ms:List AM} {x:HP ms} {vs:List Value} {M:Nat→Prop},fU w M ms x vs→ ∀b∈cD ms vs,b<w.heap.size:=by
  intro ms
  induction ms with
  |nil=>intro x vs M h b hb;simp[cD]at hb
  |cons m ms ih=>
   intro x vs M h b hb
   simp only[fU]at h
   obtain⟨v,DT,rfl,h1,h⟩:=h
   simp only[cD,aut]at hb
   rcases hb with hb|hb
   ·cases m with
    |v _=>simp[ct]at hb
    |fn _ _=>simp[ct]at hb
    |fC _=>simp[ct]at hb
    |own e=>
     simp only[ct,au7,A1,ER]at hb h1
     rcases h1 with⟨_,a,hv⟩|⟨b',cs,t,cap,hv,hg,_⟩
     ·rw[hv]at hb;cases a<;>simp[ed]at hb
     ·rw[hv]at hb
      simp only[ed]at hb
      split at hb
      ·cases hb
      ·simp only[avb]at hb;subst hb;exact lt_of_block hg
    |io τ=>
     simp only[ct,au7,A1,ER]at hb h1
     obtain⟨b',cs,t,hv,hg,_⟩:=h1
     rw[hv]at hb
     simp only[ed,avb]at hb;subst hb;exact lt_of_block hg
    |ptr τ=>
     simp only[ct,au7,A1,ER]at hb h1
     obtain⟨b',cs,t,hv,hg,_⟩:=h1
     rw[hv]at hb
     simp only[ed,avb]at hb;subst hb;exact lt_of_block hg
   ·exact ih h b hb
 let cx:Ctx:={B:=w.heap.size,w0:=w,M0:=M0,may:=fun b=>b∈cD args vs,arg:=fun i=>tm.getD i undef}
 have YT:Mem cx (fun _=>none) w (fun b=>M0 b∨b∈cD args vs) (fun _=>undef):=
  ⟨fun i e hi=>(by cases hi),fun i j e e' b _ hi=>(by cases hi),fun i e b hi=>(by cases hi),fun i e l b hi=>(by cases hi),fun i τ x p j hi=>(by cases hi),fun b hb=> .inl hb,fun b hb=>hb.elim (nw b) (hhb hA b),fun _ _ _=>rfl,aul _,⟨nw,qO⟩,rfl,rfl,rfl⟩
 have MJ:Core cx ⟨fun _=> .any,fun _=>none⟩ tm w (fun b=>M0 b∨b∈cD args vs) (fun _=>undef):=⟨YT,fun i=>by simp[VR]⟩
 obtain⟨ν',hc⟩:=wH (i:=0) (used:=[]) MJ hA (fun j v hj=>by rw[avk];exact HC j v hj) (fun _ _=>rfl) (fun j e b hj=>by cases hj) (by simpa using tQ) (fun b hb=>hb) (fun b hb=>qO b hb)
 have hI:Inv cx E (entry args x 0 ⟨fun _=> .any,fun _=>none⟩) {tmps:=tm,defers:=[]} w:=⟨⟨_,_,hc⟩,by rw[hnt,ou],rfl,fun i _=>rfl⟩
 refine calls_of_wp hf hb ?_
 have ael: ∀(σ':St) (a':Act) (w':World),Cq E res (fn.results.toList.map .inl++vj args 0) σ' some=some y→Inv cx E σ' a' w'→
   a'.defers=[]∧ ∃v,(results fn a'.tmps).run P w'= .ok v w'∧ ∃v',Ending.returned v= .returned v'∧ ∃us M',v'=qJ us∧RR w' M' res y us (dr args vs)∧Left w M0 (cD args vs) w' M'∧(a7 res us (dr args vs)).Nodup∧ ∀b∈a7 res us (dr args vs),¬M0 b:=by
  rintro σ' a' w' hk ⟨⟨M1,ν1,AP⟩,Ht,hd1,sv⟩
  obtain⟨y',us,ps,H2,uo,uf,io,Hq,M2,hy,NM,hK,MN,hRs⟩:=yX (P:=P) hE.toEnvTy (ia.start AP.mem) AP.tmp hk
  cases hy
  obtain⟨Qy,us2,rfl,hl,hv,ajM⟩:=Bx hRs
  obtain⟨rfl,Hw⟩:=sZ (vs:=vs) QX (fun j v m hj hm CG=>by
   rw[avk]
   rw[sv j (rH j m hm CG)]
   exact HC j v hj) ajM
  rw[auJ]at*
  subst Hw
  simp only[auK]at NM
  have jV: ∀b∈a7 res Qy (dr args vs),b<w.heap.size→b∈cD args vs:=fun b hb dz=>(NM.H5 b hb).elim (fun h'=>absurd dz (Nat.not_lt.2 h')) (fun h=>h)
  have Bs:df w' M2 w' (fun b=>M2 b∧(b<w.heap.size→M0 b∨b∈cD args vs)):=⟨aul _,fun _ _ _=>rfl,fun _ _ h=>h.1⟩
  refine⟨hd1,qJ Qy,EH hl hv,_,rfl,Qy,fun b=>M2 b∧(b<w.heap.size→M0 b∨b∈cD args vs),rfl,RR.qK Bs (fun b hb=>⟨rfl,MN.mu b hb,fun dz=> .inr (jV b hb dz)⟩) MN,⟨fun b hb=>⟨NM.mem.sub b hb,fun _=> .inl hb⟩,fun b hb=>NM.mem.yz b hb.1,fun b dz hb=>hb.2 dz,fun b dz hb=>NM.mem.frame b dz hb,NM.mem.size,NM.mem.os,NM.mem.tape,NM.mem.output⟩,NM.nd,fun b hb h0=> ?_⟩
  rcases NM.H5 b hb with h'|h'
  ·exact absurd (nw b h0) (Nat.not_lt.2 h')
  ·exact qO b h' h0
 refine Lf (c:=cx) hE cd _ _ w _ _ _ _ hI h (fun σ' a' w' hk sH=> ?_) (fun i σ' a' w' hk=>by cases hk) (fun σ' a' w' hk sH=> ?_)
 ·exact ael σ' a' w' hk sH
 ·exact ael σ' a' w' hk sH
theorem NN(hE:oH P E){f:FuncId}{fn:Func}(hf:P.funcs[f]? =some fn)(tU:(fn.name== "runtime.NumGoroutine")=false)(hnt:E.nt=fn.ntmps)(S:g9)
  (rH: ∀i m,S.args[i]? =some m→m.fF=true→i∈E.io) (aek: ∀i∈E.io,i<S.args.length) (hlen:S.args.length≤fn.ntmps) (hq:S.quiet=true→S.res.all AM.flat=true) (ajN:kG S.args=kG S.res)
  (cw: ∀x,Ho E fn S.args S.res x=S.run x):eP P f S:=by
 refine⟨hq,ajN,fun M0 w vs x y nw hA tQ qO hy=> ?_⟩
 have hb:fn.body.isNone=false:=by
  have:=cw x
  rw[hy]at this
  unfold Ho at this
  split at this
  ·cases this
  ·rename_i cd hcd;rw[hcd];rfl
 exact n8 hf tU hb (By hE hf hnt rH aek hlen nw hA tQ qO (by rw[cw,hy]))
end VM
end
section
namespace VM
open Go
variable{P:Program}
def tV:Ty→List Value→Option (List Value)
 | .int k,v::r=>match v with
  | .int k' n=>if k'=k∧n=0 then some r else none
  |_=>none
 | .bool,v::r=>match v with
  | .bool false=>some r
  |_=>none
 | .str,v::r=>match v with
  | .string s=>if s.data.size=0 then some r else none
  |_=>none
 | .slice _,v::r=>match v with
  | .slice none n m=>if n=0∧m=0 then some r else none
  |_=>none
 | .unit,r=>some r
 | .pair a b,r=>match tV a r with
  |some r=>tV b r
  |none=>none
 | .arr n e,r=>Nat.rec (motive:=fun _=>List Value→Option (List Value)) (fun r=>some r) (fun _ ih r=>match tV e r with
  |some r=>ih r
  |none=>none) n r
 |_,[]=>none
theorem tX: ∀{τ:Ty} {l r:List Value},tV τ l=some r→l=τ.ca++r
 | .int k,[],_,h| .bool,[],_,h| .str,[],_,h| .slice _,[],_,h=>by simp[tV]at h
 | .int k,v::l,r,h=>by
  simp only[tV]at h
  split at h
  ·split at h
   ·rename_i hc;obtain⟨rfl,rfl⟩:=hc;cases h;rfl
   ·cases h
  ·cases h
 | .bool,v::l,r,h=>by
  simp only[tV]at h
  split at h
  ·cases h;rfl
  ·cases h
 | .str,v::l,r,h=>by
  simp only[tV]at h
  split at h
  ·rename_i s
   split at h
   ·rename_i hs
    cases h
    have:s=ByteArray.empty:=by
     obtain⟨d⟩:=s
     have:d= #[]:=Array.eq_empty_of_size_eq_zero hs
     subst this;rfl
    subst this;rfl
   ·cases h
  ·cases h
 | .slice _,v::l,r,h=>by
  simp only[tV]at h
  split at h
  ·split at h
   ·rename_i hc;obtain⟨rfl,rfl⟩:=hc;cases h;rfl
   ·cases h
  ·cases h
 | .unit,l,r,h=>by simp only[tV]at h;cases h;rfl
 | .pair a b,l,r,h=>by
  simp only[tV]at h
  split at h
  ·rename_i r1 h1
   rw[tX h1,tX h];simp[Ty.ca]
  ·cases h
 | .arr n e,l,r,h=>by
  simp only[tV]at h
  simp only[Ty.ca]
  induction n generalizing l with
  |zero=>cases h;rfl
  |succ n ih=>
   simp only at h
   split at h
   ·rename_i r1 h1
    rw[tX h1,ih _ h];simp[awF]
   ·cases h
def tY(P:Program)(τ:Ty)(t:TypeId):Bool:=
 match P.info? t with
 |none=>false
 |some i=>Nat.beq i.size τ.size&&Nat.ble i.bytes 2048&&(match i.zero with
  |none=>false
  |some z=>match τ.isAgg,z with
   |true,.agg cs=>(match tV τ cs.toList with|some []=>true|_=>false)
   |false,z=>(match tV τ [z]with|some []=>true|_=>false)
   |_,_=>false)
theorem my{τ:Ty}{t:TypeId}(h:tY P τ t=true):Cr P τ t:=by
 unfold tY at h
 split at h
 ·cases h
 ·rename_i i hi
  simp only[aus,axR]at h
  obtain⟨⟨h1,h2⟩,h3⟩:=h
  refine⟨i,hi,auN h1,?_,h2⟩
  split at h3
  ·cases h3
  ·rename_i z hz
   rw[hz]
   split at h3
   ·rename_i _ cs ha
    split at h3
    ·rename_i he
     have:=tX he
     unfold bF
     rw[auh ha,←auJ τ.ca,←this]
    ·cases h3
   ·rename_i ha
    split at h3
    ·rename_i he
     have:=tX he
     unfold bF
     rw[aui (by rw[ha];exact axj),←auJ τ.ca,←this];rfl
    ·cases h3
   ·cases h3
def oJ(P:Program):Ty→TypeId ⊕ (Array Field×Nat×Nat)→Bool
 | .int k,.inl t=>tY P (.int k) t&&(match P.underlying t with|some (.int k')=>decide (k'=k)|_=>false)
 | .bool,.inl t=>tY P .bool t&&(match P.underlying t with|some .bool=>true|_=>false)
 | .str,.inl t=>tY P .str t&&(match P.underlying t with|some .string=>true|_=>false)
 | .slice e,.inl t=>tY P (.slice e) t&&(match P.underlying t with|some (.slice e')=>oJ P e (.inl e')|_=>false)
 | .arr n e,.inl t=>tY P (.arr n e) t&&(match P.underlying t with|some (.array n' e')=>Nat.beq n' n&&oJ P e (.inl e')|_=>false)
 | .unit,.inl t=>tY P .unit t&&(match P.underlying t with|some (.struct fs)=>Nat.beq fs.size 0|_=>false)
 | .unit,.inr q=>Nat.beq q.1.size q.2.1
 | .pair a b,.inl t=>tY P (.pair a b) t&&(match P.underlying t with
  |some (.struct fs)=>(match fs[0]? with
   |some f=>Nat.beq f.offset 0&&(oJ P a (.inl f.type)&&oJ P b (.inr (fs,1,a.size)))
   |none=>false)
  |_=>false)
 | .pair a b,.inr q=>(match q.1[q.2.1]? with
  |some f=>Nat.beq f.offset q.2.2&&(oJ P a (.inl f.type)&&oJ P b (.inr (q.1,q.2.1+1,q.2.2+a.size)))
  |none=>false)
 |_,.inr _=>false
theorem eg: ∀{τ:Ty} {x:TypeId ⊕ (Array Field×Nat×Nat)},oJ P τ x=true→dF P τ x
 | .int k,.inl t,h=>by
  simp only[oJ,aus]at h
  refine⟨my h.1,?_⟩
  have h:=h.2
  split at h
  ·rename_i k' hu;rw[hu,auw h]
  ·cases h
 | .bool,.inl t,h=>by
  simp only[oJ,aus]at h
  refine⟨my h.1,?_⟩
  have h:=h.2
  split at h
  ·rename_i hu;exact hu
  ·cases h
 | .str,.inl t,h=>by
  simp only[oJ,aus]at h
  refine⟨my h.1,?_⟩
  have h:=h.2
  split at h
  ·rename_i hu;exact hu
  ·cases h
 | .slice e,.inl t,h=>by
  simp only[oJ,aus]at h
  refine⟨my h.1,?_⟩
  have h:=h.2
  split at h
  ·rename_i e' hu;exact⟨e',hu,eg h⟩
  ·cases h
 | .arr n e,.inl t,h=>by
  simp only[oJ,aus]at h
  refine⟨my h.1,?_⟩
  have h:=h.2
  split at h
  ·rename_i n' e' hu
   simp only[aus]at h
   obtain⟨h0,h⟩:=h
   rw[auN h0]at hu
   exact⟨e',hu,eg h⟩
  ·cases h
 | .unit,.inl t,h=>by
  simp only[oJ,aus]at h
  refine⟨my h.1,?_⟩
  have h:=h.2
  split at h
  ·rename_i fs hu;exact⟨fs,hu,auN h⟩
  ·cases h
 | .unit,.inr (fs,n,o),h=>by simp only[oJ]at h;exact auN h
 | .pair a b,.inl t,h=>by
  simp only[oJ,aus]at h
  refine⟨my h.1,?_⟩
  have h:=h.2
  split at h
  ·rename_i fs hu
   split at h
   ·rename_i f hf
    simp only[aus]at h
    exact⟨fs,f,hu,hf,auN h.1,eg h.2.1,eg h.2.2⟩
   ·cases h
  ·cases h
 | .pair a b,.inr (fs,n,o),h=>by
  simp only[oJ]at h
  split at h
  ·rename_i f hf
   simp only[aus]at h
   exact⟨f,hf,auN h.1,eg h.2.1,eg h.2.2⟩
  ·cases h
 | .int _,.inr _,h| .bool,.inr _,h| .str,.inr _,h| .slice _,.inr _,h| .arr _ _,.inr _,h=>by simp[oJ]at h
def qb(P:Program):Ty→TypeId ⊕ (Array Field×Nat)→Bool
 | .int _,.inl _| .bool,.inl _| .str,.inl _=>true
 | .unit,.inl t=> !P.stoodInHeld t
 | .unit,.inr _=>true
 | .pair a b,.inl t=> !P.stoodInHeld t&&(match P.underlying t with
  |some (.struct fs)=>(match fs[0]? with
   |some f=>f.name != "_" &&(qb P a (.inl f.type)&&qb P b (.inr (fs,1)))
   |none=>false)
  |_=>false)
 | .pair a b,.inr q=>(match q.1[q.2]? with
  |some f=>f.name != "_" &&(qb P a (.inl f.type)&&qb P b (.inr (q.1,q.2+1)))
  |none=>false)
 |_,_=>false
def Ty.deep:Ty→Nat
 | .pair a b=>a.deep+b.deep+1
 |_=>1
theorem V.ofC{w:World}{M:Nat→Prop}{τ:Ty}{cs:List Value}{x:τ.den}(h:Rd w M τ cs x):V w M τ (VM.bF τ cs) x:=V.bF h
mutual
theorem EI{w:World}{M:Nat→Prop}: ∀{τ:Ty} {t:TypeId} {u v:Value} {x y:τ.den} {d:Nat},gD P τ t→qb P τ (.inl t)=true→V w M τ u x→V w M τ v y→τ.deep≤d→(Op.equalIn d t u v).run P w= .ok (lR τ x y) w
 | .int k,t,u,v,x,y,d+1,hl,_,hx,hy,_=>by
  simp only[V,Ty.isAgg,au6,avQ,Rd,auZ,avB]at hx hy
  subst hx;subst hy
  rw[run_equalIn_int w d t k k _ _ hl.int];simp only[lR,fK];congr 1
 | .bool,t,u,v,x,y,d+1,hl,_,hx,hy,_=>by
  simp only[V,Ty.isAgg,au6,avQ,Rd,auZ,avB]at hx hy
  subst hx;subst hy
  rw[run_equalIn_bool w d t _ _ hl.bool];simp only[lR]
 | .str,t,u,v,x,y,d+1,hl,_,hx,hy,_=>by
  simp only[V,Ty.isAgg,au6,avQ,Rd,auZ,avB]at hx hy
  subst hx;subst hy
  rw[run_equalIn_string w d t _ _ hl.str];simp only[lR,yv];congr 1;rw[avY];simp
 | .slice _,_,_,_,_,_,_,_,h,_,_,_| .arr _ _,_,_,_,_,_,_,_,h,_,_,_=>by simp[qb]at h
 | .unit,t,u,v,x,y,d+1,hl,he,hx,hy,_=>by
  simp only[V,Ty.isAgg,awt]at hx hy
  obtain⟨cs,rfl,_⟩:=hx
  obtain⟨cs',rfl,_⟩:=hy
  simp only[gD,dF]at hl
  obtain⟨_,fs,hu,h0⟩:=hl
  have hfs:P.fieldsOf t=fs:=by simp[Program.fieldsOf,hu]
  rw[run_equalIn_struct w d t cs cs' (by rw[hfs];exact hu) (by simpa [qb]using he),hfs]
  have:fs.toList=[]:=by rw[←axv,aum];exact h0
  rw[this];simp[Op.eqFields,lR]
 | .pair a b,t,u,v,x,y,d+1,hl,he,hx,hy,hd=>by
  simp only[V,Ty.isAgg,awt]at hx hy
  obtain⟨cs,rfl,hx⟩:=hx
  obtain⟨cs',rfl,hy⟩:=hy
  simp only[gD,dF]at hl
  obtain⟨_,fs,f,hu,hf,ho,s0,HD⟩:=hl
  have hfs:P.fieldsOf t=fs:=by simp[Program.fieldsOf,hu]
  simp only[qb,hu,hf,aus]at he
  rw[run_equalIn_struct w d t cs cs' (by rw[hfs];exact hu) (by simpa using he.1),hfs]
  have h0:fs.toList=f::fs.toList.drop 1:=by
   have h1:=au2 (l:=fs.toList) (i:=0) (by rw[aum];exact(auU.1 hf).1)
   rw[auG]at h1
   rw[h1];congr 1
   rw[awy];exact(auU.1 hf).2
  simp only[Ty.deep]at hd
  rw[h0]
  have ns:Rd w M (.pair a b) (cs.toList.drop 0) x:=by rw[auG];exact hx
  have JS:Rd w M (.pair a b) (cs'.toList.drop 0) y:=by rw[auG];exact hy
  have fL:f.name≠ "_" :=by simpa using he.2.1
  simp only[Op.eqFields,fL,ne_eq,not_false_eq_true,awt]
  exact NO (off:=0) ho s0 he.2.2.1 ns JS (by omega) (fun h1 h2=>NP (n:=1) (fs:=fs) (off:=a.size) HD he.2.2.2 (by rw[avk]at h1;exact h1) (by rw[avk]at h2;exact h2) (by omega))
 | .int _,_,_,_,_,_,0,_,_,_,_,hd| .bool,_,_,_,_,_,0,_,_,_,_,hd| .str,_,_,_,_,_,0,_,_,_,_,hd| .unit,_,_,_,_,_,0,_,_,_,_,hd| .pair _ _,_,_,_,_,_,0,_,_,_,_,hd=>by simp[Ty.deep]at hd
theorem NP{w:World}{M:Nat→Prop}: ∀{b:Ty} {fs:Array Field} {n off:Nat} {cs cs':Array Value} {x y:b.den} {d:Nat},dF P b (.inr (fs,n,off))→qb P b (.inr (fs,n))=true→Rd w M b (cs.toList.drop off) x→Rd w M b (cs'.toList.drop off) y→b.deep≤d→
  (Op.eqFields d cs cs' (fs.toList.drop n)).run P w= .ok (lR b x y) w
 | .unit,fs,n,off,cs,cs',x,y,d,hl,_,_,_,_=>by
  simp only[dF]at hl
  rw[au0 (by rw[aum];omega)]
  simp[Op.eqFields,lR]
 | .pair a b,fs,n,off,cs,cs',x,y,d,hl,he,hx,hy,hd=>by
  simp only[dF]at hl
  obtain⟨f,hf,ho,s0,HD⟩:=hl
  simp only[qb,hf,aus]at he
  have h0:fs.toList.drop n=f::fs.toList.drop (n+1):=by
   rw[au2 (l:=fs.toList) (i:=n) (by rw[aum];exact(auU.1 hf).1)]
   congr 1
   rw[awy];exact(auU.1 hf).2
  simp only[Ty.deep]at hd
  rw[h0]
  have fL:f.name≠ "_" :=by simpa using he.1
  simp only[Op.eqFields,fL,ne_eq,not_false_eq_true,awt]
  exact NO ho s0 he.2.1 hx hy (by omega) (fun h1 h2=>NP HD he.2.2 h1 h2 (by omega))
 | .int _,_,_,_,_,_,_,_,_,hl,_,_,_,_| .bool,_,_,_,_,_,_,_,_,hl,_,_,_,_| .str,_,_,_,_,_,_,_,_,hl,_,_,_,_| .slice _,_,_,_,_,_,_,_,_,hl,_,_,_,_| .arr _ _,_,_,_,_,_,_,_,_,hl,_,_,_,_=>by simp[dF]at hl
theorem NO{w:World}{M:Nat→Prop}{a b:Ty}{f:Field}{fs:List Field}{off:Nat}{cs cs':Array Value}{x y:(Ty.pair a b).den}{d:Nat}(ho:f.offset=off)(s0:gD P a f.type)(he:qb P a (.inl f.type)=true)
  (hx:Rd w M (.pair a b) (cs.toList.drop off) x) (hy:Rd w M (.pair a b) (cs'.toList.drop off) y) (hd:a.deep≤d)
  (hr:Rd w M b (cs.toList.drop (off+a.size)) x.2→Rd w M b (cs'.toList.drop (off+a.size)) y.2→(Op.eqFields d cs cs' fs).run P w= .ok (lR b x.2 y.2) w):
  (do let u ←part f.type cs f.offset;let v ←part f.type cs' f.offset;let r ←Op.equalIn d f.type u v;if(!r)=true then pure false else Op.eqFields d cs cs' fs:Sem Bool).run P w= .ok (lR (.pair a b) x y) w:=by
 simp only[Rd]at hx hy
 obtain⟨c1,c2,hc,h1,h2⟩:=hx
 obtain⟨c1',c2',Lg,lE,sJ⟩:=hy
 subst ho
 have p1:(cs.toList.drop f.offset).take a.size=c1:=by rw[hc,awK h1.length]
 have p2:(cs'.toList.drop f.offset).take a.size=c1':=by rw[Lg,awK lE.length]
 have q1:cs.toList.drop (f.offset+a.size)=c2:=by rw[←avr,hc,avL h1.length]
 have q2:cs'.toList.drop (f.offset+a.size)=c2':=by rw[←avr,Lg,avL lE.length]
 have r1:=tH s0 (w:=w) (M:=M) (cs:=cs) (off:=f.offset) (x:=x.1) (by rw[p1];exact h1)
 have r2:=tH s0 (w:=w) (M:=M) (cs:=cs') (off:=f.offset) (x:=y.1) (by rw[p2];exact lE)
 have r3:=EI (d:=d) s0 he (V.ofC (by rw[p1];exact h1):V w M a (VM.bF a ((cs.toList.drop f.offset).take a.size)) x.1) (V.ofC (by rw[p2];exact lE):V w M a (VM.bF a ((cs'.toList.drop f.offset).take a.size)) y.1) hd
 simp only[Sem.run_bind,r1,r2,r3,Result.andThen_ok,lR]
 cases lR a x.1 y.1
 ·simp
 ·simpa using hr (by rw[q1];exact h2) (by rw[q2];exact sJ)
end
def Rr(P:Program)(τ:Ty)(t:TypeId):Bool:= !(τ.comparable&&τ.isAgg)||(qb P τ (.inl t)&&(Nat.ble τ.deep 10000&& !P.eqGuardType P.depth t))
theorem Rs{τ:Ty}{t:TypeId}(hl:gD P τ t)(h:Rr P τ t=true)(hc:τ.comparable=true)(ha:τ.isAgg=true):adD P t τ:=by
 unfold Rr at h
 rw[hc,ha]at h
 simp only[Bool.and_self,auq,awH,aus,axR,avW]at h
 obtain⟨h1,h2,h3⟩:=h
 intro w M u v x y b xo yo hx hy
 have he:=EI (d:=10000) hl h1 hx hy h2
 unfold V at hx hy
 rw[auh ha]at hx hy
 obtain⟨cs,rfl,_⟩:=hx
 obtain⟨cs',rfl,_⟩:=hy
 refine⟨?_,?_,?_⟩
 ·cases b<;>simp[eqGuard,h3]
 ·simp only[binOp];simp[Op.equal,Op.maxDepth,he]
 ·simp only[binOp];simp[Op.equal,Op.maxDepth,he]
def aen(P:Program)(l:List (Nat×Ty)):Bool:=l.all fun q=>oJ P q.2 (.inl q.1)&&Rr P q.2 q.1
end VM
end
section
namespace VM
open Go Go.WideShapes Go.RowKit Go.ChangeShapes
def WF:(τ:Ty)→τ.den→Prop
 | .int k,x=>(Lit.int k x).wf=true
 | .bool,_=>True
 | .str,s=>ByteArray.size s≤maxLen
 | .slice e,l=>List.length l≤maxLen∧ ∀i (h:i<List.length l),WF e (List.get l ⟨i,h⟩)
 | .unit,_=>True
 | .pair a b,x=>WF a x.1∧WF b x.2
 | .arr _ e,l=> ∀i (h:i<List.length l),WF e (List.get l ⟨i,h⟩)
def Ty.ly:Ty→Bool
 | .slice e=>Nat.blt 0 e.size&&e.ly
 | .pair a b=>a.ly&&b.ly
 | .arr _ e=>e.ly
 |_=>true
theorem NQ{α β:Type}{f:α→Option β}: ∀{l:List α} {r:List β},l.mapM f=some r→ ∀x∈l,∃y,f x=some y
 |[],_,_,x,hx=>by cases hx
 |a::l,r,h,x,hx=>by
  rw[axi]at h
  simp only[bind,avG,pure,avb]at h
  obtain⟨y,hy,r',hr,_⟩:=h
  rcases auy.1 hx with rfl|hx
  ·exact⟨y,hy⟩
  ·exact NQ hr x hx
theorem EJ{α β:Type}{f:α→Option β}: ∀{l:List α} {r:List β},l.mapM f=some r→r.length=l.length∧ ∀i (h:i<l.length) (h':i<r.length),f l[i]=some r[i]
 |[],r,h=>by simp at h;subst h;exact⟨rfl,fun i h=>by cases h⟩
 |a::l,r,h=>by
  rw[axi]at h
  simp only[bind,avG,pure,avb]at h
  obtain⟨y,hy,r',hr,rfl⟩:=h
  obtain⟨h1,h2⟩:=EJ hr
  refine⟨by simp[h1],fun i hi ji=> ?_⟩
  cases i with
  |zero=>exact hy
  |succ i=>exact h2 i (by simpa using hi) (by simpa using ji)
theorem qP{α:Type}{p:Nat→α→Prop}: ∀n,(∀i,i<n→ ∃x,p i x)→ ∃l:List α,l.length=n∧ ∀i (h:i<l.length),p i (l.get ⟨i,h⟩)
 |0,_=>⟨[],rfl,fun i h=>by cases h⟩
 |n+1,h=>by
  obtain⟨l,hl,hp⟩:=qP n (fun i hi=>h i (by omega))
  obtain⟨x,hx⟩:=h n (by omega)
  refine⟨l++[x],by simp[hl],fun i hi=> ?_⟩
  simp only[axa]
  by_cases dz:i<l.length
  ·rw[awG dz];exact hp i dz
  ·have jP:i=n:=by simp at hi;omega
   subst jP
   rw[axo (by omega)]
   simp[hl,hx]
section
variable{H:Type}{enc:TypeId×Value→H}{P:Program}{w:World}
theorem gD.cells{τ:Ty}{t:TypeId}(h:gD P τ t):P.cellsOf t=τ.size:=by
 obtain⟨i,hi,hs,_⟩:=h.base
 simp[Program.cellsOf,hi,hs]
theorem Bz{a:Addr}{n:Nat}{cs:List Value}(h:w.cells? 0 a n=some cs):cs.length=n∧ ∀j v,cs[j]? =some v→w.cell? (a.add j)=some v:=by
 unfold World.cells? at h
 rw[auh (au3 _)]at h
 obtain⟨h1,h2⟩:=EJ h
 rw[awu]at h1
 refine⟨h1,fun j v hj=> ?_⟩
 obtain⟨dz,rfl⟩:=avs.1 hj
 have:=h2 j (by rw[awu];omega) dz
 rw[axg]at this
 exact this
def NR(H:Type)(enc:TypeId×Value→H)(P:Program)(w:World)(τ:Ty):TypeId ⊕ (Array Field×Nat×Nat)→Prop
 | .inl t=> ∀(fuel:Nat) (cs:List Value) (d:DataW H×List MemPlace),DataW.trod enc P w 0 (fun _=>true) true fuel t cs=some d→ ∃x:τ.den,Rd w (fun _=>False) τ cs x∧WF τ x
 | .inr q=> ∀(cs:List Value),cs.length=q.2.2+τ.size→(∀f∈q.1.toList,∃fuel d,DataW.trod enc P w 0 (fun _=>true) true fuel f.type ((cs.drop f.offset).take (P.cellsOf f.type))=some d)→ ∃x:τ.den,Rd w (fun _=>False) τ (cs.drop q.2.2) x∧WF τ x
theorem BA{a b:Ty}{f:Field}{fs:Array Field}{n off:Nat}(hf:fs[n]? =some f)(ho:f.offset=off)(s0:gD P a f.type)(Zk:NR H enc P w a (.inl f.type))(M6:NR H enc P w b (.inr (fs,n+1,off+a.size)))
  {cs:List Value} (hc:cs.length=off+(a.size+b.size)) (kF: ∀f∈fs.toList,∃fuel d,DataW.trod enc P w 0 (fun _=>true) true fuel f.type ((cs.drop f.offset).take (P.cellsOf f.type))=some d):
  ∃x:(Ty.pair a b).den,Rd w (fun _=>False) (.pair a b) (cs.drop off) x∧WF (.pair a b) x:=by
 subst ho
 obtain⟨fuel,d,hd⟩:=kF f (by rw[Array.mem_toList_iff];exact Array.mem_of_getElem? hf)
 rw[s0.cells]at hd
 obtain⟨x,hx,hwx⟩:=Zk fuel _ d hd
 obtain⟨y,hy,hwy⟩:=M6 cs (by simp only;omega) kF
 refine⟨(x,y),?_,hwx,hwy⟩
 simp only[Rd]
 refine⟨_,_,(auR a.size (cs.drop f.offset)).symm,hx,?_⟩
 rw[avr];exact hy
theorem pg: ∀{τ:Ty} {x:TypeId ⊕ (Array Field×Nat×Nat)},dF P τ x→τ.ly=true→NR H enc P w τ x
 | .int k,.inl t,hl,_=>by
  intro fuel cs d h
  simp only[dF]at hl
  obtain⟨n,rfl,_,hw⟩:=DataW.trod_int hl.2 h
  exact⟨n,rfl,hw⟩
 | .bool,.inl t,hl,_=>by
  intro fuel cs d h
  simp only[dF]at hl
  obtain⟨b,rfl,_⟩:=DataW.trod_bool hl.2 h
  exact⟨b,rfl,trivial⟩
 | .str,.inl t,hl,_=>by
  intro fuel cs d h
  simp only[dF]at hl
  obtain⟨s,rfl,_,hs⟩:=DataW.trod_string hl.2 h
  exact⟨s,rfl,hs⟩
 | .slice e,.inl t,hl,hs=>by
  intro fuel cs d h
  simp only[dF]at hl
  obtain⟨_,e',hu,hle⟩:=hl
  simp only[Ty.ly,aus,axQ]at hs
  have ih:=pg hle hs.2
  have ou:P.cellsOf e'=e.size:=gD.cells hle
  rcases DataW.trod_slice hu h with⟨rfl,_⟩|⟨a,len,cap,elems,rest,n,_,rfl,_,_,QS,KY,hel,kF,_⟩
  ·refine⟨[],?_,au3 _,fun i h=>by cases h⟩
   simp only[Rd]
   exact⟨none,0,rfl,aul _,fun i h=>by cases h⟩
  ·rw[ou]at kF
   have get: ∀i,i<len→ ∃cs' y,w.cells? 0 (a.add (i*e.size)) e.size=some cs'∧DataW.trod enc P w 0 (fun _=>true) true n e' cs'=some y:=fun i hi=>by
    have:=kF i hi
    rw[auf (by omega)]at this
    obtain⟨cs',h1,h2⟩:=avG.1 this
    exact⟨cs',_,h1,h2⟩
   have key: ∀i,i<len→ ∃x:e.den,(a.spot=none∧a.block<w.heap.size∧ ∃cs',At w a.block (a.off+i*e.size) cs'∧Rd w (fun _=>False) e cs' x)∧WF e x:=by
    intro i hi
    obtain⟨cs',y,Cw,ht⟩:=get i hi
    obtain⟨h1,h2⟩:=Bz Cw
    obtain⟨x,hx,hw⟩:=ih n cs' y ht
    have hsp:a.spot=none∧a.block<w.heap.size:=by
     obtain⟨nH,y0,ajO,_⟩:=get 0 (by omega)
     obtain⟨h10,h20⟩:=Bz ajO
     have:=h20 0 nH[0] (auf (by omega))
     simp only[Nat.zero_mul,Addr.add,awt,World.cell?]at this
     split at this
     ·rename_i hb
      refine⟨?_,(auU.1 hb).1⟩
      split at this
      ·cases this
      ·rename_i hn;simpa using hn
     ·cases this
    refine⟨x,⟨hsp.1,hsp.2,cs',fun j v hj=> ?_,hx⟩,hw⟩
    have:=h2 j v hj
    have he:(a.add (i*e.size)).add j=⟨a.block,a.off+i*e.size+j,none⟩:=by
     obtain⟨ab,ao,asp⟩:=a
     simp only at hsp
     obtain⟨rfl,_⟩:=hsp
     simp only[Addr.add]
     split<;>split<;>simp_all<;>omega
    rw[he]at this
    exact this
   obtain⟨l,hl,hp⟩:=qP len key
   refine⟨l,?_,by rw[hl];omega,fun i h=>(hp i h).2⟩
   simp only[Rd]
   refine⟨some a,cap,by rw[hl],by rw[hl];exact QS,fun i h=> ?_⟩
   obtain⟨h1,h2,cs',h3,h4⟩:=(hp i h).1
   refine⟨a.block,a.off,?_,h2,fun h=>h,cs',h3,h4⟩
   rw[←h1]
 | .unit,.inl t,hl,_=>by
  intro fuel cs d h
  simp only[dF]at hl
  obtain⟨⟨i,hi,ou,_⟩,fs,hu,h0⟩:=hl
  obtain⟨xs,n,_,_,hc,_⟩:=DataW.trod_struct hu h
  refine⟨(),?_,trivial⟩
  simp only[Rd]
  rw[←axv,hc]
  simp[Program.cellsOf,hi,ou,Ty.size]
 | .unit,.inr q,hl,_=>by
  intro cs hc _
  refine⟨(),?_,trivial⟩
  simp only[Rd]
  rw[au0 (by rw[hc];simp[Ty.size])]
 | .pair a b,.inl t,hl,hs=>by
  intro fuel cs d h
  simp only[dF]at hl
  obtain⟨⟨i,hi,ou,_⟩,fs,f,hu,hf,ho,s0,HD⟩:=hl
  simp only[Ty.ly,aus]at hs
  have Zk:=pg s0 hs.1
  have M6:=pg HD hs.2
  obtain⟨xs,n,_,_,hc,hxl,hxs⟩:=DataW.trod_struct hu h
  have:=BA (b:=b) (off:=0) hf ho s0 Zk (by simp only[avk];exact M6) (cs:=cs) (by rw[hc];simp[Program.cellsOf,hi,ou,Ty.size]) (fun f hf=>by
   obtain⟨j,hj,rfl⟩:=avE.1 hf
   rw[aum]at hj
   have:=hxs j fs[j] (by simp[hj])
   rw[auf (by omega)]at this
   exact⟨n,_,by rw[awy];exact this⟩)
  rw[auG]at this
  exact this
 | .pair a b,.inr (fs,n,off),hl,hs=>by
  intro cs hc kF
  simp only[dF]at hl
  obtain⟨f,hf,ho,s0,HD⟩:=hl
  simp only[Ty.ly,aus]at hs
  exact BA hf ho s0 (pg s0 hs.1) (pg HD hs.2) (by simpa [Ty.size]using hc) kF
 | .arr n e,.inl t,hl,hs=>by
  intro fuel cs d h
  simp only[dF]at hl
  obtain⟨⟨i,hi,ou,_⟩,e',hu,hle⟩:=hl
  simp only[Ty.ly]at hs
  have ih:=pg hle hs
  have hse:P.cellsOf e'=e.size:=gD.cells hle
  obtain⟨xs,m,_,_,hc,hxl,hxs⟩:=DataW.trod_array hu h
  have hlen:cs.length=n*e.size:=by rw[hc];simp[Program.cellsOf,hi,ou,Ty.size]
  have key: ∀i,i<n→ ∃x:e.den,Rd w (fun _=>False) e ((cs.drop (i*e.size)).take e.size) x∧WF e x:=fun i hi=>by
   have:=hxs i hi
   rw[auf (by omega),hse]at this
   exact ih m _ _ this
  obtain⟨l,Q4,hp⟩:=qP n key
  refine⟨l,?_,fun i h=>(hp i h).2⟩
  simp only[Rd]
  refine⟨Q4,(List.range n).map fun i=>(cs.drop (i*e.size)).take e.size,by simp,?_,fun i h h'=> ?_⟩
  ·clear hxs h key hp Q4 hu
   have: ∀m,m≤n→cs.take (m*e.size)=((List.range m).map fun i=>(cs.drop (i*e.size)).take e.size).flatten:=by
    intro m
    induction m with
    |zero=>simp
    |succ m ihm=>
     intro hm
     rw[axG,auV,List.flatten_append,←ihm (by omega)]
     simp only[auI,avS,awT,List.flatten_nil,auJ]
     rw[au9,av2,List.take_add]
   have h2:=this n (aul _)
   rw[auM (by omega)]at h2
   exact h2
  ·have:=(hp i h).1
   simpa using this
 | .int _,.inr _,h,_| .bool,.inr _,h,_| .str,.inr _,h,_| .slice _,.inr _,h,_| .arr _ _,.inr _,h,_=>by simp[dF]at h
theorem Zl{τ:Ty}{t:TypeId}{r:Reach}{b0:Nat}{v:Value}{d:DataW H}{ps:List MemPlace}(hl:gD P τ t)(hs:τ.ly=true)(hv:Value.okWide P w r b0 t v)(h:DataW.Trod enc P w 0 (fun _=>true) true t v d ps):
  ∃x:τ.den,V w (fun _=>False) τ v x∧WF τ x:=by
 obtain⟨fuel,h⟩:=h
 obtain⟨x,hx,hw⟩:=pg (H:=H) (enc:=enc) (w:=w) hl hs fuel _ _ h
 refine⟨x,?_,hw⟩
 unfold V
 cases τ with
 |int k=>
  obtain⟨n,rfl⟩:=okWide_int hl.int hv
  exact hx
 |bool=>
  obtain⟨n,rfl⟩:=okWide_bool hl.bool hv
  exact hx
 |str=>
  obtain⟨n,rfl⟩:=okWide_string hl.str hv
  exact hx
 |slice e=>
  obtain⟨e',hu,_⟩:=hl.slice
  obtain⟨a,len,cap,rfl⟩:=okWide_slice hu hv
  exact hx
 |unit=>
  simp only[gD,dF]at hl
  obtain⟨_,fs,hu,_⟩:=hl
  simp only[Value.okWide,hu]at hv
  obtain⟨cs,rfl,_⟩:=hv
  exact⟨cs,rfl,hx⟩
 |pair a b=>
  simp only[gD,dF]at hl
  obtain⟨_,fs,f,hu,_⟩:=hl
  simp only[Value.okWide,hu]at hv
  obtain⟨cs,rfl,_⟩:=hv
  exact⟨cs,rfl,hx⟩
 |arr n e=>
  obtain⟨e',hu,_⟩:=hl.arr
  simp only[Value.okWide,hu]at hv
  obtain⟨cs,rfl,_⟩:=hv
  exact⟨cs,rfl,hx⟩
def WFs:(ms:List Ty)→HP (ms.map .v)→Prop
 |[],_=>True
 |_::ms,x=>WF _ (qt x)∧WFs ms (u9 x)
def hpC:{m:AM}→{ms:List AM}→m.den→HP ms→HP (m::ms)
 |_,[],x,_=>x
 |_,_::_,x,y=>(x,y)
theorem JT{m:AM}: ∀{ms:List AM} (x:m.den) (y:HP ms),qt (hpC x y)=x
 |[],_,_=>rfl
 |_::_,_,_=>rfl
theorem JU{m:AM}: ∀{ms:List AM} (x:m.den) (y:HP ms),u9 (hpC x y)=y
 |[],_,()=>rfl
 |_::_,_,_=>rfl
theorem BB(laid:laidOutB P=true){r:Reach}{b0:Nat}: ∀{τs:List Ty} {ts:List TypeId} {vs:List Value} {ds:List (DataW H)} {ps:List MemPlace},DataW.TrodAll enc P w 0 (fun _=>true) true ts vs ds ps→
  τs.length=ts.length→(∀(j:Nat) τ t,τs[j]? =some τ→ts[j]? =some t→(gD P τ t∧τ.ly=true∧P.readableRec t=true∧t<P.types.size))→
  (∀(j:Nat) t v,ts[j]? =some t→vs[j]? =some v→Value.okWide P w r b0 t v)→
  (∃x:HP (τs.map .v),fU w (fun _=>False) (τs.map .v) x vs∧WFs τs x)∧ ∀w',Below w.heap.size w w'→ ∃AT,DataW.TrodAll enc P w' 0 (fun b=>decide (b<w.heap.size)) true ts vs ds AT
 |[],[],vs,ds,ps,h,_,_,_=>by
  obtain⟨rfl,rfl,rfl⟩:=trodAll_nil h
  exact⟨⟨(),rfl,trivial⟩,fun w' _=>⟨[],rfl⟩⟩
 |τ::τs,t::ts,vs,ds,ps,h,hl,AK,hv=>by
  obtain⟨v,DT,d,ds',p,q,rfl,rfl,rfl,h1,h2⟩:=trodAll_cons h
  obtain⟨tJ,Zm,Qp,dz⟩:=AK 0 τ t rfl rfl
  obtain⟨x,hx,hwx⟩:=Zl tJ Zm (hv 0 t v rfl rfl) h1
  obtain⟨⟨y,hy,hwy⟩,NS⟩:=BB laid h2 (by simpa using hl) (fun j τ' t' h h'=>AK (j+1) τ' t' (by simpa using h) (by simpa using h')) (fun j t' v' h h'=>hv (j+1) t' v' (by simpa using h) (by simpa using h'))
  refine⟨⟨hpC (m:= .v τ) x y,?_,?_⟩,fun w' hb=> ?_⟩
  ·show fU w _ (.v τ::τs.map .v) _ _
   simp only[fU]
   exact⟨v,DT,rfl,by rw[JT];exact hx,by rw[JU];exact hy⟩
  ·simp only[WFs]
   exact⟨by rw[JT];exact hwx,by rw[JU];exact hwy⟩
  ·obtain⟨AT,h'⟩:=NS w' hb
   have sT: ∀z∈p,z.block<w.heap.size:=by
    obtain⟨m,hm⟩:=h1
    exact DataW.trod_lt m _ _ _ hm
   exact⟨p++AT,trodAll_cons_mk (Below.trod laid Qp dz h1 hb sT) h'⟩
 |[],_::_,_,_,_,_,hl,_,_|_::_,[],_,_,_,_,hl,_,_=>by simp at hl
end
end VM
end
section
namespace VM
open Go
variable{α:Type}
noncomputable def tZ(L:Nat→Option (List (Nat×CM)))(κ:Nat→St→Option α)(i:Option Nat)(f:St→Option α):St→Option α:=
 match i with
 |none=>f
 |some i=>match L i with
  |none=>f
  |some _=>κ i
noncomputable def NT(E:Env)(κJ κL:Nat→St→Option α)(c:Code):St→(St→Option α)→(Nat→St→Option α)→(St→Option α)→Option α:=
 Code.rec (motive:=fun _=>St→(St→Option α)→(Nat→St→Option α)→(St→Option α)→Option α)
  (fun σ k _ _=>k σ)
  (fun _ ops draw σ k _ _=>xO E ops draw σ k)
  (fun _ b A B σ k kx kr=>A σ (fun σ'=>qC ((bG b).bind E.sl) σ' (tZ E.sl κJ (bG b) fun qj=>B qj k kx kr)) kx kr)
  (fun c _ _ A B σ k kx kr=>Bi E c σ (fun σ'=>A σ' k kx kr) (fun σ'=>B σ' k kx kr))
  (fun id _ A σ k kx kr=>A σ k (fun i σ'=>cond (Nat.beq i id) (k σ') (kx i σ')) kr)
  (fun b _ σ _ kx kr=>qC ((bG b).bind E.qy) σ (tZ E.qy κL (bG b) (wm ((bG b).bind E.qy) (fun σ' kn=>xP E b σ' kn kx kr) E.N)))
  (fun _ _ _ _ _ _ _ _ _ _=>none)
  (fun id σ _ kx _=>kx id σ)
  (fun _ A σ k kx kr=>A σ k kx kr)
  (fun _ σ k _ _=>k σ)
  (fun _ _ _ _ _=>none)
  (fun σ _ _ kr=>kr σ)
  (fun _ _ _ _ _=>none)
  c
noncomputable def yY(E:Env)(c:Code):(St→Option α)→(Nat→St→Option α)→(St→Option α)→List (Bool×Nat×(St→Option α)):=
 Code.rec (motive:=fun _=>(St→Option α)→(Nat→St→Option α)→(St→Option α)→List (Bool×Nat×(St→Option α)))
  (fun _ _ _=>[])
  (fun _ _ _ _ _ _=>[])
  (fun _ b A B k kx kr=>A (fun σ'=>qC ((bG b).bind E.sl) σ' fun qj=>xP E b qj k kx kr) kx kr++(((bG b).toList.map fun i=>(false,i,fun qj=>xP E b qj k kx kr))++B k kx kr))
  (fun _ _ _ A B k kx kr=>A k kx kr++B k kx kr)
  (fun id _ A k kx kr=>A k (fun i σ'=>cond (Nat.beq i id) (k σ') (kx i σ')) kr)
  (fun b _ _ kx kr=>(bG b).toList.map fun i=>(true,i,wm ((bG b).bind E.qy) (fun σ' kn=>xP E b σ' kn kx kr) E.N))
  (fun _ _ _ _ _ _ _ _ _=>[])
  (fun _ _ _ _=>[])
  (fun _ A k kx kr=>A k kx kr)
  (fun _ _ _ _=>[])
  (fun _ _ _ _=>[])
  (fun _ _ _=>[])
  (fun _ _ _ _=>[])
  c
noncomputable def qQ(E:Env)(κJ κL:Nat→St→Option α):List (Bool×Nat×(St→Option α))→List ((St→Option α)×(St→Option α))
 |[]=>[]
 |q::r=>match q.1 with
  |false=>match E.sl q.2.1 with
   |some _=>(κJ q.2.1,q.2.2)::qQ E κJ κL r
   |none=>qQ E κJ κL r
  |true=>match E.qy q.2.1 with
   |some _=>(κL q.2.1,q.2.2)::qQ E κJ κL r
   |none=>qQ E κJ κL r
def AZ(E:Env)(κJ κL:Nat→St→Option α)(l:List (Bool×Nat×(St→Option α))):Prop:= ∀p∈qQ E κJ κL l,p.1=p.2
theorem Zn{E:Env}{κJ κL:Nat→St→Option α}{l:List (Bool×Nat×(St→Option α))}(g:List (St→Option α))(h:qQ E κJ κL l=g.map fun f=>(f,f)):AZ E κJ κL l:=by
 intro p hp
 rw[h]at hp
 obtain⟨f,_,rfl⟩:=auW.1 hp
 rfl
theorem wJ{E:Env}{κJ κL:Nat→St→Option α}: ∀(l m:List (Bool×Nat×(St→Option α))),qQ E κJ κL (l++m)=qQ E κJ κL l++qQ E κJ κL m
 |[],m=>rfl
 |(b,i,f)::l,m=>by
  have ih:=wJ (E:=E) (κJ:=κJ) (κL:=κL) l m
  cases b<;>simp only[avz,qQ]<;>split<;>simp[ih]
theorem AZ.app{E:Env}{κJ κL:Nat→St→Option α}{l m:List (Bool×Nat×(St→Option α))}(h:AZ E κJ κL (l++m)):AZ E κJ κL l∧AZ E κJ κL m:=by
 unfold AZ at*
 rw[wJ]at h
 exact⟨fun p hp=>h p (auz _ hp),fun p hp=>h p (auD _ hp)⟩
theorem XC{E:Env}{κJ κL:Nat→St→Option α}{i:Option Nat}{f:St→Option α}(h:AZ E κJ κL (i.toList.map fun i=>(false,i,f))):tZ E.sl κJ i f=f:=by
 cases i with
 |none=>rfl
 |some i=>
  simp only[Option.toList,List.map,AZ,qQ]at h
  unfold tZ
  cases hL:E.sl i with
  |none=>simp[hL]
  |some L=>rw[hL]at h;simp only[hL];exact h (κJ i,f) (auE.2 rfl)
theorem aes{E:Env}{κJ κL:Nat→St→Option α}{i:Option Nat}{f:St→Option α}(h:AZ E κJ κL (i.toList.map fun i=>(true,i,f))):tZ E.qy κL i f=f:=by
 cases i with
 |none=>rfl
 |some i=>
  simp only[Option.toList,List.map,AZ,qQ]at h
  unfold tZ
  cases hL:E.qy i with
  |none=>simp[hL]
  |some L=>rw[hL]at h;simp only[hL];exact h (κL i,f) (auE.2 rfl)
theorem NU{E:Env}{κJ κL:Nat→St→Option α}(c:Code): ∀(k:St→Option α) (kx:Nat→St→Option α) (kr:St→Option α) (σ:St),AZ E κJ κL (yY E c k kx kr)→NT E κJ κL c σ k kx kr=xP E c σ k kx kr:=by
 induction c with
 |skip=>intros;rfl
 |region=>intros;rfl
 |seq a b Zk M6=>
  intro k kx kr σ h
  obtain⟨h1,h2⟩:=AZ.app (h:AZ E κJ κL (yY E a _ kx kr++(((bG b).toList.map fun i=>(false,i,fun qj=>xP E b qj k kx kr))++yY E b k kx kr)))
  obtain⟨h2,h3⟩:=AZ.app h2
  show NT E κJ κL a σ (fun σ'=>qC ((bG b).bind E.sl) σ' (tZ E.sl κJ (bG b) fun qj=>NT E κJ κL b qj k kx kr)) kx kr=xP E a σ (fun σ'=>qC ((bG b).bind E.sl) σ' fun qj=>xP E b qj k kx kr) kx kr
  have hb:(fun qj=>NT E κJ κL b qj k kx kr)=fun qj=>xP E b qj k kx kr:=funext fun qj=>M6 k kx kr qj h3
  rw[hb,XC h2]
  exact Zk _ _ _ _ h1
 |cond x a b Zk M6=>
  intro k kx kr σ h
  obtain⟨h1,h2⟩:=AZ.app (h:AZ E κJ κL (yY E a k kx kr++yY E b k kx kr))
  show Bi E x σ (fun σ'=>NT E κJ κL a σ' k kx kr) (fun σ'=>NT E κJ κL b σ' k kx kr)=Bi E x σ (fun σ'=>xP E a σ' k kx kr) (fun σ'=>xP E b σ' k kx kr)
  rw[show(fun σ'=>NT E κJ κL a σ' k kx kr)=fun σ'=>xP E a σ' k kx kr from funext fun σ'=>Zk k kx kr σ' h1,show(fun σ'=>NT E κJ κL b σ' k kx kr)=fun σ'=>xP E b σ' k kx kr from funext fun σ'=>M6 k kx kr σ' h2]
 |block id x ih=>intro k kx kr σ h;exact ih _ _ _ σ h
 |loop b _=>
  intro k kx kr σ h
  show qC ((bG b).bind E.qy) σ (tZ E.qy κL (bG b) (wm ((bG b).bind E.qy) (fun σ' kn=>xP E b σ' kn kx kr) E.N))=qC ((bG b).bind E.qy) σ (wm ((bG b).bind E.qy) (fun σ' kn=>xP E b σ' kn kx kr) E.N)
  rw[aes (h:AZ E κJ κL ((bG b).toList.map fun i=>(true,i,_)))]
 |rangeFunc=>intros;rfl
 |exit=>intros;rfl
 |scope x ih=>intro k kx kr σ h;exact ih _ _ _ σ h
 |label=>intros;rfl
 |goto=>intros;rfl
 |ret=>intros;rfl
 |refuse=>intros;rfl
noncomputable def jW(E:Env)(κJ κL:Nat→St→Option α):List Nat→Code→List (St→Option α)→St→(St→Option α)→(Nat→St→Option α)→(St→Option α)→Option α
 |[],c,_,σ,k,kx,kr=>NT E κJ κL c σ k kx kr
 |n::p,c,ks,σ,k,kx,kr=>match c with
  | .seq a b=>match n with
   |0=>jW E κJ κL p a ks σ (fun σ'=>qC ((bG b).bind E.sl) σ' (tZ E.sl κJ (bG b) fun qj=>NT E κJ κL b qj k kx kr)) kx kr
   |_=>jW E κJ κL p b ks σ k kx kr
  | .cond _ a b=>match n with
   |0=>jW E κJ κL p a ks σ k kx kr
   |_=>jW E κJ κL p b ks σ k kx kr
  | .block id c=>jW E κJ κL p c ks σ k (fun i σ'=>cond (Nat.beq i id) (k σ') (kx i σ')) kr
  | .loop b=>match ks with
   |κ::ks=>jW E κJ κL p b ks σ κ kx kr
   |[]=>none
  | .scope c=>jW E κJ κL p c ks σ k kx kr
  |_=>none
noncomputable def eC(E:Env):List Nat→Code→List (St→Option α)→(St→Option α)→(Nat→St→Option α)→(St→Option α)→List (Bool×Nat×(St→Option α))
 |[],c,_,k,kx,kr=>yY E c k kx kr
 |n::p,c,ks,k,kx,kr=>match c with
  | .seq a b=>match n with
   |0=>((bG b).toList.map fun i=>(false,i,fun qj=>xP E b qj k kx kr))++(yY E b k kx kr++eC E p a ks (fun σ'=>qC ((bG b).bind E.sl) σ' fun qj=>xP E b qj k kx kr) kx kr)
   |_=>eC E p b ks k kx kr
  | .cond _ a b=>match n with
   |0=>eC E p a ks k kx kr
   |_=>eC E p b ks k kx kr
  | .block id c=>eC E p c ks k (fun i σ'=>cond (Nat.beq i id) (k σ') (kx i σ')) kr
  | .loop b=>match ks with
   |κ::ks=>eC E p b ks κ kx kr
   |[]=>[]
  | .scope c=>eC E p c ks k kx kr
  |_=>[]
theorem jr{E:Env}{κJ κL:Nat→St→Option α}: ∀(p:List Nat) (c:Code) (ks:List (St→Option α)) (k:St→Option α) (kx:Nat→St→Option α) (kr:St→Option α) (σ:St),AZ E κJ κL (eC E p c ks k kx kr)→
  jW E κJ κL p c ks σ k kx kr=qk E p c ks σ k kx kr
 |[],c,ks,k,kx,kr,σ,h=>NU c k kx kr σ h
 |n::p,c,ks,k,kx,kr,σ,h=>by
  cases c with
  |seq a b=>
   cases n with
   |zero=>
    simp only[jW,qk,eC]at h ⊢
    obtain⟨h1,h2⟩:=AZ.app h
    obtain⟨h2,h3⟩:=AZ.app h2
    rw[show(fun qj=>NT E κJ κL b qj k kx kr)=fun qj=>xP E b qj k kx kr from funext fun qj=>NU b k kx kr qj h2,XC h1]
    exact jr p a ks _ kx kr σ h3
   |succ n=>simp only[jW,qk,eC]at h ⊢;exact jr p b ks k kx kr σ h
  |cond x a b=>
   cases n with
   |zero=>simp only[jW,qk,eC]at h ⊢;exact jr p a ks k kx kr σ h
   |succ n=>simp only[jW,qk,eC]at h ⊢;exact jr p b ks k kx kr σ h
  |block id x=>simp only[jW,qk,eC]at h ⊢;exact jr p x ks k _ kr σ h
  |loop b=>
   cases ks with
   |nil=>simp only[jW,qk]
   |cons κ ks=>simp only[jW,qk,eC]at h ⊢;exact jr p b ks κ kx kr σ h
  |scope x=>simp only[jW,qk,eC]at h ⊢;exact jr p x ks k kx kr σ h
  |_=>simp only[jW,qk]
noncomputable def yZ(fn:Func):Code:=fn.body.getD .skip
noncomputable def EK(E:Env)(fn:Func)(args res:List AM):St→Option (HP res):=fun σ=>Cq E res (fn.results.toList.map .inl++vj args 0) σ some
noncomputable def nox:Nat→St→Option α:=fun _ _=>none
noncomputable def aqJ:St→Option α:=fun _=>none
noncomputable def Zo(E:Env)(fn:Func)(args res:List AM)(p:List Nat)(ks:List (St→Option (HP res)))(σ:St):Option (HP res):=
 qk E p (yZ fn) ks σ (EK E fn args res) nox (EK E fn args res)
noncomputable def atQ(E:Env)(fn:Func)(args res:List AM)(κJ κL:Nat→St→Option (HP res))(p:List Nat)(ks:List (St→Option (HP res)))(σ:St):Option (HP res):=
 jW E κJ κL p (yZ fn) ks σ (EK E fn args res) nox (EK E fn args res)
noncomputable def Rt(E:Env)(fn:Func)(args res:List AM)(p:List Nat)(ks:List (St→Option (HP res))):List (Bool×Nat×(St→Option (HP res))):=
 eC E p (yZ fn) ks (EK E fn args res) nox (EK E fn args res)
theorem ajR{E:Env}{fn:Func}{args res:List AM}{κJ κL:Nat→St→Option (HP res)}{p:List Nat}{ks:List (St→Option (HP res))}(g:List (St→Option (HP res)))(h:qQ E κJ κL (Rt E fn args res p ks)=g.map fun f=>(f,f))(σ:St):
 Zo E fn args res p ks σ=atQ E fn args res κJ κL p ks σ:=(jr p _ ks _ _ _ σ (Zn g h)).symm
theorem Zp{E:Env}{fn:Func}{args res:List AM}(hb:fn.body.isSome=true)(x:HP args):Ho E fn args res x=Zo E fn args res [] [] (entry args x 0 S0):=by
 unfold Ho Zo yZ
 cases h:fn.body with
 |none=>rw[h]at hb;cases hb
 |some c=>rfl
noncomputable def lpF(E:Env)(fn:Func)(args res:List AM)(c:List (Nat×CM))(p:List Nat)(ks:List (St→Option (HP res)))(n:Nat):St→Option (HP res):=
 wm (some c) (fun σ kn=>Zo E fn args res p (ks++[kn]) σ) n
theorem NV(E:Env)(fn:Func)(args res:List AM)(c:List (Nat×CM))(p:List Nat)(ks:List (St→Option (HP res)))(n:Nat)(σ:St):
 lpF E fn args res c p ks (n+1) σ=Zo E fn args res p (ks++[fun σ'=>qC (some c) σ' (lpF E fn args res c p ks n)]) σ:=rfl
def NW{β:Type}(κ:Nat→β):List (Nat×β)→Prop
 |[]=>True
 |q::r=>κ q.1=q.2∧NW κ r
def Lh{β:Type}:List (β×β)→Prop
 |[]=>True
 |q::r=>q.1=q.2∧Lh r
theorem Lh.mem{β:Type}: ∀{l:List (β×β)},Lh l→ ∀p∈l,p.1=p.2
 |q::r,h,p,hp=>by
  rcases auy.1 hp with rfl|hp
  ·exact h.1
  ·exact Lh.mem h.2 p hp
theorem aet{β:Type}(d:β): ∀(l:List (Nat×β)),(l.map (·.1)).Nodup→ ∃κ:Nat→β,NW κ l
 |[],_=>⟨fun _=>d,trivial⟩
 |q::r,h=>by
  rw[auI,axH]at h
  obtain⟨κ,hκ⟩:=aet d r h.2
  refine⟨fun i=>if i=q.1 then q.2 else κ i,by simp,?_⟩
  have key: ∀(r':List (Nat×β)),(∀p∈r',p∈r)→NW κ r'→NW (fun i=>if i=q.1 then q.2 else κ i) r':=by
   intro r'
   induction r' with
   |nil=>intros;trivial
   |cons p r' ih=>
    intro hm ha
    refine⟨?_,ih (fun p' so=>hm p' (auk _ so)) ha.2⟩
    have fL:p.1≠q.1:=fun e=>h.1 (e▸au8 (hm p (auo ..)))
    show(if p.1=q.1 then q.2 else κ p.1)=p.2
    rw[aui fL]
    exact ha.1
  exact key r (fun _ h=>h) hκ
theorem aoD{β:Type}(d:β)(l:List (Nat×β)){ks:List Nat}(h:l.map (·.1)=ks)(hd:ks.Nodup): ∃κ:Nat→β,NW κ l:=aet d l (h▸hd)
theorem at_eq(E:Env)(fn:Func)(args res:List AM){κJ κL:Nat→St→Option (HP res)}{p:List Nat}{ks:List (St→Option (HP res))}{l:List ((St→Option (HP res))×(St→Option (HP res)))}(h:qQ E κJ κL (Rt E fn args res p ks)=l)(hl:Lh l)(σ:St):
 Zo E fn args res p ks σ=atQ E fn args res κJ κL p ks σ:=(jr p _ ks _ _ _ σ (by unfold AZ;rw[show qQ E κJ κL (eC E p (yZ fn) ks (EK E fn args res) nox (EK E fn args res))=l from h];exact hl.mem)).symm
end VM
end
section
namespace VM
open Go Go.RowKit
variable{P:Program}
def EL(i:Nat):List (Nat×Ty)→Option Ty
 |[]=>none
 |q::r=>cond (Nat.beq i q.1) (some q.2) (EL i r)
theorem BC{i:Nat}{τ:Ty}: ∀{l:List (Nat×Ty)},EL i l=some τ→(i,τ)∈l
 |q::r,h=>by
  unfold EL at h
  cases hb:Nat.beq i q.1<;>rw[hb]at h
  ·exact auk _ (BC h)
  ·cases h;rw[auN hb];exact auo ..
structure y3(P:Program)(tab:List (Nat×Ty)):Prop where
 ok:aen P tab=true
 mixed:P.follows .mixedOrders=true
theorem Li{E:Env}(hE:oH P E)(ajT:E.io=[]){f:FuncId}{fn:Func}(hf:P.funcs[f]? =some fn)(τs:List Ty)
  (hc:(Nat.beq E.nt fn.ntmps&&Nat.ble τs.length E.nt)=true) {w:World} {vs:List Value} {x:HP (τs.map .v)} (hA:fU w (fun _=>False) (τs.map .v) x vs)
  (h:Ho E fn (τs.map .v) [.v .bool] x=some true):Calls P f vs.toArray w fun e w'=>e= .returned (.bool true)∧Below w.heap.size w w':=by
 rw[aus]at hc
 have hnt:=auN hc.1
 have hlen:=aw0 hc.2
 have hh: ∀(τs:List Ty) (vs:List Value),cD (τs.map .v) vs=[]:=by
  intro τs
  induction τs with
  |nil=>intro vs;cases vs<;>rfl
  |cons τ τs ih=>intro vs;cases vs with
   |nil=>rfl
   |cons v vs=>simp[cD,ct,ih]
 have hi: ∀(τs:List Ty) (vs:List Value),dr (τs.map .v) vs=[]:=by
  intro τs
  induction τs with
  |nil=>intro vs;cases vs<;>rfl
  |cons τ τs ih=>intro vs;cases vs with
   |nil=>rfl
   |cons v vs=>simp[dr,AM.fF,ih]
 refine(By (M0:=fun _=>False) (vs:=vs) hE hf hnt (fun i m hm rH=> ?_) (fun i hi=>by rw[ajT]at hi;cases hi) (by rw[auH];rw[←hnt];exact hlen) (fun b hb=>hb.elim) (by rw[hh];simpa using hA) (by rw[hh];exact List.nodup_nil) (fun b _ hb=>hb) h).mono ?_
 ·rw[avw]at hm
  obtain⟨τ,_,rfl⟩:=awo.1 hm
  cases rH
 ·rintro e w' ⟨v,rfl,us,M',rfl,MN,hL,_,_⟩
  rw[hh]at hL
  rw[hi]at MN
  simp only[RR]at MN
  rcases MN with⟨p,AT,h1,_⟩|⟨v,DT,_,_,rfl,hv,rfl,_⟩
  ·cases h1
  ·refine⟨?_,hL.os,hL.tape,hL.output,hL.size,fun b hb=>hL.frame b hb (by simp)⟩
   have:v= .bool true:=by
    simp only[A1,V,Ty.isAgg,au6,avQ,Rd,auZ,avB]at hv
    exact hv
   rw[this];rfl
def NX(P:Program):List Ty→List TypeId→Bool
 |[],[]=>true
 |τ::τs,t::ts=>(oJ P τ (.inl t)&&τ.ly)&&((P.readableRec t&&decide (t<P.types.size))&&NX P τs ts)
 |_,_=>false
theorem CL: ∀{τs:List Ty} {ts:List TypeId},NX P τs ts=true→τs.length=ts.length∧ ∀(j:Nat) τ t,τs[j]? =some τ→ts[j]? =some t→(gD P τ t∧τ.ly=true∧P.readableRec t=true∧t<P.types.size)
 |[],[],_=>⟨rfl,fun j τ t h=>by simp at h⟩
 |τ::τs,t::ts,h=>by
  simp only[NX,aus]at h
  obtain⟨⟨h1,h2⟩,⟨h3,h4⟩,h5⟩:=h
  obtain⟨hl,ih⟩:=CL h5
  refine⟨by simp[hl],fun j τ' t' ha hb=> ?_⟩
  cases j with
  |zero=>
   simp only[axw,avb]at ha hb
   subst ha;subst hb
   exact⟨eg h1,h2,h3,auw h4⟩
  |succ j=>exact ih j τ' t' (by simpa using ha) (by simpa using hb)
 |[],_::_,h|_::_,[],h=>by simp[NX]at h
theorem NY{H:Type}{enc:TypeId×Value→H}{w:World}{fn:Func}{args:Array Value}{ds:List (DataW H)}{ps:List MemPlace}{r:Reach}{b0:Nat}(laid:laidOutB P=true)(τs:List Ty)
  (hA:DataW.TrodAll enc P w 0 (fun _=>true) true fn.params.toList args.toList ds ps) (AK:NX P τs fn.params.toList=true)
  (hv: ∀(j:Nat) t v,fn.params[j]? =some t→args[j]? =some v→Value.okWide P w r b0 t v):
  (∃x:HP (τs.map .v),fU w (fun _=>False) (τs.map .v) x args.toList∧WFs τs x)∧ ∀w',Below w.heap.size w w'→ ∃AT,DataW.TrodAll enc P w' 0 (fun b=>decide (b<w.heap.size)) true fn.params.toList args.toList ds AT:=
 BB laid hA (CL AK).1 (CL AK).2 (fun j t v h h'=>hv j t v (by rw[auS]at h;exact h) (by rw[auS]at h';exact h'))
end VM
end
