/- A part of the proof of HedgeDrawn of layer 22: a machine that reads a function of the program as an equation between values. -/
import Derived.Test.YtocmlaipoebfeaaGreatVm5
import Derived.Laws.StructEq
import Derived.OpenShut
import Derived.ChangeShapes
import Derived.ChangeMaps5
import Derived.RowKit
import Derived.ChangeOld
import Derived.Carry
import Derived.Below
import Derived.Test.YtocmlaipoebfeaaGreatVm0
set_option linter.all false
section
namespace VM
open Go
variable{P:Program}{E:Env}{o:Oper}{a:Act}{w:World}{M:Nat→Prop}{ν:Nat→Value}{σ:St}{c:Ctx}{α:Type}{r:α}{next:Act→World→Prop}{Q:Exit→Act→World→Prop}
theorem yb{L:Option (List (Nat×CM))}(hL: ∀L',L=some L'→gJ L'=true){b:Code}{Q:Exit→Act→World→Prop}{step:St→(St→Option α)→Option α}
  (hs: ∀σ a w kn (Q':Exit→Act→World→Prop),Inv c E σ a w→step σ kn=some r→(∀σ' a' w',kn σ'=some r→Inv c E σ' a' w'→Q' .normal a' w')→(∀e a' w',e≠ .normal→Q e a' w'→Q' e a' w')→b.wp P Q' a w):
  ∀n σ a w,Inv c E σ a w→xN L step n σ=some r→Code.rounds P b Q n a w
 |0,σ,a,w,_,h=>by cases h
 |n+1,σ,a,w,hI,h=>by
  rw[rounds_succ]
  refine hs σ a w _ _ hI h (fun σ' a' w' h' tY=> ?_) (fun e a' w' he hq=> ?_)
  ·obtain⟨rJ,MX,acV⟩:=ux tY hL h'
   exact yb hL hs n rJ a' w' acV MX
  ·cases e<;>first|exact hq|exact absurd rfl he
theorem OC(hE:o3 P E): ∀(cd:Code) (σ:St) (a:Act) (w:World) (k:St→Option α) (kx:Nat→St→Option α) (kr:St→Option α) (Q:Exit→Act→World→Prop),Inv c E σ a w→zz E cd σ k kx kr=some r→
  (∀σ' a' w',k σ'=some r→Inv c E σ' a' w'→Q .normal a' w')→(∀i σ' a' w',kx i σ'=some r→Inv c E σ' a' w'→Q (.exit i) a' w')→(∀σ' a' w',kr σ'=some r→Inv c E σ' a' w'→Q .ret a' w')→cd.wp P Q a w:=by
 intro cd
 induction cd with
 |skip=>intro σ a w k kx kr Q hI h hk _ _;exact wp_skip (hk σ a w h hI)
 |region id ops draw=>intro σ a w k kx kr Q hI h hk _ _;exact CO hE hI h hk
 |seq x y ihx ihy=>
  intro σ a w k kx kr Q hI h hk hx hr
  refine wp_seq (ihx σ a w _ kx kr _ hI h (fun σ' a' w' h' tY=> ?_) hx hr)
  obtain⟨rJ,MX,acV⟩:=ux tY (fun L' hL=>by
   cases hf:bV y with
   |none=>rw[hf]at hL;cases hL
   |some i=>rw[hf]at hL;exact hE.QS i L' hL) h'
  exact ihy rJ a' w' k kx kr Q acV MX hk hx hr
 |cond x t e iht ihe=>
  intro σ a w k kx kr Q hI h hk hx hr
  obtain⟨b,hb,h⟩:=Hf (E:=E) (A:=fun σ'=>zz E t σ' k kx kr) (B:=fun σ'=>zz E e σ' k kx kr) hI h
  refine wp_cond hb ?_
  cases b
  ·exact ihe σ a w k kx kr Q hI h hk hx hr
  ·exact iht σ a w k kx kr Q hI h hk hx hr
 |block id x ih=>
  intro σ a w k kx kr Q hI h hk hx hr
  refine wp_block (ih σ a w k _ kr _ hI h hk (fun i σ' a' w' h' tY=> ?_) hr)
  show if i=id then Q .normal a' w' else Q (.exit i) a' w'
  cases hb:Nat.beq i id
  ·have gq:i≠id:=fun e=>by subst e;rw[show Nat.beq i i=true from aBl i]at hb;cases hb
   rw[hb]at h'
   rw[ayE gq]
   exact hx i σ' a' w' h' tY
  ·rw[hb]at h'
   rw[ayF (ay9 hb)]
   exact hk σ' a' w' h' tY
 |loop b ih=>
  intro σ a w k kx kr Q hI h hk hx hr
  have hL: ∀L',(bV b).bind E.rU=some L'→gJ L'=true:=fun L' hL=>by
   cases hf:bV b with
   |none=>rw[hf]at hL;cases hL
   |some i=>rw[hf]at hL;exact hE.gJ i L' hL
  obtain⟨σ',h',tY⟩:=ux hI hL h
  refine wp_loop_rounds E.N (yb hL (fun σ a w kn Q' hI h hkn hq=> ?_) E.N σ' a w tY h')
  exact ih σ a w kn kx kr Q' hI h hkn (fun i σ' a' w' h' tY=>hq _ _ _ (by simp) (hx i σ' a' w' h' tY)) (fun σ' a' w' h' tY=>hq _ _ _ (by simp) (hr σ' a' w' h' tY))
 |rangeFunc f ps x y ihx ihy=>intro σ a w k kx kr Q hI h;cases h
 |exit id=>intro σ a w k kx kr Q hI h hk hx hr;exact wp_exit (hx id σ a w h hI)
 |scope x ih=>
  intro σ a w k kx kr Q hI h hk hx hr
  exact wp_scope_straight (ih σ a w k kx kr _ hI h hk hx hr)
 |label l=>intro σ a w k kx kr Q hI h hk _ _;exact wp_label (hk σ a w h hI)
 |goto l=>intro σ a w k kx kr Q hI h;cases h
 |ret=>intro σ a w k kx kr Q hI h hk hx hr;exact wp_ret (hr σ a w h hI)
 |refuse s=>intro σ a w k kx kr Q hI h;cases h
end VM
end
section
namespace VM
open Go
variable{P:Program}{E:Env}{o:Oper}{a:Act}{w:World}{M:Nat→Prop}{ν:Nat→Value}{σ:St}{c:Ctx}{α:Type}{r:α}{next:Act→World→Prop}{Q:Exit→Act→World→Prop}
theorem K4{m:AM}{ms:List AM}(x:HP (m::ms))(i:Nat)(σ:St):entry (m::ms) x i σ=entry ms (wP x) (i+1) (KO m (rQ x) i σ):=by
 cases ms with
 |nil=>simp[entry,rQ]
 |cons n ms=>simp[entry,rQ,wP]
theorem Core.xW{tm:Array Value}(h:Core c σ tm w M ν){id:Nat}{v:Value}{e:aS}(aV:σ.H id=none)(N5:ER w M v e)
  (hd: ∀b,eJ v=some b→ ∀i e',σ.H i=some e'→e'.mut→eJ (ν i)≠some b) (hn: ∀b,eJ v=some b→c.B≤b∨c.may b) (ho: ∀b e0 l0,e= .own e0 l0→eJ v=some b→ ¬c.M0 b)
  (pT: ∀τ x p j,e= .ej τ x p j→bz σ.H id (some e) j≠none∧ ∃b,v= .pointer (some ⟨b,0,none⟩)∧w.cell? ⟨b,bQ p τ,none⟩=some (cF ν id v j):=by intro _ _ _ _ h;cases h):
  Core c ⟨σ.T,bz σ.H id (some e)⟩ tm w M (cF ν id v):=by
 have hm:=Mem.xW h.mem (id:=id) (v:=v) (e:=e) (fun e' tV=>by rw[aV]at tV;cases tV) N5 hd hn ho (.inl aV) pT
 refine h.tr ⟨hm,.refl w M,⟨fun i e1 hi=> ?_,fun i hi=> ?_⟩⟩
 ·have bC:i≠id:=fun e=>by rw[e,aV]at hi;cases hi
  exact⟨e1,by rw[an _ _ bC];exact hi,.refl e1⟩
 ·have bC:i≠id:=fun e=>hi (e▸aV)
  simp[cF,bC]
theorem Core.put{tm:Array Value}(h:Core c σ tm w M ν){d:Nat}{x:bb}(hx:VR w M σ.H ν x (tm.getD d undef)):Core c (σ.put d x) tm w M ν:=by
 refine⟨h.mem,fun i=> ?_⟩
 by_cases hi:i=d
 ·subst hi;rw[qB];exact hx
 ·rw[vy _ _ hi];exact h.tmp i
theorem yc{tm:Array Value}: ∀{ms:List AM} {x:HP ms} {vs:List Value} {i:Nat} {σ:St} {ν:Nat→Value} {used:List Nat},Core c σ tm w M ν→gr w M ms x vs→(∀j v,vs[j]? =some v→tm.getD (i+j) undef=v)→
  (∀j,16*i≤j→σ.H j=none)→(∀j e b,σ.H j=some e→e.mut→eJ (ν j)=some b→b∈used)→(used++cW ms vs).Nodup→(∀b∈cW ms vs,c.may b)→(∀b,c.may b→ ¬c.M0 b)→
  ∃ν',Core c (entry ms x i σ) tm w M ν'
 |[],x,vs,i,σ,ν,used,h,_,_,_,_,_,_,_=>⟨ν,h⟩
 |m::ms,x,vs,i,σ,ν,used,h,hA,Ky,iH,Dt,vx,K5,GN=>by
  rw[K4]
  simp only[gr]at hA
  obtain⟨v,Gt,rfl,h1,h2⟩:=hA
  have hv:tm.getD i undef=v:=by simpa using Ky 0 v rfl
  have Ho: ∀j u,Gt[j]? =some u→tm.getD (i+1+j) undef=u:=fun j u hj=>by
   have:=Ky (j+1) u (by simpa using hj)
   rwa [show i+(j+1)=i+1+j from by omega]at this
  have aV:σ.H (16*i+15)=none:=iH _ (by omega)
  have acW:cW (m::ms) (v::Gt)=cN m v++cW ms Gt:=rfl
  rw[acW]at vx K5
  have sk: ∀b,b∈cN m v→ ∀j e',σ.H j=some e'→e'.mut→eJ (ν j)≠some b:=fun b hb j e' hj gY dN=>
   nC vx (Dt j e' b hj gY dN) (ayZ _ hb)
  have tX: ∀{σ':St} {ν':Nat→Value},Core c σ' tm w M ν'→(∀j,16*(i+1)≤j→σ'.H j=none)→(∀j e b,σ'.H j=some e→e.mut→eJ (ν' j)=some b→b∈used++cN m v)→ ∃ν'',Core c (entry ms (wP x) (i+1) σ') tm w M ν'':=
   fun h' yU U0=>yc h' h2 Ho yU U0 (by rw[ayP];exact vx) (fun b hb=>K5 b (ay3 _ hb)) GN
  have Ou: ∀(e:aS) (v':Value),v'=v→(∀b,eJ v=some b→b∈cN m v)→(∀j,16*(i+1)≤j→bz σ.H (16*i+15) (some e) j=none)∧
    (∀j e1 b,bz σ.H (16*i+15) (some e) j=some e1→e1.mut→eJ (cF ν (16*i+15) v' j)=some b→b∈used++cN m v):=by
   rintro e v' rfl hb
   refine⟨fun j hj=>by rw[an _ _ (by omega)];exact iH j (by omega),fun j e1 b hj gY dN=> ?_⟩
   by_cases uA:j=16*i+15
   ·subst uA
    simp only[cF,aBc]at dN
    exact ay3 _ (hb b dN)
   ·rw[an _ _ uA]at hj
    simp only[cF,uA,aAt]at dN
    exact ayZ _ (Dt j e1 b hj gY dN)
  cases m with
  |v τ=>
   refine tX (σ':=σ.put i (.val τ (rQ x))) (h.put ?_) (fun j hj=>iH j (by omega)) (fun j e b hj gY dN=>ayZ _ (Dt j e b hj gY dN))
   simp only[VR,hv];exact h1
  |fn f τ=>
   refine tX (σ':=σ.put i (.GB f (mY τ (rQ x)))) (h.put ?_) (fun j hj=>iH j (by omega)) (fun j e b hj gY dN=>ayZ _ (Dt j e b hj gY dN))
   rw[hv]
   simp only[A1,VR]at h1 ⊢
   obtain⟨us,hu,Ks⟩:=h1
   exact⟨us,hu,fX.free Ks⟩
  |own e=>
   have tW: ∀b,eJ v=some b→b∈cN (.own e) v:=fun b hb=>by simp[cN,hb]
   have hc:=h.xW aV (v:=v) (e:= .own e (rQ x)) h1 (fun b hb=>sk b (tW b hb)) (fun b hb=> .inr (K5 b (ayZ _ (tW b hb)))) (fun b _ _ _ hb=>GN b (K5 b (ayZ _ (tW b hb))))
   obtain⟨yU,U0⟩:=Ou (.own e (rQ x)) v rfl tW
   refine tX (σ':=(σ.put i (.ref (16*i+15))).ix (16*i+15) (some (.own e (rQ x)))) (ν':=cF ν (16*i+15) v) (hc.put (d:=i) (x:= .ref (16*i+15)) ?_) yU U0
   simp only[VR,hv]
   exact⟨by rw[al];simp,by simp[cF]⟩
  |io τ=>
   have tW: ∀b,eJ v=some b→b∈cN (.io τ) v:=fun b hb=>by simp[cN,hb]
   have hc:=h.xW aV (v:=v) (e:= .obj τ (rQ x)) h1 (fun b hb=>sk b (tW b hb)) (fun b hb=> .inr (K5 b (ayZ _ (tW b hb)))) (fun b _ _ he=>by cases he)
   obtain⟨yU,U0⟩:=Ou (.obj τ (rQ x)) v rfl tW
   refine tX (σ':=(σ.put i (.fW (16*i+15) [])).ix (16*i+15) (some (.obj τ (rQ x)))) (ν':=cF ν (16*i+15) v) (hc.put (d:=i) (x:= .fW (16*i+15) []) ?_) yU U0
   simp only[A1,ER]at h1
   obtain⟨b,cs,t,QO,_⟩:=h1
   simp only[VR,hv]
   exact⟨_,al _ _ _,trivial,b,by simp[cF,QO],QO⟩
  |fW τ=>
   refine tX (σ':=σ.put i (.nK τ (rQ x))) (h.put ?_) (fun j hj=>iH j (by omega)) (fun j e b hj gY dN=>ayZ _ (Dt j e b hj gY dN))
   rw[hv]
   simp only[A1,VR]at h1 ⊢
   exact h1
  |ptr τ=>
   refine tX (σ':=σ) h (fun j hj=>iH j (by omega)) (fun j e b hj gY dN=>ayZ _ (Dt j e b hj gY dN))
def sl(tm:Array Value):ResultVar→Sem Value
 | .tmp t=>pure (tm.getD t undef)
 | .cell x t=>do loadVar t (←asAddr (tm.getD x undef))
def y8(P:Program)(tm:Array Value)(w:World)(rv:ResultVar)(u:Value):Prop:=(sl tm rv).run P w= .ok u w
def Gv(P:Program)(tm:Array Value)(w:World):List (ResultVar ⊕ Nat)→List Value→List Value→Prop
 |[],us,ps=>us=[]∧ps=[]
 | .inl rv::rs,us,ps=> ∃u E0,us=u::E0∧y8 P tm w rv u∧Gv P tm w rs E0 ps
 | .inr i::rs,us,ps=> ∃p CI,ps=p::CI∧p=tm.getD i undef∧Gv P tm w rs us CI
theorem Core.U1{tm:Array Value}{H1:Nat→Option aS}{M1:Nat→Prop}(h: ∀i,VR w M σ.H ν (σ.T i) (tm.getD i undef))(k:dy w M w M1)(g:pC σ.H ν H1 ν): ∀i,VR w M1 H1 ν (σ.T i) (tm.getD i undef):=
 fun i=>VR.bD k g (h i)
theorem yd(hE:EnvTy P E){tm:Array Value}{H0 Hq:Nat→Option aS}{M1:Nat→Prop}{uo uf:fN}{io:List (Nat×Ty)}{hs:List Nat}(h:iG c w M ν H0 σ.H Hq M1 uo uf io hs)(ht: ∀i,VR w M1 σ.H ν (σ.T i) (tm.getD i undef))
  {m:AM} {rs:ResultVar ⊕ Nat} {k:m.den→St→Option α} (hk:Df E m rs σ k=some r):
  ∃y σ' Gn Gp Cm Qh M2 u,k y σ'=some r∧σ'.T=σ.T∧iG c w M ν H0 σ'.H Qh M2 Gn Gp Cm (hs++cN m u)∧dy w M1 w M2∧pC σ.H ν σ'.H ν∧A1 w M2 m y u∧
   ((m.fY=false∧m.UH=false∧ ∃rv,rs= .inl rv∧y8 P tm w rv u)∨(m.fY=true∧ ∃i,rs= .inr i∧u=tm.getD i undef)):=by
 unfold Df at hk
 split at hk
 ·
  rename_i τ t k
  obtain⟨y,rd,ups,hk,hy⟩:=zD h.mem (ht t) hk
  have K6:y8 P tm w (.tmp t) (tm.getD t undef):=by simp[y8,sl]
  rcases hy with⟨rfl,hV⟩|⟨id,e,l,rfl,aV,hV⟩
  ·exact⟨y,σ,uo,uf,io,Hq,M1,_,hk,rfl,by simpa [cN]using h,.refl w M1,.refl _ ν,hV,.inl ⟨rfl,rfl,_,rfl,K6⟩⟩
  ·obtain⟨M2,hA,hK,EP⟩:=h.freeze aV
   exact⟨y,_,uo,_,io,Hq,M2,_,hk,rfl,(by simp only[cN,ay2];exact hA),hK,.upd aV ⟨rfl,rfl⟩,hV M2 EP,.inl ⟨rfl,rfl,_,rfl,K6⟩⟩
 ·
  rename_i τ x t k
  split at hk
  ·rename_i τ' CC
   obtain⟨e1,hk1⟩:=dY hk
   clear hk
   subst e1
   obtain⟨υ,z,rd,hk,b,off,cs,hv,lG,iu⟩:=xQ h.mem (ht x) hk1
   obtain⟨e2,T8⟩:=bg hk
   subst e2
   refine⟨_,σ,uo,uf,io,Hq,M1,bU _ cs,T8,rfl,by simpa [cN]using h,.refl w M1,.refl _ ν,V.bU iu,.inl ⟨rfl,rfl,_,rfl,?_⟩⟩
   simp only[y8,sl,hv]
   simp[asAddr,xP (hE.ty t _ CC) lG iu]
  ·cases hk
 ·
  rename_i e t k
  have hv:=ht t
  have K6:y8 P tm w (.tmp t) (tm.getD t undef):=by simp[y8,sl]
  split at hk
  ·rename_i hT
   rw[hT]at hv
   obtain⟨ad,hv⟩:=VR.emp.1 hv
   have hb:eJ (.slice ad 0 0)=none:=by cases ad<;>simp[eJ]
   exact⟨[],σ,uo,uf,io,Hq,M1,_,hk,rfl,by rw[hv];simpa [cN,hb]using h,.refl w M1,.refl _ ν,by rw[hv];simp only[A1,ER];exact .inl ⟨trivial,ad,rfl⟩,.inl ⟨rfl,rfl,_,rfl,K6⟩⟩
  ·rename_i id hT
   rw[hT]at hv
   simp only[VR]at hv
   split at hk
   ·rename_i e' l aV
    obtain⟨e1,hk⟩:=bg hk
    cases e1
    refine⟨_,_,_,uf,io,_,M1,ν id,hk,rfl,(by simp only[cN];exact h.hand aV),.refl w M1,.upd aV (aS.kY _),h.mem.jr id _ aV,.inl ⟨rfl,rfl,_,rfl,by rw[←hv.2];exact K6⟩⟩
   ·cases hk
  ·cases hk
 ·
  rename_i τ i k
  have hv:=ht i
  split at hk
  ·rename_i id hT
   rw[hT]at hv
   split at hk
   ·rename_i υ z aV
    obtain⟨e1,hk⟩:=bg hk
    subst e1
    simp only[VR]at hv
    obtain⟨e,he,kJ⟩:=hv
    rw[aV]at he;cases he
    simp only[AR]at kJ
    obtain⟨_,b,hb,hv⟩:=kJ
    have QO:tm.getD i undef=ν id:=by rw[hv,hb];rfl
    refine⟨_,_,uo,uf,_,_,M1,ν id,hk,rfl,(by simp only[cN];exact h.acF aV),.refl w M1,.upd aV (aS.kY _),h.mem.jr id _ aV,.inr ⟨rfl,i,rfl,QO.symm⟩⟩
   ·cases hk
  ·cases hk
 ·
  rename_i τ t k
  have hv:=ht t
  have K6:y8 P tm w (.tmp t) (tm.getD t undef):=by simp[y8,sl]
  split at hk
  ·rename_i id hT
   rw[hT]at hv
   split at hk
   ·rename_i υ z aV
    obtain⟨e1,hk⟩:=bg hk
    subst e1
    simp only[VR]at hv
    obtain⟨e,he,kJ⟩:=hv
    rw[aV]at he;cases he
    simp only[AR]at kJ
    obtain⟨_,b,hb,hv⟩:=kJ
    have QO:tm.getD t undef=ν id:=by rw[hv,hb];rfl
    refine⟨_,_,uo,uf,_,_,M1,ν id,hk,rfl,(by simp only[cN];exact h.acF aV),.refl w M1,.upd aV (aS.kY _),h.mem.jr id _ aV,.inl ⟨rfl,rfl,_,rfl,by rw[←QO];exact K6⟩⟩
   ·cases hk
  ·cases hk
 ·cases hk
theorem AG(hE:EnvTy P E){tm:Array Value}{H0:Nat→Option aS}: ∀{ms:List AM} {rs:List (ResultVar ⊕ Nat)} {σ:St} {Hq:Nat→Option aS} {M1:Nat→Prop} {uo uf:fN} {io:List (Nat×Ty)} {hs:List Nat} {K:HP ms→Option α},
  iG c w M ν H0 σ.H Hq M1 uo uf io hs→(∀i,VR w M1 σ.H ν (σ.T i) (tm.getD i undef))→EI E ms rs σ K=some r→
  ∃y us ps H2 Gn Gp Cm Qh M2,K y=some r∧iG c w M ν H0 H2 Qh M2 Gn Gp Cm (hs++bk ms us ps)∧dy w M1 w M2∧RR w M2 ms y us ps∧Gv P tm w rs us ps
 |[],[],σ,Hq,M1,uo,uf,io,hs,K,h,ht,hk=>⟨(),[],[],σ.H,uo,uf,io,Hq,M1,hk,by simpa [bk]using h,.refl w M1,⟨rfl,rfl⟩,⟨rfl,rfl⟩⟩
 |[m],[q],σ,Hq,M1,uo,uf,io,hs,K,h,ht,hk0=>by
  obtain⟨y,σ',Gn,Gp,Cm,Qh,M2,u,hk,hT,hA,hK,hG,hy,hu⟩:=yd hE h ht (hk0:Df E m q σ _=some r)
  clear hk0
  rcases hu with⟨h1,h2,rv,rfl,hv⟩|⟨h1,i,rfl,hv⟩
  ·refine⟨y,[u],[],_,_,_,_,_,M2,hk,by simpa [bk,h1]using hA,hK,?_,?_⟩
   ·simp only[RR];exact .inr ⟨u,[],h1,h2,rfl,hy,by simp⟩
   ·simp only[Gv];exact⟨u,[],rfl,hv,by simp⟩
  ·refine⟨y,[],[u],_,_,_,_,_,M2,hk,by simpa [bk,h1]using hA,hK,?_,?_⟩
   ·simp only[RR];exact .inl ⟨u,[],h1,rfl,hy,by simp⟩
   ·simp only[Gv];exact⟨u,[],rfl,hv,by simp⟩
 |m::n::ms,q::rs,σ,Hq,M1,uo,uf,io,hs,K,h,ht,hk0=>by
  obtain⟨y,σ',Gn,Gp,Cm,Qh,M2,u,hk1,hT,hA,hK,hG,hy,hu⟩:=yd hE h ht (hk0:Df E m q σ _=some r)
  obtain⟨ys,us,ps,H3,uo3,uf3,io3,Hq3,M3,hk,hA3,hK3,hys,hrs⟩:=AG (ms:=n::ms) hE hA (fun i=>by rw[hT];exact Core.U1 ht hK hG i) hk1
  have Dq:A1 w M3 m y u:=A1.sj hK3 (fun b hb=>⟨rfl,hA3.hM b (ayZ _ (ay3 _ hb))⟩) hy
  clear hk0
  rcases hu with⟨h1,h2,rv,rfl,hv⟩|⟨h1,i,rfl,hv⟩
  ·refine⟨(y,ys),u::us,ps,H3,uo3,uf3,io3,Hq3,M3,hk,?_,hK.trans hK3,?_,?_⟩
   ·have:bk (m::n::ms) (u::us) ps=cN m u++bk (n::ms) us ps:=by rw[bk];simp[h1]
    rw[this,←ayP];exact hA3
   ·rw[RR];exact .inr ⟨u,us,h1,h2,rfl,Dq,hys⟩
   ·simp only[Gv];exact⟨u,us,rfl,hv,hrs⟩
  ·refine⟨(y,ys),us,u::ps,H3,uo3,uf3,io3,Hq3,M3,hk,?_,hK.trans hK3,?_,?_⟩
   ·have:bk (m::n::ms) us (u::ps)=cN m u++bk (n::ms) us ps:=by rw[bk];simp[h1]
    rw[this,←ayP];exact hA3
   ·rw[RR];exact .inl ⟨u,ps,h1,rfl,Dq,hys⟩
   ·simp only[Gv];exact⟨u,ps,rfl,hv,hrs⟩
 |[],_::_,_,_,_,_,_,_,_,_,_,_,hk=>by simp[EI]at hk
 |[_],[],_,_,_,_,_,_,_,_,_,_,hk=>by simp[EI]at hk
 |[_],_::_::_,_,_,_,_,_,_,_,_,_,_,hk=>by simp[EI]at hk
 |_::_::_,[],_,_,_,_,_,_,_,_,_,_,hk=>by simp[EI]at hk
end VM
end
section
namespace VM
open Go
variable{P:Program}{E:Env}{o:Oper}{a:Act}{w:World}{M:Nat→Prop}{ν:Nat→Value}{σ:St}{c:Ctx}{α:Type}{r:α}{next:Act→World→Prop}{Q:Exit→Act→World→Prop}
theorem Du{tm:Array Value}: ∀{rv:List ResultVar} {is:List (ResultVar ⊕ Nat)} {us ps:List Value},Gv P tm w (rv.map .inl++is) us ps→
  ∃Uc us2,us=Uc++us2∧Uc.length=rv.length∧(∀i (h:i<rv.length) (h':i<Uc.length),y8 P tm w rv[i] Uc[i])∧Gv P tm w is us2 ps
 |[],is,us,ps,h=>⟨[],us,rfl,rfl,fun i h=>by simp at h,h⟩
 |rv::rvs,is,us,ps,h=>by
  simp only[ay6,azY,Gv]at h
  obtain⟨u,E0,rfl,h1,h2⟩:=h
  obtain⟨Uc,us2,rfl,hl,h3,h4⟩:=Du h2
  refine⟨u::Uc,us2,rfl,by simp[hl],fun i hi lR=> ?_,h4⟩
  cases i with
  |zero=>exact h1
  |succ i=>exact h3 i (by simpa using hi) (by simpa using lR)
theorem uB{tm:Array Value}: ∀{ms:List AM} {vs:List Value} {i:Nat} {us ps:List Value},vs.length=ms.length→(∀j v m,vs[j]? =some v→ms[j]? =some m→m.fY=true→tm.getD (i+j) undef=v)→Gv P tm w (wV ms i) us ps→us=[]∧ps=dK ms vs
 |[],vs,i,us,ps,_,_,h=>by simp only[wV,Gv]at h;simpa [dK]using h
 |m::ms,[],_,_,_,hl,_,_=>by simp at hl
 |m::ms,v::vs,i,us,ps,hl,Ky,h=>by
  have Ho: ∀j u m,vs[j]? =some u→ms[j]? =some m→m.fY=true→tm.getD (i+1+j) undef=u:=fun j u m hj hm s6=>by
   have:=Ky (j+1) u m (by simpa using hj) (by simpa using hm) s6
   rwa [show i+(j+1)=i+1+j from by omega]at this
  have Gq:vs.length=ms.length:=by simpa using hl
  cases m with
  |io τ=>
   simp only[wV,Gv]at h
   obtain⟨p,CI,rfl,hp,h⟩:=h
   obtain⟨h1,h2⟩:=uB Gq Ho h
   refine⟨h1,?_⟩
   have:=Ky 0 v (.io τ) rfl rfl rfl
   simp only[aAO]at this
   simp[dK,AM.fY,h2,hp,this]
  |v τ=>
   obtain⟨h1,h2⟩:=uB Gq Ho (show Gv P tm w (wV ms (i+1)) us ps from h)
   exact⟨h1,by simp[dK,AM.fY,h2]⟩
  |own τ=>
   obtain⟨h1,h2⟩:=uB Gq Ho (show Gv P tm w (wV ms (i+1)) us ps from h)
   exact⟨h1,by simp[dK,AM.fY,h2]⟩
  |fn f τ=>
   obtain⟨h1,h2⟩:=uB Gq Ho (show Gv P tm w (wV ms (i+1)) us ps from h)
   exact⟨h1,by simp[dK,AM.fY,h2]⟩
  |fW τ=>
   obtain⟨h1,h2⟩:=uB Gq Ho (show Gv P tm w (wV ms (i+1)) us ps from h)
   exact⟨h1,by simp[dK,AM.fY,h2]⟩
  |ptr τ=>
   obtain⟨h1,h2⟩:=uB Gq Ho (show Gv P tm w (wV ms (i+1)) us ps from h)
   exact⟨h1,by simp[dK,AM.fY,h2]⟩
theorem Hp{fn:Func}{tm:Array Value}{us:List Value}(hl:us.length=fn.results.toList.length)(h: ∀i (h:i<fn.results.toList.length) (h':i<us.length),y8 P tm w fn.results.toList[i] us[i]):
  (results fn tm).run P w= .ok (si us) w:=by
 have key: ∀(rs:List ResultVar) (us:List Value),us.length=rs.length→(∀i (h:i<rs.length) (h':i<us.length),y8 P tm w rs[i] us[i])→(rs.mapM (sl tm)).run P w= .ok us w:=by
  intro rs
  induction rs with
  |nil=>intro us hl _;cases us with
   |nil=>simp
   |cons _ _=>simp at hl
  |cons r rs ih=>intro us hl h;cases us with
   |nil=>simp at hl
   |cons u us=>
    have h0:(sl tm r).run P w= .ok u w:=h 0 (by simp) (by simp)
    have h1:=ih us (by simpa using hl) (fun i hi lR=>h (i+1) (by simpa using hi) (by simpa using lR))
    simp[aBC,h0,h1]
 have h2:=key fn.results.toList us hl h
 have h3:results fn tm=(do let vs ←fn.results.mapM (sl tm);pure (if h:vs.size=1 then vs[0]else .tuple vs)):=by
  unfold results
  congr 1
 rw[h3,Array.mapM_eq_mapM_toList]
 simp only[Sem.run_bind,Sem.run_map,h2]
 unfold si
 by_cases h3:us.length=1
 ·simp[h3]
 ·simp[h3]
theorem Dv(hE:o3 P E){f:FuncId}{fn:Func}(hf:P.funcs[f]? =some fn)(hnt:E.nt=fn.ntmps){args res:List AM}(s6: ∀i m,args[i]? =some m→m.fY=true→i∈E.io)(aif: ∀i∈E.io,i<args.length)(hlen:args.length≤fn.ntmps)
  {M0:Nat→Prop} {vs:List Value} {x:HP args} {y:HP res} (nc: ∀b,M0 b→b<w.heap.size) (hA:gr w (fun b=>M0 b∨b∈cW args vs) args x vs) (vx:(cW args vs).Nodup) (sm: ∀b∈cW args vs,¬M0 b)
  (h:GK E fn args res x=some y):
  Calls P f vs.toArray w fun e w'=> ∃v,e= .returned v∧ ∃us M',v=si us∧RR w' M' res y us (dK args vs)∧Left w M0 (cW args vs) w' M'∧(bk res us (dK args vs)).Nodup∧ ∀b∈bk res us (dK args vs),¬M0 b:=by
 unfold GK at h
 split at h
 ·cases h
 rename_i cd hb
 simp only at h
 have hvl: ∀{ms:List AM} {x:HP ms} {vs:List Value} {M:Nat→Prop},gr w M ms x vs→vs.length=ms.length:=by
  intro ms
  induction ms with
  |nil=>intro x vs M h;simp only[gr]at h;subst h;rfl
  |cons m ms ih=>intro x vs M h;simp only[gr]at h;obtain⟨v,Gt,rfl,_,h⟩:=h;simp[ih h]
 have UA:=hvl hA
 let tm:Array Value:=vs.toArray++Array.replicate (fn.ntmps-vs.toArray.size) undef
 have Ky: ∀j v,vs[j]? =some v→tm.getD j undef=v:=by
  intro j v hj
  have dH:j<vs.length:=(azU.1 hj).1
  rw[azI,Array.getElem?_append_left (by simpa using dH),aB5,hj];rfl
 have qp:tm.size=fn.ntmps:=by simp[tm];omega
 have hhb: ∀{ms:List AM} {x:HP ms} {vs:List Value} {M:Nat→Prop},gr w M ms x vs→ ∀b∈cW ms vs,b<w.heap.size:=by
  intro ms
  induction ms with
  |nil=>intro x vs M h b hb;simp[cW]at hb
  |cons m ms ih=>
   intro x vs M h b hb
   simp only[gr]at h
   obtain⟨v,Gt,rfl,h1,h⟩:=h
   simp only[cW,ayU]at hb
   rcases hb with hb|hb
   ·cases m with
    |v _=>simp[cN]at hb
    |fn _ _=>simp[cN]at hb
    |fW _=>simp[cN]at hb
    |own e=>
     simp only[cN,azw,A1,ER]at hb h1
     rcases h1 with⟨_,a,hv⟩|⟨b',cs,t,cap,hv,hg,_⟩
     ·rw[hv]at hb;cases a<;>simp[eJ]at hb
     ·rw[hv]at hb
      simp only[eJ]at hb
      split at hb
      ·cases hb
      ·simp only[azz]at hb;subst hb;exact lt_of_block hg
    |io τ=>
     simp only[cN,azw,A1,ER]at hb h1
     obtain⟨b',cs,t,hv,hg,_⟩:=h1
     rw[hv]at hb
     simp only[eJ,azz]at hb;subst hb;exact lt_of_block hg
    |ptr τ=>
     simp only[cN,azw,A1,ER]at hb h1
     obtain⟨b',cs,t,hv,hg,_⟩:=h1
     rw[hv]at hb
     simp only[eJ,azz]at hb;subst hb;exact lt_of_block hg
   ·exact ih h b hb
 let cx:Ctx:={B:=w.heap.size,w0:=w,M0:=M0,may:=fun b=>b∈cW args vs,arg:=fun i=>tm.getD i undef}
 have hm0:Mem cx (fun _=>none) w (fun b=>M0 b∨b∈cW args vs) (fun _=>undef):=
  ⟨fun i e hi=>(by cases hi),fun i j e e' b _ hi=>(by cases hi),fun i e b hi=>(by cases hi),fun i e l b hi=>(by cases hi),fun i τ x p j hi=>(by cases hi),fun b hb=> .inl hb,fun b hb=>hb.elim (nc b) (hhb hA b),fun _ _ _=>rfl,ayJ _,⟨nc,sm⟩,rfl,rfl,rfl⟩
 have Qg:Core cx ⟨fun _=> .any,fun _=>none⟩ tm w (fun b=>M0 b∨b∈cW args vs) (fun _=>undef):=⟨hm0,fun i=>by simp[VR]⟩
 obtain⟨ν',hc⟩:=yc (i:=0) (used:=[]) Qg hA (fun j v hj=>by rw[azH];exact Ky j v hj) (fun _ _=>rfl) (fun j e b hj=>by cases hj) (by simpa using vx) (fun b hb=>hb) (fun b hb=>sm b hb)
 have hI:Inv cx E (entry args x 0 ⟨fun _=> .any,fun _=>none⟩) {tmps:=tm,defers:=[]} w:=⟨⟨_,_,hc⟩,by rw[hnt,qp],rfl,fun i _=>rfl⟩
 refine calls_of_wp hf hb ?_
 have aih: ∀(σ':St) (a':Act) (w':World),EI E res (fn.results.toList.map .inl++wV args 0) σ' some=some y→Inv cx E σ' a' w'→
   a'.defers=[]∧ ∃v,(results fn a'.tmps).run P w'= .ok v w'∧ ∃v',Ending.returned v= .returned v'∧ ∃us M',v'=si us∧RR w' M' res y us (dK args vs)∧Left w M0 (cW args vs) w' M'∧(bk res us (dK args vs)).Nodup∧ ∀b∈bk res us (dK args vs),¬M0 b:=by
  rintro σ' a' w' hk ⟨⟨M1,ν1,CF⟩,MU,hd1,tI⟩
  obtain⟨y',us,ps,H2,uo,uf,io,Hq,M2,hy,Q9,hK,Qj,hRs⟩:=AG (P:=P) hE.toEnvTy (iG.start CF.mem) CF.tmp hk
  cases hy
  obtain⟨Uc,us2,rfl,hl,hv,anU⟩:=Du hRs
  obtain⟨rfl,Kt⟩:=uB (vs:=vs) UA (fun j v m hj hm E2=>by
   rw[azH]
   rw[tI j (s6 j m hm E2)]
   exact Ky j v hj) anU
  rw[ay2]at*
  subst Kt
  simp only[ay8]at Q9
  have kO: ∀b∈bk res Uc (dK args vs),b<w.heap.size→b∈cW args vs:=fun b hb dH=>(Q9.KZ b hb).elim (fun h'=>absurd dH (Nat.not_lt.2 h')) (fun h=>h)
  have Dq:dy w' M2 w' (fun b=>M2 b∧(b<w.heap.size→M0 b∨b∈cW args vs)):=⟨ayJ _,fun _ _ _=>rfl,fun _ _ h=>h.1⟩
  refine⟨hd1,si Uc,Hp hl hv,_,rfl,Uc,fun b=>M2 b∧(b<w.heap.size→M0 b∨b∈cW args vs),rfl,RR.sj Dq (fun b hb=>⟨rfl,Qj.nU b hb,fun dH=> .inr (kO b hb dH)⟩) Qj,⟨fun b hb=>⟨Q9.mem.sub b hb,fun _=> .inl hb⟩,fun b hb=>Q9.mem.Ab b hb.1,fun b dH hb=>hb.2 dH,fun b dH hb=>Q9.mem.frame b dH hb,Q9.mem.size,Q9.mem.os,Q9.mem.tape,Q9.mem.output⟩,Q9.nd,fun b hb h0=> ?_⟩
  rcases Q9.KZ b hb with h'|h'
  ·exact absurd (nc b h0) (Nat.not_lt.2 h')
  ·exact sm b h' h0
 refine OC (c:=cx) hE cd _ _ w _ _ _ _ hI h (fun σ' a' w' hk tY=> ?_) (fun i σ' a' w' hk=>by cases hk) (fun σ' a' w' hk tY=> ?_)
 ·exact aih σ' a' w' hk tY
 ·exact aih σ' a' w' hk tY
theorem Ra(hE:o3 P E){f:FuncId}{fn:Func}(hf:P.funcs[f]? =some fn)(vA:(fn.name== "runtime.NumGoroutine")=false)(hnt:E.nt=fn.ntmps)(S:iD)
  (s6: ∀i m,S.args[i]? =some m→m.fY=true→i∈E.io) (aif: ∀i∈E.io,i<S.args.length) (hlen:S.args.length≤fn.ntmps) (hq:S.quiet=true→S.res.all AM.flat=true) (anV:lT S.args=lT S.res)
  (cT: ∀x,GK E fn S.args S.res x=S.run x):fh P f S:=by
 refine⟨hq,anV,fun M0 w vs x y nc hA vx sm hy=> ?_⟩
 have hb:fn.body.isNone=false:=by
  have:=cT x
  rw[hy]at this
  unfold GK at this
  split at this
  ·cases this
  ·rename_i cd hcd;rw[hcd];rfl
 exact pD hf vA hb (Dv hE hf hnt s6 aif hlen nc hA vx sm (by rw[cT,hy]))
end VM
end
section
namespace VM
open Go
variable{P:Program}
def vB:Ty→List Value→Option (List Value)
 | .int k,v::r=>match v with
  | .int k' n=>if k'=k∧n=0 then some r else none
  |_=>none
 | .bool,v::r=>match v with
  | .bool false=>some r
  |_=>none
 | .str,v::r=>match v with
  | .string s=>if s.data.size=0 then some r else none
  |_=>none
 | .slice _,v::r=>match v with
  | .slice none n m=>if n=0∧m=0 then some r else none
  |_=>none
 | .unit,r=>some r
 | .pair a b,r=>match vB a r with
  |some r=>vB b r
  |none=>none
 | .arr n e,r=>Nat.rec (motive:=fun _=>List Value→Option (List Value)) (fun r=>some r) (fun _ ih r=>match vB e r with
  |some r=>ih r
  |none=>none) n r
 |_,[]=>none
theorem vC: ∀{τ:Ty} {l r:List Value},vB τ l=some r→l=τ.cy++r
 | .int k,[],_,h| .bool,[],_,h| .str,[],_,h| .slice _,[],_,h=>by simp[vB]at h
 | .int k,v::l,r,h=>by
  simp only[vB]at h
  split at h
  ·split at h
   ·rename_i hc;obtain⟨rfl,rfl⟩:=hc;cases h;rfl
   ·cases h
  ·cases h
 | .bool,v::l,r,h=>by
  simp only[vB]at h
  split at h
  ·cases h;rfl
  ·cases h
 | .str,v::l,r,h=>by
  simp only[vB]at h
  split at h
  ·rename_i s
   split at h
   ·rename_i hs
    cases h
    have:s=ByteArray.empty:=by
     obtain⟨d⟩:=s
     have:d= #[]:=Array.eq_empty_of_size_eq_zero hs
     subst this;rfl
    subst this;rfl
   ·cases h
  ·cases h
 | .slice _,v::l,r,h=>by
  simp only[vB]at h
  split at h
  ·split at h
   ·rename_i hc;obtain⟨rfl,rfl⟩:=hc;cases h;rfl
   ·cases h
  ·cases h
 | .unit,l,r,h=>by simp only[vB]at h;cases h;rfl
 | .pair a b,l,r,h=>by
  simp only[vB]at h
  split at h
  ·rename_i r1 h1
   rw[vC h1,vC h];simp[Ty.cy]
  ·cases h
 | .arr n e,l,r,h=>by
  simp only[vB]at h
  simp only[Ty.cy]
  induction n generalizing l with
  |zero=>cases h;rfl
  |succ n ih=>
   simp only at h
   split at h
   ·rename_i r1 h1
    rw[vC h1,ih _ h];simp[aA7]
   ·cases h
def vD(P:Program)(τ:Ty)(t:TypeId):Bool:=
 match P.info? t with
 |none=>false
 |some i=>Nat.beq i.size τ.size&&Nat.ble i.bytes 2048&&(match i.zero with
  |none=>false
  |some z=>match τ.isAgg,z with
   |true,.agg cs=>(match vB τ cs.toList with|some []=>true|_=>false)
   |false,z=>(match vB τ [z]with|some []=>true|_=>false)
   |_,_=>false)
theorem nX{τ:Ty}{t:TypeId}(h:vD P τ t=true):EJ P τ t:=by
 unfold vD at h
 split at h
 ·cases h
 ·rename_i i hi
  simp only[ayQ,aCb]at h
  obtain⟨⟨h1,h2⟩,h3⟩:=h
  refine⟨i,hi,ay9 h1,?_,h2⟩
  split at h3
  ·cases h3
  ·rename_i z hz
   rw[hz]
   split at h3
   ·rename_i _ cs ha
    split at h3
    ·rename_i he
     have:=vC he
     unfold bU
     rw[ayF ha,←ay2 τ.cy,←this]
    ·cases h3
   ·rename_i ha
    split at h3
    ·rename_i he
     have:=vC he
     unfold bU
     rw[ayE (by rw[ha];exact aAQ),←ay2 τ.cy,←this];rfl
    ·cases h3
   ·cases h3
def p3(P:Program):Ty→TypeId ⊕ (Array Field×Nat×Nat)→Bool
 | .int k,.inl t=>vD P (.int k) t&&(match P.underlying t with|some (.int k')=>decide (k'=k)|_=>false)
 | .bool,.inl t=>vD P .bool t&&(match P.underlying t with|some .bool=>true|_=>false)
 | .str,.inl t=>vD P .str t&&(match P.underlying t with|some .string=>true|_=>false)
 | .slice e,.inl t=>vD P (.slice e) t&&(match P.underlying t with|some (.slice e')=>p3 P e (.inl e')|_=>false)
 | .arr n e,.inl t=>vD P (.arr n e) t&&(match P.underlying t with|some (.array n' e')=>Nat.beq n' n&&p3 P e (.inl e')|_=>false)
 | .unit,.inl t=>vD P .unit t&&(match P.underlying t with|some (.struct fs)=>Nat.beq fs.size 0|_=>false)
 | .unit,.inr q=>Nat.beq q.1.size q.2.1
 | .pair a b,.inl t=>vD P (.pair a b) t&&(match P.underlying t with
  |some (.struct fs)=>(match fs[0]? with
   |some f=>Nat.beq f.offset 0&&(p3 P a (.inl f.type)&&p3 P b (.inr (fs,1,a.size)))
   |none=>false)
  |_=>false)
 | .pair a b,.inr q=>(match q.1[q.2.1]? with
  |some f=>Nat.beq f.offset q.2.2&&(p3 P a (.inl f.type)&&p3 P b (.inr (q.1,q.2.1+1,q.2.2+a.size)))
  |none=>false)
 |_,.inr _=>false
theorem eK: ∀{τ:Ty} {x:TypeId ⊕ (Array Field×Nat×Nat)},p3 P τ x=true→dU P τ x
 | .int k,.inl t,h=>by
  simp only[p3,ayQ]at h
  refine⟨nX h.1,?_⟩
  have h:=h.2
  split at h
  ·rename_i k' hu;rw[hu,ayV h]
  ·cases h
 | .bool,.inl t,h=>by
  simp only[p3,ayQ]at h
  refine⟨nX h.1,?_⟩
  have h:=h.2
  split at h
  ·rename_i hu;exact hu
  ·cases h
 | .str,.inl t,h=>by
  simp only[p3,ayQ]at h
  refine⟨nX h.1,?_⟩
  have h:=h.2
  split at h
  ·rename_i hu;exact hu
  ·cases h
 | .slice e,.inl t,h=>by
  simp only[p3,ayQ]at h
  refine⟨nX h.1,?_⟩
  have h:=h.2
  split at h
  ·rename_i e' hu;exact⟨e',hu,eK h⟩
  ·cases h
 | .arr n e,.inl t,h=>by
  simp only[p3,ayQ]at h
  refine⟨nX h.1,?_⟩
  have h:=h.2
  split at h
  ·rename_i n' e' hu
   simp only[ayQ]at h
   obtain⟨h0,h⟩:=h
   rw[ay9 h0]at hu
   exact⟨e',hu,eK h⟩
  ·cases h
 | .unit,.inl t,h=>by
  simp only[p3,ayQ]at h
  refine⟨nX h.1,?_⟩
  have h:=h.2
  split at h
  ·rename_i fs hu;exact⟨fs,hu,ay9 h⟩
  ·cases h
 | .unit,.inr (fs,n,o),h=>by simp only[p3]at h;exact ay9 h
 | .pair a b,.inl t,h=>by
  simp only[p3,ayQ]at h
  refine⟨nX h.1,?_⟩
  have h:=h.2
  split at h
  ·rename_i fs hu
   split at h
   ·rename_i f hf
    simp only[ayQ]at h
    exact⟨fs,f,hu,hf,ay9 h.1,eK h.2.1,eK h.2.2⟩
   ·cases h
  ·cases h
 | .pair a b,.inr (fs,n,o),h=>by
  simp only[p3]at h
  split at h
  ·rename_i f hf
   simp only[ayQ]at h
   exact⟨f,hf,ay9 h.1,eK h.2.1,eK h.2.2⟩
  ·cases h
 | .int _,.inr _,h| .bool,.inr _,h| .str,.inr _,h| .slice _,.inr _,h| .arr _ _,.inr _,h=>by simp[p3]at h
def rC(P:Program):Ty→TypeId ⊕ (Array Field×Nat)→Bool
 | .int _,.inl _| .bool,.inl _| .str,.inl _=>true
 | .unit,.inl t=> !P.stoodInHeld t
 | .unit,.inr _=>true
 | .pair a b,.inl t=> !P.stoodInHeld t&&(match P.underlying t with
  |some (.struct fs)=>(match fs[0]? with
   |some f=>f.name != "_" &&(rC P a (.inl f.type)&&rC P b (.inr (fs,1)))
   |none=>false)
  |_=>false)
 | .pair a b,.inr q=>(match q.1[q.2]? with
  |some f=>f.name != "_" &&(rC P a (.inl f.type)&&rC P b (.inr (q.1,q.2+1)))
  |none=>false)
 |_,_=>false
def Ty.deep:Ty→Nat
 | .pair a b=>a.deep+b.deep+1
 |_=>1
theorem V.ofC{w:World}{M:Nat→Prop}{τ:Ty}{cs:List Value}{x:τ.den}(h:Rd w M τ cs x):V w M τ (VM.bU τ cs) x:=V.bU h
mutual
theorem Hr{w:World}{M:Nat→Prop}: ∀{τ:Ty} {t:TypeId} {u v:Value} {x y:τ.den} {d:Nat},g6 P τ t→rC P τ (.inl t)=true→V w M τ u x→V w M τ v y→τ.deep≤d→(Op.equalIn d t u v).run P w= .ok (jT τ x y) w
 | .int k,t,u,v,x,y,d+1,hl,_,hx,hy,_=>by
  simp only[V,Ty.isAgg,azv,aAt,Rd,azq,az4]at hx hy
  subst hx;subst hy
  rw[run_equalIn_int w d t k k _ _ hl.int];simp only[jT,gh];congr 1
 | .bool,t,u,v,x,y,d+1,hl,_,hx,hy,_=>by
  simp only[V,Ty.isAgg,azv,aAt,Rd,azq,az4]at hx hy
  subst hx;subst hy
  rw[run_equalIn_bool w d t _ _ hl.bool];simp only[jT]
 | .str,t,u,v,x,y,d+1,hl,_,hx,hy,_=>by
  simp only[V,Ty.isAgg,azv,aAt,Rd,azq,az4]at hx hy
  subst hx;subst hy
  rw[run_equalIn_string w d t _ _ hl.str];simp only[jT,z8];congr 1;rw[aAi];simp
 | .slice _,_,_,_,_,_,_,_,h,_,_,_| .arr _ _,_,_,_,_,_,_,_,h,_,_,_=>by simp[rC]at h
 | .unit,t,u,v,x,y,d+1,hl,he,hx,hy,_=>by
  simp only[V,Ty.isAgg,aBc]at hx hy
  obtain⟨cs,rfl,_⟩:=hx
  obtain⟨cs',rfl,_⟩:=hy
  simp only[g6,dU]at hl
  obtain⟨_,fs,hu,h0⟩:=hl
  have hfs:P.fieldsOf t=fs:=by simp[Program.fieldsOf,hu]
  rw[run_equalIn_struct w d t cs cs' (by rw[hfs];exact hu) (by simpa [rC]using he),hfs]
  have:fs.toList=[]:=by rw[←aBP,ayM];exact h0
  rw[this];simp[Op.eqFields,jT]
 | .pair a b,t,u,v,x,y,d+1,hl,he,hx,hy,hd=>by
  simp only[V,Ty.isAgg,aBc]at hx hy
  obtain⟨cs,rfl,hx⟩:=hx
  obtain⟨cs',rfl,hy⟩:=hy
  simp only[g6,dU]at hl
  obtain⟨_,fs,f,hu,hf,ho,uC,Kz⟩:=hl
  have hfs:P.fieldsOf t=fs:=by simp[Program.fieldsOf,hu]
  simp only[rC,hu,hf,ayQ]at he
  rw[run_equalIn_struct w d t cs cs' (by rw[hfs];exact hu) (by simpa using he.1),hfs]
  have h0:fs.toList=f::fs.toList.drop 1:=by
   have h1:=azO (l:=fs.toList) (i:=0) (by rw[ayM];exact(azj.1 hf).1)
   rw[ay7]at h1
   rw[h1];congr 1
   rw[aA0];exact(azj.1 hf).2
  simp only[Ty.deep]at hd
  rw[h0]
  have pX:Rd w M (.pair a b) (cs.toList.drop 0) x:=by rw[ay7];exact hx
  have Rb:Rd w M (.pair a b) (cs'.toList.drop 0) y:=by rw[ay7];exact hy
  have gq:f.name≠ "_" :=by simpa using he.2.1
  simp only[Op.eqFields,gq,ne_eq,not_false_eq_true,aBc]
  exact Rc (off:=0) ho uC he.2.2.1 pX Rb (by omega) (fun h1 h2=>Re (n:=1) (fs:=fs) (off:=a.size) Kz he.2.2.2 (by rw[azH]at h1;exact h1) (by rw[azH]at h2;exact h2) (by omega))
 | .int _,_,_,_,_,_,0,_,_,_,_,hd| .bool,_,_,_,_,_,0,_,_,_,_,hd| .str,_,_,_,_,_,0,_,_,_,_,hd| .unit,_,_,_,_,_,0,_,_,_,_,hd| .pair _ _,_,_,_,_,_,0,_,_,_,_,hd=>by simp[Ty.deep]at hd
theorem Re{w:World}{M:Nat→Prop}: ∀{b:Ty} {fs:Array Field} {n off:Nat} {cs cs':Array Value} {x y:b.den} {d:Nat},dU P b (.inr (fs,n,off))→rC P b (.inr (fs,n))=true→Rd w M b (cs.toList.drop off) x→Rd w M b (cs'.toList.drop off) y→b.deep≤d→
  (Op.eqFields d cs cs' (fs.toList.drop n)).run P w= .ok (jT b x y) w
 | .unit,fs,n,off,cs,cs',x,y,d,hl,_,_,_,_=>by
  simp only[dU]at hl
  rw[azr (by rw[ayM];omega)]
  simp[Op.eqFields,jT]
 | .pair a b,fs,n,off,cs,cs',x,y,d,hl,he,hx,hy,hd=>by
  simp only[dU]at hl
  obtain⟨f,hf,ho,uC,Kz⟩:=hl
  simp only[rC,hf,ayQ]at he
  have h0:fs.toList.drop n=f::fs.toList.drop (n+1):=by
   rw[azO (l:=fs.toList) (i:=n) (by rw[ayM];exact(azj.1 hf).1)]
   congr 1
   rw[aA0];exact(azj.1 hf).2
  simp only[Ty.deep]at hd
  rw[h0]
  have gq:f.name≠ "_" :=by simpa using he.1
  simp only[Op.eqFields,gq,ne_eq,not_false_eq_true,aBc]
  exact Rc ho uC he.2.1 hx hy (by omega) (fun h1 h2=>Re Kz he.2.2 h1 h2 (by omega))
 | .int _,_,_,_,_,_,_,_,_,hl,_,_,_,_| .bool,_,_,_,_,_,_,_,_,hl,_,_,_,_| .str,_,_,_,_,_,_,_,_,hl,_,_,_,_| .slice _,_,_,_,_,_,_,_,_,hl,_,_,_,_| .arr _ _,_,_,_,_,_,_,_,_,hl,_,_,_,_=>by simp[dU]at hl
theorem Rc{w:World}{M:Nat→Prop}{a b:Ty}{f:Field}{fs:List Field}{off:Nat}{cs cs':Array Value}{x y:(Ty.pair a b).den}{d:Nat}(ho:f.offset=off)(uC:g6 P a f.type)(he:rC P a (.inl f.type)=true)
  (hx:Rd w M (.pair a b) (cs.toList.drop off) x) (hy:Rd w M (.pair a b) (cs'.toList.drop off) y) (hd:a.deep≤d)
  (hr:Rd w M b (cs.toList.drop (off+a.size)) x.2→Rd w M b (cs'.toList.drop (off+a.size)) y.2→(Op.eqFields d cs cs' fs).run P w= .ok (jT b x.2 y.2) w):
  (do let u ←part f.type cs f.offset;let v ←part f.type cs' f.offset;let r ←Op.equalIn d f.type u v;if(!r)=true then pure false else Op.eqFields d cs cs' fs:Sem Bool).run P w= .ok (jT (.pair a b) x y) w:=by
 simp only[Rd]at hx hy
 obtain⟨c1,c2,hc,h1,h2⟩:=hx
 obtain⟨c1',c2',OD,m9,ua⟩:=hy
 subst ho
 have p1:(cs.toList.drop f.offset).take a.size=c1:=by rw[hc,aBb h1.length]
 have p2:(cs'.toList.drop f.offset).take a.size=c1':=by rw[OD,aBb m9.length]
 have q1:cs.toList.drop (f.offset+a.size)=c2:=by rw[←azR,hc,aAh h1.length]
 have q2:cs'.toList.drop (f.offset+a.size)=c2':=by rw[←azR,OD,aAh m9.length]
 have r1:=vn uC (w:=w) (M:=M) (cs:=cs) (off:=f.offset) (x:=x.1) (by rw[p1];exact h1)
 have r2:=vn uC (w:=w) (M:=M) (cs:=cs') (off:=f.offset) (x:=y.1) (by rw[p2];exact m9)
 have r3:=Hr (d:=d) uC he (V.ofC (by rw[p1];exact h1):V w M a (VM.bU a ((cs.toList.drop f.offset).take a.size)) x.1) (V.ofC (by rw[p2];exact m9):V w M a (VM.bU a ((cs'.toList.drop f.offset).take a.size)) y.1) hd
 simp only[Sem.run_bind,r1,r2,r3,Result.andThen_ok,jT]
 cases jT a x.1 y.1
 ·simp
 ·simpa using hr (by rw[q1];exact h2) (by rw[q2];exact ua)
end
def U2(P:Program)(τ:Ty)(t:TypeId):Bool:= !(τ.comparable&&τ.isAgg)||(rC P τ (.inl t)&&(Nat.ble τ.deep 10000&& !P.eqGuardType P.depth t))
theorem U3{τ:Ty}{t:TypeId}(hl:g6 P τ t)(h:U2 P τ t=true)(hc:τ.comparable=true)(ha:τ.isAgg=true):ahw P t τ:=by
 unfold U2 at h
 rw[hc,ha]at h
 simp only[Bool.and_self,ayL,aBa,ayQ,aCb,aAr]at h
 obtain⟨h1,h2,h3⟩:=h
 intro w M u v x y b xo yo hx hy
 have he:=Hr (d:=10000) hl h1 hx hy h2
 unfold V at hx hy
 rw[ayF ha]at hx hy
 obtain⟨cs,rfl,_⟩:=hx
 obtain⟨cs',rfl,_⟩:=hy
 refine⟨?_,?_,?_⟩
 ·cases b<;>simp[eqGuard,h3]
 ·simp only[binOp];simp[Op.equal,Op.maxDepth,he]
 ·simp only[binOp];simp[Op.equal,Op.maxDepth,he]
def aij(P:Program)(l:List (Nat×Ty)):Bool:=l.all fun q=>p3 P q.2 (.inl q.1)&&U2 P q.2 q.1
end VM
end
section
namespace VM
open Go Go.WideShapes Go.RowKit Go.ChangeShapes
def WF:(τ:Ty)→τ.den→Prop
 | .int k,x=>(Lit.int k x).wf=true
 | .bool,_=>True
 | .str,s=>ByteArray.size s≤maxLen
 | .slice e,l=>List.length l≤maxLen∧ ∀i (h:i<List.length l),WF e (List.get l ⟨i,h⟩)
 | .unit,_=>True
 | .pair a b,x=>WF a x.1∧WF b x.2
 | .arr _ e,l=> ∀i (h:i<List.length l),WF e (List.get l ⟨i,h⟩)
def Ty.m0:Ty→Bool
 | .slice e=>Nat.blt 0 e.size&&e.m0
 | .pair a b=>a.m0&&b.m0
 | .arr _ e=>e.m0
 |_=>true
theorem Rf{α β:Type}{f:α→Option β}: ∀{l:List α} {r:List β},l.mapM f=some r→ ∀x∈l,∃y,f x=some y
 |[],_,_,x,hx=>by cases hx
 |a::l,r,h,x,hx=>by
  rw[aBC]at h
  simp only[bind,az7,pure,azz]at h
  obtain⟨y,hy,r',hr,_⟩:=h
  rcases ayY.1 hx with rfl|hx
  ·exact⟨y,hy⟩
  ·exact Rf hr x hx
theorem Hs{α β:Type}{f:α→Option β}: ∀{l:List α} {r:List β},l.mapM f=some r→r.length=l.length∧ ∀i (h:i<l.length) (h':i<r.length),f l[i]=some r[i]
 |[],r,h=>by simp at h;subst h;exact⟨rfl,fun i h=>by cases h⟩
 |a::l,r,h=>by
  rw[aBC]at h
  simp only[bind,az7,pure,azz]at h
  obtain⟨y,hy,r',hr,rfl⟩:=h
  obtain⟨h1,h2⟩:=Hs hr
  refine⟨by simp[h1],fun i hi lR=> ?_⟩
  cases i with
  |zero=>exact hy
  |succ i=>exact h2 i (by simpa using hi) (by simpa using lR)
theorem so{α:Type}{p:Nat→α→Prop}: ∀n,(∀i,i<n→ ∃x,p i x)→ ∃l:List α,l.length=n∧ ∀i (h:i<l.length),p i (l.get ⟨i,h⟩)
 |0,_=>⟨[],rfl,fun i h=>by cases h⟩
 |n+1,h=>by
  obtain⟨l,hl,hp⟩:=so n (fun i hi=>h i (by omega))
  obtain⟨x,hx⟩:=h n (by omega)
  refine⟨l++[x],by simp[hl],fun i hi=> ?_⟩
  simp only[aBx]
  by_cases dH:i<l.length
  ·rw[aA9 dH];exact hp i dH
  ·have gD:i=n:=by simp at hi;omega
   subst gD
   rw[aBH (by omega)]
   simp[hl,hx]
section
variable{H:Type}{enc:TypeId×Value→H}{P:Program}{w:World}
theorem g6.cells{τ:Ty}{t:TypeId}(h:g6 P τ t):P.cellsOf t=τ.size:=by
 obtain⟨i,hi,hs,_⟩:=h.base
 simp[Program.cellsOf,hi,hs]
theorem Dw{a:Addr}{n:Nat}{cs:List Value}(h:w.cells? 0 a n=some cs):cs.length=n∧ ∀j v,cs[j]? =some v→w.cell? (a.add j)=some v:=by
 unfold World.cells? at h
 rw[ayF (azn _)]at h
 obtain⟨h1,h2⟩:=Hs h
 rw[aAW]at h1
 refine⟨h1,fun j v hj=> ?_⟩
 obtain⟨dH,rfl⟩:=azU.1 hj
 have:=h2 j (by rw[aAW];omega) dH
 rw[aBA]at this
 exact this
def Rg(H:Type)(enc:TypeId×Value→H)(P:Program)(w:World)(τ:Ty):TypeId ⊕ (Array Field×Nat×Nat)→Prop
 | .inl t=> ∀(fuel:Nat) (cs:List Value) (d:DataW H×List MemPlace),DataW.trod enc P w 0 (fun _=>true) true fuel t cs=some d→ ∃x:τ.den,Rd w (fun _=>False) τ cs x∧WF τ x
 | .inr q=> ∀(cs:List Value),cs.length=q.2.2+τ.size→(∀f∈q.1.toList,∃fuel d,DataW.trod enc P w 0 (fun _=>true) true fuel f.type ((cs.drop f.offset).take (P.cellsOf f.type))=some d)→ ∃x:τ.den,Rd w (fun _=>False) τ (cs.drop q.2.2) x∧WF τ x
theorem Dx{a b:Ty}{f:Field}{fs:Array Field}{n off:Nat}(hf:fs[n]? =some f)(ho:f.offset=off)(uC:g6 P a f.type)(iha:Rg H enc P w a (.inl f.type))(Qw:Rg H enc P w b (.inr (fs,n+1,off+a.size)))
  {cs:List Value} (hc:cs.length=off+(a.size+b.size)) (g9: ∀f∈fs.toList,∃fuel d,DataW.trod enc P w 0 (fun _=>true) true fuel f.type ((cs.drop f.offset).take (P.cellsOf f.type))=some d):
  ∃x:(Ty.pair a b).den,Rd w (fun _=>False) (.pair a b) (cs.drop off) x∧WF (.pair a b) x:=by
 subst ho
 obtain⟨fuel,d,hd⟩:=g9 f (by rw[Array.mem_toList_iff];exact Array.mem_of_getElem? hf)
 rw[uC.cells]at hd
 obtain⟨x,hx,hwx⟩:=iha fuel _ d hd
 obtain⟨y,hy,hwy⟩:=Qw cs (by simp only;omega) g9
 refine⟨(x,y),?_,hwx,hwy⟩
 simp only[Rd]
 refine⟨_,_,(azg a.size (cs.drop f.offset)).symm,hx,?_⟩
 rw[azR];exact hy
theorem qF: ∀{τ:Ty} {x:TypeId ⊕ (Array Field×Nat×Nat)},dU P τ x→τ.m0=true→Rg H enc P w τ x
 | .int k,.inl t,hl,_=>by
  intro fuel cs d h
  simp only[dU]at hl
  obtain⟨n,rfl,_,hw⟩:=DataW.trod_int hl.2 h
  exact⟨n,rfl,hw⟩
 | .bool,.inl t,hl,_=>by
  intro fuel cs d h
  simp only[dU]at hl
  obtain⟨b,rfl,_⟩:=DataW.trod_bool hl.2 h
  exact⟨b,rfl,trivial⟩
 | .str,.inl t,hl,_=>by
  intro fuel cs d h
  simp only[dU]at hl
  obtain⟨s,rfl,_,hs⟩:=DataW.trod_string hl.2 h
  exact⟨s,rfl,hs⟩
 | .slice e,.inl t,hl,hs=>by
  intro fuel cs d h
  simp only[dU]at hl
  obtain⟨_,e',hu,hle⟩:=hl
  simp only[Ty.m0,ayQ,aCa]at hs
  have ih:=qF hle hs.2
  have qp:P.cellsOf e'=e.size:=g6.cells hle
  rcases DataW.trod_slice hu h with⟨rfl,_⟩|⟨a,len,cap,elems,rest,n,_,rfl,_,_,Uv,Of,hel,g9,_⟩
  ·refine⟨[],?_,azn _,fun i h=>by cases h⟩
   simp only[Rd]
   exact⟨none,0,rfl,ayJ _,fun i h=>by cases h⟩
  ·rw[qp]at g9
   have get: ∀i,i<len→ ∃cs' y,w.cells? 0 (a.add (i*e.size)) e.size=some cs'∧DataW.trod enc P w 0 (fun _=>true) true n e' cs'=some y:=fun i hi=>by
    have:=g9 i hi
    rw[ayG (by omega)]at this
    obtain⟨cs',h1,h2⟩:=az7.1 this
    exact⟨cs',_,h1,h2⟩
   have key: ∀i,i<len→ ∃x:e.den,(a.spot=none∧a.block<w.heap.size∧ ∃cs',At w a.block (a.off+i*e.size) cs'∧Rd w (fun _=>False) e cs' x)∧WF e x:=by
    intro i hi
    obtain⟨cs',y,EO,ht⟩:=get i hi
    obtain⟨h1,h2⟩:=Dw EO
    obtain⟨x,hx,hw⟩:=ih n cs' y ht
    have hsp:a.spot=none∧a.block<w.heap.size:=by
     obtain⟨oX,y0,anW,_⟩:=get 0 (by omega)
     obtain⟨h10,h20⟩:=Dw anW
     have:=h20 0 oX[0] (ayG (by omega))
     simp only[Nat.zero_mul,Addr.add,aBc,World.cell?]at this
     split at this
     ·rename_i hb
      refine⟨?_,(azj.1 hb).1⟩
      split at this
      ·cases this
      ·rename_i hn;simpa using hn
     ·cases this
    refine⟨x,⟨hsp.1,hsp.2,cs',fun j v hj=> ?_,hx⟩,hw⟩
    have:=h2 j v hj
    have he:(a.add (i*e.size)).add j=⟨a.block,a.off+i*e.size+j,none⟩:=by
     obtain⟨ab,ao,asp⟩:=a
     simp only at hsp
     obtain⟨rfl,_⟩:=hsp
     simp only[Addr.add]
     split<;>split<;>simp_all<;>omega
    rw[he]at this
    exact this
   obtain⟨l,hl,hp⟩:=so len key
   refine⟨l,?_,by rw[hl];omega,fun i h=>(hp i h).2⟩
   simp only[Rd]
   refine⟨some a,cap,by rw[hl],by rw[hl];exact Uv,fun i h=> ?_⟩
   obtain⟨h1,h2,cs',h3,h4⟩:=(hp i h).1
   refine⟨a.block,a.off,?_,h2,fun h=>h,cs',h3,h4⟩
   rw[←h1]
 | .unit,.inl t,hl,_=>by
  intro fuel cs d h
  simp only[dU]at hl
  obtain⟨⟨i,hi,qp,_⟩,fs,hu,h0⟩:=hl
  obtain⟨xs,n,_,_,hc,_⟩:=DataW.trod_struct hu h
  refine⟨(),?_,trivial⟩
  simp only[Rd]
  rw[←aBP,hc]
  simp[Program.cellsOf,hi,qp,Ty.size]
 | .unit,.inr q,hl,_=>by
  intro cs hc _
  refine⟨(),?_,trivial⟩
  simp only[Rd]
  rw[azr (by rw[hc];simp[Ty.size])]
 | .pair a b,.inl t,hl,hs=>by
  intro fuel cs d h
  simp only[dU]at hl
  obtain⟨⟨i,hi,qp,_⟩,fs,f,hu,hf,ho,uC,Kz⟩:=hl
  simp only[Ty.m0,ayQ]at hs
  have iha:=qF uC hs.1
  have Qw:=qF Kz hs.2
  obtain⟨xs,n,_,_,hc,hxl,hxs⟩:=DataW.trod_struct hu h
  have:=Dx (b:=b) (off:=0) hf ho uC iha (by simp only[azH];exact Qw) (cs:=cs) (by rw[hc];simp[Program.cellsOf,hi,qp,Ty.size]) (fun f hf=>by
   obtain⟨j,hj,rfl⟩:=az5.1 hf
   rw[ayM]at hj
   have:=hxs j fs[j] (by simp[hj])
   rw[ayG (by omega)]at this
   exact⟨n,_,by rw[aA0];exact this⟩)
  rw[ay7]at this
  exact this
 | .pair a b,.inr (fs,n,off),hl,hs=>by
  intro cs hc g9
  simp only[dU]at hl
  obtain⟨f,hf,ho,uC,Kz⟩:=hl
  simp only[Ty.m0,ayQ]at hs
  exact Dx hf ho uC (qF uC hs.1) (qF Kz hs.2) (by simpa [Ty.size]using hc) g9
 | .arr n e,.inl t,hl,hs=>by
  intro fuel cs d h
  simp only[dU]at hl
  obtain⟨⟨i,hi,qp,_⟩,e',hu,hle⟩:=hl
  simp only[Ty.m0]at hs
  have ih:=qF hle hs
  have hse:P.cellsOf e'=e.size:=g6.cells hle
  obtain⟨xs,m,_,_,hc,hxl,hxs⟩:=DataW.trod_array hu h
  have hlen:cs.length=n*e.size:=by rw[hc];simp[Program.cellsOf,hi,qp,Ty.size]
  have key: ∀i,i<n→ ∃x:e.den,Rd w (fun _=>False) e ((cs.drop (i*e.size)).take e.size) x∧WF e x:=fun i hi=>by
   have:=hxs i hi
   rw[ayG (by omega),hse]at this
   exact ih m _ _ this
  obtain⟨l,Dn,hp⟩:=so n key
  refine⟨l,?_,fun i h=>(hp i h).2⟩
  simp only[Rd]
  refine⟨Dn,(List.range n).map fun i=>(cs.drop (i*e.size)).take e.size,by simp,?_,fun i h h'=> ?_⟩
  ·clear hxs h key hp Dn hu
   have: ∀m,m≤n→cs.take (m*e.size)=((List.range m).map fun i=>(cs.drop (i*e.size)).take e.size).flatten:=by
    intro m
    induction m with
    |zero=>simp
    |succ m ihm=>
     intro hm
     rw[aBZ,aze,List.flatten_append,←ihm (by omega)]
     simp only[ay6,az2,aBj,List.flatten_nil,ay2]
     rw[azx,aAw,List.take_add]
   have h2:=this n (ayJ _)
   rw[azo (by omega)]at h2
   exact h2
  ·have:=(hp i h).1
   simpa using this
 | .int _,.inr _,h,_| .bool,.inr _,h,_| .str,.inr _,h,_| .slice _,.inr _,h,_| .arr _ _,.inr _,h,_=>by simp[dU]at h
theorem acY{τ:Ty}{t:TypeId}{r:Reach}{b0:Nat}{v:Value}{d:DataW H}{ps:List MemPlace}(hl:g6 P τ t)(hs:τ.m0=true)(hv:Value.okWide P w r b0 t v)(h:DataW.Trod enc P w 0 (fun _=>true) true t v d ps):
  ∃x:τ.den,V w (fun _=>False) τ v x∧WF τ x:=by
 obtain⟨fuel,h⟩:=h
 obtain⟨x,hx,hw⟩:=qF (H:=H) (enc:=enc) (w:=w) hl hs fuel _ _ h
 refine⟨x,?_,hw⟩
 unfold V
 cases τ with
 |int k=>
  obtain⟨n,rfl⟩:=okWide_int hl.int hv
  exact hx
 |bool=>
  obtain⟨n,rfl⟩:=okWide_bool hl.bool hv
  exact hx
 |str=>
  obtain⟨n,rfl⟩:=okWide_string hl.str hv
  exact hx
 |slice e=>
  obtain⟨e',hu,_⟩:=hl.slice
  obtain⟨a,len,cap,rfl⟩:=okWide_slice hu hv
  exact hx
 |unit=>
  simp only[g6,dU]at hl
  obtain⟨_,fs,hu,_⟩:=hl
  simp only[Value.okWide,hu]at hv
  obtain⟨cs,rfl,_⟩:=hv
  exact⟨cs,rfl,hx⟩
 |pair a b=>
  simp only[g6,dU]at hl
  obtain⟨_,fs,f,hu,_⟩:=hl
  simp only[Value.okWide,hu]at hv
  obtain⟨cs,rfl,_⟩:=hv
  exact⟨cs,rfl,hx⟩
 |arr n e=>
  obtain⟨e',hu,_⟩:=hl.arr
  simp only[Value.okWide,hu]at hv
  obtain⟨cs,rfl,_⟩:=hv
  exact⟨cs,rfl,hx⟩
def WFs:(ms:List Ty)→HP (ms.map .v)→Prop
 |[],_=>True
 |_::ms,x=>WF _ (rQ x)∧WFs ms (wP x)
def hpC:{m:AM}→{ms:List AM}→m.den→HP ms→HP (m::ms)
 |_,[],x,_=>x
 |_,_::_,x,y=>(x,y)
theorem M7{m:AM}: ∀{ms:List AM} (x:m.den) (y:HP ms),rQ (hpC x y)=x
 |[],_,_=>rfl
 |_::_,_,_=>rfl
theorem M8{m:AM}: ∀{ms:List AM} (x:m.den) (y:HP ms),wP (hpC x y)=y
 |[],_,()=>rfl
 |_::_,_,_=>rfl
theorem Dy(laid:laidOutB P=true){r:Reach}{b0:Nat}: ∀{τs:List Ty} {ts:List TypeId} {vs:List Value} {ds:List (DataW H)} {ps:List MemPlace},DataW.TrodAll enc P w 0 (fun _=>true) true ts vs ds ps→
  τs.length=ts.length→(∀(j:Nat) τ t,τs[j]? =some τ→ts[j]? =some t→(g6 P τ t∧τ.m0=true∧P.readableRec t=true∧t<P.types.size))→
  (∀(j:Nat) t v,ts[j]? =some t→vs[j]? =some v→Value.okWide P w r b0 t v)→
  (∃x:HP (τs.map .v),gr w (fun _=>False) (τs.map .v) x vs∧WFs τs x)∧ ∀w',Below w.heap.size w w'→ ∃CI,DataW.TrodAll enc P w' 0 (fun b=>decide (b<w.heap.size)) true ts vs ds CI
 |[],[],vs,ds,ps,h,_,_,_=>by
  obtain⟨rfl,rfl,rfl⟩:=trodAll_nil h
  exact⟨⟨(),rfl,trivial⟩,fun w' _=>⟨[],rfl⟩⟩
 |τ::τs,t::ts,vs,ds,ps,h,hl,CC,hv=>by
  obtain⟨v,Gt,d,ds',p,q,rfl,rfl,rfl,h1,h2⟩:=trodAll_cons h
  obtain⟨vp,acZ,T2,dH⟩:=CC 0 τ t rfl rfl
  obtain⟨x,hx,hwx⟩:=acY vp acZ (hv 0 t v rfl rfl) h1
  obtain⟨⟨y,hy,hwy⟩,Rh⟩:=Dy laid h2 (by simpa using hl) (fun j τ' t' h h'=>CC (j+1) τ' t' (by simpa using h) (by simpa using h')) (fun j t' v' h h'=>hv (j+1) t' v' (by simpa using h) (by simpa using h'))
  refine⟨⟨hpC (m:= .v τ) x y,?_,?_⟩,fun w' hb=> ?_⟩
  ·show gr w _ (.v τ::τs.map .v) _ _
   simp only[gr]
   exact⟨v,Gt,rfl,by rw[M7];exact hx,by rw[M8];exact hy⟩
  ·simp only[WFs]
   exact⟨by rw[M7];exact hwx,by rw[M8];exact hwy⟩
  ·obtain⟨CI,h'⟩:=Rh w' hb
   have sg: ∀z∈p,z.block<w.heap.size:=by
    obtain⟨m,hm⟩:=h1
    exact DataW.trod_lt m _ _ _ hm
   exact⟨p++CI,trodAll_cons_mk (Below.trod laid T2 dH h1 hb sg) h'⟩
 |[],_::_,_,_,_,_,hl,_,_|_::_,[],_,_,_,_,hl,_,_=>by simp at hl
end
end VM
end
section
namespace VM
open Go
variable{α:Type}
noncomputable def vE(L:Nat→Option (List (Nat×CM)))(κ:Nat→St→Option α)(i:Option Nat)(f:St→Option α):St→Option α:=
 match i with
 |none=>f
 |some i=>match L i with
  |none=>f
  |some _=>κ i
noncomputable def Ri(E:Env)(κJ κL:Nat→St→Option α)(c:Code):St→(St→Option α)→(Nat→St→Option α)→(St→Option α)→Option α:=
 Code.rec (motive:=fun _=>St→(St→Option α)→(Nat→St→Option α)→(St→Option α)→Option α)
  (fun σ k _ _=>k σ)
  (fun _ ops draw σ k _ _=>zy E ops draw σ k)
  (fun _ b A B σ k kx kr=>A σ (fun σ'=>rY ((bV b).bind E.tD) σ' (vE E.tD κJ (bV b) fun rJ=>B rJ k kx kr)) kx kr)
  (fun c _ _ A B σ k kx kr=>De E c σ (fun σ'=>A σ' k kx kr) (fun σ'=>B σ' k kx kr))
  (fun id _ A σ k kx kr=>A σ k (fun i σ'=>cond (Nat.beq i id) (k σ') (kx i σ')) kr)
  (fun b _ σ _ kx kr=>rY ((bV b).bind E.rU) σ (vE E.rU κL (bV b) (xN ((bV b).bind E.rU) (fun σ' kn=>zz E b σ' kn kx kr) E.N)))
  (fun _ _ _ _ _ _ _ _ _ _=>none)
  (fun id σ _ kx _=>kx id σ)
  (fun _ A σ k kx kr=>A σ k kx kr)
  (fun _ σ k _ _=>k σ)
  (fun _ _ _ _ _=>none)
  (fun σ _ _ kr=>kr σ)
  (fun _ _ _ _ _=>none)
  c
noncomputable def AH(E:Env)(c:Code):(St→Option α)→(Nat→St→Option α)→(St→Option α)→List (Bool×Nat×(St→Option α)):=
 Code.rec (motive:=fun _=>(St→Option α)→(Nat→St→Option α)→(St→Option α)→List (Bool×Nat×(St→Option α)))
  (fun _ _ _=>[])
  (fun _ _ _ _ _ _=>[])
  (fun _ b A B k kx kr=>A (fun σ'=>rY ((bV b).bind E.tD) σ' fun rJ=>zz E b rJ k kx kr) kx kr++(((bV b).toList.map fun i=>(false,i,fun rJ=>zz E b rJ k kx kr))++B k kx kr))
  (fun _ _ _ A B k kx kr=>A k kx kr++B k kx kr)
  (fun id _ A k kx kr=>A k (fun i σ'=>cond (Nat.beq i id) (k σ') (kx i σ')) kr)
  (fun b _ _ kx kr=>(bV b).toList.map fun i=>(true,i,xN ((bV b).bind E.rU) (fun σ' kn=>zz E b σ' kn kx kr) E.N))
  (fun _ _ _ _ _ _ _ _ _=>[])
  (fun _ _ _ _=>[])
  (fun _ A k kx kr=>A k kx kr)
  (fun _ _ _ _=>[])
  (fun _ _ _ _=>[])
  (fun _ _ _=>[])
  (fun _ _ _ _=>[])
  c
noncomputable def sq(E:Env)(κJ κL:Nat→St→Option α):List (Bool×Nat×(St→Option α))→List ((St→Option α)×(St→Option α))
 |[]=>[]
 |q::r=>match q.1 with
  |false=>match E.tD q.2.1 with
   |some _=>(κJ q.2.1,q.2.2)::sq E κJ κL r
   |none=>sq E κJ κL r
  |true=>match E.rU q.2.1 with
   |some _=>(κL q.2.1,q.2.2)::sq E κJ κL r
   |none=>sq E κJ κL r
def CP(E:Env)(κJ κL:Nat→St→Option α)(l:List (Bool×Nat×(St→Option α))):Prop:= ∀p∈sq E κJ κL l,p.1=p.2
theorem ac0{E:Env}{κJ κL:Nat→St→Option α}{l:List (Bool×Nat×(St→Option α))}(g:List (St→Option α))(h:sq E κJ κL l=g.map fun f=>(f,f)):CP E κJ κL l:=by
 intro p hp
 rw[h]at hp
 obtain⟨f,_,rfl⟩:=azp.1 hp
 rfl
theorem ye{E:Env}{κJ κL:Nat→St→Option α}: ∀(l m:List (Bool×Nat×(St→Option α))),sq E κJ κL (l++m)=sq E κJ κL l++sq E κJ κL m
 |[],m=>rfl
 |(b,i,f)::l,m=>by
  have ih:=ye (E:=E) (κJ:=κJ) (κL:=κL) l m
  cases b<;>simp only[azY,sq]<;>split<;>simp[ih]
theorem CP.app{E:Env}{κJ κL:Nat→St→Option α}{l m:List (Bool×Nat×(St→Option α))}(h:CP E κJ κL (l++m)):CP E κJ κL l∧CP E κJ κL m:=by
 unfold CP at*
 rw[ye]at h
 exact⟨fun p hp=>h p (ayZ _ hp),fun p hp=>h p (ay3 _ hp)⟩
theorem abb{E:Env}{κJ κL:Nat→St→Option α}{i:Option Nat}{f:St→Option α}(h:CP E κJ κL (i.toList.map fun i=>(false,i,f))):vE E.tD κJ i f=f:=by
 cases i with
 |none=>rfl
 |some i=>
  simp only[Option.toList,List.map,CP,sq]at h
  unfold vE
  cases hL:E.tD i with
  |none=>simp[hL]
  |some L=>rw[hL]at h;simp only[hL];exact h (κJ i,f) (ay0.2 rfl)
theorem ain{E:Env}{κJ κL:Nat→St→Option α}{i:Option Nat}{f:St→Option α}(h:CP E κJ κL (i.toList.map fun i=>(true,i,f))):vE E.rU κL i f=f:=by
 cases i with
 |none=>rfl
 |some i=>
  simp only[Option.toList,List.map,CP,sq]at h
  unfold vE
  cases hL:E.rU i with
  |none=>simp[hL]
  |some L=>rw[hL]at h;simp only[hL];exact h (κL i,f) (ay0.2 rfl)
theorem Rj{E:Env}{κJ κL:Nat→St→Option α}(c:Code): ∀(k:St→Option α) (kx:Nat→St→Option α) (kr:St→Option α) (σ:St),CP E κJ κL (AH E c k kx kr)→Ri E κJ κL c σ k kx kr=zz E c σ k kx kr:=by
 induction c with
 |skip=>intros;rfl
 |region=>intros;rfl
 |seq a b iha Qw=>
  intro k kx kr σ h
  obtain⟨h1,h2⟩:=CP.app (h:CP E κJ κL (AH E a _ kx kr++(((bV b).toList.map fun i=>(false,i,fun rJ=>zz E b rJ k kx kr))++AH E b k kx kr)))
  obtain⟨h2,h3⟩:=CP.app h2
  show Ri E κJ κL a σ (fun σ'=>rY ((bV b).bind E.tD) σ' (vE E.tD κJ (bV b) fun rJ=>Ri E κJ κL b rJ k kx kr)) kx kr=zz E a σ (fun σ'=>rY ((bV b).bind E.tD) σ' fun rJ=>zz E b rJ k kx kr) kx kr
  have hb:(fun rJ=>Ri E κJ κL b rJ k kx kr)=fun rJ=>zz E b rJ k kx kr:=funext fun rJ=>Qw k kx kr rJ h3
  rw[hb,abb h2]
  exact iha _ _ _ _ h1
 |cond x a b iha Qw=>
  intro k kx kr σ h
  obtain⟨h1,h2⟩:=CP.app (h:CP E κJ κL (AH E a k kx kr++AH E b k kx kr))
  show De E x σ (fun σ'=>Ri E κJ κL a σ' k kx kr) (fun σ'=>Ri E κJ κL b σ' k kx kr)=De E x σ (fun σ'=>zz E a σ' k kx kr) (fun σ'=>zz E b σ' k kx kr)
  rw[show(fun σ'=>Ri E κJ κL a σ' k kx kr)=fun σ'=>zz E a σ' k kx kr from funext fun σ'=>iha k kx kr σ' h1,show(fun σ'=>Ri E κJ κL b σ' k kx kr)=fun σ'=>zz E b σ' k kx kr from funext fun σ'=>Qw k kx kr σ' h2]
 |block id x ih=>intro k kx kr σ h;exact ih _ _ _ σ h
 |loop b _=>
  intro k kx kr σ h
  show rY ((bV b).bind E.rU) σ (vE E.rU κL (bV b) (xN ((bV b).bind E.rU) (fun σ' kn=>zz E b σ' kn kx kr) E.N))=rY ((bV b).bind E.rU) σ (xN ((bV b).bind E.rU) (fun σ' kn=>zz E b σ' kn kx kr) E.N)
  rw[ain (h:CP E κJ κL ((bV b).toList.map fun i=>(true,i,_)))]
 |rangeFunc=>intros;rfl
 |exit=>intros;rfl
 |scope x ih=>intro k kx kr σ h;exact ih _ _ _ σ h
 |label=>intros;rfl
 |goto=>intros;rfl
 |ret=>intros;rfl
 |refuse=>intros;rfl
noncomputable def kP(E:Env)(κJ κL:Nat→St→Option α):List Nat→Code→List (St→Option α)→St→(St→Option α)→(Nat→St→Option α)→(St→Option α)→Option α
 |[],c,_,σ,k,kx,kr=>Ri E κJ κL c σ k kx kr
 |n::p,c,ks,σ,k,kx,kr=>match c with
  | .seq a b=>match n with
   |0=>kP E κJ κL p a ks σ (fun σ'=>rY ((bV b).bind E.tD) σ' (vE E.tD κJ (bV b) fun rJ=>Ri E κJ κL b rJ k kx kr)) kx kr
   |_=>kP E κJ κL p b ks σ k kx kr
  | .cond _ a b=>match n with
   |0=>kP E κJ κL p a ks σ k kx kr
   |_=>kP E κJ κL p b ks σ k kx kr
  | .block id c=>kP E κJ κL p c ks σ k (fun i σ'=>cond (Nat.beq i id) (k σ') (kx i σ')) kr
  | .loop b=>match ks with
   |κ::ks=>kP E κJ κL p b ks σ κ kx kr
   |[]=>none
  | .scope c=>kP E κJ κL p c ks σ k kx kr
  |_=>none
noncomputable def eY(E:Env):List Nat→Code→List (St→Option α)→(St→Option α)→(Nat→St→Option α)→(St→Option α)→List (Bool×Nat×(St→Option α))
 |[],c,_,k,kx,kr=>AH E c k kx kr
 |n::p,c,ks,k,kx,kr=>match c with
  | .seq a b=>match n with
   |0=>((bV b).toList.map fun i=>(false,i,fun rJ=>zz E b rJ k kx kr))++(AH E b k kx kr++eY E p a ks (fun σ'=>rY ((bV b).bind E.tD) σ' fun rJ=>zz E b rJ k kx kr) kx kr)
   |_=>eY E p b ks k kx kr
  | .cond _ a b=>match n with
   |0=>eY E p a ks k kx kr
   |_=>eY E p b ks k kx kr
  | .block id c=>eY E p c ks k (fun i σ'=>cond (Nat.beq i id) (k σ') (kx i σ')) kr
  | .loop b=>match ks with
   |κ::ks=>eY E p b ks κ kx kr
   |[]=>[]
  | .scope c=>eY E p c ks k kx kr
  |_=>[]
theorem kd{E:Env}{κJ κL:Nat→St→Option α}: ∀(p:List Nat) (c:Code) (ks:List (St→Option α)) (k:St→Option α) (kx:Nat→St→Option α) (kr:St→Option α) (σ:St),CP E κJ κL (eY E p c ks k kx kr)→
  kP E κJ κL p c ks σ k kx kr=rK E p c ks σ k kx kr
 |[],c,ks,k,kx,kr,σ,h=>Rj c k kx kr σ h
 |n::p,c,ks,k,kx,kr,σ,h=>by
  cases c with
  |seq a b=>
   cases n with
   |zero=>
    simp only[kP,rK,eY]at h ⊢
    obtain⟨h1,h2⟩:=CP.app h
    obtain⟨h2,h3⟩:=CP.app h2
    rw[show(fun rJ=>Ri E κJ κL b rJ k kx kr)=fun rJ=>zz E b rJ k kx kr from funext fun rJ=>Rj b k kx kr rJ h2,abb h1]
    exact kd p a ks _ kx kr σ h3
   |succ n=>simp only[kP,rK,eY]at h ⊢;exact kd p b ks k kx kr σ h
  |cond x a b=>
   cases n with
   |zero=>simp only[kP,rK,eY]at h ⊢;exact kd p a ks k kx kr σ h
   |succ n=>simp only[kP,rK,eY]at h ⊢;exact kd p b ks k kx kr σ h
  |block id x=>simp only[kP,rK,eY]at h ⊢;exact kd p x ks k _ kr σ h
  |loop b=>
   cases ks with
   |nil=>simp only[kP,rK]
   |cons κ ks=>simp only[kP,rK,eY]at h ⊢;exact kd p b ks κ kx kr σ h
  |scope x=>simp only[kP,rK,eY]at h ⊢;exact kd p x ks k kx kr σ h
  |_=>simp only[kP,rK]
noncomputable def AI(fn:Func):Code:=fn.body.getD .skip
noncomputable def Ht(E:Env)(fn:Func)(args res:List AM):St→Option (HP res):=fun σ=>EI E res (fn.results.toList.map .inl++wV args 0) σ some
noncomputable def nox:Nat→St→Option α:=fun _ _=>none
noncomputable def avm:St→Option α:=fun _=>none
noncomputable def atF(E:Env)(fn:Func)(args res:List AM)(p:List Nat)(ks:List (St→Option (HP res)))(σ:St):Option (HP res):=
 rK E p (AI fn) ks σ (Ht E fn args res) nox (Ht E fn args res)
noncomputable def atQ(E:Env)(fn:Func)(args res:List AM)(κJ κL:Nat→St→Option (HP res))(p:List Nat)(ks:List (St→Option (HP res)))(σ:St):Option (HP res):=
 kP E κJ κL p (AI fn) ks σ (Ht E fn args res) nox (Ht E fn args res)
noncomputable def U4(E:Env)(fn:Func)(args res:List AM)(p:List Nat)(ks:List (St→Option (HP res))):List (Bool×Nat×(St→Option (HP res))):=
 eY E p (AI fn) ks (Ht E fn args res) nox (Ht E fn args res)
theorem anZ{E:Env}{fn:Func}{args res:List AM}{κJ κL:Nat→St→Option (HP res)}{p:List Nat}{ks:List (St→Option (HP res))}(g:List (St→Option (HP res)))(h:sq E κJ κL (U4 E fn args res p ks)=g.map fun f=>(f,f))(σ:St):
 atF E fn args res p ks σ=atQ E fn args res κJ κL p ks σ:=(kd p _ ks _ _ _ σ (ac0 g h)).symm
theorem ac2{E:Env}{fn:Func}{args res:List AM}(hb:fn.body.isSome=true)(x:HP args):GK E fn args res x=atF E fn args res [] [] (entry args x 0 S0):=by
 unfold GK atF AI
 cases h:fn.body with
 |none=>rw[h]at hb;cases hb
 |some c=>rfl
noncomputable def lpF(E:Env)(fn:Func)(args res:List AM)(c:List (Nat×CM))(p:List Nat)(ks:List (St→Option (HP res)))(n:Nat):St→Option (HP res):=
 xN (some c) (fun σ kn=>atF E fn args res p (ks++[kn]) σ) n
theorem Rk(E:Env)(fn:Func)(args res:List AM)(c:List (Nat×CM))(p:List Nat)(ks:List (St→Option (HP res)))(n:Nat)(σ:St):
 lpF E fn args res c p ks (n+1) σ=atF E fn args res p (ks++[fun σ'=>rY (some c) σ' (lpF E fn args res c p ks n)]) σ:=rfl
def Rl{β:Type}(κ:Nat→β):List (Nat×β)→Prop
 |[]=>True
 |q::r=>κ q.1=q.2∧Rl κ r
def OE{β:Type}:List (β×β)→Prop
 |[]=>True
 |q::r=>q.1=q.2∧OE r
theorem OE.mem{β:Type}: ∀{l:List (β×β)},OE l→ ∀p∈l,p.1=p.2
 |q::r,h,p,hp=>by
  rcases ayY.1 hp with rfl|hp
  ·exact h.1
  ·exact OE.mem h.2 p hp
theorem aio{β:Type}(d:β): ∀(l:List (Nat×β)),(l.map (·.1)).Nodup→ ∃κ:Nat→β,Rl κ l
 |[],_=>⟨fun _=>d,trivial⟩
 |q::r,h=>by
  rw[ay6,aB1]at h
  obtain⟨κ,hκ⟩:=aio d r h.2
  refine⟨fun i=>if i=q.1 then q.2 else κ i,by simp,?_⟩
  have key: ∀(r':List (Nat×β)),(∀p∈r',p∈r)→Rl κ r'→Rl (fun i=>if i=q.1 then q.2 else κ i) r':=by
   intro r'
   induction r' with
   |nil=>intros;trivial
   |cons p r' ih=>
    intro hm ha
    refine⟨?_,ih (fun p' wN=>hm p' (ayK _ wN)) ha.2⟩
    have gq:p.1≠q.1:=fun e=>h.1 (e▸azi (hm p (ayN ..)))
    show(if p.1=q.1 then q.2 else κ p.1)=p.2
    rw[ayE gq]
    exact ha.1
  exact key r (fun _ h=>h) hκ
theorem as0{β:Type}(d:β)(l:List (Nat×β)){ks:List Nat}(h:l.map (·.1)=ks)(hd:ks.Nodup): ∃κ:Nat→β,Rl κ l:=aio d l (h▸hd)
theorem at_eq(E:Env)(fn:Func)(args res:List AM){κJ κL:Nat→St→Option (HP res)}{p:List Nat}{ks:List (St→Option (HP res))}{l:List ((St→Option (HP res))×(St→Option (HP res)))}(h:sq E κJ κL (U4 E fn args res p ks)=l)(hl:OE l)(σ:St):
 atF E fn args res p ks σ=atQ E fn args res κJ κL p ks σ:=(kd p _ ks _ _ _ σ (by unfold CP;rw[show sq E κJ κL (eY E p (AI fn) ks (Ht E fn args res) nox (Ht E fn args res))=l from h];exact hl.mem)).symm
end VM
end
section
namespace VM
open Go Go.RowKit
variable{P:Program}
def Hu(i:Nat):List (Nat×Ty)→Option Ty
 |[]=>none
 |q::r=>cond (Nat.beq i q.1) (some q.2) (Hu i r)
theorem Dz{i:Nat}{τ:Ty}: ∀{l:List (Nat×Ty)},Hu i l=some τ→(i,τ)∈l
 |q::r,h=>by
  unfold Hu at h
  cases hb:Nat.beq i q.1<;>rw[hb]at h
  ·exact ayK _ (Dz h)
  ·cases h;rw[ay9 hb];exact ayN ..
structure AJ(P:Program)(tab:List (Nat×Ty)):Prop where
 ok:aij P tab=true
 mixed:P.follows .mixedOrders=true
theorem OF{E:Env}(hE:o3 P E)(an1:E.io=[]){f:FuncId}{fn:Func}(hf:P.funcs[f]? =some fn)(τs:List Ty)
  (hc:(Nat.beq E.nt fn.ntmps&&Nat.ble τs.length E.nt)=true) {w:World} {vs:List Value} {x:HP (τs.map .v)} (hA:gr w (fun _=>False) (τs.map .v) x vs)
  (h:GK E fn (τs.map .v) [.v .bool] x=some true):Calls P f vs.toArray w fun e w'=>e= .returned (.bool true)∧Below w.heap.size w w':=by
 rw[ayQ]at hc
 have hnt:=ay9 hc.1
 have hlen:=aBn hc.2
 have hh: ∀(τs:List Ty) (vs:List Value),cW (τs.map .v) vs=[]:=by
  intro τs
  induction τs with
  |nil=>intro vs;cases vs<;>rfl
  |cons τ τs ih=>intro vs;cases vs with
   |nil=>rfl
   |cons v vs=>simp[cW,cN,ih]
 have hi: ∀(τs:List Ty) (vs:List Value),dK (τs.map .v) vs=[]:=by
  intro τs
  induction τs with
  |nil=>intro vs;cases vs<;>rfl
  |cons τ τs ih=>intro vs;cases vs with
   |nil=>rfl
   |cons v vs=>simp[dK,AM.fY,ih]
 refine(Dv (M0:=fun _=>False) (vs:=vs) hE hf hnt (fun i m hm s6=> ?_) (fun i hi=>by rw[an1]at hi;cases hi) (by rw[ay1];rw[←hnt];exact hlen) (fun b hb=>hb.elim) (by rw[hh];simpa using hA) (by rw[hh];exact List.nodup_nil) (fun b _ hb=>hb) h).mono ?_
 ·rw[az0]at hm
  obtain⟨τ,_,rfl⟩:=aAP.1 hm
  cases s6
 ·rintro e w' ⟨v,rfl,us,M',rfl,Qj,hL,_,_⟩
  rw[hh]at hL
  rw[hi]at Qj
  simp only[RR]at Qj
  rcases Qj with⟨p,CI,h1,_⟩|⟨v,Gt,_,_,rfl,hv,rfl,_⟩
  ·cases h1
  ·refine⟨?_,hL.os,hL.tape,hL.output,hL.size,fun b hb=>hL.frame b hb (by simp)⟩
   have:v= .bool true:=by
    simp only[A1,V,Ty.isAgg,azv,aAt,Rd,azq,az4]at hv
    exact hv
   rw[this];rfl
def Rm(P:Program):List Ty→List TypeId→Bool
 |[],[]=>true
 |τ::τs,t::ts=>(p3 P τ (.inl t)&&τ.m0)&&((P.readableRec t&&decide (t<P.types.size))&&Rm P τs ts)
 |_,_=>false
theorem E6: ∀{τs:List Ty} {ts:List TypeId},Rm P τs ts=true→τs.length=ts.length∧ ∀(j:Nat) τ t,τs[j]? =some τ→ts[j]? =some t→(g6 P τ t∧τ.m0=true∧P.readableRec t=true∧t<P.types.size)
 |[],[],_=>⟨rfl,fun j τ t h=>by simp at h⟩
 |τ::τs,t::ts,h=>by
  simp only[Rm,ayQ]at h
  obtain⟨⟨h1,h2⟩,⟨h3,h4⟩,h5⟩:=h
  obtain⟨hl,ih⟩:=E6 h5
  refine⟨by simp[hl],fun j τ' t' ha hb=> ?_⟩
  cases j with
  |zero=>
   simp only[aBQ,azz]at ha hb
   subst ha;subst hb
   exact⟨eK h1,h2,h3,ayV h4⟩
  |succ j=>exact ih j τ' t' (by simpa using ha) (by simpa using hb)
 |[],_::_,h|_::_,[],h=>by simp[Rm]at h
theorem Rn{H:Type}{enc:TypeId×Value→H}{w:World}{fn:Func}{args:Array Value}{ds:List (DataW H)}{ps:List MemPlace}{r:Reach}{b0:Nat}(laid:laidOutB P=true)(τs:List Ty)
  (hA:DataW.TrodAll enc P w 0 (fun _=>true) true fn.params.toList args.toList ds ps) (CC:Rm P τs fn.params.toList=true)
  (hv: ∀(j:Nat) t v,fn.params[j]? =some t→args[j]? =some v→Value.okWide P w r b0 t v):
  (∃x:HP (τs.map .v),gr w (fun _=>False) (τs.map .v) x args.toList∧WFs τs x)∧ ∀w',Below w.heap.size w w'→ ∃CI,DataW.TrodAll enc P w' 0 (fun b=>decide (b<w.heap.size)) true fn.params.toList args.toList ds CI:=
 Dy laid hA (E6 CC).1 (E6 CC).2 (fun j t v h h'=>hv j t v (by rw[azh]at h;exact h) (by rw[azh]at h';exact h'))
end VM
end
