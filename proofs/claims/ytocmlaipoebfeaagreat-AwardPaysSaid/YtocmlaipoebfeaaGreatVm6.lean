/- A part of the proof of AwardPays of layer 25: a machine that reads a function of the program as an equation between values. -/
import Derived.Test.YtocmlaipoebfeaaGreatVm5
import Derived.Laws.StructEq
import Derived.OpenShut
import Derived.ChangeShapes
import Derived.ChangeMaps5
import Derived.RowKit
import Derived.ChangeOld
import Derived.Carry
import Derived.Below
import Derived.Test.YtocmlaipoebfeaaGreatVm0
set_option linter.all false
section
namespace VM
open Go
variable{P:Program}{E:Env}{o:Oper}{a:Act}{w:World}{M:Nat→Prop}{ν:Nat→Value}{σ:St}{c:Ctx}{α:Type}{r:α}{next:Act→World→Prop}{Q:Exit→Act→World→Prop}
theorem wN{L:Option (List (Nat×CM))}(hL: ∀L',L=some L'→gq L'=true){b:Code}{Q:Exit→Act→World→Prop}{step:St→(St→Option α)→Option α}
  (hs: ∀σ a w kn (Q':Exit→Act→World→Prop),Inv c E σ a w→step σ kn=some r→(∀σ' a' w',kn σ'=some r→Inv c E σ' a' w'→Q' .normal a' w')→(∀e a' w',e≠ .normal→Q e a' w'→Q' e a' w')→b.wp P Q' a w):
  ∀n σ a w,Inv c E σ a w→wy L step n σ=some r→Code.rounds P b Q n a w
 |0,σ,a,w,_,h=>by cases h
 |n+1,σ,a,w,hI,h=>by
  rw[rounds_succ]
  refine hs σ a w _ _ hI h (fun σ' a' w' h' sX=> ?_) (fun e a' w' he hq=> ?_)
  ·obtain⟨qI,JS,Y7⟩:=tu sX hL h'
   exact wN hL hs n qI a' w' Y7 JS
  ·cases e<;>first|exact hq|exact absurd rfl he
theorem Lo(hE:n6 P E): ∀(cd:Code) (σ:St) (a:Act) (w:World) (k:St→Option α) (kx:Nat→St→Option α) (kr:St→Option α) (Q:Exit→Act→World→Prop),Inv c E σ a w→xZ E cd σ k kx kr=some r→
  (∀σ' a' w',k σ'=some r→Inv c E σ' a' w'→Q .normal a' w')→(∀i σ' a' w',kx i σ'=some r→Inv c E σ' a' w'→Q (.exit i) a' w')→(∀σ' a' w',kr σ'=some r→Inv c E σ' a' w'→Q .ret a' w')→cd.wp P Q a w:=by
 intro cd
 induction cd with
 |skip=>intro σ a w k kx kr Q hI h hk _ _;exact wp_skip (hk σ a w h hI)
 |region id ops draw=>intro σ a w k kx kr Q hI h hk _ _;exact A3 hE hI h hk
 |seq x y ihx ihy=>
  intro σ a w k kx kr Q hI h hk hx hr
  refine wp_seq (ihx σ a w _ kx kr _ hI h (fun σ' a' w' h' sX=> ?_) hx hr)
  obtain⟨qI,JS,Y7⟩:=tu sX (fun L' hL=>by
   cases hf:bL y with
   |none=>rw[hf]at hL;cases hL
   |some i=>rw[hf]at hL;exact hE.NH i L' hL) h'
  exact ihy qI a' w' k kx kr Q Y7 JS hk hx hr
 |cond x t e iht ihe=>
  intro σ a w k kx kr Q hI h hk hx hr
  obtain⟨b,hb,h⟩:=EI (E:=E) (A:=fun σ'=>xZ E t σ' k kx kr) (B:=fun σ'=>xZ E e σ' k kx kr) hI h
  refine wp_cond hb ?_
  cases b
  ·exact ihe σ a w k kx kr Q hI h hk hx hr
  ·exact iht σ a w k kx kr Q hI h hk hx hr
 |block id x ih=>
  intro σ a w k kx kr Q hI h hk hx hr
  refine wp_block (ih σ a w k _ kr _ hI h hk (fun i σ' a' w' h' sX=> ?_) hr)
  show if i=id then Q .normal a' w' else Q (.exit i) a' w'
  cases hb:Nat.beq i id
  ·have ib:i≠id:=fun e=>by subst e;rw[show Nat.beq i i=true from awm i]at hb;cases hb
   rw[hb]at h'
   rw[atL ib]
   exact hx i σ' a' w' h' sX
  ·rw[hb]at h'
   rw[atK (auj hb)]
   exact hk σ' a' w' h' sX
 |loop b ih=>
  intro σ a w k kx kr Q hI h hk hx hr
  have hL: ∀L',(bL b).bind E.qV=some L'→gq L'=true:=fun L' hL=>by
   cases hf:bL b with
   |none=>rw[hf]at hL;cases hL
   |some i=>rw[hf]at hL;exact hE.gq i L' hL
  obtain⟨σ',h',sX⟩:=tu hI hL h
  refine wp_loop_rounds E.N (wN hL (fun σ a w kn Q' hI h hkn hq=> ?_) E.N σ' a w sX h')
  exact ih σ a w kn kx kr Q' hI h hkn (fun i σ' a' w' h' sX=>hq _ _ _ (by simp) (hx i σ' a' w' h' sX)) (fun σ' a' w' h' sX=>hq _ _ _ (by simp) (hr σ' a' w' h' sX))
 |rangeFunc f ps x y ihx ihy=>intro σ a w k kx kr Q hI h;cases h
 |exit id=>intro σ a w k kx kr Q hI h hk hx hr;exact wp_exit (hx id σ a w h hI)
 |scope x ih=>
  intro σ a w k kx kr Q hI h hk hx hr
  exact wp_scope_straight (ih σ a w k kx kr _ hI h hk hx hr)
 |label l=>intro σ a w k kx kr Q hI h hk _ _;exact wp_label (hk σ a w h hI)
 |goto l=>intro σ a w k kx kr Q hI h;cases h
 |ret=>intro σ a w k kx kr Q hI h hk hx hr;exact wp_ret (hr σ a w h hI)
 |refuse s=>intro σ a w k kx kr Q hI h;cases h
end VM
end
section
namespace VM
open Go
variable{P:Program}{E:Env}{o:Oper}{a:Act}{w:World}{M:Nat→Prop}{ν:Nat→Value}{σ:St}{c:Ctx}{α:Type}{r:α}{next:Act→World→Prop}{Q:Exit→Act→World→Prop}
theorem Ip{m:AM}{ms:List AM}(x:HP (m::ms))(i:Nat)(σ:St):entry (m::ms) x i σ=entry ms (vz x) (i+1) (H6 m (qS x) i σ):=by
 cases ms with
 |nil=>simp[entry,qS]
 |cons n ms=>simp[entry,qS,vz]
theorem Core.wI{tm:Array Value}(h:Core c σ tm w M ν){id:Nat}{v:Value}{e:aR}(aT:σ.H id=none)(KW:ER w M v e)
  (hd: ∀b,eA v=some b→ ∀i e',σ.H i=some e'→e'.mut→eA (ν i)≠some b) (hn: ∀b,eA v=some b→c.B≤b∨c.may b) (ho: ∀b e0 l0,e= .own e0 l0→eA v=some b→ ¬c.M0 b)
  (oK: ∀τ x p j,e= .dY τ x p j→bo σ.H id (some e) j≠none∧ ∃b,v= .pointer (some ⟨b,0,none⟩)∧w.cell? ⟨b,bD p τ,none⟩=some (cn ν id v j):=by intro _ _ _ _ h;cases h):
  Core c ⟨σ.T,bo σ.H id (some e)⟩ tm w M (cn ν id v):=by
 have hm:=Mem.wI h.mem (id:=id) (v:=v) (e:=e) (fun e' sV=>by rw[aT]at sV;cases sV) KW hd hn ho (.inl aT) oK
 refine h.tr ⟨hm,.refl w M,⟨fun i e1 hi=> ?_,fun i hi=> ?_⟩⟩
 ·have br:i≠id:=fun e=>by rw[e,aT]at hi;cases hi
  exact⟨e1,by rw[al _ _ br];exact hi,.refl e1⟩
 ·have br:i≠id:=fun e=>hi (e▸aT)
  simp[cn,br]
theorem Core.put{tm:Array Value}(h:Core c σ tm w M ν){d:Nat}{x:aW}(hx:VR w M σ.H ν x (tm.getD d undef)):Core c (σ.put d x) tm w M ν:=by
 refine⟨h.mem,fun i=> ?_⟩
 by_cases hi:i=d
 ·subst hi;rw[pG];exact hx
 ·rw[uF _ _ hi];exact h.tmp i
theorem wO{tm:Array Value}: ∀{ms:List AM} {x:HP ms} {vs:List Value} {i:Nat} {σ:St} {ν:Nat→Value} {used:List Nat},Core c σ tm w M ν→fY w M ms x vs→(∀j v,vs[j]? =some v→tm.getD (i+j) undef=v)→
  (∀j,16*i≤j→σ.H j=none)→(∀j e b,σ.H j=some e→e.mut→eA (ν j)=some b→b∈used)→(used++cG ms vs).Nodup→(∀b∈cG ms vs,c.may b)→(∀b,c.may b→ ¬c.M0 b)→
  ∃ν',Core c (entry ms x i σ) tm w M ν'
 |[],x,vs,i,σ,ν,used,h,_,_,_,_,_,_,_=>⟨ν,h⟩
 |m::ms,x,vs,i,σ,ν,used,h,hA,HL,ik,BB,uE,Iq,Ej=>by
  rw[Ip]
  simp only[fY]at hA
  obtain⟨v,DY,rfl,h1,h2⟩:=hA
  have hv:tm.getD i undef=v:=by simpa using HL 0 v rfl
  have ET: ∀j u,DY[j]? =some u→tm.getD (i+1+j) undef=u:=fun j u hj=>by
   have:=HL (j+1) u (by simpa using hj)
   rwa [show i+(j+1)=i+1+j from by omega]at this
  have aT:σ.H (16*i+15)=none:=ik _ (by omega)
  have Y8:cG (m::ms) (v::DY)=cy m v++cG ms DY:=rfl
  rw[Y8]at uE Iq
  have rk: ∀b,b∈cy m v→ ∀j e',σ.H j=some e'→e'.mut→eA (ν j)≠some b:=fun b hb j e' hj gP dx=>
   mC uE (BB j e' b hj gP dx) (at5 _ hb)
  have sW: ∀{σ':St} {ν':Nat→Value},Core c σ' tm w M ν'→(∀j,16*(i+1)≤j→σ'.H j=none)→(∀j e b,σ'.H j=some e→e.mut→eA (ν' j)=some b→b∈used++cy m v)→ ∃ν'',Core c (entry ms (vz x) (i+1) σ') tm w M ν'':=
   fun h' xn hu'=>wO h' h2 ET xn hu' (by rw[atV];exact uE) (fun b hb=>Iq b (aub _ hb)) Ej
  have Lg: ∀(e:aR) (v':Value),v'=v→(∀b,eA v=some b→b∈cy m v)→(∀j,16*(i+1)≤j→bo σ.H (16*i+15) (some e) j=none)∧
    (∀j e1 b,bo σ.H (16*i+15) (some e) j=some e1→e1.mut→eA (cn ν (16*i+15) v' j)=some b→b∈used++cy m v):=by
   rintro e v' rfl hb
   refine⟨fun j hj=>by rw[al _ _ (by omega)];exact ik j (by omega),fun j e1 b hj gP dx=> ?_⟩
   by_cases tx:j=16*i+15
   ·subst tx
    simp only[cn,av8]at dx
    exact aub _ (hb b dx)
   ·rw[al _ _ tx]at hj
    simp only[cn,tx,avq]at dx
    exact at5 _ (BB j e1 b hj gP dx)
  cases m with
  |v τ=>
   refine sW (σ':=σ.put i (.val τ (qS x))) (h.put ?_) (fun j hj=>ik j (by omega)) (fun j e b hj gP dx=>at5 _ (BB j e b hj gP dx))
   simp only[VR,hv];exact h1
  |fn f τ=>
   refine sW (σ':=σ.put i (.D7 f (lR τ (qS x)))) (h.put ?_) (fun j hj=>ik j (by omega)) (fun j e b hj gP dx=>at5 _ (BB j e b hj gP dx))
   rw[hv]
   simp only[A1,VR]at h1 ⊢
   obtain⟨us,hu,HG⟩:=h1
   exact⟨us,hu,fN.free HG⟩
  |own e=>
   have tZ: ∀b,eA v=some b→b∈cy (.own e) v:=fun b hb=>by simp[cy,hb]
   have hc:=h.wI aT (v:=v) (e:= .own e (qS x)) h1 (fun b hb=>rk b (tZ b hb)) (fun b hb=> .inr (Iq b (at5 _ (tZ b hb)))) (fun b _ _ _ hb=>Ej b (Iq b (at5 _ (tZ b hb))))
   obtain⟨xn,hu'⟩:=Lg (.own e (qS x)) v rfl tZ
   refine sW (σ':=(σ.put i (.ref (16*i+15))).g6 (16*i+15) (some (.own e (qS x)))) (ν':=cn ν (16*i+15) v) (hc.put (d:=i) (x:= .ref (16*i+15)) ?_) xn hu'
   simp only[VR,hv]
   exact⟨by rw[ak];simp,by simp[cn]⟩
  |io τ=>
   have tZ: ∀b,eA v=some b→b∈cy (.io τ) v:=fun b hb=>by simp[cy,hb]
   have hc:=h.wI aT (v:=v) (e:= .obj τ (qS x)) h1 (fun b hb=>rk b (tZ b hb)) (fun b hb=> .inr (Iq b (at5 _ (tZ b hb)))) (fun b _ _ he=>by cases he)
   obtain⟨xn,hu'⟩:=Lg (.obj τ (qS x)) v rfl tZ
   refine sW (σ':=(σ.put i (.fA (16*i+15) [])).g6 (16*i+15) (some (.obj τ (qS x)))) (ν':=cn ν (16*i+15) v) (hc.put (d:=i) (x:= .fA (16*i+15) []) ?_) xn hu'
   simp only[A1,ER]at h1
   obtain⟨b,cs,t,ND,_⟩:=h1
   simp only[VR,hv]
   exact⟨_,ak _ _ _,trivial,b,by simp[cn,ND],ND⟩
  |fA τ=>
   refine sW (σ':=σ.put i (.mL τ (qS x))) (h.put ?_) (fun j hj=>ik j (by omega)) (fun j e b hj gP dx=>at5 _ (BB j e b hj gP dx))
   rw[hv]
   simp only[A1,VR]at h1 ⊢
   exact h1
  |ptr τ=>
   refine sW (σ':=σ) h (fun j hj=>ik j (by omega)) (fun j e b hj gP dx=>at5 _ (BB j e b hj gP dx))
def rl(tm:Array Value):ResultVar→Sem Value
 | .tmp t=>pure (tm.getD t undef)
 | .cell x t=>do loadVar t (←asAddr (tm.getD x undef))
def xB(P:Program)(tm:Array Value)(w:World)(rv:ResultVar)(u:Value):Prop:=(rl tm rv).run P w= .ok u w
def D0(P:Program)(tm:Array Value)(w:World):List (ResultVar ⊕ Nat)→List Value→List Value→Prop
 |[],us,ps=>us=[]∧ps=[]
 | .inl rv::rs,us,ps=> ∃u CI,us=u::CI∧xB P tm w rv u∧D0 P tm w rs CI ps
 | .inr i::rs,us,ps=> ∃p AX,ps=p::AX∧p=tm.getD i undef∧D0 P tm w rs us AX
theorem Core.RG{tm:Array Value}{H1:Nat→Option aR}{M1:Nat→Prop}(h: ∀i,VR w M σ.H ν (σ.T i) (tm.getD i undef))(k:dh w M w M1)(g:oJ σ.H ν H1 ν): ∀i,VR w M1 H1 ν (σ.T i) (tm.getD i undef):=
 fun i=>VR.bp k g (h i)
theorem wP(hE:EnvTy P E){tm:Array Value}{H0 Hq:Nat→Option aR}{M1:Nat→Prop}{uo uf:fD}{io:List (Nat×Ty)}{hs:List Nat}(h:ij c w M ν H0 σ.H Hq M1 uo uf io hs)(ht: ∀i,VR w M1 σ.H ν (σ.T i) (tm.getD i undef))
  {m:AM} {rs:ResultVar ⊕ Nat} {k:m.den→St→Option α} (hk:Bp E m rs σ k=some r):
  ∃y σ' DT DU AA M4 M2 u,k y σ'=some r∧σ'.T=σ.T∧ij c w M ν H0 σ'.H M4 M2 DT DU AA (hs++cy m u)∧dh w M1 w M2∧oJ σ.H ν σ'.H ν∧A1 w M2 m y u∧
   ((m.fO=false∧m.Rn=false∧ ∃rv,rs= .inl rv∧xB P tm w rv u)∨(m.fO=true∧ ∃i,rs= .inr i∧u=tm.getD i undef)):=by
 unfold Bp at hk
 split at hk
 ·
  rename_i τ t k
  obtain⟨y,rd,ups,hk,hy⟩:=yc h.mem (ht t) hk
  have Ir:xB P tm w (.tmp t) (tm.getD t undef):=by simp[xB,rl]
  rcases hy with⟨rfl,hV⟩|⟨id,e,l,rfl,aT,hV⟩
  ·exact⟨y,σ,uo,uf,io,Hq,M1,_,hk,rfl,by simpa [cy]using h,.refl w M1,.refl _ ν,hV,.inl ⟨rfl,rfl,_,rfl,Ir⟩⟩
  ·obtain⟨M2,hA,hK,CB⟩:=h.freeze aT
   exact⟨y,_,uo,_,io,Hq,M2,_,hk,rfl,(by simp only[cy,auh];exact hA),hK,.YS aT ⟨rfl,rfl⟩,hV M2 CB,.inl ⟨rfl,rfl,_,rfl,Ir⟩⟩
 ·
  rename_i τ x t k
  split at hk
  ·rename_i τ' AQ
   obtain⟨e1,YT⟩:=dJ hk
   clear hk
   subst e1
   obtain⟨υ,z,rd,hk,b,off,cs,hv,ma,g4⟩:=wB h.mem (ht x) YT
   obtain⟨e2,QP⟩:=aY hk
   subst e2
   refine⟨_,σ,uo,uf,io,Hq,M1,bK _ cs,QP,rfl,by simpa [cy]using h,.refl w M1,.refl _ ν,V.bK g4,.inl ⟨rfl,rfl,_,rfl,?_⟩⟩
   simp only[xB,rl,hv]
   simp[asAddr,wA (hE.ty t _ AQ) ma g4]
  ·cases hk
 ·
  rename_i e t k
  have hv:=ht t
  have Ir:xB P tm w (.tmp t) (tm.getD t undef):=by simp[xB,rl]
  split at hk
  ·rename_i hT
   rw[hT]at hv
   obtain⟨ad,hv⟩:=VR.emp.1 hv
   have hb:eA (.slice ad 0 0)=none:=by cases ad<;>simp[eA]
   exact⟨[],σ,uo,uf,io,Hq,M1,_,hk,rfl,by rw[hv];simpa [cy,hb]using h,.refl w M1,.refl _ ν,by rw[hv];simp only[A1,ER];exact .inl ⟨trivial,ad,rfl⟩,.inl ⟨rfl,rfl,_,rfl,Ir⟩⟩
  ·rename_i id hT
   rw[hT]at hv
   simp only[VR]at hv
   split at hk
   ·rename_i e' l aT
    obtain⟨e1,hk⟩:=aY hk
    cases e1
    refine⟨_,_,_,uf,io,_,M1,ν id,hk,rfl,(by simp only[cy];exact h.hand aT),.refl w M1,.YS aT (aR.kb _),h.mem.iT id _ aT,.inl ⟨rfl,rfl,_,rfl,by rw[←hv.2];exact Ir⟩⟩
   ·cases hk
  ·cases hk
 ·
  rename_i τ i k
  have hv:=ht i
  split at hk
  ·rename_i id hT
   rw[hT]at hv
   split at hk
   ·rename_i υ z aT
    obtain⟨e1,hk⟩:=aY hk
    subst e1
    simp only[VR]at hv
    obtain⟨e,he,jO⟩:=hv
    rw[aT]at he;cases he
    simp only[AR]at jO
    obtain⟨_,b,hb,hv⟩:=jO
    have ND:tm.getD i undef=ν id:=by rw[hv,hb];rfl
    refine⟨_,_,uo,uf,_,_,M1,ν id,hk,rfl,(by simp only[cy];exact h.YR aT),.refl w M1,.YS aT (aR.kb _),h.mem.iT id _ aT,.inr ⟨rfl,i,rfl,ND.symm⟩⟩
   ·cases hk
  ·cases hk
 ·
  rename_i τ t k
  have hv:=ht t
  have Ir:xB P tm w (.tmp t) (tm.getD t undef):=by simp[xB,rl]
  split at hk
  ·rename_i id hT
   rw[hT]at hv
   split at hk
   ·rename_i υ z aT
    obtain⟨e1,hk⟩:=aY hk
    subst e1
    simp only[VR]at hv
    obtain⟨e,he,jO⟩:=hv
    rw[aT]at he;cases he
    simp only[AR]at jO
    obtain⟨_,b,hb,hv⟩:=jO
    have ND:tm.getD t undef=ν id:=by rw[hv,hb];rfl
    refine⟨_,_,uo,uf,_,_,M1,ν id,hk,rfl,(by simp only[cy];exact h.YR aT),.refl w M1,.YS aT (aR.kb _),h.mem.iT id _ aT,.inl ⟨rfl,rfl,_,rfl,by rw[←ND];exact Ir⟩⟩
   ·cases hk
  ·cases hk
 ·cases hk
theorem yX(hE:EnvTy P E){tm:Array Value}{H0:Nat→Option aR}: ∀{ms:List AM} {rs:List (ResultVar ⊕ Nat)} {σ:St} {Hq:Nat→Option aR} {M1:Nat→Prop} {uo uf:fD} {io:List (Nat×Ty)} {hs:List Nat} {K:HP ms→Option α},
  ij c w M ν H0 σ.H Hq M1 uo uf io hs→(∀i,VR w M1 σ.H ν (σ.T i) (tm.getD i undef))→Cu E ms rs σ K=some r→
  ∃y us ps H2 DT DU AA M4 M2,K y=some r∧ij c w M ν H0 H2 M4 M2 DT DU AA (hs++a8 ms us ps)∧dh w M1 w M2∧RR w M2 ms y us ps∧D0 P tm w rs us ps
 |[],[],σ,Hq,M1,uo,uf,io,hs,K,h,ht,hk=>⟨(),[],[],σ.H,uo,uf,io,Hq,M1,hk,by simpa [a8]using h,.refl w M1,⟨rfl,rfl⟩,⟨rfl,rfl⟩⟩
 |[m],[q],σ,Hq,M1,uo,uf,io,hs,K,h,ht,hk0=>by
  obtain⟨y,σ',DT,DU,AA,M4,M2,u,hk,hT,hA,hK,hG,hy,hu⟩:=wP hE h ht (hk0:Bp E m q σ _=some r)
  clear hk0
  rcases hu with⟨h1,h2,rv,rfl,hv⟩|⟨h1,i,rfl,hv⟩
  ·refine⟨y,[u],[],_,_,_,_,_,M2,hk,by simpa [a8,h1]using hA,hK,?_,?_⟩
   ·simp only[RR];exact .inr ⟨u,[],h1,h2,rfl,hy,by simp⟩
   ·simp only[D0];exact⟨u,[],rfl,hv,by simp⟩
  ·refine⟨y,[],[u],_,_,_,_,_,M2,hk,by simpa [a8,h1]using hA,hK,?_,?_⟩
   ·simp only[RR];exact .inl ⟨u,[],h1,rfl,hy,by simp⟩
   ·simp only[D0];exact⟨u,[],rfl,hv,by simp⟩
 |m::n::ms,q::rs,σ,Hq,M1,uo,uf,io,hs,K,h,ht,hk0=>by
  obtain⟨y,σ',DT,DU,AA,M4,M2,u,YT,hT,hA,hK,hG,hy,hu⟩:=wP hE h ht (hk0:Bp E m q σ _=some r)
  obtain⟨ys,us,ps,H3,uo3,uf3,io3,Hq3,M3,hk,hA3,hK3,hys,hrs⟩:=yX (ms:=n::ms) hE hA (fun i=>by rw[hT];exact Core.RG ht hK hG i) YT
  have By:A1 w M3 m y u:=A1.rj hK3 (fun b hb=>⟨rfl,hA3.hM b (at5 _ (aub _ hb))⟩) hy
  clear hk0
  rcases hu with⟨h1,h2,rv,rfl,hv⟩|⟨h1,i,rfl,hv⟩
  ·refine⟨(y,ys),u::us,ps,H3,uo3,uf3,io3,Hq3,M3,hk,?_,hK.trans hK3,?_,?_⟩
   ·have:a8 (m::n::ms) (u::us) ps=cy m u++a8 (n::ms) us ps:=by rw[a8];simp[h1]
    rw[this,←atV];exact hA3
   ·rw[RR];exact .inr ⟨u,us,h1,h2,rfl,By,hys⟩
   ·simp only[D0];exact⟨u,us,rfl,hv,hrs⟩
  ·refine⟨(y,ys),us,u::ps,H3,uo3,uf3,io3,Hq3,M3,hk,?_,hK.trans hK3,?_,?_⟩
   ·have:a8 (m::n::ms) us (u::ps)=cy m u++a8 (n::ms) us ps:=by rw[a8];simp[h1]
    rw[this,←atV];exact hA3
   ·rw[RR];exact .inl ⟨u,ps,h1,rfl,By,hys⟩
   ·simp only[D0];exact⟨u,ps,rfl,hv,hrs⟩
 |[],_::_,_,_,_,_,_,_,_,_,_,_,hk=>by simp[Cu]at hk
 |[_],[],_,_,_,_,_,_,_,_,_,_,hk=>by simp[Cu]at hk
 |[_],_::_::_,_,_,_,_,_,_,_,_,_,_,hk=>by simp[Cu]at hk
 |_::_::_,[],_,_,_,_,_,_,_,_,_,_,hk=>by simp[Cu]at hk
end VM
end
section
namespace VM
open Go
variable{P:Program}{E:Env}{o:Oper}{a:Act}{w:World}{M:Nat→Prop}{ν:Nat→Value}{σ:St}{c:Ctx}{α:Type}{r:α}{next:Act→World→Prop}{Q:Exit→Act→World→Prop}
theorem BC{tm:Array Value}: ∀{rv:List ResultVar} {is:List (ResultVar ⊕ Nat)} {us ps:List Value},D0 P tm w (rv.map .inl++is) us ps→
  ∃QS us2,us=QS++us2∧QS.length=rv.length∧(∀i (h:i<rv.length) (h':i<QS.length),xB P tm w rv[i] QS[i])∧D0 P tm w is us2 ps
 |[],is,us,ps,h=>⟨[],us,rfl,rfl,fun i h=>by simp at h,h⟩
 |rv::rvs,is,us,ps,h=>by
  simp only[at7,au6,D0]at h
  obtain⟨u,CI,rfl,h1,h2⟩:=h
  obtain⟨QS,us2,rfl,hl,h3,h4⟩:=BC h2
  refine⟨u::QS,us2,rfl,by simp[hl],fun i hi kQ=> ?_,h4⟩
  cases i with
  |zero=>exact h1
  |succ i=>exact h3 i (by simpa using hi) (by simpa using kQ)
theorem tz{tm:Array Value}: ∀{ms:List AM} {vs:List Value} {i:Nat} {us ps:List Value},vs.length=ms.length→(∀j v m,vs[j]? =some v→ms[j]? =some m→m.fO=true→tm.getD (i+j) undef=v)→D0 P tm w (vB ms i) us ps→us=[]∧ps=du ms vs
 |[],vs,i,us,ps,_,_,h=>by simp only[vB,D0]at h;simpa [du]using h
 |m::ms,[],_,_,_,hl,_,_=>by simp at hl
 |m::ms,v::vs,i,us,ps,hl,HL,h=>by
  have ET: ∀j u m,vs[j]? =some u→ms[j]? =some m→m.fO=true→tm.getD (i+1+j) undef=u:=fun j u m hj hm sd=>by
   have:=HL (j+1) u m (by simpa using hj) (by simpa using hm) sd
   rwa [show i+(j+1)=i+1+j from by omega]at this
  have DV:vs.length=ms.length:=by simpa using hl
  cases m with
  |io τ=>
   simp only[vB,D0]at h
   obtain⟨p,AX,rfl,hp,h⟩:=h
   obtain⟨h1,h2⟩:=tz DV ET h
   refine⟨h1,?_⟩
   have:=HL 0 v (.io τ) rfl rfl rfl
   simp only[avK]at this
   simp[du,AM.fO,h2,hp,this]
  |v τ=>
   obtain⟨h1,h2⟩:=tz DV ET (show D0 P tm w (vB ms (i+1)) us ps from h)
   exact⟨h1,by simp[du,AM.fO,h2]⟩
  |own τ=>
   obtain⟨h1,h2⟩:=tz DV ET (show D0 P tm w (vB ms (i+1)) us ps from h)
   exact⟨h1,by simp[du,AM.fO,h2]⟩
  |fn f τ=>
   obtain⟨h1,h2⟩:=tz DV ET (show D0 P tm w (vB ms (i+1)) us ps from h)
   exact⟨h1,by simp[du,AM.fO,h2]⟩
  |fA τ=>
   obtain⟨h1,h2⟩:=tz DV ET (show D0 P tm w (vB ms (i+1)) us ps from h)
   exact⟨h1,by simp[du,AM.fO,h2]⟩
  |ptr τ=>
   obtain⟨h1,h2⟩:=tz DV ET (show D0 P tm w (vB ms (i+1)) us ps from h)
   exact⟨h1,by simp[du,AM.fO,h2]⟩
theorem EU{fn:Func}{tm:Array Value}{us:List Value}(hl:us.length=fn.results.toList.length)(h: ∀i (h:i<fn.results.toList.length) (h':i<us.length),xB P tm w fn.results.toList[i] us[i]):
  (results fn tm).run P w= .ok (ri us) w:=by
 have key: ∀(rs:List ResultVar) (us:List Value),us.length=rs.length→(∀i (h:i<rs.length) (h':i<us.length),xB P tm w rs[i] us[i])→(rs.mapM (rl tm)).run P w= .ok us w:=by
  intro rs
  induction rs with
  |nil=>intro us hl _;cases us with
   |nil=>simp
   |cons _ _=>simp at hl
  |cons r rs ih=>intro us hl h;cases us with
   |nil=>simp at hl
   |cons u us=>
    have h0:(rl tm r).run P w= .ok u w:=h 0 (by simp) (by simp)
    have h1:=ih us (by simpa using hl) (fun i hi kQ=>h (i+1) (by simpa using hi) (by simpa using kQ))
    simp[awz,h0,h1]
 have h2:=key fn.results.toList us hl h
 have h3:results fn tm=(do let vs ←fn.results.mapM (rl tm);pure (if h:vs.size=1 then vs[0]else .tuple vs)):=by
  unfold results
  congr 1
 rw[h3,Array.mapM_eq_mapM_toList]
 simp only[Sem.run_bind,Sem.run_map,h2]
 unfold ri
 by_cases h3:us.length=1
 ·simp[h3]
 ·simp[h3]
theorem BD(hE:n6 P E){f:FuncId}{fn:Func}(hf:P.funcs[f]? =some fn)(hnt:E.nt=fn.ntmps){args res:List AM}(sd: ∀i m,args[i]? =some m→m.fO=true→i∈E.io)(aei: ∀i∈E.io,i<args.length)(hlen:args.length≤fn.ntmps)
  {M0:Nat→Prop} {vs:List Value} {x:HP args} {y:HP res} (nH: ∀b,M0 b→b<w.heap.size) (hA:fY w (fun b=>M0 b∨b∈cG args vs) args x vs) (uE:(cG args vs).Nodup) (rm: ∀b∈cG args vs,¬M0 b)
  (h:Ef E fn args res x=some y):
  Calls P f vs.toArray w fun e w'=> ∃v,e= .returned v∧ ∃us M',v=ri us∧RR w' M' res y us (du args vs)∧Left w M0 (cG args vs) w' M'∧(a8 res us (du args vs)).Nodup∧ ∀b∈a8 res us (du args vs),¬M0 b:=by
 unfold Ef at h
 split at h
 ·cases h
 rename_i cd hb
 simp only at h
 have hvl: ∀{ms:List AM} {x:HP ms} {vs:List Value} {M:Nat→Prop},fY w M ms x vs→vs.length=ms.length:=by
  intro ms
  induction ms with
  |nil=>intro x vs M h;simp only[fY]at h;subst h;rfl
  |cons m ms ih=>intro x vs M h;simp only[fY]at h;obtain⟨v,DY,rfl,_,h⟩:=h;simp[ih h]
 have Rg:=hvl hA
 let tm:Array Value:=vs.toArray++Array.replicate (fn.ntmps-vs.toArray.size) undef
 have HL: ∀j v,vs[j]? =some v→tm.getD j undef=v:=by
  intro j v hj
  have dZ:j<vs.length:=(auX.1 hj).1
  rw[auM,Array.getElem?_append_left (by simpa using dZ),aw1,hj];rfl
 have pv:tm.size=fn.ntmps:=by simp[tm];omega
 have hhb: ∀{ms:List AM} {x:HP ms} {vs:List Value} {M:Nat→Prop},fY w M ms x vs→ ∀b∈cG ms vs,b<w.heap.size:=by
  intro ms
  induction ms with
  |nil=>intro x vs M h b hb;simp[cG]at hb
  |cons m ms ih=>
   intro x vs M h b hb
   simp only[fY]at h
   obtain⟨v,DY,rfl,h1,h⟩:=h
   simp only[cG,atU]at hb
   rcases hb with hb|hb
   ·cases m with
    |v _=>simp[cy]at hb
    |fn _ _=>simp[cy]at hb
    |fA _=>simp[cy]at hb
    |own e=>
     simp only[cy,auB,A1,ER]at hb h1
     rcases h1 with⟨_,a,hv⟩|⟨b',cs,t,cap,hv,hg,_⟩
     ·rw[hv]at hb;cases a<;>simp[eA]at hb
     ·rw[hv]at hb
      simp only[eA]at hb
      split at hb
      ·cases hb
      ·simp only[auF]at hb;subst hb;exact lt_of_block hg
    |io τ=>
     simp only[cy,auB,A1,ER]at hb h1
     obtain⟨b',cs,t,hv,hg,_⟩:=h1
     rw[hv]at hb
     simp only[eA,auF]at hb;subst hb;exact lt_of_block hg
    |ptr τ=>
     simp only[cy,auB,A1,ER]at hb h1
     obtain⟨b',cs,t,hv,hg,_⟩:=h1
     rw[hv]at hb
     simp only[eA,auF]at hb;subst hb;exact lt_of_block hg
   ·exact ih h b hb
 let cx:Ctx:={B:=w.heap.size,w0:=w,M0:=M0,may:=fun b=>b∈cG args vs,arg:=fun i=>tm.getD i undef}
 have YJ:Mem cx (fun _=>none) w (fun b=>M0 b∨b∈cG args vs) (fun _=>undef):=
  ⟨fun i e hi=>(by cases hi),fun i j e e' b _ hi=>(by cases hi),fun i e b hi=>(by cases hi),fun i e l b hi=>(by cases hi),fun i τ x p j hi=>(by cases hi),fun b hb=> .inl hb,fun b hb=>hb.elim (nH b) (hhb hA b),fun _ _ _=>rfl,atP _,⟨nH,rm⟩,rfl,rfl,rfl⟩
 have MZ:Core cx ⟨fun _=> .any,fun _=>none⟩ tm w (fun b=>M0 b∨b∈cG args vs) (fun _=>undef):=⟨YJ,fun i=>by simp[VR]⟩
 obtain⟨ν',hc⟩:=wO (i:=0) (used:=[]) MZ hA (fun j v hj=>by rw[auP];exact HL j v hj) (fun _ _=>rfl) (fun j e b hj=>by cases hj) (by simpa using uE) (fun b hb=>hb) (fun b hb=>rm b hb)
 have hI:Inv cx E (entry args x 0 ⟨fun _=> .any,fun _=>none⟩) {tmps:=tm,defers:=[]} w:=⟨⟨_,_,hc⟩,by rw[hnt,pv],rfl,fun i _=>rfl⟩
 refine calls_of_wp hf hb ?_
 have aej: ∀(σ':St) (a':Act) (w':World),Cu E res (fn.results.toList.map .inl++vB args 0) σ' some=some y→Inv cx E σ' a' w'→
   a'.defers=[]∧ ∃v,(results fn a'.tmps).run P w'= .ok v w'∧ ∃v',Ending.returned v= .returned v'∧ ∃us M',v'=ri us∧RR w' M' res y us (du args vs)∧Left w M0 (cG args vs) w' M'∧(a8 res us (du args vs)).Nodup∧ ∀b∈a8 res us (du args vs),¬M0 b:=by
  rintro σ' a' w' hk ⟨⟨M1,ν1,Ey⟩,JN,hd1,sJ⟩
  obtain⟨y',us,ps,H2,uo,uf,io,Hq,M2,hy,NX,hK,M6,hRs⟩:=yX (P:=P) hE.toEnvTy (ij.start Ey.mem) Ey.tmp hk
  cases hy
  obtain⟨QS,us2,rfl,hl,hv,ajP⟩:=BC hRs
  obtain⟨rfl,HH⟩:=tz (vs:=vs) Rg (fun j v m hj hm CK=>by
   rw[auP]
   rw[sJ j (sd j m hm CK)]
   exact HL j v hj) ajP
  rw[auh]at*
  subst HH
  simp only[aug]at NX
  have jT: ∀b∈a8 res QS (du args vs),b<w.heap.size→b∈cG args vs:=fun b hb dZ=>(NX.Ij b hb).elim (fun h'=>absurd dZ (Nat.not_lt.2 h')) (fun h=>h)
  have By:dh w' M2 w' (fun b=>M2 b∧(b<w.heap.size→M0 b∨b∈cG args vs)):=⟨atP _,fun _ _ _=>rfl,fun _ _ h=>h.1⟩
  refine⟨hd1,ri QS,EU hl hv,_,rfl,QS,fun b=>M2 b∧(b<w.heap.size→M0 b∨b∈cG args vs),rfl,RR.rj By (fun b hb=>⟨rfl,M6.mV b hb,fun dZ=> .inr (jT b hb dZ)⟩) M6,⟨fun b hb=>⟨NX.mem.sub b hb,fun _=> .inl hb⟩,fun b hb=>NX.mem.yz b hb.1,fun b dZ hb=>hb.2 dZ,fun b dZ hb=>NX.mem.frame b dZ hb,NX.mem.size,NX.mem.os,NX.mem.tape,NX.mem.output⟩,NX.nd,fun b hb h0=> ?_⟩
  rcases NX.Ij b hb with h'|h'
  ·exact absurd (nH b h0) (Nat.not_lt.2 h')
  ·exact rm b h' h0
 refine Lo (c:=cx) hE cd _ _ w _ _ _ _ hI h (fun σ' a' w' hk sX=> ?_) (fun i σ' a' w' hk=>by cases hk) (fun σ' a' w' hk sX=> ?_)
 ·exact aej σ' a' w' hk sX
 ·exact aej σ' a' w' hk sX
theorem NY(hE:n6 P E){f:FuncId}{fn:Func}(hf:P.funcs[f]? =some fn)(uH:(fn.name== "runtime.NumGoroutine")=false)(hnt:E.nt=fn.ntmps)(S:ia)
  (sd: ∀i m,S.args[i]? =some m→m.fO=true→i∈E.io) (aei: ∀i∈E.io,i<S.args.length) (hlen:S.args.length≤fn.ntmps) (hq:S.quiet=true→S.res.all AM.flat=true) (ajQ:kT S.args=kT S.res)
  (cD: ∀x,Ef E fn S.args S.res x=S.run x):eZ P f S:=by
 refine⟨hq,ajQ,fun M0 w vs x y nH hA uE rm hy=> ?_⟩
 have hb:fn.body.isNone=false:=by
  have:=cD x
  rw[hy]at this
  unfold Ef at this
  split at this
  ·cases this
  ·rename_i cd hcd;rw[hcd];rfl
 exact oL hf uH hb (BD hE hf hnt sd aei hlen nH hA uE rm (by rw[cD,hy]))
end VM
end
section
namespace VM
open Go
variable{P:Program}
def uI:Ty→List Value→Option (List Value)
 | .int k,v::r=>match v with
  | .int k' n=>if k'=k∧n=0 then some r else none
  |_=>none
 | .bool,v::r=>match v with
  | .bool false=>some r
  |_=>none
 | .str,v::r=>match v with
  | .string s=>if s.data.size=0 then some r else none
  |_=>none
 | .slice _,v::r=>match v with
  | .slice none n m=>if n=0∧m=0 then some r else none
  |_=>none
 | .unit,r=>some r
 | .pair a b,r=>match uI a r with
  |some r=>uI b r
  |none=>none
 | .arr n e,r=>Nat.rec (motive:=fun _=>List Value→Option (List Value)) (fun r=>some r) (fun _ ih r=>match uI e r with
  |some r=>ih r
  |none=>none) n r
 |_,[]=>none
theorem uK: ∀{τ:Ty} {l r:List Value},uI τ l=some r→l=τ.cf++r
 | .int k,[],_,h| .bool,[],_,h| .str,[],_,h| .slice _,[],_,h=>by simp[uI]at h
 | .int k,v::l,r,h=>by
  simp only[uI]at h
  split at h
  ·split at h
   ·rename_i hc;obtain⟨rfl,rfl⟩:=hc;cases h;rfl
   ·cases h
  ·cases h
 | .bool,v::l,r,h=>by
  simp only[uI]at h
  split at h
  ·cases h;rfl
  ·cases h
 | .str,v::l,r,h=>by
  simp only[uI]at h
  split at h
  ·rename_i s
   split at h
   ·rename_i hs
    cases h
    have:s=ByteArray.empty:=by
     obtain⟨d⟩:=s
     have:d= #[]:=Array.eq_empty_of_size_eq_zero hs
     subst this;rfl
    subst this;rfl
   ·cases h
  ·cases h
 | .slice _,v::l,r,h=>by
  simp only[uI]at h
  split at h
  ·split at h
   ·rename_i hc;obtain⟨rfl,rfl⟩:=hc;cases h;rfl
   ·cases h
  ·cases h
 | .unit,l,r,h=>by simp only[uI]at h;cases h;rfl
 | .pair a b,l,r,h=>by
  simp only[uI]at h
  split at h
  ·rename_i r1 h1
   rw[uK h1,uK h];simp[Ty.cf]
  ·cases h
 | .arr n e,l,r,h=>by
  simp only[uI]at h
  simp only[Ty.cf]
  induction n generalizing l with
  |zero=>cases h;rfl
  |succ n ih=>
   simp only at h
   split at h
   ·rename_i r1 h1
    rw[uK h1,ih _ h];simp[av2]
   ·cases h
def uM(P:Program)(τ:Ty)(t:TypeId):Bool:=
 match P.info? t with
 |none=>false
 |some i=>Nat.beq i.size τ.size&&Nat.ble i.bytes 2048&&(match i.zero with
  |none=>false
  |some z=>match τ.isAgg,z with
   |true,.agg cs=>(match uI τ cs.toList with|some []=>true|_=>false)
   |false,z=>(match uI τ [z]with|some []=>true|_=>false)
   |_,_=>false)
theorem mY{τ:Ty}{t:TypeId}(h:uM P τ t=true):Cv P τ t:=by
 unfold uM at h
 split at h
 ·cases h
 ·rename_i i hi
  simp only[atW,axb]at h
  obtain⟨⟨h1,h2⟩,h3⟩:=h
  refine⟨i,hi,auj h1,?_,h2⟩
  split at h3
  ·cases h3
  ·rename_i z hz
   rw[hz]
   split at h3
   ·rename_i _ cs ha
    split at h3
    ·rename_i he
     have:=uK he
     unfold bK
     rw[atK ha,←auh τ.cf,←this]
    ·cases h3
   ·rename_i ha
    split at h3
    ·rename_i he
     have:=uK he
     unfold bK
     rw[atL (by rw[ha];exact awa),←auh τ.cf,←this];rfl
    ·cases h3
   ·cases h3
def pd(P:Program):Ty→TypeId ⊕ (Array Field×Nat×Nat)→Bool
 | .int k,.inl t=>uM P (.int k) t&&(match P.underlying t with|some (.int k')=>decide (k'=k)|_=>false)
 | .bool,.inl t=>uM P .bool t&&(match P.underlying t with|some .bool=>true|_=>false)
 | .str,.inl t=>uM P .str t&&(match P.underlying t with|some .string=>true|_=>false)
 | .slice e,.inl t=>uM P (.slice e) t&&(match P.underlying t with|some (.slice e')=>pd P e (.inl e')|_=>false)
 | .arr n e,.inl t=>uM P (.arr n e) t&&(match P.underlying t with|some (.array n' e')=>Nat.beq n' n&&pd P e (.inl e')|_=>false)
 | .unit,.inl t=>uM P .unit t&&(match P.underlying t with|some (.struct fs)=>Nat.beq fs.size 0|_=>false)
 | .unit,.inr q=>Nat.beq q.1.size q.2.1
 | .pair a b,.inl t=>uM P (.pair a b) t&&(match P.underlying t with
  |some (.struct fs)=>(match fs[0]? with
   |some f=>Nat.beq f.offset 0&&(pd P a (.inl f.type)&&pd P b (.inr (fs,1,a.size)))
   |none=>false)
  |_=>false)
 | .pair a b,.inr q=>(match q.1[q.2.1]? with
  |some f=>Nat.beq f.offset q.2.2&&(pd P a (.inl f.type)&&pd P b (.inr (q.1,q.2.1+1,q.2.2+a.size)))
  |none=>false)
 |_,.inr _=>false
theorem ea: ∀{τ:Ty} {x:TypeId ⊕ (Array Field×Nat×Nat)},pd P τ x=true→dH P τ x
 | .int k,.inl t,h=>by
  simp only[pd,atW]at h
  refine⟨mY h.1,?_⟩
  have h:=h.2
  split at h
  ·rename_i k' hu;rw[hu,atY h]
  ·cases h
 | .bool,.inl t,h=>by
  simp only[pd,atW]at h
  refine⟨mY h.1,?_⟩
  have h:=h.2
  split at h
  ·rename_i hu;exact hu
  ·cases h
 | .str,.inl t,h=>by
  simp only[pd,atW]at h
  refine⟨mY h.1,?_⟩
  have h:=h.2
  split at h
  ·rename_i hu;exact hu
  ·cases h
 | .slice e,.inl t,h=>by
  simp only[pd,atW]at h
  refine⟨mY h.1,?_⟩
  have h:=h.2
  split at h
  ·rename_i e' hu;exact⟨e',hu,ea h⟩
  ·cases h
 | .arr n e,.inl t,h=>by
  simp only[pd,atW]at h
  refine⟨mY h.1,?_⟩
  have h:=h.2
  split at h
  ·rename_i n' e' hu
   simp only[atW]at h
   obtain⟨h0,h⟩:=h
   rw[auj h0]at hu
   exact⟨e',hu,ea h⟩
  ·cases h
 | .unit,.inl t,h=>by
  simp only[pd,atW]at h
  refine⟨mY h.1,?_⟩
  have h:=h.2
  split at h
  ·rename_i fs hu;exact⟨fs,hu,auj h⟩
  ·cases h
 | .unit,.inr (fs,n,o),h=>by simp only[pd]at h;exact auj h
 | .pair a b,.inl t,h=>by
  simp only[pd,atW]at h
  refine⟨mY h.1,?_⟩
  have h:=h.2
  split at h
  ·rename_i fs hu
   split at h
   ·rename_i f hf
    simp only[atW]at h
    exact⟨fs,f,hu,hf,auj h.1,ea h.2.1,ea h.2.2⟩
   ·cases h
  ·cases h
 | .pair a b,.inr (fs,n,o),h=>by
  simp only[pd]at h
  split at h
  ·rename_i f hf
   simp only[atW]at h
   exact⟨f,hf,auj h.1,ea h.2.1,ea h.2.2⟩
  ·cases h
 | .int _,.inr _,h| .bool,.inr _,h| .str,.inr _,h| .slice _,.inr _,h| .arr _ _,.inr _,h=>by simp[pd]at h
def qz(P:Program):Ty→TypeId ⊕ (Array Field×Nat)→Bool
 | .int _,.inl _| .bool,.inl _| .str,.inl _=>true
 | .unit,.inl t=> !P.stoodInHeld t
 | .unit,.inr _=>true
 | .pair a b,.inl t=> !P.stoodInHeld t&&(match P.underlying t with
  |some (.struct fs)=>(match fs[0]? with
   |some f=>f.name != "_" &&(qz P a (.inl f.type)&&qz P b (.inr (fs,1)))
   |none=>false)
  |_=>false)
 | .pair a b,.inr q=>(match q.1[q.2]? with
  |some f=>f.name != "_" &&(qz P a (.inl f.type)&&qz P b (.inr (q.1,q.2+1)))
  |none=>false)
 |_,_=>false
def Ty.deep:Ty→Nat
 | .pair a b=>a.deep+b.deep+1
 |_=>1
theorem V.ofC{w:World}{M:Nat→Prop}{τ:Ty}{cs:List Value}{x:τ.den}(h:Rd w M τ cs x):V w M τ (VM.bK τ cs) x:=V.bK h
mutual
theorem EV{w:World}{M:Nat→Prop}: ∀{τ:Ty} {t:TypeId} {u v:Value} {x y:τ.den} {d:Nat},gM P τ t→qz P τ (.inl t)=true→V w M τ u x→V w M τ v y→τ.deep≤d→(Op.equalIn d t u v).run P w= .ok (qQ τ x y) w
 | .int k,t,u,v,x,y,d+1,hl,_,hx,hy,_=>by
  simp only[V,Ty.isAgg,auA,avq,Rd,auv,au3]at hx hy
  subst hx;subst hy
  rw[run_equalIn_int w d t k k _ _ hl.int];simp only[qQ,fh];congr 1
 | .bool,t,u,v,x,y,d+1,hl,_,hx,hy,_=>by
  simp only[V,Ty.isAgg,auA,avq,Rd,auv,au3]at hx hy
  subst hx;subst hy
  rw[run_equalIn_bool w d t _ _ hl.bool];simp only[qQ]
 | .str,t,u,v,x,y,d+1,hl,_,hx,hy,_=>by
  simp only[V,Ty.isAgg,auA,avq,Rd,auv,au3]at hx hy
  subst hx;subst hy
  rw[run_equalIn_string w d t _ _ hl.str];simp only[qQ,yw];congr 1;rw[ave];simp
 | .slice _,_,_,_,_,_,_,_,h,_,_,_| .arr _ _,_,_,_,_,_,_,_,h,_,_,_=>by simp[qz]at h
 | .unit,t,u,v,x,y,d+1,hl,he,hx,hy,_=>by
  simp only[V,Ty.isAgg,av8]at hx hy
  obtain⟨cs,rfl,_⟩:=hx
  obtain⟨cs',rfl,_⟩:=hy
  simp only[gM,dH]at hl
  obtain⟨_,fs,hu,h0⟩:=hl
  have hfs:P.fieldsOf t=fs:=by simp[Program.fieldsOf,hu]
  rw[run_equalIn_struct w d t cs cs' (by rw[hfs];exact hu) (by simpa [qz]using he),hfs]
  have:fs.toList=[]:=by rw[←awM,atO];exact h0
  rw[this];simp[Op.eqFields,qQ]
 | .pair a b,t,u,v,x,y,d+1,hl,he,hx,hy,hd=>by
  simp only[V,Ty.isAgg,av8]at hx hy
  obtain⟨cs,rfl,hx⟩:=hx
  obtain⟨cs',rfl,hy⟩:=hy
  simp only[gM,dH]at hl
  obtain⟨_,fs,f,hu,hf,ho,tA,HM⟩:=hl
  have hfs:P.fieldsOf t=fs:=by simp[Program.fieldsOf,hu]
  simp only[qz,hu,hf,atW]at he
  rw[run_equalIn_struct w d t cs cs' (by rw[hfs];exact hu) (by simpa using he.1),hfs]
  have h0:fs.toList=f::fs.toList.drop 1:=by
   have h1:=auS (l:=fs.toList) (i:=0) (by rw[atO];exact(aup.1 hf).1)
   rw[aui]at h1
   rw[h1];congr 1
   rw[avV];exact(aup.1 hf).2
  simp only[Ty.deep]at hd
  rw[h0]
  have o9:Rd w M (.pair a b) (cs.toList.drop 0) x:=by rw[aui];exact hx
  have NZ:Rd w M (.pair a b) (cs'.toList.drop 0) y:=by rw[aui];exact hy
  have ib:f.name≠ "_" :=by simpa using he.2.1
  simp only[Op.eqFields,ib,ne_eq,not_false_eq_true,av8]
  exact N0 (off:=0) ho tA he.2.2.1 o9 NZ (by omega) (fun h1 h2=>N1 (n:=1) (fs:=fs) (off:=a.size) HM he.2.2.2 (by rw[auP]at h1;exact h1) (by rw[auP]at h2;exact h2) (by omega))
 | .int _,_,_,_,_,_,0,_,_,_,_,hd| .bool,_,_,_,_,_,0,_,_,_,_,hd| .str,_,_,_,_,_,0,_,_,_,_,hd| .unit,_,_,_,_,_,0,_,_,_,_,hd| .pair _ _,_,_,_,_,_,0,_,_,_,_,hd=>by simp[Ty.deep]at hd
theorem N1{w:World}{M:Nat→Prop}: ∀{b:Ty} {fs:Array Field} {n off:Nat} {cs cs':Array Value} {x y:b.den} {d:Nat},dH P b (.inr (fs,n,off))→qz P b (.inr (fs,n))=true→Rd w M b (cs.toList.drop off) x→Rd w M b (cs'.toList.drop off) y→b.deep≤d→
  (Op.eqFields d cs cs' (fs.toList.drop n)).run P w= .ok (qQ b x y) w
 | .unit,fs,n,off,cs,cs',x,y,d,hl,_,_,_,_=>by
  simp only[dH]at hl
  rw[auw (by rw[atO];omega)]
  simp[Op.eqFields,qQ]
 | .pair a b,fs,n,off,cs,cs',x,y,d,hl,he,hx,hy,hd=>by
  simp only[dH]at hl
  obtain⟨f,hf,ho,tA,HM⟩:=hl
  simp only[qz,hf,atW]at he
  have h0:fs.toList.drop n=f::fs.toList.drop (n+1):=by
   rw[auS (l:=fs.toList) (i:=n) (by rw[atO];exact(aup.1 hf).1)]
   congr 1
   rw[avV];exact(aup.1 hf).2
  simp only[Ty.deep]at hd
  rw[h0]
  have ib:f.name≠ "_" :=by simpa using he.1
  simp only[Op.eqFields,ib,ne_eq,not_false_eq_true,av8]
  exact N0 ho tA he.2.1 hx hy (by omega) (fun h1 h2=>N1 HM he.2.2 h1 h2 (by omega))
 | .int _,_,_,_,_,_,_,_,_,hl,_,_,_,_| .bool,_,_,_,_,_,_,_,_,hl,_,_,_,_| .str,_,_,_,_,_,_,_,_,hl,_,_,_,_| .slice _,_,_,_,_,_,_,_,_,hl,_,_,_,_| .arr _ _,_,_,_,_,_,_,_,_,hl,_,_,_,_=>by simp[dH]at hl
theorem N0{w:World}{M:Nat→Prop}{a b:Ty}{f:Field}{fs:List Field}{off:Nat}{cs cs':Array Value}{x y:(Ty.pair a b).den}{d:Nat}(ho:f.offset=off)(tA:gM P a f.type)(he:qz P a (.inl f.type)=true)
  (hx:Rd w M (.pair a b) (cs.toList.drop off) x) (hy:Rd w M (.pair a b) (cs'.toList.drop off) y) (hd:a.deep≤d)
  (hr:Rd w M b (cs.toList.drop (off+a.size)) x.2→Rd w M b (cs'.toList.drop (off+a.size)) y.2→(Op.eqFields d cs cs' fs).run P w= .ok (qQ b x.2 y.2) w):
  (do let u ←part f.type cs f.offset;let v ←part f.type cs' f.offset;let r ←Op.equalIn d f.type u v;if(!r)=true then pure false else Op.eqFields d cs cs' fs:Sem Bool).run P w= .ok (qQ (.pair a b) x y) w:=by
 simp only[Rd]at hx hy
 obtain⟨c1,c2,hc,h1,h2⟩:=hx
 obtain⟨c1',c2',Lp,lI,sZ⟩:=hy
 subst ho
 have p1:(cs.toList.drop f.offset).take a.size=c1:=by rw[hc,av7 h1.length]
 have p2:(cs'.toList.drop f.offset).take a.size=c1':=by rw[Lp,av7 lI.length]
 have q1:cs.toList.drop (f.offset+a.size)=c2:=by rw[←auV,hc,avc h1.length]
 have q2:cs'.toList.drop (f.offset+a.size)=c2':=by rw[←auV,Lp,avc lI.length]
 have r1:=uv tA (w:=w) (M:=M) (cs:=cs) (off:=f.offset) (x:=x.1) (by rw[p1];exact h1)
 have r2:=uv tA (w:=w) (M:=M) (cs:=cs') (off:=f.offset) (x:=y.1) (by rw[p2];exact lI)
 have r3:=EV (d:=d) tA he (V.ofC (by rw[p1];exact h1):V w M a (VM.bK a ((cs.toList.drop f.offset).take a.size)) x.1) (V.ofC (by rw[p2];exact lI):V w M a (VM.bK a ((cs'.toList.drop f.offset).take a.size)) y.1) hd
 simp only[Sem.run_bind,r1,r2,r3,Result.andThen_ok,qQ]
 cases qQ a x.1 y.1
 ·simp
 ·simpa using hr (by rw[q1];exact h2) (by rw[q2];exact sZ)
end
def RH(P:Program)(τ:Ty)(t:TypeId):Bool:= !(τ.comparable&&τ.isAgg)||(qz P τ (.inl t)&&(Nat.ble τ.deep 10000&& !P.eqGuardType P.depth t))
theorem RI{τ:Ty}{t:TypeId}(hl:gM P τ t)(h:RH P τ t=true)(hc:τ.comparable=true)(ha:τ.isAgg=true):adz P t τ:=by
 unfold RH at h
 rw[hc,ha]at h
 simp only[Bool.and_self,at3,av5,atW,axb,avp]at h
 obtain⟨h1,h2,h3⟩:=h
 intro w M u v x y b xo yo hx hy
 have he:=EV (d:=10000) hl h1 hx hy h2
 unfold V at hx hy
 rw[atK ha]at hx hy
 obtain⟨cs,rfl,_⟩:=hx
 obtain⟨cs',rfl,_⟩:=hy
 refine⟨?_,?_,?_⟩
 ·cases b<;>simp[eqGuard,h3]
 ·simp only[binOp];simp[Op.equal,Op.maxDepth,he]
 ·simp only[binOp];simp[Op.equal,Op.maxDepth,he]
def ael(P:Program)(l:List (Nat×Ty)):Bool:=l.all fun q=>pd P q.2 (.inl q.1)&&RH P q.2 q.1
end VM
end
section
namespace VM
open Go Go.WideShapes Go.RowKit Go.ChangeShapes
def WF:(τ:Ty)→τ.den→Prop
 | .int k,x=>(Lit.int k x).wf=true
 | .bool,_=>True
 | .str,s=>ByteArray.size s≤maxLen
 | .slice e,l=>List.length l≤maxLen∧ ∀i (h:i<List.length l),WF e (List.get l ⟨i,h⟩)
 | .unit,_=>True
 | .pair a b,x=>WF a x.1∧WF b x.2
 | .arr _ e,l=> ∀i (h:i<List.length l),WF e (List.get l ⟨i,h⟩)
def Ty.lU:Ty→Bool
 | .slice e=>Nat.blt 0 e.size&&e.lU
 | .pair a b=>a.lU&&b.lU
 | .arr _ e=>e.lU
 |_=>true
theorem N2{α β:Type}{f:α→Option β}: ∀{l:List α} {r:List β},l.mapM f=some r→ ∀x∈l,∃y,f x=some y
 |[],_,_,x,hx=>by cases hx
 |a::l,r,h,x,hx=>by
  rw[awz]at h
  simp only[bind,au5,pure,auF]at h
  obtain⟨y,hy,r',hr,_⟩:=h
  rcases atZ.1 hx with rfl|hx
  ·exact⟨y,hy⟩
  ·exact N2 hr x hx
theorem EW{α β:Type}{f:α→Option β}: ∀{l:List α} {r:List β},l.mapM f=some r→r.length=l.length∧ ∀i (h:i<l.length) (h':i<r.length),f l[i]=some r[i]
 |[],r,h=>by simp at h;subst h;exact⟨rfl,fun i h=>by cases h⟩
 |a::l,r,h=>by
  rw[awz]at h
  simp only[bind,au5,pure,auF]at h
  obtain⟨y,hy,r',hr,rfl⟩:=h
  obtain⟨h1,h2⟩:=EW hr
  refine⟨by simp[h1],fun i hi kQ=> ?_⟩
  cases i with
  |zero=>exact hy
  |succ i=>exact h2 i (by simpa using hi) (by simpa using kQ)
theorem rn{α:Type}{p:Nat→α→Prop}: ∀n,(∀i,i<n→ ∃x,p i x)→ ∃l:List α,l.length=n∧ ∀i (h:i<l.length),p i (l.get ⟨i,h⟩)
 |0,_=>⟨[],rfl,fun i h=>by cases h⟩
 |n+1,h=>by
  obtain⟨l,hl,hp⟩:=rn n (fun i hi=>h i (by omega))
  obtain⟨x,hx⟩:=h n (by omega)
  refine⟨l++[x],by simp[hl],fun i hi=> ?_⟩
  simp only[awv]
  by_cases dZ:i<l.length
  ·rw[av4 dZ];exact hp i dZ
  ·have jN:i=n:=by simp at hi;omega
   subst jN
   rw[awE (by omega)]
   simp[hl,hx]
section
variable{H:Type}{enc:TypeId×Value→H}{P:Program}{w:World}
theorem gM.cells{τ:Ty}{t:TypeId}(h:gM P τ t):P.cellsOf t=τ.size:=by
 obtain⟨i,hi,hs,_⟩:=h.base
 simp[Program.cellsOf,hi,hs]
theorem BE{a:Addr}{n:Nat}{cs:List Value}(h:w.cells? 0 a n=some cs):cs.length=n∧ ∀j v,cs[j]? =some v→w.cell? (a.add j)=some v:=by
 unfold World.cells? at h
 rw[atK (auu _)]at h
 obtain⟨h1,h2⟩:=EW h
 rw[avS]at h1
 refine⟨h1,fun j v hj=> ?_⟩
 obtain⟨dZ,rfl⟩:=auX.1 hj
 have:=h2 j (by rw[avS];omega) dZ
 rw[awx]at this
 exact this
def N3(H:Type)(enc:TypeId×Value→H)(P:Program)(w:World)(τ:Ty):TypeId ⊕ (Array Field×Nat×Nat)→Prop
 | .inl t=> ∀(fuel:Nat) (cs:List Value) (d:DataW H×List MemPlace),DataW.trod enc P w 0 (fun _=>true) true fuel t cs=some d→ ∃x:τ.den,Rd w (fun _=>False) τ cs x∧WF τ x
 | .inr q=> ∀(cs:List Value),cs.length=q.2.2+τ.size→(∀f∈q.1.toList,∃fuel d,DataW.trod enc P w 0 (fun _=>true) true fuel f.type ((cs.drop f.offset).take (P.cellsOf f.type))=some d)→ ∃x:τ.den,Rd w (fun _=>False) τ (cs.drop q.2.2) x∧WF τ x
theorem BF{a b:Ty}{f:Field}{fs:Array Field}{n off:Nat}(hf:fs[n]? =some f)(ho:f.offset=off)(tA:gM P a f.type)(Y9:N3 H enc P w a (.inl f.type))(Nk:N3 H enc P w b (.inr (fs,n+1,off+a.size)))
  {cs:List Value} (hc:cs.length=off+(a.size+b.size)) (jw: ∀f∈fs.toList,∃fuel d,DataW.trod enc P w 0 (fun _=>true) true fuel f.type ((cs.drop f.offset).take (P.cellsOf f.type))=some d):
  ∃x:(Ty.pair a b).den,Rd w (fun _=>False) (.pair a b) (cs.drop off) x∧WF (.pair a b) x:=by
 subst ho
 obtain⟨fuel,d,hd⟩:=jw f (by rw[Array.mem_toList_iff];exact Array.mem_of_getElem? hf)
 rw[tA.cells]at hd
 obtain⟨x,hx,hwx⟩:=Y9 fuel _ d hd
 obtain⟨y,hy,hwy⟩:=Nk cs (by simp only;omega) jw
 refine⟨(x,y),?_,hwx,hwy⟩
 simp only[Rd]
 refine⟨_,_,(auq a.size (cs.drop f.offset)).symm,hx,?_⟩
 rw[auV];exact hy
theorem pK: ∀{τ:Ty} {x:TypeId ⊕ (Array Field×Nat×Nat)},dH P τ x→τ.lU=true→N3 H enc P w τ x
 | .int k,.inl t,hl,_=>by
  intro fuel cs d h
  simp only[dH]at hl
  obtain⟨n,rfl,_,hw⟩:=DataW.trod_int hl.2 h
  exact⟨n,rfl,hw⟩
 | .bool,.inl t,hl,_=>by
  intro fuel cs d h
  simp only[dH]at hl
  obtain⟨b,rfl,_⟩:=DataW.trod_bool hl.2 h
  exact⟨b,rfl,trivial⟩
 | .str,.inl t,hl,_=>by
  intro fuel cs d h
  simp only[dH]at hl
  obtain⟨s,rfl,_,hs⟩:=DataW.trod_string hl.2 h
  exact⟨s,rfl,hs⟩
 | .slice e,.inl t,hl,hs=>by
  intro fuel cs d h
  simp only[dH]at hl
  obtain⟨_,e',hu,hle⟩:=hl
  simp only[Ty.lU,atW,axa]at hs
  have ih:=pK hle hs.2
  have pv:P.cellsOf e'=e.size:=gM.cells hle
  rcases DataW.trod_slice hu h with⟨rfl,_⟩|⟨a,len,cap,elems,rest,n,_,rfl,_,_,Ra,K6,hel,jw,_⟩
  ·refine⟨[],?_,auu _,fun i h=>by cases h⟩
   simp only[Rd]
   exact⟨none,0,rfl,atP _,fun i h=>by cases h⟩
  ·rw[pv]at jw
   have get: ∀i,i<len→ ∃cs' y,w.cells? 0 (a.add (i*e.size)) e.size=some cs'∧DataW.trod enc P w 0 (fun _=>true) true n e' cs'=some y:=fun i hi=>by
    have:=jw i hi
    rw[atI (by omega)]at this
    obtain⟨cs',h1,h2⟩:=au5.1 this
    exact⟨cs',_,h1,h2⟩
   have key: ∀i,i<len→ ∃x:e.den,(a.spot=none∧a.block<w.heap.size∧ ∃cs',At w a.block (a.off+i*e.size) cs'∧Rd w (fun _=>False) e cs' x)∧WF e x:=by
    intro i hi
    obtain⟨cs',y,CA,ht⟩:=get i hi
    obtain⟨h1,h2⟩:=BE CA
    obtain⟨x,hx,hw⟩:=ih n cs' y ht
    have hsp:a.spot=none∧a.block<w.heap.size:=by
     obtain⟨nW,y0,ajS,_⟩:=get 0 (by omega)
     obtain⟨h10,h20⟩:=BE ajS
     have:=h20 0 nW[0] (atI (by omega))
     simp only[Nat.zero_mul,Addr.add,av8,World.cell?]at this
     split at this
     ·rename_i hb
      refine⟨?_,(aup.1 hb).1⟩
      split at this
      ·cases this
      ·rename_i hn;simpa using hn
     ·cases this
    refine⟨x,⟨hsp.1,hsp.2,cs',fun j v hj=> ?_,hx⟩,hw⟩
    have:=h2 j v hj
    have he:(a.add (i*e.size)).add j=⟨a.block,a.off+i*e.size+j,none⟩:=by
     obtain⟨ab,ao,asp⟩:=a
     simp only at hsp
     obtain⟨rfl,_⟩:=hsp
     simp only[Addr.add]
     split<;>split<;>simp_all<;>omega
    rw[he]at this
    exact this
   obtain⟨l,hl,hp⟩:=rn len key
   refine⟨l,?_,by rw[hl];omega,fun i h=>(hp i h).2⟩
   simp only[Rd]
   refine⟨some a,cap,by rw[hl],by rw[hl];exact Ra,fun i h=> ?_⟩
   obtain⟨h1,h2,cs',h3,h4⟩:=(hp i h).1
   refine⟨a.block,a.off,?_,h2,fun h=>h,cs',h3,h4⟩
   rw[←h1]
 | .unit,.inl t,hl,_=>by
  intro fuel cs d h
  simp only[dH]at hl
  obtain⟨⟨i,hi,pv,_⟩,fs,hu,h0⟩:=hl
  obtain⟨xs,n,_,_,hc,_⟩:=DataW.trod_struct hu h
  refine⟨(),?_,trivial⟩
  simp only[Rd]
  rw[←awM,hc]
  simp[Program.cellsOf,hi,pv,Ty.size]
 | .unit,.inr q,hl,_=>by
  intro cs hc _
  refine⟨(),?_,trivial⟩
  simp only[Rd]
  rw[auw (by rw[hc];simp[Ty.size])]
 | .pair a b,.inl t,hl,hs=>by
  intro fuel cs d h
  simp only[dH]at hl
  obtain⟨⟨i,hi,pv,_⟩,fs,f,hu,hf,ho,tA,HM⟩:=hl
  simp only[Ty.lU,atW]at hs
  have Y9:=pK tA hs.1
  have Nk:=pK HM hs.2
  obtain⟨xs,n,_,_,hc,hxl,hxs⟩:=DataW.trod_struct hu h
  have:=BF (b:=b) (off:=0) hf ho tA Y9 (by simp only[auP];exact Nk) (cs:=cs) (by rw[hc];simp[Program.cellsOf,hi,pv,Ty.size]) (fun f hf=>by
   obtain⟨j,hj,rfl⟩:=au4.1 hf
   rw[atO]at hj
   have:=hxs j fs[j] (by simp[hj])
   rw[atI (by omega)]at this
   exact⟨n,_,by rw[avV];exact this⟩)
  rw[aui]at this
  exact this
 | .pair a b,.inr (fs,n,off),hl,hs=>by
  intro cs hc jw
  simp only[dH]at hl
  obtain⟨f,hf,ho,tA,HM⟩:=hl
  simp only[Ty.lU,atW]at hs
  exact BF hf ho tA (pK tA hs.1) (pK HM hs.2) (by simpa [Ty.size]using hc) jw
 | .arr n e,.inl t,hl,hs=>by
  intro fuel cs d h
  simp only[dH]at hl
  obtain⟨⟨i,hi,pv,_⟩,e',hu,hle⟩:=hl
  simp only[Ty.lU]at hs
  have ih:=pK hle hs
  have hse:P.cellsOf e'=e.size:=gM.cells hle
  obtain⟨xs,m,_,_,hc,hxl,hxs⟩:=DataW.trod_array hu h
  have hlen:cs.length=n*e.size:=by rw[hc];simp[Program.cellsOf,hi,pv,Ty.size]
  have key: ∀i,i<n→ ∃x:e.den,Rd w (fun _=>False) e ((cs.drop (i*e.size)).take e.size) x∧WF e x:=fun i hi=>by
   have:=hxs i hi
   rw[atI (by omega),hse]at this
   exact ih m _ _ this
  obtain⟨l,K8,hp⟩:=rn n key
  refine⟨l,?_,fun i h=>(hp i h).2⟩
  simp only[Rd]
  refine⟨K8,(List.range n).map fun i=>(cs.drop (i*e.size)).take e.size,by simp,?_,fun i h h'=> ?_⟩
  ·clear hxs h key hp K8 hu
   have: ∀m,m≤n→cs.take (m*e.size)=((List.range m).map fun i=>(cs.drop (i*e.size)).take e.size).flatten:=by
    intro m
    induction m with
    |zero=>simp
    |succ m ihm=>
     intro hm
     rw[awX,aus,List.flatten_append,←ihm (by omega)]
     simp only[at7,avl,awi,List.flatten_nil,auh]
     rw[auE,avt,List.take_add]
   have h2:=this n (atP _)
   rw[aur (by omega)]at h2
   exact h2
  ·have:=(hp i h).1
   simpa using this
 | .int _,.inr _,h,_| .bool,.inr _,h,_| .str,.inr _,h,_| .slice _,.inr _,h,_| .arr _ _,.inr _,h,_=>by simp[dH]at h
theorem Za{τ:Ty}{t:TypeId}{r:Reach}{b0:Nat}{v:Value}{d:DataW H}{ps:List MemPlace}(hl:gM P τ t)(hs:τ.lU=true)(hv:Value.okWide P w r b0 t v)(h:DataW.Trod enc P w 0 (fun _=>true) true t v d ps):
  ∃x:τ.den,V w (fun _=>False) τ v x∧WF τ x:=by
 obtain⟨fuel,h⟩:=h
 obtain⟨x,hx,hw⟩:=pK (H:=H) (enc:=enc) (w:=w) hl hs fuel _ _ h
 refine⟨x,?_,hw⟩
 unfold V
 cases τ with
 |int k=>
  obtain⟨n,rfl⟩:=okWide_int hl.int hv
  exact hx
 |bool=>
  obtain⟨n,rfl⟩:=okWide_bool hl.bool hv
  exact hx
 |str=>
  obtain⟨n,rfl⟩:=okWide_string hl.str hv
  exact hx
 |slice e=>
  obtain⟨e',hu,_⟩:=hl.slice
  obtain⟨a,len,cap,rfl⟩:=okWide_slice hu hv
  exact hx
 |unit=>
  simp only[gM,dH]at hl
  obtain⟨_,fs,hu,_⟩:=hl
  simp only[Value.okWide,hu]at hv
  obtain⟨cs,rfl,_⟩:=hv
  exact⟨cs,rfl,hx⟩
 |pair a b=>
  simp only[gM,dH]at hl
  obtain⟨_,fs,f,hu,_⟩:=hl
  simp only[Value.okWide,hu]at hv
  obtain⟨cs,rfl,_⟩:=hv
  exact⟨cs,rfl,hx⟩
 |arr n e=>
  obtain⟨e',hu,_⟩:=hl.arr
  simp only[Value.okWide,hu]at hv
  obtain⟨cs,rfl,_⟩:=hv
  exact⟨cs,rfl,hx⟩
def WFs:(ms:List Ty)→HP (ms.map .v)→Prop
 |[],_=>True
 |_::ms,x=>WF _ (qS x)∧WFs ms (vz x)
def hpC:{m:AM}→{ms:List AM}→m.den→HP ms→HP (m::ms)
 |_,[],x,_=>x
 |_,_::_,x,y=>(x,y)
theorem JY{m:AM}: ∀{ms:List AM} (x:m.den) (y:HP ms),qS (hpC x y)=x
 |[],_,_=>rfl
 |_::_,_,_=>rfl
theorem JZ{m:AM}: ∀{ms:List AM} (x:m.den) (y:HP ms),vz (hpC x y)=y
 |[],_,()=>rfl
 |_::_,_,_=>rfl
theorem BG(laid:laidOutB P=true){r:Reach}{b0:Nat}: ∀{τs:List Ty} {ts:List TypeId} {vs:List Value} {ds:List (DataW H)} {ps:List MemPlace},DataW.TrodAll enc P w 0 (fun _=>true) true ts vs ds ps→
  τs.length=ts.length→(∀(j:Nat) τ t,τs[j]? =some τ→ts[j]? =some t→(gM P τ t∧τ.lU=true∧P.readableRec t=true∧t<P.types.size))→
  (∀(j:Nat) t v,ts[j]? =some t→vs[j]? =some v→Value.okWide P w r b0 t v)→
  (∃x:HP (τs.map .v),fY w (fun _=>False) (τs.map .v) x vs∧WFs τs x)∧ ∀w',Below w.heap.size w w'→ ∃AX,DataW.TrodAll enc P w' 0 (fun b=>decide (b<w.heap.size)) true ts vs ds AX
 |[],[],vs,ds,ps,h,_,_,_=>by
  obtain⟨rfl,rfl,rfl⟩:=trodAll_nil h
  exact⟨⟨(),rfl,trivial⟩,fun w' _=>⟨[],rfl⟩⟩
 |τ::τs,t::ts,vs,ds,ps,h,hl,AQ,hv=>by
  obtain⟨v,DY,d,ds',p,q,rfl,rfl,rfl,h1,h2⟩:=trodAll_cons h
  obtain⟨ux,Zb,QI,dZ⟩:=AQ 0 τ t rfl rfl
  obtain⟨x,hx,hwx⟩:=Za ux Zb (hv 0 t v rfl rfl) h1
  obtain⟨⟨y,hy,hwy⟩,N4⟩:=BG laid h2 (by simpa using hl) (fun j τ' t' h h'=>AQ (j+1) τ' t' (by simpa using h) (by simpa using h')) (fun j t' v' h h'=>hv (j+1) t' v' (by simpa using h) (by simpa using h'))
  refine⟨⟨hpC (m:= .v τ) x y,?_,?_⟩,fun w' hb=> ?_⟩
  ·show fY w _ (.v τ::τs.map .v) _ _
   simp only[fY]
   exact⟨v,DY,rfl,by rw[JY];exact hx,by rw[JZ];exact hy⟩
  ·simp only[WFs]
   exact⟨by rw[JY];exact hwx,by rw[JZ];exact hwy⟩
  ·obtain⟨AX,h'⟩:=N4 w' hb
   have tp: ∀z∈p,z.block<w.heap.size:=by
    obtain⟨m,hm⟩:=h1
    exact DataW.trod_lt m _ _ _ hm
   exact⟨p++AX,trodAll_cons_mk (Below.trod laid QI dZ h1 hb tp) h'⟩
 |[],_::_,_,_,_,_,hl,_,_|_::_,[],_,_,_,_,hl,_,_=>by simp at hl
end
end VM
end
section
namespace VM
open Go
variable{α:Type}
noncomputable def uN(L:Nat→Option (List (Nat×CM)))(κ:Nat→St→Option α)(i:Option Nat)(f:St→Option α):St→Option α:=
 match i with
 |none=>f
 |some i=>match L i with
  |none=>f
  |some _=>κ i
noncomputable def N5(E:Env)(κJ κL:Nat→St→Option α)(c:Code):St→(St→Option α)→(Nat→St→Option α)→(St→Option α)→Option α:=
 Code.rec (motive:=fun _=>St→(St→Option α)→(Nat→St→Option α)→(St→Option α)→Option α)
  (fun σ k _ _=>k σ)
  (fun _ ops draw σ k _ _=>xY E ops draw σ k)
  (fun _ b A B σ k kx kr=>A σ (fun σ'=>qZ ((bL b).bind E.sF) σ' (uN E.sF κJ (bL b) fun qI=>B qI k kx kr)) kx kr)
  (fun c _ _ A B σ k kx kr=>Bo E c σ (fun σ'=>A σ' k kx kr) (fun σ'=>B σ' k kx kr))
  (fun id _ A σ k kx kr=>A σ k (fun i σ'=>cond (Nat.beq i id) (k σ') (kx i σ')) kr)
  (fun b _ σ _ kx kr=>qZ ((bL b).bind E.qV) σ (uN E.qV κL (bL b) (wy ((bL b).bind E.qV) (fun σ' kn=>xZ E b σ' kn kx kr) E.N)))
  (fun _ _ _ _ _ _ _ _ _ _=>none)
  (fun id σ _ kx _=>kx id σ)
  (fun _ A σ k kx kr=>A σ k kx kr)
  (fun _ σ k _ _=>k σ)
  (fun _ _ _ _ _=>none)
  (fun σ _ _ kr=>kr σ)
  (fun _ _ _ _ _=>none)
  c
noncomputable def yY(E:Env)(c:Code):(St→Option α)→(Nat→St→Option α)→(St→Option α)→List (Bool×Nat×(St→Option α)):=
 Code.rec (motive:=fun _=>(St→Option α)→(Nat→St→Option α)→(St→Option α)→List (Bool×Nat×(St→Option α)))
  (fun _ _ _=>[])
  (fun _ _ _ _ _ _=>[])
  (fun _ b A B k kx kr=>A (fun σ'=>qZ ((bL b).bind E.sF) σ' fun qI=>xZ E b qI k kx kr) kx kr++(((bL b).toList.map fun i=>(false,i,fun qI=>xZ E b qI k kx kr))++B k kx kr))
  (fun _ _ _ A B k kx kr=>A k kx kr++B k kx kr)
  (fun id _ A k kx kr=>A k (fun i σ'=>cond (Nat.beq i id) (k σ') (kx i σ')) kr)
  (fun b _ _ kx kr=>(bL b).toList.map fun i=>(true,i,wy ((bL b).bind E.qV) (fun σ' kn=>xZ E b σ' kn kx kr) E.N))
  (fun _ _ _ _ _ _ _ _ _=>[])
  (fun _ _ _ _=>[])
  (fun _ A k kx kr=>A k kx kr)
  (fun _ _ _ _=>[])
  (fun _ _ _ _=>[])
  (fun _ _ _=>[])
  (fun _ _ _ _=>[])
  c
noncomputable def rp(E:Env)(κJ κL:Nat→St→Option α):List (Bool×Nat×(St→Option α))→List ((St→Option α)×(St→Option α))
 |[]=>[]
 |q::r=>match q.1 with
  |false=>match E.sF q.2.1 with
   |some _=>(κJ q.2.1,q.2.2)::rp E κJ κL r
   |none=>rp E κJ κL r
  |true=>match E.qV q.2.1 with
   |some _=>(κL q.2.1,q.2.2)::rp E κJ κL r
   |none=>rp E κJ κL r
def A4(E:Env)(κJ κL:Nat→St→Option α)(l:List (Bool×Nat×(St→Option α))):Prop:= ∀p∈rp E κJ κL l,p.1=p.2
theorem Zc{E:Env}{κJ κL:Nat→St→Option α}{l:List (Bool×Nat×(St→Option α))}(g:List (St→Option α))(h:rp E κJ κL l=g.map fun f=>(f,f)):A4 E κJ κL l:=by
 intro p hp
 rw[h]at hp
 obtain⟨f,_,rfl⟩:=auy.1 hp
 rfl
theorem wQ{E:Env}{κJ κL:Nat→St→Option α}: ∀(l m:List (Bool×Nat×(St→Option α))),rp E κJ κL (l++m)=rp E κJ κL l++rp E κJ κL m
 |[],m=>rfl
 |(b,i,f)::l,m=>by
  have ih:=wQ (E:=E) (κJ:=κJ) (κL:=κL) l m
  cases b<;>simp only[au6,rp]<;>split<;>simp[ih]
theorem A4.app{E:Env}{κJ κL:Nat→St→Option α}{l m:List (Bool×Nat×(St→Option α))}(h:A4 E κJ κL (l++m)):A4 E κJ κL l∧A4 E κJ κL m:=by
 unfold A4 at*
 rw[wQ]at h
 exact⟨fun p hp=>h p (at5 _ hp),fun p hp=>h p (aub _ hp)⟩
theorem Xn{E:Env}{κJ κL:Nat→St→Option α}{i:Option Nat}{f:St→Option α}(h:A4 E κJ κL (i.toList.map fun i=>(false,i,f))):uN E.sF κJ i f=f:=by
 cases i with
 |none=>rfl
 |some i=>
  simp only[Option.toList,List.map,A4,rp]at h
  unfold uN
  cases hL:E.sF i with
  |none=>simp[hL]
  |some L=>rw[hL]at h;simp only[hL];exact h (κJ i,f) (at2.2 rfl)
theorem aeo{E:Env}{κJ κL:Nat→St→Option α}{i:Option Nat}{f:St→Option α}(h:A4 E κJ κL (i.toList.map fun i=>(true,i,f))):uN E.qV κL i f=f:=by
 cases i with
 |none=>rfl
 |some i=>
  simp only[Option.toList,List.map,A4,rp]at h
  unfold uN
  cases hL:E.qV i with
  |none=>simp[hL]
  |some L=>rw[hL]at h;simp only[hL];exact h (κL i,f) (at2.2 rfl)
theorem N6{E:Env}{κJ κL:Nat→St→Option α}(c:Code): ∀(k:St→Option α) (kx:Nat→St→Option α) (kr:St→Option α) (σ:St),A4 E κJ κL (yY E c k kx kr)→N5 E κJ κL c σ k kx kr=xZ E c σ k kx kr:=by
 induction c with
 |skip=>intros;rfl
 |region=>intros;rfl
 |seq a b Y9 Nk=>
  intro k kx kr σ h
  obtain⟨h1,h2⟩:=A4.app (h:A4 E κJ κL (yY E a _ kx kr++(((bL b).toList.map fun i=>(false,i,fun qI=>xZ E b qI k kx kr))++yY E b k kx kr)))
  obtain⟨h2,h3⟩:=A4.app h2
  show N5 E κJ κL a σ (fun σ'=>qZ ((bL b).bind E.sF) σ' (uN E.sF κJ (bL b) fun qI=>N5 E κJ κL b qI k kx kr)) kx kr=xZ E a σ (fun σ'=>qZ ((bL b).bind E.sF) σ' fun qI=>xZ E b qI k kx kr) kx kr
  have hb:(fun qI=>N5 E κJ κL b qI k kx kr)=fun qI=>xZ E b qI k kx kr:=funext fun qI=>Nk k kx kr qI h3
  rw[hb,Xn h2]
  exact Y9 _ _ _ _ h1
 |cond x a b Y9 Nk=>
  intro k kx kr σ h
  obtain⟨h1,h2⟩:=A4.app (h:A4 E κJ κL (yY E a k kx kr++yY E b k kx kr))
  show Bo E x σ (fun σ'=>N5 E κJ κL a σ' k kx kr) (fun σ'=>N5 E κJ κL b σ' k kx kr)=Bo E x σ (fun σ'=>xZ E a σ' k kx kr) (fun σ'=>xZ E b σ' k kx kr)
  rw[show(fun σ'=>N5 E κJ κL a σ' k kx kr)=fun σ'=>xZ E a σ' k kx kr from funext fun σ'=>Y9 k kx kr σ' h1,show(fun σ'=>N5 E κJ κL b σ' k kx kr)=fun σ'=>xZ E b σ' k kx kr from funext fun σ'=>Nk k kx kr σ' h2]
 |block id x ih=>intro k kx kr σ h;exact ih _ _ _ σ h
 |loop b _=>
  intro k kx kr σ h
  show qZ ((bL b).bind E.qV) σ (uN E.qV κL (bL b) (wy ((bL b).bind E.qV) (fun σ' kn=>xZ E b σ' kn kx kr) E.N))=qZ ((bL b).bind E.qV) σ (wy ((bL b).bind E.qV) (fun σ' kn=>xZ E b σ' kn kx kr) E.N)
  rw[aeo (h:A4 E κJ κL ((bL b).toList.map fun i=>(true,i,_)))]
 |rangeFunc=>intros;rfl
 |exit=>intros;rfl
 |scope x ih=>intro k kx kr σ h;exact ih _ _ _ σ h
 |label=>intros;rfl
 |goto=>intros;rfl
 |ret=>intros;rfl
 |refuse=>intros;rfl
noncomputable def jU(E:Env)(κJ κL:Nat→St→Option α):List Nat→Code→List (St→Option α)→St→(St→Option α)→(Nat→St→Option α)→(St→Option α)→Option α
 |[],c,_,σ,k,kx,kr=>N5 E κJ κL c σ k kx kr
 |n::p,c,ks,σ,k,kx,kr=>match c with
  | .seq a b=>match n with
   |0=>jU E κJ κL p a ks σ (fun σ'=>qZ ((bL b).bind E.sF) σ' (uN E.sF κJ (bL b) fun qI=>N5 E κJ κL b qI k kx kr)) kx kr
   |_=>jU E κJ κL p b ks σ k kx kr
  | .cond _ a b=>match n with
   |0=>jU E κJ κL p a ks σ k kx kr
   |_=>jU E κJ κL p b ks σ k kx kr
  | .block id c=>jU E κJ κL p c ks σ k (fun i σ'=>cond (Nat.beq i id) (k σ') (kx i σ')) kr
  | .loop b=>match ks with
   |κ::ks=>jU E κJ κL p b ks σ κ kx kr
   |[]=>none
  | .scope c=>jU E κJ κL p c ks σ k kx kr
  |_=>none
noncomputable def eK(E:Env):List Nat→Code→List (St→Option α)→(St→Option α)→(Nat→St→Option α)→(St→Option α)→List (Bool×Nat×(St→Option α))
 |[],c,_,k,kx,kr=>yY E c k kx kr
 |n::p,c,ks,k,kx,kr=>match c with
  | .seq a b=>match n with
   |0=>((bL b).toList.map fun i=>(false,i,fun qI=>xZ E b qI k kx kr))++(yY E b k kx kr++eK E p a ks (fun σ'=>qZ ((bL b).bind E.sF) σ' fun qI=>xZ E b qI k kx kr) kx kr)
   |_=>eK E p b ks k kx kr
  | .cond _ a b=>match n with
   |0=>eK E p a ks k kx kr
   |_=>eK E p b ks k kx kr
  | .block id c=>eK E p c ks k (fun i σ'=>cond (Nat.beq i id) (k σ') (kx i σ')) kr
  | .loop b=>match ks with
   |κ::ks=>eK E p b ks κ kx kr
   |[]=>[]
  | .scope c=>eK E p c ks k kx kr
  |_=>[]
theorem jz{E:Env}{κJ κL:Nat→St→Option α}: ∀(p:List Nat) (c:Code) (ks:List (St→Option α)) (k:St→Option α) (kx:Nat→St→Option α) (kr:St→Option α) (σ:St),A4 E κJ κL (eK E p c ks k kx kr)→
  jU E κJ κL p c ks σ k kx kr=qJ E p c ks σ k kx kr
 |[],c,ks,k,kx,kr,σ,h=>N6 c k kx kr σ h
 |n::p,c,ks,k,kx,kr,σ,h=>by
  cases c with
  |seq a b=>
   cases n with
   |zero=>
    simp only[jU,qJ,eK]at h ⊢
    obtain⟨h1,h2⟩:=A4.app h
    obtain⟨h2,h3⟩:=A4.app h2
    rw[show(fun qI=>N5 E κJ κL b qI k kx kr)=fun qI=>xZ E b qI k kx kr from funext fun qI=>N6 b k kx kr qI h2,Xn h1]
    exact jz p a ks _ kx kr σ h3
   |succ n=>simp only[jU,qJ,eK]at h ⊢;exact jz p b ks k kx kr σ h
  |cond x a b=>
   cases n with
   |zero=>simp only[jU,qJ,eK]at h ⊢;exact jz p a ks k kx kr σ h
   |succ n=>simp only[jU,qJ,eK]at h ⊢;exact jz p b ks k kx kr σ h
  |block id x=>simp only[jU,qJ,eK]at h ⊢;exact jz p x ks k _ kr σ h
  |loop b=>
   cases ks with
   |nil=>simp only[jU,qJ]
   |cons κ ks=>simp only[jU,qJ,eK]at h ⊢;exact jz p b ks κ kx kr σ h
  |scope x=>simp only[jU,qJ,eK]at h ⊢;exact jz p x ks k kx kr σ h
  |_=>simp only[jU,qJ]
noncomputable def yZ(fn:Func):Code:=fn.body.getD .skip
noncomputable def EX(E:Env)(fn:Func)(args res:List AM):St→Option (HP res):=fun σ=>Cu E res (fn.results.toList.map .inl++vB args 0) σ some
noncomputable def nox:Nat→St→Option α:=fun _ _=>none
noncomputable def aqu:St→Option α:=fun _=>none
noncomputable def Zd(E:Env)(fn:Func)(args res:List AM)(p:List Nat)(ks:List (St→Option (HP res)))(σ:St):Option (HP res):=
 qJ E p (yZ fn) ks σ (EX E fn args res) nox (EX E fn args res)
noncomputable def atQ(E:Env)(fn:Func)(args res:List AM)(κJ κL:Nat→St→Option (HP res))(p:List Nat)(ks:List (St→Option (HP res)))(σ:St):Option (HP res):=
 jU E κJ κL p (yZ fn) ks σ (EX E fn args res) nox (EX E fn args res)
noncomputable def RJ(E:Env)(fn:Func)(args res:List AM)(p:List Nat)(ks:List (St→Option (HP res))):List (Bool×Nat×(St→Option (HP res))):=
 eK E p (yZ fn) ks (EX E fn args res) nox (EX E fn args res)
theorem ajV{E:Env}{fn:Func}{args res:List AM}{κJ κL:Nat→St→Option (HP res)}{p:List Nat}{ks:List (St→Option (HP res))}(g:List (St→Option (HP res)))(h:rp E κJ κL (RJ E fn args res p ks)=g.map fun f=>(f,f))(σ:St):
 Zd E fn args res p ks σ=atQ E fn args res κJ κL p ks σ:=(jz p _ ks _ _ _ σ (Zc g h)).symm
theorem Ze{E:Env}{fn:Func}{args res:List AM}(hb:fn.body.isSome=true)(x:HP args):Ef E fn args res x=Zd E fn args res [] [] (entry args x 0 S0):=by
 unfold Ef Zd yZ
 cases h:fn.body with
 |none=>rw[h]at hb;cases hb
 |some c=>rfl
noncomputable def lpF(E:Env)(fn:Func)(args res:List AM)(c:List (Nat×CM))(p:List Nat)(ks:List (St→Option (HP res)))(n:Nat):St→Option (HP res):=
 wy (some c) (fun σ kn=>Zd E fn args res p (ks++[kn]) σ) n
theorem N7(E:Env)(fn:Func)(args res:List AM)(c:List (Nat×CM))(p:List Nat)(ks:List (St→Option (HP res)))(n:Nat)(σ:St):
 lpF E fn args res c p ks (n+1) σ=Zd E fn args res p (ks++[fun σ'=>qZ (some c) σ' (lpF E fn args res c p ks n)]) σ:=rfl
def N8{β:Type}(κ:Nat→β):List (Nat×β)→Prop
 |[]=>True
 |q::r=>κ q.1=q.2∧N8 κ r
def Lq{β:Type}:List (β×β)→Prop
 |[]=>True
 |q::r=>q.1=q.2∧Lq r
theorem Lq.mem{β:Type}: ∀{l:List (β×β)},Lq l→ ∀p∈l,p.1=p.2
 |q::r,h,p,hp=>by
  rcases atZ.1 hp with rfl|hp
  ·exact h.1
  ·exact Lq.mem h.2 p hp
theorem aep{β:Type}(d:β): ∀(l:List (Nat×β)),(l.map (·.1)).Nodup→ ∃κ:Nat→β,N8 κ l
 |[],_=>⟨fun _=>d,trivial⟩
 |q::r,h=>by
  rw[at7,awY]at h
  obtain⟨κ,hκ⟩:=aep d r h.2
  refine⟨fun i=>if i=q.1 then q.2 else κ i,by simp,?_⟩
  have key: ∀(r':List (Nat×β)),(∀p∈r',p∈r)→N8 κ r'→N8 (fun i=>if i=q.1 then q.2 else κ i) r':=by
   intro r'
   induction r' with
   |nil=>intros;trivial
   |cons p r' ih=>
    intro hm ha
    refine⟨?_,ih (fun p' JI=>hm p' (atM _ JI)) ha.2⟩
    have ib:p.1≠q.1:=fun e=>h.1 (e▸auC (hm p (atS ..)))
    show(if p.1=q.1 then q.2 else κ p.1)=p.2
    rw[atL ib]
    exact ha.1
  exact key r (fun _ h=>h) hκ
theorem aoo{β:Type}(d:β)(l:List (Nat×β)){ks:List Nat}(h:l.map (·.1)=ks)(hd:ks.Nodup): ∃κ:Nat→β,N8 κ l:=aep d l (h▸hd)
theorem at_eq(E:Env)(fn:Func)(args res:List AM){κJ κL:Nat→St→Option (HP res)}{p:List Nat}{ks:List (St→Option (HP res))}{l:List ((St→Option (HP res))×(St→Option (HP res)))}(h:rp E κJ κL (RJ E fn args res p ks)=l)(hl:Lq l)(σ:St):
 Zd E fn args res p ks σ=atQ E fn args res κJ κL p ks σ:=(jz p _ ks _ _ _ σ (by unfold A4;rw[show rp E κJ κL (eK E p (yZ fn) ks (EX E fn args res) nox (EX E fn args res))=l from h];exact hl.mem)).symm
end VM
end
section
namespace VM
open Go Go.RowKit
variable{P:Program}
def EY(i:Nat):List (Nat×Ty)→Option Ty
 |[]=>none
 |q::r=>cond (Nat.beq i q.1) (some q.2) (EY i r)
theorem BH{i:Nat}{τ:Ty}: ∀{l:List (Nat×Ty)},EY i l=some τ→(i,τ)∈l
 |q::r,h=>by
  unfold EY at h
  cases hb:Nat.beq i q.1<;>rw[hb]at h
  ·exact atM _ (BH h)
  ·cases h;rw[auj hb];exact atS ..
structure y3(P:Program)(tab:List (Nat×Ty)):Prop where
 ok:ael P tab=true
 mixed:P.follows .mixedOrders=true
theorem Lr{E:Env}(hE:n6 P E)(ajX:E.io=[]){f:FuncId}{fn:Func}(hf:P.funcs[f]? =some fn)(τs:List Ty)
  (hc:(Nat.beq E.nt fn.ntmps&&Nat.ble τs.length E.nt)=true) {w:World} {vs:List Value} {x:HP (τs.map .v)} (hA:fY w (fun _=>False) (τs.map .v) x vs)
  (h:Ef E fn (τs.map .v) [.v .bool] x=some true):Calls P f vs.toArray w fun e w'=>e= .returned (.bool true)∧Below w.heap.size w w':=by
 rw[atW]at hc
 have hnt:=auj hc.1
 have hlen:=awr hc.2
 have hh: ∀(τs:List Ty) (vs:List Value),cG (τs.map .v) vs=[]:=by
  intro τs
  induction τs with
  |nil=>intro vs;cases vs<;>rfl
  |cons τ τs ih=>intro vs;cases vs with
   |nil=>rfl
   |cons v vs=>simp[cG,cy,ih]
 have hi: ∀(τs:List Ty) (vs:List Value),du (τs.map .v) vs=[]:=by
  intro τs
  induction τs with
  |nil=>intro vs;cases vs<;>rfl
  |cons τ τs ih=>intro vs;cases vs with
   |nil=>rfl
   |cons v vs=>simp[du,AM.fO,ih]
 refine(BD (M0:=fun _=>False) (vs:=vs) hE hf hnt (fun i m hm sd=> ?_) (fun i hi=>by rw[ajX]at hi;cases hi) (by rw[aud];rw[←hnt];exact hlen) (fun b hb=>hb.elim) (by rw[hh];simpa using hA) (by rw[hh];exact List.nodup_nil) (fun b _ hb=>hb) h).mono ?_
 ·rw[auY]at hm
  obtain⟨τ,_,rfl⟩:=avL.1 hm
  cases sd
 ·rintro e w' ⟨v,rfl,us,M',rfl,M6,hL,_,_⟩
  rw[hh]at hL
  rw[hi]at M6
  simp only[RR]at M6
  rcases M6 with⟨p,AX,h1,_⟩|⟨v,DY,_,_,rfl,hv,rfl,_⟩
  ·cases h1
  ·refine⟨?_,hL.os,hL.tape,hL.output,hL.size,fun b hb=>hL.frame b hb (by simp)⟩
   have:v= .bool true:=by
    simp only[A1,V,Ty.isAgg,auA,avq,Rd,auv,au3]at hv
    exact hv
   rw[this];rfl
def N9(P:Program):List Ty→List TypeId→Bool
 |[],[]=>true
 |τ::τs,t::ts=>(pd P τ (.inl t)&&τ.lU)&&((P.readableRec t&&decide (t<P.types.size))&&N9 P τs ts)
 |_,_=>false
theorem CQ: ∀{τs:List Ty} {ts:List TypeId},N9 P τs ts=true→τs.length=ts.length∧ ∀(j:Nat) τ t,τs[j]? =some τ→ts[j]? =some t→(gM P τ t∧τ.lU=true∧P.readableRec t=true∧t<P.types.size)
 |[],[],_=>⟨rfl,fun j τ t h=>by simp at h⟩
 |τ::τs,t::ts,h=>by
  simp only[N9,atW]at h
  obtain⟨⟨h1,h2⟩,⟨h3,h4⟩,h5⟩:=h
  obtain⟨hl,ih⟩:=CQ h5
  refine⟨by simp[hl],fun j τ' t' ha hb=> ?_⟩
  cases j with
  |zero=>
   simp only[awN,auF]at ha hb
   subst ha;subst hb
   exact⟨ea h1,h2,h3,atY h4⟩
  |succ j=>exact ih j τ' t' (by simpa using ha) (by simpa using hb)
 |[],_::_,h|_::_,[],h=>by simp[N9]at h
theorem Oa{H:Type}{enc:TypeId×Value→H}{w:World}{fn:Func}{args:Array Value}{ds:List (DataW H)}{ps:List MemPlace}{r:Reach}{b0:Nat}(laid:laidOutB P=true)(τs:List Ty)
  (hA:DataW.TrodAll enc P w 0 (fun _=>true) true fn.params.toList args.toList ds ps) (AQ:N9 P τs fn.params.toList=true)
  (hv: ∀(j:Nat) t v,fn.params[j]? =some t→args[j]? =some v→Value.okWide P w r b0 t v):
  (∃x:HP (τs.map .v),fY w (fun _=>False) (τs.map .v) x args.toList∧WFs τs x)∧ ∀w',Below w.heap.size w w'→ ∃AX,DataW.TrodAll enc P w' 0 (fun b=>decide (b<w.heap.size)) true fn.params.toList args.toList ds AX:=
 BG laid hA (CQ AQ).1 (CQ AQ).2 (fun j t v h h'=>hv j t v (by rw[auo]at h;exact h) (by rw[auo]at h';exact h'))
end VM
end
