/- A part of the proof of WindTwice of layer 21: a machine that reads a function of the program as an equation between values. -/
import Derived.Test.YtecmobijochjkaaGreatVm5
import Derived.Laws.StructEq
import Derived.OpenShut
import Derived.ChangeShapes
import Derived.ChangeMaps5
import Derived.RowKit
import Derived.ChangeOld
import Derived.Carry
import Derived.Below
import Derived.Test.YtecmobijochjkaaGreatVm0
set_option linter.all false
noncomputable section
section
namespace VM
open Go
variable{P:Program}{E:Env}{o:Oper}{a:Act}{w:World}{M:Nat→Prop}{ν:Nat→Value}{σ:St}{c:Ctx}{α:Type}{r:α}{next:Act→World→Prop}{Q:Exit→Act→World→Prop}
theorem Cs{L:Option (List (Nat×CM))}(hL: ∀L',L=some L'→kd L'=true){b:Code}{Q:Exit→Act→World→Prop}{step:St→(St→Option α)→Option α}
  (hs: ∀σ a w kn (Q':Exit→Act→World→Prop),Inv c E σ a w→step σ kn=some r→(∀σ' a' w',kn σ'=some r→Inv c E σ' a' w'→Q' .normal a' w')→(∀e a' w',e≠ .normal→Q e a' w'→Q' e a' w')→b.wp P Q' a w):
  ∀n σ a w,Inv c E σ a w→Cc L step n σ=some r→Code.rounds P b Q n a w
 |0,σ,a,w,_,h=>by cases h
 |n+1,σ,a,w,hI,h=>by
  rw[rounds_succ]
  refine hs σ a w _ _ hI h (fun σ' a' w' h' yp=> ?_) (λe a' w' he hq=> ?_)
  ·obtain⟨vp,J3,ahH⟩:=yJ yp hL h'
   exact Cs hL hs n vp a' w' ahH J3
  ·cases e<;>first|exact hq|exact absurd rfl he
theorem TA(hE:tv P E): ∀(cd:Code) (σ:St) (a:Act) (w:World) (k:St→Option α) (kx:Nat→St→Option α) (kr:St→Option α) (Q:Exit→Act→World→Prop),Inv c E σ a w→DP E cd σ k kx kr=some r→
  (∀σ' a' w',k σ'=some r→Inv c E σ' a' w'→Q .normal a' w')→(∀i σ' a' w',kx i σ'=some r→Inv c E σ' a' w'→Q (.exit i) a' w')→(∀σ' a' w',kr σ'=some r→Inv c E σ' a' w'→Q .ret a' w')→cd.wp P Q a w:=by
 intro cd
 induction cd with
 |skip=>intro σ a w k kx kr Q hI h hk _ _;exact wp_skip (hk σ a w h hI)
 |region id ops draw=>intro σ a w k kx kr Q hI h hk _ _;exact Hv hE hI h hk
 |seq x y ihx ihy=>
  intro σ a w k kx kr Q hI h hk hx hr
  refine wp_seq (ihx σ a w _ kx kr _ hI h (fun σ' a' w' h' yp=> ?_) hx hr)
  obtain⟨vp,J3,ahH⟩:=yJ yp (λL' hL=>by
   cases hf:cL y with
   |none=>rw[hf]at hL;cases hL
   |some i=>rw[hf]at hL;exact hE.VW i L' hL) h'
  exact ihy vp a' w' k kx kr Q ahH J3 hk hx hr
 |cond x t e iht ihe=>
  intro σ a w k kx kr Q hI h hk hx hr
  obtain⟨b,hb,h⟩:=MF (E:=E) (A:=fun σ'=>DP E t σ' k kx kr) (B:=fun σ'=>DP E e σ' k kx kr) hI h
  refine wp_cond hb ?_
  cases b
  ·exact ihe σ a w k kx kr Q hI h hk hx hr
  ·exact iht σ a w k kx kr Q hI h hk hx hr
 |block id x ih=>
  intro σ a w k kx kr Q hI h hk hx hr
  refine wp_block (ih σ a w k _ kr _ hI h hk (λi σ' a' w' h' yp=> ?_) hr)
  show if i=id then Q .normal a' w' else Q (.exit i) a' w'
  cases hb:Nat.beq i id
  ·have jB:i≠id:=λe=>by subst e;rw[show Nat.beq i i=true from tc i]at hb;cases hb
   rw[hb]at h'
   rw[ah jB]
   exact hx i σ' a' w' h' yp
  ·rw[hb]at h'
   rw[aj (fV hb)]
   exact hk σ' a' w' h' yp
 |loop b ih=>
  intro σ a w k kx kr Q hI h hk hx hr
  have hL: ∀L',(cL b).bind E.vT=some L'→kd L'=true:=λL' hL=>by
   cases hf:cL b with
   |none=>rw[hf]at hL;cases hL
   |some i=>rw[hf]at hL;exact hE.kd i L' hL
  obtain⟨σ',h',yp⟩:=yJ hI hL h
  refine wp_loop_rounds E.N (Cs hL (fun σ a w kn Q' hI h hkn hq=> ?_) E.N σ' a w yp h')
  exact ih σ a w kn kx kr Q' hI h hkn (λi σ' a' w' h' yp=>hq _ _ _ (by simp) (hx i σ' a' w' h' yp)) (fun σ' a' w' h' yp=>hq _ _ _ (by simp) (hr σ' a' w' h' yp))
 |rangeFunc f ps x y ihx ihy=>intro σ a w k kx kr Q hI h;cases h
 |exit id=>intro σ a w k kx kr Q hI h hk hx hr;exact wp_exit (hx id σ a w h hI)
 |scope x ih=>
  intro σ a w k kx kr Q hI h hk hx hr
  exact wp_scope_straight (ih σ a w k kx kr _ hI h hk hx hr)
 |label l=>intro σ a w k kx kr Q hI h hk _ _;exact wp_label (hk σ a w h hI)
 |goto l=>intro σ a w k kx kr Q hI h;cases h
 |ret=>intro σ a w k kx kr Q hI h hk hx hr;exact wp_ret (hr σ a w h hI)
 |refuse s=>intro σ a w k kx kr Q hI h;cases h
end VM
end
section
namespace VM
open Go
variable{P:Program}{E:Env}{o:Oper}{a:Act}{w:World}{M:Nat→Prop}{ν:Nat→Value}{σ:St}{c:Ctx}{α:Type}{r:α}{next:Act→World→Prop}{Q:Exit→Act→World→Prop}
theorem Qe{m:AM}{ms:List AM}(x:HP (m::ms))(i:Nat)(σ:St):entry (m::ms) x i σ=entry ms (xZ x) (i+1) (P0 m (s0 x) i σ):=by
 cases ms with
 |nil=>simp[entry,s0]
 |cons n ms=>simp[entry,s0,xZ]
theorem Core.yn{tm:Array Value}(h:Core c σ tm w M ν){id:Nat}{v:Value}{e:bl}(bf:σ.H id=none)(S8:ER w M v e)
  (hd: ∀b,fK v=some b→ ∀i e',σ.H i=some e'→e'.mut→fK (ν i)≠some b) (hn: ∀b,fK v=some b→c.B≤b∨c.may b) (ho: ∀b e0 l0,e= .own e0 l0→fK v=some b→ ¬c.M0 b)
  (sS: ∀τ x p j,e= .gd τ x p j→bY σ.H id (some e) j≠none∧ ∃b,v= .pointer (some ⟨b,0,none⟩)∧w.cell? ⟨b,cF p τ,none⟩=some (dh ν id v j):=by intro _ _ _ _ h;cases h):
  Core c ⟨σ.T,bY σ.H id (some e)⟩ tm w M (dh ν id v):=by
 have hm:=Mem.yn h.mem (id:=id) (v:=v) (e:=e) (λe' vZ=>by rw[bf]at vZ;cases vZ) S8 hd hn ho (.inl bf) sS
 refine h.tr ⟨hm,.refl w M,⟨λi e1 hi=> ?_,λi hi=> ?_⟩⟩
 ·have bX:i≠id:=λe=>by rw[e,bf]at hi;cases hi
  exact⟨e1,by rw[az _ _ bX];exact hi,.refl e1⟩
 ·have bX:i≠id:=λe=>hi (e▸bf)
  simp[dh,bX]
theorem Core.put{tm:Array Value}(h:Core c σ tm w M ν){d:Nat}{x:bC}(hx:VR w M σ.H ν x (tm.getD d undef)):Core c (σ.put d x) tm w M ν:=by
 refine⟨h.mem,λi=> ?_⟩
 by_cases hi:i=d
 ·subst hi;rw[uh];exact hx
 ·rw[zZ _ _ hi];exact h.tmp i
theorem Ct{tm:Array Value}: ∀{ms:List AM} {x:HP ms} {vs:List Value} {i:Nat} {σ:St} {ν:Nat→Value} {used:List Nat},Core c σ tm w M ν→jI w M ms x vs→(∀j v,vs[j]? =some v→tm.getD (i+j) undef=v)→
  (∀j,16*i≤j→σ.H j=none)→(∀j e b,σ.H j=some e→e.mut→fK (ν j)=some b→b∈used)→(used++dR ms vs).Nodup→(∀b∈dR ms vs,c.may b)→(∀b,c.may b→ ¬c.M0 b)→
  ∃ν',Core c (entry ms x i σ) tm w M ν'
 |[],x,vs,i,σ,ν,used,h,_,_,_,_,_,_,_=>⟨ν,h⟩
 |m::ms,x,vs,i,σ,ν,used,h,hA,MN,js,Ij,ya,Qf,H4=>by
  rw[Qe]
  simp only[jI]at hA
  obtain⟨v,Lt,rfl,h1,h2⟩:=hA
  have hv:tm.getD i undef=v:=by simpa using MN 0 v rfl
  have J8: ∀j u,Lt[j]? =some u→tm.getD (i+1+j) undef=u:=λj u hj=>by
   have:=MN (j+1) u (by simpa using hj)
   rwa [show i+(j+1)=i+1+j from by omega]at this
  have bf:σ.H (16*i+15)=none:=js _ ω
  have ahI:dR (m::ms) (v::Lt)=da m v++dR ms Lt:=rfl
  rw[ahI]at ya Qf
  have qV: ∀b,b∈da m v→ ∀j e',σ.H j=some e'→e'.mut→fK (ν j)≠some b:=λb hb j e' hj jR eY=>
   mA ya (Ij j e' b hj jR eY) (cT _ hb)
  have wk: ∀{σ':St} {ν':Nat→Value},Core c σ' tm w M ν'→(∀j,16*(i+1)≤j→σ'.H j=none)→(∀j e b,σ'.H j=some e→e.mut→fK (ν' j)=some b→b∈used++da m v)→ ∃ν'',Core c (entry ms (xZ x) (i+1) σ') tm w M ν'':=
   λh' Bb hu'=>Ct h' h2 J8 Bb hu' (by rw[br];exact ya) (λb hb=>Qf b (dA _ hb)) H4
  have MI: ∀(e:bl) (v':Value),v'=v→(∀b,fK v=some b→b∈da m v)→(∀j,16*(i+1)≤j→bY σ.H (16*i+15) (some e) j=none)∧
    (∀j e1 b,bY σ.H (16*i+15) (some e) j=some e1→e1.mut→fK (dh ν (16*i+15) v' j)=some b→b∈used++da m v):=by
   rintro e v' rfl hb
   refine⟨λj hj=>by rw[az _ _ ω];exact js j ω,λj e1 b hj jR eY=> ?_⟩
   by_cases yM:j=16*i+15
   ·subst yM
    simp only[dh,gA]at eY
    exact dA _ (hb b eY)
   ·rw[az _ _ yM]at hj
    simp only[dh,yM,eT]at eY
    exact cT _ (Ij j e1 b hj jR eY)
  cases m with
  |v τ=>
   refine wk (σ':=σ.put i (.val τ (s0 x))) (h.put ?_) (λj hj=>js j ω) (λj e b hj jR eY=>cT _ (Ij j e b hj jR eY))
   simp only[VR,hv];exact h1
  |fn f τ=>
   refine wk (σ':=σ.put i (.L9 f (pO τ (s0 x)))) (h.put ?_) (λj hj=>js j ω) (λj e b hj jR eY=>cT _ (Ij j e b hj jR eY))
   rw[hv]
   simp only[A1,VR]at h1 ⊢
   obtain⟨us,hu,PM⟩:=h1
   exact⟨us,hu,jr.free PM⟩
  |own e=>
   have wa: ∀b,fK v=some b→b∈da (.own e) v:=λb hb=>by simp[da,hb]
   have hc:=h.yn bf (v:=v) (e:= .own e (s0 x)) h1 (λb hb=>qV b (wa b hb)) (λb hb=> .inr (Qf b (cT _ (wa b hb)))) (λb _ _ _ hb=>H4 b (Qf b (cT _ (wa b hb))))
   obtain⟨Bb,hu'⟩:=MI (.own e (s0 x)) v rfl wa
   refine wk (σ':=(σ.put i (.ref (16*i+15))).jP (16*i+15) (some (.own e (s0 x)))) (ν':=dh ν (16*i+15) v) (hc.put (d:=i) (x:= .ref (16*i+15)) ?_) Bb hu'
   simp only[VR,hv]
   exact⟨by rw[ay];simp,by simp[dh]⟩
  |lo e=>
   have wa: ∀b,fK v=some b→b∈da (.lo e) v:=λb hb=>by simp[da,hb]
   have hc:=h.yn bf (v:=v) (e:= .own e (s0 x)) h1 (λb hb=>qV b (wa b hb)) (λb hb=> .inr (Qf b (cT _ (wa b hb)))) (λb _ _ _ hb=>H4 b (Qf b (cT _ (wa b hb))))
   obtain⟨Bb,hu'⟩:=MI (.own e (s0 x)) v rfl wa
   refine wk (σ':=(σ.put i (.ref (16*i+15))).jP (16*i+15) (some (.own e (s0 x)))) (ν':=dh ν (16*i+15) v) (hc.put (d:=i) (x:= .ref (16*i+15)) ?_) Bb hu'
   simp only[VR,hv]
   exact⟨by rw[ay];simp,by simp[dh]⟩
  |io τ=>
   have wa: ∀b,fK v=some b→b∈da (.io τ) v:=λb hb=>by simp[da,hb]
   have hc:=h.yn bf (v:=v) (e:= .obj τ (s0 x)) h1 (λb hb=>qV b (wa b hb)) (λb hb=> .inr (Qf b (cT _ (wa b hb)))) (λb _ _ he=>by cases he)
   obtain⟨Bb,hu'⟩:=MI (.obj τ (s0 x)) v rfl wa
   refine wk (σ':=(σ.put i (.jo (16*i+15) [])).jP (16*i+15) (some (.obj τ (s0 x)))) (ν':=dh ν (16*i+15) v) (hc.put (d:=i) (x:= .jo (16*i+15) []) ?_) Bb hu'
   simp only[A1,ER]at h1
   obtain⟨b,cs,t,VS,_⟩:=h1
   simp only[VR,hv]
   exact⟨_,ay _ _ _,trivial,b,by simp[dh,VS],VS⟩
  |jo τ=>
   refine wk (σ':=σ.put i (.qM τ (s0 x))) (h.put ?_) (λj hj=>js j ω) (λj e b hj jR eY=>cT _ (Ij j e b hj jR eY))
   rw[hv]
   simp only[A1,VR]at h1 ⊢
   exact h1
  |ptr τ=>
   refine wk (σ':=σ) h (λj hj=>js j ω) (λj e b hj jR eY=>cT _ (Ij j e b hj jR eY))
def wo(tm:Array Value):ResultVar→Sem Value
 | .tmp t=>pure (tm.getD t undef)
 | .cell x t=>do loadVar t (←asAddr (tm.getD x undef))
def Dj(P:Program)(tm:Array Value)(w:World)(rv:ResultVar)(u:Value):Prop:=(wo tm rv).run P w= .ok u w
def J9(P:Program)(tm:Array Value)(w:World):List (ResultVar ⊕ Nat)→List Value→List Value→Prop
 |[],us,ps=>us=[]∧ps=[]
 | .inl rv::rs,us,ps=> ∃u J1,us=u::J1∧Dj P tm w rv u∧J9 P tm w rs J1 ps
 | .inr i::rs,us,ps=> ∃p G6,ps=p::G6∧p=tm.getD i undef∧J9 P tm w rs us G6
theorem Core.ZW{tm:Array Value}{H1:Nat→Option bl}{M1:Nat→Prop}(h: ∀i,VR w M σ.H ν (σ.T i) (tm.getD i undef))(k:e8 w M w M1)(g:sR σ.H ν H1 ν): ∀i,VR w M1 H1 ν (σ.T i) (tm.getD i undef):=
 λi=>VR.ca k g (h i)
theorem Cu(hE:EnvTy P E){tm:Array Value}{H0 Hq:Nat→Option bl}{M1:Nat→Prop}{uo uf:iV}{io:List (Nat×AM)}{hs:List Nat}(h:jJ c w M ν H0 σ.H Hq M1 uo uf io hs)(ht: ∀i,VR w M1 σ.H ν (σ.T i) (tm.getD i undef))
  {m:AM} {rs:ResultVar ⊕ Nat} {k:m.den→St→Option α} (hk:HZ E m rs σ k=some r):
  ∃y σ' Lm Ln GV Vi M2 u,k y σ'=some r∧σ'.T=σ.T∧jJ c w M ν H0 σ'.H Vi M2 Lm Ln GV (hs++da m u)∧e8 w M1 w M2∧sR σ.H ν σ'.H ν∧A1 w M2 m y u∧
   ((m.iC=false∧m.ZD=false∧ ∃rv,rs= .inl rv∧Dj P tm w rv u)∨(m.iC=true∧ ∃i,rs= .inr i∧u=tm.getD i undef)):=by
 unfold HZ at hk
 split at hk
 ·
  rename_i τ t k
  obtain⟨y,rd,ups,hk,hy⟩:=DS h.mem (ht t) hk
  have Qg:Dj P tm w (.tmp t) (tm.getD t undef):=by simp[Dj,wo]
  rcases hy with⟨rfl,hV⟩|⟨id,e,l,rfl,bf,hV⟩
  ·exact⟨y,σ,uo,uf,io,Hq,M1,_,hk,rfl,by simpa [da]using h,.refl w M1,.refl _ ν,hV,.inl ⟨rfl,rfl,_,rfl,Qg⟩⟩
  ·obtain⟨M2,hA,hK,JT⟩:=h.freeze bf
   exact⟨y,_,uo,_,io,Hq,M2,_,hk,rfl,(by simp only[da,ch];exact hA),hK,.ZF bf ⟨rfl,rfl⟩,hV M2 JT,.inl ⟨rfl,rfl,_,rfl,Qg⟩⟩
 ·
  rename_i τ x t k
  split at hk
  ·rename_i τ' EP
   obtain⟨e1,hk1⟩:=fW hk
   clear hk
   subst e1
   obtain⟨υ,z,rd,hk,b,off,cs,hv,pZ,kV⟩:=Cg h.mem (ht x) hk1
   obtain⟨e2,Zb⟩:=bB hk
   subst e2
   refine⟨_,σ,uo,uf,io,Hq,M1,cK _ cs,Zb,rfl,by simpa [da]using h,.refl w M1,.refl _ ν,V.cK kV,.inl ⟨rfl,rfl,_,rfl,?_⟩⟩
   simp only[Dj,wo,hv]
   simp[asAddr,Ce (hE.ty t _ EP) pZ kV]
  ·cases hk
 ·
  rename_i e t k
  have hv:=ht t
  have Qg:Dj P tm w (.tmp t) (tm.getD t undef):=by simp[Dj,wo]
  split at hk
  ·rename_i hT
   rw[hT]at hv
   obtain⟨ad,hv⟩:=VR.emp.1 hv
   have hb:fK (.slice ad 0 0)=none:=by cases ad<;>simp[fK]
   exact⟨[],σ,uo,uf,io,Hq,M1,_,hk,rfl,by rw[hv];simpa [da,hb]using h,.refl w M1,.refl _ ν,by rw[hv];simp only[A1,ER];exact .inl ⟨trivial,ad,rfl⟩,.inl ⟨rfl,rfl,_,rfl,Qg⟩⟩
  ·rename_i id hT
   rw[hT]at hv
   simp only[VR]at hv
   split at hk
   ·rename_i e' l bf
    obtain⟨e1,hk⟩:=bB hk
    cases e1
    refine⟨_,_,_,uf,io,_,M1,ν id,hk,rfl,(by simp only[da];exact h.hand bf),.refl w M1,.ZF bf (bl.kL _),h.mem.kZ id _ bf,.inl ⟨rfl,rfl,_,rfl,by rw[←hv.2];exact Qg⟩⟩
   ·cases hk
  ·cases hk
 ·
  rename_i τ i k
  have hv:=ht i
  split at hk
  ·rename_i id hT
   rw[hT]at hv
   split at hk
   ·rename_i υ z bf
    obtain⟨e1,hk⟩:=bB hk
    subst e1
    simp only[VR]at hv
    obtain⟨e,he,nM⟩:=hv
    rw[bf]at he;cases he
    simp only[AR]at nM
    obtain⟨_,b,hb,hv⟩:=nM
    have VS:tm.getD i undef=ν id:=by rw[hv,hb];rfl
    refine⟨_,_,uo,uf,_,_,M1,ν id,hk,rfl,(by simp only[da];exact h.ahr bf),.refl w M1,.ZF bf (bl.kL _),h.mem.kZ id _ bf,.inr ⟨rfl,i,rfl,VS.symm⟩⟩
   ·cases hk
  ·cases hk
 ·
  rename_i e i k
  have hv:=ht i
  split at hk
  ·rename_i id hT
   rw[hT]at hv
   simp only[VR]at hv
   split at hk
   ·rename_i e' l bf
    obtain⟨e1,hk⟩:=bB hk
    cases e1
    refine⟨_,_,uo,uf,_,_,M1,ν id,hk,rfl,(by simp only[da];exact h.af1 bf),.refl w M1,.ZF bf (bl.kL _),h.mem.kZ id _ bf,.inr ⟨rfl,i,rfl,hv.2.symm⟩⟩
   ·cases hk
  ·cases hk
 ·
  rename_i τ t k
  have hv:=ht t
  have Qg:Dj P tm w (.tmp t) (tm.getD t undef):=by simp[Dj,wo]
  split at hk
  ·rename_i id hT
   rw[hT]at hv
   split at hk
   ·rename_i υ z bf
    obtain⟨e1,hk⟩:=bB hk
    subst e1
    simp only[VR]at hv
    obtain⟨e,he,nM⟩:=hv
    rw[bf]at he;cases he
    simp only[AR]at nM
    obtain⟨_,b,hb,hv⟩:=nM
    have VS:tm.getD t undef=ν id:=by rw[hv,hb];rfl
    refine⟨_,_,uo,uf,_,_,M1,ν id,hk,rfl,(by simp only[da];exact h.ahr bf),.refl w M1,.ZF bf (bl.kL _),h.mem.kZ id _ bf,.inl ⟨rfl,rfl,_,rfl,by rw[←VS];exact Qg⟩⟩
   ·cases hk
  ·cases hk
 ·cases hk
theorem Fa(hE:EnvTy P E){tm:Array Value}{H0:Nat→Option bl}: ∀{ms:List AM} {rs:List (ResultVar ⊕ Nat)} {σ:St} {Hq:Nat→Option bl} {M1:Nat→Prop} {uo uf:iV} {io:List (Nat×AM)} {hs:List Nat} {K:HP ms→Option α},
  jJ c w M ν H0 σ.H Hq M1 uo uf io hs→(∀i,VR w M1 σ.H ν (σ.T i) (tm.getD i undef))→JL E ms rs σ K=some r→
  ∃y us ps H2 Lm Ln GV Vi M2,K y=some r∧jJ c w M ν H0 H2 Vi M2 Lm Ln GV (hs++bG ms us ps)∧e8 w M1 w M2∧RR w M2 ms y us ps∧J9 P tm w rs us ps
 |[],[],σ,Hq,M1,uo,uf,io,hs,K,h,ht,hk=>⟨(),[],[],σ.H,uo,uf,io,Hq,M1,hk,by simpa [bG]using h,.refl w M1,⟨rfl,rfl⟩,⟨rfl,rfl⟩⟩
 |[m],[q],σ,Hq,M1,uo,uf,io,hs,K,h,ht,hk0=>by
  obtain⟨y,σ',Lm,Ln,GV,Vi,M2,u,hk,hT,hA,hK,hG,hy,hu⟩:=Cu hE h ht (hk0:HZ E m q σ _=some r)
  clear hk0
  rcases hu with⟨h1,h2,rv,rfl,hv⟩|⟨h1,i,rfl,hv⟩
  ·refine⟨y,[u],[],_,_,_,_,_,M2,hk,by simpa [bG,h1]using hA,hK,?_,?_⟩
   ·simp only[RR];exact .inr ⟨u,[],h1,h2,rfl,hy,by simp⟩
   ·simp only[J9];exact⟨u,[],rfl,hv,by simp⟩
  ·refine⟨y,[],[u],_,_,_,_,_,M2,hk,by simpa [bG,h1]using hA,hK,?_,?_⟩
   ·simp only[RR];exact .inl ⟨u,[],h1,rfl,hy,by simp⟩
   ·simp only[J9];exact⟨u,[],rfl,hv,by simp⟩
 |m::n::ms,q::rs,σ,Hq,M1,uo,uf,io,hs,K,h,ht,hk0=>by
  obtain⟨y,σ',Lm,Ln,GV,Vi,M2,u,hk1,hT,hA,hK,hG,hy,hu⟩:=Cu hE h ht (hk0:HZ E m q σ _=some r)
  obtain⟨ys,us,ps,H3,uo3,uf3,io3,Hq3,M3,hk,hA3,hK3,hys,hrs⟩:=Fa (ms:=n::ms) hE hA (λi=>by rw[hT];exact Core.ZW ht hK hG i) hk1
  have Ie:A1 w M3 m y u:=A1.wm hK3 (λb hb=>⟨rfl,hA3.hM b (cT _ (dA _ hb))⟩) hy
  clear hk0
  rcases hu with⟨h1,h2,rv,rfl,hv⟩|⟨h1,i,rfl,hv⟩
  ·refine⟨(y,ys),u::us,ps,H3,uo3,uf3,io3,Hq3,M3,hk,?_,hK.trans hK3,?_,?_⟩
   ·have:bG (m::n::ms) (u::us) ps=da m u++bG (n::ms) us ps:=by rw[bG];simp[h1]
    rw[this,←br];exact hA3
   ·rw[RR];exact .inr ⟨u,us,h1,h2,rfl,Ie,hys⟩
   ·simp only[J9];exact⟨u,us,rfl,hv,hrs⟩
  ·refine⟨(y,ys),us,u::ps,H3,uo3,uf3,io3,Hq3,M3,hk,?_,hK.trans hK3,?_,?_⟩
   ·have:bG (m::n::ms) us (u::ps)=da m u++bG (n::ms) us ps:=by rw[bG];simp[h1]
    rw[this,←br];exact hA3
   ·rw[RR];exact .inl ⟨u,ps,h1,rfl,Ie,hys⟩
   ·simp only[J9];exact⟨u,ps,rfl,hv,hrs⟩
 |[],_::_,_,_,_,_,_,_,_,_,_,_,hk=>by simp[JL]at hk
 |[_],[],_,_,_,_,_,_,_,_,_,_,hk=>by simp[JL]at hk
 |[_],_::_::_,_,_,_,_,_,_,_,_,_,_,hk=>by simp[JL]at hk
 |_::_::_,[],_,_,_,_,_,_,_,_,_,_,hk=>by simp[JL]at hk
end VM
end
section
namespace VM
open Go
variable{P:Program}{E:Env}{o:Oper}{a:Act}{w:World}{M:Nat→Prop}{ν:Nat→Value}{σ:St}{c:Ctx}{α:Type}{r:α}{next:Act→World→Prop}{Q:Exit→Act→World→Prop}
theorem Ik{tm:Array Value}: ∀{rv:List ResultVar} {is:List (ResultVar ⊕ Nat)} {us ps:List Value},J9 P tm w (rv.map .inl++is) us ps→
  ∃Zf us2,us=Zf++us2∧Zf.length=rv.length∧(∀i (h:i<rv.length) (h':i<Zf.length),Dj P tm w rv[i] Zf[i])∧J9 P tm w is us2 ps
 |[],is,us,ps,h=>⟨[],us,rfl,rfl,λi h=>by simp at h,h⟩
 |rv::rvs,is,us,ps,h=>by
  simp only[bV,lQ,J9]at h
  obtain⟨u,J1,rfl,h1,h2⟩:=h
  obtain⟨Zf,us2,rfl,hl,h3,h4⟩:=Ik h2
  refine⟨u::Zf,us2,rfl,by simp[hl],λi hi m7=> ?_,h4⟩
  cases i with
  |zero=>exact h1
  |succ i=>exact h3 i (by simpa using hi) (by simpa using m7)
theorem wq{tm:Array Value}: ∀{ms:List AM} {vs:List Value} {i:Nat} {us ps:List Value},vs.length=ms.length→(∀j v m,vs[j]? =some v→ms[j]? =some m→m.iC=true→tm.getD (i+j) undef=v)→J9 P tm w (yD ms i) us ps→us=[]∧ps=fj ms vs
 |[],vs,i,us,ps,_,_,h=>by simp only[yD,J9]at h;simpa [fj]using h
 |m::ms,[],_,_,_,hl,_,_=>by simp at hl
 |m::ms,v::vs,i,us,ps,hl,MN,h=>by
  have J8: ∀j u m,vs[j]? =some u→ms[j]? =some m→m.iC=true→tm.getD (i+1+j) undef=u:=λj u m hj hm vd=>by
   have:=MN (j+1) u m (by simpa using hj) (by simpa using hm) vd
   rwa [show i+(j+1)=i+1+j from by omega]at this
  have JN:vs.length=ms.length:=by simpa using hl
  cases m with
  |io τ=>
   simp only[yD,J9]at h
   obtain⟨p,G6,rfl,hp,h⟩:=h
   obtain⟨h1,h2⟩:=wq JN J8 h
   refine⟨h1,?_⟩
   have:=MN 0 v (.io τ) rfl rfl rfl
   simp only[m3]at this
   simp[fj,AM.iC,h2,hp,this]
  |lo e=>
   simp only[yD,J9]at h
   obtain⟨p,G6,rfl,hp,h⟩:=h
   obtain⟨h1,h2⟩:=wq JN J8 h
   refine⟨h1,?_⟩
   have:=MN 0 v (.lo e) rfl rfl rfl
   simp only[m3]at this
   simp[fj,AM.iC,h2,hp,this]
  |v τ=>
   obtain⟨h1,h2⟩:=wq JN J8 (show J9 P tm w (yD ms (i+1)) us ps from h)
   exact⟨h1,by simp[fj,AM.iC,h2]⟩
  |own τ=>
   obtain⟨h1,h2⟩:=wq JN J8 (show J9 P tm w (yD ms (i+1)) us ps from h)
   exact⟨h1,by simp[fj,AM.iC,h2]⟩
  |fn f τ=>
   obtain⟨h1,h2⟩:=wq JN J8 (show J9 P tm w (yD ms (i+1)) us ps from h)
   exact⟨h1,by simp[fj,AM.iC,h2]⟩
  |jo τ=>
   obtain⟨h1,h2⟩:=wq JN J8 (show J9 P tm w (yD ms (i+1)) us ps from h)
   exact⟨h1,by simp[fj,AM.iC,h2]⟩
  |ptr τ=>
   obtain⟨h1,h2⟩:=wq JN J8 (show J9 P tm w (yD ms (i+1)) us ps from h)
   exact⟨h1,by simp[fj,AM.iC,h2]⟩
theorem MQ{fn:Func}{tm:Array Value}{us:List Value}(hl:us.length=fn.results.toList.length)(h: ∀i (h:i<fn.results.toList.length) (h':i<us.length),Dj P tm w fn.results.toList[i] us[i]):
  (results fn tm).run P w= .ok (wj us) w:=by
 have key: ∀(rs:List ResultVar) (us:List Value),us.length=rs.length→(∀i (h:i<rs.length) (h':i<us.length),Dj P tm w rs[i] us[i])→(rs.mapM (wo tm)).run P w= .ok us w:=by
  intro rs
  induction rs with
  |nil=>intro us hl _;cases us with
   |nil=>simp
   |cons _ _=>simp at hl
  |cons r rs ih=>intro us hl h;cases us with
   |nil=>simp at hl
   |cons u us=>
    have h0:(wo tm r).run P w= .ok u w:=h 0 (by simp) (by simp)
    have h1:=ih us (by simpa using hl) (λi hi m7=>h (i+1) (by simpa using hi) (by simpa using m7))
    simp[zx,h0,h1]
 have h2:=key fn.results.toList us hl h
 have h3:results fn tm=(do let vs ←fn.results.mapM (wo tm);pure (if h:vs.size=1 then vs[0]else .tuple vs)):=by
  unfold results
  congr 1
 rw[h3,Array.mapM_eq_mapM_toList]
 simp only[Sem.run_bind,Sem.run_map,h2]
 unfold wj
 by_cases h3:us.length=1
 ·simp[h3]
 ·simp[h3]
theorem Il(hE:tv P E){f:FuncId}{fn:Func}(hf:P.funcs[f]? =some fn)(hnt:E.nt=fn.ntmps){args res:List AM}(vd: ∀i m,args[i]? =some m→m.iC=true→i∈E.io)(amm: ∀i∈E.io,i<args.length)(hlen:args.length≤fn.ntmps)
  {M0:Nat→Prop} {vs:List Value} {x:HP args} {y:HP res} (rP: ∀b,M0 b→b<w.heap.size) (hA:jI w (λb=>M0 b∨b∈dR args vs) args x vs) (ya:(dR args vs).Nodup) (wu: ∀b∈dR args vs,¬M0 b)
  (h:PK E fn args res x=some y):
  Calls P f vs.toArray w λe w'=> ∃v,e= .returned v∧ ∃us M',v=wj us∧RR w' M' res y us (fj args vs)∧Left w M0 (dR args vs) w' M'∧(bG res us (fj args vs)).Nodup∧ ∀b∈bG res us (fj args vs),¬M0 b:=by
 unfold PK at h
 split at h
 ·cases h
 rename_i cd hb
 simp only at h
 have hvl: ∀{ms:List AM} {x:HP ms} {vs:List Value} {M:Nat→Prop},jI w M ms x vs→vs.length=ms.length:=by
  intro ms
  induction ms with
  |nil=>intro x vs M h;simp only[jI]at h;subst h;rfl
  |cons m ms ih=>intro x vs M h;simp only[jI]at h;obtain⟨v,Lt,rfl,_,h⟩:=h;simp[ih h]
 have Zv:=hvl hA
 let tm:Array Value:=vs.toArray++Array.replicate (fn.ntmps-vs.toArray.size) undef
 have MN: ∀j v,vs[j]? =some v→tm.getD j undef=v:=by
  intro j v hj
  have e9:j<vs.length:=(tU.1 hj).1
  rw[sd,Array.getElem?_append_left (by simpa using e9),LZ,hj];rfl
 have sZ:tm.size=fn.ntmps:=by simp[tm];omega
 have hhb: ∀{ms:List AM} {x:HP ms} {vs:List Value} {M:Nat→Prop},jI w M ms x vs→ ∀b∈dR ms vs,b<w.heap.size:=by
  intro ms
  induction ms with
  |nil=>intro x vs M h b hb;simp[dR]at hb
  |cons m ms ih=>
   intro x vs M h b hb
   simp only[jI]at h
   obtain⟨v,Lt,rfl,h1,h⟩:=h
   simp only[dR,bb]at hb
   rcases hb with hb|hb
   ·cases m with
    |v _=>simp[da]at hb
    |fn _ _=>simp[da]at hb
    |jo _=>simp[da]at hb
    |own e=>
     simp only[da,fg,A1,ER]at hb h1
     rcases h1 with⟨_,a,hv⟩|⟨b',cs,t,cap,hv,hg,_⟩
     ·rw[hv]at hb;cases a<;>simp[fK]at hb
     ·rw[hv]at hb
      simp only[fK]at hb
      split at hb
      ·cases hb
      ·simp only[iv]at hb;subst hb;exact lt_of_block hg
    |lo e=>
     simp only[da,fg,A1,ER]at hb h1
     rcases h1 with⟨_,a,hv⟩|⟨b',cs,t,cap,hv,hg,_⟩
     ·rw[hv]at hb;cases a<;>simp[fK]at hb
     ·rw[hv]at hb
      simp only[fK]at hb
      split at hb
      ·cases hb
      ·simp only[iv]at hb;subst hb;exact lt_of_block hg
    |io τ=>
     simp only[da,fg,A1,ER]at hb h1
     obtain⟨b',cs,t,hv,hg,_⟩:=h1
     rw[hv]at hb
     simp only[fK,iv]at hb;subst hb;exact lt_of_block hg
    |ptr τ=>
     simp only[da,fg,A1,ER]at hb h1
     obtain⟨b',cs,t,hv,hg,_⟩:=h1
     rw[hv]at hb
     simp only[fK,iv]at hb;subst hb;exact lt_of_block hg
   ·exact ih h b hb
 let cx:Ctx:={B:=w.heap.size,w0:=w,M0:=M0,may:=λb=>b∈dR args vs,arg:=λi=>tm.getD i undef}
 have hm0:Mem cx (λ_=>none) w (λb=>M0 b∨b∈dR args vs) (λ_=>undef):=
  ⟨λi e hi=>(by cases hi),λi j e e' b _ hi=>(by cases hi),λi e b hi=>(by cases hi),λi e l b hi=>(by cases hi),λi τ x p j hi=>(by cases hi),λb hb=> .inl hb,λb hb=>hb.elim (rP b) (hhb hA b),λ_ _ _=>rfl,aG _,⟨rP,wu⟩,rfl,rfl,rfl⟩
 have Vf:Core cx ⟨λ_=> .any,λ_=>none⟩ tm w (λb=>M0 b∨b∈dR args vs) (λ_=>undef):=⟨hm0,λi=>by simp[VR]⟩
 obtain⟨ν',hc⟩:=Ct (i:=0) (used:=[]) Vf hA (λj v hj=>by rw[gi];exact MN j v hj) (λ_ _=>rfl) (λj e b hj=>by cases hj) (by simpa using ya) (λb hb=>hb) (λb hb=>wu b hb)
 have hI:Inv cx E (entry args x 0 ⟨λ_=> .any,λ_=>none⟩) {tmps:=tm,defers:=[]} w:=⟨⟨_,_,hc⟩,by rw[hnt,sZ],rfl,λi _=>rfl⟩
 refine calls_of_wp hf hb ?_
 have amn: ∀(σ':St) (a':Act) (w':World),JL E res (fn.results.toList.map .inl++yD args 0) σ' some=some y→Inv cx E σ' a' w'→
   a'.defers=[]∧ ∃v,(results fn a'.tmps).run P w'= .ok v w'∧ ∃v',Ending.returned v= .returned v'∧ ∃us M',v'=wj us∧RR w' M' res y us (fj args vs)∧Left w M0 (dR args vs) w' M'∧(bG res us (fj args vs)).Nodup∧ ∀b∈bG res us (fj args vs),¬M0 b:=by
  rintro σ' a' w' hk ⟨⟨M1,ν1,Lq⟩,Lp,hd1,yb⟩
  obtain⟨y',us,ps,H2,uo,uf,io,Hq,M2,hy,Wd,hK,Vk,hRs⟩:=Fa (P:=P) hE.toEnvTy (jJ.start Lq.mem) Lq.tmp hk
  cases hy
  obtain⟨Zf,us2,rfl,hl,hv,arI⟩:=Ik hRs
  obtain⟨rfl,JZ⟩:=wq (vs:=vs) Zv (λj v m hj hm Hs=>by
   rw[gi]
   rw[yb j (vd j m hm Hs)]
   exact MN j v hj) arI
  rw[ch]at*
  subst JZ
  simp only[cJ]at Wd
  have ly: ∀b∈bG res Zf (fj args vs),b<w.heap.size→b∈dR args vs:=λb hb e9=>(Wd.Mz b hb).elim (λh'=>absurd e9 (Nat.not_lt.2 h')) (λh=>h)
  have Ie:e8 w' M2 w' (λb=>M2 b∧(b<w.heap.size→M0 b∨b∈dR args vs)):=⟨aG _,λ_ _ _=>rfl,λ_ _ h=>h.1⟩
  refine⟨hd1,wj Zf,MQ hl hv,_,rfl,Zf,λb=>M2 b∧(b<w.heap.size→M0 b∨b∈dR args vs),rfl,RR.wm Ie (λb hb=>⟨rfl,Vk.qW b hb,λe9=> .inr (ly b hb e9)⟩) Vk,⟨λb hb=>⟨Wd.mem.sub b hb,λ_=> .inl hb⟩,λb hb=>Wd.mem.EI b hb.1,λb e9 hb=>hb.2 e9,λb e9 hb=>Wd.mem.frame b e9 hb,Wd.mem.size,Wd.mem.os,Wd.mem.tape,Wd.mem.output⟩,Wd.nd,λb hb h0=> ?_⟩
  rcases Wd.Mz b hb with h'|h'
  ·exact absurd (rP b h0) (Nat.not_lt.2 h')
  ·exact wu b h' h0
 refine TA (c:=cx) hE cd _ _ w _ _ _ _ hI h (fun σ' a' w' hk yp=> ?_) (λi σ' a' w' hk=>by cases hk) (fun σ' a' w' hk yp=> ?_)
 ·exact amn σ' a' w' hk yp
 ·exact amn σ' a' w' hk yp
theorem We(hE:tv P E){f:FuncId}{fn:Func}(hf:P.funcs[f]? =some fn)(z7:(fn.name== "runtime.NumGoroutine")=false)(hnt:E.nt=fn.ntmps)(S:lY)
  (vd: ∀i m,S.args[i]? =some m→m.iC=true→i∈E.io) (amm: ∀i∈E.io,i<S.args.length) (hlen:S.args.length≤fn.ntmps) (hq:S.quiet=true→S.res.all AM.flat=true) (arJ:nf S.args=nf S.res)
  (dE: ∀x,PK E fn S.args S.res x=S.run x):iD P f S:=by
 refine⟨hq,arJ,λM0 w vs x y rP hA ya wu hy=> ?_⟩
 have hb:fn.body.isNone=false:=by
  have:=dE x
  rw[hy]at this
  unfold PK at this
  split at this
  ·cases this
  ·rename_i cd hcd;rw[hcd];rfl
 exact sT hf z7 hb (Il hE hf hnt vd amm hlen rP hA ya wu (by rw[dE,hy]))
end VM
end
section
namespace VM
open Go
variable{P:Program}
def z8:Ty→List Value→Option (List Value)
 | .int k,v::r=>match v with
  | .int k' n=>if k'=k∧n=0 then some r else none
  |_=>none
 | .bool,v::r=>match v with
  | .bool false=>some r
  |_=>none
 | .str,v::r=>match v with
  | .string s=>if s.data.size=0 then some r else none
  |_=>none
 | .slice _,v::r=>match v with
  | .slice none n m=>if n=0∧m=0 then some r else none
  |_=>none
 | .unit,r=>some r
 | .pair a b,r=>match z8 a r with
  |some r=>z8 b r
  |none=>none
 | .arr n e,r=>Nat.rec (motive:=λ_=>List Value→Option (List Value)) (λr=>some r) (λ_ ih r=>match z8 e r with
  |some r=>ih r
  |none=>none) n r
 |_,[]=>none
theorem Aa: ∀{τ:Ty} {l r:List Value},z8 τ l=some r→l=τ.dj++r
 | .int k,[],_,h| .bool,[],_,h| .str,[],_,h| .slice _,[],_,h=>by simp[z8]at h
 | .int k,v::l,r,h=>by
  simp only[z8]at h
  split at h
  ·split at h
   ·rename_i hc;obtain⟨rfl,rfl⟩:=hc;cases h;rfl
   ·cases h
  ·cases h
 | .bool,v::l,r,h=>by
  simp only[z8]at h
  split at h
  ·cases h;rfl
  ·cases h
 | .str,v::l,r,h=>by
  simp only[z8]at h
  split at h
  ·rename_i s
   split at h
   ·rename_i hs
    cases h
    have:s=ByteArray.empty:=by
     obtain⟨d⟩:=s
     have:d= #[]:=Array.eq_empty_of_size_eq_zero hs
     subst this;rfl
    subst this;rfl
   ·cases h
  ·cases h
 | .slice _,v::l,r,h=>by
  simp only[z8]at h
  split at h
  ·split at h
   ·rename_i hc;obtain⟨rfl,rfl⟩:=hc;cases h;rfl
   ·cases h
  ·cases h
 | .unit,l,r,h=>by simp only[z8]at h;cases h;rfl
 | .pair a b,l,r,h=>by
  simp only[z8]at h
  split at h
  ·rename_i r1 h1
   rw[Aa h1,Aa h];simp[Ty.dj]
  ·cases h
 | .arr n e,l,r,h=>by
  simp only[z8]at h
  simp only[Ty.dj]
  induction n generalizing l with
  |zero=>cases h;rfl
  |succ n ih=>
   simp only at h
   split at h
   ·rename_i r1 h1
    rw[Aa h1,ih _ h];simp[zq]
   ·cases h
def Ab(P:Program)(τ:Ty)(t:TypeId):Bool:=
 match P.info? t with
 |none=>false
 |some i=>Nat.beq i.size τ.size&&Nat.ble i.bytes 2048&&(match i.zero with
  |none=>false
  |some z=>match τ.isAgg,z with
   |true,.agg cs=>(match z8 τ cs.toList with|some []=>true|_=>false)
   |false,z=>(match z8 τ [z]with|some []=>true|_=>false)
   |_,_=>false)
theorem qZ{τ:Ty}{t:TypeId}(h:Ab P τ t=true):JM P τ t:=by
 unfold Ab at h
 split at h
 ·cases h
 ·rename_i i hi
  simp only[bR,zF]at h
  obtain⟨⟨h1,h2⟩,h3⟩:=h
  refine⟨i,hi,fV h1,?_,h2⟩
  split at h3
  ·cases h3
  ·rename_i z hz
   rw[hz]
   split at h3
   ·rename_i _ cs ha
    split at h3
    ·rename_i he
     have:=Aa he
     unfold cK
     rw[aj ha,←ch τ.dj,←this]
    ·cases h3
   ·rename_i ha
    split at h3
    ·rename_i he
     have:=Aa he
     unfold cK
     rw[ah (by rw[ha];exact qA),←ch τ.dj,←this];rfl
    ·cases h3
   ·cases h3
def tz(P:Program):Ty→TypeId ⊕ (Array Field×Nat×Nat)→Bool
 | .int k,.inl t=>Ab P (.int k) t&&(match P.underlying t with|some (.int k')=>decide (k'=k)|_=>false)
 | .bool,.inl t=>Ab P .bool t&&(match P.underlying t with|some .bool=>true|_=>false)
 | .str,.inl t=>Ab P .str t&&(match P.underlying t with|some .string=>true|_=>false)
 | .slice e,.inl t=>Ab P (.slice e) t&&(match P.underlying t with|some (.slice e')=>tz P e (.inl e')|_=>false)
 | .arr n e,.inl t=>Ab P (.arr n e) t&&(match P.underlying t with|some (.array n' e')=>Nat.beq n' n&&tz P e (.inl e')|_=>false)
 | .unit,.inl t=>Ab P .unit t&&(match P.underlying t with|some (.struct fs)=>Nat.beq fs.size 0|_=>false)
 | .unit,.inr q=>Nat.beq q.1.size q.2.1
 | .pair a b,.inl t=>Ab P (.pair a b) t&&(match P.underlying t with
  |some (.struct fs)=>(match fs[0]? with
   |some f=>Nat.beq f.offset 0&&(tz P a (.inl f.type)&&tz P b (.inr (fs,1,a.size)))
   |none=>false)
  |_=>false)
 | .pair a b,.inr q=>(match q.1[q.2.1]? with
  |some f=>Nat.beq f.offset q.2.2&&(tz P a (.inl f.type)&&tz P b (.inr (q.1,q.2.1+1,q.2.2+a.size)))
  |none=>false)
 |_,.inr _=>false
theorem gV: ∀{τ:Ty} {x:TypeId ⊕ (Array Field×Nat×Nat)},tz P τ x=true→fR P τ x
 | .int k,.inl t,h=>by
  simp only[tz,bR]at h
  refine⟨qZ h.1,?_⟩
  have h:=h.2
  split at h
  ·rename_i k' hu;rw[hu,bx h]
  ·cases h
 | .bool,.inl t,h=>by
  simp only[tz,bR]at h
  refine⟨qZ h.1,?_⟩
  have h:=h.2
  split at h
  ·rename_i hu;exact hu
  ·cases h
 | .str,.inl t,h=>by
  simp only[tz,bR]at h
  refine⟨qZ h.1,?_⟩
  have h:=h.2
  split at h
  ·rename_i hu;exact hu
  ·cases h
 | .slice e,.inl t,h=>by
  simp only[tz,bR]at h
  refine⟨qZ h.1,?_⟩
  have h:=h.2
  split at h
  ·rename_i e' hu;exact⟨e',hu,gV h⟩
  ·cases h
 | .arr n e,.inl t,h=>by
  simp only[tz,bR]at h
  refine⟨qZ h.1,?_⟩
  have h:=h.2
  split at h
  ·rename_i n' e' hu
   simp only[bR]at h
   obtain⟨h0,h⟩:=h
   rw[fV h0]at hu
   exact⟨e',hu,gV h⟩
  ·cases h
 | .unit,.inl t,h=>by
  simp only[tz,bR]at h
  refine⟨qZ h.1,?_⟩
  have h:=h.2
  split at h
  ·rename_i fs hu;exact⟨fs,hu,fV h⟩
  ·cases h
 | .unit,.inr (fs,n,o),h=>by simp only[tz]at h;exact fV h
 | .pair a b,.inl t,h=>by
  simp only[tz,bR]at h
  refine⟨qZ h.1,?_⟩
  have h:=h.2
  split at h
  ·rename_i fs hu
   split at h
   ·rename_i f hf
    simp only[bR]at h
    exact⟨fs,f,hu,hf,fV h.1,gV h.2.1,gV h.2.2⟩
   ·cases h
  ·cases h
 | .pair a b,.inr (fs,n,o),h=>by
  simp only[tz]at h
  split at h
  ·rename_i f hf
   simp only[bR]at h
   exact⟨f,hf,fV h.1,gV h.2.1,gV h.2.2⟩
  ·cases h
 | .int _,.inr _,h| .bool,.inr _,h| .str,.inr _,h| .slice _,.inr _,h| .arr _ _,.inr _,h=>by simp[tz]at h
def vf(P:Program):Ty→TypeId ⊕ (Array Field×Nat)→Bool
 | .int _,.inl _| .bool,.inl _| .str,.inl _=>true
 | .unit,.inl t=> !P.stoodInHeld t
 | .unit,.inr _=>true
 | .pair a b,.inl t=> !P.stoodInHeld t&&(match P.underlying t with
  |some (.struct fs)=>(match fs[0]? with
   |some f=>f.name != "_" &&(vf P a (.inl f.type)&&vf P b (.inr (fs,1)))
   |none=>false)
  |_=>false)
 | .pair a b,.inr q=>(match q.1[q.2]? with
  |some f=>f.name != "_" &&(vf P a (.inl f.type)&&vf P b (.inr (q.1,q.2+1)))
  |none=>false)
 |_,_=>false
def Ty.deep:Ty→Nat
 | .pair a b=>a.deep+b.deep+1
 |_=>1
theorem V.ofC{w:World}{M:Nat→Prop}{τ:Ty}{cs:List Value}{x:τ.den}(h:Rd w M τ cs x):V w M τ (VM.cK τ cs) x:=V.cK h
mutual
theorem MR{w:World}{M:Nat→Prop}: ∀{τ:Ty} {t:TypeId} {u v:Value} {x y:τ.den} {d:Nat},kI P τ t→vf P τ (.inl t)=true→V w M τ u x→V w M τ v y→τ.deep≤d→(Op.equalIn d t u v).run P w= .ok (pt τ x y) w
 | .int k,t,u,v,x,y,d+1,hl,_,hx,hy,_=>by
  simp only[V,Ty.isAgg,iW,eT,Rd,fh,eS]at hx hy
  subst hx;subst hy
  rw[run_equalIn_int w d t k k _ _ hl.int];simp only[pt,jA];congr 1
 | .bool,t,u,v,x,y,d+1,hl,_,hx,hy,_=>by
  simp only[V,Ty.isAgg,iW,eT,Rd,fh,eS]at hx hy
  subst hx;subst hy
  rw[run_equalIn_bool w d t _ _ hl.bool];simp only[pt]
 | .str,t,u,v,x,y,d+1,hl,_,hx,hy,_=>by
  simp only[V,Ty.isAgg,iW,eT,Rd,fh,eS]at hx hy
  subst hx;subst hy
  rw[run_equalIn_string w d t _ _ hl.str];simp only[pt,EG];congr 1;rw[oT];simp
 | .slice _,_,_,_,_,_,_,_,h,_,_,_| .arr _ _,_,_,_,_,_,_,_,h,_,_,_=>by simp[vf]at h
 | .unit,t,u,v,x,y,d+1,hl,he,hx,hy,_=>by
  simp only[V,Ty.isAgg,gA]at hx hy
  obtain⟨cs,rfl,_⟩:=hx
  obtain⟨cs',rfl,_⟩:=hy
  simp only[kI,fR]at hl
  obtain⟨_,fs,hu,h0⟩:=hl
  have hfs:P.fieldsOf t=fs:=by simp[Program.fieldsOf,hu]
  rw[run_equalIn_struct w d t cs cs' (by rw[hfs];exact hu) (by simpa [vf]using he),hfs]
  have:fs.toList=[]:=by rw[←LR,bI];exact h0
  rw[this];simp[Op.eqFields,pt]
 | .pair a b,t,u,v,x,y,d+1,hl,he,hx,hy,hd=>by
  simp only[V,Ty.isAgg,gA]at hx hy
  obtain⟨cs,rfl,hx⟩:=hx
  obtain⟨cs',rfl,hy⟩:=hy
  simp only[kI,fR]at hl
  obtain⟨_,fs,f,hu,hf,ho,yN,PU⟩:=hl
  have hfs:P.fieldsOf t=fs:=by simp[Program.fieldsOf,hu]
  simp only[vf,hu,hf,bR]at he
  rw[run_equalIn_struct w d t cs cs' (by rw[hfs];exact hu) (by simpa using he.1),hfs]
  have h0:fs.toList=f::fs.toList.drop 1:=by
   have h1:=pU (l:=fs.toList) (i:=0) (by rw[bI];exact(kF.1 hf).1)
   rw[cZ]at h1
   rw[h1];congr 1
   rw[zp];exact(kF.1 hf).2
  simp only[Ty.deep]at hd
  rw[h0]
  have oY:Rd w M (.pair a b) (cs.toList.drop 0) x:=by rw[cZ];exact hx
  have RN:Rd w M (.pair a b) (cs'.toList.drop 0) y:=by rw[cZ];exact hy
  have jB:f.name≠ "_" :=by simpa using he.2.1
  simp only[Op.eqFields,jB,ne_eq,not_false_eq_true,gA]
  exact Wf (off:=0) ho yN he.2.2.1 oY RN ω (λh1 h2=>Wg (n:=1) (fs:=fs) (off:=a.size) PU he.2.2.2 (by rw[gi]at h1;exact h1) (by rw[gi]at h2;exact h2) ω)
 | .int _,_,_,_,_,_,0,_,_,_,_,hd| .bool,_,_,_,_,_,0,_,_,_,_,hd| .str,_,_,_,_,_,0,_,_,_,_,hd| .unit,_,_,_,_,_,0,_,_,_,_,hd| .pair _ _,_,_,_,_,_,0,_,_,_,_,hd=>by simp[Ty.deep]at hd
theorem Wg{w:World}{M:Nat→Prop}: ∀{b:Ty} {fs:Array Field} {n off:Nat} {cs cs':Array Value} {x y:b.den} {d:Nat},fR P b (.inr (fs,n,off))→vf P b (.inr (fs,n))=true→Rd w M b (cs.toList.drop off) x→Rd w M b (cs'.toList.drop off) y→b.deep≤d→
  (Op.eqFields d cs cs' (fs.toList.drop n)).run P w= .ok (pt b x y) w
 | .unit,fs,n,off,cs,cs',x,y,d,hl,_,_,_,_=>by
  simp only[fR]at hl
  rw[kG (by rw[bI];omega)]
  simp[Op.eqFields,pt]
 | .pair a b,fs,n,off,cs,cs',x,y,d,hl,he,hx,hy,hd=>by
  simp only[fR]at hl
  obtain⟨f,hf,ho,yN,PU⟩:=hl
  simp only[vf,hf,bR]at he
  have h0:fs.toList.drop n=f::fs.toList.drop (n+1):=by
   rw[pU (l:=fs.toList) (i:=n) (by rw[bI];exact(kF.1 hf).1)]
   congr 1
   rw[zp];exact(kF.1 hf).2
  simp only[Ty.deep]at hd
  rw[h0]
  have jB:f.name≠ "_" :=by simpa using he.1
  simp only[Op.eqFields,jB,ne_eq,not_false_eq_true,gA]
  exact Wf ho yN he.2.1 hx hy ω (λh1 h2=>Wg PU he.2.2 h1 h2 ω)
 | .int _,_,_,_,_,_,_,_,_,hl,_,_,_,_| .bool,_,_,_,_,_,_,_,_,hl,_,_,_,_| .str,_,_,_,_,_,_,_,_,hl,_,_,_,_| .slice _,_,_,_,_,_,_,_,_,hl,_,_,_,_| .arr _ _,_,_,_,_,_,_,_,_,hl,_,_,_,_=>by simp[fR]at hl
theorem Wf{w:World}{M:Nat→Prop}{a b:Ty}{f:Field}{fs:List Field}{off:Nat}{cs cs':Array Value}{x y:(Ty.pair a b).den}{d:Nat}(ho:f.offset=off)(yN:kI P a f.type)(he:vf P a (.inl f.type)=true)
  (hx:Rd w M (.pair a b) (cs.toList.drop off) x) (hy:Rd w M (.pair a b) (cs'.toList.drop off) y) (hd:a.deep≤d)
  (hr:Rd w M b (cs.toList.drop (off+a.size)) x.2→Rd w M b (cs'.toList.drop (off+a.size)) y.2→(Op.eqFields d cs cs' fs).run P w= .ok (pt b x.2 y.2) w):
  (do let u ←part f.type cs f.offset;let v ←part f.type cs' f.offset;let r ←Op.equalIn d f.type u v;if(!r)=true then pure false else Op.eqFields d cs cs' fs:Sem Bool).run P w= .ok (pt (.pair a b) x y) w:=by
 simp only[Rd]at hx hy
 obtain⟨c1,c2,hc,h1,h2⟩:=hx
 obtain⟨c1',c2',TB,pA,yr⟩:=hy
 subst ho
 have p1:(cs.toList.drop f.offset).take a.size=c1:=by rw[hc,vK h1.length]
 have p2:(cs'.toList.drop f.offset).take a.size=c1':=by rw[TB,vK pA.length]
 have q1:cs.toList.drop (f.offset+a.size)=c2:=by rw[←jH,hc,m0 h1.length]
 have q2:cs'.toList.drop (f.offset+a.size)=c2':=by rw[←jH,TB,m0 pA.length]
 have r1:=zO yN (w:=w) (M:=M) (cs:=cs) (off:=f.offset) (x:=x.1) (by rw[p1];exact h1)
 have r2:=zO yN (w:=w) (M:=M) (cs:=cs') (off:=f.offset) (x:=y.1) (by rw[p2];exact pA)
 have r3:=MR (d:=d) yN he (V.ofC (by rw[p1];exact h1):V w M a (VM.cK a ((cs.toList.drop f.offset).take a.size)) x.1) (V.ofC (by rw[p2];exact pA):V w M a (VM.cK a ((cs'.toList.drop f.offset).take a.size)) y.1) hd
 simp only[Sem.run_bind,r1,r2,r3,Result.andThen_ok,pt]
 cases pt a x.1 y.1
 ·simp
 ·simpa using hr (by rw[q1];exact h2) (by rw[q2];exact yr)
end
def ZX(P:Program)(τ:Ty)(t:TypeId):Bool:= !(τ.comparable&&τ.isAgg)||(vf P τ (.inl t)&&(Nat.ble τ.deep 10000&& !P.eqGuardType P.depth t))
theorem ZY{τ:Ty}{t:TypeId}(hl:kI P τ t)(h:ZX P τ t=true)(hc:τ.comparable=true)(ha:τ.isAgg=true):alF P t τ:=by
 unfold ZX at h
 rw[hc,ha]at h
 simp only[Bool.and_self,a7,ta,bR,zF,qC]at h
 obtain⟨h1,h2,h3⟩:=h
 intro w M u v x y b xo yo hx hy
 have he:=MR (d:=10000) hl h1 hx hy h2
 unfold V at hx hy
 rw[aj ha]at hx hy
 obtain⟨cs,rfl,_⟩:=hx
 obtain⟨cs',rfl,_⟩:=hy
 refine⟨?_,?_,?_⟩
 ·cases b<;>simp[eqGuard,h3]
 ·simp only[binOp];simp[Op.equal,Op.maxDepth,he]
 ·simp only[binOp];simp[Op.equal,Op.maxDepth,he]
def amp(P:Program)(l:List (Nat×Ty)):Bool:=l.all λq=>tz P q.2 (.inl q.1)&&ZX P q.2 q.1
end VM
end
section
namespace VM
open Go Go.WideShapes Go.RowKit Go.ChangeShapes
def WF:(τ:Ty)→τ.den→Prop
 | .int k,x=>(Lit.int k x).wf=true
 | .bool,_=>True
 | .str,s=>ByteArray.size s≤maxLen
 | .slice e,l=>List.length l≤maxLen∧ ∀i (h:i<List.length l),WF e (List.get l ⟨i,h⟩)
 | .unit,_=>True
 | .pair a b,x=>WF a x.1∧WF b x.2
 | .arr _ e,l=> ∀i (h:i<List.length l),WF e (List.get l ⟨i,h⟩)
def Ty.pR:Ty→Bool
 | .slice e=>Nat.blt 0 e.size&&e.pR
 | .pair a b=>a.pR&&b.pR
 | .arr _ e=>e.pR
 |_=>true
theorem Wh{α β:Type}{f:α→Option β}: ∀{l:List α} {r:List β},l.mapM f=some r→ ∀x∈l,∃y,f x=some y
 |[],_,_,x,hx=>by cases hx
 |a::l,r,h,x,hx=>by
  rw[zx]at h
  simp only[bind,s4,pure,iv]at h
  obtain⟨y,hy,r',hr,_⟩:=h
  rcases aW.1 hx with rfl|hx
  ·exact⟨y,hy⟩
  ·exact Wh hr x hx
theorem MS{α β:Type}{f:α→Option β}: ∀{l:List α} {r:List β},l.mapM f=some r→r.length=l.length∧ ∀i (h:i<l.length) (h':i<r.length),f l[i]=some r[i]
 |[],r,h=>by simp at h;subst h;exact⟨rfl,λi h=>by cases h⟩
 |a::l,r,h=>by
  rw[zx]at h
  simp only[bind,s4,pure,iv]at h
  obtain⟨y,hy,r',hr,rfl⟩:=h
  obtain⟨h1,h2⟩:=MS hr
  refine⟨by simp[h1],λi hi m7=> ?_⟩
  cases i with
  |zero=>exact hy
  |succ i=>exact h2 i (by simpa using hi) (by simpa using m7)
theorem wv{α:Type}{p:Nat→α→Prop}: ∀n,(∀i,i<n→ ∃x,p i x)→ ∃l:List α,l.length=n∧ ∀i (h:i<l.length),p i (l.get ⟨i,h⟩)
 |0,_=>⟨[],rfl,λi h=>by cases h⟩
 |n+1,h=>by
  obtain⟨l,hl,hp⟩:=wv n (λi hi=>h i ω)
  obtain⟨x,hx⟩:=h n ω
  refine⟨l++[x],by simp[hl],λi hi=> ?_⟩
  simp only[Em]
  by_cases e9:i<l.length
  ·rw[Ef e9];exact hp i e9
  ·have lU:i=n:=by simp at hi;omega
   subst lU
   rw[LM ω]
   simp[hl,hx]
section
variable{H:Type}{enc:TypeId×Value→H}{P:Program}{w:World}
theorem kI.cells{τ:Ty}{t:TypeId}(h:kI P τ t):P.cellsOf t=τ.size:=by
 obtain⟨i,hi,hs,_⟩:=h.base
 simp[Program.cellsOf,hi,hs]
theorem Im{a:Addr}{n:Nat}{cs:List Value}(h:w.cells? 0 a n=some cs):cs.length=n∧ ∀j v,cs[j]? =some v→w.cell? (a.add j)=some v:=by
 unfold World.cells? at h
 rw[aj (bo _)]at h
 obtain⟨h1,h2⟩:=MS h
 rw[vG]at h1
 refine⟨h1,λj v hj=> ?_⟩
 obtain⟨e9,rfl⟩:=tU.1 hj
 have:=h2 j (by rw[vG];omega) e9
 rw[En]at this
 exact this
def Wi(H:Type)(enc:TypeId×Value→H)(P:Program)(w:World)(τ:Ty):TypeId ⊕ (Array Field×Nat×Nat)→Prop
 | .inl t=> ∀(fuel:Nat) (cs:List Value) (d:DataW H×List MemPlace),DataW.trod enc P w 0 (λ_=>true) true fuel t cs=some d→ ∃x:τ.den,Rd w (λ_=>False) τ cs x∧WF τ x
 | .inr q=> ∀(cs:List Value),cs.length=q.2.2+τ.size→(∀f∈q.1.toList,∃fuel d,DataW.trod enc P w 0 (λ_=>true) true fuel f.type ((cs.drop f.offset).take (P.cellsOf f.type))=some d)→ ∃x:τ.den,Rd w (λ_=>False) τ (cs.drop q.2.2) x∧WF τ x
theorem Io{a b:Ty}{f:Field}{fs:Array Field}{n off:Nat}(hf:fs[n]? =some f)(ho:f.offset=off)(yN:kI P a f.type)(iha:Wi H enc P w a (.inl f.type))(Vw:Wi H enc P w b (.inr (fs,n+1,off+a.size)))
  {cs:List Value} (hc:cs.length=off+(a.size+b.size)) (lq: ∀f∈fs.toList,∃fuel d,DataW.trod enc P w 0 (λ_=>true) true fuel f.type ((cs.drop f.offset).take (P.cellsOf f.type))=some d):
  ∃x:(Ty.pair a b).den,Rd w (λ_=>False) (.pair a b) (cs.drop off) x∧WF (.pair a b) x:=by
 subst ho
 obtain⟨fuel,d,hd⟩:=lq f (by rw[Array.mem_toList_iff];exact Array.mem_of_getElem? hf)
 rw[yN.cells]at hd
 obtain⟨x,hx,hwx⟩:=iha fuel _ d hd
 obtain⟨y,hy,hwy⟩:=Vw cs (by simp only;omega) lq
 refine⟨(x,y),?_,hwx,hwy⟩
 simp only[Rd]
 refine⟨_,_,(gg a.size (cs.drop f.offset)).symm,hx,?_⟩
 rw[jH];exact hy
theorem um: ∀{τ:Ty} {x:TypeId ⊕ (Array Field×Nat×Nat)},fR P τ x→τ.pR=true→Wi H enc P w τ x
 | .int k,.inl t,hl,_=>by
  intro fuel cs d h
  simp only[fR]at hl
  obtain⟨n,rfl,_,hw⟩:=DataW.trod_int hl.2 h
  exact⟨n,rfl,hw⟩
 | .bool,.inl t,hl,_=>by
  intro fuel cs d h
  simp only[fR]at hl
  obtain⟨b,rfl,_⟩:=DataW.trod_bool hl.2 h
  exact⟨b,rfl,trivial⟩
 | .str,.inl t,hl,_=>by
  intro fuel cs d h
  simp only[fR]at hl
  obtain⟨s,rfl,_,hs⟩:=DataW.trod_string hl.2 h
  exact⟨s,rfl,hs⟩
 | .slice e,.inl t,hl,hs=>by
  intro fuel cs d h
  simp only[fR]at hl
  obtain⟨_,e',hu,hle⟩:=hl
  simp only[Ty.pR,bR,zE]at hs
  have ih:=um hle hs.2
  have sZ:P.cellsOf e'=e.size:=kI.cells hle
  rcases DataW.trod_slice hu h with⟨rfl,_⟩|⟨a,len,cap,elems,rest,n,_,rfl,_,_,Zq,DR,hel,lq,_⟩
  ·refine⟨[],?_,bo _,λi h=>by cases h⟩
   simp only[Rd]
   exact⟨none,0,rfl,aG _,λi h=>by cases h⟩
  ·rw[sZ]at lq
   have get: ∀i,i<len→ ∃cs' y,w.cells? 0 (a.add (i*e.size)) e.size=some cs'∧DataW.trod enc P w 0 (λ_=>true) true n e' cs'=some y:=λi hi=>by
    have:=lq i hi
    rw[bn ω]at this
    obtain⟨cs',h1,h2⟩:=s4.1 this
    exact⟨cs',_,h1,h2⟩
   have key: ∀i,i<len→ ∃x:e.den,(a.spot=none∧a.block<w.heap.size∧ ∃cs',At w a.block (a.off+i*e.size) cs'∧Rd w (λ_=>False) e cs' x)∧WF e x:=by
    intro i hi
    obtain⟨cs',y,JS,ht⟩:=get i hi
    obtain⟨h1,h2⟩:=Im JS
    obtain⟨x,hx,hw⟩:=ih n cs' y ht
    have hsp:a.spot=none∧a.block<w.heap.size:=by
     obtain⟨sm,y0,arL,_⟩:=get 0 ω
     obtain⟨h10,h20⟩:=Im arL
     have:=h20 0 sm[0] (bn ω)
     simp only[Nat.zero_mul,Addr.add,gA,World.cell?]at this
     split at this
     ·rename_i hb
      refine⟨?_,(kF.1 hb).1⟩
      split at this
      ·cases this
      ·rename_i hn;simpa using hn
     ·cases this
    refine⟨x,⟨hsp.1,hsp.2,cs',λj v hj=> ?_,hx⟩,hw⟩
    have:=h2 j v hj
    have he:(a.add (i*e.size)).add j=⟨a.block,a.off+i*e.size+j,none⟩:=by
     obtain⟨ab,ao,asp⟩:=a
     simp only at hsp
     obtain⟨rfl,_⟩:=hsp
     simp only[Addr.add]
     split<;>split<;>simp_all<;>omega
    rw[he]at this
    exact this
   obtain⟨l,hl,hp⟩:=wv len key
   refine⟨l,?_,by rw[hl];omega,λi h=>(hp i h).2⟩
   simp only[Rd]
   refine⟨some a,cap,by rw[hl],by rw[hl];exact Zq,λi h=> ?_⟩
   obtain⟨h1,h2,cs',h3,h4⟩:=(hp i h).1
   refine⟨a.block,a.off,?_,h2,λh=>h,cs',h3,h4⟩
   rw[←h1]
 | .unit,.inl t,hl,_=>by
  intro fuel cs d h
  simp only[fR]at hl
  obtain⟨⟨i,hi,sZ,_⟩,fs,hu,h0⟩:=hl
  obtain⟨xs,n,_,_,hc,_⟩:=DataW.trod_struct hu h
  refine⟨(),?_,trivial⟩
  simp only[Rd]
  rw[←LR,hc]
  simp[Program.cellsOf,hi,sZ,Ty.size]
 | .unit,.inr q,hl,_=>by
  intro cs hc _
  refine⟨(),?_,trivial⟩
  simp only[Rd]
  rw[kG (by rw[hc];simp[Ty.size])]
 | .pair a b,.inl t,hl,hs=>by
  intro fuel cs d h
  simp only[fR]at hl
  obtain⟨⟨i,hi,sZ,_⟩,fs,f,hu,hf,ho,yN,PU⟩:=hl
  simp only[Ty.pR,bR]at hs
  have iha:=um yN hs.1
  have Vw:=um PU hs.2
  obtain⟨xs,n,_,_,hc,hxl,hxs⟩:=DataW.trod_struct hu h
  have:=Io (b:=b) (off:=0) hf ho yN iha (by simp only[gi];exact Vw) (cs:=cs) (by rw[hc];simp[Program.cellsOf,hi,sZ,Ty.size]) (λf hf=>by
   obtain⟨j,hj,rfl⟩:=qy.1 hf
   rw[bI]at hj
   have:=hxs j fs[j] (by simp[hj])
   rw[bn ω]at this
   exact⟨n,_,by rw[zp];exact this⟩)
  rw[cZ]at this
  exact this
 | .pair a b,.inr (fs,n,off),hl,hs=>by
  intro cs hc lq
  simp only[fR]at hl
  obtain⟨f,hf,ho,yN,PU⟩:=hl
  simp only[Ty.pR,bR]at hs
  exact Io hf ho yN (um yN hs.1) (um PU hs.2) (by simpa [Ty.size]using hc) lq
 | .arr n e,.inl t,hl,hs=>by
  intro fuel cs d h
  simp only[fR]at hl
  obtain⟨⟨i,hi,sZ,_⟩,e',hu,hle⟩:=hl
  simp only[Ty.pR]at hs
  have ih:=um hle hs
  have hse:P.cellsOf e'=e.size:=kI.cells hle
  obtain⟨xs,m,_,_,hc,hxl,hxs⟩:=DataW.trod_array hu h
  have hlen:cs.length=n*e.size:=by rw[hc];simp[Program.cellsOf,hi,sZ,Ty.size]
  have key: ∀i,i<n→ ∃x:e.den,Rd w (λ_=>False) e ((cs.drop (i*e.size)).take e.size) x∧WF e x:=λi hi=>by
   have:=hxs i hi
   rw[bn ω,hse]at this
   exact ih m _ _ this
  obtain⟨l,G4,hp⟩:=wv n key
  refine⟨l,?_,λi h=>(hp i h).2⟩
  simp only[Rd]
  refine⟨G4,(List.range n).map λi=>(cs.drop (i*e.size)).take e.size,by simp,?_,λi h h'=> ?_⟩
  ·clear hxs h key hp G4 hu
   have: ∀m,m≤n→cs.take (m*e.size)=((List.range m).map λi=>(cs.drop (i*e.size)).take e.size).flatten:=by
    intro m
    induction m with
    |zero=>simp
    |succ m ihm=>
     intro hm
     rw[Ev,cY,List.flatten_append,←ihm ω]
     simp only[bV,iZ,zs,List.flatten_nil,ch]
     rw[eu,jX,List.take_add]
   have h2:=this n (aG _)
   rw[jG ω]at h2
   exact h2
  ·have:=(hp i h).1
   simpa using this
 | .int _,.inr _,h,_| .bool,.inr _,h,_| .str,.inr _,h,_| .slice _,.inr _,h,_| .arr _ _,.inr _,h,_=>by simp[fR]at h
theorem ahL{τ:Ty}{t:TypeId}{r:Reach}{b0:Nat}{v:Value}{d:DataW H}{ps:List MemPlace}(hl:kI P τ t)(hs:τ.pR=true)(hv:Value.okWide P w r b0 t v)(h:DataW.Trod enc P w 0 (λ_=>true) true t v d ps):
  ∃x:τ.den,V w (λ_=>False) τ v x∧WF τ x:=by
 obtain⟨fuel,h⟩:=h
 obtain⟨x,hx,hw⟩:=um (H:=H) (enc:=enc) (w:=w) hl hs fuel _ _ h
 refine⟨x,?_,hw⟩
 unfold V
 cases τ with
 |int k=>
  obtain⟨n,rfl⟩:=okWide_int hl.int hv
  exact hx
 |bool=>
  obtain⟨n,rfl⟩:=okWide_bool hl.bool hv
  exact hx
 |str=>
  obtain⟨n,rfl⟩:=okWide_string hl.str hv
  exact hx
 |slice e=>
  obtain⟨e',hu,_⟩:=hl.slice
  obtain⟨a,len,cap,rfl⟩:=okWide_slice hu hv
  exact hx
 |unit=>
  simp only[kI,fR]at hl
  obtain⟨_,fs,hu,_⟩:=hl
  simp only[Value.okWide,hu]at hv
  obtain⟨cs,rfl,_⟩:=hv
  exact⟨cs,rfl,hx⟩
 |pair a b=>
  simp only[kI,fR]at hl
  obtain⟨_,fs,f,hu,_⟩:=hl
  simp only[Value.okWide,hu]at hv
  obtain⟨cs,rfl,_⟩:=hv
  exact⟨cs,rfl,hx⟩
 |arr n e=>
  obtain⟨e',hu,_⟩:=hl.arr
  simp only[Value.okWide,hu]at hv
  obtain⟨cs,rfl,_⟩:=hv
  exact⟨cs,rfl,hx⟩
def WFs:(ms:List Ty)→HP (ms.map .v)→Prop
 |[],_=>True
 |_::ms,x=>WF _ (s0 x)∧WFs ms (xZ x)
def hpC:{m:AM}→{ms:List AM}→m.den→HP ms→HP (m::ms)
 |_,[],x,_=>x
 |_,_::_,x,y=>(x,y)
theorem RO{m:AM}: ∀{ms:List AM} (x:m.den) (y:HP ms),s0 (hpC x y)=x
 |[],_,_=>rfl
 |_::_,_,_=>rfl
theorem RP{m:AM}: ∀{ms:List AM} (x:m.den) (y:HP ms),xZ (hpC x y)=y
 |[],_,()=>rfl
 |_::_,_,_=>rfl
theorem Ip(laid:laidOutB P=true){r:Reach}{b0:Nat}: ∀{τs:List Ty} {ts:List TypeId} {vs:List Value} {ds:List (DataW H)} {ps:List MemPlace},DataW.TrodAll enc P w 0 (λ_=>true) true ts vs ds ps→
  τs.length=ts.length→(∀(j:Nat) τ t,τs[j]? =some τ→ts[j]? =some t→(kI P τ t∧τ.pR=true∧P.readableRec t=true∧t<P.types.size))→
  (∀(j:Nat) t v,ts[j]? =some t→vs[j]? =some v→Value.okWide P w r b0 t v)→
  (∃x:HP (τs.map .v),jI w (λ_=>False) (τs.map .v) x vs∧WFs τs x)∧ ∀w',Below w.heap.size w w'→ ∃G6,DataW.TrodAll enc P w' 0 (λb=>decide (b<w.heap.size)) true ts vs ds G6
 |[],[],vs,ds,ps,h,_,_,_=>by
  obtain⟨rfl,rfl,rfl⟩:=trodAll_nil h
  exact⟨⟨(),rfl,trivial⟩,λw' _=>⟨[],rfl⟩⟩
 |τ::τs,t::ts,vs,ds,ps,h,hl,EP,hv=>by
  obtain⟨v,Lt,d,ds',p,q,rfl,rfl,rfl,h1,h2⟩:=trodAll_cons h
  obtain⟨zQ,ahM,hrr,e9⟩:=EP 0 τ t rfl rfl
  obtain⟨x,hx,hwx⟩:=ahL zQ ahM (hv 0 t v rfl rfl) h1
  obtain⟨⟨y,hy,hwy⟩,Wj⟩:=Ip laid h2 (by simpa using hl) (λj τ' t' h h'=>EP (j+1) τ' t' (by simpa using h) (by simpa using h')) (λj t' v' h h'=>hv (j+1) t' v' (by simpa using h) (by simpa using h'))
  refine⟨⟨hpC (m:= .v τ) x y,?_,?_⟩,λw' hb=> ?_⟩
  ·show jI w _ (.v τ::τs.map .v) _ _
   simp only[jI]
   exact⟨v,Lt,rfl,by rw[RO];exact hx,by rw[RP];exact hy⟩
  ·simp only[WFs]
   exact⟨by rw[RO];exact hwx,by rw[RP];exact hwy⟩
  ·obtain⟨G6,h'⟩:=Wj w' hb
   have wi: ∀z∈p,z.block<w.heap.size:=by
    obtain⟨m,hm⟩:=h1
    exact DataW.trod_lt m _ _ _ hm
   exact⟨p++G6,trodAll_cons_mk (Below.trod laid hrr e9 h1 hb wi) h'⟩
 |[],_::_,_,_,_,_,hl,_,_|_::_,[],_,_,_,_,hl,_,_=>by simp at hl
end
end VM
end
section
namespace VM
open Go
variable{α:Type}
def Ac(L:Nat→Option (List (Nat×CM)))(κ:Nat→St→Option α)(i:Option Nat)(f:St→Option α):St→Option α:=
 match i with
 |none=>f
 |some i=>match L i with
  |none=>f
  |some _=>κ i
def Wk(E:Env)(κJ κL:Nat→St→Option α)(c:Code):St→(St→Option α)→(Nat→St→Option α)→(St→Option α)→Option α:=
 Code.rec (motive:=λ_=>St→(St→Option α)→(Nat→St→Option α)→(St→Option α)→Option α)
  (fun σ k _ _=>k σ)
  (λ_ ops draw σ k _ _=>DO E ops draw σ k)
  (λ_ b A B σ k kx kr=>A σ (fun σ'=>vX ((cL b).bind E.xS) σ' (Ac E.xS κJ (cL b) λvp=>B vp k kx kr)) kx kr)
  (λc _ _ A B σ k kx kr=>HY E c σ (fun σ'=>A σ' k kx kr) (fun σ'=>B σ' k kx kr))
  (λid _ A σ k kx kr=>A σ k (λi σ'=>cond (Nat.beq i id) (k σ') (kx i σ')) kr)
  (λb _ σ _ kx kr=>vX ((cL b).bind E.vT) σ (Ac E.vT κL (cL b) (Cc ((cL b).bind E.vT) (fun σ' kn=>DP E b σ' kn kx kr) E.N)))
  (λ_ _ _ _ _ _ _ _ _ _=>none)
  (λid σ _ kx _=>kx id σ)
  (λ_ A σ k kx kr=>A σ k kx kr)
  (λ_ σ k _ _=>k σ)
  (λ_ _ _ _ _=>none)
  (fun σ _ _ kr=>kr σ)
  (λ_ _ _ _ _=>none)
  c
def Fb(E:Env)(c:Code):(St→Option α)→(Nat→St→Option α)→(St→Option α)→List (Bool×Nat×(St→Option α)):=
 Code.rec (motive:=λ_=>(St→Option α)→(Nat→St→Option α)→(St→Option α)→List (Bool×Nat×(St→Option α)))
  (λ_ _ _=>[])
  (λ_ _ _ _ _ _=>[])
  (λ_ b A B k kx kr=>A (fun σ'=>vX ((cL b).bind E.xS) σ' λvp=>DP E b vp k kx kr) kx kr++(((cL b).toList.map λi=>(false,i,λvp=>DP E b vp k kx kr))++B k kx kr))
  (λ_ _ _ A B k kx kr=>A k kx kr++B k kx kr)
  (λid _ A k kx kr=>A k (λi σ'=>cond (Nat.beq i id) (k σ') (kx i σ')) kr)
  (λb _ _ kx kr=>(cL b).toList.map λi=>(true,i,Cc ((cL b).bind E.vT) (fun σ' kn=>DP E b σ' kn kx kr) E.N))
  (λ_ _ _ _ _ _ _ _ _=>[])
  (λ_ _ _ _=>[])
  (λ_ A k kx kr=>A k kx kr)
  (λ_ _ _ _=>[])
  (λ_ _ _ _=>[])
  (λ_ _ _=>[])
  (λ_ _ _ _=>[])
  c
def wx(E:Env)(κJ κL:Nat→St→Option α):List (Bool×Nat×(St→Option α))→List ((St→Option α)×(St→Option α))
 |[]=>[]
 |q::r=>match q.1 with
  |false=>match E.xS q.2.1 with
   |some _=>(κJ q.2.1,q.2.2)::wx E κJ κL r
   |none=>wx E κJ κL r
  |true=>match E.vT q.2.1 with
   |some _=>(κL q.2.1,q.2.2)::wx E κJ κL r
   |none=>wx E κJ κL r
def Hw(E:Env)(κJ κL:Nat→St→Option α)(l:List (Bool×Nat×(St→Option α))):Prop:= ∀p∈wx E κJ κL l,p.1=p.2
theorem ahN{E:Env}{κJ κL:Nat→St→Option α}{l:List (Bool×Nat×(St→Option α))}(g:List (St→Option α))(h:wx E κJ κL l=g.map λf=>(f,f)):Hw E κJ κL l:=by
 intro p hp
 rw[h]at hp
 obtain⟨f,_,rfl⟩:=cD.1 hp
 rfl
theorem Cv{E:Env}{κJ κL:Nat→St→Option α}: ∀(l m:List (Bool×Nat×(St→Option α))),wx E κJ κL (l++m)=wx E κJ κL l++wx E κJ κL m
 |[],m=>rfl
 |(b,i,f)::l,m=>by
  have ih:=Cv (E:=E) (κJ:=κJ) (κL:=κL) l m
  cases b<;>simp only[lQ,wx]<;>split<;>simp[ih]
theorem Hw.app{E:Env}{κJ κL:Nat→St→Option α}{l m:List (Bool×Nat×(St→Option α))}(h:Hw E κJ κL (l++m)):Hw E κJ κL l∧Hw E κJ κL m:=by
 unfold Hw at*
 rw[Cv]at h
 exact⟨λp hp=>h p (cT _ hp),λp hp=>h p (dA _ hp)⟩
theorem af5{E:Env}{κJ κL:Nat→St→Option α}{i:Option Nat}{f:St→Option α}(h:Hw E κJ κL (i.toList.map λi=>(false,i,f))):Ac E.xS κJ i f=f:=by
 cases i with
 |none=>rfl
 |some i=>
  simp only[Option.toList,List.map,Hw,wx]at h
  unfold Ac
  cases hL:E.xS i with
  |none=>simp[hL]
  |some L=>rw[hL]at h;simp only[hL];exact h (κJ i,f) (bW.2 rfl)
theorem ams{E:Env}{κJ κL:Nat→St→Option α}{i:Option Nat}{f:St→Option α}(h:Hw E κJ κL (i.toList.map λi=>(true,i,f))):Ac E.vT κL i f=f:=by
 cases i with
 |none=>rfl
 |some i=>
  simp only[Option.toList,List.map,Hw,wx]at h
  unfold Ac
  cases hL:E.vT i with
  |none=>simp[hL]
  |some L=>rw[hL]at h;simp only[hL];exact h (κL i,f) (bW.2 rfl)
theorem Wl{E:Env}{κJ κL:Nat→St→Option α}(c:Code): ∀(k:St→Option α) (kx:Nat→St→Option α) (kr:St→Option α) (σ:St),Hw E κJ κL (Fb E c k kx kr)→Wk E κJ κL c σ k kx kr=DP E c σ k kx kr:=by
 induction c with
 |skip=>intros;rfl
 |region=>intros;rfl
 |seq a b iha Vw=>
  intro k kx kr σ h
  obtain⟨h1,h2⟩:=Hw.app (h:Hw E κJ κL (Fb E a _ kx kr++(((cL b).toList.map λi=>(false,i,λvp=>DP E b vp k kx kr))++Fb E b k kx kr)))
  obtain⟨h2,h3⟩:=Hw.app h2
  show Wk E κJ κL a σ (fun σ'=>vX ((cL b).bind E.xS) σ' (Ac E.xS κJ (cL b) λvp=>Wk E κJ κL b vp k kx kr)) kx kr=DP E a σ (fun σ'=>vX ((cL b).bind E.xS) σ' λvp=>DP E b vp k kx kr) kx kr
  have hb:(λvp=>Wk E κJ κL b vp k kx kr)=λvp=>DP E b vp k kx kr:=funext λvp=>Vw k kx kr vp h3
  rw[hb,af5 h2]
  exact iha _ _ _ _ h1
 |cond x a b iha Vw=>
  intro k kx kr σ h
  obtain⟨h1,h2⟩:=Hw.app (h:Hw E κJ κL (Fb E a k kx kr++Fb E b k kx kr))
  show HY E x σ (fun σ'=>Wk E κJ κL a σ' k kx kr) (fun σ'=>Wk E κJ κL b σ' k kx kr)=HY E x σ (fun σ'=>DP E a σ' k kx kr) (fun σ'=>DP E b σ' k kx kr)
  rw[show(fun σ'=>Wk E κJ κL a σ' k kx kr)=fun σ'=>DP E a σ' k kx kr from funext fun σ'=>iha k kx kr σ' h1,show(fun σ'=>Wk E κJ κL b σ' k kx kr)=fun σ'=>DP E b σ' k kx kr from funext fun σ'=>Vw k kx kr σ' h2]
 |block id x ih=>intro k kx kr σ h;exact ih _ _ _ σ h
 |loop b _=>
  intro k kx kr σ h
  show vX ((cL b).bind E.vT) σ (Ac E.vT κL (cL b) (Cc ((cL b).bind E.vT) (fun σ' kn=>DP E b σ' kn kx kr) E.N))=vX ((cL b).bind E.vT) σ (Cc ((cL b).bind E.vT) (fun σ' kn=>DP E b σ' kn kx kr) E.N)
  rw[ams (h:Hw E κJ κL ((cL b).toList.map λi=>(true,i,_)))]
 |rangeFunc=>intros;rfl
 |exit=>intros;rfl
 |scope x ih=>intro k kx kr σ h;exact ih _ _ _ σ h
 |label=>intros;rfl
 |goto=>intros;rfl
 |ret=>intros;rfl
 |refuse=>intros;rfl
def nX(E:Env)(κJ κL:Nat→St→Option α):List Nat→Code→List (St→Option α)→St→(St→Option α)→(Nat→St→Option α)→(St→Option α)→Option α
 |[],c,_,σ,k,kx,kr=>Wk E κJ κL c σ k kx kr
 |n::p,c,ks,σ,k,kx,kr=>match c with
  | .seq a b=>match n with
   |0=>nX E κJ κL p a ks σ (fun σ'=>vX ((cL b).bind E.xS) σ' (Ac E.xS κJ (cL b) λvp=>Wk E κJ κL b vp k kx kr)) kx kr
   |_=>nX E κJ κL p b ks σ k kx kr
  | .cond _ a b=>match n with
   |0=>nX E κJ κL p a ks σ k kx kr
   |_=>nX E κJ κL p b ks σ k kx kr
  | .block id c=>nX E κJ κL p c ks σ k (λi σ'=>cond (Nat.beq i id) (k σ') (kx i σ')) kr
  | .loop b=>match ks with
   |κ::ks=>nX E κJ κL p b ks σ κ kx kr
   |[]=>none
  | .scope c=>nX E κJ κL p c ks σ k kx kr
  |_=>none
def gW(E:Env):List Nat→Code→List (St→Option α)→(St→Option α)→(Nat→St→Option α)→(St→Option α)→List (Bool×Nat×(St→Option α))
 |[],c,_,k,kx,kr=>Fb E c k kx kr
 |n::p,c,ks,k,kx,kr=>match c with
  | .seq a b=>match n with
   |0=>((cL b).toList.map λi=>(false,i,λvp=>DP E b vp k kx kr))++(Fb E b k kx kr++gW E p a ks (fun σ'=>vX ((cL b).bind E.xS) σ' λvp=>DP E b vp k kx kr) kx kr)
   |_=>gW E p b ks k kx kr
  | .cond _ a b=>match n with
   |0=>gW E p a ks k kx kr
   |_=>gW E p b ks k kx kr
  | .block id c=>gW E p c ks k (λi σ'=>cond (Nat.beq i id) (k σ') (kx i σ')) kr
  | .loop b=>match ks with
   |κ::ks=>gW E p b ks κ kx kr
   |[]=>[]
  | .scope c=>gW E p c ks k kx kr
  |_=>[]
theorem ng{E:Env}{κJ κL:Nat→St→Option α}: ∀(p:List Nat) (c:Code) (ks:List (St→Option α)) (k:St→Option α) (kx:Nat→St→Option α) (kr:St→Option α) (σ:St),Hw E κJ κL (gW E p c ks k kx kr)→
  nX E κJ κL p c ks σ k kx kr=vq E p c ks σ k kx kr
 |[],c,ks,k,kx,kr,σ,h=>Wl c k kx kr σ h
 |n::p,c,ks,k,kx,kr,σ,h=>by
  cases c with
  |seq a b=>
   cases n with
   |zero=>
    simp only[nX,vq,gW]at h ⊢
    obtain⟨h1,h2⟩:=Hw.app h
    obtain⟨h2,h3⟩:=Hw.app h2
    rw[show(λvp=>Wk E κJ κL b vp k kx kr)=λvp=>DP E b vp k kx kr from funext λvp=>Wl b k kx kr vp h2,af5 h1]
    exact ng p a ks _ kx kr σ h3
   |succ n=>simp only[nX,vq,gW]at h ⊢;exact ng p b ks k kx kr σ h
  |cond x a b=>
   cases n with
   |zero=>simp only[nX,vq,gW]at h ⊢;exact ng p a ks k kx kr σ h
   |succ n=>simp only[nX,vq,gW]at h ⊢;exact ng p b ks k kx kr σ h
  |block id x=>simp only[nX,vq,gW]at h ⊢;exact ng p x ks k _ kr σ h
  |loop b=>
   cases ks with
   |nil=>simp only[nX,vq]
   |cons κ ks=>simp only[nX,vq,gW]at h ⊢;exact ng p b ks κ kx kr σ h
  |scope x=>simp only[nX,vq,gW]at h ⊢;exact ng p x ks k kx kr σ h
  |_=>simp only[nX,vq]
def Fc(fn:Func):Code:=fn.body.getD .skip
def MT(E:Env)(fn:Func)(args res:List AM):St→Option (HP res):=fun σ=>JL E res (fn.results.toList.map .inl++yD args 0) σ some
def nox:Nat→St→Option α:=λ_ _=>none
def ayS:St→Option α:=λ_=>none
def atF(E:Env)(fn:Func)(args res:List AM)(p:List Nat)(ks:List (St→Option (HP res)))(σ:St):Option (HP res):=
 vq E p (Fc fn) ks σ (MT E fn args res) nox (MT E fn args res)
def atQ(E:Env)(fn:Func)(args res:List AM)(κJ κL:Nat→St→Option (HP res))(p:List Nat)(ks:List (St→Option (HP res)))(σ:St):Option (HP res):=
 nX E κJ κL p (Fc fn) ks σ (MT E fn args res) nox (MT E fn args res)
def ZZ(E:Env)(fn:Func)(args res:List AM)(p:List Nat)(ks:List (St→Option (HP res))):List (Bool×Nat×(St→Option (HP res))):=
 gW E p (Fc fn) ks (MT E fn args res) nox (MT E fn args res)
theorem arN{E:Env}{fn:Func}{args res:List AM}{κJ κL:Nat→St→Option (HP res)}{p:List Nat}{ks:List (St→Option (HP res))}(g:List (St→Option (HP res)))(h:wx E κJ κL (ZZ E fn args res p ks)=g.map λf=>(f,f))(σ:St):
 atF E fn args res p ks σ=atQ E fn args res κJ κL p ks σ:=(ng p _ ks _ _ _ σ (ahN g h)).symm
theorem ahP{E:Env}{fn:Func}{args res:List AM}(hb:fn.body.isSome=true)(x:HP args):PK E fn args res x=atF E fn args res [] [] (entry args x 0 S0):=by
 unfold PK atF Fc
 cases h:fn.body with
 |none=>rw[h]at hb;cases hb
 |some c=>rfl
def lpF(E:Env)(fn:Func)(args res:List AM)(c:List (Nat×CM))(p:List Nat)(ks:List (St→Option (HP res)))(n:Nat):St→Option (HP res):=
 Cc (some c) (fun σ kn=>atF E fn args res p (ks++[kn]) σ) n
theorem Wm(E:Env)(fn:Func)(args res:List AM)(c:List (Nat×CM))(p:List Nat)(ks:List (St→Option (HP res)))(n:Nat)(σ:St):
 lpF E fn args res c p ks (n+1) σ=atF E fn args res p (ks++[fun σ'=>vX (some c) σ' (lpF E fn args res c p ks n)]) σ:=rfl
def Wn{β:Type}(κ:Nat→β):List (Nat×β)→Prop
 |[]=>True
 |q::r=>κ q.1=q.2∧Wn κ r
def TC{β:Type}:List (β×β)→Prop
 |[]=>True
 |q::r=>q.1=q.2∧TC r
theorem TC.mem{β:Type}: ∀{l:List (β×β)},TC l→ ∀p∈l,p.1=p.2
 |q::r,h,p,hp=>by
  rcases aW.1 hp with rfl|hp
  ·exact h.1
  ·exact TC.mem h.2 p hp
theorem amt{β:Type}(d:β): ∀(l:List (Nat×β)),(l.map (·.1)).Nodup→ ∃κ:Nat→β,Wn κ l
 |[],_=>⟨λ_=>d,trivial⟩
 |q::r,h=>by
  rw[bV,zw]at h
  obtain⟨κ,hκ⟩:=amt d r h.2
  refine⟨λi=>if i=q.1 then q.2 else κ i,by simp,?_⟩
  have key: ∀(r':List (Nat×β)),(∀p∈r',p∈r)→Wn κ r'→Wn (λi=>if i=q.1 then q.2 else κ i) r':=by
   intro r'
   induction r' with
   |nil=>intros;trivial
   |cons p r' ih=>
    intro hm ha
    refine⟨?_,ih (λp' Ry=>hm p' (aZ _ Ry)) ha.2⟩
    have jB:p.1≠q.1:=λe=>h.1 (e▸eM (hm p (bk ..)))
    show(if p.1=q.1 then q.2 else κ p.1)=p.2
    rw[ah jB]
    exact ha.1
  exact key r (λ_ h=>h) hκ
theorem awC{β:Type}(d:β)(l:List (Nat×β)){ks:List Nat}(h:l.map (·.1)=ks)(hd:ks.Nodup): ∃κ:Nat→β,Wn κ l:=amt d l (h▸hd)
theorem at_eq(E:Env)(fn:Func)(args res:List AM){κJ κL:Nat→St→Option (HP res)}{p:List Nat}{ks:List (St→Option (HP res))}{l:List ((St→Option (HP res))×(St→Option (HP res)))}(h:wx E κJ κL (ZZ E fn args res p ks)=l)(hl:TC l)(σ:St):
 atF E fn args res p ks σ=atQ E fn args res κJ κL p ks σ:=(ng p _ ks _ _ _ σ (by unfold Hw;rw[show wx E κJ κL (gW E p (Fc fn) ks (MT E fn args res) nox (MT E fn args res))=l from h];exact hl.mem)).symm
end VM
end
section
namespace VM
open Go Go.RowKit
variable{P:Program}
def MU(i:Nat):List (Nat×Ty)→Option Ty
 |[]=>none
 |q::r=>cond (Nat.beq i q.1) (some q.2) (MU i r)
theorem Iq{i:Nat}{τ:Ty}: ∀{l:List (Nat×Ty)},MU i l=some τ→(i,τ)∈l
 |q::r,h=>by
  unfold MU at h
  cases hb:Nat.beq i q.1<;>rw[hb]at h
  ·exact aZ _ (Iq h)
  ·cases h;rw[fV hb];exact bk ..
structure Fe(P:Program)(tab:List (Nat×Ty)):Prop where
 ok:amp P tab=true
 mixed:P.follows .mixedOrders=true
theorem TD{E:Env}(hE:tv P E)(arP:E.io=[]){f:FuncId}{fn:Func}(hf:P.funcs[f]? =some fn)(τs:List Ty)
  (hc:(Nat.beq E.nt fn.ntmps&&Nat.ble τs.length E.nt)=true) {w:World} {vs:List Value} {x:HP (τs.map .v)} (hA:jI w (λ_=>False) (τs.map .v) x vs)
  (h:PK E fn (τs.map .v) [.v .bool] x=some true):Calls P f vs.toArray w λe w'=>e= .returned (.bool true)∧Below w.heap.size w w':=by
 rw[bR]at hc
 have hnt:=fV hc.1
 have hlen:=Ek hc.2
 have hh: ∀(τs:List Ty) (vs:List Value),dR (τs.map .v) vs=[]:=by
  intro τs
  induction τs with
  |nil=>intro vs;cases vs<;>rfl
  |cons τ τs ih=>intro vs;cases vs with
   |nil=>rfl
   |cons v vs=>simp[dR,da,ih]
 have hi: ∀(τs:List Ty) (vs:List Value),fj (τs.map .v) vs=[]:=by
  intro τs
  induction τs with
  |nil=>intro vs;cases vs<;>rfl
  |cons τ τs ih=>intro vs;cases vs with
   |nil=>rfl
   |cons v vs=>simp[fj,AM.iC,ih]
 refine(Il (M0:=λ_=>False) (vs:=vs) hE hf hnt (λi m hm vd=> ?_) (λi hi=>by rw[arP]at hi;cases hi) (by rw[cv];rw[←hnt];exact hlen) (λb hb=>hb.elim) (by rw[hh];simpa using hA) (by rw[hh];exact List.nodup_nil) (λb _ hb=>hb) h).mono ?_
 ·rw[pW]at hm
  obtain⟨τ,_,rfl⟩:=zn.1 hm
  cases vd
 ·rintro e w' ⟨v,rfl,us,M',rfl,Vk,hL,_,_⟩
  rw[hh]at hL
  rw[hi]at Vk
  simp only[RR]at Vk
  rcases Vk with⟨p,G6,h1,_⟩|⟨v,Lt,_,_,rfl,hv,rfl,_⟩
  ·cases h1
  ·refine⟨?_,hL.os,hL.tape,hL.output,hL.size,λb hb=>hL.frame b hb (by simp)⟩
   have:v= .bool true:=by
    simp only[A1,V,Ty.isAgg,iW,eT,Rd,fh,eS]at hv
    exact hv
   rw[this];rfl
def Wo(P:Program):List Ty→List TypeId→Bool
 |[],[]=>true
 |τ::τs,t::ts=>(tz P τ (.inl t)&&τ.pR)&&((P.readableRec t&&decide (t<P.types.size))&&Wo P τs ts)
 |_,_=>false
theorem Ka: ∀{τs:List Ty} {ts:List TypeId},Wo P τs ts=true→τs.length=ts.length∧ ∀(j:Nat) τ t,τs[j]? =some τ→ts[j]? =some t→(kI P τ t∧τ.pR=true∧P.readableRec t=true∧t<P.types.size)
 |[],[],_=>⟨rfl,λj τ t h=>by simp at h⟩
 |τ::τs,t::ts,h=>by
  simp only[Wo,bR]at h
  obtain⟨⟨h1,h2⟩,⟨h3,h4⟩,h5⟩:=h
  obtain⟨hl,ih⟩:=Ka h5
  refine⟨by simp[hl],λj τ' t' ha hb=> ?_⟩
  cases j with
  |zero=>
   simp only[LS,iv]at ha hb
   subst ha;subst hb
   exact⟨gV h1,h2,h3,bx h4⟩
  |succ j=>exact ih j τ' t' (by simpa using ha) (by simpa using hb)
 |[],_::_,h|_::_,[],h=>by simp[Wo]at h
theorem Wp{H:Type}{enc:TypeId×Value→H}{w:World}{fn:Func}{args:Array Value}{ds:List (DataW H)}{ps:List MemPlace}{r:Reach}{b0:Nat}(laid:laidOutB P=true)(τs:List Ty)
  (hA:DataW.TrodAll enc P w 0 (λ_=>true) true fn.params.toList args.toList ds ps) (EP:Wo P τs fn.params.toList=true)
  (hv: ∀(j:Nat) t v,fn.params[j]? =some t→args[j]? =some v→Value.okWide P w r b0 t v):
  (∃x:HP (τs.map .v),jI w (λ_=>False) (τs.map .v) x args.toList∧WFs τs x)∧ ∀w',Below w.heap.size w w'→ ∃G6,DataW.TrodAll enc P w' 0 (λb=>decide (b<w.heap.size)) true fn.params.toList args.toList ds G6:=
 Ip laid hA (Ka EP).1 (Ka EP).2 (λj t v h h'=>hv j t v (by rw[gR]at h;exact h) (by rw[gR]at h';exact h'))
end VM
end
