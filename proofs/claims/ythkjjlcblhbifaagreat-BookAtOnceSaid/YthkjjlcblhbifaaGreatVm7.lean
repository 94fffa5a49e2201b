/- A part of the proof of BookAtOnce of layer 18: a machine that reads a function of the program as an equation between values. -/
import Derived.Test.YthkjjlcblhbifaaGreatVm6
import Derived.Laws.StructEq
import Derived.OpenShut
import Derived.ChangeShapes
import Derived.ChangeMaps5
import Derived.RowKit
import Derived.ChangeOld
import Derived.Carry
import Derived.Below
import Derived.Test.YthkjjlcblhbifaaGreatVm0
set_option linter.all false
open List renaming length→ℓ
noncomputable section
section
namespace VM
open Go
variable{P:Program}{E:Env}{o:Oper}{a:Act}{w:World}{M:Nat→Prop}{ν:Nat→Value}{σ:St}{c:Ctx}{α:Type}{r:α}{next:Act→World→Prop}{Q:Exit→Act→World→Prop}
theorem R1{m:AM}{ms:List AM}(x:HP (m::ms))(i:Nat)(σ:St):entry (m::ms) x i σ=entry ms (tV x) (i+1) (RK m (qK x) i σ):=by
 cases ms with
 |nil=>simp[entry,qK]
 |cons n ms=>simp[entry,qK,tV]
theorem Core.xr{tm:Array Value}(h:Core c σ tm w M ν){id:Nat}{v:Value}{e:bp}(bg:σ.H id=none)(U3:ER w M v e)
  (hd: ∀b,fC v=some b→ ∀i e',σ.H i=some e'→e'.mut→fC (ν i)≠some b) (hn: ∀b,fC v=some b→c.B≤b∨c.may b) (ho: ∀b e0 l0,e= .own e0 l0→fC v=some b→ ¬c.M0 b)
  (qA: ∀τ x p j,e= .gg τ x p j→ca σ.H id (some e) j≠none∧ ∃b,v= .pointer (some ⟨b,0,none⟩)∧w.cell? ⟨b,cy p τ,none⟩=some (updν ν id v j):=by intro _ _ _ _ h;cases h):
  Core c ⟨σ.T,ca σ.H id (some e)⟩ tm w M (updν ν id v):=by
 have hm:=Mem.xr h.mem (id:=id) (v:=v) (e:=e) (λe' ub=>by rw[bg]at ub;cases ub) U3 hd hn ho (.inl bg) qA
 refine h.tr ⟨hm,.refl w M,⟨λi e1 hi=> ?_,λi hi=> ?_⟩⟩
 ·have ch:i≠id:=λe=>by rw[e,bg]at hi;cases hi
  exact⟨e1,by rw[az _ _ ch];exact hi,.refl e1⟩
 ·have ch:i≠id:=λe=>hi (e▸bg)
  simp[updν,ch]
theorem Core.put{tm:Array Value}(h:Core c σ tm w M ν){d:Nat}{x:bA}(hx:VR w M σ.H ν x (tm.getD d undef)):Core c (σ.put d x) tm w M ν:=by
 refine⟨h.mem,λi=> ?_⟩
 by_cases hi:i=d
 ·subst hi;rw[vk];exact hx
 ·rw[Bc _ _ hi];exact h.tmp i
theorem DS{tm:Array Value}: ∀{ms:List AM} {x:HP ms} {vs:List Value} {i:Nat} {σ:St} {ν:Nat→Value} {used:List Nat},Core c σ tm w M ν→kD w M ms x vs→(∀j v,vs[j]? =some v→tm.getD (i+j) undef=v)→
  (∀j,16*i≤j→σ.H j=none)→(∀j e b,σ.H j=some e→e.mut→fC (ν j)=some b→b∈used)→(used++eA ms vs).Nodup→(∀b∈eA ms vs,c.may b)→(∀b,c.may b→ ¬c.M0 b)→
  ∃ν',Core c (entry ms x i σ) tm w M ν'
 |[],x,vs,i,σ,ν,used,h,_,_,_,_,_,_,_=>⟨ν,h⟩
 |m::ms,x,vs,i,σ,ν,used,h,hA,Ou,jx,GX,wD,R2,Gp=>by
  rw[R1]
  simp only[kD]at hA
  obtain⟨v,Nj,rfl,h1,h2⟩:=hA
  have hv:tm.getD i undef=v:=by simpa using Ou 0 v rfl
  have Jx: ∀j u,Nj[j]? =some u→tm.getD (i+1+j) undef=u:=λj u hj=>by
   have:=Ou (j+1) u (by simpa using hj)
   rwa [show i+(j+1)=i+1+j from by omega]at this
  have bg:σ.H (16*i+15)=none:=jx _ ω
  have ako:eA (m::ms) (v::Nj)=dw m v++eA ms Nj:=rfl
  rw[ako]at wD R2
  have oV: ∀b,b∈dw m v→ ∀j e',σ.H j=some e'→e'.mut→fC (ν j)≠some b:=λb hb j e' hj jv fa=>
   ki wD (GX j e' b hj jv fa) (cU _ hb)
  have wg: ∀{σ':St} {ν':Nat→Value},Core c σ' tm w M ν'→(∀j,16*(i+1)≤j→σ'.H j=none)→(∀j e b,σ'.H j=some e→e.mut→fC (ν' j)=some b→b∈used++dw m v)→ ∃ν'',Core c (entry ms (tV x) (i+1) σ') tm w M ν'':=
   λh' zx Vf=>DS h' h2 Jx zx Vf (by rw[bE];exact wD) (λb hb=>R2 b (dz _ hb)) Gp
  have Om: ∀(e:bp) (v':Value),v'=v→(∀b,fC v=some b→b∈dw m v)→(∀j,16*(i+1)≤j→ca σ.H (16*i+15) (some e) j=none)∧
    (∀j e1 b,ca σ.H (16*i+15) (some e) j=some e1→e1.mut→fC (updν ν (16*i+15) v' j)=some b→b∈used++dw m v):=by
   rintro e v' rfl hb
   refine⟨λj hj=>by rw[az _ _ ω];exact jx j ω,λj e1 b hj jv fa=> ?_⟩
   by_cases zJ:j=16*i+15
   ·subst zJ
    simp only[updν,g8]at fa
    exact dz _ (hb b fa)
   ·rw[az _ _ zJ]at hj
    simp only[updν,zJ,fG]at fa
    exact cU _ (GX j e1 b hj jv fa)
  cases m with
  |v τ=>
   refine wg (σ':=σ.put i (.val τ (qK x))) (h.put ?_) (λj hj=>jx j ω) (λj e b hj jv fa=>cU _ (GX j e b hj jv fa))
   simp only[VR,hv];exact h1
  |fn f τ=>
   refine wg (σ':=σ.put i (.NL f (qz τ (qK x)))) (h.put ?_) (λj hj=>jx j ω) (λj e b hj jv fa=>cU _ (GX j e b hj jv fa))
   rw[hv]
   simp only[A1,VR]at h1 ⊢
   obtain⟨us,hu,Ry⟩:=h1
   exact⟨us,hu,jN.free Ry⟩
  |own e=>
   have xf: ∀b,fC v=some b→b∈dw (.own e) v:=λb hb=>by simp[dw,hb]
   have hc:=h.xr bg (v:=v) (e:= .own e (qK x)) h1 (λb hb=>oV b (xf b hb)) (λb hb=> .inr (R2 b (cU _ (xf b hb)))) (λb _ _ _ hb=>Gp b (R2 b (cU _ (xf b hb))))
   obtain⟨zx,Vf⟩:=Om (.own e (qK x)) v rfl xf
   refine wg (σ':=(σ.put i (.ref (16*i+15))).kk (16*i+15) (some (.own e (qK x)))) (ν':=updν ν (16*i+15) v) (hc.put (d:=i) (x:= .ref (16*i+15)) ?_) zx Vf
   simp only[VR,hv]
   exact⟨by rw[ay];simp,by simp[updν]⟩
  |lo e=>
   have xf: ∀b,fC v=some b→b∈dw (.lo e) v:=λb hb=>by simp[dw,hb]
   have hc:=h.xr bg (v:=v) (e:= .own e (qK x)) h1 (λb hb=>oV b (xf b hb)) (λb hb=> .inr (R2 b (cU _ (xf b hb)))) (λb _ _ _ hb=>Gp b (R2 b (cU _ (xf b hb))))
   obtain⟨zx,Vf⟩:=Om (.own e (qK x)) v rfl xf
   refine wg (σ':=(σ.put i (.ref (16*i+15))).kk (16*i+15) (some (.own e (qK x)))) (ν':=updν ν (16*i+15) v) (hc.put (d:=i) (x:= .ref (16*i+15)) ?_) zx Vf
   simp only[VR,hv]
   exact⟨by rw[ay];simp,by simp[updν]⟩
  |io τ=>
   have xf: ∀b,fC v=some b→b∈dw (.io τ) v:=λb hb=>by simp[dw,hb]
   have hc:=h.xr bg (v:=v) (e:= .obj τ (qK x)) h1 (λb hb=>oV b (xf b hb)) (λb hb=> .inr (R2 b (cU _ (xf b hb)))) (λb _ _ he=>by cases he)
   obtain⟨zx,Vf⟩:=Om (.obj τ (qK x)) v rfl xf
   refine wg (σ':=(σ.put i (.jd (16*i+15) [])).kk (16*i+15) (some (.obj τ (qK x)))) (ν':=updν ν (16*i+15) v) (hc.put (d:=i) (x:= .jd (16*i+15) []) ?_) zx Vf
   simp only[A1,ER]at h1
   obtain⟨b,cs,t,XY,_⟩:=h1
   simp only[VR,hv]
   exact⟨_,ay _ _ _,trivial,b,by simp[updν,XY],XY⟩
  |jd τ=>
   refine wg (σ':=σ.put i (.rR τ (qK x))) (h.put ?_) (λj hj=>jx j ω) (λj e b hj jv fa=>cU _ (GX j e b hj jv fa))
   rw[hv]
   simp only[A1,VR]at h1 ⊢
   exact h1
  |ptr τ=>
   refine wg (σ':=σ) h (λj hj=>jx j ω) (λj e b hj jv fa=>cU _ (GX j e b hj jv fa))
  |sp τ n e=>
   refine wg (σ':=σ) h (λj hj=>jx j ω) (λj e b hj jv fa=>cU _ (GX j e b hj jv fa))
def vo(tm:Array Value):ResultVar→Sem Value
 | .tmp t=>pure (tm.getD t undef)
 | .cell x t=>do loadVar t (←asAddr (tm.getD x undef))
def CC(P:Program)(tm:Array Value)(w:World)(rv:ResultVar)(u:Value):Prop:=(vo tm rv).run P w= .ok u w
def Kc(P:Program)(tm:Array Value)(w:World):List (ResultVar ⊕ Nat)→List Value→List Value→Prop
 |[],us,ps=>us=[]∧ps=[]
 | .inl rv::rs,us,ps=> ∃u EN,us=u::EN∧CC P tm w rv u∧Kc P tm w rs EN ps
 | .inr i::rs,us,ps=> ∃p I8,ps=p::I8∧p=tm.getD i undef∧Kc P tm w rs us I8
theorem Core.acb{tm:Array Value}{H1:Nat→Option bp}{M1:Nat→Prop}(h: ∀i,VR w M σ.H ν (σ.T i) (tm.getD i undef))(k:fO w M w M1)(g:tS σ.H ν H1 ν): ∀i,VR w M1 H1 ν (σ.T i) (tm.getD i undef):=
 λi=>VR.bZ k g (h i)
theorem DT(hE:EnvTy P E){tm:Array Value}{H0 Hq:Nat→Option bp}{M1:Nat→Prop}{uo uf:jr}{io:List (Nat×AM)}{hs:List Nat}(h:kE c w M ν H0 σ.H Hq M1 uo uf io hs)(ht: ∀i,VR w M1 σ.H ν (σ.T i) (tm.getD i undef))
  {m:AM} {rs:ResultVar ⊕ Nat} {k:m.den→St→Option α} (hk:J3 E m rs σ k=some r):
  ∃y σ' Nd Nf I0 Xl M2 u,k y σ'=some r∧σ'.T=σ.T∧kE c w M ν H0 σ'.H Xl M2 Nd Nf I0 (hs++dw m u)∧fO w M1 w M2∧tS σ.H ν σ'.H ν∧A1 w M2 m y u∧
   ((m.iQ=false∧m.abW=false∧ ∃rv,rs= .inl rv∧CC P tm w rv u)∨(m.iQ=true∧ ∃i,rs= .inr i∧u=tm.getD i undef)):=by
 unfold J3 at hk
 split at hk
 ·
  rename_i τ t k
  obtain⟨y,rd,ups,hk,hy⟩:=Fs h.mem (ht t) hk
  have R3:CC P tm w (.tmp t) (tm.getD t undef):=by simp[CC,vo]
  rcases hy with⟨rfl,hV⟩|⟨id,e,l,rfl,bg,hV⟩
  ·exact⟨y,σ,uo,uf,io,Hq,M1,_,hk,rfl,by simpa [dw]using h,.refl w M1,.refl _ ν,hV,.inl ⟨rfl,rfl,_,rfl,R3⟩⟩
  ·obtain⟨M2,hA,hK,Ly⟩:=h.freeze bg
   exact⟨y,_,uo,_,io,Hq,M2,_,hk,rfl,(by simp only[dw,cw];exact hA),hK,.upd bg ⟨rfl,rfl⟩,hV M2 Ly,.inl ⟨rfl,rfl,_,rfl,R3⟩⟩
 ·
  rename_i τ x t k
  split at hk
  ·rename_i τ' DH
   obtain⟨e1,TL⟩:=dU hk
   clear hk
   subst e1
   obtain⟨υ,z,rd,hk,b,off,cs,hv,pt,kB⟩:=DG h.mem (ht x) TL
   obtain⟨e2,Vj⟩:=bw hk
   subst e2
   refine⟨_,σ,uo,uf,io,Hq,M1,cg _ cs,Vj,rfl,by simpa [dw]using h,.refl w M1,.refl _ ν,V.cg kB,.inl ⟨rfl,rfl,_,rfl,?_⟩⟩
   simp only[CC,vo,hv]
   simp[asAddr,DE (hE.ty t _ DH) pt kB]
  ·cases hk
 ·
  rename_i e t k
  have hv:=ht t
  have R3:CC P tm w (.tmp t) (tm.getD t undef):=by simp[CC,vo]
  split at hk
  ·rename_i hT
   rw[hT]at hv
   obtain⟨ad,hv⟩:=VR.emp.1 hv
   have hb:fC (.slice ad 0 0)=none:=by cases ad<;>simp[fC]
   exact⟨[],σ,uo,uf,io,Hq,M1,_,hk,rfl,by rw[hv];simpa [dw,hb]using h,.refl w M1,.refl _ ν,by rw[hv];simp only[A1,ER];exact .inl ⟨trivial,ad,rfl⟩,.inl ⟨rfl,rfl,_,rfl,R3⟩⟩
  ·rename_i id hT
   rw[hT]at hv
   simp only[VR]at hv
   split at hk
   ·rename_i e' l bg
    obtain⟨e1,hk⟩:=bw hk
    cases e1
    refine⟨_,_,_,uf,io,_,M1,ν id,hk,rfl,(by simp only[dw];exact h.hand bg),.refl w M1,.upd bg (bp.kg _),h.mem.jO id _ bg,.inl ⟨rfl,rfl,_,rfl,by rw[←hv.2];exact R3⟩⟩
   ·cases hk
  ·cases hk
 ·
  rename_i τ i k
  have hv:=ht i
  split at hk
  ·rename_i id hT
   rw[hT]at hv
   split at hk
   ·rename_i υ z bg
    obtain⟨e1,hk⟩:=bw hk
    subst e1
    simp only[VR]at hv
    obtain⟨e,he,lR⟩:=hv
    rw[bg]at he;cases he
    simp only[AR]at lR
    obtain⟨_,b,hb,hv⟩:=lR
    have XY:tm.getD i undef=ν id:=by rw[hv,hb];rfl
    refine⟨_,_,uo,uf,_,_,M1,ν id,hk,rfl,(by simp only[dw];exact h.aj9 bg),.refl w M1,.upd bg (bp.kg _),h.mem.jO id _ bg,.inr ⟨rfl,i,rfl,XY.symm⟩⟩
   ·cases hk
  ·cases hk
 ·
  rename_i e i k
  have hv:=ht i
  split at hk
  ·rename_i id hT
   rw[hT]at hv
   simp only[VR]at hv
   split at hk
   ·rename_i e' l bg
    obtain⟨e1,hk⟩:=bw hk
    cases e1
    refine⟨_,_,uo,uf,_,_,M1,ν id,hk,rfl,(by simp only[dw];exact h.air bg),.refl w M1,.upd bg (bp.kg _),h.mem.jO id _ bg,.inr ⟨rfl,i,rfl,hv.2.symm⟩⟩
   ·cases hk
  ·cases hk
 ·
  rename_i τ t k
  have hv:=ht t
  have R3:CC P tm w (.tmp t) (tm.getD t undef):=by simp[CC,vo]
  split at hk
  ·rename_i id hT
   rw[hT]at hv
   split at hk
   ·rename_i υ z bg
    obtain⟨e1,hk⟩:=bw hk
    subst e1
    simp only[VR]at hv
    obtain⟨e,he,lR⟩:=hv
    rw[bg]at he;cases he
    simp only[AR]at lR
    obtain⟨_,b,hb,hv⟩:=lR
    have XY:tm.getD t undef=ν id:=by rw[hv,hb];rfl
    refine⟨_,_,uo,uf,_,_,M1,ν id,hk,rfl,(by simp only[dw];exact h.aj9 bg),.refl w M1,.upd bg (bp.kg _),h.mem.jO id _ bg,.inl ⟨rfl,rfl,_,rfl,by rw[←XY];exact R3⟩⟩
   ·cases hk
  ·cases hk
 ·
  rename_i τ n e x t k
  split at hk
  ·rename_i τ' id DH hT
   obtain⟨e1,TL⟩:=dU hk
   clear hk
   subst e1
   have hv:=ht x
   rw[hT]at hv
   split at TL
   ·rename_i υ z q j bg
    obtain⟨hpq,Vj⟩:=cz TL
    clear TL
    have:=zy hpq
    subst this
    obtain⟨e2,hk3⟩:=bw Vj
    clear Vj
    subst e2
    split at hk3
    ·rename_i e' l hj
     obtain⟨e3,hk4⟩:=bw hk3
     clear hk3
     cases e3
     obtain⟨y,hk5,rY,_⟩:=Gw hk4
     clear hk4
     obtain⟨b,cs,te,ka,e0,hb,hg,hM,hr,tU,h1,hq,eT,hj0⟩:=h.mem.linked bg
     simp only[VR]at hv
     obtain⟨e1,Gy,lR⟩:=hv
     rw[bg]at Gy;cases Gy
     simp only[AR]at lR
     obtain⟨hi,b',fa,hu⟩:=lR
     rw[hb]at fa;cases fa
     have hl:cs.toList.length=υ.size:=by rw[tU,eH (by simp only[aJ];omega),hr.length]
     have apk:cs.toList=eN ka (gq υ n) [ν j]:=by simpa [cy]using tU
     have pt:At w b 0 cs.toList:=by
      have:=At.of_block hg 0 cs.toList.length
      rw[cV,gN]at this
      exact this
     have hh:=yA (w:=w) (M:=M1) (e:=e) (rn hq) hr apk
     have hA:=h.hand hj
     rw[←hh.1]at hA
     refine⟨y,_,_,_,_,_,M1,.agg cs,hk5,rfl,hA,.refl w M1,.upd hj (bp.kg _),?_,.inl ⟨rfl,rfl,_,rfl,?_⟩⟩
     ·simp only[A1]
      exact⟨cs,ka,ν j,l,z,rfl,rn hq,hr,apk,h.mem.jO j _ hj,rY⟩
     ·simp only[CC,vo,hu]
      simp[asAddr]
      exact DF (P:=P) (hE.ty t _ DH) (Gz (rn hq)) pt hl
    ·cases hk3
   ·cases TL
  ·cases hk
 ·cases hk
theorem GY(hE:EnvTy P E){tm:Array Value}{H0:Nat→Option bp}: ∀{ms:List AM} {rs:List (ResultVar ⊕ Nat)} {σ:St} {Hq:Nat→Option bp} {M1:Nat→Prop} {uo uf:jr} {io:List (Nat×AM)} {hs:List Nat} {K:HP ms→Option α},
  kE c w M ν H0 σ.H Hq M1 uo uf io hs→(∀i,VR w M1 σ.H ν (σ.T i) (tm.getD i undef))→Ls E ms rs σ K=some r→
  ∃y us ps H2 Nd Nf I0 Xl M2,K y=some r∧kE c w M ν H0 H2 Xl M2 Nd Nf I0 (hs++bH ms us ps)∧fO w M1 w M2∧RR w M2 ms y us ps∧Kc P tm w rs us ps
 |[],[],σ,Hq,M1,uo,uf,io,hs,K,h,ht,hk=>⟨(),[],[],σ.H,uo,uf,io,Hq,M1,hk,by simpa [bH]using h,.refl w M1,⟨rfl,rfl⟩,⟨rfl,rfl⟩⟩
 |[m],[q],σ,Hq,M1,uo,uf,io,hs,K,h,ht,hk0=>by
  obtain⟨y,σ',Nd,Nf,I0,Xl,M2,u,hk,hT,hA,hK,hG,hy,hu⟩:=DT hE h ht (hk0:J3 E m q σ _=some r)
  clear hk0
  rcases hu with⟨h1,h2,rv,rfl,hv⟩|⟨h1,i,rfl,hv⟩
  ·refine⟨y,[u],[],_,_,_,_,_,M2,hk,by simpa [bH,h1]using hA,hK,?_,?_⟩
   ·simp only[RR];exact .inr ⟨u,[],h1,h2,rfl,hy,by simp⟩
   ·simp only[Kc];exact⟨u,[],rfl,hv,by simp⟩
  ·refine⟨y,[],[u],_,_,_,_,_,M2,hk,by simpa [bH,h1]using hA,hK,?_,?_⟩
   ·simp only[RR];exact .inl ⟨u,[],h1,rfl,hy,by simp⟩
   ·simp only[Kc];exact⟨u,[],rfl,hv,by simp⟩
 |m::n::ms,q::rs,σ,Hq,M1,uo,uf,io,hs,K,h,ht,hk0=>by
  obtain⟨y,σ',Nd,Nf,I0,Xl,M2,u,TL,hT,hA,hK,hG,hy,hu⟩:=DT hE h ht (hk0:J3 E m q σ _=some r)
  obtain⟨ys,us,ps,H3,uo3,uf3,io3,Hq3,M3,hk,hA3,hK3,hys,hrs⟩:=GY (ms:=n::ms) hE hA (λi=>by rw[hT];exact Core.acb ht hK hG i) TL
  have Ka:A1 w M3 m y u:=A1.xq hK3 (λb hb=>⟨rfl,hA3.hM b (cU _ (dz _ hb))⟩) hy
  clear hk0
  rcases hu with⟨h1,h2,rv,rfl,hv⟩|⟨h1,i,rfl,hv⟩
  ·refine⟨(y,ys),u::us,ps,H3,uo3,uf3,io3,Hq3,M3,hk,?_,hK.trans hK3,?_,?_⟩
   ·have:bH (m::n::ms) (u::us) ps=dw m u++bH (n::ms) us ps:=by rw[bH];simp[h1]
    rw[this,←bE];exact hA3
   ·rw[RR];exact .inr ⟨u,us,h1,h2,rfl,Ka,hys⟩
   ·simp only[Kc];exact⟨u,us,rfl,hv,hrs⟩
  ·refine⟨(y,ys),us,u::ps,H3,uo3,uf3,io3,Hq3,M3,hk,?_,hK.trans hK3,?_,?_⟩
   ·have:bH (m::n::ms) us (u::ps)=dw m u++bH (n::ms) us ps:=by rw[bH];simp[h1]
    rw[this,←bE];exact hA3
   ·rw[RR];exact .inl ⟨u,ps,h1,rfl,Ka,hys⟩
   ·simp only[Kc];exact⟨u,ps,rfl,hv,hrs⟩
 |[],_::_,_,_,_,_,_,_,_,_,_,_,hk=>by simp[Ls]at hk
 |[_],[],_,_,_,_,_,_,_,_,_,_,hk=>by simp[Ls]at hk
 |[_],_::_::_,_,_,_,_,_,_,_,_,_,_,hk=>by simp[Ls]at hk
 |_::_::_,[],_,_,_,_,_,_,_,_,_,_,hk=>by simp[Ls]at hk
theorem Kd{tm:Array Value}: ∀{rv:List ResultVar} {is:List (ResultVar ⊕ Nat)} {us ps:List Value},Kc P tm w (rv.map .inl++is) us ps→
  ∃us1 us2,us=us1++us2∧us1.length=rv.length∧(∀i (h:i<rv.length) (h':i<us1.length),CC P tm w rv[i] us1[i])∧Kc P tm w is us2 ps
 |[],is,us,ps,h=>⟨[],us,rfl,rfl,λi h=>by simp at h,h⟩
 |rv::rvs,is,us,ps,h=>by
  simp only[bQ,ky,Kc]at h
  obtain⟨u,EN,rfl,h1,h2⟩:=h
  obtain⟨us1,us2,rfl,hl,h3,h4⟩:=Kd h2
  refine⟨u::us1,us2,rfl,by simp[hl],λi hi nV=> ?_,h4⟩
  cases i with
  |zero=>exact h1
  |succ i=>exact h3 i (by simpa using hi) (by simpa using nV)
theorem vp{tm:Array Value}: ∀{ms:List AM} {vs:List Value} {i:Nat} {us ps:List Value},vs.length=ms.length→(∀j v m,vs[j]? =some v→ms[j]? =some m→m.iQ=true→tm.getD (i+j) undef=v)→Kc P tm w (yZ ms i) us ps→us=[]∧ps=fP ms vs
 |[],vs,i,us,ps,_,_,h=>by simp only[yZ,Kc]at h;simpa [fP]using h
 |m::ms,[],_,_,_,hl,_,_=>by simp at hl
 |m::ms,v::vs,i,us,ps,hl,Ou,h=>by
  have Jx: ∀j u m,vs[j]? =some u→ms[j]? =some m→m.iQ=true→tm.getD (i+1+j) undef=u:=λj u m hj hm wh=>by
   have:=Ou (j+1) u m (by simpa using hj) (by simpa using hm) wh
   rwa [show i+(j+1)=i+1+j from by omega]at this
  have I1:vs.length=ms.length:=by simpa using hl
  cases m with
  |io τ=>
   simp only[yZ,Kc]at h
   obtain⟨p,I8,rfl,hp,h⟩:=h
   obtain⟨h1,h2⟩:=vp I1 Jx h
   refine⟨h1,?_⟩
   have:=Ou 0 v (.io τ) rfl rfl rfl
   simp only[mA]at this
   simp[fP,AM.iQ,h2,hp,this]
  |lo e=>
   simp only[yZ,Kc]at h
   obtain⟨p,I8,rfl,hp,h⟩:=h
   obtain⟨h1,h2⟩:=vp I1 Jx h
   refine⟨h1,?_⟩
   have:=Ou 0 v (.lo e) rfl rfl rfl
   simp only[mA]at this
   simp[fP,AM.iQ,h2,hp,this]
  |v τ=>
   obtain⟨h1,h2⟩:=vp I1 Jx (show Kc P tm w (yZ ms (i+1)) us ps from h)
   exact⟨h1,by simp[fP,AM.iQ,h2]⟩
  |own τ=>
   obtain⟨h1,h2⟩:=vp I1 Jx (show Kc P tm w (yZ ms (i+1)) us ps from h)
   exact⟨h1,by simp[fP,AM.iQ,h2]⟩
  |fn f τ=>
   obtain⟨h1,h2⟩:=vp I1 Jx (show Kc P tm w (yZ ms (i+1)) us ps from h)
   exact⟨h1,by simp[fP,AM.iQ,h2]⟩
  |jd τ=>
   obtain⟨h1,h2⟩:=vp I1 Jx (show Kc P tm w (yZ ms (i+1)) us ps from h)
   exact⟨h1,by simp[fP,AM.iQ,h2]⟩
  |ptr τ=>
   obtain⟨h1,h2⟩:=vp I1 Jx (show Kc P tm w (yZ ms (i+1)) us ps from h)
   exact⟨h1,by simp[fP,AM.iQ,h2]⟩
  |sp τ n e=>
   obtain⟨h1,h2⟩:=vp I1 Jx (show Kc P tm w (yZ ms (i+1)) us ps from h)
   exact⟨h1,by simp[fP,AM.iQ,h2]⟩
theorem Ox{fn:Func}{tm:Array Value}{us:List Value}(hl:us.length=fn.results.toList.length)(h: ∀i (h:i<fn.results.toList.length) (h':i<us.length),CC P tm w fn.results.toList[i] us[i]):
  (results fn tm).run P w= .ok (xp us) w:=by
 have key: ∀(rs:List ResultVar) (us:List Value),us.length=rs.length→(∀i (h:i<rs.length) (h':i<us.length),CC P tm w rs[i] us[i])→(rs.mapM (vo tm)).run P w= .ok us w:=by
  intro rs
  induction rs with
  |nil=>intro us hl _;cases us with
   |nil=>simp
   |cons _ _=>simp at hl
  |cons r rs ih=>intro us hl h;cases us with
   |nil=>simp at hl
   |cons u us=>
    have h0:(vo tm r).run P w= .ok u w:=h 0 (by simp) (by simp)
    have h1:=ih us (by simpa using hl) (λi hi nV=>h (i+1) (by simpa using hi) (by simpa using nV))
    simp[AE,h0,h1]
 have h2:=key fn.results.toList us hl h
 have h3:results fn tm=(do let vs ←fn.results.mapM (vo tm);pure (if h:vs.size=1 then vs[0]else .tuple vs)):=by
  unfold results
  congr 1
 rw[h3,Array.mapM_eq_mapM_toList]
 simp only[Sem.run_bind,Sem.run_map,h2]
 unfold xp
 by_cases h3:us.length=1
 ·simp[h3]
 ·simp[h3]
theorem Ke(hE:tp P E){f:FuncId}{fn:Func}(hf:P.funcs[f]? =some fn)(hnt:E.nt=fn.ntmps){args res:List AM}(wh: ∀i m,args[i]? =some m→m.iQ=true→i∈E.io)(apn: ∀i∈E.io,i<args.length)(hlen:args.length≤fn.ntmps)
  {M0:Nat→Prop} {vs:List Value} {x:HP args} {y:HP res} (sW: ∀b,M0 b→b<w.heap.size) (hA:kD w (λb=>M0 b∨b∈eA args vs) args x vs) (wD:(eA args vs).Nodup) (xu: ∀b∈eA args vs,¬M0 b)
  (h:NT E fn args res x=some y):
  Calls P f vs.toArray w λe w'=> ∃v,e= .returned v∧ ∃us M',v=xp us∧RR w' M' res y us (fP args vs)∧Left w M0 (eA args vs) w' M'∧(bH res us (fP args vs)).Nodup∧ ∀b∈bH res us (fP args vs),¬M0 b:=by
 unfold NT at h
 split at h
 ·cases h
 rename_i cd hb
 simp only at h
 have hvl: ∀{ms:List AM} {x:HP ms} {vs:List Value} {M:Nat→Prop},kD w M ms x vs→vs.length=ms.length:=by
  intro ms
  induction ms with
  |nil=>intro x vs M h;simp only[kD]at h;subst h;rfl
  |cons m ms ih=>intro x vs M h;simp only[kD]at h;obtain⟨v,Nj,rfl,_,h⟩:=h;simp[ih h]
 have hvs:=hvl hA
 let tm:Array Value:=vs.toArray++Array.replicate (fn.ntmps-vs.toArray.size) undef
 have Ou: ∀j v,vs[j]? =some v→tm.getD j undef=v:=by
  intro j v hj
  have eT:j<vs.length:=(u2.1 hj).1
  rw[tb,Array.getElem?_append_left (by simpa using eT),FV,hj];rfl
 have qB:tm.size=fn.ntmps:=by simp[tm];omega
 have hhb: ∀{ms:List AM} {x:HP ms} {vs:List Value} {M:Nat→Prop},kD w M ms x vs→ ∀b∈eA ms vs,b<w.heap.size:=by
  intro ms
  induction ms with
  |nil=>intro x vs M h b hb;simp[eA]at hb
  |cons m ms ih=>
   intro x vs M h b hb
   simp only[kD]at h
   obtain⟨v,Nj,rfl,h1,h⟩:=h
   simp only[eA,bk]at hb
   rcases hb with hb|hb
   ·cases m with
    |v _=>simp[dw]at hb
    |fn _ _=>simp[dw]at hb
    |jd _=>simp[dw]at hb
    |own e=>
     simp only[dw,fp,A1,ER]at hb h1
     rcases h1 with⟨_,a,hv⟩|⟨b',cs,t,cap,hv,hg,_⟩
     ·rw[hv]at hb;cases a<;>simp[fC]at hb
     ·rw[hv]at hb
      simp only[fC]at hb
      split at hb
      ·cases hb
      ·simp only[iB]at hb;subst hb;exact lt_of_block hg
    |lo e=>
     simp only[dw,fp,A1,ER]at hb h1
     rcases h1 with⟨_,a,hv⟩|⟨b',cs,t,cap,hv,hg,_⟩
     ·rw[hv]at hb;cases a<;>simp[fC]at hb
     ·rw[hv]at hb
      simp only[fC]at hb
      split at hb
      ·cases hb
      ·simp only[iB]at hb;subst hb;exact lt_of_block hg
    |io τ=>
     simp only[dw,fp,A1,ER]at hb h1
     obtain⟨b',cs,t,hv,hg,_⟩:=h1
     rw[hv]at hb
     simp only[fC,iB]at hb;subst hb;exact lt_of_block hg
    |ptr τ=>
     simp only[dw,fp,A1,ER]at hb h1
     obtain⟨b',cs,t,hv,hg,_⟩:=h1
     rw[hv]at hb
     simp only[fC,iB]at hb;subst hb;exact lt_of_block hg
    |sp τ n e=>
     simp only[A1]at h1
     obtain⟨cs,ka,u,l,z,rfl,hq,hr,tU,hu,_⟩:=h1
     rw[(yA hq hr tU).1,fp]at hb
     simp only[ER]at hu
     rcases hu with⟨_,a,hv⟩|⟨b',cs,t,cap,hv,hg,_⟩
     ·rw[hv]at hb;cases a<;>simp[fC]at hb
     ·rw[hv]at hb
      simp only[fC]at hb
      split at hb
      ·cases hb
      ·simp only[iB]at hb;subst hb;exact lt_of_block hg
   ·exact ih h b hb
 let cx:Ctx:={B:=w.heap.size,w0:=w,M0:=M0,may:=λb=>b∈eA args vs,arg:=λi=>tm.getD i undef}
 have hm0:Mem cx (λ_=>none) w (λb=>M0 b∨b∈eA args vs) (λ_=>undef):=
  ⟨λi e hi=>(by cases hi),λi j e e' b _ hi=>(by cases hi),λi e b hi=>(by cases hi),λi e l b hi=>(by cases hi),λi τ x p j hi=>(by cases hi),λb hb=> .inl hb,λb hb=>hb.elim (sW b) (hhb hA b),λ_ _ _=>rfl,aH _,⟨sW,xu⟩,rfl,rfl,rfl⟩
 have Tz:Core cx ⟨λ_=> .any,λ_=>none⟩ tm w (λb=>M0 b∨b∈eA args vs) (λ_=>undef):=⟨hm0,λi=>by simp[VR]⟩
 obtain⟨ν',hc⟩:=DS (i:=0) (used:=[]) Tz hA (λj v hj=>by rw[gn];exact Ou j v hj) (λ_ _=>rfl) (λj e b hj=>by cases hj) (by simpa using wD) (λb hb=>hb) (λb hb=>xu b hb)
 have hI:Inv cx E (entry args x 0 ⟨λ_=> .any,λ_=>none⟩) {tmps:=tm,defers:=[]} w:=⟨⟨_,_,hc⟩,by rw[hnt,qB],rfl,λi _=>rfl⟩
 refine calls_of_wp hf hb ?_
 have apo: ∀(σ':St) (a':Act) (w':World),Ls E res (fn.results.toList.map .inl++yZ args 0) σ' some=some y→Inv cx E σ' a' w'→
   a'.defers=[]∧ ∃v,(results fn a'.tmps).run P w'= .ok v w'∧ ∃v',Ending.returned v= .returned v'∧ ∃us M',v'=xp us∧RR w' M' res y us (fP args vs)∧Left w M0 (eA args vs) w' M'∧(bH res us (fP args vs)).Nodup∧ ∀b∈bH res us (fP args vs),¬M0 b:=by
  rintro σ' a' w' hk ⟨⟨M1,ν1,EL⟩,Nh,hd1,xt⟩
  obtain⟨y',us,ps,H2,uo,uf,io,Hq,M2,hy,Yr,hK,Xm,hRs⟩:=GY (P:=P) hE.toEnvTy (kE.start EL.mem) EL.tmp hk
  cases hy
  obtain⟨us1,us2,rfl,hl,hv,avq⟩:=Kd hRs
  obtain⟨rfl,I6⟩:=vp (vs:=vs) hvs (λj v m hj hm GJ=>by
   rw[gn]
   rw[xt j (wh j m hm GJ)]
   exact Ou j v hj) avq
  rw[cw]at*
  subst I6
  simp only[cN]at Yr
  have kF: ∀b∈bH res us1 (fP args vs),b<w.heap.size→b∈eA args vs:=λb hb eT=>(Yr.Oc b hb).elim (λh'=>absurd eT (Nat.not_lt.2 h')) (λh=>h)
  have Ka:fO w' M2 w' (λb=>M2 b∧(b<w.heap.size→M0 b∨b∈eA args vs)):=⟨aH _,λ_ _ _=>rfl,λ_ _ h=>h.1⟩
  refine⟨hd1,xp us1,Ox hl hv,_,rfl,us1,λb=>M2 b∧(b<w.heap.size→M0 b∨b∈eA args vs),rfl,RR.xq Ka (λb hb=>⟨rfl,Xm.sa b hb,λeT=> .inr (kF b hb eT)⟩) Xm,⟨λb hb=>⟨Yr.mem.sub b hb,λ_=> .inl hb⟩,λb hb=>Yr.mem.Gn b hb.1,λb eT hb=>hb.2 eT,λb eT hb=>Yr.mem.frame b eT hb,Yr.mem.size,Yr.mem.os,Yr.mem.tape,Yr.mem.output⟩,Yr.nd,λb hb h0=> ?_⟩
  rcases Yr.Oc b hb with h'|h'
  ·exact absurd (sW b h0) (Nat.not_lt.2 h')
  ·exact xu b h' h0
 refine VA (c:=cx) hE cd _ _ w _ _ _ _ hI h (fun σ' a' w' hk zj=> ?_) (λi σ' a' w' hk=>by cases hk) (fun σ' a' w' hk zj=> ?_)
 ·exact apo σ' a' w' hk zj
 ·exact apo σ' a' w' hk zj
theorem Ys(hE:tp P E){f:FuncId}{fn:Func}(hf:P.funcs[f]? =some fn)(Bf:(fn.name== "runtime.NumGoroutine")=false)(hnt:E.nt=fn.ntmps)(S:m1)
  (wh: ∀i m,S.args[i]? =some m→m.iQ=true→i∈E.io) (apn: ∀i∈E.io,i<S.args.length) (hlen:S.args.length≤fn.ntmps) (hq:S.quiet=true→S.res.all AM.flat=true) (avr:np S.args=np S.res)
  (dC: ∀x,NT E fn S.args S.res x=S.run x):jw P f S:=by
 refine⟨hq,avr,λM0 w vs x y sW hA wD xu hy=> ?_⟩
 have hb:fn.body.isNone=false:=by
  have:=dC x
  rw[hy]at this
  unfold NT at this
  split at this
  ·cases this
  ·rename_i cd hcd;rw[hcd];rfl
 exact tW hf Bf hb (Ke hE hf hnt wh apn hlen sW hA wD xu (by rw[dC,hy]))
end VM
end
section
namespace VM
open Go
variable{P:Program}
def Bh:Ty→List Value→Option (List Value)
 | .int k,v::r=>match v with
  | .int k' n=>if k'=k∧n=0 then some r else none
  |_=>none
 | .bool,v::r=>match v with
  | .bool false=>some r
  |_=>none
 | .str,v::r=>match v with
  | .string s=>if s.data.size=0 then some r else none
  |_=>none
 | .slice _,v::r=>match v with
  | .slice none n m=>if n=0∧m=0 then some r else none
  |_=>none
 | .unit,r=>some r
 | .pair a b,r=>match Bh a r with
  |some r=>Bh b r
  |none=>none
 | .arr n e,r=>Nat.rec (motive:=λ_=>List Value→Option (List Value)) (λr=>some r) (λ_ ih r=>match Bh e r with
  |some r=>ih r
  |none=>none) n r
 |_,[]=>none
theorem Bi: ∀{τ:Ty} {l r:List Value},Bh τ l=some r→l=τ.cD++r
 | .int k,[],_,h| .bool,[],_,h| .str,[],_,h| .slice _,[],_,h=>by simp[Bh]at h
 | .int k,v::l,r,h=>by
  simp only[Bh]at h
  split at h
  ·split at h
   ·rename_i hc;obtain⟨rfl,rfl⟩:=hc;cases h;rfl
   ·cases h
  ·cases h
 | .bool,v::l,r,h=>by
  simp only[Bh]at h
  split at h
  ·cases h;rfl
  ·cases h
 | .str,v::l,r,h=>by
  simp only[Bh]at h
  split at h
  ·rename_i s
   split at h
   ·rename_i hs
    cases h
    have:s=ByteArray.empty:=by
     obtain⟨d⟩:=s
     have:d= #[]:=Array.eq_empty_of_size_eq_zero hs
     subst this;rfl
    subst this;rfl
   ·cases h
  ·cases h
 | .slice _,v::l,r,h=>by
  simp only[Bh]at h
  split at h
  ·split at h
   ·rename_i hc;obtain⟨rfl,rfl⟩:=hc;cases h;rfl
   ·cases h
  ·cases h
 | .unit,l,r,h=>by simp only[Bh]at h;cases h;rfl
 | .pair a b,l,r,h=>by
  simp only[Bh]at h
  split at h
  ·rename_i r1 h1
   rw[Bi h1,Bi h];simp[Ty.cD]
  ·cases h
 | .arr n e,l,r,h=>by
  simp only[Bh]at h
  simp only[Ty.cD]
  induction n generalizing l with
  |zero=>cases h;rfl
  |succ n ih=>
   simp only at h
   split at h
   ·rename_i r1 h1
    rw[Bi h1,ih _ h];simp[As]
   ·cases h
def Bj(P:Program)(τ:Ty)(t:TypeId):Bool:=
 match P.info? t with
 |none=>false
 |some i=>Nat.beq i.size τ.size&&Nat.ble i.bytes 2048&&(match i.zero with
  |none=>false
  |some z=>match τ.isAgg,z with
   |true,.agg cs=>(match Bh τ cs.toList with|some []=>true|_=>false)
   |false,z=>(match Bh τ [z]with|some []=>true|_=>false)
   |_,_=>false)
theorem se{τ:Ty}{t:TypeId}(h:Bj P τ t=true):Lt P τ t:=by
 unfold Bj at h
 split at h
 ·cases h
 ·rename_i i hi
  simp only[bM,AL]at h
  obtain⟨⟨h1,h2⟩,h3⟩:=h
  refine⟨i,hi,fF h1,?_,h2⟩
  split at h3
  ·cases h3
  ·rename_i z hz
   rw[hz]
   split at h3
   ·rename_i _ cs ha
    split at h3
    ·rename_i he
     have:=Bi he
     unfold cg
     rw[aj ha,←cw τ.cD,←this]
    ·cases h3
   ·rename_i ha
    split at h3
    ·rename_i he
     have:=Bi he
     unfold cg
     rw[ah (by rw[ha];exact pF),←cw τ.cD,←this];rfl
    ·cases h3
   ·cases h3
def uC(P:Program):Ty→TypeId ⊕ (Array Field×Nat×Nat)→Bool
 | .int k,.inl t=>Bj P (.int k) t&&(match P.underlying t with|some (.int k')=>decide (k'=k)|_=>false)
 | .bool,.inl t=>Bj P .bool t&&(match P.underlying t with|some .bool=>true|_=>false)
 | .str,.inl t=>Bj P .str t&&(match P.underlying t with|some .string=>true|_=>false)
 | .slice e,.inl t=>Bj P (.slice e) t&&(match P.underlying t with|some (.slice e')=>uC P e (.inl e')|_=>false)
 | .arr n e,.inl t=>Bj P (.arr n e) t&&(match P.underlying t with|some (.array n' e')=>Nat.beq n' n&&uC P e (.inl e')|_=>false)
 | .unit,.inl t=>Bj P .unit t&&(match P.underlying t with|some (.struct fs)=>Nat.beq fs.size 0|_=>false)
 | .unit,.inr q=>Nat.beq q.1.size q.2.1
 | .pair a b,.inl t=>Bj P (.pair a b) t&&(match P.underlying t with
  |some (.struct fs)=>(match fs[0]? with
   |some f=>Nat.beq f.offset 0&&(uC P a (.inl f.type)&&uC P b (.inr (fs,1,a.size)))
   |none=>false)
  |_=>false)
 | .pair a b,.inr q=>(match q.1[q.2.1]? with
  |some f=>Nat.beq f.offset q.2.2&&(uC P a (.inl f.type)&&uC P b (.inr (q.1,q.2.1+1,q.2.2+a.size)))
  |none=>false)
 |_,.inr _=>false
theorem iE: ∀{τ:Ty} {x:TypeId ⊕ (Array Field×Nat×Nat)},uC P τ x=true→gA P τ x
 | .int k,.inl t,h=>by
  simp only[uC,bM]at h
  refine⟨se h.1,?_⟩
  have h:=h.2
  split at h
  ·rename_i k' hu;rw[hu,bt h]
  ·cases h
 | .bool,.inl t,h=>by
  simp only[uC,bM]at h
  refine⟨se h.1,?_⟩
  have h:=h.2
  split at h
  ·rename_i hu;exact hu
  ·cases h
 | .str,.inl t,h=>by
  simp only[uC,bM]at h
  refine⟨se h.1,?_⟩
  have h:=h.2
  split at h
  ·rename_i hu;exact hu
  ·cases h
 | .slice e,.inl t,h=>by
  simp only[uC,bM]at h
  refine⟨se h.1,?_⟩
  have h:=h.2
  split at h
  ·rename_i e' hu;exact⟨e',hu,iE h⟩
  ·cases h
 | .arr n e,.inl t,h=>by
  simp only[uC,bM]at h
  refine⟨se h.1,?_⟩
  have h:=h.2
  split at h
  ·rename_i n' e' hu
   simp only[bM]at h
   obtain⟨h0,h⟩:=h
   rw[fF h0]at hu
   exact⟨e',hu,iE h⟩
  ·cases h
 | .unit,.inl t,h=>by
  simp only[uC,bM]at h
  refine⟨se h.1,?_⟩
  have h:=h.2
  split at h
  ·rename_i fs hu;exact⟨fs,hu,fF h⟩
  ·cases h
 | .unit,.inr (fs,n,o),h=>by simp only[uC]at h;exact fF h
 | .pair a b,.inl t,h=>by
  simp only[uC,bM]at h
  refine⟨se h.1,?_⟩
  have h:=h.2
  split at h
  ·rename_i fs hu
   split at h
   ·rename_i f hf
    simp only[bM]at h
    exact⟨fs,f,hu,hf,fF h.1,iE h.2.1,iE h.2.2⟩
   ·cases h
  ·cases h
 | .pair a b,.inr (fs,n,o),h=>by
  simp only[uC]at h
  split at h
  ·rename_i f hf
   simp only[bM]at h
   exact⟨f,hf,fF h.1,iE h.2.1,iE h.2.2⟩
  ·cases h
 | .int _,.inr _,h| .bool,.inr _,h| .str,.inr _,h| .slice _,.inr _,h| .arr _ _,.inr _,h=>by simp[uC]at h
def wj(P:Program):Ty→TypeId ⊕ (Array Field×Nat)→Bool
 | .int _,.inl _| .bool,.inl _| .str,.inl _=>true
 | .unit,.inl t=> !P.stoodInHeld t
 | .unit,.inr _=>true
 | .pair a b,.inl t=> !P.stoodInHeld t&&(match P.underlying t with
  |some (.struct fs)=>(match fs[0]? with
   |some f=>f.name != "_" &&(wj P a (.inl f.type)&&wj P b (.inr (fs,1)))
   |none=>false)
  |_=>false)
 | .pair a b,.inr q=>(match q.1[q.2]? with
  |some f=>f.name != "_" &&(wj P a (.inl f.type)&&wj P b (.inr (q.1,q.2+1)))
  |none=>false)
 |_,_=>false
def Ty.deep:Ty→Nat
 | .pair a b=>a.deep+b.deep+1
 |_=>1
theorem V.ofC{w:World}{M:Nat→Prop}{τ:Ty}{cs:List Value}{x:τ.den}(h:Rd w M τ cs x):V w M τ (VM.cg τ cs) x:=V.cg h
mutual
theorem Oy{w:World}{M:Nat→Prop}: ∀{τ:Ty} {t:TypeId} {u v:Value} {x y:τ.den} {d:Nat},kX P τ t→wj P τ (.inl t)=true→V w M τ u x→V w M τ v y→τ.deep≤d→(Op.equalIn d t u v).run P w= .ok (pn τ x y) w
 | .int k,t,u,v,x,y,d+1,hl,_,hx,hy,_=>by
  simp only[V,Ty.isAgg,jL,fG,Rd,fV,eF]at hx hy
  subst hx;subst hy
  rw[run_equalIn_int w d t k k _ _ hl.int];simp only[pn,kj];congr 1
 | .bool,t,u,v,x,y,d+1,hl,_,hx,hy,_=>by
  simp only[V,Ty.isAgg,jL,fG,Rd,fV,eF]at hx hy
  subst hx;subst hy
  rw[run_equalIn_bool w d t _ _ hl.bool];simp only[pn]
 | .str,t,u,v,x,y,d+1,hl,_,hx,hy,_=>by
  simp only[V,Ty.isAgg,jL,fG,Rd,fV,eF]at hx hy
  subst hx;subst hy
  rw[run_equalIn_string w d t _ _ hl.str];simp only[pn,Gl];congr 1;rw[pH];simp
 | .slice _,_,_,_,_,_,_,_,h,_,_,_| .arr _ _,_,_,_,_,_,_,_,h,_,_,_=>by simp[wj]at h
 | .unit,t,u,v,x,y,d+1,hl,he,hx,hy,_=>by
  simp only[V,Ty.isAgg,g8]at hx hy
  obtain⟨cs,rfl,_⟩:=hx
  obtain⟨cs',rfl,_⟩:=hy
  simp only[kX,gA]at hl
  obtain⟨_,fs,hu,h0⟩:=hl
  have hfs:P.fieldsOf t=fs:=by simp[Program.fieldsOf,hu]
  rw[run_equalIn_struct w d t cs cs' (by rw[hfs];exact hu) (by simpa [wj]using he),hfs]
  have:fs.toList=[]:=by rw[←Ny,bn];exact h0
  rw[this];simp[Op.eqFields,pn]
 | .pair a b,t,u,v,x,y,d+1,hl,he,hx,hy,hd=>by
  simp only[V,Ty.isAgg,g8]at hx hy
  obtain⟨cs,rfl,hx⟩:=hx
  obtain⟨cs',rfl,hy⟩:=hy
  simp only[kX,gA]at hl
  obtain⟨_,fs,f,hu,hf,ho,zK,RG⟩:=hl
  have hfs:P.fieldsOf t=fs:=by simp[Program.fieldsOf,hu]
  simp only[wj,hu,hf,bM]at he
  rw[run_equalIn_struct w d t cs cs' (by rw[hfs];exact hu) (by simpa using he.1),hfs]
  have h0:fs.toList=f::fs.toList.drop 1:=by
   have h1:=qF (l:=fs.toList) (i:=0) (by rw[bn];exact(lJ.1 hf).1)
   rw[cV]at h1
   rw[h1];congr 1
   rw[Ar];exact(lJ.1 hf).2
  simp only[Ty.deep]at hd
  rw[h0]
  have oO:Rd w M (.pair a b) (cs.toList.drop 0) x:=by rw[cV];exact hx
  have TT:Rd w M (.pair a b) (cs'.toList.drop 0) y:=by rw[cV];exact hy
  have ko:f.name≠ "_" :=by simpa using he.2.1
  simp only[Op.eqFields,ko,ne_eq,not_false_eq_true,g8]
  exact Yt (off:=0) ho zK he.2.2.1 oO TT ω (λh1 h2=>Yu (n:=1) (fs:=fs) (off:=a.size) RG he.2.2.2 (by rw[gn]at h1;exact h1) (by rw[gn]at h2;exact h2) ω)
 | .int _,_,_,_,_,_,0,_,_,_,_,hd| .bool,_,_,_,_,_,0,_,_,_,_,hd| .str,_,_,_,_,_,0,_,_,_,_,hd| .unit,_,_,_,_,_,0,_,_,_,_,hd| .pair _ _,_,_,_,_,_,0,_,_,_,_,hd=>by simp[Ty.deep]at hd
theorem Yu{w:World}{M:Nat→Prop}: ∀{b:Ty} {fs:Array Field} {n off:Nat} {cs cs':Array Value} {x y:b.den} {d:Nat},gA P b (.inr (fs,n,off))→wj P b (.inr (fs,n))=true→Rd w M b (cs.toList.drop off) x→Rd w M b (cs'.toList.drop off) y→b.deep≤d→
  (Op.eqFields d cs cs' (fs.toList.drop n)).run P w= .ok (pn b x y) w
 | .unit,fs,n,off,cs,cs',x,y,d,hl,_,_,_,_=>by
  simp only[gA]at hl
  rw[jf (by rw[bn];omega)]
  simp[Op.eqFields,pn]
 | .pair a b,fs,n,off,cs,cs',x,y,d,hl,he,hx,hy,hd=>by
  simp only[gA]at hl
  obtain⟨f,hf,ho,zK,RG⟩:=hl
  simp only[wj,hf,bM]at he
  have h0:fs.toList.drop n=f::fs.toList.drop (n+1):=by
   rw[qF (l:=fs.toList) (i:=n) (by rw[bn];exact(lJ.1 hf).1)]
   congr 1
   rw[Ar];exact(lJ.1 hf).2
  simp only[Ty.deep]at hd
  rw[h0]
  have ko:f.name≠ "_" :=by simpa using he.1
  simp only[Op.eqFields,ko,ne_eq,not_false_eq_true,g8]
  exact Yt ho zK he.2.1 hx hy ω (λh1 h2=>Yu RG he.2.2 h1 h2 ω)
 | .int _,_,_,_,_,_,_,_,_,hl,_,_,_,_| .bool,_,_,_,_,_,_,_,_,hl,_,_,_,_| .str,_,_,_,_,_,_,_,_,hl,_,_,_,_| .slice _,_,_,_,_,_,_,_,_,hl,_,_,_,_| .arr _ _,_,_,_,_,_,_,_,_,hl,_,_,_,_=>by simp[gA]at hl
theorem Yt{w:World}{M:Nat→Prop}{a b:Ty}{f:Field}{fs:List Field}{off:Nat}{cs cs':Array Value}{x y:(Ty.pair a b).den}{d:Nat}(ho:f.offset=off)(zK:kX P a f.type)(he:wj P a (.inl f.type)=true)
  (hx:Rd w M (.pair a b) (cs.toList.drop off) x) (hy:Rd w M (.pair a b) (cs'.toList.drop off) y) (hd:a.deep≤d)
  (hr:Rd w M b (cs.toList.drop (off+a.size)) x.2→Rd w M b (cs'.toList.drop (off+a.size)) y.2→(Op.eqFields d cs cs' fs).run P w= .ok (pn b x.2 y.2) w):
  (do let u ←part f.type cs f.offset;let v ←part f.type cs' f.offset;let r ←Op.equalIn d f.type u v;if(!r)=true then pure false else Op.eqFields d cs cs' fs:Sem Bool).run P w= .ok (pn (.pair a b) x y) w:=by
 simp only[Rd]at hx hy
 obtain⟨c1,c2,hc,h1,h2⟩:=hx
 obtain⟨c1',c2',RO,qM,zm⟩:=hy
 subst ho
 have p1:(cs.toList.drop f.offset).take a.size=c1:=by rw[hc,wX h1.length]
 have p2:(cs'.toList.drop f.offset).take a.size=c1':=by rw[RO,wX qM.length]
 have q1:cs.toList.drop (f.offset+a.size)=c2:=by rw[←iC,hc,mz h1.length]
 have q2:cs'.toList.drop (f.offset+a.size)=c2':=by rw[←iC,RO,mz qM.length]
 have r1:=AW zK (w:=w) (M:=M) (cs:=cs) (off:=f.offset) (x:=x.1) (by rw[p1];exact h1)
 have r2:=AW zK (w:=w) (M:=M) (cs:=cs') (off:=f.offset) (x:=y.1) (by rw[p2];exact qM)
 have r3:=Oy (d:=d) zK he (V.ofC (by rw[p1];exact h1):V w M a (VM.cg a ((cs.toList.drop f.offset).take a.size)) x.1) (V.ofC (by rw[p2];exact qM):V w M a (VM.cg a ((cs'.toList.drop f.offset).take a.size)) y.1) hd
 simp only[Sem.run_bind,r1,r2,r3,Result.andThen_ok,pn]
 cases pn a x.1 y.1
 ·simp
 ·simpa using hr (by rw[q1];exact h2) (by rw[q2];exact zm)
end
def acd(P:Program)(τ:Ty)(t:TypeId):Bool:= !(τ.comparable&&τ.isAgg)||(wj P τ (.inl t)&&(Nat.ble τ.deep 10000&& !P.eqGuardType P.depth t))
theorem ace{τ:Ty}{t:TypeId}(hl:kX P τ t)(h:acd P τ t=true)(hc:τ.comparable=true)(ha:τ.isAgg=true):aoD P t τ:=by
 unfold acd at h
 rw[hc,ha]at h
 simp only[Bool.and_self,bl,rK,bM,AL,rE]at h
 obtain⟨h1,h2,h3⟩:=h
 intro w M u v x y b xo yo hx hy
 have he:=Oy (d:=10000) hl h1 hx hy h2
 unfold V at hx hy
 rw[aj ha]at hx hy
 obtain⟨cs,rfl,_⟩:=hx
 obtain⟨cs',rfl,_⟩:=hy
 refine⟨?_,?_,?_⟩
 ·cases b<;>simp[eqGuard,h3]
 ·simp only[binOp];simp[Op.equal,Op.maxDepth,he]
 ·simp only[binOp];simp[Op.equal,Op.maxDepth,he]
def apr(P:Program)(l:List (Nat×Ty)):Bool:=l.all λq=>uC P q.2 (.inl q.1)&&acd P q.2 q.1
end VM
end
section
namespace VM
open Go Go.WideShapes Go.RowKit Go.ChangeShapes
def WF:(τ:Ty)→τ.den→Prop
 | .int k,x=>(Lit.int k x).wf=true
 | .bool,_=>True
 | .str,s=>ByteArray.size s≤maxLen
 | .slice e,l=>ℓ l≤maxLen∧ ∀i (h:i<ℓ l),WF e (List.get l ⟨i,h⟩)
 | .unit,_=>True
 | .pair a b,x=>WF a x.1∧WF b x.2
 | .arr _ e,l=> ∀i (h:i<ℓ l),WF e (List.get l ⟨i,h⟩)
def Ty.qD:Ty→Bool
 | .slice e=>Nat.blt 0 e.size&&e.qD
 | .pair a b=>a.qD&&b.qD
 | .arr _ e=>e.qD
 |_=>true
theorem Yv{α β:Type}{f:α→Option β}: ∀{l:List α} {r:List β},l.mapM f=some r→ ∀x∈l,∃y,f x=some y
 |[],_,_,x,hx=>by cases hx
 |a::l,r,h,x,hx=>by
  rw[AE]at h
  simp only[bind,ud,pure,iB]at h
  obtain⟨y,hy,r',hr,_⟩:=h
  rcases a8.1 hx with rfl|hx
  ·exact⟨y,hy⟩
  ·exact Yv hr x hx
theorem Oz{α β:Type}{f:α→Option β}: ∀{l:List α} {r:List β},l.mapM f=some r→r.length=l.length∧ ∀i (h:i<l.length) (h':i<r.length),f l[i]=some r[i]
 |[],r,h=>by simp at h;subst h;exact⟨rfl,λi h=>by cases h⟩
 |a::l,r,h=>by
  rw[AE]at h
  simp only[bind,ud,pure,iB]at h
  obtain⟨y,hy,r',hr,rfl⟩:=h
  obtain⟨h1,h2⟩:=Oz hr
  refine⟨by simp[h1],λi hi nV=> ?_⟩
  cases i with
  |zero=>exact hy
  |succ i=>exact h2 i (by simpa using hi) (by simpa using nV)
theorem xv{α:Type}{p:Nat→α→Prop}: ∀n,(∀i,i<n→ ∃x,p i x)→ ∃l:List α,l.length=n∧ ∀i (h:i<l.length),p i (l.get ⟨i,h⟩)
 |0,_=>⟨[],rfl,λi h=>by cases h⟩
 |n+1,h=>by
  obtain⟨l,hl,hp⟩:=xv n (λi hi=>h i ω)
  obtain⟨x,hx⟩:=h n ω
  refine⟨l++[x],by simp[hl],λi hi=> ?_⟩
  simp only[FY]
  by_cases eT:i<l.length
  ·rw[Am eT];exact hp i eT
  ·have kC:i=n:=by simp at hi;omega
   subst kC
   rw[FP ω]
   simp[hl,hx]
section
variable{H:Type}{enc:TypeId×Value→H}{P:Program}{w:World}
theorem kX.cells{τ:Ty}{t:TypeId}(h:kX P τ t):P.cellsOf t=τ.size:=by
 obtain⟨i,hi,hs,_⟩:=h.base
 simp[Program.cellsOf,hi,hs]
theorem Kf{a:Addr}{n:Nat}{cs:List Value}(h:w.cells? 0 a n=some cs):cs.length=n∧ ∀j v,cs[j]? =some v→w.cell? (a.add j)=some v:=by
 unfold World.cells? at h
 rw[aj (bz _)]at h
 obtain⟨h1,h2⟩:=Oz h
 rw[wT]at h1
 refine⟨h1,λj v hj=> ?_⟩
 obtain⟨eT,rfl⟩:=u2.1 hj
 have:=h2 j (by rw[wT];omega) eT
 rw[FZ]at this
 exact this
def Yw(H:Type)(enc:TypeId×Value→H)(P:Program)(w:World)(τ:Ty):TypeId ⊕ (Array Field×Nat×Nat)→Prop
 | .inl t=> ∀(fuel:Nat) (cs:List Value) (d:DataW H×List MemPlace),DataW.trod enc P w 0 (λ_=>true) true fuel t cs=some d→ ∃x:τ.den,Rd w (λ_=>False) τ cs x∧WF τ x
 | .inr q=> ∀(cs:List Value),cs.length=q.2.2+τ.size→(∀f∈q.1.toList,∃fuel d,DataW.trod enc P w 0 (λ_=>true) true fuel f.type ((cs.drop f.offset).take (P.cellsOf f.type))=some d)→ ∃x:τ.den,Rd w (λ_=>False) τ (cs.drop q.2.2) x∧WF τ x
theorem Kg{a b:Ty}{f:Field}{fs:Array Field}{n off:Nat}(hf:fs[n]? =some f)(ho:f.offset=off)(zK:kX P a f.type)(iha:Yw H enc P w a (.inl f.type))(XC:Yw H enc P w b (.inr (fs,n+1,off+a.size)))
  {cs:List Value} (hc:cs.length=off+(a.size+b.size)) (iv: ∀f∈fs.toList,∃fuel d,DataW.trod enc P w 0 (λ_=>true) true fuel f.type ((cs.drop f.offset).take (P.cellsOf f.type))=some d):
  ∃x:(Ty.pair a b).den,Rd w (λ_=>False) (.pair a b) (cs.drop off) x∧WF (.pair a b) x:=by
 subst ho
 obtain⟨fuel,d,hd⟩:=iv f (by rw[Array.mem_toList_iff];exact Array.mem_of_getElem? hf)
 rw[zK.cells]at hd
 obtain⟨x,hx,hwx⟩:=iha fuel _ d hd
 obtain⟨y,hy,hwy⟩:=XC cs (by simp only;omega) iv
 refine⟨(x,y),?_,hwx,hwy⟩
 simp only[Rd]
 refine⟨_,_,(gM a.size (cs.drop f.offset)).symm,hx,?_⟩
 rw[iC];exact hy
theorem vq: ∀{τ:Ty} {x:TypeId ⊕ (Array Field×Nat×Nat)},gA P τ x→τ.qD=true→Yw H enc P w τ x
 | .int k,.inl t,hl,_=>by
  intro fuel cs d h
  simp only[gA]at hl
  obtain⟨n,rfl,_,hw⟩:=DataW.trod_int hl.2 h
  exact⟨n,rfl,hw⟩
 | .bool,.inl t,hl,_=>by
  intro fuel cs d h
  simp only[gA]at hl
  obtain⟨b,rfl,_⟩:=DataW.trod_bool hl.2 h
  exact⟨b,rfl,trivial⟩
 | .str,.inl t,hl,_=>by
  intro fuel cs d h
  simp only[gA]at hl
  obtain⟨s,rfl,_,hs⟩:=DataW.trod_string hl.2 h
  exact⟨s,rfl,hs⟩
 | .slice e,.inl t,hl,hs=>by
  intro fuel cs d h
  simp only[gA]at hl
  obtain⟨_,e',hu,hle⟩:=hl
  simp only[Ty.qD,bM,AK]at hs
  have ih:=vq hle hs.2
  have qB:P.cellsOf e'=e.size:=kX.cells hle
  rcases DataW.trod_slice hu h with⟨rfl,_⟩|⟨a,len,cap,elems,rest,n,_,rfl,_,_,hlc,Fp,hel,iv,_⟩
  ·refine⟨[],?_,bz _,λi h=>by cases h⟩
   simp only[Rd]
   exact⟨none,0,rfl,aH _,λi h=>by cases h⟩
  ·rw[qB]at iv
   have get: ∀i,i<len→ ∃cs' y,w.cells? 0 (a.add (i*e.size)) e.size=some cs'∧DataW.trod enc P w 0 (λ_=>true) true n e' cs'=some y:=λi hi=>by
    have:=iv i hi
    rw[bm ω]at this
    obtain⟨cs',h1,h2⟩:=ud.1 this
    exact⟨cs',_,h1,h2⟩
   have key: ∀i,i<len→ ∃x:e.den,(a.spot=none∧a.block<w.heap.size∧ ∃cs',At w a.block (a.off+i*e.size) cs'∧Rd w (λ_=>False) e cs' x)∧WF e x:=by
    intro i hi
    obtain⟨cs',y,tU,ht⟩:=get i hi
    obtain⟨h1,h2⟩:=Kf tU
    obtain⟨x,hx,hw⟩:=ih n cs' y ht
    have U7:a.spot=none∧a.block<w.heap.size:=by
     obtain⟨ka,y0,avt,_⟩:=get 0 ω
     obtain⟨h10,h20⟩:=Kf avt
     have:=h20 0 ka[0] (bm ω)
     simp only[Nat.zero_mul,Addr.add,g8,World.cell?]at this
     split at this
     ·rename_i hb
      refine⟨?_,(lJ.1 hb).1⟩
      split at this
      ·cases this
      ·rename_i hn;simpa using hn
     ·cases this
    refine⟨x,⟨U7.1,U7.2,cs',λj v hj=> ?_,hx⟩,hw⟩
    have:=h2 j v hj
    have he:(a.add (i*e.size)).add j=⟨a.block,a.off+i*e.size+j,none⟩:=by
     obtain⟨ab,ao,asp⟩:=a
     simp only at U7
     obtain⟨rfl,_⟩:=U7
     simp only[Addr.add]
     split<;>split<;>simp_all<;>omega
    rw[he]at this
    exact this
   obtain⟨l,hl,hp⟩:=xv len key
   refine⟨l,?_,by rw[hl];omega,λi h=>(hp i h).2⟩
   simp only[Rd]
   refine⟨some a,cap,by rw[hl],by rw[hl];exact hlc,λi h=> ?_⟩
   obtain⟨h1,h2,cs',h3,h4⟩:=(hp i h).1
   refine⟨a.block,a.off,?_,h2,λh=>h,cs',h3,h4⟩
   rw[←h1]
 | .unit,.inl t,hl,_=>by
  intro fuel cs d h
  simp only[gA]at hl
  obtain⟨⟨i,hi,qB,_⟩,fs,hu,h0⟩:=hl
  obtain⟨xs,n,_,_,hc,_⟩:=DataW.trod_struct hu h
  refine⟨(),?_,trivial⟩
  simp only[Rd]
  rw[←Ny,hc]
  simp[Program.cellsOf,hi,qB,Ty.size]
 | .unit,.inr q,hl,_=>by
  intro cs hc _
  refine⟨(),?_,trivial⟩
  simp only[Rd]
  rw[jf (by rw[hc];simp[Ty.size])]
 | .pair a b,.inl t,hl,hs=>by
  intro fuel cs d h
  simp only[gA]at hl
  obtain⟨⟨i,hi,qB,_⟩,fs,f,hu,hf,ho,zK,RG⟩:=hl
  simp only[Ty.qD,bM]at hs
  have iha:=vq zK hs.1
  have XC:=vq RG hs.2
  obtain⟨xs,n,_,_,hc,hxl,hxs⟩:=DataW.trod_struct hu h
  have:=Kg (b:=b) (off:=0) hf ho zK iha (by simp only[gn];exact XC) (cs:=cs) (by rw[hc];simp[Program.cellsOf,hi,qB,Ty.size]) (λf hf=>by
   obtain⟨j,hj,rfl⟩:=rD.1 hf
   rw[bn]at hj
   have:=hxs j fs[j] (by simp[hj])
   rw[bm ω]at this
   exact⟨n,_,by rw[Ar];exact this⟩)
  rw[cV]at this
  exact this
 | .pair a b,.inr (fs,n,off),hl,hs=>by
  intro cs hc iv
  simp only[gA]at hl
  obtain⟨f,hf,ho,zK,RG⟩:=hl
  simp only[Ty.qD,bM]at hs
  exact Kg hf ho zK (vq zK hs.1) (vq RG hs.2) (by simpa [Ty.size]using hc) iv
 | .arr n e,.inl t,hl,hs=>by
  intro fuel cs d h
  simp only[gA]at hl
  obtain⟨⟨i,hi,qB,_⟩,e',hu,hle⟩:=hl
  simp only[Ty.qD]at hs
  have ih:=vq hle hs
  have hse:P.cellsOf e'=e.size:=kX.cells hle
  obtain⟨xs,m,_,_,hc,hxl,hxs⟩:=DataW.trod_array hu h
  have hlen:cs.length=n*e.size:=by rw[hc];simp[Program.cellsOf,hi,qB,Ty.size]
  have key: ∀i,i<n→ ∃x:e.den,Rd w (λ_=>False) e ((cs.drop (i*e.size)).take e.size) x∧WF e x:=λi hi=>by
   have:=hxs i hi
   rw[bm ω,hse]at this
   exact ih m _ _ this
  obtain⟨l,I7,hp⟩:=xv n key
  refine⟨l,?_,λi h=>(hp i h).2⟩
  simp only[Rd]
  refine⟨I7,(List.range n).map λi=>(cs.drop (i*e.size)).take e.size,by simp,?_,λi h h'=> ?_⟩
  ·clear hxs h key hp I7 hu
   have: ∀m,m≤n→cs.take (m*e.size)=((List.range m).map λi=>(cs.drop (i*e.size)).take e.size).flatten:=by
    intro m
    induction m with
    |zero=>simp
    |succ m ihm=>
     intro hm
     rw[Ga,dn,List.flatten_append,←ihm ω]
     simp only[bQ,ik,Ax,List.flatten_nil,cw]
     rw[eD,kT,List.take_add]
   have h2:=this n (aH _)
   rw[iz ω]at h2
   exact h2
  ·have:=(hp i h).1
   simpa using this
 | .int _,.inr _,h,_| .bool,.inr _,h,_| .str,.inr _,h,_| .slice _,.inr _,h,_| .arr _ _,.inr _,h,_=>by simp[gA]at h
theorem akr{τ:Ty}{t:TypeId}{r:Reach}{b0:Nat}{v:Value}{d:DataW H}{ps:List MemPlace}(hl:kX P τ t)(hs:τ.qD=true)(hv:Value.okWide P w r b0 t v)(h:DataW.Trod enc P w 0 (λ_=>true) true t v d ps):
  ∃x:τ.den,V w (λ_=>False) τ v x∧WF τ x:=by
 obtain⟨fuel,h⟩:=h
 obtain⟨x,hx,hw⟩:=vq (H:=H) (enc:=enc) (w:=w) hl hs fuel _ _ h
 refine⟨x,?_,hw⟩
 unfold V
 cases τ with
 |int k=>
  obtain⟨n,rfl⟩:=okWide_int hl.int hv
  exact hx
 |bool=>
  obtain⟨n,rfl⟩:=okWide_bool hl.bool hv
  exact hx
 |str=>
  obtain⟨n,rfl⟩:=okWide_string hl.str hv
  exact hx
 |slice e=>
  obtain⟨e',hu,_⟩:=hl.slice
  obtain⟨a,len,cap,rfl⟩:=okWide_slice hu hv
  exact hx
 |unit=>
  simp only[kX,gA]at hl
  obtain⟨_,fs,hu,_⟩:=hl
  simp only[Value.okWide,hu]at hv
  obtain⟨cs,rfl,_⟩:=hv
  exact⟨cs,rfl,hx⟩
 |pair a b=>
  simp only[kX,gA]at hl
  obtain⟨_,fs,f,hu,_⟩:=hl
  simp only[Value.okWide,hu]at hv
  obtain⟨cs,rfl,_⟩:=hv
  exact⟨cs,rfl,hx⟩
 |arr n e=>
  obtain⟨e',hu,_⟩:=hl.arr
  simp only[Value.okWide,hu]at hv
  obtain⟨cs,rfl,_⟩:=hv
  exact⟨cs,rfl,hx⟩
def WFs:(ms:List Ty)→HP (ms.map .v)→Prop
 |[],_=>True
 |_::ms,x=>WF _ (qK x)∧WFs ms (tV x)
def hpC:{m:AM}→{ms:List AM}→m.den→HP ms→HP (m::ms)
 |_,[],x,_=>x
 |_,_::_,x,y=>(x,y)
theorem TU{m:AM}: ∀{ms:List AM} (x:m.den) (y:HP ms),qK (hpC x y)=x
 |[],_,_=>rfl
 |_::_,_,_=>rfl
theorem TV{m:AM}: ∀{ms:List AM} (x:m.den) (y:HP ms),tV (hpC x y)=y
 |[],_,()=>rfl
 |_::_,_,_=>rfl
theorem Kh(laid:laidOutB P=true){r:Reach}{b0:Nat}: ∀{τs:List Ty} {ts:List TypeId} {vs:List Value} {ds:List (DataW H)} {ps:List MemPlace},DataW.TrodAll enc P w 0 (λ_=>true) true ts vs ds ps→
  τs.length=ts.length→(∀(j:Nat) τ t,τs[j]? =some τ→ts[j]? =some t→(kX P τ t∧τ.qD=true∧P.readableRec t=true∧t<P.types.size))→
  (∀(j:Nat) t v,ts[j]? =some t→vs[j]? =some v→Value.okWide P w r b0 t v)→
  (∃x:HP (τs.map .v),kD w (λ_=>False) (τs.map .v) x vs∧WFs τs x)∧ ∀w',Below w.heap.size w w'→ ∃I8,DataW.TrodAll enc P w' 0 (λb=>decide (b<w.heap.size)) true ts vs ds I8
 |[],[],vs,ds,ps,h,_,_,_=>by
  obtain⟨rfl,rfl,rfl⟩:=trodAll_nil h
  exact⟨⟨(),rfl,trivial⟩,λw' _=>⟨[],rfl⟩⟩
 |τ::τs,t::ts,vs,ds,ps,h,hl,DH,hv=>by
  obtain⟨v,Nj,d,ds',p,q,rfl,rfl,rfl,h1,h2⟩:=trodAll_cons h
  obtain⟨y6,aks,hrr,eT⟩:=DH 0 τ t rfl rfl
  obtain⟨x,hx,hwx⟩:=akr y6 aks (hv 0 t v rfl rfl) h1
  obtain⟨⟨y,hy,hwy⟩,Yx⟩:=Kh laid h2 (by simpa using hl) (λj τ' t' h h'=>DH (j+1) τ' t' (by simpa using h) (by simpa using h')) (λj t' v' h h'=>hv (j+1) t' v' (by simpa using h) (by simpa using h'))
  refine⟨⟨hpC (m:= .v τ) x y,?_,?_⟩,λw' hb=> ?_⟩
  ·show kD w _ (.v τ::τs.map .v) _ _
   simp only[kD]
   exact⟨v,Nj,rfl,by rw[TU];exact hx,by rw[TV];exact hy⟩
  ·simp only[WFs]
   exact⟨by rw[TU];exact hwx,by rw[TV];exact hwy⟩
  ·obtain⟨I8,h'⟩:=Yx w' hb
   have xn: ∀z∈p,z.block<w.heap.size:=by
    obtain⟨m,hm⟩:=h1
    exact DataW.trod_lt m _ _ _ hm
   exact⟨p++I8,trodAll_cons_mk (Below.trod laid hrr eT h1 hb xn) h'⟩
 |[],_::_,_,_,_,_,hl,_,_|_::_,[],_,_,_,_,hl,_,_=>by simp at hl
end
end VM
end
section
namespace VM
open Go
variable{α:Type}
def Bk(L:Nat→Option (List (Nat×CM)))(κ:Nat→St→Option α)(i:Option Nat)(f:St→Option α):St→Option α:=
 match i with
 |none=>f
 |some i=>match L i with
  |none=>f
  |some _=>κ i
def Yy(E:Env)(κJ κL:Nat→St→Option α)(c:Code):St→(St→Option α)→(Nat→St→Option α)→(St→Option α)→Option α:=
 Code.rec (motive:=λ_=>St→(St→Option α)→(Nat→St→Option α)→(St→Option α)→Option α)
  (fun σ k _ _=>k σ)
  (λ_ ops draw σ k _ _=>Fi E ops draw σ k)
  (λ_ b A B σ k kx kr=>A σ (fun σ'=>xb ((c6 b).bind E.yX) σ' (Bk E.yX κJ (c6 b) fun σ''=>B σ'' k kx kr)) kx kr)
  (λc _ _ A B σ k kx kr=>J2 E c σ (fun σ'=>A σ' k kx kr) (fun σ'=>B σ' k kx kr))
  (λid _ A σ k kx kr=>A σ k (λi σ'=>cond (Nat.beq i id) (k σ') (kx i σ')) kr)
  (λb _ σ _ kx kr=>xb ((c6 b).bind E.w4) σ (Bk E.w4 κL (c6 b) (DB ((c6 b).bind E.w4) (fun σ' kn=>Fj E b σ' kn kx kr) E.N)))
  (λ_ _ _ _ _ _ _ _ _ _=>none)
  (λid σ _ kx _=>kx id σ)
  (λ_ A σ k kx kr=>A σ k kx kr)
  (λ_ σ k _ _=>k σ)
  (λ_ _ _ _ _=>none)
  (fun σ _ _ kr=>kr σ)
  (λ_ _ _ _ _=>none)
  c
def GZ(E:Env)(c:Code):(St→Option α)→(Nat→St→Option α)→(St→Option α)→List (Bool×Nat×(St→Option α)):=
 Code.rec (motive:=λ_=>(St→Option α)→(Nat→St→Option α)→(St→Option α)→List (Bool×Nat×(St→Option α)))
  (λ_ _ _=>[])
  (λ_ _ _ _ _ _=>[])
  (λ_ b A B k kx kr=>A (fun σ'=>xb ((c6 b).bind E.yX) σ' fun σ''=>Fj E b σ'' k kx kr) kx kr++(((c6 b).toList.map λi=>(false,i,fun σ''=>Fj E b σ'' k kx kr))++B k kx kr))
  (λ_ _ _ A B k kx kr=>A k kx kr++B k kx kr)
  (λid _ A k kx kr=>A k (λi σ'=>cond (Nat.beq i id) (k σ') (kx i σ')) kr)
  (λb _ _ kx kr=>(c6 b).toList.map λi=>(true,i,DB ((c6 b).bind E.w4) (fun σ' kn=>Fj E b σ' kn kx kr) E.N))
  (λ_ _ _ _ _ _ _ _ _=>[])
  (λ_ _ _ _=>[])
  (λ_ A k kx kr=>A k kx kr)
  (λ_ _ _ _=>[])
  (λ_ _ _ _=>[])
  (λ_ _ _=>[])
  (λ_ _ _ _=>[])
  c
def xw(E:Env)(κJ κL:Nat→St→Option α):List (Bool×Nat×(St→Option α))→List ((St→Option α)×(St→Option α))
 |[]=>[]
 |q::r=>match q.1 with
  |false=>match E.yX q.2.1 with
   |some _=>(κJ q.2.1,q.2.2)::xw E κJ κL r
   |none=>xw E κJ κL r
  |true=>match E.w4 q.2.1 with
   |some _=>(κL q.2.1,q.2.2)::xw E κJ κL r
   |none=>xw E κJ κL r
def Jy(E:Env)(κJ κL:Nat→St→Option α)(l:List (Bool×Nat×(St→Option α))):Prop:= ∀p∈xw E κJ κL l,p.1=p.2
theorem akt{E:Env}{κJ κL:Nat→St→Option α}{l:List (Bool×Nat×(St→Option α))}(g:List (St→Option α))(h:xw E κJ κL l=g.map λf=>(f,f)):Jy E κJ κL l:=by
 intro p hp
 rw[h]at hp
 obtain⟨f,_,rfl⟩:=cW.1 hp
 rfl
theorem DU{E:Env}{κJ κL:Nat→St→Option α}: ∀(l m:List (Bool×Nat×(St→Option α))),xw E κJ κL (l++m)=xw E κJ κL l++xw E κJ κL m
 |[],m=>rfl
 |(b,i,f)::l,m=>by
  have ih:=DU (E:=E) (κJ:=κJ) (κL:=κL) l m
  cases b<;>simp only[ky,xw]<;>split<;>simp[ih]
theorem Jy.app{E:Env}{κJ κL:Nat→St→Option α}{l m:List (Bool×Nat×(St→Option α))}(h:Jy E κJ κL (l++m)):Jy E κJ κL l∧Jy E κJ κL m:=by
 unfold Jy at*
 rw[DU]at h
 exact⟨λp hp=>h p (cU _ hp),λp hp=>h p (dz _ hp)⟩
theorem aiw{E:Env}{κJ κL:Nat→St→Option α}{i:Option Nat}{f:St→Option α}(h:Jy E κJ κL (i.toList.map λi=>(false,i,f))):Bk E.yX κJ i f=f:=by
 cases i with
 |none=>rfl
 |some i=>
  simp only[Option.toList,List.map,Jy,xw]at h
  unfold Bk
  cases hL:E.yX i with
  |none=>simp[hL]
  |some L=>rw[hL]at h;simp only[hL];exact h (κJ i,f) (cn.2 rfl)
theorem apu{E:Env}{κJ κL:Nat→St→Option α}{i:Option Nat}{f:St→Option α}(h:Jy E κJ κL (i.toList.map λi=>(true,i,f))):Bk E.w4 κL i f=f:=by
 cases i with
 |none=>rfl
 |some i=>
  simp only[Option.toList,List.map,Jy,xw]at h
  unfold Bk
  cases hL:E.w4 i with
  |none=>simp[hL]
  |some L=>rw[hL]at h;simp only[hL];exact h (κL i,f) (cn.2 rfl)
theorem Yz{E:Env}{κJ κL:Nat→St→Option α}(c:Code): ∀(k:St→Option α) (kx:Nat→St→Option α) (kr:St→Option α) (σ:St),Jy E κJ κL (GZ E c k kx kr)→Yy E κJ κL c σ k kx kr=Fj E c σ k kx kr:=by
 induction c with
 |skip=>intros;rfl
 |region=>intros;rfl
 |seq a b iha XC=>
  intro k kx kr σ h
  obtain⟨h1,h2⟩:=Jy.app (h:Jy E κJ κL (GZ E a _ kx kr++(((c6 b).toList.map λi=>(false,i,fun σ''=>Fj E b σ'' k kx kr))++GZ E b k kx kr)))
  obtain⟨h2,h3⟩:=Jy.app h2
  show Yy E κJ κL a σ (fun σ'=>xb ((c6 b).bind E.yX) σ' (Bk E.yX κJ (c6 b) fun σ''=>Yy E κJ κL b σ'' k kx kr)) kx kr=Fj E a σ (fun σ'=>xb ((c6 b).bind E.yX) σ' fun σ''=>Fj E b σ'' k kx kr) kx kr
  have hb:(fun σ''=>Yy E κJ κL b σ'' k kx kr)=fun σ''=>Fj E b σ'' k kx kr:=funext fun σ''=>XC k kx kr σ'' h3
  rw[hb,aiw h2]
  exact iha _ _ _ _ h1
 |cond x a b iha XC=>
  intro k kx kr σ h
  obtain⟨h1,h2⟩:=Jy.app (h:Jy E κJ κL (GZ E a k kx kr++GZ E b k kx kr))
  show J2 E x σ (fun σ'=>Yy E κJ κL a σ' k kx kr) (fun σ'=>Yy E κJ κL b σ' k kx kr)=J2 E x σ (fun σ'=>Fj E a σ' k kx kr) (fun σ'=>Fj E b σ' k kx kr)
  rw[show(fun σ'=>Yy E κJ κL a σ' k kx kr)=fun σ'=>Fj E a σ' k kx kr from funext fun σ'=>iha k kx kr σ' h1,show(fun σ'=>Yy E κJ κL b σ' k kx kr)=fun σ'=>Fj E b σ' k kx kr from funext fun σ'=>XC k kx kr σ' h2]
 |block id x ih=>intro k kx kr σ h;exact ih _ _ _ σ h
 |loop b _=>
  intro k kx kr σ h
  show xb ((c6 b).bind E.w4) σ (Bk E.w4 κL (c6 b) (DB ((c6 b).bind E.w4) (fun σ' kn=>Fj E b σ' kn kx kr) E.N))=xb ((c6 b).bind E.w4) σ (DB ((c6 b).bind E.w4) (fun σ' kn=>Fj E b σ' kn kx kr) E.N)
  rw[apu (h:Jy E κJ κL ((c6 b).toList.map λi=>(true,i,_)))]
 |rangeFunc=>intros;rfl
 |exit=>intros;rfl
 |scope x ih=>intro k kx kr σ h;exact ih _ _ _ σ h
 |label=>intros;rfl
 |goto=>intros;rfl
 |ret=>intros;rfl
 |refuse=>intros;rfl
def oP(E:Env)(κJ κL:Nat→St→Option α):List Nat→Code→List (St→Option α)→St→(St→Option α)→(Nat→St→Option α)→(St→Option α)→Option α
 |[],c,_,σ,k,kx,kr=>Yy E κJ κL c σ k kx kr
 |n::p,c,ks,σ,k,kx,kr=>match c with
  | .seq a b=>match n with
   |0=>oP E κJ κL p a ks σ (fun σ'=>xb ((c6 b).bind E.yX) σ' (Bk E.yX κJ (c6 b) fun σ''=>Yy E κJ κL b σ'' k kx kr)) kx kr
   |_=>oP E κJ κL p b ks σ k kx kr
  | .cond _ a b=>match n with
   |0=>oP E κJ κL p a ks σ k kx kr
   |_=>oP E κJ κL p b ks σ k kx kr
  | .block id c=>oP E κJ κL p c ks σ k (λi σ'=>cond (Nat.beq i id) (k σ') (kx i σ')) kr
  | .loop b=>match ks with
   |κ::ks=>oP E κJ κL p b ks σ κ kx kr
   |[]=>none
  | .scope c=>oP E κJ κL p c ks σ k kx kr
  |_=>none
def iF(E:Env):List Nat→Code→List (St→Option α)→(St→Option α)→(Nat→St→Option α)→(St→Option α)→List (Bool×Nat×(St→Option α))
 |[],c,_,k,kx,kr=>GZ E c k kx kr
 |n::p,c,ks,k,kx,kr=>match c with
  | .seq a b=>match n with
   |0=>((c6 b).toList.map λi=>(false,i,fun σ''=>Fj E b σ'' k kx kr))++(GZ E b k kx kr++iF E p a ks (fun σ'=>xb ((c6 b).bind E.yX) σ' fun σ''=>Fj E b σ'' k kx kr) kx kr)
   |_=>iF E p b ks k kx kr
  | .cond _ a b=>match n with
   |0=>iF E p a ks k kx kr
   |_=>iF E p b ks k kx kr
  | .block id c=>iF E p c ks k (λi σ'=>cond (Nat.beq i id) (k σ') (kx i σ')) kr
  | .loop b=>match ks with
   |κ::ks=>iF E p b ks κ kx kr
   |[]=>[]
  | .scope c=>iF E p c ks k kx kr
  |_=>[]
theorem nY{E:Env}{κJ κL:Nat→St→Option α}: ∀(p:List Nat) (c:Code) (ks:List (St→Option α)) (k:St→Option α) (kx:Nat→St→Option α) (kr:St→Option α) (σ:St),Jy E κJ κL (iF E p c ks k kx kr)→
  oP E κJ κL p c ks σ k kx kr=wA E p c ks σ k kx kr
 |[],c,ks,k,kx,kr,σ,h=>Yz c k kx kr σ h
 |n::p,c,ks,k,kx,kr,σ,h=>by
  cases c with
  |seq a b=>
   cases n with
   |zero=>
    simp only[oP,wA,iF]at h ⊢
    obtain⟨h1,h2⟩:=Jy.app h
    obtain⟨h2,h3⟩:=Jy.app h2
    rw[show(fun σ''=>Yy E κJ κL b σ'' k kx kr)=fun σ''=>Fj E b σ'' k kx kr from funext fun σ''=>Yz b k kx kr σ'' h2,aiw h1]
    exact nY p a ks _ kx kr σ h3
   |succ n=>simp only[oP,wA,iF]at h ⊢;exact nY p b ks k kx kr σ h
  |cond x a b=>
   cases n with
   |zero=>simp only[oP,wA,iF]at h ⊢;exact nY p a ks k kx kr σ h
   |succ n=>simp only[oP,wA,iF]at h ⊢;exact nY p b ks k kx kr σ h
  |block id x=>simp only[oP,wA,iF]at h ⊢;exact nY p x ks k _ kr σ h
  |loop b=>
   cases ks with
   |nil=>simp only[oP,wA]
   |cons κ ks=>simp only[oP,wA,iF]at h ⊢;exact nY p b ks κ kx kr σ h
  |scope x=>simp only[oP,wA,iF]at h ⊢;exact nY p x ks k kx kr σ h
  |_=>simp only[oP,wA]
def G0(fn:Func):Code:=fn.body.getD .skip
def OA(E:Env)(fn:Func)(args res:List AM):St→Option (HP res):=fun σ=>Ls E res (fn.results.toList.map .inl++yZ args 0) σ some
def nox:Nat→St→Option α:=λ_ _=>none
def aCD:St→Option α:=λ_=>none
def atF(E:Env)(fn:Func)(args res:List AM)(p:List Nat)(ks:List (St→Option (HP res)))(σ:St):Option (HP res):=
 wA E p (G0 fn) ks σ (OA E fn args res) nox (OA E fn args res)
def atQ(E:Env)(fn:Func)(args res:List AM)(κJ κL:Nat→St→Option (HP res))(p:List Nat)(ks:List (St→Option (HP res)))(σ:St):Option (HP res):=
 oP E κJ κL p (G0 fn) ks σ (OA E fn args res) nox (OA E fn args res)
def acf(E:Env)(fn:Func)(args res:List AM)(p:List Nat)(ks:List (St→Option (HP res))):List (Bool×Nat×(St→Option (HP res))):=
 iF E p (G0 fn) ks (OA E fn args res) nox (OA E fn args res)
theorem avw{E:Env}{fn:Func}{args res:List AM}{κJ κL:Nat→St→Option (HP res)}{p:List Nat}{ks:List (St→Option (HP res))}(g:List (St→Option (HP res)))(h:xw E κJ κL (acf E fn args res p ks)=g.map λf=>(f,f))(σ:St):
 atF E fn args res p ks σ=atQ E fn args res κJ κL p ks σ:=(nY p _ ks _ _ _ σ (akt g h)).symm
theorem akv{E:Env}{fn:Func}{args res:List AM}(hb:fn.body.isSome=true)(x:HP args):NT E fn args res x=atF E fn args res [] [] (entry args x 0 S0):=by
 unfold NT atF G0
 cases h:fn.body with
 |none=>rw[h]at hb;cases hb
 |some c=>rfl
def lpF(E:Env)(fn:Func)(args res:List AM)(c:List (Nat×CM))(p:List Nat)(ks:List (St→Option (HP res)))(n:Nat):St→Option (HP res):=
 DB (some c) (fun σ kn=>atF E fn args res p (ks++[kn]) σ) n
theorem YA(E:Env)(fn:Func)(args res:List AM)(c:List (Nat×CM))(p:List Nat)(ks:List (St→Option (HP res)))(n:Nat)(σ:St):
 lpF E fn args res c p ks (n+1) σ=atF E fn args res p (ks++[fun σ'=>xb (some c) σ' (lpF E fn args res c p ks n)]) σ:=rfl
def YB{β:Type}(κ:Nat→β):List (Nat×β)→Prop
 |[]=>True
 |q::r=>κ q.1=q.2∧YB κ r
def VB{β:Type}:List (β×β)→Prop
 |[]=>True
 |q::r=>q.1=q.2∧VB r
theorem VB.mem{β:Type}: ∀{l:List (β×β)},VB l→ ∀p∈l,p.1=p.2
 |q::r,h,p,hp=>by
  rcases a8.1 hp with rfl|hp
  ·exact h.1
  ·exact VB.mem h.2 p hp
theorem apv{β:Type}(d:β): ∀(l:List (Nat×β)),(l.map (·.1)).Nodup→ ∃κ:Nat→β,YB κ l
 |[],_=>⟨λ_=>d,trivial⟩
 |q::r,h=>by
  rw[bQ,AD]at h
  obtain⟨κ,hκ⟩:=apv d r h.2
  refine⟨λi=>if i=q.1 then q.2 else κ i,by simp,?_⟩
  have key: ∀(r':List (Nat×β)),(∀p∈r',p∈r)→YB κ r'→YB (λi=>if i=q.1 then q.2 else κ i) r':=by
   intro r'
   induction r' with
   |nil=>intros;trivial
   |cons p r' ih=>
    intro hm ha
    refine⟨?_,ih (λp' Rx=>hm p' (aZ _ Rx)) ha.2⟩
    have ko:p.1≠q.1:=λe=>h.1 (e▸fm (hm p (bs ..)))
    show(if p.1=q.1 then q.2 else κ p.1)=p.2
    rw[ah ko]
    exact ha.1
  exact key r (λ_ h=>h) hκ
theorem aAb{β:Type}(d:β)(l:List (Nat×β)){ks:List Nat}(h:l.map (·.1)=ks)(hd:ks.Nodup): ∃κ:Nat→β,YB κ l:=apv d l (h▸hd)
theorem at_eq(E:Env)(fn:Func)(args res:List AM){κJ κL:Nat→St→Option (HP res)}{p:List Nat}{ks:List (St→Option (HP res))}{l:List ((St→Option (HP res))×(St→Option (HP res)))}(h:xw E κJ κL (acf E fn args res p ks)=l)(hl:VB l)(σ:St):
 atF E fn args res p ks σ=atQ E fn args res κJ κL p ks σ:=(nY p _ ks _ _ _ σ (by unfold Jy;rw[show xw E κJ κL (iF E p (G0 fn) ks (OA E fn args res) nox (OA E fn args res))=l from h];exact hl.mem)).symm
end VM
end
section
namespace VM
open Go Go.RowKit
variable{P:Program}
def OB(i:Nat):List (Nat×Ty)→Option Ty
 |[]=>none
 |q::r=>cond (Nat.beq i q.1) (some q.2) (OB i r)
theorem Ki{i:Nat}{τ:Ty}: ∀{l:List (Nat×Ty)},OB i l=some τ→(i,τ)∈l
 |q::r,h=>by
  unfold OB at h
  cases hb:Nat.beq i q.1<;>rw[hb]at h
  ·exact aZ _ (Ki h)
  ·cases h;rw[fF hb];exact bs ..
structure G1(P:Program)(tab:List (Nat×Ty)):Prop where
 ok:apr P tab=true
 mixed:P.follows .mixedOrders=true
theorem VC{E:Env}(hE:tp P E)(avy:E.io=[]){f:FuncId}{fn:Func}(hf:P.funcs[f]? =some fn)(τs:List Ty)
  (hc:(Nat.beq E.nt fn.ntmps&&Nat.ble τs.length E.nt)=true) {w:World} {vs:List Value} {x:HP (τs.map .v)} (hA:kD w (λ_=>False) (τs.map .v) x vs)
  (h:NT E fn (τs.map .v) [.v .bool] x=some true):Calls P f vs.toArray w λe w'=>e= .returned (.bool true)∧Below w.heap.size w w':=by
 rw[bM]at hc
 have hnt:=fF hc.1
 have hlen:=FW hc.2
 have hh: ∀(τs:List Ty) (vs:List Value),eA (τs.map .v) vs=[]:=by
  intro τs
  induction τs with
  |nil=>intro vs;cases vs<;>rfl
  |cons τ τs ih=>intro vs;cases vs with
   |nil=>rfl
   |cons v vs=>simp[eA,dw,ih]
 have hi: ∀(τs:List Ty) (vs:List Value),fP (τs.map .v) vs=[]:=by
  intro τs
  induction τs with
  |nil=>intro vs;cases vs<;>rfl
  |cons τ τs ih=>intro vs;cases vs with
   |nil=>rfl
   |cons v vs=>simp[fP,AM.iQ,ih]
 refine(Ke (M0:=λ_=>False) (vs:=vs) hE hf hnt (λi m hm wh=> ?_) (λi hi=>by rw[avy]at hi;cases hi) (by rw[cK];rw[←hnt];exact hlen) (λb hb=>hb.elim) (by rw[hh];simpa using hA) (by rw[hh];exact List.nodup_nil) (λb _ hb=>hb) h).mono ?_
 ·rw[nP]at hm
  obtain⟨τ,_,rfl⟩:=Ap.1 hm
  cases wh
 ·rintro e w' ⟨v,rfl,us,M',rfl,Xm,hL,_,_⟩
  rw[hh]at hL
  rw[hi]at Xm
  simp only[RR]at Xm
  rcases Xm with⟨p,I8,h1,_⟩|⟨v,Nj,_,_,rfl,hv,rfl,_⟩
  ·cases h1
  ·refine⟨?_,hL.os,hL.tape,hL.output,hL.size,λb hb=>hL.frame b hb (by simp)⟩
   have:v= .bool true:=by
    simp only[A1,V,Ty.isAgg,jL,fG,Rd,fV,eF]at hv
    exact hv
   rw[this];rfl
def YC(P:Program):List Ty→List TypeId→Bool
 |[],[]=>true
 |τ::τs,t::ts=>(uC P τ (.inl t)&&τ.qD)&&((P.readableRec t&&decide (t<P.types.size))&&YC P τs ts)
 |_,_=>false
theorem LP: ∀{τs:List Ty} {ts:List TypeId},YC P τs ts=true→τs.length=ts.length∧ ∀(j:Nat) τ t,τs[j]? =some τ→ts[j]? =some t→(kX P τ t∧τ.qD=true∧P.readableRec t=true∧t<P.types.size)
 |[],[],_=>⟨rfl,λj τ t h=>by simp at h⟩
 |τ::τs,t::ts,h=>by
  simp only[YC,bM]at h
  obtain⟨⟨h1,h2⟩,⟨h3,h4⟩,h5⟩:=h
  obtain⟨hl,ih⟩:=LP h5
  refine⟨by simp[hl],λj τ' t' ha hb=> ?_⟩
  cases j with
  |zero=>
   simp only[Nz,iB]at ha hb
   subst ha;subst hb
   exact⟨iE h1,h2,h3,bt h4⟩
  |succ j=>exact ih j τ' t' (by simpa using ha) (by simpa using hb)
 |[],_::_,h|_::_,[],h=>by simp[YC]at h
theorem YD{H:Type}{enc:TypeId×Value→H}{w:World}{fn:Func}{args:Array Value}{ds:List (DataW H)}{ps:List MemPlace}{r:Reach}{b0:Nat}(laid:laidOutB P=true)(τs:List Ty)
  (hA:DataW.TrodAll enc P w 0 (λ_=>true) true fn.params.toList args.toList ds ps) (DH:YC P τs fn.params.toList=true)
  (hv: ∀(j:Nat) t v,fn.params[j]? =some t→args[j]? =some v→Value.okWide P w r b0 t v):
  (∃x:HP (τs.map .v),kD w (λ_=>False) (τs.map .v) x args.toList∧WFs τs x)∧ ∀w',Below w.heap.size w w'→ ∃I8,DataW.TrodAll enc P w' 0 (λb=>decide (b<w.heap.size)) true fn.params.toList args.toList ds I8:=
 Kh laid hA (LP DH).1 (LP DH).2 (λj t v h h'=>hv j t v (by rw[iA]at h;exact h) (by rw[iA]at h';exact h'))
end VM
end
