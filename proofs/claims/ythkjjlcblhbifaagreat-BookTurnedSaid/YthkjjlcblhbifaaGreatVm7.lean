/- A part of the proof of BookTurned of layer 18: a machine that reads a function of the program as an equation between values. -/
import Derived.Test.YthkjjlcblhbifaaGreatVm6
import Derived.Laws.StructEq
import Derived.OpenShut
import Derived.ChangeShapes
import Derived.ChangeMaps5
import Derived.RowKit
import Derived.ChangeOld
import Derived.Carry
import Derived.Below
import Derived.Test.YthkjjlcblhbifaaGreatVm0
set_option linter.all false
open List renaming length→ℓ
noncomputable section
section
namespace VM
open Go
variable{P:Program}{E:Env}{o:Oper}{a:Act}{w:World}{M:Nat→Prop}{ν:Nat→Value}{σ:St}{c:Ctx}{α:Type}{r:α}{next:Act→World→Prop}{Q:Exit→Act→World→Prop}
theorem Ss{m:AM}{ms:List AM}(x:HP (m::ms))(i:Nat)(σ:St):entry (m::ms) x i σ=entry ms (ui x) (i+1) (Sd m (q4 x) i σ):=by
 cases ms with
 |nil=>simp[entry,q4]
 |cons n ms=>simp[entry,q4,ui]
theorem Core.xN{tm:Array Value}(h:Core c σ tm w M ν){id:Nat}{v:Value}{e:br}(bl:σ.H id=none)(Vu:ER w M v e)
  (hd: ∀b,fD v=some b→ ∀i e',σ.H i=some e'→e'.mut→fD (ν i)≠some b) (hn: ∀b,fD v=some b→c.B≤b∨c.may b) (ho: ∀b e0 l0,e= .own e0 l0→fD v=some b→ ¬c.M0 b)
  (qQ: ∀τ x p j,e= .gk τ x p j→cm σ.H id (some e) j≠none∧ ∃b,v= .pointer (some ⟨b,0,none⟩)∧w.cell? ⟨b,cF p τ,none⟩=some (updν ν id v j):=by intro _ _ _ _ h;cases h):
  Core c ⟨σ.T,cm σ.H id (some e)⟩ tm w M (updν ν id v):=by
 have hm:=Mem.xN h.mem (id:=id) (v:=v) (e:=e) (λe' uw=>by rw[bl]at uw;cases uw) Vu hd hn ho (.inl bl) qQ
 refine h.tr ⟨hm,.refl w M,⟨λi e1 hi=> ?_,λi hi=> ?_⟩⟩
 ·have ct:i≠id:=λe=>by rw[e,bl]at hi;cases hi
  exact⟨e1,by rw[az _ _ ct];exact hi,.refl e1⟩
 ·have ct:i≠id:=λe=>hi (e▸bl)
  simp[updν,ct]
theorem Core.put{tm:Array Value}(h:Core c σ tm w M ν){d:Nat}{x:bG}(hx:VR w M σ.H ν x (tm.getD d undef)):Core c (σ.put d x) tm w M ν:=by
 refine⟨h.mem,λi=> ?_⟩
 by_cases hi:i=d
 ·subst hi;rw[vF];exact hx
 ·rw[BB _ _ hi];exact h.tmp i
theorem D7{tm:Array Value}: ∀{ms:List AM} {x:HP ms} {vs:List Value} {i:Nat} {σ:St} {ν:Nat→Value} {used:List Nat},Core c σ tm w M ν→kE w M ms x vs→(∀j v,vs[j]? =some v→tm.getD (i+j) undef=v)→
  (∀j,16*i≤j→σ.H j=none)→(∀j e b,σ.H j=some e→e.mut→fD (ν j)=some b→b∈used)→(used++eF ms vs).Nodup→(∀b∈eF ms vs,c.may b)→(∀b,c.may b→ ¬c.M0 b)→
  ∃ν',Core c (entry ms x i σ) tm w M ν'
 |[],x,vs,i,σ,ν,used,h,_,_,_,_,_,_,_=>⟨ν,h⟩
 |m::ms,x,vs,i,σ,ν,used,h,hA,OP,jx,Hk,wV,Su,GJ=>by
  rw[Ss]
  simp only[kE]at hA
  obtain⟨v,NC,rfl,h1,h2⟩:=hA
  have hv:tm.getD i undef=v:=by simpa using OP 0 v rfl
  have JN: ∀j u,NC[j]? =some u→tm.getD (i+1+j) undef=u:=λj u hj=>by
   have:=OP (j+1) u (by simpa using hj)
   rwa [show i+(j+1)=i+1+j from by omega]at this
  have bl:σ.H (16*i+15)=none:=jx _ ω
  have akO:eF (m::ms) (v::NC)=dA m v++eF ms NC:=rfl
  rw[akO]at wV Su
  have o9: ∀b,b∈dA m v→ ∀j e',σ.H j=some e'→e'.mut→fD (ν j)≠some b:=λb hb j e' hj ji fb=>
   kq wV (Hk j e' b hj ji fb) (cX _ hb)
  have wH: ∀{σ':St} {ν':Nat→Value},Core c σ' tm w M ν'→(∀j,16*(i+1)≤j→σ'.H j=none)→(∀j e b,σ'.H j=some e→e.mut→fD (ν' j)=some b→b∈used++dA m v)→ ∃ν'',Core c (entry ms (ui x) (i+1) σ') tm w M ν'':=
   λh' zP VG=>D7 h' h2 JN zP VG (by rw[bF];exact wV) (λb hb=>Su b (dD _ hb)) GJ
  have OK: ∀(e:br) (v':Value),v'=v→(∀b,fD v=some b→b∈dA m v)→(∀j,16*(i+1)≤j→cm σ.H (16*i+15) (some e) j=none)∧
    (∀j e1 b,cm σ.H (16*i+15) (some e) j=some e1→e1.mut→fD (updν ν (16*i+15) v' j)=some b→b∈used++dA m v):=by
   rintro e v' rfl hb
   refine⟨λj hj=>by rw[az _ _ ω];exact jx j ω,λj e1 b hj ji fb=> ?_⟩
   by_cases z8:j=16*i+15
   ·subst z8
    simp only[updν,ib]at fb
    exact dD _ (hb b fb)
   ·rw[az _ _ z8]at hj
    simp only[updν,z8,fI]at fb
    exact cX _ (Hk j e1 b hj ji fb)
  cases m with
  |v τ=>
   refine wH (σ':=σ.put i (.val τ (q4 x))) (h.put ?_) (λj hj=>jx j ω) (λj e b hj ji fb=>cX _ (Hk j e b hj ji fb))
   simp only[VR,hv];exact h1
  |fn f τ=>
   refine wH (σ':=σ.put i (.N7 f (qP τ (q4 x)))) (h.put ?_) (λj hj=>jx j ω) (λj e b hj ji fb=>cX _ (Hk j e b hj ji fb))
   rw[hv]
   simp only[A1,VR]at h1 ⊢
   obtain⟨us,hu,R2⟩:=h1
   exact⟨us,hu,jP.free R2⟩
  |own e=>
   have xD: ∀b,fD v=some b→b∈dA (.own e) v:=λb hb=>by simp[dA,hb]
   have hc:=h.xN bl (v:=v) (e:= .own e (q4 x)) h1 (λb hb=>o9 b (xD b hb)) (λb hb=> .inr (Su b (cX _ (xD b hb)))) (λb _ _ _ hb=>GJ b (Su b (cX _ (xD b hb))))
   obtain⟨zP,VG⟩:=OK (.own e (q4 x)) v rfl xD
   refine wH (σ':=(σ.put i (.ref (16*i+15))).kt (16*i+15) (some (.own e (q4 x)))) (ν':=updν ν (16*i+15) v) (hc.put (d:=i) (x:= .ref (16*i+15)) ?_) zP VG
   simp only[VR,hv]
   exact⟨by rw[ay];simp,by simp[updν]⟩
  |lo e=>
   have xD: ∀b,fD v=some b→b∈dA (.lo e) v:=λb hb=>by simp[dA,hb]
   have hc:=h.xN bl (v:=v) (e:= .own e (q4 x)) h1 (λb hb=>o9 b (xD b hb)) (λb hb=> .inr (Su b (cX _ (xD b hb)))) (λb _ _ _ hb=>GJ b (Su b (cX _ (xD b hb))))
   obtain⟨zP,VG⟩:=OK (.own e (q4 x)) v rfl xD
   refine wH (σ':=(σ.put i (.ref (16*i+15))).kt (16*i+15) (some (.own e (q4 x)))) (ν':=updν ν (16*i+15) v) (hc.put (d:=i) (x:= .ref (16*i+15)) ?_) zP VG
   simp only[VR,hv]
   exact⟨by rw[ay];simp,by simp[updν]⟩
  |io τ=>
   have xD: ∀b,fD v=some b→b∈dA (.io τ) v:=λb hb=>by simp[dA,hb]
   have hc:=h.xN bl (v:=v) (e:= .obj τ (q4 x)) h1 (λb hb=>o9 b (xD b hb)) (λb hb=> .inr (Su b (cX _ (xD b hb)))) (λb _ _ he=>by cases he)
   obtain⟨zP,VG⟩:=OK (.obj τ (q4 x)) v rfl xD
   refine wH (σ':=(σ.put i (.jf (16*i+15) [])).kt (16*i+15) (some (.obj τ (q4 x)))) (ν':=updν ν (16*i+15) v) (hc.put (d:=i) (x:= .jf (16*i+15) []) ?_) zP VG
   simp only[A1,ER]at h1
   obtain⟨b,cs,t,YB,_⟩:=h1
   simp only[VR,hv]
   exact⟨_,ay _ _ _,trivial,b,by simp[updν,YB],YB⟩
  |jf τ=>
   refine wH (σ':=σ.put i (.sd τ (q4 x))) (h.put ?_) (λj hj=>jx j ω) (λj e b hj ji fb=>cX _ (Hk j e b hj ji fb))
   rw[hv]
   simp only[A1,VR]at h1 ⊢
   exact h1
  |ptr τ=>
   refine wH (σ':=σ) h (λj hj=>jx j ω) (λj e b hj ji fb=>cX _ (Hk j e b hj ji fb))
  |sp τ n e=>
   refine wH (σ':=σ) h (λj hj=>jx j ω) (λj e b hj ji fb=>cX _ (Hk j e b hj ji fb))
def vJ(tm:Array Value):ResultVar→Sem Value
 | .tmp t=>pure (tm.getD t undef)
 | .cell x t=>do loadVar t (←asAddr (tm.getD x undef))
def CU(P:Program)(tm:Array Value)(w:World)(rv:ResultVar)(u:Value):Prop:=(vJ tm rv).run P w= .ok u w
def Kp(P:Program)(tm:Array Value)(w:World):List (ResultVar ⊕ Nat)→List Value→List Value→Prop
 |[],us,ps=>us=[]∧ps=[]
 | .inl rv::rs,us,ps=> ∃u E5,us=u::E5∧CU P tm w rv u∧Kp P tm w rs E5 ps
 | .inr i::rs,us,ps=> ∃p Jp,ps=p::Jp∧p=tm.getD i undef∧Kp P tm w rs us Jp
theorem Core.acD{tm:Array Value}{H1:Nat→Option br}{M1:Nat→Prop}(h: ∀i,VR w M σ.H ν (σ.T i) (tm.getD i undef))(k:fP w M w M1)(g:ue σ.H ν H1 ν): ∀i,VR w M1 H1 ν (σ.T i) (tm.getD i undef):=
 λi=>VR.ch k g (h i)
theorem D8(hE:EnvTy P E){tm:Array Value}{H0 Hq:Nat→Option br}{M1:Nat→Prop}{uo uf:js}{io:List (Nat×AM)}{hs:List Nat}(h:kF c w M ν H0 σ.H Hq M1 uo uf io hs)(ht: ∀i,VR w M1 σ.H ν (σ.T i) (tm.getD i undef))
  {m:AM} {rs:ResultVar ⊕ Nat} {k:m.den→St→Option α} (hk:Kf E m rs σ k=some r):
  ∃y σ' Nx Ny Ji XT M2 u,k y σ'=some r∧σ'.T=σ.T∧kF c w M ν H0 σ'.H XT M2 Nx Ny Ji (hs++dA m u)∧fP w M1 w M2∧ue σ.H ν σ'.H ν∧A1 w M2 m y u∧
   ((m.iU=false∧m.acn=false∧ ∃rv,rs= .inl rv∧CU P tm w rv u)∨(m.iU=true∧ ∃i,rs= .inr i∧u=tm.getD i undef)):=by
 unfold Kf at hk
 split at hk
 ·
  rename_i τ t k
  obtain⟨y,rd,ups,hk,hy⟩:=FK h.mem (ht t) hk
  have Sv:CU P tm w (.tmp t) (tm.getD t undef):=by simp[CU,vJ]
  rcases hy with⟨rfl,hV⟩|⟨id,e,l,rfl,bl,hV⟩
  ·exact⟨y,σ,uo,uf,io,Hq,M1,_,hk,rfl,by simpa [dA]using h,.refl w M1,.refl _ ν,hV,.inl ⟨rfl,rfl,_,rfl,Sv⟩⟩
  ·obtain⟨M2,hA,hK,LR⟩:=h.freeze bl
   exact⟨y,_,uo,_,io,Hq,M2,_,hk,rfl,(by simp only[dA,cA];exact hA),hK,.upd bl ⟨rfl,rfl⟩,hV M2 LR,.inl ⟨rfl,rfl,_,rfl,Sv⟩⟩
 ·
  rename_i τ x t k
  split at hk
  ·rename_i τ' DW
   obtain⟨e1,Ud⟩:=dX hk
   clear hk
   subst e1
   obtain⟨υ,z,rd,hk,b,off,cs,hv,pH,kD⟩:=DV h.mem (ht x) Ud
   obtain⟨e2,VK⟩:=bA hk
   subst e2
   refine⟨_,σ,uo,uf,io,Hq,M1,cr _ cs,VK,rfl,by simpa [dA]using h,.refl w M1,.refl _ ν,V.cr kD,.inl ⟨rfl,rfl,_,rfl,?_⟩⟩
   simp only[CU,vJ,hv]
   simp[asAddr,DT (hE.ty t _ DW) pH kD]
  ·cases hk
 ·
  rename_i e t k
  have hv:=ht t
  have Sv:CU P tm w (.tmp t) (tm.getD t undef):=by simp[CU,vJ]
  split at hk
  ·rename_i hT
   rw[hT]at hv
   obtain⟨ad,hv⟩:=VR.emp.1 hv
   have hb:fD (.slice ad 0 0)=none:=by cases ad<;>simp[fD]
   exact⟨[],σ,uo,uf,io,Hq,M1,_,hk,rfl,by rw[hv];simpa [dA,hb]using h,.refl w M1,.refl _ ν,by rw[hv];simp only[A1,ER];exact .inl ⟨trivial,ad,rfl⟩,.inl ⟨rfl,rfl,_,rfl,Sv⟩⟩
  ·rename_i id hT
   rw[hT]at hv
   simp only[VR]at hv
   split at hk
   ·rename_i e' l bl
    obtain⟨e1,hk⟩:=bA hk
    cases e1
    refine⟨_,_,_,uf,io,_,M1,ν id,hk,rfl,(by simp only[dA];exact h.hand bl),.refl w M1,.upd bl (br.kp _),h.mem.jQ id _ bl,.inl ⟨rfl,rfl,_,rfl,by rw[←hv.2];exact Sv⟩⟩
   ·cases hk
  ·cases hk
 ·
  rename_i τ i k
  have hv:=ht i
  split at hk
  ·rename_i id hT
   rw[hT]at hv
   split at hk
   ·rename_i υ z bl
    obtain⟨e1,hk⟩:=bA hk
    subst e1
    simp only[VR]at hv
    obtain⟨e,he,lQ⟩:=hv
    rw[bl]at he;cases he
    simp only[AR]at lQ
    obtain⟨_,b,hb,hv⟩:=lQ
    have YB:tm.getD i undef=ν id:=by rw[hv,hb];rfl
    refine⟨_,_,uo,uf,_,_,M1,ν id,hk,rfl,(by simp only[dA];exact h.akz bl),.refl w M1,.upd bl (br.kp _),h.mem.jQ id _ bl,.inr ⟨rfl,i,rfl,YB.symm⟩⟩
   ·cases hk
  ·cases hk
 ·
  rename_i e i k
  have hv:=ht i
  split at hk
  ·rename_i id hT
   rw[hT]at hv
   simp only[VR]at hv
   split at hk
   ·rename_i e' l bl
    obtain⟨e1,hk⟩:=bA hk
    cases e1
    refine⟨_,_,uo,uf,_,_,M1,ν id,hk,rfl,(by simp only[dA];exact h.aiR bl),.refl w M1,.upd bl (br.kp _),h.mem.jQ id _ bl,.inr ⟨rfl,i,rfl,hv.2.symm⟩⟩
   ·cases hk
  ·cases hk
 ·
  rename_i τ t k
  have hv:=ht t
  have Sv:CU P tm w (.tmp t) (tm.getD t undef):=by simp[CU,vJ]
  split at hk
  ·rename_i id hT
   rw[hT]at hv
   split at hk
   ·rename_i υ z bl
    obtain⟨e1,hk⟩:=bA hk
    subst e1
    simp only[VR]at hv
    obtain⟨e,he,lQ⟩:=hv
    rw[bl]at he;cases he
    simp only[AR]at lQ
    obtain⟨_,b,hb,hv⟩:=lQ
    have YB:tm.getD t undef=ν id:=by rw[hv,hb];rfl
    refine⟨_,_,uo,uf,_,_,M1,ν id,hk,rfl,(by simp only[dA];exact h.akz bl),.refl w M1,.upd bl (br.kp _),h.mem.jQ id _ bl,.inl ⟨rfl,rfl,_,rfl,by rw[←YB];exact Sv⟩⟩
   ·cases hk
  ·cases hk
 ·
  rename_i τ n e x t k
  split at hk
  ·rename_i τ' id DW hT
   obtain⟨e1,Ud⟩:=dX hk
   clear hk
   subst e1
   have hv:=ht x
   rw[hT]at hv
   split at Ud
   ·rename_i υ z q j bl
    obtain⟨hpq,VK⟩:=cG Ud
    clear Ud
    have:=zQ hpq
    subst this
    obtain⟨e2,hk3⟩:=bA VK
    clear VK
    subst e2
    split at hk3
    ·rename_i e' l hj
     obtain⟨e3,hk4⟩:=bA hk3
     clear hk3
     cases e3
     obtain⟨y,hk5,so,_⟩:=GR hk4
     clear hk4
     obtain⟨b,cs,te,kf,e0,hb,hg,hM,hr,uh,h1,hq,eU,hj0⟩:=h.mem.linked bl
     simp only[VR]at hv
     obtain⟨e1,GV,lQ⟩:=hv
     rw[bl]at GV;cases GV
     simp only[AR]at lQ
     obtain⟨hi,b',fb,hu⟩:=lQ
     rw[hb]at fb;cases fb
     have hl:cs.toList.length=υ.size:=by rw[uh,eM (by simp only[aJ];omega),hr.length]
     have apG:cs.toList=eQ kf (gy υ n) [ν j]:=by simpa [cF]using uh
     have pH:At w b 0 cs.toList:=by
      have:=At.of_block hg 0 cs.toList.length
      rw[cM,ir]at this
      exact this
     have hh:=yS (w:=w) (M:=M1) (e:=e) (rF hq) hr apG
     have hA:=h.hand hj
     rw[←hh.1]at hA
     refine⟨y,_,_,_,_,_,M1,.agg cs,hk5,rfl,hA,.refl w M1,.upd hj (br.kp _),?_,.inl ⟨rfl,rfl,_,rfl,?_⟩⟩
     ·simp only[A1]
      exact⟨cs,kf,ν j,l,z,rfl,rF hq,hr,apG,h.mem.jQ j _ hj,so⟩
     ·simp only[CU,vJ,hu]
      simp[asAddr]
      exact DU (P:=P) (hE.ty t _ DW) (GW (rF hq)) pH hl
    ·cases hk3
   ·cases Ud
  ·cases hk
 ·cases hk
theorem Hl(hE:EnvTy P E){tm:Array Value}{H0:Nat→Option br}: ∀{ms:List AM} {rs:List (ResultVar ⊕ Nat)} {σ:St} {Hq:Nat→Option br} {M1:Nat→Prop} {uo uf:js} {io:List (Nat×AM)} {hs:List Nat} {K:HP ms→Option α},
  kF c w M ν H0 σ.H Hq M1 uo uf io hs→(∀i,VR w M1 σ.H ν (σ.T i) (tm.getD i undef))→LJ E ms rs σ K=some r→
  ∃y us ps H2 Nx Ny Ji XT M2,K y=some r∧kF c w M ν H0 H2 XT M2 Nx Ny Ji (hs++bK ms us ps)∧fP w M1 w M2∧RR w M2 ms y us ps∧Kp P tm w rs us ps
 |[],[],σ,Hq,M1,uo,uf,io,hs,K,h,ht,hk=>⟨(),[],[],σ.H,uo,uf,io,Hq,M1,hk,by simpa [bK]using h,.refl w M1,⟨rfl,rfl⟩,⟨rfl,rfl⟩⟩
 |[m],[q],σ,Hq,M1,uo,uf,io,hs,K,h,ht,hk0=>by
  obtain⟨y,σ',Nx,Ny,Ji,XT,M2,u,hk,hT,hA,hK,hG,hy,hu⟩:=D8 hE h ht (hk0:Kf E m q σ _=some r)
  clear hk0
  rcases hu with⟨h1,h2,rv,rfl,hv⟩|⟨h1,i,rfl,hv⟩
  ·refine⟨y,[u],[],_,_,_,_,_,M2,hk,by simpa [bK,h1]using hA,hK,?_,?_⟩
   ·simp only[RR];exact .inr ⟨u,[],h1,h2,rfl,hy,by simp⟩
   ·simp only[Kp];exact⟨u,[],rfl,hv,by simp⟩
  ·refine⟨y,[],[u],_,_,_,_,_,M2,hk,by simpa [bK,h1]using hA,hK,?_,?_⟩
   ·simp only[RR];exact .inl ⟨u,[],h1,rfl,hy,by simp⟩
   ·simp only[Kp];exact⟨u,[],rfl,hv,by simp⟩
 |m::n::ms,q::rs,σ,Hq,M1,uo,uf,io,hs,K,h,ht,hk0=>by
  obtain⟨y,σ',Nx,Ny,Ji,XT,M2,u,Ud,hT,hA,hK,hG,hy,hu⟩:=D8 hE h ht (hk0:Kf E m q σ _=some r)
  obtain⟨ys,us,ps,H3,uo3,uf3,io3,Hq3,M3,hk,hA3,hK3,hys,hrs⟩:=Hl (ms:=n::ms) hE hA (λi=>by rw[hT];exact Core.acD ht hK hG i) Ud
  have Km:A1 w M3 m y u:=A1.xM hK3 (λb hb=>⟨rfl,hA3.hM b (cX _ (dD _ hb))⟩) hy
  clear hk0
  rcases hu with⟨h1,h2,rv,rfl,hv⟩|⟨h1,i,rfl,hv⟩
  ·refine⟨(y,ys),u::us,ps,H3,uo3,uf3,io3,Hq3,M3,hk,?_,hK.trans hK3,?_,?_⟩
   ·have:bK (m::n::ms) (u::us) ps=dA m u++bK (n::ms) us ps:=by rw[bK];simp[h1]
    rw[this,←bF];exact hA3
   ·rw[RR];exact .inr ⟨u,us,h1,h2,rfl,Km,hys⟩
   ·simp only[Kp];exact⟨u,us,rfl,hv,hrs⟩
  ·refine⟨(y,ys),us,u::ps,H3,uo3,uf3,io3,Hq3,M3,hk,?_,hK.trans hK3,?_,?_⟩
   ·have:bK (m::n::ms) us (u::ps)=dA m u++bK (n::ms) us ps:=by rw[bK];simp[h1]
    rw[this,←bF];exact hA3
   ·rw[RR];exact .inl ⟨u,ps,h1,rfl,Km,hys⟩
   ·simp only[Kp];exact⟨u,ps,rfl,hv,hrs⟩
 |[],_::_,_,_,_,_,_,_,_,_,_,_,hk=>by simp[LJ]at hk
 |[_],[],_,_,_,_,_,_,_,_,_,_,hk=>by simp[LJ]at hk
 |[_],_::_::_,_,_,_,_,_,_,_,_,_,_,hk=>by simp[LJ]at hk
 |_::_::_,[],_,_,_,_,_,_,_,_,_,_,hk=>by simp[LJ]at hk
theorem Kq{tm:Array Value}: ∀{rv:List ResultVar} {is:List (ResultVar ⊕ Nat)} {us ps:List Value},Kp P tm w (rv.map .inl++is) us ps→
  ∃us1 us2,us=us1++us2∧us1.length=rv.length∧(∀i (h:i<rv.length) (h':i<us1.length),CU P tm w rv[i] us1[i])∧Kp P tm w is us2 ps
 |[],is,us,ps,h=>⟨[],us,rfl,rfl,λi h=>by simp at h,h⟩
 |rv::rvs,is,us,ps,h=>by
  simp only[ca,mZ,Kp]at h
  obtain⟨u,E5,rfl,h1,h2⟩:=h
  obtain⟨us1,us2,rfl,hl,h3,h4⟩:=Kq h2
  refine⟨u::us1,us2,rfl,by simp[hl],λi hi oj=> ?_,h4⟩
  cases i with
  |zero=>exact h1
  |succ i=>exact h3 i (by simpa using hi) (by simpa using oj)
theorem vK{tm:Array Value}: ∀{ms:List AM} {vs:List Value} {i:Nat} {us ps:List Value},vs.length=ms.length→(∀j v m,vs[j]? =some v→ms[j]? =some m→m.iU=true→tm.getD (i+j) undef=v)→Kp P tm w (zn ms i) us ps→us=[]∧ps=fQ ms vs
 |[],vs,i,us,ps,_,_,h=>by simp only[zn,Kp]at h;simpa [fQ]using h
 |m::ms,[],_,_,_,hl,_,_=>by simp at hl
 |m::ms,v::vs,i,us,ps,hl,OP,h=>by
  have JN: ∀j u m,vs[j]? =some u→ms[j]? =some m→m.iU=true→tm.getD (i+1+j) undef=u:=λj u m hj hm wI=>by
   have:=OP (j+1) u m (by simpa using hj) (by simpa using hm) wI
   rwa [show i+(j+1)=i+1+j from by omega]at this
  have Jj:vs.length=ms.length:=by simpa using hl
  cases m with
  |io τ=>
   simp only[zn,Kp]at h
   obtain⟨p,Jp,rfl,hp,h⟩:=h
   obtain⟨h1,h2⟩:=vK Jj JN h
   refine⟨h1,?_⟩
   have:=OP 0 v (.io τ) rfl rfl rfl
   simp only[mB]at this
   simp[fQ,AM.iU,h2,hp,this]
  |lo e=>
   simp only[zn,Kp]at h
   obtain⟨p,Jp,rfl,hp,h⟩:=h
   obtain⟨h1,h2⟩:=vK Jj JN h
   refine⟨h1,?_⟩
   have:=OP 0 v (.lo e) rfl rfl rfl
   simp only[mB]at this
   simp[fQ,AM.iU,h2,hp,this]
  |v τ=>
   obtain⟨h1,h2⟩:=vK Jj JN (show Kp P tm w (zn ms (i+1)) us ps from h)
   exact⟨h1,by simp[fQ,AM.iU,h2]⟩
  |own τ=>
   obtain⟨h1,h2⟩:=vK Jj JN (show Kp P tm w (zn ms (i+1)) us ps from h)
   exact⟨h1,by simp[fQ,AM.iU,h2]⟩
  |fn f τ=>
   obtain⟨h1,h2⟩:=vK Jj JN (show Kp P tm w (zn ms (i+1)) us ps from h)
   exact⟨h1,by simp[fQ,AM.iU,h2]⟩
  |jf τ=>
   obtain⟨h1,h2⟩:=vK Jj JN (show Kp P tm w (zn ms (i+1)) us ps from h)
   exact⟨h1,by simp[fQ,AM.iU,h2]⟩
  |ptr τ=>
   obtain⟨h1,h2⟩:=vK Jj JN (show Kp P tm w (zn ms (i+1)) us ps from h)
   exact⟨h1,by simp[fQ,AM.iU,h2]⟩
  |sp τ n e=>
   obtain⟨h1,h2⟩:=vK Jj JN (show Kp P tm w (zn ms (i+1)) us ps from h)
   exact⟨h1,by simp[fQ,AM.iU,h2]⟩
theorem OS{fn:Func}{tm:Array Value}{us:List Value}(hl:us.length=fn.results.toList.length)(h: ∀i (h:i<fn.results.toList.length) (h':i<us.length),CU P tm w fn.results.toList[i] us[i]):
  (results fn tm).run P w= .ok (xL us) w:=by
 have key: ∀(rs:List ResultVar) (us:List Value),us.length=rs.length→(∀i (h:i<rs.length) (h':i<us.length),CU P tm w rs[i] us[i])→(rs.mapM (vJ tm)).run P w= .ok us w:=by
  intro rs
  induction rs with
  |nil=>intro us hl _;cases us with
   |nil=>simp
   |cons _ _=>simp at hl
  |cons r rs ih=>intro us hl h;cases us with
   |nil=>simp at hl
   |cons u us=>
    have h0:(vJ tm r).run P w= .ok u w:=h 0 (by simp) (by simp)
    have h1:=ih us (by simpa using hl) (λi hi oj=>h (i+1) (by simpa using hi) (by simpa using oj))
    simp[AZ,h0,h1]
 have h2:=key fn.results.toList us hl h
 have h3:results fn tm=(do let vs ←fn.results.mapM (vJ tm);pure (if h:vs.size=1 then vs[0]else .tuple vs)):=by
  unfold results
  congr 1
 rw[h3,Array.mapM_eq_mapM_toList]
 simp only[Sem.run_bind,Sem.run_map,h2]
 unfold xL
 by_cases h3:us.length=1
 ·simp[h3]
 ·simp[h3]
theorem Kr(hE:tF P E){f:FuncId}{fn:Func}(hf:P.funcs[f]? =some fn)(hnt:E.nt=fn.ntmps){args res:List AM}(wI: ∀i m,args[i]? =some m→m.iU=true→i∈E.io)(apJ: ∀i∈E.io,i<args.length)(hlen:args.length≤fn.ntmps)
  {M0:Nat→Prop} {vs:List Value} {x:HP args} {y:HP res} (tc: ∀b,M0 b→b<w.heap.size) (hA:kE w (λb=>M0 b∨b∈eF args vs) args x vs) (wV:(eF args vs).Nodup) (xP: ∀b∈eF args vs,¬M0 b)
  (h:Of E fn args res x=some y):
  Calls P f vs.toArray w λe w'=> ∃v,e= .returned v∧ ∃us M',v=xL us∧RR w' M' res y us (fQ args vs)∧Left w M0 (eF args vs) w' M'∧(bK res us (fQ args vs)).Nodup∧ ∀b∈bK res us (fQ args vs),¬M0 b:=by
 unfold Of at h
 split at h
 ·cases h
 rename_i cd hb
 simp only at h
 have hvl: ∀{ms:List AM} {x:HP ms} {vs:List Value} {M:Nat→Prop},kE w M ms x vs→vs.length=ms.length:=by
  intro ms
  induction ms with
  |nil=>intro x vs M h;simp only[kE]at h;subst h;rfl
  |cons m ms ih=>intro x vs M h;simp only[kE]at h;obtain⟨v,NC,rfl,_,h⟩:=h;simp[ih h]
 have hvs:=hvl hA
 let tm:Array Value:=vs.toArray++Array.replicate (fn.ntmps-vs.toArray.size) undef
 have OP: ∀j v,vs[j]? =some v→tm.getD j undef=v:=by
  intro j v hj
  have eU:j<vs.length:=(vp.1 hj).1
  rw[tu,Array.getElem?_append_left (by simpa using eU),Gm,hj];rfl
 have qR:tm.size=fn.ntmps:=by simp[tm];omega
 have hhb: ∀{ms:List AM} {x:HP ms} {vs:List Value} {M:Nat→Prop},kE w M ms x vs→ ∀b∈eF ms vs,b<w.heap.size:=by
  intro ms
  induction ms with
  |nil=>intro x vs M h b hb;simp[eF]at hb
  |cons m ms ih=>
   intro x vs M h b hb
   simp only[kE]at h
   obtain⟨v,NC,rfl,h1,h⟩:=h
   simp only[eF,bn]at hb
   rcases hb with hb|hb
   ·cases m with
    |v _=>simp[dA]at hb
    |fn _ _=>simp[dA]at hb
    |jf _=>simp[dA]at hb
    |own e=>
     simp only[dA,fv,A1,ER]at hb h1
     rcases h1 with⟨_,a,hv⟩|⟨b',cs,t,cap,hv,hg,_⟩
     ·rw[hv]at hb;cases a<;>simp[fD]at hb
     ·rw[hv]at hb
      simp only[fD]at hb
      split at hb
      ·cases hb
      ·simp only[iI]at hb;subst hb;exact lt_of_block hg
    |lo e=>
     simp only[dA,fv,A1,ER]at hb h1
     rcases h1 with⟨_,a,hv⟩|⟨b',cs,t,cap,hv,hg,_⟩
     ·rw[hv]at hb;cases a<;>simp[fD]at hb
     ·rw[hv]at hb
      simp only[fD]at hb
      split at hb
      ·cases hb
      ·simp only[iI]at hb;subst hb;exact lt_of_block hg
    |io τ=>
     simp only[dA,fv,A1,ER]at hb h1
     obtain⟨b',cs,t,hv,hg,_⟩:=h1
     rw[hv]at hb
     simp only[fD,iI]at hb;subst hb;exact lt_of_block hg
    |ptr τ=>
     simp only[dA,fv,A1,ER]at hb h1
     obtain⟨b',cs,t,hv,hg,_⟩:=h1
     rw[hv]at hb
     simp only[fD,iI]at hb;subst hb;exact lt_of_block hg
    |sp τ n e=>
     simp only[A1]at h1
     obtain⟨cs,kf,u,l,z,rfl,hq,hr,uh,hu,_⟩:=h1
     rw[(yS hq hr uh).1,fv]at hb
     simp only[ER]at hu
     rcases hu with⟨_,a,hv⟩|⟨b',cs,t,cap,hv,hg,_⟩
     ·rw[hv]at hb;cases a<;>simp[fD]at hb
     ·rw[hv]at hb
      simp only[fD]at hb
      split at hb
      ·cases hb
      ·simp only[iI]at hb;subst hb;exact lt_of_block hg
   ·exact ih h b hb
 let cx:Ctx:={B:=w.heap.size,w0:=w,M0:=M0,may:=λb=>b∈eF args vs,arg:=λi=>tm.getD i undef}
 have hm0:Mem cx (λ_=>none) w (λb=>M0 b∨b∈eF args vs) (λ_=>undef):=
  ⟨λi e hi=>(by cases hi),λi j e e' b _ hi=>(by cases hi),λi e b hi=>(by cases hi),λi e l b hi=>(by cases hi),λi τ x p j hi=>(by cases hi),λb hb=> .inl hb,λb hb=>hb.elim (tc b) (hhb hA b),λ_ _ _=>rfl,aH _,⟨tc,xP⟩,rfl,rfl,rfl⟩
 have T1:Core cx ⟨λ_=> .any,λ_=>none⟩ tm w (λb=>M0 b∨b∈eF args vs) (λ_=>undef):=⟨hm0,λi=>by simp[VR]⟩
 obtain⟨ν',hc⟩:=D7 (i:=0) (used:=[]) T1 hA (λj v hj=>by rw[fX];exact OP j v hj) (λ_ _=>rfl) (λj e b hj=>by cases hj) (by simpa using wV) (λb hb=>hb) (λb hb=>xP b hb)
 have hI:Inv cx E (entry args x 0 ⟨λ_=> .any,λ_=>none⟩) {tmps:=tm,defers:=[]} w:=⟨⟨_,_,hc⟩,by rw[hnt,qR],rfl,λi _=>rfl⟩
 refine calls_of_wp hf hb ?_
 have apK: ∀(σ':St) (a':Act) (w':World),LJ E res (fn.results.toList.map .inl++zn args 0) σ' some=some y→Inv cx E σ' a' w'→
   a'.defers=[]∧ ∃v,(results fn a'.tmps).run P w'= .ok v w'∧ ∃v',Ending.returned v= .returned v'∧ ∃us M',v'=xL us∧RR w' M' res y us (fQ args vs)∧Left w M0 (eF args vs) w' M'∧(bK res us (fQ args vs)).Nodup∧ ∀b∈bK res us (fQ args vs),¬M0 b:=by
  rintro σ' a' w' hk ⟨⟨M1,ν1,FJ⟩,NA,hd1,xO⟩
  obtain⟨y',us,ps,H2,uo,uf,io,Hq,M2,hy,YZ,hK,XU,hRs⟩:=Hl (P:=P) hE.toEnvTy (kF.start FJ.mem) FJ.tmp hk
  cases hy
  obtain⟨us1,us2,rfl,hl,hv,avN⟩:=Kq hRs
  obtain⟨rfl,Jn⟩:=vK (vs:=vs) hvs (λj v m hj hm G8=>by
   rw[fX]
   rw[xO j (wI j m hm G8)]
   exact OP j v hj) avN
  rw[cA]at*
  subst Jn
  simp only[cD]at YZ
  have kG: ∀b∈bK res us1 (fQ args vs),b<w.heap.size→b∈eF args vs:=λb hb eU=>(YZ.OB b hb).elim (λh'=>absurd eU (Nat.not_lt.2 h')) (λh=>h)
  have Km:fP w' M2 w' (λb=>M2 b∧(b<w.heap.size→M0 b∨b∈eF args vs)):=⟨aH _,λ_ _ _=>rfl,λ_ _ h=>h.1⟩
  refine⟨hd1,xL us1,OS hl hv,_,rfl,us1,λb=>M2 b∧(b<w.heap.size→M0 b∨b∈eF args vs),rfl,RR.xM Km (λb hb=>⟨rfl,XU.sr b hb,λeU=> .inr (kG b hb eU)⟩) XU,⟨λb hb=>⟨YZ.mem.sub b hb,λ_=> .inl hb⟩,λb hb=>YZ.mem.GI b hb.1,λb eU hb=>hb.2 eU,λb eU hb=>YZ.mem.frame b eU hb,YZ.mem.size,YZ.mem.os,YZ.mem.tape,YZ.mem.output⟩,YZ.nd,λb hb h0=> ?_⟩
  rcases YZ.OB b hb with h'|h'
  ·exact absurd (tc b h0) (Nat.not_lt.2 h')
  ·exact xP b h' h0
 refine V3 (c:=cx) hE cd _ _ w _ _ _ _ hI h (fun σ' a' w' hk zD=> ?_) (λi σ' a' w' hk=>by cases hk) (fun σ' a' w' hk zD=> ?_)
 ·exact apK σ' a' w' hk zD
 ·exact apK σ' a' w' hk zD
theorem Y0(hE:tF P E){f:FuncId}{fn:Func}(hf:P.funcs[f]? =some fn)(BE:(fn.name== "runtime.NumGoroutine")=false)(hnt:E.nt=fn.ntmps)(S:nf)
  (wI: ∀i m,S.args[i]? =some m→m.iU=true→i∈E.io) (apJ: ∀i∈E.io,i<S.args.length) (hlen:S.args.length≤fn.ntmps) (hq:S.quiet=true→S.res.all AM.flat=true) (avO:nF S.args=nF S.res)
  (dH: ∀x,Of E fn S.args S.res x=S.run x):jw P f S:=by
 refine⟨hq,avO,λM0 w vs x y tc hA wV xP hy=> ?_⟩
 have hb:fn.body.isNone=false:=by
  have:=dH x
  rw[hy]at this
  unfold Of at this
  split at this
  ·cases this
  ·rename_i cd hcd;rw[hcd];rfl
 exact uj hf BE hb (Kr hE hf hnt wI apJ hlen tc hA wV xP (by rw[dH,hy]))
end VM
end
section
namespace VM
open Go
variable{P:Program}
def BF:Ty→List Value→Option (List Value)
 | .int k,v::r=>match v with
  | .int k' n=>if k'=k∧n=0 then some r else none
  |_=>none
 | .bool,v::r=>match v with
  | .bool false=>some r
  |_=>none
 | .str,v::r=>match v with
  | .string s=>if s.data.size=0 then some r else none
  |_=>none
 | .slice _,v::r=>match v with
  | .slice none n m=>if n=0∧m=0 then some r else none
  |_=>none
 | .unit,r=>some r
 | .pair a b,r=>match BF a r with
  |some r=>BF b r
  |none=>none
 | .arr n e,r=>Nat.rec (motive:=λ_=>List Value→Option (List Value)) (λr=>some r) (λ_ ih r=>match BF e r with
  |some r=>ih r
  |none=>none) n r
 |_,[]=>none
theorem BG: ∀{τ:Ty} {l r:List Value},BF τ l=some r→l=τ.cL++r
 | .int k,[],_,h| .bool,[],_,h| .str,[],_,h| .slice _,[],_,h=>by simp[BF]at h
 | .int k,v::l,r,h=>by
  simp only[BF]at h
  split at h
  ·split at h
   ·rename_i hc;obtain⟨rfl,rfl⟩:=hc;cases h;rfl
   ·cases h
  ·cases h
 | .bool,v::l,r,h=>by
  simp only[BF]at h
  split at h
  ·cases h;rfl
  ·cases h
 | .str,v::l,r,h=>by
  simp only[BF]at h
  split at h
  ·rename_i s
   split at h
   ·rename_i hs
    cases h
    have:s=ByteArray.empty:=by
     obtain⟨d⟩:=s
     have:d= #[]:=Array.eq_empty_of_size_eq_zero hs
     subst this;rfl
    subst this;rfl
   ·cases h
  ·cases h
 | .slice _,v::l,r,h=>by
  simp only[BF]at h
  split at h
  ·split at h
   ·rename_i hc;obtain⟨rfl,rfl⟩:=hc;cases h;rfl
   ·cases h
  ·cases h
 | .unit,l,r,h=>by simp only[BF]at h;cases h;rfl
 | .pair a b,l,r,h=>by
  simp only[BF]at h
  split at h
  ·rename_i r1 h1
   rw[BG h1,BG h];simp[Ty.cL]
  ·cases h
 | .arr n e,l,r,h=>by
  simp only[BF]at h
  simp only[Ty.cL]
  induction n generalizing l with
  |zero=>cases h;rfl
  |succ n ih=>
   simp only at h
   split at h
   ·rename_i r1 h1
    rw[BG h1,ih _ h];simp[AQ]
   ·cases h
def BH(P:Program)(τ:Ty)(t:TypeId):Bool:=
 match P.info? t with
 |none=>false
 |some i=>Nat.beq i.size τ.size&&Nat.ble i.bytes 2048&&(match i.zero with
  |none=>false
  |some z=>match τ.isAgg,z with
   |true,.agg cs=>(match BF τ cs.toList with|some []=>true|_=>false)
   |false,z=>(match BF τ [z]with|some []=>true|_=>false)
   |_,_=>false)
theorem sv{τ:Ty}{t:TypeId}(h:BH P τ t=true):LK P τ t:=by
 unfold BH at h
 split at h
 ·cases h
 ·rename_i i hi
  simp only[bQ,A9]at h
  obtain⟨⟨h1,h2⟩,h3⟩:=h
  refine⟨i,hi,fF h1,?_,h2⟩
  split at h3
  ·cases h3
  ·rename_i z hz
   rw[hz]
   split at h3
   ·rename_i _ cs ha
    split at h3
    ·rename_i he
     have:=BG he
     unfold cr
     rw[ak ha,←cA τ.cL,←this]
    ·cases h3
   ·rename_i ha
    split at h3
    ·rename_i he
     have:=BG he
     unfold cr
     rw[ag (by rw[ha];exact pD),←cA τ.cL,←this];rfl
    ·cases h3
   ·cases h3
def uT(P:Program):Ty→TypeId ⊕ (Array Field×Nat×Nat)→Bool
 | .int k,.inl t=>BH P (.int k) t&&(match P.underlying t with|some (.int k')=>decide (k'=k)|_=>false)
 | .bool,.inl t=>BH P .bool t&&(match P.underlying t with|some .bool=>true|_=>false)
 | .str,.inl t=>BH P .str t&&(match P.underlying t with|some .string=>true|_=>false)
 | .slice e,.inl t=>BH P (.slice e) t&&(match P.underlying t with|some (.slice e')=>uT P e (.inl e')|_=>false)
 | .arr n e,.inl t=>BH P (.arr n e) t&&(match P.underlying t with|some (.array n' e')=>Nat.beq n' n&&uT P e (.inl e')|_=>false)
 | .unit,.inl t=>BH P .unit t&&(match P.underlying t with|some (.struct fs)=>Nat.beq fs.size 0|_=>false)
 | .unit,.inr q=>Nat.beq q.1.size q.2.1
 | .pair a b,.inl t=>BH P (.pair a b) t&&(match P.underlying t with
  |some (.struct fs)=>(match fs[0]? with
   |some f=>Nat.beq f.offset 0&&(uT P a (.inl f.type)&&uT P b (.inr (fs,1,a.size)))
   |none=>false)
  |_=>false)
 | .pair a b,.inr q=>(match q.1[q.2.1]? with
  |some f=>Nat.beq f.offset q.2.2&&(uT P a (.inl f.type)&&uT P b (.inr (q.1,q.2.1+1,q.2.2+a.size)))
  |none=>false)
 |_,.inr _=>false
theorem iL: ∀{τ:Ty} {x:TypeId ⊕ (Array Field×Nat×Nat)},uT P τ x=true→gI P τ x
 | .int k,.inl t,h=>by
  simp only[uT,bQ]at h
  refine⟨sv h.1,?_⟩
  have h:=h.2
  split at h
  ·rename_i k' hu;rw[hu,bD h]
  ·cases h
 | .bool,.inl t,h=>by
  simp only[uT,bQ]at h
  refine⟨sv h.1,?_⟩
  have h:=h.2
  split at h
  ·rename_i hu;exact hu
  ·cases h
 | .str,.inl t,h=>by
  simp only[uT,bQ]at h
  refine⟨sv h.1,?_⟩
  have h:=h.2
  split at h
  ·rename_i hu;exact hu
  ·cases h
 | .slice e,.inl t,h=>by
  simp only[uT,bQ]at h
  refine⟨sv h.1,?_⟩
  have h:=h.2
  split at h
  ·rename_i e' hu;exact⟨e',hu,iL h⟩
  ·cases h
 | .arr n e,.inl t,h=>by
  simp only[uT,bQ]at h
  refine⟨sv h.1,?_⟩
  have h:=h.2
  split at h
  ·rename_i n' e' hu
   simp only[bQ]at h
   obtain⟨h0,h⟩:=h
   rw[fF h0]at hu
   exact⟨e',hu,iL h⟩
  ·cases h
 | .unit,.inl t,h=>by
  simp only[uT,bQ]at h
  refine⟨sv h.1,?_⟩
  have h:=h.2
  split at h
  ·rename_i fs hu;exact⟨fs,hu,fF h⟩
  ·cases h
 | .unit,.inr (fs,n,o),h=>by simp only[uT]at h;exact fF h
 | .pair a b,.inl t,h=>by
  simp only[uT,bQ]at h
  refine⟨sv h.1,?_⟩
  have h:=h.2
  split at h
  ·rename_i fs hu
   split at h
   ·rename_i f hf
    simp only[bQ]at h
    exact⟨fs,f,hu,hf,fF h.1,iL h.2.1,iL h.2.2⟩
   ·cases h
  ·cases h
 | .pair a b,.inr (fs,n,o),h=>by
  simp only[uT]at h
  split at h
  ·rename_i f hf
   simp only[bQ]at h
   exact⟨f,hf,fF h.1,iL h.2.1,iL h.2.2⟩
  ·cases h
 | .int _,.inr _,h| .bool,.inr _,h| .str,.inr _,h| .slice _,.inr _,h| .arr _ _,.inr _,h=>by simp[uT]at h
def wK(P:Program):Ty→TypeId ⊕ (Array Field×Nat)→Bool
 | .int _,.inl _| .bool,.inl _| .str,.inl _=>true
 | .unit,.inl t=> !P.stoodInHeld t
 | .unit,.inr _=>true
 | .pair a b,.inl t=> !P.stoodInHeld t&&(match P.underlying t with
  |some (.struct fs)=>(match fs[0]? with
   |some f=>f.name != "_" &&(wK P a (.inl f.type)&&wK P b (.inr (fs,1)))
   |none=>false)
  |_=>false)
 | .pair a b,.inr q=>(match q.1[q.2]? with
  |some f=>f.name != "_" &&(wK P a (.inl f.type)&&wK P b (.inr (q.1,q.2+1)))
  |none=>false)
 |_,_=>false
def Ty.deep:Ty→Nat
 | .pair a b=>a.deep+b.deep+1
 |_=>1
theorem V.ofC{w:World}{M:Nat→Prop}{τ:Ty}{cs:List Value}{x:τ.den}(h:Rd w M τ cs x):V w M τ (VM.cr τ cs) x:=V.cr h
mutual
theorem OT{w:World}{M:Nat→Prop}: ∀{τ:Ty} {t:TypeId} {u v:Value} {x y:τ.den} {d:Nat},kX P τ t→wK P τ (.inl t)=true→V w M τ u x→V w M τ v y→τ.deep≤d→(Op.equalIn d t u v).run P w= .ok (oX τ x y) w
 | .int k,t,u,v,x,y,d+1,hl,_,hx,hy,_=>by
  simp only[V,Ty.isAgg,jN,fI,Rd,fW,eL]at hx hy
  subst hx;subst hy
  rw[run_equalIn_int w d t k k _ _ hl.int];simp only[oX,jO];congr 1
 | .bool,t,u,v,x,y,d+1,hl,_,hx,hy,_=>by
  simp only[V,Ty.isAgg,jN,fI,Rd,fW,eL]at hx hy
  subst hx;subst hy
  rw[run_equalIn_bool w d t _ _ hl.bool];simp only[oX]
 | .str,t,u,v,x,y,d+1,hl,_,hx,hy,_=>by
  simp only[V,Ty.isAgg,jN,fI,Rd,fW,eL]at hx hy
  subst hx;subst hy
  rw[run_equalIn_string w d t _ _ hl.str];simp only[oX,GG];congr 1;rw[pV];simp
 | .slice _,_,_,_,_,_,_,_,h,_,_,_| .arr _ _,_,_,_,_,_,_,_,h,_,_,_=>by simp[wK]at h
 | .unit,t,u,v,x,y,d+1,hl,he,hx,hy,_=>by
  simp only[V,Ty.isAgg,ib]at hx hy
  obtain⟨cs,rfl,_⟩:=hx
  obtain⟨cs',rfl,_⟩:=hy
  simp only[kX,gI]at hl
  obtain⟨_,fs,hu,h0⟩:=hl
  have hfs:P.fieldsOf t=fs:=by simp[Program.fieldsOf,hu]
  rw[run_equalIn_struct w d t cs cs' (by rw[hfs];exact hu) (by simpa [wK]using he),hfs]
  have:fs.toList=[]:=by rw[←NV,bp];exact h0
  rw[this];simp[Op.eqFields,oX]
 | .pair a b,t,u,v,x,y,d+1,hl,he,hx,hy,hd=>by
  simp only[V,Ty.isAgg,ib]at hx hy
  obtain⟨cs,rfl,hx⟩:=hx
  obtain⟨cs',rfl,hy⟩:=hy
  simp only[kX,gI]at hl
  obtain⟨_,fs,f,hu,hf,ho,Aa,R9⟩:=hl
  have hfs:P.fieldsOf t=fs:=by simp[Program.fieldsOf,hu]
  simp only[wK,hu,hf,bQ]at he
  rw[run_equalIn_struct w d t cs cs' (by rw[hfs];exact hu) (by simpa using he.1),hfs]
  have h0:fs.toList=f::fs.toList.drop 1:=by
   have h1:=qW (l:=fs.toList) (i:=0) (by rw[bp];exact(lH.1 hf).1)
   rw[cM]at h1
   rw[h1];congr 1
   rw[AP];exact(lH.1 hf).2
  simp only[Ty.deep]at hd
  rw[h0]
  have o4:Rd w M (.pair a b) (cs.toList.drop 0) x:=by rw[cM];exact hx
  have Ul:Rd w M (.pair a b) (cs'.toList.drop 0) y:=by rw[cM];exact hy
  have kN:f.name≠ "_" :=by simpa using he.2.1
  simp only[Op.eqFields,kN,ne_eq,not_false_eq_true,ib]
  exact Y1 (off:=0) ho Aa he.2.2.1 o4 Ul ω (λh1 h2=>Y2 (n:=1) (fs:=fs) (off:=a.size) R9 he.2.2.2 (by rw[fX]at h1;exact h1) (by rw[fX]at h2;exact h2) ω)
 | .int _,_,_,_,_,_,0,_,_,_,_,hd| .bool,_,_,_,_,_,0,_,_,_,_,hd| .str,_,_,_,_,_,0,_,_,_,_,hd| .unit,_,_,_,_,_,0,_,_,_,_,hd| .pair _ _,_,_,_,_,_,0,_,_,_,_,hd=>by simp[Ty.deep]at hd
theorem Y2{w:World}{M:Nat→Prop}: ∀{b:Ty} {fs:Array Field} {n off:Nat} {cs cs':Array Value} {x y:b.den} {d:Nat},gI P b (.inr (fs,n,off))→wK P b (.inr (fs,n))=true→Rd w M b (cs.toList.drop off) x→Rd w M b (cs'.toList.drop off) y→b.deep≤d→
  (Op.eqFields d cs cs' (fs.toList.drop n)).run P w= .ok (oX b x y) w
 | .unit,fs,n,off,cs,cs',x,y,d,hl,_,_,_,_=>by
  simp only[gI]at hl
  rw[jM (by rw[bp];omega)]
  simp[Op.eqFields,oX]
 | .pair a b,fs,n,off,cs,cs',x,y,d,hl,he,hx,hy,hd=>by
  simp only[gI]at hl
  obtain⟨f,hf,ho,Aa,R9⟩:=hl
  simp only[wK,hf,bQ]at he
  have h0:fs.toList.drop n=f::fs.toList.drop (n+1):=by
   rw[qW (l:=fs.toList) (i:=n) (by rw[bp];exact(lH.1 hf).1)]
   congr 1
   rw[AP];exact(lH.1 hf).2
  simp only[Ty.deep]at hd
  rw[h0]
  have kN:f.name≠ "_" :=by simpa using he.1
  simp only[Op.eqFields,kN,ne_eq,not_false_eq_true,ib]
  exact Y1 ho Aa he.2.1 hx hy ω (λh1 h2=>Y2 R9 he.2.2 h1 h2 ω)
 | .int _,_,_,_,_,_,_,_,_,hl,_,_,_,_| .bool,_,_,_,_,_,_,_,_,hl,_,_,_,_| .str,_,_,_,_,_,_,_,_,hl,_,_,_,_| .slice _,_,_,_,_,_,_,_,_,hl,_,_,_,_| .arr _ _,_,_,_,_,_,_,_,_,hl,_,_,_,_=>by simp[gI]at hl
theorem Y1{w:World}{M:Nat→Prop}{a b:Ty}{f:Field}{fs:List Field}{off:Nat}{cs cs':Array Value}{x y:(Ty.pair a b).den}{d:Nat}(ho:f.offset=off)(Aa:kX P a f.type)(he:wK P a (.inl f.type)=true)
  (hx:Rd w M (.pair a b) (cs.toList.drop off) x) (hy:Rd w M (.pair a b) (cs'.toList.drop off) y) (hd:a.deep≤d)
  (hr:Rd w M b (cs.toList.drop (off+a.size)) x.2→Rd w M b (cs'.toList.drop (off+a.size)) y.2→(Op.eqFields d cs cs' fs).run P w= .ok (oX b x.2 y.2) w):
  (do let u ←part f.type cs f.offset;let v ←part f.type cs' f.offset;let r ←Op.equalIn d f.type u v;if(!r)=true then pure false else Op.eqFields d cs cs' fs:Sem Bool).run P w= .ok (oX (.pair a b) x y) w:=by
 simp only[Rd]at hx hy
 obtain⟨c1,c2,hc,h1,h2⟩:=hx
 obtain⟨c1',c2',Sh,q6,zF⟩:=hy
 subst ho
 have p1:(cs.toList.drop f.offset).take a.size=c1:=by rw[hc,xk h1.length]
 have p2:(cs'.toList.drop f.offset).take a.size=c1':=by rw[Sh,xk q6.length]
 have q1:cs.toList.drop (f.offset+a.size)=c2:=by rw[←iJ,hc,mz h1.length]
 have q2:cs'.toList.drop (f.offset+a.size)=c2':=by rw[←iJ,Sh,mz q6.length]
 have r1:=Bj Aa (w:=w) (M:=M) (cs:=cs) (off:=f.offset) (x:=x.1) (by rw[p1];exact h1)
 have r2:=Bj Aa (w:=w) (M:=M) (cs:=cs') (off:=f.offset) (x:=y.1) (by rw[p2];exact q6)
 have r3:=OT (d:=d) Aa he (V.ofC (by rw[p1];exact h1):V w M a (VM.cr a ((cs.toList.drop f.offset).take a.size)) x.1) (V.ofC (by rw[p2];exact q6):V w M a (VM.cr a ((cs'.toList.drop f.offset).take a.size)) y.1) hd
 simp only[Sem.run_bind,r1,r2,r3,Result.andThen_ok,oX]
 cases oX a x.1 y.1
 ·simp
 ·simpa using hr (by rw[q1];exact h2) (by rw[q2];exact zF)
end
def acE(P:Program)(τ:Ty)(t:TypeId):Bool:= !(τ.comparable&&τ.isAgg)||(wK P τ (.inl t)&&(Nat.ble τ.deep 10000&& !P.eqGuardType P.depth t))
theorem acF{τ:Ty}{t:TypeId}(hl:kX P τ t)(h:acE P τ t=true)(hc:τ.comparable=true)(ha:τ.isAgg=true):aoY P t τ:=by
 unfold acE at h
 rw[hc,ha]at h
 simp only[Bool.and_self,bk,pX,bQ,A9,rQ]at h
 obtain⟨h1,h2,h3⟩:=h
 intro w M u v x y b xo yo hx hy
 have he:=OT (d:=10000) hl h1 hx hy h2
 unfold V at hx hy
 rw[ak ha]at hx hy
 obtain⟨cs,rfl,_⟩:=hx
 obtain⟨cs',rfl,_⟩:=hy
 refine⟨?_,?_,?_⟩
 ·cases b<;>simp[eqGuard,h3]
 ·simp only[binOp];simp[Op.equal,Op.maxDepth,he]
 ·simp only[binOp];simp[Op.equal,Op.maxDepth,he]
def apM(P:Program)(l:List (Nat×Ty)):Bool:=l.all λq=>uT P q.2 (.inl q.1)&&acE P q.2 q.1
end VM
end
section
namespace VM
open Go Go.WideShapes Go.RowKit Go.ChangeShapes
def WF:(τ:Ty)→τ.den→Prop
 | .int k,x=>(Lit.int k x).wf=true
 | .bool,_=>True
 | .str,s=>ByteArray.size s≤maxLen
 | .slice e,l=>ℓ l≤maxLen∧ ∀i (h:i<ℓ l),WF e (List.get l ⟨i,h⟩)
 | .unit,_=>True
 | .pair a b,x=>WF a x.1∧WF b x.2
 | .arr _ e,l=> ∀i (h:i<ℓ l),WF e (List.get l ⟨i,h⟩)
def Ty.qT:Ty→Bool
 | .slice e=>Nat.blt 0 e.size&&e.qT
 | .pair a b=>a.qT&&b.qT
 | .arr _ e=>e.qT
 |_=>true
theorem Y3{α β:Type}{f:α→Option β}: ∀{l:List α} {r:List β},l.mapM f=some r→ ∀x∈l,∃y,f x=some y
 |[],_,_,x,hx=>by cases hx
 |a::l,r,h,x,hx=>by
  rw[AZ]at h
  simp only[bind,ux,pure,iI]at h
  obtain⟨y,hy,r',hr,_⟩:=h
  rcases bh.1 hx with rfl|hx
  ·exact⟨y,hy⟩
  ·exact Y3 hr x hx
theorem OU{α β:Type}{f:α→Option β}: ∀{l:List α} {r:List β},l.mapM f=some r→r.length=l.length∧ ∀i (h:i<l.length) (h':i<r.length),f l[i]=some r[i]
 |[],r,h=>by simp at h;subst h;exact⟨rfl,λi h=>by cases h⟩
 |a::l,r,h=>by
  rw[AZ]at h
  simp only[bind,ux,pure,iI]at h
  obtain⟨y,hy,r',hr,rfl⟩:=h
  obtain⟨h1,h2⟩:=OU hr
  refine⟨by simp[h1],λi hi oj=> ?_⟩
  cases i with
  |zero=>exact hy
  |succ i=>exact h2 i (by simpa using hi) (by simpa using oj)
theorem xQ{α:Type}{p:Nat→α→Prop}: ∀n,(∀i,i<n→ ∃x,p i x)→ ∃l:List α,l.length=n∧ ∀i (h:i<l.length),p i (l.get ⟨i,h⟩)
 |0,_=>⟨[],rfl,λi h=>by cases h⟩
 |n+1,h=>by
  obtain⟨l,hl,hp⟩:=xQ n (λi hi=>h i ω)
  obtain⟨x,hx⟩:=h n ω
  refine⟨l++[x],by simp[hl],λi hi=> ?_⟩
  simp only[Gq]
  by_cases eU:i<l.length
  ·rw[AJ eU];exact hp i eU
  ·have ke:i=n:=by simp at hi;omega
   subst ke
   rw[Gh ω]
   simp[hl,hx]
section
variable{H:Type}{enc:TypeId×Value→H}{P:Program}{w:World}
theorem kX.cells{τ:Ty}{t:TypeId}(h:kX P τ t):P.cellsOf t=τ.size:=by
 obtain⟨i,hi,hs,_⟩:=h.base
 simp[Program.cellsOf,hi,hs]
theorem Ks{a:Addr}{n:Nat}{cs:List Value}(h:w.cells? 0 a n=some cs):cs.length=n∧ ∀j v,cs[j]? =some v→w.cell? (a.add j)=some v:=by
 unfold World.cells? at h
 rw[ak (bs _)]at h
 obtain⟨h1,h2⟩:=OU h
 rw[xh]at h1
 refine⟨h1,λj v hj=> ?_⟩
 obtain⟨eU,rfl⟩:=vp.1 hj
 have:=h2 j (by rw[xh];omega) eU
 rw[Gr]at this
 exact this
def Y4(H:Type)(enc:TypeId×Value→H)(P:Program)(w:World)(τ:Ty):TypeId ⊕ (Array Field×Nat×Nat)→Prop
 | .inl t=> ∀(fuel:Nat) (cs:List Value) (d:DataW H×List MemPlace),DataW.trod enc P w 0 (λ_=>true) true fuel t cs=some d→ ∃x:τ.den,Rd w (λ_=>False) τ cs x∧WF τ x
 | .inr q=> ∀(cs:List Value),cs.length=q.2.2+τ.size→(∀f∈q.1.toList,∃fuel d,DataW.trod enc P w 0 (λ_=>true) true fuel f.type ((cs.drop f.offset).take (P.cellsOf f.type))=some d)→ ∃x:τ.den,Rd w (λ_=>False) τ (cs.drop q.2.2) x∧WF τ x
theorem Kt{a b:Ty}{f:Field}{fs:Array Field}{n off:Nat}(hf:fs[n]? =some f)(ho:f.offset=off)(Aa:kX P a f.type)(iha:Y4 H enc P w a (.inl f.type))(Yf:Y4 H enc P w b (.inr (fs,n+1,off+a.size)))
  {cs:List Value} (hc:cs.length=off+(a.size+b.size)) (iS: ∀f∈fs.toList,∃fuel d,DataW.trod enc P w 0 (λ_=>true) true fuel f.type ((cs.drop f.offset).take (P.cellsOf f.type))=some d):
  ∃x:(Ty.pair a b).den,Rd w (λ_=>False) (.pair a b) (cs.drop off) x∧WF (.pair a b) x:=by
 subst ho
 obtain⟨fuel,d,hd⟩:=iS f (by rw[Array.mem_toList_iff];exact Array.mem_of_getElem? hf)
 rw[Aa.cells]at hd
 obtain⟨x,hx,hwx⟩:=iha fuel _ d hd
 obtain⟨y,hy,hwy⟩:=Yf cs (by simp only;omega) iS
 refine⟨(x,y),?_,hwx,hwy⟩
 simp only[Rd]
 refine⟨_,_,(gT a.size (cs.drop f.offset)).symm,hx,?_⟩
 rw[iJ];exact hy
theorem vL: ∀{τ:Ty} {x:TypeId ⊕ (Array Field×Nat×Nat)},gI P τ x→τ.qT=true→Y4 H enc P w τ x
 | .int k,.inl t,hl,_=>by
  intro fuel cs d h
  simp only[gI]at hl
  obtain⟨n,rfl,_,hw⟩:=DataW.trod_int hl.2 h
  exact⟨n,rfl,hw⟩
 | .bool,.inl t,hl,_=>by
  intro fuel cs d h
  simp only[gI]at hl
  obtain⟨b,rfl,_⟩:=DataW.trod_bool hl.2 h
  exact⟨b,rfl,trivial⟩
 | .str,.inl t,hl,_=>by
  intro fuel cs d h
  simp only[gI]at hl
  obtain⟨s,rfl,_,hs⟩:=DataW.trod_string hl.2 h
  exact⟨s,rfl,hs⟩
 | .slice e,.inl t,hl,hs=>by
  intro fuel cs d h
  simp only[gI]at hl
  obtain⟨_,e',hu,hle⟩:=hl
  simp only[Ty.qT,bQ,A8]at hs
  have ih:=vL hle hs.2
  have qR:P.cellsOf e'=e.size:=kX.cells hle
  rcases DataW.trod_slice hu h with⟨rfl,_⟩|⟨a,len,cap,elems,rest,n,_,rfl,_,_,hlc,FI,hel,iS,_⟩
  ·refine⟨[],?_,bs _,λi h=>by cases h⟩
   simp only[Rd]
   exact⟨none,0,rfl,aH _,λi h=>by cases h⟩
  ·rw[qR]at iS
   have get: ∀i,i<len→ ∃cs' y,w.cells? 0 (a.add (i*e.size)) e.size=some cs'∧DataW.trod enc P w 0 (λ_=>true) true n e' cs'=some y:=λi hi=>by
    have:=iS i hi
    rw[bm ω]at this
    obtain⟨cs',h1,h2⟩:=ux.1 this
    exact⟨cs',_,h1,h2⟩
   have key: ∀i,i<len→ ∃x:e.den,(a.spot=none∧a.block<w.heap.size∧ ∃cs',At w a.block (a.off+i*e.size) cs'∧Rd w (λ_=>False) e cs' x)∧WF e x:=by
    intro i hi
    obtain⟨cs',y,uh,ht⟩:=get i hi
    obtain⟨h1,h2⟩:=Ks uh
    obtain⟨x,hx,hw⟩:=ih n cs' y ht
    have Vy:a.spot=none∧a.block<w.heap.size:=by
     obtain⟨kf,y0,avQ,_⟩:=get 0 ω
     obtain⟨h10,h20⟩:=Ks avQ
     have:=h20 0 kf[0] (bm ω)
     simp only[Nat.zero_mul,Addr.add,ib,World.cell?]at this
     split at this
     ·rename_i hb
      refine⟨?_,(lH.1 hb).1⟩
      split at this
      ·cases this
      ·rename_i hn;simpa using hn
     ·cases this
    refine⟨x,⟨Vy.1,Vy.2,cs',λj v hj=> ?_,hx⟩,hw⟩
    have:=h2 j v hj
    have he:(a.add (i*e.size)).add j=⟨a.block,a.off+i*e.size+j,none⟩:=by
     obtain⟨ab,ao,asp⟩:=a
     simp only at Vy
     obtain⟨rfl,_⟩:=Vy
     simp only[Addr.add]
     split<;>split<;>simp_all<;>omega
    rw[he]at this
    exact this
   obtain⟨l,hl,hp⟩:=xQ len key
   refine⟨l,?_,by rw[hl];omega,λi h=>(hp i h).2⟩
   simp only[Rd]
   refine⟨some a,cap,by rw[hl],by rw[hl];exact hlc,λi h=> ?_⟩
   obtain⟨h1,h2,cs',h3,h4⟩:=(hp i h).1
   refine⟨a.block,a.off,?_,h2,λh=>h,cs',h3,h4⟩
   rw[←h1]
 | .unit,.inl t,hl,_=>by
  intro fuel cs d h
  simp only[gI]at hl
  obtain⟨⟨i,hi,qR,_⟩,fs,hu,h0⟩:=hl
  obtain⟨xs,n,_,_,hc,_⟩:=DataW.trod_struct hu h
  refine⟨(),?_,trivial⟩
  simp only[Rd]
  rw[←NV,hc]
  simp[Program.cellsOf,hi,qR,Ty.size]
 | .unit,.inr q,hl,_=>by
  intro cs hc _
  refine⟨(),?_,trivial⟩
  simp only[Rd]
  rw[jM (by rw[hc];simp[Ty.size])]
 | .pair a b,.inl t,hl,hs=>by
  intro fuel cs d h
  simp only[gI]at hl
  obtain⟨⟨i,hi,qR,_⟩,fs,f,hu,hf,ho,Aa,R9⟩:=hl
  simp only[Ty.qT,bQ]at hs
  have iha:=vL Aa hs.1
  have Yf:=vL R9 hs.2
  obtain⟨xs,n,_,_,hc,hxl,hxs⟩:=DataW.trod_struct hu h
  have:=Kt (b:=b) (off:=0) hf ho Aa iha (by simp only[fX];exact Yf) (cs:=cs) (by rw[hc];simp[Program.cellsOf,hi,qR,Ty.size]) (λf hf=>by
   obtain⟨j,hj,rfl⟩:=rO.1 hf
   rw[bp]at hj
   have:=hxs j fs[j] (by simp[hj])
   rw[bm ω]at this
   exact⟨n,_,by rw[AP];exact this⟩)
  rw[cM]at this
  exact this
 | .pair a b,.inr (fs,n,off),hl,hs=>by
  intro cs hc iS
  simp only[gI]at hl
  obtain⟨f,hf,ho,Aa,R9⟩:=hl
  simp only[Ty.qT,bQ]at hs
  exact Kt hf ho Aa (vL Aa hs.1) (vL R9 hs.2) (by simpa [Ty.size]using hc) iS
 | .arr n e,.inl t,hl,hs=>by
  intro fuel cs d h
  simp only[gI]at hl
  obtain⟨⟨i,hi,qR,_⟩,e',hu,hle⟩:=hl
  simp only[Ty.qT]at hs
  have ih:=vL hle hs
  have hse:P.cellsOf e'=e.size:=kX.cells hle
  obtain⟨xs,m,_,_,hc,hxl,hxs⟩:=DataW.trod_array hu h
  have hlen:cs.length=n*e.size:=by rw[hc];simp[Program.cellsOf,hi,qR,Ty.size]
  have key: ∀i,i<n→ ∃x:e.den,Rd w (λ_=>False) e ((cs.drop (i*e.size)).take e.size) x∧WF e x:=λi hi=>by
   have:=hxs i hi
   rw[bm ω,hse]at this
   exact ih m _ _ this
  obtain⟨l,Jo,hp⟩:=xQ n key
  refine⟨l,?_,λi h=>(hp i h).2⟩
  simp only[Rd]
  refine⟨Jo,(List.range n).map λi=>(cs.drop (i*e.size)).take e.size,by simp,?_,λi h h'=> ?_⟩
  ·clear hxs h key hp Jo hu
   have: ∀m,m≤n→cs.take (m*e.size)=((List.range m).map λi=>(cs.drop (i*e.size)).take e.size).flatten:=by
    intro m
    induction m with
    |zero=>simp
    |succ m ihm=>
     intro hm
     rw[Gw,dr,List.flatten_append,←ihm ω]
     simp only[ca,gU,AU,List.flatten_nil,cA]
     rw[eJ,kT,List.take_add]
   have h2:=this n (aH _)
   rw[iG ω]at h2
   exact h2
  ·have:=(hp i h).1
   simpa using this
 | .int _,.inr _,h,_| .bool,.inr _,h,_| .str,.inr _,h,_| .slice _,.inr _,h,_| .arr _ _,.inr _,h,_=>by simp[gI]at h
theorem akR{τ:Ty}{t:TypeId}{r:Reach}{b0:Nat}{v:Value}{d:DataW H}{ps:List MemPlace}(hl:kX P τ t)(hs:τ.qT=true)(hv:Value.okWide P w r b0 t v)(h:DataW.Trod enc P w 0 (λ_=>true) true t v d ps):
  ∃x:τ.den,V w (λ_=>False) τ v x∧WF τ x:=by
 obtain⟨fuel,h⟩:=h
 obtain⟨x,hx,hw⟩:=vL (H:=H) (enc:=enc) (w:=w) hl hs fuel _ _ h
 refine⟨x,?_,hw⟩
 unfold V
 cases τ with
 |int k=>
  obtain⟨n,rfl⟩:=okWide_int hl.int hv
  exact hx
 |bool=>
  obtain⟨n,rfl⟩:=okWide_bool hl.bool hv
  exact hx
 |str=>
  obtain⟨n,rfl⟩:=okWide_string hl.str hv
  exact hx
 |slice e=>
  obtain⟨e',hu,_⟩:=hl.slice
  obtain⟨a,len,cap,rfl⟩:=okWide_slice hu hv
  exact hx
 |unit=>
  simp only[kX,gI]at hl
  obtain⟨_,fs,hu,_⟩:=hl
  simp only[Value.okWide,hu]at hv
  obtain⟨cs,rfl,_⟩:=hv
  exact⟨cs,rfl,hx⟩
 |pair a b=>
  simp only[kX,gI]at hl
  obtain⟨_,fs,f,hu,_⟩:=hl
  simp only[Value.okWide,hu]at hv
  obtain⟨cs,rfl,_⟩:=hv
  exact⟨cs,rfl,hx⟩
 |arr n e=>
  obtain⟨e',hu,_⟩:=hl.arr
  simp only[Value.okWide,hu]at hv
  obtain⟨cs,rfl,_⟩:=hv
  exact⟨cs,rfl,hx⟩
def WFs:(ms:List Ty)→HP (ms.map .v)→Prop
 |[],_=>True
 |_::ms,x=>WF _ (q4 x)∧WFs ms (ui x)
def hpC:{m:AM}→{ms:List AM}→m.den→HP ms→HP (m::ms)
 |_,[],x,_=>x
 |_,_::_,x,y=>(x,y)
theorem Um{m:AM}: ∀{ms:List AM} (x:m.den) (y:HP ms),q4 (hpC x y)=x
 |[],_,_=>rfl
 |_::_,_,_=>rfl
theorem Un{m:AM}: ∀{ms:List AM} (x:m.den) (y:HP ms),ui (hpC x y)=y
 |[],_,()=>rfl
 |_::_,_,_=>rfl
theorem Ku(laid:laidOutB P=true){r:Reach}{b0:Nat}: ∀{τs:List Ty} {ts:List TypeId} {vs:List Value} {ds:List (DataW H)} {ps:List MemPlace},DataW.TrodAll enc P w 0 (λ_=>true) true ts vs ds ps→
  τs.length=ts.length→(∀(j:Nat) τ t,τs[j]? =some τ→ts[j]? =some t→(kX P τ t∧τ.qT=true∧P.readableRec t=true∧t<P.types.size))→
  (∀(j:Nat) t v,ts[j]? =some t→vs[j]? =some v→Value.okWide P w r b0 t v)→
  (∃x:HP (τs.map .v),kE w (λ_=>False) (τs.map .v) x vs∧WFs τs x)∧ ∀w',Below w.heap.size w w'→ ∃Jp,DataW.TrodAll enc P w' 0 (λb=>decide (b<w.heap.size)) true ts vs ds Jp
 |[],[],vs,ds,ps,h,_,_,_=>by
  obtain⟨rfl,rfl,rfl⟩:=trodAll_nil h
  exact⟨⟨(),rfl,trivial⟩,λw' _=>⟨[],rfl⟩⟩
 |τ::τs,t::ts,vs,ds,ps,h,hl,DW,hv=>by
  obtain⟨v,NC,d,ds',p,q,rfl,rfl,rfl,h1,h2⟩:=trodAll_cons h
  obtain⟨zq,akS,hrr,eU⟩:=DW 0 τ t rfl rfl
  obtain⟨x,hx,hwx⟩:=akR zq akS (hv 0 t v rfl rfl) h1
  obtain⟨⟨y,hy,hwy⟩,Y5⟩:=Ku laid h2 (by simpa using hl) (λj τ' t' h h'=>DW (j+1) τ' t' (by simpa using h) (by simpa using h')) (λj t' v' h h'=>hv (j+1) t' v' (by simpa using h) (by simpa using h'))
  refine⟨⟨hpC (m:= .v τ) x y,?_,?_⟩,λw' hb=> ?_⟩
  ·show kE w _ (.v τ::τs.map .v) _ _
   simp only[kE]
   exact⟨v,NC,rfl,by rw[Um];exact hx,by rw[Un];exact hy⟩
  ·simp only[WFs]
   exact⟨by rw[Um];exact hwx,by rw[Un];exact hwy⟩
  ·obtain⟨Jp,h'⟩:=Y5 w' hb
   have xK: ∀z∈p,z.block<w.heap.size:=by
    obtain⟨m,hm⟩:=h1
    exact DataW.trod_lt m _ _ _ hm
   exact⟨p++Jp,trodAll_cons_mk (Below.trod laid hrr eU h1 hb xK) h'⟩
 |[],_::_,_,_,_,_,hl,_,_|_::_,[],_,_,_,_,hl,_,_=>by simp at hl
end
end VM
end
section
namespace VM
open Go
variable{α:Type}
def BI(L:Nat→Option (List (Nat×CM)))(κ:Nat→St→Option α)(i:Option Nat)(f:St→Option α):St→Option α:=
 match i with
 |none=>f
 |some i=>match L i with
  |none=>f
  |some _=>κ i
def Y6(E:Env)(κJ κL:Nat→St→Option α)(c:Code):St→(St→Option α)→(Nat→St→Option α)→(St→Option α)→Option α:=
 Code.rec (motive:=λ_=>St→(St→Option α)→(Nat→St→Option α)→(St→Option α)→Option α)
  (fun σ k _ _=>k σ)
  (λ_ ops draw σ k _ _=>FC E ops draw σ k)
  (λ_ b A B σ k kx kr=>A σ (fun σ'=>xz ((da b).bind E.zk) σ' (BI E.zk κJ (da b) fun σ''=>B σ'' k kx kr)) kx kr)
  (λc _ _ A B σ k kx kr=>Ke E c σ (fun σ'=>A σ' k kx kr) (fun σ'=>B σ' k kx kr))
  (λid _ A σ k kx kr=>A σ k (λi σ'=>cond (Nat.beq i id) (k σ') (kx i σ')) kr)
  (λb _ σ _ kx kr=>xz ((da b).bind E.xr) σ (BI E.xr κL (da b) (DP ((da b).bind E.xr) (fun σ' kn=>FD E b σ' kn kx kr) E.N)))
  (λ_ _ _ _ _ _ _ _ _ _=>none)
  (λid σ _ kx _=>kx id σ)
  (λ_ A σ k kx kr=>A σ k kx kr)
  (λ_ σ k _ _=>k σ)
  (λ_ _ _ _ _=>none)
  (fun σ _ _ kr=>kr σ)
  (λ_ _ _ _ _=>none)
  c
def Hm(E:Env)(c:Code):(St→Option α)→(Nat→St→Option α)→(St→Option α)→List (Bool×Nat×(St→Option α)):=
 Code.rec (motive:=λ_=>(St→Option α)→(Nat→St→Option α)→(St→Option α)→List (Bool×Nat×(St→Option α)))
  (λ_ _ _=>[])
  (λ_ _ _ _ _ _=>[])
  (λ_ b A B k kx kr=>A (fun σ'=>xz ((da b).bind E.zk) σ' fun σ''=>FD E b σ'' k kx kr) kx kr++(((da b).toList.map λi=>(false,i,fun σ''=>FD E b σ'' k kx kr))++B k kx kr))
  (λ_ _ _ A B k kx kr=>A k kx kr++B k kx kr)
  (λid _ A k kx kr=>A k (λi σ'=>cond (Nat.beq i id) (k σ') (kx i σ')) kr)
  (λb _ _ kx kr=>(da b).toList.map λi=>(true,i,DP ((da b).bind E.xr) (fun σ' kn=>FD E b σ' kn kx kr) E.N))
  (λ_ _ _ _ _ _ _ _ _=>[])
  (λ_ _ _ _=>[])
  (λ_ A k kx kr=>A k kx kr)
  (λ_ _ _ _=>[])
  (λ_ _ _ _=>[])
  (λ_ _ _=>[])
  (λ_ _ _ _=>[])
  c
def xR(E:Env)(κJ κL:Nat→St→Option α):List (Bool×Nat×(St→Option α))→List ((St→Option α)×(St→Option α))
 |[]=>[]
 |q::r=>match q.1 with
  |false=>match E.zk q.2.1 with
   |some _=>(κJ q.2.1,q.2.2)::xR E κJ κL r
   |none=>xR E κJ κL r
  |true=>match E.xr q.2.1 with
   |some _=>(κL q.2.1,q.2.2)::xR E κJ κL r
   |none=>xR E κJ κL r
def JO(E:Env)(κJ κL:Nat→St→Option α)(l:List (Bool×Nat×(St→Option α))):Prop:= ∀p∈xR E κJ κL l,p.1=p.2
theorem akT{E:Env}{κJ κL:Nat→St→Option α}{l:List (Bool×Nat×(St→Option α))}(g:List (St→Option α))(h:xR E κJ κL l=g.map λf=>(f,f)):JO E κJ κL l:=by
 intro p hp
 rw[h]at hp
 obtain⟨f,_,rfl⟩:=cY.1 hp
 rfl
theorem D9{E:Env}{κJ κL:Nat→St→Option α}: ∀(l m:List (Bool×Nat×(St→Option α))),xR E κJ κL (l++m)=xR E κJ κL l++xR E κJ κL m
 |[],m=>rfl
 |(b,i,f)::l,m=>by
  have ih:=D9 (E:=E) (κJ:=κJ) (κL:=κL) l m
  cases b<;>simp only[mZ,xR]<;>split<;>simp[ih]
theorem JO.app{E:Env}{κJ κL:Nat→St→Option α}{l m:List (Bool×Nat×(St→Option α))}(h:JO E κJ κL (l++m)):JO E κJ κL l∧JO E κJ κL m:=by
 unfold JO at*
 rw[D9]at h
 exact⟨λp hp=>h p (cX _ hp),λp hp=>h p (dD _ hp)⟩
theorem aiV{E:Env}{κJ κL:Nat→St→Option α}{i:Option Nat}{f:St→Option α}(h:JO E κJ κL (i.toList.map λi=>(false,i,f))):BI E.zk κJ i f=f:=by
 cases i with
 |none=>rfl
 |some i=>
  simp only[Option.toList,List.map,JO,xR]at h
  unfold BI
  cases hL:E.zk i with
  |none=>simp[hL]
  |some L=>rw[hL]at h;simp only[hL];exact h (κJ i,f) (cy.2 rfl)
theorem apP{E:Env}{κJ κL:Nat→St→Option α}{i:Option Nat}{f:St→Option α}(h:JO E κJ κL (i.toList.map λi=>(true,i,f))):BI E.xr κL i f=f:=by
 cases i with
 |none=>rfl
 |some i=>
  simp only[Option.toList,List.map,JO,xR]at h
  unfold BI
  cases hL:E.xr i with
  |none=>simp[hL]
  |some L=>rw[hL]at h;simp only[hL];exact h (κL i,f) (cy.2 rfl)
theorem Y7{E:Env}{κJ κL:Nat→St→Option α}(c:Code): ∀(k:St→Option α) (kx:Nat→St→Option α) (kr:St→Option α) (σ:St),JO E κJ κL (Hm E c k kx kr)→Y6 E κJ κL c σ k kx kr=FD E c σ k kx kr:=by
 induction c with
 |skip=>intros;rfl
 |region=>intros;rfl
 |seq a b iha Yf=>
  intro k kx kr σ h
  obtain⟨h1,h2⟩:=JO.app (h:JO E κJ κL (Hm E a _ kx kr++(((da b).toList.map λi=>(false,i,fun σ''=>FD E b σ'' k kx kr))++Hm E b k kx kr)))
  obtain⟨h2,h3⟩:=JO.app h2
  show Y6 E κJ κL a σ (fun σ'=>xz ((da b).bind E.zk) σ' (BI E.zk κJ (da b) fun σ''=>Y6 E κJ κL b σ'' k kx kr)) kx kr=FD E a σ (fun σ'=>xz ((da b).bind E.zk) σ' fun σ''=>FD E b σ'' k kx kr) kx kr
  have hb:(fun σ''=>Y6 E κJ κL b σ'' k kx kr)=fun σ''=>FD E b σ'' k kx kr:=funext fun σ''=>Yf k kx kr σ'' h3
  rw[hb,aiV h2]
  exact iha _ _ _ _ h1
 |cond x a b iha Yf=>
  intro k kx kr σ h
  obtain⟨h1,h2⟩:=JO.app (h:JO E κJ κL (Hm E a k kx kr++Hm E b k kx kr))
  show Ke E x σ (fun σ'=>Y6 E κJ κL a σ' k kx kr) (fun σ'=>Y6 E κJ κL b σ' k kx kr)=Ke E x σ (fun σ'=>FD E a σ' k kx kr) (fun σ'=>FD E b σ' k kx kr)
  rw[show(fun σ'=>Y6 E κJ κL a σ' k kx kr)=fun σ'=>FD E a σ' k kx kr from funext fun σ'=>iha k kx kr σ' h1,show(fun σ'=>Y6 E κJ κL b σ' k kx kr)=fun σ'=>FD E b σ' k kx kr from funext fun σ'=>Yf k kx kr σ' h2]
 |block id x ih=>intro k kx kr σ h;exact ih _ _ _ σ h
 |loop b _=>
  intro k kx kr σ h
  show xz ((da b).bind E.xr) σ (BI E.xr κL (da b) (DP ((da b).bind E.xr) (fun σ' kn=>FD E b σ' kn kx kr) E.N))=xz ((da b).bind E.xr) σ (DP ((da b).bind E.xr) (fun σ' kn=>FD E b σ' kn kx kr) E.N)
  rw[apP (h:JO E κJ κL ((da b).toList.map λi=>(true,i,_)))]
 |rangeFunc=>intros;rfl
 |exit=>intros;rfl
 |scope x ih=>intro k kx kr σ h;exact ih _ _ _ σ h
 |label=>intros;rfl
 |goto=>intros;rfl
 |ret=>intros;rfl
 |refuse=>intros;rfl
def o5(E:Env)(κJ κL:Nat→St→Option α):List Nat→Code→List (St→Option α)→St→(St→Option α)→(Nat→St→Option α)→(St→Option α)→Option α
 |[],c,_,σ,k,kx,kr=>Y6 E κJ κL c σ k kx kr
 |n::p,c,ks,σ,k,kx,kr=>match c with
  | .seq a b=>match n with
   |0=>o5 E κJ κL p a ks σ (fun σ'=>xz ((da b).bind E.zk) σ' (BI E.zk κJ (da b) fun σ''=>Y6 E κJ κL b σ'' k kx kr)) kx kr
   |_=>o5 E κJ κL p b ks σ k kx kr
  | .cond _ a b=>match n with
   |0=>o5 E κJ κL p a ks σ k kx kr
   |_=>o5 E κJ κL p b ks σ k kx kr
  | .block id c=>o5 E κJ κL p c ks σ k (λi σ'=>cond (Nat.beq i id) (k σ') (kx i σ')) kr
  | .loop b=>match ks with
   |κ::ks=>o5 E κJ κL p b ks σ κ kx kr
   |[]=>none
  | .scope c=>o5 E κJ κL p c ks σ k kx kr
  |_=>none
def iM(E:Env):List Nat→Code→List (St→Option α)→(St→Option α)→(Nat→St→Option α)→(St→Option α)→List (Bool×Nat×(St→Option α))
 |[],c,_,k,kx,kr=>Hm E c k kx kr
 |n::p,c,ks,k,kx,kr=>match c with
  | .seq a b=>match n with
   |0=>((da b).toList.map λi=>(false,i,fun σ''=>FD E b σ'' k kx kr))++(Hm E b k kx kr++iM E p a ks (fun σ'=>xz ((da b).bind E.zk) σ' fun σ''=>FD E b σ'' k kx kr) kx kr)
   |_=>iM E p b ks k kx kr
  | .cond _ a b=>match n with
   |0=>iM E p a ks k kx kr
   |_=>iM E p b ks k kx kr
  | .block id c=>iM E p c ks k (λi σ'=>cond (Nat.beq i id) (k σ') (kx i σ')) kr
  | .loop b=>match ks with
   |κ::ks=>iM E p b ks κ kx kr
   |[]=>[]
  | .scope c=>iM E p c ks k kx kr
  |_=>[]
theorem ot{E:Env}{κJ κL:Nat→St→Option α}: ∀(p:List Nat) (c:Code) (ks:List (St→Option α)) (k:St→Option α) (kx:Nat→St→Option α) (kr:St→Option α) (σ:St),JO E κJ κL (iM E p c ks k kx kr)→
  o5 E κJ κL p c ks σ k kx kr=wS E p c ks σ k kx kr
 |[],c,ks,k,kx,kr,σ,h=>Y7 c k kx kr σ h
 |n::p,c,ks,k,kx,kr,σ,h=>by
  cases c with
  |seq a b=>
   cases n with
   |zero=>
    simp only[o5,wS,iM]at h ⊢
    obtain⟨h1,h2⟩:=JO.app h
    obtain⟨h2,h3⟩:=JO.app h2
    rw[show(fun σ''=>Y6 E κJ κL b σ'' k kx kr)=fun σ''=>FD E b σ'' k kx kr from funext fun σ''=>Y7 b k kx kr σ'' h2,aiV h1]
    exact ot p a ks _ kx kr σ h3
   |succ n=>simp only[o5,wS,iM]at h ⊢;exact ot p b ks k kx kr σ h
  |cond x a b=>
   cases n with
   |zero=>simp only[o5,wS,iM]at h ⊢;exact ot p a ks k kx kr σ h
   |succ n=>simp only[o5,wS,iM]at h ⊢;exact ot p b ks k kx kr σ h
  |block id x=>simp only[o5,wS,iM]at h ⊢;exact ot p x ks k _ kr σ h
  |loop b=>
   cases ks with
   |nil=>simp only[o5,wS]
   |cons κ ks=>simp only[o5,wS,iM]at h ⊢;exact ot p b ks κ kx kr σ h
  |scope x=>simp only[o5,wS,iM]at h ⊢;exact ot p x ks k kx kr σ h
  |_=>simp only[o5,wS]
def Hn(fn:Func):Code:=fn.body.getD .skip
def OV(E:Env)(fn:Func)(args res:List AM):St→Option (HP res):=fun σ=>LJ E res (fn.results.toList.map .inl++zn args 0) σ some
def nox:Nat→St→Option α:=λ_ _=>none
def aDd:St→Option α:=λ_=>none
def atF(E:Env)(fn:Func)(args res:List AM)(p:List Nat)(ks:List (St→Option (HP res)))(σ:St):Option (HP res):=
 wS E p (Hn fn) ks σ (OV E fn args res) nox (OV E fn args res)
def atQ(E:Env)(fn:Func)(args res:List AM)(κJ κL:Nat→St→Option (HP res))(p:List Nat)(ks:List (St→Option (HP res)))(σ:St):Option (HP res):=
 o5 E κJ κL p (Hn fn) ks σ (OV E fn args res) nox (OV E fn args res)
def acG(E:Env)(fn:Func)(args res:List AM)(p:List Nat)(ks:List (St→Option (HP res))):List (Bool×Nat×(St→Option (HP res))):=
 iM E p (Hn fn) ks (OV E fn args res) nox (OV E fn args res)
theorem avT{E:Env}{fn:Func}{args res:List AM}{κJ κL:Nat→St→Option (HP res)}{p:List Nat}{ks:List (St→Option (HP res))}(g:List (St→Option (HP res)))(h:xR E κJ κL (acG E fn args res p ks)=g.map λf=>(f,f))(σ:St):
 atF E fn args res p ks σ=atQ E fn args res κJ κL p ks σ:=(ot p _ ks _ _ _ σ (akT g h)).symm
theorem akV{E:Env}{fn:Func}{args res:List AM}(hb:fn.body.isSome=true)(x:HP args):Of E fn args res x=atF E fn args res [] [] (entry args x 0 S0):=by
 unfold Of atF Hn
 cases h:fn.body with
 |none=>rw[h]at hb;cases hb
 |some c=>rfl
def lpF(E:Env)(fn:Func)(args res:List AM)(c:List (Nat×CM))(p:List Nat)(ks:List (St→Option (HP res)))(n:Nat):St→Option (HP res):=
 DP (some c) (fun σ kn=>atF E fn args res p (ks++[kn]) σ) n
theorem Y8(E:Env)(fn:Func)(args res:List AM)(c:List (Nat×CM))(p:List Nat)(ks:List (St→Option (HP res)))(n:Nat)(σ:St):
 lpF E fn args res c p ks (n+1) σ=atF E fn args res p (ks++[fun σ'=>xz (some c) σ' (lpF E fn args res c p ks n)]) σ:=rfl
def Y9{β:Type}(κ:Nat→β):List (Nat×β)→Prop
 |[]=>True
 |q::r=>κ q.1=q.2∧Y9 κ r
def V4{β:Type}:List (β×β)→Prop
 |[]=>True
 |q::r=>q.1=q.2∧V4 r
theorem V4.mem{β:Type}: ∀{l:List (β×β)},V4 l→ ∀p∈l,p.1=p.2
 |q::r,h,p,hp=>by
  rcases bh.1 hp with rfl|hp
  ·exact h.1
  ·exact V4.mem h.2 p hp
theorem apQ{β:Type}(d:β): ∀(l:List (Nat×β)),(l.map (·.1)).Nodup→ ∃κ:Nat→β,Y9 κ l
 |[],_=>⟨λ_=>d,trivial⟩
 |q::r,h=>by
  rw[ca,AY]at h
  obtain⟨κ,hκ⟩:=apQ d r h.2
  refine⟨λi=>if i=q.1 then q.2 else κ i,by simp,?_⟩
  have key: ∀(r':List (Nat×β)),(∀p∈r',p∈r)→Y9 κ r'→Y9 (λi=>if i=q.1 then q.2 else κ i) r':=by
   intro r'
   induction r' with
   |nil=>intros;trivial
   |cons p r' ih=>
    intro hm ha
    refine⟨?_,ih (λp' RZ=>hm p' (ba _ RZ)) ha.2⟩
    have kN:p.1≠q.1:=λe=>h.1 (e▸fG (hm p (bu ..)))
    show(if p.1=q.1 then q.2 else κ p.1)=p.2
    rw[ag kN]
    exact ha.1
  exact key r (λ_ h=>h) hκ
theorem aAE{β:Type}(d:β)(l:List (Nat×β)){ks:List Nat}(h:l.map (·.1)=ks)(hd:ks.Nodup): ∃κ:Nat→β,Y9 κ l:=apQ d l (h▸hd)
theorem at_eq(E:Env)(fn:Func)(args res:List AM){κJ κL:Nat→St→Option (HP res)}{p:List Nat}{ks:List (St→Option (HP res))}{l:List ((St→Option (HP res))×(St→Option (HP res)))}(h:xR E κJ κL (acG E fn args res p ks)=l)(hl:V4 l)(σ:St):
 atF E fn args res p ks σ=atQ E fn args res κJ κL p ks σ:=(ot p _ ks _ _ _ σ (by unfold JO;rw[show xR E κJ κL (iM E p (Hn fn) ks (OV E fn args res) nox (OV E fn args res))=l from h];exact hl.mem)).symm
end VM
end
section
namespace VM
open Go Go.RowKit
variable{P:Program}
def OW(i:Nat):List (Nat×Ty)→Option Ty
 |[]=>none
 |q::r=>cond (Nat.beq i q.1) (some q.2) (OW i r)
theorem Kv{i:Nat}{τ:Ty}: ∀{l:List (Nat×Ty)},OW i l=some τ→(i,τ)∈l
 |q::r,h=>by
  unfold OW at h
  cases hb:Nat.beq i q.1<;>rw[hb]at h
  ·exact ba _ (Kv h)
  ·cases h;rw[fF hb];exact bu ..
structure Ho(P:Program)(tab:List (Nat×Ty)):Prop where
 ok:apM P tab=true
 mixed:P.follows .mixedOrders=true
theorem V5{E:Env}(hE:tF P E)(avV:E.io=[]){f:FuncId}{fn:Func}(hf:P.funcs[f]? =some fn)(τs:List Ty)
  (hc:(Nat.beq E.nt fn.ntmps&&Nat.ble τs.length E.nt)=true) {w:World} {vs:List Value} {x:HP (τs.map .v)} (hA:kE w (λ_=>False) (τs.map .v) x vs)
  (h:Of E fn (τs.map .v) [.v .bool] x=some true):Calls P f vs.toArray w λe w'=>e= .returned (.bool true)∧Below w.heap.size w w':=by
 rw[bQ]at hc
 have hnt:=fF hc.1
 have hlen:=Gn hc.2
 have hh: ∀(τs:List Ty) (vs:List Value),eF (τs.map .v) vs=[]:=by
  intro τs
  induction τs with
  |nil=>intro vs;cases vs<;>rfl
  |cons τ τs ih=>intro vs;cases vs with
   |nil=>rfl
   |cons v vs=>simp[eF,dA,ih]
 have hi: ∀(τs:List Ty) (vs:List Value),fQ (τs.map .v) vs=[]:=by
  intro τs
  induction τs with
  |nil=>intro vs;cases vs<;>rfl
  |cons τ τs ih=>intro vs;cases vs with
   |nil=>rfl
   |cons v vs=>simp[fQ,AM.iU,ih]
 refine(Kr (M0:=λ_=>False) (vs:=vs) hE hf hnt (λi m hm wI=> ?_) (λi hi=>by rw[avV]at hi;cases hi) (by rw[cB];rw[←hnt];exact hlen) (λb hb=>hb.elim) (by rw[hh];simpa using hA) (by rw[hh];exact List.nodup_nil) (λb _ hb=>hb) h).mono ?_
 ·rw[ob]at hm
  obtain⟨τ,_,rfl⟩:=AN.1 hm
  cases wI
 ·rintro e w' ⟨v,rfl,us,M',rfl,XU,hL,_,_⟩
  rw[hh]at hL
  rw[hi]at XU
  simp only[RR]at XU
  rcases XU with⟨p,Jp,h1,_⟩|⟨v,NC,_,_,rfl,hv,rfl,_⟩
  ·cases h1
  ·refine⟨?_,hL.os,hL.tape,hL.output,hL.size,λb hb=>hL.frame b hb (by simp)⟩
   have:v= .bool true:=by
    simp only[A1,V,Ty.isAgg,jN,fI,Rd,fW,eL]at hv
    exact hv
   rw[this];rfl
def Za(P:Program):List Ty→List TypeId→Bool
 |[],[]=>true
 |τ::τs,t::ts=>(uT P τ (.inl t)&&τ.qT)&&((P.readableRec t&&decide (t<P.types.size))&&Za P τs ts)
 |_,_=>false
theorem Mb: ∀{τs:List Ty} {ts:List TypeId},Za P τs ts=true→τs.length=ts.length∧ ∀(j:Nat) τ t,τs[j]? =some τ→ts[j]? =some t→(kX P τ t∧τ.qT=true∧P.readableRec t=true∧t<P.types.size)
 |[],[],_=>⟨rfl,λj τ t h=>by simp at h⟩
 |τ::τs,t::ts,h=>by
  simp only[Za,bQ]at h
  obtain⟨⟨h1,h2⟩,⟨h3,h4⟩,h5⟩:=h
  obtain⟨hl,ih⟩:=Mb h5
  refine⟨by simp[hl],λj τ' t' ha hb=> ?_⟩
  cases j with
  |zero=>
   simp only[NW,iI]at ha hb
   subst ha;subst hb
   exact⟨iL h1,h2,h3,bD h4⟩
  |succ j=>exact ih j τ' t' (by simpa using ha) (by simpa using hb)
 |[],_::_,h|_::_,[],h=>by simp[Za]at h
theorem Zb{H:Type}{enc:TypeId×Value→H}{w:World}{fn:Func}{args:Array Value}{ds:List (DataW H)}{ps:List MemPlace}{r:Reach}{b0:Nat}(laid:laidOutB P=true)(τs:List Ty)
  (hA:DataW.TrodAll enc P w 0 (λ_=>true) true fn.params.toList args.toList ds ps) (DW:Za P τs fn.params.toList=true)
  (hv: ∀(j:Nat) t v,fn.params[j]? =some t→args[j]? =some v→Value.okWide P w r b0 t v):
  (∃x:HP (τs.map .v),kE w (λ_=>False) (τs.map .v) x args.toList∧WFs τs x)∧ ∀w',Below w.heap.size w w'→ ∃Jp,DataW.TrodAll enc P w' 0 (λb=>decide (b<w.heap.size)) true fn.params.toList args.toList ds Jp:=
 Ku laid hA (Mb DW).1 (Mb DW).2 (λj t v h h'=>hv j t v (by rw[iH]at h;exact h) (by rw[iH]at h';exact h'))
end VM
end
