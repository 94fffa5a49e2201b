/- A part of the proof of BookDrawn of layer 18: a machine that reads a function of the program as an equation between values. -/
import Derived.Test.YtecmobijochjkaaGreatVm6
import Derived.Laws.StructEq
import Derived.OpenShut
import Derived.ChangeShapes
import Derived.ChangeMaps5
import Derived.RowKit
import Derived.ChangeOld
import Derived.Carry
import Derived.Below
import Derived.Test.YtecmobijochjkaaGreatVm0
set_option linter.all false
open List renaming length→ℓ
noncomputable section
section
namespace VM
open Go
variable{P:Program}{E:Env}{o:Oper}{a:Act}{w:World}{M:Nat→Prop}{ν:Nat→Value}{σ:St}{c:Ctx}{α:Type}{r:α}{next:Act→World→Prop}{Q:Exit→Act→World→Prop}
theorem Sw{m:AM}{ms:List AM}(x:HP (m::ms))(i:Nat)(σ:St):entry (m::ms) x i σ=entry ms (ux x) (i+1) (Sh m (rq x) i σ):=by
 cases ms with
 |nil=>simp[entry,rq]
 |cons n ms=>simp[entry,rq,ux]
theorem Core.xU{tm:Array Value}(h:Core c σ tm w M ν){id:Nat}{v:Value}{e:br}(bk:σ.H id=none)(Vv:ER w M v e)
  (hd: ∀b,fx v=some b→ ∀i e',σ.H i=some e'→e'.mut→fx (ν i)≠some b) (hn: ∀b,fx v=some b→c.B≤b∨c.may b) (ho: ∀b e0 l0,e= .own e0 l0→fx v=some b→ ¬c.M0 b)
  (q5: ∀τ x p j,e= .gn τ x p j→cq σ.H id (some e) j≠none∧ ∃b,v= .pointer (some ⟨b,0,none⟩)∧w.cell? ⟨b,cM p τ,none⟩=some (updν ν id v j):=by intro _ _ _ _ h;cases h):
  Core c ⟨σ.T,cq σ.H id (some e)⟩ tm w M (updν ν id v):=by
 have hm:=Mem.xU h.mem (id:=id) (v:=v) (e:=e) (λe' uF=>by rw[bk]at uF;cases uF) Vv hd hn ho (.inl bk) q5
 refine h.tr ⟨hm,.refl w M,⟨λi e1 hi=> ?_,λi hi=> ?_⟩⟩
 ·have cm:i≠id:=λe=>by rw[e,bk]at hi;cases hi
  exact⟨e1,by rw[az _ _ cm];exact hi,.refl e1⟩
 ·have cm:i≠id:=λe=>hi (e▸bk)
  simp[updν,cm]
theorem Core.put{tm:Array Value}(h:Core c σ tm w M ν){d:Nat}{x:bE}(hx:VR w M σ.H ν x (tm.getD d undef)):Core c (σ.put d x) tm w M ν:=by
 refine⟨h.mem,λi=> ?_⟩
 by_cases hi:i=d
 ·subst hi;rw[vL];exact hx
 ·rw[BF _ _ hi];exact h.tmp i
theorem D5{tm:Array Value}: ∀{ms:List AM} {x:HP ms} {vs:List Value} {i:Nat} {σ:St} {ν:Nat→Value} {used:List Nat},Core c σ tm w M ν→kF w M ms x vs→(∀j v,vs[j]? =some v→tm.getD (i+j) undef=v)→
  (∀j,16*i≤j→σ.H j=none)→(∀j e b,σ.H j=some e→e.mut→fx (ν j)=some b→b∈used)→(used++eA ms vs).Nodup→(∀b∈eA ms vs,c.may b)→(∀b,c.may b→ ¬c.M0 b)→
  ∃ν',Core c (entry ms x i σ) tm w M ν'
 |[],x,vs,i,σ,ν,used,h,_,_,_,_,_,_,_=>⟨ν,h⟩
 |m::ms,x,vs,i,σ,ν,used,h,hA,OI,jx,Hc,w6,Sx,Gz=>by
  rw[Sw]
  simp only[kF]at hA
  obtain⟨v,Nt,rfl,h1,h2⟩:=hA
  have hv:tm.getD i undef=v:=by simpa using OI 0 v rfl
  have JD: ∀j u,Nt[j]? =some u→tm.getD (i+1+j) undef=u:=λj u hj=>by
   have:=OI (j+1) u (by simpa using hj)
   rwa [show i+(j+1)=i+1+j from by omega]at this
  have bk:σ.H (16*i+15)=none:=jx _ ω
  have akT:eA (m::ms) (v::Nt)=dz m v++eA ms Nt:=rfl
  rw[akT]at w6 Sx
  have pf: ∀b,b∈dz m v→ ∀j e',σ.H j=some e'→e'.mut→fx (ν j)≠some b:=λb hb j e' hj jh eY=>
   kt w6 (Hc j e' b hj jh eY) (cU _ hb)
  have wP: ∀{σ':St} {ν':Nat→Value},Core c σ' tm w M ν'→(∀j,16*(i+1)≤j→σ'.H j=none)→(∀j e b,σ'.H j=some e→e.mut→fx (ν' j)=some b→b∈used++dz m v)→ ∃ν'',Core c (entry ms (ux x) (i+1) σ') tm w M ν'':=
   λh' zW VH=>D5 h' h2 JD zW VH (by rw[bD];exact w6) (λb hb=>Sx b (dC _ hb)) Gz
  have OC: ∀(e:br) (v':Value),v'=v→(∀b,fx v=some b→b∈dz m v)→(∀j,16*(i+1)≤j→cq σ.H (16*i+15) (some e) j=none)∧
    (∀j e1 b,cq σ.H (16*i+15) (some e) j=some e1→e1.mut→fx (updν ν (16*i+15) v' j)=some b→b∈used++dz m v):=by
   rintro e v' rfl hb
   refine⟨λj hj=>by rw[az _ _ ω];exact jx j ω,λj e1 b hj jh eY=> ?_⟩
   by_cases Ah:j=16*i+15
   ·subst Ah
    simp only[updν,g9]at eY
    exact dC _ (hb b eY)
   ·rw[az _ _ Ah]at hj
    simp only[updν,Ah,fE]at eY
    exact cU _ (Hc j e1 b hj jh eY)
  cases m with
  |v τ=>
   refine wP (σ':=σ.put i (.val τ (rq x))) (h.put ?_) (λj hj=>jx j ω) (λj e b hj jh eY=>cU _ (Hc j e b hj jh eY))
   simp only[VR,hv];exact h1
  |fn f τ=>
   refine wP (σ':=σ.put i (.NZ f (q4 τ (rq x)))) (h.put ?_) (λj hj=>jx j ω) (λj e b hj jh eY=>cU _ (Hc j e b hj jh eY))
   rw[hv]
   simp only[A1,VR]at h1 ⊢
   obtain⟨us,hu,R6⟩:=h1
   exact⟨us,hu,jQ.free R6⟩
  |own e=>
   have xK: ∀b,fx v=some b→b∈dz (.own e) v:=λb hb=>by simp[dz,hb]
   have hc:=h.xU bk (v:=v) (e:= .own e (rq x)) h1 (λb hb=>pf b (xK b hb)) (λb hb=> .inr (Sx b (cU _ (xK b hb)))) (λb _ _ _ hb=>Gz b (Sx b (cU _ (xK b hb))))
   obtain⟨zW,VH⟩:=OC (.own e (rq x)) v rfl xK
   refine wP (σ':=(σ.put i (.ref (16*i+15))).ku (16*i+15) (some (.own e (rq x)))) (ν':=updν ν (16*i+15) v) (hc.put (d:=i) (x:= .ref (16*i+15)) ?_) zW VH
   simp only[VR,hv]
   exact⟨by rw[ay];simp,by simp[updν]⟩
  |lo e=>
   have xK: ∀b,fx v=some b→b∈dz (.lo e) v:=λb hb=>by simp[dz,hb]
   have hc:=h.xU bk (v:=v) (e:= .own e (rq x)) h1 (λb hb=>pf b (xK b hb)) (λb hb=> .inr (Sx b (cU _ (xK b hb)))) (λb _ _ _ hb=>Gz b (Sx b (cU _ (xK b hb))))
   obtain⟨zW,VH⟩:=OC (.own e (rq x)) v rfl xK
   refine wP (σ':=(σ.put i (.ref (16*i+15))).ku (16*i+15) (some (.own e (rq x)))) (ν':=updν ν (16*i+15) v) (hc.put (d:=i) (x:= .ref (16*i+15)) ?_) zW VH
   simp only[VR,hv]
   exact⟨by rw[ay];simp,by simp[updν]⟩
  |io τ=>
   have xK: ∀b,fx v=some b→b∈dz (.io τ) v:=λb hb=>by simp[dz,hb]
   have hc:=h.xU bk (v:=v) (e:= .obj τ (rq x)) h1 (λb hb=>pf b (xK b hb)) (λb hb=> .inr (Sx b (cU _ (xK b hb)))) (λb _ _ he=>by cases he)
   obtain⟨zW,VH⟩:=OC (.obj τ (rq x)) v rfl xK
   refine wP (σ':=(σ.put i (.jH (16*i+15) [])).ku (16*i+15) (some (.obj τ (rq x)))) (ν':=updν ν (16*i+15) v) (hc.put (d:=i) (x:= .jH (16*i+15) []) ?_) zW VH
   simp only[A1,ER]at h1
   obtain⟨b,cs,t,YE,_⟩:=h1
   simp only[VR,hv]
   exact⟨_,ay _ _ _,trivial,b,by simp[updν,YE],YE⟩
  |jH τ=>
   refine wP (σ':=σ.put i (.su τ (rq x))) (h.put ?_) (λj hj=>jx j ω) (λj e b hj jh eY=>cU _ (Hc j e b hj jh eY))
   rw[hv]
   simp only[A1,VR]at h1 ⊢
   exact h1
  |ptr τ=>
   refine wP (σ':=σ) h (λj hj=>jx j ω) (λj e b hj jh eY=>cU _ (Hc j e b hj jh eY))
  |sp τ n e=>
   refine wP (σ':=σ) h (λj hj=>jx j ω) (λj e b hj jh eY=>cU _ (Hc j e b hj jh eY))
def vP(tm:Array Value):ResultVar→Sem Value
 | .tmp t=>pure (tm.getD t undef)
 | .cell x t=>do loadVar t (←asAddr (tm.getD x undef))
def CT(P:Program)(tm:Array Value)(w:World)(rv:ResultVar)(u:Value):Prop:=(vP tm rv).run P w= .ok u w
def Kf(P:Program)(tm:Array Value)(w:World):List (ResultVar ⊕ Nat)→List Value→List Value→Prop
 |[],us,ps=>us=[]∧ps=[]
 | .inl rv::rs,us,ps=> ∃u EX,us=u::EX∧CT P tm w rv u∧Kf P tm w rs EX ps
 | .inr i::rs,us,ps=> ∃p Jh,ps=p::Jh∧p=tm.getD i undef∧Kf P tm w rs us Jh
theorem Core.acK{tm:Array Value}{H1:Nat→Option br}{M1:Nat→Prop}(h: ∀i,VR w M σ.H ν (σ.T i) (tm.getD i undef))(k:fK w M w M1)(g:uu σ.H ν H1 ν): ∀i,VR w M1 H1 ν (σ.T i) (tm.getD i undef):=
 λi=>VR.cg k g (h i)
theorem D6(hE:EnvTy P E){tm:Array Value}{H0 Hq:Nat→Option br}{M1:Nat→Prop}{uo uf:jI}{io:List (Nat×AM)}{hs:List Nat}(h:kG c w M ν H0 σ.H Hq M1 uo uf io hs)(ht: ∀i,VR w M1 σ.H ν (σ.T i) (tm.getD i undef))
  {m:AM} {rs:ResultVar ⊕ Nat} {k:m.den→St→Option α} (hk:J7 E m rs σ k=some r):
  ∃y σ' Nm Nn Ja X3 M2 u,k y σ'=some r∧σ'.T=σ.T∧kG c w M ν H0 σ'.H X3 M2 Nm Nn Ja (hs++dz m u)∧fK w M1 w M2∧uu σ.H ν σ'.H ν∧A1 w M2 m y u∧
   ((m.iV=false∧m.acu=false∧ ∃rv,rs= .inl rv∧CT P tm w rv u)∨(m.iV=true∧ ∃i,rs= .inr i∧u=tm.getD i undef)):=by
 unfold J7 at hk
 split at hk
 ·
  rename_i τ t k
  obtain⟨y,rd,ups,hk,hy⟩:=FD h.mem (ht t) hk
  have Sy:CT P tm w (.tmp t) (tm.getD t undef):=by simp[CT,vP]
  rcases hy with⟨rfl,hV⟩|⟨id,e,l,rfl,bk,hV⟩
  ·exact⟨y,σ,uo,uf,io,Hq,M1,_,hk,rfl,by simpa [dz]using h,.refl w M1,.refl _ ν,hV,.inl ⟨rfl,rfl,_,rfl,Sy⟩⟩
  ·obtain⟨M2,hA,hK,LF⟩:=h.freeze bk
   exact⟨y,_,uo,_,io,Hq,M2,_,hk,rfl,(by simp only[dz,cy];exact hA),hK,.upd bk ⟨rfl,rfl⟩,hV M2 LF,.inl ⟨rfl,rfl,_,rfl,Sy⟩⟩
 ·
  rename_i τ x t k
  split at hk
  ·rename_i τ' DU
   obtain⟨e1,Uf⟩:=dW hk
   clear hk
   subst e1
   obtain⟨υ,z,rd,hk,b,off,cs,hv,pN,kE⟩:=DT h.mem (ht x) Uf
   obtain⟨e2,VL⟩:=bz hk
   subst e2
   refine⟨_,σ,uo,uf,io,Hq,M1,ck _ cs,VL,rfl,by simpa [dz]using h,.refl w M1,.refl _ ν,V.ck kE,.inl ⟨rfl,rfl,_,rfl,?_⟩⟩
   simp only[CT,vP,hv]
   simp[asAddr,DR (hE.ty t _ DU) pN kE]
  ·cases hk
 ·
  rename_i e t k
  have hv:=ht t
  have Sy:CT P tm w (.tmp t) (tm.getD t undef):=by simp[CT,vP]
  split at hk
  ·rename_i hT
   rw[hT]at hv
   obtain⟨ad,hv⟩:=VR.emp.1 hv
   have hb:fx (.slice ad 0 0)=none:=by cases ad<;>simp[fx]
   exact⟨[],σ,uo,uf,io,Hq,M1,_,hk,rfl,by rw[hv];simpa [dz,hb]using h,.refl w M1,.refl _ ν,by rw[hv];simp only[A1,ER];exact .inl ⟨trivial,ad,rfl⟩,.inl ⟨rfl,rfl,_,rfl,Sy⟩⟩
  ·rename_i id hT
   rw[hT]at hv
   simp only[VR]at hv
   split at hk
   ·rename_i e' l bk
    obtain⟨e1,hk⟩:=bz hk
    cases e1
    refine⟨_,_,_,uf,io,_,M1,ν id,hk,rfl,(by simp only[dz];exact h.hand bk),.refl w M1,.upd bk (br.kq _),h.mem.ke id _ bk,.inl ⟨rfl,rfl,_,rfl,by rw[←hv.2];exact Sy⟩⟩
   ·cases hk
  ·cases hk
 ·
  rename_i τ i k
  have hv:=ht i
  split at hk
  ·rename_i id hT
   rw[hT]at hv
   split at hk
   ·rename_i υ z bk
    obtain⟨e1,hk⟩:=bz hk
    subst e1
    simp only[VR]at hv
    obtain⟨e,he,lR⟩:=hv
    rw[bk]at he;cases he
    simp only[AR]at lR
    obtain⟨_,b,hb,hv⟩:=lR
    have YE:tm.getD i undef=ν id:=by rw[hv,hb];rfl
    refine⟨_,_,uo,uf,_,_,M1,ν id,hk,rfl,(by simp only[dz];exact h.akE bk),.refl w M1,.upd bk (br.kq _),h.mem.ke id _ bk,.inr ⟨rfl,i,rfl,YE.symm⟩⟩
   ·cases hk
  ·cases hk
 ·
  rename_i e i k
  have hv:=ht i
  split at hk
  ·rename_i id hT
   rw[hT]at hv
   simp only[VR]at hv
   split at hk
   ·rename_i e' l bk
    obtain⟨e1,hk⟩:=bz hk
    cases e1
    refine⟨_,_,uo,uf,_,_,M1,ν id,hk,rfl,(by simp only[dz];exact h.ai8 bk),.refl w M1,.upd bk (br.kq _),h.mem.ke id _ bk,.inr ⟨rfl,i,rfl,hv.2.symm⟩⟩
   ·cases hk
  ·cases hk
 ·
  rename_i τ t k
  have hv:=ht t
  have Sy:CT P tm w (.tmp t) (tm.getD t undef):=by simp[CT,vP]
  split at hk
  ·rename_i id hT
   rw[hT]at hv
   split at hk
   ·rename_i υ z bk
    obtain⟨e1,hk⟩:=bz hk
    subst e1
    simp only[VR]at hv
    obtain⟨e,he,lR⟩:=hv
    rw[bk]at he;cases he
    simp only[AR]at lR
    obtain⟨_,b,hb,hv⟩:=lR
    have YE:tm.getD t undef=ν id:=by rw[hv,hb];rfl
    refine⟨_,_,uo,uf,_,_,M1,ν id,hk,rfl,(by simp only[dz];exact h.akE bk),.refl w M1,.upd bk (br.kq _),h.mem.ke id _ bk,.inl ⟨rfl,rfl,_,rfl,by rw[←YE];exact Sy⟩⟩
   ·cases hk
  ·cases hk
 ·
  rename_i τ n e x t k
  split at hk
  ·rename_i τ' id DU hT
   obtain⟨e1,Uf⟩:=dW hk
   clear hk
   subst e1
   have hv:=ht x
   rw[hT]at hv
   split at Uf
   ·rename_i υ z q j bk
    obtain⟨hpq,VL⟩:=cD Uf
    clear Uf
    have:=zX hpq
    subst this
    obtain⟨e2,hk3⟩:=bz VL
    clear VL
    subst e2
    split at hk3
    ·rename_i e' l hj
     obtain⟨e3,hk4⟩:=bz hk3
     clear hk3
     cases e3
     obtain⟨y,hk5,sC,_⟩:=GH hk4
     clear hk4
     obtain⟨b,cs,te,ki,e0,hb,hg,hM,hr,uw,h1,hq,eV,hj0⟩:=h.mem.linked bk
     simp only[VR]at hv
     obtain⟨e1,GJ,lR⟩:=hv
     rw[bk]at GJ;cases GJ
     simp only[AR]at lR
     obtain⟨hi,b',eY,hu⟩:=lR
     rw[hb]at eY;cases eY
     have hl:cs.toList.length=υ.size:=by rw[uw,eF (by simp only[aK];omega),hr.length]
     have ap3:cs.toList=eJ ki (gE υ n) [ν j]:=by simpa [cM]using uw
     have pN:At w b 0 cs.toList:=by
      have:=At.of_block hg 0 cs.toList.length
      rw[cJ,im]at this
      exact this
     have hh:=y6 (w:=w) (M:=M1) (e:=e) (rQ hq) hr ap3
     have hA:=h.hand hj
     rw[←hh.1]at hA
     refine⟨y,_,_,_,_,_,M1,.agg cs,hk5,rfl,hA,.refl w M1,.upd hj (br.kq _),?_,.inl ⟨rfl,rfl,_,rfl,?_⟩⟩
     ·simp only[A1]
      exact⟨cs,ki,ν j,l,z,rfl,rQ hq,hr,ap3,h.mem.ke j _ hj,sC⟩
     ·simp only[CT,vP,hu]
      simp[asAddr]
      exact DS (P:=P) (hE.ty t _ DU) (GK (rQ hq)) pN hl
    ·cases hk3
   ·cases Uf
  ·cases hk
 ·cases hk
theorem Hd(hE:EnvTy P E){tm:Array Value}{H0:Nat→Option br}: ∀{ms:List AM} {rs:List (ResultVar ⊕ Nat)} {σ:St} {Hq:Nat→Option br} {M1:Nat→Prop} {uo uf:jI} {io:List (Nat×AM)} {hs:List Nat} {K:HP ms→Option α},
  kG c w M ν H0 σ.H Hq M1 uo uf io hs→(∀i,VR w M1 σ.H ν (σ.T i) (tm.getD i undef))→Lx E ms rs σ K=some r→
  ∃y us ps H2 Nm Nn Ja X3 M2,K y=some r∧kG c w M ν H0 H2 X3 M2 Nm Nn Ja (hs++bI ms us ps)∧fK w M1 w M2∧RR w M2 ms y us ps∧Kf P tm w rs us ps
 |[],[],σ,Hq,M1,uo,uf,io,hs,K,h,ht,hk=>⟨(),[],[],σ.H,uo,uf,io,Hq,M1,hk,by simpa [bI]using h,.refl w M1,⟨rfl,rfl⟩,⟨rfl,rfl⟩⟩
 |[m],[q],σ,Hq,M1,uo,uf,io,hs,K,h,ht,hk0=>by
  obtain⟨y,σ',Nm,Nn,Ja,X3,M2,u,hk,hT,hA,hK,hG,hy,hu⟩:=D6 hE h ht (hk0:J7 E m q σ _=some r)
  clear hk0
  rcases hu with⟨h1,h2,rv,rfl,hv⟩|⟨h1,i,rfl,hv⟩
  ·refine⟨y,[u],[],_,_,_,_,_,M2,hk,by simpa [bI,h1]using hA,hK,?_,?_⟩
   ·simp only[RR];exact .inr ⟨u,[],h1,h2,rfl,hy,by simp⟩
   ·simp only[Kf];exact⟨u,[],rfl,hv,by simp⟩
  ·refine⟨y,[],[u],_,_,_,_,_,M2,hk,by simpa [bI,h1]using hA,hK,?_,?_⟩
   ·simp only[RR];exact .inl ⟨u,[],h1,rfl,hy,by simp⟩
   ·simp only[Kf];exact⟨u,[],rfl,hv,by simp⟩
 |m::n::ms,q::rs,σ,Hq,M1,uo,uf,io,hs,K,h,ht,hk0=>by
  obtain⟨y,σ',Nm,Nn,Ja,X3,M2,u,Uf,hT,hA,hK,hG,hy,hu⟩:=D6 hE h ht (hk0:J7 E m q σ _=some r)
  obtain⟨ys,us,ps,H3,uo3,uf3,io3,Hq3,M3,hk,hA3,hK3,hys,hrs⟩:=Hd (ms:=n::ms) hE hA (λi=>by rw[hT];exact Core.acK ht hK hG i) Uf
  have Kd:A1 w M3 m y u:=A1.xT hK3 (λb hb=>⟨rfl,hA3.hM b (cU _ (dC _ hb))⟩) hy
  clear hk0
  rcases hu with⟨h1,h2,rv,rfl,hv⟩|⟨h1,i,rfl,hv⟩
  ·refine⟨(y,ys),u::us,ps,H3,uo3,uf3,io3,Hq3,M3,hk,?_,hK.trans hK3,?_,?_⟩
   ·have:bI (m::n::ms) (u::us) ps=dz m u++bI (n::ms) us ps:=by rw[bI];simp[h1]
    rw[this,←bD];exact hA3
   ·rw[RR];exact .inr ⟨u,us,h1,h2,rfl,Kd,hys⟩
   ·simp only[Kf];exact⟨u,us,rfl,hv,hrs⟩
  ·refine⟨(y,ys),us,u::ps,H3,uo3,uf3,io3,Hq3,M3,hk,?_,hK.trans hK3,?_,?_⟩
   ·have:bI (m::n::ms) us (u::ps)=dz m u++bI (n::ms) us ps:=by rw[bI];simp[h1]
    rw[this,←bD];exact hA3
   ·rw[RR];exact .inl ⟨u,ps,h1,rfl,Kd,hys⟩
   ·simp only[Kf];exact⟨u,ps,rfl,hv,hrs⟩
 |[],_::_,_,_,_,_,_,_,_,_,_,_,hk=>by simp[Lx]at hk
 |[_],[],_,_,_,_,_,_,_,_,_,_,hk=>by simp[Lx]at hk
 |[_],_::_::_,_,_,_,_,_,_,_,_,_,_,hk=>by simp[Lx]at hk
 |_::_::_,[],_,_,_,_,_,_,_,_,_,_,hk=>by simp[Lx]at hk
end VM
end
section
namespace VM
open Go
variable{P:Program}{E:Env}{o:Oper}{a:Act}{w:World}{M:Nat→Prop}{ν:Nat→Value}{σ:St}{c:Ctx}{α:Type}{r:α}{next:Act→World→Prop}{Q:Exit→Act→World→Prop}
theorem Kg{tm:Array Value}: ∀{rv:List ResultVar} {is:List (ResultVar ⊕ Nat)} {us ps:List Value},Kf P tm w (rv.map .inl++is) us ps→
  ∃us1 us2,us=us1++us2∧us1.length=rv.length∧(∀i (h:i<rv.length) (h':i<us1.length),CT P tm w rv[i] us1[i])∧Kf P tm w is us2 ps
 |[],is,us,ps,h=>⟨[],us,rfl,rfl,λi h=>by simp at h,h⟩
 |rv::rvs,is,us,ps,h=>by
  simp only[bV,m0,Kf]at h
  obtain⟨u,EX,rfl,h1,h2⟩:=h
  obtain⟨us1,us2,rfl,hl,h3,h4⟩:=Kg h2
  refine⟨u::us1,us2,rfl,by simp[hl],λi hi oe=> ?_,h4⟩
  cases i with
  |zero=>exact h1
  |succ i=>exact h3 i (by simpa using hi) (by simpa using oe)
theorem vQ{tm:Array Value}: ∀{ms:List AM} {vs:List Value} {i:Nat} {us ps:List Value},vs.length=ms.length→(∀j v m,vs[j]? =some v→ms[j]? =some m→m.iV=true→tm.getD (i+j) undef=v)→Kf P tm w (zw ms i) us ps→us=[]∧ps=fN ms vs
 |[],vs,i,us,ps,_,_,h=>by simp only[zw,Kf]at h;simpa [fN]using h
 |m::ms,[],_,_,_,hl,_,_=>by simp at hl
 |m::ms,v::vs,i,us,ps,hl,OI,h=>by
  have JD: ∀j u m,vs[j]? =some u→ms[j]? =some m→m.iV=true→tm.getD (i+1+j) undef=u:=λj u m hj hm wQ=>by
   have:=OI (j+1) u m (by simpa using hj) (by simpa using hm) wQ
   rwa [show i+(j+1)=i+1+j from by omega]at this
  have Jb:vs.length=ms.length:=by simpa using hl
  cases m with
  |io τ=>
   simp only[zw,Kf]at h
   obtain⟨p,Jh,rfl,hp,h⟩:=h
   obtain⟨h1,h2⟩:=vQ Jb JD h
   refine⟨h1,?_⟩
   have:=OI 0 v (.io τ) rfl rfl rfl
   simp only[mC]at this
   simp[fN,AM.iV,h2,hp,this]
  |lo e=>
   simp only[zw,Kf]at h
   obtain⟨p,Jh,rfl,hp,h⟩:=h
   obtain⟨h1,h2⟩:=vQ Jb JD h
   refine⟨h1,?_⟩
   have:=OI 0 v (.lo e) rfl rfl rfl
   simp only[mC]at this
   simp[fN,AM.iV,h2,hp,this]
  |v τ=>
   obtain⟨h1,h2⟩:=vQ Jb JD (show Kf P tm w (zw ms (i+1)) us ps from h)
   exact⟨h1,by simp[fN,AM.iV,h2]⟩
  |own τ=>
   obtain⟨h1,h2⟩:=vQ Jb JD (show Kf P tm w (zw ms (i+1)) us ps from h)
   exact⟨h1,by simp[fN,AM.iV,h2]⟩
  |fn f τ=>
   obtain⟨h1,h2⟩:=vQ Jb JD (show Kf P tm w (zw ms (i+1)) us ps from h)
   exact⟨h1,by simp[fN,AM.iV,h2]⟩
  |jH τ=>
   obtain⟨h1,h2⟩:=vQ Jb JD (show Kf P tm w (zw ms (i+1)) us ps from h)
   exact⟨h1,by simp[fN,AM.iV,h2]⟩
  |ptr τ=>
   obtain⟨h1,h2⟩:=vQ Jb JD (show Kf P tm w (zw ms (i+1)) us ps from h)
   exact⟨h1,by simp[fN,AM.iV,h2]⟩
  |sp τ n e=>
   obtain⟨h1,h2⟩:=vQ Jb JD (show Kf P tm w (zw ms (i+1)) us ps from h)
   exact⟨h1,by simp[fN,AM.iV,h2]⟩
theorem OL{fn:Func}{tm:Array Value}{us:List Value}(hl:us.length=fn.results.toList.length)(h: ∀i (h:i<fn.results.toList.length) (h':i<us.length),CT P tm w fn.results.toList[i] us[i]):
  (results fn tm).run P w= .ok (xS us) w:=by
 have key: ∀(rs:List ResultVar) (us:List Value),us.length=rs.length→(∀i (h:i<rs.length) (h':i<us.length),CT P tm w rs[i] us[i])→(rs.mapM (vP tm)).run P w= .ok us w:=by
  intro rs
  induction rs with
  |nil=>intro us hl _;cases us with
   |nil=>simp
   |cons _ _=>simp at hl
  |cons r rs ih=>intro us hl h;cases us with
   |nil=>simp at hl
   |cons u us=>
    have h0:(vP tm r).run P w= .ok u w:=h 0 (by simp) (by simp)
    have h1:=ih us (by simpa using hl) (λi hi oe=>h (i+1) (by simpa using hi) (by simpa using oe))
    simp[A3,h0,h1]
 have h2:=key fn.results.toList us hl h
 have h3:results fn tm=(do let vs ←fn.results.mapM (vP tm);pure (if h:vs.size=1 then vs[0]else .tuple vs)):=by
  unfold results
  congr 1
 rw[h3,Array.mapM_eq_mapM_toList]
 simp only[Sem.run_bind,Sem.run_map,h2]
 unfold xS
 by_cases h3:us.length=1
 ·simp[h3]
 ·simp[h3]
theorem Kh(hE:sF P E){f:FuncId}{fn:Func}(hf:P.funcs[f]? =some fn)(hnt:E.nt=fn.ntmps){args res:List AM}(wQ: ∀i m,args[i]? =some m→m.iV=true→i∈E.io)(ap6: ∀i∈E.io,i<args.length)(hlen:args.length≤fn.ntmps)
  {M0:Nat→Prop} {vs:List Value} {x:HP args} {y:HP res} (tt: ∀b,M0 b→b<w.heap.size) (hA:kF w (λb=>M0 b∨b∈eA args vs) args x vs) (w6:(eA args vs).Nodup) (xW: ∀b∈eA args vs,¬M0 b)
  (h:No E fn args res x=some y):
  Calls P f vs.toArray w λe w'=> ∃v,e= .returned v∧ ∃us M',v=xS us∧RR w' M' res y us (fN args vs)∧Left w M0 (eA args vs) w' M'∧(bI res us (fN args vs)).Nodup∧ ∀b∈bI res us (fN args vs),¬M0 b:=by
 unfold No at h
 split at h
 ·cases h
 rename_i cd hb
 simp only at h
 have hvl: ∀{ms:List AM} {x:HP ms} {vs:List Value} {M:Nat→Prop},kF w M ms x vs→vs.length=ms.length:=by
  intro ms
  induction ms with
  |nil=>intro x vs M h;simp only[kF]at h;subst h;rfl
  |cons m ms ih=>intro x vs M h;simp only[kF]at h;obtain⟨v,Nt,rfl,_,h⟩:=h;simp[ih h]
 have hvs:=hvl hA
 let tm:Array Value:=vs.toArray++Array.replicate (fn.ntmps-vs.toArray.size) undef
 have OI: ∀j v,vs[j]? =some v→tm.getD j undef=v:=by
  intro j v hj
  have eV:j<vs.length:=(vA.1 hj).1
  rw[tI,Array.getElem?_append_left (by simpa using eV),Gb,hj];rfl
 have q6:tm.size=fn.ntmps:=by simp[tm];omega
 have hhb: ∀{ms:List AM} {x:HP ms} {vs:List Value} {M:Nat→Prop},kF w M ms x vs→ ∀b∈eA ms vs,b<w.heap.size:=by
  intro ms
  induction ms with
  |nil=>intro x vs M h b hb;simp[eA]at hb
  |cons m ms ih=>
   intro x vs M h b hb
   simp only[kF]at h
   obtain⟨v,Nt,rfl,h1,h⟩:=h
   simp only[eA,bn]at hb
   rcases hb with hb|hb
   ·cases m with
    |v _=>simp[dz]at hb
    |fn _ _=>simp[dz]at hb
    |jH _=>simp[dz]at hb
    |own e=>
     simp only[dz,fj,A1,ER]at hb h1
     rcases h1 with⟨_,a,hv⟩|⟨b',cs,t,cap,hv,hg,_⟩
     ·rw[hv]at hb;cases a<;>simp[fx]at hb
     ·rw[hv]at hb
      simp only[fx]at hb
      split at hb
      ·cases hb
      ·simp only[iI]at hb;subst hb;exact lt_of_block hg
    |lo e=>
     simp only[dz,fj,A1,ER]at hb h1
     rcases h1 with⟨_,a,hv⟩|⟨b',cs,t,cap,hv,hg,_⟩
     ·rw[hv]at hb;cases a<;>simp[fx]at hb
     ·rw[hv]at hb
      simp only[fx]at hb
      split at hb
      ·cases hb
      ·simp only[iI]at hb;subst hb;exact lt_of_block hg
    |io τ=>
     simp only[dz,fj,A1,ER]at hb h1
     obtain⟨b',cs,t,hv,hg,_⟩:=h1
     rw[hv]at hb
     simp only[fx,iI]at hb;subst hb;exact lt_of_block hg
    |ptr τ=>
     simp only[dz,fj,A1,ER]at hb h1
     obtain⟨b',cs,t,hv,hg,_⟩:=h1
     rw[hv]at hb
     simp only[fx,iI]at hb;subst hb;exact lt_of_block hg
    |sp τ n e=>
     simp only[A1]at h1
     obtain⟨cs,ki,u,l,z,rfl,hq,hr,uw,hu,_⟩:=h1
     rw[(y6 hq hr uw).1,fj]at hb
     simp only[ER]at hu
     rcases hu with⟨_,a,hv⟩|⟨b',cs,t,cap,hv,hg,_⟩
     ·rw[hv]at hb;cases a<;>simp[fx]at hb
     ·rw[hv]at hb
      simp only[fx]at hb
      split at hb
      ·cases hb
      ·simp only[iI]at hb;subst hb;exact lt_of_block hg
   ·exact ih h b hb
 let cx:Ctx:={B:=w.heap.size,w0:=w,M0:=M0,may:=λb=>b∈eA args vs,arg:=λi=>tm.getD i undef}
 have hm0:Mem cx (λ_=>none) w (λb=>M0 b∨b∈eA args vs) (λ_=>undef):=
  ⟨λi e hi=>(by cases hi),λi j e e' b _ hi=>(by cases hi),λi e b hi=>(by cases hi),λi e l b hi=>(by cases hi),λi τ x p j hi=>(by cases hi),λb hb=> .inl hb,λb hb=>hb.elim (tt b) (hhb hA b),λ_ _ _=>rfl,aH _,⟨tt,xW⟩,rfl,rfl,rfl⟩
 have T4:Core cx ⟨λ_=> .any,λ_=>none⟩ tm w (λb=>M0 b∨b∈eA args vs) (λ_=>undef):=⟨hm0,λi=>by simp[VR]⟩
 obtain⟨ν',hc⟩:=D5 (i:=0) (used:=[]) T4 hA (λj v hj=>by rw[gr];exact OI j v hj) (λ_ _=>rfl) (λj e b hj=>by cases hj) (by simpa using w6) (λb hb=>hb) (λb hb=>xW b hb)
 have hI:Inv cx E (entry args x 0 ⟨λ_=> .any,λ_=>none⟩) {tmps:=tm,defers:=[]} w:=⟨⟨_,_,hc⟩,by rw[hnt,q6],rfl,λi _=>rfl⟩
 refine calls_of_wp hf hb ?_
 have ap7: ∀(σ':St) (a':Act) (w':World),Lx E res (fn.results.toList.map .inl++zw args 0) σ' some=some y→Inv cx E σ' a' w'→
   a'.defers=[]∧ ∃v,(results fn a'.tmps).run P w'= .ok v w'∧ ∃v',Ending.returned v= .returned v'∧ ∃us M',v'=xS us∧RR w' M' res y us (fN args vs)∧Left w M0 (eA args vs) w' M'∧(bI res us (fN args vs)).Nodup∧ ∀b∈bI res us (fN args vs),¬M0 b:=by
  rintro σ' a' w' hk ⟨⟨M1,ν1,EV⟩,Nr,hd1,xV⟩
  obtain⟨y',us,ps,H2,uo,uf,io,Hq,M2,hy,Y2,hK,X4,hRs⟩:=Hd (P:=P) hE.toEnvTy (kG.start EV.mem) EV.tmp hk
  cases hy
  obtain⟨us1,us2,rfl,hl,hv,av0⟩:=Kg hRs
  obtain⟨rfl,Jf⟩:=vQ (vs:=vs) hvs (λj v m hj hm GX=>by
   rw[gr]
   rw[xV j (wQ j m hm GX)]
   exact OI j v hj) av0
  rw[cy]at*
  subst Jf
  simp only[cB]at Y2
  have kH: ∀b∈bI res us1 (fN args vs),b<w.heap.size→b∈eA args vs:=λb hb eV=>(Y2.Ot b hb).elim (λh'=>absurd eV (Nat.not_lt.2 h')) (λh=>h)
  have Kd:fK w' M2 w' (λb=>M2 b∧(b<w.heap.size→M0 b∨b∈eA args vs)):=⟨aH _,λ_ _ _=>rfl,λ_ _ h=>h.1⟩
  refine⟨hd1,xS us1,OL hl hv,_,rfl,us1,λb=>M2 b∧(b<w.heap.size→M0 b∨b∈eA args vs),rfl,RR.xT Kd (λb hb=>⟨rfl,X4.sE b hb,λeV=> .inr (kH b hb eV)⟩) X4,⟨λb hb=>⟨Y2.mem.sub b hb,λ_=> .inl hb⟩,λb hb=>Y2.mem.Gy b hb.1,λb eV hb=>hb.2 eV,λb eV hb=>Y2.mem.frame b eV hb,Y2.mem.size,Y2.mem.os,Y2.mem.tape,Y2.mem.output⟩,Y2.nd,λb hb h0=> ?_⟩
  rcases Y2.Ot b hb with h'|h'
  ·exact absurd (tt b h0) (Nat.not_lt.2 h')
  ·exact xW b h' h0
 refine V4 (c:=cx) hE cd _ _ w _ _ _ _ hI h (fun σ' a' w' hk zJ=> ?_) (λi σ' a' w' hk=>by cases hk) (fun σ' a' w' hk zJ=> ?_)
 ·exact ap7 σ' a' w' hk zJ
 ·exact ap7 σ' a' w' hk zJ
theorem Y3(hE:sF P E){f:FuncId}{fn:Func}(hf:P.funcs[f]? =some fn)(BH:(fn.name== "runtime.NumGoroutine")=false)(hnt:E.nt=fn.ntmps)(S:nc)
  (wQ: ∀i m,S.args[i]? =some m→m.iV=true→i∈E.io) (ap6: ∀i∈E.io,i<S.args.length) (hlen:S.args.length≤fn.ntmps) (hq:S.quiet=true→S.res.all AM.flat=true) (av1:nE S.args=nE S.res)
  (dG: ∀x,No E fn S.args S.res x=S.run x):jw P f S:=by
 refine⟨hq,av1,λM0 w vs x y tt hA w6 xW hy=> ?_⟩
 have hb:fn.body.isNone=false:=by
  have:=dG x
  rw[hy]at this
  unfold No at this
  split at this
  ·cases this
  ·rename_i cd hcd;rw[hcd];rfl
 exact uy hf BH hb (Kh hE hf hnt wQ ap6 hlen tt hA w6 xW (by rw[dG,hy]))
end VM
end
section
namespace VM
open Go
variable{P:Program}
def BI:Ty→List Value→Option (List Value)
 | .int k,v::r=>match v with
  | .int k' n=>if k'=k∧n=0 then some r else none
  |_=>none
 | .bool,v::r=>match v with
  | .bool false=>some r
  |_=>none
 | .str,v::r=>match v with
  | .string s=>if s.data.size=0 then some r else none
  |_=>none
 | .slice _,v::r=>match v with
  | .slice none n m=>if n=0∧m=0 then some r else none
  |_=>none
 | .unit,r=>some r
 | .pair a b,r=>match BI a r with
  |some r=>BI b r
  |none=>none
 | .arr n e,r=>Nat.rec (motive:=λ_=>List Value→Option (List Value)) (λr=>some r) (λ_ ih r=>match BI e r with
  |some r=>ih r
  |none=>none) n r
 |_,[]=>none
theorem BJ: ∀{τ:Ty} {l r:List Value},BI τ l=some r→l=τ.cI++r
 | .int k,[],_,h| .bool,[],_,h| .str,[],_,h| .slice _,[],_,h=>by simp[BI]at h
 | .int k,v::l,r,h=>by
  simp only[BI]at h
  split at h
  ·split at h
   ·rename_i hc;obtain⟨rfl,rfl⟩:=hc;cases h;rfl
   ·cases h
  ·cases h
 | .bool,v::l,r,h=>by
  simp only[BI]at h
  split at h
  ·cases h;rfl
  ·cases h
 | .str,v::l,r,h=>by
  simp only[BI]at h
  split at h
  ·rename_i s
   split at h
   ·rename_i hs
    cases h
    have:s=ByteArray.empty:=by
     obtain⟨d⟩:=s
     have:d= #[]:=Array.eq_empty_of_size_eq_zero hs
     subst this;rfl
    subst this;rfl
   ·cases h
  ·cases h
 | .slice _,v::l,r,h=>by
  simp only[BI]at h
  split at h
  ·split at h
   ·rename_i hc;obtain⟨rfl,rfl⟩:=hc;cases h;rfl
   ·cases h
  ·cases h
 | .unit,l,r,h=>by simp only[BI]at h;cases h;rfl
 | .pair a b,l,r,h=>by
  simp only[BI]at h
  split at h
  ·rename_i r1 h1
   rw[BJ h1,BJ h];simp[Ty.cI]
  ·cases h
 | .arr n e,l,r,h=>by
  simp only[BI]at h
  simp only[Ty.cI]
  induction n generalizing l with
  |zero=>cases h;rfl
  |succ n ih=>
   simp only at h
   split at h
   ·rename_i r1 h1
    rw[BJ h1,ih _ h];simp[AU]
   ·cases h
def BK(P:Program)(τ:Ty)(t:TypeId):Bool:=
 match P.info? t with
 |none=>false
 |some i=>Nat.beq i.size τ.size&&Nat.ble i.bytes 2048&&(match i.zero with
  |none=>false
  |some z=>match τ.isAgg,z with
   |true,.agg cs=>(match BI τ cs.toList with|some []=>true|_=>false)
   |false,z=>(match BI τ [z]with|some []=>true|_=>false)
   |_,_=>false)
theorem sI{τ:Ty}{t:TypeId}(h:BK P τ t=true):Ly P τ t:=by
 unfold BK at h
 split at h
 ·cases h
 ·rename_i i hi
  simp only[bP,Bc]at h
  obtain⟨⟨h1,h2⟩,h3⟩:=h
  refine⟨i,hi,fA h1,?_,h2⟩
  split at h3
  ·cases h3
  ·rename_i z hz
   rw[hz]
   split at h3
   ·rename_i _ cs ha
    split at h3
    ·rename_i he
     have:=BJ he
     unfold ck
     rw[ak ha,←cy τ.cI,←this]
    ·cases h3
   ·rename_i ha
    split at h3
    ·rename_i he
     have:=BJ he
     unfold ck
     rw[ah (by rw[ha];exact pJ),←cy τ.cI,←this];rfl
    ·cases h3
   ·cases h3
def u6(P:Program):Ty→TypeId ⊕ (Array Field×Nat×Nat)→Bool
 | .int k,.inl t=>BK P (.int k) t&&(match P.underlying t with|some (.int k')=>decide (k'=k)|_=>false)
 | .bool,.inl t=>BK P .bool t&&(match P.underlying t with|some .bool=>true|_=>false)
 | .str,.inl t=>BK P .str t&&(match P.underlying t with|some .string=>true|_=>false)
 | .slice e,.inl t=>BK P (.slice e) t&&(match P.underlying t with|some (.slice e')=>u6 P e (.inl e')|_=>false)
 | .arr n e,.inl t=>BK P (.arr n e) t&&(match P.underlying t with|some (.array n' e')=>Nat.beq n' n&&u6 P e (.inl e')|_=>false)
 | .unit,.inl t=>BK P .unit t&&(match P.underlying t with|some (.struct fs)=>Nat.beq fs.size 0|_=>false)
 | .unit,.inr q=>Nat.beq q.1.size q.2.1
 | .pair a b,.inl t=>BK P (.pair a b) t&&(match P.underlying t with
  |some (.struct fs)=>(match fs[0]? with
   |some f=>Nat.beq f.offset 0&&(u6 P a (.inl f.type)&&u6 P b (.inr (fs,1,a.size)))
   |none=>false)
  |_=>false)
 | .pair a b,.inr q=>(match q.1[q.2.1]? with
  |some f=>Nat.beq f.offset q.2.2&&(u6 P a (.inl f.type)&&u6 P b (.inr (q.1,q.2.1+1,q.2.2+a.size)))
  |none=>false)
 |_,.inr _=>false
theorem iM: ∀{τ:Ty} {x:TypeId ⊕ (Array Field×Nat×Nat)},u6 P τ x=true→gD P τ x
 | .int k,.inl t,h=>by
  simp only[u6,bP]at h
  refine⟨sI h.1,?_⟩
  have h:=h.2
  split at h
  ·rename_i k' hu;rw[hu,bA h]
  ·cases h
 | .bool,.inl t,h=>by
  simp only[u6,bP]at h
  refine⟨sI h.1,?_⟩
  have h:=h.2
  split at h
  ·rename_i hu;exact hu
  ·cases h
 | .str,.inl t,h=>by
  simp only[u6,bP]at h
  refine⟨sI h.1,?_⟩
  have h:=h.2
  split at h
  ·rename_i hu;exact hu
  ·cases h
 | .slice e,.inl t,h=>by
  simp only[u6,bP]at h
  refine⟨sI h.1,?_⟩
  have h:=h.2
  split at h
  ·rename_i e' hu;exact⟨e',hu,iM h⟩
  ·cases h
 | .arr n e,.inl t,h=>by
  simp only[u6,bP]at h
  refine⟨sI h.1,?_⟩
  have h:=h.2
  split at h
  ·rename_i n' e' hu
   simp only[bP]at h
   obtain⟨h0,h⟩:=h
   rw[fA h0]at hu
   exact⟨e',hu,iM h⟩
  ·cases h
 | .unit,.inl t,h=>by
  simp only[u6,bP]at h
  refine⟨sI h.1,?_⟩
  have h:=h.2
  split at h
  ·rename_i fs hu;exact⟨fs,hu,fA h⟩
  ·cases h
 | .unit,.inr (fs,n,o),h=>by simp only[u6]at h;exact fA h
 | .pair a b,.inl t,h=>by
  simp only[u6,bP]at h
  refine⟨sI h.1,?_⟩
  have h:=h.2
  split at h
  ·rename_i fs hu
   split at h
   ·rename_i f hf
    simp only[bP]at h
    exact⟨fs,f,hu,hf,fA h.1,iM h.2.1,iM h.2.2⟩
   ·cases h
  ·cases h
 | .pair a b,.inr (fs,n,o),h=>by
  simp only[u6]at h
  split at h
  ·rename_i f hf
   simp only[bP]at h
   exact⟨f,hf,fA h.1,iM h.2.1,iM h.2.2⟩
  ·cases h
 | .int _,.inr _,h| .bool,.inr _,h| .str,.inr _,h| .slice _,.inr _,h| .arr _ _,.inr _,h=>by simp[u6]at h
def wS(P:Program):Ty→TypeId ⊕ (Array Field×Nat)→Bool
 | .int _,.inl _| .bool,.inl _| .str,.inl _=>true
 | .unit,.inl t=> !P.stoodInHeld t
 | .unit,.inr _=>true
 | .pair a b,.inl t=> !P.stoodInHeld t&&(match P.underlying t with
  |some (.struct fs)=>(match fs[0]? with
   |some f=>f.name != "_" &&(wS P a (.inl f.type)&&wS P b (.inr (fs,1)))
   |none=>false)
  |_=>false)
 | .pair a b,.inr q=>(match q.1[q.2]? with
  |some f=>f.name != "_" &&(wS P a (.inl f.type)&&wS P b (.inr (q.1,q.2+1)))
  |none=>false)
 |_,_=>false
def Ty.deep:Ty→Nat
 | .pair a b=>a.deep+b.deep+1
 |_=>1
theorem V.ofC{w:World}{M:Nat→Prop}{τ:Ty}{cs:List Value}{x:τ.den}(h:Rd w M τ cs x):V w M τ (VM.ck τ cs) x:=V.ck h
mutual
theorem OM{w:World}{M:Nat→Prop}: ∀{τ:Ty} {t:TypeId} {u v:Value} {x y:τ.den} {d:Nat},kZ P τ t→wS P τ (.inl t)=true→V w M τ u x→V w M τ v y→τ.deep≤d→(Op.equalIn d t u v).run P w= .ok (pb τ x y) w
 | .int k,t,u,v,x,y,d+1,hl,_,hx,hy,_=>by
  simp only[V,Ty.isAgg,jO,fE,Rd,fT,fD]at hx hy
  subst hx;subst hy
  rw[run_equalIn_int w d t k k _ _ hl.int];simp only[pb,jP];congr 1
 | .bool,t,u,v,x,y,d+1,hl,_,hx,hy,_=>by
  simp only[V,Ty.isAgg,jO,fE,Rd,fT,fD]at hx hy
  subst hx;subst hy
  rw[run_equalIn_bool w d t _ _ hl.bool];simp only[pb]
 | .str,t,u,v,x,y,d+1,hl,_,hx,hy,_=>by
  simp only[V,Ty.isAgg,jO,fE,Rd,fT,fD]at hx hy
  subst hx;subst hy
  rw[run_equalIn_string w d t _ _ hl.str];simp only[pb,Gv];congr 1;rw[p5];simp
 | .slice _,_,_,_,_,_,_,_,h,_,_,_| .arr _ _,_,_,_,_,_,_,_,h,_,_,_=>by simp[wS]at h
 | .unit,t,u,v,x,y,d+1,hl,he,hx,hy,_=>by
  simp only[V,Ty.isAgg,g9]at hx hy
  obtain⟨cs,rfl,_⟩:=hx
  obtain⟨cs',rfl,_⟩:=hy
  simp only[kZ,gD]at hl
  obtain⟨_,fs,hu,h0⟩:=hl
  have hfs:P.fieldsOf t=fs:=by simp[Program.fieldsOf,hu]
  rw[run_equalIn_struct w d t cs cs' (by rw[hfs];exact hu) (by simpa [wS]using he),hfs]
  have:fs.toList=[]:=by rw[←NN,bm];exact h0
  rw[this];simp[Op.eqFields,pb]
 | .pair a b,t,u,v,x,y,d+1,hl,he,hx,hy,hd=>by
  simp only[V,Ty.isAgg,g9]at hx hy
  obtain⟨cs,rfl,hx⟩:=hx
  obtain⟨cs',rfl,hy⟩:=hy
  simp only[kZ,gD]at hl
  obtain⟨_,fs,f,hu,hf,ho,Ai,Sd⟩:=hl
  have hfs:P.fieldsOf t=fs:=by simp[Program.fieldsOf,hu]
  simp only[wS,hu,hf,bP]at he
  rw[run_equalIn_struct w d t cs cs' (by rw[hfs];exact hu) (by simpa using he.1),hfs]
  have h0:fs.toList=f::fs.toList.drop 1:=by
   have h1:=ri (l:=fs.toList) (i:=0) (by rw[bm];exact(lI.1 hf).1)
   rw[cJ]at h1
   rw[h1];congr 1
   rw[AT];exact(lI.1 hf).2
  simp only[Ty.deep]at hd
  rw[h0]
  have o7:Rd w M (.pair a b) (cs.toList.drop 0) x:=by rw[cJ];exact hx
  have Ul:Rd w M (.pair a b) (cs'.toList.drop 0) y:=by rw[cJ];exact hy
  have kQ:f.name≠ "_" :=by simpa using he.2.1
  simp only[Op.eqFields,kQ,ne_eq,not_false_eq_true,g9]
  exact Y4 (off:=0) ho Ai he.2.2.1 o7 Ul ω (λh1 h2=>Y5 (n:=1) (fs:=fs) (off:=a.size) Sd he.2.2.2 (by rw[gr]at h1;exact h1) (by rw[gr]at h2;exact h2) ω)
 | .int _,_,_,_,_,_,0,_,_,_,_,hd| .bool,_,_,_,_,_,0,_,_,_,_,hd| .str,_,_,_,_,_,0,_,_,_,_,hd| .unit,_,_,_,_,_,0,_,_,_,_,hd| .pair _ _,_,_,_,_,_,0,_,_,_,_,hd=>by simp[Ty.deep]at hd
theorem Y5{w:World}{M:Nat→Prop}: ∀{b:Ty} {fs:Array Field} {n off:Nat} {cs cs':Array Value} {x y:b.den} {d:Nat},gD P b (.inr (fs,n,off))→wS P b (.inr (fs,n))=true→Rd w M b (cs.toList.drop off) x→Rd w M b (cs'.toList.drop off) y→b.deep≤d→
  (Op.eqFields d cs cs' (fs.toList.drop n)).run P w= .ok (pb b x y) w
 | .unit,fs,n,off,cs,cs',x,y,d,hl,_,_,_,_=>by
  simp only[gD]at hl
  rw[jN (by rw[bm];omega)]
  simp[Op.eqFields,pb]
 | .pair a b,fs,n,off,cs,cs',x,y,d,hl,he,hx,hy,hd=>by
  simp only[gD]at hl
  obtain⟨f,hf,ho,Ai,Sd⟩:=hl
  simp only[wS,hf,bP]at he
  have h0:fs.toList.drop n=f::fs.toList.drop (n+1):=by
   rw[ri (l:=fs.toList) (i:=n) (by rw[bm];exact(lI.1 hf).1)]
   congr 1
   rw[AT];exact(lI.1 hf).2
  simp only[Ty.deep]at hd
  rw[h0]
  have kQ:f.name≠ "_" :=by simpa using he.1
  simp only[Op.eqFields,kQ,ne_eq,not_false_eq_true,g9]
  exact Y4 ho Ai he.2.1 hx hy ω (λh1 h2=>Y5 Sd he.2.2 h1 h2 ω)
 | .int _,_,_,_,_,_,_,_,_,hl,_,_,_,_| .bool,_,_,_,_,_,_,_,_,hl,_,_,_,_| .str,_,_,_,_,_,_,_,_,hl,_,_,_,_| .slice _,_,_,_,_,_,_,_,_,hl,_,_,_,_| .arr _ _,_,_,_,_,_,_,_,_,hl,_,_,_,_=>by simp[gD]at hl
theorem Y4{w:World}{M:Nat→Prop}{a b:Ty}{f:Field}{fs:List Field}{off:Nat}{cs cs':Array Value}{x y:(Ty.pair a b).den}{d:Nat}(ho:f.offset=off)(Ai:kZ P a f.type)(he:wS P a (.inl f.type)=true)
  (hx:Rd w M (.pair a b) (cs.toList.drop off) x) (hy:Rd w M (.pair a b) (cs'.toList.drop off) y) (hd:a.deep≤d)
  (hr:Rd w M b (cs.toList.drop (off+a.size)) x.2→Rd w M b (cs'.toList.drop (off+a.size)) y.2→(Op.eqFields d cs cs' fs).run P w= .ok (pb b x.2 y.2) w):
  (do let u ←part f.type cs f.offset;let v ←part f.type cs' f.offset;let r ←Op.equalIn d f.type u v;if(!r)=true then pure false else Op.eqFields d cs cs' fs:Sem Bool).run P w= .ok (pb (.pair a b) x y) w:=by
 simp only[Rd]at hx hy
 obtain⟨c1,c2,hc,h1,h2⟩:=hx
 obtain⟨c1',c2',V5,ru,zL⟩:=hy
 subst ho
 have p1:(cs.toList.drop f.offset).take a.size=c1:=by rw[hc,xt h1.length]
 have p2:(cs'.toList.drop f.offset).take a.size=c1':=by rw[V5,xt ru.length]
 have q1:cs.toList.drop (f.offset+a.size)=c2:=by rw[←iJ,hc,mA h1.length]
 have q2:cs'.toList.drop (f.offset+a.size)=c2':=by rw[←iJ,V5,mA ru.length]
 have r1:=Bn Ai (w:=w) (M:=M) (cs:=cs) (off:=f.offset) (x:=x.1) (by rw[p1];exact h1)
 have r2:=Bn Ai (w:=w) (M:=M) (cs:=cs') (off:=f.offset) (x:=y.1) (by rw[p2];exact ru)
 have r3:=OM (d:=d) Ai he (V.ofC (by rw[p1];exact h1):V w M a (VM.ck a ((cs.toList.drop f.offset).take a.size)) x.1) (V.ofC (by rw[p2];exact ru):V w M a (VM.ck a ((cs'.toList.drop f.offset).take a.size)) y.1) hd
 simp only[Sem.run_bind,r1,r2,r3,Result.andThen_ok,pb]
 cases pb a x.1 y.1
 ·simp
 ·simpa using hr (by rw[q1];exact h2) (by rw[q2];exact zL)
end
def acL(P:Program)(τ:Ty)(t:TypeId):Bool:= !(τ.comparable&&τ.isAgg)||(wS P τ (.inl t)&&(Nat.ble τ.deep 10000&& !P.eqGuardType P.depth t))
theorem acM{τ:Ty}{t:TypeId}(hl:kZ P τ t)(h:acL P τ t=true)(hc:τ.comparable=true)(ha:τ.isAgg=true):apl P t τ:=by
 unfold acL at h
 rw[hc,ha]at h
 simp only[Bool.and_self,bg,p7,bP,Bc,sb]at h
 obtain⟨h1,h2,h3⟩:=h
 intro w M u v x y b xo yo hx hy
 have he:=OM (d:=10000) hl h1 hx hy h2
 unfold V at hx hy
 rw[ak ha]at hx hy
 obtain⟨cs,rfl,_⟩:=hx
 obtain⟨cs',rfl,_⟩:=hy
 refine⟨?_,?_,?_⟩
 ·cases b<;>simp[eqGuard,h3]
 ·simp only[binOp];simp[Op.equal,Op.maxDepth,he]
 ·simp only[binOp];simp[Op.equal,Op.maxDepth,he]
def ap9(P:Program)(l:List (Nat×Ty)):Bool:=l.all λq=>u6 P q.2 (.inl q.1)&&acL P q.2 q.1
end VM
end
section
namespace VM
open Go Go.WideShapes Go.RowKit Go.ChangeShapes
def WF:(τ:Ty)→τ.den→Prop
 | .int k,x=>(Lit.int k x).wf=true
 | .bool,_=>True
 | .str,s=>ByteArray.size s≤maxLen
 | .slice e,l=>ℓ l≤maxLen∧ ∀i (h:i<ℓ l),WF e (List.get l ⟨i,h⟩)
 | .unit,_=>True
 | .pair a b,x=>WF a x.1∧WF b x.2
 | .arr _ e,l=> ∀i (h:i<ℓ l),WF e (List.get l ⟨i,h⟩)
def Ty.ra:Ty→Bool
 | .slice e=>Nat.blt 0 e.size&&e.ra
 | .pair a b=>a.ra&&b.ra
 | .arr _ e=>e.ra
 |_=>true
theorem Y6{α β:Type}{f:α→Option β}: ∀{l:List α} {r:List β},l.mapM f=some r→ ∀x∈l,∃y,f x=some y
 |[],_,_,x,hx=>by cases hx
 |a::l,r,h,x,hx=>by
  rw[A3]at h
  simp only[bind,uH,pure,iI]at h
  obtain⟨y,hy,r',hr,_⟩:=h
  rcases bc.1 hx with rfl|hx
  ·exact⟨y,hy⟩
  ·exact Y6 hr x hx
theorem ON{α β:Type}{f:α→Option β}: ∀{l:List α} {r:List β},l.mapM f=some r→r.length=l.length∧ ∀i (h:i<l.length) (h':i<r.length),f l[i]=some r[i]
 |[],r,h=>by simp at h;subst h;exact⟨rfl,λi h=>by cases h⟩
 |a::l,r,h=>by
  rw[A3]at h
  simp only[bind,uH,pure,iI]at h
  obtain⟨y,hy,r',hr,rfl⟩:=h
  obtain⟨h1,h2⟩:=ON hr
  refine⟨by simp[h1],λi hi oe=> ?_⟩
  cases i with
  |zero=>exact hy
  |succ i=>exact h2 i (by simpa using hi) (by simpa using oe)
theorem xX{α:Type}{p:Nat→α→Prop}: ∀n,(∀i,i<n→ ∃x,p i x)→ ∃l:List α,l.length=n∧ ∀i (h:i<l.length),p i (l.get ⟨i,h⟩)
 |0,_=>⟨[],rfl,λi h=>by cases h⟩
 |n+1,h=>by
  obtain⟨l,hl,hp⟩:=xX n (λi hi=>h i ω)
  obtain⟨x,hx⟩:=h n ω
  refine⟨l++[x],by simp[hl],λi hi=> ?_⟩
  simp only[Ge]
  by_cases eV:i<l.length
  ·rw[AN eV];exact hp i eV
  ·have kg:i=n:=by simp at hi;omega
   subst kg
   rw[F5 ω]
   simp[hl,hx]
section
variable{H:Type}{enc:TypeId×Value→H}{P:Program}{w:World}
theorem kZ.cells{τ:Ty}{t:TypeId}(h:kZ P τ t):P.cellsOf t=τ.size:=by
 obtain⟨i,hi,hs,_⟩:=h.base
 simp[Program.cellsOf,hi,hs]
theorem Ki{a:Addr}{n:Nat}{cs:List Value}(h:w.cells? 0 a n=some cs):cs.length=n∧ ∀j v,cs[j]? =some v→w.cell? (a.add j)=some v:=by
 unfold World.cells? at h
 rw[ak (bw _)]at h
 obtain⟨h1,h2⟩:=ON h
 rw[xn]at h1
 refine⟨h1,λj v hj=> ?_⟩
 obtain⟨eV,rfl⟩:=vA.1 hj
 have:=h2 j (by rw[xn];omega) eV
 rw[Gf]at this
 exact this
def Y7(H:Type)(enc:TypeId×Value→H)(P:Program)(w:World)(τ:Ty):TypeId ⊕ (Array Field×Nat×Nat)→Prop
 | .inl t=> ∀(fuel:Nat) (cs:List Value) (d:DataW H×List MemPlace),DataW.trod enc P w 0 (λ_=>true) true fuel t cs=some d→ ∃x:τ.den,Rd w (λ_=>False) τ cs x∧WF τ x
 | .inr q=> ∀(cs:List Value),cs.length=q.2.2+τ.size→(∀f∈q.1.toList,∃fuel d,DataW.trod enc P w 0 (λ_=>true) true fuel f.type ((cs.drop f.offset).take (P.cellsOf f.type))=some d)→ ∃x:τ.den,Rd w (λ_=>False) τ (cs.drop q.2.2) x∧WF τ x
theorem Kj{a b:Ty}{f:Field}{fs:Array Field}{n off:Nat}(hf:fs[n]? =some f)(ho:f.offset=off)(Ai:kZ P a f.type)(iha:Y7 H enc P w a (.inl f.type))(Yi:Y7 H enc P w b (.inr (fs,n+1,off+a.size)))
  {cs:List Value} (hc:cs.length=off+(a.size+b.size)) (iT: ∀f∈fs.toList,∃fuel d,DataW.trod enc P w 0 (λ_=>true) true fuel f.type ((cs.drop f.offset).take (P.cellsOf f.type))=some d):
  ∃x:(Ty.pair a b).den,Rd w (λ_=>False) (.pair a b) (cs.drop off) x∧WF (.pair a b) x:=by
 subst ho
 obtain⟨fuel,d,hd⟩:=iT f (by rw[Array.mem_toList_iff];exact Array.mem_of_getElem? hf)
 rw[Ai.cells]at hd
 obtain⟨x,hx,hwx⟩:=iha fuel _ d hd
 obtain⟨y,hy,hwy⟩:=Yi cs (by simp only;omega) iT
 refine⟨(x,y),?_,hwx,hwy⟩
 simp only[Rd]
 refine⟨_,_,(gP a.size (cs.drop f.offset)).symm,hx,?_⟩
 rw[iJ];exact hy
theorem vR: ∀{τ:Ty} {x:TypeId ⊕ (Array Field×Nat×Nat)},gD P τ x→τ.ra=true→Y7 H enc P w τ x
 | .int k,.inl t,hl,_=>by
  intro fuel cs d h
  simp only[gD]at hl
  obtain⟨n,rfl,_,hw⟩:=DataW.trod_int hl.2 h
  exact⟨n,rfl,hw⟩
 | .bool,.inl t,hl,_=>by
  intro fuel cs d h
  simp only[gD]at hl
  obtain⟨b,rfl,_⟩:=DataW.trod_bool hl.2 h
  exact⟨b,rfl,trivial⟩
 | .str,.inl t,hl,_=>by
  intro fuel cs d h
  simp only[gD]at hl
  obtain⟨s,rfl,_,hs⟩:=DataW.trod_string hl.2 h
  exact⟨s,rfl,hs⟩
 | .slice e,.inl t,hl,hs=>by
  intro fuel cs d h
  simp only[gD]at hl
  obtain⟨_,e',hu,hle⟩:=hl
  simp only[Ty.ra,bP,Bb]at hs
  have ih:=vR hle hs.2
  have q6:P.cellsOf e'=e.size:=kZ.cells hle
  rcases DataW.trod_slice hu h with⟨rfl,_⟩|⟨a,len,cap,elems,rest,n,_,rfl,_,_,hlc,FC,hel,iT,_⟩
  ·refine⟨[],?_,bw _,λi h=>by cases h⟩
   simp only[Rd]
   exact⟨none,0,rfl,aH _,λi h=>by cases h⟩
  ·rw[q6]at iT
   have get: ∀i,i<len→ ∃cs' y,w.cells? 0 (a.add (i*e.size)) e.size=some cs'∧DataW.trod enc P w 0 (λ_=>true) true n e' cs'=some y:=λi hi=>by
    have:=iT i hi
    rw[bl ω]at this
    obtain⟨cs',h1,h2⟩:=uH.1 this
    exact⟨cs',_,h1,h2⟩
   have key: ∀i,i<len→ ∃x:e.den,(a.spot=none∧a.block<w.heap.size∧ ∃cs',At w a.block (a.off+i*e.size) cs'∧Rd w (λ_=>False) e cs' x)∧WF e x:=by
    intro i hi
    obtain⟨cs',y,uw,ht⟩:=get i hi
    obtain⟨h1,h2⟩:=Ki uw
    obtain⟨x,hx,hw⟩:=ih n cs' y ht
    have Vz:a.spot=none∧a.block<w.heap.size:=by
     obtain⟨ki,y0,av3,_⟩:=get 0 ω
     obtain⟨h10,h20⟩:=Ki av3
     have:=h20 0 ki[0] (bl ω)
     simp only[Nat.zero_mul,Addr.add,g9,World.cell?]at this
     split at this
     ·rename_i hb
      refine⟨?_,(lI.1 hb).1⟩
      split at this
      ·cases this
      ·rename_i hn;simpa using hn
     ·cases this
    refine⟨x,⟨Vz.1,Vz.2,cs',λj v hj=> ?_,hx⟩,hw⟩
    have:=h2 j v hj
    have he:(a.add (i*e.size)).add j=⟨a.block,a.off+i*e.size+j,none⟩:=by
     obtain⟨ab,ao,asp⟩:=a
     simp only at Vz
     obtain⟨rfl,_⟩:=Vz
     simp only[Addr.add]
     split<;>split<;>simp_all<;>omega
    rw[he]at this
    exact this
   obtain⟨l,hl,hp⟩:=xX len key
   refine⟨l,?_,by rw[hl];omega,λi h=>(hp i h).2⟩
   simp only[Rd]
   refine⟨some a,cap,by rw[hl],by rw[hl];exact hlc,λi h=> ?_⟩
   obtain⟨h1,h2,cs',h3,h4⟩:=(hp i h).1
   refine⟨a.block,a.off,?_,h2,λh=>h,cs',h3,h4⟩
   rw[←h1]
 | .unit,.inl t,hl,_=>by
  intro fuel cs d h
  simp only[gD]at hl
  obtain⟨⟨i,hi,q6,_⟩,fs,hu,h0⟩:=hl
  obtain⟨xs,n,_,_,hc,_⟩:=DataW.trod_struct hu h
  refine⟨(),?_,trivial⟩
  simp only[Rd]
  rw[←NN,hc]
  simp[Program.cellsOf,hi,q6,Ty.size]
 | .unit,.inr q,hl,_=>by
  intro cs hc _
  refine⟨(),?_,trivial⟩
  simp only[Rd]
  rw[jN (by rw[hc];simp[Ty.size])]
 | .pair a b,.inl t,hl,hs=>by
  intro fuel cs d h
  simp only[gD]at hl
  obtain⟨⟨i,hi,q6,_⟩,fs,f,hu,hf,ho,Ai,Sd⟩:=hl
  simp only[Ty.ra,bP]at hs
  have iha:=vR Ai hs.1
  have Yi:=vR Sd hs.2
  obtain⟨xs,n,_,_,hc,hxl,hxs⟩:=DataW.trod_struct hu h
  have:=Kj (b:=b) (off:=0) hf ho Ai iha (by simp only[gr];exact Yi) (cs:=cs) (by rw[hc];simp[Program.cellsOf,hi,q6,Ty.size]) (λf hf=>by
   obtain⟨j,hj,rfl⟩:=rZ.1 hf
   rw[bm]at hj
   have:=hxs j fs[j] (by simp[hj])
   rw[bl ω]at this
   exact⟨n,_,by rw[AT];exact this⟩)
  rw[cJ]at this
  exact this
 | .pair a b,.inr (fs,n,off),hl,hs=>by
  intro cs hc iT
  simp only[gD]at hl
  obtain⟨f,hf,ho,Ai,Sd⟩:=hl
  simp only[Ty.ra,bP]at hs
  exact Kj hf ho Ai (vR Ai hs.1) (vR Sd hs.2) (by simpa [Ty.size]using hc) iT
 | .arr n e,.inl t,hl,hs=>by
  intro fuel cs d h
  simp only[gD]at hl
  obtain⟨⟨i,hi,q6,_⟩,e',hu,hle⟩:=hl
  simp only[Ty.ra]at hs
  have ih:=vR hle hs
  have hse:P.cellsOf e'=e.size:=kZ.cells hle
  obtain⟨xs,m,_,_,hc,hxl,hxs⟩:=DataW.trod_array hu h
  have hlen:cs.length=n*e.size:=by rw[hc];simp[Program.cellsOf,hi,q6,Ty.size]
  have key: ∀i,i<n→ ∃x:e.den,Rd w (λ_=>False) e ((cs.drop (i*e.size)).take e.size) x∧WF e x:=λi hi=>by
   have:=hxs i hi
   rw[bl ω,hse]at this
   exact ih m _ _ this
  obtain⟨l,Jg,hp⟩:=xX n key
  refine⟨l,?_,λi h=>(hp i h).2⟩
  simp only[Rd]
  refine⟨Jg,(List.range n).map λi=>(cs.drop (i*e.size)).take e.size,by simp,?_,λi h h'=> ?_⟩
  ·clear hxs h key hp Jg hu
   have: ∀m,m≤n→cs.take (m*e.size)=((List.range m).map λi=>(cs.drop (i*e.size)).take e.size).flatten:=by
    intro m
    induction m with
    |zero=>simp
    |succ m ihm=>
     intro hm
     rw[Gk,dp,List.flatten_append,←ihm ω]
     simp only[bV,gQ,AX,List.flatten_nil,cy]
     rw[eD,kV,List.take_add]
   have h2:=this n (aH _)
   rw[iG ω]at h2
   exact h2
  ·have:=(hp i h).1
   simpa using this
 | .int _,.inr _,h,_| .bool,.inr _,h,_| .str,.inr _,h,_| .slice _,.inr _,h,_| .arr _ _,.inr _,h,_=>by simp[gD]at h
theorem akW{τ:Ty}{t:TypeId}{r:Reach}{b0:Nat}{v:Value}{d:DataW H}{ps:List MemPlace}(hl:kZ P τ t)(hs:τ.ra=true)(hv:Value.okWide P w r b0 t v)(h:DataW.Trod enc P w 0 (λ_=>true) true t v d ps):
  ∃x:τ.den,V w (λ_=>False) τ v x∧WF τ x:=by
 obtain⟨fuel,h⟩:=h
 obtain⟨x,hx,hw⟩:=vR (H:=H) (enc:=enc) (w:=w) hl hs fuel _ _ h
 refine⟨x,?_,hw⟩
 unfold V
 cases τ with
 |int k=>
  obtain⟨n,rfl⟩:=okWide_int hl.int hv
  exact hx
 |bool=>
  obtain⟨n,rfl⟩:=okWide_bool hl.bool hv
  exact hx
 |str=>
  obtain⟨n,rfl⟩:=okWide_string hl.str hv
  exact hx
 |slice e=>
  obtain⟨e',hu,_⟩:=hl.slice
  obtain⟨a,len,cap,rfl⟩:=okWide_slice hu hv
  exact hx
 |unit=>
  simp only[kZ,gD]at hl
  obtain⟨_,fs,hu,_⟩:=hl
  simp only[Value.okWide,hu]at hv
  obtain⟨cs,rfl,_⟩:=hv
  exact⟨cs,rfl,hx⟩
 |pair a b=>
  simp only[kZ,gD]at hl
  obtain⟨_,fs,f,hu,_⟩:=hl
  simp only[Value.okWide,hu]at hv
  obtain⟨cs,rfl,_⟩:=hv
  exact⟨cs,rfl,hx⟩
 |arr n e=>
  obtain⟨e',hu,_⟩:=hl.arr
  simp only[Value.okWide,hu]at hv
  obtain⟨cs,rfl,_⟩:=hv
  exact⟨cs,rfl,hx⟩
def WFs:(ms:List Ty)→HP (ms.map .v)→Prop
 |[],_=>True
 |_::ms,x=>WF _ (rq x)∧WFs ms (ux x)
def hpC:{m:AM}→{ms:List AM}→m.den→HP ms→HP (m::ms)
 |_,[],x,_=>x
 |_,_::_,x,y=>(x,y)
theorem Um{m:AM}: ∀{ms:List AM} (x:m.den) (y:HP ms),rq (hpC x y)=x
 |[],_,_=>rfl
 |_::_,_,_=>rfl
theorem Un{m:AM}: ∀{ms:List AM} (x:m.den) (y:HP ms),ux (hpC x y)=y
 |[],_,()=>rfl
 |_::_,_,_=>rfl
theorem Kk(laid:laidOutB P=true){r:Reach}{b0:Nat}: ∀{τs:List Ty} {ts:List TypeId} {vs:List Value} {ds:List (DataW H)} {ps:List MemPlace},DataW.TrodAll enc P w 0 (λ_=>true) true ts vs ds ps→
  τs.length=ts.length→(∀(j:Nat) τ t,τs[j]? =some τ→ts[j]? =some t→(kZ P τ t∧τ.ra=true∧P.readableRec t=true∧t<P.types.size))→
  (∀(j:Nat) t v,ts[j]? =some t→vs[j]? =some v→Value.okWide P w r b0 t v)→
  (∃x:HP (τs.map .v),kF w (λ_=>False) (τs.map .v) x vs∧WFs τs x)∧ ∀w',Below w.heap.size w w'→ ∃Jh,DataW.TrodAll enc P w' 0 (λb=>decide (b<w.heap.size)) true ts vs ds Jh
 |[],[],vs,ds,ps,h,_,_,_=>by
  obtain⟨rfl,rfl,rfl⟩:=trodAll_nil h
  exact⟨⟨(),rfl,trivial⟩,λw' _=>⟨[],rfl⟩⟩
 |τ::τs,t::ts,vs,ds,ps,h,hl,DU,hv=>by
  obtain⟨v,Nt,d,ds',p,q,rfl,rfl,rfl,h1,h2⟩:=trodAll_cons h
  obtain⟨zz,akX,hrr,eV⟩:=DU 0 τ t rfl rfl
  obtain⟨x,hx,hwx⟩:=akW zz akX (hv 0 t v rfl rfl) h1
  obtain⟨⟨y,hy,hwy⟩,Y8⟩:=Kk laid h2 (by simpa using hl) (λj τ' t' h h'=>DU (j+1) τ' t' (by simpa using h) (by simpa using h')) (λj t' v' h h'=>hv (j+1) t' v' (by simpa using h) (by simpa using h'))
  refine⟨⟨hpC (m:= .v τ) x y,?_,?_⟩,λw' hb=> ?_⟩
  ·show kF w _ (.v τ::τs.map .v) _ _
   simp only[kF]
   exact⟨v,Nt,rfl,by rw[Um];exact hx,by rw[Un];exact hy⟩
  ·simp only[WFs]
   exact⟨by rw[Um];exact hwx,by rw[Un];exact hwy⟩
  ·obtain⟨Jh,h'⟩:=Y8 w' hb
   have xR: ∀z∈p,z.block<w.heap.size:=by
    obtain⟨m,hm⟩:=h1
    exact DataW.trod_lt m _ _ _ hm
   exact⟨p++Jh,trodAll_cons_mk (Below.trod laid hrr eV h1 hb xR) h'⟩
 |[],_::_,_,_,_,_,hl,_,_|_::_,[],_,_,_,_,hl,_,_=>by simp at hl
end
end VM
end
section
namespace VM
open Go
variable{α:Type}
def BL(L:Nat→Option (List (Nat×CM)))(κ:Nat→St→Option α)(i:Option Nat)(f:St→Option α):St→Option α:=
 match i with
 |none=>f
 |some i=>match L i with
  |none=>f
  |some _=>κ i
def Y9(E:Env)(κJ κL:Nat→St→Option α)(c:Code):St→(St→Option α)→(Nat→St→Option α)→(St→Option α)→Option α:=
 Code.rec (motive:=λ_=>St→(St→Option α)→(Nat→St→Option α)→(St→Option α)→Option α)
  (fun σ k _ _=>k σ)
  (λ_ ops draw σ k _ _=>Fu E ops draw σ k)
  (λ_ b A B σ k kx kr=>A σ (fun σ'=>xH ((c8 b).bind E.zu) σ' (BL E.zu κJ (c8 b) fun σ''=>B σ'' k kx kr)) kx kr)
  (λc _ _ A B σ k kx kr=>J6 E c σ (fun σ'=>A σ' k kx kr) (fun σ'=>B σ' k kx kr))
  (λid _ A σ k kx kr=>A σ k (λi σ'=>cond (Nat.beq i id) (k σ') (kx i σ')) kr)
  (λb _ σ _ kx kr=>xH ((c8 b).bind E.xz) σ (BL E.xz κL (c8 b) (DN ((c8 b).bind E.xz) (fun σ' kn=>Fv E b σ' kn kx kr) E.N)))
  (λ_ _ _ _ _ _ _ _ _ _=>none)
  (λid σ _ kx _=>kx id σ)
  (λ_ A σ k kx kr=>A σ k kx kr)
  (λ_ σ k _ _=>k σ)
  (λ_ _ _ _ _=>none)
  (fun σ _ _ kr=>kr σ)
  (λ_ _ _ _ _=>none)
  c
def He(E:Env)(c:Code):(St→Option α)→(Nat→St→Option α)→(St→Option α)→List (Bool×Nat×(St→Option α)):=
 Code.rec (motive:=λ_=>(St→Option α)→(Nat→St→Option α)→(St→Option α)→List (Bool×Nat×(St→Option α)))
  (λ_ _ _=>[])
  (λ_ _ _ _ _ _=>[])
  (λ_ b A B k kx kr=>A (fun σ'=>xH ((c8 b).bind E.zu) σ' fun σ''=>Fv E b σ'' k kx kr) kx kr++(((c8 b).toList.map λi=>(false,i,fun σ''=>Fv E b σ'' k kx kr))++B k kx kr))
  (λ_ _ _ A B k kx kr=>A k kx kr++B k kx kr)
  (λid _ A k kx kr=>A k (λi σ'=>cond (Nat.beq i id) (k σ') (kx i σ')) kr)
  (λb _ _ kx kr=>(c8 b).toList.map λi=>(true,i,DN ((c8 b).bind E.xz) (fun σ' kn=>Fv E b σ' kn kx kr) E.N))
  (λ_ _ _ _ _ _ _ _ _=>[])
  (λ_ _ _ _=>[])
  (λ_ A k kx kr=>A k kx kr)
  (λ_ _ _ _=>[])
  (λ_ _ _ _=>[])
  (λ_ _ _=>[])
  (λ_ _ _ _=>[])
  c
def xY(E:Env)(κJ κL:Nat→St→Option α):List (Bool×Nat×(St→Option α))→List ((St→Option α)×(St→Option α))
 |[]=>[]
 |q::r=>match q.1 with
  |false=>match E.zu q.2.1 with
   |some _=>(κJ q.2.1,q.2.2)::xY E κJ κL r
   |none=>xY E κJ κL r
  |true=>match E.xz q.2.1 with
   |some _=>(κL q.2.1,q.2.2)::xY E κJ κL r
   |none=>xY E κJ κL r
def JE(E:Env)(κJ κL:Nat→St→Option α)(l:List (Bool×Nat×(St→Option α))):Prop:= ∀p∈xY E κJ κL l,p.1=p.2
theorem akY{E:Env}{κJ κL:Nat→St→Option α}{l:List (Bool×Nat×(St→Option α))}(g:List (St→Option α))(h:xY E κJ κL l=g.map λf=>(f,f)):JE E κJ κL l:=by
 intro p hp
 rw[h]at hp
 obtain⟨f,_,rfl⟩:=cV.1 hp
 rfl
theorem D7{E:Env}{κJ κL:Nat→St→Option α}: ∀(l m:List (Bool×Nat×(St→Option α))),xY E κJ κL (l++m)=xY E κJ κL l++xY E κJ κL m
 |[],m=>rfl
 |(b,i,f)::l,m=>by
  have ih:=D7 (E:=E) (κJ:=κJ) (κL:=κL) l m
  cases b<;>simp only[m0,xY]<;>split<;>simp[ih]
theorem JE.app{E:Env}{κJ κL:Nat→St→Option α}{l m:List (Bool×Nat×(St→Option α))}(h:JE E κJ κL (l++m)):JE E κJ κL l∧JE E κJ κL m:=by
 unfold JE at*
 rw[D7]at h
 exact⟨λp hp=>h p (cU _ hp),λp hp=>h p (dC _ hp)⟩
theorem ajc{E:Env}{κJ κL:Nat→St→Option α}{i:Option Nat}{f:St→Option α}(h:JE E κJ κL (i.toList.map λi=>(false,i,f))):BL E.zu κJ i f=f:=by
 cases i with
 |none=>rfl
 |some i=>
  simp only[Option.toList,List.map,JE,xY]at h
  unfold BL
  cases hL:E.zu i with
  |none=>simp[hL]
  |some L=>rw[hL]at h;simp only[hL];exact h (κJ i,f) (cw.2 rfl)
theorem aqc{E:Env}{κJ κL:Nat→St→Option α}{i:Option Nat}{f:St→Option α}(h:JE E κJ κL (i.toList.map λi=>(true,i,f))):BL E.xz κL i f=f:=by
 cases i with
 |none=>rfl
 |some i=>
  simp only[Option.toList,List.map,JE,xY]at h
  unfold BL
  cases hL:E.xz i with
  |none=>simp[hL]
  |some L=>rw[hL]at h;simp only[hL];exact h (κL i,f) (cw.2 rfl)
theorem Za{E:Env}{κJ κL:Nat→St→Option α}(c:Code): ∀(k:St→Option α) (kx:Nat→St→Option α) (kr:St→Option α) (σ:St),JE E κJ κL (He E c k kx kr)→Y9 E κJ κL c σ k kx kr=Fv E c σ k kx kr:=by
 induction c with
 |skip=>intros;rfl
 |region=>intros;rfl
 |seq a b iha Yi=>
  intro k kx kr σ h
  obtain⟨h1,h2⟩:=JE.app (h:JE E κJ κL (He E a _ kx kr++(((c8 b).toList.map λi=>(false,i,fun σ''=>Fv E b σ'' k kx kr))++He E b k kx kr)))
  obtain⟨h2,h3⟩:=JE.app h2
  show Y9 E κJ κL a σ (fun σ'=>xH ((c8 b).bind E.zu) σ' (BL E.zu κJ (c8 b) fun σ''=>Y9 E κJ κL b σ'' k kx kr)) kx kr=Fv E a σ (fun σ'=>xH ((c8 b).bind E.zu) σ' fun σ''=>Fv E b σ'' k kx kr) kx kr
  have hb:(fun σ''=>Y9 E κJ κL b σ'' k kx kr)=fun σ''=>Fv E b σ'' k kx kr:=funext fun σ''=>Yi k kx kr σ'' h3
  rw[hb,ajc h2]
  exact iha _ _ _ _ h1
 |cond x a b iha Yi=>
  intro k kx kr σ h
  obtain⟨h1,h2⟩:=JE.app (h:JE E κJ κL (He E a k kx kr++He E b k kx kr))
  show J6 E x σ (fun σ'=>Y9 E κJ κL a σ' k kx kr) (fun σ'=>Y9 E κJ κL b σ' k kx kr)=J6 E x σ (fun σ'=>Fv E a σ' k kx kr) (fun σ'=>Fv E b σ' k kx kr)
  rw[show(fun σ'=>Y9 E κJ κL a σ' k kx kr)=fun σ'=>Fv E a σ' k kx kr from funext fun σ'=>iha k kx kr σ' h1,show(fun σ'=>Y9 E κJ κL b σ' k kx kr)=fun σ'=>Fv E b σ' k kx kr from funext fun σ'=>Yi k kx kr σ' h2]
 |block id x ih=>intro k kx kr σ h;exact ih _ _ _ σ h
 |loop b _=>
  intro k kx kr σ h
  show xH ((c8 b).bind E.xz) σ (BL E.xz κL (c8 b) (DN ((c8 b).bind E.xz) (fun σ' kn=>Fv E b σ' kn kx kr) E.N))=xH ((c8 b).bind E.xz) σ (DN ((c8 b).bind E.xz) (fun σ' kn=>Fv E b σ' kn kx kr) E.N)
  rw[aqc (h:JE E κJ κL ((c8 b).toList.map λi=>(true,i,_)))]
 |rangeFunc=>intros;rfl
 |exit=>intros;rfl
 |scope x ih=>intro k kx kr σ h;exact ih _ _ _ σ h
 |label=>intros;rfl
 |goto=>intros;rfl
 |ret=>intros;rfl
 |refuse=>intros;rfl
def o8(E:Env)(κJ κL:Nat→St→Option α):List Nat→Code→List (St→Option α)→St→(St→Option α)→(Nat→St→Option α)→(St→Option α)→Option α
 |[],c,_,σ,k,kx,kr=>Y9 E κJ κL c σ k kx kr
 |n::p,c,ks,σ,k,kx,kr=>match c with
  | .seq a b=>match n with
   |0=>o8 E κJ κL p a ks σ (fun σ'=>xH ((c8 b).bind E.zu) σ' (BL E.zu κJ (c8 b) fun σ''=>Y9 E κJ κL b σ'' k kx kr)) kx kr
   |_=>o8 E κJ κL p b ks σ k kx kr
  | .cond _ a b=>match n with
   |0=>o8 E κJ κL p a ks σ k kx kr
   |_=>o8 E κJ κL p b ks σ k kx kr
  | .block id c=>o8 E κJ κL p c ks σ k (λi σ'=>cond (Nat.beq i id) (k σ') (kx i σ')) kr
  | .loop b=>match ks with
   |κ::ks=>o8 E κJ κL p b ks σ κ kx kr
   |[]=>none
  | .scope c=>o8 E κJ κL p c ks σ k kx kr
  |_=>none
def iN(E:Env):List Nat→Code→List (St→Option α)→(St→Option α)→(Nat→St→Option α)→(St→Option α)→List (Bool×Nat×(St→Option α))
 |[],c,_,k,kx,kr=>He E c k kx kr
 |n::p,c,ks,k,kx,kr=>match c with
  | .seq a b=>match n with
   |0=>((c8 b).toList.map λi=>(false,i,fun σ''=>Fv E b σ'' k kx kr))++(He E b k kx kr++iN E p a ks (fun σ'=>xH ((c8 b).bind E.zu) σ' fun σ''=>Fv E b σ'' k kx kr) kx kr)
   |_=>iN E p b ks k kx kr
  | .cond _ a b=>match n with
   |0=>iN E p a ks k kx kr
   |_=>iN E p b ks k kx kr
  | .block id c=>iN E p c ks k (λi σ'=>cond (Nat.beq i id) (k σ') (kx i σ')) kr
  | .loop b=>match ks with
   |κ::ks=>iN E p b ks κ kx kr
   |[]=>[]
  | .scope c=>iN E p c ks k kx kr
  |_=>[]
theorem oj{E:Env}{κJ κL:Nat→St→Option α}: ∀(p:List Nat) (c:Code) (ks:List (St→Option α)) (k:St→Option α) (kx:Nat→St→Option α) (kr:St→Option α) (σ:St),JE E κJ κL (iN E p c ks k kx kr)→
  o8 E κJ κL p c ks σ k kx kr=w3 E p c ks σ k kx kr
 |[],c,ks,k,kx,kr,σ,h=>Za c k kx kr σ h
 |n::p,c,ks,k,kx,kr,σ,h=>by
  cases c with
  |seq a b=>
   cases n with
   |zero=>
    simp only[o8,w3,iN]at h ⊢
    obtain⟨h1,h2⟩:=JE.app h
    obtain⟨h2,h3⟩:=JE.app h2
    rw[show(fun σ''=>Y9 E κJ κL b σ'' k kx kr)=fun σ''=>Fv E b σ'' k kx kr from funext fun σ''=>Za b k kx kr σ'' h2,ajc h1]
    exact oj p a ks _ kx kr σ h3
   |succ n=>simp only[o8,w3,iN]at h ⊢;exact oj p b ks k kx kr σ h
  |cond x a b=>
   cases n with
   |zero=>simp only[o8,w3,iN]at h ⊢;exact oj p a ks k kx kr σ h
   |succ n=>simp only[o8,w3,iN]at h ⊢;exact oj p b ks k kx kr σ h
  |block id x=>simp only[o8,w3,iN]at h ⊢;exact oj p x ks k _ kr σ h
  |loop b=>
   cases ks with
   |nil=>simp only[o8,w3]
   |cons κ ks=>simp only[o8,w3,iN]at h ⊢;exact oj p b ks κ kx kr σ h
  |scope x=>simp only[o8,w3,iN]at h ⊢;exact oj p x ks k kx kr σ h
  |_=>simp only[o8,w3]
def Hf(fn:Func):Code:=fn.body.getD .skip
def OO(E:Env)(fn:Func)(args res:List AM):St→Option (HP res):=fun σ=>Lx E res (fn.results.toList.map .inl++zw args 0) σ some
def nox:Nat→St→Option α:=λ_ _=>none
def aDu:St→Option α:=λ_=>none
def atF(E:Env)(fn:Func)(args res:List AM)(p:List Nat)(ks:List (St→Option (HP res)))(σ:St):Option (HP res):=
 w3 E p (Hf fn) ks σ (OO E fn args res) nox (OO E fn args res)
def atQ(E:Env)(fn:Func)(args res:List AM)(κJ κL:Nat→St→Option (HP res))(p:List Nat)(ks:List (St→Option (HP res)))(σ:St):Option (HP res):=
 o8 E κJ κL p (Hf fn) ks σ (OO E fn args res) nox (OO E fn args res)
def acN(E:Env)(fn:Func)(args res:List AM)(p:List Nat)(ks:List (St→Option (HP res))):List (Bool×Nat×(St→Option (HP res))):=
 iN E p (Hf fn) ks (OO E fn args res) nox (OO E fn args res)
theorem av5{E:Env}{fn:Func}{args res:List AM}{κJ κL:Nat→St→Option (HP res)}{p:List Nat}{ks:List (St→Option (HP res))}(g:List (St→Option (HP res)))(h:xY E κJ κL (acN E fn args res p ks)=g.map λf=>(f,f))(σ:St):
 atF E fn args res p ks σ=atQ E fn args res κJ κL p ks σ:=(oj p _ ks _ _ _ σ (akY g h)).symm
theorem ak0{E:Env}{fn:Func}{args res:List AM}(hb:fn.body.isSome=true)(x:HP args):No E fn args res x=atF E fn args res [] [] (entry args x 0 S0):=by
 unfold No atF Hf
 cases h:fn.body with
 |none=>rw[h]at hb;cases hb
 |some c=>rfl
def lpF(E:Env)(fn:Func)(args res:List AM)(c:List (Nat×CM))(p:List Nat)(ks:List (St→Option (HP res)))(n:Nat):St→Option (HP res):=
 DN (some c) (fun σ kn=>atF E fn args res p (ks++[kn]) σ) n
theorem Zb(E:Env)(fn:Func)(args res:List AM)(c:List (Nat×CM))(p:List Nat)(ks:List (St→Option (HP res)))(n:Nat)(σ:St):
 lpF E fn args res c p ks (n+1) σ=atF E fn args res p (ks++[fun σ'=>xH (some c) σ' (lpF E fn args res c p ks n)]) σ:=rfl
def Zc{β:Type}(κ:Nat→β):List (Nat×β)→Prop
 |[]=>True
 |q::r=>κ q.1=q.2∧Zc κ r
def V6{β:Type}:List (β×β)→Prop
 |[]=>True
 |q::r=>q.1=q.2∧V6 r
theorem V6.mem{β:Type}: ∀{l:List (β×β)},V6 l→ ∀p∈l,p.1=p.2
 |q::r,h,p,hp=>by
  rcases bc.1 hp with rfl|hp
  ·exact h.1
  ·exact V6.mem h.2 p hp
theorem aqd{β:Type}(d:β): ∀(l:List (Nat×β)),(l.map (·.1)).Nodup→ ∃κ:Nat→β,Zc κ l
 |[],_=>⟨λ_=>d,trivial⟩
 |q::r,h=>by
  rw[bV,A2]at h
  obtain⟨κ,hκ⟩:=aqd d r h.2
  refine⟨λi=>if i=q.1 then q.2 else κ i,by simp,?_⟩
  have key: ∀(r':List (Nat×β)),(∀p∈r',p∈r)→Zc κ r'→Zc (λi=>if i=q.1 then q.2 else κ i) r':=by
   intro r'
   induction r' with
   |nil=>intros;trivial
   |cons p r' ih=>
    intro hm ha
    refine⟨?_,ih (λp' R5=>hm p' (a8 _ R5)) ha.2⟩
    have kQ:p.1≠q.1:=λe=>h.1 (e▸fB (hm p (bt ..)))
    show(if p.1=q.1 then q.2 else κ p.1)=p.2
    rw[ah kQ]
    exact ha.1
  exact key r (λ_ h=>h) hκ
theorem aBa{β:Type}(d:β)(l:List (Nat×β)){ks:List Nat}(h:l.map (·.1)=ks)(hd:ks.Nodup): ∃κ:Nat→β,Zc κ l:=aqd d l (h▸hd)
theorem at_eq(E:Env)(fn:Func)(args res:List AM){κJ κL:Nat→St→Option (HP res)}{p:List Nat}{ks:List (St→Option (HP res))}{l:List ((St→Option (HP res))×(St→Option (HP res)))}(h:xY E κJ κL (acN E fn args res p ks)=l)(hl:V6 l)(σ:St):
 atF E fn args res p ks σ=atQ E fn args res κJ κL p ks σ:=(oj p _ ks _ _ _ σ (by unfold JE;rw[show xY E κJ κL (iN E p (Hf fn) ks (OO E fn args res) nox (OO E fn args res))=l from h];exact hl.mem)).symm
end VM
end
section
namespace VM
open Go Go.RowKit
variable{P:Program}
def OP(i:Nat):List (Nat×Ty)→Option Ty
 |[]=>none
 |q::r=>cond (Nat.beq i q.1) (some q.2) (OP i r)
theorem Kl{i:Nat}{τ:Ty}: ∀{l:List (Nat×Ty)},OP i l=some τ→(i,τ)∈l
 |q::r,h=>by
  unfold OP at h
  cases hb:Nat.beq i q.1<;>rw[hb]at h
  ·exact a8 _ (Kl h)
  ·cases h;rw[fA hb];exact bt ..
structure Hg(P:Program)(tab:List (Nat×Ty)):Prop where
 ok:ap9 P tab=true
 mixed:P.follows .mixedOrders=true
theorem V7{E:Env}(hE:sF P E)(av7:E.io=[]){f:FuncId}{fn:Func}(hf:P.funcs[f]? =some fn)(τs:List Ty)
  (hc:(Nat.beq E.nt fn.ntmps&&Nat.ble τs.length E.nt)=true) {w:World} {vs:List Value} {x:HP (τs.map .v)} (hA:kF w (λ_=>False) (τs.map .v) x vs)
  (h:No E fn (τs.map .v) [.v .bool] x=some true):Calls P f vs.toArray w λe w'=>e= .returned (.bool true)∧Below w.heap.size w w':=by
 rw[bP]at hc
 have hnt:=fA hc.1
 have hlen:=Gc hc.2
 have hh: ∀(τs:List Ty) (vs:List Value),eA (τs.map .v) vs=[]:=by
  intro τs
  induction τs with
  |nil=>intro vs;cases vs<;>rfl
  |cons τ τs ih=>intro vs;cases vs with
   |nil=>rfl
   |cons v vs=>simp[eA,dz,ih]
 have hi: ∀(τs:List Ty) (vs:List Value),fN (τs.map .v) vs=[]:=by
  intro τs
  induction τs with
  |nil=>intro vs;cases vs<;>rfl
  |cons τ τs ih=>intro vs;cases vs with
   |nil=>rfl
   |cons v vs=>simp[fN,AM.iV,ih]
 refine(Kh (M0:=λ_=>False) (vs:=vs) hE hf hnt (λi m hm wQ=> ?_) (λi hi=>by rw[av7]at hi;cases hi) (by rw[cz];rw[←hnt];exact hlen) (λb hb=>hb.elim) (by rw[hh];simpa using hA) (by rw[hh];exact List.nodup_nil) (λb _ hb=>hb) h).mono ?_
 ·rw[n0]at hm
  obtain⟨τ,_,rfl⟩:=AQ.1 hm
  cases wQ
 ·rintro e w' ⟨v,rfl,us,M',rfl,X4,hL,_,_⟩
  rw[hh]at hL
  rw[hi]at X4
  simp only[RR]at X4
  rcases X4 with⟨p,Jh,h1,_⟩|⟨v,Nt,_,_,rfl,hv,rfl,_⟩
  ·cases h1
  ·refine⟨?_,hL.os,hL.tape,hL.output,hL.size,λb hb=>hL.frame b hb (by simp)⟩
   have:v= .bool true:=by
    simp only[A1,V,Ty.isAgg,jO,fE,Rd,fT,fD]at hv
    exact hv
   rw[this];rfl
def Zd(P:Program):List Ty→List TypeId→Bool
 |[],[]=>true
 |τ::τs,t::ts=>(u6 P τ (.inl t)&&τ.ra)&&((P.readableRec t&&decide (t<P.types.size))&&Zd P τs ts)
 |_,_=>false
theorem LX: ∀{τs:List Ty} {ts:List TypeId},Zd P τs ts=true→τs.length=ts.length∧ ∀(j:Nat) τ t,τs[j]? =some τ→ts[j]? =some t→(kZ P τ t∧τ.ra=true∧P.readableRec t=true∧t<P.types.size)
 |[],[],_=>⟨rfl,λj τ t h=>by simp at h⟩
 |τ::τs,t::ts,h=>by
  simp only[Zd,bP]at h
  obtain⟨⟨h1,h2⟩,⟨h3,h4⟩,h5⟩:=h
  obtain⟨hl,ih⟩:=LX h5
  refine⟨by simp[hl],λj τ' t' ha hb=> ?_⟩
  cases j with
  |zero=>
   simp only[NO,iI]at ha hb
   subst ha;subst hb
   exact⟨iM h1,h2,h3,bA h4⟩
  |succ j=>exact ih j τ' t' (by simpa using ha) (by simpa using hb)
 |[],_::_,h|_::_,[],h=>by simp[Zd]at h
theorem Ze{H:Type}{enc:TypeId×Value→H}{w:World}{fn:Func}{args:Array Value}{ds:List (DataW H)}{ps:List MemPlace}{r:Reach}{b0:Nat}(laid:laidOutB P=true)(τs:List Ty)
  (hA:DataW.TrodAll enc P w 0 (λ_=>true) true fn.params.toList args.toList ds ps) (DU:Zd P τs fn.params.toList=true)
  (hv: ∀(j:Nat) t v,fn.params[j]? =some t→args[j]? =some v→Value.okWide P w r b0 t v):
  (∃x:HP (τs.map .v),kF w (λ_=>False) (τs.map .v) x args.toList∧WFs τs x)∧ ∀w',Below w.heap.size w w'→ ∃Jh,DataW.TrodAll enc P w' 0 (λb=>decide (b<w.heap.size)) true fn.params.toList args.toList ds Jh:=
 Kk laid hA (LX DU).1 (LX DU).2 (λj t v h h'=>hv j t v (by rw[iH]at h;exact h) (by rw[iH]at h';exact h'))
end VM
end
