/- A part of the proof of LotEven of layer 23: a machine that reads a function of the program as an equation between values. -/
import Derived.Test.YthnjnpjmbabcaaaGreatVm7
import Derived.Laws.StructEq
import Derived.OpenShut
import Derived.ChangeShapes
import Derived.ChangeMaps5
import Derived.RowKit
import Derived.ChangeOld
import Derived.Carry
import Derived.Below
import Derived.Test.YthnjnpjmbabcaaaGreatVm0
set_option linter.all false
open List renaming length→ℓ
noncomputable section
section
namespace VM
open Go
variable{P:Program}{E:Env}{o:Oper}{a:Act}{w:World}{M:Nat→Prop}{ν:Nat→Value}{σ:St}{c:Ctx}{α:Type}{r:α}{next:Act→World→Prop}{Q:Exit→Act→World→Prop}
theorem Qw{m:AM}{ms:List AM}(x:HP (m::ms))(i:Nat)(σ:St):entry (m::ms) x i σ=entry ms (sy x) (i+1) (BN m (pU x) i σ):=by
 cases ms with
 |nil=>simp[entry,pU]
 |cons n ms=>simp[entry,pU,sy]
theorem Core.vU{tm:Array Value}(h:Core c σ tm w M ν){id:Nat}{v:Value}{e:aW}(hid:σ.H id=none)(FI:ER w M v e)
  (hd: ∀b,dQ v=some b→ ∀i e',σ.H i=some e'→e'.mut→dQ (ν i)≠some b) (hn: ∀b,dQ v=some b→c.B≤b∨c.may b) (ho: ∀b e0 l0,e= .own e0 l0→dQ v=some b→ ¬c.M0 b)
  (qp: ∀τ x p j,e= .fv τ x p j→bc σ.H id (some e) j≠none∧ ∃b,v= .pointer (some ⟨b,0,none⟩)∧w.cell? ⟨b,cn p τ,none⟩=some (updν ν id v j):=by intro _ _ _ _ h;cases h):
  Core c ⟨σ.T,bc σ.H id (some e)⟩ tm w M (updν ν id v):=by
 have hm:=Mem.vU h.mem (id:=id) (v:=v) (e:=e) (λe' sB=>by rw[hid]at sB;cases sB) FI hd hn ho (.inl hid) qp
 refine h.tr ⟨hm,.refl w M,⟨λi e1 hi=> ?_,λi hi=> ?_⟩⟩
 ·have bw:i≠id:=λe=>by rw[e,hid]at hi;cases hi
  exact⟨e1,by rw[av _ _ bw];exact hi,.refl e1⟩
 ·have bw:i≠id:=λe=>hi (e▸hid)
  simp[updν,bw]
theorem Core.put{tm:Array Value}(h:Core c σ tm w M ν){d:Nat}{x:bk}(hx:VR w M σ.H ν x (tm.getD d undef)):Core c (σ.put d x) tm w M ν:=by
 refine⟨h.mem,λi=> ?_⟩
 by_cases hi:i=d
 ·subst hi;rw[rD];exact hx
 ·rw[xf _ _ hi];exact h.tmp i
theorem Dd{tm:Array Value}: ∀{ms:List AM} {x:HP ms} {vs:List Value} {i:Nat} {σ:St} {ν:Nat→Value} {used:List Nat},Core c σ tm w M ν→jg w M ms x vs→(∀j v,vs[j]? =some v→tm.getD (i+j) undef=v)→
  (∀j,16*i≤j→σ.H j=none)→(∀j e b,σ.H j=some e→e.mut→dQ (ν j)=some b→b∈used)→(used++dB ms vs).Nodup→(∀b∈dB ms vs,c.may b)→(∀b,c.may b→ ¬c.M0 b)→
  ∃ν',Core c (entry ms x i σ) tm w M ν'
 |[],x,vs,i,σ,ν,used,h,_,_,_,_,_,_,_=>⟨ν,h⟩
 |m::ms,x,vs,i,σ,ν,used,h,hA,Nf,iU,Gg,wj,Qx,FH=>by
  rw[Qw]
  simp only[jg]at hA
  obtain⟨v,LW,rfl,h1,h2⟩:=hA
  have hv:tm.getD i undef=v:=by simpa using Nf 0 v rfl
  have IB: ∀j u,LW[j]? =some u→tm.getD (i+1+j) undef=u:=λj u hj=>by
   have:=Nf (j+1) u (by simpa using hj)
   rwa [show i+(j+1)=i+1+j from by omega]at this
  have hid:σ.H (16*i+15)=none:=iU _ ω
  have ahy:dB (m::ms) (v::LW)=cV m v++dB ms LW:=rfl
  rw[ahy]at wj Qx
  have oh: ∀b,b∈cV m v→ ∀j e',σ.H j=some e'→e'.mut→dQ (ν j)≠some b:=λb hb j e' hj iS dj=>
   jH wj (Gg j e' b hj iS dj) (cA _ hb)
  have vT: ∀{σ':St} {ν':Nat→Value},Core c σ' tm w M ν'→(∀j,16*(i+1)≤j→σ'.H j=none)→(∀j e b,σ'.H j=some e→e.mut→dQ (ν' j)=some b→b∈used++cV m v)→ ∃ν'',Core c (entry ms (sy x) (i+1) σ') tm w M ν'':=
   λh' yx EH=>Dd h' h2 IB yx EH (by rw[bU];exact wj) (λb hb=>Qx b (cS _ hb)) FH
  have M9: ∀(e:aW) (v':Value),v'=v→(∀b,dQ v=some b→b∈cV m v)→(∀j,16*(i+1)≤j→bc σ.H (16*i+15) (some e) j=none)∧
    (∀j e1 b,bc σ.H (16*i+15) (some e) j=some e1→e1.mut→dQ (updν ν (16*i+15) v' j)=some b→b∈used++cV m v):=by
   rintro e v' rfl hb
   refine⟨λj hj=>by rw[av _ _ ω];exact iU j ω,λj e1 b hj iS dj=> ?_⟩
   by_cases zf:j=16*i+15
   ·subst zf
    simp only[updν,gA]at dj
    exact cS _ (hb b dj)
   ·rw[av _ _ zf]at hj
    simp only[updν,zf,eo]at dj
    exact cA _ (Gg j e1 b hj iS dj)
  cases m with
  |v τ=>
   refine vT (σ':=σ.put i (.val τ (pU x))) (h.put ?_) (λj hj=>iU j ω) (λj e b hj iS dj=>cA _ (Gg j e b hj iS dj))
   simp only[VR,hv];exact h1
  |fn f τ=>
   refine vT (σ':=σ.put i (.Mr f (p7 τ (pU x)))) (h.put ?_) (λj hj=>iU j ω) (λj e b hj iS dj=>cA _ (Gg j e b hj iS dj))
   rw[hv]
   simp only[A1,VR]at h1 ⊢
   obtain⟨us,hu,LR⟩:=h1
   exact⟨us,hu,jk.free LR⟩
  |own e=>
   have wu: ∀b,dQ v=some b→b∈cV (.own e) v:=λb hb=>by simp[cV,hb]
   have hc:=h.vU hid (v:=v) (e:= .own e (pU x)) h1 (λb hb=>oh b (wu b hb)) (λb hb=> .inr (Qx b (cA _ (wu b hb)))) (λb _ _ _ hb=>FH b (Qx b (cA _ (wu b hb))))
   obtain⟨yx,EH⟩:=M9 (.own e (pU x)) v rfl wu
   refine vT (σ':=(σ.put i (.ref (16*i+15))).ik (16*i+15) (some (.own e (pU x)))) (ν':=updν ν (16*i+15) v) (hc.put (d:=i) (x:= .ref (16*i+15)) ?_) yx EH
   simp only[VR,hv]
   exact⟨by rw[ar];simp,by simp[updν]⟩
  |lo e=>
   have wu: ∀b,dQ v=some b→b∈cV (.lo e) v:=λb hb=>by simp[cV,hb]
   have hc:=h.vU hid (v:=v) (e:= .own e (pU x)) h1 (λb hb=>oh b (wu b hb)) (λb hb=> .inr (Qx b (cA _ (wu b hb)))) (λb _ _ _ hb=>FH b (Qx b (cA _ (wu b hb))))
   obtain⟨yx,EH⟩:=M9 (.own e (pU x)) v rfl wu
   refine vT (σ':=(σ.put i (.ref (16*i+15))).ik (16*i+15) (some (.own e (pU x)))) (ν':=updν ν (16*i+15) v) (hc.put (d:=i) (x:= .ref (16*i+15)) ?_) yx EH
   simp only[VR,hv]
   exact⟨by rw[ar];simp,by simp[updν]⟩
  |io τ=>
   have wu: ∀b,dQ v=some b→b∈cV (.io τ) v:=λb hb=>by simp[cV,hb]
   have hc:=h.vU hid (v:=v) (e:= .obj τ (pU x)) h1 (λb hb=>oh b (wu b hb)) (λb hb=> .inr (Qx b (cA _ (wu b hb)))) (λb _ _ he=>by cases he)
   obtain⟨yx,EH⟩:=M9 (.obj τ (pU x)) v rfl wu
   refine vT (σ':=(σ.put i (.ic (16*i+15) [])).ik (16*i+15) (some (.obj τ (pU x)))) (ν':=updν ν (16*i+15) v) (hc.put (d:=i) (x:= .ic (16*i+15) []) ?_) yx EH
   simp only[A1,ER]at h1
   obtain⟨b,cs,t,V5,_⟩:=h1
   simp only[VR,hv]
   exact⟨_,ar _ _ _,trivial,b,by simp[updν,V5],V5⟩
  |ic τ=>
   refine vT (σ':=σ.put i (.rn τ (pU x))) (h.put ?_) (λj hj=>iU j ω) (λj e b hj iS dj=>cA _ (Gg j e b hj iS dj))
   rw[hv]
   simp only[A1,VR]at h1 ⊢
   exact h1
  |ptr τ=>
   refine vT (σ':=σ) h (λj hj=>iU j ω) (λj e b hj iS dj=>cA _ (Gg j e b hj iS dj))
  |sp τ n e=>
   refine vT (σ':=σ) h (λj hj=>iU j ω) (λj e b hj iS dj=>cA _ (Gg j e b hj iS dj))
def vg(tm:Array Value):ResultVar→Sem Value
 | .tmp t=>pure (tm.getD t undef)
 | .cell x t=>do loadVar t (←asAddr (tm.getD x undef))
def B2(P:Program)(tm:Array Value)(w:World)(rv:ResultVar)(u:Value):Prop:=(vg tm rv).run P w= .ok u w
def Jh(P:Program)(tm:Array Value)(w:World):List (ResultVar ⊕ Nat)→List Value→List Value→Prop
 |[],us,ps=>us=[]∧ps=[]
 | .inl rv::rs,us,ps=> ∃u D8,us=u::D8∧B2 P tm w rv u∧Jh P tm w rs D8 ps
 | .inr i::rs,us,ps=> ∃p EI,ps=p::EI∧p=tm.getD i undef∧Jh P tm w rs us EI
theorem Core.Z0{tm:Array Value}{H1:Nat→Option aW}{M1:Nat→Prop}(h: ∀i,VR w M σ.H ν (σ.T i) (tm.getD i undef))(k:dP w M w M1)(g:jC σ.H ν H1 ν): ∀i,VR w M1 H1 ν (σ.T i) (tm.getD i undef):=
 λi=>VR.bG k g (h i)
theorem De(hE:EnvTy P E){tm:Array Value}{H0 Hq:Nat→Option aW}{M1:Nat→Prop}{uo uf:ig}{io:List (Nat×AM)}{hs:List Nat}(h:jP c w M ν H0 σ.H Hq M1 uo uf io hs)(ht: ∀i,VR w M1 σ.H ν (σ.T i) (tm.getD i undef))
  {m:AM} {rs:ResultVar ⊕ Nat} {k:m.den→St→Option α} (hk:I4 E m rs σ k=some r):
  ∃y σ' LO LP HY Vr M2 u,k y σ'=some r∧σ'.T=σ.T∧jP c w M ν H0 σ'.H Vr M2 LO LP HY (hs++cV m u)∧dP w M1 w M2∧jC σ.H ν σ'.H ν∧A1 w M2 m y u∧
   ((m.iD=false∧m.ZK=false∧ ∃rv,rs= .inl rv∧B2 P tm w rv u)∨(m.iD=true∧ ∃i,rs= .inr i∧u=tm.getD i undef)):=by
 unfold I4 at hk
 split at hk
 ·
  rename_i τ t k
  obtain⟨y,rd,ups,hk,hy⟩:=EJ h.mem (ht t) hk
  have Qy:B2 P tm w (.tmp t) (tm.getD t undef):=by simp[B2,vg]
  rcases hy with⟨rfl,hV⟩|⟨id,e,l,rfl,hid,hV⟩
  ·exact⟨y,σ,uo,uf,io,Hq,M1,_,hk,rfl,by simpa [cV]using h,.refl w M1,.refl _ ν,hV,.inl ⟨rfl,rfl,_,rfl,Qy⟩⟩
  ·obtain⟨M2,hA,hK,Kr⟩:=h.freeze hid
   exact⟨y,_,uo,_,io,Hq,M2,_,hk,rfl,(by simp only[cV,cN];exact hA),hK,.BI hid ⟨rfl,rfl⟩,hV M2 Kr,.inl ⟨rfl,rfl,_,rfl,Qy⟩⟩
 ·
  rename_i τ x t k
  split at hk
  ·rename_i τ' xP
   obtain⟨e1,BJ⟩:=dt hk
   clear hk
   subst e1
   obtain⟨υ,z,rd,hk,b,off,cs,hv,oO,kd⟩:=CZ h.mem (ht x) BJ
   obtain⟨e2,EK⟩:=bh hk
   subst e2
   refine⟨_,σ,uo,uf,io,Hq,M1,bD _ cs,EK,rfl,by simpa [cV]using h,.refl w M1,.refl _ ν,V.bD kd,.inl ⟨rfl,rfl,_,rfl,?_⟩⟩
   simp only[B2,vg,hv]
   simp[asAddr,CW (hE.ty t _ xP) oO kd]
  ·cases hk
 ·
  rename_i e t k
  have hv:=ht t
  have Qy:B2 P tm w (.tmp t) (tm.getD t undef):=by simp[B2,vg]
  split at hk
  ·rename_i hT
   rw[hT]at hv
   obtain⟨ad,hv⟩:=VR.emp.1 hv
   have hb:dQ (.slice ad 0 0)=none:=by cases ad<;>simp[dQ]
   exact⟨[],σ,uo,uf,io,Hq,M1,_,hk,rfl,by rw[hv];simpa [cV,hb]using h,.refl w M1,.refl _ ν,by rw[hv];simp only[A1,ER];exact .inl ⟨trivial,ad,rfl⟩,.inl ⟨rfl,rfl,_,rfl,Qy⟩⟩
  ·rename_i id hT
   rw[hT]at hv
   simp only[VR]at hv
   split at hk
   ·rename_i e' l hid
    obtain⟨e1,hk⟩:=bh hk
    cases e1
    refine⟨_,_,_,uf,io,_,M1,ν id,hk,rfl,(by simp only[cV];exact h.hand hid),.refl w M1,.BI hid (aW.jG _),h.mem.gT id _ hid,.inl ⟨rfl,rfl,_,rfl,by rw[←hv.2];exact Qy⟩⟩
   ·cases hk
  ·cases hk
 ·
  rename_i τ i k
  have hv:=ht i
  split at hk
  ·rename_i id hT
   rw[hT]at hv
   split at hk
   ·rename_i υ z hid
    obtain⟨e1,hk⟩:=bh hk
    subst e1
    simp only[VR]at hv
    obtain⟨e,he,jI⟩:=hv
    rw[hid]at he;cases he
    simp only[AR]at jI
    obtain⟨_,b,hb,hv⟩:=jI
    have V5:tm.getD i undef=ν id:=by rw[hv,hb];rfl
    refine⟨_,_,uo,uf,_,_,M1,ν id,hk,rfl,(by simp only[cV];exact h.ahh hid),.refl w M1,.BI hid (aW.jG _),h.mem.gT id _ hid,.inr ⟨rfl,i,rfl,V5.symm⟩⟩
   ·cases hk
  ·cases hk
 ·
  rename_i e i k
  have hv:=ht i
  split at hk
  ·rename_i id hT
   rw[hT]at hv
   simp only[VR]at hv
   split at hk
   ·rename_i e' l hid
    obtain⟨e1,hk⟩:=bh hk
    cases e1
    refine⟨_,_,uo,uf,_,_,M1,ν id,hk,rfl,(by simp only[cV];exact h.afE hid),.refl w M1,.BI hid (aW.jG _),h.mem.gT id _ hid,.inr ⟨rfl,i,rfl,hv.2.symm⟩⟩
   ·cases hk
  ·cases hk
 ·
  rename_i τ t k
  have hv:=ht t
  have Qy:B2 P tm w (.tmp t) (tm.getD t undef):=by simp[B2,vg]
  split at hk
  ·rename_i id hT
   rw[hT]at hv
   split at hk
   ·rename_i υ z hid
    obtain⟨e1,hk⟩:=bh hk
    subst e1
    simp only[VR]at hv
    obtain⟨e,he,jI⟩:=hv
    rw[hid]at he;cases he
    simp only[AR]at jI
    obtain⟨_,b,hb,hv⟩:=jI
    have V5:tm.getD t undef=ν id:=by rw[hv,hb];rfl
    refine⟨_,_,uo,uf,_,_,M1,ν id,hk,rfl,(by simp only[cV];exact h.ahh hid),.refl w M1,.BI hid (aW.jG _),h.mem.gT id _ hid,.inl ⟨rfl,rfl,_,rfl,by rw[←V5];exact Qy⟩⟩
   ·cases hk
  ·cases hk
 ·
  rename_i τ n e x t k
  split at hk
  ·rename_i τ' id xP hT
   obtain⟨e1,BJ⟩:=dt hk
   clear hk
   subst e1
   have hv:=ht x
   rw[hT]at hv
   split at BJ
   ·rename_i υ z q j hid
    obtain⟨Zv,EK⟩:=bN BJ
    clear BJ
    have:=y5 Zv
    subst this
    obtain⟨e2,hk3⟩:=bh EK
    clear EK
    subst e2
    split at hk3
    ·rename_i e' l hj
     obtain⟨e3,hk4⟩:=bh hk3
     clear hk3
     cases e3
     obtain⟨y,hk5,ry,_⟩:=FO hk4
     clear hk4
     obtain⟨b,cs,te,jB,e0,hb,hg,hM,hr,tq,h1,hq,dU,hj0⟩:=h.mem.linked hid
     simp only[VR]at hv
     obtain⟨e1,Ay,jI⟩:=hv
     rw[hid]at Ay;cases Ay
     simp only[AR]at jI
     obtain⟨hi,b',dj,hu⟩:=jI
     rw[hb]at dj;cases dj
     have hl:cs.toList.length=υ.size:=by rw[tq,dv (by simp only[aJ];omega),hr.length]
     have amG:cs.toList=dI jB (fF υ n) [ν j]:=by simpa [cn]using tq
     have oO:At w b 0 cs.toList:=by
      have:=At.of_block hg 0 cs.toList.length
      rw[c9,fD]at this
      exact this
     have hh:=xS (w:=w) (M:=M1) (e:=e) (qQ hq) hr amG
     have hA:=h.hand hj
     rw[←hh.1]at hA
     refine⟨y,_,_,_,_,_,M1,.agg cs,hk5,rfl,hA,.refl w M1,.BI hj (aW.jG _),?_,.inl ⟨rfl,rfl,_,rfl,?_⟩⟩
     ·simp only[A1]
      exact⟨cs,jB,ν j,l,z,rfl,qQ hq,hr,amG,h.mem.gT j _ hj,ry⟩
     ·simp only[B2,vg,hu]
      simp[asAddr]
      exact CX (P:=P) (hE.ty t _ xP) (FQ (qQ hq)) oO hl
    ·cases hk3
   ·cases BJ
  ·cases hk
 ·cases hk
theorem Gh(hE:EnvTy P E){tm:Array Value}{H0:Nat→Option aW}: ∀{ms:List AM} {rs:List (ResultVar ⊕ Nat)} {σ:St} {Hq:Nat→Option aW} {M1:Nat→Prop} {uo uf:ig} {io:List (Nat×AM)} {hs:List Nat} {K:HP ms→Option α},
  jP c w M ν H0 σ.H Hq M1 uo uf io hs→(∀i,VR w M1 σ.H ν (σ.T i) (tm.getD i undef))→Kj E ms rs σ K=some r→
  ∃y us ps H2 LO LP HY Vr M2,K y=some r∧jP c w M ν H0 H2 Vr M2 LO LP HY (hs++bL ms us ps)∧dP w M1 w M2∧RR w M2 ms y us ps∧Jh P tm w rs us ps
 |[],[],σ,Hq,M1,uo,uf,io,hs,K,h,ht,hk=>⟨(),[],[],σ.H,uo,uf,io,Hq,M1,hk,by simpa [bL]using h,.refl w M1,⟨rfl,rfl⟩,⟨rfl,rfl⟩⟩
 |[m],[q],σ,Hq,M1,uo,uf,io,hs,K,h,ht,hk0=>by
  obtain⟨y,σ',LO,LP,HY,Vr,M2,u,hk,hT,hA,hK,hG,hy,hu⟩:=De hE h ht (hk0:I4 E m q σ _=some r)
  clear hk0
  rcases hu with⟨h1,h2,rv,rfl,hv⟩|⟨h1,i,rfl,hv⟩
  ·refine⟨y,[u],[],_,_,_,_,_,M2,hk,by simpa [bL,h1]using hA,hK,?_,?_⟩
   ·simp only[RR];exact .inr ⟨u,[],h1,h2,rfl,hy,by simp⟩
   ·simp only[Jh];exact⟨u,[],rfl,hv,by simp⟩
  ·refine⟨y,[],[u],_,_,_,_,_,M2,hk,by simpa [bL,h1]using hA,hK,?_,?_⟩
   ·simp only[RR];exact .inl ⟨u,[],h1,rfl,hy,by simp⟩
   ·simp only[Jh];exact⟨u,[],rfl,hv,by simp⟩
 |m::n::ms,q::rs,σ,Hq,M1,uo,uf,io,hs,K,h,ht,hk0=>by
  obtain⟨y,σ',LO,LP,HY,Vr,M2,u,BJ,hT,hA,hK,hG,hy,hu⟩:=De hE h ht (hk0:I4 E m q σ _=some r)
  obtain⟨ys,us,ps,H3,uo3,uf3,io3,Hq3,M3,hk,hA3,hK3,hys,hrs⟩:=Gh (ms:=n::ms) hE hA (λi=>by rw[hT];exact Core.Z0 ht hK hG i) BJ
  have Jc:A1 w M3 m y u:=A1.xd hK3 (λb hb=>⟨rfl,hA3.hM b (cA _ (cS _ hb))⟩) hy
  clear hk0
  rcases hu with⟨h1,h2,rv,rfl,hv⟩|⟨h1,i,rfl,hv⟩
  ·refine⟨(y,ys),u::us,ps,H3,uo3,uf3,io3,Hq3,M3,hk,?_,hK.trans hK3,?_,?_⟩
   ·have:bL (m::n::ms) (u::us) ps=cV m u++bL (n::ms) us ps:=by rw[bL];simp[h1]
    rw[this,←bU];exact hA3
   ·rw[RR];exact .inr ⟨u,us,h1,h2,rfl,Jc,hys⟩
   ·simp only[Jh];exact⟨u,us,rfl,hv,hrs⟩
  ·refine⟨(y,ys),us,u::ps,H3,uo3,uf3,io3,Hq3,M3,hk,?_,hK.trans hK3,?_,?_⟩
   ·have:bL (m::n::ms) us (u::ps)=cV m u++bL (n::ms) us ps:=by rw[bL];simp[h1]
    rw[this,←bU];exact hA3
   ·rw[RR];exact .inl ⟨u,ps,h1,rfl,Jc,hys⟩
   ·simp only[Jh];exact⟨u,ps,rfl,hv,hrs⟩
 |[],_::_,_,_,_,_,_,_,_,_,_,_,hk=>by simp[Kj]at hk
 |[_],[],_,_,_,_,_,_,_,_,_,_,hk=>by simp[Kj]at hk
 |[_],_::_::_,_,_,_,_,_,_,_,_,_,_,hk=>by simp[Kj]at hk
 |_::_::_,[],_,_,_,_,_,_,_,_,_,_,hk=>by simp[Kj]at hk
theorem Ji{tm:Array Value}: ∀{rv:List ResultVar} {is:List (ResultVar ⊕ Nat)} {us ps:List Value},Jh P tm w (rv.map .inl++is) us ps→
  ∃Ze us2,us=Ze++us2∧Ze.length=rv.length∧(∀i (h:i<rv.length) (h':i<Ze.length),B2 P tm w rv[i] Ze[i])∧Jh P tm w is us2 ps
 |[],is,us,ps,h=>⟨[],us,rfl,rfl,λi h=>by simp at h,h⟩
 |rv::rvs,is,us,ps,h=>by
  simp only[bZ,mh,Jh]at h
  obtain⟨u,D8,rfl,h1,h2⟩:=h
  obtain⟨Ze,us2,rfl,hl,h3,h4⟩:=Ji h2
  refine⟨u::Ze,us2,rfl,by simp[hl],λi hi mz=> ?_,h4⟩
  cases i with
  |zero=>exact h1
  |succ i=>exact h3 i (by simpa using hi) (by simpa using mz)
theorem vh{tm:Array Value}: ∀{ms:List AM} {vs:List Value} {i:Nat} {us ps:List Value},vs.length=ms.length→(∀j v m,vs[j]? =some v→ms[j]? =some m→m.iD=true→tm.getD (i+j) undef=v)→Jh P tm w (yw ms i) us ps→us=[]∧ps=fb ms vs
 |[],vs,i,us,ps,_,_,h=>by simp only[yw,Jh]at h;simpa [fb]using h
 |m::ms,[],_,_,_,hl,_,_=>by simp at hl
 |m::ms,v::vs,i,us,ps,hl,Nf,h=>by
  have IB: ∀j u m,vs[j]? =some u→ms[j]? =some m→m.iD=true→tm.getD (i+1+j) undef=u:=λj u m hj hm ug=>by
   have:=Nf (j+1) u m (by simpa using hj) (by simpa using hm) ug
   rwa [show i+(j+1)=i+1+j from by omega]at this
  have HZ:vs.length=ms.length:=by simpa using hl
  cases m with
  |io τ=>
   simp only[yw,Jh]at h
   obtain⟨p,EI,rfl,hp,h⟩:=h
   obtain⟨h1,h2⟩:=vh HZ IB h
   refine⟨h1,?_⟩
   have:=Nf 0 v (.io τ) rfl rfl rfl
   simp only[kf]at this
   simp[fb,AM.iD,h2,hp,this]
  |lo e=>
   simp only[yw,Jh]at h
   obtain⟨p,EI,rfl,hp,h⟩:=h
   obtain⟨h1,h2⟩:=vh HZ IB h
   refine⟨h1,?_⟩
   have:=Nf 0 v (.lo e) rfl rfl rfl
   simp only[kf]at this
   simp[fb,AM.iD,h2,hp,this]
  |v τ=>
   obtain⟨h1,h2⟩:=vh HZ IB (show Jh P tm w (yw ms (i+1)) us ps from h)
   exact⟨h1,by simp[fb,AM.iD,h2]⟩
  |own τ=>
   obtain⟨h1,h2⟩:=vh HZ IB (show Jh P tm w (yw ms (i+1)) us ps from h)
   exact⟨h1,by simp[fb,AM.iD,h2]⟩
  |fn f τ=>
   obtain⟨h1,h2⟩:=vh HZ IB (show Jh P tm w (yw ms (i+1)) us ps from h)
   exact⟨h1,by simp[fb,AM.iD,h2]⟩
  |ic τ=>
   obtain⟨h1,h2⟩:=vh HZ IB (show Jh P tm w (yw ms (i+1)) us ps from h)
   exact⟨h1,by simp[fb,AM.iD,h2]⟩
  |ptr τ=>
   obtain⟨h1,h2⟩:=vh HZ IB (show Jh P tm w (yw ms (i+1)) us ps from h)
   exact⟨h1,by simp[fb,AM.iD,h2]⟩
  |sp τ n e=>
   obtain⟨h1,h2⟩:=vh HZ IB (show Jh P tm w (yw ms (i+1)) us ps from h)
   exact⟨h1,by simp[fb,AM.iD,h2]⟩
theorem Ni{fn:Func}{tm:Array Value}{us:List Value}(hl:us.length=fn.results.toList.length)(h: ∀i (h:i<fn.results.toList.length) (h':i<us.length),B2 P tm w fn.results.toList[i] us[i]):
  (results fn tm).run P w= .ok (yQ us) w:=by
 have key: ∀(rs:List ResultVar) (us:List Value),us.length=rs.length→(∀i (h:i<rs.length) (h':i<us.length),B2 P tm w rs[i] us[i])→(rs.mapM (vg tm)).run P w= .ok us w:=by
  intro rs
  induction rs with
  |nil=>intro us hl _;cases us with
   |nil=>simp
   |cons _ _=>simp at hl
  |cons r rs ih=>intro us hl h;cases us with
   |nil=>simp at hl
   |cons u us=>
    have h0:(vg tm r).run P w= .ok u w:=h 0 (by simp) (by simp)
    have h1:=ih us (by simpa using hl) (λi hi mz=>h (i+1) (by simpa using hi) (by simpa using mz))
    simp[Aa,h0,h1]
 have h2:=key fn.results.toList us hl h
 have h3:results fn tm=(do let vs ←fn.results.mapM (vg tm);pure (if h:vs.size=1 then vs[0]else .tuple vs)):=by
  unfold results
  congr 1
 rw[h3,Array.mapM_eq_mapM_toList]
 simp only[Sem.run_bind,Sem.run_map,h2]
 unfold yQ
 by_cases h3:us.length=1
 ·simp[h3]
 ·simp[h3]
theorem AO{m:AM}{x:m.den}{i:Nat}{σ:St}(h: ∀j e l o,σ.H j≠some (.eU e l o)): ∀j e l o,(BN m x i σ).H j≠some (.eU e l o):=by
 have key: ∀(τ:St) (n:Nat) (v:aW),(∀j e l o,τ.H j≠some (.eU e l o))→(∀e l o,v≠ .eU e l o)→ ∀j e l o,(τ.ik n (some v)).H j≠some (.eU e l o):=fun τ n v hτ hv j e l o hj=>by
  have hj:bc τ.H n (some v) j=some (.eU e l o):=hj
  by_cases hjn:j=n
  ·subst hjn;rw[ar]at hj;cases hj;exact hv _ _ _ rfl
  ·rw[av _ _ hjn]at hj;exact hτ j e l o hj
 cases m<;>simp only[BN]<;>first|exact h|exact key _ _ _ h (λ_ _ _=>by simp)
theorem Df: ∀{ms:List AM} {x:HP ms} {i:Nat} {σ:St},(∀j e l o,σ.H j≠some (.eU e l o))→ ∀j e l o,(entry ms x i σ).H j≠some (.eU e l o)
 |[],_,_,_,h=>h
 |[_],_,_,_,h=>AO h
 |m::n::ms,x,i,σ,h=>Df (ms:=n::ms) (x:=x.2) (i:=i+1) (σ:=BN m x.1 i σ) (AO h)
theorem B3(hE:p8 P E){f:FuncId}{fn:Func}(hf:P.funcs[f]? =some fn)(Z1:E.nt=fn.ntmps){args res:List AM}(ug: ∀i m,args[i]? =some m→m.iD=true→i∈E.io)(amI: ∀i∈E.io,i<args.length)(hlen:args.length≤fn.ntmps)
  {M0:Nat→Prop} {vs:List Value} {x:HP args} {y:HP res} (vi: ∀b,M0 b→b<w.heap.size) (hA:jg w (λb=>M0 b∨b∈dB args vs) args x vs) (wj:(dB args vs).Nodup) (yD: ∀b∈dB args vs,¬M0 b)
  (h:Kk E fn args res x=some y):
  Calls P f vs.toArray w λe w'=> ∃v,e= .returned v∧ ∃us M',v=yQ us∧RR w' M' res y us (fb args vs)∧Left w M0 (dB args vs) w' M'∧(bL res us (fb args vs)).Nodup∧ ∀b∈bL res us (fb args vs),¬M0 b:=by
 unfold Kk at h
 split at h
 ·cases h
 rename_i cd hb
 simp only at h
 have hvl: ∀{ms:List AM} {x:HP ms} {vs:List Value} {M:Nat→Prop},jg w M ms x vs→vs.length=ms.length:=by
  intro ms
  induction ms with
  |nil=>intro x vs M h;simp only[jg]at h;subst h;rfl
  |cons m ms ih=>intro x vs M h;simp only[jg]at h;obtain⟨v,LW,rfl,_,h⟩:=h;simp[ih h]
 have ZC:=hvl hA
 let tm:Array Value:=vs.toArray++Array.replicate (fn.ntmps-vs.toArray.size) undef
 have Nf: ∀j v,vs[j]? =some v→tm.getD j undef=v:=by
  intro j v hj
  have dU:j<vs.length:=(sN.1 hj).1
  rw[sM,Array.getElem?_append_left (by simpa using dU),wC,hj];rfl
 have pT:tm.size=fn.ntmps:=by simp[tm];omega
 have hhb: ∀{ms:List AM} {x:HP ms} {vs:List Value} {M:Nat→Prop},jg w M ms x vs→ ∀b∈dB ms vs,b<w.heap.size:=by
  intro ms
  induction ms with
  |nil=>intro x vs M h b hb;simp[dB]at hb
  |cons m ms ih=>
   intro x vs M h b hb
   simp only[jg]at h
   obtain⟨v,LW,rfl,h1,h⟩:=h
   simp only[dB,bf]at hb
   rcases hb with hb|hb
   ·cases m with
    |v _=>simp[cV]at hb
    |fn _ _=>simp[cV]at hb
    |ic _=>simp[cV]at hb
    |own e=>
     simp only[cV,eM,A1,ER]at hb h1
     rcases h1 with⟨_,a,hv⟩|⟨b',cs,t,cap,hv,hg,_⟩
     ·rw[hv]at hb;cases a<;>simp[dQ]at hb
     ·rw[hv]at hb
      simp only[dQ]at hb
      split at hb
      ·cases hb
      ·simp only[eL]at hb;subst hb;exact lt_of_block hg
    |lo e=>
     simp only[cV,eM,A1,ER]at hb h1
     rcases h1 with⟨_,a,hv⟩|⟨b',cs,t,cap,hv,hg,_⟩
     ·rw[hv]at hb;cases a<;>simp[dQ]at hb
     ·rw[hv]at hb
      simp only[dQ]at hb
      split at hb
      ·cases hb
      ·simp only[eL]at hb;subst hb;exact lt_of_block hg
    |io τ=>
     simp only[cV,eM,A1,ER]at hb h1
     obtain⟨b',cs,t,hv,hg,_⟩:=h1
     rw[hv]at hb
     simp only[dQ,eL]at hb;subst hb;exact lt_of_block hg
    |ptr τ=>
     simp only[cV,eM,A1,ER]at hb h1
     obtain⟨b',cs,t,hv,hg,_⟩:=h1
     rw[hv]at hb
     simp only[dQ,eL]at hb;subst hb;exact lt_of_block hg
    |sp τ n e=>
     simp only[A1]at h1
     obtain⟨cs,jB,u,l,z,rfl,hq,hr,tq,hu,_⟩:=h1
     rw[(xS hq hr tq).1,eM]at hb
     simp only[ER]at hu
     rcases hu with⟨_,a,hv⟩|⟨b',cs,t,cap,hv,hg,_⟩
     ·rw[hv]at hb;cases a<;>simp[dQ]at hb
     ·rw[hv]at hb
      simp only[dQ]at hb
      split at hb
      ·cases hb
      ·simp only[eL]at hb;subst hb;exact lt_of_block hg
   ·exact ih h b hb
 let cx:Ctx:={B:=w.heap.size,w0:=w,M0:=M0,may:=λb=>b∈dB args vs,arg:=λi=>tm.getD i undef}
 have P9:Mem cx (λ_=>none) w (λb=>M0 b∨b∈dB args vs) (λ_=>undef):=
  ⟨λi e hi=>(by cases hi),λi j e e' b _ hi=>(by cases hi),λi e b hi=>(by cases hi),λi e l b hi=>(by cases hi),λi τ x p j hi=>(by cases hi),λb hb=> .inl hb,λb hb=>hb.elim (vi b) (hhb hA b),λ_ _ _=>rfl,aI _,⟨vi,yD⟩,rfl,rfl,rfl⟩
 have P5:Core cx ⟨λ_=> .any,λ_=>none⟩ tm w (λb=>M0 b∨b∈dB args vs) (λ_=>undef):=⟨P9,λi=>by simp[VR]⟩
 obtain⟨ν',hc⟩:=Dd (i:=0) (used:=[]) P5 hA (λj v hj=>by rw[fh];exact Nf j v hj) (λ_ _=>rfl) (λj e b hj=>by cases hj) (by simpa using wj) (λb hb=>hb) (λb hb=>yD b hb)
 have hnf: ∀i e l o,(entry args x 0 ⟨λ_=> .any,λ_=>none⟩).H i≠some (.eU e l o):=Df (λ_ _ _ _ h=>by cases h)
 have hI:Inv cx E (entry args x 0 ⟨λ_=> .any,λ_=>none⟩) {tmps:=tm,defers:=[]} w:=⟨⟨cx,_,_,.refl ⟨vi,yD⟩,hc,λ_=>⟨λ_=>hnf,λi j e l o e' l' o' hi=>absurd hi (hnf i e l o),λi e l o hi=>absurd hi (hnf i e l o)⟩⟩,by rw[Z1,pT],rfl,λi _=>rfl⟩
 refine calls_of_wp hf hb ?_
 have amJ: ∀(σ':St) (a':Act) (w':World),Kj E res (fn.results.toList.map .inl++yw args 0) σ' some=some y→Inv cx E σ' a' w'→
   a'.defers=[]∧ ∃v,(results fn a'.tmps).run P w'= .ok v w'∧ ∃v',Ending.returned v= .returned v'∧ ∃us M',v'=yQ us∧RR w' M' res y us (fb args vs)∧Left w M0 (dB args vs) w' M'∧(bL res us (fb args vs)).Nodup∧ ∀b∈bL res us (fb args vs),¬M0 b:=by
  rintro σ' a' w' hk ⟨⟨d1,M1,ν1,ve,zz,_⟩,I9,hd1,xg⟩
  replace zz:Core cx σ' a'.tmps w' M1 ν1:=⟨zz.mem.up ve,zz.tmp⟩
  obtain⟨y',us,ps,H2,uo,uf,io,Hq,M2,hy,Wx,hK,MX,hRs⟩:=Gh (P:=P) hE.toEnvTy (jP.start zz.mem) zz.tmp hk
  cases hy
  obtain⟨Ze,us2,rfl,hl,hv,ass⟩:=Ji hRs
  obtain⟨rfl,Ia⟩:=vh (vs:=vs) ZC (λj v m hj hm F2=>by
   rw[fh]
   rw[xg j (ug j m hm F2)]
   exact Nf j v hj) ass
  rw[cN]at*
  subst Ia
  simp only[cM]at Wx
  have jQ: ∀b∈bL res Ze (fb args vs),b<w.heap.size→b∈dB args vs:=λb hb dU=>(Wx.MU b hb).elim (λh'=>absurd dU (Nat.not_lt.2 h')) (λh=>h)
  have Jc:dP w' M2 w' (λb=>M2 b∧(b<w.heap.size→M0 b∨b∈dB args vs)):=⟨aI _,λ_ _ _=>rfl,λ_ _ h=>h.1⟩
  refine⟨hd1,yQ Ze,Ni hl hv,_,rfl,Ze,λb=>M2 b∧(b<w.heap.size→M0 b∨b∈dB args vs),rfl,RR.xd Jc (λb hb=>⟨rfl,MX.rC b hb,λdU=> .inr (jQ b hb dU)⟩) MX,⟨λb hb=>⟨Wx.mem.sub b hb,λ_=> .inl hb⟩,λb hb=>Wx.mem.y6 b hb.1,λb dU hb=>hb.2 dU,λb dU hb=>Wx.mem.frame b dU hb,Wx.mem.size,Wx.mem.os,Wx.mem.tape,Wx.mem.output⟩,Wx.nd,λb hb h0=> ?_⟩
  rcases Wx.MU b hb with h'|h'
  ·exact absurd (vi b h0) (Nat.not_lt.2 h')
  ·exact yD b h' h0
 refine TU (c:=cx) hE cd _ _ w _ _ _ _ hI h (fun σ' a' w' hk yR=> ?_) (λi σ' a' w' hk=>by cases hk) (fun σ' a' w' hk yR=> ?_)
 ·exact amJ σ' a' w' hk yR
 ·exact amJ σ' a' w' hk yR
theorem Wy(hE:p8 P E){f:FuncId}{fn:Func}(hf:P.funcs[f]? =some fn)(AP:(fn.name== "runtime.NumGoroutine")=false)(Z1:E.nt=fn.ntmps)(S:pP)
  (ug: ∀i m,S.args[i]? =some m→m.iD=true→i∈E.io) (amI: ∀i∈E.io,i<S.args.length) (hlen:S.args.length≤fn.ntmps) (hq:S.quiet=true→S.res.all AM.flat=true) (ast:mN S.args=mN S.res)
  (cU: ∀x,Kk E fn S.args S.res x=S.run x):lN P f S:=by
 refine⟨hq,ast,λM0 w vs x y vi hA wj yD hy=> ?_⟩
 have hb:fn.body.isNone=false:=by
  have:=cU x
  rw[hy]at this
  unfold Kk at this
  split at this
  ·cases this
  ·rename_i cd hcd;rw[hcd];rfl
 exact tu hf AP hb (B3 hE hf Z1 ug amI hlen vi hA wj yD (by rw[cU,hy]))
end VM
end
section
namespace VM
open Go
variable{P:Program}
def AQ:Ty→List Value→Option (List Value)
 | .int k,v::r=>match v with
  | .int k' n=>if k'=k∧n=0 then some r else none
  |_=>none
 | .bool,v::r=>match v with
  | .bool false=>some r
  |_=>none
 | .str,v::r=>match v with
  | .string s=>if s.data.size=0 then some r else none
  |_=>none
 | .slice _,v::r=>match v with
  | .slice none n m=>if n=0∧m=0 then some r else none
  |_=>none
 | .unit,r=>some r
 | .pair a b,r=>match AQ a r with
  |some r=>AQ b r
  |none=>none
 | .arr n e,r=>Nat.rec (motive:=λ_=>List Value→Option (List Value)) (λr=>some r) (λ_ ih r=>match AQ e r with
  |some r=>ih r
  |none=>none) n r
 |_,[]=>none
theorem AS: ∀{τ:Ty} {l r:List Value},AQ τ l=some r→l=τ.bS++r
 | .int k,[],_,h| .bool,[],_,h| .str,[],_,h| .slice _,[],_,h=>by simp[AQ]at h
 | .int k,v::l,r,h=>by
  simp only[AQ]at h
  split at h
  ·split at h
   ·rename_i hc;obtain⟨rfl,rfl⟩:=hc;cases h;rfl
   ·cases h
  ·cases h
 | .bool,v::l,r,h=>by
  simp only[AQ]at h
  split at h
  ·cases h;rfl
  ·cases h
 | .str,v::l,r,h=>by
  simp only[AQ]at h
  split at h
  ·rename_i s
   split at h
   ·rename_i hs
    cases h
    have:s=ByteArray.empty:=by
     obtain⟨d⟩:=s
     have:d= #[]:=Array.eq_empty_of_size_eq_zero hs
     subst this;rfl
    subst this;rfl
   ·cases h
  ·cases h
 | .slice _,v::l,r,h=>by
  simp only[AQ]at h
  split at h
  ·split at h
   ·rename_i hc;obtain⟨rfl,rfl⟩:=hc;cases h;rfl
   ·cases h
  ·cases h
 | .unit,l,r,h=>by simp only[AQ]at h;cases h;rfl
 | .pair a b,l,r,h=>by
  simp only[AQ]at h
  split at h
  ·rename_i r1 h1
   rw[AS h1,AS h];simp[Ty.bS]
  ·cases h
 | .arr n e,l,r,h=>by
  simp only[AQ]at h
  simp only[Ty.bS]
  induction n generalizing l with
  |zero=>cases h;rfl
  |succ n ih=>
   simp only at h
   split at h
   ·rename_i r1 h1
    rw[AS h1,ih _ h];simp[zS]
   ·cases h
def AT(P:Program)(τ:Ty)(t:TypeId):Bool:=
 match P.info? t with
 |none=>false
 |some i=>Nat.beq i.size τ.size&&Nat.ble i.bytes 2048&&(match i.zero with
  |none=>false
  |some z=>match τ.isAgg,z with
   |true,.agg cs=>(match AQ τ cs.toList with|some []=>true|_=>false)
   |false,z=>(match AQ τ [z]with|some []=>true|_=>false)
   |_,_=>false)
theorem rG{τ:Ty}{t:TypeId}(h:AT P τ t=true):Kl P τ t:=by
 unfold AT at h
 split at h
 ·cases h
 ·rename_i i hi
  simp only[bQ,Aj]at h
  obtain⟨⟨h1,h2⟩,h3⟩:=h
  refine⟨i,hi,eK h1,?_,h2⟩
  split at h3
  ·cases h3
  ·rename_i z hz
   rw[hz]
   split at h3
   ·rename_i _ cs ha
    split at h3
    ·rename_i he
     have:=AS he
     unfold bD
     rw[ak ha,←cN τ.bS,←this]
    ·cases h3
   ·rename_i ha
    split at h3
    ·rename_i he
     have:=AS he
     unfold bD
     rw[ah (by rw[ha];exact qY),←cN τ.bS,←this];rfl
    ·cases h3
   ·cases h3
def ui(P:Program):Ty→TypeId ⊕ (Array Field×Nat×Nat)→Bool
 | .int k,.inl t=>AT P (.int k) t&&(match P.underlying t with|some (.int k')=>decide (k'=k)|_=>false)
 | .bool,.inl t=>AT P .bool t&&(match P.underlying t with|some .bool=>true|_=>false)
 | .str,.inl t=>AT P .str t&&(match P.underlying t with|some .string=>true|_=>false)
 | .slice e,.inl t=>AT P (.slice e) t&&(match P.underlying t with|some (.slice e')=>ui P e (.inl e')|_=>false)
 | .arr n e,.inl t=>AT P (.arr n e) t&&(match P.underlying t with|some (.array n' e')=>Nat.beq n' n&&ui P e (.inl e')|_=>false)
 | .unit,.inl t=>AT P .unit t&&(match P.underlying t with|some (.struct fs)=>Nat.beq fs.size 0|_=>false)
 | .unit,.inr q=>Nat.beq q.1.size q.2.1
 | .pair a b,.inl t=>AT P (.pair a b) t&&(match P.underlying t with
  |some (.struct fs)=>(match fs[0]? with
   |some f=>Nat.beq f.offset 0&&(ui P a (.inl f.type)&&ui P b (.inr (fs,1,a.size)))
   |none=>false)
  |_=>false)
 | .pair a b,.inr q=>(match q.1[q.2.1]? with
  |some f=>Nat.beq f.offset q.2.2&&(ui P a (.inl f.type)&&ui P b (.inr (q.1,q.2.1+1,q.2.2+a.size)))
  |none=>false)
 |_,.inr _=>false
theorem ny: ∀{τ:Ty} {x:TypeId ⊕ (Array Field×Nat×Nat)},ui P τ x=true→fP P τ x
 | .int k,.inl t,h=>by
  simp only[ui,bQ]at h
  refine⟨rG h.1,?_⟩
  have h:=h.2
  split at h
  ·rename_i k' hu;rw[hu,bl h]
  ·cases h
 | .bool,.inl t,h=>by
  simp only[ui,bQ]at h
  refine⟨rG h.1,?_⟩
  have h:=h.2
  split at h
  ·rename_i hu;exact hu
  ·cases h
 | .str,.inl t,h=>by
  simp only[ui,bQ]at h
  refine⟨rG h.1,?_⟩
  have h:=h.2
  split at h
  ·rename_i hu;exact hu
  ·cases h
 | .slice e,.inl t,h=>by
  simp only[ui,bQ]at h
  refine⟨rG h.1,?_⟩
  have h:=h.2
  split at h
  ·rename_i e' hu;exact⟨e',hu,ny h⟩
  ·cases h
 | .arr n e,.inl t,h=>by
  simp only[ui,bQ]at h
  refine⟨rG h.1,?_⟩
  have h:=h.2
  split at h
  ·rename_i n' e' hu
   simp only[bQ]at h
   obtain⟨h0,h⟩:=h
   rw[eK h0]at hu
   exact⟨e',hu,ny h⟩
  ·cases h
 | .unit,.inl t,h=>by
  simp only[ui,bQ]at h
  refine⟨rG h.1,?_⟩
  have h:=h.2
  split at h
  ·rename_i fs hu;exact⟨fs,hu,eK h⟩
  ·cases h
 | .unit,.inr (fs,n,o),h=>by simp only[ui]at h;exact eK h
 | .pair a b,.inl t,h=>by
  simp only[ui,bQ]at h
  refine⟨rG h.1,?_⟩
  have h:=h.2
  split at h
  ·rename_i fs hu
   split at h
   ·rename_i f hf
    simp only[bQ]at h
    exact⟨fs,f,hu,hf,eK h.1,ny h.2.1,ny h.2.2⟩
   ·cases h
  ·cases h
 | .pair a b,.inr (fs,n,o),h=>by
  simp only[ui]at h
  split at h
  ·rename_i f hf
   simp only[bQ]at h
   exact⟨f,hf,eK h.1,ny h.2.1,ny h.2.2⟩
  ·cases h
 | .int _,.inr _,h| .bool,.inr _,h| .str,.inr _,h| .slice _,.inr _,h| .arr _ _,.inr _,h=>by simp[ui]at h
def vV(P:Program):Ty→TypeId ⊕ (Array Field×Nat)→Bool
 | .int _,.inl _| .bool,.inl _| .str,.inl _=>true
 | .unit,.inl t=> !P.stoodInHeld t
 | .unit,.inr _=>true
 | .pair a b,.inl t=> !P.stoodInHeld t&&(match P.underlying t with
  |some (.struct fs)=>(match fs[0]? with
   |some f=>f.name != "_" &&(vV P a (.inl f.type)&&vV P b (.inr (fs,1)))
   |none=>false)
  |_=>false)
 | .pair a b,.inr q=>(match q.1[q.2]? with
  |some f=>f.name != "_" &&(vV P a (.inl f.type)&&vV P b (.inr (q.1,q.2+1)))
  |none=>false)
 |_,_=>false
def Ty.deep:Ty→Nat
 | .pair a b=>a.deep+b.deep+1
 |_=>1
theorem V.ofC{w:World}{M:Nat→Prop}{τ:Ty}{cs:List Value}{x:τ.den}(h:Rd w M τ cs x):V w M τ (VM.bD τ cs) x:=V.bD h
mutual
theorem Nj{w:World}{M:Nat→Prop}: ∀{τ:Ty} {t:TypeId} {u v:Value} {x y:τ.den} {d:Nat},jX P τ t→vV P τ (.inl t)=true→V w M τ u x→V w M τ v y→τ.deep≤d→(Op.equalIn d t u v).run P w= .ok (ti τ x y) w
 | .int k,t,u,v,x,y,d+1,hl,_,hx,hy,_=>by
  simp only[V,Ty.isAgg,gW,eo,Rd,eN,eA]at hx hy
  subst hx;subst hy
  rw[run_equalIn_int w d t k k _ _ hl.int];simp only[ti,jj];congr 1
 | .bool,t,u,v,x,y,d+1,hl,_,hx,hy,_=>by
  simp only[V,Ty.isAgg,gW,eo,Rd,eN,eA]at hx hy
  subst hx;subst hy
  rw[run_equalIn_bool w d t _ _ hl.bool];simp only[ti]
 | .str,t,u,v,x,y,d+1,hl,_,hx,hy,_=>by
  simp only[V,Ty.isAgg,gW,eo,Rd,eN,eA]at hx hy
  subst hx;subst hy
  rw[run_equalIn_string w d t _ _ hl.str];simp only[ti,FF];congr 1;rw[oZ];simp
 | .slice _,_,_,_,_,_,_,_,h,_,_,_| .arr _ _,_,_,_,_,_,_,_,h,_,_,_=>by simp[vV]at h
 | .unit,t,u,v,x,y,d+1,hl,he,hx,hy,_=>by
  simp only[V,Ty.isAgg,gA]at hx hy
  obtain⟨cs,rfl,_⟩:=hx
  obtain⟨cs',rfl,_⟩:=hy
  simp only[jX,fP]at hl
  obtain⟨_,fs,hu,h0⟩:=hl
  have hfs:P.fieldsOf t=fs:=by simp[Program.fieldsOf,hu]
  rw[run_equalIn_struct w d t cs cs' (by rw[hfs];exact hu) (by simpa [vV]using he),hfs]
  have:fs.toList=[]:=by rw[←Mj,ba];exact h0
  rw[this];simp[Op.eqFields,ti]
 | .pair a b,t,u,v,x,y,d+1,hl,he,hx,hy,hd=>by
  simp only[V,Ty.isAgg,gA]at hx hy
  obtain⟨cs,rfl,hx⟩:=hx
  obtain⟨cs',rfl,hy⟩:=hy
  simp only[jX,fP]at hl
  obtain⟨_,fs,f,hu,hf,ho,zg,Qa⟩:=hl
  have hfs:P.fieldsOf t=fs:=by simp[Program.fieldsOf,hu]
  simp only[vV,hu,hf,bQ]at he
  rw[run_equalIn_struct w d t cs cs' (by rw[hfs];exact hu) (by simpa using he.1),hfs]
  have h0:fs.toList=f::fs.toList.drop 1:=by
   have h1:=nc (l:=fs.toList) (i:=0) (by rw[ba];exact(kP.1 hf).1)
   rw[c9]at h1
   rw[h1];congr 1
   rw[zQ];exact(kP.1 hf).2
  simp only[Ty.deep]at hd
  rw[h0]
  have qt:Rd w M (.pair a b) (cs.toList.drop 0) x:=by rw[c9];exact hx
  have Jj:Rd w M (.pair a b) (cs'.toList.drop 0) y:=by rw[c9];exact hy
  have ij:f.name≠ "_" :=by simpa using he.2.1
  simp only[Op.eqFields,ij,ne_eq,not_false_eq_true,gA]
  exact Wz (off:=0) ho zg he.2.2.1 qt Jj ω (λh1 h2=>WA (n:=1) (fs:=fs) (off:=a.size) Qa he.2.2.2 (by rw[fh]at h1;exact h1) (by rw[fh]at h2;exact h2) ω)
 | .int _,_,_,_,_,_,0,_,_,_,_,hd| .bool,_,_,_,_,_,0,_,_,_,_,hd| .str,_,_,_,_,_,0,_,_,_,_,hd| .unit,_,_,_,_,_,0,_,_,_,_,hd| .pair _ _,_,_,_,_,_,0,_,_,_,_,hd=>by simp[Ty.deep]at hd
theorem WA{w:World}{M:Nat→Prop}: ∀{b:Ty} {fs:Array Field} {n off:Nat} {cs cs':Array Value} {x y:b.den} {d:Nat},fP P b (.inr (fs,n,off))→vV P b (.inr (fs,n))=true→Rd w M b (cs.toList.drop off) x→Rd w M b (cs'.toList.drop off) y→b.deep≤d→
  (Op.eqFields d cs cs' (fs.toList.drop n)).run P w= .ok (ti b x y) w
 | .unit,fs,n,off,cs,cs',x,y,d,hl,_,_,_,_=>by
  simp only[fP]at hl
  rw[jN (by rw[ba];omega)]
  simp[Op.eqFields,ti]
 | .pair a b,fs,n,off,cs,cs',x,y,d,hl,he,hx,hy,hd=>by
  simp only[fP]at hl
  obtain⟨f,hf,ho,zg,Qa⟩:=hl
  simp only[vV,hf,bQ]at he
  have h0:fs.toList.drop n=f::fs.toList.drop (n+1):=by
   rw[nc (l:=fs.toList) (i:=n) (by rw[ba];exact(kP.1 hf).1)]
   congr 1
   rw[zQ];exact(kP.1 hf).2
  simp only[Ty.deep]at hd
  rw[h0]
  have ij:f.name≠ "_" :=by simpa using he.1
  simp only[Op.eqFields,ij,ne_eq,not_false_eq_true,gA]
  exact Wz ho zg he.2.1 hx hy ω (λh1 h2=>WA Qa he.2.2 h1 h2 ω)
 | .int _,_,_,_,_,_,_,_,_,hl,_,_,_,_| .bool,_,_,_,_,_,_,_,_,hl,_,_,_,_| .str,_,_,_,_,_,_,_,_,hl,_,_,_,_| .slice _,_,_,_,_,_,_,_,_,hl,_,_,_,_| .arr _ _,_,_,_,_,_,_,_,_,hl,_,_,_,_=>by simp[fP]at hl
theorem Wz{w:World}{M:Nat→Prop}{a b:Ty}{f:Field}{fs:List Field}{off:Nat}{cs cs':Array Value}{x y:(Ty.pair a b).den}{d:Nat}(ho:f.offset=off)(zg:jX P a f.type)(he:vV P a (.inl f.type)=true)
  (hx:Rd w M (.pair a b) (cs.toList.drop off) x) (hy:Rd w M (.pair a b) (cs'.toList.drop off) y) (hd:a.deep≤d)
  (hr:Rd w M b (cs.toList.drop (off+a.size)) x.2→Rd w M b (cs'.toList.drop (off+a.size)) y.2→(Op.eqFields d cs cs' fs).run P w= .ok (ti b x.2 y.2) w):
  (do let u ←part f.type cs f.offset;let v ←part f.type cs' f.offset;let r ←Op.equalIn d f.type u v;if(!r)=true then pure false else Op.eqFields d cs cs' fs:Sem Bool).run P w= .ok (ti (.pair a b) x y) w:=by
 simp only[Rd]at hx hy
 obtain⟨c1,c2,hc,h1,h2⟩:=hx
 obtain⟨c1',c2',Vo,pV,yT⟩:=hy
 subst ho
 have p1:(cs.toList.drop f.offset).take a.size=c1:=by rw[hc,wI h1.length]
 have p2:(cs'.toList.drop f.offset).take a.size=c1':=by rw[Vo,wI pV.length]
 have q1:cs.toList.drop (f.offset+a.size)=c2:=by rw[←ji,hc,lH h1.length]
 have q2:cs'.toList.drop (f.offset+a.size)=c2':=by rw[←ji,Vo,lH pV.length]
 have r1:=Av zg (w:=w) (M:=M) (cs:=cs) (off:=f.offset) (x:=x.1) (by rw[p1];exact h1)
 have r2:=Av zg (w:=w) (M:=M) (cs:=cs') (off:=f.offset) (x:=y.1) (by rw[p2];exact pV)
 have r3:=Nj (d:=d) zg he (V.ofC (by rw[p1];exact h1):V w M a (VM.bD a ((cs.toList.drop f.offset).take a.size)) x.1) (V.ofC (by rw[p2];exact pV):V w M a (VM.bD a ((cs'.toList.drop f.offset).take a.size)) y.1) hd
 simp only[Sem.run_bind,r1,r2,r3,Result.andThen_ok,ti]
 cases ti a x.1 y.1
 ·simp
 ·simpa using hr (by rw[q1];exact h2) (by rw[q2];exact yT)
end
def Z2(P:Program)(τ:Ty)(t:TypeId):Bool:= !(τ.comparable&&τ.isAgg)||(vV P τ (.inl t)&&(Nat.ble τ.deep 10000&& !P.eqGuardType P.depth t))
theorem Z3{τ:Ty}{t:TypeId}(hl:jX P τ t)(h:Z2 P τ t=true)(hc:τ.comparable=true)(ha:τ.isAgg=true):al0 P t τ:=by
 unfold Z2 at h
 rw[hc,ha]at h
 simp only[Bool.and_self,bR,tR,bQ,Aj,qZ]at h
 obtain⟨h1,h2,h3⟩:=h
 intro w M u v x y b xo yo hx hy
 have he:=Nj (d:=10000) hl h1 hx hy h2
 unfold V at hx hy
 rw[ak ha]at hx hy
 obtain⟨cs,rfl,_⟩:=hx
 obtain⟨cs',rfl,_⟩:=hy
 refine⟨?_,?_,?_⟩
 ·cases b<;>simp[eqGuard,h3]
 ·simp only[binOp];simp[Op.equal,Op.maxDepth,he]
 ·simp only[binOp];simp[Op.equal,Op.maxDepth,he]
def amL(P:Program)(l:List (Nat×Ty)):Bool:=l.all λq=>ui P q.2 (.inl q.1)&&Z2 P q.2 q.1
end VM
end
section
namespace VM
open Go Go.WideShapes Go.RowKit Go.ChangeShapes
def WF:(τ:Ty)→τ.den→Prop
 | .int k,x=>(Lit.int k x).wf=true
 | .bool,_=>True
 | .str,s=>ByteArray.size s≤maxLen
 | .slice e,l=>ℓ l≤maxLen∧ ∀i (h:i<ℓ l),WF e (List.get l ⟨i,h⟩)
 | .unit,_=>True
 | .pair a b,x=>WF a x.1∧WF b x.2
 | .arr _ e,l=> ∀i (h:i<ℓ l),WF e (List.get l ⟨i,h⟩)
def Ty.rH:Ty→Bool
 | .slice e=>Nat.blt 0 e.size&&e.rH
 | .pair a b=>a.rH&&b.rH
 | .arr _ e=>e.rH
 |_=>true
theorem WB{α β:Type}{f:α→Option β}: ∀{l:List α} {r:List β},l.mapM f=some r→ ∀x∈l,∃y,f x=some y
 |[],_,_,x,hx=>by cases hx
 |a::l,r,h,x,hx=>by
  rw[Aa]at h
  simp only[bind,qm,pure,eL]at h
  obtain⟨y,hy,r',hr,_⟩:=h
  rcases bm.1 hx with rfl|hx
  ·exact⟨y,hy⟩
  ·exact WB hr x hx
theorem Nk{α β:Type}{f:α→Option β}: ∀{l:List α} {r:List β},l.mapM f=some r→r.length=l.length∧ ∀i (h:i<l.length) (h':i<r.length),f l[i]=some r[i]
 |[],r,h=>by simp at h;subst h;exact⟨rfl,λi h=>by cases h⟩
 |a::l,r,h=>by
  rw[Aa]at h
  simp only[bind,qm,pure,eL]at h
  obtain⟨y,hy,r',hr,rfl⟩:=h
  obtain⟨h1,h2⟩:=Nk hr
  refine⟨by simp[h1],λi hi mz=> ?_⟩
  cases i with
  |zero=>exact hy
  |succ i=>exact h2 i (by simpa using hi) (by simpa using mz)
theorem xh{α:Type}{p:Nat→α→Prop}: ∀n,(∀i,i<n→ ∃x,p i x)→ ∃l:List α,l.length=n∧ ∀i (h:i<l.length),p i (l.get ⟨i,h⟩)
 |0,_=>⟨[],rfl,λi h=>by cases h⟩
 |n+1,h=>by
  obtain⟨l,hl,hp⟩:=xh n (λi hi=>h i ω)
  obtain⟨x,hx⟩:=h n ω
  refine⟨l++[x],by simp[hl],λi hi=> ?_⟩
  simp only[Fk]
  by_cases dU:i<l.length
  ·rw[zJ dU];exact hp i dU
  ·have mi:i=n:=by simp at hi;omega
   subst mi
   rw[E9 ω]
   simp[hl,hx]
section
variable{H:Type}{enc:TypeId×Value→H}{P:Program}{w:World}
theorem jX.cells{τ:Ty}{t:TypeId}(h:jX P τ t):P.cellsOf t=τ.size:=by
 obtain⟨i,hi,hs,_⟩:=h.base
 simp[Program.cellsOf,hi,hs]
theorem Jk{a:Addr}{n:Nat}{cs:List Value}(h:w.cells? 0 a n=some cs):cs.length=n∧ ∀j v,cs[j]? =some v→w.cell? (a.add j)=some v:=by
 unfold World.cells? at h
 rw[ak (bA _)]at h
 obtain⟨h1,h2⟩:=Nk h
 rw[ng]at h1
 refine⟨h1,λj v hj=> ?_⟩
 obtain⟨dU,rfl⟩:=sN.1 hj
 have:=h2 j (by rw[ng];omega) dU
 rw[zU]at this
 exact this
def WC(H:Type)(enc:TypeId×Value→H)(P:Program)(w:World)(τ:Ty):TypeId ⊕ (Array Field×Nat×Nat)→Prop
 | .inl t=> ∀(fuel:Nat) (cs:List Value) (d:DataW H×List MemPlace),DataW.trod enc P w 0 (λ_=>true) true fuel t cs=some d→ ∃x:τ.den,Rd w (λ_=>False) τ cs x∧WF τ x
 | .inr q=> ∀(cs:List Value),cs.length=q.2.2+τ.size→(∀f∈q.1.toList,∃fuel d,DataW.trod enc P w 0 (λ_=>true) true fuel f.type ((cs.drop f.offset).take (P.cellsOf f.type))=some d)→ ∃x:τ.den,Rd w (λ_=>False) τ (cs.drop q.2.2) x∧WF τ x
theorem Jl{a b:Ty}{f:Field}{fs:Array Field}{n off:Nat}(hf:fs[n]? =some f)(ho:f.offset=off)(zg:jX P a f.type)(iha:WC H enc P w a (.inl f.type))(VI:WC H enc P w b (.inr (fs,n+1,off+a.size)))
  {cs:List Value} (hc:cs.length=off+(a.size+b.size)) (iT: ∀f∈fs.toList,∃fuel d,DataW.trod enc P w 0 (λ_=>true) true fuel f.type ((cs.drop f.offset).take (P.cellsOf f.type))=some d):
  ∃x:(Ty.pair a b).den,Rd w (λ_=>False) (.pair a b) (cs.drop off) x∧WF (.pair a b) x:=by
 subst ho
 obtain⟨fuel,d,hd⟩:=iT f (by rw[Array.mem_toList_iff];exact Array.mem_of_getElem? hf)
 rw[zg.cells]at hd
 obtain⟨x,hx,hwx⟩:=iha fuel _ d hd
 obtain⟨y,hy,hwy⟩:=VI cs (by simp only;omega) iT
 refine⟨(x,y),?_,hwx,hwy⟩
 simp only[Rd]
 refine⟨_,_,(iG a.size (cs.drop f.offset)).symm,hx,?_⟩
 rw[ji];exact hy
theorem vj: ∀{τ:Ty} {x:TypeId ⊕ (Array Field×Nat×Nat)},fP P τ x→τ.rH=true→WC H enc P w τ x
 | .int k,.inl t,hl,_=>by
  intro fuel cs d h
  simp only[fP]at hl
  obtain⟨n,rfl,_,hw⟩:=DataW.trod_int hl.2 h
  exact⟨n,rfl,hw⟩
 | .bool,.inl t,hl,_=>by
  intro fuel cs d h
  simp only[fP]at hl
  obtain⟨b,rfl,_⟩:=DataW.trod_bool hl.2 h
  exact⟨b,rfl,trivial⟩
 | .str,.inl t,hl,_=>by
  intro fuel cs d h
  simp only[fP]at hl
  obtain⟨s,rfl,_,hs⟩:=DataW.trod_string hl.2 h
  exact⟨s,rfl,hs⟩
 | .slice e,.inl t,hl,hs=>by
  intro fuel cs d h
  simp only[fP]at hl
  obtain⟨_,e',hu,hle⟩:=hl
  simp only[Ty.rH,bQ,Ai]at hs
  have ih:=vj hle hs.2
  have pT:P.cellsOf e'=e.size:=jX.cells hle
  rcases DataW.trod_slice hu h with⟨rfl,_⟩|⟨a,len,cap,elems,rest,n,_,rfl,_,_,Vn,EG,hel,iT,_⟩
  ·refine⟨[],?_,bA _,λi h=>by cases h⟩
   simp only[Rd]
   exact⟨none,0,rfl,aI _,λi h=>by cases h⟩
  ·rw[pT]at iT
   have get: ∀i,i<len→ ∃cs' y,w.cells? 0 (a.add (i*e.size)) e.size=some cs'∧DataW.trod enc P w 0 (λ_=>true) true n e' cs'=some y:=λi hi=>by
    have:=iT i hi
    rw[bo ω]at this
    obtain⟨cs',h1,h2⟩:=qm.1 this
    exact⟨cs',_,h1,h2⟩
   have key: ∀i,i<len→ ∃x:e.den,(a.spot=none∧a.block<w.heap.size∧ ∃cs',At w a.block (a.off+i*e.size) cs'∧Rd w (λ_=>False) e cs' x)∧WF e x:=by
    intro i hi
    obtain⟨cs',y,tq,ht⟩:=get i hi
    obtain⟨h1,h2⟩:=Jk tq
    obtain⟨x,hx,hw⟩:=ih n cs' y ht
    have Tq:a.spot=none∧a.block<w.heap.size:=by
     obtain⟨jB,y0,asu,_⟩:=get 0 ω
     obtain⟨h10,h20⟩:=Jk asu
     have:=h20 0 jB[0] (bo ω)
     simp only[FC,Addr.add,gA,World.cell?]at this
     split at this
     ·rename_i hb
      refine⟨?_,(kP.1 hb).1⟩
      split at this
      ·cases this
      ·rename_i hn;simpa using hn
     ·cases this
    refine⟨x,⟨Tq.1,Tq.2,cs',λj v hj=> ?_,hx⟩,hw⟩
    have:=h2 j v hj
    have he:(a.add (i*e.size)).add j=⟨a.block,a.off+i*e.size+j,none⟩:=by
     obtain⟨ab,ao,asp⟩:=a
     simp only at Tq
     obtain⟨rfl,_⟩:=Tq
     simp only[Addr.add]
     split<;>split<;>simp_all<;>omega
    rw[he]at this
    exact this
   obtain⟨l,hl,hp⟩:=xh len key
   refine⟨l,?_,by rw[hl];omega,λi h=>(hp i h).2⟩
   simp only[Rd]
   refine⟨some a,cap,by rw[hl],by rw[hl];exact Vn,λi h=> ?_⟩
   obtain⟨h1,h2,cs',h3,h4⟩:=(hp i h).1
   refine⟨a.block,a.off,?_,h2,λh=>h,cs',h3,h4⟩
   rw[←h1]
 | .unit,.inl t,hl,_=>by
  intro fuel cs d h
  simp only[fP]at hl
  obtain⟨⟨i,hi,pT,_⟩,fs,hu,h0⟩:=hl
  obtain⟨xs,n,_,_,hc,_⟩:=DataW.trod_struct hu h
  refine⟨(),?_,trivial⟩
  simp only[Rd]
  rw[←Mj,hc]
  simp[Program.cellsOf,hi,pT,Ty.size]
 | .unit,.inr q,hl,_=>by
  intro cs hc _
  refine⟨(),?_,trivial⟩
  simp only[Rd]
  rw[jN (by rw[hc];simp[Ty.size])]
 | .pair a b,.inl t,hl,hs=>by
  intro fuel cs d h
  simp only[fP]at hl
  obtain⟨⟨i,hi,pT,_⟩,fs,f,hu,hf,ho,zg,Qa⟩:=hl
  simp only[Ty.rH,bQ]at hs
  have iha:=vj zg hs.1
  have VI:=vj Qa hs.2
  obtain⟨xs,n,_,_,hc,hxl,hxs⟩:=DataW.trod_struct hu h
  have:=Jl (b:=b) (off:=0) hf ho zg iha (by simp only[fh];exact VI) (cs:=cs) (by rw[hc];simp[Program.cellsOf,hi,pT,Ty.size]) (λf hf=>by
   obtain⟨j,hj,rfl⟩:=qX.1 hf
   rw[ba]at hj
   have:=hxs j fs[j] (by simp[hj])
   rw[bo ω]at this
   exact⟨n,_,by rw[zQ];exact this⟩)
  rw[c9]at this
  exact this
 | .pair a b,.inr (fs,n,off),hl,hs=>by
  intro cs hc iT
  simp only[fP]at hl
  obtain⟨f,hf,ho,zg,Qa⟩:=hl
  simp only[Ty.rH,bQ]at hs
  exact Jl hf ho zg (vj zg hs.1) (vj Qa hs.2) (by simpa [Ty.size]using hc) iT
 | .arr n e,.inl t,hl,hs=>by
  intro fuel cs d h
  simp only[fP]at hl
  obtain⟨⟨i,hi,pT,_⟩,e',hu,hle⟩:=hl
  simp only[Ty.rH]at hs
  have ih:=vj hle hs
  have hse:P.cellsOf e'=e.size:=jX.cells hle
  obtain⟨xs,m,_,_,hc,hxl,hxs⟩:=DataW.trod_array hu h
  have hlen:cs.length=n*e.size:=by rw[hc];simp[Program.cellsOf,hi,pT,Ty.size]
  have key: ∀i,i<n→ ∃x:e.den,Rd w (λ_=>False) e ((cs.drop (i*e.size)).take e.size) x∧WF e x:=λi hi=>by
   have:=hxs i hi
   rw[bo ω,hse]at this
   exact ih m _ _ this
  obtain⟨l,Ky,hp⟩:=xh n key
  refine⟨l,?_,λi h=>(hp i h).2⟩
  simp only[Rd]
  refine⟨Ky,(List.range n).map λi=>(cs.drop (i*e.size)).take e.size,by simp,?_,λi h h'=> ?_⟩
  ·clear hxs h key hp Ky hu
   have: ∀m,m≤n→cs.take (m*e.size)=((List.range m).map λi=>(cs.drop (i*e.size)).take e.size).flatten:=by
    intro m
    induction m with
    |zero=>simp
    |succ m ihm=>
     intro hm
     rw[Fw,dL,List.flatten_append,←ihm ω]
     simp only[bZ,gY,zW,List.flatten_nil,cN]
     rw[dR,kg,List.take_add]
   have h2:=this n (aI _)
   rw[gh ω]at h2
   exact h2
  ·have:=(hp i h).1
   simpa using this
 | .int _,.inr _,h,_| .bool,.inr _,h,_| .str,.inr _,h,_| .slice _,.inr _,h,_| .arr _ _,.inr _,h,_=>by simp[fP]at h
theorem ahB{τ:Ty}{t:TypeId}{r:Reach}{b0:Nat}{v:Value}{d:DataW H}{ps:List MemPlace}(hl:jX P τ t)(hs:τ.rH=true)(hv:Value.okWide P w r b0 t v)(h:DataW.Trod enc P w 0 (λ_=>true) true t v d ps):
  ∃x:τ.den,V w (λ_=>False) τ v x∧WF τ x:=by
 obtain⟨fuel,h⟩:=h
 obtain⟨x,hx,hw⟩:=vj (H:=H) (enc:=enc) (w:=w) hl hs fuel _ _ h
 refine⟨x,?_,hw⟩
 unfold V
 cases τ with
 |int k=>
  obtain⟨n,rfl⟩:=okWide_int hl.int hv
  exact hx
 |bool=>
  obtain⟨n,rfl⟩:=okWide_bool hl.bool hv
  exact hx
 |str=>
  obtain⟨n,rfl⟩:=okWide_string hl.str hv
  exact hx
 |slice e=>
  obtain⟨e',hu,_⟩:=hl.slice
  obtain⟨a,len,cap,rfl⟩:=okWide_slice hu hv
  exact hx
 |unit=>
  simp only[jX,fP]at hl
  obtain⟨_,fs,hu,_⟩:=hl
  simp only[Value.okWide,hu]at hv
  obtain⟨cs,rfl,_⟩:=hv
  exact⟨cs,rfl,hx⟩
 |pair a b=>
  simp only[jX,fP]at hl
  obtain⟨_,fs,f,hu,_⟩:=hl
  simp only[Value.okWide,hu]at hv
  obtain⟨cs,rfl,_⟩:=hv
  exact⟨cs,rfl,hx⟩
 |arr n e=>
  obtain⟨e',hu,_⟩:=hl.arr
  simp only[Value.okWide,hu]at hv
  obtain⟨cs,rfl,_⟩:=hv
  exact⟨cs,rfl,hx⟩
def WFs:(ms:List Ty)→HP (ms.map .v)→Prop
 |[],_=>True
 |_::ms,x=>WF _ (pU x)∧WFs ms (sy x)
def hpC:{m:AM}→{ms:List AM}→m.den→HP ms→HP (m::ms)
 |_,[],x,_=>x
 |_,_::_,x,y=>(x,y)
theorem R6{m:AM}: ∀{ms:List AM} (x:m.den) (y:HP ms),pU (hpC x y)=x
 |[],_,_=>rfl
 |_::_,_,_=>rfl
theorem R7{m:AM}: ∀{ms:List AM} (x:m.den) (y:HP ms),sy (hpC x y)=y
 |[],_,()=>rfl
 |_::_,_,_=>rfl
theorem Jm(laid:laidOutB P=true){r:Reach}{b0:Nat}: ∀{τs:List Ty} {ts:List TypeId} {vs:List Value} {ds:List (DataW H)} {ps:List MemPlace},DataW.TrodAll enc P w 0 (λ_=>true) true ts vs ds ps→
  τs.length=ts.length→(∀(j:Nat) τ t,τs[j]? =some τ→ts[j]? =some t→(jX P τ t∧τ.rH=true∧P.readableRec t=true∧t<P.types.size))→
  (∀(j:Nat) t v,ts[j]? =some t→vs[j]? =some v→Value.okWide P w r b0 t v)→
  (∃x:HP (τs.map .v),jg w (λ_=>False) (τs.map .v) x vs∧WFs τs x)∧ ∀w',Below w.heap.size w w'→ ∃EI,DataW.TrodAll enc P w' 0 (λb=>decide (b<w.heap.size)) true ts vs ds EI
 |[],[],vs,ds,ps,h,_,_,_=>by
  obtain⟨rfl,rfl,rfl⟩:=trodAll_nil h
  exact⟨⟨(),rfl,trivial⟩,λw' _=>⟨[],rfl⟩⟩
 |τ::τs,t::ts,vs,ds,ps,h,hl,xP,hv=>by
  obtain⟨v,LW,d,ds',p,q,rfl,rfl,rfl,h1,h2⟩:=trodAll_cons h
  obtain⟨u9,ahC,hrr,dU⟩:=xP 0 τ t rfl rfl
  obtain⟨x,hx,hwx⟩:=ahB u9 ahC (hv 0 t v rfl rfl) h1
  obtain⟨⟨y,hy,hwy⟩,WD⟩:=Jm laid h2 (by simpa using hl) (λj τ' t' h h'=>xP (j+1) τ' t' (by simpa using h) (by simpa using h')) (λj t' v' h h'=>hv (j+1) t' v' (by simpa using h) (by simpa using h'))
  refine⟨⟨hpC (m:= .v τ) x y,?_,?_⟩,λw' hb=> ?_⟩
  ·show jg w _ (.v τ::τs.map .v) _ _
   simp only[jg]
   exact⟨v,LW,rfl,by rw[R6];exact hx,by rw[R7];exact hy⟩
  ·simp only[WFs]
   exact⟨by rw[R6];exact hwx,by rw[R7];exact hwy⟩
  ·obtain⟨EI,h'⟩:=WD w' hb
   have xb: ∀z∈p,z.block<w.heap.size:=by
    obtain⟨m,hm⟩:=h1
    exact DataW.trod_lt m _ _ _ hm
   exact⟨p++EI,trodAll_cons_mk (Below.trod laid hrr dU h1 hb xb) h'⟩
 |[],_::_,_,_,_,_,hl,_,_|_::_,[],_,_,_,_,hl,_,_=>by simp at hl
end
end VM
end
section
namespace VM
open Go
variable{α:Type}
def AU(L:Nat→Option (List (Nat×CM)))(κ:Nat→St→Option α)(i:Option Nat)(f:St→Option α):St→Option α:=
 match i with
 |none=>f
 |some i=>match L i with
  |none=>f
  |some _=>κ i
def WE(E:Env)(κJ κL:Nat→St→Option α)(c:Code):St→(St→Option α)→(Nat→St→Option α)→(St→Option α)→Option α:=
 Code.rec (motive:=λ_=>St→(St→Option α)→(Nat→St→Option α)→(St→Option α)→Option α)
  (fun σ k _ _=>k σ)
  (λ_ ops draw σ k _ _=>EA E ops draw σ k)
  (λ_ b A B σ k kx kr=>A σ (fun σ'=>w3 ((cI b).bind E.yt) σ' (AU E.yt κJ (cI b) fun σ''=>B σ'' k kx kr)) kx kr)
  (λc _ _ A B σ k kx kr=>I3 E c σ (fun σ'=>A σ' k kx kr) (fun σ'=>B σ' k kx kr))
  (λid _ A σ k kx kr=>A σ k (λi σ'=>cond (Nat.beq i id) (k σ') (kx i σ')) kr)
  (λb _ σ _ kx kr=>w3 ((cI b).bind E.wT) σ (AU E.wT κL (cI b) (CR ((cI b).bind E.wT) (fun σ' kn=>EB E b σ' kn kx kr) E.N)))
  (λ_ _ _ _ _ _ _ _ _ _=>none)
  (λid σ _ kx _=>kx id σ)
  (λ_ A σ k kx kr=>A σ k kx kr)
  (λ_ σ k _ _=>k σ)
  (λ_ _ _ _ _=>none)
  (fun σ _ _ kr=>kr σ)
  (λ_ _ _ _ _=>none)
  c
def Gi(E:Env)(c:Code):(St→Option α)→(Nat→St→Option α)→(St→Option α)→List (Bool×Nat×(St→Option α)):=
 Code.rec (motive:=λ_=>(St→Option α)→(Nat→St→Option α)→(St→Option α)→List (Bool×Nat×(St→Option α)))
  (λ_ _ _=>[])
  (λ_ _ _ _ _ _=>[])
  (λ_ b A B k kx kr=>A (fun σ'=>w3 ((cI b).bind E.yt) σ' fun σ''=>EB E b σ'' k kx kr) kx kr++(((cI b).toList.map λi=>(false,i,fun σ''=>EB E b σ'' k kx kr))++B k kx kr))
  (λ_ _ _ A B k kx kr=>A k kx kr++B k kx kr)
  (λid _ A k kx kr=>A k (λi σ'=>cond (Nat.beq i id) (k σ') (kx i σ')) kr)
  (λb _ _ kx kr=>(cI b).toList.map λi=>(true,i,CR ((cI b).bind E.wT) (fun σ' kn=>EB E b σ' kn kx kr) E.N))
  (λ_ _ _ _ _ _ _ _ _=>[])
  (λ_ _ _ _=>[])
  (λ_ A k kx kr=>A k kx kr)
  (λ_ _ _ _=>[])
  (λ_ _ _ _=>[])
  (λ_ _ _=>[])
  (λ_ _ _ _=>[])
  c
def xi(E:Env)(κJ κL:Nat→St→Option α):List (Bool×Nat×(St→Option α))→List ((St→Option α)×(St→Option α))
 |[]=>[]
 |q::r=>match q.1 with
  |false=>match E.yt q.2.1 with
   |some _=>(κJ q.2.1,q.2.2)::xi E κJ κL r
   |none=>xi E κJ κL r
  |true=>match E.wT q.2.1 with
   |some _=>(κL q.2.1,q.2.2)::xi E κJ κL r
   |none=>xi E κJ κL r
def IC(E:Env)(κJ κL:Nat→St→Option α)(l:List (Bool×Nat×(St→Option α))):Prop:= ∀p∈xi E κJ κL l,p.1=p.2
theorem ahD{E:Env}{κJ κL:Nat→St→Option α}{l:List (Bool×Nat×(St→Option α))}(g:List (St→Option α))(h:xi E κJ κL l=g.map λf=>(f,f)):IC E κJ κL l:=by
 intro p hp
 rw[h]at hp
 obtain⟨f,_,rfl⟩:=cQ.1 hp
 rfl
theorem Dg{E:Env}{κJ κL:Nat→St→Option α}: ∀(l m:List (Bool×Nat×(St→Option α))),xi E κJ κL (l++m)=xi E κJ κL l++xi E κJ κL m
 |[],m=>rfl
 |(b,i,f)::l,m=>by
  have ih:=Dg (E:=E) (κJ:=κJ) (κL:=κL) l m
  cases b<;>simp only[mh,xi]<;>split<;>simp[ih]
theorem IC.app{E:Env}{κJ κL:Nat→St→Option α}{l m:List (Bool×Nat×(St→Option α))}(h:IC E κJ κL (l++m)):IC E κJ κL l∧IC E κJ κL m:=by
 unfold IC at*
 rw[Dg]at h
 exact⟨λp hp=>h p (cA _ hp),λp hp=>h p (cS _ hp)⟩
theorem afM{E:Env}{κJ κL:Nat→St→Option α}{i:Option Nat}{f:St→Option α}(h:IC E κJ κL (i.toList.map λi=>(false,i,f))):AU E.yt κJ i f=f:=by
 cases i with
 |none=>rfl
 |some i=>
  simp only[Option.toList,List.map,IC,xi]at h
  unfold AU
  cases hL:E.yt i with
  |none=>simp[hL]
  |some L=>rw[hL]at h;simp only[hL];exact h (κJ i,f) (cg.2 rfl)
theorem amP{E:Env}{κJ κL:Nat→St→Option α}{i:Option Nat}{f:St→Option α}(h:IC E κJ κL (i.toList.map λi=>(true,i,f))):AU E.wT κL i f=f:=by
 cases i with
 |none=>rfl
 |some i=>
  simp only[Option.toList,List.map,IC,xi]at h
  unfold AU
  cases hL:E.wT i with
  |none=>simp[hL]
  |some L=>rw[hL]at h;simp only[hL];exact h (κL i,f) (cg.2 rfl)
theorem WG{E:Env}{κJ κL:Nat→St→Option α}(c:Code): ∀(k:St→Option α) (kx:Nat→St→Option α) (kr:St→Option α) (σ:St),IC E κJ κL (Gi E c k kx kr)→WE E κJ κL c σ k kx kr=EB E c σ k kx kr:=by
 induction c with
 |skip=>intros;rfl
 |region=>intros;rfl
 |seq a b iha VI=>
  intro k kx kr σ h
  obtain⟨h1,h2⟩:=IC.app (h:IC E κJ κL (Gi E a _ kx kr++(((cI b).toList.map λi=>(false,i,fun σ''=>EB E b σ'' k kx kr))++Gi E b k kx kr)))
  obtain⟨h2,h3⟩:=IC.app h2
  show WE E κJ κL a σ (fun σ'=>w3 ((cI b).bind E.yt) σ' (AU E.yt κJ (cI b) fun σ''=>WE E κJ κL b σ'' k kx kr)) kx kr=EB E a σ (fun σ'=>w3 ((cI b).bind E.yt) σ' fun σ''=>EB E b σ'' k kx kr) kx kr
  have hb:(fun σ''=>WE E κJ κL b σ'' k kx kr)=fun σ''=>EB E b σ'' k kx kr:=funext fun σ''=>VI k kx kr σ'' h3
  rw[hb,afM h2]
  exact iha _ _ _ _ h1
 |cond x a b iha VI=>
  intro k kx kr σ h
  obtain⟨h1,h2⟩:=IC.app (h:IC E κJ κL (Gi E a k kx kr++Gi E b k kx kr))
  show I3 E x σ (fun σ'=>WE E κJ κL a σ' k kx kr) (fun σ'=>WE E κJ κL b σ' k kx kr)=I3 E x σ (fun σ'=>EB E a σ' k kx kr) (fun σ'=>EB E b σ' k kx kr)
  rw[show(fun σ'=>WE E κJ κL a σ' k kx kr)=fun σ'=>EB E a σ' k kx kr from funext fun σ'=>iha k kx kr σ' h1,show(fun σ'=>WE E κJ κL b σ' k kx kr)=fun σ'=>EB E b σ' k kx kr from funext fun σ'=>VI k kx kr σ' h2]
 |block id x ih=>intro k kx kr σ h;exact ih _ _ _ σ h
 |loop b _=>
  intro k kx kr σ h
  show w3 ((cI b).bind E.wT) σ (AU E.wT κL (cI b) (CR ((cI b).bind E.wT) (fun σ' kn=>EB E b σ' kn kx kr) E.N))=w3 ((cI b).bind E.wT) σ (CR ((cI b).bind E.wT) (fun σ' kn=>EB E b σ' kn kx kr) E.N)
  rw[amP (h:IC E κJ κL ((cI b).toList.map λi=>(true,i,_)))]
 |rangeFunc=>intros;rfl
 |exit=>intros;rfl
 |scope x ih=>intro k kx kr σ h;exact ih _ _ _ σ h
 |label=>intros;rfl
 |goto=>intros;rfl
 |ret=>intros;rfl
 |refuse=>intros;rfl
def ob(E:Env)(κJ κL:Nat→St→Option α):List Nat→Code→List (St→Option α)→St→(St→Option α)→(Nat→St→Option α)→(St→Option α)→Option α
 |[],c,_,σ,k,kx,kr=>WE E κJ κL c σ k kx kr
 |n::p,c,ks,σ,k,kx,kr=>match c with
  | .seq a b=>match n with
   |0=>ob E κJ κL p a ks σ (fun σ'=>w3 ((cI b).bind E.yt) σ' (AU E.yt κJ (cI b) fun σ''=>WE E κJ κL b σ'' k kx kr)) kx kr
   |_=>ob E κJ κL p b ks σ k kx kr
  | .cond _ a b=>match n with
   |0=>ob E κJ κL p a ks σ k kx kr
   |_=>ob E κJ κL p b ks σ k kx kr
  | .block id c=>ob E κJ κL p c ks σ k (λi σ'=>cond (Nat.beq i id) (k σ') (kx i σ')) kr
  | .loop b=>match ks with
   |κ::ks=>ob E κJ κL p b ks σ κ kx kr
   |[]=>none
  | .scope c=>ob E κJ κL p c ks σ k kx kr
  |_=>none
def g5(E:Env):List Nat→Code→List (St→Option α)→(St→Option α)→(Nat→St→Option α)→(St→Option α)→List (Bool×Nat×(St→Option α))
 |[],c,_,k,kx,kr=>Gi E c k kx kr
 |n::p,c,ks,k,kx,kr=>match c with
  | .seq a b=>match n with
   |0=>((cI b).toList.map λi=>(false,i,fun σ''=>EB E b σ'' k kx kr))++(Gi E b k kx kr++g5 E p a ks (fun σ'=>w3 ((cI b).bind E.yt) σ' fun σ''=>EB E b σ'' k kx kr) kx kr)
   |_=>g5 E p b ks k kx kr
  | .cond _ a b=>match n with
   |0=>g5 E p a ks k kx kr
   |_=>g5 E p b ks k kx kr
  | .block id c=>g5 E p c ks k (λi σ'=>cond (Nat.beq i id) (k σ') (kx i σ')) kr
  | .loop b=>match ks with
   |κ::ks=>g5 E p b ks κ kx kr
   |[]=>[]
  | .scope c=>g5 E p c ks k kx kr
  |_=>[]
theorem nz{E:Env}{κJ κL:Nat→St→Option α}: ∀(p:List Nat) (c:Code) (ks:List (St→Option α)) (k:St→Option α) (kx:Nat→St→Option α) (kr:St→Option α) (σ:St),IC E κJ κL (g5 E p c ks k kx kr)→
  ob E κJ κL p c ks σ k kx kr=wh E p c ks σ k kx kr
 |[],c,ks,k,kx,kr,σ,h=>WG c k kx kr σ h
 |n::p,c,ks,k,kx,kr,σ,h=>by
  cases c with
  |seq a b=>
   cases n with
   |zero=>
    simp only[ob,wh,g5]at h ⊢
    obtain⟨h1,h2⟩:=IC.app h
    obtain⟨h2,h3⟩:=IC.app h2
    rw[show(fun σ''=>WE E κJ κL b σ'' k kx kr)=fun σ''=>EB E b σ'' k kx kr from funext fun σ''=>WG b k kx kr σ'' h2,afM h1]
    exact nz p a ks _ kx kr σ h3
   |succ n=>simp only[ob,wh,g5]at h ⊢;exact nz p b ks k kx kr σ h
  |cond x a b=>
   cases n with
   |zero=>simp only[ob,wh,g5]at h ⊢;exact nz p a ks k kx kr σ h
   |succ n=>simp only[ob,wh,g5]at h ⊢;exact nz p b ks k kx kr σ h
  |block id x=>simp only[ob,wh,g5]at h ⊢;exact nz p x ks k _ kr σ h
  |loop b=>
   cases ks with
   |nil=>simp only[ob,wh]
   |cons κ ks=>simp only[ob,wh,g5]at h ⊢;exact nz p b ks κ kx kr σ h
  |scope x=>simp only[ob,wh,g5]at h ⊢;exact nz p x ks k kx kr σ h
  |_=>simp only[ob,wh]
def Gj(fn:Func):Code:=fn.body.getD .skip
def Nl(E:Env)(fn:Func)(args res:List AM):St→Option (HP res):=fun σ=>Kj E res (fn.results.toList.map .inl++yw args 0) σ some
def nox:Nat→St→Option α:=λ_ _=>none
def azM:St→Option α:=λ_=>none
def atF(E:Env)(fn:Func)(args res:List AM)(p:List Nat)(ks:List (St→Option (HP res)))(σ:St):Option (HP res):=
 wh E p (Gj fn) ks σ (Nl E fn args res) nox (Nl E fn args res)
def atQ(E:Env)(fn:Func)(args res:List AM)(κJ κL:Nat→St→Option (HP res))(p:List Nat)(ks:List (St→Option (HP res)))(σ:St):Option (HP res):=
 ob E κJ κL p (Gj fn) ks σ (Nl E fn args res) nox (Nl E fn args res)
def Z4(E:Env)(fn:Func)(args res:List AM)(p:List Nat)(ks:List (St→Option (HP res))):List (Bool×Nat×(St→Option (HP res))):=
 g5 E p (Gj fn) ks (Nl E fn args res) nox (Nl E fn args res)
theorem asw{E:Env}{fn:Func}{args res:List AM}{κJ κL:Nat→St→Option (HP res)}{p:List Nat}{ks:List (St→Option (HP res))}(g:List (St→Option (HP res)))(h:xi E κJ κL (Z4 E fn args res p ks)=g.map λf=>(f,f))(σ:St):
 atF E fn args res p ks σ=atQ E fn args res κJ κL p ks σ:=(nz p _ ks _ _ _ σ (ahD g h)).symm
theorem ahF{E:Env}{fn:Func}{args res:List AM}(hb:fn.body.isSome=true)(x:HP args):Kk E fn args res x=atF E fn args res [] [] (entry args x 0 S0):=by
 unfold Kk atF Gj
 cases h:fn.body with
 |none=>rw[h]at hb;cases hb
 |some c=>rfl
def lpF(E:Env)(fn:Func)(args res:List AM)(c:List (Nat×CM))(p:List Nat)(ks:List (St→Option (HP res)))(n:Nat):St→Option (HP res):=
 CR (some c) (fun σ kn=>atF E fn args res p (ks++[kn]) σ) n
theorem WH(E:Env)(fn:Func)(args res:List AM)(c:List (Nat×CM))(p:List Nat)(ks:List (St→Option (HP res)))(n:Nat)(σ:St):
 lpF E fn args res c p ks (n+1) σ=atF E fn args res p (ks++[fun σ'=>w3 (some c) σ' (lpF E fn args res c p ks n)]) σ:=rfl
def WI{β:Type}(κ:Nat→β):List (Nat×β)→Prop
 |[]=>True
 |q::r=>κ q.1=q.2∧WI κ r
def TV{β:Type}:List (β×β)→Prop
 |[]=>True
 |q::r=>q.1=q.2∧TV r
theorem TV.mem{β:Type}: ∀{l:List (β×β)},TV l→ ∀p∈l,p.1=p.2
 |q::r,h,p,hp=>by
  rcases bm.1 hp with rfl|hp
  ·exact h.1
  ·exact TV.mem h.2 p hp
theorem amQ{β:Type}(d:β): ∀(l:List (Nat×β)),(l.map (·.1)).Nodup→ ∃κ:Nat→β,WI κ l
 |[],_=>⟨λ_=>d,trivial⟩
 |q::r,h=>by
  rw[bZ,wJ]at h
  obtain⟨κ,hκ⟩:=amQ d r h.2
  refine⟨λi=>if i=q.1 then q.2 else κ i,by simp,?_⟩
  have key: ∀(r':List (Nat×β)),(∀p∈r',p∈r)→WI κ r'→WI (λi=>if i=q.1 then q.2 else κ i) r':=by
   intro r'
   induction r' with
   |nil=>intros;trivial
   |cons p r' ih=>
    intro hm ha
    refine⟨?_,ih (λp' H4=>hm p' (a6 _ H4)) ha.2⟩
    have ij:p.1≠q.1:=λe=>h.1 (e▸gi (hm p (bu ..)))
    show(if p.1=q.1 then q.2 else κ p.1)=p.2
    rw[ah ij]
    exact ha.1
  exact key r (λ_ h=>h) hκ
theorem axf{β:Type}(d:β)(l:List (Nat×β)){ks:List Nat}(h:l.map (·.1)=ks)(hd:ks.Nodup): ∃κ:Nat→β,WI κ l:=amQ d l (h▸hd)
theorem at_eq(E:Env)(fn:Func)(args res:List AM){κJ κL:Nat→St→Option (HP res)}{p:List Nat}{ks:List (St→Option (HP res))}{l:List ((St→Option (HP res))×(St→Option (HP res)))}(h:xi E κJ κL (Z4 E fn args res p ks)=l)(hl:TV l)(σ:St):
 atF E fn args res p ks σ=atQ E fn args res κJ κL p ks σ:=(nz p _ ks _ _ _ σ (by unfold IC;rw[show xi E κJ κL (g5 E p (Gj fn) ks (Nl E fn args res) nox (Nl E fn args res))=l from h];exact hl.mem)).symm
end VM
end
section
namespace VM
open Go Go.RowKit
variable{P:Program}
def Nm(i:Nat):List (Nat×Ty)→Option Ty
 |[]=>none
 |q::r=>cond (Nat.beq i q.1) (some q.2) (Nm i r)
theorem Jn{i:Nat}{τ:Ty}: ∀{l:List (Nat×Ty)},Nm i l=some τ→(i,τ)∈l
 |q::r,h=>by
  unfold Nm at h
  cases hb:Nat.beq i q.1<;>rw[hb]at h
  ·exact a6 _ (Jn h)
  ·cases h;rw[eK hb];exact bu ..
structure Gk(P:Program)(tab:List (Nat×Ty)):Prop where
 ok:amL P tab=true
 mixed:P.follows .mixedOrders=true
theorem TW{E:Env}(hE:p8 P E)(ahG:E.io=[]){f:FuncId}{fn:Func}(hf:P.funcs[f]? =some fn)(τs:List Ty)
  (hc:(Nat.beq E.nt fn.ntmps&&Nat.ble τs.length E.nt)=true) {w:World} {vs:List Value} {x:HP (τs.map .v)} (hA:jg w (λ_=>False) (τs.map .v) x vs)
  (h:Kk E fn (τs.map .v) [.v .bool] x=some true):Calls P f vs.toArray w λe w'=>e= .returned (.bool true)∧Below w.heap.size w w':=by
 rw[bQ]at hc
 have Z1:=eK hc.1
 have hlen:=zP hc.2
 have hh: ∀(τs:List Ty) (vs:List Value),dB (τs.map .v) vs=[]:=by
  intro τs
  induction τs with
  |nil=>intro vs;cases vs<;>rfl
  |cons τ τs ih=>intro vs;cases vs with
   |nil=>rfl
   |cons v vs=>simp[dB,cV,ih]
 have hi: ∀(τs:List Ty) (vs:List Value),fb (τs.map .v) vs=[]:=by
  intro τs
  induction τs with
  |nil=>intro vs;cases vs<;>rfl
  |cons τ τs ih=>intro vs;cases vs with
   |nil=>rfl
   |cons v vs=>simp[fb,AM.iD,ih]
 refine(B3 (M0:=λ_=>False) (vs:=vs) hE hf Z1 (λi m hm ug=> ?_) (λi hi=>by rw[ahG]at hi;cases hi) (by rw[fE];rw[←Z1];exact hlen) (λb hb=>hb.elim) (by rw[hh];simpa using hA) (by rw[hh];exact Fy) (λb _ hb=>hb) h).mono ?_
 ·rw[q3]at hm
  obtain⟨τ,_,rfl⟩:=zN.1 hm
  cases ug
 ·rintro e w' ⟨v,rfl,us,M',rfl,MX,hL,_,_⟩
  rw[hh]at hL
  rw[hi]at MX
  simp only[RR]at MX
  rcases MX with⟨p,EI,h1,_⟩|⟨v,LW,_,_,rfl,hv,rfl,_⟩
  ·cases h1
  ·refine⟨?_,hL.os,hL.tape,hL.output,hL.size,λb hb=>hL.frame b hb (by simp)⟩
   have:v= .bool true:=by
    simp only[A1,V,Ty.isAgg,gW,eo,Rd,eN,eA]at hv
    exact hv
   rw[this];rfl
def WJ(P:Program):List Ty→List TypeId→Bool
 |[],[]=>true
 |τ::τs,t::ts=>(ui P τ (.inl t)&&τ.rH)&&((P.readableRec t&&decide (t<P.types.size))&&WJ P τs ts)
 |_,_=>false
theorem KG: ∀{τs:List Ty} {ts:List TypeId},WJ P τs ts=true→τs.length=ts.length∧ ∀(j:Nat) τ t,τs[j]? =some τ→ts[j]? =some t→(jX P τ t∧τ.rH=true∧P.readableRec t=true∧t<P.types.size)
 |[],[],_=>⟨rfl,λj τ t h=>by simp at h⟩
 |τ::τs,t::ts,h=>by
  simp only[WJ,bQ]at h
  obtain⟨⟨h1,h2⟩,⟨h3,h4⟩,h5⟩:=h
  obtain⟨hl,ih⟩:=KG h5
  refine⟨by simp[hl],λj τ' t' ha hb=> ?_⟩
  cases j with
  |zero=>
   simp only[Fc,eL]at ha hb
   subst ha;subst hb
   exact⟨ny h1,h2,h3,bl h4⟩
  |succ j=>exact ih j τ' t' (by simpa using ha) (by simpa using hb)
 |[],_::_,h|_::_,[],h=>by simp[WJ]at h
theorem WK{H:Type}{enc:TypeId×Value→H}{w:World}{fn:Func}{args:Array Value}{ds:List (DataW H)}{ps:List MemPlace}{r:Reach}{b0:Nat}(laid:laidOutB P=true)(τs:List Ty)
  (hA:DataW.TrodAll enc P w 0 (λ_=>true) true fn.params.toList args.toList ds ps) (xP:WJ P τs fn.params.toList=true)
  (hv: ∀(j:Nat) t v,fn.params[j]? =some t→args[j]? =some v→Value.okWide P w r b0 t v):
  (∃x:HP (τs.map .v),jg w (λ_=>False) (τs.map .v) x args.toList∧WFs τs x)∧ ∀w',Below w.heap.size w w'→ ∃EI,DataW.TrodAll enc P w' 0 (λb=>decide (b<w.heap.size)) true fn.params.toList args.toList ds EI:=
 Jm laid hA (KG xP).1 (KG xP).2 (λj t v h h'=>hv j t v (by rw[fR]at h;exact h) (by rw[fR]at h';exact h'))
end VM
end
