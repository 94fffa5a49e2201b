/- A part of the proof of BookTwo of layer 18: a machine that reads a function of the program as an equation between values. -/
import Derived.Test.YtecmobijochjkaaGreatVm6
import Derived.Laws.StructEq
import Derived.OpenShut
import Derived.ChangeShapes
import Derived.ChangeMaps5
import Derived.RowKit
import Derived.ChangeOld
import Derived.Carry
import Derived.Below
import Derived.Test.YtecmobijochjkaaGreatVm0
set_option linter.all false
open List renaming length→ℓ
noncomputable section
section
namespace VM
open Go
variable{P:Program}{E:Env}{o:Oper}{a:Act}{w:World}{M:Nat→Prop}{ν:Nat→Value}{σ:St}{c:Ctx}{α:Type}{r:α}{next:Act→World→Prop}{Q:Exit→Act→World→Prop}
theorem Sl{m:AM}{ms:List AM}(x:HP (m::ms))(i:Nat)(σ:St):entry (m::ms) x i σ=entry ms (uk x) (i+1) (R6 m (q3 x) i σ):=by
 cases ms with
 |nil=>simp[entry,q3]
 |cons n ms=>simp[entry,q3,uk]
theorem Core.xM{tm:Array Value}(h:Core c σ tm w M ν){id:Nat}{v:Value}{e:br}(bg:σ.H id=none)(Vr:ER w M v e)
  (hd: ∀b,fv v=some b→ ∀i e',σ.H i=some e'→e'.mut→fv (ν i)≠some b) (hn: ∀b,fv v=some b→c.B≤b∨c.may b) (ho: ∀b e0 l0,e= .own e0 l0→fv v=some b→ ¬c.M0 b)
  (qP: ∀τ x p j,e= .gk τ x p j→cn σ.H id (some e) j≠none∧ ∃b,v= .pointer (some ⟨b,0,none⟩)∧w.cell? ⟨b,cI p τ,none⟩=some (updν ν id v j):=by intro _ _ _ _ h;cases h):
  Core c ⟨σ.T,cn σ.H id (some e)⟩ tm w M (updν ν id v):=by
 have hm:=Mem.xM h.mem (id:=id) (v:=v) (e:=e) (λe' uw=>by rw[bg]at uw;cases uw) Vr hd hn ho (.inl bg) qP
 refine h.tr ⟨hm,.refl w M,⟨λi e1 hi=> ?_,λi hi=> ?_⟩⟩
 ·have ca:i≠id:=λe=>by rw[e,bg]at hi;cases hi
  exact⟨e1,by rw[az _ _ ca];exact hi,.refl e1⟩
 ·have ca:i≠id:=λe=>hi (e▸bg)
  simp[updν,ca]
theorem Core.put{tm:Array Value}(h:Core c σ tm w M ν){d:Nat}{x:bA}(hx:VR w M σ.H ν x (tm.getD d undef)):Core c (σ.put d x) tm w M ν:=by
 refine⟨h.mem,λi=> ?_⟩
 by_cases hi:i=d
 ·subst hi;rw[vC];exact hx
 ·rw[Bt _ _ hi];exact h.tmp i
theorem D2{tm:Array Value}: ∀{ms:List AM} {x:HP ms} {vs:List Value} {i:Nat} {σ:St} {ν:Nat→Value} {used:List Nat},Core c σ tm w M ν→kC w M ms x vs→(∀j v,vs[j]? =some v→tm.getD (i+j) undef=v)→
  (∀j,16*i≤j→σ.H j=none)→(∀j e b,σ.H j=some e→e.mut→fv (ν j)=some b→b∈used)→(used++eD ms vs).Nodup→(∀b∈eD ms vs,c.may b)→(∀b,c.may b→ ¬c.M0 b)→
  ∃ν',Core c (entry ms x i σ) tm w M ν'
 |[],x,vs,i,σ,ν,used,h,_,_,_,_,_,_,_=>⟨ν,h⟩
 |m::ms,x,vs,i,σ,ν,used,h,hA,Ow,jv,GZ,wU,Sm,Gq=>by
  rw[Sl]
  simp only[kC]at hA
  obtain⟨v,Nk,rfl,h1,h2⟩:=hA
  have hv:tm.getD i undef=v:=by simpa using Ow 0 v rfl
  have Jp: ∀j u,Nk[j]? =some u→tm.getD (i+1+j) undef=u:=λj u hj=>by
   have:=Ow (j+1) u (by simpa using hj)
   rwa [show i+(j+1)=i+1+j from by omega]at this
  have bg:σ.H (16*i+15)=none:=jv _ ω
  have akG:eD (m::ms) (v::Nk)=dw m v++eD ms Nk:=rfl
  rw[akG]at wU Sm
  have o5: ∀b,b∈dw m v→ ∀j e',σ.H j=some e'→e'.mut→fv (ν j)≠some b:=λb hb j e' hj jt eX=>
   kk wU (GZ j e' b hj jt eX) (cU _ hb)
  have wF: ∀{σ':St} {ν':Nat→Value},Core c σ' tm w M ν'→(∀j,16*(i+1)≤j→σ'.H j=none)→(∀j e b,σ'.H j=some e→e.mut→fv (ν' j)=some b→b∈used++dw m v)→ ∃ν'',Core c (entry ms (uk x) (i+1) σ') tm w M ν'':=
   λh' zQ VC=>D2 h' h2 Jp zQ VC (by rw[bE];exact wU) (λb hb=>Sm b (dB _ hb)) Gq
  have On: ∀(e:br) (v':Value),v'=v→(∀b,fv v=some b→b∈dw m v)→(∀j,16*(i+1)≤j→cn σ.H (16*i+15) (some e) j=none)∧
    (∀j e1 b,cn σ.H (16*i+15) (some e) j=some e1→e1.mut→fv (updν ν (16*i+15) v' j)=some b→b∈used++dw m v):=by
   rintro e v' rfl hb
   refine⟨λj hj=>by rw[az _ _ ω];exact jv j ω,λj e1 b hj jt eX=> ?_⟩
   by_cases Ab:j=16*i+15
   ·subst Ab
    simp only[updν,g9]at eX
    exact dB _ (hb b eX)
   ·rw[az _ _ Ab]at hj
    simp only[updν,Ab,fC]at eX
    exact cU _ (GZ j e1 b hj jt eX)
  cases m with
  |v τ=>
   refine wF (σ':=σ.put i (.val τ (q3 x))) (h.put ?_) (λj hj=>jv j ω) (λj e b hj jt eX=>cU _ (GZ j e b hj jt eX))
   simp only[VR,hv];exact h1
  |fn f τ=>
   refine wF (σ':=σ.put i (.NM f (qO τ (q3 x)))) (h.put ?_) (λj hj=>jv j ω) (λj e b hj jt eX=>cU _ (GZ j e b hj jt eX))
   rw[hv]
   simp only[A1,VR]at h1 ⊢
   obtain⟨us,hu,RT⟩:=h1
   exact⟨us,hu,jO.free RT⟩
  |own e=>
   have xC: ∀b,fv v=some b→b∈dw (.own e) v:=λb hb=>by simp[dw,hb]
   have hc:=h.xM bg (v:=v) (e:= .own e (q3 x)) h1 (λb hb=>o5 b (xC b hb)) (λb hb=> .inr (Sm b (cU _ (xC b hb)))) (λb _ _ _ hb=>Gq b (Sm b (cU _ (xC b hb))))
   obtain⟨zQ,VC⟩:=On (.own e (q3 x)) v rfl xC
   refine wF (σ':=(σ.put i (.ref (16*i+15))).kp (16*i+15) (some (.own e (q3 x)))) (ν':=updν ν (16*i+15) v) (hc.put (d:=i) (x:= .ref (16*i+15)) ?_) zQ VC
   simp only[VR,hv]
   exact⟨by rw[ay];simp,by simp[updν]⟩
  |lo e=>
   have xC: ∀b,fv v=some b→b∈dw (.lo e) v:=λb hb=>by simp[dw,hb]
   have hc:=h.xM bg (v:=v) (e:= .own e (q3 x)) h1 (λb hb=>o5 b (xC b hb)) (λb hb=> .inr (Sm b (cU _ (xC b hb)))) (λb _ _ _ hb=>Gq b (Sm b (cU _ (xC b hb))))
   obtain⟨zQ,VC⟩:=On (.own e (q3 x)) v rfl xC
   refine wF (σ':=(σ.put i (.ref (16*i+15))).kp (16*i+15) (some (.own e (q3 x)))) (ν':=updν ν (16*i+15) v) (hc.put (d:=i) (x:= .ref (16*i+15)) ?_) zQ VC
   simp only[VR,hv]
   exact⟨by rw[ay];simp,by simp[updν]⟩
  |io τ=>
   have xC: ∀b,fv v=some b→b∈dw (.io τ) v:=λb hb=>by simp[dw,hb]
   have hc:=h.xM bg (v:=v) (e:= .obj τ (q3 x)) h1 (λb hb=>o5 b (xC b hb)) (λb hb=> .inr (Sm b (cU _ (xC b hb)))) (λb _ _ he=>by cases he)
   obtain⟨zQ,VC⟩:=On (.obj τ (q3 x)) v rfl xC
   refine wF (σ':=(σ.put i (.jE (16*i+15) [])).kp (16*i+15) (some (.obj τ (q3 x)))) (ν':=updν ν (16*i+15) v) (hc.put (d:=i) (x:= .jE (16*i+15) []) ?_) zQ VC
   simp only[A1,ER]at h1
   obtain⟨b,cs,t,Ys,_⟩:=h1
   simp only[VR,hv]
   exact⟨_,ay _ _ _,trivial,b,by simp[updν,Ys],Ys⟩
  |jE τ=>
   refine wF (σ':=σ.put i (.se τ (q3 x))) (h.put ?_) (λj hj=>jv j ω) (λj e b hj jt eX=>cU _ (GZ j e b hj jt eX))
   rw[hv]
   simp only[A1,VR]at h1 ⊢
   exact h1
  |ptr τ=>
   refine wF (σ':=σ) h (λj hj=>jv j ω) (λj e b hj jt eX=>cU _ (GZ j e b hj jt eX))
  |sp τ n e=>
   refine wF (σ':=σ) h (λj hj=>jv j ω) (λj e b hj jt eX=>cU _ (GZ j e b hj jt eX))
def vG(tm:Array Value):ResultVar→Sem Value
 | .tmp t=>pure (tm.getD t undef)
 | .cell x t=>do loadVar t (←asAddr (tm.getD x undef))
def CJ(P:Program)(tm:Array Value)(w:World)(rv:ResultVar)(u:Value):Prop:=(vG tm rv).run P w= .ok u w
def J3(P:Program)(tm:Array Value)(w:World):List (ResultVar ⊕ Nat)→List Value→List Value→Prop
 |[],us,ps=>us=[]∧ps=[]
 | .inl rv::rs,us,ps=> ∃u EU,us=u::EU∧CJ P tm w rv u∧J3 P tm w rs EU ps
 | .inr i::rs,us,ps=> ∃p I4,ps=p::I4∧p=tm.getD i undef∧J3 P tm w rs us I4
theorem Core.acB{tm:Array Value}{H1:Nat→Option br}{M1:Nat→Prop}(h: ∀i,VR w M σ.H ν (σ.T i) (tm.getD i undef))(k:fI w M w M1)(g:uh σ.H ν H1 ν): ∀i,VR w M1 H1 ν (σ.T i) (tm.getD i undef):=
 λi=>VR.cg k g (h i)
theorem D3(hE:EnvTy P E){tm:Array Value}{H0 Hq:Nat→Option br}{M1:Nat→Prop}{uo uf:jF}{io:List (Nat×AM)}{hs:List Nat}(h:kD c w M ν H0 σ.H Hq M1 uo uf io hs)(ht: ∀i,VR w M1 σ.H ν (σ.T i) (tm.getD i undef))
  {m:AM} {rs:ResultVar ⊕ Nat} {k:m.den→St→Option α} (hk:JV E m rs σ k=some r):
  ∃y σ' Nd Nf IY XQ M2 u,k y σ'=some r∧σ'.T=σ.T∧kD c w M ν H0 σ'.H XQ M2 Nd Nf IY (hs++dw m u)∧fI w M1 w M2∧uh σ.H ν σ'.H ν∧A1 w M2 m y u∧
   ((m.iS=false∧m.acj=false∧ ∃rv,rs= .inl rv∧CJ P tm w rv u)∨(m.iS=true∧ ∃i,rs= .inr i∧u=tm.getD i undef)):=by
 unfold JV at hk
 split at hk
 ·
  rename_i τ t k
  obtain⟨y,rd,ups,hk,hy⟩:=Fw h.mem (ht t) hk
  have Sn:CJ P tm w (.tmp t) (tm.getD t undef):=by simp[CJ,vG]
  rcases hy with⟨rfl,hV⟩|⟨id,e,l,rfl,bg,hV⟩
  ·exact⟨y,σ,uo,uf,io,Hq,M1,_,hk,rfl,by simpa [dw]using h,.refl w M1,.refl _ ν,hV,.inl ⟨rfl,rfl,_,rfl,Sn⟩⟩
  ·obtain⟨M2,hA,hK,Lv⟩:=h.freeze bg
   exact⟨y,_,uo,_,io,Hq,M2,_,hk,rfl,(by simp only[dw,cw];exact hA),hK,.upd bg ⟨rfl,rfl⟩,hV M2 Lv,.inl ⟨rfl,rfl,_,rfl,Sn⟩⟩
 ·
  rename_i τ x t k
  split at hk
  ·rename_i τ' DQ
   obtain⟨e1,T7⟩:=dX hk
   clear hk
   subst e1
   obtain⟨υ,z,rd,hk,b,off,cs,hv,pE,kB⟩:=DP h.mem (ht x) T7
   obtain⟨e2,VH⟩:=bx hk
   subst e2
   refine⟨_,σ,uo,uf,io,Hq,M1,ck _ cs,VH,rfl,by simpa [dw]using h,.refl w M1,.refl _ ν,V.ck kB,.inl ⟨rfl,rfl,_,rfl,?_⟩⟩
   simp only[CJ,vG,hv]
   simp[asAddr,DN (hE.ty t _ DQ) pE kB]
  ·cases hk
 ·
  rename_i e t k
  have hv:=ht t
  have Sn:CJ P tm w (.tmp t) (tm.getD t undef):=by simp[CJ,vG]
  split at hk
  ·rename_i hT
   rw[hT]at hv
   obtain⟨ad,hv⟩:=VR.emp.1 hv
   have hb:fv (.slice ad 0 0)=none:=by cases ad<;>simp[fv]
   exact⟨[],σ,uo,uf,io,Hq,M1,_,hk,rfl,by rw[hv];simpa [dw,hb]using h,.refl w M1,.refl _ ν,by rw[hv];simp only[A1,ER];exact .inl ⟨trivial,ad,rfl⟩,.inl ⟨rfl,rfl,_,rfl,Sn⟩⟩
  ·rename_i id hT
   rw[hT]at hv
   simp only[VR]at hv
   split at hk
   ·rename_i e' l bg
    obtain⟨e1,hk⟩:=bx hk
    cases e1
    refine⟨_,_,_,uf,io,_,M1,ν id,hk,rfl,(by simp only[dw];exact h.hand bg),.refl w M1,.upd bg (br.kj _),h.mem.jY id _ bg,.inl ⟨rfl,rfl,_,rfl,by rw[←hv.2];exact Sn⟩⟩
   ·cases hk
  ·cases hk
 ·
  rename_i τ i k
  have hv:=ht i
  split at hk
  ·rename_i id hT
   rw[hT]at hv
   split at hk
   ·rename_i υ z bg
    obtain⟨e1,hk⟩:=bx hk
    subst e1
    simp only[VR]at hv
    obtain⟨e,he,lO⟩:=hv
    rw[bg]at he;cases he
    simp only[AR]at lO
    obtain⟨_,b,hb,hv⟩:=lO
    have Ys:tm.getD i undef=ν id:=by rw[hv,hb];rfl
    refine⟨_,_,uo,uf,_,_,M1,ν id,hk,rfl,(by simp only[dw];exact h.akr bg),.refl w M1,.upd bg (br.kj _),h.mem.jY id _ bg,.inr ⟨rfl,i,rfl,Ys.symm⟩⟩
   ·cases hk
  ·cases hk
 ·
  rename_i e i k
  have hv:=ht i
  split at hk
  ·rename_i id hT
   rw[hT]at hv
   simp only[VR]at hv
   split at hk
   ·rename_i e' l bg
    obtain⟨e1,hk⟩:=bx hk
    cases e1
    refine⟨_,_,uo,uf,_,_,M1,ν id,hk,rfl,(by simp only[dw];exact h.aiY bg),.refl w M1,.upd bg (br.kj _),h.mem.jY id _ bg,.inr ⟨rfl,i,rfl,hv.2.symm⟩⟩
   ·cases hk
  ·cases hk
 ·
  rename_i τ t k
  have hv:=ht t
  have Sn:CJ P tm w (.tmp t) (tm.getD t undef):=by simp[CJ,vG]
  split at hk
  ·rename_i id hT
   rw[hT]at hv
   split at hk
   ·rename_i υ z bg
    obtain⟨e1,hk⟩:=bx hk
    subst e1
    simp only[VR]at hv
    obtain⟨e,he,lO⟩:=hv
    rw[bg]at he;cases he
    simp only[AR]at lO
    obtain⟨_,b,hb,hv⟩:=lO
    have Ys:tm.getD t undef=ν id:=by rw[hv,hb];rfl
    refine⟨_,_,uo,uf,_,_,M1,ν id,hk,rfl,(by simp only[dw];exact h.akr bg),.refl w M1,.upd bg (br.kj _),h.mem.jY id _ bg,.inl ⟨rfl,rfl,_,rfl,by rw[←Ys];exact Sn⟩⟩
   ·cases hk
  ·cases hk
 ·
  rename_i τ n e x t k
  split at hk
  ·rename_i τ' id DQ hT
   obtain⟨e1,T7⟩:=dX hk
   clear hk
   subst e1
   have hv:=ht x
   rw[hT]at hv
   split at T7
   ·rename_i υ z q j bg
    obtain⟨hpq,VH⟩:=cB T7
    clear T7
    have:=zS hpq
    subst this
    obtain⟨e2,hk3⟩:=bx VH
    clear VH
    subst e2
    split at hk3
    ·rename_i e' l hj
     obtain⟨e3,hk4⟩:=bx hk3
     clear hk3
     cases e3
     obtain⟨y,hk5,so,_⟩:=Gx hk4
     clear hk4
     obtain⟨b,cs,te,kb,e0,hb,hg,hM,hr,uj,h1,hq,eU,hj0⟩:=h.mem.linked bg
     simp only[VR]at hv
     obtain⟨e1,Gz,lO⟩:=hv
     rw[bg]at Gz;cases Gz
     simp only[AR]at lO
     obtain⟨hi,b',eX,hu⟩:=lO
     rw[hb]at eX;cases eX
     have hl:cs.toList.length=υ.size:=by rw[uj,eI (by simp only[aK];omega),hr.length]
     have apI:cs.toList=eM kb (gA υ n) [ν j]:=by simpa [cI]using uj
     have pE:At w b 0 cs.toList:=by
      have:=At.of_block hg 0 cs.toList.length
      rw[cQ,ij]at this
      exact this
     have hh:=yR (w:=w) (M:=M1) (e:=e) (rF hq) hr apI
     have hA:=h.hand hj
     rw[←hh.1]at hA
     refine⟨y,_,_,_,_,_,M1,.agg cs,hk5,rfl,hA,.refl w M1,.upd hj (br.kj _),?_,.inl ⟨rfl,rfl,_,rfl,?_⟩⟩
     ·simp only[A1]
      exact⟨cs,kb,ν j,l,z,rfl,rF hq,hr,apI,h.mem.jY j _ hj,so⟩
     ·simp only[CJ,vG,hu]
      simp[asAddr]
      exact DO (P:=P) (hE.ty t _ DQ) (GA (rF hq)) pE hl
    ·cases hk3
   ·cases T7
  ·cases hk
 ·cases hk
theorem G0(hE:EnvTy P E){tm:Array Value}{H0:Nat→Option br}: ∀{ms:List AM} {rs:List (ResultVar ⊕ Nat)} {σ:St} {Hq:Nat→Option br} {M1:Nat→Prop} {uo uf:jF} {io:List (Nat×AM)} {hs:List Nat} {K:HP ms→Option α},
  kD c w M ν H0 σ.H Hq M1 uo uf io hs→(∀i,VR w M1 σ.H ν (σ.T i) (tm.getD i undef))→Lp E ms rs σ K=some r→
  ∃y us ps H2 Nd Nf IY XQ M2,K y=some r∧kD c w M ν H0 H2 XQ M2 Nd Nf IY (hs++bI ms us ps)∧fI w M1 w M2∧RR w M2 ms y us ps∧J3 P tm w rs us ps
 |[],[],σ,Hq,M1,uo,uf,io,hs,K,h,ht,hk=>⟨(),[],[],σ.H,uo,uf,io,Hq,M1,hk,by simpa [bI]using h,.refl w M1,⟨rfl,rfl⟩,⟨rfl,rfl⟩⟩
 |[m],[q],σ,Hq,M1,uo,uf,io,hs,K,h,ht,hk0=>by
  obtain⟨y,σ',Nd,Nf,IY,XQ,M2,u,hk,hT,hA,hK,hG,hy,hu⟩:=D3 hE h ht (hk0:JV E m q σ _=some r)
  clear hk0
  rcases hu with⟨h1,h2,rv,rfl,hv⟩|⟨h1,i,rfl,hv⟩
  ·refine⟨y,[u],[],_,_,_,_,_,M2,hk,by simpa [bI,h1]using hA,hK,?_,?_⟩
   ·simp only[RR];exact .inr ⟨u,[],h1,h2,rfl,hy,by simp⟩
   ·simp only[J3];exact⟨u,[],rfl,hv,by simp⟩
  ·refine⟨y,[],[u],_,_,_,_,_,M2,hk,by simpa [bI,h1]using hA,hK,?_,?_⟩
   ·simp only[RR];exact .inl ⟨u,[],h1,rfl,hy,by simp⟩
   ·simp only[J3];exact⟨u,[],rfl,hv,by simp⟩
 |m::n::ms,q::rs,σ,Hq,M1,uo,uf,io,hs,K,h,ht,hk0=>by
  obtain⟨y,σ',Nd,Nf,IY,XQ,M2,u,T7,hT,hA,hK,hG,hy,hu⟩:=D3 hE h ht (hk0:JV E m q σ _=some r)
  obtain⟨ys,us,ps,H3,uo3,uf3,io3,Hq3,M3,hk,hA3,hK3,hys,hrs⟩:=G0 (ms:=n::ms) hE hA (λi=>by rw[hT];exact Core.acB ht hK hG i) T7
  have J1:A1 w M3 m y u:=A1.xL hK3 (λb hb=>⟨rfl,hA3.hM b (cU _ (dB _ hb))⟩) hy
  clear hk0
  rcases hu with⟨h1,h2,rv,rfl,hv⟩|⟨h1,i,rfl,hv⟩
  ·refine⟨(y,ys),u::us,ps,H3,uo3,uf3,io3,Hq3,M3,hk,?_,hK.trans hK3,?_,?_⟩
   ·have:bI (m::n::ms) (u::us) ps=dw m u++bI (n::ms) us ps:=by rw[bI];simp[h1]
    rw[this,←bE];exact hA3
   ·rw[RR];exact .inr ⟨u,us,h1,h2,rfl,J1,hys⟩
   ·simp only[J3];exact⟨u,us,rfl,hv,hrs⟩
  ·refine⟨(y,ys),us,u::ps,H3,uo3,uf3,io3,Hq3,M3,hk,?_,hK.trans hK3,?_,?_⟩
   ·have:bI (m::n::ms) us (u::ps)=dw m u++bI (n::ms) us ps:=by rw[bI];simp[h1]
    rw[this,←bE];exact hA3
   ·rw[RR];exact .inl ⟨u,ps,h1,rfl,J1,hys⟩
   ·simp only[J3];exact⟨u,ps,rfl,hv,hrs⟩
 |[],_::_,_,_,_,_,_,_,_,_,_,_,hk=>by simp[Lp]at hk
 |[_],[],_,_,_,_,_,_,_,_,_,_,hk=>by simp[Lp]at hk
 |[_],_::_::_,_,_,_,_,_,_,_,_,_,_,hk=>by simp[Lp]at hk
 |_::_::_,[],_,_,_,_,_,_,_,_,_,_,hk=>by simp[Lp]at hk
end VM
end
section
namespace VM
open Go
variable{P:Program}{E:Env}{o:Oper}{a:Act}{w:World}{M:Nat→Prop}{ν:Nat→Value}{σ:St}{c:Ctx}{α:Type}{r:α}{next:Act→World→Prop}{Q:Exit→Act→World→Prop}
theorem J4{tm:Array Value}: ∀{rv:List ResultVar} {is:List (ResultVar ⊕ Nat)} {us ps:List Value},J3 P tm w (rv.map .inl++is) us ps→
  ∃us1 us2,us=us1++us2∧us1.length=rv.length∧(∀i (h:i<rv.length) (h':i<us1.length),CJ P tm w rv[i] us1[i])∧J3 P tm w is us2 ps
 |[],is,us,ps,h=>⟨[],us,rfl,rfl,λi h=>by simp at h,h⟩
 |rv::rvs,is,us,ps,h=>by
  simp only[bQ,mV,J3]at h
  obtain⟨u,EU,rfl,h1,h2⟩:=h
  obtain⟨us1,us2,rfl,hl,h3,h4⟩:=J4 h2
  refine⟨u::us1,us2,rfl,by simp[hl],λi hi nZ=> ?_,h4⟩
  cases i with
  |zero=>exact h1
  |succ i=>exact h3 i (by simpa using hi) (by simpa using nZ)
theorem vH{tm:Array Value}: ∀{ms:List AM} {vs:List Value} {i:Nat} {us ps:List Value},vs.length=ms.length→(∀j v m,vs[j]? =some v→ms[j]? =some m→m.iS=true→tm.getD (i+j) undef=v)→J3 P tm w (zn ms i) us ps→us=[]∧ps=fL ms vs
 |[],vs,i,us,ps,_,_,h=>by simp only[zn,J3]at h;simpa [fL]using h
 |m::ms,[],_,_,_,hl,_,_=>by simp at hl
 |m::ms,v::vs,i,us,ps,hl,Ow,h=>by
  have Jp: ∀j u m,vs[j]? =some u→ms[j]? =some m→m.iS=true→tm.getD (i+1+j) undef=u:=λj u m hj hm wG=>by
   have:=Ow (j+1) u m (by simpa using hj) (by simpa using hm) wG
   rwa [show i+(j+1)=i+1+j from by omega]at this
  have IZ:vs.length=ms.length:=by simpa using hl
  cases m with
  |io τ=>
   simp only[zn,J3]at h
   obtain⟨p,I4,rfl,hp,h⟩:=h
   obtain⟨h1,h2⟩:=vH IZ Jp h
   refine⟨h1,?_⟩
   have:=Ow 0 v (.io τ) rfl rfl rfl
   simp only[mz]at this
   simp[fL,AM.iS,h2,hp,this]
  |lo e=>
   simp only[zn,J3]at h
   obtain⟨p,I4,rfl,hp,h⟩:=h
   obtain⟨h1,h2⟩:=vH IZ Jp h
   refine⟨h1,?_⟩
   have:=Ow 0 v (.lo e) rfl rfl rfl
   simp only[mz]at this
   simp[fL,AM.iS,h2,hp,this]
  |v τ=>
   obtain⟨h1,h2⟩:=vH IZ Jp (show J3 P tm w (zn ms (i+1)) us ps from h)
   exact⟨h1,by simp[fL,AM.iS,h2]⟩
  |own τ=>
   obtain⟨h1,h2⟩:=vH IZ Jp (show J3 P tm w (zn ms (i+1)) us ps from h)
   exact⟨h1,by simp[fL,AM.iS,h2]⟩
  |fn f τ=>
   obtain⟨h1,h2⟩:=vH IZ Jp (show J3 P tm w (zn ms (i+1)) us ps from h)
   exact⟨h1,by simp[fL,AM.iS,h2]⟩
  |jE τ=>
   obtain⟨h1,h2⟩:=vH IZ Jp (show J3 P tm w (zn ms (i+1)) us ps from h)
   exact⟨h1,by simp[fL,AM.iS,h2]⟩
  |ptr τ=>
   obtain⟨h1,h2⟩:=vH IZ Jp (show J3 P tm w (zn ms (i+1)) us ps from h)
   exact⟨h1,by simp[fL,AM.iS,h2]⟩
  |sp τ n e=>
   obtain⟨h1,h2⟩:=vH IZ Jp (show J3 P tm w (zn ms (i+1)) us ps from h)
   exact⟨h1,by simp[fL,AM.iS,h2]⟩
theorem Oz{fn:Func}{tm:Array Value}{us:List Value}(hl:us.length=fn.results.toList.length)(h: ∀i (h:i<fn.results.toList.length) (h':i<us.length),CJ P tm w fn.results.toList[i] us[i]):
  (results fn tm).run P w= .ok (xK us) w:=by
 have key: ∀(rs:List ResultVar) (us:List Value),us.length=rs.length→(∀i (h:i<rs.length) (h':i<us.length),CJ P tm w rs[i] us[i])→(rs.mapM (vG tm)).run P w= .ok us w:=by
  intro rs
  induction rs with
  |nil=>intro us hl _;cases us with
   |nil=>simp
   |cons _ _=>simp at hl
  |cons r rs ih=>intro us hl h;cases us with
   |nil=>simp at hl
   |cons u us=>
    have h0:(vG tm r).run P w= .ok u w:=h 0 (by simp) (by simp)
    have h1:=ih us (by simpa using hl) (λi hi nZ=>h (i+1) (by simpa using hi) (by simpa using nZ))
    simp[AU,h0,h1]
 have h2:=key fn.results.toList us hl h
 have h3:results fn tm=(do let vs ←fn.results.mapM (vG tm);pure (if h:vs.size=1 then vs[0]else .tuple vs)):=by
  unfold results
  congr 1
 rw[h3,Array.mapM_eq_mapM_toList]
 simp only[Sem.run_bind,Sem.run_map,h2]
 unfold xK
 by_cases h3:us.length=1
 ·simp[h3]
 ·simp[h3]
theorem J5(hE:tI P E){f:FuncId}{fn:Func}(hf:P.funcs[f]? =some fn)(hnt:E.nt=fn.ntmps){args res:List AM}(wG: ∀i m,args[i]? =some m→m.iS=true→i∈E.io)(apL: ∀i∈E.io,i<args.length)(hlen:args.length≤fn.ntmps)
  {M0:Nat→Prop} {vs:List Value} {x:HP args} {y:HP res} (tc: ∀b,M0 b→b<w.heap.size) (hA:kC w (λb=>M0 b∨b∈eD args vs) args x vs) (wU:(eD args vs).Nodup) (xO: ∀b∈eD args vs,¬M0 b)
  (h:NU E fn args res x=some y):
  Calls P f vs.toArray w λe w'=> ∃v,e= .returned v∧ ∃us M',v=xK us∧RR w' M' res y us (fL args vs)∧Left w M0 (eD args vs) w' M'∧(bI res us (fL args vs)).Nodup∧ ∀b∈bI res us (fL args vs),¬M0 b:=by
 unfold NU at h
 split at h
 ·cases h
 rename_i cd hb
 simp only at h
 have hvl: ∀{ms:List AM} {x:HP ms} {vs:List Value} {M:Nat→Prop},kC w M ms x vs→vs.length=ms.length:=by
  intro ms
  induction ms with
  |nil=>intro x vs M h;simp only[kC]at h;subst h;rfl
  |cons m ms ih=>intro x vs M h;simp only[kC]at h;obtain⟨v,Nk,rfl,_,h⟩:=h;simp[ih h]
 have hvs:=hvl hA
 let tm:Array Value:=vs.toArray++Array.replicate (fn.ntmps-vs.toArray.size) undef
 have Ow: ∀j v,vs[j]? =some v→tm.getD j undef=v:=by
  intro j v hj
  have eU:j<vs.length:=(vp.1 hj).1
  rw[tz,Array.getElem?_append_left (by simpa using eU),F2,hj];rfl
 have qQ:tm.size=fn.ntmps:=by simp[tm];omega
 have hhb: ∀{ms:List AM} {x:HP ms} {vs:List Value} {M:Nat→Prop},kC w M ms x vs→ ∀b∈eD ms vs,b<w.heap.size:=by
  intro ms
  induction ms with
  |nil=>intro x vs M h b hb;simp[eD]at hb
  |cons m ms ih=>
   intro x vs M h b hb
   simp only[kC]at h
   obtain⟨v,Nk,rfl,h1,h⟩:=h
   simp only[eD,bl]at hb
   rcases hb with hb|hb
   ·cases m with
    |v _=>simp[dw]at hb
    |fn _ _=>simp[dw]at hb
    |jE _=>simp[dw]at hb
    |own e=>
     simp only[dw,fi,A1,ER]at hb h1
     rcases h1 with⟨_,a,hv⟩|⟨b',cs,t,cap,hv,hg,_⟩
     ·rw[hv]at hb;cases a<;>simp[fv]at hb
     ·rw[hv]at hb
      simp only[fv]at hb
      split at hb
      ·cases hb
      ·simp only[iA]at hb;subst hb;exact lt_of_block hg
    |lo e=>
     simp only[dw,fi,A1,ER]at hb h1
     rcases h1 with⟨_,a,hv⟩|⟨b',cs,t,cap,hv,hg,_⟩
     ·rw[hv]at hb;cases a<;>simp[fv]at hb
     ·rw[hv]at hb
      simp only[fv]at hb
      split at hb
      ·cases hb
      ·simp only[iA]at hb;subst hb;exact lt_of_block hg
    |io τ=>
     simp only[dw,fi,A1,ER]at hb h1
     obtain⟨b',cs,t,hv,hg,_⟩:=h1
     rw[hv]at hb
     simp only[fv,iA]at hb;subst hb;exact lt_of_block hg
    |ptr τ=>
     simp only[dw,fi,A1,ER]at hb h1
     obtain⟨b',cs,t,hv,hg,_⟩:=h1
     rw[hv]at hb
     simp only[fv,iA]at hb;subst hb;exact lt_of_block hg
    |sp τ n e=>
     simp only[A1]at h1
     obtain⟨cs,kb,u,l,z,rfl,hq,hr,uj,hu,_⟩:=h1
     rw[(yR hq hr uj).1,fi]at hb
     simp only[ER]at hu
     rcases hu with⟨_,a,hv⟩|⟨b',cs,t,cap,hv,hg,_⟩
     ·rw[hv]at hb;cases a<;>simp[fv]at hb
     ·rw[hv]at hb
      simp only[fv]at hb
      split at hb
      ·cases hb
      ·simp only[iA]at hb;subst hb;exact lt_of_block hg
   ·exact ih h b hb
 let cx:Ctx:={B:=w.heap.size,w0:=w,M0:=M0,may:=λb=>b∈eD args vs,arg:=λi=>tm.getD i undef}
 have hm0:Mem cx (λ_=>none) w (λb=>M0 b∨b∈eD args vs) (λ_=>undef):=
  ⟨λi e hi=>(by cases hi),λi j e e' b _ hi=>(by cases hi),λi e b hi=>(by cases hi),λi e l b hi=>(by cases hi),λi τ x p j hi=>(by cases hi),λb hb=> .inl hb,λb hb=>hb.elim (tc b) (hhb hA b),λ_ _ _=>rfl,aH _,⟨tc,xO⟩,rfl,rfl,rfl⟩
 have TW:Core cx ⟨λ_=> .any,λ_=>none⟩ tm w (λb=>M0 b∨b∈eD args vs) (λ_=>undef):=⟨hm0,λi=>by simp[VR]⟩
 obtain⟨ν',hc⟩:=D2 (i:=0) (used:=[]) TW hA (λj v hj=>by rw[gm];exact Ow j v hj) (λ_ _=>rfl) (λj e b hj=>by cases hj) (by simpa using wU) (λb hb=>hb) (λb hb=>xO b hb)
 have hI:Inv cx E (entry args x 0 ⟨λ_=> .any,λ_=>none⟩) {tmps:=tm,defers:=[]} w:=⟨⟨_,_,hc⟩,by rw[hnt,qQ],rfl,λi _=>rfl⟩
 refine calls_of_wp hf hb ?_
 have apM: ∀(σ':St) (a':Act) (w':World),Lp E res (fn.results.toList.map .inl++zn args 0) σ' some=some y→Inv cx E σ' a' w'→
   a'.defers=[]∧ ∃v,(results fn a'.tmps).run P w'= .ok v w'∧ ∃v',Ending.returned v= .returned v'∧ ∃us M',v'=xK us∧RR w' M' res y us (fL args vs)∧Left w M0 (eD args vs) w' M'∧(bI res us (fL args vs)).Nodup∧ ∀b∈bI res us (fL args vs),¬M0 b:=by
  rintro σ' a' w' hk ⟨⟨M1,ν1,DT⟩,Ni,hd1,xN⟩
  obtain⟨y',us,ps,H2,uo,uf,io,Hq,M2,hy,YP,hK,XR,hRs⟩:=G0 (P:=P) hE.toEnvTy (kD.start DT.mem) DT.tmp hk
  cases hy
  obtain⟨us1,us2,rfl,hl,hv,avP⟩:=J4 hRs
  obtain⟨rfl,I2⟩:=vH (vs:=vs) hvs (λj v m hj hm GM=>by
   rw[gm]
   rw[xN j (wG j m hm GM)]
   exact Ow j v hj) avP
  rw[cw]at*
  subst I2
  simp only[cM]at YP
  have kE: ∀b∈bI res us1 (fL args vs),b<w.heap.size→b∈eD args vs:=λb hb eU=>(YP.Od b hb).elim (λh'=>absurd eU (Nat.not_lt.2 h')) (λh=>h)
  have J1:fI w' M2 w' (λb=>M2 b∧(b<w.heap.size→M0 b∨b∈eD args vs)):=⟨aH _,λ_ _ _=>rfl,λ_ _ h=>h.1⟩
  refine⟨hd1,xK us1,Oz hl hv,_,rfl,us1,λb=>M2 b∧(b<w.heap.size→M0 b∨b∈eD args vs),rfl,RR.xL J1 (λb hb=>⟨rfl,XR.sr b hb,λeU=> .inr (kE b hb eU)⟩) XR,⟨λb hb=>⟨YP.mem.sub b hb,λ_=> .inl hb⟩,λb hb=>YP.mem.Gp b hb.1,λb eU hb=>hb.2 eU,λb eU hb=>YP.mem.frame b eU hb,YP.mem.size,YP.mem.os,YP.mem.tape,YP.mem.output⟩,YP.nd,λb hb h0=> ?_⟩
  rcases YP.Od b hb with h'|h'
  ·exact absurd (tc b h0) (Nat.not_lt.2 h')
  ·exact xO b h' h0
 refine V0 (c:=cx) hE cd _ _ w _ _ _ _ hI h (fun σ' a' w' hk zD=> ?_) (λi σ' a' w' hk=>by cases hk) (fun σ' a' w' hk zD=> ?_)
 ·exact apM σ' a' w' hk zD
 ·exact apM σ' a' w' hk zD
theorem YQ(hE:tI P E){f:FuncId}{fn:Func}(hf:P.funcs[f]? =some fn)(Bv:(fn.name== "runtime.NumGoroutine")=false)(hnt:E.nt=fn.ntmps)(S:m2)
  (wG: ∀i m,S.args[i]? =some m→m.iS=true→i∈E.io) (apL: ∀i∈E.io,i<S.args.length) (hlen:S.args.length≤fn.ntmps) (hq:S.quiet=true→S.res.all AM.flat=true) (avQ:nu S.args=nu S.res)
  (dF: ∀x,NU E fn S.args S.res x=S.run x):ju P f S:=by
 refine⟨hq,avQ,λM0 w vs x y tc hA wU xO hy=> ?_⟩
 have hb:fn.body.isNone=false:=by
  have:=dF x
  rw[hy]at this
  unfold NU at this
  split at this
  ·cases this
  ·rename_i cd hcd;rw[hcd];rfl
 exact um hf Bv hb (J5 hE hf hnt wG apL hlen tc hA wU xO (by rw[dF,hy]))
end VM
end
section
namespace VM
open Go
variable{P:Program}
def Bx:Ty→List Value→Option (List Value)
 | .int k,v::r=>match v with
  | .int k' n=>if k'=k∧n=0 then some r else none
  |_=>none
 | .bool,v::r=>match v with
  | .bool false=>some r
  |_=>none
 | .str,v::r=>match v with
  | .string s=>if s.data.size=0 then some r else none
  |_=>none
 | .slice _,v::r=>match v with
  | .slice none n m=>if n=0∧m=0 then some r else none
  |_=>none
 | .unit,r=>some r
 | .pair a b,r=>match Bx a r with
  |some r=>Bx b r
  |none=>none
 | .arr n e,r=>Nat.rec (motive:=λ_=>List Value→Option (List Value)) (λr=>some r) (λ_ ih r=>match Bx e r with
  |some r=>ih r
  |none=>none) n r
 |_,[]=>none
theorem By: ∀{τ:Ty} {l r:List Value},Bx τ l=some r→l=τ.cC++r
 | .int k,[],_,h| .bool,[],_,h| .str,[],_,h| .slice _,[],_,h=>by simp[Bx]at h
 | .int k,v::l,r,h=>by
  simp only[Bx]at h
  split at h
  ·split at h
   ·rename_i hc;obtain⟨rfl,rfl⟩:=hc;cases h;rfl
   ·cases h
  ·cases h
 | .bool,v::l,r,h=>by
  simp only[Bx]at h
  split at h
  ·cases h;rfl
  ·cases h
 | .str,v::l,r,h=>by
  simp only[Bx]at h
  split at h
  ·rename_i s
   split at h
   ·rename_i hs
    cases h
    have:s=ByteArray.empty:=by
     obtain⟨d⟩:=s
     have:d= #[]:=Array.eq_empty_of_size_eq_zero hs
     subst this;rfl
    subst this;rfl
   ·cases h
  ·cases h
 | .slice _,v::l,r,h=>by
  simp only[Bx]at h
  split at h
  ·split at h
   ·rename_i hc;obtain⟨rfl,rfl⟩:=hc;cases h;rfl
   ·cases h
  ·cases h
 | .unit,l,r,h=>by simp only[Bx]at h;cases h;rfl
 | .pair a b,l,r,h=>by
  simp only[Bx]at h
  split at h
  ·rename_i r1 h1
   rw[By h1,By h];simp[Ty.cC]
  ·cases h
 | .arr n e,l,r,h=>by
  simp only[Bx]at h
  simp only[Ty.cC]
  induction n generalizing l with
  |zero=>cases h;rfl
  |succ n ih=>
   simp only at h
   split at h
   ·rename_i r1 h1
    rw[By h1,ih _ h];simp[AI]
   ·cases h
def Bz(P:Program)(τ:Ty)(t:TypeId):Bool:=
 match P.info? t with
 |none=>false
 |some i=>Nat.beq i.size τ.size&&Nat.ble i.bytes 2048&&(match i.zero with
  |none=>false
  |some z=>match τ.isAgg,z with
   |true,.agg cs=>(match Bx τ cs.toList with|some []=>true|_=>false)
   |false,z=>(match Bx τ [z]with|some []=>true|_=>false)
   |_,_=>false)
theorem sv{τ:Ty}{t:TypeId}(h:Bz P τ t=true):Lq P τ t:=by
 unfold Bz at h
 split at h
 ·cases h
 ·rename_i i hi
  simp only[bM,A0]at h
  obtain⟨⟨h1,h2⟩,h3⟩:=h
  refine⟨i,hi,fy h1,?_,h2⟩
  split at h3
  ·cases h3
  ·rename_i z hz
   rw[hz]
   split at h3
   ·rename_i _ cs ha
    split at h3
    ·rename_i he
     have:=By he
     unfold ck
     rw[aj ha,←cw τ.cC,←this]
    ·cases h3
   ·rename_i ha
    split at h3
    ·rename_i he
     have:=By he
     unfold ck
     rw[ah (by rw[ha];exact rP),←cw τ.cC,←this];rfl
    ·cases h3
   ·cases h3
def uT(P:Program):Ty→TypeId ⊕ (Array Field×Nat×Nat)→Bool
 | .int k,.inl t=>Bz P (.int k) t&&(match P.underlying t with|some (.int k')=>decide (k'=k)|_=>false)
 | .bool,.inl t=>Bz P .bool t&&(match P.underlying t with|some .bool=>true|_=>false)
 | .str,.inl t=>Bz P .str t&&(match P.underlying t with|some .string=>true|_=>false)
 | .slice e,.inl t=>Bz P (.slice e) t&&(match P.underlying t with|some (.slice e')=>uT P e (.inl e')|_=>false)
 | .arr n e,.inl t=>Bz P (.arr n e) t&&(match P.underlying t with|some (.array n' e')=>Nat.beq n' n&&uT P e (.inl e')|_=>false)
 | .unit,.inl t=>Bz P .unit t&&(match P.underlying t with|some (.struct fs)=>Nat.beq fs.size 0|_=>false)
 | .unit,.inr q=>Nat.beq q.1.size q.2.1
 | .pair a b,.inl t=>Bz P (.pair a b) t&&(match P.underlying t with
  |some (.struct fs)=>(match fs[0]? with
   |some f=>Nat.beq f.offset 0&&(uT P a (.inl f.type)&&uT P b (.inr (fs,1,a.size)))
   |none=>false)
  |_=>false)
 | .pair a b,.inr q=>(match q.1[q.2.1]? with
  |some f=>Nat.beq f.offset q.2.2&&(uT P a (.inl f.type)&&uT P b (.inr (q.1,q.2.1+1,q.2.2+a.size)))
  |none=>false)
 |_,.inr _=>false
theorem iF: ∀{τ:Ty} {x:TypeId ⊕ (Array Field×Nat×Nat)},uT P τ x=true→gz P τ x
 | .int k,.inl t,h=>by
  simp only[uT,bM]at h
  refine⟨sv h.1,?_⟩
  have h:=h.2
  split at h
  ·rename_i k' hu;rw[hu,bt h]
  ·cases h
 | .bool,.inl t,h=>by
  simp only[uT,bM]at h
  refine⟨sv h.1,?_⟩
  have h:=h.2
  split at h
  ·rename_i hu;exact hu
  ·cases h
 | .str,.inl t,h=>by
  simp only[uT,bM]at h
  refine⟨sv h.1,?_⟩
  have h:=h.2
  split at h
  ·rename_i hu;exact hu
  ·cases h
 | .slice e,.inl t,h=>by
  simp only[uT,bM]at h
  refine⟨sv h.1,?_⟩
  have h:=h.2
  split at h
  ·rename_i e' hu;exact⟨e',hu,iF h⟩
  ·cases h
 | .arr n e,.inl t,h=>by
  simp only[uT,bM]at h
  refine⟨sv h.1,?_⟩
  have h:=h.2
  split at h
  ·rename_i n' e' hu
   simp only[bM]at h
   obtain⟨h0,h⟩:=h
   rw[fy h0]at hu
   exact⟨e',hu,iF h⟩
  ·cases h
 | .unit,.inl t,h=>by
  simp only[uT,bM]at h
  refine⟨sv h.1,?_⟩
  have h:=h.2
  split at h
  ·rename_i fs hu;exact⟨fs,hu,fy h⟩
  ·cases h
 | .unit,.inr (fs,n,o),h=>by simp only[uT]at h;exact fy h
 | .pair a b,.inl t,h=>by
  simp only[uT,bM]at h
  refine⟨sv h.1,?_⟩
  have h:=h.2
  split at h
  ·rename_i fs hu
   split at h
   ·rename_i f hf
    simp only[bM]at h
    exact⟨fs,f,hu,hf,fy h.1,iF h.2.1,iF h.2.2⟩
   ·cases h
  ·cases h
 | .pair a b,.inr (fs,n,o),h=>by
  simp only[uT]at h
  split at h
  ·rename_i f hf
   simp only[bM]at h
   exact⟨f,hf,fy h.1,iF h.2.1,iF h.2.2⟩
  ·cases h
 | .int _,.inr _,h| .bool,.inr _,h| .str,.inr _,h| .slice _,.inr _,h| .arr _ _,.inr _,h=>by simp[uT]at h
def wI(P:Program):Ty→TypeId ⊕ (Array Field×Nat)→Bool
 | .int _,.inl _| .bool,.inl _| .str,.inl _=>true
 | .unit,.inl t=> !P.stoodInHeld t
 | .unit,.inr _=>true
 | .pair a b,.inl t=> !P.stoodInHeld t&&(match P.underlying t with
  |some (.struct fs)=>(match fs[0]? with
   |some f=>f.name != "_" &&(wI P a (.inl f.type)&&wI P b (.inr (fs,1)))
   |none=>false)
  |_=>false)
 | .pair a b,.inr q=>(match q.1[q.2]? with
  |some f=>f.name != "_" &&(wI P a (.inl f.type)&&wI P b (.inr (q.1,q.2+1)))
  |none=>false)
 |_,_=>false
def Ty.deep:Ty→Nat
 | .pair a b=>a.deep+b.deep+1
 |_=>1
theorem V.ofC{w:World}{M:Nat→Prop}{τ:Ty}{cs:List Value}{x:τ.den}(h:Rd w M τ cs x):V w M τ (VM.ck τ cs) x:=V.ck h
mutual
theorem OA{w:World}{M:Nat→Prop}: ∀{τ:Ty} {t:TypeId} {u v:Value} {x y:τ.den} {d:Nat},kW P τ t→wI P τ (.inl t)=true→V w M τ u x→V w M τ v y→τ.deep≤d→(Op.equalIn d t u v).run P w= .ok (pC τ x y) w
 | .int k,t,u,v,x,y,d+1,hl,_,hx,hy,_=>by
  simp only[V,Ty.isAgg,jM,fC,Rd,fQ,fB]at hx hy
  subst hx;subst hy
  rw[run_equalIn_int w d t k k _ _ hl.int];simp only[pC,ko];congr 1
 | .bool,t,u,v,x,y,d+1,hl,_,hx,hy,_=>by
  simp only[V,Ty.isAgg,jM,fC,Rd,fQ,fB]at hx hy
  subst hx;subst hy
  rw[run_equalIn_bool w d t _ _ hl.bool];simp only[pC]
 | .str,t,u,v,x,y,d+1,hl,_,hx,hy,_=>by
  simp only[V,Ty.isAgg,jM,fC,Rd,fQ,fB]at hx hy
  subst hx;subst hy
  rw[run_equalIn_string w d t _ _ hl.str];simp only[pC,Gl];congr 1;rw[pR];simp
 | .slice _,_,_,_,_,_,_,_,h,_,_,_| .arr _ _,_,_,_,_,_,_,_,h,_,_,_=>by simp[wI]at h
 | .unit,t,u,v,x,y,d+1,hl,he,hx,hy,_=>by
  simp only[V,Ty.isAgg,g9]at hx hy
  obtain⟨cs,rfl,_⟩:=hx
  obtain⟨cs',rfl,_⟩:=hy
  simp only[kW,gz]at hl
  obtain⟨_,fs,hu,h0⟩:=hl
  have hfs:P.fieldsOf t=fs:=by simp[Program.fieldsOf,hu]
  rw[run_equalIn_struct w d t cs cs' (by rw[hfs];exact hu) (by simpa [wI]using he),hfs]
  have:fs.toList=[]:=by rw[←NA,bk];exact h0
  rw[this];simp[Op.eqFields,pC]
 | .pair a b,t,u,v,x,y,d+1,hl,he,hx,hy,hd=>by
  simp only[V,Ty.isAgg,g9]at hx hy
  obtain⟨cs,rfl,hx⟩:=hx
  obtain⟨cs',rfl,hy⟩:=hy
  simp only[kW,gz]at hl
  obtain⟨_,fs,f,hu,hf,ho,Ac,R2⟩:=hl
  have hfs:P.fieldsOf t=fs:=by simp[Program.fieldsOf,hu]
  simp only[wI,hu,hf,bM]at he
  rw[run_equalIn_struct w d t cs cs' (by rw[hfs];exact hu) (by simpa using he.1),hfs]
  have h0:fs.toList=f::fs.toList.drop 1:=by
   have h1:=qU (l:=fs.toList) (i:=0) (by rw[bk];exact(lG.1 hf).1)
   rw[cQ]at h1
   rw[h1];congr 1
   rw[AH];exact(lG.1 hf).2
  simp only[Ty.deep]at hd
  rw[h0]
  have oW:Rd w M (.pair a b) (cs.toList.drop 0) x:=by rw[cQ];exact hx
  have Ud:Rd w M (.pair a b) (cs'.toList.drop 0) y:=by rw[cQ];exact hy
  have kq:f.name≠ "_" :=by simpa using he.2.1
  simp only[Op.eqFields,kq,ne_eq,not_false_eq_true,g9]
  exact YR (off:=0) ho Ac he.2.2.1 oW Ud ω (λh1 h2=>YS (n:=1) (fs:=fs) (off:=a.size) R2 he.2.2.2 (by rw[gm]at h1;exact h1) (by rw[gm]at h2;exact h2) ω)
 | .int _,_,_,_,_,_,0,_,_,_,_,hd| .bool,_,_,_,_,_,0,_,_,_,_,hd| .str,_,_,_,_,_,0,_,_,_,_,hd| .unit,_,_,_,_,_,0,_,_,_,_,hd| .pair _ _,_,_,_,_,_,0,_,_,_,_,hd=>by simp[Ty.deep]at hd
theorem YS{w:World}{M:Nat→Prop}: ∀{b:Ty} {fs:Array Field} {n off:Nat} {cs cs':Array Value} {x y:b.den} {d:Nat},gz P b (.inr (fs,n,off))→wI P b (.inr (fs,n))=true→Rd w M b (cs.toList.drop off) x→Rd w M b (cs'.toList.drop off) y→b.deep≤d→
  (Op.eqFields d cs cs' (fs.toList.drop n)).run P w= .ok (pC b x y) w
 | .unit,fs,n,off,cs,cs',x,y,d,hl,_,_,_,_=>by
  simp only[gz]at hl
  rw[jL (by rw[bk];omega)]
  simp[Op.eqFields,pC]
 | .pair a b,fs,n,off,cs,cs',x,y,d,hl,he,hx,hy,hd=>by
  simp only[gz]at hl
  obtain⟨f,hf,ho,Ac,R2⟩:=hl
  simp only[wI,hf,bM]at he
  have h0:fs.toList.drop n=f::fs.toList.drop (n+1):=by
   rw[qU (l:=fs.toList) (i:=n) (by rw[bk];exact(lG.1 hf).1)]
   congr 1
   rw[AH];exact(lG.1 hf).2
  simp only[Ty.deep]at hd
  rw[h0]
  have kq:f.name≠ "_" :=by simpa using he.1
  simp only[Op.eqFields,kq,ne_eq,not_false_eq_true,g9]
  exact YR ho Ac he.2.1 hx hy ω (λh1 h2=>YS R2 he.2.2 h1 h2 ω)
 | .int _,_,_,_,_,_,_,_,_,hl,_,_,_,_| .bool,_,_,_,_,_,_,_,_,hl,_,_,_,_| .str,_,_,_,_,_,_,_,_,hl,_,_,_,_| .slice _,_,_,_,_,_,_,_,_,hl,_,_,_,_| .arr _ _,_,_,_,_,_,_,_,_,hl,_,_,_,_=>by simp[gz]at hl
theorem YR{w:World}{M:Nat→Prop}{a b:Ty}{f:Field}{fs:List Field}{off:Nat}{cs cs':Array Value}{x y:(Ty.pair a b).den}{d:Nat}(ho:f.offset=off)(Ac:kW P a f.type)(he:wI P a (.inl f.type)=true)
  (hx:Rd w M (.pair a b) (cs.toList.drop off) x) (hy:Rd w M (.pair a b) (cs'.toList.drop off) y) (hd:a.deep≤d)
  (hr:Rd w M b (cs.toList.drop (off+a.size)) x.2→Rd w M b (cs'.toList.drop (off+a.size)) y.2→(Op.eqFields d cs cs' fs).run P w= .ok (pC b x.2 y.2) w):
  (do let u ←part f.type cs f.offset;let v ←part f.type cs' f.offset;let r ←Op.equalIn d f.type u v;if(!r)=true then pure false else Op.eqFields d cs cs' fs:Sem Bool).run P w= .ok (pC (.pair a b) x y) w:=by
 simp only[Rd]at hx hy
 obtain⟨c1,c2,hc,h1,h2⟩:=hx
 obtain⟨c1',c2',V1,q5,zF⟩:=hy
 subst ho
 have p1:(cs.toList.drop f.offset).take a.size=c1:=by rw[hc,xh h1.length]
 have p2:(cs'.toList.drop f.offset).take a.size=c1':=by rw[V1,xh q5.length]
 have q1:cs.toList.drop (f.offset+a.size)=c2:=by rw[←iB,hc,mv h1.length]
 have q2:cs'.toList.drop (f.offset+a.size)=c2':=by rw[←iB,V1,mv q5.length]
 have r1:=Bb Ac (w:=w) (M:=M) (cs:=cs) (off:=f.offset) (x:=x.1) (by rw[p1];exact h1)
 have r2:=Bb Ac (w:=w) (M:=M) (cs:=cs') (off:=f.offset) (x:=y.1) (by rw[p2];exact q5)
 have r3:=OA (d:=d) Ac he (V.ofC (by rw[p1];exact h1):V w M a (VM.ck a ((cs.toList.drop f.offset).take a.size)) x.1) (V.ofC (by rw[p2];exact q5):V w M a (VM.ck a ((cs'.toList.drop f.offset).take a.size)) y.1) hd
 simp only[Sem.run_bind,r1,r2,r3,Result.andThen_ok,pC]
 cases pC a x.1 y.1
 ·simp
 ·simpa using hr (by rw[q1];exact h2) (by rw[q2];exact zF)
end
def acC(P:Program)(τ:Ty)(t:TypeId):Bool:= !(τ.comparable&&τ.isAgg)||(wI P τ (.inl t)&&(Nat.ble τ.deep 10000&& !P.eqGuardType P.depth t))
theorem acD{τ:Ty}{t:TypeId}(hl:kW P τ t)(h:acC P τ t=true)(hc:τ.comparable=true)(ha:τ.isAgg=true):ao1 P t τ:=by
 unfold acC at h
 rw[hc,ha]at h
 simp only[Bool.and_self,bh,rW,bM,A0,rQ]at h
 obtain⟨h1,h2,h3⟩:=h
 intro w M u v x y b xo yo hx hy
 have he:=OA (d:=10000) hl h1 hx hy h2
 unfold V at hx hy
 rw[aj ha]at hx hy
 obtain⟨cs,rfl,_⟩:=hx
 obtain⟨cs',rfl,_⟩:=hy
 refine⟨?_,?_,?_⟩
 ·cases b<;>simp[eqGuard,h3]
 ·simp only[binOp];simp[Op.equal,Op.maxDepth,he]
 ·simp only[binOp];simp[Op.equal,Op.maxDepth,he]
def apO(P:Program)(l:List (Nat×Ty)):Bool:=l.all λq=>uT P q.2 (.inl q.1)&&acC P q.2 q.1
end VM
end
section
namespace VM
open Go Go.WideShapes Go.RowKit Go.ChangeShapes
def WF:(τ:Ty)→τ.den→Prop
 | .int k,x=>(Lit.int k x).wf=true
 | .bool,_=>True
 | .str,s=>ByteArray.size s≤maxLen
 | .slice e,l=>ℓ l≤maxLen∧ ∀i (h:i<ℓ l),WF e (List.get l ⟨i,h⟩)
 | .unit,_=>True
 | .pair a b,x=>WF a x.1∧WF b x.2
 | .arr _ e,l=> ∀i (h:i<ℓ l),WF e (List.get l ⟨i,h⟩)
def Ty.qS:Ty→Bool
 | .slice e=>Nat.blt 0 e.size&&e.qS
 | .pair a b=>a.qS&&b.qS
 | .arr _ e=>e.qS
 |_=>true
theorem YT{α β:Type}{f:α→Option β}: ∀{l:List α} {r:List β},l.mapM f=some r→ ∀x∈l,∃y,f x=some y
 |[],_,_,x,hx=>by cases hx
 |a::l,r,h,x,hx=>by
  rw[AU]at h
  simp only[bind,uy,pure,iA]at h
  obtain⟨y,hy,r',hr,_⟩:=h
  rcases a8.1 hx with rfl|hx
  ·exact⟨y,hy⟩
  ·exact YT hr x hx
theorem OB{α β:Type}{f:α→Option β}: ∀{l:List α} {r:List β},l.mapM f=some r→r.length=l.length∧ ∀i (h:i<l.length) (h':i<r.length),f l[i]=some r[i]
 |[],r,h=>by simp at h;subst h;exact⟨rfl,λi h=>by cases h⟩
 |a::l,r,h=>by
  rw[AU]at h
  simp only[bind,uy,pure,iA]at h
  obtain⟨y,hy,r',hr,rfl⟩:=h
  obtain⟨h1,h2⟩:=OB hr
  refine⟨by simp[h1],λi hi nZ=> ?_⟩
  cases i with
  |zero=>exact hy
  |succ i=>exact h2 i (by simpa using hi) (by simpa using nZ)
theorem xP{α:Type}{p:Nat→α→Prop}: ∀n,(∀i,i<n→ ∃x,p i x)→ ∃l:List α,l.length=n∧ ∀i (h:i<l.length),p i (l.get ⟨i,h⟩)
 |0,_=>⟨[],rfl,λi h=>by cases h⟩
 |n+1,h=>by
  obtain⟨l,hl,hp⟩:=xP n (λi hi=>h i ω)
  obtain⟨x,hx⟩:=h n ω
  refine⟨l++[x],by simp[hl],λi hi=> ?_⟩
  simp only[F5]
  by_cases eU:i<l.length
  ·rw[AB eU];exact hp i eU
  ·have ka:i=n:=by simp at hi;omega
   subst ka
   rw[FW ω]
   simp[hl,hx]
section
variable{H:Type}{enc:TypeId×Value→H}{P:Program}{w:World}
theorem kW.cells{τ:Ty}{t:TypeId}(h:kW P τ t):P.cellsOf t=τ.size:=by
 obtain⟨i,hi,hs,_⟩:=h.base
 simp[Program.cellsOf,hi,hs]
theorem J6{a:Addr}{n:Nat}{cs:List Value}(h:w.cells? 0 a n=some cs):cs.length=n∧ ∀j v,cs[j]? =some v→w.cell? (a.add j)=some v:=by
 unfold World.cells? at h
 rw[aj (bz _)]at h
 obtain⟨h1,h2⟩:=OB h
 rw[xe]at h1
 refine⟨h1,λj v hj=> ?_⟩
 obtain⟨eU,rfl⟩:=vp.1 hj
 have:=h2 j (by rw[xe];omega) eU
 rw[F6]at this
 exact this
def YU(H:Type)(enc:TypeId×Value→H)(P:Program)(w:World)(τ:Ty):TypeId ⊕ (Array Field×Nat×Nat)→Prop
 | .inl t=> ∀(fuel:Nat) (cs:List Value) (d:DataW H×List MemPlace),DataW.trod enc P w 0 (λ_=>true) true fuel t cs=some d→ ∃x:τ.den,Rd w (λ_=>False) τ cs x∧WF τ x
 | .inr q=> ∀(cs:List Value),cs.length=q.2.2+τ.size→(∀f∈q.1.toList,∃fuel d,DataW.trod enc P w 0 (λ_=>true) true fuel f.type ((cs.drop f.offset).take (P.cellsOf f.type))=some d)→ ∃x:τ.den,Rd w (λ_=>False) τ (cs.drop q.2.2) x∧WF τ x
theorem J7{a b:Ty}{f:Field}{fs:Array Field}{n off:Nat}(hf:fs[n]? =some f)(ho:f.offset=off)(Ac:kW P a f.type)(iha:YU H enc P w a (.inl f.type))(X6:YU H enc P w b (.inr (fs,n+1,off+a.size)))
  {cs:List Value} (hc:cs.length=off+(a.size+b.size)) (iQ: ∀f∈fs.toList,∃fuel d,DataW.trod enc P w 0 (λ_=>true) true fuel f.type ((cs.drop f.offset).take (P.cellsOf f.type))=some d):
  ∃x:(Ty.pair a b).den,Rd w (λ_=>False) (.pair a b) (cs.drop off) x∧WF (.pair a b) x:=by
 subst ho
 obtain⟨fuel,d,hd⟩:=iQ f (by rw[Array.mem_toList_iff];exact Array.mem_of_getElem? hf)
 rw[Ac.cells]at hd
 obtain⟨x,hx,hwx⟩:=iha fuel _ d hd
 obtain⟨y,hy,hwy⟩:=X6 cs (by simp only;omega) iQ
 refine⟨(x,y),?_,hwx,hwy⟩
 simp only[Rd]
 refine⟨_,_,(gL a.size (cs.drop f.offset)).symm,hx,?_⟩
 rw[iB];exact hy
theorem vI: ∀{τ:Ty} {x:TypeId ⊕ (Array Field×Nat×Nat)},gz P τ x→τ.qS=true→YU H enc P w τ x
 | .int k,.inl t,hl,_=>by
  intro fuel cs d h
  simp only[gz]at hl
  obtain⟨n,rfl,_,hw⟩:=DataW.trod_int hl.2 h
  exact⟨n,rfl,hw⟩
 | .bool,.inl t,hl,_=>by
  intro fuel cs d h
  simp only[gz]at hl
  obtain⟨b,rfl,_⟩:=DataW.trod_bool hl.2 h
  exact⟨b,rfl,trivial⟩
 | .str,.inl t,hl,_=>by
  intro fuel cs d h
  simp only[gz]at hl
  obtain⟨s,rfl,_,hs⟩:=DataW.trod_string hl.2 h
  exact⟨s,rfl,hs⟩
 | .slice e,.inl t,hl,hs=>by
  intro fuel cs d h
  simp only[gz]at hl
  obtain⟨_,e',hu,hle⟩:=hl
  simp only[Ty.qS,bM,AZ]at hs
  have ih:=vI hle hs.2
  have qQ:P.cellsOf e'=e.size:=kW.cells hle
  rcases DataW.trod_slice hu h with⟨rfl,_⟩|⟨a,len,cap,elems,rest,n,_,rfl,_,_,hlc,Fv,hel,iQ,_⟩
  ·refine⟨[],?_,bz _,λi h=>by cases h⟩
   simp only[Rd]
   exact⟨none,0,rfl,aH _,λi h=>by cases h⟩
  ·rw[qQ]at iQ
   have get: ∀i,i<len→ ∃cs' y,w.cells? 0 (a.add (i*e.size)) e.size=some cs'∧DataW.trod enc P w 0 (λ_=>true) true n e' cs'=some y:=λi hi=>by
    have:=iQ i hi
    rw[bo ω]at this
    obtain⟨cs',h1,h2⟩:=uy.1 this
    exact⟨cs',_,h1,h2⟩
   have key: ∀i,i<len→ ∃x:e.den,(a.spot=none∧a.block<w.heap.size∧ ∃cs',At w a.block (a.off+i*e.size) cs'∧Rd w (λ_=>False) e cs' x)∧WF e x:=by
    intro i hi
    obtain⟨cs',y,uj,ht⟩:=get i hi
    obtain⟨h1,h2⟩:=J6 uj
    obtain⟨x,hx,hw⟩:=ih n cs' y ht
    have Vv:a.spot=none∧a.block<w.heap.size:=by
     obtain⟨kb,y0,avS,_⟩:=get 0 ω
     obtain⟨h10,h20⟩:=J6 avS
     have:=h20 0 kb[0] (bo ω)
     simp only[Nat.zero_mul,Addr.add,g9,World.cell?]at this
     split at this
     ·rename_i hb
      refine⟨?_,(lG.1 hb).1⟩
      split at this
      ·cases this
      ·rename_i hn;simpa using hn
     ·cases this
    refine⟨x,⟨Vv.1,Vv.2,cs',λj v hj=> ?_,hx⟩,hw⟩
    have:=h2 j v hj
    have he:(a.add (i*e.size)).add j=⟨a.block,a.off+i*e.size+j,none⟩:=by
     obtain⟨ab,ao,asp⟩:=a
     simp only at Vv
     obtain⟨rfl,_⟩:=Vv
     simp only[Addr.add]
     split<;>split<;>simp_all<;>omega
    rw[he]at this
    exact this
   obtain⟨l,hl,hp⟩:=xP len key
   refine⟨l,?_,by rw[hl];omega,λi h=>(hp i h).2⟩
   simp only[Rd]
   refine⟨some a,cap,by rw[hl],by rw[hl];exact hlc,λi h=> ?_⟩
   obtain⟨h1,h2,cs',h3,h4⟩:=(hp i h).1
   refine⟨a.block,a.off,?_,h2,λh=>h,cs',h3,h4⟩
   rw[←h1]
 | .unit,.inl t,hl,_=>by
  intro fuel cs d h
  simp only[gz]at hl
  obtain⟨⟨i,hi,qQ,_⟩,fs,hu,h0⟩:=hl
  obtain⟨xs,n,_,_,hc,_⟩:=DataW.trod_struct hu h
  refine⟨(),?_,trivial⟩
  simp only[Rd]
  rw[←NA,hc]
  simp[Program.cellsOf,hi,qQ,Ty.size]
 | .unit,.inr q,hl,_=>by
  intro cs hc _
  refine⟨(),?_,trivial⟩
  simp only[Rd]
  rw[jL (by rw[hc];simp[Ty.size])]
 | .pair a b,.inl t,hl,hs=>by
  intro fuel cs d h
  simp only[gz]at hl
  obtain⟨⟨i,hi,qQ,_⟩,fs,f,hu,hf,ho,Ac,R2⟩:=hl
  simp only[Ty.qS,bM]at hs
  have iha:=vI Ac hs.1
  have X6:=vI R2 hs.2
  obtain⟨xs,n,_,_,hc,hxl,hxs⟩:=DataW.trod_struct hu h
  have:=J7 (b:=b) (off:=0) hf ho Ac iha (by simp only[gm];exact X6) (cs:=cs) (by rw[hc];simp[Program.cellsOf,hi,qQ,Ty.size]) (λf hf=>by
   obtain⟨j,hj,rfl⟩:=rO.1 hf
   rw[bk]at hj
   have:=hxs j fs[j] (by simp[hj])
   rw[bo ω]at this
   exact⟨n,_,by rw[AH];exact this⟩)
  rw[cQ]at this
  exact this
 | .pair a b,.inr (fs,n,off),hl,hs=>by
  intro cs hc iQ
  simp only[gz]at hl
  obtain⟨f,hf,ho,Ac,R2⟩:=hl
  simp only[Ty.qS,bM]at hs
  exact J7 hf ho Ac (vI Ac hs.1) (vI R2 hs.2) (by simpa [Ty.size]using hc) iQ
 | .arr n e,.inl t,hl,hs=>by
  intro fuel cs d h
  simp only[gz]at hl
  obtain⟨⟨i,hi,qQ,_⟩,e',hu,hle⟩:=hl
  simp only[Ty.qS]at hs
  have ih:=vI hle hs
  have hse:P.cellsOf e'=e.size:=kW.cells hle
  obtain⟨xs,m,_,_,hc,hxl,hxs⟩:=DataW.trod_array hu h
  have hlen:cs.length=n*e.size:=by rw[hc];simp[Program.cellsOf,hi,qQ,Ty.size]
  have key: ∀i,i<n→ ∃x:e.den,Rd w (λ_=>False) e ((cs.drop (i*e.size)).take e.size) x∧WF e x:=λi hi=>by
   have:=hxs i hi
   rw[bo ω,hse]at this
   exact ih m _ _ this
  obtain⟨l,I3,hp⟩:=xP n key
  refine⟨l,?_,λi h=>(hp i h).2⟩
  simp only[Rd]
  refine⟨I3,(List.range n).map λi=>(cs.drop (i*e.size)).take e.size,by simp,?_,λi h h'=> ?_⟩
  ·clear hxs h key hp I3 hu
   have: ∀m,m≤n→cs.take (m*e.size)=((List.range m).map λi=>(cs.drop (i*e.size)).take e.size).flatten:=by
    intro m
    induction m with
    |zero=>simp
    |succ m ihm=>
     intro hm
     rw[Gb,dj,List.flatten_append,←ihm ω]
     simp only[bQ,gM,AN,List.flatten_nil,cw]
     rw[eG,kS,List.take_add]
   have h2:=this n (aH _)
   rw[iy ω]at h2
   exact h2
  ·have:=(hp i h).1
   simpa using this
 | .int _,.inr _,h,_| .bool,.inr _,h,_| .str,.inr _,h,_| .slice _,.inr _,h,_| .arr _ _,.inr _,h,_=>by simp[gz]at h
theorem akJ{τ:Ty}{t:TypeId}{r:Reach}{b0:Nat}{v:Value}{d:DataW H}{ps:List MemPlace}(hl:kW P τ t)(hs:τ.qS=true)(hv:Value.okWide P w r b0 t v)(h:DataW.Trod enc P w 0 (λ_=>true) true t v d ps):
  ∃x:τ.den,V w (λ_=>False) τ v x∧WF τ x:=by
 obtain⟨fuel,h⟩:=h
 obtain⟨x,hx,hw⟩:=vI (H:=H) (enc:=enc) (w:=w) hl hs fuel _ _ h
 refine⟨x,?_,hw⟩
 unfold V
 cases τ with
 |int k=>
  obtain⟨n,rfl⟩:=okWide_int hl.int hv
  exact hx
 |bool=>
  obtain⟨n,rfl⟩:=okWide_bool hl.bool hv
  exact hx
 |str=>
  obtain⟨n,rfl⟩:=okWide_string hl.str hv
  exact hx
 |slice e=>
  obtain⟨e',hu,_⟩:=hl.slice
  obtain⟨a,len,cap,rfl⟩:=okWide_slice hu hv
  exact hx
 |unit=>
  simp only[kW,gz]at hl
  obtain⟨_,fs,hu,_⟩:=hl
  simp only[Value.okWide,hu]at hv
  obtain⟨cs,rfl,_⟩:=hv
  exact⟨cs,rfl,hx⟩
 |pair a b=>
  simp only[kW,gz]at hl
  obtain⟨_,fs,f,hu,_⟩:=hl
  simp only[Value.okWide,hu]at hv
  obtain⟨cs,rfl,_⟩:=hv
  exact⟨cs,rfl,hx⟩
 |arr n e=>
  obtain⟨e',hu,_⟩:=hl.arr
  simp only[Value.okWide,hu]at hv
  obtain⟨cs,rfl,_⟩:=hv
  exact⟨cs,rfl,hx⟩
def WFs:(ms:List Ty)→HP (ms.map .v)→Prop
 |[],_=>True
 |_::ms,x=>WF _ (q3 x)∧WFs ms (uk x)
def hpC:{m:AM}→{ms:List AM}→m.den→HP ms→HP (m::ms)
 |_,[],x,_=>x
 |_,_::_,x,y=>(x,y)
theorem Ue{m:AM}: ∀{ms:List AM} (x:m.den) (y:HP ms),q3 (hpC x y)=x
 |[],_,_=>rfl
 |_::_,_,_=>rfl
theorem Uf{m:AM}: ∀{ms:List AM} (x:m.den) (y:HP ms),uk (hpC x y)=y
 |[],_,()=>rfl
 |_::_,_,_=>rfl
theorem J8(laid:laidOutB P=true){r:Reach}{b0:Nat}: ∀{τs:List Ty} {ts:List TypeId} {vs:List Value} {ds:List (DataW H)} {ps:List MemPlace},DataW.TrodAll enc P w 0 (λ_=>true) true ts vs ds ps→
  τs.length=ts.length→(∀(j:Nat) τ t,τs[j]? =some τ→ts[j]? =some t→(kW P τ t∧τ.qS=true∧P.readableRec t=true∧t<P.types.size))→
  (∀(j:Nat) t v,ts[j]? =some t→vs[j]? =some v→Value.okWide P w r b0 t v)→
  (∃x:HP (τs.map .v),kC w (λ_=>False) (τs.map .v) x vs∧WFs τs x)∧ ∀w',Below w.heap.size w w'→ ∃I4,DataW.TrodAll enc P w' 0 (λb=>decide (b<w.heap.size)) true ts vs ds I4
 |[],[],vs,ds,ps,h,_,_,_=>by
  obtain⟨rfl,rfl,rfl⟩:=trodAll_nil h
  exact⟨⟨(),rfl,trivial⟩,λw' _=>⟨[],rfl⟩⟩
 |τ::τs,t::ts,vs,ds,ps,h,hl,DQ,hv=>by
  obtain⟨v,Nk,d,ds',p,q,rfl,rfl,rfl,h1,h2⟩:=trodAll_cons h
  obtain⟨zq,akK,hrr,eU⟩:=DQ 0 τ t rfl rfl
  obtain⟨x,hx,hwx⟩:=akJ zq akK (hv 0 t v rfl rfl) h1
  obtain⟨⟨y,hy,hwy⟩,zG⟩:=J8 laid h2 (by simpa using hl) (λj τ' t' h h'=>DQ (j+1) τ' t' (by simpa using h) (by simpa using h')) (λj t' v' h h'=>hv (j+1) t' v' (by simpa using h) (by simpa using h'))
  refine⟨⟨hpC (m:= .v τ) x y,?_,?_⟩,λw' hb=> ?_⟩
  ·show kC w _ (.v τ::τs.map .v) _ _
   simp only[kC]
   exact⟨v,Nk,rfl,by rw[Ue];exact hx,by rw[Uf];exact hy⟩
  ·simp only[WFs]
   exact⟨by rw[Ue];exact hwx,by rw[Uf];exact hwy⟩
  ·obtain⟨I4,h'⟩:=zG w' hb
   have xJ: ∀z∈p,z.block<w.heap.size:=by
    obtain⟨m,hm⟩:=h1
    exact DataW.trod_lt m _ _ _ hm
   exact⟨p++I4,trodAll_cons_mk (Below.trod laid hrr eU h1 hb xJ) h'⟩
 |[],_::_,_,_,_,_,hl,_,_|_::_,[],_,_,_,_,hl,_,_=>by simp at hl
end
end VM
end
section
namespace VM
open Go
variable{α:Type}
def BA(L:Nat→Option (List (Nat×CM)))(κ:Nat→St→Option α)(i:Option Nat)(f:St→Option α):St→Option α:=
 match i with
 |none=>f
 |some i=>match L i with
  |none=>f
  |some _=>κ i
def YV(E:Env)(κJ κL:Nat→St→Option α)(c:Code):St→(St→Option α)→(Nat→St→Option α)→(St→Option α)→Option α:=
 Code.rec (motive:=λ_=>St→(St→Option α)→(Nat→St→Option α)→(St→Option α)→Option α)
  (fun σ k _ _=>k σ)
  (λ_ ops draw σ k _ _=>Fm E ops draw σ k)
  (λ_ b A B σ k kx kr=>A σ (fun σ'=>xz ((c8 b).bind E.zk) σ' (BA E.zk κJ (c8 b) fun σ''=>B σ'' k kx kr)) kx kr)
  (λc _ _ A B σ k kx kr=>JU E c σ (fun σ'=>A σ' k kx kr) (fun σ'=>B σ' k kx kr))
  (λid _ A σ k kx kr=>A σ k (λi σ'=>cond (Nat.beq i id) (k σ') (kx i σ')) kr)
  (λb _ σ _ kx kr=>xz ((c8 b).bind E.xq) σ (BA E.xq κL (c8 b) (DK ((c8 b).bind E.xq) (fun σ' kn=>Fo E b σ' kn kx kr) E.N)))
  (λ_ _ _ _ _ _ _ _ _ _=>none)
  (λid σ _ kx _=>kx id σ)
  (λ_ A σ k kx kr=>A σ k kx kr)
  (λ_ σ k _ _=>k σ)
  (λ_ _ _ _ _=>none)
  (fun σ _ _ kr=>kr σ)
  (λ_ _ _ _ _=>none)
  c
def G1(E:Env)(c:Code):(St→Option α)→(Nat→St→Option α)→(St→Option α)→List (Bool×Nat×(St→Option α)):=
 Code.rec (motive:=λ_=>(St→Option α)→(Nat→St→Option α)→(St→Option α)→List (Bool×Nat×(St→Option α)))
  (λ_ _ _=>[])
  (λ_ _ _ _ _ _=>[])
  (λ_ b A B k kx kr=>A (fun σ'=>xz ((c8 b).bind E.zk) σ' fun σ''=>Fo E b σ'' k kx kr) kx kr++(((c8 b).toList.map λi=>(false,i,fun σ''=>Fo E b σ'' k kx kr))++B k kx kr))
  (λ_ _ _ A B k kx kr=>A k kx kr++B k kx kr)
  (λid _ A k kx kr=>A k (λi σ'=>cond (Nat.beq i id) (k σ') (kx i σ')) kr)
  (λb _ _ kx kr=>(c8 b).toList.map λi=>(true,i,DK ((c8 b).bind E.xq) (fun σ' kn=>Fo E b σ' kn kx kr) E.N))
  (λ_ _ _ _ _ _ _ _ _=>[])
  (λ_ _ _ _=>[])
  (λ_ A k kx kr=>A k kx kr)
  (λ_ _ _ _=>[])
  (λ_ _ _ _=>[])
  (λ_ _ _=>[])
  (λ_ _ _ _=>[])
  c
def xQ(E:Env)(κJ κL:Nat→St→Option α):List (Bool×Nat×(St→Option α))→List ((St→Option α)×(St→Option α))
 |[]=>[]
 |q::r=>match q.1 with
  |false=>match E.zk q.2.1 with
   |some _=>(κJ q.2.1,q.2.2)::xQ E κJ κL r
   |none=>xQ E κJ κL r
  |true=>match E.xq q.2.1 with
   |some _=>(κL q.2.1,q.2.2)::xQ E κJ κL r
   |none=>xQ E κJ κL r
def Jq(E:Env)(κJ κL:Nat→St→Option α)(l:List (Bool×Nat×(St→Option α))):Prop:= ∀p∈xQ E κJ κL l,p.1=p.2
theorem akL{E:Env}{κJ κL:Nat→St→Option α}{l:List (Bool×Nat×(St→Option α))}(g:List (St→Option α))(h:xQ E κJ κL l=g.map λf=>(f,f)):Jq E κJ κL l:=by
 intro p hp
 rw[h]at hp
 obtain⟨f,_,rfl⟩:=cV.1 hp
 rfl
theorem D4{E:Env}{κJ κL:Nat→St→Option α}: ∀(l m:List (Bool×Nat×(St→Option α))),xQ E κJ κL (l++m)=xQ E κJ κL l++xQ E κJ κL m
 |[],m=>rfl
 |(b,i,f)::l,m=>by
  have ih:=D4 (E:=E) (κJ:=κJ) (κL:=κL) l m
  cases b<;>simp only[mV,xQ]<;>split<;>simp[ih]
theorem Jq.app{E:Env}{κJ κL:Nat→St→Option α}{l m:List (Bool×Nat×(St→Option α))}(h:Jq E κJ κL (l++m)):Jq E κJ κL l∧Jq E κJ κL m:=by
 unfold Jq at*
 rw[D4]at h
 exact⟨λp hp=>h p (cU _ hp),λp hp=>h p (dB _ hp)⟩
theorem ai3{E:Env}{κJ κL:Nat→St→Option α}{i:Option Nat}{f:St→Option α}(h:Jq E κJ κL (i.toList.map λi=>(false,i,f))):BA E.zk κJ i f=f:=by
 cases i with
 |none=>rfl
 |some i=>
  simp only[Option.toList,List.map,Jq,xQ]at h
  unfold BA
  cases hL:E.zk i with
  |none=>simp[hL]
  |some L=>rw[hL]at h;simp only[hL];exact h (κJ i,f) (cr.2 rfl)
theorem apR{E:Env}{κJ κL:Nat→St→Option α}{i:Option Nat}{f:St→Option α}(h:Jq E κJ κL (i.toList.map λi=>(true,i,f))):BA E.xq κL i f=f:=by
 cases i with
 |none=>rfl
 |some i=>
  simp only[Option.toList,List.map,Jq,xQ]at h
  unfold BA
  cases hL:E.xq i with
  |none=>simp[hL]
  |some L=>rw[hL]at h;simp only[hL];exact h (κL i,f) (cr.2 rfl)
theorem YW{E:Env}{κJ κL:Nat→St→Option α}(c:Code): ∀(k:St→Option α) (kx:Nat→St→Option α) (kr:St→Option α) (σ:St),Jq E κJ κL (G1 E c k kx kr)→YV E κJ κL c σ k kx kr=Fo E c σ k kx kr:=by
 induction c with
 |skip=>intros;rfl
 |region=>intros;rfl
 |seq a b iha X6=>
  intro k kx kr σ h
  obtain⟨h1,h2⟩:=Jq.app (h:Jq E κJ κL (G1 E a _ kx kr++(((c8 b).toList.map λi=>(false,i,fun σ''=>Fo E b σ'' k kx kr))++G1 E b k kx kr)))
  obtain⟨h2,h3⟩:=Jq.app h2
  show YV E κJ κL a σ (fun σ'=>xz ((c8 b).bind E.zk) σ' (BA E.zk κJ (c8 b) fun σ''=>YV E κJ κL b σ'' k kx kr)) kx kr=Fo E a σ (fun σ'=>xz ((c8 b).bind E.zk) σ' fun σ''=>Fo E b σ'' k kx kr) kx kr
  have hb:(fun σ''=>YV E κJ κL b σ'' k kx kr)=fun σ''=>Fo E b σ'' k kx kr:=funext fun σ''=>X6 k kx kr σ'' h3
  rw[hb,ai3 h2]
  exact iha _ _ _ _ h1
 |cond x a b iha X6=>
  intro k kx kr σ h
  obtain⟨h1,h2⟩:=Jq.app (h:Jq E κJ κL (G1 E a k kx kr++G1 E b k kx kr))
  show JU E x σ (fun σ'=>YV E κJ κL a σ' k kx kr) (fun σ'=>YV E κJ κL b σ' k kx kr)=JU E x σ (fun σ'=>Fo E a σ' k kx kr) (fun σ'=>Fo E b σ' k kx kr)
  rw[show(fun σ'=>YV E κJ κL a σ' k kx kr)=fun σ'=>Fo E a σ' k kx kr from funext fun σ'=>iha k kx kr σ' h1,show(fun σ'=>YV E κJ κL b σ' k kx kr)=fun σ'=>Fo E b σ' k kx kr from funext fun σ'=>X6 k kx kr σ' h2]
 |block id x ih=>intro k kx kr σ h;exact ih _ _ _ σ h
 |loop b _=>
  intro k kx kr σ h
  show xz ((c8 b).bind E.xq) σ (BA E.xq κL (c8 b) (DK ((c8 b).bind E.xq) (fun σ' kn=>Fo E b σ' kn kx kr) E.N))=xz ((c8 b).bind E.xq) σ (DK ((c8 b).bind E.xq) (fun σ' kn=>Fo E b σ' kn kx kr) E.N)
  rw[apR (h:Jq E κJ κL ((c8 b).toList.map λi=>(true,i,_)))]
 |rangeFunc=>intros;rfl
 |exit=>intros;rfl
 |scope x ih=>intro k kx kr σ h;exact ih _ _ _ σ h
 |label=>intros;rfl
 |goto=>intros;rfl
 |ret=>intros;rfl
 |refuse=>intros;rfl
def oX(E:Env)(κJ κL:Nat→St→Option α):List Nat→Code→List (St→Option α)→St→(St→Option α)→(Nat→St→Option α)→(St→Option α)→Option α
 |[],c,_,σ,k,kx,kr=>YV E κJ κL c σ k kx kr
 |n::p,c,ks,σ,k,kx,kr=>match c with
  | .seq a b=>match n with
   |0=>oX E κJ κL p a ks σ (fun σ'=>xz ((c8 b).bind E.zk) σ' (BA E.zk κJ (c8 b) fun σ''=>YV E κJ κL b σ'' k kx kr)) kx kr
   |_=>oX E κJ κL p b ks σ k kx kr
  | .cond _ a b=>match n with
   |0=>oX E κJ κL p a ks σ k kx kr
   |_=>oX E κJ κL p b ks σ k kx kr
  | .block id c=>oX E κJ κL p c ks σ k (λi σ'=>cond (Nat.beq i id) (k σ') (kx i σ')) kr
  | .loop b=>match ks with
   |κ::ks=>oX E κJ κL p b ks σ κ kx kr
   |[]=>none
  | .scope c=>oX E κJ κL p c ks σ k kx kr
  |_=>none
def iG(E:Env):List Nat→Code→List (St→Option α)→(St→Option α)→(Nat→St→Option α)→(St→Option α)→List (Bool×Nat×(St→Option α))
 |[],c,_,k,kx,kr=>G1 E c k kx kr
 |n::p,c,ks,k,kx,kr=>match c with
  | .seq a b=>match n with
   |0=>((c8 b).toList.map λi=>(false,i,fun σ''=>Fo E b σ'' k kx kr))++(G1 E b k kx kr++iG E p a ks (fun σ'=>xz ((c8 b).bind E.zk) σ' fun σ''=>Fo E b σ'' k kx kr) kx kr)
   |_=>iG E p b ks k kx kr
  | .cond _ a b=>match n with
   |0=>iG E p a ks k kx kr
   |_=>iG E p b ks k kx kr
  | .block id c=>iG E p c ks k (λi σ'=>cond (Nat.beq i id) (k σ') (kx i σ')) kr
  | .loop b=>match ks with
   |κ::ks=>iG E p b ks κ kx kr
   |[]=>[]
  | .scope c=>iG E p c ks k kx kr
  |_=>[]
theorem oa{E:Env}{κJ κL:Nat→St→Option α}: ∀(p:List Nat) (c:Code) (ks:List (St→Option α)) (k:St→Option α) (kx:Nat→St→Option α) (kr:St→Option α) (σ:St),Jq E κJ κL (iG E p c ks k kx kr)→
  oX E κJ κL p c ks σ k kx kr=wR E p c ks σ k kx kr
 |[],c,ks,k,kx,kr,σ,h=>YW c k kx kr σ h
 |n::p,c,ks,k,kx,kr,σ,h=>by
  cases c with
  |seq a b=>
   cases n with
   |zero=>
    simp only[oX,wR,iG]at h ⊢
    obtain⟨h1,h2⟩:=Jq.app h
    obtain⟨h2,h3⟩:=Jq.app h2
    rw[show(fun σ''=>YV E κJ κL b σ'' k kx kr)=fun σ''=>Fo E b σ'' k kx kr from funext fun σ''=>YW b k kx kr σ'' h2,ai3 h1]
    exact oa p a ks _ kx kr σ h3
   |succ n=>simp only[oX,wR,iG]at h ⊢;exact oa p b ks k kx kr σ h
  |cond x a b=>
   cases n with
   |zero=>simp only[oX,wR,iG]at h ⊢;exact oa p a ks k kx kr σ h
   |succ n=>simp only[oX,wR,iG]at h ⊢;exact oa p b ks k kx kr σ h
  |block id x=>simp only[oX,wR,iG]at h ⊢;exact oa p x ks k _ kr σ h
  |loop b=>
   cases ks with
   |nil=>simp only[oX,wR]
   |cons κ ks=>simp only[oX,wR,iG]at h ⊢;exact oa p b ks κ kx kr σ h
  |scope x=>simp only[oX,wR,iG]at h ⊢;exact oa p x ks k kx kr σ h
  |_=>simp only[oX,wR]
def G4(fn:Func):Code:=fn.body.getD .skip
def OC(E:Env)(fn:Func)(args res:List AM):St→Option (HP res):=fun σ=>Lp E res (fn.results.toList.map .inl++zn args 0) σ some
def nox:Nat→St→Option α:=λ_ _=>none
def aDb:St→Option α:=λ_=>none
def atF(E:Env)(fn:Func)(args res:List AM)(p:List Nat)(ks:List (St→Option (HP res)))(σ:St):Option (HP res):=
 wR E p (G4 fn) ks σ (OC E fn args res) nox (OC E fn args res)
def atQ(E:Env)(fn:Func)(args res:List AM)(κJ κL:Nat→St→Option (HP res))(p:List Nat)(ks:List (St→Option (HP res)))(σ:St):Option (HP res):=
 oX E κJ κL p (G4 fn) ks σ (OC E fn args res) nox (OC E fn args res)
def acE(E:Env)(fn:Func)(args res:List AM)(p:List Nat)(ks:List (St→Option (HP res))):List (Bool×Nat×(St→Option (HP res))):=
 iG E p (G4 fn) ks (OC E fn args res) nox (OC E fn args res)
theorem avU{E:Env}{fn:Func}{args res:List AM}{κJ κL:Nat→St→Option (HP res)}{p:List Nat}{ks:List (St→Option (HP res))}(g:List (St→Option (HP res)))(h:xQ E κJ κL (acE E fn args res p ks)=g.map λf=>(f,f))(σ:St):
 atF E fn args res p ks σ=atQ E fn args res κJ κL p ks σ:=(oa p _ ks _ _ _ σ (akL g h)).symm
theorem akN{E:Env}{fn:Func}{args res:List AM}(hb:fn.body.isSome=true)(x:HP args):NU E fn args res x=atF E fn args res [] [] (entry args x 0 S0):=by
 unfold NU atF G4
 cases h:fn.body with
 |none=>rw[h]at hb;cases hb
 |some c=>rfl
def lpF(E:Env)(fn:Func)(args res:List AM)(c:List (Nat×CM))(p:List Nat)(ks:List (St→Option (HP res)))(n:Nat):St→Option (HP res):=
 DK (some c) (fun σ kn=>atF E fn args res p (ks++[kn]) σ) n
theorem YX(E:Env)(fn:Func)(args res:List AM)(c:List (Nat×CM))(p:List Nat)(ks:List (St→Option (HP res)))(n:Nat)(σ:St):
 lpF E fn args res c p ks (n+1) σ=atF E fn args res p (ks++[fun σ'=>xz (some c) σ' (lpF E fn args res c p ks n)]) σ:=rfl
def YY{β:Type}(κ:Nat→β):List (Nat×β)→Prop
 |[]=>True
 |q::r=>κ q.1=q.2∧YY κ r
def V2{β:Type}:List (β×β)→Prop
 |[]=>True
 |q::r=>q.1=q.2∧V2 r
theorem V2.mem{β:Type}: ∀{l:List (β×β)},V2 l→ ∀p∈l,p.1=p.2
 |q::r,h,p,hp=>by
  rcases a8.1 hp with rfl|hp
  ·exact h.1
  ·exact V2.mem h.2 p hp
theorem apS{β:Type}(d:β): ∀(l:List (Nat×β)),(l.map (·.1)).Nodup→ ∃κ:Nat→β,YY κ l
 |[],_=>⟨λ_=>d,trivial⟩
 |q::r,h=>by
  rw[bQ,AT]at h
  obtain⟨κ,hκ⟩:=apS d r h.2
  refine⟨λi=>if i=q.1 then q.2 else κ i,by simp,?_⟩
  have key: ∀(r':List (Nat×β)),(∀p∈r',p∈r)→YY κ r'→YY (λi=>if i=q.1 then q.2 else κ i) r':=by
   intro r'
   induction r' with
   |nil=>intros;trivial
   |cons p r' ih=>
    intro hm ha
    refine⟨?_,ih (λp' RS=>hm p' (aZ _ RS)) ha.2⟩
    have kq:p.1≠q.1:=λe=>h.1 (e▸fh (hm p (bq ..)))
    show(if p.1=q.1 then q.2 else κ p.1)=p.2
    rw[ah kq]
    exact ha.1
  exact key r (λ_ h=>h) hκ
theorem aAU{β:Type}(d:β)(l:List (Nat×β)){ks:List Nat}(h:l.map (·.1)=ks)(hd:ks.Nodup): ∃κ:Nat→β,YY κ l:=apS d l (h▸hd)
theorem at_eq(E:Env)(fn:Func)(args res:List AM){κJ κL:Nat→St→Option (HP res)}{p:List Nat}{ks:List (St→Option (HP res))}{l:List ((St→Option (HP res))×(St→Option (HP res)))}(h:xQ E κJ κL (acE E fn args res p ks)=l)(hl:V2 l)(σ:St):
 atF E fn args res p ks σ=atQ E fn args res κJ κL p ks σ:=(oa p _ ks _ _ _ σ (by unfold Jq;rw[show xQ E κJ κL (iG E p (G4 fn) ks (OC E fn args res) nox (OC E fn args res))=l from h];exact hl.mem)).symm
end VM
end
section
namespace VM
open Go Go.RowKit
variable{P:Program}
def OD(i:Nat):List (Nat×Ty)→Option Ty
 |[]=>none
 |q::r=>cond (Nat.beq i q.1) (some q.2) (OD i r)
theorem J9{i:Nat}{τ:Ty}: ∀{l:List (Nat×Ty)},OD i l=some τ→(i,τ)∈l
 |q::r,h=>by
  unfold OD at h
  cases hb:Nat.beq i q.1<;>rw[hb]at h
  ·exact aZ _ (J9 h)
  ·cases h;rw[fy hb];exact bq ..
structure G6(P:Program)(tab:List (Nat×Ty)):Prop where
 ok:apO P tab=true
 mixed:P.follows .mixedOrders=true
theorem V3{E:Env}(hE:tI P E)(avW:E.io=[]){f:FuncId}{fn:Func}(hf:P.funcs[f]? =some fn)(τs:List Ty)
  (hc:(Nat.beq E.nt fn.ntmps&&Nat.ble τs.length E.nt)=true) {w:World} {vs:List Value} {x:HP (τs.map .v)} (hA:kC w (λ_=>False) (τs.map .v) x vs)
  (h:NU E fn (τs.map .v) [.v .bool] x=some true):Calls P f vs.toArray w λe w'=>e= .returned (.bool true)∧Below w.heap.size w w':=by
 rw[bM]at hc
 have hnt:=fy hc.1
 have hlen:=F3 hc.2
 have hh: ∀(τs:List Ty) (vs:List Value),eD (τs.map .v) vs=[]:=by
  intro τs
  induction τs with
  |nil=>intro vs;cases vs<;>rfl
  |cons τ τs ih=>intro vs;cases vs with
   |nil=>rfl
   |cons v vs=>simp[eD,dw,ih]
 have hi: ∀(τs:List Ty) (vs:List Value),fL (τs.map .v) vs=[]:=by
  intro τs
  induction τs with
  |nil=>intro vs;cases vs<;>rfl
  |cons τ τs ih=>intro vs;cases vs with
   |nil=>rfl
   |cons v vs=>simp[fL,AM.iS,ih]
 refine(J5 (M0:=λ_=>False) (vs:=vs) hE hf hnt (λi m hm wG=> ?_) (λi hi=>by rw[avW]at hi;cases hi) (by rw[cD];rw[←hnt];exact hlen) (λb hb=>hb.elim) (by rw[hh];simpa using hA) (by rw[hh];exact List.nodup_nil) (λb _ hb=>hb) h).mono ?_
 ·rw[nT]at hm
  obtain⟨τ,_,rfl⟩:=AF.1 hm
  cases wG
 ·rintro e w' ⟨v,rfl,us,M',rfl,XR,hL,_,_⟩
  rw[hh]at hL
  rw[hi]at XR
  simp only[RR]at XR
  rcases XR with⟨p,I4,h1,_⟩|⟨v,Nk,_,_,rfl,hv,rfl,_⟩
  ·cases h1
  ·refine⟨?_,hL.os,hL.tape,hL.output,hL.size,λb hb=>hL.frame b hb (by simp)⟩
   have:v= .bool true:=by
    simp only[A1,V,Ty.isAgg,jM,fC,Rd,fQ,fB]at hv
    exact hv
   rw[this];rfl
def YZ(P:Program):List Ty→List TypeId→Bool
 |[],[]=>true
 |τ::τs,t::ts=>(uT P τ (.inl t)&&τ.qS)&&((P.readableRec t&&decide (t<P.types.size))&&YZ P τs ts)
 |_,_=>false
theorem LM: ∀{τs:List Ty} {ts:List TypeId},YZ P τs ts=true→τs.length=ts.length∧ ∀(j:Nat) τ t,τs[j]? =some τ→ts[j]? =some t→(kW P τ t∧τ.qS=true∧P.readableRec t=true∧t<P.types.size)
 |[],[],_=>⟨rfl,λj τ t h=>by simp at h⟩
 |τ::τs,t::ts,h=>by
  simp only[YZ,bM]at h
  obtain⟨⟨h1,h2⟩,⟨h3,h4⟩,h5⟩:=h
  obtain⟨hl,ih⟩:=LM h5
  refine⟨by simp[hl],λj τ' t' ha hb=> ?_⟩
  cases j with
  |zero=>
   simp only[NB,iA]at ha hb
   subst ha;subst hb
   exact⟨iF h1,h2,h3,bt h4⟩
  |succ j=>exact ih j τ' t' (by simpa using ha) (by simpa using hb)
 |[],_::_,h|_::_,[],h=>by simp[YZ]at h
theorem Y0{H:Type}{enc:TypeId×Value→H}{w:World}{fn:Func}{args:Array Value}{ds:List (DataW H)}{ps:List MemPlace}{r:Reach}{b0:Nat}(laid:laidOutB P=true)(τs:List Ty)
  (hA:DataW.TrodAll enc P w 0 (λ_=>true) true fn.params.toList args.toList ds ps) (DQ:YZ P τs fn.params.toList=true)
  (hv: ∀(j:Nat) t v,fn.params[j]? =some t→args[j]? =some v→Value.okWide P w r b0 t v):
  (∃x:HP (τs.map .v),kC w (λ_=>False) (τs.map .v) x args.toList∧WFs τs x)∧ ∀w',Below w.heap.size w w'→ ∃I4,DataW.TrodAll enc P w' 0 (λb=>decide (b<w.heap.size)) true fn.params.toList args.toList ds I4:=
 J8 laid hA (LM DQ).1 (LM DQ).2 (λj t v h h'=>hv j t v (by rw[iz]at h;exact h) (by rw[iz]at h';exact h'))
end VM
end
