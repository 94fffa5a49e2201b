/- A part of the proof of BookAll of layer 18: a machine that reads a function of the program as an equation between values. -/
import Derived.Test.YtfdcmiodcijmmaaGreatVm6
import Derived.Laws.StructEq
import Derived.OpenShut
import Derived.ChangeShapes
import Derived.ChangeMaps5
import Derived.RowKit
import Derived.ChangeOld
import Derived.Carry
import Derived.Below
import Derived.Test.YtfdcmiodcijmmaaGreatVm0
set_option linter.all false
open List renaming length→ℓ
noncomputable section
section
namespace VM
open Go
variable{P:Program}{E:Env}{o:Oper}{a:Act}{w:World}{M:Nat→Prop}{ν:Nat→Value}{σ:St}{c:Ctx}{α:Type}{r:α}{next:Act→World→Prop}{Q:Exit→Act→World→Prop}
theorem GA{m:AM}{ms:List AM}(x:HP (m::ms))(i:Nat)(σ:St):entry (m::ms) x i σ=entry ms (nP x) (i+1) (Gl m (lP x) i σ):=by
 cases ms with
 |nil=>simp[entry,lP]
 |cons n ms=>simp[entry,lP,nP]
theorem Core.qv{tm:Array Value}(h:Core c σ tm w M ν){id:Nat}{v:Value}{e:aI}(aF:σ.H id=none)(ID:ER w M v e)
  (hd: ∀b,dd v=some b→ ∀i e',σ.H i=some e'→e'.mut→dd (ν i)≠some b) (hn: ∀b,dd v=some b→c.B≤b∨c.may b) (ho: ∀b e0 l0,e= .own e0 l0→dd v=some b→ ¬c.M0 b)
  (lB: ∀τ x p j,e= .dT τ x p j→a8 σ.H id (some e) j≠none∧ ∃b,v= .pointer (some ⟨b,0,none⟩)∧w.cell? ⟨b,bs p τ,none⟩=some (updν ν id v j):=by intro _ _ _ _ h;cases h):
  Core c ⟨σ.T,a8 σ.H id (some e)⟩ tm w M (updν ν id v):=by
 have hm:=Mem.qv h.mem (id:=id) (v:=v) (e:=e) (λe' nV=>by rw[aF]at nV;cases nV) ID hd hn ho (.inl aF) lB
 refine h.tr ⟨hm,.refl w M,⟨λi e1 hi=> ?_,λi hi=> ?_⟩⟩
 ·have a7:i≠id:=λe=>by rw[e,aF]at hi;cases hi
  exact⟨e1,by rw[aq _ _ a7];exact hi,.refl e1⟩
 ·have a7:i≠id:=λe=>hi (e▸aF)
  simp[updν,a7]
theorem Core.put{tm:Array Value}(h:Core c σ tm w M ν){d:Nat}{x:aM}(hx:VR w M σ.H ν x (tm.getD d undef)):Core c (σ.put d x) tm w M ν:=by
 refine⟨h.mem,λi=> ?_⟩
 by_cases hi:i=d
 ·subst hi;rw[oM];exact hx
 ·rw[tL _ _ hi];exact h.tmp i
theorem vP{tm:Array Value}: ∀{ms:List AM} {x:HP ms} {vs:List Value} {i:Nat} {σ:St} {ν:Nat→Value} {used:List Nat},Core c σ tm w M ν→gj w M ms x vs→(∀j v,vs[j]? =some v→tm.getD (i+j) undef=v)→
  (∀j,16*i≤j→σ.H j=none)→(∀j e b,σ.H j=some e→e.mut→dd (ν j)=some b→b∈used)→(used++cF ms vs).Nodup→(∀b∈cF ms vs,c.may b)→(∀b,c.may b→ ¬c.M0 b)→
  ∃ν',Core c (entry ms x i σ) tm w M ν'
 |[],x,vs,i,σ,ν,used,h,_,_,_,_,_,_,_=>⟨ν,h⟩
 |m::ms,x,vs,i,σ,ν,used,h,hA,DX,fk,yH,pJ,GB,xU=>by
  rw[GA]
  simp only[gj]at hA
  obtain⟨v,CP,rfl,h1,h2⟩:=hA
  have hv:tm.getD i undef=v:=by simpa using DX 0 v rfl
  have Ak: ∀j u,CP[j]? =some u→tm.getD (i+1+j) undef=u:=λj u hj=>by
   have:=DX (j+1) u (by simpa using hj)
   rwa [show i+(j+1)=i+1+j from by omega]at this
  have aF:σ.H (16*i+15)=none:=fk _ ω
  have SF:cF (m::ms) (v::CP)=cf m v++cF ms CP:=rfl
  rw[SF]at pJ GB
  have jO: ∀b,b∈cf m v→ ∀j e',σ.H j=some e'→e'.mut→dd (ν j)≠some b:=λb hb j e' hj fc cY=>
   fW pJ (yH j e' b hj fc cY) (bG _ hb)
  have pv: ∀{σ':St} {ν':Nat→Value},Core c σ' tm w M ν'→(∀j,16*(i+1)≤j→σ'.H j=none)→(∀j e b,σ'.H j=some e→e.mut→dd (ν' j)=some b→b∈used++cf m v)→ ∃ν'',Core c (entry ms (nP x) (i+1) σ') tm w M ν'':=
   λh' sa IQ=>vP h' h2 Ak sa IQ (by rw[aT];exact pJ) (λb hb=>GB b (ck _ hb)) xU
  have DR: ∀(e:aI) (v':Value),v'=v→(∀b,dd v=some b→b∈cf m v)→(∀j,16*(i+1)≤j→a8 σ.H (16*i+15) (some e) j=none)∧
    (∀j e1 b,a8 σ.H (16*i+15) (some e) j=some e1→e1.mut→dd (updν ν (16*i+15) v' j)=some b→b∈used++cf m v):=by
   rintro e v' rfl hb
   refine⟨λj hj=>by rw[aq _ _ ω];exact fk j ω,λj e1 b hj fc cY=> ?_⟩
   by_cases yG:j=16*i+15
   ·subst yG
    simp only[updν,fO]at cY
    exact ck _ (hb b cY)
   ·rw[aq _ _ yG]at hj
    simp only[updν,yG,dW]at cY
    exact bG _ (yH j e1 b hj fc cY)
  cases m with
  |v τ=>
   refine pv (σ':=σ.put i (.val τ (lP x))) (h.put ?_) (λj hj=>fk j ω) (λj e b hj fc cY=>bG _ (yH j e b hj fc cY))
   simp only[VR,hv];exact h1
  |fn f τ=>
   refine pv (σ':=σ.put i (.Dh f (lA τ (lP x)))) (h.put ?_) (λj hj=>fk j ω) (λj e b hj fc cY=>bG _ (yH j e b hj fc cY))
   rw[hv]
   simp only[A1,VR]at h1 ⊢
   obtain⟨us,hu,Gc⟩:=h1
   exact⟨us,hu,fH.free Gc⟩
  |own e=>
   have wC: ∀b,dd v=some b→b∈cf (.own e) v:=λb hb=>by simp[cf,hb]
   have hc:=h.qv aF (v:=v) (e:= .own e (lP x)) h1 (λb hb=>jO b (wC b hb)) (λb hb=> .inr (GB b (bG _ (wC b hb)))) (λb _ _ _ hb=>xU b (GB b (bG _ (wC b hb))))
   obtain⟨sa,IQ⟩:=DR (.own e (lP x)) v rfl wC
   refine pv (σ':=(σ.put i (.ref (16*i+15))).fY (16*i+15) (some (.own e (lP x)))) (ν':=updν ν (16*i+15) v) (hc.put (d:=i) (x:= .ref (16*i+15)) ?_) sa IQ
   simp only[VR,hv]
   exact⟨by rw[al];simp,by simp[updν]⟩
  |lo e=>
   have wC: ∀b,dd v=some b→b∈cf (.lo e) v:=λb hb=>by simp[cf,hb]
   have hc:=h.qv aF (v:=v) (e:= .own e (lP x)) h1 (λb hb=>jO b (wC b hb)) (λb hb=> .inr (GB b (bG _ (wC b hb)))) (λb _ _ _ hb=>xU b (GB b (bG _ (wC b hb))))
   obtain⟨sa,IQ⟩:=DR (.own e (lP x)) v rfl wC
   refine pv (σ':=(σ.put i (.ref (16*i+15))).fY (16*i+15) (some (.own e (lP x)))) (ν':=updν ν (16*i+15) v) (hc.put (d:=i) (x:= .ref (16*i+15)) ?_) sa IQ
   simp only[VR,hv]
   exact⟨by rw[al];simp,by simp[updν]⟩
  |io τ=>
   have wC: ∀b,dd v=some b→b∈cf (.io τ) v:=λb hb=>by simp[cf,hb]
   have hc:=h.qv aF (v:=v) (e:= .obj τ (lP x)) h1 (λb hb=>jO b (wC b hb)) (λb hb=> .inr (GB b (bG _ (wC b hb)))) (λb _ _ he=>by cases he)
   obtain⟨sa,IQ⟩:=DR (.obj τ (lP x)) v rfl wC
   refine pv (σ':=(σ.put i (.ft (16*i+15) [])).fY (16*i+15) (some (.obj τ (lP x)))) (ν':=updν ν (16*i+15) v) (hc.put (d:=i) (x:= .ft (16*i+15) []) ?_) sa IQ
   simp only[A1,ER]at h1
   obtain⟨b,cs,t,KR,_⟩:=h1
   simp only[VR,hv]
   exact⟨_,al _ _ _,trivial,b,by simp[updν,KR],KR⟩
  |ft τ=>
   refine pv (σ':=σ.put i (.mw τ (lP x))) (h.put ?_) (λj hj=>fk j ω) (λj e b hj fc cY=>bG _ (yH j e b hj fc cY))
   rw[hv]
   simp only[A1,VR]at h1 ⊢
   exact h1
  |ptr τ=>
   refine pv (σ':=σ) h (λj hj=>fk j ω) (λj e b hj fc cY=>bG _ (yH j e b hj fc cY))
  |sp τ n e=>
   refine pv (σ':=σ) h (λj hj=>fk j ω) (λj e b hj fc cY=>bG _ (yH j e b hj fc cY))
def oQ(tm:Array Value):ResultVar→Sem Value
 | .tmp t=>pure (tm.getD t undef)
 | .cell x t=>do loadVar t (←asAddr (tm.getD x undef))
def uT(P:Program)(tm:Array Value)(w:World)(rv:ResultVar)(u:Value):Prop:=(oQ tm rv).run P w= .ok u w
def AN(P:Program)(tm:Array Value)(w:World):List (ResultVar ⊕ Nat)→List Value→List Value→Prop
 |[],us,ps=>us=[]∧ps=[]
 | .inl rv::rs,us,ps=> ∃u wI,us=u::wI∧uT P tm w rv u∧AN P tm w rs wI ps
 | .inr i::rs,us,ps=> ∃p zU,ps=p::zU∧p=tm.getD i undef∧AN P tm w rs us zU
theorem Core.N6{tm:Array Value}{H1:Nat→Option aI}{M1:Nat→Prop}(h: ∀i,VR w M σ.H ν (σ.T i) (tm.getD i undef))(k:dq w M w M1)(g:nM σ.H ν H1 ν): ∀i,VR w M1 H1 ν (σ.T i) (tm.getD i undef):=
 λi=>VR.bm k g (h i)
theorem vQ(hE:EnvTy P E){tm:Array Value}{H0 Hq:Nat→Option aI}{M1:Nat→Prop}{uo uf:fu}{io:List (Nat×AM)}{hs:List Nat}(h:gk c w M ν H0 σ.H Hq M1 uo uf io hs)(ht: ∀i,VR w M1 σ.H ν (σ.T i) (tm.getD i undef))
  {m:AM} {rs:ResultVar ⊕ Nat} {k:m.den→St→Option α} (hk:AF E m rs σ k=some r):
  ∃y σ' CK CL zN Kl M2 u,k y σ'=some r∧σ'.T=σ.T∧gk c w M ν H0 σ'.H Kl M2 CK CL zN (hs++cf m u)∧dq w M1 w M2∧nM σ.H ν σ'.H ν∧A1 w M2 m y u∧
   ((m.eU=false∧m.NR=false∧ ∃rv,rs= .inl rv∧uT P tm w rv u)∨(m.eU=true∧ ∃i,rs= .inr i∧u=tm.getD i undef)):=by
 unfold AF at hk
 split at hk
 ·
  rename_i τ t k
  obtain⟨y,rd,ups,hk,hy⟩:=w5 h.mem (ht t) hk
  have GC:uT P tm w (.tmp t) (tm.getD t undef):=by simp[uT,oQ]
  rcases hy with⟨rfl,hV⟩|⟨id,e,l,rfl,aF,hV⟩
  ·exact⟨y,σ,uo,uf,io,Hq,M1,_,hk,rfl,by simpa [cf]using h,.refl w M1,.refl _ ν,hV,.inl ⟨rfl,rfl,_,rfl,GC⟩⟩
  ·obtain⟨M2,hA,hK,BJ⟩:=h.freeze aF
   exact⟨y,_,uo,_,io,Hq,M2,_,hk,rfl,(by simp only[cf,bF];exact hA),hK,.Nh aF ⟨rfl,rfl⟩,hV M2 BJ,.inl ⟨rfl,rfl,_,rfl,GC⟩⟩
 ·
  rename_i τ x t k
  split at hk
  ·rename_i τ' vD
   obtain⟨e1,IY⟩:=cy hk
   clear hk
   subst e1
   obtain⟨υ,z,rd,hk,b,off,cs,hv,m2,gK⟩:=vC h.mem (ht x) IY
   obtain⟨e2,IX⟩:=aJ hk
   subst e2
   refine⟨_,σ,uo,uf,io,Hq,M1,aZ _ cs,IX,rfl,by simpa [cf]using h,.refl w M1,.refl _ ν,V.aZ gK,.inl ⟨rfl,rfl,_,rfl,?_⟩⟩
   simp only[uT,oQ,hv]
   simp[asAddr,vA (hE.ty t _ vD) m2 gK]
  ·cases hk
 ·
  rename_i e t k
  have hv:=ht t
  have GC:uT P tm w (.tmp t) (tm.getD t undef):=by simp[uT,oQ]
  split at hk
  ·rename_i hT
   rw[hT]at hv
   obtain⟨ad,hv⟩:=VR.emp.1 hv
   have hb:dd (.slice ad 0 0)=none:=by cases ad<;>simp[dd]
   exact⟨[],σ,uo,uf,io,Hq,M1,_,hk,rfl,by rw[hv];simpa [cf,hb]using h,.refl w M1,.refl _ ν,by rw[hv];simp only[A1,ER];exact .inl ⟨trivial,ad,rfl⟩,.inl ⟨rfl,rfl,_,rfl,GC⟩⟩
  ·rename_i id hT
   rw[hT]at hv
   simp only[VR]at hv
   split at hk
   ·rename_i e' l aF
    obtain⟨e1,hk⟩:=aJ hk
    cases e1
    refine⟨_,_,_,uf,io,_,M1,ν id,hk,rfl,(by simp only[cf];exact h.hand aF),.refl w M1,.Nh aF (aI.fV _),h.mem.fM id _ aF,.inl ⟨rfl,rfl,_,rfl,by rw[←hv.2];exact GC⟩⟩
   ·cases hk
  ·cases hk
 ·
  rename_i τ i k
  have hv:=ht i
  split at hk
  ·rename_i id hT
   rw[hT]at hv
   split at hk
   ·rename_i υ z aF
    obtain⟨e1,hk⟩:=aJ hk
    subst e1
    simp only[VR]at hv
    obtain⟨e,he,gT⟩:=hv
    rw[aF]at he;cases he
    simp only[AR]at gT
    obtain⟨_,b,hb,hv⟩:=gT
    have KR:tm.getD i undef=ν id:=by rw[hv,hb];rfl
    refine⟨_,_,uo,uf,_,_,M1,ν id,hk,rfl,(by simp only[cf];exact h.So aF),.refl w M1,.Nh aF (aI.fV _),h.mem.fM id _ aF,.inr ⟨rfl,i,rfl,KR.symm⟩⟩
   ·cases hk
  ·cases hk
 ·
  rename_i e i k
  have hv:=ht i
  split at hk
  ·rename_i id hT
   rw[hT]at hv
   simp only[VR]at hv
   split at hk
   ·rename_i e' l aF
    obtain⟨e1,hk⟩:=aJ hk
    cases e1
    refine⟨_,_,uo,uf,_,_,M1,ν id,hk,rfl,(by simp only[cf];exact h.Q4 aF),.refl w M1,.Nh aF (aI.fV _),h.mem.fM id _ aF,.inr ⟨rfl,i,rfl,hv.2.symm⟩⟩
   ·cases hk
  ·cases hk
 ·
  rename_i τ t k
  have hv:=ht t
  have GC:uT P tm w (.tmp t) (tm.getD t undef):=by simp[uT,oQ]
  split at hk
  ·rename_i id hT
   rw[hT]at hv
   split at hk
   ·rename_i υ z aF
    obtain⟨e1,hk⟩:=aJ hk
    subst e1
    simp only[VR]at hv
    obtain⟨e,he,gT⟩:=hv
    rw[aF]at he;cases he
    simp only[AR]at gT
    obtain⟨_,b,hb,hv⟩:=gT
    have KR:tm.getD t undef=ν id:=by rw[hv,hb];rfl
    refine⟨_,_,uo,uf,_,_,M1,ν id,hk,rfl,(by simp only[cf];exact h.So aF),.refl w M1,.Nh aF (aI.fV _),h.mem.fM id _ aF,.inl ⟨rfl,rfl,_,rfl,by rw[←KR];exact GC⟩⟩
   ·cases hk
  ·cases hk
 ·
  rename_i τ n e x t k
  split at hk
  ·rename_i τ' id vD hT
   obtain⟨e1,IY⟩:=cy hk
   clear hk
   subst e1
   have hv:=ht x
   rw[hT]at hv
   split at IY
   ·rename_i υ z q j aF
    obtain⟨ND,IX⟩:=bn IY
    clear IY
    have:=sb ND
    subst this
    obtain⟨e2,Vu⟩:=aJ IX
    clear IX
    subst e2
    split at Vu
    ·rename_i e' l hj
     obtain⟨e3,hk4⟩:=aJ Vu
     clear Vu
     cases e3
     obtain⟨y,hk5,mF,_⟩:=yb hk4
     clear hk4
     obtain⟨b,cs,te,fR,e0,hb,hg,hM,hr,nO,h1,hq,dv,hj0⟩:=h.mem.linked aF
     simp only[VR]at hv
     obtain⟨e1,yd,gT⟩:=hv
     rw[aF]at yd;cases yd
     simp only[AR]at gT
     obtain⟨hi,b',cY,hu⟩:=gT
     rw[hb]at cY;cases cY
     have hl:cs.toList.length=υ.size:=by rw[nO,cK (by simp only[aQ];omega),hr.length]
     have WM:cs.toList=cL fR (dO υ n) [ν j]:=by simpa [bs]using nO
     have m2:At w b 0 cs.toList:=by
      have:=At.of_block hg 0 cs.toList.length
      rw[bY,ni]at this
      exact this
     have hh:=ra (w:=w) (M:=M1) (e:=e) (lZ hq) hr WM
     have hA:=h.hand hj
     rw[←hh.1]at hA
     refine⟨y,_,_,_,_,_,M1,.agg cs,hk5,rfl,hA,.refl w M1,.Nh hj (aI.fV _),?_,.inl ⟨rfl,rfl,_,rfl,?_⟩⟩
     ·simp only[A1]
      exact⟨cs,fR,ν j,l,z,rfl,lZ hq,hr,WM,h.mem.fM j _ hj,mF⟩
     ·simp only[uT,oQ,hu]
      simp[asAddr]
      exact vB (P:=P) (hE.ty t _ vD) (ye (lZ hq)) m2 hl
    ·cases Vu
   ·cases IY
  ·cases hk
 ·cases hk
theorem yI(hE:EnvTy P E){tm:Array Value}{H0:Nat→Option aI}: ∀{ms:List AM} {rs:List (ResultVar ⊕ Nat)} {σ:St} {Hq:Nat→Option aI} {M1:Nat→Prop} {uo uf:fu} {io:List (Nat×AM)} {hs:List Nat} {K:HP ms→Option α},
  gk c w M ν H0 σ.H Hq M1 uo uf io hs→(∀i,VR w M1 σ.H ν (σ.T i) (tm.getD i undef))→BD E ms rs σ K=some r→
  ∃y us ps H2 CK CL zN Kl M2,K y=some r∧gk c w M ν H0 H2 Kl M2 CK CL zN (hs++aO ms us ps)∧dq w M1 w M2∧RR w M2 ms y us ps∧AN P tm w rs us ps
 |[],[],σ,Hq,M1,uo,uf,io,hs,K,h,ht,hk=>⟨(),[],[],σ.H,uo,uf,io,Hq,M1,hk,by simpa [aO]using h,.refl w M1,⟨rfl,rfl⟩,⟨rfl,rfl⟩⟩
 |[m],[q],σ,Hq,M1,uo,uf,io,hs,K,h,ht,WN=>by
  obtain⟨y,σ',CK,CL,zN,Kl,M2,u,hk,hT,hA,hK,hG,hy,hu⟩:=vQ hE h ht (WN:AF E m q σ _=some r)
  clear WN
  rcases hu with⟨h1,h2,rv,rfl,hv⟩|⟨h1,i,rfl,hv⟩
  ·refine⟨y,[u],[],_,_,_,_,_,M2,hk,by simpa [aO,h1]using hA,hK,?_,?_⟩
   ·simp only[RR];exact .inr ⟨u,[],h1,h2,rfl,hy,by simp⟩
   ·simp only[AN];exact⟨u,[],rfl,hv,by simp⟩
  ·refine⟨y,[],[u],_,_,_,_,_,M2,hk,by simpa [aO,h1]using hA,hK,?_,?_⟩
   ·simp only[RR];exact .inl ⟨u,[],h1,rfl,hy,by simp⟩
   ·simp only[AN];exact⟨u,[],rfl,hv,by simp⟩
 |m::n::ms,q::rs,σ,Hq,M1,uo,uf,io,hs,K,h,ht,WN=>by
  obtain⟨y,σ',CK,CL,zN,Kl,M2,u,IY,hT,hA,hK,hG,hy,hu⟩:=vQ hE h ht (WN:AF E m q σ _=some r)
  obtain⟨ys,us,ps,H3,uo3,uf3,io3,Z5,M3,hk,hA3,hK3,Vn,Wh⟩:=yI (ms:=n::ms) hE hA (λi=>by rw[hT];exact Core.N6 ht hK hG i) IY
  have AK:A1 w M3 m y u:=A1.qu hK3 (λb hb=>⟨rfl,hA3.hM b (bG _ (ck _ hb))⟩) hy
  clear WN
  rcases hu with⟨h1,h2,rv,rfl,hv⟩|⟨h1,i,rfl,hv⟩
  ·refine⟨(y,ys),u::us,ps,H3,uo3,uf3,io3,Z5,M3,hk,?_,hK.trans hK3,?_,?_⟩
   ·have:aO (m::n::ms) (u::us) ps=cf m u++aO (n::ms) us ps:=by rw[aO];simp[h1]
    rw[this,←aT];exact hA3
   ·rw[RR];exact .inr ⟨u,us,h1,h2,rfl,AK,Vn⟩
   ·simp only[AN];exact⟨u,us,rfl,hv,Wh⟩
  ·refine⟨(y,ys),us,u::ps,H3,uo3,uf3,io3,Z5,M3,hk,?_,hK.trans hK3,?_,?_⟩
   ·have:aO (m::n::ms) us (u::ps)=cf m u++aO (n::ms) us ps:=by rw[aO];simp[h1]
    rw[this,←aT];exact hA3
   ·rw[RR];exact .inl ⟨u,ps,h1,rfl,AK,Vn⟩
   ·simp only[AN];exact⟨u,ps,rfl,hv,Wh⟩
 |[],_::_,_,_,_,_,_,_,_,_,_,_,hk=>by simp[BD]at hk
 |[_],[],_,_,_,_,_,_,_,_,_,_,hk=>by simp[BD]at hk
 |[_],_::_::_,_,_,_,_,_,_,_,_,_,_,hk=>by simp[BD]at hk
 |_::_::_,[],_,_,_,_,_,_,_,_,_,_,hk=>by simp[BD]at hk
end VM
end
section
namespace VM
open Go
variable{P:Program}{E:Env}{o:Oper}{a:Act}{w:World}{M:Nat→Prop}{ν:Nat→Value}{σ:St}{c:Ctx}{α:Type}{r:α}{next:Act→World→Prop}{Q:Exit→Act→World→Prop}
theorem AO{tm:Array Value}: ∀{rv:List ResultVar} {is:List (ResultVar ⊕ Nat)} {us ps:List Value},AN P tm w (rv.map .inl++is) us ps→
  ∃Nk WO,us=Nk++WO∧Nk.length=rv.length∧(∀i (h:i<rv.length) (h':i<Nk.length),uT P tm w rv[i] Nk[i])∧AN P tm w is WO ps
 |[],is,us,ps,h=>⟨[],us,rfl,rfl,λi h=>by simp at h,h⟩
 |rv::rvs,is,us,ps,h=>by
  simp only[bA,nj,AN]at h
  obtain⟨u,wI,rfl,h1,h2⟩:=h
  obtain⟨Nk,WO,rfl,hl,h3,h4⟩:=AO h2
  refine⟨u::Nk,WO,rfl,by simp[hl],λi hi po=> ?_,h4⟩
  cases i with
  |zero=>exact h1
  |succ i=>exact h3 i (by simpa using hi) (by simpa using po)
theorem oR{tm:Array Value}: ∀{ms:List AM} {vs:List Value} {i:Nat} {us ps:List Value},vs.length=ms.length→(∀j v m,vs[j]? =some v→ms[j]? =some m→m.eU=true→tm.getD (i+j) undef=v)→AN P tm w (rH ms i) us ps→us=[]∧ps=du ms vs
 |[],vs,i,us,ps,_,_,h=>by simp only[rH,AN]at h;simpa [du]using h
 |m::ms,[],_,_,_,hl,_,_=>by simp at hl
 |m::ms,v::vs,i,us,ps,hl,DX,h=>by
  have Ak: ∀j u m,vs[j]? =some u→ms[j]? =some m→m.eU=true→tm.getD (i+1+j) undef=u:=λj u m hj hm pw=>by
   have:=DX (j+1) u m (by simpa using hj) (by simpa using hm) pw
   rwa [show i+(j+1)=i+1+j from by omega]at this
  have zO:vs.length=ms.length:=by simpa using hl
  cases m with
  |io τ=>
   simp only[rH,AN]at h
   obtain⟨p,zU,rfl,hp,h⟩:=h
   obtain⟨h1,h2⟩:=oR zO Ak h
   refine⟨h1,?_⟩
   have:=DX 0 v (.io τ) rfl rfl rfl
   simp only[ik]at this
   simp[du,AM.eU,h2,hp,this]
  |lo e=>
   simp only[rH,AN]at h
   obtain⟨p,zU,rfl,hp,h⟩:=h
   obtain⟨h1,h2⟩:=oR zO Ak h
   refine⟨h1,?_⟩
   have:=DX 0 v (.lo e) rfl rfl rfl
   simp only[ik]at this
   simp[du,AM.eU,h2,hp,this]
  |v τ=>
   obtain⟨h1,h2⟩:=oR zO Ak (show AN P tm w (rH ms (i+1)) us ps from h)
   exact⟨h1,by simp[du,AM.eU,h2]⟩
  |own τ=>
   obtain⟨h1,h2⟩:=oR zO Ak (show AN P tm w (rH ms (i+1)) us ps from h)
   exact⟨h1,by simp[du,AM.eU,h2]⟩
  |fn f τ=>
   obtain⟨h1,h2⟩:=oR zO Ak (show AN P tm w (rH ms (i+1)) us ps from h)
   exact⟨h1,by simp[du,AM.eU,h2]⟩
  |ft τ=>
   obtain⟨h1,h2⟩:=oR zO Ak (show AN P tm w (rH ms (i+1)) us ps from h)
   exact⟨h1,by simp[du,AM.eU,h2]⟩
  |ptr τ=>
   obtain⟨h1,h2⟩:=oR zO Ak (show AN P tm w (rH ms (i+1)) us ps from h)
   exact⟨h1,by simp[du,AM.eU,h2]⟩
  |sp τ n e=>
   obtain⟨h1,h2⟩:=oR zO Ak (show AN P tm w (rH ms (i+1)) us ps from h)
   exact⟨h1,by simp[du,AM.eU,h2]⟩
theorem D0{fn:Func}{tm:Array Value}{us:List Value}(hl:us.length=fn.results.toList.length)(h: ∀i (h:i<fn.results.toList.length) (h':i<us.length),uT P tm w fn.results.toList[i] us[i]):
  (results fn tm).run P w= .ok (qt us) w:=by
 have key: ∀(rs:List ResultVar) (us:List Value),us.length=rs.length→(∀i (h:i<rs.length) (h':i<us.length),uT P tm w rs[i] us[i])→(rs.mapM (oQ tm)).run P w= .ok us w:=by
  intro rs
  induction rs with
  |nil=>intro us hl _;cases us with
   |nil=>simp
   |cons _ _=>simp at hl
  |cons r rs ih=>intro us hl h;cases us with
   |nil=>simp at hl
   |cons u us=>
    have h0:(oQ tm r).run P w= .ok u w:=h 0 (by simp) (by simp)
    have h1:=ih us (by simpa using hl) (λi hi po=>h (i+1) (by simpa using hi) (by simpa using po))
    simp[s7,h0,h1]
 have h2:=key fn.results.toList us hl h
 have h3:results fn tm=(do let vs ←fn.results.mapM (oQ tm);pure (if h:vs.size=1 then vs[0]else .tuple vs)):=by
  unfold results
  congr 1
 rw[h3,Array.mapM_eq_mapM_toList]
 simp only[Sem.run_bind,Sem.run_map,h2]
 unfold qt
 by_cases h3:us.length=1
 ·simp[h3]
 ·simp[h3]
theorem AP(hE:mI P E){f:FuncId}{fn:Func}(hf:P.funcs[f]? =some fn)(Vw:E.nt=fn.ntmps){args res:List AM}(pw: ∀i m,args[i]? =some m→m.eU=true→i∈E.io)(WQ: ∀i∈E.io,i<args.length)(hlen:args.length≤fn.ntmps)
  {M0:Nat→Prop} {vs:List Value} {x:HP args} {y:HP res} (m5: ∀b,M0 b→b<w.heap.size) (hA:gj w (λb=>M0 b∨b∈cF args vs) args x vs) (pJ:(cF args vs).Nodup) (qx: ∀b∈cF args vs,¬M0 b)
  (h:CN E fn args res x=some y):
  Calls P f vs.toArray w λe w'=> ∃v,e= .returned v∧ ∃us M',v=qt us∧RR w' M' res y us (du args vs)∧Left w M0 (cF args vs) w' M'∧(aO res us (du args vs)).Nodup∧ ∀b∈aO res us (du args vs),¬M0 b:=by
 unfold CN at h
 split at h
 ·cases h
 rename_i cd hb
 simp only at h
 have hvl: ∀{ms:List AM} {x:HP ms} {vs:List Value} {M:Nat→Prop},gj w M ms x vs→vs.length=ms.length:=by
  intro ms
  induction ms with
  |nil=>intro x vs M h;simp only[gj]at h;subst h;rfl
  |cons m ms ih=>intro x vs M h;simp only[gj]at h;obtain⟨v,CP,rfl,_,h⟩:=h;simp[ih h]
 have NJ:=hvl hA
 let tm:Array Value:=vs.toArray++Array.replicate (fn.ntmps-vs.toArray.size) undef
 have DX: ∀j v,vs[j]? =some v→tm.getD j undef=v:=by
  intro j v hj
  have dv:j<vs.length:=(oz.1 hj).1
  rw[nf,Array.getElem?_append_left (by simpa using dv),xx,hj];rfl
 have mb:tm.size=fn.ntmps:=by simp[tm];omega
 have hhb: ∀{ms:List AM} {x:HP ms} {vs:List Value} {M:Nat→Prop},gj w M ms x vs→ ∀b∈cF ms vs,b<w.heap.size:=by
  intro ms
  induction ms with
  |nil=>intro x vs M h b hb;simp[cF]at hb
  |cons m ms ih=>
   intro x vs M h b hb
   simp only[gj]at h
   obtain⟨v,CP,rfl,h1,h⟩:=h
   simp only[cF,br]at hb
   rcases hb with hb|hb
   ·cases m with
    |v _=>simp[cf]at hb
    |fn _ _=>simp[cf]at hb
    |ft _=>simp[cf]at hb
    |own e=>
     simp only[cf,c5,A1,ER]at hb h1
     rcases h1 with⟨_,a,hv⟩|⟨b',cs,t,cap,hv,hg,_⟩
     ·rw[hv]at hb;cases a<;>simp[dd]at hb
     ·rw[hv]at hb
      simp only[dd]at hb
      split at hb
      ·cases hb
      ·simp only[eJ]at hb;subst hb;exact lt_of_block hg
    |lo e=>
     simp only[cf,c5,A1,ER]at hb h1
     rcases h1 with⟨_,a,hv⟩|⟨b',cs,t,cap,hv,hg,_⟩
     ·rw[hv]at hb;cases a<;>simp[dd]at hb
     ·rw[hv]at hb
      simp only[dd]at hb
      split at hb
      ·cases hb
      ·simp only[eJ]at hb;subst hb;exact lt_of_block hg
    |io τ=>
     simp only[cf,c5,A1,ER]at hb h1
     obtain⟨b',cs,t,hv,hg,_⟩:=h1
     rw[hv]at hb
     simp only[dd,eJ]at hb;subst hb;exact lt_of_block hg
    |ptr τ=>
     simp only[cf,c5,A1,ER]at hb h1
     obtain⟨b',cs,t,hv,hg,_⟩:=h1
     rw[hv]at hb
     simp only[dd,eJ]at hb;subst hb;exact lt_of_block hg
    |sp τ n e=>
     simp only[A1]at h1
     obtain⟨cs,fR,u,l,z,rfl,hq,hr,nO,hu,_⟩:=h1
     rw[(ra hq hr nO).1,c5]at hb
     simp only[ER]at hu
     rcases hu with⟨_,a,hv⟩|⟨b',cs,t,cap,hv,hg,_⟩
     ·rw[hv]at hb;cases a<;>simp[dd]at hb
     ·rw[hv]at hb
      simp only[dd]at hb
      split at hb
      ·cases hb
      ·simp only[eJ]at hb;subst hb;exact lt_of_block hg
   ·exact ih h b hb
 let cx:Ctx:={B:=w.heap.size,w0:=w,M0:=M0,may:=λb=>b∈cF args vs,arg:=λi=>tm.getD i undef}
 have Sf:Mem cx (λ_=>none) w (λb=>M0 b∨b∈cF args vs) (λ_=>undef):=
  ⟨λi e hi=>(by cases hi),λi j e e' b _ hi=>(by cases hi),λi e b hi=>(by cases hi),λi e l b hi=>(by cases hi),λi τ x p j hi=>(by cases hi),λb hb=> .inl hb,λb hb=>hb.elim (m5 b) (hhb hA b),λ_ _ _=>rfl,aB _,⟨m5,qx⟩,rfl,rfl,rfl⟩
 have IH:Core cx ⟨λ_=> .any,λ_=>none⟩ tm w (λb=>M0 b∨b∈cF args vs) (λ_=>undef):=⟨Sf,λi=>by simp[VR]⟩
 obtain⟨ν',hc⟩:=vP (i:=0) (used:=[]) IH hA (λj v hj=>by rw[dG];exact DX j v hj) (λ_ _=>rfl) (λj e b hj=>by cases hj) (by simpa using pJ) (λb hb=>hb) (λb hb=>qx b hb)
 have hI:Inv cx E (entry args x 0 ⟨λ_=> .any,λ_=>none⟩) {tmps:=tm,defers:=[]} w:=⟨⟨_,_,hc⟩,by rw[Vw,mb],rfl,λi _=>rfl⟩
 refine calls_of_wp hf hb ?_
 have WR: ∀(σ':St) (a':Act) (w':World),BD E res (fn.results.toList.map .inl++rH args 0) σ' some=some y→Inv cx E σ' a' w'→
   a'.defers=[]∧ ∃v,(results fn a'.tmps).run P w'= .ok v w'∧ ∃v',Ending.returned v= .returned v'∧ ∃us M',v'=qt us∧RR w' M' res y us (du args vs)∧Left w M0 (cF args vs) w' M'∧(aO res us (du args vs)).Nodup∧ ∀b∈aO res us (du args vs),¬M0 b:=by
  rintro σ' a' w' hk ⟨⟨M1,ν1,yl⟩,M8,hd1,qw⟩
  obtain⟨y',us,ps,H2,uo,uf,io,Hq,M2,hy,Le,hK,Km,hRs⟩:=yI (P:=P) hE.toEnvTy (gk.start yl.mem) yl.tmp hk
  cases hy
  obtain⟨Nk,WO,rfl,hl,hv,aa4⟩:=AO hRs
  obtain⟨rfl,zT⟩:=oR (vs:=vs) NJ (λj v m hj hm yt=>by
   rw[dG]
   rw[qw j (pw j m hm yt)]
   exact DX j v hj) aa4
  rw[bF]at*
  subst zT
  simp only[c7]at Le
  have gl: ∀b∈aO res Nk (du args vs),b<w.heap.size→b∈cF args vs:=λb hb dv=>(Le.DI b hb).elim (λh'=>absurd dv (Nat.not_lt.2 h')) (λh=>h)
  have AK:dq w' M2 w' (λb=>M2 b∧(b<w.heap.size→M0 b∨b∈cF args vs)):=⟨aB _,λ_ _ _=>rfl,λ_ _ h=>h.1⟩
  refine⟨hd1,qt Nk,D0 hl hv,_,rfl,Nk,λb=>M2 b∧(b<w.heap.size→M0 b∨b∈cF args vs),rfl,RR.qu AK (λb hb=>⟨rfl,Km.mH b hb,λdv=> .inr (gl b hb dv)⟩) Km,⟨λb hb=>⟨Le.mem.sub b hb,λ_=> .inl hb⟩,λb hb=>Le.mem.xT b hb.1,λb dv hb=>hb.2 dv,λb dv hb=>Le.mem.frame b dv hb,Le.mem.size,Le.mem.os,Le.mem.tape,Le.mem.output⟩,Le.nd,λb hb h0=> ?_⟩
  rcases Le.DI b hb with h'|h'
  ·exact absurd (m5 b h0) (Nat.not_lt.2 h')
  ·exact qx b h' h0
 refine Jf (c:=cx) hE cd _ _ w _ _ _ _ hI h (fun σ' a' w' hk vL=> ?_) (λi σ' a' w' hk=>by cases hk) (fun σ' a' w' hk vL=> ?_)
 ·exact WR σ' a' w' hk vL
 ·exact WR σ' a' w' hk vL
theorem Lf(hE:mI P E){f:FuncId}{fn:Func}(hf:P.funcs[f]? =some fn)(tN:(fn.name== "runtime.NumGoroutine")=false)(Vw:E.nt=fn.ntmps)(S:iI)
  (pw: ∀i m,S.args[i]? =some m→m.eU=true→i∈E.io) (WQ: ∀i∈E.io,i<S.args.length) (hlen:S.args.length≤fn.ntmps) (hq:S.quiet=true→S.res.all AM.flat=true) (aa5:iX S.args=iX S.res)
  (cr: ∀x,CN E fn S.args S.res x=S.run x):fj P f S:=by
 refine⟨hq,aa5,λM0 w vs x y m5 hA pJ qx hy=> ?_⟩
 have hb:fn.body.isNone=false:=by
  have:=cr x
  rw[hy]at this
  unfold CN at this
  split at this
  ·cases this
  ·rename_i cd hcd;rw[hcd];rfl
 exact nQ hf tN hb (AP hE hf Vw pw WQ hlen m5 hA pJ qx (by rw[cr,hy]))
end VM
end
section
namespace VM
open Go
variable{P:Program}
def tO:Ty→List Value→Option (List Value)
 | .int k,v::r=>match v with
  | .int k' n=>if k'=k∧n=0 then some r else none
  |_=>none
 | .bool,v::r=>match v with
  | .bool false=>some r
  |_=>none
 | .str,v::r=>match v with
  | .string s=>if s.data.size=0 then some r else none
  |_=>none
 | .slice _,v::r=>match v with
  | .slice none n m=>if n=0∧m=0 then some r else none
  |_=>none
 | .unit,r=>some r
 | .pair a b,r=>match tO a r with
  |some r=>tO b r
  |none=>none
 | .arr n e,r=>Nat.rec (motive:=λ_=>List Value→Option (List Value)) (λr=>some r) (λ_ ih r=>match tO e r with
  |some r=>ih r
  |none=>none) n r
 |_,[]=>none
theorem tP: ∀{τ:Ty} {l r:List Value},tO τ l=some r→l=τ.bq++r
 | .int k,[],_,h| .bool,[],_,h| .str,[],_,h| .slice _,[],_,h=>by simp[tO]at h
 | .int k,v::l,r,h=>by
  simp only[tO]at h
  split at h
  ·split at h
   ·rename_i hc;obtain⟨rfl,rfl⟩:=hc;cases h;rfl
   ·cases h
  ·cases h
 | .bool,v::l,r,h=>by
  simp only[tO]at h
  split at h
  ·cases h;rfl
  ·cases h
 | .str,v::l,r,h=>by
  simp only[tO]at h
  split at h
  ·rename_i s
   split at h
   ·rename_i hs
    cases h
    have:s=ByteArray.empty:=by
     obtain⟨d⟩:=s
     have:d= #[]:=Array.eq_empty_of_size_eq_zero hs
     subst this;rfl
    subst this;rfl
   ·cases h
  ·cases h
 | .slice _,v::l,r,h=>by
  simp only[tO]at h
  split at h
  ·split at h
   ·rename_i hc;obtain⟨rfl,rfl⟩:=hc;cases h;rfl
   ·cases h
  ·cases h
 | .unit,l,r,h=>by simp only[tO]at h;cases h;rfl
 | .pair a b,l,r,h=>by
  simp only[tO]at h
  split at h
  ·rename_i r1 h1
   rw[tP h1,tP h];simp[Ty.bq]
  ·cases h
 | .arr n e,l,r,h=>by
  simp only[tO]at h
  simp only[Ty.bq]
  induction n generalizing l with
  |zero=>cases h;rfl
  |succ n ih=>
   simp only at h
   split at h
   ·rename_i r1 h1
    rw[tP h1,ih _ h];simp[List.replicate_succ]
   ·cases h
def tQ(P:Program)(τ:Ty)(t:TypeId):Bool:=
 match P.info? t with
 |none=>false
 |some i=>Nat.beq i.size τ.size&&Nat.ble i.bytes 2048&&(match i.zero with
  |none=>false
  |some z=>match τ.isAgg,z with
   |true,.agg cs=>(match tO τ cs.toList with|some []=>true|_=>false)
   |false,z=>(match tO τ [z]with|some []=>true|_=>false)
   |_,_=>false)
theorem mL{τ:Ty}{t:TypeId}(h:tQ P τ t=true):BE P τ t:=by
 unfold tQ at h
 split at h
 ·cases h
 ·rename_i i hi
  simp only[ba,tg]at h
  obtain⟨⟨h1,h2⟩,h3⟩:=h
  refine⟨i,hi,df h1,?_,h2⟩
  split at h3
  ·cases h3
  ·rename_i z hz
   rw[hz]
   split at h3
   ·rename_i _ cs ha
    split at h3
    ·rename_i he
     have:=tP he
     unfold aZ
     rw[ae ha,←bF τ.bq,←this]
    ·cases h3
   ·rename_i ha
    split at h3
    ·rename_i he
     have:=tP he
     unfold aZ
     rw[af (by rw[ha];exact oB),←bF τ.bq,←this];rfl
    ·cases h3
   ·cases h3
def oj(P:Program):Ty→TypeId ⊕ (Array Field×Nat×Nat)→Bool
 | .int k,.inl t=>tQ P (.int k) t&&(match P.underlying t with|some (.int k')=>decide (k'=k)|_=>false)
 | .bool,.inl t=>tQ P .bool t&&(match P.underlying t with|some .bool=>true|_=>false)
 | .str,.inl t=>tQ P .str t&&(match P.underlying t with|some .string=>true|_=>false)
 | .slice e,.inl t=>tQ P (.slice e) t&&(match P.underlying t with|some (.slice e')=>oj P e (.inl e')|_=>false)
 | .arr n e,.inl t=>tQ P (.arr n e) t&&(match P.underlying t with|some (.array n' e')=>Nat.beq n' n&&oj P e (.inl e')|_=>false)
 | .unit,.inl t=>tQ P .unit t&&(match P.underlying t with|some (.struct fs)=>Nat.beq fs.size 0|_=>false)
 | .unit,.inr q=>Nat.beq q.1.size q.2.1
 | .pair a b,.inl t=>tQ P (.pair a b) t&&(match P.underlying t with
  |some (.struct fs)=>(match fs[0]? with
   |some f=>Nat.beq f.offset 0&&(oj P a (.inl f.type)&&oj P b (.inr (fs,1,a.size)))
   |none=>false)
  |_=>false)
 | .pair a b,.inr q=>(match q.1[q.2.1]? with
  |some f=>Nat.beq f.offset q.2.2&&(oj P a (.inl f.type)&&oj P b (.inr (q.1,q.2.1+1,q.2.2+a.size)))
  |none=>false)
 |_,.inr _=>false
theorem eN: ∀{τ:Ty} {x:TypeId ⊕ (Array Field×Nat×Nat)},oj P τ x=true→dN P τ x
 | .int k,.inl t,h=>by
  simp only[oj,ba]at h
  refine⟨mL h.1,?_⟩
  have h:=h.2
  split at h
  ·rename_i k' hu;rw[hu,bH h]
  ·cases h
 | .bool,.inl t,h=>by
  simp only[oj,ba]at h
  refine⟨mL h.1,?_⟩
  have h:=h.2
  split at h
  ·rename_i hu;exact hu
  ·cases h
 | .str,.inl t,h=>by
  simp only[oj,ba]at h
  refine⟨mL h.1,?_⟩
  have h:=h.2
  split at h
  ·rename_i hu;exact hu
  ·cases h
 | .slice e,.inl t,h=>by
  simp only[oj,ba]at h
  refine⟨mL h.1,?_⟩
  have h:=h.2
  split at h
  ·rename_i e' hu;exact⟨e',hu,eN h⟩
  ·cases h
 | .arr n e,.inl t,h=>by
  simp only[oj,ba]at h
  refine⟨mL h.1,?_⟩
  have h:=h.2
  split at h
  ·rename_i n' e' hu
   simp only[ba]at h
   obtain⟨h0,h⟩:=h
   rw[df h0]at hu
   exact⟨e',hu,eN h⟩
  ·cases h
 | .unit,.inl t,h=>by
  simp only[oj,ba]at h
  refine⟨mL h.1,?_⟩
  have h:=h.2
  split at h
  ·rename_i fs hu;exact⟨fs,hu,df h⟩
  ·cases h
 | .unit,.inr (fs,n,o),h=>by simp only[oj]at h;exact df h
 | .pair a b,.inl t,h=>by
  simp only[oj,ba]at h
  refine⟨mL h.1,?_⟩
  have h:=h.2
  split at h
  ·rename_i fs hu
   split at h
   ·rename_i f hf
    simp only[ba]at h
    exact⟨fs,f,hu,hf,df h.1,eN h.2.1,eN h.2.2⟩
   ·cases h
  ·cases h
 | .pair a b,.inr (fs,n,o),h=>by
  simp only[oj]at h
  split at h
  ·rename_i f hf
   simp only[ba]at h
   exact⟨f,hf,df h.1,eN h.2.1,eN h.2.2⟩
  ·cases h
 | .int _,.inr _,h| .bool,.inr _,h| .str,.inr _,h| .slice _,.inr _,h| .arr _ _,.inr _,h=>by simp[oj]at h
def py(P:Program):Ty→TypeId ⊕ (Array Field×Nat)→Bool
 | .int _,.inl _| .bool,.inl _| .str,.inl _=>true
 | .unit,.inl t=> !P.stoodInHeld t
 | .unit,.inr _=>true
 | .pair a b,.inl t=> !P.stoodInHeld t&&(match P.underlying t with
  |some (.struct fs)=>(match fs[0]? with
   |some f=>f.name != "_" &&(py P a (.inl f.type)&&py P b (.inr (fs,1)))
   |none=>false)
  |_=>false)
 | .pair a b,.inr q=>(match q.1[q.2]? with
  |some f=>f.name != "_" &&(py P a (.inl f.type)&&py P b (.inr (q.1,q.2+1)))
  |none=>false)
 |_,_=>false
def Ty.deep:Ty→Nat
 | .pair a b=>a.deep+b.deep+1
 |_=>1
theorem V.ofC{w:World}{M:Nat→Prop}{τ:Ty}{cs:List Value}{x:τ.den}(h:Rd w M τ cs x):V w M τ (VM.aZ τ cs) x:=V.aZ h
mutual
theorem D1{w:World}{M:Nat→Prop}: ∀{τ:Ty} {t:TypeId} {u v:Value} {x y:τ.den} {d:Nat},gA P τ t→py P τ (.inl t)=true→V w M τ u x→V w M τ v y→τ.deep≤d→(Op.equalIn d t u v).run P w= .ok (k5 τ x y) w
 | .int k,t,u,v,x,y,d+1,hl,_,hx,hy,_=>by
  simp only[V,Ty.isAgg,fD,dW,Rd,dx,dR]at hx hy
  subst hx;subst hy
  rw[run_equalIn_int w d t k k _ _ hl.int];simp only[k5,fF];congr 1
 | .bool,t,u,v,x,y,d+1,hl,_,hx,hy,_=>by
  simp only[V,Ty.isAgg,fD,dW,Rd,dx,dR]at hx hy
  subst hx;subst hy
  rw[run_equalIn_bool w d t _ _ hl.bool];simp only[k5]
 | .str,t,u,v,x,y,d+1,hl,_,hx,hy,_=>by
  simp only[V,Ty.isAgg,fD,dW,Rd,dx,dR]at hx hy
  subst hx;subst hy
  rw[run_equalIn_string w d t _ _ hl.str];simp only[k5,xQ];congr 1;rw[pT];simp
 | .slice _,_,_,_,_,_,_,_,h,_,_,_| .arr _ _,_,_,_,_,_,_,_,h,_,_,_=>by simp[py]at h
 | .unit,t,u,v,x,y,d+1,hl,he,hx,hy,_=>by
  simp only[V,Ty.isAgg,fO]at hx hy
  obtain⟨cs,rfl,_⟩:=hx
  obtain⟨cs',rfl,_⟩:=hy
  simp only[gA,dN]at hl
  obtain⟨_,fs,hu,h0⟩:=hl
  have WS:P.fieldsOf t=fs:=by simp[Program.fieldsOf,hu]
  rw[run_equalIn_struct w d t cs cs' (by rw[WS];exact hu) (by simpa [py]using he),WS]
  have:fs.toList=[]:=by rw[←C6,aG];exact h0
  rw[this];simp[Op.eqFields,k5]
 | .pair a b,t,u,v,x,y,d+1,hl,he,hx,hy,hd=>by
  simp only[V,Ty.isAgg,fO]at hx hy
  obtain⟨cs,rfl,hx⟩:=hx
  obtain⟨cs',rfl,hy⟩:=hy
  simp only[gA,dN]at hl
  obtain⟨_,fs,f,hu,hf,ho,sr,Gi⟩:=hl
  have WS:P.fieldsOf t=fs:=by simp[Program.fieldsOf,hu]
  simp only[py,hu,hf,ba]at he
  rw[run_equalIn_struct w d t cs cs' (by rw[WS];exact hu) (by simpa using he.1),WS]
  have h0:fs.toList=f::fs.toList.drop 1:=by
   have h1:=sR (l:=fs.toList) (i:=0) (by rw[aG];exact(gM.1 hf).1)
   rw[bY]at h1
   rw[h1];congr 1
   rw[sX];exact(gM.1 hf).2
  simp only[Ty.deep]at hd
  rw[h0]
  have k9:Rd w M (.pair a b) (cs.toList.drop 0) x:=by rw[bY];exact hx
  have Lg:Rd w M (.pair a b) (cs'.toList.drop 0) y:=by rw[bY];exact hy
  have gY:f.name≠ "_" :=by simpa using he.2.1
  simp only[Op.eqFields,gY,ne_eq,not_false_eq_true,fO]
  exact Lh (off:=0) ho sr he.2.2.1 k9 Lg ω (λh1 h2=>Li (n:=1) (fs:=fs) (off:=a.size) Gi he.2.2.2 (by rw[dG]at h1;exact h1) (by rw[dG]at h2;exact h2) ω)
 | .int _,_,_,_,_,_,0,_,_,_,_,hd| .bool,_,_,_,_,_,0,_,_,_,_,hd| .str,_,_,_,_,_,0,_,_,_,_,hd| .unit,_,_,_,_,_,0,_,_,_,_,hd| .pair _ _,_,_,_,_,_,0,_,_,_,_,hd=>by simp[Ty.deep]at hd
theorem Li{w:World}{M:Nat→Prop}: ∀{b:Ty} {fs:Array Field} {n off:Nat} {cs cs':Array Value} {x y:b.den} {d:Nat},dN P b (.inr (fs,n,off))→py P b (.inr (fs,n))=true→Rd w M b (cs.toList.drop off) x→Rd w M b (cs'.toList.drop off) y→b.deep≤d→
  (Op.eqFields d cs cs' (fs.toList.drop n)).run P w= .ok (k5 b x y) w
 | .unit,fs,n,off,cs,cs',x,y,d,hl,_,_,_,_=>by
  simp only[dN]at hl
  rw[gd (by rw[aG];omega)]
  simp[Op.eqFields,k5]
 | .pair a b,fs,n,off,cs,cs',x,y,d,hl,he,hx,hy,hd=>by
  simp only[dN]at hl
  obtain⟨f,hf,ho,sr,Gi⟩:=hl
  simp only[py,hf,ba]at he
  have h0:fs.toList.drop n=f::fs.toList.drop (n+1):=by
   rw[sR (l:=fs.toList) (i:=n) (by rw[aG];exact(gM.1 hf).1)]
   congr 1
   rw[sX];exact(gM.1 hf).2
  simp only[Ty.deep]at hd
  rw[h0]
  have gY:f.name≠ "_" :=by simpa using he.1
  simp only[Op.eqFields,gY,ne_eq,not_false_eq_true,fO]
  exact Lh ho sr he.2.1 hx hy ω (λh1 h2=>Li Gi he.2.2 h1 h2 ω)
 | .int _,_,_,_,_,_,_,_,_,hl,_,_,_,_| .bool,_,_,_,_,_,_,_,_,hl,_,_,_,_| .str,_,_,_,_,_,_,_,_,hl,_,_,_,_| .slice _,_,_,_,_,_,_,_,_,hl,_,_,_,_| .arr _ _,_,_,_,_,_,_,_,_,hl,_,_,_,_=>by simp[dN]at hl
theorem Lh{w:World}{M:Nat→Prop}{a b:Ty}{f:Field}{fs:List Field}{off:Nat}{cs cs':Array Value}{x y:(Ty.pair a b).den}{d:Nat}(ho:f.offset=off)(sr:gA P a f.type)(he:py P a (.inl f.type)=true)
  (hx:Rd w M (.pair a b) (cs.toList.drop off) x) (hy:Rd w M (.pair a b) (cs'.toList.drop off) y) (hd:a.deep≤d)
  (hr:Rd w M b (cs.toList.drop (off+a.size)) x.2→Rd w M b (cs'.toList.drop (off+a.size)) y.2→(Op.eqFields d cs cs' fs).run P w= .ok (k5 b x.2 y.2) w):
  (do let u ←part f.type cs f.offset;let v ←part f.type cs' f.offset;let r ←Op.equalIn d f.type u v;if(!r)=true then pure false else Op.eqFields d cs cs' fs:Sem Bool).run P w= .ok (k5 (.pair a b) x y) w:=by
 simp only[Rd]at hx hy
 obtain⟨c1,c2,hc,h1,h2⟩:=hx
 obtain⟨c1',c2',Jg,m4,rU⟩:=hy
 subst ho
 have p1:(cs.toList.drop f.offset).take a.size=c1:=by rw[hc,pS h1.length]
 have p2:(cs'.toList.drop f.offset).take a.size=c1':=by rw[Jg,pS m4.length]
 have q1:cs.toList.drop (f.offset+a.size)=c2:=by rw[←eK,hc,kd h1.length]
 have q2:cs'.toList.drop (f.offset+a.size)=c2':=by rw[←eK,Jg,kd m4.length]
 have r1:=tw sr (w:=w) (M:=M) (cs:=cs) (off:=f.offset) (x:=x.1) (by rw[p1];exact h1)
 have r2:=tw sr (w:=w) (M:=M) (cs:=cs') (off:=f.offset) (x:=y.1) (by rw[p2];exact m4)
 have r3:=D1 (d:=d) sr he (V.ofC (by rw[p1];exact h1):V w M a (VM.aZ a ((cs.toList.drop f.offset).take a.size)) x.1) (V.ofC (by rw[p2];exact m4):V w M a (VM.aZ a ((cs'.toList.drop f.offset).take a.size)) y.1) hd
 simp only[Sem.run_bind,r1,r2,r3,Result.andThen_ok,k5]
 cases k5 a x.1 y.1
 ·simp
 ·simpa using hr (by rw[q1];exact h2) (by rw[q2];exact rU)
end
def N7(P:Program)(τ:Ty)(t:TypeId):Bool:= !(τ.comparable&&τ.isAgg)||(py P τ (.inl t)&&(Nat.ble τ.deep 10000&& !P.eqGuardType P.depth t))
theorem N8{τ:Ty}{t:TypeId}(hl:gA P τ t)(h:N7 P τ t=true)(hc:τ.comparable=true)(ha:τ.isAgg=true):V2 P t τ:=by
 unfold N7 at h
 rw[hc,ha]at h
 simp only[Bool.and_self,aN,ta,ba,tg,pP]at h
 obtain⟨h1,h2,h3⟩:=h
 intro w M u v x y b xo yo hx hy
 have he:=D1 (d:=10000) hl h1 hx hy h2
 unfold V at hx hy
 rw[ae ha]at hx hy
 obtain⟨cs,rfl,_⟩:=hx
 obtain⟨cs',rfl,_⟩:=hy
 refine⟨?_,?_,?_⟩
 ·cases b<;>simp[eqGuard,h3]
 ·simp only[binOp];simp[Op.equal,Op.maxDepth,he]
 ·simp only[binOp];simp[Op.equal,Op.maxDepth,he]
def WT(P:Program)(l:List (Nat×Ty)):Bool:=l.all λq=>oj P q.2 (.inl q.1)&&N7 P q.2 q.1
end VM
end
section
namespace VM
open Go Go.WideShapes Go.RowKit Go.ChangeShapes
def WF:(τ:Ty)→τ.den→Prop
 | .int k,x=>(Lit.int k x).wf=true
 | .bool,_=>True
 | .str,s=>ByteArray.size s≤maxLen
 | .slice e,l=>ℓ l≤maxLen∧ ∀i (h:i<ℓ l),WF e (List.get l ⟨i,h⟩)
 | .unit,_=>True
 | .pair a b,x=>WF a x.1∧WF b x.2
 | .arr _ e,l=> ∀i (h:i<ℓ l),WF e (List.get l ⟨i,h⟩)
def Ty.lD:Ty→Bool
 | .slice e=>Nat.blt 0 e.size&&e.lD
 | .pair a b=>a.lD&&b.lD
 | .arr _ e=>e.lD
 |_=>true
theorem Lj{α β:Type}{f:α→Option β}: ∀{l:List α} {r:List β},l.mapM f=some r→ ∀x∈l,∃y,f x=some y
 |[],_,_,x,hx=>by cases hx
 |a::l,r,h,x,hx=>by
  rw[s7]at h
  simp only[bind,qR,pure,eJ]at h
  obtain⟨y,hy,r',hr,_⟩:=h
  rcases aV.1 hx with rfl|hx
  ·exact⟨y,hy⟩
  ·exact Lj hr x hx
theorem D2{α β:Type}{f:α→Option β}: ∀{l:List α} {r:List β},l.mapM f=some r→r.length=l.length∧ ∀i (h:i<l.length) (h':i<r.length),f l[i]=some r[i]
 |[],r,h=>by simp at h;subst h;exact⟨rfl,λi h=>by cases h⟩
 |a::l,r,h=>by
  rw[s7]at h
  simp only[bind,qR,pure,eJ]at h
  obtain⟨y,hy,r',hr,rfl⟩:=h
  obtain⟨h1,h2⟩:=D2 hr
  refine⟨by simp[h1],λi hi po=> ?_⟩
  cases i with
  |zero=>exact hy
  |succ i=>exact h2 i (by simpa using hi) (by simpa using po)
theorem qy{α:Type}{p:Nat→α→Prop}: ∀n,(∀i,i<n→ ∃x,p i x)→ ∃l:List α,l.length=n∧ ∀i (h:i<l.length),p i (l.get ⟨i,h⟩)
 |0,_=>⟨[],rfl,λi h=>by cases h⟩
 |n+1,h=>by
  obtain⟨l,hl,hp⟩:=qy n (λi hi=>h i ω)
  obtain⟨x,hx⟩:=h n ω
  refine⟨l++[x],by simp[hl],λi hi=> ?_⟩
  simp only[xA]
  by_cases dv:i<l.length
  ·rw[sS dv];exact hp i dv
  ·have hJ:i=n:=by simp at hi;omega
   subst hJ
   rw[xr ω]
   simp[hl,hx]
section
variable{H:Type}{enc:TypeId×Value→H}{P:Program}{w:World}
theorem gA.cells{τ:Ty}{t:TypeId}(h:gA P τ t):P.cellsOf t=τ.size:=by
 obtain⟨i,hi,hs,_⟩:=h.base
 simp[Program.cellsOf,hi,hs]
theorem AQ{a:Addr}{n:Nat}{cs:List Value}(h:w.cells? 0 a n=some cs):cs.length=n∧ ∀j v,cs[j]? =some v→w.cell? (a.add j)=some v:=by
 unfold World.cells? at h
 rw[ae (c8 _)]at h
 obtain⟨h1,h2⟩:=D2 h
 rw[xG]at h1
 refine⟨h1,λj v hj=> ?_⟩
 obtain⟨dv,rfl⟩:=oz.1 hj
 have:=h2 j (by rw[xG];omega) dv
 rw[xC]at this
 exact this
def Lk(H:Type)(enc:TypeId×Value→H)(P:Program)(w:World)(τ:Ty):TypeId ⊕ (Array Field×Nat×Nat)→Prop
 | .inl t=> ∀(fuel:Nat) (cs:List Value) (d:DataW H×List MemPlace),DataW.trod enc P w 0 (λ_=>true) true fuel t cs=some d→ ∃x:τ.den,Rd w (λ_=>False) τ cs x∧WF τ x
 | .inr q=> ∀(cs:List Value),cs.length=q.2.2+τ.size→(∀f∈q.1.toList,∃fuel d,DataW.trod enc P w 0 (λ_=>true) true fuel f.type ((cs.drop f.offset).take (P.cellsOf f.type))=some d)→ ∃x:τ.den,Rd w (λ_=>False) τ (cs.drop q.2.2) x∧WF τ x
theorem AS{a b:Ty}{f:Field}{fs:Array Field}{n off:Nat}(hf:fs[n]? =some f)(ho:f.offset=off)(sr:gA P a f.type)(SG:Lk H enc P w a (.inl f.type))(Ky:Lk H enc P w b (.inr (fs,n+1,off+a.size)))
  {cs:List Value} (hc:cs.length=off+(a.size+b.size)) (fi: ∀f∈fs.toList,∃fuel d,DataW.trod enc P w 0 (λ_=>true) true fuel f.type ((cs.drop f.offset).take (P.cellsOf f.type))=some d):
  ∃x:(Ty.pair a b).den,Rd w (λ_=>False) (.pair a b) (cs.drop off) x∧WF (.pair a b) x:=by
 subst ho
 obtain⟨fuel,d,hd⟩:=fi f (by rw[Array.mem_toList_iff];exact Array.mem_of_getElem? hf)
 rw[sr.cells]at hd
 obtain⟨x,hx,WU⟩:=SG fuel _ d hd
 obtain⟨y,hy,hwy⟩:=Ky cs (by simp only;omega) fi
 refine⟨(x,y),?_,WU,hwy⟩
 simp only[Rd]
 refine⟨_,_,(gg a.size (cs.drop f.offset)).symm,hx,?_⟩
 rw[eK];exact hy
theorem oS: ∀{τ:Ty} {x:TypeId ⊕ (Array Field×Nat×Nat)},dN P τ x→τ.lD=true→Lk H enc P w τ x
 | .int k,.inl t,hl,_=>by
  intro fuel cs d h
  simp only[dN]at hl
  obtain⟨n,rfl,_,hw⟩:=DataW.trod_int hl.2 h
  exact⟨n,rfl,hw⟩
 | .bool,.inl t,hl,_=>by
  intro fuel cs d h
  simp only[dN]at hl
  obtain⟨b,rfl,_⟩:=DataW.trod_bool hl.2 h
  exact⟨b,rfl,trivial⟩
 | .str,.inl t,hl,_=>by
  intro fuel cs d h
  simp only[dN]at hl
  obtain⟨s,rfl,_,hs⟩:=DataW.trod_string hl.2 h
  exact⟨s,rfl,hs⟩
 | .slice e,.inl t,hl,hs=>by
  intro fuel cs d h
  simp only[dN]at hl
  obtain⟨_,e',hu,hle⟩:=hl
  simp only[Ty.lD,ba,tf]at hs
  have ih:=oS hle hs.2
  have mb:P.cellsOf e'=e.size:=gA.cells hle
  rcases DataW.trod_slice hu h with⟨rfl,_⟩|⟨a,len,cap,elems,rest,n,_,rfl,_,_,NB,hcm,hel,fi,_⟩
  ·refine⟨[],?_,c8 _,λi h=>by cases h⟩
   simp only[Rd]
   exact⟨none,0,rfl,aB _,λi h=>by cases h⟩
  ·rw[mb]at fi
   have get: ∀i,i<len→ ∃cs' y,w.cells? 0 (a.add (i*e.size)) e.size=some cs'∧DataW.trod enc P w 0 (λ_=>true) true n e' cs'=some y:=λi hi=>by
    have:=fi i hi
    rw[bc ω]at this
    obtain⟨cs',h1,h2⟩:=qR.1 this
    exact⟨cs',_,h1,h2⟩
   have key: ∀i,i<len→ ∃x:e.den,(a.spot=none∧a.block<w.heap.size∧ ∃cs',At w a.block (a.off+i*e.size) cs'∧Rd w (λ_=>False) e cs' x)∧WF e x:=by
    intro i hi
    obtain⟨cs',y,nO,ht⟩:=get i hi
    obtain⟨h1,h2⟩:=AQ nO
    obtain⟨x,hx,hw⟩:=ih n cs' y ht
    have II:a.spot=none∧a.block<w.heap.size:=by
     obtain⟨fR,y0,aa7,_⟩:=get 0 ω
     obtain⟨h10,h20⟩:=AQ aa7
     have:=h20 0 fR[0] (bc ω)
     simp only[Nat.zero_mul,Addr.add,fO,World.cell?]at this
     split at this
     ·rename_i hb
      refine⟨?_,(gM.1 hb).1⟩
      split at this
      ·cases this
      ·rename_i hn;simpa using hn
     ·cases this
    refine⟨x,⟨II.1,II.2,cs',λj v hj=> ?_,hx⟩,hw⟩
    have:=h2 j v hj
    have he:(a.add (i*e.size)).add j=⟨a.block,a.off+i*e.size+j,none⟩:=by
     obtain⟨ab,ao,asp⟩:=a
     simp only at II
     obtain⟨rfl,_⟩:=II
     simp only[Addr.add]
     split<;>split<;>simp_all<;>omega
    rw[he]at this
    exact this
   obtain⟨l,hl,hp⟩:=qy len key
   refine⟨l,?_,by rw[hl];omega,λi h=>(hp i h).2⟩
   simp only[Rd]
   refine⟨some a,cap,by rw[hl],by rw[hl];exact NB,λi h=> ?_⟩
   obtain⟨h1,h2,cs',h3,h4⟩:=(hp i h).1
   refine⟨a.block,a.off,?_,h2,λh=>h,cs',h3,h4⟩
   rw[←h1]
 | .unit,.inl t,hl,_=>by
  intro fuel cs d h
  simp only[dN]at hl
  obtain⟨⟨i,hi,mb,_⟩,fs,hu,h0⟩:=hl
  obtain⟨xs,n,_,_,hc,_⟩:=DataW.trod_struct hu h
  refine⟨(),?_,trivial⟩
  simp only[Rd]
  rw[←C6,hc]
  simp[Program.cellsOf,hi,mb,Ty.size]
 | .unit,.inr q,hl,_=>by
  intro cs hc _
  refine⟨(),?_,trivial⟩
  simp only[Rd]
  rw[gd (by rw[hc];simp[Ty.size])]
 | .pair a b,.inl t,hl,hs=>by
  intro fuel cs d h
  simp only[dN]at hl
  obtain⟨⟨i,hi,mb,_⟩,fs,f,hu,hf,ho,sr,Gi⟩:=hl
  simp only[Ty.lD,ba]at hs
  have SG:=oS sr hs.1
  have Ky:=oS Gi hs.2
  obtain⟨xs,n,_,_,hc,Z8,Z9⟩:=DataW.trod_struct hu h
  have:=AS (b:=b) (off:=0) hf ho sr SG (by simp only[dG];exact Ky) (cs:=cs) (by rw[hc];simp[Program.cellsOf,hi,mb,Ty.size]) (λf hf=>by
   obtain⟨j,hj,rfl⟩:=xz.1 hf
   rw[aG]at hj
   have:=Z9 j fs[j] (by simp[hj])
   rw[bc ω]at this
   exact⟨n,_,by rw[sX];exact this⟩)
  rw[bY]at this
  exact this
 | .pair a b,.inr (fs,n,off),hl,hs=>by
  intro cs hc fi
  simp only[dN]at hl
  obtain⟨f,hf,ho,sr,Gi⟩:=hl
  simp only[Ty.lD,ba]at hs
  exact AS hf ho sr (oS sr hs.1) (oS Gi hs.2) (by simpa [Ty.size]using hc) fi
 | .arr n e,.inl t,hl,hs=>by
  intro fuel cs d h
  simp only[dN]at hl
  obtain⟨⟨i,hi,mb,_⟩,e',hu,hle⟩:=hl
  simp only[Ty.lD]at hs
  have ih:=oS hle hs
  have hse:P.cellsOf e'=e.size:=gA.cells hle
  obtain⟨xs,m,_,_,hc,Z8,Z9⟩:=DataW.trod_array hu h
  have hlen:cs.length=n*e.size:=by rw[hc];simp[Program.cellsOf,hi,mb,Ty.size]
  have key: ∀i,i<n→ ∃x:e.den,Rd w (λ_=>False) e ((cs.drop (i*e.size)).take e.size) x∧WF e x:=λi hi=>by
   have:=Z9 i hi
   rw[bc ω,hse]at this
   exact ih m _ _ this
  obtain⟨l,IV,hp⟩:=qy n key
  refine⟨l,?_,λi h=>(hp i h).2⟩
  simp only[Rd]
  refine⟨IV,(List.range n).map λi=>(cs.drop (i*e.size)).take e.size,by simp,?_,λi h h'=> ?_⟩
  ·clear Z9 h key hp IV hu
   have: ∀m,m≤n→cs.take (m*e.size)=((List.range m).map λi=>(cs.drop (i*e.size)).take e.size).flatten:=by
    intro m
    induction m with
    |zero=>simp
    |succ m ihm=>
     intro hm
     rw[xJ,cH,List.flatten_append,←ihm ω]
     simp only[bA,eL,sY,List.flatten_nil,bF]
     rw[cI,gw,List.take_add]
   have h2:=this n (aB _)
   rw[jf ω]at h2
   exact h2
  ·have:=(hp i h).1
   simpa using this
 | .int _,.inr _,h,_| .bool,.inr _,h,_| .str,.inr _,h,_| .slice _,.inr _,h,_| .arr _ _,.inr _,h,_=>by simp[dN]at h
theorem SH{τ:Ty}{t:TypeId}{r:Reach}{b0:Nat}{v:Value}{d:DataW H}{ps:List MemPlace}(hl:gA P τ t)(hs:τ.lD=true)(hv:Value.okWide P w r b0 t v)(h:DataW.Trod enc P w 0 (λ_=>true) true t v d ps):
  ∃x:τ.den,V w (λ_=>False) τ v x∧WF τ x:=by
 obtain⟨fuel,h⟩:=h
 obtain⟨x,hx,hw⟩:=oS (H:=H) (enc:=enc) (w:=w) hl hs fuel _ _ h
 refine⟨x,?_,hw⟩
 unfold V
 cases τ with
 |int k=>
  obtain⟨n,rfl⟩:=okWide_int hl.int hv
  exact hx
 |bool=>
  obtain⟨n,rfl⟩:=okWide_bool hl.bool hv
  exact hx
 |str=>
  obtain⟨n,rfl⟩:=okWide_string hl.str hv
  exact hx
 |slice e=>
  obtain⟨e',hu,_⟩:=hl.slice
  obtain⟨a,len,cap,rfl⟩:=okWide_slice hu hv
  exact hx
 |unit=>
  simp only[gA,dN]at hl
  obtain⟨_,fs,hu,_⟩:=hl
  simp only[Value.okWide,hu]at hv
  obtain⟨cs,rfl,_⟩:=hv
  exact⟨cs,rfl,hx⟩
 |pair a b=>
  simp only[gA,dN]at hl
  obtain⟨_,fs,f,hu,_⟩:=hl
  simp only[Value.okWide,hu]at hv
  obtain⟨cs,rfl,_⟩:=hv
  exact⟨cs,rfl,hx⟩
 |arr n e=>
  obtain⟨e',hu,_⟩:=hl.arr
  simp only[Value.okWide,hu]at hv
  obtain⟨cs,rfl,_⟩:=hv
  exact⟨cs,rfl,hx⟩
def WV:(ms:List Ty)→HP (ms.map .v)→Prop
 |[],_=>True
 |_::ms,x=>WF _ (lP x)∧WV ms (nP x)
def hpC:{m:AM}→{ms:List AM}→m.den→HP ms→HP (m::ms)
 |_,[],x,_=>x
 |_,_::_,x,y=>(x,y)
theorem HY{m:AM}: ∀{ms:List AM} (x:m.den) (y:HP ms),lP (hpC x y)=x
 |[],_,_=>rfl
 |_::_,_,_=>rfl
theorem HZ{m:AM}: ∀{ms:List AM} (x:m.den) (y:HP ms),nP (hpC x y)=y
 |[],_,()=>rfl
 |_::_,_,_=>rfl
theorem AT(laid:laidOutB P=true){r:Reach}{b0:Nat}: ∀{τs:List Ty} {ts:List TypeId} {vs:List Value} {ds:List (DataW H)} {ps:List MemPlace},DataW.TrodAll enc P w 0 (λ_=>true) true ts vs ds ps→
  τs.length=ts.length→(∀(j:Nat) τ t,τs[j]? =some τ→ts[j]? =some t→(gA P τ t∧τ.lD=true∧P.readableRec t=true∧t<P.types.size))→
  (∀(j:Nat) t v,ts[j]? =some t→vs[j]? =some v→Value.okWide P w r b0 t v)→
  (∃x:HP (τs.map .v),gj w (λ_=>False) (τs.map .v) x vs∧WV τs x)∧ ∀w',Below w.heap.size w w'→ ∃zU,DataW.TrodAll enc P w' 0 (λb=>decide (b<w.heap.size)) true ts vs ds zU
 |[],[],vs,ds,ps,h,_,_,_=>by
  obtain⟨rfl,rfl,rfl⟩:=trodAll_nil h
  exact⟨⟨(),rfl,trivial⟩,λw' _=>⟨[],rfl⟩⟩
 |τ::τs,t::ts,vs,ds,ps,h,hl,vD,hv=>by
  obtain⟨v,CP,d,ds',p,q,rfl,rfl,rfl,h1,h2⟩:=trodAll_cons h
  obtain⟨rK,SI,V6,dv⟩:=vD 0 τ t rfl rfl
  obtain⟨x,hx,WU⟩:=SH rK SI (hv 0 t v rfl rfl) h1
  obtain⟨⟨y,hy,hwy⟩,Ll⟩:=AT laid h2 (by simpa using hl) (λj τ' t' h h'=>vD (j+1) τ' t' (by simpa using h) (by simpa using h')) (λj t' v' h h'=>hv (j+1) t' v' (by simpa using h) (by simpa using h'))
  refine⟨⟨hpC (m:= .v τ) x y,?_,?_⟩,λw' hb=> ?_⟩
  ·show gj w _ (.v τ::τs.map .v) _ _
   simp only[gj]
   exact⟨v,CP,rfl,by rw[HY];exact hx,by rw[HZ];exact hy⟩
  ·simp only[WV]
   exact⟨by rw[HY];exact WU,by rw[HZ];exact hwy⟩
  ·obtain⟨zU,h'⟩:=Ll w' hb
   have qq: ∀z∈p,z.block<w.heap.size:=by
    obtain⟨m,hm⟩:=h1
    exact DataW.trod_lt m _ _ _ hm
   exact⟨p++zU,trodAll_cons_mk (Below.trod laid V6 dv h1 hb qq) h'⟩
 |[],_::_,_,_,_,_,hl,_,_|_::_,[],_,_,_,_,hl,_,_=>by simp at hl
end
end VM
end
section
namespace VM
open Go
variable{α:Type}
def tR(L:Nat→Option (List (Nat×CM)))(κ:Nat→St→Option α)(i:Option Nat)(f:St→Option α):St→Option α:=
 match i with
 |none=>f
 |some i=>match L i with
  |none=>f
  |some _=>κ i
def Lm(E:Env)(κJ κL:Nat→St→Option α)(c:Code):St→(St→Option α)→(Nat→St→Option α)→(St→Option α)→Option α:=
 Code.rec (motive:=λ_=>St→(St→Option α)→(Nat→St→Option α)→(St→Option α)→Option α)
  (fun σ k _ _=>k σ)
  (λ_ ops draw σ k _ _=>wY E ops draw σ k)
  (λ_ b A B σ k kx kr=>A σ (fun σ'=>qh ((bN b).bind E.rF) σ' (tR E.rF κJ (bN b) fun σ''=>B σ'' k kx kr)) kx kr)
  (λc _ _ A B σ k kx kr=>AE E c σ (fun σ'=>A σ' k kx kr) (fun σ'=>B σ' k kx kr))
  (λid _ A σ k kx kr=>A σ k (λi σ'=>cond (Nat.beq i id) (k σ') (kx i σ')) kr)
  (λb _ σ _ kx kr=>qh ((bN b).bind E.p8) σ (tR E.p8 κL (bN b) (vx ((bN b).bind E.p8) (fun σ' kn=>wZ E b σ' kn kx kr) E.N)))
  (λ_ _ _ _ _ _ _ _ _ _=>none)
  (λid σ _ kx _=>kx id σ)
  (λ_ A σ k kx kr=>A σ k kx kr)
  (λ_ σ k _ _=>k σ)
  (λ_ _ _ _ _=>none)
  (fun σ _ _ kr=>kr σ)
  (λ_ _ _ _ _=>none)
  c
def yJ(E:Env)(c:Code):(St→Option α)→(Nat→St→Option α)→(St→Option α)→List (Bool×Nat×(St→Option α)):=
 Code.rec (motive:=λ_=>(St→Option α)→(Nat→St→Option α)→(St→Option α)→List (Bool×Nat×(St→Option α)))
  (λ_ _ _=>[])
  (λ_ _ _ _ _ _=>[])
  (λ_ b A B k kx kr=>A (fun σ'=>qh ((bN b).bind E.rF) σ' fun σ''=>wZ E b σ'' k kx kr) kx kr++(((bN b).toList.map λi=>(false,i,fun σ''=>wZ E b σ'' k kx kr))++B k kx kr))
  (λ_ _ _ A B k kx kr=>A k kx kr++B k kx kr)
  (λid _ A k kx kr=>A k (λi σ'=>cond (Nat.beq i id) (k σ') (kx i σ')) kr)
  (λb _ _ kx kr=>(bN b).toList.map λi=>(true,i,vx ((bN b).bind E.p8) (fun σ' kn=>wZ E b σ' kn kx kr) E.N))
  (λ_ _ _ _ _ _ _ _ _=>[])
  (λ_ _ _ _=>[])
  (λ_ A k kx kr=>A k kx kr)
  (λ_ _ _ _=>[])
  (λ_ _ _ _=>[])
  (λ_ _ _=>[])
  (λ_ _ _ _=>[])
  c
def qz(E:Env)(κJ κL:Nat→St→Option α):List (Bool×Nat×(St→Option α))→List ((St→Option α)×(St→Option α))
 |[]=>[]
 |q::r=>match q.1 with
  |false=>match E.rF q.2.1 with
   |some _=>(κJ q.2.1,q.2.2)::qz E κJ κL r
   |none=>qz E κJ κL r
  |true=>match E.p8 q.2.1 with
   |some _=>(κL q.2.1,q.2.2)::qz E κJ κL r
   |none=>qz E κJ κL r
def Al(E:Env)(κJ κL:Nat→St→Option α)(l:List (Bool×Nat×(St→Option α))):Prop:= ∀p∈qz E κJ κL l,p.1=p.2
theorem SJ{E:Env}{κJ κL:Nat→St→Option α}{l:List (Bool×Nat×(St→Option α))}(g:List (St→Option α))(h:qz E κJ κL l=g.map λf=>(f,f)):Al E κJ κL l:=by
 intro p hp
 rw[h]at hp
 obtain⟨f,_,rfl⟩:=cA.1 hp
 rfl
theorem vR{E:Env}{κJ κL:Nat→St→Option α}: ∀(l m:List (Bool×Nat×(St→Option α))),qz E κJ κL (l++m)=qz E κJ κL l++qz E κJ κL m
 |[],m=>rfl
 |(b,i,f)::l,m=>by
  have ih:=vR (E:=E) (κJ:=κJ) (κL:=κL) l m
  cases b<;>simp only[nj,qz]<;>split<;>simp[ih]
theorem Al.app{E:Env}{κJ κL:Nat→St→Option α}{l m:List (Bool×Nat×(St→Option α))}(h:Al E κJ κL (l++m)):Al E κJ κL l∧Al E κJ κL m:=by
 unfold Al at*
 rw[vR]at h
 exact⟨λp hp=>h p (bG _ hp),λp hp=>h p (ck _ hp)⟩
theorem Q9{E:Env}{κJ κL:Nat→St→Option α}{i:Option Nat}{f:St→Option α}(h:Al E κJ κL (i.toList.map λi=>(false,i,f))):tR E.rF κJ i f=f:=by
 cases i with
 |none=>rfl
 |some i=>
  simp only[Option.toList,List.map,Al,qz]at h
  unfold tR
  cases hL:E.rF i with
  |none=>simp[hL]
  |some L=>rw[hL]at h;simp only[hL];exact h (κJ i,f) (dw.2 rfl)
theorem WW{E:Env}{κJ κL:Nat→St→Option α}{i:Option Nat}{f:St→Option α}(h:Al E κJ κL (i.toList.map λi=>(true,i,f))):tR E.p8 κL i f=f:=by
 cases i with
 |none=>rfl
 |some i=>
  simp only[Option.toList,List.map,Al,qz]at h
  unfold tR
  cases hL:E.p8 i with
  |none=>simp[hL]
  |some L=>rw[hL]at h;simp only[hL];exact h (κL i,f) (dw.2 rfl)
theorem Ln{E:Env}{κJ κL:Nat→St→Option α}(c:Code): ∀(k:St→Option α) (kx:Nat→St→Option α) (kr:St→Option α) (σ:St),Al E κJ κL (yJ E c k kx kr)→Lm E κJ κL c σ k kx kr=wZ E c σ k kx kr:=by
 induction c with
 |skip=>intros;rfl
 |region=>intros;rfl
 |seq a b SG Ky=>
  intro k kx kr σ h
  obtain⟨h1,h2⟩:=Al.app (h:Al E κJ κL (yJ E a _ kx kr++(((bN b).toList.map λi=>(false,i,fun σ''=>wZ E b σ'' k kx kr))++yJ E b k kx kr)))
  obtain⟨h2,h3⟩:=Al.app h2
  show Lm E κJ κL a σ (fun σ'=>qh ((bN b).bind E.rF) σ' (tR E.rF κJ (bN b) fun σ''=>Lm E κJ κL b σ'' k kx kr)) kx kr=wZ E a σ (fun σ'=>qh ((bN b).bind E.rF) σ' fun σ''=>wZ E b σ'' k kx kr) kx kr
  have hb:(fun σ''=>Lm E κJ κL b σ'' k kx kr)=fun σ''=>wZ E b σ'' k kx kr:=funext fun σ''=>Ky k kx kr σ'' h3
  rw[hb,Q9 h2]
  exact SG _ _ _ _ h1
 |cond x a b SG Ky=>
  intro k kx kr σ h
  obtain⟨h1,h2⟩:=Al.app (h:Al E κJ κL (yJ E a k kx kr++yJ E b k kx kr))
  show AE E x σ (fun σ'=>Lm E κJ κL a σ' k kx kr) (fun σ'=>Lm E κJ κL b σ' k kx kr)=AE E x σ (fun σ'=>wZ E a σ' k kx kr) (fun σ'=>wZ E b σ' k kx kr)
  rw[show(fun σ'=>Lm E κJ κL a σ' k kx kr)=fun σ'=>wZ E a σ' k kx kr from funext fun σ'=>SG k kx kr σ' h1,show(fun σ'=>Lm E κJ κL b σ' k kx kr)=fun σ'=>wZ E b σ' k kx kr from funext fun σ'=>Ky k kx kr σ' h2]
 |block id x ih=>intro k kx kr σ h;exact ih _ _ _ σ h
 |loop b _=>
  intro k kx kr σ h
  show qh ((bN b).bind E.p8) σ (tR E.p8 κL (bN b) (vx ((bN b).bind E.p8) (fun σ' kn=>wZ E b σ' kn kx kr) E.N))=qh ((bN b).bind E.p8) σ (vx ((bN b).bind E.p8) (fun σ' kn=>wZ E b σ' kn kx kr) E.N)
  rw[WW (h:Al E κJ κL ((bN b).toList.map λi=>(true,i,_)))]
 |rangeFunc=>intros;rfl
 |exit=>intros;rfl
 |scope x ih=>intro k kx kr σ h;exact ih _ _ _ σ h
 |label=>intros;rfl
 |goto=>intros;rfl
 |ret=>intros;rfl
 |refuse=>intros;rfl
def jJ(E:Env)(κJ κL:Nat→St→Option α):List Nat→Code→List (St→Option α)→St→(St→Option α)→(Nat→St→Option α)→(St→Option α)→Option α
 |[],c,_,σ,k,kx,kr=>Lm E κJ κL c σ k kx kr
 |n::p,c,ks,σ,k,kx,kr=>match c with
  | .seq a b=>match n with
   |0=>jJ E κJ κL p a ks σ (fun σ'=>qh ((bN b).bind E.rF) σ' (tR E.rF κJ (bN b) fun σ''=>Lm E κJ κL b σ'' k kx kr)) kx kr
   |_=>jJ E κJ κL p b ks σ k kx kr
  | .cond _ a b=>match n with
   |0=>jJ E κJ κL p a ks σ k kx kr
   |_=>jJ E κJ κL p b ks σ k kx kr
  | .block id c=>jJ E κJ κL p c ks σ k (λi σ'=>cond (Nat.beq i id) (k σ') (kx i σ')) kr
  | .loop b=>match ks with
   |κ::ks=>jJ E κJ κL p b ks σ κ kx kr
   |[]=>none
  | .scope c=>jJ E κJ κL p c ks σ k kx kr
  |_=>none
def eO(E:Env):List Nat→Code→List (St→Option α)→(St→Option α)→(Nat→St→Option α)→(St→Option α)→List (Bool×Nat×(St→Option α))
 |[],c,_,k,kx,kr=>yJ E c k kx kr
 |n::p,c,ks,k,kx,kr=>match c with
  | .seq a b=>match n with
   |0=>((bN b).toList.map λi=>(false,i,fun σ''=>wZ E b σ'' k kx kr))++(yJ E b k kx kr++eO E p a ks (fun σ'=>qh ((bN b).bind E.rF) σ' fun σ''=>wZ E b σ'' k kx kr) kx kr)
   |_=>eO E p b ks k kx kr
  | .cond _ a b=>match n with
   |0=>eO E p a ks k kx kr
   |_=>eO E p b ks k kx kr
  | .block id c=>eO E p c ks k (λi σ'=>cond (Nat.beq i id) (k σ') (kx i σ')) kr
  | .loop b=>match ks with
   |κ::ks=>eO E p b ks κ kx kr
   |[]=>[]
  | .scope c=>eO E p c ks k kx kr
  |_=>[]
theorem jq{E:Env}{κJ κL:Nat→St→Option α}: ∀(p:List Nat) (c:Code) (ks:List (St→Option α)) (k:St→Option α) (kx:Nat→St→Option α) (kr:St→Option α) (σ:St),Al E κJ κL (eO E p c ks k kx kr)→
  jJ E κJ κL p c ks σ k kx kr=pH E p c ks σ k kx kr
 |[],c,ks,k,kx,kr,σ,h=>Ln c k kx kr σ h
 |n::p,c,ks,k,kx,kr,σ,h=>by
  cases c with
  |seq a b=>
   cases n with
   |zero=>
    simp only[jJ,pH,eO]at h ⊢
    obtain⟨h1,h2⟩:=Al.app h
    obtain⟨h2,h3⟩:=Al.app h2
    rw[show(fun σ''=>Lm E κJ κL b σ'' k kx kr)=fun σ''=>wZ E b σ'' k kx kr from funext fun σ''=>Ln b k kx kr σ'' h2,Q9 h1]
    exact jq p a ks _ kx kr σ h3
   |succ n=>simp only[jJ,pH,eO]at h ⊢;exact jq p b ks k kx kr σ h
  |cond x a b=>
   cases n with
   |zero=>simp only[jJ,pH,eO]at h ⊢;exact jq p a ks k kx kr σ h
   |succ n=>simp only[jJ,pH,eO]at h ⊢;exact jq p b ks k kx kr σ h
  |block id x=>simp only[jJ,pH,eO]at h ⊢;exact jq p x ks k _ kr σ h
  |loop b=>
   cases ks with
   |nil=>simp only[jJ,pH]
   |cons κ ks=>simp only[jJ,pH,eO]at h ⊢;exact jq p b ks κ kx kr σ h
  |scope x=>simp only[jJ,pH,eO]at h ⊢;exact jq p x ks k kx kr σ h
  |_=>simp only[jJ,pH]
def yK(fn:Func):Code:=fn.body.getD .skip
def D3(E:Env)(fn:Func)(args res:List AM):St→Option (HP res):=fun σ=>BD E res (fn.results.toList.map .inl++rH args 0) σ some
def nox:Nat→St→Option α:=λ_ _=>none
def agf:St→Option α:=λ_=>none
def SK(E:Env)(fn:Func)(args res:List AM)(p:List Nat)(ks:List (St→Option (HP res)))(σ:St):Option (HP res):=
 pH E p (yK fn) ks σ (D3 E fn args res) nox (D3 E fn args res)
def atQ(E:Env)(fn:Func)(args res:List AM)(κJ κL:Nat→St→Option (HP res))(p:List Nat)(ks:List (St→Option (HP res)))(σ:St):Option (HP res):=
 jJ E κJ κL p (yK fn) ks σ (D3 E fn args res) nox (D3 E fn args res)
def N9(E:Env)(fn:Func)(args res:List AM)(p:List Nat)(ks:List (St→Option (HP res))):List (Bool×Nat×(St→Option (HP res))):=
 eO E p (yK fn) ks (D3 E fn args res) nox (D3 E fn args res)
theorem aa9{E:Env}{fn:Func}{args res:List AM}{κJ κL:Nat→St→Option (HP res)}{p:List Nat}{ks:List (St→Option (HP res))}(g:List (St→Option (HP res)))(h:qz E κJ κL (N9 E fn args res p ks)=g.map λf=>(f,f))(σ:St):
 SK E fn args res p ks σ=atQ E fn args res κJ κL p ks σ:=(jq p _ ks _ _ _ σ (SJ g h)).symm
theorem SL{E:Env}{fn:Func}{args res:List AM}(hb:fn.body.isSome=true)(x:HP args):CN E fn args res x=SK E fn args res [] [] (entry args x 0 S0):=by
 unfold CN SK yK
 cases h:fn.body with
 |none=>rw[h]at hb;cases hb
 |some c=>rfl
def lpF(E:Env)(fn:Func)(args res:List AM)(c:List (Nat×CM))(p:List Nat)(ks:List (St→Option (HP res)))(n:Nat):St→Option (HP res):=
 vx (some c) (fun σ kn=>SK E fn args res p (ks++[kn]) σ) n
theorem Lo(E:Env)(fn:Func)(args res:List AM)(c:List (Nat×CM))(p:List Nat)(ks:List (St→Option (HP res)))(n:Nat)(σ:St):
 lpF E fn args res c p ks (n+1) σ=SK E fn args res p (ks++[fun σ'=>qh (some c) σ' (lpF E fn args res c p ks n)]) σ:=rfl
def Lp{β:Type}(κ:Nat→β):List (Nat×β)→Prop
 |[]=>True
 |q::r=>κ q.1=q.2∧Lp κ r
def Jh{β:Type}:List (β×β)→Prop
 |[]=>True
 |q::r=>q.1=q.2∧Jh r
theorem Jh.mem{β:Type}: ∀{l:List (β×β)},Jh l→ ∀p∈l,p.1=p.2
 |q::r,h,p,hp=>by
  rcases aV.1 hp with rfl|hp
  ·exact h.1
  ·exact Jh.mem h.2 p hp
theorem WX{β:Type}(d:β): ∀(l:List (Nat×β)),(l.map (·.1)).Nodup→ ∃κ:Nat→β,Lp κ l
 |[],_=>⟨λ_=>d,trivial⟩
 |q::r,h=>by
  rw[bA,xK]at h
  obtain⟨κ,hκ⟩:=WX d r h.2
  refine⟨λi=>if i=q.1 then q.2 else κ i,by simp,?_⟩
  have key: ∀(r':List (Nat×β)),(∀p∈r',p∈r)→Lp κ r'→Lp (λi=>if i=q.1 then q.2 else κ i) r':=by
   intro r'
   induction r' with
   |nil=>intros;trivial
   |cons p r' ih=>
    intro hm ha
    refine⟨?_,ih (λp' HE=>hm p' (aU _ HE)) ha.2⟩
    have gY:p.1≠q.1:=λe=>h.1 (e▸dF (hm p (bg ..)))
    show(if p.1=q.1 then q.2 else κ p.1)=p.2
    rw[af gY]
    exact ha.1
  exact key r (λ_ h=>h) hκ
theorem aek{β:Type}(d:β)(l:List (Nat×β)){ks:List Nat}(h:l.map (·.1)=ks)(hd:ks.Nodup): ∃κ:Nat→β,Lp κ l:=WX d l (h▸hd)
theorem at_eq(E:Env)(fn:Func)(args res:List AM){κJ κL:Nat→St→Option (HP res)}{p:List Nat}{ks:List (St→Option (HP res))}{l:List ((St→Option (HP res))×(St→Option (HP res)))}(h:qz E κJ κL (N9 E fn args res p ks)=l)(hl:Jh l)(σ:St):
 SK E fn args res p ks σ=atQ E fn args res κJ κL p ks σ:=(jq p _ ks _ _ _ σ (by unfold Al;rw[show qz E κJ κL (eO E p (yK fn) ks (D3 E fn args res) nox (D3 E fn args res))=l from h];exact hl.mem)).symm
end VM
end
section
namespace VM
open Go Go.RowKit
variable{P:Program}
def D4(i:Nat):List (Nat×Ty)→Option Ty
 |[]=>none
 |q::r=>cond (Nat.beq i q.1) (some q.2) (D4 i r)
theorem AU{i:Nat}{τ:Ty}: ∀{l:List (Nat×Ty)},D4 i l=some τ→(i,τ)∈l
 |q::r,h=>by
  unfold D4 at h
  cases hb:Nat.beq i q.1<;>rw[hb]at h
  ·exact aU _ (AU h)
  ·cases h;rw[df hb];exact bg ..
structure yL(P:Program)(tab:List (Nat×Ty)):Prop where
 ok:WT P tab=true
 mixed:P.follows .mixedOrders=true
theorem Ji{E:Env}(hE:mI P E)(abb:E.io=[]){f:FuncId}{fn:Func}(hf:P.funcs[f]? =some fn)(τs:List Ty)
  (hc:(Nat.beq E.nt fn.ntmps&&Nat.ble τs.length E.nt)=true) {w:World} {vs:List Value} {x:HP (τs.map .v)} (hA:gj w (λ_=>False) (τs.map .v) x vs)
  (h:CN E fn (τs.map .v) [.v .bool] x=some true):Calls P f vs.toArray w λe w'=>e= .returned (.bool true)∧Below w.heap.size w w':=by
 rw[ba]at hc
 have Vw:=df hc.1
 have hlen:=xy hc.2
 have hh: ∀(τs:List Ty) (vs:List Value),cF (τs.map .v) vs=[]:=by
  intro τs
  induction τs with
  |nil=>intro vs;cases vs<;>rfl
  |cons τ τs ih=>intro vs;cases vs with
   |nil=>rfl
   |cons v vs=>simp[cF,cf,ih]
 have hi: ∀(τs:List Ty) (vs:List Value),du (τs.map .v) vs=[]:=by
  intro τs
  induction τs with
  |nil=>intro vs;cases vs<;>rfl
  |cons τ τs ih=>intro vs;cases vs with
   |nil=>rfl
   |cons v vs=>simp[du,AM.eU,ih]
 refine(AP (M0:=λ_=>False) (vs:=vs) hE hf Vw (λi m hm pw=> ?_) (λi hi=>by rw[abb]at hi;cases hi) (by rw[bI];rw[←Vw];exact hlen) (λb hb=>hb.elim) (by rw[hh];simpa using hA) (by rw[hh];exact List.nodup_nil) (λb _ hb=>hb) h).mono ?_
 ·rw[nX]at hm
  obtain⟨τ,_,rfl⟩:=sV.1 hm
  cases pw
 ·rintro e w' ⟨v,rfl,us,M',rfl,Km,hL,_,_⟩
  rw[hh]at hL
  rw[hi]at Km
  simp only[RR]at Km
  rcases Km with⟨p,zU,h1,_⟩|⟨v,CP,_,_,rfl,hv,rfl,_⟩
  ·cases h1
  ·refine⟨?_,hL.os,hL.tape,hL.output,hL.size,λb hb=>hL.frame b hb (by simp)⟩
   have:v= .bool true:=by
    simp only[A1,V,Ty.isAgg,fD,dW,Rd,dx,dR]at hv
    exact hv
   rw[this];rfl
def Lq(P:Program):List Ty→List TypeId→Bool
 |[],[]=>true
 |τ::τs,t::ts=>(oj P τ (.inl t)&&τ.lD)&&((P.readableRec t&&decide (t<P.types.size))&&Lq P τs ts)
 |_,_=>false
theorem BV: ∀{τs:List Ty} {ts:List TypeId},Lq P τs ts=true→τs.length=ts.length∧ ∀(j:Nat) τ t,τs[j]? =some τ→ts[j]? =some t→(gA P τ t∧τ.lD=true∧P.readableRec t=true∧t<P.types.size)
 |[],[],_=>⟨rfl,λj τ t h=>by simp at h⟩
 |τ::τs,t::ts,h=>by
  simp only[Lq,ba]at h
  obtain⟨⟨h1,h2⟩,⟨h3,h4⟩,h5⟩:=h
  obtain⟨hl,ih⟩:=BV h5
  refine⟨by simp[hl],λj τ' t' ha hb=> ?_⟩
  cases j with
  |zero=>
   simp only[C8,eJ]at ha hb
   subst ha;subst hb
   exact⟨eN h1,h2,h3,bH h4⟩
  |succ j=>exact ih j τ' t' (by simpa using ha) (by simpa using hb)
 |[],_::_,h|_::_,[],h=>by simp[Lq]at h
theorem Lr{H:Type}{enc:TypeId×Value→H}{w:World}{fn:Func}{args:Array Value}{ds:List (DataW H)}{ps:List MemPlace}{r:Reach}{b0:Nat}(laid:laidOutB P=true)(τs:List Ty)
  (hA:DataW.TrodAll enc P w 0 (λ_=>true) true fn.params.toList args.toList ds ps) (vD:Lq P τs fn.params.toList=true)
  (hv: ∀(j:Nat) t v,fn.params[j]? =some t→args[j]? =some v→Value.okWide P w r b0 t v):
  (∃x:HP (τs.map .v),gj w (λ_=>False) (τs.map .v) x args.toList∧WV τs x)∧ ∀w',Below w.heap.size w w'→ ∃zU,DataW.TrodAll enc P w' 0 (λb=>decide (b<w.heap.size)) true fn.params.toList args.toList ds zU:=
 AT laid hA (BV vD).1 (BV vD).2 (λj t v h h'=>hv j t v (by rw[eI]at h;exact h) (by rw[eI]at h';exact h'))
end VM
end
