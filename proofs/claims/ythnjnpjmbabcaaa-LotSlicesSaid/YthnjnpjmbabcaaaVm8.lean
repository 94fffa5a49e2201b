/- A part of the proof of LotSlices of layer 23: a machine that reads a function of the program as an equation between values. -/
import Derived.Test.YthnjnpjmbabcaaaVm7
import Derived.Laws.StructEq
import Derived.OpenShut
import Derived.ChangeShapes
import Derived.ChangeMaps5
import Derived.RowKit
import Derived.ChangeOld
import Derived.Carry
import Derived.Below
import Derived.Test.YthnjnpjmbabcaaaVm0
set_option linter.all false
open List renaming length→ℓ
noncomputable section
section
namespace VM
open Go
variable{P:Program}{E:Env}{o:Oper}{a:Act}{w:World}{M:Nat→Prop}{ν:Nat→Value}{σ:St}{c:Ctx}{α:Type}{r:α}{next:Act→World→Prop}{Q:Exit→Act→World→Prop}
theorem AJ{m:AM}{ms:List AM}(x:HP (m::ms))(i:Nat)(σ:St):entry (m::ms) x i σ=entry ms (jq x) (i+1) (qF m (gZ x) i σ):=by
 cases ms with
 |nil=>simp[entry,gZ]
 |cons n ms=>simp[entry,gZ,jq]
theorem Core.mo{tm:Array Value}(h:Core c σ tm w M ν){id:Nat}{v:Value}{e:ar}(hid:σ.H id=none)(tG:ER w M v e)
  (hd: ∀b,bK v=some b→ ∀i e',σ.H i=some e'→e'.mut→bK (ν i)≠some b) (hn: ∀b,bK v=some b→c.B≤b∨c.may b) (ho: ∀b e0 l0,e= .own e0 l0→bK v=some b→ ¬c.M0 b)
  (iU: ∀τ x p j,e= .cQ τ x p j→au σ.H id (some e) j≠none∧ ∃b,v= .pointer (some ⟨b,0,none⟩)∧w.cell? ⟨b,aO p τ,none⟩=some (updν ν id v j):=by intro _ _ _ _ h;cases h):
  Core c ⟨σ.T,au σ.H id (some e)⟩ tm w M (updν ν id v):=by
 have hm:=Mem.mo h.mem (id:=id) (v:=v) (e:=e) (λe' js=>by rw[hid]at js;cases js) tG hd hn ho (.inl hid) iU
 refine h.tr ⟨hm,.refl w M,⟨λi e1 hi=> ?_,λi hi=> ?_⟩⟩
 ·have ay:i≠id:=λe=>by rw[e,hid]at hi;cases hi
  exact⟨e1,by rw[ae _ _ ay];exact hi,.refl e1⟩
 ·have ay:i≠id:=λe=>hi (e▸hid)
  simp[updν,ay]
theorem Core.put{tm:Array Value}(h:Core c σ tm w M ν){d:Nat}{x:ax}(hx:VR w M σ.H ν x (tm.getD d undef)):Core c (σ.put d x) tm w M ν:=by
 refine⟨h.mem,λi=> ?_⟩
 by_cases hi:i=d
 ·subst hi;rw[iZ];exact hx
 ·rw[nr _ _ hi];exact h.tmp i
theorem rO{tm:Array Value}: ∀{ms:List AM} {x:HP ms} {vs:List Value} {i:Nat} {σ:St} {ν:Nat→Value} {used:List Nat},Core c σ tm w M ν→dC w M ms x vs→(∀j v,vs[j]? =some v→tm.getD (i+j) undef=v)→
  (∀j,16*i≤j→σ.H j=none)→(∀j e b,σ.H j=some e→e.mut→bK (ν j)=some b→b∈used)→(used++bE ms vs).Nodup→(∀b∈bE ms vs,c.may b)→(∀b,c.may b→ ¬c.M0 b)→
  ∃ν',Core c (entry ms x i σ) tm w M ν'
 |[],x,vs,i,σ,ν,used,h,_,_,_,_,_,_,_=>⟨ν,h⟩
 |m::ms,x,vs,i,σ,ν,used,h,hA,zi,dA,uv,mH,AK,tF=>by
  rw[AJ]
  simp only[dC]at hA
  obtain⟨v,yb,rfl,h1,h2⟩:=hA
  have hv:tm.getD i undef=v:=by simpa using zi 0 v rfl
  have vR: ∀j u,yb[j]? =some u→tm.getD (i+1+j) undef=u:=λj u hj=>by
   have:=zi (j+1) u (by simpa using hj)
   rwa [show i+(j+1)=i+1+j from by omega]at this
  have hid:σ.H (16*i+15)=none:=dA _ ω
  have KB:bE (m::ms) (v::yb)=bl m v++bE ms yb:=rfl
  rw[KB]at mH AK
  have gg: ∀b,b∈bl m v→ ∀j e',σ.H j=some e'→e'.mut→bK (ν j)≠some b:=λb hb j e' hj dz bA=>
   dO mH (uv j e' b hj dz bA) (aS _ hb)
  have mm: ∀{σ':St} {ν':Nat→Value},Core c σ' tm w M ν'→(∀j,16*(i+1)≤j→σ'.H j=none)→(∀j e b,σ'.H j=some e→e.mut→bK (ν' j)=some b→b∈used++bl m v)→ ∃ν'',Core c (entry ms (jq x) (i+1) σ') tm w M ν'':=
   λh' n9 sQ=>rO h' h2 vR n9 sQ (by rw[bq];exact mH) (λb hb=>AK b (bh _ hb)) tF
  have zd: ∀(e:ar) (v':Value),v'=v→(∀b,bK v=some b→b∈bl m v)→(∀j,16*(i+1)≤j→au σ.H (16*i+15) (some e) j=none)∧
    (∀j e1 b,au σ.H (16*i+15) (some e) j=some e1→e1.mut→bK (updν ν (16*i+15) v' j)=some b→b∈used++bl m v):=by
   rintro e v' rfl hb
   refine⟨λj hj=>by rw[ae _ _ ω];exact dA j ω,λj e1 b hj dz bA=> ?_⟩
   by_cases uu:j=16*i+15
   ·subst uu
    simp only[updν,dv]at bA
    exact bh _ (hb b bA)
   ·rw[ae _ _ uu]at hj
    simp only[updν,uu,c7]at bA
    exact aS _ (uv j e1 b hj dz bA)
  cases m with
  |v τ=>
   refine mm (σ':=σ.put i (.val τ (gZ x))) (h.put ?_) (λj hj=>dA j ω) (λj e b hj dz bA=>aS _ (uv j e b hj dz bA))
   simp only[VR,hv];exact h1
  |fn f τ=>
   refine mm (σ':=σ.put i (.yC f (g8 τ (gZ x)))) (h.put ?_) (λj hj=>dA j ω) (λj e b hj dz bA=>aS _ (uv j e b hj dz bA))
   rw[hv]
   simp only[A1,VR]at h1 ⊢
   obtain⟨us,hu,xZ⟩:=h1
   exact⟨us,hu,dF.free xZ⟩
  |own e=>
   have ru: ∀b,bK v=some b→b∈bl (.own e) v:=λb hb=>by simp[bl,hb]
   have hc:=h.mo hid (v:=v) (e:= .own e (gZ x)) h1 (λb hb=>gg b (ru b hb)) (λb hb=> .inr (AK b (aS _ (ru b hb)))) (λb _ _ _ hb=>tF b (AK b (aS _ (ru b hb))))
   obtain⟨n9,sQ⟩:=zd (.own e (gZ x)) v rfl ru
   refine mm (σ':=(σ.put i (.ref (16*i+15))).di (16*i+15) (some (.own e (gZ x)))) (ν':=updν ν (16*i+15) v) (hc.put (d:=i) (x:= .ref (16*i+15)) ?_) n9 sQ
   simp only[VR,hv]
   exact⟨by rw[aa];simp,by simp[updν]⟩
  |lo e=>
   have ru: ∀b,bK v=some b→b∈bl (.lo e) v:=λb hb=>by simp[bl,hb]
   have hc:=h.mo hid (v:=v) (e:= .own e (gZ x)) h1 (λb hb=>gg b (ru b hb)) (λb hb=> .inr (AK b (aS _ (ru b hb)))) (λb _ _ _ hb=>tF b (AK b (aS _ (ru b hb))))
   obtain⟨n9,sQ⟩:=zd (.own e (gZ x)) v rfl ru
   refine mm (σ':=(σ.put i (.ref (16*i+15))).di (16*i+15) (some (.own e (gZ x)))) (ν':=updν ν (16*i+15) v) (hc.put (d:=i) (x:= .ref (16*i+15)) ?_) n9 sQ
   simp only[VR,hv]
   exact⟨by rw[aa];simp,by simp[updν]⟩
  |io τ=>
   have ru: ∀b,bK v=some b→b∈bl (.io τ) v:=λb hb=>by simp[bl,hb]
   have hc:=h.mo hid (v:=v) (e:= .obj τ (gZ x)) h1 (λb hb=>gg b (ru b hb)) (λb hb=> .inr (AK b (aS _ (ru b hb)))) (λb _ _ he=>by cases he)
   obtain⟨n9,sQ⟩:=zd (.obj τ (gZ x)) v rfl ru
   refine mm (σ':=(σ.put i (.dg (16*i+15) [])).di (16*i+15) (some (.obj τ (gZ x)))) (ν':=updν ν (16*i+15) v) (hc.put (d:=i) (x:= .dg (16*i+15) []) ?_) n9 sQ
   simp only[A1,ER]at h1
   obtain⟨b,cs,t,El,_⟩:=h1
   simp only[VR,hv]
   exact⟨_,aa _ _ _,trivial,b,by simp[updν,El],El⟩
  |dg τ=>
   refine mm (σ':=σ.put i (.iP τ (gZ x))) (h.put ?_) (λj hj=>dA j ω) (λj e b hj dz bA=>aS _ (uv j e b hj dz bA))
   rw[hv]
   simp only[A1,VR]at h1 ⊢
   exact h1
  |ptr τ=>
   refine mm (σ':=σ) h (λj hj=>dA j ω) (λj e b hj dz bA=>aS _ (uv j e b hj dz bA))
  |sp τ n e=>
   refine mm (σ':=σ) h (λj hj=>dA j ω) (λj e b hj dz bA=>aS _ (uv j e b hj dz bA))
def lI(tm:Array Value):ResultVar→Sem Value
 | .tmp t=>pure (tm.getD t undef)
 | .cell x t=>do loadVar t (←asAddr (tm.getD x undef))
def qT(P:Program)(tm:Array Value)(w:World)(rv:ResultVar)(u:Value):Prop:=(lI tm rv).run P w= .ok u w
def wz(P:Program)(tm:Array Value)(w:World):List (ResultVar ⊕ Nat)→List Value→List Value→Prop
 |[],us,ps=>us=[]∧ps=[]
 | .inl rv::rs,us,ps=> ∃u sB,us=u::sB∧qT P tm w rv u∧wz P tm w rs sB ps
 | .inr i::rs,us,ps=> ∃p sR,ps=p::sR∧p=tm.getD i undef∧wz P tm w rs us sR
theorem Core.Hy{tm:Array Value}{H1:Nat→Option ar}{M1:Nat→Prop}(h: ∀i,VR w M σ.H ν (σ.T i) (tm.getD i undef))(k:bJ w M w M1)(g:dM σ.H ν H1 ν): ∀i,VR w M1 H1 ν (σ.T i) (tm.getD i undef):=
 λi=>VR.aK k g (h i)
theorem rP(hE:EnvTy P E){tm:Array Value}{H0 Hq:Nat→Option ar}{M1:Nat→Prop}{uo uf:dh}{io:List (Nat×AM)}{hs:List Nat}(h:dU c w M ν H0 σ.H Hq M1 uo uf io hs)(ht: ∀i,VR w M1 σ.H ν (σ.T i) (tm.getD i undef))
  {m:AM} {rs:ResultVar ⊕ Nat} {k:m.den→St→Option α} (hk:wg E m rs σ k=some r):
  ∃y σ' xW xX vq DK M2 u,k y σ'=some r∧σ'.T=σ.T∧dU c w M ν H0 σ'.H DK M2 xW xX vq (hs++bl m u)∧bJ w M1 w M2∧dM σ.H ν σ'.H ν∧A1 w M2 m y u∧
   ((m.dm=false∧m.Hh=false∧ ∃rv,rs= .inl rv∧qT P tm w rv u)∨(m.dm=true∧ ∃i,rs= .inr i∧u=tm.getD i undef)):=by
 unfold wg at hk
 split at hk
 ·
  rename_i τ t k
  obtain⟨y,rd,ups,hk,hy⟩:=sS h.mem (ht t) hk
  have AL:qT P tm w (.tmp t) (tm.getD t undef):=by simp[qT,lI]
  rcases hy with⟨rfl,hV⟩|⟨id,e,l,rfl,hid,hV⟩
  ·exact⟨y,σ,uo,uf,io,Hq,M1,_,hk,rfl,by simpa [bl]using h,.refl w M1,.refl _ ν,hV,.inl ⟨rfl,rfl,_,rfl,AL⟩⟩
  ·obtain⟨M2,hA,hK,xe⟩:=h.freeze hid
   exact⟨y,_,uo,_,io,Hq,M2,_,hk,rfl,(by simp only[bl,cV];exact hA),hK,.qz hid ⟨rfl,rfl⟩,hV M2 xe,.inl ⟨rfl,rfl,_,rfl,AL⟩⟩
 ·
  rename_i τ x t k
  split at hk
  ·rename_i τ' nO
   obtain⟨e1,qA⟩:=bB hk
   clear hk
   subst e1
   obtain⟨υ,z,rd,hk,b,off,cs,hv,jo,eJ⟩:=rB h.mem (ht x) qA
   obtain⟨e2,sT⟩:=aw hk
   subst e2
   refine⟨_,σ,uo,uf,io,Hq,M1,aC _ cs,sT,rfl,by simpa [bl]using h,.refl w M1,.refl _ ν,V.aC eJ,.inl ⟨rfl,rfl,_,rfl,?_⟩⟩
   simp only[qT,lI,hv]
   simp[asAddr,rz (hE.ty t _ nO) jo eJ]
  ·cases hk
 ·
  rename_i e t k
  have hv:=ht t
  have AL:qT P tm w (.tmp t) (tm.getD t undef):=by simp[qT,lI]
  split at hk
  ·rename_i hT
   rw[hT]at hv
   obtain⟨ad,hv⟩:=VR.emp.1 hv
   have hb:bK (.slice ad 0 0)=none:=by cases ad<;>simp[bK]
   exact⟨[],σ,uo,uf,io,Hq,M1,_,hk,rfl,by rw[hv];simpa [bl,hb]using h,.refl w M1,.refl _ ν,by rw[hv];simp only[A1,ER];exact .inl ⟨trivial,ad,rfl⟩,.inl ⟨rfl,rfl,_,rfl,AL⟩⟩
  ·rename_i id hT
   rw[hT]at hv
   simp only[VR]at hv
   split at hk
   ·rename_i e' l hid
    obtain⟨e1,hk⟩:=aw hk
    cases e1
    refine⟨_,_,_,uf,io,_,M1,ν id,hk,rfl,(by simp only[bl];exact h.hand hid),.refl w M1,.qz hid (ar.dN _),h.mem.dd id _ hid,.inl ⟨rfl,rfl,_,rfl,by rw[←hv.2];exact AL⟩⟩
   ·cases hk
  ·cases hk
 ·
  rename_i τ i k
  have hv:=ht i
  split at hk
  ·rename_i id hT
   rw[hT]at hv
   split at hk
   ·rename_i υ z hid
    obtain⟨e1,hk⟩:=aw hk
    subst e1
    simp only[VR]at hv
    obtain⟨e,he,dR⟩:=hv
    rw[hid]at he;cases he
    simp only[AR]at dR
    obtain⟨_,b,hb,hv⟩:=dR
    have El:tm.getD i undef=ν id:=by rw[hv,hb];rfl
    refine⟨_,_,uo,uf,_,_,M1,ν id,hk,rfl,(by simp only[bl];exact h.Kh hid),.refl w M1,.qz hid (ar.dN _),h.mem.dd id _ hid,.inr ⟨rfl,i,rfl,El.symm⟩⟩
   ·cases hk
  ·cases hk
 ·
  rename_i e i k
  have hv:=ht i
  split at hk
  ·rename_i id hT
   rw[hT]at hv
   simp only[VR]at hv
   split at hk
   ·rename_i e' l hid
    obtain⟨e1,hk⟩:=aw hk
    cases e1
    refine⟨_,_,uo,uf,_,_,M1,ν id,hk,rfl,(by simp only[bl];exact h.IW hid),.refl w M1,.qz hid (ar.dN _),h.mem.dd id _ hid,.inr ⟨rfl,i,rfl,hv.2.symm⟩⟩
   ·cases hk
  ·cases hk
 ·
  rename_i τ t k
  have hv:=ht t
  have AL:qT P tm w (.tmp t) (tm.getD t undef):=by simp[qT,lI]
  split at hk
  ·rename_i id hT
   rw[hT]at hv
   split at hk
   ·rename_i υ z hid
    obtain⟨e1,hk⟩:=aw hk
    subst e1
    simp only[VR]at hv
    obtain⟨e,he,dR⟩:=hv
    rw[hid]at he;cases he
    simp only[AR]at dR
    obtain⟨_,b,hb,hv⟩:=dR
    have El:tm.getD t undef=ν id:=by rw[hv,hb];rfl
    refine⟨_,_,uo,uf,_,_,M1,ν id,hk,rfl,(by simp only[bl];exact h.Kh hid),.refl w M1,.qz hid (ar.dN _),h.mem.dd id _ hid,.inl ⟨rfl,rfl,_,rfl,by rw[←El];exact AL⟩⟩
   ·cases hk
  ·cases hk
 ·
  rename_i τ n e x t k
  split at hk
  ·rename_i τ' id nO hT
   obtain⟨e1,qA⟩:=bB hk
   clear hk
   subst e1
   have hv:=ht x
   rw[hT]at hv
   split at qA
   ·rename_i υ z q j hid
    obtain⟨G2,sT⟩:=aG qA
    clear qA
    have:=ox G2
    subst this
    obtain⟨e2,MG⟩:=aw sT
    clear sT
    subst e2
    split at MG
    ·rename_i e' l hj
     obtain⟨e3,Tn⟩:=aw MG
     clear MG
     cases e3
     obtain⟨y,Vz,iW,_⟩:=tM Tn
     clear Tn
     obtain⟨b,cs,te,dL,e0,hb,hg,hM,hr,jW,h1,hq,cy,YL⟩:=h.mem.linked hid
     simp only[VR]at hv
     obtain⟨e1,pK,dR⟩:=hv
     rw[hid]at pK;cases pK
     simp only[AR]at dR
     obtain⟨hi,b',bA,hu⟩:=dR
     rw[hb]at bA;cases bA
     have hl:cs.toList.length=υ.size:=by rw[jW,bD (by simp only[aR];omega),hr.length]
     have NP:cs.toList=bG dL (cH υ n) [ν j]:=by simpa [aO]using jW
     have jo:At w b 0 cs.toList:=by
      have:=At.of_block hg 0 cs.toList.length
      rw[cW,gn]at this
      exact this
     have hh:=nQ (w:=w) (M:=M1) (e:=e) (iE hq) hr NP
     have hA:=h.hand hj
     rw[←hh.1]at hA
     refine⟨y,_,_,_,_,_,M1,.agg cs,Vz,rfl,hA,.refl w M1,.qz hj (ar.dN _),?_,.inl ⟨rfl,rfl,_,rfl,?_⟩⟩
     ·simp only[A1]
      exact⟨cs,dL,ν j,l,z,rfl,iE hq,hr,NP,h.mem.dd j _ hj,iW⟩
     ·simp only[qT,lI,hu]
      simp[asAddr]
      exact rA (P:=P) (hE.ty t _ nO) (tO (iE hq)) jo hl
    ·cases MG
   ·cases qA
  ·cases hk
 ·cases hk
theorem uw(hE:EnvTy P E){tm:Array Value}{H0:Nat→Option ar}: ∀{ms:List AM} {rs:List (ResultVar ⊕ Nat)} {σ:St} {Hq:Nat→Option ar} {M1:Nat→Prop} {uo uf:dh} {io:List (Nat×AM)} {hs:List Nat} {K:HP ms→Option α},
  dU c w M ν H0 σ.H Hq M1 uo uf io hs→(∀i,VR w M1 σ.H ν (σ.T i) (tm.getD i undef))→w6 E ms rs σ K=some r→
  ∃y us ps H2 xW xX vq DK M2,K y=some r∧dU c w M ν H0 H2 DK M2 xW xX vq (hs++aF ms us ps)∧bJ w M1 w M2∧RR w M2 ms y us ps∧wz P tm w rs us ps
 |[],[],σ,Hq,M1,uo,uf,io,hs,K,h,ht,hk=>⟨(),[],[],σ.H,uo,uf,io,Hq,M1,hk,by simpa [aF]using h,.refl w M1,⟨rfl,rfl⟩,⟨rfl,rfl⟩⟩
 |[m],[q],σ,Hq,M1,uo,uf,io,hs,K,h,ht,KC=>by
  obtain⟨y,σ',xW,xX,vq,DK,M2,u,hk,hT,hA,hK,hG,hy,hu⟩:=rP hE h ht (KC:wg E m q σ _=some r)
  clear KC
  rcases hu with⟨h1,h2,rv,rfl,hv⟩|⟨h1,i,rfl,hv⟩
  ·refine⟨y,[u],[],_,_,_,_,_,M2,hk,by simpa [aF,h1]using hA,hK,?_,?_⟩
   ·simp only[RR];exact .inr ⟨u,[],h1,h2,rfl,hy,by simp⟩
   ·simp only[wz];exact⟨u,[],rfl,hv,by simp⟩
  ·refine⟨y,[],[u],_,_,_,_,_,M2,hk,by simpa [aF,h1]using hA,hK,?_,?_⟩
   ·simp only[RR];exact .inl ⟨u,[],h1,rfl,hy,by simp⟩
   ·simp only[wz];exact⟨u,[],rfl,hv,by simp⟩
 |m::n::ms,q::rs,σ,Hq,M1,uo,uf,io,hs,K,h,ht,KC=>by
  obtain⟨y,σ',xW,xX,vq,DK,M2,u,qA,hT,hA,hK,hG,hy,hu⟩:=rP hE h ht (KC:wg E m q σ _=some r)
  obtain⟨ys,us,ps,H3,To,Tp,Tq,P0,M3,hk,Rv,Rw,My,Nj⟩:=uw (ms:=n::ms) hE hA (λi=>by rw[hT];exact Core.Hy ht hK hG i) qA
  have wu:A1 w M3 m y u:=A1.np Rw (λb hb=>⟨rfl,Rv.hM b (aS _ (bh _ hb))⟩) hy
  clear KC
  rcases hu with⟨h1,h2,rv,rfl,hv⟩|⟨h1,i,rfl,hv⟩
  ·refine⟨(y,ys),u::us,ps,H3,To,Tp,Tq,P0,M3,hk,?_,hK.trans Rw,?_,?_⟩
   ·have:aF (m::n::ms) (u::us) ps=bl m u++aF (n::ms) us ps:=by rw[aF];simp[h1]
    rw[this,←bq];exact Rv
   ·rw[RR];exact .inr ⟨u,us,h1,h2,rfl,wu,My⟩
   ·simp only[wz];exact⟨u,us,rfl,hv,Nj⟩
  ·refine⟨(y,ys),us,u::ps,H3,To,Tp,Tq,P0,M3,hk,?_,hK.trans Rw,?_,?_⟩
   ·have:aF (m::n::ms) us (u::ps)=bl m u++aF (n::ms) us ps:=by rw[aF];simp[h1]
    rw[this,←bq];exact Rv
   ·rw[RR];exact .inl ⟨u,ps,h1,rfl,wu,My⟩
   ·simp only[wz];exact⟨u,ps,rfl,hv,Nj⟩
 |[],_::_,_,_,_,_,_,_,_,_,_,_,hk=>by simp[w6]at hk
 |[_],[],_,_,_,_,_,_,_,_,_,_,hk=>by simp[w6]at hk
 |[_],_::_::_,_,_,_,_,_,_,_,_,_,_,hk=>by simp[w6]at hk
 |_::_::_,[],_,_,_,_,_,_,_,_,_,_,hk=>by simp[w6]at hk
theorem wA{tm:Array Value}: ∀{rv:List ResultVar} {is:List (ResultVar ⊕ Nat)} {us ps:List Value},wz P tm w (rv.map .inl++is) us ps→
  ∃GL NQ,us=GL++NQ∧GL.length=rv.length∧(∀i (h:i<rv.length) (h':i<GL.length),qT P tm w rv[i] GL[i])∧wz P tm w is NQ ps
 |[],is,us,ps,h=>⟨[],us,rfl,rfl,λi h=>by simp at h,h⟩
 |rv::YM,is,us,ps,h=>by
  simp only[bz,iH,wz]at h
  obtain⟨u,sB,rfl,h1,h2⟩:=h
  obtain⟨GL,NQ,rfl,hl,h3,h4⟩:=wA h2
  refine⟨u::GL,NQ,rfl,by simp[hl],λi hi kk=> ?_,h4⟩
  cases i with
  |zero=>exact h1
  |succ i=>exact h3 i (by simpa using hi) (by simpa using kk)
theorem lJ{tm:Array Value}: ∀{ms:List AM} {vs:List Value} {i:Nat} {us ps:List Value},vs.length=ms.length→(∀j v m,vs[j]? =some v→ms[j]? =some m→m.dm=true→tm.getD (i+j) undef=v)→wz P tm w (n8 ms i) us ps→us=[]∧ps=cv ms vs
 |[],vs,i,us,ps,_,_,h=>by simp only[n8,wz]at h;simpa [cv]using h
 |m::ms,[],_,_,_,hl,_,_=>by simp at hl
 |m::ms,v::vs,i,us,ps,hl,zi,h=>by
  have vR: ∀j u m,vs[j]? =some u→ms[j]? =some m→m.dm=true→tm.getD (i+1+j) undef=u:=λj u m hj hm kK=>by
   have:=zi (j+1) u m (by simpa using hj) (by simpa using hm) kK
   rwa [show i+(j+1)=i+1+j from by omega]at this
  have vr:vs.length=ms.length:=by simpa using hl
  cases m with
  |io τ=>
   simp only[n8,wz]at h
   obtain⟨p,sR,rfl,hp,h⟩:=h
   obtain⟨h1,h2⟩:=lJ vr vR h
   refine⟨h1,?_⟩
   have:=zi 0 v (.io τ) rfl rfl rfl
   simp only[eR]at this
   simp[cv,AM.dm,h2,hp,this]
  |lo e=>
   simp only[n8,wz]at h
   obtain⟨p,sR,rfl,hp,h⟩:=h
   obtain⟨h1,h2⟩:=lJ vr vR h
   refine⟨h1,?_⟩
   have:=zi 0 v (.lo e) rfl rfl rfl
   simp only[eR]at this
   simp[cv,AM.dm,h2,hp,this]
  |v τ=>
   obtain⟨h1,h2⟩:=lJ vr vR (show wz P tm w (n8 ms (i+1)) us ps from h)
   exact⟨h1,by simp[cv,AM.dm,h2]⟩
  |own τ=>
   obtain⟨h1,h2⟩:=lJ vr vR (show wz P tm w (n8 ms (i+1)) us ps from h)
   exact⟨h1,by simp[cv,AM.dm,h2]⟩
  |fn f τ=>
   obtain⟨h1,h2⟩:=lJ vr vR (show wz P tm w (n8 ms (i+1)) us ps from h)
   exact⟨h1,by simp[cv,AM.dm,h2]⟩
  |dg τ=>
   obtain⟨h1,h2⟩:=lJ vr vR (show wz P tm w (n8 ms (i+1)) us ps from h)
   exact⟨h1,by simp[cv,AM.dm,h2]⟩
  |ptr τ=>
   obtain⟨h1,h2⟩:=lJ vr vR (show wz P tm w (n8 ms (i+1)) us ps from h)
   exact⟨h1,by simp[cv,AM.dm,h2]⟩
  |sp τ n e=>
   obtain⟨h1,h2⟩:=lJ vr vR (show wz P tm w (n8 ms (i+1)) us ps from h)
   exact⟨h1,by simp[cv,AM.dm,h2]⟩
theorem zl{fn:Func}{tm:Array Value}{us:List Value}(hl:us.length=fn.results.toList.length)(h: ∀i (h:i<fn.results.toList.length) (h':i<us.length),qT P tm w fn.results.toList[i] us[i]):
  (results fn tm).run P w= .ok (oq us) w:=by
 have key: ∀(rs:List ResultVar) (us:List Value),us.length=rs.length→(∀i (h:i<rs.length) (h':i<us.length),qT P tm w rs[i] us[i])→(rs.mapM (lI tm)).run P w= .ok us w:=by
  intro rs
  induction rs with
  |nil=>intro us hl _;cases us with
   |nil=>simp
   |cons _ _=>simp at hl
  |cons r rs ih=>intro us hl h;cases us with
   |nil=>simp at hl
   |cons u us=>
    have h0:(lI tm r).run P w= .ok u w:=h 0 (by simp) (by simp)
    have h1:=ih us (by simpa using hl) (λi hi kk=>h (i+1) (by simpa using hi) (by simpa using kk))
    simp[pk,h0,h1]
 have h2:=key fn.results.toList us hl h
 have h3:results fn tm=(do let vs ←fn.results.mapM (lI tm);pure (if h:vs.size=1 then vs[0]else .tuple vs)):=by
  unfold results
  congr 1
 rw[h3,Array.mapM_eq_mapM_toList]
 simp only[Sem.run_bind,Sem.run_map,h2]
 unfold oq
 by_cases h3:us.length=1
 ·simp[h3]
 ·simp[h3]
theorem pY{m:AM}{x:m.den}{i:Nat}{σ:St}(h: ∀j e l o,σ.H j≠some (.cq e l o)): ∀j e l o,(qF m x i σ).H j≠some (.cq e l o):=by
 have key: ∀(τ:St) (n:Nat) (v:ar),(∀j e l o,τ.H j≠some (.cq e l o))→(∀e l o,v≠ .cq e l o)→ ∀j e l o,(τ.di n (some v)).H j≠some (.cq e l o):=fun τ n v hτ hv j e l o hj=>by
  have hj:au τ.H n (some v) j=some (.cq e l o):=hj
  by_cases Ts:j=n
  ·subst Ts;rw[aa]at hj;cases hj;exact hv _ _ _ rfl
  ·rw[ae _ _ Ts]at hj;exact hτ j e l o hj
 cases m<;>simp only[qF]<;>first|exact h|exact key _ _ _ h (λ_ _ _=>by simp)
theorem rQ: ∀{ms:List AM} {x:HP ms} {i:Nat} {σ:St},(∀j e l o,σ.H j≠some (.cq e l o))→ ∀j e l o,(entry ms x i σ).H j≠some (.cq e l o)
 |[],_,_,_,h=>h
 |[_],_,_,_,h=>pY h
 |m::n::ms,x,i,σ,h=>rQ (ms:=n::ms) (x:=x.2) (i:=i+1) (σ:=qF m x.1 i σ) (pY h)
theorem qU(hE:g9 P E){f:FuncId}{fn:Func}(hf:P.funcs[f]? =some fn)(Hz:E.nt=fn.ntmps){args res:List AM}(kK: ∀i m,args[i]? =some m→m.dm=true→i∈E.io)(NR: ∀i∈E.io,i<args.length)(hlen:args.length≤fn.ntmps)
  {M0:Nat→Prop} {vs:List Value} {x:HP args} {y:HP res} (lK: ∀b,M0 b→b<w.heap.size) (hA:dC w (λb=>M0 b∨b∈bE args vs) args x vs) (mH:(bE args vs).Nodup) (oe: ∀b∈bE args vs,¬M0 b)
  (h:w7 E fn args res x=some y):
  Calls P f vs.toArray w λe w'=> ∃v,e= .returned v∧ ∃us M',v=oq us∧RR w' M' res y us (cv args vs)∧Left w M0 (bE args vs) w' M'∧(aF res us (cv args vs)).Nodup∧ ∀b∈aF res us (cv args vs),¬M0 b:=by
 unfold w7 at h
 split at h
 ·cases h
 rename_i cd hb
 simp only at h
 have QJ: ∀{ms:List AM} {x:HP ms} {vs:List Value} {M:Nat→Prop},dC w M ms x vs→vs.length=ms.length:=by
  intro ms
  induction ms with
  |nil=>intro x vs M h;simp only[dC]at h;subst h;rfl
  |cons m ms ih=>intro x vs M h;simp only[dC]at h;obtain⟨v,yb,rfl,_,h⟩:=h;simp[ih h]
 have G9:=QJ hA
 let tm:Array Value:=vs.toArray++Array.replicate (fn.ntmps-vs.toArray.size) undef
 have zi: ∀j v,vs[j]? =some v→tm.getD j undef=v:=by
  intro j v hj
  have cy:j<vs.length:=(jz.1 hj).1
  rw[jy,Array.getElem?_append_left (by simpa using cy),mK,hj];rfl
 have ir:tm.size=fn.ntmps:=by simp[tm];omega
 have VA: ∀{ms:List AM} {x:HP ms} {vs:List Value} {M:Nat→Prop},dC w M ms x vs→ ∀b∈bE ms vs,b<w.heap.size:=by
  intro ms
  induction ms with
  |nil=>intro x vs M h b hb;simp[bE]at hb
  |cons m ms ih=>
   intro x vs M h b hb
   simp only[dC]at h
   obtain⟨v,yb,rfl,h1,h⟩:=h
   simp only[bE,bg]at hb
   rcases hb with hb|hb
   ·cases m with
    |v _=>simp[bl]at hb
    |fn _ _=>simp[bl]at hb
    |dg _=>simp[bl]at hb
    |own e=>
     simp only[bl,ca,A1,ER]at hb h1
     rcases h1 with⟨_,a,hv⟩|⟨b',cs,t,cap,hv,hg,_⟩
     ·rw[hv]at hb;cases a<;>simp[bK]at hb
     ·rw[hv]at hb
      simp only[bK]at hb
      split at hb
      ·cases hb
      ·simp only[bZ]at hb;subst hb;exact lt_of_block hg
    |lo e=>
     simp only[bl,ca,A1,ER]at hb h1
     rcases h1 with⟨_,a,hv⟩|⟨b',cs,t,cap,hv,hg,_⟩
     ·rw[hv]at hb;cases a<;>simp[bK]at hb
     ·rw[hv]at hb
      simp only[bK]at hb
      split at hb
      ·cases hb
      ·simp only[bZ]at hb;subst hb;exact lt_of_block hg
    |io τ=>
     simp only[bl,ca,A1,ER]at hb h1
     obtain⟨b',cs,t,hv,hg,_⟩:=h1
     rw[hv]at hb
     simp only[bK,bZ]at hb;subst hb;exact lt_of_block hg
    |ptr τ=>
     simp only[bl,ca,A1,ER]at hb h1
     obtain⟨b',cs,t,hv,hg,_⟩:=h1
     rw[hv]at hb
     simp only[bK,bZ]at hb;subst hb;exact lt_of_block hg
    |sp τ n e=>
     simp only[A1]at h1
     obtain⟨cs,dL,u,l,z,rfl,hq,hr,jW,hu,_⟩:=h1
     rw[(nQ hq hr jW).1,ca]at hb
     simp only[ER]at hu
     rcases hu with⟨_,a,hv⟩|⟨b',cs,t,cap,hv,hg,_⟩
     ·rw[hv]at hb;cases a<;>simp[bK]at hb
     ·rw[hv]at hb
      simp only[bK]at hb
      split at hb
      ·cases hb
      ·simp only[bZ]at hb;subst hb;exact lt_of_block hg
   ·exact ih h b hb
 let cx:Ctx:={B:=w.heap.size,w0:=w,M0:=M0,may:=λb=>b∈bE args vs,arg:=λi=>tm.getD i undef}
 have Am:Mem cx (λ_=>none) w (λb=>M0 b∨b∈bE args vs) (λ_=>undef):=
  ⟨λi e hi=>(by cases hi),λi j e e' b _ hi=>(by cases hi),λi e b hi=>(by cases hi),λi e l b hi=>(by cases hi),λi τ x p j hi=>(by cases hi),λb hb=> .inl hb,λb hb=>hb.elim (lK b) (VA hA b),λ_ _ _=>rfl,aB _,⟨lK,oe⟩,rfl,rfl,rfl⟩
 have Cm:Core cx ⟨λ_=> .any,λ_=>none⟩ tm w (λb=>M0 b∨b∈bE args vs) (λ_=>undef):=⟨Am,λi=>by simp[VR]⟩
 obtain⟨ν',hc⟩:=rO (i:=0) (used:=[]) Cm hA (λj v hj=>by rw[cF];exact zi j v hj) (λ_ _=>rfl) (λj e b hj=>by cases hj) (by simpa using mH) (λb hb=>hb) (λb hb=>oe b hb)
 have Rx: ∀i e l o,(entry args x 0 ⟨λ_=> .any,λ_=>none⟩).H i≠some (.cq e l o):=rQ (λ_ _ _ _ h=>by cases h)
 have hI:Inv cx E (entry args x 0 ⟨λ_=> .any,λ_=>none⟩) {tmps:=tm,defers:=[]} w:=⟨⟨cx,_,_,.refl ⟨lK,oe⟩,hc,λ_=>⟨λ_=>Rx,λi j e l o e' l' o' hi=>absurd hi (Rx i e l o),λi e l o hi=>absurd hi (Rx i e l o)⟩⟩,by rw[Hz,ir],rfl,λi _=>rfl⟩
 refine calls_of_wp hf hb ?_
 have NS: ∀(σ':St) (a':Act) (w':World),w6 E res (fn.results.toList.map .inl++n8 args 0) σ' some=some y→Inv cx E σ' a' w'→
   a'.defers=[]∧ ∃v,(results fn a'.tmps).run P w'= .ok v w'∧ ∃v',Ending.returned v= .returned v'∧ ∃us M',v'=oq us∧RR w' M' res y us (cv args vs)∧Left w M0 (bE args vs) w' M'∧(aF res us (cv args vs)).Nodup∧ ∀b∈aF res us (cv args vs),¬M0 b:=by
  rintro σ' a' w' hk ⟨⟨d1,M1,ν1,nq,pO,_⟩,Bo,ME,ns⟩
  replace pO:Core cx σ' a'.tmps w' M1 ν1:=⟨pO.mem.up nq,pO.tmp⟩
  obtain⟨y',us,ps,H2,uo,uf,io,Hq,M2,hy,ET,hK,y6,VB⟩:=uw (P:=P) hE.toEnvTy (dU.start pO.mem) pO.tmp hk
  cases hy
  obtain⟨GL,NQ,rfl,hl,hv,Ry⟩:=wA VB
  obtain⟨rfl,vx⟩:=lJ (vs:=vs) G9 (λj v m hj hm ua=>by
   rw[cF]
   rw[ns j (kK j m hm ua)]
   exact zi j v hj) Ry
  rw[cV]at*
  subst vx
  simp only[fF]at ET
  have dV: ∀b∈aF res GL (cv args vs),b<w.heap.size→b∈bE args vs:=λb hb cy=>(ET.y3 b hb).elim (λh'=>absurd cy (Nat.not_lt.2 h')) (λh=>h)
  have wu:bJ w' M2 w' (λb=>M2 b∧(b<w.heap.size→M0 b∨b∈bE args vs)):=⟨aB _,λ_ _ _=>rfl,λ_ _ h=>h.1⟩
  refine⟨ME,oq GL,zl hl hv,_,rfl,GL,λb=>M2 b∧(b<w.heap.size→M0 b∨b∈bE args vs),rfl,RR.np wu (λb hb=>⟨rfl,y6.iY b hb,λcy=> .inr (dV b hb cy)⟩) y6,⟨λb hb=>⟨ET.mem.sub b hb,λ_=> .inl hb⟩,λb hb=>ET.mem.oy b hb.1,λb cy hb=>hb.2 cy,λb cy hb=>ET.mem.frame b cy hb,ET.mem.size,ET.mem.os,ET.mem.tape,ET.mem.output⟩,ET.nd,λb hb h0=> ?_⟩
  rcases ET.y3 b hb with h'|h'
  ·exact absurd (lK b h0) (Nat.not_lt.2 h')
  ·exact oe b h' h0
 refine CT (c:=cx) hE cd _ _ w _ _ _ _ hI h (fun σ' a' w' hk rK=> ?_) (λi σ' a' w' hk=>by cases hk) (fun σ' a' w' hk rK=> ?_)
 ·exact NS σ' a' w' hk rK
 ·exact NS σ' a' w' hk rK
theorem EU(hE:g9 P E){f:FuncId}{fn:Func}(hf:P.funcs[f]? =some fn)(pZ:(fn.name== "runtime.NumGoroutine")=false)(Hz:E.nt=fn.ntmps)(S:gV)
  (kK: ∀i m,S.args[i]? =some m→m.dm=true→i∈E.io) (NR: ∀i∈E.io,i<S.args.length) (hlen:S.args.length≤fn.ntmps) (hq:S.quiet=true→S.res.all AM.flat=true) (Rz:fw S.args=fw S.res)
  (bk: ∀x,w7 E fn S.args S.res x=S.run x):eV P f S:=by
 refine⟨hq,Rz,λM0 w vs x y lK hA mH oe hy=> ?_⟩
 have hb:fn.body.isNone=false:=by
  have:=bk x
  rw[hy]at this
  unfold w7 at this
  split at this
  ·cases this
  ·rename_i cd VC;rw[VC];rfl
 exact jX hf pZ hb (qU hE hf Hz kK NR hlen lK hA mH oe (by rw[bk,hy]))
end VM
end
section
namespace VM
open Go
variable{P:Program}
def p4:Ty→List Value→Option (List Value)
 | .int k,v::r=>match v with
  | .int k' n=>if k'=k∧n=0 then some r else none
  |_=>none
 | .bool,v::r=>match v with
  | .bool false=>some r
  |_=>none
 | .str,v::r=>match v with
  | .string s=>if s.data.size=0 then some r else none
  |_=>none
 | .slice _,v::r=>match v with
  | .slice none n m=>if n=0∧m=0 then some r else none
  |_=>none
 | .unit,r=>some r
 | .pair a b,r=>match p4 a r with
  |some r=>p4 b r
  |none=>none
 | .arr n e,r=>Nat.rec (motive:=λ_=>List Value→Option (List Value)) (λr=>some r) (λ_ ih r=>match p4 e r with
  |some r=>ih r
  |none=>none) n r
 |_,[]=>none
theorem p5: ∀{τ:Ty} {l r:List Value},p4 τ l=some r→l=τ.aL++r
 | .int k,[],_,h| .bool,[],_,h| .str,[],_,h| .slice _,[],_,h=>by simp[p4]at h
 | .int k,v::l,r,h=>by
  simp only[p4]at h
  split at h
  ·split at h
   ·rename_i hc;obtain⟨rfl,rfl⟩:=hc;cases h;rfl
   ·cases h
  ·cases h
 | .bool,v::l,r,h=>by
  simp only[p4]at h
  split at h
  ·cases h;rfl
  ·cases h
 | .str,v::l,r,h=>by
  simp only[p4]at h
  split at h
  ·rename_i s
   split at h
   ·rename_i hs
    cases h
    have:s=ByteArray.empty:=by
     obtain⟨d⟩:=s
     have:d= #[]:=Array.eq_empty_of_size_eq_zero hs
     subst this;rfl
    subst this;rfl
   ·cases h
  ·cases h
 | .slice _,v::l,r,h=>by
  simp only[p4]at h
  split at h
  ·split at h
   ·rename_i hc;obtain⟨rfl,rfl⟩:=hc;cases h;rfl
   ·cases h
  ·cases h
 | .unit,l,r,h=>by simp only[p4]at h;cases h;rfl
 | .pair a b,l,r,h=>by
  simp only[p4]at h
  split at h
  ·rename_i r1 h1
   rw[p5 h1,p5 h];simp[Ty.aL]
  ·cases h
 | .arr n e,l,r,h=>by
  simp only[p4]at h
  simp only[Ty.aL]
  induction n generalizing l with
  |zero=>cases h;rfl
  |succ n ih=>
   simp only at h
   split at h
   ·rename_i r1 h1
    rw[p5 h1,ih _ h];simp[tf]
   ·cases h
def p6(P:Program)(τ:Ty)(t:TypeId):Bool:=
 match P.info? t with
 |none=>false
 |some i=>Nat.beq i.size τ.size&&Nat.ble i.bytes 2048&&(match i.zero with
  |none=>false
  |some z=>match τ.isAgg,z with
   |true,.agg cs=>(match p4 τ cs.toList with|some []=>true|_=>false)
   |false,z=>(match p4 τ [z]with|some []=>true|_=>false)
   |_,_=>false)
theorem jc{τ:Ty}{t:TypeId}(h:p6 P τ t=true):w8 P τ t:=by
 unfold p6 at h
 split at h
 ·cases h
 ·rename_i i hi
  simp only[aV,px]at h
  obtain⟨⟨h1,h2⟩,h3⟩:=h
  refine⟨i,hi,bY h1,?_,h2⟩
  split at h3
  ·cases h3
  ·rename_i z hz
   rw[hz]
   split at h3
   ·rename_i _ cs ha
    split at h3
    ·rename_i he
     have:=p5 he
     unfold aC
     rw[af ha,←cV τ.aL,←this]
    ·cases h3
   ·rename_i ha
    split at h3
    ·rename_i he
     have:=p5 he
     unfold aC
     rw[ag (by rw[ha];exact mN),←cV τ.aL,←this];rfl
    ·cases h3
   ·cases h3
def kM(P:Program):Ty→TypeId ⊕ (Array Field×Nat×Nat)→Bool
 | .int k,.inl t=>p6 P (.int k) t&&(match P.underlying t with|some (.int k')=>decide (k'=k)|_=>false)
 | .bool,.inl t=>p6 P .bool t&&(match P.underlying t with|some .bool=>true|_=>false)
 | .str,.inl t=>p6 P .str t&&(match P.underlying t with|some .string=>true|_=>false)
 | .slice e,.inl t=>p6 P (.slice e) t&&(match P.underlying t with|some (.slice e')=>kM P e (.inl e')|_=>false)
 | .arr n e,.inl t=>p6 P (.arr n e) t&&(match P.underlying t with|some (.array n' e')=>Nat.beq n' n&&kM P e (.inl e')|_=>false)
 | .unit,.inl t=>p6 P .unit t&&(match P.underlying t with|some (.struct fs)=>Nat.beq fs.size 0|_=>false)
 | .unit,.inr q=>Nat.beq q.1.size q.2.1
 | .pair a b,.inl t=>p6 P (.pair a b) t&&(match P.underlying t with
  |some (.struct fs)=>(match fs[0]? with
   |some f=>Nat.beq f.offset 0&&(kM P a (.inl f.type)&&kM P b (.inr (fs,1,a.size)))
   |none=>false)
  |_=>false)
 | .pair a b,.inr q=>(match q.1[q.2.1]? with
  |some f=>Nat.beq f.offset q.2.2&&(kM P a (.inl f.type)&&kM P b (.inr (q.1,q.2.1+1,q.2.2+a.size)))
  |none=>false)
 |_,.inr _=>false
theorem fR: ∀{τ:Ty} {x:TypeId ⊕ (Array Field×Nat×Nat)},kM P τ x=true→cL P τ x
 | .int k,.inl t,h=>by
  simp only[kM,aV]at h
  refine⟨jc h.1,?_⟩
  have h:=h.2
  split at h
  ·rename_i k' hu;rw[hu,bs h]
  ·cases h
 | .bool,.inl t,h=>by
  simp only[kM,aV]at h
  refine⟨jc h.1,?_⟩
  have h:=h.2
  split at h
  ·rename_i hu;exact hu
  ·cases h
 | .str,.inl t,h=>by
  simp only[kM,aV]at h
  refine⟨jc h.1,?_⟩
  have h:=h.2
  split at h
  ·rename_i hu;exact hu
  ·cases h
 | .slice e,.inl t,h=>by
  simp only[kM,aV]at h
  refine⟨jc h.1,?_⟩
  have h:=h.2
  split at h
  ·rename_i e' hu;exact⟨e',hu,fR h⟩
  ·cases h
 | .arr n e,.inl t,h=>by
  simp only[kM,aV]at h
  refine⟨jc h.1,?_⟩
  have h:=h.2
  split at h
  ·rename_i n' e' hu
   simp only[aV]at h
   obtain⟨h0,h⟩:=h
   rw[bY h0]at hu
   exact⟨e',hu,fR h⟩
  ·cases h
 | .unit,.inl t,h=>by
  simp only[kM,aV]at h
  refine⟨jc h.1,?_⟩
  have h:=h.2
  split at h
  ·rename_i fs hu;exact⟨fs,hu,bY h⟩
  ·cases h
 | .unit,.inr (fs,n,o),h=>by simp only[kM]at h;exact bY h
 | .pair a b,.inl t,h=>by
  simp only[kM,aV]at h
  refine⟨jc h.1,?_⟩
  have h:=h.2
  split at h
  ·rename_i fs hu
   split at h
   ·rename_i f hf
    simp only[aV]at h
    exact⟨fs,f,hu,hf,bY h.1,fR h.2.1,fR h.2.2⟩
   ·cases h
  ·cases h
 | .pair a b,.inr (fs,n,o),h=>by
  simp only[kM]at h
  split at h
  ·rename_i f hf
   simp only[aV]at h
   exact⟨f,hf,bY h.1,fR h.2.1,fR h.2.2⟩
  ·cases h
 | .int _,.inr _,h| .bool,.inr _,h| .str,.inr _,h| .slice _,.inr _,h| .arr _ _,.inr _,h=>by simp[kM]at h
def mq(P:Program):Ty→TypeId ⊕ (Array Field×Nat)→Bool
 | .int _,.inl _| .bool,.inl _| .str,.inl _=>true
 | .unit,.inl t=> !P.stoodInHeld t
 | .unit,.inr _=>true
 | .pair a b,.inl t=> !P.stoodInHeld t&&(match P.underlying t with
  |some (.struct fs)=>(match fs[0]? with
   |some f=>f.name != "_" &&(mq P a (.inl f.type)&&mq P b (.inr (fs,1)))
   |none=>false)
  |_=>false)
 | .pair a b,.inr q=>(match q.1[q.2]? with
  |some f=>f.name != "_" &&(mq P a (.inl f.type)&&mq P b (.inr (q.1,q.2+1)))
  |none=>false)
 |_,_=>false
def Ty.deep:Ty→Nat
 | .pair a b=>a.deep+b.deep+1
 |_=>1
theorem V.Tt{w:World}{M:Nat→Prop}{τ:Ty}{cs:List Value}{x:τ.den}(h:Rd w M τ cs x):V w M τ (VM.aC τ cs) x:=V.aC h
mutual
theorem zm{w:World}{M:Nat→Prop}: ∀{τ:Ty} {t:TypeId} {u v:Value} {x y:τ.den} {d:Nat},dY P τ t→mq P τ (.inl t)=true→V w M τ u x→V w M τ v y→τ.deep≤d→(Op.equalIn d t u v).run P w= .ok (kW τ x y) w
 | .int k,t,u,v,x,y,d+1,hl,_,hx,hy,_=>by
  simp only[V,Ty.isAgg,dq,c7,Rd,cc,cn]at hx hy
  subst hx;subst hy
  rw[run_equalIn_int w d t k k _ _ hl.int];simp only[kW,eL];congr 1
 | .bool,t,u,v,x,y,d+1,hl,_,hx,hy,_=>by
  simp only[V,Ty.isAgg,dq,c7,Rd,cc,cn]at hx hy
  subst hx;subst hy
  rw[run_equalIn_bool w d t _ _ hl.bool];simp only[kW]
 | .str,t,u,v,x,y,d+1,hl,_,hx,hy,_=>by
  simp only[V,Ty.isAgg,dq,c7,Rd,cc,cn]at hx hy
  subst hx;subst hy
  rw[run_equalIn_string w d t _ _ hl.str];simp only[kW,tD];congr 1;rw[pc];simp
 | .slice _,_,_,_,_,_,_,_,h,_,_,_| .arr _ _,_,_,_,_,_,_,_,h,_,_,_=>by simp[mq]at h
 | .unit,t,u,v,x,y,d+1,hl,he,hx,hy,_=>by
  simp only[V,Ty.isAgg,dv]at hx hy
  obtain⟨cs,rfl,_⟩:=hx
  obtain⟨cs',rfl,_⟩:=hy
  simp only[dY,cL]at hl
  obtain⟨_,fs,hu,h0⟩:=hl
  have NT:P.fieldsOf t=fs:=by simp[Program.fieldsOf,hu]
  rw[run_equalIn_struct w d t cs cs' (by rw[NT];exact hu) (by simpa [mq]using he),NT]
  have:fs.toList=[]:=by rw[←yr,az];exact h0
  rw[this];simp[Op.eqFields,kW]
 | .pair a b,t,u,v,x,y,d+1,hl,he,hx,hy,hd=>by
  simp only[V,Ty.isAgg,dv]at hx hy
  obtain⟨cs,rfl,hx⟩:=hx
  obtain⟨cs',rfl,hy⟩:=hy
  simp only[dY,cL]at hl
  obtain⟨_,fs,f,hu,hf,ho,oG,Ao⟩:=hl
  have NT:P.fieldsOf t=fs:=by simp[Program.fieldsOf,hu]
  simp only[mq,hu,hf,aV]at he
  rw[run_equalIn_struct w d t cs cs' (by rw[NT];exact hu) (by simpa using he.1),NT]
  have h0:fs.toList=f::fs.toList.drop 1:=by
   have h1:=kZ (l:=fs.toList) (i:=0) (by rw[az];exact(ez.1 hf).1)
   rw[cW]at h1
   rw[h1];congr 1
   rw[o6];exact(ez.1 hf).2
  simp only[Ty.deep]at hd
  rw[h0]
  have jJ:Rd w M (.pair a b) (cs.toList.drop 0) x:=by rw[cW];exact hx
  have CU:Rd w M (.pair a b) (cs'.toList.drop 0) y:=by rw[cW];exact hy
  have dT:f.name≠ "_" :=by simpa using he.2.1
  simp only[Op.eqFields,dT,ne_eq,not_false_eq_true,dv]
  exact EV (off:=0) ho oG he.2.2.1 jJ CU ω (λh1 h2=>EW (n:=1) (fs:=fs) (off:=a.size) Ao he.2.2.2 (by rw[cF]at h1;exact h1) (by rw[cF]at h2;exact h2) ω)
 | .int _,_,_,_,_,_,0,_,_,_,_,hd| .bool,_,_,_,_,_,0,_,_,_,_,hd| .str,_,_,_,_,_,0,_,_,_,_,hd| .unit,_,_,_,_,_,0,_,_,_,_,hd| .pair _ _,_,_,_,_,_,0,_,_,_,_,hd=>by simp[Ty.deep]at hd
theorem EW{w:World}{M:Nat→Prop}: ∀{b:Ty} {fs:Array Field} {n off:Nat} {cs cs':Array Value} {x y:b.den} {d:Nat},cL P b (.inr (fs,n,off))→mq P b (.inr (fs,n))=true→Rd w M b (cs.toList.drop off) x→Rd w M b (cs'.toList.drop off) y→b.deep≤d→
  (Op.eqFields d cs cs' (fs.toList.drop n)).run P w= .ok (kW b x y) w
 | .unit,fs,n,off,cs,cs',x,y,d,hl,_,_,_,_=>by
  simp only[cL]at hl
  rw[fa (by rw[az];omega)]
  simp[Op.eqFields,kW]
 | .pair a b,fs,n,off,cs,cs',x,y,d,hl,he,hx,hy,hd=>by
  simp only[cL]at hl
  obtain⟨f,hf,ho,oG,Ao⟩:=hl
  simp only[mq,hf,aV]at he
  have h0:fs.toList.drop n=f::fs.toList.drop (n+1):=by
   rw[kZ (l:=fs.toList) (i:=n) (by rw[az];exact(ez.1 hf).1)]
   congr 1
   rw[o6];exact(ez.1 hf).2
  simp only[Ty.deep]at hd
  rw[h0]
  have dT:f.name≠ "_" :=by simpa using he.1
  simp only[Op.eqFields,dT,ne_eq,not_false_eq_true,dv]
  exact EV ho oG he.2.1 hx hy ω (λh1 h2=>EW Ao he.2.2 h1 h2 ω)
 | .int _,_,_,_,_,_,_,_,_,hl,_,_,_,_| .bool,_,_,_,_,_,_,_,_,hl,_,_,_,_| .str,_,_,_,_,_,_,_,_,hl,_,_,_,_| .slice _,_,_,_,_,_,_,_,_,hl,_,_,_,_| .arr _ _,_,_,_,_,_,_,_,_,hl,_,_,_,_=>by simp[cL]at hl
theorem EV{w:World}{M:Nat→Prop}{a b:Ty}{f:Field}{fs:List Field}{off:Nat}{cs cs':Array Value}{x y:(Ty.pair a b).den}{d:Nat}(ho:f.offset=off)(oG:dY P a f.type)(he:mq P a (.inl f.type)=true)
  (hx:Rd w M (.pair a b) (cs.toList.drop off) x) (hy:Rd w M (.pair a b) (cs'.toList.drop off) y) (hd:a.deep≤d)
  (hr:Rd w M b (cs.toList.drop (off+a.size)) x.2→Rd w M b (cs'.toList.drop (off+a.size)) y.2→(Op.eqFields d cs cs' fs).run P w= .ok (kW b x.2 y.2) w):
  (do let u ←part f.type cs f.offset;let v ←part f.type cs' f.offset;let r ←Op.equalIn d f.type u v;if(!r)=true then pure false else Op.eqFields d cs cs' fs:Sem Bool).run P w= .ok (kW (.pair a b) x y) w:=by
 simp only[Rd]at hx hy
 obtain⟨c1,c2,hc,h1,h2⟩:=hx
 obtain⟨VE,VF,DG,ju,qB⟩:=hy
 subst ho
 have p1:(cs.toList.drop f.offset).take a.size=c1:=by rw[hc,mR h1.length]
 have p2:(cs'.toList.drop f.offset).take a.size=VE:=by rw[DG,mR ju.length]
 have q1:cs.toList.drop (f.offset+a.size)=c2:=by rw[←dE,hc,gp h1.length]
 have q2:cs'.toList.drop (f.offset+a.size)=VF:=by rw[←dE,DG,gp ju.length]
 have r1:=pH oG (w:=w) (M:=M) (cs:=cs) (off:=f.offset) (x:=x.1) (by rw[p1];exact h1)
 have r2:=pH oG (w:=w) (M:=M) (cs:=cs') (off:=f.offset) (x:=y.1) (by rw[p2];exact ju)
 have r3:=zm (d:=d) oG he (V.Tt (by rw[p1];exact h1):V w M a (VM.aC a ((cs.toList.drop f.offset).take a.size)) x.1) (V.Tt (by rw[p2];exact ju):V w M a (VM.aC a ((cs'.toList.drop f.offset).take a.size)) y.1) hd
 simp only[Sem.run_bind,r1,r2,r3,Result.andThen_ok,kW]
 cases kW a x.1 y.1
 ·simp
 ·simpa using hr (by rw[q1];exact h2) (by rw[q2];exact qB)
end
def HA(P:Program)(τ:Ty)(t:TypeId):Bool:= !(τ.comparable&&τ.isAgg)||(mq P τ (.inl t)&&(Nat.ble τ.deep 10000&& !P.eqGuardType P.depth t))
theorem HC{τ:Ty}{t:TypeId}(hl:dY P τ t)(h:HA P τ t=true)(hc:τ.comparable=true)(ha:τ.isAgg=true):M5 P t τ:=by
 unfold HA at h
 rw[hc,ha]at h
 simp only[Bool.and_self,bo,Bool.false_or,aV,px,o9]at h
 obtain⟨h1,h2,h3⟩:=h
 intro w M u v x y b xo yo hx hy
 have he:=zm (d:=10000) hl h1 hx hy h2
 unfold V at hx hy
 rw[af ha]at hx hy
 obtain⟨cs,rfl,_⟩:=hx
 obtain⟨cs',rfl,_⟩:=hy
 refine⟨?_,?_,?_⟩
 ·cases b<;>simp[eqGuard,h3]
 ·simp only[binOp];simp[Op.equal,Op.maxDepth,he]
 ·simp only[binOp];simp[Op.equal,Op.maxDepth,he]
def NU(P:Program)(l:List (Nat×Ty)):Bool:=l.all λq=>kM P q.2 (.inl q.1)&&HA P q.2 q.1
end VM
end
section
namespace VM
open Go Go.WideShapes Go.RowKit Go.ChangeShapes
def WF:(τ:Ty)→τ.den→Prop
 | .int k,x=>(Lit.int k x).wf=true
 | .bool,_=>True
 | .str,s=>ByteArray.size s≤maxLen
 | .slice e,l=>ℓ l≤maxLen∧ ∀i (h:i<ℓ l),WF e (List.get l ⟨i,h⟩)
 | .unit,_=>True
 | .pair a b,x=>WF a x.1∧WF b x.2
 | .arr _ e,l=> ∀i (h:i<ℓ l),WF e (List.get l ⟨i,h⟩)
def Ty.jd:Ty→Bool
 | .slice e=>Nat.blt 0 e.size&&e.jd
 | .pair a b=>a.jd&&b.jd
 | .arr _ e=>e.jd
 |_=>true
theorem EX{α β:Type}{f:α→Option β}: ∀{l:List α} {r:List β},l.mapM f=some r→ ∀x∈l,∃y,f x=some y
 |[],_,_,x,hx=>by cases hx
 |a::l,r,h,x,hx=>by
  rw[pk]at h
  simp only[bind,la,pure,bZ]at h
  obtain⟨y,hy,r',hr,_⟩:=h
  rcases bc.1 hx with rfl|hx
  ·exact⟨y,hy⟩
  ·exact EX hr x hx
theorem zn{α β:Type}{f:α→Option β}: ∀{l:List α} {r:List β},l.mapM f=some r→r.length=l.length∧ ∀i (h:i<l.length) (h':i<r.length),f l[i]=some r[i]
 |[],r,h=>by simp at h;subst h;exact⟨rfl,λi h=>by cases h⟩
 |a::l,r,h=>by
  rw[pk]at h
  simp only[bind,la,pure,bZ]at h
  obtain⟨y,hy,r',hr,rfl⟩:=h
  obtain⟨h1,h2⟩:=zn hr
  refine⟨by simp[h1],λi hi kk=> ?_⟩
  cases i with
  |zero=>exact hy
  |succ i=>exact h2 i (by simpa using hi) (by simpa using kk)
theorem nu{α:Type}{p:Nat→α→Prop}: ∀n,(∀i,i<n→ ∃x,p i x)→ ∃l:List α,l.length=n∧ ∀i (h:i<l.length),p i (l.get ⟨i,h⟩)
 |0,_=>⟨[],rfl,λi h=>by cases h⟩
 |n+1,h=>by
  obtain⟨l,hl,hp⟩:=nu n (λi hi=>h i ω)
  obtain⟨x,hx⟩:=h n ω
  refine⟨l++[x],by simp[hl],λi hi=> ?_⟩
  simp only[td]
  by_cases cy:i<l.length
  ·rw[oV cy];exact hp i cy
  ·have gu:i=n:=by simp at hi;omega
   subst gu
   rw[s7 ω]
   simp[hl,hx]
section
variable{H:Type}{enc:TypeId×Value→H}{P:Program}{w:World}
theorem dY.cells{τ:Ty}{t:TypeId}(h:dY P τ t):P.cellsOf t=τ.size:=by
 obtain⟨i,hi,hs,_⟩:=h.base
 simp[Program.cellsOf,hi,hs]
theorem wB{a:Addr}{n:Nat}{cs:List Value}(h:w.cells? 0 a n=some cs):cs.length=n∧ ∀j v,cs[j]? =some v→w.cell? (a.add j)=some v:=by
 unfold World.cells? at h
 rw[af (gE _)]at h
 obtain⟨h1,h2⟩:=zn h
 rw[ko]at h1
 refine⟨h1,λj v hj=> ?_⟩
 obtain⟨cy,rfl⟩:=jz.1 hj
 have:=h2 j (by rw[ko];omega) cy
 rw[o7]at this
 exact this
def EY(H:Type)(enc:TypeId×Value→H)(P:Program)(w:World)(τ:Ty):TypeId ⊕ (Array Field×Nat×Nat)→Prop
 | .inl t=> ∀(fuel:Nat) (cs:List Value) (d:DataW H×List MemPlace),DataW.trod enc P w 0 (λ_=>true) true fuel t cs=some d→ ∃x:τ.den,Rd w (λ_=>False) τ cs x∧WF τ x
 | .inr q=> ∀(cs:List Value),cs.length=q.2.2+τ.size→(∀f∈q.1.toList,∃fuel d,DataW.trod enc P w 0 (λ_=>true) true fuel f.type ((cs.drop f.offset).take (P.cellsOf f.type))=some d)→ ∃x:τ.den,Rd w (λ_=>False) τ (cs.drop q.2.2) x∧WF τ x
theorem wC{a b:Ty}{f:Field}{fs:Array Field}{n off:Nat}(hf:fs[n]? =some f)(ho:f.offset=off)(oG:dY P a f.type)(KD:EY H enc P w a (.inl f.type))(DZ:EY H enc P w b (.inr (fs,n+1,off+a.size)))
  {cs:List Value} (hc:cs.length=off+(a.size+b.size)) (fB: ∀f∈fs.toList,∃fuel d,DataW.trod enc P w 0 (λ_=>true) true fuel f.type ((cs.drop f.offset).take (P.cellsOf f.type))=some d):
  ∃x:(Ty.pair a b).den,Rd w (λ_=>False) (.pair a b) (cs.drop off) x∧WF (.pair a b) x:=by
 subst ho
 obtain⟨fuel,d,hd⟩:=fB f (by rw[Array.mem_toList_iff];exact Array.mem_of_getElem? hf)
 rw[oG.cells]at hd
 obtain⟨x,hx,NV⟩:=KD fuel _ d hd
 obtain⟨y,hy,NW⟩:=DZ cs (by simp only;omega) fB
 refine⟨(x,y),?_,NV,NW⟩
 simp only[Rd]
 refine⟨_,_,(fE a.size (cs.drop f.offset)).symm,hx,?_⟩
 rw[dE];exact hy
theorem lM: ∀{τ:Ty} {x:TypeId ⊕ (Array Field×Nat×Nat)},cL P τ x→τ.jd=true→EY H enc P w τ x
 | .int k,.inl t,hl,_=>by
  intro fuel cs d h
  simp only[cL]at hl
  obtain⟨n,rfl,_,hw⟩:=DataW.trod_int hl.2 h
  exact⟨n,rfl,hw⟩
 | .bool,.inl t,hl,_=>by
  intro fuel cs d h
  simp only[cL]at hl
  obtain⟨b,rfl,_⟩:=DataW.trod_bool hl.2 h
  exact⟨b,rfl,trivial⟩
 | .str,.inl t,hl,_=>by
  intro fuel cs d h
  simp only[cL]at hl
  obtain⟨s,rfl,_,hs⟩:=DataW.trod_string hl.2 h
  exact⟨s,rfl,hs⟩
 | .slice e,.inl t,hl,hs=>by
  intro fuel cs d h
  simp only[cL]at hl
  obtain⟨_,e',hu,hle⟩:=hl
  simp only[Ty.jd,aV,pw]at hs
  have ih:=lM hle hs.2
  have ir:P.cellsOf e'=e.size:=dY.cells hle
  rcases DataW.trod_slice hu h with⟨rfl,_⟩|⟨a,len,cap,elems,rest,n,_,rfl,_,_,DF,QT,YN,fB,_⟩
  ·refine⟨[],?_,gE _,λi h=>by cases h⟩
   simp only[Rd]
   exact⟨none,0,rfl,aB _,λi h=>by cases h⟩
  ·rw[ir]at fB
   have get: ∀i,i<len→ ∃cs' y,w.cells? 0 (a.add (i*e.size)) e.size=some cs'∧DataW.trod enc P w 0 (λ_=>true) true n e' cs'=some y:=λi hi=>by
    have:=fB i hi
    rw[a6 ω]at this
    obtain⟨cs',h1,h2⟩:=la.1 this
    exact⟨cs',_,h1,h2⟩
   have key: ∀i,i<len→ ∃x:e.den,(a.spot=none∧a.block<w.heap.size∧ ∃cs',At w a.block (a.off+i*e.size) cs'∧Rd w (λ_=>False) e cs' x)∧WF e x:=by
    intro i hi
    obtain⟨cs',y,jW,ht⟩:=get i hi
    obtain⟨h1,h2⟩:=wB jW
    obtain⟨x,hx,hw⟩:=ih n cs' y ht
    have Cn:a.spot=none∧a.block<w.heap.size:=by
     obtain⟨dL,y0,RA,_⟩:=get 0 ω
     obtain⟨QQ,RC⟩:=wB RA
     have:=RC 0 dL[0] (a6 ω)
     simp only[tA,Addr.add,dv,World.cell?]at this
     split at this
     ·rename_i hb
      refine⟨?_,(ez.1 hb).1⟩
      split at this
      ·cases this
      ·rename_i hn;simpa using hn
     ·cases this
    refine⟨x,⟨Cn.1,Cn.2,cs',λj v hj=> ?_,hx⟩,hw⟩
    have:=h2 j v hj
    have he:(a.add (i*e.size)).add j=⟨a.block,a.off+i*e.size+j,none⟩:=by
     obtain⟨ab,ao,VG⟩:=a
     simp only at Cn
     obtain⟨rfl,_⟩:=Cn
     simp only[Addr.add]
     split<;>split<;>simp_all<;>omega
    rw[he]at this
    exact this
   obtain⟨l,hl,hp⟩:=nu len key
   refine⟨l,?_,by rw[hl];omega,λi h=>(hp i h).2⟩
   simp only[Rd]
   refine⟨some a,cap,by rw[hl],by rw[hl];exact DF,λi h=> ?_⟩
   obtain⟨h1,h2,cs',h3,h4⟩:=(hp i h).1
   refine⟨a.block,a.off,?_,h2,λh=>h,cs',h3,h4⟩
   rw[←h1]
 | .unit,.inl t,hl,_=>by
  intro fuel cs d h
  simp only[cL]at hl
  obtain⟨⟨i,hi,ir,_⟩,fs,hu,h0⟩:=hl
  obtain⟨xs,n,_,_,hc,_⟩:=DataW.trod_struct hu h
  refine⟨(),?_,trivial⟩
  simp only[Rd]
  rw[←yr,hc]
  simp[Program.cellsOf,hi,ir,Ty.size]
 | .unit,.inr q,hl,_=>by
  intro cs hc _
  refine⟨(),?_,trivial⟩
  simp only[Rd]
  rw[fa (by rw[hc];simp[Ty.size])]
 | .pair a b,.inl t,hl,hs=>by
  intro fuel cs d h
  simp only[cL]at hl
  obtain⟨⟨i,hi,ir,_⟩,fs,f,hu,hf,ho,oG,Ao⟩:=hl
  simp only[Ty.jd,aV]at hs
  have KD:=lM oG hs.1
  have DZ:=lM Ao hs.2
  obtain⟨xs,n,_,_,hc,VH,P6⟩:=DataW.trod_struct hu h
  have:=wC (b:=b) (off:=0) hf ho oG KD (by simp only[cF];exact DZ) (cs:=cs) (by rw[hc];simp[Program.cellsOf,hi,ir,Ty.size]) (λf hf=>by
   obtain⟨j,hj,rfl⟩:=mL.1 hf
   rw[az]at hj
   have:=P6 j fs[j] (by simp[hj])
   rw[a6 ω]at this
   exact⟨n,_,by rw[o6];exact this⟩)
  rw[cW]at this
  exact this
 | .pair a b,.inr (fs,n,off),hl,hs=>by
  intro cs hc fB
  simp only[cL]at hl
  obtain⟨f,hf,ho,oG,Ao⟩:=hl
  simp only[Ty.jd,aV]at hs
  exact wC hf ho oG (lM oG hs.1) (lM Ao hs.2) (by simpa [Ty.size]using hc) fB
 | .arr n e,.inl t,hl,hs=>by
  intro fuel cs d h
  simp only[cL]at hl
  obtain⟨⟨i,hi,ir,_⟩,e',hu,hle⟩:=hl
  simp only[Ty.jd]at hs
  have ih:=lM hle hs
  have VI:P.cellsOf e'=e.size:=dY.cells hle
  obtain⟨xs,m,_,_,hc,VH,P6⟩:=DataW.trod_array hu h
  have hlen:cs.length=n*e.size:=by rw[hc];simp[Program.cellsOf,hi,ir,Ty.size]
  have key: ∀i,i<n→ ∃x:e.den,Rd w (λ_=>False) e ((cs.drop (i*e.size)).take e.size) x∧WF e x:=λi hi=>by
   have:=P6 i hi
   rw[a6 ω,VI]at this
   exact ih m _ _ this
  obtain⟨l,Q2,hp⟩:=nu n key
  refine⟨l,?_,λi h=>(hp i h).2⟩
  simp only[Rd]
  refine⟨Q2,(List.range n).map λi=>(cs.drop (i*e.size)).take e.size,by simp,?_,λi h h'=> ?_⟩
  ·clear P6 h key hp Q2 hu
   have: ∀m,m≤n→cs.take (m*e.size)=((List.range m).map λi=>(cs.drop (i*e.size)).take e.size).flatten:=by
    intro m
    induction m with
    |zero=>simp
    |succ m VJ=>
     intro hm
     rw[tv,cU,List.flatten_append,←VJ ω]
     simp only[bz,fJ,o8,List.flatten_nil,cV]
     rw[bO,ea,List.take_add]
   have h2:=this n (aB _)
   rw[eA ω]at h2
   exact h2
  ·have:=(hp i h).1
   simpa using this
 | .int _,.inr _,h,_| .bool,.inr _,h,_| .str,.inr _,h,_| .slice _,.inr _,h,_| .arr _ _,.inr _,h,_=>by simp[cL]at h
theorem KE{τ:Ty}{t:TypeId}{r:Reach}{b0:Nat}{v:Value}{d:DataW H}{ps:List MemPlace}(hl:dY P τ t)(hs:τ.jd=true)(hv:Value.okWide P w r b0 t v)(h:DataW.Trod enc P w 0 (λ_=>true) true t v d ps):
  ∃x:τ.den,V w (λ_=>False) τ v x∧WF τ x:=by
 obtain⟨fuel,h⟩:=h
 obtain⟨x,hx,hw⟩:=lM (H:=H) (enc:=enc) (w:=w) hl hs fuel _ _ h
 refine⟨x,?_,hw⟩
 unfold V
 cases τ with
 |int k=>
  obtain⟨n,rfl⟩:=okWide_int hl.int hv
  exact hx
 |bool=>
  obtain⟨n,rfl⟩:=okWide_bool hl.bool hv
  exact hx
 |str=>
  obtain⟨n,rfl⟩:=okWide_string hl.str hv
  exact hx
 |slice e=>
  obtain⟨e',hu,_⟩:=hl.slice
  obtain⟨a,len,cap,rfl⟩:=okWide_slice hu hv
  exact hx
 |unit=>
  simp only[dY,cL]at hl
  obtain⟨_,fs,hu,_⟩:=hl
  simp only[Value.okWide,hu]at hv
  obtain⟨cs,rfl,_⟩:=hv
  exact⟨cs,rfl,hx⟩
 |pair a b=>
  simp only[dY,cL]at hl
  obtain⟨_,fs,f,hu,_⟩:=hl
  simp only[Value.okWide,hu]at hv
  obtain⟨cs,rfl,_⟩:=hv
  exact⟨cs,rfl,hx⟩
 |arr n e=>
  obtain⟨e',hu,_⟩:=hl.arr
  simp only[Value.okWide,hu]at hv
  obtain⟨cs,rfl,_⟩:=hv
  exact⟨cs,rfl,hx⟩
def NX:(ms:List Ty)→HP (ms.map .v)→Prop
 |[],_=>True
 |_::ms,x=>WF _ (gZ x)∧NX ms (jq x)
def RD:{m:AM}→{ms:List AM}→m.den→HP ms→HP (m::ms)
 |_,[],x,_=>x
 |_,_::_,x,y=>(x,y)
theorem BB{m:AM}: ∀{ms:List AM} (x:m.den) (y:HP ms),gZ (RD x y)=x
 |[],_,_=>rfl
 |_::_,_,_=>rfl
theorem BC{m:AM}: ∀{ms:List AM} (x:m.den) (y:HP ms),jq (RD x y)=y
 |[],_,()=>rfl
 |_::_,_,_=>rfl
theorem wD(laid:laidOutB P=true){r:Reach}{b0:Nat}: ∀{τs:List Ty} {ts:List TypeId} {vs:List Value} {ds:List (DataW H)} {ps:List MemPlace},DataW.TrodAll enc P w 0 (λ_=>true) true ts vs ds ps→
  τs.length=ts.length→(∀(j:Nat) τ t,τs[j]? =some τ→ts[j]? =some t→(dY P τ t∧τ.jd=true∧P.readableRec t=true∧t<P.types.size))→
  (∀(j:Nat) t v,ts[j]? =some t→vs[j]? =some v→Value.okWide P w r b0 t v)→
  (∃x:HP (τs.map .v),dC w (λ_=>False) (τs.map .v) x vs∧NX τs x)∧ ∀w',Below w.heap.size w w'→ ∃sR,DataW.TrodAll enc P w' 0 (λb=>decide (b<w.heap.size)) true ts vs ds sR
 |[],[],vs,ds,ps,h,_,_,_=>by
  obtain⟨rfl,rfl,rfl⟩:=trodAll_nil h
  exact⟨⟨(),rfl,trivial⟩,λw' _=>⟨[],rfl⟩⟩
 |τ::τs,t::ts,vs,ds,ps,h,hl,nO,hv=>by
  obtain⟨v,yb,d,YO,p,q,rfl,rfl,rfl,h1,h2⟩:=trodAll_cons h
  obtain⟨lE,KF,M8,cy⟩:=nO 0 τ t rfl rfl
  obtain⟨x,hx,NV⟩:=KE lE KF (hv 0 t v rfl rfl) h1
  obtain⟨⟨y,hy,NW⟩,EZ⟩:=wD laid h2 (by simpa using hl) (λj τ' t' h h'=>nO (j+1) τ' t' (by simpa using h) (by simpa using h')) (λj t' v' h h'=>hv (j+1) t' v' (by simpa using h) (by simpa using h'))
  refine⟨⟨RD (m:= .v τ) x y,?_,?_⟩,λw' hb=> ?_⟩
  ·show dC w _ (.v τ::τs.map .v) _ _
   simp only[dC]
   exact⟨v,yb,rfl,by rw[BB];exact hx,by rw[BC];exact hy⟩
  ·simp only[NX]
   exact⟨by rw[BB];exact NV,by rw[BC];exact NW⟩
  ·obtain⟨sR,h'⟩:=EZ w' hb
   have oB: ∀z∈p,z.block<w.heap.size:=by
    obtain⟨m,hm⟩:=h1
    exact DataW.trod_lt m _ _ _ hm
   exact⟨p++sR,trodAll_cons_mk (Below.trod laid M8 cy h1 hb oB) h'⟩
 |[],_::_,_,_,_,_,hl,_,_|_::_,[],_,_,_,_,hl,_,_=>by simp at hl
end
end VM
end
section
namespace VM
open Go
variable{α:Type}
def p7(L:Nat→Option (List (Nat×CM)))(κ:Nat→St→Option α)(i:Option Nat)(f:St→Option α):St→Option α:=
 match i with
 |none=>f
 |some i=>match L i with
  |none=>f
  |some _=>κ i
def E0(E:Env)(κJ κL:Nat→St→Option α)(c:Code):St→(St→Option α)→(Nat→St→Option α)→(St→Option α)→Option α:=
 Code.rec (motive:=λ_=>St→(St→Option α)→(Nat→St→Option α)→(St→Option α)→Option α)
  (fun σ k _ _=>k σ)
  (λ_ ops draw σ k _ _=>sK E ops draw σ k)
  (λ_ b A B σ k kx kr=>A σ (fun σ'=>m9 ((aZ b).bind E.n5) σ' (p7 E.n5 κJ (aZ b) fun σ''=>B σ'' k kx kr)) kx kr)
  (λc _ _ A B σ k kx kr=>we E c σ (fun σ'=>A σ' k kx kr) (fun σ'=>B σ' k kx kr))
  (λid _ A σ k kx kr=>A σ k (λi σ'=>cond (Nat.beq i id) (k σ') (kx i σ')) kr)
  (λb _ σ _ kx kr=>m9 ((aZ b).bind E.mZ) σ (p7 E.mZ κL (aZ b) (rp ((aZ b).bind E.mZ) (fun σ' kn=>sL E b σ' kn kx kr) E.N)))
  (λ_ _ _ _ _ _ _ _ _ _=>none)
  (λid σ _ kx _=>kx id σ)
  (λ_ A σ k kx kr=>A σ k kx kr)
  (λ_ σ k _ _=>k σ)
  (λ_ _ _ _ _=>none)
  (fun σ _ _ kr=>kr σ)
  (λ_ _ _ _ _=>none)
  c
def ux(E:Env)(c:Code):(St→Option α)→(Nat→St→Option α)→(St→Option α)→List (Bool×Nat×(St→Option α)):=
 Code.rec (motive:=λ_=>(St→Option α)→(Nat→St→Option α)→(St→Option α)→List (Bool×Nat×(St→Option α)))
  (λ_ _ _=>[])
  (λ_ _ _ _ _ _=>[])
  (λ_ b A B k kx kr=>A (fun σ'=>m9 ((aZ b).bind E.n5) σ' fun σ''=>sL E b σ'' k kx kr) kx kr++(((aZ b).toList.map λi=>(false,i,fun σ''=>sL E b σ'' k kx kr))++B k kx kr))
  (λ_ _ _ A B k kx kr=>A k kx kr++B k kx kr)
  (λid _ A k kx kr=>A k (λi σ'=>cond (Nat.beq i id) (k σ') (kx i σ')) kr)
  (λb _ _ kx kr=>(aZ b).toList.map λi=>(true,i,rp ((aZ b).bind E.mZ) (fun σ' kn=>sL E b σ' kn kx kr) E.N))
  (λ_ _ _ _ _ _ _ _ _=>[])
  (λ_ _ _ _=>[])
  (λ_ A k kx kr=>A k kx kr)
  (λ_ _ _ _=>[])
  (λ_ _ _ _=>[])
  (λ_ _ _=>[])
  (λ_ _ _ _=>[])
  c
def nv(E:Env)(κJ κL:Nat→St→Option α):List (Bool×Nat×(St→Option α))→List ((St→Option α)×(St→Option α))
 |[]=>[]
 |q::r=>match q.1 with
  |false=>match E.n5 q.2.1 with
   |some _=>(κJ q.2.1,q.2.2)::nv E κJ κL r
   |none=>nv E κJ κL r
  |true=>match E.mZ q.2.1 with
   |some _=>(κL q.2.1,q.2.2)::nv E κJ κL r
   |none=>nv E κJ κL r
def vS(E:Env)(κJ κL:Nat→St→Option α)(l:List (Bool×Nat×(St→Option α))):Prop:= ∀p∈nv E κJ κL l,p.1=p.2
theorem KG{E:Env}{κJ κL:Nat→St→Option α}{l:List (Bool×Nat×(St→Option α))}(g:List (St→Option α))(h:nv E κJ κL l=g.map λf=>(f,f)):vS E κJ κL l:=by
 intro p hp
 rw[h]at hp
 obtain⟨f,_,rfl⟩:=cm.1 hp
 rfl
theorem rR{E:Env}{κJ κL:Nat→St→Option α}: ∀(l m:List (Bool×Nat×(St→Option α))),nv E κJ κL (l++m)=nv E κJ κL l++nv E κJ κL m
 |[],m=>rfl
 |(b,i,f)::l,m=>by
  have ih:=rR (E:=E) (κJ:=κJ) (κL:=κL) l m
  cases b<;>simp only[iH,nv]<;>split<;>simp[ih]
theorem vS.app{E:Env}{κJ κL:Nat→St→Option α}{l m:List (Bool×Nat×(St→Option α))}(h:vS E κJ κL (l++m)):vS E κJ κL l∧vS E κJ κL m:=by
 unfold vS at*
 rw[rR]at h
 exact⟨λp hp=>h p (aS _ hp),λp hp=>h p (bh _ hp)⟩
theorem I3{E:Env}{κJ κL:Nat→St→Option α}{i:Option Nat}{f:St→Option α}(h:vS E κJ κL (i.toList.map λi=>(false,i,f))):p7 E.n5 κJ i f=f:=by
 cases i with
 |none=>rfl
 |some i=>
  simp only[Option.toList,List.map,vS,nv]at h
  unfold p7
  cases hL:E.n5 i with
  |none=>simp[hL]
  |some L=>rw[hL]at h;simp only[hL];exact h (κJ i,f) (eC.2 rfl)
theorem NY{E:Env}{κJ κL:Nat→St→Option α}{i:Option Nat}{f:St→Option α}(h:vS E κJ κL (i.toList.map λi=>(true,i,f))):p7 E.mZ κL i f=f:=by
 cases i with
 |none=>rfl
 |some i=>
  simp only[Option.toList,List.map,vS,nv]at h
  unfold p7
  cases hL:E.mZ i with
  |none=>simp[hL]
  |some L=>rw[hL]at h;simp only[hL];exact h (κL i,f) (eC.2 rfl)
theorem E1{E:Env}{κJ κL:Nat→St→Option α}(c:Code): ∀(k:St→Option α) (kx:Nat→St→Option α) (kr:St→Option α) (σ:St),vS E κJ κL (ux E c k kx kr)→E0 E κJ κL c σ k kx kr=sL E c σ k kx kr:=by
 induction c with
 |skip=>intros;rfl
 |region=>intros;rfl
 |seq a b KD DZ=>
  intro k kx kr σ h
  obtain⟨h1,h2⟩:=vS.app (h:vS E κJ κL (ux E a _ kx kr++(((aZ b).toList.map λi=>(false,i,fun σ''=>sL E b σ'' k kx kr))++ux E b k kx kr)))
  obtain⟨h2,h3⟩:=vS.app h2
  show E0 E κJ κL a σ (fun σ'=>m9 ((aZ b).bind E.n5) σ' (p7 E.n5 κJ (aZ b) fun σ''=>E0 E κJ κL b σ'' k kx kr)) kx kr=sL E a σ (fun σ'=>m9 ((aZ b).bind E.n5) σ' fun σ''=>sL E b σ'' k kx kr) kx kr
  have hb:(fun σ''=>E0 E κJ κL b σ'' k kx kr)=fun σ''=>sL E b σ'' k kx kr:=funext fun σ''=>DZ k kx kr σ'' h3
  rw[hb,I3 h2]
  exact KD _ _ _ _ h1
 |cond x a b KD DZ=>
  intro k kx kr σ h
  obtain⟨h1,h2⟩:=vS.app (h:vS E κJ κL (ux E a k kx kr++ux E b k kx kr))
  show we E x σ (fun σ'=>E0 E κJ κL a σ' k kx kr) (fun σ'=>E0 E κJ κL b σ' k kx kr)=we E x σ (fun σ'=>sL E a σ' k kx kr) (fun σ'=>sL E b σ' k kx kr)
  rw[show(fun σ'=>E0 E κJ κL a σ' k kx kr)=fun σ'=>sL E a σ' k kx kr from funext fun σ'=>KD k kx kr σ' h1,show(fun σ'=>E0 E κJ κL b σ' k kx kr)=fun σ'=>sL E b σ' k kx kr from funext fun σ'=>DZ k kx kr σ' h2]
 |block id x ih=>intro k kx kr σ h;exact ih _ _ _ σ h
 |loop b _=>
  intro k kx kr σ h
  show m9 ((aZ b).bind E.mZ) σ (p7 E.mZ κL (aZ b) (rp ((aZ b).bind E.mZ) (fun σ' kn=>sL E b σ' kn kx kr) E.N))=m9 ((aZ b).bind E.mZ) σ (rp ((aZ b).bind E.mZ) (fun σ' kn=>sL E b σ' kn kx kr) E.N)
  rw[NY (h:vS E κJ κL ((aZ b).toList.map λi=>(true,i,_)))]
 |rangeFunc=>intros;rfl
 |exit=>intros;rfl
 |scope x ih=>intro k kx kr σ h;exact ih _ _ _ σ h
 |label=>intros;rfl
 |goto=>intros;rfl
 |ret=>intros;rfl
 |refuse=>intros;rfl
def gb(E:Env)(κJ κL:Nat→St→Option α):List Nat→Code→List (St→Option α)→St→(St→Option α)→(Nat→St→Option α)→(St→Option α)→Option α
 |[],c,_,σ,k,kx,kr=>E0 E κJ κL c σ k kx kr
 |n::p,c,ks,σ,k,kx,kr=>match c with
  | .seq a b=>match n with
   |0=>gb E κJ κL p a ks σ (fun σ'=>m9 ((aZ b).bind E.n5) σ' (p7 E.n5 κJ (aZ b) fun σ''=>E0 E κJ κL b σ'' k kx kr)) kx kr
   |_=>gb E κJ κL p b ks σ k kx kr
  | .cond _ a b=>match n with
   |0=>gb E κJ κL p a ks σ k kx kr
   |_=>gb E κJ κL p b ks σ k kx kr
  | .block id c=>gb E κJ κL p c ks σ k (λi σ'=>cond (Nat.beq i id) (k σ') (kx i σ')) kr
  | .loop b=>match ks with
   |κ::ks=>gb E κJ κL p b ks σ κ kx kr
   |[]=>none
  | .scope c=>gb E κJ κL p c ks σ k kx kr
  |_=>none
def df(E:Env):List Nat→Code→List (St→Option α)→(St→Option α)→(Nat→St→Option α)→(St→Option α)→List (Bool×Nat×(St→Option α))
 |[],c,_,k,kx,kr=>ux E c k kx kr
 |n::p,c,ks,k,kx,kr=>match c with
  | .seq a b=>match n with
   |0=>((aZ b).toList.map λi=>(false,i,fun σ''=>sL E b σ'' k kx kr))++(ux E b k kx kr++df E p a ks (fun σ'=>m9 ((aZ b).bind E.n5) σ' fun σ''=>sL E b σ'' k kx kr) kx kr)
   |_=>df E p b ks k kx kr
  | .cond _ a b=>match n with
   |0=>df E p a ks k kx kr
   |_=>df E p b ks k kx kr
  | .block id c=>df E p c ks k (λi σ'=>cond (Nat.beq i id) (k σ') (kx i σ')) kr
  | .loop b=>match ks with
   |κ::ks=>df E p b ks κ kx kr
   |[]=>[]
  | .scope c=>df E p c ks k kx kr
  |_=>[]
theorem fS{E:Env}{κJ κL:Nat→St→Option α}: ∀(p:List Nat) (c:Code) (ks:List (St→Option α)) (k:St→Option α) (kx:Nat→St→Option α) (kr:St→Option α) (σ:St),vS E κJ κL (df E p c ks k kx kr)→
  gb E κJ κL p c ks σ k kx kr=mF E p c ks σ k kx kr
 |[],c,ks,k,kx,kr,σ,h=>E1 c k kx kr σ h
 |n::p,c,ks,k,kx,kr,σ,h=>by
  cases c with
  |seq a b=>
   cases n with
   |zero=>
    simp only[gb,mF,df]at h ⊢
    obtain⟨h1,h2⟩:=vS.app h
    obtain⟨h2,h3⟩:=vS.app h2
    rw[show(fun σ''=>E0 E κJ κL b σ'' k kx kr)=fun σ''=>sL E b σ'' k kx kr from funext fun σ''=>E1 b k kx kr σ'' h2,I3 h1]
    exact fS p a ks _ kx kr σ h3
   |succ n=>simp only[gb,mF,df]at h ⊢;exact fS p b ks k kx kr σ h
  |cond x a b=>
   cases n with
   |zero=>simp only[gb,mF,df]at h ⊢;exact fS p a ks k kx kr σ h
   |succ n=>simp only[gb,mF,df]at h ⊢;exact fS p b ks k kx kr σ h
  |block id x=>simp only[gb,mF,df]at h ⊢;exact fS p x ks k _ kr σ h
  |loop b=>
   cases ks with
   |nil=>simp only[gb,mF]
   |cons κ ks=>simp only[gb,mF,df]at h ⊢;exact fS p b ks κ kx kr σ h
  |scope x=>simp only[gb,mF,df]at h ⊢;exact fS p x ks k kx kr σ h
  |_=>simp only[gb,mF]
def uy(fn:Func):Code:=fn.body.getD .skip
def zo(E:Env)(fn:Func)(args res:List AM):St→Option (HP res):=fun σ=>w6 E res (fn.results.toList.map .inl++n8 args 0) σ some
def P7:Nat→St→Option α:=λ_ _=>none
def VK:St→Option α:=λ_=>none
def KH(E:Env)(fn:Func)(args res:List AM)(p:List Nat)(ks:List (St→Option (HP res)))(σ:St):Option (HP res):=
 mF E p (uy fn) ks σ (zo E fn args res) P7 (zo E fn args res)
def P8(E:Env)(fn:Func)(args res:List AM)(κJ κL:Nat→St→Option (HP res))(p:List Nat)(ks:List (St→Option (HP res)))(σ:St):Option (HP res):=
 gb E κJ κL p (uy fn) ks σ (zo E fn args res) P7 (zo E fn args res)
def HD(E:Env)(fn:Func)(args res:List AM)(p:List Nat)(ks:List (St→Option (HP res))):List (Bool×Nat×(St→Option (HP res))):=
 df E p (uy fn) ks (zo E fn args res) P7 (zo E fn args res)
theorem RE{E:Env}{fn:Func}{args res:List AM}{κJ κL:Nat→St→Option (HP res)}{p:List Nat}{ks:List (St→Option (HP res))}(g:List (St→Option (HP res)))(h:nv E κJ κL (HD E fn args res p ks)=g.map λf=>(f,f))(σ:St):
 KH E fn args res p ks σ=P8 E fn args res κJ κL p ks σ:=(fS p _ ks _ _ _ σ (KG g h)).symm
theorem KI{E:Env}{fn:Func}{args res:List AM}(hb:fn.body.isSome=true)(x:HP args):w7 E fn args res x=KH E fn args res [] [] (entry args x 0 S0):=by
 unfold w7 KH uy
 cases h:fn.body with
 |none=>rw[h]at hb;cases hb
 |some c=>rfl
def RF(E:Env)(fn:Func)(args res:List AM)(c:List (Nat×CM))(p:List Nat)(ks:List (St→Option (HP res)))(n:Nat):St→Option (HP res):=
 rp (some c) (fun σ kn=>KH E fn args res p (ks++[kn]) σ) n
theorem E2(E:Env)(fn:Func)(args res:List AM)(c:List (Nat×CM))(p:List Nat)(ks:List (St→Option (HP res)))(n:Nat)(σ:St):
 RF E fn args res c p ks (n+1) σ=KH E fn args res p (ks++[fun σ'=>m9 (some c) σ' (RF E fn args res c p ks n)]) σ:=rfl
def E3{β:Type}(κ:Nat→β):List (Nat×β)→Prop
 |[]=>True
 |q::r=>κ q.1=q.2∧E3 κ r
def CV{β:Type}:List (β×β)→Prop
 |[]=>True
 |q::r=>q.1=q.2∧CV r
theorem CV.mem{β:Type}: ∀{l:List (β×β)},CV l→ ∀p∈l,p.1=p.2
 |q::r,h,p,hp=>by
  rcases bc.1 hp with rfl|hp
  ·exact h.1
  ·exact CV.mem h.2 p hp
theorem NZ{β:Type}(d:β): ∀(l:List (Nat×β)),(l.map (·.1)).Nodup→ ∃κ:Nat→β,E3 κ l
 |[],_=>⟨λ_=>d,trivial⟩
 |q::r,h=>by
  rw[bz,pd]at h
  obtain⟨κ,hκ⟩:=NZ d r h.2
  refine⟨λi=>if i=q.1 then q.2 else κ i,by simp,?_⟩
  have key: ∀(r':List (Nat×β)),(∀p∈r',p∈r)→E3 κ r'→E3 (λi=>if i=q.1 then q.2 else κ i) r':=by
   intro r'
   induction r' with
   |nil=>intros;trivial
   |cons p r' ih=>
    intro hm ha
    refine⟨?_,ih (λp' xY=>hm p' (a7 _ xY)) ha.2⟩
    have dT:p.1≠q.1:=λe=>h.1 (e▸jB (hm p (ba ..)))
    show(if p.1=q.1 then q.2 else κ p.1)=p.2
    rw[ag dT]
    exact ha.1
  exact key r (λ_ h=>h) hκ
theorem Tu{β:Type}(d:β)(l:List (Nat×β)){ks:List Nat}(h:l.map (·.1)=ks)(hd:ks.Nodup): ∃κ:Nat→β,E3 κ l:=NZ d l (h▸hd)
theorem at_eq(E:Env)(fn:Func)(args res:List AM){κJ κL:Nat→St→Option (HP res)}{p:List Nat}{ks:List (St→Option (HP res))}{l:List ((St→Option (HP res))×(St→Option (HP res)))}(h:nv E κJ κL (HD E fn args res p ks)=l)(hl:CV l)(σ:St):
 KH E fn args res p ks σ=P8 E fn args res κJ κL p ks σ:=(fS p _ ks _ _ _ σ (by unfold vS;rw[show nv E κJ κL (df E p (uy fn) ks (zo E fn args res) P7 (zo E fn args res))=l from h];exact hl.mem)).symm
end VM
end
section
namespace VM
open Go Go.RowKit
variable{P:Program}
def zp(i:Nat):List (Nat×Ty)→Option Ty
 |[]=>none
 |q::r=>cond (Nat.beq i q.1) (some q.2) (zp i r)
theorem wE{i:Nat}{τ:Ty}: ∀{l:List (Nat×Ty)},zp i l=some τ→(i,τ)∈l
 |q::r,h=>by
  unfold zp at h
  cases hb:Nat.beq i q.1<;>rw[hb]at h
  ·exact a7 _ (wE h)
  ·cases h;rw[bY hb];exact ba ..
structure uz(P:Program)(tab:List (Nat×Ty)):Prop where
 ok:NU P tab=true
 mixed:P.follows .mixedOrders=true
theorem CW{E:Env}(hE:g9 P E)(KJ:E.io=[]){f:FuncId}{fn:Func}(hf:P.funcs[f]? =some fn)(τs:List Ty)
  (hc:(Nat.beq E.nt fn.ntmps&&Nat.ble τs.length E.nt)=true) {w:World} {vs:List Value} {x:HP (τs.map .v)} (hA:dC w (λ_=>False) (τs.map .v) x vs)
  (h:w7 E fn (τs.map .v) [.v .bool] x=some true):Calls P f vs.toArray w λe w'=>e= .returned (.bool true)∧Below w.heap.size w w':=by
 rw[aV]at hc
 have Hz:=bY hc.1
 have hlen:=o5 hc.2
 have hh: ∀(τs:List Ty) (vs:List Value),bE (τs.map .v) vs=[]:=by
  intro τs
  induction τs with
  |nil=>intro vs;cases vs<;>rfl
  |cons τ τs ih=>intro vs;cases vs with
   |nil=>rfl
   |cons v vs=>simp[bE,bl,ih]
 have hi: ∀(τs:List Ty) (vs:List Value),cv (τs.map .v) vs=[]:=by
  intro τs
  induction τs with
  |nil=>intro vs;cases vs<;>rfl
  |cons τ τs ih=>intro vs;cases vs with
   |nil=>rfl
   |cons v vs=>simp[cv,AM.dm,ih]
 refine(qU (M0:=λ_=>False) (vs:=vs) hE hf Hz (λi m hm kK=> ?_) (λi hi=>by rw[KJ]at hi;cases hi) (by rw[fG];rw[←Hz];exact hlen) (λb hb=>hb.elim) (by rw[hh];simpa using hA) (by rw[hh];exact tw) (λb _ hb=>hb) h).mono ?_
 ·rw[pa]at hm
  obtain⟨τ,_,rfl⟩:=o4.1 hm
  cases kK
 ·rintro e w' ⟨v,rfl,us,M',rfl,y6,hL,_,_⟩
  rw[hh]at hL
  rw[hi]at y6
  simp only[RR]at y6
  rcases y6 with⟨p,sR,h1,_⟩|⟨v,yb,_,_,rfl,hv,rfl,_⟩
  ·cases h1
  ·refine⟨?_,hL.os,hL.tape,hL.output,hL.size,λb hb=>hL.frame b hb (by simp)⟩
   have:v= .bool true:=by
    simp only[A1,V,Ty.isAgg,dq,c7,Rd,cc,cn]at hv
    exact hv
   rw[this];rfl
def E4(P:Program):List Ty→List TypeId→Bool
 |[],[]=>true
 |τ::τs,t::ts=>(kM P τ (.inl t)&&τ.jd)&&((P.readableRec t&&decide (t<P.types.size))&&E4 P τs ts)
 |_,_=>false
theorem xr: ∀{τs:List Ty} {ts:List TypeId},E4 P τs ts=true→τs.length=ts.length∧ ∀(j:Nat) τ t,τs[j]? =some τ→ts[j]? =some t→(dY P τ t∧τ.jd=true∧P.readableRec t=true∧t<P.types.size)
 |[],[],_=>⟨rfl,λj τ t h=>by simp at h⟩
 |τ::τs,t::ts,h=>by
  simp only[E4,aV]at h
  obtain⟨⟨h1,h2⟩,⟨h3,h4⟩,h5⟩:=h
  obtain⟨hl,ih⟩:=xr h5
  refine⟨by simp[hl],λj τ' t' ha hb=> ?_⟩
  cases j with
  |zero=>
   simp only[s9,bZ]at ha hb
   subst ha;subst hb
   exact⟨fR h1,h2,h3,bs h4⟩
  |succ j=>exact ih j τ' t' (by simpa using ha) (by simpa using hb)
 |[],_::_,h|_::_,[],h=>by simp[E4]at h
theorem E5{H:Type}{enc:TypeId×Value→H}{w:World}{fn:Func}{args:Array Value}{ds:List (DataW H)}{ps:List MemPlace}{r:Reach}{b0:Nat}(laid:laidOutB P=true)(τs:List Ty)
  (hA:DataW.TrodAll enc P w 0 (λ_=>true) true fn.params.toList args.toList ds ps) (nO:E4 P τs fn.params.toList=true)
  (hv: ∀(j:Nat) t v,fn.params[j]? =some t→args[j]? =some v→Value.okWide P w r b0 t v):
  (∃x:HP (τs.map .v),dC w (λ_=>False) (τs.map .v) x args.toList∧NX τs x)∧ ∀w',Below w.heap.size w w'→ ∃sR,DataW.TrodAll enc P w' 0 (λb=>decide (b<w.heap.size)) true fn.params.toList args.toList ds sR:=
 wD laid hA (xr nO).1 (xr nO).2 (λj t v h h'=>hv j t v (by rw[cM]at h;exact h) (by rw[cM]at h';exact h'))
end VM
end
