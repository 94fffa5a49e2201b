/- A part of the proof of LotAll of layer 23: a machine that reads a function of the program as an equation between values. -/
import Derived.Test.YthnjnpjmbabcaaaGreatVm7
import Derived.Laws.StructEq
import Derived.OpenShut
import Derived.ChangeShapes
import Derived.ChangeMaps5
import Derived.RowKit
import Derived.ChangeOld
import Derived.Carry
import Derived.Below
import Derived.Test.YthnjnpjmbabcaaaGreatVm0
set_option linter.all false
open List renaming length→ℓ
noncomputable section
section
namespace VM
open Go
variable{P:Program}{E:Env}{o:Oper}{a:Act}{w:World}{M:Nat→Prop}{ν:Nat→Value}{σ:St}{c:Ctx}{α:Type}{r:α}{next:Act→World→Prop}{Q:Exit→Act→World→Prop}
theorem Ei{m:AM}{ms:List AM}(x:HP (m::ms))(i:Nat)(σ:St):entry (m::ms) x i σ=entry ms (lM x) (i+1) (tk m (jX x) i σ):=by
 cases ms with
 |nil=>simp[entry,jX]
 |cons n ms=>simp[entry,jX,lM]
theorem Core.oD{tm:Array Value}(h:Core c σ tm w M ν){id:Nat}{v:Value}{e:az}(hid:σ.H id=none)(wX:ER w M v e)
  (hd: ∀b,cn v=some b→ ∀i e',σ.H i=some e'→e'.mut→cn (ν i)≠some b) (hn: ∀b,cn v=some b→c.B≤b∨c.may b) (ho: ∀b e0 l0,e= .own e0 l0→cn v=some b→ ¬c.M0 b)
  (k5: ∀τ x p j,e= .dj τ x p j→aC σ.H id (some e) j≠none∧ ∃b,v= .pointer (some ⟨b,0,none⟩)∧w.cell? ⟨b,bb p τ,none⟩=some (updν ν id v j):=by intro _ _ _ _ h;cases h):
  Core c ⟨σ.T,aC σ.H id (some e)⟩ tm w M (updν ν id v):=by
 have hm:=Mem.oD h.mem (id:=id) (v:=v) (e:=e) (λe' lO=>by rw[hid]at lO;cases lO) wX hd hn ho (.inl hid) k5
 refine h.tr ⟨hm,.refl w M,⟨λi e1 hi=> ?_,λi hi=> ?_⟩⟩
 ·have aI:i≠id:=λe=>by rw[e,hid]at hi;cases hi
  exact⟨e1,by rw[aj _ _ aI];exact hi,.refl e1⟩
 ·have aI:i≠id:=λe=>hi (e▸hid)
  simp[updν,aI]
theorem Core.put{tm:Array Value}(h:Core c σ tm w M ν){d:Nat}{x:aF}(hx:VR w M σ.H ν x (tm.getD d undef)):Core c (σ.put d x) tm w M ν:=by
 refine⟨h.mem,λi=> ?_⟩
 by_cases hi:i=d
 ·subst hi;rw[lf];exact hx
 ·rw[pB _ _ hi];exact h.tmp i
theorem uG{tm:Array Value}: ∀{ms:List AM} {x:HP ms} {vs:List Value} {i:Nat} {σ:St} {ν:Nat→Value} {used:List Nat},Core c σ tm w M ν→eA w M ms x vs→(∀j v,vs[j]? =some v→tm.getD (i+j) undef=v)→
  (∀j,16*i≤j→σ.H j=none)→(∀j e b,σ.H j=some e→e.mut→cn (ν j)=some b→b∈used)→(used++bY ms vs).Nodup→(∀b∈bY ms vs,c.may b)→(∀b,c.may b→ ¬c.M0 b)→
  ∃ν',Core c (entry ms x i σ) tm w M ν'
 |[],x,vs,i,σ,ν,used,h,_,_,_,_,_,_,_=>⟨ν,h⟩
 |m::ms,x,vs,i,σ,ν,used,h,hA,Ci,ei,xz,oO,Ej,wW=>by
  rw[Ei]
  simp only[eA]at hA
  obtain⟨v,Bd,rfl,h1,h2⟩:=hA
  have hv:tm.getD i undef=v:=by simpa using Ci 0 v rfl
  have y5: ∀j u,Bd[j]? =some u→tm.getD (i+1+j) undef=u:=λj u hj=>by
   have:=Ci (j+1) u (by simpa using hj)
   rwa [show i+(j+1)=i+1+j from by omega]at this
  have hid:σ.H (16*i+15)=none:=ei _ ω
  have Pz:bY (m::ms) (v::Bd)=bH m v++bY ms Bd:=rfl
  rw[Pz]at oO Ej
  have iV: ∀b,b∈bH m v→ ∀j e',σ.H j=some e'→e'.mut→cn (ν j)≠some b:=λb hb j e' hj eh bT=>
   eO oO (xz j e' b hj eh bT) (bk _ hb)
  have oC: ∀{σ':St} {ν':Nat→Value},Core c σ' tm w M ν'→(∀j,16*(i+1)≤j→σ'.H j=none)→(∀j e b,σ'.H j=some e→e.mut→cn (ν' j)=some b→b∈used++bH m v)→ ∃ν'',Core c (entry ms (lM x) (i+1) σ') tm w M ν'':=
   λh' qt vT=>uG h' h2 y5 qt vT (by rw[bs];exact oO) (λb hb=>Ej b (bF _ hb)) wW
  have Cc: ∀(e:az) (v':Value),v'=v→(∀b,cn v=some b→b∈bH m v)→(∀j,16*(i+1)≤j→aC σ.H (16*i+15) (some e) j=none)∧
    (∀j e1 b,aC σ.H (16*i+15) (some e) j=some e1→e1.mut→cn (updν ν (16*i+15) v' j)=some b→b∈used++bH m v):=by
   rintro e v' rfl hb
   refine⟨λj hj=>by rw[aj _ _ ω];exact ei j ω,λj e1 b hj eh bT=> ?_⟩
   by_cases xy:j=16*i+15
   ·subst xy
    simp only[updν,ed]at bT
    exact bF _ (hb b bT)
   ·rw[aj _ _ xy]at hj
    simp only[updν,xy,cU]at bT
    exact bk _ (xz j e1 b hj eh bT)
  cases m with
  |v τ=>
   refine oC (σ':=σ.put i (.val τ (jX x))) (h.put ?_) (λj hj=>ei j ω) (λj e b hj eh bT=>bk _ (xz j e b hj eh bT))
   simp only[VR,hv];exact h1
  |fn f τ=>
   refine oC (σ':=σ.put i (.BD f (kg τ (jX x)))) (h.put ?_) (λj hj=>ei j ω) (λj e b hj eh bT=>bk _ (xz j e b hj eh bT))
   rw[hv]
   simp only[A1,VR]at h1 ⊢
   obtain⟨us,hu,Bb⟩:=h1
   exact⟨us,hu,eE.free Bb⟩
  |own e=>
   have po: ∀b,cn v=some b→b∈bH (.own e) v:=λb hb=>by simp[bH,hb]
   have hc:=h.oD hid (v:=v) (e:= .own e (jX x)) h1 (λb hb=>iV b (po b hb)) (λb hb=> .inr (Ej b (bk _ (po b hb)))) (λb _ _ _ hb=>wW b (Ej b (bk _ (po b hb))))
   obtain⟨qt,vT⟩:=Cc (.own e (jX x)) v rfl po
   refine oC (σ':=(σ.put i (.ref (16*i+15))).dT (16*i+15) (some (.own e (jX x)))) (ν':=updν ν (16*i+15) v) (hc.put (d:=i) (x:= .ref (16*i+15)) ?_) qt vT
   simp only[VR,hv]
   exact⟨by rw[ag];simp,by simp[updν]⟩
  |lo e=>
   have po: ∀b,cn v=some b→b∈bH (.lo e) v:=λb hb=>by simp[bH,hb]
   have hc:=h.oD hid (v:=v) (e:= .own e (jX x)) h1 (λb hb=>iV b (po b hb)) (λb hb=> .inr (Ej b (bk _ (po b hb)))) (λb _ _ _ hb=>wW b (Ej b (bk _ (po b hb))))
   obtain⟨qt,vT⟩:=Cc (.own e (jX x)) v rfl po
   refine oC (σ':=(σ.put i (.ref (16*i+15))).dT (16*i+15) (some (.own e (jX x)))) (ν':=updν ν (16*i+15) v) (hc.put (d:=i) (x:= .ref (16*i+15)) ?_) qt vT
   simp only[VR,hv]
   exact⟨by rw[ag];simp,by simp[updν]⟩
  |io τ=>
   have po: ∀b,cn v=some b→b∈bH (.io τ) v:=λb hb=>by simp[bH,hb]
   have hc:=h.oD hid (v:=v) (e:= .obj τ (jX x)) h1 (λb hb=>iV b (po b hb)) (λb hb=> .inr (Ej b (bk _ (po b hb)))) (λb _ _ he=>by cases he)
   obtain⟨qt,vT⟩:=Cc (.obj τ (jX x)) v rfl po
   refine oC (σ':=(σ.put i (.dQ (16*i+15) [])).dT (16*i+15) (some (.obj τ (jX x)))) (ν':=updν ν (16*i+15) v) (hc.put (d:=i) (x:= .dQ (16*i+15) []) ?_) qt vT
   simp only[A1,ER]at h1
   obtain⟨b,cs,t,Iq,_⟩:=h1
   simp only[VR,hv]
   exact⟨_,ag _ _ _,trivial,b,by simp[updν,Iq],Iq⟩
  |dQ τ=>
   refine oC (σ':=σ.put i (.kW τ (jX x))) (h.put ?_) (λj hj=>ei j ω) (λj e b hj eh bT=>bk _ (xz j e b hj eh bT))
   rw[hv]
   simp only[A1,VR]at h1 ⊢
   exact h1
  |ptr τ=>
   refine oC (σ':=σ) h (λj hj=>ei j ω) (λj e b hj eh bT=>bk _ (xz j e b hj eh bT))
  |sp τ n e=>
   refine oC (σ':=σ) h (λj hj=>ei j ω) (λj e b hj eh bT=>bk _ (xz j e b hj eh bT))
def nQ(tm:Array Value):ResultVar→Sem Value
 | .tmp t=>pure (tm.getD t undef)
 | .cell x t=>do loadVar t (←asAddr (tm.getD x undef))
def tG(P:Program)(tm:Array Value)(w:World)(rv:ResultVar)(u:Value):Prop:=(nQ tm rv).run P w= .ok u w
def zy(P:Program)(tm:Array Value)(w:World):List (ResultVar ⊕ Nat)→List Value→List Value→Prop
 |[],us,ps=>us=[]∧ps=[]
 | .inl rv::rs,us,ps=> ∃u vu,us=u::vu∧tG P tm w rv u∧zy P tm w rs vu ps
 | .inr i::rs,us,ps=> ∃p vU,ps=p::vU∧p=tm.getD i undef∧zy P tm w rs us vU
theorem Core.Lt{tm:Array Value}{H1:Nat→Option az}{M1:Nat→Prop}(h: ∀i,VR w M σ.H ν (σ.T i) (tm.getD i undef))(k:cm w M w M1)(g:eI σ.H ν H1 ν): ∀i,VR w M1 H1 ν (σ.T i) (tm.getD i undef):=
 λi=>VR.aV k g (h i)
theorem uH(hE:EnvTy P E){tm:Array Value}{H0 Hq:Nat→Option az}{M1:Nat→Prop}{uo uf:dR}{io:List (Nat×AM)}{hs:List Nat}(h:eY c w M ν H0 σ.H Hq M1 uo uf io hs)(ht: ∀i,VR w M1 σ.H ν (σ.T i) (tm.getD i undef))
  {m:AM} {rs:ResultVar ⊕ Nat} {k:m.den→St→Option α} (hk:zk E m rs σ k=some r):
  ∃y σ' A9 Ba yD HD M2 u,k y σ'=some r∧σ'.T=σ.T∧eY c w M ν H0 σ'.H HD M2 A9 Ba yD (hs++bH m u)∧cm w M1 w M2∧eI σ.H ν σ'.H ν∧A1 w M2 m y u∧
   ((m.dY=false∧m.Le=false∧ ∃rv,rs= .inl rv∧tG P tm w rv u)∨(m.dY=true∧ ∃i,rs= .inr i∧u=tm.getD i undef)):=by
 unfold zk at hk
 split at hk
 ·
  rename_i τ t k
  obtain⟨y,rd,ups,hk,hy⟩:=vV h.mem (ht t) hk
  have Ek:tG P tm w (.tmp t) (tm.getD t undef):=by simp[tG,nQ]
  rcases hy with⟨rfl,hV⟩|⟨id,e,l,rfl,hid,hV⟩
  ·exact⟨y,σ,uo,uf,io,Hq,M1,_,hk,rfl,by simpa [bH]using h,.refl w M1,.refl _ ν,hV,.inl ⟨rfl,rfl,_,rfl,Ek⟩⟩
  ·obtain⟨M2,hA,hK,Ae⟩:=h.freeze hid
   exact⟨y,_,uo,_,io,Hq,M2,_,hk,rfl,(by simp only[bH,cy];exact hA),hK,.td hid ⟨rfl,rfl⟩,hV M2 Ae,.inl ⟨rfl,rfl,_,rfl,Ek⟩⟩
 ·
  rename_i τ x t k
  split at hk
  ·rename_i τ' pY
   obtain⟨e1,tf⟩:=bU hk
   clear hk
   subst e1
   obtain⟨υ,z,rd,hk,b,off,cs,hv,lK,fg⟩:=ur h.mem (ht x) tf
   obtain⟨e2,vW⟩:=aE hk
   subst e2
   refine⟨_,σ,uo,uf,io,Hq,M1,aK _ cs,vW,rfl,by simpa [bH]using h,.refl w M1,.refl _ ν,V.aK fg,.inl ⟨rfl,rfl,_,rfl,?_⟩⟩
   simp only[tG,nQ,hv]
   simp[asAddr,um (hE.ty t _ pY) lK fg]
  ·cases hk
 ·
  rename_i e t k
  have hv:=ht t
  have Ek:tG P tm w (.tmp t) (tm.getD t undef):=by simp[tG,nQ]
  split at hk
  ·rename_i hT
   rw[hT]at hv
   obtain⟨ad,hv⟩:=VR.emp.1 hv
   have hb:cn (.slice ad 0 0)=none:=by cases ad<;>simp[cn]
   exact⟨[],σ,uo,uf,io,Hq,M1,_,hk,rfl,by rw[hv];simpa [bH,hb]using h,.refl w M1,.refl _ ν,by rw[hv];simp only[A1,ER];exact .inl ⟨trivial,ad,rfl⟩,.inl ⟨rfl,rfl,_,rfl,Ek⟩⟩
  ·rename_i id hT
   rw[hT]at hv
   simp only[VR]at hv
   split at hk
   ·rename_i e' l hid
    obtain⟨e1,hk⟩:=aE hk
    cases e1
    refine⟨_,_,_,uf,io,_,M1,ν id,hk,rfl,(by simp only[bH];exact h.hand hid),.refl w M1,.td hid (az.eN _),h.mem.dH id _ hid,.inl ⟨rfl,rfl,_,rfl,by rw[←hv.2];exact Ek⟩⟩
   ·cases hk
  ·cases hk
 ·
  rename_i τ i k
  have hv:=ht i
  split at hk
  ·rename_i id hT
   rw[hT]at hv
   split at hk
   ·rename_i υ z hid
    obtain⟨e1,hk⟩:=aE hk
    subst e1
    simp only[VR]at hv
    obtain⟨e,he,eQ⟩:=hv
    rw[hid]at he;cases he
    simp only[AR]at eQ
    obtain⟨_,b,hb,hv⟩:=eQ
    have Iq:tm.getD i undef=ν id:=by rw[hv,hb];rfl
    refine⟨_,_,uo,uf,_,_,M1,ν id,hk,rfl,(by simp only[bH];exact h.Pf hid),.refl w M1,.td hid (az.eN _),h.mem.dH id _ hid,.inr ⟨rfl,i,rfl,Iq.symm⟩⟩
   ·cases hk
  ·cases hk
 ·
  rename_i e i k
  have hv:=ht i
  split at hk
  ·rename_i id hT
   rw[hT]at hv
   simp only[VR]at hv
   split at hk
   ·rename_i e' l hid
    obtain⟨e1,hk⟩:=aE hk
    cases e1
    refine⟨_,_,uo,uf,_,_,M1,ν id,hk,rfl,(by simp only[bH];exact h.NG hid),.refl w M1,.td hid (az.eN _),h.mem.dH id _ hid,.inr ⟨rfl,i,rfl,hv.2.symm⟩⟩
   ·cases hk
  ·cases hk
 ·
  rename_i τ t k
  have hv:=ht t
  have Ek:tG P tm w (.tmp t) (tm.getD t undef):=by simp[tG,nQ]
  split at hk
  ·rename_i id hT
   rw[hT]at hv
   split at hk
   ·rename_i υ z hid
    obtain⟨e1,hk⟩:=aE hk
    subst e1
    simp only[VR]at hv
    obtain⟨e,he,eQ⟩:=hv
    rw[hid]at he;cases he
    simp only[AR]at eQ
    obtain⟨_,b,hb,hv⟩:=eQ
    have Iq:tm.getD t undef=ν id:=by rw[hv,hb];rfl
    refine⟨_,_,uo,uf,_,_,M1,ν id,hk,rfl,(by simp only[bH];exact h.Pf hid),.refl w M1,.td hid (az.eN _),h.mem.dH id _ hid,.inl ⟨rfl,rfl,_,rfl,by rw[←Iq];exact Ek⟩⟩
   ·cases hk
  ·cases hk
 ·
  rename_i τ n e x t k
  split at hk
  ·rename_i τ' id pY hT
   obtain⟨e1,tf⟩:=bU hk
   clear hk
   subst e1
   have hv:=ht x
   rw[hT]at hv
   split at tf
   ·rename_i υ z q j hid
    obtain⟨Hy,vW⟩:=aP tf
    clear tf
    have:=qR Hy
    subst this
    obtain⟨e2,Sr⟩:=aE vW
    clear vW
    subst e2
    split at Sr
    ·rename_i e' l hj
     obtain⟨e3,hk4⟩:=aE Sr
     clear Sr
     cases e3
     obtain⟨y,hk5,k9,_⟩:=w6 hk4
     clear hk4
     obtain⟨b,cs,te,eH,e0,hb,hg,hM,hr,mL,h1,hq,c6,hj0⟩:=h.mem.linked hid
     simp only[VR]at hv
     obtain⟨e1,sw,eQ⟩:=hv
     rw[hid]at sw;cases sw
     simp only[AR]at eQ
     obtain⟨hi,b',bT,hu⟩:=eQ
     rw[hb]at bT;cases bT
     have hl:cs.toList.length=υ.size:=by rw[mL,bV (by simp only[a6];omega),hr.length]
     have TF:cs.toList=ca eH (de υ n) [ν j]:=by simpa [bb]using mL
     have lK:At w b 0 cs.toList:=by
      have:=At.of_block hg 0 cs.toList.length
      rw[bX,fR]at this
      exact this
     have hh:=p5 (w:=w) (M:=M1) (e:=e) (kK hq) hr TF
     have hA:=h.hand hj
     rw[←hh.1]at hA
     refine⟨y,_,_,_,_,_,M1,.agg cs,hk5,rfl,hA,.refl w M1,.td hj (az.eN _),?_,.inl ⟨rfl,rfl,_,rfl,?_⟩⟩
     ·simp only[A1]
      exact⟨cs,eH,ν j,l,z,rfl,kK hq,hr,TF,h.mem.dH j _ hj,k9⟩
     ·simp only[tG,nQ,hu]
      simp[asAddr]
      exact uq (P:=P) (hE.ty t _ pY) (w8 (kK hq)) lK hl
    ·cases Sr
   ·cases tf
  ·cases hk
 ·cases hk
theorem xA(hE:EnvTy P E){tm:Array Value}{H0:Nat→Option az}: ∀{ms:List AM} {rs:List (ResultVar ⊕ Nat)} {σ:St} {Hq:Nat→Option az} {M1:Nat→Prop} {uo uf:dR} {io:List (Nat×AM)} {hs:List Nat} {K:HP ms→Option α},
  eY c w M ν H0 σ.H Hq M1 uo uf io hs→(∀i,VR w M1 σ.H ν (σ.T i) (tm.getD i undef))→z5 E ms rs σ K=some r→
  ∃y us ps H2 A9 Ba yD HD M2,K y=some r∧eY c w M ν H0 H2 HD M2 A9 Ba yD (hs++aN ms us ps)∧cm w M1 w M2∧RR w M2 ms y us ps∧zy P tm w rs us ps
 |[],[],σ,Hq,M1,uo,uf,io,hs,K,h,ht,hk=>⟨(),[],[],σ.H,uo,uf,io,Hq,M1,hk,by simpa [aN]using h,.refl w M1,⟨rfl,rfl⟩,⟨rfl,rfl⟩⟩
 |[m],[q],σ,Hq,M1,uo,uf,io,hs,K,h,ht,PA=>by
  obtain⟨y,σ',A9,Ba,yD,HD,M2,u,hk,hT,hA,hK,hG,hy,hu⟩:=uH hE h ht (PA:zk E m q σ _=some r)
  clear PA
  rcases hu with⟨h1,h2,rv,rfl,hv⟩|⟨h1,i,rfl,hv⟩
  ·refine⟨y,[u],[],_,_,_,_,_,M2,hk,by simpa [aN,h1]using hA,hK,?_,?_⟩
   ·simp only[RR];exact .inr ⟨u,[],h1,h2,rfl,hy,by simp⟩
   ·simp only[zy];exact⟨u,[],rfl,hv,by simp⟩
  ·refine⟨y,[],[u],_,_,_,_,_,M2,hk,by simpa [aN,h1]using hA,hK,?_,?_⟩
   ·simp only[RR];exact .inl ⟨u,[],h1,rfl,hy,by simp⟩
   ·simp only[zy];exact⟨u,[],rfl,hv,by simp⟩
 |m::n::ms,q::rs,σ,Hq,M1,uo,uf,io,hs,K,h,ht,PA=>by
  obtain⟨y,σ',A9,Ba,yD,HD,M2,u,tf,hT,hA,hK,hG,hy,hu⟩:=uH hE h ht (PA:zk E m q σ _=some r)
  obtain⟨ys,us,ps,H3,uo3,uf3,io3,Wq,M3,hk,XS,XT,Sj,S9⟩:=xA (ms:=n::ms) hE hA (λi=>by rw[hT];exact Core.Lt ht hK hG i) tf
  have zu:A1 w M3 m y u:=A1.pA XT (λb hb=>⟨rfl,XS.hM b (bk _ (bF _ hb))⟩) hy
  clear PA
  rcases hu with⟨h1,h2,rv,rfl,hv⟩|⟨h1,i,rfl,hv⟩
  ·refine⟨(y,ys),u::us,ps,H3,uo3,uf3,io3,Wq,M3,hk,?_,hK.trans XT,?_,?_⟩
   ·have:aN (m::n::ms) (u::us) ps=bH m u++aN (n::ms) us ps:=by rw[aN];simp[h1]
    rw[this,←bs];exact XS
   ·rw[RR];exact .inr ⟨u,us,h1,h2,rfl,zu,Sj⟩
   ·simp only[zy];exact⟨u,us,rfl,hv,S9⟩
  ·refine⟨(y,ys),us,u::ps,H3,uo3,uf3,io3,Wq,M3,hk,?_,hK.trans XT,?_,?_⟩
   ·have:aN (m::n::ms) us (u::ps)=bH m u++aN (n::ms) us ps:=by rw[aN];simp[h1]
    rw[this,←bs];exact XS
   ·rw[RR];exact .inl ⟨u,ps,h1,rfl,zu,Sj⟩
   ·simp only[zy];exact⟨u,ps,rfl,hv,S9⟩
 |[],_::_,_,_,_,_,_,_,_,_,_,_,hk=>by simp[z5]at hk
 |[_],[],_,_,_,_,_,_,_,_,_,_,hk=>by simp[z5]at hk
 |[_],_::_::_,_,_,_,_,_,_,_,_,_,_,hk=>by simp[z5]at hk
 |_::_::_,[],_,_,_,_,_,_,_,_,_,_,hk=>by simp[z5]at hk
theorem zz{tm:Array Value}: ∀{rv:List ResultVar} {is:List (ResultVar ⊕ Nat)} {us ps:List Value},zy P tm w (rv.map .inl++is) us ps→
  ∃KK TG,us=KK++TG∧KK.length=rv.length∧(∀i (h:i<rv.length) (h':i<KK.length),tG P tm w rv[i] KK[i])∧zy P tm w is TG ps
 |[],is,us,ps,h=>⟨[],us,rfl,rfl,λi h=>by simp at h,h⟩
 |rv::rvs,is,us,ps,h=>by
  simp only[bQ,kN,zy]at h
  obtain⟨u,vu,rfl,h1,h2⟩:=h
  obtain⟨KK,TG,rfl,hl,h3,h4⟩:=zz h2
  refine⟨u::KK,TG,rfl,by simp[hl],λi hi mj=> ?_,h4⟩
  cases i with
  |zero=>exact h1
  |succ i=>exact h3 i (by simpa using hi) (by simpa using mj)
theorem nR{tm:Array Value}: ∀{ms:List AM} {vs:List Value} {i:Nat} {us ps:List Value},vs.length=ms.length→(∀j v m,vs[j]? =some v→ms[j]? =some m→m.dY=true→tm.getD (i+j) undef=v)→zy P tm w (qq ms i) us ps→us=[]∧ps=c3 ms vs
 |[],vs,i,us,ps,_,_,h=>by simp only[qq,zy]at h;simpa [c3]using h
 |m::ms,[],_,_,_,hl,_,_=>by simp at hl
 |m::ms,v::vs,i,us,ps,hl,Ci,h=>by
  have y5: ∀j u m,vs[j]? =some u→ms[j]? =some m→m.dY=true→tm.getD (i+1+j) undef=u:=λj u m hj hm ni=>by
   have:=Ci (j+1) u m (by simpa using hj) (by simpa using hm) ni
   rwa [show i+(j+1)=i+1+j from by omega]at this
  have yE:vs.length=ms.length:=by simpa using hl
  cases m with
  |io τ=>
   simp only[qq,zy]at h
   obtain⟨p,vU,rfl,hp,h⟩:=h
   obtain⟨h1,h2⟩:=nR yE y5 h
   refine⟨h1,?_⟩
   have:=Ci 0 v (.io τ) rfl rfl rfl
   simp only[gr]at this
   simp[c3,AM.dY,h2,hp,this]
  |lo e=>
   simp only[qq,zy]at h
   obtain⟨p,vU,rfl,hp,h⟩:=h
   obtain⟨h1,h2⟩:=nR yE y5 h
   refine⟨h1,?_⟩
   have:=Ci 0 v (.lo e) rfl rfl rfl
   simp only[gr]at this
   simp[c3,AM.dY,h2,hp,this]
  |v τ=>
   obtain⟨h1,h2⟩:=nR yE y5 (show zy P tm w (qq ms (i+1)) us ps from h)
   exact⟨h1,by simp[c3,AM.dY,h2]⟩
  |own τ=>
   obtain⟨h1,h2⟩:=nR yE y5 (show zy P tm w (qq ms (i+1)) us ps from h)
   exact⟨h1,by simp[c3,AM.dY,h2]⟩
  |fn f τ=>
   obtain⟨h1,h2⟩:=nR yE y5 (show zy P tm w (qq ms (i+1)) us ps from h)
   exact⟨h1,by simp[c3,AM.dY,h2]⟩
  |dQ τ=>
   obtain⟨h1,h2⟩:=nR yE y5 (show zy P tm w (qq ms (i+1)) us ps from h)
   exact⟨h1,by simp[c3,AM.dY,h2]⟩
  |ptr τ=>
   obtain⟨h1,h2⟩:=nR yE y5 (show zy P tm w (qq ms (i+1)) us ps from h)
   exact⟨h1,by simp[c3,AM.dY,h2]⟩
  |sp τ n e=>
   obtain⟨h1,h2⟩:=nR yE y5 (show zy P tm w (qq ms (i+1)) us ps from h)
   exact⟨h1,by simp[c3,AM.dY,h2]⟩
theorem Cl{fn:Func}{tm:Array Value}{us:List Value}(hl:us.length=fn.results.toList.length)(h: ∀i (h:i<fn.results.toList.length) (h':i<us.length),tG P tm w fn.results.toList[i] us[i]):
  (results fn tm).run P w= .ok (qG us) w:=by
 have key: ∀(rs:List ResultVar) (us:List Value),us.length=rs.length→(∀i (h:i<rs.length) (h':i<us.length),tG P tm w rs[i] us[i])→(rs.mapM (nQ tm)).run P w= .ok us w:=by
  intro rs
  induction rs with
  |nil=>intro us hl _;cases us with
   |nil=>simp
   |cons _ _=>simp at hl
  |cons r rs ih=>intro us hl h;cases us with
   |nil=>simp at hl
   |cons u us=>
    have h0:(nQ tm r).run P w= .ok u w:=h 0 (by simp) (by simp)
    have h1:=ih us (by simpa using hl) (λi hi mj=>h (i+1) (by simpa using hi) (by simpa using mj))
    simp[rY,h0,h1]
 have h2:=key fn.results.toList us hl h
 have h3:results fn tm=(do let vs ←fn.results.mapM (nQ tm);pure (if h:vs.size=1 then vs[0]else .tuple vs)):=by
  unfold results
  congr 1
 rw[h3,Array.mapM_eq_mapM_toList]
 simp only[Sem.run_bind,Sem.run_map,h2]
 unfold qG
 by_cases h3:us.length=1
 ·simp[h3]
 ·simp[h3]
theorem sK{m:AM}{x:m.den}{i:Nat}{σ:St}(h: ∀j e l o,σ.H j≠some (.cV e l o)): ∀j e l o,(tk m x i σ).H j≠some (.cV e l o):=by
 have key: ∀(τ:St) (n:Nat) (v:az),(∀j e l o,τ.H j≠some (.cV e l o))→(∀e l o,v≠ .cV e l o)→ ∀j e l o,(τ.dT n (some v)).H j≠some (.cV e l o):=fun τ n v hτ hv j e l o hj=>by
  have hj:aC τ.H n (some v) j=some (.cV e l o):=hj
  by_cases hjn:j=n
  ·subst hjn;rw[ag]at hj;cases hj;exact hv _ _ _ rfl
  ·rw[aj _ _ hjn]at hj;exact hτ j e l o hj
 cases m<;>simp only[tk]<;>first|exact h|exact key _ _ _ h (λ_ _ _=>by simp)
theorem uI: ∀{ms:List AM} {x:HP ms} {i:Nat} {σ:St},(∀j e l o,σ.H j≠some (.cV e l o))→ ∀j e l o,(entry ms x i σ).H j≠some (.cV e l o)
 |[],_,_,_,h=>h
 |[_],_,_,_,h=>sK h
 |m::n::ms,x,i,σ,h=>uI (ms:=n::ms) (x:=x.2) (i:=i+1) (σ:=tk m x.1 i σ) (sK h)
theorem tH(hE:jF P E){f:FuncId}{fn:Func}(hf:P.funcs[f]? =some fn)(Lu:E.nt=fn.ntmps){args res:List AM}(ni: ∀i m,args[i]? =some m→m.dY=true→i∈E.io)(TH: ∀i∈E.io,i<args.length)(hlen:args.length≤fn.ntmps)
  {M0:Nat→Prop} {vs:List Value} {x:HP args} {y:HP res} (nS: ∀b,M0 b→b<w.heap.size) (hA:eA w (λb=>M0 b∨b∈bY args vs) args x vs) (oO:(bY args vs).Nodup) (qz: ∀b∈bY args vs,¬M0 b)
  (h:zl E fn args res x=some y):
  Calls P f vs.toArray w λe w'=> ∃v,e= .returned v∧ ∃us M',v=qG us∧RR w' M' res y us (c3 args vs)∧Left w M0 (bY args vs) w' M'∧(aN res us (c3 args vs)).Nodup∧ ∀b∈aN res us (c3 args vs),¬M0 b:=by
 unfold zl at h
 split at h
 ·cases h
 rename_i cd hb
 simp only at h
 have W8: ∀{ms:List AM} {x:HP ms} {vs:List Value} {M:Nat→Prop},eA w M ms x vs→vs.length=ms.length:=by
  intro ms
  induction ms with
  |nil=>intro x vs M h;simp only[eA]at h;subst h;rfl
  |cons m ms ih=>intro x vs M h;simp only[eA]at h;obtain⟨v,Bd,rfl,_,h⟩:=h;simp[ih h]
 have K5:=W8 hA
 let tm:Array Value:=vs.toArray++Array.replicate (fn.ntmps-vs.toArray.size) undef
 have Ci: ∀j v,vs[j]? =some v→tm.getD j undef=v:=by
  intro j v hj
  have c6:j<vs.length:=(lX.1 hj).1
  rw[lW,Array.getElem?_append_left (by simpa using c6),oQ,hj];rfl
 have kz:tm.size=fn.ntmps:=by simp[tm];omega
 have hhb: ∀{ms:List AM} {x:HP ms} {vs:List Value} {M:Nat→Prop},eA w M ms x vs→ ∀b∈bY ms vs,b<w.heap.size:=by
  intro ms
  induction ms with
  |nil=>intro x vs M h b hb;simp[bY]at hb
  |cons m ms ih=>
   intro x vs M h b hb
   simp only[eA]at h
   obtain⟨v,Bd,rfl,h1,h⟩:=h
   simp only[bY,bt]at hb
   rcases hb with hb|hb
   ·cases m with
    |v _=>simp[bH]at hb
    |fn _ _=>simp[bH]at hb
    |dQ _=>simp[bH]at hb
    |own e=>
     simp only[bH,cL,A1,ER]at hb h1
     rcases h1 with⟨_,a,hv⟩|⟨b',cs,t,cap,hv,hg,_⟩
     ·rw[hv]at hb;cases a<;>simp[cn]at hb
     ·rw[hv]at hb
      simp only[cn]at hb
      split at hb
      ·cases hb
      ·simp only[cK]at hb;subst hb;exact lt_of_block hg
    |lo e=>
     simp only[bH,cL,A1,ER]at hb h1
     rcases h1 with⟨_,a,hv⟩|⟨b',cs,t,cap,hv,hg,_⟩
     ·rw[hv]at hb;cases a<;>simp[cn]at hb
     ·rw[hv]at hb
      simp only[cn]at hb
      split at hb
      ·cases hb
      ·simp only[cK]at hb;subst hb;exact lt_of_block hg
    |io τ=>
     simp only[bH,cL,A1,ER]at hb h1
     obtain⟨b',cs,t,hv,hg,_⟩:=h1
     rw[hv]at hb
     simp only[cn,cK]at hb;subst hb;exact lt_of_block hg
    |ptr τ=>
     simp only[bH,cL,A1,ER]at hb h1
     obtain⟨b',cs,t,hv,hg,_⟩:=h1
     rw[hv]at hb
     simp only[cn,cK]at hb;subst hb;exact lt_of_block hg
    |sp τ n e=>
     simp only[A1]at h1
     obtain⟨cs,eH,u,l,z,rfl,hq,hr,mL,hu,_⟩:=h1
     rw[(p5 hq hr mL).1,cL]at hb
     simp only[ER]at hu
     rcases hu with⟨_,a,hv⟩|⟨b',cs,t,cap,hv,hg,_⟩
     ·rw[hv]at hb;cases a<;>simp[cn]at hb
     ·rw[hv]at hb
      simp only[cn]at hb
      split at hb
      ·cases hb
      ·simp only[cK]at hb;subst hb;exact lt_of_block hg
   ·exact ih h b hb
 let cx:Ctx:={B:=w.heap.size,w0:=w,M0:=M0,may:=λb=>b∈bY args vs,arg:=λi=>tm.getD i undef}
 have DW:Mem cx (λ_=>none) w (λb=>M0 b∨b∈bY args vs) (λ_=>undef):=
  ⟨λi e hi=>(by cases hi),λi j e e' b _ hi=>(by cases hi),λi e b hi=>(by cases hi),λi e l b hi=>(by cases hi),λi τ x p j hi=>(by cases hi),λb hb=> .inl hb,λb hb=>hb.elim (nS b) (hhb hA b),λ_ _ _=>rfl,aH _,⟨nS,qz⟩,rfl,rfl,rfl⟩
 have F9:Core cx ⟨λ_=> .any,λ_=>none⟩ tm w (λb=>M0 b∨b∈bY args vs) (λ_=>undef):=⟨DW,λi=>by simp[VR]⟩
 obtain⟨ν',hc⟩:=uG (i:=0) (used:=[]) F9 hA (λj v hj=>by rw[c7];exact Ci j v hj) (λ_ _=>rfl) (λj e b hj=>by cases hj) (by simpa using oO) (λb hb=>hb) (λb hb=>qz b hb)
 have XU: ∀i e l o,(entry args x 0 ⟨λ_=> .any,λ_=>none⟩).H i≠some (.cV e l o):=uI (λ_ _ _ _ h=>by cases h)
 have hI:Inv cx E (entry args x 0 ⟨λ_=> .any,λ_=>none⟩) {tmps:=tm,defers:=[]} w:=⟨⟨cx,_,_,.refl ⟨nS,qz⟩,hc,λ_=>⟨λ_=>XU,λi j e l o e' l' o' hi=>absurd hi (XU i e l o),λi e l o hi=>absurd hi (XU i e l o)⟩⟩,by rw[Lu,kz],rfl,λi _=>rfl⟩
 refine calls_of_wp hf hb ?_
 have TI: ∀(σ':St) (a':Act) (w':World),z5 E res (fn.results.toList.map .inl++qq args 0) σ' some=some y→Inv cx E σ' a' w'→
   a'.defers=[]∧ ∃v,(results fn a'.tmps).run P w'= .ok v w'∧ ∃v',Ending.returned v= .returned v'∧ ∃us M',v'=qG us∧RR w' M' res y us (c3 args vs)∧Left w M0 (bY args vs) w' M'∧(aN res us (c3 args vs)).Nodup∧ ∀b∈aN res us (c3 args vs),¬M0 b:=by
  rintro σ' a' w' hk ⟨⟨d1,M1,ν1,nO,rq,_⟩,DT,So,pC⟩
  replace rq:Core cx σ' a'.tmps w' M1 ν1:=⟨rq.mem.up nO,rq.tmp⟩
  obtain⟨y',us,ps,H2,uo,uf,io,Hq,M2,hy,IY,hK,B5,hRs⟩:=xA (P:=P) hE.toEnvTy (eY.start rq.mem) rq.tmp hk
  cases hy
  obtain⟨KK,TG,rfl,hl,hv,XV⟩:=zz hRs
  obtain⟨rfl,yJ⟩:=nR (vs:=vs) K5 (λj v m hj hm xk=>by
   rw[c7]
   rw[pC j (ni j m hm xk)]
   exact Ci j v hj) XV
  rw[cy]at*
  subst yJ
  simp only[fT]at IY
  have eZ: ∀b∈aN res KK (c3 args vs),b<w.heap.size→b∈bY args vs:=λb hb c6=>(IY.B2 b hb).elim (λh'=>absurd c6 (Nat.not_lt.2 h')) (λh=>h)
  have zu:cm w' M2 w' (λb=>M2 b∧(b<w.heap.size→M0 b∨b∈bY args vs)):=⟨aH _,λ_ _ _=>rfl,λ_ _ h=>h.1⟩
  refine⟨So,qG KK,Cl hl hv,_,rfl,KK,λb=>M2 b∧(b<w.heap.size→M0 b∨b∈bY args vs),rfl,RR.pA zu (λb hb=>⟨rfl,B5.ld b hb,λc6=> .inr (eZ b hb c6)⟩) B5,⟨λb hb=>⟨IY.mem.sub b hb,λ_=> .inl hb⟩,λb hb=>IY.mem.qS b hb.1,λb c6 hb=>hb.2 c6,λb c6 hb=>IY.mem.frame b c6 hb,IY.mem.size,IY.mem.os,IY.mem.tape,IY.mem.output⟩,IY.nd,λb hb h0=> ?_⟩
  rcases IY.B2 b hb with h'|h'
  ·exact absurd (nS b h0) (Nat.not_lt.2 h')
  ·exact qz b h' h0
 refine GG (c:=cx) hE cd _ _ w _ _ _ _ hI h (fun σ' a' w' hk uC=> ?_) (λi σ' a' w' hk=>by cases hk) (fun σ' a' w' hk uC=> ?_)
 ·exact TI σ' a' w' hk uC
 ·exact TI σ' a' w' hk uC
theorem IZ(hE:jF P E){f:FuncId}{fn:Func}(hf:P.funcs[f]? =some fn)(sL:(fn.name== "runtime.NumGoroutine")=false)(Lu:E.nt=fn.ntmps)(S:jU)
  (ni: ∀i m,S.args[i]? =some m→m.dY=true→i∈E.io) (TH: ∀i∈E.io,i<S.args.length) (hlen:S.args.length≤fn.ntmps) (hq:S.quiet=true→S.res.all AM.flat=true) (XW:g6 S.args=g6 S.res)
  (bG: ∀x,zl E fn S.args S.res x=S.run x):gy P f S:=by
 refine⟨hq,XW,λM0 w vs x y nS hA oO qz hy=> ?_⟩
 have hb:fn.body.isNone=false:=by
  have:=bG x
  rw[hy]at this
  unfold zl at this
  split at this
  ·cases this
  ·rename_i cd hcd;rw[hcd];rfl
 exact mM hf sL hb (tH hE hf Lu ni TH hlen nS hA oO qz (by rw[bG,hy]))
end VM
end
section
namespace VM
open Go
variable{P:Program}
def sM:Ty→List Value→Option (List Value)
 | .int k,v::r=>match v with
  | .int k' n=>if k'=k∧n=0 then some r else none
  |_=>none
 | .bool,v::r=>match v with
  | .bool false=>some r
  |_=>none
 | .str,v::r=>match v with
  | .string s=>if s.data.size=0 then some r else none
  |_=>none
 | .slice _,v::r=>match v with
  | .slice none n m=>if n=0∧m=0 then some r else none
  |_=>none
 | .unit,r=>some r
 | .pair a b,r=>match sM a r with
  |some r=>sM b r
  |none=>none
 | .arr n e,r=>Nat.rec (motive:=λ_=>List Value→Option (List Value)) (λr=>some r) (λ_ ih r=>match sM e r with
  |some r=>ih r
  |none=>none) n r
 |_,[]=>none
theorem sN: ∀{τ:Ty} {l r:List Value},sM τ l=some r→l=τ.aW++r
 | .int k,[],_,h| .bool,[],_,h| .str,[],_,h| .slice _,[],_,h=>by simp[sM]at h
 | .int k,v::l,r,h=>by
  simp only[sM]at h
  split at h
  ·split at h
   ·rename_i hc;obtain⟨rfl,rfl⟩:=hc;cases h;rfl
   ·cases h
  ·cases h
 | .bool,v::l,r,h=>by
  simp only[sM]at h
  split at h
  ·cases h;rfl
  ·cases h
 | .str,v::l,r,h=>by
  simp only[sM]at h
  split at h
  ·rename_i s
   split at h
   ·rename_i hs
    cases h
    have:s=ByteArray.empty:=by
     obtain⟨d⟩:=s
     have:d= #[]:=Array.eq_empty_of_size_eq_zero hs
     subst this;rfl
    subst this;rfl
   ·cases h
  ·cases h
 | .slice _,v::l,r,h=>by
  simp only[sM]at h
  split at h
  ·split at h
   ·rename_i hc;obtain⟨rfl,rfl⟩:=hc;cases h;rfl
   ·cases h
  ·cases h
 | .unit,l,r,h=>by simp only[sM]at h;cases h;rfl
 | .pair a b,l,r,h=>by
  simp only[sM]at h
  split at h
  ·rename_i r1 h1
   rw[sN h1,sN h];simp[Ty.aW]
  ·cases h
 | .arr n e,l,r,h=>by
  simp only[sM]at h
  simp only[Ty.aW]
  induction n generalizing l with
  |zero=>cases h;rfl
  |succ n ih=>
   simp only at h
   split at h
   ·rename_i r1 h1
    rw[sN h1,ih _ h];simp[rO]
   ·cases h
def sO(P:Program)(τ:Ty)(t:TypeId):Bool:=
 match P.info? t with
 |none=>false
 |some i=>Nat.beq i.size τ.size&&Nat.ble i.bytes 2048&&(match i.zero with
  |none=>false
  |some z=>match τ.isAgg,z with
   |true,.agg cs=>(match sM τ cs.toList with|some []=>true|_=>false)
   |false,z=>(match sM τ [z]with|some []=>true|_=>false)
   |_,_=>false)
theorem ll{τ:Ty}{t:TypeId}(h:sO P τ t=true):z7 P τ t:=by
 unfold sO at h
 split at h
 ·cases h
 ·rename_i i hi
  simp only[bg,sg]at h
  obtain⟨⟨h1,h2⟩,h3⟩:=h
  refine⟨i,hi,cJ h1,?_,h2⟩
  split at h3
  ·cases h3
  ·rename_i z hz
   rw[hz]
   split at h3
   ·rename_i _ cs ha
    split at h3
    ·rename_i he
     have:=sN he
     unfold aK
     rw[ae ha,←cy τ.aW,←this]
    ·cases h3
   ·rename_i ha
    split at h3
    ·rename_i he
     have:=sN he
     unfold aK
     rw[af (by rw[ha];exact wC),←cy τ.aW,←this];rfl
    ·cases h3
   ·cases h3
def nk(P:Program):Ty→TypeId ⊕ (Array Field×Nat×Nat)→Bool
 | .int k,.inl t=>sO P (.int k) t&&(match P.underlying t with|some (.int k')=>decide (k'=k)|_=>false)
 | .bool,.inl t=>sO P .bool t&&(match P.underlying t with|some .bool=>true|_=>false)
 | .str,.inl t=>sO P .str t&&(match P.underlying t with|some .string=>true|_=>false)
 | .slice e,.inl t=>sO P (.slice e) t&&(match P.underlying t with|some (.slice e')=>nk P e (.inl e')|_=>false)
 | .arr n e,.inl t=>sO P (.arr n e) t&&(match P.underlying t with|some (.array n' e')=>Nat.beq n' n&&nk P e (.inl e')|_=>false)
 | .unit,.inl t=>sO P .unit t&&(match P.underlying t with|some (.struct fs)=>Nat.beq fs.size 0|_=>false)
 | .unit,.inr q=>Nat.beq q.1.size q.2.1
 | .pair a b,.inl t=>sO P (.pair a b) t&&(match P.underlying t with
  |some (.struct fs)=>(match fs[0]? with
   |some f=>Nat.beq f.offset 0&&(nk P a (.inl f.type)&&nk P b (.inr (fs,1,a.size)))
   |none=>false)
  |_=>false)
 | .pair a b,.inr q=>(match q.1[q.2.1]? with
  |some f=>Nat.beq f.offset q.2.2&&(nk P a (.inl f.type)&&nk P b (.inr (q.1,q.2.1+1,q.2.2+a.size)))
  |none=>false)
 |_,.inr _=>false
theorem iB: ∀{τ:Ty} {x:TypeId ⊕ (Array Field×Nat×Nat)},nk P τ x=true→dk P τ x
 | .int k,.inl t,h=>by
  simp only[nk,bg]at h
  refine⟨ll h.1,?_⟩
  have h:=h.2
  split at h
  ·rename_i k' hu;rw[hu,bO h]
  ·cases h
 | .bool,.inl t,h=>by
  simp only[nk,bg]at h
  refine⟨ll h.1,?_⟩
  have h:=h.2
  split at h
  ·rename_i hu;exact hu
  ·cases h
 | .str,.inl t,h=>by
  simp only[nk,bg]at h
  refine⟨ll h.1,?_⟩
  have h:=h.2
  split at h
  ·rename_i hu;exact hu
  ·cases h
 | .slice e,.inl t,h=>by
  simp only[nk,bg]at h
  refine⟨ll h.1,?_⟩
  have h:=h.2
  split at h
  ·rename_i e' hu;exact⟨e',hu,iB h⟩
  ·cases h
 | .arr n e,.inl t,h=>by
  simp only[nk,bg]at h
  refine⟨ll h.1,?_⟩
  have h:=h.2
  split at h
  ·rename_i n' e' hu
   simp only[bg]at h
   obtain⟨h0,h⟩:=h
   rw[cJ h0]at hu
   exact⟨e',hu,iB h⟩
  ·cases h
 | .unit,.inl t,h=>by
  simp only[nk,bg]at h
  refine⟨ll h.1,?_⟩
  have h:=h.2
  split at h
  ·rename_i fs hu;exact⟨fs,hu,cJ h⟩
  ·cases h
 | .unit,.inr (fs,n,o),h=>by simp only[nk]at h;exact cJ h
 | .pair a b,.inl t,h=>by
  simp only[nk,bg]at h
  refine⟨ll h.1,?_⟩
  have h:=h.2
  split at h
  ·rename_i fs hu
   split at h
   ·rename_i f hf
    simp only[bg]at h
    exact⟨fs,f,hu,hf,cJ h.1,iB h.2.1,iB h.2.2⟩
   ·cases h
  ·cases h
 | .pair a b,.inr (fs,n,o),h=>by
  simp only[nk]at h
  split at h
  ·rename_i f hf
   simp only[bg]at h
   exact⟨f,hf,cJ h.1,iB h.2.1,iB h.2.2⟩
  ·cases h
 | .int _,.inr _,h| .bool,.inr _,h| .str,.inr _,h| .slice _,.inr _,h| .arr _ _,.inr _,h=>by simp[nk]at h
def oE(P:Program):Ty→TypeId ⊕ (Array Field×Nat)→Bool
 | .int _,.inl _| .bool,.inl _| .str,.inl _=>true
 | .unit,.inl t=> !P.stoodInHeld t
 | .unit,.inr _=>true
 | .pair a b,.inl t=> !P.stoodInHeld t&&(match P.underlying t with
  |some (.struct fs)=>(match fs[0]? with
   |some f=>f.name != "_" &&(oE P a (.inl f.type)&&oE P b (.inr (fs,1)))
   |none=>false)
  |_=>false)
 | .pair a b,.inr q=>(match q.1[q.2]? with
  |some f=>f.name != "_" &&(oE P a (.inl f.type)&&oE P b (.inr (q.1,q.2+1)))
  |none=>false)
 |_,_=>false
def Ty.deep:Ty→Nat
 | .pair a b=>a.deep+b.deep+1
 |_=>1
theorem V.ofC{w:World}{M:Nat→Prop}{τ:Ty}{cs:List Value}{x:τ.den}(h:Rd w M τ cs x):V w M τ (VM.aK τ cs) x:=V.aK h
mutual
theorem Cm{w:World}{M:Nat→Prop}: ∀{τ:Ty} {t:TypeId} {u v:Value} {x y:τ.den} {d:Nat},fe P τ t→oE P τ (.inl t)=true→V w M τ u x→V w M τ v y→τ.deep≤d→(Op.equalIn d t u v).run P w= .ok (mg τ x y) w
 | .int k,t,u,v,x,y,d+1,hl,_,hx,hy,_=>by
  simp only[V,Ty.isAgg,dJ,cU,Rd,cM,cT]at hx hy
  subst hx;subst hy
  rw[run_equalIn_int w d t k k _ _ hl.int];simp only[mg,eD];congr 1
 | .bool,t,u,v,x,y,d+1,hl,_,hx,hy,_=>by
  simp only[V,Ty.isAgg,dJ,cU,Rd,cM,cT]at hx hy
  subst hx;subst hy
  rw[run_equalIn_bool w d t _ _ hl.bool];simp only[mg]
 | .str,t,u,v,x,y,d+1,hl,_,hx,hy,_=>by
  simp only[V,Ty.isAgg,dJ,cU,Rd,cM,cT]at hx hy
  subst hx;subst hy
  rw[run_equalIn_string w d t _ _ hl.str];simp only[mg,wU];congr 1;rw[mW];simp
 | .slice _,_,_,_,_,_,_,_,h,_,_,_| .arr _ _,_,_,_,_,_,_,_,h,_,_,_=>by simp[oE]at h
 | .unit,t,u,v,x,y,d+1,hl,he,hx,hy,_=>by
  simp only[V,Ty.isAgg,ed]at hx hy
  obtain⟨cs,rfl,_⟩:=hx
  obtain⟨cs',rfl,_⟩:=hy
  simp only[fe,dk]at hl
  obtain⟨_,fs,hu,h0⟩:=hl
  have TJ:P.fieldsOf t=fs:=by simp[Program.fieldsOf,hu]
  rw[run_equalIn_struct w d t cs cs' (by rw[TJ];exact hu) (by simpa [oE]using he),TJ]
  have:fs.toList=[]:=by rw[←Bt,aJ];exact h0
  rw[this];simp[Op.eqFields,mg]
 | .pair a b,t,u,v,x,y,d+1,hl,he,hx,hy,hd=>by
  simp only[V,Ty.isAgg,ed]at hx hy
  obtain⟨cs,rfl,hx⟩:=hx
  obtain⟨cs',rfl,hy⟩:=hy
  simp only[fe,dk]at hl
  obtain⟨_,fs,f,hu,hf,ho,q5,DY⟩:=hl
  have TJ:P.fieldsOf t=fs:=by simp[Program.fieldsOf,hu]
  simp only[oE,hu,hf,bg]at he
  rw[run_equalIn_struct w d t cs cs' (by rw[TJ];exact hu) (by simpa using he.1),TJ]
  have h0:fs.toList=f::fs.toList.drop 1:=by
   have h1:=jf (l:=fs.toList) (i:=0) (by rw[aJ];exact(fO.1 hf).1)
   rw[bX]at h1
   rw[h1];congr 1
   rw[rN];exact(fO.1 hf).2
  simp only[Ty.deep]at hd
  rw[h0]
  have mu:Rd w M (.pair a b) (cs.toList.drop 0) x:=by rw[bX];exact hx
  have GH:Rd w M (.pair a b) (cs'.toList.drop 0) y:=by rw[bX];exact hy
  have eX:f.name≠ "_" :=by simpa using he.2.1
  simp only[Op.eqFields,eX,ne_eq,not_false_eq_true,ed]
  exact I0 (off:=0) ho q5 he.2.2.1 mu GH ω (λh1 h2=>I1 (n:=1) (fs:=fs) (off:=a.size) DY he.2.2.2 (by rw[c7]at h1;exact h1) (by rw[c7]at h2;exact h2) ω)
 | .int _,_,_,_,_,_,0,_,_,_,_,hd| .bool,_,_,_,_,_,0,_,_,_,_,hd| .str,_,_,_,_,_,0,_,_,_,_,hd| .unit,_,_,_,_,_,0,_,_,_,_,hd| .pair _ _,_,_,_,_,_,0,_,_,_,_,hd=>by simp[Ty.deep]at hd
theorem I1{w:World}{M:Nat→Prop}: ∀{b:Ty} {fs:Array Field} {n off:Nat} {cs cs':Array Value} {x y:b.den} {d:Nat},dk P b (.inr (fs,n,off))→oE P b (.inr (fs,n))=true→Rd w M b (cs.toList.drop off) x→Rd w M b (cs'.toList.drop off) y→b.deep≤d→
  (Op.eqFields d cs cs' (fs.toList.drop n)).run P w= .ok (mg b x y) w
 | .unit,fs,n,off,cs,cs',x,y,d,hl,_,_,_,_=>by
  simp only[dk]at hl
  rw[eT (by rw[aJ];omega)]
  simp[Op.eqFields,mg]
 | .pair a b,fs,n,off,cs,cs',x,y,d,hl,he,hx,hy,hd=>by
  simp only[dk]at hl
  obtain⟨f,hf,ho,q5,DY⟩:=hl
  simp only[oE,hf,bg]at he
  have h0:fs.toList.drop n=f::fs.toList.drop (n+1):=by
   rw[jf (l:=fs.toList) (i:=n) (by rw[aJ];exact(fO.1 hf).1)]
   congr 1
   rw[rN];exact(fO.1 hf).2
  simp only[Ty.deep]at hd
  rw[h0]
  have eX:f.name≠ "_" :=by simpa using he.1
  simp only[Op.eqFields,eX,ne_eq,not_false_eq_true,ed]
  exact I0 ho q5 he.2.1 hx hy ω (λh1 h2=>I1 DY he.2.2 h1 h2 ω)
 | .int _,_,_,_,_,_,_,_,_,hl,_,_,_,_| .bool,_,_,_,_,_,_,_,_,hl,_,_,_,_| .str,_,_,_,_,_,_,_,_,hl,_,_,_,_| .slice _,_,_,_,_,_,_,_,_,hl,_,_,_,_| .arr _ _,_,_,_,_,_,_,_,_,hl,_,_,_,_=>by simp[dk]at hl
theorem I0{w:World}{M:Nat→Prop}{a b:Ty}{f:Field}{fs:List Field}{off:Nat}{cs cs':Array Value}{x y:(Ty.pair a b).den}{d:Nat}(ho:f.offset=off)(q5:fe P a f.type)(he:oE P a (.inl f.type)=true)
  (hx:Rd w M (.pair a b) (cs.toList.drop off) x) (hy:Rd w M (.pair a b) (cs'.toList.drop off) y) (hd:a.deep≤d)
  (hr:Rd w M b (cs.toList.drop (off+a.size)) x.2→Rd w M b (cs'.toList.drop (off+a.size)) y.2→(Op.eqFields d cs cs' fs).run P w= .ok (mg b x.2 y.2) w):
  (do let u ←part f.type cs f.offset;let v ←part f.type cs' f.offset;let r ←Op.equalIn d f.type u v;if(!r)=true then pure false else Op.eqFields d cs cs' fs:Sem Bool).run P w= .ok (mg (.pair a b) x y) w:=by
 simp only[Rd]at hx hy
 obtain⟨c1,c2,hc,h1,h2⟩:=hx
 obtain⟨c1',c2',Hz,jY,qI⟩:=hy
 subst ho
 have p1:(cs.toList.drop f.offset).take a.size=c1:=by rw[hc,oW h1.length]
 have p2:(cs'.toList.drop f.offset).take a.size=c1':=by rw[Hz,oW jY.length]
 have q1:cs.toList.drop (f.offset+a.size)=c2:=by rw[←eC,hc,jj h1.length]
 have q2:cs'.toList.drop (f.offset+a.size)=c2':=by rw[←eC,Hz,jj jY.length]
 have r1:=ss q5 (w:=w) (M:=M) (cs:=cs) (off:=f.offset) (x:=x.1) (by rw[p1];exact h1)
 have r2:=ss q5 (w:=w) (M:=M) (cs:=cs') (off:=f.offset) (x:=y.1) (by rw[p2];exact jY)
 have r3:=Cm (d:=d) q5 he (V.ofC (by rw[p1];exact h1):V w M a (VM.aK a ((cs.toList.drop f.offset).take a.size)) x.1) (V.ofC (by rw[p2];exact jY):V w M a (VM.aK a ((cs'.toList.drop f.offset).take a.size)) y.1) hd
 simp only[Sem.run_bind,r1,r2,r3,Result.andThen_ok,mg]
 cases mg a x.1 y.1
 ·simp
 ·simpa using hr (by rw[q1];exact h2) (by rw[q2];exact qI)
end
def Lv(P:Program)(τ:Ty)(t:TypeId):Bool:= !(τ.comparable&&τ.isAgg)||(oE P τ (.inl t)&&(Nat.ble τ.deep 10000&& !P.eqGuardType P.depth t))
theorem Lw{τ:Ty}{t:TypeId}(hl:fe P τ t)(h:Lv P τ t=true)(hc:τ.comparable=true)(ha:τ.isAgg=true):SX P t τ:=by
 unfold Lv at h
 rw[hc,ha]at h
 simp only[Bool.and_self,aS,sa,bg,sg,mU]at h
 obtain⟨h1,h2,h3⟩:=h
 intro w M u v x y b xo yo hx hy
 have he:=Cm (d:=10000) hl h1 hx hy h2
 unfold V at hx hy
 rw[ae ha]at hx hy
 obtain⟨cs,rfl,_⟩:=hx
 obtain⟨cs',rfl,_⟩:=hy
 refine⟨?_,?_,?_⟩
 ·cases b<;>simp[eqGuard,h3]
 ·simp only[binOp];simp[Op.equal,Op.maxDepth,he]
 ·simp only[binOp];simp[Op.equal,Op.maxDepth,he]
def TK(P:Program)(l:List (Nat×Ty)):Bool:=l.all λq=>nk P q.2 (.inl q.1)&&Lv P q.2 q.1
end VM
end
section
namespace VM
open Go Go.WideShapes Go.RowKit Go.ChangeShapes
def WF:(τ:Ty)→τ.den→Prop
 | .int k,x=>(Lit.int k x).wf=true
 | .bool,_=>True
 | .str,s=>ByteArray.size s≤maxLen
 | .slice e,l=>ℓ l≤maxLen∧ ∀i (h:i<ℓ l),WF e (List.get l ⟨i,h⟩)
 | .unit,_=>True
 | .pair a b,x=>WF a x.1∧WF b x.2
 | .arr _ e,l=> ∀i (h:i<ℓ l),WF e (List.get l ⟨i,h⟩)
def Ty.ln:Ty→Bool
 | .slice e=>Nat.blt 0 e.size&&e.ln
 | .pair a b=>a.ln&&b.ln
 | .arr _ e=>e.ln
 |_=>true
theorem I2{α β:Type}{f:α→Option β}: ∀{l:List α} {r:List β},l.mapM f=some r→ ∀x∈l,∃y,f x=some y
 |[],_,_,x,hx=>by cases hx
 |a::l,r,h,x,hx=>by
  rw[rY]at h
  simp only[bind,lY,pure,cK]at h
  obtain⟨y,hy,r',hr,_⟩:=h
  rcases bu.1 hx with rfl|hx
  ·exact⟨y,hy⟩
  ·exact I2 hr x hx
theorem Cn{α β:Type}{f:α→Option β}: ∀{l:List α} {r:List β},l.mapM f=some r→r.length=l.length∧ ∀i (h:i<l.length) (h':i<r.length),f l[i]=some r[i]
 |[],r,h=>by simp at h;subst h;exact⟨rfl,λi h=>by cases h⟩
 |a::l,r,h=>by
  rw[rY]at h
  simp only[bind,lY,pure,cK]at h
  obtain⟨y,hy,r',hr,rfl⟩:=h
  obtain⟨h1,h2⟩:=Cn hr
  refine⟨by simp[h1],λi hi mj=> ?_⟩
  cases i with
  |zero=>exact hy
  |succ i=>exact h2 i (by simpa using hi) (by simpa using mj)
theorem pD{α:Type}{p:Nat→α→Prop}: ∀n,(∀i,i<n→ ∃x,p i x)→ ∃l:List α,l.length=n∧ ∀i (h:i<l.length),p i (l.get ⟨i,h⟩)
 |0,_=>⟨[],rfl,λi h=>by cases h⟩
 |n+1,h=>by
  obtain⟨l,hl,hp⟩:=pD n (λi hi=>h i ω)
  obtain⟨x,hx⟩:=h n ω
  refine⟨l++[x],by simp[hl],λi hi=> ?_⟩
  simp only[wB]
  by_cases c6:i<l.length
  ·rw[rD c6];exact hp i c6
  ·have jl:i=n:=by simp at hi;omega
   subst jl
   rw[wv ω]
   simp[hl,hx]
section
variable{H:Type}{enc:TypeId×Value→H}{P:Program}{w:World}
theorem fe.cells{τ:Ty}{t:TypeId}(h:fe P τ t):P.cellsOf t=τ.size:=by
 obtain⟨i,hi,hs,_⟩:=h.base
 simp[Program.cellsOf,hi,hs]
theorem zA{a:Addr}{n:Nat}{cs:List Value}(h:w.cells? 0 a n=some cs):cs.length=n∧ ∀j v,cs[j]? =some v→w.cell? (a.add j)=some v:=by
 unfold World.cells? at h
 rw[ae (fk _)]at h
 obtain⟨h1,h2⟩:=Cn h
 rw[ji]at h1
 refine⟨h1,λj v hj=> ?_⟩
 obtain⟨c6,rfl⟩:=lX.1 hj
 have:=h2 j (by rw[ji];omega) c6
 rw[rQ]at this
 exact this
def I3(H:Type)(enc:TypeId×Value→H)(P:Program)(w:World)(τ:Ty):TypeId ⊕ (Array Field×Nat×Nat)→Prop
 | .inl t=> ∀(fuel:Nat) (cs:List Value) (d:DataW H×List MemPlace),DataW.trod enc P w 0 (λ_=>true) true fuel t cs=some d→ ∃x:τ.den,Rd w (λ_=>False) τ cs x∧WF τ x
 | .inr q=> ∀(cs:List Value),cs.length=q.2.2+τ.size→(∀f∈q.1.toList,∃fuel d,DataW.trod enc P w 0 (λ_=>true) true fuel f.type ((cs.drop f.offset).take (P.cellsOf f.type))=some d)→ ∃x:τ.den,Rd w (λ_=>False) τ (cs.drop q.2.2) x∧WF τ x
theorem zB{a b:Ty}{f:Field}{fs:Array Field}{n off:Nat}(hf:fs[n]? =some f)(ho:f.offset=off)(q5:fe P a f.type)(PB:I3 H enc P w a (.inl f.type))(HV:I3 H enc P w b (.inr (fs,n+1,off+a.size)))
  {cs:List Value} (hc:cs.length=off+(a.size+b.size)) (ia: ∀f∈fs.toList,∃fuel d,DataW.trod enc P w 0 (λ_=>true) true fuel f.type ((cs.drop f.offset).take (P.cellsOf f.type))=some d):
  ∃x:(Ty.pair a b).den,Rd w (λ_=>False) (.pair a b) (cs.drop off) x∧WF (.pair a b) x:=by
 subst ho
 obtain⟨fuel,d,hd⟩:=ia f (by rw[Array.mem_toList_iff];exact Array.mem_of_getElem? hf)
 rw[q5.cells]at hd
 obtain⟨x,hx,TL⟩:=PB fuel _ d hd
 obtain⟨y,hy,TM⟩:=HV cs (by simp only;omega) ia
 refine⟨(x,y),?_,TL,TM⟩
 simp only[Rd]
 refine⟨_,_,(ik a.size (cs.drop f.offset)).symm,hx,?_⟩
 rw[eC];exact hy
theorem nT: ∀{τ:Ty} {x:TypeId ⊕ (Array Field×Nat×Nat)},dk P τ x→τ.ln=true→I3 H enc P w τ x
 | .int k,.inl t,hl,_=>by
  intro fuel cs d h
  simp only[dk]at hl
  obtain⟨n,rfl,_,hw⟩:=DataW.trod_int hl.2 h
  exact⟨n,rfl,hw⟩
 | .bool,.inl t,hl,_=>by
  intro fuel cs d h
  simp only[dk]at hl
  obtain⟨b,rfl,_⟩:=DataW.trod_bool hl.2 h
  exact⟨b,rfl,trivial⟩
 | .str,.inl t,hl,_=>by
  intro fuel cs d h
  simp only[dk]at hl
  obtain⟨s,rfl,_,hs⟩:=DataW.trod_string hl.2 h
  exact⟨s,rfl,hs⟩
 | .slice e,.inl t,hl,hs=>by
  intro fuel cs d h
  simp only[dk]at hl
  obtain⟨_,e',hu,hle⟩:=hl
  simp only[Ty.ln,bg,sf]at hs
  have ih:=nT hle hs.2
  have kz:P.cellsOf e'=e.size:=fe.cells hle
  rcases DataW.trod_slice hu h with⟨rfl,_⟩|⟨a,len,cap,elems,rest,n,_,rfl,_,_,Hw,Xh,hel,ia,_⟩
  ·refine⟨[],?_,fk _,λi h=>by cases h⟩
   simp only[Rd]
   exact⟨none,0,rfl,aH _,λi h=>by cases h⟩
  ·rw[kz]at ia
   have get: ∀i,i<len→ ∃cs' y,w.cells? 0 (a.add (i*e.size)) e.size=some cs'∧DataW.trod enc P w 0 (λ_=>true) true n e' cs'=some y:=λi hi=>by
    have:=ia i hi
    rw[ba ω]at this
    obtain⟨cs',h1,h2⟩:=lY.1 this
    exact⟨cs',_,h1,h2⟩
   have key: ∀i,i<len→ ∃x:e.den,(a.spot=none∧a.block<w.heap.size∧ ∃cs',At w a.block (a.off+i*e.size) cs'∧Rd w (λ_=>False) e cs' x)∧WF e x:=by
    intro i hi
    obtain⟨cs',y,mL,ht⟩:=get i hi
    obtain⟨h1,h2⟩:=zA mL
    obtain⟨x,hx,hw⟩:=ih n cs' y ht
    have Ga:a.spot=none∧a.block<w.heap.size:=by
     obtain⟨eH,y0,XX,_⟩:=get 0 ω
     obtain⟨Xe,h20⟩:=zA XX
     have:=h20 0 eH[0] (ba ω)
     simp only[wQ,Addr.add,ed,World.cell?]at this
     split at this
     ·rename_i hb
      refine⟨?_,(fO.1 hb).1⟩
      split at this
      ·cases this
      ·rename_i hn;simpa using hn
     ·cases this
    refine⟨x,⟨Ga.1,Ga.2,cs',λj v hj=> ?_,hx⟩,hw⟩
    have:=h2 j v hj
    have he:(a.add (i*e.size)).add j=⟨a.block,a.off+i*e.size+j,none⟩:=by
     obtain⟨ab,ao,asp⟩:=a
     simp only at Ga
     obtain⟨rfl,_⟩:=Ga
     simp only[Addr.add]
     split<;>split<;>simp_all<;>omega
    rw[he]at this
    exact this
   obtain⟨l,hl,hp⟩:=pD len key
   refine⟨l,?_,by rw[hl];omega,λi h=>(hp i h).2⟩
   simp only[Rd]
   refine⟨some a,cap,by rw[hl],by rw[hl];exact Hw,λi h=> ?_⟩
   obtain⟨h1,h2,cs',h3,h4⟩:=(hp i h).1
   refine⟨a.block,a.off,?_,h2,λh=>h,cs',h3,h4⟩
   rw[←h1]
 | .unit,.inl t,hl,_=>by
  intro fuel cs d h
  simp only[dk]at hl
  obtain⟨⟨i,hi,kz,_⟩,fs,hu,h0⟩:=hl
  obtain⟨xs,n,_,_,hc,_⟩:=DataW.trod_struct hu h
  refine⟨(),?_,trivial⟩
  simp only[Rd]
  rw[←Bt,hc]
  simp[Program.cellsOf,hi,kz,Ty.size]
 | .unit,.inr q,hl,_=>by
  intro cs hc _
  refine⟨(),?_,trivial⟩
  simp only[Rd]
  rw[eT (by rw[hc];simp[Ty.size])]
 | .pair a b,.inl t,hl,hs=>by
  intro fuel cs d h
  simp only[dk]at hl
  obtain⟨⟨i,hi,kz,_⟩,fs,f,hu,hf,ho,q5,DY⟩:=hl
  simp only[Ty.ln,bg]at hs
  have PB:=nT q5 hs.1
  have HV:=nT DY hs.2
  obtain⟨xs,n,_,_,hc,hxl,Ww⟩:=DataW.trod_struct hu h
  have:=zB (b:=b) (off:=0) hf ho q5 PB (by simp only[c7];exact HV) (cs:=cs) (by rw[hc];simp[Program.cellsOf,hi,kz,Ty.size]) (λf hf=>by
   obtain⟨j,hj,rfl⟩:=oS.1 hf
   rw[aJ]at hj
   have:=Ww j fs[j] (by simp[hj])
   rw[ba ω]at this
   exact⟨n,_,by rw[rN];exact this⟩)
  rw[bX]at this
  exact this
 | .pair a b,.inr (fs,n,off),hl,hs=>by
  intro cs hc ia
  simp only[dk]at hl
  obtain⟨f,hf,ho,q5,DY⟩:=hl
  simp only[Ty.ln,bg]at hs
  exact zB hf ho q5 (nT q5 hs.1) (nT DY hs.2) (by simpa [Ty.size]using hc) ia
 | .arr n e,.inl t,hl,hs=>by
  intro fuel cs d h
  simp only[dk]at hl
  obtain⟨⟨i,hi,kz,_⟩,e',hu,hle⟩:=hl
  simp only[Ty.ln]at hs
  have ih:=nT hle hs
  have hse:P.cellsOf e'=e.size:=fe.cells hle
  obtain⟨xs,m,_,_,hc,hxl,Ww⟩:=DataW.trod_array hu h
  have hlen:cs.length=n*e.size:=by rw[hc];simp[Program.cellsOf,hi,kz,Ty.size]
  have key: ∀i,i<n→ ∃x:e.den,Rd w (λ_=>False) e ((cs.drop (i*e.size)).take e.size) x∧WF e x:=λi hi=>by
   have:=Ww i hi
   rw[ba ω,hse]at this
   exact ih m _ _ this
  obtain⟨l,Xq,hp⟩:=pD n key
  refine⟨l,?_,λi h=>(hp i h).2⟩
  simp only[Rd]
  refine⟨Xq,(List.range n).map λi=>(cs.drop (i*e.size)).take e.size,by simp,?_,λi h h'=> ?_⟩
  ·clear Ww h key hp Xq hu
   have: ∀m,m≤n→cs.take (m*e.size)=((List.range m).map λi=>(cs.drop (i*e.size)).take e.size).flatten:=by
    intro m
    induction m with
    |zero=>simp
    |succ m ihm=>
     intro hm
     rw[wM,dv,List.flatten_append,←ihm ω]
     simp only[bQ,fh,rR,List.flatten_nil,cy]
     rw[cr,fi,List.take_add]
   have h2:=this n (aH _)
   rw[dI ω]at h2
   exact h2
  ·have:=(hp i h).1
   simpa using this
 | .int _,.inr _,h,_| .bool,.inr _,h,_| .str,.inr _,h,_| .slice _,.inr _,h,_| .arr _ _,.inr _,h,_=>by simp[dk]at h
theorem PC{τ:Ty}{t:TypeId}{r:Reach}{b0:Nat}{v:Value}{d:DataW H}{ps:List MemPlace}(hl:fe P τ t)(hs:τ.ln=true)(hv:Value.okWide P w r b0 t v)(h:DataW.Trod enc P w 0 (λ_=>true) true t v d ps):
  ∃x:τ.den,V w (λ_=>False) τ v x∧WF τ x:=by
 obtain⟨fuel,h⟩:=h
 obtain⟨x,hx,hw⟩:=nT (H:=H) (enc:=enc) (w:=w) hl hs fuel _ _ h
 refine⟨x,?_,hw⟩
 unfold V
 cases τ with
 |int k=>
  obtain⟨n,rfl⟩:=okWide_int hl.int hv
  exact hx
 |bool=>
  obtain⟨n,rfl⟩:=okWide_bool hl.bool hv
  exact hx
 |str=>
  obtain⟨n,rfl⟩:=okWide_string hl.str hv
  exact hx
 |slice e=>
  obtain⟨e',hu,_⟩:=hl.slice
  obtain⟨a,len,cap,rfl⟩:=okWide_slice hu hv
  exact hx
 |unit=>
  simp only[fe,dk]at hl
  obtain⟨_,fs,hu,_⟩:=hl
  simp only[Value.okWide,hu]at hv
  obtain⟨cs,rfl,_⟩:=hv
  exact⟨cs,rfl,hx⟩
 |pair a b=>
  simp only[fe,dk]at hl
  obtain⟨_,fs,f,hu,_⟩:=hl
  simp only[Value.okWide,hu]at hv
  obtain⟨cs,rfl,_⟩:=hv
  exact⟨cs,rfl,hx⟩
 |arr n e=>
  obtain⟨e',hu,_⟩:=hl.arr
  simp only[Value.okWide,hu]at hv
  obtain⟨cs,rfl,_⟩:=hv
  exact⟨cs,rfl,hx⟩
def TN:(ms:List Ty)→HP (ms.map .v)→Prop
 |[],_=>True
 |_::ms,x=>WF _ (jX x)∧TN ms (lM x)
def XY:{m:AM}→{ms:List AM}→m.den→HP ms→HP (m::ms)
 |_,[],x,_=>x
 |_,_::_,x,y=>(x,y)
theorem Fh{m:AM}: ∀{ms:List AM} (x:m.den) (y:HP ms),jX (XY x y)=x
 |[],_,_=>rfl
 |_::_,_,_=>rfl
theorem Fi{m:AM}: ∀{ms:List AM} (x:m.den) (y:HP ms),lM (XY x y)=y
 |[],_,()=>rfl
 |_::_,_,_=>rfl
theorem zC(laid:laidOutB P=true){r:Reach}{b0:Nat}: ∀{τs:List Ty} {ts:List TypeId} {vs:List Value} {ds:List (DataW H)} {ps:List MemPlace},DataW.TrodAll enc P w 0 (λ_=>true) true ts vs ds ps→
  τs.length=ts.length→(∀(j:Nat) τ t,τs[j]? =some τ→ts[j]? =some t→(fe P τ t∧τ.ln=true∧P.readableRec t=true∧t<P.types.size))→
  (∀(j:Nat) t v,ts[j]? =some t→vs[j]? =some v→Value.okWide P w r b0 t v)→
  (∃x:HP (τs.map .v),eA w (λ_=>False) (τs.map .v) x vs∧TN τs x)∧ ∀w',Below w.heap.size w w'→ ∃vU,DataW.TrodAll enc P w' 0 (λb=>decide (b<w.heap.size)) true ts vs ds vU
 |[],[],vs,ds,ps,h,_,_,_=>by
  obtain⟨rfl,rfl,rfl⟩:=trodAll_nil h
  exact⟨⟨(),rfl,trivial⟩,λw' _=>⟨[],rfl⟩⟩
 |τ::τs,t::ts,vs,ds,ps,h,hl,pY,hv=>by
  obtain⟨v,Bd,d,ds',p,q,rfl,rfl,rfl,h1,h2⟩:=trodAll_cons h
  obtain⟨nL,PD,S1,c6⟩:=pY 0 τ t rfl rfl
  obtain⟨x,hx,TL⟩:=PC nL PD (hv 0 t v rfl rfl) h1
  obtain⟨⟨y,hy,TM⟩,I4⟩:=zC laid h2 (by simpa using hl) (λj τ' t' h h'=>pY (j+1) τ' t' (by simpa using h) (by simpa using h')) (λj t' v' h h'=>hv (j+1) t' v' (by simpa using h) (by simpa using h'))
  refine⟨⟨XY (m:= .v τ) x y,?_,?_⟩,λw' hb=> ?_⟩
  ·show eA w _ (.v τ::τs.map .v) _ _
   simp only[eA]
   exact⟨v,Bd,rfl,by rw[Fh];exact hx,by rw[Fi];exact hy⟩
  ·simp only[TN]
   exact⟨by rw[Fh];exact TL,by rw[Fi];exact TM⟩
  ·obtain⟨vU,h'⟩:=I4 w' hb
   have qV: ∀z∈p,z.block<w.heap.size:=by
    obtain⟨m,hm⟩:=h1
    exact DataW.trod_lt m _ _ _ hm
   exact⟨p++vU,trodAll_cons_mk (Below.trod laid S1 c6 h1 hb qV) h'⟩
 |[],_::_,_,_,_,_,hl,_,_|_::_,[],_,_,_,_,hl,_,_=>by simp at hl
end
end VM
end
section
namespace VM
open Go
variable{α:Type}
def sP(L:Nat→Option (List (Nat×CM)))(κ:Nat→St→Option α)(i:Option Nat)(f:St→Option α):St→Option α:=
 match i with
 |none=>f
 |some i=>match L i with
  |none=>f
  |some _=>κ i
def I5(E:Env)(κJ κL:Nat→St→Option α)(c:Code):St→(St→Option α)→(Nat→St→Option α)→(St→Option α)→Option α:=
 Code.rec (motive:=λ_=>St→(St→Option α)→(Nat→St→Option α)→(St→Option α)→Option α)
  (fun σ k _ _=>k σ)
  (λ_ ops draw σ k _ _=>vM E ops draw σ k)
  (λ_ b A B σ k kx kr=>A σ (fun σ'=>pk ((br b).bind E.qn) σ' (sP E.qn κJ (br b) fun σ''=>B σ'' k kx kr)) kx kr)
  (λc _ _ A B σ k kx kr=>zj E c σ (fun σ'=>A σ' k kx kr) (fun σ'=>B σ' k kx kr))
  (λid _ A σ k kx kr=>A σ k (λi σ'=>cond (Nat.beq i id) (k σ') (kx i σ')) kr)
  (λb _ σ _ kx kr=>pk ((br b).bind E.pc) σ (sP E.pc κL (br b) (uh ((br b).bind E.pc) (fun σ' kn=>vN E b σ' kn kx kr) E.N)))
  (λ_ _ _ _ _ _ _ _ _ _=>none)
  (λid σ _ kx _=>kx id σ)
  (λ_ A σ k kx kr=>A σ k kx kr)
  (λ_ σ k _ _=>k σ)
  (λ_ _ _ _ _=>none)
  (fun σ _ _ kr=>kr σ)
  (λ_ _ _ _ _=>none)
  c
def xB(E:Env)(c:Code):(St→Option α)→(Nat→St→Option α)→(St→Option α)→List (Bool×Nat×(St→Option α)):=
 Code.rec (motive:=λ_=>(St→Option α)→(Nat→St→Option α)→(St→Option α)→List (Bool×Nat×(St→Option α)))
  (λ_ _ _=>[])
  (λ_ _ _ _ _ _=>[])
  (λ_ b A B k kx kr=>A (fun σ'=>pk ((br b).bind E.qn) σ' fun σ''=>vN E b σ'' k kx kr) kx kr++(((br b).toList.map λi=>(false,i,fun σ''=>vN E b σ'' k kx kr))++B k kx kr))
  (λ_ _ _ A B k kx kr=>A k kx kr++B k kx kr)
  (λid _ A k kx kr=>A k (λi σ'=>cond (Nat.beq i id) (k σ') (kx i σ')) kr)
  (λb _ _ kx kr=>(br b).toList.map λi=>(true,i,uh ((br b).bind E.pc) (fun σ' kn=>vN E b σ' kn kx kr) E.N))
  (λ_ _ _ _ _ _ _ _ _=>[])
  (λ_ _ _ _=>[])
  (λ_ A k kx kr=>A k kx kr)
  (λ_ _ _ _=>[])
  (λ_ _ _ _=>[])
  (λ_ _ _=>[])
  (λ_ _ _ _=>[])
  c
def pE(E:Env)(κJ κL:Nat→St→Option α):List (Bool×Nat×(St→Option α))→List ((St→Option α)×(St→Option α))
 |[]=>[]
 |q::r=>match q.1 with
  |false=>match E.qn q.2.1 with
   |some _=>(κJ q.2.1,q.2.2)::pE E κJ κL r
   |none=>pE E κJ κL r
  |true=>match E.pc q.2.1 with
   |some _=>(κL q.2.1,q.2.2)::pE E κJ κL r
   |none=>pE E κJ κL r
def y6(E:Env)(κJ κL:Nat→St→Option α)(l:List (Bool×Nat×(St→Option α))):Prop:= ∀p∈pE E κJ κL l,p.1=p.2
theorem PE{E:Env}{κJ κL:Nat→St→Option α}{l:List (Bool×Nat×(St→Option α))}(g:List (St→Option α))(h:pE E κJ κL l=g.map λf=>(f,f)):y6 E κJ κL l:=by
 intro p hp
 rw[h]at hp
 obtain⟨f,_,rfl⟩:=cN.1 hp
 rfl
theorem uK{E:Env}{κJ κL:Nat→St→Option α}: ∀(l m:List (Bool×Nat×(St→Option α))),pE E κJ κL (l++m)=pE E κJ κL l++pE E κJ κL m
 |[],m=>rfl
 |(b,i,f)::l,m=>by
  have ih:=uK (E:=E) (κJ:=κJ) (κL:=κL) l m
  cases b<;>simp only[kN,pE]<;>split<;>simp[ih]
theorem y6.app{E:Env}{κJ κL:Nat→St→Option α}{l m:List (Bool×Nat×(St→Option α))}(h:y6 E κJ κL (l++m)):y6 E κJ κL l∧y6 E κJ κL m:=by
 unfold y6 at*
 rw[uK]at h
 exact⟨λp hp=>h p (bk _ hp),λp hp=>h p (bF _ hp)⟩
theorem NM{E:Env}{κJ κL:Nat→St→Option α}{i:Option Nat}{f:St→Option α}(h:y6 E κJ κL (i.toList.map λi=>(false,i,f))):sP E.qn κJ i f=f:=by
 cases i with
 |none=>rfl
 |some i=>
  simp only[Option.toList,List.map,y6,pE]at h
  unfold sP
  cases hL:E.qn i with
  |none=>simp[hL]
  |some L=>rw[hL]at h;simp only[hL];exact h (κJ i,f) (dK.2 rfl)
theorem TO{E:Env}{κJ κL:Nat→St→Option α}{i:Option Nat}{f:St→Option α}(h:y6 E κJ κL (i.toList.map λi=>(true,i,f))):sP E.pc κL i f=f:=by
 cases i with
 |none=>rfl
 |some i=>
  simp only[Option.toList,List.map,y6,pE]at h
  unfold sP
  cases hL:E.pc i with
  |none=>simp[hL]
  |some L=>rw[hL]at h;simp only[hL];exact h (κL i,f) (dK.2 rfl)
theorem I6{E:Env}{κJ κL:Nat→St→Option α}(c:Code): ∀(k:St→Option α) (kx:Nat→St→Option α) (kr:St→Option α) (σ:St),y6 E κJ κL (xB E c k kx kr)→I5 E κJ κL c σ k kx kr=vN E c σ k kx kr:=by
 induction c with
 |skip=>intros;rfl
 |region=>intros;rfl
 |seq a b PB HV=>
  intro k kx kr σ h
  obtain⟨h1,h2⟩:=y6.app (h:y6 E κJ κL (xB E a _ kx kr++(((br b).toList.map λi=>(false,i,fun σ''=>vN E b σ'' k kx kr))++xB E b k kx kr)))
  obtain⟨h2,h3⟩:=y6.app h2
  show I5 E κJ κL a σ (fun σ'=>pk ((br b).bind E.qn) σ' (sP E.qn κJ (br b) fun σ''=>I5 E κJ κL b σ'' k kx kr)) kx kr=vN E a σ (fun σ'=>pk ((br b).bind E.qn) σ' fun σ''=>vN E b σ'' k kx kr) kx kr
  have hb:(fun σ''=>I5 E κJ κL b σ'' k kx kr)=fun σ''=>vN E b σ'' k kx kr:=funext fun σ''=>HV k kx kr σ'' h3
  rw[hb,NM h2]
  exact PB _ _ _ _ h1
 |cond x a b PB HV=>
  intro k kx kr σ h
  obtain⟨h1,h2⟩:=y6.app (h:y6 E κJ κL (xB E a k kx kr++xB E b k kx kr))
  show zj E x σ (fun σ'=>I5 E κJ κL a σ' k kx kr) (fun σ'=>I5 E κJ κL b σ' k kx kr)=zj E x σ (fun σ'=>vN E a σ' k kx kr) (fun σ'=>vN E b σ' k kx kr)
  rw[show(fun σ'=>I5 E κJ κL a σ' k kx kr)=fun σ'=>vN E a σ' k kx kr from funext fun σ'=>PB k kx kr σ' h1,show(fun σ'=>I5 E κJ κL b σ' k kx kr)=fun σ'=>vN E b σ' k kx kr from funext fun σ'=>HV k kx kr σ' h2]
 |block id x ih=>intro k kx kr σ h;exact ih _ _ _ σ h
 |loop b _=>
  intro k kx kr σ h
  show pk ((br b).bind E.pc) σ (sP E.pc κL (br b) (uh ((br b).bind E.pc) (fun σ' kn=>vN E b σ' kn kx kr) E.N))=pk ((br b).bind E.pc) σ (uh ((br b).bind E.pc) (fun σ' kn=>vN E b σ' kn kx kr) E.N)
  rw[TO (h:y6 E κJ κL ((br b).toList.map λi=>(true,i,_)))]
 |rangeFunc=>intros;rfl
 |exit=>intros;rfl
 |scope x ih=>intro k kx kr σ h;exact ih _ _ _ σ h
 |label=>intros;rfl
 |goto=>intros;rfl
 |ret=>intros;rfl
 |refuse=>intros;rfl
def iQ(E:Env)(κJ κL:Nat→St→Option α):List Nat→Code→List (St→Option α)→St→(St→Option α)→(Nat→St→Option α)→(St→Option α)→Option α
 |[],c,_,σ,k,kx,kr=>I5 E κJ κL c σ k kx kr
 |n::p,c,ks,σ,k,kx,kr=>match c with
  | .seq a b=>match n with
   |0=>iQ E κJ κL p a ks σ (fun σ'=>pk ((br b).bind E.qn) σ' (sP E.qn κJ (br b) fun σ''=>I5 E κJ κL b σ'' k kx kr)) kx kr
   |_=>iQ E κJ κL p b ks σ k kx kr
  | .cond _ a b=>match n with
   |0=>iQ E κJ κL p a ks σ k kx kr
   |_=>iQ E κJ κL p b ks σ k kx kr
  | .block id c=>iQ E κJ κL p c ks σ k (λi σ'=>cond (Nat.beq i id) (k σ') (kx i σ')) kr
  | .loop b=>match ks with
   |κ::ks=>iQ E κJ κL p b ks σ κ kx kr
   |[]=>none
  | .scope c=>iQ E κJ κL p c ks σ k kx kr
  |_=>none
def dM(E:Env):List Nat→Code→List (St→Option α)→(St→Option α)→(Nat→St→Option α)→(St→Option α)→List (Bool×Nat×(St→Option α))
 |[],c,_,k,kx,kr=>xB E c k kx kr
 |n::p,c,ks,k,kx,kr=>match c with
  | .seq a b=>match n with
   |0=>((br b).toList.map λi=>(false,i,fun σ''=>vN E b σ'' k kx kr))++(xB E b k kx kr++dM E p a ks (fun σ'=>pk ((br b).bind E.qn) σ' fun σ''=>vN E b σ'' k kx kr) kx kr)
   |_=>dM E p b ks k kx kr
  | .cond _ a b=>match n with
   |0=>dM E p a ks k kx kr
   |_=>dM E p b ks k kx kr
  | .block id c=>dM E p c ks k (λi σ'=>cond (Nat.beq i id) (k σ') (kx i σ')) kr
  | .loop b=>match ks with
   |κ::ks=>dM E p b ks κ kx kr
   |[]=>[]
  | .scope c=>dM E p c ks k kx kr
  |_=>[]
theorem iC{E:Env}{κJ κL:Nat→St→Option α}: ∀(p:List Nat) (c:Code) (ks:List (St→Option α)) (k:St→Option α) (kx:Nat→St→Option α) (kr:St→Option α) (σ:St),y6 E κJ κL (dM E p c ks k kx kr)→
  iQ E κJ κL p c ks σ k kx kr=oN E p c ks σ k kx kr
 |[],c,ks,k,kx,kr,σ,h=>I6 c k kx kr σ h
 |n::p,c,ks,k,kx,kr,σ,h=>by
  cases c with
  |seq a b=>
   cases n with
   |zero=>
    simp only[iQ,oN,dM]at h ⊢
    obtain⟨h1,h2⟩:=y6.app h
    obtain⟨h2,h3⟩:=y6.app h2
    rw[show(fun σ''=>I5 E κJ κL b σ'' k kx kr)=fun σ''=>vN E b σ'' k kx kr from funext fun σ''=>I6 b k kx kr σ'' h2,NM h1]
    exact iC p a ks _ kx kr σ h3
   |succ n=>simp only[iQ,oN,dM]at h ⊢;exact iC p b ks k kx kr σ h
  |cond x a b=>
   cases n with
   |zero=>simp only[iQ,oN,dM]at h ⊢;exact iC p a ks k kx kr σ h
   |succ n=>simp only[iQ,oN,dM]at h ⊢;exact iC p b ks k kx kr σ h
  |block id x=>simp only[iQ,oN,dM]at h ⊢;exact iC p x ks k _ kr σ h
  |loop b=>
   cases ks with
   |nil=>simp only[iQ,oN]
   |cons κ ks=>simp only[iQ,oN,dM]at h ⊢;exact iC p b ks κ kx kr σ h
  |scope x=>simp only[iQ,oN,dM]at h ⊢;exact iC p x ks k kx kr σ h
  |_=>simp only[iQ,oN]
def xC(fn:Func):Code:=fn.body.getD .skip
def Co(E:Env)(fn:Func)(args res:List AM):St→Option (HP res):=fun σ=>z5 E res (fn.results.toList.map .inl++qq args 0) σ some
def Wx:Nat→St→Option α:=λ_ _=>none
def acL:St→Option α:=λ_=>none
def PF(E:Env)(fn:Func)(args res:List AM)(p:List Nat)(ks:List (St→Option (HP res)))(σ:St):Option (HP res):=
 oN E p (xC fn) ks σ (Co E fn args res) Wx (Co E fn args res)
def Wy(E:Env)(fn:Func)(args res:List AM)(κJ κL:Nat→St→Option (HP res))(p:List Nat)(ks:List (St→Option (HP res)))(σ:St):Option (HP res):=
 iQ E κJ κL p (xC fn) ks σ (Co E fn args res) Wx (Co E fn args res)
def Lx(E:Env)(fn:Func)(args res:List AM)(p:List Nat)(ks:List (St→Option (HP res))):List (Bool×Nat×(St→Option (HP res))):=
 dM E p (xC fn) ks (Co E fn args res) Wx (Co E fn args res)
theorem XZ{E:Env}{fn:Func}{args res:List AM}{κJ κL:Nat→St→Option (HP res)}{p:List Nat}{ks:List (St→Option (HP res))}(g:List (St→Option (HP res)))(h:pE E κJ κL (Lx E fn args res p ks)=g.map λf=>(f,f))(σ:St):
 PF E fn args res p ks σ=Wy E fn args res κJ κL p ks σ:=(iC p _ ks _ _ _ σ (PE g h)).symm
theorem PG{E:Env}{fn:Func}{args res:List AM}(hb:fn.body.isSome=true)(x:HP args):zl E fn args res x=PF E fn args res [] [] (entry args x 0 S0):=by
 unfold zl PF xC
 cases h:fn.body with
 |none=>rw[h]at hb;cases hb
 |some c=>rfl
def X0(E:Env)(fn:Func)(args res:List AM)(c:List (Nat×CM))(p:List Nat)(ks:List (St→Option (HP res)))(n:Nat):St→Option (HP res):=
 uh (some c) (fun σ kn=>PF E fn args res p (ks++[kn]) σ) n
theorem I7(E:Env)(fn:Func)(args res:List AM)(c:List (Nat×CM))(p:List Nat)(ks:List (St→Option (HP res)))(n:Nat)(σ:St):
 X0 E fn args res c p ks (n+1) σ=PF E fn args res p (ks++[fun σ'=>pk (some c) σ' (X0 E fn args res c p ks n)]) σ:=rfl
def I8{β:Type}(κ:Nat→β):List (Nat×β)→Prop
 |[]=>True
 |q::r=>κ q.1=q.2∧I8 κ r
def GI{β:Type}:List (β×β)→Prop
 |[]=>True
 |q::r=>q.1=q.2∧GI r
theorem GI.mem{β:Type}: ∀{l:List (β×β)},GI l→ ∀p∈l,p.1=p.2
 |q::r,h,p,hp=>by
  rcases bu.1 hp with rfl|hp
  ·exact h.1
  ·exact GI.mem h.2 p hp
theorem TP{β:Type}(d:β): ∀(l:List (Nat×β)),(l.map (·.1)).Nodup→ ∃κ:Nat→β,I8 κ l
 |[],_=>⟨λ_=>d,trivial⟩
 |q::r,h=>by
  rw[bQ,rV]at h
  obtain⟨κ,hκ⟩:=TP d r h.2
  refine⟨λi=>if i=q.1 then q.2 else κ i,by simp,?_⟩
  have key: ∀(r':List (Nat×β)),(∀p∈r',p∈r)→I8 κ r'→I8 (λi=>if i=q.1 then q.2 else κ i) r':=by
   intro r'
   induction r' with
   |nil=>intros;trivial
   |cons p r' ih=>
    intro hm ha
    refine⟨?_,ih (λp' yF=>hm p' (aR _ yF)) ha.2⟩
    have eX:p.1≠q.1:=λe=>h.1 (e▸mb (hm p (bl ..)))
    show(if p.1=q.1 then q.2 else κ p.1)=p.2
    rw[af eX]
    exact ha.1
  exact key r (λ_ h=>h) hκ
theorem aay{β:Type}(d:β)(l:List (Nat×β)){ks:List Nat}(h:l.map (·.1)=ks)(hd:ks.Nodup): ∃κ:Nat→β,I8 κ l:=TP d l (h▸hd)
theorem at_eq(E:Env)(fn:Func)(args res:List AM){κJ κL:Nat→St→Option (HP res)}{p:List Nat}{ks:List (St→Option (HP res))}{l:List ((St→Option (HP res))×(St→Option (HP res)))}(h:pE E κJ κL (Lx E fn args res p ks)=l)(hl:GI l)(σ:St):
 PF E fn args res p ks σ=Wy E fn args res κJ κL p ks σ:=(iC p _ ks _ _ _ σ (by unfold y6;rw[show pE E κJ κL (dM E p (xC fn) ks (Co E fn args res) Wx (Co E fn args res))=l from h];exact hl.mem)).symm
end VM
end
section
namespace VM
open Go Go.RowKit
variable{P:Program}
def Cp(i:Nat):List (Nat×Ty)→Option Ty
 |[]=>none
 |q::r=>cond (Nat.beq i q.1) (some q.2) (Cp i r)
theorem zD{i:Nat}{τ:Ty}: ∀{l:List (Nat×Ty)},Cp i l=some τ→(i,τ)∈l
 |q::r,h=>by
  unfold Cp at h
  cases hb:Nat.beq i q.1<;>rw[hb]at h
  ·exact aR _ (zD h)
  ·cases h;rw[cJ hb];exact bl ..
structure xD(P:Program)(tab:List (Nat×Ty)):Prop where
 ok:TK P tab=true
 mixed:P.follows .mixedOrders=true
theorem GJ{E:Env}(hE:jF P E)(PH:E.io=[]){f:FuncId}{fn:Func}(hf:P.funcs[f]? =some fn)(τs:List Ty)
  (hc:(Nat.beq E.nt fn.ntmps&&Nat.ble τs.length E.nt)=true) {w:World} {vs:List Value} {x:HP (τs.map .v)} (hA:eA w (λ_=>False) (τs.map .v) x vs)
  (h:zl E fn (τs.map .v) [.v .bool] x=some true):Calls P f vs.toArray w λe w'=>e= .returned (.bool true)∧Below w.heap.size w w':=by
 rw[bg]at hc
 have Lu:=cJ hc.1
 have hlen:=rM hc.2
 have hh: ∀(τs:List Ty) (vs:List Value),bY (τs.map .v) vs=[]:=by
  intro τs
  induction τs with
  |nil=>intro vs;cases vs<;>rfl
  |cons τ τs ih=>intro vs;cases vs with
   |nil=>rfl
   |cons v vs=>simp[bY,bH,ih]
 have hi: ∀(τs:List Ty) (vs:List Value),c3 (τs.map .v) vs=[]:=by
  intro τs
  induction τs with
  |nil=>intro vs;cases vs<;>rfl
  |cons τ τs ih=>intro vs;cases vs with
   |nil=>rfl
   |cons v vs=>simp[c3,AM.dY,ih]
 refine(tH (M0:=λ_=>False) (vs:=vs) hE hf Lu (λi m hm ni=> ?_) (λi hi=>by rw[PH]at hi;cases hi) (by rw[iq];rw[←Lu];exact hlen) (λb hb=>hb.elim) (by rw[hh];simpa using hA) (by rw[hh];exact wN) (λb _ hb=>hb) h).mono ?_
 ·rw[rS]at hm
  obtain⟨τ,_,rfl⟩:=rJ.1 hm
  cases ni
 ·rintro e w' ⟨v,rfl,us,M',rfl,B5,hL,_,_⟩
  rw[hh]at hL
  rw[hi]at B5
  simp only[RR]at B5
  rcases B5 with⟨p,vU,h1,_⟩|⟨v,Bd,_,_,rfl,hv,rfl,_⟩
  ·cases h1
  ·refine⟨?_,hL.os,hL.tape,hL.output,hL.size,λb hb=>hL.frame b hb (by simp)⟩
   have:v= .bool true:=by
    simp only[A1,V,Ty.isAgg,dJ,cU,Rd,cM,cT]at hv
    exact hv
   rw[this];rfl
def I9(P:Program):List Ty→List TypeId→Bool
 |[],[]=>true
 |τ::τs,t::ts=>(nk P τ (.inl t)&&τ.ln)&&((P.readableRec t&&decide (t<P.types.size))&&I9 P τs ts)
 |_,_=>false
theorem Au: ∀{τs:List Ty} {ts:List TypeId},I9 P τs ts=true→τs.length=ts.length∧ ∀(j:Nat) τ t,τs[j]? =some τ→ts[j]? =some t→(fe P τ t∧τ.ln=true∧P.readableRec t=true∧t<P.types.size)
 |[],[],_=>⟨rfl,λj τ t h=>by simp at h⟩
 |τ::τs,t::ts,h=>by
  simp only[I9,bg]at h
  obtain⟨⟨h1,h2⟩,⟨h3,h4⟩,h5⟩:=h
  obtain⟨hl,ih⟩:=Au h5
  refine⟨by simp[hl],λj τ' t' ha hb=> ?_⟩
  cases j with
  |zero=>
   simp only[wy,cK]at ha hb
   subst ha;subst hb
   exact⟨iB h1,h2,h3,bO h4⟩
  |succ j=>exact ih j τ' t' (by simpa using ha) (by simpa using hb)
 |[],_::_,h|_::_,[],h=>by simp[I9]at h
theorem Ja{H:Type}{enc:TypeId×Value→H}{w:World}{fn:Func}{args:Array Value}{ds:List (DataW H)}{ps:List MemPlace}{r:Reach}{b0:Nat}(laid:laidOutB P=true)(τs:List Ty)
  (hA:DataW.TrodAll enc P w 0 (λ_=>true) true fn.params.toList args.toList ds ps) (pY:I9 P τs fn.params.toList=true)
  (hv: ∀(j:Nat) t v,fn.params[j]? =some t→args[j]? =some v→Value.okWide P w r b0 t v):
  (∃x:HP (τs.map .v),eA w (λ_=>False) (τs.map .v) x args.toList∧TN τs x)∧ ∀w',Below w.heap.size w w'→ ∃vU,DataW.TrodAll enc P w' 0 (λb=>decide (b<w.heap.size)) true fn.params.toList args.toList ds vU:=
 zC laid hA (Au pY).1 (Au pY).2 (λj t v h h'=>hv j t v (by rw[dm]at h;exact h) (by rw[dm]at h';exact h'))
end VM
end
