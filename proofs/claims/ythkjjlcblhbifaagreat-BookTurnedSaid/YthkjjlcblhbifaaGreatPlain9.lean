/- A part of the proof of BookTurned of layer 18: what the functions compute, in plain words. -/
import Derived.Test.YthkjjlcblhbifaaGreatPlain8
import Derived.Test.YthkjjlcblhbifaaGreatPlain7
set_option linter.all false
section
namespace VM
open Go VM.F
variable(N:Nat)
theorem IV{l s:aY}(h:dn l=true)(hs:s.Sublist l):dn s=true:=by
 obtain⟨h1,h2,h3⟩:=lA.1 h
 exact lA.2 ⟨λx hx=>h1 x (hs.subset hx),h2.sublist hs,ck hs.length_le h3⟩
theorem IW{α:Type}{l s:List α}{d:α}{i:Nat}(hi:i<l.length)(h:s.Sublist (l.take i)):s.Sublist (l.take (i+1))∧(s++[l.getD i d]).Sublist (l.take (i+1)):=by
 have e2:l.take (i+1)=l.take i++[l[i]]:=(tx hi).symm
 rw[e2,jl hi]
 exact⟨h.trans (List.sublist_append_left ..),h.append (List.Sublist.refl _)⟩
theorem XB(hN:200000≤N){l:aY}(hl:l.length≤50000)(a id:Int):Ok (λr=>r.2=0→dn r.1=true∧ ∀x∈r.1,x∈l) (oM N l a id):=by
 have bad: ∀e:Int,e≠0→Ok (λr:aY×Int=>r.2=0→dn r.1=true∧ ∀x∈r.1,x∈l) (some ([],e)):=λe h=>aq λh'=>absurd h' h
 unfold oM oM.b
 refine bV (ij N ω hN) (bI (λ_=>bad _ δ) λhO=>bt (len:=l.length) (F:=λn i s=>oM.l5 N n l a id s i) (λi s=>s.Sublist (l.take i)) (Gv _) ω (λn i s hi hI hr=> ?_) (λn s hI=> ?_))
 all_goals have hs:=hI.length_le
 all_goals rw[cj]at hs
 all_goals unfold oM.l5 oM.dV
 ·rw[aw (x:=(i:Int)+1) ω ω,af i]
  obtain⟨q1,q2⟩:=IW (d:=dT) hi hI
  have h1:=hr s q1
  have h2:=hr _ q2
  repeat' first|exact h1|exact h2|refine aC (by rw[aJ];omega) ?_|refine aB ⟨ω,ω⟩ ?_|refine ax (λ_=> ?_) (λ_=> ?_)|refine bM (λ_=> ?_) (λ_=> ?_)|(exfalso;omega)
 ·rw[ir]at hI
  exact ax (λ_=>ω) λ_=>ok_eq (λ_=>bad _ δ) λ_=>aq λ_=>⟨IV hO hI,λx hx=>hI.subset hx⟩
theorem aa1(hN:200000≤N){l:aY}{a:List Int}{m:Nat}(hm:m≤50000)(hl:l.length≤m)(ha:a.length≤m):Ok (λr=>dn l=true→r.Sublist l) (eV N l a):=by
 unfold eV eV.b
 refine bV (ij N ω hN) (bI (λh=>aq λh'=>by rw[h]at h';exact nomatch h') λ_=>bt (len:=l.length) (F:=λn i s=>eV.l5 N n l a s i) (λi s=>s.Sublist (l.take i)) (Gv _) ω (λn i s hi hI hr=> ?_) (λn s hI=> ?_))
 all_goals have hs:=hI.length_le
 all_goals rw[cj]at hs
 all_goals unfold eV.l5 eV.dV
 ·obtain⟨q1,q2⟩:=IW (d:=dT) hi hI
  refine ax (λ_=> ?_) λ_=>ω
  refine bt (len:=a.length) (F:=λn' j b=>eV.l9 N (eV.l5 N n) n' l a s (i:Int) b j) (λ_ _=>True) trivial ω (λn' j b hj _ ed=> ?_) (λn' b _=> ?_)
  all_goals unfold eV.l9 eV.uX
  ·rw[aw (x:=(j:Int)+1) ω ω,af j]
   exact ax (λ_=>qc (λ_=>ed _ trivial) λ_=>aB ⟨ω,ω⟩ (aB ⟨ω,ω⟩ (ed _ trivial))) λ_=>ω
  ·rw[aw (x:=(i:Int)+1) ω ω,af i]
   exact ax (λ_=>ω) λ_=>bI (λ_=>aB ⟨ω,ω⟩ (aC (by rw[aJ];omega) (hr _ q2))) λ_=>hr s q1
 ·rw[ir]at hI
  exact ax (λ_=>ω) λ_=>aq λ_=>hI
theorem QG(hN:5000000≤N){c:ae}{b:an}{m:Nat}(hm:m≤50000)(hb:G m aK b)(hR:RB c b)(id:Int)(bl:ka b.1 id):Ok (λr=>RB c r.1) (X0 N c b id):=by
 have w7:gd b.1 id≠0:=(wB hR.m id).2 bl
 unfold X0
 refine bV (eo N hN hm hb) (bI (λh=>by rw[qI.2 hR]at h;exact nomatch h) λ_=>bV (pg N (ck hb.1.1 ω) ω _) (ok_eq (λh=>absurd h w7) λ_=>ah (P9 N ω hm hb.2.1 _) λa ha=>ah (aa1 N ω hm hb.2.2.2.2.2.1.1 ha) λr hr=>aq ?_))
 have hs:=hr hR.o
 exact hR.Na (IV hR.o hs) λx hx=>hR.ok x (hs.subset hx)
theorem ad9(hN:200000≤N){l:aY}(hl:l.length≤50000)(a d:Int):Ok (λr=>r.length≤l.length∧ ∀x∈r,x∈l) (eu N l a d):=by
 unfold eu eu.b
 refine bV (ij N ω hN) (bI (λ_=>aq ⟨bs _,λx hx=>nomatch hx⟩) λ_=>bt (len:=l.length) (F:=λn i s=>eu.l5 N n l a d s i) (λi s=>s.length≤i∧ ∀x∈s,x∈l) ⟨aH 0,λx hx=>nomatch hx⟩ ω (λn i s hi hI hr=> ?_) (λn s hI=> ?_))
 all_goals unfold eu.l5 eu.dV
 ·obtain⟨hs,Ub⟩:=hI
  have hx:l.getD (i:Int).toNat dT∈l:=qH hi
  have fin: ∀k:Nat,k≤s.length→Ok (λr=>r.length≤l.length∧ ∀x∈r,x∈l) (eu.Lg N (eu.l5 N n) l a d s (i:Int) (k:Int)):=λk hk=>by
   unfold eu.Lg eu.Du
   rw[aw (x:=(i:Int)+1) ω ω,af i]
   dsimp only
   have t: ∀a b:Nat,(List.drop a (List.take b s)).length≤s.length:=λa b=>by rw[ec,cj];omega
   have t1:=t (0:Int).toNat (k:Int).toNat
   have t2:=t (k:Int).toNat (s.length:Int).toNat
   refine Ak ⟨ω,ω,ω,ω⟩ (aC ω (aB ⟨ω,ω⟩ (aC (by rw[aJ];omega) (Ak ⟨ω,ω,ω,ω⟩ (aC (by rw[aS,aJ];omega) (hr _ ⟨?_,λy hy=> ?_⟩))))))
   ·simp only[cD,aS,ec,cj,aJ,aG,dO];omega
   ·rcases bn.1 hy with hy|hy
    ·rcases bn.1 hy with hy|hy
     ·exact Ub y (lI (mV hy))
     ·rw[cy.1 hy];exact hx
    ·exact Ub y (lI (mV hy))
  have h1:=hr s ⟨ω,Ub⟩
  have hw:Ok (λr=>r.length≤l.length∧ ∀x∈r,x∈l) (eu.l9 N (eu.l5 N n) N l a d s (i:Int) 0):=by
   refine m8 (len:=s.length) (F:=λn' j=>eu.l9 N (eu.l5 N n) n' l a d s (i:Int) j) ω (λn' j hj ed=> ?_) (λn'=> ?_)
   all_goals unfold eu.l9 eu.uX
   ·rw[aw (x:=(j:Int)+1) ω ω,af j]
    have hah: ∀x y:gb,Ok (λ_=>True) (W9 N x y):=λx y=>by unfold W9;exact bM (λ_=>fO) λ_=>fO
    exact ax (λ_=>aB ⟨ω,ω⟩ (aB ⟨ω,ω⟩ (ah (hah _ _) λ_ _=>qc (λ_=>ed) λ_=>fin j ω))) λ_=>ω
   ·exact ax (λ_=>ω) λ_=>fin _ (aH _)
  rw[aw (x:=(i:Int)+1) ω ω,af i]
  repeat' first|exact h1|exact hw|refine aB ⟨ω,ω⟩ ?_|refine ax (λ_=> ?_) (λ_=> ?_)|refine bM (λ_=> ?_) (λ_=> ?_)|(exfalso;omega)
 ·exact ax (λ_=>ω) λ_=>aq hI
def alJ(x:gb)(q:Int):gb:=(x.1,(x.2.1,(x.2.2.1,(x.2.2.2.1,(q,x.2.2.2.2.2)))))
def leftOf(l:aY)(n:Int)(k:Nat)(x:gb):Prop:= ∃q:Int,x=alJ (l.getD k dT) q∧n≤q∧q≤1000000000
theorem leftOf.mono{l:aY}{n n':Int}(h:n'≤n){k:Nat}{x:gb}(hx:leftOf l n k x):leftOf l n' k x:=by
 obtain⟨q,e,h1,h2⟩:=hx
 exact⟨q,e,fH h h1,h2⟩
abbrev Vl(l:aY)(o:gb)(r:aY×bE×Int×Int):Prop:=dn r.1=true∧(∀x∈r.1,∃y∈l,x.1=y.1∧x.2.1=y.2.1∧x.2.2.1=y.2.2.1)∧r.2.2.1≤o.2.2.2.2.1
theorem aea{l s:aY}{n:Int}(hs:s.length=l.length)(h: ∀k,k<l.length→leftOf l n k (s.getD k dT))(hp:l.Pairwise Ln):s.Pairwise Ln:=by
 rw[vr]at hp ⊢
 intro i j hi hj qw
 have g: ∀k (hk:k<s.length),s[k].1=(l[k]' ω).1:=λk hk=>by
  obtain⟨q,e,_⟩:=h k ω
  rw[jl hk,jl (show k<l.length by omega)]at e
  rw[e];rfl
 unfold Ln
 rw[g i hi,g j hj]
 exact hp i j ω ω qw
theorem aa2(hN:200000≤N){l:aY}{o:gb}(hl:l.length≤50000)(hO:dn l=true)(ho:qU o):Ok (Vl l o) (cE N l o):=by
 unfold cE cE.b
 refine bV (ij N ω hN) (bI (λh=>by rw[hO]at h;exact nomatch h) λ_=>bV (BS N o) (bI (λh=>absurd ho (of_decide_eq_false h)) λ_=>aC (by rw[bZ];omega) (ah (ad9 N hN hl _ _) λw ⟨hwl,hwm⟩=> ?_)))
 obtain⟨h1,h2,h3⟩:=lA.1 hO
 rw[cD]
 have fin: ∀(n:Int) (s:aY) (q:Int) (t:bE),s.length=l.length→(∀k,k<l.length→leftOf l n k (s.getD k dT))→q≤o.2.2.2.2.1→Ok (Vl l o) (cE.j22 N s q t):=λn s q t hs L0 hq=>by
  unfold cE.j22 cE.adJ
  refine bt (len:=s.length) (F:=λn i u=>cE.NI N n s q t u i) (λi u=>u.Sublist (s.take i)∧ ∀x∈u,lG 0 x.2.2.2.2.1) ⟨Gv _,λx hx=>nomatch hx⟩ ω (λn i u hi hI hr=> ?_) (λn u hI=> ?_)
  all_goals obtain⟨i1,i2⟩:=hI
  all_goals have Js:=i1.length_le
  all_goals rw[cj]at Js
  all_goals unfold cE.NI cE.Qb
  ·rw[aw (x:=(i:Int)+1) ω ω,af i,aG]
   obtain⟨q1,q2⟩:=IW (d:=dT) hi i1
   exact ax (λ_=>aB ⟨ω,ω⟩ (ax (λhq=>aB ⟨ω,ω⟩ (aC (by rw[aJ];omega) (hr _ ⟨q2,λx hx=>by
    rcases bn.1 hx with hx|hx
    ·exact i2 x hx
    ·rw[cy.1 hx];exact hq⟩))) λ_=>hr u ⟨q1,i2⟩)) λ_=>ω
  ·rw[ir]at i1
   have at': ∀x∈s,∃y∈l,∃q:Int,x=alJ y q∧q≤1000000000:=λx hx=>by
    obtain⟨k,hk,e⟩:=gL hx
    obtain⟨q,e',_,h⟩:=L0 k ω
    rw[jl hk,e]at e'
    exact⟨_,qH (d:=dT) (show k<l.length by omega),q,e',h⟩
   refine ax (λ_=>ω) λ_=>aq ⟨lA.2 ⟨λx hx=> ?_,(aea hs L0 h2).sublist i1,by have:=i1.length_le;dsimp only at*;omega⟩,λx hx=> ?_,hq⟩
   ·obtain⟨y,hy,q,e,hq⟩:=at' x (i1.subset hx)
    have h0:=i2 x hx
    have ok:=h1 y hy
    subst e
    exact⟨ok.1,ok.2.1,ok.2.2.1,ok.2.2.2.1,⟨show(1:Int)≤q from h0,hq⟩,ok.2.2.2.2.2⟩
   ·obtain⟨y,hy,q,e,_⟩:=at' x (i1.subset hx)
    exact⟨y,hy,by rw[e];rfl,by rw[e];rfl,by rw[e];rfl⟩
 refine bt (len:=w.length) (F:=λn i (s:aY×Int×bE)=>cE.l7 N n o s.1 s.2.1 s.2.2 w i) (s:=(_,(_,_))) (λi s=>(s.1.length=l.length∧ ∀k,k<l.length→leftOf l (-1000000000*(i:Int)) k (s.1.getD k dT))∧(0≤s.2.1∧s.2.1≤o.2.2.2.2.1)∧s.2.2.length≤i) ⟨⟨rfl,λk hk=>⟨(l.getD k dT).2.2.2.2.1,rfl,?_,?_⟩⟩,⟨?_,fY _⟩,bs _⟩ ω (λn i s hi hI hr=> ?_) (λn s hI=> ?_)
 ·have:=(h1 _ (qH (d:=dT) hk)).2.2.2.2.1.1
  exact fH δ this
 ·exact(h1 _ (qH (d:=dT) hk)).2.2.2.2.1.2
 ·exact fH δ ho.2.2.2.2.1.1
 all_goals unfold cE.l7 cE.nR
 ·obtain⟨⟨hs,L0⟩,hq,ht⟩:=hI
  have hoq:o.2.2.2.2.1≤1000000000:=ho.2.2.2.2.1.2
  have f1:=fin _ s.1 s.2.1 s.2.2 hs L0 hq.2
  have hx:=h1 _ (hwm _ (qH (d:=dT) hi))
  have alw: ∀(v:Int) (t:kQ),0≤v→v≤s.2.1→v≤1000000000→Ok (Vl l o) (cE.Dt N (cE.l7 N n) o s.1 s.2.1 s.2.2 w (i:Int) v t):=λv t v0 v1 v2=>by
   unfold cE.Dt cE.w3
   have Wd:s.2.1≤1000000000:=fH hq.2 hoq
   rw[aw (x:=s.2.1-v) ω ω]
   refine aC (by rw[aJ];omega) (bt (len:=s.1.length) (F:=λn' j u=>cE.Jr N (cE.l7 N n) n' o u (s.2.1-v) (s.2.2++[t]) w (i:Int) v j) (λj u=>u.length=l.length∧ ∀k,k<l.length→leftOf l (if k<j then-1000000000*((i:Int)+1)else-1000000000*(i:Int)) k (u.getD k dT)) ⟨hs,λk hk=>by rw[ag ω];exact L0 k hk⟩ ω (λn' j u hj hJ ed=> ?_) (λn' u hJ=> ?_))
   all_goals obtain⟨Js,hum⟩:=hJ
   all_goals unfold cE.Jr cE.Fm
   ·rw[aw (x:=(j:Int)+1) ω ω,af j,aG,aG]
    have same: ∀k,k<l.length→k≠j→leftOf l (if k<j+1 then-1000000000*((i:Int)+1)else-1000000000*(i:Int)) k (u.getD k dT):=λk hk e=>by
     have:=hum k hk
     by_cases h:k<j
     ·rw[ak h]at this;rw[ak ω];exact this
     ·rw[ag h]at this;rw[ag ω];exact this
    have h0:=hum j ω
    rw[ag ω]at h0
    refine ax (λ_=>aB ⟨ω,ω⟩ (aB ⟨ω,ω⟩ (ok_eq (λ_=>aB ⟨ω,ω⟩ (aB ⟨ω,ω⟩ (ed _ ⟨by rw[bU];exact Js,λk hk=> ?_⟩))) λ_=>ed u ⟨Js,λk hk=> ?_⟩))) λ_=>ω
    ·by_cases e:k=j
     ·subst e
      rw[ak ω]
      obtain⟨q,e,q1,q2⟩:=h0
      have es: ∀y:gb,(u.set k y).getD k dT=y:=λy=>by
       rw[aW,N1 ω];rfl
      rw[es,e]
      unfold alJ
      dsimp only
      rw[aw (x:=q-v) ω ω]
      exact⟨q-v,rfl,ω,ω⟩
     ·have es: ∀y:gb,(u.set j y).getD k dT=u.getD k dT:=λy=>by
       rw[aW,aW,List.getElem?_set_ne ω]
      rw[es];exact same k hk e
    ·by_cases e:k=j
     ·subst e
      rw[ak ω]
      exact h0.mono ω
     ·exact same k hk e
   ·rw[aw (x:=(i:Int)+1) ω ω,af i]
    exact ax (λ_=>ω) λ_=>hr (_,(_,_)) ⟨⟨Js,λk hk=>by
     have:=hum k hk
     rw[ak ω]at this
     rw[Int.natCast_add];exact this⟩,⟨by dsimp only;omega,by dsimp only;omega⟩,by dsimp only;rw[List.length_append,List.length_singleton];omega⟩
  have Ff:0<s.2.1→Ok (Vl l o) (cE.JW N (cE.l7 N n) o s.1 s.2.1 s.2.2 w (i:Int)):=λOy=>by
   unfold cE.JW cE.Df
   rw[aw (x:=(i:Int)+1) ω ω,af i,aG]
   dsimp only
   have h1:=hr s ⟨⟨hs,λk hk=>(L0 k hk).mono ω⟩,hq,ω⟩
   have Wd:s.2.1≤1000000000:=fH hq.2 hoq
   have hm:0≤mn s.2.1 (w.getD i dT).2.2.2.2.1∧mn s.2.1 (w.getD i dT).2.2.2.2.1≤s.2.1:=by
    have h1:=hx.2.2.2.2.1.1
    generalize (w.getD i dT).2.2.2.2.1=q at*
    rw[Yc];split<;>omega
   repeat' first|exact h1|exact alw _ _ hm.1 hm.2 (fH hm.2 Wd)|refine aB ⟨ω,ω⟩ ?_|refine ok_eq (λ_=> ?_) (λ_=> ?_)
  repeat' first|exact f1|exact Ff (by assumption)|refine aB ⟨ω,ω⟩ ?_|refine ax (λ_=> ?_) (λ_=> ?_)|refine ok_eq (λ_=> ?_) (λ_=> ?_)|(exfalso;omega)
 ·obtain⟨⟨hs,L0⟩,hq,ht⟩:=hI
  exact ax (λ_=>ω) λ_=>fin _ _ _ _ hs L0 hq.2
theorem aa3(hN:5000000≤N){c:ae}{b:an}{o:gb}{m:Nat}(h2:200≤m)(hm:m≤40000)(hc:G m aA c)(hb:G m aK b)(hR:RB c b)(ho:G 0 nw o):Ok (λr=>r.2.2.2=0→RB c r.1) (jZ N c b o):=by
 have xa:=hb.2.2.2.2.2.1.1
 have et: ∀(t:bE) (e:Int),e≠0→Ok (λr:an×bE×Int×Int=>r.2.2.2=0→RB c r.1) (some ((cn,(cW,(bo,(bo,(di,(du,())))))),(t,((0:Int),e)))):=λt e h=>aq λh'=>absurd h' h
 obtain⟨g1,g2,g3⟩:=lA.1 hR.o
 unfold jZ jZ.b
 refine ah (Cm N hN h2 hm hc hb (G.mono (bs m) ho)) λe he=>bM (λh=>et _ _ h) λe0=> ?_
 obtain⟨o1,o2,o3⟩:=he e0
 have oA:=(qq hR.a _).1 o2
 have Ff: ∀(r:aY) (t:bE) (q:Int),dn r=true→(∀x∈r,∃y∈b.2.2.2.2.2.1,x.1=y.1∧x.2.1=y.2.1∧x.2.2.1=y.2.2.1)→q≤o.2.2.2.2.1→(0<q→r.length≤31)→(∀y∈b.2.2.2.2.2.1,lG y.1 o.1)→Ok (λr=>r.2.2.2=0→RB c r.1) (jZ.JW N c b o (cn,(cW,(bo,(bo,(di,(du,())))))) r t q):=λr t q hr hrm hq Ki eU=>by
  obtain⟨r1,r2,r3⟩:=lA.1 hr
  unfold jZ.JW jZ.Df
  refine ah (Lu N hN ω hb hR) λz hz=>bM (λh=>et _ _ h) λz0=> ?_
  obtain⟨zR,_,za,_⟩:=hz z0
  have hk: ∀x∈r,II c z.1.2.1 x:=λx hx=>by
   obtain⟨y,hy,_,e1,e2⟩:=hrm x hx
   have:=hR.ok y hy
   unfold II at this ⊢
   rw[za,e1,e2];exact this
  refine ax (λh0=>aC (by rw[aJ];omega) (aq λ_=>zR.Na (lA.2 ⟨λx hx=> ?_,?_,?_⟩) λx hx=> ?_)) λ_=>aq λ_=>zR.Na hr hk
  ·rcases bn.1 hx with hx|hx
   ·exact r1 x hx
   ·rw[cy.1 hx]
    exact⟨o1.1,o1.2.1,o1.2.2.1,o1.2.2.2.1,⟨h0,fH hq o1.2.2.2.2.1.2⟩,o1.2.2.2.2.2⟩
  ·rw[xg]
   refine⟨r2,Gk ..,λx hx y hy=> ?_⟩
   rw[cy.1 hy]
   obtain⟨u,hu,e,_⟩:=hrm x hx
   unfold Ln
   rw[e];exact eU u hu
  ·rw[aS,aJ];have:=Ki h0;omega
  ·rcases bn.1 hx with hx|hx
   ·exact hk x hx
   ·rw[cy.1 hx]
    unfold II
    rw[za];exact⟨oA,o3⟩
 have hj7:(∀y∈b.2.2.2.2.2.1,lG y.1 o.1)→Ok (λr=>r.2.2.2=0→RB c r.1) (jZ.j7 N c b o (cn,(cW,(bo,(bo,(di,(du,()))))))):=λeU=>by
  unfold jZ.j7 jZ.XX
  refine ah (aa2 N ω ω hR.o o1) λz ⟨z1,z2,z3⟩=> ?_
  have zl:=(lA.1 z1).2.2
  exact ax (λh0=>ok_eq (λ_=>et _ _ δ) λkN=>Ff _ _ _ z1 z2 z3 (λ_=>ω) eU) λh0=>Ff _ _ _ z1 z2 z3 (λh=>ω) eU
 refine ax (λh0=> ?_) λh0=>hj7 λy hy=> ?_
 ·dsimp only
  refine aB (by rw[aw ω ω];omega) (eR (λ_=>et _ _ δ) λaa4=>hj7 λy hy=> ?_)
  have e1:(W .i64 ((b.2.2.2.2.2.1.length:Int)-1)).toNat=b.2.2.2.2.2.1.length-1:=by rw[aw ω ω];omega
  rw[e1,jl ω]at aa4
  obtain⟨k,hk,e⟩:=gL hy
  by_cases h:k=b.2.2.2.2.2.1.length-1
  ·subst h;rw[←e];exact aa4
  ·have:=vr.1 g2 k (b.2.2.2.2.2.1.length-1) hk ω ω
   rw[e]at this
   exact DA this aa4
 ·have:=List.length_pos_of_mem hy
  omega
theorem aeb(hN:5000000≤N){c:ae}{b:an}{m:Nat}(hm:m≤40000)(hc:G m aA c)(hb:G m aK b)(hR:RB c b)(f:Int)(to a:Int):Ok (λr=>r.2=0→RB c r.1) (Xb N c b f to a):=by
 have bad: ∀e:Int,e≠0→Ok (λr:an×Int=>r.2=0→RB c r.1) (some ((cn,(cW,(bo,(bo,(di,(du,())))))),e)):=λe h=>aq λh'=>absurd h' h
 unfold Xb
 refine ah (aat N hN hm hc hb _ _ _) λ_ _=>bM (λh=>bad _ h) λ_=>ah (Tz N ω (ck hb.1.1 ω) (ck hb.2.1.1 ω) _ _) λr hr=>bM (λh=>bad _ h) λh0=>aq λ_=> ?_
 obtain⟨r1,r2,r3⟩:=hr h0
 exact hR.Xr hR.m r1 (λ_ h=>h) r2 r3
theorem aa5(hN:200000≤N){c:ae}{b:an}{m:Nat}(hm:m≤50000)(hb:G m aK b)(hR:RB c b){a:Int}(ha:ru b.2.1 a):Ok (λr=>SB c b.2.1 r∧r.length≤2*m) (nU N b.2.2.2.1 a 0):=by
 have h:=hb.2.2.2.1
 have hl:=h.1
 have hp:=(eZ (ej (qI.2 hR)).2).2
 unfold nU nU.b
 have nil:Ok (λr:au=>SB c b.2.1 r∧r.length≤2*m) (some []):=aq ⟨SB.nil,bs _⟩
 refine bV (lS N ω hN) (bI (λ_=>nil) λ_=>ok_eq (λ_=>nil) λ_=>ax (λ_=>nil) λa0=>ax (λ_=>nil) λa1=>ax (λ_=>nil) λ_=>ax (λ_=>nil) λ_=>bt (len:=b.2.2.2.1.length) (F:=λn i s=>nU.l5 N n b.2.2.2.1 a 0 s i) (λi s=>SB c b.2.1 s∧s.length≤2*i) ⟨SB.nil,bs _⟩ ω (λn i s hi hI hr=> ?_) (λn s hI=> ?_))
 all_goals unfold nU.l5 nU.dV
 all_goals obtain⟨i1,i2⟩:=hI
 ·have hx:G m kd (b.2.2.2.1.getD i aZ):=h.2 _ (qH hi)
  have R6:=hp _ (qH (d:=aZ) hi)
  have Yu:=hR.sk _ (qH (d:=aZ) hi)
  dsimp only
  rw[aw (x:=(i:Int)+1) ω ω,af i,aG]
  have h1:=hr s ⟨i1,ω⟩
  have hq:aF (b.2.2.2.1.getD i aZ).2.2.1:=hx.2.2.1
  have oR:ri (b.2.2.2.1.getD i aZ).2.2.1:=R6.2
  have pl:=R6.1
  have ins:=Yu.2
  generalize (b.2.2.2.1.getD i aZ).2.2.1=q at*
  generalize (b.2.2.2.1.getD i aZ).2.1=k at*
  have hn:=(ali ⟨hq,oR⟩).1
  unfold aF at hn
  rw[aw hn.1 hn.2]
  exact ax (λ_=>aB ⟨ω,ω⟩ (ok_eq (λ_=>aB ⟨ω,ω⟩ (aB ⟨ω,ω⟩ (aB ⟨ω,ω⟩ (aB ⟨ω,ω⟩ (aC (by rw[ze];omega) (hr _ ⟨SB.app i1 (SB.two hn hq ω ⟨⟨a0,a1,pl.2.2.1,pl.2.2.2⟩,.inr ha,ins⟩ ⟨⟨δ,δ,pl.2.2.1,pl.2.2.2⟩,.inl rfl,ins⟩),by rw[aS,aT,aJ];omega⟩)))))) λ_=>h1)) λ_=>ω
 ·exact ax (λ_=>ω) λ_=>aq ⟨i1,ω⟩
theorem XC{c:ae}{b:an}(h:RB c b):b.2.1.length≤24:=Qk h.a
theorem aec(hN:5000000≤N){c:ae}{b:an}{m:Nat}(h2:200≤m)(hm:m≤1000)(hc:G m aA c)(hb:G m aK b)(hR:RB c b)(a:Int):Ok (Lt c b) (hZ N c b a):=by
 have hal:=XC hR
 unfold hZ hZ.b
 refine bV (eo N hN ω hb) (bI (λ_=>Lt.bad δ) λhB=>ah (rM N ω ω hb _) λ_ _=>ok_eq (λ_=>Lt.bad δ) λ_=> ?_)
 refine bt (len:=b.2.1.length) (F:=λn i (z:au×bO)=>hZ.l8 N n a c b (cn,(cW,(bo,(bo,(di,(du,())))))) z.1 z.2 i) (s:=(_,_)) (λi z=>(SB c b.2.1 z.1∧z.1.length≤2*m*i)∧PB b.1 b.2.1 z.2∧z.2.length≤4*i) ⟨⟨SB.nil,bs _⟩,PB.nil,bs _⟩ ω (λn i z hi hI hr=> ?_) (λn z hI=> ?_)
 all_goals unfold hZ.l8 hZ.Ej
 all_goals obtain⟨⟨h5,h7⟩,h6,h8⟩:=hI
 ·have hmi:2*m*i≤2*m*24:=mW _ ω
  have hms:2*m*(i+1)=2*m*i+2*m:=rX _ _
  have hx:G m ff (b.2.1.getD (i:Int).toNat bb):=G.at hb.2.1 _
  have hA:ru b.2.1 (b.2.1.getD (i:Int).toNat bb).1:=⟨_,qH hi,rfl⟩
  have hM:=vj hR hA
  have hF:de 2 0∧ko b.1 b.2.1 2 0:=DE δ
  have hj: ∀p:bO,PB b.1 b.2.1 p→p.length≤4*i+2→Ok (Lt c b) (hZ.Dt N (hZ.l8 N n) a c b (cn,(cW,(bo,(bo,(di,(du,())))))) z.1 p (i:Int) (b.2.1.getD (i:Int).toNat bb)):=λp hp zC=>by
   unfold hZ.Dt hZ.w3
   rw[aw (x:=(i:Int)+1) ω ω,af i]
   exact ah (vf N ω ω hb _) λg hg=>ax (λ_=>bV (dd N ω hg.1 hg.2) (bV (pe N ω (pO (pS hg).1)) (ah (ua N ω ⟨(pS hg).2,by rw[Int.neg_neg];exact(pS hg).1⟩ hF hM) λu ⟨hu,Js⟩=>aC ω (ah (aa5 N ω ω hb hR hA) λs ⟨hs,L0⟩=>aC ω (hr (_,_) ⟨⟨SB.app h5 hs,by dsimp only;rw[List.length_append];omega⟩,PB.app hp hu,by dsimp only;rw[List.length_append];omega⟩))))) λ_=>ah (aa5 N ω ω hb hR hA) λs ⟨hs,L0⟩=>aC ω (hr (_,_) ⟨⟨SB.app h5 hs,by dsimp only;rw[List.length_append];omega⟩,hp,by dsimp only;omega⟩)
  rw[aw (x:=(i:Int)+1) ω ω,af i]
  exact ax (λ_=>aB ⟨ω,ω⟩ (bM (λ_=>hr z ⟨⟨h5,ω⟩,h6,ω⟩) λ_=>ok_eq (λ_=>ah (Ll N hN ω hc hb _) λq hq=>bV (dd N ω hq.1 hq.2) (ah (ua N ω (pS hq) hM hF) λu ⟨hu,Js⟩=>aC ω (hj _ (PB.app h6 hu) (by rw[aS];omega)))) λ_=>hj _ h6 ω)) λ_=>ω
 ·have hmi:2*m*b.2.1.length≤2*m*24:=mW _ ω
  exact ax (λ_=>ω) λ_=>ah (tZ N ω ω hb hR h5 h6 ω ω) λr hr=>aq hr
theorem Ax{n:Int}: ∀{l:aN},ow n l≠0→ru l (ow n l)
 |[],h=>absurd rfl h
 |x::t,h=>by
  rw[tK]at h ⊢
  have up:ru t (ow n t)→ru (x::t) (ow n t):=λ⟨y,hy,e⟩=>⟨y,ba _ hy,e⟩
  by_cases e1:x.2.1=n
  ·rw[ak e1]at h ⊢
   by_cases e2:x.2.2.1=1
   ·rw[ak e2];exact⟨x,bu ..,rfl⟩
   ·rw[ag e2]at h ⊢;exact up (Ax h)
  ·rw[ag e1]at h ⊢;exact up (Ax h)
theorem Lw{a:aN}{n:Int}(h:ox a n≠0):ru a (ox a n):=by
 unfold ox at*
 split at h
 ·rw[ak (by assumption)];exact Ax h
 ·exact absurd rfl h
def Vm(c:ae)(y:BT):Prop:=(0≤y.1∧lG y.1 c.1.length)∧ri y.2.1
theorem TC{c:ae}{L:bL}(h:Dh c L=true): ∀x∈L,∀y∈x.2.1,Vm c y:=by
 unfold Dh at h
 simp only[bQ,fc,fV]at h
 refine(iA (d:=((0:Int),(cn,bb))) (Q:=λx=> ∀y∈x.2.1,Vm c y)).1 λj hj=> ?_
 have h1:=(h.2.2 j hj).2.2.2.1
 unfold mi at h1
 exact(iA (d:=c7) (Q:=Vm c)).1 λi hi=>by
  have h2:=bD (df.1 h1).1 i hi
  exact⟨⟨h2.1,h2.2.1⟩,h2.2.2.2.1⟩
theorem aa6(hN:5000000≤N){c:ae}{b:an}{L:bL}{l:aN}{m:Nat}(h2:200≤m)(hm:m≤2000)(hb:G m aK b)(hR:RB c b)(hL:LL m L)(hl:G m (.slice ff) l):Ok (λr=>r.2.2=0→RB c r.1∧r.2.1.length≤12) (gA N c b L l):=by
 have et: ∀e:Int,e≠0→Ok (λr:an×bL×Int=>r.2.2=0→RB c r.1∧r.2.1.length≤12) (some ((cn,(cW,(bo,(bo,(di,(du,())))))),([],e))):=λe h=>aq λh'=>absurd h' h
 have h3:=hL.1
 have h4:=hl.1
 have hw:KP L:=λy hy=>ck (hL.2 y hy).2.1.1 ω
 have hci:c.1.length≤6:=by
  have:=hR.c
  unfold eS at this
  exact(bD (df.1 this).1).2
 unfold gA gA.b
 refine bV (eo N hN ω hb) (bI (λ_=>et _ δ) λ_=>bV (B8 N ω c ω hw) (bI (λ_=>et _ δ) λhk=>bV (u7 N ω ω) (bI (λ_=>et _ δ) λ_=> ?_)))
 have aqJ:=TC hk
 have h12:L.length≤12:=by
  unfold Dh at hk
  exact bD (df.1 (df.1 hk).2).1
 refine bt (len:=L.length) (F:=λn i (z:au×bO×bL)=>gA.l7 N n L l b (cn,(cW,(bo,(bo,(di,(du,())))))) z.1 z.2.1 z.2.2 i) (s:=(_,(_,_))) (λi z=>(SB c b.2.1 z.1∧z.1.length≤2*m*i)∧(PB b.1 b.2.1 z.2.1∧z.2.1.length≤2*i)∧z.2.2.length≤i) ⟨⟨SB.nil,bs _⟩,⟨PB.nil,bs _⟩,bs _⟩ ω (λn i z hi hI hr=> ?_) (λn z hI=> ?_)
 all_goals unfold gA.l7 gA.nR
 all_goals obtain⟨⟨h5,h8⟩,⟨h6,h9⟩,h7⟩:=hI
 ·have hmi:2*m*i≤2*m*12:=mW _ ω
  have hms:2*m*(i+1)=2*m*i+2*m:=rX _ _
  have hx:G m jT (L.getD (i:Int).toNat ((0:Int),(cn,bb))):=G.at hL _
  have hxl:=hx.2.1.1
  have awH:=aqJ _ (qH (d:=((0:Int),(cn,bb))) hi)
  rw[aw (x:=(i:Int)+1) ω ω,af i]
  dsimp only
  rw[cD]
  have put: ∀x:je,Ok (λr=>r.2.2=0→RB c r.1∧r.2.1.length≤12) (cond (small (z.2.2.length+[x].length)) (gA.l7 N n L l b (cn,(cW,(bo,(bo,(di,(du,())))))) z.1 z.2.1 (z.2.2++[x]) ((i+1:Nat):Int)) none):=λx=>aC (by rw[List.length_singleton];omega) (hr (z.1,(z.2.1,z.2.2++[x])) ⟨⟨h5,by dsimp only;omega⟩,⟨h6,by dsimp only;omega⟩,by dsimp only;rw[List.length_append,List.length_singleton];omega⟩)
  refine ax (λ_=>aB ⟨ω,ω⟩ (aC (by rw[bZ];omega) (bM (λ_=>put _) λ_=>ah (Ve N ω ω hl _) λw hw=>bI (λ_=>put _) λ_=>bV (rJ N (ck hb.2.1.1 ω) ω _) (ok_eq (λ_=>et _ δ) λhh=>ah (rM N ω ω hb _) λ_ _=>ok_eq (λ_=>et _ δ) λ_=> ?_)))) λ_=>ω
  have hA:=Lw hh
  have hM:=vj hR hA
  have hF:de 2 0∧ko b.1 b.2.1 2 0:=DE δ
  have aqK:0≤ox b.2.1 w.1.2.2.1∧ox b.2.1 w.1.2.2.1≤24:=by
   have:=hM.1
   unfold de at this;omega
  generalize ox b.2.1 w.1.2.2.1=h at*
  have hX': ∀y∈(L.getD (i:Int).toNat ((0:Int),(cn,bb))).2.1,Vm c y∧G m kM y:=λy hy=>⟨awH y (by rw[aG]at hy;exact hy),hx.2.1.2 y hy⟩
  generalize hX:(((L.getD (i:Int).toNat ((0:Int),(cn,bb))).1,((L.getD (i:Int).toNat ((0:Int),(cn,bb))).2.1,((L.getD (i:Int).toNat ((0:Int),(cn,bb))).2.2.1,((2:Int),(w.1.2.2.1,(w.1.2.2.2.1,())))))):je)=X
  have hXe:X.2.1=(L.getD (i:Int).toNat ((0:Int),(cn,bb))).2.1:=by rw[←hX]
  rw[←hXe]at hX' hxl
  refine bt (len:=X.2.1.length) (F:=λn' j u=>gA.yd N (gA.l7 N n) n' L l b (cn,(cW,(bo,(bo,(di,(du,())))))) u z.2.1 z.2.2 (i:Int) X w.1 h j) (s:=z.1) (λj u=>SB c b.2.1 u∧u.length≤2*m*i+2*j) ⟨h5,h8⟩ ω (λn' j u hj hu ed=> ?_) (λn' u hu=> ?_)
  all_goals unfold gA.yd gA.wY
  all_goals obtain⟨hu,Js⟩:=hu
  ·have hy:=hX' _ (qH (d:=c7) hj)
   dsimp only
   rw[aw (x:=(j:Int)+1) ω ω,af j,aG]
   generalize X.2.1.getD j c7=y at*
   obtain⟨⟨⟨y0,y1⟩,y2⟩,y3⟩:=hy
   have hq:aF y.2.1:=y3.2.1
   have hn:=(ali ⟨hq,y2⟩).1
   have hn':=hn
   unfold aF at hn'
   have e:W .i64 (0-y.2.1)=0-y.2.1:=aw hn'.1 hn'.2
   rw[e]
   have g6: ∀x:Int,lG x c.1.length→x<6:=λx h=>by unfold lG at h;omega
   exact ax (λ_=>aB ⟨ω,ω⟩ (aB ⟨ω,ω⟩ (aB ⟨ω,ω⟩ (aB ⟨ω,ω⟩ (aC (by rw[ze];omega) (ed _ ⟨SB.app hu (SB.two hn hq ω ⟨⟨δ,δ,y0,g6 _ y1⟩,.inl rfl,y1⟩ ⟨⟨aqK.1,aqK.2,y0,g6 _ y1⟩,.inr hA,y1⟩),by rw[aS,aT,aJ];omega⟩)))))) λ_=>ω
  ·have Ic:aF w.1.2.2.2.1:=hw.2.2.2.1
   refine ax (λ_=>ω) λ_=>bV (dd N ω Ic.1 Ic.2) (ah (ua N ω (pS Ic) hM hF) λp ⟨hp,zC⟩=>aC ω (aC (by rw[aJ];omega) ?_))
   rw[aw (x:=(i:Int)+1) ω ω,af i]
   exact hr (_,(_,_)) ⟨⟨hu,by dsimp only;omega⟩,⟨PB.app h6 hp,by dsimp only;rw[List.length_append];omega⟩,by dsimp only;rw[List.length_append,List.length_singleton];omega⟩
 ·have hmi:2*m*L.length≤2*m*12:=mW _ ω
  exact ax (λ_=>ω) λ_=>ah (tZ N ω ω hb hR h5 h6 ω ω) λr hr=>bM (λh=>et _ h) λh0=>aq λ_=>⟨(hr h0).1,by dsimp only;omega⟩
theorem Lx{a k:Int}: ∀{l:au},ix a k l≠0→ ∃x∈l,x.1=a∧x.2.1=k
 |[],h=>absurd rfl h
 |x::t,h=>by
  rw[jW]at h
  have up:ix a k t≠0→ ∃y∈x::t,y.1=a∧y.2.1=k:=λh=>let⟨y,hy,e⟩:=Lx h;⟨y,ba _ hy,e⟩
  by_cases e1:x.1=a
  ·rw[ak e1]at h
   by_cases e2:x.2.1=k
   ·exact⟨x,bu ..,e1,e2⟩
   ·rw[ag e2]at h;exact up h
  ·rw[ag e1]at h;exact up h
def PT(b:an)(k n:Int):Prop:=de k n∧ko b.1 b.2.1 k n
theorem aed{c:ae}{b:an}(hR:RB c b){k n:Int}(h:tO b.2.2.1 k n≠0):PT b k n:=by
 unfold tO at h
 rw[ak hR.r]at h
 obtain⟨x,hx,e1,e2⟩:=Lx h
 have h1:=(pn hR.r).2 x hx
 have h2:=hR.rk x hx
 rw[e1,e2]at h1 h2
 exact⟨h1,h2⟩
theorem aa7{a:aN}(hA:gO a=true){id:Int}{x:cO×Bool}(e:x=eT a id)(h:x.2=true):ru a x.1.1:=by
 subst e
 unfold eT at*
 rw[ak hA]at h ⊢
 have key: ∀l:aN,(uZ id l).2=true→(uZ id l).1∈l:=by
  intro l
  induction l with
  |nil=>intro h;exact nomatch h
  |cons y t ih=>
   intro h
   rw[pf]at h ⊢
   by_cases e:y.1=id
   ·rw[ak e];exact bu ..
   ·rw[ag e]at h ⊢;exact ba _ (ih h)
 exact⟨_,key a h,rfl⟩
abbrev T5(b:an)(k:Nat)(l:bE):Prop:=l.length≤k∧ ∀x∈l,PT b x.2.1 x.2.2.1
theorem T5.mono{b:an}{j k:Nat}{l:bE}(h:T5 b j l)(hk:j≤k):T5 b k l:=⟨ck h.1 hk,h.2⟩
theorem T5.nil{b:an}{k:Nat}:T5 b k []:=⟨bs _,λx hx=>nomatch hx⟩
theorem T5.app{b:an}{k:Nat}{l:bE}(h:T5 b k l){s d n x y:Int}(hx:PT b d n):T5 b (k+1) (l++[(s,(d,(n,(x,(y,())))))]):=
 ⟨by rw[aS,aJ];exact Nat.succ_le_succ h.1,λz hz=>by
  rcases bn.1 hz with hz|hz
  ·exact h.2 z hz
  ·rw[cy.1 hz];exact hx⟩
theorem row_in(hN:200000≤N){c:ae}{l:bE}{b:an}{m k:Nat}(hm:m≤50000)(hb:G m aK b)(hR:RB c b)(hk:k≤1000000)(hl:T5 b k l)(a d n:Int):Ok (T5 b (k+1)) (MY N l b a d n):=by
 have h1:=hl.1
 unfold MY
 exact bV (MB N (ck hb.2.2.1.1 ω) hN _ _) (ax (λh=>aC (by rw[aJ];omega) (aq (T5.app hl (aed hR ω)))) λ_=>aq (T5.mono hl ω))
theorem aa8(hN:5000000≤N){c:ae}{b:an}{d g:aE}{a:Int}{m:Nat}(hm:m≤50000)(hc:G m aA c)(hb:G m aK b)(hR:RB c b)(hd:L2 m d)(hg:L2 m g):Ok (λr=>T5 b 1000000 r.1∧(r.2=0→ka b.1 a)) (c8 N c b a d g):=by
 have h1:=hb.1.1
 have h2:=hd.1
 have h3:=hg.1
 have h4:=hb.2.1.1
 have nil: ∀e:Int,e≠0→Ok (λr:bE×Int=>T5 b 1000000 r.1∧(r.2=0→ka b.1 a)) (some ([],e)):=λe h=>aq ⟨T5.nil,λh'=>absurd h' h⟩
 have hj:ka b.1 a→ ∀l:bE,T5 b 1 l→Ok (λr=>T5 b 1000000 r.1∧(r.2=0→ka b.1 a)) (c8.j9 N a d g c b l):=λhMa l hl=>by
  unfold c8.j9 c8.Pe
  refine ah (row_in N ω hm hb hR ω hl _ _ _) λl hl=>ah (row_in N ω hm hb hR ω hl _ _ _) λl hl=>jk (len:=5) (F:=λn k s=>c8.nJ N n a d g c b s k) (λk s=>T5 b (3+m*k) s) (λn k s hk hs hr=> ?_) (λn s hs=> ?_) 5 N 1 l ω ω ω (T5.mono hl ω)
  all_goals unfold c8.nJ c8.mN
  ·have hmk:m*k≤m*4:=mW m ω
   refine eR (λ_=>ah (Iy N hN c hm hb hd _ _) λt ht=> ?_) λ_=>ω
   have htl:=ht.1
   refine bt (len:=t.1.length) (F:=λn' j u=>c8.yc N (c8.nJ N n) n' a d g c b u (k:Int) t.1 j) (λj u=>T5 b (3+m*k+j) u) hs ω (λn' j u hj hu ed=> ?_) (λn' u hu=> ?_)
   all_goals unfold c8.yc c8.wX
   ·rw[aw (x:=(j:Int)+1) ω ω,af j]
    exact ax (λ_=>aB ⟨ω,ω⟩ (ah (row_in N ω hm hb hR ω hu _ _ _) λv hv=>ed v hv)) λ_=>ω
   ·rw[aw (x:=(k:Int)+1) ω ω,af k]
    exact ax (λ_=>ω) λ_=>hr u (T5.mono hu (by rw[rX];omega))
  ·refine eR (λ_=>ω) λ_=>bt (len:=b.1.length) (F:=λn j u=>c8.J4 N n a g c b u j) (λj u=>T5 b (3+m*5+j) u) hs ω (λn j u hj hu hr=> ?_) (λn u hu=> ?_)
   all_goals unfold c8.J4 c8.Qf
   ·have Js:=hu.1
    have hM:PT b 7 (b.1.getD (j:Int).toNat c7).1:=Cr hR δ ⟨_,qH hj,rfl⟩
    rw[aw (x:=(j:Int)+1) ω ω,af j]
    have h0:=hr u (T5.mono hu ω)
    exact ax (λ_=>aB ⟨ω,ω⟩ (ah (MW N _) λ_ _=>bI (λ_=>h0) λ_=>ok_eq (λ_=>h0) λ_=>ah (bH N ω hc.2.2.1) λp hp=>ah (ny N ω hm hb.2.2.1 _ _) λq hq=>ah (bH N ω hq) λq hq=>ah (mQ N ω ω ω hp hq) λy hy=>ah (yr N hy) λv hv=>bI (λ_=>nil _ δ) λ_=>ax (λ_=>aC (by rw[aJ];omega) (hr _ (T5.mono (T5.app hu hM) ω))) λ_=>h0)) λ_=>ω
   ·refine ax (λ_=>ω) λ_=>bt (len:=g.length) (F:=λn j u=>c8.Pv N n a g b u j) (λj u=>T5 b (3+m*5+m+j) u) (T5.mono hu ω) ω (λn j u hj hu hr=> ?_) (λn u hu=> ?_)
    all_goals unfold c8.Pv c8.MA
    ·have Js:=hu.1
     rw[aw (x:=(j:Int)+1) ω ω,af j]
     have h0:=hr u (T5.mono hu ω)
     dsimp only
     exact ax (λ_=>aB ⟨ω,ω⟩ (ah (Iw N ω hm hb.2.1 _) λx ⟨hx,hxe⟩=>aB ⟨ω,ω⟩ (aB ⟨ω,ω⟩ (ah (ny N ω hm hb.2.2.1 _ _) λq hq=>qc (λhf=>bM (λ_=>ax (λ_=>aC (by rw[aJ];omega) (hr _ (T5.mono (T5.app hu (vj hR (aa7 hR.a hxe hf))) ω))) λ_=>h0) λ_=>h0) λ_=>h0)))) λ_=>ω
    ·exact ax (λ_=>ω) λ_=>aq ⟨T5.mono hu ω,λ_=>hMa⟩
 unfold c8 c8.b
 exact bV (eo N hN hm hb) (bI (λ_=>nil _ δ) λ_=>ah (vg N ω ω) λ_ _=>bI (λ_=>nil _ δ) λ_=>ah (Dv N ω ω) λ_ _=>bI (λ_=>nil _ δ) λ_=>bV (pg N (ck hb.1.1 ω) ω _) (ok_eq (λ_=>nil _ δ) λhs=>have hMa:=(wB hR.m a).1 hs;ah (Cn N ω hm hb.2.1 _) λh hh=>bM (λ_=>ah (row_in N ω hm hb hR ω (T5.nil (k:=0)) _ _ _) λl hl=>hj hMa l hl) λ_=>hj hMa [] T5.nil))
theorem XD(hN:5000000≤N){c:ae}{b:an}{d g:aE}{a:Int}{m:Nat}(h2:200≤m)(hm:m≤40000)(hc:G m aA c)(hb:G m aK b)(hR:RB c b)(hd:L2 m d)(hg:L2 m g)(ha:aF a):Ok (λr=>r.2.2=0→RBs c b r.1) (jb N c b a d g):=by
 have et: ∀e:Int,e≠0→Ok (λr:an×ew×Int=>r.2.2=0→RBs c b r.1) (some ((cn,(cW,(bo,(bo,(di,(du,())))))),(R0,e))):=λe h=>aq λh'=>absurd h' h
 unfold jb jb.b
 refine ah (Ok.and (aa8 N hN ω hc hb hR hd hg) (Qi N hN ω hc hb hd hg ha)) λl ⟨⟨⟨_,Sx⟩,hMa⟩,hl2⟩=>ok_eq (λh=>et _ ω) λ_=>ok_eq (λh=>et _ ω) λ_=>ah (Li N hN c ω hb) λq hq=>bM (λh=>et _ h) λ_=>bM (λh=>et _ h) λh0=>ah (Lj N hN (Q:=λx=>G 64 sT x∧PT b x.2.1 x.2.2.1) (λx hx=>hx.1.2.2.2.1) (λx v hx hv=>⟨G5q hx.1 hv,hx.2⟩) (λx hx=>⟨G.mono (m:=0) (bs _) (hl2.2 x hx),Sx x hx⟩) hq) λz ⟨⟨hzl,zB⟩,FM⟩=>bM (λh=>et _ h) λ_=> ?_
 have hMa:=hMa h0
 have hF:de 2 0∧ko b.1 b.2.1 2 0:=DE δ
 have hj: ∀(p:bO) (r:ew) (t:bE) (x k n:Int),PB b.1 b.2.1 p→p.length≤1000→PT b k n→aF x→Ok (λr=>r.2.2=0→RBs c b r.1) (jb.j26 N b (cn,(cW,(bo,(bo,(di,(du,())))))) R0 p r t x k n):=λp r t x k n hp zC hk hx=>by
  unfold jb.j26 jb.adS
  exact bV (dd N ω hx.1 hx.2) (ah (ua N ω (pS hx) hF hk) λu ⟨hu,Js⟩=>aC ω (ah (tZ N ω ω hb hR SB.nil (PB.app hp hu) (bs _) (by rw[aS];omega)) λw hw=>bM (λh=>et _ h) λh0=>aq λ_=>hw h0))
 refine bt (len:=z.1.length) (F:=λn i (s:bO×ew×bE)=>jb.KK N n a c b (cn,(cW,(bo,(bo,(di,(du,())))))) R0 z.1 z.2.1 s.1 s.2.1 s.2.2 i) (s:=(_,(_,_))) (λi s=>(PB b.1 b.2.1 s.1∧s.1.length≤2*i)∧s.2.2.length≤i) ⟨⟨PB.nil,bs _⟩,bs _⟩ ω (λn i s hi hI hr=> ?_) (λn s hI=> ?_)
 all_goals unfold jb.KK jb.JY
 all_goals obtain⟨⟨h4,hp⟩,ht⟩:=hI
 ·obtain⟨hx,hk⟩:=zB _ (qH (d:=gv) hi)
  have hx:aF (z.1.getD i gv).2.2.2.2.1:=hx.2.2.2.2.1
  rw[aw (x:=(i:Int)+1) ω ω,af i,aG]
  exact ax (λ_=>aB ⟨ω,ω⟩ (ax (λ_=>aB ⟨ω,ω⟩ (aC (by rw[List.length_singleton];omega) (aB ⟨ω,ω⟩ (aB ⟨ω,ω⟩ (aB ⟨ω,ω⟩ (bV (dd N ω hx.1 hx.2) (ah (ua N ω (pS hx) hk hF) λu ⟨hu,Js⟩=>aC ω (hr (_,(_,_)) ⟨⟨PB.app h4 hu,by dsimp only;rw[List.length_append];omega⟩,by dsimp only;rw[List.length_append,List.length_singleton];omega⟩)))))))) λ_=>hr s ⟨⟨h4,ω⟩,ω⟩)) λ_=>ω
 ·dsimp only
  have hS:de 4 0∧ko b.1 b.2.1 4 0:=DE δ
  exact ax (λ_=>ω) λ_=>bV (dd N ω FM.1 FM.2) (ah (ua N ω (pS FM) hS hF) λu ⟨hu,Js⟩=>aC ω (ah (Iz N hN c ω hb) λx hx=>bV (rJ N (ck hb.2.1.1 ω) ω _) (bM (λhh=>hj _ _ _ _ _ _ (PB.app h4 hu) (by rw[aS];omega) (vj hR (Lw hh)) hx) λ_=>hj _ _ _ _ _ _ (PB.app h4 hu) (by rw[aS];omega) (Cr hR δ hMa) hx)))
theorem aee{c:ae}{b:an}(hR:RB c b)(w:jC b){a:Int}(ha:0≤a∧lG a c.1.length)(h:(wv c b a).2=0):SB c b.2.1 (wv c b a).1∧(wv c b a).1.length≤65:=by
 have I:=aaP (qI.2 hR) w h
 refine⟨⟨λx hx=>(I.q x hx).1,λx hx=>⟨I.place x hx,?_⟩,I.flat⟩,I.len⟩
 have pos: ∀y∈b.2.2.2.1,dI y.1 0∨ru b.2.1 y.1:=λy hy=>(hR.sk y hy).1
 unfold wv at hx h
 rw[ak (qI.2 hR)]at hx h
 by_cases h1:a<0
 ·exact absurd ha.1 ω
 by_cases h2:(c.1.length:Int)≤a
 ·have:=ha.2;unfold lG at this;omega
 rw[ag h1,ag h2]at hx h
 by_cases h3:gm b.2.2.2.1 0 a=0
 ·rw[ak h3]at hx;exact nomatch hx
 rw[ag h3]at hx h
 generalize gm b.2.2.2.1 0 a=q at*
 by_cases h4:(kL b.2.2.2.1 a q).2.2=0
 ·rw[ak h4]at hx
  rcases bh.1 hx with rfl|hx
  ·exact⟨.inl rfl,ha.2⟩
  ·obtain⟨p,hp,rfl⟩:=Nf hx
   obtain⟨y,hy,e⟩:=cY.1 (List.of_mem_zip hp).2
   refine⟨?_,ha.2⟩
   dsimp only
   rw[←e]
   exact pos y (ve hy).1
 ·rw[ag h4]at hx;exact nomatch hx
theorem aef(hN:5000000≤N){c:ae}{b:an}{m:Nat}(hm:m≤7000)(hb:G m aK b)(hR:RB c b):Ok (Lt c b) (oN N c b):=by
 have w:=(G.wf ω hb).w
 have hci:c.1.length≤6:=by
  have:=hR.c
  unfold eS at this
  exact(bD (df.1 this).1).2
 unfold oN oN.b
 refine bV (eo N hN ω hb) (bI (λ_=>Lt.bad δ) λ_=>bt (len:=c.1.length) (F:=λn i s=>oN.l5 N n c b (cn,(cW,(bo,(bo,(di,(du,())))))) s i) (λi s=>SB c b.2.1 s∧s.length≤65*i) ⟨SB.nil,bs _⟩ ω (λn i s hi hI hr=> ?_) (λn s hI=> ?_))
 all_goals unfold oN.l5 oN.dV
 all_goals obtain⟨i1,i2⟩:=hI
 ·rw[aw (x:=(i:Int)+1) ω ω,af i]
  exact ax (λ_=>bV (aaN N hN c w _) (bM (λh=>Lt.bad h) λh=>have J:=aee hR w ⟨ω,show(i:Int)<c.1.length by omega⟩ h;aC ω (hr _ ⟨SB.app i1 J.1,by rw[aS];omega⟩))) λ_=>ω
 ·exact ax (λ_=>ω) λ_=>ah (tZ N ω ω hb hR i1 PB.nil ω (bs _)) λr hr=>aq hr
def oV(c:ae)(m:Nat)(s:aR):Prop:=RB c s.2.2.1∧(1≤s.2.1∧s.2.1≤2000*(m:Int))∧(s.2.2.2.1.2.2.2.2.1.length≤4∧ ∀x∈s.2.2.2.1.2.2.2.2.1,J3 c x)∧s.2.2.2.1.2.2.2.2.2.1.length≤12
abbrev SI(c:ae)(m:Nat)(r:aR×dg):Prop:=r.2.1=0→oV c m r.1
theorem oV.up{c:ae}{m:Nat}{s:aR}(h:oV c m s):oV c (m+1) s:=⟨h.1,⟨h.2.1.1,fH h.2.1.2 ω⟩,h.2.2⟩
theorem oV.add{n k:Int}{m:Nat}(h:1≤n∧n≤2000*(m:Int))(hm:m≤999)(hk:0≤k∧k≤2000):1≤W .i64 (n+k)∧W .i64 (n+k)≤2000*((m+1:Nat):Int):=by
 rw[aw ω ω];omega
theorem Vn{c:ae}:([]:aN).length≤4∧ ∀x∈([]:aN),J3 c x:=⟨bs _,λx hx=>nomatch hx⟩
theorem iP{c:ae}{m N:Nat}{e:Int}{x:aR}(h:e=0→oV c m x):Ok (SI c m) ((gj N e).bind λr=>some (x,r)):=by
 unfold gj;exact aq h
theorem eA{c:ae}{m N:Nat}{e:Int}{x:aR}(h:e≠0):Ok (SI c m) ((gj N e).bind λr=>some (x,r)):=iP λh'=>absurd h' h
theorem aa9(hN:200000≤N){s:aR}(hl:s.2.2.1.2.1.length≤100000)(k:Int):Tm N s k=some (eT s.2.2.1.2.1 k).2:=by
 unfold Tm;rw[ya N hl hN];rfl
theorem XE(hN:200000≤N){s:aR}(hl:s.2.2.1.1.length≤100000)(k:Int):IA N s k=some (gd s.2.2.1.1 k):=by
 unfold IA;rw[pg N hl hN];rfl
theorem Nl(hN:4000000≤N){c:ae}{s:aR}{m:Nat}(hm:m≤50000)(hs:GS m s)(hR:oV c m s){a b d e q:Int}(hq:aF q)(h1:de a b∧ko s.2.2.1.1 s.2.2.1.2.1 a b)(h2:de d e∧ko s.2.2.1.1 s.2.2.1.2.1 d e):Ok (SI c (m+1)) (Qm N s a b d e q):=by
 unfold Qm
 exact bV (dd N ω hq.1 hq.2) (ah (ua N hN (pS hq) h1 h2) λp ⟨hp,zC⟩=>ah (tZ N hN hm hs.2.2.1 hR.1 SB.nil hp (bs _) ω) λr hr=>aq λh=>⟨(hr h).1,hR.up.2⟩)
theorem XF(hN:5000000≤N){c:ae}{s:aR}{e:iE}{m:Nat}(h2:200≤m)(hm:m≤999)(hc:G m aA c)(hs:GS m s)(hR:oV c m s)(he:G 0 mc e):Ok (SI c (m+1)) (oO N c s e):=by
 have hhl:=hs.2.2.2.1.2.2.2.2.1.1
 unfold oO oO.b
 generalize ((0:Int),((0:Int),_))=S0
 refine bt (len:=s.2.2.2.1.2.2.2.2.1.length) (F:=λn i (z:aR×aN×Bool×Int)=>oO.l5 N n c z.1 e S0 aZ z.2.1 z.2.2.1 z.2.2.2 i) (s:=(_,(_,(_,_)))) (λi z=>(GS m z.1∧oV c m z.1)∧z.1.2.2.2.1.2.2.2.2.1=s.2.2.2.1.2.2.2.2.1∧(G i (.slice ff) z.2.1∧ ∀x∈z.2.1,J3 c x)) ⟨⟨hs,hR⟩,rfl,G.nil,λx hx=>nomatch hx⟩ ω (λn i z hi hI hr=> ?_) (λn z hI=> ?_)
 all_goals unfold oO.l5 oO.dV
 ·obtain⟨⟨hz,hzR⟩,hh,ho,hog⟩:=hI
  have xa:=ho.1
  rw[hh,aw (x:=(i:Int)+1) ω ω,af i]
  have hx:G 0 ff (s.2.2.2.1.2.2.2.2.1.getD (i:Int).toNat bb):=G.at hs.2.2.2.1.2.2.2.2.1 _
  have hxg:J3 c (s.2.2.2.1.2.2.2.2.1.getD (i:Int).toNat bb):=hR.2.2.1.2 _ (qH hi)
  have snoc: ∀x:cO,J3 c x→ ∀y∈z.2.1++[x],J3 c y:=λx hx y hy=>(bn.1 hy).elim (hog y) λhy=>by rw[cy.1 hy];exact hx
  have hxm:G m ff (s.2.2.2.1.2.2.2.2.1.getD (i:Int).toNat bb):=G.mono (bs m) hx
  refine ax (λ_=>aB ⟨ω,ω⟩ (ok_eq (λ_=>ah (Ok.and (U7 N hN h2 ω hc hz.2.2.1 hxm he.2.2.1 he.2.2.2.2.2.2.1 he.2.2.2.2.2.2.2.1) (ad7 N hN h2 ω hc hz.2.2.1 hzR.1 hxm he.2.2.1 he.2.2.2.2.2.2.1 he.2.2.2.2.2.2.2.1)) λr ⟨⟨BK,zT⟩,Va⟩=>bM (λh=>eA h) λh0=> ?_) λ_=>ax (λ_=>aC (by rw[aJ];omega) (hr (z.1,(z.2.1++[s.2.2.2.1.2.2.2.2.1.getD (i:Int).toNat bb],z.2.2)) ⟨⟨hz,hzR⟩,hh,G.cat ho (G.one hx (aH 1)),snoc _ hxg⟩)) λ_=>hr z ⟨⟨hz,hzR⟩,hh,G.mono ω ho,hog⟩)) λ_=>ω
  have AA:GS m (z.1.1,(z.1.2.1,(r.1,z.1.2.2.2))):=⟨hz.1,hz.2.1,BK,hz.2.2.2⟩
  have aqM:oV c m (z.1.1,(z.1.2.1,(r.1,z.1.2.2.2))):=⟨(Va h0).1,hzR.2⟩
  have alC:G 0 ff r.2.1:=zT
  exact ax (λhq=>aC (by rw[aJ];omega) (hr ((z.1.1,(z.1.2.1,(r.1,z.1.2.2.2))),(z.2.1++[r.2.1],(true,r.2.1.2.2.2.1))) ⟨⟨AA,aqM⟩,hh,G.cat ho (G.one alC (aH 1)),snoc _ ⟨by rw[(Va h0).2.1];exact hxg.1,hq,(Va h0).2.2⟩⟩)) λ_=>hr ((z.1.1,(z.1.2.1,(r.1,z.1.2.2.2))),(z.2.1,(true,r.2.1.2.2.2.1))) ⟨⟨AA,aqM⟩,hh,G.mono ω ho,hog⟩
 ·obtain⟨⟨hz,hzR⟩,hh,ho,hog⟩:=hI
  rw[hh]
  exact ax (λ_=>ω) λ_=>bI (λ_=>eA δ) λ_=>aq λ_=>⟨hzR.1,hzR.up.2.1,⟨ck ho.1 hR.2.2.1.1,hog⟩,hzR.2.2.2⟩
theorem aba(hN:5000000≤N){c:ae}{s:aR}{e:iE}{m:Nat}(h2:200≤m)(hm:m≤999)(hc:G 5 aA c)(hs:GS m s)(hR:oV c m s)(he:G 0 mc e):Ok (SI c (m+1)) (oP N c s e):=by
 have FI:G m aA c:=G.mono ω hc
 have hk:=hs.2.2.2.1
 have hb:=hs.2.2.1
 have up:=hR.up.2
 unfold oP oP.b
 refine ok_eq (λ_=> ?_) λ_=>ok_eq (λ_=> ?_) λ_=>ok_eq (λ_=> ?_) λ_=>ok_eq (λ_=> ?_) λ_=>ok_eq (λ_=> ?_) λ_=>ok_eq (λ_=> ?_) λ_=>ok_eq (λ_=> ?_) λ_=>ok_eq (λ_=> ?_) λ_=>iP λ_=>hR.up
 ·exact ah (aeb N hN ω FI hb hR.1 _ _ _) λr hr=>iP λh=>⟨hr h,up⟩
 ·exact ah (aec N hN h2 ω FI hb hR.1 _) λr hr=>iP λh=>⟨(hr h).1,up⟩
 ·exact ah (Ld N hN c hc.2.2.2.2.2.2.1 ω hb _) λr hr=>aq λ_=>⟨hR.1,oV.add hR.2.1 hm (by have:=hr.1.1;omega),⟨hr.1.1,hr.2⟩,hR.2.2.2⟩
 ·exact ah (XF N hN h2 ω FI hs hR he) λr hr=>aq hr
 ·exact ok_eq (λ_=>eA δ) λ_=>ah (U9 N hN h2 ω FI hb hs.2.1) λl ⟨hl,awI⟩=>bM (λh=>eA h) λ_=>ah (vh N ω hs.1 hc.2.2.2.2.1) λt ht=>bI (λ_=>eA δ) λ_=>ah (U8 N hN c ω hb) λu hu=>aq λ_=>⟨hR.1,oV.add hR.2.1 hm ω,Vn,awI⟩
 ·have hx:G 0 ff (s.2.1,(e.2.2.2.2.2.1,(e.2.1,(e.2.2.2.2.2.2.2.1,())))):=⟨hs.2.1,he.2.2.2.2.2.1,he.2.1,he.2.2.2.2.2.2.2.1,trivial⟩
  exact ah (Lh N hN ω ω FI hb hk.2.2.2.2.2.1 hk.2.2.2.2.2.2.1 hx) λr hr=>aq λ_=>⟨hR.1,oV.add hR.2.1 hm δ,hR.2.2⟩
 ·refine ah (Ok.and (Qj N hN c h2 ω hb hk.2.2.2.2.2.1 hk.2.2.2.2.2.2.1) (aa6 N hN h2 ω hb hR.1 hk.2.2.2.2.2.1 hk.2.2.2.2.2.2.1)) λr ⟨⟨BK,zT⟩,Va⟩=>bM (λh=>eA h) λh0=>ah (Qh N ω c h2 ω hk.2.2.2.2.2.2.2.2.1 hk.2.2.2.2.2.2.2.1.1 zT hk.2.2.2.2.2.2.1) λd hd=> ?_
  generalize ((0:Int),((0:Int),_))=S0
  have Ki:=zT.1
  refine bt (len:=r.2.1.length) (F:=λn i q=>oP.l41 N n _ S0 aZ r.2.1 q i) (λ_ _=>True) trivial ω (λn i q hi _ ed=> ?_) (λn q _=> ?_)
  all_goals unfold oP.l41 oP.adX
  ·rw[aw (x:=(i:Int)+1) ω ω,af i]
   exact ax (λ_=>aB ⟨ω,ω⟩ (ok_eq (λ_=>ed _ trivial) λ_=>ed _ trivial)) λ_=>ω
  ·exact ax (λ_=>ω) λ_=>aq λ_=>⟨(Va h0).1,up.1,hR.2.2.1,(Va h0).2⟩
 ·exact ah (Ok.and (Lk N hN h2 ω FI hb hk.2.2.2.2.2.2.2.2.1 hk.2.2.2.2.2.2.2.2.2.1 hk.1) (XD N hN h2 ω FI hb hR.1 hk.2.2.2.2.2.2.2.2.1 hk.2.2.2.2.2.2.2.2.2.1 hk.1)) λr ⟨⟨BK,zT⟩,Va⟩=>bM (λh=>eA h) λh0=>ah (Ok.and (Vd N hN h2 ω hc BK) (aef N hN ω BK (Va h0).1)) λb ⟨hb,vm⟩=>bM (λh=>eA h) λh1=>ah (Vk N ω (ck hb.1.1 ω) _ _) λu hu=>aq λh=>have B:=(vm h1).1;⟨B.Xr (hu h).1 B.a (hu h).2.1 (λ_ h=>h) λx hx=>(hu h).2.1 _ (B.ma x hx),up.1,Vn,bs _⟩
theorem abb(hN:5000000≤N){c:ae}{s:aR}{e:iE}{m:Nat}(h2:200≤m)(hm:m≤999)(hc:G 5 aA c)(hs:GS m s)(hR:oV c m s)(he:G 0 mc e):Ok (SI c (m+1)) (qN N c s e):=by
 obtain⟨s1,s2,s3,⟨k1,k2,k3,k4,k5,k6,k7,k8,k9,w4,Xn⟩,s5⟩:=hs
 have hs:GS m s:=⟨s1,s2,s3,⟨k1,k2,k3,k4,k5,k6,k7,k8,k9,w4,Xn⟩,s5⟩
 have up:=hR.up.2
 unfold qN qN.b
 have hj: ∀(S0:aR) (z:dg),Ok (SI c (m+1)) (qN.Xf N c s e S0 z):=λS0 z=>by
  unfold qN.Xf qN.Qg
  exact ah (Ql N _ _) λ_ _=>bI (λ_=>eA δ) λ_=>ah (aba N hN h2 hm hc hs hR he) λr hr=>aq hr
 have mem: ∀{x:aE},G m (.slice kM) x→G m aK ((x,s.2.2.1.2):an):=λh=>⟨h,s3.2⟩
 have rb: ∀{x:aE},dN x=true→(∀n,ka s.2.2.1.1 n→ka x n)→RB c ((x,s.2.2.1.2):an):=λh1 h2=>hR.1.Xr h1 hR.1.a h2 (λ_ h=>h) λx hx=>h2 _ (hR.1.ma x hx)
 have JD:=λk:Int=>Ok.and (MU N ω (m:=m) ω s3.1 e.2.1 k) (Vk N ω (ck s3.1.1 ω) e.2.1 k)
 have hd: ∀z:aE×Int,G m (.slice kM) z.1∧(z.2=0→dN z.1=true∧(∀n,ka s.2.2.1.1 n→ka z.1 n)∧ka s.2.2.1.1 e.2.1)→Ok (SI c (m+1)) (cond (aM z.2 0) (cond (aM e.1 11) ((X0 N c (z.1,s.2.2.1.2) e.2.1).bind λr2=>cond (aM s.2.2.2.1.2.1 3) ((qn N s.2.2.2.1.2.2.2.2.2.2.1 e.2.1).bind λr3=>(gj N z.2).bind λr4=>some ((s.1,(s.2.1,(r2.1,((s.2.2.2.1.1,(s.2.2.2.1.2.1,(s.2.2.2.1.2.2.1,(s.2.2.2.1.2.2.2.1,(s.2.2.2.1.2.2.2.2.1,(s.2.2.2.1.2.2.2.2.2.1,(r3,s.2.2.2.1.2.2.2.2.2.2.2))))))),s.2.2.2.2)))),r4)) ((gj N z.2).bind λr5=>some ((s.1,(s.2.1,(r2.1,s.2.2.2))),r5))) ((gj N z.2).bind λr6=>some ((s.1,(s.2.1,((z.1,s.2.2.1.2),s.2.2.2))),r6))) ((gj N z.2).bind λr7=>some ((s.1,(s.2.1,((z.1,s.2.2.1.2),s.2.2.2))),r7))):=λz ⟨hz,hi⟩=>
  ok_eq (λh0=>have B:=rb (hi h0).1 (hi h0).2.1;ok_eq (λ_=>ah (QG N hN (m:=m) ω (mem hz) B _ ((hi h0).2.1 _ (hi h0).2.2)) λb hb=>ok_eq (λ_=>ah (EJ N ω ω k7 _) λl hl=>iP λ_=>⟨hb,up⟩) λ_=>iP λ_=>⟨hb,up⟩) λ_=>iP λ_=>⟨B,up⟩) λh=>eA h
 refine ok_eq (λ_=>ah (JD _) λz hz=>hd z hz) λ_=>ok_eq (λ_=>ah (JD _) λz hz=>hd z hz) λ_=>ok_eq (λ_=> ?_) λ_=>ok_eq (λ_=> ?_) λ_=>hj _ _
 ·exact ah (py N ω ω hs _) λ_ _=>ok_eq (λ_=>eA δ) λ_=>bM (λ_=>eA δ) λ_=>ah (JD _) λz ⟨hz,hi⟩=>bM (λh=>eA h) λh0=>ah (vh N ω s1 hc.2.2.2.1) λt ht=>bI (λ_=>eA δ) λ_=>aq λ_=>⟨rb (hi h0).1 (hi h0).2.1,up.1,Vn,bs _⟩
 ·exact ah (py N ω ω hs _) λ_ _=>ok_eq (λ_=>eA δ) λ_=>ah (py N ω ω hs _) λ_ _=>bM (λ_=>eA δ) λ_=>hj _ _
theorem aeg(hN:5000000≤N){c:ae}{s:aR}{e:iE}{m:Nat}(h2:200≤m)(hm:m≤999)(hc:G 5 aA c)(hs:GS m s)(hR:oV c m s)(he:G 0 mc e):Ok (SI c (m+1)) (Xo N c s e):=by
 have FI:G m aA c:=G.mono ω hc
 have hb:=hs.2.2.1
 have Xp:=he.2.2.2.2.2.2.1
 have up:=hR.up.2
 have B:=hR.1
 have ml:=ck hb.1.1 (show m≤50000 by omega)
 have al:=ck hb.2.1.1 (show m≤50000 by omega)
 have hW:de 1 0∧ko s.2.2.1.1 s.2.2.1.2.1 1 0:=DE δ
 have st:=λk:Int=>XE N ω (s:=s) ω k
 have stm: ∀k:Int,gd s.2.2.1.1 k≠0→ka s.2.2.1.1 k:=λk h=>(wB B.m k).1 h
 unfold Xo
 refine ok_eq (λ_=> ?_) λ_=>ok_eq (λ_=> ?_) λ_=>ok_eq (λ_=> ?_) λ_=>ok_eq (λ_=> ?_) λ_=>ok_eq (λ_=> ?_) λ_=>ok_eq (λ_=> ?_) λ_=>ok_eq (λ_=> ?_) λ_=>ok_eq (λ_=> ?_) λ_=>ok_eq (λ_=> ?_) λ_=>ok_eq (λ_=> ?_) λ_=>ok_eq (λ_=> ?_) λ_=>ah (abb N hN h2 hm hc hs hR he) λr hr=>aq hr
 ·exact ah (aaW N ω ml _) λr hr=>iP λh=>⟨B.Xr (hr h).1 B.a (hr h).2 (λ_ h=>h) λx hx=>(hr h).2 _ (B.ma x hx),up⟩
 ·exact ah (ad6 N ω ml al _) λr hr=>iP λh=>⟨B.Xr B.m (hr h).1 (λ_ h=>h) (hr h).2.1 (hr h).2.2,up⟩
 ·exact bV (aa9 N ω ω _) (bI (λ_=>eA δ) λhf=>ah (Nl N ω ω hs hR Xp hW (vj B ((qq B.a _).1 hf))) λr hr=>aq hr)
 ·exact ah (QE N hN h2 ω FI hb B he.2.2.1 Xp) λr hr=>iP λh=>⟨(hr h).1,up⟩
 ·exact bV (st _) (ok_eq (λ_=>eA δ) λh0=>bV (st _) (bM (λ_=>eA δ) λ_=>ah (Nl N ω ω hs hR Xp hW (Cr B δ (stm _ h0))) λr hr=>aq hr))
 ·exact bV (st _) (ok_eq (λ_=>eA δ) λh0=>ah (ny N ω ω hb.2.2.1 _ _) λg hg=>ah (bH N ω hg) λx hx=>ah (rL N ω ω hx) λx hx=>ah (bH N ω Xp) λy hy=>ah (qK N ω ω ω hy hx) λ_ _=>ax (λ_=>eA δ) λ_=>ah (Nl N ω ω hs hR Xp hW (Cr B δ (stm _ h0))) λr hr=>aq hr)
 ·exact ah (aaY N ω al B.ma _ _) λr hr=>iP λh=>⟨B.Xr B.m (hr h).1 (λ_ h=>h) (hr h).2.1 (hr h).2.2,up⟩
 ·have hx:G 0 nw (s.2.1,(e.2.2.1,(e.2.2.2.1,(e.2.2.2.2.1,(e.2.2.2.2.2.2.1,(e.2.2.2.2.2.2.2.1,())))))):=⟨hs.2.1,he.2.2.1,he.2.2.2.1,he.2.2.2.2.1,Xp,he.2.2.2.2.2.2.2.1,trivial⟩
  exact ah (aa3 N hN h2 ω FI hb B hx) λr hr=>aq λh=>⟨hr h,oV.add hR.2.1 hm δ,hR.2.2⟩
 ·exact bV (aa9 N ω ω _) (bI (λ_=>eA δ) λ_=>ah (XB N ω (ck hb.2.2.2.2.2.1.1 ω) _ _) λr hr=>iP λh=>⟨B.Na (hr h).1 λx hx=>B.ok x ((hr h).2 x hx),up⟩)
 ·exact ah (Ok.and (EK N hN c h2 ω hb _ he.2.2.2.2.2.2.2.1) (QF N hN ω hb B _ _)) λr ⟨⟨BK,zT⟩,Va⟩=>ok_eq (λh0=>bM (λ_=>ah (Qc N ω h2 ω hs.2.2.2.1.2.2.2.2.2.2.2.2.2.1 zT) λg hg=>iP λ_=>⟨Va h0,up⟩) λ_=>iP λ_=>⟨Va h0,up⟩) λh=>eA h
 ·exact ah (vh N ω hs.1 Xp) λt ht=>bI (λ_=>eA δ) λ_=>aq λ_=>⟨B,up⟩
theorem UH(hN:5000000≤N){c:ae}{s:aR}{e:iE}{m:Nat}(h2:200≤m)(hm:m≤999)(hc:G 5 aA c)(hs:GS m s)(hR:oV c m s)(he:G 0 mc e):Ok (λr=>oV c (m+1) r.1) (F76 N c s e):=by
 have ch: ∀r:dg,Ok (λr:aR×dg=>oV c (m+1) r.1) (some (s,r)):=λr=>aq hR.up
 unfold F76
 exact bV (mK N ω c) (bI (λ_=>ch _) λ_=>ah (Lf N ω e) λ_ _=>bI (λ_=>ch _) λ_=>ah (aeg N hN h2 hm hc hs hR he) λr hr=>bM (λ_=>ch _) λh=>aq (hr h))
theorem Gd(N:Nat){k:Nat}{d:aP}(h:Dk k d)(hk:k≤lx:=by first|decide|(unfold lx;omega)):Ok (λr=>(0≤r.1∧r.1<9223372036854775808)∧Dk (k+1) r.2) (NH N d):=by
 unfold NH
 refine ah (FT N hk h) λr ⟨hr,hd⟩=>ok_eq (λ_=>ω) λ_=> ?_
 have h3:shr .u64 r.1 3=r.1/8:=by rw[Mi ω ω];rfl
 have put: ∀x:Int,0≤x∧x<9223372036854775808→Ok (λr=>(0≤r.1∧r.1<9223372036854775808)∧Dk (k+1) r.2) (some (W .i64 x,r.2)):=λx hx=>aq ⟨by rw[aw ω ω];exact hx,hd⟩
 have awJ: ∀y:Int,0<y∧y≤1000000000000→0≤rem (r.1/8) y∧rem (r.1/8) y<9223372036854775808:=λy hy=>by have:=rem_in (x:=r.1/8) (y:=y) ω hy.1;omega
 dsimp only
 rw[h3,ap4]
 repeat' first|exact put _ ω|exact put _ (awJ _ δ)|refine ax (λ_=> ?_) (λ_=> ?_)|refine ok_eq (λ_=> ?_) (λ_=> ?_)|(exfalso;omega)
def DF(x:cO):Prop:=ou x.1 x.2.1 x.2.2.1 x.2.2.2.1
theorem QH{c:ae}:eS c=true↔(1≤c.1.length∧c.1.length≤6)∧(∀x∈c.1,DF x)∧qE c:=by
 unfold eS
 simp only[bQ,fV]
 rw[←iA (d:=bb) (Q:=DF)];rfl
abbrev Cq(c:ae):Prop:=(G 5 aA c∧1≤c.1.length)∧eS c=true
theorem alK{x:cO}(h:DF x):G 5 ff x:=by
 have g: ∀a b c d:Int,ou a b c d→aF a∧aF b∧aF c∧aF d:=λa b c d h=>by unfold ou at h;unfold aF;omega
 have:=g _ _ _ _ h
 exact⟨this.1,this.2.1,this.2.2.1,this.2.2.2,trivial⟩
theorem alL{c:ae}(h:qE c)(h1:c.2.1<9223372036854775808)(h2:c.2.2.2.2.2.2.1≤1000):G 5 (.pair (.int .i64) (.pair (.int .i64) (.pair (.int .i64) (.pair (.int .i64) (.pair (.int .i64) (.pair (.int .i64) .unit)))))) c.2:=by
 have g: ∀a b c d e f:Int,ov a b c d e f→a<9223372036854775808→f≤1000→aF a∧aF b∧aF c∧aF d∧aF e∧aF f:=λa b c d e f h h1 h2=>by unfold ov at h;unfold aF;omega
 have:=g _ _ _ _ _ _ h h1 h2
 exact⟨this.1,this.2.1,this.2.2.1,this.2.2.2.1,this.2.2.2.2.1,this.2.2.2.2.2,trivial⟩
theorem WA(hN:100≤N){d:aP}(h:Dk 0 d):Ok (λr=>Cq r.1∧Dk 1000 r.2) (F7 N d):=by
 unfold F7 F7.b
 refine ah (jD N δ h) λr hr=> ?_
 rw[aw (x:=1+r.1) ω ω]
 obtain⟨k,hk⟩: ∃k:Nat,1+r.1=(k:Int):=⟨(1+r.1).toNat,ω⟩
 rw[hk]
 have b1: ∀x y:Int,0≤x∧x<y→y≤1000000000000→1≤W .i64 (1+x)∧W .i64 (1+x)≤y:=λx y h1 h2=>by rw[aw ω ω];omega
 refine yY (F:=λn x (s:aP×aN)=>F7.l3 N n s.1 (cW,dT) (cW,dT) s.2 x) (λx s=>x+s.2.length=k∧Dk (1+20*s.2.length) s.1∧ ∀y∈s.2,DF y) (λn x s hI hr=> ?_) (λn s hI=> ?_) k N (r.2,_) ω ⟨rfl,hr.2,λy hy=>nomatch hy⟩
 all_goals unfold F7.l3 F7.nY
 ·obtain⟨hx,hd,hG⟩:=hI
  have Br: ∀(d:aP) (x4:cO),Dk (1+20*s.2.length+10) d→DF x4→Ok (λr=>Cq r.1∧Dk 1000 r.2) (cond (small (s.2.length+[x4].length)) (F7.l3 N n d (cW,dT) (cW,dT) (s.2++[x4]) (W .i64 (((x+1:Nat):Int)-1))) none):=λd x4 hd hx4=>by
   rw[aw (x:=((x+1:Nat):Int)-1) ω ω,show((x+1:Nat):Int)-1=(x:Int)by omega]
   refine aC (by rw[aJ];omega) (hr (_,_) ⟨by rw[aS,aJ];omega,Dk.mono hd (by rw[aS,aJ];omega),λy hy=> ?_⟩)
   rcases bn.1 hy with hy|hy
   ·exact hG y hy
   ·rw[cy.1 hy];exact hx4
  have hj: ∀(d:aP) (x5:cO),Dk (1+20*s.2.length+6) d→DF x5→Ok (λr=>Cq r.1∧Dk 1000 r.2) (F7.j8 N (F7.l3 N n) d (cW,dT) (cW,dT) s.2 ((x+1:Nat):Int) x5):=λd x5 hd hx5=>by
   unfold F7.j8 F7.ZL
   refine ah (qG N δ hd) λr hd=>qc (λ_=> ?_) λ_=>Br _ _ (Dk.mono hd ω) hx5
   refine ah (Gd N hd) λr ⟨h1,hd⟩=>ok_eq (λ_=>ω) λ_=> ?_
   dsimp only
   have e1:=rem_in h1.1 (show(0:Int)<1000000001 by decide)
   exact ah (Gd N hd) λr ⟨h2,hd⟩=>ok_eq (λ_=>ω) λ_=>have e2:=rem_in h2.1 (show(0:Int)<1000000001 by decide);Br _ _ (Dk.mono hd ω) ⟨hx5.1,hx5.2.1,⟨e1.1,by dsimp only;omega⟩,⟨e2.1,by dsimp only;omega⟩⟩
  refine ax (λ_=> ?_) λ_=>ω
  refine ah (jD N δ hd) λa ⟨ha,hd⟩=>ah (jD N δ hd) λb ⟨hb,hd⟩=>ah (jD N δ hd) λc ⟨hc,hd⟩=>ah (jD N δ hd) λe ⟨he,hd⟩=>ah (qG N δ hd) λr hd=>qc (λ_=>ah (Gd N hd) λr ⟨h1,hd⟩=>ok_eq (λ_=>ω) λ_=>hj _ _ (Dk.mono hd ω) ⟨⟨ha.1,by dsimp only;omega⟩,b1 _ _ (rem_in h1.1 δ) δ,⟨hc.1,by dsimp only;omega⟩,⟨he.1,by dsimp only;omega⟩⟩) λ_=>hj _ _ (Dk.mono hd ω) ⟨⟨ha.1,by dsimp only;omega⟩,⟨(b1 _ _ hb δ).1,Int.le_trans (b1 _ _ hb δ).2 δ⟩,⟨hc.1,by dsimp only;omega⟩,⟨he.1,by dsimp only;omega⟩⟩
 ·obtain⟨hx,hd,hG⟩:=hI
  have hl:s.2.length≤4∧1≤s.2.length:=ω
  have hd:Dk 900 s.1:=Dk.mono hd ω
  have fin: ∀(q t p b l m:Int),(0≤q∧q<9223372036854775808)→(0≤t∧t<5)→(0≤p∧p<3)→(0≤b∧b<3)→(0≤l∧l<20)→(0≤m∧m<100)→Cq (s.2,(q,(t,(p,(b,(W .i64 (1+l),(m,()))))))):=λq t p b l m h1 h2 h3 h4 h5 h6=>by
   have h7:=b1 _ _ h5 δ
   have hr:qE (s.2,(q,(t,(p,(b,(W .i64 (1+l),(m,()))))))):=(show ov q t p b (W .i64 (1+l)) m by unfold ov;omega)
   exact⟨⟨⟨⟨by dsimp only;omega,λy hy=>alK (hG y hy)⟩,alL hr h1.2 (show m≤1000 by omega)⟩,hl.2⟩,QH.2 ⟨⟨hl.2,by dsimp only;omega⟩,hG,hr⟩⟩
  refine ax (λ_=>ω) λ_=>ah (jD N δ hd) λa ⟨ha,hd⟩=>ah (jD N δ hd) λb ⟨hb,hd⟩=>ah (jD N δ hd) λc ⟨hc,hd⟩=>ah (jD N δ hd) λe ⟨he,hd⟩=>ah (jD N δ hd) λf ⟨hf,hd⟩=> ?_
  dsimp only
  exact ah (jD N δ hd) λg ⟨hg,hd⟩=>ah (qG N δ hd) λr hd=>qc (λ_=>ah (Gd N hd) λr ⟨hr,hd⟩=>aq ⟨fin _ _ _ _ _ _ hr hb hc he hf hg,Dk.mono hd δ⟩) λ_=>aq ⟨fin _ _ _ _ _ _ ⟨ha.1,ω⟩ hb hc he hf hg,Dk.mono hd δ⟩
theorem XG{q:Int}(h0:q≠0):fh [((1:Int),((0:Int),((-q:Int),()))),((3:Int),((0:Int),(q,())))]=true∧dI (iw [((1:Int),((0:Int),((-q:Int),()))),((3:Int),((0:Int),(q,())))]) 0:=by
 have ok:fh [((1:Int),((0:Int),((-q:Int),()))),((3:Int),((0:Int),(q,())))]=true:=by
  unfold fh
  rw[fc]
  refine aV λj hj=> ?_
  match j,hj with
  |0,_=>exact⟨show de 1 0 by decide,show-q≠0 by omega,λh=>absurd h δ⟩
  |1,_=>exact⟨show de 3 0 by decide,h0,λ_=> .inl (show(1:Int)<3 by decide)⟩
 refine⟨ok,?_⟩
 unfold iw
 rw[ak ok]
 show-q+(q+0)=0
 omega
theorem TD(hN:1000≤N){c:ae}(hc:Cq c)(kP:c.2.1<9223372036854775808):Ok (λr=>RB c r.1∧r.2=0) (ja N c):=by
 obtain⟨⟨hc,FJ⟩,hp⟩:=hc
 have hl:=hc.1.1
 obtain⟨h1,h2,h3⟩:=QH.1 hp
 unfold ja ja.b
 have hj: ∀b:an,(∀p:List Int,p.length=c.1.length→fm p=true→RB c (b.1,(b.2.1,(b.2.2.1,(b.2.2.2.1,(p,b.2.2.2.2.2))))))→Ok (λr=>RB c r.1∧r.2=0) (ja.j6 N c (cn,(cW,(bo,(bo,(di,(du,())))))) b []):=λb hb=>by
  unfold ja.j6 ja.O6
  obtain⟨b1,b2,b3,b4,b5,b6⟩:=b
  refine bt (len:=c.1.length) (F:=λn i (z:an×List Int)=>ja.l7 N n c (cn,(cW,(bo,(bo,(di,(du,())))))) z.1 z.2 i) (s:=((b1,(b2,(b3,(b4,(b5,b6))))),_)) (λi z=>(z.1.1=b1∧z.1.2.1=b2∧z.1.2.2.1=b3∧z.1.2.2.2.1=b4∧z.1.2.2.2.2.2=b6)∧z.2.length=i∧ ∀x∈z.2,1≤x∧x≤1000000000000) ⟨⟨rfl,rfl,rfl,rfl,rfl⟩,rfl,λx hx=>nomatch hx⟩ ω (λn i z hi hI hr=> ?_) (λn z hI=> ?_)
  all_goals unfold ja.l7 ja.nR
  all_goals obtain⟨hz,hzl,hzp⟩:=hI
  ·rw[aw (x:=(i:Int)+1) ω ω,af i,aG]
   have hx:=(h2 _ (qH (d:=bb) hi)).2.1
   exact ax (λ_=>aB ⟨ω,ω⟩ (aC (by rw[List.length_singleton];omega) (hr (_,_) ⟨hz,by dsimp only;rw[List.length_append,List.length_singleton];omega,λy hy=>by
    rcases bn.1 hy with hy|hy
    ·exact hzp y hy
    ·rw[cy.1 hy];exact hx⟩))) λ_=>ω
  ·refine ax (λ_=>ω) λ_=>aq ⟨?_,rfl⟩
   obtain⟨z1,z2,z3,z4,z5⟩:=hz
   dsimp only
   rw[z1,z2,z3,z4,z5]
   refine hb _ hzl ?_
   unfold fm
   exact aV ((iA (d:=(0:Int)) (Q:=λx=>1≤x∧x≤1000000000000)).2 hzp)
 have mk: ∀r:au,fh r=true→dI (iw r) 0→(∀x∈r,ko [] [] x.1 x.2.1)→ ∀p:List Int,p.length=c.1.length→fm p=true→RB c (([]:aE),(([]:aN),(r,(([]:au),(p,(([]:aY),())))))):=λr r1 r2 r3 p p1 p2=>
  ⟨hp,(show dN []=true by decide),(show gO []=true by decide),λx hx=>(nomatch hx),r1,r2,(show oy []=true by decide),(show dn []=true by decide),show(p.length:Int)=c.1.length by omega,r3,λx hx=>(nomatch hx),λx hx=>(nomatch hx),p2⟩
 refine bV (mK N ω c) (bI (λh=>by rw[hp]at h;exact nomatch h) λ_=>bM (λh0=>hj _ ?_) λ_=>hj _ ?_)
 ·have hs:0≤c.2.1:=h3.1
  have e: ∀q:Int,0≤q→q<9223372036854775808→W .i64 (0-q)= -q:=λq h1 h2=>by rw[aw ω ω];omega
  have h0:(c.2.1:Int)≠0:=h0
  rw[e _ hs kP]
  obtain⟨ok,tot⟩:=XG h0
  refine mk _ ok tot λx hx=> ?_
  rcases bh.1 hx with rfl|hx
  ·exact⟨λh=>absurd h (show ¬dI 1 5 by decide),λh=>absurd h (show ¬(dI 1 6∨dI 1 7)by decide)⟩
  ·rw[cy.1 hx];exact⟨λh=>absurd h (show ¬dI 3 5 by decide),λh=>absurd h (show ¬(dI 3 6∨dI 3 7)by decide)⟩
 ·exact mk [] δ δ λx hx=>nomatch hx
theorem Po(hN:1000≤N){c:ae}(hc:Cq c)(kP:c.2.1<9223372036854775808):Ok (λr:aR×Int=>(GS 5 r.1∧oV c 5 r.1)∧r.2=0) (F75 N c):=by
 unfold F75
 exact ah (Ok.and (Ti N ω hc.1.1) (TD N ω hc kP)) λb ⟨nD,vm,hb3⟩=>bM (λh=>absurd hb3 h) λ_=>aq ⟨⟨⟨cc,(show aF 1 from bz),nD,G.zero 5 sW,G.zero 5 iz,trivial⟩,vm,⟨(show(1:Int)≤1 by decide),(show(1:Int)≤2000*((5:Nat):Int)by decide)⟩,Vn,bs _⟩,rfl⟩
theorem alb(hN:5000000≤N){c:ae}{l:dq}{m:Nat}(hm:m≤700)(hc:Cq c)(kP:c.2.1<9223372036854775808)(hl:wL m l):Ok (λr=>GS 900 r.1∧oV c 900 r.1) (IX N c l):=by
 have Jo:=hl.1
 unfold IX IX.b
 refine ah (Po N ω hc kP) λb ⟨⟨nD,vm⟩,hb3⟩=>bM (λh=>absurd hb3 h) λ_=>bt (len:=l.length) (F:=λn i (z:aR×au)=>IX.l6 N n l c (Ty.zero dP) z.1 z.2 i) (s:=(_,_)) (λi z=>(GS (200+i) z.1∧oV c (200+i) z.1)∧z.2.length≤i) ⟨⟨G.mono ω nD,vm.1,⟨vm.2.1.1,fH vm.2.1.2 δ⟩,vm.2.2⟩,aH 0⟩ ω (λn i z hi hI hr=> ?_) (λn z hI=> ?_)
 all_goals unfold IX.l6 IX.uU
 all_goals obtain⟨⟨h1,h3⟩,h2⟩:=hI
 ·rw[aw (x:=(i:Int)+1) ω ω,af i]
  have hx:G 0 mc (l.getD (i:Int).toNat zz8):=G.at hl _
  exact ax (λ_=>aB ⟨ω,ω⟩ (ah (Ok.and (UG N hN ω ω hc.1.1 h1 hx) (UH N hN ω ω hc.1.1 h1 h3 hx)) λr ⟨BK,zT⟩=>aC (by rw[List.length_singleton];omega) (hr (r.1,z.2++[r.2]) ⟨⟨BK,zT⟩,by dsimp only;rw[List.length_append,List.length_singleton];omega⟩))) λ_=>ω
 ·exact ax (λ_=>ω) λ_=>aq ⟨G.mono ω h1,h3.1,⟨h3.2.1.1,fH h3.2.1.2 ω⟩,h3.2.2⟩
theorem Cq.f{c:ae}(h:Cq c):Cf c∧c.2.1<9223372036854775808:=⟨⟨h.1.1,h.1.2⟩,h.1.1.2.1.2⟩
end VM
end
