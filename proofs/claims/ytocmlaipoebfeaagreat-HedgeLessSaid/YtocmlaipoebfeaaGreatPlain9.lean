/- A part of the proof of HedgeLess of layer 22: what the functions compute, in plain words. -/
import Derived.Test.YtocmlaipoebfeaaGreatPlain8
import Derived.Test.YtocmlaipoebfeaaGreatPlain4
set_option linter.all false
section
namespace VM
open Go VM.F
theorem HF{l s:bm}(h:dv l=true)(hs:s.Sublist l):dv s=true:=by
 obtain⟨h1,h2,h3⟩:=kC.1 h
 exact kC.2 ⟨λx hx=>h1 x (hs.subset hx),h2.sublist hs,ct hs.length_le h3⟩
theorem HG{α:Type}{l s:List α}{d:α}{i:Nat}(hi:i<l.length)(h:s.Sublist (l.take i)):s.Sublist (l.take (i+1))∧(s++[l.getD i d]).Sublist (l.take (i+1)):=by
 have e2:l.take (i+1)=l.take i++[l[i]]:=(td hi).symm
 rw[e2,iD hi]
 exact⟨h.trans (List.sublist_append_left ..),h.append (List.Sublist.refl _)⟩
theorem WW(N:Nat)(hN:200000≤N){l:bm}(hl:l.length≤50000)(a id:Int):Ok (λr=>r.2=0→dv r.1=true∧ ∀x∈r.1,x∈l) (nZ N l a id):=by
 have bad: ∀e:Int,e≠0→Ok (λr:bm×Int=>r.2=0→dv r.1=true∧ ∀x∈r.1,x∈l) (some ([],e)):=λe h=>aq λh'=>absurd h' h
 unfold nZ nZ.b
 refine bw (ij N ω hN) (bz (λ_=>bad _ δ) λhO=>bn (len:=l.length) (F:=λn i s=>nZ.l5 N n l a id s i) (λi s=>s.Sublist (l.take i)) (Fy _) ω (λn i s hi hI hr=> ?_) (λn s hI=> ?_))
 all_goals have hs:=hI.length_le
 all_goals rw[cc]at hs
 all_goals unfold nZ.l5 nZ.eA
 ·rw[aw (x:=(i:Int)+1) ω ω,af i]
  obtain⟨q1,q2⟩:=HG (d:=eT) hi hI
  have h1:=hr s q1
  have h2:=hr _ q2
  repeat' first|exact h1|exact h2|refine aF (by rw[aK];omega) ?_|refine aA ⟨ω,ω⟩ ?_|refine ax (λ_=> ?_) (λ_=> ?_)|refine bt (λ_=> ?_) (λ_=> ?_)|(exfalso;omega)
 ·rw[jf]at hI
  exact ax (λ_=>ω) λ_=>ok_eq (λ_=>bad _ δ) λ_=>aq λ_=>⟨HF hO hI,λx hx=>hI.subset hx⟩
theorem aag(N:Nat)(hN:200000≤N){l:bm}{a:List Int}{m:Nat}(hm:m≤50000)(hl:l.length≤m)(ha:a.length≤m):Ok (λr=>dv l=true→r.Sublist l) (fP N l a):=by
 unfold fP fP.b
 refine bw (ij N ω hN) (bz (λh=>aq λh'=>by rw[h]at h';exact nomatch h') λ_=>bn (len:=l.length) (F:=λn i s=>fP.l5 N n l a s i) (λi s=>s.Sublist (l.take i)) (Fy _) ω (λn i s hi hI hr=> ?_) (λn s hI=> ?_))
 all_goals have hs:=hI.length_le
 all_goals rw[cc]at hs
 all_goals unfold fP.l5 fP.eA
 ·obtain⟨q1,q2⟩:=HG (d:=eT) hi hI
  refine ax (λ_=> ?_) λ_=>ω
  refine bn (len:=a.length) (F:=λn' j b=>fP.l9 N (fP.l5 N n) n' l a s (i:Int) b j) (λ_ _=>True) trivial ω (λn' j b hj _ eF=> ?_) (λn' b _=> ?_)
  all_goals unfold fP.l9 fP.xG
  ·rw[aw (x:=(j:Int)+1) ω ω,af j]
   exact ax (λ_=>sq (λ_=>eF _ trivial) λ_=>aA ⟨ω,ω⟩ (aA ⟨ω,ω⟩ (eF _ trivial))) λ_=>ω
  ·rw[aw (x:=(i:Int)+1) ω ω,af i]
   exact ax (λ_=>ω) λ_=>bz (λ_=>aA ⟨ω,ω⟩ (aF (by rw[aK];omega) (hr _ q2))) λ_=>hr s q1
 ·rw[jf]at hI
  exact ax (λ_=>ω) λ_=>aq λ_=>hI
theorem PX(N:Nat)(hN:5000000≤N){c:ae}{b:an}{m:Nat}(hm:m≤50000)(hb:G m aL b)(hR:RB c b)(id:Int)(bo:jo b.1 id):Ok (λr=>RB c r.1) (L9 N c b id):=by
 have H5:gW b.1 id≠0:=(wm hR.m id).2 bo
 unfold L9
 refine bw (dS N hN hm hb) (bz (λh=>by rw[ub.2 hR]at h;exact nomatch h) λ_=>bw (sj N (ct hb.1.1 ω) ω _) (ok_eq (λh=>absurd h H5) λ_=>ag (Pz N ω hm hb.2.1 _) λa ha=>ag (aag N ω hm hb.2.2.2.2.2.1.1 ha) λr hr=>aq ?_))
 have hs:=hr hR.o
 exact hR.Ml (HF hR.o hs) λx hx=>hR.ok x (hs.subset hx)
theorem adN(N:Nat)(hN:200000≤N){l:bm}(hl:l.length≤50000)(a d:Int):Ok (λr=>r.length≤l.length∧ ∀x∈r,x∈l) (dU N l a d):=by
 unfold dU dU.b
 refine bw (ij N ω hN) (bz (λ_=>aq ⟨bF _,λx hx=>nomatch hx⟩) λ_=>bn (len:=l.length) (F:=λn i s=>dU.l5 N n l a d s i) (λi s=>s.length≤i∧ ∀x∈s,x∈l) ⟨aH 0,λx hx=>nomatch hx⟩ ω (λn i s hi hI hr=> ?_) (λn s hI=> ?_))
 all_goals unfold dU.l5 dU.eA
 ·obtain⟨hs,TA⟩:=hI
  have hx:l.getD (i:Int).toNat eT∈l:=u6 hi
  have fin: ∀k:Nat,k≤s.length→Ok (λr=>r.length≤l.length∧ ∀x∈r,x∈l) (dU.Kl N (dU.l5 N n) l a d s (i:Int) (k:Int)):=λk hk=>by
   unfold dU.Kl dU.CG
   rw[aw (x:=(i:Int)+1) ω ω,af i]
   dsimp only
   have t: ∀a b:Nat,(List.drop a (List.take b s)).length≤s.length:=λa b=>by rw[dC,cc];omega
   have t1:=t (0:Int).toNat (k:Int).toNat
   have t2:=t (k:Int).toNat (s.length:Int).toNat
   refine CD ⟨ω,ω,ω,ω⟩ (aF ω (aA ⟨ω,ω⟩ (aF (by rw[aK];omega) (CD ⟨ω,ω,ω,ω⟩ (aF (by rw[aM,aK];omega) (hr _ ⟨?_,λy hy=> ?_⟩))))))
   ·simp only[cW,aM,dC,cc,aK,aG,dq];omega
   ·rcases bk.1 hy with hy|hy
    ·rcases bk.1 hy with hy|hy
     ·exact TA y (lZ (m9 hy))
     ·rw[cr.1 hy];exact hx
    ·exact TA y (lZ (m9 hy))
  have h1:=hr s ⟨ω,TA⟩
  have hw:Ok (λr=>r.length≤l.length∧ ∀x∈r,x∈l) (dU.l9 N (dU.l5 N n) N l a d s (i:Int) 0):=by
   refine mv (len:=s.length) (F:=λn' j=>dU.l9 N (dU.l5 N n) n' l a d s (i:Int) j) ω (λn' j hj eF=> ?_) (λn'=> ?_)
   all_goals unfold dU.l9 dU.xG
   ·rw[aw (x:=(j:Int)+1) ω ω,af j]
    have hah: ∀x y:c7,Ok (λ_=>True) (WA N x y):=λx y=>by unfold WA;exact bt (λ_=>fh) λ_=>fh
    exact ax (λ_=>aA ⟨ω,ω⟩ (aA ⟨ω,ω⟩ (ag (hah _ _) λ_ _=>sq (λ_=>eF) λ_=>fin j ω))) λ_=>ω
   ·exact ax (λ_=>ω) λ_=>fin _ (aH _)
  rw[aw (x:=(i:Int)+1) ω ω,af i]
  repeat' first|exact h1|exact hw|refine aA ⟨ω,ω⟩ ?_|refine ax (λ_=> ?_) (λ_=> ?_)|refine bt (λ_=> ?_) (λ_=> ?_)|(exfalso;omega)
 ·exact ax (λ_=>ω) λ_=>aq hI
def akU(x:c7)(q:Int):c7:=(x.1,(x.2.1,(x.2.2.1,(x.2.2.2.1,(q,x.2.2.2.2.2)))))
def leftOf(l:bm)(n:Int)(k:Nat)(x:c7):Prop:= ∃q:Int,x=akU (l.getD k eT) q∧n≤q∧q≤1000000000
theorem leftOf.mono{l:bm}{n n':Int}(h:n'≤n){k:Nat}{x:c7}(hx:leftOf l n k x):leftOf l n' k x:=by
 obtain⟨q,e,h1,h2⟩:=hx
 exact⟨q,e,fU h h1,h2⟩
abbrev UJ(l:bm)(o:c7)(r:bm×bs×Int×Int):Prop:=dv r.1=true∧(∀x∈r.1,∃y∈l,x.1=y.1∧x.2.1=y.2.1∧x.2.2.1=y.2.2.1)∧r.2.2.1≤o.2.2.2.2.1
theorem adO{l s:bm}{n:Int}(hs:s.length=l.length)(h: ∀k,k<l.length→leftOf l n k (s.getD k eT))(hp:l.Pairwise Kt):s.Pairwise Kt:=by
 rw[vp]at hp ⊢
 intro i j hi hj qB
 have g: ∀k (hk:k<s.length),s[k].1=(l[k]' ω).1:=λk hk=>by
  obtain⟨q,e,_⟩:=h k ω
  rw[iD hk,iD (show k<l.length by omega)]at e
  rw[e];rfl
 unfold Kt
 rw[g i hi,g j hj]
 exact hp i j ω ω qB
theorem aah(N:Nat)(hN:200000≤N){l:bm}{o:c7}(hl:l.length≤50000)(hO:dv l=true)(ho:jb o):Ok (UJ l o) (cq N l o):=by
 unfold cq cq.b
 refine bw (ij N ω hN) (bz (λh=>by rw[hO]at h;exact nomatch h) λ_=>bw (Ba N o) (bz (λh=>absurd ho (Fo h)) λ_=>aF (by rw[ck];omega) (ag (adN N hN hl _ _) λw ⟨hwl,hwm⟩=> ?_)))
 obtain⟨h1,h2,h3⟩:=kC.1 hO
 rw[cW]
 have fin: ∀(n:Int) (s:bm) (q:Int) (t:bs),s.length=l.length→(∀k,k<l.length→leftOf l n k (s.getD k eT))→q≤o.2.2.2.2.1→Ok (UJ l o) (cq.j22 N s q t):=λn s q t hs NC hq=>by
  unfold cq.j22 cq.ads
  refine bn (len:=s.length) (F:=λn i u=>cq.Ds N n s q t u i) (λi u=>u.Sublist (s.take i)∧ ∀x∈u,oc 0 x.2.2.2.2.1) ⟨Fy _,λx hx=>nomatch hx⟩ ω (λn i u hi hI hr=> ?_) (λn u hI=> ?_)
  all_goals obtain⟨i1,i2⟩:=hI
  all_goals have Ig:=i1.length_le
  all_goals rw[cc]at Ig
  all_goals unfold cq.Ds cq.Ef
  ·rw[aw (x:=(i:Int)+1) ω ω,af i,aG]
   obtain⟨q1,q2⟩:=HG (d:=eT) hi i1
   exact ax (λ_=>aA ⟨ω,ω⟩ (ax (λhq=>aA ⟨ω,ω⟩ (aF (by rw[aK];omega) (hr _ ⟨q2,λx hx=>by
    rcases bk.1 hx with hx|hx
    ·exact i2 x hx
    ·rw[cr.1 hx];exact hq⟩))) λ_=>hr u ⟨q1,i2⟩)) λ_=>ω
  ·rw[jf]at i1
   have at': ∀x∈s,∃y∈l,∃q:Int,x=akU y q∧q≤1000000000:=λx hx=>by
    obtain⟨k,hk,e⟩:=gd hx
    obtain⟨q,e',_,h⟩:=NC k ω
    rw[iD hk,e]at e'
    exact⟨_,u6 (d:=eT) (show k<l.length by omega),q,e',h⟩
   refine ax (λ_=>ω) λ_=>aq ⟨kC.2 ⟨λx hx=> ?_,(adO hs NC h2).sublist i1,by have:=i1.length_le;dsimp only at*;omega⟩,λx hx=> ?_,hq⟩
   ·obtain⟨y,hy,q,e,hq⟩:=at' x (i1.subset hx)
    have h0:=i2 x hx
    have ok:=h1 y hy
    subst e
    exact⟨ok.1,ok.2.1,ok.2.2.1,ok.2.2.2.1,⟨show(1:Int)≤q from h0,hq⟩,ok.2.2.2.2.2⟩
   ·obtain⟨y,hy,q,e,_⟩:=at' x (i1.subset hx)
    exact⟨y,hy,by rw[e];rfl,by rw[e];rfl,by rw[e];rfl⟩
 refine bn (len:=w.length) (F:=λn i (s:bm×Int×bs)=>cq.l7 N n o s.1 s.2.1 s.2.2 w i) (s:=(_,(_,_))) (λi s=>(s.1.length=l.length∧ ∀k,k<l.length→leftOf l (-1000000000*(i:Int)) k (s.1.getD k eT))∧(0≤s.2.1∧s.2.1≤o.2.2.2.2.1)∧s.2.2.length≤i) ⟨⟨rfl,λk hk=>⟨(l.getD k eT).2.2.2.2.1,rfl,?_,?_⟩⟩,⟨?_,dP _⟩,bF _⟩ ω (λn i s hi hI hr=> ?_) (λn s hI=> ?_)
 ·have:=(h1 _ (u6 (d:=eT) hk)).2.2.2.2.1.1
  exact fU δ this
 ·exact(h1 _ (u6 (d:=eT) hk)).2.2.2.2.1.2
 ·exact fU δ ho.2.2.2.2.1.1
 all_goals unfold cq.l7 cq.p6
 ·obtain⟨⟨hs,NC⟩,hq,ht⟩:=hI
  have hoq:o.2.2.2.2.1≤1000000000:=ho.2.2.2.2.1.2
  have f1:=fin _ s.1 s.2.1 s.2.2 hs NC hq.2
  have hx:=h1 _ (hwm _ (u6 (d:=eT) hi))
  have akM: ∀(v:Int) (t:iP),0≤v→v≤s.2.1→v≤1000000000→Ok (UJ l o) (cq.ze N (cq.l7 N n) o s.1 s.2.1 s.2.2 w (i:Int) v t):=λv t v0 v1 v2=>by
   unfold cq.ze cq.s0
   have TN:s.2.1≤1000000000:=fU hq.2 hoq
   rw[aw (x:=s.2.1-v) ω ω]
   refine aF (by rw[aK];omega) (bn (len:=s.1.length) (F:=λn' j u=>cq.Ie N (cq.l7 N n) n' o u (s.2.1-v) (s.2.2++[t]) w (i:Int) v j) (λj u=>u.length=l.length∧ ∀k,k<l.length→leftOf l (if k<j then-1000000000*((i:Int)+1)else-1000000000*(i:Int)) k (u.getD k eT)) ⟨hs,λk hk=>by rw[aj ω];exact NC k hk⟩ ω (λn' j u hj hJ eF=> ?_) (λn' u hJ=> ?_))
   all_goals obtain⟨Ig,hum⟩:=hJ
   all_goals unfold cq.Ie cq.Et
   ·rw[aw (x:=(j:Int)+1) ω ω,af j,aG,aG]
    have same: ∀k,k<l.length→k≠j→leftOf l (if k<j+1 then-1000000000*((i:Int)+1)else-1000000000*(i:Int)) k (u.getD k eT):=λk hk e=>by
     have:=hum k hk
     by_cases h:k<j
     ·rw[ah h]at this;rw[ah ω];exact this
     ·rw[aj h]at this;rw[aj ω];exact this
    have h0:=hum j ω
    rw[aj ω]at h0
    refine ax (λ_=>aA ⟨ω,ω⟩ (aA ⟨ω,ω⟩ (ok_eq (λ_=>aA ⟨ω,ω⟩ (aA ⟨ω,ω⟩ (eF _ ⟨by rw[bM];exact Ig,λk hk=> ?_⟩))) λ_=>eF u ⟨Ig,λk hk=> ?_⟩))) λ_=>ω
    ·by_cases e:k=j
     ·subst e
      rw[ah ω]
      obtain⟨q,e,q1,q2⟩:=h0
      have es: ∀y:c7,(u.set k y).getD k eT=y:=λy=>by
       rw[aU,List.getElem?_set_self ω];rfl
      rw[es,e]
      unfold akU
      dsimp only
      rw[aw (x:=q-v) ω ω]
      exact⟨q-v,rfl,ω,ω⟩
     ·have es: ∀y:c7,(u.set j y).getD k eT=u.getD k eT:=λy=>by
       rw[aU,aU,List.getElem?_set_ne ω]
      rw[es];exact same k hk e
    ·by_cases e:k=j
     ·subst e
      rw[ah ω]
      exact h0.mono ω
     ·exact same k hk e
   ·rw[aw (x:=(i:Int)+1) ω ω,af i]
    exact ax (λ_=>ω) λ_=>hr (_,(_,_)) ⟨⟨Ig,λk hk=>by
     have:=hum k hk
     rw[ah ω]at this
     rw[Int.natCast_add];exact this⟩,⟨by dsimp only;omega,by dsimp only;omega⟩,by dsimp only;rw[List.length_append,List.length_singleton];omega⟩
  have Ma:0<s.2.1→Ok (UJ l o) (cq.SJ N (cq.l7 N n) o s.1 s.2.1 s.2.2 w (i:Int)):=λNB=>by
   unfold cq.SJ cq.Mb
   rw[aw (x:=(i:Int)+1) ω ω,af i,aG]
   dsimp only
   have h1:=hr s ⟨⟨hs,λk hk=>(NC k hk).mono ω⟩,hq,ω⟩
   have TN:s.2.1≤1000000000:=fU hq.2 hoq
   have hm:0≤mn s.2.1 (w.getD i eT).2.2.2.2.1∧mn s.2.1 (w.getD i eT).2.2.2.2.1≤s.2.1:=by
    have h1:=hx.2.2.2.2.1.1
    generalize (w.getD i eT).2.2.2.2.1=q at*
    rw[Xw];split<;>omega
   repeat' first|exact h1|exact akM _ _ hm.1 hm.2 (fU hm.2 TN)|refine aA ⟨ω,ω⟩ ?_|refine ok_eq (λ_=> ?_) (λ_=> ?_)
  repeat' first|exact f1|exact Ma (by assumption)|refine aA ⟨ω,ω⟩ ?_|refine ax (λ_=> ?_) (λ_=> ?_)|refine ok_eq (λ_=> ?_) (λ_=> ?_)|(exfalso;omega)
 ·obtain⟨⟨hs,NC⟩,hq,ht⟩:=hI
  exact ax (λ_=>ω) λ_=>fin _ _ _ _ hs NC hq.2
theorem aai(N:Nat)(hN:5000000≤N){c:ae}{b:an}{o:c7}{m:Nat}(h2:200≤m)(hm:m≤40000)(hc:G m aB c)(hb:G m aL b)(hR:RB c b)(ho:G 0 lE o):Ok (λr=>r.2.2.2=0→RB c r.1) (jn N c b o):=by
 have Cc:=hb.2.2.2.2.2.1.1
 have dT: ∀(t:bs) (e:Int),e≠0→Ok (λr:an×bs×Int×Int=>r.2.2.2=0→RB c r.1) (some ((cg,(cT,(bq,(bq,(de,(dk,())))))),(t,((0:Int),e)))):=λt e h=>aq λh'=>absurd h' h
 obtain⟨g1,g2,g3⟩:=kC.1 hR.o
 unfold jn jn.b
 refine ag (BH N hN h2 hm hc hb (G.mono (bF m) ho)) λe he=>bt (λh=>dT _ _ h) λe0=> ?_
 obtain⟨o1,o2,o3⟩:=he e0
 have oA:=(p3 hR.a _).1 o2
 have Ma: ∀(r:bm) (t:bs) (q:Int),dv r=true→(∀x∈r,∃y∈b.2.2.2.2.2.1,x.1=y.1∧x.2.1=y.2.1∧x.2.2.1=y.2.2.1)→q≤o.2.2.2.2.1→(0<q→r.length≤31)→(∀y∈b.2.2.2.2.2.1,oc y.1 o.1)→Ok (λr=>r.2.2.2=0→RB c r.1) (jn.SJ N c b o (cg,(cT,(bq,(bq,(de,(dk,())))))) r t q):=λr t q hr hrm hq I8 fj=>by
  obtain⟨r1,r2,r3⟩:=kC.1 hr
  unfold jn.SJ jn.Mb
  refine ag (Kw N hN ω hb hR) λz hz=>bt (λh=>dT _ _ h) λz0=> ?_
  obtain⟨zR,_,za,_⟩:=hz z0
  have hk: ∀x∈r,HA c z.1.2.1 x:=λx hx=>by
   obtain⟨y,hy,_,e1,e2⟩:=hrm x hx
   have:=hR.ok y hy
   unfold HA at this ⊢
   rw[za,e1,e2];exact this
  refine ax (λh0=>aF (by rw[aK];omega) (aq λ_=>zR.Ml (kC.2 ⟨λx hx=> ?_,?_,?_⟩) λx hx=> ?_)) λ_=>aq λ_=>zR.Ml hr hk
  ·rcases bk.1 hx with hx|hx
   ·exact r1 x hx
   ·rw[cr.1 hx]
    exact⟨o1.1,o1.2.1,o1.2.2.1,o1.2.2.2.1,⟨h0,fU hq o1.2.2.2.2.1.2⟩,o1.2.2.2.2.2⟩
  ·rw[wY]
   refine⟨r2,Ff ..,λx hx y hy=> ?_⟩
   rw[cr.1 hy]
   obtain⟨u,hu,e,_⟩:=hrm x hx
   unfold Kt
   rw[e];exact fj u hu
  ·rw[aM,aK];have:=I8 h0;omega
  ·rcases bk.1 hx with hx|hx
   ·exact hk x hx
   ·rw[cr.1 hx]
    unfold HA
    rw[za];exact⟨oA,o3⟩
 have hj7:(∀y∈b.2.2.2.2.2.1,oc y.1 o.1)→Ok (λr=>r.2.2.2=0→RB c r.1) (jn.j7 N c b o (cg,(cT,(bq,(bq,(de,(dk,()))))))):=λfj=>by
  unfold jn.j7 jn.Rr
  refine ag (aah N ω ω hR.o o1) λz ⟨z1,z2,z3⟩=> ?_
  have zl:=(kC.1 z1).2.2
  exact ax (λh0=>ok_eq (λ_=>dT _ _ δ) λiI=>Ma _ _ _ z1 z2 z3 (λ_=>ω) fj) λh0=>Ma _ _ _ z1 z2 z3 (λh=>ω) fj
 refine ax (λh0=> ?_) λh0=>hj7 λy hy=> ?_
 ·dsimp only
  refine aA (by rw[aw ω ω];omega) (ew (λ_=>dT _ _ δ) λaaj=>hj7 λy hy=> ?_)
  have e1:(W .i64 ((b.2.2.2.2.2.1.length:Int)-1)).toNat=b.2.2.2.2.2.1.length-1:=by rw[aw ω ω];omega
  rw[e1,iD ω]at aaj
  obtain⟨k,hk,e⟩:=gd hy
  by_cases h:k=b.2.2.2.2.2.1.length-1
  ·subst h;rw[←e];exact aaj
  ·have:=vp.1 g2 k (b.2.2.2.2.2.1.length-1) hk ω ω
   rw[e]at this
   exact Mi this aaj
 ·have:=List.length_pos_of_mem hy
  omega
end VM
end
section
namespace VM
open Go VM.F
theorem adP(N:Nat)(hN:5000000≤N){c:ae}{b:an}{m:Nat}(hm:m≤40000)(hc:G m aB c)(hb:G m aL b)(hR:RB c b)(f:Int)(to a:Int):Ok (λr=>r.2=0→RB c r.1) (WD N c b f to a):=by
 have bad: ∀e:Int,e≠0→Ok (λr:an×Int=>r.2=0→RB c r.1) (some ((cg,(cT,(bq,(bq,(de,(dk,())))))),e)):=λe h=>aq λh'=>absurd h' h
 unfold WD
 refine ag (ZT N hN hm hc hb _ _ _) λ_ _=>bt (λh=>bad _ h) λ_=>ag (SV N ω (ct hb.1.1 ω) (ct hb.2.1.1 ω) _ _) λr hr=>bt (λh=>bad _ h) λh0=>aq λ_=> ?_
 obtain⟨r1,r2,r3⟩:=hr h0
 exact hR.WV hR.m r1 (λ_ h=>h) r2 r3
theorem aak(N:Nat)(hN:200000≤N){c:ae}{b:an}{m:Nat}(hm:m≤50000)(hb:G m aL b)(hR:RB c b){a:Int}(ha:q5 b.2.1 a):Ok (λr=>SB c b.2.1 r∧r.length≤2*m) (m6 N b.2.2.2.1 a 0):=by
 have h:=hb.2.2.2.1
 have hl:=h.1
 have hp:=(eY (fG (ub.2 hR)).2).2
 unfold m6 m6.b
 have nil:Ok (λr:au=>SB c b.2.1 r∧r.length≤2*m) (some []):=aq ⟨SB.nil,bF _⟩
 refine bw (mQ N ω hN) (bz (λ_=>nil) λ_=>ok_eq (λ_=>nil) λ_=>ax (λ_=>nil) λa0=>ax (λ_=>nil) λa1=>ax (λ_=>nil) λ_=>ax (λ_=>nil) λ_=>bn (len:=b.2.2.2.1.length) (F:=λn i s=>m6.l5 N n b.2.2.2.1 a 0 s i) (λi s=>SB c b.2.1 s∧s.length≤2*i) ⟨SB.nil,bF _⟩ ω (λn i s hi hI hr=> ?_) (λn s hI=> ?_))
 all_goals unfold m6.l5 m6.eA
 all_goals obtain⟨i1,i2⟩:=hI
 ·have hx:G m iT (b.2.2.2.1.getD i a6):=h.2 _ (u6 hi)
  have TQ:=hp _ (u6 (d:=a6) hi)
  have hx2:=hR.sk _ (u6 (d:=a6) hi)
  dsimp only
  rw[aw (x:=(i:Int)+1) ω ω,af i,aG]
  have h1:=hr s ⟨i1,ω⟩
  have hq:aE (b.2.2.2.1.getD i a6).2.2.1:=hx.2.2.1
  have lC:qE (b.2.2.2.1.getD i a6).2.2.1:=TQ.2
  have pl:=TQ.1
  have ins:=hx2.2
  generalize (b.2.2.2.1.getD i a6).2.2.1=q at*
  generalize (b.2.2.2.1.getD i a6).2.1=k at*
  have hn:=(aku ⟨hq,lC⟩).1
  unfold aE at hn
  rw[aw hn.1 hn.2]
  exact ax (λ_=>aA ⟨ω,ω⟩ (ok_eq (λ_=>aA ⟨ω,ω⟩ (aA ⟨ω,ω⟩ (aA ⟨ω,ω⟩ (aA ⟨ω,ω⟩ (aF (by rw[tC];omega) (hr _ ⟨SB.app i1 (SB.two hn hq ω ⟨⟨a0,a1,pl.2.2.1,pl.2.2.2⟩,.inr ha,ins⟩ ⟨⟨δ,δ,pl.2.2.1,pl.2.2.2⟩,.inl rfl,ins⟩),by rw[aM,aR,aK];omega⟩)))))) λ_=>h1)) λ_=>ω
 ·exact ax (λ_=>ω) λ_=>aq ⟨i1,ω⟩
theorem WX{c:ae}{b:an}(h:RB c b):b.2.1.length≤24:=PK h.a
theorem adQ(N:Nat)(hN:5000000≤N){c:ae}{b:an}{m:Nat}(h2:200≤m)(hm:m≤1000)(hc:G m aB c)(hb:G m aL b)(hR:RB c b)(a:Int):Ok (Kv c b) (gA N c b a):=by
 have hal:=WX hR
 unfold gA gA.b
 refine bw (dS N hN ω hb) (bz (λ_=>Kv.bad δ) λhB=>ag (ru N ω ω hb _) λ_ _=>ok_eq (λ_=>Kv.bad δ) λ_=> ?_)
 refine bn (len:=b.2.1.length) (F:=λn i (z:au×bJ)=>gA.l8 N n a c b (cg,(cT,(bq,(bq,(de,(dk,())))))) z.1 z.2 i) (s:=(_,_)) (λi z=>(SB c b.2.1 z.1∧z.1.length≤2*m*i)∧PB b.1 b.2.1 z.2∧z.2.length≤4*i) ⟨⟨SB.nil,bF _⟩,PB.nil,bF _⟩ ω (λn i z hi hI hr=> ?_) (λn z hI=> ?_)
 all_goals unfold gA.l8 gA.Dy
 all_goals obtain⟨⟨h5,h7⟩,h6,h8⟩:=hI
 ·have hmi:2*m*i≤2*m*24:=me _ ω
  have hms:2*m*(i+1)=2*m*i+2*m:=rK _ _
  have hx:G m eu (b.2.1.getD (i:Int).toNat aW):=G.at hb.2.1 _
  have hA:q5 b.2.1 (b.2.1.getD (i:Int).toNat aW).1:=⟨_,u6 hi,rfl⟩
  have hM:=vj hR hA
  have hF:cV 2 0∧jw b.1 b.2.1 2 0:=CO δ
  have hj: ∀p:bJ,PB b.1 b.2.1 p→p.length≤4*i+2→Ok (Kv c b) (gA.ze N (gA.l8 N n) a c b (cg,(cT,(bq,(bq,(de,(dk,())))))) z.1 p (i:Int) (b.2.1.getD (i:Int).toNat aW)):=λp hp AN=>by
   unfold gA.ze gA.s0
   rw[aw (x:=(i:Int)+1) ω ω,af i]
   exact ag (vf N ω ω hb _) λg hg=>ax (λ_=>bw (da N ω hg.1 hg.2) (bw (oE N ω (vQ (ui hg).1)) (ag (tR N ω ⟨(ui hg).2,by rw[Int.neg_neg];exact(ui hg).1⟩ hF hM) λu ⟨hu,Ig⟩=>aF ω (ag (aak N ω ω hb hR hA) λs ⟨hs,NC⟩=>aF ω (hr (_,_) ⟨⟨SB.app h5 hs,by dsimp only;rw[List.length_append];omega⟩,PB.app hp hu,by dsimp only;rw[List.length_append];omega⟩))))) λ_=>ag (aak N ω ω hb hR hA) λs ⟨hs,NC⟩=>aF ω (hr (_,_) ⟨⟨SB.app h5 hs,by dsimp only;rw[List.length_append];omega⟩,hp,by dsimp only;omega⟩)
  rw[aw (x:=(i:Int)+1) ω ω,af i]
  exact ax (λ_=>aA ⟨ω,ω⟩ (bt (λ_=>hr z ⟨⟨h5,ω⟩,h6,ω⟩) λ_=>ok_eq (λ_=>ag (Kr N hN ω hc hb _) λq hq=>bw (da N ω hq.1 hq.2) (ag (tR N ω (ui hq) hM hF) λu ⟨hu,Ig⟩=>aF ω (hj _ (PB.app h6 hu) (by rw[aM];omega)))) λ_=>hj _ h6 ω)) λ_=>ω
 ·have hmi:2*m*b.2.1.length≤2*m*24:=me _ ω
  exact ax (λ_=>ω) λ_=>ag (tQ N ω ω hb hR h5 h6 ω ω) λr hr=>aq hr
theorem zM{n:Int}: ∀{l:aO},nN n l≠0→q5 l (nN n l)
 |[],h=>absurd rfl h
 |x::t,h=>by
  rw[tB]at h ⊢
  have up:q5 t (nN n t)→q5 (x::t) (nN n t):=λ⟨y,hy,e⟩=>⟨y,a7 _ hy,e⟩
  by_cases e1:x.2.1=n
  ·rw[ah e1]at h ⊢
   by_cases e2:x.2.2.1=1
   ·rw[ah e2];exact⟨x,bh ..,rfl⟩
   ·rw[aj e2]at h ⊢;exact up (zM h)
  ·rw[aj e1]at h ⊢;exact up (zM h)
theorem Ky{a:aO}{n:Int}(h:nO a n≠0):q5 a (nO a n):=by
 unfold nO at*
 split at h
 ·rw[ah (by assumption)];exact zM h
 ·exact absurd rfl h
def UK(c:ae)(y:Cm):Prop:=(0≤y.1∧oc y.1 c.1.length)∧qE y.2.1
theorem SY{c:ae}{L:bE}(h:Ct c L=true): ∀x∈L,∀y∈x.2.1,UK c y:=by
 unfold Ct at h
 simp only[bB,fv,fb]at h
 refine(gX (d:=((0:Int),(cg,aW))) (Q:=λx=> ∀y∈x.2.1,UK c y)).1 λj hj=> ?_
 have h1:=(h.2.2 j hj).2.2.2.1
 unfold oM at h1
 exact(gX (d:=cv) (Q:=UK c)).1 λi hi=>by
  have h2:=bA (dw.1 h1).1 i hi
  exact⟨⟨h2.1,h2.2.1⟩,h2.2.2.2.1⟩
theorem aal(N:Nat)(hN:5000000≤N){c:ae}{b:an}{L:bE}{l:aO}{m:Nat}(h2:200≤m)(hm:m≤2000)(hb:G m aL b)(hR:RB c b)(hL:LL m L)(hl:G m (.slice eu) l):Ok (λr=>r.2.2=0→RB c r.1) (pq N c b L l):=by
 have dT: ∀e:Int,e≠0→Ok (λr:an×bE×Int=>r.2.2=0→RB c r.1) (some ((cg,(cT,(bq,(bq,(de,(dk,())))))),([],e))):=λe h=>aq λh'=>absurd h' h
 have h3:=hL.1
 have h4:=hl.1
 have hw:JL L:=λy hy=>ct (hL.2 y hy).2.1.1 ω
 have hci:c.1.length≤6:=by
  have:=hR.c
  unfold eo at this
  exact(bA (dw.1 this).1).2
 unfold pq pq.b
 refine bw (dS N hN ω hb) (bz (λ_=>dT _ δ) λ_=>bw (Bs N ω c ω hw) (bz (λ_=>dT _ δ) λhk=>bw (vb N ω ω) (bz (λ_=>dT _ δ) λ_=> ?_)))
 have aqw:=SY hk
 have h12:L.length≤12:=by
  unfold Ct at hk
  exact bA (dw.1 (dw.1 hk).2).1
 refine bn (len:=L.length) (F:=λn i (z:au×bJ×bE)=>pq.l7 N n L l b (cg,(cT,(bq,(bq,(de,(dk,())))))) z.1 z.2.1 z.2.2 i) (s:=(_,(_,_))) (λi z=>(SB c b.2.1 z.1∧z.1.length≤2*m*i)∧(PB b.1 b.2.1 z.2.1∧z.2.1.length≤2*i)∧z.2.2.length≤i) ⟨⟨SB.nil,bF _⟩,⟨PB.nil,bF _⟩,bF _⟩ ω (λn i z hi hI hr=> ?_) (λn z hI=> ?_)
 all_goals unfold pq.l7 pq.p6
 all_goals obtain⟨⟨h5,h8⟩,⟨h6,h9⟩,h7⟩:=hI
 ·have hmi:2*m*i≤2*m*12:=me _ ω
  have hms:2*m*(i+1)=2*m*i+2*m:=rK _ _
  have hx:G m jI (L.getD (i:Int).toNat ((0:Int),(cg,aW))):=G.at hL _
  have hxl:=hx.2.1.1
  have awd:=aqw _ (u6 (d:=((0:Int),(cg,aW))) hi)
  rw[aw (x:=(i:Int)+1) ω ω,af i]
  dsimp only
  rw[cW]
  have put: ∀x:jc,Ok (λr=>r.2.2=0→RB c r.1) (cond (small (z.2.2.length+[x].length)) (pq.l7 N n L l b (cg,(cT,(bq,(bq,(de,(dk,())))))) z.1 z.2.1 (z.2.2++[x]) ((i+1:Nat):Int)) none):=λx=>aF (by rw[List.length_singleton];omega) (hr (z.1,(z.2.1,z.2.2++[x])) ⟨⟨h5,by dsimp only;omega⟩,⟨h6,by dsimp only;omega⟩,by dsimp only;rw[List.length_append,List.length_singleton];omega⟩)
  refine ax (λ_=>aA ⟨ω,ω⟩ (aF (by rw[ck];omega) (bt (λ_=>put _) λ_=>ag (UF N ω ω hl _) λw hw=>bz (λ_=>put _) λ_=>bw (rn N (ct hb.2.1.1 ω) ω _) (ok_eq (λ_=>dT _ δ) λhh=>ag (ru N ω ω hb _) λ_ _=>ok_eq (λ_=>dT _ δ) λ_=> ?_)))) λ_=>ω
  have hA:=Ky hh
  have hM:=vj hR hA
  have hF:cV 2 0∧jw b.1 b.2.1 2 0:=CO δ
  have aqx:0≤nO b.2.1 w.1.2.2.1∧nO b.2.1 w.1.2.2.1≤24:=by
   have:=hM.1
   unfold cV at this;omega
  generalize nO b.2.1 w.1.2.2.1=h at*
  have hX': ∀y∈(L.getD (i:Int).toNat ((0:Int),(cg,aW))).2.1,UK c y∧G m jH y:=λy hy=>⟨awd y (by rw[aG]at hy;exact hy),hx.2.1.2 y hy⟩
  generalize hX:(((L.getD (i:Int).toNat ((0:Int),(cg,aW))).1,((L.getD (i:Int).toNat ((0:Int),(cg,aW))).2.1,((L.getD (i:Int).toNat ((0:Int),(cg,aW))).2.2.1,((2:Int),(w.1.2.2.1,(w.1.2.2.2.1,())))))):jc)=X
  have hXe:X.2.1=(L.getD (i:Int).toNat ((0:Int),(cg,aW))).2.1:=by rw[←hX]
  rw[←hXe]at hX' hxl
  refine bn (len:=X.2.1.length) (F:=λn' j u=>pq.xL N (pq.l7 N n) n' L l b (cg,(cT,(bq,(bq,(de,(dk,())))))) u z.2.1 z.2.2 (i:Int) X w.1 h j) (s:=z.1) (λj u=>SB c b.2.1 u∧u.length≤2*m*i+2*j) ⟨h5,h8⟩ ω (λn' j u hj hu eF=> ?_) (λn' u hu=> ?_)
  all_goals unfold pq.xL pq.wQ
  all_goals obtain⟨hu,Ig⟩:=hu
  ·have hy:=hX' _ (u6 (d:=cv) hj)
   dsimp only
   rw[aw (x:=(j:Int)+1) ω ω,af j,aG]
   generalize X.2.1.getD j cv=y at*
   obtain⟨⟨⟨y0,y1⟩,y2⟩,y3⟩:=hy
   have hq:aE y.2.1:=y3.2.1
   have hn:=(aku ⟨hq,y2⟩).1
   have hn':=hn
   unfold aE at hn'
   have e:W .i64 (0-y.2.1)=0-y.2.1:=aw hn'.1 hn'.2
   rw[e]
   have g6: ∀x:Int,oc x c.1.length→x<6:=λx h=>by unfold oc at h;omega
   exact ax (λ_=>aA ⟨ω,ω⟩ (aA ⟨ω,ω⟩ (aA ⟨ω,ω⟩ (aA ⟨ω,ω⟩ (aF (by rw[tC];omega) (eF _ ⟨SB.app hu (SB.two hn hq ω ⟨⟨δ,δ,y0,g6 _ y1⟩,.inl rfl,y1⟩ ⟨⟨aqx.1,aqx.2,y0,g6 _ y1⟩,.inr hA,y1⟩),by rw[aM,aR,aK];omega⟩)))))) λ_=>ω
  ·have G1:aE w.1.2.2.2.1:=hw.2.2.2.1
   refine ax (λ_=>ω) λ_=>bw (da N ω G1.1 G1.2) (ag (tR N ω (ui G1) hM hF) λp ⟨hp,AN⟩=>aF ω (aF (by rw[aK];omega) ?_))
   rw[aw (x:=(i:Int)+1) ω ω,af i]
   exact hr (_,(_,_)) ⟨⟨hu,by dsimp only;omega⟩,⟨PB.app h6 hp,by dsimp only;rw[List.length_append];omega⟩,by dsimp only;rw[List.length_append,List.length_singleton];omega⟩
 ·have hmi:2*m*L.length≤2*m*12:=me _ ω
  exact ax (λ_=>ω) λ_=>ag (tQ N ω ω hb hR h5 h6 ω ω) λr hr=>bt (λh=>dT _ h) λh0=>aq λ_=>(hr h0).1
end VM
end
section
namespace VM
open Go VM.F
theorem Kz{a k:Int}: ∀{l:au},gk a k l≠0→ ∃x∈l,x.1=a∧x.2.1=k
 |[],h=>absurd rfl h
 |x::t,h=>by
  rw[gZ]at h
  have up:gk a k t≠0→ ∃y∈x::t,y.1=a∧y.2.1=k:=λh=>let⟨y,hy,e⟩:=Kz h;⟨y,a7 _ hy,e⟩
  by_cases e1:x.1=a
  ·rw[ah e1]at h
   by_cases e2:x.2.1=k
   ·exact⟨x,bh ..,e1,e2⟩
   ·rw[aj e2]at h;exact up h
  ·rw[aj e1]at h;exact up h
def PT(b:an)(k n:Int):Prop:=cV k n∧jw b.1 b.2.1 k n
theorem adR{c:ae}{b:an}(hR:RB c b){k n:Int}(h:ou b.2.2.1 k n≠0):PT b k n:=by
 unfold ou at h
 rw[ah hR.r]at h
 obtain⟨x,hx,e1,e2⟩:=Kz h
 have h1:=(oP hR.r).2 x hx
 have h2:=hR.rk x hx
 rw[e1,e2]at h1 h2
 exact⟨h1,h2⟩
theorem aam{a:aO}(hA:gh a=true){id:Int}{x:bT×Bool}(e:x=et a id)(h:x.2=true):q5 a x.1.1:=by
 subst e
 unfold et at*
 rw[ah hA]at h ⊢
 have key: ∀l:aO,(si id l).2=true→(si id l).1∈l:=by
  intro l
  induction l with
  |nil=>intro h;exact nomatch h
  |cons y t ih=>
   intro h
   rw[mD]at h ⊢
   by_cases e:y.1=id
   ·rw[ah e];exact bh ..
   ·rw[aj e]at h ⊢;exact a7 _ (ih h)
 exact⟨_,key a h,rfl⟩
abbrev T5(b:an)(k:Nat)(l:bs):Prop:=l.length≤k∧ ∀x∈l,PT b x.2.1 x.2.2.1
theorem T5.mono{b:an}{j k:Nat}{l:bs}(h:T5 b j l)(hk:j≤k):T5 b k l:=⟨ct h.1 hk,h.2⟩
theorem T5.nil{b:an}{k:Nat}:T5 b k []:=⟨bF _,λx hx=>nomatch hx⟩
theorem T5.app{b:an}{k:Nat}{l:bs}(h:T5 b k l){s d n x y:Int}(hx:PT b d n):T5 b (k+1) (l++[(s,(d,(n,(x,(y,())))))]):=
 ⟨by rw[aM,aK];exact Nat.succ_le_succ h.1,λz hz=>by
  rcases bk.1 hz with hz|hz
  ·exact h.2 z hz
  ·rw[cr.1 hz];exact hx⟩
theorem row_in(N:Nat)(hN:200000≤N){c:ae}{l:bs}{b:an}{m k:Nat}(hm:m≤50000)(hb:G m aL b)(hR:RB c b)(hk:k≤1000000)(hl:T5 b k l)(a d n:Int):Ok (T5 b (k+1)) (Mf N l b a d n):=by
 have h1:=hl.1
 unfold Mf
 exact bw (Sk N (ct hb.2.2.1.1 ω) hN _ _) (ax (λh=>aF (by rw[aK];omega) (aq (T5.app hl (adR hR ω)))) λ_=>aq (T5.mono hl ω))
theorem aan(N:Nat)(hN:5000000≤N){c:ae}{b:an}{d g:aD}{a:Int}{m:Nat}(hm:m≤50000)(hc:G m aB c)(hb:G m aL b)(hR:RB c b)(hd:L2 m d)(hg:L2 m g):Ok (λr=>T5 b 1000000 r.1∧(r.2=0→jo b.1 a)) (cP N c b a d g):=by
 have h1:=hb.1.1
 have h2:=hd.1
 have h3:=hg.1
 have h4:=hb.2.1.1
 have nil: ∀e:Int,e≠0→Ok (λr:bs×Int=>T5 b 1000000 r.1∧(r.2=0→jo b.1 a)) (some ([],e)):=λe h=>aq ⟨T5.nil,λh'=>absurd h' h⟩
 have hj:jo b.1 a→ ∀l:bs,T5 b 1 l→Ok (λr=>T5 b 1000000 r.1∧(r.2=0→jo b.1 a)) (cP.j9 N a d g c b l):=λhMa l hl=>by
  unfold cP.j9 cP.On
  refine ag (row_in N ω hm hb hR ω hl _ _ _) λl hl=>ag (row_in N ω hm hb hR ω hl _ _ _) λl hl=>kX (len:=5) (F:=λn k s=>cP.lx N n a d g c b s k) (λk s=>T5 b (3+m*k) s) (λn k s hk hs hr=> ?_) (λn s hs=> ?_) 5 N 1 l ω ω ω (T5.mono hl ω)
  all_goals unfold cP.lx cP.kt
  ·have hmk:m*k≤m*4:=me m ω
   refine ew (λ_=>ag (Hn N hN c hm hb hd _ _) λt ht=> ?_) λ_=>ω
   have htl:=ht.1
   refine bn (len:=t.1.length) (F:=λn' j u=>cP.xK N (cP.lx N n) n' a d g c b u (k:Int) t.1 j) (λj u=>T5 b (3+m*k+j) u) hs ω (λn' j u hj hu eF=> ?_) (λn' u hu=> ?_)
   all_goals unfold cP.xK cP.wP
   ·rw[aw (x:=(j:Int)+1) ω ω,af j]
    exact ax (λ_=>aA ⟨ω,ω⟩ (ag (row_in N ω hm hb hR ω hu _ _ _) λv hv=>eF v hv)) λ_=>ω
   ·rw[aw (x:=(k:Int)+1) ω ω,af k]
    exact ax (λ_=>ω) λ_=>hr u (T5.mono hu (by rw[rK];omega))
  ·refine ew (λ_=>ω) λ_=>bn (len:=b.1.length) (F:=λn j u=>cP.IV N n a g c b u j) (λj u=>T5 b (3+m*5+j) u) hs ω (λn j u hj hu hr=> ?_) (λn u hu=> ?_)
   all_goals unfold cP.IV cP.PF
   ·have Ig:=hu.1
    have hM:PT b 7 (b.1.getD (j:Int).toNat cv).1:=BL hR δ ⟨_,u6 hj,rfl⟩
    rw[aw (x:=(j:Int)+1) ω ω,af j]
    have h0:=hr u (T5.mono hu ω)
    exact ax (λ_=>aA ⟨ω,ω⟩ (ag (Md N _) λ_ _=>bz (λ_=>h0) λ_=>ok_eq (λ_=>h0) λ_=>ag (bu N ω hc.2.2.1) λp hp=>ag (mH N ω hm hb.2.2.1 _ _) λq hq=>ag (bu N ω hq) λq hq=>ag (lU N ω ω ω hp hq) λy hy=>ag (xY N hy) λv hv=>bz (λ_=>nil _ δ) λ_=>ax (λ_=>aF (by rw[aK];omega) (hr _ (T5.mono (T5.app hu hM) ω))) λ_=>h0)) λ_=>ω
   ·refine ax (λ_=>ω) λ_=>bn (len:=g.length) (F:=λn j u=>cP.OI N n a g b u j) (λj u=>T5 b (3+m*5+m+j) u) (T5.mono hu ω) ω (λn j u hj hu hr=> ?_) (λn u hu=> ?_)
    all_goals unfold cP.OI cP.LC
    ·have Ig:=hu.1
     rw[aw (x:=(j:Int)+1) ω ω,af j]
     have h0:=hr u (T5.mono hu ω)
     dsimp only
     exact ax (λ_=>aA ⟨ω,ω⟩ (ag (Hl N ω hm hb.2.1 _) λx ⟨hx,hxe⟩=>aA ⟨ω,ω⟩ (aA ⟨ω,ω⟩ (ag (mH N ω hm hb.2.2.1 _ _) λq hq=>sq (λhf=>bt (λ_=>ax (λ_=>aF (by rw[aK];omega) (hr _ (T5.mono (T5.app hu (vj hR (aam hR.a hxe hf))) ω))) λ_=>h0) λ_=>h0) λ_=>h0)))) λ_=>ω
    ·exact ax (λ_=>ω) λ_=>aq ⟨T5.mono hu ω,λ_=>hMa⟩
 unfold cP cP.b
 exact bw (dS N hN hm hb) (bz (λ_=>nil _ δ) λ_=>ag (vg N ω ω) λ_ _=>bz (λ_=>nil _ δ) λ_=>ag (CH N ω ω) λ_ _=>bz (λ_=>nil _ δ) λ_=>bw (sj N (ct hb.1.1 ω) ω _) (ok_eq (λ_=>nil _ δ) λhs=>have hMa:=(wm hR.m a).1 hs;ag (BI N ω hm hb.2.1 _) λh hh=>bt (λ_=>ag (row_in N ω hm hb hR ω (T5.nil (k:=0)) _ _ _) λl hl=>hj hMa l hl) λ_=>hj hMa [] T5.nil))
theorem WY(N:Nat)(hN:5000000≤N){c:ae}{b:an}{d g:aD}{a:Int}{m:Nat}(h2:200≤m)(hm:m≤40000)(hc:G m aB c)(hb:G m aL b)(hR:RB c b)(hd:L2 m d)(hg:L2 m g)(ha:aE a):Ok (λr=>r.2.2=0→RBs c b r.1) (ir N c b a d g):=by
 have dT: ∀e:Int,e≠0→Ok (λr:an×dV×Int=>r.2.2=0→RBs c b r.1) (some ((cg,(cT,(bq,(bq,(de,(dk,())))))),(R0,e))):=λe h=>aq λh'=>absurd h' h
 unfold ir ir.b
 refine ag (Ok.and (aan N hN ω hc hb hR hd hg) (PI N hN ω hc hb hd hg ha)) λl ⟨⟨⟨_,hl1⟩,hMa⟩,hl2⟩=>ok_eq (λh=>dT _ ω) λ_=>ok_eq (λh=>dT _ ω) λ_=>ag (Ko N hN c ω hb) λq hq=>bt (λh=>dT _ h) λ_=>bt (λh=>dT _ h) λh0=>ag (Kp N hN (Q:=λx=>G 64 ry x∧PT b x.2.1 x.2.2.1) (λx hx=>hx.1.2.2.2.1) (λx v hx hv=>⟨G5q hx.1 hv,hx.2⟩) (λx hx=>⟨G.mono (m:=0) (bF _) (hl2.2 x hx),hl1 x hx⟩) hq) λz ⟨⟨hzl,Db⟩,Ib⟩=>bt (λh=>dT _ h) λ_=> ?_
 have hMa:=hMa h0
 have hF:cV 2 0∧jw b.1 b.2.1 2 0:=CO δ
 have hj: ∀(p:bJ) (r:dV) (t:bs) (x k n:Int),PB b.1 b.2.1 p→p.length≤1000→PT b k n→aE x→Ok (λr=>r.2.2=0→RBs c b r.1) (ir.j26 N b (cg,(cT,(bq,(bq,(de,(dk,())))))) R0 p r t x k n):=λp r t x k n hp AN hk hx=>by
  unfold ir.j26 ir.adz
  exact bw (da N ω hx.1 hx.2) (ag (tR N ω (ui hx) hF hk) λu ⟨hu,Ig⟩=>aF ω (ag (tQ N ω ω hb hR SB.nil (PB.app hp hu) (bF _) (by rw[aM];omega)) λw hw=>bt (λh=>dT _ h) λh0=>aq λ_=>hw h0))
 refine bn (len:=z.1.length) (F:=λn i (s:bJ×dV×bs)=>ir.JG N n a c b (cg,(cT,(bq,(bq,(de,(dk,())))))) R0 z.1 z.2.1 s.1 s.2.1 s.2.2 i) (s:=(_,(_,_))) (λi s=>(PB b.1 b.2.1 s.1∧s.1.length≤2*i)∧s.2.2.length≤i) ⟨⟨PB.nil,bF _⟩,bF _⟩ ω (λn i s hi hI hr=> ?_) (λn s hI=> ?_)
 all_goals unfold ir.JG ir.IM
 all_goals obtain⟨⟨h4,hp⟩,ht⟩:=hI
 ·obtain⟨hx,hk⟩:=Db _ (u6 (d:=gu) hi)
  have hx:aE (z.1.getD i gu).2.2.2.2.1:=hx.2.2.2.2.1
  rw[aw (x:=(i:Int)+1) ω ω,af i,aG]
  exact ax (λ_=>aA ⟨ω,ω⟩ (ax (λ_=>aA ⟨ω,ω⟩ (aF (by rw[List.length_singleton];omega) (aA ⟨ω,ω⟩ (aA ⟨ω,ω⟩ (aA ⟨ω,ω⟩ (bw (da N ω hx.1 hx.2) (ag (tR N ω (ui hx) hk hF) λu ⟨hu,Ig⟩=>aF ω (hr (_,(_,_)) ⟨⟨PB.app h4 hu,by dsimp only;rw[List.length_append];omega⟩,by dsimp only;rw[List.length_append,List.length_singleton];omega⟩)))))))) λ_=>hr s ⟨⟨h4,ω⟩,ω⟩)) λ_=>ω
 ·dsimp only
  have hS:cV 4 0∧jw b.1 b.2.1 4 0:=CO δ
  exact ax (λ_=>ω) λ_=>bw (da N ω Ib.1 Ib.2) (ag (tR N ω (ui Ib) hS hF) λu ⟨hu,Ig⟩=>aF ω (ag (Ho N hN c ω hb) λx hx=>bw (rn N (ct hb.2.1.1 ω) ω _) (bt (λhh=>hj _ _ _ _ _ _ (PB.app h4 hu) (by rw[aM];omega) (vj hR (Ky hh)) hx) λ_=>hj _ _ _ _ _ _ (PB.app h4 hu) (by rw[aM];omega) (BL hR δ hMa) hx)))
end VM
end
section
namespace VM
open Go VM.F
theorem aqy{q x:Int}(h0:0≤x)(h1:x<9223372036854775808):aE (sg q x)∧qE (sg q x):=by
 unfold sg aE qE;split<;>omega
theorem aao{t left:Int}{w out:List Int}(f:Full t w w out left)(i:Nat)(hi:i<w.length):0≤out.getD i 0∧out.getD i 0<9223372036854775808:=by
 have c:=f.c
 have h1:=c.le i hi
 have h2:=(c.pc i).2
 have h3:=c.po i
 omega
theorem WZ(N:Nat){a q:Int}{accs out:List Int}(hl:accs.length=out.length)(hle:out.length≤1000)(ho: ∀i,i<out.length→0≤out.getD i 0∧out.getD i 0<9223372036854775808)(s:au)(hs:s.length≤1000)(hN:200000≤N):
  oZ.WN N N a q accs out s 0=some (s++zc a q (out.zip accs),0):=by
 have hz:(out.zip accs).length=out.length:=by rw[w6];omega
 have:=oF (out.zip accs) (0,0) (λn i s=>oZ.WN N n a q accs out s i) (λt s=>some (s++zc a q t,(0:Int))) (λi (s:au)=>s.length≤1000+i) (λn i s hi hI hr=> ?_) (λn s hI=> ?_) out.length N 0 s ω ω ω ω
 ·exact this
 ·unfold oZ.WN oZ.Z2
  have nD:i<out.length:=ω
  have h2:=ho i nD
  rw[aQ ω,ak,aS ω ω,ak,aG,aS ω ω,ak,aw (x:=(i:Int)+1) ω ω,af i,aw (x:=0-out.getD i 0) ω ω,Zl nD ω,EZ]
  dsimp only
  rw[ak,bP (by rw[aK];omega),ak,bP (by rw[aK];omega),ak]
  have e:sg q (out.getD i 0)=if q<0 then 0-out.getD i 0 else out.getD i 0:=rfl
  rw[bN,cond_not,cond_not,aI,aI]
  have fin:(if sg q (out.getD i 0)=0 then oZ.WN N n a q accs out s ((i+1:Nat):Int)else oZ.WN N n a q accs out (s++[(accs.getD i 0,(a,(sg q (out.getD i 0),())))]) ((i+1:Nat):Int))=some (s++(if sg q (out.getD i 0)=0 then zc a q ((out.zip accs).drop (i+1))else(accs.getD i 0,(a,(sg q (out.getD i 0),())))::zc a q ((out.zip accs).drop (i+1))),(0:Int)):=by
   by_cases h:sg q (out.getD i 0)=0
   ·rw[ah h,ah h];exact hr s ω
   ·rw[aj h,aj h,hr _ (by rw[aM,aK];omega),bH];rfl
  refine Eq.trans ?_ fin
  by_cases h:q<0
  ·rw[ah h,e,ah h]
  ·rw[aj h,e,aj h]
 ·unfold oZ.WN oZ.Z2
  rw[hz,aP ω,av]
  show _=some (s++[],(0:Int))
  rw[cH]
theorem UL{l:au}(h: ∀x∈l,aE (dZ x)∧qE (dZ x))(a b:Int):aE (eR l a b)∧qE (eR l a b):=by
 have key: ∀l:au,(∀x∈l,aE (dZ x)∧qE (dZ x))→aE (gk a b l)∧qE (gk a b l):=by
  intro l
  induction l with
  |nil=>intro _;show aE 0∧qE 0;decide
  |cons x t ih=>
   intro h
   have ih:=ih (λy hy=>h y (a7 _ hy))
   rw[gZ]
   split
   ·split
    ·exact h x (bh ..)
    ·exact ih
   ·exact ih
 unfold eR
 split
 ·exact key l h
 ·decide
theorem Mo(l:au):(zd l).length=l.length:=cI ..
theorem BM(l:au):(jl l).length=l.length:=cI ..
theorem KA{q:Int}(h:aE q∧qE q):(q.natAbs:Int)<9223372036854775808:=by unfold aE qE at h;omega
theorem Mp{l:au}(hk:dt l=true)(hq:eW l): ∀x∈l,aE (dZ x)∧qE (dZ x):=λx hx=>⟨hq x hx,((eY hk).2 x hx).2⟩
theorem KB{l:au}(hk:dt l=true)(hq:eW l){a q:Int}(nP:aE q∧qE q)(hc:(jT l a q).2.2=0):
  Full (q.natAbs:Int) (jl (fL a q l)) (jl (fL a q l)) (jT l a q).1 (jT l a q).2.1∧(jT l a q).1.length=(fL a q l).length∧(jT l a q).1.length≤64∧ ∀i,i<(jT l a q).1.length→0≤(jT l a q).1.getD i 0∧(jT l a q).1.getD i 0<9223372036854775808:=by
 have f:Full (q.natAbs:Int) (jl (fL a q l)) (jl (fL a q l)) (jT l a q).1 (jT l a q).2.1:=Ha (KA nP) (Cz (Mp hk hq) a q) hc
 have h1:=f.c.l2
 have h2:=f.c.n
 rw[BM]at h1 h2
 exact⟨f,h1,ω,λi hi=>aao f i (by rw[BM];omega)⟩
theorem aap{l:au}(h:dt l=true): ∀x∈l,dZ x≠0:=λx hx=>by
 unfold dt at h
 rw[fv]at h
 obtain⟨i,hi,e⟩:=gd hx
 have:=bA h i hi
 unfold lR mC at this
 rw[aU,bg hi]at this
 simp only[ng,e]at this
 exact this.2.1
theorem aaq{x:Int}(h:aE x∧qE x):mx x (W .i64 (0-x))=(x.natAbs:Int):=by
 unfold aE qE at h
 rw[aw ω ω,aic];split<;>omega
theorem PY{x q:Int}(hx:x≠0)(hq:q≠0):IQ x q↔ ¬((0<x)↔(0<q)):=by
 unfold IQ;omega
theorem aar(N:Nat)(hN:5000000≤N)(c:ae){b:an}(w:iM b)(a:Int):oZ N c b a=some (we c b a):=by
 unfold oZ oZ.b we
 rw[OE N ω w,ar,EY N w.s ω,ar,cond_not,bN,cn,aI]
 by_cases hB:cY c b=false
 ·rw[hB];rfl
 rw[pv]at hB
 rw[hB,ak,ah rfl]
 obtain⟨_,hk⟩:=fG hB
 have hq:=Mp hk w.qs
 have hnz:=aap hk
 have hh:=UL hq 0 a
 have hlen:=w.s
 have hqs:=w.qs
 generalize eR b.2.2.2.1 0 a=q at*
 by_cases h1:a<0
 ·rw[ah h1,ah h1]
 rw[aj h1,aj h1]
 by_cases h2:(c.1.length:Int)≤a
 ·rw[ah h2,ah h2]
 rw[aj h2,aj h2]
 by_cases h3:q=0
 ·rw[ah h3,ah h3]
 rw[aj h3,aj h3]
 have lC:=hh.1
 unfold aE at lC
 have hqn:q≠ -9223372036854775808:=hh.2
 have:=oF b.2.2.2.1 a6 (λn i (z:au)=>oZ.CE N n a b q (zd z) (jl z) i)
  (λt z=>some (if(jT b.2.2.2.1 a q).2.2=0 then(acZ b.2.2.2.1 a q,0)else([],(jT b.2.2.2.1 a q).2.2))) (λi z=>z++fL a q (b.2.2.2.1.drop i)=fL a q b.2.2.2.1∧z.length≤i)
  (λn i z hi hI hr=> ?_) (λn z hI=> ?_) b.2.2.2.1.length N 0 [] ω ω ω ⟨rfl,aH _⟩
 ·exact this
 ·unfold oZ.CE oZ.zL
  obtain⟨i1,i2⟩:=hI
  have hm:b.2.2.2.1.getD i a6∈b.2.2.2.1:=by
   rw[aU,bg hi];exact dx hi
  have hx:=hq _ hm
  have hn:=hnz _ hm
  rw[drop_cons hi a6,sB]at i1
  rw[aQ ω,ak,aS ω ω,ak,aG,aw (x:=(i:Int)+1) ω ω,af i]
  generalize b.2.2.2.1.getD i a6=x at*
  have Rn:mx x.2.2.1 (W .i64 (0-x.2.2.1))=(x.2.2.1.natAbs:Int):=aaq hx
  rw[bP (by rw[Mo,aK];omega),ak,Rn]
  dsimp only
  rw[bP (by rw[BM,aK];omega),ak,cond_not,aI,aI,cond_not,nJ,p7,p7]
  by_cases e1:x.1=0
  ·rw[ah e1]
   rw[aj (λh=>h.1 e1)]at i1
   exact hr z ⟨i1,ω⟩
  ·rw[aj e1]
   by_cases e2:x.2.1=a
   ·rw[ah e2]
    by_cases e3:IQ (dZ x) q
    ·have eb:(decide (0<x.2.2.1)==decide (0<q))=false:=by
      have e3:=(PY hn h3).1 e3
      unfold dZ at e3
      by_cases g1:0<x.2.2.1<;>by_cases g2:0<q
      ·exact absurd ⟨λ_=>g2,λ_=>g1⟩ e3
      ·rw[a8 g1,bC g2];rfl
      ·rw[bC g1,a8 g2];rfl
      ·exact absurd ⟨λh=>absurd h g1,λh=>absurd h g2⟩ e3
     rw[eb,av]
     rw[ah ⟨e1,e2,e3⟩]at i1
     have:=hr (z++[x]) ⟨by rw[bH];exact i1,by rw[aM,aK];omega⟩
     unfold zd jl at this
     rw[dg,dg]at this
     exact this
    ·have eb:(decide (0<x.2.2.1)==decide (0<q))=true:=by
      have e3:=Fv.1 (λh=>e3 ((PY hn h3).2 h))
      unfold dZ at e3
      rw[show decide (0<x.2.2.1)=decide (0<q)from np.2 e3]
      exact Ak _
     rw[eb,ak]
     rw[aj (λh=>e3 h.2.2)]at i1
     exact hr z ⟨i1,ω⟩
   ·rw[aj e2]
    rw[aj (λh=>e2 h.2.1)]at i1
    exact hr z ⟨i1,ω⟩
 ·unfold oZ.CE oZ.zL
  obtain⟨i1,i2⟩:=hI
  rw[nf]at i1
  have ez:z=fL a q b.2.2.2.1:=by rw[←i1];exact(cH _).symm
  subst ez
  have uq:=BM (fL a q b.2.2.2.1)
  have AN:=J3 a q b.2.2.2.1
  rw[aP ω,av,aaq hh,G9 N hN (KA hh) (Cz hq a q) (Cz hq a q) (by rw[uq];omega),ar,cond_not,aI,aw (x:=0-q) ω ω]
  show(if(jT b.2.2.2.1 a q).2.2=0 then _ else _)=_
  by_cases h4:(jT b.2.2.2.1 a q).2.2=0
  ·rw[ah h4,ah h4]
   obtain⟨f,g1,g2,g3⟩:=KB hk hqs hh h4
   exact WZ N (by rw[Mo];omega) ω g3 _ (by simp) ω
  ·rw[aj h4,aj h4];rfl
end VM
end
section
namespace VM
open Go VM.F Go.RowKit
structure zg(s:au)(n:Nat):Prop where
 place: ∀x∈s,bV x.1 x.2.1
 q: ∀x∈s,aE (dZ x)∧qE (dZ x)
 len:s.length≤n
 flat: ∀i:Int,(c8 i s).sum=0
theorem zg.nil(n:Nat):zg [] n:=⟨λx hx=>(nomatch hx),λx hx=>(nomatch hx),bF _,λi=>rfl⟩
theorem zg.app{s t:au}{n m k:Nat}(a:zg s n)(b:zg t m)(h:n+m≤k):zg (s++t) k:=
 ⟨λx hx=>(bk.1 hx).elim (a.place x) (b.place x),λx hx=>(bk.1 hx).elim (a.q x) (b.q x),by rw[aM];have:=a.len;have:=b.len;omega,λi=>by rw[IN,nh,a.flat,b.flat];rfl⟩
theorem SZ(a q i:Int): ∀t:List (Int×Int),(c8 i (zc a q t)).sum=if a=i then sg q (t.map (·.1)).sum else 0
 |[]=>by
  show(0:Int)=if a=i then sg q 0 else 0
  unfold sg;split<;>(try split)<;>rfl
 |p::t=>by
  have ih:=SZ a q i t
  have hs:sg q ((p::t).map (·.1)).sum=sg q p.1+sg q (t.map (·.1)).sum:=by
   rw[bR,cB];unfold sg;split<;>omega
  rw[EZ,hs]
  by_cases h:sg q p.1=0
  ·rw[ah h,ih,h];split<;>omega
  ·rw[aj h,dp]
   dsimp only
   by_cases e:a=i
   ·rw[ah e,ah e,cB,ih,ah e];rfl
   ·rw[aj e,aj e,ih,aj e]
theorem Mq{a q:Int}{x:cK}: ∀{t:List (Int×Int)},x∈zc a q t→ ∃p∈t,x=(p.2,(a,(sg q p.1,())))
 |[],h=>nomatch h
 |p::t,h=>by
  rw[EZ]at h
  split at h
  ·obtain⟨p',hp,e⟩:=Mq h
   exact⟨p',a7 _ hp,e⟩
  ·rcases aZ.1 h with e|h
   ·exact⟨p,bh ..,e⟩
   ·obtain⟨p',hp,e⟩:=Mq h
    exact⟨p',a7 _ hp,e⟩
theorem aas(a q:Int): ∀t:List (Int×Int),(zc a q t).length≤t.length
 |[]=>aH _
 |p::t=>by
  have:=aas a q t
  rw[EZ,aR]
  split
  ·omega
  ·rw[aR];omega
theorem PZ{c:ae}{b:an}(h:cY c b=true):oJ b.2.2.2.1=true∧eo c=true:=by
 unfold cY at h
 have h0:=dw.1 h
 have h1:=(dw.1 h0.2).2
 have h2:=dw.1 h1
 exact⟨(dw.1 (dw.1 h2.2).2).1,h0.1⟩
theorem aat{c:ae}{b:an}(hB:cY c b=true)(w:iM b){a:Int}(h:(we c b a).2=0):zg (we c b a).1 65:=by
 obtain⟨_,hk⟩:=fG hB
 obtain⟨hf,AN⟩:=PZ hB
 have hq:=Mp hk w.qs
 have hh:=UL hq 0 a
 obtain⟨hs,B1⟩:=eY hk
 unfold we at h ⊢
 rw[ah hB]at h ⊢
 by_cases h1:a<0
 ·rw[ah h1];exact zg.nil _
 rw[aj h1]at h ⊢
 by_cases h2:(c.1.length:Int)≤a
 ·rw[ah h2];exact zg.nil _
 rw[aj h2]at h ⊢
 by_cases h3:eR b.2.2.2.1 0 a=0
 ·rw[ah h3];exact zg.nil _
 rw[aj h3]at h ⊢
 by_cases h4:(jT b.2.2.2.1 a (eR b.2.2.2.1 0 a)).2.2=0
 ·rw[ah h4]
  have akV:gk 0 a b.2.2.2.1=eR b.2.2.2.1 0 a:=by unfold eR;rw[hk];rfl
  have hn6:a<6:=by
   unfold eo at AN
   have:=(bA (dw.1 AN).1).2
   omega
  have hz:(c8 a b.2.2.2.1).sum=0:=by
   unfold oJ at hf
   have TX:=bA (dw.1 hf).1 a.toNat (by unfold ku;omega)
   unfold ud dz tE at TX
   rw[hk,ah rfl,show((a.toNat:Nat):Int)=a by omega]at TX
   exact TX
  generalize eR b.2.2.2.1 0 a=q at*
  obtain⟨f,g1,g2,g3⟩:=KB hk w.qs hh h4
  have aqz:=Zk f (Sv hs hz akV h3)
  have IL:=f.c.s
  rw[aqz,iG]at IL
  have hzl:((jT b.2.2.2.1 a q).1.zip (zd (fL a q b.2.2.2.1))).map (·.1)=(jT b.2.2.2.1 a q).1:=List.map_fst_zip (by rw[Mo];omega)
  have hsg:sg q (q.natAbs:Int)=q:=by unfold sg;split<;>omega
  have hzz: ∀x∈zc a q ((jT b.2.2.2.1 a q).1.zip (zd (fL a q b.2.2.2.1))),bV x.1 x.2.1∧aE (dZ x)∧qE (dZ x):=λx hx=>by
   obtain⟨p,hp,rfl⟩:=Mq hx
   obtain⟨i,hi,e⟩:=gd hp
   rw[w6]at hi
   have e':=Zl (out:=(jT b.2.2.2.1 a q).1) (accs:=zd (fL a q b.2.2.2.1)) (i:=i) ω ω
   rw[aU,bg (by rw[w6];omega)]at e'
   have ep:p=_:=e.symm.trans e'
   have hr:=g3 i ω
   rw[ep]
   refine⟨?_,aqy hr.1 hr.2⟩
   have hm:(zd (fL a q b.2.2.2.1)).getD i 0∈zd (fL a q b.2.2.2.1):=by
    rw[aU,bg ω];exact dx _
   obtain⟨y,hy,ey⟩:=cL.1 hm
   have TG:=ve hy
   have hpy:=(B1 y TG.1).1
   have g: ∀u v z:Int,bV u v→v=a→u=z→bV z a:=λu v z h e1 e2=>by rw[←e1,←e2];exact h
   exact g _ _ _ hpy TG.2.2 ey
  refine⟨λx hx=> ?_,λx hx=> ?_,?_,λi=> ?_⟩
  ·rcases aZ.1 hx with e|hx
   ·rw[e];show bV 0 a;unfold bV;omega
   ·exact(hzz x hx).1
  ·rcases aZ.1 hx with e|hx
   ·rw[e];exact aku hh
   ·exact(hzz x hx).2
  ·unfold acZ
   rw[aR]
   have:=aas a q ((jT b.2.2.2.1 a q).1.zip (zd (fL a q b.2.2.2.1)))
   rw[w6]at this
   omega
  ·unfold acZ
   rw[dp]
   dsimp only
   by_cases e:a=i
   ·rw[ah e,cB,SZ,ah e,hzl,IL,hsg]
    show 0-q+q=0
    omega
   ·rw[aj e,SZ,aj e]
 ·rw[aj h4]at h
  exact absurd h h4
namespace Pure
end Pure
end VM
end
section
namespace VM
open Go VM.F
theorem adS{c:ae}{b:an}(hR:RB c b)(w:iM b){a:Int}(ha:0≤a∧oc a c.1.length)(h:(we c b a).2=0):SB c b.2.1 (we c b a).1∧(we c b a).1.length≤65:=by
 have I:=aat (ub.2 hR) w h
 refine⟨⟨λx hx=>(I.q x hx).1,λx hx=>⟨I.place x hx,?_⟩,I.flat⟩,I.len⟩
 have pos: ∀y∈b.2.2.2.1,dz y.1 0∨q5 b.2.1 y.1:=λy hy=>(hR.sk y hy).1
 unfold we at hx h
 rw[ah (ub.2 hR)]at hx h
 by_cases h1:a<0
 ·exact absurd ha.1 ω
 by_cases h2:(c.1.length:Int)≤a
 ·have:=ha.2;unfold oc at this;omega
 rw[aj h1,aj h2]at hx h
 by_cases h3:eR b.2.2.2.1 0 a=0
 ·rw[ah h3]at hx;exact nomatch hx
 rw[aj h3]at hx h
 generalize eR b.2.2.2.1 0 a=q at*
 by_cases h4:(jT b.2.2.2.1 a q).2.2=0
 ·rw[ah h4]at hx
  rcases aZ.1 hx with rfl|hx
  ·exact⟨.inl rfl,ha.2⟩
  ·obtain⟨p,hp,rfl⟩:=Mq hx
   obtain⟨y,hy,e⟩:=cL.1 (List.of_mem_zip hp).2
   refine⟨?_,ha.2⟩
   dsimp only
   rw[←e]
   exact pos y (ve hy).1
 ·rw[aj h4]at hx;exact nomatch hx
theorem adT(N:Nat)(hN:5000000≤N){c:ae}{b:an}{m:Nat}(hm:m≤7000)(hb:G m aL b)(hR:RB c b):Ok (Kv c b) (BJ N c b):=by
 have w:=(G.wf ω hb).w
 have hci:c.1.length≤6:=by
  have:=hR.c
  unfold eo at this
  exact(bA (dw.1 this).1).2
 unfold BJ BJ.b
 refine bw (dS N hN ω hb) (bz (λ_=>Kv.bad δ) λ_=>bn (len:=c.1.length) (F:=λn i s=>BJ.l5 N n c b (cg,(cT,(bq,(bq,(de,(dk,())))))) s i) (λi s=>SB c b.2.1 s∧s.length≤65*i) ⟨SB.nil,bF _⟩ ω (λn i s hi hI hr=> ?_) (λn s hI=> ?_))
 all_goals unfold BJ.l5 BJ.eA
 all_goals obtain⟨i1,i2⟩:=hI
 ·rw[aw (x:=(i:Int)+1) ω ω,af i]
  exact ax (λ_=>bw (aar N hN c w _) (bt (λh=>Kv.bad h) λh=>have J:=adS hR w ⟨ω,show(i:Int)<c.1.length by omega⟩ h;aF ω (hr _ ⟨SB.app i1 J.1,by rw[aM];omega⟩))) λ_=>ω
 ·exact ax (λ_=>ω) λ_=>ag (tQ N ω ω hb hR i1 PB.nil ω (bF _)) λr hr=>aq hr
end VM
end
section
namespace VM
open Go VM.F
def qN(c:ae)(m:Nat)(s:aV):Prop:=RB c s.2.2.1∧1≤s.2.1∧s.2.1≤2000*(m:Int)
abbrev SI(c:ae)(m:Nat)(r:aV×cK):Prop:=r.2.1=0→qN c m r.1
theorem qN.up{c:ae}{m:Nat}{s:aV}(h:qN c m s):qN c (m+1) s:=⟨h.1,h.2.1,fU h.2.2 ω⟩
theorem qN.add{n k:Int}{m:Nat}(h:1≤n∧n≤2000*(m:Int))(hm:m≤999)(hk:0≤k∧k≤2000):1≤W .i64 (n+k)∧W .i64 (n+k)≤2000*((m+1:Nat):Int):=by
 rw[aw ω ω];omega
theorem hZ{c:ae}{m N:Nat}{e:Int}{x:aV}(h:e=0→qN c m x):Ok (SI c m) ((fC N e).bind λr=>some (x,r)):=by
 unfold fC;exact aq h
theorem dW{c:ae}{m N:Nat}{e:Int}{x:aV}(h:e≠0):Ok (SI c m) ((fC N e).bind λr=>some (x,r)):=hZ λh'=>absurd h' h
theorem aau(N:Nat)(hN:200000≤N){s:aV}(hl:s.2.2.1.2.1.length≤100000)(k:Int):SN N s k=some (et s.2.2.1.2.1 k).2:=by
 unfold SN;rw[Be N hl hN];rfl
theorem W0(N:Nat)(hN:200000≤N){s:aV}(hl:s.2.2.1.1.length≤100000)(k:Int):Hr N s k=some (gW s.2.2.1.1 k):=by
 unfold Hr;rw[sj N hl hN];rfl
theorem Mr(N:Nat)(hN:4000000≤N){c:ae}{s:aV}{m:Nat}(hm:m≤50000)(hs:GS m s)(hR:qN c m s){a b d e q:Int}(hq:aE q)(h1:cV a b∧jw s.2.2.1.1 s.2.2.1.2.1 a b)(h2:cV d e∧jw s.2.2.1.1 s.2.2.1.2.1 d e):Ok (SI c (m+1)) (PM N s a b d e q):=by
 unfold PM
 exact bw (da N ω hq.1 hq.2) (ag (tR N hN (ui hq) h1 h2) λp ⟨hp,AN⟩=>ag (tQ N hN hm hs.2.2.1 hR.1 SB.nil hp (bF _) ω) λr hr=>aq λh=>⟨(hr h).1,hR.up.2⟩)
theorem W1(N:Nat)(hN:5000000≤N){c:ae}{s:aV}{e:g9}{m:Nat}(h2:200≤m)(hm:m≤999)(hc:G m aB c)(hs:GS m s)(hR:qN c m s)(he:G 0 pI e):Ok (SI c (m+1)) (n6 N c s e):=by
 have hhl:=hs.2.2.2.1.2.2.2.2.1.1
 unfold n6 n6.b
 generalize ((0:Int),((0:Int),_))=S0
 refine bn (len:=s.2.2.2.1.2.2.2.2.1.length) (F:=λn i (z:aV×aO×Bool×Int)=>n6.l5 N n c z.1 e S0 a6 z.2.1 z.2.2.1 z.2.2.2 i) (s:=(_,(_,(_,_)))) (λi z=>(GS m z.1∧qN c m z.1)∧z.1.2.2.2.1.2.2.2.2.1=s.2.2.2.1.2.2.2.2.1∧G i (.slice eu) z.2.1) ⟨⟨hs,hR⟩,rfl,G.nil⟩ ω (λn i z hi hI hr=> ?_) (λn z hI=> ?_)
 all_goals unfold n6.l5 n6.eA
 ·obtain⟨⟨hz,hzR⟩,hh,ho⟩:=hI
  have Cc:=ho.1
  rw[hh,aw (x:=(i:Int)+1) ω ω,af i]
  have hx:G 0 eu (s.2.2.2.1.2.2.2.2.1.getD (i:Int).toNat aW):=G.at hs.2.2.2.1.2.2.2.2.1 _
  have hxm:G m eu (s.2.2.2.1.2.2.2.2.1.getD (i:Int).toNat aW):=G.mono (bF m) hx
  refine ax (λ_=>aA ⟨ω,ω⟩ (ok_eq (λ_=>ag (Ok.and (Uz N hN h2 ω hc hz.2.2.1 hxm he.2.2.1 he.2.2.2.2.2.2.1 he.2.2.2.2.2.2.2.1) (adL N hN h2 ω hc hz.2.2.1 hzR.1 hxm he.2.2.1 he.2.2.2.2.2.2.1 he.2.2.2.2.2.2.2.1)) λr ⟨⟨zS,AH⟩,ZX⟩=>bt (λh=>dW h) λh0=> ?_) λ_=>ax (λ_=>aF (by rw[aK];omega) (hr (z.1,(z.2.1++[s.2.2.2.1.2.2.2.2.1.getD (i:Int).toNat aW],z.2.2)) ⟨⟨hz,hzR⟩,hh,G.cat ho (G.one hx (aH 1))⟩)) λ_=>hr z ⟨⟨hz,hzR⟩,hh,G.mono ω ho⟩)) λ_=>ω
  have D6:GS m (z.1.1,(z.1.2.1,(r.1,z.1.2.2.2))):=⟨hz.1,hz.2.1,zS,hz.2.2.2⟩
  have aqA:qN c m (z.1.1,(z.1.2.1,(r.1,z.1.2.2.2))):=⟨ZX h0,hzR.2⟩
  have akS:G 0 eu r.2.1:=AH
  exact ax (λ_=>aF (by rw[aK];omega) (hr ((z.1.1,(z.1.2.1,(r.1,z.1.2.2.2))),(z.2.1++[r.2.1],(true,r.2.1.2.2.2.1))) ⟨⟨D6,aqA⟩,hh,G.cat ho (G.one akS (aH 1))⟩)) λ_=>hr ((z.1.1,(z.1.2.1,(r.1,z.1.2.2.2))),(z.2.1,(true,r.2.1.2.2.2.1))) ⟨⟨D6,aqA⟩,hh,G.mono ω ho⟩
 ·obtain⟨⟨hz,hzR⟩,hh,ho⟩:=hI
  rw[hh]
  exact ax (λ_=>ω) λ_=>bz (λ_=>dW δ) λ_=>aq λ_=>⟨hzR.1,hzR.up.2⟩
theorem aav(N:Nat)(hN:5000000≤N){c:ae}{s:aV}{e:g9}{m:Nat}(h2:200≤m)(hm:m≤999)(hc:G 5 aB c)(hs:GS m s)(hR:qN c m s)(he:G 0 pI e):Ok (SI c (m+1)) (n7 N c s e):=by
 have EH:G m aB c:=G.mono ω hc
 have hk:=hs.2.2.2.1
 have hb:=hs.2.2.1
 have up:=hR.up.2
 unfold n7 n7.b
 refine ok_eq (λ_=> ?_) λ_=>ok_eq (λ_=> ?_) λ_=>ok_eq (λ_=> ?_) λ_=>ok_eq (λ_=> ?_) λ_=>ok_eq (λ_=> ?_) λ_=>ok_eq (λ_=> ?_) λ_=>ok_eq (λ_=> ?_) λ_=>ok_eq (λ_=> ?_) λ_=>hZ λ_=>hR.up
 ·exact ag (adP N hN ω EH hb hR.1 _ _ _) λr hr=>hZ λh=>⟨hr h,up⟩
 ·exact ag (adQ N hN h2 ω EH hb hR.1 _) λr hr=>hZ λh=>⟨(hr h).1,up⟩
 ·exact ag (Ki N hN c hc.2.2.2.2.2.2.1 ω hb _) λr hr=>aq λ_=>⟨hR.1,qN.add hR.2 hm (by have:=hr.1;omega)⟩
 ·exact ag (W1 N hN h2 ω EH hs hR he) λr hr=>aq hr
 ·exact ok_eq (λ_=>dW δ) λ_=>ag (UB N hN h2 ω EH hb hs.2.1) λl hl=>bt (λh=>dW h) λ_=>ag (vh N ω hs.1 hc.2.2.2.2.1) λt ht=>bz (λ_=>dW δ) λ_=>ag (UA N hN c ω hb) λu hu=>aq λ_=>⟨hR.1,qN.add hR.2 hm (by have:=hl.1;omega)⟩
 ·have hx:G 0 eu (s.2.1,(e.2.2.2.2.2.1,(e.2.1,(e.2.2.2.2.2.2.2.1,())))):=⟨hs.2.1,he.2.2.2.2.2.1,he.2.1,he.2.2.2.2.2.2.2.1,trivial⟩
  exact ag (Km N hN ω ω EH hb hk.2.2.2.2.2.1 hk.2.2.2.2.2.2.1 hx) λr hr=>aq λ_=>⟨hR.1,qN.add hR.2 hm δ⟩
 ·refine ag (Ok.and (PJ N hN c h2 ω hb hk.2.2.2.2.2.1 hk.2.2.2.2.2.2.1) (aal N hN h2 ω hb hR.1 hk.2.2.2.2.2.1 hk.2.2.2.2.2.2.1)) λr ⟨⟨zS,AH⟩,ZX⟩=>bt (λh=>dW h) λh0=>ag (PH N ω c h2 ω hk.2.2.2.2.2.2.2.2.1 hk.2.2.2.2.2.2.2.1.1 AH hk.2.2.2.2.2.2.1) λd hd=> ?_
  generalize ((0:Int),((0:Int),_))=S0
  have I8:=AH.1
  refine bn (len:=r.2.1.length) (F:=λn i q=>n7.l41 N n _ S0 a6 r.2.1 q i) (λ_ _=>True) trivial ω (λn i q hi _ eF=> ?_) (λn q _=> ?_)
  all_goals unfold n7.l41 n7.adE
  ·rw[aw (x:=(i:Int)+1) ω ω,af i]
   exact ax (λ_=>aA ⟨ω,ω⟩ (ok_eq (λ_=>eF _ trivial) λ_=>eF _ trivial)) λ_=>ω
  ·exact ax (λ_=>ω) λ_=>aq λ_=>⟨ZX h0,up⟩
 ·exact ag (Ok.and (Kq N hN h2 ω EH hb hk.2.2.2.2.2.2.2.2.1 hk.2.2.2.2.2.2.2.2.2.1 hk.1) (WY N hN h2 ω EH hb hR.1 hk.2.2.2.2.2.2.2.2.1 hk.2.2.2.2.2.2.2.2.2.1 hk.1)) λr ⟨⟨zS,AH⟩,ZX⟩=>bt (λh=>dW h) λh0=>ag (Ok.and (UE N hN h2 ω hc zS) (adT N hN ω zS (ZX h0).1)) λb ⟨hb,uM⟩=>bt (λh=>dW h) λh1=>ag (UI N ω (ct hb.1.1 ω) _ _) λu hu=>aq λh=>have B:=(uM h1).1;⟨B.WV (hu h).1 B.a (hu h).2.1 (λ_ h=>h) λx hx=>(hu h).2.1 _ (B.ma x hx),up⟩
theorem aaw(N:Nat)(hN:5000000≤N){c:ae}{s:aV}{e:g9}{m:Nat}(h2:200≤m)(hm:m≤999)(hc:G 5 aB c)(hs:GS m s)(hR:qN c m s)(he:G 0 pI e):Ok (SI c (m+1)) (qy N c s e):=by
 obtain⟨s1,s2,s3,⟨k1,k2,k3,k4,k5,k6,k7,k8,k9,UG,Z5⟩,s5⟩:=hs
 have hs:GS m s:=⟨s1,s2,s3,⟨k1,k2,k3,k4,k5,k6,k7,k8,k9,UG,Z5⟩,s5⟩
 have up:=hR.up.2
 unfold qy qy.b
 have hj: ∀(S0:aV) (z:cK),Ok (SI c (m+1)) (qy.WI N c s e S0 z):=λS0 z=>by
  unfold qy.WI qy.PG
  exact ag (PL N _ _) λ_ _=>bz (λ_=>dW δ) λ_=>ag (aav N hN h2 hm hc hs hR he) λr hr=>aq hr
 have mem: ∀{x:aD},G m (.slice jH) x→G m aL ((x,s.2.2.1.2):an):=λh=>⟨h,s3.2⟩
 have rb: ∀{x:aD},dB x=true→(∀n,jo s.2.2.1.1 n→jo x n)→RB c ((x,s.2.2.1.2):an):=λh1 h2=>hR.1.WV h1 hR.1.a h2 (λ_ h=>h) λx hx=>h2 _ (hR.1.ma x hx)
 have Im:=λk:Int=>Ok.and (L8 N ω (m:=m) ω s3.1 e.2.1 k) (UI N ω (ct s3.1.1 ω) e.2.1 k)
 have hd: ∀z:aD×Int,G m (.slice jH) z.1∧(z.2=0→dB z.1=true∧(∀n,jo s.2.2.1.1 n→jo z.1 n)∧jo s.2.2.1.1 e.2.1)→Ok (SI c (m+1)) (cond (aN z.2 0) (cond (aN e.1 11) ((L9 N c (z.1,s.2.2.1.2) e.2.1).bind λr2=>cond (aN s.2.2.2.1.2.1 3) ((pX N s.2.2.2.1.2.2.2.2.2.2.1 e.2.1).bind λr3=>(fC N z.2).bind λr4=>some ((s.1,(s.2.1,(r2.1,((s.2.2.2.1.1,(s.2.2.2.1.2.1,(s.2.2.2.1.2.2.1,(s.2.2.2.1.2.2.2.1,(s.2.2.2.1.2.2.2.2.1,(s.2.2.2.1.2.2.2.2.2.1,(r3,s.2.2.2.1.2.2.2.2.2.2.2))))))),s.2.2.2.2)))),r4)) ((fC N z.2).bind λr5=>some ((s.1,(s.2.1,(r2.1,s.2.2.2))),r5))) ((fC N z.2).bind λr6=>some ((s.1,(s.2.1,((z.1,s.2.2.1.2),s.2.2.2))),r6))) ((fC N z.2).bind λr7=>some ((s.1,(s.2.1,((z.1,s.2.2.1.2),s.2.2.2))),r7))):=λz ⟨hz,hi⟩=>
  ok_eq (λh0=>have B:=rb (hi h0).1 (hi h0).2.1;ok_eq (λ_=>ag (PX N hN (m:=m) ω (mem hz) B _ ((hi h0).2.1 _ (hi h0).2.2)) λb hb=>ok_eq (λ_=>ag (DR N ω ω k7 _) λl hl=>hZ λ_=>⟨hb,up⟩) λ_=>hZ λ_=>⟨hb,up⟩) λ_=>hZ λ_=>⟨B,up⟩) λh=>dW h
 refine ok_eq (λ_=>ag (Im _) λz hz=>hd z hz) λ_=>ok_eq (λ_=>ag (Im _) λz hz=>hd z hz) λ_=>ok_eq (λ_=> ?_) λ_=>ok_eq (λ_=> ?_) λ_=>hj _ _
 ·exact ag (o0 N ω ω hs _) λ_ _=>ok_eq (λ_=>dW δ) λ_=>bt (λ_=>dW δ) λ_=>ag (Im _) λz ⟨hz,hi⟩=>bt (λh=>dW h) λh0=>ag (vh N ω s1 hc.2.2.2.1) λt ht=>bz (λ_=>dW δ) λ_=>aq λ_=>⟨rb (hi h0).1 (hi h0).2.1,up⟩
 ·exact ag (o0 N ω ω hs _) λ_ _=>ok_eq (λ_=>dW δ) λ_=>ag (o0 N ω ω hs _) λ_ _=>bt (λ_=>dW δ) λ_=>hj _ _
theorem adU(N:Nat)(hN:5000000≤N){c:ae}{s:aV}{e:g9}{m:Nat}(h2:200≤m)(hm:m≤999)(hc:G 5 aB c)(hs:GS m s)(hR:qN c m s)(he:G 0 pI e):Ok (SI c (m+1)) (WR N c s e):=by
 have EH:G m aB c:=G.mono ω hc
 have hb:=hs.2.2.1
 have WS:=he.2.2.2.2.2.2.1
 have up:=hR.up.2
 have B:=hR.1
 have ml:=ct hb.1.1 (show m≤50000 by omega)
 have al:=ct hb.2.1.1 (show m≤50000 by omega)
 have hW:cV 1 0∧jw s.2.2.1.1 s.2.2.1.2.1 1 0:=CO δ
 have st:=λk:Int=>W0 N ω (s:=s) ω k
 have stm: ∀k:Int,gW s.2.2.1.1 k≠0→jo s.2.2.1.1 k:=λk h=>(wm B.m k).1 h
 unfold WR
 refine ok_eq (λ_=> ?_) λ_=>ok_eq (λ_=> ?_) λ_=>ok_eq (λ_=> ?_) λ_=>ok_eq (λ_=> ?_) λ_=>ok_eq (λ_=> ?_) λ_=>ok_eq (λ_=> ?_) λ_=>ok_eq (λ_=> ?_) λ_=>ok_eq (λ_=> ?_) λ_=>ok_eq (λ_=> ?_) λ_=>ok_eq (λ_=> ?_) λ_=>ok_eq (λ_=> ?_) λ_=>ag (aaw N hN h2 hm hc hs hR he) λr hr=>aq hr
 ·exact ag (aab N ω ml _) λr hr=>hZ λh=>⟨B.WV (hr h).1 B.a (hr h).2 (λ_ h=>h) λx hx=>(hr h).2 _ (B.ma x hx),up⟩
 ·exact ag (adK N ω ml al _) λr hr=>hZ λh=>⟨B.WV B.m (hr h).1 (λ_ h=>h) (hr h).2.1 (hr h).2.2,up⟩
 ·exact bw (aau N ω ω _) (bz (λ_=>dW δ) λhf=>ag (Mr N ω ω hs hR WS hW (vj B ((p3 B.a _).1 hf))) λr hr=>aq hr)
 ·exact ag (PV N hN h2 ω EH hb B he.2.2.1 WS) λr hr=>hZ λh=>⟨(hr h).1,up⟩
 ·exact bw (st _) (ok_eq (λ_=>dW δ) λh0=>bw (st _) (bt (λ_=>dW δ) λ_=>ag (Mr N ω ω hs hR WS hW (BL B δ (stm _ h0))) λr hr=>aq hr))
 ·exact bw (st _) (ok_eq (λ_=>dW δ) λh0=>ag (mH N ω ω hb.2.2.1 _ _) λg hg=>ag (bu N ω hg) λx hx=>ag (rr N ω ω hx) λx hx=>ag (bu N ω WS) λy hy=>ag (qv N ω ω ω hy hx) λ_ _=>ax (λ_=>dW δ) λ_=>ag (Mr N ω ω hs hR WS hW (BL B δ (stm _ h0))) λr hr=>aq hr)
 ·exact ag (aad N ω al B.ma _ _) λr hr=>hZ λh=>⟨B.WV B.m (hr h).1 (λ_ h=>h) (hr h).2.1 (hr h).2.2,up⟩
 ·have hx:G 0 lE (s.2.1,(e.2.2.1,(e.2.2.2.1,(e.2.2.2.2.1,(e.2.2.2.2.2.2.1,(e.2.2.2.2.2.2.2.1,())))))):=⟨hs.2.1,he.2.2.1,he.2.2.2.1,he.2.2.2.2.1,WS,he.2.2.2.2.2.2.2.1,trivial⟩
  exact ag (aai N hN h2 ω EH hb B hx) λr hr=>aq λh=>⟨hr h,qN.add hR.2 hm δ⟩
 ·exact bw (aau N ω ω _) (bz (λ_=>dW δ) λ_=>ag (WW N ω (ct hb.2.2.2.2.2.1.1 ω) _ _) λr hr=>hZ λh=>⟨B.Ml (hr h).1 λx hx=>B.ok x ((hr h).2 x hx),up⟩)
 ·exact ag (Ok.and (DS N hN c h2 ω hb _ he.2.2.2.2.2.2.2.1) (PW N hN ω hb B _ _)) λr ⟨⟨zS,AH⟩,ZX⟩=>ok_eq (λh0=>bt (λ_=>ag (PC N ω h2 ω hs.2.2.2.1.2.2.2.2.2.2.2.2.2.1 AH) λg hg=>hZ λ_=>⟨ZX h0,up⟩) λ_=>hZ λ_=>⟨ZX h0,up⟩) λh=>dW h
 ·exact ag (vh N ω hs.1 WS) λt ht=>bz (λ_=>dW δ) λ_=>aq λ_=>⟨B,up⟩
theorem acz(N:Nat)(hN:5000000≤N){c:ae}{s:aV}{e:g9}{m:Nat}(h2:200≤m)(hm:m≤999)(hc:G 5 aB c)(hs:GS m s)(hR:qN c m s)(he:G 0 pI e):Ok (λr=>qN c (m+1) r.1) (WT N c s e):=by
 have cm: ∀r:cK,Ok (λr:aV×cK=>qN c (m+1) r.1) (some (s,r)):=λr=>aq hR.up
 unfold WT
 exact bw (nM N ω c) (bz (λ_=>cm _) λ_=>ag (Kk N ω e) λ_ _=>bz (λ_=>cm _) λ_=>ag (adU N hN h2 hm hc hs hR he) λr hr=>bt (λ_=>cm _) λh=>aq (hr h))
end VM
end
