/- A part of the proof of TearFlat of layer 29: what the functions compute, in plain words. -/
import Derived.Test.YtocmlaipoebfeaaGreatPlain7
import Derived.Test.YtocmlaipoebfeaaGreatPlain4
set_option linter.all false
section
namespace VM
open Go VM.F
theorem GC{l s:br}(h:eC l=true)(hs:s.Sublist l):eC s=true:=by
 obtain⟨h1,h2,h3⟩:=kF.1 h
 exact kF.2 ⟨λx hx=>h1 x (hs.subset hx),h2.sublist hs,cA hs.length_le h3⟩
theorem GD{α:Type}{l s:List α}{d:α}{i:Nat}(hi:i<l.length)(h:s.Sublist (l.take i)):s.Sublist (l.take (i+1))∧(s++[l.getD i d]).Sublist (l.take (i+1)):=by
 have e2:l.take (i+1)=l.take i++[l[i]]:=(sD hi).symm
 rw[e2,fK hi]
 exact⟨h.trans (List.sublist_append_left ..),h.append (List.Sublist.refl _)⟩
theorem Uu(N:Nat)(hN:200000≤N){l:br}(hl:l.length≤50000)(a id:Int):Ok (λr=>r.2=0→eC r.1=true∧ ∀x∈r.1,x∈l) (n0 N l a id):=by
 have bad: ∀e:Int,e≠0→Ok (λr:br×Int=>r.2=0→eC r.1=true∧ ∀x∈r.1,x∈l) (some ([],e)):=λe h=>an λh'=>absurd h' h
 unfold n0 n0.b
 refine bx (il N ω hN) (bw (λ_=>bad _ δ) λhO=>bk (len:=l.length) (F:=λn i s=>n0.l5 N n l a id s i) (λi s=>s.Sublist (l.take i)) (EH _) ω (λn i s hi hI hr=> ?_) (λn s hI=> ?_))
 all_goals have hs:=hI.length_le
 all_goals rw[bO]at hs
 all_goals unfold n0.l5 n0.fi
 ·rw[aw (x:=(i:Int)+1) ω ω,ae i]
  obtain⟨q1,q2⟩:=GD (d:=fy) hi hI
  have h1:=hr s q1
  have h2:=hr _ q2
  repeat' first|exact h1|exact h2|refine aD (by rw[aK];omega) ?_|refine aA ⟨ω,ω⟩ ?_|refine ax (λ_=> ?_) (λ_=> ?_)|refine bu (λ_=> ?_) (λ_=> ?_)|(exfalso;omega)
 ·rw[iD]at hI
  exact ax (λ_=>ω) λ_=>ok_eq (λ_=>bad _ δ) λ_=>an λ_=>⟨GC hO hI,λx hx=>hI.subset hx⟩
theorem XL(N:Nat)(hN:200000≤N){l:br}{a:List Int}{m:Nat}(hm:m≤50000)(hl:l.length≤m)(ha:a.length≤m):Ok (λr=>eC l=true→r.Sublist l) (fT N l a):=by
 unfold fT fT.b
 refine bx (il N ω hN) (bw (λh=>an λh'=>by rw[h]at h';exact nomatch h') λ_=>bk (len:=l.length) (F:=λn i s=>fT.l5 N n l a s i) (λi s=>s.Sublist (l.take i)) (EH _) ω (λn i s hi hI hr=> ?_) (λn s hI=> ?_))
 all_goals have hs:=hI.length_le
 all_goals rw[bO]at hs
 all_goals unfold fT.l5 fT.fi
 ·obtain⟨q1,q2⟩:=GD (d:=fy) hi hI
  refine ax (λ_=> ?_) λ_=>ω
  refine bk (len:=a.length) (F:=λn' j b=>fT.l9 N (fT.l5 N n) n' l a s (i:Int) b j) (λ_ _=>True) trivial ω (λn' j b hj _ eZ=> ?_) (λn' b _=> ?_)
  all_goals unfold fT.l9 fT.zg
  ·rw[aw (x:=(j:Int)+1) ω ω,ae j]
   exact ax (λ_=>qg (λ_=>eZ _ trivial) λ_=>aA ⟨ω,ω⟩ (aA ⟨ω,ω⟩ (eZ _ trivial))) λ_=>ω
  ·rw[aw (x:=(i:Int)+1) ω ω,ae i]
   exact ax (λ_=>ω) λ_=>bw (λ_=>aA ⟨ω,ω⟩ (aD (by rw[aK];omega) (hr _ q2))) λ_=>hr s q1
 ·rw[iD]at hI
  exact ax (λ_=>ω) λ_=>an λ_=>hI
theorem N9(N:Nat)(hN:5000000≤N){c:ag}{b:aq}{m:Nat}(hm:m≤50000)(hb:G m aJ b)(hR:RB c b)(id:Int)(bm:jn b.1 id):Ok (λr=>RB c r.1) (KL N c b id):=by
 have EV:iN b.1 id≠0:=(vt hR.m id).2 bm
 unfold KL
 refine bx (dQ N hN hm hb) (bw (λh=>by rw[mE.2 hR]at h;exact nomatch h) λ_=>bx (rz N (cA hb.1.1 ω) ω _) (ok_eq (λh=>absurd h EV) λ_=>af (NP N ω hm hb.2.1 _) λa ha=>af (XL N ω hm hb.2.2.2.2.2.1.1 ha) λr hr=>an ?_))
 have hs:=hr hR.o
 exact hR.KX (GC hR.o hs) λx hx=>hR.ok x (hs.subset hx)
theorem aa6(N:Nat)(hN:200000≤N){l:br}(hl:l.length≤50000)(a d:Int):Ok (λr=>r.length≤l.length∧ ∀x∈r,x∈l) (dS N l a d):=by
 unfold dS dS.b
 refine bx (il N ω hN) (bw (λ_=>an ⟨bG _,λx hx=>nomatch hx⟩) λ_=>bk (len:=l.length) (F:=λn i s=>dS.l5 N n l a d s i) (λi s=>s.length≤i∧ ∀x∈s,x∈l) ⟨aI 0,λx hx=>nomatch hx⟩ ω (λn i s hi hI hr=> ?_) (λn s hI=> ?_))
 all_goals unfold dS.l5 dS.fi
 ·obtain⟨hs,RG⟩:=hI
  have hx:l.getD (i:Int).toNat fy∈l:=tp hi
  have fin: ∀k:Nat,k≤s.length→Ok (λr=>r.length≤l.length∧ ∀x∈r,x∈l) (dS.Jd N (dS.l5 N n) l a d s (i:Int) (k:Int)):=λk hk=>by
   unfold dS.Jd dS.BV
   rw[aw (x:=(i:Int)+1) ω ω,ae i]
   dsimp only
   have t: ∀a b:Nat,(List.drop a (List.take b s)).length≤s.length:=λa b=>by rw[dI,bO];omega
   have t1:=t (0:Int).toNat (k:Int).toNat
   have t2:=t (k:Int).toNat (s.length:Int).toNat
   refine BS ⟨ω,ω,ω,ω⟩ (aD ω (aA ⟨ω,ω⟩ (aD (by rw[aK];omega) (BS ⟨ω,ω,ω,ω⟩ (aD (by rw[aT,aK];omega) (hr _ ⟨?_,λy hy=> ?_⟩))))))
   ·simp only[cL,aT,dI,bO,aK,aE,cZ];omega
   ·rcases bo.1 hy with hy|hy
    ·rcases bo.1 hy with hy|hy
     ·exact RG y (jI (m8 hy))
     ·rw[cm.1 hy];exact hx
    ·exact RG y (jI (m8 hy))
  have h1:=hr s ⟨ω,RG⟩
  have hw:Ok (λr=>r.length≤l.length∧ ∀x∈r,x∈l) (dS.l9 N (dS.l5 N n) N l a d s (i:Int) 0):=by
   refine kY (len:=s.length) (F:=λn' j=>dS.l9 N (dS.l5 N n) n' l a d s (i:Int) j) ω (λn' j hj eZ=> ?_) (λn'=> ?_)
   all_goals unfold dS.l9 dS.zg
   ·rw[aw (x:=(j:Int)+1) ω ω,ae j]
    have hah: ∀x y:gu,Ok (λ_=>True) (Ua N x y):=λx y=>by unfold Ua;exact bu (λ_=>fg) λ_=>fg
    exact ax (λ_=>aA ⟨ω,ω⟩ (aA ⟨ω,ω⟩ (af (hah _ _) λ_ _=>qg (λ_=>eZ) λ_=>fin j ω))) λ_=>ω
   ·exact ax (λ_=>ω) λ_=>fin _ (aI _)
  rw[aw (x:=(i:Int)+1) ω ω,ae i]
  repeat' first|exact h1|exact hw|refine aA ⟨ω,ω⟩ ?_|refine ax (λ_=> ?_) (λ_=> ?_)|refine bu (λ_=> ?_) (λ_=> ?_)|(exfalso;omega)
 ·exact ax (λ_=>ω) λ_=>an hI
def aid(x:gu)(q:Int):gu:=(x.1,(x.2.1,(x.2.2.1,(x.2.2.2.1,(q,x.2.2.2.2.2)))))
def leftOf(l:br)(n:Int)(k:Nat)(x:gu):Prop:= ∃q:Int,x=aid (l.getD k fy) q∧n≤q∧q≤1000000000
theorem leftOf.mono{l:br}{n n':Int}(h:n'≤n){k:Nat}{x:gu}(hx:leftOf l n k x):leftOf l n' k x:=by
 obtain⟨q,e,h1,h2⟩:=hx
 exact⟨q,e,gQ h h1,h2⟩
abbrev Sz(l:br)(o:gu)(r:br×bL×Int×Int):Prop:=eC r.1=true∧(∀x∈r.1,∃y∈l,x.1=y.1∧x.2.1=y.2.1∧x.2.2.1=y.2.2.1)∧r.2.2.1≤o.2.2.2.2.1
theorem aa7{l s:br}{n:Int}(hs:s.length=l.length)(h: ∀k,k<l.length→leftOf l n k (s.getD k fy))(hp:l.Pairwise Jk):s.Pairwise Jk:=by
 rw[p4]at hp ⊢
 intro i j hi hj pF
 have g: ∀k (hk:k<s.length),s[k].1=(l[k]' ω).1:=λk hk=>by
  obtain⟨q,e,_⟩:=h k ω
  rw[fK hk,fK (show k<l.length by omega)]at e
  rw[e];rfl
 unfold Jk
 rw[g i hi,g j hj]
 exact hp i j ω ω pF
theorem XM(N:Nat)(hN:200000≤N){l:br}{o:gu}(hl:l.length≤50000)(hO:eC l=true)(ho:ry o):Ok (Sz l o) (ch N l o):=by
 unfold ch ch.b
 refine bx (il N ω hN) (bw (λh=>by rw[hO]at h;exact nomatch h) λ_=>bx (Aw N o) (bw (λh=>absurd ho (of_decide_eq_false h)) λ_=>aD (by rw[bZ];omega) (af (aa6 N hN hl _ _) λw ⟨hwl,hwm⟩=> ?_)))
 obtain⟨h1,h2,h3⟩:=kF.1 hO
 rw[cL]
 have fin: ∀(n:Int) (s:br) (q:Int) (t:bL),s.length=l.length→(∀k,k<l.length→leftOf l n k (s.getD k fy))→q≤o.2.2.2.2.1→Ok (Sz l o) (ch.j22 N s q t):=λn s q t hs Li hq=>by
  unfold ch.j22 ch.aaI
  refine bk (len:=s.length) (F:=λn i u=>ch.CK N n s q t u i) (λi u=>u.Sublist (s.take i)∧ ∀x∈u,oY 0 x.2.2.2.2.1) ⟨EH _,λx hx=>nomatch hx⟩ ω (λn i u hi hI hr=> ?_) (λn u hI=> ?_)
  all_goals obtain⟨i1,i2⟩:=hI
  all_goals have Hk:=i1.length_le
  all_goals rw[bO]at Hk
  all_goals unfold ch.CK ch.Dx
  ·rw[aw (x:=(i:Int)+1) ω ω,ae i,aE]
   obtain⟨q1,q2⟩:=GD (d:=fy) hi i1
   exact ax (λ_=>aA ⟨ω,ω⟩ (ax (λhq=>aA ⟨ω,ω⟩ (aD (by rw[aK];omega) (hr _ ⟨q2,λx hx=>by
    rcases bo.1 hx with hx|hx
    ·exact i2 x hx
    ·rw[cm.1 hx];exact hq⟩))) λ_=>hr u ⟨q1,i2⟩)) λ_=>ω
  ·rw[iD]at i1
   have ML: ∀x∈s,∃y∈l,∃q:Int,x=aid y q∧q≤1000000000:=λx hx=>by
    obtain⟨k,hk,e⟩:=fX hx
    obtain⟨q,e',_,h⟩:=Li k ω
    rw[fK hk,e]at e'
    exact⟨_,tp (d:=fy) (show k<l.length by omega),q,e',h⟩
   refine ax (λ_=>ω) λ_=>an ⟨kF.2 ⟨λx hx=> ?_,(aa7 hs Li h2).sublist i1,by have:=i1.length_le;dsimp only at*;omega⟩,λx hx=> ?_,hq⟩
   ·obtain⟨y,hy,q,e,hq⟩:=ML x (i1.subset hx)
    have h0:=i2 x hx
    have ok:=h1 y hy
    subst e
    exact⟨ok.1,ok.2.1,ok.2.2.1,ok.2.2.2.1,⟨show(1:Int)≤q from h0,hq⟩,ok.2.2.2.2.2⟩
   ·obtain⟨y,hy,q,e,_⟩:=ML x (i1.subset hx)
    exact⟨y,hy,by rw[e];rfl,by rw[e];rfl,by rw[e];rfl⟩
 refine bk (len:=w.length) (F:=λn i (s:br×Int×bL)=>ch.l7 N n o s.1 s.2.1 s.2.2 w i) (s:=(_,(_,_))) (λi s=>(s.1.length=l.length∧ ∀k,k<l.length→leftOf l (-1000000000*(i:Int)) k (s.1.getD k fy))∧(0≤s.2.1∧s.2.1≤o.2.2.2.2.1)∧s.2.2.length≤i) ⟨⟨rfl,λk hk=>⟨(l.getD k fy).2.2.2.2.1,rfl,?_,?_⟩⟩,⟨?_,fx _⟩,bG _⟩ ω (λn i s hi hI hr=> ?_) (λn s hI=> ?_)
 ·have:=(h1 _ (tp (d:=fy) hk)).2.2.2.2.1.1
  exact gQ δ this
 ·exact(h1 _ (tp (d:=fy) hk)).2.2.2.2.1.2
 ·exact gQ δ ho.2.2.2.2.1.1
 all_goals unfold ch.l7 ch.pN
 ·obtain⟨⟨hs,Li⟩,hq,ht⟩:=hI
  have hoq:o.2.2.2.2.1≤1000000000:=ho.2.2.2.2.1.2
  have f1:=fin _ s.1 s.2.1 s.2.2 hs Li hq.2
  have hx:=h1 _ (hwm _ (tp (d:=fy) hi))
  have ah5: ∀(v:Int) (t:tg),0≤v→v≤s.2.1→v≤1000000000→Ok (Sz l o) (ch.BT N (ch.l7 N n) o s.1 s.2.1 s.2.2 w (i:Int) v t):=λv t v0 v1 v2=>by
   unfold ch.BT ch.vW
   have Wb:s.2.1≤1000000000:=gQ hq.2 hoq
   rw[aw (x:=s.2.1-v) ω ω]
   refine aD (by rw[aK];omega) (bk (len:=s.1.length) (F:=λn' j u=>ch.AY N (ch.l7 N n) n' o u (s.2.1-v) (s.2.2++[t]) w (i:Int) v j) (λj u=>u.length=l.length∧ ∀k,k<l.length→leftOf l (if k<j then-1000000000*((i:Int)+1)else-1000000000*(i:Int)) k (u.getD k fy)) ⟨hs,λk hk=>by rw[ah ω];exact Li k hk⟩ ω (λn' j u hj hJ eZ=> ?_) (λn' u hJ=> ?_))
   all_goals obtain⟨Hk,hum⟩:=hJ
   all_goals unfold ch.AY ch.yl
   ·rw[aw (x:=(j:Int)+1) ω ω,ae j,aE,aE]
    have same: ∀k,k<l.length→k≠j→leftOf l (if k<j+1 then-1000000000*((i:Int)+1)else-1000000000*(i:Int)) k (u.getD k fy):=λk hk e=>by
     have:=hum k hk
     by_cases h:k<j
     ·rw[aj h]at this;rw[aj ω];exact this
     ·rw[ah h]at this;rw[ah ω];exact this
    have h0:=hum j ω
    rw[ah ω]at h0
    refine ax (λ_=>aA ⟨ω,ω⟩ (aA ⟨ω,ω⟩ (ok_eq (λ_=>aA ⟨ω,ω⟩ (aA ⟨ω,ω⟩ (eZ _ ⟨by rw[bB];exact Hk,λk hk=> ?_⟩))) λ_=>eZ u ⟨Hk,λk hk=> ?_⟩))) λ_=>ω
    ·by_cases e:k=j
     ·subst e
      rw[aj ω]
      obtain⟨q,e,q1,q2⟩:=h0
      have es: ∀y:gu,(u.set k y).getD k fy=y:=λy=>by
       rw[aR,List.getElem?_set_self ω];rfl
      rw[es,e]
      unfold aid
      dsimp only
      rw[aw (x:=q-v) ω ω]
      exact⟨q-v,rfl,ω,ω⟩
     ·have es: ∀y:gu,(u.set j y).getD k fy=u.getD k fy:=λy=>by
       rw[aR,aR,List.getElem?_set_ne ω]
      rw[es];exact same k hk e
    ·by_cases e:k=j
     ·subst e
      rw[aj ω]
      exact h0.mono ω
     ·exact same k hk e
   ·rw[aw (x:=(i:Int)+1) ω ω,ae i]
    exact ax (λ_=>ω) λ_=>hr (_,(_,_)) ⟨⟨Hk,λk hk=>by
     have:=hum k hk
     rw[aj ω]at this
     rw[Int.natCast_add];exact this⟩,⟨by dsimp only;omega,by dsimp only;omega⟩,by dsimp only;rw[List.length_append,List.length_singleton];omega⟩
  have KM:0<s.2.1→Ok (Sz l o) (ch.QL N (ch.l7 N n) o s.1 s.2.1 s.2.2 w (i:Int)):=λMk=>by
   unfold ch.QL ch.KN
   rw[aw (x:=(i:Int)+1) ω ω,ae i,aE]
   dsimp only
   have h1:=hr s ⟨⟨hs,λk hk=>(Li k hk).mono ω⟩,hq,ω⟩
   have Wb:s.2.1≤1000000000:=gQ hq.2 hoq
   have hm:0≤mn s.2.1 (w.getD i fy).2.2.2.2.1∧mn s.2.1 (w.getD i fy).2.2.2.2.1≤s.2.1:=by
    have h1:=hx.2.2.2.2.1.1
    generalize (w.getD i fy).2.2.2.2.1=q at*
    rw[Vb];split<;>omega
   repeat' first|exact h1|exact ah5 _ _ hm.1 hm.2 (gQ hm.2 Wb)|refine aA ⟨ω,ω⟩ ?_|refine ok_eq (λ_=> ?_) (λ_=> ?_)
  repeat' first|exact f1|exact KM (by assumption)|refine aA ⟨ω,ω⟩ ?_|refine ax (λ_=> ?_) (λ_=> ?_)|refine ok_eq (λ_=> ?_) (λ_=> ?_)|(exfalso;omega)
 ·obtain⟨⟨hs,Li⟩,hq,ht⟩:=hI
  exact ax (λ_=>ω) λ_=>fin _ _ _ _ hs Li hq.2
theorem XN(N:Nat)(hN:5000000≤N){c:ag}{b:aq}{o:gu}{m:Nat}(h2:200≤m)(hm:m≤40000)(hc:G m aB c)(hb:G m aJ b)(hR:RB c b)(ho:G 0 m6 o):Ok (λr=>r.2.2.2=0→RB c r.1) (jm N c b o):=by
 have Im:=hb.2.2.2.2.2.1.1
 have dR: ∀(t:bL) (e:Int),e≠0→Ok (λr:aq×bL×Int×Int=>r.2.2.2=0→RB c r.1) (some ((cw,(dh,(bK,(bK,(dV,(eh,())))))),(t,((0:Int),e)))):=λt e h=>an λh'=>absurd h' h
 obtain⟨g1,g2,g3⟩:=kF.1 hR.o
 unfold jm jm.b
 refine af (A2 N hN h2 hm hc hb (G.mono (bG m) ho)) λe he=>bu (λh=>dR _ _ h) λe0=> ?_
 obtain⟨o1,o2,o3⟩:=he e0
 have oA:=(pB hR.a _).1 o2
 have KM: ∀(r:br) (t:bL) (q:Int),eC r=true→(∀x∈r,∃y∈b.2.2.2.2.2.1,x.1=y.1∧x.2.1=y.2.1∧x.2.2.1=y.2.2.1)→q≤o.2.2.2.2.1→(0<q→r.length≤31)→(∀y∈b.2.2.2.2.2.1,oY y.1 o.1)→Ok (λr=>r.2.2.2=0→RB c r.1) (jm.QL N c b o (cw,(dh,(bK,(bK,(dV,(eh,())))))) r t q):=λr t q hr hrm hq H9 fA=>by
  obtain⟨r1,r2,r3⟩:=kF.1 hr
  unfold jm.QL jm.KN
  refine af (Jn N hN ω hb hR) λz hz=>bu (λh=>dR _ _ h) λz0=> ?_
  obtain⟨zR,_,za,_⟩:=hz z0
  have hk: ∀x∈r,Gx c z.1.2.1 x:=λx hx=>by
   obtain⟨y,hy,_,e1,e2⟩:=hrm x hx
   have:=hR.ok y hy
   unfold Gx at this ⊢
   rw[za,e1,e2];exact this
  refine ax (λh0=>aD (by rw[aK];omega) (an λ_=>zR.KX (kF.2 ⟨λx hx=> ?_,?_,?_⟩) λx hx=> ?_)) λ_=>an λ_=>zR.KX hr hk
  ·rcases bo.1 hx with hx|hx
   ·exact r1 x hx
   ·rw[cm.1 hx]
    exact⟨o1.1,o1.2.1,o1.2.2.1,o1.2.2.2.1,⟨h0,gQ hq o1.2.2.2.2.1.2⟩,o1.2.2.2.2.2⟩
  ·rw[wa]
   refine⟨r2,Ex ..,λx hx y hy=> ?_⟩
   rw[cm.1 hy]
   obtain⟨u,hu,e,_⟩:=hrm x hx
   unfold Jk
   rw[e];exact fA u hu
  ·rw[aT,aK];have:=H9 h0;omega
  ·rcases bo.1 hx with hx|hx
   ·exact hk x hx
   ·rw[cm.1 hx]
    unfold Gx
    rw[za];exact⟨oA,o3⟩
 have hj7:(∀y∈b.2.2.2.2.2.1,oY y.1 o.1)→Ok (λr=>r.2.2.2=0→RB c r.1) (jm.j7 N c b o (cw,(dh,(bK,(bK,(dV,(eh,()))))))):=λfA=>by
  unfold jm.j7 jm.PG
  refine af (XM N ω ω hR.o o1) λz ⟨z1,z2,z3⟩=> ?_
  have zl:=(kF.1 z1).2.2
  exact ax (λh0=>ok_eq (λ_=>dR _ _ δ) λiI=>KM _ _ _ z1 z2 z3 (λ_=>ω) fA) λh0=>KM _ _ _ z1 z2 z3 (λh=>ω) fA
 refine ax (λh0=> ?_) λh0=>hj7 λy hy=> ?_
 ·dsimp only
  refine aA (by rw[aw ω ω];omega) (ed (λ_=>dR _ _ δ) λXO=>hj7 λy hy=> ?_)
  have e1:(W .i64 ((b.2.2.2.2.2.1.length:Int)-1)).toNat=b.2.2.2.2.2.1.length-1:=by rw[aw ω ω];omega
  rw[e1,fK ω]at XO
  obtain⟨k,hk,e⟩:=fX hy
  by_cases h:k=b.2.2.2.2.2.1.length-1
  ·subst h;rw[←e];exact XO
  ·have:=p4.1 g2 k (b.2.2.2.2.2.1.length-1) hk ω ω
   rw[e]at this
   exact KU this XO
 ·have:=List.length_pos_of_mem hy
  omega
end VM
end
section
namespace VM
open Go VM.F
theorem aa8(N:Nat)(hN:5000000≤N){c:ag}{b:aq}{m:Nat}(hm:m≤40000)(hc:G m aB c)(hb:G m aJ b)(hR:RB c b)(f:Int)(to a:Int):Ok (λr=>r.2=0→RB c r.1) (Ud N c b f to a):=by
 have bad: ∀e:Int,e≠0→Ok (λr:aq×Int=>r.2=0→RB c r.1) (some ((cw,(dh,(bK,(bK,(dV,(eh,())))))),e)):=λe h=>an λh'=>absurd h' h
 unfold Ud
 refine af (Xp N hN hm hc hb _ _ _) λ_ _=>bu (λh=>bad _ h) λ_=>af (QU N ω (cA hb.1.1 ω) (cA hb.2.1.1 ω) _ _) λr hr=>bu (λh=>bad _ h) λh0=>an λ_=> ?_
 obtain⟨r1,r2,r3⟩:=hr h0
 exact hR.Ut hR.m r1 (λ_ h=>h) r2 r3
theorem XP(N:Nat)(hN:200000≤N){c:ag}{b:aq}{m:Nat}(hm:m≤50000)(hb:G m aJ b)(hR:RB c b){a:Int}(ha:qn b.2.1 a):Ok (λr=>SB c b.2.1 r∧r.length≤2*m) (mY N b.2.2.2.1 a 0):=by
 have h:=hb.2.2.2.1
 have hl:=h.1
 have hp:=(dw (dN (mE.2 hR)).2).2
 unfold mY mY.b
 have nil:Ok (λr:au=>SB c b.2.1 r∧r.length≤2*m) (some []):=an ⟨SB.nil,bG _⟩
 refine bx (mM N ω hN) (bw (λ_=>nil) λ_=>ok_eq (λ_=>nil) λ_=>ax (λ_=>nil) λa0=>ax (λ_=>nil) λa1=>ax (λ_=>nil) λ_=>ax (λ_=>nil) λ_=>bk (len:=b.2.2.2.1.length) (F:=λn i s=>mY.l5 N n b.2.2.2.1 a 0 s i) (λi s=>SB c b.2.1 s∧s.length≤2*i) ⟨SB.nil,bG _⟩ ω (λn i s hi hI hr=> ?_) (λn s hI=> ?_))
 all_goals unfold mY.l5 mY.fi
 all_goals obtain⟨i1,i2⟩:=hI
 ·have hx:G m jA (b.2.2.2.1.getD i bf):=h.2 _ (tp hi)
  have Iv:=hp _ (tp (d:=bf) hi)
  have TY:=hR.sk _ (tp (d:=bf) hi)
  dsimp only
  rw[aw (x:=(i:Int)+1) ω ω,ae i,aE]
  have h1:=hr s ⟨i1,ω⟩
  have hq:aH (b.2.2.2.1.getD i bf).2.2.1:=hx.2.2.1
  have mI:se (b.2.2.2.1.getD i bf).2.2.1:=Iv.2
  have pl:=Iv.1
  have ins:=TY.2
  generalize (b.2.2.2.1.getD i bf).2.2.1=q at*
  generalize (b.2.2.2.1.getD i bf).2.1=k at*
  have hn:=(ahS ⟨hq,mI⟩).1
  unfold aH at hn
  rw[aw hn.1 hn.2]
  exact ax (λ_=>aA ⟨ω,ω⟩ (ok_eq (λ_=>aA ⟨ω,ω⟩ (aA ⟨ω,ω⟩ (aA ⟨ω,ω⟩ (aA ⟨ω,ω⟩ (aD (by rw[sW];omega) (hr _ ⟨SB.app i1 (SB.two hn hq ω ⟨⟨a0,a1,pl.2.2.1,pl.2.2.2⟩,.inr ha,ins⟩ ⟨⟨δ,δ,pl.2.2.1,pl.2.2.2⟩,.inl rfl,ins⟩),by rw[aT,aW,aK];omega⟩)))))) λ_=>h1)) λ_=>ω
 ·exact ax (λ_=>ω) λ_=>an ⟨i1,ω⟩
theorem Uv{c:ag}{b:aq}(h:RB c b):b.2.1.length≤24:=NZ h.a
theorem aa9(N:Nat)(hN:5000000≤N){c:ag}{b:aq}{m:Nat}(h2:200≤m)(hm:m≤1000)(hc:G m aB c)(hb:G m aJ b)(hR:RB c b)(a:Int):Ok (Jm c b) (gF N c b a):=by
 have hal:=Uv hR
 unfold gF gF.b
 refine bx (dQ N hN ω hb) (bw (λ_=>Jm.bad δ) λhB=>af (qF N ω ω hb _) λ_ _=>ok_eq (λ_=>Jm.bad δ) λ_=> ?_)
 refine bk (len:=b.2.1.length) (F:=λn i (z:au×bE)=>gF.l8 N n a c b (cw,(dh,(bK,(bK,(dV,(eh,())))))) z.1 z.2 i) (s:=(_,_)) (λi z=>(SB c b.2.1 z.1∧z.1.length≤2*m*i)∧PB b.1 b.2.1 z.2∧z.2.length≤4*i) ⟨⟨SB.nil,bG _⟩,PB.nil,bG _⟩ ω (λn i z hi hI hr=> ?_) (λn z hI=> ?_)
 all_goals unfold gF.l8 gF.CQ
 all_goals obtain⟨⟨h5,h7⟩,h6,h8⟩:=hI
 ·have hmi:2*m*i≤2*m*24:=lY _ ω
  have hms:2*m*(i+1)=2*m*i+2*m:=qS _ _
  have hx:G m eR (b.2.1.getD (i:Int).toNat a7):=G.at hb.2.1 _
  have hA:qn b.2.1 (b.2.1.getD (i:Int).toNat a7).1:=⟨_,tp hi,rfl⟩
  have hM:=uB hR hA
  have hF:cW 2 0∧jx b.1 b.2.1 2 0:=B2 δ
  have hj: ∀p:bE,PB b.1 b.2.1 p→p.length≤4*i+2→Ok (Jm c b) (gF.BT N (gF.l8 N n) a c b (cw,(dh,(bK,(bK,(dV,(eh,())))))) z.1 p (i:Int) (b.2.1.getD (i:Int).toNat a7)):=λp hp Dr=>by
   unfold gF.BT gF.vW
   rw[aw (x:=(i:Int)+1) ω ω,ae i]
   exact af (uw N ω ω hb _) λg hg=>ax (λ_=>bx (dC N ω hg.1 hg.2) (bx (oB N ω (D9 (tq hg).1)) (af (sZ N ω ⟨(tq hg).2,by rw[Int.neg_neg];exact(tq hg).1⟩ hF hM) λu ⟨hu,Hk⟩=>aD ω (af (XP N ω ω hb hR hA) λs ⟨hs,Li⟩=>aD ω (hr (_,_) ⟨⟨SB.app h5 hs,by dsimp only;rw[List.length_append];omega⟩,PB.app hp hu,by dsimp only;rw[List.length_append];omega⟩))))) λ_=>af (XP N ω ω hb hR hA) λs ⟨hs,Li⟩=>aD ω (hr (_,_) ⟨⟨SB.app h5 hs,by dsimp only;rw[List.length_append];omega⟩,hp,by dsimp only;omega⟩)
  rw[aw (x:=(i:Int)+1) ω ω,ae i]
  exact ax (λ_=>aA ⟨ω,ω⟩ (bu (λ_=>hr z ⟨⟨h5,ω⟩,h6,ω⟩) λ_=>ok_eq (λ_=>af (Ji N hN ω hc hb _) λq hq=>bx (dC N ω hq.1 hq.2) (af (sZ N ω (tq hq) hM hF) λu ⟨hu,Hk⟩=>aD ω (hj _ (PB.app h6 hu) (by rw[aT];omega)))) λ_=>hj _ h6 ω)) λ_=>ω
 ·have hmi:2*m*b.2.1.length≤2*m*24:=lY _ ω
  exact ax (λ_=>ω) λ_=>af (sY N ω ω hb hR h5 h6 ω ω) λr hr=>an hr
theorem y9{n:Int}: ∀{l:aO},nH n l≠0→qn l (nH n l)
 |[],h=>absurd rfl h
 |x::t,h=>by
  rw[sP]at h ⊢
  have up:qn t (nH n t)→qn (x::t) (nH n t):=λ⟨y,hy,e⟩=>⟨y,a8 _ hy,e⟩
  by_cases e1:x.2.1=n
  ·rw[aj e1]at h ⊢
   by_cases e2:x.2.2.1=1
   ·rw[aj e2];exact⟨x,bp ..,rfl⟩
   ·rw[ah e2]at h ⊢;exact up (y9 h)
  ·rw[ah e1]at h ⊢;exact up (y9 h)
theorem Jp{a:aO}{n:Int}(h:nI a n≠0):qn a (nI a n):=by
 unfold nI at*
 split at h
 ·rw[aj (by assumption)];exact y9 h
 ·exact absurd rfl h
def SA(c:ag)(y:FF):Prop:=(0≤y.1∧oY y.1 c.1.length)∧se y.2.1
theorem QX{c:ag}{L:bz}(h:BI c L=true): ∀x∈L,∀y∈x.2.1,SA c y:=by
 unfold BI at h
 simp only[bP,gn,fp]at h
 refine(gU (d:=((0:Int),(cw,a7))) (Q:=λx=> ∀y∈x.2.1,SA c y)).1 λj hj=> ?_
 have h1:=(h.2.2 j hj).2.2.2.1
 unfold FJ at h1
 exact(gU (d:=df) (Q:=SA c)).1 λi hi=>by
  have h2:=bF (dm.1 h1).1 i hi
  exact⟨⟨h2.1,h2.2.1⟩,h2.2.2.2.1⟩
theorem XQ(N:Nat)(hN:5000000≤N){c:ag}{b:aq}{L:bz}{l:aO}{m:Nat}(h2:200≤m)(hm:m≤2000)(hb:G m aJ b)(hR:RB c b)(hL:LL m L)(hl:G m (.slice eR) l):Ok (λr=>r.2.2=0→RB c r.1) (oZ N c b L l):=by
 have dR: ∀e:Int,e≠0→Ok (λr:aq×bz×Int=>r.2.2=0→RB c r.1) (some ((cw,(dh,(bK,(bK,(dV,(eh,())))))),([],e))):=λe h=>an λh'=>absurd h' h
 have h3:=hL.1
 have h4:=hl.1
 have hw:IT L:=λy hy=>cA (hL.2 y hy).2.1.1 ω
 have hci:c.1.length≤6:=by
  have:=hR.c
  unfold fG at this
  exact(bF (dm.1 this).1).2
 unfold oZ oZ.b
 refine bx (dQ N hN ω hb) (bw (λ_=>dR _ δ) λ_=>bx (AL N ω c ω hw) (bw (λ_=>dR _ δ) λhk=>bx (uq N ω ω) (bw (λ_=>dR _ δ) λ_=> ?_)))
 have anu:=QX hk
 have h12:L.length≤12:=by
  unfold BI at hk
  exact bF (dm.1 (dm.1 hk).2).1
 refine bk (len:=L.length) (F:=λn i (z:au×bE×bz)=>oZ.l7 N n L l b (cw,(dh,(bK,(bK,(dV,(eh,())))))) z.1 z.2.1 z.2.2 i) (s:=(_,(_,_))) (λi z=>(SB c b.2.1 z.1∧z.1.length≤2*m*i)∧(PB b.1 b.2.1 z.2.1∧z.2.1.length≤2*i)∧z.2.2.length≤i) ⟨⟨SB.nil,bG _⟩,⟨PB.nil,bG _⟩,bG _⟩ ω (λn i z hi hI hr=> ?_) (λn z hI=> ?_)
 all_goals unfold oZ.l7 oZ.pN
 all_goals obtain⟨⟨h5,h8⟩,⟨h6,h9⟩,h7⟩:=hI
 ·have hmi:2*m*i≤2*m*12:=lY _ ω
  have hms:2*m*(i+1)=2*m*i+2*m:=qS _ _
  have hx:G m jF (L.getD (i:Int).toNat ((0:Int),(cw,a7))):=G.at hL _
  have hxl:=hx.2.1.1
  have as2:=anu _ (tp (d:=((0:Int),(cw,a7))) hi)
  rw[aw (x:=(i:Int)+1) ω ω,ae i]
  dsimp only
  rw[cL]
  have put: ∀x:jb,Ok (λr=>r.2.2=0→RB c r.1) (cond (small (z.2.2.length+[x].length)) (oZ.l7 N n L l b (cw,(dh,(bK,(bK,(dV,(eh,())))))) z.1 z.2.1 (z.2.2++[x]) ((i+1:Nat):Int)) none):=λx=>aD (by rw[List.length_singleton];omega) (hr (z.1,(z.2.1,z.2.2++[x])) ⟨⟨h5,by dsimp only;omega⟩,⟨h6,by dsimp only;omega⟩,by dsimp only;rw[List.length_append,List.length_singleton];omega⟩)
  refine ax (λ_=>aA ⟨ω,ω⟩ (aD (by rw[bZ];omega) (bu (λ_=>put _) λ_=>af (Sw N ω ω hl _) λw hw=>bw (λ_=>put _) λ_=>bx (qB N (cA hb.2.1.1 ω) ω _) (ok_eq (λ_=>dR _ δ) λhh=>af (qF N ω ω hb _) λ_ _=>ok_eq (λ_=>dR _ δ) λ_=> ?_)))) λ_=>ω
  have hA:=Jp hh
  have hM:=uB hR hA
  have hF:cW 2 0∧jx b.1 b.2.1 2 0:=B2 δ
  have anv:0≤nI b.2.1 w.1.2.2.1∧nI b.2.1 w.1.2.2.1≤24:=by
   have:=hM.1
   unfold cW at this;omega
  generalize nI b.2.1 w.1.2.2.1=h at*
  have hX': ∀y∈(L.getD (i:Int).toNat ((0:Int),(cw,a7))).2.1,SA c y∧G m ka y:=λy hy=>⟨as2 y (by rw[aE]at hy;exact hy),hx.2.1.2 y hy⟩
  generalize hX:(((L.getD (i:Int).toNat ((0:Int),(cw,a7))).1,((L.getD (i:Int).toNat ((0:Int),(cw,a7))).2.1,((L.getD (i:Int).toNat ((0:Int),(cw,a7))).2.2.1,((2:Int),(w.1.2.2.1,(w.1.2.2.2.1,())))))):jb)=X
  have hXe:X.2.1=(L.getD (i:Int).toNat ((0:Int),(cw,a7))).2.1:=by rw[←hX]
  rw[←hXe]at hX' hxl
  refine bk (len:=X.2.1.length) (F:=λn' j u=>oZ.w4 N (oZ.l7 N n) n' L l b (cw,(dh,(bK,(bK,(dV,(eh,())))))) u z.2.1 z.2.2 (i:Int) X w.1 h j) (s:=z.1) (λj u=>SB c b.2.1 u∧u.length≤2*m*i+2*j) ⟨h5,h8⟩ ω (λn' j u hj hu eZ=> ?_) (λn' u hu=> ?_)
  all_goals unfold oZ.w4 oZ.vV
  all_goals obtain⟨hu,Hk⟩:=hu
  ·have hy:=hX' _ (tp (d:=df) hj)
   dsimp only
   rw[aw (x:=(j:Int)+1) ω ω,ae j,aE]
   generalize X.2.1.getD j df=y at*
   obtain⟨⟨⟨y0,y1⟩,y2⟩,y3⟩:=hy
   have hq:aH y.2.1:=y3.2.1
   have hn:=(ahS ⟨hq,y2⟩).1
   have hn':=hn
   unfold aH at hn'
   have e:W .i64 (0-y.2.1)=0-y.2.1:=aw hn'.1 hn'.2
   rw[e]
   have g6: ∀x:Int,oY x c.1.length→x<6:=λx h=>by unfold oY at h;omega
   exact ax (λ_=>aA ⟨ω,ω⟩ (aA ⟨ω,ω⟩ (aA ⟨ω,ω⟩ (aA ⟨ω,ω⟩ (aD (by rw[sW];omega) (eZ _ ⟨SB.app hu (SB.two hn hq ω ⟨⟨δ,δ,y0,g6 _ y1⟩,.inl rfl,y1⟩ ⟨⟨anv.1,anv.2,y0,g6 _ y1⟩,.inr hA,y1⟩),by rw[aT,aW,aK];omega⟩)))))) λ_=>ω
  ·have BL:aH w.1.2.2.2.1:=hw.2.2.2.1
   refine ax (λ_=>ω) λ_=>bx (dC N ω BL.1 BL.2) (af (sZ N ω (tq BL) hM hF) λp ⟨hp,Dr⟩=>aD ω (aD (by rw[aK];omega) ?_))
   rw[aw (x:=(i:Int)+1) ω ω,ae i]
   exact hr (_,(_,_)) ⟨⟨hu,by dsimp only;omega⟩,⟨PB.app h6 hp,by dsimp only;rw[List.length_append];omega⟩,by dsimp only;rw[List.length_append,List.length_singleton];omega⟩
 ·have hmi:2*m*L.length≤2*m*12:=lY _ ω
  exact ax (λ_=>ω) λ_=>af (sY N ω ω hb hR h5 h6 ω ω) λr hr=>bu (λh=>dR _ h) λh0=>an λ_=>(hr h0).1
end VM
end
section
namespace VM
open Go VM.F
theorem Jq{a k:Int}: ∀{l:au},fB a k l≠0→ ∃x∈l,x.1=a∧x.2.1=k
 |[],h=>absurd rfl h
 |x::t,h=>by
  rw[fJ]at h
  have up:fB a k t≠0→ ∃y∈x::t,y.1=a∧y.2.1=k:=λh=>let⟨y,hy,e⟩:=Jq h;⟨y,a8 _ hy,e⟩
  by_cases e1:x.1=a
  ·rw[aj e1]at h
   by_cases e2:x.2.1=k
   ·exact⟨x,bp ..,e1,e2⟩
   ·rw[ah e2]at h;exact up h
  ·rw[ah e1]at h;exact up h
def PT(b:aq)(k n:Int):Prop:=cW k n∧jx b.1 b.2.1 k n
theorem aba{c:ag}{b:aq}(hR:RB c b){k n:Int}(h:vL b.2.2.1 k n≠0):PT b k n:=by
 unfold vL at h
 rw[aj hR.r]at h
 obtain⟨x,hx,e1,e2⟩:=Jq h
 have h1:=(kC hR.r).2 x hx
 have h2:=hR.rk x hx
 rw[e1,e2]at h1 h2
 exact⟨h1,h2⟩
theorem XR{a:aO}(hA:gX a=true){id:Int}{x:cy×Bool}(e:x=gd a id)(h:x.2=true):qn a x.1.1:=by
 subst e
 unfold gd at*
 rw[aj hA]at h ⊢
 have key: ∀l:aO,(ui id l).2=true→(ui id l).1∈l:=by
  intro l
  induction l with
  |nil=>intro h;exact nomatch h
  |cons y t ih=>
   intro h
   rw[oC]at h ⊢
   by_cases e:y.1=id
   ·rw[aj e];exact bp ..
   ·rw[ah e]at h ⊢;exact a8 _ (ih h)
 exact⟨_,key a h,rfl⟩
abbrev T5(b:aq)(k:Nat)(l:bL):Prop:=l.length≤k∧ ∀x∈l,PT b x.2.1 x.2.2.1
theorem T5.mono{b:aq}{j k:Nat}{l:bL}(h:T5 b j l)(hk:j≤k):T5 b k l:=⟨cA h.1 hk,h.2⟩
theorem T5.nil{b:aq}{k:Nat}:T5 b k []:=⟨bG _,λx hx=>nomatch hx⟩
theorem T5.app{b:aq}{k:Nat}{l:bL}(h:T5 b k l){s d n x y:Int}(hx:PT b d n):T5 b (k+1) (l++[(s,(d,(n,(x,(y,())))))]):=
 ⟨by rw[aT,aK];exact Nat.succ_le_succ h.1,λz hz=>by
  rcases bo.1 hz with hz|hz
  ·exact h.2 z hz
  ·rw[cm.1 hz];exact hx⟩
theorem row_in(N:Nat)(hN:200000≤N){c:ag}{l:bL}{b:aq}{m k:Nat}(hm:m≤50000)(hb:G m aJ b)(hR:RB c b)(hk:k≤1000000)(hl:T5 b k l)(a d n:Int):Ok (T5 b (k+1)) (KR N l b a d n):=by
 have h1:=hl.1
 unfold KR
 exact bx (WT N (cA hb.2.2.1.1 ω) hN _ _) (ax (λh=>aD (by rw[aK];omega) (an (T5.app hl (aba hR ω)))) λ_=>an (T5.mono hl ω))
theorem XS(N:Nat)(hN:5000000≤N){c:ag}{b:aq}{d g:aG}{a:Int}{m:Nat}(hm:m≤50000)(hc:G m aB c)(hb:G m aJ b)(hR:RB c b)(hd:L2 m d)(hg:L2 m g):Ok (λr=>T5 b 1000000 r.1∧(r.2=0→jn b.1 a)) (cG N c b a d g):=by
 have h1:=hb.1.1
 have h2:=hd.1
 have h3:=hg.1
 have h4:=hb.2.1.1
 have nil: ∀e:Int,e≠0→Ok (λr:bL×Int=>T5 b 1000000 r.1∧(r.2=0→jn b.1 a)) (some ([],e)):=λe h=>an ⟨T5.nil,λh'=>absurd h' h⟩
 have hj:jn b.1 a→ ∀l:bL,T5 b 1 l→Ok (λr=>T5 b 1000000 r.1∧(r.2=0→jn b.1 a)) (cG.j9 N a d g c b l):=λhMa l hl=>by
  unfold cG.j9 cG.M7
  refine af (row_in N ω hm hb hR ω hl _ _ _) λl hl=>af (row_in N ω hm hb hR ω hl _ _ _) λl hl=>jS (len:=5) (F:=λn k s=>cG.m5 N n a d g c b s k) (λk s=>T5 b (3+m*k) s) (λn k s hk hs hr=> ?_) (λn s hs=> ?_) 5 N 1 l ω ω ω (T5.mono hl ω)
  all_goals unfold cG.m5 cG.nK
  ·have hmk:m*k≤m*4:=lY m ω
   refine ed (λ_=>af (Gj N hN c hm hb hd _ _) λt ht=> ?_) λ_=>ω
   have htl:=ht.1
   refine bk (len:=t.1.length) (F:=λn' j u=>cG.sQ N (cG.m5 N n) n' a d g c b u (k:Int) t.1 j) (λj u=>T5 b (3+m*k+j) u) hs ω (λn' j u hj hu eZ=> ?_) (λn' u hu=> ?_)
   all_goals unfold cG.sQ cG.so
   ·rw[aw (x:=(j:Int)+1) ω ω,ae j]
    exact ax (λ_=>aA ⟨ω,ω⟩ (af (row_in N ω hm hb hR ω hu _ _ _) λv hv=>eZ v hv)) λ_=>ω
   ·rw[aw (x:=(k:Int)+1) ω ω,ae k]
    exact ax (λ_=>ω) λ_=>hr u (T5.mono hu (by rw[qS];omega))
  ·refine ed (λ_=>ω) λ_=>bk (len:=b.1.length) (F:=λn j u=>cG.HT N n a g c b u j) (λj u=>T5 b (3+m*5+j) u) hs ω (λn j u hj hu hr=> ?_) (λn u hu=> ?_)
   all_goals unfold cG.HT cG.NU
   ·have Hk:=hu.1
    have hM:PT b 7 (b.1.getD (j:Int).toNat df).1:=A6 hR δ ⟨_,tp hj,rfl⟩
    rw[aw (x:=(j:Int)+1) ω ω,ae j]
    have h0:=hr u (T5.mono hu ω)
    exact ax (λ_=>aA ⟨ω,ω⟩ (af (KP N _) λ_ _=>bw (λ_=>h0) λ_=>ok_eq (λ_=>h0) λ_=>af (bq N ω hc.2.2.1) λp hp=>af (mD N ω hm hb.2.2.1 _ _) λq hq=>af (bq N ω hq) λq hq=>af (lT N ω ω ω hp hq) λy hy=>af (xh N hy) λv hv=>bw (λ_=>nil _ δ) λ_=>ax (λ_=>aD (by rw[aK];omega) (hr _ (T5.mono (T5.app hu hM) ω))) λ_=>h0)) λ_=>ω
   ·refine ax (λ_=>ω) λ_=>bk (len:=g.length) (F:=λn j u=>cG.Nk N n a g b u j) (λj u=>T5 b (3+m*5+m+j) u) (T5.mono hu ω) ω (λn j u hj hu hr=> ?_) (λn u hu=> ?_)
    all_goals unfold cG.Nk cG.Ku
    ·have Hk:=hu.1
     rw[aw (x:=(j:Int)+1) ω ω,ae j]
     have h0:=hr u (T5.mono hu ω)
     dsimp only
     exact ax (λ_=>aA ⟨ω,ω⟩ (af (Gh N ω hm hb.2.1 _) λx ⟨hx,Zf⟩=>aA ⟨ω,ω⟩ (aA ⟨ω,ω⟩ (af (mD N ω hm hb.2.2.1 _ _) λq hq=>qg (λhf=>bu (λ_=>ax (λ_=>aD (by rw[aK];omega) (hr _ (T5.mono (T5.app hu (uB hR (XR hR.a Zf hf))) ω))) λ_=>h0) λ_=>h0) λ_=>h0)))) λ_=>ω
    ·exact ax (λ_=>ω) λ_=>an ⟨T5.mono hu ω,λ_=>hMa⟩
 unfold cG cG.b
 exact bx (dQ N hN hm hb) (bw (λ_=>nil _ δ) λ_=>af (ux N ω ω) λ_ _=>bw (λ_=>nil _ δ) λ_=>af (BW N ω ω) λ_ _=>bw (λ_=>nil _ δ) λ_=>bx (rz N (cA hb.1.1 ω) ω _) (ok_eq (λ_=>nil _ δ) λhs=>have hMa:=(vt hR.m a).1 hs;af (A3 N ω hm hb.2.1 _) λh hh=>bu (λ_=>af (row_in N ω hm hb hR ω (T5.nil (k:=0)) _ _ _) λl hl=>hj hMa l hl) λ_=>hj hMa [] T5.nil))
theorem Uw(N:Nat)(hN:5000000≤N){c:ag}{b:aq}{d g:aG}{a:Int}{m:Nat}(h2:200≤m)(hm:m≤40000)(hc:G m aB c)(hb:G m aJ b)(hR:RB c b)(hd:L2 m d)(hg:L2 m g)(ha:aH a):Ok (λr=>r.2.2=0→RBs c b r.1) (iw N c b a d g):=by
 have dR: ∀e:Int,e≠0→Ok (λr:aq×dT×Int=>r.2.2=0→RBs c b r.1) (some ((cw,(dh,(bK,(bK,(dV,(eh,())))))),(R0,e))):=λe h=>an λh'=>absurd h' h
 unfold iw iw.b
 refine af (Ok.and (XS N hN ω hc hb hR hd hg) (NX N hN ω hc hb hd hg ha)) λl ⟨⟨⟨_,ZM⟩,hMa⟩,hl2⟩=>ok_eq (λh=>dR _ ω) λ_=>ok_eq (λh=>dR _ ω) λ_=>af (Jf N hN c ω hb) λq hq=>bu (λh=>dR _ h) λ_=>bu (λh=>dR _ h) λh0=>af (Jg N hN (Q:=λx=>G 64 tk x∧PT b x.2.1 x.2.2.1) (λx hx=>hx.1.2.2.2.1) (λx v hx hv=>⟨G5q hx.1 hv,hx.2⟩) (λx hx=>⟨G.mono (m:=0) (bG _) (hl2.2 x hx),ZM x hx⟩) hq) λz ⟨⟨hzl,Cv⟩,Hj⟩=>bu (λh=>dR _ h) λ_=> ?_
 have hMa:=hMa h0
 have hF:cW 2 0∧jx b.1 b.2.1 2 0:=B2 δ
 have hj: ∀(p:bE) (r:dT) (t:bL) (x k n:Int),PB b.1 b.2.1 p→p.length≤1000→PT b k n→aH x→Ok (λr=>r.2.2=0→RBs c b r.1) (iw.j26 N b (cw,(dh,(bK,(bK,(dV,(eh,())))))) R0 p r t x k n):=λp r t x k n hp Dr hk hx=>by
  unfold iw.j26 iw.aaQ
  exact bx (dC N ω hx.1 hx.2) (af (sZ N ω (tq hx) hF hk) λu ⟨hu,Hk⟩=>aD ω (af (sY N ω ω hb hR SB.nil (PB.app hp hu) (bG _) (by rw[aT];omega)) λw hw=>bu (λh=>dR _ h) λh0=>an λ_=>hw h0))
 refine bk (len:=z.1.length) (F:=λn i (s:bE×dT×bL)=>iw.IM N n a c b (cw,(dh,(bK,(bK,(dV,(eh,())))))) R0 z.1 z.2.1 s.1 s.2.1 s.2.2 i) (s:=(_,(_,_))) (λi s=>(PB b.1 b.2.1 s.1∧s.1.length≤2*i)∧s.2.2.length≤i) ⟨⟨PB.nil,bG _⟩,bG _⟩ ω (λn i s hi hI hr=> ?_) (λn s hI=> ?_)
 all_goals unfold iw.IM iw.HN
 all_goals obtain⟨⟨h4,hp⟩,ht⟩:=hI
 ·obtain⟨hx,hk⟩:=Cv _ (tp (d:=ny) hi)
  have hx:aH (z.1.getD i ny).2.2.2.2.1:=hx.2.2.2.2.1
  rw[aw (x:=(i:Int)+1) ω ω,ae i,aE]
  exact ax (λ_=>aA ⟨ω,ω⟩ (ax (λ_=>aA ⟨ω,ω⟩ (aD (by rw[List.length_singleton];omega) (aA ⟨ω,ω⟩ (aA ⟨ω,ω⟩ (aA ⟨ω,ω⟩ (bx (dC N ω hx.1 hx.2) (af (sZ N ω (tq hx) hk hF) λu ⟨hu,Hk⟩=>aD ω (hr (_,(_,_)) ⟨⟨PB.app h4 hu,by dsimp only;rw[List.length_append];omega⟩,by dsimp only;rw[List.length_append,List.length_singleton];omega⟩)))))))) λ_=>hr s ⟨⟨h4,ω⟩,ω⟩)) λ_=>ω
 ·dsimp only
  have hS:cW 4 0∧jx b.1 b.2.1 4 0:=B2 δ
  exact ax (λ_=>ω) λ_=>bx (dC N ω Hj.1 Hj.2) (af (sZ N ω (tq Hj) hS hF) λu ⟨hu,Hk⟩=>aD ω (af (Gk N hN c ω hb) λx hx=>bx (qB N (cA hb.2.1.1 ω) ω _) (bu (λhh=>hj _ _ _ _ _ _ (PB.app h4 hu) (by rw[aT];omega) (uB hR (Jp hh)) hx) λ_=>hj _ _ _ _ _ _ (PB.app h4 hu) (by rw[aT];omega) (A6 hR δ hMa) hx)))
end VM
end
section
namespace VM
open Go VM.F
theorem anw{q x:Int}(h0:0≤x)(h1:x<9223372036854775808):aH (sg q x)∧se (sg q x):=by
 unfold sg aH se;split<;>omega
theorem XT{t left:Int}{w out:List Int}(f:Full t w w out left)(i:Nat)(hi:i<w.length):0≤out.getD i 0∧out.getD i 0<9223372036854775808:=by
 have c:=f.c
 have h1:=c.le i hi
 have h2:=(c.pc i).2
 have h3:=c.po i
 omega
theorem XU(N:Nat){a q:Int}{accs out:List Int}(hl:accs.length=out.length)(hle:out.length≤1000)(ho: ∀i,i<out.length→0≤out.getD i 0∧out.getD i 0<9223372036854775808)(s:au)(hs:s.length≤1000)(hN:200000≤N):
  qo.y5 N N a q accs s out (out.length:Int) 0=some (s++zc a q (out.zip accs),0):=by
 have hz:(out.zip accs).length=out.length:=by rw[lF];omega
 have:=sm (out.zip accs) (0,0) (λn i s=>qo.y5 N n a q accs s out (out.length:Int) i) (λt s=>some (s++zc a q t,(0:Int))) (λi (s:au)=>s.length≤1000+i) (λn i s hi hI hr=> ?_) (λn s hI=> ?_) out.length N 0 s ω ω ω ω
 ·exact this
 ·unfold qo.y5 qo.AT
  have lA:i<out.length:=ω
  have h2:=ho i lA
  rw[aP ω,ak,aQ ω ω,ak,aE,aQ ω ω,ak,aw (x:=(i:Int)+1) ω ω,ae i,aw (x:=0-out.getD i 0) ω ω,BR lA ω,sU]
  dsimp only
  rw[ak,bQ (by rw[aK];omega),ak,bQ (by rw[aK];omega),ak]
  have e:sg q (out.getD i 0)=if q<0 then 0-out.getD i 0 else out.getD i 0:=rfl
  rw[cU,cond_not,cond_not,aN,aN]
  have fin:(if sg q (out.getD i 0)=0 then qo.y5 N n a q accs s out (out.length:Int) ((i+1:Nat):Int)else qo.y5 N n a q accs (s++[(accs.getD i 0,(a,(sg q (out.getD i 0),())))]) out (out.length:Int) ((i+1:Nat):Int))=some (s++(if sg q (out.getD i 0)=0 then zc a q ((out.zip accs).drop (i+1))else(accs.getD i 0,(a,(sg q (out.getD i 0),())))::zc a q ((out.zip accs).drop (i+1))),(0:Int)):=by
   by_cases h:sg q (out.getD i 0)=0
   ·rw[aj h,aj h];exact hr s ω
   ·rw[ah h,ah h,hr _ (by rw[aT,aK];omega),bM];rfl
  refine Eq.trans ?_ fin
  by_cases h:q<0
  ·rw[aj h,e,aj h]
  ·rw[ah h,e,ah h]
 ·unfold qo.y5 qo.AT
  rw[hz,aL ω,ar]
  show _=some (s++[],(0:Int))
  rw[cK]
theorem Ux(N:Nat){a q:Int}{accs out:List Int}(hl:accs.length=out.length)(hle:out.length≤1000)(ho: ∀i,i<out.length→0≤out.getD i 0∧out.getD i 0<9223372036854775808)(s:au)(hs:s.length≤1000)(hN:200000≤N):
  oK.y5 N N a q accs out s 0=some (s++zc a q (out.zip accs),0):=by
 have hz:(out.zip accs).length=out.length:=by rw[lF];omega
 have:=sm (out.zip accs) (0,0) (λn i s=>oK.y5 N n a q accs out s i) (λt s=>some (s++zc a q t,(0:Int))) (λi (s:au)=>s.length≤1000+i) (λn i s hi hI hr=> ?_) (λn s hI=> ?_) out.length N 0 s ω ω ω ω
 ·exact this
 ·unfold oK.y5 oK.AT
  have lA:i<out.length:=ω
  have h2:=ho i lA
  rw[aP ω,ak,aQ ω ω,ak,aE,aQ ω ω,ak,aw (x:=(i:Int)+1) ω ω,ae i,aw (x:=0-out.getD i 0) ω ω,BR lA ω,sU]
  dsimp only
  rw[ak,bQ (by rw[aK];omega),ak,bQ (by rw[aK];omega),ak]
  have e:sg q (out.getD i 0)=if q<0 then 0-out.getD i 0 else out.getD i 0:=rfl
  rw[cU,cond_not,cond_not,aN,aN]
  have fin:(if sg q (out.getD i 0)=0 then oK.y5 N n a q accs out s ((i+1:Nat):Int)else oK.y5 N n a q accs out (s++[(accs.getD i 0,(a,(sg q (out.getD i 0),())))]) ((i+1:Nat):Int))=some (s++(if sg q (out.getD i 0)=0 then zc a q ((out.zip accs).drop (i+1))else(accs.getD i 0,(a,(sg q (out.getD i 0),())))::zc a q ((out.zip accs).drop (i+1))),(0:Int)):=by
   by_cases h:sg q (out.getD i 0)=0
   ·rw[aj h,aj h];exact hr s ω
   ·rw[ah h,ah h,hr _ (by rw[aT,aK];omega),bM];rfl
  refine Eq.trans ?_ fin
  by_cases h:q<0
  ·rw[aj h,e,aj h]
  ·rw[ah h,e,ah h]
 ·unfold oK.y5 oK.AT
  rw[hz,aL ω,ar]
  show _=some (s++[],(0:Int))
  rw[cK]
theorem Ej{l:au}(h: ∀x∈l,aH (dW x)∧se (dW x))(a b:Int):aH (bn l a b)∧se (bn l a b):=by
 have key: ∀l:au,(∀x∈l,aH (dW x)∧se (dW x))→aH (fB a b l)∧se (fB a b l):=by
  intro l
  induction l with
  |nil=>intro _;show aH 0∧se 0;decide
  |cons x t ih=>
   intro h
   have ih:=ih (λy hy=>h y (a8 _ hy))
   rw[fJ]
   split
   ·split
    ·exact h x (bp ..)
    ·exact ih
   ·exact ih
 unfold bn
 split
 ·exact key l h
 ·decide
theorem vu(l:au):(pq l).length=l.length:=cO ..
theorem pC(l:au):(eQ l).length=l.length:=cO ..
theorem B3{q:Int}(h:aH q∧se q):(q.natAbs:Int)<9223372036854775808:=by unfold aH se at h;omega
theorem xV{l:au}(hk:da l=true)(hq:eJ l): ∀x∈l,aH (dW x)∧se (dW x):=λx hx=>⟨hq x hx,((dw hk).2 x hx).2⟩
theorem xW{l:au}(hk:da l=true)(hq:eJ l){a q:Int}(vU:aH q∧se q)(hc:(fO l a q).2.2=0):
  Full (q.natAbs:Int) (eQ (cX a q l)) (eQ (cX a q l)) (fO l a q).1 (fO l a q).2.1∧(fO l a q).1.length=(cX a q l).length∧(fO l a q).1.length≤64∧ ∀i,i<(fO l a q).1.length→0≤(fO l a q).1.getD i 0∧(fO l a q).1.getD i 0<9223372036854775808:=by
 have f:Full (q.natAbs:Int) (eQ (cX a q l)) (eQ (cX a q l)) (fO l a q).1 (fO l a q).2.1:=Ge (B3 vU) (qD (xV hk hq) a q) hc
 have h1:=f.c.l2
 have h2:=f.c.n
 rw[pC]at h1 h2
 exact⟨f,h1,ω,λi hi=>XT f i (by rw[pC];omega)⟩
theorem K0(N:Nat)(hN:5000000≤N)(c:ag){b:aq}(w:kz b)(a:Int):qo N c b a=some (cS c b a):=by
 unfold qo qo.b cS
 rw[Ko N ω w,av,aas N w.s ω,av,cond_not,cU,cP,aN]
 by_cases hB:eu c b=false
 ·rw[hB];rfl
 rw[EG]at hB
 rw[hB,ak,aj rfl]
 obtain⟨_,hk⟩:=dN hB
 have hq:=xV hk w.qs
 have hh:=Ej hq 0 a
 have hlen:=w.s
 have hqs:=w.qs
 generalize b.2.2.2.1=l at*
 generalize bn l 0 a=q at*
 by_cases h1:a<0
 ·rw[aj h1,aj h1]
 rw[ah h1,ah h1]
 by_cases h2:(c.1.length:Int)≤a
 ·rw[aj h2,aj h2]
 rw[ah h2,ah h2]
 by_cases h3:q=0
 ·rw[aj h3,aj h3]
 rw[ah h3,ah h3]
 have mI:=hh.1
 unfold aH at mI
 have hqn:q≠ -9223372036854775808:=hh.2
 have:=sm l bf (λn i (z:au)=>qo.xi N n a q (pq z) (eQ z) l (l.length:Int) i)
  (λt z=>some (if(fO l a q).2.2=0 then(W7 l a q,0)else([],(fO l a q).2.2))) (λi z=>z++cX a q (l.drop i)=cX a q l∧z.length≤i)
  (λn i z hi hI hr=> ?_) (λn z hI=> ?_) l.length N 0 [] ω ω ω ⟨rfl,aI _⟩
 ·exact this
 ·unfold qo.xi qo.uv
  obtain⟨i1,i2⟩:=hI
  have hm:l.getD i bf∈l:=by
   rw[aR,bl hi];exact eL hi
  have hx:=hq _ hm
  rw[drop_cons hi bf,jk]at i1
  rw[aP ω,ak,aQ ω ω,ak,aE,aw (x:=(i:Int)+1) ω ω,ae i]
  generalize l.getD i bf=x at*
  have pK:=hx.1
  unfold aH dW at pK
  have hxs:(x.2.2.1.natAbs:Int)<9223372036854775808:=B3 hx
  rw[bQ (by rw[vu,aK];omega),ak,D5 N pK.1 pK.2,av,aw (x:=(x.2.2.1.natAbs:Int)) ω ω]
  dsimp only
  rw[bQ (by rw[pC,aK];omega),ak,cond_not,aN,aN,cond_not,ud,om,om]
  by_cases e1:x.1=0
  ·rw[aj e1]
   rw[ah (λh=>h.1 e1)]at i1
   exact hr z ⟨i1,ω⟩
  ·rw[ah e1]
   by_cases e2:x.2.1=a
   ·rw[aj e2]
    by_cases e3:ym (dW x) q
    ·have eb:(decide (x.2.2.1<0)==decide (q<0))=false:=by
      unfold ym dW at e3
      by_cases g1:x.2.2.1<0<;>by_cases g2:q<0
      ·exact absurd ⟨λ_=>g2,λ_=>g1⟩ e3
      ·rw[bs g1,cg g2];rfl
      ·rw[cg g1,bs g2];rfl
      ·exact absurd ⟨λh=>absurd h g1,λh=>absurd h g2⟩ e3
     rw[eb,ar]
     rw[aj ⟨e1,e2,e3⟩]at i1
     have:=hr (z++[x]) ⟨by rw[bM];exact i1,by rw[aT,aK];omega⟩
     unfold pq eQ at this
     rw[dn,dn]at this
     exact this
    ·have eb:(decide (x.2.2.1<0)==decide (q<0))=true:=by
      unfold ym dW at e3
      have e3:=zz.1 e3
      rw[show decide (x.2.2.1<0)=decide (q<0)from nh.2 e3]
      exact wg _
     rw[eb,ak]
     rw[ah (λh=>e3 h.2.2)]at i1
     exact hr z ⟨i1,ω⟩
   ·rw[ah e2]
    rw[ah (λh=>e2 h.2.1)]at i1
    exact hr z ⟨i1,ω⟩
 ·unfold qo.xi qo.uv
  obtain⟨i1,i2⟩:=hI
  rw[lD]at i1
  have ez:z=cX a q l:=by rw[←i1];exact(cK _).symm
  subst ez
  have sh:=pC (cX a q l)
  rw[aL ω,ar,D5 N mI.1 mI.2,av,aw (x:=(q.natAbs:Int)) ω ω,T1 N hN ω (qD hq a q) (qD hq a q) (by rw[sh];omega),av,cond_not,aN,aw (x:=0-q) ω ω]
  show(if(fO l a q).2.2=0 then _ else _)=_
  by_cases h4:(fO l a q).2.2=0
  ·rw[aj h4,aj h4]
   obtain⟨f,g1,g2,g3⟩:=xW hk hqs hh h4
   exact XU N (by rw[vu];omega) ω g3 _ (by simp) ω
  ·rw[ah h4,ah h4];rfl
theorem A7{l:au}(h:da l=true): ∀x∈l,dW x≠0:=λx hx=>by
 unfold da at h
 rw[gn]at h
 obtain⟨i,hi,e⟩:=fX hx
 have:=bF h i hi
 unfold lR mA at this
 rw[aR,bl hi]at this
 simp only[ni,e]at this
 exact this.2.1
theorem XV{x:Int}(h:aH x∧se x):mx x (W .i64 (0-x))=(x.natAbs:Int):=by
 unfold aH se at h
 rw[aw ω ω,afx];split<;>omega
theorem A8{x q:Int}(hx:x≠0)(hq:q≠0):ym x q↔ ¬((0<x)↔(0<q)):=by
 unfold ym;omega
theorem XW(N:Nat)(hN:5000000≤N)(c:ag){b:aq}(w:kz b)(a:Int):oK N c b a=some (cS c b a):=by
 unfold oK oK.b cS
 rw[Ng N ω w,av,xJ N w.s ω,av,cond_not,cU,cP,aN]
 by_cases hB:eu c b=false
 ·rw[hB];rfl
 rw[EG]at hB
 rw[hB,ak,aj rfl]
 obtain⟨_,hk⟩:=dN hB
 have hq:=xV hk w.qs
 have hnz:=A7 hk
 have hh:=Ej hq 0 a
 have hlen:=w.s
 have hqs:=w.qs
 generalize bn b.2.2.2.1 0 a=q at*
 by_cases h1:a<0
 ·rw[aj h1,aj h1]
 rw[ah h1,ah h1]
 by_cases h2:(c.1.length:Int)≤a
 ·rw[aj h2,aj h2]
 rw[ah h2,ah h2]
 by_cases h3:q=0
 ·rw[aj h3,aj h3]
 rw[ah h3,ah h3]
 have mI:=hh.1
 unfold aH at mI
 have hqn:q≠ -9223372036854775808:=hh.2
 have:=sm b.2.2.2.1 bf (λn i (z:au)=>oK.xi N n a b q (pq z) (eQ z) i)
  (λt z=>some (if(fO b.2.2.2.1 a q).2.2=0 then(W7 b.2.2.2.1 a q,0)else([],(fO b.2.2.2.1 a q).2.2))) (λi z=>z++cX a q (b.2.2.2.1.drop i)=cX a q b.2.2.2.1∧z.length≤i)
  (λn i z hi hI hr=> ?_) (λn z hI=> ?_) b.2.2.2.1.length N 0 [] ω ω ω ⟨rfl,aI _⟩
 ·exact this
 ·unfold oK.xi oK.uv
  obtain⟨i1,i2⟩:=hI
  have hm:b.2.2.2.1.getD i bf∈b.2.2.2.1:=by
   rw[aR,bl hi];exact eL hi
  have hx:=hq _ hm
  have hn:=hnz _ hm
  rw[drop_cons hi bf,jk]at i1
  rw[aP ω,ak,aQ ω ω,ak,aE,aw (x:=(i:Int)+1) ω ω,ae i]
  generalize b.2.2.2.1.getD i bf=x at*
  have PA:mx x.2.2.1 (W .i64 (0-x.2.2.1))=(x.2.2.1.natAbs:Int):=XV hx
  rw[bQ (by rw[vu,aK];omega),ak,PA]
  dsimp only
  rw[bQ (by rw[pC,aK];omega),ak,cond_not,aN,aN,cond_not,ud,om,om]
  by_cases e1:x.1=0
  ·rw[aj e1]
   rw[ah (λh=>h.1 e1)]at i1
   exact hr z ⟨i1,ω⟩
  ·rw[ah e1]
   by_cases e2:x.2.1=a
   ·rw[aj e2]
    by_cases e3:ym (dW x) q
    ·have eb:(decide (0<x.2.2.1)==decide (0<q))=false:=by
      have e3:=(A8 hn h3).1 e3
      unfold dW at e3
      by_cases g1:0<x.2.2.1<;>by_cases g2:0<q
      ·exact absurd ⟨λ_=>g2,λ_=>g1⟩ e3
      ·rw[bs g1,cg g2];rfl
      ·rw[cg g1,bs g2];rfl
      ·exact absurd ⟨λh=>absurd h g1,λh=>absurd h g2⟩ e3
     rw[eb,ar]
     rw[aj ⟨e1,e2,e3⟩]at i1
     have:=hr (z++[x]) ⟨by rw[bM];exact i1,by rw[aT,aK];omega⟩
     unfold pq eQ at this
     rw[dn,dn]at this
     exact this
    ·have eb:(decide (0<x.2.2.1)==decide (0<q))=true:=by
      have e3:=zz.1 (λh=>e3 ((A8 hn h3).2 h))
      unfold dW at e3
      rw[show decide (0<x.2.2.1)=decide (0<q)from nh.2 e3]
      exact wg _
     rw[eb,ak]
     rw[ah (λh=>e3 h.2.2)]at i1
     exact hr z ⟨i1,ω⟩
   ·rw[ah e2]
    rw[ah (λh=>e2 h.2.1)]at i1
    exact hr z ⟨i1,ω⟩
 ·unfold oK.xi oK.uv
  obtain⟨i1,i2⟩:=hI
  rw[lD]at i1
  have ez:z=cX a q b.2.2.2.1:=by rw[←i1];exact(cK _).symm
  subst ez
  have sh:=pC (cX a q b.2.2.2.1)
  have Dr:=I8 a q b.2.2.2.1
  rw[aL ω,ar,XV hh,Gc N hN (B3 hh) (qD hq a q) (qD hq a q) (by rw[sh];omega),av,cond_not,aN,aw (x:=0-q) ω ω]
  show(if(fO b.2.2.2.1 a q).2.2=0 then _ else _)=_
  by_cases h4:(fO b.2.2.2.1 a q).2.2=0
  ·rw[aj h4,aj h4]
   obtain⟨f,g1,g2,g3⟩:=xW hk hqs hh h4
   exact Ux N (by rw[vu];omega) ω g3 _ (by simp) ω
  ·rw[ah h4,ah h4];rfl
end VM
end
section
namespace VM
open Go VM.F Go.RowKit
structure s0(s:au)(n:Nat):Prop where
 place: ∀x∈s,bU x.1 x.2.1
 q: ∀x∈s,aH (dW x)∧se (dW x)
 len:s.length≤n
 flat: ∀i:Int,(c9 i s).sum=0
theorem s0.nil(n:Nat):s0 [] n:=⟨λx hx=>(nomatch hx),λx hx=>(nomatch hx),bG _,λi=>rfl⟩
theorem s0.app{s t:au}{n m k:Nat}(a:s0 s n)(b:s0 t m)(h:n+m≤k):s0 (s++t) k:=
 ⟨λx hx=>(bo.1 hx).elim (a.place x) (b.place x),λx hx=>(bo.1 hx).elim (a.q x) (b.q x),by rw[aT];have:=a.len;have:=b.len;omega,λi=>by rw[HO,nn,a.flat,b.flat];rfl⟩
theorem s0.as3{s:au}{n:Nat}(a:s0 s n)(h:n≤400):WC s:=⟨a.place,a.q,by have:=a.len;omega,a.flat⟩
theorem QY(a q i:Int): ∀t:List (Int×Int),(c9 i (zc a q t)).sum=if a=i then sg q (t.map (·.1)).sum else 0
 |[]=>by
  show(0:Int)=if a=i then sg q 0 else 0
  unfold sg;split<;>(try split)<;>rfl
 |p::t=>by
  have ih:=QY a q i t
  have hs:sg q ((p::t).map (·.1)).sum=sg q p.1+sg q (t.map (·.1)).sum:=by
   rw[bR,cH];unfold sg;split<;>omega
  rw[sU,hs]
  by_cases h:sg q p.1=0
  ·rw[aj h,ih,h];split<;>omega
  ·rw[ah h,dF]
   dsimp only
   by_cases e:a=i
   ·rw[aj e,aj e,cH,ih,aj e];rfl
   ·rw[ah e,ah e,ih,ah e]
theorem zb{a q:Int}{x:dd}: ∀{t:List (Int×Int)},x∈zc a q t→ ∃p∈t,x=(p.2,(a,(sg q p.1,())))
 |[],h=>nomatch h
 |p::t,h=>by
  rw[sU]at h
  split at h
  ·obtain⟨p',hp,e⟩:=zb h
   exact⟨p',a8 _ hp,e⟩
  ·rcases aX.1 h with e|h
   ·exact⟨p,bp ..,e⟩
   ·obtain⟨p',hp,e⟩:=zb h
    exact⟨p',a8 _ hp,e⟩
theorem XX(a q:Int): ∀t:List (Int×Int),(zc a q t).length≤t.length
 |[]=>aI _
 |p::t=>by
  have:=XX a q t
  rw[sU,aW]
  split
  ·omega
  ·rw[aW];omega
theorem xl{c:ag}{b:aq}(h:eu c b=true):nJ b.2.2.2.1=true∧fG c=true:=by
 unfold eu at h
 have h0:=dm.1 h
 have h1:=(dm.1 h0.2).2
 have h2:=dm.1 h1
 exact⟨(dm.1 (dm.1 h2.2).2).1,h0.1⟩
theorem Oa{c:ag}{b:aq}(hB:eu c b=true)(w:kz b){a:Int}(h:(cS c b a).2=0):s0 (cS c b a).1 65:=by
 obtain⟨_,hk⟩:=dN hB
 obtain⟨hf,Dr⟩:=xl hB
 have hq:=xV hk w.qs
 have hh:=Ej hq 0 a
 obtain⟨hs,Co⟩:=dw hk
 unfold cS at h ⊢
 rw[aj hB]at h ⊢
 by_cases h1:a<0
 ·rw[aj h1];exact s0.nil _
 rw[ah h1]at h ⊢
 by_cases h2:(c.1.length:Int)≤a
 ·rw[aj h2];exact s0.nil _
 rw[ah h2]at h ⊢
 by_cases h3:bn b.2.2.2.1 0 a=0
 ·rw[aj h3];exact s0.nil _
 rw[ah h3]at h ⊢
 by_cases h4:(fO b.2.2.2.1 a (bn b.2.2.2.1 0 a)).2.2=0
 ·rw[aj h4]
  have QZ:fB 0 a b.2.2.2.1=bn b.2.2.2.1 0 a:=by unfold bn;rw[hk];rfl
  have hn6:a<6:=by
   unfold fG at Dr
   have:=(bF (dm.1 Dr).1).2
   omega
  have hz:(c9 a b.2.2.2.1).sum=0:=by
   unfold nJ at hf
   have Ll:=bF (dm.1 hf).1 a.toNat (by unfold jC;omega)
   unfold rC dy qb at Ll
   rw[hk,aj rfl,show((a.toNat:Nat):Int)=a by omega]at Ll
   exact Ll
  generalize bn b.2.2.2.1 0 a=q at*
  obtain⟨f,g1,g2,g3⟩:=xW hk w.qs hh h4
  have afX:=W6 f (Gd hs hz QZ h3)
  have yj:=f.c.s
  rw[afX,gr]at yj
  have hzl:((fO b.2.2.2.1 a q).1.zip (pq (cX a q b.2.2.2.1))).map (·.1)=(fO b.2.2.2.1 a q).1:=List.map_fst_zip (by rw[vu];omega)
  have hsg:sg q (q.natAbs:Int)=q:=by unfold sg;split<;>omega
  have hzz: ∀x∈zc a q ((fO b.2.2.2.1 a q).1.zip (pq (cX a q b.2.2.2.1))),bU x.1 x.2.1∧aH (dW x)∧se (dW x):=λx hx=>by
   obtain⟨p,hp,rfl⟩:=zb hx
   obtain⟨i,hi,e⟩:=fX hp
   rw[lF]at hi
   have e':=BR (out:=(fO b.2.2.2.1 a q).1) (accs:=pq (cX a q b.2.2.2.1)) (i:=i) ω ω
   rw[aR,bl (by rw[lF];omega)]at e'
   have ep:p=_:=e.symm.trans e'
   have hr:=g3 i ω
   rw[ep]
   refine⟨?_,anw hr.1 hr.2⟩
   have hm:(pq (cX a q b.2.2.2.1)).getD i 0∈pq (cX a q b.2.2.2.1):=by
    rw[aR,bl ω];exact eL _
   obtain⟨y,hy,ey⟩:=cD.1 hm
   have RM:=jz hy
   have hpy:=(Co y RM.1).1
   have g: ∀u v z:Int,bU u v→v=a→u=z→bU z a:=λu v z h e1 e2=>by rw[←e1,←e2];exact h
   exact g _ _ _ hpy RM.2.2 ey
  refine⟨λx hx=> ?_,λx hx=> ?_,?_,λi=> ?_⟩
  ·rcases aX.1 hx with e|hx
   ·rw[e];show bU 0 a;unfold bU;omega
   ·exact(hzz x hx).1
  ·rcases aX.1 hx with e|hx
   ·rw[e];exact ahS hh
   ·exact(hzz x hx).2
  ·unfold W7
   rw[aW]
   have:=XX a q ((fO b.2.2.2.1 a q).1.zip (pq (cX a q b.2.2.2.1)))
   rw[lF]at this
   omega
  ·unfold W7
   rw[dF]
   dsimp only
   by_cases e:a=i
   ·rw[aj e,cH,QY,aj e,hzl,yj,hsg]
    show 0-q+q=0
    omega
   ·rw[ah e,QY,ah e]
 ·rw[ah h4]at h
  exact absurd h h4
def rV(c:ag)(b:aq):Nat→Nat→au→aq×Int
 |0,_,s=>eY b s []
 |m+1,i,s=>if(cS c b (i:Int)).2=0 then rV c b m (i+1) (s++(cS c b (i:Int)).1)else((cw,(dh,(bK,(bK,(dV,(eh,())))))),(cS c b (i:Int)).2)
def ob(c:ag)(b:aq):aq×Int:=if eu c b then rV c b c.1.length 0 []else((cw,(dh,(bK,(bK,(dV,(eh,())))))),1)
theorem Uy:WJ []:=⟨λx hx=>(nomatch hx),λx hx=>(nomatch hx),bG _,rfl⟩
theorem SC(N:Nat)(hN:5000000≤N)(c:ag){b:aq}(w:Eb b):DP N c b=some (ob c b):=by
 unfold DP DP.b ob
 rw[Ko N ω w.w,av,cond_not]
 by_cases hB:eu c b=false
 ·rw[hB];rfl
 rw[EG]at hB
 rw[hB,ak,aj rfl]
 obtain⟨hr,hs⟩:=dN hB
 have h6:c.1.length≤6:=by
  have Dr:=(xl hB).2
  unfold fG at Dr
  exact(bF (dm.1 Dr).1).2
 have key: ∀(m n i:Nat) (s:au),i+m=c.1.length→m<n→s0 s (65*i)→DP.l5 N n c b (cw,(dh,(bK,(bK,(dV,(eh,())))))) s (c.1.length:Int) (i:Int)=some (rV c b m i s):=by
  intro m n
  induction n generalizing m with
  |zero=>intro i s _ hn _;omega
  |succ n ih=>
   intro i s hi hn I
   unfold DP.l5 DP.fi
   have hls:=I.len
   match m,hi,hn with
   |0,hi,hn=>
    have hmv:=WN N ω w.w hr hs w.r w.s (I.as3 ω) Uy
    rw[aL ω,ar]
    show(F65 N b s ([].map kW)).bind _=some (eY b s [])
    rw[hmv,av]
   |m+1,hi,hn=>
    rw[aP ω,ak,K0 N hN c w.w,av,cond_not,aN,aw (x:=(i:Int)+1) ω ω,ae i]
    show _=some (if(cS c b (i:Int)).2=0 then rV c b m (i+1) (s++(cS c b (i:Int)).1)else((cw,(dh,(bK,(bK,(dV,(eh,())))))),(cS c b (i:Int)).2))
    by_cases h:(cS c b (i:Int)).2=0
    ·have J:=Oa hB w.w h
     have hlj:=J.len
     rw[aj h,aj h,bQ ω,ak]
     exact ih m (i+1) _ ω ω (I.app J ω)
    ·rw[ah h,ah h]
 exact key c.1.length N 0 [] ω ω (s0.nil _)
theorem Q0{c:ag}{b:aq}(w:kz b):No (ob c b).1:=by
 have key: ∀(m i:Nat) (s:au),No (rV c b m i s).1:=by
  intro m
  induction m with
  |zero=>intro i s;exact Np w s []
  |succ m ih=>
   intro i s
   show No (if(cS c b (i:Int)).2=0 then rV c b m (i+1) (s++(cS c b (i:Int)).1)else((cw,(dh,(bK,(bK,(dV,(eh,())))))),(cS c b (i:Int)).2)).1
   split
   ·exact ih _ _
   ·exact xI
 unfold ob
 split
 ·exact key _ _ _
 ·exact xI
theorem Q1(N:Nat){l:au}(hl:l.length≤100000)(hN:200000≤N):B4 N l l=some true:=by
 unfold B4 B4.b
 rw[iP,aY,ar]
 refine qC (F:=λn i=>B4.l4 N n l l i) (len:=l.length) (λn i hi hr=> ?_) (λn=> ?_) l.length N 0 ω ω ω
 ·unfold B4.l4 B4.dH
  rw[aP ω,ak,aQ ω ω,ak,ak,Kv,aY,ar,aw (x:=(i:Int)+1) ω ω,ae i]
  exact hr
 ·unfold B4.l4 B4.dH
  rw[aL ω,ar]
def tC:ag:=([((0:Int),((100:Int),df))],((0:Int),((0:Int),((0:Int),((0:Int),((1:Int),((0:Int),())))))))
def tS:au:=[((0:Int),((0:Int),((3:Int),()))),((1:Int),((0:Int),((-4:Int),()))),((2:Int),((0:Int),((-2:Int),()))),((3:Int),((0:Int),((3:Int),())))]
def tB:aq:=([((1:Int),((1:Int),()))],([((1:Int),((1:Int),((1:Int),((0:Int),())))),((2:Int),((1:Int),((2:Int),((0:Int),())))),((3:Int),((1:Int),((2:Int),((0:Int),()))))],(([]:au),(tS,([(100:Int)],(eh,()))))))
theorem tW:Eb tB:=⟨⟨δ,δ,δ,δ,δ,δ,λx hx=>(nomatch hx),Kw (l:=tS) δ⟩,δ,δ⟩
def tL0:au:=[((0:Int),((0:Int),((-3:Int),()))),((1:Int),((0:Int),((2:Int),()))),((2:Int),((0:Int),((1:Int),())))]
def tL1:au:=[((1:Int),((0:Int),((-2:Int),()))),((2:Int),((0:Int),((-1:Int),()))),((3:Int),((0:Int),((3:Int),())))]
theorem tC0:cS tC tB 0=(tL0,0):=κ
theorem tC1:(cS tC tB 1).2=3:=κ
theorem tT0:(ob tC tB).2=0:=κ
theorem tT1:(ob tC tB).1.2.2.2.1=tL1:=κ
theorem Uz(N:Nat)(hN:5000000≤N):F26 N=some true:=by
 unfold F26 F86
 rw[av]
 show(qo N tC tB 0).bind _=_
 rw[K0 N hN tC tW.w,av,tC0]
 show(DP N tC tB).bind _=_
 rw[SC N hN tC tW,av]
 show(qo N tC tB 1).bind _=_
 rw[K0 N hN tC tW.w,av,tC1,tT0,tT1]
 have h1:B4 N tL0 tL0=some true:=Q1 N δ ω
 have h2:BJ N tL1 tL1=some true:=TU N δ ω
 show cond (aM 0 0) ((B4 N tL0 tL0).bind λr5=>cond (r5) (cond (aM 0 0) ((BJ N tL1 tL1).bind λr6=>cond (r6) (some (aM 3 3)) (some false)) (some false)) (some false)) (some false)=some true
 rw[h1,h2]
 simp only[iP,ak,av]
namespace Pure
end Pure
end VM
end
section
namespace VM
open Go VM.F
theorem SD{c:ag}{b:aq}(hR:RB c b)(w:kz b){a:Int}(ha:0≤a∧oY a c.1.length)(h:(cS c b a).2=0):SB c b.2.1 (cS c b a).1∧(cS c b a).1.length≤65:=by
 have I:=Oa (mE.2 hR) w h
 refine⟨⟨λx hx=>(I.q x hx).1,λx hx=>⟨I.place x hx,?_⟩,I.flat⟩,I.len⟩
 have pos: ∀y∈b.2.2.2.1,dy y.1 0∨qn b.2.1 y.1:=λy hy=>(hR.sk y hy).1
 unfold cS at hx h
 rw[aj (mE.2 hR)]at hx h
 by_cases h1:a<0
 ·exact absurd ha.1 ω
 by_cases h2:(c.1.length:Int)≤a
 ·have:=ha.2;unfold oY at this;omega
 rw[ah h1,ah h2]at hx h
 by_cases h3:bn b.2.2.2.1 0 a=0
 ·rw[aj h3]at hx;exact nomatch hx
 rw[ah h3]at hx h
 generalize bn b.2.2.2.1 0 a=q at*
 by_cases h4:(fO b.2.2.2.1 a q).2.2=0
 ·rw[aj h4]at hx
  rcases aX.1 hx with rfl|hx
  ·exact⟨.inl rfl,ha.2⟩
  ·obtain⟨p,hp,rfl⟩:=zb hx
   obtain⟨y,hy,e⟩:=cD.1 (List.of_mem_zip hp).2
   refine⟨?_,ha.2⟩
   dsimp only
   rw[←e]
   exact pos y (jz hy).1
 ·rw[ah h4]at hx;exact nomatch hx
theorem abb(N:Nat)(hN:5000000≤N){c:ag}{b:aq}{m:Nat}(hm:m≤7000)(hb:G m aJ b)(hR:RB c b):Ok (Jm c b) (A4 N c b):=by
 have w:=(G.wf ω hb).w
 have hci:c.1.length≤6:=by
  have:=hR.c
  unfold fG at this
  exact(bF (dm.1 this).1).2
 unfold A4 A4.b
 refine bx (dQ N hN ω hb) (bw (λ_=>Jm.bad δ) λ_=>bk (len:=c.1.length) (F:=λn i s=>A4.l5 N n c b (cw,(dh,(bK,(bK,(dV,(eh,())))))) s i) (λi s=>SB c b.2.1 s∧s.length≤65*i) ⟨SB.nil,bG _⟩ ω (λn i s hi hI hr=> ?_) (λn s hI=> ?_))
 all_goals unfold A4.l5 A4.fi
 all_goals obtain⟨i1,i2⟩:=hI
 ·rw[aw (x:=(i:Int)+1) ω ω,ae i]
  exact ax (λ_=>bx (XW N hN c w _) (bu (λh=>Jm.bad h) λh=>have J:=SD hR w ⟨ω,show(i:Int)<c.1.length by omega⟩ h;aD ω (hr _ ⟨SB.app i1 J.1,by rw[aT];omega⟩))) λ_=>ω
 ·exact ax (λ_=>ω) λ_=>af (sY N ω ω hb hR i1 PB.nil ω (bG _)) λr hr=>an hr
end VM
end
