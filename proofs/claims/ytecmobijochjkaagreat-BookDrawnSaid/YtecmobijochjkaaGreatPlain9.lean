/- A part of the proof of BookDrawn of layer 18: what the functions compute, in plain words. -/
import Derived.Test.YtecmobijochjkaaGreatPlain8
import Derived.Test.YtecmobijochjkaaGreatPlain7
set_option linter.all false
section
namespace VM
open Go VM.F
theorem IM{l s:aY}(h:dk l=true)(hs:s.Sublist l):dk s=true:=by
 obtain⟨h1,h2,h3⟩:=lB.1 h
 exact lB.2 ⟨λx hx=>h1 x (hs.subset hx),h2.sublist hs,cA hs.length_le h3⟩
theorem IN{α:Type}{l s:List α}{d:α}{i:Nat}(hi:i<l.length)(h:s.Sublist (l.take i)):s.Sublist (l.take (i+1))∧(s++[l.getD i d]).Sublist (l.take (i+1)):=by
 have e2:l.take (i+1)=l.take i++[l[i]]:=(tK hi).symm
 rw[e2,jl hi]
 exact⟨h.trans (List.sublist_append_left ..),h.append (List.Sublist.refl _)⟩
theorem XK(N:Nat)(hN:200000≤N){l:aY}(hl:l.length≤50000)(a id:Int):Ok (λr=>r.2=0→dk r.1=true∧ ∀x∈r.1,x∈l) (oN N l a id):=by
 have bad: ∀e:Int,e≠0→Ok (λr:aY×Int=>r.2=0→dk r.1=true∧ ∀x∈r.1,x∈l) (some ([],e)):=λe h=>aq λh'=>absurd h' h
 unfold oN oN.b
 refine bO (ib N ω hN) (bG (λ_=>bad _ δ) λhO=>bs (len:=l.length) (F:=λn i s=>oN.l5 N n l a id s i) (λi s=>s.Sublist (l.take i)) (Gj _) ω (λn i s hi hI hr=> ?_) (λn s hI=> ?_))
 all_goals have hs:=hI.length_le
 all_goals rw[cf]at hs
 all_goals unfold oN.l5 oN.dU
 ·rw[aw (x:=(i:Int)+1) ω ω,af i]
  obtain⟨q1,q2⟩:=IN (d:=dS) hi hI
  have h1:=hr s q1
  have h2:=hr _ q2
  repeat' first|exact h1|exact h2|refine aD (by rw[aK];omega) ?_|refine aB ⟨ω,ω⟩ ?_|refine ax (λ_=> ?_) (λ_=> ?_)|refine bK (λ_=> ?_) (λ_=> ?_)|(exfalso;omega)
 ·rw[im]at hI
  exact ax (λ_=>ω) λ_=>ok_eq (λ_=>bad _ δ) λ_=>aq λ_=>⟨IM hO hI,λx hx=>hI.subset hx⟩
theorem aa7(N:Nat)(hN:200000≤N){l:aY}{a:List Int}{m:Nat}(hm:m≤50000)(hl:l.length≤m)(ha:a.length≤m):Ok (λr=>dk l=true→r.Sublist l) (eQ N l a):=by
 unfold eQ eQ.b
 refine bO (ib N ω hN) (bG (λh=>aq λh'=>by rw[h]at h';exact nomatch h') λ_=>bs (len:=l.length) (F:=λn i s=>eQ.l5 N n l a s i) (λi s=>s.Sublist (l.take i)) (Gj _) ω (λn i s hi hI hr=> ?_) (λn s hI=> ?_))
 all_goals have hs:=hI.length_le
 all_goals rw[cf]at hs
 all_goals unfold eQ.l5 eQ.dU
 ·obtain⟨q1,q2⟩:=IN (d:=dS) hi hI
  refine ax (λ_=> ?_) λ_=>ω
  refine bs (len:=a.length) (F:=λn' j b=>eQ.l9 N (eQ.l5 N n) n' l a s (i:Int) b j) (λ_ _=>True) trivial ω (λn' j b hj _ dZ=> ?_) (λn' b _=> ?_)
  all_goals unfold eQ.l9 eQ.vd
  ·rw[aw (x:=(j:Int)+1) ω ω,af j]
   exact ax (λ_=>oZ (λ_=>dZ _ trivial) λ_=>aB ⟨ω,ω⟩ (aB ⟨ω,ω⟩ (dZ _ trivial))) λ_=>ω
  ·rw[aw (x:=(i:Int)+1) ω ω,af i]
   exact ax (λ_=>ω) λ_=>bG (λ_=>aB ⟨ω,ω⟩ (aD (by rw[aK];omega) (hr _ q2))) λ_=>hr s q1
 ·rw[im]at hI
  exact ax (λ_=>ω) λ_=>aq λ_=>hI
theorem Qz(N:Nat)(hN:5000000≤N){c:ae}{b:an}{m:Nat}(hm:m≤50000)(hb:G m aL b)(hR:RB c b)(id:Int)(bk:kb b.1 id):Ok (λr=>RB c r.1) (Fg N c b id):=by
 have xd:fY b.1 id≠0:=(wI hR.m id).2 bk
 unfold Fg
 refine bO (eh N hN hm hb) (bG (λh=>by rw[qR.2 hR]at h;exact nomatch h) λ_=>bO (pq N (cA hb.1.1 ω) ω _) (ok_eq (λh=>absurd h xd) λ_=>ag (P2 N ω hm hb.2.1 _) λa ha=>ag (aa7 N ω hm hb.2.2.2.2.2.1.1 ha) λr hr=>aq ?_))
 have hs:=hr hR.o
 exact hR.MT (IM hR.o hs) λx hx=>hR.ok x (hs.subset hx)
theorem aef(N:Nat)(hN:200000≤N){l:aY}(hl:l.length≤50000)(a d:Int):Ok (λr=>r.length≤l.length∧ ∀x∈r,x∈l) (ej N l a d):=by
 unfold ej ej.b
 refine bO (ib N ω hN) (bG (λ_=>aq ⟨bw _,λx hx=>nomatch hx⟩) λ_=>bs (len:=l.length) (F:=λn i s=>ej.l5 N n l a d s i) (λi s=>s.length≤i∧ ∀x∈s,x∈l) ⟨aH 0,λx hx=>nomatch hx⟩ ω (λn i s hi hI hr=> ?_) (λn s hI=> ?_))
 all_goals unfold ej.l5 ej.dU
 ·obtain⟨hs,Ud⟩:=hI
  have hx:l.getD (i:Int).toNat dS∈l:=qQ hi
  have fin: ∀k:Nat,k≤s.length→Ok (λr=>r.length≤l.length∧ ∀x∈r,x∈l) (ej.E9 N (ej.l5 N n) l a d s (i:Int) (k:Int)):=λk hk=>by
   unfold ej.E9 ej.ym
   rw[aw (x:=(i:Int)+1) ω ω,af i]
   dsimp only
   have t: ∀a b:Nat,(List.drop a (List.take b s)).length≤s.length:=λa b=>by rw[dY,cf];omega
   have t1:=t (0:Int).toNat (k:Int).toNat
   have t2:=t (k:Int).toNat (s.length:Int).toNat
   refine Dm ⟨ω,ω,ω,ω⟩ (aD ω (aB ⟨ω,ω⟩ (aD (by rw[aK];omega) (Dm ⟨ω,ω,ω,ω⟩ (aD (by rw[aS,aK];omega) (hr _ ⟨?_,λy hy=> ?_⟩))))))
   ·simp only[cB,aS,dY,cf,aK,aG,dN];omega
   ·rcases bn.1 hy with hy|hy
    ·rcases bn.1 hy with hy|hy
     ·exact Ud y (lJ (mW hy))
     ·rw[cw.1 hy];exact hx
    ·exact Ud y (lJ (mW hy))
  have h1:=hr s ⟨ω,Ud⟩
  have hw:Ok (λr=>r.length≤l.length∧ ∀x∈r,x∈l) (ej.l9 N (ej.l5 N n) N l a d s (i:Int) 0):=by
   refine m7 (len:=s.length) (F:=λn' j=>ej.l9 N (ej.l5 N n) n' l a d s (i:Int) j) ω (λn' j hj dZ=> ?_) (λn'=> ?_)
   all_goals unfold ej.l9 ej.vd
   ·rw[aw (x:=(j:Int)+1) ω ω,af j]
    have hah: ∀x y:fX,Ok (λ_=>True) (Xh N x y):=λx y=>by unfold Xh;exact bK (λ_=>fJ) λ_=>fJ
    exact ax (λ_=>aB ⟨ω,ω⟩ (aB ⟨ω,ω⟩ (ag (hah _ _) λ_ _=>oZ (λ_=>dZ) λ_=>fin j ω))) λ_=>ω
   ·exact ax (λ_=>ω) λ_=>fin _ (aH _)
  rw[aw (x:=(i:Int)+1) ω ω,af i]
  repeat' first|exact h1|exact hw|refine aB ⟨ω,ω⟩ ?_|refine ax (λ_=> ?_) (λ_=> ?_)|refine bK (λ_=> ?_) (λ_=> ?_)|(exfalso;omega)
 ·exact ax (λ_=>ω) λ_=>aq hI
def alL(x:fX)(q:Int):fX:=(x.1,(x.2.1,(x.2.2.1,(x.2.2.2.1,(q,x.2.2.2.2.2)))))
def leftOf(l:aY)(n:Int)(k:Nat)(x:fX):Prop:= ∃q:Int,x=alL (l.getD k dS) q∧n≤q∧q≤1000000000
theorem leftOf.mono{l:aY}{n n':Int}(h:n'≤n){k:Nat}{x:fX}(hx:leftOf l n k x):leftOf l n' k x:=by
 obtain⟨q,e,h1,h2⟩:=hx
 exact⟨q,e,fC h h1,h2⟩
abbrev Vj(l:aY)(o:fX)(r:aY×bh×Int×Int):Prop:=dk r.1=true∧(∀x∈r.1,∃y∈l,x.1=y.1∧x.2.1=y.2.1∧x.2.2.1=y.2.2.1)∧r.2.2.1≤o.2.2.2.2.1
theorem aeg{l s:aY}{n:Int}(hs:s.length=l.length)(h: ∀k,k<l.length→leftOf l n k (s.getD k dS))(hp:l.Pairwise Le):s.Pairwise Le:=by
 rw[vB]at hp ⊢
 intro i j hi hj qI
 have g: ∀k (hk:k<s.length),s[k].1=(l[k]' ω).1:=λk hk=>by
  obtain⟨q,e,_⟩:=h k ω
  rw[jl hk,jl (show k<l.length by omega)]at e
  rw[e];rfl
 unfold Le
 rw[g i hi,g j hj]
 exact hp i j ω ω qI
theorem aa8(N:Nat)(hN:200000≤N){l:aY}{o:fX}(hl:l.length≤50000)(hO:dk l=true)(ho:rf o):Ok (Vj l o) (cC N l o):=by
 unfold cC cC.b
 refine bO (ib N ω hN) (bG (λh=>by rw[hO]at h;exact nomatch h) λ_=>bO (BU N o) (bG (λh=>absurd ho (of_decide_eq_false h)) λ_=>aD (by rw[ca];omega) (ag (aef N hN hl _ _) λw ⟨hwl,hwm⟩=> ?_)))
 obtain⟨h1,h2,h3⟩:=lB.1 hO
 rw[cB]
 have fin: ∀(n:Int) (s:aY) (q:Int) (t:bh),s.length=l.length→(∀k,k<l.length→leftOf l n k (s.getD k dS))→q≤o.2.2.2.2.1→Ok (Vj l o) (cC.j22 N s q t):=λn s q t hs On hq=>by
  unfold cC.j22 cC.adP
  refine bs (len:=s.length) (F:=λn i u=>cC.Ny N n s q t u i) (λi u=>u.Sublist (s.take i)∧ ∀x∈u,lH 0 x.2.2.2.2.1) ⟨Gj _,λx hx=>nomatch hx⟩ ω (λn i u hi hI hr=> ?_) (λn u hI=> ?_)
  all_goals obtain⟨i1,i2⟩:=hI
  all_goals have Jj:=i1.length_le
  all_goals rw[cf]at Jj
  all_goals unfold cC.Ny cC.P4
  ·rw[aw (x:=(i:Int)+1) ω ω,af i,aG]
   obtain⟨q1,q2⟩:=IN (d:=dS) hi i1
   exact ax (λ_=>aB ⟨ω,ω⟩ (ax (λhq=>aB ⟨ω,ω⟩ (aD (by rw[aK];omega) (hr _ ⟨q2,λx hx=>by
    rcases bn.1 hx with hx|hx
    ·exact i2 x hx
    ·rw[cw.1 hx];exact hq⟩))) λ_=>hr u ⟨q1,i2⟩)) λ_=>ω
  ·rw[im]at i1
   have at': ∀x∈s,∃y∈l,∃q:Int,x=alL y q∧q≤1000000000:=λx hx=>by
    obtain⟨k,hk,e⟩:=gJ hx
    obtain⟨q,e',_,h⟩:=On k ω
    rw[jl hk,e]at e'
    exact⟨_,qQ (d:=dS) (show k<l.length by omega),q,e',h⟩
   refine ax (λ_=>ω) λ_=>aq ⟨lB.2 ⟨λx hx=> ?_,(aeg hs On h2).sublist i1,by have:=i1.length_le;dsimp only at*;omega⟩,λx hx=> ?_,hq⟩
   ·obtain⟨y,hy,q,e,hq⟩:=at' x (i1.subset hx)
    have h0:=i2 x hx
    have ok:=h1 y hy
    subst e
    exact⟨ok.1,ok.2.1,ok.2.2.1,ok.2.2.2.1,⟨show(1:Int)≤q from h0,hq⟩,ok.2.2.2.2.2⟩
   ·obtain⟨y,hy,q,e,_⟩:=at' x (i1.subset hx)
    exact⟨y,hy,by rw[e];rfl,by rw[e];rfl,by rw[e];rfl⟩
 refine bs (len:=w.length) (F:=λn i (s:aY×Int×bh)=>cC.l7 N n o s.1 s.2.1 s.2.2 w i) (s:=(_,(_,_))) (λi s=>(s.1.length=l.length∧ ∀k,k<l.length→leftOf l (-1000000000*(i:Int)) k (s.1.getD k dS))∧(0≤s.2.1∧s.2.1≤o.2.2.2.2.1)∧s.2.2.length≤i) ⟨⟨rfl,λk hk=>⟨(l.getD k dS).2.2.2.2.1,rfl,?_,?_⟩⟩,⟨?_,fU _⟩,bw _⟩ ω (λn i s hi hI hr=> ?_) (λn s hI=> ?_)
 ·have:=(h1 _ (qQ (d:=dS) hk)).2.2.2.2.1.1
  exact fC δ this
 ·exact(h1 _ (qQ (d:=dS) hk)).2.2.2.2.1.2
 ·exact fC δ ho.2.2.2.2.1.1
 all_goals unfold cC.l7 cC.mK
 ·obtain⟨⟨hs,On⟩,hq,ht⟩:=hI
  have hoq:o.2.2.2.2.1≤1000000000:=ho.2.2.2.2.1.2
  have f1:=fin _ s.1 s.2.1 s.2.2 hs On hq.2
  have hx:=h1 _ (hwm _ (qQ (d:=dS) hi))
  have alz: ∀(v:Int) (t:iE),0≤v→v≤s.2.1→v≤1000000000→Ok (Vj l o) (cC.Dn N (cC.l7 N n) o s.1 s.2.1 s.2.2 w (i:Int) v t):=λv t v0 v1 v2=>by
   unfold cC.Dn cC.xa
   have Wf:s.2.1≤1000000000:=fC hq.2 hoq
   rw[aw (x:=s.2.1-v) ω ω]
   refine aD (by rw[aK];omega) (bs (len:=s.1.length) (F:=λn' j u=>cC.Ji N (cC.l7 N n) n' o u (s.2.1-v) (s.2.2++[t]) w (i:Int) v j) (λj u=>u.length=l.length∧ ∀k,k<l.length→leftOf l (if k<j then-1000000000*((i:Int)+1)else-1000000000*(i:Int)) k (u.getD k dS)) ⟨hs,λk hk=>by rw[ah ω];exact On k hk⟩ ω (λn' j u hj hJ dZ=> ?_) (λn' u hJ=> ?_))
   all_goals obtain⟨Jj,hum⟩:=hJ
   all_goals unfold cC.Ji cC.Fh
   ·rw[aw (x:=(j:Int)+1) ω ω,af j,aG,aG]
    have same: ∀k,k<l.length→k≠j→leftOf l (if k<j+1 then-1000000000*((i:Int)+1)else-1000000000*(i:Int)) k (u.getD k dS):=λk hk e=>by
     have:=hum k hk
     by_cases h:k<j
     ·rw[ak h]at this;rw[ak ω];exact this
     ·rw[ah h]at this;rw[ah ω];exact this
    have h0:=hum j ω
    rw[ah ω]at h0
    refine ax (λ_=>aB ⟨ω,ω⟩ (aB ⟨ω,ω⟩ (ok_eq (λ_=>aB ⟨ω,ω⟩ (aB ⟨ω,ω⟩ (dZ _ ⟨by rw[bU];exact Jj,λk hk=> ?_⟩))) λ_=>dZ u ⟨Jj,λk hk=> ?_⟩))) λ_=>ω
    ·by_cases e:k=j
     ·subst e
      rw[ak ω]
      obtain⟨q,e,q1,q2⟩:=h0
      have es: ∀y:fX,(u.set k y).getD k dS=y:=λy=>by
       rw[aW,NT ω];rfl
      rw[es,e]
      unfold alL
      dsimp only
      rw[aw (x:=q-v) ω ω]
      exact⟨q-v,rfl,ω,ω⟩
     ·have es: ∀y:fX,(u.set j y).getD k dS=u.getD k dS:=λy=>by
       rw[aW,aW,List.getElem?_set_ne ω]
      rw[es];exact same k hk e
    ·by_cases e:k=j
     ·subst e
      rw[ak ω]
      exact h0.mono ω
     ·exact same k hk e
   ·rw[aw (x:=(i:Int)+1) ω ω,af i]
    exact ax (λ_=>ω) λ_=>hr (_,(_,_)) ⟨⟨Jj,λk hk=>by
     have:=hum k hk
     rw[ak ω]at this
     rw[Int.natCast_add];exact this⟩,⟨by dsimp only;omega,by dsimp only;omega⟩,by dsimp only;rw[List.length_append,List.length_singleton];omega⟩
  have E8:0<s.2.1→Ok (Vj l o) (cC.JN N (cC.l7 N n) o s.1 s.2.1 s.2.2 w (i:Int)):=λOm=>by
   unfold cC.JN cC.Da
   rw[aw (x:=(i:Int)+1) ω ω,af i,aG]
   dsimp only
   have h1:=hr s ⟨⟨hs,λk hk=>(On k hk).mono ω⟩,hq,ω⟩
   have Wf:s.2.1≤1000000000:=fC hq.2 hoq
   have hm:0≤mn s.2.1 (w.getD i dS).2.2.2.2.1∧mn s.2.1 (w.getD i dS).2.2.2.2.1≤s.2.1:=by
    have h1:=hx.2.2.2.2.1.1
    generalize (w.getD i dS).2.2.2.2.1=q at*
    rw[Yf];split<;>omega
   repeat' first|exact h1|exact alz _ _ hm.1 hm.2 (fC hm.2 Wf)|refine aB ⟨ω,ω⟩ ?_|refine ok_eq (λ_=> ?_) (λ_=> ?_)
  repeat' first|exact f1|exact E8 (by assumption)|refine aB ⟨ω,ω⟩ ?_|refine ax (λ_=> ?_) (λ_=> ?_)|refine ok_eq (λ_=> ?_) (λ_=> ?_)|(exfalso;omega)
 ·obtain⟨⟨hs,On⟩,hq,ht⟩:=hI
  exact ax (λ_=>ω) λ_=>fin _ _ _ _ hs On hq.2
theorem aa9(N:Nat)(hN:5000000≤N){c:ae}{b:an}{o:fX}{m:Nat}(h2:200≤m)(hm:m≤40000)(hc:G m aA c)(hb:G m aL b)(hR:RB c b)(ho:G 0 nw o):Ok (λr=>r.2.2.2=0→RB c r.1) (ka N c b o):=by
 have xg:=hb.2.2.2.2.2.1.1
 have ei: ∀(t:bh) (e:Int),e≠0→Ok (λr:an×bh×Int×Int=>r.2.2.2=0→RB c r.1) (some ((ch,(cT,(bq,(bq,(dg,(du,())))))),(t,((0:Int),e)))):=λt e h=>aq λh'=>absurd h' h
 obtain⟨g1,g2,g3⟩:=lB.1 hR.o
 unfold ka ka.b
 refine ag (Co N hN h2 hm hc hb (G.mono (bw m) ho)) λe he=>bK (λh=>ei _ _ h) λe0=> ?_
 obtain⟨o1,o2,o3⟩:=he e0
 have oA:=(qC hR.a _).1 o2
 have E8: ∀(r:aY) (t:bh) (q:Int),dk r=true→(∀x∈r,∃y∈b.2.2.2.2.2.1,x.1=y.1∧x.2.1=y.2.1∧x.2.2.1=y.2.2.1)→q≤o.2.2.2.2.1→(0<q→r.length≤31)→(∀y∈b.2.2.2.2.2.1,lH y.1 o.1)→Ok (λr=>r.2.2.2=0→RB c r.1) (ka.JN N c b o (ch,(cT,(bq,(bq,(dg,(du,())))))) r t q):=λr t q hr hrm hq J9 eV=>by
  obtain⟨r1,r2,r3⟩:=lB.1 hr
  unfold ka.JN ka.Da
  refine ag (Ll N hN ω hb hR) λz hz=>bK (λh=>ei _ _ h) λz0=> ?_
  obtain⟨zR,_,za,_⟩:=hz z0
  have hk: ∀x∈r,IB c z.1.2.1 x:=λx hx=>by
   obtain⟨y,hy,_,e1,e2⟩:=hrm x hx
   have:=hR.ok y hy
   unfold IB at this ⊢
   rw[za,e1,e2];exact this
  refine ax (λh0=>aD (by rw[aK];omega) (aq λ_=>zR.MT (lB.2 ⟨λx hx=> ?_,?_,?_⟩) λx hx=> ?_)) λ_=>aq λ_=>zR.MT hr hk
  ·rcases bn.1 hx with hx|hx
   ·exact r1 x hx
   ·rw[cw.1 hx]
    exact⟨o1.1,o1.2.1,o1.2.2.1,o1.2.2.2.1,⟨h0,fC hq o1.2.2.2.2.1.2⟩,o1.2.2.2.2.2⟩
  ·rw[xm]
   refine⟨r2,F9 ..,λx hx y hy=> ?_⟩
   rw[cw.1 hy]
   obtain⟨u,hu,e,_⟩:=hrm x hx
   unfold Le
   rw[e];exact eV u hu
  ·rw[aS,aK];have:=J9 h0;omega
  ·rcases bn.1 hx with hx|hx
   ·exact hk x hx
   ·rw[cw.1 hx]
    unfold IB
    rw[za];exact⟨oA,o3⟩
 have hj7:(∀y∈b.2.2.2.2.2.1,lH y.1 o.1)→Ok (λr=>r.2.2.2=0→RB c r.1) (ka.j7 N c b o (ch,(cT,(bq,(bq,(dg,(du,()))))))):=λeV=>by
  unfold ka.j7 ka.X9
  refine ag (aa8 N ω ω hR.o o1) λz ⟨z1,z2,z3⟩=> ?_
  have zl:=(lB.1 z1).2.2
  exact ax (λh0=>ok_eq (λ_=>ei _ _ δ) λkQ=>E8 _ _ _ z1 z2 z3 (λ_=>ω) eV) λh0=>E8 _ _ _ z1 z2 z3 (λh=>ω) eV
 refine ax (λh0=> ?_) λh0=>hj7 λy hy=> ?_
 ·dsimp only
  refine aB (by rw[aw ω ω];omega) (eK (λ_=>ei _ _ δ) λaba=>hj7 λy hy=> ?_)
  have e1:(W .i64 ((b.2.2.2.2.2.1.length:Int)-1)).toNat=b.2.2.2.2.2.1.length-1:=by rw[aw ω ω];omega
  rw[e1,jl ω]at aba
  obtain⟨k,hk,e⟩:=gJ hy
  by_cases h:k=b.2.2.2.2.2.1.length-1
  ·subst h;rw[←e];exact aba
  ·have:=vB.1 g2 k (b.2.2.2.2.2.1.length-1) hk ω ω
   rw[e]at this
   exact Du this aba
 ·have:=List.length_pos_of_mem hy
  omega
theorem aeh(N:Nat)(hN:5000000≤N){c:ae}{b:an}{m:Nat}(hm:m≤40000)(hc:G m aA c)(hb:G m aL b)(hR:RB c b)(f:Int)(to a:Int):Ok (λr=>r.2=0→RB c r.1) (Xj N c b f to a):=by
 have bad: ∀e:Int,e≠0→Ok (λr:an×Int=>r.2=0→RB c r.1) (some ((ch,(cT,(bq,(bq,(dg,(du,())))))),e)):=λe h=>aq λh'=>absurd h' h
 unfold Xj
 refine ag (aay N hN hm hc hb _ _ _) λ_ _=>bK (λh=>bad _ h) λ_=>ag (TD N ω (cA hb.1.1 ω) (cA hb.2.1.1 ω) _ _) λr hr=>bK (λh=>bad _ h) λh0=>aq λ_=> ?_
 obtain⟨r1,r2,r3⟩:=hr h0
 exact hR.Xz hR.m r1 (λ_ h=>h) r2 r3
theorem abb(N:Nat)(hN:200000≤N){c:ae}{b:an}{m:Nat}(hm:m≤50000)(hb:G m aL b)(hR:RB c b){a:Int}(ha:rJ b.2.1 a):Ok (λr=>SB c b.2.1 r∧r.length≤2*m) (nS N b.2.2.2.1 a 0):=by
 have h:=hb.2.2.2.1
 have hl:=h.1
 have hp:=(eU (eg (qR.2 hR)).2).2
 unfold nS nS.b
 have nil:Ok (λr:au=>SB c b.2.1 r∧r.length≤2*m) (some []):=aq ⟨SB.nil,bw _⟩
 refine bO (lT N ω hN) (bG (λ_=>nil) λ_=>ok_eq (λ_=>nil) λ_=>ax (λ_=>nil) λa0=>ax (λ_=>nil) λa1=>ax (λ_=>nil) λ_=>ax (λ_=>nil) λ_=>bs (len:=b.2.2.2.1.length) (F:=λn i s=>nS.l5 N n b.2.2.2.1 a 0 s i) (λi s=>SB c b.2.1 s∧s.length≤2*i) ⟨SB.nil,bw _⟩ ω (λn i s hi hI hr=> ?_) (λn s hI=> ?_))
 all_goals unfold nS.l5 nS.dU
 all_goals obtain⟨i1,i2⟩:=hI
 ·have hx:G m kf (b.2.2.2.1.getD i bb):=h.2 _ (qQ hi)
  have Sa:=hp _ (qQ (d:=bb) hi)
  have Yx:=hR.sk _ (qQ (d:=bb) hi)
  dsimp only
  rw[aw (x:=(i:Int)+1) ω ω,af i,aG]
  have h1:=hr s ⟨i1,ω⟩
  have hq:aF (b.2.2.2.1.getD i bb).2.2.1:=hx.2.2.1
  have oT:rA (b.2.2.2.1.getD i bb).2.2.1:=Sa.2
  have pl:=Sa.1
  have ins:=Yx.2
  generalize (b.2.2.2.1.getD i bb).2.2.1=q at*
  generalize (b.2.2.2.1.getD i bb).2.1=k at*
  have hn:=(alk ⟨hq,oT⟩).1
  unfold aF at hn
  rw[aw hn.1 hn.2]
  exact ax (λ_=>aB ⟨ω,ω⟩ (ok_eq (λ_=>aB ⟨ω,ω⟩ (aB ⟨ω,ω⟩ (aB ⟨ω,ω⟩ (aB ⟨ω,ω⟩ (aD (by rw[zo];omega) (hr _ ⟨SB.app i1 (SB.two hn hq ω ⟨⟨a0,a1,pl.2.2.1,pl.2.2.2⟩,.inr ha,ins⟩ ⟨⟨δ,δ,pl.2.2.1,pl.2.2.2⟩,.inl rfl,ins⟩),by rw[aS,aT,aK];omega⟩)))))) λ_=>h1)) λ_=>ω
 ·exact ax (λ_=>ω) λ_=>aq ⟨i1,ω⟩
theorem XL{c:ae}{b:an}(h:RB c b):b.2.1.length≤24:=Qd h.a
theorem aei(N:Nat)(hN:5000000≤N){c:ae}{b:an}{m:Nat}(h2:200≤m)(hm:m≤1000)(hc:G m aA c)(hb:G m aL b)(hR:RB c b)(a:Int):Ok (Lk c b) (rX N c b a):=by
 have hal:=XL hR
 unfold rX rX.b
 refine bO (eh N hN ω hb) (bG (λ_=>Lk.bad δ) λhB=>ag (rW N ω ω hb _) λ_ _=>ok_eq (λ_=>Lk.bad δ) λ_=> ?_)
 refine bs (len:=b.2.1.length) (F:=λn i (z:au×bM)=>rX.l8 N n a c b (ch,(cT,(bq,(bq,(dg,(du,())))))) z.1 z.2 i) (s:=(_,_)) (λi z=>(SB c b.2.1 z.1∧z.1.length≤2*m*i)∧PB b.1 b.2.1 z.2∧z.2.length≤4*i) ⟨⟨SB.nil,bw _⟩,PB.nil,bw _⟩ ω (λn i z hi hI hr=> ?_) (λn z hI=> ?_)
 all_goals unfold rX.l8 rX.Ef
 all_goals obtain⟨⟨h5,h7⟩,h6,h8⟩:=hI
 ·have hmi:2*m*i≤2*m*24:=mX _ ω
  have hms:2*m*(i+1)=2*m*i+2*m:=sm _ _
  have hx:G m fa (b.2.1.getD (i:Int).toNat ba):=G.at hb.2.1 _
  have hA:rJ b.2.1 (b.2.1.getD (i:Int).toNat ba).1:=⟨_,qQ hi,rfl⟩
  have hM:=vt hR hA
  have hF:db 2 0∧kp b.1 b.2.1 2 0:=Dy δ
  have hj: ∀p:bM,PB b.1 b.2.1 p→p.length≤4*i+2→Ok (Lk c b) (rX.Dn N (rX.l8 N n) a c b (ch,(cT,(bq,(bq,(dg,(du,())))))) z.1 p (i:Int) (b.2.1.getD (i:Int).toNat ba)):=λp hp CB=>by
   unfold rX.Dn rX.xa
   rw[aw (x:=(i:Int)+1) ω ω,af i]
   exact ag (vo N ω ω hb _) λg hg=>ax (λ_=>bO (da N ω hg.1 hg.2) (bO (pk N ω (pV (pZ hg).1)) (ag (um N ω ⟨(pZ hg).2,by rw[Int.neg_neg];exact(pZ hg).1⟩ hF hM) λu ⟨hu,Jj⟩=>aD ω (ag (abb N ω ω hb hR hA) λs ⟨hs,On⟩=>aD ω (hr (_,_) ⟨⟨SB.app h5 hs,by dsimp only;rw[List.length_append];omega⟩,PB.app hp hu,by dsimp only;rw[List.length_append];omega⟩))))) λ_=>ag (abb N ω ω hb hR hA) λs ⟨hs,On⟩=>aD ω (hr (_,_) ⟨⟨SB.app h5 hs,by dsimp only;rw[List.length_append];omega⟩,hp,by dsimp only;omega⟩)
  rw[aw (x:=(i:Int)+1) ω ω,af i]
  exact ax (λ_=>aB ⟨ω,ω⟩ (bK (λ_=>hr z ⟨⟨h5,ω⟩,h6,ω⟩) λ_=>ok_eq (λ_=>ag (Lc N hN ω hc hb _) λq hq=>bO (da N ω hq.1 hq.2) (ag (um N ω (pZ hq) hM hF) λu ⟨hu,Jj⟩=>aD ω (hj _ (PB.app h6 hu) (by rw[aS];omega)))) λ_=>hj _ h6 ω)) λ_=>ω
 ·have hmi:2*m*b.2.1.length≤2*m*24:=mX _ ω
  exact ax (λ_=>ω) λ_=>ag (uk N ω ω hb hR h5 h6 ω ω) λr hr=>aq hr
theorem AB{n:Int}: ∀{l:aO},ov n l≠0→rJ l (ov n l)
 |[],h=>absurd rfl h
 |x::t,h=>by
  rw[tV]at h ⊢
  have up:rJ t (ov n t)→rJ (x::t) (ov n t):=λ⟨y,hy,e⟩=>⟨y,a8 _ hy,e⟩
  by_cases e1:x.2.1=n
  ·rw[ak e1]at h ⊢
   by_cases e2:x.2.2.1=1
   ·rw[ak e2];exact⟨x,bt ..,rfl⟩
   ·rw[ah e2]at h ⊢;exact up (AB h)
  ·rw[ah e1]at h ⊢;exact up (AB h)
theorem Ln{a:aO}{n:Int}(h:ow a n≠0):rJ a (ow a n):=by
 unfold ow at*
 split at h
 ·rw[ak (by assumption)];exact AB h
 ·exact absurd rfl h
def Vk(c:ae)(y:BV):Prop:=(0≤y.1∧lH y.1 c.1.length)∧rA y.2.1
theorem TG{c:ae}{L:bJ}(h:Dc c L=true): ∀x∈L,∀y∈x.2.1,Vk c y:=by
 unfold Dc at h
 simp only[bP,eZ,fR]at h
 refine(iy (d:=((0:Int),(ch,ba))) (Q:=λx=> ∀y∈x.2.1,Vk c y)).1 λj hj=> ?_
 have h1:=(h.2.2 j hj).2.2.2.1
 unfold mj at h1
 exact(iy (d:=c5) (Q:=Vk c)).1 λi hi=>by
  have h2:=bA (dd.1 h1).1 i hi
  exact⟨⟨h2.1,h2.2.1⟩,h2.2.2.2.1⟩
theorem abc(N:Nat)(hN:5000000≤N){c:ae}{b:an}{L:bJ}{l:aO}{m:Nat}(h2:200≤m)(hm:m≤2000)(hb:G m aL b)(hR:RB c b)(hL:LL m L)(hl:G m (.slice fa) l):Ok (λr=>r.2.2=0→RB c r.1∧r.2.1.length≤12) (gv N c b L l):=by
 have ei: ∀e:Int,e≠0→Ok (λr:an×bJ×Int=>r.2.2=0→RB c r.1∧r.2.1.length≤12) (some ((ch,(cT,(bq,(bq,(dg,(du,())))))),([],e))):=λe h=>aq λh'=>absurd h' h
 have h3:=hL.1
 have h4:=hl.1
 have hw:KH L:=λy hy=>cA (hL.2 y hy).2.1.1 ω
 have hci:c.1.length≤6:=by
  have:=hR.c
  unfold eL at this
  exact(bA (dd.1 this).1).2
 unfold gv gv.b
 refine bO (eh N hN ω hb) (bG (λ_=>ei _ δ) λ_=>bO (Ca N ω c ω hw) (bG (λ_=>ei _ δ) λhk=>bO (vj N ω ω) (bG (λ_=>ei _ δ) λ_=> ?_)))
 have aq2:=TG hk
 have h12:L.length≤12:=by
  unfold Dc at hk
  exact bA (dd.1 (dd.1 hk).2).1
 refine bs (len:=L.length) (F:=λn i (z:au×bM×bJ)=>gv.l7 N n L l b (ch,(cT,(bq,(bq,(dg,(du,())))))) z.1 z.2.1 z.2.2 i) (s:=(_,(_,_))) (λi z=>(SB c b.2.1 z.1∧z.1.length≤2*m*i)∧(PB b.1 b.2.1 z.2.1∧z.2.1.length≤2*i)∧z.2.2.length≤i) ⟨⟨SB.nil,bw _⟩,⟨PB.nil,bw _⟩,bw _⟩ ω (λn i z hi hI hr=> ?_) (λn z hI=> ?_)
 all_goals unfold gv.l7 gv.mK
 all_goals obtain⟨⟨h5,h8⟩,⟨h6,h9⟩,h7⟩:=hI
 ·have hmi:2*m*i≤2*m*12:=mX _ ω
  have hms:2*m*(i+1)=2*m*i+2*m:=sm _ _
  have hx:G m jT (L.getD (i:Int).toNat ((0:Int),(ch,ba))):=G.at hL _
  have hxl:=hx.2.1.1
  have awT:=aq2 _ (qQ (d:=((0:Int),(ch,ba))) hi)
  rw[aw (x:=(i:Int)+1) ω ω,af i]
  dsimp only
  rw[cB]
  have put: ∀x:je,Ok (λr=>r.2.2=0→RB c r.1∧r.2.1.length≤12) (cond (small (z.2.2.length+[x].length)) (gv.l7 N n L l b (ch,(cT,(bq,(bq,(dg,(du,())))))) z.1 z.2.1 (z.2.2++[x]) ((i+1:Nat):Int)) none):=λx=>aD (by rw[List.length_singleton];omega) (hr (z.1,(z.2.1,z.2.2++[x])) ⟨⟨h5,by dsimp only;omega⟩,⟨h6,by dsimp only;omega⟩,by dsimp only;rw[List.length_append,List.length_singleton];omega⟩)
  refine ax (λ_=>aB ⟨ω,ω⟩ (aD (by rw[ca];omega) (bK (λ_=>put _) λ_=>ag (Vc N ω ω hl _) λw hw=>bG (λ_=>put _) λ_=>bO (rU N (cA hb.2.1.1 ω) ω _) (ok_eq (λ_=>ei _ δ) λhh=>ag (rW N ω ω hb _) λ_ _=>ok_eq (λ_=>ei _ δ) λ_=> ?_)))) λ_=>ω
  have hA:=Ln hh
  have hM:=vt hR hA
  have hF:db 2 0∧kp b.1 b.2.1 2 0:=Dy δ
  have aq3:0≤ow b.2.1 w.1.2.2.1∧ow b.2.1 w.1.2.2.1≤24:=by
   have:=hM.1
   unfold db at this;omega
  generalize ow b.2.1 w.1.2.2.1=h at*
  have hX': ∀y∈(L.getD (i:Int).toNat ((0:Int),(ch,ba))).2.1,Vk c y∧G m kO y:=λy hy=>⟨awT y (by rw[aG]at hy;exact hy),hx.2.1.2 y hy⟩
  generalize hX:(((L.getD (i:Int).toNat ((0:Int),(ch,ba))).1,((L.getD (i:Int).toNat ((0:Int),(ch,ba))).2.1,((L.getD (i:Int).toNat ((0:Int),(ch,ba))).2.2.1,((2:Int),(w.1.2.2.1,(w.1.2.2.2.1,())))))):je)=X
  have hXe:X.2.1=(L.getD (i:Int).toNat ((0:Int),(ch,ba))).2.1:=by rw[←hX]
  rw[←hXe]at hX' hxl
  refine bs (len:=X.2.1.length) (F:=λn' j u=>gv.yk N (gv.l7 N n) n' L l b (ch,(cT,(bq,(bq,(dg,(du,())))))) u z.2.1 z.2.2 (i:Int) X w.1 h j) (s:=z.1) (λj u=>SB c b.2.1 u∧u.length≤2*m*i+2*j) ⟨h5,h8⟩ ω (λn' j u hj hu dZ=> ?_) (λn' u hu=> ?_)
  all_goals unfold gv.yk gv.w8
  all_goals obtain⟨hu,Jj⟩:=hu
  ·have hy:=hX' _ (qQ (d:=c5) hj)
   dsimp only
   rw[aw (x:=(j:Int)+1) ω ω,af j,aG]
   generalize X.2.1.getD j c5=y at*
   obtain⟨⟨⟨y0,y1⟩,y2⟩,y3⟩:=hy
   have hq:aF y.2.1:=y3.2.1
   have hn:=(alk ⟨hq,y2⟩).1
   have hn':=hn
   unfold aF at hn'
   have e:W .i64 (0-y.2.1)=0-y.2.1:=aw hn'.1 hn'.2
   rw[e]
   have g6: ∀x:Int,lH x c.1.length→x<6:=λx h=>by unfold lH at h;omega
   exact ax (λ_=>aB ⟨ω,ω⟩ (aB ⟨ω,ω⟩ (aB ⟨ω,ω⟩ (aB ⟨ω,ω⟩ (aD (by rw[zo];omega) (dZ _ ⟨SB.app hu (SB.two hn hq ω ⟨⟨δ,δ,y0,g6 _ y1⟩,.inl rfl,y1⟩ ⟨⟨aq3.1,aq3.2,y0,g6 _ y1⟩,.inr hA,y1⟩),by rw[aS,aT,aK];omega⟩)))))) λ_=>ω
  ·have H6:aF w.1.2.2.2.1:=hw.2.2.2.1
   refine ax (λ_=>ω) λ_=>bO (da N ω H6.1 H6.2) (ag (um N ω (pZ H6) hM hF) λp ⟨hp,CB⟩=>aD ω (aD (by rw[aK];omega) ?_))
   rw[aw (x:=(i:Int)+1) ω ω,af i]
   exact hr (_,(_,_)) ⟨⟨hu,by dsimp only;omega⟩,⟨PB.app h6 hp,by dsimp only;rw[List.length_append];omega⟩,by dsimp only;rw[List.length_append,List.length_singleton];omega⟩
 ·have hmi:2*m*L.length≤2*m*12:=mX _ ω
  exact ax (λ_=>ω) λ_=>ag (uk N ω ω hb hR h5 h6 ω ω) λr hr=>bK (λh=>ei _ h) λh0=>aq λ_=>⟨(hr h0).1,by dsimp only;omega⟩
theorem Lo{a k:Int}: ∀{l:au},iv a k l≠0→ ∃x∈l,x.1=a∧x.2.1=k
 |[],h=>absurd rfl h
 |x::t,h=>by
  rw[jX]at h
  have up:iv a k t≠0→ ∃y∈x::t,y.1=a∧y.2.1=k:=λh=>let⟨y,hy,e⟩:=Lo h;⟨y,a8 _ hy,e⟩
  by_cases e1:x.1=a
  ·rw[ak e1]at h
   by_cases e2:x.2.1=k
   ·exact⟨x,bt ..,e1,e2⟩
   ·rw[ah e2]at h;exact up h
  ·rw[ah e1]at h;exact up h
def PT(b:an)(k n:Int):Prop:=db k n∧kp b.1 b.2.1 k n
theorem aej{c:ae}{b:an}(hR:RB c b){k n:Int}(h:tZ b.2.2.1 k n≠0):PT b k n:=by
 unfold tZ at h
 rw[ak hR.r]at h
 obtain⟨x,hx,e1,e2⟩:=Lo h
 have h1:=(pz hR.r).2 x hx
 have h2:=hR.rk x hx
 rw[e1,e2]at h1 h2
 exact⟨h1,h2⟩
theorem abd{a:aO}(hA:gL a=true){id:Int}{x:cL×Bool}(e:x=eM a id)(h:x.2=true):rJ a x.1.1:=by
 subst e
 unfold eM at*
 rw[ak hA]at h ⊢
 have key: ∀l:aO,(vf id l).2=true→(vf id l).1∈l:=by
  intro l
  induction l with
  |nil=>intro h;exact nomatch h
  |cons y t ih=>
   intro h
   rw[pn]at h ⊢
   by_cases e:y.1=id
   ·rw[ak e];exact bt ..
   ·rw[ah e]at h ⊢;exact a8 _ (ih h)
 exact⟨_,key a h,rfl⟩
abbrev T5(b:an)(k:Nat)(l:bh):Prop:=l.length≤k∧ ∀x∈l,PT b x.2.1 x.2.2.1
theorem T5.mono{b:an}{j k:Nat}{l:bh}(h:T5 b j l)(hk:j≤k):T5 b k l:=⟨cA h.1 hk,h.2⟩
theorem T5.nil{b:an}{k:Nat}:T5 b k []:=⟨bw _,λx hx=>nomatch hx⟩
theorem T5.app{b:an}{k:Nat}{l:bh}(h:T5 b k l){s d n x y:Int}(hx:PT b d n):T5 b (k+1) (l++[(s,(d,(n,(x,(y,())))))]):=
 ⟨by rw[aS,aK];exact Nat.succ_le_succ h.1,λz hz=>by
  rcases bn.1 hz with hz|hz
  ·exact h.2 z hz
  ·rw[cw.1 hz];exact hx⟩
theorem row_in(N:Nat)(hN:200000≤N){c:ae}{l:bh}{b:an}{m k:Nat}(hm:m≤50000)(hb:G m aL b)(hR:RB c b)(hk:k≤1000000)(hl:T5 b k l)(a d n:Int):Ok (T5 b (k+1)) (MO N l b a d n):=by
 have h1:=hl.1
 unfold MO
 exact bO (Mp N (cA hb.2.2.1.1 ω) hN _ _) (ax (λh=>aD (by rw[aK];omega) (aq (T5.app hl (aej hR ω)))) λ_=>aq (T5.mono hl ω))
theorem abe(N:Nat)(hN:5000000≤N){c:ae}{b:an}{d g:aE}{a:Int}{m:Nat}(hm:m≤50000)(hc:G m aA c)(hb:G m aL b)(hR:RB c b)(hd:L2 m d)(hg:L2 m g):Ok (λr=>T5 b 1000000 r.1∧(r.2=0→kb b.1 a)) (c6 N c b a d g):=by
 have h1:=hb.1.1
 have h2:=hd.1
 have h3:=hg.1
 have h4:=hb.2.1.1
 have nil: ∀e:Int,e≠0→Ok (λr:bh×Int=>T5 b 1000000 r.1∧(r.2=0→kb b.1 a)) (some ([],e)):=λe h=>aq ⟨T5.nil,λh'=>absurd h' h⟩
 have hj:kb b.1 a→ ∀l:bh,T5 b 1 l→Ok (λr=>T5 b 1000000 r.1∧(r.2=0→kb b.1 a)) (c6.j9 N a d g c b l):=λhMa l hl=>by
  unfold c6.j9 c6.JF
  refine ag (row_in N ω hm hb hR ω hl _ _ _) λl hl=>ag (row_in N ω hm hb hR ω hl _ _ _) λl hl=>jk (len:=5) (F:=λn k s=>c6.nI N n a d g c b s k) (λk s=>T5 b (3+m*k) s) (λn k s hk hs hr=> ?_) (λn s hs=> ?_) 5 N 1 l ω ω ω (T5.mono hl ω)
  all_goals unfold c6.nI c6.mO
  ·have hmk:m*k≤m*4:=mX m ω
   refine eK (λ_=>ag (Ir N hN c hm hb hd _ _) λt ht=> ?_) λ_=>ω
   have htl:=ht.1
   refine bs (len:=t.1.length) (F:=λn' j u=>c6.yj N (c6.nI N n) n' a d g c b u (k:Int) t.1 j) (λj u=>T5 b (3+m*k+j) u) hs ω (λn' j u hj hu dZ=> ?_) (λn' u hu=> ?_)
   all_goals unfold c6.yj c6.w7
   ·rw[aw (x:=(j:Int)+1) ω ω,af j]
    exact ax (λ_=>aB ⟨ω,ω⟩ (ag (row_in N ω hm hb hR ω hu _ _ _) λv hv=>dZ v hv)) λ_=>ω
   ·rw[aw (x:=(k:Int)+1) ω ω,af k]
    exact ax (λ_=>ω) λ_=>hr u (T5.mono hu (by rw[sm];omega))
  ·refine eK (λ_=>ω) λ_=>bs (len:=b.1.length) (F:=λn j u=>c6.JW N n a g c b u j) (λj u=>T5 b (3+m*5+j) u) hs ω (λn j u hj hu hr=> ?_) (λn u hu=> ?_)
   all_goals unfold c6.JW c6.P8
   ·have Jj:=hu.1
    have hM:PT b 7 (b.1.getD (j:Int).toNat c5).1:=Ct hR δ ⟨_,qQ hj,rfl⟩
    rw[aw (x:=(j:Int)+1) ω ω,af j]
    have h0:=hr u (T5.mono hu ω)
    exact ax (λ_=>aB ⟨ω,ω⟩ (ag (MM N _) λ_ _=>bG (λ_=>h0) λ_=>ok_eq (λ_=>h0) λ_=>ag (bF N ω hc.2.2.1) λp hp=>ag (ny N ω hm hb.2.2.1 _ _) λq hq=>ag (bF N ω hq) λq hq=>ag (mR N ω ω ω hp hq) λy hy=>ag (yC N hy) λv hv=>bG (λ_=>nil _ δ) λ_=>ax (λ_=>aD (by rw[aK];omega) (hr _ (T5.mono (T5.app hu hM) ω))) λ_=>h0)) λ_=>ω
   ·refine ax (λ_=>ω) λ_=>bs (len:=g.length) (F:=λn j u=>c6.Pm N n a g b u j) (λj u=>T5 b (3+m*5+m+j) u) (T5.mono hu ω) ω (λn j u hj hu hr=> ?_) (λn u hu=> ?_)
    all_goals unfold c6.Pm c6.Mo
    ·have Jj:=hu.1
     rw[aw (x:=(j:Int)+1) ω ω,af j]
     have h0:=hr u (T5.mono hu ω)
     dsimp only
     exact ax (λ_=>aB ⟨ω,ω⟩ (ag (Ip N ω hm hb.2.1 _) λx ⟨hx,hxe⟩=>aB ⟨ω,ω⟩ (aB ⟨ω,ω⟩ (ag (ny N ω hm hb.2.2.1 _ _) λq hq=>oZ (λhf=>bK (λ_=>ax (λ_=>aD (by rw[aK];omega) (hr _ (T5.mono (T5.app hu (vt hR (abd hR.a hxe hf))) ω))) λ_=>h0) λ_=>h0) λ_=>h0)))) λ_=>ω
    ·exact ax (λ_=>ω) λ_=>aq ⟨T5.mono hu ω,λ_=>hMa⟩
 unfold c6 c6.b
 exact bO (eh N hN hm hb) (bG (λ_=>nil _ δ) λ_=>ag (vp N ω ω) λ_ _=>bG (λ_=>nil _ δ) λ_=>ag (Dp N ω ω) λ_ _=>bG (λ_=>nil _ δ) λ_=>bO (pq N (cA hb.1.1 ω) ω _) (ok_eq (λ_=>nil _ δ) λhs=>have hMa:=(wI hR.m a).1 hs;ag (Cp N ω hm hb.2.1 _) λh hh=>bK (λ_=>ag (row_in N ω hm hb hR ω (T5.nil (k:=0)) _ _ _) λl hl=>hj hMa l hl) λ_=>hj hMa [] T5.nil))
theorem XM(N:Nat)(hN:5000000≤N){c:ae}{b:an}{d g:aE}{a:Int}{m:Nat}(h2:200≤m)(hm:m≤40000)(hc:G m aA c)(hb:G m aL b)(hR:RB c b)(hd:L2 m d)(hg:L2 m g)(ha:aF a):Ok (λr=>r.2.2=0→RBs c b r.1) (jc N c b a d g):=by
 have ei: ∀e:Int,e≠0→Ok (λr:an×eo×Int=>r.2.2=0→RBs c b r.1) (some ((ch,(cT,(bq,(bq,(dg,(du,())))))),(R0,e))):=λe h=>aq λh'=>absurd h' h
 unfold jc jc.b
 refine ag (Ok.and (abe N hN ω hc hb hR hd hg) (Qb N hN ω hc hb hd hg ha)) λl ⟨⟨⟨_,SA⟩,hMa⟩,hl2⟩=>ok_eq (λh=>ei _ ω) λ_=>ok_eq (λh=>ei _ ω) λ_=>ag (K9 N hN c ω hb) λq hq=>bK (λh=>ei _ h) λ_=>bK (λh=>ei _ h) λh0=>ag (La N hN (Q:=λx=>G 64 qA x∧PT b x.2.1 x.2.2.1) (λx hx=>hx.1.2.2.2.1) (λx v hx hv=>⟨G5q hx.1 hv,hx.2⟩) (λx hx=>⟨G.mono (m:=0) (bw _) (hl2.2 x hx),SA x hx⟩) hq) λz ⟨⟨hzl,zI⟩,FF⟩=>bK (λh=>ei _ h) λ_=> ?_
 have hMa:=hMa h0
 have hF:db 2 0∧kp b.1 b.2.1 2 0:=Dy δ
 have hj: ∀(p:bM) (r:eo) (t:bh) (x k n:Int),PB b.1 b.2.1 p→p.length≤1000→PT b k n→aF x→Ok (λr=>r.2.2=0→RBs c b r.1) (jc.j26 N b (ch,(cT,(bq,(bq,(dg,(du,())))))) R0 p r t x k n):=λp r t x k n hp CB hk hx=>by
  unfold jc.j26 jc.adX
  exact bO (da N ω hx.1 hx.2) (ag (um N ω (pZ hx) hF hk) λu ⟨hu,Jj⟩=>aD ω (ag (uk N ω ω hb hR SB.nil (PB.app hp hu) (bw _) (by rw[aS];omega)) λw hw=>bK (λh=>ei _ h) λh0=>aq λ_=>hw h0))
 refine bs (len:=z.1.length) (F:=λn i (s:bM×eo×bh)=>jc.KC N n a c b (ch,(cT,(bq,(bq,(dg,(du,())))))) R0 z.1 z.2.1 s.1 s.2.1 s.2.2 i) (s:=(_,(_,_))) (λi s=>(PB b.1 b.2.1 s.1∧s.1.length≤2*i)∧s.2.2.length≤i) ⟨⟨PB.nil,bw _⟩,bw _⟩ ω (λn i s hi hI hr=> ?_) (λn s hI=> ?_)
 all_goals unfold jc.KC jc.JP
 all_goals obtain⟨⟨h4,hp⟩,ht⟩:=hI
 ·obtain⟨hx,hk⟩:=zI _ (qQ (d:=gq) hi)
  have hx:aF (z.1.getD i gq).2.2.2.2.1:=hx.2.2.2.2.1
  rw[aw (x:=(i:Int)+1) ω ω,af i,aG]
  exact ax (λ_=>aB ⟨ω,ω⟩ (ax (λ_=>aB ⟨ω,ω⟩ (aD (by rw[List.length_singleton];omega) (aB ⟨ω,ω⟩ (aB ⟨ω,ω⟩ (aB ⟨ω,ω⟩ (bO (da N ω hx.1 hx.2) (ag (um N ω (pZ hx) hk hF) λu ⟨hu,Jj⟩=>aD ω (hr (_,(_,_)) ⟨⟨PB.app h4 hu,by dsimp only;rw[List.length_append];omega⟩,by dsimp only;rw[List.length_append,List.length_singleton];omega⟩)))))))) λ_=>hr s ⟨⟨h4,ω⟩,ω⟩)) λ_=>ω
 ·dsimp only
  have hS:db 4 0∧kp b.1 b.2.1 4 0:=Dy δ
  exact ax (λ_=>ω) λ_=>bO (da N ω FF.1 FF.2) (ag (um N ω (pZ FF) hS hF) λu ⟨hu,Jj⟩=>aD ω (ag (Is N hN c ω hb) λx hx=>bO (rU N (cA hb.2.1.1 ω) ω _) (bK (λhh=>hj _ _ _ _ _ _ (PB.app h4 hu) (by rw[aS];omega) (vt hR (Ln hh)) hx) λ_=>hj _ _ _ _ _ _ (PB.app h4 hu) (by rw[aS];omega) (Ct hR δ hMa) hx)))
theorem aek{c:ae}{b:an}(hR:RB c b)(w:jC b){a:Int}(ha:0≤a∧lH a c.1.length)(h:(wD c b a).2=0):SB c b.2.1 (wD c b a).1∧(wD c b a).1.length≤65:=by
 have I:=aaV (qR.2 hR) w h
 refine⟨⟨λx hx=>(I.q x hx).1,λx hx=>⟨I.place x hx,?_⟩,I.flat⟩,I.len⟩
 have pos: ∀y∈b.2.2.2.1,dI y.1 0∨rJ b.2.1 y.1:=λy hy=>(hR.sk y hy).1
 unfold wD at hx h
 rw[ak (qR.2 hR)]at hx h
 by_cases h1:a<0
 ·exact absurd ha.1 ω
 by_cases h2:(c.1.length:Int)≤a
 ·have:=ha.2;unfold lH at this;omega
 rw[ah h1,ah h2]at hx h
 by_cases h3:gh b.2.2.2.1 0 a=0
 ·rw[ak h3]at hx;exact nomatch hx
 rw[ah h3]at hx h
 generalize gh b.2.2.2.1 0 a=q at*
 by_cases h4:(kN b.2.2.2.1 a q).2.2=0
 ·rw[ak h4]at hx
  rcases bc.1 hx with rfl|hx
  ·exact⟨.inl rfl,ha.2⟩
  ·obtain⟨p,hp,rfl⟩:=MX hx
   obtain⟨y,hy,e⟩:=cV.1 (List.of_mem_zip hp).2
   refine⟨?_,ha.2⟩
   dsimp only
   rw[←e]
   exact pos y (vn hy).1
 ·rw[ah h4]at hx;exact nomatch hx
theorem ael(N:Nat)(hN:5000000≤N){c:ae}{b:an}{m:Nat}(hm:m≤7000)(hb:G m aL b)(hR:RB c b):Ok (Lk c b) (oO N c b):=by
 have w:=(G.wf ω hb).w
 have hci:c.1.length≤6:=by
  have:=hR.c
  unfold eL at this
  exact(bA (dd.1 this).1).2
 unfold oO oO.b
 refine bO (eh N hN ω hb) (bG (λ_=>Lk.bad δ) λ_=>bs (len:=c.1.length) (F:=λn i s=>oO.l5 N n c b (ch,(cT,(bq,(bq,(dg,(du,())))))) s i) (λi s=>SB c b.2.1 s∧s.length≤65*i) ⟨SB.nil,bw _⟩ ω (λn i s hi hI hr=> ?_) (λn s hI=> ?_))
 all_goals unfold oO.l5 oO.dU
 all_goals obtain⟨i1,i2⟩:=hI
 ·rw[aw (x:=(i:Int)+1) ω ω,af i]
  exact ax (λ_=>bO (aaT N hN c w _) (bK (λh=>Lk.bad h) λh=>have J:=aek hR w ⟨ω,show(i:Int)<c.1.length by omega⟩ h;aD ω (hr _ ⟨SB.app i1 J.1,by rw[aS];omega⟩))) λ_=>ω
 ·exact ax (λ_=>ω) λ_=>ag (uk N ω ω hb hR i1 PB.nil ω (bw _)) λr hr=>aq hr
def oY(c:ae)(m:Nat)(s:aR):Prop:=RB c s.2.2.1∧(1≤s.2.1∧s.2.1≤2000*(m:Int))∧(s.2.2.2.1.2.2.2.2.1.length≤4∧ ∀x∈s.2.2.2.1.2.2.2.2.1,JU c x)∧s.2.2.2.1.2.2.2.2.2.1.length≤12
abbrev SI(c:ae)(m:Nat)(r:aR×dh):Prop:=r.2.1=0→oY c m r.1
theorem oY.up{c:ae}{m:Nat}{s:aR}(h:oY c m s):oY c (m+1) s:=⟨h.1,⟨h.2.1.1,fC h.2.1.2 ω⟩,h.2.2⟩
theorem oY.add{n k:Int}{m:Nat}(h:1≤n∧n≤2000*(m:Int))(hm:m≤999)(hk:0≤k∧k≤2000):1≤W .i64 (n+k)∧W .i64 (n+k)≤2000*((m+1:Nat):Int):=by
 rw[aw ω ω];omega
theorem Vl{c:ae}:([]:aO).length≤4∧ ∀x∈([]:aO),JU c x:=⟨bw _,λx hx=>nomatch hx⟩
theorem iQ{c:ae}{m N:Nat}{e:Int}{x:aR}(h:e=0→oY c m x):Ok (SI c m) ((gd N e).bind λr=>some (x,r)):=by
 unfold gd;exact aq h
theorem et{c:ae}{m N:Nat}{e:Int}{x:aR}(h:e≠0):Ok (SI c m) ((gd N e).bind λr=>some (x,r)):=iQ λh'=>absurd h' h
theorem abf(N:Nat)(hN:200000≤N){s:aR}(hl:s.2.2.1.2.1.length≤100000)(k:Int):Tp N s k=some (eM s.2.2.1.2.1 k).2:=by
 unfold Tp;rw[yh N hl hN];rfl
theorem XN(N:Nat)(hN:200000≤N){s:aR}(hl:s.2.2.1.1.length≤100000)(k:Int):It N s k=some (fY s.2.2.1.1 k):=by
 unfold It;rw[pq N hl hN];rfl
theorem M7(N:Nat)(hN:4000000≤N){c:ae}{s:aR}{m:Nat}(hm:m≤50000)(hs:GS m s)(hR:oY c m s){a b d e q:Int}(hq:aF q)(h1:db a b∧kp s.2.2.1.1 s.2.2.1.2.1 a b)(h2:db d e∧kp s.2.2.1.1 s.2.2.1.2.1 d e):Ok (SI c (m+1)) (Qf N s a b d e q):=by
 unfold Qf
 exact bO (da N ω hq.1 hq.2) (ag (um N hN (pZ hq) h1 h2) λp ⟨hp,CB⟩=>ag (uk N hN hm hs.2.2.1 hR.1 SB.nil hp (bw _) ω) λr hr=>aq λh=>⟨(hr h).1,hR.up.2⟩)
theorem XO(N:Nat)(hN:5000000≤N){c:ae}{s:aR}{e:iD}{m:Nat}(h2:200≤m)(hm:m≤999)(hc:G m aA c)(hs:GS m s)(hR:oY c m s)(he:G 0 me e):Ok (SI c (m+1)) (oP N c s e):=by
 have hhl:=hs.2.2.2.1.2.2.2.2.1.1
 unfold oP oP.b
 generalize ((0:Int),((0:Int),_))=S0
 refine bs (len:=s.2.2.2.1.2.2.2.2.1.length) (F:=λn i (z:aR×aO×Bool×Int)=>oP.l5 N n c z.1 e S0 bb z.2.1 z.2.2.1 z.2.2.2 i) (s:=(_,(_,(_,_)))) (λi z=>(GS m z.1∧oY c m z.1)∧z.1.2.2.2.1.2.2.2.2.1=s.2.2.2.1.2.2.2.2.1∧(G i (.slice fa) z.2.1∧ ∀x∈z.2.1,JU c x)) ⟨⟨hs,hR⟩,rfl,G.nil,λx hx=>nomatch hx⟩ ω (λn i z hi hI hr=> ?_) (λn z hI=> ?_)
 all_goals unfold oP.l5 oP.dU
 ·obtain⟨⟨hz,hzR⟩,hh,ho,hog⟩:=hI
  have xg:=ho.1
  rw[hh,aw (x:=(i:Int)+1) ω ω,af i]
  have hx:G 0 fa (s.2.2.2.1.2.2.2.2.1.getD (i:Int).toNat ba):=G.at hs.2.2.2.1.2.2.2.2.1 _
  have hxg:JU c (s.2.2.2.1.2.2.2.2.1.getD (i:Int).toNat ba):=hR.2.2.1.2 _ (qQ hi)
  have snoc: ∀x:cL,JU c x→ ∀y∈z.2.1++[x],JU c y:=λx hx y hy=>(bn.1 hy).elim (hog y) λhy=>by rw[cw.1 hy];exact hx
  have hxm:G m fa (s.2.2.2.1.2.2.2.2.1.getD (i:Int).toNat ba):=G.mono (bw m) hx
  refine ax (λ_=>aB ⟨ω,ω⟩ (ok_eq (λ_=>ag (Ok.and (U5 N hN h2 ω hc hz.2.2.1 hxm he.2.2.1 he.2.2.2.2.2.2.1 he.2.2.2.2.2.2.2.1) (aed N hN h2 ω hc hz.2.2.1 hzR.1 hxm he.2.2.1 he.2.2.2.2.2.2.1 he.2.2.2.2.2.2.2.1)) λr ⟨⟨BN,z6⟩,U8⟩=>bK (λh=>et h) λh0=> ?_) λ_=>ax (λ_=>aD (by rw[aK];omega) (hr (z.1,(z.2.1++[s.2.2.2.1.2.2.2.2.1.getD (i:Int).toNat ba],z.2.2)) ⟨⟨hz,hzR⟩,hh,G.cat ho (G.one hx (aH 1)),snoc _ hxg⟩)) λ_=>hr z ⟨⟨hz,hzR⟩,hh,G.mono ω ho,hog⟩)) λ_=>ω
  have AG:GS m (z.1.1,(z.1.2.1,(r.1,z.1.2.2.2))):=⟨hz.1,hz.2.1,BN,hz.2.2.2⟩
  have aq5:oY c m (z.1.1,(z.1.2.1,(r.1,z.1.2.2.2))):=⟨(U8 h0).1,hzR.2⟩
  have alF:G 0 fa r.2.1:=z6
  exact ax (λhq=>aD (by rw[aK];omega) (hr ((z.1.1,(z.1.2.1,(r.1,z.1.2.2.2))),(z.2.1++[r.2.1],(true,r.2.1.2.2.2.1))) ⟨⟨AG,aq5⟩,hh,G.cat ho (G.one alF (aH 1)),snoc _ ⟨by rw[(U8 h0).2.1];exact hxg.1,hq,(U8 h0).2.2⟩⟩)) λ_=>hr ((z.1.1,(z.1.2.1,(r.1,z.1.2.2.2))),(z.2.1,(true,r.2.1.2.2.2.1))) ⟨⟨AG,aq5⟩,hh,G.mono ω ho,hog⟩
 ·obtain⟨⟨hz,hzR⟩,hh,ho,hog⟩:=hI
  rw[hh]
  exact ax (λ_=>ω) λ_=>bG (λ_=>et δ) λ_=>aq λ_=>⟨hzR.1,hzR.up.2.1,⟨cA ho.1 hR.2.2.1.1,hog⟩,hzR.2.2.2⟩
theorem abg(N:Nat)(hN:5000000≤N){c:ae}{s:aR}{e:iD}{m:Nat}(h2:200≤m)(hm:m≤999)(hc:G 5 aA c)(hs:GS m s)(hR:oY c m s)(he:G 0 me e):Ok (SI c (m+1)) (oQ N c s e):=by
 have FC:G m aA c:=G.mono ω hc
 have hk:=hs.2.2.2.1
 have hb:=hs.2.2.1
 have up:=hR.up.2
 unfold oQ oQ.b
 refine ok_eq (λ_=> ?_) λ_=>ok_eq (λ_=> ?_) λ_=>ok_eq (λ_=> ?_) λ_=>ok_eq (λ_=> ?_) λ_=>ok_eq (λ_=> ?_) λ_=>ok_eq (λ_=> ?_) λ_=>ok_eq (λ_=> ?_) λ_=>ok_eq (λ_=> ?_) λ_=>iQ λ_=>hR.up
 ·exact ag (aeh N hN ω FC hb hR.1 _ _ _) λr hr=>iQ λh=>⟨hr h,up⟩
 ·exact ag (aei N hN h2 ω FC hb hR.1 _) λr hr=>iQ λh=>⟨(hr h).1,up⟩
 ·exact ag (K5 N hN c hc.2.2.2.2.2.2.1 ω hb _) λr hr=>aq λ_=>⟨hR.1,oY.add hR.2.1 hm (by have:=hr.1.1;omega),⟨hr.1.1,hr.2⟩,hR.2.2.2⟩
 ·exact ag (XO N hN h2 ω FC hs hR he) λr hr=>aq hr
 ·exact ok_eq (λ_=>et δ) λ_=>ag (U7 N hN h2 ω FC hb hs.2.1) λl ⟨hl,awU⟩=>bK (λh=>et h) λ_=>ag (vq N ω hs.1 hc.2.2.2.2.1) λt ht=>bG (λ_=>et δ) λ_=>ag (U6 N hN c ω hb) λu hu=>aq λ_=>⟨hR.1,oY.add hR.2.1 hm ω,Vl,awU⟩
 ·have hx:G 0 fa (s.2.1,(e.2.2.2.2.2.1,(e.2.1,(e.2.2.2.2.2.2.2.1,())))):=⟨hs.2.1,he.2.2.2.2.2.1,he.2.1,he.2.2.2.2.2.2.2.1,trivial⟩
  exact ag (K8 N hN ω ω FC hb hk.2.2.2.2.2.1 hk.2.2.2.2.2.2.1 hx) λr hr=>aq λ_=>⟨hR.1,oY.add hR.2.1 hm δ,hR.2.2⟩
 ·refine ag (Ok.and (Qc N hN c h2 ω hb hk.2.2.2.2.2.1 hk.2.2.2.2.2.2.1) (abc N hN h2 ω hb hR.1 hk.2.2.2.2.2.1 hk.2.2.2.2.2.2.1)) λr ⟨⟨BN,z6⟩,U8⟩=>bK (λh=>et h) λh0=>ag (Qa N ω c h2 ω hk.2.2.2.2.2.2.2.2.1 hk.2.2.2.2.2.2.2.1.1 z6 hk.2.2.2.2.2.2.1) λd hd=> ?_
  generalize ((0:Int),((0:Int),_))=S0
  have J9:=z6.1
  refine bs (len:=r.2.1.length) (F:=λn i q=>oQ.l41 N n _ S0 bb r.2.1 q i) (λ_ _=>True) trivial ω (λn i q hi _ dZ=> ?_) (λn q _=> ?_)
  all_goals unfold oQ.l41 oQ.ad1
  ·rw[aw (x:=(i:Int)+1) ω ω,af i]
   exact ax (λ_=>aB ⟨ω,ω⟩ (ok_eq (λ_=>dZ _ trivial) λ_=>dZ _ trivial)) λ_=>ω
  ·exact ax (λ_=>ω) λ_=>aq λ_=>⟨(U8 h0).1,up.1,hR.2.2.1,(U8 h0).2⟩
 ·exact ag (Ok.and (Lb N hN h2 ω FC hb hk.2.2.2.2.2.2.2.2.1 hk.2.2.2.2.2.2.2.2.2.1 hk.1) (XM N hN h2 ω FC hb hR.1 hk.2.2.2.2.2.2.2.2.1 hk.2.2.2.2.2.2.2.2.2.1 hk.1)) λr ⟨⟨BN,z6⟩,U8⟩=>bK (λh=>et h) λh0=>ag (Ok.and (Vb N hN h2 ω hc BN) (ael N hN ω BN (U8 h0).1)) λb ⟨hb,vx⟩=>bK (λh=>et h) λh1=>ag (Vi N ω (cA hb.1.1 ω) _ _) λu hu=>aq λh=>have B:=(vx h1).1;⟨B.Xz (hu h).1 B.a (hu h).2.1 (λ_ h=>h) λx hx=>(hu h).2.1 _ (B.ma x hx),up.1,Vl,bw _⟩
theorem abh(N:Nat)(hN:5000000≤N){c:ae}{s:aR}{e:iD}{m:Nat}(h2:200≤m)(hm:m≤999)(hc:G 5 aA c)(hs:GS m s)(hR:oY c m s)(he:G 0 me e):Ok (SI c (m+1)) (qX N c s e):=by
 obtain⟨s1,s2,s3,⟨k1,k2,k3,k4,k5,k6,k7,k8,k9,Xv,k11⟩,s5⟩:=hs
 have hs:GS m s:=⟨s1,s2,s3,⟨k1,k2,k3,k4,k5,k6,k7,k8,k9,Xv,k11⟩,s5⟩
 have up:=hR.up.2
 unfold qX qX.b
 have hj: ∀(S0:aR) (z:dh),Ok (SI c (m+1)) (qX.Xn N c s e S0 z):=λS0 z=>by
  unfold qX.Xn qX.P9
  exact ag (Qe N _ _) λ_ _=>bG (λ_=>et δ) λ_=>ag (abg N hN h2 hm hc hs hR he) λr hr=>aq hr
 have mem: ∀{x:aE},G m (.slice kO) x→G m aL ((x,s.2.2.1.2):an):=λh=>⟨h,s3.2⟩
 have rb: ∀{x:aE},dM x=true→(∀n,kb s.2.2.1.1 n→kb x n)→RB c ((x,s.2.2.1.2):an):=λh1 h2=>hR.1.Xz h1 hR.1.a h2 (λ_ h=>h) λx hx=>h2 _ (hR.1.ma x hx)
 have Jt:=λk:Int=>Ok.and (MJ N ω (m:=m) ω s3.1 e.2.1 k) (Vi N ω (cA s3.1.1 ω) e.2.1 k)
 have hd: ∀z:aE×Int,G m (.slice kO) z.1∧(z.2=0→dM z.1=true∧(∀n,kb s.2.2.1.1 n→kb z.1 n)∧kb s.2.2.1.1 e.2.1)→Ok (SI c (m+1)) (cond (aN z.2 0) (cond (aN e.1 11) ((Fg N c (z.1,s.2.2.1.2) e.2.1).bind λr2=>cond (aN s.2.2.2.1.2.1 3) ((qy N s.2.2.2.1.2.2.2.2.2.2.1 e.2.1).bind λr3=>(gd N z.2).bind λr4=>some ((s.1,(s.2.1,(r2.1,((s.2.2.2.1.1,(s.2.2.2.1.2.1,(s.2.2.2.1.2.2.1,(s.2.2.2.1.2.2.2.1,(s.2.2.2.1.2.2.2.2.1,(s.2.2.2.1.2.2.2.2.2.1,(r3,s.2.2.2.1.2.2.2.2.2.2.2))))))),s.2.2.2.2)))),r4)) ((gd N z.2).bind λr5=>some ((s.1,(s.2.1,(r2.1,s.2.2.2))),r5))) ((gd N z.2).bind λr6=>some ((s.1,(s.2.1,((z.1,s.2.2.1.2),s.2.2.2))),r6))) ((gd N z.2).bind λr7=>some ((s.1,(s.2.1,((z.1,s.2.2.1.2),s.2.2.2))),r7))):=λz ⟨hz,hi⟩=>
  ok_eq (λh0=>have B:=rb (hi h0).1 (hi h0).2.1;ok_eq (λ_=>ag (Qz N hN (m:=m) ω (mem hz) B _ ((hi h0).2.1 _ (hi h0).2.2)) λb hb=>ok_eq (λ_=>ag (ED N ω ω k7 _) λl hl=>iQ λ_=>⟨hb,up⟩) λ_=>iQ λ_=>⟨hb,up⟩) λ_=>iQ λ_=>⟨B,up⟩) λh=>et h
 refine ok_eq (λ_=>ag (Jt _) λz hz=>hd z hz) λ_=>ok_eq (λ_=>ag (Jt _) λz hz=>hd z hz) λ_=>ok_eq (λ_=> ?_) λ_=>ok_eq (λ_=> ?_) λ_=>hj _ _
 ·exact ag (pF N ω ω hs _) λ_ _=>ok_eq (λ_=>et δ) λ_=>bK (λ_=>et δ) λ_=>ag (Jt _) λz ⟨hz,hi⟩=>bK (λh=>et h) λh0=>ag (vq N ω s1 hc.2.2.2.1) λt ht=>bG (λ_=>et δ) λ_=>aq λ_=>⟨rb (hi h0).1 (hi h0).2.1,up.1,Vl,bw _⟩
 ·exact ag (pF N ω ω hs _) λ_ _=>ok_eq (λ_=>et δ) λ_=>ag (pF N ω ω hs _) λ_ _=>bK (λ_=>et δ) λ_=>hj _ _
theorem aem(N:Nat)(hN:5000000≤N){c:ae}{s:aR}{e:iD}{m:Nat}(h2:200≤m)(hm:m≤999)(hc:G 5 aA c)(hs:GS m s)(hR:oY c m s)(he:G 0 me e):Ok (SI c (m+1)) (Xw N c s e):=by
 have FC:G m aA c:=G.mono ω hc
 have hb:=hs.2.2.1
 have Xx:=he.2.2.2.2.2.2.1
 have up:=hR.up.2
 have B:=hR.1
 have ml:=cA hb.1.1 (show m≤50000 by omega)
 have al:=cA hb.2.1.1 (show m≤50000 by omega)
 have hW:db 1 0∧kp s.2.2.1.1 s.2.2.1.2.1 1 0:=Dy δ
 have st:=λk:Int=>XN N ω (s:=s) ω k
 have stm: ∀k:Int,fY s.2.2.1.1 k≠0→kb s.2.2.1.1 k:=λk h=>(wI B.m k).1 h
 unfold Xw
 refine ok_eq (λ_=> ?_) λ_=>ok_eq (λ_=> ?_) λ_=>ok_eq (λ_=> ?_) λ_=>ok_eq (λ_=> ?_) λ_=>ok_eq (λ_=> ?_) λ_=>ok_eq (λ_=> ?_) λ_=>ok_eq (λ_=> ?_) λ_=>ok_eq (λ_=> ?_) λ_=>ok_eq (λ_=> ?_) λ_=>ok_eq (λ_=> ?_) λ_=>ok_eq (λ_=> ?_) λ_=>ag (abh N hN h2 hm hc hs hR he) λr hr=>aq hr
 ·exact ag (aa2 N ω ml _) λr hr=>iQ λh=>⟨B.Xz (hr h).1 B.a (hr h).2 (λ_ h=>h) λx hx=>(hr h).2 _ (B.ma x hx),up⟩
 ·exact ag (aec N ω ml al _) λr hr=>iQ λh=>⟨B.Xz B.m (hr h).1 (λ_ h=>h) (hr h).2.1 (hr h).2.2,up⟩
 ·exact bO (abf N ω ω _) (bG (λ_=>et δ) λhf=>ag (M7 N ω ω hs hR Xx hW (vt B ((qC B.a _).1 hf))) λr hr=>aq hr)
 ·exact ag (Qx N hN h2 ω FC hb B he.2.2.1 Xx) λr hr=>iQ λh=>⟨(hr h).1,up⟩
 ·exact bO (st _) (ok_eq (λ_=>et δ) λh0=>bO (st _) (bK (λ_=>et δ) λ_=>ag (M7 N ω ω hs hR Xx hW (Ct B δ (stm _ h0))) λr hr=>aq hr))
 ·exact bO (st _) (ok_eq (λ_=>et δ) λh0=>ag (ny N ω ω hb.2.2.1 _ _) λg hg=>ag (bF N ω hg) λx hx=>ag (rV N ω ω hx) λx hx=>ag (bF N ω Xx) λy hy=>ag (qT N ω ω ω hy hx) λ_ _=>ax (λ_=>et δ) λ_=>ag (M7 N ω ω hs hR Xx hW (Ct B δ (stm _ h0))) λr hr=>aq hr)
 ·exact ag (aa4 N ω al B.ma _ _) λr hr=>iQ λh=>⟨B.Xz B.m (hr h).1 (λ_ h=>h) (hr h).2.1 (hr h).2.2,up⟩
 ·have hx:G 0 nw (s.2.1,(e.2.2.1,(e.2.2.2.1,(e.2.2.2.2.1,(e.2.2.2.2.2.2.1,(e.2.2.2.2.2.2.2.1,())))))):=⟨hs.2.1,he.2.2.1,he.2.2.2.1,he.2.2.2.2.1,Xx,he.2.2.2.2.2.2.2.1,trivial⟩
  exact ag (aa9 N hN h2 ω FC hb B hx) λr hr=>aq λh=>⟨hr h,oY.add hR.2.1 hm δ,hR.2.2⟩
 ·exact bO (abf N ω ω _) (bG (λ_=>et δ) λ_=>ag (XK N ω (cA hb.2.2.2.2.2.1.1 ω) _ _) λr hr=>iQ λh=>⟨B.MT (hr h).1 λx hx=>B.ok x ((hr h).2 x hx),up⟩)
 ·exact ag (Ok.and (EE N hN c h2 ω hb _ he.2.2.2.2.2.2.2.1) (Qy N hN ω hb B _ _)) λr ⟨⟨BN,z6⟩,U8⟩=>ok_eq (λh0=>bK (λ_=>ag (P5 N ω h2 ω hs.2.2.2.1.2.2.2.2.2.2.2.2.2.1 z6) λg hg=>iQ λ_=>⟨U8 h0,up⟩) λ_=>iQ λ_=>⟨U8 h0,up⟩) λh=>et h
 ·exact ag (vq N ω hs.1 Xx) λt ht=>bG (λ_=>et δ) λ_=>aq λ_=>⟨B,up⟩
theorem UH(N:Nat)(hN:5000000≤N){c:ae}{s:aR}{e:iD}{m:Nat}(h2:200≤m)(hm:m≤999)(hc:G 5 aA c)(hs:GS m s)(hR:oY c m s)(he:G 0 me e):Ok (λr=>oY c (m+1) r.1) (Tq N c s e):=by
 have cg: ∀r:dh,Ok (λr:aR×dh=>oY c (m+1) r.1) (some (s,r)):=λr=>aq hR.up
 unfold Tq
 exact bO (mL N ω c) (bG (λ_=>cg _) λ_=>ag (K7 N ω e) λ_ _=>bG (λ_=>cg _) λ_=>ag (aem N hN h2 hm hc hs hR he) λr hr=>bK (λ_=>cg _) λh=>aq (hr h))
theorem F0(N:Nat){k:Nat}{d:aJ}(h:Dk k d)(hk:k≤iA:=by first|decide|(unfold iA;omega)):Ok (λr=>(0≤r.1∧r.1<9223372036854775808)∧Dk (k+1) r.2) (JV N d):=by
 unfold JV
 refine ag (FM N hk h) λr ⟨hr,hd⟩=>ok_eq (λ_=>ω) λ_=> ?_
 have h3:shr .u64 r.1 3=r.1/8:=by rw[L8 ω ω];rfl
 have put: ∀x:Int,0≤x∧x<9223372036854775808→Ok (λr=>(0≤r.1∧r.1<9223372036854775808)∧Dk (k+1) r.2) (some (W .i64 x,r.2)):=λx hx=>aq ⟨by rw[aw ω ω];exact hx,hd⟩
 have awV: ∀y:Int,0<y∧y≤1000000000000→0≤rem (r.1/8) y∧rem (r.1/8) y<9223372036854775808:=λy hy=>by have:=rem_in (x:=r.1/8) (y:=y) ω hy.1;omega
 dsimp only
 rw[h3,aqq]
 repeat' first|exact put _ ω|exact put _ (awV _ δ)|refine ax (λ_=> ?_) (λ_=> ?_)|refine ok_eq (λ_=> ?_) (λ_=> ?_)|(exfalso;omega)
def Dz(x:cL):Prop:=oq x.1 x.2.1 x.2.2.1 x.2.2.2.1
theorem QA{c:ae}:eL c=true↔(1≤c.1.length∧c.1.length≤6)∧(∀x∈c.1,Dz x)∧qO c:=by
 unfold eL
 simp only[bP,fR]
 rw[←iy (d:=ba) (Q:=Dz)];rfl
abbrev Cq(c:ae):Prop:=(G 5 aA c∧1≤c.1.length)∧eL c=true
theorem alM{x:cL}(h:Dz x):G 5 fa x:=by
 have g: ∀a b c d:Int,oq a b c d→aF a∧aF b∧aF c∧aF d:=λa b c d h=>by unfold oq at h;unfold aF;omega
 have:=g _ _ _ _ h
 exact⟨this.1,this.2.1,this.2.2.1,this.2.2.2,trivial⟩
theorem alN{c:ae}(h:qO c)(h1:c.2.1<9223372036854775808)(h2:c.2.2.2.2.2.2.1≤1000):G 5 (.pair (.int .i64) (.pair (.int .i64) (.pair (.int .i64) (.pair (.int .i64) (.pair (.int .i64) (.pair (.int .i64) .unit)))))) c.2:=by
 have g: ∀a b c d e f:Int,ot a b c d e f→a<9223372036854775808→f≤1000→aF a∧aF b∧aF c∧aF d∧aF e∧aF f:=λa b c d e f h h1 h2=>by unfold ot at h;unfold aF;omega
 have:=g _ _ _ _ _ _ h h1 h2
 exact⟨this.1,this.2.1,this.2.2.1,this.2.2.2.1,this.2.2.2.2.1,this.2.2.2.2.2,trivial⟩
theorem WI(N:Nat)(hN:100≤N){d:aJ}(h:Dk 0 d):Ok (λr=>Cq r.1∧Dk 1000 r.2) (wK N d):=by
 unfold wK wK.b
 refine ag (ic N δ h) λr hr=> ?_
 rw[aw (x:=1+r.1) ω ω]
 obtain⟨k,hk⟩: ∃k:Nat,1+r.1=(k:Int):=⟨(1+r.1).toNat,ω⟩
 rw[hk]
 have b1: ∀x y:Int,0≤x∧x<y→y≤1000000000000→1≤W .i64 (1+x)∧W .i64 (1+x)≤y:=λx y h1 h2=>by rw[aw ω ω];omega
 refine wg (F:=λn x (s:aJ×aO)=>wK.l3 N n s.1 (cT,dS) (cT,dS) s.2 x) (λx s=>x+s.2.length=k∧Dk (1+20*s.2.length) s.1∧ ∀y∈s.2,Dz y) (λn x s hI hr=> ?_) (λn s hI=> ?_) k N (r.2,_) ω ⟨rfl,hr.2,λy hy=>nomatch hy⟩
 all_goals unfold wK.l3 wK.m3
 ·obtain⟨hx,hd,hG⟩:=hI
  have Bv: ∀(d:aJ) (x4:cL),Dk (1+20*s.2.length+10) d→Dz x4→Ok (λr=>Cq r.1∧Dk 1000 r.2) (cond (small (s.2.length+[x4].length)) (wK.l3 N n d (cT,dS) (cT,dS) (s.2++[x4]) (W .i64 (((x+1:Nat):Int)-1))) none):=λd x4 hd hx4=>by
   rw[aw (x:=((x+1:Nat):Int)-1) ω ω,show((x+1:Nat):Int)-1=(x:Int)by omega]
   refine aD (by rw[aK];omega) (hr (_,_) ⟨by rw[aS,aK];omega,Dk.mono hd (by rw[aS,aK];omega),λy hy=> ?_⟩)
   rcases bn.1 hy with hy|hy
   ·exact hG y hy
   ·rw[cw.1 hy];exact hx4
  have hj: ∀(d:aJ) (x5:cL),Dk (1+20*s.2.length+6) d→Dz x5→Ok (λr=>Cq r.1∧Dk 1000 r.2) (wK.j8 N (wK.l3 N n) d (cT,dS) (cT,dS) s.2 ((x+1:Nat):Int) x5):=λd x5 hd hx5=>by
   unfold wK.j8 wK.ZO
   refine ag (oB N δ hd) λr hd=>oZ (λ_=> ?_) λ_=>Bv _ _ (Dk.mono hd ω) hx5
   refine ag (F0 N hd) λr ⟨h1,hd⟩=>ok_eq (λ_=>ω) λ_=> ?_
   dsimp only
   have e1:=rem_in h1.1 (show(0:Int)<1000000001 by decide)
   exact ag (F0 N hd) λr ⟨h2,hd⟩=>ok_eq (λ_=>ω) λ_=>have e2:=rem_in h2.1 (show(0:Int)<1000000001 by decide);Bv _ _ (Dk.mono hd ω) ⟨hx5.1,hx5.2.1,⟨e1.1,by dsimp only;omega⟩,⟨e2.1,by dsimp only;omega⟩⟩
  refine ax (λ_=> ?_) λ_=>ω
  refine ag (ic N δ hd) λa ⟨ha,hd⟩=>ag (ic N δ hd) λb ⟨hb,hd⟩=>ag (ic N δ hd) λc ⟨hc,hd⟩=>ag (ic N δ hd) λe ⟨he,hd⟩=>ag (oB N δ hd) λr hd=>oZ (λ_=>ag (F0 N hd) λr ⟨h1,hd⟩=>ok_eq (λ_=>ω) λ_=>hj _ _ (Dk.mono hd ω) ⟨⟨ha.1,by dsimp only;omega⟩,b1 _ _ (rem_in h1.1 δ) δ,⟨hc.1,by dsimp only;omega⟩,⟨he.1,by dsimp only;omega⟩⟩) λ_=>hj _ _ (Dk.mono hd ω) ⟨⟨ha.1,by dsimp only;omega⟩,⟨(b1 _ _ hb δ).1,Int.le_trans (b1 _ _ hb δ).2 δ⟩,⟨hc.1,by dsimp only;omega⟩,⟨he.1,by dsimp only;omega⟩⟩
 ·obtain⟨hx,hd,hG⟩:=hI
  have hl:s.2.length≤4∧1≤s.2.length:=ω
  have hd:Dk 900 s.1:=Dk.mono hd ω
  have fin: ∀(q t p b l m:Int),(0≤q∧q<9223372036854775808)→(0≤t∧t<5)→(0≤p∧p<3)→(0≤b∧b<3)→(0≤l∧l<20)→(0≤m∧m<100)→Cq (s.2,(q,(t,(p,(b,(W .i64 (1+l),(m,()))))))):=λq t p b l m h1 h2 h3 h4 h5 h6=>by
   have h7:=b1 _ _ h5 δ
   have hr:qO (s.2,(q,(t,(p,(b,(W .i64 (1+l),(m,()))))))):=(show ot q t p b (W .i64 (1+l)) m by unfold ot;omega)
   exact⟨⟨⟨⟨by dsimp only;omega,λy hy=>alM (hG y hy)⟩,alN hr h1.2 (show m≤1000 by omega)⟩,hl.2⟩,QA.2 ⟨⟨hl.2,by dsimp only;omega⟩,hG,hr⟩⟩
  refine ax (λ_=>ω) λ_=>ag (ic N δ hd) λa ⟨ha,hd⟩=>ag (ic N δ hd) λb ⟨hb,hd⟩=>ag (ic N δ hd) λc ⟨hc,hd⟩=>ag (ic N δ hd) λe ⟨he,hd⟩=>ag (ic N δ hd) λf ⟨hf,hd⟩=> ?_
  dsimp only
  exact ag (ic N δ hd) λg ⟨hg,hd⟩=>ag (oB N δ hd) λr hd=>oZ (λ_=>ag (F0 N hd) λr ⟨hr,hd⟩=>aq ⟨fin _ _ _ _ _ _ hr hb hc he hf hg,Dk.mono hd δ⟩) λ_=>aq ⟨fin _ _ _ _ _ _ ⟨ha.1,ω⟩ hb hc he hf hg,Dk.mono hd δ⟩
theorem XP{q:Int}(h0:q≠0):fb [((1:Int),((0:Int),((-q:Int),()))),((3:Int),((0:Int),(q,())))]=true∧dI (iu [((1:Int),((0:Int),((-q:Int),()))),((3:Int),((0:Int),(q,())))]) 0:=by
 have ok:fb [((1:Int),((0:Int),((-q:Int),()))),((3:Int),((0:Int),(q,())))]=true:=by
  unfold fb
  rw[eZ]
  refine aV λj hj=> ?_
  match j,hj with
  |0,_=>exact⟨show db 1 0 by decide,show-q≠0 by omega,λh=>absurd h δ⟩
  |1,_=>exact⟨show db 3 0 by decide,h0,λ_=> .inl (show(1:Int)<3 by decide)⟩
 refine⟨ok,?_⟩
 unfold iu
 rw[ak ok]
 show-q+(q+0)=0
 omega
theorem TH(N:Nat)(hN:1000≤N){c:ae}(hc:Cq c)(lq:c.2.1<9223372036854775808):Ok (λr=>RB c r.1∧r.2=0) (jb N c):=by
 obtain⟨⟨hc,EV⟩,hp⟩:=hc
 have hl:=hc.1.1
 obtain⟨h1,h2,h3⟩:=QA.1 hp
 unfold jb jb.b
 have hj: ∀b:an,(∀p:List Int,p.length=c.1.length→fg p=true→RB c (b.1,(b.2.1,(b.2.2.1,(b.2.2.2.1,(p,b.2.2.2.2.2))))))→Ok (λr=>RB c r.1∧r.2=0) (jb.j6 N c (ch,(cT,(bq,(bq,(dg,(du,())))))) b []):=λb hb=>by
  unfold jb.j6 jb.OY
  obtain⟨b1,b2,b3,b4,b5,b6⟩:=b
  refine bs (len:=c.1.length) (F:=λn i (z:an×List Int)=>jb.l7 N n c (ch,(cT,(bq,(bq,(dg,(du,())))))) z.1 z.2 i) (s:=((b1,(b2,(b3,(b4,(b5,b6))))),_)) (λi z=>(z.1.1=b1∧z.1.2.1=b2∧z.1.2.2.1=b3∧z.1.2.2.2.1=b4∧z.1.2.2.2.2.2=b6)∧z.2.length=i∧ ∀x∈z.2,1≤x∧x≤1000000000000) ⟨⟨rfl,rfl,rfl,rfl,rfl⟩,rfl,λx hx=>nomatch hx⟩ ω (λn i z hi hI hr=> ?_) (λn z hI=> ?_)
  all_goals unfold jb.l7 jb.mK
  all_goals obtain⟨hz,hzl,hzp⟩:=hI
  ·rw[aw (x:=(i:Int)+1) ω ω,af i,aG]
   have hx:=(h2 _ (qQ (d:=ba) hi)).2.1
   exact ax (λ_=>aB ⟨ω,ω⟩ (aD (by rw[List.length_singleton];omega) (hr (_,_) ⟨hz,by dsimp only;rw[List.length_append,List.length_singleton];omega,λy hy=>by
    rcases bn.1 hy with hy|hy
    ·exact hzp y hy
    ·rw[cw.1 hy];exact hx⟩))) λ_=>ω
  ·refine ax (λ_=>ω) λ_=>aq ⟨?_,rfl⟩
   obtain⟨z1,z2,z3,z4,z5⟩:=hz
   dsimp only
   rw[z1,z2,z3,z4,z5]
   refine hb _ hzl ?_
   unfold fg
   exact aV ((iy (d:=(0:Int)) (Q:=λx=>1≤x∧x≤1000000000000)).2 hzp)
 have mk: ∀r:au,fb r=true→dI (iu r) 0→(∀x∈r,kp [] [] x.1 x.2.1)→ ∀p:List Int,p.length=c.1.length→fg p=true→RB c (([]:aE),(([]:aO),(r,(([]:au),(p,(([]:aY),())))))):=λr r1 r2 r3 p p1 p2=>
  ⟨hp,(show dM []=true by decide),(show gL []=true by decide),λx hx=>(nomatch hx),r1,r2,(show ox []=true by decide),(show dk []=true by decide),show(p.length:Int)=c.1.length by omega,r3,λx hx=>(nomatch hx),λx hx=>(nomatch hx),p2⟩
 refine bO (mL N ω c) (bG (λh=>by rw[hp]at h;exact nomatch h) λ_=>bK (λh0=>hj _ ?_) λ_=>hj _ ?_)
 ·have hs:0≤c.2.1:=h3.1
  have e: ∀q:Int,0≤q→q<9223372036854775808→W .i64 (0-q)= -q:=λq h1 h2=>by rw[aw ω ω];omega
  have h0:(c.2.1:Int)≠0:=h0
  rw[e _ hs lq]
  obtain⟨ok,tot⟩:=XP h0
  refine mk _ ok tot λx hx=> ?_
  rcases bc.1 hx with rfl|hx
  ·exact⟨λh=>absurd h (show ¬dI 1 5 by decide),λh=>absurd h (show ¬(dI 1 6∨dI 1 7)by decide)⟩
  ·rw[cw.1 hx];exact⟨λh=>absurd h (show ¬dI 3 5 by decide),λh=>absurd h (show ¬(dI 3 6∨dI 3 7)by decide)⟩
 ·exact mk [] δ δ λx hx=>nomatch hx
theorem Pe(N:Nat)(hN:1000≤N){c:ae}(hc:Cq c)(lq:c.2.1<9223372036854775808):Ok (λr:aR×Int=>(GS 5 r.1∧oY c 5 r.1)∧r.2=0) (abi N c):=by
 unfold abi
 exact ag (Ok.and (Tl N ω hc.1.1) (TH N ω hc lq)) λb ⟨nC,vx,hb3⟩=>bK (λh=>absurd hb3 h) λ_=>aq ⟨⟨⟨bY,(show aF 1 from bx),nC,G.zero 5 tc,G.zero 5 ix,trivial⟩,vx,⟨(show(1:Int)≤1 by decide),(show(1:Int)≤2000*((5:Nat):Int)by decide)⟩,Vl,bw _⟩,rfl⟩
theorem ale(N:Nat)(hN:5000000≤N){c:ae}{l:dn}{m:Nat}(hm:m≤700)(hc:Cq c)(lq:c.2.1<9223372036854775808)(hl:wU m l):Ok (λr=>GS 900 r.1∧oY c 900 r.1) (IP N c l):=by
 have Jg:=hl.1
 unfold IP IP.b
 refine ag (Pe N ω hc lq) λb ⟨⟨nC,vx⟩,hb3⟩=>bK (λh=>absurd hb3 h) λ_=>bs (len:=l.length) (F:=λn i (z:aR×au)=>IP.l6 N n l c (Ty.zero dO) z.1 z.2 i) (s:=(_,_)) (λi z=>(GS (200+i) z.1∧oY c (200+i) z.1)∧z.2.length≤i) ⟨⟨G.mono ω nC,vx.1,⟨vx.2.1.1,fC vx.2.1.2 δ⟩,vx.2.2⟩,aH 0⟩ ω (λn i z hi hI hr=> ?_) (λn z hI=> ?_)
 all_goals unfold IP.l6 IP.u7
 all_goals obtain⟨⟨h1,h3⟩,h2⟩:=hI
 ·rw[aw (x:=(i:Int)+1) ω ω,af i]
  have hx:G 0 me (l.getD (i:Int).toNat zz8):=G.at hl _
  exact ax (λ_=>aB ⟨ω,ω⟩ (ag (Ok.and (UG N hN ω ω hc.1.1 h1 hx) (UH N hN ω ω hc.1.1 h1 h3 hx)) λr ⟨BN,z6⟩=>aD (by rw[List.length_singleton];omega) (hr (r.1,z.2++[r.2]) ⟨⟨BN,z6⟩,by dsimp only;rw[List.length_append,List.length_singleton];omega⟩))) λ_=>ω
 ·exact ax (λ_=>ω) λ_=>aq ⟨G.mono ω h1,h3.1,⟨h3.2.1.1,fC h3.2.1.2 ω⟩,h3.2.2⟩
theorem Cq.f{c:ae}(h:Cq c):Cf c∧c.2.1<9223372036854775808:=⟨⟨h.1.1,h.1.2⟩,h.1.1.2.1.2⟩
end VM
end
