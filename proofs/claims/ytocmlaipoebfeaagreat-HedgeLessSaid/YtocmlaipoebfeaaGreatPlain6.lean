/- A part of the proof of HedgeLess of layer 22: what the functions compute, in plain words. -/
import Derived.Test.YtocmlaipoebfeaaGreatPlain5
set_option linter.all false
section
namespace VM
open Go VM.F
abbrev L3(m:Nat)(l:au):Prop:=G m (.slice iT) l
def jZ(m:Nat)(p:bJ):Prop:=p.length≤m∧ ∀y∈p,Bg 8 y.2.2.1
theorem jZ.at{m:Nat}{p:bJ}(h:jZ m p)(i:Nat):Bg 8 (p.getD i ((0:Int),((0:Int),((false,p9),())))).2.2.1:=by
 by_cases hk:i<p.length
 ·rw[aU,bg hk];exact h.2 _ (dx hk)
 ·rw[aU,gH ω];exact Bg.mono Bg.zero δ
theorem jZ.nil{m:Nat}:jZ m []:=⟨bF _,λx hx=>nomatch hx⟩
theorem jZ.app{m n:Nat}{p q:bJ}(h:jZ m p)(h':jZ n q):jZ (m+n) (p++q):=
 ⟨by have:=h.1;have:=h'.1;rw[aM];omega,λy hy=>(bk.1 hy).elim (h.2 y) (h'.2 y)⟩
theorem jZ.mono{m n:Nat}{p:bJ}(h:jZ m p)(hm:m≤n):jZ n p:=⟨ct h.1 hm,h.2⟩
theorem DQ(N:Nat){k:Nat}{u:aJ}(hu:Bg k u):Ok (λr=>aE r.1) (Se N u):=by
 unfold Se
 refine ag (xY N hu) λr h=>bz (λ_=>aq (by unfold aE;decide)) λ_=>ok_eq (λ_=>aq (by unfold aE;decide)) λ_=>aq h
theorem jG{x:Int}(h0: -1000000≤x)(h1:x≤1000000):aE x:=by unfold aE;omega
theorem G3{m:Nat}{a b c:Int}(ha:aE a)(hb:aE b)(hc:aE c):G m iT (a,(b,(c,()))):=⟨ha,hb,hc,trivial⟩
theorem bx:aE 0:=by unfold aE;decide
theorem Wu(N:Nat)(hN:4000000≤N){x k n:Int}{p:bJ}(hx:aE x)(hp:jZ 50000 p):Ok (λr=>aE r.1) (nS N x k n p):=by
 have hl:=hp.1
 refine bn (len:=p.length) (F:=λn' i (s:aJ×Bool)=>nS.l3 N n' x k n p s.1 s.2 i) (s:=(_,_)) (λi s=>Bg (8+i) s.1) (Bg.mono Bg.zero ω) ω (λn' i s hi hI hr=> ?_) (λn' s hI=> ?_)
 all_goals unfold nS.l3 nS.ob
 ·rw[aw (x:=(i:Int)+1) ω ω,af i]
  have h1:=hr (s.1,s.2) (Bg.mono hI ω)
  repeat' first|exact h1|refine aA ⟨ω,ω⟩ ?_|refine ax (λ_=> ?_) (λ_=> ?_)|refine ok_eq (λ_=> ?_) (λ_=> ?_)|(exfalso;omega)|exact ag (kY N hN ω hI (Bg.mono (hp.at _) ω)) λr h=>hr (r,true) h
 ·refine ax (λ_=>ω) λ_=>bz (λ_=>aq hx) λ_=>ag (bu N hN hx) λr h=>ag (kY N hN ω hI (Bg.mono h ω)) λr h=>ag (xY N h) λr h=>aq h
theorem ade(N:Nat)(hN:4000000≤N){l:au}{p:bJ}{m:Nat}(hm:m≤50000)(hl:L3 m l)(hp:jZ 50000 p):Ok (λr=>L3 200 r.1) (dH N l p):=by
 have H8:=hl.1
 refine kX (len:=8) (F:=λn k (s:au×Int)=>dH.l4 N n l p s.1 s.2 k) (λi s=>L3 (25*i) s.1∧0≤s.2) (λn i s hi hI hr=> ?_) (λn s hI=> ?_) 8 N 1 (_,_) ω ω ω ⟨G.nil,dP 0⟩
 all_goals unfold dH.l4 dH.eN
 ·refine ew (λ_=> ?_) (λ_=>ω)
  refine bn (len:=25) (F:=λn' j (s:au×Int)=>dH.l7 N (dH.l4 N n) n' l p s.1 s.2 (i:Int) j) (s:=s) (λj s=>L3 (25*i+j) s.1∧0≤s.2) hI ω (λn' j s hj hI eF=> ?_) (λn' s hI=> ?_)
  all_goals unfold dH.l7 dH.p6
  ·have lj: ∀(k x:Int),0≤k→aE x→Ok (λr=>L3 200 r.1) (dH.Lp N (dH.l4 N n) (dH.l7 N (dH.l4 N n) n') l p s.1 k (i:Int) (j:Int) x):=λk x hk hx=>by
    unfold dH.Lp dH.A7
    rw[aw (x:=(j:Int)+1) ω ω,af j]
    have hs:=hI.1.1
    refine ag (Wu N hN hx hp) λr h=>bz (λ_=>aq G.nil) λ_=>bt (λ_=>aF (by rw[aK];omega) (eF (_,k) ⟨G.app hI.1 (G3 (jG ω ω) (jG ω ω) h),hk⟩)) λ_=>eF (s.1,k) ⟨G.mono ω hI.1,hk⟩
   have h0:=lj s.2 0 hI.2 bx
   have TN:=hI.2
   repeat' first|exact h0|refine aA ⟨ω,ω⟩ ?_|refine ax (λ_=> ?_) (λ_=> ?_)|refine ew (λ_=> ?_) (λ_=> ?_)|refine ok_eq (λ_=> ?_) (λ_=> ?_)|(exfalso;omega)|exact lj _ _ (by rw[aw (x:=s.2+1) ω ω];omega) (G.at hl _).2.2.1
  ·rw[aw (x:=(i:Int)+1) ω ω,af i]
   exact ew (λ_=>ω) λ_=>hr s ⟨G.mono ω hI.1,hI.2⟩
 ·exact ew (λ_=>ω) λ_=>aq (G.mono δ hI.1)
theorem SE(N:Nat)(hN:4000000≤N){l t:au}{m:Nat}(hm:m≤50000)(hl:L3 m l)(ht:L3 50000 t):Ok (λr=>L3 200 r.1) (cA N l t):=by
 have H8:=hl.1
 have htl:=ht.1
 refine bn (len:=25) (F:=λn k (s:au×Int)=>cA.l4 N n l t s.1 s.2 k) (s:=(_,_)) (λi s=>L3 (6*i) s.1∧0≤s.2) ⟨G.nil,dP 0⟩ ω (λn i s hi hI hr=> ?_) (λn s hI=> ?_)
 all_goals unfold cA.l4 cA.eN
 ·refine ew (λ_=> ?_) (λ_=>ω)
  refine bn (len:=6) (F:=λn' j (s:au×Int)=>cA.l7 N (cA.l4 N n) n' l t s.1 s.2 (i:Int) j) (s:=s) (λj s=>L3 (6*i+j) s.1∧0≤s.2) hI ω (λn' j s hj hI eF=> ?_) (λn' s hI=> ?_)
  all_goals unfold cA.l7 cA.p6
  ·have lj: ∀(k x:Int),0≤k→aE x→Ok (λr=>L3 200 r.1) (cA.Lp N (cA.l4 N n) (cA.l7 N (cA.l4 N n) n') l t s.1 k (i:Int) (j:Int) x false):=λk x hk hx=>by
    unfold cA.Lp cA.A7
    have hs:=hI.1.1
    have AK: ∀y:Int,aE y→Ok (λr=>L3 200 r.1) (cond (!aN y 0) (cond (small (s.1.length+[(((i:Int),((j:Int),(y,()))):cK)].length)) (cA.l7 N (cA.l4 N n) n' l t (s.1++[((i:Int),((j:Int),(y,())))]) k (i:Int) (W .i64 ((j:Int)+1))) none) (cA.l7 N (cA.l4 N n) n' l t s.1 k (i:Int) (W .i64 ((j:Int)+1)))):=λy hy=>by
     rw[aw (x:=(j:Int)+1) ω ω,af j]
     exact bt (λ_=>aF (by rw[aK];omega) (eF (_,k) ⟨G.app hI.1 (G3 (jG ω ω) (jG ω ω) hy),hk⟩)) λ_=>eF (s.1,k) ⟨G.mono ω hI.1,hk⟩
    refine bn (len:=t.length) (F:=λKg u (z:aJ×Bool)=>cA.JG N (cA.l4 N n) (cA.l7 N (cA.l4 N n) n') Kg l t s.1 k (i:Int) (j:Int) x z.2 z.1 u) (s:=(_,_)) (λu z=>Bg (3+u) z.1) (Bg.mono Bg.zero ω) ω (λKg u z hu hz ZC=> ?_) (λKg z hz=> ?_)
    all_goals unfold cA.JG cA.IM
    ·rw[aw (x:=(u:Int)+1) ω ω,af u]
     have h1:=ZC (z.1,z.2) (Bg.mono hz ω)
     repeat' first|exact h1|refine aA ⟨ω,ω⟩ ?_|refine ax (λ_=> ?_) (λ_=> ?_)|refine ok_eq (λ_=> ?_) (λ_=> ?_)|(exfalso;omega)|exact ag (bu N hN (G.at ht _).2.2.1) λr h=>ag (kY N hN ω hz (Bg.mono h ω)) λr h=>ZC (r,true) h
    ·exact ax (λ_=>ω) λ_=>sq (λ_=>ag (bu N hN hx) λr h=>ag (kY N hN ω hz (Bg.mono h ω)) λr h=>ag (DQ N h) λr h=>bz (λ_=>aq G.nil) λ_=>AK _ h) λ_=>AK _ hx
   have h0:=lj s.2 0 hI.2 bx
   have TN:=hI.2
   repeat' first|exact h0|refine aA ⟨ω,ω⟩ ?_|refine ax (λ_=> ?_) (λ_=> ?_)|refine ew (λ_=> ?_) (λ_=> ?_)|refine ok_eq (λ_=> ?_) (λ_=> ?_)|(exfalso;omega)|exact lj _ _ (by rw[aw (x:=s.2+1) ω ω];omega) (G.at hl _).2.2.1
  ·rw[aw (x:=(i:Int)+1) ω ω,af i]
   exact ax (λ_=>ω) λ_=>hr s ⟨G.mono ω hI.1,hI.2⟩
 ·exact ew (λ_=>ω) λ_=>aq (G.mono δ hI.1)
theorem G.iU{m:Nat}:G m aL (cg,(cT,(bq,(bq,(de,(dk,())))))):=G.zero m aL
theorem tO(N:Nat)(hN:4000000≤N){b:an}{s:au}{p:bJ}{m:Nat}(h2:200≤m)(hm:m≤50000)(hb:G m aL b)(hs:L3 50000 s)(hp:jZ 50000 p):Ok (λr=>G m aL r.1) (BG N b s p):=by
 unfold BG
 exact ag (SE N hN hm hb.2.2.2.1 hs) λr h=>bz (λ_=>aq G.iU) λ_=>ag (ade N hN hm hb.2.2.1 hp) λr' h'=>bz (λ_=>aq G.iU) λ_=>aq ⟨hb.1,hb.2.1,G.mono h2 h',G.mono h2 h,hb.2.2.2.2⟩
end VM
end
section
namespace VM
open Go VM.F
theorem bw{α β:Type}{P:β→Prop}{o:Option α}{r:α}{f:α→Option β}(h:o=some r)(hf:Ok P (f r)):Ok P (o.bind f):=by rw[h];exact hf
theorem G.wf{m:Nat}(hm:m≤50000){b:an}(h:G m aL b):Bt b:=by
 obtain⟨h1,h2,h3,h4,h5,h6,_⟩:=h
 exact⟨⟨ct h1.1 ω,ct h2.1 ω,ct h3.1 ω,ct h4.1 ω,ct h5.1 ω,ct h6.1 ω,λx hx=>(h3.2 x hx).2.2.1,λx hx=>(h4.2 x hx).2.2.1⟩,ct h3.1 ω,ct h4.1 ω⟩
theorem dS(N:Nat)(hN:5000000≤N){c:ae}{b:an}{m:Nat}(hm:m≤50000)(h:G m aL b):cN N c b=some (cY c b):=OE N hN (G.wf hm h).w
theorem adf{x:Int}(h:cC x):aE x:=by unfold cC at h;unfold aE;omega
theorem IT(N:Nat)(hN:4000000≤N)(t:iP)(p:Int):Ok (λr=>jZ 2 r.1) (Sl N t p):=by
 unfold Sl
 refine bw (yw N t) (bz (λ_=>aq jZ.nil) λht=>bw (iL N p) (bz (λ_=>aq jZ.nil) λ_=>ag (bu N hN (gE _)) λa ha=>ag (bu N hN ?_) λq hq=>ag (lU N hN ω ω ha hq) λx hx=>ag (E2 N hx) λ_ _=>ok_eq (λ_=>aq jZ.nil) λ_=> ?_))
 ·have:=bA ht
  unfold ea jy at this
  exact fU δ this.2.2.2.2.1.1 |> λh=>⟨h,Ae this.2.2.2.2.1.2 δ⟩
 ·unfold LD
  have hr: ∀a:Int,Ok (λ_=>True) (cond (aN a 0) (some ((2:Int),(0:Int))) (some ((5:Int),a))):=λa=>ok_eq (λ_=>aq trivial) λ_=>aq trivial
  refine ag (hr _) λ_ _=>ag (hr _) λ_ _=>ag (rr N hN ω hx) λy hy=>aq ⟨aH 2,λz hz=> ?_⟩
  rcases aZ.1 hz with rfl|hz
  ·exact Bg.mono hx ω
  ·rw[cr.1 hz];exact Bg.mono hy ω
theorem Pu(N:Nat)(hN:200000≤N){b:an}{m:Nat}(hm:m≤50000)(h:G m aL b)(id:Int):Ok (λ_=>True) (Lv N b id):=nW (u7 N b (G.wf hm h).w.a hN id) trivial
theorem Kh(N:Nat)(hN:5000000≤N)(c:ae){b:an}{l:bs}{m:Nat}(h2:200≤m)(hm:m≤50000)(hb:G m aL b):Ok (λr=>G m aL r.1) (gz N c b l):=by
 unfold gz gz.b
 refine bw (dS N hN hm hb) (bz (λ_=>aq G.iU) λhB=>ax (λ_=>aq G.iU) λhl=> ?_)
 obtain⟨hp,_⟩:=dy hB
 refine bn (len:=l.length) (F:=λn i (_:Unit)=>gz.l4 N n l c b (cg,(cT,(bq,(bq,(de,(dk,())))))) i) (s:=()) (λi _=> ∀j,j<i→ea (l.getD j gu)) (λj hj=>ω) ω (λn i _ hi hI hr=> ?_) (λn _ hI=> ?_)
 all_goals unfold gz.l4 gz.eN
 ·rw[aw (x:=(i:Int)+1) ω ω,af i]
  refine ax (λ_=>aA ⟨ω,ω⟩ (bw (yw N _) (bz (λ_=>aq G.iU) λht=>hr () λj hj=> ?_))) λ_=>ω
  by_cases e:j=i
  ·rw[e];exact bA ht
  ·exact hI j ω
 ·refine ax (λ_=>ω) λ_=> ?_
  refine bn (len:=l.length) (F:=λn i (s:au×bJ)=>gz.CE N n l c b (cg,(cT,(bq,(bq,(de,(dk,())))))) s.1 s.2 i) (s:=(_,_)) (λi s=>L3 (2*i) s.1∧jZ (2*i) s.2) ⟨G.nil,jZ.nil⟩ ω (λn i s hi hJ hr=> ?_) (λn s hJ=> ?_)
  all_goals unfold gz.CE gz.zL
  ·have ht:=hI i hi
   unfold ea jy at ht
   have Tv:=hJ.1.1
   have TN:=hJ.2.1
   have g64: ∀x:Int,0≤x∧x≤1000000→aE x:=λx h=>jG ω ω
   dsimp only
   rw[aw (x:=(i:Int)+1) ω ω,af i,aG]
   refine ax (λ_=>aA ⟨ω,ω⟩ (ag (Pu N ω hm hb _) λ_ _=>bz (λ_=>aq G.iU) λ_=>ag (Pu N ω hm hb _) λ_ _=>bz (λ_=>aq G.iU) λ_=>ew (λ_=>aq G.iU) λfj=>aF ?_ (aA ⟨ht.2.2.2.1.1,ω⟩ (ag (IT N ω _ _) λr h=>aF ?_ (hr (_,_) ⟨?_,jZ.mono (jZ.app hJ.2 h) ω⟩))))) λ_=>ω
   ·rw[aR,aK];omega
   ·have:=h.1;omega
   ·have hq:aE (l.getD i gu).2.2.2.1:=⟨fU δ ht.2.2.2.2.1.1,Ae ht.2.2.2.2.1.2 δ⟩
    have nD:aE (l.getD i gu).2.2.1:=g64 _ ⟨ht.2.2.2.1.1,fU (pA ht.2.2.2.1.2) δ⟩
    have h1:=G.app (G.app hJ.1 (G3 (g64 _ ⟨ht.1.1,fU ht.1.2 δ⟩) nD hq)) (G3 (g64 _ ⟨ht.2.1.1,fU ht.2.1.2 δ⟩) nD (gE (0-(l.getD i gu).2.2.2.1)))
    rw[bH]at h1
    exact G.mono ω h1
  ·exact ax (λ_=>ω) λ_=>ag (tO N ω h2 hm hb (G.mono ω hJ.1) (jZ.mono hJ.2 ω)) λr h=>aq h
end VM
end
section
namespace VM
open Go VM.F
def IU(k:Nat)(l:pW):Prop:= ∀x∈l,Bg k x
theorem IU.mono{j k:Nat}{l:pW}(h:IU j l)(hk:j≤k):IU k l:=λx hx=>Bg.mono (h x hx) hk
theorem IU.at{k:Nat}{l:pW}(h:IU k l)(h1:1≤k)(i:Nat):Bg k (l.getD i (false,p9)):=by
 by_cases hk:i<l.length
 ·rw[aU,bg hk];exact h _ (dx hk)
 ·rw[aU,gH ω];exact Bg.mono Bg.zero h1
theorem IU.set{k:Nat}{l:pW}{x:aJ}(h:IU k l)(hx:Bg k x)(i:Nat):IU k (l.set i x):=λy hy=>by
 rcases uu hy with hy|rfl
 ·exact h y hy
 ·exact hx
theorem IU.rep{k n:Nat}(h:1≤k):IU k (List.replicate n (false,p9)):=λx hx=>by
 rw[(List.mem_replicate.1 hx).2];exact Bg.mono Bg.zero h
theorem adg(N:Nat)(hN:5000000≤N)(c:ae){b:an}{m:Nat}(hm:m≤50000)(hb:G m aL b):Ok (λr=>(r.2=0→cY c b=true∧r.1.length=4)∧IU 20 r.1) (sE N c b):=by
 unfold sE sE.b
 have w:=(G.wf hm hb).w
 refine bw (dS N hN hm hb) (bz (λ_=>aq ⟨λh=>absurd h δ,λx hx=>nomatch hx⟩) λhB=>adb ⟨ω,ω,ω⟩ ?_)
 obtain⟨hp,EK⟩:=dy hB
 obtain⟨h6,Xq⟩:=pP (g5 hB)
 refine bn (len:=c.1.length) (F:=λn i (s:pW)=>sE.l5 N n c b s i) (λi s=>s.length=4∧IU (8+i) s) ⟨cQ ..,IU.rep ω⟩ ω (λn i s hi hI hr=> ?_) (λn s hI=> ?_)
 all_goals unfold sE.l5 sE.eA
 ·have hk:=Xq i hi
  have hl:=hI.1
  rw[aw (x:=(i:Int)+1) ω ω,af i,aG]
  have in1: ∀{x y:Option (pW×Int)},Ok (λr=>(r.2=0→cY c b=true∧r.1.length=4)∧IU 20 r.1) x→Ok (λr=>(r.2=0→cY c b=true∧r.1.length=4)∧IU 20 r.1) (cond (aY (c.1.getD i aW).1 s.length) x y):=λh=>aA ⟨hk.1,Ae hk.2 (show(3:Int)<(s.length:Int)by omega)⟩ h
  exact ax (λ_=>aA ⟨ω,ω⟩ (in1 (bw (EY N w.s ω 0 (i:Int)) (ag (bu N ω (So w.qs 0 (i:Int))) λa ha=>aA ⟨ω,ω⟩ (ag (bu N ω (adf (sr EK ω))) λp hp=>ag (lU N ω ω ω ha hp) λx hx=>ag (kY N ω ω (IU.at hI.2 ω _) (Bg.mono hx ω)) λy hy=>in1 (hr _ ⟨by rw[bM];exact hl,IU.set (IU.mono hI.2 ω) hy _⟩)))))) λ_=>ω
 ·exact ax (λ_=>ω) λ_=>aq ⟨λ_=>⟨hB,hI.1⟩,IU.mono hI.2 ω⟩
theorem Ki(N:Nat)(hN:5000000≤N)(c:ae)(hc:aE (xJ c)){b:an}{m:Nat}(hm:m≤50000)(hb:G m aL b)(next:Int):Ok (λr=>G 4 (.slice eu) r.1) (wj N c b next):=by
 unfold wj wj.b
 refine ag (adg N hN c hm hb) λz hz=>bt (λ_=>aq G.nil) λh0=>ax (λ_=>aq G.nil) λh1=>ax (λ_=>aq G.nil) λh2=> ?_
 obtain⟨hB,hl4⟩:=hz.1 h0
 obtain⟨hp,EK⟩:=dy hB
 obtain⟨h6,Xq⟩:=pP (g5 hB)
 refine bn (len:=4) (F:=λn k (s:Int×aO)=>wj.l6 N n s.1 c b z.1 s.2 k) (s:=(_,_)) (λk s=>G k (.slice eu) s.2∧next≤s.1∧s.1≤next+k) ⟨G.nil,ω,ω⟩ ω (λn k s hk hI hr=> ?_) (λn s hI=> ?_)
 all_goals unfold wj.l6 wj.tX
 ·have Tv:=hI.1.1
  have TN:=hI.2
  rw[aw (x:=(k:Int)+1) ω ω,af k]
  have tt:=hr s ⟨G.mono ω hI.1,ω,ω⟩
  refine ax (λ_=>bw (Gx N ω c ω (k:Int)) (aA ⟨ω,ω⟩ (ag (xX N ω ω (IU.at hz.2 ω _)) λu hu=>ok_eq (λ_=>tt) λiI=>ag (bu N ω hc) λv hv=>ag (qv N ω ω ω hu hv) λ_ _=>ew (λ_=>tt) λ_=> ?_))) λ_=>ω
  have aqj:cj c (k:Int)≠[]:=λe=>iI (by rw[e];rfl)
  have hh:0≤(cj c (k:Int)).getD 0 0∧(cj c (k:Int)).getD 0 0<(c.1.length:Int):=by
   have h1:=aqj
   unfold cj at h1 ⊢
   rw[g5 hB,ah rfl]at h1 ⊢
   have:=tD h1
   omega
  have hl0:0<(cj c (k:Int)).length:=o7.2 aqj
  have hpx:=sr EK (i:=((cj c (k:Int)).getD 0 0).toNat) ω
  have hj: ∀q:Int,aE q→Ok (λr=>G 4 (.slice eu) r.1) (wj.ze N (wj.l6 N n) s.1 c b z.1 s.2 (k:Int) (cj c (k:Int)) q):=λq hq=>by
   unfold wj.ze wj.s0
   rw[aw (x:=(k:Int)+1) ω ω,af k,aw (x:=s.1+1) ω ω]
   have AK: ∀d:Int,aE d→Ok (λr=>G 4 (.slice eu) r.1) (cond (small (s.2.length+[((s.1,((cj c (k:Int)).getD 0 0,(d,(q,())))):bT)].length)) (wj.l6 N n (s.1+1) c b z.1 (s.2++[(s.1,((cj c (k:Int)).getD 0 0,(d,(q,()))))]) ((k+1:Nat):Int)) none):=λd hd=>
    aF (by rw[List.length_singleton];omega) (hr (_,_) ⟨G.app hI.1 ⟨by show aE s.1;unfold aE;omega,(show aE ((cj c (k:Int)).getD 0 0)from jG ω ω),hd,hq,trivial⟩,by dsimp only;omega,by dsimp only;omega⟩)
   exact ok_eq (λ_=>tt) λ_=>aA ⟨ω,ω⟩ (aA ⟨ω,ω⟩ (ag (E2 N (IU.at hz.2 ω _)) λ_ _=>ax (λ_=>AK 2 (jG ω ω)) λ_=>AK 1 (jG ω ω)))
  have hb9:aE 1000000000:=by unfold aE;decide
  refine aA ⟨ω,ω⟩ (aA ⟨hh.1,by show(cj c (k:Int)).getD 0 0<_;omega⟩ ?_)
  obtain⟨a,rfl,ha⟩:=hu
  have av5:=hpx
  unfold cC at av5
  rw[show(0:Int).toNat=0 from rfl]
  refine bw (da N ω ω ω) (bw (TY N hN ω (Fit.mono ha ω) ((Fit.i64 ω ω).mono ω)) (bw (tY N _) (bz (λ_=>hj _ hb9) λ_=>ax (λ_=>hj _ hb9) λ_=>hj _ (SD _))))
 ·exact ax (λ_=>ω) λ_=>aq hI.1
end VM
end
section
namespace VM
open Go VM.F
theorem Hj(N:Nat)(hN:200000≤N){l:bm}(hl:l.length≤100000)(a:Int):Ok (λr=>L3 6 r) (g8 N l a):=by
 unfold g8 g8.b
 refine bn (len:=6) (F:=λn k (s:au)=>g8.l3 N n l a s k) (λk s=>L3 k s) G.nil ω (λn k s hk hI hr=> ?_) (λn s hI=> ?_)
 all_goals unfold g8.l3 g8.ob
 ·have hs:=hI.1
  refine ax (λ_=> ?_) λ_=>ω
  refine bn (len:=l.length) (F:=λn' i (x:cK)=>g8.l7 N (g8.l3 N n) n' l a s (k:Int) x i) (λi x=>G 6 iT x) (G3 (jG ω ω) bx bx) ω (λn' i x hi hx eF=> ?_) (λn' x hx=> ?_)
  all_goals unfold g8.l7 g8.p6
  ·rw[aw (x:=(i:Int)+1) ω ω,af i]
   have h1:=eF x hx
   repeat' first|exact h1|refine aA ⟨ω,ω⟩ ?_|refine ax (λ_=> ?_) (λ_=> ?_)|refine bt (λ_=> ?_) (λ_=> ?_)|refine ok_eq (λ_=> ?_) (λ_=> ?_)|(exfalso;omega)|exact eF (_,(_,(_,_))) ⟨hx.1,gE _,hx.2.2.1,trivial⟩|exact eF (_,(_,(_,_))) ⟨hx.1,hx.2.1,gE _,trivial⟩
  ·rw[aw (x:=(k:Int)+1) ω ω,af k]
   have h1:=hr s (G.mono ω hI)
   have h2:=hr (s++[x]) ⟨by rw[aM,aK];omega,λy hy=>by
    rcases bk.1 hy with hy|hy
    ·exact G.mono ω (hI.2 y hy)
    ·rw[cr.1 hy];exact⟨hx.1,hx.2.1,hx.2.2.1,trivial⟩⟩
   repeat' first|exact h1|exact h2|refine aF (by rw[aK];omega) ?_|refine ax (λ_=> ?_) (λ_=> ?_)|(exfalso;omega)
 ·exact ax (λ_=>ω) λ_=>aq hI
theorem Kj(N:Nat)(hN:200000≤N)(c:ae){l:au}(hl:l.length≤100000):Ok (λ_=>True) (qY N c l):=by
 unfold qY qY.b
 refine bw (nM N ω c) (bz (λ_=>aq trivial) λ_=>mv (len:=l.length) (F:=λn i=>qY.l5 N n l c 33000000000 i) ω (λn i hi hr=> ?_) λn=> ?_)
 all_goals unfold qY.l5 qY.eA
 ·rw[aw (x:=(i:Int)+1) ω ω,af i]
  dsimp only
  repeat' first|exact hr|exact aq trivial|refine aA ⟨ω,ω⟩ ?_|refine aA (by rw[aw (x:=(i:Int)-1) ω ω];omega) ?_|refine ax (λ_=> ?_) (λ_=> ?_)|refine ew (λ_=> ?_) (λ_=> ?_)|refine ok_eq (λ_=> ?_) (λ_=> ?_)|(exfalso;omega)
 ·exact ax (λ_=>ω) λ_=>aq trivial
theorem L0{k:Nat}(h:1≤k):Bg k (false,(([]:List Int),())):=Bg.mono Bg.zero h
theorem ZD(N:Nat)(hN:4000000≤N)(c:ae){l:aD}{o:au}{m:Nat}(hm:m≤50000)(hl:G m (.slice jH) l)(ho:L3 m o)(k:Int):Ok (λr=>Bg 3 r.1) (jm N c l o k):=by
 have h1:=hl.1
 have h2:=ho.1
 unfold jm jm.b
 refine bw (Bj N ω c ω) (bz (λ_=>aq (L0 ω)) λ_=>ag (Kj N ω c ω) λ_ _=>bz (λ_=>aq (L0 ω)) λ_=>ax (λ_=>aq (L0 ω)) λ_=>ew (λ_=>aq (L0 ω)) λ_=> ?_)
 refine bn (len:=l.length) (F:=λn i (q:aJ)=>jm.l7 N n l o k (false,(([]:List Int),())) q (false,(([]:List Int),())) (false,(([]:List Int),())) i) (λ_ q=>Bg 2 q) (L0 ω) ω (λn i q hi hq hr=> ?_) (λn q hq=> ?_)
 all_goals unfold jm.l7 jm.p6
 ·rw[aw (x:=(i:Int)+1) ω ω,af i]
  exact ax (λ_=>aA ⟨ω,ω⟩ (ok_eq (λ_=>aA ⟨ω,ω⟩ (ag (bu N hN (G.at hl _).2.1) λr h=>hr r h)) λ_=>hr q hq)) λ_=>ω
 ·refine ax (λ_=>ω) λ_=> ?_
  refine bn (len:=o.length) (F:=λn i (z:aJ×aJ)=>jm.lx N n o k (false,(([]:List Int),())) q z.1 z.2 i) (s:=(_,_)) (λ_ z=>Bg 2 z.1∧Bg 2 z.2) ⟨L0 ω,L0 ω⟩ ω (λn i z hi hz hr=> ?_) (λn z hz=> ?_)
  all_goals unfold jm.lx jm.kt
  ·rw[aw (x:=(i:Int)+1) ω ω,af i]
   exact ax (λ_=>aA ⟨ω,ω⟩ (ok_eq (λ_=>aA ⟨ω,ω⟩ (ag (bu N hN (G.at ho _).2.1) λr h=>aA ⟨ω,ω⟩ (ag (bu N hN (G.at ho _).2.2.1) λr' h'=>hr (r,r') ⟨h,h'⟩))) λ_=>hr z hz)) λ_=>ω
  ·exact ax (λ_=>ω) λ_=>ag (kY N hN ω hq hz.1) λx hx=>ag (xX N hN ω hx) λx hx=>ag (yA N hN ω hq hz.2) λy hy=>ag (xX N hN ω hy) λy hy=>ag (qv N hN ω ω hy hx) λ_ _=>ax (λ_=>aq hy) λ_=>aq hx
theorem Pv(N:Nat)(hN:4000000≤N){c:ae}{l:aD}{o:au}{m:Nat}(hm:m≤50000)(hc:G m aB c)(hl:G m (.slice jH) l)(ho:L3 m o):Ok (λr=>Bg 60000 r.1) (qZ N c l o):=by
 have h1:=hl.1
 have h2:=ho.1
 have h3:=hc.1.1
 unfold qZ qZ.b
 refine bw (Bj N ω c ω) (bz (λ_=>aq (L0 ω)) λ_=>ag (Kj N ω c ω) λ_ _=>bz (λ_=>aq (L0 ω)) λ_=> ?_)
 refine bn (len:=c.1.length) (F:=λn i (t:aJ)=>qZ.l5 N n l o c (false,(([]:List Int),())) t i) (λi t=>Bg (8+i) t) (L0 ω) ω (λn i t hi ht hr=> ?_) (λn t ht=> ?_)
 all_goals unfold qZ.l5 qZ.eA
 ·rw[aw (x:=(i:Int)+1) ω ω,af i]
  exact ax (λ_=>ag (ZD N hN c hm hl ho _) λx hx=>aA ⟨ω,ω⟩ (ag (bu N hN (G.at hc.1 _).2.2.1) λr h=>ag (lU N hN ω ω hx h) λy hy=>ag (kY N hN ω ht (Bg.mono hy ω)) λz hz=>hr z hz)) λ_=>ω
 ·exact ax (λ_=>ω) λ_=>aq (Bg.mono ht ω)
theorem aqk{m:Nat}{l:au}(h:L3 m l)(a:Int):G m (.slice jH) (posOf l a):=by
 refine⟨ct (JM a l) h.1,λy hy=> ?_⟩
 unfold posOf at hy
 split at hy
 ·obtain⟨x,hx,_,e⟩:=jk hy
  rw[e];exact⟨(h.2 x hx).2.1,(h.2 x hx).2.2.1,trivial⟩
 ·nomatch hy
theorem Pw(N:Nat)(hN:200000≤N){l:au}{m:Nat}(hm:m≤50000)(h:L3 m l)(a:Int):Ok (G m (.slice jH)) (y9 N l a):=nW (Y6 N (ct h.1 ω) hN a) (aqk h a)
theorem Hk(N:Nat)(hN:4000000≤N){c:ae}{b:an}{l:bm}{m:Nat}(h2:200≤m)(hm:m≤40000)(hc:G m aB c)(hb:G m aL b)(hl:l.length≤1000)(a:Int):Ok (Bg 60000) (ZE N c b a l):=by
 have ho:=hb.2.2.2.2.2.1.1
 unfold ZE
 refine aF (by rw[ck];omega) ?_
 dsimp only
 rw[cW]
 exact aF ω (ag (Pw N ω ω hb.2.2.2.1 a) λr h=>ag (Hj N ω (by rw[aM];omega) a) λo h'=>ag (Pv N hN ω hc h (G.mono ω h')) λx hx=>aq hx)
end VM
end
section
namespace VM
open Go VM.F
theorem adh(N:Nat)(hN:4000000≤N){o:c7}{m:Nat}(ho:G m lE o)(a:Int):Ok (λr=>Bg 4 r.1) (adi N o a):=by
 unfold adi
 have hw: ∀x:Int,Ok (λr:aJ×Int=>Bg 4 r.1) ((jD N o.2.2.2.2.1).bind λr5=>(jD N (W .i64 x)).bind λr6=>(jE N r5 r6).bind λr7=>some (r7,(0:Int))):=λx=>
  ag (bu N hN ho.2.2.2.2.1) λr h=>ag (bu N hN (gE _)) λr' h'=>ag (lU N hN ω ω h h') λy hy=>aq hy
 exact bw (Ba N o) (bz (λ_=>aq (L0 ω)) λ_=>bw (iL N a) (bz (λ_=>aq (L0 ω)) λ_=>ok_eq (λ_=>ax (λ_=>aq (L0 ω)) λ_=>hw _) λ_=>ax (λ_=>aq (L0 ω)) λ_=>hw _))
theorem akI{m:Nat}{a:aO}(h:G m (.slice eu) a)(id:Int):G m eu (et a id).1:=by
 unfold et
 split
 ·have: ∀l:aO,(∀x∈l,G m eu x)→G m eu (si id l).1:=by
   intro l
   induction l with
   |nil=>intro _;exact G.zero m eu
   |cons x t ih=>
    intro hx
    rw[mD]
    split
    ·exact hx x (bh ..)
    ·exact ih λy hy=>hx y (a7 _ hy)
  exact this a h.2
 ·exact G.zero m eu
theorem yB(N:Nat)(hN:200000≤N){a:aO}{m:Nat}(hm:m≤50000)(h:G m (.slice eu) a)(id:Int):Ok (λr=>G m eu r.1) (El N a id):=nW (Be N (ct h.1 ω) hN id) (akI h id)
theorem oY(N:Nat)(hN:200000≤N){a:aD}{m:Nat}(hm:m≤50000)(h:G m (.slice jH) a)(id:Int):Ok (λ_=>True) (Bc N a id):=nW (sj N (ct h.1 ω) hN id) trivial
theorem mH(N:Nat)(hN:200000≤N){l:au}{m:Nat}(hm:m≤50000)(h:L3 m l)(a b:Int):Ok aE (wF N l a b):=nW (Sk N (ct h.1 ω) hN a b) (OM (λx hx=>(h.2 x hx).2.2.1) a b)
theorem Hl(N:Nat)(hN:200000≤N){a:aO}{m:Nat}(hm:m≤50000)(h:G m (.slice eu) a)(id:Int):Ok (λr=>G m eu r.1∧r=et a id) (El N a id):=by
 obtain⟨r,e,hr⟩:=yB N hN hm h id
 exact⟨r,e,hr,nr (e.symm.trans (Be N (ct h.1 ω) hN id))⟩
theorem BH(N:Nat)(hN:5000000≤N){c:ae}{b:an}{o:c7}{m:Nat}(h2:200≤m)(hm:m≤40000)(hc:G m aB c)(hb:G m aL b)(ho:G m lE o):Ok (λe=>e=0→jb o∧(et b.2.1 o.2.1).2=true∧oc o.2.2.1 c.1.length) (ZF N c b o):=by
 have bad: ∀e:Int,e≠0→Ok (λe:Int=>e=0→jb o∧(et b.2.1 o.2.1).2=true∧oc o.2.2.1 c.1.length) (some e):=λe h=>aq λh'=>absurd h' h
 have Cc:=hb.2.2.2.2.2.1.1
 unfold ZF
 refine bw (dS N hN ω hb) (bz (λ_=>bad _ δ) λhB=>bw (Ba N o) (bz (λ_=>bad _ δ) λhr0=>ag (Hl N ω ω hb.2.1 _) λx ⟨hx,hx2⟩=>bz (λ_=>bad _ δ) λhf=>ag (oY N ω ω hb.1 _) λ_ _=>bt (λ_=>bad _ δ) λ_=>ew (λ_=>bad _ δ) λhi=>aF (by rw[ck];omega) ?_))
 have hr:=bA hr0
 unfold jb tZ at hr
 obtain⟨hp,_⟩:=dy hB
 dsimp only
 rw[cW]
 exact aF (by rw[aK];omega) (ag (Pw N ω ω hb.2.2.2.1 _) λr h=>ag (Hj N ω (by rw[aM,aK];omega) _) λq h'=>ag (ZD N ω c ω h (G.mono ω h') _) λt ht=>ag (bu N ω hx.2.2.2.1) λv hv=>ag (qv N ω ω ω ht hv) λ_ _=>ax (λ_=>bad _ δ) λ_=>aA ⟨hr.2.2.1.1,by rw[hp];exact hi⟩ (ag (adh N ω ho _) λe he=>ag (mH N ω ω hb.2.2.1 _ _) λg hg=>ag (bu N ω hg) λy hy=>ag (yA N ω ω (Bg.mono hy ω) he) λz hz=>ag (Hk N ω h2 hm hc hb (by rw[aK];omega) _) λu hu=>ag (qv N ω ω ω hz hu) λ_ _=>ax (λ_=>bad _ δ) λ_=>aq λ_=>⟨bA hr0,by rw[←hx2];exact hf,hi⟩))
theorem Uz(N:Nat)(hN:5000000≤N){c:ae}{b:an}{h:bT}{a q p:Int}{m:Nat}(h2:200≤m)(hm:m≤40000)(hc:G m aB c)(hb:G m aL b)(hh:G m eu h)(ha:aE a)(hq:aE q)(hp:aE p):Ok (λr=>G m aL r.1∧G m eu r.2.1) (qw N c b h a q p):=by
 have ho:G m lE (h.1,(a,(h.2.1,(W .i64 (3-h.2.2.1),(q,(p,())))))):=⟨hh.1,ha,hh.2.1,gE _,hq,hp,trivial⟩
 have dT: ∀e:Int,Ok (λr:an×bT×Int=>G m aL r.1∧G m eu r.2.1) (some ((cg,(cT,(bq,(bq,(de,(dk,())))))),(aW,e))):=λe=>aq ⟨G.iU,G.zero m eu⟩
 unfold qw qw.b
 have hj: ∀t:iP,Ok (λr=>G m aL r.1∧G m eu r.2.1) (qw.j14 N q c b h (cg,(cT,(bq,(bq,(de,(dk,())))))) aW t):=λt=>by
  unfold qw.j14 qw.adj
  exact ag (Kh N hN c h2 ω hb) λr hr=>bt (λ_=>dT _) λ_=>aq ⟨hr,hh.1,hh.2.1,hh.2.2.1,gE _,trivial⟩
 exact bw (dS N hN ω hb) (bz (λ_=>dT _) λ_=>bw (sD N h) (bz (λ_=>dT _) λ_=>ax (λ_=>dT _) λ_=>ax (λ_=>dT _) λ_=>ax (λ_=>dT _) λ_=>ax (λ_=>dT _) λ_=>ax (λ_=>dT _) λ_=>ax (λ_=>dT _) λ_=>ax (λ_=>dT _) λ_=>ag (BH N hN h2 hm hc hb ho) λe _=>bt (λ_=>dT _) λ_=>ok_eq (λ_=>hj _) λ_=>hj _))
end VM
end
section
namespace VM
open Go VM.F
def Dk(k:Nat)(d:bf):Prop:=(∀x∈(d.1:List Int),0≤x∧x<18446744073709551616)∧0≤(d.2.1:Int)∧(d.2.1:Int)≤k
theorem Dk.mono{j k:Nat}{d:bf}(h:Dk j d)(hk:j≤k):Dk k d:=⟨h.1,h.2.1,fU h.2.2 ω⟩
def ua:Nat:=1000000000
theorem Lq(N:Nat){k:Nat}{d:bf}(hk:k≤ua)(h:Dk k d):Ok (λr=>(0≤r.1∧r.1<18446744073709551616)∧Dk (k+1) r.2) (F42 N d):=by
 obtain⟨h1,h2,h3⟩:=h
 unfold ua at hk
 unfold F42
 have hw: ∀i:Int,0≤i→i≤(k:Int)→0≤W .i64 (i+1)∧W .i64 (i+1)≤((k+1:Nat):Int):=λi h0 h1=>by rw[aw ω ω];omega
 have hd:Dk (k+1) (d.1,(W .i64 (d.2.1+1),d.2.2)):=⟨h1,hw _ h2 h3⟩
 have hg: ∀(l:List Int) (i:Int),(∀x∈l,0≤x∧x<18446744073709551616)→0≤l.getD i.toNat 0∧l.getD i.toNat 0<18446744073709551616:=λl i hl=>by
  by_cases hi:i.toNat<l.length
  ·rw[aU,bg hi];exact hl _ (dx hi)
  ·rw[aU,gH ω];decide
 exact ax (λfj=>aA ⟨h2,fj⟩ (aq ⟨hg _ _ h1,hd⟩)) λ_=>aq ⟨(show(0:Int)≤0∧(0:Int)<18446744073709551616 by decide),hd⟩
theorem rem_in{x y:Int}(h0:0≤x)(hy:0<y):0≤rem x y∧rem x y<y:=by
 unfold rem;rw[iH]
 exact⟨Int.tmod_nonneg _ h0,Fp _ hy⟩
theorem kV(N:Nat){k:Nat}{d:bf}{n:Int}(hn:0<n∧n<1000000)(h:Dk k d)(hk:k≤ua:=by first|decide|(unfold ua;omega)):Ok (λr=>(0≤r.1∧r.1<n)∧Dk (k+1) r.2) (uh N d n):=by
 unfold uh
 refine ag (Lq N hk h) λr hr=> ?_
 dsimp only
 rw[cz (x:=n) ω ω]
 have:=rem_in hr.1.1 hn.1
 refine ok_eq (λ_=>ω) λ_=>aq ⟨?_,hr.2⟩
 dsimp only
 rw[aw ω ω]
 exact this
theorem zA(N:Nat){k:Nat}{d:bf}{n:Int}(hn:0<n∧n<1000000)(h:Dk k d)(hk:k≤ua:=by first|decide|(unfold ua;omega)):Ok (λr=>Dk (k+1) r.2) (F54 N d n):=by
 unfold F54
 exact ag (kV N hn h hk) λr hr=>aq hr.2
theorem E3(N:Nat){k:Nat}{d:bf}(h:Dk k d)(hk:k≤ua:=by first|decide|(unfold ua;omega)):Ok (λr=>aE r.1∧Dk (k+1) r.2) (MM N d):=by
 unfold MM
 refine ag (Lq N hk h) λr hr=>ok_eq (λ_=>ω) λ_=> ?_
 dsimp only
 repeat' first|exact aq ⟨gE _,hr.2⟩|refine ax (λ_=> ?_) (λ_=> ?_)|refine ok_eq (λ_=> ?_) (λ_=> ?_)|(exfalso;omega)
theorem ZG{x y:Int}(hy:0<y)(hy1:y<9223372036854775808):aE (rem x y):=by
 unfold rem;rw[iH]
 have h1:=Fp x hy
 have h2: -y<x.tmod y:=by
  have:=Fp (-x) hy
  rw[Int.neg_tmod]at this;omega
 unfold aE;omega
theorem CF{x y:Int}(hx:aE x)(hy:aE y):aE (mx x y):=by unfold mx;rw[iH];split<;>assumption
theorem adk{x y:Int}(hx:aE x)(hy:aE y):aE (mn x y):=by unfold mn;rw[iH];split<;>assumption
theorem SF{x n:Int}(h:0≤x∧x<n)(hn:n≤1000000):aE x:=jG ω ω
abbrev Xp(m:Nat)(l:jF):Prop:=G m (.slice pI) l
theorem En{k a b c d e f g:Int}{m:Nat}(h0:aE k)(h1:aE a)(h2:aE b)(h3:aE c)(h4:aE d)(h5:aE e)(h6:aE f)(h7:aE g):G m pI (k,(a,(b,(c,(d,(e,(f,(g,())))))))):=⟨h0,h1,h2,h3,h4,h5,h6,h7,trivial⟩
theorem bD{x:Int}(h: -1000000≤x∧x≤1000000:=by decide):aE x:=jG h.1 h.2
theorem L1(N:Nat){k:Nat}{d:bf}(h:Dk k d)(c:ae){i:Int}(hi:0≤i∧i<(c.1.length:Int))(hc:c.1.length≤5)(hk:k≤100000000):Ok (λr=>G 0 pI r.1∧Dk (k+5) r.2) (Wv N d c i):=by
 unfold Wv
 have hb:aE 1000000000000:=by unfold aE;decide
 have nD:aE i:=jG ω ω
 exact aA hi (ag (kV N δ h) λa ⟨_,hd⟩=>ag (zA N δ hd) λr hd=>sq (λ_=>ag (E3 N hd) λr ⟨_,hd⟩=>ok_eq (λ_=>ω) λ_=>aq ⟨En bD bD bD nD bD bD bD (gE _),Dk.mono hd ω⟩) λ_=>aq ⟨En bD bD bD nD bD bD bD (CF bD (adk hb (gE _))),Dk.mono hd ω⟩)
theorem Px(N:Nat){k:Nat}{d:bf}(h:Dk k d)(c:ae)(Xd:1≤c.1.length)(hc:c.1.length≤5)(hk:k≤100000000):Ok (λr=>G 0 pI r.1∧Dk (k+10) r.2) (ZH N d c):=by
 unfold ZH
 have hb:aE 1000000000000:=by unfold aE;decide
 refine ag (kV N ⟨ω,ω⟩ h) λa ⟨ha,hd⟩=>ag (kV N δ hd) λb ⟨fg,hd⟩=> ?_
 dsimp only
 refine ag (kV N δ hd) λe ⟨he,hd⟩=>ag (kV N δ hd) λf ⟨hf,hd⟩=>aA ha (ag (kV N δ hd) λg ⟨_,hd⟩=>ag (zA N δ hd) λr hd=>sq (λ_=>ag (E3 N hd) λr ⟨_,hd⟩=>ok_eq (λ_=>ω) λ_=>ag (E3 N hd) λr' ⟨_,hd⟩=>ok_eq (λ_=>ω) λ_=>aq ⟨En bD bD (gE _) (SF ha ω) (gE _) bD (gE _) (gE _),Dk.mono hd ω⟩) λ_=>aq ⟨En bD bD (gE _) (SF ha ω) (gE _) bD (gE _) (CF bD (adk hb (gE _))),Dk.mono hd ω⟩)
end VM
end
section
namespace VM
open Go VM.F
structure Cf(c:ae):Prop where
 g:G 5 aB c
 n:1≤c.1.length
theorem Py(N:Nat){k:Nat}{d:bf}(h:Dk k d){c:ae}(hc:Cf c)(hk:k≤10000000):Ok (λr=>G 0 pI r.1∧Dk (k+20) r.2) (ZI N d c):=by
 have hn:=hc.n
 have hl:=hc.g.1.1
 unfold ZI
 refine ag (kV N δ h) λa ⟨ha,hd⟩=> ?_
 dsimp only
 refine ag (kV N δ hd) λb ⟨hb,hd⟩=>ag (kV N ⟨ω,ω⟩ hd) λi ⟨hi,hd⟩=>ag (kV N δ hd) λe ⟨he,hd⟩=> ?_
 have hz: ∀(e:g9) (j:Nat) (d:bf),G 0 pI e→Dk j d→j≤k+20→Ok (λr=>G 0 pI r.1∧Dk (k+20) r.2) (some (e,d)):=λe j d he hd hj=>aq ⟨he,Dk.mono hd hj⟩
 have hs: ∀{f:Int×bf→Option (g9×bf)},(∀x d,aE x→Dk (k+5) d→Ok (λr=>G 0 pI r.1∧Dk (k+20) r.2) (f (x,d)))→Ok (λr=>G 0 pI r.1∧Dk (k+20) r.2) ((MM N e.2).bind f):=λhf=>ag (E3 N hd) λr ⟨h1,h2⟩=>hf r.1 r.2 h1 (Dk.mono h2 ω)
 have hm: ∀{n:Int} {f:Int×bf→Option (g9×bf)},0<n∧n<1000000→(∀x d,Dk (k+5) d→Ok (λr=>G 0 pI r.1∧Dk (k+20) r.2) (f (x,d)))→Ok (λr=>G 0 pI r.1∧Dk (k+20) r.2) ((uh N e.2 n).bind f):=λhn hf=>ag (kV N hn hd) λr ⟨h1,h2⟩=>hf r.1 r.2 (Dk.mono h2 ω)
 repeat' first
  |refine ok_eq (λ_=> ?_) (λ_=> ?_)
  |(exfalso;omega)
  |(refine hs λx d' hx hd'=> ?_;dsimp only)
  |(refine hm δ λx d' hd'=> ?_;dsimp only)
  |(refine hz _ _ _ ?_ hd ω;refine⟨?_,?_,?_,?_,?_,?_,?_,?_,trivial⟩<;>first|exact gE _|exact bx|exact CF hx bD|exact ZG δ δ|exact(G.at hc.g.1 _).2.1)
  |(refine hz _ _ _ ?_ hd' ω;refine⟨?_,?_,?_,?_,?_,?_,?_,?_,trivial⟩<;>first|exact gE _|exact bx|exact CF hx bD|exact ZG δ δ|exact(G.at hc.g.1 _).2.1)
  |(refine hz _ _ _ ?_ h2 ω;refine⟨?_,?_,?_,?_,?_,?_,?_,?_,trivial⟩<;>first|exact gE _|exact bx|exact CF hx bD|exact ZG δ δ|exact(G.at hc.g.1 _).2.1)
  |exact ag (L1 N hd c hi hl ω) λr ⟨h1,h2⟩=>hz _ _ _ h1 h2 ω
  |exact ag (Px N hd c hn hl ω) λr ⟨h1,h2⟩=>hz _ _ _ h1 h2 ω
  |refine aA hi ?_
  |(refine ag (kV N δ hd') λr ⟨h1,h2⟩=> ?_)
end VM
end
section
namespace VM
open Go VM.F
theorem G.cat{m n:Nat}{e:Ty}{l k:List e.den}(h:G m (.slice e) l)(h':G n (.slice e) k):G (m+n) (.slice e) (l++k):=
 ⟨by have:=h.1;have:=h'.1;rw[aM];omega,λy hy=>by
  rcases bk.1 hy with hy|hy
  ·exact G.mono ω (h.2 y hy)
  ·exact G.mono ω (h'.2 y hy)⟩
theorem G.two{m:Nat}{e:Ty}{a b:e.den}(ha:G 0 e a)(hb:G 0 e b)(hm:2≤m):G m (.slice e) [a,b]:=
 ⟨hm,λy hy=>by
  rcases aZ.1 hy with rfl|hy
  ·exact G.mono ω ha
  ·rw[cr.1 hy];exact G.mono ω hb⟩
theorem G.one{m:Nat}{e:Ty}{a:e.den}(ha:G 0 e a)(hm:1≤m):G m (.slice e) [a]:=
 ⟨hm,λy hy=>by rw[cr.1 hy];exact G.mono ω ha⟩
theorem tC{α:Type}(a b:α):[a,b].length=2:=rfl
theorem SG(N:Nat)(hN:100≤N){k:Nat}{d:bf}(h:Dk k d)(c:ae)(hk:k≤10000000):Ok (λr=>Xp 40 r.1∧Dk (k+50) r.2) (fM N d c):=by
 have s64: ∀i:Nat,i<100→aE (i:Int):=λi hi=>jG ω ω
 unfold fM fM.b
 refine kX (len:=5) (F:=λn i (s:bf×jF)=>fM.l3 N n s.1 s.2 i) (λi s=>Dk (k+2*i) s.1∧Xp (3*i) s.2) (λn i s hi hI hr=> ?_) (λn s hI=> ?_) 5 N 1 (d,[]) ω ω ω ⟨Dk.mono h ω,G.nil⟩
 all_goals unfold fM.l3 fM.ob
 ·have hl:=hI.2.1
  have nD:=s64 i ω
  dsimp only
  rw[aw (x:=(i:Int)+1) ω ω,af i]
  have h2:Xp (3*i+2) (s.2++[((1:Int),((i:Int),eT)),((2:Int),((i:Int),((i:Int),((0:Int),((1:Int),a6)))))]):=G.cat hI.2 (G.two (En bD nD bx bx bx bx bx bx) (En bD nD nD bx bD bx bx bx) ω)
  have hl2:=h2.1
  exact ew (λ_=>aF (by rw[tC];omega) (ag (zA N δ hI.1 (by unfold ua;omega)) λr hd=>bz (λ_=>ag (kV N δ hd (by unfold ua;omega)) λr ⟨_,hd⟩=>aF (by rw[aK];omega) (hr (_,_) ⟨Dk.mono hd ω,G.mono ω (G.cat h2 (G.one (m:=1) (En bD nD bx bx bx bx (gE _) bx) ω))⟩)) λ_=>hr (_,_) ⟨Dk.mono hd ω,G.mono ω h2⟩)) λ_=>ω
 ·refine ew (λ_=>ω) λ_=> ?_
  refine kX (len:=8) (F:=λn i (s:bf×jF)=>fM.l9 N n s.1 s.2 i) (λi s=>Dk (k+10+i) s.1∧Xp (15+i) s.2) (λn i s hi hI hr=> ?_) (λn s hI=> ?_) 8 N 5 s ω ω ω ⟨Dk.mono hI.1 ω,G.mono ω hI.2⟩
  all_goals unfold fM.l9 fM.xG
  ·have hl:=hI.2.1
   dsimp only
   rw[aw (x:=(i:Int)+1) ω ω,af i]
   exact ew (λ_=>ag (kV N δ hI.1 (by unfold ua;omega)) λr ⟨_,hd⟩=>aF (by rw[aK];omega) (hr (_,_) ⟨Dk.mono hd ω,G.mono ω (G.cat hI.2 (G.one (m:=1) (En bD (gE _) (s64 i ω) bx bD bx bx bx) ω))⟩)) λ_=>ω
  ·refine ew (λ_=>ω) λ_=> ?_
   refine kX (len:=8) (F:=λn i (s:bf×jF)=>fM.oi N n s.1 s.2 i) (λi s=>Dk (k+18+2*i) s.1∧Xp (23+2*i) s.2) (λn i s hi hI hr=> ?_) (λn s hI=> ?_) 8 N 1 s ω ω ω ⟨Dk.mono hI.1 ω,G.mono ω hI.2⟩
   all_goals unfold fM.oi fM.mF
   ·have hl:=hI.2.1
    have nD:=s64 i ω
    dsimp only
    rw[aw (x:=(i:Int)+1) ω ω,af i]
    exact ew (λ_=>ag (kV N δ hI.1 (by unfold ua;omega)) λr ⟨_,hd⟩=>ag (kV N δ hd (by unfold ua;omega)) λr ⟨_,hd⟩=>aF (by rw[tC];omega) (hr (_,_) ⟨Dk.mono hd ω,G.mono ω (G.cat hI.2 (G.two (m:=2) (En bD bx nD bx bx bx (gE _) bx) (En bD bx nD bx bx bx (gE _) bx) ω))⟩)) λ_=>ω
   ·exact ew (λ_=>ω) λ_=>aq ⟨G.mono ω hI.2,Dk.mono hI.1 ω⟩
theorem ZJ{x:Nat}(h:x<1000000):W .i64 (((x+1:Nat):Int)-1)=(x:Int):=by rw[aw ω ω];omega
theorem VN(N:Nat)(hN:1000≤N){k:Nat}{d:bf}(h:Dk k d){c:ae}(hc:Cf c){Oy:Int}(hm:0≤Oy∧Oy≤100)(hk:k≤10000):Ok (λr=>Xp 200 r.1∧Dk (k+3000) r.2) (E4 N d c Oy):=by
 have hn:=hc.n
 have hl:=hc.g.1.1
 unfold E4 E4.b
 rw[aw (x:=Oy+1) ω ω]
 refine ag (SG N ω h c ω) λr ⟨zS,hd⟩=>ag (kV N ⟨ω,ω⟩ hd (by unfold ua;omega)) λz ⟨hz,hd⟩=> ?_
 obtain⟨j,hj⟩: ∃j:Nat,z.1=(j:Int):=⟨z.1.toNat,ω⟩
 rw[hj]
 refine ET (F:=λn x (s:bf×jF)=>E4.l3 N n s.1 c s.2 x) (λx s=>x≤100∧Dk (k+100+25*(100-x)) s.1∧Xp (40+(100-x)) s.2) (λn x s hI hr=> ?_) (λn s hI=> ?_) j N (z.2,r.1) ω ⟨ω,Dk.mono hd ω,G.mono ω zS⟩
 all_goals unfold E4.l3 E4.ob
 ·obtain⟨hx,hd,hG⟩:=hI
  have hs:=hG.1
  rw[ZJ ω]
  have put: ∀(e:g9) (d:bf) (q:Nat),G 0 pI e→Dk q d→q≤k+100+25*(100-(x+1))+25→Ok (λr=>Xp 200 r.1∧Dk (k+3000) r.2) (cond (small (s.2.length+[e].length)) (E4.l3 N n d c (s.2++[e]) (x:Int)) none):=λe d q he hd hq=>aF (by rw[aK];omega) (hr (_,_) ⟨ω,Dk.mono hd ω,G.mono ω (G.cat hG (G.one (m:=1) he ω))⟩)
  exact ax (λ_=>ag (kV N δ hd (by unfold ua;omega)) λa ⟨_,hd⟩=>ok_eq (λ_=>ag (Py N hd hc ω) λr ⟨h1,h2⟩=>put _ _ _ h1 h2 ω) λ_=>ok_eq (λ_=>ag (kV N ⟨ω,ω⟩ hd (by unfold ua;omega)) λb ⟨hb,hd⟩=>ag (L1 N hd c hb hl ω) λr ⟨h1,h2⟩=>put _ _ _ h1 h2 ω) λ_=>ag (Px N hd c hn hl ω) λr ⟨h1,h2⟩=>put _ _ _ h1 h2 ω) λ_=>ω
 ·exact ax (λ_=>ω) λ_=>aq ⟨G.mono ω hI.2.2,Dk.mono hI.2.1 ω⟩
theorem Oz(N:Nat)(hN:1000≤N){k:Nat}{d:bf}(h:Dk k d){c:ae}(hc:Cf c)(hk:k≤100000):Ok (λr=>Xp 3 r.1∧Dk (k+100) r.2) (Es N d c):=by
 have hn:=hc.n
 have hl:=hc.g.1.1
 unfold Es Es.b
 refine ag (kV N δ h (by unfold ua;omega)) λz ⟨hz,hd⟩=> ?_
 obtain⟨j,hj⟩: ∃j:Nat,z.1=(j:Int):=⟨z.1.toNat,ω⟩
 rw[hj]
 refine ET (F:=λn x (s:bf×jF)=>Es.l3 N n s.1 c s.2 x) (λx s=>x≤3∧Dk (k+1+25*(3-x)) s.1∧Xp (3-x) s.2) (λn x s hI hr=> ?_) (λn s hI=> ?_) j N (z.2,[]) ω ⟨ω,Dk.mono hd ω,G.nil⟩
 all_goals unfold Es.l3 Es.ob
 ·obtain⟨hx,hd,hG⟩:=hI
  have hs:=hG.1
  rw[ZJ ω]
  have put: ∀(e:g9) (d:bf) (q:Nat),G 0 pI e→Dk q d→q≤k+1+25*(3-(x+1))+25→Ok (λr=>Xp 3 r.1∧Dk (k+100) r.2) (cond (small (s.2.length+[e].length)) (Es.l3 N n d c (s.2++[e]) (x:Int)) none):=λe d q he hd hq=>aF (by rw[aK];omega) (hr (_,_) ⟨ω,Dk.mono hd ω,G.mono ω (G.cat hG (G.one (m:=1) he ω))⟩)
  exact ax (λ_=>ag (zA N δ hd (by unfold ua;omega)) λa hd=>sq (λ_=>ag (kV N ⟨ω,ω⟩ hd (by unfold ua;omega)) λb ⟨hb,hd⟩=>ag (L1 N hd c hb hl ω) λr ⟨h1,h2⟩=>put _ _ _ h1 h2 ω) λ_=>ag (Py N hd hc ω) λr ⟨h1,h2⟩=>put _ _ _ h1 h2 ω) λ_=>ω
 ·exact ax (λ_=>ω) λ_=>aq ⟨G.mono ω hI.2.2,Dk.mono hI.2.1 ω⟩
end VM
end
section
namespace VM
open Go VM.F
theorem fh{α:Type}{r:α}:Ok (λ_=>True) (some r):=aq trivial
theorem Ww(N:Nat)(k:Int):Ok (λs=>ByteArray.size s≤100) (adl N k):=by
 unfold adl
 repeat' first|refine ok_eq (λ_=> ?_) (λ_=> ?_)|exact aq δ
theorem Wx(N:Nat)(k f:Int):Ok (λ_=>True) (adm N k f):=by
 unfold adm akJ akK
 repeat' first|refine ok_eq (λ_=> ?_) (λ_=> ?_)|exact fh|refine ag (Q:=λ_=>True) ?_ λ_ _=>fh
theorem ZK(N:Nat)(e:g9)(f:Int):Ok (λ_=>True) (adn N e f):=by
 unfold adn
 repeat' first|refine ok_eq (λ_=> ?_) (λ_=> ?_)|exact fh
theorem ZL(N:Nat)(e:g9)(f x:Int):Ok (λ_=>True) (ado N e f x):=by
 unfold ado
 repeat' first|refine ok_eq (λ_=> ?_) (λ_=> ?_)|exact fh
theorem Kk(N:Nat)(hN:1000≤N)(e:g9):Ok (λ_=>True) (sF N e):=by
 unfold sF sF.b akL
 refine ag (Q:=λ_=>True) (ew (λ_=>fh) λ_=>fh) λ_ _=>bz (λ_=>fh) λ_=>ag (Ww N _) λs hs=> ?_
 refine bn (len:=ByteArray.size s) (F:=λn i (x:g9)=>sF.l6 N n e s x i) (λ_ _=>True) trivial ω (λn i x hi _ hr=> ?_) (λn x _=> ?_)
 all_goals unfold sF.l6 sF.tX
 ·rw[aw (x:=(i:Int)+1) ω ω,af i]
  exact ax (λ_=>aA ⟨ω,ω⟩ (ag (Wx N _ _) λ_ _=>aA ⟨ω,ω⟩ (ag (ZK N _ _) λ_ _=>ax (λ_=>fh) λ_=>ax (λ_=>fh) λ_=>aA ⟨ω,ω⟩ (ag (ZL N _ _ _) λy _=>hr y trivial)))) λ_=>ω
 ·exact ax (λ_=>ω) λ_=>fh
theorem G.ins{m:Nat}{e:Ty}{l:List e.den}{x:e.den}(h:G m (.slice e) l)(hx:G m e x)(a b c:Nat)(ha:c≤a):G (m+1) (.slice e) ((([]++List.drop b (List.take c l))++[x])++List.drop a (List.take l.length l)):=by
 have:=h.1
 refine⟨?_,λy hy=> ?_⟩
 ·simp only[cW,aM,dC,cc,aK];omega
 ·rw[cW,bH]at hy
  rcases bk.1 hy with hy|hy
  ·exact G.mono ω (h.2 y (lZ (m9 hy)))
  ·rcases bk.1 hy with hy|hy
   ·rw[cr.1 hy];exact G.mono ω hx
   ·exact G.mono ω (h.2 y (lZ (m9 hy)))
theorem L4{α:Type}{P:List α×Int→Prop}{l:List α}{x:α}{k:Nat}{e:Int}(hk:k≤l.length)(hl:l.length≤1000000)(h:P ((([]++List.drop (0:Int).toNat (List.take (k:Int).toNat l))++[x])++List.drop (k:Int).toNat (List.take (l.length:Int).toNat l),e)):
  Ok P (cond (kd 0 (k:Int) (l.length:Int) (l.length:Int)) (let v6:List α:=List.drop (0:Int).toNat (List.take (k:Int).toNat l);cond (small (([]:List α).length+v6.length)) (let v7:List α:=[]++v6;cond (small (v7.length+[x].length)) (let v8:List α:=v7++[x];cond (kd (k:Int) (l.length:Int) (l.length:Int) (l.length:Int)) (let v9:List α:=List.drop (k:Int).toNat (List.take (l.length:Int).toNat l);cond (small (v8.length+v9.length)) (some ((v8++v9),e)) none) none) none) none) none):=by
 dsimp only
 have t: ∀a b:Nat,(List.drop a (List.take b l)).length≤l.length:=λa b=>by rw[dC,cc];omega
 have t1:=t (0:Int).toNat (k:Int).toNat
 have t2:=t (k:Int).toNat (l.length:Int).toNat
 refine CD ⟨ω,ω,ω,ω⟩ (aF (by rw[ck];omega) (aF ?_ (CD ⟨ω,ω,ω,ω⟩ (aF ?_ (aq h)))))
 ·rw[cW,aK];omega
 ·rw[cW,aM,aK];omega
theorem ZM(N:Nat)(hN:200000≤N){a:aD}{m:Nat}(hm:m≤50000)(h:G m (.slice jH) a){id:Int}(bo:aE id):Ok (λr=>G (m+1) (.slice jH) r.1) (iq N a id):=by
 have hl:=h.1
 unfold iq iq.b
 refine bw (mP N ω hN) (bz (λ_=>aq G.nil) λ_=>ax (λ_=>aq G.nil) λ_=>ax (λ_=>aq G.nil) λ_=>bw (ik N ω hN id) (bt (λ_=>aq G.nil) λ_=> ?_))
 have fin: ∀k:Nat,k≤a.length→Ok (λr=>G (m+1) (.slice jH) r.1) (iq.j9 N a id [] (k:Int)):=λk hk=>by
  unfold iq.j9 iq.On
  have hx:G m jH (id,((1:Int),())):=⟨bo,(show aE 1 from bD),trivial⟩
  exact L4 hk ω (by simpa using G.ins h hx k 0 k (aH _))
 refine mv (len:=a.length) (F:=λn i=>iq.l7 N n a id [] i) ω (λn i hi hr=> ?_) (λn=> ?_)
 all_goals unfold iq.l7 iq.p6
 ·rw[aw (x:=(i:Int)+1) ω ω,af i]
  exact ax (λ_=>aA ⟨ω,ω⟩ (ax (λ_=>hr) λ_=>fin i ω)) λ_=>ω
 ·exact ax (λ_=>ω) λ_=>fin _ (aH _)
end VM
end
section
namespace VM
open Go VM.F
theorem G4q{m:Nat}{x:bT}{q:Int}(h:G m eu x)(hq:aE q):G m eu (x.1,(x.2.1,(x.2.2.1,(q,x.2.2.2.2)))):=⟨h.1,h.2.1,h.2.2.1,hq,trivial⟩
theorem G4b{m:Nat}{x:bT}{q:Int}(h:G m eu x)(hq:aE q):G m eu (x.1,(q,x.2.2)):=⟨h.1,hq,h.2.2⟩
theorem G2b{m:Nat}{x:Cm}{q:Int}(h:G m jH x)(hq:aE q):G m jH (x.1,(q,x.2.2)):=⟨h.1,hq,trivial⟩
theorem L7(N:Nat)(hN:200000≤N){l:aO}(hl:l.length≤100000):Ok (λ_=>True) (mu N l):=nW (u5 N hl hN) trivial
theorem adp(N:Nat)(hN:200000≤N){a:aD}{l:aO}{x:bT}{m:Nat}(hm:m≤50000)(ha:G m (.slice jH) a)(h:G m (.slice eu) l)(hx:G 0 eu x):Ok (λr=>G (m+1) (.slice eu) r.1) (fm N a l x):=by
 have h1:=ha.1
 have hl:=h.1
 have fin: ∀k:Nat,k≤l.length→Ok (λr=>G (m+1) (.slice eu) r.1) (fm.ze N l x [] (k:Int)):=λk hk=>by
  unfold fm.ze fm.s0
  exact L4 hk ω (by simpa using G.ins h (G.mono (bF m) hx) k 0 k (aH _))
 have hj:Ok (λr=>G (m+1) (.slice eu) r.1) (fm.Kl N l x):=by
  unfold fm.Kl fm.CG
  refine mv (len:=l.length) (F:=λn i=>fm.oi N n l x [] i) ω (λn i hi hr=> ?_) (λn=> ?_)
  all_goals unfold fm.oi fm.mF
  ·rw[aw (x:=(i:Int)+1) ω ω,af i]
   exact ax (λ_=>aA ⟨ω,ω⟩ (ax (λ_=>hr) λ_=>fin i ω)) λ_=>ω
  ·exact ax (λ_=>ω) λ_=>fin _ (aH _)
 unfold fm fm.b
 exact bw (xI N ω ω hN) (bz (λ_=>aq G.nil) λ_=>ag (L7 N hN (by rw[aK];omega)) λ_ _=>bz (λ_=>aq G.nil) λ_=>bw (ik N ω hN _) (ok_eq (λ_=>aq G.nil) λ_=>bt (λ_=>aq G.nil) λ_=>bw (sl N ω hN _) (sq (λ_=>aq G.nil) λ_=>ok_eq (λ_=>bw (rn N ω hN _) (bt (λ_=>aq G.nil) λ_=>hj)) λ_=>hj)))
theorem ZN(N:Nat)(hN:200000≤N){l:aO}{m:Nat}(hm:m≤50000)(h:G m (.slice eu) l){id q:Int}(hq:aE q):Ok (λr=>G m (.slice eu) r.1) (nX N l id q):=by
 have hl:=h.1
 unfold nX nX.b
 refine ag (L7 N hN ω) λ_ _=>bz (λ_=>aq G.nil) λ_=>ax (λ_=>aq G.nil) λ_=>ax (λ_=>aq G.nil) λ_=>bw (sl N ω hN _) (bz (λ_=>aq G.nil) λ_=>aF (by rw[ck];omega) ?_)
 rw[cW]
 refine bn (len:=l.length) (F:=λn i s=>nX.l8 N n id q s i) (λ_ s=>s.length=l.length∧G m (.slice eu) s) ⟨rfl,h⟩ ω (λn i s hi hI hr=> ?_) (λn s hI=> ?_)
 all_goals unfold nX.l8 nX.Dy
 ·rw[aw (x:=(i:Int)+1) ω ω,af i]
  have hs:=hI.1
  have hx:=G.at hI.2 (i:Int).toNat
  exact ax (λ_=>aA ⟨ω,ω⟩ (ok_eq (λ_=>aA ⟨ω,ω⟩ (hr _ ⟨by rw[bM];exact hs,G.set hI.2 (G4q hx hq) _⟩)) λ_=>hr s hI)) λ_=>ω
 ·have hs:=hI.1
  exact ax (λ_=>ω) λ_=>aq hI.2
theorem ZO(N:Nat)(a b:Int):Ok (λr=>aE r.1) (Wy N a b):=by
 have h: ∀(x:Int) (t:Bool),0≤x∧x<5→Ok (λr:Int×Bool=>aE r.1) (some (x,t)):=λx t hx=>aq (SF hx δ)
 unfold Wy
 repeat' first|refine ok_eq (λ_=> ?_) (λ_=> ?_)|exact h _ _ δ
theorem L8(N:Nat)(hN:200000≤N){l:aD}{m:Nat}(hm:m≤50000)(h:G m (.slice jH) l)(id k:Int):Ok (λr=>G m (.slice jH) r.1) (lV N l id k):=by
 have hl:=h.1
 unfold lV lV.b
 refine bw (mP N ω hN) (bz (λ_=>aq G.nil) λ_=>bw (ik N ω hN _) (ok_eq (λ_=>aq G.nil) λ_=>ag (ZO N _ _) λz hz=>bz (λ_=>aq G.nil) λ_=>aF (by rw[ck];omega) ?_))
 rw[cW]
 refine bn (len:=l.length) (F:=λn i s=>lV.CE N n id z.1 s i) (λ_ s=>s.length=l.length∧G m (.slice jH) s) ⟨rfl,h⟩ ω (λn i s hi hI hr=> ?_) (λn s hI=> ?_)
 all_goals unfold lV.CE lV.zL
 ·rw[aw (x:=(i:Int)+1) ω ω,af i]
  have hs:=hI.1
  have hx:=G.at hI.2 (i:Int).toNat
  exact ax (λ_=>aA ⟨ω,ω⟩ (ok_eq (λ_=>aA ⟨ω,ω⟩ (hr _ ⟨by rw[bM];exact hs,G.set hI.2 (G2b hx hz) _⟩)) λ_=>hr s hI)) λ_=>ω
 ·have hs:=hI.1
  exact ax (λ_=>ω) λ_=>aq hI.2
theorem SH(N:Nat)(hN:200000≤N){a:aD}{l:aO}{m:Nat}(hm:m≤50000)(ha:G m (.slice jH) a)(h:G m (.slice eu) l){id to:Int}(hto:aE to):Ok (λr=>G m (.slice eu) r.1) (nY N a l id to):=by
 have h1:=ha.1
 have hl:=h.1
 unfold nY nY.b
 refine bw (xI N ω ω hN) (bz (λ_=>aq G.nil) λ_=>bw (sl N ω hN _) (bw (ik N ω hN _) (bz (λ_=>aq G.nil) λ_=>ok_eq (λ_=>aq G.nil) λ_=>bt (λ_=>aq G.nil) λ_=>bt (λ_=>aq G.nil) λ_=>aF (by rw[ck];omega) ?_)))
 rw[cW]
 refine bn (len:=l.length) (F:=λn i s=>nY.oi N n id to s i) (λ_ s=>s.length=l.length∧G m (.slice eu) s) ⟨rfl,h⟩ ω (λn i s hi hI hr=> ?_) (λn s hI=> ?_)
 all_goals unfold nY.oi nY.mF
 ·rw[aw (x:=(i:Int)+1) ω ω,af i]
  have hs:=hI.1
  have hx:=G.at hI.2 (i:Int).toNat
  exact ax (λ_=>aA ⟨ω,ω⟩ (ok_eq (λ_=>aA ⟨ω,ω⟩ (hr _ ⟨by rw[bM];exact hs,G.set hI.2 (G4b hx hto) _⟩)) λ_=>hr s hI)) λ_=>ω
 ·have hs:=hI.1
  exact ax (λ_=>ω) λ_=>aq hI.2
theorem Pz(N:Nat)(hN:200000≤N){l:aO}{m:Nat}(hm:m≤50000)(h:G m (.slice eu) l)(id:Int):Ok (λr=>r.length≤m) (sG N l id):=by
 have hl:=h.1
 unfold sG sG.b
 refine ag (L7 N hN ω) λ_ _=>bz (λ_=>aq (bF _)) λ_=>bn (len:=l.length) (F:=λn i s=>sG.l5 N n l id s i) (λi s=>s.length≤i) (bF _) ω (λn i s hi hI hr=> ?_) (λn s hI=> ?_)
 all_goals unfold sG.l5 sG.eA
 ·rw[aw (x:=(i:Int)+1) ω ω,af i]
  exact ax (λ_=>aA ⟨ω,ω⟩ (ok_eq (λ_=>aA ⟨ω,ω⟩ (aF (by rw[aK];omega) (hr _ (by rw[aM,aK];omega)))) λ_=>hr s ω)) λ_=>ω
 ·exact ax (λ_=>ω) λ_=>aq ω
abbrev L6(m:Nat)(l:bm):Prop:=G m (.slice lE) l
theorem ZP(N:Nat)(hN:200000≤N){l:bm}{a:List Int}{m:Nat}(hm:m≤50000)(h:L6 m l)(ha:a.length≤m):Ok (λr=>L6 m r) (fP N l a):=by
 have hl:=h.1
 unfold fP fP.b
 refine bw (ij N ω hN) (bz (λ_=>aq G.nil) λ_=>bn (len:=l.length) (F:=λn i s=>fP.l5 N n l a s i) (λi s=>L6 i s) G.nil ω (λn i s hi hI hr=> ?_) (λn s hI=> ?_))
 all_goals unfold fP.l5 fP.eA
 ·have hs:=hI.1
  refine ax (λ_=> ?_) λ_=>ω
  refine bn (len:=a.length) (F:=λn' j b=>fP.l9 N (fP.l5 N n) n' l a s (i:Int) b j) (λ_ _=>True) trivial ω (λn' j b hj _ eF=> ?_) (λn' b _=> ?_)
  all_goals unfold fP.l9 fP.xG
  ·rw[aw (x:=(j:Int)+1) ω ω,af j]
   exact ax (λ_=>sq (λ_=>eF _ trivial) λ_=>aA ⟨ω,ω⟩ (aA ⟨ω,ω⟩ (eF _ trivial))) λ_=>ω
  ·rw[aw (x:=(i:Int)+1) ω ω,af i]
   have hx:G 0 lE (l.getD (i:Int).toNat eT):=G.at h _
   exact ax (λ_=>ω) λ_=>bz (λ_=>aA ⟨ω,ω⟩ (aF (by rw[aK];omega) (hr _ (G.cat hI (G.one hx (aH 1)))))) λ_=>hr s (G.mono ω hI)
 ·exact ax (λ_=>ω) λ_=>aq (G.mono hl hI)
theorem PA(N:Nat)(hN:5000000≤N)(c:ae){b:an}{m:Nat}(hm:m≤50000)(hb:G m aL b)(id:Int):Ok (λr=>G m aL r.1) (L9 N c b id):=by
 unfold L9
 exact bw (dS N hN hm hb) (bz (λ_=>aq G.iU) λ_=>ag (oY N ω hm hb.1 _) λ_ _=>ok_eq (λ_=>aq G.iU) λ_=>ag (Pz N ω hm hb.2.1 _) λa ha=>ag (ZP N ω hm hb.2.2.2.2.2.1 ha) λr hr=>aq ⟨hb.1,hb.2.1,hb.2.2.1,hb.2.2.2.1,hb.2.2.2.2.1,hr,trivial⟩)
theorem DR(N:Nat)(hN:200000≤N){l:aO}{m:Nat}(hm:m≤50000)(h:G m (.slice eu) l)(id:Int):Ok (λr=>G m (.slice eu) r) (pX N l id):=by
 have hl:=h.1
 unfold pX pX.b
 refine bw (vb N ω hN) (bz (λ_=>aq G.nil) λ_=>bn (len:=l.length) (F:=λn i s=>pX.l5 N n l id s i) (λi s=>G i (.slice eu) s) G.nil ω (λn i s hi hI hr=> ?_) (λn s hI=> ?_))
 all_goals unfold pX.l5 pX.eA
 ·have hs:=hI.1
  have hx:G 0 eu (l.getD (i:Int).toNat aW):=G.at h _
  rw[aw (x:=(i:Int)+1) ω ω,af i]
  exact ax (λ_=>aA ⟨ω,ω⟩ (bt (λ_=>aA ⟨ω,ω⟩ (aF (by rw[aK];omega) (hr _ (G.cat hI (G.one hx (aH 1)))))) λ_=>hr s (G.mono ω hI))) λ_=>ω
 ·exact ax (λ_=>ω) λ_=>aq (G.mono hl hI)
theorem Wz(N:Nat)(hN:200000≤N){l:bm}{m:Nat}(hm:m≤50000)(h:L6 m l)(a id:Int):Ok (λr=>L6 m r.1) (nZ N l a id):=by
 have hl:=h.1
 unfold nZ nZ.b
 refine bw (ij N ω hN) (bz (λ_=>aq G.nil) λ_=>bn (len:=l.length) (F:=λn i s=>nZ.l5 N n l a id s i) (λi s=>L6 i s) G.nil ω (λn i s hi hI hr=> ?_) (λn s hI=> ?_))
 all_goals unfold nZ.l5 nZ.eA
 ·have hs:=hI.1
  have hx:G 0 lE (l.getD (i:Int).toNat eT):=G.at h _
  rw[aw (x:=(i:Int)+1) ω ω,af i]
  have h1:=hr s (G.mono ω hI)
  have h2:=hr _ (G.cat hI (G.one hx (aH 1)))
  repeat' first|exact h1|exact h2|refine aF (by rw[aK];omega) ?_|refine aA ⟨ω,ω⟩ ?_|refine ax (λ_=> ?_) (λ_=> ?_)|refine bt (λ_=> ?_) (λ_=> ?_)|(exfalso;omega)
 ·exact ax (λ_=>ω) λ_=>ok_eq (λ_=>aq G.nil) λ_=>aq (G.mono hl hI)
end VM
end
section
namespace VM
open Go VM.F
theorem G6q{m:Nat}{x:c7}{q:Int}(h:G m lE x)(hq:aE q):G m lE (x.1,(x.2.1,(x.2.2.1,(x.2.2.2.1,(q,x.2.2.2.2.2))))):=⟨h.1,h.2.1,h.2.2.1,h.2.2.2.1,hq,h.2.2.2.2.2⟩
theorem adq(N:Nat)(hN:200000≤N){l:bm}{m:Nat}(hm:m≤50000)(h:L6 m l)(a d:Int):Ok (λr=>L6 m r) (dU N l a d):=by
 have hl:=h.1
 unfold dU dU.b
 refine bw (ij N ω hN) (bz (λ_=>aq G.nil) λ_=>bn (len:=l.length) (F:=λn i s=>dU.l5 N n l a d s i) (λi s=>L6 i s) G.nil ω (λn i s hi hI hr=> ?_) (λn s hI=> ?_))
 all_goals unfold dU.l5 dU.eA
 ·have hs:=hI.1
  have hx:G 0 lE (l.getD (i:Int).toNat eT):=G.at h _
  have fin: ∀k:Nat,k≤s.length→Ok (λr=>L6 m r) (dU.Kl N (dU.l5 N n) l a d s (i:Int) (k:Int)):=λk hk=>by
   unfold dU.Kl dU.CG
   rw[aw (x:=(i:Int)+1) ω ω,af i]
   dsimp only
   have t: ∀a b:Nat,(List.drop a (List.take b s)).length≤s.length:=λa b=>by rw[dC,cc];omega
   have t1:=t (0:Int).toNat (k:Int).toNat
   have t2:=t (k:Int).toNat (s.length:Int).toNat
   refine CD ⟨ω,ω,ω,ω⟩ (aF ω (aA ⟨ω,ω⟩ (aF (by rw[aK];omega) (CD ⟨ω,ω,ω,ω⟩ (aF (by rw[aM,aK];omega) (hr _ ?_))))))
   simpa using G.ins hI (G.mono (bF i) hx) k 0 k (aH _)
  have h1:=hr s (G.mono ω hI)
  have hw:Ok (λr=>L6 m r) (dU.l9 N (dU.l5 N n) N l a d s (i:Int) 0):=by
   refine mv (len:=s.length) (F:=λn' j=>dU.l9 N (dU.l5 N n) n' l a d s (i:Int) j) ω (λn' j hj eF=> ?_) (λn'=> ?_)
   all_goals unfold dU.l9 dU.xG
   ·rw[aw (x:=(j:Int)+1) ω ω,af j]
    have hah: ∀x y:c7,Ok (λ_=>True) (WA N x y):=λx y=>by unfold WA;exact bt (λ_=>fh) λ_=>fh
    exact ax (λ_=>aA ⟨ω,ω⟩ (aA ⟨ω,ω⟩ (ag (hah _ _) λ_ _=>sq (λ_=>eF) λ_=>fin j ω))) λ_=>ω
   ·exact ax (λ_=>ω) λ_=>fin _ (aH _)
  rw[aw (x:=(i:Int)+1) ω ω,af i]
  repeat' first|exact h1|exact hw|refine aA ⟨ω,ω⟩ ?_|refine ax (λ_=> ?_) (λ_=> ?_)|refine bt (λ_=> ?_) (λ_=> ?_)|(exfalso;omega)
 ·exact ax (λ_=>ω) λ_=>aq (G.mono hl hI)
theorem ZQ(N:Nat)(hN:200000≤N){l:bm}{o:c7}{m:Nat}(hm:m≤50000)(h:L6 m l)(ho:G 0 lE o):Ok (λr=>L6 m r.1∧aE r.2.2.1) (cq N l o):=by
 have hl:=h.1
 have fin: ∀(s:bm) (q:Int) (t:bs),L6 m s→aE q→Ok (λr=>L6 m r.1∧aE r.2.2.1) (cq.j22 N s q t):=λs q t hs hq=>by
  have NC:=hs.1
  unfold cq.j22 cq.ads
  refine bn (len:=s.length) (F:=λn i u=>cq.Ds N n s q t u i) (λi u=>L6 i u) G.nil ω (λn i u hi hI hr=> ?_) (λn u hI=> ?_)
  all_goals unfold cq.Ds cq.Ef
  ·have hu:=hI.1
   have hx:G 0 lE (s.getD (i:Int).toNat eT):=G.at hs _
   rw[aw (x:=(i:Int)+1) ω ω,af i]
   have h1:=hr u (G.mono ω hI)
   have h2:=hr _ (G.cat hI (G.one hx (aH 1)))
   repeat' first|exact h1|exact h2|refine aF (by rw[aK];omega) ?_|refine aA ⟨ω,ω⟩ ?_|refine ax (λ_=> ?_) (λ_=> ?_)|(exfalso;omega)
  ·exact ax (λ_=>ω) λ_=>aq ⟨G.mono NC hI,hq⟩
 have dT:Ok (λr:bm×bs×Int×Int=>L6 m r.1∧aE r.2.2.1) (some ([],[],(0:Int),(1:Int))):=aq ⟨G.nil,bx⟩
 unfold cq cq.b
 refine bw (ij N ω hN) (bz (λ_=>dT) λ_=>bw (Ba N o) (bz (λ_=>dT) λ_=>aF (by rw[ck];omega) (ag (adq N hN hm h _ _) λw hw=> ?_)))
 have hwl:=hw.1
 rw[cW]
 refine bn (len:=w.length) (F:=λn i (s:bm×Int×bs)=>cq.l7 N n o s.1 s.2.1 s.2.2 w i) (s:=(_,(_,_))) (λi s=>L6 m s.1∧aE s.2.1∧s.2.2.length≤i) ⟨h,ho.2.2.2.2.1,bF _⟩ ω (λn i s hi hI hr=> ?_) (λn s hI=> ?_)
 all_goals unfold cq.l7 cq.p6
 ·obtain⟨hs,hq,ht⟩:=hI
  have f1:=fin s.1 s.2.1 s.2.2 hs hq
  have akM: ∀(v:Int) (t:iP),Ok (λr=>L6 m r.1∧aE r.2.2.1) (cq.ze N (cq.l7 N n) o s.1 s.2.1 s.2.2 w (i:Int) v t):=λv t=>by
   unfold cq.ze cq.s0
   refine aF (by rw[aK];omega) (bn (len:=s.1.length) (F:=λn' j u=>cq.Ie N (cq.l7 N n) n' o u (W .i64 (s.2.1-v)) (s.2.2++[t]) w (i:Int) v j) (λ_ u=>u.length=s.1.length∧L6 m u) ⟨rfl,hs⟩ (by have:=hs.1;omega) (λn' j u hj hJ eF=> ?_) (λn' u hJ=> ?_))
   all_goals unfold cq.Ie cq.Et
   ·have NC:=hs.1
    have Ig:=hJ.1
    rw[aw (x:=(j:Int)+1) ω ω,af j]
    exact ax (λ_=>aA ⟨ω,ω⟩ (aA ⟨ω,ω⟩ (ok_eq (λ_=>aA ⟨ω,ω⟩ (aA ⟨ω,ω⟩ (eF _ ⟨by rw[bM];exact Ig,G.set hJ.2 (G6q (G.at hJ.2 _) (gE _)) _⟩))) λ_=>eF u hJ))) λ_=>ω
   ·have Ig:=hJ.1
    rw[aw (x:=(i:Int)+1) ω ω,af i]
    exact ax (λ_=>ω) λ_=>hr (_,(_,_)) ⟨hJ.2,gE _,by dsimp only;rw[List.length_append,List.length_singleton];omega⟩
  have Ma:Ok (λr=>L6 m r.1∧aE r.2.2.1) (cq.SJ N (cq.l7 N n) o s.1 s.2.1 s.2.2 w (i:Int)):=by
   unfold cq.SJ cq.Mb
   rw[aw (x:=(i:Int)+1) ω ω,af i]
   dsimp only
   have h1:=hr s ⟨hs,hq,ω⟩
   repeat' first|exact h1|exact akM _ _|refine aA ⟨ω,ω⟩ ?_|refine ok_eq (λ_=> ?_) (λ_=> ?_)
  repeat' first|exact f1|exact Ma|refine aA ⟨ω,ω⟩ ?_|refine ax (λ_=> ?_) (λ_=> ?_)|refine ok_eq (λ_=> ?_) (λ_=> ?_)|(exfalso;omega)
 ·exact ax (λ_=>ω) λ_=>fin _ _ _ hI.1 hI.2.1
theorem ZR(N:Nat)(hN:5000000≤N){c:ae}{b:an}{o:c7}{m:Nat}(h2:200≤m)(hm:m≤40000)(hc:G m aB c)(hb:G m aL b)(ho:G 0 lE o):Ok (λr=>G (m+1) aL r.1) (jn N c b o):=by
 have Cc:=hb.2.2.2.2.2.1.1
 have dT: ∀(t:bs) (e:Int),Ok (λr:an×bs×Int×Int=>G (m+1) aL r.1) (some ((cg,(cT,(bq,(bq,(de,(dk,())))))),(t,((0:Int),e)))):=λt e=>aq (G.zero (m+1) aL)
 have Ma: ∀(r:bm) (t:bs) (q:Int),L6 m r→aE q→Ok (λr=>G (m+1) aL r.1) (jn.SJ N c b o (cg,(cT,(bq,(bq,(de,(dk,())))))) r t q):=λr t q hr hq=>by
  have I8:=hr.1
  unfold jn.SJ jn.Mb
  have hx:G 0 lE (o.1,(o.2.1,(o.2.2.1,(o.2.2.2.1,(q,o.2.2.2.2.2))))):=G6q ho hq
  exact ag (Kh N hN c h2 ω hb) λz hz=>bt (λ_=>dT _ _) λ_=>by
   have Db:G (m+1) aL z.1:=G.mono ω hz
   exact ax (λ_=>aF (by rw[aK];omega) (aq ⟨Db.1,Db.2.1,Db.2.2.1,Db.2.2.2.1,Db.2.2.2.2.1,G.cat hr (G.one hx (aH 1)),trivial⟩)) λ_=>aq ⟨Db.1,Db.2.1,Db.2.2.1,Db.2.2.2.1,Db.2.2.2.2.1,G.mono ω hr,trivial⟩
 have hj7:Ok (λr=>G (m+1) aL r.1) (jn.j7 N c b o (cg,(cT,(bq,(bq,(de,(dk,()))))))):=by
  unfold jn.j7 jn.Rr
  exact ag (ZQ N ω ω hb.2.2.2.2.2.1 ho) λz hz=>ax (λ_=>ok_eq (λ_=>dT _ _) λ_=>Ma _ _ _ hz.1 hz.2) λ_=>Ma _ _ _ hz.1 hz.2
 unfold jn jn.b
 refine ag (BH N hN h2 hm hc hb (G.mono (bF m) ho)) λe _=>bt (λ_=>dT _ _) λ_=>ax (λh0=> ?_) λ_=>hj7
 dsimp only
 exact aA (by rw[aw ω ω];omega) (ew (λ_=>dT _ _) λ_=>hj7)
end VM
end
section
namespace VM
open Go VM.F
theorem akN(N:Nat)(a:Int):Ok (λ_=>True) (LD N a):=by
 unfold LD
 exact ok_eq (λ_=>fh) λ_=>fh
theorem jZ.one{k n:Int}{x:aJ}{m:Nat}(h:Bg m x)(hm:m≤8):jZ 1 [(k,(n,(x,())))]:=⟨aH 1,λy hy=>by rw[cr.1 hy];exact Bg.mono h hm⟩
theorem ZS(N:Nat)(hN:4000000≤N){l:au}{m:Nat}(hm:m≤50000)(h:L3 m l)(i a b:Int):Ok (λr=>jZ m r.1) (n0 N l i a b):=by
 have hl:=h.1
 unfold n0 n0.b
 have p64: ∀p:Int,decide (1≤p∧p≤1000000000000)=true→aE p:=λp h=>by have:=bA h;unfold aE;omega
 refine bw (mQ N ω ω) (bz (λ_=>aq jZ.nil) λ_=>bw (iL N _) (bz (λ_=>aq jZ.nil) λha=>bw (iL N _) (bz (λ_=>aq jZ.nil) λhb=>ag (bu N hN (p64 _ hb)) λx hx=>ag (bu N hN (p64 _ ha)) λy hy=>ag (yA N hN ω hx hy) λz hz=>bn (len:=l.length) (F:=λn j s=>n0.l6 N n l i s z j) (λj s=>jZ j s) jZ.nil ω (λn j s hj hI hr=> ?_) (λn s hI=> ?_))))
 all_goals unfold n0.l6 n0.tX
 ·have hs:=hI.1
  rw[aw (x:=(j:Int)+1) ω ω,af j]
  have h1:=hr s (jZ.mono hI ω)
  exact ax (λ_=>aA ⟨ω,ω⟩ (bt (λ_=>h1) λ_=>ag (E2 N hz) λ_ _=>ok_eq (λ_=>h1) λ_=>aA ⟨ω,ω⟩ (ag (akN N _) λ_ _=>aA ⟨ω,ω⟩ (ag (bu N hN (G.at h _).2.2.1) λv hv=>ag (lU N hN ω ω hv hz) λu hu=>aF (by rw[aK];omega) (hr _ (jZ.app hI (jZ.one hu ω))))))) λ_=>ω
 ·exact ax (λ_=>ω) λ_=>aq (jZ.mono hI ω)
theorem DS(N:Nat)(hN:5000000≤N)(c:ae){b:an}{m:Nat}(h2:200≤m)(hm:m≤50000)(hb:G m aL b)(i:Int){p:Int}(hp:aE p):Ok (λr=>G m aL r.1∧jZ m r.2.1) (WB N c b i p):=by
 have dT: ∀e:Int,Ok (λr:an×bJ×Int=>G m aL r.1∧jZ m r.2.1) (some ((cg,(cT,(bq,(bq,(de,(dk,())))))),([],e))):=λe=>aq ⟨G.iU,jZ.nil⟩
 have AN:=hb.2.2.2.2.1.1
 unfold WB
 refine bw (dS N hN hm hb) (bz (λ_=>dT _) λhB=>bw (iL N _) (bz (λ_=>dT _) λ_=>ax (λ_=>dT _) λh0=>ew (λ_=>dT _) λh1=> ?_))
 obtain⟨EK,_⟩:=dy hB
 dsimp only
 rw[cW]
 exact aA ⟨h0,by rw[EK];exact h1⟩ (ag (ZS N ω hm hb.2.2.2.1 _ _ _) λf hf=>ag (tO N ω h2 hm hb G.nil (jZ.mono hf hm)) λr hr=>bt (λ_=>dT _) λ_=>aF (by rw[ck];omega) (aA ⟨h0,by rw[EK];exact h1⟩ (aq ⟨⟨hr.1,hr.2.1,hr.2.2.1,hr.2.2.2.1,G.set hb.2.2.2.2.1 hp _,hr.2.2.2.2.2⟩,hf⟩)))
abbrev L2(m:Nat)(l:aD):Prop:=G m (.slice jH) l
theorem G2{m:Nat}{a b:Int}(ha:aE a)(hb:aE b):G m jH (a,(b,())):=⟨ha,hb,trivial⟩
theorem CH(N:Nat)(hN:200000≤N){l:aD}(hl:l.length≤100000):Ok (λ_=>True) (q3 N l):=by
 unfold q3 q3.b
 refine mv (len:=l.length) (F:=λn i=>q3.l2 N n l i) ω (λn i hi hr=> ?_) (λn=> ?_)
 all_goals unfold q3.l2 q3.fy
 ·rw[aw (x:=(i:Int)+1) ω ω,af i]
  dsimp only
  repeat' first|exact hr|exact fh|refine aA ⟨ω,ω⟩ ?_|refine aA (by rw[aw (x:=(i:Int)-1) ω ω];omega) ?_|refine ax (λ_=> ?_) (λ_=> ?_)|refine ew (λ_=> ?_) (λ_=> ?_)|refine ok_eq (λ_=> ?_) (λ_=> ?_)|(exfalso;omega)
 ·exact ax (λ_=>ω) λ_=>fh
theorem PC(N:Nat)(hN:4000000≤N){g:aD}{p:bJ}{m:Nat}(h2:200≤m)(hm:m≤50000)(h:L2 m g)(hp:jZ m p):Ok (λr=>L2 m r.1) (e8 N g p):=by
 have hl:=h.1
 have AN:=hp.1
 unfold e8 e8.b
 refine ag (CH N ω ω) λ_ _=>bz (λ_=>aq G.nil) λ_=>kX (len:=25) (F:=λn i s=>e8.l5 N n g p s i) (λi s=>L2 i s) (λn i s hi hI hr=> ?_) (λn s hI=> ?_) 25 N 1 [] ω ω ω G.nil
 all_goals unfold e8.l5 e8.eA
 ·have hs:=hI.1
  refine ew (λ_=> ?_) λ_=>ω
  refine bn (len:=g.length) (F:=λn' j t=>e8.l9 N (e8.l5 N n) n' g p s (i:Int) t j) (λ_ t=>Bg 2 t) (L0 ω) ω (λn' j t hj ht eF=> ?_) (λn' t ht=> ?_)
  all_goals unfold e8.l9 e8.xG
  ·rw[aw (x:=(j:Int)+1) ω ω,af j]
   exact ax (λ_=>aA ⟨ω,ω⟩ (ok_eq (λ_=>aA ⟨ω,ω⟩ (ag (bu N hN (G.at h _).2.1) λr hr=>eF r hr)) λ_=>eF t ht)) λ_=>ω
  ·refine ax (λ_=>ω) λ_=> ?_
   refine bn (len:=p.length) (F:=λKg j t=>e8.JV N (e8.l5 N n) Kg g p s (i:Int) t j) (λj t=>Bg (8+j) t) (Bg.mono ht ω) ω (λKg j t hj ht eF=> ?_) (λKg t ht=> ?_)
   all_goals unfold e8.JV e8.G0
   ·rw[aw (x:=(j:Int)+1) ω ω,af j]
    have h1:=eF t (Bg.mono ht ω)
    exact ax (λ_=>aA ⟨ω,ω⟩ (ok_eq (λ_=>aA ⟨ω,ω⟩ (ok_eq (λ_=>aA ⟨ω,ω⟩ (ag (kY N hN ω ht (Bg.mono (hp.at _) ω)) λr hr=>eF r (Bg.mono hr ω))) λ_=>h1)) λ_=>h1)) λ_=>ω
   ·rw[aw (x:=(i:Int)+1) ω ω,af i]
    exact ax (λ_=>ω) λ_=>ag (xY N ht) λv hv=>bz (λ_=>aq G.nil) λ_=>bt (λ_=>aF (by rw[aK];omega) (hr _ (G.cat hI (G.one (m:=1) (G2 (jG ω ω) hv) (aH 1))))) λ_=>hr s (G.mono ω hI)
 ·exact ew (λ_=>ω) λ_=>aq (G.mono ω hI)
theorem tP(N:Nat)(hN:4000000≤N)(a b c d:Int){x:aJ}(h:Bg 8 x):Ok (λr=>jZ 2 r) (CI N a b c d x):=by
 unfold CI
 exact ag (rr N hN ω h) λy hy=>aq ⟨aH 2,λz hz=>by
  rcases aZ.1 hz with rfl|hz
  ·exact hy
  ·rw[cr.1 hz];exact h⟩
theorem PD(N:Nat)(hN:5000000≤N){c:ae}{b:an}{m:Nat}(h2:200≤m)(hm:m≤40000)(hc:G m aB c)(hb:G m aL b)(a:Int){q:Int}(hq:aE q):Ok (λr=>G m aL r.1) (WC N c b a q):=by
 unfold WC
 exact bw (dS N hN ω hb) (bz (λ_=>aq G.iU) λ_=>ax (λ_=>aq G.iU) λ_=>ag (yB N ω ω hb.2.1 _) λ_ _=>bz (λ_=>aq G.iU) λ_=>ag (oY N ω ω hb.1 _) λ_ _=>bt (λ_=>aq G.iU) λ_=>ag (mH N ω ω hb.2.2.1 _ _) λg hg=>ag (bu N ω hg) λx hx=>ag (bu N ω hq) λy hy=>ag (yA N ω ω hx hy) λz hz=>ag (Hk N ω h2 hm hc hb (bF _) _) λw hw=>ag (qv N ω ω ω hz hw) λ_ _=>ax (λ_=>aq G.iU) λ_=>ag (bu N ω hq) λy hy=>ag (tP N ω _ _ _ _ (Bg.mono hy ω)) λp hp=>ag (tO N ω h2 ω hb G.nil (jZ.mono hp ω)) λr hr=>aq hr)
theorem R8(N:Nat)(hN:1000≤N){c:ae}(hc:G 5 aB c):Ok (λr=>G 5 aL r.1) (gY N c):=by
 have hl:=hc.1.1
 unfold gY gY.b
 have hj: ∀b:an,G 5 aL b→Ok (λr=>G 5 aL r.1) (gY.j6 N c (cg,(cT,(bq,(bq,(de,(dk,())))))) b []):=λb hb=>by
  unfold gY.j6 gY.Oe
  obtain⟨b1,b2,b3,b4,b5,b6⟩:=b
  refine bn (len:=c.1.length) (F:=λn i (z:an×List Int)=>gY.l7 N n c (cg,(cT,(bq,(bq,(de,(dk,())))))) z.1 z.2 i) (s:=((b1,(b2,(b3,(b4,(b5,b6))))),_)) (λi z=>G 5 aL z.1∧G i (.slice (.int .i64)) z.2) ⟨hb,G.nil⟩ ω (λn i z hi hI hr=> ?_) (λn z hI=> ?_)
  all_goals unfold gY.l7 gY.p6
  ·have hz:=hI.2.1
   rw[aw (x:=(i:Int)+1) ω ω,af i]
   have hx:G 0 (.int .i64) (c.1.getD (i:Int).toNat aW).2.1:=(G.at hc.1 _).2.1
   exact ax (λ_=>aA ⟨ω,ω⟩ (aF (by rw[aK];omega) (hr (_,_) ⟨⟨hI.1.1,hI.1.2.1,hI.1.2.2.1,hI.1.2.2.2.1,G.nil,hI.1.2.2.2.2.2⟩,G.cat hI.2 (G.one hx (aH 1))⟩))) λ_=>ω
  ·exact ax (λ_=>ω) λ_=>aq ⟨hI.1.1,hI.1.2.1,hI.1.2.2.1,hI.1.2.2.2.1,G.mono hl hI.2,hI.1.2.2.2.2.2⟩
 have AH:L3 5 [((1:Int),((0:Int),(W .i64 (0-c.2.1),()))),((3:Int),((0:Int),(c.2.1,())))]:=G.two (G3 (show aE 1 from bD) bx (gE _)) (G3 (show aE 3 from bD) bx hc.2.1) δ
 exact bw (nM N ω c) (bz (λ_=>aq G.iU) λ_=>bt (λ_=>hj _ ⟨G.nil,G.nil,AH,G.nil,G.nil,G.nil,trivial⟩) λ_=>hj _ G.iU)
end VM
end
