/- A part of the proof of WindDrawn of layer 21: what the functions compute, in plain words. -/
import Derived.Test.YtecmobijochjkaaGreatPlain7
import Derived.Test.YtecmobijochjkaaGreatPlain4
set_option linter.all false
section
namespace VM
open Go VM.F
theorem Ja{a k:Int}: ∀{l:au},gl a k l≠0→ ∃x∈l,x.1=a∧x.2.1=k
 |[],h=>absurd rfl h
 |x::t,h=>by
  rw[gS]at h
  have up:gl a k t≠0→ ∃y∈x::t,y.1=a∧y.2.1=k:=λh=>let⟨y,hy,e⟩:=Ja h;⟨y,a6 _ hy,e⟩
  by_cases e1:x.1=a
  ·rw[aj e1]at h
   by_cases e2:x.2.1=k
   ·exact⟨x,bn ..,e1,e2⟩
   ·rw[ah e2]at h;exact up h
  ·rw[ah e1]at h;exact up h
def PT(b:aq)(k n:Int):Prop:=cQ k n∧jm b.1 b.2.1 k n
theorem aaS{c:ae}{b:aq}(hR:RB c b){k n:Int}(h:gT b.2.2.1 k n≠0):PT b k n:=by
 unfold gT at h
 rw[aj hR.r]at h
 obtain⟨x,hx,e1,e2⟩:=Ja h
 have h1:=(ob hR.r).2 x hx
 have h2:=hR.rk x hx
 rw[e1,e2]at h1 h2
 exact⟨h1,h2⟩
theorem XE{a:aM}(hA:fu a=true){id:Int}{x:bX×Bool}(e:x=e9 a id)(h:x.2=true):p7 a x.1.1:=by
 subst e
 unfold e9 at*
 rw[aj hA]at h ⊢
 have key: ∀l:aM,(tj id l).2=true→(tj id l).1∈l:=by
  intro l
  induction l with
  |nil=>intro h;exact nomatch h
  |cons y t ih=>
   intro h
   rw[nW]at h ⊢
   by_cases e:y.1=id
   ·rw[aj e];exact bn ..
   ·rw[ah e]at h ⊢;exact a6 _ (ih h)
 exact⟨_,key a h,rfl⟩
abbrev T5(b:aq)(k:Nat)(l:bK):Prop:=l.length≤k∧ ∀x∈l,PT b x.2.1 x.2.2.1
theorem T5.mono{b:aq}{j k:Nat}{l:bK}(h:T5 b j l)(hk:j≤k):T5 b k l:=⟨ck h.1 hk,h.2⟩
theorem T5.nil{b:aq}{k:Nat}:T5 b k []:=⟨bo _,λx hx=>nomatch hx⟩
theorem T5.app{b:aq}{k:Nat}{l:bK}(h:T5 b k l){s d n x y:Int}(hx:PT b d n):T5 b (k+1) (l++[(s,(d,(n,(x,(y,())))))]):=
 ⟨by rw[aS,aI];exact Nat.succ_le_succ h.1,λz hz=>by
  rcases bb.1 hz with hz|hz
  ·exact h.2 z hz
  ·rw[bT.1 hz];exact hx⟩
theorem row_in(N:Nat)(hN:200000≤N){c:ae}{l:bK}{b:aq}{m k:Nat}(hm:m≤50000)(hb:G m aK b)(hR:RB c b)(hk:k≤1000000)(hl:T5 b k l)(a d n:Int):Ok (T5 b (k+1)) (KB N l b a d n):=by
 have h1:=hl.1
 unfold KB
 exact bA (Bp N (ck hb.2.2.1.1 ω) hN _ _) (aw (λh=>aC (by rw[aI];omega) (an (T5.app hl (aaS hR ω)))) λ_=>an (T5.mono hl ω))
theorem XF(N:Nat)(hN:5000000≤N){c:ae}{b:aq}{d g:aD}{a:Int}{m:Nat}(hm:m≤50000)(hc:G m aA c)(hb:G m aK b)(hR:RB c b)(hd:L2 m d)(hg:L2 m g):Ok (λr=>T5 b 1000000 r.1∧(r.2=0→jd b.1 a)) (cH N c b a d g):=by
 have h1:=hb.1.1
 have h2:=hd.1
 have h3:=hg.1
 have h4:=hb.2.1.1
 have nil: ∀e:Int,e≠0→Ok (λr:bK×Int=>T5 b 1000000 r.1∧(r.2=0→jd b.1 a)) (some ([],e)):=λe h=>an ⟨T5.nil,λh'=>absurd h' h⟩
 have hj:jd b.1 a→ ∀l:bK,T5 b 1 l→Ok (λr=>T5 b 1000000 r.1∧(r.2=0→jd b.1 a)) (cH.j9 N a d g c b l):=λhMa l hl=>by
  unfold cH.j9 cH.MP
  refine af (row_in N ω hm hb hR ω hl _ _ _) λl hl=>af (row_in N ω hm hb hR ω hl _ _ _) λl hl=>iv (len:=5) (F:=λn k s=>cH.pX N n a d g c b s k) (λk s=>T5 b (3+m*k) s) (λn k s hk hs hr=> ?_) (λn s hs=> ?_) 5 N 1 l ω ω ω (T5.mono hl ω)
  all_goals unfold cH.pX cH.pt
  ·have hmk:m*k≤m*4:=lD m ω
   refine dU (λ_=>af (FZ N hN c hm hb hd _ _) λt ht=> ?_) λ_=>ω
   have htl:=ht.1
   refine bc (len:=t.1.length) (F:=λn' j u=>cH.wE N (cH.pX N n) n' a d g c b u (k:Int) t.1 j) (λj u=>T5 b (3+m*k+j) u) hs ω (λn' j u hj hu eJ=> ?_) (λn' u hu=> ?_)
   all_goals unfold cH.wE cH.vk
   ·rw[ax (x:=(j:Int)+1) ω ω,ag j]
    exact aw (λ_=>aB ⟨ω,ω⟩ (af (row_in N ω hm hb hR ω hu _ _ _) λv hv=>eJ v hv)) λ_=>ω
   ·rw[ax (x:=(k:Int)+1) ω ω,ag k]
    exact aw (λ_=>ω) λ_=>hr u (T5.mono hu (by rw[qy];omega))
  ·refine dU (λ_=>ω) λ_=>bc (len:=b.1.length) (F:=λn j u=>cH.HA N n a g c b u j) (λj u=>T5 b (3+m*5+j) u) hs ω (λn j u hj hu hr=> ?_) (λn u hu=> ?_)
   all_goals unfold cH.HA cH.Ny
   ·have GO:=hu.1
    have hM:PT b 7 (b.1.getD (j:Int).toNat cz).1:=AH hR δ ⟨_,ru hj,rfl⟩
    rw[ax (x:=(j:Int)+1) ω ω,ag j]
    have h0:=hr u (T5.mono hu ω)
    exact aw (λ_=>aB ⟨ω,ω⟩ (af (Kz N _) λ_ _=>bt (λ_=>h0) λ_=>ok_eq (λ_=>h0) λ_=>af (bp N ω hc.2.2.1) λp hp=>af (lY N ω hm hb.2.2.1 _ _) λq hq=>af (bp N ω hq) λq hq=>af (ln N ω ω ω hp hq) λy hy=>af (wP N hy) λv hv=>bt (λ_=>nil _ δ) λ_=>aw (λ_=>aC (by rw[aI];omega) (hr _ (T5.mono (T5.app hu hM) ω))) λ_=>h0)) λ_=>ω
   ·refine aw (λ_=>ω) λ_=>bc (len:=g.length) (F:=λn j u=>cH.MZ N n a g b u j) (λj u=>T5 b (3+m*5+m+j) u) (T5.mono hu ω) ω (λn j u hj hu hr=> ?_) (λn u hu=> ?_)
    all_goals unfold cH.MZ cH.Ke
    ·have GO:=hu.1
     rw[ax (x:=(j:Int)+1) ω ω,ag j]
     have h0:=hr u (T5.mono hu ω)
     dsimp only
     exact aw (λ_=>aB ⟨ω,ω⟩ (af (FW N ω hm hb.2.1 _) λx ⟨hx,Y2⟩=>aB ⟨ω,ω⟩ (aB ⟨ω,ω⟩ (af (lY N ω hm hb.2.2.1 _ _) λq hq=>oZ (λhf=>bx (λ_=>aw (λ_=>aC (by rw[aI];omega) (hr _ (T5.mono (T5.app hu (tF hR (XE hR.a Y2 hf))) ω))) λ_=>h0) λ_=>h0) λ_=>h0)))) λ_=>ω
    ·exact aw (λ_=>ω) λ_=>an ⟨T5.mono hu ω,λ_=>hMa⟩
 unfold cH cH.b
 exact bA (dG N hN hm hb) (bt (λ_=>nil _ δ) λ_=>af (tC N ω ω) λ_ _=>bt (λ_=>nil _ δ) λ_=>af (BD N ω ω) λ_ _=>bt (λ_=>nil _ δ) λ_=>bA (nX N (ck hb.1.1 ω) ω _) (ok_eq (λ_=>nil _ δ) λhs=>have hMa:=(uM hR.m a).1 hs;af (AF N ω hm hb.2.1 _) λh hh=>bx (λ_=>af (row_in N ω hm hb hR ω (T5.nil (k:=0)) _ _ _) λl hl=>hj hMa l hl) λ_=>hj hMa [] T5.nil))
theorem Um(N:Nat)(hN:5000000≤N){c:ae}{b:aq}{d g:aD}{a:Int}{m:Nat}(h2:200≤m)(hm:m≤40000)(hc:G m aA c)(hb:G m aK b)(hR:RB c b)(hd:L2 m d)(hg:L2 m g)(ha:aE a):Ok (λr=>r.2.2=0→RBs c b r.1) (ib N c b a d g):=by
 have dH: ∀e:Int,e≠0→Ok (λr:aq×dJ×Int=>r.2.2=0→RBs c b r.1) (some ((cm,(c8,(bH,(bH,(dC,(dP,())))))),(R0,e))):=λe h=>an λh'=>absurd h' h
 unfold ib ib.b
 refine af (Ok.and (XF N hN ω hc hb hR hd hg) (NB N hN ω hc hb hd hg ha)) λl ⟨⟨⟨_,PV⟩,hMa⟩,hl2⟩=>ok_eq (λh=>dH _ ω) λ_=>ok_eq (λh=>dH _ ω) λ_=>af (IZ N hN c ω hb) λq hq=>bx (λh=>dH _ h) λ_=>bx (λh=>dH _ h) λh0=>af (I0 N hN (Q:=λx=>G 64 sL x∧PT b x.2.1 x.2.2.1) (λx hx=>hx.1.2.2.2.1) (λx v hx hv=>⟨G5q hx.1 hv,hx.2⟩) (λx hx=>⟨G.mono (m:=0) (bo _) (hl2.2 x hx),PV x hx⟩) hq) λz ⟨⟨hzl,B5⟩,GM⟩=>bx (λh=>dH _ h) λ_=> ?_
 have hMa:=hMa h0
 have hF:cQ 2 0∧jm b.1 b.2.1 2 0:=BJ δ
 have hj: ∀(p:bE) (r:dJ) (t:bK) (x k n:Int),PB b.1 b.2.1 p→p.length≤1000→PT b k n→aE x→Ok (λr=>r.2.2=0→RBs c b r.1) (ib.j26 N b (cm,(c8,(bH,(bH,(dC,(dP,())))))) R0 p r t x k n):=λp r t x k n hp G4 hk hx=>by
  unfold ib.j26 ib.aaB
  exact bA (c4 N ω hx.1 hx.2) (af (sB N ω (oD hx) hF hk) λu ⟨hu,GO⟩=>aC ω (af (sA N ω ω hb hR SB.nil (PB.app hp hu) (bo _) (by rw[aS];omega)) λw hw=>bx (λh=>dH _ h) λh0=>an λ_=>hw h0))
 refine bc (len:=z.1.length) (F:=λn i (s:bE×dJ×bK)=>ib.Ir N n a c b (cm,(c8,(bH,(bH,(dC,(dP,())))))) R0 z.1 z.2.1 s.1 s.2.1 s.2.2 i) (s:=(_,(_,_))) (λi s=>(PB b.1 b.2.1 s.1∧s.1.length≤2*i)∧s.2.2.length≤i) ⟨⟨PB.nil,bo _⟩,bo _⟩ ω (λn i s hi hI hr=> ?_) (λn s hI=> ?_)
 all_goals unfold ib.Ir ib.Hp
 all_goals obtain⟨⟨h4,hp⟩,ht⟩:=hI
 ·obtain⟨hx,hk⟩:=B5 _ (ru (d:=mz) hi)
  have hx:aE (z.1.getD i mz).2.2.2.2.1:=hx.2.2.2.2.1
  rw[ax (x:=(i:Int)+1) ω ω,ag i,aJ]
  exact aw (λ_=>aB ⟨ω,ω⟩ (aw (λ_=>aB ⟨ω,ω⟩ (aC (by rw[List.length_singleton];omega) (aB ⟨ω,ω⟩ (aB ⟨ω,ω⟩ (aB ⟨ω,ω⟩ (bA (c4 N ω hx.1 hx.2) (af (sB N ω (oD hx) hk hF) λu ⟨hu,GO⟩=>aC ω (hr (_,(_,_)) ⟨⟨PB.app h4 hu,by dsimp only;rw[List.length_append];omega⟩,by dsimp only;rw[List.length_append,List.length_singleton];omega⟩)))))))) λ_=>hr s ⟨⟨h4,ω⟩,ω⟩)) λ_=>ω
 ·dsimp only
  have hS:cQ 4 0∧jm b.1 b.2.1 4 0:=BJ δ
  exact aw (λ_=>ω) λ_=>bA (c4 N ω GM.1 GM.2) (af (sB N ω (oD GM) hS hF) λu ⟨hu,GO⟩=>aC ω (af (F0 N hN c ω hb) λx hx=>bA (qi N (ck hb.2.1.1 ω) ω _) (bx (λhh=>hj _ _ _ _ _ _ (PB.app h4 hu) (by rw[aS];omega) (tF hR (I9 hh)) hx) λ_=>hj _ _ _ _ _ _ (PB.app h4 hu) (by rw[aS];omega) (AH hR δ hMa) hx)))
end VM
end
section
namespace VM
open Go VM.F
theorem amO{q x:Int}(h0:0≤x)(h1:x<9223372036854775808):aE (sg q x)∧pU (sg q x):=by
 unfold sg aE pU;split<;>omega
theorem XG{t left:Int}{w out:List Int}(f:Full t w w out left)(i:Nat)(hi:i<w.length):0≤out.getD i 0∧out.getD i 0<9223372036854775808:=by
 have c:=f.c
 have h1:=c.le i hi
 have h2:=(c.pc i).2
 have h3:=c.po i
 omega
theorem Un(N:Nat){a q:Int}{accs out:List Int}(hl:accs.length=out.length)(hle:out.length≤1000)(ho: ∀i,i<out.length→0≤out.getD i 0∧out.getD i 0<9223372036854775808)(s:au)(hs:s.length≤1000)(hN:200000≤N):
  fA.Uc N N a q accs out s 0=some (s++zc a q (out.zip accs),0):=by
 have hz:(out.zip accs).length=out.length:=by rw[vC];omega
 have:=nV (out.zip accs) (0,0) (λn i s=>fA.Uc N n a q accs out s i) (λt s=>some (s++zc a q t,(0:Int))) (λi (s:au)=>s.length≤1000+i) (λn i s hi hI hr=> ?_) (λn s hI=> ?_) out.length N 0 s ω ω ω ω
 ·exact this
 ·unfold fA.Uc fA.Xj
  have mX:i<out.length:=ω
  have h2:=ho i mX
  rw[aT ω,ak,aW ω ω,ak,aJ,aW ω ω,ak,ax (x:=(i:Int)+1) ω ω,ag i,ax (x:=0-out.getD i 0) ω ω,WU mX ω,DS]
  dsimp only
  rw[ak,bL (by rw[aI];omega),ak,bL (by rw[aI];omega),ak]
  have e:sg q (out.getD i 0)=if q<0 then 0-out.getD i 0 else out.getD i 0:=rfl
  rw[cO,cond_not,cond_not,aN,aN]
  have fin:(if sg q (out.getD i 0)=0 then fA.Uc N n a q accs out s ((i+1:Nat):Int)else fA.Uc N n a q accs out (s++[(accs.getD i 0,(a,(sg q (out.getD i 0),())))]) ((i+1:Nat):Int))=some (s++(if sg q (out.getD i 0)=0 then zc a q ((out.zip accs).drop (i+1))else(accs.getD i 0,(a,(sg q (out.getD i 0),())))::zc a q ((out.zip accs).drop (i+1))),(0:Int)):=by
   by_cases h:sg q (out.getD i 0)=0
   ·rw[aj h,aj h];exact hr s ω
   ·rw[ah h,ah h,hr _ (by rw[aS,aI];omega),br];rfl
  refine Eq.trans ?_ fin
  by_cases h:q<0
  ·rw[aj h,e,aj h]
  ·rw[ah h,e,ah h]
 ·unfold fA.Uc fA.Xj
  rw[hz,aP ω,av]
  show _=some (s++[],(0:Int))
  rw[ch]
theorem Sk{l:au}(h: ∀x∈l,aE (dZ x)∧pU (dZ x))(a b:Int):aE (fx l a b)∧pU (fx l a b):=by
 have key: ∀l:au,(∀x∈l,aE (dZ x)∧pU (dZ x))→aE (gl a b l)∧pU (gl a b l):=by
  intro l
  induction l with
  |nil=>intro _;show aE 0∧pU 0;decide
  |cons x t ih=>
   intro h
   have ih:=ih (λy hy=>h y (a6 _ hy))
   rw[gS]
   split
   ·split
    ·exact h x (bn ..)
    ·exact ih
   ·exact ih
 unfold fx
 split
 ·exact key l h
 ·decide
theorem KK(l:au):(yl l).length=l.length:=cv ..
theorem AI(l:au):(iZ l).length=l.length:=cv ..
theorem Jb{q:Int}(h:aE q∧pU q):(q.natAbs:Int)<9223372036854775808:=by unfold aE pU at h;omega
theorem KL{l:au}(hk:cZ l=true)(hq:ec l): ∀x∈l,aE (dZ x)∧pU (dZ x):=λx hx=>⟨hq x hx,((eG hk).2 x hx).2⟩
theorem Jc{l:au}(hk:cZ l=true)(hq:ec l){a q:Int}(nF:aE q∧pU q)(hc:(jD l a q).2.2=0):
  Full (q.natAbs:Int) (iZ (fM a q l)) (iZ (fM a q l)) (jD l a q).1 (jD l a q).2.1∧(jD l a q).1.length=(fM a q l).length∧(jD l a q).1.length≤64∧ ∀i,i<(jD l a q).1.length→0≤(jD l a q).1.getD i 0∧(jD l a q).1.getD i 0<9223372036854775808:=by
 have f:Full (q.natAbs:Int) (iZ (fM a q l)) (iZ (fM a q l)) (jD l a q).1 (jD l a q).2.1:=FT (Jb nF) (By (KL hk hq) a q) hc
 have h1:=f.c.l2
 have h2:=f.c.n
 rw[AI]at h1 h2
 exact⟨f,h1,ω,λi hi=>XG f i (by rw[AI];omega)⟩
theorem XH{l:au}(h:cZ l=true): ∀x∈l,dZ x≠0:=λx hx=>by
 unfold cZ at h
 rw[gg]at h
 obtain⟨i,hi,e⟩:=gd hx
 have:=bz h i hi
 unfold lf lT at this
 rw[aU,bm hi]at this
 simp only[mO,e]at this
 exact this.2.1
theorem XI{x:Int}(h:aE x∧pU x):mx x (W .i64 (0-x))=(x.natAbs:Int):=by
 unfold aE pU at h
 rw[ax ω ω,UX];split<;>omega
theorem NP{x q:Int}(hx:x≠0)(hq:q≠0):Ht x q↔ ¬((0<x)↔(0<q)):=by
 unfold Ht;omega
theorem XJ(N:Nat)(hN:5000000≤N)(c:ae){b:aq}(w:g8 b)(a:Int):fA N c b a=some (uH c b a):=by
 unfold fA fA.b uH
 rw[Ae N ω w,ar,DQ N w.s ω,ar,cond_not,cO,cF,aN]
 by_cases hB:dx c b=false
 ·rw[hB];rfl
 rw[Ef]at hB
 rw[hB,ak,aj rfl]
 obtain⟨_,hk⟩:=gk hB
 have hq:=KL hk w.qs
 have hnz:=XH hk
 have hh:=Sk hq 0 a
 have hlen:=w.s
 have hqs:=w.qs
 generalize fx b.2.2.2.1 0 a=q at*
 by_cases h1:a<0
 ·rw[aj h1,aj h1]
 rw[ah h1,ah h1]
 by_cases h2:(c.1.length:Int)≤a
 ·rw[aj h2,aj h2]
 rw[ah h2,ah h2]
 by_cases h3:q=0
 ·rw[aj h3,aj h3]
 rw[ah h3,ah h3]
 have nB:=hh.1
 unfold aE at nB
 have hqn:q≠ -9223372036854775808:=hh.2
 have:=nV b.2.2.2.1 bl (λn i (z:au)=>fA.BA N n a b q (yl z) (iZ z) i)
  (λt z=>some (if(jD b.2.2.2.1 a q).2.2=0 then(aad b.2.2.2.1 a q,0)else([],(jD b.2.2.2.1 a q).2.2))) (λi z=>z++fM a q (b.2.2.2.1.drop i)=fM a q b.2.2.2.1∧z.length≤i)
  (λn i z hi hI hr=> ?_) (λn z hI=> ?_) b.2.2.2.1.length N 0 [] ω ω ω ⟨rfl,aG _⟩
 ·exact this
 ·unfold fA.BA fA.yO
  obtain⟨i1,i2⟩:=hI
  have hm:b.2.2.2.1.getD i bl∈b.2.2.2.1:=by
   rw[aU,bm hi];exact dz hi
  have hx:=hq _ hm
  have hn:=hnz _ hm
  rw[drop_cons hi bl,q6]at i1
  rw[aT ω,ak,aW ω ω,ak,aJ,ax (x:=(i:Int)+1) ω ω,ag i]
  generalize b.2.2.2.1.getD i bl=x at*
  have K7:mx x.2.2.1 (W .i64 (0-x.2.2.1))=(x.2.2.1.natAbs:Int):=XI hx
  rw[bL (by rw[KK,aI];omega),ak,K7]
  dsimp only
  rw[bL (by rw[AI,aI];omega),ak,cond_not,aN,aN,cond_not,oO,tN,tN]
  by_cases e1:x.1=0
  ·rw[aj e1]
   rw[ah (λh=>h.1 e1)]at i1
   exact hr z ⟨i1,ω⟩
  ·rw[ah e1]
   by_cases e2:x.2.1=a
   ·rw[aj e2]
    by_cases e3:Ht (dZ x) q
    ·have eb:(decide (0<x.2.2.1)==decide (0<q))=false:=by
      have e3:=(NP hn h3).1 e3
      unfold dZ at e3
      by_cases g1:0<x.2.2.1<;>by_cases g2:0<q
      ·exact absurd ⟨λ_=>g2,λ_=>g1⟩ e3
      ·rw[bs g1,cj g2];rfl
      ·rw[cj g1,bs g2];rfl
      ·exact absurd ⟨λh=>absurd h g1,λh=>absurd h g2⟩ e3
     rw[eb,av]
     rw[aj ⟨e1,e2,e3⟩]at i1
     have:=hr (z++[x]) ⟨by rw[br];exact i1,by rw[aS,aI];omega⟩
     unfold yl iZ at this
     rw[cW,cW]at this
     exact this
    ·have eb:(decide (0<x.2.2.1)==decide (0<q))=true:=by
      have e3:=Ee.1 (λh=>e3 ((NP hn h3).2 h))
      unfold dZ at e3
      rw[show decide (0<x.2.2.1)=decide (0<q)from oF.2 e3]
      exact sS _
     rw[eb,ak]
     rw[ah (λh=>e3 h.2.2)]at i1
     exact hr z ⟨i1,ω⟩
   ·rw[ah e2]
    rw[ah (λh=>e2 h.2.1)]at i1
    exact hr z ⟨i1,ω⟩
 ·unfold fA.BA fA.yO
  obtain⟨i1,i2⟩:=hI
  rw[mM]at i1
  have ez:z=fM a q b.2.2.2.1:=by rw[←i1];exact(ch _).symm
  subst ez
  have sP:=AI (fM a q b.2.2.2.1)
  have G4:=IP a q b.2.2.2.1
  rw[aP ω,av,XI hh,FR N hN (Jb hh) (By hq a q) (By hq a q) (by rw[sP];omega),ar,cond_not,aN,ax (x:=0-q) ω ω]
  show(if(jD b.2.2.2.1 a q).2.2=0 then _ else _)=_
  by_cases h4:(jD b.2.2.2.1 a q).2.2=0
  ·rw[aj h4,aj h4]
   obtain⟨f,g1,g2,g3⟩:=Jc hk hqs hh h4
   exact Un N (by rw[KK];omega) ω g3 _ (by simp) ω
  ·rw[ah h4,ah h4];rfl
end VM
end
section
namespace VM
open Go VM.F Go.RowKit
structure yn(s:au)(n:Nat):Prop where
 place: ∀x∈s,bI x.1 x.2.1
 q: ∀x∈s,aE (dZ x)∧pU (dZ x)
 len:s.length≤n
 flat: ∀i:Int,(c5 i s).sum=0
theorem yn.nil(n:Nat):yn [] n:=⟨λx hx=>(nomatch hx),λx hx=>(nomatch hx),bo _,λi=>rfl⟩
theorem yn.app{s t:au}{n m k:Nat}(a:yn s n)(b:yn t m)(h:n+m≤k):yn (s++t) k:=
 ⟨λx hx=>(bb.1 hx).elim (a.place x) (b.place x),λx hx=>(bb.1 hx).elim (a.q x) (b.q x),by rw[aS];have:=a.len;have:=b.len;omega,λi=>by rw[yj,lH,a.flat,b.flat];rfl⟩
theorem QJ(a q i:Int): ∀t:List (Int×Int),(c5 i (zc a q t)).sum=if a=i then sg q (t.map (·.1)).sum else 0
 |[]=>by
  show(0:Int)=if a=i then sg q 0 else 0
  unfold sg;split<;>(try split)<;>rfl
 |p::t=>by
  have ih:=QJ a q i t
  have hs:sg q ((p::t).map (·.1)).sum=sg q p.1+sg q (t.map (·.1)).sum:=by
   rw[bU,cy];unfold sg;split<;>omega
  rw[DS,hs]
  by_cases h:sg q p.1=0
  ·rw[aj h,ih,h];split<;>omega
  ·rw[ah h,df]
   dsimp only
   by_cases e:a=i
   ·rw[aj e,aj e,cy,ih,aj e];rfl
   ·rw[ah e,ah e,ih,ah e]
theorem KM{a q:Int}{x:db}: ∀{t:List (Int×Int)},x∈zc a q t→ ∃p∈t,x=(p.2,(a,(sg q p.1,())))
 |[],h=>nomatch h
 |p::t,h=>by
  rw[DS]at h
  split at h
  ·obtain⟨p',hp,e⟩:=KM h
   exact⟨p',a6 _ hp,e⟩
  ·rcases aX.1 h with e|h
   ·exact⟨p,bn ..,e⟩
   ·obtain⟨p',hp,e⟩:=KM h
    exact⟨p',a6 _ hp,e⟩
theorem XK(a q:Int): ∀t:List (Int×Int),(zc a q t).length≤t.length
 |[]=>aG _
 |p::t=>by
  have:=XK a q t
  rw[DS,aR]
  split
  ·omega
  ·rw[aR];omega
theorem NQ{c:ae}{b:aq}(h:dx c b=true):nZ b.2.2.2.1=true∧fI c=true:=by
 unfold dx at h
 have h0:=cN.1 h
 have h1:=(cN.1 h0.2).2
 have h2:=cN.1 h1
 exact⟨(cN.1 (cN.1 h2.2).2).1,h0.1⟩
theorem XL{c:ae}{b:aq}(hB:dx c b=true)(w:g8 b){a:Int}(h:(uH c b a).2=0):yn (uH c b a).1 65:=by
 obtain⟨_,hk⟩:=gk hB
 obtain⟨hf,G4⟩:=NQ hB
 have hq:=KL hk w.qs
 have hh:=Sk hq 0 a
 obtain⟨hs,GC⟩:=eG hk
 unfold uH at h ⊢
 rw[aj hB]at h ⊢
 by_cases h1:a<0
 ·rw[aj h1];exact yn.nil _
 rw[ah h1]at h ⊢
 by_cases h2:(c.1.length:Int)≤a
 ·rw[aj h2];exact yn.nil _
 rw[ah h2]at h ⊢
 by_cases h3:fx b.2.2.2.1 0 a=0
 ·rw[aj h3];exact yn.nil _
 rw[ah h3]at h ⊢
 by_cases h4:(jD b.2.2.2.1 a (fx b.2.2.2.1 0 a)).2.2=0
 ·rw[aj h4]
  have ahZ:gl 0 a b.2.2.2.1=fx b.2.2.2.1 0 a:=by unfold fx;rw[hk];rfl
  have hn6:a<6:=by
   unfold fI at G4
   have:=(bz (cN.1 G4).1).2
   omega
  have hz:(c5 a b.2.2.2.1).sum=0:=by
   unfold nZ at hf
   have RD:=bz (cN.1 hf).1 a.toNat (by unfold kb;omega)
   unfold sH dw sm at RD
   rw[hk,aj rfl,show((a.toNat:Nat):Int)=a by omega]at RD
   exact RD
  generalize fx b.2.2.2.1 0 a=q at*
  obtain⟨f,g1,g2,g3⟩:=Jc hk w.qs hh h4
  have amP:=WT f (Qp hs hz ahZ h3)
  have Ho:=f.c.s
  rw[amP,kz]at Ho
  have hzl:((jD b.2.2.2.1 a q).1.zip (yl (fM a q b.2.2.2.1))).map (·.1)=(jD b.2.2.2.1 a q).1:=List.map_fst_zip (by rw[KK];omega)
  have hsg:sg q (q.natAbs:Int)=q:=by unfold sg;split<;>omega
  have hzz: ∀x∈zc a q ((jD b.2.2.2.1 a q).1.zip (yl (fM a q b.2.2.2.1))),bI x.1 x.2.1∧aE (dZ x)∧pU (dZ x):=λx hx=>by
   obtain⟨p,hp,rfl⟩:=KM hx
   obtain⟨i,hi,e⟩:=gd hp
   rw[vC]at hi
   have e':=WU (out:=(jD b.2.2.2.1 a q).1) (accs:=yl (fM a q b.2.2.2.1)) (i:=i) ω ω
   rw[aU,bm (by rw[vC];omega)]at e'
   have ep:p=_:=e.symm.trans e'
   have hr:=g3 i ω
   rw[ep]
   refine⟨?_,amO hr.1 hr.2⟩
   have hm:(yl (fM a q b.2.2.2.1)).getD i 0∈yl (fM a q b.2.2.2.1):=by
    rw[aU,bm ω];exact dz _
   obtain⟨y,hy,ey⟩:=cC.1 hm
   have Rn:=tz hy
   have hpy:=(GC y Rn.1).1
   have g: ∀u v z:Int,bI u v→v=a→u=z→bI z a:=λu v z h e1 e2=>by rw[←e1,←e2];exact h
   exact g _ _ _ hpy Rn.2.2 ey
  refine⟨λx hx=> ?_,λx hx=> ?_,?_,λi=> ?_⟩
  ·rcases aX.1 hx with e|hx
   ·rw[e];show bI 0 a;unfold bI;omega
   ·exact(hzz x hx).1
  ·rcases aX.1 hx with e|hx
   ·rw[e];exact TH hh
   ·exact(hzz x hx).2
  ·unfold aad
   rw[aR]
   have:=XK a q ((jD b.2.2.2.1 a q).1.zip (yl (fM a q b.2.2.2.1)))
   rw[vC]at this
   omega
  ·unfold aad
   rw[df]
   dsimp only
   by_cases e:a=i
   ·rw[aj e,cy,QJ,aj e,hzl,Ho,hsg]
    show 0-q+q=0
    omega
   ·rw[ah e,QJ,ah e]
 ·rw[ah h4]at h
  exact absurd h h4
namespace Pure
end Pure
end VM
end
section
namespace VM
open Go VM.F
theorem aaT{c:ae}{b:aq}(hR:RB c b)(w:g8 b){a:Int}(ha:0≤a∧n0 a c.1.length)(h:(uH c b a).2=0):SB c b.2.1 (uH c b a).1∧(uH c b a).1.length≤65:=by
 have I:=XL (wU.2 hR) w h
 refine⟨⟨λx hx=>(I.q x hx).1,λx hx=>⟨I.place x hx,?_⟩,I.flat⟩,I.len⟩
 have pos: ∀y∈b.2.2.2.1,dw y.1 0∨p7 b.2.1 y.1:=λy hy=>(hR.sk y hy).1
 unfold uH at hx h
 rw[aj (wU.2 hR)]at hx h
 by_cases h1:a<0
 ·exact absurd ha.1 ω
 by_cases h2:(c.1.length:Int)≤a
 ·have:=ha.2;unfold n0 at this;omega
 rw[ah h1,ah h2]at hx h
 by_cases h3:fx b.2.2.2.1 0 a=0
 ·rw[aj h3]at hx;exact nomatch hx
 rw[ah h3]at hx h
 generalize fx b.2.2.2.1 0 a=q at*
 by_cases h4:(jD b.2.2.2.1 a q).2.2=0
 ·rw[aj h4]at hx
  rcases aX.1 hx with rfl|hx
  ·exact⟨.inl rfl,ha.2⟩
  ·obtain⟨p,hp,rfl⟩:=KM hx
   obtain⟨y,hy,e⟩:=cC.1 (List.of_mem_zip hp).2
   refine⟨?_,ha.2⟩
   dsimp only
   rw[←e]
   exact pos y (tz hy).1
 ·rw[ah h4]at hx;exact nomatch hx
theorem aaU(N:Nat)(hN:5000000≤N){c:ae}{b:aq}{m:Nat}(hm:m≤7000)(hb:G m aK b)(hR:RB c b):Ok (I6 c b) (nw N c b):=by
 have w:=(G.wf ω hb).w
 have hci:c.1.length≤6:=by
  have:=hR.c
  unfold fI at this
  exact(bz (cN.1 this).1).2
 unfold nw nw.b
 refine bA (dG N hN ω hb) (bt (λ_=>I6.bad δ) λ_=>bc (len:=c.1.length) (F:=λn i s=>nw.l5 N n c b (cm,(c8,(bH,(bH,(dC,(dP,())))))) s i) (λi s=>SB c b.2.1 s∧s.length≤65*i) ⟨SB.nil,bo _⟩ ω (λn i s hi hI hr=> ?_) (λn s hI=> ?_))
 all_goals unfold nw.l5 nw.dV
 all_goals obtain⟨i1,i2⟩:=hI
 ·rw[ax (x:=(i:Int)+1) ω ω,ag i]
  exact aw (λ_=>bA (XJ N hN c w _) (bx (λh=>I6.bad h) λh=>have J:=aaT hR w ⟨ω,show(i:Int)<c.1.length by omega⟩ h;aC ω (hr _ ⟨SB.app i1 J.1,by rw[aS];omega⟩))) λ_=>ω
 ·exact aw (λ_=>ω) λ_=>af (sA N ω ω hb hR i1 PB.nil ω (bo _)) λr hr=>an hr
end VM
end
section
namespace VM
open Go VM.F
def nH(c:ae)(m:Nat)(s:aQ):Prop:=RB c s.2.2.1∧(1≤s.2.1∧s.2.1≤2000*(m:Int))∧(s.2.2.2.1.2.2.2.2.1.length≤4∧ ∀x∈s.2.2.2.1.2.2.2.2.1,Hw c x)∧s.2.2.2.1.2.2.2.2.2.1.length≤12
abbrev SI(c:ae)(m:Nat)(r:aQ×db):Prop:=r.2.1=0→nH c m r.1
theorem nH.up{c:ae}{m:Nat}{s:aQ}(h:nH c m s):nH c (m+1) s:=⟨h.1,⟨h.2.1.1,fD h.2.1.2 ω⟩,h.2.2⟩
theorem nH.add{n k:Int}{m:Nat}(h:1≤n∧n≤2000*(m:Int))(hm:m≤999)(hk:0≤k∧k≤2000):1≤W .i64 (n+k)∧W .i64 (n+k)≤2000*((m+1:Nat):Int):=by
 rw[ax ω ω];omega
theorem Sl{c:ae}:([]:aM).length≤4∧ ∀x∈([]:aM),Hw c x:=⟨bo _,λx hx=>nomatch hx⟩
theorem gX{c:ae}{m N:Nat}{e:Int}{x:aQ}(h:e=0→nH c m x):Ok (SI c m) ((fm N e).bind λr=>some (x,r)):=by
 unfold fm;exact an h
theorem dK{c:ae}{m N:Nat}{e:Int}{x:aQ}(h:e≠0):Ok (SI c m) ((fm N e).bind λr=>some (x,r)):=gX λh'=>absurd h' h
theorem XM(N:Nat)(hN:200000≤N){s:aQ}(hl:s.2.2.1.2.1.length≤100000)(k:Int):Qy N s k=some (e9 s.2.2.1.2.1 k).2:=by
 unfold Qy;rw[wA N hl hN];rfl
theorem Uo(N:Nat)(hN:200000≤N){s:aQ}(hl:s.2.2.1.1.length≤100000)(k:Int):F1 N s k=some (fZ s.2.2.1.1 k):=by
 unfold F1;rw[nX N hl hN];rfl
theorem KN(N:Nat)(hN:4000000≤N){c:ae}{s:aQ}{m:Nat}(hm:m≤50000)(hs:GS m s)(hR:nH c m s){a b d e q:Int}(hq:aE q)(h1:cQ a b∧jm s.2.2.1.1 s.2.2.1.2.1 a b)(h2:cQ d e∧jm s.2.2.1.1 s.2.2.1.2.1 d e):Ok (SI c (m+1)) (NG N s a b d e q):=by
 unfold NG
 exact bA (c4 N ω hq.1 hq.2) (af (sB N hN (oD hq) h1 h2) λp ⟨hp,G4⟩=>af (sA N hN hm hs.2.2.1 hR.1 SB.nil hp (bo _) ω) λr hr=>an λh=>⟨(hr h).1,hR.up.2⟩)
theorem Up(N:Nat)(hN:5000000≤N){c:ae}{s:aQ}{e:gJ}{m:Nat}(h2:200≤m)(hm:m≤999)(hc:G m aA c)(hs:GS m s)(hR:nH c m s)(he:G 0 kO e):Ok (SI c (m+1)) (ny N c s e):=by
 have hhl:=hs.2.2.2.1.2.2.2.2.1.1
 unfold ny ny.b
 generalize ((0:Int),((0:Int),_))=S0
 refine bc (len:=s.2.2.2.1.2.2.2.2.1.length) (F:=λn i (z:aQ×aM×Bool×Int)=>ny.l5 N n c z.1 e S0 bl z.2.1 z.2.2.1 z.2.2.2 i) (s:=(_,(_,(_,_)))) (λi z=>(GS m z.1∧nH c m z.1)∧z.1.2.2.2.1.2.2.2.2.1=s.2.2.2.1.2.2.2.2.1∧(G i (.slice ej) z.2.1∧ ∀x∈z.2.1,Hw c x)) ⟨⟨hs,hR⟩,rfl,G.nil,λx hx=>nomatch hx⟩ ω (λn i z hi hI hr=> ?_) (λn z hI=> ?_)
 all_goals unfold ny.l5 ny.dV
 ·obtain⟨⟨hz,hzR⟩,hh,ho,hog⟩:=hI
  have HX:=ho.1
  rw[hh,ax (x:=(i:Int)+1) ω ω,ag i]
  have hx:G 0 ej (s.2.2.2.1.2.2.2.2.1.getD (i:Int).toNat aV):=G.at hs.2.2.2.1.2.2.2.2.1 _
  have hxg:Hw c (s.2.2.2.1.2.2.2.2.1.getD (i:Int).toNat aV):=hR.2.2.1.2 _ (ru hi)
  have snoc: ∀x:bX,Hw c x→ ∀y∈z.2.1++[x],Hw c y:=λx hx y hy=>(bb.1 hy).elim (hog y) λhy=>by rw[bT.1 hy];exact hx
  have hxm:G m ej (s.2.2.2.1.2.2.2.2.1.getD (i:Int).toNat aV):=G.mono (bo m) hx
  refine aw (λ_=>aB ⟨ω,ω⟩ (ok_eq (λ_=>af (Ok.and (R7 N hN h2 ω hc hz.2.2.1 hxm he.2.2.1 he.2.2.2.2.2.2.1 he.2.2.2.2.2.2.2.1) (aaM N hN h2 ω hc hz.2.2.1 hzR.1 hxm he.2.2.1 he.2.2.2.2.2.2.1 he.2.2.2.2.2.2.2.1)) λr ⟨⟨zX,yv⟩,Sa⟩=>bx (λh=>dK h) λh0=> ?_) λ_=>aw (λ_=>aC (by rw[aI];omega) (hr (z.1,(z.2.1++[s.2.2.2.1.2.2.2.2.1.getD (i:Int).toNat aV],z.2.2)) ⟨⟨hz,hzR⟩,hh,G.cat ho (G.one hx (aG 1)),snoc _ hxg⟩)) λ_=>hr z ⟨⟨hz,hzR⟩,hh,G.mono ω ho,hog⟩)) λ_=>ω
  have CY:GS m (z.1.1,(z.1.2.1,(r.1,z.1.2.2.2))):=⟨hz.1,hz.2.1,zX,hz.2.2.2⟩
  have amR:nH c m (z.1.1,(z.1.2.1,(r.1,z.1.2.2.2))):=⟨(Sa h0).1,hzR.2⟩
  have ahW:G 0 ej r.2.1:=yv
  exact aw (λhq=>aC (by rw[aI];omega) (hr ((z.1.1,(z.1.2.1,(r.1,z.1.2.2.2))),(z.2.1++[r.2.1],(true,r.2.1.2.2.2.1))) ⟨⟨CY,amR⟩,hh,G.cat ho (G.one ahW (aG 1)),snoc _ ⟨by rw[(Sa h0).2.1];exact hxg.1,hq,(Sa h0).2.2⟩⟩)) λ_=>hr ((z.1.1,(z.1.2.1,(r.1,z.1.2.2.2))),(z.2.1,(true,r.2.1.2.2.2.1))) ⟨⟨CY,amR⟩,hh,G.mono ω ho,hog⟩
 ·obtain⟨⟨hz,hzR⟩,hh,ho,hog⟩:=hI
  rw[hh]
  exact aw (λ_=>ω) λ_=>bt (λ_=>dK δ) λ_=>an λ_=>⟨hzR.1,hzR.up.2.1,⟨ck ho.1 hR.2.2.1.1,hog⟩,hzR.2.2.2⟩
theorem XN(N:Nat)(hN:5000000≤N){c:ae}{s:aQ}{e:gJ}{m:Nat}(h2:200≤m)(hm:m≤999)(hc:G 5 aA c)(hs:GS m s)(hR:nH c m s)(he:G 0 kO e):Ok (SI c (m+1)) (nz N c s e):=by
 have DF:G m aA c:=G.mono ω hc
 have hk:=hs.2.2.2.1
 have hb:=hs.2.2.1
 have up:=hR.up.2
 unfold nz nz.b
 refine ok_eq (λ_=> ?_) λ_=>ok_eq (λ_=> ?_) λ_=>ok_eq (λ_=> ?_) λ_=>ok_eq (λ_=> ?_) λ_=>ok_eq (λ_=> ?_) λ_=>ok_eq (λ_=> ?_) λ_=>ok_eq (λ_=> ?_) λ_=>ok_eq (λ_=> ?_) λ_=>gX λ_=>hR.up
 ·exact af (aaQ N hN ω DF hb hR.1 _ _ _) λr hr=>gX λh=>⟨hr h,up⟩
 ·exact af (aaR N hN h2 ω DF hb hR.1 _) λr hr=>gX λh=>⟨(hr h).1,up⟩
 ·exact af (IT N hN c hc.2.2.2.2.2.2.1 ω hb _) λr hr=>an λ_=>⟨hR.1,nH.add hR.2.1 hm (by have:=hr.1.1;omega),⟨hr.1.1,hr.2⟩,hR.2.2.2⟩
 ·exact af (Up N hN h2 ω DF hs hR he) λr hr=>an hr
 ·exact ok_eq (λ_=>dK δ) λ_=>af (R9 N hN h2 ω DF hb hs.2.1) λl ⟨hl,ar4⟩=>bx (λh=>dK h) λ_=>af (tD N ω hs.1 hc.2.2.2.2.1) λt ht=>bt (λ_=>dK δ) λ_=>af (R8 N hN c ω hb) λu hu=>an λ_=>⟨hR.1,nH.add hR.2.1 hm ω,Sl,ar4⟩
 ·have hx:G 0 ej (s.2.1,(e.2.2.2.2.2.1,(e.2.1,(e.2.2.2.2.2.2.2.1,())))):=⟨hs.2.1,he.2.2.2.2.2.1,he.2.1,he.2.2.2.2.2.2.2.1,trivial⟩
  exact af (IY N hN ω ω DF hb hk.2.2.2.2.2.1 hk.2.2.2.2.2.2.1 hx) λr hr=>an λ_=>⟨hR.1,nH.add hR.2.1 hm δ,hR.2.2⟩
 ·refine af (Ok.and (NC N hN c h2 ω hb hk.2.2.2.2.2.1 hk.2.2.2.2.2.2.1) (XD N hN h2 ω hb hR.1 hk.2.2.2.2.2.1 hk.2.2.2.2.2.2.1)) λr ⟨⟨zX,yv⟩,Sa⟩=>bx (λh=>dK h) λh0=>af (NA N ω c h2 ω hk.2.2.2.2.2.2.2.2.1 hk.2.2.2.2.2.2.2.1.1 yv hk.2.2.2.2.2.2.1) λd hd=> ?_
  generalize ((0:Int),((0:Int),_))=S0
  have HM:=yv.1
  refine bc (len:=r.2.1.length) (F:=λn i q=>nz.l41 N n _ S0 bl r.2.1 q i) (λ_ _=>True) trivial ω (λn i q hi _ eJ=> ?_) (λn q _=> ?_)
  all_goals unfold nz.l41 nz.aaE
  ·rw[ax (x:=(i:Int)+1) ω ω,ag i]
   exact aw (λ_=>aB ⟨ω,ω⟩ (ok_eq (λ_=>eJ _ trivial) λ_=>eJ _ trivial)) λ_=>ω
  ·exact aw (λ_=>ω) λ_=>an λ_=>⟨(Sa h0).1,up.1,hR.2.2.1,(Sa h0).2⟩
 ·exact af (Ok.and (I1 N hN h2 ω DF hb hk.2.2.2.2.2.2.2.2.1 hk.2.2.2.2.2.2.2.2.2.1 hk.1) (Um N hN h2 ω DF hb hR.1 hk.2.2.2.2.2.2.2.2.1 hk.2.2.2.2.2.2.2.2.2.1 hk.1)) λr ⟨⟨zX,yv⟩,Sa⟩=>bx (λh=>dK h) λh0=>af (Ok.and (Sd N hN h2 ω hc zX) (aaU N hN ω zX (Sa h0).1)) λb ⟨hb,tI⟩=>bx (λh=>dK h) λh1=>af (Sh N ω (ck hb.1.1 ω) _ _) λu hu=>an λh=>have B:=(tI h1).1;⟨B.Uj (hu h).1 B.a (hu h).2.1 (λ_ h=>h) λx hx=>(hu h).2.1 _ (B.ma x hx),up.1,Sl,bo _⟩
theorem XO(N:Nat)(hN:5000000≤N){c:ae}{s:aQ}{e:gJ}{m:Nat}(h2:200≤m)(hm:m≤999)(hc:G 5 aA c)(hs:GS m s)(hR:nH c m s)(he:G 0 kO e):Ok (SI c (m+1)) (pE N c s e):=by
 obtain⟨s1,s2,s3,⟨k1,k2,k3,k4,k5,k6,k7,k8,k9,Uf,Xn⟩,s5⟩:=hs
 have hs:GS m s:=⟨s1,s2,s3,⟨k1,k2,k3,k4,k5,k6,k7,k8,k9,Uf,Xn⟩,s5⟩
 have up:=hR.up.2
 unfold pE pE.b
 have hj: ∀(S0:aQ) (z:db),Ok (SI c (m+1)) (pE.T7 N c s e S0 z):=λS0 z=>by
  unfold pE.T7 pE.Nz
  exact af (NF N _ _) λ_ _=>bt (λ_=>dK δ) λ_=>af (XN N hN h2 hm hc hs hR he) λr hr=>an hr
 have mem: ∀{x:aD},G m (.slice js) x→G m aK ((x,s.2.2.1.2):aq):=λh=>⟨h,s3.2⟩
 have rb: ∀{x:aD},dp x=true→(∀n,jd s.2.2.1.1 n→jd x n)→RB c ((x,s.2.2.1.2):aq):=λh1 h2=>hR.1.Uj h1 hR.1.a h2 (λ_ h=>h) λx hx=>h2 _ (hR.1.ma x hx)
 have GW:=λk:Int=>Ok.and (Kx N ω (m:=m) ω s3.1 e.2.1 k) (Sh N ω (ck s3.1.1 ω) e.2.1 k)
 have hd: ∀z:aD×Int,G m (.slice js) z.1∧(z.2=0→dp z.1=true∧(∀n,jd s.2.2.1.1 n→jd z.1 n)∧jd s.2.2.1.1 e.2.1)→Ok (SI c (m+1)) (cond (aO z.2 0) (cond (aO e.1 11) ((Ky N c (z.1,s.2.2.1.2) e.2.1).bind λr2=>cond (aO s.2.2.2.1.2.1 3) ((o4 N s.2.2.2.1.2.2.2.2.2.2.1 e.2.1).bind λr3=>(fm N z.2).bind λr4=>some ((s.1,(s.2.1,(r2.1,((s.2.2.2.1.1,(s.2.2.2.1.2.1,(s.2.2.2.1.2.2.1,(s.2.2.2.1.2.2.2.1,(s.2.2.2.1.2.2.2.2.1,(s.2.2.2.1.2.2.2.2.2.1,(r3,s.2.2.2.1.2.2.2.2.2.2.2))))))),s.2.2.2.2)))),r4)) ((fm N z.2).bind λr5=>some ((s.1,(s.2.1,(r2.1,s.2.2.2))),r5))) ((fm N z.2).bind λr6=>some ((s.1,(s.2.1,((z.1,s.2.2.1.2),s.2.2.2))),r6))) ((fm N z.2).bind λr7=>some ((s.1,(s.2.1,((z.1,s.2.2.1.2),s.2.2.2))),r7))):=λz ⟨hz,hi⟩=>
  ok_eq (λh0=>have B:=rb (hi h0).1 (hi h0).2.1;ok_eq (λ_=>af (NO N hN (m:=m) ω (mem hz) B _ ((hi h0).2.1 _ (hi h0).2.2)) λb hb=>ok_eq (λ_=>af (CG N ω ω k7 _) λl hl=>gX λ_=>⟨hb,up⟩) λ_=>gX λ_=>⟨hb,up⟩) λ_=>gX λ_=>⟨B,up⟩) λh=>dK h
 refine ok_eq (λ_=>af (GW _) λz hz=>hd z hz) λ_=>ok_eq (λ_=>af (GW _) λz hz=>hd z hz) λ_=>ok_eq (λ_=> ?_) λ_=>ok_eq (λ_=> ?_) λ_=>hj _ _
 ·exact af (oi N ω ω hs _) λ_ _=>ok_eq (λ_=>dK δ) λ_=>bx (λ_=>dK δ) λ_=>af (GW _) λz ⟨hz,hi⟩=>bx (λh=>dK h) λh0=>af (tD N ω s1 hc.2.2.2.1) λt ht=>bt (λ_=>dK δ) λ_=>an λ_=>⟨rb (hi h0).1 (hi h0).2.1,up.1,Sl,bo _⟩
 ·exact af (oi N ω ω hs _) λ_ _=>ok_eq (λ_=>dK δ) λ_=>af (oi N ω ω hs _) λ_ _=>bx (λ_=>dK δ) λ_=>hj _ _
theorem aaV(N:Nat)(hN:5000000≤N){c:ae}{s:aQ}{e:gJ}{m:Nat}(h2:200≤m)(hm:m≤999)(hc:G 5 aA c)(hs:GS m s)(hR:nH c m s)(he:G 0 kO e):Ok (SI c (m+1)) (Ug N c s e):=by
 have DF:G m aA c:=G.mono ω hc
 have hb:=hs.2.2.1
 have Uh:=he.2.2.2.2.2.2.1
 have up:=hR.up.2
 have B:=hR.1
 have ml:=ck hb.1.1 (show m≤50000 by omega)
 have al:=ck hb.2.1.1 (show m≤50000 by omega)
 have hW:cQ 1 0∧jm s.2.2.1.1 s.2.2.1.2.1 1 0:=BJ δ
 have st:=λk:Int=>Uo N ω (s:=s) ω k
 have stm: ∀k:Int,fZ s.2.2.1.1 k≠0→jd s.2.2.1.1 k:=λk h=>(uM B.m k).1 h
 unfold Ug
 refine ok_eq (λ_=> ?_) λ_=>ok_eq (λ_=> ?_) λ_=>ok_eq (λ_=> ?_) λ_=>ok_eq (λ_=> ?_) λ_=>ok_eq (λ_=> ?_) λ_=>ok_eq (λ_=> ?_) λ_=>ok_eq (λ_=> ?_) λ_=>ok_eq (λ_=> ?_) λ_=>ok_eq (λ_=> ?_) λ_=>ok_eq (λ_=> ?_) λ_=>ok_eq (λ_=> ?_) λ_=>af (XO N hN h2 hm hc hs hR he) λr hr=>an hr
 ·exact af (Xt N ω ml _) λr hr=>gX λh=>⟨B.Uj (hr h).1 B.a (hr h).2 (λ_ h=>h) λx hx=>(hr h).2 _ (B.ma x hx),up⟩
 ·exact af (aaL N ω ml al _) λr hr=>gX λh=>⟨B.Uj B.m (hr h).1 (λ_ h=>h) (hr h).2.1 (hr h).2.2,up⟩
 ·exact bA (XM N ω ω _) (bt (λ_=>dK δ) λhf=>af (KN N ω ω hs hR Uh hW (tF B ((o7 B.a _).1 hf))) λr hr=>an hr)
 ·exact af (NM N hN h2 ω DF hb B he.2.2.1 Uh) λr hr=>gX λh=>⟨(hr h).1,up⟩
 ·exact bA (st _) (ok_eq (λ_=>dK δ) λh0=>bA (st _) (bx (λ_=>dK δ) λ_=>af (KN N ω ω hs hR Uh hW (AH B δ (stm _ h0))) λr hr=>an hr))
 ·exact bA (st _) (ok_eq (λ_=>dK δ) λh0=>af (lY N ω ω hb.2.2.1 _ _) λg hg=>af (bp N ω hg) λx hx=>af (qj N ω ω hx) λx hx=>af (bp N ω Uh) λy hy=>af (pz N ω ω ω hy hx) λ_ _=>aw (λ_=>dK δ) λ_=>af (KN N ω ω hs hR Uh hW (AH B δ (stm _ h0))) λr hr=>an hr)
 ·exact af (Xv N ω al B.ma _ _) λr hr=>gX λh=>⟨B.Uj B.m (hr h).1 (λ_ h=>h) (hr h).2.1 (hr h).2.2,up⟩
 ·have hx:G 0 mJ (s.2.1,(e.2.2.1,(e.2.2.2.1,(e.2.2.2.2.1,(e.2.2.2.2.2.2.1,(e.2.2.2.2.2.2.2.1,())))))):=⟨hs.2.1,he.2.2.1,he.2.2.2.1,he.2.2.2.2.1,Uh,he.2.2.2.2.2.2.2.1,trivial⟩
  exact af (XA N hN h2 ω DF hb B hx) λr hr=>an λh=>⟨hr h,nH.add hR.2.1 hm δ,hR.2.2⟩
 ·exact bA (XM N ω ω _) (bt (λ_=>dK δ) λ_=>af (Uk N ω (ck hb.2.2.2.2.2.1.1 ω) _ _) λr hr=>gX λh=>⟨B.KH (hr h).1 λx hx=>B.ok x ((hr h).2 x hx),up⟩)
 ·exact af (Ok.and (CH N hN c h2 ω hb _ he.2.2.2.2.2.2.2.1) (NN N hN ω hb B _ _)) λr ⟨⟨zX,yv⟩,Sa⟩=>ok_eq (λh0=>bx (λ_=>af (Nv N ω h2 ω hs.2.2.2.1.2.2.2.2.2.2.2.2.2.1 yv) λg hg=>gX λ_=>⟨Sa h0,up⟩) λ_=>gX λ_=>⟨Sa h0,up⟩) λh=>dK h
 ·exact af (tD N ω hs.1 Uh) λt ht=>bt (λ_=>dK δ) λ_=>an λ_=>⟨B,up⟩
theorem Sm(N:Nat)(hN:5000000≤N){c:ae}{s:aQ}{e:gJ}{m:Nat}(h2:200≤m)(hm:m≤999)(hc:G 5 aA c)(hs:GS m s)(hR:nH c m s)(he:G 0 kO e):Ok (λr=>nH c (m+1) r.1) (Qz N c s e):=by
 have bZ: ∀r:db,Ok (λr:aQ×db=>nH c (m+1) r.1) (some (s,r)):=λr=>an hR.up
 unfold Qz
 exact bA (m4 N ω c) (bt (λ_=>bZ _) λ_=>af (IW N ω e) λ_ _=>bt (λ_=>bZ _) λ_=>af (aaV N hN h2 hm hc hs hR he) λr hr=>bx (λ_=>bZ _) λh=>an (hr h))
end VM
end
section
namespace VM
open Go VM.F
theorem DX(N:Nat){k:Nat}{d:aL}(h:Dk k d)(hk:k≤jM:=by first|decide|(unfold jM;omega)):Ok (λr=>(0≤r.1∧r.1<9223372036854775808)∧Dk (k+1) r.2) (K9 N d):=by
 unfold K9
 refine af (DU N hk h) λr ⟨hr,hd⟩=>ok_eq (λ_=>ω) λ_=> ?_
 have h3:shr .u64 r.1 3=r.1/8:=by rw[JZ ω ω];rfl
 have put: ∀x:Int,0≤x∧x<9223372036854775808→Ok (λr=>(0≤r.1∧r.1<9223372036854775808)∧Dk (k+1) r.2) (some (W .i64 x,r.2)):=λx hx=>an ⟨by rw[ax ω ω];exact hx,hd⟩
 have ar5: ∀y:Int,0<y∧y≤1000000000000→0≤rem (r.1/8) y∧rem (r.1/8) y<9223372036854775808:=λy hy=>by have:=rem_in (x:=r.1/8) (y:=y) ω hy.1;omega
 dsimp only
 rw[h3,amf]
 repeat' first|exact put _ ω|exact put _ (ar5 _ δ)|refine aw (λ_=> ?_) (λ_=> ?_)|refine ok_eq (λ_=> ?_) (λ_=> ?_)|(exfalso;omega)
def BK(x:bX):Prop:=oy x.1 x.2.1 x.2.2.1 x.2.2.2.1
theorem NR{c:ae}:fI c=true↔(1≤c.1.length∧c.1.length≤6)∧(∀x∈c.1,BK x)∧pn c:=by
 unfold fI
 simp only[bP,fb]
 rw[←gW (d:=aV) (Q:=BK)];rfl
abbrev Cq(c:ae):Prop:=(G 5 aA c∧1≤c.1.length)∧fI c=true
theorem ah0{x:bX}(h:BK x):G 5 ej x:=by
 have g: ∀a b c d:Int,oy a b c d→aE a∧aE b∧aE c∧aE d:=λa b c d h=>by unfold oy at h;unfold aE;omega
 have:=g _ _ _ _ h
 exact⟨this.1,this.2.1,this.2.2.1,this.2.2.2,trivial⟩
theorem ah1{c:ae}(h:pn c)(h1:c.2.1<9223372036854775808)(h2:c.2.2.2.2.2.2.1≤1000):G 5 (.pair (.int .i64) (.pair (.int .i64) (.pair (.int .i64) (.pair (.int .i64) (.pair (.int .i64) (.pair (.int .i64) .unit)))))) c.2:=by
 have g: ∀a b c d e f:Int,m3 a b c d e f→a<9223372036854775808→f≤1000→aE a∧aE b∧aE c∧aE d∧aE e∧aE f:=λa b c d e f h h1 h2=>by unfold m3 at h;unfold aE;omega
 have:=g _ _ _ _ _ _ h h1 h2
 exact⟨this.1,this.2.1,this.2.2.1,this.2.2.2.1,this.2.2.2.2.1,this.2.2.2.2.2,trivial⟩
theorem Uq(N:Nat)(hN:100≤N){d:aL}(h:Dk 0 d):Ok (λr=>Cq r.1∧Dk 1000 r.2) (uN N d):=by
 unfold uN uN.b
 refine af (im N δ h) λr hr=> ?_
 rw[ax (x:=1+r.1) ω ω]
 obtain⟨k,hk⟩: ∃k:Nat,1+r.1=(k:Int):=⟨(1+r.1).toNat,ω⟩
 rw[hk]
 have b1: ∀x y:Int,0≤x∧x<y→y≤1000000000000→1≤W .i64 (1+x)∧W .i64 (1+x)≤y:=λx y h1 h2=>by rw[ax ω ω];omega
 refine xy (F:=λn x (s:aL×aM)=>uN.l3 N n s.1 (c8,e7) (c8,e7) s.2 x) (λx s=>x+s.2.length=k∧Dk (1+20*s.2.length) s.1∧ ∀y∈s.2,BK y) (λn x s hI hr=> ?_) (λn s hI=> ?_) k N (r.2,_) ω ⟨rfl,hr.2,λy hy=>nomatch hy⟩
 all_goals unfold uN.l3 uN.nC
 ·obtain⟨hx,hd,hG⟩:=hI
  have zI: ∀(d:aL) (x4:bX),Dk (1+20*s.2.length+10) d→BK x4→Ok (λr=>Cq r.1∧Dk 1000 r.2) (cond (small (s.2.length+[x4].length)) (uN.l3 N n d (c8,e7) (c8,e7) (s.2++[x4]) (W .i64 (((x+1:Nat):Int)-1))) none):=λd x4 hd hx4=>by
   rw[ax (x:=((x+1:Nat):Int)-1) ω ω,show((x+1:Nat):Int)-1=(x:Int)by omega]
   refine aC (by rw[aI];omega) (hr (_,_) ⟨by rw[aS,aI];omega,Dk.mono hd (by rw[aS,aI];omega),λy hy=> ?_⟩)
   rcases bb.1 hy with hy|hy
   ·exact hG y hy
   ·rw[bT.1 hy];exact hx4
  have hj: ∀(d:aL) (x5:bX),Dk (1+20*s.2.length+6) d→BK x5→Ok (λr=>Cq r.1∧Dk 1000 r.2) (uN.j8 N (uN.l3 N n) d (c8,e7) (c8,e7) s.2 ((x+1:Nat):Int) x5):=λd x5 hd hx5=>by
   unfold uN.j8 uN.Wu
   refine af (pC N δ hd) λr hd=>oZ (λ_=> ?_) λ_=>zI _ _ (Dk.mono hd ω) hx5
   refine af (DX N hd) λr ⟨h1,hd⟩=>ok_eq (λ_=>ω) λ_=> ?_
   dsimp only
   have e1:=rem_in h1.1 (show(0:Int)<1000000001 by decide)
   exact af (DX N hd) λr ⟨h2,hd⟩=>ok_eq (λ_=>ω) λ_=>have e2:=rem_in h2.1 (show(0:Int)<1000000001 by decide);zI _ _ (Dk.mono hd ω) ⟨hx5.1,hx5.2.1,⟨e1.1,by dsimp only;omega⟩,⟨e2.1,by dsimp only;omega⟩⟩
  refine aw (λ_=> ?_) λ_=>ω
  refine af (im N δ hd) λa ⟨ha,hd⟩=>af (im N δ hd) λb ⟨hb,hd⟩=>af (im N δ hd) λc ⟨hc,hd⟩=>af (im N δ hd) λe ⟨he,hd⟩=>af (pC N δ hd) λr hd=>oZ (λ_=>af (DX N hd) λr ⟨h1,hd⟩=>ok_eq (λ_=>ω) λ_=>hj _ _ (Dk.mono hd ω) ⟨⟨ha.1,by dsimp only;omega⟩,b1 _ _ (rem_in h1.1 δ) δ,⟨hc.1,by dsimp only;omega⟩,⟨he.1,by dsimp only;omega⟩⟩) λ_=>hj _ _ (Dk.mono hd ω) ⟨⟨ha.1,by dsimp only;omega⟩,⟨(b1 _ _ hb δ).1,Int.le_trans (b1 _ _ hb δ).2 δ⟩,⟨hc.1,by dsimp only;omega⟩,⟨he.1,by dsimp only;omega⟩⟩
 ·obtain⟨hx,hd,hG⟩:=hI
  have hl:s.2.length≤4∧1≤s.2.length:=ω
  have hd:Dk 900 s.1:=Dk.mono hd ω
  have fin: ∀(q t p b l m:Int),(0≤q∧q<9223372036854775808)→(0≤t∧t<5)→(0≤p∧p<3)→(0≤b∧b<3)→(0≤l∧l<20)→(0≤m∧m<100)→Cq (s.2,(q,(t,(p,(b,(W .i64 (1+l),(m,()))))))):=λq t p b l m h1 h2 h3 h4 h5 h6=>by
   have h7:=b1 _ _ h5 δ
   have hr:pn (s.2,(q,(t,(p,(b,(W .i64 (1+l),(m,()))))))):=(show m3 q t p b (W .i64 (1+l)) m by unfold m3;omega)
   exact⟨⟨⟨⟨by dsimp only;omega,λy hy=>ah0 (hG y hy)⟩,ah1 hr h1.2 (show m≤1000 by omega)⟩,hl.2⟩,NR.2 ⟨⟨hl.2,by dsimp only;omega⟩,hG,hr⟩⟩
  refine aw (λ_=>ω) λ_=>af (im N δ hd) λa ⟨ha,hd⟩=>af (im N δ hd) λb ⟨hb,hd⟩=>af (im N δ hd) λc ⟨hc,hd⟩=>af (im N δ hd) λe ⟨he,hd⟩=>af (im N δ hd) λf ⟨hf,hd⟩=> ?_
  dsimp only
  exact af (im N δ hd) λg ⟨hg,hd⟩=>af (pC N δ hd) λr hd=>oZ (λ_=>af (DX N hd) λr ⟨hr,hd⟩=>an ⟨fin _ _ _ _ _ _ hr hb hc he hf hg,Dk.mono hd δ⟩) λ_=>an ⟨fin _ _ _ _ _ _ ⟨ha.1,ω⟩ hb hc he hf hg,Dk.mono hd δ⟩
theorem Ur{q:Int}(h0:q≠0):ei [((1:Int),((0:Int),((-q:Int),()))),((3:Int),((0:Int),(q,())))]=true∧dw (gE [((1:Int),((0:Int),((-q:Int),()))),((3:Int),((0:Int),(q,())))]) 0:=by
 have ok:ei [((1:Int),((0:Int),((-q:Int),()))),((3:Int),((0:Int),(q,())))]=true:=by
  unfold ei
  rw[gg]
  refine bs λj hj=> ?_
  match j,hj with
  |0,_=>exact⟨show cQ 1 0 by decide,show-q≠0 by omega,λh=>absurd h δ⟩
  |1,_=>exact⟨show cQ 3 0 by decide,h0,λ_=> .inl (show(1:Int)<3 by decide)⟩
 refine⟨ok,?_⟩
 unfold gE
 rw[aj ok]
 show-q+(q+0)=0
 omega
theorem QK(N:Nat)(hN:1000≤N){c:ae}(hc:Cq c)(nF:c.2.1<9223372036854775808):Ok (λr=>RB c r.1∧r.2=0) (ia N c):=by
 obtain⟨⟨hc,K5⟩,hp⟩:=hc
 have hl:=hc.1.1
 obtain⟨h1,h2,h3⟩:=NR.1 hp
 unfold ia ia.b
 have hj: ∀b:aq,(∀p:List Int,p.length=c.1.length→eS p=true→RB c (b.1,(b.2.1,(b.2.2.1,(b.2.2.2.1,(p,b.2.2.2.2.2))))))→Ok (λr=>RB c r.1∧r.2=0) (ia.j6 N c (cm,(c8,(bH,(bH,(dC,(dP,())))))) b []):=λb hb=>by
  unfold ia.j6 ia.Tj
  obtain⟨b1,b2,b3,b4,b5,b6⟩:=b
  refine bc (len:=c.1.length) (F:=λn i (z:aq×List Int)=>ia.l7 N n c (cm,(c8,(bH,(bH,(dC,(dP,())))))) z.1 z.2 i) (s:=((b1,(b2,(b3,(b4,(b5,b6))))),_)) (λi z=>(z.1.1=b1∧z.1.2.1=b2∧z.1.2.2.1=b3∧z.1.2.2.2.1=b4∧z.1.2.2.2.2.2=b6)∧z.2.length=i∧ ∀x∈z.2,1≤x∧x≤1000000000000) ⟨⟨rfl,rfl,rfl,rfl,rfl⟩,rfl,λx hx=>nomatch hx⟩ ω (λn i z hi hI hr=> ?_) (λn z hI=> ?_)
  all_goals unfold ia.l7 ia.pj
  all_goals obtain⟨hz,hzl,hzp⟩:=hI
  ·rw[ax (x:=(i:Int)+1) ω ω,ag i,aJ]
   have hx:=(h2 _ (ru (d:=aV) hi)).2.1
   exact aw (λ_=>aB ⟨ω,ω⟩ (aC (by rw[List.length_singleton];omega) (hr (_,_) ⟨hz,by dsimp only;rw[List.length_append,List.length_singleton];omega,λy hy=>by
    rcases bb.1 hy with hy|hy
    ·exact hzp y hy
    ·rw[bT.1 hy];exact hx⟩))) λ_=>ω
  ·refine aw (λ_=>ω) λ_=>an ⟨?_,rfl⟩
   obtain⟨z1,z2,z3,z4,z5⟩:=hz
   dsimp only
   rw[z1,z2,z3,z4,z5]
   refine hb _ hzl ?_
   unfold eS
   exact bs ((gW (d:=(0:Int)) (Q:=λx=>1≤x∧x≤1000000000000)).2 hzp)
 have mk: ∀r:au,ei r=true→dw (gE r) 0→(∀x∈r,jm [] [] x.1 x.2.1)→ ∀p:List Int,p.length=c.1.length→eS p=true→RB c (([]:aD),(([]:aM),(r,(([]:au),(p,(([]:bq),())))))):=λr r1 r2 r3 p p1 p2=>
  ⟨hp,(show dp []=true by decide),(show fu []=true by decide),λx hx=>(nomatch hx),r1,r2,(show nZ []=true by decide),(show dY []=true by decide),show(p.length:Int)=c.1.length by omega,r3,λx hx=>(nomatch hx),λx hx=>(nomatch hx),p2⟩
 refine bA (m4 N ω c) (bt (λh=>by rw[hp]at h;exact nomatch h) λ_=>bx (λh0=>hj _ ?_) λ_=>hj _ ?_)
 ·have hs:0≤c.2.1:=h3.1
  have e: ∀q:Int,0≤q→q<9223372036854775808→W .i64 (0-q)= -q:=λq h1 h2=>by rw[ax ω ω];omega
  have h0:(c.2.1:Int)≠0:=h0
  rw[e _ hs nF]
  obtain⟨ok,tot⟩:=Ur h0
  refine mk _ ok tot λx hx=> ?_
  rcases aX.1 hx with rfl|hx
  ·exact⟨λh=>absurd h (show ¬dw 1 5 by decide),λh=>absurd h (show ¬(dw 1 6∨dw 1 7)by decide)⟩
  ·rw[bT.1 hx];exact⟨λh=>absurd h (show ¬dw 3 5 by decide),λh=>absurd h (show ¬(dw 3 6∨dw 3 7)by decide)⟩
 ·exact mk [] δ δ λx hx=>nomatch hx
theorem NS(N:Nat)(hN:1000≤N){c:ae}(hc:Cq c)(nF:c.2.1<9223372036854775808):Ok (λr:aQ×Int=>(GS 5 r.1∧nH c 5 r.1)∧r.2=0) (XP N c):=by
 unfold XP
 exact af (Ok.and (Qv N ω hc.1.1) (QK N ω hc nF)) λb ⟨me,tI,hb3⟩=>bx (λh=>absurd hb3 h) λ_=>an ⟨⟨⟨bJ,(show aE 1 from bk),me,G.zero 5 rr,G.zero 5 gG,trivial⟩,tI,⟨(show(1:Int)≤1 by decide),(show(1:Int)≤2000*((5:Nat):Int)by decide)⟩,Sl,bo _⟩,rfl⟩
theorem ah2(N:Nat)(hN:5000000≤N){c:ae}{l:cR}{m:Nat}(hm:m≤700)(hc:Cq c)(nF:c.2.1<9223372036854775808)(hl:u5 m l):Ok (λr=>GS 900 r.1∧nH c 900 r.1) (Gg N c l):=by
 have GJ:=hl.1
 unfold Gg Gg.b
 refine af (NS N ω hc nF) λb ⟨⟨me,tI⟩,hb3⟩=>bx (λh=>absurd hb3 h) λ_=>bc (len:=l.length) (F:=λn i (z:aQ×au)=>Gg.l6 N n l c (Ty.zero dr) z.1 z.2 i) (s:=(_,_)) (λi z=>(GS (200+i) z.1∧nH c (200+i) z.1)∧z.2.length≤i) ⟨⟨G.mono ω me,tI.1,⟨tI.2.1.1,fD tI.2.1.2 δ⟩,tI.2.2⟩,aG 0⟩ ω (λn i z hi hI hr=> ?_) (λn z hI=> ?_)
 all_goals unfold Gg.l6 Gg.ud
 all_goals obtain⟨⟨h1,h3⟩,h2⟩:=hI
 ·rw[ax (x:=(i:Int)+1) ω ω,ag i]
  have hx:G 0 kO (l.getD (i:Int).toNat zz8):=G.at hl _
  exact aw (λ_=>aB ⟨ω,ω⟩ (af (Ok.and (Sf N hN ω ω hc.1.1 h1 hx) (Sm N hN ω ω hc.1.1 h1 h3 hx)) λr ⟨zX,yv⟩=>aC (by rw[List.length_singleton];omega) (hr (r.1,z.2++[r.2]) ⟨⟨zX,yv⟩,by dsimp only;rw[List.length_append,List.length_singleton];omega⟩))) λ_=>ω
 ·exact aw (λ_=>ω) λ_=>an ⟨G.mono ω h1,h3.1,⟨h3.2.1.1,fD h3.2.1.2 ω⟩,h3.2.2⟩
theorem Cq.f{c:ae}(h:Cq c):Cf c∧c.2.1<9223372036854775808:=⟨⟨h.1.1,h.1.2⟩,h.1.1.2.1.2⟩
end VM
end
section
namespace VM
open Go VM.F
def StN(c:ae)(n:Nat)(s:aQ):Prop:=GS (200+n) s∧nH c (200+n) s
theorem nH.mono{c:ae}{m n:Nat}{s:aQ}(h:nH c m s)(hn:m≤n):nH c n s:=⟨h.1,⟨h.2.1.1,fD h.2.1.2 ω⟩,h.2.2⟩
theorem StN.mono{c:ae}{m n:Nat}{s:aQ}(h:StN c m s)(hn:m≤n):StN c n s:=⟨G.mono ω h.1,h.2.mono ω⟩
def XQ(c:ae)(n:Nat)(t:cD):Prop:= ∃(s:aQ) (a:Nat),t=(c,(s,((a:Int),())))∧a≤n∧StN c a s
theorem XQ.mono{c:ae}{m n:Nat}{t:cD}(h:XQ c m t)(hn:m≤n):XQ c n t:=by
 obtain⟨s,a,e,h1,h2⟩:=h
 exact⟨s,a,e,ck h1 hn,h2⟩
theorem afT(N:Nat)(hN:5000000≤N){c:ae}(hc:G 5 aA c){t:cD}{l:cR}{m:Nat}(hm:m≤700)(hl:u5 m l)(ht:XQ c l.length t):Ok (λr=>StN c l.length r.1∧XQ c l.length r.2.1∧r.2.2=l) (p8 N t l):=by
 obtain⟨s,a,rfl,h1,h2⟩:=ht
 have GJ:=hl.1
 unfold p8 p8.b
 generalize ((0:Int),((0:Int),_))=S0
 refine iv (len:=l.length) (F:=λn i (s:aQ)=>p8.l1 N n (c,(s,(i,()))) l S0) (λi s=>StN c i s) (λn i s hi hI hr=> ?_) (λn s hI=> ?_) l.length N a s ω ω h1 h2
 all_goals unfold p8.l1 p8.l1b
 ·dsimp only
  rw[ax (x:=(i:Int)+1) ω ω,ag i]
  have hx:G 0 kO (l.getD (i:Int).toNat zz8):=G.at hl _
  exact aw (λ_=>aB ⟨ω,ω⟩ (af (Ok.and (Sf N hN ω ω hc hI.1 hx) (Sm N hN ω ω hc hI.1 hI.2 hx)) λr ⟨zX,yv⟩=>hr r.1 ⟨zX,yv⟩)) λ_=>ω
 ·exact aw (λ_=>by dsimp only at*;omega) λ_=>an ⟨hI,⟨s,l.length,rfl,Nat.le_refl _,hI⟩,rfl⟩
abbrev RoQ(c:ae)(p k:Nat)(r:cR×aL×cD):Prop:=u5 (p+70) r.1∧Dk (k+400) r.2.1∧XQ c r.1.length r.2.2
theorem ah3{q:Int}(h:qIn q):W .u64 q=q∧q≠0:=by
 unfold qIn at h
 exact⟨dS ω ω,ω⟩
theorem u5.snoc{p:Nat}{l:cR}{x:gJ}(h:u5 p l)(hx:G 0 kO x):u5 (p+1) (l++[x]):=G.cat h (G.one hx (aG 1))
theorem AJ{α:Type}(l:List α)(x:α):(l++[x]).length=l.length+1:=by rw[aS,aI]
theorem XR(N:Nat)(hN:5000000≤N){c:ae}(hq:Cq c){d:aL}{t:cD}{l:cR}{p k:Nat}(hp:p≤600)(hk:k≤20000)(hl:u5 p l)(hd:Dk k d)(ht:XQ c l.length t):Ok (RoQ c p k) (dR N d t l):=by
 have hc:=hq.1.1
 have Us:=hq.f.1
 have i16:aE 16:=bk
 have i17:aE 17:=bk
 have i18:aE 18:=bk
 have i19:aE 19:=bk
 have i10:aE 10:=bk
 have i20:aE 20:=bk
 have i2:aE 2:=bk
 have z:=bJ
 have GJ:=hl.1
 have Ds: ∀(d:aL) (t:cD) (l:cR),u5 (p+5) l→Dk (k+20) d→XQ c l.length t→Ok (RoQ c p k) (dR.Hy N d t l):=λd t l hl hd ht=>by
  have GJ:=hl.1
  unfold dR.Hy dR.BC
  have PV:=u5.snoc hl (rK (m:=0) i18 z z z z z z z)
  refine aC (by rw[aI];omega) (af (afT N hN hc ω PV (ht.mono (by rw[AJ];omega))) λr ⟨hs,ht,he⟩=> ?_)
  rw[he]
  generalize l++[((18:Int),K4)]=l at*
  have h12:=hs.2.2.2.2
  have hL:=hs.1.2.2.2.1.2.2.2.2.2.1
  generalize r.1=s at*
  refine bc (len:=s.2.2.2.1.2.2.2.2.2.1.length) (F:=λn i (y:aL×cR)=>dR.nG N n y.1 r.2.1 y.2 s i) (s:=(_,_)) (λi y=>Dk (k+20+10*i) y.1∧u5 (p+6+4*i) y.2∧l.length≤y.2.length) ⟨hd,PV,aG _⟩ ω (λn i y hi hI hr=> ?_) (λn y hI=> ?_)
  all_goals obtain⟨hd,hl,hle⟩:=hI
  all_goals unfold dR.nG dR.mE
  ·refine aw (λ_=>aB ⟨ω,ω⟩ ?_) λ_=>ω
   have hx:G 900 jc (s.2.2.2.1.2.2.2.2.2.1.getD (i:Int).toNat ((0:Int),(cm,aV))):=G.mono (by have:=PV.1;omega) (G.at hL _)
   generalize s.2.2.2.1.2.2.2.2.2.1.getD (i:Int).toNat ((0:Int),(cm,aV))=x at*
   refine iv (len:=5) (F:=λn' j (w:aL×cR)=>dR.DN N (dR.nG N n) n' w.1 r.2.1 w.2 s (i:Int) x j) (λj w=>1≤j∧Dk (k+20+10*i+2*(j-1)) w.1∧u5 (p+6+4*i+(j-1)) w.2∧l.length≤w.2.length) (λn' j w hj hJ eJ=> ?_) (λn' w hJ=> ?_) 5 N 1 y ω ω ω ⟨aG 1,hd,hl,hle⟩
   all_goals obtain⟨hj1,hd,hl,hle⟩:=hJ
   all_goals unfold dR.DN dR.Dh
   ·have hwl:=hl.1
    rw[ax (x:=(j:Int)+1) ω ω,ag j]
    refine dU (λ_=>af (pC N δ hd (by unfold jM;omega)) λa hd=>bt (λ_=>af (im N δ hd (by unfold jM;omega)) λv ⟨_,hd⟩=>aC (by rw[List.length_singleton];omega) (eJ (_,_) ⟨ω,Dk.mono hd ω,G.mono ω (u5.snoc hl (rK i19 (iI ω ω) z z z hx.1 z (AE (W1 (fQ _) (by unfold aE;decide)) (by unfold aE;decide)))),by dsimp only;rw[AJ];omega⟩)) λ_=>eJ (_,_) ⟨ω,Dk.mono hd ω,G.mono ω hl,hle⟩) λ_=>ω
   ·rw[ax (x:=(i:Int)+1) ω ω,ag i]
    exact dU (λ_=>ω) λ_=>hr w ⟨Dk.mono hd ω,G.mono ω hl,hle⟩
  ·have VZ:=hl.1
   obtain⟨s',a,e,vq,UI⟩:=ht
   refine aw (λ_=>ω) λ_=>af (tA N ω hd (c:=r.2.1.1) (by rw[e];exact Us) ω) λn1 ⟨PU,hd⟩=> ?_
   have ah4:=PU.1
   have h5:=G.cat hl PU
   have h5l:=h5.1
   have h6:=G.cat h5 (G.two (m:=2) (rK (m:=0) i10 z z z z z i2 z) (rK i20 z z z z z z z) (aG 2))
   exact aC ω (aC (by simp only[List.length_append,List.length_cons,List.length_nil];omega) (an ⟨G.mono ω h6,Dk.mono hd ω,⟨s',a,e,by dsimp only;rw[List.length_append,List.length_append];omega,UI⟩⟩))
 unfold dR dR.b
 refine af (pC N δ hd (by unfold jM;omega)) λa hd=>oZ (λ_=> ?_) λ_=>Ds _ _ _ (G.mono ω hl) (Dk.mono hd ω) ht
 have PV:=u5.snoc hl (rK (m:=0) i16 z z z z z z z)
 refine aC (by rw[aI];omega) (af (afT N hN hc ω PV (ht.mono (by rw[AJ];omega))) λr ⟨hs,ht,he⟩=> ?_)
 rw[he]
 generalize l++[((16:Int),K4)]=l at*
 obtain⟨h4,hg⟩:=hs.2.2.2.1
 have hH:=hs.1.2.2.2.1.2.2.2.2.1
 have hP:=hs.1.2.2.1.2.2.2.2.1
 have hpn:(r.1.2.2.1.2.2.2.2.1.length:Int)=c.1.length:=hs.2.1.n
 generalize r.1=s at*
 refine bc (len:=s.2.2.2.1.2.2.2.2.1.length) (F:=λn i (y:aL×cR)=>dR.l5 N n y.1 r.2.1 y.2 s i) (s:=(_,_)) (λi y=>Dk (k+1+4*i) y.1∧u5 (p+1+i) y.2∧l.length≤y.2.length) ⟨hd,PV,aG _⟩ ω (λn i y hi hI hr=> ?_) (λn y hI=> ?_)
 all_goals obtain⟨hd,hl,hle⟩:=hI
 all_goals unfold dR.l5 dR.dV
 ·have VZ:=hl.1
  have hx:=hg _ (ru (d:=aV) hi)
  have hx6:G (200+l.length) ej (s.2.2.2.1.2.2.2.2.1.getD i aV):=hH.2 _ (ru hi)
  have hu:=ah3 hx.2
  rw[ax (x:=(i:Int)+1) ω ω,ag i,aJ]
  dsimp only
  generalize s.2.2.2.1.2.2.2.2.1.getD i aV=x at*
  refine aw (λ_=>aB ⟨ω,ω⟩ (af (pC N δ hd (by unfold jM;omega)) λa hd=>oZ (λ_=>af (im N δ hd (by unfold jM;omega)) λv ⟨_,hd⟩=>af (DU N (by unfold jM;omega) hd) λw ⟨_,hd⟩=>ok_eq (λe=>absurd (hu.1.symm.trans e) hu.2) λ_=>aB ?_ (aC (by rw[List.length_singleton];omega) (hr (_,_) ⟨Dk.mono hd ω,u5.snoc hl (rK i17 z (fQ _) z z hx6.1 (fQ _) (G.at hP _)),by dsimp only;rw[AJ];omega⟩))) λ_=>hr (_,_) ⟨Dk.mono hd ω,G.mono ω hl,hle⟩)) λ_=>ω
  have h1:=hx.1
  have g: ∀v:Int,(0≤v∧v<(c.1.length:Int))→0≤v∧v<(s.2.2.1.2.2.2.2.1.length:Int):=λv h=>ω
  exact g _ h1
 ·exact aw (λ_=>ω) λ_=>Ds _ _ _ (G.mono ω hl) (Dk.mono hd ω) (ht.mono hle)
theorem Ut(N:Nat)(hN:5000000≤N){c:ae}(hq:Cq c){d:aL}{t:cD}{L:cR}{k j:Nat}(hk:k≤10000)(hj:j≤2)(hl:u5 220 L)(hd:Dk k d)(ht:XQ c L.length t):Ok (λr=>u5 400 r.1∧Dk (k+1500) r.2) (je.DN N N d c t L (j:Int)):=by
 obtain⟨Us,nF⟩:=hq.f
 have i21:aE 21:=bk
 have z:=bJ
 refine xy (F:=λn x (s:aL×cD×cR)=>je.DN N n s.1 c s.2.1 s.2.2 x) (λx s=>x≤2∧Dk (k+400*(2-x)) s.1∧u5 (220+70*(2-x)) s.2.2∧XQ c s.2.2.length s.2.1) (λn x s hI hr=> ?_) (λn s hI=> ?_) j N (d,(t,L)) ω ⟨hj,Dk.mono hd ω,G.mono ω hl,ht⟩
 all_goals obtain⟨hx,hd,hl,ht⟩:=hI
 all_goals unfold je.DN je.Dh
 ·rw[Ku ω]
  exact aw (λ_=>af (XR N hN hq ω ω hl hd ht) λr ⟨h1,h2,h3⟩=>hr (r.2.1,(r.2.2,r.1)) ⟨ω,Dk.mono h2 ω,G.mono ω h1,h3⟩) λ_=>ω
 ·have PV:=hl.1
  refine aw (λ_=>ω) λ_=>af (pC N δ hd (by unfold jM;omega)) λa hd=>bt (λ_=>aC (by rw[aI];omega) (af (tA N ω hd Us ω) λn1 ⟨PU,hd⟩=> ?_)) λ_=>af (tA N ω hd Us ω) λn1 ⟨PU,hd⟩=> ?_
  ·have h2:=G.cat (u5.snoc hl (rK (m:=0) i21 z z z z z z z)) PU
   have h2l:=h2.1
   have ah4:=PU.1
   exact aC (by simp only[aS,aR,bS];omega) (an ⟨G.mono ω h2,Dk.mono hd ω⟩)
  ·have h2:=G.cat hl PU
   have ah4:=PU.1
   exact aC ω (an ⟨G.mono ω h2,Dk.mono hd ω⟩)
theorem Uu(N:Nat)(hN:5000000≤N){c:ae}(hq:Cq c){d:aL}{k:Nat}(hk:k≤5000)(hd:Dk k d){wQ:Int}(hm:0≤wQ∧wQ≤100):Ok (λr=>u5 400 r.1∧Dk (k+6000) r.2) (je N d c wQ):=by
 obtain⟨Us,nF⟩:=hq.f
 have i10:aE 10:=bk
 have i11:aE 11:=bk
 have i13:aE 13:=bk
 have i14:aE 14:=bk
 have i15:aE 15:=bk
 have i21:aE 21:=bk
 have z:=bJ
 unfold je je.b
 refine af (NS N ω hq nF) λs ⟨⟨Pn,Tf⟩,_⟩=>af (IV N ω hd Us hm ω) λl ⟨hl,hd⟩=>af (im N δ hd (by unfold jM;omega)) λv ⟨_,hd⟩=> ?_
 have ht:XQ c 0 (c,(s.1,((0:Int),()))):=⟨s.1,0,rfl,aG 0,G.mono ω Pn,Tf.mono ω⟩
 generalize s.1=S at*
 dsimp only
 have GJ:=hl.1
 have h1:=u5.snoc hl (rK (m:=0) i11 (fQ (1+v.1)) z z z z z z)
 have h1l:=h1.1
 refine aC (by simp only[aS,aR,bS];omega) (af (tA N ω hd Us ω) λn1 ⟨PU,hd⟩=> ?_)
 have h2:=G.cat h1 PU
 have h2l:=h2.1
 have ah4:=PU.1
 refine aC (by simp only[aS,aR,bS];omega) (aC (by simp only[aS,aR,bS];omega) ?_)
 have h3:=u5.snoc h2 (rK (m:=0) i13 (fQ (1+v.1)) z z z z z z)
 generalize hL:(l.1++[((11:Int),(W .i64 (1+v.1),e7))]++n1.1)++[((13:Int),(W .i64 (1+v.1),e7))]=L at h3
 refine iv (len:=8) (F:=λn i (y:aL×cR)=>je.l9 N n y.1 c (c,(S,((0:Int),()))) y.2 i) (λi y=>5≤i∧Dk (k+3200+2*(i-5)) y.1∧u5 (205+(i-5)) y.2) (λn i y hi hI hr=> ?_) (λn y hI=> ?_) 8 N 5 (_,L) ω ω ω ⟨aG 5,Dk.mono hd ω,G.mono ω h3⟩
 all_goals obtain⟨hi5,hd,hl⟩:=hI
 all_goals have VZ:=hl.1
 all_goals unfold je.l9 je.xp
 ·rw[ax (x:=(i:Int)+1) ω ω,ag i]
  exact dU (λ_=>af (pC N δ hd (by unfold jM;omega)) λa hd=>oZ (λ_=>af (im N δ hd (by unfold jM;omega)) λw ⟨_,hd⟩=>aC (by rw[aI];omega) (hr (_,_) ⟨ω,Dk.mono hd ω,G.mono ω (u5.snoc hl (rK i14 (fQ _) (iI ω ω) z z z z z))⟩)) λ_=>hr (_,_) ⟨ω,Dk.mono hd ω,G.mono ω hl⟩) λ_=>ω
 ·refine dU (λ_=>ω) λ_=>af (tA N ω hd Us ω) λn2 ⟨hn2,hd⟩=> ?_
  have h4:=G.cat hl hn2
  have h4l:=h4.1
  have azz:=hn2.1
  refine aC ω ?_
  dsimp only
  refine af (im N δ hd (by unfold jM;omega)) λw ⟨_,hd⟩=> ?_
  have h5:=G.cat h4 (G.two (m:=2) (rK (m:=0) i10 z z z z z (fQ (2+w.1)) z) (rK i15 z z z z z z z) (aG 2))
  have h5l:=h5.1
  refine aC (by simp only[aS,aR,bS];omega) (af (tA N ω hd Us ω) λn3 ⟨hn3,hd⟩=> ?_)
  have h6:=G.cat h5 hn3
  have azA:=hn3.1
  refine aC (by simp only[aS,aR,bS];omega) (af (im N δ hd (by unfold jM;omega)) λu ⟨hu,hd⟩=> ?_)
  obtain⟨j,hj⟩: ∃j:Nat,u.1=(j:Int):=⟨u.1.toNat,ω⟩
  rw[hj]
  have hLl:=h6.1
  exact Kr (Ut N hN hq ω ω (G.mono ω h6) hd (ht.mono (bo _))) λr hr=>⟨hr.1,Dk.mono hr.2 ω⟩
theorem Uv(N:Nat)(hN:5000000≤N){c:ae}(hq:Cq c){d:aL}{k:Nat}(hk:k≤4000)(hd:Dk k d){wQ:Int}(hm:0≤wQ∧wQ≤100):Ok (λr=>u5 400 r.1∧Dk (k+7000) r.2) (Gh N d c wQ):=by
 obtain⟨Us,nF⟩:=hq.f
 unfold Gh Gh.b
 refine af (im N δ hd (by unfold jM;omega)) λa ⟨_,hd⟩=>ok_eq (λ_=> ?_) λ_=>ok_eq (λ_=>af (IV N ω hd Us hm ω) λl ⟨hl,hd⟩=>an ⟨G.mono ω hl,Dk.mono hd ω⟩) λ_=>af (Uu N hN hq ω hd hm) λl ⟨hl,hd⟩=>an ⟨hl,Dk.mono hd ω⟩
 rw[ax (x:=wQ+1) ω ω]
 refine af (im N ⟨ω,ω⟩ hd (by unfold jM;omega)) λu ⟨hu,hd⟩=> ?_
 obtain⟨j,hj⟩: ∃j:Nat,u.1=(j:Int):=⟨u.1.toNat,ω⟩
 rw[hj]
 refine xy (F:=λn x (s:aL×cR)=>Gh.l5 N n s.1 c s.2 x) (λx s=>x≤100∧Dk (k+10+25*(100-x)) s.1∧u5 (100-x) s.2) (λn x s hI hr=> ?_) (λn s hI=> ?_) j N (u.2,[]) ω ⟨ω,Dk.mono hd ω,G.nil⟩
 all_goals obtain⟨hx,hd,hl⟩:=hI
 all_goals unfold Gh.l5 Gh.dV
 ·have hs:=hl.1
  rw[Ku ω]
  exact aw (λ_=>af (FX N hd Us ω) λr ⟨h1,h2⟩=>aC (by rw[aI];omega) (hr (_,_) ⟨ω,Dk.mono h2 ω,G.mono ω (u5.snoc hl h1)⟩)) λ_=>ω
 ·exact aw (λ_=>ω) λ_=>an ⟨G.mono ω hl,Dk.mono hd ω⟩
theorem XS(N:Nat)(hN:5000000≤N){c:ae}(hq:Cq c){d:aL}(hd:Dk 1000 d){wQ:Int}(hm:0≤wQ∧wQ≤100):Ok (λr=>(GS 900 r.1∧nH c 900 r.1)∧Dk 10000 r.2) (F18 N d c wQ):=by
 obtain⟨Us,nF⟩:=hq.f
 unfold F18
 exact af (Uv N hN hq ω hd hm) λl ⟨hl,hd⟩=>af (ah2 N hN ω hq nF hl) λr hr=>an ⟨hr,Dk.mono hd ω⟩
end VM
end
