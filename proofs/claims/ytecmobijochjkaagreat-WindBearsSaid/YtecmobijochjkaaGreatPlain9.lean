/- A part of the proof of WindBears of layer 21: what the functions compute, in plain words. -/
import Derived.Test.YtecmobijochjkaaGreatPlain8
import Derived.Test.YtecmobijochjkaaGreatPlain3
set_option linter.all false
section
namespace VM
open Go VM.F
def StN(c:ae)(n:Nat)(s:aQ):Prop:=GS (200+n) s∧nX c (200+n) s
theorem nX.mono{c:ae}{m n:Nat}{s:aQ}(h:nX c m s)(hn:m≤n):nX c n s:=⟨h.1,⟨h.2.1.1,fI h.2.1.2 ω⟩,h.2.2⟩
theorem StN.mono{c:ae}{m n:Nat}{s:aQ}(h:StN c m s)(hn:m≤n):StN c n s:=⟨G.mono ω h.1,h.2.mono ω⟩
def Yi(c:ae)(n:Nat)(t:cE):Prop:= ∃(s:aQ) (a:Nat),t=(c,(s,((a:Int),())))∧a≤n∧StN c a s
theorem Yi.mono{c:ae}{m n:Nat}{t:cE}(h:Yi c m t)(hn:m≤n):Yi c n t:=by
 obtain⟨s,a,e,h1,h2⟩:=h
 exact⟨s,a,e,cq h1 hn,h2⟩
theorem agd(N:Nat)(hN:5000000≤N){c:ae}(hc:G 5 aA c){t:cE}{l:cV}{m:Nat}(hm:m≤700)(hl:vx m l)(ht:Yi c l.length t):Ok (λr=>StN c l.length r.1∧Yi c l.length r.2.1∧r.2.2=l) (qm N t l):=by
 obtain⟨s,a,rfl,h1,h2⟩:=ht
 have He:=hl.1
 unfold qm qm.b
 generalize ((0:Int),((0:Int),_))=S0
 refine iH (len:=l.length) (F:=λn i (s:aQ)=>qm.l1 N n (c,(s,(i,()))) l S0) (λi s=>StN c i s) (λn i s hi hI hr=> ?_) (λn s hI=> ?_) l.length N a s ω ω h1 h2
 all_goals unfold qm.l1 qm.l1b
 ·dsimp only
  rw[ay (x:=(i:Int)+1) ω ω,ag i]
  have hx:G 0 kZ (l.getD (i:Int).toNat zz8):=G.at hl _
  exact aw (λ_=>aB ⟨ω,ω⟩ (af (Ok.and (SJ N hN ω ω hc hI.1 hx) (SU N hN ω ω hc hI.1 hI.2 hx)) λr ⟨y5,yS⟩=>hr r.1 ⟨y5,yS⟩)) λ_=>ω
 ·exact aw (λ_=>by dsimp only at*;omega) λ_=>ak ⟨hI,⟨s,l.length,rfl,Nat.le_refl _,hI⟩,rfl⟩
abbrev RoQ(c:ae)(p k:Nat)(r:cV×aM×cE):Prop:=vx (p+70) r.1∧Dk (k+400) r.2.1∧Yi c r.1.length r.2.2
theorem aik{q:Int}(h:qIn q):W .u64 q=q∧q≠0:=by
 unfold qIn at h
 exact⟨dW ω ω,ω⟩
theorem vx.snoc{p:Nat}{l:cV}{x:gR}(h:vx p l)(hx:G 0 kZ x):vx (p+1) (l++[x]):=G.cat h (G.one hx (aG 1))
theorem Ba{α:Type}(l:List α)(x:α):(l++[x]).length=l.length+1:=by rw[aS,aI]
theorem Yj(N:Nat)(hN:5000000≤N){c:ae}(hq:Cq c){d:aM}{t:cE}{l:cV}{p k:Nat}(hp:p≤600)(hk:k≤20000)(hl:vx p l)(hd:Dk k d)(ht:Yi c l.length t):Ok (RoQ c p k) (dV N d t l):=by
 have hc:=hq.1.1
 have UR:=hq.f.1
 have i16:aD 16:=bk
 have i17:aD 17:=bk
 have i18:aD 18:=bk
 have i19:aD 19:=bk
 have i10:aD 10:=bk
 have i20:aD 20:=bk
 have i2:aD 2:=bk
 have z:=bJ
 have He:=hl.1
 have DK: ∀(d:aM) (t:cE) (l:cV),vx (p+5) l→Dk (k+20) d→Yi c l.length t→Ok (RoQ c p k) (dV.HW N d t l):=λd t l hl hd ht=>by
  have He:=hl.1
  unfold dV.HW dV.B0
  have Ql:=vx.snoc hl (sd (m:=0) i18 z z z z z z z)
  refine aC (by rw[aI];omega) (af (agd N hN hc ω Ql (ht.mono (by rw[Ba];omega))) λr ⟨hs,ht,he⟩=> ?_)
  rw[he]
  generalize l++[((18:Int),Lx)]=l at*
  have h12:=hs.2.2.2.2
  have hL:=hs.1.2.2.2.1.2.2.2.2.2.1
  generalize r.1=s at*
  refine bc (len:=s.2.2.2.1.2.2.2.2.2.1.length) (F:=λn i (y:aM×cV)=>dV.nW N n y.1 r.2.1 y.2 s i) (s:=(_,_)) (λi y=>Dk (k+20+10*i) y.1∧vx (p+6+4*i) y.2∧l.length≤y.2.length) ⟨hd,Ql,aG _⟩ ω (λn i y hi hI hr=> ?_) (λn y hI=> ?_)
  all_goals obtain⟨hd,hl,hle⟩:=hI
  all_goals unfold dV.nW dV.mR
  ·refine aw (λ_=>aB ⟨ω,ω⟩ ?_) λ_=>ω
   have hx:G 900 jm (s.2.2.2.1.2.2.2.2.2.1.getD (i:Int).toNat ((0:Int),(cn,aV))):=G.mono (by have:=Ql.1;omega) (G.at hL _)
   generalize s.2.2.2.1.2.2.2.2.2.1.getD (i:Int).toNat ((0:Int),(cn,aV))=x at*
   refine iH (len:=5) (F:=λn' j (w:aM×cV)=>dV.D5 N (dV.nW N n) n' w.1 r.2.1 w.2 s (i:Int) x j) (λj w=>1≤j∧Dk (k+20+10*i+2*(j-1)) w.1∧vx (p+6+4*i+(j-1)) w.2∧l.length≤w.2.length) (λn' j w hj hJ eO=> ?_) (λn' w hJ=> ?_) 5 N 1 y ω ω ω ⟨aG 1,hd,hl,hle⟩
   all_goals obtain⟨hj1,hd,hl,hle⟩:=hJ
   all_goals unfold dV.D5 dV.DH
   ·have hwl:=hl.1
    rw[ay (x:=(j:Int)+1) ω ω,ag j]
    refine dY (λ_=>af (pM N δ hd (by unfold kA;omega)) λa hd=>bw (λ_=>af (iV N δ hd (by unfold kA;omega)) λv ⟨_,hd⟩=>aC (by rw[List.length_singleton];omega) (eO (_,_) ⟨ω,Dk.mono hd ω,G.mono ω (vx.snoc hl (sd i19 (iT ω ω) z z z hx.1 z (A4 (Xr (fU _) (by unfold aD;decide)) (by unfold aD;decide)))),by dsimp only;rw[Ba];omega⟩)) λ_=>eO (_,_) ⟨ω,Dk.mono hd ω,G.mono ω hl,hle⟩) λ_=>ω
   ·rw[ay (x:=(i:Int)+1) ω ω,ag i]
    exact dY (λ_=>ω) λ_=>hr w ⟨Dk.mono hd ω,G.mono ω hl,hle⟩
  ·have Wv:=hl.1
   obtain⟨s',a,e,vO,Vd⟩:=ht
   refine aw (λ_=>ω) λ_=>af (tZ N ω hd (c:=r.2.1.1) (by rw[e];exact UR) ω) λn1 ⟨Qk,hd⟩=> ?_
   have ail:=Qk.1
   have h5:=G.cat hl Qk
   have h5l:=h5.1
   have h6:=G.cat h5 (G.two (m:=2) (sd (m:=0) i10 z z z z z i2 z) (sd i20 z z z z z z z) (aG 2))
   exact aC ω (aC (by simp only[List.length_append,List.length_cons,List.length_nil];omega) (ak ⟨G.mono ω h6,Dk.mono hd ω,⟨s',a,e,by dsimp only;rw[List.length_append,List.length_append];omega,Vd⟩⟩))
 unfold dV dV.b
 refine af (pM N δ hd (by unfold kA;omega)) λa hd=>pj (λ_=> ?_) λ_=>DK _ _ _ (G.mono ω hl) (Dk.mono hd ω) ht
 have Ql:=vx.snoc hl (sd (m:=0) i16 z z z z z z z)
 refine aC (by rw[aI];omega) (af (agd N hN hc ω Ql (ht.mono (by rw[Ba];omega))) λr ⟨hs,ht,he⟩=> ?_)
 rw[he]
 generalize l++[((16:Int),Lx)]=l at*
 obtain⟨h4,hg⟩:=hs.2.2.2.1
 have hH:=hs.1.2.2.2.1.2.2.2.2.1
 have hP:=hs.1.2.2.1.2.2.2.2.1
 have hpn:(r.1.2.2.1.2.2.2.2.1.length:Int)=c.1.length:=hs.2.1.n
 generalize r.1=s at*
 refine bc (len:=s.2.2.2.1.2.2.2.2.1.length) (F:=λn i (y:aM×cV)=>dV.l5 N n y.1 r.2.1 y.2 s i) (s:=(_,_)) (λi y=>Dk (k+1+4*i) y.1∧vx (p+1+i) y.2∧l.length≤y.2.length) ⟨hd,Ql,aG _⟩ ω (λn i y hi hI hr=> ?_) (λn y hI=> ?_)
 all_goals obtain⟨hd,hl,hle⟩:=hI
 all_goals unfold dV.l5 dV.eg
 ·have Wv:=hl.1
  have hx:=hg _ (pt (d:=aV) hi)
  have hx6:G (200+l.length) eA (s.2.2.2.1.2.2.2.2.1.getD i aV):=hH.2 _ (pt hi)
  have hu:=aik hx.2
  rw[ay (x:=(i:Int)+1) ω ω,ag i,aJ]
  dsimp only
  generalize s.2.2.2.1.2.2.2.2.1.getD i aV=x at*
  refine aw (λ_=>aB ⟨ω,ω⟩ (af (pM N δ hd (by unfold kA;omega)) λa hd=>pj (λ_=>af (iV N δ hd (by unfold kA;omega)) λv ⟨_,hd⟩=>af (Ec N (by unfold kA;omega) hd) λw ⟨_,hd⟩=>ok_eq (λe=>absurd (hu.1.symm.trans e) hu.2) λ_=>aB ?_ (aC (by rw[List.length_singleton];omega) (hr (_,_) ⟨Dk.mono hd ω,vx.snoc hl (sd i17 z (fU _) z z hx6.1 (fU _) (G.at hP _)),by dsimp only;rw[Ba];omega⟩))) λ_=>hr (_,_) ⟨Dk.mono hd ω,G.mono ω hl,hle⟩)) λ_=>ω
  have h1:=hx.1
  have g: ∀v:Int,(0≤v∧v<(c.1.length:Int))→0≤v∧v<(s.2.2.1.2.2.2.2.1.length:Int):=λv h=>ω
  exact g _ h1
 ·exact aw (λ_=>ω) λ_=>DK _ _ _ (G.mono ω hl) (Dk.mono hd ω) (ht.mono hle)
theorem US(N:Nat)(hN:5000000≤N){c:ae}(hq:Cq c){d:aM}{t:cE}{L:cV}{k j:Nat}(hk:k≤10000)(hj:j≤2)(hl:vx 220 L)(hd:Dk k d)(ht:Yi c L.length t):Ok (λr=>vx 400 r.1∧Dk (k+1500) r.2) (jo.D5 N N d c t L (j:Int)):=by
 obtain⟨UR,nV⟩:=hq.f
 have i21:aD 21:=bk
 have z:=bJ
 refine xR (F:=λn x (s:aM×cE×cV)=>jo.D5 N n s.1 c s.2.1 s.2.2 x) (λx s=>x≤2∧Dk (k+400*(2-x)) s.1∧vx (220+70*(2-x)) s.2.2∧Yi c s.2.2.length s.2.1) (λn x s hI hr=> ?_) (λn s hI=> ?_) j N (d,(t,L)) ω ⟨hj,Dk.mono hd ω,G.mono ω hl,ht⟩
 all_goals obtain⟨hx,hd,hl,ht⟩:=hI
 all_goals unfold jo.D5 jo.DH
 ·rw[KU ω]
  exact aw (λ_=>af (Yj N hN hq ω ω hl hd ht) λr ⟨h1,h2,h3⟩=>hr (r.2.1,(r.2.2,r.1)) ⟨ω,Dk.mono h2 ω,G.mono ω h1,h3⟩) λ_=>ω
 ·have Ql:=hl.1
  refine aw (λ_=>ω) λ_=>af (pM N δ hd (by unfold kA;omega)) λa hd=>bw (λ_=>aC (by rw[aI];omega) (af (tZ N ω hd UR ω) λn1 ⟨Qk,hd⟩=> ?_)) λ_=>af (tZ N ω hd UR ω) λn1 ⟨Qk,hd⟩=> ?_
  ·have h2:=G.cat (vx.snoc hl (sd (m:=0) i21 z z z z z z z)) Qk
   have h2l:=h2.1
   have ail:=Qk.1
   exact aC (by simp only[aS,aR,bT];omega) (ak ⟨G.mono ω h2,Dk.mono hd ω⟩)
  ·have h2:=G.cat hl Qk
   have ail:=Qk.1
   exact aC ω (ak ⟨G.mono ω h2,Dk.mono hd ω⟩)
theorem UT(N:Nat)(hN:5000000≤N){c:ae}(hq:Cq c){d:aM}{k:Nat}(hk:k≤5000)(hd:Dk k d){xg:Int}(hm:0≤xg∧xg≤100):Ok (λr=>vx 400 r.1∧Dk (k+6000) r.2) (jo N d c xg):=by
 obtain⟨UR,nV⟩:=hq.f
 have i10:aD 10:=bk
 have i11:aD 11:=bk
 have i13:aD 13:=bk
 have i14:aD 14:=bk
 have i15:aD 15:=bk
 have i21:aD 21:=bk
 have z:=bJ
 unfold jo jo.b
 refine af (Og N ω hq nV) λs ⟨⟨Ly,TJ⟩,_⟩=>af (Jh N ω hd UR hm ω) λl ⟨hl,hd⟩=>af (iV N δ hd (by unfold kA;omega)) λv ⟨_,hd⟩=> ?_
 have ht:Yi c 0 (c,(s.1,((0:Int),()))):=⟨s.1,0,rfl,aG 0,G.mono ω Ly,TJ.mono ω⟩
 generalize s.1=S at*
 dsimp only
 have He:=hl.1
 have h1:=vx.snoc hl (sd (m:=0) i11 (fU (1+v.1)) z z z z z z)
 have h1l:=h1.1
 refine aC (by simp only[aS,aR,bT];omega) (af (tZ N ω hd UR ω) λn1 ⟨Qk,hd⟩=> ?_)
 have h2:=G.cat h1 Qk
 have h2l:=h2.1
 have ail:=Qk.1
 refine aC (by simp only[aS,aR,bT];omega) (aC (by simp only[aS,aR,bT];omega) ?_)
 have h3:=vx.snoc h2 (sd (m:=0) i13 (fU (1+v.1)) z z z z z z)
 generalize hL:(l.1++[((11:Int),(W .i64 (1+v.1),fm))]++n1.1)++[((13:Int),(W .i64 (1+v.1),fm))]=L at h3
 refine iH (len:=8) (F:=λn i (y:aM×cV)=>jo.l9 N n y.1 c (c,(S,((0:Int),()))) y.2 i) (λi y=>5≤i∧Dk (k+3200+2*(i-5)) y.1∧vx (205+(i-5)) y.2) (λn i y hi hI hr=> ?_) (λn y hI=> ?_) 8 N 5 (_,L) ω ω ω ⟨aG 5,Dk.mono hd ω,G.mono ω h3⟩
 all_goals obtain⟨hi5,hd,hl⟩:=hI
 all_goals have Wv:=hl.1
 all_goals unfold jo.l9 jo.xK
 ·rw[ay (x:=(i:Int)+1) ω ω,ag i]
  exact dY (λ_=>af (pM N δ hd (by unfold kA;omega)) λa hd=>pj (λ_=>af (iV N δ hd (by unfold kA;omega)) λw ⟨_,hd⟩=>aC (by rw[aI];omega) (hr (_,_) ⟨ω,Dk.mono hd ω,G.mono ω (vx.snoc hl (sd i14 (fU _) (iT ω ω) z z z z z))⟩)) λ_=>hr (_,_) ⟨ω,Dk.mono hd ω,G.mono ω hl⟩) λ_=>ω
 ·refine dY (λ_=>ω) λ_=>af (tZ N ω hd UR ω) λn2 ⟨hn2,hd⟩=> ?_
  have h4:=G.cat hl hn2
  have h4l:=h4.1
  have azH:=hn2.1
  refine aC ω ?_
  dsimp only
  refine af (iV N δ hd (by unfold kA;omega)) λw ⟨_,hd⟩=> ?_
  have h5:=G.cat h4 (G.two (m:=2) (sd (m:=0) i10 z z z z z (fU (2+w.1)) z) (sd i15 z z z z z z z) (aG 2))
  have h5l:=h5.1
  refine aC (by simp only[aS,aR,bT];omega) (af (tZ N ω hd UR ω) λn3 ⟨hn3,hd⟩=> ?_)
  have h6:=G.cat h5 hn3
  have azI:=hn3.1
  refine aC (by simp only[aS,aR,bT];omega) (af (iV N δ hd (by unfold kA;omega)) λu ⟨hu,hd⟩=> ?_)
  obtain⟨j,hj⟩: ∃j:Nat,u.1=(j:Int):=⟨u.1.toNat,ω⟩
  rw[hj]
  have hLl:=h6.1
  exact KR (US N hN hq ω ω (G.mono ω h6) hd (ht.mono (bp _))) λr hr=>⟨hr.1,Dk.mono hr.2 ω⟩
theorem UU(N:Nat)(hN:5000000≤N){c:ae}(hq:Cq c){d:aM}{k:Nat}(hk:k≤4000)(hd:Dk k d){xg:Int}(hm:0≤xg∧xg≤100):Ok (λr=>vx 400 r.1∧Dk (k+7000) r.2) (GF N d c xg):=by
 obtain⟨UR,nV⟩:=hq.f
 unfold GF GF.b
 refine af (iV N δ hd (by unfold kA;omega)) λa ⟨_,hd⟩=>ok_eq (λ_=> ?_) λ_=>ok_eq (λ_=>af (Jh N ω hd UR hm ω) λl ⟨hl,hd⟩=>ak ⟨G.mono ω hl,Dk.mono hd ω⟩) λ_=>af (UT N hN hq ω hd hm) λl ⟨hl,hd⟩=>ak ⟨hl,Dk.mono hd ω⟩
 rw[ay (x:=xg+1) ω ω]
 refine af (iV N ⟨ω,ω⟩ hd (by unfold kA;omega)) λu ⟨hu,hd⟩=> ?_
 obtain⟨j,hj⟩: ∃j:Nat,u.1=(j:Int):=⟨u.1.toNat,ω⟩
 rw[hj]
 refine xR (F:=λn x (s:aM×cV)=>GF.l5 N n s.1 c s.2 x) (λx s=>x≤100∧Dk (k+10+25*(100-x)) s.1∧vx (100-x) s.2) (λn x s hI hr=> ?_) (λn s hI=> ?_) j N (u.2,[]) ω ⟨ω,Dk.mono hd ω,G.nil⟩
 all_goals obtain⟨hx,hd,hl⟩:=hI
 all_goals unfold GF.l5 GF.eg
 ·have hs:=hl.1
  rw[KU ω]
  exact aw (λ_=>af (Gh N hd UR ω) λr ⟨h1,h2⟩=>aC (by rw[aI];omega) (hr (_,_) ⟨ω,Dk.mono h2 ω,G.mono ω (vx.snoc hl h1)⟩)) λ_=>ω
 ·exact aw (λ_=>ω) λ_=>ak ⟨G.mono ω hl,Dk.mono hd ω⟩
theorem Yk(N:Nat)(hN:5000000≤N){c:ae}(hq:Cq c){d:aM}(hd:Dk 1000 d){xg:Int}(hm:0≤xg∧xg≤100):Ok (λr=>(GS 900 r.1∧nX c 900 r.1)∧Dk 10000 r.2) (F18 N d c xg):=by
 obtain⟨UR,nV⟩:=hq.f
 unfold F18
 exact af (UU N hN hq ω hd hm) λl ⟨hl,hd⟩=>af (aij N hN ω hq nV hl) λr hr=>ak ⟨hr,Dk.mono hd ω⟩
end VM
end
section
namespace VM
open Go VM.F
theorem Yl(N:Nat)(hN:4000000≤N){b:an}{s e:au}(w:im b)(hr:eC b.2.2.1=true)(hs:cQ b.2.2.2.1=true)(lr:b.2.2.1.length≤90000)(ls:b.2.2.2.1.length≤90000)(qs:dT s)(lns:s.length≤100000)(qe:BN e)(lne:e.length≤100000):
  yq N b s (e.map g7)=some (ew b s e):=by
 unfold yq ew
 rw[FN N hN hs ls w.qs qs lns,Sl N hN hr lr w.qr qe lne]
 unfold vJ
 rw[ar,ar]
 cases eh Fq (fS b.2.2.2.1 s) jC with
 |none=>rfl
 |some s'=>
  cases eh aD (fS b.2.2.1 e) nC with
  |none=>rfl
  |some r'=>rfl
theorem Oh{b:an}{s e e':au}(h: ∀k n,bZ k n e=bZ k n e'):ew b s e=ew b s e':=by
 have:fS b.2.2.1 e=fS b.2.2.1 e':=by funext k n;unfold fS;rw[h]
 unfold ew;rw[this]
def B9(id x:Int):au:=[((5:Int),(id,((-x:Int),()))),((2:Int),((0:Int),(x,())))]
def Oi(id y:Int):au:=[((2:Int),((0:Int),((- -y:Int),()))),((5:Int),(id,((-y:Int),())))]
def yt(c:ae)(b:an)(a:bM):Int:=if a.2.2.1=2 then(lJ c b a.1).1 else 0
def vh(b:an)(a:bM):Int:=ej b.2.2.1 5 a.1
def vK(y:Int):Int:=if 0<y then 0 else y
def jy(b:an)(m:Int):aL→au
 |[]=>[]
 |a::t=>if a.2.1=m then yp a.1 (posOf b.2.2.2.1 a.1)++jy b m t else jy b m t
def kC(c:ae)(b:an)(m:Int):aL→au
 |[]=>[]
 |a::t=>if a.2.1=m then B9 a.1 (yt c b a+vK (vh b a))++kC c b m t else kC c b m t
def pU(c:ae)(b:an)(m:Int):aL→au
 |[]=>[]
 |a::t=>if a.2.1=m then((if a.2.2.1=2 then B9 a.1 (yt c b a)else [])++(if vh b a<0 then Oi a.1 (vh b a)else []))++pU c b m t else pU c b m t
theorem rQ(b:an)(m:Int)(a:bM)(t:aL):jy b m (a::t)=if a.2.1=m then yp a.1 (posOf b.2.2.2.1 a.1)++jy b m t else jy b m t:=rfl
theorem rR(c:ae)(b:an)(m:Int)(a:bM)(t:aL):kC c b m (a::t)=if a.2.1=m then B9 a.1 (yt c b a+vK (vh b a))++kC c b m t else kC c b m t:=rfl
theorem zi(c:ae)(b:an)(m:Int)(a:bM)(t:aL):pU c b m (a::t)=if a.2.1=m then((if a.2.2.1=2 then B9 a.1 (yt c b a)else [])++(if vh b a<0 then Oi a.1 (vh b a)else []))++pU c b m t else pU c b m t:=rfl
theorem abi{c:ae}{b:an}(w:im b)(a:bM):(vh b a≤0→yt c b a=0)∧(0<vh b a→0≤yt c b a∧yt c b a≤vh b a):=by
 have E4:=ry (c:=c) (AP w.qs a.1)
 unfold yt vh
 by_cases h:a.2.2.1=2
 ·rw[aj h]
  unfold lJ
  generalize ej b.2.2.1 5 a.1=m at*
  generalize kv c (posOf b.2.2.2.1 a.1)=s at*
  have key:(m≤0→lY m s=0)∧(0<m→0≤lY m s∧lY m s≤m):=by
   unfold lY
   refine⟨λh=>aj h,λh=> ?_⟩
   rw[ah ω]
   split<;>omega
  split
  ·split
   ·exact key
   ·exact⟨λ_=>rfl,λh=>⟨fJ _,by show(0:Int)≤m;omega⟩⟩
  ·exact⟨λ_=>rfl,λh=>⟨fJ _,by show(0:Int)≤m;omega⟩⟩
 ·rw[ah h]
  exact⟨λ_=>rfl,λh=>⟨fJ _,ω⟩⟩
theorem Ld{b:an}(w:im b)(a:bM):aD (vh b a):=pd w.qr 5 a.1
theorem Ca{c:ae}{b:an}(w:im b)(a:bM):aD (yt c b a+vK (vh b a))∧aD (yt c b a):=by
 have h:=abi (c:=c) w a
 have hm:=Ld w a
 unfold vK aD at*
 by_cases h0:0<vh b a
 ·rw[aj h0];have:=h.2 h0;omega
 ·rw[ah h0];have:=h.1 ω;omega
theorem Le(k n id x:Int):bZ k n (B9 id x)=(if 5=k∧id=n then-x else 0)+(if 2=k∧0=n then x else 0):=by
 unfold B9
 rw[eX,eX,tU]
 show(if 5=k∧id=n then-x else 0)+((if 2=k∧0=n then x else 0)+0)=_
 omega
theorem abj(k n id y:Int):bZ k n (Oi id y)=(if 2=k∧0=n then y else 0)+(if 5=k∧id=n then-y else 0):=by
 unfold Oi
 rw[eX,eX,tU]
 show(if 2=k∧0=n then- -y else 0)+((if 5=k∧id=n then-y else 0)+0)=_
 rw[zN];omega
theorem JA{c:ae}{b:an}(w:im b)(m k n:Int): ∀t:aL,bZ k n (kC c b m t)=bZ k n (pU c b m t)
 |[]=>rfl
 |a::t=>by
  have ih:=JA (c:=c) w m k n t
  rw[rR,zi]
  by_cases h:a.2.1=m
  ·rw[aj h,aj h,nA,nA,nA,ih,Le]
   congr 1
   have h1:bZ k n (if a.2.2.1=2 then B9 a.1 (yt c b a)else [])=(if 5=k∧a.1=n then-yt c b a else 0)+(if 2=k∧0=n then yt c b a else 0):=by
    by_cases h2:a.2.2.1=2
    ·rw[aj h2,Le]
    ·have e:yt c b a=0:=by unfold yt;exact ah h2
     rw[ah h2,tU,e];split<;>split<;>rfl
   have h2:bZ k n (if vh b a<0 then Oi a.1 (vh b a)else [])=(if 5=k∧a.1=n then-vK (vh b a)else 0)+(if 2=k∧0=n then vK (vh b a)else 0):=by
    unfold vK
    by_cases h3:vh b a<0
    ·rw[aj h3,abj,ah (show ¬0<vh b a by omega),EJ]
    ·rw[ah h3,tU]
     have e:(if 0<vh b a then 0 else vh b a)=0:=by split<;>omega
     rw[e];split<;>split<;>rfl
   rw[h1,h2]
   generalize yt c b a=x
   generalize vK (vh b a)=y
   by_cases hP:5=k∧a.1=n
   ·rw[aj hP,aj hP,aj hP]
    by_cases hQ:2=k∧0=n
    ·rw[aj hQ,aj hQ,aj hQ];omega
    ·rw[ah hQ,ah hQ,ah hQ];omega
   ·rw[ah hP,ah hP,ah hP]
    by_cases hQ:2=k∧0=n
    ·rw[aj hQ,aj hQ,aj hQ];omega
    ·rw[ah hQ,ah hQ,ah hQ];omega
  ·rw[ah h,ah h];exact ih
theorem vi{a:aL}(h:fC a=true):a.length≤24∧ ∀x∈a,1≤x.1∧x.1≤24:=by
 unfold fC at h
 rw[fX]at h
 have h':=bz h
 have rng: ∀i,i<a.length→1≤(a.getD i aV).1∧(a.getD i aV).1≤24:=λi hi=>(h' i hi).1.1
 have inc: ∀i,i<a.length→(i:Int)+1≤(a.getD i aV).1:=by
  intro i
  induction i with
  |zero=>intro hi;exact(rng 0 hi).1
  |succ i ih=>
   intro hi
   have p:=ih ω
   have q:=(h' (i+1) hi).2.1 ω
   rw[Nat.add_sub_cancel]at q
   have g: ∀x y:Int,(i:Int)+1≤x→x<y→((i+1:Nat):Int)+1≤y:=λx y _ _=>ω
   exact g _ _ p q
 refine⟨?_,λx hx=> ?_⟩
 ·by_cases h0:a.length=0
  ·omega
  ·have p:=inc (a.length-1) ω
   have q:=(rng (a.length-1) ω).2
   have g: ∀x:Int,((a.length-1:Nat):Int)+1≤x→x≤24→a.length≤24:=λx _ _=>ω
   exact g _ p q
 ·obtain⟨i,hi,e⟩:=gm hx
  have:=rng i hi
  rw[aU,bl hi]at this
  rw[←e];exact this
theorem Oj{a:Int}{x:dh}: ∀{t:aE},x∈yp a t→ ∃y∈t,x=(a,(y.1,((0-y.2.1:Int),())))∨x=((0:Int),(y.1,(y.2.1,())))
 |[],hx=>nomatch hx
 |y::t,hx=>by
  rw[tX]at hx
  rcases aX.1 hx with e|hx
  ·exact⟨y,bg ..,Or.inl e⟩
  ·rcases aX.1 hx with e|hx
   ·exact⟨y,bg ..,Or.inr e⟩
   ·obtain⟨y',hy,e⟩:=Oj hx
    exact⟨y',aY _ hy,e⟩
theorem JB(a i:Int): ∀t:aE,(c6 i (yp a t)).sum=0
 |[]=>rfl
 |y::t=>by
  have ih:=JB a i t
  rw[tX,df,df]
  dsimp only
  by_cases e:y.1=i
  ·rw[aj e,aj e,cz,cz,ih]
   have g: ∀v:Int,0-v+(v+0)=0:=λv=>ω
   exact g y.2.1
  ·rw[ah e,ah e];exact ih
theorem JC(b:an)(hg: ∀a,FQ (posOf b.2.2.2.1 a))(m:Int): ∀t:aL,(jy b m t).length≤12*t.length
 |[]=>aG _
 |a::t=>by
  have ih:=JC b hg m t
  have:=(hg a.1).len
  rw[rQ,aR]
  split
  ·rw[aS,w9];omega
  ·omega
theorem Cb{b:an}{m:Int}{x:dh}: ∀{t:aL},x∈jy b m t→ ∃a∈t,x∈yp a.1 (posOf b.2.2.2.1 a.1)
 |[],h=>nomatch h
 |a::t,h=>by
  rw[rQ]at h
  by_cases e:a.2.1=m
  ·rw[aj e]at h
   rcases ba.1 h with h|h
   ·exact⟨a,bg ..,h⟩
   ·obtain⟨a',ha,h'⟩:=Cb h
    exact⟨a',aY _ ha,h'⟩
  ·rw[ah e]at h
   obtain⟨a',ha,h'⟩:=Cb h
   exact⟨a',aY _ ha,h'⟩
theorem GG(b:an)(m i:Int): ∀t:aL,(c6 i (jy b m t)).sum=0
 |[]=>rfl
 |a::t=>by
  have ih:=GG b m i t
  rw[rQ]
  split
  ·rw[yI,lT,JB,ih];rfl
  ·exact ih
theorem GH{b:an}(m:Int)(hk:cQ b.2.2.2.1=true)(hq:dT b.2.2.2.1)(ha:fC b.2.1=true):WO (jy b m b.2.1):=by
 have hg:=λa=>AT hk hq a
 obtain⟨h24,bf⟩:=vi ha
 have lW: ∀p q:Int,1≤p→p≤24→CT q→bG p q∧bG 0 q:=λp q h1 h2 h3=>by unfold CT at h3;unfold bG;omega
 have key: ∀x∈jy b m b.2.1,bG x.1 x.2.1∧aD (ed x)∧p8 (ed x):=λx hx=>by
  obtain⟨a,ha,hx⟩:=Cb hx
  obtain⟨y,hy,e|e⟩:=Oj hx
  ·rw[e];exact⟨(lW _ _ (bf a ha).1 (bf a ha).2 ((hg a.1).inst y hy)).1,T9 ((hg a.1).q y hy)⟩
  ·rw[e];exact⟨(lW _ _ (bf a ha).1 (bf a ha).2 ((hg a.1).inst y hy)).2,(hg a.1).q y hy⟩
 exact⟨λx hx=>(key x hx).1,λx hx=>(key x hx).2,by have:=JC b hg m b.2.1;omega,λi=>GG b m i b.2.1⟩
theorem xY{c:ae}{b:an}{m:Int}{x:dh}: ∀{t:aL},x∈kC c b m t→ ∃a∈t,x∈B9 a.1 (yt c b a+vK (vh b a))
 |[],h=>nomatch h
 |a::t,h=>by
  rw[rR]at h
  by_cases e:a.2.1=m
  ·rw[aj e]at h
   rcases ba.1 h with h|h
   ·exact⟨a,bg ..,h⟩
   ·obtain⟨a',ha,h'⟩:=xY h
    exact⟨a',aY _ ha,h'⟩
  ·rw[ah e]at h
   obtain⟨a',ha,h'⟩:=xY h
   exact⟨a',aY _ ha,h'⟩
theorem JD(c:ae)(b:an)(m:Int): ∀t:aL,(kC c b m t).length≤2*t.length∧((kC c b m t).map ed).sum=0
 |[]=>⟨aG _,rfl⟩
 |a::t=>by
  have ih:=JD c b m t
  rw[rR,aR]
  split
  ·refine⟨?_,?_⟩
   ·rw[aS,show(B9 a.1 (yt c b a+vK (vh b a))).length=2 from rfl];omega
   ·rw[cZ,lT,ih.2]
    show-(yt c b a+vK (vh b a))+((yt c b a+vK (vh b a))+0)+0=0
    omega
  ·exact⟨ω,ih.2⟩
theorem Q8{x:Int}(h:aD x):dm (-x):=by unfold aD at h;unfold dm;omega
theorem GI{c:ae}{b:an}(w:im b)(m:Int)(ha:fC b.2.1=true):WV (kC c b m b.2.1):=by
 obtain⟨h24,bf⟩:=vi ha
 have hl:=JD c b m b.2.1
 have Tw: ∀p:Int,1≤p→p≤24→cS 5 p:=λp h1 h2=>by unfold cS;omega
 refine⟨λx hx=> ?_,λx hx=> ?_,ω,hl.2⟩
 ·obtain⟨a,ha,hx⟩:=xY hx
  rcases aX.1 hx with e|hx
  ·rw[e];exact Tw _ (bf a ha).1 (bf a ha).2
  ·rw[bV.1 hx];show cS 2 0;decide
 ·obtain⟨a,ha,hx⟩:=xY hx
  rcases aX.1 hx with e|hx
  ·rw[e];exact Q8 (Ca w a).1
  ·rw[bV.1 hx];exact rr (Ca w a).1
theorem JE{c:ae}{b:an}(w:im b)(m:Int): ∀t:aL,(pU c b m t).length≤4*t.length∧BN (pU c b m t)
 |[]=>⟨aG _,λx hx=>nomatch hx⟩
 |a::t=>by
  have ih:=JE (c:=c) w m t
  rw[zi,aR]
  by_cases h:a.2.1=m
  ·rw[aj h]
   have l1:(if a.2.2.1=2 then B9 a.1 (yt c b a)else []).length≤2:=by
    split
    ·exact aG 2
    ·exact bp _
   have l2:(if vh b a<0 then Oi a.1 (vh b a)else []).length≤2:=by
    split
    ·exact aG 2
    ·exact bp _
   refine⟨by rw[aS,aS];omega,λx hx=> ?_⟩
   rcases ba.1 hx with hx|hx
   ·rcases ba.1 hx with hx|hx
    ·split at hx
     ·rcases aX.1 hx with e|hx
      ·rw[e];exact Q8 (Ca w a).2
      ·rw[bV.1 hx];exact rr (Ca (c:=c) w a).2
     ·nomatch hx
    ·split at hx
     ·rcases aX.1 hx with e|hx
      ·rw[e];show dm (- -vh b a);rw[zN];exact rr (Ld w a)
      ·rw[bV.1 hx];exact Q8 (Ld w a)
     ·nomatch hx
   ·exact ih.2 x hx
  ·rw[ah h];exact⟨ω,ih.2⟩
end VM
end
section
namespace VM
open Go VM.F
theorem Db{c:ae}{b:an}(h:dx c b=true):fC b.2.1=true:=by
 unfold dx at h
 have h1:=(cK.1 (cK.1 h).2).1
 unfold pG at h1
 exact(cK.1 (cK.1 h1).2).1
def gS(c:ae)(b:an)(m:Int):an×Int:=
 if dx c b then(if eL b.1 m=0 then((cn,(c9,(bH,(bH,(dB,(dR,())))))),3)else ew b (jy b m b.2.1) (kC c b m b.2.1))else((cn,(c9,(bH,(bH,(dB,(dR,())))))),1)
theorem Lf(N:Nat)(hN:4000000≤N)(c:ae){b:an}(w:AN b)(m:Int):tc N c b m=some (gS c b m):=by
 unfold tc tc.b gS
 rw[Sd N hN w.w,ar,BK N w.w.m ω,ar,cond_not,aN]
 by_cases hB:dx c b=false
 ·rw[hB];rfl
 rw[Ez]at hB
 rw[hB,aq,aj rfl]
 by_cases hS:eL b.1 m=0
 ·rw[aj hS,aj hS]
 rw[ah hS,ah hS]
 obtain⟨hr,hs⟩:=eF hB
 have ha:=Db hB
 obtain⟨h24,bf⟩:=vi ha
 have gs:=GH m hs w.w.qs ha
 have ge:=GI (c:=c) w.w m ha
 have hls:=gs.len
 have hle:=ge.len
 have:=om b.2.1 aV (λn i (z:au×au)=>tc.l8 N n m c b (cn,(c9,(bH,(bH,(dB,(dR,())))))) z.1 (z.2.map jU) b.2.1 (b.2.1.length:Int) i) (λt z=>some (ew b (jy b m b.2.1) (kC c b m b.2.1)))
  (λi z=>z.1++jy b m (b.2.1.drop i)=jy b m b.2.1∧z.2++kC c b m (b.2.1.drop i)=kC c b m b.2.1)
  (λn i z hi hI wX=> ?_) (λn z hI=> ?_) b.2.1.length N 0 ([],[]) ω ω ω ⟨rfl,rfl⟩
 ·exact this
 ·unfold tc.l8 tc.yn tc.Vn tc.NR
  obtain⟨i1,i2⟩:=hI
  have z1:z.1.length≤400:=by rw[←i1,aS]at hls;omega
  have z2:z.2.length≤400:=by rw[←i2,aS]at hle;omega
  have hm:b.2.1.getD i aV∈b.2.1:=by
   rw[aU,bl hi];exact dA hi
  rw[drop_cons hi aV,rQ]at i1
  rw[drop_cons hi aV,rR]at i2
  have hai:=bf _ hm
  rw[aJ]
  generalize b.2.1.getD i aV=a at*
  have hx:=(Ca (c:=c) w.w a).1
  have o0:=hx
  unfold aD at o0
  have Hz:=(AT hs w.w.qs a.1).len
  rw[aT ω,aq,a6 ω ω,aq,ay (x:=(i:Int)+1) ω ω,ag i,cond_not,aN]
  by_cases h1:a.2.1=m
  ·rw[aj h1]at i1 i2
   have fin: ∀k:Int,k=yt c b a→((BP N b.2.2.1 5 a.1).bind λr7=>(Vl N (W .i64 (k+(mn r7 0)))).bind λkD=>(F66 N kD).bind λnY=>(CU N b.2.2.2.1 a.1 (0:Int)).bind λn6=>cond (small (List.length z.1+List.length n6)) (cond (small (List.length (z.2.map jU)+List.length ([((5:Int),(a.1,(nY.1,()))),((2:Int),((0:Int),(kD,())))]))) (tc.l8 N n m c b (cn,(c9,(bH,(bH,(dB,(dR,())))))) (z.1++n6) (z.2.map jU++([((5:Int),(a.1,(nY.1,()))),((2:Int),((0:Int),(kD,())))])) b.2.1 (b.2.1.length:Int) ((i+1:Nat):Int)) (none)) (none))=some (ew b (jy b m b.2.1) (kC c b m b.2.1)):=λk hk=>by
    subst hk
    have e:W .i64 (yt c b a+mn (ej b.2.2.1 5 a.1) 0)=yt c b a+vK (vh b a):=by
     have:mn (ej b.2.2.1 5 a.1) 0=vK (vh b a):=by rw[Ry];rfl
     rw[this,ay o0.1 o0.2]
    rw[Sn N w.w.r ω,ar,e,wV N o0.1 o0.2,ar,aat N hx,ar,ahY N ω w.w.s hs w.w.qs hai.1 hai.2,ar,bL (by rw[w9];omega),aq,bL (by rw[cy,aR,aI];omega),aq]
    have:=wX (z.1++yp a.1 (posOf b.2.2.2.1 a.1),z.2++B9 a.1 (yt c b a+vK (vh b a))) ⟨by rw[←i1,bu],by rw[←i2,bu]⟩
    rw[cZ]at this
    exact this
   rw[aj h1,aN]
   by_cases h2:a.2.2.1=2
   ·rw[aj h2,BS N hN c w.w,ar]
    exact fin _ (by unfold yt;rw[aj h2])
   ·rw[ah h2]
    exact fin 0 (by unfold yt;rw[ah h2])
  ·rw[ah h1]at i1 i2
   rw[ah h1]
   exact wX z ⟨i1,i2⟩
 ·unfold tc.l8 tc.yn
  obtain⟨i1,i2⟩:=hI
  rw[mZ]at i1 i2
  have e1:z.1=jy b m b.2.1:=by rw[←i1];exact(ck _).symm
  have e2:z.2=kC c b m b.2.1:=by rw[←i2];exact(ck _).symm
  rw[aP ω,av,e1,e2,W0 N ω w.w hr hs w.r w.s gs ge,ar]
theorem Ym(N:Nat)(hN:5000000≤N)(c:ae){b:an}(w:AN b)(m:Int):mW N c b m=some (gS c b m):=by
 unfold mW mW.b gS HX
 rw[AA N hN w.w,ar,ot N w.w.m ω,ar,ar,cond_not,aN]
 by_cases hB:dx c b=false
 ·rw[hB];rfl
 rw[Ez]at hB
 rw[hB,aq,aj rfl]
 by_cases hS:eL b.1 m=0
 ·rw[aj hS,aj hS]
 rw[ah hS,ah hS]
 obtain⟨hr,hs⟩:=eF hB
 have ha:=Db hB
 obtain⟨h24,bf⟩:=vi ha
 have gs:=GH m hs w.w.qs ha
 have gp:=JE (c:=c) w.w m b.2.1
 have hls:=gs.len
 have IN:(pU c b m b.2.1).length≤400:=ω
 rw[Oh (JA w.w m · · b.2.1)]
 have:=om b.2.1 aV (λn i (z:au×au)=>mW.l8 N n m c b (cn,(c9,(bH,(bH,(dB,(dR,())))))) z.1 (z.2.map g7) i) (λt z=>some (ew b (jy b m b.2.1) (pU c b m b.2.1)))
  (λi z=>z.1++jy b m (b.2.1.drop i)=jy b m b.2.1∧z.2++pU c b m (b.2.1.drop i)=pU c b m b.2.1)
  (λn i z hi hI wX=> ?_) (λn z hI=> ?_) b.2.1.length N 0 ([],[]) ω ω ω ⟨rfl,rfl⟩
 ·exact this
 ·unfold mW.l8 mW.yn mW.Bl mW.vd
  obtain⟨i1,i2⟩:=hI
  have z1:z.1.length≤400:=by rw[←i1,aS]at hls;omega
  have z2:z.2.length≤400:=by rw[←i2,aS]at IN;omega
  have hm:b.2.1.getD i aV∈b.2.1:=by
   rw[aU,bl hi];exact dA hi
  rw[drop_cons hi aV,rQ]at i1
  rw[drop_cons hi aV,zi]at i2
  have hai:=bf _ hm
  rw[aJ]
  generalize b.2.1.getD i aV=a at*
  have hx:=(Ca (c:=c) w.w a).2
  have o0:=hx
  unfold aD at o0
  have XK:=Ld w.w a
  have Yn:=XK
  unfold aD at Yn
  have Hz:=(AT hs w.w.qs a.1).len
  rw[aT ω,aq,a6 ω ω,aq,ay (x:=(i:Int)+1) ω ω,ag i,cond_not,aN]
  by_cases h1:a.2.1=m
  ·rw[aj h1]at i1 i2
   have fin: ∀q:au,q.length≤1000→q++((if vh b a<0 then Oi a.1 (vh b a)else [])++pU c b m (b.2.1.drop (i+1)))=pU c b m b.2.1→((HQ N b a.1).bind λkD=>cond (aZ kD 0) ((iG N kD).bind λnY=>(TO N nY).bind λn6=>(yr N (2:Int) (0:Int) (5:Int) a.1 n6).bind λpV=>cond (small (List.length (q.map g7)+List.length pV)) ((iX N b.2.2.2.1 a.1 (0:Int)).bind λxj=>cond (small (List.length z.1+List.length xj)) (mW.l8 N n m c b (cn,(c9,(bH,(bH,(dB,(dR,())))))) (z.1++xj) (q.map g7++pV) ((i+1:Nat):Int)) (none)) (none)) ((iX N b.2.2.2.1 a.1 (0:Int)).bind λuj=>cond (small (List.length z.1+List.length uj)) (mW.l8 N n m c b (cn,(c9,(bH,(bH,(dB,(dR,())))))) (z.1++uj) (q.map g7) ((i+1:Nat):Int)) (none)))=some (ew b (jy b m b.2.1) (pU c b m b.2.1)):=λq hq By=>by
    have fq:=Fit.i64 Yn.1 Yn.2
    rw[IY N w.w ω,ar,show ej b.2.2.1 5 a.1=vh b a from rfl,cv N ω Yn.1 Yn.2,ar,jz N ω (fq.mono ω),ar,aax N ω w.w.s hs w.w.qs hai.1 hai.2,ar,cR]
    unfold yr
    rw[jz N ω ((Fit.neg fq).mono ω),ar,ar,bL (n:=z.1.length+_) (by rw[w9];omega),aq,bL (by rw[cy,aR,aI];omega),aq,ar,bL (n:=z.1.length+_) (by rw[w9];omega),aq]
    by_cases h3:vh b a<0
    ·rw[aj h3]at By ⊢
     have:=wX (z.1++yp a.1 (posOf b.2.2.2.1 a.1),q++Oi a.1 (vh b a)) ⟨by rw[←i1,bu],by rw[←By,bu]⟩
     rw[cZ]at this
     exact this
    ·rw[ah h3]at By ⊢
     exact wX (z.1++yp a.1 (posOf b.2.2.2.1 a.1),q) ⟨by rw[←i1,bu],By⟩
   rw[aj h1,aN]
   by_cases h2:a.2.2.1=2
   ·rw[aj h2]at i2
    have fk:=Fit.i64 o0.1 o0.2
    have ek:(lJ c b a.1).1=yt c b a:=by unfold yt;rw[aj h2]
    rw[aj h2,QF N hN c w.w,ar,ek,cv N ω o0.1 o0.2,ar]
    unfold yr at*
    rw[jz N ω (fk.mono ω),ar,ar,bL (by rw[cy,aR,aI];omega),aq]
    have:=fin (z.2++B9 a.1 (yt c b a)) (by rw[aS,show(B9 a.1 (yt c b a)).length=2 from rfl];omega) (by rw[←i2];simp only[bu])
    rw[cZ]at this
    exact this
   ·rw[ah h2]at i2
    rw[ah h2]
    exact fin z.2 ω (by rw[←i2];simp only[bu,cL])
  ·rw[ah h1]at i1 i2
   rw[ah h1]
   exact wX z ⟨i1,i2⟩
 ·unfold mW.l8 mW.yn
  obtain⟨i1,i2⟩:=hI
  rw[mZ]at i1 i2
  have e1:z.1=jy b m b.2.1:=by rw[←i1];exact(ck _).symm
  have e2:z.2=pU c b m b.2.1:=by rw[←i2];exact(ck _).symm
  rw[aP ω,av,e1,e2,Yl N ω w.w hr hs w.r w.s (λx hx=>(gs.q x hx).1) ω gp.2 ω,ar]
end VM
end
section
namespace VM
open Go VM.F Go.RowKit
theorem Q9{c:ae}{b:an}(w:im b)(m:Int):W6 (gS c b m).1:=by
 unfold gS
 split
 ·split
  ·exact xO
  ·exact Ny w _ _
 ·exact xO
def wC:ae:=([((0:Int),((100:Int),((2:Int),((3:Int),()))))],((0:Int),((0:Int),((0:Int),((0:Int),((1:Int),((0:Int),())))))))
def wR:au:=[((1:Int),((0:Int),((-10:Int),()))),((5:Int),((1:Int),((-10:Int),()))),((5:Int),((2:Int),((20:Int),())))]
def wS:au:=[((1:Int),((0:Int),((1:Int),()))),((2:Int),((0:Int),((5:Int),()))),((3:Int),((0:Int),((-6:Int),())))]
def wB:an:=([((1:Int),((3:Int),())),((2:Int),((1:Int),()))],([((1:Int),((1:Int),((1:Int),((0:Int),())))),((2:Int),((1:Int),((2:Int),((0:Int),())))),((3:Int),((2:Int),((1:Int),((0:Int),()))))],(wR,(wS,([(100:Int)],(dR,()))))))
theorem wW:AN wB:=⟨⟨δ,δ,δ,δ,δ,δ,D8 (l:=wR) δ,D8 (l:=wS) δ⟩,δ,δ⟩
theorem wCh:lJ wC wB 2=(15,0):=κ
theorem wW1:(gS wC wB 1).2=0:=κ
theorem wW9:(gS wC wB 9).2=3:=κ
theorem wH0:dN (gS wC wB 1).1.2.2.2.1 0 0=6:=κ
theorem wG1:ej (gS wC wB 1).1.2.2.1 5 1=0:=κ
theorem wG2:ej (gS wC wB 1).1.2.2.1 5 2=5:=κ
theorem wG0:ej (gS wC wB 1).1.2.2.1 2 0=5:=κ
theorem UW(N:Nat)(hN:5000000≤N):F15 N=some true:=by
 unfold F15 F56
 rw[ar]
 show(F31 N wC wB 2).bind _=_
 rw[BS N ω wC wW.w,ar,wCh]
 show(tc N wC wB 1).bind _=_
 rw[Lf N ω wC wW,ar]
 show(tc N wC wB 9).bind _=_
 rw[Lf N ω wC wW,ar]
 have sh:=Q9 (c:=wC) wW.w 1
 rw[AO N sh.s ω,ar,s8 N sh.r ω,ar,s8 N sh.r ω,ar,s8 N sh.r ω,ar,wW1,wW9,wH0,wG1,wG2,wG0]
 simp only[W5,aq]
namespace Pure
end Pure
end VM
end
section
namespace VM
open Go VM.F Go.RowKit
namespace Pure
end Pure
end VM
end
section
namespace VM
open Go VM.F Go.RowKit
def vL(f:bM→Int)(m:Int):aL→Int
 |[]=>0
 |x::t=>(if x.2.1=m then f x else 0)+vL f m t
theorem qE(f:bM→Int)(m:Int)(x:bM)(t:aL):vL f m (x::t)=(if x.2.1=m then f x else 0)+vL f m t:=rfl
theorem xZ{f:bM→Int}{m:Int}: ∀{l:aL},(∀x∈l,x.2.1=m→f x=0)→vL f m l=0
 |[],_=>rfl
 |x::t,h=>by
  rw[qE,xZ λy hy=>h y (aY _ hy)]
  by_cases e:x.2.1=m
  ·rw[aj e,h x (bg ..) e];rfl
  ·rw[ah e];rfl
theorem Ol{g:bM→Int}{m a:Int}: ∀{l:aL} {x0:bM},l.Pairwise C8→x0∈l→x0.1=a→vL (λx=>if x.1=a then g x else 0) m l=if x0.2.1=m then g x0 else 0
 |[],_,_,h,_=>nomatch h
 |y::t,x0,hp,h,ha=>by
  obtain⟨h1,h2⟩:=dZ.1 hp
  have ne: ∀x z:bM,C8 x z→x.1=a→z.1=a→False:=λx z h h1 h2=>by
   have h:mQ x.1 z.1:=h
   unfold mQ at h
   rw[h1,h2]at h;exact Int.lt_irrefl _ h
  rw[qE]
  rcases aX.1 h with rfl|h
  ·rw[aj ha,xZ λz hz hm=>ah λe=>ne _ _ (h1 z hz) ha e,fY]
  ·rw[Ol h2 h ha,ah (show ¬y.1=a from λe=>ne _ _ (h1 x0 h) e ha)]
   split<;>(split<;>omega)
def kV(i:Int):aE→Int
 |[]=>0
 |y::t=>(if y.1=i then y.2.1 else 0)+kV i t
theorem GJ{a i:Int}: ∀l:au,kV i (gQ a l)=bZ a i l
 |[]=>rfl
 |x::t=>by
  rw[ku,eX]
  by_cases e:x.1=a
  ·rw[aj e]
   show(if x.2.1=i then x.2.2.1 else 0)+kV i (gQ a t)=_
   rw[GJ t]
   by_cases e2:x.2.1=i
   ·rw[aj e2,aj ⟨e,e2⟩];rfl
   ·rw[ah e2,ah λk=>e2 k.2]
  ·rw[ah e,ah (λk=>e k.1),GJ t,m6]
def xW(c:ae)(b:an)(x:bM):Int:=yt c b x+vK (vh b x)
theorem ya(c:ae)(b:an)(m k n:Int): ∀l:aL,bZ k n (kC c b m l)=vL (λx=>if 5=k∧x.1=n then-(xW c b x)else 0) m l+vL (λx=>if 2=k∧0=n then xW c b x else 0) m l
 |[]=>rfl
 |x::t=>by
  rw[rR,qE,qE]
  by_cases e:x.2.1=m
  ·rw[aj e,aj e,aj e,nA,ya c b m k n t,Le]
   show(if 5=k∧x.1=n then-(xW c b x)else 0)+(if 2=k∧0=n then xW c b x else 0)+_=_
   omega
  ·rw[ah e,ah e,ah e,ya c b m k n t];omega
theorem UX{c:ae}{b:an}{l:aL}(hp:l.Pairwise C8){x:bM}(hx:x∈l)(m:Int):bZ 5 x.1 (kC c b m l)=if x.2.1=m then-(xW c b x)else 0:=by
 rw[ya,xZ (f:=λx_1=>if(2:Int)=5∧0=x.1 then xW c b x_1 else 0) λz _ _=>ah λk=>absurd k.1 δ,fY]
 have e:(λy:bM=>if(5:Int)=5∧y.1=x.1 then-(xW c b y)else 0)=λy=>if y.1=x.1 then-(xW c b y)else 0:=by
  funext y
  by_cases h:y.1=x.1
  ·rw[aj ⟨rfl,h⟩,aj h]
  ·rw[ah (λk=>h k.2),ah h]
 rw[e,Ol hp hx rfl]
theorem Ra(c:ae)(b:an)(m:Int)(l:aL):bZ 2 0 (kC c b m l)=vL (xW c b) m l:=by
 rw[ya,xZ (f:=λx=>if(5:Int)=2∧x.1=0 then-(xW c b x)else 0) λz _ _=>ah λk=>absurd k.1 δ,m6]
 have e:(λx:bM=>if(2:Int)=2∧(0:Int)=0 then xW c b x else 0)=xW c b:=by funext x;rw[aj ⟨rfl,rfl⟩]
 rw[e]
structure anc(c:ae)(b:an)(m:Int)(n:an):Prop where
 r:RBs c b n
 qr:dT n.2.2.1
 qs:dT n.2.2.2.1
 s: ∀a i,bG a i→dN n.2.2.2.1 a i=dN b.2.2.2.1 a i+bZ a i (jy b m b.2.1)
 e: ∀k j,cS k j→ej n.2.2.1 k j=ej b.2.2.1 k j+bZ k j (kC c b m b.2.1)
theorem Rb{c:ae}{b:an}{k:Nat}(h2:200≤k)(hk:k≤1000)(hc:G k aA c)(hb:G k aK b)(hR:RB c b)(m:Int):((gS c b m).2=3∧eL b.1 m=0∧(gS c b m).1=(cn,(c9,(bH,(bH,(dB,(dR,())))))))∨(eL b.1 m≠0∧(gS c b m).2=2∧(gS c b m).1=(cn,(c9,(bH,(bH,(dB,(dR,())))))))∨(eL b.1 m≠0∧(gS c b m).2=0∧gS c b m=ew b (jy b m b.2.1) (kC c b m b.2.1)∧anc c b m (gS c b m).1∧G k aK (gS c b m).1):=by
 obtain⟨r,er,hr,hg⟩:=Ok.and (SO 5000000 (aG _) h2 hk hc hb hR m) (SH 5000000 (aG _) h2 hk hc hb m)
 rw[Ym 5000000 (aG _) c (G.wf ω hb) m]at er
 have er:=oJ er
 subst er
 have w:=(G.wf (m:=k) ω hb).w
 obtain⟨y5,Ly⟩:=eF (oF.2 hR)
 unfold gS at hr hg ⊢
 rw[aj (oF.2 hR)]at hr hg ⊢
 by_cases h0:eL b.1 m=0
 ·rw[aj h0];exact .inl ⟨rfl,h0,rfl⟩
 rw[ah h0]at hr hg ⊢
 right
 rcases Gm b (jy b m b.2.1) (kC c b m b.2.1)with⟨h,h'⟩|⟨s',r',g1,g2,g3⟩
 ·exact .inl ⟨h0,h,h'⟩
 ·have hz:(ew b (jy b m b.2.1) (kC c b m b.2.1)).2=0:=by rw[g3]
  have R:=hr hz
  refine .inr ⟨h0,hz,rfl,⟨R,?_,?_,?_,?_⟩,hg⟩
  ·rw[g3];exact λx hx=>((rO g2).2.1 x hx).2.2
  ·rw[g3];exact λx hx=>((rO g1).2.1 x hx).2.2.1
  ·rw[g3];exact λa i h=>((Gn Ly g1).2 a i h).1
  ·rw[g3];exact λa i h=>((SK y5 (GI w m hR.a).key g2).2 a i h).1
namespace Pure
end Pure
end VM
end
section
namespace VM
open Go VM.F Go.RowKit
theorem UY{f:bM→Int}{m:Int}{l:aL}{k:Nat}(hk:k<l.length):vL f m (l.take (k+1))=vL f m (l.take k)+if(l.getD k aV).2.1=m then f (l.getD k aV)else 0:=by
 have app: ∀(s t:aL),vL f m (s++t)=vL f m s+vL f m t:=by
  intro s t
  induction s with
  |nil=>exact(m6 _).symm
  |cons x s ih=>rw[kJ,qE,qE,ih,zH]
 rw[←pX hk,app,ia hk]
 congr 1
 exact fY _
namespace Pure
end Pure
end VM
end
section
namespace VM
open Go VM.F Go.RowKit
theorem Yo{c:ae}{b:an}(hR:RB c b)(a:Int):kq c (posOf b.2.2.2.1 a)=true:=by
 have hk:=(eF (oF.2 hR)).2
 obtain⟨h1,h2⟩:=dC hk
 have e:posOf b.2.2.2.1 a=gQ a b.2.2.2.1:=by unfold posOf;rw[aj hk]
 rw[e]
 have hs:(gQ a b.2.2.2.1).Pairwise (λx y:ym=>mQ x.1 y.1):=tj.1 (sM (a:=a) h1)
 have hc:=(qD (R:=λx y:ym=>mQ x.1 y.1) (d:=cA) (λ_ _ _=>Gw) _).2 hs
 unfold kq
 refine cK.2 ⟨bs λj hj=> ?_,hR.c⟩
 obtain⟨x,hx,_,e⟩:=iq (pt (d:=cA) hj)
 have hp:=hc j hj
 unfold mG
 rw[e]at hp ⊢
 exact⟨(h2 x hx).1.2.2.1,(hR.sk x hx).2,UJ hk x hx,(h2 x hx).2,λh0=>hp h0⟩
def GK(f:Nat→Int):Nat→Int
 |0=>0
 |n+1=>GK f n+f n
theorem Om{f g:Nat→Int}{k:Nat}(h: ∀n,n≠k→f n=g n): ∀N,GK f N=GK g N+if k<N then f k-g k else 0
 |0=>rfl
 |N+1=>by
  show GK f N+f N=GK g N+g N+_
  rw[Om h N]
  by_cases e:N=k
  ·subst e;rw[ah ω,aj ω];omega
  ·rw[h N e]
   by_cases h1:k<N
   ·rw[aj h1,aj ω];omega
   ·rw[ah h1,ah ω];omega
def pv(c:ae)(k:Nat):Int:=(c.1.getD k aV).2.2.2.1
theorem GM{i:Int}: ∀{t:aE},(∀z∈t,¬z.1=i)→kV i t=0
 |[],_=>rfl
 |z::r,h=>by
  show(if z.1=i then z.2.1 else 0)+kV i r=0
  rw[ah (h z (bg ..)),GM λy hy=>h y (aY _ hy)];rfl
theorem GN(c:ae)(N:Nat): ∀{t:aE},t.Pairwise (λx y=>mQ x.1 y.1)→(∀y∈t,qb y.1 N)→(AQ c t).sum=GK (λn=>((kV (n:Int) t).natAbs:Int)*pv c n) N
 |[],_,_=>by
  have: ∀N,GK (λn=>((kV (n:Int) []).natAbs:Int)*pv c n) N=0:=by
   intro N
   induction N with
   |zero=>rfl
   |succ N ih=>
    show GK _ N+((0:Int).natAbs:Int)*pv c N=0
    rw[ih];show 0+0*_=(0:Int);omega
  rw[this];rfl
 |y::t,hp,hm=>by
  obtain⟨h1,h2⟩:=dZ.1 hp
  have hy:=hm y (bg ..)
  have ih:=GN c N h2 λz hz=>hm z (aY _ hz)
  obtain⟨k,hk⟩: ∃k:Nat,y.1=(k:Int):=⟨y.1.toNat,(ti hy.1).symm⟩
  have hkN:k<N:=by have:=hy.2;unfold qb at hy;rw[hk]at hy;omega
  have e0:kV (k:Int) t=0:=GM λz hz e=>by
   have h:mQ y.1 z.1:=h1 z hz
   rw[e,hk]at h;exact Int.lt_irrefl _ h
  have up:=Om (f:=λn=>((kV (n:Int) (y::t)).natAbs:Int)*pv c n) (g:=λn=>((kV (n:Int) t).natAbs:Int)*pv c n) (k:=k) (λn hn=>by
   show(((if y.1=(n:Int)then y.2.1 else 0)+kV (n:Int) t).natAbs:Int)*pv c n=_
   rw[ah (λe=>hn (by have h':(k:Int)=(n:Int):=hk.symm.trans e;omega)),m6]) N
  rw[up,aj hkN,←ih]
  have e1:kV (k:Int) (y::t)=y.2.1:=by
   show(if y.1=(k:Int)then y.2.1 else 0)+kV (k:Int) t=y.2.1
   rw[aj hk,e0];exact fY _
  have e2:lf c y=pv c k:=by unfold lf pv;rw[hk];rfl
  show(y.2.1.natAbs:Int)*lf c y+(AQ c t).sum=_
  rw[e1,e0,e2]
  show _=(AQ c t).sum+((y.2.1.natAbs:Int)*pv c k-((0:Int).natAbs:Int)*pv c k)
  rw[show((0:Int).natAbs:Int)=0 from rfl,EK];omega
theorem Yp{c:ae}{b:an}(hR:RB c b)(a:Int):kv c (posOf b.2.2.2.1 a)=GK (λn=>((dN b.2.2.2.1 a (n:Int)).natAbs:Int)*pv c n) c.1.length:=by
 have hk:=(eF (oF.2 hR)).2
 obtain⟨h1,h2⟩:=dC hk
 unfold kv
 rw[aj (Yo hR a)]
 have e:posOf b.2.2.2.1 a=gQ a b.2.2.2.1:=by unfold posOf;rw[aj hk]
 rw[e,GN c c.1.length (tj.1 (sM (a:=a) h1)) λy hy=> ?_]
 ·congr 1
  funext n
  rw[GJ,XT hk]
 ·obtain⟨x,hx,_,rfl⟩:=iq hy
  exact⟨(h2 x hx).1.2.2.1,(hR.sk x hx).2⟩
theorem UZ{c:ae}(h:fB c=true){k:Nat}(hk:k<c.1.length):0≤pv c k∧pv c k≤1000000000:=((A9.1 h).2.1 _ (pt (d:=aV) hk)).2.2.2
theorem U0{q s:Int}(hq:aD q)(hs:0≤s∧s≤1000000000):0≤(q.natAbs:Int)*s∧(q.natAbs:Int)*s≤9223372036854775808000000000:=by
 unfold aD at hq
 refine⟨tu ω hs.1,?_⟩
 have:=Int.mul_le_mul (show(q.natAbs:Int)≤9223372036854775808 by omega) hs.2 hs.1 δ
 omega
theorem U1{was X y:Int}:lY was y=X→0≤y→0≤X∧X≤(if was<0 then 0 else was)∧X≤y∧(X<was→X=y):=by
 intro h hy
 unfold lY at h
 split at h<;>(try split at h)<;>split<;>omega
namespace Pure
theorem U2(l:List Int)(a:Int)(h:WFs [.slice (.int .u64),.int .u8] (l,a)): ∃N,F5 N l a=some true:=by
 have key:Ok (λr=>r=true) (F5 6000000 l a):=by
  unfold F5 F5.b F16
  refine bo (UW 6000000 ω) (bw (λh=>nomatch h) λ_=>bo rfl (af (UP 6000000 ω (aa6 h.1)) λc ⟨hc,hd⟩=>af (Yk 6000000 ω hc hd ω) λs ⟨⟨hs,hR⟩,hd⟩=>ok_eq (λ_=>ω) λ_=> ?_))
  have hb:=hs.2.2.1
  have w:=G.wf ω hb
  have hR:=hR.1
  dsimp only
  generalize W .i64 (1+W .i64 (rem a 5))=m at*
  generalize s.1.2.2.1=b at*
  refine bo (Lf 6000000 ω c.1 w m) ?_
  rcases Rb ω ω (G.mono ω hc.1.1) hb hR m with⟨h1,_,h2⟩|⟨_,h1,h2⟩|⟨h0,h1,_,W,gn⟩
  ·exact bq (λ_=>by rw[h2];exact ak (dP rfl)) λh=>absurd (h1.symm.trans h) δ
  ·exact bq (λ_=>by rw[h2];exact ak (dP rfl)) λh=>absurd (h1.symm.trans h) δ
  refine bq (λh=>absurd h1 h) λ_=> ?_
  generalize (gS c.1 b m).1=n at*
  have nw:=G.wf (m:=900) ω gn
  obtain⟨ZY,ha2,_⟩:=nP.1 hR.a
  have hal:=Jv hR
  have h6:=(A9.1 hR.c).1.2
  have q0:=pd w.w.qr 2 0
  refine bo (s8 6000000 w.w.r ω _ _) (bo (cv 6000000 ω q0.1 q0.2) ?_)
  refine bc (len:=b.2.1.length) (F:=λn' k (z:aH)=>F5.mU 6000000 n' c.1 b m n z k) (λk z=>z=cP (ej b.2.2.1 2 0+vL (xW c.1 b) m (b.2.1.take k))∧Fit (ej b.2.2.1 2 0+vL (xW c.1 b) m (b.2.1.take k)) (2+2*k)) ⟨by show _=cP (ej b.2.2.1 2 0+0);rw[fY],by show Fit (ej b.2.2.1 2 0+0) 2;rw[fY];exact Fit.i64 q0.1 q0.2⟩ ω (λn' k z hk hI hr=> ?_) (λn' z hI=> ?_)
  all_goals unfold F5.mU F5.ns
  all_goals obtain⟨rfl,hf⟩:=hI
  ·have hx:=pt (d:=aV) hk
   have st:=UY (f:=xW c.1 b) (m:=m) hk
   rw[aJ]
   generalize b.2.1.getD k aV=x at*
   have PY:=ZY x hx
   have k5:cS 5 x.1:= .inr (.inl ⟨rfl,PY.1⟩)
   have hE:=W.e _ _ k5
   rw[UX ha2 hx]at hE
   have qw:=pd w.w.qr 5 x.1
   have qi:=pd nw.w.qr 5 x.1
   have ane:=(nQ hR.a x.1).2 ⟨x,hx,rfl⟩
   have ech:lJ c.1 b x.1=(lY (ej b.2.2.1 5 x.1) (kv c.1 (posOf b.2.2.2.1 x.1)),0):=by unfold lJ;rw[aj (oF.2 hR),aj ane]
   have hxW:xW c.1 b x=(if x.2.2.1=2 then lY (ej b.2.2.1 5 x.1) (kv c.1 (posOf b.2.2.2.1 x.1))else 0)+vK (ej b.2.2.1 5 x.1):=by unfold xW yt vh;rw[ech]
   have E4:=Yp hR x.1
   have hsr:=(ry (c:=c.1) (AP w.w.qs x.1)).1
   have bn:=U1 (was:=ej b.2.2.1 5 x.1) rfl hsr
   have QX: ∀j:Nat,aD (dN b.2.2.2.1 x.1 (j:Int)):=λj=>QJ w.w.qs x.1 (j:Int)
   refine aw (λ_=>aB ⟨ω,ω⟩ (bo (s8 6000000 w.w.r ω _ _) (bo (s8 6000000 nw.w.r ω _ _) (bo (BS 6000000 ω c.1 w.w x.1) ?_)))) λ_=>ω
   rw[ech]
   generalize hXe:lY (ej b.2.2.1 5 x.1) (kv c.1 (posOf b.2.2.2.1 x.1))=X at*
   generalize kv c.1 (posOf b.2.2.2.1 x.1)=Y at*
   generalize ej b.2.2.1 5 x.1=was at*
   generalize ej n.2.2.1 5 x.1=is at*
   have Rc:aD X:=by unfold aD at*;split at bn<;>omega
   have Xf:Fit X 900000:=(Fit.i64 Rc.1 Rc.2).mono ω
   refine bc (len:=c.1.1.length) (F:=λEb j (y:aH)=>F5.IV 6000000 (F5.mU 6000000 n') Eb c.1 b m n (cP (ej b.2.2.1 2 0+vL (xW c.1 b) m (b.2.1.take k))) (k:Int) x was is X 0 y j) (λj y=>y=cP (GK (λn=>((dN b.2.2.2.1 x.1 (n:Int)).natAbs:Int)*pv c.1 n) j)∧Fit (GK (λn=>((dN b.2.2.2.1 x.1 (n:Int)).natAbs:Int)*pv c.1 n) j) (4+j)) ⟨gU.symm,by show Fit 0 4;exact(Fit.i64 δ δ).mono ω⟩ ω (λEb j y hj hJ eO=> ?_) (λEb y hJ=> ?_)
   all_goals unfold F5.IV F5.FO
   all_goals obtain⟨rfl,hg⟩:=hJ
   ·have qj:=QX j
    have sr:=UZ hR.c hj
    have tm:=U0 qj sr
    have Vo:aD (pv c.1 j):=by unfold aD;omega
    have qf:Fit (dN b.2.2.2.1 x.1 (j:Int)) 2:=Fit.i64 qj.1 qj.2
    rw[ay (x:=(j:Int)+1) ω ω,ag j,aJ]
    exact aw (λ_=>bo (AO 6000000 w.w.s ω _ _) (bo (cv 6000000 ω qj.1 qj.2) (bo (Aq 6000000 ω (qf.mono ω)) (aB ⟨ω,ω⟩ (bo (cv 6000000 (x:=pv c.1 j) ω Vo.1 Vo.2) (bo (tO 6000000 ω ((Fit.of_le qf ω).mono ω) ((Fit.i64 Vo.1 Vo.2).mono ω)) (bo (g5 6000000 ω (hg.mono ω) ((Fit.mul (Fit.of_le qf ω) (Fit.i64 Vo.1 Vo.2)).mono ω)) (eO _ ⟨rfl,Fit.add (k:=4+j) hg ((Fit.mul (Fit.of_le qf ω) (Fit.i64 Vo.1 Vo.2)).mono (show 4≤4+j by omega))⟩)))))))) λ_=>ω
   ·rw[←E4]at hg ⊢
    have Hw:mx was 0=if was<0 then 0 else was:=Rx was 0
    have fin:Ok (λr=>r=true) (F5.j24 6000000 (F5.mU 6000000 n') c.1 b m n (cP (ej b.2.2.1 2 0+vL (xW c.1 b) m (b.2.1.take k))) (k:Int) x was is X):=by
     unfold F5.j24 F5.aim
     rw[ay (x:=(k:Int)+1) ω ω,ag k]
     refine bq (λe=> ?_) λe=> ?_
     ·rw[ah e,fY]at st
      exact hr _ ⟨by rw[st],by rw[st];exact hf.mono ω⟩
     ·rw[aj e]at st hE
      have hd:was-is=xW c.1 b x:=ω
      have go:Ok (λr=>r=true) ((iG 6000000 was).bind λr32=>(iG 6000000 is).bind λr33=>(Nj 6000000 r32 r33).bind λRe=>(xJ 6000000 (cP (ej b.2.2.1 2 0+vL (xW c.1 b) m (b.2.1.take k))) Re).bind λr35=>F5.mU 6000000 n' c.1 b m n r35 ((k+1:Nat):Int)):=by
       have f1:Fit was 2:=Fit.i64 qw.1 qw.2
       have f2:Fit is 2:=Fit.i64 qi.1 qi.2
       have f3:Fit (was-is) 3:=by rw[Eu];exact Fit.add f1 (Fit.neg f2)
       refine bo (cv 6000000 ω qw.1 qw.2) (bo (cv 6000000 ω qi.1 qi.2) (bo (sH 6000000 ω (f1.mono ω) (f2.mono ω)) (bo (g5 6000000 ω (hf.mono ω) (f3.mono ω)) (hr _ ⟨by rw[hd,st,zH],?_⟩))))
       rw[st,←zH,←hd]
       exact(Fit.add (k:=3+2*k) (hf.mono ω) (f3.mono (show 3≤3+2*k by omega))).mono ω
      dsimp only
      rw[Hw]
      unfold vK at hxW
      unfold aD at qi qw
      refine ok_eq (λec=> ?_) λec=> ?_
      ·rw[aj ec]at hxW
       have hi:is=(if was<0 then 0 else was)-X:=by split<;>split at hxW<;>omega
       rw[←hi,ay (x:=is) ω ω]
       exact bq (λh=>absurd rfl h) λ_=>go
      ·rw[ah ec]at hxW
       have hi:is=(if was<0 then 0 else was):=by split<;>split at hxW<;>omega
       exact bq (λh=>absurd hi h) λ_=>go
    rw[Hw]
    have hYf:Fit Y 900000:=hg.mono ω
    refine aw (λ_=>ω) λ_=>bq (λh=>absurd rfl h) λ_=>aw (λh=>absurd bn.1 ω) λ_=>aw (λh=>absurd bn.2.1 ω) λ_=>bo (cv 6000000 ω Rc.1 Rc.2) (bo (BF 6000000 ω Xf hYf) (aw (λh=> ?_) λ_=>aw (λh=>bo (cv 6000000 ω Rc.1 Rc.2) (bo (BF 6000000 ω Xf hYf) (bq (λjB=>absurd ?_ jB) λ_=>fin))) λ_=>fin))
    ·have: ¬0<X-Y:=ω
     unfold vw at h
     split at h<;>(try split at h)<;>omega
    ·rw[bn.2.2.2 h,Int.sub_self];rfl
  ·have q2:=pd nw.w.qr 2 0
   have hE:=W.e 2 0 (.inl ⟨δ,δ,rfl⟩)
   rw[Ra]at hE
   rw[iD,←hE]at hf ⊢
   exact aw (λ_=>ω) λ_=>bo (s8 6000000 nw.w.r ω _ _) (bo (cv 6000000 ω q2.1 q2.2) (bo (BF 6000000 ω (hf.mono ω) ((Fit.i64 q2.1 q2.2).mono ω)) (ak (dP (by rw[Int.sub_self];rfl)))))
 obtain⟨r,e,hr⟩:=key
 exact⟨6000000,by rw[e,hr]⟩
end Pure
end VM
end
