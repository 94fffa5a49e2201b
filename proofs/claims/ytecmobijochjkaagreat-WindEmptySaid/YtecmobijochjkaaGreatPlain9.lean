/- A part of the proof of WindEmpty of layer 21: what the functions compute, in plain words. -/
import Derived.Test.YtecmobijochjkaaGreatPlain8
import Derived.Test.YtecmobijochjkaaGreatPlain3
set_option linter.all false
section
namespace VM
open Go VM.F
def StN(c:ae)(n:Nat)(s:aQ):Prop:=GS (200+n) s∧nT c (200+n) s
theorem nT.mono{c:ae}{m n:Nat}{s:aQ}(h:nT c m s)(hn:m≤n):nT c n s:=⟨h.1,⟨h.2.1.1,fi h.2.1.2 ω⟩,h.2.2⟩
theorem StN.mono{c:ae}{m n:Nat}{s:aQ}(h:StN c m s)(hn:m≤n):StN c n s:=⟨G.mono ω h.1,h.2.mono ω⟩
def Yc(c:ae)(n:Nat)(t:cC):Prop:= ∃(s:aQ) (a:Nat),t=(c,(s,((a:Int),())))∧a≤n∧StN c a s
theorem Yc.mono{c:ae}{m n:Nat}{t:cC}(h:Yc c m t)(hn:m≤n):Yc c n t:=by
 obtain⟨s,a,e,h1,h2⟩:=h
 exact⟨s,a,e,cm h1 hn,h2⟩
theorem agb(N:Nat)(hN:5000000≤N){c:ae}(hc:G 5 aA c){t:cC}{l:cT}{m:Nat}(hm:m≤700)(hl:vk m l)(ht:Yc c l.length t):Ok (λr=>StN c l.length r.1∧Yc c l.length r.2.1∧r.2.2=l) (qg N t l):=by
 obtain⟨s,a,rfl,h1,h2⟩:=ht
 have G9:=hl.1
 unfold qg qg.b
 generalize ((0:Int),((0:Int),_))=S0
 refine iB (len:=l.length) (F:=λn i (s:aQ)=>qg.l1 N n (c,(s,(i,()))) l S0) (λi s=>StN c i s) (λn i s hi hI hr=> ?_) (λn s hI=> ?_) l.length N a s ω ω h1 h2
 all_goals unfold qg.l1 qg.l1b
 ·dsimp only
  rw[ay (x:=(i:Int)+1) ω ω,ag i]
  have hx:G 0 kX (l.getD (i:Int).toNat zz8):=G.at hl _
  exact aw (λ_=>aB ⟨ω,ω⟩ (af (Ok.and (Sz N hN ω ω hc hI.1 hx) (SK N hN ω ω hc hI.1 hI.2 hx)) λr ⟨yQ,yH⟩=>hr r.1 ⟨yQ,yH⟩)) λ_=>ω
 ·exact aw (λ_=>by dsimp only at*;omega) λ_=>ak ⟨hI,⟨s,l.length,rfl,Nat.le_refl _,hI⟩,rfl⟩
abbrev RoQ(c:ae)(p k:Nat)(r:cT×aM×cC):Prop:=vk (p+70) r.1∧Dk (k+400) r.2.1∧Yc c r.1.length r.2.2
theorem aij{q:Int}(h:qIn q):W .u64 q=q∧q≠0:=by
 unfold qIn at h
 exact⟨dV ω ω,ω⟩
theorem vk.snoc{p:Nat}{l:cT}{x:gO}(h:vk p l)(hx:G 0 kX x):vk (p+1) (l++[x]):=G.cat h (G.one hx (aG 1))
theorem A4{α:Type}(l:List α)(x:α):(l++[x]).length=l.length+1:=by rw[aS,aI]
theorem Yd(N:Nat)(hN:5000000≤N){c:ae}(hq:Cq c){d:aM}{t:cC}{l:cT}{p k:Nat}(hp:p≤600)(hk:k≤20000)(hl:vk p l)(hd:Dk k d)(ht:Yc c l.length t):Ok (RoQ c p k) (dU N d t l):=by
 have hc:=hq.1.1
 have UP:=hq.f.1
 have i16:aD 16:=bh
 have i17:aD 17:=bh
 have i18:aD 18:=bh
 have i19:aD 19:=bh
 have i10:aD 10:=bh
 have i20:aD 20:=bh
 have i2:aD 2:=bh
 have z:=bJ
 have G9:=hl.1
 have DF: ∀(d:aM) (t:cC) (l:cT),vk (p+5) l→Dk (k+20) d→Yc c l.length t→Ok (RoQ c p k) (dU.HR N d t l):=λd t l hl hd ht=>by
  have G9:=hl.1
  unfold dU.HR dU.BU
  have Qh:=vk.snoc hl (rW (m:=0) i18 z z z z z z z)
  refine aC (by rw[aI];omega) (af (agb N hN hc ω Qh (ht.mono (by rw[A4];omega))) λr ⟨hs,ht,he⟩=> ?_)
  rw[he]
  generalize l++[((18:Int),Lw)]=l at*
  have h12:=hs.2.2.2.2
  have hL:=hs.1.2.2.2.1.2.2.2.2.2.1
  generalize r.1=s at*
  refine bc (len:=s.2.2.2.1.2.2.2.2.2.1.length) (F:=λn i (y:aM×cT)=>dU.lj N n y.1 r.2.1 y.2 s i) (s:=(_,_)) (λi y=>Dk (k+20+10*i) y.1∧vk (p+6+4*i) y.2∧l.length≤y.2.length) ⟨hd,Qh,aG _⟩ ω (λn i y hi hI hr=> ?_) (λn y hI=> ?_)
  all_goals obtain⟨hd,hl,hle⟩:=hI
  all_goals unfold dU.lj dU.kP
  ·refine aw (λ_=>aB ⟨ω,ω⟩ ?_) λ_=>ω
   have hx:G 900 jj (s.2.2.2.1.2.2.2.2.2.1.getD (i:Int).toNat ((0:Int),(ck,aV))):=G.mono (by have:=Qh.1;omega) (G.at hL _)
   generalize s.2.2.2.1.2.2.2.2.2.1.getD (i:Int).toNat ((0:Int),(ck,aV))=x at*
   refine iB (len:=5) (F:=λn' j (w:aM×cT)=>dU.yX N (dU.lj N n) n' w.1 r.2.1 w.2 s (i:Int) x j) (λj w=>1≤j∧Dk (k+20+10*i+2*(j-1)) w.1∧vk (p+6+4*i+(j-1)) w.2∧l.length≤w.2.length) (λn' j w hj hJ eM=> ?_) (λn' w hJ=> ?_) 5 N 1 y ω ω ω ⟨aG 1,hd,hl,hle⟩
   all_goals obtain⟨hj1,hd,hl,hle⟩:=hJ
   all_goals unfold dU.yX dU.ye
   ·have hwl:=hl.1
    rw[ay (x:=(j:Int)+1) ω ω,ag j]
    refine dZ (λ_=>af (pJ N δ hd (by unfold ku;omega)) λa hd=>bw (λ_=>af (iQ N δ hd (by unfold ku;omega)) λv ⟨_,hd⟩=>aC (by rw[List.length_singleton];omega) (eM (_,_) ⟨ω,Dk.mono hd ω,G.mono ω (vk.snoc hl (rW i19 (iO ω ω) z z z hx.1 z (AV (Xm (fU _) (by unfold aD;decide)) (by unfold aD;decide)))),by dsimp only;rw[A4];omega⟩)) λ_=>eM (_,_) ⟨ω,Dk.mono hd ω,G.mono ω hl,hle⟩) λ_=>ω
   ·rw[ay (x:=(i:Int)+1) ω ω,ag i]
    exact dZ (λ_=>ω) λ_=>hr w ⟨Dk.mono hd ω,G.mono ω hl,hle⟩
  ·have Wq:=hl.1
   obtain⟨s',a,e,vE,Va⟩:=ht
   refine aw (λ_=>ω) λ_=>af (tL N ω hd (c:=r.2.1.1) (by rw[e];exact UP) ω) λn1 ⟨Qg,hd⟩=> ?_
   have aik:=Qg.1
   have h5:=G.cat hl Qg
   have h5l:=h5.1
   have h6:=G.cat h5 (G.two (m:=2) (rW (m:=0) i10 z z z z z i2 z) (rW i20 z z z z z z z) (aG 2))
   exact aC ω (aC (by simp only[List.length_append,List.length_cons,List.length_nil];omega) (ak ⟨G.mono ω h6,Dk.mono hd ω,⟨s',a,e,by dsimp only;rw[List.length_append,List.length_append];omega,Va⟩⟩))
 unfold dU dU.b
 refine af (pJ N δ hd (by unfold ku;omega)) λa hd=>pe (λ_=> ?_) λ_=>DF _ _ _ (G.mono ω hl) (Dk.mono hd ω) ht
 have Qh:=vk.snoc hl (rW (m:=0) i16 z z z z z z z)
 refine aC (by rw[aI];omega) (af (agb N hN hc ω Qh (ht.mono (by rw[A4];omega))) λr ⟨hs,ht,he⟩=> ?_)
 rw[he]
 generalize l++[((16:Int),Lw)]=l at*
 obtain⟨h4,hg⟩:=hs.2.2.2.1
 have hH:=hs.1.2.2.2.1.2.2.2.2.1
 have hP:=hs.1.2.2.1.2.2.2.2.1
 have hpn:(r.1.2.2.1.2.2.2.2.1.length:Int)=c.1.length:=hs.2.1.n
 generalize r.1=s at*
 refine bc (len:=s.2.2.2.1.2.2.2.2.1.length) (F:=λn i (y:aM×cT)=>dU.l5 N n y.1 r.2.1 y.2 s i) (s:=(_,_)) (λi y=>Dk (k+1+4*i) y.1∧vk (p+1+i) y.2∧l.length≤y.2.length) ⟨hd,Qh,aG _⟩ ω (λn i y hi hI hr=> ?_) (λn y hI=> ?_)
 all_goals obtain⟨hd,hl,hle⟩:=hI
 all_goals unfold dU.l5 dU.ed
 ·have Wq:=hl.1
  have hx:=hg _ (qd (d:=aV) hi)
  have hx6:G (200+l.length) eB (s.2.2.2.1.2.2.2.2.1.getD i aV):=hH.2 _ (qd hi)
  have hu:=aij hx.2
  rw[ay (x:=(i:Int)+1) ω ω,ag i,aJ]
  dsimp only
  generalize s.2.2.2.1.2.2.2.2.1.getD i aV=x at*
  refine aw (λ_=>aB ⟨ω,ω⟩ (af (pJ N δ hd (by unfold ku;omega)) λa hd=>pe (λ_=>af (iQ N δ hd (by unfold ku;omega)) λv ⟨_,hd⟩=>af (D7 N (by unfold ku;omega) hd) λw ⟨_,hd⟩=>ok_eq (λe=>absurd (hu.1.symm.trans e) hu.2) λ_=>aB ?_ (aC (by rw[List.length_singleton];omega) (hr (_,_) ⟨Dk.mono hd ω,vk.snoc hl (rW i17 z (fU _) z z hx6.1 (fU _) (G.at hP _)),by dsimp only;rw[A4];omega⟩))) λ_=>hr (_,_) ⟨Dk.mono hd ω,G.mono ω hl,hle⟩)) λ_=>ω
  have h1:=hx.1
  have g: ∀v:Int,(0≤v∧v<(c.1.length:Int))→0≤v∧v<(s.2.2.1.2.2.2.2.1.length:Int):=λv h=>ω
  exact g _ h1
 ·exact aw (λ_=>ω) λ_=>DF _ _ _ (G.mono ω hl) (Dk.mono hd ω) (ht.mono hle)
theorem UQ(N:Nat)(hN:5000000≤N){c:ae}(hq:Cq c){d:aM}{t:cC}{L:cT}{k j:Nat}(hk:k≤10000)(hj:j≤2)(hl:vk 220 L)(hd:Dk k d)(ht:Yc c L.length t):Ok (λr=>vk 400 r.1∧Dk (k+1500) r.2) (jl.yX N N d c t L (j:Int)):=by
 obtain⟨UP,nR⟩:=hq.f
 have i21:aD 21:=bh
 have z:=bJ
 refine xH (F:=λn x (s:aM×cC×cT)=>jl.yX N n s.1 c s.2.1 s.2.2 x) (λx s=>x≤2∧Dk (k+400*(2-x)) s.1∧vk (220+70*(2-x)) s.2.2∧Yc c s.2.2.length s.2.1) (λn x s hI hr=> ?_) (λn s hI=> ?_) j N (d,(t,L)) ω ⟨hj,Dk.mono hd ω,G.mono ω hl,ht⟩
 all_goals obtain⟨hx,hd,hl,ht⟩:=hI
 all_goals unfold jl.yX jl.ye
 ·rw[KS ω]
  exact aw (λ_=>af (Yd N hN hq ω ω hl hd ht) λr ⟨h1,h2,h3⟩=>hr (r.2.1,(r.2.2,r.1)) ⟨ω,Dk.mono h2 ω,G.mono ω h1,h3⟩) λ_=>ω
 ·have Qh:=hl.1
  refine aw (λ_=>ω) λ_=>af (pJ N δ hd (by unfold ku;omega)) λa hd=>bw (λ_=>aC (by rw[aI];omega) (af (tL N ω hd UP ω) λn1 ⟨Qg,hd⟩=> ?_)) λ_=>af (tL N ω hd UP ω) λn1 ⟨Qg,hd⟩=> ?_
  ·have h2:=G.cat (vk.snoc hl (rW (m:=0) i21 z z z z z z z)) Qg
   have h2l:=h2.1
   have aik:=Qg.1
   exact aC (by simp only[aS,aR,bU];omega) (ak ⟨G.mono ω h2,Dk.mono hd ω⟩)
  ·have h2:=G.cat hl Qg
   have aik:=Qg.1
   exact aC ω (ak ⟨G.mono ω h2,Dk.mono hd ω⟩)
theorem UR(N:Nat)(hN:5000000≤N){c:ae}(hq:Cq c){d:aM}{k:Nat}(hk:k≤5000)(hd:Dk k d){w8:Int}(hm:0≤w8∧w8≤100):Ok (λr=>vk 400 r.1∧Dk (k+6000) r.2) (jl N d c w8):=by
 obtain⟨UP,nR⟩:=hq.f
 have i10:aD 10:=bh
 have i11:aD 11:=bh
 have i13:aD 13:=bh
 have i14:aD 14:=bh
 have i15:aD 15:=bh
 have i21:aD 21:=bh
 have z:=bJ
 unfold jl jl.b
 refine af (Oh N ω hq nR) λs ⟨⟨Lx,TF⟩,_⟩=>af (Jd N ω hd UP hm ω) λl ⟨hl,hd⟩=>af (iQ N δ hd (by unfold ku;omega)) λv ⟨_,hd⟩=> ?_
 have ht:Yc c 0 (c,(s.1,((0:Int),()))):=⟨s.1,0,rfl,aG 0,G.mono ω Lx,TF.mono ω⟩
 generalize s.1=S at*
 dsimp only
 have G9:=hl.1
 have h1:=vk.snoc hl (rW (m:=0) i11 (fU (1+v.1)) z z z z z z)
 have h1l:=h1.1
 refine aC (by simp only[aS,aR,bU];omega) (af (tL N ω hd UP ω) λn1 ⟨Qg,hd⟩=> ?_)
 have h2:=G.cat h1 Qg
 have h2l:=h2.1
 have aik:=Qg.1
 refine aC (by simp only[aS,aR,bU];omega) (aC (by simp only[aS,aR,bU];omega) ?_)
 have h3:=vk.snoc h2 (rW (m:=0) i13 (fU (1+v.1)) z z z z z z)
 generalize hL:(l.1++[((11:Int),(W .i64 (1+v.1),fa))]++n1.1)++[((13:Int),(W .i64 (1+v.1),fa))]=L at h3
 refine iB (len:=8) (F:=λn i (y:aM×cT)=>jl.l9 N n y.1 c (c,(S,((0:Int),()))) y.2 i) (λi y=>5≤i∧Dk (k+3200+2*(i-5)) y.1∧vk (205+(i-5)) y.2) (λn i y hi hI hr=> ?_) (λn y hI=> ?_) 8 N 5 (_,L) ω ω ω ⟨aG 5,Dk.mono hd ω,G.mono ω h3⟩
 all_goals obtain⟨hi5,hd,hl⟩:=hI
 all_goals have Wq:=hl.1
 all_goals unfold jl.l9 jl.xA
 ·rw[ay (x:=(i:Int)+1) ω ω,ag i]
  exact dZ (λ_=>af (pJ N δ hd (by unfold ku;omega)) λa hd=>pe (λ_=>af (iQ N δ hd (by unfold ku;omega)) λw ⟨_,hd⟩=>aC (by rw[aI];omega) (hr (_,_) ⟨ω,Dk.mono hd ω,G.mono ω (vk.snoc hl (rW i14 (fU _) (iO ω ω) z z z z z))⟩)) λ_=>hr (_,_) ⟨ω,Dk.mono hd ω,G.mono ω hl⟩) λ_=>ω
 ·refine dZ (λ_=>ω) λ_=>af (tL N ω hd UP ω) λn2 ⟨hn2,hd⟩=> ?_
  have h4:=G.cat hl hn2
  have h4l:=h4.1
  have azB:=hn2.1
  refine aC ω ?_
  dsimp only
  refine af (iQ N δ hd (by unfold ku;omega)) λw ⟨_,hd⟩=> ?_
  have h5:=G.cat h4 (G.two (m:=2) (rW (m:=0) i10 z z z z z (fU (2+w.1)) z) (rW i15 z z z z z z z) (aG 2))
  have h5l:=h5.1
  refine aC (by simp only[aS,aR,bU];omega) (af (tL N ω hd UP ω) λn3 ⟨hn3,hd⟩=> ?_)
  have h6:=G.cat h5 hn3
  have azC:=hn3.1
  refine aC (by simp only[aS,aR,bU];omega) (af (iQ N δ hd (by unfold ku;omega)) λu ⟨hu,hd⟩=> ?_)
  obtain⟨j,hj⟩: ∃j:Nat,u.1=(j:Int):=⟨u.1.toNat,ω⟩
  rw[hj]
  have hLl:=h6.1
  exact KP (UQ N hN hq ω ω (G.mono ω h6) hd (ht.mono (bo _))) λr hr=>⟨hr.1,Dk.mono hr.2 ω⟩
theorem US(N:Nat)(hN:5000000≤N){c:ae}(hq:Cq c){d:aM}{k:Nat}(hk:k≤4000)(hd:Dk k d){w8:Int}(hm:0≤w8∧w8≤100):Ok (λr=>vk 400 r.1∧Dk (k+7000) r.2) (Gy N d c w8):=by
 obtain⟨UP,nR⟩:=hq.f
 unfold Gy Gy.b
 refine af (iQ N δ hd (by unfold ku;omega)) λa ⟨_,hd⟩=>ok_eq (λ_=> ?_) λ_=>ok_eq (λ_=>af (Jd N ω hd UP hm ω) λl ⟨hl,hd⟩=>ak ⟨G.mono ω hl,Dk.mono hd ω⟩) λ_=>af (UR N hN hq ω hd hm) λl ⟨hl,hd⟩=>ak ⟨hl,Dk.mono hd ω⟩
 rw[ay (x:=w8+1) ω ω]
 refine af (iQ N ⟨ω,ω⟩ hd (by unfold ku;omega)) λu ⟨hu,hd⟩=> ?_
 obtain⟨j,hj⟩: ∃j:Nat,u.1=(j:Int):=⟨u.1.toNat,ω⟩
 rw[hj]
 refine xH (F:=λn x (s:aM×cT)=>Gy.l5 N n s.1 c s.2 x) (λx s=>x≤100∧Dk (k+10+25*(100-x)) s.1∧vk (100-x) s.2) (λn x s hI hr=> ?_) (λn s hI=> ?_) j N (u.2,[]) ω ⟨ω,Dk.mono hd ω,G.nil⟩
 all_goals obtain⟨hx,hd,hl⟩:=hI
 all_goals unfold Gy.l5 Gy.ed
 ·have hs:=hl.1
  rw[KS ω]
  exact aw (λ_=>af (Gb N hd UP ω) λr ⟨h1,h2⟩=>aC (by rw[aI];omega) (hr (_,_) ⟨ω,Dk.mono h2 ω,G.mono ω (vk.snoc hl h1)⟩)) λ_=>ω
 ·exact aw (λ_=>ω) λ_=>ak ⟨G.mono ω hl,Dk.mono hd ω⟩
theorem Ye(N:Nat)(hN:5000000≤N){c:ae}(hq:Cq c){d:aM}(hd:Dk 1000 d){w8:Int}(hm:0≤w8∧w8≤100):Ok (λr=>(GS 900 r.1∧nT c 900 r.1)∧Dk 10000 r.2) (F18 N d c w8):=by
 obtain⟨UP,nR⟩:=hq.f
 unfold F18
 exact af (US N hN hq ω hd hm) λl ⟨hl,hd⟩=>af (aii N hN ω hq nR hl) λr hr=>ak ⟨hr,Dk.mono hd ω⟩
end VM
end
section
namespace VM
open Go VM.F
theorem Yf(N:Nat)(hN:4000000≤N){b:an}{s e:au}(w:gN b)(hr:eA b.2.2.1=true)(hs:cB b.2.2.2.1=true)(lr:b.2.2.1.length≤90000)(ls:b.2.2.2.1.length≤90000)(qs:dS s)(lns:s.length≤100000)(qe:BH e)(lne:e.length≤100000):
  yf N b s (e.map gY)=some (eu b s e):=by
 unfold yf eu
 rw[FG N hN hs ls w.qs qs lns,Sd N hN hr lr w.qr qe lne]
 unfold vy
 rw[ar,ar]
 cases eg Fq (fS b.2.2.2.1 s) jA with
 |none=>rfl
 |some s'=>
  cases eg aD (fS b.2.2.1 e) nu with
  |none=>rfl
  |some r'=>rfl
theorem Oi{b:an}{s e e':au}(h: ∀k n,bP k n e=bP k n e'):eu b s e=eu b s e':=by
 have:fS b.2.2.1 e=fS b.2.2.1 e':=by funext k n;unfold fS;rw[h]
 unfold eu;rw[this]
def B4(id x:Int):au:=[((5:Int),(id,((-x:Int),()))),((2:Int),((0:Int),(x,())))]
def Oj(id y:Int):au:=[((2:Int),((0:Int),((- -y:Int),()))),((5:Int),(id,((-y:Int),())))]
def xN(c:ae)(b:an)(a:bI):Int:=if a.2.2.1=2 then(ny c b a.1).1 else 0
def rI(b:an)(a:bI):Int:=gv b.2.2.1 5 a.1
def vz(y:Int):Int:=if 0<y then 0 else y
def iu(b:an)(m:Int):aK→au
 |[]=>[]
 |a::t=>if a.2.1=m then wY a.1 (posOf b.2.2.2.1 a.1)++iu b m t else iu b m t
def kY(c:ae)(b:an)(m:Int):aK→au
 |[]=>[]
 |a::t=>if a.2.1=m then B4 a.1 (xN c b a+vz (rI b a))++kY c b m t else kY c b m t
def pR(c:ae)(b:an)(m:Int):aK→au
 |[]=>[]
 |a::t=>if a.2.1=m then((if a.2.2.1=2 then B4 a.1 (xN c b a)else [])++(if rI b a<0 then Oj a.1 (rI b a)else []))++pR c b m t else pR c b m t
theorem oC(b:an)(m:Int)(a:bI)(t:aK):iu b m (a::t)=if a.2.1=m then wY a.1 (posOf b.2.2.2.1 a.1)++iu b m t else iu b m t:=rfl
theorem rJ(c:ae)(b:an)(m:Int)(a:bI)(t:aK):kY c b m (a::t)=if a.2.1=m then B4 a.1 (xN c b a+vz (rI b a))++kY c b m t else kY c b m t:=rfl
theorem y9(c:ae)(b:an)(m:Int)(a:bI)(t:aK):pR c b m (a::t)=if a.2.1=m then((if a.2.2.1=2 then B4 a.1 (xN c b a)else [])++(if rI b a<0 then Oj a.1 (rI b a)else []))++pR c b m t else pR c b m t:=rfl
theorem SL{c:ae}{b:an}(w:gN b)(a:bI):(rI b a≤0→xN c b a=0)∧(0<rI b a→0≤xN c b a∧xN c b a≤rI b a):=by
 have Ht:=uO (c:=c) (FM w.qs a.1)
 unfold xN rI
 by_cases h:a.2.2.1=2
 ·rw[aj h]
  unfold ny
  generalize gv b.2.2.1 5 a.1=m at*
  generalize ov c (posOf b.2.2.2.1 a.1)=s at*
  have key:(m≤0→sF m s=0)∧(0<m→0≤sF m s∧sF m s≤m):=by
   unfold sF
   refine⟨λh=>aj h,λh=> ?_⟩
   rw[ah ω]
   split<;>omega
  split
  ·split
   ·exact key
   ·exact⟨λ_=>rfl,λh=>⟨fI _,by show(0:Int)≤m;omega⟩⟩
  ·exact⟨λ_=>rfl,λh=>⟨fI _,by show(0:Int)≤m;omega⟩⟩
 ·rw[ah h]
  exact⟨λ_=>rfl,λh=>⟨fI _,ω⟩⟩
theorem Lc{b:an}(w:gN b)(a:bI):aD (rI b a):=AH w.qr 5 a.1
theorem B5{c:ae}{b:an}(w:gN b)(a:bI):aD (xN c b a+vz (rI b a))∧aD (xN c b a):=by
 have h:=SL (c:=c) w a
 have hm:=Lc w a
 unfold vz aD at*
 by_cases h0:0<rI b a
 ·rw[aj h0];have:=h.2 h0;omega
 ·rw[ah h0];have:=h.1 ω;omega
theorem Ld(k n id x:Int):bP k n (B4 id x)=(if 5=k∧id=n then-x else 0)+(if 2=k∧0=n then x else 0):=by
 unfold B4
 rw[ej,ej,tH]
 show(if 5=k∧id=n then-x else 0)+((if 2=k∧0=n then x else 0)+0)=_
 omega
theorem abg(k n id y:Int):bP k n (Oj id y)=(if 2=k∧0=n then y else 0)+(if 5=k∧id=n then-y else 0):=by
 unfold Oj
 rw[ej,ej,tH]
 show(if 2=k∧0=n then- -y else 0)+((if 5=k∧id=n then-y else 0)+0)=_
 rw[zH];omega
theorem Jw{c:ae}{b:an}(w:gN b)(m k n:Int): ∀t:aK,bP k n (kY c b m t)=bP k n (pR c b m t)
 |[]=>rfl
 |a::t=>by
  have ih:=Jw (c:=c) w m k n t
  rw[rJ,y9]
  by_cases h:a.2.1=m
  ·rw[aj h,aj h,kQ,kQ,kQ,ih,Ld]
   congr 1
   have h1:bP k n (if a.2.2.1=2 then B4 a.1 (xN c b a)else [])=(if 5=k∧a.1=n then-xN c b a else 0)+(if 2=k∧0=n then xN c b a else 0):=by
    by_cases h2:a.2.2.1=2
    ·rw[aj h2,Ld]
    ·have e:xN c b a=0:=by unfold xN;exact ah h2
     rw[ah h2,tH,e];split<;>split<;>rfl
   have h2:bP k n (if rI b a<0 then Oj a.1 (rI b a)else [])=(if 5=k∧a.1=n then-vz (rI b a)else 0)+(if 2=k∧0=n then vz (rI b a)else 0):=by
    unfold vz
    by_cases h3:rI b a<0
    ·rw[aj h3,abg,ah (show ¬0<rI b a by omega),EC]
    ·rw[ah h3,tH]
     have e:(if 0<rI b a then 0 else rI b a)=0:=by split<;>omega
     rw[e];split<;>split<;>rfl
   rw[h1,h2]
   generalize xN c b a=x
   generalize vz (rI b a)=y
   by_cases hP:5=k∧a.1=n
   ·rw[aj hP,aj hP,aj hP]
    by_cases hQ:2=k∧0=n
    ·rw[aj hQ,aj hQ,aj hQ];omega
    ·rw[ah hQ,ah hQ,ah hQ];omega
   ·rw[ah hP,ah hP,ah hP]
    by_cases hQ:2=k∧0=n
    ·rw[aj hQ,aj hQ,aj hQ];omega
    ·rw[ah hQ,ah hQ,ah hQ];omega
  ·rw[ah h,ah h];exact ih
theorem uZ{a:aK}(h:fB a=true):a.length≤24∧ ∀x∈a,1≤x.1∧x.1≤24:=by
 unfold fB at h
 rw[fX]at h
 have h':=bz h
 have rng: ∀i,i<a.length→1≤(a.getD i aV).1∧(a.getD i aV).1≤24:=λi hi=>(h' i hi).1.1
 have inc: ∀i,i<a.length→(i:Int)+1≤(a.getD i aV).1:=by
  intro i
  induction i with
  |zero=>intro hi;exact(rng 0 hi).1
  |succ i ih=>
   intro hi
   have p:=ih ω
   have q:=(h' (i+1) hi).2.1 ω
   rw[Nat.add_sub_cancel]at q
   have g: ∀x y:Int,(i:Int)+1≤x→x<y→((i+1:Nat):Int)+1≤y:=λx y _ _=>ω
   exact g _ _ p q
 refine⟨?_,λx hx=> ?_⟩
 ·by_cases h0:a.length=0
  ·omega
  ·have p:=inc (a.length-1) ω
   have q:=(rng (a.length-1) ω).2
   have g: ∀x:Int,((a.length-1:Nat):Int)+1≤x→x≤24→a.length≤24:=λx _ _=>ω
   exact g _ p q
 ·obtain⟨i,hi,e⟩:=gj hx
  have:=rng i hi
  rw[aU,bk hi]at this
  rw[←e];exact this
theorem Ol{a:Int}{x:da}: ∀{t:aE},x∈wY a t→ ∃y∈t,x=(a,(y.1,((0-y.2.1:Int),())))∨x=((0:Int),(y.1,(y.2.1,())))
 |[],hx=>nomatch hx
 |y::t,hx=>by
  rw[qt]at hx
  rcases aW.1 hx with e|hx
  ·exact⟨y,bm ..,Or.inl e⟩
  ·rcases aW.1 hx with e|hx
   ·exact⟨y,bm ..,Or.inr e⟩
   ·obtain⟨y',hy,e⟩:=Ol hx
    exact⟨y',aZ _ hy,e⟩
theorem Jx(a i:Int): ∀t:aE,(c5 i (wY a t)).sum=0
 |[]=>rfl
 |y::t=>by
  have ih:=Jx a i t
  rw[qt,df,df]
  dsimp only
  by_cases e:y.1=i
  ·rw[aj e,aj e,cw,cw,ih]
   have g: ∀v:Int,0-v+(v+0)=0:=λv=>ω
   exact g y.2.1
  ·rw[ah e,ah e];exact ih
theorem Jy(b:an)(hg: ∀a,FI (posOf b.2.2.2.1 a))(m:Int): ∀t:aK,(iu b m t).length≤12*t.length
 |[]=>aG _
 |a::t=>by
  have ih:=Jy b hg m t
  have:=(hg a.1).len
  rw[oC,aR]
  split
  ·rw[aS,wZ];omega
  ·omega
theorem B6{b:an}{m:Int}{x:da}: ∀{t:aK},x∈iu b m t→ ∃a∈t,x∈wY a.1 (posOf b.2.2.2.1 a.1)
 |[],h=>nomatch h
 |a::t,h=>by
  rw[oC]at h
  by_cases e:a.2.1=m
  ·rw[aj e]at h
   rcases a8.1 h with h|h
   ·exact⟨a,bm ..,h⟩
   ·obtain⟨a',ha,h'⟩:=B6 h
    exact⟨a',aZ _ ha,h'⟩
  ·rw[ah e]at h
   obtain⟨a',ha,h'⟩:=B6 h
   exact⟨a',aZ _ ha,h'⟩
theorem Gz(b:an)(m i:Int): ∀t:aK,(c5 i (iu b m t)).sum=0
 |[]=>rfl
 |a::t=>by
  have ih:=Gz b m i t
  rw[oC]
  split
  ·rw[yw,lQ,Jx,ih];rfl
  ·exact ih
theorem GA{b:an}(m:Int)(hk:cB b.2.2.2.1=true)(hq:dS b.2.2.2.1)(ha:fB b.2.1=true):WK (iu b m b.2.1):=by
 have hg:=λa=>AJ hk hq a
 obtain⟨h24,bf⟩:=uZ ha
 have lT: ∀p q:Int,1≤p→p≤24→CP q→bB p q∧bB 0 q:=λp q h1 h2 h3=>by unfold CP at h3;unfold bB;omega
 have key: ∀x∈iu b m b.2.1,bB x.1 x.2.1∧aD (dY x)∧p4 (dY x):=λx hx=>by
  obtain⟨a,ha,hx⟩:=B6 hx
  obtain⟨y,hy,e|e⟩:=Ol hx
  ·rw[e];exact⟨(lT _ _ (bf a ha).1 (bf a ha).2 ((hg a.1).inst y hy)).1,T6 ((hg a.1).q y hy)⟩
  ·rw[e];exact⟨(lT _ _ (bf a ha).1 (bf a ha).2 ((hg a.1).inst y hy)).2,(hg a.1).q y hy⟩
 exact⟨λx hx=>(key x hx).1,λx hx=>(key x hx).2,by have:=Jy b hg m b.2.1;omega,λi=>Gz b m i b.2.1⟩
theorem xO{c:ae}{b:an}{m:Int}{x:da}: ∀{t:aK},x∈kY c b m t→ ∃a∈t,x∈B4 a.1 (xN c b a+vz (rI b a))
 |[],h=>nomatch h
 |a::t,h=>by
  rw[rJ]at h
  by_cases e:a.2.1=m
  ·rw[aj e]at h
   rcases a8.1 h with h|h
   ·exact⟨a,bm ..,h⟩
   ·obtain⟨a',ha,h'⟩:=xO h
    exact⟨a',aZ _ ha,h'⟩
  ·rw[ah e]at h
   obtain⟨a',ha,h'⟩:=xO h
   exact⟨a',aZ _ ha,h'⟩
theorem Jz(c:ae)(b:an)(m:Int): ∀t:aK,(kY c b m t).length≤2*t.length∧((kY c b m t).map dY).sum=0
 |[]=>⟨aG _,rfl⟩
 |a::t=>by
  have ih:=Jz c b m t
  rw[rJ,aR]
  split
  ·refine⟨?_,?_⟩
   ·rw[aS,show(B4 a.1 (xN c b a+vz (rI b a))).length=2 from rfl];omega
   ·rw[cY,lQ,ih.2]
    show-(xN c b a+vz (rI b a))+((xN c b a+vz (rI b a))+0)+0=0
    omega
  ·exact⟨ω,ih.2⟩
theorem Q5{x:Int}(h:aD x):dm (-x):=by unfold aD at h;unfold dm;omega
theorem GB{c:ae}{b:an}(w:gN b)(m:Int)(ha:fB b.2.1=true):WR (kY c b m b.2.1):=by
 obtain⟨h24,bf⟩:=uZ ha
 have hl:=Jz c b m b.2.1
 have Ts: ∀p:Int,1≤p→p≤24→cN 5 p:=λp h1 h2=>by unfold cN;omega
 refine⟨λx hx=> ?_,λx hx=> ?_,ω,hl.2⟩
 ·obtain⟨a,ha,hx⟩:=xO hx
  rcases aW.1 hx with e|hx
  ·rw[e];exact Ts _ (bf a ha).1 (bf a ha).2
  ·rw[bW.1 hx];show cN 2 0;decide
 ·obtain⟨a,ha,hx⟩:=xO hx
  rcases aW.1 hx with e|hx
  ·rw[e];exact Q5 (B5 w a).1
  ·rw[bW.1 hx];exact ri (B5 w a).1
theorem JA{c:ae}{b:an}(w:gN b)(m:Int): ∀t:aK,(pR c b m t).length≤4*t.length∧BH (pR c b m t)
 |[]=>⟨aG _,λx hx=>nomatch hx⟩
 |a::t=>by
  have ih:=JA (c:=c) w m t
  rw[y9,aR]
  by_cases h:a.2.1=m
  ·rw[aj h]
   have l1:(if a.2.2.1=2 then B4 a.1 (xN c b a)else []).length≤2:=by
    split
    ·exact aG 2
    ·exact bo _
   have l2:(if rI b a<0 then Oj a.1 (rI b a)else []).length≤2:=by
    split
    ·exact aG 2
    ·exact bo _
   refine⟨by rw[aS,aS];omega,λx hx=> ?_⟩
   rcases a8.1 hx with hx|hx
   ·rcases a8.1 hx with hx|hx
    ·split at hx
     ·rcases aW.1 hx with e|hx
      ·rw[e];exact Q5 (B5 w a).2
      ·rw[bW.1 hx];exact ri (B5 (c:=c) w a).2
     ·nomatch hx
    ·split at hx
     ·rcases aW.1 hx with e|hx
      ·rw[e];show dm (- -rI b a);rw[zH];exact ri (Lc w a)
      ·rw[bW.1 hx];exact Q5 (Lc w a)
     ·nomatch hx
   ·exact ih.2 x hx
  ·rw[ah h];exact⟨ω,ih.2⟩
end VM
end
section
namespace VM
open Go VM.F
theorem C6{c:ae}{b:an}(h:dy c b=true):fB b.2.1=true:=by
 unfold dy at h
 have h1:=(cO.1 (cO.1 h).2).1
 unfold pC at h1
 exact(cO.1 (cO.1 h1).2).1
def gP(c:ae)(b:an)(m:Int):an×Int:=
 if dy c b then(if eI b.1 m=0 then((ck,(c8,(bG,(bG,(dC,(dQ,())))))),3)else eu b (iu b m b.2.1) (kY c b m b.2.1))else((ck,(c8,(bG,(bG,(dC,(dQ,())))))),1)
theorem Le(N:Nat)(hN:4000000≤N)(c:ae){b:an}(w:AG b)(m:Int):sY N c b m=some (gP c b m):=by
 unfold sY sY.b gP
 rw[Kw N hN w.w,ar,BE N w.w.m ω,ar,cond_not,aN]
 by_cases hB:dy c b=false
 ·rw[hB];rfl
 rw[Es]at hB
 rw[hB,aq,aj rfl]
 by_cases hS:eI b.1 m=0
 ·rw[aj hS,aj hS]
 rw[ah hS,ah hS]
 obtain⟨hr,hs⟩:=dt hB
 have ha:=C6 hB
 obtain⟨h24,bf⟩:=uZ ha
 have gs:=GA m hs w.w.qs ha
 have ge:=GB (c:=c) w.w m ha
 have hls:=gs.len
 have hle:=ge.len
 have:=oe b.2.1 aV (λn i (z:au×au)=>sY.l8 N n m c b (ck,(c8,(bG,(bG,(dC,(dQ,())))))) z.1 (z.2.map jS) b.2.1 (b.2.1.length:Int) i) (λt z=>some (eu b (iu b m b.2.1) (kY c b m b.2.1)))
  (λi z=>z.1++iu b m (b.2.1.drop i)=iu b m b.2.1∧z.2++kY c b m (b.2.1.drop i)=kY c b m b.2.1)
  (λn i z hi hI wL=> ?_) (λn z hI=> ?_) b.2.1.length N 0 ([],[]) ω ω ω ⟨rfl,rfl⟩
 ·exact this
 ·unfold sY.l8 sY.yd sY.Vj sY.NS
  obtain⟨i1,i2⟩:=hI
  have z1:z.1.length≤400:=by rw[←i1,aS]at hls;omega
  have z2:z.2.length≤400:=by rw[←i2,aS]at hle;omega
  have hm:b.2.1.getD i aV∈b.2.1:=by
   rw[aU,bk hi];exact dB hi
  rw[drop_cons hi aV,oC]at i1
  rw[drop_cons hi aV,rJ]at i2
  have hai:=bf _ hm
  rw[aJ]
  generalize b.2.1.getD i aV=a at*
  have hx:=(B5 (c:=c) w.w a).1
  have oX:=hx
  unfold aD at oX
  have Hs:=(AJ hs w.w.qs a.1).len
  rw[aT ω,aq,a6 ω ω,aq,ay (x:=(i:Int)+1) ω ω,ag i,cond_not,aN]
  by_cases h1:a.2.1=m
  ·rw[aj h1]at i1 i2
   have fin: ∀k:Int,k=xN c b a→((BK N b.2.2.1 5 a.1).bind λr7=>(Vh N (W .i64 (k+(mn r7 0)))).bind λkz=>(F66 N kz).bind λnL=>(CR N b.2.2.2.1 a.1 (0:Int)).bind λnW=>cond (small (List.length z.1+List.length nW)) (cond (small (List.length (z.2.map jS)+List.length ([((5:Int),(a.1,(nL.1,()))),((2:Int),((0:Int),(kz,())))]))) (sY.l8 N n m c b (ck,(c8,(bG,(bG,(dC,(dQ,())))))) (z.1++nW) (z.2.map jS++([((5:Int),(a.1,(nL.1,()))),((2:Int),((0:Int),(kz,())))])) b.2.1 (b.2.1.length:Int) ((i+1:Nat):Int)) (none)) (none))=some (eu b (iu b m b.2.1) (kY c b m b.2.1)):=λk hk=>by
    subst hk
    have e:W .i64 (xN c b a+mn (gv b.2.2.1 5 a.1) 0)=xN c b a+vz (rI b a):=by
     have:mn (gv b.2.2.1 5 a.1) 0=vz (rI b a):=by rw[Rs];rfl
     rw[this,ay oX.1 oX.2]
    rw[Sf N w.w.r ω,ar,e,wK N oX.1 oX.2,ar,aaq N hx,ar,ahX N ω w.w.s hs w.w.qs hai.1 hai.2,ar,bL (by rw[wZ];omega),aq,bL (by rw[ct,aR,aI];omega),aq]
    have:=wL (z.1++wY a.1 (posOf b.2.2.2.1 a.1),z.2++B4 a.1 (xN c b a+vz (rI b a))) ⟨by rw[←i1,bt],by rw[←i2,bt]⟩
    rw[cY]at this
    exact this
   rw[aj h1,aN]
   by_cases h2:a.2.2.1=2
   ·rw[aj h2,IT N hN c w.w,ar]
    exact fin _ (by unfold xN;rw[aj h2])
   ·rw[ah h2]
    exact fin 0 (by unfold xN;rw[ah h2])
  ·rw[ah h1]at i1 i2
   rw[ah h1]
   exact wL z ⟨i1,i2⟩
 ·unfold sY.l8 sY.yd
  obtain⟨i1,i2⟩:=hI
  rw[mU]at i1 i2
  have e1:z.1=iu b m b.2.1:=by rw[←i1];exact(ch _).symm
  have e2:z.2=kY c b m b.2.1:=by rw[←i2];exact(ch _).symm
  rw[aP ω,av,e1,e2,WW N ω w.w hr hs w.r w.s gs ge,ar]
theorem Yg(N:Nat)(hN:5000000≤N)(c:ae){b:an}(w:AG b)(m:Int):mR N c b m=some (gP c b m):=by
 unfold mR mR.b gP HS
 rw[Au N hN w.w,ar,mf N w.w.m ω,ar,ar,cond_not,aN]
 by_cases hB:dy c b=false
 ·rw[hB];rfl
 rw[Es]at hB
 rw[hB,aq,aj rfl]
 by_cases hS:eI b.1 m=0
 ·rw[aj hS,aj hS]
 rw[ah hS,ah hS]
 obtain⟨hr,hs⟩:=dt hB
 have ha:=C6 hB
 obtain⟨h24,bf⟩:=uZ ha
 have gs:=GA m hs w.w.qs ha
 have gp:=JA (c:=c) w.w m b.2.1
 have hls:=gs.len
 have II:(pR c b m b.2.1).length≤400:=ω
 rw[Oi (Jw w.w m · · b.2.1)]
 have:=oe b.2.1 aV (λn i (z:au×au)=>mR.l8 N n m c b (ck,(c8,(bG,(bG,(dC,(dQ,())))))) z.1 (z.2.map gY) i) (λt z=>some (eu b (iu b m b.2.1) (pR c b m b.2.1)))
  (λi z=>z.1++iu b m (b.2.1.drop i)=iu b m b.2.1∧z.2++pR c b m (b.2.1.drop i)=pR c b m b.2.1)
  (λn i z hi hI wL=> ?_) (λn z hI=> ?_) b.2.1.length N 0 ([],[]) ω ω ω ⟨rfl,rfl⟩
 ·exact this
 ·unfold mR.l8 mR.yd mR.Bf mR.uV
  obtain⟨i1,i2⟩:=hI
  have z1:z.1.length≤400:=by rw[←i1,aS]at hls;omega
  have z2:z.2.length≤400:=by rw[←i2,aS]at II;omega
  have hm:b.2.1.getD i aV∈b.2.1:=by
   rw[aU,bk hi];exact dB hi
  rw[drop_cons hi aV,oC]at i1
  rw[drop_cons hi aV,y9]at i2
  have hai:=bf _ hm
  rw[aJ]
  generalize b.2.1.getD i aV=a at*
  have hx:=(B5 (c:=c) w.w a).2
  have oX:=hx
  unfold aD at oX
  have XF:=Lc w.w a
  have Yh:=XF
  unfold aD at Yh
  have Hs:=(AJ hs w.w.qs a.1).len
  rw[aT ω,aq,a6 ω ω,aq,ay (x:=(i:Int)+1) ω ω,ag i,cond_not,aN]
  by_cases h1:a.2.1=m
  ·rw[aj h1]at i1 i2
   have fin: ∀q:au,q.length≤1000→q++((if rI b a<0 then Oj a.1 (rI b a)else [])++pR c b m (b.2.1.drop (i+1)))=pR c b m b.2.1→((HK N b a.1).bind λkz=>cond (aY kz 0) ((jz N kz).bind λnL=>(TK N nL).bind λnW=>(yg N (2:Int) (0:Int) (5:Int) a.1 nW).bind λqx=>cond (small (List.length (q.map gY)+List.length qx)) ((iT N b.2.2.2.1 a.1 (0:Int)).bind λvA=>cond (small (List.length z.1+List.length vA)) (mR.l8 N n m c b (ck,(c8,(bG,(bG,(dC,(dQ,())))))) (z.1++vA) (q.map gY++qx) ((i+1:Nat):Int)) (none)) (none)) ((iT N b.2.2.2.1 a.1 (0:Int)).bind λtR=>cond (small (List.length z.1+List.length tR)) (mR.l8 N n m c b (ck,(c8,(bG,(bG,(dC,(dQ,())))))) (z.1++tR) (q.map gY) ((i+1:Nat):Int)) (none)))=some (eu b (iu b m b.2.1) (pR c b m b.2.1)):=λq hq Bs=>by
    have fq:=Fit.i64 Yh.1 Yh.2
    rw[IU N w.w ω,ar,show gv b.2.2.1 5 a.1=rI b a from rfl,cP N ω Yh.1 Yh.2,ar,jw N ω (fq.mono ω),ar,aau N ω w.w.s hs w.w.qs hai.1 hai.2,ar,cQ]
    unfold yg
    rw[jw N ω ((Fit.neg fq).mono ω),ar,ar,bL (n:=z.1.length+_) (by rw[wZ];omega),aq,bL (by rw[ct,aR,aI];omega),aq,ar,bL (n:=z.1.length+_) (by rw[wZ];omega),aq]
    by_cases h3:rI b a<0
    ·rw[aj h3]at Bs ⊢
     have:=wL (z.1++wY a.1 (posOf b.2.2.2.1 a.1),q++Oj a.1 (rI b a)) ⟨by rw[←i1,bt],by rw[←Bs,bt]⟩
     rw[cY]at this
     exact this
    ·rw[ah h3]at Bs ⊢
     exact wL (z.1++wY a.1 (posOf b.2.2.2.1 a.1),q) ⟨by rw[←i1,bt],Bs⟩
   rw[aj h1,aN]
   by_cases h2:a.2.2.1=2
   ·rw[aj h2]at i2
    have fk:=Fit.i64 oX.1 oX.2
    have ek:(ny c b a.1).1=xN c b a:=by unfold xN;rw[aj h2]
    rw[aj h2,QE N hN c w.w,ar,ek,cP N ω oX.1 oX.2,ar]
    unfold yg at*
    rw[jw N ω (fk.mono ω),ar,ar,bL (by rw[ct,aR,aI];omega),aq]
    have:=fin (z.2++B4 a.1 (xN c b a)) (by rw[aS,show(B4 a.1 (xN c b a)).length=2 from rfl];omega) (by rw[←i2];simp only[bt])
    rw[cY]at this
    exact this
   ·rw[ah h2]at i2
    rw[ah h2]
    exact fin z.2 ω (by rw[←i2];simp only[bt,cJ])
  ·rw[ah h1]at i1 i2
   rw[ah h1]
   exact wL z ⟨i1,i2⟩
 ·unfold mR.l8 mR.yd
  obtain⟨i1,i2⟩:=hI
  rw[mU]at i1 i2
  have e1:z.1=iu b m b.2.1:=by rw[←i1];exact(ch _).symm
  have e2:z.2=pR c b m b.2.1:=by rw[←i2];exact(ch _).symm
  rw[aP ω,av,e1,e2,Yf N ω w.w hr hs w.r w.s (λx hx=>(gs.q x hx).1) ω gp.2 ω,ar]
end VM
end
section
namespace VM
open Go VM.F Go.RowKit
theorem Q6{c:ae}{b:an}(w:gN b)(m:Int):W3 (gP c b m).1:=by
 unfold gP
 split
 ·split
  ·exact xE
  ·exact Ny w _ _
 ·exact xE
def wC:ae:=([((0:Int),((100:Int),((2:Int),((3:Int),()))))],((0:Int),((0:Int),((0:Int),((0:Int),((1:Int),((0:Int),())))))))
def wR:au:=[((1:Int),((0:Int),((-10:Int),()))),((5:Int),((1:Int),((-10:Int),()))),((5:Int),((2:Int),((20:Int),())))]
def wS:au:=[((1:Int),((0:Int),((1:Int),()))),((2:Int),((0:Int),((5:Int),()))),((3:Int),((0:Int),((-6:Int),())))]
def wB:an:=([((1:Int),((3:Int),())),((2:Int),((1:Int),()))],([((1:Int),((1:Int),((1:Int),((0:Int),())))),((2:Int),((1:Int),((2:Int),((0:Int),())))),((3:Int),((2:Int),((1:Int),((0:Int),()))))],(wR,(wS,([(100:Int)],(dQ,()))))))
theorem wW:AG wB:=⟨⟨δ,δ,δ,δ,δ,δ,D3 (l:=wR) δ,D3 (l:=wS) δ⟩,δ,δ⟩
theorem wCh:ny wC wB 2=(15,0):=κ
theorem wW1:(gP wC wB 1).2=0:=κ
theorem wW9:(gP wC wB 9).2=3:=κ
theorem wH0:dk (gP wC wB 1).1.2.2.2.1 0 0=6:=κ
theorem wG1:gv (gP wC wB 1).1.2.2.1 5 1=0:=κ
theorem wG2:gv (gP wC wB 1).1.2.2.1 5 2=5:=κ
theorem wG0:gv (gP wC wB 1).1.2.2.1 2 0=5:=κ
theorem UT(N:Nat)(hN:5000000≤N):F15 N=some true:=by
 unfold F15 F56
 rw[ar]
 show(F31 N wC wB 2).bind _=_
 rw[IT N ω wC wW.w,ar,wCh]
 show(sY N wC wB 1).bind _=_
 rw[Le N ω wC wW,ar]
 show(sY N wC wB 9).bind _=_
 rw[Le N ω wC wW,ar]
 have sh:=Q6 (c:=wC) wW.w 1
 rw[sE N sh.s ω,ar,uM N sh.r ω,ar,uM N sh.r ω,ar,uM N sh.r ω,ar,wW1,wW9,wH0,wG1,wG2,wG0]
 simp only[nv,aq]
namespace Pure
end Pure
end VM
end
section
namespace VM
open Go VM.F Go.RowKit
namespace Pure
end Pure
end VM
end
section
namespace VM
open Go VM.F Go.RowKit
def vB(f:bI→Int)(m:Int):aK→Int
 |[]=>0
 |x::t=>(if x.2.1=m then f x else 0)+vB f m t
theorem mG(f:bI→Int)(m:Int)(x:bI)(t:aK):vB f m (x::t)=(if x.2.1=m then f x else 0)+vB f m t:=rfl
theorem tS{f:bI→Int}{m:Int}: ∀{l:aK},(∀x∈l,x.2.1=m→f x=0)→vB f m l=0
 |[],_=>rfl
 |x::t,h=>by
  rw[mG,tS λy hy=>h y (aZ _ hy)]
  by_cases e:x.2.1=m
  ·rw[aj e,h x (bm ..) e];rfl
  ·rw[ah e];rfl
theorem GC{g:bI→Int}{m a:Int}: ∀{l:aK} {x0:bI},l.Pairwise AY→x0∈l→x0.1=a→vB (λx=>if x.1=a then g x else 0) m l=if x0.2.1=m then g x0 else 0
 |[],_,_,h,_=>nomatch h
 |y::t,x0,hp,h,ha=>by
  obtain⟨h1,h2⟩:=ec.1 hp
  have ne: ∀x z:bI,AY x z→x.1=a→z.1=a→False:=λx z h h1 h2=>by
   have h:nS x.1 z.1:=h
   unfold nS at h
   rw[h1,h2]at h;exact Int.lt_irrefl _ h
  rw[mG]
  rcases aW.1 h with rfl|h
  ·rw[aj ha,tS λz hz hm=>ah λe=>ne _ _ (h1 z hz) ha e,fY]
  ·rw[GC h2 h ha,ah (show ¬y.1=a from λe=>ne _ _ (h1 x0 h) e ha)]
   split<;>(split<;>omega)
theorem UU{g:bI→Int}{m a:Int}{l:aK}(h: ∀x∈l,x.1≠a):vB (λx=>if x.1=a then g x else 0) m l=0:=tS λx hx _=>ah (h x hx)
def u2(i:Int):aE→Int
 |[]=>0
 |y::t=>(if y.1=i then y.2.1 else 0)+u2 i t
theorem GD{a i:Int}: ∀l:au,u2 i (iL a l)=bP a i l
 |[]=>rfl
 |x::t=>by
  rw[kp,ej]
  by_cases e:x.1=a
  ·rw[aj e]
   show(if x.2.1=i then x.2.2.1 else 0)+u2 i (iL a t)=_
   rw[GD t]
   by_cases e2:x.2.1=i
   ·rw[aj e2,aj ⟨e,e2⟩];rfl
   ·rw[ah e2,ah λk=>e2 k.2]
  ·rw[ah e,ah (λk=>e k.1),GD t,oV]
theorem SM{a i y:Int}: ∀t:aE,bP a i (wY y t)=(if y=a then-(u2 i t)else 0)+(if 0=a then u2 i t else 0)
 |[]=>by
  show(0:Int)=(if y=a then-0 else 0)+(if 0=a then 0 else 0)
  split<;>split<;>rfl
 |x::t=>by
  rw[qt,ej,ej,SM t]
  show(if y=a∧x.1=i then 0-x.2.1 else 0)+((if 0=a∧x.1=i then x.2.1 else 0)+_)=(if y=a then-((if x.1=i then x.2.1 else 0)+u2 i t)else 0)+(if 0=a then(if x.1=i then x.2.1 else 0)+u2 i t else 0)
  have g: ∀q s:Int,(if y=a∧x.1=i then 0-q else 0)+((if 0=a∧x.1=i then q else 0)+((if y=a then-s else 0)+(if 0=a then s else 0)))=(if y=a then-((if x.1=i then q else 0)+s)else 0)+(if 0=a then(if x.1=i then q else 0)+s else 0):=λq s=>by
   by_cases h1:y=a<;>by_cases h2:(0:Int)=a<;>by_cases h3:x.1=i<;>simp[h1,h2,h3]<;>omega
  exact g _ _
def UW(b:an)(i y:Int):Int:=bP y i b.2.2.2.1
theorem xP{b:an}(hk:cB b.2.2.2.1=true)(m a i:Int): ∀l:aK,bP a i (iu b m l)=vB (λx=>if x.1=a then-(UW b i x.1)else 0) m l+vB (λx=>if 0=a then UW b i x.1 else 0) m l
 |[]=>rfl
 |x::t=>by
  rw[oC,mG,mG]
  have hp:posOf b.2.2.2.1 x.1=iL x.1 b.2.2.2.1:=by unfold posOf;rw[aj hk]
  by_cases e:x.2.1=m
  ·rw[aj e,aj e,aj e,kQ,xP hk m a i t,SM,hp,GD]
   show(if x.1=a then-(UW b i x.1)else 0)+(if 0=a then UW b i x.1 else 0)+_=_
   omega
  ·rw[ah e,ah e,ah e,xP hk m a i t];omega
def xW(c:ae)(b:an)(x:bI):Int:=xN c b x+vz (rI b x)
theorem B7(c:ae)(b:an)(m k n:Int): ∀l:aK,bP k n (kY c b m l)=vB (λx=>if 5=k∧x.1=n then-(xW c b x)else 0) m l+vB (λx=>if 2=k∧0=n then xW c b x else 0) m l
 |[]=>rfl
 |x::t=>by
  rw[rJ,mG,mG]
  by_cases e:x.2.1=m
  ·rw[aj e,aj e,aj e,kQ,B7 c b m k n t,Ld]
   show(if 5=k∧x.1=n then-(xW c b x)else 0)+(if 2=k∧0=n then xW c b x else 0)+_=_
   omega
  ·rw[ah e,ah e,ah e,B7 c b m k n t];omega
theorem JB{c:ae}{b:an}{l:aK}(hp:l.Pairwise AY){x:bI}(hx:x∈l)(m:Int):bP 5 x.1 (kY c b m l)=if x.2.1=m then-(xW c b x)else 0:=by
 rw[B7,tS (f:=λx_1=>if(2:Int)=5∧0=x.1 then xW c b x_1 else 0) λz _ _=>ah λk=>absurd k.1 δ,fY]
 have e:(λy:bI=>if(5:Int)=5∧y.1=x.1 then-(xW c b y)else 0)=λy=>if y.1=x.1 then-(xW c b y)else 0:=by
  funext y
  by_cases h:y.1=x.1
  ·rw[aj ⟨rfl,h⟩,aj h]
  ·rw[ah (λk=>h k.2),ah h]
 rw[e,GC hp hx rfl]
theorem JC{b:an}(hk:cB b.2.2.2.1=true){l:aK}(hp:l.Pairwise AY){x:bI}(hx:x∈l)(h0:x.1≠0)(m i:Int):bP x.1 i (iu b m l)=if x.2.1=m then-(UW b i x.1)else 0:=by
 rw[xP hk,tS (f:=λy=>if 0=x.1 then UW b i y.1 else 0) λz _ _=>ah λk=>h0 k.symm,fY,GC hp hx rfl]
theorem Q7{b:an}(hk:cB b.2.2.2.1=true){l:aK}(h0: ∀x∈l,x.1≠0)(m i:Int):bP 0 i (iu b m l)=vB (λx=>UW b i x.1) m l:=by
 rw[xP hk,UU h0,oV]
 have e:(λx:bI=>if(0:Int)=0 then UW b i x.1 else 0)=λx=>UW b i x.1:=by funext x;rw[aj rfl]
 rw[e]
structure SN(c:ae)(b:an)(m:Int)(n:an):Prop where
 r:RBs c b n
 qr:dS n.2.2.1
 qs:dS n.2.2.2.1
 s: ∀a i,bB a i→dk n.2.2.2.1 a i=dk b.2.2.2.1 a i+bP a i (iu b m b.2.1)
 e: ∀k j,cN k j→gv n.2.2.1 k j=gv b.2.2.1 k j+bP k j (kY c b m b.2.1)
theorem Q8{c:ae}{b:an}{k:Nat}(h2:200≤k)(hk:k≤1000)(hc:G k aA c)(hb:G k aL b)(hR:RB c b)(m:Int):((gP c b m).2=3∧eI b.1 m=0∧(gP c b m).1=(ck,(c8,(bG,(bG,(dC,(dQ,())))))))∨(eI b.1 m≠0∧(gP c b m).2=2∧(gP c b m).1=(ck,(c8,(bG,(bG,(dC,(dQ,())))))))∨(eI b.1 m≠0∧(gP c b m).2=0∧gP c b m=eu b (iu b m b.2.1) (kY c b m b.2.1)∧SN c b m (gP c b m).1∧G k aL (gP c b m).1):=by
 obtain⟨r,er,hr,hg⟩:=Ok.and (SF 5000000 (aG _) h2 hk hc hb hR m) (Sy 5000000 (aG _) h2 hk hc hb m)
 rw[Yg 5000000 (aG _) c (G.wf ω hb) m]at er
 have er:=oG er
 subst er
 have w:=(G.wf (m:=k) ω hb).w
 obtain⟨yQ,Lx⟩:=dt (ky.2 hR)
 unfold gP at hr hg ⊢
 rw[aj (ky.2 hR)]at hr hg ⊢
 by_cases h0:eI b.1 m=0
 ·rw[aj h0];exact .inl ⟨rfl,h0,rfl⟩
 rw[ah h0]at hr hg ⊢
 right
 rcases Gg b (iu b m b.2.1) (kY c b m b.2.1)with⟨h,h'⟩|⟨s',r',g1,g2,g3⟩
 ·exact .inl ⟨h0,h,h'⟩
 ·have hz:(eu b (iu b m b.2.1) (kY c b m b.2.1)).2=0:=by rw[g3]
  have R:=hr hz
  refine .inr ⟨h0,hz,rfl,⟨R,?_,?_,?_,?_⟩,hg⟩
  ·rw[g3];exact λx hx=>((rG g2).2.1 x hx).2.2
  ·rw[g3];exact λx hx=>((rG g1).2.1 x hx).2.2.1
  ·rw[g3];exact λa i h=>((Gh Lx g1).2 a i h).1
  ·rw[g3];exact λa i h=>((SA yQ (GB w m hR.a).key g2).2 a i h).1
theorem GF{c:ae}{b n:an}{m:Int}(hR:RB c b)(W:SN c b m n){x:bI}(hx:x∈b.2.1)(e:x.2.1=m)(i:Int):UW n i x.1=0:=by
 have hk:=(dt (ky.2 hR)).2
 have hn:=(dt (ky.2 W.r.1)).2
 have Fj:=(iR.1 hR.a).1 x hx
 have g1: ∀v:Int,1≤v→v≠0:=λv h=>ω
 by_cases hp:bB x.1 i
 ·have:=W.s _ _ hp
  rw[JC hk (iR.1 hR.a).2.1 hx (g1 _ Fj.1.1),aj e,AZ hk,AZ hn]at this
  unfold UW at*
  omega
 ·unfold UW
  exact aa5 λz hz Bc=>hp (by rw[←Bc.1,←Bc.2];exact((dn hn).2 z hz).1)
theorem UX{c:ae}{b n:an}{m:Int}(hR:RB c b)(W:SN c b m n){x:bI}(hx:x∈b.2.1)(e:x.2.1=m):posOf n.2.2.2.1 x.1=[]:=by
 have hn:=(dt (ky.2 W.r.1)).2
 refine LM.2 λy hy=> ?_
 unfold posOf at hy
 rw[aj hn]at hy
 obtain⟨z,hz,PM,_⟩:=je hy
 have h1:=B0 (dn hn).1 hz
 rw[oy (dn hn).1,PM]at h1
 exact UH hn z hz (h1.symm.trans (GF hR W hx e _))
theorem abh{c:ae}{b n:an}{m:Int}(hR:RB c b)(hw:gN b)(W:SN c b m n){x:bI}(hx:x∈b.2.1)(e:x.2.1=m):rI n x=rI b x-xW c b x∧0≤rI n x∧xW c n x=0:=by
 have Fj:=(iR.1 hR.a).1 x hx
 have k5:cN 5 x.1:= .inr (.inl ⟨rfl,Fj.1⟩)
 have h1:rI n x=rI b x-xW c b x:=by
  have:=W.e 5 x.1 k5
  rw[JB (iR.1 hR.a).2.1 hx,aj e]at this
  unfold rI;omega
 have hr:=SL (c:=c) hw x
 have h2:0≤rI n x:=by
  rw[h1]
  unfold xW vz
  by_cases h:0<rI b x
  ·rw[aj h];have:=hr.2 h;omega
  ·rw[ah h];have:=hr.1 ω;omega
 have hk:xN c n x=0:=by
  unfold xN
  by_cases h:x.2.2.1=2
  ·rw[aj h]
   unfold ny
   rw[aj (ky.2 W.r.1),UX hR W hx e]
   have hs:ov c []=0:=by unfold ov;split<;>rfl
   rw[hs]
   split
   ·unfold sF
    dsimp only
    split
    ·rfl
    ·rw[aj ω]
   ·rfl
  ·rw[ah h]
 refine⟨h1,h2,?_⟩
 unfold xW vz
 rw[hk]
 by_cases h:0<rI n x
 ·rw[aj h];rfl
 ·rw[ah h];omega
namespace Pure
end Pure
end VM
end
section
namespace VM
open Go VM.F Go.RowKit
theorem UY{f:bI→Int}{m:Int}{l:aK}{k:Nat}(hk:k<l.length):vB f m (l.take (k+1))=vB f m (l.take k)+if(l.getD k aV).2.1=m then f (l.getD k aV)else 0:=by
 have app: ∀(s t:aK),vB f m (s++t)=vB f m s+vB f m t:=by
  intro s t
  induction s with
  |nil=>exact(oV _).symm
  |cons x s ih=>rw[kF,mG,mG,ih,zB]
 rw[←pT hk,app,g5 hk]
 congr 1
 exact fY _
theorem Yi{x y:Int}{k:Nat}(hx:Fit x (2+k))(hy:aD y):Fit (x+y) (2+(k+1)):=Fit.add (k:=2+k) hx ((Fit.i64 hy.1 hy.2).mono (show 2≤2+k by omega))
namespace Pure
theorem UZ(l:List Int)(a:Int)(h:WFs [.slice (.int .u64),.int .u8] (l,a)): ∃N,F4 N l a=some true:=by
 have key:Ok (λr=>r=true) (F4 6000000 l a):=by
  unfold F4 F4.b F16
  refine br (UT 6000000 ω) (bw (λh=>nomatch h) λ_=>br rfl (af (UN 6000000 ω (aa3 h.1)) λc ⟨hc,hd⟩=>af (Ye 6000000 ω hc hd ω) λs ⟨⟨hs,hR⟩,hd⟩=>ok_eq (λ_=>ω) λ_=> ?_))
  have hb:=hs.2.2.1
  have w:=G.wf ω hb
  have hR:=hR.1
  dsimp only
  generalize W .i64 (1+W .i64 (rem a 5))=m at*
  generalize s.1.2.2.1=b at*
  refine br (Le 6000000 ω c.1 w m) ?_
  rcases Q8 ω ω (G.mono ω hc.1.1) hb hR m with⟨h1,h2,_⟩|⟨_,h1,_⟩|⟨h0,h1,_,W,gn⟩
  ·exact bp (λ_=>ok_eq (λ_=>ak rfl) λ_=>ok_eq (λ_=>br (mf 6000000 w.w.m ω m) (ak (dW h2))) λh=>absurd h1 h) λh=>absurd (h1.symm.trans h) δ
  ·exact bp (λ_=>ok_eq (λ_=>ak rfl) λh=>absurd h1 h) λh=>absurd (h1.symm.trans h) δ
  refine bp (λh=>absurd h1 h) λ_=> ?_
  generalize (gP c.1 b m).1=n at*
  have nw:=G.wf (m:=900) ω gn
  obtain⟨hr,hk⟩:=dt (ky.2 hR)
  obtain⟨hnr,hnk⟩:=dt (ky.2 W.r.1)
  obtain⟨Y5,ha2,_⟩:=iR.1 hR.a
  have hal:=Jr hR
  refine br (Kw 6000000 ω nw.w) ?_
  rw[ky.2 W.r.1,W.r.2.2.2,W.r.2.2.1]
  refine br (QA 6000000 w.w.o ω) (br (W2 6000000 w.w.a ω) ?_)
  have g1: ∀v:Int,1≤v→v≠0:=λv h=>ω
  have h6:=(Gw.1 hR.c).1.2
  refine kR (len:=c.1.1.length) (F:=λn' i=>F4.lj 6000000 n' c.1 b m n i) ω (λn' i hi eM=> ?_) (λn'=> ?_)
  all_goals unfold F4.lj F4.kP
  ·have q0:=FP w.w.qs 0 (i:Int)
   refine aw (λ_=>br (sE 6000000 w.w.s ω _ _) (br (cP 6000000 ω q0.1 q0.2) ?_)) λ_=>ω
   refine bc (len:=b.2.1.length) (F:=λD6 k (z:aH)=>F4.yX 6000000 (F4.lj 6000000 n') D6 c.1 b m n (i:Int) z k) (λk z=>z=cS (dk b.2.2.2.1 0 (i:Int)+vB (λx=>dk b.2.2.2.1 x.1 (i:Int)) m (b.2.1.take k))∧Fit (dk b.2.2.2.1 0 (i:Int)+vB (λx=>dk b.2.2.2.1 x.1 (i:Int)) m (b.2.1.take k)) (2+k)) ⟨by show _=cS (dk b.2.2.2.1 0 (i:Int)+0);rw[fY],by show Fit (dk b.2.2.2.1 0 (i:Int)+0) 2;rw[fY];exact Fit.i64 q0.1 q0.2⟩ ω (λD6 k z DS hI NO=> ?_) (λD6 z hI=> ?_)
   all_goals unfold F4.yX F4.ye
   all_goals obtain⟨rfl,hf⟩:=hI
   ·have hx:=qd (d:=aV) DS
    have st:=UY (f:=λx=>dk b.2.2.2.1 x.1 (i:Int)) (m:=m) DS
    rw[ay (x:=(k:Int)+1) ω ω,ag k,aJ]
    generalize b.2.1.getD k aV=x at*
    have Fj:=Y5 x hx
    have k5:cN 5 x.1:= .inr (.inl ⟨rfl,Fj.1⟩)
    have pl:bB x.1 (i:Int):=⟨fi δ Fj.1.1,Fj.1.2,ω,ω⟩
    have q1:=FP w.w.qs x.1 (i:Int)
    have hS:=W.s _ _ pl
    rw[JC hk ha2 hx (g1 _ Fj.1.1)]at hS
    have hE:=W.e _ _ k5
    rw[JB ha2 hx]at hE
    refine aw (λ_=>aB ⟨ω,ω⟩ (br (sE 6000000 w.w.s ω _ _) (br (sE 6000000 nw.w.s ω _ _) (ok_eq (λe=> ?_) λe=> ?_)))) λ_=>ω
    ·rw[aj e]at st hS hE
     have Tn:=abh hR w.w W hx e
     have hz:dk n.2.2.2.1 x.1 (i:Int)=0:=by rw[AZ hnk];exact GF hR W hx e _
     have hg:0≤gv n.2.2.1 5 x.1:=Tn.2.1
     have zN:=Yi hf q1
     refine br (cP 6000000 ω q1.1 q1.2) (br (iA 6000000 ω (hf.mono ω) ((Fit.i64 q1.1 q1.2).mono ω)) (bp (λh=>absurd hz h) λ_=>br (uM 6000000 nw.w.r ω _ _) (aw (λh=>absurd hg ω) λ_=>NO _ ⟨?_,?_⟩)))
     ·rw[st,←zB]
     ·rw[st,←zB];exact zN
    ·rw[ah e]at st hS hE
     rw[fY]at st hS hE
     refine bp (λh=>absurd hS h) λ_=>br (uM 6000000 nw.w.r ω _ _) (br (uM 6000000 w.w.r ω _ _) (bp (λh=>absurd hE h) λ_=>NO _ ⟨by rw[st],by rw[st];exact hf.mono ω⟩))
   ·have q2:=FP nw.w.qs 0 (i:Int)
    rw[ix]at hf ⊢
    have hS:=W.s 0 (i:Int) ⟨δ,δ,ω,ω⟩
    rw[Q7 hk (λx hx=>g1 _ (Y5 x hx).1.1)]at hS
    have e:(λx:bI=>UW b (i:Int) x.1)=λx=>dk b.2.2.2.1 x.1 (i:Int):=by funext x;rw[AZ hk];rfl
    rw[e]at hS
    rw[←hS]at hf ⊢
    rw[ay (x:=(i:Int)+1) ω ω,ag i]
    exact aw (λ_=>ω) λ_=>br (sE 6000000 nw.w.s ω _ _) (br (cP 6000000 ω q2.1 q2.2) (br (Kq 6000000 ω (hf.mono ω) ((Fit.i64 q2.1 q2.2).mono ω)) (bp (λh=>absurd (by rw[Int.sub_self];rfl) h) λ_=>eM)))
  ·exact aw (λ_=>ω) λ_=>ak rfl
 obtain⟨r,e,hr⟩:=key
 exact⟨6000000,by rw[e,hr]⟩
end Pure
end VM
end
