/- A part of the proof of WindTwice of layer 21: what the functions compute, in plain words. -/
import Derived.Test.YtecmobijochjkaaGreatPlain8
import Derived.Test.YtecmobijochjkaaGreatPlain3
set_option linter.all false
section
namespace VM
open Go VM.F
def StN(c:ae)(n:Nat)(s:aQ):Prop:=GS (200+n) s∧nU c (200+n) s
theorem nU.mono{c:ae}{m n:Nat}{s:aQ}(h:nU c m s)(hn:m≤n):nU c n s:=⟨h.1,⟨h.2.1.1,fG h.2.1.2 ω⟩,h.2.2⟩
theorem StN.mono{c:ae}{m n:Nat}{s:aQ}(h:StN c m s)(hn:m≤n):StN c n s:=⟨G.mono ω h.1,h.2.mono ω⟩
def Yn(c:ae)(n:Nat)(t:cE):Prop:= ∃(s:aQ) (a:Nat),t=(c,(s,((a:Int),())))∧a≤n∧StN c a s
theorem Yn.mono{c:ae}{m n:Nat}{t:cE}(h:Yn c m t)(hn:m≤n):Yn c n t:=by
 obtain⟨s,a,e,h1,h2⟩:=h
 exact⟨s,a,e,cm h1 hn,h2⟩
theorem agn(N:Nat)(hN:5000000≤N){c:ae}(hc:G 5 aA c){t:cE}{l:cS}{m:Nat}(hm:m≤700)(hl:vi m l)(ht:Yn c l.length t):Ok (λr=>StN c l.length r.1∧Yn c l.length r.2.1∧r.2.2=l) (qg N t l):=by
 obtain⟨s,a,rfl,h1,h2⟩:=ht
 have G4:=hl.1
 unfold qg qg.b
 generalize ((0:Int),((0:Int),_))=S0
 refine iy (len:=l.length) (F:=λn i (s:aQ)=>qg.l1 N n (c,(s,(i,()))) l S0) (λi s=>StN c i s) (λn i s hi hI hr=> ?_) (λn s hI=> ?_) l.length N a s ω ω h1 h2
 all_goals unfold qg.l1 qg.l1b
 ·dsimp only
  rw[ax (x:=(i:Int)+1) ω ω,ag i]
  have hx:G 0 kX (l.getD (i:Int).toNat zz8):=G.at hl _
  exact aw (λ_=>aB ⟨ω,ω⟩ (af (Ok.and (SH N hN ω ω hc hI.1 hx) (SS N hN ω ω hc hI.1 hI.2 hx)) λr ⟨yP,yG⟩=>hr r.1 ⟨yP,yG⟩)) λ_=>ω
 ·exact aw (λ_=>by dsimp only at*;omega) λ_=>an ⟨hI,⟨s,l.length,rfl,Nat.le_refl _,hI⟩,rfl⟩
abbrev RoQ(c:ae)(p k:Nat)(r:cS×aM×cE):Prop:=vi (p+70) r.1∧Dk (k+400) r.2.1∧Yn c r.1.length r.2.2
theorem aiv{q:Int}(h:qIn q):W .u64 q=q∧q≠0:=by
 unfold qIn at h
 exact⟨ec ω ω,ω⟩
theorem vi.snoc{p:Nat}{l:cS}{x:gP}(h:vi p l)(hx:G 0 kX x):vi (p+1) (l++[x]):=G.cat h (G.one hx (aG 1))
theorem AX{α:Type}(l:List α)(x:α):(l++[x]).length=l.length+1:=by rw[aS,aI]
theorem Yo(N:Nat)(hN:5000000≤N){c:ae}(hq:Cq c){d:aM}{t:cE}{l:cS}{p k:Nat}(hp:p≤600)(hk:k≤20000)(hl:vi p l)(hd:Dk k d)(ht:Yn c l.length t):Ok (RoQ c p k) (dZ N d t l):=by
 have hc:=hq.1.1
 have UX:=hq.f.1
 have i16:aE 16:=bm
 have i17:aE 17:=bm
 have i18:aE 18:=bm
 have i19:aE 19:=bm
 have i10:aE 10:=bm
 have i20:aE 20:=bm
 have i2:aE 2:=bm
 have z:=bJ
 have G4:=hl.1
 have DE: ∀(d:aM) (t:cE) (l:cS),vi (p+5) l→Dk (k+20) d→Yn c l.length t→Ok (RoQ c p k) (dZ.HN N d t l):=λd t l hl hd ht=>by
  have G4:=hl.1
  unfold dZ.HN dZ.BO
  have Qi:=vi.snoc hl (rV (m:=0) i18 z z z z z z z)
  refine aC (by rw[aI];omega) (af (agn N hN hc ω Qi (ht.mono (by rw[AX];omega))) λr ⟨hs,ht,he⟩=> ?_)
  rw[he]
  generalize l++[((18:Int),Lo)]=l at*
  have h12:=hs.2.2.2.2
  have hL:=hs.1.2.2.2.1.2.2.2.2.2.1
  generalize r.1=s at*
  refine bg (len:=s.2.2.2.1.2.2.2.2.2.1.length) (F:=λn i (y:aM×cS)=>dZ.nT N n y.1 r.2.1 y.2 s i) (s:=(_,_)) (λi y=>Dk (k+20+10*i) y.1∧vi (p+6+4*i) y.2∧l.length≤y.2.length) ⟨hd,Qi,aG _⟩ ω (λn i y hi hI hr=> ?_) (λn y hI=> ?_)
  all_goals obtain⟨hd,hl,hle⟩:=hI
  all_goals unfold dZ.nT dZ.mP
  ·refine aw (λ_=>aB ⟨ω,ω⟩ ?_) λ_=>ω
   have hx:G 900 jk (s.2.2.2.1.2.2.2.2.2.1.getD (i:Int).toNat ((0:Int),(ck,aV))):=G.mono (by have:=Qi.1;omega) (G.at hL _)
   generalize s.2.2.2.1.2.2.2.2.2.1.getD (i:Int).toNat ((0:Int),(ck,aV))=x at*
   refine iy (len:=5) (F:=λn' j (w:aM×cS)=>dZ.DZ N (dZ.nT N n) n' w.1 r.2.1 w.2 s (i:Int) x j) (λj w=>1≤j∧Dk (k+20+10*i+2*(j-1)) w.1∧vi (p+6+4*i+(j-1)) w.2∧l.length≤w.2.length) (λn' j w hj hJ eO=> ?_) (λn' w hJ=> ?_) 5 N 1 y ω ω ω ⟨aG 1,hd,hl,hle⟩
   all_goals obtain⟨hj1,hd,hl,hle⟩:=hJ
   all_goals unfold dZ.DZ dZ.Dv
   ·have hwl:=hl.1
    rw[ax (x:=(j:Int)+1) ω ω,ag j]
    refine eg (λ_=>af (pL N δ hd (by unfold kz;omega)) λa hd=>bt (λ_=>af (iO N δ hd (by unfold kz;omega)) λv ⟨_,hd⟩=>aC (by rw[List.length_singleton];omega) (eO (_,_) ⟨ω,Dk.mono hd ω,G.mono ω (vi.snoc hl (rV i19 (iM ω ω) z z z hx.1 z (AP (Xx (fT _) (by unfold aE;decide)) (by unfold aE;decide)))),by dsimp only;rw[AX];omega⟩)) λ_=>eO (_,_) ⟨ω,Dk.mono hd ω,G.mono ω hl,hle⟩) λ_=>ω
   ·rw[ax (x:=(i:Int)+1) ω ω,ag i]
    exact eg (λ_=>ω) λ_=>hr w ⟨Dk.mono hd ω,G.mono ω hl,hle⟩
  ·have Ww:=hl.1
   obtain⟨s',a,e,vB,Vg⟩:=ht
   refine aw (λ_=>ω) λ_=>af (tJ N ω hd (c:=r.2.1.1) (by rw[e];exact UX) ω) λn1 ⟨Qh,hd⟩=> ?_
   have aiw:=Qh.1
   have h5:=G.cat hl Qh
   have h5l:=h5.1
   have h6:=G.cat h5 (G.two (m:=2) (rV (m:=0) i10 z z z z z i2 z) (rV i20 z z z z z z z) (aG 2))
   exact aC ω (aC (by simp only[List.length_append,List.length_cons,List.length_nil];omega) (an ⟨G.mono ω h6,Dk.mono hd ω,⟨s',a,e,by dsimp only;rw[List.length_append,List.length_append];omega,Vg⟩⟩))
 unfold dZ dZ.b
 refine af (pL N δ hd (by unfold kz;omega)) λa hd=>pf (λ_=> ?_) λ_=>DE _ _ _ (G.mono ω hl) (Dk.mono hd ω) ht
 have Qi:=vi.snoc hl (rV (m:=0) i16 z z z z z z z)
 refine aC (by rw[aI];omega) (af (agn N hN hc ω Qi (ht.mono (by rw[AX];omega))) λr ⟨hs,ht,he⟩=> ?_)
 rw[he]
 generalize l++[((16:Int),Lo)]=l at*
 obtain⟨h4,hg⟩:=hs.2.2.2.1
 have hH:=hs.1.2.2.2.1.2.2.2.2.1
 have hP:=hs.1.2.2.1.2.2.2.2.1
 have hpn:(r.1.2.2.1.2.2.2.2.1.length:Int)=c.1.length:=hs.2.1.n
 generalize r.1=s at*
 refine bg (len:=s.2.2.2.1.2.2.2.2.1.length) (F:=λn i (y:aM×cS)=>dZ.l5 N n y.1 r.2.1 y.2 s i) (s:=(_,_)) (λi y=>Dk (k+1+4*i) y.1∧vi (p+1+i) y.2∧l.length≤y.2.length) ⟨hd,Qi,aG _⟩ ω (λn i y hi hI hr=> ?_) (λn y hI=> ?_)
 all_goals obtain⟨hd,hl,hle⟩:=hI
 all_goals unfold dZ.l5 dZ.ei
 ·have Ww:=hl.1
  have hx:=hg _ (rG (d:=aV) hi)
  have hx6:G (200+l.length) eB (s.2.2.2.1.2.2.2.2.1.getD i aV):=hH.2 _ (rG hi)
  have hu:=aiv hx.2
  rw[ax (x:=(i:Int)+1) ω ω,ag i,aJ]
  dsimp only
  generalize s.2.2.2.1.2.2.2.2.1.getD i aV=x at*
  refine aw (λ_=>aB ⟨ω,ω⟩ (af (pL N δ hd (by unfold kz;omega)) λa hd=>pf (λ_=>af (iO N δ hd (by unfold kz;omega)) λv ⟨_,hd⟩=>af (D6 N (by unfold kz;omega) hd) λw ⟨_,hd⟩=>ok_eq (λe=>absurd (hu.1.symm.trans e) hu.2) λ_=>aB ?_ (aC (by rw[List.length_singleton];omega) (hr (_,_) ⟨Dk.mono hd ω,vi.snoc hl (rV i17 z (fT _) z z hx6.1 (fT _) (G.at hP _)),by dsimp only;rw[AX];omega⟩))) λ_=>hr (_,_) ⟨Dk.mono hd ω,G.mono ω hl,hle⟩)) λ_=>ω
  have h1:=hx.1
  have g: ∀v:Int,(0≤v∧v<(c.1.length:Int))→0≤v∧v<(s.2.2.1.2.2.2.2.1.length:Int):=λv h=>ω
  exact g _ h1
 ·exact aw (λ_=>ω) λ_=>DE _ _ _ (G.mono ω hl) (Dk.mono hd ω) (ht.mono hle)
theorem UY(N:Nat)(hN:5000000≤N){c:ae}(hq:Cq c){d:aM}{t:cE}{L:cS}{k j:Nat}(hk:k≤10000)(hj:j≤2)(hl:vi 220 L)(hd:Dk k d)(ht:Yn c L.length t):Ok (λr=>vi 400 r.1∧Dk (k+1500) r.2) (jm.DZ N N d c t L (j:Int)):=by
 obtain⟨UX,nR⟩:=hq.f
 have i21:aE 21:=bm
 have z:=bJ
 refine xF (F:=λn x (s:aM×cE×cS)=>jm.DZ N n s.1 c s.2.1 s.2.2 x) (λx s=>x≤2∧Dk (k+400*(2-x)) s.1∧vi (220+70*(2-x)) s.2.2∧Yn c s.2.2.length s.2.1) (λn x s hI hr=> ?_) (λn s hI=> ?_) j N (d,(t,L)) ω ⟨hj,Dk.mono hd ω,G.mono ω hl,ht⟩
 all_goals obtain⟨hx,hd,hl,ht⟩:=hI
 all_goals unfold jm.DZ jm.Dv
 ·rw[KN ω]
  exact aw (λ_=>af (Yo N hN hq ω ω hl hd ht) λr ⟨h1,h2,h3⟩=>hr (r.2.1,(r.2.2,r.1)) ⟨ω,Dk.mono h2 ω,G.mono ω h1,h3⟩) λ_=>ω
 ·have Qi:=hl.1
  refine aw (λ_=>ω) λ_=>af (pL N δ hd (by unfold kz;omega)) λa hd=>bt (λ_=>aC (by rw[aI];omega) (af (tJ N ω hd UX ω) λn1 ⟨Qh,hd⟩=> ?_)) λ_=>af (tJ N ω hd UX ω) λn1 ⟨Qh,hd⟩=> ?_
  ·have h2:=G.cat (vi.snoc hl (rV (m:=0) i21 z z z z z z z)) Qh
   have h2l:=h2.1
   have aiw:=Qh.1
   exact aC (by simp only[aS,aR,bU];omega) (an ⟨G.mono ω h2,Dk.mono hd ω⟩)
  ·have h2:=G.cat hl Qh
   have aiw:=Qh.1
   exact aC ω (an ⟨G.mono ω h2,Dk.mono hd ω⟩)
theorem UZ(N:Nat)(hN:5000000≤N){c:ae}(hq:Cq c){d:aM}{k:Nat}(hk:k≤5000)(hd:Dk k d){w5:Int}(hm:0≤w5∧w5≤100):Ok (λr=>vi 400 r.1∧Dk (k+6000) r.2) (jm N d c w5):=by
 obtain⟨UX,nR⟩:=hq.f
 have i10:aE 10:=bm
 have i11:aE 11:=bm
 have i13:aE 13:=bm
 have i14:aE 14:=bm
 have i15:aE 15:=bm
 have i21:aE 21:=bm
 have z:=bJ
 unfold jm jm.b
 refine af (Od N ω hq nR) λs ⟨⟨Lp,TL⟩,_⟩=>af (Jc N ω hd UX hm ω) λl ⟨hl,hd⟩=>af (iO N δ hd (by unfold kz;omega)) λv ⟨_,hd⟩=> ?_
 have ht:Yn c 0 (c,(s.1,((0:Int),()))):=⟨s.1,0,rfl,aG 0,G.mono ω Lp,TL.mono ω⟩
 generalize s.1=S at*
 dsimp only
 have G4:=hl.1
 have h1:=vi.snoc hl (rV (m:=0) i11 (fT (1+v.1)) z z z z z z)
 have h1l:=h1.1
 refine aC (by simp only[aS,aR,bU];omega) (af (tJ N ω hd UX ω) λn1 ⟨Qh,hd⟩=> ?_)
 have h2:=G.cat h1 Qh
 have h2l:=h2.1
 have aiw:=Qh.1
 refine aC (by simp only[aS,aR,bU];omega) (aC (by simp only[aS,aR,bU];omega) ?_)
 have h3:=vi.snoc h2 (rV (m:=0) i13 (fT (1+v.1)) z z z z z z)
 generalize hL:(l.1++[((11:Int),(W .i64 (1+v.1),fa))]++n1.1)++[((13:Int),(W .i64 (1+v.1),fa))]=L at h3
 refine iy (len:=8) (F:=λn i (y:aM×cS)=>jm.l9 N n y.1 c (c,(S,((0:Int),()))) y.2 i) (λi y=>5≤i∧Dk (k+3200+2*(i-5)) y.1∧vi (205+(i-5)) y.2) (λn i y hi hI hr=> ?_) (λn y hI=> ?_) 8 N 5 (_,L) ω ω ω ⟨aG 5,Dk.mono hd ω,G.mono ω h3⟩
 all_goals obtain⟨hi5,hd,hl⟩:=hI
 all_goals have Ww:=hl.1
 all_goals unfold jm.l9 jm.xy
 ·rw[ax (x:=(i:Int)+1) ω ω,ag i]
  exact eg (λ_=>af (pL N δ hd (by unfold kz;omega)) λa hd=>pf (λ_=>af (iO N δ hd (by unfold kz;omega)) λw ⟨_,hd⟩=>aC (by rw[aI];omega) (hr (_,_) ⟨ω,Dk.mono hd ω,G.mono ω (vi.snoc hl (rV i14 (fT _) (iM ω ω) z z z z z))⟩)) λ_=>hr (_,_) ⟨ω,Dk.mono hd ω,G.mono ω hl⟩) λ_=>ω
 ·refine eg (λ_=>ω) λ_=>af (tJ N ω hd UX ω) λn2 ⟨hn2,hd⟩=> ?_
  have h4:=G.cat hl hn2
  have h4l:=h4.1
  have azV:=hn2.1
  refine aC ω ?_
  dsimp only
  refine af (iO N δ hd (by unfold kz;omega)) λw ⟨_,hd⟩=> ?_
  have h5:=G.cat h4 (G.two (m:=2) (rV (m:=0) i10 z z z z z (fT (2+w.1)) z) (rV i15 z z z z z z z) (aG 2))
  have h5l:=h5.1
  refine aC (by simp only[aS,aR,bU];omega) (af (tJ N ω hd UX ω) λn3 ⟨hn3,hd⟩=> ?_)
  have h6:=G.cat h5 hn3
  have azW:=hn3.1
  refine aC (by simp only[aS,aR,bU];omega) (af (iO N δ hd (by unfold kz;omega)) λu ⟨hu,hd⟩=> ?_)
  obtain⟨j,hj⟩: ∃j:Nat,u.1=(j:Int):=⟨u.1.toNat,ω⟩
  rw[hj]
  have hLl:=h6.1
  exact KK (UY N hN hq ω ω (G.mono ω h6) hd (ht.mono (bo _))) λr hr=>⟨hr.1,Dk.mono hr.2 ω⟩
theorem U0(N:Nat)(hN:5000000≤N){c:ae}(hq:Cq c){d:aM}{k:Nat}(hk:k≤4000)(hd:Dk k d){w5:Int}(hm:0≤w5∧w5≤100):Ok (λr=>vi 400 r.1∧Dk (k+7000) r.2) (Gw N d c w5):=by
 obtain⟨UX,nR⟩:=hq.f
 unfold Gw Gw.b
 refine af (iO N δ hd (by unfold kz;omega)) λa ⟨_,hd⟩=>ok_eq (λ_=> ?_) λ_=>ok_eq (λ_=>af (Jc N ω hd UX hm ω) λl ⟨hl,hd⟩=>an ⟨G.mono ω hl,Dk.mono hd ω⟩) λ_=>af (UZ N hN hq ω hd hm) λl ⟨hl,hd⟩=>an ⟨hl,Dk.mono hd ω⟩
 rw[ax (x:=w5+1) ω ω]
 refine af (iO N ⟨ω,ω⟩ hd (by unfold kz;omega)) λu ⟨hu,hd⟩=> ?_
 obtain⟨j,hj⟩: ∃j:Nat,u.1=(j:Int):=⟨u.1.toNat,ω⟩
 rw[hj]
 refine xF (F:=λn x (s:aM×cS)=>Gw.l5 N n s.1 c s.2 x) (λx s=>x≤100∧Dk (k+10+25*(100-x)) s.1∧vi (100-x) s.2) (λn x s hI hr=> ?_) (λn s hI=> ?_) j N (u.2,[]) ω ⟨ω,Dk.mono hd ω,G.nil⟩
 all_goals obtain⟨hx,hd,hl⟩:=hI
 all_goals unfold Gw.l5 Gw.ei
 ·have hs:=hl.1
  rw[KN ω]
  exact aw (λ_=>af (Ga N hd UX ω) λr ⟨h1,h2⟩=>aC (by rw[aI];omega) (hr (_,_) ⟨ω,Dk.mono h2 ω,G.mono ω (vi.snoc hl h1)⟩)) λ_=>ω
 ·exact aw (λ_=>ω) λ_=>an ⟨G.mono ω hl,Dk.mono hd ω⟩
theorem Yp(N:Nat)(hN:5000000≤N){c:ae}(hq:Cq c){d:aM}(hd:Dk 1000 d){w5:Int}(hm:0≤w5∧w5≤100):Ok (λr=>(GS 900 r.1∧nU c 900 r.1)∧Dk 10000 r.2) (F18 N d c w5):=by
 obtain⟨UX,nR⟩:=hq.f
 unfold F18
 exact af (U0 N hN hq ω hd hm) λl ⟨hl,hd⟩=>af (aiu N hN ω hq nR hl) λr hr=>an ⟨hr,Dk.mono hd ω⟩
end VM
end
section
namespace VM
open Go VM.F
theorem Yq(N:Nat)(hN:4000000≤N){b:aq}{s e:au}(w:gE b)(hr:dO b.2.2.1=true)(hs:cz b.2.2.2.1=true)(lr:b.2.2.1.length≤90000)(ls:b.2.2.2.1.length≤90000)(qs:dy s)(lns:s.length≤100000)(qe:BA e)(lne:e.length≤100000):
  yd N b s (e.map gY)=some (dW b s e):=by
 unfold yd dW
 rw[FG N hN hs ls w.qs qs lns,Sk N hN hr lr w.qr qe lne]
 unfold vx
 rw[ar,ar]
 cases dP Fq (fS b.2.2.2.1 s) je with
 |none=>rfl
 |some s'=>
  cases dP aE (fS b.2.2.1 e) mG with
  |none=>rfl
  |some r'=>rfl
theorem Oe{b:aq}{s e e':au}(h: ∀k n,bP k n e=bP k n e'):dW b s e=dW b s e':=by
 have:fS b.2.2.1 e=fS b.2.2.1 e':=by funext k n;unfold fS;rw[h]
 unfold dW;rw[this]
def BY(id x:Int):au:=[((5:Int),(id,((-x:Int),()))),((2:Int),((0:Int),(x,())))]
def Of(id y:Int):au:=[((2:Int),((0:Int),((- -y:Int),()))),((5:Int),(id,((-y:Int),())))]
def xL(c:ae)(b:aq)(a:bO):Int:=if a.2.2.1=2 then(nz c b a.1).1 else 0
def rJ(b:aq)(a:bO):Int:=gF b.2.2.1 5 a.1
def vy(y:Int):Int:=if 0<y then 0 else y
def iP(b:aq)(m:Int):aK→au
 |[]=>[]
 |a::t=>if a.2.1=m then wU a.1 (posOf b.2.2.2.1 a.1)++iP b m t else iP b m t
def kY(c:ae)(b:aq)(m:Int):aK→au
 |[]=>[]
 |a::t=>if a.2.1=m then BY a.1 (xL c b a+vy (rJ b a))++kY c b m t else kY c b m t
def pT(c:ae)(b:aq)(m:Int):aK→au
 |[]=>[]
 |a::t=>if a.2.1=m then((if a.2.2.1=2 then BY a.1 (xL c b a)else [])++(if rJ b a<0 then Of a.1 (rJ b a)else []))++pT c b m t else pT c b m t
theorem oD(b:aq)(m:Int)(a:bO)(t:aK):iP b m (a::t)=if a.2.1=m then wU a.1 (posOf b.2.2.2.1 a.1)++iP b m t else iP b m t:=rfl
theorem rK(c:ae)(b:aq)(m:Int)(a:bO)(t:aK):kY c b m (a::t)=if a.2.1=m then BY a.1 (xL c b a+vy (rJ b a))++kY c b m t else kY c b m t:=rfl
theorem y5(c:ae)(b:aq)(m:Int)(a:bO)(t:aK):pT c b m (a::t)=if a.2.1=m then((if a.2.2.1=2 then BY a.1 (xL c b a)else [])++(if rJ b a<0 then Of a.1 (rJ b a)else []))++pT c b m t else pT c b m t:=rfl
theorem SU{c:ae}{b:aq}(w:gE b)(a:bO):(rJ b a≤0→xL c b a=0)∧(0<rJ b a→0≤xL c b a∧xL c b a≤rJ b a):=by
 have Hp:=uM (c:=c) (FM w.qs a.1)
 unfold xL rJ
 by_cases h:a.2.2.1=2
 ·rw[aj h]
  unfold nz
  generalize gF b.2.2.1 5 a.1=m at*
  generalize ox c (posOf b.2.2.2.1 a.1)=s at*
  have key:(m≤0→sE m s=0)∧(0<m→0≤sE m s∧sE m s≤m):=by
   unfold sE
   refine⟨λh=>aj h,λh=> ?_⟩
   rw[ah ω]
   split<;>omega
  split
  ·split
   ·exact key
   ·exact⟨λ_=>rfl,λh=>⟨fH _,by show(0:Int)≤m;omega⟩⟩
  ·exact⟨λ_=>rfl,λh=>⟨fH _,by show(0:Int)≤m;omega⟩⟩
 ·rw[ah h]
  exact⟨λ_=>rfl,λh=>⟨fH _,ω⟩⟩
theorem K7{b:aq}(w:gE b)(a:bO):aE (rJ b a):=AB w.qr 5 a.1
theorem BZ{c:ae}{b:aq}(w:gE b)(a:bO):aE (xL c b a+vy (rJ b a))∧aE (xL c b a):=by
 have h:=SU (c:=c) w a
 have hm:=K7 w a
 unfold vy aE at*
 by_cases h0:0<rJ b a
 ·rw[aj h0];have:=h.2 h0;omega
 ·rw[ah h0];have:=h.1 ω;omega
theorem K8(k n id x:Int):bP k n (BY id x)=(if 5=k∧id=n then-x else 0)+(if 2=k∧0=n then x else 0):=by
 unfold BY
 rw[eo,eo,kP]
 show(if 5=k∧id=n then-x else 0)+((if 2=k∧0=n then x else 0)+0)=_
 omega
theorem abq(k n id y:Int):bP k n (Of id y)=(if 2=k∧0=n then y else 0)+(if 5=k∧id=n then-y else 0):=by
 unfold Of
 rw[eo,eo,kP]
 show(if 2=k∧0=n then- -y else 0)+((if 5=k∧id=n then-y else 0)+0)=_
 rw[zD];omega
theorem Jv{c:ae}{b:aq}(w:gE b)(m k n:Int): ∀t:aK,bP k n (kY c b m t)=bP k n (pT c b m t)
 |[]=>rfl
 |a::t=>by
  have ih:=Jv (c:=c) w m k n t
  rw[rK,y5]
  by_cases h:a.2.1=m
  ·rw[aj h,aj h,kQ,kQ,kQ,ih,K8]
   congr 1
   have h1:bP k n (if a.2.2.1=2 then BY a.1 (xL c b a)else [])=(if 5=k∧a.1=n then-xL c b a else 0)+(if 2=k∧0=n then xL c b a else 0):=by
    by_cases h2:a.2.2.1=2
    ·rw[aj h2,K8]
    ·have e:xL c b a=0:=by unfold xL;exact ah h2
     rw[ah h2,kP,e];split<;>split<;>rfl
   have h2:bP k n (if rJ b a<0 then Of a.1 (rJ b a)else [])=(if 5=k∧a.1=n then-vy (rJ b a)else 0)+(if 2=k∧0=n then vy (rJ b a)else 0):=by
    unfold vy
    by_cases h3:rJ b a<0
    ·rw[aj h3,abq,ah (show ¬0<rJ b a by omega),ED]
    ·rw[ah h3,kP]
     have e:(if 0<rJ b a then 0 else rJ b a)=0:=by split<;>omega
     rw[e];split<;>split<;>rfl
   rw[h1,h2]
   generalize xL c b a=x
   generalize vy (rJ b a)=y
   by_cases hP:5=k∧a.1=n
   ·rw[aj hP,aj hP,aj hP]
    by_cases hQ:2=k∧0=n
    ·rw[aj hQ,aj hQ,aj hQ];omega
    ·rw[ah hQ,ah hQ,ah hQ];omega
   ·rw[ah hP,ah hP,ah hP]
    by_cases hQ:2=k∧0=n
    ·rw[aj hQ,aj hQ,aj hQ];omega
    ·rw[ah hQ,ah hQ,ah hQ];omega
  ·rw[ah h,ah h];exact ih
theorem uX{a:aK}(h:fA a=true):a.length≤24∧ ∀x∈a,1≤x.1∧x.1≤24:=by
 unfold fA at h
 rw[fF]at h
 have h':=bx h
 have rng: ∀i,i<a.length→1≤(a.getD i aV).1∧(a.getD i aV).1≤24:=λi hi=>(h' i hi).1.1
 have inc: ∀i,i<a.length→(i:Int)+1≤(a.getD i aV).1:=by
  intro i
  induction i with
  |zero=>intro hi;exact(rng 0 hi).1
  |succ i ih=>
   intro hi
   have p:=ih ω
   have q:=(h' (i+1) hi).2.1 ω
   rw[Nat.add_sub_cancel]at q
   have g: ∀x y:Int,(i:Int)+1≤x→x<y→((i+1:Nat):Int)+1≤y:=λx y _ _=>ω
   exact g _ _ p q
 refine⟨?_,λx hx=> ?_⟩
 ·by_cases h0:a.length=0
  ·omega
  ·have p:=inc (a.length-1) ω
   have q:=(rng (a.length-1) ω).2
   have g: ∀x:Int,((a.length-1:Nat):Int)+1≤x→x≤24→a.length≤24:=λx _ _=>ω
   exact g _ p q
 ·obtain⟨i,hi,e⟩:=gh hx
  have:=rng i hi
  rw[aU,bn hi]at this
  rw[←e];exact this
theorem Og{a:Int}{x:db}: ∀{t:aD},x∈wU a t→ ∃y∈t,x=(a,(y.1,((0-y.2.1:Int),())))∨x=((0:Int),(y.1,(y.2.1,())))
 |[],hx=>nomatch hx
 |y::t,hx=>by
  rw[qq]at hx
  rcases aW.1 hx with e|hx
  ·exact⟨y,bk ..,Or.inl e⟩
  ·rcases aW.1 hx with e|hx
   ·exact⟨y,bk ..,Or.inr e⟩
   ·obtain⟨y',hy,e⟩:=Og hx
    exact⟨y',aZ _ hy,e⟩
theorem Jw(a i:Int): ∀t:aD,(c6 i (wU a t)).sum=0
 |[]=>rfl
 |y::t=>by
  have ih:=Jw a i t
  rw[qq,dg,dg]
  dsimp only
  by_cases e:y.1=i
  ·rw[aj e,aj e,cy,cy,ih]
   have g: ∀v:Int,0-v+(v+0)=0:=λv=>ω
   exact g y.2.1
  ·rw[ah e,ah e];exact ih
theorem Jx(b:aq)(hg: ∀a,FI (posOf b.2.2.2.1 a))(m:Int): ∀t:aK,(iP b m t).length≤12*t.length
 |[]=>aG _
 |a::t=>by
  have ih:=Jx b hg m t
  have:=(hg a.1).len
  rw[oD,aR]
  split
  ·rw[aS,wV];omega
  ·omega
theorem B0{b:aq}{m:Int}{x:db}: ∀{t:aK},x∈iP b m t→ ∃a∈t,x∈wU a.1 (posOf b.2.2.2.1 a.1)
 |[],h=>nomatch h
 |a::t,h=>by
  rw[oD]at h
  by_cases e:a.2.1=m
  ·rw[aj e]at h
   rcases bb.1 h with h|h
   ·exact⟨a,bk ..,h⟩
   ·obtain⟨a',ha,h'⟩:=B0 h
    exact⟨a',aZ _ ha,h'⟩
  ·rw[ah e]at h
   obtain⟨a',ha,h'⟩:=B0 h
   exact⟨a',aZ _ ha,h'⟩
theorem Gx(b:aq)(m i:Int): ∀t:aK,(c6 i (iP b m t)).sum=0
 |[]=>rfl
 |a::t=>by
  have ih:=Gx b m i t
  rw[oD]
  split
  ·rw[yv,lR,Jw,ih];rfl
  ·exact ih
theorem Gy{b:aq}(m:Int)(hk:cz b.2.2.2.1=true)(hq:dy b.2.2.2.1)(ha:fA b.2.1=true):WR (iP b m b.2.1):=by
 have hg:=λa=>AE hk hq a
 obtain⟨h24,bf⟩:=uX ha
 have lU: ∀p q:Int,1≤p→p≤24→CH q→bD p q∧bD 0 q:=λp q h1 h2 h3=>by unfold CH at h3;unfold bD;omega
 have key: ∀x∈iP b m b.2.1,bD x.1 x.2.1∧aE (dU x)∧p5 (dU x):=λx hx=>by
  obtain⟨a,ha,hx⟩:=B0 hx
  obtain⟨y,hy,e|e⟩:=Og hx
  ·rw[e];exact⟨(lU _ _ (bf a ha).1 (bf a ha).2 ((hg a.1).inst y hy)).1,Ub ((hg a.1).q y hy)⟩
  ·rw[e];exact⟨(lU _ _ (bf a ha).1 (bf a ha).2 ((hg a.1).inst y hy)).2,(hg a.1).q y hy⟩
 exact⟨λx hx=>(key x hx).1,λx hx=>(key x hx).2,by have:=Jx b hg m b.2.1;omega,λi=>Gx b m i b.2.1⟩
theorem xM{c:ae}{b:aq}{m:Int}{x:db}: ∀{t:aK},x∈kY c b m t→ ∃a∈t,x∈BY a.1 (xL c b a+vy (rJ b a))
 |[],h=>nomatch h
 |a::t,h=>by
  rw[rK]at h
  by_cases e:a.2.1=m
  ·rw[aj e]at h
   rcases bb.1 h with h|h
   ·exact⟨a,bk ..,h⟩
   ·obtain⟨a',ha,h'⟩:=xM h
    exact⟨a',aZ _ ha,h'⟩
  ·rw[ah e]at h
   obtain⟨a',ha,h'⟩:=xM h
   exact⟨a',aZ _ ha,h'⟩
theorem Jy(c:ae)(b:aq)(m:Int): ∀t:aK,(kY c b m t).length≤2*t.length∧((kY c b m t).map dU).sum=0
 |[]=>⟨aG _,rfl⟩
 |a::t=>by
  have ih:=Jy c b m t
  rw[rK,aR]
  split
  ·refine⟨?_,?_⟩
   ·rw[aS,show(BY a.1 (xL c b a+vy (rJ b a))).length=2 from rfl];omega
   ·rw[cY,lR,ih.2]
    show-(xL c b a+vy (rJ b a))+((xL c b a+vy (rJ b a))+0)+0=0
    omega
  ·exact⟨ω,ih.2⟩
theorem Q9{x:Int}(h:aE x):dn (-x):=by unfold aE at h;unfold dn;omega
theorem Gz{c:ae}{b:aq}(w:gE b)(m:Int)(ha:fA b.2.1=true):WX (kY c b m b.2.1):=by
 obtain⟨h24,bf⟩:=uX ha
 have hl:=Jy c b m b.2.1
 have Tz: ∀p:Int,1≤p→p≤24→cQ 5 p:=λp h1 h2=>by unfold cQ;omega
 refine⟨λx hx=> ?_,λx hx=> ?_,ω,hl.2⟩
 ·obtain⟨a,ha,hx⟩:=xM hx
  rcases aW.1 hx with e|hx
  ·rw[e];exact Tz _ (bf a ha).1 (bf a ha).2
  ·rw[bW.1 hx];show cQ 2 0;decide
 ·obtain⟨a,ha,hx⟩:=xM hx
  rcases aW.1 hx with e|hx
  ·rw[e];exact Q9 (BZ w a).1
  ·rw[bW.1 hx];exact ri (BZ w a).1
theorem Jz{c:ae}{b:aq}(w:gE b)(m:Int): ∀t:aK,(pT c b m t).length≤4*t.length∧BA (pT c b m t)
 |[]=>⟨aG _,λx hx=>nomatch hx⟩
 |a::t=>by
  have ih:=Jz (c:=c) w m t
  rw[y5,aR]
  by_cases h:a.2.1=m
  ·rw[aj h]
   have l1:(if a.2.2.1=2 then BY a.1 (xL c b a)else []).length≤2:=by
    split
    ·exact aG 2
    ·exact bo _
   have l2:(if rJ b a<0 then Of a.1 (rJ b a)else []).length≤2:=by
    split
    ·exact aG 2
    ·exact bo _
   refine⟨by rw[aS,aS];omega,λx hx=> ?_⟩
   rcases bb.1 hx with hx|hx
   ·rcases bb.1 hx with hx|hx
    ·split at hx
     ·rcases aW.1 hx with e|hx
      ·rw[e];exact Q9 (BZ w a).2
      ·rw[bW.1 hx];exact ri (BZ (c:=c) w a).2
     ·nomatch hx
    ·split at hx
     ·rcases aW.1 hx with e|hx
      ·rw[e];show dn (- -rJ b a);rw[zD];exact ri (K7 w a)
      ·rw[bW.1 hx];exact Q9 (K7 w a)
     ·nomatch hx
   ·exact ih.2 x hx
  ·rw[ah h];exact⟨ω,ih.2⟩
end VM
end
section
namespace VM
open Go VM.F
theorem CY{c:ae}{b:aq}(h:dz c b=true):fA b.2.1=true:=by
 unfold dz at h
 have h1:=(cO.1 (cO.1 h).2).1
 unfold pE at h1
 exact(cO.1 (cO.1 h1).2).1
def gq(c:ae)(b:aq)(m:Int):aq×Int:=
 if dz c b then(if eA b.1 m=0 then((ck,(c9,(bH,(bH,(dC,(dT,())))))),3)else dW b (iP b m b.2.1) (kY c b m b.2.1))else((ck,(c9,(bH,(bH,(dC,(dT,())))))),1)
theorem D9(N:Nat)(hN:4000000≤N)(c:ae){b:aq}(w:AA b)(m:Int):sO N c b m=some (gq c b m):=by
 unfold sO sO.b gq
 rw[Sc N hN w.w,ar,Bx N w.w.m ω,ar,cond_not,aN]
 by_cases hB:dz c b=false
 ·rw[hB];rfl
 rw[Et]at hB
 rw[hB,ak,aj rfl]
 by_cases hS:eA b.1 m=0
 ·rw[aj hS,aj hS]
 rw[ah hS,ah hS]
 obtain⟨hr,hs⟩:=dH hB
 have ha:=CY hB
 obtain⟨h24,bf⟩:=uX ha
 have gs:=Gy m hs w.w.qs ha
 have ge:=Gz (c:=c) w.w m ha
 have hls:=gs.len
 have hle:=ge.len
 have:=og b.2.1 aV (λn i (z:au×au)=>sO.l8 N n m c b (ck,(c9,(bH,(bH,(dC,(dT,())))))) z.1 (z.2.map jT) b.2.1 (b.2.1.length:Int) i) (λt z=>some (dW b (iP b m b.2.1) (kY c b m b.2.1)))
  (λi z=>z.1++iP b m (b.2.1.drop i)=iP b m b.2.1∧z.2++kY c b m (b.2.1.drop i)=kY c b m b.2.1)
  (λn i z hi hI wI=> ?_) (λn z hI=> ?_) b.2.1.length N 0 ([],[]) ω ω ω ⟨rfl,rfl⟩
 ·exact this
 ·unfold sO.l8 sO.yc sO.Vp sO.NM
  obtain⟨i1,i2⟩:=hI
  have z1:z.1.length≤400:=by rw[←i1,aS]at hls;omega
  have z2:z.2.length≤400:=by rw[←i2,aS]at hle;omega
  have hm:b.2.1.getD i aV∈b.2.1:=by
   rw[aU,bn hi];exact dB hi
  rw[drop_cons hi aV,oD]at i1
  rw[drop_cons hi aV,rK]at i2
  have hai:=bf _ hm
  rw[aJ]
  generalize b.2.1.getD i aV=a at*
  have hx:=(BZ (c:=c) w.w a).1
  have oY:=hx
  unfold aE at oY
  have Ho:=(AE hs w.w.qs a.1).len
  rw[aT ω,ak,aX ω ω,ak,ax (x:=(i:Int)+1) ω ω,ag i,cond_not,aN]
  by_cases h1:a.2.1=m
  ·rw[aj h1]at i1 i2
   have fin: ∀k:Int,k=xL c b a→((BE N b.2.2.1 5 a.1).bind λr7=>(Vn N (W .i64 (k+(mn r7 0)))).bind λkB=>(F66 N kB).bind λnV=>(CJ N b.2.2.2.1 a.1 (0:Int)).bind λoR=>cond (small (List.length z.1+List.length oR)) (cond (small (List.length (z.2.map jT)+List.length ([((5:Int),(a.1,(nV.1,()))),((2:Int),((0:Int),(kB,())))]))) (sO.l8 N n m c b (ck,(c9,(bH,(bH,(dC,(dT,())))))) (z.1++oR) (z.2.map jT++([((5:Int),(a.1,(nV.1,()))),((2:Int),((0:Int),(kB,())))])) b.2.1 (b.2.1.length:Int) ((i+1:Nat):Int)) (none)) (none))=some (dW b (iP b m b.2.1) (kY c b m b.2.1)):=λk hk=>by
    subst hk
    have e:W .i64 (xL c b a+mn (gF b.2.2.1 5 a.1) 0)=xL c b a+vy (rJ b a):=by
     have:mn (gF b.2.2.1 5 a.1) 0=vy (rJ b a):=by rw[Rx];rfl
     rw[this,ax oY.1 oY.2]
    rw[Sm N w.w.r ω,ar,e,wH N oY.1 oY.2,ar,aaz N hx,ar,ah9 N ω w.w.s hs w.w.qs hai.1 hai.2,ar,bL (by rw[wV];omega),ak,bL (by rw[cv,aR,aI];omega),ak]
    have:=wI (z.1++wU a.1 (posOf b.2.2.2.1 a.1),z.2++BY a.1 (xL c b a+vy (rJ b a))) ⟨by rw[←i1,br],by rw[←i2,br]⟩
    rw[cY]at this
    exact this
   rw[aj h1,aN]
   by_cases h2:a.2.2.1=2
   ·rw[aj h2,IQ N hN c w.w,ar]
    exact fin _ (by unfold xL;rw[aj h2])
   ·rw[ah h2]
    exact fin 0 (by unfold xL;rw[ah h2])
  ·rw[ah h1]at i1 i2
   rw[ah h1]
   exact wI z ⟨i1,i2⟩
 ·unfold sO.l8 sO.yc
  obtain⟨i1,i2⟩:=hI
  rw[mX]at i1 i2
  have e1:z.1=iP b m b.2.1:=by rw[←i1];exact(ch _).symm
  have e2:z.2=kY c b m b.2.1:=by rw[←i2];exact(ch _).symm
  rw[aP ω,av,e1,e2,W1 N ω w.w hr hs w.r w.s gs ge,ar]
theorem Yr(N:Nat)(hN:5000000≤N)(c:ae){b:aq}(w:AA b)(m:Int):mU N c b m=some (gq c b m):=by
 unfold mU mU.b gq HO
 rw[Ao N hN w.w,ar,oi N w.w.m ω,ar,ar,cond_not,aN]
 by_cases hB:dz c b=false
 ·rw[hB];rfl
 rw[Et]at hB
 rw[hB,ak,aj rfl]
 by_cases hS:eA b.1 m=0
 ·rw[aj hS,aj hS]
 rw[ah hS,ah hS]
 obtain⟨hr,hs⟩:=dH hB
 have ha:=CY hB
 obtain⟨h24,bf⟩:=uX ha
 have gs:=Gy m hs w.w.qs ha
 have gp:=Jz (c:=c) w.w m b.2.1
 have hls:=gs.len
 have IF:(pT c b m b.2.1).length≤400:=ω
 rw[Oe (Jv w.w m · · b.2.1)]
 have:=og b.2.1 aV (λn i (z:au×au)=>mU.l8 N n m c b (ck,(c9,(bH,(bH,(dC,(dT,())))))) z.1 (z.2.map gY) i) (λt z=>some (dW b (iP b m b.2.1) (pT c b m b.2.1)))
  (λi z=>z.1++iP b m (b.2.1.drop i)=iP b m b.2.1∧z.2++pT c b m (b.2.1.drop i)=pT c b m b.2.1)
  (λn i z hi hI wI=> ?_) (λn z hI=> ?_) b.2.1.length N 0 ([],[]) ω ω ω ⟨rfl,rfl⟩
 ·exact this
 ·unfold mU.l8 mU.yc mU.A8 mU.uT
  obtain⟨i1,i2⟩:=hI
  have z1:z.1.length≤400:=by rw[←i1,aS]at hls;omega
  have z2:z.2.length≤400:=by rw[←i2,aS]at IF;omega
  have hm:b.2.1.getD i aV∈b.2.1:=by
   rw[aU,bn hi];exact dB hi
  rw[drop_cons hi aV,oD]at i1
  rw[drop_cons hi aV,y5]at i2
  have hai:=bf _ hm
  rw[aJ]
  generalize b.2.1.getD i aV=a at*
  have hx:=(BZ (c:=c) w.w a).2
  have oY:=hx
  unfold aE at oY
  have XQ:=K7 w.w a
  have Ys:=XQ
  unfold aE at Ys
  have Ho:=(AE hs w.w.qs a.1).len
  rw[aT ω,ak,aX ω ω,ak,ax (x:=(i:Int)+1) ω ω,ag i,cond_not,aN]
  by_cases h1:a.2.1=m
  ·rw[aj h1]at i1 i2
   have fin: ∀q:au,q.length≤1000→q++((if rJ b a<0 then Of a.1 (rJ b a)else [])++pT c b m (b.2.1.drop (i+1)))=pT c b m b.2.1→((HH N b a.1).bind λkB=>cond (aY kB 0) ((jV N kB).bind λnV=>(TQ N nV).bind λoR=>(ye N (2:Int) (0:Int) (5:Int) a.1 oR).bind λqw=>cond (small (List.length (q.map gY)+List.length qw)) ((iR N b.2.2.2.1 a.1 (0:Int)).bind λw8=>cond (small (List.length z.1+List.length w8)) (mU.l8 N n m c b (ck,(c9,(bH,(bH,(dC,(dT,())))))) (z.1++w8) (q.map gY++qw) ((i+1:Nat):Int)) (none)) (none)) ((iR N b.2.2.2.1 a.1 (0:Int)).bind λvj=>cond (small (List.length z.1+List.length vj)) (mU.l8 N n m c b (ck,(c9,(bH,(bH,(dC,(dT,())))))) (z.1++vj) (q.map gY) ((i+1:Nat):Int)) (none)))=some (dW b (iP b m b.2.1) (pT c b m b.2.1)):=λq hq Bl=>by
    have fq:=Fit.i64 Ys.1 Ys.2
    rw[IS N w.w ω,ar,show gF b.2.2.1 5 a.1=rJ b a from rfl,c5 N ω Ys.1 Ys.2,ar,jy N ω (fq.mono ω),ar,aaD N ω w.w.s hs w.w.qs hai.1 hai.2,ar,cP]
    unfold ye
    rw[jy N ω ((Fit.neg fq).mono ω),ar,ar,bL (n:=z.1.length+_) (by rw[wV];omega),ak,bL (by rw[cv,aR,aI];omega),ak,ar,bL (n:=z.1.length+_) (by rw[wV];omega),ak]
    by_cases h3:rJ b a<0
    ·rw[aj h3]at Bl ⊢
     have:=wI (z.1++wU a.1 (posOf b.2.2.2.1 a.1),q++Of a.1 (rJ b a)) ⟨by rw[←i1,br],by rw[←Bl,br]⟩
     rw[cY]at this
     exact this
    ·rw[ah h3]at Bl ⊢
     exact wI (z.1++wU a.1 (posOf b.2.2.2.1 a.1),q) ⟨by rw[←i1,br],Bl⟩
   rw[aj h1,aN]
   by_cases h2:a.2.2.1=2
   ·rw[aj h2]at i2
    have fk:=Fit.i64 oY.1 oY.2
    have ek:(nz c b a.1).1=xL c b a:=by unfold xL;rw[aj h2]
    rw[aj h2,QG N hN c w.w,ar,ek,c5 N ω oY.1 oY.2,ar]
    unfold ye at*
    rw[jy N ω (fk.mono ω),ar,ar,bL (by rw[cv,aR,aI];omega),ak]
    have:=fin (z.2++BY a.1 (xL c b a)) (by rw[aS,show(BY a.1 (xL c b a)).length=2 from rfl];omega) (by rw[←i2];simp only[br])
    rw[cY]at this
    exact this
   ·rw[ah h2]at i2
    rw[ah h2]
    exact fin z.2 ω (by rw[←i2];simp only[br,cJ])
  ·rw[ah h1]at i1 i2
   rw[ah h1]
   exact wI z ⟨i1,i2⟩
 ·unfold mU.l8 mU.yc
  obtain⟨i1,i2⟩:=hI
  rw[mX]at i1 i2
  have e1:z.1=iP b m b.2.1:=by rw[←i1];exact(ch _).symm
  have e2:z.2=pT c b m b.2.1:=by rw[←i2];exact(ch _).symm
  rw[aP ω,av,e1,e2,Yq N ω w.w hr hs w.r w.s (λx hx=>(gs.q x hx).1) ω gp.2 ω,ar]
end VM
end
section
namespace VM
open Go VM.F Go.RowKit
theorem Ra{c:ae}{b:aq}(w:gE b)(m:Int):Xc (gq c b m).1:=by
 unfold gq
 split
 ·split
  ·exact xC
  ·exact Nt w _ _
 ·exact xC
def wC:ae:=([((0:Int),((100:Int),((2:Int),((3:Int),()))))],((0:Int),((0:Int),((0:Int),((0:Int),((1:Int),((0:Int),())))))))
def wR:au:=[((1:Int),((0:Int),((-10:Int),()))),((5:Int),((1:Int),((-10:Int),()))),((5:Int),((2:Int),((20:Int),())))]
def wS:au:=[((1:Int),((0:Int),((1:Int),()))),((2:Int),((0:Int),((5:Int),()))),((3:Int),((0:Int),((-6:Int),())))]
def wB:aq:=([((1:Int),((3:Int),())),((2:Int),((1:Int),()))],([((1:Int),((1:Int),((1:Int),((0:Int),())))),((2:Int),((1:Int),((2:Int),((0:Int),())))),((3:Int),((2:Int),((1:Int),((0:Int),()))))],(wR,(wS,([(100:Int)],(dT,()))))))
theorem wW:AA wB:=⟨⟨δ,δ,δ,δ,δ,δ,D3 (l:=wR) δ,D3 (l:=wS) δ⟩,δ,δ⟩
theorem wCh:nz wC wB 2=(15,0):=κ
theorem wW1:(gq wC wB 1).2=0:=κ
theorem wW9:(gq wC wB 9).2=3:=κ
theorem wH0:eG (gq wC wB 1).1.2.2.2.1 0 0=6:=κ
theorem wG1:gF (gq wC wB 1).1.2.2.1 5 1=0:=κ
theorem wG2:gF (gq wC wB 1).1.2.2.1 5 2=5:=κ
theorem wG0:gF (gq wC wB 1).1.2.2.1 2 0=5:=κ
theorem U1(N:Nat)(hN:5000000≤N):F15 N=some true:=by
 unfold F15 F56
 rw[ar]
 show(F31 N wC wB 2).bind _=_
 rw[IQ N ω wC wW.w,ar,wCh]
 show(sO N wC wB 1).bind _=_
 rw[D9 N ω wC wW,ar]
 show(sO N wC wB 9).bind _=_
 rw[D9 N ω wC wW,ar]
 have sh:=Ra (c:=wC) wW.w 1
 rw[D2 N sh.s ω,ar,BD N sh.r ω,ar,BD N sh.r ω,ar,BD N sh.r ω,ar,wW1,wW9,wH0,wG1,wG2,wG0]
 simp only[gZ,ak]
namespace Pure
end Pure
end VM
end
section
namespace VM
open Go VM.F Go.RowKit
namespace Pure
end Pure
end VM
end
section
namespace VM
open Go VM.F Go.RowKit
def K9(f:bO→Int)(m:Int):aK→Int
 |[]=>0
 |x::t=>(if x.2.1=m then f x else 0)+K9 f m t
theorem qx(f:bO→Int)(m:Int)(x:bO)(t:aK):K9 f m (x::t)=(if x.2.1=m then f x else 0)+K9 f m t:=rfl
theorem mI{f:bO→Int}{m:Int}: ∀{l:aK},(∀x∈l,x.2.1=m→f x=0)→K9 f m l=0
 |[],_=>rfl
 |x::t,h=>by
  rw[qx,mI λy hy=>h y (aZ _ hy)]
  by_cases e:x.2.1=m
  ·rw[aj e,h x (bk ..) e];rfl
  ·rw[ah e];rfl
theorem GA{g:bO→Int}{m a:Int}: ∀{l:aK} {x0:bO},l.Pairwise AT→x0∈l→x0.1=a→K9 (λx=>if x.1=a then g x else 0) m l=if x0.2.1=m then g x0 else 0
 |[],_,_,h,_=>nomatch h
 |y::t,x0,hp,h,ha=>by
  obtain⟨h1,h2⟩:=eh.1 hp
  have ne: ∀x z:bO,AT x z→x.1=a→z.1=a→False:=λx z h h1 h2=>by
   have h:nS x.1 z.1:=h
   unfold nS at h
   rw[h1,h2]at h;exact Int.lt_irrefl _ h
  rw[qx]
  rcases aW.1 h with rfl|h
  ·rw[aj ha,mI λz hz hm=>ah λe=>ne _ _ (h1 z hz) ha e,gI]
  ·rw[GA h2 h ha,ah (show ¬y.1=a from λe=>ne _ _ (h1 x0 h) e ha)]
   split<;>(split<;>omega)
def uY(i:Int):aD→Int
 |[]=>0
 |y::t=>(if y.1=i then y.2.1 else 0)+uY i t
theorem GB{a i:Int}: ∀l:au,uY i (iJ a l)=bP a i l
 |[]=>rfl
 |x::t=>by
  rw[ku,eo]
  by_cases e:x.1=a
  ·rw[aj e]
   show(if x.2.1=i then x.2.2.1 else 0)+uY i (iJ a t)=_
   rw[GB t]
   by_cases e2:x.2.1=i
   ·rw[aj e2,aj ⟨e,e2⟩];rfl
   ·rw[ah e2,ah λk=>e2 k.2]
  ·rw[ah e,ah (λk=>e k.1),GB t,tf]
theorem SV{a i y:Int}: ∀t:aD,bP a i (wU y t)=(if y=a then-(uY i t)else 0)+(if 0=a then uY i t else 0)
 |[]=>by
  show(0:Int)=(if y=a then-0 else 0)+(if 0=a then 0 else 0)
  split<;>split<;>rfl
 |x::t=>by
  rw[qq,eo,eo,SV t]
  show(if y=a∧x.1=i then 0-x.2.1 else 0)+((if 0=a∧x.1=i then x.2.1 else 0)+_)=(if y=a then-((if x.1=i then x.2.1 else 0)+uY i t)else 0)+(if 0=a then(if x.1=i then x.2.1 else 0)+uY i t else 0)
  have g: ∀q s:Int,(if y=a∧x.1=i then 0-q else 0)+((if 0=a∧x.1=i then q else 0)+((if y=a then-s else 0)+(if 0=a then s else 0)))=(if y=a then-((if x.1=i then q else 0)+s)else 0)+(if 0=a then(if x.1=i then q else 0)+s else 0):=λq s=>by
   by_cases h1:y=a<;>by_cases h2:(0:Int)=a<;>by_cases h3:x.1=i<;>simp[h1,h2,h3]<;>omega
  exact g _ _
def hSm(b:aq)(i y:Int):Int:=bP y i b.2.2.2.1
theorem xN{b:aq}(hk:cz b.2.2.2.1=true)(m a i:Int): ∀l:aK,bP a i (iP b m l)=K9 (λx=>if x.1=a then-(hSm b i x.1)else 0) m l+K9 (λx=>if 0=a then hSm b i x.1 else 0) m l
 |[]=>rfl
 |x::t=>by
  rw[oD,qx,qx]
  have hp:posOf b.2.2.2.1 x.1=iJ x.1 b.2.2.2.1:=by unfold posOf;rw[aj hk]
  by_cases e:x.2.1=m
  ·rw[aj e,aj e,aj e,kQ,xN hk m a i t,SV,hp,GB]
   show(if x.1=a then-(hSm b i x.1)else 0)+(if 0=a then hSm b i x.1 else 0)+_=_
   omega
  ·rw[ah e,ah e,ah e,xN hk m a i t];omega
def xW(c:ae)(b:aq)(x:bO):Int:=xL c b x+vy (rJ b x)
theorem xO(c:ae)(b:aq)(m k n:Int): ∀l:aK,bP k n (kY c b m l)=K9 (λx=>if 5=k∧x.1=n then-(xW c b x)else 0) m l+K9 (λx=>if 2=k∧0=n then xW c b x else 0) m l
 |[]=>rfl
 |x::t=>by
  rw[rK,qx,qx]
  by_cases e:x.2.1=m
  ·rw[aj e,aj e,aj e,kQ,xO c b m k n t,K8]
   show(if 5=k∧x.1=n then-(xW c b x)else 0)+(if 2=k∧0=n then xW c b x else 0)+_=_
   omega
  ·rw[ah e,ah e,ah e,xO c b m k n t];omega
theorem U2{c:ae}{b:aq}{l:aK}(hp:l.Pairwise AT){x:bO}(hx:x∈l)(m:Int):bP 5 x.1 (kY c b m l)=if x.2.1=m then-(xW c b x)else 0:=by
 rw[xO,mI (f:=λx_1=>if(2:Int)=5∧0=x.1 then xW c b x_1 else 0) λz _ _=>ah λk=>absurd k.1 δ,gI]
 have e:(λy:bO=>if(5:Int)=5∧y.1=x.1 then-(xW c b y)else 0)=λy=>if y.1=x.1 then-(xW c b y)else 0:=by
  funext y
  by_cases h:y.1=x.1
  ·rw[aj ⟨rfl,h⟩,aj h]
  ·rw[ah (λk=>h k.2),ah h]
 rw[e,GA hp hx rfl]
theorem U3{b:aq}(hk:cz b.2.2.2.1=true){l:aK}(hp:l.Pairwise AT){x:bO}(hx:x∈l)(h0:x.1≠0)(m i:Int):bP x.1 i (iP b m l)=if x.2.1=m then-(hSm b i x.1)else 0:=by
 rw[xN hk,mI (f:=λy=>if 0=x.1 then hSm b i y.1 else 0) λz _ _=>ah λk=>h0 k.symm,gI,GA hp hx rfl]
structure Oh(c:ae)(b:aq)(m:Int)(n:aq):Prop where
 r:RBs c b n
 qr:dy n.2.2.1
 qs:dy n.2.2.2.1
 s: ∀a i,bD a i→eG n.2.2.2.1 a i=eG b.2.2.2.1 a i+bP a i (iP b m b.2.1)
 e: ∀k j,cQ k j→gF n.2.2.1 k j=gF b.2.2.1 k j+bP k j (kY c b m b.2.1)
theorem Rb{c:ae}{b:aq}{k:Nat}(h2:200≤k)(hk:k≤1000)(hc:G k aA c)(hb:G k aL b)(hR:RB c b)(m:Int):((gq c b m).2=3∧eA b.1 m=0∧(gq c b m).1=(ck,(c9,(bH,(bH,(dC,(dT,())))))))∨(eA b.1 m≠0∧(gq c b m).2=2∧(gq c b m).1=(ck,(c9,(bH,(bH,(dC,(dT,())))))))∨(eA b.1 m≠0∧(gq c b m).2=0∧gq c b m=dW b (iP b m b.2.1) (kY c b m b.2.1)∧Oh c b m (gq c b m).1∧G k aL (gq c b m).1):=by
 obtain⟨r,er,hr,hg⟩:=Ok.and (SN 5000000 (aG _) h2 hk hc hb hR m) (SG 5000000 (aG _) h2 hk hc hb m)
 rw[Yr 5000000 (aG _) c (G.wf ω hb) m]at er
 have er:=oH er
 subst er
 have w:=(G.wf (m:=k) ω hb).w
 obtain⟨yP,Lp⟩:=dH (lf.2 hR)
 unfold gq at hr hg ⊢
 rw[aj (lf.2 hR)]at hr hg ⊢
 by_cases h0:eA b.1 m=0
 ·rw[aj h0];exact .inl ⟨rfl,h0,rfl⟩
 rw[ah h0]at hr hg ⊢
 right
 rcases Gf b (iP b m b.2.1) (kY c b m b.2.1)with⟨h,h'⟩|⟨s',r',g1,g2,g3⟩
 ·exact .inl ⟨h0,h,h'⟩
 ·have hz:(dW b (iP b m b.2.1) (kY c b m b.2.1)).2=0:=by rw[g3]
  have R:=hr hz
  refine .inr ⟨h0,hz,rfl,⟨R,?_,?_,?_,?_⟩,hg⟩
  ·rw[g3];exact λx hx=>((rH g2).2.1 x hx).2.2
  ·rw[g3];exact λx hx=>((rH g1).2.1 x hx).2.2.1
  ·rw[g3];exact λa i h=>((Gg Lp g1).2 a i h).1
  ·rw[g3];exact λa i h=>((SJ yP (Gz w m hR.a).key g2).2 a i h).1
theorem y6{c:ae}{b n:aq}{m:Int}(hR:RB c b)(W:Oh c b m n){x:bO}(hx:x∈b.2.1)(e:x.2.1=m)(i:Int):hSm n i x.1=0:=by
 have hk:=(dH (lf.2 hR)).2
 have hn:=(dH (lf.2 W.r.1)).2
 have Lu:=(jv.1 hR.a).1 x hx
 have g1: ∀v:Int,1≤v→v≠0:=λv h=>ω
 by_cases hp:bD x.1 i
 ·have:=W.s _ _ hp
  rw[U3 hk (jv.1 hR.a).2.1 hx (g1 _ Lu.1.1),aj e,N4 hk,N4 hn]at this
  unfold hSm at*
  omega
 ·unfold hSm
  exact abf λz hz A5=>hp (by rw[←A5.1,←A5.2];exact((cU hn).2 z hz).1)
theorem U4{c:ae}{b n:aq}{m:Int}(hR:RB c b)(W:Oh c b m n){x:bO}(hx:x∈b.2.1)(e:x.2.1=m):posOf n.2.2.2.1 x.1=[]:=by
 have hn:=(dH (lf.2 W.r.1)).2
 refine LD.2 λy hy=> ?_
 unfold posOf at hy
 rw[aj hn]at hy
 obtain⟨z,hz,PN,_⟩:=jf hy
 have h1:=tO (cU hn).1 hz
 rw[kR (cU hn).1,PN]at h1
 exact Jm hn z hz (h1.symm.trans (y6 hR W hx e _))
theorem SW{c:ae}{b n:aq}{m:Int}(hR:RB c b)(hw:gE b)(W:Oh c b m n){x:bO}(hx:x∈b.2.1)(e:x.2.1=m):rJ n x=rJ b x-xW c b x∧0≤rJ n x∧xW c n x=0:=by
 have Lu:=(jv.1 hR.a).1 x hx
 have k5:cQ 5 x.1:= .inr (.inl ⟨rfl,Lu.1⟩)
 have h1:rJ n x=rJ b x-xW c b x:=by
  have:=W.e 5 x.1 k5
  rw[U2 (jv.1 hR.a).2.1 hx,aj e]at this
  unfold rJ;omega
 have hr:=SU (c:=c) hw x
 have h2:0≤rJ n x:=by
  rw[h1]
  unfold xW vy
  by_cases h:0<rJ b x
  ·rw[aj h];have:=hr.2 h;omega
  ·rw[ah h];have:=hr.1 ω;omega
 have hk:xL c n x=0:=by
  unfold xL
  by_cases h:x.2.2.1=2
  ·rw[aj h]
   unfold nz
   rw[aj (lf.2 W.r.1),U4 hR W hx e]
   have hs:ox c []=0:=by unfold ox;split<;>rfl
   rw[hs]
   split
   ·unfold sE
    dsimp only
    split
    ·rfl
    ·rw[aj ω]
   ·rfl
  ·rw[ah h]
 refine⟨h1,h2,?_⟩
 unfold xW vy
 rw[hk]
 by_cases h:0<rJ n x
 ·rw[aj h];rfl
 ·rw[ah h];omega
theorem Rc{c:ae}{b n:aq}{m:Int}(hR:RB c b)(hw:gE b)(W:Oh c b m n)(h0:eA b.1 m≠0):gq c n m=(n,0):=by
 obtain⟨hr,hs⟩:=dH (lf.2 W.r.1)
 unfold gq
 rw[aj (lf.2 W.r.1),W.r.2.1,ah h0,W.r.2.2.1]
 refine Q1 hr hs W.qr W.qs (λa i=> ?_) λk j=> ?_
 ·rw[xN hs,mI λx hx e=> ?_,mI λx hx e=> ?_];rfl
  ·rw[y6 hR W hx e];split<;>rfl
  ·rw[y6 hR W hx e];split<;>rfl
 ·rw[xO,mI λx hx e=> ?_,mI λx hx e=> ?_];rfl
  ·rw[(SW hR hw W hx e).2.2];split<;>rfl
  ·rw[(SW hR hw W hx e).2.2];split<;>rfl
namespace Pure
theorem U5(l:List Int)(a:Int)(h:WFs [.slice (.int .u64),.int .u8] (l,a)): ∃N,F6 N l a=some true:=by
 have key:Ok (λr=>r=true) (F6 6000000 l a):=by
  unfold F6 F16
  refine bA (U1 6000000 ω) (bt (λh=>nomatch h) λ_=>bA rfl (af (UU 6000000 ω (abc h.1)) λc ⟨hc,hd⟩=>af (Yp 6000000 ω hc hd ω) λs ⟨⟨hs,hR⟩,hd⟩=>ok_eq (λ_=>ω) λ_=> ?_))
  have hb:=hs.2.2.1
  have w:=G.wf ω hb
  have hR:=hR.1
  dsimp only
  generalize W .i64 (1+W .i64 (rem a 5))=m at*
  generalize s.1.2.2.1=b at*
  refine bA (D9 6000000 ω c.1 w m) ?_
  rcases Rb ω ω (G.mono ω hc.1.1) hb hR m with⟨h1,_,h2⟩|⟨_,h1,h2⟩|⟨h0,h1,_,W,gn⟩
  ·exact bu (λ_=>by rw[h2];exact an (dX rfl)) λh=>absurd (h1.symm.trans h) δ
  ·exact bu (λ_=>by rw[h2];exact an (dX rfl)) λh=>absurd (h1.symm.trans h) δ
  refine bu (λh=>absurd h1 h) λ_=> ?_
  have again:=Rc hR w.w W h0
  generalize (gq c.1 b m).1=n at*
  have nw:=G.wf (m:=900) ω gn
  refine bA (D9 6000000 ω c.1 nw m) ?_
  rw[again]
  exact ok_eq (λ_=>bA (Xb 6000000 ω nw.w.m nw.w.a nw.w.r nw.w.s nw.w.p nw.w.o) (an rfl)) λh=>absurd rfl h
 obtain⟨r,e,hr⟩:=key
 exact⟨6000000,by rw[e,hr]⟩
end Pure
end VM
end
