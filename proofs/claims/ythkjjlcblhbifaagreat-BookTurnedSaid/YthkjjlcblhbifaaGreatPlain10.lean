/- A part of the proof of BookTurned of layer 18: what the functions compute, in plain words. -/
import Derived.Test.YthkjjlcblhbifaaGreatPlain9
import Derived.Test.YthkjjlcblhbifaaGreatPlain8
set_option linter.all false
open List renaming getD→γ
section
namespace VM
open Go VM.F
def StN(c:ae)(n:Nat)(s:aR):Prop:=GS (200+n) s∧oV c (200+n) s
theorem oV.mono{c:ae}{m n:Nat}{s:aR}(h:oV c m s)(hn:m≤n):oV c n s:=⟨h.1,⟨h.2.1.1,fH h.2.1.2 ω⟩,h.2.2⟩
theorem StN.mono{c:ae}{m n:Nat}{s:aR}(h:StN c m s)(hn:m≤n):StN c n s:=⟨G.mono ω h.1,h.2.mono ω⟩
def Zw(c:ae)(n:Nat)(t:cZ):Prop:= ∃(s:aR) (a:Nat),t=(c,(s,((a:Int),())))∧a≤n∧StN c a s
theorem Zw.mono{c:ae}{m n:Nat}{t:cZ}(h:Zw c m t)(hn:m≤n):Zw c n t:=by
 obtain⟨s,a,e,h1,h2⟩:=h
 exact⟨s,a,e,ck h1 hn,h2⟩
theorem aiZ(N:Nat)(hN:5000000≤N){c:ae}(hc:G 5 aA c){t:cZ}{l:dq}{m:Nat}(hm:m≤700)(hl:wL m l)(ht:Zw c l.length t):Ok (λr=>StN c l.length r.1∧Zw c l.length r.2.1∧r.2.2=l) (rn N t l):=by
 obtain⟨s,a,rfl,h1,h2⟩:=ht
 have Jo:=hl.1
 unfold rn rn.b
 generalize ((0:Int),((0:Int),_))=S0
 refine jk (len:=l.length) (F:=λn i (s:aR)=>rn.l1 N n (c,(s,(i,()))) l S0) (λi s=>StN c i s) (λn i s hi hI hr=> ?_) (λn s hI=> ?_) l.length N a s ω ω h1 h2
 all_goals unfold rn.l1 rn.l1b
 ·dsimp only
  rw[aw (x:=(i:Int)+1) ω ω,af i]
  have hx:G 0 mc (l.getD (i:Int).toNat zz8):=G.at hl _
  exact ax (λ_=>aB ⟨ω,ω⟩ (ah (Ok.and (UG N hN ω ω hc hI.1 hx) (UH N hN ω ω hc hI.1 hI.2 hx)) λr ⟨BK,zT⟩=>hr r.1 ⟨BK,zT⟩)) λ_=>ω
 ·exact ax (λ_=>by dsimp only at*;omega) λ_=>aq ⟨hI,⟨s,l.length,rfl,Nat.le_refl _,hI⟩,rfl⟩
abbrev RoQ(c:ae)(p k:Nat)(r:dq×aP×cZ):Prop:=wL (p+70) r.1∧Dk (k+400) r.2.1∧Zw c r.1.length r.2.2
theorem ak9{q:Int}(h:qIn q):W .u64 q=q∧q≠0:=by
 unfold qIn at h
 exact⟨eG ω ω,ω⟩
theorem wL.snoc{p:Nat}{l:dq}{x:iE}(h:wL p l)(hx:G 0 mc x):wL (p+1) (l++[x]):=G.cat h (G.one hx (aH 1))
theorem BX{α:Type}(l:List α)(x:α):(l++[x]).length=l.length+1:=by rw[aS,aJ]
theorem Zx(N:Nat)(hN:5000000≤N){c:ae}(hq:Cq c){d:aP}{t:cZ}{l:dq}{p k:Nat}(hp:p≤600)(hk:k≤20000)(hl:wL p l)(hd:Dk k d)(ht:Zw c l.length t):Ok (RoQ c p k) (eP N d t l):=by
 have hc:=hq.1.1
 have Wu:=hq.f.1
 have i16:aF 16:=bz
 have i17:aF 17:=bz
 have i18:aF 18:=bz
 have i19:aF 19:=bz
 have i10:aF 10:=bz
 have i20:aF 20:=bz
 have i2:aF 2:=bz
 have z:=cc
 have Jo:=hl.1
 have Ff: ∀(d:aP) (t:cZ) (l:dq),wL (p+5) l→Dk (k+20) d→Zw c l.length t→Ok (RoQ c p k) (eP.JW N d t l):=λd t l hl hd ht=>by
  have Jo:=hl.1
  unfold eP.JW eP.Df
  have Sx:=wL.snoc hl (tg (m:=0) i18 z z z z z z z)
  refine aC (by rw[aJ];omega) (ah (aiZ N hN hc ω Sx (ht.mono (by rw[BX];omega))) λr ⟨hs,ht,he⟩=> ?_)
  rw[he]
  generalize l++[((18:Int),Nz)]=l at*
  have h12:=hs.2.2.2.2
  have hL:=hs.1.2.2.2.1.2.2.2.2.2.1
  generalize r.1=s at*
  refine bt (len:=s.2.2.2.1.2.2.2.2.2.1.length) (F:=λn i (y:aP×dq)=>eP.mw N n y.1 r.2.1 y.2 s i) (s:=(_,_)) (λi y=>Dk (k+20+10*i) y.1∧wL (p+6+4*i) y.2∧l.length≤y.2.length) ⟨hd,Sx,aH _⟩ ω (λn i y hi hI hr=> ?_) (λn y hI=> ?_)
  all_goals obtain⟨hd,hl,hle⟩:=hI
  all_goals unfold eP.mw eP.lq
  ·refine ax (λ_=>aB ⟨ω,ω⟩ ?_) λ_=>ω
   have hx:G 900 jT (s.2.2.2.1.2.2.2.2.2.1.getD (i:Int).toNat ((0:Int),(cn,bb))):=G.mono (by have:=Sx.1;omega) (G.at hL _)
   generalize s.2.2.2.1.2.2.2.2.2.1.getD (i:Int).toNat ((0:Int),(cn,bb))=x at*
   refine jk (len:=5) (F:=λn' j (w:aP×dq)=>eP.FR N (eP.mw N n) n' w.1 r.2.1 w.2 s (i:Int) x j) (λj w=>1≤j∧Dk (k+20+10*i+2*(j-1)) w.1∧wL (p+6+4*i+(j-1)) w.2∧l.length≤w.2.length) (λn' j w hj hJ ed=> ?_) (λn' w hJ=> ?_) 5 N 1 y ω ω ω ⟨aH 1,hd,hl,hle⟩
   all_goals obtain⟨hj1,hd,hl,hle⟩:=hJ
   all_goals unfold eP.FR eP.Fe
   ·have hwl:=hl.1
    rw[aw (x:=(j:Int)+1) ω ω,af j]
    refine eR (λ_=>ah (qG N δ hd (by unfold lx;omega)) λa hd=>bI (λ_=>ah (jD N δ hd (by unfold lx;omega)) λv ⟨_,hd⟩=>aC (by rw[List.length_singleton];omega) (ed (_,_) ⟨ω,Dk.mono hd ω,G.mono ω (wL.snoc hl (tg i19 (jE ω ω) z z z hx.1 z (BY (Zy (gJ _) (by unfold aF;decide)) (by unfold aF;decide)))),by dsimp only;rw[BX];omega⟩)) λ_=>ed (_,_) ⟨ω,Dk.mono hd ω,G.mono ω hl,hle⟩) λ_=>ω
   ·rw[aw (x:=(i:Int)+1) ω ω,af i]
    exact eR (λ_=>ω) λ_=>hr w ⟨Dk.mono hd ω,G.mono ω hl,hle⟩
  ·have Zi:=hl.1
   obtain⟨s',a,e,w8,T6⟩:=ht
   refine ax (λ_=>ω) λ_=>ah (u2 N ω hd (c:=r.2.1.1) (by rw[e];exact Wu) ω) λn1 ⟨Sw,hd⟩=> ?_
   have ala:=Sw.1
   have h5:=G.cat hl Sw
   have h5l:=h5.1
   have h6:=G.cat h5 (G.two (m:=2) (tg (m:=0) i10 z z z z z i2 z) (tg i20 z z z z z z z) (aH 2))
   exact aC ω (aC (by simp only[List.length_append,List.length_cons,List.length_nil];omega) (aq ⟨G.mono ω h6,Dk.mono hd ω,⟨s',a,e,by dsimp only;rw[List.length_append,List.length_append];omega,T6⟩⟩))
 unfold eP eP.b
 refine ah (qG N δ hd (by unfold lx;omega)) λa hd=>qc (λ_=> ?_) λ_=>Ff _ _ _ (G.mono ω hl) (Dk.mono hd ω) ht
 have Sx:=wL.snoc hl (tg (m:=0) i16 z z z z z z z)
 refine aC (by rw[aJ];omega) (ah (aiZ N hN hc ω Sx (ht.mono (by rw[BX];omega))) λr ⟨hs,ht,he⟩=> ?_)
 rw[he]
 generalize l++[((16:Int),Nz)]=l at*
 obtain⟨h4,hg⟩:=hs.2.2.2.1
 have hH:=hs.1.2.2.2.1.2.2.2.2.1
 have hP:=hs.1.2.2.1.2.2.2.2.1
 have Yt:(r.1.2.2.1.2.2.2.2.1.length:Int)=c.1.length:=hs.2.1.n
 generalize r.1=s at*
 refine bt (len:=s.2.2.2.1.2.2.2.2.1.length) (F:=λn i (y:aP×dq)=>eP.l5 N n y.1 r.2.1 y.2 s i) (s:=(_,_)) (λi y=>Dk (k+1+4*i) y.1∧wL (p+1+i) y.2∧l.length≤y.2.length) ⟨hd,Sx,aH _⟩ ω (λn i y hi hI hr=> ?_) (λn y hI=> ?_)
 all_goals obtain⟨hd,hl,hle⟩:=hI
 all_goals unfold eP.l5 eP.dV
 ·have Zi:=hl.1
  have hx:=hg _ (qH (d:=bb) hi)
  have hx6:G (200+l.length) ff (s.2.2.2.1.2.2.2.2.1.getD i bb):=hH.2 _ (qH hi)
  have hu:=ak9 hx.2
  rw[aw (x:=(i:Int)+1) ω ω,af i,aG]
  dsimp only
  generalize s.2.2.2.1.2.2.2.2.1.getD i bb=x at*
  refine ax (λ_=>aB ⟨ω,ω⟩ (ah (qG N δ hd (by unfold lx;omega)) λa hd=>qc (λ_=>ah (jD N δ hd (by unfold lx;omega)) λv ⟨_,hd⟩=>ah (FT N (by unfold lx;omega) hd) λw ⟨_,hd⟩=>ok_eq (λe=>absurd (hu.1.symm.trans e) hu.2) λ_=>aB ?_ (aC (by rw[List.length_singleton];omega) (hr (_,_) ⟨Dk.mono hd ω,wL.snoc hl (tg i17 z (gJ _) z z hx6.1 (gJ _) (G.at hP _)),by dsimp only;rw[BX];omega⟩))) λ_=>hr (_,_) ⟨Dk.mono hd ω,G.mono ω hl,hle⟩)) λ_=>ω
  have h1:=hx.1
  have g: ∀v:Int,(0≤v∧v<(c.1.length:Int))→0≤v∧v<(s.2.2.1.2.2.2.2.1.length:Int):=λv h=>ω
  exact g _ h1
 ·exact ax (λ_=>ω) λ_=>Ff _ _ _ (G.mono ω hl) (Dk.mono hd ω) (ht.mono hle)
theorem Wv(N:Nat)(hN:5000000≤N){c:ae}(hq:Cq c){d:aP}{t:cZ}{L:dq}{k j:Nat}(hk:k≤10000)(hj:j≤2)(hl:wL 220 L)(hd:Dk k d)(ht:Zw c L.length t):Ok (λr=>wL 400 r.1∧Dk (k+1500) r.2) (vY.FR N N d c t L (j:Int)):=by
 obtain⟨Wu,kP⟩:=hq.f
 have i21:aF 21:=bz
 have z:=cc
 refine yY (F:=λn x (s:aP×cZ×dq)=>vY.FR N n s.1 c s.2.1 s.2.2 x) (λx s=>x≤2∧Dk (k+400*(2-x)) s.1∧wL (220+70*(2-x)) s.2.2∧Zw c s.2.2.length s.2.1) (λn x s hI hr=> ?_) (λn s hI=> ?_) j N (d,(t,L)) ω ⟨hj,Dk.mono hd ω,G.mono ω hl,ht⟩
 all_goals obtain⟨hx,hd,hl,ht⟩:=hI
 all_goals unfold vY.FR vY.Fe
 ·rw[Mt ω]
  exact ax (λ_=>ah (Zx N hN hq ω ω hl hd ht) λr ⟨h1,h2,h3⟩=>hr (r.2.1,(r.2.2,r.1)) ⟨ω,Dk.mono h2 ω,G.mono ω h1,h3⟩) λ_=>ω
 ·have Sx:=hl.1
  refine ax (λ_=>ω) λ_=>ah (qG N δ hd (by unfold lx;omega)) λa hd=>bI (λ_=>aC (by rw[aJ];omega) (ah (u2 N ω hd Wu ω) λn1 ⟨Sw,hd⟩=> ?_)) λ_=>ah (u2 N ω hd Wu ω) λn1 ⟨Sw,hd⟩=> ?_
  ·have h2:=G.cat (wL.snoc hl (tg (m:=0) i21 z z z z z z z)) Sw
   have h2l:=h2.1
   have ala:=Sw.1
   exact aC (by simp only[aS,aT,bZ];omega) (aq ⟨G.mono ω h2,Dk.mono hd ω⟩)
  ·have h2:=G.cat hl Sw
   have ala:=Sw.1
   exact aC ω (aq ⟨G.mono ω h2,Dk.mono hd ω⟩)
theorem Ww(N:Nat)(hN:5000000≤N){c:ae}(hq:Cq c){d:aP}{k:Nat}(hk:k≤5000)(hd:Dk k d){ye:Int}(hm:0≤ye∧ye≤100):Ok (λr=>wL 400 r.1∧Dk (k+6000) r.2) (vY N d c ye):=by
 obtain⟨Wu,kP⟩:=hq.f
 have i10:aF 10:=bz
 have i11:aF 11:=bz
 have i13:aF 13:=bz
 have i14:aF 14:=bz
 have i15:aF 15:=bz
 have i21:aF 21:=bz
 have z:=cc
 unfold vY vY.b
 refine ah (Po N ω hq kP) λs ⟨⟨NA,Wd⟩,_⟩=>ah (KD N ω hd Wu hm ω) λl ⟨hl,hd⟩=>ah (jD N δ hd (by unfold lx;omega)) λv ⟨_,hd⟩=> ?_
 have ht:Zw c 0 (c,(s.1,((0:Int),()))):=⟨s.1,0,rfl,aH 0,G.mono ω NA,Wd.mono ω⟩
 generalize s.1=S at*
 dsimp only
 have Jo:=hl.1
 have h1:=wL.snoc hl (tg (m:=0) i11 (gJ (1+v.1)) z z z z z z)
 have h1l:=h1.1
 refine aC (by simp only[aS,aT,bZ];omega) (ah (u2 N ω hd Wu ω) λn1 ⟨Sw,hd⟩=> ?_)
 have h2:=G.cat h1 Sw
 have h2l:=h2.1
 have ala:=Sw.1
 refine aC (by simp only[aS,aT,bZ];omega) (aC (by simp only[aS,aT,bZ];omega) ?_)
 have h3:=wL.snoc h2 (tg (m:=0) i13 (gJ (1+v.1)) z z z z z z)
 generalize hL:(l.1++[((11:Int),(W .i64 (1+v.1),dT))]++n1.1)++[((13:Int),(W .i64 (1+v.1),dT))]=L at h3
 refine jk (len:=8) (F:=λn i (y:aP×dq)=>vY.l9 N n y.1 c (c,(S,((0:Int),()))) y.2 i) (λi y=>5≤i∧Dk (k+3200+2*(i-5)) y.1∧wL (205+(i-5)) y.2) (λn i y hi hI hr=> ?_) (λn y hI=> ?_) 8 N 5 (_,L) ω ω ω ⟨aH 5,Dk.mono hd ω,G.mono ω h3⟩
 all_goals obtain⟨hi5,hd,hl⟩:=hI
 all_goals have Zi:=hl.1
 all_goals unfold vY.l9 vY.uX
 ·rw[aw (x:=(i:Int)+1) ω ω,af i]
  exact eR (λ_=>ah (qG N δ hd (by unfold lx;omega)) λa hd=>qc (λ_=>ah (jD N δ hd (by unfold lx;omega)) λw ⟨_,hd⟩=>aC (by rw[aJ];omega) (hr (_,_) ⟨ω,Dk.mono hd ω,G.mono ω (wL.snoc hl (tg i14 (gJ _) (jE ω ω) z z z z z))⟩)) λ_=>hr (_,_) ⟨ω,Dk.mono hd ω,G.mono ω hl⟩) λ_=>ω
 ·refine eR (λ_=>ω) λ_=>ah (u2 N ω hd Wu ω) λn2 ⟨hn2,hd⟩=> ?_
  have h4:=G.cat hl hn2
  have h4l:=h4.1
  have aDL:=hn2.1
  refine aC ω ?_
  dsimp only
  refine ah (jD N δ hd (by unfold lx;omega)) λw ⟨_,hd⟩=> ?_
  have h5:=G.cat h4 (G.two (m:=2) (tg (m:=0) i10 z z z z z (gJ (2+w.1)) z) (tg i15 z z z z z z z) (aH 2))
  have h5l:=h5.1
  refine aC (by simp only[aS,aT,bZ];omega) (ah (u2 N ω hd Wu ω) λn3 ⟨hn3,hd⟩=> ?_)
  have h6:=G.cat h5 hn3
  have aDM:=hn3.1
  refine aC (by simp only[aS,aT,bZ];omega) (ah (jD N δ hd (by unfold lx;omega)) λu ⟨hu,hd⟩=> ?_)
  obtain⟨j,hj⟩: ∃j:Nat,u.1=(j:Int):=⟨u.1.toNat,ω⟩
  rw[hj]
  have hLl:=h6.1
  exact Mu (Wv N hN hq ω ω (G.mono ω h6) hd (ht.mono (bs _))) λr hr=>⟨hr.1,Dk.mono hr.2 ω⟩
theorem Wx(N:Nat)(hN:5000000≤N){c:ae}(hq:Cq c){d:aP}{k:Nat}(hk:k≤4000)(hd:Dk k d){ye:Int}(hm:0≤ye∧ye≤100):Ok (λr=>wL 400 r.1∧Dk (k+7000) r.2) (HL N d c ye):=by
 obtain⟨Wu,kP⟩:=hq.f
 unfold HL HL.b
 refine ah (jD N δ hd (by unfold lx;omega)) λa ⟨_,hd⟩=>ok_eq (λ_=> ?_) λ_=>ok_eq (λ_=>ah (KD N ω hd Wu hm ω) λl ⟨hl,hd⟩=>aq ⟨G.mono ω hl,Dk.mono hd ω⟩) λ_=>ah (Ww N hN hq ω hd hm) λl ⟨hl,hd⟩=>aq ⟨hl,Dk.mono hd ω⟩
 rw[aw (x:=ye+1) ω ω]
 refine ah (jD N ⟨ω,ω⟩ hd (by unfold lx;omega)) λu ⟨hu,hd⟩=> ?_
 obtain⟨j,hj⟩: ∃j:Nat,u.1=(j:Int):=⟨u.1.toNat,ω⟩
 rw[hj]
 refine yY (F:=λn x (s:aP×dq)=>HL.l5 N n s.1 c s.2 x) (λx s=>x≤100∧Dk (k+10+25*(100-x)) s.1∧wL (100-x) s.2) (λn x s hI hr=> ?_) (λn s hI=> ?_) j N (u.2,[]) ω ⟨ω,Dk.mono hd ω,G.nil⟩
 all_goals obtain⟨hx,hd,hl⟩:=hI
 all_goals unfold HL.l5 HL.dV
 ·have hs:=hl.1
  rw[Mt ω]
  exact ax (λ_=>ah (HM N hd Wu ω) λr ⟨h1,h2⟩=>aC (by rw[aJ];omega) (hr (_,_) ⟨ω,Dk.mono h2 ω,G.mono ω (wL.snoc hl h1)⟩)) λ_=>ω
 ·exact ax (λ_=>ω) λ_=>aq ⟨G.mono ω hl,Dk.mono hd ω⟩
theorem Zz(N:Nat)(hN:5000000≤N){c:ae}(hq:Cq c){d:aP}(hd:Dk 1000 d){ye:Int}(hm:0≤ye∧ye≤100):Ok (λr=>(GS 900 r.1∧oV c 900 r.1)∧Dk 10000 r.2) (F8 N d c ye):=by
 obtain⟨Wu,kP⟩:=hq.f
 unfold F8
 exact ah (Wx N hN hq ω hd hm) λl ⟨hl,hd⟩=>ah (alb N hN ω hq kP hl) λr hr=>aq ⟨hr,Dk.mono hd ω⟩
end VM
end
section
namespace VM
open Go VM.F Go.RowKit
def BZ(x:dg):Int:=6*x.1+x.2.1
theorem Pp: ∀(l:au) (n:Int),l.Pairwise (λx y=>BZ x<BZ y)→(∀x∈l,n≤BZ x∧BZ x<150)→n≤150→(l.length:Int)≤150-n
 |[],n,_,_,hn=>by rw[bZ];omega
 |x::t,n,hp,h,hn=>by
  have h1:=h x (bu ..)
  have hp:=eX.1 hp
  have:=Pp t (BZ x+1) hp.2 (λy hy=>⟨by have:=hp.1 y hy;omega,(h y (ba _ hy)).2⟩) ω
  rw[aT];omega
theorem Wy{l:au}(h:dk l=true):l.length≤150:=by
 obtain⟨h1,h2⟩:=eZ h
 have h1:=uz.1 h1
 have hp:l.Pairwise (λx y=>BZ x<BZ y):=by
  refine List.Pairwise.imp_of_mem (λ{x y} hx hy XS=> ?_) h1
  have hx:=(h2 x hx).1
  have hy:=(h2 y hy).1
  unfold cg at hx hy
  unfold BZ
  have hk:x.1<y.1∨x.1=y.1∧x.2.1<y.2.1:=XS
  have g: ∀a b c d:Int,(0≤a∧a≤24∧0≤b∧b<6)→(0≤c∧c≤24∧0≤d∧d<6)→(a<c∨a=c∧b<d)→6*a+b<6*c+d:=λa b c d _ _ _=>ω
  exact g _ _ _ _ hx hy hk
 have:=Pp l 0 hp (λx hx=>by
  have hx:=(h2 x hx).1
  unfold cg at hx
  unfold BZ
  have g: ∀a b:Int,(0≤a∧a≤24∧0≤b∧b<6)→0≤6*a+b∧6*a+b<150:=λa b _=>ω
  exact g _ _ hx) ω
 omega
namespace Pure
end Pure
theorem UI{l:au}{y:dg}(h:dU l)(hy:aF (dQ y)):dU (l++[y]):=λx hx=>by
 rcases bn.1 hx with hx|hx
 ·exact h x hx
 ·rw[cy.1 hx];exact hy
theorem UJ{l:au}{y:dg}{i:Nat}(h:dU l)(hy:aF (dQ y)):dU (List.set l i y):=λx hx=>by
 rcases vq hx with hx|hx
 ·exact h x hx
 ·rw[hx];exact hy
theorem SL(c:ae){b:an}(w:m5 b)(h4:b.2.2.2.1.length≤400)(x k:Int):F3.j38 6000000 x c b k=some true:=by
 unfold F3.j38 F3.alc
 rw[vX 6000000 ω w.w,ar,qa 6000000 ω w.w,ar,mI,uA,aj,eH ω,av,eH ω,av,eH ω,av,ZA 6000000 ω c w h4 (bs _),ar]
namespace Pure
theorem SM(l:List Int)(SN x:Int)(h:WFs [.slice (.int .u64),.int .u8,.int .i64] (l,SN,x)): ∃N,F3 N l SN x=some true:=by
 have key:Ok (λr=>r=true) (F3 6000000 l SN x):=by
  have hh:0≤SN∧SN≤255:=wf_u8.1 h.2.1
  have hx:aF x:=ac3 h.2.2.1
  unfold F3 F3.b F6
  refine bV (Wz 6000000 ω) (bI (λh=>nomatch h) λ_=>bV rfl (ah (WA 6000000 ω (ac4 h.1)) λc ⟨hc,hd⟩=>ah (Zz 6000000 ω hc hd ω) λs ⟨⟨hs,hR⟩,hd⟩=> ?_))
  have hG:=hs.2.2.1
  have w:=G.wf ω hG
  have hR:=hR.1
  have h6:=(tL hR.c).1
  have h1:1≤c.1.1.length:=by
   have:=hR.c
   unfold eS at this
   exact(bD (df.1 this).1).1
  have zC:=(dY (qI.2 hR)).1
  have L0:=Wy (ej (qI.2 hR)).2
  have M1:s.1.2.2.1.1.length≤1000:=ck hG.1.1 δ
  have M2:s.1.2.2.1.2.1.length≤1000:=ck hG.2.1.1 δ
  have m3:=hG.2.2.1.1
  have M3:s.1.2.2.1.2.2.1.length≤1000:=ck m3 δ
  have M4:s.1.2.2.1.2.2.2.1.length≤400:=ck L0 δ
  have M5:s.1.2.2.1.2.2.2.2.1.length≤1000:=by rw[zC];omega
  have m6:=hG.2.2.2.2.2.1.1
  have M6:s.1.2.2.1.2.2.2.2.2.1.length≤1000:=ck m6 δ
  have qr:=w.w.qr
  have qs:=w.w.qs
  generalize s.1.2.2.1=b at*
  have hv:0≤W .i64 (W .u8 (quo SN 12))∧W .i64 (W .u8 (quo SN 12))≤21:=by
   have e1:quo SN 12=SN/12:=by rw[Ya,Int.tdiv_eq_ediv_of_nonneg hh.1]
   rw[e1,av7 ω ω,aw ω ω];omega
  have mk: ∀(c':ae) (b':an) (k:Int),b'.1.length≤1000→b'.2.1.length≤1000→b'.2.2.1.length≤1000→b'.2.2.2.1.length≤400→b'.2.2.2.2.1.length≤1000→b'.2.2.2.2.2.1.length≤1000→dU b'.2.2.1→dU b'.2.2.2.1→Ok (λr=>r=true) (F3.j38 6000000 x c' b' k):=λc' b' k a1 a2 a3 a4 a5 a6 a7 a8=>
   nK (SL c' ⟨⟨ω,ω,ω,ω,ω,ω,a7,a8⟩,ω,ω⟩ a4 x k) rfl
  have ls: ∀{α:Type} {l:List α} {i:Nat} {y:α} {n:Nat},l.length≤n→(List.set l i y).length≤n:=λh=>by rw[bU];exact h
  have la: ∀{α:Type} {l:List α} {y:α} {n:Nat},l.length+1≤n→(l++[y]).length≤n:=λh=>by rw[aS,aJ];exact h
  have z12: ∀{y:Option Bool},Ok (λr=>r=true) y→Ok (λr=>r=true) (cond (aM 12 0) none y):=λh=>ok_eq (λh=>ω) λ_=>h
  have pick: ∀{α:Type} (l:List α) (f:Int→Option Bool),0<l.length→(∀i,Ok (λr=>r=true) (f i))→Ok (λr=>r=true) (cond (aM (l.length:Int) 0) none (cond (bg (rem (W .i64 (W .u8 (quo SN 12))) (l.length:Int)) l.length) (f (rem (W .i64 (W .u8 (quo SN 12))) (l.length:Int))) none)):=λl f hl hf=>
   ok_eq (λh=>ω) λ_=>aB (rem_in hv.1 ω) (hf _)
  refine aC (by rw[bZ];omega) ?_
  simp only[cD,bZ,fX]
  refine z12 (z12 (ok_eq (λ_=> ?_) λ_=>ok_eq (λ_=> ?_) λ_=>ok_eq (λ_=> ?_) λ_=>ok_eq (λ_=> ?_) λ_=>ok_eq (λ_=> ?_) λ_=>ok_eq (λ_=> ?_) λ_=>ok_eq (λ_=> ?_) λ_=>ok_eq (λ_=> ?_) λ_=>ok_eq (λ_=> ?_) λ_=>ok_eq (λ_=> ?_) λ_=>ok_eq (λ_=> ?_) λ_=> ?_))
  ·exact pick b.2.2.2.2.1 (λi=>F3.j38 6000000 x c.1 (b.1,(b.2.1,(b.2.2.1,(b.2.2.2.1,(List.set b.2.2.2.2.1 i.toNat x,b.2.2.2.2.2))))) (W .i64 (W .u8 (quo SN 12)))) (by rw[zC];omega) λi=>mk _ _ _ M1 M2 M3 M4 (ls M5) M6 qr qs
  ·exact aC (by rw[aJ];omega) (mk _ _ _ M1 M2 M3 M4 (la (by rw[zC];omega)) M6 qr qs)
  ·exact aC ω (aC (by rw[aJ];omega) (mk _ _ _ M1 M2 (la ω) M4 M5 M6 (UI qr hx) qs))
  ·exact ax (λh0=>aC ω (pick b.2.2.1 (λi=>F3.j38 6000000 x c.1 (b.1,(b.2.1,(List.set b.2.2.1 i.toNat ((γ b.2.2.1 i.toNat aZ).1,((γ b.2.2.1 i.toNat aZ).2.1,(x,(γ b.2.2.1 i.toNat aZ).2.2.2))),(b.2.2.2.1,(b.2.2.2.2.1,b.2.2.2.2.2))))) (W .i64 (W .u8 (quo SN 12)))) ω λi=>mk _ _ _ M1 M2 (ls M3) M4 M5 M6 (UJ qr hx) qs)) λ_=>mk _ _ _ M1 M2 M3 M4 M5 M6 qr qs
  ·exact aC ω (aC (by rw[aJ];omega) (mk _ _ _ M1 M2 M3 (la ω) M5 M6 qr (UI qs hx)))
  ·exact ax (λh0=>aC ω (pick b.2.2.2.1 (λi=>F3.j38 6000000 x c.1 (b.1,(b.2.1,(b.2.2.1,(List.set b.2.2.2.1 i.toNat ((γ b.2.2.2.1 i.toNat aZ).1,((γ b.2.2.2.1 i.toNat aZ).2.1,(x,(γ b.2.2.2.1 i.toNat aZ).2.2.2))),(b.2.2.2.2.1,b.2.2.2.2.2))))) (W .i64 (W .u8 (quo SN 12)))) ω λi=>mk _ _ _ M1 M2 M3 (ls M4) M5 M6 qr (UJ qs hx))) λ_=>mk _ _ _ M1 M2 M3 M4 M5 M6 qr qs
  ·exact aC ω (ok_eq (λh=>ω) λ_=>aC (by rw[aJ];omega) (mk _ _ _ M1 M2 M3 M4 M5 (la ω) qr qs))
  ·exact mk _ _ _ (bs _) M2 M3 M4 M5 M6 qr qs
  ·exact mk _ _ _ M1 (bs _) M3 M4 M5 M6 qr qs
  ·exact ax (λh0=>aC ω (pick b.2.1 (λi=>F3.j38 6000000 x c.1 (b.1,(List.set b.2.1 i.toNat ((γ b.2.1 i.toNat bb).1,(x,(γ b.2.1 i.toNat bb).2.2)),(b.2.2.1,(b.2.2.2.1,(b.2.2.2.2.1,b.2.2.2.2.2))))) (W .i64 (W .u8 (quo SN 12)))) ω λi=>mk _ _ _ M1 (ls M2) M3 M4 M5 M6 qr qs)) λ_=>mk _ _ _ M1 M2 M3 M4 M5 M6 qr qs
  ·exact mk _ _ _ M1 M2 M3 M4 M5 M6 qr qs
  ·rw[aw (x:=(c.1.1.length:Int)-1) ω ω]
   exact Ak ⟨ω,ω,ω,ω⟩ (mk _ _ _ M1 M2 M3 M4 M5 M6 qr qs)
 obtain⟨r,e,hr⟩:=key
 exact⟨6000000,by rw[e,hr]⟩
end Pure
end VM
end
