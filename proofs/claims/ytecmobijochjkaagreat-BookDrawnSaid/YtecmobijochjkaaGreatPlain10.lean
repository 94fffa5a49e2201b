/- A part of the proof of BookDrawn of layer 18: what the functions compute, in plain words. -/
import Derived.Test.YtecmobijochjkaaGreatPlain9
import Derived.Test.YtecmobijochjkaaGreatPlain8
set_option linter.all false
section
namespace VM
open Go VM.F
def StN(c:ae)(n:Nat)(s:aR):Prop:=GS (200+n) s∧oY c (200+n) s
theorem oY.mono{c:ae}{m n:Nat}{s:aR}(h:oY c m s)(hn:m≤n):oY c n s:=⟨h.1,⟨h.2.1.1,fC h.2.1.2 ω⟩,h.2.2⟩
theorem StN.mono{c:ae}{m n:Nat}{s:aR}(h:StN c m s)(hn:m≤n):StN c n s:=⟨G.mono ω h.1,h.2.mono ω⟩
def Zz(c:ae)(n:Nat)(t:cW):Prop:= ∃(s:aR) (a:Nat),t=(c,(s,((a:Int),())))∧a≤n∧StN c a s
theorem Zz.mono{c:ae}{m n:Nat}{t:cW}(h:Zz c m t)(hn:m≤n):Zz c n t:=by
 obtain⟨s,a,e,h1,h2⟩:=h
 exact⟨s,a,e,cA h1 hn,h2⟩
theorem ajg(N:Nat)(hN:5000000≤N){c:ae}(hc:G 5 aA c){t:cW}{l:dn}{m:Nat}(hm:m≤700)(hl:wU m l)(ht:Zz c l.length t):Ok (λr=>StN c l.length r.1∧Zz c l.length r.2.1∧r.2.2=l) (rE N t l):=by
 obtain⟨s,a,rfl,h1,h2⟩:=ht
 have Jg:=hl.1
 unfold rE rE.b
 generalize ((0:Int),((0:Int),_))=S0
 refine jk (len:=l.length) (F:=λn i (s:aR)=>rE.l1 N n (c,(s,(i,()))) l S0) (λi s=>StN c i s) (λn i s hi hI hr=> ?_) (λn s hI=> ?_) l.length N a s ω ω h1 h2
 all_goals unfold rE.l1 rE.l1b
 ·dsimp only
  rw[aw (x:=(i:Int)+1) ω ω,af i]
  have hx:G 0 me (l.getD (i:Int).toNat zz8):=G.at hl _
  exact ax (λ_=>aB ⟨ω,ω⟩ (ag (Ok.and (UG N hN ω ω hc hI.1 hx) (UH N hN ω ω hc hI.1 hI.2 hx)) λr ⟨BN,z6⟩=>hr r.1 ⟨BN,z6⟩)) λ_=>ω
 ·exact ax (λ_=>by dsimp only at*;omega) λ_=>aq ⟨hI,⟨s,l.length,rfl,Nat.le_refl _,hI⟩,rfl⟩
abbrev RoQ(c:ae)(p k:Nat)(r:dn×aJ×cW):Prop:=wU (p+70) r.1∧Dk (k+400) r.2.1∧Zz c r.1.length r.2.2
theorem alc{q:Int}(h:qIn q):W .u64 q=q∧q≠0:=by
 unfold qIn at h
 exact⟨eB ω ω,ω⟩
theorem wU.snoc{p:Nat}{l:dn}{x:iD}(h:wU p l)(hx:G 0 me x):wU (p+1) (l++[x]):=G.cat h (G.one hx (aH 1))
theorem BZ{α:Type}(l:List α)(x:α):(l++[x]).length=l.length+1:=by rw[aS,aK]
theorem ZA(N:Nat)(hN:5000000≤N){c:ae}(hq:Cq c){d:aJ}{t:cW}{l:dn}{p k:Nat}(hp:p≤600)(hk:k≤20000)(hl:wU p l)(hd:Dk k d)(ht:Zz c l.length t):Ok (RoQ c p k) (eI N d t l):=by
 have hc:=hq.1.1
 have Wz:=hq.f.1
 have i16:aF 16:=bx
 have i17:aF 17:=bx
 have i18:aF 18:=bx
 have i19:aF 19:=bx
 have i10:aF 10:=bx
 have i20:aF 20:=bx
 have i2:aF 2:=bx
 have z:=bY
 have Jg:=hl.1
 have E8: ∀(d:aJ) (t:cW) (l:dn),wU (p+5) l→Dk (k+20) d→Zz c l.length t→Ok (RoQ c p k) (eI.JN N d t l):=λd t l hl hd ht=>by
  have Jg:=hl.1
  unfold eI.JN eI.Da
  have SA:=wU.snoc hl (tz (m:=0) i18 z z z z z z z)
  refine aD (by rw[aK];omega) (ag (ajg N hN hc ω SA (ht.mono (by rw[BZ];omega))) λr ⟨hs,ht,he⟩=> ?_)
  rw[he]
  generalize l++[((18:Int),Np)]=l at*
  have h12:=hs.2.2.2.2
  have hL:=hs.1.2.2.2.1.2.2.2.2.2.1
  generalize r.1=s at*
  refine bs (len:=s.2.2.2.1.2.2.2.2.2.1.length) (F:=λn i (y:aJ×dn)=>eI.my N n y.1 r.2.1 y.2 s i) (s:=(_,_)) (λi y=>Dk (k+20+10*i) y.1∧wU (p+6+4*i) y.2∧l.length≤y.2.length) ⟨hd,SA,aH _⟩ ω (λn i y hi hI hr=> ?_) (λn y hI=> ?_)
  all_goals obtain⟨hd,hl,hle⟩:=hI
  all_goals unfold eI.my eI.ly
  ·refine ax (λ_=>aB ⟨ω,ω⟩ ?_) λ_=>ω
   have hx:G 900 jT (s.2.2.2.1.2.2.2.2.2.1.getD (i:Int).toNat ((0:Int),(ch,ba))):=G.mono (by have:=SA.1;omega) (G.at hL _)
   generalize s.2.2.2.1.2.2.2.2.2.1.getD (i:Int).toNat ((0:Int),(ch,ba))=x at*
   refine jk (len:=5) (F:=λn' j (w:aJ×dn)=>eI.FL N (eI.my N n) n' w.1 r.2.1 w.2 s (i:Int) x j) (λj w=>1≤j∧Dk (k+20+10*i+2*(j-1)) w.1∧wU (p+6+4*i+(j-1)) w.2∧l.length≤w.2.length) (λn' j w hj hJ dZ=> ?_) (λn' w hJ=> ?_) 5 N 1 y ω ω ω ⟨aH 1,hd,hl,hle⟩
   all_goals obtain⟨hj1,hd,hl,hle⟩:=hJ
   all_goals unfold eI.FL eI.E7
   ·have hwl:=hl.1
    rw[aw (x:=(j:Int)+1) ω ω,af j]
    refine eK (λ_=>ag (oB N δ hd (by unfold iA;omega)) λa hd=>bG (λ_=>ag (ic N δ hd (by unfold iA;omega)) λv ⟨_,hd⟩=>aD (by rw[List.length_singleton];omega) (dZ (_,_) ⟨ω,Dk.mono hd ω,G.mono ω (wU.snoc hl (tz i19 (jD ω ω) z z z hx.1 z (B0 (ZB (gH _) (by unfold aF;decide)) (by unfold aF;decide)))),by dsimp only;rw[BZ];omega⟩)) λ_=>dZ (_,_) ⟨ω,Dk.mono hd ω,G.mono ω hl,hle⟩) λ_=>ω
   ·rw[aw (x:=(i:Int)+1) ω ω,af i]
    exact eK (λ_=>ω) λ_=>hr w ⟨Dk.mono hd ω,G.mono ω hl,hle⟩
  ·have Zl:=hl.1
   obtain⟨s',a,e,xe,X0⟩:=ht
   refine ax (λ_=>ω) λ_=>ag (vg N ω hd (c:=r.2.1.1) (by rw[e];exact Wz) ω) λn1 ⟨Sz,hd⟩=> ?_
   have ald:=Sz.1
   have h5:=G.cat hl Sz
   have h5l:=h5.1
   have h6:=G.cat h5 (G.two (m:=2) (tz (m:=0) i10 z z z z z i2 z) (tz i20 z z z z z z z) (aH 2))
   exact aD ω (aD (by simp only[List.length_append,List.length_cons,List.length_nil];omega) (aq ⟨G.mono ω h6,Dk.mono hd ω,⟨s',a,e,by dsimp only;rw[List.length_append,List.length_append];omega,X0⟩⟩))
 unfold eI eI.b
 refine ag (oB N δ hd (by unfold iA;omega)) λa hd=>oZ (λ_=> ?_) λ_=>E8 _ _ _ (G.mono ω hl) (Dk.mono hd ω) ht
 have SA:=wU.snoc hl (tz (m:=0) i16 z z z z z z z)
 refine aD (by rw[aK];omega) (ag (ajg N hN hc ω SA (ht.mono (by rw[BZ];omega))) λr ⟨hs,ht,he⟩=> ?_)
 rw[he]
 generalize l++[((16:Int),Np)]=l at*
 obtain⟨h4,hg⟩:=hs.2.2.2.1
 have hH:=hs.1.2.2.2.1.2.2.2.2.1
 have hP:=hs.1.2.2.1.2.2.2.2.1
 have Yw:(r.1.2.2.1.2.2.2.2.1.length:Int)=c.1.length:=hs.2.1.n
 generalize r.1=s at*
 refine bs (len:=s.2.2.2.1.2.2.2.2.1.length) (F:=λn i (y:aJ×dn)=>eI.l5 N n y.1 r.2.1 y.2 s i) (s:=(_,_)) (λi y=>Dk (k+1+4*i) y.1∧wU (p+1+i) y.2∧l.length≤y.2.length) ⟨hd,SA,aH _⟩ ω (λn i y hi hI hr=> ?_) (λn y hI=> ?_)
 all_goals obtain⟨hd,hl,hle⟩:=hI
 all_goals unfold eI.l5 eI.dU
 ·have Zl:=hl.1
  have hx:=hg _ (qQ (d:=ba) hi)
  have hx6:G (200+l.length) fa (s.2.2.2.1.2.2.2.2.1.getD i ba):=hH.2 _ (qQ hi)
  have hu:=alc hx.2
  rw[aw (x:=(i:Int)+1) ω ω,af i,aG]
  dsimp only
  generalize s.2.2.2.1.2.2.2.2.1.getD i ba=x at*
  refine ax (λ_=>aB ⟨ω,ω⟩ (ag (oB N δ hd (by unfold iA;omega)) λa hd=>oZ (λ_=>ag (ic N δ hd (by unfold iA;omega)) λv ⟨_,hd⟩=>ag (FM N (by unfold iA;omega) hd) λw ⟨_,hd⟩=>ok_eq (λe=>absurd (hu.1.symm.trans e) hu.2) λ_=>aB ?_ (aD (by rw[List.length_singleton];omega) (hr (_,_) ⟨Dk.mono hd ω,wU.snoc hl (tz i17 z (gH _) z z hx6.1 (gH _) (G.at hP _)),by dsimp only;rw[BZ];omega⟩))) λ_=>hr (_,_) ⟨Dk.mono hd ω,G.mono ω hl,hle⟩)) λ_=>ω
  have h1:=hx.1
  have g: ∀v:Int,(0≤v∧v<(c.1.length:Int))→0≤v∧v<(s.2.2.1.2.2.2.2.1.length:Int):=λv h=>ω
  exact g _ h1
 ·exact ax (λ_=>ω) λ_=>E8 _ _ _ (G.mono ω hl) (Dk.mono hd ω) (ht.mono hle)
theorem WA(N:Nat)(hN:5000000≤N){c:ae}(hq:Cq c){d:aJ}{t:cW}{L:dn}{k j:Nat}(hk:k≤10000)(hj:j≤2)(hl:wU 220 L)(hd:Dk k d)(ht:Zz c L.length t):Ok (λr=>wU 400 r.1∧Dk (k+1500) r.2) (jU.FL N N d c t L (j:Int)):=by
 obtain⟨Wz,lq⟩:=hq.f
 have i21:aF 21:=bx
 have z:=bY
 refine wg (F:=λn x (s:aJ×cW×dn)=>jU.FL N n s.1 c s.2.1 s.2.2 x) (λx s=>x≤2∧Dk (k+400*(2-x)) s.1∧wU (220+70*(2-x)) s.2.2∧Zz c s.2.2.length s.2.1) (λn x s hI hr=> ?_) (λn s hI=> ?_) j N (d,(t,L)) ω ⟨hj,Dk.mono hd ω,G.mono ω hl,ht⟩
 all_goals obtain⟨hx,hd,hl,ht⟩:=hI
 all_goals unfold jU.FL jU.E7
 ·rw[HE ω]
  exact ax (λ_=>ag (ZA N hN hq ω ω hl hd ht) λr ⟨h1,h2,h3⟩=>hr (r.2.1,(r.2.2,r.1)) ⟨ω,Dk.mono h2 ω,G.mono ω h1,h3⟩) λ_=>ω
 ·have SA:=hl.1
  refine ax (λ_=>ω) λ_=>ag (oB N δ hd (by unfold iA;omega)) λa hd=>bG (λ_=>aD (by rw[aK];omega) (ag (vg N ω hd Wz ω) λn1 ⟨Sz,hd⟩=> ?_)) λ_=>ag (vg N ω hd Wz ω) λn1 ⟨Sz,hd⟩=> ?_
  ·have h2:=G.cat (wU.snoc hl (tz (m:=0) i21 z z z z z z z)) Sz
   have h2l:=h2.1
   have ald:=Sz.1
   exact aD (by simp only[aS,aT,ca];omega) (aq ⟨G.mono ω h2,Dk.mono hd ω⟩)
  ·have h2:=G.cat hl Sz
   have ald:=Sz.1
   exact aD ω (aq ⟨G.mono ω h2,Dk.mono hd ω⟩)
theorem WB(N:Nat)(hN:5000000≤N){c:ae}(hq:Cq c){d:aJ}{k:Nat}(hk:k≤5000)(hd:Dk k d){yl:Int}(hm:0≤yl∧yl≤100):Ok (λr=>wU 400 r.1∧Dk (k+6000) r.2) (jU N d c yl):=by
 obtain⟨Wz,lq⟩:=hq.f
 have i10:aF 10:=bx
 have i11:aF 11:=bx
 have i13:aF 13:=bx
 have i14:aF 14:=bx
 have i15:aF 15:=bx
 have i21:aF 21:=bx
 have z:=bY
 unfold jU jU.b
 refine ag (Pe N ω hq lq) λs ⟨⟨Nr,Wf⟩,_⟩=>ag (Kv N ω hd Wz hm ω) λl ⟨hl,hd⟩=>ag (ic N δ hd (by unfold iA;omega)) λv ⟨_,hd⟩=> ?_
 have ht:Zz c 0 (c,(s.1,((0:Int),()))):=⟨s.1,0,rfl,aH 0,G.mono ω Nr,Wf.mono ω⟩
 generalize s.1=S at*
 dsimp only
 have Jg:=hl.1
 have h1:=wU.snoc hl (tz (m:=0) i11 (gH (1+v.1)) z z z z z z)
 have h1l:=h1.1
 refine aD (by simp only[aS,aT,ca];omega) (ag (vg N ω hd Wz ω) λn1 ⟨Sz,hd⟩=> ?_)
 have h2:=G.cat h1 Sz
 have h2l:=h2.1
 have ald:=Sz.1
 refine aD (by simp only[aS,aT,ca];omega) (aD (by simp only[aS,aT,ca];omega) ?_)
 have h3:=wU.snoc h2 (tz (m:=0) i13 (gH (1+v.1)) z z z z z z)
 generalize hL:(l.1++[((11:Int),(W .i64 (1+v.1),dS))]++n1.1)++[((13:Int),(W .i64 (1+v.1),dS))]=L at h3
 refine jk (len:=8) (F:=λn i (y:aJ×dn)=>jU.l9 N n y.1 c (c,(S,((0:Int),()))) y.2 i) (λi y=>5≤i∧Dk (k+3200+2*(i-5)) y.1∧wU (205+(i-5)) y.2) (λn i y hi hI hr=> ?_) (λn y hI=> ?_) 8 N 5 (_,L) ω ω ω ⟨aH 5,Dk.mono hd ω,G.mono ω h3⟩
 all_goals obtain⟨hi5,hd,hl⟩:=hI
 all_goals have Zl:=hl.1
 all_goals unfold jU.l9 jU.vd
 ·rw[aw (x:=(i:Int)+1) ω ω,af i]
  exact eK (λ_=>ag (oB N δ hd (by unfold iA;omega)) λa hd=>oZ (λ_=>ag (ic N δ hd (by unfold iA;omega)) λw ⟨_,hd⟩=>aD (by rw[aK];omega) (hr (_,_) ⟨ω,Dk.mono hd ω,G.mono ω (wU.snoc hl (tz i14 (gH _) (jD ω ω) z z z z z))⟩)) λ_=>hr (_,_) ⟨ω,Dk.mono hd ω,G.mono ω hl⟩) λ_=>ω
 ·refine eK (λ_=>ω) λ_=>ag (vg N ω hd Wz ω) λn2 ⟨hn2,hd⟩=> ?_
  have h4:=G.cat hl hn2
  have h4l:=h4.1
  have aD0:=hn2.1
  refine aD ω ?_
  dsimp only
  refine ag (ic N δ hd (by unfold iA;omega)) λw ⟨_,hd⟩=> ?_
  have h5:=G.cat h4 (G.two (m:=2) (tz (m:=0) i10 z z z z z (gH (2+w.1)) z) (tz i15 z z z z z z z) (aH 2))
  have h5l:=h5.1
  refine aD (by simp only[aS,aT,ca];omega) (ag (vg N ω hd Wz ω) λn3 ⟨hn3,hd⟩=> ?_)
  have h6:=G.cat h5 hn3
  have aD1:=hn3.1
  refine aD (by simp only[aS,aT,ca];omega) (ag (ic N δ hd (by unfold iA;omega)) λu ⟨hu,hd⟩=> ?_)
  obtain⟨j,hj⟩: ∃j:Nat,u.1=(j:Int):=⟨u.1.toNat,ω⟩
  rw[hj]
  have hLl:=h6.1
  exact Mj (WA N hN hq ω ω (G.mono ω h6) hd (ht.mono (bw _))) λr hr=>⟨hr.1,Dk.mono hr.2 ω⟩
theorem WC(N:Nat)(hN:5000000≤N){c:ae}(hq:Cq c){d:aJ}{k:Nat}(hk:k≤4000)(hd:Dk k d){yl:Int}(hm:0≤yl∧yl≤100):Ok (λr=>wU 400 r.1∧Dk (k+7000) r.2) (HF N d c yl):=by
 obtain⟨Wz,lq⟩:=hq.f
 unfold HF HF.b
 refine ag (ic N δ hd (by unfold iA;omega)) λa ⟨_,hd⟩=>ok_eq (λ_=> ?_) λ_=>ok_eq (λ_=>ag (Kv N ω hd Wz hm ω) λl ⟨hl,hd⟩=>aq ⟨G.mono ω hl,Dk.mono hd ω⟩) λ_=>ag (WB N hN hq ω hd hm) λl ⟨hl,hd⟩=>aq ⟨hl,Dk.mono hd ω⟩
 rw[aw (x:=yl+1) ω ω]
 refine ag (ic N ⟨ω,ω⟩ hd (by unfold iA;omega)) λu ⟨hu,hd⟩=> ?_
 obtain⟨j,hj⟩: ∃j:Nat,u.1=(j:Int):=⟨u.1.toNat,ω⟩
 rw[hj]
 refine wg (F:=λn x (s:aJ×dn)=>HF.l5 N n s.1 c s.2 x) (λx s=>x≤100∧Dk (k+10+25*(100-x)) s.1∧wU (100-x) s.2) (λn x s hI hr=> ?_) (λn s hI=> ?_) j N (u.2,[]) ω ⟨ω,Dk.mono hd ω,G.nil⟩
 all_goals obtain⟨hx,hd,hl⟩:=hI
 all_goals unfold HF.l5 HF.dU
 ·have hs:=hl.1
  rw[HE ω]
  exact ax (λ_=>ag (HG N hd Wz ω) λr ⟨h1,h2⟩=>aD (by rw[aK];omega) (hr (_,_) ⟨ω,Dk.mono h2 ω,G.mono ω (wU.snoc hl h1)⟩)) λ_=>ω
 ·exact ax (λ_=>ω) λ_=>aq ⟨G.mono ω hl,Dk.mono hd ω⟩
theorem ZC(N:Nat)(hN:5000000≤N){c:ae}(hq:Cq c){d:aJ}(hd:Dk 1000 d){yl:Int}(hm:0≤yl∧yl≤100):Ok (λr=>(GS 900 r.1∧oY c 900 r.1)∧Dk 10000 r.2) (F18 N d c yl):=by
 obtain⟨Wz,lq⟩:=hq.f
 unfold F18
 exact ag (WC N hN hq ω hd hm) λl ⟨hl,hd⟩=>ag (ale N hN ω hq lq hl) λr hr=>aq ⟨hr,Dk.mono hd ω⟩
end VM
end
section
namespace VM
open Go VM.F Go.RowKit
def B1(x:dh):Int:=6*x.1+x.2.1
theorem Pf: ∀(l:au) (n:Int),l.Pairwise (λx y=>B1 x<B1 y)→(∀x∈l,n≤B1 x∧B1 x<150)→n≤150→(l.length:Int)≤150-n
 |[],n,_,_,hn=>by rw[ca];omega
 |x::t,n,hp,h,hn=>by
  have h1:=h x (bt ..)
  have hp:=eT.1 hp
  have:=Pf t (B1 x+1) hp.2 (λy hy=>⟨by have:=hp.1 y hy;omega,(h y (a8 _ hy)).2⟩) ω
  rw[aT];omega
theorem WD{l:au}(h:di l=true):l.length≤150:=by
 obtain⟨h1,h2⟩:=eU h
 have h1:=uK.1 h1
 have hp:l.Pairwise (λx y=>B1 x<B1 y):=by
  refine List.Pairwise.imp_of_mem (λ{x y} hx hy X2=> ?_) h1
  have hx:=(h2 x hx).1
  have hy:=(h2 y hy).1
  unfold cc at hx hy
  unfold B1
  have hk:x.1<y.1∨x.1=y.1∧x.2.1<y.2.1:=X2
  have g: ∀a b c d:Int,(0≤a∧a≤24∧0≤b∧b<6)→(0≤c∧c≤24∧0≤d∧d<6)→(a<c∨a=c∧b<d)→6*a+b<6*c+d:=λa b c d _ _ _=>ω
  exact g _ _ _ _ hx hy hk
 have:=Pf l 0 hp (λx hx=>by
  have hx:=(h2 x hx).1
  unfold cc at hx
  unfold B1
  have g: ∀a b:Int,(0≤a∧a≤24∧0≤b∧b<6)→0≤6*a+b∧6*a+b<150:=λa b _=>ω
  exact g _ _ hx) ω
 omega
theorem WE(N:Nat)(hN:1000≤N){k:Nat}{d:aJ}(h:Dk k d){c:ae}{b:an}(hR:RB c b)(hk:k≤100000):Ok (λr=>r.1.length≤6∧Dk (k+100) r.2) (pT N d c b):=by
 have hc:=(tW hR.c).1
 have EV:1≤c.1.length:=by
  have:=hR.c
  unfold eL at this
  exact(bA (dd.1 this).1).1
 have hn:(b.2.2.2.2.1.length:Int)=c.1.length:=hR.n
 unfold pT pT.b
 refine ag (ic N δ h (by unfold iA;omega)) λz ⟨hz,hd⟩=> ?_
 obtain⟨j,hj⟩: ∃j:Nat,z.1=(j:Int):=⟨z.1.toNat,ω⟩
 rw[hj]
 refine wg (F:=λn x (s:aJ×bh)=>pT.l3 N n s.1 c b s.2 x) (λx s=>x≤6∧Dk (k+1+12*(6-x)) s.1∧s.2.length≤6-x) (λn x s hI hr=> ?_) (λn s hI=> ?_) j N (z.2,[]) ω ⟨ω,Dk.mono hd ω,bw _⟩
 all_goals unfold pT.l3 pT.m3
 ·obtain⟨hx,hd,hl⟩:=hI
  have put: ∀(e:iE) (d:aJ) (q:Nat),Dk q d→q≤k+1+12*(6-x)→Ok (λr=>r.1.length≤6∧Dk (k+100) r.2) (cond (small (s.2.length+[e].length)) (pT.l3 N n d c b (s.2++[e]) (x:Int)) none):=λe d q hd hq=>aD (by rw[aK];omega) (hr (_,_) ⟨ω,Dk.mono hd ω,by rw[aS,aK];omega⟩)
  have jj: ∀(e:iE) (d:aJ) (q:Nat),Dk q d→q+1≤k+1+12*(6-x)→Ok (λr=>r.1.length≤6∧Dk (k+100) r.2) (pT.E9 N (pT.l3 N n) d c b s.2 ((x+1:Nat):Int) e):=λe d q hd hq=>by
   unfold pT.E9 pT.ym
   rw[HE ω]
   exact ok_eq (λ_=>ag (oB N δ hd (by unfold iA;omega)) λr hd=>bG (λ_=>ok_eq (λh=>ω) λ_=>put _ _ _ hd ω) λ_=>put _ _ _ hd ω) λ_=>put _ _ _ hd ω
  have jn: ∀(e:iE) (d:aJ) (q:Nat),Dk q d→q+1≤k+1+12*(6-x)→Ok (λr=>r.1.length≤6∧Dk (k+100) r.2) (pT.j9 N (pT.l3 N n) d c b s.2 ((x+1:Nat):Int) e):=λe d q hd hq=>by
   unfold pT.j9 pT.JF
   exact ax (λ_=>jj _ _ _ hd hq) λ_=>jj _ _ _ hd hq
  exact ax (λ_=>ag (ic N ⟨ω,ω⟩ hd (by unfold iA;omega)) λa ⟨ha,hd⟩=>ag (ic N δ hd (by unfold iA;omega)) λ_ ⟨_,hd⟩=>ag (ic N δ hd (by unfold iA;omega)) λ_ ⟨_,hd⟩=>ag (ic N δ hd (by unfold iA;omega)) λ_ ⟨_,hd⟩=>aB ⟨ha.1,ω⟩ (ag (ic N δ hd (by unfold iA;omega)) λ_ ⟨_,hd⟩=>ag (oB N δ hd (by unfold iA;omega)) λr hd=>
   oZ (λ_=>ag (wh N hd (by unfold iA;omega)) λ_ ⟨_,hd⟩=>ok_eq (λh=>ω) λ_=>ag (wh N hd (by unfold iA;omega)) λ_ ⟨_,hd⟩=>ok_eq (λh=>ω) λ_=>jn _ _ _ hd ω) λ_=>jn _ _ _ hd ω)) λh=>ω
 ·exact ax (λ_=>ω) λ_=>aq ⟨by have:=hI.2.2;omega,Dk.mono hI.2.1 ω⟩
namespace Pure
theorem WG(l:List Int)(p:Int)(h:WFs [.slice (.int .u64),.int .i64] (l,p)): ∃N,F8 N l p=some true:=by
 have key:Ok (λr=>r=true) (F8 6000000 l p):=by
  unfold F8 F8.b F16
  refine bO (WH 6000000 ω) (bG (λh=>nomatch h) λ_=>bO rfl (ag (WI 6000000 ω (ada h.1)) λc ⟨hc,hd⟩=>ag (ZC 6000000 ω hc hd ω) λs ⟨⟨hs,hR⟩,hd⟩=> ?_))
  have w:=G.wf ω hs.2.2.1
  have hR:=hR.1
  have h4:s.1.2.2.1.2.2.2.1.length≤400:=cA (WD (eg (qR.2 hR)).2) δ
  refine bs (len:=4) (F:=λn i (z:aJ)=>F8.l7 6000000 n p z c.1 s.1.2.2.1 i) (λi z=>Dk (10000+200*i) z) (Dk.mono hd ω) ω (λn i z hi hI hr=> ?_) (λn z hI=> ?_)
  all_goals unfold F8.l7 F8.mK
  ·rw[aw (x:=(i:Int)+1) ω ω,af i]
   exact ax (λ_=>ag (WE 6000000 ω hI hR ω) λt ⟨ht,hd⟩=>ag (wh 6000000 hd (by unfold iA;omega)) λa ⟨_,hd⟩=>ok_eq (λh=>ω) λ_=>bO (Pg 6000000 ω c.1 w h4 ω _ _ _ _) (bG (λh=>nomatch h) λ_=>hr _ (Dk.mono hd ω))) λ_=>ω
  ·exact ax (λ_=>ω) λ_=>bO (Pg 6000000 ω c.1 w h4 (bw _) _ _ _ _) (oZ (λ_=>bO (we 6000000 ω w.w) (aq (qR.2 hR))) λh=>nomatch h)
 obtain⟨r,e,hr⟩:=key
 exact⟨6000000,by rw[e,hr]⟩
end Pure
end VM
end
