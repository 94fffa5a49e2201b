/- A part of the proof of HedgeLess of layer 22: what the functions compute, in plain words. -/
import Derived.Test.YtocmlaipoebfeaaGreatPlain9
import Derived.Test.YtocmlaipoebfeaaGreatPlain8
set_option linter.all false
section
namespace VM
open Go VM.F
theorem ES(N:Nat){k:Nat}{d:bf}(h:Dk k d)(hk:k≤ua:=by first|decide|(unfold ua;omega)):Ok (λr=>(0≤r.1∧r.1<9223372036854775808)∧Dk (k+1) r.2) (MM N d):=by
 unfold MM
 refine ag (Lq N hk h) λr ⟨hr,hd⟩=>ok_eq (λ_=>ω) λ_=> ?_
 have h3:shr .u64 r.1 3=r.1/8:=by rw[vG ω ω];rfl
 have put: ∀x:Int,0≤x∧x<9223372036854775808→Ok (λr=>(0≤r.1∧r.1<9223372036854775808)∧Dk (k+1) r.2) (some (W .i64 x,r.2)):=λx hx=>aq ⟨by rw[aw ω ω];exact hx,hd⟩
 have avP: ∀y:Int,0<y∧y≤1000000000000→0≤rem (r.1/8) y∧rem (r.1/8) y<9223372036854775808:=λy hy=>by have:=rem_in (x:=r.1/8) (y:=y) ω hy.1;omega
 dsimp only
 rw[h3,apM]
 repeat' first|exact put _ ω|exact put _ (avP _ δ)|refine ax (λ_=> ?_) (λ_=> ?_)|refine ok_eq (λ_=> ?_) (λ_=> ?_)|(exfalso;omega)
def Cp(x:bT):Prop:=nK x.1 x.2.1 x.2.2.1 x.2.2.2.1
theorem Bh{c:ae}:eo c=true↔(1≤c.1.length∧c.1.length≤6)∧(∀x∈c.1,Cp x)∧qo c:=by
 unfold eo
 simp only[bB,fb]
 rw[←gX (d:=aW) (Q:=Cp)];rfl
abbrev Cq(c:ae):Prop:=(G 5 aB c∧1≤c.1.length)∧eo c=true
theorem akj{x:bT}(h:Cp x):G 5 eu x:=by
 have g: ∀a b c d:Int,nK a b c d→aE a∧aE b∧aE c∧aE d:=λa b c d h=>by unfold nK at h;unfold aE;omega
 have:=g _ _ _ _ h
 exact⟨this.1,this.2.1,this.2.2.1,this.2.2.2,trivial⟩
theorem akk{c:ae}(h:qo c)(h1:c.2.1<9223372036854775808)(h2:c.2.2.2.2.2.2.1≤1000):G 5 (.pair (.int .i64) (.pair (.int .i64) (.pair (.int .i64) (.pair (.int .i64) (.pair (.int .i64) (.pair (.int .i64) .unit)))))) c.2:=by
 have g: ∀a b c d e f:Int,nL a b c d e f→a<9223372036854775808→f≤1000→aE a∧aE b∧aE c∧aE d∧aE e∧aE f:=λa b c d e f h h1 h2=>by unfold nL at h;unfold aE;omega
 have:=g _ _ _ _ _ _ h h1 h2
 exact⟨this.1,this.2.1,this.2.2.1,this.2.2.2.1,this.2.2.2.2.1,this.2.2.2.2.2,trivial⟩
theorem VK(N:Nat)(hN:100≤N){d:bf}(h:Dk 0 d):Ok (λr=>Cq r.1∧Dk 1000 r.2) (vP N d):=by
 unfold vP vP.b
 refine ag (kV N δ h) λr hr=> ?_
 rw[aw (x:=1+r.1) ω ω]
 obtain⟨k,hk⟩: ∃k:Nat,1+r.1=(k:Int):=⟨(1+r.1).toNat,ω⟩
 rw[hk]
 have b1: ∀x y:Int,0≤x∧x<y→y≤1000000000000→1≤W .i64 (1+x)∧W .i64 (1+x)≤y:=λx y h1 h2=>by rw[aw ω ω];omega
 refine ET (F:=λn x (s:bf×aO)=>vP.l3 N n s.1 (cT,eT) (cT,eT) s.2 x) (λx s=>x+s.2.length=k∧Dk (1+20*s.2.length) s.1∧ ∀y∈s.2,Cp y) (λn x s hI hr=> ?_) (λn s hI=> ?_) k N (r.2,_) ω ⟨rfl,hr.2,λy hy=>nomatch hy⟩
 all_goals unfold vP.l3 vP.ob
 ·obtain⟨hx,hd,hG⟩:=hI
  have AK: ∀(d:bf) (x4:bT),Dk (1+20*s.2.length+10) d→Cp x4→Ok (λr=>Cq r.1∧Dk 1000 r.2) (cond (small (s.2.length+[x4].length)) (vP.l3 N n d (cT,eT) (cT,eT) (s.2++[x4]) (W .i64 (((x+1:Nat):Int)-1))) none):=λd x4 hd hx4=>by
   rw[aw (x:=((x+1:Nat):Int)-1) ω ω,show((x+1:Nat):Int)-1=(x:Int)by omega]
   refine aF (by rw[aK];omega) (hr (_,_) ⟨by rw[aM,aK];omega,Dk.mono hd (by rw[aM,aK];omega),λy hy=> ?_⟩)
   rcases bk.1 hy with hy|hy
   ·exact hG y hy
   ·rw[cr.1 hy];exact hx4
  have hj: ∀(d:bf) (x5:bT),Dk (1+20*s.2.length+6) d→Cp x5→Ok (λr=>Cq r.1∧Dk 1000 r.2) (vP.j8 N (vP.l3 N n) d (cT,eT) (cT,eT) s.2 ((x+1:Nat):Int) x5):=λd x5 hd hx5=>by
   unfold vP.j8 vP.YG
   refine ag (zA N δ hd) λr hd=>sq (λ_=> ?_) λ_=>AK _ _ (Dk.mono hd ω) hx5
   refine ag (ES N hd) λr ⟨h1,hd⟩=>ok_eq (λ_=>ω) λ_=> ?_
   dsimp only
   have e1:=rem_in h1.1 (show(0:Int)<1000000001 by decide)
   exact ag (ES N hd) λr ⟨h2,hd⟩=>ok_eq (λ_=>ω) λ_=>have e2:=rem_in h2.1 (show(0:Int)<1000000001 by decide);AK _ _ (Dk.mono hd ω) ⟨hx5.1,hx5.2.1,⟨e1.1,by dsimp only;omega⟩,⟨e2.1,by dsimp only;omega⟩⟩
  refine ax (λ_=> ?_) λ_=>ω
  refine ag (kV N δ hd) λa ⟨ha,hd⟩=>ag (kV N δ hd) λb ⟨hb,hd⟩=>ag (kV N δ hd) λc ⟨hc,hd⟩=>ag (kV N δ hd) λe ⟨he,hd⟩=>ag (zA N δ hd) λr hd=>sq (λ_=>ag (ES N hd) λr ⟨h1,hd⟩=>ok_eq (λ_=>ω) λ_=>hj _ _ (Dk.mono hd ω) ⟨⟨ha.1,by dsimp only;omega⟩,b1 _ _ (rem_in h1.1 δ) δ,⟨hc.1,by dsimp only;omega⟩,⟨he.1,by dsimp only;omega⟩⟩) λ_=>hj _ _ (Dk.mono hd ω) ⟨⟨ha.1,by dsimp only;omega⟩,⟨(b1 _ _ hb δ).1,Int.le_trans (b1 _ _ hb δ).2 δ⟩,⟨hc.1,by dsimp only;omega⟩,⟨he.1,by dsimp only;omega⟩⟩
 ·obtain⟨hx,hd,hG⟩:=hI
  have hl:s.2.length≤4∧1≤s.2.length:=ω
  have hd:Dk 900 s.1:=Dk.mono hd ω
  have fin: ∀(q t p b l m:Int),(0≤q∧q<9223372036854775808)→(0≤t∧t<5)→(0≤p∧p<3)→(0≤b∧b<3)→(0≤l∧l<20)→(0≤m∧m<100)→Cq (s.2,(q,(t,(p,(b,(W .i64 (1+l),(m,()))))))):=λq t p b l m h1 h2 h3 h4 h5 h6=>by
   have h7:=b1 _ _ h5 δ
   have hr:qo (s.2,(q,(t,(p,(b,(W .i64 (1+l),(m,()))))))):=(show nL q t p b (W .i64 (1+l)) m by unfold nL;omega)
   exact⟨⟨⟨⟨by dsimp only;omega,λy hy=>akj (hG y hy)⟩,akk hr h1.2 (show m≤1000 by omega)⟩,hl.2⟩,Bh.2 ⟨⟨hl.2,by dsimp only;omega⟩,hG,hr⟩⟩
  refine ax (λ_=>ω) λ_=>ag (kV N δ hd) λa ⟨ha,hd⟩=>ag (kV N δ hd) λb ⟨hb,hd⟩=>ag (kV N δ hd) λc ⟨hc,hd⟩=>ag (kV N δ hd) λe ⟨he,hd⟩=>ag (kV N δ hd) λf ⟨hf,hd⟩=> ?_
  dsimp only
  exact ag (kV N δ hd) λg ⟨hg,hd⟩=>ag (zA N δ hd) λr hd=>sq (λ_=>ag (ES N hd) λr ⟨hr,hd⟩=>aq ⟨fin _ _ _ _ _ _ hr hb hc he hf hg,Dk.mono hd δ⟩) λ_=>aq ⟨fin _ _ _ _ _ _ ⟨ha.1,ω⟩ hb hc he hf hg,Dk.mono hd δ⟩
theorem VL{q:Int}(h0:q≠0):eP [((1:Int),((0:Int),((-q:Int),()))),((3:Int),((0:Int),(q,())))]=true∧dz (gK [((1:Int),((0:Int),((-q:Int),()))),((3:Int),((0:Int),(q,())))]) 0:=by
 have ok:eP [((1:Int),((0:Int),((-q:Int),()))),((3:Int),((0:Int),(q,())))]=true:=by
  unfold eP
  rw[fv]
  refine a8 λj hj=> ?_
  match j,hj with
  |0,_=>exact⟨show cV 1 0 by decide,show-q≠0 by omega,λh=>absurd h δ⟩
  |1,_=>exact⟨show cV 3 0 by decide,h0,λ_=> .inl (show(1:Int)<3 by decide)⟩
 refine⟨ok,?_⟩
 unfold gK
 rw[ah ok]
 show-q+(q+0)=0
 omega
theorem R7(N:Nat)(hN:1000≤N){c:ae}(hc:Cq c)(nP:c.2.1<9223372036854775808):Ok (λr=>RB c r.1∧r.2=0) (gY N c):=by
 obtain⟨⟨hc,Jf⟩,hp⟩:=hc
 have hl:=hc.1.1
 obtain⟨h1,h2,h3⟩:=Bh.1 hp
 unfold gY gY.b
 have hj: ∀b:an,(∀p:List Int,p.length=c.1.length→eV p=true→RB c (b.1,(b.2.1,(b.2.2.1,(b.2.2.2.1,(p,b.2.2.2.2.2))))))→Ok (λr=>RB c r.1∧r.2=0) (gY.j6 N c (cg,(cT,(bq,(bq,(de,(dk,())))))) b []):=λb hb=>by
  unfold gY.j6 gY.Oe
  obtain⟨b1,b2,b3,b4,b5,b6⟩:=b
  refine bn (len:=c.1.length) (F:=λn i (z:an×List Int)=>gY.l7 N n c (cg,(cT,(bq,(bq,(de,(dk,())))))) z.1 z.2 i) (s:=((b1,(b2,(b3,(b4,(b5,b6))))),_)) (λi z=>(z.1.1=b1∧z.1.2.1=b2∧z.1.2.2.1=b3∧z.1.2.2.2.1=b4∧z.1.2.2.2.2.2=b6)∧z.2.length=i∧ ∀x∈z.2,1≤x∧x≤1000000000000) ⟨⟨rfl,rfl,rfl,rfl,rfl⟩,rfl,λx hx=>nomatch hx⟩ ω (λn i z hi hI hr=> ?_) (λn z hI=> ?_)
  all_goals unfold gY.l7 gY.p6
  all_goals obtain⟨hz,hzl,hzp⟩:=hI
  ·rw[aw (x:=(i:Int)+1) ω ω,af i,aG]
   have hx:=(h2 _ (u6 (d:=aW) hi)).2.1
   exact ax (λ_=>aA ⟨ω,ω⟩ (aF (by rw[List.length_singleton];omega) (hr (_,_) ⟨hz,by dsimp only;rw[List.length_append,List.length_singleton];omega,λy hy=>by
    rcases bk.1 hy with hy|hy
    ·exact hzp y hy
    ·rw[cr.1 hy];exact hx⟩))) λ_=>ω
  ·refine ax (λ_=>ω) λ_=>aq ⟨?_,rfl⟩
   obtain⟨z1,z2,z3,z4,z5⟩:=hz
   dsimp only
   rw[z1,z2,z3,z4,z5]
   refine hb _ hzl ?_
   unfold eV
   exact a8 ((gX (d:=(0:Int)) (Q:=λx=>1≤x∧x≤1000000000000)).2 hzp)
 have mk: ∀r:au,eP r=true→dz (gK r) 0→(∀x∈r,jw [] [] x.1 x.2.1)→ ∀p:List Int,p.length=c.1.length→eV p=true→RB c (([]:aD),(([]:aO),(r,(([]:au),(p,(([]:bm),())))))):=λr r1 r2 r3 p p1 p2=>
  ⟨hp,(show dB []=true by decide),(show gh []=true by decide),λx hx=>(nomatch hx),r1,r2,(show oJ []=true by decide),(show dv []=true by decide),show(p.length:Int)=c.1.length by omega,r3,λx hx=>(nomatch hx),λx hx=>(nomatch hx),p2⟩
 refine bw (nM N ω c) (bz (λh=>by rw[hp]at h;exact nomatch h) λ_=>bt (λh0=>hj _ ?_) λ_=>hj _ ?_)
 ·have hs:0≤c.2.1:=h3.1
  have e: ∀q:Int,0≤q→q<9223372036854775808→W .i64 (0-q)= -q:=λq h1 h2=>by rw[aw ω ω];omega
  have h0:(c.2.1:Int)≠0:=h0
  rw[e _ hs nP]
  obtain⟨ok,tot⟩:=VL h0
  refine mk _ ok tot λx hx=> ?_
  rcases aZ.1 hx with rfl|hx
  ·exact⟨λh=>absurd h (show ¬dz 1 5 by decide),λh=>absurd h (show ¬(dz 1 6∨dz 1 7)by decide)⟩
  ·rw[cr.1 hx];exact⟨λh=>absurd h (show ¬dz 3 5 by decide),λh=>absurd h (show ¬(dz 3 6∨dz 3 7)by decide)⟩
 ·exact mk [] δ δ λx hx=>nomatch hx
theorem akl(N:Nat)(hN:5000000≤N){c:ae}{l:jF}{m:Nat}(hm:m≤700)(hc:Cq c)(nP:c.2.1<9223372036854775808)(hl:Xp m l):Ok (λr=>GS 900 r.1∧qN c 900 r.1) (Gw N c l):=by
 have H8:=hl.1
 unfold Gw Gw.b akm
 have hb:Ok (λr:aV×Int=>(GS 5 r.1∧qN c 5 r.1)∧r.2=0) ((gY N c).bind λr1=>cond (!aN r1.2 0) (some (Ty.zero eg,r1.2)) (some (((0:Int),((1:Int),(r1.1,(Ty.zero pH,(Ty.zero gi,()))))),(0:Int)))):=ag (Ok.and (R8 N ω hc.1.1) (R7 N ω hc nP)) λb ⟨mJ,uM,hb3⟩=>bt (λh=>absurd hb3 h) λ_=>aq ⟨⟨⟨bx,(show aE 1 from bD),mJ,G.zero 5 pH,G.zero 5 gi,trivial⟩,uM,(show(1:Int)≤1 by decide),(show(1:Int)≤2000*((5:Nat):Int)by decide)⟩,rfl⟩
 refine ag hb λb ⟨⟨mJ,uM⟩,hb3⟩=>bt (λh=>absurd hb3 h) λ_=>bn (len:=l.length) (F:=λn i (z:aV×au)=>Gw.l6 N n l c (Ty.zero eg) z.1 z.2 i) (s:=(_,_)) (λi z=>(GS (200+i) z.1∧qN c (200+i) z.1)∧z.2.length≤i) ⟨⟨G.mono ω mJ,uM.1,uM.2.1,fU uM.2.2 δ⟩,aH 0⟩ ω (λn i z hi hI hr=> ?_) (λn z hI=> ?_)
 all_goals unfold Gw.l6 Gw.tX
 all_goals obtain⟨⟨h1,h3⟩,h2⟩:=hI
 ·rw[aw (x:=(i:Int)+1) ω ω,af i]
  have hx:G 0 pI (l.getD (i:Int).toNat zz8):=G.at hl _
  exact ax (λ_=>aA ⟨ω,ω⟩ (ag (Ok.and (acy N hN ω ω hc.1.1 h1 hx) (acz N hN ω ω hc.1.1 h1 h3 hx)) λr ⟨zS,AH⟩=>aF (by rw[List.length_singleton];omega) (hr (r.1,z.2++[r.2]) ⟨⟨zS,AH⟩,by dsimp only;rw[List.length_append,List.length_singleton];omega⟩))) λ_=>ω
 ·exact ax (λ_=>ω) λ_=>aq ⟨G.mono ω h1,h3.1,h3.2.1,fU h3.2.2 ω⟩
theorem Cq.f{c:ae}(h:Cq c):Cf c∧c.2.1<9223372036854775808:=⟨⟨h.1.1,h.1.2⟩,h.1.1.2.1.2⟩
theorem R9(N:Nat)(hN:5000000≤N){d:bf}{c:ae}(h:Dk 1000 d)(hq:Cq c){Oy:Int}(hm:0≤Oy∧Oy≤100):Ok (λr=>(GS 900 r.1∧qN c 900 r.1)∧Dk 100000 r.2) (F28 N d c Oy):=by
 obtain⟨hc,nP⟩:=hq.f
 unfold F28
 refine ag (VN N ω h hc hm ω) λl ⟨hl,hd⟩=>ag (kV N δ hd) λv ⟨hv,hd⟩=> ?_
 have H8:=hl.1
 have e1: ∀(k:Int) {x:Int},aE k→aE x→G 0 pI (k,(x,eT)):=λk x hk hx=>En hk hx bx bx bx bx bx bx
 have i11:aE 11:=bD
 have i13:aE 13:=bD
 have i10:aE 10:=bD
 have i15:aE 15:=bD
 have i2:aE 2:=bD
 dsimp only
 have h4:=G.cat hl (G.two (m:=2) (e1 11 i11 (gE (1+v.1))) (e1 13 i13 (gE (1+v.1))) (aH 2))
 have h4l:=h4.1
 refine aF (by rw[tC];omega) (ag (Oz N ω hd hc ω) λn1 ⟨hn1,hd⟩=> ?_)
 have h5:=G.cat h4 hn1
 have h5l:=h5.1
 have avR:=hn1.1
 refine aF ω (aF (by rw[tC];omega) (ag (Oz N ω hd hc ω) λn2 ⟨hn2,hd⟩=> ?_))
 have h6:=G.cat h5 (G.two (m:=2) (En i10 bx bx bx bx bx i2 bx) (e1 15 i15 bx) (aH 2))
 have h6l:=h6.1
 have avS:=hn2.1
 exact aF (by simp only[aM,aR,ck]at h4l h5l h6l avR avS ⊢;omega) (ag (akl N hN ω hq nP (G.cat h6 hn2)) λr hr=>aq ⟨hr,Dk.mono hd ω⟩)
end VM
end
section
namespace VM
open Go VM.F Go.RowKit
theorem Bi(c:ae)(b:an)(next:Int): ∀(m k:Nat) (out:aO),out<+:yP c b next m k out
 |0,_,out=>List.prefix_refl _
 |m+1,k,out=>by
  rw[yq]
  split
  ·exact Bi c b next m _ out
  ·split
   ·exact Bi c b next m _ out
   ·exact(List.prefix_append _ _).trans (Bi c b next m _ _)
theorem akn{α:Type}{l o:List α}{x d:α}(h:l++[x]<+:o):l.length<o.length∧o.getD l.length d=x:=by
 obtain⟨t,e⟩:=h
 rw[←e]
 refine⟨by rw[aM,aM,aK];omega,?_⟩
 rw[aU,bH,lY (aH _),lG];rfl
theorem acA(f:Int→Int){k:Nat}(hk:k<4):(il f).getD k cv=bS (f (k:Int)):=by
 match k,hk with
 |0,_=>rfl
 |1,_=>rfl
 |2,_=>rfl
 |3,_=>rfl
theorem acB{x:Int}:p5 x≤0↔x≤0:=by unfold p5;split<;>(try split)<;>omega
theorem EU{x:Int}:p5 x<0↔x<0:=by unfold p5;split<;>(try split)<;>omega
theorem T3{x:Int}:0<p5 x↔0<x:=by unfold p5;split<;>(try split)<;>omega
theorem YH{a p q:Int}(ha:0≤a)(hp:1≤p)(hq:q=if a/p≤1000000000 then a/p else 1000000000):0≤a-p*q∧(p≤a-p*q→q=1000000000)∧(q=0↔a<p):=by
 have h1:p*(a/p)≤a:=Int.mul_ediv_self_le ω
 have h2:a<p*(a/p)+p:=Int.lt_mul_ediv_self_add ω
 have h0:0≤a/p:=kL ha ω
 generalize a/p=r at*
 by_cases h:r≤1000000000
 ·rw[ah h]at hq
  subst hq
  refine⟨ω,λh'=>ω,λh'=> ?_,λh'=> ?_⟩
  ·subst h';omega
  ·by_cases e:q=0
   ·exact e
   ·have:p*1≤p*q:=kG ω ω
    omega
 ·rw[aj h]at hq
  subst hq
  have:p*1000000000≤p*r:=kG ω ω
  exact⟨ω,λ_=>rfl,λh'=>absurd h' δ,λh'=>ω⟩
theorem acC{z v:Int}(h0:0≤z)(h1:0≤(v.natAbs:Int)-z):((v.natAbs:Int)-z).natAbs≤v.natAbs:=ω
def nxI(x:Int):Prop:=1≤x∧x≤2000000
theorem VO(N:Nat)(hN:5000000≤N){c:ae}{s:aV}(w:iM s.2.2.1)(hR:RB c s.2.2.1)(hm:aE (xJ c))(hn:nxI s.2.1){o:aO}(ol:o.length≤100000):
  ∀(m k:Nat) (out:aO) (n:Nat),k+m=4→m<n→out.length≤k→yP c s.2.2.1 s.2.1 m k out=o→Ok (λr=>r=true) (Cr.lx N n c s (il (dM c s.2.2.1)) o (out.length:Int) (k:Int)):=by
 have hB:=ub.2 hR
 have Ja:c.1.length≤100000:=by have:=(Bh.1 hR.c).1.2;omega
 have h0:0≤xJ c:=T4 hB
 intro m
 induction m with
 |zero=>
  intro k out n hk hn' hl e
  have e:out=o:=e
  subst e
  obtain⟨n,rfl⟩: ∃j,n=j+1:=⟨n-1,ω⟩
  unfold Cr.lx Cr.kt
  exact ax (λ_=>ω) λ_=>aq (dF rfl)
 |succ m ih=>
  intro k out n hk hn' hl e
  obtain⟨n,rfl⟩: ∃j,n=j+1:=⟨n-1,ω⟩
  have k4:k<4:=ω
  have skip:yP c s.2.2.1 s.2.1 m (k+1) out=o→Ok (λr=>r=true) (Cr.lx N n c s (il (dM c s.2.2.1)) o (out.length:Int) ((k+1:Nat):Int)):=λe=>ih (k+1) out n ω ω ω e
  have n1:=OA w hB (k:Int)
  have hf:=vQ n1.1
  have hf2:Fit ((dM c s.2.2.1 (k:Int)).natAbs:Int) 900000:=Fit.of_le hf ω
  have ex:=T6 w hB (k:=(k:Int))
  rw[yq]at e
  have hmf:Fit (xJ c) 900000:=(Fit.i64 hm.1 hm.2).mono ω
  unfold Cr.lx Cr.kt
  refine ax (λ_=>bw (Gx N ω c Ja _) (aA ⟨ω,show(k:Int)<4 by omega⟩ ?_)) λ_=>ω
  rw[aG,acA _ k4,aw (x:=(k:Int)+1) ω ω,af k]
  refine bw (YI N ω n1.1) (bw (Oj N ω hf) (ok_eq (λhe=> ?_) λiI=> ?_))
  ·have Vn:cj c (k:Int)=[]:=ta ω
   have hz:=Gy (b:=s.2.2.1) hR.c Vn
   rw[hz]at e ⊢
   rw[ah (show((0:Int).natAbs:Int)≤xJ c from h0)]at e
   exact bw (mj N 0) (bt (λh=>absurd rfl h) λ_=>skip e)
  ·have Xq:cj c (k:Int)≠[]:=λh=>by rw[h]at iI;exact iI rfl
   have ako:aY ((cj c (k:Int)).getD 0 0) s.2.2.1.2.2.2.2.1.length=true∧cC (s.2.2.1.2.2.2.2.1.getD ((cj c (k:Int)).getD 0 0).toNat 0):=by
    obtain⟨hp,EK⟩:=dy hB
    have hh:0≤(cj c (k:Int)).getD 0 0∧(cj c (k:Int)).getD 0 0<(c.1.length:Int):=by
     unfold cj at Xq ⊢
     rw[hR.c,ah rfl]at Xq ⊢
     have:=tD Xq
     omega
    exact⟨aS ω ω,sr EK ω⟩
   have avT:0≤(cj c (k:Int)).getD 0 0∧(cj c (k:Int)).getD 0 0<6:=by
    have h1:=ako.1
    rw[Rx]at h1
    have:=bA h1
    have hp:=(dy hB).1
    have:=(Bh.1 hR.c).1.2
    omega
   generalize hi0:(cj c (k:Int)).getD 0 0=i0 at*
   have hlen:0<(cj c (k:Int)).length:=o7.2 Xq
   refine aA ⟨dP 0,ω⟩ ?_
   rw[show(0:Int).toNat=0 from rfl,hi0,ako.1,ak]
   have hpi:=ako.2
   rw[show(c.2.2.2.2.2.2.1:Int)=xJ c from rfl]
   unfold aE at hm
   have hq:lS c s.2.2.1 (k:Int)=(i0,((if 0<dM c s.2.2.1 (k:Int)then 2 else 1),Xr (dM c s.2.2.1 (k:Int)) (s.2.2.1.2.2.2.2.1.getD i0.toNat 0))):=by unfold lS;rw[hi0]
   rw[hq]at e
   generalize s.2.2.1.2.2.2.2.1.getD i0.toNat 0=p at*
   have D2:=hpi
   unfold cC at D2
   have hpf:Fit p 900000:=(Fit.i64 ω ω).mono ω
   obtain⟨l1,l2,l3⟩:=YH (a:=((dM c s.2.2.1 (k:Int)).natAbs:Int)) (p:=p) (q:=Xr (dM c s.2.2.1 (k:Int)) p) ω D2.1 rfl
   generalize dM c s.2.2.1 (k:Int)=v at*
   refine bw (da N ω ω ω) (bw (da N ω hm.1 hm.2) (bw (Ch N ω hf2 hmf) (ew (λh=> ?_) λh=> ?_)))
   ·have h:=acB.1 h
    rw[ah ω]at e
    exact skip e
   ·have h:=T3.1 h
    rw[aj ω]at e
    refine bw (Ch N ω hf2 hpf) (ax (λh=> ?_) λh'=> ?_)
    ·have h:=EU.1 h
     rw[ah (l3.2 ω)]at e
     exact skip e
    ·have h':=mt EU.2 (rO.2 h')
     have wT:Xr v p≠0:=λk=>by have:=l3.1 k;omega
     rw[aj wT]at e
     have Gd:=Bi c s.2.2.1 s.2.1 m (k+1) (out++[(s.2.1+(out.length:Int),(i0,((if 0<v then(2:Int)else 1),(Xr v p,()))))])
     rw[e]at Gd
     obtain⟨ol1,ol2⟩:=akn (d:=aW) Gd
     have qi:T7 (Xr v p):=by
      have:=(T8 n1.2 hpi).1
      unfold T7 Xr at*
      split at wT<;>split<;>omega
     have qi':=qi
     unfold T7 at qi'
     have nx: ∀x:Int,nxI x→(1≤x+(out.length:Int)∧x+(out.length:Int)≤1099511627776)∧W .i64 (x+(out.length:Int))=x+(out.length:Int):=λx h=>by unfold nxI at h;exact⟨ω,aw ω ω⟩
     have Xh:pg (s.2.1+(out.length:Int),(i0,((if 0<v then(2:Int)else 1),(Xr v p,())))):=by
      refine⟨(nx _ hn).1,avT,?_,qi⟩
      ·dsimp only
       split
       ·exact .inr rfl
       ·exact .inl rfl
     have hw:W .i64 (s.2.1+(out.length:Int))=s.2.1+(out.length:Int):=(nx _ hn).2
     have hw2:W .i64 ((out.length:Int)+1)=((out.length+1:Nat):Int):=by rw[aw ω ω];omega
     have go:=ih (k+1) _ n ω ω (by rw[aM,aK];omega) e
     rw[aM,aK]at go
     refine ew (λh=>absurd h ω) λ_=>aA ⟨ω,ω⟩ (aA ⟨dP 0,ω⟩ ?_)
     rw[aG,ol2,hw,hw2]
     dsimp only
     have l0:0≤p*Xr v p:=ka ω ω
     have qf:Fit (Xr v p) 80000:=(Fit.i64 ω ω).mono ω
     have pf:Fit p 80000:=(Fit.i64 ω ω).mono ω
     have mf:Fit (p*Xr v p) 900000:=(Fit.mul ((Fit.i64 ω ω).mono (show 2≤4 by omega)) ((Fit.i64 ω ω).mono (show 2≤4 by omega))).mono ω
     have lf:Fit ((v.natAbs:Int)-p*Xr v p) 900000:=Fit.of_le hf (acC l0 l1)
     refine bt (λh=>absurd rfl h) λ_=>aA ⟨ω,ω⟩ (bw (mj N v) (bz (λh=> ?_) λ_=>aA ⟨ω,ω⟩ (bw (uc N _) (bz (λh=>absurd Xh (Fo h)) λ_=>aA ⟨ω,ω⟩ (bt (λh=>absurd rfl h) λ_=>aA ⟨ω,ω⟩ (bw (da N ω ω ω) (bw (uX N ω (pf.mono ω) (qf.mono ω)) (bw (tx N ω hf2 mf) (bw (mj N _) (ax (λh=>absurd (EU.1 h) ω) λ_=>bw (Ch N ω lf hpf) (ew (λh=>aA ⟨ω,ω⟩ (bt (λhx=>absurd (l2 ?_) hx) λ_=>go)) λ_=>go)))))))))))
     ·exfalso
      rw[nJ]at h
      have hs:=T3 (x:=v)
      by_cases hv:0<v
      ·rw[ah hv,dF rfl,aQ (hs.2 hv)]at h;exact nomatch h
      ·rw[aj hv,dG δ,aP ω]at h;exact nomatch h
     ·have:=mt EU.2 (rO.2 h)
      omega
namespace Pure
theorem VP(l:List Int)(h:WFs [.slice (.int .u64)] l): ∃N,Cr N l=some true:=by
 have key:Ok (λr=>r=true) (Cr 6000000 l):=by
  unfold Cr Cr.b F13
  refine bw (VQ 6000000 ω) (bz (λh=>nomatch h) λ_=>bw rfl (ag (VK 6000000 ω (acD h.1)) λc ⟨hc,hd⟩=>ag (R9 6000000 ω hd hc ω) λs ⟨⟨hs,hR⟩,_⟩=> ?_))
  have w:=G.wf ω hs.2.2.1
  have hm:aE (xJ c.1):=hc.1.1.2.2.2.2.2.2.1
  have hB:=ub.2 hR.1
  have hn:nxI s.1.2.1:=⟨hR.2.1,fU hR.2.2 δ⟩
  have H8:=Sa c.1 s.1.2.2.1 s.1.2.1
  refine bw (Lr 6000000 ω c.1 w.w) (bw (Gz 6000000 ω c.1 hm w.w _) ?_)
  rw[ah hB]
  have ho:ss c.1 s.1.2.2.1 s.1.2.1=(yP c.1 s.1.2.2.1 s.1.2.1 4 0 [],0):=by
   unfold ss
   rw[ah hB,ah ⟨hn.1,fU hn.2 δ⟩]
  rw[ho]at H8 ⊢
  refine bt (λh=>absurd rfl h) λ_=>bt (λh=>absurd rfl h) λ_=>bt (λh=>absurd rfl h) λ_=> ?_
  exact VO 6000000 ω w.w hR.1 hm hn (by dsimp only at H8;omega) 4 0 [] 6000000 rfl ω (Nat.le_refl 0) rfl
 obtain⟨r,e,hr⟩:=key
 exact⟨6000000,by rw[e,hr]⟩
end Pure
end VM
end
