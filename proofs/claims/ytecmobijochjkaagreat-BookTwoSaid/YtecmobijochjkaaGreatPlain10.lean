/- A part of the proof of BookTwo of layer 18: what the functions compute, in plain words. -/
import Derived.Test.YtecmobijochjkaaGreatPlain9
set_option linter.all false
namespace VM
open Go VM.F Go.RowKit
theorem Mb{α:Type}{P:α→Prop}{o:Option α}{v:α}(h:Ok P o)(e:o=some v):P v:=by
 obtain⟨r,e1,hr⟩:=h
 rw[e]at e1;cases e1;exact hr
theorem Wr(a x y:Int):(mK a x).1=(mK a y).1∧(mK a x).2.1=(mK a y).2.1:=by unfold mK;split<;>exact⟨rfl,rfl⟩
theorem C0(inst d a i:Int)(hd:d≠0): ∀l:au,cO a i (dA inst d l)=cO a i (dA inst 1 l)*d
 |[]=>by show(0:Int)=0*d;rw[xk]
 |x::t=>by
  have ih:=C0 inst d a i hd t
  rw[jK,jK]
  by_cases hx:x.2.1=inst
  ·have hk:=Wr x.1 (dJ x*d) (dJ x*1)
   rw[aj ⟨hx,hd⟩,aj ⟨hx,δ⟩,ib,ib,ih,fX,fX,hk.1,hk.2,nX]
   split
   ·rw[Int.mul_one]
   ·rw[xk]
  ·rw[ah (λh=>hx h.1),ah (λh=>hx h.1),ih]
theorem Ef(inst:Int): ∀l:au,dA inst 0 l=[]
 |[]=>rfl
 |x::t=>by rw[jK,ah (λh=>h.2 rfl)];exact Ef inst t
theorem SJ(inst:Int){d e:Int}(hde:e= -d)(a i:Int)(l:au):cO a i (dA inst d l++dA inst e l)=0:=by
 subst hde
 rw[vT]
 by_cases hd:d=0
 ·subst hd;rw[show-(0:Int)=0 from rfl,Ef];rfl
 ·rw[C0 inst d a i hd,C0 inst (-d) a i ω,xm];omega
theorem Ki{b:an}{s e:au}(h:(cc b s e).2≠0):(cc b s e).1=(cf,(cS,(bn,(bn,(dd,(dm,()))))))∧(cc b s e).2=2:=by
 rcases sC b s e with⟨h1,h2⟩|⟨s1,r1,h1,h2,h3⟩
 ·exact⟨h2,h1⟩
 ·rw[h3]at h;exact absurd rfl h
theorem SK{c:ae}{b:an}{l:bf}(h:(ll c b l).2≠0):(ll c b l).1=(cf,(cS,(bn,(bn,(dd,(dm,())))))):=by
 unfold ll at h ⊢
 repeat' split
 all_goals first|rfl|skip
 rename_i h1 h2 h3 h4
 rw[aj h1,aj h2,aj h3,aj h4]at h
 exact(Ki h).1
theorem Ws{b:an}{s e:au}{x:an}(h:cc b s e=(x,0))(ps:List Int×(aY×Unit)):cc (b.1,(b.2.1,(b.2.2.1,(b.2.2.2.1,ps)))) s e=((b.1,(b.2.1,(x.2.2.1,(x.2.2.2.1,ps)))),0):=by
 rcases sC b s e with⟨h1,_⟩|⟨s1,r1,h1,h2,h3⟩
 ·rw[h]at h1;exact absurd (show(0:Int)=2 from h1) δ
 ·rw[h3]at h
  have hx:=(Prod.mk.inj h).1
  rw[←hx]
  unfold cc
  dsimp only
  rw[h1,h2]
theorem Wt{c:ae}{t:an}{i p:Int}(hR:RB c t)(qr:dV t.2.2.1)(qs:dV t.2.2.2.1)(hi:0≤i∧i<(c.1.length:Int))(hp:cF p)(h0:(ec c t i p).2.2=0)(hm:RB c (ec c t i p).1):
    (ec c (ec c t i p).1 i (t.2.2.2.2.1.getD i.toNat 0)).2.2=0∧(ec c (ec c t i p).1 i (t.2.2.2.2.1.getD i.toNat 0)).1=t:=by
  have hB:=ot.2 hR
  have Bo:=dY hB
  have vl:=dE hB
  have zB:i.toNat<t.2.2.2.2.1.length:=by rw[Bo.1];omega
  have hq:cF (t.2.2.2.2.1.getD i.toNat 0):=ou Bo.2 zB
  have e1:ec c t i p=(if(cc t [] (dA i (p-t.2.2.2.2.1.getD i.toNat 0) t.2.2.2.1)).2=0 then
      (qb (cc t [] (dA i (p-t.2.2.2.2.1.getD i.toNat 0) t.2.2.2.1)).1 t.2.2.2.2.1 i p,dA i (p-t.2.2.2.2.1.getD i.toNat 0) t.2.2.2.1,0)
     else((cf,(cS,(bn,(bn,(dd,(dm,())))))),[],(cc t [] (dA i (p-t.2.2.2.2.1.getD i.toNat 0) t.2.2.2.1)).2)):=by
    unfold ec;rw[aj hB,aj hp,aj hi]
  by_cases hz:(cc t [] (dA i (p-t.2.2.2.2.1.getD i.toNat 0) t.2.2.2.1)).2=0
  rotate_left
  · rw[e1,ah hz]at h0;exact absurd h0 hz
  rw[aj hz]at e1
  rw[e1]at hm ⊢
  dsimp only at hm ⊢
  have zG:=SL (s':=[]) (e':=dA i (t.2.2.2.2.1.getD i.toNat 0-p) t.2.2.2.1) hz
  rw[cw]at zG
  have aqg:=SM vl.1 vl.2 qr qs (s:=[]) (e:=dA i (p-t.2.2.2.2.1.getD i.toNat 0) t.2.2.2.1++dA i (t.2.2.2.2.1.getD i.toNat 0-p) t.2.2.2.1) (λ_ _=>rfl) (λa k=>SJ i ω a k _)
  rw[aqg]at zG
  have Sh:=BQ hz
  have awg:(cc t [] (dA i (p-t.2.2.2.2.1.getD i.toNat 0) t.2.2.2.1)).1.2.2.2.1=t.2.2.2.1:=by
    rcases sC t [] (dA i (p-t.2.2.2.2.1.getD i.toNat 0) t.2.2.2.1)with⟨h1,_⟩|⟨s1,r1,h1,h2,h3⟩
    · rw[h1]at hz;exact absurd hz δ
    · rw[h3]
      rw[Hr vl.2 qs]at h1
      exact(mw h1).symm
  generalize (cc t [] (dA i (p-t.2.2.2.2.1.getD i.toNat 0) t.2.2.2.1)).1=M at*
  have hBm:=ot.2 hm
  have hlen:(List.set t.2.2.2.2.1 i.toNat p).length=t.2.2.2.2.1.length:=bN
  have hgp:(List.set t.2.2.2.2.1 i.toNat p).getD i.toNat 0=p:=by rw[aV,F1 zB];rfl
  have hmv:=Ws zG (qb M t.2.2.2.2.1 i p).2.2.2.2
  have hrs:(qb M t.2.2.2.2.1 i p).2.2.2.1=t.2.2.2.1:=awg
  have hrp:(qb M t.2.2.2.2.1 i p).2.2.2.2.1=List.set t.2.2.2.2.1 i.toNat p:=rfl
  have awh:cc (qb M t.2.2.2.2.1 i p) [] (dA i (t.2.2.2.2.1.getD i.toNat 0-p) t.2.2.2.1)=((M.1,(M.2.1,(t.2.2.1,(t.2.2.2.1,(qb M t.2.2.2.2.1 i p).2.2.2.2)))),0):=hmv
  unfold ec
  rw[aj hBm,aj hq,aj hi,hrp,hgp,hrs,awh,aj rfl]
  refine⟨rfl,?_⟩
  show(M.1,(M.2.1,(t.2.2.1,(t.2.2.2.1,(List.set (List.set t.2.2.2.2.1 i.toNat p) i.toNat (t.2.2.2.2.1.getD i.toNat 0),M.2.2.2.2.2)))))=t
  rw[Sh.2.1,Sh.2.2,Sh.1,List.set_set]
  have hs:List.set t.2.2.2.2.1 i.toNat (t.2.2.2.2.1.getD i.toNat 0)=t.2.2.2.2.1:=by
    rw[aV,bo zB]
    exact List.set_getElem_self zB
  rw[hs]
theorem Wu{c:ae}{t:an}{i p:Int}(hB:df c t=true)(hi:0≤i∧i<(c.1.length:Int))(hp:cF p)(h0:(ec c t i p).2.2≠0):(ec c t i p).2.2=2:=by
 unfold ec at h0 ⊢
 rw[aj hB,aj hp,aj hi]at h0 ⊢
 split
 ·rename_i hz;rw[aj hz]at h0;exact absurd rfl h0
 ·rename_i hz;exact(Ki hz).2
namespace Pure
theorem ac0(l:List Int)(p:Int)(h:WFs [.slice (.int .u64),.int .u32] (l,p)): ∃N,F10 N l p=some true:=by
 have key:Ok (λr=>r=true) (F10 6000000 l p):=by
  have aDH:0≤p∧p≤4294967295:=wf_u32.1 h.2.1
  unfold F10 F16
  refine bH (Wv 6000000 ω) (bF (λh=>nomatch h) λ_=>bH rfl (ag (Ww 6000000 ω (ac1 h.1)) λc ⟨hc,hd⟩=>ag (Zm 6000000 ω hc hd ω) λs ⟨⟨hs,hR⟩,hd⟩=> ?_))
  have hG:=hs.2.2.1
  have w:=G.wf ω hG
  have hR:=hR.1
  have hc6:=(qc hR.c).1
  have DT:1≤c.1.1.length:=by
   have:=hR.c
   unfold eJ at this
   exact(bt (c5.1 this).1).1
  refine ag (gX 6000000 ⟨ω,ω⟩ hd (by unfold iq;omega)) λi ⟨hi,hd⟩=>ag (Wx 6000000 ω hd hR ω) λtr ⟨gy,_⟩=>bH (Kj 6000000 ω c.1 w ω) ?_
  have hrb:JA c.1 s.1.2.2.1 (ll c.1 s.1.2.2.1 tr.1):=Mb (C1 6000000 ω ω hG hR) (Hs 6000000 ω c.1 w ω)
  have hgt:G 900 aJ (ll c.1 s.1.2.2.1 tr.1).1:=Mb (P:=λr:an×Int=>G 900 aJ r.1) (C2 6000000 ω c.1 ω ω hG) (Hs 6000000 ω c.1 w (show tr.1.length≤100000 by omega))
  refine bG (λhe=> ?_) λhe=> ?_
  ·rw[SK he]
   exact ok_eq (λ_=>aq (dZ rfl)) λh=>absurd rfl h
  have ht:=(hrb he).1
  generalize (ll c.1 s.1.2.2.1 tr.1).1=t at*
  have wt:=G.wf ω hgt
  have hBt:=ot.2 ht
  have h4:t.2.2.2.1.length≤400:=cv (Kk (dE hBt).2) δ
  have EM:cF (1+p):=by unfold cF;omega
  have ca:0≤i.1∧i.1<(c.1.1.length:Int):=hi
  have Bl:=(dY hBt).1
  rw[aw (x:=p) ω ω,aw (x:=1+p) ω ω]
  refine bH (Mc 6000000 ω c.1 wt h4 i.1 (1+p)) ?_
  have hrm:(ec c.1 t i.1 (1+p)).2.2=0→RB c.1 (ec c.1 t i.1 (1+p)).1:=Mb (Eg 6000000 ω ω hgt ht i.1 (1+p)) (O3 6000000 ω c.1 wt h4 i.1 (1+p))
  have hgm:G 900 aJ (ec c.1 t i.1 (1+p)).1:=(Mb (yd 6000000 ω c.1 ω ω hgt i.1 (p:=1+p) (by unfold aF;omega)) (O3 6000000 ω c.1 wt h4 i.1 (1+p))).1
  refine bG (λhf=> ?_) λhf=> ?_
  ·exact ok_eq (λ_=>bH (tQ 6000000 ω wt.w) (aq hBt)) λh=>absurd (Wu hBt ca EM hf) h
  have hm:=hrm hf
  have zG:=Wt ht wt.w.qr wt.w.qs ca EM hf hm
  have wm:=G.wf ω hgm
  have hBm:=ot.2 hm
  have h4m:(ec c.1 t i.1 (1+p)).1.2.2.2.1.length≤400:=cv (Kk (dE hBm).2) δ
  have awj:gQ (ec c.1 t i.1 (1+p)).1.2.2.1=0:=hm.t
  refine aB ⟨ca.1,by rw[Bl];exact ca.2⟩ (bH (Mc 6000000 ω c.1 wm h4m _ _) (bH (tQ 6000000 ω wt.w) (nL (λ_=>bH (tQ 6000000 ω wm.w) (nL (λ_=>bH (O2 6000000 wm.w.qs wm.w.s ω) (nL (λ_=>bH (Kh 6000000 wm.w.qr wm.w.r ω) (bH (ob 6000000 _) (ok_eq (λ_=>ok_eq (λ_=> ?_) λh=>absurd zG.1 h) λh=>absurd (by rw[awj];rfl) h))) λh=>absurd (h.symm.trans hm.s) δ)) λh=>absurd (h.symm.trans hBm) δ)) λh=>absurd (h.symm.trans hBt) δ)))
  rw[zG.2]
  exact bH (Zn 6000000 ω wt.w.m wt.w.a wt.w.r wt.w.s wt.w.p wt.w.o) (aq rfl)
 obtain⟨r,e,hr⟩:=key
 exact⟨6000000,by rw[e,hr]⟩
end Pure
end VM
