/- A part of the proof of BookAtOnce of layer 18: what the functions compute, in plain words. -/
import Derived.Test.YthkjjlcblhbifaaGreatPlain9
set_option linter.all false
namespace VM
open Go VM.F Go.RowKit
theorem Hs: ∀l m:bf,fL (l++m)=fL l++fL m
 |[],m=>rfl
 |t::r,m=>by rw[ky,lx,lx,Hs r m];rfl
theorem Ht(b:an): ∀l m:bf,e7 b (l++m)=e7 b l++e7 b m
 |[],m=>rfl
 |t::r,m=>by rw[ky,jK,jK,Ht b r m,bE]
theorem Hu{b y:an}(h:y.2.2.2.2=b.2.2.2.2): ∀l:bf,e7 y l=e7 b l
 |[]=>rfl
 |t::r=>by
  rw[jK,jK,Hu h r]
  unfold jR
  rw[h]
theorem D9{c:ae}{b y:an}(h:y.2.1=b.2.1)(t:ir):dR c y t=dR c b t:=by
 unfold dR
 rw[h]
structure Far(c:ae)(b:an)(l:bf)(i:Nat)(y:an):Prop where
 rb:RB c y
 acc:y.2.1=b.2.1
 prc:y.2.2.2.2=b.2.2.2.2
 mv:cC b (fL (l.take i)) (e7 b (l.take i))=(y,0)
 ok: ∀t∈l.take i,cO t∧dR c b t=true
theorem YZ{c:ae}{b y:an}{l:bf}{i:Nat}(h:Far c b l i y)(hi:i<l.length)(hlen:l.length≤200)(h0:(eL c y [l.getD i eG]).2=0)(hrb:RBs c y (eL c y [l.getD i eG]).1):Far c b l (i+1) (eL c y [l.getD i eG]).1:=by
 have htk:l.take (i+1)=l.take i++[l.getD i eG]:=ry hi eG
 have hB:=oh.2 h.rb
 obtain⟨h1,h2,h3,h4⟩:=hrb
 have e: ∃(a1:cO (l.getD i eG)) (a2:dR c y (l.getD i eG)=true),eL c y [l.getD i eG]=cC y (fL [l.getD i eG]) (e7 y [l.getD i eG]):=by
  unfold eL at h0 ⊢
  rw[aj hB,aj (by rw[aJ];omega)]at h0 ⊢
  by_cases a1:cO (l.getD i eG)
  ·have e1:([l.getD i eG].all λt=>decide (cO t))=true:=by rw[kR,aU a1];rfl
   rw[aj e1]at h0 ⊢
   by_cases a2:dR c y (l.getD i eG)=true
   ·have e2:[l.getD i eG].all (dR c y)=true:=by rw[kR,a2];rfl
    rw[aj e2]
    exact⟨a1,a2,rfl⟩
   ·have e2: ¬ [l.getD i eG].all (dR c y)=true:=by rw[kR,List.all_nil,fu];exact a2
    rw[ah e2]at h0
    exact absurd (show(3:Int)=0 from h0) δ
  ·have e1: ¬([l.getD i eG].all λt=>decide (cO t))=true:=by rw[kR,bx a1];exact pF
   rw[ah e1]at h0
   exact absurd (show(1:Int)=0 from h0) δ
 obtain⟨a1,a2,e⟩:=e
 refine⟨h1,h3.trans h.acc,h4.trans h.prc,?_,λt ht=> ?_⟩
 ·rw[htk,Hs,Ht]
  have hm:=Sh (s':=fL [l.getD i eG]) (e':=e7 b [l.getD i eG]) (show(cC b (fL (l.take i)) (e7 b (l.take i))).2=0 by rw[h.mv])
  rw[h.mv]at hm
  rw[←hm]
  have e3:e7 y [l.getD i eG]=e7 b [l.getD i eG]:=Hu h.prc _
  rw[e3]at e
  show cC y _ _=_
  rw[←e]
  exact g7 rfl h0
 ·rw[htk,bk,cn]at ht
  rcases ht with ht|rfl
  ·exact h.ok t ht
  ·exact⟨a1,(D9 h.acc _).symm.trans a2⟩
theorem acB{c:ae}{b y:an}{l:bf}(hB:dg c b=true)(h:Far c b l l.length y)(hlen:l.length≤200):eL c b l=(y,0):=by
 have ho:=h.ok
 have hm:=h.mv
 rw[gN]at ho hm
 unfold eL
 rw[aj hB,aj hlen,aj (kz.2 λt ht=>aU (ho t ht).1),aj (kz.2 λt ht=>(ho t ht).2)]
 exact hm
theorem acC{c:ae}{b y:an}{l:bf}{i:Nat}(h:Far c b l i y)(hi:i<l.length)(h0:(eL c y [l.getD i eG]).2≠0)(h2:(eL c y [l.getD i eG]).2≠2):(eL c b l).2≠0:=by
 have hB:=oh.2 h.rb
 have lf:l.getD i eG∈l:=pV hi
 unfold eL at h0 h2
 rw[aj hB,aj (by rw[aJ];omega)]at h0 h2
 have n1: ¬(1:Int)=0:=δ
 have n3: ¬(3:Int)=0:=δ
 by_cases a1:cO (l.getD i eG)
 ·have e1:([l.getD i eG].all λt=>decide (cO t))=true:=by rw[kR,aU a1];rfl
  rw[aj e1]at h0 h2
  by_cases a2:dR c y (l.getD i eG)=true
  ·have e2:[l.getD i eG].all (dR c y)=true:=by rw[kR,a2];rfl
   rw[aj e2]at h0 h2
   exact absurd (V4 h0).2 h2
  ·have e3: ¬l.all (dR c b)=true:=λhA=>a2 ((D9 h.acc _).trans (kz.1 hA _ lf))
   unfold eL
   split
   ·split
    ·split
     ·exact n3
     ·exact n1
    ·exact n1
   ·exact n1
 ·have e3: ¬(l.all λt=>decide (cO t))=true:=λhA=>a1 (bt (kz.1 hA _ lf))
  unfold eL
  split
  ·split
   ·exact n1
   ·exact n1
  ·exact n1
namespace Pure
theorem Si(l:List Int)(h:WFs [.slice (.int .u64)] l): ∃N,F4 N l=some true:=by
 have key:Ok (λr=>r=true) (F4 6000000 l):=by
  unfold F4 F4.b F6
  refine bK (V5 6000000 ω) (bF (λh=>nomatch h) λ_=>bK rfl (ag (V6 6000000 ω (acD h.1)) λc ⟨hc,hd⟩=>ag (Y0 6000000 ω hc hd ω) λs ⟨⟨hs,hR⟩,hd⟩=> ?_))
  have hG:=hs.2.2.1
  have w:=G.wf ω hG
  have hR:=hR.1
  refine ag (V7 6000000 ω hd hR ω) λtr ⟨gi,_⟩=>bK (CT 6000000 ω c.1 w ω) ?_
  generalize tr.1=t at*
  generalize s.1.2.2.1=b at*
  refine br (len:=t.length) (F:=λn i (y:an)=>F4.l10 6000000 n c.1 t (eL c.1 b t).1 (eL c.1 b t).2 y i) (λi y=>Far c.1 b t i y∧G 900 aK y) ⟨⟨hR,rfl,rfl,?_,λx hx=>by rw[mU]at hx;exact nomatch hx⟩,hG⟩ ω (λn i y hi hI hr=> ?_) (λn y hI=> ?_)
  ·rw[mU]
   have xh:=eS (oh.2 hR)
   exact Sj xh.1 xh.2 w.w.qr w.w.qs (λ_ _=>rfl) (λ_ _=>rfl)
  all_goals unfold F4.l10 F4.akL
  ·obtain⟨hf,hg⟩:=hI
   have wy:=G.wf ω hg
   rw[aw (x:=(i:Int)+1) ω ω,af i]
   dsimp only
   rw[aI,aI]
   have akM:List.drop i (List.take (i+1) t)=[t.getD i eG]:=by
    rw[ry hi eG,ym (by rw[bV];omega),jf (by rw[bV];omega),cN]
   rw[akM]
   have e:=Sk 6000000 ω c.1 wy (l:=[t.getD i eG]) (by rw[aJ];omega)
   have hrb:JH c.1 y (eL c.1 y [t.getD i eG]):=Y1 (CU 6000000 ω ω hg hf.rb) e
   have hgt:G 900 aK (eL c.1 y [t.getD i eG]).1:=Y1 (P:=λr:an×Int=>G 900 aK r.1) (CV 6000000 ω c.1 ω ω hg) e
   refine ax (λ_=>zT ⟨ω,ω,ω,ω⟩ (bK (CT 6000000 ω c.1 wy (by rw[aJ];omega)) (bG (λh0=>bG (λ_=>aq rfl) λhz=>aq ?_) λh0=>hr _ ⟨YZ hf hi ω h0 (hrb h0),hgt⟩))) λ_=>ω
   by_cases h2:(eL c.1 y [t.getD i eG]).2=2
   ·rw[h2];exact dV rfl
   ·exact absurd hz (acC hf hi h0 h2)
  ·have iv:=acB (oh.2 hR) hI.1 ω
   have wy:=G.wf ω hI.2
   rw[iv]
   exact ax (λ_=>ω) λ_=>ok_eq (λ_=>bK (Y2 6000000 ω wy.w.m wy.w.a wy.w.r wy.w.s wy.w.p wy.w.o) (aq rfl)) λh=>absurd rfl h
 obtain⟨r,e,hr⟩:=key
 exact⟨6000000,by rw[e,hr]⟩
end Pure
end VM
