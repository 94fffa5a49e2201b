/- A part of the proof of AwardPays of layer 25: what the functions compute, in plain words. -/
import Derived.Test.YtocmlaipoebfeaaGreatPlain6
set_option linter.all false
namespace VM
open Go VM.F Go.RowKit
theorem ZY{α:Type}{f:α→Int}{l:List α}{d:α}{j:Nat}(h:j<l.length):(l.map f).getD j 0=f (l.getD j d):=by
 rw[atD,atD,auY,atI h];rfl
theorem Ah{α:Type}(f:α→Int){l:List α}(d:α){j:Nat}(h:j<l.length):((l.map f).take (j+1)).sum=((l.map f).take j).sum+f (l.getD j d):=by
 rw[fU _ (by rw[aud];exact h),ZY h]
theorem DB{α:Type}(f:α→Int)(l:List α):((l.map f).take l.length).sum=(l.map f).sum:=by
 rw[show l.length=(l.map f).length from(aud ..).symm,avv]
theorem DC{v:Int}{f:Nat}(h:Fit v f)(hg:f≤900000):Fit v 900000:=h.mono hg
theorem gI{x:Int}(h:aD x){f:Nat}(hf:2≤f):Fit x f:=by
 unfold aD at h
 exact(Fit.i64 h.1 (by omega)).mono hf
theorem rR{x:Int}(h:aD x): -9223372036854775808≤x∧x<9223372036854775808:=by unfold aD at h;omega
theorem KK{u v:Int}{k:Nat}(hu:Fit u k)(hv:Fit v k):Fit (u-v) (k+1):=by rw[avN];exact hu.add hv.neg
section
variable(N:Nat){c:aa}{s:aE}{a7 m:az}{b':ag}{P6:F5.fp}{XI:F5.jK}{K19:F5.lV}{ML DD:aq}
theorem P7(hN:5000000≤N){a i v h:Int}{f k:Nat}(hk:k<m.length)(hm:m.length≤1000)(hb:b'.2.1.length≤100000)(g:ir (m.getD k ((0:Int),(aS,aC))).2.1)(hh:c6 b'.2.1 (m.getD k ((0:Int),(aS,aC))).2.2.2.2.1=h)(hf:Fit v f)(h2:2≤f)(hf1:f≤1000)
  (hK:Fit (v+tT h a i (m.getD k ((0:Int),(aS,aC))).2.1) (f+6)→Ok (fun r=>r=true) (K19 c s a7 b' m ML a DD i (bH (v+tT h a i (m.getD k ((0:Int),(aS,aC))).2.1)) ((k+1:Nat):Int))):
  Ok (fun r=>r=true) (F5.BS N P6 XI K19 N c s a7 b' m ML a DD i (bH v) (k:Int) 0):=by
 have Jl:0≤(k:Int)∧(k:Int)<(m.length:Int):=by omega
 have hgl:=g.len
 refine bc (len:=(m.getD k ((0:Int),(aS,aC))).2.1.length) (F:=fun n j (z:aq)=>F5.BS N P6 XI K19 n c s a7 b' m ML a DD i z (k:Int) j) (s:=bH v) (fun j z=>z=bH (v+(((m.getD k ((0:Int),(aS,aC))).2.1.map (xO h a i)).take j).sum)∧Fit (v+(((m.getD k ((0:Int),(aS,aC))).2.1.map (xO h a i)).take j).sum) (f+j)) ⟨by rw[auT,au9,auK],by rw[auT,au9,auK];exact hf⟩ (by omega) (fun n j z hj hI hr=> ?_) (fun n z hI=> ?_)
 all_goals unfold F5.BS F5.Ft
 ·obtain⟨rfl,hF⟩:=hI
  have wC:0≤(j:Int)∧(j:Int)<((m.getD k ((0:Int),(aS,aC))).2.1.length:Int):=by omega
  have hq:=(g.q _ (Jg (d:=bR) hj)).1
  have YA:=rR hq
  have hw:W .i64 ((j:Int)+1)=((j+1:Nat):Int):=by rw[ar (by omega) (by omega),ae j]
  have q4:=Ah (xO h a i) bR hj
  rw[atE,atE,hw]
  have Th: ∀w:Int,w=v+(((m.getD k ((0:Int),(aS,aC))).2.1.map (xO h a i)).take j).sum+xO h a i ((m.getD k ((0:Int),(aS,aC))).2.1.getD j bR)→Fit w (f+(j+1))→Ok (fun r=>r=true) (F5.BS N P6 XI K19 n c s a7 b' m ML a DD i (bH w) (k:Int) ((j+1:Nat):Int)):=fun w e hw=>by
   have e':w=v+(((m.getD k ((0:Int),(aS,aC))).2.1.map (xO h a i)).take (j+1)).sum:=by rw[q4,e,avu]
   exact hr _ ⟨by rw[e'],by rw[←e'];exact hw⟩
  generalize (((m.getD k ((0:Int),(aS,aC))).2.1.map (xO h a i)).take j).sum=S at*
  have hFq:Fit ((m.getD k ((0:Int),(aS,aC))).2.1.getD j bR).2.1 (f+j):=gI hq (by omega)
  have same:xO h a i ((m.getD k ((0:Int),(aS,aC))).2.1.getD j bR)=0→Ok (fun r=>r=true) (F5.BS N P6 XI K19 n c s a7 b' m ML a DD i (bH (v+S)) (k:Int) ((j+1:Nat):Int)):=fun e=>Th _ (by rw[e,auK]) (hF.mono (by omega))
  refine au Jl (av (fun _=>au Jl (au wC (bt (fun e=>same (atL e)) fun e=>ok_eq (fun h0=> ?_) fun h0=> ?_))) fun _=>by omega)
  ·refine au Jl (au wC (bE (dd N (by omega) YA.1 YA.2) (bE (od N (by omega) (DC hF (by omega)) (DC hFq (by omega))) ?_)))
   unfold F5.j28 F5.Ti
   refine bt (fun h=>absurd h0 h) fun _=> ?_
   rw[hw]
   exact Th _ (by unfold xO;rw[atK e,atK h0,avN,←Int.zero_sub]) (KK hF hFq)
  ·unfold F5.j28 F5.Ti
   rw[atE,atE,hw]
   refine bt (fun _=>au Jl (bE (ph N hb (by omega) _) (ok_eq (fun e2=> ?_) fun e2=>same ?_))) fun h=>absurd h h0
   ·rw[hh]at e2
    exact au Jl (au wC (bE (dd N (by omega) YA.1 YA.2) (bE (iz N (by omega) (DC hF (by omega)) (DC hFq (by omega))) (Th _ (by unfold xO;rw[atK e,atL h0,atK e2]) (hF.add hFq)))))
   ·rw[hh]at e2
    unfold xO;rw[atK e,atL h0,atL e2]
 ·obtain⟨rfl,hF⟩:=hI
  rw[DB]at hF ⊢
  rw[atE,ar (x:=(k:Int)+1) (by omega) (by omega),ae k]
  exact au Jl (av (fun _=>by omega) fun _=>hK (hF.mono (by omega)))
end
theorem xe(l:ay)(x:cq):(jX l x∧dX l x=BY x (P2 l x) (rQ l x))∨(¬jX l x∧((dX l x).2.2.2.1≠(2:Int)∨x.2.2.2.1≠(1:Int))):=by
 unfold dX jX
 by_cases h1:x.2.2.2.1=1
 ·rw[atK h1]
  by_cases h2:(cr l x.1).2=true
  ·rw[atK h2];exact .inl ⟨⟨h1,h2⟩,rfl⟩
  ·rw[atL h2];exact .inr ⟨fun h=>h2 h.2,.inl (by show(3:Int)≠2;decide)⟩
 ·rw[atL h1];exact .inr ⟨fun h=>h1 h.1,.inr h1⟩
theorem Ge{l:ay}{a7:az}{k:Nat}(h:k<a7.length):(a7.map (dX l)).getD k ((0:Int),(aS,aC))=dX l (a7.getD k ((0:Int),(aS,aC))):=by
 rw[atD,atD,auY,atI h];rfl
structure yr(c:aa)(b:ag)(a7:az)(l:ay)(b':ag):Prop where
 wX:a7.length≤12
 P4: ∀x∈a7,ir x.2.1
 Cm: ∀x∈a7,jX l x→1≤nO b l x∧nO b l x≤24
 afi: ∀x∈a7,jX l x→aD (rQ l x)
 ZZ:b'.2.1=b.2.1
 la:b'.2.1.length≤100000
 ls:b'.2.2.2.1.length≤100000
 lr:b'.2.2.1.length≤100000
 held: ∀a i:Int,bN a i→dR b'.2.2.2.1 a i=dR b.2.2.2.1 a i+(a7.map (Bk b l a i)).sum∧aD (dR b'.2.2.2.1 a i)
 got: ∀a:Int,0≤a∧a≤24→c0 b'.2.2.1 5 a=c0 b.2.2.1 5 a-(a7.map (nx b l a)).sum∧aD (c0 b'.2.2.1 5 a)
 afj:c0 b'.2.2.1 2 0=c0 b.2.2.1 2 0+(a7.map (MK l)).sum∧aD (c0 b'.2.2.1 2 0)
section
variable(N:Nat){c:aa}{s:aE}{a7:az}{l:ay}{b':ag}{P6:F5.fp}{XI:F5.jK}{ML DD:aq}
theorem P8(hN:5000000≤N)(A:yr c s.2.2.1 a7 l b'){a i:Int}(hp:bN a i)(hv:aD (dR s.2.2.1.2.2.2.1 a i))
  (hK:Ok (fun r=>r=true) (XI c s a7 b' (a7.map (dX l)) ML a DD (W .i64 (i+1)))):
  Ok (fun r=>r=true) (F5.AG N P6 XI N c s a7 b' (a7.map (dX l)) ML a DD i (bH (dR s.2.2.1.2.2.2.1 a i)) 0):=by
 have AB:(a7.map (dX l)).length=a7.length:=aud ..
 have wX:=A.wX
 refine bc (len:=a7.length) (F:=fun n k (z:aq)=>F5.AG N P6 XI n c s a7 b' (a7.map (dX l)) ML a DD i z k) (s:=bH (dR s.2.2.1.2.2.2.1 a i)) (fun k z=>z=bH (dR s.2.2.1.2.2.2.1 a i+((a7.map (Bk s.2.2.1 l a i)).take k).sum)∧Fit (dR s.2.2.1.2.2.2.1 a i+((a7.map (Bk s.2.2.1 l a i)).take k).sum) (2+6*k)) ⟨by rw[auT,au9,auK],by rw[auT,au9,auK];exact gI hv (by omega)⟩ (by omega) (fun n k z hk hI hr=> ?_) (fun n z hI=> ?_)
 all_goals unfold F5.AG F5.zs
 ·obtain⟨rfl,hF⟩:=hI
  have Jl:0≤(k:Int)∧(k:Int)<((a7.map (dX l)).length:Int):=by omega
  have OL:0≤(k:Int)∧(k:Int)<(a7.length:Int):=by omega
  have hw:W .i64 ((k:Int)+1)=((k+1:Nat):Int):=by rw[ar (by omega) (by omega),ae k]
  have q4:=Ah (Bk s.2.2.1 l a i) ((0:Int),(aS,aC)) hk
  have jv:=Jg (d:=((0:Int),(aS,aC))) hk
  rw[atE,hw]
  have hg:=Ge (l:=l) hk
  rcases xe l (a7.getD k ((0:Int),(aS,aC)))with⟨hs,e⟩|⟨hs,e⟩
  ·refine av (fun _=>au Jl (bt (fun h=>absurd (by rw[hg,e];rfl) h) fun _=>au OL (bt (fun h=>absurd hs.1 h) fun _=>P7 N hN (h:=nO s.2.2.1 l (a7.getD k ((0:Int),(aS,aC)))) (f:=2+6*k) (by omega) (by omega) A.la (by rw[hg,(z5 ..).2.1];exact A.P4 _ jv) (by rw[hg,e,A.ZZ];rfl) hF (by omega) (by omega) ?_))) fun _=>by omega
   rw[hg,(z5 ..).2.1]
   intro Xt
   have ec:Bk s.2.2.1 l a i (a7.getD k ((0:Int),(aS,aC)))=tT (nO s.2.2.1 l (a7.getD k ((0:Int),(aS,aC)))) a i (a7.getD k ((0:Int),(aS,aC))).2.1:=atK hs
   rw[←ec,avu,←q4]at Xt ⊢
   exact hr _ ⟨rfl,Xt.mono (by omega)⟩
  ·have ec:Bk s.2.2.1 l a i (a7.getD k ((0:Int),(aS,aC)))=0:=atL hs
   rw[ec,auK]at q4
   have Th:=hr (bH (dR s.2.2.1.2.2.2.1 a i+((a7.map (Bk s.2.2.1 l a i)).take k).sum)) ⟨by rw[q4],by rw[q4];exact hF.mono (by omega)⟩
   exact av (fun _=>au Jl (bt (fun _=>Th) fun h2=>au OL (bt (fun _=>Th) fun h1=>absurd e (fun e=>e.elim (fun e=>e (by rw[←hg];exact h2)) fun e=>e h1)))) fun _=>by omega
 ·obtain⟨rfl,hF⟩:=hI
  rw[DB]at hF ⊢
  obtain⟨e,qM⟩:=A.held a i hp
  rw[←e]at hF ⊢
  have hw:=rR qM
  refine av (fun _=>by omega) fun _=>bE (ss N A.ls (by omega) a i) (bE (dd N (by omega) hw.1 hw.2) (bE (vP N (by omega) (DC hF (by omega)) (gI qM (by omega))) (bt (fun h=>absurd ?_ h) fun _=>hK)))
  rw[axd];rfl
theorem P9(hN:5000000≤N)(A:yr c s.2.2.1 a7 l b'){a P:Int}{f:Nat}(ha:0≤a∧a≤24)(hv:aD (c0 s.2.2.1.2.2.1 5 a))(hF:Fit P f)(hf:2≤f∧f≤1000)
  (hK:Fit (P+(a7.map (nx s.2.2.1 l a)).sum) (f+12)→Ok (fun r=>r=true) (P6 c s a7 b' (a7.map (dX l)) (bH (P+(a7.map (nx s.2.2.1 l a)).sum)) (W .i64 (a+1)))):
  Ok (fun r=>r=true) (F5.XJ N P6 N c s a7 b' (a7.map (dX l)) (bH P) a (bH (c0 s.2.2.1.2.2.1 5 a)) 0):=by
 have AB:(a7.map (dX l)).length=a7.length:=aud ..
 have wX:=A.wX
 refine bc (len:=a7.length) (F:=fun n k (z:aq×aq)=>F5.XJ N P6 n c s a7 b' (a7.map (dX l)) z.1 a z.2 k) (s:=(bH P,bH (c0 s.2.2.1.2.2.1 5 a))) (fun k z=>z=(bH (P+((a7.map (nx s.2.2.1 l a)).take k).sum),bH (c0 s.2.2.1.2.2.1 5 a-((a7.map (nx s.2.2.1 l a)).take k).sum))∧Fit (P+((a7.map (nx s.2.2.1 l a)).take k).sum) (f+k)∧Fit (c0 s.2.2.1.2.2.1 5 a-((a7.map (nx s.2.2.1 l a)).take k).sum) (2+k)) ⟨by rw[auT,au9,auK,awp],by rw[auT,au9,auK];exact hF,by rw[auT,au9,awp];exact gI hv (by omega)⟩ (by omega) (fun n k z hk hI hr=> ?_) (fun n z hI=> ?_)
 all_goals unfold F5.XJ F5.Z0
 ·obtain⟨rfl,hF1,xz⟩:=hI
  have Jl:0≤(k:Int)∧(k:Int)<((a7.map (dX l)).length:Int):=by omega
  have OL:0≤(k:Int)∧(k:Int)<(a7.length:Int):=by omega
  have hw:W .i64 ((k:Int)+1)=((k+1:Nat):Int):=by rw[ar (by omega) (by omega),ae k]
  have q4:=Ah (nx s.2.2.1 l a) ((0:Int),(aS,aC)) hk
  have jv:=Jg (d:=((0:Int),(aS,aC))) hk
  rw[atE,hw]
  have hg:=Ge (l:=l) hk
  dsimp only
  have same:nx s.2.2.1 l a (a7.getD k ((0:Int),(aS,aC)))=0→Ok (fun r=>r=true) (F5.XJ N P6 n c s a7 b' (a7.map (dX l)) (bH (P+((a7.map (nx s.2.2.1 l a)).take k).sum)) a (bH (c0 s.2.2.1.2.2.1 5 a-((a7.map (nx s.2.2.1 l a)).take k).sum)) ((k+1:Nat):Int)):=fun e=>by
   rw[e,auK]at q4
   exact hr (bH (P+((a7.map (nx s.2.2.1 l a)).take k).sum),bH (c0 s.2.2.1.2.2.1 5 a-((a7.map (nx s.2.2.1 l a)).take k).sum)) ⟨by rw[q4],by rw[q4];exact hF1.mono (by omega),by rw[q4];exact xz.mono (by omega)⟩
  rcases xe l (a7.getD k ((0:Int),(aS,aC)))with⟨hs,e⟩|⟨hs,e⟩
  ·have Na:=A.afi _ jv hs
   have hp2:=rR Na
   have hho:=A.Cm _ jv hs
   have akB:((a7.map (dX l)).getD k ((0:Int),(aS,aC))).2.2.2.2.1=P2 l (a7.getD k ((0:Int),(aS,aC))):=by rw[hg,e];rfl
   have akC:((a7.map (dX l)).getD k ((0:Int),(aS,aC))).2.2.2.2.2.1=rQ l (a7.getD k ((0:Int),(aS,aC))):=by rw[hg,e];rfl
   have akD:((a7.map (dX l)).getD k ((0:Int),(aS,aC))).2.2.2.1=(2:Int):=by rw[hg,e];rfl
   rw[akB,akC]
   refine av (fun _=>au Jl (ok_eq (fun _=>au OL (ok_eq (fun _=>bt (fun h0=>au Jl (bE (ph N A.la (by omega) _) (ok_eq (fun e2=> ?_) fun e2=>same ?_))) fun h0=>same ?_) fun h=>absurd hs.1 h)) fun h=>absurd akD h)) fun _=>by omega
   ·rw[A.ZZ]at e2
    have ec:nx s.2.2.1 l a (a7.getD k ((0:Int),(aS,aC)))=rQ l (a7.getD k ((0:Int),(aS,aC))):=atK ⟨hs,e2⟩
    rw[ec]at q4
    refine au Jl (bE (dd N (by omega) hp2.1 hp2.2) (bE (od N (by omega) (DC xz (by omega)) (gI Na (by omega))) (au Jl (bE (dd N (by omega) hp2.1 hp2.2) (bE (iz N (by omega) (DC hF1 (by omega)) (gI Na (by omega))) (hr (bH (P+((a7.map (nx s.2.2.1 l a)).take k).sum+rQ l (a7.getD k ((0:Int),(aS,aC)))),bH (c0 s.2.2.1.2.2.1 5 a-((a7.map (nx s.2.2.1 l a)).take k).sum-rQ l (a7.getD k ((0:Int),(aS,aC))))) ⟨?_,?_,?_⟩))))))
    ·rw[q4,avu,aw7]
    ·rw[q4,←avu];exact hF1.add (gI Na (by omega))
    ·rw[q4,←aw7];exact KK (k:=2+k) xz (gI Na (by omega))
   ·rw[A.ZZ]at e2
    exact atL fun h=>e2 h.2
   ·exact atL (fun(h:jX l (a7.getD k ((0:Int),(aS,aC)))∧nO s.2.2.1 l (a7.getD k ((0:Int),(aS,aC)))=a)=>by have h3:=h.2.trans h0;rw[h3]at hho;exact absurd hho.1 (by decide))
  ·have Th:=same (atL fun h=>hs h.1)
   exact av (fun _=>au Jl (ok_eq (fun h2=>au OL (ok_eq (fun h1=>absurd e (fun e=>e.elim (fun e=>e (by rw[←hg];exact h2)) fun e=>e h1)) fun _=>Th)) fun _=>Th)) fun _=>by omega
 ·obtain⟨rfl,hF1,xz⟩:=hI
  rw[DB]at hF1 xz ⊢
  obtain⟨e,qM⟩:=A.got a ha
  rw[←e]at xz ⊢
  have hw:=rR qM
  dsimp only
  refine av (fun _=>by omega) fun _=>bE (tL N A.lr (by omega) 5 a) (bE (dd N (by omega) hw.1 hw.2) (bE (vP N (by omega) (DC xz (by omega)) (gI qM (by omega))) (bt (fun h=>absurd ?_ h) fun _=>hK (hF1.mono (by omega)))))
  rw[axd];rfl
end
theorem Gf(b:ag)(l:ay)(a:Int): ∀t:az,(t.map (Ae b l (a+1))).sum=(t.map (Ae b l a)).sum+(t.map (nx b l a)).sum
 |[]=>rfl
 |x::t=>by
  rw[at7,at7,at7,aue,aue,aue,Gf b l a t]
  have:Ae b l (a+1) x=Ae b l a x+nx b l a x:=by
   unfold Ae nx
   by_cases hs:jX l x
   ·by_cases h1:nO b l x<a
    ·rw[atK ⟨hs,by omega⟩,atK ⟨hs,h1⟩,atL (fun h=>by have:=h.2;omega),auK]
    ·by_cases h2:nO b l x=a
     ·rw[atK ⟨hs,by omega⟩,atL (fun h=>h1 h.2),atK ⟨hs,h2⟩,avm]
     ·rw[atL (fun h=>by have:=h.2;omega),atL (fun h=>h1 h.2),atL (fun h=>h2 h.2)];rfl
   ·rw[atL (fun h=>hs h.1),atL (fun h=>hs h.1),atL (fun h=>hs h.1)];rfl
  rw[this];omega
theorem Gg{b:ag}{l:ay}: ∀{t:az},(∀x∈t,jX l x→1≤nO b l x∧nO b l x≤24)→(t.map (Ae b l 0)).sum=0∧(t.map (Ae b l 25)).sum=(t.map (MK l)).sum
 |[],_=>⟨rfl,rfl⟩
 |x::t,h=>by
  obtain⟨h1,h2⟩:=Gg fun y hy=>h y (atM _ hy)
  have hx:=h x (atS ..)
  rw[at7,at7,at7,aue,aue,aue,h1,h2]
  unfold Ae MK
  by_cases hs:jX l x
  ·have:=hx hs
   rw[atL (fun h=>by have:=h.2;omega),atK ⟨hs,by omega⟩,atK hs];exact⟨rfl,rfl⟩
  ·rw[atL (fun h=>hs h.1),atL (fun h=>hs h.1),atL hs];exact⟨rfl,rfl⟩
theorem Qa{a i:Int}(ha:0≤a∧a≤24)(hi:0≤i∧i<6):bN a i:=by unfold bN;omega
section
variable(N:Nat){c:aa}{s:aE}{a7:az}{l:ay}{b':ag}
theorem Tj(hN:5000000≤N)(A:yr c s.2.2.1 a7 l b')(w:yl s.2.2.1)(hc:c.1.length≤6)(hk:cP s.2.2.1.2.2.2.1=true)(w':tG b')(hB:cV c b'=true):
  Ok (fun r=>r=true) (F5.ue N N c s a7 b' (a7.map (dX l)) (bH (c0 s.2.2.1.2.2.1 2 0)) 0):=by
 have hs:=Tg hk w.w.qs
 obtain⟨p0,p1⟩:=Gg (b:=s.2.2.1) A.Cm
 refine bc (len:=25) (F:=fun n a (z:aq)=>F5.ue N n c s a7 b' (a7.map (dX l)) z a) (s:=bH (c0 s.2.2.1.2.2.1 2 0)) (fun a z=>z=bH (c0 s.2.2.1.2.2.1 2 0+(a7.map (Ae s.2.2.1 l (a:Int))).sum)∧Fit (c0 s.2.2.1.2.2.1 2 0+(a7.map (Ae s.2.2.1 l (a:Int))).sum) (2+12*a)) ⟨by rw[show((0:Nat):Int)=0 from rfl,p0,auK],by rw[show((0:Nat):Int)=0 from rfl,p0,auK];exact gI (Jk w.w.qr 2 0) (by omega)⟩ (by omega) (fun n a z ha hI hr=> ?_) (fun n z hI=> ?_)
 all_goals unfold F5.ue F5.tR
 ·obtain⟨rfl,hF⟩:=hI
  have ha2:0≤(a:Int)∧(a:Int)≤24:=by omega
  have hw:W .i64 ((a:Int)+1)=((a+1:Nat):Int):=by rw[ar (by omega) (by omega),ae a]
  have hg:=Jk w.w.qr 5 (a:Int)
  have Er:=rR hg
  refine c5 (fun _=>bE (tL N w.w.r (by omega) 5 _) (bE (dd N (by omega) Er.1 Er.2) ?_)) fun _=>by omega
  refine iD (len:=c.1.length) (F:=fun n' i=>F5.Be N (F5.ue N n) n' c s a7 b' (a7.map (dX l)) (bH (c0 s.2.2.1.2.2.1 2 0+(a7.map (Ae s.2.2.1 l (a:Int))).sum)) (a:Int) (bH (c0 s.2.2.1.2.2.1 5 (a:Int))) i) (by omega) (fun n' i hi dU=> ?_) (fun n'=> ?_)
  all_goals unfold F5.Be F5.zR
  ·have hh:=(Tf hs (a:Int) (i:Int)).1
   have hh2:=rR hh
   refine av (fun _=>bE (ss N w.w.s (by omega) _ _) (bE (dd N (by omega) hh2.1 hh2.2) (P8 N hN A (Qa ha2 (by omega)) hh ?_))) fun _=>by omega
   rw[ar (x:=(i:Int)+1) (by omega) (by omega),ae i]
   exact dU
  ·refine av (fun _=>by omega) fun _=>P9 N hN A ha2 hg hF (by omega) fun Xt=> ?_
   rw[hw]
   rw[avu,←Gf,ae a]at Xt ⊢
   exact hr _ ⟨rfl,Xt.mono (by omega)⟩
 ·obtain⟨rfl,hF⟩:=hI
  rw[show((25:Nat):Int)=25 from rfl,p1,←A.afj.1]at hF ⊢
  have qM:=A.afj.2
  have hw:=rR qM
  refine c5 (fun h=>absurd h (by decide)) fun _=>bE (tL N A.lr (by omega) 2 0) (bE (dd N (by omega) hw.1 hw.2) (bE (vP N (by omega) (DC hF (by omega)) (gI qM (by omega))) (ok_eq (fun _=>bE (Kc N (by omega) w') (ah hB)) fun h=>absurd ?_ h)))
  rw[axd];rfl
end
theorem Qb{p:Int}(h: -1152921504606846976≤p∧p≤1152921504606846976):aD p:=by unfold aD;omega
namespace Pure
theorem MN(l:List Int)(h:WFs [.slice (.int .u64)] l): ∃N,F5 N l=some true:=by
 have key:Ok (fun r=>r=true) (F5 6000000 l):=by
  unfold F5 F5.b F13
  refine bE (Mc 6000000 (by omega)) (bx (fun h=>nomatch h) fun _=>bE rfl (af (P0 6000000 (by omega) (Td h.1)) fun r hr=> ?_))
  have w:=G.wf (by omega) hr.s.2.2.1
  have hL:=Te (by omega) hr.L
  have hLl:=hr.L.1
  have K8:=hr.l.1
  have DX:=hr.c.1.1
  refine bE (FE 6000000 (by omega) r.1 w (by omega) (by omega) hL) ?_
  rcases F9 r.1 r.2.1.2.2.1 r.2.2.1 r.2.2.2.1 with⟨h0,_,h1⟩|⟨hB,hk,hb,z,hz,hm,e⟩
  ·refine bt (fun _=>ah ?_) fun h=>absurd h h0
   rw[h1];exact cz rfl
  ·have B:=tU (c:=r.1) (Cn hk hL) ll.nil ⟨fun x hx=>(nomatch hx),fun x hx=>(nomatch hx)⟩ hz
   obtain⟨hrw,q4⟩:=mi hB
   rcases Ji r.2.1.2.2.1 z.1 z.2.1 with⟨e1,_⟩|⟨s',r',c1,c2,em⟩
   ·rw[e1]at hm;exact absurd hm (by decide)
   have sh:=FF w.w z.1 z.2.1
   rw[em]at sh e
   rw[e]
   dsimp only at sh ⊢
   have I:=B.inv
   have g1:=(z6 q4 c1).2
   have g2:=fun{k n:Int} (hk:1≤k∧k≤7∧0≤n∧n≤24)=>MM hrw I.key c2 hk
   have A:yr r.1 r.2.1.2.2.1 r.2.2.1 r.2.2.2.1 (r.2.1.2.2.1.1,(r.2.1.2.2.1.2.1,(r',(s',r.2.1.2.2.1.2.2.2.2)))):=by
    refine⟨zA hk,fun x hx=>(Cn hk hL x hx).1,fun x hx hs=>zx (B.Cm x hx hs),fun x hx hs=>Qb (Dc hs.2).2.2.2,rfl,sh.a,sh.s,sh.r,fun a i hp=> ?_,fun a ha=> ?_,?_⟩
    ·obtain⟨u1,u2⟩:=g1 a i hp
     exact⟨by rw[u1,B.P4 a i,show bT a i ([]:aj)=0 from rfl,avm],u2.1⟩
    ·obtain⟨u1,u2⟩:=g2 (k:=5) (n:=a) (by omega)
     exact⟨by rw[u1,B.Jj a,show bT 5 a ([]:aj)=0 from rfl,Int.zero_sub,avN],u2⟩
    ·obtain⟨u1,u2⟩:=g2 (k:=2) (n:=0) (by omega)
     exact⟨by rw[u1,B.ML,show bT 2 0 ([]:aj)=0 from rfl,avm],u2⟩
   have hg:=Jk w.w.qr 2 0
   have Er:=rR hg
   have q1:eF s':=fun x hx=>((lE c1).2.1 x hx).2.2.1
   have q2:eF r':=fun x hx=>((lE c2).2.1 x hx).2.2
   refine bt (fun h=>absurd rfl h) fun _=>bt (fun h=>absurd (by rw[aud]) h) fun _=>bE (tL 6000000 w.w.r (by omega) 2 0) (bE (dd 6000000 (by omega) Er.1 Er.2) (Tj 6000000 (by omega) A w (by omega) q4 ⟨sh.m,sh.a,sh.r,sh.s,sh.p,sh.o,q2,q1⟩ (DA hB c1 c2 (fun x hx=>⟨I.place x hx,B.bp.1 x hx⟩) I.flat (fun x hx=>⟨I.key x hx,B.bp.2 x hx⟩) I.zero)))
 obtain⟨r,e,hr⟩:=key
 exact⟨6000000,by rw[e,hr]⟩
end Pure
end VM
