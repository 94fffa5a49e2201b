/- A part of the proof of WindEmpty of layer 21: what the functions compute, in plain words. -/
import Derived.Test.YtecmobijochjkaaGreatPlain5
import Derived.Test.YtecmobijochjkaaGreatPlain4
set_option linter.all false
section
namespace VM
open Go VM.F
theorem af6{l:List Int}(h:Pos l)(hs:l.sum<9223372036854775808):IX l:=λx hx=>by
 have h3:=h x hx
 obtain⟨i,hi,rfl⟩:=qy.1 hx
 have h4:=y5 h i
 rw[aU,bk hi]at h4
 simp only[mW]at h4
 omega
theorem Xy(k:Nat):(List.replicate k (1:Int)).sum=k:=by
 induction k with
 |zero=>rfl
 |succ k ih=>rw[zt,cw,ih];omega
theorem Xz(k:Nat):Pos (List.replicate k 1):=λx hx=>by rw[zo hx];omega
theorem XA{t:Int}{k:Nat}(h0:0≤t)(h1:t<9223372036854775808)(hk:1≤k)(hk1:k≤3):(I2 t k).1.length=k∧IX (I2 t k).1:=by
 have hS:0<(List.replicate k (1:Int)).sum:=by rw[Xy];omega
 have ee:I2 t k=(bR t (List.replicate k 1),0):=by
  unfold I2
  rw[ah ω,aJ]
  unfold rl
  have hm:may (List.replicate k 1)=true:=oN.2 ⟨by rw[cR];omega,Xz k⟩
  rw[ah (by rw[hm];simp;omega),Xy,ah ω,ah ω]
 rw[ee]
 exact⟨by dsimp only;rw[ox,List.length_replicate],af6 (uR h0 hS (Xz k)) (by rw[uQ h0 hS];omega)⟩
def LQ(y:yV):Prop:=aD y.1∧aD y.2.1∧p4 y.2.1
theorem af7{l:aE}(h: ∀y∈l,LQ y)(i:Nat):LQ (l.getD i cD):=by
 by_cases hk:i<l.length
 ·rw[aU,bk hk];exact h _ (dB hk)
 ·rw[aU,gG ω];exact⟨bJ,bJ,by unfold p4;decide⟩
theorem Ut{c:ae}{b:an}{m:Nat}(hb:G m aL b)(hB:dy c b=true)(a:Int): ∀y∈posOf b.2.2.2.1 a,LQ y∧(0≤(y.1:Int)∧(y.1:Int)<(c.1.length:Int)):=λy hy=>by
 have hk:cB b.2.2.2.1=true:=by
  by_cases h:cB b.2.2.2.1=true
  ·exact h
  ·unfold posOf at hy;rw[ah h]at hy;nomatch hy
 unfold posOf at hy
 rw[aj hk]at hy
 obtain⟨x,hx,_,e⟩:=je hy
 have hg:=hb.2.2.2.1.2 x hx
 have hq:=((dn hk).2 x hx).2
 have hp:=KO hB x hx
 rw[e]
 exact⟨⟨hg.2.1,hg.2.2.1,hq⟩,hp⟩
theorem Sr(N:Nat)(hN:5000000≤N){c:ae}{b:an}{m:Nat}(h2:200≤m)(hm:m≤40000)(hc:G m aA c)(hb:G m aL b){next:Int}(hn:aD next):Ok (λr=>LL m r.1∧r.1.length≤12) (bT N c b next):=by
 unfold bT bT.b
 refine br (dH N hN ω hb) (bw (λ_=>ak ⟨G.nil,bo _⟩) λhB=>aw (λ_=>ak ⟨G.nil,bo _⟩) λ_=>aw (λ_=>ak ⟨G.nil,bo _⟩) λ_=>br (QC N (G.wf ω hb).w.s ω 0) (ok_eq (λ_=>ak ⟨G.nil,bo _⟩) λ_=> ?_))
 have lx:=Ut hb hB 0
 have hal:=(amR hb.2.2.2.1 0).1
 generalize posOf b.2.2.2.1 0=all at*
 refine bc (len:=4) (F:=λn k (s:Int×bA)=>bT.l8 N n s.1 c all s.2 k) (s:=(_,_)) (λk s=>aD s.1∧s.2.length≤3*k∧ ∀x∈s.2,G m jj x) ⟨hn,bo _,λx hx=>nomatch hx⟩ ω (λn k s hk hI hr=> ?_) (λn s hI=> ?_)
 all_goals unfold bT.l8 bT.yd
 ·refine aw (λ_=> ?_) λ_=>ω
  refine bc (len:=all.length) (F:=λn' i (z:aE×aH)=>bT.lj N (bT.l8 N n) n' s.1 c all s.2 (k:Int) z.1 z.2 i) (s:=(_,_)) (λi z=>z.1.length≤i∧(∀y∈z.1,LQ y)∧Bg (8+i) z.2) ⟨bo _,(λy hy=>nomatch hy),KQ ω⟩ ω (λn' i z hi hz eM=> ?_) (λn' z hz=> ?_)
  all_goals unfold bT.lj bT.kP
  ·obtain⟨Cr,Hb,hz3⟩:=hz
   have hx:all.getD i cD∈all:=by rw[aU,bk hi];exact dB hi
   have hy:=lx _ hx
   rw[ay (x:=(i:Int)+1) ω ω,ag i,aJ]
   exact aw (λ_=>aB ⟨ω,ω⟩ (aB hy.2 (ok_eq (λ_=>aB ⟨ω,ω⟩ (aC (by rw[List.length_singleton];omega) (aB ⟨ω,ω⟩ (af (bq N ω hy.1.2.1) λu hu=>af (AT N ω ω hu) λu hu=>af (kS N ω ω hz3 (Bg.mono hu ω)) λv hv=>eM (_,_) ⟨by dsimp only;rw[List.length_append,List.length_singleton];omega,λy h=>(List.mem_append.1 h).elim (Hb y) (λh=>by rw[List.mem_singleton.1 h];exact hy.1),Bg.mono hv ω⟩)))) λ_=>eM z ⟨ω,Hb,Bg.mono hz3 ω⟩))) λ_=>ω
  ·obtain⟨Cr,Hb,hz3⟩:=hz
   refine aw (λ_=>ω) λ_=>af (Ur N ω (Bg.mono hz3 ω) hc.2.2.2.2.2.1) λw hw=> ?_
   obtain⟨p,hp⟩: ∃p:Nat,w=(p:Int):=⟨w.toNat,ω⟩
   subst hp
   refine bc (len:=p) (F:=λD6 j (t:Int×bA)=>bT.HT N (bT.l8 N n) D6 t.1 c all t.2 (k:Int) z.1 (p:Int) j) (s:=s) (λj t=>aD t.1∧t.2.length≤3*k+j∧ ∀x∈t.2,G m jj x) hI ω (λD6 j t hj ht NO=> ?_) (λD6 t ht=> ?_)
   all_goals unfold bT.HT bT.N0
   ·obtain⟨vE,Va,Zt⟩:=ht
    refine aw (λ_=> ?_) λ_=>ω
    refine bc (len:=z.1.length) (F:=λn3 i u=>bT.LF N (bT.l8 N n) (bT.HT N (bT.l8 N n) D6) n3 t.1 c all t.2 (k:Int) z.1 (p:Int) (j:Int) (t.1,(ck,((0:Int),((1:Int),cD)))) u i) (λi u=>L2 i u) G.nil ω (λn3 i u hi hu Ss=> ?_) (λn3 u hu=> ?_)
    all_goals unfold bT.LF bT.NW
    ·have Hd:=hu.1
     have hq:=af7 Hb i
     have nN:=hq
     unfold LQ aD p4 at nN
     have amU: ∀q:Int,0≤q→q<9223372036854775808→Ok (λr=>LL m r.1∧r.1.length≤12) (bT.Uu N (bT.l8 N n) (bT.HT N (bT.l8 N n) D6) (bT.LF N (bT.l8 N n) (bT.HT N (bT.l8 N n) D6) n3) t.1 c all t.2 (k:Int) z.1 (p:Int) (j:Int) (t.1,(ck,((0:Int),((1:Int),cD)))) u (i:Int) q):=λq h0 h1=>by
      unfold bT.Uu bT.N1
      obtain⟨e1,e2⟩:=XA (k:=p) h0 h1 ω ω
      have amV: ∀v:List Int,v.length=p→IX v→Ok (λr=>LL m r.1∧r.1.length≤12) (bT.j32 N (bT.l8 N n) (bT.HT N (bT.l8 N n) D6) (bT.LF N (bT.l8 N n) (bT.HT N (bT.l8 N n) D6) n3) t.1 c all t.2 (k:Int) z.1 (p:Int) (j:Int) (t.1,(ck,((0:Int),((1:Int),cD)))) u (i:Int) v):=λv P4 Zo=>by
       unfold bT.j32 bT.ah9
       rw[ay (x:=(i:Int)+1) ω ω,ag i]
       have hx:G 0 jB ((z.1.getD (i:Int).toNat cD).1,(v.getD (j:Int).toNat 0,())):=G2 (af7 Hb _).1 (tB Zo _)
       exact aB ⟨ω,ω⟩ (bp (λ_=>aB ⟨ω,ω⟩ (aB ⟨ω,ω⟩ (aC (by rw[aI];omega) (Ss _ (G.cat hu (G.one hx (aG 1))))))) λ_=>Ss u (G.mono ω hu))
      refine br (Xa N hN h1) (aB ⟨ω,ω⟩ (aw (λ_=>aB ⟨ω,ω⟩ (aB ⟨ω,ω⟩ (amV _ (by rw[bN];exact e1) λy hy=> ?_))) λ_=>amV _ e1 e2))
      rcases xn hy with hy|rfl
      ·exact e2 y hy
      ·exact fU _
     rw[aJ]
     refine aw (λ_=>aB ⟨ω,ω⟩ (aw (λe9=> ?_) λY1=> ?_)) λ_=>ω
     ·have g: ∀x:Int,-9223372036854775808≤x∧x≠ -9223372036854775808→x<0→0≤W .i64 (0-x)∧W .i64 (0-x)<9223372036854775808:=λx h1 h2=>by rw[ay ω ω];omega
      have gx:=g _ ⟨nN.2.1.1,nN.2.2⟩ e9
      exact amU _ gx.1 gx.2
     ·exact amU _ Y1 nN.2.1.2
    ·have Hd:=hu.1
     rw[ay (x:=(j:Int)+1) ω ω,ag j]
     have hum:L2 m u:=G.mono ω hu
     refine aw (λ_=>ω) λ_=>ok_eq (λ_=>NO t ⟨vE,ω,Zt⟩) λ_=> ?_
     unfold QD
     refine af (Q:=λr=>Bg 60000 r.1) (af (BW N ω ω hc hum _) λr hr=>ak hr) λa ha=>af (qu N ω ω ha) λd hd=>af (w7 N hd) λv hv=>bw (λ_=>ak ⟨G.nil,Nat.zero_le _⟩) λ_=>aC (by rw[List.length_singleton];omega) (NO (_,_) ⟨fU _,by dsimp only;rw[List.length_append,List.length_singleton];omega,λx hx=> ?_⟩)
     rcases a8.1 hx with hx|hx
     ·exact Zt x hx
     ·rw[bW.1 hx];exact⟨vE,hum,hv,(show aD 1 from bh),bJ,bJ,trivial⟩
   ·rw[ay (x:=(k:Int)+1) ω ω,ag k]
    exact aw (λ_=>ω) λ_=>hr t ⟨ht.1,by have:=ht.2.1;omega,ht.2.2⟩
 ·exact aw (λ_=>ω) λ_=>ak ⟨⟨by have:=hI.2.1;dsimp only;omega,hI.2.2⟩,by have:=hI.2.1;dsimp only;omega⟩
theorem aaT(N:Nat)(hN:5000000≤N){c:ae}{b:an}{m:Nat}(h2:200≤m)(hm:m≤40000)(hc:G m aA c)(hb:G m aL b){next:Int}(hn:aD next):Ok (λr=>LL m r.1) (bT N c b next):=KP (Sr N hN h2 hm hc hb hn) λ_ h=>h.1
end VM
end
section
namespace VM
open Go VM.F
theorem tN(N:Nat)(hN:200000≤N){l:aE}(hl:l.length≤100000):Ok (λ_=>True) (ph N l):=by
 unfold ph ph.b
 refine kR (len:=l.length) (F:=λn i=>ph.l2 N n l i) ω (λn i hi hr=> ?_) (λn=> ?_)
 all_goals unfold ph.l2 ph.gH
 ·rw[ay (x:=(i:Int)+1) ω ω,ag i]
  dsimp only
  repeat' first|exact hr|exact eZ|refine aB ⟨ω,ω⟩ ?_|refine aB (by rw[ay (x:=(i:Int)-1) ω ω];omega) ?_|refine aw (λ_=> ?_) (λ_=> ?_)|refine dZ (λ_=> ?_) (λ_=> ?_)|refine ok_eq (λ_=> ?_) (λ_=> ?_)|(exfalso;omega)
 ·exact aw (λ_=>ω) λ_=>eZ
theorem Uv(N:Nat)(hN:200000≤N){l:List Int}(hl:l.length≤100000):Ok (λ_=>True) (rA N l):=by
 unfold rA rA.b
 refine kR (len:=l.length) (F:=λn i=>rA.l2 N n l i) ω (λn i hi hr=> ?_) (λn=> ?_)
 all_goals unfold rA.l2 rA.gH
 ·rw[ay (x:=(i:Int)+1) ω ω,ag i]
  dsimp only
  repeat' first|exact hr|exact eZ|refine aB ⟨ω,ω⟩ ?_|refine aB (by rw[ay (x:=(i:Int)-1) ω ω];omega) ?_|refine aw (λ_=> ?_) (λ_=> ?_)|refine dZ (λ_=> ?_) (λ_=> ?_)|refine ok_eq (λ_=> ?_) (λ_=> ?_)|(exfalso;omega)
 ·exact aw (λ_=>ω) λ_=>eZ
theorem XB(N:Nat)(hN:200000≤N)(a:Int){L:bA}{l:aK}{m:Nat}(hm:m≤50000)(hL:LL m L)(hl:G m (.slice eB) l):Ok aD (jt N a L l):=by
 have h1:=hL.1
 have h2:=hl.1
 have i3:aD 3:=bh
 have i2:aD 2:=bh
 unfold jt jt.b
 refine bc (len:=l.length) (F:=λn i v=>jt.l3 N n a L l v i) (λ_ v=>aD v) (show aD 1 from bh) ω (λn i v hi hv hr=> ?_) (λn v hv=> ?_)
 all_goals unfold jt.l3 jt.nO
 ·rw[ay (x:=(i:Int)+1) ω ω,ag i]
  exact aw (λ_=>aB ⟨ω,ω⟩ (bp (λ_=>hr v hv) λ_=>aB ⟨ω,ω⟩ (af (Gc N hN hm hL _) λ_ _=>pe (λ_=>aB ⟨ω,ω⟩ (dZ (λ_=>hr _ (AV hv i3)) λ_=>hr _ (AV hv i2))) λ_=>hr _ (AV hv i2)))) λ_=>ω
 ·refine aw (λ_=>ω) λ_=>bc (len:=L.length) (F:=λn i v=>jt.p7 N n a L v i) (λ_ v=>aD v) hv ω (λn i v hi hv hr=> ?_) (λn v hv=> ?_)
  all_goals unfold jt.p7 jt.pD
  ·rw[ay (x:=(i:Int)+1) ω ω,ag i]
   exact aw (λ_=>aB ⟨ω,ω⟩ (ok_eq (λ_=>aB ⟨ω,ω⟩ (ok_eq (λ_=>hr 4 bh) λ_=>hr v hv)) λ_=>hr v hv)) λ_=>ω
  ·exact aw (λ_=>ω) λ_=>ak hv
theorem N2(N:Nat)(hN:200000≤N)(c:ae){d:aE}{u:List Int}{L:bA}{l:aK}{m:Nat}(h2:200≤m)(hm:m≤50000)(hd:L2 m d)(hu:u.length≤m)(hL:LL m L)(hl:G m (.slice eB) l):Ok (λr=>L2 m r.1) (dw N c d u L l):=by
 have h3:=hd.1
 have h4:=hL.1
 have h5:=hl.1
 have hw:IP L:=λy hy=>cm (hL.2 y hy).2.1.1 ω
 unfold dw dw.b
 refine af (tN N hN ω) λ_ _=>bw (λ_=>ak G.nil) λ_=>af (Uv N hN ω) λ_ _=>bw (λ_=>ak G.nil) λ_=>br (AF N hN c ω hw) (bw (λ_=>ak G.nil) λ_=>br (tJ N ω hN) (bw (λ_=>ak G.nil) λ_=>iB (len:=13) (F:=λn i s=>dw.l5 N n d u L l s i) (λi s=>L2 i s) (λn i s hi hI hr=> ?_) (λn s hI=> ?_) 13 N 1 [] ω ω ω G.nil))
 all_goals unfold dw.l5 dw.ed
 ·have hs:=hI.1
  refine dZ (λ_=> ?_) λ_=>ω
  refine bc (len:=d.length) (F:=λn' j (z:Int×Bool)=>dw.l9 N (dw.l5 N n) n' d u L l s (i:Int) z.1 z.2 j) (s:=(_,_)) (λ_ z=>aD z.1) bJ ω (λn' j z hj hz eM=> ?_) (λn' z hz=> ?_)
  all_goals unfold dw.l9 dw.xA
  ·rw[ay (x:=(j:Int)+1) ω ω,ag j]
   exact aw (λ_=>aB ⟨ω,ω⟩ (ok_eq (λ_=>aB ⟨ω,ω⟩ (eM (_,_) (G.at hd _).2.1)) λ_=>eM z hz)) λ_=>ω
  ·refine aw (λ_=>ω) λ_=>bc (len:=u.length) (F:=λn' j f=>dw.I1 N (dw.l5 N n) n' d u L l s (i:Int) z.1 f j) (λ_ _=>True) trivial ω (λn' j f hj _ eM=> ?_) (λn' f _=> ?_)
   all_goals unfold dw.I1 dw.FZ
   ·rw[ay (x:=(j:Int)+1) ω ω,ag j]
    exact aw (λ_=>pe (λ_=>eM _ trivial) λ_=>aB ⟨ω,ω⟩ (eM _ trivial)) λ_=>ω
   ·refine aw (λ_=>ω) λ_=>bc (len:=l.length) (F:=λn' j f=>dw.Hc N (dw.l5 N n) n' d u L l s (i:Int) z.1 f j) (λ_ _=>True) trivial ω (λn' j f hj _ eM=> ?_) (λn' f _=> ?_)
    all_goals unfold dw.Hc dw.DE
    ·rw[ay (x:=(j:Int)+1) ω ω,ag j]
     exact aw (λ_=>pe (λ_=>eM _ trivial) λ_=>aB ⟨ω,ω⟩ (eM _ trivial)) λ_=>ω
    ·rw[ay (x:=(i:Int)+1) ω ω,ag i]
     dsimp only
     exact aw (λ_=>ω) λ_=>pe (λ_=>af (XB N hN _ hm hL hl) λv hv=>aC (by rw[aI];omega) (hr _ (G.cat hI (G.one (m:=1) (G2 (iO ω ω) (AV hz hv)) (aG 1))))) λ_=>hr s (G.mono ω hI)
 ·exact dZ (λ_=>ω) λ_=>ak (G.mono ω hI)
theorem XC(N:Nat)(hN:200000≤N){l:aE}(hl:l.length≤100000)(a:Int):Ok (λ_=>True) (rB N l a):=by
 unfold rB rB.b
 refine af (tN N hN hl) λ_ _=>bw (λ_=>eZ) λ_=>kR (len:=l.length) (F:=λn i=>rB.l4 N n l a i) ω (λn i hi hr=> ?_) (λn=> ?_)
 all_goals unfold rB.l4 rB.ei
 ·rw[ay (x:=(i:Int)+1) ω ω,ag i]
  exact aw (λ_=>aB ⟨ω,ω⟩ (ok_eq (λ_=>aB ⟨ω,ω⟩ eZ) λ_=>hr)) λ_=>ω
 ·exact aw (λ_=>ω) λ_=>eZ
theorem KX(N:Nat)(a:Int):Ok (λ_=>True) (XD N a):=by
 unfold XD
 exact ok_eq (λ_=>eZ) λ_=>eZ
theorem Gd(N:Nat)(hN:5000000≤N)(c:ae){b:an}{d:aE}{m:Nat}(hm:m≤50000)(hb:G m aL b)(hd:L2 m d)(a k:Int):Ok (λr=>G m (.slice (.int .i64)) r.1) (rC N c b d a k):=by
 have hl:=hb.1.1
 have h2:=hd.1
 unfold rC rC.b
 refine br (dH N hN hm hb) (bw (λ_=>ak G.nil) λ_=>af (tN N ω ω) λ_ _=>bw (λ_=>ak G.nil) λ_=>bc (len:=b.1.length) (F:=λn i s=>rC.l5 N n d a k b s i) (λi s=>G i (.slice (.int .i64)) s) G.nil ω (λn i s hi hI hr=> ?_) (λn s hI=> ?_))
 all_goals unfold rC.l5 rC.ed
 ·have hs:=hI.1
  rw[ay (x:=(i:Int)+1) ω ω,ag i]
  have h1:=hr s (G.mono ω hI)
  have hx:G 0 (.int .i64) (b.1.getD (i:Int).toNat cD).1:=(G.at hb.1 _).1
  exact aw (λ_=>aB ⟨ω,ω⟩ (af (KX N _) λ_ _=>pe (λ_=>bp (λ_=>af (mq N ω hm hb.2.2.1 _ _) λ_ _=>aw (λ_=>af (XC N ω ω _) λ_ _=>ok_eq (λ_=>aC (by rw[aI];omega) (hr _ (G.cat hI (G.one hx (aG 1))))) λ_=>h1) λ_=>h1) λ_=>h1) λ_=>h1)) λ_=>ω
 ·exact aw (λ_=>ω) λ_=>ak (G.mono hl hI)
theorem AW(N:Nat)(hN:200000≤N){a:aK}{m:Nat}(hm:m≤50000)(h:G m (.slice eB) a)(id:Int):Ok aD (mg N a id):=by
 refine nC (qq N (cm h.1 ω) hN id) ?_
 unfold ni
 split
 ·have: ∀l:aK,(∀x∈l,G m eB x)→aD (nh id l):=by
   intro l
   induction l with
   |nil=>intro _;exact bJ
   |cons x t ih=>
    intro hx
    have hi:=ih λy hy=>hx y (aZ _ hy)
    rw[sA]
    split
    ·split
     ·exact(hx x (bm ..)).1
     ·exact hi
    ·exact hi
  exact this a h.2
 ·exact bJ
abbrev L5(m:Nat)(l:bK):Prop:=G m (.slice sX) l
theorem G5{m:Nat}{a b c d e:Int}(ha:aD a)(hb:aD b)(hc:aD c)(hd:aD d)(he:aD e):G m sX (a,(b,(c,(d,(e,()))))):=⟨ha,hb,hc,hd,he,trivial⟩
theorem KY(N:Nat)(hN:200000≤N){l:bK}{b:an}{m k:Nat}(hm:m≤50000)(hb:G m aL b)(hk:k≤1000000)(hl:L5 k l){a d n:Int}(ha:aD a)(hd:aD d)(hn:aD n):Ok (λr=>L5 (k+1) r) (KZ N l b a d n):=by
 have h1:=hl.1
 unfold KZ
 exact af (mq N hN hm hb.2.2.1 _ _) λx hx=>aw (λ_=>aC (by rw[aI];omega) (ak (G.cat hl (G.one (m:=1) (G5 ha hd hn hx bJ) (aG 1))))) λ_=>ak (G.mono ω hl)
theorem N3(N:Nat)(hN:5000000≤N){c:ae}{b:an}{d g:aE}{a:Int}{m:Nat}(hm:m≤50000)(hc:G m aA c)(hb:G m aL b)(hd:L2 m d)(hg:L2 m g)(ha:aD a):Ok (λr=>L5 1000000 r.1) (cI N c b a d g):=by
 have h1:=hb.1.1
 have h2:=hd.1
 have h3:=hg.1
 have h4:=hb.2.1.1
 have hj: ∀l:bK,L5 1 l→Ok (λr=>L5 1000000 r.1) (cI.j9 N a d g c b l):=λl hl=>by
  unfold cI.j9 cI.Nl
  refine af (KY N ω hm hb ω hl bh bh ha) λl hl=>af (KY N ω hm hb ω hl bh bh bJ) λl hl=>iB (len:=5) (F:=λn k s=>cI.p7 N n a d g c b s k) (λk s=>L5 (3+m*k) s) (λn k s hk hs hr=> ?_) (λn s hs=> ?_) 5 N 1 l ω ω ω (G.mono ω hl)
  all_goals unfold cI.p7 cI.pD
  ·have hmk:m*k≤m*4:=lN m ω
   refine dZ (λ_=>af (Gd N hN c hm hb hd _ _) λt ht=> ?_) λ_=>ω
   have htl:=ht.1
   refine bc (len:=t.1.length) (F:=λn' j u=>cI.wQ N (cI.p7 N n) n' a d g c b u (k:Int) t.1 j) (λj u=>L5 (3+m*k+j) u) hs ω (λn' j u hj hu eM=> ?_) (λn' u hu=> ?_)
   all_goals unfold cI.wQ cI.vw
   ·rw[ay (x:=(j:Int)+1) ω ω,ag j]
    exact aw (λ_=>aB ⟨ω,ω⟩ (af (KY N ω hm hb ω hu (fU _) bh (G.at ht _)) λv hv=>eM v hv)) λ_=>ω
   ·rw[ay (x:=(k:Int)+1) ω ω,ag k]
    exact aw (λ_=>ω) λ_=>hr u (G.mono (by rw[qH];omega) hu)
  ·refine dZ (λ_=>ω) λ_=>bc (len:=b.1.length) (F:=λn j u=>cI.HT N n a g c b u j) (λj u=>L5 (3+m*5+j) u) hs ω (λn j u hj hu hr=> ?_) (λn u hu=> ?_)
   all_goals unfold cI.HT cI.N0
   ·have Hd:=hu.1
    have hx:aD (b.1.getD (j:Int).toNat cD).1:=(G.at hb.1 _).1
    rw[ay (x:=(j:Int)+1) ω ω,ag j]
    have h0:=hr u (G.mono ω hu)
    exact aw (λ_=>aB ⟨ω,ω⟩ (af (KX N _) λ_ _=>bw (λ_=>h0) λ_=>ok_eq (λ_=>h0) λ_=>af (bq N ω hc.2.2.1) λp hp=>af (mq N ω hm hb.2.2.1 _ _) λq hq=>af (bq N ω hq) λq hq=>af (lG N ω ω ω hp hq) λy hy=>af (w7 N hy) λv hv=>bw (λ_=>ak G.nil) λ_=>aw (λ_=>aC (by rw[aI];omega) (hr _ (G.mono ω (G.cat hu (G.one (m:=1) (G5 (show aD 8 from bh) (show aD 7 from bh) hx hv bJ) (aG 1)))))) λ_=>h0)) λ_=>ω
   ·refine aw (λ_=>ω) λ_=>bc (len:=g.length) (F:=λn j u=>cI.Nv N n a g b u j) (λj u=>L5 (3+m*5+m+j) u) (G.mono ω hu) ω (λn j u hj hu hr=> ?_) (λn u hu=> ?_)
    all_goals unfold cI.Nv cI.KD
    ·have Hd:=hu.1
     rw[ay (x:=(j:Int)+1) ω ω,ag j]
     have h0:=hr u (G.mono ω hu)
     dsimp only
     exact aw (λ_=>aB ⟨ω,ω⟩ (af (xJ N ω hm hb.2.1 _) λx hx=>aB ⟨ω,ω⟩ (aB ⟨ω,ω⟩ (af (mq N ω hm hb.2.2.1 _ _) λq hq=>pe (λ_=>bp (λ_=>aw (λ_=>aC (by rw[aI];omega) (hr _ (G.mono ω (G.cat hu (G.one (m:=1) (G5 (show aD 9 from bh) (show aD 5 from bh) hx.1 (Xm (G.at hg _).2.1 hq) bJ) (aG 1)))))) λ_=>h0) λ_=>h0) λ_=>h0)))) λ_=>ω
    ·exact aw (λ_=>ω) λ_=>ak (G.mono ω hu)
 unfold cI cI.b
 exact br (dH N hN hm hb) (bw (λ_=>ak G.nil) λ_=>af (tN N ω ω) λ_ _=>bw (λ_=>ak G.nil) λ_=>af (BV N ω ω) λ_ _=>bw (λ_=>ak G.nil) λ_=>af (oz N ω hm hb.1 _) λ_ _=>ok_eq (λ_=>ak G.nil) λ_=>af (AW N ω hm hb.2.1 _) λh hh=>bp (λ_=>af (KY N ω hm hb ω (G.nil (m:=0)) bh bh hh) λl hl=>hj l hl) λ_=>hj [] G.nil)
end VM
end
section
namespace VM
open Go VM.F
theorem Jh(N:Nat)(hN:5000000≤N)(c:ae){b:an}{m:Nat}(hm:m≤50000)(hb:G m aL b):Ok (λr=>aD r.1) (aaU N c b):=by
 unfold aaU
 exact br (dH N hN hm hb) (bw (λ_=>ak bJ) λ_=>af (mq N ω hm hb.2.2.1 _ _) λx hx=>ok_eq (λ_=>ak bJ) λ_=>ak (AV (fU _) bJ))
theorem Ge(N:Nat)(hN:5000000≤N)(c:ae){b:an}{m:Nat}(hm:m≤50000)(hb:G m aL b):Ok (λr=>aD r.1) (aaV N c b):=by
 unfold aaV
 exact br (dH N hN hm hb) (bw (λ_=>ak bJ) λ_=>af (mq N ω hm hb.2.2.1 _ _) λx hx=>ak (AV hx bJ))
theorem aia(N:Nat)(a b:Int):Ok (λ_=>True) (Qk N a b):=by
 unfold Qk
 repeat' first|exact eZ|refine ok_eq (λ_=> ?_) (λ_=> ?_)|refine dZ (λ_=> ?_) (λ_=> ?_)
theorem Uw(N:Nat)(hN:200000≤N)(l:bK):Ok (λr=>r=true→l.length≤64) (rD N l):=by
 have hf:Ok (λr=>r=true→l.length≤64) (some false):=ak λh=>nomatch h
 unfold rD rD.b
 refine aw (λ_=>hf) λhl=>kR (len:=l.length) (F:=λn i=>rD.l4 N n l i) ω (λn i hi hr=> ?_) (λn=> ?_)
 all_goals unfold rD.l4 rD.ei
 ·rw[ay (x:=(i:Int)+1) ω ω,ag i]
  dsimp only
  repeat' first|exact hr|exact hf|refine aB ⟨ω,ω⟩ ?_|refine aB (by rw[ay (x:=(i:Int)-1) ω ω];omega) ?_|refine aw (λ_=> ?_) (λ_=> ?_)|refine dZ (λ_=> ?_) (λ_=> ?_)|refine ok_eq (λ_=> ?_) (λ_=> ?_)|(exfalso;omega)|refine af (aia N _ _) λ_ _=> ?_|refine bw (λ_=> ?_) (λ_=> ?_)
 ·exact aw (λ_=>ω) λ_=>ak λ_=>ω
theorem Su{σ β:Type}{P:β→Prop}{F:Nat→Int→σ→Option β}{len:Nat}(I:σ→Prop)
  (hs: ∀n i s,i<len→I s→(∀j s',i<j→j≤len→I s'→Ok P (F n (j:Int) s'))→Ok P (F (n+1) (i:Int) s)) (he: ∀n s,I s→Ok P (F (n+1) (len:Int) s)):
  ∀m n i s,len-i≤m→m<n→i≤len→I s→Ok P (F n (i:Int) s)
 |m,0,i,s,_,hn,_,_=>ω
 |m,n+1,i,s,hm,hn,hi,hI=>by
  by_cases h:i<len
  ·exact hs n i s h hI λj s' hj Y2 yq=>Su I hs he (m-1) n j s' ω ω Y2 yq
  ·have:i=len:=ω
   subst this
   exact he n s hI
theorem G5q{m:Nat}{x:sW}{q:Int}(h:G m sX x)(hq:aD q):G m sX (x.1,(x.2.1,(x.2.2.1,(x.2.2.2.1,(q,x.2.2.2.2.2))))):=⟨h.1,h.2.1,h.2.2.1,h.2.2.2.1,hq,trivial⟩
theorem amW: ∀{w:List Int},Pos w→0≤w.sum
 |[],_=>fI _
 |x::t,h=>by
  rw[cw]
  have:=h x (bm ..)
  have:=amW (w:=t) λy hy=>h y (aZ _ hy)
  omega
theorem Ux{t:Int}{w:List Int}(h1:t<9223372036854775808)(h:(rl t w).2=0):(rl t w).1.length=w.length∧IX (rl t w).1:=by
 unfold rl at h ⊢
 split at h
 ·exact absurd h δ
 ·split at h
  ·exact absurd h δ
  ·rename_i h2 h3
   split at h
   ·split at h
    ·rename_i h4 h5
     rw[ah h2,ah h3,aj h4,aj h5]
     exact⟨cR ..,λx hx=>by rw[zo hx];decide⟩
    ·exact absurd h δ
   ·rename_i h4
    rw[ah h2,ah h3,ah h4]
    have hm:may w=true:=by
     by_cases hm:may w=true
     ·exact hm
     ·exact absurd (Or.inr (vL.2 hm)) h2
    have hp:=(oN.1 hm).2
    have h0:0≤t:=ω
    have hS:0<w.sum:=by have:=amW hp;omega
    exact⟨ox t w,af6 (uR h0 hS hp) (by rw[uQ h0 hS];exact h1)⟩
theorem aaW{α:Type}{Q:α→Prop}{l:List α}{x:α}{k:Nat}(h: ∀y∈l,Q y)(hx:Q x): ∀y∈l.set k x,Q y:=λy hy=>by
 rcases xn hy with hy|rfl
 ·exact h y hy
 ·exact hx
theorem Sv{α:Type}{Q:α→Prop}{l:List α}{d:α}{k:Nat}(h: ∀y∈l,Q y)(hk:k<l.length):Q (l.getD k d):=by
 rw[aU,bk hk];exact h _ (dB hk)
theorem Ji(N:Nat)(hN:5000000≤N){l:bK}{q:Int}{Q:sW→Prop}(hQ: ∀x,Q x→aD x.2.2.2.1)(hU: ∀(x:sW) (v:Int),Q x→aD v→Q (x.1,(x.2.1,(x.2.2.1,(x.2.2.2.1,(v,x.2.2.2.2.2))))))(hl: ∀x∈l,Q x)(hq:aD q):Ok (λr=>(r.1.length≤64∧ ∀x∈r.1,Q x)∧aD r.2.1) (dD N l q):=by
 have dI: ∀e:Int,Ok (λr:bK×Int×Int=>(r.1.length≤64∧ ∀x∈r.1,Q x)∧aD r.2.1) (some ([],((0:Int),e))):=λe=>ak ⟨⟨bo _,λx hx=>nomatch hx⟩,bJ⟩
 unfold dD dD.b
 refine af (Uw N ω l) λz hz=>bw (λ_=>dI _) λht=>aw (λ_=>dI _) λ_=> ?_
 have nR:=hz ht
 rw[cJ]
 refine aC (by rw[bU];omega) (Su (len:=l.length) (F:=λn i (s:bK×Int)=>dD.l5 N n s.1 s.2 i) (λs=>s.1.length=l.length∧(∀x∈s.1,Q x)∧aD s.2) (λn i s hi hI hr=> ?_) (λn s hI=> ?_) l.length N 0 (l,q) ω ω ω ⟨rfl,hl,hq⟩)
 all_goals unfold dD.l5 dD.ed
 ·obtain⟨Lx,TF,hs3⟩:=hI
  refine aw (λ_=> ?_) λ_=>ω
  have fin: ∀(k:Nat) (w:List Int),i<k→k≤l.length→w.length=k-i→IX w→Ok (λr=>(r.1.length≤64∧ ∀x∈r.1,Q x)∧aD r.2.1) (dD.Jf N (dD.l5 N n) s.1 s.2 (i:Int) (k:Int) w):=λk w hk DS hw F0=>by
   unfold dD.Jf dD.BT
   have EN:aD (mn (BA w.sum).1 s.2):=Xm (Xh _) hs3
   refine br (yS N ω F0 ω) (br (q3 N _) (bw (λ_=>dI _) λ_=>br (BO N hN EN.2 F0 ω) (bp (λ_=>dI _) λh0=> ?_)))
   obtain⟨e1,e2⟩:=Ux EN.2 h0
   generalize (rl (mn (BA w.sum).1 s.2) w).1=v at*
   refine iB (len:=k) (F:=λn' j (z:bK×Int)=>dD.Hc N (dD.l5 N n) n' z.1 z.2 (i:Int) (k:Int) v j) (λj z=>i≤j∧z.1.length=l.length∧(∀x∈z.1,Q x)∧aD z.2) (λn' j z hj hz eM=> ?_) (λn' z hz=> ?_) k N i s ω ω ω ⟨aG i,Lx,TF,hs3⟩
   all_goals unfold dD.Hc dD.DE
   ·obtain⟨pN,Cr,Hb,hz3⟩:=hz
    dsimp only
    rw[ay (x:=(j:Int)+1) ω ω,ag j,ay (x:=(j:Int)-i) ω ω]
    exact aw (λ_=>aB ⟨ω,ω⟩ (aB ⟨ω,ω⟩ (aB ⟨ω,ω⟩ (eM (_,_) ⟨ω,by dsimp only;rw[List.length_set];exact Cr,aaW Hb (hU _ _ (Sv Hb ω) (tB e2 _)),fU _⟩)))) λ_=>ω
   ·exact aw (λ_=>ω) λ_=>hr k z hk DS hz.2
  refine iB (len:=l.length) (F:=λn' k w=>dD.l8 N (dD.l5 N n) n' s.1 s.2 (i:Int) k w) (λk w=>i≤k∧w.length=k-i∧IX w) (λn' k w hk hw eM=> ?_) (λn' w hw=> ?_) l.length N i [] ω ω ω ⟨aG i,by rw[bU];omega,λx hx=>nomatch hx⟩
  all_goals unfold dD.l8 dD.yd
  ·obtain⟨hik,hwl,F0⟩:=hw
   rw[ay (x:=(k:Int)+1) ω ω,ag k]
   refine aw (λ_=>aB ⟨ω,ω⟩ (aB ⟨ω,ω⟩ (ok_eq (λ_=>aB ⟨ω,ω⟩ (aC (by rw[aI];omega) (eM _ ⟨ω,by rw[aS,aI];omega,λx hx=> ?_⟩))) λjy=> ?_))) λ_=>ω
   ·rcases a8.1 hx with hx|hx
    ·exact F0 x hx
    ·rw[bW.1 hx];exact hQ _ (Sv TF ω)
   ·refine fin k w ?_ ω hwl F0
    by_cases e:k=i
    ·subst e;exact absurd rfl jy
    ·omega
  ·exact aw (λ_=>ω) λ_=>fin l.length w hi (aG _) hw.2.1 hw.2.2
 ·exact aw (λ_=>ω) λ_=>ak ⟨⟨by have:=hI.1;dsimp only;omega,hI.2.1⟩,hI.2.2⟩
theorem QT(N:Nat)(hN:5000000≤N){l:bK}{q:Int}{m:Nat}(hl:L5 m l)(hq:aD q):Ok (λr=>L5 64 r.1∧aD r.2.1) (dD N l q):=
 Ji N hN (Q:=G 64 sX) (λx hx=>hx.2.2.2.1) (λx v hx hv=>G5q hx hv) (λx hx=>G.mono (m:=0) (bo _) (hl.2 x hx)) hq
abbrev R0:dK:=((0:Int),((0:Int),(([]:bK),((0:Int),()))))
theorem Jj(N:Nat)(hN:5000000≤N){c:ae}{b:an}{d g:aE}{a:Int}{m:Nat}(h2:200≤m)(hm:m≤40000)(hc:G m aA c)(hb:G m aL b)(hd:L2 m d)(hg:L2 m g)(ha:aD a):Ok (λr=>G m aL r.1∧G m gK r.2.1) (ik N c b a d g):=by
 have dI: ∀e:Int,Ok (λr:an×dK×Int=>G m aL r.1∧G m gK r.2.1) (some ((ck,(c8,(bG,(bG,(dC,(dQ,())))))),(R0,e))):=λe=>ak ⟨G.iP,G.zero m gK⟩
 unfold ik ik.b
 refine af (N3 N hN ω hc hb hd hg ha) λl hl=>ok_eq (λ_=>dI _) λ_=>ok_eq (λ_=>dI _) λ_=>af (Jh N hN c ω hb) λq hq=>bp (λ_=>dI _) λ_=>bp (λ_=>dI _) λ_=>af (QT N hN hl hq) λz ⟨Cr,Hb⟩=>bp (λ_=>dI _) λ_=> ?_
 have hzl:=Cr.1
 have hj: ∀(p:bE) (r:dK) (t:bK) (x k n:Int),jT 1000 p→G m gK r→L5 64 t→aD x→Ok (λr=>G m aL r.1∧G m gK r.2.1) (ik.j26 N b (ck,(c8,(bG,(bG,(dC,(dQ,())))))) R0 p r t x k n):=λp r t x k n hp hr ht hx=>by
  have Ho:=hp.1
  unfold ik.j26 ik.aaX
  exact af (bq N ω hx) λv hv=>af (sM N ω _ _ _ _ (Bg.mono hv ω)) λu hu=>aC (by have:=hu.1;omega) (af (sL N ω h2 ω hb G.nil (jT.mono (jT.app hp hu) ω)) λw hw=>bp (λ_=>dI _) λ_=>ak ⟨hw,hr.1,hr.2.1,G.mono ω ht,hr.2.2.2⟩)
 refine bc (len:=z.1.length) (F:=λn i (s:bE×dK×bK)=>ik.IJ N n a c b (ck,(c8,(bG,(bG,(dC,(dQ,())))))) R0 z.1 z.2.1 s.1 s.2.1 s.2.2 i) (s:=(_,(_,_))) (λi s=>jT (2*i) s.1∧G m gK s.2.1∧L5 i s.2.2) ⟨jT.nil,⟨ha,hq,G.nil,Hb,trivial⟩,G.nil⟩ ω (λn i s hi hI hr=> ?_) (λn s hI=> ?_)
 all_goals unfold ik.IJ ik.HJ
 ·obtain⟨h4,h5,h6⟩:=hI
  have hp:=h4.1
  have ht:=h6.1
  have hx:G 0 sX (z.1.getD (i:Int).toNat mI):=G.at Cr _
  rw[ay (x:=(i:Int)+1) ω ω,ag i]
  exact aw (λ_=>aB ⟨ω,ω⟩ (aw (λ_=>aB ⟨ω,ω⟩ (aC (by rw[aI];omega) (aB ⟨ω,ω⟩ (aB ⟨ω,ω⟩ (aB ⟨ω,ω⟩ (af (bq N ω hx.2.2.2.2.1) λv hv=>af (sM N ω _ _ _ _ (Bg.mono hv ω)) λu hu=>aC (by have:=hu.1;omega) (hr (_,(_,_)) ⟨jT.mono (jT.app h4 hu) ω,⟨h5.1,h5.2.1,G.nil,h5.2.2.2⟩,G.cat h6 (G.one hx (aG 1))⟩))))))) λ_=>hr s ⟨jT.mono h4 ω,h5,G.mono ω h6⟩)) λ_=>ω
 ·obtain⟨h4,h5,h6⟩:=hI
  have hp:=h4.1
  dsimp only
  exact aw (λ_=>ω) λ_=>af (bq N ω Hb) λv hv=>af (sM N ω _ _ _ _ (Bg.mono hv ω)) λu hu=>aC (by have:=hu.1;omega) (af (Ge N hN c ω hb) λx hx=>af (AW N ω ω hb.2.1 _) λh hh=>bp (λ_=>hj _ _ _ _ _ _ (jT.mono (jT.app h4 hu) ω) h5 (G.mono ω h6) hx) λ_=>hj _ _ _ _ _ _ (jT.mono (jT.app h4 hu) ω) h5 (G.mono ω h6) hx)
end VM
end
section
namespace VM
open Go VM.F
theorem Uy(N:Nat)(hN:5000000≤N){t:Int}{w:List Int}(ht:t<9223372036854775808)(hw:IX w)(hl:w.length≤1000000):Ok (λr=>r.2.2=0→r.1.length=w.length∧IX r.1) (eK N t w w):=by
 refine nC (F6 N hN ht hw hw hl) λh0=> ?_
 have f:=F7 ht hw h0
 have c:=f.c
 have hl2:=c.l2
 refine⟨hl2,λx hx=> ?_⟩
 obtain⟨i,hi,e⟩:=gj hx
 have h1:=c.le i ω
 have h2:=(c.pc i).2
 have h3:=c.po i
 rw[aU (l:=(sK t w w).1),bk hi,mW,e]at h1 h3
 exact⟨ω,ω⟩
theorem aaY(N:Nat)(hN:5000000≤N)(c:ae){b:an}{m:Nat}(hm:m≤40000)(hb:G m aL b){a:Int}(ha:aD a):Ok (λr=>L3 (m+1) r.1) (fD N c b a):=by
 have w:=(G.wf ω hb).w
 have hl:=hb.2.2.2.1.1
 unfold fD fD.b
 refine br (dH N hN ω hb) (bw (λ_=>ak G.nil) λ_=>aw (λ_=>ak G.nil) λ_=>dZ (λ_=>ak G.nil) λ_=>br (sE N w.s ω 0 a) (ok_eq (λ_=>ak G.nil) λ_=> ?_))
 have hq:=FP w.qs 0 a
 generalize dk b.2.2.2.1 0 a=q at*
 refine bc (len:=b.2.2.2.1.length) (F:=λn i (s:List Int×List Int)=>fD.BS N n a b q s.1 s.2 i) (s:=(_,_)) (λi s=>s.1.length≤i∧s.2.length=s.1.length∧IX s.1∧IX s.2) ⟨bo _,rfl,(λx hx=>nomatch hx),λx hx=>nomatch hx⟩ ω (λn i s hi hI hr=> ?_) (λn s hI=> ?_)
 all_goals unfold fD.BS fD.y7
 ·obtain⟨h1,h2,h3,h4⟩:=hI
  have hx:G 0 js (b.2.2.2.1.getD (i:Int).toNat bl):=G.at hb.2.2.2.1 _
  rw[ay (x:=(i:Int)+1) ω ω,ag i]
  have h0:=hr s ⟨ω,h2,h3,h4⟩
  have sn: ∀{l:List Int} {x:Int},IX l→aD x→IX (l++[x]):=λhl hx y hy=>(a8.1 hy).elim (hl y) λhy=>by rw[bW.1 hy];exact hx
  dsimp only
  exact aw (λ_=>aB ⟨ω,ω⟩ (bp (λ_=>ok_eq (λ_=>pe (λ_=>aC (by rw[List.length_singleton];omega) (aC (by rw[List.length_singleton];omega) (hr (_,_) ⟨by dsimp only;rw[List.length_append,List.length_singleton];omega,by dsimp only;rw[List.length_append,List.length_append,List.length_singleton,List.length_singleton];omega,sn h3 hx.1,sn h4 (AV hx.2.2.1 (fU _))⟩))) λ_=>h0) λ_=>h0) λ_=>h0)) λ_=>ω
 ·obtain⟨h1,h2,h3,h4⟩:=hI
  refine aw (λ_=>ω) λ_=>af (Uy N hN (AV hq (fU _)).2 h4 ω) λz hz=>bp (λ_=>ak G.nil) λh0=> ?_
  obtain⟨e1,e2⟩:=hz h0
  refine bc (len:=z.1.length) (F:=λn i u=>fD.Uz N n a q s.1 z.1 u i) (λi u=>L3 (1+i) u) (G.one (m:=1) (G3 bJ ha (fU _)) (aG 1)) ω (λn i u hi hu hr=> ?_) (λn u hu=> ?_)
  all_goals unfold fD.Uz fD.XE
  ·have Hd:=hu.1
   rw[ay (x:=(i:Int)+1) ω ω,ag i]
   have h0:=hr u (G.mono ω hu)
   have put: ∀x:Int,aD x→Ok (λr=>L3 (m+1) r.1) (cond (small (u.length+[((s.1.getD (i:Int).toNat 0,(a,(x,()))):da)].length)) (fD.Uz N n a q s.1 z.1 (u++[(s.1.getD (i:Int).toNat 0,(a,(x,())))]) ((i+1:Nat):Int)) none):=λx hx=>aC (by rw[aI];omega) (hr _ (G.mono ω (G.cat hu (G.one (m:=1) (G3 (tB h3 _) ha hx) (aG 1)))))
   dsimp only
   exact aw (λ_=>aB ⟨ω,ω⟩ (aw (λ_=>bp (λ_=>aB ⟨ω,ω⟩ (put _ (fU _))) λ_=>h0) λ_=>bp (λ_=>aB ⟨ω,ω⟩ (put _ (tB e2 _))) λ_=>h0)) λ_=>ω
  ·exact aw (λ_=>ω) λ_=>ak (G.mono ω hu)
theorem Sw(N:Nat)(hN:5000000≤N){c:ae}{b:an}{m:Nat}(h2:200≤m)(hm:m≤7000)(hc:G 5 aA c)(hb:G m aL b):Ok (λr=>G m aL r.1) (nI N c b):=by
 have Mt:=hc.1.1
 unfold nI nI.b
 refine br (dH N hN ω hb) (bw (λ_=>ak G.iP) λ_=>bc (len:=c.1.length) (F:=λn i s=>nI.l5 N n c b (ck,(c8,(bG,(bG,(dC,(dQ,())))))) s i) (λi s=>L3 ((m+1)*i) s) G.nil ω (λn i s hi hI hr=> ?_) (λn s hI=> ?_))
 all_goals unfold nI.l5 nI.ed
 ·have hs:=hI.1
  have XF:(m+1)*i≤(m+1)*5:=lN _ ω
  rw[ay (x:=(i:Int)+1) ω ω,ag i]
  exact aw (λ_=>af (aaY N hN c ω hb (iO ω ω)) λr hrr=>bp (λ_=>ak G.iP) λ_=>aC (by have:=hrr.1;omega) (hr _ (G.mono (by rw[qH];omega) (G.cat hI hrr)))) λ_=>ω
 ·have XF:(m+1)*c.1.length≤(m+1)*5:=lN _ ω
  exact aw (λ_=>ω) λ_=>af (sL N ω h2 ω hb (G.mono ω hI) jT.nil) λr hr=>ak hr
end VM
end
section
namespace VM
open Go VM.F
theorem Sx(N:Nat)(hN:200000≤N){l:aK}{m:Nat}(hm:m≤50000)(h:G m (.slice eB) l)(a:Int):Ok (λr=>G 0 eB r.1) (rE N l a):=by
 have hl:=h.1
 have hz:G 0 eB aV:=G.zero 0 eB
 unfold rE rE.b
 refine br (tJ N ω hN) (bw (λ_=>ak hz) λ_=>bc (len:=l.length) (F:=λn i (z:bI×Bool)=>rE.l6 N n l a aV z.1 z.2 i) (s:=(_,_)) (λ_ z=>G 0 eB z.1) hz ω (λn i z hi hI hr=> ?_) (λn z hI=> ?_))
 all_goals unfold rE.l6 rE.uw
 ·rw[ay (x:=(i:Int)+1) ω ω,ag i]
  have hx:G 0 eB (l.getD (i:Int).toNat aV):=G.at h _
  have h1:=hr z hI
  have h2:=hr (_,true) hx
  repeat' first|exact h1|exact h2|refine aB ⟨ω,ω⟩ ?_|refine aw (λ_=> ?_) (λ_=> ?_)|refine ok_eq (λ_=> ?_) (λ_=> ?_)|refine bw (λ_=> ?_) (λ_=> ?_)|(exfalso;omega)
 ·exact aw (λ_=>ω) λ_=>ak hI
theorem GL{m:Nat}{a b d e f:Int}{l:aE}(ha:aD a)(hl:L2 m l)(hb:aD b)(hd:aD d)(he:aD e)(hf:aD f):G m jj (a,(l,(b,(d,(e,(f,())))))):=⟨ha,hl,hb,hd,he,hf,trivial⟩
theorem LL.app{m:Nat}{k:Nat}{l:bA}{x:ir}(hl:l.length≤k∧ ∀y∈l,G m jj y)(hx:G m jj x):(l++[x]).length≤k+1∧ ∀y∈l++[x],G m jj y:=
 ⟨by rw[aS,aI];have:=hl.1;omega,λy hy=>(a8.1 hy).elim (hl.2 y) λhy=>by rw[bW.1 hy];exact hx⟩
theorem N4(N:Nat)(hN:5000000≤N)(c:ae){b:an}{L:bA}{l:aK}{m:Nat}(h2:200≤m)(hm:m≤2000)(hb:G m aL b)(hL:LL m L)(hl:G m (.slice eB) l):Ok (λr=>G m aL r.1∧LL m r.2.1) (fK N c b L l):=by
 have dI: ∀e:Int,Ok (λr:an×bA×Int=>G m aL r.1∧LL m r.2.1) (some ((ck,(c8,(bG,(bG,(dC,(dQ,())))))),([],e))):=λe=>ak ⟨G.iP,G.nil⟩
 have h3:=hL.1
 have h4:=hl.1
 have hw:IP L:=λy hy=>cm (hL.2 y hy).2.1.1 ω
 unfold fK fK.b
 refine br (dH N hN ω hb) (bw (λ_=>dI _) λ_=>br (AF N ω c ω hw) (bw (λ_=>dI _) λhk=>br (tJ N ω ω) (bw (λ_=>dI _) λ_=> ?_)))
 have h12:L.length≤12:=by
  unfold BI at hk
  exact bz (cO.1 (cO.1 hk).2).1
 refine bc (len:=L.length) (F:=λn i (z:au×bE×bA)=>fK.l7 N n L l b (ck,(c8,(bG,(bG,(dC,(dQ,())))))) z.1 z.2.1 z.2.2 i) (s:=(_,(_,_))) (λi z=>L3 (2*m*i) z.1∧jT (2*i) z.2.1∧z.2.2.length≤i∧ ∀y∈z.2.2,G m jj y) ⟨G.nil,jT.nil,bo _,λy hy=>nomatch hy⟩ ω (λn i z hi hI hr=> ?_) (λn z hI=> ?_)
 all_goals unfold fK.l7 fK.q4
 ·obtain⟨h5,h6,h7⟩:=hI
  have h8:=h6.1
  have h9:=h7.1
  have XF:2*m*i≤2*m*12:=lN _ ω
  have hms:2*m*(i+1)=2*m*i+2*m:=qH _ _
  have hx:G m jj (L.getD (i:Int).toNat ((0:Int),(ck,aV))):=G.at hL _
  have hxl:=hx.2.1.1
  rw[ay (x:=(i:Int)+1) ω ω,ag i]
  dsimp only
  rw[cJ]
  have put: ∀x:ir,G m jj x→Ok (λr=>G m aL r.1∧LL m r.2.1) (cond (small (z.2.2.length+[x].length)) (fK.l7 N n L l b (ck,(c8,(bG,(bG,(dC,(dQ,())))))) z.1 z.2.1 (z.2.2++[x]) ((i+1:Nat):Int)) none):=λx hx=>aC (by rw[aI];omega) (hr (z.1,(z.2.1,z.2.2++[x])) ⟨G.mono ω h5,jT.mono h6 ω,LL.app h7 hx⟩)
  refine aw (λ_=>aB ⟨ω,ω⟩ (aC (by rw[bU];omega) (bp (λ_=>put _ hx) λ_=>af (Sx N ω ω hl _) λw hw=>bw (λ_=>put _ (GL hx.1 hx.2.1 hx.2.2.1 (show aD 3 from bh) hx.2.2.2.2.1 hx.2.2.2.2.2.1)) λ_=>af (AW N ω ω hb.2.1 _) λh hh=>ok_eq (λ_=>dI _) λ_=>af (qv N ω ω hb _) λ_ _=>ok_eq (λ_=>dI _) λ_=> ?_))) λ_=>ω
  have oX:=GL hx.1 hx.2.1 hx.2.2.1 (show aD 2 from bh) hw.2.2.1 hw.2.2.2.1
  generalize hX:(((L.getD (i:Int).toNat ((0:Int),(ck,aV))).1,((L.getD (i:Int).toNat ((0:Int),(ck,aV))).2.1,((L.getD (i:Int).toNat ((0:Int),(ck,aV))).2.2.1,((2:Int),(w.1.2.2.1,(w.1.2.2.2.1,())))))):ir)=X at oX
  have hXl:X.2.1.length≤m:=oX.2.1.1
  refine bc (len:=X.2.1.length) (F:=λn' j u=>fK.wT N (fK.l7 N n) n' L l b (ck,(c8,(bG,(bG,(dC,(dQ,())))))) u z.2.1 z.2.2 (i:Int) X w.1 h j) (s:=z.1) (λj u=>L3 (2*m*i+2*j) u) h5 ω (λn' j u hj hu eM=> ?_) (λn' u hu=> ?_)
  all_goals unfold fK.wT fK.vx
  ·have Hd:=hu.1
   have hy:G m jB (X.2.1.getD (j:Int).toNat cD):=G.at oX.2.1 _
   dsimp only
   rw[ay (x:=(j:Int)+1) ω ω,ag j]
   exact aw (λ_=>aB ⟨ω,ω⟩ (aB ⟨ω,ω⟩ (aB ⟨ω,ω⟩ (aB ⟨ω,ω⟩ (aC (by rw[xK];omega) (eM _ (G.mono ω (G.cat hu (G.two (m:=2) (G3 bJ hy.1 (fU _)) (G3 hh hy.1 hy.2.1) (aG 2)))))))))) λ_=>ω
  ·refine aw (λ_=>ω) λ_=>af (bq N ω hw.2.2.2.1) λv hv=>af (sM N ω _ _ _ _ (Bg.mono hv ω)) λp hp=>aC (by have:=hp.1;omega) (aC (by rw[aI];omega) ?_)
   rw[ay (x:=(i:Int)+1) ω ω,ag i]
   exact hr (_,(_,_)) ⟨G.mono ω hu,jT.mono (jT.app h6 hp) ω,LL.app h7 oX⟩
 ·obtain⟨h5,h6,h7⟩:=hI
  have XF:2*m*L.length≤2*m*12:=lN _ ω
  exact aw (λ_=>ω) λ_=>af (sL N ω h2 ω hb (G.mono ω h5) (jT.mono h6 ω)) λr hr=>bp (λ_=>dI _) λ_=>ak ⟨hr,cm h7.1 ω,h7.2⟩
end VM
end
section
namespace VM
open Go VM.F
theorem N5{l:aK}(h:fB l=true):l.length≤24:=by
 unfold fB at h
 rw[fX]at h
 have h:=bz h
 have key: ∀i,i<l.length→(i:Int)+1≤(l.getD i aV).1:=by
  intro i
  induction i with
  |zero=>intro hi;exact(h 0 hi).1.1.1
  |succ i ih=>
   intro hi
   have h1:=ih ω
   have h2:(l.getD i aV).1<(l.getD (i+1) aV).1:=(h (i+1) hi).2.1 ω
   have g: ∀a b:Int,(i:Int)+1≤a→a<b→((i+1:Nat):Int)+1≤b:=λa b h1 h2=>ω
   exact g _ _ h1 h2
 by_cases hl:l.length≤24
 ·exact hl
 ·have h1:=key 24 ω
  have h2:=(h 24 ω).1.1.2
  have g: ∀a:Int,((24:Nat):Int)+1≤a→a≤24→False:=λa h1 h2=>ω
  exact(g _ h1 h2).elim
theorem Jk(N:Nat)(hN:5000000≤N){c:ae}{b:an}{m:Nat}(hm:m≤40000)(hc:G m aA c)(hb:G m aL b)(a:Int):Ok (λr=>aD r.1) (F60 N c b a):=by
 unfold F60 QD
 exact br (dH N hN ω hb) (bw (λ_=>ak bJ) λ_=>af (xJ N ω ω hb.2.1 _) λ_ _=>bw (λ_=>ak bJ) λ_=>af (NR N ω ω hb.2.2.2.1 _) λl hl=>af (Q:=λr=>Bg 60000 r.1) (af (BW N ω ω hc hl _) λr hr=>ak hr) λu hu=>af (tM N ω ω hb _) λg hg=>dZ (λ_=>ak bJ) λ_=>af (w7 N hu) λv hv=>pe (λ_=>aw (λ_=>ak hv) λ_=>ak hg) λ_=>ak hg)
theorem XG(N:Nat)(hN:200000≤N){l:au}{a d:Int}{m:Nat}(hm:m≤50000)(h:L3 m l)(ha:aD a)(hd:aD d):Ok (λr=>L3 (2*m) r) (iT N l a d):=by
 have hl:=h.1
 unfold iT iT.b
 refine br (kM N ω hN) (bw (λ_=>ak G.nil) λ_=>ok_eq (λ_=>ak G.nil) λ_=>aw (λ_=>ak G.nil) λ_=>aw (λ_=>ak G.nil) λ_=>aw (λ_=>ak G.nil) λ_=>aw (λ_=>ak G.nil) λ_=>bc (len:=l.length) (F:=λn i s=>iT.l5 N n l a d s i) (λi s=>L3 (2*i) s) G.nil ω (λn i s hi hI hr=> ?_) (λn s hI=> ?_))
 all_goals unfold iT.l5 iT.ed
 ·have hs:=hI.1
  have hx:=G.at h (i:Int).toNat
  dsimp only
  rw[ay (x:=(i:Int)+1) ω ω,ag i]
  have h1:=hr s (G.mono ω hI)
  exact aw (λ_=>aB ⟨ω,ω⟩ (ok_eq (λ_=>aB ⟨ω,ω⟩ (aB ⟨ω,ω⟩ (aB ⟨ω,ω⟩ (aB ⟨ω,ω⟩ (aC (by rw[xK];omega) (hr _ (G.mono ω (G.cat hI (G.two (m:=2) (G3 ha hx.2.1 (fU _)) (G3 hd hx.2.1 hx.2.2.1) (aG 2)))))))))) λ_=>h1)) λ_=>ω
 ·exact aw (λ_=>ω) λ_=>ak (G.mono ω hI)
theorem Sy(N:Nat)(hN:5000000≤N){c:ae}{b:an}{m:Nat}(h2:200≤m)(hm:m≤1000)(hc:G m aA c)(hb:G m aL b)(a:Int):Ok (λr=>G m aL r.1) (mR N c b a):=by
 unfold mR mR.b
 refine br (dH N hN ω hb) (bw (λ_=>ak G.iP) λhB=>af (qv N ω ω hb _) λ_ _=>ok_eq (λ_=>ak G.iP) λ_=> ?_)
 have hal:b.2.1.length≤24:=by
  unfold dy at hB
  have h1:=(cO.1 (cO.1 hB).2).1
  unfold pC at h1
  exact N5 (cO.1 (cO.1 h1).2).1
 refine bc (len:=b.2.1.length) (F:=λn i (z:au×bE)=>mR.l8 N n a c b (ck,(c8,(bG,(bG,(dC,(dQ,())))))) z.1 z.2 i) (s:=(_,_)) (λi z=>L3 (2*m*i) z.1∧jT (4*i) z.2) ⟨G.nil,jT.nil⟩ ω (λn i z hi hI hr=> ?_) (λn z hI=> ?_)
 all_goals unfold mR.l8 mR.yd
 ·obtain⟨h5,h6⟩:=hI
  have h7:=h5.1
  have h8:=h6.1
  have XF:2*m*i≤2*m*24:=lN _ ω
  have hms:2*m*(i+1)=2*m*i+2*m:=qH _ _
  have hx:G m eB (b.2.1.getD (i:Int).toNat aV):=G.at hb.2.1 _
  have hj: ∀p:bE,jT (4*i+2) p→Ok (λr=>G m aL r.1) (mR.Bf N (mR.l8 N n) a c b (ck,(c8,(bG,(bG,(dC,(dQ,())))))) z.1 p (i:Int) (b.2.1.getD (i:Int).toNat aV)):=λp hp=>by
   have Ho:=hp.1
   unfold mR.Bf mR.uV
   rw[ay (x:=(i:Int)+1) ω ω,ag i]
   exact af (tM N ω ω hb _) λg hg=>aw (λ_=>af (bq N ω hg) λv hv=>af (qu N ω ω hv) λv hv=>af (sM N ω _ _ _ _ (Bg.mono hv ω)) λu hu=>aC (by have:=hu.1;omega) (af (XG N ω ω hb.2.2.2.1 hx.1 bJ) λs hs=>aC (by have:=hs.1;omega) (hr (_,_) ⟨G.mono ω (G.cat h5 hs),jT.mono (jT.app hp hu) ω⟩))) λ_=>af (XG N ω ω hb.2.2.2.1 hx.1 bJ) λs hs=>aC (by have:=hs.1;omega) (hr (_,_) ⟨G.mono ω (G.cat h5 hs),jT.mono hp ω⟩)
  rw[ay (x:=(i:Int)+1) ω ω,ag i]
  exact aw (λ_=>aB ⟨ω,ω⟩ (bp (λ_=>hr z ⟨G.mono ω h5,jT.mono h6 ω⟩) λ_=>ok_eq (λ_=>af (Jk N hN ω hc hb _) λq hq=>af (bq N ω hq) λv hv=>af (sM N ω _ _ _ _ (Bg.mono hv ω)) λu hu=>aC (by have:=hu.1;omega) (hj _ (jT.mono (jT.app h6 hu) ω))) λ_=>hj _ (jT.mono h6 ω))) λ_=>ω
 ·obtain⟨h5,h6⟩:=hI
  have XF:2*m*b.2.1.length≤2*m*24:=lN _ ω
  exact aw (λ_=>ω) λ_=>af (sL N ω h2 ω hb (G.mono ω h5) (jT.mono h6 ω)) λr hr=>ak hr
abbrev GS(m:Nat)(s:aQ):Prop:=G m du s
abbrev SR(m:Nat)(r:aQ×da):Prop:=GS m r.1
theorem K0(N:Nat)(e:Int):Ok (λ_=>True) (fy N e):=by
 unfold fy;exact eZ
theorem UA(N:Nat)(hN:5000000≤N){c:ae}{s:aQ}{e:gO}{m:Nat}(h2:200≤m)(hm:m≤1000)(hc:G m aA c)(hs:GS m s)(he:G 0 kX e):Ok (SR m) (nJ N c s e):=by
 have hhl:=hs.2.2.2.1.2.2.2.2.1.1
 unfold nJ nJ.b
 generalize ((0:Int),((0:Int),_))=S0
 refine bc (len:=s.2.2.2.1.2.2.2.2.1.length) (F:=λn i (z:aQ×aK×Bool×Int)=>nJ.l5 N n c z.1 e S0 bl z.2.1 z.2.2.1 z.2.2.2 i) (s:=(_,(_,(_,_)))) (λi z=>GS m z.1∧z.1.2.2.2.1.2.2.2.2.1=s.2.2.2.1.2.2.2.2.1∧G i (.slice eB) z.2.1) ⟨hs,rfl,G.nil⟩ ω (λn i z hi hI hr=> ?_) (λn z hI=> ?_)
 all_goals unfold nJ.l5 nJ.ed
 ·obtain⟨hz,hh,ho⟩:=hI
  have Il:=ho.1
  rw[hh,ay (x:=(i:Int)+1) ω ω,ag i]
  have hx:G 0 eB (s.2.2.2.1.2.2.2.2.1.getD (i:Int).toNat aV):=G.at hs.2.2.2.1.2.2.2.2.1 _
  refine aw (λ_=>aB ⟨ω,ω⟩ (ok_eq (λ_=>af (Sp N hN h2 ω hc hz.2.2.1 (G.mono (bo m) hx) he.2.2.1 he.2.2.2.2.2.2.1 he.2.2.2.2.2.2.2.1) λr ⟨yQ,yH⟩=>bp (λ_=>af (K0 N _) λ_ _=>ak hz) λ_=> ?_) λ_=>aw (λ_=>aC (by rw[aI];omega) (hr (z.1,(z.2.1++[s.2.2.2.1.2.2.2.2.1.getD (i:Int).toNat aV],z.2.2)) ⟨hz,hh,G.cat ho (G.one hx (aG 1))⟩)) λ_=>hr z ⟨hz,hh,G.mono ω ho⟩)) λ_=>ω
  have Bc:GS m (z.1.1,(z.1.2.1,(r.1,z.1.2.2.2))):=⟨hz.1,hz.2.1,yQ,hz.2.2.2⟩
  have aib:G 0 eB r.2.1:=yH
  exact aw (λ_=>aC (by rw[aI];omega) (hr ((z.1.1,(z.1.2.1,(r.1,z.1.2.2.2))),(z.2.1++[r.2.1],(true,r.2.1.2.2.2.1))) ⟨Bc,hh,G.cat ho (G.one aib (aG 1))⟩)) λ_=>hr ((z.1.1,(z.1.2.1,(r.1,z.1.2.2.2))),(z.2.1,(true,r.2.1.2.2.2.1))) ⟨Bc,hh,G.mono ω ho⟩
 ·obtain⟨hz,hh,ho⟩:=hI
  rw[hh]
  exact aw (λ_=>ω) λ_=>bw (λ_=>af (K0 N _) λ_ _=>ak hz) λ_=>ak ⟨hz.1,hz.2.1,hz.2.2.1,⟨hz.2.2.2.1.1,hz.2.2.2.1.2.1,hz.2.2.2.1.2.2.1,hz.2.2.2.1.2.2.2.1,G.mono hhl ho,hz.2.2.2.1.2.2.2.2.2⟩,hz.2.2.2.2⟩
end VM
end
section
namespace VM
open Go VM.F
theorem tO(N:Nat)(hN:4000000≤N){s:aQ}{q:Int}(hs:aD s.1)(hq:aD q):Ok (λr=>aD r.1) (UB N s q):=by
 unfold UB
 exact af (bq N hN hs) λa ha=>af (bq N hN hq) λb hb=>af (kS N hN ω ha hb) λx hx=>af (w7 N hx) λv hv=>ak hv
theorem c6{α:Type}{P:α×da→Prop}{N:Nat}{e:Int}{f:da→Option (α×da)}(h: ∀r,Ok P (f r)):Ok P ((fy N e).bind f):=af (K0 N e) λr _=>h r
theorem XH(N:Nat)(hN:5000000≤N){c:ae}{s:aQ}{e:gO}{m:Nat}(h2:200≤m)(hm:m≤999)(hc:G 5 aA c)(hs:GS m s)(he:G 0 kX e):Ok (SR (m+1)) (nK N c s e):=by
 have DT:G m aA c:=G.mono ω hc
 have Rz:GS (m+1) s:=G.mono ω hs
 obtain⟨s1,s2,s3,⟨k1,k2,k3,k4,k5,k6,k7,k8,k9,UC,XI⟩,s5⟩:=Rz
 have hk:=hs.2.2.2.1
 have i2:aD 2:=bh
 have i3:aD 3:=bh
 have up: ∀{τ:Ty} {x:τ.den},G m τ x→G (m+1) τ x:=λh=>G.mono ω h
 have ca: ∀r:da,Ok (SR (m+1)) (some (s,r)):=λr=>ak (up hs)
 unfold nK nK.b
 refine ok_eq (λ_=> ?_) λ_=>ok_eq (λ_=> ?_) λ_=>ok_eq (λ_=> ?_) λ_=>ok_eq (λ_=> ?_) λ_=>ok_eq (λ_=> ?_) λ_=>ok_eq (λ_=> ?_) λ_=>ok_eq (λ_=> ?_) λ_=>ok_eq (λ_=> ?_) λ_=>c6 λr=>ca r
 ·exact af (aaR N hN ω DT hs.2.2.1 _ he.2.1 _) λr hr=>c6 λ_=>ak ⟨s1,s2,up hr,(up hs).2.2.2⟩
 ·exact af (Sy N hN h2 ω DT hs.2.2.1 _) λr hr=>c6 λ_=>ak ⟨s1,s2,up hr,⟨k1,i2,bJ,k4,k5,k6,k7,k8,k9,UC,XI⟩,s5⟩
 ·exact af (Ug N hN c hc.2.2.2.2.2.2.1 ω hs.2.2.1 _) λr hr=>ak ⟨s1,fU _,s3,⟨k1,k2,k3,k4,G.mono ω hr,k6,k7,k8,k9,UC,XI⟩,s5⟩
 ·exact af (UA N hN h2 ω DT hs he) λr hr=>ak (up hr)
 ·exact ok_eq (λ_=>c6 λr=>ca r) λ_=>af (aaT N hN h2 ω DT hs.2.2.1 hs.2.1) λl hl=>bp (λ_=>c6 λr=>ca r) λ_=>af (tO N ω hs.1 hc.2.2.2.2.1) λt ht=>bw (λ_=>c6 λr=>ca r) λ_=>af (Sq N hN c ω hs.2.2.1) λu hu=>ak ⟨s1,fU _,s3,⟨k1,i3,ht,fU _,G.nil,up hl,G.nil,up hu,k9,UC,XI⟩,s5⟩
 ·have hx:G 0 eB (s.2.1,(e.2.2.2.2.2.1,(e.2.1,(e.2.2.2.2.2.2.2.1,())))):=⟨hs.2.1,he.2.2.2.2.2.1,he.2.1,he.2.2.2.2.2.2.2.1,trivial⟩
  exact af (Jg N hN ω ω DT hs.2.2.1 hk.2.2.2.2.2.1 hk.2.2.2.2.2.2.1 hx) λr hr=>ak ⟨s1,fU _,s3,⟨k1,k2,k3,k4,k5,k6,hr,k8,k9,UC,XI⟩,s5⟩
 ·refine af (N4 N hN c h2 ω hs.2.2.1 hk.2.2.2.2.2.1 hk.2.2.2.2.2.2.1) λr ⟨yQ,yH⟩=>bp (λ_=>c6 λr=>ca r) λ_=>af (N2 N ω c h2 ω hk.2.2.2.2.2.2.2.2.1 hk.2.2.2.2.2.2.2.1.1 yH hk.2.2.2.2.2.2.1) λd hd=> ?_
  generalize ((0:Int),((0:Int),_))=S0
  have H9:=yH.1
  refine bc (len:=r.2.1.length) (F:=λn i q=>nK.l41 N n _ S0 bl r.2.1 q i) (λ_ _=>True) trivial ω (λn i q hi _ eM=> ?_) (λn q _=> ?_)
  all_goals unfold nK.l41 nK.aaZ
  ·rw[ay (x:=(i:Int)+1) ω ω,ag i]
   exact aw (λ_=>aB ⟨ω,ω⟩ (ok_eq (λ_=>eM _ trivial) λ_=>eM _ trivial)) λ_=>ω
  ·exact aw (λ_=>ω) λ_=>ak ⟨s1,s2,up yQ,⟨k1,i2,bJ,k4,k5,up yH,k7,k8,up hd,UC,XI⟩,s5⟩
 ·exact af (Jj N hN h2 ω DT hs.2.2.1 hk.2.2.2.2.2.2.2.2.1 hk.2.2.2.2.2.2.2.2.2.1 hk.1) λr ⟨yQ,yH⟩=>bp (λ_=>c6 λr=>ca r) λ_=>af (Sw N hN h2 ω hc yQ) λb hb=>bp (λ_=>c6 λr=>ca r) λ_=>af (KV N ω ω hb.1 _ _) λu hu=>ak ⟨s1,s2,⟨up hu,(up hb).2⟩,G.zero (m+1) rF,up yH,trivial⟩
end VM
end
section
namespace VM
open Go VM.F
theorem N6(N:Nat)(s:aQ)(k:Int):Ok (λ_=>True) (aa0 N s k):=by
 unfold aa0
 repeat' first|exact eZ|refine ok_eq (λ_=> ?_) (λ_=> ?_)
theorem oB(N:Nat)(hN:200000≤N){s:aQ}{m:Nat}(hm:m≤50000)(hs:GS m s)(k:Int):Ok (λ_=>True) (Gf N s k):=by
 unfold Gf
 exact af (oz N hN hm hs.2.2.1.1 _) λ_ _=>eZ
theorem XJ(N:Nat)(hN:200000≤N){s:aQ}{m:Nat}(hm:m≤50000)(hs:GS m s)(k:Int):Ok (λ_=>True) (QU N s k):=by
 unfold QU
 exact af (xJ N hN hm hs.2.2.1.2.1 _) λ_ _=>eZ
theorem aa1(N:Nat)(hN:4000000≤N){s:aQ}{m:Nat}(h2:200≤m)(hm:m≤50000)(hs:GS m s)(a b c d:Int){q:Int}(hq:aD q):Ok (SR m) (N7 N s a b c d q):=by
 unfold N7
 exact af (bq N hN hq) λx hx=>af (sM N hN _ _ _ _ (Bg.mono hx ω)) λp hp=>af (sL N hN h2 hm hs.2.2.1 G.nil (jT.mono hp ω)) λr hr=>ak ⟨hs.1,hs.2.1,hr,hs.2.2.2⟩
theorem XK(N:Nat)(hN:5000000≤N){c:ae}{s:aQ}{e:gO}{m:Nat}(h2:200≤m)(hm:m≤999)(hc:G 5 aA c)(hs:GS m s)(he:G 0 kX e):Ok (SR (m+1)) (pL N c s e):=by
 obtain⟨s1,s2,s3,⟨k1,k2,k3,k4,k5,k6,k7,k8,k9,UC,XI⟩,s5⟩:=hs
 have hs:GS m s:=⟨s1,s2,s3,⟨k1,k2,k3,k4,k5,k6,k7,k8,k9,UC,XI⟩,s5⟩
 have up: ∀{x:aQ},GS m x→ ∀r:da,Ok (SR (m+1)) (some (x,r)):=λh r=>ak (P:=SR (m+1)) (G.mono (qI m) h)
 have i1:aD 1:=bh
 have us: ∀{τ:Ty} {x:τ.den},G m τ x→G (m+1) τ x:=λh=>G.mono ω h
 unfold pL pL.b
 have hj: ∀(S0:aQ) (z:da),Ok (SR (m+1)) (pL.Uu N c s e S0 z):=λS0 z=>by
  unfold pL.Uu pL.N1
  exact af (N6 N _ _) λ_ _=>bw (λ_=>c6 λr=>up hs r) λ_=>af (XH N hN h2 hm hc hs he) λr hr=>ak hr
 have mem: ∀{x:aE},G m (.slice jB) x→G m aL ((x,s.2.2.1.2):an):=λh=>⟨h,s3.2⟩
 have hd: ∀z:aE×Int,G m (.slice jB) z.1→Ok (SR (m+1)) (cond (aO z.2 0) (cond (aO e.1 11) ((KW N c (z.1,s.2.2.1.2) e.2.1).bind λr2=>cond (aO s.2.2.2.1.2.1 3) ((pg N s.2.2.2.1.2.2.2.2.2.2.1 e.2.1).bind λr3=>(fy N z.2).bind λr4=>some ((s.1,(s.2.1,(r2.1,((s.2.2.2.1.1,(s.2.2.2.1.2.1,(s.2.2.2.1.2.2.1,(s.2.2.2.1.2.2.2.1,(s.2.2.2.1.2.2.2.2.1,(s.2.2.2.1.2.2.2.2.2.1,(r3,s.2.2.2.1.2.2.2.2.2.2.2))))))),s.2.2.2.2)))),r4)) ((fy N z.2).bind λr5=>some ((s.1,(s.2.1,(r2.1,s.2.2.2))),r5))) ((fy N z.2).bind λr6=>some ((s.1,(s.2.1,((z.1,s.2.2.1.2),s.2.2.2))),r6))) ((fy N z.2).bind λr7=>some ((s.1,(s.2.1,((z.1,s.2.2.1.2),s.2.2.2))),r7))):=λz hz=>
  ok_eq (λ_=>ok_eq (λ_=>af (NV N hN c ω (mem hz) _) λb hb=>ok_eq (λ_=>af (C1 N ω ω k7 _) λl hl=>c6 λr=>ak ⟨s1,s2,us hb,⟨k1,k2,k3,k4,us k5,us k6,us hl,us k8,us k9,us UC,trivial⟩,us s5⟩) λ_=>c6 λr=>ak ⟨s1,s2,us hb,(us hs).2.2.2⟩) λ_=>c6 λr=>ak ⟨s1,s2,us (mem hz),(us hs).2.2.2⟩) λ_=>c6 λr=>ak ⟨s1,s2,us (mem hz),(us hs).2.2.2⟩
 have Hj:=λk:Int=>KV N ω (m:=m) ω s3.1 e.2.1 k
 refine ok_eq (λ_=>af (Hj _) λz hz=>hd z hz) λ_=>ok_eq (λ_=>af (Hj _) λz hz=>hd z hz) λ_=>ok_eq (λ_=> ?_) λ_=>ok_eq (λ_=> ?_) λ_=>hj _ _
 ·exact af (oB N ω ω hs _) λ_ _=>ok_eq (λ_=>c6 λr=>up hs r) λ_=>bp (λ_=>c6 λr=>up hs r) λ_=>af (Hj _) λz hz=>bp (λ_=>c6 λr=>ak ⟨s1,s2,us (mem hz),(us hs).2.2.2⟩) λ_=>af (tO N ω s1 hc.2.2.2.1) λt ht=>bw (λ_=>c6 λr=>ak ⟨s1,s2,us (mem hz),(us hs).2.2.2⟩) λ_=>ak ⟨s1,s2,us (mem hz),⟨he.2.1,i1,ht,bJ,G.nil,G.nil,G.nil,G.nil,G.nil,G.nil,trivial⟩,us s5⟩
 ·exact af (oB N ω ω hs _) λ_ _=>ok_eq (λ_=>c6 λr=>up hs r) λ_=>af (oB N ω ω hs _) λ_ _=>bp (λ_=>c6 λr=>up hs r) λ_=>hj _ _
theorem aa2(N:Nat)(hN:5000000≤N){c:ae}{s:aQ}{e:gO}{m:Nat}(h2:200≤m)(hm:m≤999)(hc:G 5 aA c)(hs:GS m s)(he:G 0 kX e):Ok (SR (m+1)) (UD N c s e):=by
 have DT:G m aA c:=G.mono ω hc
 obtain⟨s1,s2,s3,⟨k1,k2,k3,k4,k5,k6,k7,k8,k9,UC,XI⟩,s5⟩:=hs
 have hs:GS m s:=⟨s1,s2,s3,⟨k1,k2,k3,k4,k5,k6,k7,k8,k9,UC,XI⟩,s5⟩
 have us: ∀{τ:Ty} {x:τ.den},G m τ x→G (m+1) τ x:=λh=>G.mono ω h
 have Rz:=us hs
 have up: ∀{x:aQ},GS m x→ ∀r:da,Ok (SR (m+1)) (some (x,r)):=λh r=>ak (P:=SR (m+1)) (G.mono (qI m) h)
 have st:=λk:Int=>oB N ω (m:=m) ω hs k
 have hp:=λa b c d=>aa1 N ω h2 ω hs a b c d he.2.2.2.2.2.2.1
 have UE:=he.2.2.2.2.2.2.1
 unfold UD
 refine ok_eq (λ_=> ?_) λ_=>ok_eq (λ_=> ?_) λ_=>ok_eq (λ_=> ?_) λ_=>ok_eq (λ_=> ?_) λ_=>ok_eq (λ_=> ?_) λ_=>ok_eq (λ_=> ?_) λ_=>ok_eq (λ_=> ?_) λ_=>ok_eq (λ_=> ?_) λ_=>ok_eq (λ_=> ?_) λ_=>ok_eq (λ_=> ?_) λ_=>ok_eq (λ_=> ?_) λ_=>af (XK N hN h2 hm hc hs he) λr hr=>ak hr
 ·exact af (Xq N ω ω s3.1 he.2.1) λr hr=>c6 λ_=>ak ⟨s1,s2,⟨hr,Rz.2.2.1.2⟩,Rz.2.2.2⟩
 ·have hx:G 0 eB (e.2.2.1,(e.2.1,(e.2.2.2.2.1,((0:Int),())))):=⟨he.2.2.1,he.2.1,he.2.2.2.2.1,bJ,trivial⟩
  exact af (aaN N ω ω s3.1 s3.2.1 hx) λr hr=>c6 λ_=>ak ⟨s1,s2,⟨Rz.2.2.1.1,hr,Rz.2.2.1.2.2⟩,Rz.2.2.2⟩
 ·exact af (XJ N ω ω hs _) λ_ _=>bw (λ_=>c6 λr=>up hs r) λ_=>af (hp _ _ _ _) λr hr=>ak (us hr)
 ·exact af (NY N hN h2 ω DT s3 _ UE) λr hr=>c6 λz=>ak ⟨s1,s2,us hr,(us hs).2.2.2⟩
 ·exact af (st _) λ_ _=>ok_eq (λ_=>c6 λr=>up hs r) λ_=>af (st _) λ_ _=>bp (λ_=>c6 λr=>up hs r) λ_=>af (hp _ _ _ _) λr hr=>ak (us hr)
 ·exact af (st _) λ_ _=>ok_eq (λ_=>c6 λr=>up hs r) λ_=>af (mq N ω ω s3.2.2.1 _ _) λg hg=>af (bq N ω hg) λx hx=>af (qu N ω ω hx) λx hx=>af (bq N ω UE) λy hy=>af (pH N ω ω ω hy hx) λ_ _=>aw (λ_=>c6 λr=>up hs r) λ_=>af (hp _ _ _ _) λr hr=>ak (us hr)
 ·exact af (Xr N ω ω s3.2.1 UE) λr hr=>c6 λz=>ak ⟨s1,s2,⟨us s3.1,us hr,(us s3).2.2⟩,(us hs).2.2.2⟩
 ·have hx:G 0 mQ (s.2.1,(e.2.2.1,(e.2.2.2.1,(e.2.2.2.2.1,(e.2.2.2.2.2.2.1,(e.2.2.2.2.2.2.2.1,())))))):=⟨s2,he.2.2.1,he.2.2.2.1,he.2.2.2.2.1,UE,he.2.2.2.2.2.2.2.1,trivial⟩
  exact af (Xv N hN h2 ω DT s3 hx) λr hr=>ak ⟨s1,fU _,hr,Rz.2.2.2⟩
 ·exact af (XJ N ω ω hs _) λ_ _=>bw (λ_=>c6 λr=>up hs r) λ_=>af (Um N ω ω s3.2.2.2.2.2.1 _ _) λr hr=>c6 λz=>ak ⟨s1,s2,⟨us s3.1,us s3.2.1,us s3.2.2.1,us s3.2.2.2.1,us s3.2.2.2.2.1,us hr,trivial⟩,(us hs).2.2.2⟩
 ·exact af (C2 N hN c h2 ω s3 _ he.2.2.2.2.2.2.2.1) λr ⟨yQ,yH⟩=>ok_eq (λ_=>bp (λ_=>af (NX N ω h2 ω UC yH) λg hg=>c6 λz=>ak ⟨s1,s2,us yQ,⟨k1,k2,k3,k4,us k5,us k6,us k7,us k8,us k9,us hg,trivial⟩,us s5⟩) λ_=>c6 λz=>ak ⟨s1,s2,us yQ,(us hs).2.2.2⟩) λ_=>c6 λz=>ak ⟨s1,s2,us yQ,(us hs).2.2.2⟩
 ·exact af (tO N ω s1 UE) λt ht=>bw (λ_=>c6 λr=>up hs r) λ_=>ak ⟨ht,(us hs).2⟩
theorem Sz(N:Nat)(hN:5000000≤N){c:ae}{s:aQ}{e:gO}{m:Nat}(h2:200≤m)(hm:m≤999)(hc:G 5 aA c)(hs:GS m s)(he:G 0 kX e):Ok (SR (m+1)) (QV N c s e):=by
 have ca: ∀r:da,Ok (SR (m+1)) (some (s,r)):=λr=>ak (P:=SR (m+1)) (G.mono (qI m) hs)
 unfold QV
 exact br (nf N ω c) (bw (λ_=>ca _) λ_=>af (Je N ω e) λ_ _=>bw (λ_=>ca _) λ_=>af (aa2 N hN h2 hm hc hs he) λr hr=>bp (λ_=>ca _) λ_=>ak hr)
end VM
end
section
namespace VM
open Go VM.F Go.RowKit
theorem aa3{l:List Int}(h:WF (.slice (.int .u64)) l):Dk 0 ((l,((0:Int),())):aM):=⟨λx hx=>by
 obtain⟨i,hi,rfl⟩:=gj hx
 have h3:0≤l[i]∧l[i]≤18446744073709551615:=wf_u64.1 (h.2 i hi)
 exact⟨h3.1,qB h3.2 δ⟩,fI 0,fI 0⟩
namespace Pure
end Pure
end VM
end
section
namespace VM
open Go VM.F Go.RowKit
theorem qd{α:Type}{l:List α}{d:α}{i:Nat}(h:i<l.length):l.getD i d∈l:=by
 rw[aU,bk h];exact dB h
namespace Pure
end Pure
end VM
end
section
namespace VM
open Go VM.F Go.RowKit
theorem rG{P:Int→Prop} [DecidablePred P]{f:Int→Int→Int}: ∀{K:List cW} {o:au},eg P f K=some o→(o.map keyOf).Sublist K∧(∀x∈o,dY x=f x.1 x.2.1∧dY x≠0∧P (dY x))∧(∀k∈K,P (f k.1 k.2))∧ ∀a b,ga a b o=if(a,b)∈K then f a b else 0
 |[],o,h=>by
  have e:[]=o:=oG h
  subst e
  exact⟨List.Sublist.refl _,λx hx=>(nomatch hx),λk hk=>(nomatch hk),λa b=>by rw[ah (λh=>nomatch h)];rfl⟩
 |k::t,o,h=>by
  rw[kO]at h
  by_cases hp:P (f k.1 k.2)
  ·rw[aj hp]at h
   cases ho:eg P f t with
   |none=>rw[ho]at h;exact nomatch h
   |some o'=>
    rw[ho]at h
    have e:(if f k.1 k.2=0 then o' else(k.1,(k.2,(f k.1 k.2,())))::o')=o:=oG h
    obtain⟨s,g,gp,gf⟩:=rG ho
    have lx: ∀k'∈k::t,P (f k'.1 k'.2):=λk' hk=>by
     rcases aW.1 hk with rfl|hk
     ·exact hp
     ·exact gp k' hk
    by_cases h0:f k.1 k.2=0
    ·rw[aj h0]at e
     subst e
     refine⟨s.cons _,g,lx,λa b=> ?_⟩
     rw[gf a b]
     by_cases hk:(a,b)=k
     ·subst hk
      rw[aj (bm ..)]
      dsimp only at h0
      rw[h0];split<;>rfl
     ·by_cases ht:(a,b)∈t
      ·rw[aj ht,aj (aZ _ ht)]
      ·rw[ah ht,ah (λh=>(aW.1 h).elim hk ht)]
    ·rw[ah h0]at e
     subst e
     refine⟨s.cons_cons _,λx hx=> ?_,lx,λa b=> ?_⟩
     ·rcases aW.1 hx with rfl|hx
      ·exact⟨rfl,h0,hp⟩
      ·exact g x hx
     ·rw[gq]
      dsimp only
      rw[gf a b]
      by_cases h1:k.1=a
      ·by_cases h2:k.2=b
       ·have hk:(a,b)=k:=by rw[←h1,←h2]
        rw[aj h1,aj h2,aj (by rw[hk];exact bm ..),h1,h2]
       ·have hk:(a,b)≠k:=λe=>h2 (by rw[←e])
        rw[aj h1,ah h2]
        by_cases ht:(a,b)∈t
        ·rw[aj ht,aj (aZ _ ht)]
        ·rw[ah ht,ah (λh=>(aW.1 h).elim hk ht)]
      ·have hk:(a,b)≠k:=λe=>h1 (by rw[←e])
       rw[ah h1]
       by_cases ht:(a,b)∈t
       ·rw[aj ht,aj (aZ _ ht)]
       ·rw[ah ht,ah (λh=>(aW.1 h).elim hk ht)]
  ·rw[ah hp]at h;exact nomatch h
theorem XL{l:au}(hs:sC (l.map keyOf)){j:Nat}(hj:j<l.length)(h0:0<j):sV (keyOf (l.getD (j-1) bl)) (keyOf (l.getD j bl)):=by
 have:=tX.1 (zx.1 hs) (j-1) j ω hj ω
 rw[aU,aU,bk hj,bk (show j-1<l.length by omega)]
 exact this
theorem QW{l:au}(hs:sC (l.map keyOf))(h: ∀x∈l,bB x.1 x.2.1∧dY x≠0∧p4 (dY x)):cB l=true:=by
 unfold cB
 rw[fX]
 refine bu λj hj=> ?_
 obtain⟨a,b,c⟩:=h _ (qd (d:=bl) hj)
 exact⟨a,b,c,λh0=>XL hs hj h0⟩
theorem UF{l:au}(hs:sC (l.map keyOf))(h: ∀x∈l,cN x.1 x.2.1∧dY x≠0):eA l=true:=by
 unfold eA
 rw[fX]
 refine bu λj hj=> ?_
 obtain⟨a,b⟩:=h _ (qd (d:=bl) hj)
 exact⟨a,b,λh0=>XL hs hj h0⟩
theorem rH{a b:Int}:(a,b)∈jA↔bB a b:=by
 unfold jA bB
 rw[om];dsimp only;omega
theorem Gg(b:an)(s e:au):((eu b s e).2=2∧(eu b s e).1=(ck,(c8,(bG,(bG,(dC,(dQ,())))))))∨ ∃s' r',eg Fq (fS b.2.2.2.1 s) jA=some s'∧eg aD (fS b.2.2.1 e) nu=some r'∧eu b s e=((b.1,(b.2.1,(r',(s',b.2.2.2.2)))),0):=by
 unfold eu
 cases h1:eg Fq (fS b.2.2.2.1 s) jA with
 |none=>exact .inl ⟨rfl,rfl⟩
 |some s'=>
  cases h2:eg aD (fS b.2.2.1 e) nu with
  |none=>exact .inl ⟨rfl,rfl⟩
  |some r'=>exact .inr ⟨s',r',rfl,rfl,rfl⟩
theorem Gh{l E o:au}(hs:cB l=true)(h:eg Fq (fS l E) jA=some o):cB o=true∧(∀a b,bB a b→dk o a b=dk l a b+bP a b E∧Fq (dk o a b)):=by
 obtain⟨h1,h2,h3,h4⟩:=rG h
 have hso:sC (o.map keyOf):=vG h1 (oq 6 25 0)
 have ho:cB o=true:=QW hso λx hx=>by
  have hk:(x.1,x.2.1)∈jA:=h1.subset (eL (f:=keyOf) hx)
  obtain⟨_,g1,g2⟩:=h2 x hx
  exact⟨rH.1 hk,g1,g2.2⟩
 refine⟨ho,λa b hp=> ?_⟩
 have e:dk o a b=fS l E a b:=by
  unfold dk
  rw[ho,aj rfl,h4 a b,aj (rH.2 hp)]
 refine⟨?_,by rw[e];exact h3 _ (rH.2 hp)⟩
 rw[e]
 unfold fS dk
 rw[hs,aj rfl,oy (dn hs).1]
theorem AX{a b:Int}{l:au}(h:bP a b l≠0): ∃x∈l,x.1=a∧x.2.1=b:=
 Ed λhn=>h (ko λx hx e=>hn ⟨x,hx,e⟩)
theorem SA{l E o:au}(hs:eA l=true)(hE: ∀x∈E,cN x.1 x.2.1)(h:eg aD (fS l E) nu=some o):eA o=true∧(∀a b,cN a b→gv o a b=gv l a b+bP a b E∧aD (gv o a b)):=by
 obtain⟨h1,h2,h3,h4⟩:=rG h
 obtain⟨hl,sS⟩:=ot hs
 have hso:sC (o.map keyOf):=vG h1 (oq 25 7 1)
 have ho:eA o=true:=UF hso λx hx=>by
  obtain⟨g0,g1,g2⟩:=h2 x hx
  refine⟨?_,g1⟩
  rw[g0]at g1
  unfold fS at g1
  by_cases hz:bP x.1 x.2.1 l=0
  ·rw[hz,oV]at g1
   obtain⟨y,hy,e1,e2⟩:=AX g1
   rw[←e1,←e2];exact hE y hy
  ·obtain⟨y,hy,e1,e2⟩:=AX hz
   rw[←e1,←e2];exact sS y hy
 refine⟨ho,λa b hk=> ?_⟩
 have hg:(a,b)∈nu:=by
  unfold nu
  rw[om]
  unfold cN at hk
  dsimp only;omega
 have e:gv o a b=fS l E a b:=by
  unfold gv
  rw[ho,aj rfl,h4 a b,aj hg]
 refine⟨?_,by rw[e];exact h3 _ hg⟩
 rw[e]
 unfold fS gv
 rw[hs,aj rfl,oy hl]
end VM
end
section
namespace VM
open Go VM.F Go.RowKit
namespace Pure
end Pure
end VM
end
section
namespace VM
open Go VM.F Go.RowKit
namespace Pure
end Pure
end VM
end
section
namespace VM
open Go VM.F Go.RowKit
def HU(p:cW→Bool):au→Int
 |[]=>0
 |x::t=>(if p (keyOf x)=true then dY x else 0)+HU p t
def Gi(p:cW→Bool)(f:Int→Int→Int):List cW→Int
 |[]=>0
 |k::t=>(if p k=true then f k.1 k.2 else 0)+Gi p f t
theorem BX(p:cW→Bool)(x:da)(t:au):HU p (x::t)=(if p (keyOf x)=true then dY x else 0)+HU p t:=rfl
theorem qw(p:cW→Bool)(f:Int→Int→Int)(k:cW)(t:List cW):Gi p f (k::t)=(if p k=true then f k.1 k.2 else 0)+Gi p f t:=rfl
theorem Jl{P:Int→Prop} [DecidablePred P]{f:Int→Int→Int}(p:cW→Bool): ∀{K:List cW} {o:au},eg P f K=some o→HU p o=Gi p f K
 |[],o,h=>by
  have e:[]=o:=oG h
  subst e;rfl
 |k::t,o,h=>by
  rw[kO]at h
  by_cases hp:P (f k.1 k.2)
  ·rw[aj hp]at h
   cases ho:eg P f t with
   |none=>rw[ho]at h;exact nomatch h
   |some o'=>
    rw[ho]at h
    have e:(if f k.1 k.2=0 then o' else(k.1,(k.2,(f k.1 k.2,())))::o')=o:=oG h
    rw[qw,←Jl p ho]
    by_cases h0:f k.1 k.2=0
    ·rw[aj h0]at e
     rw[←e,h0]
     split<;>omega
    ·rw[ah h0]at e
     rw[←e];rfl
  ·rw[ah hp]at h;exact nomatch h
theorem Gj(p:cW→Bool)(f g:Int→Int→Int): ∀K:List cW,Gi p (λa b=>f a b+g a b) K=Gi p f K+Gi p g K
 |[]=>rfl
 |k::t=>by
  rw[qw,qw,qw,Gj p f g t]
  split<;>omega
theorem BY{p:cW→Bool}{f:Int→Int→Int}: ∀{K:List cW},(∀k∈K,f k.1 k.2=0)→Gi p f K=0
 |[],_=>rfl
 |k::t,h=>by
  rw[qw,h k (bm ..),BY λx hx=>h x (aZ _ hx)]
  split<;>rfl
theorem N8(p:cW→Bool)(k:cW)(v:Int): ∀{K:List cW},sC K→k∈K→Gi p (λa b=>if k.1=a∧k.2=b then v else 0) K=if p k=true then v else 0
 |[],_,h=>nomatch h
 |x::t,hs,h=>by
  obtain⟨h1,h2⟩:=ec.1 hs
  rw[qw]
  by_cases e:k=x
  ·subst e
   have hz:Gi p (λa b=>if k.1=a∧k.2=b then v else 0) t=0:=BY λy hy=>ah λe=>by
    have:=h1 y hy
    rw[show y=k from gS e.1.symm e.2.symm]at this
    exact np this
   rw[aj (show k.1=k.1∧k.2=k.2 from⟨rfl,rfl⟩),hz,fY]
  ·rw[ah (show ¬(k.1=x.1∧k.2=x.2)from λh=>e (gS h.1 h.2)),N8 p k v h2 ((aW.1 h).elim (λh=>absurd h e) id)]
   split<;>omega
theorem Gk(p:cW→Bool){K:List cW}(hs:sC K): ∀{l:au},(∀x∈l,keyOf x∈K)→Gi p (λa b=>bP a b l) K=HU p l
 |[],_=>BY λ_ _=>rfl
 |x::t,h=>by
  have e:(λa b=>bP a b (x::t))=λa b=>(if(keyOf x).1=a∧(keyOf x).2=b then dY x else 0)+bP a b t:=by
   funext a b;exact ej a b x t
  rw[e,Gj,N8 p (keyOf x) (dY x) hs (h x (bm ..)),Gk p hs λy hy=>h y (aZ _ hy),BX]
theorem Gl{P:Int→Prop} [DecidablePred P]{l E o:au}{K:List cW}(p:cW→Bool)(hs:sC K)(hl: ∀x∈l,keyOf x∈K)(hE: ∀x∈E,keyOf x∈K)(h:eg P (fS l E) K=some o):HU p o=HU p l+HU p E:=by
 rw[Jl p h,←Gk p hs hl,←Gk p hs hE,←Gj];rfl
theorem uW: ∀l:au,HU (λ_=>true) l=(l.map dY).sum
 |[]=>rfl
 |x::t=>by rw[BX,aj rfl,uW t,bX,cw]
theorem xL(i:Int): ∀l:au,HU (λk=>decide (k.2=i)) l=(c5 i l).sum
 |[]=>rfl
 |x::t=>by
  rw[BX,xL i t,df]
  by_cases e:x.2.1=i
  ·rw[aj (bu (show(keyOf x).2=i from e)),aj e,cw]
  ·rw[ah (by rw[cj (show ¬(keyOf x).2=i from e)];exact qA),ah e,oV]
def Gm(m:aE)(a:aK)(k n:Int):Prop:=(dx k 5→(fc a n).2=true)∧(dx k 6∨dx k 7→ ¬dx (eI m n) 0)
def Gn(c:ae)(a:aK)(k n:Int):Prop:=(dx k 0∨(fc a k).2=true)∧nS n c.1.length
theorem N9{k n:Int}(h:cN k n):(k,n)∈nu:=by
 unfold nu
 rw[om]
 unfold cN at h
 dsimp only;omega
theorem Gp{l E:au}{Q:Int→Int→Prop}(hl: ∀x∈l,Q x.1 x.2.1)(hE: ∀x∈E,Q x.1 x.2.1){a b:Int}(h:fS l E a b≠0):Q a b:=by
 unfold fS at h
 by_cases hz:bP a b l=0
 ·rw[hz,oV]at h
  obtain⟨y,hy,e1,e2⟩:=AX h
  rw[←e1,←e2];exact hE y hy
 ·obtain⟨y,hy,e1,e2⟩:=AX hz
  rw[←e1,←e2];exact hl y hy
theorem K1{c:ae}{b:an}{s e s' r':au}(hB:dy c b=true)(h1:eg Fq (fS b.2.2.2.1 s) jA=some s')(h2:eg aD (fS b.2.2.1 e) nu=some r')
  (gs: ∀x∈s,bB x.1 x.2.1∧Gn c b.2.1 x.1 x.2.1) (flat: ∀i:Int,(c5 i s).sum=0) (ge: ∀x∈e,cN x.1 x.2.1∧Gm b.1 b.2.1 x.1 x.2.1) (zero:(e.map dY).sum=0):
  dy c (b.1,(b.2.1,(r',(s',b.2.2.2.2))))=true:=by
 have hB':=hB
 unfold dy at hB'
 simp only[bQ]at hB'
 obtain⟨b1,b2,b3,b4,b5,b6,b7,b8,b9,b10,b11⟩:=hB'
 obtain⟨hr,hs⟩:=dt hB
 obtain⟨o1,_⟩:=Gh hs h1
 obtain⟨o2,_⟩:=SA hr (λx hx=>(ge x hx).1) h2
 obtain⟨Ht,hsk⟩:=dn hs
 obtain⟨H9,hrk⟩:=ot hr
 have k1: ∀x∈b.2.2.2.1,keyOf x∈jA:=λx hx=>rH.2 (hsk x hx).1
 have k2: ∀x∈s,keyOf x∈jA:=λx hx=>rH.2 (gs x hx).1
 have k3: ∀x∈b.2.2.1,keyOf x∈nu:=λx hx=>N9 (hrk x hx)
 have k4: ∀x∈e,keyOf x∈nu:=λx hx=>N9 (ge x hx).1
 have hp8:=bz b8
 have hp9:=bz b9
 have q8: ∀x∈b.2.2.1,Gm b.1 b.2.1 x.1 x.2.1:=λx hx=>by
  obtain⟨i,hi,e⟩:=gj hx
  have:=hp8 i hi
  unfold jK at this
  rw[aU,bk hi,mW,e]at this
  exact this
 have q9: ∀x∈b.2.2.2.1,Gn c b.2.1 x.1 x.2.1:=λx hx=>by
  obtain⟨i,hi,e⟩:=gj hx
  have:=hp9 i hi
  unfold jd at this
  rw[aU,bk hi,mW,e]at this
  exact this
 have n4:decide (dx (gI r') 0)=true:=by
  refine bu ?_
  unfold gI dx
  rw[o2,aj rfl,←uW,Gl _ (oq 25 7 1) k3 k4 h2,uW,uW,zero,fY]
  have:=bz b4
  unfold gI dx at this
  rw[hr,aj rfl]at this
  exact this
 have n5:oi s'=true:=by
  unfold oi at b5 ⊢
  obtain⟨f1,_⟩:=cO.1 b5
  rw[o1,fX]
  refine bu λj hj=> ?_
  have:=bz f1 j hj
  unfold sU dx sB at this ⊢
  rw[hs,aj rfl]at this
  rw[o1,aj rfl,←xL,Gl _ (oq 6 25 0) k1 k2 h1,xL,xL,flat,fY]
  exact this
 have n8:decide (∀j,j<r'.length→jK b.1 b.2.1 r' j)=true:=bu λj hj=>by
  obtain⟨g0,g1,_⟩:=(rG h2).2.1 _ (qd (d:=bl) hj)
  rw[g0]at g1
  exact Gp (Q:=Gm b.1 b.2.1) q8 (λx hx=>(ge x hx).2) g1
 have n9:decide (∀j,j<s'.length→jd c b.2.1 s' j)=true:=bu λj hj=>by
  obtain⟨g0,g1,_⟩:=(rG h1).2.1 _ (qd (d:=bl) hj)
  rw[g0]at g1
  exact Gp (Q:=Gn c b.2.1) q9 (λx hx=>(gs x hx).2) g1
 unfold dy
 simp only[bQ]
 exact⟨b1,b2,o2,n4,n5,b6,b7,n8,n9,b10,b11⟩
end VM
end
