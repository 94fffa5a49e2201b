/- A part of the proof of WindTwice of layer 21: what the functions compute, in plain words. -/
import Derived.Test.YtecmobijochjkaaGreatPlain5
import Derived.Test.YtecmobijochjkaaGreatPlain4
set_option linter.all false
section
namespace VM
open Go VM.F
theorem agi{l:List Int}(h:Pos l)(hs:l.sum<9223372036854775808):IV l:=λx hx=>by
 have h3:=h x hx
 obtain⟨i,hi,rfl⟩:=qy.1 hx
 have h4:=yX h i
 rw[aU,bn hi]at h4
 simp only[mZ]at h4
 omega
theorem XJ(k:Nat):(List.replicate k (1:Int)).sum=k:=by
 induction k with
 |zero=>rfl
 |succ k ih=>rw[zq,cy,ih];omega
theorem XK(k:Nat):Pos (List.replicate k 1):=λx hx=>by rw[zk hx];omega
theorem XL{t:Int}{k:Nat}(h0:0≤t)(h1:t<9223372036854775808)(hk:1≤k)(hk1:k≤3):(I0 t k).1.length=k∧IV (I0 t k).1:=by
 have hS:0<(List.replicate k (1:Int)).sum:=by rw[XJ];omega
 have ee:I0 t k=(bS t (List.replicate k 1),0):=by
  unfold I0
  rw[ah ω,aJ]
  unfold rl
  have hm:may (List.replicate k 1)=true:=oO.2 ⟨by rw[cR];omega,XK k⟩
  rw[ah (by rw[hm];simp;omega),XJ,ah ω,ah ω]
 rw[ee]
 exact⟨by dsimp only;rw[oz,List.length_replicate],agi (uP h0 hS (XK k)) (by rw[uO h0 hS];omega)⟩
def LQ(y:yT):Prop:=aE y.1∧aE y.2.1∧p5 y.2.1
theorem agj{l:aD}(h: ∀y∈l,LQ y)(i:Nat):LQ (l.getD i cA):=by
 by_cases hk:i<l.length
 ·rw[aU,bn hk];exact h _ (dB hk)
 ·rw[aU,gH ω];exact⟨bJ,bJ,by unfold p5;decide⟩
theorem Uz{c:ae}{b:aq}{m:Nat}(hb:G m aL b)(hB:dz c b=true)(a:Int): ∀y∈posOf b.2.2.2.1 a,LQ y∧(0≤(y.1:Int)∧(y.1:Int)<(c.1.length:Int)):=λy hy=>by
 have hk:cz b.2.2.2.1=true:=by
  by_cases h:cz b.2.2.2.1=true
  ·exact h
  ·unfold posOf at hy;rw[ah h]at hy;nomatch hy
 unfold posOf at hy
 rw[aj hk]at hy
 obtain⟨x,hx,_,e⟩:=jf hy
 have hg:=hb.2.2.2.1.2 x hx
 have hq:=((cU hk).2 x hx).2
 have hp:=KJ hB x hx
 rw[e]
 exact⟨⟨hg.2.1,hg.2.2.1,hq⟩,hp⟩
theorem Sz(N:Nat)(hN:5000000≤N){c:ae}{b:aq}{m:Nat}(h2:200≤m)(hm:m≤40000)(hc:G m aA c)(hb:G m aL b){next:Int}(hn:aE next):Ok (λr=>LL m r.1∧r.1.length≤12) (bT N c b next):=by
 unfold bT bT.b
 refine bA (dI N hN ω hb) (bt (λ_=>an ⟨G.nil,bo _⟩) λhB=>aw (λ_=>an ⟨G.nil,bo _⟩) λ_=>aw (λ_=>an ⟨G.nil,bo _⟩) λ_=>bA (QE N (G.wf ω hb).w.s ω 0) (ok_eq (λ_=>an ⟨G.nil,bo _⟩) λ_=> ?_))
 have lq:=Uz hb hB 0
 have hal:=(am2 hb.2.2.2.1 0).1
 generalize posOf b.2.2.2.1 0=all at*
 refine bg (len:=4) (F:=λn k (s:Int×bz)=>bT.l8 N n s.1 c all s.2 k) (s:=(_,_)) (λk s=>aE s.1∧s.2.length≤3*k∧ ∀x∈s.2,G m jk x) ⟨hn,bo _,λx hx=>nomatch hx⟩ ω (λn k s hk hI hr=> ?_) (λn s hI=> ?_)
 all_goals unfold bT.l8 bT.yc
 ·refine aw (λ_=> ?_) λ_=>ω
  refine bg (len:=all.length) (F:=λn' i (z:aD×aH)=>bT.nT N (bT.l8 N n) n' s.1 c all s.2 (k:Int) z.1 z.2 i) (s:=(_,_)) (λi z=>z.1.length≤i∧(∀y∈z.1,LQ y)∧Bg (8+i) z.2) ⟨bo _,(λy hy=>nomatch hy),KL ω⟩ ω (λn' i z hi hz eO=> ?_) (λn' z hz=> ?_)
  all_goals unfold bT.nT bT.mP
  ·obtain⟨Cj,G7,hz3⟩:=hz
   have hx:all.getD i cA∈all:=by rw[aU,bn hi];exact dB hi
   have hy:=lq _ hx
   rw[ax (x:=(i:Int)+1) ω ω,ag i,aJ]
   exact aw (λ_=>aB ⟨ω,ω⟩ (aB hy.2 (ok_eq (λ_=>aB ⟨ω,ω⟩ (aC (by rw[List.length_singleton];omega) (aB ⟨ω,ω⟩ (af (bp N ω hy.1.2.1) λu hu=>af (AN N ω ω hu) λu hu=>af (kS N ω ω hz3 (Bg.mono hu ω)) λv hv=>eO (_,_) ⟨by dsimp only;rw[List.length_append,List.length_singleton];omega,λy h=>(List.mem_append.1 h).elim (G7 y) (λh=>by rw[List.mem_singleton.1 h];exact hy.1),Bg.mono hv ω⟩)))) λ_=>eO z ⟨ω,G7,Bg.mono hz3 ω⟩))) λ_=>ω
  ·obtain⟨Cj,G7,hz3⟩:=hz
   refine aw (λ_=>ω) λ_=>af (Ux N ω (Bg.mono hz3 ω) hc.2.2.2.2.2.1) λw hw=> ?_
   obtain⟨p,hp⟩: ∃p:Nat,w=(p:Int):=⟨w.toNat,ω⟩
   subst hp
   refine bg (len:=p) (F:=λI8 j (t:Int×bz)=>bT.HQ N (bT.l8 N n) I8 t.1 c all t.2 (k:Int) z.1 (p:Int) j) (s:=s) (λj t=>aE t.1∧t.2.length≤3*k+j∧ ∀x∈t.2,G m jk x) hI ω (λI8 j t hj ht Xs=> ?_) (λI8 t ht=> ?_)
   all_goals unfold bT.HQ bT.NU
   ·obtain⟨vB,Vg,ZB⟩:=ht
    refine aw (λ_=> ?_) λ_=>ω
    refine bg (len:=z.1.length) (F:=λn3 i u=>bT.Lw N (bT.l8 N n) (bT.HQ N (bT.l8 N n) I8) n3 t.1 c all t.2 (k:Int) z.1 (p:Int) (j:Int) (t.1,(ck,((0:Int),((1:Int),cA)))) u i) (λi u=>L2 i u) G.nil ω (λn3 i u hi hu SA=> ?_) (λn3 u hu=> ?_)
    all_goals unfold bT.Lw bT.NQ
    ·have G9:=hu.1
     have hq:=agj G7 i
     have nN:=hq
     unfold LQ aE p5 at nN
     have am4: ∀q:Int,0≤q→q<9223372036854775808→Ok (λr=>LL m r.1∧r.1.length≤12) (bT.UA N (bT.l8 N n) (bT.HQ N (bT.l8 N n) I8) (bT.Lw N (bT.l8 N n) (bT.HQ N (bT.l8 N n) I8) n3) t.1 c all t.2 (k:Int) z.1 (p:Int) (j:Int) (t.1,(ck,((0:Int),((1:Int),cA)))) u (i:Int) q):=λq h0 h1=>by
      unfold bT.UA bT.NV
      obtain⟨e1,e2⟩:=XL (k:=p) h0 h1 ω ω
      have am5: ∀v:List Int,v.length=p→IV v→Ok (λr=>LL m r.1∧r.1.length≤12) (bT.j32 N (bT.l8 N n) (bT.HQ N (bT.l8 N n) I8) (bT.Lw N (bT.l8 N n) (bT.HQ N (bT.l8 N n) I8) n3) t.1 c all t.2 (k:Int) z.1 (p:Int) (j:Int) (t.1,(ck,((0:Int),((1:Int),cA)))) u (i:Int) v):=λv P5 Zw=>by
       unfold bT.j32 bT.aim
       rw[ax (x:=(i:Int)+1) ω ω,ag i]
       have hx:G 0 jC ((z.1.getD (i:Int).toNat cA).1,(v.getD (j:Int).toNat 0,())):=G2 (agj G7 _).1 (tA Zw _)
       exact aB ⟨ω,ω⟩ (bu (λ_=>aB ⟨ω,ω⟩ (aB ⟨ω,ω⟩ (aC (by rw[aI];omega) (SA _ (G.cat hu (G.one hx (aG 1))))))) λ_=>SA u (G.mono ω hu))
      refine bA (Xk N hN h1) (aB ⟨ω,ω⟩ (aw (λ_=>aB ⟨ω,ω⟩ (aB ⟨ω,ω⟩ (am5 _ (by rw[bN];exact e1) λy hy=> ?_))) λ_=>am5 _ e1 e2))
      rcases xl hy with hy|rfl
      ·exact e2 y hy
      ·exact fT _
     rw[aJ]
     refine aw (λ_=>aB ⟨ω,ω⟩ (aw (λe9=> ?_) λZc=> ?_)) λ_=>ω
     ·have g: ∀x:Int,-9223372036854775808≤x∧x≠ -9223372036854775808→x<0→0≤W .i64 (0-x)∧W .i64 (0-x)<9223372036854775808:=λx h1 h2=>by rw[ax ω ω];omega
      have gx:=g _ ⟨nN.2.1.1,nN.2.2⟩ e9
      exact am4 _ gx.1 gx.2
     ·exact am4 _ Zc nN.2.1.2
    ·have G9:=hu.1
     rw[ax (x:=(j:Int)+1) ω ω,ag j]
     have hum:L2 m u:=G.mono ω hu
     refine aw (λ_=>ω) λ_=>ok_eq (λ_=>Xs t ⟨vB,ω,ZB⟩) λ_=> ?_
     unfold QF
     refine af (Q:=λr=>Bg 60000 r.1) (af (BQ N ω ω hc hum _) λr hr=>an hr) λa ha=>af (qt N ω ω ha) λd hd=>af (w4 N hd) λv hv=>bt (λ_=>an ⟨G.nil,Nat.zero_le _⟩) λ_=>aC (by rw[List.length_singleton];omega) (Xs (_,_) ⟨fT _,by dsimp only;rw[List.length_append,List.length_singleton];omega,λx hx=> ?_⟩)
     rcases bb.1 hx with hx|hx
     ·exact ZB x hx
     ·rw[bW.1 hx];exact⟨vB,hum,hv,(show aE 1 from bm),bJ,bJ,trivial⟩
   ·rw[ax (x:=(k:Int)+1) ω ω,ag k]
    exact aw (λ_=>ω) λ_=>hr t ⟨ht.1,by have:=ht.2.1;omega,ht.2.2⟩
 ·exact aw (λ_=>ω) λ_=>an ⟨⟨by have:=hI.2.1;dsimp only;omega,hI.2.2⟩,by have:=hI.2.1;dsimp only;omega⟩
theorem aa2(N:Nat)(hN:5000000≤N){c:ae}{b:aq}{m:Nat}(h2:200≤m)(hm:m≤40000)(hc:G m aA c)(hb:G m aL b){next:Int}(hn:aE next):Ok (λr=>LL m r.1) (bT N c b next):=KK (Sz N hN h2 hm hc hb hn) λ_ h=>h.1
end VM
end
section
namespace VM
open Go VM.F
theorem tL(N:Nat)(hN:200000≤N){l:aD}(hl:l.length≤100000):Ok (λ_=>True) (pj N l):=by
 unfold pj pj.b
 refine lW (len:=l.length) (F:=λn i=>pj.l2 N n l i) ω (λn i hi hr=> ?_) (λn=> ?_)
 all_goals unfold pj.l2 pj.gJ
 ·rw[ax (x:=(i:Int)+1) ω ω,ag i]
  dsimp only
  repeat' first|exact hr|exact eZ|refine aB ⟨ω,ω⟩ ?_|refine aB (by rw[ax (x:=(i:Int)-1) ω ω];omega) ?_|refine aw (λ_=> ?_) (λ_=> ?_)|refine eg (λ_=> ?_) (λ_=> ?_)|refine ok_eq (λ_=> ?_) (λ_=> ?_)|(exfalso;omega)
 ·exact aw (λ_=>ω) λ_=>eZ
theorem UB(N:Nat)(hN:200000≤N){l:List Int}(hl:l.length≤100000):Ok (λ_=>True) (rA N l):=by
 unfold rA rA.b
 refine lW (len:=l.length) (F:=λn i=>rA.l2 N n l i) ω (λn i hi hr=> ?_) (λn=> ?_)
 all_goals unfold rA.l2 rA.gJ
 ·rw[ax (x:=(i:Int)+1) ω ω,ag i]
  dsimp only
  repeat' first|exact hr|exact eZ|refine aB ⟨ω,ω⟩ ?_|refine aB (by rw[ax (x:=(i:Int)-1) ω ω];omega) ?_|refine aw (λ_=> ?_) (λ_=> ?_)|refine eg (λ_=> ?_) (λ_=> ?_)|refine ok_eq (λ_=> ?_) (λ_=> ?_)|(exfalso;omega)
 ·exact aw (λ_=>ω) λ_=>eZ
theorem XM(N:Nat)(hN:200000≤N)(a:Int){L:bz}{l:aK}{m:Nat}(hm:m≤50000)(hL:LL m L)(hl:G m (.slice eB) l):Ok aE (ju N a L l):=by
 have h1:=hL.1
 have h2:=hl.1
 have i3:aE 3:=bm
 have i2:aE 2:=bm
 unfold ju ju.b
 refine bg (len:=l.length) (F:=λn i v=>ju.l3 N n a L l v i) (λ_ v=>aE v) (show aE 1 from bm) ω (λn i v hi hv hr=> ?_) (λn v hv=> ?_)
 all_goals unfold ju.l3 ju.nO
 ·rw[ax (x:=(i:Int)+1) ω ω,ag i]
  exact aw (λ_=>aB ⟨ω,ω⟩ (bu (λ_=>hr v hv) λ_=>aB ⟨ω,ω⟩ (af (Gb N hN hm hL _) λ_ _=>pf (λ_=>aB ⟨ω,ω⟩ (eg (λ_=>hr _ (AP hv i3)) λ_=>hr _ (AP hv i2))) λ_=>hr _ (AP hv i2)))) λ_=>ω
 ·refine aw (λ_=>ω) λ_=>bg (len:=L.length) (F:=λn i v=>ju.p8 N n a L v i) (λ_ v=>aE v) hv ω (λn i v hi hv hr=> ?_) (λn v hv=> ?_)
  all_goals unfold ju.p8 ju.pF
  ·rw[ax (x:=(i:Int)+1) ω ω,ag i]
   exact aw (λ_=>aB ⟨ω,ω⟩ (ok_eq (λ_=>aB ⟨ω,ω⟩ (ok_eq (λ_=>hr 4 bm) λ_=>hr v hv)) λ_=>hr v hv)) λ_=>ω
  ·exact aw (λ_=>ω) λ_=>an hv
theorem NW(N:Nat)(hN:200000≤N)(c:ae){d:aD}{u:List Int}{L:bz}{l:aK}{m:Nat}(h2:200≤m)(hm:m≤50000)(hd:L2 m d)(hu:u.length≤m)(hL:LL m L)(hl:G m (.slice eB) l):Ok (λr=>L2 m r.1) (dv N c d u L l):=by
 have h3:=hd.1
 have h4:=hL.1
 have h5:=hl.1
 have hw:IM L:=λy hy=>cm (hL.2 y hy).2.1.1 ω
 unfold dv dv.b
 refine af (tL N hN ω) λ_ _=>bt (λ_=>an G.nil) λ_=>af (UB N hN ω) λ_ _=>bt (λ_=>an G.nil) λ_=>bA (Az N hN c ω hw) (bt (λ_=>an G.nil) λ_=>bA (tH N ω hN) (bt (λ_=>an G.nil) λ_=>iy (len:=13) (F:=λn i s=>dv.l5 N n d u L l s i) (λi s=>L2 i s) (λn i s hi hI hr=> ?_) (λn s hI=> ?_) 13 N 1 [] ω ω ω G.nil))
 all_goals unfold dv.l5 dv.ei
 ·have hs:=hI.1
  refine eg (λ_=> ?_) λ_=>ω
  refine bg (len:=d.length) (F:=λn' j (z:Int×Bool)=>dv.l9 N (dv.l5 N n) n' d u L l s (i:Int) z.1 z.2 j) (s:=(_,_)) (λ_ z=>aE z.1) bJ ω (λn' j z hj hz eO=> ?_) (λn' z hz=> ?_)
  all_goals unfold dv.l9 dv.xy
  ·rw[ax (x:=(j:Int)+1) ω ω,ag j]
   exact aw (λ_=>aB ⟨ω,ω⟩ (ok_eq (λ_=>aB ⟨ω,ω⟩ (eO (_,_) (G.at hd _).2.1)) λ_=>eO z hz)) λ_=>ω
  ·refine aw (λ_=>ω) λ_=>bg (len:=u.length) (F:=λn' j f=>dv.IZ N (dv.l5 N n) n' d u L l s (i:Int) z.1 f j) (λ_ _=>True) trivial ω (λn' j f hj _ eO=> ?_) (λn' f _=> ?_)
   all_goals unfold dv.IZ dv.FY
   ·rw[ax (x:=(j:Int)+1) ω ω,ag j]
    exact aw (λ_=>pf (λ_=>eO _ trivial) λ_=>aB ⟨ω,ω⟩ (eO _ trivial)) λ_=>ω
   ·refine aw (λ_=>ω) λ_=>bg (len:=l.length) (F:=λn' j f=>dv.G8 N (dv.l5 N n) n' d u L l s (i:Int) z.1 f j) (λ_ _=>True) trivial ω (λn' j f hj _ eO=> ?_) (λn' f _=> ?_)
    all_goals unfold dv.G8 dv.DD
    ·rw[ax (x:=(j:Int)+1) ω ω,ag j]
     exact aw (λ_=>pf (λ_=>eO _ trivial) λ_=>aB ⟨ω,ω⟩ (eO _ trivial)) λ_=>ω
    ·rw[ax (x:=(i:Int)+1) ω ω,ag i]
     dsimp only
     exact aw (λ_=>ω) λ_=>pf (λ_=>af (XM N hN _ hm hL hl) λv hv=>aC (by rw[aI];omega) (hr _ (G.cat hI (G.one (m:=1) (G2 (iM ω ω) (AP hz hv)) (aG 1))))) λ_=>hr s (G.mono ω hI)
 ·exact eg (λ_=>ω) λ_=>an (G.mono ω hI)
theorem XN(N:Nat)(hN:200000≤N){l:aD}(hl:l.length≤100000)(a:Int):Ok (λ_=>True) (rB N l a):=by
 unfold rB rB.b
 refine af (tL N hN hl) λ_ _=>bt (λ_=>eZ) λ_=>lW (len:=l.length) (F:=λn i=>rB.l4 N n l a i) ω (λn i hi hr=> ?_) (λn=> ?_)
 all_goals unfold rB.l4 rB.dw
 ·rw[ax (x:=(i:Int)+1) ω ω,ag i]
  exact aw (λ_=>aB ⟨ω,ω⟩ (ok_eq (λ_=>aB ⟨ω,ω⟩ eZ) λ_=>hr)) λ_=>ω
 ·exact aw (λ_=>ω) λ_=>eZ
theorem KS(N:Nat)(a:Int):Ok (λ_=>True) (XO N a):=by
 unfold XO
 exact ok_eq (λ_=>eZ) λ_=>eZ
theorem Gc(N:Nat)(hN:5000000≤N)(c:ae){b:aq}{d:aD}{m:Nat}(hm:m≤50000)(hb:G m aL b)(hd:L2 m d)(a k:Int):Ok (λr=>G m (.slice (.int .i64)) r.1) (rC N c b d a k):=by
 have hl:=hb.1.1
 have h2:=hd.1
 unfold rC rC.b
 refine bA (dI N hN hm hb) (bt (λ_=>an G.nil) λ_=>af (tL N ω ω) λ_ _=>bt (λ_=>an G.nil) λ_=>bg (len:=b.1.length) (F:=λn i s=>rC.l5 N n d a k b s i) (λi s=>G i (.slice (.int .i64)) s) G.nil ω (λn i s hi hI hr=> ?_) (λn s hI=> ?_))
 all_goals unfold rC.l5 rC.ei
 ·have hs:=hI.1
  rw[ax (x:=(i:Int)+1) ω ω,ag i]
  have h1:=hr s (G.mono ω hI)
  have hx:G 0 (.int .i64) (b.1.getD (i:Int).toNat cA).1:=(G.at hb.1 _).1
  exact aw (λ_=>aB ⟨ω,ω⟩ (af (KS N _) λ_ _=>pf (λ_=>bu (λ_=>af (mu N ω hm hb.2.2.1 _ _) λ_ _=>aw (λ_=>af (XN N ω ω _) λ_ _=>ok_eq (λ_=>aC (by rw[aI];omega) (hr _ (G.cat hI (G.one hx (aG 1))))) λ_=>h1) λ_=>h1) λ_=>h1) λ_=>h1)) λ_=>ω
 ·exact aw (λ_=>ω) λ_=>an (G.mono hl hI)
theorem AQ(N:Nat)(hN:200000≤N){a:aK}{m:Nat}(hm:m≤50000)(h:G m (.slice eB) a)(id:Int):Ok aE (mh N a id):=by
 refine nD (qp N (cm h.1 ω) hN id) ?_
 unfold nn
 split
 ·have: ∀l:aK,(∀x∈l,G m eB x)→aE (nk id l):=by
   intro l
   induction l with
   |nil=>intro _;exact bJ
   |cons x t ih=>
    intro hx
    have hi:=ih λy hy=>hx y (aZ _ hy)
    rw[sA]
    split
    ·split
     ·exact(hx x (bk ..)).1
     ·exact hi
    ·exact hi
  exact this a h.2
 ·exact bJ
abbrev L5(m:Nat)(l:bK):Prop:=G m (.slice sX) l
theorem G5{m:Nat}{a b c d e:Int}(ha:aE a)(hb:aE b)(hc:aE c)(hd:aE d)(he:aE e):G m sX (a,(b,(c,(d,(e,()))))):=⟨ha,hb,hc,hd,he,trivial⟩
theorem KT(N:Nat)(hN:200000≤N){l:bK}{b:aq}{m k:Nat}(hm:m≤50000)(hb:G m aL b)(hk:k≤1000000)(hl:L5 k l){a d n:Int}(ha:aE a)(hd:aE d)(hn:aE n):Ok (λr=>L5 (k+1) r) (KU N l b a d n):=by
 have h1:=hl.1
 unfold KU
 exact af (mu N hN hm hb.2.2.1 _ _) λx hx=>aw (λ_=>aC (by rw[aI];omega) (an (G.cat hl (G.one (m:=1) (G5 ha hd hn hx bJ) (aG 1))))) λ_=>an (G.mono ω hl)
theorem NX(N:Nat)(hN:5000000≤N){c:ae}{b:aq}{d g:aD}{a:Int}{m:Nat}(hm:m≤50000)(hc:G m aA c)(hb:G m aL b)(hd:L2 m d)(hg:L2 m g)(ha:aE a):Ok (λr=>L5 1000000 r.1) (cI N c b a d g):=by
 have h1:=hb.1.1
 have h2:=hd.1
 have h3:=hg.1
 have h4:=hb.2.1.1
 have hj: ∀l:bK,L5 1 l→Ok (λr=>L5 1000000 r.1) (cI.j9 N a d g c b l):=λl hl=>by
  unfold cI.j9 cI.Nd
  refine af (KT N ω hm hb ω hl bm bm ha) λl hl=>af (KT N ω hm hb ω hl bm bm bJ) λl hl=>iy (len:=5) (F:=λn k s=>cI.p8 N n a d g c b s k) (λk s=>L5 (3+m*k) s) (λn k s hk hs hr=> ?_) (λn s hs=> ?_) 5 N 1 l ω ω ω (G.mono ω hl)
  all_goals unfold cI.p8 cI.pF
  ·have hmk:m*k≤m*4:=lN m ω
   refine eg (λ_=>af (Gc N hN c hm hb hd _ _) λt ht=> ?_) λ_=>ω
   have htl:=ht.1
   refine bg (len:=t.1.length) (F:=λn' j u=>cI.wN N (cI.p8 N n) n' a d g c b u (k:Int) t.1 j) (λj u=>L5 (3+m*k+j) u) hs ω (λn' j u hj hu eO=> ?_) (λn' u hu=> ?_)
   all_goals unfold cI.wN cI.vv
   ·rw[ax (x:=(j:Int)+1) ω ω,ag j]
    exact aw (λ_=>aB ⟨ω,ω⟩ (af (KT N ω hm hb ω hu (fT _) bm (G.at ht _)) λv hv=>eO v hv)) λ_=>ω
   ·rw[ax (x:=(k:Int)+1) ω ω,ag k]
    exact aw (λ_=>ω) λ_=>hr u (G.mono (by rw[qH];omega) hu)
  ·refine eg (λ_=>ω) λ_=>bg (len:=b.1.length) (F:=λn j u=>cI.HQ N n a g c b u j) (λj u=>L5 (3+m*5+j) u) hs ω (λn j u hj hu hr=> ?_) (λn u hu=> ?_)
   all_goals unfold cI.HQ cI.NU
   ·have G9:=hu.1
    have hx:aE (b.1.getD (j:Int).toNat cA).1:=(G.at hb.1 _).1
    rw[ax (x:=(j:Int)+1) ω ω,ag j]
    have h0:=hr u (G.mono ω hu)
    exact aw (λ_=>aB ⟨ω,ω⟩ (af (KS N _) λ_ _=>bt (λ_=>h0) λ_=>ok_eq (λ_=>h0) λ_=>af (bp N ω hc.2.2.1) λp hp=>af (mu N ω hm hb.2.2.1 _ _) λq hq=>af (bp N ω hq) λq hq=>af (lG N ω ω ω hp hq) λy hy=>af (w4 N hy) λv hv=>bt (λ_=>an G.nil) λ_=>aw (λ_=>aC (by rw[aI];omega) (hr _ (G.mono ω (G.cat hu (G.one (m:=1) (G5 (show aE 8 from bm) (show aE 7 from bm) hx hv bJ) (aG 1)))))) λ_=>h0)) λ_=>ω
   ·refine aw (λ_=>ω) λ_=>bg (len:=g.length) (F:=λn j u=>cI.No N n a g b u j) (λj u=>L5 (3+m*5+m+j) u) (G.mono ω hu) ω (λn j u hj hu hr=> ?_) (λn u hu=> ?_)
    all_goals unfold cI.No cI.Ky
    ·have G9:=hu.1
     rw[ax (x:=(j:Int)+1) ω ω,ag j]
     have h0:=hr u (G.mono ω hu)
     dsimp only
     exact aw (λ_=>aB ⟨ω,ω⟩ (af (xH N ω hm hb.2.1 _) λx hx=>aB ⟨ω,ω⟩ (aB ⟨ω,ω⟩ (af (mu N ω hm hb.2.2.1 _ _) λq hq=>pf (λ_=>bu (λ_=>aw (λ_=>aC (by rw[aI];omega) (hr _ (G.mono ω (G.cat hu (G.one (m:=1) (G5 (show aE 9 from bm) (show aE 5 from bm) hx.1 (Xx (G.at hg _).2.1 hq) bJ) (aG 1)))))) λ_=>h0) λ_=>h0) λ_=>h0)))) λ_=>ω
    ·exact aw (λ_=>ω) λ_=>an (G.mono ω hu)
 unfold cI cI.b
 exact bA (dI N hN hm hb) (bt (λ_=>an G.nil) λ_=>af (tL N ω ω) λ_ _=>bt (λ_=>an G.nil) λ_=>af (BP N ω ω) λ_ _=>bt (λ_=>an G.nil) λ_=>af (oB N ω hm hb.1 _) λ_ _=>ok_eq (λ_=>an G.nil) λ_=>af (AQ N ω hm hb.2.1 _) λh hh=>bu (λ_=>af (KT N ω hm hb ω (G.nil (m:=0)) bm bm hh) λl hl=>hj l hl) λ_=>hj [] G.nil)
end VM
end
section
namespace VM
open Go VM.F
theorem Jg(N:Nat)(hN:5000000≤N)(c:ae){b:aq}{m:Nat}(hm:m≤50000)(hb:G m aL b):Ok (λr=>aE r.1) (aa3 N c b):=by
 unfold aa3
 exact bA (dI N hN hm hb) (bt (λ_=>an bJ) λ_=>af (mu N ω hm hb.2.2.1 _ _) λx hx=>ok_eq (λ_=>an bJ) λ_=>an (AP (fT _) bJ))
theorem Gd(N:Nat)(hN:5000000≤N)(c:ae){b:aq}{m:Nat}(hm:m≤50000)(hb:G m aL b):Ok (λr=>aE r.1) (aa4 N c b):=by
 unfold aa4
 exact bA (dI N hN hm hb) (bt (λ_=>an bJ) λ_=>af (mu N ω hm hb.2.2.1 _ _) λx hx=>an (AP hx bJ))
theorem ain(N:Nat)(a b:Int):Ok (λ_=>True) (Qm N a b):=by
 unfold Qm
 repeat' first|exact eZ|refine ok_eq (λ_=> ?_) (λ_=> ?_)|refine eg (λ_=> ?_) (λ_=> ?_)
theorem UC(N:Nat)(hN:200000≤N)(l:bK):Ok (λr=>r=true→l.length≤64) (rD N l):=by
 have hf:Ok (λr=>r=true→l.length≤64) (some false):=an λh=>nomatch h
 unfold rD rD.b
 refine aw (λ_=>hf) λhl=>lW (len:=l.length) (F:=λn i=>rD.l4 N n l i) ω (λn i hi hr=> ?_) (λn=> ?_)
 all_goals unfold rD.l4 rD.dw
 ·rw[ax (x:=(i:Int)+1) ω ω,ag i]
  dsimp only
  repeat' first|exact hr|exact hf|refine aB ⟨ω,ω⟩ ?_|refine aB (by rw[ax (x:=(i:Int)-1) ω ω];omega) ?_|refine aw (λ_=> ?_) (λ_=> ?_)|refine eg (λ_=> ?_) (λ_=> ?_)|refine ok_eq (λ_=> ?_) (λ_=> ?_)|(exfalso;omega)|refine af (ain N _ _) λ_ _=> ?_|refine bt (λ_=> ?_) (λ_=> ?_)
 ·exact aw (λ_=>ω) λ_=>an λ_=>ω
theorem SC{σ β:Type}{P:β→Prop}{F:Nat→Int→σ→Option β}{len:Nat}(I:σ→Prop)
  (hs: ∀n i s,i<len→I s→(∀j s',i<j→j≤len→I s'→Ok P (F n (j:Int) s'))→Ok P (F (n+1) (i:Int) s)) (he: ∀n s,I s→Ok P (F (n+1) (len:Int) s)):
  ∀m n i s,len-i≤m→m<n→i≤len→I s→Ok P (F n (i:Int) s)
 |m,0,i,s,_,hn,_,_=>ω
 |m,n+1,i,s,hm,hn,hi,hI=>by
  by_cases h:i<len
  ·exact hs n i s h hI λj s' hj Zd yp=>SC I hs he (m-1) n j s' ω ω Zd yp
  ·have:i=len:=ω
   subst this
   exact he n s hI
theorem G5q{m:Nat}{x:sW}{q:Int}(h:G m sX x)(hq:aE q):G m sX (x.1,(x.2.1,(x.2.2.1,(x.2.2.2.1,(q,x.2.2.2.2.2))))):=⟨h.1,h.2.1,h.2.2.1,h.2.2.2.1,hq,trivial⟩
theorem am6: ∀{w:List Int},Pos w→0≤w.sum
 |[],_=>fH _
 |x::t,h=>by
  rw[cy]
  have:=h x (bk ..)
  have:=am6 (w:=t) λy hy=>h y (aZ _ hy)
  omega
theorem UD{t:Int}{w:List Int}(h1:t<9223372036854775808)(h:(rl t w).2=0):(rl t w).1.length=w.length∧IV (rl t w).1:=by
 unfold rl at h ⊢
 split at h
 ·exact absurd h δ
 ·split at h
  ·exact absurd h δ
  ·rename_i h2 h3
   split at h
   ·split at h
    ·rename_i h4 h5
     rw[ah h2,ah h3,aj h4,aj h5]
     exact⟨cR ..,λx hx=>by rw[zk hx];decide⟩
    ·exact absurd h δ
   ·rename_i h4
    rw[ah h2,ah h3,ah h4]
    have hm:may w=true:=by
     by_cases hm:may w=true
     ·exact hm
     ·exact absurd (Or.inr (vI.2 hm)) h2
    have hp:=(oO.1 hm).2
    have h0:0≤t:=ω
    have hS:0<w.sum:=by have:=am6 hp;omega
    exact⟨oz t w,agi (uP h0 hS hp) (by rw[uO h0 hS];exact h1)⟩
theorem aa5{α:Type}{Q:α→Prop}{l:List α}{x:α}{k:Nat}(h: ∀y∈l,Q y)(hx:Q x): ∀y∈l.set k x,Q y:=λy hy=>by
 rcases xl hy with hy|rfl
 ·exact h y hy
 ·exact hx
theorem SD{α:Type}{Q:α→Prop}{l:List α}{d:α}{k:Nat}(h: ∀y∈l,Q y)(hk:k<l.length):Q (l.getD k d):=by
 rw[aU,bn hk];exact h _ (dB hk)
theorem Jh(N:Nat)(hN:5000000≤N){l:bK}{q:Int}{Q:sW→Prop}(hQ: ∀x,Q x→aE x.2.2.2.1)(hU: ∀(x:sW) (v:Int),Q x→aE v→Q (x.1,(x.2.1,(x.2.2.1,(x.2.2.2.1,(v,x.2.2.2.2.2))))))(hl: ∀x∈l,Q x)(hq:aE q):Ok (λr=>(r.1.length≤64∧ ∀x∈r.1,Q x)∧aE r.2.1) (dD N l q):=by
 have dJ: ∀e:Int,Ok (λr:bK×Int×Int=>(r.1.length≤64∧ ∀x∈r.1,Q x)∧aE r.2.1) (some ([],((0:Int),e))):=λe=>an ⟨⟨bo _,λx hx=>nomatch hx⟩,bJ⟩
 unfold dD dD.b
 refine af (UC N ω l) λz hz=>bt (λ_=>dJ _) λht=>aw (λ_=>dJ _) λ_=> ?_
 have nR:=hz ht
 rw[cJ]
 refine aC (by rw[bU];omega) (SC (len:=l.length) (F:=λn i (s:bK×Int)=>dD.l5 N n s.1 s.2 i) (λs=>s.1.length=l.length∧(∀x∈s.1,Q x)∧aE s.2) (λn i s hi hI hr=> ?_) (λn s hI=> ?_) l.length N 0 (l,q) ω ω ω ⟨rfl,hl,hq⟩)
 all_goals unfold dD.l5 dD.ei
 ·obtain⟨Lp,TL,hs3⟩:=hI
  refine aw (λ_=> ?_) λ_=>ω
  have fin: ∀(k:Nat) (w:List Int),i<k→k≤l.length→w.length=k-i→IV w→Ok (λr=>(r.1.length≤64∧ ∀x∈r.1,Q x)∧aE r.2.1) (dD.Je N (dD.l5 N n) s.1 s.2 (i:Int) (k:Int) w):=λk w hk Hj hw FZ=>by
   unfold dD.Je dD.BN
   have EO:aE (mn (Bs w.sum).1 s.2):=Xx (Xr _) hs3
   refine bA (yQ N ω FZ ω) (bA (q3 N _) (bt (λ_=>dJ _) λ_=>bA (BI N hN EO.2 FZ ω) (bu (λ_=>dJ _) λh0=> ?_)))
   obtain⟨e1,e2⟩:=UD EO.2 h0
   generalize (rl (mn (Bs w.sum).1 s.2) w).1=v at*
   refine iy (len:=k) (F:=λn' j (z:bK×Int)=>dD.G8 N (dD.l5 N n) n' z.1 z.2 (i:Int) (k:Int) v j) (λj z=>i≤j∧z.1.length=l.length∧(∀x∈z.1,Q x)∧aE z.2) (λn' j z hj hz eO=> ?_) (λn' z hz=> ?_) k N i s ω ω ω ⟨aG i,Lp,TL,hs3⟩
   all_goals unfold dD.G8 dD.DD
   ·obtain⟨pP,Cj,G7,hz3⟩:=hz
    dsimp only
    rw[ax (x:=(j:Int)+1) ω ω,ag j,ax (x:=(j:Int)-i) ω ω]
    exact aw (λ_=>aB ⟨ω,ω⟩ (aB ⟨ω,ω⟩ (aB ⟨ω,ω⟩ (eO (_,_) ⟨ω,by dsimp only;rw[List.length_set];exact Cj,aa5 G7 (hU _ _ (SD G7 ω) (tA e2 _)),fT _⟩)))) λ_=>ω
   ·exact aw (λ_=>ω) λ_=>hr k z hk Hj hz.2
  refine iy (len:=l.length) (F:=λn' k w=>dD.l8 N (dD.l5 N n) n' s.1 s.2 (i:Int) k w) (λk w=>i≤k∧w.length=k-i∧IV w) (λn' k w hk hw eO=> ?_) (λn' w hw=> ?_) l.length N i [] ω ω ω ⟨aG i,by rw[bU];omega,λx hx=>nomatch hx⟩
  all_goals unfold dD.l8 dD.yc
  ·obtain⟨hik,hwl,FZ⟩:=hw
   rw[ax (x:=(k:Int)+1) ω ω,ag k]
   refine aw (λ_=>aB ⟨ω,ω⟩ (aB ⟨ω,ω⟩ (ok_eq (λ_=>aB ⟨ω,ω⟩ (aC (by rw[aI];omega) (eO _ ⟨ω,by rw[aS,aI];omega,λx hx=> ?_⟩))) λjB=> ?_))) λ_=>ω
   ·rcases bb.1 hx with hx|hx
    ·exact FZ x hx
    ·rw[bW.1 hx];exact hQ _ (SD TL ω)
   ·refine fin k w ?_ ω hwl FZ
    by_cases e:k=i
    ·subst e;exact absurd rfl jB
    ·omega
  ·exact aw (λ_=>ω) λ_=>fin l.length w hi (aG _) hw.2.1 hw.2.2
 ·exact aw (λ_=>ω) λ_=>an ⟨⟨by have:=hI.1;dsimp only;omega,hI.2.1⟩,hI.2.2⟩
theorem QV(N:Nat)(hN:5000000≤N){l:bK}{q:Int}{m:Nat}(hl:L5 m l)(hq:aE q):Ok (λr=>L5 64 r.1∧aE r.2.1) (dD N l q):=
 Jh N hN (Q:=G 64 sX) (λx hx=>hx.2.2.2.1) (λx v hx hv=>G5q hx hv) (λx hx=>G.mono (m:=0) (bo _) (hl.2 x hx)) hq
abbrev R0:dL:=((0:Int),((0:Int),(([]:bK),((0:Int),()))))
theorem Ji(N:Nat)(hN:5000000≤N){c:ae}{b:aq}{d g:aD}{a:Int}{m:Nat}(h2:200≤m)(hm:m≤40000)(hc:G m aA c)(hb:G m aL b)(hd:L2 m d)(hg:L2 m g)(ha:aE a):Ok (λr=>G m aL r.1∧G m gM r.2.1) (ik N c b a d g):=by
 have dJ: ∀e:Int,Ok (λr:aq×dL×Int=>G m aL r.1∧G m gM r.2.1) (some ((ck,(c9,(bH,(bH,(dC,(dT,())))))),(R0,e))):=λe=>an ⟨G.iN,G.zero m gM⟩
 unfold ik ik.b
 refine af (NX N hN ω hc hb hd hg ha) λl hl=>ok_eq (λ_=>dJ _) λ_=>ok_eq (λ_=>dJ _) λ_=>af (Jg N hN c ω hb) λq hq=>bu (λ_=>dJ _) λ_=>bu (λ_=>dJ _) λ_=>af (QV N hN hl hq) λz ⟨Cj,G7⟩=>bu (λ_=>dJ _) λ_=> ?_
 have hzl:=Cj.1
 have hj: ∀(p:bF) (r:dL) (t:bK) (x k n:Int),jU 1000 p→G m gM r→L5 64 t→aE x→Ok (λr=>G m aL r.1∧G m gM r.2.1) (ik.j26 N b (ck,(c9,(bH,(bH,(dC,(dT,())))))) R0 p r t x k n):=λp r t x k n hp hr ht hx=>by
  have Hl:=hp.1
  unfold ik.j26 ik.aa6
  exact af (bp N ω hx) λv hv=>af (sL N ω _ _ _ _ (Bg.mono hv ω)) λu hu=>aC (by have:=hu.1;omega) (af (sK N ω h2 ω hb G.nil (jU.mono (jU.app hp hu) ω)) λw hw=>bu (λ_=>dJ _) λ_=>an ⟨hw,hr.1,hr.2.1,G.mono ω ht,hr.2.2.2⟩)
 refine bg (len:=z.1.length) (F:=λn i (s:bF×dL×bK)=>ik.IG N n a c b (ck,(c9,(bH,(bH,(dC,(dT,())))))) R0 z.1 z.2.1 s.1 s.2.1 s.2.2 i) (s:=(_,(_,_))) (λi s=>jU (2*i) s.1∧G m gM s.2.1∧L5 i s.2.2) ⟨jU.nil,⟨ha,hq,G.nil,G7,trivial⟩,G.nil⟩ ω (λn i s hi hI hr=> ?_) (λn s hI=> ?_)
 all_goals unfold ik.IG ik.HG
 ·obtain⟨h4,h5,h6⟩:=hI
  have hp:=h4.1
  have ht:=h6.1
  have hx:G 0 sX (z.1.getD (i:Int).toNat mK):=G.at Cj _
  rw[ax (x:=(i:Int)+1) ω ω,ag i]
  exact aw (λ_=>aB ⟨ω,ω⟩ (aw (λ_=>aB ⟨ω,ω⟩ (aC (by rw[aI];omega) (aB ⟨ω,ω⟩ (aB ⟨ω,ω⟩ (aB ⟨ω,ω⟩ (af (bp N ω hx.2.2.2.2.1) λv hv=>af (sL N ω _ _ _ _ (Bg.mono hv ω)) λu hu=>aC (by have:=hu.1;omega) (hr (_,(_,_)) ⟨jU.mono (jU.app h4 hu) ω,⟨h5.1,h5.2.1,G.nil,h5.2.2.2⟩,G.cat h6 (G.one hx (aG 1))⟩))))))) λ_=>hr s ⟨jU.mono h4 ω,h5,G.mono ω h6⟩)) λ_=>ω
 ·obtain⟨h4,h5,h6⟩:=hI
  have hp:=h4.1
  dsimp only
  exact aw (λ_=>ω) λ_=>af (bp N ω G7) λv hv=>af (sL N ω _ _ _ _ (Bg.mono hv ω)) λu hu=>aC (by have:=hu.1;omega) (af (Gd N hN c ω hb) λx hx=>af (AQ N ω ω hb.2.1 _) λh hh=>bu (λ_=>hj _ _ _ _ _ _ (jU.mono (jU.app h4 hu) ω) h5 (G.mono ω h6) hx) λ_=>hj _ _ _ _ _ _ (jU.mono (jU.app h4 hu) ω) h5 (G.mono ω h6) hx)
end VM
end
section
namespace VM
open Go VM.F
theorem UE(N:Nat)(hN:5000000≤N){t:Int}{w:List Int}(ht:t<9223372036854775808)(hw:IV w)(hl:w.length≤1000000):Ok (λr=>r.2.2=0→r.1.length=w.length∧IV r.1) (eL N t w w):=by
 refine nD (F4 N hN ht hw hw hl) λh0=> ?_
 have f:=F5 ht hw h0
 have c:=f.c
 have hl2:=c.l2
 refine⟨hl2,λx hx=> ?_⟩
 obtain⟨i,hi,e⟩:=gh hx
 have h1:=c.le i ω
 have h2:=(c.pc i).2
 have h3:=c.po i
 rw[aU (l:=(sJ t w w).1),bn hi,mZ,e]at h1 h3
 exact⟨ω,ω⟩
theorem aa7(N:Nat)(hN:5000000≤N)(c:ae){b:aq}{m:Nat}(hm:m≤40000)(hb:G m aL b){a:Int}(ha:aE a):Ok (λr=>L3 (m+1) r.1) (fC N c b a):=by
 have w:=(G.wf ω hb).w
 have hl:=hb.2.2.2.1.1
 unfold fC fC.b
 refine bA (dI N hN ω hb) (bt (λ_=>an G.nil) λ_=>aw (λ_=>an G.nil) λ_=>eg (λ_=>an G.nil) λ_=>bA (D2 N w.s ω 0 a) (ok_eq (λ_=>an G.nil) λ_=> ?_))
 have hq:=Xg w.qs 0 a
 generalize eG b.2.2.2.1 0 a=q at*
 refine bg (len:=b.2.2.2.1.length) (F:=λn i (s:List Int×List Int)=>fC.BM N n a b q s.1 s.2 i) (s:=(_,_)) (λi s=>s.1.length≤i∧s.2.length=s.1.length∧IV s.1∧IV s.2) ⟨bo _,rfl,(λx hx=>nomatch hx),λx hx=>nomatch hx⟩ ω (λn i s hi hI hr=> ?_) (λn s hI=> ?_)
 all_goals unfold fC.BM fC.yZ
 ·obtain⟨h1,h2,h3,h4⟩:=hI
  have hx:G 0 jt (b.2.2.2.1.getD (i:Int).toNat bh):=G.at hb.2.2.2.1 _
  rw[ax (x:=(i:Int)+1) ω ω,ag i]
  have h0:=hr s ⟨ω,h2,h3,h4⟩
  have sn: ∀{l:List Int} {x:Int},IV l→aE x→IV (l++[x]):=λhl hx y hy=>(bb.1 hy).elim (hl y) λhy=>by rw[bW.1 hy];exact hx
  dsimp only
  exact aw (λ_=>aB ⟨ω,ω⟩ (bu (λ_=>ok_eq (λ_=>pf (λ_=>aC (by rw[List.length_singleton];omega) (aC (by rw[List.length_singleton];omega) (hr (_,_) ⟨by dsimp only;rw[List.length_append,List.length_singleton];omega,by dsimp only;rw[List.length_append,List.length_append,List.length_singleton,List.length_singleton];omega,sn h3 hx.1,sn h4 (AP hx.2.2.1 (fT _))⟩))) λ_=>h0) λ_=>h0) λ_=>h0)) λ_=>ω
 ·obtain⟨h1,h2,h3,h4⟩:=hI
  refine aw (λ_=>ω) λ_=>af (UE N hN (AP hq (fT _)).2 h4 ω) λz hz=>bu (λ_=>an G.nil) λh0=> ?_
  obtain⟨e1,e2⟩:=hz h0
  refine bg (len:=z.1.length) (F:=λn i u=>fC.UF N n a q s.1 z.1 u i) (λi u=>L3 (1+i) u) (G.one (m:=1) (G3 bJ ha (fT _)) (aG 1)) ω (λn i u hi hu hr=> ?_) (λn u hu=> ?_)
  all_goals unfold fC.UF fC.XP
  ·have G9:=hu.1
   rw[ax (x:=(i:Int)+1) ω ω,ag i]
   have h0:=hr u (G.mono ω hu)
   have put: ∀x:Int,aE x→Ok (λr=>L3 (m+1) r.1) (cond (small (u.length+[((s.1.getD (i:Int).toNat 0,(a,(x,()))):db)].length)) (fC.UF N n a q s.1 z.1 (u++[(s.1.getD (i:Int).toNat 0,(a,(x,())))]) ((i+1:Nat):Int)) none):=λx hx=>aC (by rw[aI];omega) (hr _ (G.mono ω (G.cat hu (G.one (m:=1) (G3 (tA h3 _) ha hx) (aG 1)))))
   dsimp only
   exact aw (λ_=>aB ⟨ω,ω⟩ (aw (λ_=>bu (λ_=>aB ⟨ω,ω⟩ (put _ (fT _))) λ_=>h0) λ_=>bu (λ_=>aB ⟨ω,ω⟩ (put _ (tA e2 _))) λ_=>h0)) λ_=>ω
  ·exact aw (λ_=>ω) λ_=>an (G.mono ω hu)
theorem SE(N:Nat)(hN:5000000≤N){c:ae}{b:aq}{m:Nat}(h2:200≤m)(hm:m≤7000)(hc:G 5 aA c)(hb:G m aL b):Ok (λr=>G m aL r.1) (nJ N c b):=by
 have Mn:=hc.1.1
 unfold nJ nJ.b
 refine bA (dI N hN ω hb) (bt (λ_=>an G.iN) λ_=>bg (len:=c.1.length) (F:=λn i s=>nJ.l5 N n c b (ck,(c9,(bH,(bH,(dC,(dT,())))))) s i) (λi s=>L3 ((m+1)*i) s) G.nil ω (λn i s hi hI hr=> ?_) (λn s hI=> ?_))
 all_goals unfold nJ.l5 nJ.ei
 ·have hs:=hI.1
  have XQ:(m+1)*i≤(m+1)*5:=lN _ ω
  rw[ax (x:=(i:Int)+1) ω ω,ag i]
  exact aw (λ_=>af (aa7 N hN c ω hb (iM ω ω)) λr hrr=>bu (λ_=>an G.iN) λ_=>aC (by have:=hrr.1;omega) (hr _ (G.mono (by rw[qH];omega) (G.cat hI hrr)))) λ_=>ω
 ·have XQ:(m+1)*c.1.length≤(m+1)*5:=lN _ ω
  exact aw (λ_=>ω) λ_=>af (sK N ω h2 ω hb (G.mono ω hI) jU.nil) λr hr=>an hr
end VM
end
section
namespace VM
open Go VM.F
theorem SF(N:Nat)(hN:200000≤N){l:aK}{m:Nat}(hm:m≤50000)(h:G m (.slice eB) l)(a:Int):Ok (λr=>G 0 eB r.1) (rE N l a):=by
 have hl:=h.1
 have hz:G 0 eB aV:=G.zero 0 eB
 unfold rE rE.b
 refine bA (tH N ω hN) (bt (λ_=>an hz) λ_=>bg (len:=l.length) (F:=λn i (z:bO×Bool)=>rE.l6 N n l a aV z.1 z.2 i) (s:=(_,_)) (λ_ z=>G 0 eB z.1) hz ω (λn i z hi hI hr=> ?_) (λn z hI=> ?_))
 all_goals unfold rE.l6 rE.uu
 ·rw[ax (x:=(i:Int)+1) ω ω,ag i]
  have hx:G 0 eB (l.getD (i:Int).toNat aV):=G.at h _
  have h1:=hr z hI
  have h2:=hr (_,true) hx
  repeat' first|exact h1|exact h2|refine aB ⟨ω,ω⟩ ?_|refine aw (λ_=> ?_) (λ_=> ?_)|refine ok_eq (λ_=> ?_) (λ_=> ?_)|refine bt (λ_=> ?_) (λ_=> ?_)|(exfalso;omega)
 ·exact aw (λ_=>ω) λ_=>an hI
theorem GL{m:Nat}{a b d e f:Int}{l:aD}(ha:aE a)(hl:L2 m l)(hb:aE b)(hd:aE d)(he:aE e)(hf:aE f):G m jk (a,(l,(b,(d,(e,(f,())))))):=⟨ha,hl,hb,hd,he,hf,trivial⟩
theorem LL.app{m:Nat}{k:Nat}{l:bz}{x:ir}(hl:l.length≤k∧ ∀y∈l,G m jk y)(hx:G m jk x):(l++[x]).length≤k+1∧ ∀y∈l++[x],G m jk y:=
 ⟨by rw[aS,aI];have:=hl.1;omega,λy hy=>(bb.1 hy).elim (hl.2 y) λhy=>by rw[bW.1 hy];exact hx⟩
theorem NY(N:Nat)(hN:5000000≤N)(c:ae){b:aq}{L:bz}{l:aK}{m:Nat}(h2:200≤m)(hm:m≤2000)(hb:G m aL b)(hL:LL m L)(hl:G m (.slice eB) l):Ok (λr=>G m aL r.1∧LL m r.2.1) (fJ N c b L l):=by
 have dJ: ∀e:Int,Ok (λr:aq×bz×Int=>G m aL r.1∧LL m r.2.1) (some ((ck,(c9,(bH,(bH,(dC,(dT,())))))),([],e))):=λe=>an ⟨G.iN,G.nil⟩
 have h3:=hL.1
 have h4:=hl.1
 have hw:IM L:=λy hy=>cm (hL.2 y hy).2.1.1 ω
 unfold fJ fJ.b
 refine bA (dI N hN ω hb) (bt (λ_=>dJ _) λ_=>bA (Az N ω c ω hw) (bt (λ_=>dJ _) λhk=>bA (tH N ω ω) (bt (λ_=>dJ _) λ_=> ?_)))
 have h12:L.length≤12:=by
  unfold BB at hk
  exact bx (cO.1 (cO.1 hk).2).1
 refine bg (len:=L.length) (F:=λn i (z:au×bF×bz)=>fJ.l7 N n L l b (ck,(c9,(bH,(bH,(dC,(dT,())))))) z.1 z.2.1 z.2.2 i) (s:=(_,(_,_))) (λi z=>L3 (2*m*i) z.1∧jU (2*i) z.2.1∧z.2.2.length≤i∧ ∀y∈z.2.2,G m jk y) ⟨G.nil,jU.nil,bo _,λy hy=>nomatch hy⟩ ω (λn i z hi hI hr=> ?_) (λn z hI=> ?_)
 all_goals unfold fJ.l7 fJ.q4
 ·obtain⟨h5,h6,h7⟩:=hI
  have h8:=h6.1
  have h9:=h7.1
  have XQ:2*m*i≤2*m*12:=lN _ ω
  have hms:2*m*(i+1)=2*m*i+2*m:=qH _ _
  have hx:G m jk (L.getD (i:Int).toNat ((0:Int),(ck,aV))):=G.at hL _
  have hxl:=hx.2.1.1
  rw[ax (x:=(i:Int)+1) ω ω,ag i]
  dsimp only
  rw[cJ]
  have put: ∀x:ir,G m jk x→Ok (λr=>G m aL r.1∧LL m r.2.1) (cond (small (z.2.2.length+[x].length)) (fJ.l7 N n L l b (ck,(c9,(bH,(bH,(dC,(dT,())))))) z.1 z.2.1 (z.2.2++[x]) ((i+1:Nat):Int)) none):=λx hx=>aC (by rw[aI];omega) (hr (z.1,(z.2.1,z.2.2++[x])) ⟨G.mono ω h5,jU.mono h6 ω,LL.app h7 hx⟩)
  refine aw (λ_=>aB ⟨ω,ω⟩ (aC (by rw[bU];omega) (bu (λ_=>put _ hx) λ_=>af (SF N ω ω hl _) λw hw=>bt (λ_=>put _ (GL hx.1 hx.2.1 hx.2.2.1 (show aE 3 from bm) hx.2.2.2.2.1 hx.2.2.2.2.2.1)) λ_=>af (AQ N ω ω hb.2.1 _) λh hh=>ok_eq (λ_=>dJ _) λ_=>af (qu N ω ω hb _) λ_ _=>ok_eq (λ_=>dJ _) λ_=> ?_))) λ_=>ω
  have oY:=GL hx.1 hx.2.1 hx.2.2.1 (show aE 2 from bm) hw.2.2.1 hw.2.2.2.1
  generalize hX:(((L.getD (i:Int).toNat ((0:Int),(ck,aV))).1,((L.getD (i:Int).toNat ((0:Int),(ck,aV))).2.1,((L.getD (i:Int).toNat ((0:Int),(ck,aV))).2.2.1,((2:Int),(w.1.2.2.1,(w.1.2.2.2.1,())))))):ir)=X at oY
  have hXl:X.2.1.length≤m:=oY.2.1.1
  refine bg (len:=X.2.1.length) (F:=λn' j u=>fJ.wO N (fJ.l7 N n) n' L l b (ck,(c9,(bH,(bH,(dC,(dT,())))))) u z.2.1 z.2.2 (i:Int) X w.1 h j) (s:=z.1) (λj u=>L3 (2*m*i+2*j) u) h5 ω (λn' j u hj hu eO=> ?_) (λn' u hu=> ?_)
  all_goals unfold fJ.wO fJ.vw
  ·have G9:=hu.1
   have hy:G m jC (X.2.1.getD (j:Int).toNat cA):=G.at oY.2.1 _
   dsimp only
   rw[ax (x:=(j:Int)+1) ω ω,ag j]
   exact aw (λ_=>aB ⟨ω,ω⟩ (aB ⟨ω,ω⟩ (aB ⟨ω,ω⟩ (aB ⟨ω,ω⟩ (aC (by rw[xI];omega) (eO _ (G.mono ω (G.cat hu (G.two (m:=2) (G3 bJ hy.1 (fT _)) (G3 hh hy.1 hy.2.1) (aG 2)))))))))) λ_=>ω
  ·refine aw (λ_=>ω) λ_=>af (bp N ω hw.2.2.2.1) λv hv=>af (sL N ω _ _ _ _ (Bg.mono hv ω)) λp hp=>aC (by have:=hp.1;omega) (aC (by rw[aI];omega) ?_)
   rw[ax (x:=(i:Int)+1) ω ω,ag i]
   exact hr (_,(_,_)) ⟨G.mono ω hu,jU.mono (jU.app h6 hp) ω,LL.app h7 oY⟩
 ·obtain⟨h5,h6,h7⟩:=hI
  have XQ:2*m*L.length≤2*m*12:=lN _ ω
  exact aw (λ_=>ω) λ_=>af (sK N ω h2 ω hb (G.mono ω h5) (jU.mono h6 ω)) λr hr=>bu (λ_=>dJ _) λ_=>an ⟨hr,cm h7.1 ω,h7.2⟩
end VM
end
section
namespace VM
open Go VM.F
theorem NZ{l:aK}(h:fA l=true):l.length≤24:=by
 unfold fA at h
 rw[fF]at h
 have h:=bx h
 have key: ∀i,i<l.length→(i:Int)+1≤(l.getD i aV).1:=by
  intro i
  induction i with
  |zero=>intro hi;exact(h 0 hi).1.1.1
  |succ i ih=>
   intro hi
   have h1:=ih ω
   have h2:(l.getD i aV).1<(l.getD (i+1) aV).1:=(h (i+1) hi).2.1 ω
   have g: ∀a b:Int,(i:Int)+1≤a→a<b→((i+1:Nat):Int)+1≤b:=λa b h1 h2=>ω
   exact g _ _ h1 h2
 by_cases hl:l.length≤24
 ·exact hl
 ·have h1:=key 24 ω
  have h2:=(h 24 ω).1.1.2
  have g: ∀a:Int,((24:Nat):Int)+1≤a→a≤24→False:=λa h1 h2=>ω
  exact(g _ h1 h2).elim
theorem Jj(N:Nat)(hN:5000000≤N){c:ae}{b:aq}{m:Nat}(hm:m≤40000)(hc:G m aA c)(hb:G m aL b)(a:Int):Ok (λr=>aE r.1) (F60 N c b a):=by
 unfold F60 QF
 exact bA (dI N hN ω hb) (bt (λ_=>an bJ) λ_=>af (xH N ω ω hb.2.1 _) λ_ _=>bt (λ_=>an bJ) λ_=>af (NL N ω ω hb.2.2.2.1 _) λl hl=>af (Q:=λr=>Bg 60000 r.1) (af (BQ N ω ω hc hl _) λr hr=>an hr) λu hu=>af (tK N ω ω hb _) λg hg=>eg (λ_=>an bJ) λ_=>af (w4 N hu) λv hv=>pf (λ_=>aw (λ_=>an hv) λ_=>an hg) λ_=>an hg)
theorem XR(N:Nat)(hN:200000≤N){l:au}{a d:Int}{m:Nat}(hm:m≤50000)(h:L3 m l)(ha:aE a)(hd:aE d):Ok (λr=>L3 (2*m) r) (iR N l a d):=by
 have hl:=h.1
 unfold iR iR.b
 refine bA (kN N ω hN) (bt (λ_=>an G.nil) λ_=>ok_eq (λ_=>an G.nil) λ_=>aw (λ_=>an G.nil) λ_=>aw (λ_=>an G.nil) λ_=>aw (λ_=>an G.nil) λ_=>aw (λ_=>an G.nil) λ_=>bg (len:=l.length) (F:=λn i s=>iR.l5 N n l a d s i) (λi s=>L3 (2*i) s) G.nil ω (λn i s hi hI hr=> ?_) (λn s hI=> ?_))
 all_goals unfold iR.l5 iR.ei
 ·have hs:=hI.1
  have hx:=G.at h (i:Int).toNat
  dsimp only
  rw[ax (x:=(i:Int)+1) ω ω,ag i]
  have h1:=hr s (G.mono ω hI)
  exact aw (λ_=>aB ⟨ω,ω⟩ (ok_eq (λ_=>aB ⟨ω,ω⟩ (aB ⟨ω,ω⟩ (aB ⟨ω,ω⟩ (aB ⟨ω,ω⟩ (aC (by rw[xI];omega) (hr _ (G.mono ω (G.cat hI (G.two (m:=2) (G3 ha hx.2.1 (fT _)) (G3 hd hx.2.1 hx.2.2.1) (aG 2)))))))))) λ_=>h1)) λ_=>ω
 ·exact aw (λ_=>ω) λ_=>an (G.mono ω hI)
theorem SG(N:Nat)(hN:5000000≤N){c:ae}{b:aq}{m:Nat}(h2:200≤m)(hm:m≤1000)(hc:G m aA c)(hb:G m aL b)(a:Int):Ok (λr=>G m aL r.1) (mU N c b a):=by
 unfold mU mU.b
 refine bA (dI N hN ω hb) (bt (λ_=>an G.iN) λhB=>af (qu N ω ω hb _) λ_ _=>ok_eq (λ_=>an G.iN) λ_=> ?_)
 have hal:b.2.1.length≤24:=by
  unfold dz at hB
  have h1:=(cO.1 (cO.1 hB).2).1
  unfold pE at h1
  exact NZ (cO.1 (cO.1 h1).2).1
 refine bg (len:=b.2.1.length) (F:=λn i (z:au×bF)=>mU.l8 N n a c b (ck,(c9,(bH,(bH,(dC,(dT,())))))) z.1 z.2 i) (s:=(_,_)) (λi z=>L3 (2*m*i) z.1∧jU (4*i) z.2) ⟨G.nil,jU.nil⟩ ω (λn i z hi hI hr=> ?_) (λn z hI=> ?_)
 all_goals unfold mU.l8 mU.yc
 ·obtain⟨h5,h6⟩:=hI
  have h7:=h5.1
  have h8:=h6.1
  have XQ:2*m*i≤2*m*24:=lN _ ω
  have hms:2*m*(i+1)=2*m*i+2*m:=qH _ _
  have hx:G m eB (b.2.1.getD (i:Int).toNat aV):=G.at hb.2.1 _
  have hj: ∀p:bF,jU (4*i+2) p→Ok (λr=>G m aL r.1) (mU.A8 N (mU.l8 N n) a c b (ck,(c9,(bH,(bH,(dC,(dT,())))))) z.1 p (i:Int) (b.2.1.getD (i:Int).toNat aV)):=λp hp=>by
   have Hl:=hp.1
   unfold mU.A8 mU.uT
   rw[ax (x:=(i:Int)+1) ω ω,ag i]
   exact af (tK N ω ω hb _) λg hg=>aw (λ_=>af (bp N ω hg) λv hv=>af (qt N ω ω hv) λv hv=>af (sL N ω _ _ _ _ (Bg.mono hv ω)) λu hu=>aC (by have:=hu.1;omega) (af (XR N ω ω hb.2.2.2.1 hx.1 bJ) λs hs=>aC (by have:=hs.1;omega) (hr (_,_) ⟨G.mono ω (G.cat h5 hs),jU.mono (jU.app hp hu) ω⟩))) λ_=>af (XR N ω ω hb.2.2.2.1 hx.1 bJ) λs hs=>aC (by have:=hs.1;omega) (hr (_,_) ⟨G.mono ω (G.cat h5 hs),jU.mono hp ω⟩)
  rw[ax (x:=(i:Int)+1) ω ω,ag i]
  exact aw (λ_=>aB ⟨ω,ω⟩ (bu (λ_=>hr z ⟨G.mono ω h5,jU.mono h6 ω⟩) λ_=>ok_eq (λ_=>af (Jj N hN ω hc hb _) λq hq=>af (bp N ω hq) λv hv=>af (sL N ω _ _ _ _ (Bg.mono hv ω)) λu hu=>aC (by have:=hu.1;omega) (hj _ (jU.mono (jU.app h6 hu) ω))) λ_=>hj _ (jU.mono h6 ω))) λ_=>ω
 ·obtain⟨h5,h6⟩:=hI
  have XQ:2*m*b.2.1.length≤2*m*24:=lN _ ω
  exact aw (λ_=>ω) λ_=>af (sK N ω h2 ω hb (G.mono ω h5) (jU.mono h6 ω)) λr hr=>an hr
abbrev GS(m:Nat)(s:aQ):Prop:=G m dt s
abbrev SR(m:Nat)(r:aQ×db):Prop:=GS m r.1
theorem KV(N:Nat)(e:Int):Ok (λ_=>True) (fx N e):=by
 unfold fx;exact eZ
theorem UG(N:Nat)(hN:5000000≤N){c:ae}{s:aQ}{e:gP}{m:Nat}(h2:200≤m)(hm:m≤1000)(hc:G m aA c)(hs:GS m s)(he:G 0 kX e):Ok (SR m) (nK N c s e):=by
 have hhl:=hs.2.2.2.1.2.2.2.2.1.1
 unfold nK nK.b
 generalize ((0:Int),((0:Int),_))=S0
 refine bg (len:=s.2.2.2.1.2.2.2.2.1.length) (F:=λn i (z:aQ×aK×Bool×Int)=>nK.l5 N n c z.1 e S0 bh z.2.1 z.2.2.1 z.2.2.2 i) (s:=(_,(_,(_,_)))) (λi z=>GS m z.1∧z.1.2.2.2.1.2.2.2.2.1=s.2.2.2.1.2.2.2.2.1∧G i (.slice eB) z.2.1) ⟨hs,rfl,G.nil⟩ ω (λn i z hi hI hr=> ?_) (λn z hI=> ?_)
 all_goals unfold nK.l5 nK.ei
 ·obtain⟨hz,hh,ho⟩:=hI
  have Ii:=ho.1
  rw[hh,ax (x:=(i:Int)+1) ω ω,ag i]
  have hx:G 0 eB (s.2.2.2.1.2.2.2.2.1.getD (i:Int).toNat aV):=G.at hs.2.2.2.1.2.2.2.2.1 _
  refine aw (λ_=>aB ⟨ω,ω⟩ (ok_eq (λ_=>af (Sx N hN h2 ω hc hz.2.2.1 (G.mono (bo m) hx) he.2.2.1 he.2.2.2.2.2.2.1 he.2.2.2.2.2.2.2.1) λr ⟨yP,yG⟩=>bu (λ_=>af (KV N _) λ_ _=>an hz) λ_=> ?_) λ_=>aw (λ_=>aC (by rw[aI];omega) (hr (z.1,(z.2.1++[s.2.2.2.1.2.2.2.2.1.getD (i:Int).toNat aV],z.2.2)) ⟨hz,hh,G.cat ho (G.one hx (aG 1))⟩)) λ_=>hr z ⟨hz,hh,G.mono ω ho⟩)) λ_=>ω
  have A5:GS m (z.1.1,(z.1.2.1,(r.1,z.1.2.2.2))):=⟨hz.1,hz.2.1,yP,hz.2.2.2⟩
  have aio:G 0 eB r.2.1:=yG
  exact aw (λ_=>aC (by rw[aI];omega) (hr ((z.1.1,(z.1.2.1,(r.1,z.1.2.2.2))),(z.2.1++[r.2.1],(true,r.2.1.2.2.2.1))) ⟨A5,hh,G.cat ho (G.one aio (aG 1))⟩)) λ_=>hr ((z.1.1,(z.1.2.1,(r.1,z.1.2.2.2))),(z.2.1,(true,r.2.1.2.2.2.1))) ⟨A5,hh,G.mono ω ho⟩
 ·obtain⟨hz,hh,ho⟩:=hI
  rw[hh]
  exact aw (λ_=>ω) λ_=>bt (λ_=>af (KV N _) λ_ _=>an hz) λ_=>an ⟨hz.1,hz.2.1,hz.2.2.1,⟨hz.2.2.2.1.1,hz.2.2.2.1.2.1,hz.2.2.2.1.2.2.1,hz.2.2.2.1.2.2.2.1,G.mono hhl ho,hz.2.2.2.1.2.2.2.2.2⟩,hz.2.2.2.2⟩
end VM
end
section
namespace VM
open Go VM.F
theorem tM(N:Nat)(hN:4000000≤N){s:aQ}{q:Int}(hs:aE s.1)(hq:aE q):Ok (λr=>aE r.1) (UH N s q):=by
 unfold UH
 exact af (bp N hN hs) λa ha=>af (bp N hN hq) λb hb=>af (kS N hN ω ha hb) λx hx=>af (w4 N hx) λv hv=>an hv
theorem c7{α:Type}{P:α×db→Prop}{N:Nat}{e:Int}{f:db→Option (α×db)}(h: ∀r,Ok P (f r)):Ok P ((fx N e).bind f):=af (KV N e) λr _=>h r
theorem XS(N:Nat)(hN:5000000≤N){c:ae}{s:aQ}{e:gP}{m:Nat}(h2:200≤m)(hm:m≤999)(hc:G 5 aA c)(hs:GS m s)(he:G 0 kX e):Ok (SR (m+1)) (nL N c s e):=by
 have DR:G m aA c:=G.mono ω hc
 have RF:GS (m+1) s:=G.mono ω hs
 obtain⟨s1,s2,s3,⟨k1,k2,k3,k4,k5,k6,k7,k8,k9,UI,XT⟩,s5⟩:=RF
 have hk:=hs.2.2.2.1
 have i2:aE 2:=bm
 have i3:aE 3:=bm
 have up: ∀{τ:Ty} {x:τ.den},G m τ x→G (m+1) τ x:=λh=>G.mono ω h
 have ca: ∀r:db,Ok (SR (m+1)) (some (s,r)):=λr=>an (up hs)
 unfold nL nL.b
 refine ok_eq (λ_=> ?_) λ_=>ok_eq (λ_=> ?_) λ_=>ok_eq (λ_=> ?_) λ_=>ok_eq (λ_=> ?_) λ_=>ok_eq (λ_=> ?_) λ_=>ok_eq (λ_=> ?_) λ_=>ok_eq (λ_=> ?_) λ_=>ok_eq (λ_=> ?_) λ_=>c7 λr=>ca r
 ·exact af (aa0 N hN ω DR hs.2.2.1 _ he.2.1 _) λr hr=>c7 λ_=>an ⟨s1,s2,up hr,(up hs).2.2.2⟩
 ·exact af (SG N hN h2 ω DR hs.2.2.1 _) λr hr=>c7 λ_=>an ⟨s1,s2,up hr,⟨k1,i2,bJ,k4,k5,k6,k7,k8,k9,UI,XT⟩,s5⟩
 ·exact af (Um N hN c hc.2.2.2.2.2.2.1 ω hs.2.2.1 _) λr hr=>an ⟨s1,fT _,s3,⟨k1,k2,k3,k4,G.mono ω hr,k6,k7,k8,k9,UI,XT⟩,s5⟩
 ·exact af (UG N hN h2 ω DR hs he) λr hr=>an (up hr)
 ·exact ok_eq (λ_=>c7 λr=>ca r) λ_=>af (aa2 N hN h2 ω DR hs.2.2.1 hs.2.1) λl hl=>bu (λ_=>c7 λr=>ca r) λ_=>af (tM N ω hs.1 hc.2.2.2.2.1) λt ht=>bt (λ_=>c7 λr=>ca r) λ_=>af (Sy N hN c ω hs.2.2.1) λu hu=>an ⟨s1,fT _,s3,⟨k1,i3,ht,fT _,G.nil,up hl,G.nil,up hu,k9,UI,XT⟩,s5⟩
 ·have hx:G 0 eB (s.2.1,(e.2.2.2.2.2.1,(e.2.1,(e.2.2.2.2.2.2.2.1,())))):=⟨hs.2.1,he.2.2.2.2.2.1,he.2.1,he.2.2.2.2.2.2.2.1,trivial⟩
  exact af (Jf N hN ω ω DR hs.2.2.1 hk.2.2.2.2.2.1 hk.2.2.2.2.2.2.1 hx) λr hr=>an ⟨s1,fT _,s3,⟨k1,k2,k3,k4,k5,k6,hr,k8,k9,UI,XT⟩,s5⟩
 ·refine af (NY N hN c h2 ω hs.2.2.1 hk.2.2.2.2.2.1 hk.2.2.2.2.2.2.1) λr ⟨yP,yG⟩=>bu (λ_=>c7 λr=>ca r) λ_=>af (NW N ω c h2 ω hk.2.2.2.2.2.2.2.2.1 hk.2.2.2.2.2.2.2.1.1 yG hk.2.2.2.2.2.2.1) λd hd=> ?_
  generalize ((0:Int),((0:Int),_))=S0
  have H6:=yG.1
  refine bg (len:=r.2.1.length) (F:=λn i q=>nL.l41 N n _ S0 bh r.2.1 q i) (λ_ _=>True) trivial ω (λn i q hi _ eO=> ?_) (λn q _=> ?_)
  all_goals unfold nL.l41 nL.aa8
  ·rw[ax (x:=(i:Int)+1) ω ω,ag i]
   exact aw (λ_=>aB ⟨ω,ω⟩ (ok_eq (λ_=>eO _ trivial) λ_=>eO _ trivial)) λ_=>ω
  ·exact aw (λ_=>ω) λ_=>an ⟨s1,s2,up yP,⟨k1,i2,bJ,k4,k5,up yG,k7,k8,up hd,UI,XT⟩,s5⟩
 ·exact af (Ji N hN h2 ω DR hs.2.2.1 hk.2.2.2.2.2.2.2.2.1 hk.2.2.2.2.2.2.2.2.2.1 hk.1) λr ⟨yP,yG⟩=>bu (λ_=>c7 λr=>ca r) λ_=>af (SE N hN h2 ω hc yP) λb hb=>bu (λ_=>c7 λr=>ca r) λ_=>af (KQ N ω ω hb.1 _ _) λu hu=>an ⟨s1,s2,⟨up hu,(up hb).2⟩,G.zero (m+1) rF,up yG,trivial⟩
end VM
end
section
namespace VM
open Go VM.F
theorem N0(N:Nat)(s:aQ)(k:Int):Ok (λ_=>True) (aa9 N s k):=by
 unfold aa9
 repeat' first|exact eZ|refine ok_eq (λ_=> ?_) (λ_=> ?_)
theorem oC(N:Nat)(hN:200000≤N){s:aQ}{m:Nat}(hm:m≤50000)(hs:GS m s)(k:Int):Ok (λ_=>True) (Ge N s k):=by
 unfold Ge
 exact af (oB N hN hm hs.2.2.1.1 _) λ_ _=>eZ
theorem XU(N:Nat)(hN:200000≤N){s:aQ}{m:Nat}(hm:m≤50000)(hs:GS m s)(k:Int):Ok (λ_=>True) (QW N s k):=by
 unfold QW
 exact af (xH N hN hm hs.2.2.1.2.1 _) λ_ _=>eZ
theorem aba(N:Nat)(hN:4000000≤N){s:aQ}{m:Nat}(h2:200≤m)(hm:m≤50000)(hs:GS m s)(a b c d:Int){q:Int}(hq:aE q):Ok (SR m) (N1 N s a b c d q):=by
 unfold N1
 exact af (bp N hN hq) λx hx=>af (sL N hN _ _ _ _ (Bg.mono hx ω)) λp hp=>af (sK N hN h2 hm hs.2.2.1 G.nil (jU.mono hp ω)) λr hr=>an ⟨hs.1,hs.2.1,hr,hs.2.2.2⟩
theorem XV(N:Nat)(hN:5000000≤N){c:ae}{s:aQ}{e:gP}{m:Nat}(h2:200≤m)(hm:m≤999)(hc:G 5 aA c)(hs:GS m s)(he:G 0 kX e):Ok (SR (m+1)) (pN N c s e):=by
 obtain⟨s1,s2,s3,⟨k1,k2,k3,k4,k5,k6,k7,k8,k9,UI,XT⟩,s5⟩:=hs
 have hs:GS m s:=⟨s1,s2,s3,⟨k1,k2,k3,k4,k5,k6,k7,k8,k9,UI,XT⟩,s5⟩
 have up: ∀{x:aQ},GS m x→ ∀r:db,Ok (SR (m+1)) (some (x,r)):=λh r=>an (P:=SR (m+1)) (G.mono (qI m) h)
 have i1:aE 1:=bm
 have us: ∀{τ:Ty} {x:τ.den},G m τ x→G (m+1) τ x:=λh=>G.mono ω h
 unfold pN pN.b
 have hj: ∀(S0:aQ) (z:db),Ok (SR (m+1)) (pN.UA N c s e S0 z):=λS0 z=>by
  unfold pN.UA pN.NV
  exact af (N0 N _ _) λ_ _=>bt (λ_=>c7 λr=>up hs r) λ_=>af (XS N hN h2 hm hc hs he) λr hr=>an hr
 have mem: ∀{x:aD},G m (.slice jC) x→G m aL ((x,s.2.2.1.2):aq):=λh=>⟨h,s3.2⟩
 have hd: ∀z:aD×Int,G m (.slice jC) z.1→Ok (SR (m+1)) (cond (aO z.2 0) (cond (aO e.1 11) ((KR N c (z.1,s.2.2.1.2) e.2.1).bind λr2=>cond (aO s.2.2.2.1.2.1 3) ((ph N s.2.2.2.1.2.2.2.2.2.2.1 e.2.1).bind λr3=>(fx N z.2).bind λr4=>some ((s.1,(s.2.1,(r2.1,((s.2.2.2.1.1,(s.2.2.2.1.2.1,(s.2.2.2.1.2.2.1,(s.2.2.2.1.2.2.2.1,(s.2.2.2.1.2.2.2.2.1,(s.2.2.2.1.2.2.2.2.2.1,(r3,s.2.2.2.1.2.2.2.2.2.2.2))))))),s.2.2.2.2)))),r4)) ((fx N z.2).bind λr5=>some ((s.1,(s.2.1,(r2.1,s.2.2.2))),r5))) ((fx N z.2).bind λr6=>some ((s.1,(s.2.1,((z.1,s.2.2.1.2),s.2.2.2))),r6))) ((fx N z.2).bind λr7=>some ((s.1,(s.2.1,((z.1,s.2.2.1.2),s.2.2.2))),r7))):=λz hz=>
  ok_eq (λ_=>ok_eq (λ_=>af (NP N hN c ω (mem hz) _) λb hb=>ok_eq (λ_=>af (CU N ω ω k7 _) λl hl=>c7 λr=>an ⟨s1,s2,us hb,⟨k1,k2,k3,k4,us k5,us k6,us hl,us k8,us k9,us UI,trivial⟩,us s5⟩) λ_=>c7 λr=>an ⟨s1,s2,us hb,(us hs).2.2.2⟩) λ_=>c7 λr=>an ⟨s1,s2,us (mem hz),(us hs).2.2.2⟩) λ_=>c7 λr=>an ⟨s1,s2,us (mem hz),(us hs).2.2.2⟩
 have Hf:=λk:Int=>KQ N ω (m:=m) ω s3.1 e.2.1 k
 refine ok_eq (λ_=>af (Hf _) λz hz=>hd z hz) λ_=>ok_eq (λ_=>af (Hf _) λz hz=>hd z hz) λ_=>ok_eq (λ_=> ?_) λ_=>ok_eq (λ_=> ?_) λ_=>hj _ _
 ·exact af (oC N ω ω hs _) λ_ _=>ok_eq (λ_=>c7 λr=>up hs r) λ_=>bu (λ_=>c7 λr=>up hs r) λ_=>af (Hf _) λz hz=>bu (λ_=>c7 λr=>an ⟨s1,s2,us (mem hz),(us hs).2.2.2⟩) λ_=>af (tM N ω s1 hc.2.2.2.1) λt ht=>bt (λ_=>c7 λr=>an ⟨s1,s2,us (mem hz),(us hs).2.2.2⟩) λ_=>an ⟨s1,s2,us (mem hz),⟨he.2.1,i1,ht,bJ,G.nil,G.nil,G.nil,G.nil,G.nil,G.nil,trivial⟩,us s5⟩
 ·exact af (oC N ω ω hs _) λ_ _=>ok_eq (λ_=>c7 λr=>up hs r) λ_=>af (oC N ω ω hs _) λ_ _=>bu (λ_=>c7 λr=>up hs r) λ_=>hj _ _
theorem abb(N:Nat)(hN:5000000≤N){c:ae}{s:aQ}{e:gP}{m:Nat}(h2:200≤m)(hm:m≤999)(hc:G 5 aA c)(hs:GS m s)(he:G 0 kX e):Ok (SR (m+1)) (UJ N c s e):=by
 have DR:G m aA c:=G.mono ω hc
 obtain⟨s1,s2,s3,⟨k1,k2,k3,k4,k5,k6,k7,k8,k9,UI,XT⟩,s5⟩:=hs
 have hs:GS m s:=⟨s1,s2,s3,⟨k1,k2,k3,k4,k5,k6,k7,k8,k9,UI,XT⟩,s5⟩
 have us: ∀{τ:Ty} {x:τ.den},G m τ x→G (m+1) τ x:=λh=>G.mono ω h
 have RF:=us hs
 have up: ∀{x:aQ},GS m x→ ∀r:db,Ok (SR (m+1)) (some (x,r)):=λh r=>an (P:=SR (m+1)) (G.mono (qI m) h)
 have st:=λk:Int=>oC N ω (m:=m) ω hs k
 have hp:=λa b c d=>aba N ω h2 ω hs a b c d he.2.2.2.2.2.2.1
 have UK:=he.2.2.2.2.2.2.1
 unfold UJ
 refine ok_eq (λ_=> ?_) λ_=>ok_eq (λ_=> ?_) λ_=>ok_eq (λ_=> ?_) λ_=>ok_eq (λ_=> ?_) λ_=>ok_eq (λ_=> ?_) λ_=>ok_eq (λ_=> ?_) λ_=>ok_eq (λ_=> ?_) λ_=>ok_eq (λ_=> ?_) λ_=>ok_eq (λ_=> ?_) λ_=>ok_eq (λ_=> ?_) λ_=>ok_eq (λ_=> ?_) λ_=>af (XV N hN h2 hm hc hs he) λr hr=>an hr
 ·exact af (XB N ω ω s3.1 he.2.1) λr hr=>c7 λ_=>an ⟨s1,s2,⟨hr,RF.2.2.1.2⟩,RF.2.2.2⟩
 ·have hx:G 0 eB (e.2.2.1,(e.2.1,(e.2.2.2.2.1,((0:Int),())))):=⟨he.2.2.1,he.2.1,he.2.2.2.2.1,bJ,trivial⟩
  exact af (aaW N ω ω s3.1 s3.2.1 hx) λr hr=>c7 λ_=>an ⟨s1,s2,⟨RF.2.2.1.1,hr,RF.2.2.1.2.2⟩,RF.2.2.2⟩
 ·exact af (XU N ω ω hs _) λ_ _=>bt (λ_=>c7 λr=>up hs r) λ_=>af (hp _ _ _ _) λr hr=>an (us hr)
 ·exact af (NS N hN h2 ω DR s3 _ UK) λr hr=>c7 λz=>an ⟨s1,s2,us hr,(us hs).2.2.2⟩
 ·exact af (st _) λ_ _=>ok_eq (λ_=>c7 λr=>up hs r) λ_=>af (st _) λ_ _=>bu (λ_=>c7 λr=>up hs r) λ_=>af (hp _ _ _ _) λr hr=>an (us hr)
 ·exact af (st _) λ_ _=>ok_eq (λ_=>c7 λr=>up hs r) λ_=>af (mu N ω ω s3.2.2.1 _ _) λg hg=>af (bp N ω hg) λx hx=>af (qt N ω ω hx) λx hx=>af (bp N ω UK) λy hy=>af (pJ N ω ω ω hy hx) λ_ _=>aw (λ_=>c7 λr=>up hs r) λ_=>af (hp _ _ _ _) λr hr=>an (us hr)
 ·exact af (XC N ω ω s3.2.1 UK) λr hr=>c7 λz=>an ⟨s1,s2,⟨us s3.1,us hr,(us s3).2.2⟩,(us hs).2.2.2⟩
 ·have hx:G 0 mT (s.2.1,(e.2.2.1,(e.2.2.2.1,(e.2.2.2.2.1,(e.2.2.2.2.2.2.1,(e.2.2.2.2.2.2.2.1,())))))):=⟨s2,he.2.2.1,he.2.2.2.1,he.2.2.2.2.1,UK,he.2.2.2.2.2.2.2.1,trivial⟩
  exact af (XG N hN h2 ω DR s3 hx) λr hr=>an ⟨s1,fT _,hr,RF.2.2.2⟩
 ·exact af (XU N ω ω hs _) λ_ _=>bt (λ_=>c7 λr=>up hs r) λ_=>af (Us N ω ω s3.2.2.2.2.2.1 _ _) λr hr=>c7 λz=>an ⟨s1,s2,⟨us s3.1,us s3.2.1,us s3.2.2.1,us s3.2.2.2.1,us s3.2.2.2.2.1,us hr,trivial⟩,(us hs).2.2.2⟩
 ·exact af (CV N hN c h2 ω s3 _ he.2.2.2.2.2.2.2.1) λr ⟨yP,yG⟩=>ok_eq (λ_=>bu (λ_=>af (NR N ω h2 ω UI yG) λg hg=>c7 λz=>an ⟨s1,s2,us yP,⟨k1,k2,k3,k4,us k5,us k6,us k7,us k8,us k9,us hg,trivial⟩,us s5⟩) λ_=>c7 λz=>an ⟨s1,s2,us yP,(us hs).2.2.2⟩) λ_=>c7 λz=>an ⟨s1,s2,us yP,(us hs).2.2.2⟩
 ·exact af (tM N ω s1 UK) λt ht=>bt (λ_=>c7 λr=>up hs r) λ_=>an ⟨ht,(us hs).2⟩
theorem SH(N:Nat)(hN:5000000≤N){c:ae}{s:aQ}{e:gP}{m:Nat}(h2:200≤m)(hm:m≤999)(hc:G 5 aA c)(hs:GS m s)(he:G 0 kX e):Ok (SR (m+1)) (QX N c s e):=by
 have ca: ∀r:db,Ok (SR (m+1)) (some (s,r)):=λr=>an (P:=SR (m+1)) (G.mono (qI m) hs)
 unfold QX
 exact bA (ni N ω c) (bt (λ_=>ca _) λ_=>af (Jd N ω e) λ_ _=>bt (λ_=>ca _) λ_=>af (abb N hN h2 hm hc hs he) λr hr=>bu (λ_=>ca _) λ_=>an hr)
end VM
end
section
namespace VM
open Go VM.F Go.RowKit
theorem abc{l:List Int}(h:WF (.slice (.int .u64)) l):Dk 0 ((l,((0:Int),())):aM):=⟨λx hx=>by
 obtain⟨i,hi,rfl⟩:=gh hx
 have h3:0≤l[i]∧l[i]≤18446744073709551615:=wf_u64.1 (h.2 i hi)
 exact⟨h3.1,qB h3.2 δ⟩,fH 0,fH 0⟩
namespace Pure
end Pure
end VM
end
section
namespace VM
open Go VM.F Go.RowKit
theorem rG{α:Type}{l:List α}{d:α}{i:Nat}(h:i<l.length):l.getD i d∈l:=by
 rw[aU,bn h];exact dB h
namespace Pure
end Pure
end VM
end
section
namespace VM
open Go VM.F Go.RowKit
theorem rH{P:Int→Prop} [DecidablePred P]{f:Int→Int→Int}: ∀{K:List cW} {o:au},dP P f K=some o→(o.map keyOf).Sublist K∧(∀x∈o,dU x=f x.1 x.2.1∧dU x≠0∧P (dU x))∧(∀k∈K,P (f k.1 k.2))∧ ∀a b,fY a b o=if(a,b)∈K then f a b else 0
 |[],o,h=>by
  have e:[]=o:=oH h
  subst e
  exact⟨List.Sublist.refl _,λx hx=>(nomatch hx),λk hk=>(nomatch hk),λa b=>by rw[ah (λh=>nomatch h)];rfl⟩
 |k::t,o,h=>by
  rw[jz]at h
  by_cases hp:P (f k.1 k.2)
  ·rw[aj hp]at h
   cases ho:dP P f t with
   |none=>rw[ho]at h;exact nomatch h
   |some o'=>
    rw[ho]at h
    have e:(if f k.1 k.2=0 then o' else(k.1,(k.2,(f k.1 k.2,())))::o')=o:=oH h
    obtain⟨s,g,gp,gf⟩:=rH ho
    have lq: ∀k'∈k::t,P (f k'.1 k'.2):=λk' hk=>by
     rcases aW.1 hk with rfl|hk
     ·exact hp
     ·exact gp k' hk
    by_cases h0:f k.1 k.2=0
    ·rw[aj h0]at e
     subst e
     refine⟨s.cons _,g,lq,λa b=> ?_⟩
     rw[gf a b]
     by_cases hk:(a,b)=k
     ·subst hk
      rw[aj (bk ..)]
      dsimp only at h0
      rw[h0];split<;>rfl
     ·by_cases ht:(a,b)∈t
      ·rw[aj ht,aj (aZ _ ht)]
      ·rw[ah ht,ah (λh=>(aW.1 h).elim hk ht)]
    ·rw[ah h0]at e
     subst e
     refine⟨s.cons_cons _,λx hx=> ?_,lq,λa b=> ?_⟩
     ·rcases aW.1 hx with rfl|hx
      ·exact⟨rfl,h0,hp⟩
      ·exact g x hx
     ·rw[gl]
      dsimp only
      rw[gf a b]
      by_cases h1:k.1=a
      ·by_cases h2:k.2=b
       ·have hk:(a,b)=k:=by rw[←h1,←h2]
        rw[aj h1,aj h2,aj (by rw[hk];exact bk ..),h1,h2]
       ·have hk:(a,b)≠k:=λe=>h2 (by rw[←e])
        rw[aj h1,ah h2]
        by_cases ht:(a,b)∈t
        ·rw[aj ht,aj (aZ _ ht)]
        ·rw[ah ht,ah (λh=>(aW.1 h).elim hk ht)]
      ·have hk:(a,b)≠k:=λe=>h1 (by rw[←e])
       rw[ah h1]
       by_cases ht:(a,b)∈t
       ·rw[aj ht,aj (aZ _ ht)]
       ·rw[ah ht,ah (λh=>(aW.1 h).elim hk ht)]
  ·rw[ah hp]at h;exact nomatch h
theorem XW{l:au}(hs:sC (l.map keyOf)){j:Nat}(hj:j<l.length)(h0:0<j):sV (keyOf (l.getD (j-1) bh)) (keyOf (l.getD j bh)):=by
 have:=tV.1 (zu.1 hs) (j-1) j ω hj ω
 rw[aU,aU,bn hj,bn (show j-1<l.length by omega)]
 exact this
theorem QY{l:au}(hs:sC (l.map keyOf))(h: ∀x∈l,bD x.1 x.2.1∧dU x≠0∧p5 (dU x)):cz l=true:=by
 unfold cz
 rw[fF]
 refine bs λj hj=> ?_
 obtain⟨a,b,c⟩:=h _ (rG (d:=bh) hj)
 exact⟨a,b,c,λh0=>XW hs hj h0⟩
theorem UL{l:au}(hs:sC (l.map keyOf))(h: ∀x∈l,cQ x.1 x.2.1∧dU x≠0):dO l=true:=by
 unfold dO
 rw[fF]
 refine bs λj hj=> ?_
 obtain⟨a,b⟩:=h _ (rG (d:=bh) hj)
 exact⟨a,b,λh0=>XW hs hj h0⟩
theorem rI{a b:Int}:(a,b)∈je↔bD a b:=by
 unfold je bD
 rw[ot];dsimp only;omega
theorem Gf(b:aq)(s e:au):((dW b s e).2=2∧(dW b s e).1=(ck,(c9,(bH,(bH,(dC,(dT,())))))))∨ ∃s' r',dP Fq (fS b.2.2.2.1 s) je=some s'∧dP aE (fS b.2.2.1 e) mG=some r'∧dW b s e=((b.1,(b.2.1,(r',(s',b.2.2.2.2)))),0):=by
 unfold dW
 cases h1:dP Fq (fS b.2.2.2.1 s) je with
 |none=>exact .inl ⟨rfl,rfl⟩
 |some s'=>
  cases h2:dP aE (fS b.2.2.1 e) mG with
  |none=>exact .inl ⟨rfl,rfl⟩
  |some r'=>exact .inr ⟨s',r',rfl,rfl,rfl⟩
theorem Gg{l E o:au}(hs:cz l=true)(h:dP Fq (fS l E) je=some o):cz o=true∧(∀a b,bD a b→eG o a b=eG l a b+bP a b E∧Fq (eG o a b)):=by
 obtain⟨h1,h2,h3,h4⟩:=rH h
 have hso:sC (o.map keyOf):=vD h1 (ou 6 25 0)
 have ho:cz o=true:=QY hso λx hx=>by
  have hk:(x.1,x.2.1)∈je:=h1.subset (eM (f:=keyOf) hx)
  obtain⟨_,g1,g2⟩:=h2 x hx
  exact⟨rI.1 hk,g1,g2.2⟩
 refine⟨ho,λa b hp=> ?_⟩
 have e:eG o a b=fS l E a b:=by
  unfold eG
  rw[ho,aj rfl,h4 a b,aj (rI.2 hp)]
 refine⟨?_,by rw[e];exact h3 _ (rI.2 hp)⟩
 rw[e]
 unfold fS eG
 rw[hs,aj rfl,kR (cU hs).1]
theorem AS{a b:Int}{l:au}(h:bP a b l≠0): ∃x∈l,x.1=a∧x.2.1=b:=
 Ee λhn=>h (kq λx hx e=>hn ⟨x,hx,e⟩)
theorem SJ{l E o:au}(hs:dO l=true)(hE: ∀x∈E,cQ x.1 x.2.1)(h:dP aE (fS l E) mG=some o):dO o=true∧(∀a b,cQ a b→gF o a b=gF l a b+bP a b E∧aE (gF o a b)):=by
 obtain⟨h1,h2,h3,h4⟩:=rH h
 obtain⟨hl,sS⟩:=kt hs
 have hso:sC (o.map keyOf):=vD h1 (ou 25 7 1)
 have ho:dO o=true:=UL hso λx hx=>by
  obtain⟨g0,g1,g2⟩:=h2 x hx
  refine⟨?_,g1⟩
  rw[g0]at g1
  unfold fS at g1
  by_cases hz:bP x.1 x.2.1 l=0
  ·rw[hz,tf]at g1
   obtain⟨y,hy,e1,e2⟩:=AS g1
   rw[←e1,←e2];exact hE y hy
  ·obtain⟨y,hy,e1,e2⟩:=AS hz
   rw[←e1,←e2];exact sS y hy
 refine⟨ho,λa b hk=> ?_⟩
 have hg:(a,b)∈mG:=by
  unfold mG
  rw[ot]
  unfold cQ at hk
  dsimp only;omega
 have e:gF o a b=fS l E a b:=by
  unfold gF
  rw[ho,aj rfl,h4 a b,aj hg]
 refine⟨?_,by rw[e];exact h3 _ hg⟩
 rw[e]
 unfold fS gF
 rw[hs,aj rfl,kR hl]
end VM
end
section
namespace VM
open Go VM.F Go.RowKit
namespace Pure
end Pure
end VM
end
section
namespace VM
open Go VM.F Go.RowKit
namespace Pure
end Pure
end VM
end
section
namespace VM
open Go VM.F Go.RowKit
def HR(p:cW→Bool):au→Int
 |[]=>0
 |x::t=>(if p (keyOf x)=true then dU x else 0)+HR p t
def Gh(p:cW→Bool)(f:Int→Int→Int):List cW→Int
 |[]=>0
 |k::t=>(if p k=true then f k.1 k.2 else 0)+Gh p f t
theorem BR(p:cW→Bool)(x:db)(t:au):HR p (x::t)=(if p (keyOf x)=true then dU x else 0)+HR p t:=rfl
theorem qv(p:cW→Bool)(f:Int→Int→Int)(k:cW)(t:List cW):Gh p f (k::t)=(if p k=true then f k.1 k.2 else 0)+Gh p f t:=rfl
theorem Jk{P:Int→Prop} [DecidablePred P]{f:Int→Int→Int}(p:cW→Bool): ∀{K:List cW} {o:au},dP P f K=some o→HR p o=Gh p f K
 |[],o,h=>by
  have e:[]=o:=oH h
  subst e;rfl
 |k::t,o,h=>by
  rw[jz]at h
  by_cases hp:P (f k.1 k.2)
  ·rw[aj hp]at h
   cases ho:dP P f t with
   |none=>rw[ho]at h;exact nomatch h
   |some o'=>
    rw[ho]at h
    have e:(if f k.1 k.2=0 then o' else(k.1,(k.2,(f k.1 k.2,())))::o')=o:=oH h
    rw[qv,←Jk p ho]
    by_cases h0:f k.1 k.2=0
    ·rw[aj h0]at e
     rw[←e,h0]
     split<;>omega
    ·rw[ah h0]at e
     rw[←e];rfl
  ·rw[ah hp]at h;exact nomatch h
theorem Gi(p:cW→Bool)(f g:Int→Int→Int): ∀K:List cW,Gh p (λa b=>f a b+g a b) K=Gh p f K+Gh p g K
 |[]=>rfl
 |k::t=>by
  rw[qv,qv,qv,Gi p f g t]
  split<;>omega
theorem BS{p:cW→Bool}{f:Int→Int→Int}: ∀{K:List cW},(∀k∈K,f k.1 k.2=0)→Gh p f K=0
 |[],_=>rfl
 |k::t,h=>by
  rw[qv,h k (bk ..),BS λx hx=>h x (aZ _ hx)]
  split<;>rfl
theorem N2(p:cW→Bool)(k:cW)(v:Int): ∀{K:List cW},sC K→k∈K→Gh p (λa b=>if k.1=a∧k.2=b then v else 0) K=if p k=true then v else 0
 |[],_,h=>nomatch h
 |x::t,hs,h=>by
  obtain⟨h1,h2⟩:=eh.1 hs
  rw[qv]
  by_cases e:k=x
  ·subst e
   have hz:Gh p (λa b=>if k.1=a∧k.2=b then v else 0) t=0:=BS λy hy=>ah λe=>by
    have:=h1 y hy
    rw[show y=k from gS e.1.symm e.2.symm]at this
    exact ns this
   rw[aj (show k.1=k.1∧k.2=k.2 from⟨rfl,rfl⟩),hz,gI]
  ·rw[ah (show ¬(k.1=x.1∧k.2=x.2)from λh=>e (gS h.1 h.2)),N2 p k v h2 ((aW.1 h).elim (λh=>absurd h e) id)]
   split<;>omega
theorem Gj(p:cW→Bool){K:List cW}(hs:sC K): ∀{l:au},(∀x∈l,keyOf x∈K)→Gh p (λa b=>bP a b l) K=HR p l
 |[],_=>BS λ_ _=>rfl
 |x::t,h=>by
  have e:(λa b=>bP a b (x::t))=λa b=>(if(keyOf x).1=a∧(keyOf x).2=b then dU x else 0)+bP a b t:=by
   funext a b;exact eo a b x t
  rw[e,Gi,N2 p (keyOf x) (dU x) hs (h x (bk ..)),Gj p hs λy hy=>h y (aZ _ hy),BR]
theorem Gk{P:Int→Prop} [DecidablePred P]{l E o:au}{K:List cW}(p:cW→Bool)(hs:sC K)(hl: ∀x∈l,keyOf x∈K)(hE: ∀x∈E,keyOf x∈K)(h:dP P (fS l E) K=some o):HR p o=HR p l+HR p E:=by
 rw[Jk p h,←Gj p hs hl,←Gj p hs hE,←Gi];rfl
theorem uU: ∀l:au,HR (λ_=>true) l=(l.map dU).sum
 |[]=>rfl
 |x::t=>by rw[BR,aj rfl,uU t,bV,cy]
theorem xJ(i:Int): ∀l:au,HR (λk=>decide (k.2=i)) l=(c6 i l).sum
 |[]=>rfl
 |x::t=>by
  rw[BR,xJ i t,dg]
  by_cases e:x.2.1=i
  ·rw[aj (bs (show(keyOf x).2=i from e)),aj e,cy]
  ·rw[ah (by rw[cj (show ¬(keyOf x).2=i from e)];exact qA),ah e,tf]
def Gl(m:aD)(a:aK)(k n:Int):Prop:=(dx k 5→(fc a n).2=true)∧(dx k 6∨dx k 7→ ¬dx (eA m n) 0)
def Gm(c:ae)(a:aK)(k n:Int):Prop:=(dx k 0∨(fc a k).2=true)∧nS n c.1.length
theorem N3{k n:Int}(h:cQ k n):(k,n)∈mG:=by
 unfold mG
 rw[ot]
 unfold cQ at h
 dsimp only;omega
theorem Gn{l E:au}{Q:Int→Int→Prop}(hl: ∀x∈l,Q x.1 x.2.1)(hE: ∀x∈E,Q x.1 x.2.1){a b:Int}(h:fS l E a b≠0):Q a b:=by
 unfold fS at h
 by_cases hz:bP a b l=0
 ·rw[hz,tf]at h
  obtain⟨y,hy,e1,e2⟩:=AS h
  rw[←e1,←e2];exact hE y hy
 ·obtain⟨y,hy,e1,e2⟩:=AS hz
  rw[←e1,←e2];exact hl y hy
theorem KW{c:ae}{b:aq}{s e s' r':au}(hB:dz c b=true)(h1:dP Fq (fS b.2.2.2.1 s) je=some s')(h2:dP aE (fS b.2.2.1 e) mG=some r')
  (gs: ∀x∈s,bD x.1 x.2.1∧Gm c b.2.1 x.1 x.2.1) (flat: ∀i:Int,(c6 i s).sum=0) (ge: ∀x∈e,cQ x.1 x.2.1∧Gl b.1 b.2.1 x.1 x.2.1) (zero:(e.map dU).sum=0):
  dz c (b.1,(b.2.1,(r',(s',b.2.2.2.2))))=true:=by
 have hB':=hB
 unfold dz at hB'
 simp only[bR]at hB'
 obtain⟨b1,b2,b3,b4,b5,b6,b7,b8,b9,b10,b11⟩:=hB'
 obtain⟨hr,hs⟩:=dH hB
 obtain⟨o1,_⟩:=Gg hs h1
 obtain⟨o2,_⟩:=SJ hr (λx hx=>(ge x hx).1) h2
 obtain⟨Hp,hsk⟩:=cU hs
 obtain⟨H6,hrk⟩:=kt hr
 have k1: ∀x∈b.2.2.2.1,keyOf x∈je:=λx hx=>rI.2 (hsk x hx).1
 have k2: ∀x∈s,keyOf x∈je:=λx hx=>rI.2 (gs x hx).1
 have k3: ∀x∈b.2.2.1,keyOf x∈mG:=λx hx=>N3 (hrk x hx)
 have k4: ∀x∈e,keyOf x∈mG:=λx hx=>N3 (ge x hx).1
 have hp8:=bx b8
 have hp9:=bx b9
 have q8: ∀x∈b.2.2.1,Gl b.1 b.2.1 x.1 x.2.1:=λx hx=>by
  obtain⟨i,hi,e⟩:=gh hx
  have:=hp8 i hi
  unfold jL at this
  rw[aU,bn hi,mZ,e]at this
  exact this
 have q9: ∀x∈b.2.2.2.1,Gm c b.2.1 x.1 x.2.1:=λx hx=>by
  obtain⟨i,hi,e⟩:=gh hx
  have:=hp9 i hi
  unfold jd at this
  rw[aU,bn hi,mZ,e]at this
  exact this
 have n4:decide (dx (gK r') 0)=true:=by
  refine bs ?_
  unfold gK dx
  rw[o2,aj rfl,←uU,Gk _ (ou 25 7 1) k3 k4 h2,uU,uU,zero,gI]
  have:=bx b4
  unfold gK dx at this
  rw[hr,aj rfl]at this
  exact this
 have n5:om s'=true:=by
  unfold om at b5 ⊢
  obtain⟨f1,_⟩:=cO.1 b5
  rw[o1,fF]
  refine bs λj hj=> ?_
  have:=bx f1 j hj
  unfold sU dx sB at this ⊢
  rw[hs,aj rfl]at this
  rw[o1,aj rfl,←xJ,Gk _ (ou 6 25 0) k1 k2 h1,xJ,xJ,flat,gI]
  exact this
 have n8:decide (∀j,j<r'.length→jL b.1 b.2.1 r' j)=true:=bs λj hj=>by
  obtain⟨g0,g1,_⟩:=(rH h2).2.1 _ (rG (d:=bh) hj)
  rw[g0]at g1
  exact Gn (Q:=Gl b.1 b.2.1) q8 (λx hx=>(ge x hx).2) g1
 have n9:decide (∀j,j<s'.length→jd c b.2.1 s' j)=true:=bs λj hj=>by
  obtain⟨g0,g1,_⟩:=(rH h1).2.1 _ (rG (d:=bh) hj)
  rw[g0]at g1
  exact Gn (Q:=Gm c b.2.1) q9 (λx hx=>(gs x hx).2) g1
 unfold dz
 simp only[bR]
 exact⟨b1,b2,o2,n4,n5,b6,b7,n8,n9,b10,b11⟩
end VM
end
