/- A part of the proof of WindDrawn of layer 21: what the functions compute, in plain words. -/
import Derived.Test.YtecmobijochjkaaGreatPlain5
import Derived.Test.YtecmobijochjkaaGreatPlain4
set_option linter.all false
section
namespace VM
open Go VM.F
theorem afO{l:List Int}(h:Pos l)(hs:l.sum<9223372036854775808):IC l:=λx hx=>by
 have h3:=h x hx
 obtain⟨i,hi,rfl⟩:=qn.1 hx
 have h4:=yM h i
 rw[aU,bm hi]at h4
 simp only[mO]at h4
 omega
theorem Xd(k:Nat):(List.replicate k (1:Int)).sum=k:=by
 induction k with
 |zero=>rfl
 |succ k ih=>rw[zf,cy,ih];omega
theorem Xe(k:Nat):Pos (List.replicate k 1):=λx hx=>by rw[y8 hx];omega
theorem Xf{t:Int}{k:Nat}(h0:0≤t)(h1:t<9223372036854775808)(hk:1≤k)(hk1:k≤3):(IH t k).1.length=k∧IC (IH t k).1:=by
 have hS:0<(List.replicate k (1:Int)).sum:=by rw[Xd];omega
 have ee:IH t k=(bQ t (List.replicate k 1),0):=by
  unfold IH
  rw[ah ω,aJ]
  unfold q3
  have hm:may (List.replicate k 1)=true:=oB.2 ⟨by rw[cP];omega,Xe k⟩
  rw[ah (by rw[hm];simp;omega),Xd,ah ω,ah ω]
 rw[ee]
 exact⟨by dsimp only;rw[og,List.length_replicate],afO (uE h0 hS (Xe k)) (by rw[uD h0 hS];omega)⟩
def LQ(y:yI):Prop:=aE y.1∧aE y.2.1∧pU y.2.1
theorem afP{l:aD}(h: ∀y∈l,LQ y)(i:Nat):LQ (l.getD i cz):=by
 by_cases hk:i<l.length
 ·rw[aU,bm hk];exact h _ (dz hk)
 ·rw[aU,gC ω];exact⟨bJ,bJ,by unfold pU;decide⟩
theorem T6{c:ae}{b:aq}{m:Nat}(hb:G m aK b)(hB:dx c b=true)(a:Int): ∀y∈posOf b.2.2.2.1 a,LQ y∧(0≤(y.1:Int)∧(y.1:Int)<(c.1.length:Int)):=λy hy=>by
 have hk:cZ b.2.2.2.1=true:=by
  by_cases h:cZ b.2.2.2.1=true
  ·exact h
  ·unfold posOf at hy;rw[ah h]at hy;nomatch hy
 unfold posOf at hy
 rw[aj hk]at hy
 obtain⟨x,hx,_,e⟩:=kg hy
 have hg:=hb.2.2.2.1.2 x hx
 have hq:=((eG hk).2 x hx).2
 have hp:=Kq hB x hx
 rw[e]
 exact⟨⟨hg.2.1,hg.2.2.1,hq⟩,hp⟩
theorem R9(N:Nat)(hN:5000000≤N){c:ae}{b:aq}{m:Nat}(h2:200≤m)(hm:m≤40000)(hc:G m aA c)(hb:G m aK b){next:Int}(hn:aE next):Ok (λr=>LL m r.1∧r.1.length≤12) (bR N c b next):=by
 unfold bR bR.b
 refine bA (dG N hN ω hb) (bt (λ_=>an ⟨G.nil,bo _⟩) λhB=>aw (λ_=>an ⟨G.nil,bo _⟩) λ_=>aw (λ_=>an ⟨G.nil,bo _⟩) λ_=>bA (Qh N (G.wf ω hb).w.s ω 0) (ok_eq (λ_=>an ⟨G.nil,bo _⟩) λ_=> ?_))
 have kW:=T6 hb hB 0
 have hal:=(amA hb.2.2.2.1 0).1
 generalize posOf b.2.2.2.1 0=all at*
 refine bc (len:=4) (F:=λn k (s:Int×bw)=>bR.l8 N n s.1 c all s.2 k) (s:=(_,_)) (λk s=>aE s.1∧s.2.length≤3*k∧ ∀x∈s.2,G m jc x) ⟨hn,bo _,λx hx=>nomatch hx⟩ ω (λn k s hk hI hr=> ?_) (λn s hI=> ?_)
 all_goals unfold bR.l8 bR.xR
 ·refine aw (λ_=> ?_) λ_=>ω
  refine bc (len:=all.length) (F:=λn' i (z:aD×aH)=>bR.nG N (bR.l8 N n) n' s.1 c all s.2 (k:Int) z.1 z.2 i) (s:=(_,_)) (λi z=>z.1.length≤i∧(∀y∈z.1,LQ y)∧Bg (8+i) z.2) ⟨bo _,(λy hy=>nomatch hy),Ks ω⟩ ω (λn' i z hi hz eJ=> ?_) (λn' z hz=> ?_)
  all_goals unfold bR.nG bR.mE
  ·obtain⟨B5,GM,hz3⟩:=hz
   have hx:all.getD i cz∈all:=by rw[aU,bm hi];exact dz hi
   have hy:=kW _ hx
   rw[ax (x:=(i:Int)+1) ω ω,ag i,aJ]
   exact aw (λ_=>aB ⟨ω,ω⟩ (aB hy.2 (ok_eq (λ_=>aB ⟨ω,ω⟩ (aC (by rw[List.length_singleton];omega) (aB ⟨ω,ω⟩ (af (bp N ω hy.1.2.1) λu hu=>af (AB N ω ω hu) λu hu=>af (kI N ω ω hz3 (Bg.mono hu ω)) λv hv=>eJ (_,_) ⟨by dsimp only;rw[List.length_append,List.length_singleton];omega,λy h=>(List.mem_append.1 h).elim (GM y) (λh=>by rw[List.mem_singleton.1 h];exact hy.1),Bg.mono hv ω⟩)))) λ_=>eJ z ⟨ω,GM,Bg.mono hz3 ω⟩))) λ_=>ω
  ·obtain⟨B5,GM,hz3⟩:=hz
   refine aw (λ_=>ω) λ_=>af (T3 N ω (Bg.mono hz3 ω) hc.2.2.2.2.2.1) λw hw=> ?_
   obtain⟨p,hp⟩: ∃p:Nat,w=(p:Int):=⟨w.toNat,ω⟩
   subst hp
   refine bc (len:=p) (F:=λIQ j (t:Int×bw)=>bR.HA N (bR.l8 N n) IQ t.1 c all t.2 (k:Int) z.1 (p:Int) j) (s:=s) (λj t=>aE t.1∧t.2.length≤3*k+j∧ ∀x∈t.2,G m jc x) hI ω (λIQ j t hj ht WW=> ?_) (λIQ t ht=> ?_)
   all_goals unfold bR.HA bR.Ny
   ·obtain⟨vq,UI,Y6⟩:=ht
    refine aw (λ_=> ?_) λ_=>ω
    refine bc (len:=z.1.length) (F:=λn3 i u=>bR.La N (bR.l8 N n) (bR.HA N (bR.l8 N n) IQ) n3 t.1 c all t.2 (k:Int) z.1 (p:Int) (j:Int) (t.1,(cm,((0:Int),((1:Int),cz)))) u i) (λi u=>L2 i u) G.nil ω (λn3 i u hi hu Sa=> ?_) (λn3 u hu=> ?_)
    all_goals unfold bR.La bR.Nu
    ·have GO:=hu.1
     have hq:=afP GM i
     have nB:=hq
     unfold LQ aE pU at nB
     have amC: ∀q:Int,0≤q→q<9223372036854775808→Ok (λr=>LL m r.1∧r.1.length≤12) (bR.T7 N (bR.l8 N n) (bR.HA N (bR.l8 N n) IQ) (bR.La N (bR.l8 N n) (bR.HA N (bR.l8 N n) IQ) n3) t.1 c all t.2 (k:Int) z.1 (p:Int) (j:Int) (t.1,(cm,((0:Int),((1:Int),cz)))) u (i:Int) q):=λq h0 h1=>by
      unfold bR.T7 bR.Nz
      obtain⟨e1,e2⟩:=Xf (k:=p) h0 h1 ω ω
      have amD: ∀v:List Int,v.length=p→IC v→Ok (λr=>LL m r.1∧r.1.length≤12) (bR.j32 N (bR.l8 N n) (bR.HA N (bR.l8 N n) IQ) (bR.La N (bR.l8 N n) (bR.HA N (bR.l8 N n) IQ) n3) t.1 c all t.2 (k:Int) z.1 (p:Int) (j:Int) (t.1,(cm,((0:Int),((1:Int),cz)))) u (i:Int) v):=λv PF Y1=>by
       unfold bR.j32 bR.ahU
       rw[ax (x:=(i:Int)+1) ω ω,ag i]
       have hx:G 0 js ((z.1.getD (i:Int).toNat cz).1,(v.getD (j:Int).toNat 0,())):=G2 (afP GM _).1 (tg Y1 _)
       exact aB ⟨ω,ω⟩ (bx (λ_=>aB ⟨ω,ω⟩ (aB ⟨ω,ω⟩ (aC (by rw[aI];omega) (Sa _ (G.cat hu (G.one hx (aG 1))))))) λ_=>Sa u (G.mono ω hu))
      refine bA (WN N hN h1) (aB ⟨ω,ω⟩ (aw (λ_=>aB ⟨ω,ω⟩ (aB ⟨ω,ω⟩ (amD _ (by rw[bN];exact e1) λy hy=> ?_))) λ_=>amD _ e1 e2))
      rcases xd hy with hy|rfl
      ·exact e2 y hy
      ·exact fQ _
     rw[aJ]
     refine aw (λ_=>aB ⟨ω,ω⟩ (aw (λeZ=> ?_) λYG=> ?_)) λ_=>ω
     ·have g: ∀x:Int,-9223372036854775808≤x∧x≠ -9223372036854775808→x<0→0≤W .i64 (0-x)∧W .i64 (0-x)<9223372036854775808:=λx h1 h2=>by rw[ax ω ω];omega
      have gx:=g _ ⟨nB.2.1.1,nB.2.2⟩ eZ
      exact amC _ gx.1 gx.2
     ·exact amC _ YG nB.2.1.2
    ·have GO:=hu.1
     rw[ax (x:=(j:Int)+1) ω ω,ag j]
     have hum:L2 m u:=G.mono ω hu
     refine aw (λ_=>ω) λ_=>ok_eq (λ_=>WW t ⟨vq,ω,Y6⟩) λ_=> ?_
     unfold Qi
     refine af (Q:=λr=>Bg 60000 r.1) (af (BE N ω ω hc hum _) λr hr=>an hr) λa ha=>af (qj N ω ω ha) λd hd=>af (wP N hd) λv hv=>bt (λ_=>an ⟨G.nil,Nat.zero_le _⟩) λ_=>aC (by rw[List.length_singleton];omega) (WW (_,_) ⟨fQ _,by dsimp only;rw[List.length_append,List.length_singleton];omega,λx hx=> ?_⟩)
     rcases bb.1 hx with hx|hx
     ·exact Y6 x hx
     ·rw[bT.1 hx];exact⟨vq,hum,hv,(show aE 1 from bk),bJ,bJ,trivial⟩
   ·rw[ax (x:=(k:Int)+1) ω ω,ag k]
    exact aw (λ_=>ω) λ_=>hr t ⟨ht.1,by have:=ht.2.1;omega,ht.2.2⟩
 ·exact aw (λ_=>ω) λ_=>an ⟨⟨by have:=hI.2.1;dsimp only;omega,hI.2.2⟩,by have:=hI.2.1;dsimp only;omega⟩
theorem aax(N:Nat)(hN:5000000≤N){c:ae}{b:aq}{m:Nat}(h2:200≤m)(hm:m≤40000)(hc:G m aA c)(hb:G m aK b){next:Int}(hn:aE next):Ok (λr=>LL m r.1) (bR N c b next):=Kr (R9 N hN h2 hm hc hb hn) λ_ h=>h.1
end VM
end
section
namespace VM
open Go VM.F
theorem tC(N:Nat)(hN:200000≤N){l:aD}(hl:l.length≤100000):Ok (λ_=>True) (o5 N l):=by
 unfold o5 o5.b
 refine lM (len:=l.length) (F:=λn i=>o5.l2 N n l i) ω (λn i hi hr=> ?_) (λn=> ?_)
 all_goals unfold o5.l2 o5.gD
 ·rw[ax (x:=(i:Int)+1) ω ω,ag i]
  dsimp only
  repeat' first|exact hr|exact eW|refine aB ⟨ω,ω⟩ ?_|refine aB (by rw[ax (x:=(i:Int)-1) ω ω];omega) ?_|refine aw (λ_=> ?_) (λ_=> ?_)|refine dU (λ_=> ?_) (λ_=> ?_)|refine ok_eq (λ_=> ?_) (λ_=> ?_)|(exfalso;omega)
 ·exact aw (λ_=>ω) λ_=>eW
theorem T8(N:Nat)(hN:200000≤N){l:List Int}(hl:l.length≤100000):Ok (λ_=>True) (rl N l):=by
 unfold rl rl.b
 refine lM (len:=l.length) (F:=λn i=>rl.l2 N n l i) ω (λn i hi hr=> ?_) (λn=> ?_)
 all_goals unfold rl.l2 rl.gD
 ·rw[ax (x:=(i:Int)+1) ω ω,ag i]
  dsimp only
  repeat' first|exact hr|exact eW|refine aB ⟨ω,ω⟩ ?_|refine aB (by rw[ax (x:=(i:Int)-1) ω ω];omega) ?_|refine aw (λ_=> ?_) (λ_=> ?_)|refine dU (λ_=> ?_) (λ_=> ?_)|refine ok_eq (λ_=> ?_) (λ_=> ?_)|(exfalso;omega)
 ·exact aw (λ_=>ω) λ_=>eW
theorem Xg(N:Nat)(hN:200000≤N)(a:Int){L:bw}{l:aM}{m:Nat}(hm:m≤50000)(hL:LL m L)(hl:G m (.slice ej) l):Ok aE (jl N a L l):=by
 have h1:=hL.1
 have h2:=hl.1
 have i3:aE 3:=bk
 have i2:aE 2:=bk
 unfold jl jl.b
 refine bc (len:=l.length) (F:=λn i v=>jl.l3 N n a L l v i) (λ_ v=>aE v) (show aE 1 from bk) ω (λn i v hi hv hr=> ?_) (λn v hv=> ?_)
 all_goals unfold jl.l3 jl.nC
 ·rw[ax (x:=(i:Int)+1) ω ω,ag i]
  exact aw (λ_=>aB ⟨ω,ω⟩ (bx (λ_=>hr v hv) λ_=>aB ⟨ω,ω⟩ (af (FY N hN hm hL _) λ_ _=>oZ (λ_=>aB ⟨ω,ω⟩ (dU (λ_=>hr _ (AE hv i3)) λ_=>hr _ (AE hv i2))) λ_=>hr _ (AE hv i2)))) λ_=>ω
 ·refine aw (λ_=>ω) λ_=>bc (len:=L.length) (F:=λn i v=>jl.pX N n a L v i) (λ_ v=>aE v) hv ω (λn i v hi hv hr=> ?_) (λn v hv=> ?_)
  all_goals unfold jl.pX jl.pt
  ·rw[ax (x:=(i:Int)+1) ω ω,ag i]
   exact aw (λ_=>aB ⟨ω,ω⟩ (ok_eq (λ_=>aB ⟨ω,ω⟩ (ok_eq (λ_=>hr 4 bk) λ_=>hr v hv)) λ_=>hr v hv)) λ_=>ω
  ·exact aw (λ_=>ω) λ_=>an hv
theorem NA(N:Nat)(hN:200000≤N)(c:ae){d:aD}{u:List Int}{L:bw}{l:aM}{m:Nat}(h2:200≤m)(hm:m≤50000)(hd:L2 m d)(hu:u.length≤m)(hL:LL m L)(hl:G m (.slice ej) l):Ok (λr=>L2 m r.1) (du N c d u L l):=by
 have h3:=hd.1
 have h4:=hL.1
 have h5:=hl.1
 have hw:Iw L:=λy hy=>ck (hL.2 y hy).2.1.1 ω
 unfold du du.b
 refine af (tC N hN ω) λ_ _=>bt (λ_=>an G.nil) λ_=>af (T8 N hN ω) λ_ _=>bt (λ_=>an G.nil) λ_=>bA (Ap N hN c ω hw) (bt (λ_=>an G.nil) λ_=>bA (tu N ω hN) (bt (λ_=>an G.nil) λ_=>iv (len:=13) (F:=λn i s=>du.l5 N n d u L l s i) (λi s=>L2 i s) (λn i s hi hI hr=> ?_) (λn s hI=> ?_) 13 N 1 [] ω ω ω G.nil))
 all_goals unfold du.l5 du.dV
 ·have hs:=hI.1
  refine dU (λ_=> ?_) λ_=>ω
  refine bc (len:=d.length) (F:=λn' j (z:Int×Bool)=>du.l9 N (du.l5 N n) n' d u L l s (i:Int) z.1 z.2 j) (s:=(_,_)) (λ_ z=>aE z.1) bJ ω (λn' j z hj hz eJ=> ?_) (λn' z hz=> ?_)
  all_goals unfold du.l9 du.xp
  ·rw[ax (x:=(j:Int)+1) ω ω,ag j]
   exact aw (λ_=>aB ⟨ω,ω⟩ (ok_eq (λ_=>aB ⟨ω,ω⟩ (eJ (_,_) (G.at hd _).2.1)) λ_=>eJ z hz)) λ_=>ω
  ·refine aw (λ_=>ω) λ_=>bc (len:=u.length) (F:=λn' j f=>du.IG N (du.l5 N n) n' d u L l s (i:Int) z.1 f j) (λ_ _=>True) trivial ω (λn' j f hj _ eJ=> ?_) (λn' f _=> ?_)
   all_goals unfold du.IG du.FL
   ·rw[ax (x:=(j:Int)+1) ω ω,ag j]
    exact aw (λ_=>oZ (λ_=>eJ _ trivial) λ_=>aB ⟨ω,ω⟩ (eJ _ trivial)) λ_=>ω
   ·refine aw (λ_=>ω) λ_=>bc (len:=l.length) (F:=λn' j f=>du.GN N (du.l5 N n) n' d u L l s (i:Int) z.1 f j) (λ_ _=>True) trivial ω (λn' j f hj _ eJ=> ?_) (λn' f _=> ?_)
    all_goals unfold du.GN du.Dr
    ·rw[ax (x:=(j:Int)+1) ω ω,ag j]
     exact aw (λ_=>oZ (λ_=>eJ _ trivial) λ_=>aB ⟨ω,ω⟩ (eJ _ trivial)) λ_=>ω
    ·rw[ax (x:=(i:Int)+1) ω ω,ag i]
     dsimp only
     exact aw (λ_=>ω) λ_=>oZ (λ_=>af (Xg N hN _ hm hL hl) λv hv=>aC (by rw[aI];omega) (hr _ (G.cat hI (G.one (m:=1) (G2 (iI ω ω) (AE hz hv)) (aG 1))))) λ_=>hr s (G.mono ω hI)
 ·exact dU (λ_=>ω) λ_=>an (G.mono ω hI)
theorem Xh(N:Nat)(hN:200000≤N){l:aD}(hl:l.length≤100000)(a:Int):Ok (λ_=>True) (rm N l a):=by
 unfold rm rm.b
 refine af (tC N hN hl) λ_ _=>bt (λ_=>eW) λ_=>lM (len:=l.length) (F:=λn i=>rm.l4 N n l a i) ω (λn i hi hr=> ?_) (λn=> ?_)
 all_goals unfold rm.l4 rm.dv
 ·rw[ax (x:=(i:Int)+1) ω ω,ag i]
  exact aw (λ_=>aB ⟨ω,ω⟩ (ok_eq (λ_=>aB ⟨ω,ω⟩ eW) λ_=>hr)) λ_=>ω
 ·exact aw (λ_=>ω) λ_=>eW
theorem Kz(N:Nat)(a:Int):Ok (λ_=>True) (Xi N a):=by
 unfold Xi
 exact ok_eq (λ_=>eW) λ_=>eW
theorem FZ(N:Nat)(hN:5000000≤N)(c:ae){b:aq}{d:aD}{m:Nat}(hm:m≤50000)(hb:G m aK b)(hd:L2 m d)(a k:Int):Ok (λr=>G m (.slice (.int .i64)) r.1) (rn N c b d a k):=by
 have hl:=hb.1.1
 have h2:=hd.1
 unfold rn rn.b
 refine bA (dG N hN hm hb) (bt (λ_=>an G.nil) λ_=>af (tC N ω ω) λ_ _=>bt (λ_=>an G.nil) λ_=>bc (len:=b.1.length) (F:=λn i s=>rn.l5 N n d a k b s i) (λi s=>G i (.slice (.int .i64)) s) G.nil ω (λn i s hi hI hr=> ?_) (λn s hI=> ?_))
 all_goals unfold rn.l5 rn.dV
 ·have hs:=hI.1
  rw[ax (x:=(i:Int)+1) ω ω,ag i]
  have h1:=hr s (G.mono ω hI)
  have hx:G 0 (.int .i64) (b.1.getD (i:Int).toNat cz).1:=(G.at hb.1 _).1
  exact aw (λ_=>aB ⟨ω,ω⟩ (af (Kz N _) λ_ _=>oZ (λ_=>bx (λ_=>af (lY N ω hm hb.2.2.1 _ _) λ_ _=>aw (λ_=>af (Xh N ω ω _) λ_ _=>ok_eq (λ_=>aC (by rw[aI];omega) (hr _ (G.cat hI (G.one hx (aG 1))))) λ_=>h1) λ_=>h1) λ_=>h1) λ_=>h1)) λ_=>ω
 ·exact aw (λ_=>ω) λ_=>an (G.mono hl hI)
theorem AF(N:Nat)(hN:200000≤N){a:aM}{m:Nat}(hm:m≤50000)(h:G m (.slice ej) a)(id:Int):Ok aE (lU N a id):=by
 refine np (qi N (ck h.1 ω) hN id) ?_
 unfold m7
 split
 ·have: ∀l:aM,(∀x∈l,G m ej x)→aE (m6 id l):=by
   intro l
   induction l with
   |nil=>intro _;exact bJ
   |cons x t ih=>
    intro hx
    have hi:=ih λy hy=>hx y (a6 _ hy)
    rw[sl]
    split
    ·split
     ·exact(hx x (bn ..)).1
     ·exact hi
    ·exact hi
  exact this a h.2
 ·exact bJ
abbrev L5(m:Nat)(l:bK):Prop:=G m (.slice sL) l
theorem G5{m:Nat}{a b c d e:Int}(ha:aE a)(hb:aE b)(hc:aE c)(hd:aE d)(he:aE e):G m sL (a,(b,(c,(d,(e,()))))):=⟨ha,hb,hc,hd,he,trivial⟩
theorem KA(N:Nat)(hN:200000≤N){l:bK}{b:aq}{m k:Nat}(hm:m≤50000)(hb:G m aK b)(hk:k≤1000000)(hl:L5 k l){a d n:Int}(ha:aE a)(hd:aE d)(hn:aE n):Ok (λr=>L5 (k+1) r) (KB N l b a d n):=by
 have h1:=hl.1
 unfold KB
 exact af (lY N hN hm hb.2.2.1 _ _) λx hx=>aw (λ_=>aC (by rw[aI];omega) (an (G.cat hl (G.one (m:=1) (G5 ha hd hn hx bJ) (aG 1))))) λ_=>an (G.mono ω hl)
theorem NB(N:Nat)(hN:5000000≤N){c:ae}{b:aq}{d g:aD}{a:Int}{m:Nat}(hm:m≤50000)(hc:G m aA c)(hb:G m aK b)(hd:L2 m d)(hg:L2 m g)(ha:aE a):Ok (λr=>L5 1000000 r.1) (cH N c b a d g):=by
 have h1:=hb.1.1
 have h2:=hd.1
 have h3:=hg.1
 have h4:=hb.2.1.1
 have hj: ∀l:bK,L5 1 l→Ok (λr=>L5 1000000 r.1) (cH.j9 N a d g c b l):=λl hl=>by
  unfold cH.j9 cH.MP
  refine af (KA N ω hm hb ω hl bk bk ha) λl hl=>af (KA N ω hm hb ω hl bk bk bJ) λl hl=>iv (len:=5) (F:=λn k s=>cH.pX N n a d g c b s k) (λk s=>L5 (3+m*k) s) (λn k s hk hs hr=> ?_) (λn s hs=> ?_) 5 N 1 l ω ω ω (G.mono ω hl)
  all_goals unfold cH.pX cH.pt
  ·have hmk:m*k≤m*4:=lD m ω
   refine dU (λ_=>af (FZ N hN c hm hb hd _ _) λt ht=> ?_) λ_=>ω
   have htl:=ht.1
   refine bc (len:=t.1.length) (F:=λn' j u=>cH.wE N (cH.pX N n) n' a d g c b u (k:Int) t.1 j) (λj u=>L5 (3+m*k+j) u) hs ω (λn' j u hj hu eJ=> ?_) (λn' u hu=> ?_)
   all_goals unfold cH.wE cH.vk
   ·rw[ax (x:=(j:Int)+1) ω ω,ag j]
    exact aw (λ_=>aB ⟨ω,ω⟩ (af (KA N ω hm hb ω hu (fQ _) bk (G.at ht _)) λv hv=>eJ v hv)) λ_=>ω
   ·rw[ax (x:=(k:Int)+1) ω ω,ag k]
    exact aw (λ_=>ω) λ_=>hr u (G.mono (by rw[qy];omega) hu)
  ·refine dU (λ_=>ω) λ_=>bc (len:=b.1.length) (F:=λn j u=>cH.HA N n a g c b u j) (λj u=>L5 (3+m*5+j) u) hs ω (λn j u hj hu hr=> ?_) (λn u hu=> ?_)
   all_goals unfold cH.HA cH.Ny
   ·have GO:=hu.1
    have hx:aE (b.1.getD (j:Int).toNat cz).1:=(G.at hb.1 _).1
    rw[ax (x:=(j:Int)+1) ω ω,ag j]
    have h0:=hr u (G.mono ω hu)
    exact aw (λ_=>aB ⟨ω,ω⟩ (af (Kz N _) λ_ _=>bt (λ_=>h0) λ_=>ok_eq (λ_=>h0) λ_=>af (bp N ω hc.2.2.1) λp hp=>af (lY N ω hm hb.2.2.1 _ _) λq hq=>af (bp N ω hq) λq hq=>af (ln N ω ω ω hp hq) λy hy=>af (wP N hy) λv hv=>bt (λ_=>an G.nil) λ_=>aw (λ_=>aC (by rw[aI];omega) (hr _ (G.mono ω (G.cat hu (G.one (m:=1) (G5 (show aE 8 from bk) (show aE 7 from bk) hx hv bJ) (aG 1)))))) λ_=>h0)) λ_=>ω
   ·refine aw (λ_=>ω) λ_=>bc (len:=g.length) (F:=λn j u=>cH.MZ N n a g b u j) (λj u=>L5 (3+m*5+m+j) u) (G.mono ω hu) ω (λn j u hj hu hr=> ?_) (λn u hu=> ?_)
    all_goals unfold cH.MZ cH.Ke
    ·have GO:=hu.1
     rw[ax (x:=(j:Int)+1) ω ω,ag j]
     have h0:=hr u (G.mono ω hu)
     dsimp only
     exact aw (λ_=>aB ⟨ω,ω⟩ (af (xA N ω hm hb.2.1 _) λx hx=>aB ⟨ω,ω⟩ (aB ⟨ω,ω⟩ (af (lY N ω hm hb.2.2.1 _ _) λq hq=>oZ (λ_=>bx (λ_=>aw (λ_=>aC (by rw[aI];omega) (hr _ (G.mono ω (G.cat hu (G.one (m:=1) (G5 (show aE 9 from bk) (show aE 5 from bk) hx.1 (W1 (G.at hg _).2.1 hq) bJ) (aG 1)))))) λ_=>h0) λ_=>h0) λ_=>h0)))) λ_=>ω
    ·exact aw (λ_=>ω) λ_=>an (G.mono ω hu)
 unfold cH cH.b
 exact bA (dG N hN hm hb) (bt (λ_=>an G.nil) λ_=>af (tC N ω ω) λ_ _=>bt (λ_=>an G.nil) λ_=>af (BD N ω ω) λ_ _=>bt (λ_=>an G.nil) λ_=>af (oh N ω hm hb.1 _) λ_ _=>ok_eq (λ_=>an G.nil) λ_=>af (AF N ω hm hb.2.1 _) λh hh=>bx (λ_=>af (KA N ω hm hb ω (G.nil (m:=0)) bk bk hh) λl hl=>hj l hl) λ_=>hj [] G.nil)
end VM
end
section
namespace VM
open Go VM.F
theorem IZ(N:Nat)(hN:5000000≤N)(c:ae){b:aq}{m:Nat}(hm:m≤50000)(hb:G m aK b):Ok (λr=>aE r.1) (aay N c b):=by
 unfold aay
 exact bA (dG N hN hm hb) (bt (λ_=>an bJ) λ_=>af (lY N ω hm hb.2.2.1 _ _) λx hx=>ok_eq (λ_=>an bJ) λ_=>an (AE (fQ _) bJ))
theorem F0(N:Nat)(hN:5000000≤N)(c:ae){b:aq}{m:Nat}(hm:m≤50000)(hb:G m aK b):Ok (λr=>aE r.1) (aaz N c b):=by
 unfold aaz
 exact bA (dG N hN hm hb) (bt (λ_=>an bJ) λ_=>af (lY N ω hm hb.2.2.1 _ _) λx hx=>an (AE hx bJ))
theorem ahV(N:Nat)(a b:Int):Ok (λ_=>True) (PZ N a b):=by
 unfold PZ
 repeat' first|exact eW|refine ok_eq (λ_=> ?_) (λ_=> ?_)|refine dU (λ_=> ?_) (λ_=> ?_)
theorem T9(N:Nat)(hN:200000≤N)(l:bK):Ok (λr=>r=true→l.length≤64) (rp N l):=by
 have hf:Ok (λr=>r=true→l.length≤64) (some false):=an λh=>nomatch h
 unfold rp rp.b
 refine aw (λ_=>hf) λhl=>lM (len:=l.length) (F:=λn i=>rp.l4 N n l i) ω (λn i hi hr=> ?_) (λn=> ?_)
 all_goals unfold rp.l4 rp.dv
 ·rw[ax (x:=(i:Int)+1) ω ω,ag i]
  dsimp only
  repeat' first|exact hr|exact hf|refine aB ⟨ω,ω⟩ ?_|refine aB (by rw[ax (x:=(i:Int)-1) ω ω];omega) ?_|refine aw (λ_=> ?_) (λ_=> ?_)|refine dU (λ_=> ?_) (λ_=> ?_)|refine ok_eq (λ_=> ?_) (λ_=> ?_)|(exfalso;omega)|refine af (ahV N _ _) λ_ _=> ?_|refine bt (λ_=> ?_) (λ_=> ?_)
 ·exact aw (λ_=>ω) λ_=>an λ_=>ω
theorem Sb{σ β:Type}{P:β→Prop}{F:Nat→Int→σ→Option β}{len:Nat}(I:σ→Prop)
  (hs: ∀n i s,i<len→I s→(∀j s',i<j→j≤len→I s'→Ok P (F n (j:Int) s'))→Ok P (F (n+1) (i:Int) s)) (he: ∀n s,I s→Ok P (F (n+1) (len:Int) s)):
  ∀m n i s,len-i≤m→m<n→i≤len→I s→Ok P (F n (i:Int) s)
 |m,0,i,s,_,hn,_,_=>ω
 |m,n+1,i,s,hm,hn,hi,hI=>by
  by_cases h:i<len
  ·exact hs n i s h hI λj s' hj YI ye=>Sb I hs he (m-1) n j s' ω ω YI ye
  ·have:i=len:=ω
   subst this
   exact he n s hI
theorem G5q{m:Nat}{x:sK}{q:Int}(h:G m sL x)(hq:aE q):G m sL (x.1,(x.2.1,(x.2.2.1,(x.2.2.2.1,(q,x.2.2.2.2.2))))):=⟨h.1,h.2.1,h.2.2.1,h.2.2.2.1,hq,trivial⟩
theorem amE: ∀{w:List Int},Pos w→0≤w.sum
 |[],_=>fE _
 |x::t,h=>by
  rw[cy]
  have:=h x (bn ..)
  have:=amE (w:=t) λy hy=>h y (a6 _ hy)
  omega
theorem Ua{t:Int}{w:List Int}(h1:t<9223372036854775808)(h:(q3 t w).2=0):(q3 t w).1.length=w.length∧IC (q3 t w).1:=by
 unfold q3 at h ⊢
 split at h
 ·exact absurd h δ
 ·split at h
  ·exact absurd h δ
  ·rename_i h2 h3
   split at h
   ·split at h
    ·rename_i h4 h5
     rw[ah h2,ah h3,aj h4,aj h5]
     exact⟨cP ..,λx hx=>by rw[y8 hx];decide⟩
    ·exact absurd h δ
   ·rename_i h4
    rw[ah h2,ah h3,ah h4]
    have hm:may w=true:=by
     by_cases hm:may w=true
     ·exact hm
     ·exact absurd (Or.inr (vy.2 hm)) h2
    have hp:=(oB.1 hm).2
    have h0:0≤t:=ω
    have hS:0<w.sum:=by have:=amE hp;omega
    exact⟨og t w,afO (uE h0 hS hp) (by rw[uD h0 hS];exact h1)⟩
theorem aaA{α:Type}{Q:α→Prop}{l:List α}{x:α}{k:Nat}(h: ∀y∈l,Q y)(hx:Q x): ∀y∈l.set k x,Q y:=λy hy=>by
 rcases xd hy with hy|rfl
 ·exact h y hy
 ·exact hx
theorem Sc{α:Type}{Q:α→Prop}{l:List α}{d:α}{k:Nat}(h: ∀y∈l,Q y)(hk:k<l.length):Q (l.getD k d):=by
 rw[aU,bm hk];exact h _ (dz hk)
theorem I0(N:Nat)(hN:5000000≤N){l:bK}{q:Int}{Q:sK→Prop}(hQ: ∀x,Q x→aE x.2.2.2.1)(hU: ∀(x:sK) (v:Int),Q x→aE v→Q (x.1,(x.2.1,(x.2.2.1,(x.2.2.2.1,(v,x.2.2.2.2.2))))))(hl: ∀x∈l,Q x)(hq:aE q):Ok (λr=>(r.1.length≤64∧ ∀x∈r.1,Q x)∧aE r.2.1) (dB N l q):=by
 have dH: ∀e:Int,Ok (λr:bK×Int×Int=>(r.1.length≤64∧ ∀x∈r.1,Q x)∧aE r.2.1) (some ([],((0:Int),e))):=λe=>an ⟨⟨bo _,λx hx=>nomatch hx⟩,bJ⟩
 unfold dB dB.b
 refine af (T9 N ω l) λz hz=>bt (λ_=>dH _) λht=>aw (λ_=>dH _) λ_=> ?_
 have nF:=hz ht
 rw[cI]
 refine aC (by rw[bS];omega) (Sb (len:=l.length) (F:=λn i (s:bK×Int)=>dB.l5 N n s.1 s.2 i) (λs=>s.1.length=l.length∧(∀x∈s.1,Q x)∧aE s.2) (λn i s hi hI hr=> ?_) (λn s hI=> ?_) l.length N 0 (l,q) ω ω ω ⟨rfl,hl,hq⟩)
 all_goals unfold dB.l5 dB.dV
 ·obtain⟨Pn,Tf,hs3⟩:=hI
  refine aw (λ_=> ?_) λ_=>ω
  have fin: ∀(k:Nat) (w:List Int),i<k→k≤l.length→w.length=k-i→IC w→Ok (λr=>(r.1.length≤64∧ ∀x∈r.1,Q x)∧aE r.2.1) (dB.IX N (dB.l5 N n) s.1 s.2 (i:Int) (k:Int) w):=λk w hk G0 hw FM=>by
   unfold dB.IX dB.BB
   have EB:aE (mn (Be w.sum).1 s.2):=W1 (WV _) hs3
   refine bA (yF N ω FM ω) (bA (qR N _) (bt (λ_=>dH _) λ_=>bA (Bv N hN EB.2 FM ω) (bx (λ_=>dH _) λh0=> ?_)))
   obtain⟨e1,e2⟩:=Ua EB.2 h0
   generalize (q3 (mn (Be w.sum).1 s.2) w).1=v at*
   refine iv (len:=k) (F:=λn' j (z:bK×Int)=>dB.GN N (dB.l5 N n) n' z.1 z.2 (i:Int) (k:Int) v j) (λj z=>i≤j∧z.1.length=l.length∧(∀x∈z.1,Q x)∧aE z.2) (λn' j z hj hz eJ=> ?_) (λn' z hz=> ?_) k N i s ω ω ω ⟨aG i,Pn,Tf,hs3⟩
   all_goals unfold dB.GN dB.Dr
   ·obtain⟨pH,B5,GM,hz3⟩:=hz
    dsimp only
    rw[ax (x:=(j:Int)+1) ω ω,ag j,ax (x:=(j:Int)-i) ω ω]
    exact aw (λ_=>aB ⟨ω,ω⟩ (aB ⟨ω,ω⟩ (aB ⟨ω,ω⟩ (eJ (_,_) ⟨ω,by dsimp only;rw[List.length_set];exact B5,aaA GM (hU _ _ (Sc GM ω) (tg e2 _)),fQ _⟩)))) λ_=>ω
   ·exact aw (λ_=>ω) λ_=>hr k z hk G0 hz.2
  refine iv (len:=l.length) (F:=λn' k w=>dB.l8 N (dB.l5 N n) n' s.1 s.2 (i:Int) k w) (λk w=>i≤k∧w.length=k-i∧IC w) (λn' k w hk hw eJ=> ?_) (λn' w hw=> ?_) l.length N i [] ω ω ω ⟨aG i,by rw[bS];omega,λx hx=>nomatch hx⟩
  all_goals unfold dB.l8 dB.xR
  ·obtain⟨hik,hwl,FM⟩:=hw
   rw[ax (x:=(k:Int)+1) ω ω,ag k]
   refine aw (λ_=>aB ⟨ω,ω⟩ (aB ⟨ω,ω⟩ (ok_eq (λ_=>aB ⟨ω,ω⟩ (aC (by rw[aI];omega) (eJ _ ⟨ω,by rw[aS,aI];omega,λx hx=> ?_⟩))) λjH=> ?_))) λ_=>ω
   ·rcases bb.1 hx with hx|hx
    ·exact FM x hx
    ·rw[bT.1 hx];exact hQ _ (Sc Tf ω)
   ·refine fin k w ?_ ω hwl FM
    by_cases e:k=i
    ·subst e;exact absurd rfl jH
    ·omega
  ·exact aw (λ_=>ω) λ_=>fin l.length w hi (aG _) hw.2.1 hw.2.2
 ·exact aw (λ_=>ω) λ_=>an ⟨⟨by have:=hI.1;dsimp only;omega,hI.2.1⟩,hI.2.2⟩
theorem Qx(N:Nat)(hN:5000000≤N){l:bK}{q:Int}{m:Nat}(hl:L5 m l)(hq:aE q):Ok (λr=>L5 64 r.1∧aE r.2.1) (dB N l q):=
 I0 N hN (Q:=G 64 sL) (λx hx=>hx.2.2.2.1) (λx v hx hv=>G5q hx hv) (λx hx=>G.mono (m:=0) (bo _) (hl.2 x hx)) hq
abbrev R0:dJ:=((0:Int),((0:Int),(([]:bK),((0:Int),()))))
theorem I1(N:Nat)(hN:5000000≤N){c:ae}{b:aq}{d g:aD}{a:Int}{m:Nat}(h2:200≤m)(hm:m≤40000)(hc:G m aA c)(hb:G m aK b)(hd:L2 m d)(hg:L2 m g)(ha:aE a):Ok (λr=>G m aK r.1∧G m gG r.2.1) (ib N c b a d g):=by
 have dH: ∀e:Int,Ok (λr:aq×dJ×Int=>G m aK r.1∧G m gG r.2.1) (some ((cm,(c8,(bH,(bH,(dC,(dP,())))))),(R0,e))):=λe=>an ⟨G.iJ,G.zero m gG⟩
 unfold ib ib.b
 refine af (NB N hN ω hc hb hd hg ha) λl hl=>ok_eq (λ_=>dH _) λ_=>ok_eq (λ_=>dH _) λ_=>af (IZ N hN c ω hb) λq hq=>bx (λ_=>dH _) λ_=>bx (λ_=>dH _) λ_=>af (Qx N hN hl hq) λz ⟨B5,GM⟩=>bx (λ_=>dH _) λ_=> ?_
 have hzl:=B5.1
 have hj: ∀(p:bE) (r:dJ) (t:bK) (x k n:Int),jL 1000 p→G m gG r→L5 64 t→aE x→Ok (λr=>G m aK r.1∧G m gG r.2.1) (ib.j26 N b (cm,(c8,(bH,(bH,(dC,(dP,())))))) R0 p r t x k n):=λp r t x k n hp hr ht hx=>by
  have G4:=hp.1
  unfold ib.j26 ib.aaB
  exact af (bp N ω hx) λv hv=>af (sy N ω _ _ _ _ (Bg.mono hv ω)) λu hu=>aC (by have:=hu.1;omega) (af (sx N ω h2 ω hb G.nil (jL.mono (jL.app hp hu) ω)) λw hw=>bx (λ_=>dH _) λ_=>an ⟨hw,hr.1,hr.2.1,G.mono ω ht,hr.2.2.2⟩)
 refine bc (len:=z.1.length) (F:=λn i (s:bE×dJ×bK)=>ib.Ir N n a c b (cm,(c8,(bH,(bH,(dC,(dP,())))))) R0 z.1 z.2.1 s.1 s.2.1 s.2.2 i) (s:=(_,(_,_))) (λi s=>jL (2*i) s.1∧G m gG s.2.1∧L5 i s.2.2) ⟨jL.nil,⟨ha,hq,G.nil,GM,trivial⟩,G.nil⟩ ω (λn i s hi hI hr=> ?_) (λn s hI=> ?_)
 all_goals unfold ib.Ir ib.Hp
 ·obtain⟨h4,h5,h6⟩:=hI
  have hp:=h4.1
  have ht:=h6.1
  have hx:G 0 sL (z.1.getD (i:Int).toNat mz):=G.at B5 _
  rw[ax (x:=(i:Int)+1) ω ω,ag i]
  exact aw (λ_=>aB ⟨ω,ω⟩ (aw (λ_=>aB ⟨ω,ω⟩ (aC (by rw[aI];omega) (aB ⟨ω,ω⟩ (aB ⟨ω,ω⟩ (aB ⟨ω,ω⟩ (af (bp N ω hx.2.2.2.2.1) λv hv=>af (sy N ω _ _ _ _ (Bg.mono hv ω)) λu hu=>aC (by have:=hu.1;omega) (hr (_,(_,_)) ⟨jL.mono (jL.app h4 hu) ω,⟨h5.1,h5.2.1,G.nil,h5.2.2.2⟩,G.cat h6 (G.one hx (aG 1))⟩))))))) λ_=>hr s ⟨jL.mono h4 ω,h5,G.mono ω h6⟩)) λ_=>ω
 ·obtain⟨h4,h5,h6⟩:=hI
  have hp:=h4.1
  dsimp only
  exact aw (λ_=>ω) λ_=>af (bp N ω GM) λv hv=>af (sy N ω _ _ _ _ (Bg.mono hv ω)) λu hu=>aC (by have:=hu.1;omega) (af (F0 N hN c ω hb) λx hx=>af (AF N ω ω hb.2.1 _) λh hh=>bx (λ_=>hj _ _ _ _ _ _ (jL.mono (jL.app h4 hu) ω) h5 (G.mono ω h6) hx) λ_=>hj _ _ _ _ _ _ (jL.mono (jL.app h4 hu) ω) h5 (G.mono ω h6) hx)
end VM
end
section
namespace VM
open Go VM.F
theorem Ub(N:Nat)(hN:5000000≤N){t:Int}{w:List Int}(ht:t<9223372036854775808)(hw:IC w)(hl:w.length≤1000000):Ok (λr=>r.2.2=0→r.1.length=w.length∧IC r.1) (eH N t w w):=by
 refine np (FR N hN ht hw hw hl) λh0=> ?_
 have f:=FT ht hw h0
 have c:=f.c
 have hl2:=c.l2
 refine⟨hl2,λx hx=> ?_⟩
 obtain⟨i,hi,e⟩:=gd hx
 have h1:=c.le i ω
 have h2:=(c.pc i).2
 have h3:=c.po i
 rw[aU (l:=(sv t w w).1),bm hi,mO,e]at h1 h3
 exact⟨ω,ω⟩
theorem aaC(N:Nat)(hN:5000000≤N)(c:ae){b:aq}{m:Nat}(hm:m≤40000)(hb:G m aK b){a:Int}(ha:aE a):Ok (λr=>L3 (m+1) r.1) (fA N c b a):=by
 have w:=(G.wf ω hb).w
 have hl:=hb.2.2.2.1.1
 unfold fA fA.b
 refine bA (dG N hN ω hb) (bt (λ_=>an G.nil) λ_=>aw (λ_=>an G.nil) λ_=>dU (λ_=>an G.nil) λ_=>bA (DQ N w.s ω 0 a) (ok_eq (λ_=>an G.nil) λ_=> ?_))
 have hq:=WJ w.qs 0 a
 generalize fx b.2.2.2.1 0 a=q at*
 refine bc (len:=b.2.2.2.1.length) (F:=λn i (s:List Int×List Int)=>fA.BA N n a b q s.1 s.2 i) (s:=(_,_)) (λi s=>s.1.length≤i∧s.2.length=s.1.length∧IC s.1∧IC s.2) ⟨bo _,rfl,(λx hx=>nomatch hx),λx hx=>nomatch hx⟩ ω (λn i s hi hI hr=> ?_) (λn s hI=> ?_)
 all_goals unfold fA.BA fA.yO
 ·obtain⟨h1,h2,h3,h4⟩:=hI
  have hx:G 0 jk (b.2.2.2.1.getD (i:Int).toNat bl):=G.at hb.2.2.2.1 _
  rw[ax (x:=(i:Int)+1) ω ω,ag i]
  have h0:=hr s ⟨ω,h2,h3,h4⟩
  have sn: ∀{l:List Int} {x:Int},IC l→aE x→IC (l++[x]):=λhl hx y hy=>(bb.1 hy).elim (hl y) λhy=>by rw[bT.1 hy];exact hx
  dsimp only
  exact aw (λ_=>aB ⟨ω,ω⟩ (bx (λ_=>ok_eq (λ_=>oZ (λ_=>aC (by rw[List.length_singleton];omega) (aC (by rw[List.length_singleton];omega) (hr (_,_) ⟨by dsimp only;rw[List.length_append,List.length_singleton];omega,by dsimp only;rw[List.length_append,List.length_append,List.length_singleton,List.length_singleton];omega,sn h3 hx.1,sn h4 (AE hx.2.2.1 (fQ _))⟩))) λ_=>h0) λ_=>h0) λ_=>h0)) λ_=>ω
 ·obtain⟨h1,h2,h3,h4⟩:=hI
  refine aw (λ_=>ω) λ_=>af (Ub N hN (AE hq (fQ _)).2 h4 ω) λz hz=>bx (λ_=>an G.nil) λh0=> ?_
  obtain⟨e1,e2⟩:=hz h0
  refine bc (len:=z.1.length) (F:=λn i u=>fA.Uc N n a q s.1 z.1 u i) (λi u=>L3 (1+i) u) (G.one (m:=1) (G3 bJ ha (fQ _)) (aG 1)) ω (λn i u hi hu hr=> ?_) (λn u hu=> ?_)
  all_goals unfold fA.Uc fA.Xj
  ·have GO:=hu.1
   rw[ax (x:=(i:Int)+1) ω ω,ag i]
   have h0:=hr u (G.mono ω hu)
   have put: ∀x:Int,aE x→Ok (λr=>L3 (m+1) r.1) (cond (small (u.length+[((s.1.getD (i:Int).toNat 0,(a,(x,()))):db)].length)) (fA.Uc N n a q s.1 z.1 (u++[(s.1.getD (i:Int).toNat 0,(a,(x,())))]) ((i+1:Nat):Int)) none):=λx hx=>aC (by rw[aI];omega) (hr _ (G.mono ω (G.cat hu (G.one (m:=1) (G3 (tg h3 _) ha hx) (aG 1)))))
   dsimp only
   exact aw (λ_=>aB ⟨ω,ω⟩ (aw (λ_=>bx (λ_=>aB ⟨ω,ω⟩ (put _ (fQ _))) λ_=>h0) λ_=>bx (λ_=>aB ⟨ω,ω⟩ (put _ (tg e2 _))) λ_=>h0)) λ_=>ω
  ·exact aw (λ_=>ω) λ_=>an (G.mono ω hu)
theorem Sd(N:Nat)(hN:5000000≤N){c:ae}{b:aq}{m:Nat}(h2:200≤m)(hm:m≤7000)(hc:G 5 aA c)(hb:G m aK b):Ok (λr=>G m aK r.1) (nw N c b):=by
 have LY:=hc.1.1
 unfold nw nw.b
 refine bA (dG N hN ω hb) (bt (λ_=>an G.iJ) λ_=>bc (len:=c.1.length) (F:=λn i s=>nw.l5 N n c b (cm,(c8,(bH,(bH,(dC,(dP,())))))) s i) (λi s=>L3 ((m+1)*i) s) G.nil ω (λn i s hi hI hr=> ?_) (λn s hI=> ?_))
 all_goals unfold nw.l5 nw.dV
 ·have hs:=hI.1
  have Xk:(m+1)*i≤(m+1)*5:=lD _ ω
  rw[ax (x:=(i:Int)+1) ω ω,ag i]
  exact aw (λ_=>af (aaC N hN c ω hb (iI ω ω)) λr hrr=>bx (λ_=>an G.iJ) λ_=>aC (by have:=hrr.1;omega) (hr _ (G.mono (by rw[qy];omega) (G.cat hI hrr)))) λ_=>ω
 ·have Xk:(m+1)*c.1.length≤(m+1)*5:=lD _ ω
  exact aw (λ_=>ω) λ_=>af (sx N ω h2 ω hb (G.mono ω hI) jL.nil) λr hr=>an hr
end VM
end
section
namespace VM
open Go VM.F
theorem Se(N:Nat)(hN:200000≤N){l:aM}{m:Nat}(hm:m≤50000)(h:G m (.slice ej) l)(a:Int):Ok (λr=>G 0 ej r.1) (rq N l a):=by
 have hl:=h.1
 have hz:G 0 ej aV:=G.zero 0 ej
 unfold rq rq.b
 refine bA (tu N ω hN) (bt (λ_=>an hz) λ_=>bc (len:=l.length) (F:=λn i (z:bX×Bool)=>rq.l6 N n l a aV z.1 z.2 i) (s:=(_,_)) (λ_ z=>G 0 ej z.1) hz ω (λn i z hi hI hr=> ?_) (λn z hI=> ?_))
 all_goals unfold rq.l6 rq.ud
 ·rw[ax (x:=(i:Int)+1) ω ω,ag i]
  have hx:G 0 ej (l.getD (i:Int).toNat aV):=G.at h _
  have h1:=hr z hI
  have h2:=hr (_,true) hx
  repeat' first|exact h1|exact h2|refine aB ⟨ω,ω⟩ ?_|refine aw (λ_=> ?_) (λ_=> ?_)|refine ok_eq (λ_=> ?_) (λ_=> ?_)|refine bt (λ_=> ?_) (λ_=> ?_)|(exfalso;omega)
 ·exact aw (λ_=>ω) λ_=>an hI
theorem GL{m:Nat}{a b d e f:Int}{l:aD}(ha:aE a)(hl:L2 m l)(hb:aE b)(hd:aE d)(he:aE e)(hf:aE f):G m jc (a,(l,(b,(d,(e,(f,())))))):=⟨ha,hl,hb,hd,he,hf,trivial⟩
theorem LL.app{m:Nat}{k:Nat}{l:bw}{x:ik}(hl:l.length≤k∧ ∀y∈l,G m jc y)(hx:G m jc x):(l++[x]).length≤k+1∧ ∀y∈l++[x],G m jc y:=
 ⟨by rw[aS,aI];have:=hl.1;omega,λy hy=>(bb.1 hy).elim (hl.2 y) λhy=>by rw[bT.1 hy];exact hx⟩
theorem NC(N:Nat)(hN:5000000≤N)(c:ae){b:aq}{L:bw}{l:aM}{m:Nat}(h2:200≤m)(hm:m≤2000)(hb:G m aK b)(hL:LL m L)(hl:G m (.slice ej) l):Ok (λr=>G m aK r.1∧LL m r.2.1) (fG N c b L l):=by
 have dH: ∀e:Int,Ok (λr:aq×bw×Int=>G m aK r.1∧LL m r.2.1) (some ((cm,(c8,(bH,(bH,(dC,(dP,())))))),([],e))):=λe=>an ⟨G.iJ,G.nil⟩
 have h3:=hL.1
 have h4:=hl.1
 have hw:Iw L:=λy hy=>ck (hL.2 y hy).2.1.1 ω
 unfold fG fG.b
 refine bA (dG N hN ω hb) (bt (λ_=>dH _) λ_=>bA (Ap N ω c ω hw) (bt (λ_=>dH _) λhk=>bA (tu N ω ω) (bt (λ_=>dH _) λ_=> ?_)))
 have h12:L.length≤12:=by
  unfold Bn at hk
  exact bz (cN.1 (cN.1 hk).2).1
 refine bc (len:=L.length) (F:=λn i (z:au×bE×bw)=>fG.l7 N n L l b (cm,(c8,(bH,(bH,(dC,(dP,())))))) z.1 z.2.1 z.2.2 i) (s:=(_,(_,_))) (λi z=>L3 (2*m*i) z.1∧jL (2*i) z.2.1∧z.2.2.length≤i∧ ∀y∈z.2.2,G m jc y) ⟨G.nil,jL.nil,bo _,λy hy=>nomatch hy⟩ ω (λn i z hi hI hr=> ?_) (λn z hI=> ?_)
 all_goals unfold fG.l7 fG.pj
 ·obtain⟨h5,h6,h7⟩:=hI
  have h8:=h6.1
  have h9:=h7.1
  have Xk:2*m*i≤2*m*12:=lD _ ω
  have hms:2*m*(i+1)=2*m*i+2*m:=qy _ _
  have hx:G m jc (L.getD (i:Int).toNat ((0:Int),(cm,aV))):=G.at hL _
  have hxl:=hx.2.1.1
  rw[ax (x:=(i:Int)+1) ω ω,ag i]
  dsimp only
  rw[cI]
  have put: ∀x:ik,G m jc x→Ok (λr=>G m aK r.1∧LL m r.2.1) (cond (small (z.2.2.length+[x].length)) (fG.l7 N n L l b (cm,(c8,(bH,(bH,(dC,(dP,())))))) z.1 z.2.1 (z.2.2++[x]) ((i+1:Nat):Int)) none):=λx hx=>aC (by rw[aI];omega) (hr (z.1,(z.2.1,z.2.2++[x])) ⟨G.mono ω h5,jL.mono h6 ω,LL.app h7 hx⟩)
  refine aw (λ_=>aB ⟨ω,ω⟩ (aC (by rw[bS];omega) (bx (λ_=>put _ hx) λ_=>af (Se N ω ω hl _) λw hw=>bt (λ_=>put _ (GL hx.1 hx.2.1 hx.2.2.1 (show aE 3 from bk) hx.2.2.2.2.1 hx.2.2.2.2.2.1)) λ_=>af (AF N ω ω hb.2.1 _) λh hh=>ok_eq (λ_=>dH _) λ_=>af (qk N ω ω hb _) λ_ _=>ok_eq (λ_=>dH _) λ_=> ?_))) λ_=>ω
  have oL:=GL hx.1 hx.2.1 hx.2.2.1 (show aE 2 from bk) hw.2.2.1 hw.2.2.2.1
  generalize hX:(((L.getD (i:Int).toNat ((0:Int),(cm,aV))).1,((L.getD (i:Int).toNat ((0:Int),(cm,aV))).2.1,((L.getD (i:Int).toNat ((0:Int),(cm,aV))).2.2.1,((2:Int),(w.1.2.2.1,(w.1.2.2.2.1,())))))):ik)=X at oL
  have hXl:X.2.1.length≤m:=oL.2.1.1
  refine bc (len:=X.2.1.length) (F:=λn' j u=>fG.wF N (fG.l7 N n) n' L l b (cm,(c8,(bH,(bH,(dC,(dP,())))))) u z.2.1 z.2.2 (i:Int) X w.1 h j) (s:=z.1) (λj u=>L3 (2*m*i+2*j) u) h5 ω (λn' j u hj hu eJ=> ?_) (λn' u hu=> ?_)
  all_goals unfold fG.wF fG.vl
  ·have GO:=hu.1
   have hy:G m js (X.2.1.getD (j:Int).toNat cz):=G.at oL.2.1 _
   dsimp only
   rw[ax (x:=(j:Int)+1) ω ω,ag j]
   exact aw (λ_=>aB ⟨ω,ω⟩ (aB ⟨ω,ω⟩ (aB ⟨ω,ω⟩ (aB ⟨ω,ω⟩ (aC (by rw[xB];omega) (eJ _ (G.mono ω (G.cat hu (G.two (m:=2) (G3 bJ hy.1 (fQ _)) (G3 hh hy.1 hy.2.1) (aG 2)))))))))) λ_=>ω
  ·refine aw (λ_=>ω) λ_=>af (bp N ω hw.2.2.2.1) λv hv=>af (sy N ω _ _ _ _ (Bg.mono hv ω)) λp hp=>aC (by have:=hp.1;omega) (aC (by rw[aI];omega) ?_)
   rw[ax (x:=(i:Int)+1) ω ω,ag i]
   exact hr (_,(_,_)) ⟨G.mono ω hu,jL.mono (jL.app h6 hp) ω,LL.app h7 oL⟩
 ·obtain⟨h5,h6,h7⟩:=hI
  have Xk:2*m*L.length≤2*m*12:=lD _ ω
  exact aw (λ_=>ω) λ_=>af (sx N ω h2 ω hb (G.mono ω h5) (jL.mono h6 ω)) λr hr=>bx (λ_=>dH _) λ_=>an ⟨hr,ck h7.1 ω,h7.2⟩
end VM
end
section
namespace VM
open Go VM.F
theorem ND{l:aM}(h:fu l=true):l.length≤24:=by
 unfold fu at h
 rw[gg]at h
 have h:=bz h
 have key: ∀i,i<l.length→(i:Int)+1≤(l.getD i aV).1:=by
  intro i
  induction i with
  |zero=>intro hi;exact(h 0 hi).1.1.1
  |succ i ih=>
   intro hi
   have h1:=ih ω
   have h2:(l.getD i aV).1<(l.getD (i+1) aV).1:=(h (i+1) hi).2.1 ω
   have g: ∀a b:Int,(i:Int)+1≤a→a<b→((i+1:Nat):Int)+1≤b:=λa b h1 h2=>ω
   exact g _ _ h1 h2
 by_cases hl:l.length≤24
 ·exact hl
 ·have h1:=key 24 ω
  have h2:=(h 24 ω).1.1.2
  have g: ∀a:Int,((24:Nat):Int)+1≤a→a≤24→False:=λa h1 h2=>ω
  exact(g _ h1 h2).elim
theorem I2(N:Nat)(hN:5000000≤N){c:ae}{b:aq}{m:Nat}(hm:m≤40000)(hc:G m aA c)(hb:G m aK b)(a:Int):Ok (λr=>aE r.1) (F60 N c b a):=by
 unfold F60 Qi
 exact bA (dG N hN ω hb) (bt (λ_=>an bJ) λ_=>af (xA N ω ω hb.2.1 _) λ_ _=>bt (λ_=>an bJ) λ_=>af (Np N ω ω hb.2.2.2.1 _) λl hl=>af (Q:=λr=>Bg 60000 r.1) (af (BE N ω ω hc hl _) λr hr=>an hr) λu hu=>af (tB N ω ω hb _) λg hg=>dU (λ_=>an bJ) λ_=>af (wP N hu) λv hv=>oZ (λ_=>aw (λ_=>an hv) λ_=>an hg) λ_=>an hg)
theorem Xl(N:Nat)(hN:200000≤N){l:au}{a d:Int}{m:Nat}(hm:m≤50000)(h:L3 m l)(ha:aE a)(hd:aE d):Ok (λr=>L3 (2*m) r) (iL N l a d):=by
 have hl:=h.1
 unfold iL iL.b
 refine bA (kF N ω hN) (bt (λ_=>an G.nil) λ_=>ok_eq (λ_=>an G.nil) λ_=>aw (λ_=>an G.nil) λ_=>aw (λ_=>an G.nil) λ_=>aw (λ_=>an G.nil) λ_=>aw (λ_=>an G.nil) λ_=>bc (len:=l.length) (F:=λn i s=>iL.l5 N n l a d s i) (λi s=>L3 (2*i) s) G.nil ω (λn i s hi hI hr=> ?_) (λn s hI=> ?_))
 all_goals unfold iL.l5 iL.dV
 ·have hs:=hI.1
  have hx:=G.at h (i:Int).toNat
  dsimp only
  rw[ax (x:=(i:Int)+1) ω ω,ag i]
  have h1:=hr s (G.mono ω hI)
  exact aw (λ_=>aB ⟨ω,ω⟩ (ok_eq (λ_=>aB ⟨ω,ω⟩ (aB ⟨ω,ω⟩ (aB ⟨ω,ω⟩ (aB ⟨ω,ω⟩ (aC (by rw[xB];omega) (hr _ (G.mono ω (G.cat hI (G.two (m:=2) (G3 ha hx.2.1 (fQ _)) (G3 hd hx.2.1 hx.2.2.1) (aG 2)))))))))) λ_=>h1)) λ_=>ω
 ·exact aw (λ_=>ω) λ_=>an (G.mono ω hI)
theorem aaD(N:Nat)(hN:5000000≤N){c:ae}{b:aq}{m:Nat}(h2:200≤m)(hm:m≤1000)(hc:G m aA c)(hb:G m aK b)(a:Int):Ok (λr=>G m aK r.1) (mF N c b a):=by
 unfold mF mF.b
 refine bA (dG N hN ω hb) (bt (λ_=>an G.iJ) λhB=>af (qk N ω ω hb _) λ_ _=>ok_eq (λ_=>an G.iJ) λ_=> ?_)
 have hal:b.2.1.length≤24:=by
  unfold dx at hB
  have h1:=(cN.1 (cN.1 hB).2).1
  unfold pq at h1
  exact ND (cN.1 (cN.1 h1).2).1
 refine bc (len:=b.2.1.length) (F:=λn i (z:au×bE)=>mF.l8 N n a c b (cm,(c8,(bH,(bH,(dC,(dP,())))))) z.1 z.2 i) (s:=(_,_)) (λi z=>L3 (2*m*i) z.1∧jL (4*i) z.2) ⟨G.nil,jL.nil⟩ ω (λn i z hi hI hr=> ?_) (λn z hI=> ?_)
 all_goals unfold mF.l8 mF.xR
 ·obtain⟨h5,h6⟩:=hI
  have h7:=h5.1
  have h8:=h6.1
  have Xk:2*m*i≤2*m*24:=lD _ ω
  have hms:2*m*(i+1)=2*m*i+2*m:=qy _ _
  have hx:G m ej (b.2.1.getD (i:Int).toNat aV):=G.at hb.2.1 _
  have hj: ∀p:bE,jL (4*i+2) p→Ok (λr=>G m aK r.1) (mF.AU N (mF.l8 N n) a c b (cm,(c8,(bH,(bH,(dC,(dP,())))))) z.1 p (i:Int) (b.2.1.getD (i:Int).toNat aV)):=λp hp=>by
   have G4:=hp.1
   unfold mF.AU mF.uI
   rw[ax (x:=(i:Int)+1) ω ω,ag i]
   exact af (tB N ω ω hb _) λg hg=>aw (λ_=>af (bp N ω hg) λv hv=>af (qj N ω ω hv) λv hv=>af (sy N ω _ _ _ _ (Bg.mono hv ω)) λu hu=>aC (by have:=hu.1;omega) (af (Xl N ω ω hb.2.2.2.1 hx.1 bJ) λs hs=>aC (by have:=hs.1;omega) (hr (_,_) ⟨G.mono ω (G.cat h5 hs),jL.mono (jL.app hp hu) ω⟩))) λ_=>af (Xl N ω ω hb.2.2.2.1 hx.1 bJ) λs hs=>aC (by have:=hs.1;omega) (hr (_,_) ⟨G.mono ω (G.cat h5 hs),jL.mono hp ω⟩)
  rw[ax (x:=(i:Int)+1) ω ω,ag i]
  exact aw (λ_=>aB ⟨ω,ω⟩ (bx (λ_=>hr z ⟨G.mono ω h5,jL.mono h6 ω⟩) λ_=>ok_eq (λ_=>af (I2 N hN ω hc hb _) λq hq=>af (bp N ω hq) λv hv=>af (sy N ω _ _ _ _ (Bg.mono hv ω)) λu hu=>aC (by have:=hu.1;omega) (hj _ (jL.mono (jL.app h6 hu) ω))) λ_=>hj _ (jL.mono h6 ω))) λ_=>ω
 ·obtain⟨h5,h6⟩:=hI
  have Xk:2*m*b.2.1.length≤2*m*24:=lD _ ω
  exact aw (λ_=>ω) λ_=>af (sx N ω h2 ω hb (G.mono ω h5) (jL.mono h6 ω)) λr hr=>an hr
abbrev GS(m:Nat)(s:aQ):Prop:=G m dr s
abbrev SR(m:Nat)(r:aQ×db):Prop:=GS m r.1
theorem KC(N:Nat)(e:Int):Ok (λ_=>True) (fm N e):=by
 unfold fm;exact eW
theorem Ud(N:Nat)(hN:5000000≤N){c:ae}{s:aQ}{e:gJ}{m:Nat}(h2:200≤m)(hm:m≤1000)(hc:G m aA c)(hs:GS m s)(he:G 0 kO e):Ok (SR m) (ny N c s e):=by
 have hhl:=hs.2.2.2.1.2.2.2.2.1.1
 unfold ny ny.b
 generalize ((0:Int),((0:Int),_))=S0
 refine bc (len:=s.2.2.2.1.2.2.2.2.1.length) (F:=λn i (z:aQ×aM×Bool×Int)=>ny.l5 N n c z.1 e S0 bl z.2.1 z.2.2.1 z.2.2.2 i) (s:=(_,(_,(_,_)))) (λi z=>GS m z.1∧z.1.2.2.2.1.2.2.2.2.1=s.2.2.2.1.2.2.2.2.1∧G i (.slice ej) z.2.1) ⟨hs,rfl,G.nil⟩ ω (λn i z hi hI hr=> ?_) (λn z hI=> ?_)
 all_goals unfold ny.l5 ny.dV
 ·obtain⟨hz,hh,ho⟩:=hI
  have HX:=ho.1
  rw[hh,ax (x:=(i:Int)+1) ω ω,ag i]
  have hx:G 0 ej (s.2.2.2.1.2.2.2.2.1.getD (i:Int).toNat aV):=G.at hs.2.2.2.1.2.2.2.2.1 _
  refine aw (λ_=>aB ⟨ω,ω⟩ (ok_eq (λ_=>af (R7 N hN h2 ω hc hz.2.2.1 (G.mono (bo m) hx) he.2.2.1 he.2.2.2.2.2.2.1 he.2.2.2.2.2.2.2.1) λr ⟨zX,yv⟩=>bx (λ_=>af (KC N _) λ_ _=>an hz) λ_=> ?_) λ_=>aw (λ_=>aC (by rw[aI];omega) (hr (z.1,(z.2.1++[s.2.2.2.1.2.2.2.2.1.getD (i:Int).toNat aV],z.2.2)) ⟨hz,hh,G.cat ho (G.one hx (aG 1))⟩)) λ_=>hr z ⟨hz,hh,G.mono ω ho⟩)) λ_=>ω
  have CY:GS m (z.1.1,(z.1.2.1,(r.1,z.1.2.2.2))):=⟨hz.1,hz.2.1,zX,hz.2.2.2⟩
  have ahW:G 0 ej r.2.1:=yv
  exact aw (λ_=>aC (by rw[aI];omega) (hr ((z.1.1,(z.1.2.1,(r.1,z.1.2.2.2))),(z.2.1++[r.2.1],(true,r.2.1.2.2.2.1))) ⟨CY,hh,G.cat ho (G.one ahW (aG 1))⟩)) λ_=>hr ((z.1.1,(z.1.2.1,(r.1,z.1.2.2.2))),(z.2.1,(true,r.2.1.2.2.2.1))) ⟨CY,hh,G.mono ω ho⟩
 ·obtain⟨hz,hh,ho⟩:=hI
  rw[hh]
  exact aw (λ_=>ω) λ_=>bt (λ_=>af (KC N _) λ_ _=>an hz) λ_=>an ⟨hz.1,hz.2.1,hz.2.2.1,⟨hz.2.2.2.1.1,hz.2.2.2.1.2.1,hz.2.2.2.1.2.2.1,hz.2.2.2.1.2.2.2.1,G.mono hhl ho,hz.2.2.2.1.2.2.2.2.2⟩,hz.2.2.2.2⟩
end VM
end
section
namespace VM
open Go VM.F
theorem tD(N:Nat)(hN:4000000≤N){s:aQ}{q:Int}(hs:aE s.1)(hq:aE q):Ok (λr=>aE r.1) (Ue N s q):=by
 unfold Ue
 exact af (bp N hN hs) λa ha=>af (bp N hN hq) λb hb=>af (kI N hN ω ha hb) λx hx=>af (wP N hx) λv hv=>an hv
theorem c6{α:Type}{P:α×db→Prop}{N:Nat}{e:Int}{f:db→Option (α×db)}(h: ∀r,Ok P (f r)):Ok P ((fm N e).bind f):=af (KC N e) λr _=>h r
theorem Xm(N:Nat)(hN:5000000≤N){c:ae}{s:aQ}{e:gJ}{m:Nat}(h2:200≤m)(hm:m≤999)(hc:G 5 aA c)(hs:GS m s)(he:G 0 kO e):Ok (SR (m+1)) (nz N c s e):=by
 have DF:G m aA c:=G.mono ω hc
 have Re:GS (m+1) s:=G.mono ω hs
 obtain⟨s1,s2,s3,⟨k1,k2,k3,k4,k5,k6,k7,k8,k9,Uf,Xn⟩,s5⟩:=Re
 have hk:=hs.2.2.2.1
 have i2:aE 2:=bk
 have i3:aE 3:=bk
 have up: ∀{τ:Ty} {x:τ.den},G m τ x→G (m+1) τ x:=λh=>G.mono ω h
 have bZ: ∀r:db,Ok (SR (m+1)) (some (s,r)):=λr=>an (up hs)
 unfold nz nz.b
 refine ok_eq (λ_=> ?_) λ_=>ok_eq (λ_=> ?_) λ_=>ok_eq (λ_=> ?_) λ_=>ok_eq (λ_=> ?_) λ_=>ok_eq (λ_=> ?_) λ_=>ok_eq (λ_=> ?_) λ_=>ok_eq (λ_=> ?_) λ_=>ok_eq (λ_=> ?_) λ_=>c6 λr=>bZ r
 ·exact af (aav N hN ω DF hs.2.2.1 _ he.2.1 _) λr hr=>c6 λ_=>an ⟨s1,s2,up hr,(up hs).2.2.2⟩
 ·exact af (aaD N hN h2 ω DF hs.2.2.1 _) λr hr=>c6 λ_=>an ⟨s1,s2,up hr,⟨k1,i2,bJ,k4,k5,k6,k7,k8,k9,Uf,Xn⟩,s5⟩
 ·exact af (TS N hN c hc.2.2.2.2.2.2.1 ω hs.2.2.1 _) λr hr=>an ⟨s1,fQ _,s3,⟨k1,k2,k3,k4,G.mono ω hr,k6,k7,k8,k9,Uf,Xn⟩,s5⟩
 ·exact af (Ud N hN h2 ω DF hs he) λr hr=>an (up hr)
 ·exact ok_eq (λ_=>c6 λr=>bZ r) λ_=>af (aax N hN h2 ω DF hs.2.2.1 hs.2.1) λl hl=>bx (λ_=>c6 λr=>bZ r) λ_=>af (tD N ω hs.1 hc.2.2.2.2.1) λt ht=>bt (λ_=>c6 λr=>bZ r) λ_=>af (R8 N hN c ω hs.2.2.1) λu hu=>an ⟨s1,fQ _,s3,⟨k1,i3,ht,fQ _,G.nil,up hl,G.nil,up hu,k9,Uf,Xn⟩,s5⟩
 ·have hx:G 0 ej (s.2.1,(e.2.2.2.2.2.1,(e.2.1,(e.2.2.2.2.2.2.2.1,())))):=⟨hs.2.1,he.2.2.2.2.2.1,he.2.1,he.2.2.2.2.2.2.2.1,trivial⟩
  exact af (IY N hN ω ω DF hs.2.2.1 hk.2.2.2.2.2.1 hk.2.2.2.2.2.2.1 hx) λr hr=>an ⟨s1,fQ _,s3,⟨k1,k2,k3,k4,k5,k6,hr,k8,k9,Uf,Xn⟩,s5⟩
 ·refine af (NC N hN c h2 ω hs.2.2.1 hk.2.2.2.2.2.1 hk.2.2.2.2.2.2.1) λr ⟨zX,yv⟩=>bx (λ_=>c6 λr=>bZ r) λ_=>af (NA N ω c h2 ω hk.2.2.2.2.2.2.2.2.1 hk.2.2.2.2.2.2.2.1.1 yv hk.2.2.2.2.2.2.1) λd hd=> ?_
  generalize ((0:Int),((0:Int),_))=S0
  have HM:=yv.1
  refine bc (len:=r.2.1.length) (F:=λn i q=>nz.l41 N n _ S0 bl r.2.1 q i) (λ_ _=>True) trivial ω (λn i q hi _ eJ=> ?_) (λn q _=> ?_)
  all_goals unfold nz.l41 nz.aaE
  ·rw[ax (x:=(i:Int)+1) ω ω,ag i]
   exact aw (λ_=>aB ⟨ω,ω⟩ (ok_eq (λ_=>eJ _ trivial) λ_=>eJ _ trivial)) λ_=>ω
  ·exact aw (λ_=>ω) λ_=>an ⟨s1,s2,up zX,⟨k1,i2,bJ,k4,k5,up yv,k7,k8,up hd,Uf,Xn⟩,s5⟩
 ·exact af (I1 N hN h2 ω DF hs.2.2.1 hk.2.2.2.2.2.2.2.2.1 hk.2.2.2.2.2.2.2.2.2.1 hk.1) λr ⟨zX,yv⟩=>bx (λ_=>c6 λr=>bZ r) λ_=>af (Sd N hN h2 ω hc zX) λb hb=>bx (λ_=>c6 λr=>bZ r) λ_=>af (Kx N ω ω hb.1 _ _) λu hu=>an ⟨s1,s2,⟨up hu,(up hb).2⟩,G.zero (m+1) rr,up yv,trivial⟩
end VM
end
section
namespace VM
open Go VM.F
theorem NF(N:Nat)(s:aQ)(k:Int):Ok (λ_=>True) (aaF N s k):=by
 unfold aaF
 repeat' first|exact eW|refine ok_eq (λ_=> ?_) (λ_=> ?_)
theorem oi(N:Nat)(hN:200000≤N){s:aQ}{m:Nat}(hm:m≤50000)(hs:GS m s)(k:Int):Ok (λ_=>True) (F1 N s k):=by
 unfold F1
 exact af (oh N hN hm hs.2.2.1.1 _) λ_ _=>eW
theorem Xo(N:Nat)(hN:200000≤N){s:aQ}{m:Nat}(hm:m≤50000)(hs:GS m s)(k:Int):Ok (λ_=>True) (Qy N s k):=by
 unfold Qy
 exact af (xA N hN hm hs.2.2.1.2.1 _) λ_ _=>eW
theorem aaG(N:Nat)(hN:4000000≤N){s:aQ}{m:Nat}(h2:200≤m)(hm:m≤50000)(hs:GS m s)(a b c d:Int){q:Int}(hq:aE q):Ok (SR m) (NG N s a b c d q):=by
 unfold NG
 exact af (bp N hN hq) λx hx=>af (sy N hN _ _ _ _ (Bg.mono hx ω)) λp hp=>af (sx N hN h2 hm hs.2.2.1 G.nil (jL.mono hp ω)) λr hr=>an ⟨hs.1,hs.2.1,hr,hs.2.2.2⟩
theorem Xp(N:Nat)(hN:5000000≤N){c:ae}{s:aQ}{e:gJ}{m:Nat}(h2:200≤m)(hm:m≤999)(hc:G 5 aA c)(hs:GS m s)(he:G 0 kO e):Ok (SR (m+1)) (pE N c s e):=by
 obtain⟨s1,s2,s3,⟨k1,k2,k3,k4,k5,k6,k7,k8,k9,Uf,Xn⟩,s5⟩:=hs
 have hs:GS m s:=⟨s1,s2,s3,⟨k1,k2,k3,k4,k5,k6,k7,k8,k9,Uf,Xn⟩,s5⟩
 have up: ∀{x:aQ},GS m x→ ∀r:db,Ok (SR (m+1)) (some (x,r)):=λh r=>an (P:=SR (m+1)) (G.mono (qz m) h)
 have i1:aE 1:=bk
 have us: ∀{τ:Ty} {x:τ.den},G m τ x→G (m+1) τ x:=λh=>G.mono ω h
 unfold pE pE.b
 have hj: ∀(S0:aQ) (z:db),Ok (SR (m+1)) (pE.T7 N c s e S0 z):=λS0 z=>by
  unfold pE.T7 pE.Nz
  exact af (NF N _ _) λ_ _=>bt (λ_=>c6 λr=>up hs r) λ_=>af (Xm N hN h2 hm hc hs he) λr hr=>an hr
 have mem: ∀{x:aD},G m (.slice js) x→G m aK ((x,s.2.2.1.2):aq):=λh=>⟨h,s3.2⟩
 have hd: ∀z:aD×Int,G m (.slice js) z.1→Ok (SR (m+1)) (cond (aO z.2 0) (cond (aO e.1 11) ((Ky N c (z.1,s.2.2.1.2) e.2.1).bind λr2=>cond (aO s.2.2.2.1.2.1 3) ((o4 N s.2.2.2.1.2.2.2.2.2.2.1 e.2.1).bind λr3=>(fm N z.2).bind λr4=>some ((s.1,(s.2.1,(r2.1,((s.2.2.2.1.1,(s.2.2.2.1.2.1,(s.2.2.2.1.2.2.1,(s.2.2.2.1.2.2.2.1,(s.2.2.2.1.2.2.2.2.1,(s.2.2.2.1.2.2.2.2.2.1,(r3,s.2.2.2.1.2.2.2.2.2.2.2))))))),s.2.2.2.2)))),r4)) ((fm N z.2).bind λr5=>some ((s.1,(s.2.1,(r2.1,s.2.2.2))),r5))) ((fm N z.2).bind λr6=>some ((s.1,(s.2.1,((z.1,s.2.2.1.2),s.2.2.2))),r6))) ((fm N z.2).bind λr7=>some ((s.1,(s.2.1,((z.1,s.2.2.1.2),s.2.2.2))),r7))):=λz hz=>
  ok_eq (λ_=>ok_eq (λ_=>af (Nt N hN c ω (mem hz) _) λb hb=>ok_eq (λ_=>af (CG N ω ω k7 _) λl hl=>c6 λr=>an ⟨s1,s2,us hb,⟨k1,k2,k3,k4,us k5,us k6,us hl,us k8,us k9,us Uf,trivial⟩,us s5⟩) λ_=>c6 λr=>an ⟨s1,s2,us hb,(us hs).2.2.2⟩) λ_=>c6 λr=>an ⟨s1,s2,us (mem hz),(us hs).2.2.2⟩) λ_=>c6 λr=>an ⟨s1,s2,us (mem hz),(us hs).2.2.2⟩
 have GW:=λk:Int=>Kx N ω (m:=m) ω s3.1 e.2.1 k
 refine ok_eq (λ_=>af (GW _) λz hz=>hd z hz) λ_=>ok_eq (λ_=>af (GW _) λz hz=>hd z hz) λ_=>ok_eq (λ_=> ?_) λ_=>ok_eq (λ_=> ?_) λ_=>hj _ _
 ·exact af (oi N ω ω hs _) λ_ _=>ok_eq (λ_=>c6 λr=>up hs r) λ_=>bx (λ_=>c6 λr=>up hs r) λ_=>af (GW _) λz hz=>bx (λ_=>c6 λr=>an ⟨s1,s2,us (mem hz),(us hs).2.2.2⟩) λ_=>af (tD N ω s1 hc.2.2.2.1) λt ht=>bt (λ_=>c6 λr=>an ⟨s1,s2,us (mem hz),(us hs).2.2.2⟩) λ_=>an ⟨s1,s2,us (mem hz),⟨he.2.1,i1,ht,bJ,G.nil,G.nil,G.nil,G.nil,G.nil,G.nil,trivial⟩,us s5⟩
 ·exact af (oi N ω ω hs _) λ_ _=>ok_eq (λ_=>c6 λr=>up hs r) λ_=>af (oi N ω ω hs _) λ_ _=>bx (λ_=>c6 λr=>up hs r) λ_=>hj _ _
theorem aaH(N:Nat)(hN:5000000≤N){c:ae}{s:aQ}{e:gJ}{m:Nat}(h2:200≤m)(hm:m≤999)(hc:G 5 aA c)(hs:GS m s)(he:G 0 kO e):Ok (SR (m+1)) (Ug N c s e):=by
 have DF:G m aA c:=G.mono ω hc
 obtain⟨s1,s2,s3,⟨k1,k2,k3,k4,k5,k6,k7,k8,k9,Uf,Xn⟩,s5⟩:=hs
 have hs:GS m s:=⟨s1,s2,s3,⟨k1,k2,k3,k4,k5,k6,k7,k8,k9,Uf,Xn⟩,s5⟩
 have us: ∀{τ:Ty} {x:τ.den},G m τ x→G (m+1) τ x:=λh=>G.mono ω h
 have Re:=us hs
 have up: ∀{x:aQ},GS m x→ ∀r:db,Ok (SR (m+1)) (some (x,r)):=λh r=>an (P:=SR (m+1)) (G.mono (qz m) h)
 have st:=λk:Int=>oi N ω (m:=m) ω hs k
 have hp:=λa b c d=>aaG N ω h2 ω hs a b c d he.2.2.2.2.2.2.1
 have Uh:=he.2.2.2.2.2.2.1
 unfold Ug
 refine ok_eq (λ_=> ?_) λ_=>ok_eq (λ_=> ?_) λ_=>ok_eq (λ_=> ?_) λ_=>ok_eq (λ_=> ?_) λ_=>ok_eq (λ_=> ?_) λ_=>ok_eq (λ_=> ?_) λ_=>ok_eq (λ_=> ?_) λ_=>ok_eq (λ_=> ?_) λ_=>ok_eq (λ_=> ?_) λ_=>ok_eq (λ_=> ?_) λ_=>ok_eq (λ_=> ?_) λ_=>af (Xp N hN h2 hm hc hs he) λr hr=>an hr
 ·exact af (W5 N ω ω s3.1 he.2.1) λr hr=>c6 λ_=>an ⟨s1,s2,⟨hr,Re.2.2.1.2⟩,Re.2.2.2⟩
 ·have hx:G 0 ej (e.2.2.1,(e.2.1,(e.2.2.2.2.1,((0:Int),())))):=⟨he.2.2.1,he.2.1,he.2.2.2.2.1,bJ,trivial⟩
  exact af (aar N ω ω s3.1 s3.2.1 hx) λr hr=>c6 λ_=>an ⟨s1,s2,⟨Re.2.2.1.1,hr,Re.2.2.1.2.2⟩,Re.2.2.2⟩
 ·exact af (Xo N ω ω hs _) λ_ _=>bt (λ_=>c6 λr=>up hs r) λ_=>af (hp _ _ _ _) λr hr=>an (us hr)
 ·exact af (Nw N hN h2 ω DF s3 _ Uh) λr hr=>c6 λz=>an ⟨s1,s2,us hr,(us hs).2.2.2⟩
 ·exact af (st _) λ_ _=>ok_eq (λ_=>c6 λr=>up hs r) λ_=>af (st _) λ_ _=>bx (λ_=>c6 λr=>up hs r) λ_=>af (hp _ _ _ _) λr hr=>an (us hr)
 ·exact af (st _) λ_ _=>ok_eq (λ_=>c6 λr=>up hs r) λ_=>af (lY N ω ω s3.2.2.1 _ _) λg hg=>af (bp N ω hg) λx hx=>af (qj N ω ω hx) λx hx=>af (bp N ω Uh) λy hy=>af (pz N ω ω ω hy hx) λ_ _=>aw (λ_=>c6 λr=>up hs r) λ_=>af (hp _ _ _ _) λr hr=>an (us hr)
 ·exact af (W6 N ω ω s3.2.1 Uh) λr hr=>c6 λz=>an ⟨s1,s2,⟨us s3.1,us hr,(us s3).2.2⟩,(us hs).2.2.2⟩
 ·have hx:G 0 mJ (s.2.1,(e.2.2.1,(e.2.2.2.1,(e.2.2.2.2.1,(e.2.2.2.2.2.2.1,(e.2.2.2.2.2.2.2.1,())))))):=⟨s2,he.2.2.1,he.2.2.2.1,he.2.2.2.2.1,Uh,he.2.2.2.2.2.2.2.1,trivial⟩
  exact af (Xa N hN h2 ω DF s3 hx) λr hr=>an ⟨s1,fQ _,hr,Re.2.2.2⟩
 ·exact af (Xo N ω ω hs _) λ_ _=>bt (λ_=>c6 λr=>up hs r) λ_=>af (TY N ω ω s3.2.2.2.2.2.1 _ _) λr hr=>c6 λz=>an ⟨s1,s2,⟨us s3.1,us s3.2.1,us s3.2.2.1,us s3.2.2.2.1,us s3.2.2.2.2.1,us hr,trivial⟩,(us hs).2.2.2⟩
 ·exact af (CH N hN c h2 ω s3 _ he.2.2.2.2.2.2.2.1) λr ⟨zX,yv⟩=>ok_eq (λ_=>bx (λ_=>af (Nv N ω h2 ω Uf yv) λg hg=>c6 λz=>an ⟨s1,s2,us zX,⟨k1,k2,k3,k4,us k5,us k6,us k7,us k8,us k9,us hg,trivial⟩,us s5⟩) λ_=>c6 λz=>an ⟨s1,s2,us zX,(us hs).2.2.2⟩) λ_=>c6 λz=>an ⟨s1,s2,us zX,(us hs).2.2.2⟩
 ·exact af (tD N ω s1 Uh) λt ht=>bt (λ_=>c6 λr=>up hs r) λ_=>an ⟨ht,(us hs).2⟩
theorem Sf(N:Nat)(hN:5000000≤N){c:ae}{s:aQ}{e:gJ}{m:Nat}(h2:200≤m)(hm:m≤999)(hc:G 5 aA c)(hs:GS m s)(he:G 0 kO e):Ok (SR (m+1)) (Qz N c s e):=by
 have bZ: ∀r:db,Ok (SR (m+1)) (some (s,r)):=λr=>an (P:=SR (m+1)) (G.mono (qz m) hs)
 unfold Qz
 exact bA (m4 N ω c) (bt (λ_=>bZ _) λ_=>af (IW N ω e) λ_ _=>bt (λ_=>bZ _) λ_=>af (aaH N hN h2 hm hc hs he) λr hr=>bx (λ_=>bZ _) λ_=>an hr)
end VM
end
section
namespace VM
open Go VM.F Go.RowKit
theorem aaI{l:List Int}(h:WF (.slice (.int .u64)) l):Dk 0 ((l,((0:Int),())):aL):=⟨λx hx=>by
 obtain⟨i,hi,rfl⟩:=gd hx
 have h3:0≤l[i]∧l[i]≤18446744073709551615:=wf_u64.1 (h.2 i hi)
 exact⟨h3.1,qq h3.2 δ⟩,fE 0,fE 0⟩
namespace Pure
end Pure
end VM
end
section
namespace VM
open Go VM.F Go.RowKit
theorem ru{α:Type}{l:List α}{d:α}{i:Nat}(h:i<l.length):l.getD i d∈l:=by
 rw[aU,bm h];exact dz h
namespace Pure
end Pure
end VM
end
section
namespace VM
open Go VM.F Go.RowKit
theorem wT{P:Int→Prop} [DecidablePred P]{f:Int→Int→Int}: ∀{K:List cU} {o:au},dW P f K=some o→(o.map keyOf).Sublist K∧(∀x∈o,dZ x=f x.1 x.2.1∧dZ x≠0∧P (dZ x))∧(∀k∈K,P (f k.1 k.2))∧ ∀a b,gl a b o=if(a,b)∈K then f a b else 0
 |[],o,h=>by
  have e:[]=o:=mQ h
  subst e
  exact⟨List.Sublist.refl _,λx hx=>(nomatch hx),λk hk=>(nomatch hk),λa b=>by rw[ah (λh=>nomatch h)];rfl⟩
 |k::t,o,h=>by
  rw[kH]at h
  by_cases hp:P (f k.1 k.2)
  ·rw[aj hp]at h
   cases ho:dW P f t with
   |none=>rw[ho]at h;exact nomatch h
   |some o'=>
    rw[ho]at h
    have e:(if f k.1 k.2=0 then o' else(k.1,(k.2,(f k.1 k.2,())))::o')=o:=mQ h
    obtain⟨s,g,gp,gf⟩:=wT ho
    have kW: ∀k'∈k::t,P (f k'.1 k'.2):=λk' hk=>by
     rcases aX.1 hk with rfl|hk
     ·exact hp
     ·exact gp k' hk
    by_cases h0:f k.1 k.2=0
    ·rw[aj h0]at e
     subst e
     refine⟨s.cons _,g,kW,λa b=> ?_⟩
     rw[gf a b]
     by_cases hk:(a,b)=k
     ·subst hk
      rw[aj (bn ..)]
      dsimp only at h0
      rw[h0];split<;>rfl
     ·by_cases ht:(a,b)∈t
      ·rw[aj ht,aj (a6 _ ht)]
      ·rw[ah ht,ah (λh=>(aX.1 h).elim hk ht)]
    ·rw[ah h0]at e
     subst e
     refine⟨s.cons_cons _,λx hx=> ?_,kW,λa b=> ?_⟩
     ·rcases aX.1 hx with rfl|hx
      ·exact⟨rfl,h0,hp⟩
      ·exact g x hx
     ·rw[gS]
      dsimp only
      rw[gf a b]
      by_cases h1:k.1=a
      ·by_cases h2:k.2=b
       ·have hk:(a,b)=k:=by rw[←h1,←h2]
        rw[aj h1,aj h2,aj (by rw[hk];exact bn ..),h1,h2]
       ·have hk:(a,b)≠k:=λe=>h2 (by rw[←e])
        rw[aj h1,ah h2]
        by_cases ht:(a,b)∈t
        ·rw[aj ht,aj (a6 _ ht)]
        ·rw[ah ht,ah (λh=>(aX.1 h).elim hk ht)]
      ·have hk:(a,b)≠k:=λe=>h1 (by rw[←e])
       rw[ah h1]
       by_cases ht:(a,b)∈t
       ·rw[aj ht,aj (a6 _ ht)]
       ·rw[ah ht,ah (λh=>(aX.1 h).elim hk ht)]
  ·rw[ah hp]at h;exact nomatch h
theorem Xq{l:au}(hs:sJ (l.map keyOf)){j:Nat}(hj:j<l.length)(h0:0<j):sI (keyOf (l.getD (j-1) bl)) (keyOf (l.getD j bl)):=by
 have:=tL.1 (zj.1 hs) (j-1) j ω hj ω
 rw[aU,aU,bm hj,bm (show j-1<l.length by omega)]
 exact this
theorem QA{l:au}(hs:sJ (l.map keyOf))(h: ∀x∈l,bI x.1 x.2.1∧dZ x≠0∧pU (dZ x)):cZ l=true:=by
 unfold cZ
 rw[gg]
 refine bs λj hj=> ?_
 obtain⟨a,b,c⟩:=h _ (ru (d:=bl) hj)
 exact⟨a,b,c,λh0=>Xq hs hj h0⟩
theorem Ui{l:au}(hs:sJ (l.map keyOf))(h: ∀x∈l,cQ x.1 x.2.1∧dZ x≠0):ei l=true:=by
 unfold ei
 rw[gg]
 refine bs λj hj=> ?_
 obtain⟨a,b⟩:=h _ (ru (d:=bl) hj)
 exact⟨a,b,λh0=>Xq hs hj h0⟩
theorem ry{a b:Int}:(a,b)∈jr↔bI a b:=by
 unfold jr bI
 rw[n7];dsimp only;omega
theorem QB(b:aq)(s e:au):((eI b s e).2=2∧(eI b s e).1=(cm,(c8,(bH,(bH,(dC,(dP,())))))))∨ ∃s' r',dW Fq (fS b.2.2.2.1 s) jr=some s'∧dW aE (fS b.2.2.1 e) ni=some r'∧eI b s e=((b.1,(b.2.1,(r',(s',b.2.2.2.2)))),0):=by
 unfold eI
 cases h1:dW Fq (fS b.2.2.2.1 s) jr with
 |none=>exact .inl ⟨rfl,rfl⟩
 |some s'=>
  cases h2:dW aE (fS b.2.2.1 e) ni with
  |none=>exact .inl ⟨rfl,rfl⟩
  |some r'=>exact .inr ⟨s',r',rfl,rfl,rfl⟩
theorem QC{l E o:au}(hs:cZ l=true)(h:dW Fq (fS l E) jr=some o):cZ o=true∧(∀a b,bI a b→fx o a b=fx l a b+cg a b E∧Fq (fx o a b)):=by
 obtain⟨h1,h2,h3,h4⟩:=wT h
 have hso:sJ (o.map keyOf):=vt h1 (oa 6 25 0)
 have ho:cZ o=true:=QA hso λx hx=>by
  have hk:(x.1,x.2.1)∈jr:=h1.subset (eO (f:=keyOf) hx)
  obtain⟨_,g1,g2⟩:=h2 x hx
  exact⟨ry.1 hk,g1,g2.2⟩
 refine⟨ho,λa b hp=> ?_⟩
 have e:fx o a b=fS l E a b:=by
  unfold fx
  rw[ho,aj rfl,h4 a b,aj (ry.2 hp)]
 refine⟨?_,by rw[e];exact h3 _ (ry.2 hp)⟩
 rw[e]
 unfold fS fx
 rw[hs,aj rfl,tx (eG hs).1]
theorem DW{a b:Int}{l:au}(h:cg a b l≠0): ∃x∈l,x.1=a∧x.2.1=b:=
 Lp λhn=>h (ke λx hx e=>hn ⟨x,hx,e⟩)
theorem aaJ{l E o:au}(hs:ei l=true)(hE: ∀x∈E,cQ x.1 x.2.1)(h:dW aE (fS l E) ni=some o):ei o=true∧(∀a b,cQ a b→gT o a b=gT l a b+cg a b E∧aE (gT o a b)):=by
 obtain⟨h1,h2,h3,h4⟩:=wT h
 obtain⟨hl,sF⟩:=ob hs
 have hso:sJ (o.map keyOf):=vt h1 (oa 25 7 1)
 have ho:ei o=true:=Ui hso λx hx=>by
  obtain⟨g0,g1,g2⟩:=h2 x hx
  refine⟨?_,g1⟩
  rw[g0]at g1
  unfold fS at g1
  by_cases hz:cg x.1 x.2.1 l=0
  ·rw[hz,vG]at g1
   obtain⟨y,hy,e1,e2⟩:=DW g1
   rw[←e1,←e2];exact hE y hy
  ·obtain⟨y,hy,e1,e2⟩:=DW hz
   rw[←e1,←e2];exact sF y hy
 refine⟨ho,λa b hk=> ?_⟩
 have hg:(a,b)∈ni:=by
  unfold ni
  rw[n7]
  unfold cQ at hk
  dsimp only;omega
 have e:gT o a b=fS l E a b:=by
  unfold gT
  rw[ho,aj rfl,h4 a b,aj hg]
 refine⟨?_,by rw[e];exact h3 _ hg⟩
 rw[e]
 unfold fS gT
 rw[hs,aj rfl,tx hl]
end VM
end
section
namespace VM
open Go VM.F Go.RowKit
namespace Pure
end Pure
end VM
end
section
namespace VM
open Go VM.F Go.RowKit
namespace Pure
end Pure
end VM
end
section
namespace VM
open Go VM.F Go.RowKit
def HB(p:cU→Bool):au→Int
 |[]=>0
 |x::t=>(if p (keyOf x)=true then dZ x else 0)+HB p t
def F2(p:cU→Bool)(f:Int→Int→Int):List cU→Int
 |[]=>0
 |k::t=>(if p k=true then f k.1 k.2 else 0)+F2 p f t
theorem BF(p:cU→Bool)(x:db)(t:au):HB p (x::t)=(if p (keyOf x)=true then dZ x else 0)+HB p t:=rfl
theorem ql(p:cU→Bool)(f:Int→Int→Int)(k:cU)(t:List cU):F2 p f (k::t)=(if p k=true then f k.1 k.2 else 0)+F2 p f t:=rfl
theorem I3{P:Int→Prop} [DecidablePred P]{f:Int→Int→Int}(p:cU→Bool): ∀{K:List cU} {o:au},dW P f K=some o→HB p o=F2 p f K
 |[],o,h=>by
  have e:[]=o:=mQ h
  subst e;rfl
 |k::t,o,h=>by
  rw[kH]at h
  by_cases hp:P (f k.1 k.2)
  ·rw[aj hp]at h
   cases ho:dW P f t with
   |none=>rw[ho]at h;exact nomatch h
   |some o'=>
    rw[ho]at h
    have e:(if f k.1 k.2=0 then o' else(k.1,(k.2,(f k.1 k.2,())))::o')=o:=mQ h
    rw[ql,←I3 p ho]
    by_cases h0:f k.1 k.2=0
    ·rw[aj h0]at e
     rw[←e,h0]
     split<;>omega
    ·rw[ah h0]at e
     rw[←e];rfl
  ·rw[ah hp]at h;exact nomatch h
theorem F4(p:cU→Bool)(f g:Int→Int→Int): ∀K:List cU,F2 p (λa b=>f a b+g a b) K=F2 p f K+F2 p g K
 |[]=>rfl
 |k::t=>by
  rw[ql,ql,ql,F4 p f g t]
  split<;>omega
theorem BG{p:cU→Bool}{f:Int→Int→Int}: ∀{K:List cU},(∀k∈K,f k.1 k.2=0)→F2 p f K=0
 |[],_=>rfl
 |k::t,h=>by
  rw[ql,h k (bn ..),BG λx hx=>h x (a6 _ hx)]
  split<;>rfl
theorem NH(p:cU→Bool)(k:cU)(v:Int): ∀{K:List cU},sJ K→k∈K→F2 p (λa b=>if k.1=a∧k.2=b then v else 0) K=if p k=true then v else 0
 |[],_,h=>nomatch h
 |x::t,hs,h=>by
  obtain⟨h1,h2⟩:=eo.1 hs
  rw[ql]
  by_cases e:k=x
  ·subst e
   have hz:F2 p (λa b=>if k.1=a∧k.2=b then v else 0) t=0:=BG λy hy=>ah λe=>by
    have:=h1 y hy
    rw[show y=k from ix e.1.symm e.2.symm]at this
    exact oz this
   rw[aj (show k.1=k.1∧k.2=k.2 from⟨rfl,rfl⟩),hz,kz]
  ·rw[ah (show ¬(k.1=x.1∧k.2=x.2)from λh=>e (ix h.1 h.2)),NH p k v h2 ((aX.1 h).elim (λh=>absurd h e) id)]
   split<;>omega
theorem F5(p:cU→Bool){K:List cU}(hs:sJ K): ∀{l:au},(∀x∈l,keyOf x∈K)→F2 p (λa b=>cg a b l) K=HB p l
 |[],_=>BG λ_ _=>rfl
 |x::t,h=>by
  have e:(λa b=>cg a b (x::t))=λa b=>(if(keyOf x).1=a∧(keyOf x).2=b then dZ x else 0)+cg a b t:=by
   funext a b;exact fv a b x t
  rw[e,F4,NH p (keyOf x) (dZ x) hs (h x (bn ..)),F5 p hs λy hy=>h y (a6 _ hy),BF]
theorem F6{P:Int→Prop} [DecidablePred P]{l E o:au}{K:List cU}(p:cU→Bool)(hs:sJ K)(hl: ∀x∈l,keyOf x∈K)(hE: ∀x∈E,keyOf x∈K)(h:dW P (fS l E) K=some o):HB p o=HB p l+HB p E:=by
 rw[I3 p h,←F5 p hs hl,←F5 p hs hE,←F4];rfl
theorem uK: ∀l:au,HB (λ_=>true) l=(l.map dZ).sum
 |[]=>rfl
 |x::t=>by rw[BF,aj rfl,uK t,bU,cy]
theorem xC(i:Int): ∀l:au,HB (λk=>decide (k.2=i)) l=(c5 i l).sum
 |[]=>rfl
 |x::t=>by
  rw[BF,xC i t,df]
  by_cases e:x.2.1=i
  ·rw[aj (bs (show(keyOf x).2=i from e)),aj e,cy]
  ·rw[ah (by rw[cj (show ¬(keyOf x).2=i from e)];exact qp),ah e,vG]
def F7(m:aD)(a:aM)(k n:Int):Prop:=(dw k 5→(e9 a n).2=true)∧(dw k 6∨dw k 7→ ¬dw (fZ m n) 0)
def F8(c:ae)(a:aM)(k n:Int):Prop:=(dw k 0∨(e9 a k).2=true)∧n0 n c.1.length
theorem NI{k n:Int}(h:cQ k n):(k,n)∈ni:=by
 unfold ni
 rw[n7]
 unfold cQ at h
 dsimp only;omega
theorem F9{l E:au}{Q:Int→Int→Prop}(hl: ∀x∈l,Q x.1 x.2.1)(hE: ∀x∈E,Q x.1 x.2.1){a b:Int}(h:fS l E a b≠0):Q a b:=by
 unfold fS at h
 by_cases hz:cg a b l=0
 ·rw[hz,vG]at h
  obtain⟨y,hy,e1,e2⟩:=DW h
  rw[←e1,←e2];exact hE y hy
 ·obtain⟨y,hy,e1,e2⟩:=DW hz
  rw[←e1,←e2];exact hl y hy
theorem KD{c:ae}{b:aq}{s e s' r':au}(hB:dx c b=true)(h1:dW Fq (fS b.2.2.2.1 s) jr=some s')(h2:dW aE (fS b.2.2.1 e) ni=some r')
  (gs: ∀x∈s,bI x.1 x.2.1∧F8 c b.2.1 x.1 x.2.1) (flat: ∀i:Int,(c5 i s).sum=0) (ge: ∀x∈e,cQ x.1 x.2.1∧F7 b.1 b.2.1 x.1 x.2.1) (zero:(e.map dZ).sum=0):
  dx c (b.1,(b.2.1,(r',(s',b.2.2.2.2))))=true:=by
 have hB':=hB
 unfold dx at hB'
 simp only[bP]at hB'
 obtain⟨b1,b2,b3,b4,b5,b6,b7,b8,b9,b10,b11⟩:=hB'
 obtain⟨hr,hs⟩:=gk hB
 obtain⟨o1,_⟩:=QC hs h1
 obtain⟨o2,_⟩:=aaJ hr (λx hx=>(ge x hx).1) h2
 obtain⟨G9,hsk⟩:=eG hs
 obtain⟨HM,hrk⟩:=ob hr
 have k1: ∀x∈b.2.2.2.1,keyOf x∈jr:=λx hx=>ry.2 (hsk x hx).1
 have k2: ∀x∈s,keyOf x∈jr:=λx hx=>ry.2 (gs x hx).1
 have k3: ∀x∈b.2.2.1,keyOf x∈ni:=λx hx=>NI (hrk x hx)
 have k4: ∀x∈e,keyOf x∈ni:=λx hx=>NI (ge x hx).1
 have hp8:=bz b8
 have hp9:=bz b9
 have q8: ∀x∈b.2.2.1,F7 b.1 b.2.1 x.1 x.2.1:=λx hx=>by
  obtain⟨i,hi,e⟩:=gd hx
  have:=hp8 i hi
  unfold jB at this
  rw[aU,bm hi,mO,e]at this
  exact this
 have q9: ∀x∈b.2.2.2.1,F8 c b.2.1 x.1 x.2.1:=λx hx=>by
  obtain⟨i,hi,e⟩:=gd hx
  have:=hp9 i hi
  unfold iX at this
  rw[aU,bm hi,mO,e]at this
  exact this
 have n4:decide (dw (gE r') 0)=true:=by
  refine bs ?_
  unfold gE dw
  rw[o2,aj rfl,←uK,F6 _ (oa 25 7 1) k3 k4 h2,uK,uK,zero,kz]
  have:=bz b4
  unfold gE dw at this
  rw[hr,aj rfl]at this
  exact this
 have n5:nZ s'=true:=by
  unfold nZ at b5 ⊢
  obtain⟨f1,_⟩:=cN.1 b5
  rw[o1,gg]
  refine bs λj hj=> ?_
  have:=bz f1 j hj
  unfold sH dw sm at this ⊢
  rw[hs,aj rfl]at this
  rw[o1,aj rfl,←xC,F6 _ (oa 6 25 0) k1 k2 h1,xC,xC,flat,kz]
  exact this
 have n8:decide (∀j,j<r'.length→jB b.1 b.2.1 r' j)=true:=bs λj hj=>by
  obtain⟨g0,g1,_⟩:=(wT h2).2.1 _ (ru (d:=bl) hj)
  rw[g0]at g1
  exact F9 (Q:=F7 b.1 b.2.1) q8 (λx hx=>(ge x hx).2) g1
 have n9:decide (∀j,j<s'.length→iX c b.2.1 s' j)=true:=bs λj hj=>by
  obtain⟨g0,g1,_⟩:=(wT h1).2.1 _ (ru (d:=bl) hj)
  rw[g0]at g1
  exact F9 (Q:=F8 c b.2.1) q9 (λx hx=>(gs x hx).2) g1
 unfold dx
 simp only[bP]
 exact⟨b1,b2,o2,n4,n5,b6,b7,n8,n9,b10,b11⟩
end VM
end
