/- A part of the proof of WindTwice of layer 21: what the functions compute, in plain words. -/
import Derived.Test.YtecmobijochjkaaGreatPlain4
set_option linter.all false
section
namespace VM
open Go VM.F
theorem F7(N:Nat)(hN:200000≤N){l:bq}(hl:l.length≤100000)(a:Int):Ok (λr=>L3 6 r) (g5 N l a):=by
 unfold g5 g5.b
 refine bg (len:=6) (F:=λn k (s:au)=>g5.l3 N n l a s k) (λk s=>L3 k s) G.nil ω (λn k s hk hI hr=> ?_) (λn s hI=> ?_)
 all_goals unfold g5.l3 g5.nO
 ·have hs:=hI.1
  refine aw (λ_=> ?_) λ_=>ω
  refine bg (len:=l.length) (F:=λn' i (x:db)=>g5.l7 N (g5.l3 N n) n' l a s (k:Int) x i) (λi x=>G 6 jt x) (G3 (iM ω ω) bJ bJ) ω (λn' i x hi hx eO=> ?_) (λn' x hx=> ?_)
  all_goals unfold g5.l7 g5.q4
  ·rw[ax (x:=(i:Int)+1) ω ω,ag i]
   have h1:=eO x hx
   repeat' first|exact h1|refine aB ⟨ω,ω⟩ ?_|refine aw (λ_=> ?_) (λ_=> ?_)|refine bu (λ_=> ?_) (λ_=> ?_)|refine ok_eq (λ_=> ?_) (λ_=> ?_)|(exfalso;omega)|exact eO (_,(_,(_,_))) ⟨hx.1,fT _,hx.2.2.1,trivial⟩|exact eO (_,(_,(_,_))) ⟨hx.1,hx.2.1,fT _,trivial⟩
  ·rw[ax (x:=(k:Int)+1) ω ω,ag k]
   have h1:=hr s (G.mono ω hI)
   have h2:=hr (s++[x]) ⟨by rw[aS,aI];omega,λy hy=>by
    rcases bb.1 hy with hy|hy
    ·exact G.mono ω (hI.2 y hy)
    ·rw[bW.1 hy];exact⟨hx.1,hx.2.1,hx.2.2.1,trivial⟩⟩
   repeat' first|exact h1|exact h2|refine aC (by rw[aI];omega) ?_|refine aw (λ_=> ?_) (λ_=> ?_)|(exfalso;omega)
 ·exact aw (λ_=>ω) λ_=>an hI
theorem Jb(N:Nat)(hN:200000≤N)(c:ae){l:au}(hl:l.length≤100000):Ok (λ_=>True) (qa N c l):=by
 unfold qa qa.b
 refine bA (ni N ω c) (bt (λ_=>an trivial) λ_=>lW (len:=l.length) (F:=λn i=>qa.l5 N n l c 33000000000 i) ω (λn i hi hr=> ?_) λn=> ?_)
 all_goals unfold qa.l5 qa.ei
 ·rw[ax (x:=(i:Int)+1) ω ω,ag i]
  dsimp only
  repeat' first|exact hr|exact an trivial|refine aB ⟨ω,ω⟩ ?_|refine aB (by rw[ax (x:=(i:Int)-1) ω ω];omega) ?_|refine aw (λ_=> ?_) (λ_=> ?_)|refine eg (λ_=> ?_) (λ_=> ?_)|refine ok_eq (λ_=> ?_) (λ_=> ?_)|(exfalso;omega)
 ·exact aw (λ_=>ω) λ_=>an trivial
theorem KL{k:Nat}(h:1≤k):Bg k (false,(([]:List Int),())):=Bg.mono Bg.zero h
theorem Xt(N:Nat)(hN:4000000≤N)(c:ae){l:aD}{o:au}{m:Nat}(hm:m≤50000)(hl:G m (.slice jC) l)(ho:L3 m o)(k:Int):Ok (λr=>Bg 3 r.1) (ji N c l o k):=by
 have h1:=hl.1
 have h2:=ho.1
 unfold ji ji.b
 refine bA (wP N ω c ω) (bt (λ_=>an (KL ω)) λ_=>af (Jb N ω c ω) λ_ _=>bt (λ_=>an (KL ω)) λ_=>aw (λ_=>an (KL ω)) λ_=>eg (λ_=>an (KL ω)) λ_=> ?_)
 refine bg (len:=l.length) (F:=λn i (q:aH)=>ji.l7 N n l o k (false,(([]:List Int),())) q (false,(([]:List Int),())) (false,(([]:List Int),())) i) (λ_ q=>Bg 2 q) (KL ω) ω (λn i q hi hq hr=> ?_) (λn q hq=> ?_)
 all_goals unfold ji.l7 ji.q4
 ·rw[ax (x:=(i:Int)+1) ω ω,ag i]
  exact aw (λ_=>aB ⟨ω,ω⟩ (ok_eq (λ_=>aB ⟨ω,ω⟩ (af (bp N hN (G.at hl _).2.1) λr h=>hr r h)) λ_=>hr q hq)) λ_=>ω
 ·refine aw (λ_=>ω) λ_=> ?_
  refine bg (len:=o.length) (F:=λn i (z:aH×aH)=>ji.p8 N n o k (false,(([]:List Int),())) q z.1 z.2 i) (s:=(_,_)) (λ_ z=>Bg 2 z.1∧Bg 2 z.2) ⟨KL ω,KL ω⟩ ω (λn i z hi hz hr=> ?_) (λn z hz=> ?_)
  all_goals unfold ji.p8 ji.pF
  ·rw[ax (x:=(i:Int)+1) ω ω,ag i]
   exact aw (λ_=>aB ⟨ω,ω⟩ (ok_eq (λ_=>aB ⟨ω,ω⟩ (af (bp N hN (G.at ho _).2.1) λr h=>aB ⟨ω,ω⟩ (af (bp N hN (G.at ho _).2.2.1) λr' h'=>hr (r,r') ⟨h,h'⟩))) λ_=>hr z hz)) λ_=>ω
  ·exact aw (λ_=>ω) λ_=>af (kS N hN ω hq hz.1) λx hx=>af (AN N hN ω hx) λx hx=>af (xG N hN ω hq hz.2) λy hy=>af (AN N hN ω hy) λy hy=>af (pJ N hN ω ω hy hx) λ_ _=>aw (λ_=>an hy) λ_=>an hx
theorem NK(N:Nat)(hN:4000000≤N){c:ae}{l:aD}{o:au}{m:Nat}(hm:m≤50000)(hc:G m aA c)(hl:G m (.slice jC) l)(ho:L3 m o):Ok (λr=>Bg 60000 r.1) (qb N c l o):=by
 have h1:=hl.1
 have h2:=ho.1
 have h3:=hc.1.1
 unfold qb qb.b
 refine bA (wP N ω c ω) (bt (λ_=>an (KL ω)) λ_=>af (Jb N ω c ω) λ_ _=>bt (λ_=>an (KL ω)) λ_=> ?_)
 refine bg (len:=c.1.length) (F:=λn i (t:aH)=>qb.l5 N n l o c (false,(([]:List Int),())) t i) (λi t=>Bg (8+i) t) (KL ω) ω (λn i t hi ht hr=> ?_) (λn t ht=> ?_)
 all_goals unfold qb.l5 qb.ei
 ·rw[ax (x:=(i:Int)+1) ω ω,ag i]
  exact aw (λ_=>af (Xt N hN c hm hl ho _) λx hx=>aB ⟨ω,ω⟩ (af (bp N hN (G.at hc.1 _).2.2.1) λr h=>af (lG N hN ω ω hx h) λy hy=>af (kS N hN ω ht (Bg.mono hy ω)) λz hz=>hr z hz)) λ_=>ω
 ·exact aw (λ_=>ω) λ_=>an (Bg.mono ht ω)
theorem am2{m:Nat}{l:au}(h:L3 m l)(a:Int):G m (.slice jC) (posOf l a):=by
 refine⟨cm (BF a l) h.1,λy hy=> ?_⟩
 unfold posOf at hy
 split at hy
 ·obtain⟨x,hx,_,e⟩:=jf hy
  rw[e];exact⟨(h.2 x hx).2.1,(h.2 x hx).2.2.1,trivial⟩
 ·nomatch hy
theorem NL(N:Nat)(hN:200000≤N){l:au}{m:Nat}(hm:m≤50000)(h:L3 m l)(a:Int):Ok (G m (.slice jC)) (lE N l a):=nD (QE N (cm h.1 ω) hN a) (am2 h a)
theorem F8(N:Nat)(hN:4000000≤N){c:ae}{b:aq}{l:bq}{m:Nat}(h2:200≤m)(hm:m≤40000)(hc:G m aA c)(hb:G m aL b)(hl:l.length≤1000)(a:Int):Ok (Bg 60000) (Xu N c b a l):=by
 have ho:=hb.2.2.2.2.2.1.1
 unfold Xu
 refine aC (by rw[bU];omega) ?_
 dsimp only
 rw[cJ]
 exact aC ω (af (NL N ω ω hb.2.2.2.1 a) λr h=>af (F7 N ω (by rw[aS];omega) a) λo h'=>af (NK N hN ω hc h (G.mono ω h')) λx hx=>an hx)
end VM
end
section
namespace VM
open Go VM.F
theorem aaQ(N:Nat)(hN:4000000≤N){o:gk}{m:Nat}(ho:G m mT o)(a:Int):Ok (λr=>Bg 4 r.1) (aaR N o a):=by
 unfold aaR
 have hw: ∀x:Int,Ok (λr:aH×Int=>Bg 4 r.1) ((jV N o.2.2.2.2.1).bind λr5=>(jV N (W .i64 x)).bind λr6=>(jS N r5 r6).bind λr7=>some (r7,(0:Int))):=λx=>
  af (bp N hN ho.2.2.2.2.1) λr h=>af (bp N hN (fT _)) λr' h'=>af (lG N hN ω ω h h') λy hy=>an hy
 exact bA (Ak N o) (bt (λ_=>an (KL ω)) λ_=>bA (iH N a) (bt (λ_=>an (KL ω)) λ_=>ok_eq (λ_=>aw (λ_=>an (KL ω)) λ_=>hw _) λ_=>aw (λ_=>an (KL ω)) λ_=>hw _))
theorem aid{m:Nat}{a:aK}(h:G m (.slice eB) a)(id:Int):G m eB (fc a id).1:=by
 unfold fc
 split
 ·have: ∀l:aK,(∀x∈l,G m eB x)→G m eB (tD id l).1:=by
   intro l
   induction l with
   |nil=>intro _;exact G.zero m eB
   |cons x t ih=>
    intro hx
    rw[oh]
    split
    ·exact hx x (bk ..)
    ·exact ih λy hy=>hx y (aZ _ hy)
  exact this a h.2
 ·exact G.zero m eB
theorem xH(N:Nat)(hN:200000≤N){a:aK}{m:Nat}(hm:m≤50000)(h:G m (.slice eB) a)(id:Int):Ok (λr=>G m eB r.1) (Vo N a id):=nD (wL N (cm h.1 ω) hN id) (aid h id)
theorem oB(N:Nat)(hN:200000≤N){a:aD}{m:Nat}(hm:m≤50000)(h:G m (.slice jC) a)(id:Int):Ok (λ_=>True) (R8 N a id):=nD (oi N (cm h.1 ω) hN id) trivial
theorem mu(N:Nat)(hN:200000≤N){l:au}{m:Nat}(hm:m≤50000)(h:L3 m l)(a b:Int):Ok aE (uI N l a b):=nD (BD N (cm h.1 ω) hN a b) (AB (λx hx=>(h.2 x hx).2.2.1) a b)
theorem F9(N:Nat)(hN:200000≤N){a:aK}{m:Nat}(hm:m≤50000)(h:G m (.slice eB) a)(id:Int):Ok (λr=>G m eB r.1∧r=fc a id) (Vo N a id):=by
 obtain⟨r,e,hr⟩:=xH N hN hm h id
 exact⟨r,e,hr,oH (e.symm.trans (wL N (cm h.1 ω) hN id))⟩
theorem AO(N:Nat)(hN:5000000≤N){c:ae}{b:aq}{o:gk}{m:Nat}(h2:200≤m)(hm:m≤40000)(hc:G m aA c)(hb:G m aL b)(ho:G m mT o):Ok (λe=>e=0→q6 o∧(fc b.2.1 o.2.1).2=true∧nS o.2.2.1 c.1.length) (Xv N c b o):=by
 have bad: ∀e:Int,e≠0→Ok (λe:Int=>e=0→q6 o∧(fc b.2.1 o.2.1).2=true∧nS o.2.2.1 c.1.length) (some e):=λe h=>an λh'=>absurd h' h
 have Ii:=hb.2.2.2.2.2.1.1
 unfold Xv
 refine bA (dI N hN ω hb) (bt (λ_=>bad _ δ) λhB=>bA (Ak N o) (bt (λ_=>bad _ δ) λY6=>af (F9 N ω ω hb.2.1 _) λx ⟨hx,hx2⟩=>bt (λ_=>bad _ δ) λhf=>af (oB N ω ω hb.1 _) λ_ _=>bu (λ_=>bad _ δ) λ_=>eg (λ_=>bad _ δ) λhi=>aC (by rw[bU];omega) ?_))
 have hr:=bx Y6
 unfold q6 yS at hr
 obtain⟨hp,_⟩:=ic hB
 dsimp only
 rw[cJ]
 exact aC (by rw[aI];omega) (af (NL N ω ω hb.2.2.2.1 _) λr h=>af (F7 N ω (by rw[aS,aI];omega) _) λq h'=>af (Xt N ω c ω h (G.mono ω h') _) λt ht=>af (bp N ω hx.2.2.2.1) λv hv=>af (pJ N ω ω ω ht hv) λ_ _=>aw (λ_=>bad _ δ) λ_=>aB ⟨hr.2.2.1.1,by rw[hp];exact hi⟩ (af (aaQ N ω ho _) λe he=>af (mu N ω ω hb.2.2.1 _ _) λg hg=>af (bp N ω hg) λy hy=>af (xG N ω ω (Bg.mono hy ω) he) λz hz=>af (F8 N ω h2 hm hc hb (by rw[aI];omega) _) λu hu=>af (pJ N ω ω ω hz hu) λ_ _=>aw (λ_=>bad _ δ) λ_=>an λ_=>⟨bx Y6,by rw[←hx2];exact hf,hi⟩))
theorem Sx(N:Nat)(hN:5000000≤N){c:ae}{b:aq}{h:bO}{a q p:Int}{m:Nat}(h2:200≤m)(hm:m≤40000)(hc:G m aA c)(hb:G m aL b)(hh:G m eB h)(ha:aE a)(hq:aE q)(hp:aE p):Ok (λr=>G m aL r.1∧G m eB r.2.1) (pK N c b h a q p):=by
 have ho:G m mT (h.1,(a,(h.2.1,(W .i64 (3-h.2.2.1),(q,(p,())))))):=⟨hh.1,ha,hh.2.1,fT _,hq,hp,trivial⟩
 have dJ: ∀e:Int,Ok (λr:aq×bO×Int=>G m aL r.1∧G m eB r.2.1) (some ((ck,(c9,(bH,(bH,(dC,(dT,())))))),(aV,e))):=λe=>an ⟨G.iN,G.zero m eB⟩
 unfold pK pK.b
 have hj: ∀t:sW,Ok (λr=>G m aL r.1∧G m eB r.2.1) (pK.Vp N q c b h (ck,(c9,(bH,(bH,(dC,(dT,())))))) aV t):=λt=>by
  unfold pK.Vp pK.NM
  exact af (I9 N hN c h2 ω hb) λr hr=>bu (λ_=>dJ _) λ_=>an ⟨hr,hh.1,hh.2.1,hh.2.2.1,fT _,trivial⟩
 exact bA (dI N hN ω hb) (bt (λ_=>dJ _) λ_=>bA (w3 N h) (bt (λ_=>dJ _) λ_=>aw (λ_=>dJ _) λ_=>aw (λ_=>dJ _) λ_=>aw (λ_=>dJ _) λ_=>aw (λ_=>dJ _) λ_=>aw (λ_=>dJ _) λ_=>aw (λ_=>dJ _) λ_=>aw (λ_=>dJ _) λ_=>af (AO N hN h2 hm hc hb ho) λe _=>bu (λ_=>dJ _) λ_=>ok_eq (λ_=>hj _) λ_=>hj _))
end VM
end
section
namespace VM
open Go VM.F
def Dk(k:Nat)(d:aM):Prop:=(∀x∈(d.1:List Int),0≤x∧x<18446744073709551616)∧0≤(d.2.1:Int)∧(d.2.1:Int)≤k
theorem Dk.mono{j k:Nat}{d:aM}(h:Dk j d)(hk:j≤k):Dk k d:=⟨h.1,h.2.1,fG h.2.2 ω⟩
def kz:Nat:=1000000000
theorem D6(N:Nat){k:Nat}{d:aM}(hk:k≤kz)(h:Dk k d):Ok (λr=>(0≤r.1∧r.1<18446744073709551616)∧Dk (k+1) r.2) (F62 N d):=by
 obtain⟨h1,h2,h3⟩:=h
 unfold kz at hk
 unfold F62
 have hw: ∀i:Int,0≤i→i≤(k:Int)→0≤W .i64 (i+1)∧W .i64 (i+1)≤((k+1:Nat):Int):=λi h0 h1=>by rw[ax ω ω];omega
 have hd:Dk (k+1) (d.1,(W .i64 (d.2.1+1),d.2.2)):=⟨h1,hw _ h2 h3⟩
 have hg: ∀(l:List Int) (i:Int),(∀x∈l,0≤x∧x<18446744073709551616)→0≤l.getD i.toNat 0∧l.getD i.toNat 0<18446744073709551616:=λl i hl=>by
  by_cases hi:i.toNat<l.length
  ·rw[aU,bn hi];exact hl _ (dB hi)
  ·rw[aU,gH ω];decide
 exact aw (λe9=>aB ⟨h2,e9⟩ (an ⟨hg _ _ h1,hd⟩)) λ_=>an ⟨(show(0:Int)≤0∧(0:Int)<18446744073709551616 by decide),hd⟩
theorem rem_in{x y:Int}(h0:0≤x)(hy:0<y):0≤rem x y∧rem x y<y:=by
 unfold rem;rw[iB]
 exact⟨Int.tmod_nonneg _ h0,Eo _ hy⟩
theorem iO(N:Nat){k:Nat}{d:aM}{n:Int}(hn:0<n∧n<1000000)(h:Dk k d)(hk:k≤kz:=by first|decide|(unfold kz;omega)):Ok (λr=>(0≤r.1∧r.1<n)∧Dk (k+1) r.2) (pS N d n):=by
 unfold pS
 refine af (D6 N hk h) λr hr=> ?_
 dsimp only
 rw[ec (x:=n) ω ω]
 have:=rem_in hr.1.1 hn.1
 refine ok_eq (λ_=>ω) λ_=>an ⟨?_,hr.2⟩
 dsimp only
 rw[ax ω ω]
 exact this
theorem pL(N:Nat){k:Nat}{d:aM}{n:Int}(hn:0<n∧n<1000000)(h:Dk k d)(hk:k≤kz:=by first|decide|(unfold kz;omega)):Ok (λr=>Dk (k+1) r.2) (QP N d n):=by
 unfold QP
 exact af (iO N hn h hk) λr hr=>an hr.2
theorem D7(N:Nat){k:Nat}{d:aM}(h:Dk k d)(hk:k≤kz:=by first|decide|(unfold kz;omega)):Ok (λr=>aE r.1∧Dk (k+1) r.2) (Lv N d):=by
 unfold Lv
 refine af (D6 N hk h) λr hr=>ok_eq (λ_=>ω) λ_=> ?_
 dsimp only
 repeat' first|exact an ⟨fT _,hr.2⟩|refine aw (λ_=> ?_) (λ_=> ?_)|refine ok_eq (λ_=> ?_) (λ_=> ?_)|(exfalso;omega)
theorem Xw{x y:Int}(hy:0<y)(hy1:y<9223372036854775808):aE (rem x y):=by
 unfold rem;rw[iB]
 have h1:=Eo x hy
 have h2: -y<x.tmod y:=by
  have:=Eo (-x) hy
  rw[Int.neg_tmod]at this;omega
 unfold aE;omega
theorem AP{x y:Int}(hx:aE x)(hy:aE y):aE (mx x y):=by unfold mx;rw[iB];split<;>assumption
theorem Xx{x y:Int}(hx:aE x)(hy:aE y):aE (mn x y):=by unfold mn;rw[iB];split<;>assumption
theorem QQ{x n:Int}(h:0≤x∧x<n)(hn:n≤1000000):aE x:=iM ω ω
abbrev vi(m:Nat)(l:cS):Prop:=G m (.slice kX) l
theorem rV{k a b c d e f g:Int}{m:Nat}(h0:aE k)(h1:aE a)(h2:aE b)(h3:aE c)(h4:aE d)(h5:aE e)(h6:aE f)(h7:aE g):G m kX (k,(a,(b,(c,(d,(e,(f,(g,())))))))):=⟨h0,h1,h2,h3,h4,h5,h6,h7,trivial⟩
theorem bm{x:Int}(h: -1000000≤x∧x≤1000000:=by decide):aE x:=iM h.1 h.2
theorem KM(N:Nat){k:Nat}{d:aM}(h:Dk k d)(c:ae){i:Int}(hi:0≤i∧i<(c.1.length:Int))(hc:c.1.length≤5)(hk:k≤100000000):Ok (λr=>G 0 kX r.1∧Dk (k+5) r.2) (Un N d c i):=by
 unfold Un
 have hb:aE 1000000000000:=by unfold aE;decide
 have m7:aE i:=iM ω ω
 exact aB hi (af (iO N δ h) λa ⟨_,hd⟩=>af (pL N δ hd) λr hd=>pf (λ_=>af (D7 N hd) λr ⟨_,hd⟩=>ok_eq (λ_=>ω) λ_=>an ⟨rV bm bm bm m7 bm bm bm (fT _),Dk.mono hd ω⟩) λ_=>an ⟨rV bm bm bm m7 bm bm bm (AP bm (Xx hb (fT _))),Dk.mono hd ω⟩)
theorem NN(N:Nat){k:Nat}{d:aM}(h:Dk k d)(c:ae)(Vf:1≤c.1.length)(hc:c.1.length≤5)(hk:k≤100000000):Ok (λr=>G 0 kX r.1∧Dk (k+10) r.2) (Xy N d c):=by
 unfold Xy
 have hb:aE 1000000000000:=by unfold aE;decide
 refine af (iO N ⟨ω,ω⟩ h) λa ⟨ha,hd⟩=>af (iO N δ hd) λb ⟨eY,hd⟩=> ?_
 dsimp only
 refine af (iO N δ hd) λe ⟨he,hd⟩=>af (iO N δ hd) λf ⟨hf,hd⟩=>aB ha (af (iO N δ hd) λg ⟨_,hd⟩=>af (pL N δ hd) λr hd=>pf (λ_=>af (D7 N hd) λr ⟨_,hd⟩=>ok_eq (λ_=>ω) λ_=>af (D7 N hd) λr' ⟨_,hd⟩=>ok_eq (λ_=>ω) λ_=>an ⟨rV bm bm (fT _) (QQ ha ω) (fT _) bm (fT _) (fT _),Dk.mono hd ω⟩) λ_=>an ⟨rV bm bm (fT _) (QQ ha ω) (fT _) bm (fT _) (AP bm (Xx hb (fT _))),Dk.mono hd ω⟩)
end VM
end
section
namespace VM
open Go VM.F
structure Cf(c:ae):Prop where
 g:G 5 aA c
 n:1≤c.1.length
theorem Ga(N:Nat){k:Nat}{d:aM}(h:Dk k d){c:ae}(hc:Cf c)(hk:k≤10000000):Ok (λr=>G 0 kX r.1∧Dk (k+20) r.2) (Uo N d c):=by
 have hn:=hc.n
 have hl:=hc.g.1.1
 unfold Uo
 refine af (iO N δ h) λa ⟨ha,hd⟩=> ?_
 dsimp only
 refine af (iO N δ hd) λb ⟨hb,hd⟩=>af (iO N ⟨ω,ω⟩ hd) λi ⟨hi,hd⟩=>af (iO N δ hd) λe ⟨he,hd⟩=> ?_
 have hz: ∀(e:gP) (j:Nat) (d:aM),G 0 kX e→Dk j d→j≤k+20→Ok (λr=>G 0 kX r.1∧Dk (k+20) r.2) (some (e,d)):=λe j d he hd hj=>an ⟨he,Dk.mono hd hj⟩
 have hs: ∀{f:Int×aM→Option (gP×aM)},(∀x d,aE x→Dk (k+5) d→Ok (λr=>G 0 kX r.1∧Dk (k+20) r.2) (f (x,d)))→Ok (λr=>G 0 kX r.1∧Dk (k+20) r.2) ((Lv N e.2).bind f):=λhf=>af (D7 N hd) λr ⟨h1,h2⟩=>hf r.1 r.2 h1 (Dk.mono h2 ω)
 have hm: ∀{n:Int} {f:Int×aM→Option (gP×aM)},0<n∧n<1000000→(∀x d,Dk (k+5) d→Ok (λr=>G 0 kX r.1∧Dk (k+20) r.2) (f (x,d)))→Ok (λr=>G 0 kX r.1∧Dk (k+20) r.2) ((pS N e.2 n).bind f):=λhn hf=>af (iO N hn hd) λr ⟨h1,h2⟩=>hf r.1 r.2 (Dk.mono h2 ω)
 repeat' first
  |refine ok_eq (λ_=> ?_) (λ_=> ?_)
  |(exfalso;omega)
  |(refine hs λx d' hx ZV=> ?_;dsimp only)
  |(refine hm δ λx d' ZV=> ?_;dsimp only)
  |(refine hz _ _ _ ?_ hd ω;refine⟨?_,?_,?_,?_,?_,?_,?_,?_,trivial⟩<;>first|exact fT _|exact bJ|exact AP hx bm|exact Xw δ δ|exact(G.at hc.g.1 _).2.1)
  |(refine hz _ _ _ ?_ ZV ω;refine⟨?_,?_,?_,?_,?_,?_,?_,?_,trivial⟩<;>first|exact fT _|exact bJ|exact AP hx bm|exact Xw δ δ|exact(G.at hc.g.1 _).2.1)
  |(refine hz _ _ _ ?_ h2 ω;refine⟨?_,?_,?_,?_,?_,?_,?_,?_,trivial⟩<;>first|exact fT _|exact bJ|exact AP hx bm|exact Xw δ δ|exact(G.at hc.g.1 _).2.1)
  |exact af (KM N hd c hi hl ω) λr ⟨h1,h2⟩=>hz _ _ _ h1 h2 ω
  |exact af (NN N hd c hn hl ω) λr ⟨h1,h2⟩=>hz _ _ _ h1 h2 ω
  |refine aB hi ?_
  |(refine af (iO N δ ZV) λr ⟨h1,h2⟩=> ?_)
end VM
end
section
namespace VM
open Go VM.F
theorem G.cat{m n:Nat}{e:Ty}{l k:List e.den}(h:G m (.slice e) l)(h':G n (.slice e) k):G (m+n) (.slice e) (l++k):=
 ⟨by have:=h.1;have:=h'.1;rw[aS];omega,λy hy=>by
  rcases bb.1 hy with hy|hy
  ·exact G.mono ω (h.2 y hy)
  ·exact G.mono ω (h'.2 y hy)⟩
theorem G.two{m:Nat}{e:Ty}{a b:e.den}(ha:G 0 e a)(hb:G 0 e b)(hm:2≤m):G m (.slice e) [a,b]:=
 ⟨hm,λy hy=>by
  rcases aW.1 hy with rfl|hy
  ·exact G.mono ω ha
  ·rw[bW.1 hy];exact G.mono ω hb⟩
theorem G.one{m:Nat}{e:Ty}{a:e.den}(ha:G 0 e a)(hm:1≤m):G m (.slice e) [a]:=
 ⟨hm,λy hy=>by rw[bW.1 hy];exact G.mono ω ha⟩
theorem xI{α:Type}(a b:α):[a,b].length=2:=rfl
theorem QR(N:Nat)(hN:100≤N){k:Nat}{d:aM}(h:Dk k d)(c:ae)(hk:k≤10000000):Ok (λr=>vi 40 r.1∧Dk (k+50) r.2) (fP N d c):=by
 have s64: ∀i:Nat,i<100→aE (i:Int):=λi hi=>iM ω ω
 unfold fP fP.b
 refine iy (len:=5) (F:=λn i (s:aM×cS)=>fP.l3 N n s.1 s.2 i) (λi s=>Dk (k+2*i) s.1∧vi (3*i) s.2) (λn i s hi hI hr=> ?_) (λn s hI=> ?_) 5 N 1 (d,[]) ω ω ω ⟨Dk.mono h ω,G.nil⟩
 all_goals unfold fP.l3 fP.nO
 ·have hl:=hI.2.1
  have m7:=s64 i ω
  dsimp only
  rw[ax (x:=(i:Int)+1) ω ω,ag i]
  have h2:vi (3*i+2) (s.2++[((1:Int),((i:Int),fa)),((2:Int),((i:Int),((i:Int),((0:Int),((1:Int),bh)))))]):=G.cat hI.2 (G.two (rV bm m7 bJ bJ bJ bJ bJ bJ) (rV bm m7 m7 bJ bm bJ bJ bJ) ω)
  have hl2:=h2.1
  exact eg (λ_=>aC (by rw[xI];omega) (af (pL N δ hI.1 (by unfold kz;omega)) λr hd=>bt (λ_=>af (iO N δ hd (by unfold kz;omega)) λr ⟨_,hd⟩=>aC (by rw[aI];omega) (hr (_,_) ⟨Dk.mono hd ω,G.mono ω (G.cat h2 (G.one (m:=1) (rV bm m7 bJ bJ bJ bJ (fT _) bJ) ω))⟩)) λ_=>hr (_,_) ⟨Dk.mono hd ω,G.mono ω h2⟩)) λ_=>ω
 ·refine eg (λ_=>ω) λ_=> ?_
  refine iy (len:=8) (F:=λn i (s:aM×cS)=>fP.l9 N n s.1 s.2 i) (λi s=>Dk (k+10+i) s.1∧vi (15+i) s.2) (λn i s hi hI hr=> ?_) (λn s hI=> ?_) 8 N 5 s ω ω ω ⟨Dk.mono hI.1 ω,G.mono ω hI.2⟩
  all_goals unfold fP.l9 fP.xy
  ·have hl:=hI.2.1
   dsimp only
   rw[ax (x:=(i:Int)+1) ω ω,ag i]
   exact eg (λ_=>af (iO N δ hI.1 (by unfold kz;omega)) λr ⟨_,hd⟩=>aC (by rw[aI];omega) (hr (_,_) ⟨Dk.mono hd ω,G.mono ω (G.cat hI.2 (G.one (m:=1) (rV bm (fT _) (s64 i ω) bJ bm bJ bJ bJ) ω))⟩)) λ_=>ω
  ·refine eg (λ_=>ω) λ_=> ?_
   refine iy (len:=8) (F:=λn i (s:aM×cS)=>fP.nT N n s.1 s.2 i) (λi s=>Dk (k+18+2*i) s.1∧vi (23+2*i) s.2) (λn i s hi hI hr=> ?_) (λn s hI=> ?_) 8 N 1 s ω ω ω ⟨Dk.mono hI.1 ω,G.mono ω hI.2⟩
   all_goals unfold fP.nT fP.mP
   ·have hl:=hI.2.1
    have m7:=s64 i ω
    dsimp only
    rw[ax (x:=(i:Int)+1) ω ω,ag i]
    exact eg (λ_=>af (iO N δ hI.1 (by unfold kz;omega)) λr ⟨_,hd⟩=>af (iO N δ hd (by unfold kz;omega)) λr ⟨_,hd⟩=>aC (by rw[xI];omega) (hr (_,_) ⟨Dk.mono hd ω,G.mono ω (G.cat hI.2 (G.two (m:=2) (rV bm bJ m7 bJ bJ bJ (fT _) bJ) (rV bm bJ m7 bJ bJ bJ (fT _) bJ) ω))⟩)) λ_=>ω
   ·exact eg (λ_=>ω) λ_=>an ⟨G.mono ω hI.2,Dk.mono hI.1 ω⟩
theorem KN{x:Nat}(h:x<1000000):W .i64 (((x+1:Nat):Int)-1)=(x:Int):=by rw[ax ω ω];omega
theorem Jc(N:Nat)(hN:1000≤N){k:Nat}{d:aM}(h:Dk k d){c:ae}(hc:Cf c){w5:Int}(hm:0≤w5∧w5≤100)(hk:k≤10000):Ok (λr=>vi 200 r.1∧Dk (k+3000) r.2) (pM N d c w5):=by
 have hn:=hc.n
 have hl:=hc.g.1.1
 unfold pM pM.b
 rw[ax (x:=w5+1) ω ω]
 refine af (QR N ω h c ω) λr ⟨yP,hd⟩=>af (iO N ⟨ω,ω⟩ hd (by unfold kz;omega)) λz ⟨hz,hd⟩=> ?_
 obtain⟨j,hj⟩: ∃j:Nat,z.1=(j:Int):=⟨z.1.toNat,ω⟩
 rw[hj]
 refine xF (F:=λn x (s:aM×cS)=>pM.l3 N n s.1 c s.2 x) (λx s=>x≤100∧Dk (k+100+25*(100-x)) s.1∧vi (40+(100-x)) s.2) (λn x s hI hr=> ?_) (λn s hI=> ?_) j N (z.2,r.1) ω ⟨ω,Dk.mono hd ω,G.mono ω yP⟩
 all_goals unfold pM.l3 pM.nO
 ·obtain⟨hx,hd,hG⟩:=hI
  have hs:=hG.1
  rw[KN ω]
  have put: ∀(e:gP) (d:aM) (q:Nat),G 0 kX e→Dk q d→q≤k+100+25*(100-(x+1))+25→Ok (λr=>vi 200 r.1∧Dk (k+3000) r.2) (cond (small (s.2.length+[e].length)) (pM.l3 N n d c (s.2++[e]) (x:Int)) none):=λe d q he hd hq=>aC (by rw[aI];omega) (hr (_,_) ⟨ω,Dk.mono hd ω,G.mono ω (G.cat hG (G.one (m:=1) he ω))⟩)
  exact aw (λ_=>af (iO N δ hd (by unfold kz;omega)) λa ⟨_,hd⟩=>ok_eq (λ_=>af (Ga N hd hc ω) λr ⟨h1,h2⟩=>put _ _ _ h1 h2 ω) λ_=>ok_eq (λ_=>af (iO N ⟨ω,ω⟩ hd (by unfold kz;omega)) λb ⟨hb,hd⟩=>af (KM N hd c hb hl ω) λr ⟨h1,h2⟩=>put _ _ _ h1 h2 ω) λ_=>af (NN N hd c hn hl ω) λr ⟨h1,h2⟩=>put _ _ _ h1 h2 ω) λ_=>ω
 ·exact aw (λ_=>ω) λ_=>an ⟨G.mono ω hI.2.2,Dk.mono hI.2.1 ω⟩
theorem tJ(N:Nat)(hN:1000≤N){k:Nat}{d:aM}(h:Dk k d){c:ae}(hc:Cf c)(hk:k≤100000):Ok (λr=>vi 3 r.1∧Dk (k+100) r.2) (nE N d c):=by
 have hn:=hc.n
 have hl:=hc.g.1.1
 unfold nE nE.b
 refine af (iO N δ h (by unfold kz;omega)) λz ⟨hz,hd⟩=> ?_
 obtain⟨j,hj⟩: ∃j:Nat,z.1=(j:Int):=⟨z.1.toNat,ω⟩
 rw[hj]
 refine xF (F:=λn x (s:aM×cS)=>nE.l3 N n s.1 c s.2 x) (λx s=>x≤3∧Dk (k+1+25*(3-x)) s.1∧vi (3-x) s.2) (λn x s hI hr=> ?_) (λn s hI=> ?_) j N (z.2,[]) ω ⟨ω,Dk.mono hd ω,G.nil⟩
 all_goals unfold nE.l3 nE.nO
 ·obtain⟨hx,hd,hG⟩:=hI
  have hs:=hG.1
  rw[KN ω]
  have put: ∀(e:gP) (d:aM) (q:Nat),G 0 kX e→Dk q d→q≤k+1+25*(3-(x+1))+25→Ok (λr=>vi 3 r.1∧Dk (k+100) r.2) (cond (small (s.2.length+[e].length)) (nE.l3 N n d c (s.2++[e]) (x:Int)) none):=λe d q he hd hq=>aC (by rw[aI];omega) (hr (_,_) ⟨ω,Dk.mono hd ω,G.mono ω (G.cat hG (G.one (m:=1) he ω))⟩)
  exact aw (λ_=>af (pL N δ hd (by unfold kz;omega)) λa hd=>pf (λ_=>af (iO N ⟨ω,ω⟩ hd (by unfold kz;omega)) λb ⟨hb,hd⟩=>af (KM N hd c hb hl ω) λr ⟨h1,h2⟩=>put _ _ _ h1 h2 ω) λ_=>af (Ga N hd hc ω) λr ⟨h1,h2⟩=>put _ _ _ h1 h2 ω) λ_=>ω
 ·exact aw (λ_=>ω) λ_=>an ⟨G.mono ω hI.2.2,Dk.mono hI.2.1 ω⟩
end VM
end
section
namespace VM
open Go VM.F
theorem eZ{α:Type}{r:α}:Ok (λ_=>True) (some r):=an trivial
theorem Up(N:Nat)(k:Int):Ok (λs=>ByteArray.size s≤100) (aaS N k):=by
 unfold aaS
 repeat' first|refine ok_eq (λ_=> ?_) (λ_=> ?_)|exact an δ
theorem Uq(N:Nat)(k f:Int):Ok (λ_=>True) (aaT N k f):=by
 unfold aaT aie aif
 repeat' first|refine ok_eq (λ_=> ?_) (λ_=> ?_)|exact eZ|refine af (Q:=λ_=>True) ?_ λ_ _=>eZ
theorem Xz(N:Nat)(e:gP)(f:Int):Ok (λ_=>True) (aaU N e f):=by
 unfold aaU
 repeat' first|refine ok_eq (λ_=> ?_) (λ_=> ?_)|exact eZ
theorem XA(N:Nat)(e:gP)(f x:Int):Ok (λ_=>True) (aaV N e f x):=by
 unfold aaV
 repeat' first|refine ok_eq (λ_=> ?_) (λ_=> ?_)|exact eZ
theorem Jd(N:Nat)(hN:1000≤N)(e:gP):Ok (λ_=>True) (rr N e):=by
 unfold rr rr.b aih
 refine af (Q:=λ_=>True) (eg (λ_=>eZ) λ_=>eZ) λ_ _=>bt (λ_=>eZ) λ_=>af (Up N _) λs hs=> ?_
 refine bg (len:=ByteArray.size s) (F:=λn i (x:gP)=>rr.l6 N n e s x i) (λ_ _=>True) trivial ω (λn i x hi _ hr=> ?_) (λn x _=> ?_)
 all_goals unfold rr.l6 rr.uu
 ·rw[ax (x:=(i:Int)+1) ω ω,ag i]
  exact aw (λ_=>aB ⟨ω,ω⟩ (af (Uq N _ _) λ_ _=>aB ⟨ω,ω⟩ (af (Xz N _ _) λ_ _=>aw (λ_=>eZ) λ_=>aw (λ_=>eZ) λ_=>aB ⟨ω,ω⟩ (af (XA N _ _ _) λy _=>hr y trivial)))) λ_=>ω
 ·exact aw (λ_=>ω) λ_=>eZ
theorem G.ins{m:Nat}{e:Ty}{l:List e.den}{x:e.den}(h:G m (.slice e) l)(hx:G m e x)(a b c:Nat)(ha:c≤a):G (m+1) (.slice e) ((([]++List.drop b (List.take c l))++[x])++List.drop a (List.take l.length l)):=by
 have:=h.1
 refine⟨?_,λy hy=> ?_⟩
 ·simp only[cJ,aS,dV,cc,aI];omega
 ·rw[cJ,br]at hy
  rcases bb.1 hy with hy|hy
  ·exact G.mono ω (h.2 y (lM (mV hy)))
  ·rcases bb.1 hy with hy|hy
   ·rw[bW.1 hy];exact G.mono ω hx
   ·exact G.mono ω (h.2 y (lM (mV hy)))
theorem KO{α:Type}{P:List α×Int→Prop}{l:List α}{x:α}{k:Nat}{e:Int}(hk:k≤l.length)(hl:l.length≤1000000)(h:P ((([]++List.drop (0:Int).toNat (List.take (k:Int).toNat l))++[x])++List.drop (k:Int).toNat (List.take (l.length:Int).toNat l),e)):
  Ok P (cond (ka 0 (k:Int) (l.length:Int) (l.length:Int)) (let v6:List α:=List.drop (0:Int).toNat (List.take (k:Int).toNat l);cond (small (([]:List α).length+v6.length)) (let v7:List α:=[]++v6;cond (small (v7.length+[x].length)) (let v8:List α:=v7++[x];cond (ka (k:Int) (l.length:Int) (l.length:Int) (l.length:Int)) (let v9:List α:=List.drop (k:Int).toNat (List.take (l.length:Int).toNat l);cond (small (v8.length+v9.length)) (some ((v8++v9),e)) none) none) none) none) none):=by
 dsimp only
 have t: ∀a b:Nat,(List.drop a (List.take b l)).length≤l.length:=λa b=>by rw[dV,cc];omega
 have t1:=t (0:Int).toNat (k:Int).toNat
 have t2:=t (k:Int).toNat (l.length:Int).toNat
 refine BL ⟨ω,ω,ω,ω⟩ (aC (by rw[bU];omega) (aC ?_ (BL ⟨ω,ω,ω,ω⟩ (aC ?_ (an h)))))
 ·rw[cJ,aI];omega
 ·rw[cJ,aS,aI];omega
theorem XB(N:Nat)(hN:200000≤N){a:aD}{m:Nat}(hm:m≤50000)(h:G m (.slice jC) a){id:Int}(bf:aE id):Ok (λr=>G (m+1) (.slice jC) r.1) (ig N a id):=by
 have hl:=h.1
 unfold ig ig.b
 refine bA (mD N ω hN) (bt (λ_=>an G.nil) λ_=>aw (λ_=>an G.nil) λ_=>aw (λ_=>an G.nil) λ_=>bA (ib N ω hN id) (bu (λ_=>an G.nil) λ_=> ?_))
 have fin: ∀k:Nat,k≤a.length→Ok (λr=>G (m+1) (.slice jC) r.1) (ig.j9 N a id [] (k:Int)):=λk hk=>by
  unfold ig.j9 ig.Nd
  have hx:G m jC (id,((1:Int),())):=⟨bf,(show aE 1 from bm),trivial⟩
  exact KO hk ω (by simpa using G.ins h hx k 0 k (aG _))
 refine lW (len:=a.length) (F:=λn i=>ig.l7 N n a id [] i) ω (λn i hi hr=> ?_) (λn=> ?_)
 all_goals unfold ig.l7 ig.q4
 ·rw[ax (x:=(i:Int)+1) ω ω,ag i]
  exact aw (λ_=>aB ⟨ω,ω⟩ (aw (λ_=>hr) λ_=>fin i ω)) λ_=>ω
 ·exact aw (λ_=>ω) λ_=>fin _ (aG _)
end VM
end
section
namespace VM
open Go VM.F
theorem G4q{m:Nat}{x:bO}{q:Int}(h:G m eB x)(hq:aE q):G m eB (x.1,(x.2.1,(x.2.2.1,(q,x.2.2.2.2)))):=⟨h.1,h.2.1,h.2.2.1,hq,trivial⟩
theorem G4b{m:Nat}{x:bO}{q:Int}(h:G m eB x)(hq:aE q):G m eB (x.1,(q,x.2.2)):=⟨h.1,hq,h.2.2⟩
theorem G2b{m:Nat}{x:yT}{q:Int}(h:G m jC x)(hq:aE q):G m jC (x.1,(q,x.2.2)):=⟨h.1,hq,trivial⟩
theorem KP(N:Nat)(hN:200000≤N){l:aK}(hl:l.length≤100000):Ok (λ_=>True) (eD N l):=nD (tE N hl hN) trivial
theorem aaW(N:Nat)(hN:200000≤N){a:aD}{l:aK}{x:bO}{m:Nat}(hm:m≤50000)(ha:G m (.slice jC) a)(h:G m (.slice eB) l)(hx:G 0 eB x):Ok (λr=>G (m+1) (.slice eB) r.1) (fe N a l x):=by
 have h1:=ha.1
 have hl:=h.1
 have fin: ∀k:Nat,k≤l.length→Ok (λr=>G (m+1) (.slice eB) r.1) (fe.A8 N l x [] (k:Int)):=λk hk=>by
  unfold fe.A8 fe.uT
  exact KO hk ω (by simpa using G.ins h (G.mono (bo m) hx) k 0 k (aG _))
 have hj:Ok (λr=>G (m+1) (.slice eB) r.1) (fe.Je N l x):=by
  unfold fe.Je fe.BN
  refine lW (len:=l.length) (F:=λn i=>fe.nT N n l x [] i) ω (λn i hi hr=> ?_) (λn=> ?_)
  all_goals unfold fe.nT fe.mP
  ·rw[ax (x:=(i:Int)+1) ω ω,ag i]
   exact aw (λ_=>aB ⟨ω,ω⟩ (aw (λ_=>hr) λ_=>fin i ω)) λ_=>ω
  ·exact aw (λ_=>ω) λ_=>fin _ (aG _)
 unfold fe fe.b
 exact bA (wM N ω ω hN) (bt (λ_=>an G.nil) λ_=>af (KP N hN (by rw[aI];omega)) λ_ _=>bt (λ_=>an G.nil) λ_=>bA (ib N ω hN _) (ok_eq (λ_=>an G.nil) λ_=>bu (λ_=>an G.nil) λ_=>bA (q7 N ω hN _) (pf (λ_=>an G.nil) λ_=>ok_eq (λ_=>bA (qp N ω hN _) (bu (λ_=>an G.nil) λ_=>hj)) λ_=>hj)))
theorem XC(N:Nat)(hN:200000≤N){l:aK}{m:Nat}(hm:m≤50000)(h:G m (.slice eB) l){id q:Int}(hq:aE q):Ok (λr=>G m (.slice eB) r.1) (nF N l id q):=by
 have hl:=h.1
 unfold nF nF.b
 refine af (KP N hN ω) λ_ _=>bt (λ_=>an G.nil) λ_=>aw (λ_=>an G.nil) λ_=>aw (λ_=>an G.nil) λ_=>bA (q7 N ω hN _) (bt (λ_=>an G.nil) λ_=>aC (by rw[bU];omega) ?_)
 rw[cJ]
 refine bg (len:=l.length) (F:=λn i s=>nF.l8 N n id q s i) (λ_ s=>s.length=l.length∧G m (.slice eB) s) ⟨rfl,h⟩ ω (λn i s hi hI hr=> ?_) (λn s hI=> ?_)
 all_goals unfold nF.l8 nF.yc
 ·rw[ax (x:=(i:Int)+1) ω ω,ag i]
  have hs:=hI.1
  have hx:=G.at hI.2 (i:Int).toNat
  exact aw (λ_=>aB ⟨ω,ω⟩ (ok_eq (λ_=>aB ⟨ω,ω⟩ (hr _ ⟨by rw[bN];exact hs,G.set hI.2 (G4q hx hq) _⟩)) λ_=>hr s hI)) λ_=>ω
 ·have hs:=hI.1
  exact aw (λ_=>ω) λ_=>an hI.2
theorem XD(N:Nat)(a b:Int):Ok (λr=>aE r.1) (Ur N a b):=by
 have h: ∀(x:Int) (t:Bool),0≤x∧x<5→Ok (λr:Int×Bool=>aE r.1) (some (x,t)):=λx t hx=>an (QQ hx δ)
 unfold Ur
 repeat' first|refine ok_eq (λ_=> ?_) (λ_=> ?_)|exact h _ _ δ
theorem KQ(N:Nat)(hN:200000≤N){l:aD}{m:Nat}(hm:m≤50000)(h:G m (.slice jC) l)(id k:Int):Ok (λr=>G m (.slice jC) r.1) (lH N l id k):=by
 have hl:=h.1
 unfold lH lH.b
 refine bA (mD N ω hN) (bt (λ_=>an G.nil) λ_=>bA (ib N ω hN _) (ok_eq (λ_=>an G.nil) λ_=>af (XD N _ _) λz hz=>bt (λ_=>an G.nil) λ_=>aC (by rw[bU];omega) ?_))
 rw[cJ]
 refine bg (len:=l.length) (F:=λn i s=>lH.BM N n id z.1 s i) (λ_ s=>s.length=l.length∧G m (.slice jC) s) ⟨rfl,h⟩ ω (λn i s hi hI hr=> ?_) (λn s hI=> ?_)
 all_goals unfold lH.BM lH.yZ
 ·rw[ax (x:=(i:Int)+1) ω ω,ag i]
  have hs:=hI.1
  have hx:=G.at hI.2 (i:Int).toNat
  exact aw (λ_=>aB ⟨ω,ω⟩ (ok_eq (λ_=>aB ⟨ω,ω⟩ (hr _ ⟨by rw[bN];exact hs,G.set hI.2 (G2b hx hz) _⟩)) λ_=>hr s hI)) λ_=>ω
 ·have hs:=hI.1
  exact aw (λ_=>ω) λ_=>an hI.2
theorem QS(N:Nat)(hN:200000≤N){a:aD}{l:aK}{m:Nat}(hm:m≤50000)(ha:G m (.slice jC) a)(h:G m (.slice eB) l){id to:Int}(hto:aE to):Ok (λr=>G m (.slice eB) r.1) (nG N a l id to):=by
 have h1:=ha.1
 have hl:=h.1
 unfold nG nG.b
 refine bA (wM N ω ω hN) (bt (λ_=>an G.nil) λ_=>bA (q7 N ω hN _) (bA (ib N ω hN _) (bt (λ_=>an G.nil) λ_=>ok_eq (λ_=>an G.nil) λ_=>bu (λ_=>an G.nil) λ_=>bu (λ_=>an G.nil) λ_=>aC (by rw[bU];omega) ?_)))
 rw[cJ]
 refine bg (len:=l.length) (F:=λn i s=>nG.nT N n id to s i) (λ_ s=>s.length=l.length∧G m (.slice eB) s) ⟨rfl,h⟩ ω (λn i s hi hI hr=> ?_) (λn s hI=> ?_)
 all_goals unfold nG.nT nG.mP
 ·rw[ax (x:=(i:Int)+1) ω ω,ag i]
  have hs:=hI.1
  have hx:=G.at hI.2 (i:Int).toNat
  exact aw (λ_=>aB ⟨ω,ω⟩ (ok_eq (λ_=>aB ⟨ω,ω⟩ (hr _ ⟨by rw[bN];exact hs,G.set hI.2 (G4b hx hto) _⟩)) λ_=>hr s hI)) λ_=>ω
 ·have hs:=hI.1
  exact aw (λ_=>ω) λ_=>an hI.2
theorem NO(N:Nat)(hN:200000≤N){l:aK}{m:Nat}(hm:m≤50000)(h:G m (.slice eB) l)(id:Int):Ok (λr=>r.length≤m) (ru N l id):=by
 have hl:=h.1
 unfold ru ru.b
 refine af (KP N hN ω) λ_ _=>bt (λ_=>an (bo _)) λ_=>bg (len:=l.length) (F:=λn i s=>ru.l5 N n l id s i) (λi s=>s.length≤i) (bo _) ω (λn i s hi hI hr=> ?_) (λn s hI=> ?_)
 all_goals unfold ru.l5 ru.ei
 ·rw[ax (x:=(i:Int)+1) ω ω,ag i]
  exact aw (λ_=>aB ⟨ω,ω⟩ (ok_eq (λ_=>aB ⟨ω,ω⟩ (aC (by rw[aI];omega) (hr _ (by rw[aS,aI];omega)))) λ_=>hr s ω)) λ_=>ω
 ·exact aw (λ_=>ω) λ_=>an ω
abbrev L6(m:Nat)(l:bq):Prop:=G m (.slice mT) l
theorem XE(N:Nat)(hN:200000≤N){l:bq}{a:List Int}{m:Nat}(hm:m≤50000)(h:L6 m l)(ha:a.length≤m):Ok (λr=>L6 m r) (fU N l a):=by
 have hl:=h.1
 unfold fU fU.b
 refine bA (ia N ω hN) (bt (λ_=>an G.nil) λ_=>bg (len:=l.length) (F:=λn i s=>fU.l5 N n l a s i) (λi s=>L6 i s) G.nil ω (λn i s hi hI hr=> ?_) (λn s hI=> ?_))
 all_goals unfold fU.l5 fU.ei
 ·have hs:=hI.1
  refine aw (λ_=> ?_) λ_=>ω
  refine bg (len:=a.length) (F:=λn' j b=>fU.l9 N (fU.l5 N n) n' l a s (i:Int) b j) (λ_ _=>True) trivial ω (λn' j b hj _ eO=> ?_) (λn' b _=> ?_)
  all_goals unfold fU.l9 fU.xy
  ·rw[ax (x:=(j:Int)+1) ω ω,ag j]
   exact aw (λ_=>pf (λ_=>eO _ trivial) λ_=>aB ⟨ω,ω⟩ (aB ⟨ω,ω⟩ (eO _ trivial))) λ_=>ω
  ·rw[ax (x:=(i:Int)+1) ω ω,ag i]
   have hx:G 0 mT (l.getD (i:Int).toNat fa):=G.at h _
   exact aw (λ_=>ω) λ_=>bt (λ_=>aB ⟨ω,ω⟩ (aC (by rw[aI];omega) (hr _ (G.cat hI (G.one hx (aG 1)))))) λ_=>hr s (G.mono ω hI)
 ·exact aw (λ_=>ω) λ_=>an (G.mono hl hI)
theorem NP(N:Nat)(hN:5000000≤N)(c:ae){b:aq}{m:Nat}(hm:m≤50000)(hb:G m aL b)(id:Int):Ok (λr=>G m aL r.1) (KR N c b id):=by
 unfold KR
 exact bA (dI N hN hm hb) (bt (λ_=>an G.iN) λ_=>af (oB N ω hm hb.1 _) λ_ _=>ok_eq (λ_=>an G.iN) λ_=>af (NO N ω hm hb.2.1 _) λa ha=>af (XE N ω hm hb.2.2.2.2.2.1 ha) λr hr=>an ⟨hb.1,hb.2.1,hb.2.2.1,hb.2.2.2.1,hb.2.2.2.2.1,hr,trivial⟩)
theorem CU(N:Nat)(hN:200000≤N){l:aK}{m:Nat}(hm:m≤50000)(h:G m (.slice eB) l)(id:Int):Ok (λr=>G m (.slice eB) r) (ph N l id):=by
 have hl:=h.1
 unfold ph ph.b
 refine bA (tH N ω hN) (bt (λ_=>an G.nil) λ_=>bg (len:=l.length) (F:=λn i s=>ph.l5 N n l id s i) (λi s=>G i (.slice eB) s) G.nil ω (λn i s hi hI hr=> ?_) (λn s hI=> ?_))
 all_goals unfold ph.l5 ph.ei
 ·have hs:=hI.1
  have hx:G 0 eB (l.getD (i:Int).toNat aV):=G.at h _
  rw[ax (x:=(i:Int)+1) ω ω,ag i]
  exact aw (λ_=>aB ⟨ω,ω⟩ (bu (λ_=>aB ⟨ω,ω⟩ (aC (by rw[aI];omega) (hr _ (G.cat hI (G.one hx (aG 1)))))) λ_=>hr s (G.mono ω hI))) λ_=>ω
 ·exact aw (λ_=>ω) λ_=>an (G.mono hl hI)
theorem Us(N:Nat)(hN:200000≤N){l:bq}{m:Nat}(hm:m≤50000)(h:L6 m l)(a id:Int):Ok (λr=>L6 m r.1) (nH N l a id):=by
 have hl:=h.1
 unfold nH nH.b
 refine bA (ia N ω hN) (bt (λ_=>an G.nil) λ_=>bg (len:=l.length) (F:=λn i s=>nH.l5 N n l a id s i) (λi s=>L6 i s) G.nil ω (λn i s hi hI hr=> ?_) (λn s hI=> ?_))
 all_goals unfold nH.l5 nH.ei
 ·have hs:=hI.1
  have hx:G 0 mT (l.getD (i:Int).toNat fa):=G.at h _
  rw[ax (x:=(i:Int)+1) ω ω,ag i]
  have h1:=hr s (G.mono ω hI)
  have h2:=hr _ (G.cat hI (G.one hx (aG 1)))
  repeat' first|exact h1|exact h2|refine aC (by rw[aI];omega) ?_|refine aB ⟨ω,ω⟩ ?_|refine aw (λ_=> ?_) (λ_=> ?_)|refine bu (λ_=> ?_) (λ_=> ?_)|(exfalso;omega)
 ·exact aw (λ_=>ω) λ_=>ok_eq (λ_=>an G.nil) λ_=>an (G.mono hl hI)
end VM
end
section
namespace VM
open Go VM.F
theorem G6q{m:Nat}{x:gk}{q:Int}(h:G m mT x)(hq:aE q):G m mT (x.1,(x.2.1,(x.2.2.1,(x.2.2.2.1,(q,x.2.2.2.2.2))))):=⟨h.1,h.2.1,h.2.2.1,h.2.2.2.1,hq,h.2.2.2.2.2⟩
theorem aaX(N:Nat)(hN:200000≤N){l:bq}{m:Nat}(hm:m≤50000)(h:L6 m l)(a d:Int):Ok (λr=>L6 m r) (dK N l a d):=by
 have hl:=h.1
 unfold dK dK.b
 refine bA (ia N ω hN) (bt (λ_=>an G.nil) λ_=>bg (len:=l.length) (F:=λn i s=>dK.l5 N n l a d s i) (λi s=>L6 i s) G.nil ω (λn i s hi hI hr=> ?_) (λn s hI=> ?_))
 all_goals unfold dK.l5 dK.ei
 ·have hs:=hI.1
  have hx:G 0 mT (l.getD (i:Int).toNat fa):=G.at h _
  have fin: ∀k:Nat,k≤s.length→Ok (λr=>L6 m r) (dK.Je N (dK.l5 N n) l a d s (i:Int) (k:Int)):=λk hk=>by
   unfold dK.Je dK.BN
   rw[ax (x:=(i:Int)+1) ω ω,ag i]
   dsimp only
   have t: ∀a b:Nat,(List.drop a (List.take b s)).length≤s.length:=λa b=>by rw[dV,cc];omega
   have t1:=t (0:Int).toNat (k:Int).toNat
   have t2:=t (k:Int).toNat (s.length:Int).toNat
   refine BL ⟨ω,ω,ω,ω⟩ (aC ω (aB ⟨ω,ω⟩ (aC (by rw[aI];omega) (BL ⟨ω,ω,ω,ω⟩ (aC (by rw[aS,aI];omega) (hr _ ?_))))))
   simpa using G.ins hI (G.mono (bo i) hx) k 0 k (aG _)
  have h1:=hr s (G.mono ω hI)
  have hw:Ok (λr=>L6 m r) (dK.l9 N (dK.l5 N n) N l a d s (i:Int) 0):=by
   refine lW (len:=s.length) (F:=λn' j=>dK.l9 N (dK.l5 N n) n' l a d s (i:Int) j) ω (λn' j hj eO=> ?_) (λn'=> ?_)
   all_goals unfold dK.l9 dK.xy
   ·rw[ax (x:=(j:Int)+1) ω ω,ag j]
    have hah: ∀x y:gk,Ok (λ_=>True) (Ut N x y):=λx y=>by unfold Ut;exact bu (λ_=>eZ) λ_=>eZ
    exact aw (λ_=>aB ⟨ω,ω⟩ (aB ⟨ω,ω⟩ (af (hah _ _) λ_ _=>pf (λ_=>eO) λ_=>fin j ω))) λ_=>ω
   ·exact aw (λ_=>ω) λ_=>fin _ (aG _)
  rw[ax (x:=(i:Int)+1) ω ω,ag i]
  repeat' first|exact h1|exact hw|refine aB ⟨ω,ω⟩ ?_|refine aw (λ_=> ?_) (λ_=> ?_)|refine bu (λ_=> ?_) (λ_=> ?_)|(exfalso;omega)
 ·exact aw (λ_=>ω) λ_=>an (G.mono hl hI)
theorem XF(N:Nat)(hN:200000≤N){l:bq}{o:gk}{m:Nat}(hm:m≤50000)(h:L6 m l)(ho:G 0 mT o):Ok (λr=>L6 m r.1∧aE r.2.2.1) (cg N l o):=by
 have hl:=h.1
 have fin: ∀(s:bq) (q:Int) (t:bK),L6 m s→aE q→Ok (λr=>L6 m r.1∧aE r.2.2.1) (cg.j22 N s q t):=λs q t hs hq=>by
  have Hp:=hs.1
  unfold cg.j22 cg.aaY
  refine bg (len:=s.length) (F:=λn i u=>cg.Lw N n s q t u i) (λi u=>L6 i u) G.nil ω (λn i u hi hI hr=> ?_) (λn u hI=> ?_)
  all_goals unfold cg.Lw cg.NQ
  ·have hu:=hI.1
   have hx:G 0 mT (s.getD (i:Int).toNat fa):=G.at hs _
   rw[ax (x:=(i:Int)+1) ω ω,ag i]
   have h1:=hr u (G.mono ω hI)
   have h2:=hr _ (G.cat hI (G.one hx (aG 1)))
   repeat' first|exact h1|exact h2|refine aC (by rw[aI];omega) ?_|refine aB ⟨ω,ω⟩ ?_|refine aw (λ_=> ?_) (λ_=> ?_)|(exfalso;omega)
  ·exact aw (λ_=>ω) λ_=>an ⟨G.mono Hp hI,hq⟩
 have dJ:Ok (λr:bq×bK×Int×Int=>L6 m r.1∧aE r.2.2.1) (some ([],[],(0:Int),(1:Int))):=an ⟨G.nil,bJ⟩
 unfold cg cg.b
 refine bA (ia N ω hN) (bt (λ_=>dJ) λ_=>bA (Ak N o) (bt (λ_=>dJ) λ_=>aC (by rw[bU];omega) (af (aaX N hN hm h _ _) λw hw=> ?_)))
 have hwl:=hw.1
 rw[cJ]
 refine bg (len:=w.length) (F:=λn i (s:bq×Int×bK)=>cg.l7 N n o s.1 s.2.1 s.2.2 w i) (s:=(_,(_,_))) (λi s=>L6 m s.1∧aE s.2.1∧s.2.2.length≤i) ⟨h,ho.2.2.2.2.1,bo _⟩ ω (λn i s hi hI hr=> ?_) (λn s hI=> ?_)
 all_goals unfold cg.l7 cg.q4
 ·obtain⟨hs,hq,ht⟩:=hI
  have f1:=fin s.1 s.2.1 s.2.2 hs hq
  have aii: ∀(v:Int) (t:sW),Ok (λr=>L6 m r.1∧aE r.2.2.1) (cg.A8 N (cg.l7 N n) o s.1 s.2.1 s.2.2 w (i:Int) v t):=λv t=>by
   unfold cg.A8 cg.uT
   refine aC (by rw[aI];omega) (bg (len:=s.1.length) (F:=λn' j u=>cg.G8 N (cg.l7 N n) n' o u (W .i64 (s.2.1-v)) (s.2.2++[t]) w (i:Int) v j) (λ_ u=>u.length=s.1.length∧L6 m u) ⟨rfl,hs⟩ (by have:=hs.1;omega) (λn' j u hj hJ eO=> ?_) (λn' u hJ=> ?_))
   all_goals unfold cg.G8 cg.DD
   ·have Hp:=hs.1
    have G9:=hJ.1
    rw[ax (x:=(j:Int)+1) ω ω,ag j]
    exact aw (λ_=>aB ⟨ω,ω⟩ (aB ⟨ω,ω⟩ (ok_eq (λ_=>aB ⟨ω,ω⟩ (aB ⟨ω,ω⟩ (eO _ ⟨by rw[bN];exact G9,G.set hJ.2 (G6q (G.at hJ.2 _) (fT _)) _⟩))) λ_=>eO u hJ))) λ_=>ω
   ·have G9:=hJ.1
    rw[ax (x:=(i:Int)+1) ω ω,ag i]
    exact aw (λ_=>ω) λ_=>hr (_,(_,_)) ⟨hJ.2,fT _,by dsimp only;rw[List.length_append,List.length_singleton];omega⟩
  have DE:Ok (λr=>L6 m r.1∧aE r.2.2.1) (cg.HN N (cg.l7 N n) o s.1 s.2.1 s.2.2 w (i:Int)):=by
   unfold cg.HN cg.BO
   rw[ax (x:=(i:Int)+1) ω ω,ag i]
   dsimp only
   have h1:=hr s ⟨hs,hq,ω⟩
   repeat' first|exact h1|exact aii _ _|refine aB ⟨ω,ω⟩ ?_|refine ok_eq (λ_=> ?_) (λ_=> ?_)
  repeat' first|exact f1|exact DE|refine aB ⟨ω,ω⟩ ?_|refine aw (λ_=> ?_) (λ_=> ?_)|refine ok_eq (λ_=> ?_) (λ_=> ?_)|(exfalso;omega)
 ·exact aw (λ_=>ω) λ_=>fin _ _ _ hI.1 hI.2.1
theorem XG(N:Nat)(hN:5000000≤N){c:ae}{b:aq}{o:gk}{m:Nat}(h2:200≤m)(hm:m≤40000)(hc:G m aA c)(hb:G m aL b)(ho:G 0 mT o):Ok (λr=>G (m+1) aL r.1) (jj N c b o):=by
 have Ii:=hb.2.2.2.2.2.1.1
 have dJ: ∀(t:bK) (e:Int),Ok (λr:aq×bK×Int×Int=>G (m+1) aL r.1) (some ((ck,(c9,(bH,(bH,(dC,(dT,())))))),(t,((0:Int),e)))):=λt e=>an (G.zero (m+1) aL)
 have DE: ∀(r:bq) (t:bK) (q:Int),L6 m r→aE q→Ok (λr=>G (m+1) aL r.1) (jj.HN N c b o (ck,(c9,(bH,(bH,(dC,(dT,())))))) r t q):=λr t q hr hq=>by
  have H6:=hr.1
  unfold jj.HN jj.BO
  have hx:G 0 mT (o.1,(o.2.1,(o.2.2.1,(o.2.2.2.1,(q,o.2.2.2.2.2))))):=G6q ho hq
  exact af (I9 N hN c h2 ω hb) λz hz=>bu (λ_=>dJ _ _) λ_=>by
   have Cj:G (m+1) aL z.1:=G.mono ω hz
   exact aw (λ_=>aC (by rw[aI];omega) (an ⟨Cj.1,Cj.2.1,Cj.2.2.1,Cj.2.2.2.1,Cj.2.2.2.2.1,G.cat hr (G.one hx (aG 1)),trivial⟩)) λ_=>an ⟨Cj.1,Cj.2.1,Cj.2.2.1,Cj.2.2.2.1,Cj.2.2.2.2.1,G.mono ω hr,trivial⟩
 have hj7:Ok (λr=>G (m+1) aL r.1) (jj.j7 N c b o (ck,(c9,(bH,(bH,(dC,(dT,()))))))):=by
  unfold jj.j7 jj.Vm
  exact af (XF N ω ω hb.2.2.2.2.2.1 ho) λz hz=>aw (λ_=>ok_eq (λ_=>dJ _ _) λ_=>DE _ _ _ hz.1 hz.2) λ_=>DE _ _ _ hz.1 hz.2
 unfold jj jj.b
 refine af (AO N hN h2 hm hc hb (G.mono (bo m) ho)) λe _=>bu (λ_=>dJ _ _) λ_=>aw (λh0=> ?_) λ_=>hj7
 dsimp only
 exact aB (by rw[ax ω ω];omega) (eg (λ_=>dJ _ _) λ_=>hj7)
end VM
end
section
namespace VM
open Go VM.F
theorem aij(N:Nat)(a:Int):Ok (λ_=>True) (KC N a):=by
 unfold KC
 exact ok_eq (λ_=>eZ) λ_=>eZ
theorem jU.one{k n:Int}{x:aH}{m:Nat}(h:Bg m x)(hm:m≤8):jU 1 [(k,(n,(x,())))]:=⟨aG 1,λy hy=>by rw[bW.1 hy];exact Bg.mono h hm⟩
theorem XH(N:Nat)(hN:4000000≤N){l:au}{m:Nat}(hm:m≤50000)(h:L3 m l)(i a b:Int):Ok (λr=>jU m r.1) (nI N l i a b):=by
 have hl:=h.1
 unfold nI nI.b
 have p64: ∀p:Int,decide (1≤p∧p≤1000000000000)=true→aE p:=λp h=>by have:=bx h;unfold aE;omega
 refine bA (kN N ω ω) (bt (λ_=>an jU.nil) λ_=>bA (iH N _) (bt (λ_=>an jU.nil) λha=>bA (iH N _) (bt (λ_=>an jU.nil) λhb=>af (bp N hN (p64 _ hb)) λx hx=>af (bp N hN (p64 _ ha)) λy hy=>af (xG N hN ω hx hy) λz hz=>bg (len:=l.length) (F:=λn j s=>nI.l6 N n l i s z j) (λj s=>jU j s) jU.nil ω (λn j s hj hI hr=> ?_) (λn s hI=> ?_))))
 all_goals unfold nI.l6 nI.uu
 ·have hs:=hI.1
  rw[ax (x:=(j:Int)+1) ω ω,ag j]
  have h1:=hr s (jU.mono hI ω)
  exact aw (λ_=>aB ⟨ω,ω⟩ (bu (λ_=>h1) λ_=>af (D5 N hz) λ_ _=>ok_eq (λ_=>h1) λ_=>aB ⟨ω,ω⟩ (af (aij N _) λ_ _=>aB ⟨ω,ω⟩ (af (bp N hN (G.at h _).2.2.1) λv hv=>af (lG N hN ω ω hv hz) λu hu=>aC (by rw[aI];omega) (hr _ (jU.app hI (jU.one hu ω))))))) λ_=>ω
 ·exact aw (λ_=>ω) λ_=>an (jU.mono hI ω)
theorem CV(N:Nat)(hN:5000000≤N)(c:ae){b:aq}{m:Nat}(h2:200≤m)(hm:m≤50000)(hb:G m aL b)(i:Int){p:Int}(hp:aE p):Ok (λr=>G m aL r.1∧jU m r.2.1) (Uu N c b i p):=by
 have dJ: ∀e:Int,Ok (λr:aq×bF×Int=>G m aL r.1∧jU m r.2.1) (some ((ck,(c9,(bH,(bH,(dC,(dT,())))))),([],e))):=λe=>an ⟨G.iN,jU.nil⟩
 have Hl:=hb.2.2.2.2.1.1
 unfold Uu
 refine bA (dI N hN hm hb) (bt (λ_=>dJ _) λhB=>bA (iH N _) (bt (λ_=>dJ _) λ_=>aw (λ_=>dJ _) λh0=>eg (λ_=>dJ _) λh1=> ?_))
 obtain⟨hpr,_⟩:=ic hB
 dsimp only
 rw[cJ]
 exact aB ⟨h0,by rw[hpr];exact h1⟩ (af (XH N ω hm hb.2.2.2.1 _ _ _) λf hf=>af (sK N ω h2 hm hb G.nil (jU.mono hf hm)) λr hr=>bu (λ_=>dJ _) λ_=>aC (by rw[bU];omega) (aB ⟨h0,by rw[hpr];exact h1⟩ (an ⟨⟨hr.1,hr.2.1,hr.2.2.1,hr.2.2.2.1,G.set hb.2.2.2.2.1 hp _,hr.2.2.2.2.2⟩,hf⟩)))
abbrev L2(m:Nat)(l:aD):Prop:=G m (.slice jC) l
theorem G2{m:Nat}{a b:Int}(ha:aE a)(hb:aE b):G m jC (a,(b,())):=⟨ha,hb,trivial⟩
theorem BP(N:Nat)(hN:200000≤N){l:aD}(hl:l.length≤100000):Ok (λ_=>True) (qc N l):=by
 unfold qc qc.b
 refine lW (len:=l.length) (F:=λn i=>qc.l2 N n l i) ω (λn i hi hr=> ?_) (λn=> ?_)
 all_goals unfold qc.l2 qc.gJ
 ·rw[ax (x:=(i:Int)+1) ω ω,ag i]
  dsimp only
  repeat' first|exact hr|exact eZ|refine aB ⟨ω,ω⟩ ?_|refine aB (by rw[ax (x:=(i:Int)-1) ω ω];omega) ?_|refine aw (λ_=> ?_) (λ_=> ?_)|refine eg (λ_=> ?_) (λ_=> ?_)|refine ok_eq (λ_=> ?_) (λ_=> ?_)|(exfalso;omega)
 ·exact aw (λ_=>ω) λ_=>eZ
theorem NR(N:Nat)(hN:4000000≤N){g:aD}{p:bF}{m:Nat}(h2:200≤m)(hm:m≤50000)(h:L2 m g)(hp:jU m p):Ok (λr=>L2 m r.1) (eP N g p):=by
 have hl:=h.1
 have Hl:=hp.1
 unfold eP eP.b
 refine af (BP N ω ω) λ_ _=>bt (λ_=>an G.nil) λ_=>iy (len:=25) (F:=λn i s=>eP.l5 N n g p s i) (λi s=>L2 i s) (λn i s hi hI hr=> ?_) (λn s hI=> ?_) 25 N 1 [] ω ω ω G.nil
 all_goals unfold eP.l5 eP.ei
 ·have hs:=hI.1
  refine eg (λ_=> ?_) λ_=>ω
  refine bg (len:=g.length) (F:=λn' j t=>eP.l9 N (eP.l5 N n) n' g p s (i:Int) t j) (λ_ t=>Bg 2 t) (KL ω) ω (λn' j t hj ht eO=> ?_) (λn' t ht=> ?_)
  all_goals unfold eP.l9 eP.xy
  ·rw[ax (x:=(j:Int)+1) ω ω,ag j]
   exact aw (λ_=>aB ⟨ω,ω⟩ (ok_eq (λ_=>aB ⟨ω,ω⟩ (af (bp N hN (G.at h _).2.1) λr hr=>eO r hr)) λ_=>eO t ht)) λ_=>ω
  ·refine aw (λ_=>ω) λ_=> ?_
   refine bg (len:=p.length) (F:=λI8 j t=>eP.IZ N (eP.l5 N n) I8 g p s (i:Int) t j) (λj t=>Bg (8+j) t) (Bg.mono ht ω) ω (λI8 j t hj ht eO=> ?_) (λI8 t ht=> ?_)
   all_goals unfold eP.IZ eP.FY
   ·rw[ax (x:=(j:Int)+1) ω ω,ag j]
    have h1:=eO t (Bg.mono ht ω)
    exact aw (λ_=>aB ⟨ω,ω⟩ (ok_eq (λ_=>aB ⟨ω,ω⟩ (ok_eq (λ_=>aB ⟨ω,ω⟩ (af (kS N hN ω ht (Bg.mono (hp.at _) ω)) λr hr=>eO r (Bg.mono hr ω))) λ_=>h1)) λ_=>h1)) λ_=>ω
   ·rw[ax (x:=(i:Int)+1) ω ω,ag i]
    exact aw (λ_=>ω) λ_=>af (w4 N ht) λv hv=>bt (λ_=>an G.nil) λ_=>bu (λ_=>aC (by rw[aI];omega) (hr _ (G.cat hI (G.one (m:=1) (G2 (iM ω ω) hv) (aG 1))))) λ_=>hr s (G.mono ω hI)
 ·exact eg (λ_=>ω) λ_=>an (G.mono ω hI)
theorem sL(N:Nat)(hN:4000000≤N)(a b c d:Int){x:aH}(h:Bg 8 x):Ok (λr=>jU 2 r) (ye N a b c d x):=by
 unfold ye
 exact af (qt N hN ω h) λy hy=>an ⟨aG 2,λz hz=>by
  rcases aW.1 hz with rfl|hz
  ·exact hy
  ·rw[bW.1 hz];exact h⟩
theorem NS(N:Nat)(hN:5000000≤N){c:ae}{b:aq}{m:Nat}(h2:200≤m)(hm:m≤40000)(hc:G m aA c)(hb:G m aL b)(a:Int){q:Int}(hq:aE q):Ok (λr=>G m aL r.1) (Uv N c b a q):=by
 unfold Uv
 exact bA (dI N hN ω hb) (bt (λ_=>an G.iN) λ_=>aw (λ_=>an G.iN) λ_=>af (xH N ω ω hb.2.1 _) λ_ _=>bt (λ_=>an G.iN) λ_=>af (oB N ω ω hb.1 _) λ_ _=>bu (λ_=>an G.iN) λ_=>af (mu N ω ω hb.2.2.1 _ _) λg hg=>af (bp N ω hg) λx hx=>af (bp N ω hq) λy hy=>af (xG N ω ω hx hy) λz hz=>af (F8 N ω h2 hm hc hb (bo _) _) λw hw=>af (pJ N ω ω ω hz hw) λ_ _=>aw (λ_=>an G.iN) λ_=>af (bp N ω hq) λy hy=>af (sL N ω _ _ _ _ (Bg.mono hy ω)) λp hp=>af (sK N ω h2 ω hb G.nil (jU.mono hp ω)) λr hr=>an hr)
theorem QT(N:Nat)(hN:1000≤N){c:ae}(hc:G 5 aA c):Ok (λr=>G 5 aL r.1) (ij N c):=by
 have hl:=hc.1.1
 unfold ij ij.b
 have hj: ∀b:aq,G 5 aL b→Ok (λr=>G 5 aL r.1) (ij.j6 N c (ck,(c9,(bH,(bH,(dC,(dT,())))))) b []):=λb hb=>by
  unfold ij.j6 ij.TP
  obtain⟨b1,b2,b3,b4,b5,b6⟩:=b
  refine bg (len:=c.1.length) (F:=λn i (z:aq×List Int)=>ij.l7 N n c (ck,(c9,(bH,(bH,(dC,(dT,())))))) z.1 z.2 i) (s:=((b1,(b2,(b3,(b4,(b5,b6))))),_)) (λi z=>G 5 aL z.1∧G i (.slice (.int .i64)) z.2) ⟨hb,G.nil⟩ ω (λn i z hi hI hr=> ?_) (λn z hI=> ?_)
  all_goals unfold ij.l7 ij.q4
  ·have hz:=hI.2.1
   rw[ax (x:=(i:Int)+1) ω ω,ag i]
   have hx:G 0 (.int .i64) (c.1.getD (i:Int).toNat aV).2.1:=(G.at hc.1 _).2.1
   exact aw (λ_=>aB ⟨ω,ω⟩ (aC (by rw[aI];omega) (hr (_,_) ⟨⟨hI.1.1,hI.1.2.1,hI.1.2.2.1,hI.1.2.2.2.1,G.nil,hI.1.2.2.2.2.2⟩,G.cat hI.2 (G.one hx (aG 1))⟩))) λ_=>ω
  ·exact aw (λ_=>ω) λ_=>an ⟨hI.1.1,hI.1.2.1,hI.1.2.2.1,hI.1.2.2.2.1,G.mono hl hI.2,hI.1.2.2.2.2.2⟩
 have yG:L3 5 [((1:Int),((0:Int),(W .i64 (0-c.2.1),()))),((3:Int),((0:Int),(c.2.1,())))]:=G.two (G3 (show aE 1 from bm) bJ (fT _)) (G3 (show aE 3 from bm) bJ hc.2.1) δ
 exact bA (ni N ω c) (bt (λ_=>an G.iN) λ_=>bu (λ_=>hj _ ⟨G.nil,G.nil,yG,G.nil,G.nil,G.nil,trivial⟩) λ_=>hj _ G.iN)
end VM
end
section
namespace VM
open Go VM.F
theorem BQ(N:Nat)(hN:4000000≤N){c:ae}{l:aD}{m:Nat}(hm:m≤50000)(hc:G m aA c)(hl:L2 m l)(f:Bool):Ok (λr=>Bg 60000 r.1) (lF N c l f):=by
 have h1:=hl.1
 unfold lF lF.b
 refine bA (wP N ω c ω) (bt (λ_=>an (KL ω)) λhk=>bg (len:=l.length) (F:=λn i t=>lF.l5 N n l f c (false,(([]:List Int),())) t i) (λi t=>Bg (8+i) t) (KL ω) ω (λn i t hi ht hr=> ?_) (λn t ht=> ?_))
 all_goals unfold lF.l5 lF.ei
 ·rw[ax (x:=(i:Int)+1) ω ω,ag i,aJ]
  unfold mj at hk
  have hp:=bx (cO.1 hk).1 i hi
  unfold nq np at hp
  have in1: ∀{x y:Option (aH×Int)},Ok (λr=>Bg 60000 r.1) x→Ok (λr=>Bg 60000 r.1) (cond (ba (l.getD i cA).1 c.1.length) x y):=λh=>aB ⟨hp.1,hp.2.1⟩ h
  have hw: ∀q:Int,aE q→Ok (λr=>Bg 60000 r.1) ((jV N (l.getD i cA).2.1).bind λr3=>(WB N r3).bind λr4=>(jV N q).bind λr5=>(jS N r4 r5).bind λr6=>(zd N t r6).bind λr7=>lF.l5 N n l f c (false,(([]:List Int),())) r7 ((i+1:Nat):Int)):=λq hq=>
   af (bp N hN (G.at hl i).2.1) λx hx=>af (AN N hN ω hx) λx hx=>af (bp N hN hq) λy hy=>af (lG N hN ω ω hx hy) λz hz=>af (kS N hN ω ht (Bg.mono hz ω)) λu hu=>hr u (Bg.mono hu ω)
  exact aw (λ_=>aB ⟨ω,ω⟩ (in1 (pf (λ_=>aB ⟨ω,ω⟩ (in1 (aB ⟨ω,ω⟩ (hw _ (G.at hc.1 _).2.2.2.1)))) λ_=>aB ⟨ω,ω⟩ (hw _ (G.at hc.1 _).2.2.1)))) λ_=>ω
 ·exact aw (λ_=>ω) λ_=>an (Bg.mono ht ω)
theorem qu(N:Nat)(hN:200000≤N){b:aq}{m:Nat}(hm:m≤50000)(hb:G m aL b)(id:Int):Ok (λ_=>True) (HO N b id):=by
 unfold HO
 exact af (oB N hN hm hb.1 _) λ_ _=>eZ
theorem tK(N:Nat)(hN:200000≤N){b:aq}{m:Nat}(hm:m≤50000)(hb:G m aL b)(id:Int):Ok aE (HH N b id):=by
 unfold HH
 exact af (mu N hN hm hb.2.2.1 _ _) λr hr=>an hr
theorem XI(N:Nat)(hN:5000000≤N){c:ae}{b:aq}{m:Nat}(hm:m≤40000)(hc:G m aA c)(hb:G m aL b)(f to a:Int):Ok (λ_=>True) (aaZ N c b f to a):=by
 unfold aaZ aik
 have mb:=λid=>qu N ω ω hb id
 exact bA (dI N hN ω hb) (bt (λ_=>eZ) λ_=>af (xH N ω ω hb.2.1 _) λ_ _=>bt (λ_=>eZ) λ_=>af (mb _) λ_ _=>ok_eq (λ_=>eZ) λ_=>af (mb _) λ_ _=>ok_eq (λ_=>eZ) λ_=>bu (λ_=>eZ) λ_=>bu (λ_=>eZ) λ_=>af (mb _) λ_ _=>bu (λ_=>eZ) λ_=>af (NL N ω ω hb.2.2.2.1 _) λl hl=>af (Q:=λr=>Bg 60000 r.1) (af (BQ N ω ω hc hl _) λr hr=>an hr) λu hu=>af (tK N ω ω hb _) λg hg=>af (bp N ω hg) λx hx=>af (pJ N ω ω ω hx hu) λ_ _=>aw (λ_=>eZ) λ_=>eZ)
theorem aa0(N:Nat)(hN:5000000≤N){c:ae}{b:aq}{m:Nat}(hm:m≤40000)(hc:G m aA c)(hb:G m aL b)(f:Int){to:Int}(hto:aE to)(a:Int):Ok (λr=>G m aL r.1) (Uw N c b f to a):=by
 unfold Uw
 exact af (XI N hN hm hc hb _ _ _) λ_ _=>bu (λ_=>an G.iN) λ_=>af (QS N ω ω hb.1 hb.2.1 hto) λr hr=>bu (λ_=>an G.iN) λ_=>an ⟨hb.1,hr,hb.2.2⟩
theorem Ux(N:Nat)(hN:4000000≤N){x:aH}{q:Int}(hx:Bg 60000 x)(hq:aE q):Ok (λr=>0≤r∧r≤3) (ry N x q):=by
 unfold ry ry.b
 refine af (D5 N hx) λ_ _=>eg (λ_=>an δ) λ_=>aw (λ_=>an δ) λ_=>iy (len:=3) (F:=λn i (_:Unit)=>ry.l4 N n q x i) (λ_ _=>True) (λn i _ hi _ hr=> ?_) (λn _ _=> ?_) 3 N 1 () ω ω ω trivial
 all_goals unfold ry.l4 ry.dw
 ·rw[ax (x:=(i:Int)+1) ω ω,ag i]
  exact aw (λ_=>af (bp N hN (iM ω ω)) λa ha=>af (bp N hN hq) λb hb=>af (lG N hN ω ω ha hb) λy hy=>af (pJ N hN ω ω hy hx) λ_ _=>aw (λ_=>hr () trivial) λ_=>an ω) λ_=>ω
 ·exact aw (λ_=>ω) λ_=>an ω
theorem Sy(N:Nat)(hN:5000000≤N)(c:ae){b:aq}{m:Nat}(hm:m≤50000)(hb:G m aL b):Ok (λr=>G m (.slice (.int .i64)) r.1) (rz N c b):=by
 have hl:=hb.1.1
 unfold rz rz.b
 refine bA (dI N hN hm hb) (bt (λ_=>an G.nil) λ_=>bg (len:=b.1.length) (F:=λn i s=>rz.l5 N n b s i) (λi s=>G i (.slice (.int .i64)) s) G.nil ω (λn i s hi hI hr=> ?_) (λn s hI=> ?_))
 all_goals unfold rz.l5 rz.ei
 ·have hs:=hI.1
  rw[ax (x:=(i:Int)+1) ω ω,ag i]
  have h1:=hr s (G.mono ω hI)
  have hx:G 0 (.int .i64) (b.1.getD (i:Int).toNat cA).1:=(G.at hb.1 _).1
  exact aw (λ_=>aB ⟨ω,ω⟩ (ok_eq (λ_=>aB ⟨ω,ω⟩ (af (mu N ω hm hb.2.2.1 _ _) λ_ _=>aw (λ_=>aB ⟨ω,ω⟩ (aC (by rw[aI];omega) (hr _ (G.cat hI (G.one hx (aG 1)))))) λ_=>h1)) λ_=>h1)) λ_=>ω
 ·exact aw (λ_=>ω) λ_=>an (G.mono hl hI)
abbrev LL(m:Nat)(l:bz):Prop:=G m (.slice jk) l
theorem Gb(N:Nat)(hN:200000≤N){l:bz}{m:Nat}(hm:m≤50000)(h:LL m l)(id:Int):Ok (λr=>G m jk r.1) (qd N l id):=by
 have hl:=h.1
 unfold qd qd.b
 refine lW (len:=l.length) (F:=λn i=>qd.l2 N n l id ((0:Int),(ck,aV)) i) ω (λn i hi hr=> ?_) (λn=> ?_)
 all_goals unfold qd.l2 qd.gJ
 ·rw[ax (x:=(i:Int)+1) ω ω,ag i]
  exact aw (λ_=>aB ⟨ω,ω⟩ (ok_eq (λ_=>aB ⟨ω,ω⟩ (an (G.at h _))) λ_=>hr)) λ_=>ω
 ·exact aw (λ_=>ω) λ_=>an (G.zero m jk)
theorem Uy(N:Nat)(hN:4000000≤N){a b:aD}{m:Nat}(h6:6≤m)(hm:m≤40000)(ha:L2 m a)(hb:L2 m b):Ok (λr=>L2 m r.1) (eQ N a b):=by
 have hal:=ha.1
 have wa:=hb.1
 unfold eQ eQ.b
 refine bg (len:=6) (F:=λn i s=>eQ.l3 N n a b s i) (λi s=>L2 i s) G.nil ω (λn i s hi hI hr=> ?_) (λn s hI=> ?_)
 all_goals unfold eQ.l3 eQ.nO
 ·have hs:=hI.1
  refine aw (λ_=> ?_) λ_=>ω
  refine bg (len:=a.length) (F:=λn' j t=>eQ.l7 N (eQ.l3 N n) n' a b s (i:Int) t j) (λj t=>Bg (3+j) t) (KL ω) ω (λn' j t hj ht eO=> ?_) (λn' t ht=> ?_)
  all_goals unfold eQ.l7 eQ.q4
  ·rw[ax (x:=(j:Int)+1) ω ω,ag j]
   exact aw (λ_=>aB ⟨ω,ω⟩ (ok_eq (λ_=>aB ⟨ω,ω⟩ (af (bp N hN (G.at ha _).2.1) λr hr=>af (kS N hN ω ht (Bg.mono hr ω)) λu hu=>eO u (Bg.mono hu ω))) λ_=>eO t (Bg.mono ht ω))) λ_=>ω
  ·refine aw (λ_=>ω) λ_=> ?_
   refine bg (len:=b.length) (F:=λI8 j t=>eQ.p8 N (eQ.l3 N n) I8 a b s (i:Int) t j) (λj t=>Bg (3+a.length+j) t) ht ω (λI8 j t hj ht eO=> ?_) (λI8 t ht=> ?_)
   all_goals unfold eQ.p8 eQ.pF
   ·rw[ax (x:=(j:Int)+1) ω ω,ag j]
    exact aw (λ_=>aB ⟨ω,ω⟩ (ok_eq (λ_=>aB ⟨ω,ω⟩ (af (bp N hN (G.at hb _).2.1) λr hr=>af (kS N hN ω ht (Bg.mono hr ω)) λu hu=>eO u (Bg.mono hu ω))) λ_=>eO t (Bg.mono ht ω))) λ_=>ω
   ·rw[ax (x:=(i:Int)+1) ω ω,ag i]
    exact aw (λ_=>ω) λ_=>af (CT N ht) λv hv=>bt (λ_=>an G.nil) λ_=>bu (λ_=>aC (by rw[aI];omega) (hr _ (G.cat hI (G.one (m:=1) (G2 (iM ω ω) hv) (aG 1))))) λ_=>hr s (G.mono ω hI)
 ·exact aw (λ_=>ω) λ_=>an (G.mono h6 hI)
theorem NT(N:Nat)(hN:5000000≤N){c:ae}{b:aq}{QU:bz}{l:aK}{x:bO}{m:Nat}(h6:6≤m)(hm:m≤40000)(hc:G m aA c)(hb:G m aL b)(hL:LL m QU)(hl:G m (.slice eB) l)(hx:G 0 eB x):Ok (λ_=>True) (kT N c b QU l x):=by
 have G4:=hl.1
 have hLl:=hL.1
 have hal:=hb.2.1.1
 have Ii:=hb.2.2.2.2.2.1.1
 have hw:IM QU:=λy hy=>cm (hL.2 y hy).2.1.1 ω
 unfold kT kT.b
 have hj:Ok (λ_=>True) (kT.j3 N QU l c b x):=by
  unfold kT.j3 kT.j3b
  refine af (qu N ω ω hb _) λ_ _=>ok_eq (λ_=>eZ) λ_=>bu (λ_=>eZ) λ_=>af (Gb N ω ω hL _) λz hz=>bA (qp N ω ω _) (bt (λ_=>eZ) λ_=>bu (λ_=>eZ) λ_=>ok_eq (λ_=>eZ) λ_=>lW (len:=l.length) (F:=λn i=>kT.nT N n l c b x z.1 (nn b.2.1 x.2.2.1) i) ω (λn i hi hr=> ?_) (λn=> ?_))
  all_goals unfold kT.nT kT.mP
  ·rw[ax (x:=(i:Int)+1) ω ω,ag i]
   exact aw (λ_=>aB ⟨ω,ω⟩ (ok_eq (λ_=>aB ⟨ω,ω⟩ (ok_eq (λ_=>eZ) λ_=>hr)) λ_=>hr)) λ_=>ω
  ·refine aw (λ_=>ω) λ_=>ok_eq (λ_=>eZ) λ_=>af (bp N ω hx.2.2.2.1) λp hp=>af (bp N ω (show aE 4 from bm)) λq hq=>af (bp N ω hz.2.2.1) λr hr=>af (lG N ω ω ω hq hr) λu hu=>af (pJ N ω ω ω hp hu) λ_ _=>aw (λ_=>eZ) λ_=>af (NL N ω ω hb.2.2.2.1 _) λa ha=>af (Uy N ω h6 ω ha hz.2.1) λj hj=>bt (λ_=>eZ) λ_=> ?_
   unfold ail
   exact af (Q:=λr=>L3 6 r) (bA (ia N ω ω) (bt (λ_=>an G.nil) λ_=>af (F7 N ω ω _) λr hr=>an hr)) λo ho=>af (NK N ω ω hc hj (G.mono h6 ho)) λw hw=>af (tK N ω ω hb _) λg hg=>af (bp N ω hg) λv hv=>af (bp N ω hx.2.2.2.1) λp hp=>af (xG N ω ω hv hp) λd hd=>af (pJ N ω ω ω hd hw) λ_ _=>aw (λ_=>eZ) λ_=>eZ
 refine bA (dI N hN ω hb) (bt (λ_=>eZ) λ_=>bA (Az N ω c ω hw) (bt (λ_=>eZ) λ_=>bA (tH N ω ω) (bt (λ_=>eZ) λ_=>bA (Sd N _) (bt (λ_=>eZ) λ_=>aw (λ_=> ?_) λ_=>hj))))
 dsimp only
 exact aB (by rw[ax ω ω];omega) (eg (λ_=>eZ) λ_=>hj)
theorem Jf(N:Nat)(hN:5000000≤N){c:ae}{b:aq}{QU:bz}{l:aK}{x:bO}{m:Nat}(h6:6≤m)(hm:m≤40000)(hc:G m aA c)(hb:G m aL b)(hL:LL m QU)(hl:G m (.slice eB) l)(hx:G 0 eB x):Ok (λr=>G (m+1) (.slice eB) r.1) (aa1 N c b QU l x):=by
 have G4:=hl.1
 unfold aa1
 refine af (NT N hN h6 hm hc hb hL hl hx) λ_ _=>bu (λ_=>an G.nil) λ_=>aC (by rw[bU];omega) ?_
 dsimp only
 rw[cJ]
 exact aC (by rw[aI];omega) (an (G.cat hl (G.one hx (aG 1))))
end VM
end
