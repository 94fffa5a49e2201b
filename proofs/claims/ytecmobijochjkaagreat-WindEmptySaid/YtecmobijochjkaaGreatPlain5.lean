/- A part of the proof of WindEmpty of layer 21: what the functions compute, in plain words. -/
import Derived.Test.YtecmobijochjkaaGreatPlain4
set_option linter.all false
section
namespace VM
open Go VM.F
theorem F8(N:Nat)(hN:200000≤N){l:bs}(hl:l.length≤100000)(a:Int):Ok (λr=>L3 6 r) (g4 N l a):=by
 unfold g4 g4.b
 refine bc (len:=6) (F:=λn k (s:au)=>g4.l3 N n l a s k) (λk s=>L3 k s) G.nil ω (λn k s hk hI hr=> ?_) (λn s hI=> ?_)
 all_goals unfold g4.l3 g4.nO
 ·have hs:=hI.1
  refine aw (λ_=> ?_) λ_=>ω
  refine bc (len:=l.length) (F:=λn' i (x:da)=>g4.l7 N (g4.l3 N n) n' l a s (k:Int) x i) (λi x=>G 6 js x) (G3 (iO ω ω) bJ bJ) ω (λn' i x hi hx eM=> ?_) (λn' x hx=> ?_)
  all_goals unfold g4.l7 g4.q4
  ·rw[ay (x:=(i:Int)+1) ω ω,ag i]
   have h1:=eM x hx
   repeat' first|exact h1|refine aB ⟨ω,ω⟩ ?_|refine aw (λ_=> ?_) (λ_=> ?_)|refine bp (λ_=> ?_) (λ_=> ?_)|refine ok_eq (λ_=> ?_) (λ_=> ?_)|(exfalso;omega)|exact eM (_,(_,(_,_))) ⟨hx.1,fU _,hx.2.2.1,trivial⟩|exact eM (_,(_,(_,_))) ⟨hx.1,hx.2.1,fU _,trivial⟩
  ·rw[ay (x:=(k:Int)+1) ω ω,ag k]
   have h1:=hr s (G.mono ω hI)
   have h2:=hr (s++[x]) ⟨by rw[aS,aI];omega,λy hy=>by
    rcases a8.1 hy with hy|hy
    ·exact G.mono ω (hI.2 y hy)
    ·rw[bW.1 hy];exact⟨hx.1,hx.2.1,hx.2.2.1,trivial⟩⟩
   repeat' first|exact h1|exact h2|refine aC (by rw[aI];omega) ?_|refine aw (λ_=> ?_) (λ_=> ?_)|(exfalso;omega)
 ·exact aw (λ_=>ω) λ_=>ak hI
theorem Jc(N:Nat)(hN:200000≤N)(c:ae){l:au}(hl:l.length≤100000):Ok (λ_=>True) (p9 N c l):=by
 unfold p9 p9.b
 refine br (nf N ω c) (bw (λ_=>ak trivial) λ_=>kR (len:=l.length) (F:=λn i=>p9.l5 N n l c 33000000000 i) ω (λn i hi hr=> ?_) λn=> ?_)
 all_goals unfold p9.l5 p9.ed
 ·rw[ay (x:=(i:Int)+1) ω ω,ag i]
  dsimp only
  repeat' first|exact hr|exact ak trivial|refine aB ⟨ω,ω⟩ ?_|refine aB (by rw[ay (x:=(i:Int)-1) ω ω];omega) ?_|refine aw (λ_=> ?_) (λ_=> ?_)|refine dZ (λ_=> ?_) (λ_=> ?_)|refine ok_eq (λ_=> ?_) (λ_=> ?_)|(exfalso;omega)
 ·exact aw (λ_=>ω) λ_=>ak trivial
theorem KQ{k:Nat}(h:1≤k):Bg k (false,(([]:List Int),())):=Bg.mono Bg.zero h
theorem Xi(N:Nat)(hN:4000000≤N)(c:ae){l:aE}{o:au}{m:Nat}(hm:m≤50000)(hl:G m (.slice jB) l)(ho:L3 m o)(k:Int):Ok (λr=>Bg 3 r.1) (jh N c l o k):=by
 have h1:=hl.1
 have h2:=ho.1
 unfold jh jh.b
 refine br (wU N ω c ω) (bw (λ_=>ak (KQ ω)) λ_=>af (Jc N ω c ω) λ_ _=>bw (λ_=>ak (KQ ω)) λ_=>aw (λ_=>ak (KQ ω)) λ_=>dZ (λ_=>ak (KQ ω)) λ_=> ?_)
 refine bc (len:=l.length) (F:=λn i (q:aH)=>jh.l7 N n l o k (false,(([]:List Int),())) q (false,(([]:List Int),())) (false,(([]:List Int),())) i) (λ_ q=>Bg 2 q) (KQ ω) ω (λn i q hi hq hr=> ?_) (λn q hq=> ?_)
 all_goals unfold jh.l7 jh.q4
 ·rw[ay (x:=(i:Int)+1) ω ω,ag i]
  exact aw (λ_=>aB ⟨ω,ω⟩ (ok_eq (λ_=>aB ⟨ω,ω⟩ (af (bq N hN (G.at hl _).2.1) λr h=>hr r h)) λ_=>hr q hq)) λ_=>ω
 ·refine aw (λ_=>ω) λ_=> ?_
  refine bc (len:=o.length) (F:=λn i (z:aH×aH)=>jh.p7 N n o k (false,(([]:List Int),())) q z.1 z.2 i) (s:=(_,_)) (λ_ z=>Bg 2 z.1∧Bg 2 z.2) ⟨KQ ω,KQ ω⟩ ω (λn i z hi hz hr=> ?_) (λn z hz=> ?_)
  all_goals unfold jh.p7 jh.pD
  ·rw[ay (x:=(i:Int)+1) ω ω,ag i]
   exact aw (λ_=>aB ⟨ω,ω⟩ (ok_eq (λ_=>aB ⟨ω,ω⟩ (af (bq N hN (G.at ho _).2.1) λr h=>aB ⟨ω,ω⟩ (af (bq N hN (G.at ho _).2.2.1) λr' h'=>hr (r,r') ⟨h,h'⟩))) λ_=>hr z hz)) λ_=>ω
  ·exact aw (λ_=>ω) λ_=>af (kS N hN ω hq hz.1) λx hx=>af (AT N hN ω hx) λx hx=>af (xI N hN ω hq hz.2) λy hy=>af (AT N hN ω hy) λy hy=>af (pH N hN ω ω hy hx) λ_ _=>aw (λ_=>ak hy) λ_=>ak hx
theorem NQ(N:Nat)(hN:4000000≤N){c:ae}{l:aE}{o:au}{m:Nat}(hm:m≤50000)(hc:G m aA c)(hl:G m (.slice jB) l)(ho:L3 m o):Ok (λr=>Bg 60000 r.1) (qa N c l o):=by
 have h1:=hl.1
 have h2:=ho.1
 have h3:=hc.1.1
 unfold qa qa.b
 refine br (wU N ω c ω) (bw (λ_=>ak (KQ ω)) λ_=>af (Jc N ω c ω) λ_ _=>bw (λ_=>ak (KQ ω)) λ_=> ?_)
 refine bc (len:=c.1.length) (F:=λn i (t:aH)=>qa.l5 N n l o c (false,(([]:List Int),())) t i) (λi t=>Bg (8+i) t) (KQ ω) ω (λn i t hi ht hr=> ?_) (λn t ht=> ?_)
 all_goals unfold qa.l5 qa.ed
 ·rw[ay (x:=(i:Int)+1) ω ω,ag i]
  exact aw (λ_=>af (Xi N hN c hm hl ho _) λx hx=>aB ⟨ω,ω⟩ (af (bq N hN (G.at hc.1 _).2.2.1) λr h=>af (lG N hN ω ω hx h) λy hy=>af (kS N hN ω ht (Bg.mono hy ω)) λz hz=>hr z hz)) λ_=>ω
 ·exact aw (λ_=>ω) λ_=>ak (Bg.mono ht ω)
theorem amR{m:Nat}{l:au}(h:L3 m l)(a:Int):G m (.slice jB) (posOf l a):=by
 refine⟨cm (BL a l) h.1,λy hy=> ?_⟩
 unfold posOf at hy
 split at hy
 ·obtain⟨x,hx,_,e⟩:=je hy
  rw[e];exact⟨(h.2 x hx).2.1,(h.2 x hx).2.2.1,trivial⟩
 ·nomatch hy
theorem NR(N:Nat)(hN:200000≤N){l:au}{m:Nat}(hm:m≤50000)(h:L3 m l)(a:Int):Ok (G m (.slice jB)) (lE N l a):=nC (QC N (cm h.1 ω) hN a) (amR h a)
theorem F9(N:Nat)(hN:4000000≤N){c:ae}{b:an}{l:bs}{m:Nat}(h2:200≤m)(hm:m≤40000)(hc:G m aA c)(hb:G m aL b)(hl:l.length≤1000)(a:Int):Ok (Bg 60000) (Xj N c b a l):=by
 have ho:=hb.2.2.2.2.2.1.1
 unfold Xj
 refine aC (by rw[bU];omega) ?_
 dsimp only
 rw[cJ]
 exact aC ω (af (NR N ω ω hb.2.2.2.1 a) λr h=>af (F8 N ω (by rw[aS];omega) a) λo h'=>af (NQ N hN ω hc h (G.mono ω h')) λx hx=>ak hx)
end VM
end
section
namespace VM
open Go VM.F
theorem aaH(N:Nat)(hN:4000000≤N){o:gm}{m:Nat}(ho:G m mQ o)(a:Int):Ok (λr=>Bg 4 r.1) (aaI N o a):=by
 unfold aaI
 have hw: ∀x:Int,Ok (λr:aH×Int=>Bg 4 r.1) ((jz N o.2.2.2.2.1).bind λr5=>(jz N (W .i64 x)).bind λr6=>(jR N r5 r6).bind λr7=>some (r7,(0:Int))):=λx=>
  af (bq N hN ho.2.2.2.2.1) λr h=>af (bq N hN (fU _)) λr' h'=>af (lG N hN ω ω h h') λy hy=>ak hy
 exact br (Ap N o) (bw (λ_=>ak (KQ ω)) λ_=>br (iJ N a) (bw (λ_=>ak (KQ ω)) λ_=>ok_eq (λ_=>aw (λ_=>ak (KQ ω)) λ_=>hw _) λ_=>aw (λ_=>ak (KQ ω)) λ_=>hw _))
theorem ah1{m:Nat}{a:aK}(h:G m (.slice eB) a)(id:Int):G m eB (fc a id).1:=by
 unfold fc
 split
 ·have: ∀l:aK,(∀x∈l,G m eB x)→G m eB (tE id l).1:=by
   intro l
   induction l with
   |nil=>intro _;exact G.zero m eB
   |cons x t ih=>
    intro hx
    rw[og]
    split
    ·exact hx x (bm ..)
    ·exact ih λy hy=>hx y (aZ _ hy)
  exact this a h.2
 ·exact G.zero m eB
theorem xJ(N:Nat)(hN:200000≤N){a:aK}{m:Nat}(hm:m≤50000)(h:G m (.slice eB) a)(id:Int):Ok (λr=>G m eB r.1) (Vi N a id):=nC (wO N (cm h.1 ω) hN id) (ah1 h id)
theorem oz(N:Nat)(hN:200000≤N){a:aE}{m:Nat}(hm:m≤50000)(h:G m (.slice jB) a)(id:Int):Ok (λ_=>True) (Qq N a id):=nC (mf N (cm h.1 ω) hN id) trivial
theorem mq(N:Nat)(hN:200000≤N){l:au}{m:Nat}(hm:m≤50000)(h:L3 m l)(a b:Int):Ok aD (s6 N l a b):=nC (uM N (cm h.1 ω) hN a b) (AH (λx hx=>(h.2 x hx).2.2.1) a b)
theorem Ga(N:Nat)(hN:200000≤N){a:aK}{m:Nat}(hm:m≤50000)(h:G m (.slice eB) a)(id:Int):Ok (λr=>G m eB r.1∧r=fc a id) (Vi N a id):=by
 obtain⟨r,e,hr⟩:=xJ N hN hm h id
 exact⟨r,e,hr,oG (e.symm.trans (wO N (cm h.1 ω) hN id))⟩
theorem AU(N:Nat)(hN:5000000≤N){c:ae}{b:an}{o:gm}{m:Nat}(h2:200≤m)(hm:m≤40000)(hc:G m aA c)(hb:G m aL b)(ho:G m mQ o):Ok (λe=>e=0→q6 o∧(fc b.2.1 o.2.1).2=true∧nS o.2.2.1 c.1.length) (Xk N c b o):=by
 have bad: ∀e:Int,e≠0→Ok (λe:Int=>e=0→q6 o∧(fc b.2.1 o.2.1).2=true∧nS o.2.2.1 c.1.length) (some e):=λe h=>ak λh'=>absurd h' h
 have Il:=hb.2.2.2.2.2.1.1
 unfold Xk
 refine br (dH N hN ω hb) (bw (λ_=>bad _ δ) λhB=>br (Ap N o) (bw (λ_=>bad _ δ) λYV=>af (Ga N ω ω hb.2.1 _) λx ⟨hx,hx2⟩=>bw (λ_=>bad _ δ) λhf=>af (oz N ω ω hb.1 _) λ_ _=>bp (λ_=>bad _ δ) λ_=>dZ (λ_=>bad _ δ) λhi=>aC (by rw[bU];omega) ?_))
 have hr:=bz YV
 unfold q6 yU at hr
 obtain⟨hp,_⟩:=ic hB
 dsimp only
 rw[cJ]
 exact aC (by rw[aI];omega) (af (NR N ω ω hb.2.2.2.1 _) λr h=>af (F8 N ω (by rw[aS,aI];omega) _) λq h'=>af (Xi N ω c ω h (G.mono ω h') _) λt ht=>af (bq N ω hx.2.2.2.1) λv hv=>af (pH N ω ω ω ht hv) λ_ _=>aw (λ_=>bad _ δ) λ_=>aB ⟨hr.2.2.1.1,by rw[hp];exact hi⟩ (af (aaH N ω ho _) λe he=>af (mq N ω ω hb.2.2.1 _ _) λg hg=>af (bq N ω hg) λy hy=>af (xI N ω ω (Bg.mono hy ω) he) λz hz=>af (F9 N ω h2 hm hc hb (by rw[aI];omega) _) λu hu=>af (pH N ω ω ω hz hu) λ_ _=>aw (λ_=>bad _ δ) λ_=>ak λ_=>⟨bz YV,by rw[←hx2];exact hf,hi⟩))
theorem Sp(N:Nat)(hN:5000000≤N){c:ae}{b:an}{h:bI}{a q p:Int}{m:Nat}(h2:200≤m)(hm:m≤40000)(hc:G m aA c)(hb:G m aL b)(hh:G m eB h)(ha:aD a)(hq:aD q)(hp:aD p):Ok (λr=>G m aL r.1∧G m eB r.2.1) (pI N c b h a q p):=by
 have ho:G m mQ (h.1,(a,(h.2.1,(W .i64 (3-h.2.2.1),(q,(p,())))))):=⟨hh.1,ha,hh.2.1,fU _,hq,hp,trivial⟩
 have dI: ∀e:Int,Ok (λr:an×bI×Int=>G m aL r.1∧G m eB r.2.1) (some ((ck,(c8,(bG,(bG,(dC,(dQ,())))))),(aV,e))):=λe=>ak ⟨G.iP,G.zero m eB⟩
 unfold pI pI.b
 have hj: ∀t:sW,Ok (λr=>G m aL r.1∧G m eB r.2.1) (pI.Vj N q c b h (ck,(c8,(bG,(bG,(dC,(dQ,())))))) aV t):=λt=>by
  unfold pI.Vj pI.NS
  exact af (Ja N hN c h2 ω hb) λr hr=>bp (λ_=>dI _) λ_=>ak ⟨hr,hh.1,hh.2.1,hh.2.2.1,fU _,trivial⟩
 exact br (dH N hN ω hb) (bw (λ_=>dI _) λ_=>br (w6 N h) (bw (λ_=>dI _) λ_=>aw (λ_=>dI _) λ_=>aw (λ_=>dI _) λ_=>aw (λ_=>dI _) λ_=>aw (λ_=>dI _) λ_=>aw (λ_=>dI _) λ_=>aw (λ_=>dI _) λ_=>aw (λ_=>dI _) λ_=>af (AU N hN h2 hm hc hb ho) λe _=>bp (λ_=>dI _) λ_=>ok_eq (λ_=>hj _) λ_=>hj _))
end VM
end
section
namespace VM
open Go VM.F
def Dk(k:Nat)(d:aM):Prop:=(∀x∈(d.1:List Int),0≤x∧x<18446744073709551616)∧0≤(d.2.1:Int)∧(d.2.1:Int)≤k
theorem Dk.mono{j k:Nat}{d:aM}(h:Dk j d)(hk:j≤k):Dk k d:=⟨h.1,h.2.1,fi h.2.2 ω⟩
def ku:Nat:=1000000000
theorem D7(N:Nat){k:Nat}{d:aM}(hk:k≤ku)(h:Dk k d):Ok (λr=>(0≤r.1∧r.1<18446744073709551616)∧Dk (k+1) r.2) (F62 N d):=by
 obtain⟨h1,h2,h3⟩:=h
 unfold ku at hk
 unfold F62
 have hw: ∀i:Int,0≤i→i≤(k:Int)→0≤W .i64 (i+1)∧W .i64 (i+1)≤((k+1:Nat):Int):=λi h0 h1=>by rw[ay ω ω];omega
 have hd:Dk (k+1) (d.1,(W .i64 (d.2.1+1),d.2.2)):=⟨h1,hw _ h2 h3⟩
 have hg: ∀(l:List Int) (i:Int),(∀x∈l,0≤x∧x<18446744073709551616)→0≤l.getD i.toNat 0∧l.getD i.toNat 0<18446744073709551616:=λl i hl=>by
  by_cases hi:i.toNat<l.length
  ·rw[aU,bk hi];exact hl _ (dB hi)
  ·rw[aU,gG ω];decide
 exact aw (λe9=>aB ⟨h2,e9⟩ (ak ⟨hg _ _ h1,hd⟩)) λ_=>ak ⟨(show(0:Int)≤0∧(0:Int)<18446744073709551616 by decide),hd⟩
theorem rem_in{x y:Int}(h0:0≤x)(hy:0<y):0≤rem x y∧rem x y<y:=by
 unfold rem;rw[iD]
 exact⟨Int.tmod_nonneg _ h0,En _ hy⟩
theorem iQ(N:Nat){k:Nat}{d:aM}{n:Int}(hn:0<n∧n<1000000)(h:Dk k d)(hk:k≤ku:=by first|decide|(unfold ku;omega)):Ok (λr=>(0≤r.1∧r.1<n)∧Dk (k+1) r.2) (pQ N d n):=by
 unfold pQ
 refine af (D7 N hk h) λr hr=> ?_
 dsimp only
 rw[dV (x:=n) ω ω]
 have:=rem_in hr.1.1 hn.1
 refine ok_eq (λ_=>ω) λ_=>ak ⟨?_,hr.2⟩
 dsimp only
 rw[ay ω ω]
 exact this
theorem pJ(N:Nat){k:Nat}{d:aM}{n:Int}(hn:0<n∧n<1000000)(h:Dk k d)(hk:k≤ku:=by first|decide|(unfold ku;omega)):Ok (λr=>Dk (k+1) r.2) (QN N d n):=by
 unfold QN
 exact af (iQ N hn h hk) λr hr=>ak hr.2
theorem D8(N:Nat){k:Nat}{d:aM}(h:Dk k d)(hk:k≤ku:=by first|decide|(unfold ku;omega)):Ok (λr=>aD r.1∧Dk (k+1) r.2) (LD N d):=by
 unfold LD
 refine af (D7 N hk h) λr hr=>ok_eq (λ_=>ω) λ_=> ?_
 dsimp only
 repeat' first|exact ak ⟨fU _,hr.2⟩|refine aw (λ_=> ?_) (λ_=> ?_)|refine ok_eq (λ_=> ?_) (λ_=> ?_)|(exfalso;omega)
theorem Xl{x y:Int}(hy:0<y)(hy1:y<9223372036854775808):aD (rem x y):=by
 unfold rem;rw[iD]
 have h1:=En x hy
 have h2: -y<x.tmod y:=by
  have:=En (-x) hy
  rw[Int.neg_tmod]at this;omega
 unfold aD;omega
theorem AV{x y:Int}(hx:aD x)(hy:aD y):aD (mx x y):=by unfold mx;rw[iD];split<;>assumption
theorem Xm{x y:Int}(hx:aD x)(hy:aD y):aD (mn x y):=by unfold mn;rw[iD];split<;>assumption
theorem QO{x n:Int}(h:0≤x∧x<n)(hn:n≤1000000):aD x:=iO ω ω
abbrev vk(m:Nat)(l:cT):Prop:=G m (.slice kX) l
theorem rW{k a b c d e f g:Int}{m:Nat}(h0:aD k)(h1:aD a)(h2:aD b)(h3:aD c)(h4:aD d)(h5:aD e)(h6:aD f)(h7:aD g):G m kX (k,(a,(b,(c,(d,(e,(f,(g,())))))))):=⟨h0,h1,h2,h3,h4,h5,h6,h7,trivial⟩
theorem bh{x:Int}(h: -1000000≤x∧x≤1000000:=by decide):aD x:=iO h.1 h.2
theorem KR(N:Nat){k:Nat}{d:aM}(h:Dk k d)(c:ae){i:Int}(hi:0≤i∧i<(c.1.length:Int))(hc:c.1.length≤5)(hk:k≤100000000):Ok (λr=>G 0 kX r.1∧Dk (k+5) r.2) (Uh N d c i):=by
 unfold Uh
 have hb:aD 1000000000000:=by unfold aD;decide
 have m4:aD i:=iO ω ω
 exact aB hi (af (iQ N δ h) λa ⟨_,hd⟩=>af (pJ N δ hd) λr hd=>pe (λ_=>af (D8 N hd) λr ⟨_,hd⟩=>ok_eq (λ_=>ω) λ_=>ak ⟨rW bh bh bh m4 bh bh bh (fU _),Dk.mono hd ω⟩) λ_=>ak ⟨rW bh bh bh m4 bh bh bh (AV bh (Xm hb (fU _))),Dk.mono hd ω⟩)
theorem NT(N:Nat){k:Nat}{d:aM}(h:Dk k d)(c:ae)(U9:1≤c.1.length)(hc:c.1.length≤5)(hk:k≤100000000):Ok (λr=>G 0 kX r.1∧Dk (k+10) r.2) (Xn N d c):=by
 unfold Xn
 have hb:aD 1000000000000:=by unfold aD;decide
 refine af (iQ N ⟨ω,ω⟩ h) λa ⟨ha,hd⟩=>af (iQ N δ hd) λb ⟨eY,hd⟩=> ?_
 dsimp only
 refine af (iQ N δ hd) λe ⟨he,hd⟩=>af (iQ N δ hd) λf ⟨hf,hd⟩=>aB ha (af (iQ N δ hd) λg ⟨_,hd⟩=>af (pJ N δ hd) λr hd=>pe (λ_=>af (D8 N hd) λr ⟨_,hd⟩=>ok_eq (λ_=>ω) λ_=>af (D8 N hd) λr' ⟨_,hd⟩=>ok_eq (λ_=>ω) λ_=>ak ⟨rW bh bh (fU _) (QO ha ω) (fU _) bh (fU _) (fU _),Dk.mono hd ω⟩) λ_=>ak ⟨rW bh bh (fU _) (QO ha ω) (fU _) bh (fU _) (AV bh (Xm hb (fU _))),Dk.mono hd ω⟩)
end VM
end
section
namespace VM
open Go VM.F
structure Cf(c:ae):Prop where
 g:G 5 aA c
 n:1≤c.1.length
theorem Gb(N:Nat){k:Nat}{d:aM}(h:Dk k d){c:ae}(hc:Cf c)(hk:k≤10000000):Ok (λr=>G 0 kX r.1∧Dk (k+20) r.2) (Ui N d c):=by
 have hn:=hc.n
 have hl:=hc.g.1.1
 unfold Ui
 refine af (iQ N δ h) λa ⟨ha,hd⟩=> ?_
 dsimp only
 refine af (iQ N δ hd) λb ⟨hb,hd⟩=>af (iQ N ⟨ω,ω⟩ hd) λi ⟨hi,hd⟩=>af (iQ N δ hd) λe ⟨he,hd⟩=> ?_
 have hz: ∀(e:gO) (j:Nat) (d:aM),G 0 kX e→Dk j d→j≤k+20→Ok (λr=>G 0 kX r.1∧Dk (k+20) r.2) (some (e,d)):=λe j d he hd hj=>ak ⟨he,Dk.mono hd hj⟩
 have hs: ∀{f:Int×aM→Option (gO×aM)},(∀x d,aD x→Dk (k+5) d→Ok (λr=>G 0 kX r.1∧Dk (k+20) r.2) (f (x,d)))→Ok (λr=>G 0 kX r.1∧Dk (k+20) r.2) ((LD N e.2).bind f):=λhf=>af (D8 N hd) λr ⟨h1,h2⟩=>hf r.1 r.2 h1 (Dk.mono h2 ω)
 have hm: ∀{n:Int} {f:Int×aM→Option (gO×aM)},0<n∧n<1000000→(∀x d,Dk (k+5) d→Ok (λr=>G 0 kX r.1∧Dk (k+20) r.2) (f (x,d)))→Ok (λr=>G 0 kX r.1∧Dk (k+20) r.2) ((pQ N e.2 n).bind f):=λhn hf=>af (iQ N hn hd) λr ⟨h1,h2⟩=>hf r.1 r.2 (Dk.mono h2 ω)
 repeat' first
  |refine ok_eq (λ_=> ?_) (λ_=> ?_)
  |(exfalso;omega)
  |(refine hs λx d' hx ZN=> ?_;dsimp only)
  |(refine hm δ λx d' ZN=> ?_;dsimp only)
  |(refine hz _ _ _ ?_ hd ω;refine⟨?_,?_,?_,?_,?_,?_,?_,?_,trivial⟩<;>first|exact fU _|exact bJ|exact AV hx bh|exact Xl δ δ|exact(G.at hc.g.1 _).2.1)
  |(refine hz _ _ _ ?_ ZN ω;refine⟨?_,?_,?_,?_,?_,?_,?_,?_,trivial⟩<;>first|exact fU _|exact bJ|exact AV hx bh|exact Xl δ δ|exact(G.at hc.g.1 _).2.1)
  |(refine hz _ _ _ ?_ h2 ω;refine⟨?_,?_,?_,?_,?_,?_,?_,?_,trivial⟩<;>first|exact fU _|exact bJ|exact AV hx bh|exact Xl δ δ|exact(G.at hc.g.1 _).2.1)
  |exact af (KR N hd c hi hl ω) λr ⟨h1,h2⟩=>hz _ _ _ h1 h2 ω
  |exact af (NT N hd c hn hl ω) λr ⟨h1,h2⟩=>hz _ _ _ h1 h2 ω
  |refine aB hi ?_
  |(refine af (iQ N δ ZN) λr ⟨h1,h2⟩=> ?_)
end VM
end
section
namespace VM
open Go VM.F
theorem G.cat{m n:Nat}{e:Ty}{l k:List e.den}(h:G m (.slice e) l)(h':G n (.slice e) k):G (m+n) (.slice e) (l++k):=
 ⟨by have:=h.1;have:=h'.1;rw[aS];omega,λy hy=>by
  rcases a8.1 hy with hy|hy
  ·exact G.mono ω (h.2 y hy)
  ·exact G.mono ω (h'.2 y hy)⟩
theorem G.two{m:Nat}{e:Ty}{a b:e.den}(ha:G 0 e a)(hb:G 0 e b)(hm:2≤m):G m (.slice e) [a,b]:=
 ⟨hm,λy hy=>by
  rcases aW.1 hy with rfl|hy
  ·exact G.mono ω ha
  ·rw[bW.1 hy];exact G.mono ω hb⟩
theorem G.one{m:Nat}{e:Ty}{a:e.den}(ha:G 0 e a)(hm:1≤m):G m (.slice e) [a]:=
 ⟨hm,λy hy=>by rw[bW.1 hy];exact G.mono ω ha⟩
theorem xK{α:Type}(a b:α):[a,b].length=2:=rfl
theorem QP(N:Nat)(hN:100≤N){k:Nat}{d:aM}(h:Dk k d)(c:ae)(hk:k≤10000000):Ok (λr=>vk 40 r.1∧Dk (k+50) r.2) (fQ N d c):=by
 have s64: ∀i:Nat,i<100→aD (i:Int):=λi hi=>iO ω ω
 unfold fQ fQ.b
 refine iB (len:=5) (F:=λn i (s:aM×cT)=>fQ.l3 N n s.1 s.2 i) (λi s=>Dk (k+2*i) s.1∧vk (3*i) s.2) (λn i s hi hI hr=> ?_) (λn s hI=> ?_) 5 N 1 (d,[]) ω ω ω ⟨Dk.mono h ω,G.nil⟩
 all_goals unfold fQ.l3 fQ.nO
 ·have hl:=hI.2.1
  have m4:=s64 i ω
  dsimp only
  rw[ay (x:=(i:Int)+1) ω ω,ag i]
  have h2:vk (3*i+2) (s.2++[((1:Int),((i:Int),fa)),((2:Int),((i:Int),((i:Int),((0:Int),((1:Int),bl)))))]):=G.cat hI.2 (G.two (rW bh m4 bJ bJ bJ bJ bJ bJ) (rW bh m4 m4 bJ bh bJ bJ bJ) ω)
  have hl2:=h2.1
  exact dZ (λ_=>aC (by rw[xK];omega) (af (pJ N δ hI.1 (by unfold ku;omega)) λr hd=>bw (λ_=>af (iQ N δ hd (by unfold ku;omega)) λr ⟨_,hd⟩=>aC (by rw[aI];omega) (hr (_,_) ⟨Dk.mono hd ω,G.mono ω (G.cat h2 (G.one (m:=1) (rW bh m4 bJ bJ bJ bJ (fU _) bJ) ω))⟩)) λ_=>hr (_,_) ⟨Dk.mono hd ω,G.mono ω h2⟩)) λ_=>ω
 ·refine dZ (λ_=>ω) λ_=> ?_
  refine iB (len:=8) (F:=λn i (s:aM×cT)=>fQ.l9 N n s.1 s.2 i) (λi s=>Dk (k+10+i) s.1∧vk (15+i) s.2) (λn i s hi hI hr=> ?_) (λn s hI=> ?_) 8 N 5 s ω ω ω ⟨Dk.mono hI.1 ω,G.mono ω hI.2⟩
  all_goals unfold fQ.l9 fQ.xA
  ·have hl:=hI.2.1
   dsimp only
   rw[ay (x:=(i:Int)+1) ω ω,ag i]
   exact dZ (λ_=>af (iQ N δ hI.1 (by unfold ku;omega)) λr ⟨_,hd⟩=>aC (by rw[aI];omega) (hr (_,_) ⟨Dk.mono hd ω,G.mono ω (G.cat hI.2 (G.one (m:=1) (rW bh (fU _) (s64 i ω) bJ bh bJ bJ bJ) ω))⟩)) λ_=>ω
  ·refine dZ (λ_=>ω) λ_=> ?_
   refine iB (len:=8) (F:=λn i (s:aM×cT)=>fQ.lj N n s.1 s.2 i) (λi s=>Dk (k+18+2*i) s.1∧vk (23+2*i) s.2) (λn i s hi hI hr=> ?_) (λn s hI=> ?_) 8 N 1 s ω ω ω ⟨Dk.mono hI.1 ω,G.mono ω hI.2⟩
   all_goals unfold fQ.lj fQ.kP
   ·have hl:=hI.2.1
    have m4:=s64 i ω
    dsimp only
    rw[ay (x:=(i:Int)+1) ω ω,ag i]
    exact dZ (λ_=>af (iQ N δ hI.1 (by unfold ku;omega)) λr ⟨_,hd⟩=>af (iQ N δ hd (by unfold ku;omega)) λr ⟨_,hd⟩=>aC (by rw[xK];omega) (hr (_,_) ⟨Dk.mono hd ω,G.mono ω (G.cat hI.2 (G.two (m:=2) (rW bh bJ m4 bJ bJ bJ (fU _) bJ) (rW bh bJ m4 bJ bJ bJ (fU _) bJ) ω))⟩)) λ_=>ω
   ·exact dZ (λ_=>ω) λ_=>ak ⟨G.mono ω hI.2,Dk.mono hI.1 ω⟩
theorem KS{x:Nat}(h:x<1000000):W .i64 (((x+1:Nat):Int)-1)=(x:Int):=by rw[ay ω ω];omega
theorem Jd(N:Nat)(hN:1000≤N){k:Nat}{d:aM}(h:Dk k d){c:ae}(hc:Cf c){w8:Int}(hm:0≤w8∧w8≤100)(hk:k≤10000):Ok (λr=>vk 200 r.1∧Dk (k+3000) r.2) (pK N d c w8):=by
 have hn:=hc.n
 have hl:=hc.g.1.1
 unfold pK pK.b
 rw[ay (x:=w8+1) ω ω]
 refine af (QP N ω h c ω) λr ⟨yQ,hd⟩=>af (iQ N ⟨ω,ω⟩ hd (by unfold ku;omega)) λz ⟨hz,hd⟩=> ?_
 obtain⟨j,hj⟩: ∃j:Nat,z.1=(j:Int):=⟨z.1.toNat,ω⟩
 rw[hj]
 refine xH (F:=λn x (s:aM×cT)=>pK.l3 N n s.1 c s.2 x) (λx s=>x≤100∧Dk (k+100+25*(100-x)) s.1∧vk (40+(100-x)) s.2) (λn x s hI hr=> ?_) (λn s hI=> ?_) j N (z.2,r.1) ω ⟨ω,Dk.mono hd ω,G.mono ω yQ⟩
 all_goals unfold pK.l3 pK.nO
 ·obtain⟨hx,hd,hG⟩:=hI
  have hs:=hG.1
  rw[KS ω]
  have put: ∀(e:gO) (d:aM) (q:Nat),G 0 kX e→Dk q d→q≤k+100+25*(100-(x+1))+25→Ok (λr=>vk 200 r.1∧Dk (k+3000) r.2) (cond (small (s.2.length+[e].length)) (pK.l3 N n d c (s.2++[e]) (x:Int)) none):=λe d q he hd hq=>aC (by rw[aI];omega) (hr (_,_) ⟨ω,Dk.mono hd ω,G.mono ω (G.cat hG (G.one (m:=1) he ω))⟩)
  exact aw (λ_=>af (iQ N δ hd (by unfold ku;omega)) λa ⟨_,hd⟩=>ok_eq (λ_=>af (Gb N hd hc ω) λr ⟨h1,h2⟩=>put _ _ _ h1 h2 ω) λ_=>ok_eq (λ_=>af (iQ N ⟨ω,ω⟩ hd (by unfold ku;omega)) λb ⟨hb,hd⟩=>af (KR N hd c hb hl ω) λr ⟨h1,h2⟩=>put _ _ _ h1 h2 ω) λ_=>af (NT N hd c hn hl ω) λr ⟨h1,h2⟩=>put _ _ _ h1 h2 ω) λ_=>ω
 ·exact aw (λ_=>ω) λ_=>ak ⟨G.mono ω hI.2.2,Dk.mono hI.2.1 ω⟩
theorem tL(N:Nat)(hN:1000≤N){k:Nat}{d:aM}(h:Dk k d){c:ae}(hc:Cf c)(hk:k≤100000):Ok (λr=>vk 3 r.1∧Dk (k+100) r.2) (nD N d c):=by
 have hn:=hc.n
 have hl:=hc.g.1.1
 unfold nD nD.b
 refine af (iQ N δ h (by unfold ku;omega)) λz ⟨hz,hd⟩=> ?_
 obtain⟨j,hj⟩: ∃j:Nat,z.1=(j:Int):=⟨z.1.toNat,ω⟩
 rw[hj]
 refine xH (F:=λn x (s:aM×cT)=>nD.l3 N n s.1 c s.2 x) (λx s=>x≤3∧Dk (k+1+25*(3-x)) s.1∧vk (3-x) s.2) (λn x s hI hr=> ?_) (λn s hI=> ?_) j N (z.2,[]) ω ⟨ω,Dk.mono hd ω,G.nil⟩
 all_goals unfold nD.l3 nD.nO
 ·obtain⟨hx,hd,hG⟩:=hI
  have hs:=hG.1
  rw[KS ω]
  have put: ∀(e:gO) (d:aM) (q:Nat),G 0 kX e→Dk q d→q≤k+1+25*(3-(x+1))+25→Ok (λr=>vk 3 r.1∧Dk (k+100) r.2) (cond (small (s.2.length+[e].length)) (nD.l3 N n d c (s.2++[e]) (x:Int)) none):=λe d q he hd hq=>aC (by rw[aI];omega) (hr (_,_) ⟨ω,Dk.mono hd ω,G.mono ω (G.cat hG (G.one (m:=1) he ω))⟩)
  exact aw (λ_=>af (pJ N δ hd (by unfold ku;omega)) λa hd=>pe (λ_=>af (iQ N ⟨ω,ω⟩ hd (by unfold ku;omega)) λb ⟨hb,hd⟩=>af (KR N hd c hb hl ω) λr ⟨h1,h2⟩=>put _ _ _ h1 h2 ω) λ_=>af (Gb N hd hc ω) λr ⟨h1,h2⟩=>put _ _ _ h1 h2 ω) λ_=>ω
 ·exact aw (λ_=>ω) λ_=>ak ⟨G.mono ω hI.2.2,Dk.mono hI.2.1 ω⟩
end VM
end
section
namespace VM
open Go VM.F
theorem eZ{α:Type}{r:α}:Ok (λ_=>True) (some r):=ak trivial
theorem Uj(N:Nat)(k:Int):Ok (λs=>ByteArray.size s≤100) (aaJ N k):=by
 unfold aaJ
 repeat' first|refine ok_eq (λ_=> ?_) (λ_=> ?_)|exact ak δ
theorem Uk(N:Nat)(k f:Int):Ok (λ_=>True) (aaK N k f):=by
 unfold aaK ah2 ah3
 repeat' first|refine ok_eq (λ_=> ?_) (λ_=> ?_)|exact eZ|refine af (Q:=λ_=>True) ?_ λ_ _=>eZ
theorem Xo(N:Nat)(e:gO)(f:Int):Ok (λ_=>True) (aaL N e f):=by
 unfold aaL
 repeat' first|refine ok_eq (λ_=> ?_) (λ_=> ?_)|exact eZ
theorem Xp(N:Nat)(e:gO)(f x:Int):Ok (λ_=>True) (aaM N e f x):=by
 unfold aaM
 repeat' first|refine ok_eq (λ_=> ?_) (λ_=> ?_)|exact eZ
theorem Je(N:Nat)(hN:1000≤N)(e:gO):Ok (λ_=>True) (rr N e):=by
 unfold rr rr.b ah4
 refine af (Q:=λ_=>True) (dZ (λ_=>eZ) λ_=>eZ) λ_ _=>bw (λ_=>eZ) λ_=>af (Uj N _) λs hs=> ?_
 refine bc (len:=ByteArray.size s) (F:=λn i (x:gO)=>rr.l6 N n e s x i) (λ_ _=>True) trivial ω (λn i x hi _ hr=> ?_) (λn x _=> ?_)
 all_goals unfold rr.l6 rr.uw
 ·rw[ay (x:=(i:Int)+1) ω ω,ag i]
  exact aw (λ_=>aB ⟨ω,ω⟩ (af (Uk N _ _) λ_ _=>aB ⟨ω,ω⟩ (af (Xo N _ _) λ_ _=>aw (λ_=>eZ) λ_=>aw (λ_=>eZ) λ_=>aB ⟨ω,ω⟩ (af (Xp N _ _ _) λy _=>hr y trivial)))) λ_=>ω
 ·exact aw (λ_=>ω) λ_=>eZ
theorem G.ins{m:Nat}{e:Ty}{l:List e.den}{x:e.den}(h:G m (.slice e) l)(hx:G m e x)(a b c:Nat)(ha:c≤a):G (m+1) (.slice e) ((([]++List.drop b (List.take c l))++[x])++List.drop a (List.take l.length l)):=by
 have:=h.1
 refine⟨?_,λy hy=> ?_⟩
 ·simp only[cJ,aS,dR,cc,aI];omega
 ·rw[cJ,bt]at hy
  rcases a8.1 hy with hy|hy
  ·exact G.mono ω (h.2 y (lM (mS hy)))
  ·rcases a8.1 hy with hy|hy
   ·rw[bW.1 hy];exact G.mono ω hx
   ·exact G.mono ω (h.2 y (lM (mS hy)))
theorem KT{α:Type}{P:List α×Int→Prop}{l:List α}{x:α}{k:Nat}{e:Int}(hk:k≤l.length)(hl:l.length≤1000000)(h:P ((([]++List.drop (0:Int).toNat (List.take (k:Int).toNat l))++[x])++List.drop (k:Int).toNat (List.take (l.length:Int).toNat l),e)):
  Ok P (cond (jY 0 (k:Int) (l.length:Int) (l.length:Int)) (let v6:List α:=List.drop (0:Int).toNat (List.take (k:Int).toNat l);cond (small (([]:List α).length+v6.length)) (let v7:List α:=[]++v6;cond (small (v7.length+[x].length)) (let v8:List α:=v7++[x];cond (jY (k:Int) (l.length:Int) (l.length:Int) (l.length:Int)) (let v9:List α:=List.drop (k:Int).toNat (List.take (l.length:Int).toNat l);cond (small (v8.length+v9.length)) (some ((v8++v9),e)) none) none) none) none) none):=by
 dsimp only
 have t: ∀a b:Nat,(List.drop a (List.take b l)).length≤l.length:=λa b=>by rw[dR,cc];omega
 have t1:=t (0:Int).toNat (k:Int).toNat
 have t2:=t (k:Int).toNat (l.length:Int).toNat
 refine BR ⟨ω,ω,ω,ω⟩ (aC (by rw[bU];omega) (aC ?_ (BR ⟨ω,ω,ω,ω⟩ (aC ?_ (ak h)))))
 ·rw[cJ,aI];omega
 ·rw[cJ,aS,aI];omega
theorem Xq(N:Nat)(hN:200000≤N){a:aE}{m:Nat}(hm:m≤50000)(h:G m (.slice jB) a){id:Int}(bf:aD id):Ok (λr=>G (m+1) (.slice jB) r.1) (ig N a id):=by
 have hl:=h.1
 unfold ig ig.b
 refine br (mC N ω hN) (bw (λ_=>ak G.nil) λ_=>aw (λ_=>ak G.nil) λ_=>aw (λ_=>ak G.nil) λ_=>br (ib N ω hN id) (bp (λ_=>ak G.nil) λ_=> ?_))
 have fin: ∀k:Nat,k≤a.length→Ok (λr=>G (m+1) (.slice jB) r.1) (ig.j9 N a id [] (k:Int)):=λk hk=>by
  unfold ig.j9 ig.Nl
  have hx:G m jB (id,((1:Int),())):=⟨bf,(show aD 1 from bh),trivial⟩
  exact KT hk ω (by simpa using G.ins h hx k 0 k (aG _))
 refine kR (len:=a.length) (F:=λn i=>ig.l7 N n a id [] i) ω (λn i hi hr=> ?_) (λn=> ?_)
 all_goals unfold ig.l7 ig.q4
 ·rw[ay (x:=(i:Int)+1) ω ω,ag i]
  exact aw (λ_=>aB ⟨ω,ω⟩ (aw (λ_=>hr) λ_=>fin i ω)) λ_=>ω
 ·exact aw (λ_=>ω) λ_=>fin _ (aG _)
end VM
end
section
namespace VM
open Go VM.F
theorem G4q{m:Nat}{x:bI}{q:Int}(h:G m eB x)(hq:aD q):G m eB (x.1,(x.2.1,(x.2.2.1,(q,x.2.2.2.2)))):=⟨h.1,h.2.1,h.2.2.1,hq,trivial⟩
theorem G4b{m:Nat}{x:bI}{q:Int}(h:G m eB x)(hq:aD q):G m eB (x.1,(q,x.2.2)):=⟨h.1,hq,h.2.2⟩
theorem G2b{m:Nat}{x:yV}{q:Int}(h:G m jB x)(hq:aD q):G m jB (x.1,(q,x.2.2)):=⟨h.1,hq,trivial⟩
theorem KU(N:Nat)(hN:200000≤N){l:aK}(hl:l.length≤100000):Ok (λ_=>True) (eD N l):=nC (tF N hl hN) trivial
theorem aaN(N:Nat)(hN:200000≤N){a:aE}{l:aK}{x:bI}{m:Nat}(hm:m≤50000)(ha:G m (.slice jB) a)(h:G m (.slice eB) l)(hx:G 0 eB x):Ok (λr=>G (m+1) (.slice eB) r.1) (fe N a l x):=by
 have h1:=ha.1
 have hl:=h.1
 have fin: ∀k:Nat,k≤l.length→Ok (λr=>G (m+1) (.slice eB) r.1) (fe.Bf N l x [] (k:Int)):=λk hk=>by
  unfold fe.Bf fe.uV
  exact KT hk ω (by simpa using G.ins h (G.mono (bo m) hx) k 0 k (aG _))
 have hj:Ok (λr=>G (m+1) (.slice eB) r.1) (fe.Jf N l x):=by
  unfold fe.Jf fe.BT
  refine kR (len:=l.length) (F:=λn i=>fe.lj N n l x [] i) ω (λn i hi hr=> ?_) (λn=> ?_)
  all_goals unfold fe.lj fe.kP
  ·rw[ay (x:=(i:Int)+1) ω ω,ag i]
   exact aw (λ_=>aB ⟨ω,ω⟩ (aw (λ_=>hr) λ_=>fin i ω)) λ_=>ω
  ·exact aw (λ_=>ω) λ_=>fin _ (aG _)
 unfold fe fe.b
 exact br (wP N ω ω hN) (bw (λ_=>ak G.nil) λ_=>af (KU N hN (by rw[aI];omega)) λ_ _=>bw (λ_=>ak G.nil) λ_=>br (ib N ω hN _) (ok_eq (λ_=>ak G.nil) λ_=>bp (λ_=>ak G.nil) λ_=>br (q7 N ω hN _) (pe (λ_=>ak G.nil) λ_=>ok_eq (λ_=>br (qq N ω hN _) (bp (λ_=>ak G.nil) λ_=>hj)) λ_=>hj)))
theorem Xr(N:Nat)(hN:200000≤N){l:aK}{m:Nat}(hm:m≤50000)(h:G m (.slice eB) l){id q:Int}(hq:aD q):Ok (λr=>G m (.slice eB) r.1) (nE N l id q):=by
 have hl:=h.1
 unfold nE nE.b
 refine af (KU N hN ω) λ_ _=>bw (λ_=>ak G.nil) λ_=>aw (λ_=>ak G.nil) λ_=>aw (λ_=>ak G.nil) λ_=>br (q7 N ω hN _) (bw (λ_=>ak G.nil) λ_=>aC (by rw[bU];omega) ?_)
 rw[cJ]
 refine bc (len:=l.length) (F:=λn i s=>nE.l8 N n id q s i) (λ_ s=>s.length=l.length∧G m (.slice eB) s) ⟨rfl,h⟩ ω (λn i s hi hI hr=> ?_) (λn s hI=> ?_)
 all_goals unfold nE.l8 nE.yd
 ·rw[ay (x:=(i:Int)+1) ω ω,ag i]
  have hs:=hI.1
  have hx:=G.at hI.2 (i:Int).toNat
  exact aw (λ_=>aB ⟨ω,ω⟩ (ok_eq (λ_=>aB ⟨ω,ω⟩ (hr _ ⟨by rw[bN];exact hs,G.set hI.2 (G4q hx hq) _⟩)) λ_=>hr s hI)) λ_=>ω
 ·have hs:=hI.1
  exact aw (λ_=>ω) λ_=>ak hI.2
theorem Xs(N:Nat)(a b:Int):Ok (λr=>aD r.1) (Ul N a b):=by
 have h: ∀(x:Int) (t:Bool),0≤x∧x<5→Ok (λr:Int×Bool=>aD r.1) (some (x,t)):=λx t hx=>ak (QO hx δ)
 unfold Ul
 repeat' first|refine ok_eq (λ_=> ?_) (λ_=> ?_)|exact h _ _ δ
theorem KV(N:Nat)(hN:200000≤N){l:aE}{m:Nat}(hm:m≤50000)(h:G m (.slice jB) l)(id k:Int):Ok (λr=>G m (.slice jB) r.1) (lH N l id k):=by
 have hl:=h.1
 unfold lH lH.b
 refine br (mC N ω hN) (bw (λ_=>ak G.nil) λ_=>br (ib N ω hN _) (ok_eq (λ_=>ak G.nil) λ_=>af (Xs N _ _) λz hz=>bw (λ_=>ak G.nil) λ_=>aC (by rw[bU];omega) ?_))
 rw[cJ]
 refine bc (len:=l.length) (F:=λn i s=>lH.BS N n id z.1 s i) (λ_ s=>s.length=l.length∧G m (.slice jB) s) ⟨rfl,h⟩ ω (λn i s hi hI hr=> ?_) (λn s hI=> ?_)
 all_goals unfold lH.BS lH.y7
 ·rw[ay (x:=(i:Int)+1) ω ω,ag i]
  have hs:=hI.1
  have hx:=G.at hI.2 (i:Int).toNat
  exact aw (λ_=>aB ⟨ω,ω⟩ (ok_eq (λ_=>aB ⟨ω,ω⟩ (hr _ ⟨by rw[bN];exact hs,G.set hI.2 (G2b hx hz) _⟩)) λ_=>hr s hI)) λ_=>ω
 ·have hs:=hI.1
  exact aw (λ_=>ω) λ_=>ak hI.2
theorem QQ(N:Nat)(hN:200000≤N){a:aE}{l:aK}{m:Nat}(hm:m≤50000)(ha:G m (.slice jB) a)(h:G m (.slice eB) l){id to:Int}(hto:aD to):Ok (λr=>G m (.slice eB) r.1) (nF N a l id to):=by
 have h1:=ha.1
 have hl:=h.1
 unfold nF nF.b
 refine br (wP N ω ω hN) (bw (λ_=>ak G.nil) λ_=>br (q7 N ω hN _) (br (ib N ω hN _) (bw (λ_=>ak G.nil) λ_=>ok_eq (λ_=>ak G.nil) λ_=>bp (λ_=>ak G.nil) λ_=>bp (λ_=>ak G.nil) λ_=>aC (by rw[bU];omega) ?_)))
 rw[cJ]
 refine bc (len:=l.length) (F:=λn i s=>nF.lj N n id to s i) (λ_ s=>s.length=l.length∧G m (.slice eB) s) ⟨rfl,h⟩ ω (λn i s hi hI hr=> ?_) (λn s hI=> ?_)
 all_goals unfold nF.lj nF.kP
 ·rw[ay (x:=(i:Int)+1) ω ω,ag i]
  have hs:=hI.1
  have hx:=G.at hI.2 (i:Int).toNat
  exact aw (λ_=>aB ⟨ω,ω⟩ (ok_eq (λ_=>aB ⟨ω,ω⟩ (hr _ ⟨by rw[bN];exact hs,G.set hI.2 (G4b hx hto) _⟩)) λ_=>hr s hI)) λ_=>ω
 ·have hs:=hI.1
  exact aw (λ_=>ω) λ_=>ak hI.2
theorem NU(N:Nat)(hN:200000≤N){l:aK}{m:Nat}(hm:m≤50000)(h:G m (.slice eB) l)(id:Int):Ok (λr=>r.length≤m) (ru N l id):=by
 have hl:=h.1
 unfold ru ru.b
 refine af (KU N hN ω) λ_ _=>bw (λ_=>ak (bo _)) λ_=>bc (len:=l.length) (F:=λn i s=>ru.l5 N n l id s i) (λi s=>s.length≤i) (bo _) ω (λn i s hi hI hr=> ?_) (λn s hI=> ?_)
 all_goals unfold ru.l5 ru.ed
 ·rw[ay (x:=(i:Int)+1) ω ω,ag i]
  exact aw (λ_=>aB ⟨ω,ω⟩ (ok_eq (λ_=>aB ⟨ω,ω⟩ (aC (by rw[aI];omega) (hr _ (by rw[aS,aI];omega)))) λ_=>hr s ω)) λ_=>ω
 ·exact aw (λ_=>ω) λ_=>ak ω
abbrev L6(m:Nat)(l:bs):Prop:=G m (.slice mQ) l
theorem Xt(N:Nat)(hN:200000≤N){l:bs}{a:List Int}{m:Nat}(hm:m≤50000)(h:L6 m l)(ha:a.length≤m):Ok (λr=>L6 m r) (fV N l a):=by
 have hl:=h.1
 unfold fV fV.b
 refine br (ia N ω hN) (bw (λ_=>ak G.nil) λ_=>bc (len:=l.length) (F:=λn i s=>fV.l5 N n l a s i) (λi s=>L6 i s) G.nil ω (λn i s hi hI hr=> ?_) (λn s hI=> ?_))
 all_goals unfold fV.l5 fV.ed
 ·have hs:=hI.1
  refine aw (λ_=> ?_) λ_=>ω
  refine bc (len:=a.length) (F:=λn' j b=>fV.l9 N (fV.l5 N n) n' l a s (i:Int) b j) (λ_ _=>True) trivial ω (λn' j b hj _ eM=> ?_) (λn' b _=> ?_)
  all_goals unfold fV.l9 fV.xA
  ·rw[ay (x:=(j:Int)+1) ω ω,ag j]
   exact aw (λ_=>pe (λ_=>eM _ trivial) λ_=>aB ⟨ω,ω⟩ (aB ⟨ω,ω⟩ (eM _ trivial))) λ_=>ω
  ·rw[ay (x:=(i:Int)+1) ω ω,ag i]
   have hx:G 0 mQ (l.getD (i:Int).toNat fa):=G.at h _
   exact aw (λ_=>ω) λ_=>bw (λ_=>aB ⟨ω,ω⟩ (aC (by rw[aI];omega) (hr _ (G.cat hI (G.one hx (aG 1)))))) λ_=>hr s (G.mono ω hI)
 ·exact aw (λ_=>ω) λ_=>ak (G.mono hl hI)
theorem NV(N:Nat)(hN:5000000≤N)(c:ae){b:an}{m:Nat}(hm:m≤50000)(hb:G m aL b)(id:Int):Ok (λr=>G m aL r.1) (KW N c b id):=by
 unfold KW
 exact br (dH N hN hm hb) (bw (λ_=>ak G.iP) λ_=>af (oz N ω hm hb.1 _) λ_ _=>ok_eq (λ_=>ak G.iP) λ_=>af (NU N ω hm hb.2.1 _) λa ha=>af (Xt N ω hm hb.2.2.2.2.2.1 ha) λr hr=>ak ⟨hb.1,hb.2.1,hb.2.2.1,hb.2.2.2.1,hb.2.2.2.2.1,hr,trivial⟩)
theorem C1(N:Nat)(hN:200000≤N){l:aK}{m:Nat}(hm:m≤50000)(h:G m (.slice eB) l)(id:Int):Ok (λr=>G m (.slice eB) r) (pg N l id):=by
 have hl:=h.1
 unfold pg pg.b
 refine br (tJ N ω hN) (bw (λ_=>ak G.nil) λ_=>bc (len:=l.length) (F:=λn i s=>pg.l5 N n l id s i) (λi s=>G i (.slice eB) s) G.nil ω (λn i s hi hI hr=> ?_) (λn s hI=> ?_))
 all_goals unfold pg.l5 pg.ed
 ·have hs:=hI.1
  have hx:G 0 eB (l.getD (i:Int).toNat aV):=G.at h _
  rw[ay (x:=(i:Int)+1) ω ω,ag i]
  exact aw (λ_=>aB ⟨ω,ω⟩ (bp (λ_=>aB ⟨ω,ω⟩ (aC (by rw[aI];omega) (hr _ (G.cat hI (G.one hx (aG 1)))))) λ_=>hr s (G.mono ω hI))) λ_=>ω
 ·exact aw (λ_=>ω) λ_=>ak (G.mono hl hI)
theorem Um(N:Nat)(hN:200000≤N){l:bs}{m:Nat}(hm:m≤50000)(h:L6 m l)(a id:Int):Ok (λr=>L6 m r.1) (nG N l a id):=by
 have hl:=h.1
 unfold nG nG.b
 refine br (ia N ω hN) (bw (λ_=>ak G.nil) λ_=>bc (len:=l.length) (F:=λn i s=>nG.l5 N n l a id s i) (λi s=>L6 i s) G.nil ω (λn i s hi hI hr=> ?_) (λn s hI=> ?_))
 all_goals unfold nG.l5 nG.ed
 ·have hs:=hI.1
  have hx:G 0 mQ (l.getD (i:Int).toNat fa):=G.at h _
  rw[ay (x:=(i:Int)+1) ω ω,ag i]
  have h1:=hr s (G.mono ω hI)
  have h2:=hr _ (G.cat hI (G.one hx (aG 1)))
  repeat' first|exact h1|exact h2|refine aC (by rw[aI];omega) ?_|refine aB ⟨ω,ω⟩ ?_|refine aw (λ_=> ?_) (λ_=> ?_)|refine bp (λ_=> ?_) (λ_=> ?_)|(exfalso;omega)
 ·exact aw (λ_=>ω) λ_=>ok_eq (λ_=>ak G.nil) λ_=>ak (G.mono hl hI)
end VM
end
section
namespace VM
open Go VM.F
theorem G6q{m:Nat}{x:gm}{q:Int}(h:G m mQ x)(hq:aD q):G m mQ (x.1,(x.2.1,(x.2.2.1,(x.2.2.2.1,(q,x.2.2.2.2.2))))):=⟨h.1,h.2.1,h.2.2.1,h.2.2.2.1,hq,h.2.2.2.2.2⟩
theorem aaO(N:Nat)(hN:200000≤N){l:bs}{m:Nat}(hm:m≤50000)(h:L6 m l)(a d:Int):Ok (λr=>L6 m r) (dJ N l a d):=by
 have hl:=h.1
 unfold dJ dJ.b
 refine br (ia N ω hN) (bw (λ_=>ak G.nil) λ_=>bc (len:=l.length) (F:=λn i s=>dJ.l5 N n l a d s i) (λi s=>L6 i s) G.nil ω (λn i s hi hI hr=> ?_) (λn s hI=> ?_))
 all_goals unfold dJ.l5 dJ.ed
 ·have hs:=hI.1
  have hx:G 0 mQ (l.getD (i:Int).toNat fa):=G.at h _
  have fin: ∀k:Nat,k≤s.length→Ok (λr=>L6 m r) (dJ.Jf N (dJ.l5 N n) l a d s (i:Int) (k:Int)):=λk hk=>by
   unfold dJ.Jf dJ.BT
   rw[ay (x:=(i:Int)+1) ω ω,ag i]
   dsimp only
   have t: ∀a b:Nat,(List.drop a (List.take b s)).length≤s.length:=λa b=>by rw[dR,cc];omega
   have t1:=t (0:Int).toNat (k:Int).toNat
   have t2:=t (k:Int).toNat (s.length:Int).toNat
   refine BR ⟨ω,ω,ω,ω⟩ (aC ω (aB ⟨ω,ω⟩ (aC (by rw[aI];omega) (BR ⟨ω,ω,ω,ω⟩ (aC (by rw[aS,aI];omega) (hr _ ?_))))))
   simpa using G.ins hI (G.mono (bo i) hx) k 0 k (aG _)
  have h1:=hr s (G.mono ω hI)
  have hw:Ok (λr=>L6 m r) (dJ.l9 N (dJ.l5 N n) N l a d s (i:Int) 0):=by
   refine kR (len:=s.length) (F:=λn' j=>dJ.l9 N (dJ.l5 N n) n' l a d s (i:Int) j) ω (λn' j hj eM=> ?_) (λn'=> ?_)
   all_goals unfold dJ.l9 dJ.xA
   ·rw[ay (x:=(j:Int)+1) ω ω,ag j]
    have hah: ∀x y:gm,Ok (λ_=>True) (Un N x y):=λx y=>by unfold Un;exact bp (λ_=>eZ) λ_=>eZ
    exact aw (λ_=>aB ⟨ω,ω⟩ (aB ⟨ω,ω⟩ (af (hah _ _) λ_ _=>pe (λ_=>eM) λ_=>fin j ω))) λ_=>ω
   ·exact aw (λ_=>ω) λ_=>fin _ (aG _)
  rw[ay (x:=(i:Int)+1) ω ω,ag i]
  repeat' first|exact h1|exact hw|refine aB ⟨ω,ω⟩ ?_|refine aw (λ_=> ?_) (λ_=> ?_)|refine bp (λ_=> ?_) (λ_=> ?_)|(exfalso;omega)
 ·exact aw (λ_=>ω) λ_=>ak (G.mono hl hI)
theorem Xu(N:Nat)(hN:200000≤N){l:bs}{o:gm}{m:Nat}(hm:m≤50000)(h:L6 m l)(ho:G 0 mQ o):Ok (λr=>L6 m r.1∧aD r.2.2.1) (cg N l o):=by
 have hl:=h.1
 have fin: ∀(s:bs) (q:Int) (t:bK),L6 m s→aD q→Ok (λr=>L6 m r.1∧aD r.2.2.1) (cg.j22 N s q t):=λs q t hs hq=>by
  have Ht:=hs.1
  unfold cg.j22 cg.aaP
  refine bc (len:=s.length) (F:=λn i u=>cg.LF N n s q t u i) (λi u=>L6 i u) G.nil ω (λn i u hi hI hr=> ?_) (λn u hI=> ?_)
  all_goals unfold cg.LF cg.NW
  ·have hu:=hI.1
   have hx:G 0 mQ (s.getD (i:Int).toNat fa):=G.at hs _
   rw[ay (x:=(i:Int)+1) ω ω,ag i]
   have h1:=hr u (G.mono ω hI)
   have h2:=hr _ (G.cat hI (G.one hx (aG 1)))
   repeat' first|exact h1|exact h2|refine aC (by rw[aI];omega) ?_|refine aB ⟨ω,ω⟩ ?_|refine aw (λ_=> ?_) (λ_=> ?_)|(exfalso;omega)
  ·exact aw (λ_=>ω) λ_=>ak ⟨G.mono Ht hI,hq⟩
 have dI:Ok (λr:bs×bK×Int×Int=>L6 m r.1∧aD r.2.2.1) (some ([],[],(0:Int),(1:Int))):=ak ⟨G.nil,bJ⟩
 unfold cg cg.b
 refine br (ia N ω hN) (bw (λ_=>dI) λ_=>br (Ap N o) (bw (λ_=>dI) λ_=>aC (by rw[bU];omega) (af (aaO N hN hm h _ _) λw hw=> ?_)))
 have hwl:=hw.1
 rw[cJ]
 refine bc (len:=w.length) (F:=λn i (s:bs×Int×bK)=>cg.l7 N n o s.1 s.2.1 s.2.2 w i) (s:=(_,(_,_))) (λi s=>L6 m s.1∧aD s.2.1∧s.2.2.length≤i) ⟨h,ho.2.2.2.2.1,bo _⟩ ω (λn i s hi hI hr=> ?_) (λn s hI=> ?_)
 all_goals unfold cg.l7 cg.q4
 ·obtain⟨hs,hq,ht⟩:=hI
  have f1:=fin s.1 s.2.1 s.2.2 hs hq
  have ah5: ∀(v:Int) (t:sW),Ok (λr=>L6 m r.1∧aD r.2.2.1) (cg.Bf N (cg.l7 N n) o s.1 s.2.1 s.2.2 w (i:Int) v t):=λv t=>by
   unfold cg.Bf cg.uV
   refine aC (by rw[aI];omega) (bc (len:=s.1.length) (F:=λn' j u=>cg.Hc N (cg.l7 N n) n' o u (W .i64 (s.2.1-v)) (s.2.2++[t]) w (i:Int) v j) (λ_ u=>u.length=s.1.length∧L6 m u) ⟨rfl,hs⟩ (by have:=hs.1;omega) (λn' j u hj hJ eM=> ?_) (λn' u hJ=> ?_))
   all_goals unfold cg.Hc cg.DE
   ·have Ht:=hs.1
    have Hd:=hJ.1
    rw[ay (x:=(j:Int)+1) ω ω,ag j]
    exact aw (λ_=>aB ⟨ω,ω⟩ (aB ⟨ω,ω⟩ (ok_eq (λ_=>aB ⟨ω,ω⟩ (aB ⟨ω,ω⟩ (eM _ ⟨by rw[bN];exact Hd,G.set hJ.2 (G6q (G.at hJ.2 _) (fU _)) _⟩))) λ_=>eM u hJ))) λ_=>ω
   ·have Hd:=hJ.1
    rw[ay (x:=(i:Int)+1) ω ω,ag i]
    exact aw (λ_=>ω) λ_=>hr (_,(_,_)) ⟨hJ.2,fU _,by dsimp only;rw[List.length_append,List.length_singleton];omega⟩
  have DF:Ok (λr=>L6 m r.1∧aD r.2.2.1) (cg.HR N (cg.l7 N n) o s.1 s.2.1 s.2.2 w (i:Int)):=by
   unfold cg.HR cg.BU
   rw[ay (x:=(i:Int)+1) ω ω,ag i]
   dsimp only
   have h1:=hr s ⟨hs,hq,ω⟩
   repeat' first|exact h1|exact ah5 _ _|refine aB ⟨ω,ω⟩ ?_|refine ok_eq (λ_=> ?_) (λ_=> ?_)
  repeat' first|exact f1|exact DF|refine aB ⟨ω,ω⟩ ?_|refine aw (λ_=> ?_) (λ_=> ?_)|refine ok_eq (λ_=> ?_) (λ_=> ?_)|(exfalso;omega)
 ·exact aw (λ_=>ω) λ_=>fin _ _ _ hI.1 hI.2.1
theorem Xv(N:Nat)(hN:5000000≤N){c:ae}{b:an}{o:gm}{m:Nat}(h2:200≤m)(hm:m≤40000)(hc:G m aA c)(hb:G m aL b)(ho:G 0 mQ o):Ok (λr=>G (m+1) aL r.1) (ji N c b o):=by
 have Il:=hb.2.2.2.2.2.1.1
 have dI: ∀(t:bK) (e:Int),Ok (λr:an×bK×Int×Int=>G (m+1) aL r.1) (some ((ck,(c8,(bG,(bG,(dC,(dQ,())))))),(t,((0:Int),e)))):=λt e=>ak (G.zero (m+1) aL)
 have DF: ∀(r:bs) (t:bK) (q:Int),L6 m r→aD q→Ok (λr=>G (m+1) aL r.1) (ji.HR N c b o (ck,(c8,(bG,(bG,(dC,(dQ,())))))) r t q):=λr t q hr hq=>by
  have H9:=hr.1
  unfold ji.HR ji.BU
  have hx:G 0 mQ (o.1,(o.2.1,(o.2.2.1,(o.2.2.2.1,(q,o.2.2.2.2.2))))):=G6q ho hq
  exact af (Ja N hN c h2 ω hb) λz hz=>bp (λ_=>dI _ _) λ_=>by
   have Cr:G (m+1) aL z.1:=G.mono ω hz
   exact aw (λ_=>aC (by rw[aI];omega) (ak ⟨Cr.1,Cr.2.1,Cr.2.2.1,Cr.2.2.2.1,Cr.2.2.2.2.1,G.cat hr (G.one hx (aG 1)),trivial⟩)) λ_=>ak ⟨Cr.1,Cr.2.1,Cr.2.2.1,Cr.2.2.2.1,Cr.2.2.2.2.1,G.mono ω hr,trivial⟩
 have hj7:Ok (λr=>G (m+1) aL r.1) (ji.j7 N c b o (ck,(c8,(bG,(bG,(dC,(dQ,()))))))):=by
  unfold ji.j7 ji.Vg
  exact af (Xu N ω ω hb.2.2.2.2.2.1 ho) λz hz=>aw (λ_=>ok_eq (λ_=>dI _ _) λ_=>DF _ _ _ hz.1 hz.2) λ_=>DF _ _ _ hz.1 hz.2
 unfold ji ji.b
 refine af (AU N hN h2 hm hc hb (G.mono (bo m) ho)) λe _=>bp (λ_=>dI _ _) λ_=>aw (λh0=> ?_) λ_=>hj7
 dsimp only
 exact aB (by rw[ay ω ω];omega) (dZ (λ_=>dI _ _) λ_=>hj7)
end VM
end
section
namespace VM
open Go VM.F
theorem ah6(N:Nat)(a:Int):Ok (λ_=>True) (KH N a):=by
 unfold KH
 exact ok_eq (λ_=>eZ) λ_=>eZ
theorem jT.one{k n:Int}{x:aH}{m:Nat}(h:Bg m x)(hm:m≤8):jT 1 [(k,(n,(x,())))]:=⟨aG 1,λy hy=>by rw[bW.1 hy];exact Bg.mono h hm⟩
theorem Xw(N:Nat)(hN:4000000≤N){l:au}{m:Nat}(hm:m≤50000)(h:L3 m l)(i a b:Int):Ok (λr=>jT m r.1) (nH N l i a b):=by
 have hl:=h.1
 unfold nH nH.b
 have p64: ∀p:Int,decide (1≤p∧p≤1000000000000)=true→aD p:=λp h=>by have:=bz h;unfold aD;omega
 refine br (kM N ω ω) (bw (λ_=>ak jT.nil) λ_=>br (iJ N _) (bw (λ_=>ak jT.nil) λha=>br (iJ N _) (bw (λ_=>ak jT.nil) λhb=>af (bq N hN (p64 _ hb)) λx hx=>af (bq N hN (p64 _ ha)) λy hy=>af (xI N hN ω hx hy) λz hz=>bc (len:=l.length) (F:=λn j s=>nH.l6 N n l i s z j) (λj s=>jT j s) jT.nil ω (λn j s hj hI hr=> ?_) (λn s hI=> ?_))))
 all_goals unfold nH.l6 nH.uw
 ·have hs:=hI.1
  rw[ay (x:=(j:Int)+1) ω ω,ag j]
  have h1:=hr s (jT.mono hI ω)
  exact aw (λ_=>aB ⟨ω,ω⟩ (bp (λ_=>h1) λ_=>af (D5 N hz) λ_ _=>ok_eq (λ_=>h1) λ_=>aB ⟨ω,ω⟩ (af (ah6 N _) λ_ _=>aB ⟨ω,ω⟩ (af (bq N hN (G.at h _).2.2.1) λv hv=>af (lG N hN ω ω hv hz) λu hu=>aC (by rw[aI];omega) (hr _ (jT.app hI (jT.one hu ω))))))) λ_=>ω
 ·exact aw (λ_=>ω) λ_=>ak (jT.mono hI ω)
theorem C2(N:Nat)(hN:5000000≤N)(c:ae){b:an}{m:Nat}(h2:200≤m)(hm:m≤50000)(hb:G m aL b)(i:Int){p:Int}(hp:aD p):Ok (λr=>G m aL r.1∧jT m r.2.1) (Uo N c b i p):=by
 have dI: ∀e:Int,Ok (λr:an×bE×Int=>G m aL r.1∧jT m r.2.1) (some ((ck,(c8,(bG,(bG,(dC,(dQ,())))))),([],e))):=λe=>ak ⟨G.iP,jT.nil⟩
 have Ho:=hb.2.2.2.2.1.1
 unfold Uo
 refine br (dH N hN hm hb) (bw (λ_=>dI _) λhB=>br (iJ N _) (bw (λ_=>dI _) λ_=>aw (λ_=>dI _) λh0=>dZ (λ_=>dI _) λh1=> ?_))
 obtain⟨hpr,_⟩:=ic hB
 dsimp only
 rw[cJ]
 exact aB ⟨h0,by rw[hpr];exact h1⟩ (af (Xw N ω hm hb.2.2.2.1 _ _ _) λf hf=>af (sL N ω h2 hm hb G.nil (jT.mono hf hm)) λr hr=>bp (λ_=>dI _) λ_=>aC (by rw[bU];omega) (aB ⟨h0,by rw[hpr];exact h1⟩ (ak ⟨⟨hr.1,hr.2.1,hr.2.2.1,hr.2.2.2.1,G.set hb.2.2.2.2.1 hp _,hr.2.2.2.2.2⟩,hf⟩)))
abbrev L2(m:Nat)(l:aE):Prop:=G m (.slice jB) l
theorem G2{m:Nat}{a b:Int}(ha:aD a)(hb:aD b):G m jB (a,(b,())):=⟨ha,hb,trivial⟩
theorem BV(N:Nat)(hN:200000≤N){l:aE}(hl:l.length≤100000):Ok (λ_=>True) (qb N l):=by
 unfold qb qb.b
 refine kR (len:=l.length) (F:=λn i=>qb.l2 N n l i) ω (λn i hi hr=> ?_) (λn=> ?_)
 all_goals unfold qb.l2 qb.gH
 ·rw[ay (x:=(i:Int)+1) ω ω,ag i]
  dsimp only
  repeat' first|exact hr|exact eZ|refine aB ⟨ω,ω⟩ ?_|refine aB (by rw[ay (x:=(i:Int)-1) ω ω];omega) ?_|refine aw (λ_=> ?_) (λ_=> ?_)|refine dZ (λ_=> ?_) (λ_=> ?_)|refine ok_eq (λ_=> ?_) (λ_=> ?_)|(exfalso;omega)
 ·exact aw (λ_=>ω) λ_=>eZ
theorem NX(N:Nat)(hN:4000000≤N){g:aE}{p:bE}{m:Nat}(h2:200≤m)(hm:m≤50000)(h:L2 m g)(hp:jT m p):Ok (λr=>L2 m r.1) (eP N g p):=by
 have hl:=h.1
 have Ho:=hp.1
 unfold eP eP.b
 refine af (BV N ω ω) λ_ _=>bw (λ_=>ak G.nil) λ_=>iB (len:=25) (F:=λn i s=>eP.l5 N n g p s i) (λi s=>L2 i s) (λn i s hi hI hr=> ?_) (λn s hI=> ?_) 25 N 1 [] ω ω ω G.nil
 all_goals unfold eP.l5 eP.ed
 ·have hs:=hI.1
  refine dZ (λ_=> ?_) λ_=>ω
  refine bc (len:=g.length) (F:=λn' j t=>eP.l9 N (eP.l5 N n) n' g p s (i:Int) t j) (λ_ t=>Bg 2 t) (KQ ω) ω (λn' j t hj ht eM=> ?_) (λn' t ht=> ?_)
  all_goals unfold eP.l9 eP.xA
  ·rw[ay (x:=(j:Int)+1) ω ω,ag j]
   exact aw (λ_=>aB ⟨ω,ω⟩ (ok_eq (λ_=>aB ⟨ω,ω⟩ (af (bq N hN (G.at h _).2.1) λr hr=>eM r hr)) λ_=>eM t ht)) λ_=>ω
  ·refine aw (λ_=>ω) λ_=> ?_
   refine bc (len:=p.length) (F:=λD6 j t=>eP.I1 N (eP.l5 N n) D6 g p s (i:Int) t j) (λj t=>Bg (8+j) t) (Bg.mono ht ω) ω (λD6 j t hj ht eM=> ?_) (λD6 t ht=> ?_)
   all_goals unfold eP.I1 eP.FZ
   ·rw[ay (x:=(j:Int)+1) ω ω,ag j]
    have h1:=eM t (Bg.mono ht ω)
    exact aw (λ_=>aB ⟨ω,ω⟩ (ok_eq (λ_=>aB ⟨ω,ω⟩ (ok_eq (λ_=>aB ⟨ω,ω⟩ (af (kS N hN ω ht (Bg.mono (hp.at _) ω)) λr hr=>eM r (Bg.mono hr ω))) λ_=>h1)) λ_=>h1)) λ_=>ω
   ·rw[ay (x:=(i:Int)+1) ω ω,ag i]
    exact aw (λ_=>ω) λ_=>af (w7 N ht) λv hv=>bw (λ_=>ak G.nil) λ_=>bp (λ_=>aC (by rw[aI];omega) (hr _ (G.cat hI (G.one (m:=1) (G2 (iO ω ω) hv) (aG 1))))) λ_=>hr s (G.mono ω hI)
 ·exact dZ (λ_=>ω) λ_=>ak (G.mono ω hI)
theorem sM(N:Nat)(hN:4000000≤N)(a b c d:Int){x:aH}(h:Bg 8 x):Ok (λr=>jT 2 r) (yg N a b c d x):=by
 unfold yg
 exact af (qu N hN ω h) λy hy=>ak ⟨aG 2,λz hz=>by
  rcases aW.1 hz with rfl|hz
  ·exact hy
  ·rw[bW.1 hz];exact h⟩
theorem NY(N:Nat)(hN:5000000≤N){c:ae}{b:an}{m:Nat}(h2:200≤m)(hm:m≤40000)(hc:G m aA c)(hb:G m aL b)(a:Int){q:Int}(hq:aD q):Ok (λr=>G m aL r.1) (Up N c b a q):=by
 unfold Up
 exact br (dH N hN ω hb) (bw (λ_=>ak G.iP) λ_=>aw (λ_=>ak G.iP) λ_=>af (xJ N ω ω hb.2.1 _) λ_ _=>bw (λ_=>ak G.iP) λ_=>af (oz N ω ω hb.1 _) λ_ _=>bp (λ_=>ak G.iP) λ_=>af (mq N ω ω hb.2.2.1 _ _) λg hg=>af (bq N ω hg) λx hx=>af (bq N ω hq) λy hy=>af (xI N ω ω hx hy) λz hz=>af (F9 N ω h2 hm hc hb (bo _) _) λw hw=>af (pH N ω ω ω hz hw) λ_ _=>aw (λ_=>ak G.iP) λ_=>af (bq N ω hq) λy hy=>af (sM N ω _ _ _ _ (Bg.mono hy ω)) λp hp=>af (sL N ω h2 ω hb G.nil (jT.mono hp ω)) λr hr=>ak hr)
theorem QR(N:Nat)(hN:1000≤N){c:ae}(hc:G 5 aA c):Ok (λr=>G 5 aL r.1) (ij N c):=by
 have hl:=hc.1.1
 unfold ij ij.b
 have hj: ∀b:an,G 5 aL b→Ok (λr=>G 5 aL r.1) (ij.j6 N c (ck,(c8,(bG,(bG,(dC,(dQ,())))))) b []):=λb hb=>by
  unfold ij.j6 ij.TJ
  obtain⟨b1,b2,b3,b4,b5,b6⟩:=b
  refine bc (len:=c.1.length) (F:=λn i (z:an×List Int)=>ij.l7 N n c (ck,(c8,(bG,(bG,(dC,(dQ,())))))) z.1 z.2 i) (s:=((b1,(b2,(b3,(b4,(b5,b6))))),_)) (λi z=>G 5 aL z.1∧G i (.slice (.int .i64)) z.2) ⟨hb,G.nil⟩ ω (λn i z hi hI hr=> ?_) (λn z hI=> ?_)
  all_goals unfold ij.l7 ij.q4
  ·have hz:=hI.2.1
   rw[ay (x:=(i:Int)+1) ω ω,ag i]
   have hx:G 0 (.int .i64) (c.1.getD (i:Int).toNat aV).2.1:=(G.at hc.1 _).2.1
   exact aw (λ_=>aB ⟨ω,ω⟩ (aC (by rw[aI];omega) (hr (_,_) ⟨⟨hI.1.1,hI.1.2.1,hI.1.2.2.1,hI.1.2.2.2.1,G.nil,hI.1.2.2.2.2.2⟩,G.cat hI.2 (G.one hx (aG 1))⟩))) λ_=>ω
  ·exact aw (λ_=>ω) λ_=>ak ⟨hI.1.1,hI.1.2.1,hI.1.2.2.1,hI.1.2.2.2.1,G.mono hl hI.2,hI.1.2.2.2.2.2⟩
 have yH:L3 5 [((1:Int),((0:Int),(W .i64 (0-c.2.1),()))),((3:Int),((0:Int),(c.2.1,())))]:=G.two (G3 (show aD 1 from bh) bJ (fU _)) (G3 (show aD 3 from bh) bJ hc.2.1) δ
 exact br (nf N ω c) (bw (λ_=>ak G.iP) λ_=>bp (λ_=>hj _ ⟨G.nil,G.nil,yH,G.nil,G.nil,G.nil,trivial⟩) λ_=>hj _ G.iP)
end VM
end
section
namespace VM
open Go VM.F
theorem BW(N:Nat)(hN:4000000≤N){c:ae}{l:aE}{m:Nat}(hm:m≤50000)(hc:G m aA c)(hl:L2 m l)(f:Bool):Ok (λr=>Bg 60000 r.1) (lF N c l f):=by
 have h1:=hl.1
 unfold lF lF.b
 refine br (wU N ω c ω) (bw (λ_=>ak (KQ ω)) λhk=>bc (len:=l.length) (F:=λn i t=>lF.l5 N n l f c (false,(([]:List Int),())) t i) (λi t=>Bg (8+i) t) (KQ ω) ω (λn i t hi ht hr=> ?_) (λn t ht=> ?_))
 all_goals unfold lF.l5 lF.ed
 ·rw[ay (x:=(i:Int)+1) ω ω,ag i,aJ]
  unfold mi at hk
  have hp:=bz (cO.1 hk).1 i hi
  unfold nk nj at hp
  have in1: ∀{x y:Option (aH×Int)},Ok (λr=>Bg 60000 r.1) x→Ok (λr=>Bg 60000 r.1) (cond (ba (l.getD i cD).1 c.1.length) x y):=λh=>aB ⟨hp.1,hp.2.1⟩ h
  have hw: ∀q:Int,aD q→Ok (λr=>Bg 60000 r.1) ((jz N (l.getD i cD).2.1).bind λr3=>(Wv N r3).bind λr4=>(jz N q).bind λr5=>(jR N r4 r5).bind λr6=>(yR N t r6).bind λr7=>lF.l5 N n l f c (false,(([]:List Int),())) r7 ((i+1:Nat):Int)):=λq hq=>
   af (bq N hN (G.at hl i).2.1) λx hx=>af (AT N hN ω hx) λx hx=>af (bq N hN hq) λy hy=>af (lG N hN ω ω hx hy) λz hz=>af (kS N hN ω ht (Bg.mono hz ω)) λu hu=>hr u (Bg.mono hu ω)
  exact aw (λ_=>aB ⟨ω,ω⟩ (in1 (pe (λ_=>aB ⟨ω,ω⟩ (in1 (aB ⟨ω,ω⟩ (hw _ (G.at hc.1 _).2.2.2.1)))) λ_=>aB ⟨ω,ω⟩ (hw _ (G.at hc.1 _).2.2.1)))) λ_=>ω
 ·exact aw (λ_=>ω) λ_=>ak (Bg.mono ht ω)
theorem qv(N:Nat)(hN:200000≤N){b:an}{m:Nat}(hm:m≤50000)(hb:G m aL b)(id:Int):Ok (λ_=>True) (HS N b id):=by
 unfold HS
 exact af (oz N hN hm hb.1 _) λ_ _=>eZ
theorem tM(N:Nat)(hN:200000≤N){b:an}{m:Nat}(hm:m≤50000)(hb:G m aL b)(id:Int):Ok aD (HK N b id):=by
 unfold HK
 exact af (mq N hN hm hb.2.2.1 _ _) λr hr=>ak hr
theorem Xx(N:Nat)(hN:5000000≤N){c:ae}{b:an}{m:Nat}(hm:m≤40000)(hc:G m aA c)(hb:G m aL b)(f to a:Int):Ok (λ_=>True) (aaQ N c b f to a):=by
 unfold aaQ ah7
 have mb:=λid=>qv N ω ω hb id
 exact br (dH N hN ω hb) (bw (λ_=>eZ) λ_=>af (xJ N ω ω hb.2.1 _) λ_ _=>bw (λ_=>eZ) λ_=>af (mb _) λ_ _=>ok_eq (λ_=>eZ) λ_=>af (mb _) λ_ _=>ok_eq (λ_=>eZ) λ_=>bp (λ_=>eZ) λ_=>bp (λ_=>eZ) λ_=>af (mb _) λ_ _=>bp (λ_=>eZ) λ_=>af (NR N ω ω hb.2.2.2.1 _) λl hl=>af (Q:=λr=>Bg 60000 r.1) (af (BW N ω ω hc hl _) λr hr=>ak hr) λu hu=>af (tM N ω ω hb _) λg hg=>af (bq N ω hg) λx hx=>af (pH N ω ω ω hx hu) λ_ _=>aw (λ_=>eZ) λ_=>eZ)
theorem aaR(N:Nat)(hN:5000000≤N){c:ae}{b:an}{m:Nat}(hm:m≤40000)(hc:G m aA c)(hb:G m aL b)(f:Int){to:Int}(hto:aD to)(a:Int):Ok (λr=>G m aL r.1) (Uq N c b f to a):=by
 unfold Uq
 exact af (Xx N hN hm hc hb _ _ _) λ_ _=>bp (λ_=>ak G.iP) λ_=>af (QQ N ω ω hb.1 hb.2.1 hto) λr hr=>bp (λ_=>ak G.iP) λ_=>ak ⟨hb.1,hr,hb.2.2⟩
theorem Ur(N:Nat)(hN:4000000≤N){x:aH}{q:Int}(hx:Bg 60000 x)(hq:aD q):Ok (λr=>0≤r∧r≤3) (ry N x q):=by
 unfold ry ry.b
 refine af (D5 N hx) λ_ _=>dZ (λ_=>ak δ) λ_=>aw (λ_=>ak δ) λ_=>iB (len:=3) (F:=λn i (_:Unit)=>ry.l4 N n q x i) (λ_ _=>True) (λn i _ hi _ hr=> ?_) (λn _ _=> ?_) 3 N 1 () ω ω ω trivial
 all_goals unfold ry.l4 ry.ei
 ·rw[ay (x:=(i:Int)+1) ω ω,ag i]
  exact aw (λ_=>af (bq N hN (iO ω ω)) λa ha=>af (bq N hN hq) λb hb=>af (lG N hN ω ω ha hb) λy hy=>af (pH N hN ω ω hy hx) λ_ _=>aw (λ_=>hr () trivial) λ_=>ak ω) λ_=>ω
 ·exact aw (λ_=>ω) λ_=>ak ω
theorem Sq(N:Nat)(hN:5000000≤N)(c:ae){b:an}{m:Nat}(hm:m≤50000)(hb:G m aL b):Ok (λr=>G m (.slice (.int .i64)) r.1) (rz N c b):=by
 have hl:=hb.1.1
 unfold rz rz.b
 refine br (dH N hN hm hb) (bw (λ_=>ak G.nil) λ_=>bc (len:=b.1.length) (F:=λn i s=>rz.l5 N n b s i) (λi s=>G i (.slice (.int .i64)) s) G.nil ω (λn i s hi hI hr=> ?_) (λn s hI=> ?_))
 all_goals unfold rz.l5 rz.ed
 ·have hs:=hI.1
  rw[ay (x:=(i:Int)+1) ω ω,ag i]
  have h1:=hr s (G.mono ω hI)
  have hx:G 0 (.int .i64) (b.1.getD (i:Int).toNat cD).1:=(G.at hb.1 _).1
  exact aw (λ_=>aB ⟨ω,ω⟩ (ok_eq (λ_=>aB ⟨ω,ω⟩ (af (mq N ω hm hb.2.2.1 _ _) λ_ _=>aw (λ_=>aB ⟨ω,ω⟩ (aC (by rw[aI];omega) (hr _ (G.cat hI (G.one hx (aG 1)))))) λ_=>h1)) λ_=>h1)) λ_=>ω
 ·exact aw (λ_=>ω) λ_=>ak (G.mono hl hI)
abbrev LL(m:Nat)(l:bA):Prop:=G m (.slice jj) l
theorem Gc(N:Nat)(hN:200000≤N){l:bA}{m:Nat}(hm:m≤50000)(h:LL m l)(id:Int):Ok (λr=>G m jj r.1) (qc N l id):=by
 have hl:=h.1
 unfold qc qc.b
 refine kR (len:=l.length) (F:=λn i=>qc.l2 N n l id ((0:Int),(ck,aV)) i) ω (λn i hi hr=> ?_) (λn=> ?_)
 all_goals unfold qc.l2 qc.gH
 ·rw[ay (x:=(i:Int)+1) ω ω,ag i]
  exact aw (λ_=>aB ⟨ω,ω⟩ (ok_eq (λ_=>aB ⟨ω,ω⟩ (ak (G.at h _))) λ_=>hr)) λ_=>ω
 ·exact aw (λ_=>ω) λ_=>ak (G.zero m jj)
theorem Us(N:Nat)(hN:4000000≤N){a b:aE}{m:Nat}(h6:6≤m)(hm:m≤40000)(ha:L2 m a)(hb:L2 m b):Ok (λr=>L2 m r.1) (eQ N a b):=by
 have hal:=ha.1
 have we:=hb.1
 unfold eQ eQ.b
 refine bc (len:=6) (F:=λn i s=>eQ.l3 N n a b s i) (λi s=>L2 i s) G.nil ω (λn i s hi hI hr=> ?_) (λn s hI=> ?_)
 all_goals unfold eQ.l3 eQ.nO
 ·have hs:=hI.1
  refine aw (λ_=> ?_) λ_=>ω
  refine bc (len:=a.length) (F:=λn' j t=>eQ.l7 N (eQ.l3 N n) n' a b s (i:Int) t j) (λj t=>Bg (3+j) t) (KQ ω) ω (λn' j t hj ht eM=> ?_) (λn' t ht=> ?_)
  all_goals unfold eQ.l7 eQ.q4
  ·rw[ay (x:=(j:Int)+1) ω ω,ag j]
   exact aw (λ_=>aB ⟨ω,ω⟩ (ok_eq (λ_=>aB ⟨ω,ω⟩ (af (bq N hN (G.at ha _).2.1) λr hr=>af (kS N hN ω ht (Bg.mono hr ω)) λu hu=>eM u (Bg.mono hu ω))) λ_=>eM t (Bg.mono ht ω))) λ_=>ω
  ·refine aw (λ_=>ω) λ_=> ?_
   refine bc (len:=b.length) (F:=λD6 j t=>eQ.p7 N (eQ.l3 N n) D6 a b s (i:Int) t j) (λj t=>Bg (3+a.length+j) t) ht ω (λD6 j t hj ht eM=> ?_) (λD6 t ht=> ?_)
   all_goals unfold eQ.p7 eQ.pD
   ·rw[ay (x:=(j:Int)+1) ω ω,ag j]
    exact aw (λ_=>aB ⟨ω,ω⟩ (ok_eq (λ_=>aB ⟨ω,ω⟩ (af (bq N hN (G.at hb _).2.1) λr hr=>af (kS N hN ω ht (Bg.mono hr ω)) λu hu=>eM u (Bg.mono hu ω))) λ_=>eM t (Bg.mono ht ω))) λ_=>ω
   ·rw[ay (x:=(i:Int)+1) ω ω,ag i]
    exact aw (λ_=>ω) λ_=>af (C0 N ht) λv hv=>bw (λ_=>ak G.nil) λ_=>bp (λ_=>aC (by rw[aI];omega) (hr _ (G.cat hI (G.one (m:=1) (G2 (iO ω ω) hv) (aG 1))))) λ_=>hr s (G.mono ω hI)
 ·exact aw (λ_=>ω) λ_=>ak (G.mono h6 hI)
theorem NZ(N:Nat)(hN:5000000≤N){c:ae}{b:an}{QS:bA}{l:aK}{x:bI}{m:Nat}(h6:6≤m)(hm:m≤40000)(hc:G m aA c)(hb:G m aL b)(hL:LL m QS)(hl:G m (.slice eB) l)(hx:G 0 eB x):Ok (λ_=>True) (kT N c b QS l x):=by
 have G9:=hl.1
 have hLl:=hL.1
 have hal:=hb.2.1.1
 have Il:=hb.2.2.2.2.2.1.1
 have hw:IP QS:=λy hy=>cm (hL.2 y hy).2.1.1 ω
 unfold kT kT.b
 have hj:Ok (λ_=>True) (kT.j3 N QS l c b x):=by
  unfold kT.j3 kT.j3b
  refine af (qv N ω ω hb _) λ_ _=>ok_eq (λ_=>eZ) λ_=>bp (λ_=>eZ) λ_=>af (Gc N ω ω hL _) λz hz=>br (qq N ω ω _) (bw (λ_=>eZ) λ_=>bp (λ_=>eZ) λ_=>ok_eq (λ_=>eZ) λ_=>kR (len:=l.length) (F:=λn i=>kT.lj N n l c b x z.1 (ni b.2.1 x.2.2.1) i) ω (λn i hi hr=> ?_) (λn=> ?_))
  all_goals unfold kT.lj kT.kP
  ·rw[ay (x:=(i:Int)+1) ω ω,ag i]
   exact aw (λ_=>aB ⟨ω,ω⟩ (ok_eq (λ_=>aB ⟨ω,ω⟩ (ok_eq (λ_=>eZ) λ_=>hr)) λ_=>hr)) λ_=>ω
  ·refine aw (λ_=>ω) λ_=>ok_eq (λ_=>eZ) λ_=>af (bq N ω hx.2.2.2.1) λp hp=>af (bq N ω (show aD 4 from bh)) λq hq=>af (bq N ω hz.2.2.1) λr hr=>af (lG N ω ω ω hq hr) λu hu=>af (pH N ω ω ω hp hu) λ_ _=>aw (λ_=>eZ) λ_=>af (NR N ω ω hb.2.2.2.1 _) λa ha=>af (Us N ω h6 ω ha hz.2.1) λj hj=>bw (λ_=>eZ) λ_=> ?_
   unfold ah8
   exact af (Q:=λr=>L3 6 r) (br (ia N ω ω) (bw (λ_=>ak G.nil) λ_=>af (F8 N ω ω _) λr hr=>ak hr)) λo ho=>af (NQ N ω ω hc hj (G.mono h6 ho)) λw hw=>af (tM N ω ω hb _) λg hg=>af (bq N ω hg) λv hv=>af (bq N ω hx.2.2.2.1) λp hp=>af (xI N ω ω hv hp) λd hd=>af (pH N ω ω ω hd hw) λ_ _=>aw (λ_=>eZ) λ_=>eZ
 refine br (dH N hN ω hb) (bw (λ_=>eZ) λ_=>br (AF N ω c ω hw) (bw (λ_=>eZ) λ_=>br (tJ N ω ω) (bw (λ_=>eZ) λ_=>br (R6 N _) (bw (λ_=>eZ) λ_=>aw (λ_=> ?_) λ_=>hj))))
 dsimp only
 exact aB (by rw[ay ω ω];omega) (dZ (λ_=>eZ) λ_=>hj)
theorem Jg(N:Nat)(hN:5000000≤N){c:ae}{b:an}{QS:bA}{l:aK}{x:bI}{m:Nat}(h6:6≤m)(hm:m≤40000)(hc:G m aA c)(hb:G m aL b)(hL:LL m QS)(hl:G m (.slice eB) l)(hx:G 0 eB x):Ok (λr=>G (m+1) (.slice eB) r.1) (aaS N c b QS l x):=by
 have G9:=hl.1
 unfold aaS
 refine af (NZ N hN h6 hm hc hb hL hl hx) λ_ _=>bp (λ_=>ak G.nil) λ_=>aC (by rw[bU];omega) ?_
 dsimp only
 rw[cJ]
 exact aC (by rw[aI];omega) (ak (G.cat hl (G.one hx (aG 1))))
end VM
end
