/- A part of the proof of WindDrawn of layer 21: what the functions compute, in plain words. -/
import Derived.Test.YtecmobijochjkaaGreatPlain4
set_option linter.all false
section
namespace VM
open Go VM.F
theorem FU(N:Nat)(hN:200000≤N){l:bq}(hl:l.length≤100000)(a:Int):Ok (λr=>L3 6 r) (gV N l a):=by
 unfold gV gV.b
 refine bc (len:=6) (F:=λn k (s:au)=>gV.l3 N n l a s k) (λk s=>L3 k s) G.nil ω (λn k s hk hI hr=> ?_) (λn s hI=> ?_)
 all_goals unfold gV.l3 gV.nC
 ·have hs:=hI.1
  refine aw (λ_=> ?_) λ_=>ω
  refine bc (len:=l.length) (F:=λn' i (x:db)=>gV.l7 N (gV.l3 N n) n' l a s (k:Int) x i) (λi x=>G 6 jk x) (G3 (iI ω ω) bJ bJ) ω (λn' i x hi hx eJ=> ?_) (λn' x hx=> ?_)
  all_goals unfold gV.l7 gV.pj
  ·rw[ax (x:=(i:Int)+1) ω ω,ag i]
   have h1:=eJ x hx
   repeat' first|exact h1|refine aB ⟨ω,ω⟩ ?_|refine aw (λ_=> ?_) (λ_=> ?_)|refine bx (λ_=> ?_) (λ_=> ?_)|refine ok_eq (λ_=> ?_) (λ_=> ?_)|(exfalso;omega)|exact eJ (_,(_,(_,_))) ⟨hx.1,fQ _,hx.2.2.1,trivial⟩|exact eJ (_,(_,(_,_))) ⟨hx.1,hx.2.1,fQ _,trivial⟩
  ·rw[ax (x:=(k:Int)+1) ω ω,ag k]
   have h1:=hr s (G.mono ω hI)
   have h2:=hr (s++[x]) ⟨by rw[aS,aI];omega,λy hy=>by
    rcases bb.1 hy with hy|hy
    ·exact G.mono ω (hI.2 y hy)
    ·rw[bT.1 hy];exact⟨hx.1,hx.2.1,hx.2.2.1,trivial⟩⟩
   repeat' first|exact h1|exact h2|refine aC (by rw[aI];omega) ?_|refine aw (λ_=> ?_) (λ_=> ?_)|(exfalso;omega)
 ·exact aw (λ_=>ω) λ_=>an hI
theorem IU(N:Nat)(hN:200000≤N)(c:ae){l:au}(hl:l.length≤100000):Ok (λ_=>True) (p3 N c l):=by
 unfold p3 p3.b
 refine bA (m4 N ω c) (bt (λ_=>an trivial) λ_=>lM (len:=l.length) (F:=λn i=>p3.l5 N n l c 33000000000 i) ω (λn i hi hr=> ?_) λn=> ?_)
 all_goals unfold p3.l5 p3.dV
 ·rw[ax (x:=(i:Int)+1) ω ω,ag i]
  dsimp only
  repeat' first|exact hr|exact an trivial|refine aB ⟨ω,ω⟩ ?_|refine aB (by rw[ax (x:=(i:Int)-1) ω ω];omega) ?_|refine aw (λ_=> ?_) (λ_=> ?_)|refine dU (λ_=> ?_) (λ_=> ?_)|refine ok_eq (λ_=> ?_) (λ_=> ?_)|(exfalso;omega)
 ·exact aw (λ_=>ω) λ_=>an trivial
theorem Ks{k:Nat}(h:1≤k):Bg k (false,(([]:List Int),())):=Bg.mono Bg.zero h
theorem WX(N:Nat)(hN:4000000≤N)(c:ae){l:aD}{o:au}{m:Nat}(hm:m≤50000)(hl:G m (.slice js) l)(ho:L3 m o)(k:Int):Ok (λr=>Bg 3 r.1) (ja N c l o k):=by
 have h1:=hl.1
 have h2:=ho.1
 unfold ja ja.b
 refine bA (wG N ω c ω) (bt (λ_=>an (Ks ω)) λ_=>af (IU N ω c ω) λ_ _=>bt (λ_=>an (Ks ω)) λ_=>aw (λ_=>an (Ks ω)) λ_=>dU (λ_=>an (Ks ω)) λ_=> ?_)
 refine bc (len:=l.length) (F:=λn i (q:aH)=>ja.l7 N n l o k (false,(([]:List Int),())) q (false,(([]:List Int),())) (false,(([]:List Int),())) i) (λ_ q=>Bg 2 q) (Ks ω) ω (λn i q hi hq hr=> ?_) (λn q hq=> ?_)
 all_goals unfold ja.l7 ja.pj
 ·rw[ax (x:=(i:Int)+1) ω ω,ag i]
  exact aw (λ_=>aB ⟨ω,ω⟩ (ok_eq (λ_=>aB ⟨ω,ω⟩ (af (bp N hN (G.at hl _).2.1) λr h=>hr r h)) λ_=>hr q hq)) λ_=>ω
 ·refine aw (λ_=>ω) λ_=> ?_
  refine bc (len:=o.length) (F:=λn i (z:aH×aH)=>ja.pX N n o k (false,(([]:List Int),())) q z.1 z.2 i) (s:=(_,_)) (λ_ z=>Bg 2 z.1∧Bg 2 z.2) ⟨Ks ω,Ks ω⟩ ω (λn i z hi hz hr=> ?_) (λn z hz=> ?_)
  all_goals unfold ja.pX ja.pt
  ·rw[ax (x:=(i:Int)+1) ω ω,ag i]
   exact aw (λ_=>aB ⟨ω,ω⟩ (ok_eq (λ_=>aB ⟨ω,ω⟩ (af (bp N hN (G.at ho _).2.1) λr h=>aB ⟨ω,ω⟩ (af (bp N hN (G.at ho _).2.2.1) λr' h'=>hr (r,r') ⟨h,h'⟩))) λ_=>hr z hz)) λ_=>ω
  ·exact aw (λ_=>ω) λ_=>af (kI N hN ω hq hz.1) λx hx=>af (AB N hN ω hx) λx hx=>af (xz N hN ω hq hz.2) λy hy=>af (AB N hN ω hy) λy hy=>af (pz N hN ω ω hy hx) λ_ _=>aw (λ_=>an hy) λ_=>an hx
theorem No(N:Nat)(hN:4000000≤N){c:ae}{l:aD}{o:au}{m:Nat}(hm:m≤50000)(hc:G m aA c)(hl:G m (.slice js) l)(ho:L3 m o):Ok (λr=>Bg 60000 r.1) (p4 N c l o):=by
 have h1:=hl.1
 have h2:=ho.1
 have h3:=hc.1.1
 unfold p4 p4.b
 refine bA (wG N ω c ω) (bt (λ_=>an (Ks ω)) λ_=>af (IU N ω c ω) λ_ _=>bt (λ_=>an (Ks ω)) λ_=> ?_)
 refine bc (len:=c.1.length) (F:=λn i (t:aH)=>p4.l5 N n l o c (false,(([]:List Int),())) t i) (λi t=>Bg (8+i) t) (Ks ω) ω (λn i t hi ht hr=> ?_) (λn t ht=> ?_)
 all_goals unfold p4.l5 p4.dV
 ·rw[ax (x:=(i:Int)+1) ω ω,ag i]
  exact aw (λ_=>af (WX N hN c hm hl ho _) λx hx=>aB ⟨ω,ω⟩ (af (bp N hN (G.at hc.1 _).2.2.1) λr h=>af (ln N hN ω ω hx h) λy hy=>af (kI N hN ω ht (Bg.mono hy ω)) λz hz=>hr z hz)) λ_=>ω
 ·exact aw (λ_=>ω) λ_=>an (Bg.mono ht ω)
theorem amA{m:Nat}{l:au}(h:L3 m l)(a:Int):G m (.slice js) (posOf l a):=by
 refine⟨ck (Br a l) h.1,λy hy=> ?_⟩
 unfold posOf at hy
 split at hy
 ·obtain⟨x,hx,_,e⟩:=kg hy
  rw[e];exact⟨(h.2 x hx).2.1,(h.2 x hx).2.2.1,trivial⟩
 ·nomatch hy
theorem Np(N:Nat)(hN:200000≤N){l:au}{m:Nat}(hm:m≤50000)(h:L3 m l)(a:Int):Ok (G m (.slice js)) (lj N l a):=np (Qh N (ck h.1 ω) hN a) (amA h a)
theorem FV(N:Nat)(hN:4000000≤N){c:ae}{b:aq}{l:bq}{m:Nat}(h2:200≤m)(hm:m≤40000)(hc:G m aA c)(hb:G m aK b)(hl:l.length≤1000)(a:Int):Ok (Bg 60000) (WY N c b a l):=by
 have ho:=hb.2.2.2.2.2.1.1
 unfold WY
 refine aC (by rw[bS];omega) ?_
 dsimp only
 rw[cI]
 exact aC ω (af (Np N ω ω hb.2.2.2.1 a) λr h=>af (FU N ω (by rw[aS];omega) a) λo h'=>af (No N hN ω hc h (G.mono ω h')) λx hx=>an hx)
end VM
end
section
namespace VM
open Go VM.F
theorem aal(N:Nat)(hN:4000000≤N){o:gj}{m:Nat}(ho:G m mJ o)(a:Int):Ok (λr=>Bg 4 r.1) (aam N o a):=by
 unfold aam
 have hw: ∀x:Int,Ok (λr:aH×Int=>Bg 4 r.1) ((jN N o.2.2.2.2.1).bind λr5=>(jN N (W .i64 x)).bind λr6=>(jJ N r5 r6).bind λr7=>some (r7,(0:Int))):=λx=>
  af (bp N hN ho.2.2.2.2.1) λr h=>af (bp N hN (fQ _)) λr' h'=>af (ln N hN ω ω h h') λy hy=>an hy
 exact bA (Aa N o) (bt (λ_=>an (Ks ω)) λ_=>bA (iE N a) (bt (λ_=>an (Ks ω)) λ_=>ok_eq (λ_=>aw (λ_=>an (Ks ω)) λ_=>hw _) λ_=>aw (λ_=>an (Ks ω)) λ_=>hw _))
theorem ahM{m:Nat}{a:aM}(h:G m (.slice ej) a)(id:Int):G m ej (e9 a id).1:=by
 unfold e9
 split
 ·have: ∀l:aM,(∀x∈l,G m ej x)→G m ej (tj id l).1:=by
   intro l
   induction l with
   |nil=>intro _;exact G.zero m ej
   |cons x t ih=>
    intro hx
    rw[nW]
    split
    ·exact hx x (bn ..)
    ·exact ih λy hy=>hx y (a6 _ hy)
  exact this a h.2
 ·exact G.zero m ej
theorem xA(N:Nat)(hN:200000≤N){a:aM}{m:Nat}(hm:m≤50000)(h:G m (.slice ej) a)(id:Int):Ok (λr=>G m ej r.1) (UQ N a id):=np (wA N (ck h.1 ω) hN id) (ahM h id)
theorem oh(N:Nat)(hN:200000≤N){a:aD}{m:Nat}(hm:m≤50000)(h:G m (.slice js) a)(id:Int):Ok (λ_=>True) (RH N a id):=np (nX N (ck h.1 ω) hN id) trivial
theorem lY(N:Nat)(hN:200000≤N){l:au}{m:Nat}(hm:m≤50000)(h:L3 m l)(a b:Int):Ok aE (uy N l a b):=np (Bp N (ck h.1 ω) hN a b) (Aq (λx hx=>(h.2 x hx).2.2.1) a b)
theorem FW(N:Nat)(hN:200000≤N){a:aM}{m:Nat}(hm:m≤50000)(h:G m (.slice ej) a)(id:Int):Ok (λr=>G m ej r.1∧r=e9 a id) (UQ N a id):=by
 obtain⟨r,e,hr⟩:=xA N hN hm h id
 exact⟨r,e,hr,mQ (e.symm.trans (wA N (ck h.1 ω) hN id))⟩
theorem AD(N:Nat)(hN:5000000≤N){c:ae}{b:aq}{o:gj}{m:Nat}(h2:200≤m)(hm:m≤40000)(hc:G m aA c)(hb:G m aK b)(ho:G m mJ o):Ok (λe=>e=0→qT o∧(e9 b.2.1 o.2.1).2=true∧n0 o.2.2.1 c.1.length) (WZ N c b o):=by
 have bad: ∀e:Int,e≠0→Ok (λe:Int=>e=0→qT o∧(e9 b.2.1 o.2.1).2=true∧n0 o.2.2.1 c.1.length) (some e):=λe h=>an λh'=>absurd h' h
 have HX:=hb.2.2.2.2.2.1.1
 unfold WZ
 refine bA (dG N hN ω hb) (bt (λ_=>bad _ δ) λhB=>bA (Aa N o) (bt (λ_=>bad _ δ) λYA=>af (FW N ω ω hb.2.1 _) λx ⟨hx,hx2⟩=>bt (λ_=>bad _ δ) λhf=>af (oh N ω ω hb.1 _) λ_ _=>bx (λ_=>bad _ δ) λ_=>dU (λ_=>bad _ δ) λhi=>aC (by rw[bS];omega) ?_))
 have hr:=bz YA
 unfold qT yH at hr
 obtain⟨hp,_⟩:=g9 hB
 dsimp only
 rw[cI]
 exact aC (by rw[aI];omega) (af (Np N ω ω hb.2.2.2.1 _) λr h=>af (FU N ω (by rw[aS,aI];omega) _) λq h'=>af (WX N ω c ω h (G.mono ω h') _) λt ht=>af (bp N ω hx.2.2.2.1) λv hv=>af (pz N ω ω ω ht hv) λ_ _=>aw (λ_=>bad _ δ) λ_=>aB ⟨hr.2.2.1.1,by rw[hp];exact hi⟩ (af (aal N ω ho _) λe he=>af (lY N ω ω hb.2.2.1 _ _) λg hg=>af (bp N ω hg) λy hy=>af (xz N ω ω (Bg.mono hy ω) he) λz hz=>af (FV N ω h2 hm hc hb (by rw[aI];omega) _) λu hu=>af (pz N ω ω ω hz hu) λ_ _=>aw (λ_=>bad _ δ) λ_=>an λ_=>⟨bz YA,by rw[←hx2];exact hf,hi⟩))
theorem R7(N:Nat)(hN:5000000≤N){c:ae}{b:aq}{h:bX}{a q p:Int}{m:Nat}(h2:200≤m)(hm:m≤40000)(hc:G m aA c)(hb:G m aK b)(hh:G m ej h)(ha:aE a)(hq:aE q)(hp:aE p):Ok (λr=>G m aK r.1∧G m ej r.2.1) (pA N c b h a q p):=by
 have ho:G m mJ (h.1,(a,(h.2.1,(W .i64 (3-h.2.2.1),(q,(p,())))))):=⟨hh.1,ha,hh.2.1,fQ _,hq,hp,trivial⟩
 have dH: ∀e:Int,Ok (λr:aq×bX×Int=>G m aK r.1∧G m ej r.2.1) (some ((cm,(c8,(bH,(bH,(dC,(dP,())))))),(aV,e))):=λe=>an ⟨G.iJ,G.zero m ej⟩
 unfold pA pA.b
 have hj: ∀t:sK,Ok (λr=>G m aK r.1∧G m ej r.2.1) (pA.UR N q c b h (cm,(c8,(bH,(bH,(dC,(dP,())))))) aV t):=λt=>by
  unfold pA.UR pA.Nq
  exact af (IS N hN c h2 ω hb) λr hr=>bx (λ_=>dH _) λ_=>an ⟨hr,hh.1,hh.2.1,hh.2.2.1,fQ _,trivial⟩
 exact bA (dG N hN ω hb) (bt (λ_=>dH _) λ_=>bA (wO N h) (bt (λ_=>dH _) λ_=>aw (λ_=>dH _) λ_=>aw (λ_=>dH _) λ_=>aw (λ_=>dH _) λ_=>aw (λ_=>dH _) λ_=>aw (λ_=>dH _) λ_=>aw (λ_=>dH _) λ_=>aw (λ_=>dH _) λ_=>af (AD N hN h2 hm hc hb ho) λe _=>bx (λ_=>dH _) λ_=>ok_eq (λ_=>hj _) λ_=>hj _))
end VM
end
section
namespace VM
open Go VM.F
def Dk(k:Nat)(d:aL):Prop:=(∀x∈(d.1:List Int),0≤x∧x<18446744073709551616)∧0≤(d.2.1:Int)∧(d.2.1:Int)≤k
theorem Dk.mono{j k:Nat}{d:aL}(h:Dk j d)(hk:j≤k):Dk k d:=⟨h.1,h.2.1,fD h.2.2 ω⟩
def jM:Nat:=1000000000
theorem DU(N:Nat){k:Nat}{d:aL}(hk:k≤jM)(h:Dk k d):Ok (λr=>(0≤r.1∧r.1<18446744073709551616)∧Dk (k+1) r.2) (F62 N d):=by
 obtain⟨h1,h2,h3⟩:=h
 unfold jM at hk
 unfold F62
 have hw: ∀i:Int,0≤i→i≤(k:Int)→0≤W .i64 (i+1)∧W .i64 (i+1)≤((k+1:Nat):Int):=λi h0 h1=>by rw[ax ω ω];omega
 have hd:Dk (k+1) (d.1,(W .i64 (d.2.1+1),d.2.2)):=⟨h1,hw _ h2 h3⟩
 have hg: ∀(l:List Int) (i:Int),(∀x∈l,0≤x∧x<18446744073709551616)→0≤l.getD i.toNat 0∧l.getD i.toNat 0<18446744073709551616:=λl i hl=>by
  by_cases hi:i.toNat<l.length
  ·rw[aU,bm hi];exact hl _ (dz hi)
  ·rw[aU,gC ω];decide
 exact aw (λeZ=>aB ⟨h2,eZ⟩ (an ⟨hg _ _ h1,hd⟩)) λ_=>an ⟨(show(0:Int)≤0∧(0:Int)<18446744073709551616 by decide),hd⟩
theorem rem_in{x y:Int}(h0:0≤x)(hy:0<y):0≤rem x y∧rem x y<y:=by
 unfold rem;rw[iy]
 exact⟨Int.tmod_nonneg _ h0,Eb _ hy⟩
theorem im(N:Nat){k:Nat}{d:aL}{n:Int}(hn:0<n∧n<1000000)(h:Dk k d)(hk:k≤jM:=by first|decide|(unfold jM;omega)):Ok (λr=>(0≤r.1∧r.1<n)∧Dk (k+1) r.2) (pB N d n):=by
 unfold pB
 refine af (DU N hk h) λr hr=> ?_
 dsimp only
 rw[dS (x:=n) ω ω]
 have:=rem_in hr.1.1 hn.1
 refine ok_eq (λ_=>ω) λ_=>an ⟨?_,hr.2⟩
 dsimp only
 rw[ax ω ω]
 exact this
theorem pC(N:Nat){k:Nat}{d:aL}{n:Int}(hn:0<n∧n<1000000)(h:Dk k d)(hk:k≤jM:=by first|decide|(unfold jM;omega)):Ok (λr=>Dk (k+1) r.2) (Qr N d n):=by
 unfold Qr
 exact af (im N hn h hk) λr hr=>an hr.2
theorem DV(N:Nat){k:Nat}{d:aL}(h:Dk k d)(hk:k≤jM:=by first|decide|(unfold jM;omega)):Ok (λr=>aE r.1∧Dk (k+1) r.2) (K9 N d):=by
 unfold K9
 refine af (DU N hk h) λr hr=>ok_eq (λ_=>ω) λ_=> ?_
 dsimp only
 repeat' first|exact an ⟨fQ _,hr.2⟩|refine aw (λ_=> ?_) (λ_=> ?_)|refine ok_eq (λ_=> ?_) (λ_=> ?_)|(exfalso;omega)
theorem W0{x y:Int}(hy:0<y)(hy1:y<9223372036854775808):aE (rem x y):=by
 unfold rem;rw[iy]
 have h1:=Eb x hy
 have h2: -y<x.tmod y:=by
  have:=Eb (-x) hy
  rw[Int.neg_tmod]at this;omega
 unfold aE;omega
theorem AE{x y:Int}(hx:aE x)(hy:aE y):aE (mx x y):=by unfold mx;rw[iy];split<;>assumption
theorem W1{x y:Int}(hx:aE x)(hy:aE y):aE (mn x y):=by unfold mn;rw[iy];split<;>assumption
theorem Qs{x n:Int}(h:0≤x∧x<n)(hn:n≤1000000):aE x:=iI ω ω
abbrev u5(m:Nat)(l:cR):Prop:=G m (.slice kO) l
theorem rK{k a b c d e f g:Int}{m:Nat}(h0:aE k)(h1:aE a)(h2:aE b)(h3:aE c)(h4:aE d)(h5:aE e)(h6:aE f)(h7:aE g):G m kO (k,(a,(b,(c,(d,(e,(f,(g,())))))))):=⟨h0,h1,h2,h3,h4,h5,h6,h7,trivial⟩
theorem bk{x:Int}(h: -1000000≤x∧x≤1000000:=by decide):aE x:=iI h.1 h.2
theorem Kt(N:Nat){k:Nat}{d:aL}(h:Dk k d)(c:ae){i:Int}(hi:0≤i∧i<(c.1.length:Int))(hc:c.1.length≤5)(hk:k≤100000000):Ok (λr=>G 0 kO r.1∧Dk (k+5) r.2) (TT N d c i):=by
 unfold TT
 have hb:aE 1000000000000:=by unfold aE;decide
 have mX:aE i:=iI ω ω
 exact aB hi (af (im N δ h) λa ⟨_,hd⟩=>af (pC N δ hd) λr hd=>oZ (λ_=>af (DV N hd) λr ⟨_,hd⟩=>ok_eq (λ_=>ω) λ_=>an ⟨rK bk bk bk mX bk bk bk (fQ _),Dk.mono hd ω⟩) λ_=>an ⟨rK bk bk bk mX bk bk bk (AE bk (W1 hb (fQ _))),Dk.mono hd ω⟩)
theorem Nr(N:Nat){k:Nat}{d:aL}(h:Dk k d)(c:ae)(UH:1≤c.1.length)(hc:c.1.length≤5)(hk:k≤100000000):Ok (λr=>G 0 kO r.1∧Dk (k+10) r.2) (W2 N d c):=by
 unfold W2
 have hb:aE 1000000000000:=by unfold aE;decide
 refine af (im N ⟨ω,ω⟩ h) λa ⟨ha,hd⟩=>af (im N δ hd) λb ⟨eV,hd⟩=> ?_
 dsimp only
 refine af (im N δ hd) λe ⟨he,hd⟩=>af (im N δ hd) λf ⟨hf,hd⟩=>aB ha (af (im N δ hd) λg ⟨_,hd⟩=>af (pC N δ hd) λr hd=>oZ (λ_=>af (DV N hd) λr ⟨_,hd⟩=>ok_eq (λ_=>ω) λ_=>af (DV N hd) λr' ⟨_,hd⟩=>ok_eq (λ_=>ω) λ_=>an ⟨rK bk bk (fQ _) (Qs ha ω) (fQ _) bk (fQ _) (fQ _),Dk.mono hd ω⟩) λ_=>an ⟨rK bk bk (fQ _) (Qs ha ω) (fQ _) bk (fQ _) (AE bk (W1 hb (fQ _))),Dk.mono hd ω⟩)
end VM
end
section
namespace VM
open Go VM.F
structure Cf(c:ae):Prop where
 g:G 5 aA c
 n:1≤c.1.length
theorem FX(N:Nat){k:Nat}{d:aL}(h:Dk k d){c:ae}(hc:Cf c)(hk:k≤10000000):Ok (λr=>G 0 kO r.1∧Dk (k+20) r.2) (TU N d c):=by
 have hn:=hc.n
 have hl:=hc.g.1.1
 unfold TU
 refine af (im N δ h) λa ⟨ha,hd⟩=> ?_
 dsimp only
 refine af (im N δ hd) λb ⟨hb,hd⟩=>af (im N ⟨ω,ω⟩ hd) λi ⟨hi,hd⟩=>af (im N δ hd) λe ⟨he,hd⟩=> ?_
 have hz: ∀(e:gJ) (j:Nat) (d:aL),G 0 kO e→Dk j d→j≤k+20→Ok (λr=>G 0 kO r.1∧Dk (k+20) r.2) (some (e,d)):=λe j d he hd hj=>an ⟨he,Dk.mono hd hj⟩
 have hs: ∀{f:Int×aL→Option (gJ×aL)},(∀x d,aE x→Dk (k+5) d→Ok (λr=>G 0 kO r.1∧Dk (k+20) r.2) (f (x,d)))→Ok (λr=>G 0 kO r.1∧Dk (k+20) r.2) ((K9 N e.2).bind f):=λhf=>af (DV N hd) λr ⟨h1,h2⟩=>hf r.1 r.2 h1 (Dk.mono h2 ω)
 have hm: ∀{n:Int} {f:Int×aL→Option (gJ×aL)},0<n∧n<1000000→(∀x d,Dk (k+5) d→Ok (λr=>G 0 kO r.1∧Dk (k+20) r.2) (f (x,d)))→Ok (λr=>G 0 kO r.1∧Dk (k+20) r.2) ((pB N e.2 n).bind f):=λhn hf=>af (im N hn hd) λr ⟨h1,h2⟩=>hf r.1 r.2 (Dk.mono h2 ω)
 repeat' first
  |refine ok_eq (λ_=> ?_) (λ_=> ?_)
  |(exfalso;omega)
  |(refine hs λx d' hx Zq=> ?_;dsimp only)
  |(refine hm δ λx d' Zq=> ?_;dsimp only)
  |(refine hz _ _ _ ?_ hd ω;refine⟨?_,?_,?_,?_,?_,?_,?_,?_,trivial⟩<;>first|exact fQ _|exact bJ|exact AE hx bk|exact W0 δ δ|exact(G.at hc.g.1 _).2.1)
  |(refine hz _ _ _ ?_ Zq ω;refine⟨?_,?_,?_,?_,?_,?_,?_,?_,trivial⟩<;>first|exact fQ _|exact bJ|exact AE hx bk|exact W0 δ δ|exact(G.at hc.g.1 _).2.1)
  |(refine hz _ _ _ ?_ h2 ω;refine⟨?_,?_,?_,?_,?_,?_,?_,?_,trivial⟩<;>first|exact fQ _|exact bJ|exact AE hx bk|exact W0 δ δ|exact(G.at hc.g.1 _).2.1)
  |exact af (Kt N hd c hi hl ω) λr ⟨h1,h2⟩=>hz _ _ _ h1 h2 ω
  |exact af (Nr N hd c hn hl ω) λr ⟨h1,h2⟩=>hz _ _ _ h1 h2 ω
  |refine aB hi ?_
  |(refine af (im N δ Zq) λr ⟨h1,h2⟩=> ?_)
end VM
end
section
namespace VM
open Go VM.F
theorem G.cat{m n:Nat}{e:Ty}{l k:List e.den}(h:G m (.slice e) l)(h':G n (.slice e) k):G (m+n) (.slice e) (l++k):=
 ⟨by have:=h.1;have:=h'.1;rw[aS];omega,λy hy=>by
  rcases bb.1 hy with hy|hy
  ·exact G.mono ω (h.2 y hy)
  ·exact G.mono ω (h'.2 y hy)⟩
theorem G.two{m:Nat}{e:Ty}{a b:e.den}(ha:G 0 e a)(hb:G 0 e b)(hm:2≤m):G m (.slice e) [a,b]:=
 ⟨hm,λy hy=>by
  rcases aX.1 hy with rfl|hy
  ·exact G.mono ω ha
  ·rw[bT.1 hy];exact G.mono ω hb⟩
theorem G.one{m:Nat}{e:Ty}{a:e.den}(ha:G 0 e a)(hm:1≤m):G m (.slice e) [a]:=
 ⟨hm,λy hy=>by rw[bT.1 hy];exact G.mono ω ha⟩
theorem xB{α:Type}(a b:α):[a,b].length=2:=rfl
theorem Qt(N:Nat)(hN:100≤N){k:Nat}{d:aL}(h:Dk k d)(c:ae)(hk:k≤10000000):Ok (λr=>u5 40 r.1∧Dk (k+50) r.2) (fN N d c):=by
 have s64: ∀i:Nat,i<100→aE (i:Int):=λi hi=>iI ω ω
 unfold fN fN.b
 refine iv (len:=5) (F:=λn i (s:aL×cR)=>fN.l3 N n s.1 s.2 i) (λi s=>Dk (k+2*i) s.1∧u5 (3*i) s.2) (λn i s hi hI hr=> ?_) (λn s hI=> ?_) 5 N 1 (d,[]) ω ω ω ⟨Dk.mono h ω,G.nil⟩
 all_goals unfold fN.l3 fN.nC
 ·have hl:=hI.2.1
  have mX:=s64 i ω
  dsimp only
  rw[ax (x:=(i:Int)+1) ω ω,ag i]
  have h2:u5 (3*i+2) (s.2++[((1:Int),((i:Int),e7)),((2:Int),((i:Int),((i:Int),((0:Int),((1:Int),bl)))))]):=G.cat hI.2 (G.two (rK bk mX bJ bJ bJ bJ bJ bJ) (rK bk mX mX bJ bk bJ bJ bJ) ω)
  have hl2:=h2.1
  exact dU (λ_=>aC (by rw[xB];omega) (af (pC N δ hI.1 (by unfold jM;omega)) λr hd=>bt (λ_=>af (im N δ hd (by unfold jM;omega)) λr ⟨_,hd⟩=>aC (by rw[aI];omega) (hr (_,_) ⟨Dk.mono hd ω,G.mono ω (G.cat h2 (G.one (m:=1) (rK bk mX bJ bJ bJ bJ (fQ _) bJ) ω))⟩)) λ_=>hr (_,_) ⟨Dk.mono hd ω,G.mono ω h2⟩)) λ_=>ω
 ·refine dU (λ_=>ω) λ_=> ?_
  refine iv (len:=8) (F:=λn i (s:aL×cR)=>fN.l9 N n s.1 s.2 i) (λi s=>Dk (k+10+i) s.1∧u5 (15+i) s.2) (λn i s hi hI hr=> ?_) (λn s hI=> ?_) 8 N 5 s ω ω ω ⟨Dk.mono hI.1 ω,G.mono ω hI.2⟩
  all_goals unfold fN.l9 fN.xp
  ·have hl:=hI.2.1
   dsimp only
   rw[ax (x:=(i:Int)+1) ω ω,ag i]
   exact dU (λ_=>af (im N δ hI.1 (by unfold jM;omega)) λr ⟨_,hd⟩=>aC (by rw[aI];omega) (hr (_,_) ⟨Dk.mono hd ω,G.mono ω (G.cat hI.2 (G.one (m:=1) (rK bk (fQ _) (s64 i ω) bJ bk bJ bJ bJ) ω))⟩)) λ_=>ω
  ·refine dU (λ_=>ω) λ_=> ?_
   refine iv (len:=8) (F:=λn i (s:aL×cR)=>fN.nG N n s.1 s.2 i) (λi s=>Dk (k+18+2*i) s.1∧u5 (23+2*i) s.2) (λn i s hi hI hr=> ?_) (λn s hI=> ?_) 8 N 1 s ω ω ω ⟨Dk.mono hI.1 ω,G.mono ω hI.2⟩
   all_goals unfold fN.nG fN.mE
   ·have hl:=hI.2.1
    have mX:=s64 i ω
    dsimp only
    rw[ax (x:=(i:Int)+1) ω ω,ag i]
    exact dU (λ_=>af (im N δ hI.1 (by unfold jM;omega)) λr ⟨_,hd⟩=>af (im N δ hd (by unfold jM;omega)) λr ⟨_,hd⟩=>aC (by rw[xB];omega) (hr (_,_) ⟨Dk.mono hd ω,G.mono ω (G.cat hI.2 (G.two (m:=2) (rK bk bJ mX bJ bJ bJ (fQ _) bJ) (rK bk bJ mX bJ bJ bJ (fQ _) bJ) ω))⟩)) λ_=>ω
   ·exact dU (λ_=>ω) λ_=>an ⟨G.mono ω hI.2,Dk.mono hI.1 ω⟩
theorem Ku{x:Nat}(h:x<1000000):W .i64 (((x+1:Nat):Int)-1)=(x:Int):=by rw[ax ω ω];omega
theorem IV(N:Nat)(hN:1000≤N){k:Nat}{d:aL}(h:Dk k d){c:ae}(hc:Cf c){wQ:Int}(hm:0≤wQ∧wQ≤100)(hk:k≤10000):Ok (λr=>u5 200 r.1∧Dk (k+3000) r.2) (pD N d c wQ):=by
 have hn:=hc.n
 have hl:=hc.g.1.1
 unfold pD pD.b
 rw[ax (x:=wQ+1) ω ω]
 refine af (Qt N ω h c ω) λr ⟨zX,hd⟩=>af (im N ⟨ω,ω⟩ hd (by unfold jM;omega)) λz ⟨hz,hd⟩=> ?_
 obtain⟨j,hj⟩: ∃j:Nat,z.1=(j:Int):=⟨z.1.toNat,ω⟩
 rw[hj]
 refine xy (F:=λn x (s:aL×cR)=>pD.l3 N n s.1 c s.2 x) (λx s=>x≤100∧Dk (k+100+25*(100-x)) s.1∧u5 (40+(100-x)) s.2) (λn x s hI hr=> ?_) (λn s hI=> ?_) j N (z.2,r.1) ω ⟨ω,Dk.mono hd ω,G.mono ω zX⟩
 all_goals unfold pD.l3 pD.nC
 ·obtain⟨hx,hd,hG⟩:=hI
  have hs:=hG.1
  rw[Ku ω]
  have put: ∀(e:gJ) (d:aL) (q:Nat),G 0 kO e→Dk q d→q≤k+100+25*(100-(x+1))+25→Ok (λr=>u5 200 r.1∧Dk (k+3000) r.2) (cond (small (s.2.length+[e].length)) (pD.l3 N n d c (s.2++[e]) (x:Int)) none):=λe d q he hd hq=>aC (by rw[aI];omega) (hr (_,_) ⟨ω,Dk.mono hd ω,G.mono ω (G.cat hG (G.one (m:=1) he ω))⟩)
  exact aw (λ_=>af (im N δ hd (by unfold jM;omega)) λa ⟨_,hd⟩=>ok_eq (λ_=>af (FX N hd hc ω) λr ⟨h1,h2⟩=>put _ _ _ h1 h2 ω) λ_=>ok_eq (λ_=>af (im N ⟨ω,ω⟩ hd (by unfold jM;omega)) λb ⟨hb,hd⟩=>af (Kt N hd c hb hl ω) λr ⟨h1,h2⟩=>put _ _ _ h1 h2 ω) λ_=>af (Nr N hd c hn hl ω) λr ⟨h1,h2⟩=>put _ _ _ h1 h2 ω) λ_=>ω
 ·exact aw (λ_=>ω) λ_=>an ⟨G.mono ω hI.2.2,Dk.mono hI.2.1 ω⟩
theorem tA(N:Nat)(hN:1000≤N){k:Nat}{d:aL}(h:Dk k d){c:ae}(hc:Cf c)(hk:k≤100000):Ok (λr=>u5 3 r.1∧Dk (k+100) r.2) (nq N d c):=by
 have hn:=hc.n
 have hl:=hc.g.1.1
 unfold nq nq.b
 refine af (im N δ h (by unfold jM;omega)) λz ⟨hz,hd⟩=> ?_
 obtain⟨j,hj⟩: ∃j:Nat,z.1=(j:Int):=⟨z.1.toNat,ω⟩
 rw[hj]
 refine xy (F:=λn x (s:aL×cR)=>nq.l3 N n s.1 c s.2 x) (λx s=>x≤3∧Dk (k+1+25*(3-x)) s.1∧u5 (3-x) s.2) (λn x s hI hr=> ?_) (λn s hI=> ?_) j N (z.2,[]) ω ⟨ω,Dk.mono hd ω,G.nil⟩
 all_goals unfold nq.l3 nq.nC
 ·obtain⟨hx,hd,hG⟩:=hI
  have hs:=hG.1
  rw[Ku ω]
  have put: ∀(e:gJ) (d:aL) (q:Nat),G 0 kO e→Dk q d→q≤k+1+25*(3-(x+1))+25→Ok (λr=>u5 3 r.1∧Dk (k+100) r.2) (cond (small (s.2.length+[e].length)) (nq.l3 N n d c (s.2++[e]) (x:Int)) none):=λe d q he hd hq=>aC (by rw[aI];omega) (hr (_,_) ⟨ω,Dk.mono hd ω,G.mono ω (G.cat hG (G.one (m:=1) he ω))⟩)
  exact aw (λ_=>af (pC N δ hd (by unfold jM;omega)) λa hd=>oZ (λ_=>af (im N ⟨ω,ω⟩ hd (by unfold jM;omega)) λb ⟨hb,hd⟩=>af (Kt N hd c hb hl ω) λr ⟨h1,h2⟩=>put _ _ _ h1 h2 ω) λ_=>af (FX N hd hc ω) λr ⟨h1,h2⟩=>put _ _ _ h1 h2 ω) λ_=>ω
 ·exact aw (λ_=>ω) λ_=>an ⟨G.mono ω hI.2.2,Dk.mono hI.2.1 ω⟩
end VM
end
section
namespace VM
open Go VM.F
theorem eW{α:Type}{r:α}:Ok (λ_=>True) (some r):=an trivial
theorem TV(N:Nat)(k:Int):Ok (λs=>ByteArray.size s≤100) (aan N k):=by
 unfold aan
 repeat' first|refine ok_eq (λ_=> ?_) (λ_=> ?_)|exact an δ
theorem TW(N:Nat)(k f:Int):Ok (λ_=>True) (aao N k f):=by
 unfold aao ahN ahO
 repeat' first|refine ok_eq (λ_=> ?_) (λ_=> ?_)|exact eW|refine af (Q:=λ_=>True) ?_ λ_ _=>eW
theorem W3(N:Nat)(e:gJ)(f:Int):Ok (λ_=>True) (aap N e f):=by
 unfold aap
 repeat' first|refine ok_eq (λ_=> ?_) (λ_=> ?_)|exact eW
theorem W4(N:Nat)(e:gJ)(f x:Int):Ok (λ_=>True) (aaq N e f x):=by
 unfold aaq
 repeat' first|refine ok_eq (λ_=> ?_) (λ_=> ?_)|exact eW
theorem IW(N:Nat)(hN:1000≤N)(e:gJ):Ok (λ_=>True) (ra N e):=by
 unfold ra ra.b ahP
 refine af (Q:=λ_=>True) (dU (λ_=>eW) λ_=>eW) λ_ _=>bt (λ_=>eW) λ_=>af (TV N _) λs hs=> ?_
 refine bc (len:=ByteArray.size s) (F:=λn i (x:gJ)=>ra.l6 N n e s x i) (λ_ _=>True) trivial ω (λn i x hi _ hr=> ?_) (λn x _=> ?_)
 all_goals unfold ra.l6 ra.ud
 ·rw[ax (x:=(i:Int)+1) ω ω,ag i]
  exact aw (λ_=>aB ⟨ω,ω⟩ (af (TW N _ _) λ_ _=>aB ⟨ω,ω⟩ (af (W3 N _ _) λ_ _=>aw (λ_=>eW) λ_=>aw (λ_=>eW) λ_=>aB ⟨ω,ω⟩ (af (W4 N _ _ _) λy _=>hr y trivial)))) λ_=>ω
 ·exact aw (λ_=>ω) λ_=>eW
theorem G.ins{m:Nat}{e:Ty}{l:List e.den}{x:e.den}(h:G m (.slice e) l)(hx:G m e x)(a b c:Nat)(ha:c≤a):G (m+1) (.slice e) ((([]++List.drop b (List.take c l))++[x])++List.drop a (List.take l.length l)):=by
 have:=h.1
 refine⟨?_,λy hy=> ?_⟩
 ·simp only[cI,aS,dO,cc,aI];omega
 ·rw[cI,br]at hy
  rcases bb.1 hy with hy|hy
  ·exact G.mono ω (h.2 y (lC (mK hy)))
  ·rcases bb.1 hy with hy|hy
   ·rw[bT.1 hy];exact G.mono ω hx
   ·exact G.mono ω (h.2 y (lC (mK hy)))
theorem Kv{α:Type}{P:List α×Int→Prop}{l:List α}{x:α}{k:Nat}{e:Int}(hk:k≤l.length)(hl:l.length≤1000000)(h:P ((([]++List.drop (0:Int).toNat (List.take (k:Int).toNat l))++[x])++List.drop (k:Int).toNat (List.take (l.length:Int).toNat l),e)):
  Ok P (cond (jS 0 (k:Int) (l.length:Int) (l.length:Int)) (let v6:List α:=List.drop (0:Int).toNat (List.take (k:Int).toNat l);cond (small (([]:List α).length+v6.length)) (let v7:List α:=[]++v6;cond (small (v7.length+[x].length)) (let v8:List α:=v7++[x];cond (jS (k:Int) (l.length:Int) (l.length:Int) (l.length:Int)) (let v9:List α:=List.drop (k:Int).toNat (List.take (l.length:Int).toNat l);cond (small (v8.length+v9.length)) (some ((v8++v9),e)) none) none) none) none) none):=by
 dsimp only
 have t: ∀a b:Nat,(List.drop a (List.take b l)).length≤l.length:=λa b=>by rw[dO,cc];omega
 have t1:=t (0:Int).toNat (k:Int).toNat
 have t2:=t (k:Int).toNat (l.length:Int).toNat
 refine Bz ⟨ω,ω,ω,ω⟩ (aC (by rw[bS];omega) (aC ?_ (Bz ⟨ω,ω,ω,ω⟩ (aC ?_ (an h)))))
 ·rw[cI,aI];omega
 ·rw[cI,aS,aI];omega
theorem W5(N:Nat)(hN:200000≤N){a:aD}{m:Nat}(hm:m≤50000)(h:G m (.slice js) a){id:Int}(bg:aE id):Ok (λr=>G (m+1) (.slice js) r.1) (hZ N a id):=by
 have hl:=h.1
 unfold hZ hZ.b
 refine bA (mj N ω hN) (bt (λ_=>an G.nil) λ_=>aw (λ_=>an G.nil) λ_=>aw (λ_=>an G.nil) λ_=>bA (g7 N ω hN id) (bx (λ_=>an G.nil) λ_=> ?_))
 have fin: ∀k:Nat,k≤a.length→Ok (λr=>G (m+1) (.slice js) r.1) (hZ.j9 N a id [] (k:Int)):=λk hk=>by
  unfold hZ.j9 hZ.MP
  have hx:G m js (id,((1:Int),())):=⟨bg,(show aE 1 from bk),trivial⟩
  exact Kv hk ω (by simpa using G.ins h hx k 0 k (aG _))
 refine lM (len:=a.length) (F:=λn i=>hZ.l7 N n a id [] i) ω (λn i hi hr=> ?_) (λn=> ?_)
 all_goals unfold hZ.l7 hZ.pj
 ·rw[ax (x:=(i:Int)+1) ω ω,ag i]
  exact aw (λ_=>aB ⟨ω,ω⟩ (aw (λ_=>hr) λ_=>fin i ω)) λ_=>ω
 ·exact aw (λ_=>ω) λ_=>fin _ (aG _)
end VM
end
section
namespace VM
open Go VM.F
theorem G4q{m:Nat}{x:bX}{q:Int}(h:G m ej x)(hq:aE q):G m ej (x.1,(x.2.1,(x.2.2.1,(q,x.2.2.2.2)))):=⟨h.1,h.2.1,h.2.2.1,hq,trivial⟩
theorem G4b{m:Nat}{x:bX}{q:Int}(h:G m ej x)(hq:aE q):G m ej (x.1,(q,x.2.2)):=⟨h.1,hq,h.2.2⟩
theorem G2b{m:Nat}{x:yI}{q:Int}(h:G m js x)(hq:aE q):G m js (x.1,(q,x.2.2)):=⟨h.1,hq,trivial⟩
theorem Kw(N:Nat)(hN:200000≤N){l:aM}(hl:l.length≤100000):Ok (λ_=>True) (eu N l):=np (tk N hl hN) trivial
theorem aar(N:Nat)(hN:200000≤N){a:aD}{l:aM}{x:bX}{m:Nat}(hm:m≤50000)(ha:G m (.slice js) a)(h:G m (.slice ej) l)(hx:G 0 ej x):Ok (λr=>G (m+1) (.slice ej) r.1) (fa N a l x):=by
 have h1:=ha.1
 have hl:=h.1
 have fin: ∀k:Nat,k≤l.length→Ok (λr=>G (m+1) (.slice ej) r.1) (fa.AU N l x [] (k:Int)):=λk hk=>by
  unfold fa.AU fa.uI
  exact Kv hk ω (by simpa using G.ins h (G.mono (bo m) hx) k 0 k (aG _))
 have hj:Ok (λr=>G (m+1) (.slice ej) r.1) (fa.IX N l x):=by
  unfold fa.IX fa.BB
  refine lM (len:=l.length) (F:=λn i=>fa.nG N n l x [] i) ω (λn i hi hr=> ?_) (λn=> ?_)
  all_goals unfold fa.nG fa.mE
  ·rw[ax (x:=(i:Int)+1) ω ω,ag i]
   exact aw (λ_=>aB ⟨ω,ω⟩ (aw (λ_=>hr) λ_=>fin i ω)) λ_=>ω
  ·exact aw (λ_=>ω) λ_=>fin _ (aG _)
 unfold fa fa.b
 exact bA (wD N ω ω hN) (bt (λ_=>an G.nil) λ_=>af (Kw N hN (by rw[aI];omega)) λ_ _=>bt (λ_=>an G.nil) λ_=>bA (g7 N ω hN _) (ok_eq (λ_=>an G.nil) λ_=>bx (λ_=>an G.nil) λ_=>bA (qU N ω hN _) (oZ (λ_=>an G.nil) λ_=>ok_eq (λ_=>bA (qi N ω hN _) (bx (λ_=>an G.nil) λ_=>hj)) λ_=>hj)))
theorem W6(N:Nat)(hN:200000≤N){l:aM}{m:Nat}(hm:m≤50000)(h:G m (.slice ej) l){id q:Int}(hq:aE q):Ok (λr=>G m (.slice ej) r.1) (nr N l id q):=by
 have hl:=h.1
 unfold nr nr.b
 refine af (Kw N hN ω) λ_ _=>bt (λ_=>an G.nil) λ_=>aw (λ_=>an G.nil) λ_=>aw (λ_=>an G.nil) λ_=>bA (qU N ω hN _) (bt (λ_=>an G.nil) λ_=>aC (by rw[bS];omega) ?_)
 rw[cI]
 refine bc (len:=l.length) (F:=λn i s=>nr.l8 N n id q s i) (λ_ s=>s.length=l.length∧G m (.slice ej) s) ⟨rfl,h⟩ ω (λn i s hi hI hr=> ?_) (λn s hI=> ?_)
 all_goals unfold nr.l8 nr.xR
 ·rw[ax (x:=(i:Int)+1) ω ω,ag i]
  have hs:=hI.1
  have hx:=G.at hI.2 (i:Int).toNat
  exact aw (λ_=>aB ⟨ω,ω⟩ (ok_eq (λ_=>aB ⟨ω,ω⟩ (hr _ ⟨by rw[bN];exact hs,G.set hI.2 (G4q hx hq) _⟩)) λ_=>hr s hI)) λ_=>ω
 ·have hs:=hI.1
  exact aw (λ_=>ω) λ_=>an hI.2
theorem W7(N:Nat)(a b:Int):Ok (λr=>aE r.1) (TX N a b):=by
 have h: ∀(x:Int) (t:Bool),0≤x∧x<5→Ok (λr:Int×Bool=>aE r.1) (some (x,t)):=λx t hx=>an (Qs hx δ)
 unfold TX
 repeat' first|refine ok_eq (λ_=> ?_) (λ_=> ?_)|exact h _ _ δ
theorem Kx(N:Nat)(hN:200000≤N){l:aD}{m:Nat}(hm:m≤50000)(h:G m (.slice js) l)(id k:Int):Ok (λr=>G m (.slice js) r.1) (lq N l id k):=by
 have hl:=h.1
 unfold lq lq.b
 refine bA (mj N ω hN) (bt (λ_=>an G.nil) λ_=>bA (g7 N ω hN _) (ok_eq (λ_=>an G.nil) λ_=>af (W7 N _ _) λz hz=>bt (λ_=>an G.nil) λ_=>aC (by rw[bS];omega) ?_))
 rw[cI]
 refine bc (len:=l.length) (F:=λn i s=>lq.BA N n id z.1 s i) (λ_ s=>s.length=l.length∧G m (.slice js) s) ⟨rfl,h⟩ ω (λn i s hi hI hr=> ?_) (λn s hI=> ?_)
 all_goals unfold lq.BA lq.yO
 ·rw[ax (x:=(i:Int)+1) ω ω,ag i]
  have hs:=hI.1
  have hx:=G.at hI.2 (i:Int).toNat
  exact aw (λ_=>aB ⟨ω,ω⟩ (ok_eq (λ_=>aB ⟨ω,ω⟩ (hr _ ⟨by rw[bN];exact hs,G.set hI.2 (G2b hx hz) _⟩)) λ_=>hr s hI)) λ_=>ω
 ·have hs:=hI.1
  exact aw (λ_=>ω) λ_=>an hI.2
theorem Qu(N:Nat)(hN:200000≤N){a:aD}{l:aM}{m:Nat}(hm:m≤50000)(ha:G m (.slice js) a)(h:G m (.slice ej) l){id to:Int}(hto:aE to):Ok (λr=>G m (.slice ej) r.1) (ns N a l id to):=by
 have h1:=ha.1
 have hl:=h.1
 unfold ns ns.b
 refine bA (wD N ω ω hN) (bt (λ_=>an G.nil) λ_=>bA (qU N ω hN _) (bA (g7 N ω hN _) (bt (λ_=>an G.nil) λ_=>ok_eq (λ_=>an G.nil) λ_=>bx (λ_=>an G.nil) λ_=>bx (λ_=>an G.nil) λ_=>aC (by rw[bS];omega) ?_)))
 rw[cI]
 refine bc (len:=l.length) (F:=λn i s=>ns.nG N n id to s i) (λ_ s=>s.length=l.length∧G m (.slice ej) s) ⟨rfl,h⟩ ω (λn i s hi hI hr=> ?_) (λn s hI=> ?_)
 all_goals unfold ns.nG ns.mE
 ·rw[ax (x:=(i:Int)+1) ω ω,ag i]
  have hs:=hI.1
  have hx:=G.at hI.2 (i:Int).toNat
  exact aw (λ_=>aB ⟨ω,ω⟩ (ok_eq (λ_=>aB ⟨ω,ω⟩ (hr _ ⟨by rw[bN];exact hs,G.set hI.2 (G4b hx hto) _⟩)) λ_=>hr s hI)) λ_=>ω
 ·have hs:=hI.1
  exact aw (λ_=>ω) λ_=>an hI.2
theorem Ns(N:Nat)(hN:200000≤N){l:aM}{m:Nat}(hm:m≤50000)(h:G m (.slice ej) l)(id:Int):Ok (λr=>r.length≤m) (rf N l id):=by
 have hl:=h.1
 unfold rf rf.b
 refine af (Kw N hN ω) λ_ _=>bt (λ_=>an (bo _)) λ_=>bc (len:=l.length) (F:=λn i s=>rf.l5 N n l id s i) (λi s=>s.length≤i) (bo _) ω (λn i s hi hI hr=> ?_) (λn s hI=> ?_)
 all_goals unfold rf.l5 rf.dV
 ·rw[ax (x:=(i:Int)+1) ω ω,ag i]
  exact aw (λ_=>aB ⟨ω,ω⟩ (ok_eq (λ_=>aB ⟨ω,ω⟩ (aC (by rw[aI];omega) (hr _ (by rw[aS,aI];omega)))) λ_=>hr s ω)) λ_=>ω
 ·exact aw (λ_=>ω) λ_=>an ω
abbrev L6(m:Nat)(l:bq):Prop:=G m (.slice mJ) l
theorem W8(N:Nat)(hN:200000≤N){l:bq}{a:List Int}{m:Nat}(hm:m≤50000)(h:L6 m l)(ha:a.length≤m):Ok (λr=>L6 m r) (fR N l a):=by
 have hl:=h.1
 unfold fR fR.b
 refine bA (g5 N ω hN) (bt (λ_=>an G.nil) λ_=>bc (len:=l.length) (F:=λn i s=>fR.l5 N n l a s i) (λi s=>L6 i s) G.nil ω (λn i s hi hI hr=> ?_) (λn s hI=> ?_))
 all_goals unfold fR.l5 fR.dV
 ·have hs:=hI.1
  refine aw (λ_=> ?_) λ_=>ω
  refine bc (len:=a.length) (F:=λn' j b=>fR.l9 N (fR.l5 N n) n' l a s (i:Int) b j) (λ_ _=>True) trivial ω (λn' j b hj _ eJ=> ?_) (λn' b _=> ?_)
  all_goals unfold fR.l9 fR.xp
  ·rw[ax (x:=(j:Int)+1) ω ω,ag j]
   exact aw (λ_=>oZ (λ_=>eJ _ trivial) λ_=>aB ⟨ω,ω⟩ (aB ⟨ω,ω⟩ (eJ _ trivial))) λ_=>ω
  ·rw[ax (x:=(i:Int)+1) ω ω,ag i]
   have hx:G 0 mJ (l.getD (i:Int).toNat e7):=G.at h _
   exact aw (λ_=>ω) λ_=>bt (λ_=>aB ⟨ω,ω⟩ (aC (by rw[aI];omega) (hr _ (G.cat hI (G.one hx (aG 1)))))) λ_=>hr s (G.mono ω hI)
 ·exact aw (λ_=>ω) λ_=>an (G.mono hl hI)
theorem Nt(N:Nat)(hN:5000000≤N)(c:ae){b:aq}{m:Nat}(hm:m≤50000)(hb:G m aK b)(id:Int):Ok (λr=>G m aK r.1) (Ky N c b id):=by
 unfold Ky
 exact bA (dG N hN hm hb) (bt (λ_=>an G.iJ) λ_=>af (oh N ω hm hb.1 _) λ_ _=>ok_eq (λ_=>an G.iJ) λ_=>af (Ns N ω hm hb.2.1 _) λa ha=>af (W8 N ω hm hb.2.2.2.2.2.1 ha) λr hr=>an ⟨hb.1,hb.2.1,hb.2.2.1,hb.2.2.2.1,hb.2.2.2.2.1,hr,trivial⟩)
theorem CG(N:Nat)(hN:200000≤N){l:aM}{m:Nat}(hm:m≤50000)(h:G m (.slice ej) l)(id:Int):Ok (λr=>G m (.slice ej) r) (o4 N l id):=by
 have hl:=h.1
 unfold o4 o4.b
 refine bA (tu N ω hN) (bt (λ_=>an G.nil) λ_=>bc (len:=l.length) (F:=λn i s=>o4.l5 N n l id s i) (λi s=>G i (.slice ej) s) G.nil ω (λn i s hi hI hr=> ?_) (λn s hI=> ?_))
 all_goals unfold o4.l5 o4.dV
 ·have hs:=hI.1
  have hx:G 0 ej (l.getD (i:Int).toNat aV):=G.at h _
  rw[ax (x:=(i:Int)+1) ω ω,ag i]
  exact aw (λ_=>aB ⟨ω,ω⟩ (bx (λ_=>aB ⟨ω,ω⟩ (aC (by rw[aI];omega) (hr _ (G.cat hI (G.one hx (aG 1)))))) λ_=>hr s (G.mono ω hI))) λ_=>ω
 ·exact aw (λ_=>ω) λ_=>an (G.mono hl hI)
theorem TY(N:Nat)(hN:200000≤N){l:bq}{m:Nat}(hm:m≤50000)(h:L6 m l)(a id:Int):Ok (λr=>L6 m r.1) (nu N l a id):=by
 have hl:=h.1
 unfold nu nu.b
 refine bA (g5 N ω hN) (bt (λ_=>an G.nil) λ_=>bc (len:=l.length) (F:=λn i s=>nu.l5 N n l a id s i) (λi s=>L6 i s) G.nil ω (λn i s hi hI hr=> ?_) (λn s hI=> ?_))
 all_goals unfold nu.l5 nu.dV
 ·have hs:=hI.1
  have hx:G 0 mJ (l.getD (i:Int).toNat e7):=G.at h _
  rw[ax (x:=(i:Int)+1) ω ω,ag i]
  have h1:=hr s (G.mono ω hI)
  have h2:=hr _ (G.cat hI (G.one hx (aG 1)))
  repeat' first|exact h1|exact h2|refine aC (by rw[aI];omega) ?_|refine aB ⟨ω,ω⟩ ?_|refine aw (λ_=> ?_) (λ_=> ?_)|refine bx (λ_=> ?_) (λ_=> ?_)|(exfalso;omega)
 ·exact aw (λ_=>ω) λ_=>ok_eq (λ_=>an G.nil) λ_=>an (G.mono hl hI)
end VM
end
section
namespace VM
open Go VM.F
theorem G6q{m:Nat}{x:gj}{q:Int}(h:G m mJ x)(hq:aE q):G m mJ (x.1,(x.2.1,(x.2.2.1,(x.2.2.2.1,(q,x.2.2.2.2.2))))):=⟨h.1,h.2.1,h.2.2.1,h.2.2.2.1,hq,h.2.2.2.2.2⟩
theorem aas(N:Nat)(hN:200000≤N){l:bq}{m:Nat}(hm:m≤50000)(h:L6 m l)(a d:Int):Ok (λr=>L6 m r) (dI N l a d):=by
 have hl:=h.1
 unfold dI dI.b
 refine bA (g5 N ω hN) (bt (λ_=>an G.nil) λ_=>bc (len:=l.length) (F:=λn i s=>dI.l5 N n l a d s i) (λi s=>L6 i s) G.nil ω (λn i s hi hI hr=> ?_) (λn s hI=> ?_))
 all_goals unfold dI.l5 dI.dV
 ·have hs:=hI.1
  have hx:G 0 mJ (l.getD (i:Int).toNat e7):=G.at h _
  have fin: ∀k:Nat,k≤s.length→Ok (λr=>L6 m r) (dI.IX N (dI.l5 N n) l a d s (i:Int) (k:Int)):=λk hk=>by
   unfold dI.IX dI.BB
   rw[ax (x:=(i:Int)+1) ω ω,ag i]
   dsimp only
   have t: ∀a b:Nat,(List.drop a (List.take b s)).length≤s.length:=λa b=>by rw[dO,cc];omega
   have t1:=t (0:Int).toNat (k:Int).toNat
   have t2:=t (k:Int).toNat (s.length:Int).toNat
   refine Bz ⟨ω,ω,ω,ω⟩ (aC ω (aB ⟨ω,ω⟩ (aC (by rw[aI];omega) (Bz ⟨ω,ω,ω,ω⟩ (aC (by rw[aS,aI];omega) (hr _ ?_))))))
   simpa using G.ins hI (G.mono (bo i) hx) k 0 k (aG _)
  have h1:=hr s (G.mono ω hI)
  have hw:Ok (λr=>L6 m r) (dI.l9 N (dI.l5 N n) N l a d s (i:Int) 0):=by
   refine lM (len:=s.length) (F:=λn' j=>dI.l9 N (dI.l5 N n) n' l a d s (i:Int) j) ω (λn' j hj eJ=> ?_) (λn'=> ?_)
   all_goals unfold dI.l9 dI.xp
   ·rw[ax (x:=(j:Int)+1) ω ω,ag j]
    have hah: ∀x y:gj,Ok (λ_=>True) (TZ N x y):=λx y=>by unfold TZ;exact bx (λ_=>eW) λ_=>eW
    exact aw (λ_=>aB ⟨ω,ω⟩ (aB ⟨ω,ω⟩ (af (hah _ _) λ_ _=>oZ (λ_=>eJ) λ_=>fin j ω))) λ_=>ω
   ·exact aw (λ_=>ω) λ_=>fin _ (aG _)
  rw[ax (x:=(i:Int)+1) ω ω,ag i]
  repeat' first|exact h1|exact hw|refine aB ⟨ω,ω⟩ ?_|refine aw (λ_=> ?_) (λ_=> ?_)|refine bx (λ_=> ?_) (λ_=> ?_)|(exfalso;omega)
 ·exact aw (λ_=>ω) λ_=>an (G.mono hl hI)
theorem W9(N:Nat)(hN:200000≤N){l:bq}{o:gj}{m:Nat}(hm:m≤50000)(h:L6 m l)(ho:G 0 mJ o):Ok (λr=>L6 m r.1∧aE r.2.2.1) (cf N l o):=by
 have hl:=h.1
 have fin: ∀(s:bq) (q:Int) (t:bK),L6 m s→aE q→Ok (λr=>L6 m r.1∧aE r.2.2.1) (cf.j22 N s q t):=λs q t hs hq=>by
  have G9:=hs.1
  unfold cf.j22 cf.aat
  refine bc (len:=s.length) (F:=λn i u=>cf.La N n s q t u i) (λi u=>L6 i u) G.nil ω (λn i u hi hI hr=> ?_) (λn u hI=> ?_)
  all_goals unfold cf.La cf.Nu
  ·have hu:=hI.1
   have hx:G 0 mJ (s.getD (i:Int).toNat e7):=G.at hs _
   rw[ax (x:=(i:Int)+1) ω ω,ag i]
   have h1:=hr u (G.mono ω hI)
   have h2:=hr _ (G.cat hI (G.one hx (aG 1)))
   repeat' first|exact h1|exact h2|refine aC (by rw[aI];omega) ?_|refine aB ⟨ω,ω⟩ ?_|refine aw (λ_=> ?_) (λ_=> ?_)|(exfalso;omega)
  ·exact aw (λ_=>ω) λ_=>an ⟨G.mono G9 hI,hq⟩
 have dH:Ok (λr:bq×bK×Int×Int=>L6 m r.1∧aE r.2.2.1) (some ([],[],(0:Int),(1:Int))):=an ⟨G.nil,bJ⟩
 unfold cf cf.b
 refine bA (g5 N ω hN) (bt (λ_=>dH) λ_=>bA (Aa N o) (bt (λ_=>dH) λ_=>aC (by rw[bS];omega) (af (aas N hN hm h _ _) λw hw=> ?_)))
 have hwl:=hw.1
 rw[cI]
 refine bc (len:=w.length) (F:=λn i (s:bq×Int×bK)=>cf.l7 N n o s.1 s.2.1 s.2.2 w i) (s:=(_,(_,_))) (λi s=>L6 m s.1∧aE s.2.1∧s.2.2.length≤i) ⟨h,ho.2.2.2.2.1,bo _⟩ ω (λn i s hi hI hr=> ?_) (λn s hI=> ?_)
 all_goals unfold cf.l7 cf.pj
 ·obtain⟨hs,hq,ht⟩:=hI
  have f1:=fin s.1 s.2.1 s.2.2 hs hq
  have ahQ: ∀(v:Int) (t:sK),Ok (λr=>L6 m r.1∧aE r.2.2.1) (cf.AU N (cf.l7 N n) o s.1 s.2.1 s.2.2 w (i:Int) v t):=λv t=>by
   unfold cf.AU cf.uI
   refine aC (by rw[aI];omega) (bc (len:=s.1.length) (F:=λn' j u=>cf.GN N (cf.l7 N n) n' o u (W .i64 (s.2.1-v)) (s.2.2++[t]) w (i:Int) v j) (λ_ u=>u.length=s.1.length∧L6 m u) ⟨rfl,hs⟩ (by have:=hs.1;omega) (λn' j u hj hJ eJ=> ?_) (λn' u hJ=> ?_))
   all_goals unfold cf.GN cf.Dr
   ·have G9:=hs.1
    have GO:=hJ.1
    rw[ax (x:=(j:Int)+1) ω ω,ag j]
    exact aw (λ_=>aB ⟨ω,ω⟩ (aB ⟨ω,ω⟩ (ok_eq (λ_=>aB ⟨ω,ω⟩ (aB ⟨ω,ω⟩ (eJ _ ⟨by rw[bN];exact GO,G.set hJ.2 (G6q (G.at hJ.2 _) (fQ _)) _⟩))) λ_=>eJ u hJ))) λ_=>ω
   ·have GO:=hJ.1
    rw[ax (x:=(i:Int)+1) ω ω,ag i]
    exact aw (λ_=>ω) λ_=>hr (_,(_,_)) ⟨hJ.2,fQ _,by dsimp only;rw[List.length_append,List.length_singleton];omega⟩
  have Ds:Ok (λr=>L6 m r.1∧aE r.2.2.1) (cf.Hy N (cf.l7 N n) o s.1 s.2.1 s.2.2 w (i:Int)):=by
   unfold cf.Hy cf.BC
   rw[ax (x:=(i:Int)+1) ω ω,ag i]
   dsimp only
   have h1:=hr s ⟨hs,hq,ω⟩
   repeat' first|exact h1|exact ahQ _ _|refine aB ⟨ω,ω⟩ ?_|refine ok_eq (λ_=> ?_) (λ_=> ?_)
  repeat' first|exact f1|exact Ds|refine aB ⟨ω,ω⟩ ?_|refine aw (λ_=> ?_) (λ_=> ?_)|refine ok_eq (λ_=> ?_) (λ_=> ?_)|(exfalso;omega)
 ·exact aw (λ_=>ω) λ_=>fin _ _ _ hI.1 hI.2.1
theorem Xa(N:Nat)(hN:5000000≤N){c:ae}{b:aq}{o:gj}{m:Nat}(h2:200≤m)(hm:m≤40000)(hc:G m aA c)(hb:G m aK b)(ho:G 0 mJ o):Ok (λr=>G (m+1) aK r.1) (jb N c b o):=by
 have HX:=hb.2.2.2.2.2.1.1
 have dH: ∀(t:bK) (e:Int),Ok (λr:aq×bK×Int×Int=>G (m+1) aK r.1) (some ((cm,(c8,(bH,(bH,(dC,(dP,())))))),(t,((0:Int),e)))):=λt e=>an (G.zero (m+1) aK)
 have Ds: ∀(r:bq) (t:bK) (q:Int),L6 m r→aE q→Ok (λr=>G (m+1) aK r.1) (jb.Hy N c b o (cm,(c8,(bH,(bH,(dC,(dP,())))))) r t q):=λr t q hr hq=>by
  have HM:=hr.1
  unfold jb.Hy jb.BC
  have hx:G 0 mJ (o.1,(o.2.1,(o.2.2.1,(o.2.2.2.1,(q,o.2.2.2.2.2))))):=G6q ho hq
  exact af (IS N hN c h2 ω hb) λz hz=>bx (λ_=>dH _ _) λ_=>by
   have B5:G (m+1) aK z.1:=G.mono ω hz
   exact aw (λ_=>aC (by rw[aI];omega) (an ⟨B5.1,B5.2.1,B5.2.2.1,B5.2.2.2.1,B5.2.2.2.2.1,G.cat hr (G.one hx (aG 1)),trivial⟩)) λ_=>an ⟨B5.1,B5.2.1,B5.2.2.1,B5.2.2.2.1,B5.2.2.2.2.1,G.mono ω hr,trivial⟩
 have hj7:Ok (λr=>G (m+1) aK r.1) (jb.j7 N c b o (cm,(c8,(bH,(bH,(dC,(dP,()))))))):=by
  unfold jb.j7 jb.UO
  exact af (W9 N ω ω hb.2.2.2.2.2.1 ho) λz hz=>aw (λ_=>ok_eq (λ_=>dH _ _) λ_=>Ds _ _ _ hz.1 hz.2) λ_=>Ds _ _ _ hz.1 hz.2
 unfold jb jb.b
 refine af (AD N hN h2 hm hc hb (G.mono (bo m) ho)) λe _=>bx (λ_=>dH _ _) λ_=>aw (λh0=> ?_) λ_=>hj7
 dsimp only
 exact aB (by rw[ax ω ω];omega) (dU (λ_=>dH _ _) λ_=>hj7)
end VM
end
section
namespace VM
open Go VM.F
theorem ahR(N:Nat)(a:Int):Ok (λ_=>True) (Ki N a):=by
 unfold Ki
 exact ok_eq (λ_=>eW) λ_=>eW
theorem jL.one{k n:Int}{x:aH}{m:Nat}(h:Bg m x)(hm:m≤8):jL 1 [(k,(n,(x,())))]:=⟨aG 1,λy hy=>by rw[bT.1 hy];exact Bg.mono h hm⟩
theorem Xb(N:Nat)(hN:4000000≤N){l:au}{m:Nat}(hm:m≤50000)(h:L3 m l)(i a b:Int):Ok (λr=>jL m r.1) (nv N l i a b):=by
 have hl:=h.1
 unfold nv nv.b
 have p64: ∀p:Int,decide (1≤p∧p≤1000000000000)=true→aE p:=λp h=>by have:=bz h;unfold aE;omega
 refine bA (kF N ω ω) (bt (λ_=>an jL.nil) λ_=>bA (iE N _) (bt (λ_=>an jL.nil) λha=>bA (iE N _) (bt (λ_=>an jL.nil) λhb=>af (bp N hN (p64 _ hb)) λx hx=>af (bp N hN (p64 _ ha)) λy hy=>af (xz N hN ω hx hy) λz hz=>bc (len:=l.length) (F:=λn j s=>nv.l6 N n l i s z j) (λj s=>jL j s) jL.nil ω (λn j s hj hI hr=> ?_) (λn s hI=> ?_))))
 all_goals unfold nv.l6 nv.ud
 ·have hs:=hI.1
  rw[ax (x:=(j:Int)+1) ω ω,ag j]
  have h1:=hr s (jL.mono hI ω)
  exact aw (λ_=>aB ⟨ω,ω⟩ (bx (λ_=>h1) λ_=>af (DT N hz) λ_ _=>ok_eq (λ_=>h1) λ_=>aB ⟨ω,ω⟩ (af (ahR N _) λ_ _=>aB ⟨ω,ω⟩ (af (bp N hN (G.at h _).2.2.1) λv hv=>af (ln N hN ω ω hv hz) λu hu=>aC (by rw[aI];omega) (hr _ (jL.app hI (jL.one hu ω))))))) λ_=>ω
 ·exact aw (λ_=>ω) λ_=>an (jL.mono hI ω)
theorem CH(N:Nat)(hN:5000000≤N)(c:ae){b:aq}{m:Nat}(h2:200≤m)(hm:m≤50000)(hb:G m aK b)(i:Int){p:Int}(hp:aE p):Ok (λr=>G m aK r.1∧jL m r.2.1) (T0 N c b i p):=by
 have dH: ∀e:Int,Ok (λr:aq×bE×Int=>G m aK r.1∧jL m r.2.1) (some ((cm,(c8,(bH,(bH,(dC,(dP,())))))),([],e))):=λe=>an ⟨G.iJ,jL.nil⟩
 have G4:=hb.2.2.2.2.1.1
 unfold T0
 refine bA (dG N hN hm hb) (bt (λ_=>dH _) λhB=>bA (iE N _) (bt (λ_=>dH _) λ_=>aw (λ_=>dH _) λh0=>dU (λ_=>dH _) λh1=> ?_))
 obtain⟨hpr,_⟩:=g9 hB
 dsimp only
 rw[cI]
 exact aB ⟨h0,by rw[hpr];exact h1⟩ (af (Xb N ω hm hb.2.2.2.1 _ _ _) λf hf=>af (sx N ω h2 hm hb G.nil (jL.mono hf hm)) λr hr=>bx (λ_=>dH _) λ_=>aC (by rw[bS];omega) (aB ⟨h0,by rw[hpr];exact h1⟩ (an ⟨⟨hr.1,hr.2.1,hr.2.2.1,hr.2.2.2.1,G.set hb.2.2.2.2.1 hp _,hr.2.2.2.2.2⟩,hf⟩)))
abbrev L2(m:Nat)(l:aD):Prop:=G m (.slice js) l
theorem G2{m:Nat}{a b:Int}(ha:aE a)(hb:aE b):G m js (a,(b,())):=⟨ha,hb,trivial⟩
theorem BD(N:Nat)(hN:200000≤N){l:aD}(hl:l.length≤100000):Ok (λ_=>True) (p5 N l):=by
 unfold p5 p5.b
 refine lM (len:=l.length) (F:=λn i=>p5.l2 N n l i) ω (λn i hi hr=> ?_) (λn=> ?_)
 all_goals unfold p5.l2 p5.gD
 ·rw[ax (x:=(i:Int)+1) ω ω,ag i]
  dsimp only
  repeat' first|exact hr|exact eW|refine aB ⟨ω,ω⟩ ?_|refine aB (by rw[ax (x:=(i:Int)-1) ω ω];omega) ?_|refine aw (λ_=> ?_) (λ_=> ?_)|refine dU (λ_=> ?_) (λ_=> ?_)|refine ok_eq (λ_=> ?_) (λ_=> ?_)|(exfalso;omega)
 ·exact aw (λ_=>ω) λ_=>eW
theorem Nv(N:Nat)(hN:4000000≤N){g:aD}{p:bE}{m:Nat}(h2:200≤m)(hm:m≤50000)(h:L2 m g)(hp:jL m p):Ok (λr=>L2 m r.1) (eL N g p):=by
 have hl:=h.1
 have G4:=hp.1
 unfold eL eL.b
 refine af (BD N ω ω) λ_ _=>bt (λ_=>an G.nil) λ_=>iv (len:=25) (F:=λn i s=>eL.l5 N n g p s i) (λi s=>L2 i s) (λn i s hi hI hr=> ?_) (λn s hI=> ?_) 25 N 1 [] ω ω ω G.nil
 all_goals unfold eL.l5 eL.dV
 ·have hs:=hI.1
  refine dU (λ_=> ?_) λ_=>ω
  refine bc (len:=g.length) (F:=λn' j t=>eL.l9 N (eL.l5 N n) n' g p s (i:Int) t j) (λ_ t=>Bg 2 t) (Ks ω) ω (λn' j t hj ht eJ=> ?_) (λn' t ht=> ?_)
  all_goals unfold eL.l9 eL.xp
  ·rw[ax (x:=(j:Int)+1) ω ω,ag j]
   exact aw (λ_=>aB ⟨ω,ω⟩ (ok_eq (λ_=>aB ⟨ω,ω⟩ (af (bp N hN (G.at h _).2.1) λr hr=>eJ r hr)) λ_=>eJ t ht)) λ_=>ω
  ·refine aw (λ_=>ω) λ_=> ?_
   refine bc (len:=p.length) (F:=λIQ j t=>eL.IG N (eL.l5 N n) IQ g p s (i:Int) t j) (λj t=>Bg (8+j) t) (Bg.mono ht ω) ω (λIQ j t hj ht eJ=> ?_) (λIQ t ht=> ?_)
   all_goals unfold eL.IG eL.FL
   ·rw[ax (x:=(j:Int)+1) ω ω,ag j]
    have h1:=eJ t (Bg.mono ht ω)
    exact aw (λ_=>aB ⟨ω,ω⟩ (ok_eq (λ_=>aB ⟨ω,ω⟩ (ok_eq (λ_=>aB ⟨ω,ω⟩ (af (kI N hN ω ht (Bg.mono (hp.at _) ω)) λr hr=>eJ r (Bg.mono hr ω))) λ_=>h1)) λ_=>h1)) λ_=>ω
   ·rw[ax (x:=(i:Int)+1) ω ω,ag i]
    exact aw (λ_=>ω) λ_=>af (wP N ht) λv hv=>bt (λ_=>an G.nil) λ_=>bx (λ_=>aC (by rw[aI];omega) (hr _ (G.cat hI (G.one (m:=1) (G2 (iI ω ω) hv) (aG 1))))) λ_=>hr s (G.mono ω hI)
 ·exact dU (λ_=>ω) λ_=>an (G.mono ω hI)
theorem sy(N:Nat)(hN:4000000≤N)(a b c d:Int){x:aH}(h:Bg 8 x):Ok (λr=>jL 2 r) (xU N a b c d x):=by
 unfold xU
 exact af (qj N hN ω h) λy hy=>an ⟨aG 2,λz hz=>by
  rcases aX.1 hz with rfl|hz
  ·exact hy
  ·rw[bT.1 hz];exact h⟩
theorem Nw(N:Nat)(hN:5000000≤N){c:ae}{b:aq}{m:Nat}(h2:200≤m)(hm:m≤40000)(hc:G m aA c)(hb:G m aK b)(a:Int){q:Int}(hq:aE q):Ok (λr=>G m aK r.1) (T1 N c b a q):=by
 unfold T1
 exact bA (dG N hN ω hb) (bt (λ_=>an G.iJ) λ_=>aw (λ_=>an G.iJ) λ_=>af (xA N ω ω hb.2.1 _) λ_ _=>bt (λ_=>an G.iJ) λ_=>af (oh N ω ω hb.1 _) λ_ _=>bx (λ_=>an G.iJ) λ_=>af (lY N ω ω hb.2.2.1 _ _) λg hg=>af (bp N ω hg) λx hx=>af (bp N ω hq) λy hy=>af (xz N ω ω hx hy) λz hz=>af (FV N ω h2 hm hc hb (bo _) _) λw hw=>af (pz N ω ω ω hz hw) λ_ _=>aw (λ_=>an G.iJ) λ_=>af (bp N ω hq) λy hy=>af (sy N ω _ _ _ _ (Bg.mono hy ω)) λp hp=>af (sx N ω h2 ω hb G.nil (jL.mono hp ω)) λr hr=>an hr)
theorem Qv(N:Nat)(hN:1000≤N){c:ae}(hc:G 5 aA c):Ok (λr=>G 5 aK r.1) (ia N c):=by
 have hl:=hc.1.1
 unfold ia ia.b
 have hj: ∀b:aq,G 5 aK b→Ok (λr=>G 5 aK r.1) (ia.j6 N c (cm,(c8,(bH,(bH,(dC,(dP,())))))) b []):=λb hb=>by
  unfold ia.j6 ia.Tj
  obtain⟨b1,b2,b3,b4,b5,b6⟩:=b
  refine bc (len:=c.1.length) (F:=λn i (z:aq×List Int)=>ia.l7 N n c (cm,(c8,(bH,(bH,(dC,(dP,())))))) z.1 z.2 i) (s:=((b1,(b2,(b3,(b4,(b5,b6))))),_)) (λi z=>G 5 aK z.1∧G i (.slice (.int .i64)) z.2) ⟨hb,G.nil⟩ ω (λn i z hi hI hr=> ?_) (λn z hI=> ?_)
  all_goals unfold ia.l7 ia.pj
  ·have hz:=hI.2.1
   rw[ax (x:=(i:Int)+1) ω ω,ag i]
   have hx:G 0 (.int .i64) (c.1.getD (i:Int).toNat aV).2.1:=(G.at hc.1 _).2.1
   exact aw (λ_=>aB ⟨ω,ω⟩ (aC (by rw[aI];omega) (hr (_,_) ⟨⟨hI.1.1,hI.1.2.1,hI.1.2.2.1,hI.1.2.2.2.1,G.nil,hI.1.2.2.2.2.2⟩,G.cat hI.2 (G.one hx (aG 1))⟩))) λ_=>ω
  ·exact aw (λ_=>ω) λ_=>an ⟨hI.1.1,hI.1.2.1,hI.1.2.2.1,hI.1.2.2.2.1,G.mono hl hI.2,hI.1.2.2.2.2.2⟩
 have yv:L3 5 [((1:Int),((0:Int),(W .i64 (0-c.2.1),()))),((3:Int),((0:Int),(c.2.1,())))]:=G.two (G3 (show aE 1 from bk) bJ (fQ _)) (G3 (show aE 3 from bk) bJ hc.2.1) δ
 exact bA (m4 N ω c) (bt (λ_=>an G.iJ) λ_=>bx (λ_=>hj _ ⟨G.nil,G.nil,yv,G.nil,G.nil,G.nil,trivial⟩) λ_=>hj _ G.iJ)
end VM
end
section
namespace VM
open Go VM.F
theorem BE(N:Nat)(hN:4000000≤N){c:ae}{l:aD}{m:Nat}(hm:m≤50000)(hc:G m aA c)(hl:L2 m l)(f:Bool):Ok (λr=>Bg 60000 r.1) (ll N c l f):=by
 have h1:=hl.1
 unfold ll ll.b
 refine bA (wG N ω c ω) (bt (λ_=>an (Ks ω)) λhk=>bc (len:=l.length) (F:=λn i t=>ll.l5 N n l f c (false,(([]:List Int),())) t i) (λi t=>Bg (8+i) t) (Ks ω) ω (λn i t hi ht hr=> ?_) (λn t ht=> ?_))
 all_goals unfold ll.l5 ll.dV
 ·rw[ax (x:=(i:Int)+1) ω ω,ag i,aJ]
  unfold lW at hk
  have hp:=bz (cN.1 hk).1 i hi
  unfold m9 m8 at hp
  have in1: ∀{x y:Option (aH×Int)},Ok (λr=>Bg 60000 r.1) x→Ok (λr=>Bg 60000 r.1) (cond (ba (l.getD i cz).1 c.1.length) x y):=λh=>aB ⟨hp.1,hp.2.1⟩ h
  have hw: ∀q:Int,aE q→Ok (λr=>Bg 60000 r.1) ((jN N (l.getD i cz).2.1).bind λr3=>(V4 N r3).bind λr4=>(jN N q).bind λr5=>(jJ N r4 r5).bind λr6=>(yX N t r6).bind λr7=>ll.l5 N n l f c (false,(([]:List Int),())) r7 ((i+1:Nat):Int)):=λq hq=>
   af (bp N hN (G.at hl i).2.1) λx hx=>af (AB N hN ω hx) λx hx=>af (bp N hN hq) λy hy=>af (ln N hN ω ω hx hy) λz hz=>af (kI N hN ω ht (Bg.mono hz ω)) λu hu=>hr u (Bg.mono hu ω)
  exact aw (λ_=>aB ⟨ω,ω⟩ (in1 (oZ (λ_=>aB ⟨ω,ω⟩ (in1 (aB ⟨ω,ω⟩ (hw _ (G.at hc.1 _).2.2.2.1)))) λ_=>aB ⟨ω,ω⟩ (hw _ (G.at hc.1 _).2.2.1)))) λ_=>ω
 ·exact aw (λ_=>ω) λ_=>an (Bg.mono ht ω)
theorem qk(N:Nat)(hN:200000≤N){b:aq}{m:Nat}(hm:m≤50000)(hb:G m aK b)(id:Int):Ok (λ_=>True) (Hz N b id):=by
 unfold Hz
 exact af (oh N hN hm hb.1 _) λ_ _=>eW
theorem tB(N:Nat)(hN:200000≤N){b:aq}{m:Nat}(hm:m≤50000)(hb:G m aK b)(id:Int):Ok aE (Hr N b id):=by
 unfold Hr
 exact af (lY N hN hm hb.2.2.1 _ _) λr hr=>an hr
theorem Xc(N:Nat)(hN:5000000≤N){c:ae}{b:aq}{m:Nat}(hm:m≤40000)(hc:G m aA c)(hb:G m aK b)(f to a:Int):Ok (λ_=>True) (aau N c b f to a):=by
 unfold aau ahS
 have mb:=λid=>qk N ω ω hb id
 exact bA (dG N hN ω hb) (bt (λ_=>eW) λ_=>af (xA N ω ω hb.2.1 _) λ_ _=>bt (λ_=>eW) λ_=>af (mb _) λ_ _=>ok_eq (λ_=>eW) λ_=>af (mb _) λ_ _=>ok_eq (λ_=>eW) λ_=>bx (λ_=>eW) λ_=>bx (λ_=>eW) λ_=>af (mb _) λ_ _=>bx (λ_=>eW) λ_=>af (Np N ω ω hb.2.2.2.1 _) λl hl=>af (Q:=λr=>Bg 60000 r.1) (af (BE N ω ω hc hl _) λr hr=>an hr) λu hu=>af (tB N ω ω hb _) λg hg=>af (bp N ω hg) λx hx=>af (pz N ω ω ω hx hu) λ_ _=>aw (λ_=>eW) λ_=>eW)
theorem aav(N:Nat)(hN:5000000≤N){c:ae}{b:aq}{m:Nat}(hm:m≤40000)(hc:G m aA c)(hb:G m aK b)(f:Int){to:Int}(hto:aE to)(a:Int):Ok (λr=>G m aK r.1) (T2 N c b f to a):=by
 unfold T2
 exact af (Xc N hN hm hc hb _ _ _) λ_ _=>bx (λ_=>an G.iJ) λ_=>af (Qu N ω ω hb.1 hb.2.1 hto) λr hr=>bx (λ_=>an G.iJ) λ_=>an ⟨hb.1,hr,hb.2.2⟩
theorem T3(N:Nat)(hN:4000000≤N){x:aH}{q:Int}(hx:Bg 60000 x)(hq:aE q):Ok (λr=>0≤r∧r≤3) (ri N x q):=by
 unfold ri ri.b
 refine af (DT N hx) λ_ _=>dU (λ_=>an δ) λ_=>aw (λ_=>an δ) λ_=>iv (len:=3) (F:=λn i (_:Unit)=>ri.l4 N n q x i) (λ_ _=>True) (λn i _ hi _ hr=> ?_) (λn _ _=> ?_) 3 N 1 () ω ω ω trivial
 all_goals unfold ri.l4 ri.dv
 ·rw[ax (x:=(i:Int)+1) ω ω,ag i]
  exact aw (λ_=>af (bp N hN (iI ω ω)) λa ha=>af (bp N hN hq) λb hb=>af (ln N hN ω ω ha hb) λy hy=>af (pz N hN ω ω hy hx) λ_ _=>aw (λ_=>hr () trivial) λ_=>an ω) λ_=>ω
 ·exact aw (λ_=>ω) λ_=>an ω
theorem R8(N:Nat)(hN:5000000≤N)(c:ae){b:aq}{m:Nat}(hm:m≤50000)(hb:G m aK b):Ok (λr=>G m (.slice (.int .i64)) r.1) (rj N c b):=by
 have hl:=hb.1.1
 unfold rj rj.b
 refine bA (dG N hN hm hb) (bt (λ_=>an G.nil) λ_=>bc (len:=b.1.length) (F:=λn i s=>rj.l5 N n b s i) (λi s=>G i (.slice (.int .i64)) s) G.nil ω (λn i s hi hI hr=> ?_) (λn s hI=> ?_))
 all_goals unfold rj.l5 rj.dV
 ·have hs:=hI.1
  rw[ax (x:=(i:Int)+1) ω ω,ag i]
  have h1:=hr s (G.mono ω hI)
  have hx:G 0 (.int .i64) (b.1.getD (i:Int).toNat cz).1:=(G.at hb.1 _).1
  exact aw (λ_=>aB ⟨ω,ω⟩ (ok_eq (λ_=>aB ⟨ω,ω⟩ (af (lY N ω hm hb.2.2.1 _ _) λ_ _=>aw (λ_=>aB ⟨ω,ω⟩ (aC (by rw[aI];omega) (hr _ (G.cat hI (G.one hx (aG 1)))))) λ_=>h1)) λ_=>h1)) λ_=>ω
 ·exact aw (λ_=>ω) λ_=>an (G.mono hl hI)
abbrev LL(m:Nat)(l:bw):Prop:=G m (.slice jc) l
theorem FY(N:Nat)(hN:200000≤N){l:bw}{m:Nat}(hm:m≤50000)(h:LL m l)(id:Int):Ok (λr=>G m jc r.1) (p6 N l id):=by
 have hl:=h.1
 unfold p6 p6.b
 refine lM (len:=l.length) (F:=λn i=>p6.l2 N n l id ((0:Int),(cm,aV)) i) ω (λn i hi hr=> ?_) (λn=> ?_)
 all_goals unfold p6.l2 p6.gD
 ·rw[ax (x:=(i:Int)+1) ω ω,ag i]
  exact aw (λ_=>aB ⟨ω,ω⟩ (ok_eq (λ_=>aB ⟨ω,ω⟩ (an (G.at h _))) λ_=>hr)) λ_=>ω
 ·exact aw (λ_=>ω) λ_=>an (G.zero m jc)
theorem T4(N:Nat)(hN:4000000≤N){a b:aD}{m:Nat}(h6:6≤m)(hm:m≤40000)(ha:L2 m a)(hb:L2 m b):Ok (λr=>L2 m r.1) (eM N a b):=by
 have hal:=ha.1
 have vR:=hb.1
 unfold eM eM.b
 refine bc (len:=6) (F:=λn i s=>eM.l3 N n a b s i) (λi s=>L2 i s) G.nil ω (λn i s hi hI hr=> ?_) (λn s hI=> ?_)
 all_goals unfold eM.l3 eM.nC
 ·have hs:=hI.1
  refine aw (λ_=> ?_) λ_=>ω
  refine bc (len:=a.length) (F:=λn' j t=>eM.l7 N (eM.l3 N n) n' a b s (i:Int) t j) (λj t=>Bg (3+j) t) (Ks ω) ω (λn' j t hj ht eJ=> ?_) (λn' t ht=> ?_)
  all_goals unfold eM.l7 eM.pj
  ·rw[ax (x:=(j:Int)+1) ω ω,ag j]
   exact aw (λ_=>aB ⟨ω,ω⟩ (ok_eq (λ_=>aB ⟨ω,ω⟩ (af (bp N hN (G.at ha _).2.1) λr hr=>af (kI N hN ω ht (Bg.mono hr ω)) λu hu=>eJ u (Bg.mono hu ω))) λ_=>eJ t (Bg.mono ht ω))) λ_=>ω
  ·refine aw (λ_=>ω) λ_=> ?_
   refine bc (len:=b.length) (F:=λIQ j t=>eM.pX N (eM.l3 N n) IQ a b s (i:Int) t j) (λj t=>Bg (3+a.length+j) t) ht ω (λIQ j t hj ht eJ=> ?_) (λIQ t ht=> ?_)
   all_goals unfold eM.pX eM.pt
   ·rw[ax (x:=(j:Int)+1) ω ω,ag j]
    exact aw (λ_=>aB ⟨ω,ω⟩ (ok_eq (λ_=>aB ⟨ω,ω⟩ (af (bp N hN (G.at hb _).2.1) λr hr=>af (kI N hN ω ht (Bg.mono hr ω)) λu hu=>eJ u (Bg.mono hu ω))) λ_=>eJ t (Bg.mono ht ω))) λ_=>ω
   ·rw[ax (x:=(i:Int)+1) ω ω,ag i]
    exact aw (λ_=>ω) λ_=>af (CF N ht) λv hv=>bt (λ_=>an G.nil) λ_=>bx (λ_=>aC (by rw[aI];omega) (hr _ (G.cat hI (G.one (m:=1) (G2 (iI ω ω) hv) (aG 1))))) λ_=>hr s (G.mono ω hI)
 ·exact aw (λ_=>ω) λ_=>an (G.mono h6 hI)
theorem Nx(N:Nat)(hN:5000000≤N){c:ae}{b:aq}{Qw:bw}{l:aM}{x:bX}{m:Nat}(h6:6≤m)(hm:m≤40000)(hc:G m aA c)(hb:G m aK b)(hL:LL m Qw)(hl:G m (.slice ej) l)(hx:G 0 ej x):Ok (λ_=>True) (kJ N c b Qw l x):=by
 have GJ:=hl.1
 have hLl:=hL.1
 have hal:=hb.2.1.1
 have HX:=hb.2.2.2.2.2.1.1
 have hw:Iw Qw:=λy hy=>ck (hL.2 y hy).2.1.1 ω
 unfold kJ kJ.b
 have hj:Ok (λ_=>True) (kJ.j3 N Qw l c b x):=by
  unfold kJ.j3 kJ.j3b
  refine af (qk N ω ω hb _) λ_ _=>ok_eq (λ_=>eW) λ_=>bx (λ_=>eW) λ_=>af (FY N ω ω hL _) λz hz=>bA (qi N ω ω _) (bt (λ_=>eW) λ_=>bx (λ_=>eW) λ_=>ok_eq (λ_=>eW) λ_=>lM (len:=l.length) (F:=λn i=>kJ.nG N n l c b x z.1 (m7 b.2.1 x.2.2.1) i) ω (λn i hi hr=> ?_) (λn=> ?_))
  all_goals unfold kJ.nG kJ.mE
  ·rw[ax (x:=(i:Int)+1) ω ω,ag i]
   exact aw (λ_=>aB ⟨ω,ω⟩ (ok_eq (λ_=>aB ⟨ω,ω⟩ (ok_eq (λ_=>eW) λ_=>hr)) λ_=>hr)) λ_=>ω
  ·refine aw (λ_=>ω) λ_=>ok_eq (λ_=>eW) λ_=>af (bp N ω hx.2.2.2.1) λp hp=>af (bp N ω (show aE 4 from bk)) λq hq=>af (bp N ω hz.2.2.1) λr hr=>af (ln N ω ω ω hq hr) λu hu=>af (pz N ω ω ω hp hu) λ_ _=>aw (λ_=>eW) λ_=>af (Np N ω ω hb.2.2.2.1 _) λa ha=>af (T4 N ω h6 ω ha hz.2.1) λj hj=>bt (λ_=>eW) λ_=> ?_
   unfold ahT
   exact af (Q:=λr=>L3 6 r) (bA (g5 N ω ω) (bt (λ_=>an G.nil) λ_=>af (FU N ω ω _) λr hr=>an hr)) λo ho=>af (No N ω ω hc hj (G.mono h6 ho)) λw hw=>af (tB N ω ω hb _) λg hg=>af (bp N ω hg) λv hv=>af (bp N ω hx.2.2.2.1) λp hp=>af (xz N ω ω hv hp) λd hd=>af (pz N ω ω ω hd hw) λ_ _=>aw (λ_=>eW) λ_=>eW
 refine bA (dG N hN ω hb) (bt (λ_=>eW) λ_=>bA (Ap N ω c ω hw) (bt (λ_=>eW) λ_=>bA (tu N ω ω) (bt (λ_=>eW) λ_=>bA (RM N _) (bt (λ_=>eW) λ_=>aw (λ_=> ?_) λ_=>hj))))
 dsimp only
 exact aB (by rw[ax ω ω];omega) (dU (λ_=>eW) λ_=>hj)
theorem IY(N:Nat)(hN:5000000≤N){c:ae}{b:aq}{Qw:bw}{l:aM}{x:bX}{m:Nat}(h6:6≤m)(hm:m≤40000)(hc:G m aA c)(hb:G m aK b)(hL:LL m Qw)(hl:G m (.slice ej) l)(hx:G 0 ej x):Ok (λr=>G (m+1) (.slice ej) r.1) (aaw N c b Qw l x):=by
 have GJ:=hl.1
 unfold aaw
 refine af (Nx N hN h6 hm hc hb hL hl hx) λ_ _=>bx (λ_=>an G.nil) λ_=>aC (by rw[bS];omega) ?_
 dsimp only
 rw[cI]
 exact aC (by rw[aI];omega) (an (G.cat hl (G.one hx (aG 1))))
end VM
end
