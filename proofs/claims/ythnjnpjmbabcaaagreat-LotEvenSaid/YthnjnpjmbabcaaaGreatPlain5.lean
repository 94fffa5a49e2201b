/- A part of the proof of LotEven of layer 23: what the functions compute, in plain words. -/
import Derived.Test.YthnjnpjmbabcaaaGreatPlain4
import Derived.Test.YthnjnpjmbabcaaaGreatPlain2
set_option linter.all false
section
namespace VM
open Go VM.F
variable(N:Nat)
theorem aaU(hN:4000000≤N){o:gu}{m:Nat}(ho:G m m9 o)(a:Int):Ok (λr=>Bg 4 r.1) (aaV N o a):=by
 unfold aaV
 have hw: ∀x:Int,Ok (λr:aH×Int=>Bg 4 r.1) ((kF N o.2.2.2.2.1).bind λr5=>(kF N (W .i64 x)).bind λr6=>(jZ N r5 r6).bind λr7=>some (r7,(0:Int))):=λx=>
  af (br N hN ho.2.2.2.2.1) λr h=>af (br N hN (gH _)) λr' h'=>af (lV N hN ω ω h h') λy hy=>an hy
 exact bH (A6 N o) (bx (λ_=>an (Lc ω)) λ_=>bH (iW N a) (bx (λ_=>an (Lc ω)) λ_=>ok_eq (λ_=>ax (λ_=>an (Lc ω)) λ_=>hw _) λ_=>ax (λ_=>an (Lc ω)) λ_=>hw _))
theorem ah7{m:Nat}{a:aO}(h:G m (.slice eD) a)(id:Int):G m eD (fX a id).1:=by
 unfold fX
 split
 ·have: ∀l:aO,(∀x∈l,G m eD x)→G m eD (ur id l).1:=by
   intro l
   induction l with
   |nil=>intro _;exact G.zero m eD
   |cons x t ih=>
    intro hx
    rw[ou]
    split
    ·exact hx x (bu ..)
    ·exact ih λy hy=>hx y (a6 _ hy)
  exact this a h.2
 ·exact G.zero m eD
theorem yh(hN:200000≤N){a:aO}{m:Nat}(hm:m≤50000)(h:G m (.slice eD) a)(id:Int):Ok (λr=>G m eD r.1) (Ee N a id):=nK (A8 N (ca h.1 ω) hN id) (ah7 h id)
theorem oC(hN:200000≤N){a:aB}{m:Nat}(hm:m≤50000)(h:G m (.slice hZ) a)(id:Int):Ok (λ_=>True) (Sn N a id):=nK (rQ N (ca h.1 ω) hN id) trivial
theorem mK(hN:200000≤N){l:aC}{m:Nat}(hm:m≤50000)(h:L3 m l)(a b:Int):Ok aG (ka N l a b):=nK (Xk N (ca h.1 ω) hN a b) (Xl (λx hx=>(h.2 x hx).2.2.1) a b)
theorem Hb(hN:200000≤N){a:aO}{m:Nat}(hm:m≤50000)(h:G m (.slice eD) a)(id:Int):Ok (λr=>G m eD r.1∧r=fX a id) (Ee N a id):=by
 obtain⟨r,e,hr⟩:=yh N hN hm h id
 exact⟨r,e,hr,q7 (e.symm.trans (A8 N (ca h.1 ω) hN id))⟩
theorem Bv(hN:5000000≤N){c:ae}{b:aq}{o:gu}{m:Nat}(h2:200≤m)(hm:m≤40000)(hc:G m aA c)(hb:G m aL b)(ho:G m m9 o):Ok (λe=>e=0→rP o∧(fX b.2.1 o.2.1).2=true∧n0 o.2.2.1 c.1.length) (XF N c b o):=by
 have bad: ∀e:Int,e≠0→Ok (λe:Int=>e=0→rP o∧(fX b.2.1 o.2.1).2=true∧n0 o.2.2.1 c.1.length) (some e):=λe h=>an λh'=>absurd h' h
 have Jg:=hb.2.2.2.2.2.1.1
 unfold XF
 refine bH (dD N hN ω hb) (bx (λ_=>bad _ δ) λhB=>bH (A6 N o) (bx (λ_=>bad _ δ) λMO=>af (Hb N ω ω hb.2.1 _) λx ⟨hx,P7⟩=>bx (λ_=>bad _ δ) λhf=>af (oC N ω ω hb.1 _) λ_ _=>bz (λ_=>bad _ δ) λ_=>et (λ_=>bad _ δ) λhi=>aE (by rw[bY];omega) ?_))
 have hr:=bl MO
 unfold rP zn at hr
 obtain⟨hp,_⟩:=iu hB
 dsimp only
 rw[cM]
 exact aE (by rw[aJ];omega) (af (Oo N ω ω hb.2.2.2.1 _) λr h=>af (G9 N ω (by rw[aX,aJ];omega) _) λq h'=>af (XD N ω c ω h (G.mono ω h') _) λt ht=>af (br N ω hx.2.2.2.1) λv hv=>af (p4 N ω ω ω ht hv) λ_ _=>ax (λ_=>bad _ δ) λ_=>az ⟨hr.2.2.1.1,by rw[hp];exact hi⟩ (af (aaU N ω ho _) λe he=>af (mK N ω ω hb.2.2.1 _ _) λg hg=>af (br N ω hg) λy hy=>af (yg N ω ω (Bg.mono hy ω) he) λz hz=>af (Ha N ω h2 hm hc hb (by rw[aJ];omega) _) λu hu=>af (p4 N ω ω ω hz hu) λ_ _=>ax (λ_=>bad _ δ) λ_=>an λ_=>⟨bl MO,by rw[←P7];exact hf,hi⟩))
theorem SK(hN:5000000≤N){c:ae}{b:aq}{h:cv}{a q p:Int}{m:Nat}(h2:200≤m)(hm:m≤40000)(hc:G m aA c)(hb:G m aL b)(hh:G m eD h)(ha:aG a)(hq:aG q)(hp:aG p):Ok (λr=>G m aL r.1∧G m eD r.2.1) (p5 N c b h a q p):=by
 have ho:G m m9 (h.1,(a,(h.2.1,(W .i64 (3-h.2.2.1),(q,(p,())))))):=⟨hh.1,ha,hh.2.1,gH _,hq,hp,trivial⟩
 have dE: ∀e:Int,Ok (λr:aq×cv×Int=>G m aL r.1∧G m eD r.2.1) (some ((bM,(dh,(cf,(cf,(dW,(eu,())))))),(aQ,e))):=λe=>an ⟨G.jc,G.zero m eD⟩
 unfold p5 p5.b
 have hj: ∀t:tB,Ok (λr=>G m aL r.1∧G m eD r.2.1) (p5.j14 N q c b h (bM,(dh,(cf,(cf,(dW,(eu,())))))) aQ t):=λt=>by
  unfold p5.j14 p5.aaW
  exact af (JS N hN c h2 ω hb) λr hr=>bz (λ_=>dE _) λ_=>an ⟨hr,hh.1,hh.2.1,hh.2.2.1,gH _,trivial⟩
 exact bH (dD N hN ω hb) (bx (λ_=>dE _) λ_=>bH (xA N h) (bx (λ_=>dE _) λ_=>ax (λ_=>dE _) λ_=>ax (λ_=>dE _) λ_=>ax (λ_=>dE _) λ_=>ax (λ_=>dE _) λ_=>ax (λ_=>dE _) λ_=>ax (λ_=>dE _) λ_=>ax (λ_=>dE _) λ_=>af (Bv N hN h2 hm hc hb ho) λe _=>bz (λ_=>dE _) λ_=>ok_eq (λ_=>hj _) λ_=>hj _))
def Dk(k:Nat)(d:bb):Prop:=(∀x∈(d.1:List Int),0≤x∧x<18446744073709551616)∧0≤(d.2.1:Int)∧(d.2.1:Int)≤k
theorem Dk.mono{j k:Nat}{d:bb}(h:Dk j d)(hk:j≤k):Dk k d:=⟨h.1,h.2.1,fU h.2.2 ω⟩
def tC:Nat:=1000000000
theorem Ld{k:Nat}{d:bb}(hk:k≤tC)(h:Dk k d):Ok (λr=>(0≤r.1∧r.1<18446744073709551616)∧Dk (k+1) r.2) (F66 N d):=by
 obtain⟨h1,h2,h3⟩:=h
 unfold tC at hk
 unfold F66
 have hw: ∀i:Int,0≤i→i≤(k:Int)→0≤W .i64 (i+1)∧W .i64 (i+1)≤((k+1:Nat):Int):=λi h0 h1=>by rw[ay ω ω];omega
 have hd:Dk (k+1) (d.1,(W .i64 (d.2.1+1),d.2.2)):=⟨h1,hw _ h2 h3⟩
 have hg: ∀(l:List Int) (i:Int),(∀x∈l,0≤x∧x<18446744073709551616)→0≤l.getD i.toNat 0∧l.getD i.toNat 0<18446744073709551616:=λl i hl=>by
  by_cases hi:i.toNat<l.length
  ·rw[aZ,bo hi];exact hl _ (fg hi)
  ·rw[aZ,gV ω];decide
 exact ax (λdU=>az ⟨h2,dU⟩ (an ⟨hg _ _ h1,hd⟩)) λ_=>an ⟨(show(0:Int)≤0∧(0:Int)<18446744073709551616 by decide),hd⟩
theorem rem_in{x y:Int}(h0:0≤x)(hy:0<y):0≤rem x y∧rem x y<y:=by
 unfold rem;rw[iO]
 exact⟨Int.tmod_nonneg _ h0,Fm _ hy⟩
theorem lf(N:Nat){k:Nat}{d:bb}{n:Int}(hn:0<n∧n<1000000)(h:Dk k d)(hk:k≤tC:=by first|decide|(unfold tC;omega)):Ok (λr=>(0≤r.1∧r.1<n)∧Dk (k+1) r.2) (tD N d n):=by
 unfold tD
 refine af (Ld N hk h) λr hr=> ?_
 dsimp only
 rw[cz (x:=n) ω ω]
 have:=rem_in hr.1.1 hn.1
 refine ok_eq (λ_=>ω) λ_=>an ⟨?_,hr.2⟩
 dsimp only
 rw[ay ω ω]
 exact this
theorem zt(N:Nat){k:Nat}{d:bb}{n:Int}(hn:0<n∧n<1000000)(h:Dk k d)(hk:k≤tC:=by first|decide|(unfold tC;omega)):Ok (λr=>Dk (k+1) r.2) (Zf N d n):=by
 unfold Zf
 exact af (lf N hn h hk) λr hr=>an hr.2
theorem EZ(N:Nat){k:Nat}{d:bb}(h:Dk k d)(hk:k≤tC:=by first|decide|(unfold tC;omega)):Ok (λr=>aG r.1∧Dk (k+1) r.2) (L0 N d):=by
 unfold L0
 refine af (Ld N hk h) λr hr=>ok_eq (λ_=>ω) λ_=> ?_
 dsimp only
 repeat' first|exact an ⟨gH _,hr.2⟩|refine ax (λ_=> ?_) (λ_=> ?_)|refine ok_eq (λ_=> ?_) (λ_=> ?_)|(exfalso;omega)
theorem XG{x y:Int}(hy:0<y)(hy1:y<9223372036854775808):aG (rem x y):=by
 unfold rem;rw[iO]
 have h1:=Fm x hy
 have h2: -y<x.tmod y:=by
  have:=Fm (-x) hy
  rw[Int.neg_tmod]at this;omega
 unfold aG;omega
theorem Cr{x y:Int}(hx:aG x)(hy:aG y):aG (mx x y):=by unfold mx;rw[iO];split<;>assumption
theorem aaX{x y:Int}(hx:aG x)(hy:aG y):aG (mn x y):=by unfold mn;rw[iO];split<;>assumption
theorem Q2{x n:Int}(h:0≤x∧x<n)(hn:n≤1000000):aG x:=jJ ω ω
abbrev Vw(m:Nat)(l:jK):Prop:=G m (.slice pE) l
theorem El{k a b c d e f g:Int}{m:Nat}(h0:aG k)(h1:aG a)(h2:aG b)(h3:aG c)(h4:aG d)(h5:aG e)(h6:aG f)(h7:aG g):G m pE (k,(a,(b,(c,(d,(e,(f,(g,())))))))):=⟨h0,h1,h2,h3,h4,h5,h6,h7,trivial⟩
theorem bB{x:Int}(h: -1000000≤x∧x≤1000000:=by decide):aG x:=jJ h.1 h.2
theorem Le{k:Nat}{d:bb}(h:Dk k d)(c:ae){i:Int}(hi:0≤i∧i<(c.1.length:Int))(hc:c.1.length≤5)(hk:k≤100000000):Ok (λr=>G 0 pE r.1∧Dk (k+5) r.2) (F69 N d c i):=by
 unfold F69
 have hb:aG 1000000000000:=by unfold aG;decide
 have mz:aG i:=jJ ω ω
 exact az hi (af (lf N δ h) λa ⟨_,hd⟩=>af (zt N δ hd) λr hd=>sb (λ_=>af (EZ N hd) λr ⟨_,hd⟩=>ok_eq (λ_=>ω) λ_=>an ⟨El bB bB bB mz bB bB bB (gH _),Dk.mono hd ω⟩) λ_=>an ⟨El bB bB bB mz bB bB bB (Cr bB (aaX hb (gH _))),Dk.mono hd ω⟩)
theorem Oq{k:Nat}{d:bb}(h:Dk k d)(c:ae)(P5:1≤c.1.length)(hc:c.1.length≤5)(hk:k≤100000000):Ok (λr=>G 0 pE r.1∧Dk (k+10) r.2) (F70 N d c):=by
 unfold F70
 have hb:aG 1000000000000:=by unfold aG;decide
 refine af (lf N ⟨ω,ω⟩ h) λa ⟨ha,hd⟩=>af (lf N δ hd) λb ⟨dj,hd⟩=> ?_
 dsimp only
 refine af (lf N δ hd) λe ⟨he,hd⟩=>af (lf N δ hd) λf ⟨hf,hd⟩=>az ha (af (lf N δ hd) λg ⟨_,hd⟩=>af (zt N δ hd) λr hd=>sb (λ_=>af (EZ N hd) λr ⟨_,hd⟩=>ok_eq (λ_=>ω) λ_=>af (EZ N hd) λr' ⟨_,hd⟩=>ok_eq (λ_=>ω) λ_=>an ⟨El bB bB (gH _) (Q2 ha ω) (gH _) bB (gH _) (gH _),Dk.mono hd ω⟩) λ_=>an ⟨El bB bB (gH _) (Q2 ha ω) (gH _) bB (gH _) (Cr bB (aaX hb (gH _))),Dk.mono hd ω⟩)
structure Cf(c:ae):Prop where
 g:G 5 aA c
 n:1≤c.1.length
theorem Ot{k:Nat}{d:bb}(h:Dk k d){c:ae}(hc:Cf c)(hk:k≤10000000):Ok (λr=>G 0 pE r.1∧Dk (k+20) r.2) (F68 N d c):=by
 have hn:=hc.n
 have hl:=hc.g.1.1
 unfold F68
 refine af (lf N δ h) λa ⟨ha,hd⟩=> ?_
 dsimp only
 refine af (lf N δ hd) λb ⟨hb,hd⟩=>af (lf N ⟨ω,ω⟩ hd) λi ⟨hi,hd⟩=>af (lf N δ hd) λe ⟨he,hd⟩=> ?_
 have hz: ∀(e:ia) (j:Nat) (d:bb),G 0 pE e→Dk j d→j≤k+20→Ok (λr=>G 0 pE r.1∧Dk (k+20) r.2) (some (e,d)):=λe j d he hd hj=>an ⟨he,Dk.mono hd hj⟩
 have hs: ∀{f:Int×bb→Option (ia×bb)},(∀x d,aG x→Dk (k+5) d→Ok (λr=>G 0 pE r.1∧Dk (k+20) r.2) (f (x,d)))→Ok (λr=>G 0 pE r.1∧Dk (k+20) r.2) ((L0 N e.2).bind f):=λhf=>af (EZ N hd) λr ⟨h1,h2⟩=>hf r.1 r.2 h1 (Dk.mono h2 ω)
 have hm: ∀{n:Int} {f:Int×bb→Option (ia×bb)},0<n∧n<1000000→(∀x d,Dk (k+5) d→Ok (λr=>G 0 pE r.1∧Dk (k+20) r.2) (f (x,d)))→Ok (λr=>G 0 pE r.1∧Dk (k+20) r.2) ((tD N e.2 n).bind f):=λhn hf=>af (lf N hn hd) λr ⟨h1,h2⟩=>hf r.1 r.2 (Dk.mono h2 ω)
 repeat' first
  |refine ok_eq (λ_=> ?_) (λ_=> ?_)
  |(exfalso;omega)
  |(refine hs λx d' hx ZZ=> ?_;dsimp only)
  |(refine hm δ λx d' ZZ=> ?_;dsimp only)
  |(refine hz _ _ _ ?_ hd ω;refine⟨?_,?_,?_,?_,?_,?_,?_,?_,trivial⟩<;>first|exact gH _|exact bt|exact Cr hx bB|exact XG δ δ|exact(G.at hc.g.1 _).2.1)
  |(refine hz _ _ _ ?_ ZZ ω;refine⟨?_,?_,?_,?_,?_,?_,?_,?_,trivial⟩<;>first|exact gH _|exact bt|exact Cr hx bB|exact XG δ δ|exact(G.at hc.g.1 _).2.1)
  |(refine hz _ _ _ ?_ h2 ω;refine⟨?_,?_,?_,?_,?_,?_,?_,?_,trivial⟩<;>first|exact gH _|exact bt|exact Cr hx bB|exact XG δ δ|exact(G.at hc.g.1 _).2.1)
  |exact af (Le N hd c hi hl ω) λr ⟨h1,h2⟩=>hz _ _ _ h1 h2 ω
  |exact af (Oq N hd c hn hl ω) λr ⟨h1,h2⟩=>hz _ _ _ h1 h2 ω
  |refine az hi ?_
  |(refine af (lf N δ ZZ) λr ⟨h1,h2⟩=> ?_)
theorem G.cat{m n:Nat}{e:Ty}{l k:List e.den}(h:G m (.slice e) l)(h':G n (.slice e) k):G (m+n) (.slice e) (l++k):=
 ⟨by have:=h.1;have:=h'.1;rw[aX];omega,λy hy=>by
  rcases bf.1 hy with hy|hy
  ·exact G.mono ω (h.2 y hy)
  ·exact G.mono ω (h'.2 y hy)⟩
theorem G.two{m:Nat}{e:Ty}{a b:e.den}(ha:G 0 e a)(hb:G 0 e b)(hm:2≤m):G m (.slice e) [a,b]:=
 ⟨hm,λy hy=>by
  rcases bm.1 hy with rfl|hy
  ·exact G.mono ω ha
  ·rw[cg.1 hy];exact G.mono ω hb⟩
theorem G.one{m:Nat}{e:Ty}{a:e.den}(ha:G 0 e a)(hm:1≤m):G m (.slice e) [a]:=
 ⟨hm,λy hy=>by rw[cg.1 hy];exact G.mono ω ha⟩
theorem td{α:Type}(a b:α):[a,b].length=2:=rfl
theorem Q3(hN:100≤N){k:Nat}{d:bb}(h:Dk k d)(c:ae)(hk:k≤10000000):Ok (λr=>Vw 40 r.1∧Dk (k+50) r.2) (pF N d c):=by
 have s64: ∀i:Nat,i<100→aG (i:Int):=λi hi=>jJ ω ω
 unfold pF pF.b
 refine la (len:=5) (F:=λn i (s:bb×jK)=>pF.l3 N n s.1 s.2 i) (λi s=>Dk (k+2*i) s.1∧Vw (3*i) s.2) (λn i s hi hI hr=> ?_) (λn s hI=> ?_) 5 N 1 (d,[]) ω ω ω ⟨Dk.mono h ω,G.nil⟩
 all_goals unfold pF.l3 pF.lD
 ·have hl:=hI.2.1
  have mz:=s64 i ω
  dsimp only
  rw[ay (x:=(i:Int)+1) ω ω,ag i]
  have h2:Vw (3*i+2) (s.2++[((1:Int),((i:Int),fu)),((2:Int),((i:Int),((i:Int),((0:Int),((1:Int),bW)))))]):=G.cat hI.2 (G.two (El bB mz bt bt bt bt bt bt) (El bB mz mz bt bB bt bt bt) ω)
  have hl2:=h2.1
  exact et (λ_=>aE (by rw[td];omega) (af (zt N δ hI.1 (by unfold tC;omega)) λr hd=>bx (λ_=>af (lf N δ hd (by unfold tC;omega)) λr ⟨_,hd⟩=>aE (by rw[aJ];omega) (hr (_,_) ⟨Dk.mono hd ω,G.mono ω (G.cat h2 (G.one (m:=1) (El bB mz bt bt bt bt (gH _) bt) ω))⟩)) λ_=>hr (_,_) ⟨Dk.mono hd ω,G.mono ω h2⟩)) λ_=>ω
 ·refine et (λ_=>ω) λ_=> ?_
  refine la (len:=8) (F:=λn i (s:bb×jK)=>pF.l9 N n s.1 s.2 i) (λi s=>Dk (k+10+i) s.1∧Vw (15+i) s.2) (λn i s hi hI hr=> ?_) (λn s hI=> ?_) 8 N 5 s ω ω ω ⟨Dk.mono hI.1 ω,G.mono ω hI.2⟩
  all_goals unfold pF.l9 pF.zA
  ·have hl:=hI.2.1
   dsimp only
   rw[ay (x:=(i:Int)+1) ω ω,ag i]
   exact et (λ_=>af (lf N δ hI.1 (by unfold tC;omega)) λr ⟨_,hd⟩=>aE (by rw[aJ];omega) (hr (_,_) ⟨Dk.mono hd ω,G.mono ω (G.cat hI.2 (G.one (m:=1) (El bB (gH _) (s64 i ω) bt bB bt bt bt) ω))⟩)) λ_=>ω
  ·refine et (λ_=>ω) λ_=> ?_
   refine la (len:=8) (F:=λn i (s:bb×jK)=>pF.oU N n s.1 s.2 i) (λi s=>Dk (k+18+2*i) s.1∧Vw (23+2*i) s.2) (λn i s hi hI hr=> ?_) (λn s hI=> ?_) 8 N 1 s ω ω ω ⟨Dk.mono hI.1 ω,G.mono ω hI.2⟩
   all_goals unfold pF.oU pF.m5
   ·have hl:=hI.2.1
    have mz:=s64 i ω
    dsimp only
    rw[ay (x:=(i:Int)+1) ω ω,ag i]
    exact et (λ_=>af (lf N δ hI.1 (by unfold tC;omega)) λr ⟨_,hd⟩=>af (lf N δ hd (by unfold tC;omega)) λr ⟨_,hd⟩=>aE (by rw[td];omega) (hr (_,_) ⟨Dk.mono hd ω,G.mono ω (G.cat hI.2 (G.two (m:=2) (El bB bt mz bt bt bt (gH _) bt) (El bB bt mz bt bt bt (gH _) bt) ω))⟩)) λ_=>ω
   ·exact et (λ_=>ω) λ_=>an ⟨G.mono ω hI.2,Dk.mono hI.1 ω⟩
theorem XH{x:Nat}(h:x<1000000):W .i64 (((x+1:Nat):Int)-1)=(x:Int):=by rw[ay ω ω];omega
theorem Uz(hN:1000≤N){k:Nat}{d:bb}(h:Dk k d){c:ae}(hc:Cf c){n6:Int}(hm:0≤n6∧n6≤100)(hk:k≤10000):Ok (λr=>Vw 200 r.1∧Dk (k+3000) r.2) (E0 N d c n6):=by
 have hn:=hc.n
 have hl:=hc.g.1.1
 unfold E0 E0.b
 rw[ay (x:=n6+1) ω ω]
 refine af (Q3 N ω h c ω) λr ⟨xe,hd⟩=>af (lf N ⟨ω,ω⟩ hd (by unfold tC;omega)) λz ⟨hz,hd⟩=> ?_
 obtain⟨j,hj⟩: ∃j:Nat,z.1=(j:Int):=⟨z.1.toNat,ω⟩
 rw[hj]
 refine EX (F:=λn x (s:bb×jK)=>E0.l3 N n s.1 c s.2 x) (λx s=>x≤100∧Dk (k+100+25*(100-x)) s.1∧Vw (40+(100-x)) s.2) (λn x s hI hr=> ?_) (λn s hI=> ?_) j N (z.2,r.1) ω ⟨ω,Dk.mono hd ω,G.mono ω xe⟩
 all_goals unfold E0.l3 E0.lD
 ·obtain⟨hx,hd,hG⟩:=hI
  have hs:=hG.1
  rw[XH ω]
  have put: ∀(e:ia) (d:bb) (q:Nat),G 0 pE e→Dk q d→q≤k+100+25*(100-(x+1))+25→Ok (λr=>Vw 200 r.1∧Dk (k+3000) r.2) (cond (small (s.2.length+[e].length)) (E0.l3 N n d c (s.2++[e]) (x:Int)) none):=λe d q he hd hq=>aE (by rw[aJ];omega) (hr (_,_) ⟨ω,Dk.mono hd ω,G.mono ω (G.cat hG (G.one (m:=1) he ω))⟩)
  exact ax (λ_=>af (lf N δ hd (by unfold tC;omega)) λa ⟨_,hd⟩=>ok_eq (λ_=>af (Ot N hd hc ω) λr ⟨h1,h2⟩=>put _ _ _ h1 h2 ω) λ_=>ok_eq (λ_=>af (lf N ⟨ω,ω⟩ hd (by unfold tC;omega)) λb ⟨hb,hd⟩=>af (Le N hd c hb hl ω) λr ⟨h1,h2⟩=>put _ _ _ h1 h2 ω) λ_=>af (Oq N hd c hn hl ω) λr ⟨h1,h2⟩=>put _ _ _ h1 h2 ω) λ_=>ω
 ·exact ax (λ_=>ω) λ_=>an ⟨G.mono ω hI.2.2,Dk.mono hI.2.1 ω⟩
theorem Ou(hN:1000≤N){k:Nat}{d:bb}(h:Dk k d){c:ae}(hc:Cf c)(hk:k≤100000):Ok (λr=>Vw 3 r.1∧Dk (k+100) r.2) (Em N d c):=by
 have hn:=hc.n
 have hl:=hc.g.1.1
 unfold Em Em.b
 refine af (lf N δ h (by unfold tC;omega)) λz ⟨hz,hd⟩=> ?_
 obtain⟨j,hj⟩: ∃j:Nat,z.1=(j:Int):=⟨z.1.toNat,ω⟩
 rw[hj]
 refine EX (F:=λn x (s:bb×jK)=>Em.l3 N n s.1 c s.2 x) (λx s=>x≤3∧Dk (k+1+25*(3-x)) s.1∧Vw (3-x) s.2) (λn x s hI hr=> ?_) (λn s hI=> ?_) j N (z.2,[]) ω ⟨ω,Dk.mono hd ω,G.nil⟩
 all_goals unfold Em.l3 Em.lD
 ·obtain⟨hx,hd,hG⟩:=hI
  have hs:=hG.1
  rw[XH ω]
  have put: ∀(e:ia) (d:bb) (q:Nat),G 0 pE e→Dk q d→q≤k+1+25*(3-(x+1))+25→Ok (λr=>Vw 3 r.1∧Dk (k+100) r.2) (cond (small (s.2.length+[e].length)) (Em.l3 N n d c (s.2++[e]) (x:Int)) none):=λe d q he hd hq=>aE (by rw[aJ];omega) (hr (_,_) ⟨ω,Dk.mono hd ω,G.mono ω (G.cat hG (G.one (m:=1) he ω))⟩)
  exact ax (λ_=>af (zt N δ hd (by unfold tC;omega)) λa hd=>sb (λ_=>af (lf N ⟨ω,ω⟩ hd (by unfold tC;omega)) λb ⟨hb,hd⟩=>af (Le N hd c hb hl ω) λr ⟨h1,h2⟩=>put _ _ _ h1 h2 ω) λ_=>af (Ot N hd hc ω) λr ⟨h1,h2⟩=>put _ _ _ h1 h2 ω) λ_=>ω
 ·exact ax (λ_=>ω) λ_=>an ⟨G.mono ω hI.2.2,Dk.mono hI.2.1 ω⟩
theorem fa{α:Type}{r:α}:Ok (λ_=>True) (some r):=an trivial
theorem UA(k:Int):Ok (λs=>ByteArray.size s≤100) (aaY N k):=by
 unfold aaY
 repeat' first|refine ok_eq (λ_=> ?_) (λ_=> ?_)|exact an δ
theorem UB(k f:Int):Ok (λ_=>True) (aaZ N k f):=by
 unfold aaZ ah8 ah9
 repeat' first|refine ok_eq (λ_=> ?_) (λ_=> ?_)|exact fa|refine af (Q:=λ_=>True) ?_ λ_ _=>fa
theorem XI(e:ia)(f:Int):Ok (λ_=>True) (aa0 N e f):=by
 unfold aa0
 repeat' first|refine ok_eq (λ_=> ?_) (λ_=> ?_)|exact fa
theorem XJ(e:ia)(f x:Int):Ok (λ_=>True) (aa1 N e f x):=by
 unfold aa1
 repeat' first|refine ok_eq (λ_=> ?_) (λ_=> ?_)|exact fa
theorem JV(hN:1000≤N)(e:ia):Ok (λ_=>True) (se N e):=by
 unfold se se.b aia
 refine af (Q:=λ_=>True) (et (λ_=>fa) λ_=>fa) λ_ _=>bx (λ_=>fa) λ_=>af (UA N _) λs hs=> ?_
 refine bg (len:=ByteArray.size s) (F:=λn i (x:ia)=>se.l6 N n e s x i) (λ_ _=>True) trivial ω (λn i x hi _ hr=> ?_) (λn x _=> ?_)
 all_goals unfold se.l6 se.vX
 ·rw[ay (x:=(i:Int)+1) ω ω,ag i]
  exact ax (λ_=>az ⟨ω,ω⟩ (af (UB N _ _) λ_ _=>az ⟨ω,ω⟩ (af (XI N _ _) λ_ _=>ax (λ_=>fa) λ_=>ax (λ_=>fa) λ_=>az ⟨ω,ω⟩ (af (XJ N _ _ _) λy _=>hr y trivial)))) λ_=>ω
 ·exact ax (λ_=>ω) λ_=>fa
theorem G.ins{m:Nat}{e:Ty}{l:List e.den}{x:e.den}(h:G m (.slice e) l)(hx:G m e x)(a b c:Nat)(ha:c≤a):G (m+1) (.slice e) ((([]++List.drop b (List.take c l))++[x])++List.drop a (List.take l.length l)):=by
 have:=h.1
 refine⟨?_,λy hy=> ?_⟩
 ·simp only[cM,aX,dy,bE,aJ];omega
 ·rw[cM,bU]at hy
  rcases bf.1 hy with hy|hy
  ·exact G.mono ω (h.2 y (iH (lZ hy)))
  ·rcases bf.1 hy with hy|hy
   ·rw[cg.1 hy];exact G.mono ω hx
   ·exact G.mono ω (h.2 y (iH (lZ hy)))
theorem Lf{α:Type}{P:List α×Int→Prop}{l:List α}{x:α}{k:Nat}{e:Int}(hk:k≤l.length)(hl:l.length≤1000000)(h:P ((([]++List.drop (0:Int).toNat (List.take (k:Int).toNat l))++[x])++List.drop (k:Int).toNat (List.take (l.length:Int).toNat l),e)):
  Ok P (cond (jA 0 (k:Int) (l.length:Int) (l.length:Int)) (let v6:List α:=List.drop (0:Int).toNat (List.take (k:Int).toNat l);cond (small (([]:List α).length+v6.length)) (let v7:List α:=[]++v6;cond (small (v7.length+[x].length)) (let v8:List α:=v7++[x];cond (jA (k:Int) (l.length:Int) (l.length:Int) (l.length:Int)) (let v9:List α:=List.drop (k:Int).toNat (List.take (l.length:Int).toNat l);cond (small (v8.length+v9.length)) (some ((v8++v9),e)) none) none) none) none) none):=by
 dsimp only
 have t: ∀a b:Nat,(List.drop a (List.take b l)).length≤l.length:=λa b=>by rw[dy,bE];omega
 have t1:=t (0:Int).toNat (k:Int).toNat
 have t2:=t (k:Int).toNat (l.length:Int).toNat
 refine Cn ⟨ω,ω,ω,ω⟩ (aE (by rw[bY];omega) (aE ?_ (Cn ⟨ω,ω,ω,ω⟩ (aE ?_ (an h)))))
 ·rw[cM,aJ];omega
 ·rw[cM,aX,aJ];omega
theorem XK(hN:200000≤N){a:aB}{m:Nat}(hm:m≤50000)(h:G m (.slice hZ) a){id:Int}(hid:aG id):Ok (λr=>G (m+1) (.slice hZ) r.1) (iw N a id):=by
 have hl:=h.1
 unfold iw iw.b
 refine bH (mP N ω hN) (bx (λ_=>an G.nil) λ_=>ax (λ_=>an G.nil) λ_=>ax (λ_=>an G.nil) λ_=>bH (ir N ω hN id) (bz (λ_=>an G.nil) λ_=> ?_))
 have fin: ∀k:Nat,k≤a.length→Ok (λr=>G (m+1) (.slice hZ) r.1) (iw.j9 N a id [] (k:Int)):=λk hk=>by
  unfold iw.j9 iw.NL
  have hx:G m hZ (id,((1:Int),())):=⟨hid,(show aG 1 from bB),trivial⟩
  exact Lf hk ω (by simpa using G.ins h hx k 0 k (aI _))
 refine jW (len:=a.length) (F:=λn i=>iw.l7 N n a id [] i) ω (λn i hi hr=> ?_) (λn=> ?_)
 all_goals unfold iw.l7 iw.rL
 ·rw[ay (x:=(i:Int)+1) ω ω,ag i]
  exact ax (λ_=>az ⟨ω,ω⟩ (ax (λ_=>hr) λ_=>fin i ω)) λ_=>ω
 ·exact ax (λ_=>ω) λ_=>fin _ (aI _)
theorem G4q{m:Nat}{x:cv}{q:Int}(h:G m eD x)(hq:aG q):G m eD (x.1,(x.2.1,(x.2.2.1,(q,x.2.2.2.2)))):=⟨h.1,h.2.1,h.2.2.1,hq,trivial⟩
theorem G4b{m:Nat}{x:cv}{q:Int}(h:G m eD x)(hq:aG q):G m eD (x.1,(q,x.2.2)):=⟨h.1,hq,h.2.2⟩
theorem G2b{m:Nat}{x:lT}{q:Int}(h:G m hZ x)(hq:aG q):G m hZ (x.1,(q,x.2.2)):=⟨h.1,hq,trivial⟩
theorem Lg(hN:200000≤N){l:aO}(hl:l.length≤100000):Ok (λ_=>True) (eC N l):=nK (uu N hl hN) trivial
theorem aa2(hN:200000≤N){a:aB}{l:aO}{x:cv}{m:Nat}(hm:m≤50000)(ha:G m (.slice hZ) a)(h:G m (.slice eD) l)(hx:G 0 eD x):Ok (λr=>G (m+1) (.slice eD) r.1) (fc N a l x):=by
 have h1:=ha.1
 have hl:=h.1
 have fin: ∀k:Nat,k≤l.length→Ok (λr=>G (m+1) (.slice eD) r.1) (fc.Cp N l x [] (k:Int)):=λk hk=>by
  unfold fc.Cp fc.wo
  exact Lf hk ω (by simpa using G.ins h (G.mono (bA m) hx) k 0 k (aI _))
 have hj:Ok (λr=>G (m+1) (.slice eD) r.1) (fc.JW N l x):=by
  unfold fc.JW fc.Cs
  refine jW (len:=l.length) (F:=λn i=>fc.oU N n l x [] i) ω (λn i hi hr=> ?_) (λn=> ?_)
  all_goals unfold fc.oU fc.m5
  ·rw[ay (x:=(i:Int)+1) ω ω,ag i]
   exact ax (λ_=>az ⟨ω,ω⟩ (ax (λ_=>hr) λ_=>fin i ω)) λ_=>ω
  ·exact ax (λ_=>ω) λ_=>fin _ (aI _)
 unfold fc fc.b
 exact bH (xp N ω ω hN) (bx (λ_=>an G.nil) λ_=>af (Lg N hN (by rw[aJ];omega)) λ_ _=>bx (λ_=>an G.nil) λ_=>bH (ir N ω hN _) (ok_eq (λ_=>an G.nil) λ_=>bz (λ_=>an G.nil) λ_=>bH (rR N ω hN _) (sb (λ_=>an G.nil) λ_=>ok_eq (λ_=>bH (qS N ω hN _) (bz (λ_=>an G.nil) λ_=>hj)) λ_=>hj)))
theorem XL(hN:200000≤N){l:aO}{m:Nat}(hm:m≤50000)(h:G m (.slice eD) l){id q:Int}(hq:aG q):Ok (λr=>G m (.slice eD) r.1) (nL N l id q):=by
 have hl:=h.1
 unfold nL nL.b
 refine af (Lg N hN ω) λ_ _=>bx (λ_=>an G.nil) λ_=>ax (λ_=>an G.nil) λ_=>ax (λ_=>an G.nil) λ_=>bH (rR N ω hN _) (bx (λ_=>an G.nil) λ_=>aE (by rw[bY];omega) ?_)
 rw[cM]
 refine bg (len:=l.length) (F:=λn i s=>nL.l8 N n id q s i) (λ_ s=>s.length=l.length∧G m (.slice eD) s) ⟨rfl,h⟩ ω (λn i s hi hI hr=> ?_) (λn s hI=> ?_)
 all_goals unfold nL.l8 nL.zo
 ·rw[ay (x:=(i:Int)+1) ω ω,ag i]
  have hs:=hI.1
  have hx:=G.at hI.2 (i:Int).toNat
  exact ax (λ_=>az ⟨ω,ω⟩ (ok_eq (λ_=>az ⟨ω,ω⟩ (hr _ ⟨by rw[bs];exact hs,G.set hI.2 (G4q hx hq) _⟩)) λ_=>hr s hI)) λ_=>ω
 ·have hs:=hI.1
  exact ax (λ_=>ω) λ_=>an hI.2
theorem XM(a b:Int):Ok (λr=>aG r.1) (UC N a b):=by
 have h: ∀(x:Int) (t:Bool),0≤x∧x<5→Ok (λr:Int×Bool=>aG r.1) (some (x,t)):=λx t hx=>an (Q2 hx δ)
 unfold UC
 repeat' first|refine ok_eq (λ_=> ?_) (λ_=> ?_)|exact h _ _ δ
theorem Lh(hN:200000≤N){l:aB}{m:Nat}(hm:m≤50000)(h:G m (.slice hZ) l)(id k:Int):Ok (λr=>G m (.slice hZ) r.1) (lW N l id k):=by
 have hl:=h.1
 unfold lW lW.b
 refine bH (mP N ω hN) (bx (λ_=>an G.nil) λ_=>bH (ir N ω hN _) (ok_eq (λ_=>an G.nil) λ_=>af (XM N _ _) λz hz=>bx (λ_=>an G.nil) λ_=>aE (by rw[bY];omega) ?_))
 rw[cM]
 refine bg (len:=l.length) (F:=λn i s=>lW.Co N n id z.1 s i) (λ_ s=>s.length=l.length∧G m (.slice hZ) s) ⟨rfl,h⟩ ω (λn i s hi hI hr=> ?_) (λn s hI=> ?_)
 all_goals unfold lW.Co lW.zr
 ·rw[ay (x:=(i:Int)+1) ω ω,ag i]
  have hs:=hI.1
  have hx:=G.at hI.2 (i:Int).toNat
  exact ax (λ_=>az ⟨ω,ω⟩ (ok_eq (λ_=>az ⟨ω,ω⟩ (hr _ ⟨by rw[bs];exact hs,G.set hI.2 (G2b hx hz) _⟩)) λ_=>hr s hI)) λ_=>ω
 ·have hs:=hI.1
  exact ax (λ_=>ω) λ_=>an hI.2
theorem Q4(hN:200000≤N){a:aB}{l:aO}{m:Nat}(hm:m≤50000)(ha:G m (.slice hZ) a)(h:G m (.slice eD) l){id to:Int}(hto:aG to):Ok (λr=>G m (.slice eD) r.1) (nM N a l id to):=by
 have h1:=ha.1
 have hl:=h.1
 unfold nM nM.b
 refine bH (xp N ω ω hN) (bx (λ_=>an G.nil) λ_=>bH (rR N ω hN _) (bH (ir N ω hN _) (bx (λ_=>an G.nil) λ_=>ok_eq (λ_=>an G.nil) λ_=>bz (λ_=>an G.nil) λ_=>bz (λ_=>an G.nil) λ_=>aE (by rw[bY];omega) ?_)))
 rw[cM]
 refine bg (len:=l.length) (F:=λn i s=>nM.oU N n id to s i) (λ_ s=>s.length=l.length∧G m (.slice eD) s) ⟨rfl,h⟩ ω (λn i s hi hI hr=> ?_) (λn s hI=> ?_)
 all_goals unfold nM.oU nM.m5
 ·rw[ay (x:=(i:Int)+1) ω ω,ag i]
  have hs:=hI.1
  have hx:=G.at hI.2 (i:Int).toNat
  exact ax (λ_=>az ⟨ω,ω⟩ (ok_eq (λ_=>az ⟨ω,ω⟩ (hr _ ⟨by rw[bs];exact hs,G.set hI.2 (G4b hx hto) _⟩)) λ_=>hr s hI)) λ_=>ω
 ·have hs:=hI.1
  exact ax (λ_=>ω) λ_=>an hI.2
theorem Ov(hN:200000≤N){l:aO}{m:Nat}(hm:m≤50000)(h:G m (.slice eD) l)(id:Int):Ok (λr=>r.length≤m) (sf N l id):=by
 have hl:=h.1
 unfold sf sf.b
 refine af (Lg N hN ω) λ_ _=>bx (λ_=>an (bA _)) λ_=>bg (len:=l.length) (F:=λn i s=>sf.l5 N n l id s i) (λi s=>s.length≤i) (bA _) ω (λn i s hi hI hr=> ?_) (λn s hI=> ?_)
 all_goals unfold sf.l5 sf.e8
 ·rw[ay (x:=(i:Int)+1) ω ω,ag i]
  exact ax (λ_=>az ⟨ω,ω⟩ (ok_eq (λ_=>az ⟨ω,ω⟩ (aE (by rw[aJ];omega) (hr _ (by rw[aX,aJ];omega)))) λ_=>hr s ω)) λ_=>ω
 ·exact ax (λ_=>ω) λ_=>an ω
abbrev L6(m:Nat)(l:bC):Prop:=G m (.slice m9) l
theorem XN(hN:200000≤N){l:bC}{a:List Int}{m:Nat}(hm:m≤50000)(h:L6 m l)(ha:a.length≤m):Ok (λr=>L6 m r) (fQ N l a):=by
 have hl:=h.1
 unfold fQ fQ.b
 refine bH (iq N ω hN) (bx (λ_=>an G.nil) λ_=>bg (len:=l.length) (F:=λn i s=>fQ.l5 N n l a s i) (λi s=>L6 i s) G.nil ω (λn i s hi hI hr=> ?_) (λn s hI=> ?_))
 all_goals unfold fQ.l5 fQ.e8
 ·have hs:=hI.1
  refine ax (λ_=> ?_) λ_=>ω
  refine bg (len:=a.length) (F:=λn' j b=>fQ.l9 N (fQ.l5 N n) n' l a s (i:Int) b j) (λ_ _=>True) trivial ω (λn' j b hj _ eV=> ?_) (λn' b _=> ?_)
  all_goals unfold fQ.l9 fQ.zA
  ·rw[ay (x:=(j:Int)+1) ω ω,ag j]
   exact ax (λ_=>sb (λ_=>eV _ trivial) λ_=>az ⟨ω,ω⟩ (az ⟨ω,ω⟩ (eV _ trivial))) λ_=>ω
  ·rw[ay (x:=(i:Int)+1) ω ω,ag i]
   have hx:G 0 m9 (l.getD (i:Int).toNat fu):=G.at h _
   exact ax (λ_=>ω) λ_=>bx (λ_=>az ⟨ω,ω⟩ (aE (by rw[aJ];omega) (hr _ (G.cat hI (G.one hx (aI 1)))))) λ_=>hr s (G.mono ω hI)
 ·exact ax (λ_=>ω) λ_=>an (G.mono hl hI)
theorem Ow(hN:5000000≤N)(c:ae){b:aq}{m:Nat}(hm:m≤50000)(hb:G m aL b)(id:Int):Ok (λr=>G m aL r.1) (Li N c b id):=by
 unfold Li
 exact bH (dD N hN hm hb) (bx (λ_=>an G.jc) λ_=>af (oC N ω hm hb.1 _) λ_ _=>ok_eq (λ_=>an G.jc) λ_=>af (Ov N ω hm hb.2.1 _) λa ha=>af (XN N ω hm hb.2.2.2.2.2.1 ha) λr hr=>an ⟨hb.1,hb.2.1,hb.2.2.1,hb.2.2.2.1,hb.2.2.2.2.1,hr,trivial⟩)
theorem DH(hN:200000≤N){l:aO}{m:Nat}(hm:m≤50000)(h:G m (.slice eD) l)(id:Int):Ok (λr=>G m (.slice eD) r) (pG N l id):=by
 have hl:=h.1
 unfold pG pG.b
 refine bH (uz N ω hN) (bx (λ_=>an G.nil) λ_=>bg (len:=l.length) (F:=λn i s=>pG.l5 N n l id s i) (λi s=>G i (.slice eD) s) G.nil ω (λn i s hi hI hr=> ?_) (λn s hI=> ?_))
 all_goals unfold pG.l5 pG.e8
 ·have hs:=hI.1
  have hx:G 0 eD (l.getD (i:Int).toNat aQ):=G.at h _
  rw[ay (x:=(i:Int)+1) ω ω,ag i]
  exact ax (λ_=>az ⟨ω,ω⟩ (bz (λ_=>az ⟨ω,ω⟩ (aE (by rw[aJ];omega) (hr _ (G.cat hI (G.one hx (aI 1)))))) λ_=>hr s (G.mono ω hI))) λ_=>ω
 ·exact ax (λ_=>ω) λ_=>an (G.mono hl hI)
theorem UD(hN:200000≤N){l:bC}{m:Nat}(hm:m≤50000)(h:L6 m l)(a id:Int):Ok (λr=>L6 m r.1) (nN N l a id):=by
 have hl:=h.1
 unfold nN nN.b
 refine bH (iq N ω hN) (bx (λ_=>an G.nil) λ_=>bg (len:=l.length) (F:=λn i s=>nN.l5 N n l a id s i) (λi s=>L6 i s) G.nil ω (λn i s hi hI hr=> ?_) (λn s hI=> ?_))
 all_goals unfold nN.l5 nN.e8
 ·have hs:=hI.1
  have hx:G 0 m9 (l.getD (i:Int).toNat fu):=G.at h _
  rw[ay (x:=(i:Int)+1) ω ω,ag i]
  have h1:=hr s (G.mono ω hI)
  have h2:=hr _ (G.cat hI (G.one hx (aI 1)))
  repeat' first|exact h1|exact h2|refine aE (by rw[aJ];omega) ?_|refine az ⟨ω,ω⟩ ?_|refine ax (λ_=> ?_) (λ_=> ?_)|refine bz (λ_=> ?_) (λ_=> ?_)|(exfalso;omega)
 ·exact ax (λ_=>ω) λ_=>ok_eq (λ_=>an G.nil) λ_=>an (G.mono hl hI)
theorem G6q{m:Nat}{x:gu}{q:Int}(h:G m m9 x)(hq:aG q):G m m9 (x.1,(x.2.1,(x.2.2.1,(x.2.2.2.1,(q,x.2.2.2.2.2))))):=⟨h.1,h.2.1,h.2.2.1,h.2.2.2.1,hq,h.2.2.2.2.2⟩
theorem aa3(hN:200000≤N){l:bC}{m:Nat}(hm:m≤50000)(h:L6 m l)(a d:Int):Ok (λr=>L6 m r) (dF N l a d):=by
 have hl:=h.1
 unfold dF dF.b
 refine bH (iq N ω hN) (bx (λ_=>an G.nil) λ_=>bg (len:=l.length) (F:=λn i s=>dF.l5 N n l a d s i) (λi s=>L6 i s) G.nil ω (λn i s hi hI hr=> ?_) (λn s hI=> ?_))
 all_goals unfold dF.l5 dF.e8
 ·have hs:=hI.1
  have hx:G 0 m9 (l.getD (i:Int).toNat fu):=G.at h _
  have fin: ∀k:Nat,k≤s.length→Ok (λr=>L6 m r) (dF.JW N (dF.l5 N n) l a d s (i:Int) (k:Int)):=λk hk=>by
   unfold dF.JW dF.Cs
   rw[ay (x:=(i:Int)+1) ω ω,ag i]
   dsimp only
   have t: ∀a b:Nat,(List.drop a (List.take b s)).length≤s.length:=λa b=>by rw[dy,bE];omega
   have t1:=t (0:Int).toNat (k:Int).toNat
   have t2:=t (k:Int).toNat (s.length:Int).toNat
   refine Cn ⟨ω,ω,ω,ω⟩ (aE ω (az ⟨ω,ω⟩ (aE (by rw[aJ];omega) (Cn ⟨ω,ω,ω,ω⟩ (aE (by rw[aX,aJ];omega) (hr _ ?_))))))
   simpa using G.ins hI (G.mono (bA i) hx) k 0 k (aI _)
  have h1:=hr s (G.mono ω hI)
  have hw:Ok (λr=>L6 m r) (dF.l9 N (dF.l5 N n) N l a d s (i:Int) 0):=by
   refine jW (len:=s.length) (F:=λn' j=>dF.l9 N (dF.l5 N n) n' l a d s (i:Int) j) ω (λn' j hj eV=> ?_) (λn'=> ?_)
   all_goals unfold dF.l9 dF.zA
   ·rw[ay (x:=(j:Int)+1) ω ω,ag j]
    have hah: ∀x y:gu,Ok (λ_=>True) (UE N x y):=λx y=>by unfold UE;exact bz (λ_=>fa) λ_=>fa
    exact ax (λ_=>az ⟨ω,ω⟩ (az ⟨ω,ω⟩ (af (hah _ _) λ_ _=>sb (λ_=>eV) λ_=>fin j ω))) λ_=>ω
   ·exact ax (λ_=>ω) λ_=>fin _ (aI _)
  rw[ay (x:=(i:Int)+1) ω ω,ag i]
  repeat' first|exact h1|exact hw|refine az ⟨ω,ω⟩ ?_|refine ax (λ_=> ?_) (λ_=> ?_)|refine bz (λ_=> ?_) (λ_=> ?_)|(exfalso;omega)
 ·exact ax (λ_=>ω) λ_=>an (G.mono hl hI)
theorem XO(hN:200000≤N){l:bC}{o:gu}{m:Nat}(hm:m≤50000)(h:L6 m l)(ho:G 0 m9 o):Ok (λr=>L6 m r.1∧aG r.2.2.1) (cm N l o):=by
 have hl:=h.1
 have fin: ∀(s:bC) (q:Int) (t:bO),L6 m s→aG q→Ok (λr=>L6 m r.1∧aG r.2.2.1) (cm.j22 N s q t):=λs q t hs hq=>by
  have MR:=hs.1
  unfold cm.j22 cm.aa4
  refine bg (len:=s.length) (F:=λn i u=>cm.xX N n s q t u i) (λi u=>L6 i u) G.nil ω (λn i u hi hI hr=> ?_) (λn u hI=> ?_)
  all_goals unfold cm.xX cm.yE
  ·have hu:=hI.1
   have hx:G 0 m9 (s.getD (i:Int).toNat fu):=G.at hs _
   rw[ay (x:=(i:Int)+1) ω ω,ag i]
   have h1:=hr u (G.mono ω hI)
   have h2:=hr _ (G.cat hI (G.one hx (aI 1)))
   repeat' first|exact h1|exact h2|refine aE (by rw[aJ];omega) ?_|refine az ⟨ω,ω⟩ ?_|refine ax (λ_=> ?_) (λ_=> ?_)|(exfalso;omega)
  ·exact ax (λ_=>ω) λ_=>an ⟨G.mono MR hI,hq⟩
 have dE:Ok (λr:bC×bO×Int×Int=>L6 m r.1∧aG r.2.2.1) (some ([],[],(0:Int),(1:Int))):=an ⟨G.nil,bt⟩
 unfold cm cm.b
 refine bH (iq N ω hN) (bx (λ_=>dE) λ_=>bH (A6 N o) (bx (λ_=>dE) λ_=>aE (by rw[bY];omega) (af (aa3 N hN hm h _ _) λw hw=> ?_)))
 have hwl:=hw.1
 rw[cM]
 refine bg (len:=w.length) (F:=λn i (s:bC×Int×bO)=>cm.l7 N n o s.1 s.2.1 s.2.2 w i) (s:=(_,(_,_))) (λi s=>L6 m s.1∧aG s.2.1∧s.2.2.length≤i) ⟨h,ho.2.2.2.2.1,bA _⟩ ω (λn i s hi hI hr=> ?_) (λn s hI=> ?_)
 all_goals unfold cm.l7 cm.rL
 ·obtain⟨hs,hq,ht⟩:=hI
  have f1:=fin s.1 s.2.1 s.2.2 hs hq
  have aib: ∀(v:Int) (t:tB),Ok (λr=>L6 m r.1∧aG r.2.2.1) (cm.Cp N (cm.l7 N n) o s.1 s.2.1 s.2.2 w (i:Int) v t):=λv t=>by
   unfold cm.Cp cm.wo
   refine aE (by rw[aJ];omega) (bg (len:=s.1.length) (F:=λn' j u=>cm.Ig N (cm.l7 N n) n' o u (W .i64 (s.2.1-v)) (s.2.2++[t]) w (i:Int) v j) (λ_ u=>u.length=s.1.length∧L6 m u) ⟨rfl,hs⟩ (by have:=hs.1;omega) (λn' j u hj hJ eV=> ?_) (λn' u hJ=> ?_))
   all_goals unfold cm.Ig cm.En
   ·have MR:=hs.1
    have Ih:=hJ.1
    rw[ay (x:=(j:Int)+1) ω ω,ag j]
    exact ax (λ_=>az ⟨ω,ω⟩ (az ⟨ω,ω⟩ (ok_eq (λ_=>az ⟨ω,ω⟩ (az ⟨ω,ω⟩ (eV _ ⟨by rw[bs];exact Ih,G.set hJ.2 (G6q (G.at hJ.2 _) (gH _)) _⟩))) λ_=>eV u hJ))) λ_=>ω
   ·have Ih:=hJ.1
    rw[ay (x:=(i:Int)+1) ω ω,ag i]
    exact ax (λ_=>ω) λ_=>hr (_,(_,_)) ⟨hJ.2,gH _,by dsimp only;rw[List.length_append,List.length_singleton];omega⟩
  have Lj:Ok (λr=>L6 m r.1∧aG r.2.2.1) (cm.Q5 N (cm.l7 N n) o s.1 s.2.1 s.2.2 w (i:Int)):=by
   unfold cm.Q5 cm.Lk
   rw[ay (x:=(i:Int)+1) ω ω,ag i]
   dsimp only
   have h1:=hr s ⟨hs,hq,ω⟩
   repeat' first|exact h1|exact aib _ _|refine az ⟨ω,ω⟩ ?_|refine ok_eq (λ_=> ?_) (λ_=> ?_)
  repeat' first|exact f1|exact Lj|refine az ⟨ω,ω⟩ ?_|refine ax (λ_=> ?_) (λ_=> ?_)|refine ok_eq (λ_=> ?_) (λ_=> ?_)|(exfalso;omega)
 ·exact ax (λ_=>ω) λ_=>fin _ _ _ hI.1 hI.2.1
theorem XP(hN:5000000≤N){c:ae}{b:aq}{o:gu}{m:Nat}(h2:200≤m)(hm:m≤40000)(hc:G m aA c)(hb:G m aL b)(ho:G 0 m9 o):Ok (λr=>G (m+1) aL r.1) (ju N c b o):=by
 have Jg:=hb.2.2.2.2.2.1.1
 have dE: ∀(t:bO) (e:Int),Ok (λr:aq×bO×Int×Int=>G (m+1) aL r.1) (some ((bM,(dh,(cf,(cf,(dW,(eu,())))))),(t,((0:Int),e)))):=λt e=>an (G.zero (m+1) aL)
 have Lj: ∀(r:bC) (t:bO) (q:Int),L6 m r→aG q→Ok (λr=>G (m+1) aL r.1) (ju.Q5 N c b o (bM,(dh,(cf,(cf,(dW,(eu,())))))) r t q):=λr t q hr hq=>by
  have MB:=hr.1
  unfold ju.Q5 ju.Lk
  have hx:G 0 m9 (o.1,(o.2.1,(o.2.2.1,(o.2.2.2.1,(q,o.2.2.2.2.2))))):=G6q ho hq
  exact af (JS N hN c h2 ω hb) λz hz=>bz (λ_=>dE _ _) λ_=>by
   have yP:G (m+1) aL z.1:=G.mono ω hz
   exact ax (λ_=>aE (by rw[aJ];omega) (an ⟨yP.1,yP.2.1,yP.2.2.1,yP.2.2.2.1,yP.2.2.2.2.1,G.cat hr (G.one hx (aI 1)),trivial⟩)) λ_=>an ⟨yP.1,yP.2.1,yP.2.2.1,yP.2.2.2.1,yP.2.2.2.2.1,G.mono ω hr,trivial⟩
 have hj7:Ok (λr=>G (m+1) aL r.1) (ju.j7 N c b o (bM,(dh,(cf,(cf,(dW,(eu,()))))))):=by
  unfold ju.j7 ju.Qc
  exact af (XO N ω ω hb.2.2.2.2.2.1 ho) λz hz=>ax (λ_=>ok_eq (λ_=>dE _ _) λ_=>Lj _ _ _ hz.1 hz.2) λ_=>Lj _ _ _ hz.1 hz.2
 unfold ju ju.b
 refine af (Bv N hN h2 hm hc hb (G.mono (bA m) ho)) λe _=>bz (λ_=>dE _ _) λ_=>ax (λh0=> ?_) λ_=>hj7
 dsimp only
 exact az (by rw[ay ω ω];omega) (et (λ_=>dE _ _) λ_=>hj7)
theorem aic(a:Int):Ok (λ_=>True) (K4 N a):=by
 unfold K4
 exact ok_eq (λ_=>fa) λ_=>fa
theorem kb.one{k n:Int}{x:aH}{m:Nat}(h:Bg m x)(hm:m≤8):kb 1 [(k,(n,(x,())))]:=⟨aI 1,λy hy=>by rw[cg.1 hy];exact Bg.mono h hm⟩
theorem XQ(hN:4000000≤N){l:aC}{m:Nat}(hm:m≤50000)(h:L3 m l)(i a b:Int):Ok (λr=>kb m r.1) (nO N l i a b):=by
 have hl:=h.1
 unfold nO nO.b
 have p64: ∀p:Int,decide (1≤p∧p≤1000000000000)=true→aG p:=λp h=>by have:=bl h;unfold aG;omega
 refine bH (mR N ω ω) (bx (λ_=>an kb.nil) λ_=>bH (iW N _) (bx (λ_=>an kb.nil) λha=>bH (iW N _) (bx (λ_=>an kb.nil) λhb=>af (br N hN (p64 _ hb)) λx hx=>af (br N hN (p64 _ ha)) λy hy=>af (yg N hN ω hx hy) λz hz=>bg (len:=l.length) (F:=λn j s=>nO.l6 N n l i s z j) (λj s=>kb j s) kb.nil ω (λn j s hj hI hr=> ?_) (λn s hI=> ?_))))
 all_goals unfold nO.l6 nO.vX
 ·have hs:=hI.1
  rw[ay (x:=(j:Int)+1) ω ω,ag j]
  have h1:=hr s (kb.mono hI ω)
  exact ax (λ_=>az ⟨ω,ω⟩ (bz (λ_=>h1) λ_=>af (EY N hz) λ_ _=>ok_eq (λ_=>h1) λ_=>az ⟨ω,ω⟩ (af (aic N _) λ_ _=>az ⟨ω,ω⟩ (af (br N hN (G.at h _).2.2.1) λv hv=>af (lV N hN ω ω hv hz) λu hu=>aE (by rw[aJ];omega) (hr _ (kb.app hI (kb.one hu ω))))))) λ_=>ω
 ·exact ax (λ_=>ω) λ_=>an (kb.mono hI ω)
theorem DI(hN:5000000≤N)(c:ae){b:aq}{m:Nat}(h2:200≤m)(hm:m≤50000)(hb:G m aL b)(i:Int){p:Int}(hp:aG p):Ok (λr=>G m aL r.1∧kb m r.2.1) (UF N c b i p):=by
 have dE: ∀e:Int,Ok (λr:aq×bJ×Int=>G m aL r.1∧kb m r.2.1) (some ((bM,(dh,(cf,(cf,(dW,(eu,())))))),([],e))):=λe=>an ⟨G.jc,kb.nil⟩
 have C2:=hb.2.2.2.2.1.1
 unfold UF
 refine bH (dD N hN hm hb) (bx (λ_=>dE _) λhB=>bH (iW N _) (bx (λ_=>dE _) λ_=>ax (λ_=>dE _) λh0=>et (λ_=>dE _) λh1=> ?_))
 obtain⟨Tz,_⟩:=iu hB
 dsimp only
 rw[cM]
 exact az ⟨h0,by rw[Tz];exact h1⟩ (af (XQ N ω hm hb.2.2.2.1 _ _ _) λf hf=>af (tc N ω h2 hm hb G.nil (kb.mono hf hm)) λr hr=>bz (λ_=>dE _) λ_=>aE (by rw[bY];omega) (az ⟨h0,by rw[Tz];exact h1⟩ (an ⟨⟨hr.1,hr.2.1,hr.2.2.1,hr.2.2.2.1,G.set hb.2.2.2.2.1 hp _,hr.2.2.2.2.2⟩,hf⟩)))
abbrev L2(m:Nat)(l:aB):Prop:=G m (.slice hZ) l
theorem G2{m:Nat}{a b:Int}(ha:aG a)(hb:aG b):G m hZ (a,(b,())):=⟨ha,hb,trivial⟩
theorem Ct(hN:200000≤N){l:aB}(hl:l.length≤100000):Ok (λ_=>True) (qE N l):=by
 unfold qE qE.b
 refine jW (len:=l.length) (F:=λn i=>qE.l2 N n l i) ω (λn i hi hr=> ?_) (λn=> ?_)
 all_goals unfold qE.l2 qE.gm
 ·rw[ay (x:=(i:Int)+1) ω ω,ag i]
  dsimp only
  repeat' first|exact hr|exact fa|refine az ⟨ω,ω⟩ ?_|refine az (by rw[ay (x:=(i:Int)-1) ω ω];omega) ?_|refine ax (λ_=> ?_) (λ_=> ?_)|refine et (λ_=> ?_) (λ_=> ?_)|refine ok_eq (λ_=> ?_) (λ_=> ?_)|(exfalso;omega)
 ·exact ax (λ_=>ω) λ_=>fa
theorem Ox(hN:4000000≤N){g:aB}{p:bJ}{m:Nat}(h2:200≤m)(hm:m≤50000)(h:L2 m g)(hp:kb m p):Ok (λr=>L2 m r.1) (eS N g p):=by
 have hl:=h.1
 have C2:=hp.1
 unfold eS eS.b
 refine af (Ct N ω ω) λ_ _=>bx (λ_=>an G.nil) λ_=>la (len:=25) (F:=λn i s=>eS.l5 N n g p s i) (λi s=>L2 i s) (λn i s hi hI hr=> ?_) (λn s hI=> ?_) 25 N 1 [] ω ω ω G.nil
 all_goals unfold eS.l5 eS.e8
 ·have hs:=hI.1
  refine et (λ_=> ?_) λ_=>ω
  refine bg (len:=g.length) (F:=λn' j t=>eS.l9 N (eS.l5 N n) n' g p s (i:Int) t j) (λ_ t=>Bg 2 t) (Lc ω) ω (λn' j t hj ht eV=> ?_) (λn' t ht=> ?_)
  all_goals unfold eS.l9 eS.zA
  ·rw[ay (x:=(j:Int)+1) ω ω,ag j]
   exact ax (λ_=>az ⟨ω,ω⟩ (ok_eq (λ_=>az ⟨ω,ω⟩ (af (br N hN (G.at h _).2.1) λr hr=>eV r hr)) λ_=>eV t ht)) λ_=>ω
  ·refine ax (λ_=>ω) λ_=> ?_
   refine bg (len:=p.length) (F:=λzD j t=>eS.JK N (eS.l5 N n) zD g p s (i:Int) t j) (λj t=>Bg (8+j) t) (Bg.mono ht ω) ω (λzD j t hj ht eV=> ?_) (λzD t ht=> ?_)
   all_goals unfold eS.JK eS.GY
   ·rw[ay (x:=(j:Int)+1) ω ω,ag j]
    have h1:=eV t (Bg.mono ht ω)
    exact ax (λ_=>az ⟨ω,ω⟩ (ok_eq (λ_=>az ⟨ω,ω⟩ (ok_eq (λ_=>az ⟨ω,ω⟩ (af (ld N hN ω ht (Bg.mono (hp.at _) ω)) λr hr=>eV r (Bg.mono hr ω))) λ_=>h1)) λ_=>h1)) λ_=>ω
   ·rw[ay (x:=(i:Int)+1) ω ω,ag i]
    exact ax (λ_=>ω) λ_=>af (xB N ht) λv hv=>bx (λ_=>an G.nil) λ_=>bz (λ_=>aE (by rw[aJ];omega) (hr _ (G.cat hI (G.one (m:=1) (G2 (jJ ω ω) hv) (aI 1))))) λ_=>hr s (G.mono ω hI)
 ·exact et (λ_=>ω) λ_=>an (G.mono ω hI)
theorem tf(hN:4000000≤N)(a b c d:Int){x:aH}(h:Bg 8 x):Ok (λr=>kb 2 r) (Cu N a b c d x):=by
 unfold Cu
 exact af (qT N hN ω h) λy hy=>an ⟨aI 2,λz hz=>by
  rcases bm.1 hz with rfl|hz
  ·exact hy
  ·rw[cg.1 hz];exact h⟩
theorem Oy(hN:5000000≤N){c:ae}{b:aq}{m:Nat}(h2:200≤m)(hm:m≤40000)(hc:G m aA c)(hb:G m aL b)(a:Int){q:Int}(hq:aG q):Ok (λr=>G m aL r.1) (UG N c b a q):=by
 unfold UG
 exact bH (dD N hN ω hb) (bx (λ_=>an G.jc) λ_=>ax (λ_=>an G.jc) λ_=>af (yh N ω ω hb.2.1 _) λ_ _=>bx (λ_=>an G.jc) λ_=>af (oC N ω ω hb.1 _) λ_ _=>bz (λ_=>an G.jc) λ_=>af (mK N ω ω hb.2.2.1 _ _) λg hg=>af (br N ω hg) λx hx=>af (br N ω hq) λy hy=>af (yg N ω ω hx hy) λz hz=>af (Ha N ω h2 hm hc hb (bA _) _) λw hw=>af (p4 N ω ω ω hz hw) λ_ _=>ax (λ_=>an G.jc) λ_=>af (br N ω hq) λy hy=>af (tf N ω _ _ _ _ (Bg.mono hy ω)) λp hp=>af (tc N ω h2 ω hb G.nil (kb.mono hp ω)) λr hr=>an hr)
theorem Q6(hN:1000≤N){c:ae}(hc:G 5 aA c):Ok (λr=>G 5 aL r.1) (iy N c):=by
 have hl:=hc.1.1
 unfold iy iy.b
 have hj: ∀b:aq,G 5 aL b→Ok (λr=>G 5 aL r.1) (iy.j6 N c (bM,(dh,(cf,(cf,(dW,(eu,())))))) b []):=λb hb=>by
  unfold iy.j6 iy.T7
  obtain⟨b1,b2,b3,b4,b5,b6⟩:=b
  refine bg (len:=c.1.length) (F:=λn i (z:aq×List Int)=>iy.l7 N n c (bM,(dh,(cf,(cf,(dW,(eu,())))))) z.1 z.2 i) (s:=((b1,(b2,(b3,(b4,(b5,b6))))),_)) (λi z=>G 5 aL z.1∧G i (.slice (.int .i64)) z.2) ⟨hb,G.nil⟩ ω (λn i z hi hI hr=> ?_) (λn z hI=> ?_)
  all_goals unfold iy.l7 iy.rL
  ·have hz:=hI.2.1
   rw[ay (x:=(i:Int)+1) ω ω,ag i]
   have hx:G 0 (.int .i64) (c.1.getD (i:Int).toNat aQ).2.1:=(G.at hc.1 _).2.1
   exact ax (λ_=>az ⟨ω,ω⟩ (aE (by rw[aJ];omega) (hr (_,_) ⟨⟨hI.1.1,hI.1.2.1,hI.1.2.2.1,hI.1.2.2.2.1,G.nil,hI.1.2.2.2.2.2⟩,G.cat hI.2 (G.one hx (aI 1))⟩))) λ_=>ω
  ·exact ax (λ_=>ω) λ_=>an ⟨hI.1.1,hI.1.2.1,hI.1.2.2.1,hI.1.2.2.2.1,G.mono hl hI.2,hI.1.2.2.2.2.2⟩
 have xQ:L3 5 [((1:Int),((0:Int),(W .i64 (0-c.2.1),()))),((3:Int),((0:Int),(c.2.1,())))]:=G.two (G3 (show aG 1 from bB) bt (gH _)) (G3 (show aG 3 from bB) bt hc.2.1) δ
 exact bH (nB N ω c) (bx (λ_=>an G.jc) λ_=>bz (λ_=>hj _ ⟨G.nil,G.nil,xQ,G.nil,G.nil,G.nil,trivial⟩) λ_=>hj _ G.jc)
theorem Cv(hN:4000000≤N){c:ae}{l:aB}{m:Nat}(hm:m≤50000)(hc:G m aA c)(hl:L2 m l)(f:Bool):Ok (λr=>Bg 60000 r.1) (Eo N c l f):=by
 have h1:=hl.1
 unfold Eo Eo.b
 refine bH (A9 N ω c ω) (bx (λ_=>an (Lc ω)) λhk=>bg (len:=l.length) (F:=λn i t=>Eo.l5 N n l f c (false,(([]:List Int),())) t i) (λi t=>Bg (8+i) t) (Lc ω) ω (λn i t hi ht hr=> ?_) (λn t ht=> ?_))
 all_goals unfold Eo.l5 Eo.e8
 ·rw[ay (x:=(i:Int)+1) ω ω,ag i,aF]
  unfold lz at hk
  have hp:=bl (cL.1 hk).1 i hi
  unfold mS nF at hp
  have in1: ∀{x y:Option (aH×Int)},Ok (λr=>Bg 60000 r.1) x→Ok (λr=>Bg 60000 r.1) (cond (a7 (l.getD i ct).1 c.1.length) x y):=λh=>az ⟨hp.1,hp.2.1⟩ h
  have hw: ∀q:Int,aG q→Ok (λr=>Bg 60000 r.1) ((kF N (l.getD i ct).2.1).bind λr3=>(WX N r3).bind λr4=>(kF N q).bind λr5=>(jZ N r4 r5).bind λr6=>(AZ N t r6).bind λr7=>Eo.l5 N n l f c (false,(([]:List Int),())) r7 ((i+1:Nat):Int)):=λq hq=>
   af (br N hN (G.at hl i).2.1) λx hx=>af (Bt N hN ω hx) λx hx=>af (br N hN hq) λy hy=>af (lV N hN ω ω hx hy) λz hz=>af (ld N hN ω ht (Bg.mono hz ω)) λu hu=>hr u (Bg.mono hu ω)
  exact ax (λ_=>az ⟨ω,ω⟩ (in1 (sb (λ_=>az ⟨ω,ω⟩ (in1 (az ⟨ω,ω⟩ (hw _ (G.at hc.1 _).2.2.2.1)))) λ_=>az ⟨ω,ω⟩ (hw _ (G.at hc.1 _).2.2.1)))) λ_=>ω
 ·exact ax (λ_=>ω) λ_=>an (Bg.mono ht ω)
theorem qU(hN:200000≤N){b:aq}{m:Nat}(hm:m≤50000)(hb:G m aL b)(id:Int):Ok (λ_=>True) (Ll N b id):=by
 unfold Ll
 exact af (oC N hN hm hb.1 _) λ_ _=>fa
theorem uG(hN:200000≤N){b:aq}{m:Nat}(hm:m≤50000)(hb:G m aL b)(id:Int):Ok aG (Q7 N b id):=by
 unfold Q7
 exact af (mK N hN hm hb.2.2.1 _ _) λr hr=>an hr
theorem XR(hN:5000000≤N){c:ae}{b:aq}{m:Nat}(hm:m≤40000)(hc:G m aA c)(hb:G m aL b)(f to a:Int):Ok (λ_=>True) (aa5 N c b f to a):=by
 unfold aa5 aid
 have mb:=λid=>qU N ω ω hb id
 exact bH (dD N hN ω hb) (bx (λ_=>fa) λ_=>af (yh N ω ω hb.2.1 _) λ_ _=>bx (λ_=>fa) λ_=>af (mb _) λ_ _=>ok_eq (λ_=>fa) λ_=>af (mb _) λ_ _=>ok_eq (λ_=>fa) λ_=>bz (λ_=>fa) λ_=>bz (λ_=>fa) λ_=>af (mb _) λ_ _=>bz (λ_=>fa) λ_=>af (Oo N ω ω hb.2.2.2.1 _) λl hl=>af (Q:=λr=>Bg 60000 r.1) (af (Cv N ω ω hc hl _) λr hr=>an hr) λu hu=>af (uG N ω ω hb _) λg hg=>af (br N ω hg) λx hx=>af (p4 N ω ω ω hx hu) λ_ _=>ax (λ_=>fa) λ_=>fa)
theorem aa6(hN:5000000≤N){c:ae}{b:aq}{m:Nat}(hm:m≤40000)(hc:G m aA c)(hb:G m aL b)(f:Int){to:Int}(hto:aG to)(a:Int):Ok (λr=>G m aL r.1) (UH N c b f to a):=by
 unfold UH
 exact af (XR N hN hm hc hb _ _ _) λ_ _=>bz (λ_=>an G.jc) λ_=>af (Q4 N ω ω hb.1 hb.2.1 hto) λr hr=>bz (λ_=>an G.jc) λ_=>an ⟨hb.1,hr,hb.2.2⟩
theorem UI(hN:4000000≤N){x:aH}{q:Int}(hx:Bg 60000 x)(hq:aG q):Ok (λr=>0≤r∧r≤3) (Hc N x q):=by
 unfold Hc Hc.b
 refine af (EY N hx) λ_ _=>et (λ_=>an δ) λ_=>ax (λ_=>an δ) λ_=>la (len:=3) (F:=λn i (_:Unit)=>Hc.l4 N n q x i) (λ_ _=>True) (λn i _ hi _ hr=> ?_) (λn _ _=> ?_) 3 N 1 () ω ω ω trivial
 all_goals unfold Hc.l4 Hc.ew
 ·rw[ay (x:=(i:Int)+1) ω ω,ag i]
  exact ax (λ_=>af (br N hN (jJ ω ω)) λa ha=>af (br N hN hq) λb hb=>af (lV N hN ω ω ha hb) λy hy=>af (p4 N hN ω ω hy hx) λ_ _=>ax (λ_=>hr () trivial) λ_=>an ω) λ_=>ω
 ·exact ax (λ_=>ω) λ_=>an ω
theorem SL(hN:5000000≤N)(c:ae){b:aq}{m:Nat}(hm:m≤50000)(hb:G m aL b):Ok (λr=>G m (.slice (.int .i64)) r.1) (sh N c b):=by
 have hl:=hb.1.1
 unfold sh sh.b
 refine bH (dD N hN hm hb) (bx (λ_=>an G.nil) λ_=>bg (len:=b.1.length) (F:=λn i s=>sh.l5 N n b s i) (λi s=>G i (.slice (.int .i64)) s) G.nil ω (λn i s hi hI hr=> ?_) (λn s hI=> ?_))
 all_goals unfold sh.l5 sh.e8
 ·have hs:=hI.1
  rw[ay (x:=(i:Int)+1) ω ω,ag i]
  have h1:=hr s (G.mono ω hI)
  have hx:G 0 (.int .i64) (b.1.getD (i:Int).toNat ct).1:=(G.at hb.1 _).1
  exact ax (λ_=>az ⟨ω,ω⟩ (ok_eq (λ_=>az ⟨ω,ω⟩ (af (mK N ω hm hb.2.2.1 _ _) λ_ _=>ax (λ_=>az ⟨ω,ω⟩ (aE (by rw[aJ];omega) (hr _ (G.cat hI (G.one hx (aI 1)))))) λ_=>h1)) λ_=>h1)) λ_=>ω
 ·exact ax (λ_=>ω) λ_=>an (G.mono hl hI)
abbrev LL(m:Nat)(l:aN):Prop:=G m (.slice fZ) l
theorem Hd(hN:200000≤N){l:aN}{m:Nat}(hm:m≤50000)(h:LL m l)(id:Int):Ok (λr=>G m fZ r.1) (E1 N l id):=by
 have hl:=h.1
 unfold E1 E1.b
 refine jW (len:=l.length) (F:=λn i=>E1.l2 N n l id ((0:Int),(bM,aQ)) i) ω (λn i hi hr=> ?_) (λn=> ?_)
 all_goals unfold E1.l2 E1.gm
 ·rw[ay (x:=(i:Int)+1) ω ω,ag i]
  exact ax (λ_=>az ⟨ω,ω⟩ (ok_eq (λ_=>az ⟨ω,ω⟩ (an (G.at h _))) λ_=>hr)) λ_=>ω
 ·exact ax (λ_=>ω) λ_=>an (G.zero m fZ)
theorem UJ(hN:4000000≤N){a b:aB}{m:Nat}(h6:6≤m)(hm:m≤40000)(ha:L2 m a)(hb:L2 m b):Ok (λr=>L2 m r.1) (eT N a b):=by
 have hal:=ha.1
 have wu:=hb.1
 unfold eT eT.b
 refine bg (len:=6) (F:=λn i s=>eT.l3 N n a b s i) (λi s=>L2 i s) G.nil ω (λn i s hi hI hr=> ?_) (λn s hI=> ?_)
 all_goals unfold eT.l3 eT.lD
 ·have hs:=hI.1
  refine ax (λ_=> ?_) λ_=>ω
  refine bg (len:=a.length) (F:=λn' j t=>eT.l7 N (eT.l3 N n) n' a b s (i:Int) t j) (λj t=>Bg (3+j) t) (Lc ω) ω (λn' j t hj ht eV=> ?_) (λn' t ht=> ?_)
  all_goals unfold eT.l7 eT.rL
  ·rw[ay (x:=(j:Int)+1) ω ω,ag j]
   exact ax (λ_=>az ⟨ω,ω⟩ (ok_eq (λ_=>az ⟨ω,ω⟩ (af (br N hN (G.at ha _).2.1) λr hr=>af (ld N hN ω ht (Bg.mono hr ω)) λu hu=>eV u (Bg.mono hu ω))) λ_=>eV t (Bg.mono ht ω))) λ_=>ω
  ·refine ax (λ_=>ω) λ_=> ?_
   refine bg (len:=b.length) (F:=λzD j t=>eT.qA N (eT.l3 N n) zD a b s (i:Int) t j) (λj t=>Bg (3+a.length+j) t) ht ω (λzD j t hj ht eV=> ?_) (λzD t ht=> ?_)
   all_goals unfold eT.qA eT.pZ
   ·rw[ay (x:=(j:Int)+1) ω ω,ag j]
    exact ax (λ_=>az ⟨ω,ω⟩ (ok_eq (λ_=>az ⟨ω,ω⟩ (af (br N hN (G.at hb _).2.1) λr hr=>af (ld N hN ω ht (Bg.mono hr ω)) λu hu=>eV u (Bg.mono hu ω))) λ_=>eV t (Bg.mono ht ω))) λ_=>ω
   ·rw[ay (x:=(i:Int)+1) ω ω,ag i]
    exact ax (λ_=>ω) λ_=>af (DG N ht) λv hv=>bx (λ_=>an G.nil) λ_=>bz (λ_=>aE (by rw[aJ];omega) (hr _ (G.cat hI (G.one (m:=1) (G2 (jJ ω ω) hv) (aI 1))))) λ_=>hr s (G.mono ω hI)
 ·exact ax (λ_=>ω) λ_=>an (G.mono h6 hI)
theorem Oz(hN:5000000≤N){c:ae}{b:aq}{Q8:aN}{l:aO}{x:cv}{m:Nat}(h6:6≤m)(hm:m≤40000)(hc:G m aA c)(hb:G m aL b)(hL:LL m Q8)(hl:G m (.slice eD) l)(hx:G 0 eD x):Ok (λ_=>True) (lh N c b Q8 l x):=by
 have Ky:=hl.1
 have hLl:=hL.1
 have hal:=hb.2.1.1
 have Jg:=hb.2.2.2.2.2.1.1
 have hw:rV Q8:=λy hy=>ca (hL.2 y hy).2.1.1 ω
 unfold lh lh.b
 have hj:Ok (λ_=>True) (lh.j3 N Q8 l c b x):=by
  unfold lh.j3 lh.j3b
  refine af (qU N ω ω hb _) λ_ _=>ok_eq (λ_=>fa) λ_=>bz (λ_=>fa) λ_=>af (Hd N ω ω hL _) λz hz=>bH (qS N ω ω _) (bx (λ_=>fa) λ_=>bz (λ_=>fa) λ_=>ok_eq (λ_=>fa) λ_=>jW (len:=l.length) (F:=λn i=>lh.oU N n l c b x z.1 (nD b.2.1 x.2.2.1) i) ω (λn i hi hr=> ?_) (λn=> ?_))
  all_goals unfold lh.oU lh.m5
  ·rw[ay (x:=(i:Int)+1) ω ω,ag i]
   exact ax (λ_=>az ⟨ω,ω⟩ (ok_eq (λ_=>az ⟨ω,ω⟩ (ok_eq (λ_=>fa) λ_=>hr)) λ_=>hr)) λ_=>ω
  ·refine ax (λ_=>ω) λ_=>ok_eq (λ_=>fa) λ_=>af (br N ω hx.2.2.2.1) λp hp=>af (br N ω (show aG 4 from bB)) λq hq=>af (br N ω hz.2.2.1) λr hr=>af (lV N ω ω ω hq hr) λu hu=>af (p4 N ω ω ω hp hu) λ_ _=>ax (λ_=>fa) λ_=>af (Oo N ω ω hb.2.2.2.1 _) λa ha=>af (UJ N ω h6 ω ha hz.2.1) λj hj=>bx (λ_=>fa) λ_=> ?_
   unfold aie
   exact af (Q:=λr=>L3 6 r) (bH (iq N ω ω) (bx (λ_=>an G.nil) λ_=>af (G9 N ω ω _) λr hr=>an hr)) λo ho=>af (On N ω ω hc hj (G.mono h6 ho)) λw hw=>af (uG N ω ω hb _) λg hg=>af (br N ω hg) λv hv=>af (br N ω hx.2.2.2.1) λp hp=>af (yg N ω ω hv hp) λd hd=>af (p4 N ω ω ω hd hw) λ_ _=>ax (λ_=>fa) λ_=>fa
 refine bH (dD N hN ω hb) (bx (λ_=>fa) λ_=>bH (Bi N ω c ω hw) (bx (λ_=>fa) λ_=>bH (uz N ω ω) (bx (λ_=>fa) λ_=>bH (Ss N _) (bx (λ_=>fa) λ_=>ax (λ_=> ?_) λ_=>hj))))
 dsimp only
 exact az (by rw[ay ω ω];omega) (et (λ_=>fa) λ_=>hj)
theorem JX(hN:5000000≤N){c:ae}{b:aq}{Q8:aN}{l:aO}{x:cv}{m:Nat}(h6:6≤m)(hm:m≤40000)(hc:G m aA c)(hb:G m aL b)(hL:LL m Q8)(hl:G m (.slice eD) l)(hx:G 0 eD x):Ok (λr=>G (m+1) (.slice eD) r.1) (aa7 N c b Q8 l x):=by
 have Ky:=hl.1
 unfold aa7
 refine af (Oz N hN h6 hm hc hb hL hl hx) λ_ _=>bz (λ_=>an G.nil) λ_=>aE (by rw[bY];omega) ?_
 dsimp only
 rw[cM]
 exact aE (by rw[aJ];omega) (an (G.cat hl (G.one hx (aI 1))))
theorem afY{l:List Int}(h:Pos l)(hs:l.sum<9223372036854775808):Ie l:=λx hx=>by
 have h3:=h x hx
 obtain⟨i,hi,rfl⟩:=qX.1 hx
 have h4:=vC h i
 rw[aZ,bo hi]at h4
 simp only[lG]at h4
 omega
theorem zu(k:Nat):(List.replicate k (1:Int)).sum=k:=by
 induction k with
 |zero=>rfl
 |succ k ih=>rw[zS,cD,ih];omega
theorem He(k:Nat):Pos (List.replicate k 1):=λx hx=>by rw[wz hx];omega
theorem OA{t:Int}{k:Nat}(h0:0≤t)(h1:t<9223372036854775808)(hk:1≤k)(BJ:k≤3):(iB t k).1.length=k∧Ie (iB t k).1:=by
 have hS:0<(List.replicate k (1:Int)).sum:=by rw[zu];omega
 have ee:iB t k=(bF t (List.replicate k 1),0):=by
  unfold iB
  rw[ah ω,aF]
  unfold mJ
  have hm:may (List.replicate k 1)=true:=iK.2 ⟨by rw[bP];omega,He k⟩
  rw[ah (by rw[hm];simp;omega),zu,ah ω,ah ω]
 rw[ee]
 exact⟨by dsimp only;rw[oz,List.length_replicate],afY (rY h0 hS (He k)) (by rw[vD h0 hS];omega)⟩
def LQ(y:lT):Prop:=aG y.1∧aG y.2.1∧mZ y.2.1
theorem afZ{l:aB}(h: ∀y∈l,LQ y)(i:Nat):LQ (l.getD i ct):=by
 by_cases hk:i<l.length
 ·rw[aZ,bo hk];exact h _ (fg hk)
 ·rw[aZ,gV ω];exact⟨bt,bt,by unfold mZ;decide⟩
theorem UK{c:ae}{b:aq}{m:Nat}(hb:G m aL b)(hB:dT c b=true)(a:Int): ∀y∈posOf b.2.2.2.1 a,LQ y∧(0≤(y.1:Int)∧(y.1:Int)<(c.1.length:Int)):=λy hy=>by
 have hk:dq b.2.2.2.1=true:=by
  by_cases h:dq b.2.2.2.1=true
  ·exact h
  ·unfold posOf at hy;rw[ah h]at hy;nomatch hy
 unfold posOf at hy
 rw[ak hk]at hy
 obtain⟨x,hx,_,e⟩:=mI hy
 have hg:=hb.2.2.2.1.2 x hx
 have hq:=((fK hk).2 x hx).2
 have hp:=Lb hB x hx
 rw[e]
 exact⟨⟨hg.2.1,hg.2.2.1,hq⟩,hp⟩
theorem SM(hN:5000000≤N){c:ae}{b:aq}{m:Nat}(h2:200≤m)(hm:m≤40000)(hc:G m aA c)(hb:G m aL b){next:Int}(hn:aG next):Ok (λr=>LL m r.1∧r.1.length≤12) (ei N c b next):=by
 unfold ei ei.b
 refine bH (dD N hN ω hb) (bx (λ_=>an ⟨G.nil,bA _⟩) λhB=>ax (λ_=>an ⟨G.nil,bA _⟩) λ_=>ax (λ_=>an ⟨G.nil,bA _⟩) λ_=>bH (Xn N (G.wf ω hb).w.s ω 0) (ok_eq (λ_=>an ⟨G.nil,bA _⟩) λ_=> ?_))
 have iT:=UK hb hB 0
 have hal:=(anw hb.2.2.2.1 0).1
 generalize posOf b.2.2.2.1 0=all at*
 refine bg (len:=4) (F:=λn k (s:Int×aN)=>ei.l8 N n s.1 c all s.2 k) (s:=(_,_)) (λk s=>aG s.1∧s.2.length≤3*k∧ ∀x∈s.2,G m fZ x) ⟨hn,bA _,λx hx=>nomatch hx⟩ ω (λn k s hk hI hr=> ?_) (λn s hI=> ?_)
 all_goals unfold ei.l8 ei.zo
 ·refine ax (λ_=> ?_) λ_=>ω
  refine bg (len:=all.length) (F:=λn' i (z:aB×aH)=>ei.oU N (ei.l8 N n) n' s.1 c all s.2 (k:Int) z.1 z.2 i) (s:=(_,_)) (λi z=>z.1.length≤i∧(∀y∈z.1,LQ y)∧Bg (8+i) z.2) ⟨bA _,(λy hy=>nomatch hy),Lc ω⟩ ω (λn' i z hi hz eV=> ?_) (λn' z hz=> ?_)
  all_goals unfold ei.oU ei.m5
  ·obtain⟨yP,EM,hz3⟩:=hz
   have hx:all.getD i ct∈all:=by rw[aZ,bo hi];exact fg hi
   have hy:=iT _ hx
   rw[ay (x:=(i:Int)+1) ω ω,ag i,aF]
   exact ax (λ_=>az ⟨ω,ω⟩ (az hy.2 (ok_eq (λ_=>az ⟨ω,ω⟩ (aE (by rw[List.length_singleton];omega) (az ⟨ω,ω⟩ (af (br N ω hy.1.2.1) λu hu=>af (Bt N ω ω hu) λu hu=>af (ld N ω ω hz3 (Bg.mono hu ω)) λv hv=>eV (_,_) ⟨by dsimp only;rw[List.length_append,List.length_singleton];omega,λy h=>(List.mem_append.1 h).elim (EM y) (λh=>by rw[List.mem_singleton.1 h];exact hy.1),Bg.mono hv ω⟩)))) λ_=>eV z ⟨ω,EM,Bg.mono hz3 ω⟩))) λ_=>ω
  ·obtain⟨yP,EM,hz3⟩:=hz
   refine ax (λ_=>ω) λ_=>af (UI N ω (Bg.mono hz3 ω) hc.2.2.2.2.2.1) λw hw=> ?_
   obtain⟨p,hp⟩: ∃p:Nat,w=(p:Int):=⟨w.toNat,ω⟩
   subst hp
   refine bg (len:=p) (F:=λzD j (t:Int×aN)=>ei.IT N (ei.l8 N n) zD t.1 c all t.2 (k:Int) z.1 (p:Int) j) (s:=s) (λj t=>aG t.1∧t.2.length≤3*k+j∧ ∀x∈t.2,G m fZ x) hI ω (λzD j t hj ht XC=> ?_) (λzD t ht=> ?_)
   all_goals unfold ei.IT ei.OB
   ·obtain⟨rA,RS,VT⟩:=ht
    refine ax (λ_=> ?_) λ_=>ω
    refine bg (len:=z.1.length) (F:=λn3 i u=>ei.xX N (ei.l8 N n) (ei.IT N (ei.l8 N n) zD) n3 t.1 c all t.2 (k:Int) z.1 (p:Int) (j:Int) (t.1,(bM,((0:Int),((1:Int),ct)))) u i) (λi u=>L2 i u) G.nil ω (λn3 i u hi hu OC=> ?_) (λn3 u hu=> ?_)
    all_goals unfold ei.xX ei.yE
    ·have Ih:=hu.1
     have hq:=afZ EM i
     have nU:=hq
     unfold LQ aG mZ at nU
     have anC: ∀q:Int,0≤q→q<9223372036854775808→Ok (λr=>LL m r.1∧r.1.length≤12) (ei.L1 N (ei.l8 N n) (ei.IT N (ei.l8 N n) zD) (ei.xX N (ei.l8 N n) (ei.IT N (ei.l8 N n) zD) n3) t.1 c all t.2 (k:Int) z.1 (p:Int) (j:Int) (t.1,(bM,((0:Int),((1:Int),ct)))) u (i:Int) q):=λq h0 h1=>by
      unfold ei.L1 ei.Ep
      obtain⟨e1,e2⟩:=OA (k:=p) h0 h1 ω ω
      have anD: ∀v:List Int,v.length=p→Ie v→Ok (λr=>LL m r.1∧r.1.length≤12) (ei.j32 N (ei.l8 N n) (ei.IT N (ei.l8 N n) zD) (ei.xX N (ei.l8 N n) (ei.IT N (ei.l8 N n) zD) n3) t.1 c all t.2 (k:Int) z.1 (p:Int) (j:Int) (t.1,(bM,((0:Int),((1:Int),ct)))) u (i:Int) v):=λv MJ ZD=>by
       unfold ei.j32 ei.aif
       rw[ay (x:=(i:Int)+1) ω ω,ag i]
       have hx:G 0 hZ ((z.1.getD (i:Int).toNat ct).1,(v.getD (j:Int).toNat 0,())):=G2 (afZ EM _).1 (rK ZD _)
       exact az ⟨ω,ω⟩ (bz (λ_=>az ⟨ω,ω⟩ (az ⟨ω,ω⟩ (aE (by rw[aJ];omega) (OC _ (G.cat hu (G.one hx (aI 1))))))) λ_=>OC u (G.mono ω hu))
      refine bH (Xu N hN h1) (az ⟨ω,ω⟩ (ax (λ_=>az ⟨ω,ω⟩ (az ⟨ω,ω⟩ (anD _ (by rw[bs];exact e1) λy hy=> ?_))) λ_=>anD _ e1 e2))
      rcases tK hy with hy|rfl
      ·exact e2 y hy
      ·exact gH _
     rw[aF]
     refine ax (λ_=>az ⟨ω,ω⟩ (ax (λdU=> ?_) λVp=> ?_)) λ_=>ω
     ·have g: ∀x:Int,-9223372036854775808≤x∧x≠ -9223372036854775808→x<0→0≤W .i64 (0-x)∧W .i64 (0-x)<9223372036854775808:=λx h1 h2=>by rw[ay ω ω];omega
      have gx:=g _ ⟨nU.2.1.1,nU.2.2⟩ dU
      exact anC _ gx.1 gx.2
     ·exact anC _ Vp nU.2.1.2
    ·have Ih:=hu.1
     rw[ay (x:=(j:Int)+1) ω ω,ag j]
     have hum:L2 m u:=G.mono ω hu
     refine ax (λ_=>ω) λ_=>ok_eq (λ_=>XC t ⟨rA,ω,VT⟩) λ_=> ?_
     unfold F40
     refine af (Q:=λr=>Bg 60000 r.1) (af (Cv N ω ω hc hum _) λr hr=>an hr) λa ha=>af (qT N ω ω ha) λd hd=>af (xB N hd) λv hv=>bx (λ_=>an ⟨G.nil,Nat.zero_le _⟩) λ_=>aE (by rw[List.length_singleton];omega) (XC (_,_) ⟨gH _,by dsimp only;rw[List.length_append,List.length_singleton];omega,λx hx=> ?_⟩)
     rcases bf.1 hx with hx|hx
     ·exact VT x hx
     ·rw[cg.1 hx];exact⟨rA,hum,hv,(show aG 1 from bB),bt,bt,trivial⟩
   ·rw[ay (x:=(k:Int)+1) ω ω,ag k]
    exact ax (λ_=>ω) λ_=>hr t ⟨ht.1,by have:=ht.2.1;omega,ht.2.2⟩
 ·exact ax (λ_=>ω) λ_=>an ⟨⟨by have:=hI.2.1;dsimp only;omega,hI.2.2⟩,by have:=hI.2.1;dsimp only;omega⟩
theorem aa8(hN:5000000≤N){c:ae}{b:aq}{m:Nat}(h2:200≤m)(hm:m≤40000)(hc:G m aA c)(hb:G m aL b){next:Int}(hn:aG next):Ok (λr=>LL m r.1) (ei N c b next):=SJ (SM N hN h2 hm hc hb hn) λ_ h=>h.1
def qF(g s:Int):Int:=if g<1∨s<1 then 0 else if g≤s then 1 else if g≤2*s then 2 else 3
theorem pH(g s:Int):0≤qF g s∧qF g s≤3:=by unfold qF;repeat' split<;>omega
def Er(q:Int)(n k:Nat):Int:=if q<0 then-((iB (q.natAbs:Int) n).1.getD k 0)else(iB (q.natAbs:Int) n).1.getD k 0
def oD(n k:Nat)(x:lT):Option lT:=if Er x.2.1 n k=0 then none else some (x.1,(Er x.2.1 n k,()))
def oc(l:aB)(n k:Nat):aB:=l.filterMap (oD n k)
def si(c:ae)(x:lT):Int:=(c.1.getD x.1.toNat aQ).1
def bV(c:ae)(l:aB)(k:Nat):aB:=l.filter λx=>decide (si c x=(k:Int))
def eh(l:aB):Int:=(l.map λx=>(x.2.1.natAbs:Int)).sum
def jv(c:ae)(l:aB):Nat:=(qF (eh l) c.2.2.2.2.2.1).toNat
def nP(c:ae)(l:aB):List aB:=(List.range (jv c l)).map (oc l (jv c l))
def uH(c:ae)(next:Int):List aB→aN→Option aN
 |[],out=>some out
 |p::t,out=>if p=[]then uH c next t out else if(ya (-(tA c p))).2=true then uH c next t (out++[(next+(out.length:Int),(p,((ya (-(tA c p))).1,(1,(0,(0,()))))))])else none
def vZ(c:ae)(next:Int)(all:aB):List Nat→aN→Option aN
 |[],out=>some out
 |k::t,out=>(uH c next (nP c (bV c all k)) out).bind (vZ c next all t)
def JY(c:ae)(all:aB)(next:Int):aN×Int:=match vZ c next all (List.range 4) []with
 |some l=>(l,0)
 |none=>([],2)
theorem SN(x:Int):wk x<0↔x<0:=by unfold wk;split<;>(try split)<;>omega
theorem Hf(K:zE.bT){g s x:Int}(hs:aG s)(hx:1≤x∧x≤3):zE.ew N K s (cO g) x=if x<3∧x*s<g then K s (cO g) (x+1)else some x:=by
 unfold zE.ew
 unfold aG at hs
 by_cases h3:x<3
 ·rw[aP h3,aj,KQ N ω ω hs.1 hs.2,aw,Sq,aw,ay ω ω]
  by_cases h:x*s<g
  ·rw[aP ((SN _).2 ω),aj,ak ⟨h3,h⟩]
  ·rw[aK (by have:=SN (x*s-g);omega),au,ah (λh'=>h h'.2)]
 ·rw[aK ω,au,ah (λh'=>h3 h'.1)]
theorem Cw(hN:10≤N){g s:Int}(hs:aG s):zE N (cO g) s=some (qF g s):=by
 obtain⟨n,rfl⟩: ∃n,N=n+4:=⟨N-4,ω⟩
 unfold zE zE.b qF
 rw[Gy,aw]
 by_cases h1:g<1
 ·rw[aP (by unfold wk;split<;>(try split)<;>omega),aj,ak (.inl h1)]
 rw[aK (by unfold wk;split<;>(try split)<;>omega),au]
 by_cases h2:s<1
 ·rw[aP h2,aj,ak (.inr h2)]
 rw[aK ω,au,ah ω]
 unfold zE.l4
 rw[Hf _ _ hs ω,pa]
 by_cases h3:g≤s
 ·rw[ah ω,ak h3]
 rw[ak ω,ah h3]
 unfold zE.l4
 rw[Hf _ _ hs ω]
 by_cases h4:g≤2*s
 ·rw[ah ω,ak h4];rfl
 rw[ak ω,ah h4]
 unfold zE.l4
 rw[Hf _ _ hs ω,ah ω]
 rfl
end VM
end
