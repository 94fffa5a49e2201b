/- A part of the proof of WindBears of layer 21: what the functions compute, in plain words. -/
import Derived.Test.YtecmobijochjkaaGreatPlain4
set_option linter.all false
section
namespace VM
open Go VM.F
def Dk(k:Nat)(d:aM):Prop:=(∀x∈(d.1:List Int),0≤x∧x<18446744073709551616)∧0≤(d.2.1:Int)∧(d.2.1:Int)≤k
theorem Dk.mono{j k:Nat}{d:aM}(h:Dk j d)(hk:j≤k):Dk k d:=⟨h.1,h.2.1,fI h.2.2 ω⟩
def kA:Nat:=1000000000
theorem Ec(N:Nat){k:Nat}{d:aM}(hk:k≤kA)(h:Dk k d):Ok (λr=>(0≤r.1∧r.1<18446744073709551616)∧Dk (k+1) r.2) (F62 N d):=by
 obtain⟨h1,h2,h3⟩:=h
 unfold kA at hk
 unfold F62
 have hw: ∀i:Int,0≤i→i≤(k:Int)→0≤W .i64 (i+1)∧W .i64 (i+1)≤((k+1:Nat):Int):=λi h0 h1=>by rw[ay ω ω];omega
 have hd:Dk (k+1) (d.1,(W .i64 (d.2.1+1),d.2.2)):=⟨h1,hw _ h2 h3⟩
 have hg: ∀(l:List Int) (i:Int),(∀x∈l,0≤x∧x<18446744073709551616)→0≤l.getD i.toNat 0∧l.getD i.toNat 0<18446744073709551616:=λl i hl=>by
  by_cases hi:i.toNat<l.length
  ·rw[aU,bl hi];exact hl _ (dA hi)
  ·rw[aU,gI ω];decide
 exact aw (λfb=>aB ⟨h2,fb⟩ (ak ⟨hg _ _ h1,hd⟩)) λ_=>ak ⟨(show(0:Int)≤0∧(0:Int)<18446744073709551616 by decide),hd⟩
theorem rem_in{x y:Int}(h0:0≤x)(hy:0<y):0≤rem x y∧rem x y<y:=by
 unfold rem;rw[iK]
 exact⟨Int.tmod_nonneg _ h0,Ev _ hy⟩
theorem iV(N:Nat){k:Nat}{d:aM}{n:Int}(hn:0<n∧n<1000000)(h:Dk k d)(hk:k≤kA:=by first|decide|(unfold kA;omega)):Ok (λr=>(0≤r.1∧r.1<n)∧Dk (k+1) r.2) (pT N d n):=by
 unfold pT
 refine af (Ec N hk h) λr hr=> ?_
 dsimp only
 rw[dW (x:=n) ω ω]
 have:=rem_in hr.1.1 hn.1
 refine ok_eq (λ_=>ω) λ_=>ak ⟨?_,hr.2⟩
 dsimp only
 rw[ay ω ω]
 exact this
theorem pM(N:Nat){k:Nat}{d:aM}{n:Int}(hn:0<n∧n<1000000)(h:Dk k d)(hk:k≤kA:=by first|decide|(unfold kA;omega)):Ok (λr=>Dk (k+1) r.2) (QP N d n):=by
 unfold QP
 exact af (iV N hn h hk) λr hr=>ak hr.2
theorem Ed(N:Nat){k:Nat}{d:aM}(h:Dk k d)(hk:k≤kA:=by first|decide|(unfold kA;omega)):Ok (λr=>aD r.1∧Dk (k+1) r.2) (LD N d):=by
 unfold LD
 refine af (Ec N hk h) λr hr=>ok_eq (λ_=>ω) λ_=> ?_
 dsimp only
 repeat' first|exact ak ⟨fU _,hr.2⟩|refine aw (λ_=> ?_) (λ_=> ?_)|refine ok_eq (λ_=> ?_) (λ_=> ?_)|(exfalso;omega)
theorem Xq{x y:Int}(hy:0<y)(hy1:y<9223372036854775808):aD (rem x y):=by
 unfold rem;rw[iK]
 have h1:=Ev x hy
 have h2: -y<x.tmod y:=by
  have:=Ev (-x) hy
  rw[Int.neg_tmod]at this;omega
 unfold aD;omega
theorem A4{x y:Int}(hx:aD x)(hy:aD y):aD (mx x y):=by unfold mx;rw[iK];split<;>assumption
theorem Xr{x y:Int}(hx:aD x)(hy:aD y):aD (mn x y):=by unfold mn;rw[iK];split<;>assumption
theorem QQ{x n:Int}(h:0≤x∧x<n)(hn:n≤1000000):aD x:=iT ω ω
abbrev vx(m:Nat)(l:cV):Prop:=G m (.slice kZ) l
theorem sd{k a b c d e f g:Int}{m:Nat}(h0:aD k)(h1:aD a)(h2:aD b)(h3:aD c)(h4:aD d)(h5:aD e)(h6:aD f)(h7:aD g):G m kZ (k,(a,(b,(c,(d,(e,(f,(g,())))))))):=⟨h0,h1,h2,h3,h4,h5,h6,h7,trivial⟩
theorem bk{x:Int}(h: -1000000≤x∧x≤1000000:=by decide):aD x:=iT h.1 h.2
theorem KT(N:Nat){k:Nat}{d:aM}(h:Dk k d)(c:ae){i:Int}(hi:0≤i∧i<(c.1.length:Int))(hc:c.1.length≤5)(hk:k≤100000000):Ok (λr=>G 0 kZ r.1∧Dk (k+5) r.2) (Uk N d c i):=by
 unfold Uk
 have hb:aD 1000000000000:=by unfold aD;decide
 have nc:aD i:=iT ω ω
 exact aB hi (af (iV N δ h) λa ⟨_,hd⟩=>af (pM N δ hd) λr hd=>pj (λ_=>af (Ed N hd) λr ⟨_,hd⟩=>ok_eq (λ_=>ω) λ_=>ak ⟨sd bk bk bk nc bk bk bk (fU _),Dk.mono hd ω⟩) λ_=>ak ⟨sd bk bk bk nc bk bk bk (A4 bk (Xr hb (fU _))),Dk.mono hd ω⟩)
theorem NS(N:Nat){k:Nat}{d:aM}(h:Dk k d)(c:ae)(Vc:1≤c.1.length)(hc:c.1.length≤5)(hk:k≤100000000):Ok (λr=>G 0 kZ r.1∧Dk (k+10) r.2) (Xs N d c):=by
 unfold Xs
 have hb:aD 1000000000000:=by unfold aD;decide
 refine af (iV N ⟨ω,ω⟩ h) λa ⟨ha,hd⟩=>af (iV N δ hd) λb ⟨eZ,hd⟩=> ?_
 dsimp only
 refine af (iV N δ hd) λe ⟨he,hd⟩=>af (iV N δ hd) λf ⟨hf,hd⟩=>aB ha (af (iV N δ hd) λg ⟨_,hd⟩=>af (pM N δ hd) λr hd=>pj (λ_=>af (Ed N hd) λr ⟨_,hd⟩=>ok_eq (λ_=>ω) λ_=>af (Ed N hd) λr' ⟨_,hd⟩=>ok_eq (λ_=>ω) λ_=>ak ⟨sd bk bk (fU _) (QQ ha ω) (fU _) bk (fU _) (fU _),Dk.mono hd ω⟩) λ_=>ak ⟨sd bk bk (fU _) (QQ ha ω) (fU _) bk (fU _) (A4 bk (Xr hb (fU _))),Dk.mono hd ω⟩)
end VM
end
section
namespace VM
open Go VM.F
structure Cf(c:ae):Prop where
 g:G 5 aA c
 n:1≤c.1.length
theorem Gh(N:Nat){k:Nat}{d:aM}(h:Dk k d){c:ae}(hc:Cf c)(hk:k≤10000000):Ok (λr=>G 0 kZ r.1∧Dk (k+20) r.2) (Ul N d c):=by
 have hn:=hc.n
 have hl:=hc.g.1.1
 unfold Ul
 refine af (iV N δ h) λa ⟨ha,hd⟩=> ?_
 dsimp only
 refine af (iV N δ hd) λb ⟨hb,hd⟩=>af (iV N ⟨ω,ω⟩ hd) λi ⟨hi,hd⟩=>af (iV N δ hd) λe ⟨he,hd⟩=> ?_
 have hz: ∀(e:gR) (j:Nat) (d:aM),G 0 kZ e→Dk j d→j≤k+20→Ok (λr=>G 0 kZ r.1∧Dk (k+20) r.2) (some (e,d)):=λe j d he hd hj=>ak ⟨he,Dk.mono hd hj⟩
 have hs: ∀{f:Int×aM→Option (gR×aM)},(∀x d,aD x→Dk (k+5) d→Ok (λr=>G 0 kZ r.1∧Dk (k+20) r.2) (f (x,d)))→Ok (λr=>G 0 kZ r.1∧Dk (k+20) r.2) ((LD N e.2).bind f):=λhf=>af (Ed N hd) λr ⟨h1,h2⟩=>hf r.1 r.2 h1 (Dk.mono h2 ω)
 have hm: ∀{n:Int} {f:Int×aM→Option (gR×aM)},0<n∧n<1000000→(∀x d,Dk (k+5) d→Ok (λr=>G 0 kZ r.1∧Dk (k+20) r.2) (f (x,d)))→Ok (λr=>G 0 kZ r.1∧Dk (k+20) r.2) ((pT N e.2 n).bind f):=λhn hf=>af (iV N hn hd) λr ⟨h1,h2⟩=>hf r.1 r.2 (Dk.mono h2 ω)
 repeat' first
  |refine ok_eq (λ_=> ?_) (λ_=> ?_)
  |(exfalso;omega)
  |(refine hs λx d' hx ZP=> ?_;dsimp only)
  |(refine hm δ λx d' ZP=> ?_;dsimp only)
  |(refine hz _ _ _ ?_ hd ω;refine⟨?_,?_,?_,?_,?_,?_,?_,?_,trivial⟩<;>first|exact fU _|exact bJ|exact A4 hx bk|exact Xq δ δ|exact(G.at hc.g.1 _).2.1)
  |(refine hz _ _ _ ?_ ZP ω;refine⟨?_,?_,?_,?_,?_,?_,?_,?_,trivial⟩<;>first|exact fU _|exact bJ|exact A4 hx bk|exact Xq δ δ|exact(G.at hc.g.1 _).2.1)
  |(refine hz _ _ _ ?_ h2 ω;refine⟨?_,?_,?_,?_,?_,?_,?_,?_,trivial⟩<;>first|exact fU _|exact bJ|exact A4 hx bk|exact Xq δ δ|exact(G.at hc.g.1 _).2.1)
  |exact af (KT N hd c hi hl ω) λr ⟨h1,h2⟩=>hz _ _ _ h1 h2 ω
  |exact af (NS N hd c hn hl ω) λr ⟨h1,h2⟩=>hz _ _ _ h1 h2 ω
  |refine aB hi ?_
  |(refine af (iV N δ ZP) λr ⟨h1,h2⟩=> ?_)
end VM
end
section
namespace VM
open Go VM.F
theorem G.cat{m n:Nat}{e:Ty}{l k:List e.den}(h:G m (.slice e) l)(h':G n (.slice e) k):G (m+n) (.slice e) (l++k):=
 ⟨by have:=h.1;have:=h'.1;rw[aS];omega,λy hy=>by
  rcases ba.1 hy with hy|hy
  ·exact G.mono ω (h.2 y hy)
  ·exact G.mono ω (h'.2 y hy)⟩
theorem G.two{m:Nat}{e:Ty}{a b:e.den}(ha:G 0 e a)(hb:G 0 e b)(hm:2≤m):G m (.slice e) [a,b]:=
 ⟨hm,λy hy=>by
  rcases aX.1 hy with rfl|hy
  ·exact G.mono ω ha
  ·rw[bV.1 hy];exact G.mono ω hb⟩
theorem G.one{m:Nat}{e:Ty}{a:e.den}(ha:G 0 e a)(hm:1≤m):G m (.slice e) [a]:=
 ⟨hm,λy hy=>by rw[bV.1 hy];exact G.mono ω ha⟩
theorem xU{α:Type}(a b:α):[a,b].length=2:=rfl
theorem QR(N:Nat)(hN:100≤N){k:Nat}{d:aM}(h:Dk k d)(c:ae)(hk:k≤10000000):Ok (λr=>vx 40 r.1∧Dk (k+50) r.2) (fQ N d c):=by
 have Vo: ∀i:Nat,i<100→aD (i:Int):=λi hi=>iT ω ω
 unfold fQ fQ.b
 refine iH (len:=5) (F:=λn i (s:aM×cV)=>fQ.l3 N n s.1 s.2 i) (λi s=>Dk (k+2*i) s.1∧vx (3*i) s.2) (λn i s hi hI hr=> ?_) (λn s hI=> ?_) 5 N 1 (d,[]) ω ω ω ⟨Dk.mono h ω,G.nil⟩
 all_goals unfold fQ.l3 fQ.nT
 ·have hl:=hI.2.1
  have nc:=Vo i ω
  dsimp only
  rw[ay (x:=(i:Int)+1) ω ω,ag i]
  have h2:vx (3*i+2) (s.2++[((1:Int),((i:Int),fm)),((2:Int),((i:Int),((i:Int),((0:Int),((1:Int),bm)))))]):=G.cat hI.2 (G.two (sd bk nc bJ bJ bJ bJ bJ bJ) (sd bk nc nc bJ bk bJ bJ bJ) ω)
  have hl2:=h2.1
  exact dY (λ_=>aC (by rw[xU];omega) (af (pM N δ hI.1 (by unfold kA;omega)) λr hd=>bw (λ_=>af (iV N δ hd (by unfold kA;omega)) λr ⟨_,hd⟩=>aC (by rw[aI];omega) (hr (_,_) ⟨Dk.mono hd ω,G.mono ω (G.cat h2 (G.one (m:=1) (sd bk nc bJ bJ bJ bJ (fU _) bJ) ω))⟩)) λ_=>hr (_,_) ⟨Dk.mono hd ω,G.mono ω h2⟩)) λ_=>ω
 ·refine dY (λ_=>ω) λ_=> ?_
  refine iH (len:=8) (F:=λn i (s:aM×cV)=>fQ.l9 N n s.1 s.2 i) (λi s=>Dk (k+10+i) s.1∧vx (15+i) s.2) (λn i s hi hI hr=> ?_) (λn s hI=> ?_) 8 N 5 s ω ω ω ⟨Dk.mono hI.1 ω,G.mono ω hI.2⟩
  all_goals unfold fQ.l9 fQ.xK
  ·have hl:=hI.2.1
   dsimp only
   rw[ay (x:=(i:Int)+1) ω ω,ag i]
   exact dY (λ_=>af (iV N δ hI.1 (by unfold kA;omega)) λr ⟨_,hd⟩=>aC (by rw[aI];omega) (hr (_,_) ⟨Dk.mono hd ω,G.mono ω (G.cat hI.2 (G.one (m:=1) (sd bk (fU _) (Vo i ω) bJ bk bJ bJ bJ) ω))⟩)) λ_=>ω
  ·refine dY (λ_=>ω) λ_=> ?_
   refine iH (len:=8) (F:=λn i (s:aM×cV)=>fQ.nW N n s.1 s.2 i) (λi s=>Dk (k+18+2*i) s.1∧vx (23+2*i) s.2) (λn i s hi hI hr=> ?_) (λn s hI=> ?_) 8 N 1 s ω ω ω ⟨Dk.mono hI.1 ω,G.mono ω hI.2⟩
   all_goals unfold fQ.nW fQ.mR
   ·have hl:=hI.2.1
    have nc:=Vo i ω
    dsimp only
    rw[ay (x:=(i:Int)+1) ω ω,ag i]
    exact dY (λ_=>af (iV N δ hI.1 (by unfold kA;omega)) λr ⟨_,hd⟩=>af (iV N δ hd (by unfold kA;omega)) λr ⟨_,hd⟩=>aC (by rw[xU];omega) (hr (_,_) ⟨Dk.mono hd ω,G.mono ω (G.cat hI.2 (G.two (m:=2) (sd bk bJ nc bJ bJ bJ (fU _) bJ) (sd bk bJ nc bJ bJ bJ (fU _) bJ) ω))⟩)) λ_=>ω
   ·exact dY (λ_=>ω) λ_=>ak ⟨G.mono ω hI.2,Dk.mono hI.1 ω⟩
theorem KU{x:Nat}(h:x<1000000):W .i64 (((x+1:Nat):Int)-1)=(x:Int):=by rw[ay ω ω];omega
theorem Jh(N:Nat)(hN:1000≤N){k:Nat}{d:aM}(h:Dk k d){c:ae}(hc:Cf c){xg:Int}(hm:0≤xg∧xg≤100)(hk:k≤10000):Ok (λr=>vx 200 r.1∧Dk (k+3000) r.2) (pN N d c xg):=by
 have hn:=hc.n
 have hl:=hc.g.1.1
 unfold pN pN.b
 rw[ay (x:=xg+1) ω ω]
 refine af (QR N ω h c ω) λr ⟨y5,hd⟩=>af (iV N ⟨ω,ω⟩ hd (by unfold kA;omega)) λz ⟨hz,hd⟩=> ?_
 obtain⟨j,hj⟩: ∃j:Nat,z.1=(j:Int):=⟨z.1.toNat,ω⟩
 rw[hj]
 refine xR (F:=λn x (s:aM×cV)=>pN.l3 N n s.1 c s.2 x) (λx s=>x≤100∧Dk (k+100+25*(100-x)) s.1∧vx (40+(100-x)) s.2) (λn x s hI hr=> ?_) (λn s hI=> ?_) j N (z.2,r.1) ω ⟨ω,Dk.mono hd ω,G.mono ω y5⟩
 all_goals unfold pN.l3 pN.nT
 ·obtain⟨hx,hd,hG⟩:=hI
  have hs:=hG.1
  rw[KU ω]
  have put: ∀(e:gR) (d:aM) (q:Nat),G 0 kZ e→Dk q d→q≤k+100+25*(100-(x+1))+25→Ok (λr=>vx 200 r.1∧Dk (k+3000) r.2) (cond (small (s.2.length+[e].length)) (pN.l3 N n d c (s.2++[e]) (x:Int)) none):=λe d q he hd hq=>aC (by rw[aI];omega) (hr (_,_) ⟨ω,Dk.mono hd ω,G.mono ω (G.cat hG (G.one (m:=1) he ω))⟩)
  exact aw (λ_=>af (iV N δ hd (by unfold kA;omega)) λa ⟨_,hd⟩=>ok_eq (λ_=>af (Gh N hd hc ω) λr ⟨h1,h2⟩=>put _ _ _ h1 h2 ω) λ_=>ok_eq (λ_=>af (iV N ⟨ω,ω⟩ hd (by unfold kA;omega)) λb ⟨hb,hd⟩=>af (KT N hd c hb hl ω) λr ⟨h1,h2⟩=>put _ _ _ h1 h2 ω) λ_=>af (NS N hd c hn hl ω) λr ⟨h1,h2⟩=>put _ _ _ h1 h2 ω) λ_=>ω
 ·exact aw (λ_=>ω) λ_=>ak ⟨G.mono ω hI.2.2,Dk.mono hI.2.1 ω⟩
theorem tZ(N:Nat)(hN:1000≤N){k:Nat}{d:aM}(h:Dk k d){c:ae}(hc:Cf c)(hk:k≤100000):Ok (λr=>vx 3 r.1∧Dk (k+100) r.2) (nH N d c):=by
 have hn:=hc.n
 have hl:=hc.g.1.1
 unfold nH nH.b
 refine af (iV N δ h (by unfold kA;omega)) λz ⟨hz,hd⟩=> ?_
 obtain⟨j,hj⟩: ∃j:Nat,z.1=(j:Int):=⟨z.1.toNat,ω⟩
 rw[hj]
 refine xR (F:=λn x (s:aM×cV)=>nH.l3 N n s.1 c s.2 x) (λx s=>x≤3∧Dk (k+1+25*(3-x)) s.1∧vx (3-x) s.2) (λn x s hI hr=> ?_) (λn s hI=> ?_) j N (z.2,[]) ω ⟨ω,Dk.mono hd ω,G.nil⟩
 all_goals unfold nH.l3 nH.nT
 ·obtain⟨hx,hd,hG⟩:=hI
  have hs:=hG.1
  rw[KU ω]
  have put: ∀(e:gR) (d:aM) (q:Nat),G 0 kZ e→Dk q d→q≤k+1+25*(3-(x+1))+25→Ok (λr=>vx 3 r.1∧Dk (k+100) r.2) (cond (small (s.2.length+[e].length)) (nH.l3 N n d c (s.2++[e]) (x:Int)) none):=λe d q he hd hq=>aC (by rw[aI];omega) (hr (_,_) ⟨ω,Dk.mono hd ω,G.mono ω (G.cat hG (G.one (m:=1) he ω))⟩)
  exact aw (λ_=>af (pM N δ hd (by unfold kA;omega)) λa hd=>pj (λ_=>af (iV N ⟨ω,ω⟩ hd (by unfold kA;omega)) λb ⟨hb,hd⟩=>af (KT N hd c hb hl ω) λr ⟨h1,h2⟩=>put _ _ _ h1 h2 ω) λ_=>af (Gh N hd hc ω) λr ⟨h1,h2⟩=>put _ _ _ h1 h2 ω) λ_=>ω
 ·exact aw (λ_=>ω) λ_=>ak ⟨G.mono ω hI.2.2,Dk.mono hI.2.1 ω⟩
end VM
end
section
namespace VM
open Go VM.F
theorem e7{α:Type}{r:α}:Ok (λ_=>True) (some r):=ak trivial
theorem Um(N:Nat)(k:Int):Ok (λs=>ByteArray.size s≤100) (aaM N k):=by
 unfold aaM
 repeat' first|refine ok_eq (λ_=> ?_) (λ_=> ?_)|exact ak δ
theorem Un(N:Nat)(k f:Int):Ok (λ_=>True) (aaN N k f):=by
 unfold aaN ah3 ah4
 repeat' first|refine ok_eq (λ_=> ?_) (λ_=> ?_)|exact e7|refine af (Q:=λ_=>True) ?_ λ_ _=>e7
theorem Xt(N:Nat)(e:gR)(f:Int):Ok (λ_=>True) (aaO N e f):=by
 unfold aaO
 repeat' first|refine ok_eq (λ_=> ?_) (λ_=> ?_)|exact e7
theorem Xu(N:Nat)(e:gR)(f x:Int):Ok (λ_=>True) (aaP N e f x):=by
 unfold aaP
 repeat' first|refine ok_eq (λ_=> ?_) (λ_=> ?_)|exact e7
theorem Ji(N:Nat)(hN:1000≤N)(e:gR):Ok (λ_=>True) (rE N e):=by
 unfold rE rE.b ah5
 refine af (Q:=λ_=>True) (dY (λ_=>e7) λ_=>e7) λ_ _=>bw (λ_=>e7) λ_=>af (Um N _) λs hs=> ?_
 refine bc (len:=ByteArray.size s) (F:=λn i (x:gR)=>rE.l6 N n e s x i) (λ_ _=>True) trivial ω (λn i x hi _ hr=> ?_) (λn x _=> ?_)
 all_goals unfold rE.l6 rE.uN
 ·rw[ay (x:=(i:Int)+1) ω ω,ag i]
  exact aw (λ_=>aB ⟨ω,ω⟩ (af (Un N _ _) λ_ _=>aB ⟨ω,ω⟩ (af (Xt N _ _) λ_ _=>aw (λ_=>e7) λ_=>aw (λ_=>e7) λ_=>aB ⟨ω,ω⟩ (af (Xu N _ _ _) λy _=>hr y trivial)))) λ_=>ω
 ·exact aw (λ_=>ω) λ_=>e7
theorem G.ins{m:Nat}{e:Ty}{l:List e.den}{x:e.den}(h:G m (.slice e) l)(hx:G m e x)(a b c:Nat)(ha:c≤a):G (m+1) (.slice e) ((([]++List.drop b (List.take c l))++[x])++List.drop a (List.take l.length l)):=by
 have:=h.1
 refine⟨?_,λy hy=> ?_⟩
 ·simp only[cL,aS,dS,cf,aI];omega
 ·rw[cL,bu]at hy
  rcases ba.1 hy with hy|hy
  ·exact G.mono ω (h.2 y (lP (mX hy)))
  ·rcases ba.1 hy with hy|hy
   ·rw[bV.1 hy];exact G.mono ω hx
   ·exact G.mono ω (h.2 y (lP (mX hy)))
theorem KV{α:Type}{P:List α×Int→Prop}{l:List α}{x:α}{k:Nat}{e:Int}(hk:k≤l.length)(hl:l.length≤1000000)(h:P ((([]++List.drop (0:Int).toNat (List.take (k:Int).toNat l))++[x])++List.drop (k:Int).toNat (List.take (l.length:Int).toNat l),e)):
  Ok P (cond (ka 0 (k:Int) (l.length:Int) (l.length:Int)) (let v6:List α:=List.drop (0:Int).toNat (List.take (k:Int).toNat l);cond (small (([]:List α).length+v6.length)) (let v7:List α:=[]++v6;cond (small (v7.length+[x].length)) (let v8:List α:=v7++[x];cond (ka (k:Int) (l.length:Int) (l.length:Int) (l.length:Int)) (let v9:List α:=List.drop (k:Int).toNat (List.take (l.length:Int).toNat l);cond (small (v8.length+v9.length)) (some ((v8++v9),e)) none) none) none) none) none):=by
 dsimp only
 have t: ∀a b:Nat,(List.drop a (List.take b l)).length≤l.length:=λa b=>by rw[dS,cf];omega
 have t1:=t (0:Int).toNat (k:Int).toNat
 have t2:=t (k:Int).toNat (l.length:Int).toNat
 refine BX ⟨ω,ω,ω,ω⟩ (aC (by rw[bT];omega) (aC ?_ (BX ⟨ω,ω,ω,ω⟩ (aC ?_ (ak h)))))
 ·rw[cL,aI];omega
 ·rw[cL,aS,aI];omega
theorem Xv(N:Nat)(hN:200000≤N){a:aE}{m:Nat}(hm:m≤50000)(h:G m (.slice jD) a){id:Int}(bf:aD id):Ok (λr=>G (m+1) (.slice jD) r.1) (iu N a id):=by
 have hl:=h.1
 unfold iu iu.b
 refine bo (mF N ω hN) (bw (λ_=>ak G.nil) λ_=>aw (λ_=>ak G.nil) λ_=>aw (λ_=>ak G.nil) λ_=>bo (il N ω hN id) (bq (λ_=>ak G.nil) λ_=> ?_))
 have fin: ∀k:Nat,k≤a.length→Ok (λr=>G (m+1) (.slice jD) r.1) (iu.j9 N a id [] (k:Int)):=λk hk=>by
  unfold iu.j9 iu.Nl
  have hx:G m jD (id,((1:Int),())):=⟨bf,(show aD 1 from bk),trivial⟩
  exact KV hk ω (by simpa using G.ins h hx k 0 k (aG _))
 refine lZ (len:=a.length) (F:=λn i=>iu.l7 N n a id [] i) ω (λn i hi hr=> ?_) (λn=> ?_)
 all_goals unfold iu.l7 iu.rj
 ·rw[ay (x:=(i:Int)+1) ω ω,ag i]
  exact aw (λ_=>aB ⟨ω,ω⟩ (aw (λ_=>hr) λ_=>fin i ω)) λ_=>ω
 ·exact aw (λ_=>ω) λ_=>fin _ (aG _)
end VM
end
section
namespace VM
open Go VM.F
theorem G4q{m:Nat}{x:bM}{q:Int}(h:G m eA x)(hq:aD q):G m eA (x.1,(x.2.1,(x.2.2.1,(q,x.2.2.2.2)))):=⟨h.1,h.2.1,h.2.2.1,hq,trivial⟩
theorem G4b{m:Nat}{x:bM}{q:Int}(h:G m eA x)(hq:aD q):G m eA (x.1,(q,x.2.2)):=⟨h.1,hq,h.2.2⟩
theorem G2b{m:Nat}{x:ym}{q:Int}(h:G m jD x)(hq:aD q):G m jD (x.1,(q,x.2.2)):=⟨h.1,hq,trivial⟩
theorem KW(N:Nat)(hN:200000≤N){l:aL}(hl:l.length≤100000):Ok (λ_=>True) (eE N l):=nG (tS N hl hN) trivial
theorem aaQ(N:Nat)(hN:200000≤N){a:aE}{l:aL}{x:bM}{m:Nat}(hm:m≤50000)(ha:G m (.slice jD) a)(h:G m (.slice eA) l)(hx:G 0 eA x):Ok (λr=>G (m+1) (.slice eA) r.1) (ff N a l x):=by
 have h1:=ha.1
 have hl:=h.1
 have fin: ∀k:Nat,k≤l.length→Ok (λr=>G (m+1) (.slice eA) r.1) (ff.Bl N l x [] (k:Int)):=λk hk=>by
  unfold ff.Bl ff.vd
  exact KV hk ω (by simpa using G.ins h (G.mono (bp m) hx) k 0 k (aG _))
 have hj:Ok (λr=>G (m+1) (.slice eA) r.1) (ff.Jj N l x):=by
  unfold ff.Jj ff.BZ
  refine lZ (len:=l.length) (F:=λn i=>ff.nW N n l x [] i) ω (λn i hi hr=> ?_) (λn=> ?_)
  all_goals unfold ff.nW ff.mR
  ·rw[ay (x:=(i:Int)+1) ω ω,ag i]
   exact aw (λ_=>aB ⟨ω,ω⟩ (aw (λ_=>hr) λ_=>fin i ω)) λ_=>ω
  ·exact aw (λ_=>ω) λ_=>fin _ (aG _)
 unfold ff ff.b
 exact bo (w3 N ω ω hN) (bw (λ_=>ak G.nil) λ_=>af (KW N hN (by rw[aI];omega)) λ_ _=>bw (λ_=>ak G.nil) λ_=>bo (il N ω hN _) (ok_eq (λ_=>ak G.nil) λ_=>bq (λ_=>ak G.nil) λ_=>bo (rn N ω hN _) (pj (λ_=>ak G.nil) λ_=>ok_eq (λ_=>bo (qy N ω hN _) (bq (λ_=>ak G.nil) λ_=>hj)) λ_=>hj)))
theorem Xw(N:Nat)(hN:200000≤N){l:aL}{m:Nat}(hm:m≤50000)(h:G m (.slice eA) l){id q:Int}(hq:aD q):Ok (λr=>G m (.slice eA) r.1) (nI N l id q):=by
 have hl:=h.1
 unfold nI nI.b
 refine af (KW N hN ω) λ_ _=>bw (λ_=>ak G.nil) λ_=>aw (λ_=>ak G.nil) λ_=>aw (λ_=>ak G.nil) λ_=>bo (rn N ω hN _) (bw (λ_=>ak G.nil) λ_=>aC (by rw[bT];omega) ?_)
 rw[cL]
 refine bc (len:=l.length) (F:=λn i s=>nI.l8 N n id q s i) (λ_ s=>s.length=l.length∧G m (.slice eA) s) ⟨rfl,h⟩ ω (λn i s hi hI hr=> ?_) (λn s hI=> ?_)
 all_goals unfold nI.l8 nI.yn
 ·rw[ay (x:=(i:Int)+1) ω ω,ag i]
  have hs:=hI.1
  have hx:=G.at hI.2 (i:Int).toNat
  exact aw (λ_=>aB ⟨ω,ω⟩ (ok_eq (λ_=>aB ⟨ω,ω⟩ (hr _ ⟨by rw[bO];exact hs,G.set hI.2 (G4q hx hq) _⟩)) λ_=>hr s hI)) λ_=>ω
 ·have hs:=hI.1
  exact aw (λ_=>ω) λ_=>ak hI.2
theorem Xx(N:Nat)(a b:Int):Ok (λr=>aD r.1) (Uo N a b):=by
 have h: ∀(x:Int) (t:Bool),0≤x∧x<5→Ok (λr:Int×Bool=>aD r.1) (some (x,t)):=λx t hx=>ak (QQ hx δ)
 unfold Uo
 repeat' first|refine ok_eq (λ_=> ?_) (λ_=> ?_)|exact h _ _ δ
theorem KX(N:Nat)(hN:200000≤N){l:aE}{m:Nat}(hm:m≤50000)(h:G m (.slice jD) l)(id k:Int):Ok (λr=>G m (.slice jD) r.1) (lL N l id k):=by
 have hl:=h.1
 unfold lL lL.b
 refine bo (mF N ω hN) (bw (λ_=>ak G.nil) λ_=>bo (il N ω hN _) (ok_eq (λ_=>ak G.nil) λ_=>af (Xx N _ _) λz hz=>bw (λ_=>ak G.nil) λ_=>aC (by rw[bT];omega) ?_))
 rw[cL]
 refine bc (len:=l.length) (F:=λn i s=>lL.BY N n id z.1 s i) (λ_ s=>s.length=l.length∧G m (.slice jD) s) ⟨rfl,h⟩ ω (λn i s hi hI hr=> ?_) (λn s hI=> ?_)
 all_goals unfold lL.BY lL.zg
 ·rw[ay (x:=(i:Int)+1) ω ω,ag i]
  have hs:=hI.1
  have hx:=G.at hI.2 (i:Int).toNat
  exact aw (λ_=>aB ⟨ω,ω⟩ (ok_eq (λ_=>aB ⟨ω,ω⟩ (hr _ ⟨by rw[bO];exact hs,G.set hI.2 (G2b hx hz) _⟩)) λ_=>hr s hI)) λ_=>ω
 ·have hs:=hI.1
  exact aw (λ_=>ω) λ_=>ak hI.2
theorem QS(N:Nat)(hN:200000≤N){a:aE}{l:aL}{m:Nat}(hm:m≤50000)(ha:G m (.slice jD) a)(h:G m (.slice eA) l){id to:Int}(hto:aD to):Ok (λr=>G m (.slice eA) r.1) (nJ N a l id to):=by
 have h1:=ha.1
 have hl:=h.1
 unfold nJ nJ.b
 refine bo (w3 N ω ω hN) (bw (λ_=>ak G.nil) λ_=>bo (rn N ω hN _) (bo (il N ω hN _) (bw (λ_=>ak G.nil) λ_=>ok_eq (λ_=>ak G.nil) λ_=>bq (λ_=>ak G.nil) λ_=>bq (λ_=>ak G.nil) λ_=>aC (by rw[bT];omega) ?_)))
 rw[cL]
 refine bc (len:=l.length) (F:=λn i s=>nJ.nW N n id to s i) (λ_ s=>s.length=l.length∧G m (.slice eA) s) ⟨rfl,h⟩ ω (λn i s hi hI hr=> ?_) (λn s hI=> ?_)
 all_goals unfold nJ.nW nJ.mR
 ·rw[ay (x:=(i:Int)+1) ω ω,ag i]
  have hs:=hI.1
  have hx:=G.at hI.2 (i:Int).toNat
  exact aw (λ_=>aB ⟨ω,ω⟩ (ok_eq (λ_=>aB ⟨ω,ω⟩ (hr _ ⟨by rw[bO];exact hs,G.set hI.2 (G4b hx hto) _⟩)) λ_=>hr s hI)) λ_=>ω
 ·have hs:=hI.1
  exact aw (λ_=>ω) λ_=>ak hI.2
theorem NT(N:Nat)(hN:200000≤N){l:aL}{m:Nat}(hm:m≤50000)(h:G m (.slice eA) l)(id:Int):Ok (λr=>r.length≤m) (rF N l id):=by
 have hl:=h.1
 unfold rF rF.b
 refine af (KW N hN ω) λ_ _=>bw (λ_=>ak (bp _)) λ_=>bc (len:=l.length) (F:=λn i s=>rF.l5 N n l id s i) (λi s=>s.length≤i) (bp _) ω (λn i s hi hI hr=> ?_) (λn s hI=> ?_)
 all_goals unfold rF.l5 rF.eg
 ·rw[ay (x:=(i:Int)+1) ω ω,ag i]
  exact aw (λ_=>aB ⟨ω,ω⟩ (ok_eq (λ_=>aB ⟨ω,ω⟩ (aC (by rw[aI];omega) (hr _ (by rw[aS,aI];omega)))) λ_=>hr s ω)) λ_=>ω
 ·exact aw (λ_=>ω) λ_=>ak ω
abbrev L6(m:Nat)(l:bB):Prop:=G m (.slice mV) l
theorem Xy(N:Nat)(hN:200000≤N){l:bB}{a:List Int}{m:Nat}(hm:m≤50000)(h:L6 m l)(ha:a.length≤m):Ok (λr=>L6 m r) (fV N l a):=by
 have hl:=h.1
 unfold fV fV.b
 refine bo (ik N ω hN) (bw (λ_=>ak G.nil) λ_=>bc (len:=l.length) (F:=λn i s=>fV.l5 N n l a s i) (λi s=>L6 i s) G.nil ω (λn i s hi hI hr=> ?_) (λn s hI=> ?_))
 all_goals unfold fV.l5 fV.eg
 ·have hs:=hI.1
  refine aw (λ_=> ?_) λ_=>ω
  refine bc (len:=a.length) (F:=λn' j b=>fV.l9 N (fV.l5 N n) n' l a s (i:Int) b j) (λ_ _=>True) trivial ω (λn' j b hj _ eO=> ?_) (λn' b _=> ?_)
  all_goals unfold fV.l9 fV.xK
  ·rw[ay (x:=(j:Int)+1) ω ω,ag j]
   exact aw (λ_=>pj (λ_=>eO _ trivial) λ_=>aB ⟨ω,ω⟩ (aB ⟨ω,ω⟩ (eO _ trivial))) λ_=>ω
  ·rw[ay (x:=(i:Int)+1) ω ω,ag i]
   have hx:G 0 mV (l.getD (i:Int).toNat fm):=G.at h _
   exact aw (λ_=>ω) λ_=>bw (λ_=>aB ⟨ω,ω⟩ (aC (by rw[aI];omega) (hr _ (G.cat hI (G.one hx (aG 1)))))) λ_=>hr s (G.mono ω hI)
 ·exact aw (λ_=>ω) λ_=>ak (G.mono hl hI)
theorem NU(N:Nat)(hN:5000000≤N)(c:ae){b:an}{m:Nat}(hm:m≤50000)(hb:G m aK b)(id:Int):Ok (λr=>G m aK r.1) (KY N c b id):=by
 unfold KY
 exact bo (dH N hN hm hb) (bw (λ_=>ak G.iU) λ_=>af (oD N ω hm hb.1 _) λ_ _=>ok_eq (λ_=>ak G.iU) λ_=>af (NT N ω hm hb.2.1 _) λa ha=>af (Xy N ω hm hb.2.2.2.2.2.1 ha) λr hr=>ak ⟨hb.1,hb.2.1,hb.2.2.1,hb.2.2.2.1,hb.2.2.2.2.1,hr,trivial⟩)
theorem C5(N:Nat)(hN:200000≤N){l:aL}{m:Nat}(hm:m≤50000)(h:G m (.slice eA) l)(id:Int):Ok (λr=>G m (.slice eA) r) (pn N l id):=by
 have hl:=h.1
 unfold pn pn.b
 refine bo (tW N ω hN) (bw (λ_=>ak G.nil) λ_=>bc (len:=l.length) (F:=λn i s=>pn.l5 N n l id s i) (λi s=>G i (.slice eA) s) G.nil ω (λn i s hi hI hr=> ?_) (λn s hI=> ?_))
 all_goals unfold pn.l5 pn.eg
 ·have hs:=hI.1
  have hx:G 0 eA (l.getD (i:Int).toNat aV):=G.at h _
  rw[ay (x:=(i:Int)+1) ω ω,ag i]
  exact aw (λ_=>aB ⟨ω,ω⟩ (bq (λ_=>aB ⟨ω,ω⟩ (aC (by rw[aI];omega) (hr _ (G.cat hI (G.one hx (aG 1)))))) λ_=>hr s (G.mono ω hI))) λ_=>ω
 ·exact aw (λ_=>ω) λ_=>ak (G.mono hl hI)
theorem Up(N:Nat)(hN:200000≤N){l:bB}{m:Nat}(hm:m≤50000)(h:L6 m l)(a id:Int):Ok (λr=>L6 m r.1) (nK N l a id):=by
 have hl:=h.1
 unfold nK nK.b
 refine bo (ik N ω hN) (bw (λ_=>ak G.nil) λ_=>bc (len:=l.length) (F:=λn i s=>nK.l5 N n l a id s i) (λi s=>L6 i s) G.nil ω (λn i s hi hI hr=> ?_) (λn s hI=> ?_))
 all_goals unfold nK.l5 nK.eg
 ·have hs:=hI.1
  have hx:G 0 mV (l.getD (i:Int).toNat fm):=G.at h _
  rw[ay (x:=(i:Int)+1) ω ω,ag i]
  have h1:=hr s (G.mono ω hI)
  have h2:=hr _ (G.cat hI (G.one hx (aG 1)))
  repeat' first|exact h1|exact h2|refine aC (by rw[aI];omega) ?_|refine aB ⟨ω,ω⟩ ?_|refine aw (λ_=> ?_) (λ_=> ?_)|refine bq (λ_=> ?_) (λ_=> ?_)|(exfalso;omega)
 ·exact aw (λ_=>ω) λ_=>ok_eq (λ_=>ak G.nil) λ_=>ak (G.mono hl hI)
end VM
end
section
namespace VM
open Go VM.F
theorem G6q{m:Nat}{x:gA}{q:Int}(h:G m mV x)(hq:aD q):G m mV (x.1,(x.2.1,(x.2.2.1,(x.2.2.2.1,(q,x.2.2.2.2.2))))):=⟨h.1,h.2.1,h.2.2.1,h.2.2.2.1,hq,h.2.2.2.2.2⟩
theorem aaR(N:Nat)(hN:200000≤N){l:bB}{m:Nat}(hm:m≤50000)(h:L6 m l)(a d:Int):Ok (λr=>L6 m r) (dJ N l a d):=by
 have hl:=h.1
 unfold dJ dJ.b
 refine bo (ik N ω hN) (bw (λ_=>ak G.nil) λ_=>bc (len:=l.length) (F:=λn i s=>dJ.l5 N n l a d s i) (λi s=>L6 i s) G.nil ω (λn i s hi hI hr=> ?_) (λn s hI=> ?_))
 all_goals unfold dJ.l5 dJ.eg
 ·have hs:=hI.1
  have hx:G 0 mV (l.getD (i:Int).toNat fm):=G.at h _
  have fin: ∀k:Nat,k≤s.length→Ok (λr=>L6 m r) (dJ.Jj N (dJ.l5 N n) l a d s (i:Int) (k:Int)):=λk hk=>by
   unfold dJ.Jj dJ.BZ
   rw[ay (x:=(i:Int)+1) ω ω,ag i]
   dsimp only
   have t: ∀a b:Nat,(List.drop a (List.take b s)).length≤s.length:=λa b=>by rw[dS,cf];omega
   have t1:=t (0:Int).toNat (k:Int).toNat
   have t2:=t (k:Int).toNat (s.length:Int).toNat
   refine BX ⟨ω,ω,ω,ω⟩ (aC ω (aB ⟨ω,ω⟩ (aC (by rw[aI];omega) (BX ⟨ω,ω,ω,ω⟩ (aC (by rw[aS,aI];omega) (hr _ ?_))))))
   simpa using G.ins hI (G.mono (bp i) hx) k 0 k (aG _)
  have h1:=hr s (G.mono ω hI)
  have hw:Ok (λr=>L6 m r) (dJ.l9 N (dJ.l5 N n) N l a d s (i:Int) 0):=by
   refine lZ (len:=s.length) (F:=λn' j=>dJ.l9 N (dJ.l5 N n) n' l a d s (i:Int) j) ω (λn' j hj eO=> ?_) (λn'=> ?_)
   all_goals unfold dJ.l9 dJ.xK
   ·rw[ay (x:=(j:Int)+1) ω ω,ag j]
    have hah: ∀x y:gA,Ok (λ_=>True) (Uq N x y):=λx y=>by unfold Uq;exact bq (λ_=>e7) λ_=>e7
    exact aw (λ_=>aB ⟨ω,ω⟩ (aB ⟨ω,ω⟩ (af (hah _ _) λ_ _=>pj (λ_=>eO) λ_=>fin j ω))) λ_=>ω
   ·exact aw (λ_=>ω) λ_=>fin _ (aG _)
  rw[ay (x:=(i:Int)+1) ω ω,ag i]
  repeat' first|exact h1|exact hw|refine aB ⟨ω,ω⟩ ?_|refine aw (λ_=> ?_) (λ_=> ?_)|refine bq (λ_=> ?_) (λ_=> ?_)|(exfalso;omega)
 ·exact aw (λ_=>ω) λ_=>ak (G.mono hl hI)
theorem Xz(N:Nat)(hN:200000≤N){l:bB}{o:gA}{m:Nat}(hm:m≤50000)(h:L6 m l)(ho:G 0 mV o):Ok (λr=>L6 m r.1∧aD r.2.2.1) (ch N l o):=by
 have hl:=h.1
 have fin: ∀(s:bB) (q:Int) (t:bK),L6 m s→aD q→Ok (λr=>L6 m r.1∧aD r.2.2.1) (ch.j22 N s q t):=λs q t hs hq=>by
  have E4:=hs.1
  unfold ch.j22 ch.aaS
  refine bc (len:=s.length) (F:=λn i u=>ch.LF N n s q t u i) (λi u=>L6 i u) G.nil ω (λn i u hi hI hr=> ?_) (λn u hI=> ?_)
  all_goals unfold ch.LF ch.NV
  ·have hu:=hI.1
   have hx:G 0 mV (s.getD (i:Int).toNat fm):=G.at hs _
   rw[ay (x:=(i:Int)+1) ω ω,ag i]
   have h1:=hr u (G.mono ω hI)
   have h2:=hr _ (G.cat hI (G.one hx (aG 1)))
   repeat' first|exact h1|exact h2|refine aC (by rw[aI];omega) ?_|refine aB ⟨ω,ω⟩ ?_|refine aw (λ_=> ?_) (λ_=> ?_)|(exfalso;omega)
  ·exact aw (λ_=>ω) λ_=>ak ⟨G.mono E4 hI,hq⟩
 have dI:Ok (λr:bB×bK×Int×Int=>L6 m r.1∧aD r.2.2.1) (some ([],[],(0:Int),(1:Int))):=ak ⟨G.nil,bJ⟩
 unfold ch ch.b
 refine bo (ik N ω hN) (bw (λ_=>dI) λ_=>bo (Aw N o) (bw (λ_=>dI) λ_=>aC (by rw[bT];omega) (af (aaR N hN hm h _ _) λw hw=> ?_)))
 have hwl:=hw.1
 rw[cL]
 refine bc (len:=w.length) (F:=λn i (s:bB×Int×bK)=>ch.l7 N n o s.1 s.2.1 s.2.2 w i) (s:=(_,(_,_))) (λi s=>L6 m s.1∧aD s.2.1∧s.2.2.length≤i) ⟨h,ho.2.2.2.2.1,bp _⟩ ω (λn i s hi hI hr=> ?_) (λn s hI=> ?_)
 all_goals unfold ch.l7 ch.rj
 ·obtain⟨hs,hq,ht⟩:=hI
  have f1:=fin s.1 s.2.1 s.2.2 hs hq
  have ah6: ∀(v:Int) (t:ta),Ok (λr=>L6 m r.1∧aD r.2.2.1) (ch.Bl N (ch.l7 N n) o s.1 s.2.1 s.2.2 w (i:Int) v t):=λv t=>by
   unfold ch.Bl ch.vd
   refine aC (by rw[aI];omega) (bc (len:=s.1.length) (F:=λn' j u=>ch.Hh N (ch.l7 N n) n' o u (W .i64 (s.2.1-v)) (s.2.2++[t]) w (i:Int) v j) (λ_ u=>u.length=s.1.length∧L6 m u) ⟨rfl,hs⟩ (by have:=hs.1;omega) (λn' j u hj hJ eO=> ?_) (λn' u hJ=> ?_))
   all_goals unfold ch.Hh ch.DJ
   ·have E4:=hs.1
    have Hi:=hJ.1
    rw[ay (x:=(j:Int)+1) ω ω,ag j]
    exact aw (λ_=>aB ⟨ω,ω⟩ (aB ⟨ω,ω⟩ (ok_eq (λ_=>aB ⟨ω,ω⟩ (aB ⟨ω,ω⟩ (eO _ ⟨by rw[bO];exact Hi,G.set hJ.2 (G6q (G.at hJ.2 _) (fU _)) _⟩))) λ_=>eO u hJ))) λ_=>ω
   ·have Hi:=hJ.1
    rw[ay (x:=(i:Int)+1) ω ω,ag i]
    exact aw (λ_=>ω) λ_=>hr (_,(_,_)) ⟨hJ.2,fU _,by dsimp only;rw[List.length_append,List.length_singleton];omega⟩
  have DK:Ok (λr=>L6 m r.1∧aD r.2.2.1) (ch.HW N (ch.l7 N n) o s.1 s.2.1 s.2.2 w (i:Int)):=by
   unfold ch.HW ch.B0
   rw[ay (x:=(i:Int)+1) ω ω,ag i]
   dsimp only
   have h1:=hr s ⟨hs,hq,ω⟩
   repeat' first|exact h1|exact ah6 _ _|refine aB ⟨ω,ω⟩ ?_|refine ok_eq (λ_=> ?_) (λ_=> ?_)
  repeat' first|exact f1|exact DK|refine aB ⟨ω,ω⟩ ?_|refine aw (λ_=> ?_) (λ_=> ?_)|refine ok_eq (λ_=> ?_) (λ_=> ?_)|(exfalso;omega)
 ·exact aw (λ_=>ω) λ_=>fin _ _ _ hI.1 hI.2.1
theorem XA(N:Nat)(hN:5000000≤N){c:ae}{b:an}{o:gA}{m:Nat}(h2:200≤m)(hm:m≤40000)(hc:G m aA c)(hb:G m aK b)(ho:G 0 mV o):Ok (λr=>G (m+1) aK r.1) (jl N c b o):=by
 have Ir:=hb.2.2.2.2.2.1.1
 have dI: ∀(t:bK) (e:Int),Ok (λr:an×bK×Int×Int=>G (m+1) aK r.1) (some ((cn,(c9,(bH,(bH,(dB,(dR,())))))),(t,((0:Int),e)))):=λt e=>ak (G.zero (m+1) aK)
 have DK: ∀(r:bB) (t:bK) (q:Int),L6 m r→aD q→Ok (λr=>G (m+1) aK r.1) (jl.HW N c b o (cn,(c9,(bH,(bH,(dB,(dR,())))))) r t q):=λr t q hr hq=>by
  have Ig:=hr.1
  unfold jl.HW jl.B0
  have hx:G 0 mV (o.1,(o.2.1,(o.2.2.1,(o.2.2.2.1,(q,o.2.2.2.2.2))))):=G6q ho hq
  exact af (Je N hN c h2 ω hb) λz hz=>bq (λ_=>dI _ _) λ_=>by
   have Cv:G (m+1) aK z.1:=G.mono ω hz
   exact aw (λ_=>aC (by rw[aI];omega) (ak ⟨Cv.1,Cv.2.1,Cv.2.2.1,Cv.2.2.2.1,Cv.2.2.2.2.1,G.cat hr (G.one hx (aG 1)),trivial⟩)) λ_=>ak ⟨Cv.1,Cv.2.1,Cv.2.2.1,Cv.2.2.2.1,Cv.2.2.2.2.1,G.mono ω hr,trivial⟩
 have hj7:Ok (λr=>G (m+1) aK r.1) (jl.j7 N c b o (cn,(c9,(bH,(bH,(dB,(dR,()))))))):=by
  unfold jl.j7 jl.Vk
  exact af (Xz N ω ω hb.2.2.2.2.2.1 ho) λz hz=>aw (λ_=>ok_eq (λ_=>dI _ _) λ_=>DK _ _ _ hz.1 hz.2) λ_=>DK _ _ _ hz.1 hz.2
 unfold jl jl.b
 refine af (A3 N hN h2 hm hc hb (G.mono (bp m) ho)) λe _=>bq (λ_=>dI _ _) λ_=>aw (λh0=> ?_) λ_=>hj7
 dsimp only
 exact aB (by rw[ay ω ω];omega) (dY (λ_=>dI _ _) λ_=>hj7)
end VM
end
section
namespace VM
open Go VM.F
theorem ah7(N:Nat)(a:Int):Ok (λ_=>True) (KJ N a):=by
 unfold KJ
 exact ok_eq (λ_=>e7) λ_=>e7
theorem jV.one{k n:Int}{x:aH}{m:Nat}(h:Bg m x)(hm:m≤8):jV 1 [(k,(n,(x,())))]:=⟨aG 1,λy hy=>by rw[bV.1 hy];exact Bg.mono h hm⟩
theorem XB(N:Nat)(hN:4000000≤N){l:au}{m:Nat}(hm:m≤50000)(h:L3 m l)(i a b:Int):Ok (λr=>jV m r.1) (nL N l i a b):=by
 have hl:=h.1
 unfold nL nL.b
 have p64: ∀p:Int,decide (1≤p∧p≤1000000000000)=true→aD p:=λp h=>by have:=bz h;unfold aD;omega
 refine bo (kQ N ω ω) (bw (λ_=>ak jV.nil) λ_=>bo (iP N _) (bw (λ_=>ak jV.nil) λha=>bo (iP N _) (bw (λ_=>ak jV.nil) λhb=>af (br N hN (p64 _ hb)) λx hx=>af (br N hN (p64 _ ha)) λy hy=>af (xS N hN ω hx hy) λz hz=>bc (len:=l.length) (F:=λn j s=>nL.l6 N n l i s z j) (λj s=>jV j s) jV.nil ω (λn j s hj hI hr=> ?_) (λn s hI=> ?_))))
 all_goals unfold nL.l6 nL.uN
 ·have hs:=hI.1
  rw[ay (x:=(j:Int)+1) ω ω,ag j]
  have h1:=hr s (jV.mono hI ω)
  exact aw (λ_=>aB ⟨ω,ω⟩ (bq (λ_=>h1) λ_=>af (Ea N hz) λ_ _=>ok_eq (λ_=>h1) λ_=>aB ⟨ω,ω⟩ (af (ah7 N _) λ_ _=>aB ⟨ω,ω⟩ (af (br N hN (G.at h _).2.2.1) λv hv=>af (lK N hN ω ω hv hz) λu hu=>aC (by rw[aI];omega) (hr _ (jV.app hI (jV.one hu ω))))))) λ_=>ω
 ·exact aw (λ_=>ω) λ_=>ak (jV.mono hI ω)
theorem C6(N:Nat)(hN:5000000≤N)(c:ae){b:an}{m:Nat}(h2:200≤m)(hm:m≤50000)(hb:G m aK b)(i:Int){p:Int}(hp:aD p):Ok (λr=>G m aK r.1∧jV m r.2.1) (Ur N c b i p):=by
 have dI: ∀e:Int,Ok (λr:an×bE×Int=>G m aK r.1∧jV m r.2.1) (some ((cn,(c9,(bH,(bH,(dB,(dR,())))))),([],e))):=λe=>ak ⟨G.iU,jV.nil⟩
 have Hu:=hb.2.2.2.2.1.1
 unfold Ur
 refine bo (dH N hN hm hb) (bw (λ_=>dI _) λhB=>bo (iP N _) (bw (λ_=>dI _) λ_=>aw (λ_=>dI _) λh0=>dY (λ_=>dI _) λh1=> ?_))
 obtain⟨hpr,_⟩:=ir hB
 dsimp only
 rw[cL]
 exact aB ⟨h0,by rw[hpr];exact h1⟩ (af (XB N ω hm hb.2.2.2.1 _ _ _) λf hf=>af (sS N ω h2 hm hb G.nil (jV.mono hf hm)) λr hr=>bq (λ_=>dI _) λ_=>aC (by rw[bT];omega) (aB ⟨h0,by rw[hpr];exact h1⟩ (ak ⟨⟨hr.1,hr.2.1,hr.2.2.1,hr.2.2.2.1,G.set hb.2.2.2.2.1 hp _,hr.2.2.2.2.2⟩,hf⟩)))
abbrev L2(m:Nat)(l:aE):Prop:=G m (.slice jD) l
theorem G2{m:Nat}{a b:Int}(ha:aD a)(hb:aD b):G m jD (a,(b,())):=⟨ha,hb,trivial⟩
theorem B1(N:Nat)(hN:200000≤N){l:aE}(hl:l.length≤100000):Ok (λ_=>True) (qh N l):=by
 unfold qh qh.b
 refine lZ (len:=l.length) (F:=λn i=>qh.l2 N n l i) ω (λn i hi hr=> ?_) (λn=> ?_)
 all_goals unfold qh.l2 qh.gJ
 ·rw[ay (x:=(i:Int)+1) ω ω,ag i]
  dsimp only
  repeat' first|exact hr|exact e7|refine aB ⟨ω,ω⟩ ?_|refine aB (by rw[ay (x:=(i:Int)-1) ω ω];omega) ?_|refine aw (λ_=> ?_) (λ_=> ?_)|refine dY (λ_=> ?_) (λ_=> ?_)|refine ok_eq (λ_=> ?_) (λ_=> ?_)|(exfalso;omega)
 ·exact aw (λ_=>ω) λ_=>e7
theorem NW(N:Nat)(hN:4000000≤N){g:aE}{p:bE}{m:Nat}(h2:200≤m)(hm:m≤50000)(h:L2 m g)(hp:jV m p):Ok (λr=>L2 m r.1) (eQ N g p):=by
 have hl:=h.1
 have Hu:=hp.1
 unfold eQ eQ.b
 refine af (B1 N ω ω) λ_ _=>bw (λ_=>ak G.nil) λ_=>iH (len:=25) (F:=λn i s=>eQ.l5 N n g p s i) (λi s=>L2 i s) (λn i s hi hI hr=> ?_) (λn s hI=> ?_) 25 N 1 [] ω ω ω G.nil
 all_goals unfold eQ.l5 eQ.eg
 ·have hs:=hI.1
  refine dY (λ_=> ?_) λ_=>ω
  refine bc (len:=g.length) (F:=λn' j t=>eQ.l9 N (eQ.l5 N n) n' g p s (i:Int) t j) (λ_ t=>Bg 2 t) (KS ω) ω (λn' j t hj ht eO=> ?_) (λn' t ht=> ?_)
  all_goals unfold eQ.l9 eQ.xK
  ·rw[ay (x:=(j:Int)+1) ω ω,ag j]
   exact aw (λ_=>aB ⟨ω,ω⟩ (ok_eq (λ_=>aB ⟨ω,ω⟩ (af (br N hN (G.at h _).2.1) λr hr=>eO r hr)) λ_=>eO t ht)) λ_=>ω
  ·refine aw (λ_=>ω) λ_=> ?_
   refine bc (len:=p.length) (F:=λEb j t=>eQ.I5 N (eQ.l5 N n) Eb g p s (i:Int) t j) (λj t=>Bg (8+j) t) (Bg.mono ht ω) ω (λEb j t hj ht eO=> ?_) (λEb t ht=> ?_)
   all_goals unfold eQ.I5 eQ.F6
   ·rw[ay (x:=(j:Int)+1) ω ω,ag j]
    have h1:=eO t (Bg.mono ht ω)
    exact aw (λ_=>aB ⟨ω,ω⟩ (ok_eq (λ_=>aB ⟨ω,ω⟩ (ok_eq (λ_=>aB ⟨ω,ω⟩ (af (kT N hN ω ht (Bg.mono (hp.at _) ω)) λr hr=>eO r (Bg.mono hr ω))) λ_=>h1)) λ_=>h1)) λ_=>ω
   ·rw[ay (x:=(i:Int)+1) ω ω,ag i]
    exact aw (λ_=>ω) λ_=>af (xf N ht) λv hv=>bw (λ_=>ak G.nil) λ_=>bq (λ_=>aC (by rw[aI];omega) (hr _ (G.cat hI (G.one (m:=1) (G2 (iT ω ω) hv) (aG 1))))) λ_=>hr s (G.mono ω hI)
 ·exact dY (λ_=>ω) λ_=>ak (G.mono ω hI)
theorem sT(N:Nat)(hN:4000000≤N)(a b c d:Int){x:aH}(h:Bg 8 x):Ok (λr=>jV 2 r) (yr N a b c d x):=by
 unfold yr
 exact af (qA N hN ω h) λy hy=>ak ⟨aG 2,λz hz=>by
  rcases aX.1 hz with rfl|hz
  ·exact hy
  ·rw[bV.1 hz];exact h⟩
theorem NX(N:Nat)(hN:5000000≤N){c:ae}{b:an}{m:Nat}(h2:200≤m)(hm:m≤40000)(hc:G m aA c)(hb:G m aK b)(a:Int){q:Int}(hq:aD q):Ok (λr=>G m aK r.1) (Us N c b a q):=by
 unfold Us
 exact bo (dH N hN ω hb) (bw (λ_=>ak G.iU) λ_=>aw (λ_=>ak G.iU) λ_=>af (xT N ω ω hb.2.1 _) λ_ _=>bw (λ_=>ak G.iU) λ_=>af (oD N ω ω hb.1 _) λ_ _=>bq (λ_=>ak G.iU) λ_=>af (mw N ω ω hb.2.2.1 _ _) λg hg=>af (br N ω hg) λx hx=>af (br N ω hq) λy hy=>af (xS N ω ω hx hy) λz hz=>af (Gf N ω h2 hm hc hb (bp _) _) λw hw=>af (pK N ω ω ω hz hw) λ_ _=>aw (λ_=>ak G.iU) λ_=>af (br N ω hq) λy hy=>af (sT N ω _ _ _ _ (Bg.mono hy ω)) λp hp=>af (sS N ω h2 ω hb G.nil (jV.mono hp ω)) λr hr=>ak hr)
theorem QT(N:Nat)(hN:1000≤N){c:ae}(hc:G 5 aA c):Ok (λr=>G 5 aK r.1) (iv N c):=by
 have hl:=hc.1.1
 unfold iv iv.b
 have hj: ∀b:an,G 5 aK b→Ok (λr=>G 5 aK r.1) (iv.j6 N c (cn,(c9,(bH,(bH,(dB,(dR,())))))) b []):=λb hb=>by
  unfold iv.j6 iv.TN
  obtain⟨b1,b2,b3,b4,b5,b6⟩:=b
  refine bc (len:=c.1.length) (F:=λn i (z:an×List Int)=>iv.l7 N n c (cn,(c9,(bH,(bH,(dB,(dR,())))))) z.1 z.2 i) (s:=((b1,(b2,(b3,(b4,(b5,b6))))),_)) (λi z=>G 5 aK z.1∧G i (.slice (.int .i64)) z.2) ⟨hb,G.nil⟩ ω (λn i z hi hI hr=> ?_) (λn z hI=> ?_)
  all_goals unfold iv.l7 iv.rj
  ·have hz:=hI.2.1
   rw[ay (x:=(i:Int)+1) ω ω,ag i]
   have hx:G 0 (.int .i64) (c.1.getD (i:Int).toNat aV).2.1:=(G.at hc.1 _).2.1
   exact aw (λ_=>aB ⟨ω,ω⟩ (aC (by rw[aI];omega) (hr (_,_) ⟨⟨hI.1.1,hI.1.2.1,hI.1.2.2.1,hI.1.2.2.2.1,G.nil,hI.1.2.2.2.2.2⟩,G.cat hI.2 (G.one hx (aG 1))⟩))) λ_=>ω
  ·exact aw (λ_=>ω) λ_=>ak ⟨hI.1.1,hI.1.2.1,hI.1.2.2.1,hI.1.2.2.2.1,G.mono hl hI.2,hI.1.2.2.2.2.2⟩
 have yS:L3 5 [((1:Int),((0:Int),(W .i64 (0-c.2.1),()))),((3:Int),((0:Int),(c.2.1,())))]:=G.two (G3 (show aD 1 from bk) bJ (fU _)) (G3 (show aD 3 from bk) bJ hc.2.1) δ
 exact bo (nn N ω c) (bw (λ_=>ak G.iU) λ_=>bq (λ_=>hj _ ⟨G.nil,G.nil,yS,G.nil,G.nil,G.nil,trivial⟩) λ_=>hj _ G.iU)
end VM
end
section
namespace VM
open Go VM.F
theorem B2(N:Nat)(hN:4000000≤N){c:ae}{l:aE}{m:Nat}(hm:m≤50000)(hc:G m aA c)(hl:L2 m l)(f:Bool):Ok (λr=>Bg 60000 r.1) (lI N c l f):=by
 have h1:=hl.1
 unfold lI lI.b
 refine bo (w6 N ω c ω) (bw (λ_=>ak (KS ω)) λhk=>bc (len:=l.length) (F:=λn i t=>lI.l5 N n l f c (false,(([]:List Int),())) t i) (λi t=>Bg (8+i) t) (KS ω) ω (λn i t hi ht hr=> ?_) (λn t ht=> ?_))
 all_goals unfold lI.l5 lI.eg
 ·rw[ay (x:=(i:Int)+1) ω ω,ag i,aJ]
  unfold kq at hk
  have hp:=bz (cK.1 hk).1 i hi
  unfold mG nu at hp
  have in1: ∀{x y:Option (aH×Int)},Ok (λr=>Bg 60000 r.1) x→Ok (λr=>Bg 60000 r.1) (cond (bb (l.getD i cA).1 c.1.length) x y):=λh=>aB ⟨hp.1,hp.2.1⟩ h
  have hw: ∀q:Int,aD q→Ok (λr=>Bg 60000 r.1) ((iG N (l.getD i cA).2.1).bind λr3=>(Vj N r3).bind λr4=>(iG N q).bind λr5=>(jL N r4 r5).bind λr6=>(xJ N t r6).bind λr7=>lI.l5 N n l f c (false,(([]:List Int),())) r7 ((i+1:Nat):Int)):=λq hq=>
   af (br N hN (G.at hl i).2.1) λx hx=>af (A2 N hN ω hx) λx hx=>af (br N hN hq) λy hy=>af (lK N hN ω ω hx hy) λz hz=>af (kT N hN ω ht (Bg.mono hz ω)) λu hu=>hr u (Bg.mono hu ω)
  exact aw (λ_=>aB ⟨ω,ω⟩ (in1 (pj (λ_=>aB ⟨ω,ω⟩ (in1 (aB ⟨ω,ω⟩ (hw _ (G.at hc.1 _).2.2.2.1)))) λ_=>aB ⟨ω,ω⟩ (hw _ (G.at hc.1 _).2.2.1)))) λ_=>ω
 ·exact aw (λ_=>ω) λ_=>ak (Bg.mono ht ω)
theorem qB(N:Nat)(hN:200000≤N){b:an}{m:Nat}(hm:m≤50000)(hb:G m aK b)(id:Int):Ok (λ_=>True) (HX N b id):=by
 unfold HX
 exact af (oD N hN hm hb.1 _) λ_ _=>e7
theorem ua(N:Nat)(hN:200000≤N){b:an}{m:Nat}(hm:m≤50000)(hb:G m aK b)(id:Int):Ok aD (HQ N b id):=by
 unfold HQ
 exact af (mw N hN hm hb.2.2.1 _ _) λr hr=>ak hr
theorem XC(N:Nat)(hN:5000000≤N){c:ae}{b:an}{m:Nat}(hm:m≤40000)(hc:G m aA c)(hb:G m aK b)(f to a:Int):Ok (λ_=>True) (aaT N c b f to a):=by
 unfold aaT ah8
 have mb:=λid=>qB N ω ω hb id
 exact bo (dH N hN ω hb) (bw (λ_=>e7) λ_=>af (xT N ω ω hb.2.1 _) λ_ _=>bw (λ_=>e7) λ_=>af (mb _) λ_ _=>ok_eq (λ_=>e7) λ_=>af (mb _) λ_ _=>ok_eq (λ_=>e7) λ_=>bq (λ_=>e7) λ_=>bq (λ_=>e7) λ_=>af (mb _) λ_ _=>bq (λ_=>e7) λ_=>af (NQ N ω ω hb.2.2.2.1 _) λl hl=>af (Q:=λr=>Bg 60000 r.1) (af (B2 N ω ω hc hl _) λr hr=>ak hr) λu hu=>af (ua N ω ω hb _) λg hg=>af (br N ω hg) λx hx=>af (pK N ω ω ω hx hu) λ_ _=>aw (λ_=>e7) λ_=>e7)
theorem aaU(N:Nat)(hN:5000000≤N){c:ae}{b:an}{m:Nat}(hm:m≤40000)(hc:G m aA c)(hb:G m aK b)(f:Int){to:Int}(hto:aD to)(a:Int):Ok (λr=>G m aK r.1) (Ut N c b f to a):=by
 unfold Ut
 exact af (XC N hN hm hc hb _ _ _) λ_ _=>bq (λ_=>ak G.iU) λ_=>af (QS N ω ω hb.1 hb.2.1 hto) λr hr=>bq (λ_=>ak G.iU) λ_=>ak ⟨hb.1,hr,hb.2.2⟩
theorem Uu(N:Nat)(hN:4000000≤N){x:aH}{q:Int}(hx:Bg 60000 x)(hq:aD q):Ok (λr=>0≤r∧r≤3) (rG N x q):=by
 unfold rG rG.b
 refine af (Ea N hx) λ_ _=>dY (λ_=>ak δ) λ_=>aw (λ_=>ak δ) λ_=>iH (len:=3) (F:=λn i (_:Unit)=>rG.l4 N n q x i) (λ_ _=>True) (λn i _ hi _ hr=> ?_) (λn _ _=> ?_) 3 N 1 () ω ω ω trivial
 all_goals unfold rG.l4 rG.eK
 ·rw[ay (x:=(i:Int)+1) ω ω,ag i]
  exact aw (λ_=>af (br N hN (iT ω ω)) λa ha=>af (br N hN hq) λb hb=>af (lK N hN ω ω ha hb) λy hy=>af (pK N hN ω ω hy hx) λ_ _=>aw (λ_=>hr () trivial) λ_=>ak ω) λ_=>ω
 ·exact aw (λ_=>ω) λ_=>ak ω
theorem Sz(N:Nat)(hN:5000000≤N)(c:ae){b:an}{m:Nat}(hm:m≤50000)(hb:G m aK b):Ok (λr=>G m (.slice (.int .i64)) r.1) (rH N c b):=by
 have hl:=hb.1.1
 unfold rH rH.b
 refine bo (dH N hN hm hb) (bw (λ_=>ak G.nil) λ_=>bc (len:=b.1.length) (F:=λn i s=>rH.l5 N n b s i) (λi s=>G i (.slice (.int .i64)) s) G.nil ω (λn i s hi hI hr=> ?_) (λn s hI=> ?_))
 all_goals unfold rH.l5 rH.eg
 ·have hs:=hI.1
  rw[ay (x:=(i:Int)+1) ω ω,ag i]
  have h1:=hr s (G.mono ω hI)
  have hx:G 0 (.int .i64) (b.1.getD (i:Int).toNat cA).1:=(G.at hb.1 _).1
  exact aw (λ_=>aB ⟨ω,ω⟩ (ok_eq (λ_=>aB ⟨ω,ω⟩ (af (mw N ω hm hb.2.2.1 _ _) λ_ _=>aw (λ_=>aB ⟨ω,ω⟩ (aC (by rw[aI];omega) (hr _ (G.cat hI (G.one hx (aG 1)))))) λ_=>h1)) λ_=>h1)) λ_=>ω
 ·exact aw (λ_=>ω) λ_=>ak (G.mono hl hI)
abbrev LL(m:Nat)(l:bA):Prop:=G m (.slice jm) l
theorem Gi(N:Nat)(hN:200000≤N){l:bA}{m:Nat}(hm:m≤50000)(h:LL m l)(id:Int):Ok (λr=>G m jm r.1) (qk N l id):=by
 have hl:=h.1
 unfold qk qk.b
 refine lZ (len:=l.length) (F:=λn i=>qk.l2 N n l id ((0:Int),(cn,aV)) i) ω (λn i hi hr=> ?_) (λn=> ?_)
 all_goals unfold qk.l2 qk.gJ
 ·rw[ay (x:=(i:Int)+1) ω ω,ag i]
  exact aw (λ_=>aB ⟨ω,ω⟩ (ok_eq (λ_=>aB ⟨ω,ω⟩ (ak (G.at h _))) λ_=>hr)) λ_=>ω
 ·exact aw (λ_=>ω) λ_=>ak (G.zero m jm)
theorem Uv(N:Nat)(hN:4000000≤N){a b:aE}{m:Nat}(h6:6≤m)(hm:m≤40000)(ha:L2 m a)(hb:L2 m b):Ok (λr=>L2 m r.1) (eR N a b):=by
 have hal:=ha.1
 have wv:=hb.1
 unfold eR eR.b
 refine bc (len:=6) (F:=λn i s=>eR.l3 N n a b s i) (λi s=>L2 i s) G.nil ω (λn i s hi hI hr=> ?_) (λn s hI=> ?_)
 all_goals unfold eR.l3 eR.nT
 ·have hs:=hI.1
  refine aw (λ_=> ?_) λ_=>ω
  refine bc (len:=a.length) (F:=λn' j t=>eR.l7 N (eR.l3 N n) n' a b s (i:Int) t j) (λj t=>Bg (3+j) t) (KS ω) ω (λn' j t hj ht eO=> ?_) (λn' t ht=> ?_)
  all_goals unfold eR.l7 eR.rj
  ·rw[ay (x:=(j:Int)+1) ω ω,ag j]
   exact aw (λ_=>aB ⟨ω,ω⟩ (ok_eq (λ_=>aB ⟨ω,ω⟩ (af (br N hN (G.at ha _).2.1) λr hr=>af (kT N hN ω ht (Bg.mono hr ω)) λu hu=>eO u (Bg.mono hu ω))) λ_=>eO t (Bg.mono ht ω))) λ_=>ω
  ·refine aw (λ_=>ω) λ_=> ?_
   refine bc (len:=b.length) (F:=λEb j t=>eR.mU N (eR.l3 N n) Eb a b s (i:Int) t j) (λj t=>Bg (3+a.length+j) t) ht ω (λEb j t hj ht eO=> ?_) (λEb t ht=> ?_)
   all_goals unfold eR.mU eR.ns
   ·rw[ay (x:=(j:Int)+1) ω ω,ag j]
    exact aw (λ_=>aB ⟨ω,ω⟩ (ok_eq (λ_=>aB ⟨ω,ω⟩ (af (br N hN (G.at hb _).2.1) λr hr=>af (kT N hN ω ht (Bg.mono hr ω)) λu hu=>eO u (Bg.mono hu ω))) λ_=>eO t (Bg.mono ht ω))) λ_=>ω
   ·rw[ay (x:=(i:Int)+1) ω ω,ag i]
    exact aw (λ_=>ω) λ_=>af (C3 N ht) λv hv=>bw (λ_=>ak G.nil) λ_=>bq (λ_=>aC (by rw[aI];omega) (hr _ (G.cat hI (G.one (m:=1) (G2 (iT ω ω) hv) (aG 1))))) λ_=>hr s (G.mono ω hI)
 ·exact aw (λ_=>ω) λ_=>ak (G.mono h6 hI)
theorem NY(N:Nat)(hN:5000000≤N){c:ae}{b:an}{QU:bA}{l:aL}{x:bM}{m:Nat}(h6:6≤m)(hm:m≤40000)(hc:G m aA c)(hb:G m aK b)(hL:LL m QU)(hl:G m (.slice eA) l)(hx:G 0 eA x):Ok (λ_=>True) (kU N c b QU l x):=by
 have He:=hl.1
 have hLl:=hL.1
 have hal:=hb.2.1.1
 have Ir:=hb.2.2.2.2.2.1.1
 have hw:IW QU:=λy hy=>cq (hL.2 y hy).2.1.1 ω
 unfold kU kU.b
 have hj:Ok (λ_=>True) (kU.j3 N QU l c b x):=by
  unfold kU.j3 kU.j3b
  refine af (qB N ω ω hb _) λ_ _=>ok_eq (λ_=>e7) λ_=>bq (λ_=>e7) λ_=>af (Gi N ω ω hL _) λz hz=>bo (qy N ω ω _) (bw (λ_=>e7) λ_=>bq (λ_=>e7) λ_=>ok_eq (λ_=>e7) λ_=>lZ (len:=l.length) (F:=λn i=>kU.nW N n l c b x z.1 (nr b.2.1 x.2.2.1) i) ω (λn i hi hr=> ?_) (λn=> ?_))
  all_goals unfold kU.nW kU.mR
  ·rw[ay (x:=(i:Int)+1) ω ω,ag i]
   exact aw (λ_=>aB ⟨ω,ω⟩ (ok_eq (λ_=>aB ⟨ω,ω⟩ (ok_eq (λ_=>e7) λ_=>hr)) λ_=>hr)) λ_=>ω
  ·refine aw (λ_=>ω) λ_=>ok_eq (λ_=>e7) λ_=>af (br N ω hx.2.2.2.1) λp hp=>af (br N ω (show aD 4 from bk)) λq hq=>af (br N ω hz.2.2.1) λr hr=>af (lK N ω ω ω hq hr) λu hu=>af (pK N ω ω ω hp hu) λ_ _=>aw (λ_=>e7) λ_=>af (NQ N ω ω hb.2.2.2.1 _) λa ha=>af (Uv N ω h6 ω ha hz.2.1) λj hj=>bw (λ_=>e7) λ_=> ?_
   unfold ah9
   exact af (Q:=λr=>L3 6 r) (bo (ik N ω ω) (bw (λ_=>ak G.nil) λ_=>af (Ge N ω ω _) λr hr=>ak hr)) λo ho=>af (NP N ω ω hc hj (G.mono h6 ho)) λw hw=>af (ua N ω ω hb _) λg hg=>af (br N ω hg) λv hv=>af (br N ω hx.2.2.2.1) λp hp=>af (xS N ω ω hv hp) λd hd=>af (pK N ω ω ω hd hw) λ_ _=>aw (λ_=>e7) λ_=>e7
 refine bo (dH N hN ω hb) (bw (λ_=>e7) λ_=>bo (AL N ω c ω hw) (bw (λ_=>e7) λ_=>bo (tW N ω ω) (bw (λ_=>e7) λ_=>bo (Se N _) (bw (λ_=>e7) λ_=>aw (λ_=> ?_) λ_=>hj))))
 dsimp only
 exact aB (by rw[ay ω ω];omega) (dY (λ_=>e7) λ_=>hj)
theorem Jk(N:Nat)(hN:5000000≤N){c:ae}{b:an}{QU:bA}{l:aL}{x:bM}{m:Nat}(h6:6≤m)(hm:m≤40000)(hc:G m aA c)(hb:G m aK b)(hL:LL m QU)(hl:G m (.slice eA) l)(hx:G 0 eA x):Ok (λr=>G (m+1) (.slice eA) r.1) (aaV N c b QU l x):=by
 have He:=hl.1
 unfold aaV
 refine af (NY N hN h6 hm hc hb hL hl hx) λ_ _=>bq (λ_=>ak G.nil) λ_=>aC (by rw[bT];omega) ?_
 dsimp only
 rw[cL]
 exact aC (by rw[aI];omega) (ak (G.cat hl (G.one hx (aG 1))))
end VM
end
section
namespace VM
open Go VM.F
theorem af8{l:List Int}(h:Pos l)(hs:l.sum<9223372036854775808):I1 l:=λx hx=>by
 have h3:=h x hx
 obtain⟨i,hi,rfl⟩:=qF.1 hx
 have h4:=ze h i
 rw[aU,bl hi]at h4
 simp only[m1]at h4
 omega
theorem XD(k:Nat):(List.replicate k (1:Int)).sum=k:=by
 induction k with
 |zero=>rfl
 |succ k ih=>rw[zA,cz,ih];omega
theorem XE(k:Nat):Pos (List.replicate k 1):=λx hx=>by rw[zv hx];omega
theorem XF{t:Int}{k:Nat}(h0:0≤t)(h1:t<9223372036854775808)(hk:1≤k)(hk1:k≤3):(I6 t k).1.length=k∧I1 (I6 t k).1:=by
 have hS:0<(List.replicate k (1:Int)).sum:=by rw[XD];omega
 have ee:I6 t k=(bR t (List.replicate k 1),0):=by
  unfold I6
  rw[ah ω,aJ]
  unfold rz
  have hm:may (List.replicate k 1)=true:=oR.2 ⟨by rw[cU];omega,XE k⟩
  rw[ah (by rw[hm];simp;omega),XD,ah ω,ah ω]
 rw[ee]
 exact⟨by dsimp only;rw[oC,List.length_replicate],af8 (u6 h0 hS (XE k)) (by rw[u5 h0 hS];omega)⟩
def LQ(y:ym):Prop:=aD y.1∧aD y.2.1∧p8 y.2.1
theorem af9{l:aE}(h: ∀y∈l,LQ y)(i:Nat):LQ (l.getD i cA):=by
 by_cases hk:i<l.length
 ·rw[aU,bl hk];exact h _ (dA hk)
 ·rw[aU,gI ω];exact⟨bJ,bJ,by unfold p8;decide⟩
theorem Uw{c:ae}{b:an}{m:Nat}(hb:G m aK b)(hB:dx c b=true)(a:Int): ∀y∈posOf b.2.2.2.1 a,LQ y∧(0≤(y.1:Int)∧(y.1:Int)<(c.1.length:Int)):=λy hy=>by
 have hk:cQ b.2.2.2.1=true:=by
  by_cases h:cQ b.2.2.2.1=true
  ·exact h
  ·unfold posOf at hy;rw[ah h]at hy;nomatch hy
 unfold posOf at hy
 rw[aj hk]at hy
 obtain⟨x,hx,_,e⟩:=iq hy
 have hg:=hb.2.2.2.1.2 x hx
 have hq:=((dC hk).2 x hx).2
 have hp:=KQ hB x hx
 rw[e]
 exact⟨⟨hg.2.1,hg.2.2.1,hq⟩,hp⟩
theorem SA(N:Nat)(hN:5000000≤N){c:ae}{b:an}{m:Nat}(h2:200≤m)(hm:m≤40000)(hc:G m aA c)(hb:G m aK b){next:Int}(hn:aD next):Ok (λr=>LL m r.1∧r.1.length≤12) (bS N c b next):=by
 unfold bS bS.b
 refine bo (dH N hN ω hb) (bw (λ_=>ak ⟨G.nil,bp _⟩) λhB=>aw (λ_=>ak ⟨G.nil,bp _⟩) λ_=>aw (λ_=>ak ⟨G.nil,bp _⟩) λ_=>bo (QD N (G.wf ω hb).w.s ω 0) (ok_eq (λ_=>ak ⟨G.nil,bp _⟩) λ_=> ?_))
 have lz:=Uw hb hB 0
 have hal:=(amS hb.2.2.2.1 0).1
 generalize posOf b.2.2.2.1 0=all at*
 refine bc (len:=4) (F:=λn k (s:Int×bA)=>bS.l8 N n s.1 c all s.2 k) (s:=(_,_)) (λk s=>aD s.1∧s.2.length≤3*k∧ ∀x∈s.2,G m jm x) ⟨hn,bp _,λx hx=>nomatch hx⟩ ω (λn k s hk hI hr=> ?_) (λn s hI=> ?_)
 all_goals unfold bS.l8 bS.yn
 ·refine aw (λ_=> ?_) λ_=>ω
  refine bc (len:=all.length) (F:=λn' i (z:aE×aH)=>bS.nW N (bS.l8 N n) n' s.1 c all s.2 (k:Int) z.1 z.2 i) (s:=(_,_)) (λi z=>z.1.length≤i∧(∀y∈z.1,LQ y)∧Bg (8+i) z.2) ⟨bp _,(λy hy=>nomatch hy),KS ω⟩ ω (λn' i z hi hz eO=> ?_) (λn' z hz=> ?_)
  all_goals unfold bS.nW bS.mR
  ·obtain⟨Cv,Hg,hz3⟩:=hz
   have hx:all.getD i cA∈all:=by rw[aU,bl hi];exact dA hi
   have hy:=lz _ hx
   rw[ay (x:=(i:Int)+1) ω ω,ag i,aJ]
   exact aw (λ_=>aB ⟨ω,ω⟩ (aB hy.2 (ok_eq (λ_=>aB ⟨ω,ω⟩ (aC (by rw[List.length_singleton];omega) (aB ⟨ω,ω⟩ (af (br N ω hy.1.2.1) λu hu=>af (A2 N ω ω hu) λu hu=>af (kT N ω ω hz3 (Bg.mono hu ω)) λv hv=>eO (_,_) ⟨by dsimp only;rw[List.length_append,List.length_singleton];omega,λy h=>(List.mem_append.1 h).elim (Hg y) (λh=>by rw[List.mem_singleton.1 h];exact hy.1),Bg.mono hv ω⟩)))) λ_=>eO z ⟨ω,Hg,Bg.mono hz3 ω⟩))) λ_=>ω
  ·obtain⟨Cv,Hg,hz3⟩:=hz
   refine aw (λ_=>ω) λ_=>af (Uu N ω (Bg.mono hz3 ω) hc.2.2.2.2.2.1) λw hw=> ?_
   obtain⟨p,hp⟩: ∃p:Nat,w=(p:Int):=⟨w.toNat,ω⟩
   subst hp
   refine bc (len:=p) (F:=λEb j (t:Int×bA)=>bS.HY N (bS.l8 N n) Eb t.1 c all t.2 (k:Int) z.1 (p:Int) j) (s:=s) (λj t=>aD t.1∧t.2.length≤3*k+j∧ ∀x∈t.2,G m jm x) hI ω (λEb j t hj ht Xm=> ?_) (λEb t ht=> ?_)
   all_goals unfold bS.HY bS.NZ
   ·obtain⟨vO,Vd,Zv⟩:=ht
    refine aw (λ_=> ?_) λ_=>ω
    refine bc (len:=z.1.length) (F:=λn3 i u=>bS.LF N (bS.l8 N n) (bS.HY N (bS.l8 N n) Eb) n3 t.1 c all t.2 (k:Int) z.1 (p:Int) (j:Int) (t.1,(cn,((0:Int),((1:Int),cA)))) u i) (λi u=>L2 i u) G.nil ω (λn3 i u hi hu SC=> ?_) (λn3 u hu=> ?_)
    all_goals unfold bS.LF bS.NV
    ·have Hi:=hu.1
     have hq:=af9 Hg i
     have nS:=hq
     unfold LQ aD p8 at nS
     have amV: ∀q:Int,0≤q→q<9223372036854775808→Ok (λr=>LL m r.1∧r.1.length≤12) (bS.Ux N (bS.l8 N n) (bS.HY N (bS.l8 N n) Eb) (bS.LF N (bS.l8 N n) (bS.HY N (bS.l8 N n) Eb) n3) t.1 c all t.2 (k:Int) z.1 (p:Int) (j:Int) (t.1,(cn,((0:Int),((1:Int),cA)))) u (i:Int) q):=λq h0 h1=>by
      unfold bS.Ux bS.N0
      obtain⟨e1,e2⟩:=XF (k:=p) h0 h1 ω ω
      have amW: ∀v:List Int,v.length=p→I1 v→Ok (λr=>LL m r.1∧r.1.length≤12) (bS.j32 N (bS.l8 N n) (bS.HY N (bS.l8 N n) Eb) (bS.LF N (bS.l8 N n) (bS.HY N (bS.l8 N n) Eb) n3) t.1 c all t.2 (k:Int) z.1 (p:Int) (j:Int) (t.1,(cn,((0:Int),((1:Int),cA)))) u (i:Int) v):=λv P8 Zq=>by
       unfold bS.j32 bS.aia
       rw[ay (x:=(i:Int)+1) ω ω,ag i]
       have hx:G 0 jD ((z.1.getD (i:Int).toNat cA).1,(v.getD (j:Int).toNat 0,())):=G2 (af9 Hg _).1 (tN Zq _)
       exact aB ⟨ω,ω⟩ (bq (λ_=>aB ⟨ω,ω⟩ (aB ⟨ω,ω⟩ (aC (by rw[aI];omega) (SC _ (G.cat hu (G.one hx (aG 1))))))) λ_=>SC u (G.mono ω hu))
      refine bo (Xd N hN h1) (aB ⟨ω,ω⟩ (aw (λ_=>aB ⟨ω,ω⟩ (aB ⟨ω,ω⟩ (amW _ (by rw[bO];exact e1) λy hy=> ?_))) λ_=>amW _ e1 e2))
      rcases xy hy with hy|rfl
      ·exact e2 y hy
      ·exact fU _
     rw[aJ]
     refine aw (λ_=>aB ⟨ω,ω⟩ (aw (λfb=> ?_) λY6=> ?_)) λ_=>ω
     ·have g: ∀x:Int,-9223372036854775808≤x∧x≠ -9223372036854775808→x<0→0≤W .i64 (0-x)∧W .i64 (0-x)<9223372036854775808:=λx h1 h2=>by rw[ay ω ω];omega
      have gx:=g _ ⟨nS.2.1.1,nS.2.2⟩ fb
      exact amV _ gx.1 gx.2
     ·exact amV _ Y6 nS.2.1.2
    ·have Hi:=hu.1
     rw[ay (x:=(j:Int)+1) ω ω,ag j]
     have hum:L2 m u:=G.mono ω hu
     refine aw (λ_=>ω) λ_=>ok_eq (λ_=>Xm t ⟨vO,ω,Zv⟩) λ_=> ?_
     unfold QE
     refine af (Q:=λr=>Bg 60000 r.1) (af (B2 N ω ω hc hum _) λr hr=>ak hr) λa ha=>af (qA N ω ω ha) λd hd=>af (xf N hd) λv hv=>bw (λ_=>ak ⟨G.nil,Nat.zero_le _⟩) λ_=>aC (by rw[List.length_singleton];omega) (Xm (_,_) ⟨fU _,by dsimp only;rw[List.length_append,List.length_singleton];omega,λx hx=> ?_⟩)
     rcases ba.1 hx with hx|hx
     ·exact Zv x hx
     ·rw[bV.1 hx];exact⟨vO,hum,hv,(show aD 1 from bk),bJ,bJ,trivial⟩
   ·rw[ay (x:=(k:Int)+1) ω ω,ag k]
    exact aw (λ_=>ω) λ_=>hr t ⟨ht.1,by have:=ht.2.1;omega,ht.2.2⟩
 ·exact aw (λ_=>ω) λ_=>ak ⟨⟨by have:=hI.2.1;dsimp only;omega,hI.2.2⟩,by have:=hI.2.1;dsimp only;omega⟩
theorem aaW(N:Nat)(hN:5000000≤N){c:ae}{b:an}{m:Nat}(h2:200≤m)(hm:m≤40000)(hc:G m aA c)(hb:G m aK b){next:Int}(hn:aD next):Ok (λr=>LL m r.1) (bS N c b next):=KR (SA N hN h2 hm hc hb hn) λ_ h=>h.1
end VM
end
