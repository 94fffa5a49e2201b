/- A part of the proof of HedgeDrawn of layer 22: what the functions compute, in plain words. -/
import Derived.Test.YtocmlaipoebfeaaGreatPlain6
set_option linter.all false
section
namespace VM
open Go VM.F
def Dk(k:Nat)(d:aO):Prop:=(∀x∈(d.1:List Int),0≤x∧x<18446744073709551616)∧0≤(d.2.1:Int)∧(d.2.1:Int)≤k
theorem Dk.mono{j k:Nat}{d:aO}(h:Dk j d)(hk:j≤k):Dk k d:=⟨h.1,h.2.1,aAc h.2.2 (by omega)⟩
def pH:Nat:=1000000000
theorem F2(N:Nat){k:Nat}{d:aO}(hk:k≤pH)(h:Dk k d):Ok (fun r=>(0≤r.1∧r.1<18446744073709551616)∧Dk (k+1) r.2) (F42 N d):=by
 obtain⟨h1,h2,h3⟩:=h
 unfold pH at hk
 unfold F42
 have hw: ∀i:Int,0≤i→i≤(k:Int)→0≤W .i64 (i+1)∧W .i64 (i+1)≤((k+1:Nat):Int):=fun i h0 h1=>by rw[ak (by omega) (by omega)];omega
 have hd:Dk (k+1) (d.1,(W .i64 (d.2.1+1),d.2.2)):=⟨h1,hw _ h2 h3⟩
 have hg: ∀(l:List Int) (i:Int),(∀x∈l,0≤x∧x<18446744073709551616)→0≤l.getD i.toNat 0∧l.getD i.toNat 0<18446744073709551616:=fun l i hl=>by
  by_cases hi:i.toNat<l.length
  ·rw[ayC,ayG hi];exact hl _ (ay5 hi)
  ·rw[ayC,azc (by omega)];decide
 exact aw (fun dH=>ay ⟨h2,dH⟩ (ah ⟨hg _ _ h1,hd⟩)) fun _=>ah ⟨(show(0:Int)≤0∧(0:Int)<18446744073709551616 by decide),hd⟩
theorem rem_in{x y:Int}(h0:0≤x)(hy:0<y):0≤rem x y∧rem x y<y:=by
 unfold rem;rw[fv]
 exact⟨Int.tmod_nonneg _ h0,aBG _ hy⟩
theorem fI(N:Nat){k:Nat}{d:aO}{n:Int}(hn:0<n∧n<1000000)(h:Dk k d)(hk:k≤pH:=by first|decide|(unfold pH;omega)):Ok (fun r=>(0≤r.1∧r.1<n)∧Dk (k+1) r.2) (nr N d n):=by
 unfold nr
 refine af (F2 N hk h) fun r hr=> ?_
 dsimp only
 rw[bG (x:=n) (by omega) (by omega)]
 have:=rem_in hr.1.1 hn.1
 refine ok_eq (fun _=>by omega) fun _=>ah ⟨?_,hr.2⟩
 dsimp only
 rw[ak (by omega) (by omega)]
 exact this
theorem uZ(N:Nat){k:Nat}{d:aO}{n:Int}(hn:0<n∧n<1000000)(h:Dk k d)(hk:k≤pH:=by first|decide|(unfold pH;omega)):Ok (fun r=>Dk (k+1) r.2) (Uf N d n):=by
 unfold Uf
 exact af (fI N hn h hk) fun r hr=>ah hr.2
theorem px(N:Nat){k:Nat}{d:aO}(h:Dk k d)(hk:k≤pH:=by first|decide|(unfold pH;omega)):Ok (fun r=>aB r.1∧Dk (k+1) r.2) (KE N d):=by
 unfold KE
 refine af (F2 N hk h) fun r hr=>ok_eq (fun _=>by omega) fun _=> ?_
 dsimp only
 repeat' first|exact ah ⟨eo _,hr.2⟩|refine aw (fun _=> ?_) (fun _=> ?_)|refine ok_eq (fun _=> ?_) (fun _=> ?_)|(exfalso;omega)
theorem IQ{x y:Int}(hy:0<y)(U8:y<9223372036854775808):aB (rem x y):=by
 unfold rem;rw[fv]
 have h1:=aBG x hy
 have h2: -y<x.tmod y:=by
  have:=aBG (-x) hy
  rw[Int.neg_tmod]at this;omega
 unfold aB;omega
theorem xx{x y:Int}(hx:aB x)(hy:aB y):aB (mx x y):=by unfold mx;rw[fv];split<;>assumption
theorem Wa{x y:Int}(hx:aB x)(hy:aB y):aB (mn x y):=by unfold mn;rw[fv];split<;>assumption
theorem jo{x n:Int}(h:0≤x∧x<n)(hn:n≤1000000):aB x:=gm (by omega) (by omega)
theorem PH(N:Nat)(hN:100≤N){d:aO}(h:Dk 0 d):Ok (fun r=>(G 5 aq r.1∧1≤r.1.1.length)∧Dk 1000 r.2) (rk N d):=by
 unfold rk rk.b
 refine af (fI N (by decide) h) fun r hr=> ?_
 rw[ak (x:=1+r.1) (by omega) (by omega)]
 obtain⟨k,hk⟩: ∃k:Nat,1+r.1=(k:Int):=⟨(1+r.1).toNat,by omega⟩
 rw[hk]
 refine zX (F:=fun n x (s:aO×aD)=>rk.l3 N n s.1 ([],dT) ([],dT) s.2 x) (fun x s=>x+s.2.length=k∧Dk (1+20*s.2.length) s.1∧G 4 (.slice c9) s.2) (fun n x s hI hr=> ?_) (fun n s hI=> ?_) k N (r.2,_) (by omega) ⟨rfl,hr.2,G.nil⟩
 all_goals unfold rk.l3 rk.jU
 ·obtain⟨hx,hd,hG⟩:=hI
  have hl:=hG.1
  have vq: ∀(d:aO) (x4:bp),Dk (1+20*s.2.length+10) d→G 4 c9 x4→Ok (fun r=>(G 5 aq r.1∧1≤r.1.1.length)∧Dk 1000 r.2) (cond (small (s.2.length+[x4].length)) (rk.l3 N n d ([],dT) ([],dT) (s.2++[x4]) (W .i64 (((x+1:Nat):Int)-1))) none):=fun d x4 hd hx4=>by
   rw[ak (x:=((x+1:Nat):Int)-1) (by omega) (by omega),show((x+1:Nat):Int)-1=(x:Int)by omega]
   refine aH (by rw[ayA];omega) (hr (_,_) ⟨by rw[ayH,ayA];omega,Dk.mono hd (by rw[ayH,ayA];omega),?_⟩)
   refine⟨by rw[ayH,ayA];omega,fun y hy=> ?_⟩
   rcases ayU.1 hy with hy|hy
   ·exact hG.2 y hy
   ·rw[ay0.1 hy];exact hx4
  have hj: ∀(d:aO) (x5:bp),Dk (1+20*s.2.length+6) d→G 4 c9 x5→Ok (fun r=>(G 5 aq r.1∧1≤r.1.1.length)∧Dk 1000 r.2) (rk.j8 N (rk.l3 N n) d ([],dT) ([],dT) s.2 ((x+1:Nat):Int) x5):=fun d x5 hd hx5=>by
   unfold rk.j8 rk.RZ
   refine af (uZ N (by decide) hd) fun r hd=>rj (fun _=> ?_) fun _=>vq _ _ (Dk.mono hd (by omega)) hx5
   refine af (px N hd) fun r ⟨_,hd⟩=>ok_eq (fun _=>by omega) fun _=> ?_
   dsimp only
   exact af (px N hd) fun r ⟨_,hd⟩=>ok_eq (fun _=>by omega) fun _=>vq _ _ (Dk.mono hd (by omega)) ⟨hx5.1,hx5.2.1,IQ (by decide) (by decide),IQ (by decide) (by decide),hx5.2.2.2.2⟩
  refine aw (fun _=> ?_) fun _=>by omega
  refine af (fI N (by decide) hd) fun a ⟨ha,hd⟩=>af (fI N (by decide) hd) fun b ⟨hb,hd⟩=>af (fI N (by decide) hd) fun c ⟨hc,hd⟩=>af (fI N (by decide) hd) fun e ⟨he,hd⟩=>af (uZ N (by decide) hd) fun r hd=>rj (fun _=>af (px N hd) fun r ⟨_,hd⟩=>ok_eq (fun _=>by omega) fun _=>hj _ _ (Dk.mono hd (by omega)) ?_) fun _=>hj _ _ (Dk.mono hd (by omega)) ?_
  all_goals exact⟨jo ha (by decide),eo _,jo hc (by decide),jo he (by decide),trivial⟩
 ·obtain⟨hx,hd,hG⟩:=hI
  have hl:=hG.1
  have hd:Dk 900 s.1:=Dk.mono hd (by omega)
  refine aw (fun _=>by omega) fun _=>af (fI N (by decide) hd) fun a ⟨ha,hd⟩=>af (fI N (by decide) hd) fun b ⟨hb,hd⟩=>af (fI N (by decide) hd) fun c ⟨hc,hd⟩=>af (fI N (by decide) hd) fun e ⟨he,hd⟩=>af (fI N (by decide) hd) fun f ⟨hf,hd⟩=> ?_
  dsimp only
  refine af (fI N (by decide) hd) fun g ⟨hg,hd⟩=>af (uZ N (by decide) hd) fun r hd=>rj (fun _=>af (px N hd) fun r ⟨hr,hd⟩=>ah ⟨⟨⟨G.mono (by decide) hG,?_⟩,by dsimp only;omega⟩,Dk.mono hd (by decide)⟩) fun _=>ah ⟨⟨⟨G.mono (by decide) hG,?_⟩,by dsimp only;omega⟩,Dk.mono hd (by decide)⟩
  ·exact⟨hr,jo hb (by decide),jo hc (by decide),jo he (by decide),eo _,jo hg (by decide),trivial⟩
  ·exact⟨jo ha (by decide),jo hb (by decide),jo hc (by decide),jo he (by decide),eo _,jo hg (by decide),trivial⟩
abbrev Qq(m:Nat)(l:gn):Prop:=G m (.slice nJ) l
theorem zp{k a b c d e f g:Int}{m:Nat}(h0:aB k)(h1:aB a)(h2:aB b)(h3:aB c)(h4:aB d)(h5:aB e)(h6:aB f)(h7:aB g):G m nJ (k,(a,(b,(c,(d,(e,(f,(g,())))))))):=⟨h0,h1,h2,h3,h4,h5,h6,h7,trivial⟩
theorem a7{x:Int}(h: -1000000≤x∧x≤1000000:=by decide):aB x:=gm h.1 h.2
theorem F3(N:Nat){k:Nat}{d:aO}(h:Dk k d)(c:aa){i:Int}(hi:0≤i∧i<(c.1.length:Int))(hc:c.1.length≤5)(hk:k≤100000000):Ok (fun r=>G 0 nJ r.1∧Dk (k+5) r.2) (PI N d c i):=by
 unfold PI
 have hb:aB 1000000000000:=by unfold aB;decide
 have lR:aB i:=gm (by omega) (by omega)
 exact ay hi (af (fI N (by decide) h) fun a ⟨_,hd⟩=>af (uZ N (by decide) hd) fun r hd=>rj (fun _=>af (px N hd) fun r ⟨_,hd⟩=>ok_eq (fun _=>by omega) fun _=>ah ⟨zp a7 a7 a7 lR a7 a7 a7 (eo _),Dk.mono hd (by omega)⟩) fun _=>ah ⟨zp a7 a7 a7 lR a7 a7 a7 (xx a7 (Wa hb (eo _))),Dk.mono hd (by omega)⟩)
theorem IS(N:Nat){k:Nat}{d:aO}(h:Dk k d)(c:aa)(Qg:1≤c.1.length)(hc:c.1.length≤5)(hk:k≤100000000):Ok (fun r=>G 0 nJ r.1∧Dk (k+10) r.2) (SL N d c):=by
 unfold SL
 have hb:aB 1000000000000:=by unfold aB;decide
 refine af (fI N ⟨by omega,by omega⟩ h) fun a ⟨ha,hd⟩=>af (fI N (by decide) hd) fun b ⟨dN,hd⟩=> ?_
 dsimp only
 refine af (fI N (by decide) hd) fun e ⟨he,hd⟩=>af (fI N (by decide) hd) fun f ⟨hf,hd⟩=>ay ha (af (fI N (by decide) hd) fun g ⟨_,hd⟩=>af (uZ N (by decide) hd) fun r hd=>rj (fun _=>af (px N hd) fun r ⟨_,hd⟩=>ok_eq (fun _=>by omega) fun _=>af (px N hd) fun r' ⟨_,hd⟩=>ok_eq (fun _=>by omega) fun _=>ah ⟨zp a7 a7 (eo _) (jo ha (by omega)) (eo _) a7 (eo _) (eo _),Dk.mono hd (by omega)⟩) fun _=>ah ⟨zp a7 a7 (eo _) (jo ha (by omega)) (eo _) a7 (eo _) (xx a7 (Wa hb (eo _))),Dk.mono hd (by omega)⟩)
end VM
end
section
namespace VM
open Go VM.F
structure Cf(c:aa):Prop where
 g:G 5 aq c
 n:1≤c.1.length
theorem IT(N:Nat){k:Nat}{d:aO}(h:Dk k d){c:aa}(hc:Cf c)(hk:k≤10000000):Ok (fun r=>G 0 nJ r.1∧Dk (k+20) r.2) (SM N d c):=by
 have hn:=hc.n
 have hl:=hc.g.1.1
 unfold SM
 refine af (fI N (by decide) h) fun a ⟨ha,hd⟩=> ?_
 dsimp only
 refine af (fI N (by decide) hd) fun b ⟨hb,hd⟩=>af (fI N ⟨by omega,by omega⟩ hd) fun i ⟨hi,hd⟩=>af (fI N (by decide) hd) fun e ⟨he,hd⟩=> ?_
 have hz: ∀(e:fU) (j:Nat) (d:aO),G 0 nJ e→Dk j d→j≤k+20→Ok (fun r=>G 0 nJ r.1∧Dk (k+20) r.2) (some (e,d)):=fun e j d he hd hj=>ah ⟨he,Dk.mono hd hj⟩
 have hs: ∀{f:Int×aO→Option (fU×aO)},(∀x d,aB x→Dk (k+5) d→Ok (fun r=>G 0 nJ r.1∧Dk (k+20) r.2) (f (x,d)))→Ok (fun r=>G 0 nJ r.1∧Dk (k+20) r.2) ((KE N e.2).bind f):=fun hf=>af (px N hd) fun r ⟨h1,h2⟩=>hf r.1 r.2 h1 (Dk.mono h2 (by omega))
 have hm: ∀{n:Int} {f:Int×aO→Option (fU×aO)},0<n∧n<1000000→(∀x d,Dk (k+5) d→Ok (fun r=>G 0 nJ r.1∧Dk (k+20) r.2) (f (x,d)))→Ok (fun r=>G 0 nJ r.1∧Dk (k+20) r.2) ((nr N e.2 n).bind f):=fun hn hf=>af (fI N hn hd) fun r ⟨h1,h2⟩=>hf r.1 r.2 (Dk.mono h2 (by omega))
 repeat' first
  |refine ok_eq (fun _=> ?_) (fun _=> ?_)
  |(exfalso;omega)
  |(refine hs fun x d' hx UZ=> ?_;dsimp only)
  |(refine hm (by decide) fun x d' UZ=> ?_;dsimp only)
  |(refine hz _ _ _ ?_ hd (by omega);refine⟨?_,?_,?_,?_,?_,?_,?_,?_,trivial⟩<;>first|exact eo _|exact aW|exact xx hx a7|exact IQ (by decide) (by decide)|exact(G.at hc.g.1 _).2.1)
  |(refine hz _ _ _ ?_ UZ (by omega);refine⟨?_,?_,?_,?_,?_,?_,?_,?_,trivial⟩<;>first|exact eo _|exact aW|exact xx hx a7|exact IQ (by decide) (by decide)|exact(G.at hc.g.1 _).2.1)
  |(refine hz _ _ _ ?_ h2 (by omega);refine⟨?_,?_,?_,?_,?_,?_,?_,?_,trivial⟩<;>first|exact eo _|exact aW|exact xx hx a7|exact IQ (by decide) (by decide)|exact(G.at hc.g.1 _).2.1)
  |exact af (F3 N hd c hi hl (by omega)) fun r ⟨h1,h2⟩=>hz _ _ _ h1 h2 (by omega)
  |exact af (IS N hd c hn hl (by omega)) fun r ⟨h1,h2⟩=>hz _ _ _ h1 h2 (by omega)
  |refine ay hi ?_
  |(refine af (fI N (by decide) UZ) fun r ⟨h1,h2⟩=> ?_)
end VM
end
section
namespace VM
open Go VM.F
theorem G.cat{m n:Nat}{e:Ty}{l k:List e.den}(h:G m (.slice e) l)(h':G n (.slice e) k):G (m+n) (.slice e) (l++k):=
 ⟨by have:=h.1;have:=h'.1;rw[ayH];omega,fun y hy=>by
  rcases ayU.1 hy with hy|hy
  ·exact G.mono (by omega) (h.2 y hy)
  ·exact G.mono (by omega) (h'.2 y hy)⟩
theorem G.two{m:Nat}{e:Ty}{a b:e.den}(ha:G 0 e a)(hb:G 0 e b)(hm:2≤m):G m (.slice e) [a,b]:=
 ⟨hm,fun y hy=>by
  rcases ayY.1 hy with rfl|hy
  ·exact G.mono (by omega) ha
  ·rw[ay0.1 hy];exact G.mono (by omega) hb⟩
theorem G.one{m:Nat}{e:Ty}{a:e.den}(ha:G 0 e a)(hm:1≤m):G m (.slice e) [a]:=
 ⟨hm,fun y hy=>by rw[ay0.1 hy];exact G.mono (by omega) ha⟩
theorem tv{α:Type}(a b:α):[a,b].length=2:=rfl
theorem Mc(N:Nat)(hN:100≤N){k:Nat}{d:aO}(h:Dk k d)(c:aa)(hk:k≤10000000):Ok (fun r=>Qq 40 r.1∧Dk (k+50) r.2) (dS N d c):=by
 have s64: ∀i:Nat,i<100→aB (i:Int):=fun i hi=>gm (by omega) (by omega)
 unfold dS dS.b
 refine iY (len:=5) (F:=fun n i (s:aO×gn)=>dS.l3 N n s.1 s.2 i) (fun i s=>Dk (k+2*i) s.1∧Qq (3*i) s.2) (fun n i s hi hI hr=> ?_) (fun n s hI=> ?_) 5 N 1 (d,[]) (by omega) (by omega) (by omega) ⟨Dk.mono h (by omega),G.nil⟩
 all_goals unfold dS.l3 dS.jU
 ·have hl:=hI.2.1
  have lR:=s64 i (by omega)
  dsimp only
  rw[ak (x:=(i:Int)+1) (by omega) (by omega),ae i]
  have h2:Qq (3*i+2) (s.2++[((1:Int),((i:Int),dT)),((2:Int),((i:Int),((i:Int),((0:Int),((1:Int),aM)))))]):=G.cat hI.2 (G.two (zp a7 lR aW aW aW aW aW aW) (zp a7 lR lR aW a7 aW aW aW) (by omega))
  have hl2:=h2.1
  exact dE (fun _=>aH (by rw[tv];omega) (af (uZ N (by decide) hI.1 (by unfold pH;omega)) fun r hd=>bN (fun _=>af (fI N (by decide) hd (by unfold pH;omega)) fun r ⟨_,hd⟩=>aH (by rw[ayA];omega) (hr (_,_) ⟨Dk.mono hd (by omega),G.mono (by omega) (G.cat h2 (G.one (m:=1) (zp a7 lR aW aW aW aW (eo _) aW) (by omega)))⟩)) fun _=>hr (_,_) ⟨Dk.mono hd (by omega),G.mono (by omega) h2⟩)) fun _=>by omega
 ·refine dE (fun _=>by omega) fun _=> ?_
  refine iY (len:=8) (F:=fun n i (s:aO×gn)=>dS.l9 N n s.1 s.2 i) (fun i s=>Dk (k+10+i) s.1∧Qq (15+i) s.2) (fun n i s hi hI hr=> ?_) (fun n s hI=> ?_) 8 N 5 s (by omega) (by omega) (by omega) ⟨Dk.mono hI.1 (by omega),G.mono (by omega) hI.2⟩
  all_goals unfold dS.l9 dS.tJ
  ·have hl:=hI.2.1
   dsimp only
   rw[ak (x:=(i:Int)+1) (by omega) (by omega),ae i]
   exact dE (fun _=>af (fI N (by decide) hI.1 (by unfold pH;omega)) fun r ⟨_,hd⟩=>aH (by rw[ayA];omega) (hr (_,_) ⟨Dk.mono hd (by omega),G.mono (by omega) (G.cat hI.2 (G.one (m:=1) (zp a7 (eo _) (s64 i (by omega)) aW a7 aW aW aW) (by omega)))⟩)) fun _=>by omega
  ·refine dE (fun _=>by omega) fun _=> ?_
   refine iY (len:=8) (F:=fun n i (s:aO×gn)=>dS.mi N n s.1 s.2 i) (fun i s=>Dk (k+18+2*i) s.1∧Qq (23+2*i) s.2) (fun n i s hi hI hr=> ?_) (fun n s hI=> ?_) 8 N 1 s (by omega) (by omega) (by omega) ⟨Dk.mono hI.1 (by omega),G.mono (by omega) hI.2⟩
   all_goals unfold dS.mi dS.kt
   ·have hl:=hI.2.1
    have lR:=s64 i (by omega)
    dsimp only
    rw[ak (x:=(i:Int)+1) (by omega) (by omega),ae i]
    exact dE (fun _=>af (fI N (by decide) hI.1 (by unfold pH;omega)) fun r ⟨_,hd⟩=>af (fI N (by decide) hd (by unfold pH;omega)) fun r ⟨_,hd⟩=>aH (by rw[tv];omega) (hr (_,_) ⟨Dk.mono hd (by omega),G.mono (by omega) (G.cat hI.2 (G.two (m:=2) (zp a7 aW lR aW aW aW (eo _) aW) (zp a7 aW lR aW aW aW (eo _) aW) (by omega)))⟩)) fun _=>by omega
   ·exact dE (fun _=>by omega) fun _=>ah ⟨G.mono (by omega) hI.2,Dk.mono hI.1 (by omega)⟩
theorem SN{x:Nat}(h:x<1000000):W .i64 (((x+1:Nat):Int)-1)=(x:Int):=by rw[ak (by omega) (by omega)];omega
theorem PJ(N:Nat)(hN:1000≤N){k:Nat}{d:aO}(h:Dk k d){c:aa}(hc:Cf c){IU:Int}(hm:0≤IU∧IU≤100)(hk:k≤10000):Ok (fun r=>Qq 200 r.1∧Dk (k+3000) r.2) (zZ N d c IU):=by
 have hn:=hc.n
 have hl:=hc.g.1.1
 unfold zZ zZ.b
 rw[ak (x:=IU+1) (by omega) (by omega)]
 refine af (Mc N (by omega) h c (by omega)) fun r ⟨Fc,hd⟩=>af (fI N ⟨by omega,by omega⟩ hd (by unfold pH;omega)) fun z ⟨hz,hd⟩=> ?_
 obtain⟨j,hj⟩: ∃j:Nat,z.1=(j:Int):=⟨z.1.toNat,by omega⟩
 rw[hj]
 refine zX (F:=fun n x (s:aO×gn)=>zZ.l3 N n s.1 c s.2 x) (fun x s=>x≤100∧Dk (k+100+25*(100-x)) s.1∧Qq (40+(100-x)) s.2) (fun n x s hI hr=> ?_) (fun n s hI=> ?_) j N (z.2,r.1) (by omega) ⟨by omega,Dk.mono hd (by omega),G.mono (by omega) Fc⟩
 all_goals unfold zZ.l3 zZ.jU
 ·obtain⟨hx,hd,hG⟩:=hI
  have hs:=hG.1
  rw[SN (by omega)]
  have put: ∀(e:fU) (d:aO) (q:Nat),G 0 nJ e→Dk q d→q≤k+100+25*(100-(x+1))+25→Ok (fun r=>Qq 200 r.1∧Dk (k+3000) r.2) (cond (small (s.2.length+[e].length)) (zZ.l3 N n d c (s.2++[e]) (x:Int)) none):=fun e d q he hd hq=>aH (by rw[ayA];omega) (hr (_,_) ⟨by omega,Dk.mono hd (by omega),G.mono (by omega) (G.cat hG (G.one (m:=1) he (by omega)))⟩)
  exact aw (fun _=>af (fI N (by decide) hd (by unfold pH;omega)) fun a ⟨_,hd⟩=>ok_eq (fun _=>af (IT N hd hc (by omega)) fun r ⟨h1,h2⟩=>put _ _ _ h1 h2 (by omega)) fun _=>ok_eq (fun _=>af (fI N ⟨by omega,by omega⟩ hd (by unfold pH;omega)) fun b ⟨hb,hd⟩=>af (F3 N hd c hb hl (by omega)) fun r ⟨h1,h2⟩=>put _ _ _ h1 h2 (by omega)) fun _=>af (IS N hd c hn hl (by omega)) fun r ⟨h1,h2⟩=>put _ _ _ h1 h2 (by omega)) fun _=>by omega
 ·exact aw (fun _=>by omega) fun _=>ah ⟨G.mono (by omega) hI.2.2,Dk.mono hI.2.1 (by omega)⟩
theorem IV(N:Nat)(hN:1000≤N){k:Nat}{d:aO}(h:Dk k d){c:aa}(hc:Cf c)(hk:k≤100000):Ok (fun r=>Qq 3 r.1∧Dk (k+100) r.2) (zq N d c):=by
 have hn:=hc.n
 have hl:=hc.g.1.1
 unfold zq zq.b
 refine af (fI N (by decide) h (by unfold pH;omega)) fun z ⟨hz,hd⟩=> ?_
 obtain⟨j,hj⟩: ∃j:Nat,z.1=(j:Int):=⟨z.1.toNat,by omega⟩
 rw[hj]
 refine zX (F:=fun n x (s:aO×gn)=>zq.l3 N n s.1 c s.2 x) (fun x s=>x≤3∧Dk (k+1+25*(3-x)) s.1∧Qq (3-x) s.2) (fun n x s hI hr=> ?_) (fun n s hI=> ?_) j N (z.2,[]) (by omega) ⟨by omega,Dk.mono hd (by omega),G.nil⟩
 all_goals unfold zq.l3 zq.jU
 ·obtain⟨hx,hd,hG⟩:=hI
  have hs:=hG.1
  rw[SN (by omega)]
  have put: ∀(e:fU) (d:aO) (q:Nat),G 0 nJ e→Dk q d→q≤k+1+25*(3-(x+1))+25→Ok (fun r=>Qq 3 r.1∧Dk (k+100) r.2) (cond (small (s.2.length+[e].length)) (zq.l3 N n d c (s.2++[e]) (x:Int)) none):=fun e d q he hd hq=>aH (by rw[ayA];omega) (hr (_,_) ⟨by omega,Dk.mono hd (by omega),G.mono (by omega) (G.cat hG (G.one (m:=1) he (by omega)))⟩)
  exact aw (fun _=>af (uZ N (by decide) hd (by unfold pH;omega)) fun a hd=>rj (fun _=>af (fI N ⟨by omega,by omega⟩ hd (by unfold pH;omega)) fun b ⟨hb,hd⟩=>af (F3 N hd c hb hl (by omega)) fun r ⟨h1,h2⟩=>put _ _ _ h1 h2 (by omega)) fun _=>af (IT N hd hc (by omega)) fun r ⟨h1,h2⟩=>put _ _ _ h1 h2 (by omega)) fun _=>by omega
 ·exact aw (fun _=>by omega) fun _=>ah ⟨G.mono (by omega) hI.2.2,Dk.mono hI.2.1 (by omega)⟩
end VM
end
section
namespace VM
open Go VM.F
theorem dF{α:Type}{r:α}:Ok (fun _=>True) (some r):=ah trivial
theorem PK(N:Nat)(k:Int):Ok (fun s=>ByteArray.size s≤100) (Wb N k):=by
 unfold Wb
 repeat' first|refine ok_eq (fun _=> ?_) (fun _=> ?_)|exact ah (by decide)
theorem PL(N:Nat)(k f:Int):Ok (fun _=>True) (Wc N k f):=by
 unfold Wc adv adw
 repeat' first|refine ok_eq (fun _=> ?_) (fun _=> ?_)|exact dF|refine af (Q:=fun _=>True) ?_ fun _ _=>dF
theorem SO(N:Nat)(e:fU)(f:Int):Ok (fun _=>True) (Wd N e f):=by
 unfold Wd
 repeat' first|refine ok_eq (fun _=> ?_) (fun _=> ?_)|exact dF
theorem SP(N:Nat)(e:fU)(f x:Int):Ok (fun _=>True) (We N e f x):=by
 unfold We
 repeat' first|refine ok_eq (fun _=> ?_) (fun _=> ?_)|exact dF
theorem PM(N:Nat)(hN:1000≤N)(e:fU):Ok (fun _=>True) (od N e):=by
 unfold od od.b adx
 refine af (Q:=fun _=>True) (dE (fun _=>dF) fun _=>dF) fun _ _=>bN (fun _=>dF) fun _=>af (PK N _) fun s hs=> ?_
 refine bw (len:=ByteArray.size s) (F:=fun n i (x:fU)=>od.l6 N n e s x i) (fun _ _=>True) trivial (by omega) (fun n i x hi _ hr=> ?_) (fun n x _=> ?_)
 all_goals unfold od.l6 od.pE
 ·rw[ak (x:=(i:Int)+1) (by omega) (by omega),ae i]
  exact aw (fun _=>ay ⟨by omega,by omega⟩ (af (PL N _ _) fun _ _=>ay ⟨by omega,by omega⟩ (af (SO N _ _) fun _ _=>aw (fun _=>dF) fun _=>aw (fun _=>dF) fun _=>ay ⟨by omega,by omega⟩ (af (SP N _ _ _) fun y _=>hr y trivial)))) fun _=>by omega
 ·exact aw (fun _=>by omega) fun _=>dF
theorem G.ins{m:Nat}{e:Ty}{l:List e.den}{x:e.den}(h:G m (.slice e) l)(hx:G m e x)(a b c:Nat)(ha:c≤a):G (m+1) (.slice e) ((([]++List.drop b (List.take c l))++[x])++List.drop a (List.take l.length l)):=by
 have:=h.1
 refine⟨?_,fun y hy=> ?_⟩
 ·simp only[ay8,ayH,aza,ayX,ayA];omega
 ·rw[ay8,ayP]at hy
  rcases ayU.1 hy with hy|hy
  ·exact G.mono (by omega) (h.2 y (azT (az8 hy)))
  ·rcases ayU.1 hy with hy|hy
   ·rw[ay0.1 hy];exact G.mono (by omega) hx
   ·exact G.mono (by omega) (h.2 y (azT (az8 hy)))
theorem SQ{α:Type}{P:List α×Int→Prop}{l:List α}{x:α}{k:Nat}{e:Int}(hk:k≤l.length)(hl:l.length≤1000000)(h:P ((([]++List.drop (0:Int).toNat (List.take (k:Int).toNat l))++[x])++List.drop (k:Int).toNat (List.take (l.length:Int).toNat l),e)):
  Ok P (cond (gH 0 (k:Int) (l.length:Int) (l.length:Int)) (let v6:List α:=List.drop (0:Int).toNat (List.take (k:Int).toNat l);cond (small (([]:List α).length+v6.length)) (let v7:List α:=[]++v6;cond (small (v7.length+[x].length)) (let v8:List α:=v7++[x];cond (gH (k:Int) (l.length:Int) (l.length:Int) (l.length:Int)) (let v9:List α:=List.drop (k:Int).toNat (List.take (l.length:Int).toNat l);cond (small (v8.length+v9.length)) (some ((v8++v9),e)) none) none) none) none) none):=by
 dsimp only
 have t: ∀a b:Nat,(List.drop a (List.take b l)).length≤l.length:=fun a b=>by rw[aza,ayX];omega
 have t1:=t (0:Int).toNat (k:Int).toNat
 have t2:=t (k:Int).toNat (l.length:Int).toNat
 refine F0 ⟨by omega,by omega,by omega,by omega⟩ (aH (by rw[ayW];omega) (aH ?_ (F0 ⟨by omega,by omega,by omega,by omega⟩ (aH ?_ (ah h)))))
 ·rw[ay8,ayA];omega
 ·rw[ay8,ayH,ayA];omega
theorem SS(N:Nat)(hN:200000≤N){a:av}{m:Nat}(hm:m≤50000)(h:G m (.slice gG) a){id:Int}(aV:aB id):Ok (fun r=>G (m+1) (.slice gG) r.1) (il N a id):=by
 have hl:=h.1
 unfold il il.b
 refine cA (o9 N (by omega) hN) (bN (fun _=>ah G.nil) fun _=>aw (fun _=>ah G.nil) fun _=>aw (fun _=>ah G.nil) fun _=>cA (lh N (by omega) hN id) (bZ (fun _=>ah G.nil) fun _=> ?_))
 have fin: ∀k:Nat,k≤a.length→Ok (fun r=>G (m+1) (.slice gG) r.1) (il.j9 N a id [] (k:Int)):=fun k hk=>by
  unfold il.j9 il.La
  have hx:G m gG (id,((1:Int),())):=⟨aV,(show aB 1 from a7),trivial⟩
  exact SQ hk (by omega) (by simpa using G.ins h hx k 0 k (ayJ _))
 refine kG (len:=a.length) (F:=fun n i=>il.l7 N n a id [] i) (by omega) (fun n i hi hr=> ?_) (fun n=> ?_)
 all_goals unfold il.l7 il.mE
 ·rw[ak (x:=(i:Int)+1) (by omega) (by omega),ae i]
  exact aw (fun _=>ay ⟨by omega,by omega⟩ (aw (fun _=>hr) fun _=>fin i (by omega))) fun _=>by omega
 ·exact aw (fun _=>by omega) fun _=>fin _ (ayJ _)
end VM
end
section
namespace VM
open Go VM.F
theorem G4q{m:Nat}{x:bp}{q:Int}(h:G m c9 x)(hq:aB q):G m c9 (x.1,(x.2.1,(x.2.2.1,(q,x.2.2.2.2)))):=⟨h.1,h.2.1,h.2.2.1,hq,trivial⟩
theorem G4b{m:Nat}{x:bp}{q:Int}(h:G m c9 x)(hq:aB q):G m c9 (x.1,(q,x.2.2)):=⟨h.1,hq,h.2.2⟩
theorem G2b{m:Nat}{x:Lk}{q:Int}(h:G m gG x)(hq:aB q):G m gG (x.1,(q,x.2.2)):=⟨h.1,hq,trivial⟩
theorem F4(N:Nat)(hN:200000≤N){l:aD}(hl:l.length≤100000):Ok (fun _=>True) (iU N l):=mA (vV N hl hN) trivial
theorem Wf(N:Nat)(hN:200000≤N){a:av}{l:aD}{x:bp}{m:Nat}(hm:m≤50000)(ha:G m (.slice gG) a)(h:G m (.slice c9) l)(hx:G 0 c9 x):Ok (fun r=>G (m+1) (.slice c9) r.1) (eV N a l x):=by
 have h1:=ha.1
 have hl:=h.1
 have fin: ∀k:Nat,k≤l.length→Ok (fun r=>G (m+1) (.slice c9) r.1) (eV.wT N l x [] (k:Int)):=fun k hk=>by
  unfold eV.wT eV.qg
  exact SQ hk (by omega) (by simpa using G.ins h (G.mono (azn m) hx) k 0 k (ayJ _))
 have hj:Ok (fun r=>G (m+1) (.slice c9) r.1) (eV.KF N l x):=by
  unfold eV.KF eV.BU
  refine kG (len:=l.length) (F:=fun n i=>eV.mi N n l x [] i) (by omega) (fun n i hi hr=> ?_) (fun n=> ?_)
  all_goals unfold eV.mi eV.kt
  ·rw[ak (x:=(i:Int)+1) (by omega) (by omega),ae i]
   exact aw (fun _=>ay ⟨by omega,by omega⟩ (aw (fun _=>hr) fun _=>fin i (by omega))) fun _=>by omega
  ·exact aw (fun _=>by omega) fun _=>fin _ (ayJ _)
 unfold eV eV.b
 exact cA (A2 N (by omega) (by omega) hN) (bN (fun _=>ah G.nil) fun _=>af (F4 N hN (by rw[ayA];omega)) fun _ _=>bN (fun _=>ah G.nil) fun _=>cA (lh N (by omega) hN _) (ok_eq (fun _=>ah G.nil) fun _=>bZ (fun _=>ah G.nil) fun _=>cA (vT N (by omega) hN _) (rj (fun _=>ah G.nil) fun _=>ok_eq (fun _=>cA (xh N (by omega) hN _) (bZ (fun _=>ah G.nil) fun _=>hj)) fun _=>hj)))
theorem SU(N:Nat)(hN:200000≤N){l:aD}{m:Nat}(hm:m≤50000)(h:G m (.slice c9) l){id q:Int}(hq:aB q):Ok (fun r=>G m (.slice c9) r.1) (oe N l id q):=by
 have hl:=h.1
 unfold oe oe.b
 refine af (F4 N hN (by omega)) fun _ _=>bN (fun _=>ah G.nil) fun _=>aw (fun _=>ah G.nil) fun _=>aw (fun _=>ah G.nil) fun _=>cA (vT N (by omega) hN _) (bN (fun _=>ah G.nil) fun _=>aH (by rw[ayW];omega) ?_)
 rw[ay8]
 refine bw (len:=l.length) (F:=fun n i s=>oe.l8 N n id q s i) (fun _ s=>s.length=l.length∧G m (.slice c9) s) ⟨rfl,h⟩ (by omega) (fun n i s hi hI hr=> ?_) (fun n s hI=> ?_)
 all_goals unfold oe.l8 oe.zL
 ·rw[ak (x:=(i:Int)+1) (by omega) (by omega),ae i]
  have hs:=hI.1
  have hx:=G.at hI.2 (i:Int).toNat
  exact aw (fun _=>ay ⟨by omega,by omega⟩ (ok_eq (fun _=>ay ⟨by omega,by omega⟩ (hr _ ⟨by rw[ayT];exact hs,G.set hI.2 (G4q hx hq) _⟩)) fun _=>hr s hI)) fun _=>by omega
 ·have hs:=hI.1
  exact aw (fun _=>by omega) fun _=>ah hI.2
theorem SV(N:Nat)(a b:Int):Ok (fun r=>aB r.1) (Wg N a b):=by
 have h: ∀(x:Int) (t:Bool),0≤x∧x<5→Ok (fun r:Int×Bool=>aB r.1) (some (x,t)):=fun x t hx=>ah (jo hx (by decide))
 unfold Wg
 repeat' first|refine ok_eq (fun _=> ?_) (fun _=> ?_)|exact h _ _ (by decide)
theorem NR(N:Nat)(hN:200000≤N){l:av}{m:Nat}(hm:m≤50000)(h:G m (.slice gG) l)(id k:Int):Ok (fun r=>G m (.slice gG) r.1) (mB N l id k):=by
 have hl:=h.1
 unfold mB mB.b
 refine cA (o9 N (by omega) hN) (bN (fun _=>ah G.nil) fun _=>cA (lh N (by omega) hN _) (ok_eq (fun _=>ah G.nil) fun _=>af (SV N _ _) fun z hz=>bN (fun _=>ah G.nil) fun _=>aH (by rw[ayW];omega) ?_))
 rw[ay8]
 refine bw (len:=l.length) (F:=fun n i s=>mB.zR N n id z.1 s i) (fun _ s=>s.length=l.length∧G m (.slice gG) s) ⟨rfl,h⟩ (by omega) (fun n i s hi hI hr=> ?_) (fun n s hI=> ?_)
 all_goals unfold mB.zR mB.xm
 ·rw[ak (x:=(i:Int)+1) (by omega) (by omega),ae i]
  have hs:=hI.1
  have hx:=G.at hI.2 (i:Int).toNat
  exact aw (fun _=>ay ⟨by omega,by omega⟩ (ok_eq (fun _=>ay ⟨by omega,by omega⟩ (hr _ ⟨by rw[ayT];exact hs,G.set hI.2 (G2b hx hz) _⟩)) fun _=>hr s hI)) fun _=>by omega
 ·have hs:=hI.1
  exact aw (fun _=>by omega) fun _=>ah hI.2
theorem Md(N:Nat)(hN:200000≤N){a:av}{l:aD}{m:Nat}(hm:m≤50000)(ha:G m (.slice gG) a)(h:G m (.slice c9) l){id to:Int}(hto:aB to):Ok (fun r=>G m (.slice c9) r.1) (og N a l id to):=by
 have h1:=ha.1
 have hl:=h.1
 unfold og og.b
 refine cA (A2 N (by omega) (by omega) hN) (bN (fun _=>ah G.nil) fun _=>cA (vT N (by omega) hN _) (cA (lh N (by omega) hN _) (bN (fun _=>ah G.nil) fun _=>ok_eq (fun _=>ah G.nil) fun _=>bZ (fun _=>ah G.nil) fun _=>bZ (fun _=>ah G.nil) fun _=>aH (by rw[ayW];omega) ?_)))
 rw[ay8]
 refine bw (len:=l.length) (F:=fun n i s=>og.mi N n id to s i) (fun _ s=>s.length=l.length∧G m (.slice c9) s) ⟨rfl,h⟩ (by omega) (fun n i s hi hI hr=> ?_) (fun n s hI=> ?_)
 all_goals unfold og.mi og.kt
 ·rw[ak (x:=(i:Int)+1) (by omega) (by omega),ae i]
  have hs:=hI.1
  have hx:=G.at hI.2 (i:Int).toNat
  exact aw (fun _=>ay ⟨by omega,by omega⟩ (ok_eq (fun _=>ay ⟨by omega,by omega⟩ (hr _ ⟨by rw[ayT];exact hs,G.set hI.2 (G4b hx hto) _⟩)) fun _=>hr s hI)) fun _=>by omega
 ·have hs:=hI.1
  exact aw (fun _=>by omega) fun _=>ah hI.2
theorem SW(N:Nat)(hN:200000≤N){l:aD}{m:Nat}(hm:m≤50000)(h:G m (.slice c9) l)(id:Int):Ok (fun r=>r.length≤m) (oh N l id):=by
 have hl:=h.1
 unfold oh oh.b
 refine af (F4 N hN (by omega)) fun _ _=>bN (fun _=>ah (azn _)) fun _=>bw (len:=l.length) (F:=fun n i s=>oh.l5 N n l id s i) (fun i s=>s.length≤i) (azn _) (by omega) (fun n i s hi hI hr=> ?_) (fun n s hI=> ?_)
 all_goals unfold oh.l5 oh.c7
 ·rw[ak (x:=(i:Int)+1) (by omega) (by omega),ae i]
  exact aw (fun _=>ay ⟨by omega,by omega⟩ (ok_eq (fun _=>ay ⟨by omega,by omega⟩ (aH (by rw[ayA];omega) (hr _ (by rw[ayH,ayA];omega)))) fun _=>hr s (by omega))) fun _=>by omega
 ·exact aw (fun _=>by omega) fun _=>ah (by omega)
abbrev L6(m:Nat)(l:aU):Prop:=G m (.slice jn) l
theorem SX(N:Nat)(hN:200000≤N){l:aU}{a:List Int}{m:Nat}(hm:m≤50000)(h:L6 m l)(ha:a.length≤m):Ok (fun r=>L6 m r) (fl N l a):=by
 have hl:=h.1
 unfold fl fl.b
 refine cA (lf N (by omega) hN) (bN (fun _=>ah G.nil) fun _=>bw (len:=l.length) (F:=fun n i s=>fl.l5 N n l a s i) (fun i s=>L6 i s) G.nil (by omega) (fun n i s hi hI hr=> ?_) (fun n s hI=> ?_))
 all_goals unfold fl.l5 fl.c7
 ·have hs:=hI.1
  refine aw (fun _=> ?_) fun _=>by omega
  refine bw (len:=a.length) (F:=fun n' j b=>fl.l9 N (fl.l5 N n) n' l a s (i:Int) b j) (fun _ _=>True) trivial (by omega) (fun n' j b hj _ dg=> ?_) (fun n' b _=> ?_)
  all_goals unfold fl.l9 fl.tJ
  ·rw[ak (x:=(j:Int)+1) (by omega) (by omega),ae j]
   exact aw (fun _=>rj (fun _=>dg _ trivial) fun _=>ay ⟨by omega,by omega⟩ (ay ⟨by omega,by omega⟩ (dg _ trivial))) fun _=>by omega
  ·rw[ak (x:=(i:Int)+1) (by omega) (by omega),ae i]
   have hx:G 0 jn (l.getD (i:Int).toNat dT):=G.at h _
   exact aw (fun _=>by omega) fun _=>bN (fun _=>ay ⟨by omega,by omega⟩ (aH (by rw[ayA];omega) (hr _ (G.cat hI (G.one hx (ayJ 1)))))) fun _=>hr s (G.mono (by omega) hI)
 ·exact aw (fun _=>by omega) fun _=>ah (G.mono hl hI)
theorem IW(N:Nat)(hN:5000000≤N)(c:aa){b:ag}{m:Nat}(hm:m≤50000)(hb:G m aC b)(id:Int):Ok (fun r=>G m aC r.1) (PN N c b id):=by
 unfold PN
 exact cA (eb N hN hm hb) (bN (fun _=>ah G.fD) fun _=>af (nI N (by omega) hm hb.1 _) fun _ _=>ok_eq (fun _=>ah G.fD) fun _=>af (SW N (by omega) hm hb.2.1 _) fun a ha=>af (SX N (by omega) hm hb.2.2.2.2.2.1 ha) fun r hr=>ah ⟨hb.1,hb.2.1,hb.2.2.1,hb.2.2.2.1,hb.2.2.2.2.1,hr,trivial⟩)
theorem IX(N:Nat)(hN:200000≤N){l:aD}{m:Nat}(hm:m≤50000)(h:G m (.slice c9) l)(id:Int):Ok (fun r=>G m (.slice c9) r) (mV N l id):=by
 have hl:=h.1
 unfold mV mV.b
 refine cA (sI N (by omega) hN) (bN (fun _=>ah G.nil) fun _=>bw (len:=l.length) (F:=fun n i s=>mV.l5 N n l id s i) (fun i s=>G i (.slice c9) s) G.nil (by omega) (fun n i s hi hI hr=> ?_) (fun n s hI=> ?_))
 all_goals unfold mV.l5 mV.c7
 ·have hs:=hI.1
  have hx:G 0 c9 (l.getD (i:Int).toNat aJ):=G.at h _
  rw[ak (x:=(i:Int)+1) (by omega) (by omega),ae i]
  exact aw (fun _=>ay ⟨by omega,by omega⟩ (bZ (fun _=>ay ⟨by omega,by omega⟩ (aH (by rw[ayA];omega) (hr _ (G.cat hI (G.one hx (ayJ 1)))))) fun _=>hr s (G.mono (by omega) hI))) fun _=>by omega
 ·exact aw (fun _=>by omega) fun _=>ah (G.mono hl hI)
theorem PO(N:Nat)(hN:200000≤N){l:aU}{m:Nat}(hm:m≤50000)(h:L6 m l)(a id:Int):Ok (fun r=>L6 m r.1) (oi N l a id):=by
 have hl:=h.1
 unfold oi oi.b
 refine cA (lf N (by omega) hN) (bN (fun _=>ah G.nil) fun _=>bw (len:=l.length) (F:=fun n i s=>oi.l5 N n l a id s i) (fun i s=>L6 i s) G.nil (by omega) (fun n i s hi hI hr=> ?_) (fun n s hI=> ?_))
 all_goals unfold oi.l5 oi.c7
 ·have hs:=hI.1
  have hx:G 0 jn (l.getD (i:Int).toNat dT):=G.at h _
  rw[ak (x:=(i:Int)+1) (by omega) (by omega),ae i]
  have h1:=hr s (G.mono (by omega) hI)
  have h2:=hr _ (G.cat hI (G.one hx (ayJ 1)))
  repeat' first|exact h1|exact h2|refine aH (by rw[ayA];omega) ?_|refine ay ⟨by omega,by omega⟩ ?_|refine aw (fun _=> ?_) (fun _=> ?_)|refine bZ (fun _=> ?_) (fun _=> ?_)|(exfalso;omega)
 ·exact aw (fun _=>by omega) fun _=>ok_eq (fun _=>ah G.nil) fun _=>ah (G.mono hl hI)
end VM
end
section
namespace VM
open Go VM.F
theorem G6q{m:Nat}{x:cr}{q:Int}(h:G m jn x)(hq:aB q):G m jn (x.1,(x.2.1,(x.2.2.1,(x.2.2.2.1,(q,x.2.2.2.2.2))))):=⟨h.1,h.2.1,h.2.2.1,h.2.2.2.1,hq,h.2.2.2.2.2⟩
theorem Wh(N:Nat)(hN:200000≤N){l:aU}{m:Nat}(hm:m≤50000)(h:L6 m l)(a d:Int):Ok (fun r=>L6 m r) (dx N l a d):=by
 have hl:=h.1
 unfold dx dx.b
 refine cA (lf N (by omega) hN) (bN (fun _=>ah G.nil) fun _=>bw (len:=l.length) (F:=fun n i s=>dx.l5 N n l a d s i) (fun i s=>L6 i s) G.nil (by omega) (fun n i s hi hI hr=> ?_) (fun n s hI=> ?_))
 all_goals unfold dx.l5 dx.c7
 ·have hs:=hI.1
  have hx:G 0 jn (l.getD (i:Int).toNat dT):=G.at h _
  have fin: ∀k:Nat,k≤s.length→Ok (fun r=>L6 m r) (dx.KF N (dx.l5 N n) l a d s (i:Int) (k:Int)):=fun k hk=>by
   unfold dx.KF dx.BU
   rw[ak (x:=(i:Int)+1) (by omega) (by omega),ae i]
   dsimp only
   have t: ∀a b:Nat,(List.drop a (List.take b s)).length≤s.length:=fun a b=>by rw[aza,ayX];omega
   have t1:=t (0:Int).toNat (k:Int).toNat
   have t2:=t (k:Int).toNat (s.length:Int).toNat
   refine F0 ⟨by omega,by omega,by omega,by omega⟩ (aH (by omega) (ay ⟨by omega,by omega⟩ (aH (by rw[ayA];omega) (F0 ⟨by omega,by omega,by omega,by omega⟩ (aH (by rw[ayH,ayA];omega) (hr _ ?_))))))
   simpa using G.ins hI (G.mono (azn i) hx) k 0 k (ayJ _)
  have h1:=hr s (G.mono (by omega) hI)
  have hw:Ok (fun r=>L6 m r) (dx.l9 N (dx.l5 N n) N l a d s (i:Int) 0):=by
   refine kG (len:=s.length) (F:=fun n' j=>dx.l9 N (dx.l5 N n) n' l a d s (i:Int) j) (by omega) (fun n' j hj dg=> ?_) (fun n'=> ?_)
   all_goals unfold dx.l9 dx.tJ
   ·rw[ak (x:=(j:Int)+1) (by omega) (by omega),ae j]
    have hah: ∀x y:cr,Ok (fun _=>True) (Wi N x y):=fun x y=>by unfold Wi;exact bZ (fun _=>dF) fun _=>dF
    exact aw (fun _=>ay ⟨by omega,by omega⟩ (ay ⟨by omega,by omega⟩ (af (hah _ _) fun _ _=>rj (fun _=>dg) fun _=>fin j (by omega)))) fun _=>by omega
   ·exact aw (fun _=>by omega) fun _=>fin _ (ayJ _)
  rw[ak (x:=(i:Int)+1) (by omega) (by omega),ae i]
  repeat' first|exact h1|exact hw|refine ay ⟨by omega,by omega⟩ ?_|refine aw (fun _=> ?_) (fun _=> ?_)|refine bZ (fun _=> ?_) (fun _=> ?_)|(exfalso;omega)
 ·exact aw (fun _=>by omega) fun _=>ah (G.mono hl hI)
theorem SY(N:Nat)(hN:200000≤N){l:aU}{o:cr}{m:Nat}(hm:m≤50000)(h:L6 m l)(ho:G 0 jn o):Ok (fun r=>L6 m r.1∧aB r.2.2.1) (b7 N l o):=by
 have hl:=h.1
 have fin: ∀(s:aU) (q:Int) (t:aZ),L6 m s→aB q→Ok (fun r=>L6 m r.1∧aB r.2.2.1) (b7.j22 N s q t):=fun s q t hs hq=>by
  have hsl:=hs.1
  unfold b7.j22 b7.ady
  refine bw (len:=s.length) (F:=fun n i u=>b7.zF N n s q t u i) (fun i u=>L6 i u) G.nil (by omega) (fun n i u hi hI hr=> ?_) (fun n u hI=> ?_)
  all_goals unfold b7.zF b7.AQ
  ·have hu:=hI.1
   have hx:G 0 jn (s.getD (i:Int).toNat dT):=G.at hs _
   rw[ak (x:=(i:Int)+1) (by omega) (by omega),ae i]
   have h1:=hr u (G.mono (by omega) hI)
   have h2:=hr _ (G.cat hI (G.one hx (ayJ 1)))
   repeat' first|exact h1|exact h2|refine aH (by rw[ayA];omega) ?_|refine ay ⟨by omega,by omega⟩ ?_|refine aw (fun _=> ?_) (fun _=> ?_)|(exfalso;omega)
  ·exact aw (fun _=>by omega) fun _=>ah ⟨G.mono hsl hI,hq⟩
 have eZ:Ok (fun r:aU×aZ×Int×Int=>L6 m r.1∧aB r.2.2.1) (some ([],[],(0:Int),(1:Int))):=ah ⟨G.nil,aW⟩
 unfold b7 b7.b
 refine cA (lf N (by omega) hN) (bN (fun _=>eZ) fun _=>cA (tc N o) (bN (fun _=>eZ) fun _=>aH (by rw[ayW];omega) (af (Wh N hN hm h _ _) fun w hw=> ?_)))
 have hwl:=hw.1
 rw[ay8]
 refine bw (len:=w.length) (F:=fun n i (s:aU×Int×aZ)=>b7.l7 N n o s.1 s.2.1 s.2.2 w i) (s:=(_,(_,_))) (fun i s=>L6 m s.1∧aB s.2.1∧s.2.2.length≤i) ⟨h,ho.2.2.2.2.1,azn _⟩ (by omega) (fun n i s hi hI hr=> ?_) (fun n s hI=> ?_)
 all_goals unfold b7.l7 b7.mE
 ·obtain⟨hs,hq,ht⟩:=hI
  have f1:=fin s.1 s.2.1 s.2.2 hs hq
  have aoH: ∀(v:Int) (t:gk),Ok (fun r=>L6 m r.1∧aB r.2.2.1) (b7.wT N (b7.l7 N n) o s.1 s.2.1 s.2.2 w (i:Int) v t):=fun v t=>by
   unfold b7.wT b7.qg
   refine aH (by rw[ayA];omega) (bw (len:=s.1.length) (F:=fun n' j u=>b7.Eu N (b7.l7 N n) n' o u (W .i64 (s.2.1-v)) (s.2.2++[t]) w (i:Int) v j) (fun _ u=>u.length=s.1.length∧L6 m u) ⟨rfl,hs⟩ (by have:=hs.1;omega) (fun n' j u hj hJ dg=> ?_) (fun n' u hJ=> ?_))
   all_goals unfold b7.Eu b7.BV
   ·have hsl:=hs.1
    have hul:=hJ.1
    rw[ak (x:=(j:Int)+1) (by omega) (by omega),ae j]
    exact aw (fun _=>ay ⟨by omega,by omega⟩ (ay ⟨by omega,by omega⟩ (ok_eq (fun _=>ay ⟨by omega,by omega⟩ (ay ⟨by omega,by omega⟩ (dg _ ⟨by rw[ayT];exact hul,G.set hJ.2 (G6q (G.at hJ.2 _) (eo _)) _⟩))) fun _=>dg u hJ))) fun _=>by omega
   ·have hul:=hJ.1
    rw[ak (x:=(i:Int)+1) (by omega) (by omega),ae i]
    exact aw (fun _=>by omega) fun _=>hr (_,(_,_)) ⟨hJ.2,eo _,by dsimp only;rw[List.length_append,List.length_singleton];omega⟩
  have Wj:Ok (fun r=>L6 m r.1∧aB r.2.2.1) (b7.SZ N (b7.l7 N n) o s.1 s.2.1 s.2.2 w (i:Int)):=by
   unfold b7.SZ b7.Me
   rw[ak (x:=(i:Int)+1) (by omega) (by omega),ae i]
   dsimp only
   have h1:=hr s ⟨hs,hq,by omega⟩
   repeat' first|exact h1|exact aoH _ _|refine ay ⟨by omega,by omega⟩ ?_|refine ok_eq (fun _=> ?_) (fun _=> ?_)
  repeat' first|exact f1|exact Wj|refine ay ⟨by omega,by omega⟩ ?_|refine aw (fun _=> ?_) (fun _=> ?_)|refine ok_eq (fun _=> ?_) (fun _=> ?_)|(exfalso;omega)
 ·exact aw (fun _=>by omega) fun _=>fin _ _ _ hI.1 hI.2.1
theorem S1(N:Nat)(hN:5000000≤N){c:aa}{b:ag}{o:cr}{m:Nat}(h2:200≤m)(hm:m≤40000)(hc:G m aq c)(hb:G m aC b)(ho:G 0 jn o):Ok (fun r=>G (m+1) aC r.1) (jP N c b o):=by
 have ub:=hb.2.2.2.2.2.1.1
 have eZ: ∀(t:aZ) (e:Int),Ok (fun r:ag×aZ×Int×Int=>G (m+1) aC r.1) (some ((bE,(cg,(aX,(aX,(cC,(cK,())))))),(t,((0:Int),e)))):=fun t e=>ah (G.zero (m+1) aC)
 have Wj: ∀(r:aU) (t:aZ) (q:Int),L6 m r→aB q→Ok (fun r=>G (m+1) aC r.1) (jP.SZ N c b o (bE,(cg,(aX,(aX,(cC,(cK,())))))) r t q):=fun r t q hr hq=>by
  have Kr:=hr.1
  unfold jP.SZ jP.Me
  have hx:G 0 jn (o.1,(o.2.1,(o.2.2.1,(o.2.2.2.1,(q,o.2.2.2.2.2))))):=G6q ho hq
  exact af (Es N hN c h2 (by omega) hb) fun z hz=>bZ (fun _=>eZ _ _) fun _=>by
   have zC:G (m+1) aC z.1:=G.mono (by omega) hz
   exact aw (fun _=>aH (by rw[ayA];omega) (ah ⟨zC.1,zC.2.1,zC.2.2.1,zC.2.2.2.1,zC.2.2.2.2.1,G.cat hr (G.one hx (ayJ 1)),trivial⟩)) fun _=>ah ⟨zC.1,zC.2.1,zC.2.2.1,zC.2.2.2.1,zC.2.2.2.2.1,G.mono (by omega) hr,trivial⟩
 have hj7:Ok (fun r=>G (m+1) aC r.1) (jP.j7 N c b o (bE,(cg,(aX,(aX,(cC,(cK,()))))))):=by
  unfold jP.j7 jP.K8
  exact af (SY N (by omega) (by omega) hb.2.2.2.2.2.1 ho) fun z hz=>aw (fun _=>ok_eq (fun _=>eZ _ _) fun _=>Wj _ _ _ hz.1 hz.2) fun _=>Wj _ _ _ hz.1 hz.2
 unfold jP jP.b
 refine af (IP N hN h2 hm hc hb (G.mono (azn m) ho)) fun e _=>bZ (fun _=>eZ _ _) fun _=>aw (fun h0=> ?_) fun _=>hj7
 dsimp only
 exact ay (by rw[ak (by omega) (by omega)];omega) (dE (fun _=>eZ _ _) fun _=>hj7)
end VM
end
section
namespace VM
open Go VM.F
theorem adz(N:Nat)(a:Int):Ok (fun _=>True) (FC N a):=by
 unfold FC
 exact ok_eq (fun _=>dF) fun _=>dF
theorem gE.one{k n:Int}{x:ax}{m:Nat}(h:Bg m x)(hm:m≤8):gE 1 [(k,(n,(x,())))]:=⟨ayJ 1,fun y hy=>by rw[ay0.1 hy];exact Bg.mono h hm⟩
theorem S2(N:Nat)(hN:4000000≤N){l:aj}{m:Nat}(hm:m≤50000)(h:L3 m l)(i a b:Int):Ok (fun r=>gE m r.1) (oj N l i a b):=by
 have hl:=h.1
 unfold oj oj.b
 have p64: ∀p:Int,decide (1≤p∧p≤1000000000000)=true→aB p:=fun p h=>by have:=ayV h;unfold aB;omega
 refine cA (nG N (by omega) (by omega)) (bN (fun _=>ah gE.nil) fun _=>cA (ia N _) (bN (fun _=>ah gE.nil) fun ha=>cA (ia N _) (bN (fun _=>ah gE.nil) fun hb=>af (bc N hN (p64 _ hb)) fun x hx=>af (bc N hN (p64 _ ha)) fun y hy=>af (wF N hN (by omega) hx hy) fun z hz=>bw (len:=l.length) (F:=fun n j s=>oj.l6 N n l i s z j) (fun j s=>gE j s) gE.nil (by omega) (fun n j s hj hI hr=> ?_) (fun n s hI=> ?_))))
 all_goals unfold oj.l6 oj.pE
 ·have hs:=hI.1
  rw[ak (x:=(j:Int)+1) (by omega) (by omega),ae j]
  have h1:=hr s (gE.mono hI (by omega))
  exact aw (fun _=>ay ⟨by omega,by omega⟩ (bZ (fun _=>h1) fun _=>af (zY N hz) fun _ _=>ok_eq (fun _=>h1) fun _=>ay ⟨by omega,by omega⟩ (af (adz N _) fun _ _=>ay ⟨by omega,by omega⟩ (af (bc N hN (G.at h _).2.2.1) fun v hv=>af (kH N hN (by omega) (by omega) hv hz) fun u hu=>aH (by rw[ayA];omega) (hr _ (gE.app hI (gE.one hu (by omega)))))))) fun _=>by omega
 ·exact aw (fun _=>by omega) fun _=>ah (gE.mono hI (by omega))
theorem IY(N:Nat)(hN:5000000≤N)(c:aa){b:ag}{m:Nat}(h2:200≤m)(hm:m≤50000)(hb:G m aC b)(i:Int){p:Int}(hp:aB p):Ok (fun r=>G m aC r.1∧gE m r.2.1) (Wk N c b i p):=by
 have eZ: ∀e:Int,Ok (fun r:ag×bx×Int=>G m aC r.1∧gE m r.2.1) (some ((bE,(cg,(aX,(aX,(cC,(cK,())))))),([],e))):=fun e=>ah ⟨G.fD,gE.nil⟩
 have Ap:=hb.2.2.2.2.1.1
 unfold Wk
 refine cA (eb N hN hm hb) (bN (fun _=>eZ _) fun hB=>cA (ia N _) (bN (fun _=>eZ _) fun _=>aw (fun _=>eZ _) fun h0=>dE (fun _=>eZ _) fun h1=> ?_))
 obtain⟨za,_⟩:=cO hB
 dsimp only
 rw[ay8]
 exact ay ⟨h0,by rw[za];exact h1⟩ (af (S2 N (by omega) hm hb.2.2.2.1 _ _ _) fun f hf=>af (pv N (by omega) h2 hm hb G.nil (gE.mono hf hm)) fun r hr=>bZ (fun _=>eZ _) fun _=>aH (by rw[ayW];omega) (ay ⟨h0,by rw[za];exact h1⟩ (ah ⟨⟨hr.1,hr.2.1,hr.2.2.1,hr.2.2.2.1,G.set hb.2.2.2.2.1 hp _,hr.2.2.2.2.2⟩,hf⟩)))
abbrev L2(m:Nat)(l:av):Prop:=G m (.slice gG) l
theorem G2{m:Nat}{a b:Int}(ha:aB a)(hb:aB b):G m gG (a,(b,())):=⟨ha,hb,trivial⟩
theorem Ev(N:Nat)(hN:200000≤N){l:av}(hl:l.length≤100000):Ok (fun _=>True) (ns N l):=by
 unfold ns ns.b
 refine kG (len:=l.length) (F:=fun n i=>ns.l2 N n l i) (by omega) (fun n i hi hr=> ?_) (fun n=> ?_)
 all_goals unfold ns.l2 ns.dA
 ·rw[ak (x:=(i:Int)+1) (by omega) (by omega),ae i]
  dsimp only
  repeat' first|exact hr|exact dF|refine ay ⟨by omega,by omega⟩ ?_|refine ay (by rw[ak (x:=(i:Int)-1) (by omega) (by omega)];omega) ?_|refine aw (fun _=> ?_) (fun _=> ?_)|refine dE (fun _=> ?_) (fun _=> ?_)|refine ok_eq (fun _=> ?_) (fun _=> ?_)|(exfalso;omega)
 ·exact aw (fun _=>by omega) fun _=>dF
theorem S3(N:Nat)(hN:4000000≤N){g:av}{p:bx}{m:Nat}(h2:200≤m)(hm:m≤50000)(h:L2 m g)(hp:gE m p):Ok (fun r=>L2 m r.1) (dr N g p):=by
 have hl:=h.1
 have Ap:=hp.1
 unfold dr dr.b
 refine af (Ev N (by omega) (by omega)) fun _ _=>bN (fun _=>ah G.nil) fun _=>iY (len:=25) (F:=fun n i s=>dr.l5 N n g p s i) (fun i s=>L2 i s) (fun n i s hi hI hr=> ?_) (fun n s hI=> ?_) 25 N 1 [] (by omega) (by omega) (by omega) G.nil
 all_goals unfold dr.l5 dr.c7
 ·have hs:=hI.1
  refine dE (fun _=> ?_) fun _=>by omega
  refine bw (len:=g.length) (F:=fun n' j t=>dr.l9 N (dr.l5 N n) n' g p s (i:Int) t j) (fun _ t=>Bg 2 t) (F1 (by omega)) (by omega) (fun n' j t hj ht dg=> ?_) (fun n' t ht=> ?_)
  all_goals unfold dr.l9 dr.tJ
  ·rw[ak (x:=(j:Int)+1) (by omega) (by omega),ae j]
   exact aw (fun _=>ay ⟨by omega,by omega⟩ (ok_eq (fun _=>ay ⟨by omega,by omega⟩ (af (bc N hN (G.at h _).2.1) fun r hr=>dg r hr)) fun _=>dg t ht)) fun _=>by omega
  ·refine aw (fun _=>by omega) fun _=> ?_
   refine bw (len:=p.length) (F:=fun Er j t=>dr.D5 N (dr.l5 N n) Er g p s (i:Int) t j) (fun j t=>Bg (8+j) t) (Bg.mono ht (by omega)) (by omega) (fun Er j t hj ht dg=> ?_) (fun Er t ht=> ?_)
   all_goals unfold dr.D5 dr.Bv
   ·rw[ak (x:=(j:Int)+1) (by omega) (by omega),ae j]
    have h1:=dg t (Bg.mono ht (by omega))
    exact aw (fun _=>ay ⟨by omega,by omega⟩ (ok_eq (fun _=>ay ⟨by omega,by omega⟩ (ok_eq (fun _=>ay ⟨by omega,by omega⟩ (af (ik N hN (by omega) ht (Bg.mono (hp.at _) (by omega))) fun r hr=>dg r (Bg.mono hr (by omega)))) fun _=>h1)) fun _=>h1)) fun _=>by omega
   ·rw[ak (x:=(i:Int)+1) (by omega) (by omega),ae i]
    exact aw (fun _=>by omega) fun _=>af (uY N ht) fun v hv=>bN (fun _=>ah G.nil) fun _=>bZ (fun _=>aH (by rw[ayA];omega) (hr _ (G.cat hI (G.one (m:=1) (G2 (gm (by omega) (by omega)) hv) (ayJ 1))))) fun _=>hr s (G.mono (by omega) hI)
 ·exact dE (fun _=>by omega) fun _=>ah (G.mono (by omega) hI)
theorem py(N:Nat)(hN:4000000≤N)(a b c d:Int){x:ax}(h:Bg 8 x):Ok (fun r=>gE 2 r) (BW N a b c d x):=by
 unfold BW
 exact af (qj N hN (by omega) h) fun y hy=>ah ⟨ayJ 2,fun z hz=>by
  rcases ayY.1 hz with rfl|hz
  ·exact hy
  ·rw[ay0.1 hz];exact h⟩
theorem IZ(N:Nat)(hN:5000000≤N){c:aa}{b:ag}{m:Nat}(h2:200≤m)(hm:m≤40000)(hc:G m aq c)(hb:G m aC b)(a:Int){q:Int}(hq:aB q):Ok (fun r=>G m aC r.1) (Wl N c b a q):=by
 unfold Wl
 exact cA (eb N hN (by omega) hb) (bN (fun _=>ah G.fD) fun _=>aw (fun _=>ah G.fD) fun _=>af (tu N (by omega) (by omega) hb.2.1 _) fun _ _=>bN (fun _=>ah G.fD) fun _=>af (nI N (by omega) (by omega) hb.1 _) fun _ _=>bZ (fun _=>ah G.fD) fun _=>af (oc N (by omega) (by omega) hb.2.2.1 _ _) fun g hg=>af (bc N (by omega) hg) fun x hx=>af (bc N (by omega) hq) fun y hy=>af (wF N (by omega) (by omega) hx hy) fun z hz=>af (IN N (by omega) h2 hm hc hb (azn _) _) fun w hw=>af (pG N (by omega) (by omega) (by omega) hz hw) fun _ _=>aw (fun _=>ah G.fD) fun _=>af (bc N (by omega) hq) fun y hy=>af (py N (by omega) _ _ _ _ (Bg.mono hy (by omega))) fun p hp=>af (pv N (by omega) h2 (by omega) hb G.nil (gE.mono hp (by omega))) fun r hr=>ah hr)
theorem Mf(N:Nat)(hN:1000≤N){c:aa}(hc:G 5 aq c):Ok (fun r=>G 5 aC r.1) (gU N c):=by
 have hl:=hc.1.1
 unfold gU gU.b
 have hj: ∀b:ag,G 5 aC b→Ok (fun r=>G 5 aC r.1) (gU.j6 N c (bE,(cg,(aX,(aX,(cC,(cK,())))))) b []):=fun b hb=>by
  unfold gU.j6 gU.KB
  obtain⟨b1,b2,b3,b4,b5,b6⟩:=b
  refine bw (len:=c.1.length) (F:=fun n i (z:ag×List Int)=>gU.l7 N n c (bE,(cg,(aX,(aX,(cC,(cK,())))))) z.1 z.2 i) (s:=((b1,(b2,(b3,(b4,(b5,b6))))),_)) (fun i z=>G 5 aC z.1∧G i (.slice (.int .i64)) z.2) ⟨hb,G.nil⟩ (by omega) (fun n i z hi hI hr=> ?_) (fun n z hI=> ?_)
  all_goals unfold gU.l7 gU.mE
  ·have hz:=hI.2.1
   rw[ak (x:=(i:Int)+1) (by omega) (by omega),ae i]
   have hx:G 0 (.int .i64) (c.1.getD (i:Int).toNat aJ).2.1:=(G.at hc.1 _).2.1
   exact aw (fun _=>ay ⟨by omega,by omega⟩ (aH (by rw[ayA];omega) (hr (_,_) ⟨⟨hI.1.1,hI.1.2.1,hI.1.2.2.1,hI.1.2.2.2.1,G.nil,hI.1.2.2.2.2.2⟩,G.cat hI.2 (G.one hx (ayJ 1))⟩))) fun _=>by omega
  ·exact aw (fun _=>by omega) fun _=>ah ⟨hI.1.1,hI.1.2.1,hI.1.2.2.1,hI.1.2.2.2.1,G.mono hl hI.2,hI.1.2.2.2.2.2⟩
 have Gr:L3 5 [((1:Int),((0:Int),(W .i64 (0-c.2.1),()))),((3:Int),((0:Int),(c.2.1,())))]:=G.two (G3 (show aB 1 from a7) aW (eo _)) (G3 (show aB 3 from a7) aW hc.2.1) (by decide)
 exact cA (lZ N (by omega) c) (bN (fun _=>ah G.fD) fun _=>bZ (fun _=>hj _ ⟨G.nil,G.nil,Gr,G.nil,G.nil,G.nil,trivial⟩) fun _=>hj _ G.fD)
end VM
end
section
namespace VM
open Go VM.F
theorem xy(N:Nat)(hN:4000000≤N){c:aa}{l:av}{m:Nat}(hm:m≤50000)(hc:G m aq c)(hl:L2 m l)(f:Bool):Ok (fun r=>Bg 60000 r.1) (mW N c l f):=by
 have h1:=hl.1
 unfold mW mW.b
 refine cA (qb N (by omega) c (by omega)) (bN (fun _=>ah (F1 (by omega))) fun hk=>bw (len:=l.length) (F:=fun n i t=>mW.l5 N n l f c (false,(([]:List Int),())) t i) (fun i t=>Bg (8+i) t) (F1 (by omega)) (by omega) (fun n i t hi ht hr=> ?_) (fun n t ht=> ?_))
 all_goals unfold mW.l5 mW.c7
 ·rw[ak (x:=(i:Int)+1) (by omega) (by omega),ae i,ayD]
  unfold ko at hk
  have hp:=ayV (azf.1 hk).1 i hi
  unfold kQ mO at hp
  have in1: ∀{x y:Option (ax×Int)},Ok (fun r=>Bg 60000 r.1) x→Ok (fun r=>Bg 60000 r.1) (cond (aI (l.getD i bL).1 c.1.length) x y):=fun h=>ay ⟨hp.1,hp.2.1⟩ h
  have hw: ∀q:Int,aB q→Ok (fun r=>Bg 60000 r.1) ((fQ N (l.getD i bL).2.1).bind fun r3=>(OQ N r3).bind fun r4=>(fQ N q).bind fun r5=>(gf N r4 r5).bind fun r6=>(uc N t r6).bind fun r7=>mW.l5 N n l f c (false,(([]:List Int),())) r7 ((i+1:Nat):Int)):=fun q hq=>
   af (bc N hN (G.at hl i).2.1) fun x hx=>af (sS N hN (by omega) hx) fun x hx=>af (bc N hN hq) fun y hy=>af (kH N hN (by omega) (by omega) hx hy) fun z hz=>af (ik N hN (by omega) ht (Bg.mono hz (by omega))) fun u hu=>hr u (Bg.mono hu (by omega))
  exact aw (fun _=>ay ⟨by omega,by omega⟩ (in1 (rj (fun _=>ay ⟨by omega,by omega⟩ (in1 (ay ⟨by omega,by omega⟩ (hw _ (G.at hc.1 _).2.2.2.1)))) fun _=>ay ⟨by omega,by omega⟩ (hw _ (G.at hc.1 _).2.2.1)))) fun _=>by omega
 ·exact aw (fun _=>by omega) fun _=>ah (Bg.mono ht (by omega))
theorem tw(N:Nat)(hN:200000≤N){b:ag}{m:Nat}(hm:m≤50000)(hb:G m aC b)(id:Int):Ok (fun _=>True) (F5 N b id):=by
 unfold F5
 exact af (nI N hN hm hb.1 _) fun _ _=>dF
theorem tx(N:Nat)(hN:200000≤N){b:ag}{m:Nat}(hm:m≤50000)(hb:G m aC b)(id:Int):Ok aB (Mg N b id):=by
 unfold Mg
 exact af (oc N hN hm hb.2.2.1 _ _) fun r hr=>ah hr
theorem Wm(N:Nat)(hN:5000000≤N){c:aa}{b:ag}{m:Nat}(hm:m≤40000)(hc:G m aq c)(hb:G m aC b)(f:Int){to:Int}(hto:aB to)(a:Int):Ok (fun r=>G m aC r.1) (Wn N c b f to a):=by
 have K5:Ok (fun _=>True) (Wo N c b f to a):=by
  unfold Wo adA
  have mb:=fun id=>tw N (by omega) (by omega) hb id
  exact cA (eb N hN (by omega) hb) (bN (fun _=>dF) fun _=>af (tu N (by omega) (by omega) hb.2.1 _) fun _ _=>bN (fun _=>dF) fun _=>af (mb _) fun _ _=>ok_eq (fun _=>dF) fun _=>af (mb _) fun _ _=>ok_eq (fun _=>dF) fun _=>bZ (fun _=>dF) fun _=>bZ (fun _=>dF) fun _=>af (mb _) fun _ _=>bZ (fun _=>dF) fun _=>af (IM N (by omega) (by omega) hb.2.2.2.1 _) fun l hl=>af (Q:=fun r=>Bg 60000 r.1) (af (xy N (by omega) (by omega) hc hl _) fun r hr=>ah hr) fun u hu=>af (tx N (by omega) (by omega) hb _) fun g hg=>af (bc N (by omega) hg) fun x hx=>af (pG N (by omega) (by omega) (by omega) hx hu) fun _ _=>aw (fun _=>dF) fun _=>dF)
 unfold Wn
 exact af K5 fun _ _=>bZ (fun _=>ah G.fD) fun _=>af (Md N (by omega) (by omega) hb.1 hb.2.1 hto) fun r hr=>bZ (fun _=>ah G.fD) fun _=>ah ⟨hb.1,hr,hb.2.2⟩
theorem PQ(N:Nat)(hN:4000000≤N){x:ax}{q:Int}(hx:Bg 60000 x)(hq:aB q):Ok (fun r=>0≤r∧r≤3) (om N x q):=by
 unfold om om.b
 refine af (zY N hx) fun _ _=>dE (fun _=>ah (by decide)) fun _=>aw (fun _=>ah (by decide)) fun _=>iY (len:=3) (F:=fun n i (_:Unit)=>om.l4 N n q x i) (fun _ _=>True) (fun n i _ hi _ hr=> ?_) (fun n _ _=> ?_) 3 N 1 () (by omega) (by omega) (by omega) trivial
 all_goals unfold om.l4 om.cD
 ·rw[ak (x:=(i:Int)+1) (by omega) (by omega),ae i]
  exact aw (fun _=>af (bc N hN (gm (by omega) (by omega))) fun a ha=>af (bc N hN hq) fun b hb=>af (kH N hN (by omega) (by omega) ha hb) fun y hy=>af (pG N hN (by omega) (by omega) hy hx) fun _ _=>aw (fun _=>hr () trivial) fun _=>ah (by omega)) fun _=>by omega
 ·exact aw (fun _=>by omega) fun _=>ah (by omega)
theorem Wp(N:Nat)(hN:5000000≤N)(c:aa){b:ag}{m:Nat}(hm:m≤50000)(hb:G m aC b):Ok (fun r=>G m (.slice (.int .i64)) r.1) (oq N c b):=by
 have hl:=hb.1.1
 unfold oq oq.b
 refine cA (eb N hN hm hb) (bN (fun _=>ah G.nil) fun _=>bw (len:=b.1.length) (F:=fun n i s=>oq.l5 N n b s i) (fun i s=>G i (.slice (.int .i64)) s) G.nil (by omega) (fun n i s hi hI hr=> ?_) (fun n s hI=> ?_))
 all_goals unfold oq.l5 oq.c7
 ·have hs:=hI.1
  rw[ak (x:=(i:Int)+1) (by omega) (by omega),ae i]
  have h1:=hr s (G.mono (by omega) hI)
  have hx:G 0 (.int .i64) (b.1.getD (i:Int).toNat bL).1:=(G.at hb.1 _).1
  exact aw (fun _=>ay ⟨by omega,by omega⟩ (ok_eq (fun _=>ay ⟨by omega,by omega⟩ (af (oc N (by omega) hm hb.2.2.1 _ _) fun _ _=>aw (fun _=>ay ⟨by omega,by omega⟩ (aH (by rw[ayA];omega) (hr _ (G.cat hI (G.one hx (ayJ 1)))))) fun _=>h1)) fun _=>h1)) fun _=>by omega
 ·exact aw (fun _=>by omega) fun _=>ah (G.mono hl hI)
abbrev LL(m:Nat)(l:ba):Prop:=G m (.slice gF) l
theorem BX(N:Nat)(hN:200000≤N){l:ba}{m:Nat}(hm:m≤50000)(h:LL m l)(id:Int):Ok (fun r=>G m gF r.1) (nu N l id):=by
 have hl:=h.1
 unfold nu nu.b
 refine kG (len:=l.length) (F:=fun n i=>nu.l2 N n l id ((0:Int),(bE,aJ)) i) (by omega) (fun n i hi hr=> ?_) (fun n=> ?_)
 all_goals unfold nu.l2 nu.dA
 ·rw[ak (x:=(i:Int)+1) (by omega) (by omega),ae i]
  exact aw (fun _=>ay ⟨by omega,by omega⟩ (ok_eq (fun _=>ay ⟨by omega,by omega⟩ (ah (G.at h _))) fun _=>hr)) fun _=>by omega
 ·exact aw (fun _=>by omega) fun _=>ah (G.zero m gF)
theorem PS(N:Nat)(hN:4000000≤N){a b:av}{m:Nat}(h6:6≤m)(hm:m≤40000)(ha:L2 m a)(hb:L2 m b):Ok (fun r=>L2 m r.1) (dt N a b):=by
 have hal:=ha.1
 have tW:=hb.1
 unfold dt dt.b
 refine bw (len:=6) (F:=fun n i s=>dt.l3 N n a b s i) (fun i s=>L2 i s) G.nil (by omega) (fun n i s hi hI hr=> ?_) (fun n s hI=> ?_)
 all_goals unfold dt.l3 dt.jU
 ·have hs:=hI.1
  refine aw (fun _=> ?_) fun _=>by omega
  refine bw (len:=a.length) (F:=fun n' j t=>dt.l7 N (dt.l3 N n) n' a b s (i:Int) t j) (fun j t=>Bg (3+j) t) (F1 (by omega)) (by omega) (fun n' j t hj ht dg=> ?_) (fun n' t ht=> ?_)
  all_goals unfold dt.l7 dt.mE
  ·rw[ak (x:=(j:Int)+1) (by omega) (by omega),ae j]
   exact aw (fun _=>ay ⟨by omega,by omega⟩ (ok_eq (fun _=>ay ⟨by omega,by omega⟩ (af (bc N hN (G.at ha _).2.1) fun r hr=>af (ik N hN (by omega) ht (Bg.mono hr (by omega))) fun u hu=>dg u (Bg.mono hu (by omega)))) fun _=>dg t (Bg.mono ht (by omega)))) fun _=>by omega
  ·refine aw (fun _=>by omega) fun _=> ?_
   refine bw (len:=b.length) (F:=fun Er j t=>dt.kk N (dt.l3 N n) Er a b s (i:Int) t j) (fun j t=>Bg (3+a.length+j) t) ht (by omega) (fun Er j t hj ht dg=> ?_) (fun Er t ht=> ?_)
   all_goals unfold dt.kk dt.jh
   ·rw[ak (x:=(j:Int)+1) (by omega) (by omega),ae j]
    exact aw (fun _=>ay ⟨by omega,by omega⟩ (ok_eq (fun _=>ay ⟨by omega,by omega⟩ (af (bc N hN (G.at hb _).2.1) fun r hr=>af (ik N hN (by omega) ht (Bg.mono hr (by omega))) fun u hu=>dg u (Bg.mono hu (by omega)))) fun _=>dg t (Bg.mono ht (by omega)))) fun _=>by omega
   ·rw[ak (x:=(i:Int)+1) (by omega) (by omega),ae i]
    exact aw (fun _=>by omega) fun _=>af (yL N ht) fun v hv=>bN (fun _=>ah G.nil) fun _=>bZ (fun _=>aH (by rw[ayA];omega) (hr _ (G.cat hI (G.one (m:=1) (G2 (gm (by omega) (by omega)) hv) (ayJ 1))))) fun _=>hr s (G.mono (by omega) hI)
 ·exact aw (fun _=>by omega) fun _=>ah (G.mono h6 hI)
theorem I0(N:Nat)(hN:5000000≤N){c:aa}{b:ag}{Mh:ba}{l:aD}{x:bp}{m:Nat}(h6:6≤m)(hm:m≤40000)(hc:G m aq c)(hb:G m aC b)(hL:LL m Mh)(hl:G m (.slice c9) l)(hx:G 0 c9 x):Ok (fun _=>True) (im N c b Mh l x):=by
 have Dn:=hl.1
 have hLl:=hL.1
 have hal:=hb.2.1.1
 have ub:=hb.2.2.2.2.2.1.1
 have hw:Ic Mh:=fun y hy=>azl (hL.2 y hy).2.1.1 (by omega)
 unfold im im.b
 have hj:Ok (fun _=>True) (im.j3 N Mh l c b x):=by
  unfold im.j3 im.j3b
  refine af (tw N (by omega) (by omega) hb _) fun _ _=>ok_eq (fun _=>dF) fun _=>bZ (fun _=>dF) fun _=>af (BX N (by omega) (by omega) hL _) fun z hz=>cA (xh N (by omega) (by omega) _) (bN (fun _=>dF) fun _=>bZ (fun _=>dF) fun _=>ok_eq (fun _=>dF) fun _=>kG (len:=l.length) (F:=fun n i=>im.mi N n l c b x z.1 (zM b.2.1 x.2.2.1) i) (by omega) (fun n i hi hr=> ?_) (fun n=> ?_))
  all_goals unfold im.mi im.kt
  ·rw[ak (x:=(i:Int)+1) (by omega) (by omega),ae i]
   exact aw (fun _=>ay ⟨by omega,by omega⟩ (ok_eq (fun _=>ay ⟨by omega,by omega⟩ (ok_eq (fun _=>dF) fun _=>hr)) fun _=>hr)) fun _=>by omega
  ·refine aw (fun _=>by omega) fun _=>ok_eq (fun _=>dF) fun _=>af (bc N (by omega) hx.2.2.2.1) fun p hp=>af (bc N (by omega) (show aB 4 from a7)) fun q hq=>af (bc N (by omega) hz.2.2.1) fun r hr=>af (kH N (by omega) (by omega) (by omega) hq hr) fun u hu=>af (pG N (by omega) (by omega) (by omega) hp hu) fun _ _=>aw (fun _=>dF) fun _=>af (IM N (by omega) (by omega) hb.2.2.2.1 _) fun a ha=>af (PS N (by omega) h6 (by omega) ha hz.2.1) fun j hj=>bN (fun _=>dF) fun _=> ?_
   unfold adB
   exact af (Q:=fun r=>L3 6 r) (cA (lf N (by omega) (by omega)) (bN (fun _=>ah G.nil) fun _=>af (BT N (by omega) (by omega) _) fun r hr=>ah hr)) fun o ho=>af (IL N (by omega) (by omega) hc hj (G.mono h6 ho)) fun w hw=>af (tx N (by omega) (by omega) hb _) fun g hg=>af (bc N (by omega) hg) fun v hv=>af (bc N (by omega) hx.2.2.2.1) fun p hp=>af (wF N (by omega) (by omega) hv hp) fun d hd=>af (pG N (by omega) (by omega) (by omega) hd hw) fun _ _=>aw (fun _=>dF) fun _=>dF
 refine cA (eb N hN (by omega) hb) (bN (fun _=>dF) fun _=>cA (Bb N (by omega) c (by omega) hw) (bN (fun _=>dF) fun _=>cA (sI N (by omega) (by omega)) (bN (fun _=>dF) fun _=>cA (Ns N _) (bN (fun _=>dF) fun _=>aw (fun _=> ?_) fun _=>hj))))
 dsimp only
 exact ay (by rw[ak (by omega) (by omega)];omega) (dE (fun _=>dF) fun _=>hj)
theorem PT(N:Nat)(hN:5000000≤N){c:aa}{b:ag}{Mh:ba}{l:aD}{x:bp}{m:Nat}(h6:6≤m)(hm:m≤40000)(hc:G m aq c)(hb:G m aC b)(hL:LL m Mh)(hl:G m (.slice c9) l)(hx:G 0 c9 x):Ok (fun r=>G (m+1) (.slice c9) r.1) (Wq N c b Mh l x):=by
 have Dn:=hl.1
 unfold Wq
 refine af (I0 N hN h6 hm hc hb hL hl hx) fun _ _=>bZ (fun _=>ah G.nil) fun _=>aH (by rw[ayW];omega) ?_
 dsimp only
 rw[ay8]
 exact aH (by rw[ayA];omega) (ah (G.cat hl (G.one hx (ayJ 1))))
end VM
end
section
namespace VM
open Go VM.F
theorem abr{l:List Int}(h:Pos l)(hs:l.sum<9223372036854775808):FH l:=fun x hx=>by
 have h3:=h x hx
 obtain⟨i,hi,rfl⟩:=az5.1 hx
 have h4:=uT h i
 rw[ayC,ayG hi]at h4
 simp only[az9]at h4
 omega
theorem S4(k:Nat):(List.replicate k (1:Int)).sum=k:=by
 induction k with
 |zero=>rfl
 |succ k ih=>rw[aA7,azd,ih];omega
theorem S5(k:Nat):Pos (List.replicate k 1):=fun x hx=>by rw[aAI hx];omega
theorem S6{t:Int}{k:Nat}(h0:0≤t)(h1:t<9223372036854775808)(hk:1≤k)(hk1:k≤3):(D6 t k).1.length=k∧FH (D6 t k).1:=by
 have hS:0<(List.replicate k (1:Int)).sum:=by rw[S4];omega
 have ee:D6 t k=(bo t (List.replicate k 1),0):=by
  unfold D6
  rw[ayE (by omega),ayD]
  unfold n7
  have hm:may (List.replicate k 1)=true:=lM.2 ⟨by rw[ayS];omega,S5 k⟩
  rw[ayE (by rw[hm];simp;omega),S4,ayE (by omega),ayE (by omega)]
 rw[ee]
 exact⟨by dsimp only;rw[lA,List.length_replicate],abr (q7 h0 hS (S5 k)) (by rw[q6 h0 hS];omega)⟩
def LQ(y:Lk):Prop:=aB y.1∧aB y.2.1∧ym y.2.1
theorem abt{l:av}(h: ∀y∈l,LQ y)(i:Nat):LQ (l.getD i bL):=by
 by_cases hk:i<l.length
 ·rw[ayC,ayG hk];exact h _ (ay5 hk)
 ·rw[ayC,azc (by omega)];exact⟨aW,aW,by unfold ym;decide⟩
theorem PU{c:aa}{b:ag}{m:Nat}(hb:G m aC b)(hB:bW c b=true)(a:Int): ∀y∈posOf b.2.2.2.1 a,LQ y∧(0≤(y.1:Int)∧(y.1:Int)<(c.1.length:Int)):=fun y hy=>by
 have hk:dn b.2.2.2.1=true:=by
  by_cases h:dn b.2.2.2.1=true
  ·exact h
  ·unfold posOf at hy;rw[ayE h]at hy;nomatch hy
 unfold posOf at hy
 rw[ayF hk]at hy
 obtain⟨x,hx,_,e⟩:=fR hy
 have hg:=hb.2.2.2.1.2 x hx
 have hq:=((gQ hk).2 x hx).2
 have hp:=wu hB x hx
 rw[e]
 exact⟨⟨hg.2.1,hg.2.2.1,hq⟩,hp⟩
theorem Wr(N:Nat)(hN:5000000≤N){c:aa}{b:ag}{m:Nat}(h2:200≤m)(hm:m≤40000)(hc:G m aq c)(hb:G m aC b){next:Int}(hn:aB next):Ok (fun r=>LL m r.1) (da N c b next):=by
 unfold da da.b
 refine cA (eb N hN (by omega) hb) (bN (fun _=>ah G.nil) fun hB=>aw (fun _=>ah G.nil) fun _=>aw (fun _=>ah G.nil) fun _=>cA (FB N (G.wf (by omega) hb).w.s (by omega) 0) (ok_eq (fun _=>ah G.nil) fun _=> ?_))
 have g9:=PU hb hB 0
 have hal:=(ai4 hb.2.2.2.1 0).1
 generalize posOf b.2.2.2.1 0=all at*
 refine bw (len:=4) (F:=fun n k (s:Int×ba)=>da.l8 N n s.1 c all s.2 k) (s:=(_,_)) (fun k s=>aB s.1∧s.2.length≤3*k∧ ∀x∈s.2,G m gF x) ⟨hn,azn _,fun x hx=>nomatch hx⟩ (by omega) (fun n k s hk hI hr=> ?_) (fun n s hI=> ?_)
 all_goals unfold da.l8 da.zL
 ·refine aw (fun _=> ?_) fun _=>by omega
  refine bw (len:=all.length) (F:=fun n' i (z:av×ax)=>da.mi N (da.l8 N n) n' s.1 c all s.2 (k:Int) z.1 z.2 i) (s:=(_,_)) (fun i z=>z.1.length≤i∧(∀y∈z.1,LQ y)∧Bg (8+i) z.2) ⟨azn _,(fun y hy=>nomatch hy),F1 (by omega)⟩ (by omega) (fun n' i z hi hz dg=> ?_) (fun n' z hz=> ?_)
  all_goals unfold da.mi da.kt
  ·obtain⟨zC,KA,hz3⟩:=hz
   have hx:all.getD i bL∈all:=by rw[ayC,ayG hi];exact ay5 hi
   have hy:=g9 _ hx
   rw[ak (x:=(i:Int)+1) (by omega) (by omega),ae i,ayD]
   exact aw (fun _=>ay ⟨by omega,by omega⟩ (ay hy.2 (ok_eq (fun _=>ay ⟨by omega,by omega⟩ (aH (by rw[List.length_singleton];omega) (ay ⟨by omega,by omega⟩ (af (bc N (by omega) hy.1.2.1) fun u hu=>af (sS N (by omega) (by omega) hu) fun u hu=>af (ik N (by omega) (by omega) hz3 (Bg.mono hu (by omega))) fun v hv=>dg (_,_) ⟨by dsimp only;rw[List.length_append,List.length_singleton];omega,fun y h=>(List.mem_append.1 h).elim (KA y) (fun h=>by rw[List.mem_singleton.1 h];exact hy.1),Bg.mono hv (by omega)⟩)))) fun _=>dg z ⟨by omega,KA,Bg.mono hz3 (by omega)⟩))) fun _=>by omega
  ·obtain⟨zC,KA,hz3⟩:=hz
   refine aw (fun _=>by omega) fun _=>af (PQ N (by omega) (Bg.mono hz3 (by omega)) hc.2.2.2.2.2.1) fun w hw=> ?_
   obtain⟨p,hp⟩: ∃p:Nat,w=(p:Int):=⟨w.toNat,by omega⟩
   subst hp
   refine bw (len:=p) (F:=fun Er j (t:Int×ba)=>da.F6 N (da.l8 N n) Er t.1 c all t.2 (k:Int) z.1 (p:Int) j) (s:=s) (fun j t=>aB t.1∧t.2.length≤3*k+j∧ ∀x∈t.2,G m gF x) hI (by omega) (fun Er j t hj ht SJ=> ?_) (fun Er t ht=> ?_)
   all_goals unfold da.F6 da.Mi
   ·obtain⟨rN,T3,UF⟩:=ht
    refine aw (fun _=> ?_) fun _=>by omega
    refine bw (len:=z.1.length) (F:=fun n3 i u=>da.zF N (da.l8 N n) (da.F6 N (da.l8 N n) Er) n3 t.1 c all t.2 (k:Int) z.1 (p:Int) (j:Int) (t.1,(bE,((0:Int),((1:Int),bL)))) u i) (fun i u=>L2 i u) G.nil (by omega) (fun n3 i u hi hu hr3=> ?_) (fun n3 u hu=> ?_)
    all_goals unfold da.zF da.AQ
    ·have hul:=hu.1
     have hq:=abt KA i
     have oH:=hq
     unfold LQ aB ym at oH
     have ai5: ∀q:Int,0≤q→q<9223372036854775808→Ok (fun r=>LL m r.1) (da.S7 N (da.l8 N n) (da.F6 N (da.l8 N n) Er) (da.zF N (da.l8 N n) (da.F6 N (da.l8 N n) Er) n3) t.1 c all t.2 (k:Int) z.1 (p:Int) (j:Int) (t.1,(bE,((0:Int),((1:Int),bL)))) u (i:Int) q):=fun q h0 h1=>by
      unfold da.S7 da.Mj
      obtain⟨e1,e2⟩:=S6 (k:=p) h0 h1 (by omega) (by omega)
      have ai6: ∀v:List Int,v.length=p→FH v→Ok (fun r=>LL m r.1) (da.j32 N (da.l8 N n) (da.F6 N (da.l8 N n) Er) (da.zF N (da.l8 N n) (da.F6 N (da.l8 N n) Er) n3) t.1 c all t.2 (k:Int) z.1 (p:Int) (j:Int) (t.1,(bE,((0:Int),((1:Int),bL)))) u (i:Int) v):=fun v GX UB=>by
       unfold da.j32 da.adC
       rw[ak (x:=(i:Int)+1) (by omega) (by omega),ae i]
       have hx:G 0 gG ((z.1.getD (i:Int).toNat bL).1,(v.getD (j:Int).toNat 0,())):=G2 (abt KA _).1 (p6 UB _)
       exact ay ⟨by omega,by omega⟩ (bZ (fun _=>ay ⟨by omega,by omega⟩ (ay ⟨by omega,by omega⟩ (aH (by rw[ayA];omega) (hr3 _ (G.cat hu (G.one hx (ayJ 1))))))) fun _=>hr3 u (G.mono (by omega) hu))
      refine cA (Sh N hN h1) (ay ⟨by omega,by omega⟩ (aw (fun _=>ay ⟨by omega,by omega⟩ (ay ⟨by omega,by omega⟩ (ai6 _ (by rw[ayT];exact e1) fun y hy=> ?_))) fun _=>ai6 _ e1 e2))
      rcases aAk hy with hy|rfl
      ·exact e2 y hy
      ·exact eo _
     rw[ayD]
     refine aw (fun _=>ay ⟨by omega,by omega⟩ (aw (fun dH=> ?_) fun UL=> ?_)) fun _=>by omega
     ·have g: ∀x:Int,-9223372036854775808≤x∧x≠ -9223372036854775808→x<0→0≤W .i64 (0-x)∧W .i64 (0-x)<9223372036854775808:=fun x h1 h2=>by rw[ak (by omega) (by omega)];omega
      have gx:=g _ ⟨oH.2.1.1,oH.2.2⟩ dH
      exact ai5 _ gx.1 gx.2
     ·exact ai5 _ UL oH.2.1.2
    ·have hul:=hu.1
     rw[ak (x:=(j:Int)+1) (by omega) (by omega),ae j]
     have hum:L2 m u:=G.mono (by omega) hu
     refine aw (fun _=>by omega) fun _=>ok_eq (fun _=>SJ t ⟨rN,by omega,UF⟩) fun _=> ?_
     unfold S8
     refine af (Q:=fun r=>Bg 60000 r.1) (af (xy N (by omega) (by omega) hc hum _) fun r hr=>ah hr) fun a ha=>af (qj N (by omega) (by omega) ha) fun d hd=>af (uY N hd) fun v hv=>bN (fun _=>ah G.nil) fun _=>aH (by rw[List.length_singleton];omega) (SJ (_,_) ⟨eo _,by dsimp only;rw[List.length_append,List.length_singleton];omega,fun x hx=> ?_⟩)
     rcases ayU.1 hx with hx|hx
     ·exact UF x hx
     ·rw[ay0.1 hx];exact⟨rN,hum,hv,(show aB 1 from a7),aW,aW,trivial⟩
   ·rw[ak (x:=(k:Int)+1) (by omega) (by omega),ae k]
    exact aw (fun _=>by omega) fun _=>hr t ⟨ht.1,by have:=ht.2.1;omega,ht.2.2⟩
 ·exact aw (fun _=>by omega) fun _=>ah ⟨by have:=hI.2.1;dsimp only;omega,hI.2.2⟩
end VM
end
