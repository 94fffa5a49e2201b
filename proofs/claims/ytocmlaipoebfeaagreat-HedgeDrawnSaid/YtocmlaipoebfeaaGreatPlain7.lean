/- A part of the proof of HedgeDrawn of layer 22: what the functions compute, in plain words. -/
import Derived.Test.YtocmlaipoebfeaaGreatPlain6
set_option linter.all false
section
namespace VM
open Go VM.F
def Dk(k:Nat)(d:aP):Prop:=(∀x∈(d.1:List Int),0≤x∧x<18446744073709551616)∧0≤(d.2.1:Int)∧(d.2.1:Int)≤k
theorem Dk.mono{j k:Nat}{d:aP}(h:Dk j d)(hk:j≤k):Dk k d:=⟨h.1,h.2.1,Int.le_trans h.2.2 (by omega)⟩
def qR:Nat:=1000000000
theorem Nf(N:Nat){k:Nat}{d:aP}(hk:k≤qR)(h:Dk k d):Ok (fun r=>(0≤r.1∧r.1<18446744073709551616)∧Dk (k+1) r.2) (F42 N d):=by
 obtain⟨h1,h2,h3⟩:=h
 unfold qR at hk
 unfold F42
 have hw: ∀i:Int,0≤i→i≤(k:Int)→0≤W .i64 (i+1)∧W .i64 (i+1)≤((k+1:Nat):Int):=fun i h0 h1=>by rw[al (by omega) (by omega)];omega
 have hd:Dk (k+1) (d.1,(W .i64 (d.2.1+1),d.2.2)):=⟨h1,hw _ h2 h3⟩
 have hg: ∀(l:List Int) (i:Int),(∀x∈l,0≤x∧x<18446744073709551616)→0≤l.getD i.toNat 0∧l.getD i.toNat 0<18446744073709551616:=fun l i hl=>by
  by_cases hi:i.toNat<l.length
  ·rw[List.getD_eq_getElem?_getD,List.getElem?_eq_getElem hi];exact hl _ (List.getElem_mem hi)
  ·rw[List.getD_eq_getElem?_getD,List.getElem?_eq_none (by omega)];decide
 exact az (fun dD=>aC ⟨h2,dD⟩ (aj ⟨hg _ _ h1,hd⟩)) fun _=>aj ⟨(show(0:Int)≤0∧(0:Int)<18446744073709551616 by decide),hd⟩
theorem rem_in{x y:Int}(h0:0≤x)(hy:0<y):0≤rem x y∧rem x y<y:=by
 unfold rem;rw[fl]
 exact⟨Int.tmod_nonneg _ h0,Int.tmod_lt_of_pos _ hy⟩
theorem iv(N:Nat){k:Nat}{d:aP}{n:Int}(hn:0<n∧n<1000000)(h:Dk k d)(hk:k≤qR:=by first|decide|(unfold qR;omega)):Ok (fun r=>(0≤r.1∧r.1<n)∧Dk (k+1) r.2) (m8 N d n):=by
 unfold m8
 refine ag (Nf N hk h) fun r hr=> ?_
 dsimp only
 rw[bD (x:=n) (by omega) (by omega)]
 have:=rem_in hr.1.1 hn.1
 refine ok_eq (fun _=>by omega) fun _=>aj ⟨?_,hr.2⟩
 dsimp only
 rw[al (by omega) (by omega)]
 exact this
theorem uF(N:Nat){k:Nat}{d:aP}{n:Int}(hn:0<n∧n<1000000)(h:Dk k d)(hk:k≤qR:=by first|decide|(unfold qR;omega)):Ok (fun r=>Dk (k+1) r.2) (Tf N d n):=by
 unfold Tf
 exact ag (iv N hn h hk) fun r hr=>aj hr.2
theorem o8(N:Nat){k:Nat}{d:aP}(h:Dk k d)(hk:k≤qR:=by first|decide|(unfold qR;omega)):Ok (fun r=>aA r.1∧Dk (k+1) r.2) (J2 N d):=by
 unfold J2
 refine ag (Nf N hk h) fun r hr=>ok_eq (fun _=>by omega) fun _=> ?_
 dsimp only
 repeat' first|exact aj ⟨fy _,hr.2⟩|refine az (fun _=> ?_) (fun _=> ?_)|refine ok_eq (fun _=> ?_) (fun _=> ?_)|(exfalso;omega)
theorem Ij{x y:Int}(hy:0<y)(T9:y<9223372036854775808):aA (rem x y):=by
 unfold rem;rw[fl]
 have h1:=Int.tmod_lt_of_pos x hy
 have h2: -y<x.tmod y:=by
  have:=Int.tmod_lt_of_pos (-x) hy
  rw[Int.neg_tmod]at this;omega
 unfold aA;omega
theorem y7{x y:Int}(hx:aA x)(hy:aA y):aA (mx x y):=by unfold mx;rw[fl];split<;>assumption
theorem Va{x y:Int}(hx:aA x)(hy:aA y):aA (mn x y):=by unfold mn;rw[fl];split<;>assumption
theorem ji{x n:Int}(h:0≤x∧x<n)(hn:n≤1000000):aA x:=gL (by omega) (by omega)
theorem aga(N:Nat)(hN:100≤N){d:aP}(h:Dk 0 d):Ok (fun r=>(G 5 ar r.1∧1≤r.1.1.length)∧Dk 1000 r.2) (qS N d):=by
 unfold qS qS.b
 refine ag (iv N (by decide) h) fun r hr=> ?_
 rw[al (x:=1+r.1) (by omega) (by omega)]
 obtain⟨k,hk⟩: ∃k:Nat,1+r.1=(k:Int):=⟨(1+r.1).toNat,by omega⟩
 rw[hk]
 refine zE (F:=fun n x (s:aP×aE)=>qS.l3 N n s.1 ([],dP) ([],dP) s.2 x) (fun x s=>x+s.2.length=k∧Dk (1+20*s.2.length) s.1∧G 4 (.slice dB) s.2) (fun n x s hI hr=> ?_) (fun n s hI=> ?_) k N (r.2,_) (by omega) ⟨rfl,hr.2,G.nil⟩
 all_goals unfold qS.l3 qS.jP
 ·obtain⟨hx,hd,hG⟩:=hI
  have hl:=hG.1
  have u6: ∀(d:aP) (x4:br),Dk (1+20*s.2.length+10) d→G 4 dB x4→Ok (fun r=>(G 5 ar r.1∧1≤r.1.1.length)∧Dk 1000 r.2) (cond (small (s.2.length+[x4].length)) (qS.l3 N n d ([],dP) ([],dP) (s.2++[x4]) (W .i64 (((x+1:Nat):Int)-1))) none):=fun d x4 hd hx4=>by
   rw[al (x:=((x+1:Nat):Int)-1) (by omega) (by omega),show((x+1:Nat):Int)-1=(x:Int)by omega]
   refine aN (by rw[List.length_singleton];omega) (hr (_,_) ⟨by rw[List.length_append,List.length_singleton];omega,Dk.mono hd (by rw[List.length_append,List.length_singleton];omega),?_⟩)
   refine⟨by rw[List.length_append,List.length_singleton];omega,fun y hy=> ?_⟩
   rcases List.mem_append.1 hy with hy|hy
   ·exact hG.2 y hy
   ·rw[List.mem_singleton.1 hy];exact hx4
  have hj: ∀(d:aP) (x5:br),Dk (1+20*s.2.length+6) d→G 4 dB x5→Ok (fun r=>(G 5 ar r.1∧1≤r.1.1.length)∧Dk 1000 r.2) (qS.j8 N (qS.l3 N n) d ([],dP) ([],dP) s.2 ((x+1:Nat):Int) x5):=fun d x5 hd hx5=>by
   unfold qS.j8 qS.Te
   refine ag (uF N (by decide) hd) fun r hd=>tk (fun _=> ?_) fun _=>u6 _ _ (Dk.mono hd (by omega)) hx5
   refine ag (o8 N hd) fun r ⟨_,hd⟩=>ok_eq (fun _=>by omega) fun _=> ?_
   dsimp only
   exact ag (o8 N hd) fun r ⟨_,hd⟩=>ok_eq (fun _=>by omega) fun _=>u6 _ _ (Dk.mono hd (by omega)) ⟨hx5.1,hx5.2.1,Ij (by decide) (by decide),Ij (by decide) (by decide),hx5.2.2.2.2⟩
  refine az (fun _=> ?_) fun _=>by omega
  refine ag (iv N (by decide) hd) fun a ⟨ha,hd⟩=>ag (iv N (by decide) hd) fun b ⟨hb,hd⟩=>ag (iv N (by decide) hd) fun c ⟨hc,hd⟩=>ag (iv N (by decide) hd) fun e ⟨he,hd⟩=>ag (uF N (by decide) hd) fun r hd=>tk (fun _=>ag (o8 N hd) fun r ⟨_,hd⟩=>ok_eq (fun _=>by omega) fun _=>hj _ _ (Dk.mono hd (by omega)) ?_) fun _=>hj _ _ (Dk.mono hd (by omega)) ?_
  all_goals exact⟨ji ha (by decide),fy _,ji hc (by decide),ji he (by decide),trivial⟩
 ·obtain⟨hx,hd,hG⟩:=hI
  have hl:=hG.1
  have hd:Dk 900 s.1:=Dk.mono hd (by omega)
  refine az (fun _=>by omega) fun _=>ag (iv N (by decide) hd) fun a ⟨ha,hd⟩=>ag (iv N (by decide) hd) fun b ⟨hb,hd⟩=>ag (iv N (by decide) hd) fun c ⟨hc,hd⟩=>ag (iv N (by decide) hd) fun e ⟨he,hd⟩=>ag (iv N (by decide) hd) fun f ⟨hf,hd⟩=> ?_
  dsimp only
  refine ag (iv N (by decide) hd) fun g ⟨hg,hd⟩=>ag (uF N (by decide) hd) fun r hd=>tk (fun _=>ag (o8 N hd) fun r ⟨hr,hd⟩=>aj ⟨⟨⟨G.mono (by decide) hG,?_⟩,by dsimp only;omega⟩,Dk.mono hd (by decide)⟩) fun _=>aj ⟨⟨⟨G.mono (by decide) hG,?_⟩,by dsimp only;omega⟩,Dk.mono hd (by decide)⟩
  ·exact⟨hr,ji hb (by decide),ji hc (by decide),ji he (by decide),fy _,ji hg (by decide),trivial⟩
  ·exact⟨ji ha (by decide),ji hb (by decide),ji hc (by decide),ji he (by decide),fy _,ji hg (by decide),trivial⟩
abbrev RV(m:Nat)(l:gv):Prop:=G m (.slice pq) l
theorem CC{k a b c d e f g:Int}{m:Nat}(h0:aA k)(h1:aA a)(h2:aA b)(h3:aA c)(h4:aA d)(h5:aA e)(h6:aA f)(h7:aA g):G m pq (k,(a,(b,(c,(d,(e,(f,(g,())))))))):=⟨h0,h1,h2,h3,h4,h5,h6,h7,trivial⟩
theorem bq{x:Int}(h: -1000000≤x∧x≤1000000:=by decide):aA x:=gL h.1 h.2
theorem Fy(N:Nat){k:Nat}{d:aP}(h:Dk k d)(c:aa){i:Int}(hi:0≤i∧i<(c.1.length:Int))(hc:c.1.length≤5)(hk:k≤100000000):Ok (fun r=>G 0 pq r.1∧Dk (k+5) r.2) (OY N d c i):=by
 unfold OY
 have hb:aA 1000000000000:=by unfold aA;decide
 have lG:aA i:=gL (by omega) (by omega)
 exact aC hi (ag (iv N (by decide) h) fun a ⟨_,hd⟩=>ag (uF N (by decide) hd) fun r hd=>tk (fun _=>ag (o8 N hd) fun r ⟨_,hd⟩=>ok_eq (fun _=>by omega) fun _=>aj ⟨CC bq bq bq lG bq bq bq (fy _),Dk.mono hd (by omega)⟩) fun _=>aj ⟨CC bq bq bq lG bq bq bq (y7 bq (Va hb (fy _))),Dk.mono hd (by omega)⟩)
theorem Ik(N:Nat){k:Nat}{d:aP}(h:Dk k d)(c:aa)(Pp:1≤c.1.length)(hc:c.1.length≤5)(hk:k≤100000000):Ok (fun r=>G 0 pq r.1∧Dk (k+10) r.2) (RW N d c):=by
 unfold RW
 have hb:aA 1000000000000:=by unfold aA;decide
 refine ag (iv N ⟨by omega,by omega⟩ h) fun a ⟨ha,hd⟩=>ag (iv N (by decide) hd) fun b ⟨dJ,hd⟩=> ?_
 dsimp only
 refine ag (iv N (by decide) hd) fun e ⟨he,hd⟩=>ag (iv N (by decide) hd) fun f ⟨hf,hd⟩=>aC ha (ag (iv N (by decide) hd) fun g ⟨_,hd⟩=>ag (uF N (by decide) hd) fun r hd=>tk (fun _=>ag (o8 N hd) fun r ⟨_,hd⟩=>ok_eq (fun _=>by omega) fun _=>ag (o8 N hd) fun r' ⟨_,hd⟩=>ok_eq (fun _=>by omega) fun _=>aj ⟨CC bq bq (fy _) (ji ha (by omega)) (fy _) bq (fy _) (fy _),Dk.mono hd (by omega)⟩) fun _=>aj ⟨CC bq bq (fy _) (ji ha (by omega)) (fy _) bq (fy _) (y7 bq (Va hb (fy _))),Dk.mono hd (by omega)⟩)
end VM
end
section
namespace VM
open Go VM.F
structure Cf(c:aa):Prop where
 g:G 5 ar c
 n:1≤c.1.length
theorem Il(N:Nat){k:Nat}{d:aP}(h:Dk k d){c:aa}(hc:Cf c)(hk:k≤10000000):Ok (fun r=>G 0 pq r.1∧Dk (k+20) r.2) (RX N d c):=by
 have hn:=hc.n
 have hl:=hc.g.1.1
 unfold RX
 refine ag (iv N (by decide) h) fun a ⟨ha,hd⟩=> ?_
 dsimp only
 refine ag (iv N (by decide) hd) fun b ⟨hb,hd⟩=>ag (iv N ⟨by omega,by omega⟩ hd) fun i ⟨hi,hd⟩=>ag (iv N (by decide) hd) fun e ⟨he,hd⟩=> ?_
 have hz: ∀(e:gM) (j:Nat) (d:aP),G 0 pq e→Dk j d→j≤k+20→Ok (fun r=>G 0 pq r.1∧Dk (k+20) r.2) (some (e,d)):=fun e j d he hd hj=>aj ⟨he,Dk.mono hd hj⟩
 have hs: ∀{f:Int×aP→Option (gM×aP)},(∀x d,aA x→Dk (k+5) d→Ok (fun r=>G 0 pq r.1∧Dk (k+20) r.2) (f (x,d)))→Ok (fun r=>G 0 pq r.1∧Dk (k+20) r.2) ((J2 N e.2).bind f):=fun hf=>ag (o8 N hd) fun r ⟨h1,h2⟩=>hf r.1 r.2 h1 (Dk.mono h2 (by omega))
 have hm: ∀{n:Int} {f:Int×aP→Option (gM×aP)},0<n∧n<1000000→(∀x d,Dk (k+5) d→Ok (fun r=>G 0 pq r.1∧Dk (k+20) r.2) (f (x,d)))→Ok (fun r=>G 0 pq r.1∧Dk (k+20) r.2) ((m8 N e.2 n).bind f):=fun hn hf=>ag (iv N hn hd) fun r ⟨h1,h2⟩=>hf r.1 r.2 (Dk.mono h2 (by omega))
 repeat' first
  |refine ok_eq (fun _=> ?_) (fun _=> ?_)
  |(exfalso;omega)
  |(refine hs fun x d' hx T0=> ?_;dsimp only)
  |(refine hm (by decide) fun x d' T0=> ?_;dsimp only)
  |(refine hz _ _ _ ?_ hd (by omega);refine⟨?_,?_,?_,?_,?_,?_,?_,?_,trivial⟩<;>first|exact fy _|exact bx|exact y7 hx bq|exact Ij (by decide) (by decide)|exact(G.at hc.g.1 _).2.1)
  |(refine hz _ _ _ ?_ T0 (by omega);refine⟨?_,?_,?_,?_,?_,?_,?_,?_,trivial⟩<;>first|exact fy _|exact bx|exact y7 hx bq|exact Ij (by decide) (by decide)|exact(G.at hc.g.1 _).2.1)
  |(refine hz _ _ _ ?_ h2 (by omega);refine⟨?_,?_,?_,?_,?_,?_,?_,?_,trivial⟩<;>first|exact fy _|exact bx|exact y7 hx bq|exact Ij (by decide) (by decide)|exact(G.at hc.g.1 _).2.1)
  |exact ag (Fy N hd c hi hl (by omega)) fun r ⟨h1,h2⟩=>hz _ _ _ h1 h2 (by omega)
  |exact ag (Ik N hd c hn hl (by omega)) fun r ⟨h1,h2⟩=>hz _ _ _ h1 h2 (by omega)
  |refine aC hi ?_
  |(refine ag (iv N (by decide) T0) fun r ⟨h1,h2⟩=> ?_)
end VM
end
section
namespace VM
open Go VM.F
theorem G.cat{m n:Nat}{e:Ty}{l k:List e.den}(h:G m (.slice e) l)(h':G n (.slice e) k):G (m+n) (.slice e) (l++k):=
 ⟨by have:=h.1;have:=h'.1;rw[List.length_append];omega,fun y hy=>by
  rcases List.mem_append.1 hy with hy|hy
  ·exact G.mono (by omega) (h.2 y hy)
  ·exact G.mono (by omega) (h'.2 y hy)⟩
theorem G.two{m:Nat}{e:Ty}{a b:e.den}(ha:G 0 e a)(hb:G 0 e b)(hm:2≤m):G m (.slice e) [a,b]:=
 ⟨hm,fun y hy=>by
  rcases List.mem_cons.1 hy with rfl|hy
  ·exact G.mono (by omega) ha
  ·rw[List.mem_singleton.1 hy];exact G.mono (by omega) hb⟩
theorem G.one{m:Nat}{e:Ty}{a:e.den}(ha:G 0 e a)(hm:1≤m):G m (.slice e) [a]:=
 ⟨hm,fun y hy=>by rw[List.mem_singleton.1 hy];exact G.mono (by omega) ha⟩
theorem FA{α:Type}(a b:α):[a,b].length=2:=rfl
theorem Lu(N:Nat)(hN:100≤N){k:Nat}{d:aP}(h:Dk k d)(c:aa)(hk:k≤10000000):Ok (fun r=>RV 40 r.1∧Dk (k+50) r.2) (dO N d c):=by
 have s64: ∀i:Nat,i<100→aA (i:Int):=fun i hi=>gL (by omega) (by omega)
 unfold dO dO.b
 refine kA (len:=5) (F:=fun n i (s:aP×gv)=>dO.l3 N n s.1 s.2 i) (fun i s=>Dk (k+2*i) s.1∧RV (3*i) s.2) (fun n i s hi hI hr=> ?_) (fun n s hI=> ?_) 5 N 1 (d,[]) (by omega) (by omega) (by omega) ⟨Dk.mono h (by omega),G.nil⟩
 all_goals unfold dO.l3 dO.jP
 ·have hl:=hI.2.1
  have lG:=s64 i (by omega)
  dsimp only
  rw[al (x:=(i:Int)+1) (by omega) (by omega),ae i]
  have h2:RV (3*i+2) (s.2++[((1:Int),((i:Int),dP)),((2:Int),((i:Int),((i:Int),((0:Int),((1:Int),aL)))))]):=G.cat hI.2 (G.two (CC bq lG bx bx bx bx bx bx) (CC bq lG lG bx bq bx bx bx) (by omega))
  have hl2:=h2.1
  exact dX (fun _=>aN (by rw[FA];omega) (ag (uF N (by decide) hI.1 (by unfold qR;omega)) fun r hd=>cw (fun _=>ag (iv N (by decide) hd (by unfold qR;omega)) fun r ⟨_,hd⟩=>aN (by rw[List.length_singleton];omega) (hr (_,_) ⟨Dk.mono hd (by omega),G.mono (by omega) (G.cat h2 (G.one (m:=1) (CC bq lG bx bx bx bx (fy _) bx) (by omega)))⟩)) fun _=>hr (_,_) ⟨Dk.mono hd (by omega),G.mono (by omega) h2⟩)) fun _=>by omega
 ·refine dX (fun _=>by omega) fun _=> ?_
  refine kA (len:=8) (F:=fun n i (s:aP×gv)=>dO.l9 N n s.1 s.2 i) (fun i s=>Dk (k+10+i) s.1∧RV (15+i) s.2) (fun n i s hi hI hr=> ?_) (fun n s hI=> ?_) 8 N 5 s (by omega) (by omega) (by omega) ⟨Dk.mono hI.1 (by omega),G.mono (by omega) hI.2⟩
  all_goals unfold dO.l9 dO.tG
  ·have hl:=hI.2.1
   dsimp only
   rw[al (x:=(i:Int)+1) (by omega) (by omega),ae i]
   exact dX (fun _=>ag (iv N (by decide) hI.1 (by unfold qR;omega)) fun r ⟨_,hd⟩=>aN (by rw[List.length_singleton];omega) (hr (_,_) ⟨Dk.mono hd (by omega),G.mono (by omega) (G.cat hI.2 (G.one (m:=1) (CC bq (fy _) (s64 i (by omega)) bx bq bx bx bx) (by omega)))⟩)) fun _=>by omega
  ·refine dX (fun _=>by omega) fun _=> ?_
   refine kA (len:=8) (F:=fun n i (s:aP×gv)=>dO.mB N n s.1 s.2 i) (fun i s=>Dk (k+18+2*i) s.1∧RV (23+2*i) s.2) (fun n i s hi hI hr=> ?_) (fun n s hI=> ?_) 8 N 1 s (by omega) (by omega) (by omega) ⟨Dk.mono hI.1 (by omega),G.mono (by omega) hI.2⟩
   all_goals unfold dO.mB dO.kH
   ·have hl:=hI.2.1
    have lG:=s64 i (by omega)
    dsimp only
    rw[al (x:=(i:Int)+1) (by omega) (by omega),ae i]
    exact dX (fun _=>ag (iv N (by decide) hI.1 (by unfold qR;omega)) fun r ⟨_,hd⟩=>ag (iv N (by decide) hd (by unfold qR;omega)) fun r ⟨_,hd⟩=>aN (by rw[FA];omega) (hr (_,_) ⟨Dk.mono hd (by omega),G.mono (by omega) (G.cat hI.2 (G.two (m:=2) (CC bq bx lG bx bx bx (fy _) bx) (CC bq bx lG bx bx bx (fy _) bx) (by omega)))⟩)) fun _=>by omega
   ·exact dX (fun _=>by omega) fun _=>aj ⟨G.mono (by omega) hI.2,Dk.mono hI.1 (by omega)⟩
theorem RY{x:Nat}(h:x<1000000):W .i64 (((x+1:Nat):Int)-1)=(x:Int):=by rw[al (by omega) (by omega)];omega
theorem agb(N:Nat)(hN:1000≤N){k:Nat}{d:aP}(h:Dk k d){c:aa}(hc:Cf c){Vb:Int}(hm:0≤Vb∧Vb≤100)(hk:k≤10000):Ok (fun r=>RV 200 r.1∧Dk (k+3000) r.2) (zH N d c Vb):=by
 have hn:=hc.n
 have hl:=hc.g.1.1
 unfold zH zH.b
 rw[al (x:=Vb+1) (by omega) (by omega)]
 refine ag (Lu N (by omega) h c (by omega)) fun r ⟨QE,hd⟩=>ag (iv N ⟨by omega,by omega⟩ hd (by unfold qR;omega)) fun z ⟨hz,hd⟩=> ?_
 obtain⟨j,hj⟩: ∃j:Nat,z.1=(j:Int):=⟨z.1.toNat,by omega⟩
 rw[hj]
 refine zE (F:=fun n x (s:aP×gv)=>zH.l3 N n s.1 c s.2 x) (fun x s=>x≤100∧Dk (k+100+25*(100-x)) s.1∧RV (40+(100-x)) s.2) (fun n x s hI hr=> ?_) (fun n s hI=> ?_) j N (z.2,r.1) (by omega) ⟨by omega,Dk.mono hd (by omega),G.mono (by omega) QE⟩
 all_goals unfold zH.l3 zH.jP
 ·obtain⟨hx,hd,hG⟩:=hI
  have hs:=hG.1
  rw[RY (by omega)]
  have put: ∀(e:gM) (d:aP) (q:Nat),G 0 pq e→Dk q d→q≤k+100+25*(100-(x+1))+25→Ok (fun r=>RV 200 r.1∧Dk (k+3000) r.2) (cond (small (s.2.length+[e].length)) (zH.l3 N n d c (s.2++[e]) (x:Int)) none):=fun e d q he hd hq=>aN (by rw[List.length_singleton];omega) (hr (_,_) ⟨by omega,Dk.mono hd (by omega),G.mono (by omega) (G.cat hG (G.one (m:=1) he (by omega)))⟩)
  exact az (fun _=>ag (iv N (by decide) hd (by unfold qR;omega)) fun a ⟨_,hd⟩=>ok_eq (fun _=>ag (Il N hd hc (by omega)) fun r ⟨h1,h2⟩=>put _ _ _ h1 h2 (by omega)) fun _=>ok_eq (fun _=>ag (iv N ⟨by omega,by omega⟩ hd (by unfold qR;omega)) fun b ⟨hb,hd⟩=>ag (Fy N hd c hb hl (by omega)) fun r ⟨h1,h2⟩=>put _ _ _ h1 h2 (by omega)) fun _=>ag (Ik N hd c hn hl (by omega)) fun r ⟨h1,h2⟩=>put _ _ _ h1 h2 (by omega)) fun _=>by omega
 ·exact az (fun _=>by omega) fun _=>aj ⟨G.mono (by omega) hI.2.2,Dk.mono hI.2.1 (by omega)⟩
theorem ah7(N:Nat)(hN:1000≤N){k:Nat}{d:aP}(h:Dk k d){c:aa}(hc:Cf c)(hk:k≤100000):Ok (fun r=>RV 3 r.1∧Dk (k+100) r.2) (y8 N d c):=by
 have hn:=hc.n
 have hl:=hc.g.1.1
 unfold y8 y8.b
 refine ag (iv N (by decide) h (by unfold qR;omega)) fun z ⟨hz,hd⟩=> ?_
 obtain⟨j,hj⟩: ∃j:Nat,z.1=(j:Int):=⟨z.1.toNat,by omega⟩
 rw[hj]
 refine zE (F:=fun n x (s:aP×gv)=>y8.l3 N n s.1 c s.2 x) (fun x s=>x≤3∧Dk (k+1+25*(3-x)) s.1∧RV (3-x) s.2) (fun n x s hI hr=> ?_) (fun n s hI=> ?_) j N (z.2,[]) (by omega) ⟨by omega,Dk.mono hd (by omega),G.nil⟩
 all_goals unfold y8.l3 y8.jP
 ·obtain⟨hx,hd,hG⟩:=hI
  have hs:=hG.1
  rw[RY (by omega)]
  have put: ∀(e:gM) (d:aP) (q:Nat),G 0 pq e→Dk q d→q≤k+1+25*(3-(x+1))+25→Ok (fun r=>RV 3 r.1∧Dk (k+100) r.2) (cond (small (s.2.length+[e].length)) (y8.l3 N n d c (s.2++[e]) (x:Int)) none):=fun e d q he hd hq=>aN (by rw[List.length_singleton];omega) (hr (_,_) ⟨by omega,Dk.mono hd (by omega),G.mono (by omega) (G.cat hG (G.one (m:=1) he (by omega)))⟩)
  exact az (fun _=>ag (uF N (by decide) hd (by unfold qR;omega)) fun a hd=>tk (fun _=>ag (iv N ⟨by omega,by omega⟩ hd (by unfold qR;omega)) fun b ⟨hb,hd⟩=>ag (Fy N hd c hb hl (by omega)) fun r ⟨h1,h2⟩=>put _ _ _ h1 h2 (by omega)) fun _=>ag (Il N hd hc (by omega)) fun r ⟨h1,h2⟩=>put _ _ _ h1 h2 (by omega)) fun _=>by omega
 ·exact az (fun _=>by omega) fun _=>aj ⟨G.mono (by omega) hI.2.2,Dk.mono hI.2.1 (by omega)⟩
end VM
end
section
namespace VM
open Go VM.F
theorem fE{α:Type}{r:α}:Ok (fun _=>True) (some r):=aj trivial
theorem OZ(N:Nat)(k:Int):Ok (fun s=>ByteArray.size s≤100) (Vc N k):=by
 unfold Vc
 repeat' first|refine ok_eq (fun _=> ?_) (fun _=> ?_)|exact aj (by decide)
theorem O0(N:Nat)(k f:Int):Ok (fun _=>True) (Vd N k f):=by
 unfold Vd acm acn
 repeat' first|refine ok_eq (fun _=> ?_) (fun _=> ?_)|exact fE|refine ag (Q:=fun _=>True) ?_ fun _ _=>fE
theorem RZ(N:Nat)(e:gM)(f:Int):Ok (fun _=>True) (Ve N e f):=by
 unfold Ve
 repeat' first|refine ok_eq (fun _=> ?_) (fun _=> ?_)|exact fE
theorem R1(N:Nat)(e:gM)(f x:Int):Ok (fun _=>True) (Vf N e f x):=by
 unfold Vf
 repeat' first|refine ok_eq (fun _=> ?_) (fun _=> ?_)|exact fE
theorem agc(N:Nat)(hN:1000≤N)(e:gM):Ok (fun _=>True) (nX N e):=by
 unfold nX nX.b aco
 refine ag (Q:=fun _=>True) (dX (fun _=>fE) fun _=>fE) fun _ _=>cw (fun _=>fE) fun _=>ag (OZ N _) fun s hs=> ?_
 refine bN (len:=ByteArray.size s) (F:=fun n i (x:gM)=>nX.l6 N n e s x i) (fun _ _=>True) trivial (by omega) (fun n i x hi _ hr=> ?_) (fun n x _=> ?_)
 all_goals unfold nX.l6 nX.pJ
 ·rw[al (x:=(i:Int)+1) (by omega) (by omega),ae i]
  exact az (fun _=>aC ⟨by omega,by omega⟩ (ag (O0 N _ _) fun _ _=>aC ⟨by omega,by omega⟩ (ag (RZ N _ _) fun _ _=>az (fun _=>fE) fun _=>az (fun _=>fE) fun _=>aC ⟨by omega,by omega⟩ (ag (R1 N _ _ _) fun y _=>hr y trivial)))) fun _=>by omega
 ·exact az (fun _=>by omega) fun _=>fE
theorem G.ins{m:Nat}{e:Ty}{l:List e.den}{x:e.den}(h:G m (.slice e) l)(hx:G m e x)(a b c:Nat)(ha:c≤a):G (m+1) (.slice e) ((([]++List.drop b (List.take c l))++[x])++List.drop a (List.take l.length l)):=by
 have:=h.1
 refine⟨?_,fun y hy=> ?_⟩
 ·simp only[List.nil_append,List.length_append,List.length_drop,List.length_take,List.length_singleton];omega
 ·rw[List.nil_append,List.append_assoc]at hy
  rcases List.mem_append.1 hy with hy|hy
  ·exact G.mono (by omega) (h.2 y (List.mem_of_mem_take (List.mem_of_mem_drop hy)))
  ·rcases List.mem_append.1 hy with hy|hy
   ·rw[List.mem_singleton.1 hy];exact G.mono (by omega) hx
   ·exact G.mono (by omega) (h.2 y (List.mem_of_mem_take (List.mem_of_mem_drop hy)))
theorem R2{α:Type}{P:List α×Int→Prop}{l:List α}{x:α}{k:Nat}{e:Int}(hk:k≤l.length)(hl:l.length≤1000000)(h:P ((([]++List.drop (0:Int).toNat (List.take (k:Int).toNat l))++[x])++List.drop (k:Int).toNat (List.take (l.length:Int).toNat l),e)):
  Ok P (cond (gw 0 (k:Int) (l.length:Int) (l.length:Int)) (let v6:List α:=List.drop (0:Int).toNat (List.take (k:Int).toNat l);cond (small (([]:List α).length+v6.length)) (let v7:List α:=[]++v6;cond (small (v7.length+[x].length)) (let v8:List α:=v7++[x];cond (gw (k:Int) (l.length:Int) (l.length:Int) (l.length:Int)) (let v9:List α:=List.drop (k:Int).toNat (List.take (l.length:Int).toNat l);cond (small (v8.length+v9.length)) (some ((v8++v9),e)) none) none) none) none) none):=by
 dsimp only
 have t: ∀a b:Nat,(List.drop a (List.take b l)).length≤l.length:=fun a b=>by rw[List.length_drop,List.length_take];omega
 have t1:=t (0:Int).toNat (k:Int).toNat
 have t2:=t (k:Int).toNat (l.length:Int).toNat
 refine Fv ⟨by omega,by omega,by omega,by omega⟩ (aN (by rw[List.length_nil];omega) (aN ?_ (Fv ⟨by omega,by omega,by omega,by omega⟩ (aN ?_ (aj h)))))
 ·rw[List.nil_append,List.length_singleton];omega
 ·rw[List.nil_append,List.length_append,List.length_singleton];omega
theorem ah8(N:Nat)(hN:200000≤N){a:av}{m:Nat}(hm:m≤50000)(h:G m (.slice g9) a){id:Int}(aU:aA id):Ok (fun r=>G (m+1) (.slice g9) r.1) (hX N a id):=by
 have hl:=h.1
 unfold hX hX.b
 refine db (oU N (by omega) hN) (cw (fun _=>aj G.nil) fun _=>az (fun _=>aj G.nil) fun _=>az (fun _=>aj G.nil) fun _=>db (kX N (by omega) hN id) (cW (fun _=>aj G.nil) fun _=> ?_))
 have fin: ∀k:Nat,k≤a.length→Ok (fun r=>G (m+1) (.slice g9) r.1) (hX.j9 N a id [] (k:Int)):=fun k hk=>by
  unfold hX.j9 hX.KB
  have hx:G m g9 (id,((1:Int),())):=⟨aU,(show aA 1 from bq),trivial⟩
  exact R2 hk (by omega) (by simpa using G.ins h hx k 0 k (Nat.le_refl _))
 refine lD (len:=a.length) (F:=fun n i=>hX.l7 N n a id [] i) (by omega) (fun n i hi hr=> ?_) (fun n=> ?_)
 all_goals unfold hX.l7 hX.mq
 ·rw[al (x:=(i:Int)+1) (by omega) (by omega),ae i]
  exact az (fun _=>aC ⟨by omega,by omega⟩ (az (fun _=>hr) fun _=>fin i (by omega))) fun _=>by omega
 ·exact az (fun _=>by omega) fun _=>fin _ (Nat.le_refl _)
end VM
end
section
namespace VM
open Go VM.F
theorem G4q{m:Nat}{x:br}{q:Int}(h:G m dB x)(hq:aA q):G m dB (x.1,(x.2.1,(x.2.2.1,(q,x.2.2.2.2)))):=⟨h.1,h.2.1,h.2.2.1,hq,trivial⟩
theorem G4b{m:Nat}{x:br}{q:Int}(h:G m dB x)(hq:aA q):G m dB (x.1,(q,x.2.2)):=⟨h.1,hq,h.2.2⟩
theorem G2b{m:Nat}{x:KL}{q:Int}(h:G m g9 x)(hq:aA q):G m g9 (x.1,(q,x.2.2)):=⟨h.1,hq,trivial⟩
theorem FB(N:Nat)(hN:200000≤N){l:aE}(hl:l.length≤100000):Ok (fun _=>True) (iQ N l):=mf (vE N hl hN) trivial
theorem amd(N:Nat)(hN:200000≤N){a:av}{l:aE}{x:br}{m:Nat}(hm:m≤50000)(ha:G m (.slice g9) a)(h:G m (.slice dB) l)(hx:G 0 dB x):Ok (fun r=>G (m+1) (.slice dB) r.1) (eP N a l x):=by
 have h1:=ha.1
 have hl:=h.1
 have fin: ∀k:Nat,k≤l.length→Ok (fun r=>G (m+1) (.slice dB) r.1) (eP.wA N l x [] (k:Int)):=fun k hk=>by
  unfold eP.wA eP.pS
  exact R2 hk (by omega) (by simpa using G.ins h (G.mono (Nat.zero_le m) hx) k 0 k (Nat.le_refl _))
 have hj:Ok (fun r=>G (m+1) (.slice dB) r.1) (eP.J3 N l x):=by
  unfold eP.J3 eP.Bx
  refine lD (len:=l.length) (F:=fun n i=>eP.mB N n l x [] i) (by omega) (fun n i hi hr=> ?_) (fun n=> ?_)
  all_goals unfold eP.mB eP.kH
  ·rw[al (x:=(i:Int)+1) (by omega) (by omega),ae i]
   exact az (fun _=>aC ⟨by omega,by omega⟩ (az (fun _=>hr) fun _=>fin i (by omega))) fun _=>by omega
  ·exact az (fun _=>by omega) fun _=>fin _ (Nat.le_refl _)
 unfold eP eP.b
 exact db (AH N (by omega) (by omega) hN) (cw (fun _=>aj G.nil) fun _=>ag (FB N hN (by rw[List.length_singleton];omega)) fun _ _=>cw (fun _=>aj G.nil) fun _=>db (kX N (by omega) hN _) (ok_eq (fun _=>aj G.nil) fun _=>cW (fun _=>aj G.nil) fun _=>db (vC N (by omega) hN _) (tk (fun _=>aj G.nil) fun _=>ok_eq (fun _=>db (Dc N (by omega) hN _) (cW (fun _=>aj G.nil) fun _=>hj)) fun _=>hj)))
theorem ah9(N:Nat)(hN:200000≤N){l:aE}{m:Nat}(hm:m≤50000)(h:G m (.slice dB) l){id q:Int}(hq:aA q):Ok (fun r=>G m (.slice dB) r.1) (nY N l id q):=by
 have hl:=h.1
 unfold nY nY.b
 refine ag (FB N hN (by omega)) fun _ _=>cw (fun _=>aj G.nil) fun _=>az (fun _=>aj G.nil) fun _=>az (fun _=>aj G.nil) fun _=>db (vC N (by omega) hN _) (cw (fun _=>aj G.nil) fun _=>aN (by rw[List.length_nil];omega) ?_)
 rw[List.nil_append]
 refine bN (len:=l.length) (F:=fun n i s=>nY.l8 N n id q s i) (fun _ s=>s.length=l.length∧G m (.slice dB) s) ⟨rfl,h⟩ (by omega) (fun n i s hi hI hr=> ?_) (fun n s hI=> ?_)
 all_goals unfold nY.l8 nY.zt
 ·rw[al (x:=(i:Int)+1) (by omega) (by omega),ae i]
  have hs:=hI.1
  have hx:=G.at hI.2 (i:Int).toNat
  exact az (fun _=>aC ⟨by omega,by omega⟩ (ok_eq (fun _=>aC ⟨by omega,by omega⟩ (hr _ ⟨by rw[List.length_set];exact hs,G.set hI.2 (G4q hx hq) _⟩)) fun _=>hr s hI)) fun _=>by omega
 ·have hs:=hI.1
  exact az (fun _=>by omega) fun _=>aj hI.2
theorem R3(N:Nat)(a b:Int):Ok (fun r=>aA r.1) (Vg N a b):=by
 have h: ∀(x:Int) (t:Bool),0≤x∧x<5→Ok (fun r:Int×Bool=>aA r.1) (some (x,t)):=fun x t hx=>aj (ji hx (by decide))
 unfold Vg
 repeat' first|refine ok_eq (fun _=> ?_) (fun _=> ?_)|exact h _ _ (by decide)
theorem ame(N:Nat)(hN:200000≤N){l:av}{m:Nat}(hm:m≤50000)(h:G m (.slice g9) l)(id k:Int):Ok (fun r=>G m (.slice g9) r.1) (mh N l id k):=by
 have hl:=h.1
 unfold mh mh.b
 refine db (oU N (by omega) hN) (cw (fun _=>aj G.nil) fun _=>db (kX N (by omega) hN _) (ok_eq (fun _=>aj G.nil) fun _=>ag (R3 N _ _) fun z hz=>cw (fun _=>aj G.nil) fun _=>aN (by rw[List.length_nil];omega) ?_))
 rw[List.nil_append]
 refine bN (len:=l.length) (F:=fun n i s=>mh.zy N n id z.1 s i) (fun _ s=>s.length=l.length∧G m (.slice g9) s) ⟨rfl,h⟩ (by omega) (fun n i s hi hI hr=> ?_) (fun n s hI=> ?_)
 all_goals unfold mh.zy mh.w1
 ·rw[al (x:=(i:Int)+1) (by omega) (by omega),ae i]
  have hs:=hI.1
  have hx:=G.at hI.2 (i:Int).toNat
  exact az (fun _=>aC ⟨by omega,by omega⟩ (ok_eq (fun _=>aC ⟨by omega,by omega⟩ (hr _ ⟨by rw[List.length_set];exact hs,G.set hI.2 (G2b hx hz) _⟩)) fun _=>hr s hI)) fun _=>by omega
 ·have hs:=hI.1
  exact az (fun _=>by omega) fun _=>aj hI.2
theorem Lv(N:Nat)(hN:200000≤N){a:av}{l:aE}{m:Nat}(hm:m≤50000)(ha:G m (.slice g9) a)(h:G m (.slice dB) l){id to:Int}(hto:aA to):Ok (fun r=>G m (.slice dB) r.1) (nZ N a l id to):=by
 have h1:=ha.1
 have hl:=h.1
 unfold nZ nZ.b
 refine db (AH N (by omega) (by omega) hN) (cw (fun _=>aj G.nil) fun _=>db (vC N (by omega) hN _) (db (kX N (by omega) hN _) (cw (fun _=>aj G.nil) fun _=>ok_eq (fun _=>aj G.nil) fun _=>cW (fun _=>aj G.nil) fun _=>cW (fun _=>aj G.nil) fun _=>aN (by rw[List.length_nil];omega) ?_)))
 rw[List.nil_append]
 refine bN (len:=l.length) (F:=fun n i s=>nZ.mB N n id to s i) (fun _ s=>s.length=l.length∧G m (.slice dB) s) ⟨rfl,h⟩ (by omega) (fun n i s hi hI hr=> ?_) (fun n s hI=> ?_)
 all_goals unfold nZ.mB nZ.kH
 ·rw[al (x:=(i:Int)+1) (by omega) (by omega),ae i]
  have hs:=hI.1
  have hx:=G.at hI.2 (i:Int).toNat
  exact az (fun _=>aC ⟨by omega,by omega⟩ (ok_eq (fun _=>aC ⟨by omega,by omega⟩ (hr _ ⟨by rw[List.length_set];exact hs,G.set hI.2 (G4b hx hto) _⟩)) fun _=>hr s hI)) fun _=>by omega
 ·have hs:=hI.1
  exact az (fun _=>by omega) fun _=>aj hI.2
theorem R4(N:Nat)(hN:200000≤N){l:aE}{m:Nat}(hm:m≤50000)(h:G m (.slice dB) l)(id:Int):Ok (fun r=>r.length≤m) (n0 N l id):=by
 have hl:=h.1
 unfold n0 n0.b
 refine ag (FB N hN (by omega)) fun _ _=>cw (fun _=>aj (Nat.zero_le _)) fun _=>bN (len:=l.length) (F:=fun n i s=>n0.l5 N n l id s i) (fun i s=>s.length≤i) (Nat.zero_le _) (by omega) (fun n i s hi hI hr=> ?_) (fun n s hI=> ?_)
 all_goals unfold n0.l5 n0.c5
 ·rw[al (x:=(i:Int)+1) (by omega) (by omega),ae i]
  exact az (fun _=>aC ⟨by omega,by omega⟩ (ok_eq (fun _=>aC ⟨by omega,by omega⟩ (aN (by rw[List.length_singleton];omega) (hr _ (by rw[List.length_append,List.length_singleton];omega)))) fun _=>hr s (by omega))) fun _=>by omega
 ·exact az (fun _=>by omega) fun _=>aj (by omega)
abbrev L6(m:Nat)(l:aT):Prop:=G m (.slice jA) l
theorem R5(N:Nat)(hN:200000≤N){l:aT}{a:List Int}{m:Nat}(hm:m≤50000)(h:L6 m l)(ha:a.length≤m):Ok (fun r=>L6 m r) (fh N l a):=by
 have hl:=h.1
 unfold fh fh.b
 refine db (nO N (by omega) hN) (cw (fun _=>aj G.nil) fun _=>bN (len:=l.length) (F:=fun n i s=>fh.l5 N n l a s i) (fun i s=>L6 i s) G.nil (by omega) (fun n i s hi hI hr=> ?_) (fun n s hI=> ?_))
 all_goals unfold fh.l5 fh.c5
 ·have hs:=hI.1
  refine az (fun _=> ?_) fun _=>by omega
  refine bN (len:=a.length) (F:=fun n' j b=>fh.l9 N (fh.l5 N n) n' l a s (i:Int) b j) (fun _ _=>True) trivial (by omega) (fun n' j b hj _ dw=> ?_) (fun n' b _=> ?_)
  all_goals unfold fh.l9 fh.tG
  ·rw[al (x:=(j:Int)+1) (by omega) (by omega),ae j]
   exact az (fun _=>tk (fun _=>dw _ trivial) fun _=>aC ⟨by omega,by omega⟩ (aC ⟨by omega,by omega⟩ (dw _ trivial))) fun _=>by omega
  ·rw[al (x:=(i:Int)+1) (by omega) (by omega),ae i]
   have hx:G 0 jA (l.getD (i:Int).toNat dP):=G.at h _
   exact az (fun _=>by omega) fun _=>cw (fun _=>aC ⟨by omega,by omega⟩ (aN (by rw[List.length_singleton];omega) (hr _ (G.cat hI (G.one hx (Nat.le_refl 1)))))) fun _=>hr s (G.mono (by omega) hI)
 ·exact az (fun _=>by omega) fun _=>aj (G.mono hl hI)
theorem aaj(N:Nat)(hN:5000000≤N)(c:aa){b:af}{m:Nat}(hm:m≤50000)(hb:G m aB b)(id:Int):Ok (fun r=>G m aB r.1) (R6 N c b id):=by
 unfold R6
 exact db (eJ N hN hm hb) (cw (fun _=>aj G.fJ) fun _=>ag (nv N (by omega) hm hb.1 _) fun _ _=>ok_eq (fun _=>aj G.fJ) fun _=>ag (R4 N (by omega) hm hb.2.1 _) fun a ha=>ag (R5 N (by omega) hm hb.2.2.2.2.2.1 ha) fun r hr=>aj ⟨hb.1,hb.2.1,hb.2.2.1,hb.2.2.2.1,hb.2.2.2.2.1,hr,trivial⟩)
theorem agd(N:Nat)(hN:200000≤N){l:aT}{m:Nat}(hm:m≤50000)(h:L6 m l)(a id:Int):Ok (fun r=>L6 m r.1) (n4 N l a id):=by
 have hl:=h.1
 unfold n4 n4.b
 refine db (nO N (by omega) hN) (cw (fun _=>aj G.nil) fun _=>bN (len:=l.length) (F:=fun n i s=>n4.l5 N n l a id s i) (fun i s=>L6 i s) G.nil (by omega) (fun n i s hi hI hr=> ?_) (fun n s hI=> ?_))
 all_goals unfold n4.l5 n4.c5
 ·have hs:=hI.1
  have hx:G 0 jA (l.getD (i:Int).toNat dP):=G.at h _
  rw[al (x:=(i:Int)+1) (by omega) (by omega),ae i]
  have h1:=hr s (G.mono (by omega) hI)
  have h2:=hr _ (G.cat hI (G.one hx (Nat.le_refl 1)))
  repeat' first|exact h1|exact h2|refine aN (by rw[List.length_singleton];omega) ?_|refine aC ⟨by omega,by omega⟩ ?_|refine az (fun _=> ?_) (fun _=> ?_)|refine cW (fun _=> ?_) (fun _=> ?_)|(exfalso;omega)
 ·exact az (fun _=>by omega) fun _=>ok_eq (fun _=>aj G.nil) fun _=>aj (G.mono hl hI)
end VM
end
section
namespace VM
open Go VM.F
theorem G6q{m:Nat}{x:ck}{q:Int}(h:G m jA x)(hq:aA q):G m jA (x.1,(x.2.1,(x.2.2.1,(x.2.2.2.1,(q,x.2.2.2.2.2))))):=⟨h.1,h.2.1,h.2.2.1,h.2.2.2.1,hq,h.2.2.2.2.2⟩
theorem Vh(N:Nat)(hN:200000≤N){l:aT}{m:Nat}(hm:m≤50000)(h:L6 m l)(a d:Int):Ok (fun r=>L6 m r) (dt N l a d):=by
 have hl:=h.1
 unfold dt dt.b
 refine db (nO N (by omega) hN) (cw (fun _=>aj G.nil) fun _=>bN (len:=l.length) (F:=fun n i s=>dt.l5 N n l a d s i) (fun i s=>L6 i s) G.nil (by omega) (fun n i s hi hI hr=> ?_) (fun n s hI=> ?_))
 all_goals unfold dt.l5 dt.c5
 ·have hs:=hI.1
  have hx:G 0 jA (l.getD (i:Int).toNat dP):=G.at h _
  have fin: ∀k:Nat,k≤s.length→Ok (fun r=>L6 m r) (dt.J3 N (dt.l5 N n) l a d s (i:Int) (k:Int)):=fun k hk=>by
   unfold dt.J3 dt.Bx
   rw[al (x:=(i:Int)+1) (by omega) (by omega),ae i]
   dsimp only
   have t: ∀a b:Nat,(List.drop a (List.take b s)).length≤s.length:=fun a b=>by rw[List.length_drop,List.length_take];omega
   have t1:=t (0:Int).toNat (k:Int).toNat
   have t2:=t (k:Int).toNat (s.length:Int).toNat
   refine Fv ⟨by omega,by omega,by omega,by omega⟩ (aN (by omega) (aC ⟨by omega,by omega⟩ (aN (by rw[List.length_singleton];omega) (Fv ⟨by omega,by omega,by omega,by omega⟩ (aN (by rw[List.length_append,List.length_singleton];omega) (hr _ ?_))))))
   simpa using G.ins hI (G.mono (Nat.zero_le i) hx) k 0 k (Nat.le_refl _)
  have h1:=hr s (G.mono (by omega) hI)
  have hw:Ok (fun r=>L6 m r) (dt.l9 N (dt.l5 N n) N l a d s (i:Int) 0):=by
   refine lD (len:=s.length) (F:=fun n' j=>dt.l9 N (dt.l5 N n) n' l a d s (i:Int) j) (by omega) (fun n' j hj dw=> ?_) (fun n'=> ?_)
   all_goals unfold dt.l9 dt.tG
   ·rw[al (x:=(j:Int)+1) (by omega) (by omega),ae j]
    have hah: ∀x y:ck,Ok (fun _=>True) (Vi N x y):=fun x y=>by unfold Vi;exact cW (fun _=>fE) fun _=>fE
    exact az (fun _=>aC ⟨by omega,by omega⟩ (aC ⟨by omega,by omega⟩ (ag (hah _ _) fun _ _=>tk (fun _=>dw) fun _=>fin j (by omega)))) fun _=>by omega
   ·exact az (fun _=>by omega) fun _=>fin _ (Nat.le_refl _)
  rw[al (x:=(i:Int)+1) (by omega) (by omega),ae i]
  repeat' first|exact h1|exact hw|refine aC ⟨by omega,by omega⟩ ?_|refine az (fun _=> ?_) (fun _=> ?_)|refine cW (fun _=> ?_) (fun _=> ?_)|(exfalso;omega)
 ·exact az (fun _=>by omega) fun _=>aj (G.mono hl hI)
theorem R7(N:Nat)(hN:200000≤N){l:aT}{o:ck}{m:Nat}(hm:m≤50000)(h:L6 m l)(ho:G 0 jA o):Ok (fun r=>L6 m r.1∧aA r.2.2.1) (bX N l o):=by
 have hl:=h.1
 have fin: ∀(s:aT) (q:Int) (t:aX),L6 m s→aA q→Ok (fun r=>L6 m r.1∧aA r.2.2.1) (bX.j22 N s q t):=fun s q t hs hq=>by
  have hsl:=hs.1
  unfold bX.j22 bX.acp
  refine bN (len:=s.length) (F:=fun n i u=>bX.zn N n s q t u i) (fun i u=>L6 i u) G.nil (by omega) (fun n i u hi hI hr=> ?_) (fun n u hI=> ?_)
  all_goals unfold bX.zn bX.Aw
  ·have hu:=hI.1
   have hx:G 0 jA (s.getD (i:Int).toNat dP):=G.at hs _
   rw[al (x:=(i:Int)+1) (by omega) (by omega),ae i]
   have h1:=hr u (G.mono (by omega) hI)
   have h2:=hr _ (G.cat hI (G.one hx (Nat.le_refl 1)))
   repeat' first|exact h1|exact h2|refine aN (by rw[List.length_singleton];omega) ?_|refine aC ⟨by omega,by omega⟩ ?_|refine az (fun _=> ?_) (fun _=> ?_)|(exfalso;omega)
  ·exact az (fun _=>by omega) fun _=>aj ⟨G.mono hsl hI,hq⟩
 have gi:Ok (fun r:aT×aX×Int×Int=>L6 m r.1∧aA r.2.2.1) (some ([],[],(0:Int),(1:Int))):=aj ⟨G.nil,bx⟩
 unfold bX bX.b
 refine db (nO N (by omega) hN) (cw (fun _=>gi) fun _=>db (sS N o) (cw (fun _=>gi) fun _=>aN (by rw[List.length_nil];omega) (ag (Vh N hN hm h _ _) fun w hw=> ?_)))
 have hwl:=hw.1
 rw[List.nil_append]
 refine bN (len:=w.length) (F:=fun n i (s:aT×Int×aX)=>bX.l7 N n o s.1 s.2.1 s.2.2 w i) (s:=(_,(_,_))) (fun i s=>L6 m s.1∧aA s.2.1∧s.2.2.length≤i) ⟨h,ho.2.2.2.2.1,Nat.zero_le _⟩ (by omega) (fun n i s hi hI hr=> ?_) (fun n s hI=> ?_)
 all_goals unfold bX.l7 bX.mq
 ·obtain⟨hs,hq,ht⟩:=hI
  have f1:=fin s.1 s.2.1 s.2.2 hs hq
  have an9: ∀(v:Int) (t:gg),Ok (fun r=>L6 m r.1∧aA r.2.2.1) (bX.wA N (bX.l7 N n) o s.1 s.2.1 s.2.2 w (i:Int) v t):=fun v t=>by
   unfold bX.wA bX.pS
   refine aN (by rw[List.length_singleton];omega) (bN (len:=s.1.length) (F:=fun n' j u=>bX.F3 N (bX.l7 N n) n' o u (W .i64 (s.2.1-v)) (s.2.2++[t]) w (i:Int) v j) (fun _ u=>u.length=s.1.length∧L6 m u) ⟨rfl,hs⟩ (by have:=hs.1;omega) (fun n' j u hj hJ dw=> ?_) (fun n' u hJ=> ?_))
   all_goals unfold bX.F3 bX.CD
   ·have hsl:=hs.1
    have hul:=hJ.1
    rw[al (x:=(j:Int)+1) (by omega) (by omega),ae j]
    exact az (fun _=>aC ⟨by omega,by omega⟩ (aC ⟨by omega,by omega⟩ (ok_eq (fun _=>aC ⟨by omega,by omega⟩ (aC ⟨by omega,by omega⟩ (dw _ ⟨by rw[List.length_set];exact hul,G.set hJ.2 (G6q (G.at hJ.2 _) (fy _)) _⟩))) fun _=>dw u hJ))) fun _=>by omega
   ·have hul:=hJ.1
    rw[al (x:=(i:Int)+1) (by omega) (by omega),ae i]
    exact az (fun _=>by omega) fun _=>hr (_,(_,_)) ⟨hJ.2,fy _,by dsimp only;rw[List.length_append,List.length_singleton];omega⟩
  have Vj:Ok (fun r=>L6 m r.1∧aA r.2.2.1) (bX.R8 N (bX.l7 N n) o s.1 s.2.1 s.2.2 w (i:Int)):=by
   unfold bX.R8 bX.Lw
   rw[al (x:=(i:Int)+1) (by omega) (by omega),ae i]
   dsimp only
   have h1:=hr s ⟨hs,hq,by omega⟩
   repeat' first|exact h1|exact an9 _ _|refine aC ⟨by omega,by omega⟩ ?_|refine ok_eq (fun _=> ?_) (fun _=> ?_)
  repeat' first|exact f1|exact Vj|refine aC ⟨by omega,by omega⟩ ?_|refine az (fun _=> ?_) (fun _=> ?_)|refine ok_eq (fun _=> ?_) (fun _=> ?_)|(exfalso;omega)
 ·exact az (fun _=>by omega) fun _=>fin _ _ _ hI.1 hI.2.1
theorem aia(N:Nat)(hN:5000000≤N){c:aa}{b:af}{o:ck}{m:Nat}(h2:200≤m)(hm:m≤40000)(hc:G m ar c)(hb:G m aB b)(ho:G 0 jA o):Ok (fun r=>G (m+1) aB r.1) (jK N c b o):=by
 have tY:=hb.2.2.2.2.2.1.1
 have gi: ∀(t:aX) (e:Int),Ok (fun r:af×aX×Int×Int=>G (m+1) aB r.1) (some ((bK,(cg,(aY,(aY,(cD,(cJ,())))))),(t,((0:Int),e)))):=fun t e=>aj (G.zero (m+1) aB)
 have Vj: ∀(r:aT) (t:aX) (q:Int),L6 m r→aA q→Ok (fun r=>G (m+1) aB r.1) (jK.R8 N c b o (bK,(cg,(aY,(aY,(cD,(cJ,())))))) r t q):=fun r t q hr hq=>by
  have Kf:=hr.1
  unfold jK.R8 jK.Lw
  have hx:G 0 jA (o.1,(o.2.1,(o.2.2.1,(o.2.2.2.1,(q,o.2.2.2.2.2))))):=G6q ho hq
  exact ag (DW N hN c h2 (by omega) hb) fun z hz=>cW (fun _=>gi _ _) fun _=>by
   have zk:G (m+1) aB z.1:=G.mono (by omega) hz
   exact az (fun _=>aN (by rw[List.length_singleton];omega) (aj ⟨zk.1,zk.2.1,zk.2.2.1,zk.2.2.2.1,zk.2.2.2.2.1,G.cat hr (G.one hx (Nat.le_refl 1)),trivial⟩)) fun _=>aj ⟨zk.1,zk.2.1,zk.2.2.1,zk.2.2.2.1,zk.2.2.2.2.1,G.mono (by omega) hr,trivial⟩
 have hj7:Ok (fun r=>G (m+1) aB r.1) (jK.j7 N c b o (bK,(cg,(aY,(aY,(cD,(cJ,()))))))):=by
  unfold jK.j7 jK.Kz
  exact ag (R7 N (by omega) (by omega) hb.2.2.2.2.2.1 ho) fun z hz=>az (fun _=>ok_eq (fun _=>gi _ _) fun _=>Vj _ _ _ hz.1 hz.2) fun _=>Vj _ _ _ hz.1 hz.2
 unfold jK jK.b
 refine ag (Ii N hN h2 hm hc hb (G.mono (Nat.zero_le m) ho)) fun e _=>cW (fun _=>gi _ _) fun _=>az (fun h0=> ?_) fun _=>hj7
 dsimp only
 exact aC (by rw[al (by omega) (by omega)];omega) (dX (fun _=>gi _ _) fun _=>hj7)
end VM
end
section
namespace VM
open Go VM.F
theorem acr(N:Nat)(a:Int):Ok (fun _=>True) (E3 N a):=by
 unfold E3
 exact ok_eq (fun _=>fE) fun _=>fE
theorem iu.one{k n:Int}{x:aw}{m:Nat}(h:Bg m x)(hm:m≤8):iu 1 [(k,(n,(x,())))]:=⟨Nat.le_refl 1,fun y hy=>by rw[List.mem_singleton.1 hy];exact Bg.mono h hm⟩
theorem R9(N:Nat)(hN:4000000≤N){l:ah}{m:Nat}(hm:m≤50000)(h:L3 m l)(i a b:Int):Ok (fun r=>iu m r.1) (n5 N l i a b):=by
 have hl:=h.1
 unfold n5 n5.b
 have p64: ∀p:Int,decide (1≤p∧p≤1000000000000)=true→aA p:=fun p h=>by have:=of_decide_eq_true h;unfold aA;omega
 refine db (ns N (by omega) (by omega)) (cw (fun _=>aj iu.nil) fun _=>db (gY N _) (cw (fun _=>aj iu.nil) fun ha=>db (gY N _) (cw (fun _=>aj iu.nil) fun hb=>ag (bt N hN (p64 _ hb)) fun x hx=>ag (bt N hN (p64 _ ha)) fun y hy=>ag (zF N hN (by omega) hx hy) fun z hz=>bN (len:=l.length) (F:=fun n j s=>n5.l6 N n l i s z j) (fun j s=>iu j s) iu.nil (by omega) (fun n j s hj hI hr=> ?_) (fun n s hI=> ?_))))
 all_goals unfold n5.l6 n5.pJ
 ·have hs:=hI.1
  rw[al (x:=(j:Int)+1) (by omega) (by omega),ae j]
  have h1:=hr s (iu.mono hI (by omega))
  exact az (fun _=>aC ⟨by omega,by omega⟩ (cW (fun _=>h1) fun _=>ag (zG N hz) fun _ _=>ok_eq (fun _=>h1) fun _=>aC ⟨by omega,by omega⟩ (ag (acr N _) fun _ _=>aC ⟨by omega,by omega⟩ (ag (bt N hN (G.at h _).2.2.1) fun v hv=>ag (mg N hN (by omega) (by omega) hv hz) fun u hu=>aN (by rw[List.length_singleton];omega) (hr _ (iu.app hI (iu.one hu (by omega)))))))) fun _=>by omega
 ·exact az (fun _=>by omega) fun _=>aj (iu.mono hI (by omega))
theorem aak(N:Nat)(hN:5000000≤N)(c:aa){b:af}{m:Nat}(h2:200≤m)(hm:m≤50000)(hb:G m aB b)(i:Int){p:Int}(hp:aA p):Ok (fun r=>G m aB r.1∧iu m r.2.1) (Vk N c b i p):=by
 have gi: ∀e:Int,Ok (fun r:af×bw×Int=>G m aB r.1∧iu m r.2.1) (some ((bK,(cg,(aY,(aY,(cD,(cJ,())))))),([],e))):=fun e=>aj ⟨G.fJ,iu.nil⟩
 have z5:=hb.2.2.2.2.1.1
 unfold Vk
 refine db (eJ N hN hm hb) (cw (fun _=>gi _) fun hB=>db (gY N _) (cw (fun _=>gi _) fun _=>az (fun _=>gi _) fun h0=>dX (fun _=>gi _) fun h1=> ?_))
 obtain⟨yP,_⟩:=cK hB
 dsimp only
 rw[List.nil_append]
 exact aC ⟨h0,by rw[yP];exact h1⟩ (ag (R9 N (by omega) hm hb.2.2.2.1 _ _ _) fun f hf=>ag (qQ N (by omega) h2 hm hb G.nil (iu.mono hf hm)) fun r hr=>cW (fun _=>gi _) fun _=>aN (by rw[List.length_nil];omega) (aC ⟨h0,by rw[yP];exact h1⟩ (aj ⟨⟨hr.1,hr.2.1,hr.2.2.1,hr.2.2.2.1,G.set hb.2.2.2.2.1 hp _,hr.2.2.2.2.2⟩,hf⟩)))
abbrev L2(m:Nat)(l:av):Prop:=G m (.slice g9) l
theorem G2{m:Nat}{a b:Int}(ha:aA a)(hb:aA b):G m g9 (a,(b,())):=⟨ha,hb,trivial⟩
theorem DY(N:Nat)(hN:200000≤N){l:av}(hl:l.length≤100000):Ok (fun _=>True) (m9 N l):=by
 unfold m9 m9.b
 refine lD (len:=l.length) (F:=fun n i=>m9.l2 N n l i) (by omega) (fun n i hi hr=> ?_) (fun n=> ?_)
 all_goals unfold m9.l2 m9.dx
 ·rw[al (x:=(i:Int)+1) (by omega) (by omega),ae i]
  dsimp only
  repeat' first|exact hr|exact fE|refine aC ⟨by omega,by omega⟩ ?_|refine aC (by rw[al (x:=(i:Int)-1) (by omega) (by omega)];omega) ?_|refine az (fun _=> ?_) (fun _=> ?_)|refine dX (fun _=> ?_) (fun _=> ?_)|refine ok_eq (fun _=> ?_) (fun _=> ?_)|(exfalso;omega)
 ·exact az (fun _=>by omega) fun _=>fE
theorem aib(N:Nat)(hN:4000000≤N){g:av}{p:bw}{m:Nat}(h2:200≤m)(hm:m≤50000)(h:L2 m g)(hp:iu m p):Ok (fun r=>L2 m r.1) (dk N g p):=by
 have hl:=h.1
 have z5:=hp.1
 unfold dk dk.b
 refine ag (DY N (by omega) (by omega)) fun _ _=>cw (fun _=>aj G.nil) fun _=>kA (len:=25) (F:=fun n i s=>dk.l5 N n g p s i) (fun i s=>L2 i s) (fun n i s hi hI hr=> ?_) (fun n s hI=> ?_) 25 N 1 [] (by omega) (by omega) (by omega) G.nil
 all_goals unfold dk.l5 dk.c5
 ·have hs:=hI.1
  refine dX (fun _=> ?_) fun _=>by omega
  refine bN (len:=g.length) (F:=fun n' j t=>dk.l9 N (dk.l5 N n) n' g p s (i:Int) t j) (fun _ t=>Bg 2 t) (Fw (by omega)) (by omega) (fun n' j t hj ht dw=> ?_) (fun n' t ht=> ?_)
  all_goals unfold dk.l9 dk.tG
  ·rw[al (x:=(j:Int)+1) (by omega) (by omega),ae j]
   exact az (fun _=>aC ⟨by omega,by omega⟩ (ok_eq (fun _=>aC ⟨by omega,by omega⟩ (ag (bt N hN (G.at h _).2.1) fun r hr=>dw r hr)) fun _=>dw t ht)) fun _=>by omega
  ·refine az (fun _=>by omega) fun _=> ?_
   refine bN (len:=p.length) (F:=fun DV j t=>dk.F2 N (dk.l5 N n) DV g p s (i:Int) t j) (fun j t=>Bg (8+j) t) (Bg.mono ht (by omega)) (by omega) (fun DV j t hj ht dw=> ?_) (fun DV t ht=> ?_)
   all_goals unfold dk.F2 dk.Cy
   ·rw[al (x:=(j:Int)+1) (by omega) (by omega),ae j]
    have h1:=dw t (Bg.mono ht (by omega))
    exact az (fun _=>aC ⟨by omega,by omega⟩ (ok_eq (fun _=>aC ⟨by omega,by omega⟩ (ok_eq (fun _=>aC ⟨by omega,by omega⟩ (ag (g8 N hN (by omega) ht (Bg.mono (hp.at _) (by omega))) fun r hr=>dw r (Bg.mono hr (by omega)))) fun _=>h1)) fun _=>h1)) fun _=>by omega
   ·rw[al (x:=(i:Int)+1) (by omega) (by omega),ae i]
    exact az (fun _=>by omega) fun _=>ag (uE N ht) fun v hv=>cw (fun _=>aj G.nil) fun _=>cW (fun _=>aN (by rw[List.length_singleton];omega) (hr _ (G.cat hI (G.one (m:=1) (G2 (gL (by omega) (by omega)) hv) (Nat.le_refl 1))))) fun _=>hr s (G.mono (by omega) hI)
 ·exact dX (fun _=>by omega) fun _=>aj (G.mono (by omega) hI)
theorem qT(N:Nat)(hN:4000000≤N)(a b c d:Int){x:aw}(h:Bg 8 x):Ok (fun r=>iu 2 r) (By N a b c d x):=by
 unfold By
 exact ag (s5 N hN (by omega) h) fun y hy=>aj ⟨Nat.le_refl 2,fun z hz=>by
  rcases List.mem_cons.1 hz with rfl|hz
  ·exact hy
  ·rw[List.mem_singleton.1 hz];exact h⟩
theorem aal(N:Nat)(hN:5000000≤N){c:aa}{b:af}{m:Nat}(h2:200≤m)(hm:m≤40000)(hc:G m ar c)(hb:G m aB b)(a:Int){q:Int}(hq:aA q):Ok (fun r=>G m aB r.1) (Vl N c b a q):=by
 unfold Vl
 exact db (eJ N hN (by omega) hb) (cw (fun _=>aj G.fJ) fun _=>az (fun _=>aj G.fJ) fun _=>ag (s6 N (by omega) (by omega) hb.2.1 _) fun _ _=>cw (fun _=>aj G.fJ) fun _=>ag (nv N (by omega) (by omega) hb.1 _) fun _ _=>cW (fun _=>aj G.fJ) fun _=>ag (pg N (by omega) (by omega) hb.2.2.1 _ _) fun g hg=>ag (bt N (by omega) hg) fun x hx=>ag (bt N (by omega) hq) fun y hy=>ag (zF N (by omega) (by omega) hx hy) fun z hz=>ag (Ih N (by omega) h2 hm hc hb (Nat.zero_le _) _) fun w hw=>ag (uD N (by omega) (by omega) (by omega) hz hw) fun _ _=>az (fun _=>aj G.fJ) fun _=>ag (bt N (by omega) hq) fun y hy=>ag (qT N (by omega) _ _ _ _ (Bg.mono hy (by omega))) fun p hp=>ag (qQ N (by omega) h2 (by omega) hb G.nil (iu.mono hp (by omega))) fun r hr=>aj hr)
theorem acs(N:Nat)(hN:1000≤N){c:aa}(hc:G 5 ar c):Ok (fun r=>G 5 aB r.1) (hZ N c):=by
 have hl:=hc.1.1
 unfold hZ hZ.b
 have hj: ∀b:af,G 5 aB b→Ok (fun r=>G 5 aB r.1) (hZ.j6 N c (bK,(cg,(aY,(aY,(cD,(cJ,())))))) b []):=fun b hb=>by
  unfold hZ.j6 hZ.J0
  obtain⟨b1,b2,b3,b4,b5,b6⟩:=b
  refine bN (len:=c.1.length) (F:=fun n i (z:af×List Int)=>hZ.l7 N n c (bK,(cg,(aY,(aY,(cD,(cJ,())))))) z.1 z.2 i) (s:=((b1,(b2,(b3,(b4,(b5,b6))))),_)) (fun i z=>G 5 aB z.1∧G i (.slice (.int .i64)) z.2) ⟨hb,G.nil⟩ (by omega) (fun n i z hi hI hr=> ?_) (fun n z hI=> ?_)
  all_goals unfold hZ.l7 hZ.mq
  ·have hz:=hI.2.1
   rw[al (x:=(i:Int)+1) (by omega) (by omega),ae i]
   have hx:G 0 (.int .i64) (c.1.getD (i:Int).toNat aK).2.1:=(G.at hc.1 _).2.1
   exact az (fun _=>aC ⟨by omega,by omega⟩ (aN (by rw[List.length_singleton];omega) (hr (_,_) ⟨⟨hI.1.1,hI.1.2.1,hI.1.2.2.1,hI.1.2.2.2.1,G.nil,hI.1.2.2.2.2.2⟩,G.cat hI.2 (G.one hx (Nat.le_refl 1))⟩))) fun _=>by omega
  ·exact az (fun _=>by omega) fun _=>aj ⟨hI.1.1,hI.1.2.1,hI.1.2.2.1,hI.1.2.2.2.1,G.mono hl hI.2,hI.1.2.2.2.2.2⟩
 have S1:L3 5 [((1:Int),((0:Int),(W .i64 (0-c.2.1),()))),((3:Int),((0:Int),(c.2.1,())))]:=G.two (G3 (show aA 1 from bq) bx (fy _)) (G3 (show aA 3 from bq) bx hc.2.1) (by decide)
 exact db (nN N (by omega) c) (cw (fun _=>aj G.fJ) fun _=>cW (fun _=>hj _ ⟨G.nil,G.nil,S1,G.nil,G.nil,G.nil,trivial⟩) fun _=>hj _ G.fJ)
end VM
end
section
namespace VM
open Go VM.F
theorem xb(N:Nat)(hN:4000000≤N){c:aa}{l:av}{m:Nat}(hm:m≤50000)(hc:G m ar c)(hl:L2 m l)(f:Bool):Ok (fun r=>Bg 60000 r.1) (mJ N c l f):=by
 have h1:=hl.1
 unfold mJ mJ.b
 refine db (pP N (by omega) c (by omega)) (cw (fun _=>aj (Fw (by omega))) fun hk=>bN (len:=l.length) (F:=fun n i t=>mJ.l5 N n l f c (false,(([]:List Int),())) t i) (fun i t=>Bg (8+i) t) (Fw (by omega)) (by omega) (fun n i t hi ht hr=> ?_) (fun n t ht=> ?_))
 all_goals unfold mJ.l5 mJ.c5
 ·rw[al (x:=(i:Int)+1) (by omega) (by omega),ae i,Int.toNat_natCast]
  unfold ke at hk
  have hp:=of_decide_eq_true (Bool.and_eq_true_iff.1 hk).1 i hi
  unfold kK mA at hp
  have in1: ∀{x y:Option (aw×Int)},Ok (fun r=>Bg 60000 r.1) x→Ok (fun r=>Bg 60000 r.1) (cond (aH (l.getD i bI).1 c.1.length) x y):=fun h=>aC ⟨hp.1,hp.2.1⟩ h
  have hw: ∀q:Int,aA q→Ok (fun r=>Bg 60000 r.1) ((fN N (l.getD i bI).2.1).bind fun r3=>(N9 N r3).bind fun r4=>(fN N q).bind fun r5=>(fZ N r4 r5).bind fun r6=>(tF N t r6).bind fun r7=>mJ.l5 N n l f c (false,(([]:List Int),())) r7 ((i+1:Nat):Int)):=fun q hq=>
   ag (bt N hN (G.at hl i).2.1) fun x hx=>ag (sA N hN (by omega) hx) fun x hx=>ag (bt N hN hq) fun y hy=>ag (mg N hN (by omega) (by omega) hx hy) fun z hz=>ag (g8 N hN (by omega) ht (Bg.mono hz (by omega))) fun u hu=>hr u (Bg.mono hu (by omega))
  exact az (fun _=>aC ⟨by omega,by omega⟩ (in1 (tk (fun _=>aC ⟨by omega,by omega⟩ (in1 (aC ⟨by omega,by omega⟩ (hw _ (G.at hc.1 _).2.2.2.1)))) fun _=>aC ⟨by omega,by omega⟩ (hw _ (G.at hc.1 _).2.2.1)))) fun _=>by omega
 ·exact az (fun _=>by omega) fun _=>aj (Bg.mono ht (by omega))
theorem DZ(N:Nat)(hN:200000≤N){b:af}{m:Nat}(hm:m≤50000)(hb:G m aB b)(id:Int):Ok (fun _=>True) (FC N b id):=by
 unfold FC
 exact ag (nv N hN hm hb.1 _) fun _ _=>fE
theorem xc(N:Nat)(hN:200000≤N){b:af}{m:Nat}(hm:m≤50000)(hb:G m aB b)(id:Int):Ok aA (Lx N b id):=by
 unfold Lx
 exact ag (pg N hN hm hb.2.2.1 _ _) fun r hr=>aj hr
theorem amg(N:Nat)(hN:5000000≤N){c:aa}{b:af}{m:Nat}(hm:m≤40000)(hc:G m ar c)(hb:G m aB b)(f:Int){to:Int}(hto:aA to)(a:Int):Ok (fun r=>G m aB r.1) (Vm N c b f to a):=by
 have Kw:Ok (fun _=>True) (Vn N c b f to a):=by
  unfold Vn acu
  have mb:=fun id=>DZ N (by omega) (by omega) hb id
  exact db (eJ N hN (by omega) hb) (cw (fun _=>fE) fun _=>ag (s6 N (by omega) (by omega) hb.2.1 _) fun _ _=>cw (fun _=>fE) fun _=>ag (mb _) fun _ _=>ok_eq (fun _=>fE) fun _=>ag (mb _) fun _ _=>ok_eq (fun _=>fE) fun _=>cW (fun _=>fE) fun _=>cW (fun _=>fE) fun _=>ag (mb _) fun _ _=>cW (fun _=>fE) fun _=>ag (Nd N (by omega) (by omega) hb.2.2.2.1 _) fun l hl=>ag (Q:=fun r=>Bg 60000 r.1) (ag (xb N (by omega) (by omega) hc hl _) fun r hr=>aj hr) fun u hu=>ag (xc N (by omega) (by omega) hb _) fun g hg=>ag (bt N (by omega) hg) fun x hx=>ag (uD N (by omega) (by omega) (by omega) hx hu) fun _ _=>az (fun _=>fE) fun _=>fE)
 unfold Vm
 exact ag Kw fun _ _=>cW (fun _=>aj G.fJ) fun _=>ag (Lv N (by omega) (by omega) hb.1 hb.2.1 hto) fun r hr=>cW (fun _=>aj G.fJ) fun _=>aj ⟨hb.1,hr,hb.2.2⟩
theorem O1(N:Nat)(hN:4000000≤N){x:aw}{q:Int}(hx:Bg 60000 x)(hq:aA q):Ok (fun r=>0≤r∧r≤3) (n6 N x q):=by
 unfold n6 n6.b
 refine ag (zG N hx) fun _ _=>dX (fun _=>aj (by decide)) fun _=>az (fun _=>aj (by decide)) fun _=>kA (len:=3) (F:=fun n i (_:Unit)=>n6.l4 N n q x i) (fun _ _=>True) (fun n i _ hi _ hr=> ?_) (fun n _ _=> ?_) 3 N 1 () (by omega) (by omega) (by omega) trivial
 all_goals unfold n6.l4 n6.cA
 ·rw[al (x:=(i:Int)+1) (by omega) (by omega),ae i]
  exact az (fun _=>ag (bt N hN (gL (by omega) (by omega))) fun a ha=>ag (bt N hN hq) fun b hb=>ag (mg N hN (by omega) (by omega) ha hb) fun y hy=>ag (uD N hN (by omega) (by omega) hy hx) fun _ _=>az (fun _=>hr () trivial) fun _=>aj (by omega)) fun _=>by omega
 ·exact az (fun _=>by omega) fun _=>aj (by omega)
theorem amh(N:Nat)(hN:5000000≤N)(c:aa){b:af}{m:Nat}(hm:m≤50000)(hb:G m aB b):Ok (fun r=>G m (.slice (.int .i64)) r.1) (n7 N c b):=by
 have hl:=hb.1.1
 unfold n7 n7.b
 refine db (eJ N hN hm hb) (cw (fun _=>aj G.nil) fun _=>bN (len:=b.1.length) (F:=fun n i s=>n7.l5 N n b s i) (fun i s=>G i (.slice (.int .i64)) s) G.nil (by omega) (fun n i s hi hI hr=> ?_) (fun n s hI=> ?_))
 all_goals unfold n7.l5 n7.c5
 ·have hs:=hI.1
  rw[al (x:=(i:Int)+1) (by omega) (by omega),ae i]
  have h1:=hr s (G.mono (by omega) hI)
  have hx:G 0 (.int .i64) (b.1.getD (i:Int).toNat bI).1:=(G.at hb.1 _).1
  exact az (fun _=>aC ⟨by omega,by omega⟩ (ok_eq (fun _=>aC ⟨by omega,by omega⟩ (ag (pg N (by omega) hm hb.2.2.1 _ _) fun _ _=>az (fun _=>aC ⟨by omega,by omega⟩ (aN (by rw[List.length_singleton];omega) (hr _ (G.cat hI (G.one hx (Nat.le_refl 1)))))) fun _=>h1)) fun _=>h1)) fun _=>by omega
 ·exact az (fun _=>by omega) fun _=>aj (G.mono hl hI)
abbrev LL(m:Nat)(l:bb):Prop:=G m (.slice iw) l
theorem Ly(N:Nat)(hN:200000≤N){l:bb}{m:Nat}(hm:m≤50000)(h:LL m l)(id:Int):Ok (fun r=>G m iw r.1) (nc N l id):=by
 have hl:=h.1
 unfold nc nc.b
 refine lD (len:=l.length) (F:=fun n i=>nc.l2 N n l id ((0:Int),(bK,aK)) i) (by omega) (fun n i hi hr=> ?_) (fun n=> ?_)
 all_goals unfold nc.l2 nc.dx
 ·rw[al (x:=(i:Int)+1) (by omega) (by omega),ae i]
  exact az (fun _=>aC ⟨by omega,by omega⟩ (ok_eq (fun _=>aC ⟨by omega,by omega⟩ (aj (G.at h _))) fun _=>hr)) fun _=>by omega
 ·exact az (fun _=>by omega) fun _=>aj (G.zero m iw)
theorem age(N:Nat)(hN:4000000≤N){a b:av}{m:Nat}(h6:6≤m)(hm:m≤40000)(ha:L2 m a)(hb:L2 m b):Ok (fun r=>L2 m r.1) (dm N a b):=by
 have hal:=ha.1
 have tA:=hb.1
 unfold dm dm.b
 refine bN (len:=6) (F:=fun n i s=>dm.l3 N n a b s i) (fun i s=>L2 i s) G.nil (by omega) (fun n i s hi hI hr=> ?_) (fun n s hI=> ?_)
 all_goals unfold dm.l3 dm.jP
 ·have hs:=hI.1
  refine az (fun _=> ?_) fun _=>by omega
  refine bN (len:=a.length) (F:=fun n' j t=>dm.l7 N (dm.l3 N n) n' a b s (i:Int) t j) (fun j t=>Bg (3+j) t) (Fw (by omega)) (by omega) (fun n' j t hj ht dw=> ?_) (fun n' t ht=> ?_)
  all_goals unfold dm.l7 dm.mq
  ·rw[al (x:=(j:Int)+1) (by omega) (by omega),ae j]
   exact az (fun _=>aC ⟨by omega,by omega⟩ (ok_eq (fun _=>aC ⟨by omega,by omega⟩ (ag (bt N hN (G.at ha _).2.1) fun r hr=>ag (g8 N hN (by omega) ht (Bg.mono hr (by omega))) fun u hu=>dw u (Bg.mono hu (by omega)))) fun _=>dw t (Bg.mono ht (by omega)))) fun _=>by omega
  ·refine az (fun _=>by omega) fun _=> ?_
   refine bN (len:=b.length) (F:=fun DV j t=>dm.kd N (dm.l3 N n) DV a b s (i:Int) t j) (fun j t=>Bg (3+a.length+j) t) ht (by omega) (fun DV j t hj ht dw=> ?_) (fun DV t ht=> ?_)
   all_goals unfold dm.kd dm.jb
   ·rw[al (x:=(j:Int)+1) (by omega) (by omega),ae j]
    exact az (fun _=>aC ⟨by omega,by omega⟩ (ok_eq (fun _=>aC ⟨by omega,by omega⟩ (ag (bt N hN (G.at hb _).2.1) fun r hr=>ag (g8 N hN (by omega) ht (Bg.mono hr (by omega))) fun u hu=>dw u (Bg.mono hu (by omega)))) fun _=>dw t (Bg.mono ht (by omega)))) fun _=>by omega
   ·rw[al (x:=(i:Int)+1) (by omega) (by omega),ae i]
    exact az (fun _=>by omega) fun _=>ag (yr N ht) fun v hv=>cw (fun _=>aj G.nil) fun _=>cW (fun _=>aN (by rw[List.length_singleton];omega) (hr _ (G.cat hI (G.one (m:=1) (G2 (gL (by omega) (by omega)) hv) (Nat.le_refl 1))))) fun _=>hr s (G.mono (by omega) hI)
 ·exact az (fun _=>by omega) fun _=>aj (G.mono h6 hI)
end VM
end
section
namespace VM
open Go VM.F
theorem aam{l:List Int}(h:Pos l)(hs:l.sum<9223372036854775808):E8 l:=fun x hx=>by
 have h3:=h x hx
 obtain⟨i,hi,rfl⟩:=List.mem_iff_getElem.1 hx
 have h4:=uy h i
 rw[List.getD_eq_getElem?_getD,List.getElem?_eq_getElem hi]at h4
 simp only[Option.getD_some]at h4
 omega
theorem Sa(k:Nat):(List.replicate k (1:Int)).sum=k:=by
 induction k with
 |zero=>rfl
 |succ k ih=>rw[List.replicate_succ,List.sum_cons,ih];omega
theorem Sb(k:Nat):Pos (List.replicate k 1):=fun x hx=>by rw[List.eq_of_mem_replicate hx];omega
theorem Sc{t:Int}{k:Nat}(h0:0≤t)(h1:t<9223372036854775808)(hk:1≤k)(hk1:k≤3):(DB t k).1.length=k∧E8 (DB t k).1:=by
 have hS:0<(List.replicate k (1:Int)).sum:=by rw[Sa];omega
 have ee:DB t k=(bl t (List.replicate k 1),0):=by
  unfold DB
  rw[if_neg (by omega),Int.toNat_natCast]
  unfold nS
  have hm:may (List.replicate k 1)=true:=lA.2 ⟨by rw[List.length_replicate];omega,Sb k⟩
  rw[if_neg (by rw[hm];simp;omega),Sa,if_neg (by omega),if_neg (by omega)]
 rw[ee]
 exact⟨by dsimp only;rw[k8,List.length_replicate],aam (qJ h0 hS (Sb k)) (by rw[qI h0 hS];omega)⟩
def LQ(y:KL):Prop:=aA y.1∧aA y.2.1∧xU y.2.1
theorem aan{l:av}(h: ∀y∈l,LQ y)(i:Nat):LQ (l.getD i bI):=by
 by_cases hk:i<l.length
 ·rw[List.getD_eq_getElem?_getD,List.getElem?_eq_getElem hk];exact h _ (List.getElem_mem hk)
 ·rw[List.getD_eq_getElem?_getD,List.getElem?_eq_none (by omega)];exact⟨bx,bx,by unfold xU;decide⟩
theorem O2{c:aa}{b:af}{m:Nat}(hb:G m aB b)(hB:bV c b=true)(a:Int): ∀y∈posOf b.2.2.2.1 a,LQ y∧(0≤(y.1:Int)∧(y.1:Int)<(c.1.length:Int)):=fun y hy=>by
 have hk:dh b.2.2.2.1=true:=by
  by_cases h:dh b.2.2.2.1=true
  ·exact h
  ·unfold posOf at hy;rw[if_neg h]at hy;nomatch hy
 unfold posOf at hy
 rw[if_pos hk]at hy
 obtain⟨x,hx,_,e⟩:=fO hy
 have hg:=hb.2.2.2.1.2 x hx
 have hq:=((gI hk).2 x hx).2
 have hp:=vU hB x hx
 rw[e]
 exact⟨⟨hg.2.1,hg.2.2.1,hq⟩,hp⟩
theorem ami(N:Nat)(hN:5000000≤N){c:aa}{b:af}{m:Nat}(h2:200≤m)(hm:m≤40000)(hc:G m ar c)(hb:G m aB b){next:Int}(hn:aA next):Ok (fun r=>LL m r.1) (c6 N c b next):=by
 unfold c6 c6.b
 refine db (eJ N hN (by omega) hb) (cw (fun _=>aj G.nil) fun hB=>az (fun _=>aj G.nil) fun _=>az (fun _=>aj G.nil) fun _=>db (E2 N (G.wf (by omega) hb).w.s (by omega) 0) (ok_eq (fun _=>aj G.nil) fun _=> ?_))
 have gW:=O2 hb hB 0
 have hal:=(ah6 hb.2.2.2.1 0).1
 generalize posOf b.2.2.2.1 0=all at*
 refine bN (len:=4) (F:=fun n k (s:Int×bb)=>c6.l8 N n s.1 c all s.2 k) (s:=(_,_)) (fun k s=>aA s.1∧s.2.length≤3*k∧ ∀x∈s.2,G m iw x) ⟨hn,Nat.zero_le _,fun x hx=>nomatch hx⟩ (by omega) (fun n k s hk hI hr=> ?_) (fun n s hI=> ?_)
 all_goals unfold c6.l8 c6.zt
 ·refine az (fun _=> ?_) fun _=>by omega
  refine bN (len:=all.length) (F:=fun n' i (z:av×aw)=>c6.mB N (c6.l8 N n) n' s.1 c all s.2 (k:Int) z.1 z.2 i) (s:=(_,_)) (fun i z=>z.1.length≤i∧(∀y∈z.1,LQ y)∧Bg (8+i) z.2) ⟨Nat.zero_le _,(fun y hy=>nomatch hy),Fw (by omega)⟩ (by omega) (fun n' i z hi hz dw=> ?_) (fun n' z hz=> ?_)
  all_goals unfold c6.mB c6.kH
  ·obtain⟨zk,JZ,hz3⟩:=hz
   have hx:all.getD i bI∈all:=by rw[List.getD_eq_getElem?_getD,List.getElem?_eq_getElem hi];exact List.getElem_mem hi
   have hy:=gW _ hx
   rw[al (x:=(i:Int)+1) (by omega) (by omega),ae i,Int.toNat_natCast]
   exact az (fun _=>aC ⟨by omega,by omega⟩ (aC hy.2 (ok_eq (fun _=>aC ⟨by omega,by omega⟩ (aN (by rw[List.length_singleton];omega) (aC ⟨by omega,by omega⟩ (ag (bt N (by omega) hy.1.2.1) fun u hu=>ag (sA N (by omega) (by omega) hu) fun u hu=>ag (g8 N (by omega) (by omega) hz3 (Bg.mono hu (by omega))) fun v hv=>dw (_,_) ⟨by dsimp only;rw[List.length_append,List.length_singleton];omega,fun y h=>(List.mem_append.1 h).elim (JZ y) (fun h=>by rw[List.mem_singleton.1 h];exact hy.1),Bg.mono hv (by omega)⟩)))) fun _=>dw z ⟨by omega,JZ,Bg.mono hz3 (by omega)⟩))) fun _=>by omega
  ·obtain⟨zk,JZ,hz3⟩:=hz
   refine az (fun _=>by omega) fun _=>ag (O1 N (by omega) (Bg.mono hz3 (by omega)) hc.2.2.2.2.2.1) fun w hw=> ?_
   obtain⟨p,hp⟩: ∃p:Nat,w=(p:Int):=⟨w.toNat,by omega⟩
   subst hp
   refine bN (len:=p) (F:=fun DV j (t:Int×bb)=>c6.FD N (c6.l8 N n) DV t.1 c all t.2 (k:Int) z.1 (p:Int) j) (s:=s) (fun j t=>aA t.1∧t.2.length≤3*k+j∧ ∀x∈t.2,G m iw x) hI (by omega) (fun DV j t hj ht RS=> ?_) (fun DV t ht=> ?_)
   all_goals unfold c6.FD c6.LA
   ·obtain⟨rp,S2,TH⟩:=ht
    refine az (fun _=> ?_) fun _=>by omega
    refine bN (len:=z.1.length) (F:=fun n3 i u=>c6.zn N (c6.l8 N n) (c6.FD N (c6.l8 N n) DV) n3 t.1 c all t.2 (k:Int) z.1 (p:Int) (j:Int) (t.1,(bK,((0:Int),((1:Int),bI)))) u i) (fun i u=>L2 i u) G.nil (by omega) (fun n3 i u hi hu hr3=> ?_) (fun n3 u hu=> ?_)
    all_goals unfold c6.zn c6.Aw
    ·have hul:=hu.1
     have hq:=aan JZ i
     have ot:=hq
     unfold LQ aA xU at ot
     have aic: ∀q:Int,0≤q→q<9223372036854775808→Ok (fun r=>LL m r.1) (c6.Vo N (c6.l8 N n) (c6.FD N (c6.l8 N n) DV) (c6.zn N (c6.l8 N n) (c6.FD N (c6.l8 N n) DV) n3) t.1 c all t.2 (k:Int) z.1 (p:Int) (j:Int) (t.1,(bK,((0:Int),((1:Int),bI)))) u (i:Int) q):=fun q h0 h1=>by
      unfold c6.Vo c6.O3
      obtain⟨e1,e2⟩:=Sc (k:=p) h0 h1 (by omega) (by omega)
      have aid: ∀v:List Int,v.length=p→E8 v→Ok (fun r=>LL m r.1) (c6.j32 N (c6.l8 N n) (c6.FD N (c6.l8 N n) DV) (c6.zn N (c6.l8 N n) (c6.FD N (c6.l8 N n) DV) n3) t.1 c all t.2 (k:Int) z.1 (p:Int) (j:Int) (t.1,(bK,((0:Int),((1:Int),bI)))) u (i:Int) v):=fun v Gs TD=>by
       unfold c6.j32 c6.acv
       rw[al (x:=(i:Int)+1) (by omega) (by omega),ae i]
       have hx:G 0 g9 ((z.1.getD (i:Int).toNat bI).1,(v.getD (j:Int).toNat 0,())):=G2 (aan JZ _).1 (pL TD _)
       exact aC ⟨by omega,by omega⟩ (cW (fun _=>aC ⟨by omega,by omega⟩ (aC ⟨by omega,by omega⟩ (aN (by rw[List.length_singleton];omega) (hr3 _ (G.cat hu (G.one hx (Nat.le_refl 1))))))) fun _=>hr3 u (G.mono (by omega) hu))
      refine db (Rq N hN h1) (aC ⟨by omega,by omega⟩ (az (fun _=>aC ⟨by omega,by omega⟩ (aC ⟨by omega,by omega⟩ (aid _ (by rw[List.length_set];exact e1) fun y hy=> ?_))) fun _=>aid _ e1 e2))
      rcases List.mem_or_eq_of_mem_set hy with hy|rfl
      ·exact e2 y hy
      ·exact fy _
     rw[Int.toNat_natCast]
     refine az (fun _=>aC ⟨by omega,by omega⟩ (az (fun dD=> ?_) fun TN=> ?_)) fun _=>by omega
     ·have g: ∀x:Int,-9223372036854775808≤x∧x≠ -9223372036854775808→x<0→0≤W .i64 (0-x)∧W .i64 (0-x)<9223372036854775808:=fun x h1 h2=>by rw[al (by omega) (by omega)];omega
      have gx:=g _ ⟨ot.2.1.1,ot.2.2⟩ dD
      exact aic _ gx.1 gx.2
     ·exact aic _ TN ot.2.1.2
    ·have hul:=hu.1
     rw[al (x:=(j:Int)+1) (by omega) (by omega),ae j]
     have hum:L2 m u:=G.mono (by omega) hu
     refine az (fun _=>by omega) fun _=>ok_eq (fun _=>RS t ⟨rp,by omega,TH⟩) fun _=> ?_
     unfold Sd
     refine ag (Q:=fun r=>Bg 60000 r.1) (ag (xb N (by omega) (by omega) hc hum _) fun r hr=>aj hr) fun a ha=>ag (s5 N (by omega) (by omega) ha) fun d hd=>ag (uE N hd) fun v hv=>cw (fun _=>aj G.nil) fun _=>aN (by rw[List.length_singleton];omega) (RS (_,_) ⟨fy _,by dsimp only;rw[List.length_append,List.length_singleton];omega,fun x hx=> ?_⟩)
     rcases List.mem_append.1 hx with hx|hx
     ·exact TH x hx
     ·rw[List.mem_singleton.1 hx];exact⟨rp,hum,hv,(show aA 1 from bq),bx,bx,trivial⟩
   ·rw[al (x:=(k:Int)+1) (by omega) (by omega),ae k]
    exact az (fun _=>by omega) fun _=>hr t ⟨ht.1,by have:=ht.2.1;omega,ht.2.2⟩
 ·exact az (fun _=>by omega) fun _=>aj ⟨by have:=hI.2.1;dsimp only;omega,hI.2.2⟩
end VM
end
section
namespace VM
open Go VM.F
theorem xd(N:Nat)(hN:200000≤N){l:av}(hl:l.length≤100000):Ok (fun _=>True) (mi N l):=by
 unfold mi mi.b
 refine lD (len:=l.length) (F:=fun n i=>mi.l2 N n l i) (by omega) (fun n i hi hr=> ?_) (fun n=> ?_)
 all_goals unfold mi.l2 mi.dx
 ·rw[al (x:=(i:Int)+1) (by omega) (by omega),ae i]
  dsimp only
  repeat' first|exact hr|exact fE|refine aC ⟨by omega,by omega⟩ ?_|refine aC (by rw[al (x:=(i:Int)-1) (by omega) (by omega)];omega) ?_|refine az (fun _=> ?_) (fun _=> ?_)|refine dX (fun _=> ?_) (fun _=> ?_)|refine ok_eq (fun _=> ?_) (fun _=> ?_)|(exfalso;omega)
 ·exact az (fun _=>by omega) fun _=>fE
theorem agf(N:Nat)(hN:200000≤N){l:List Int}(hl:l.length≤100000):Ok (fun _=>True) (n8 N l):=by
 unfold n8 n8.b
 refine lD (len:=l.length) (F:=fun n i=>n8.l2 N n l i) (by omega) (fun n i hi hr=> ?_) (fun n=> ?_)
 all_goals unfold n8.l2 n8.dx
 ·rw[al (x:=(i:Int)+1) (by omega) (by omega),ae i]
  dsimp only
  repeat' first|exact hr|exact fE|refine aC ⟨by omega,by omega⟩ ?_|refine aC (by rw[al (x:=(i:Int)-1) (by omega) (by omega)];omega) ?_|refine az (fun _=> ?_) (fun _=> ?_)|refine dX (fun _=> ?_) (fun _=> ?_)|refine ok_eq (fun _=> ?_) (fun _=> ?_)|(exfalso;omega)
 ·exact az (fun _=>by omega) fun _=>fE
theorem aie(N:Nat)(hN:200000≤N)(a:Int){L:bb}{l:aE}{m:Nat}(hm:m≤50000)(hL:LL m L)(hl:G m (.slice dB) l):Ok aA (fX N a L l):=by
 have h1:=hL.1
 have h2:=hl.1
 have i3:aA 3:=bq
 have i2:aA 2:=bq
 unfold fX fX.b
 refine bN (len:=l.length) (F:=fun n i v=>fX.l3 N n a L l v i) (fun _ v=>aA v) (show aA 1 from bq) (by omega) (fun n i v hi hv hr=> ?_) (fun n v hv=> ?_)
 all_goals unfold fX.l3 fX.jP
 ·rw[al (x:=(i:Int)+1) (by omega) (by omega),ae i]
  exact az (fun _=>aC ⟨by omega,by omega⟩ (cW (fun _=>hr v hv) fun _=>aC ⟨by omega,by omega⟩ (ag (Ly N hN hm hL _) fun _ _=>tk (fun _=>aC ⟨by omega,by omega⟩ (dX (fun _=>hr _ (y7 hv i3)) fun _=>hr _ (y7 hv i2))) fun _=>hr _ (y7 hv i2)))) fun _=>by omega
 ·refine az (fun _=>by omega) fun _=>bN (len:=L.length) (F:=fun n i v=>fX.kd N n a L v i) (fun _ v=>aA v) hv (by omega) (fun n i v hi hv hr=> ?_) (fun n v hv=> ?_)
  all_goals unfold fX.kd fX.jb
  ·rw[al (x:=(i:Int)+1) (by omega) (by omega),ae i]
   exact az (fun _=>aC ⟨by omega,by omega⟩ (ok_eq (fun _=>aC ⟨by omega,by omega⟩ (ok_eq (fun _=>hr 4 bq) fun _=>hr v hv)) fun _=>hr v hv)) fun _=>by omega
  ·exact az (fun _=>by omega) fun _=>aj hv
theorem Se(N:Nat)(hN:200000≤N){l:av}(hl:l.length≤100000)(a:Int):Ok (fun _=>True) (n9 N l a):=by
 unfold n9 n9.b
 refine ag (xd N hN hl) fun _ _=>cw (fun _=>fE) fun _=>lD (len:=l.length) (F:=fun n i=>n9.l4 N n l a i) (by omega) (fun n i hi hr=> ?_) (fun n=> ?_)
 all_goals unfold n9.l4 n9.cA
 ·rw[al (x:=(i:Int)+1) (by omega) (by omega),ae i]
  exact az (fun _=>aC ⟨by omega,by omega⟩ (ok_eq (fun _=>aC ⟨by omega,by omega⟩ fE) fun _=>hr)) fun _=>by omega
 ·exact az (fun _=>by omega) fun _=>fE
theorem Ng(N:Nat)(a:Int):Ok (fun _=>True) (Sf N a):=by
 unfold Sf
 exact ok_eq (fun _=>fE) fun _=>fE
theorem LB(N:Nat)(hN:5000000≤N)(c:aa){b:af}{d:av}{m:Nat}(hm:m≤50000)(hb:G m aB b)(hd:L2 m d)(a k:Int):Ok (fun r=>G m (.slice (.int .i64)) r.1) (oa N c b d a k):=by
 have hl:=hb.1.1
 have h2:=hd.1
 unfold oa oa.b
 refine db (eJ N hN hm hb) (cw (fun _=>aj G.nil) fun _=>ag (xd N (by omega) (by omega)) fun _ _=>cw (fun _=>aj G.nil) fun _=>bN (len:=b.1.length) (F:=fun n i s=>oa.l5 N n d a k b s i) (fun i s=>G i (.slice (.int .i64)) s) G.nil (by omega) (fun n i s hi hI hr=> ?_) (fun n s hI=> ?_))
 all_goals unfold oa.l5 oa.c5
 ·have hs:=hI.1
  rw[al (x:=(i:Int)+1) (by omega) (by omega),ae i]
  have h1:=hr s (G.mono (by omega) hI)
  have hx:G 0 (.int .i64) (b.1.getD (i:Int).toNat bI).1:=(G.at hb.1 _).1
  exact az (fun _=>aC ⟨by omega,by omega⟩ (ag (Ng N _) fun _ _=>tk (fun _=>cW (fun _=>ag (pg N (by omega) hm hb.2.2.1 _ _) fun _ _=>az (fun _=>ag (Se N (by omega) (by omega) _) fun _ _=>ok_eq (fun _=>aN (by rw[List.length_singleton];omega) (hr _ (G.cat hI (G.one hx (Nat.le_refl 1))))) fun _=>h1) fun _=>h1) fun _=>h1) fun _=>h1)) fun _=>by omega
 ·exact az (fun _=>by omega) fun _=>aj (G.mono hl hI)
theorem Im(N:Nat)(hN:200000≤N){a:aE}{m:Nat}(hm:m≤50000)(h:G m (.slice dB) a)(id:Int):Ok aA (ui N a id):=by
 refine mf (Dc N (Nat.le_trans h.1 (by omega)) hN id) ?_
 unfold EO
 split
 ·have: ∀l:aE,(∀x∈l,G m dB x)→aA (qv id l):=by
   intro l
   induction l with
   |nil=>intro _;exact bx
   |cons x t ih=>
    intro hx
    have hi:=ih fun y hy=>hx y (List.mem_cons_of_mem _ hy)
    rw[xW]
    split
    ·split
     ·exact(hx x (List.mem_cons_self ..)).1
     ·exact hi
    ·exact hi
  exact this a h.2
 ·exact bx
abbrev L5(m:Nat)(l:aX):Prop:=G m (.slice oj) l
theorem G5{m:Nat}{a b c d e:Int}(ha:aA a)(hb:aA b)(hc:aA c)(hd:aA d)(he:aA e):G m oj (a,(b,(c,(d,(e,()))))):=⟨ha,hb,hc,hd,he,trivial⟩
theorem FE(N:Nat)(hN:200000≤N){l:aX}{b:af}{m k:Nat}(hm:m≤50000)(hb:G m aB b)(hk:k≤1000000)(hl:L5 k l){a d n:Int}(ha:aA a)(hd:aA d)(hn:aA n):Ok (fun r=>L5 (k+1) r) (LC N l b a d n):=by
 have h1:=hl.1
 unfold LC
 exact ag (pg N hN hm hb.2.2.1 _ _) fun x hx=>az (fun _=>aN (by rw[List.length_singleton];omega) (aj (G.cat hl (G.one (m:=1) (G5 ha hd hn hx bx) (Nat.le_refl 1))))) fun _=>aj (G.mono (by omega) hl)
theorem Sg(N:Nat)(hN:5000000≤N){c:aa}{b:af}{d g:av}{a:Int}{m:Nat}(hm:m≤50000)(hc:G m ar c)(hb:G m aB b)(hd:L2 m d)(hg:L2 m g)(ha:aA a):Ok (fun r=>L5 1000000 r.1) (cv N c b a d g):=by
 have h1:=hb.1.1
 have h2:=hd.1
 have h3:=hg.1
 have h4:=hb.2.1.1
 have hj: ∀l:aX,L5 1 l→Ok (fun r=>L5 1000000 r.1) (cv.j9 N a d g c b l):=fun l hl=>by
  unfold cv.j9 cv.KB
  refine ag (FE N (by omega) hm hb (by omega) hl bq bq ha) fun l hl=>ag (FE N (by omega) hm hb (by omega) hl bq bq bx) fun l hl=>kA (len:=5) (F:=fun n k s=>cv.kd N n a d g c b s k) (fun k s=>L5 (3+m*k) s) (fun n k s hk hs hr=> ?_) (fun n s hs=> ?_) 5 N 1 l (by omega) (by omega) (by omega) (G.mono (by omega) hl)
  all_goals unfold cv.kd cv.jb
  ·have hmk:m*k≤m*4:=Nat.mul_le_mul_left m (by omega)
   refine dX (fun _=>ag (LB N hN c hm hb hd _ _) fun t ht=> ?_) fun _=>by omega
   have htl:=ht.1
   refine bN (len:=t.1.length) (F:=fun n' j u=>cv.tg N (cv.kd N n) n' a d g c b u (k:Int) t.1 j) (fun j u=>L5 (3+m*k+j) u) hs (by omega) (fun n' j u hj hu dw=> ?_) (fun n' u hu=> ?_)
   all_goals unfold cv.tg cv.sg
   ·rw[al (x:=(j:Int)+1) (by omega) (by omega),ae j]
    exact az (fun _=>aC ⟨by omega,by omega⟩ (ag (FE N (by omega) hm hb (by omega) hu (fy _) bq (G.at ht _)) fun v hv=>dw v hv)) fun _=>by omega
   ·rw[al (x:=(k:Int)+1) (by omega) (by omega),ae k]
    exact az (fun _=>by omega) fun _=>hr u (G.mono (by rw[Nat.mul_succ];omega) hu)
  ·refine dX (fun _=>by omega) fun _=>bN (len:=b.1.length) (F:=fun n j u=>cv.FD N n a g c b u j) (fun j u=>L5 (3+m*5+j) u) hs (by omega) (fun n j u hj hu hr=> ?_) (fun n u hu=> ?_)
   all_goals unfold cv.FD cv.LA
   ·have hul:=hu.1
    have hx:aA (b.1.getD (j:Int).toNat bI).1:=(G.at hb.1 _).1
    rw[al (x:=(j:Int)+1) (by omega) (by omega),ae j]
    have h0:=hr u (G.mono (by omega) hu)
    exact az (fun _=>aC ⟨by omega,by omega⟩ (ag (Ng N _) fun _ _=>cw (fun _=>h0) fun _=>ok_eq (fun _=>h0) fun _=>ag (bt N (by omega) hc.2.2.1) fun p hp=>ag (pg N (by omega) hm hb.2.2.1 _ _) fun q hq=>ag (bt N (by omega) hq) fun q hq=>ag (mg N (by omega) (by omega) (by omega) hp hq) fun y hy=>ag (uE N hy) fun v hv=>cw (fun _=>aj G.nil) fun _=>az (fun _=>aN (by rw[List.length_singleton];omega) (hr _ (G.mono (by omega) (G.cat hu (G.one (m:=1) (G5 (show aA 8 from bq) (show aA 7 from bq) hx hv bx) (Nat.le_refl 1)))))) fun _=>h0)) fun _=>by omega
   ·refine az (fun _=>by omega) fun _=>bN (len:=g.length) (F:=fun n j u=>cv.KV N n a g b u j) (fun j u=>L5 (3+m*5+m+j) u) (G.mono (by omega) hu) (by omega) (fun n j u hj hu hr=> ?_) (fun n u hu=> ?_)
    all_goals unfold cv.KV cv.HB
    ·have hul:=hu.1
     rw[al (x:=(j:Int)+1) (by omega) (by omega),ae j]
     have h0:=hr u (G.mono (by omega) hu)
     dsimp only
     exact az (fun _=>aC ⟨by omega,by omega⟩ (ag (s6 N (by omega) hm hb.2.1 _) fun x hx=>aC ⟨by omega,by omega⟩ (aC ⟨by omega,by omega⟩ (ag (pg N (by omega) hm hb.2.2.1 _ _) fun q hq=>tk (fun _=>cW (fun _=>az (fun _=>aN (by rw[List.length_singleton];omega) (hr _ (G.mono (by omega) (G.cat hu (G.one (m:=1) (G5 (show aA 9 from bq) (show aA 5 from bq) hx.1 (Va (G.at hg _).2.1 hq) bx) (Nat.le_refl 1)))))) fun _=>h0) fun _=>h0) fun _=>h0)))) fun _=>by omega
    ·exact az (fun _=>by omega) fun _=>aj (G.mono (by omega) hu)
 unfold cv cv.b
 exact db (eJ N hN hm hb) (cw (fun _=>aj G.nil) fun _=>ag (xd N (by omega) (by omega)) fun _ _=>cw (fun _=>aj G.nil) fun _=>ag (DY N (by omega) (by omega)) fun _ _=>cw (fun _=>aj G.nil) fun _=>ag (nv N (by omega) hm hb.1 _) fun _ _=>ok_eq (fun _=>aj G.nil) fun _=>ag (Im N (by omega) hm hb.2.1 _) fun h hh=>cW (fun _=>ag (FE N (by omega) hm hb (by omega) (G.nil (m:=0)) bq bq hh) fun l hl=>hj l hl) fun _=>hj [] G.nil)
end VM
end
