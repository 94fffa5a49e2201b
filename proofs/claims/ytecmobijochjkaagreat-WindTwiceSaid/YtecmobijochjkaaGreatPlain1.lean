/- A part of the proof of WindTwice of layer 21: what the functions compute, in plain words. -/
import Derived.Test.YtecmobijochjkaaGreatPlain0
import Derived.Test.YtecmobijochjkaaGreatText
set_option linter.all false
section
namespace VM
open Go VM.F
def dn(x:Int):Prop:= -170141183460469231731687303715884105728≤x∧x<170141183460469231731687303715884105728
instance(x:Int):Decidable (dn x):=by unfold dn;infer_instance
theorem wH(N:Nat){x:Int}(h0: -9223372036854775808≤x)(h1:x<9223372036854775808):Vn N x=some (dS x):=by
 unfold Vn
 rw[aP ω,av,ur h0 h1,vg]
 congr 1
 exact wmk (by split<;>omega) rfl
theorem aag{ws:List Int}(i:Nat):(ws.map dS).getD i cA=dS (ws.getD i 0):=by
 by_cases h:i<ws.length
 ·rw[aU,pW,bn h,aU,bn h];rfl
 ·rw[aU,gH (by rw[cv];omega),aU,gH ω];rfl
theorem Km{ws:List Int}(h: ∀x∈ws,dn x): -(170141183460469231731687303715884105728*(ws.length:Int))≤ws.sum∧ws.sum≤170141183460469231731687303715884105728*(ws.length:Int):=by
 induction ws with
 |nil=>simp
 |cons x ws ih=>
  have h0:=h x (bk ..)
  have ih:=ih (λy hy=>h y (aZ _ hy))
  unfold dn at h0
  rw[cy,aR];omega
theorem WE{t w:Int}{lo hi top:Int}(hw:dn w)(xY:lo=t%18446744073709551616)(Lr:hi=t/18446744073709551616%18446744073709551616)(asa:top=t/340282366920938463463374607431768211456):
  (lo+w%18446744073709551616+0)%18446744073709551616=(t+w)%18446744073709551616∧
  (hi+(w/18446744073709551616)%18446744073709551616+(lo+w%18446744073709551616+0)/18446744073709551616)%18446744073709551616=(t+w)/18446744073709551616%18446744073709551616∧
  top+(if w/18446744073709551616<0 then-1 else 0)+(hi+(w/18446744073709551616)%18446744073709551616+(lo+w%18446744073709551616+0)/18446744073709551616)/18446744073709551616=(t+w)/340282366920938463463374607431768211456:=by
 unfold dn at hw
 subst xY Lr asa
 refine⟨ω,ω,?_⟩
 split<;>omega
def Fu(t:Int):cC×Bool:=if dn t then(dS t,true)else(cA,false)
theorem W64(x:Int):W .u64 x=x%18446744073709551616:=vg x
theorem Iu(N:Nat){ws:List Int}(h: ∀x∈ws,dn x)(hl:ws.length≤1000000): ∀(m n i:Nat) (t:Int),ws.length-i≤m→m<n→i≤ws.length→t=(ws.take i).sum→
  mM.l3 N n cA (t/340282366920938463463374607431768211456) (t/18446744073709551616%18446744073709551616) (t%18446744073709551616) (ws.map dS) (ws.length:Int) (i:Int)=some (Fu ws.sum)
 |m,0,i,t,_,hn,_,_=>ω
 |m,n+1,i,t,hm,hn,hi,ht=>by
  unfold mM.l3 mM.nO
  have f1:=Km (ws:=ws.take i) (λx hx=>h x (lM hx))
  rw[cc,iw ω,←ht]at f1
  by_cases h1:i<ws.length
  ·have hw:dn (ws.getD i 0):=by
    rw[aU,bn h1];exact h _ (dB h1)
   have hs:=lA ws h1
   rw[←ht]at hs
   have st:=WE (t:=t) (w:=ws.getD i 0) hw rfl rfl rfl
   have wI:=Iu N h hl (m-1) n (i+1) (t+ws.getD i 0) ω ω ω hs.symm
   rw[aT ω,ak,aX ω (by rw[cv];omega),ak,aJ,aag]
   unfold dS
   dsimp only
   have hw':=hw
   unfold dn at hw'
   generalize ws.getD i 0=w at*
   have hq:0≤(t%18446744073709551616+w%18446744073709551616+0)/18446744073709551616∧(t%18446744073709551616+w%18446744073709551616+0)/18446744073709551616≤1:=ω
   rw[M4 N ω ω ω ω,ar,W64,M4 N ω ω hq.1 hq.2,ar,aP (x:=63) ω,av,st.1,st.2.1]
   rw[ur ω ω]
   have hc:0≤(t/18446744073709551616%18446744073709551616+w/18446744073709551616%18446744073709551616+(t%18446744073709551616+w%18446744073709551616+0)/18446744073709551616)/18446744073709551616∧(t/18446744073709551616%18446744073709551616+w/18446744073709551616%18446744073709551616+(t%18446744073709551616+w%18446744073709551616+0)/18446744073709551616)/18446744073709551616≤1:=ω
   have hif: -1≤(if w/18446744073709551616<0 then(-1:Int)else 0)∧(if w/18446744073709551616<0 then(-1:Int)else 0)≤0:=by split<;>omega
   rw[ax (x:=t/340282366920938463463374607431768211456+_) ω ω,ax (x:=(_:Int)/18446744073709551616) ω ω,st.2.2,ax ω ω,ax (x:=(i:Int)+1) ω ω]
   exact wI
  ·have e:(ws.take i).sum=ws.sum:=by rw[jG ω]
   rw[e]at ht
   rw[aP ω,av,aP (x:=63) ω,av,←ht]
   have hh: -9223372036854775808≤W .i64 (t/18446744073709551616%18446744073709551616)∧W .i64 (t/18446744073709551616%18446744073709551616)<9223372036854775808:=by rw[iE];split<;>omega
   have hwv:W .i64 (t/18446744073709551616%18446744073709551616)=if 9223372036854775808≤t/18446744073709551616%18446744073709551616 then t/18446744073709551616%18446744073709551616-18446744073709551616 else t/18446744073709551616%18446744073709551616:=by rw[iE];split<;>split<;>omega
   rw[ur hh.1 hh.2,hwv]
   unfold Fu
   by_cases hI:dn t
   ·rw[aj hI]
    unfold dn at hI
    rw[dX (by split<;>split<;>omega),a7,av]
    exact R6 (by split<;>omega) rfl
   ·rw[ah hI]
    unfold dn at hI
    rw[ed (by split<;>split<;>omega),c0,ak]
theorem DW(N:Nat){ws:List Int}(h: ∀x∈ws,dn x)(hl:ws.length≤1000000)(hN:1000000<N):mM N (ws.map dS)=some (Fu ws.sum):=by
 unfold mM mM.b
 rw[cv]
 exact Iu N h hl ws.length N 0 0 ω ω ω (by simp)
end VM
end
section
namespace VM
open Go VM.F
theorem uy(N:Nat)(a lo hi:Int):Dn N a lo hi=some (decide (lo≤a∧a≤hi)):=by
 unfold Dn
 rw[cG,nZ]
 by_cases h:lo≤a
 ·rw[aj h];congr 1;rw[oS];omega
 ·rw[ah h,cj ω]
theorem Iv(N:Nat)(a lo hi:Int):HA N a lo hi=some (decide (lo≤a∧a≤hi)):=uy N a lo hi
def oN(a b c d:Int):Prop:=(0≤a∧a≤3)∧(1≤b∧b≤1000000000000)∧(0≤c∧c≤1000000000)∧(0≤d∧d≤1000000000)
instance(a b c d:Int):Decidable (oN a b c d):=by unfold oN;infer_instance
def q5(l:aK)(i:Nat):Prop:=oN (l.getD i aV).1 (l.getD i aV).2.1 (l.getD i aV).2.2.1 (l.getD i aV).2.2.2.1
instance(l:aK):DecidablePred (q5 l):=λi=>by unfold q5;infer_instance
def nh(a b c d e f:Int):Prop:=0≤a∧(0≤b∧b≤4)∧(0≤c∧c≤1000000)∧(0≤d∧d≤1000000)∧(1≤e∧e≤4611686018427387904)∧0≤f
instance(a b c d e f:Int):Decidable (nh a b c d e f):=by unfold nh;infer_instance
def pD(c:ae):Prop:=nh c.2.1 c.2.2.1 c.2.2.2.1 c.2.2.2.2.1 c.2.2.2.2.2.1 c.2.2.2.2.2.2.1
instance(c:ae):Decidable (pD c):=by unfold pD;infer_instance
def fL(c:ae):Bool:=decide (1≤c.1.length∧c.1.length≤6)&&(decide (∀j,j<c.1.length→q5 c.1 j)&&decide (pD c))
theorem R7(N:Nat)(hN:100≤N)(c:ae):CC N c=some (fL c):=by
 unfold CC CC.b fL
 rw[uy,ar,cond_not,gb]
 by_cases hl:1≤c.1.length∧c.1.length≤6
 ·rw[aj ω,bs hl,m2]
  refine iq (F:=λn i=>CC.l4 N n c c.1 (c.1.length:Int) i) (q5 c.1) (λn i r hi hp hr=> ?_) (λn=> ?_) N ω
  ·unfold CC.l4 CC.dw
   rw[aT ω,ak,aX ω ω,ak,aJ,ax ω ω,ag]
   simp only[uy,ar,cond_not,gb]
   by_cases hP:q5 c.1 i
   ·rw[aj hP];unfold q5 oN at hP
    repeat' split
    all_goals first|rfl|exact hr|omega
   ·rw[ah hP];unfold q5 oN at hP
    repeat' split
    all_goals first|rfl|exact hr|omega
  ·unfold CC.l4 CC.dw
   rw[aP ω,av]
   simp only[uy,ar,cond_not,gb,cG,nZ]
   by_cases hP:pD c
   ·rw[bs hP];unfold pD nh at hP
    repeat' split
    all_goals first|rfl|omega|(rw[bs ω])
   ·rw[cj hP];unfold pD nh at hP
    repeat' split
    all_goals first|rfl|omega|(rw[cj ω])
 ·rw[ah ω,cj hl,vP]
theorem ni(N:Nat)(hN:100≤N)(c:ae):me N c=some (fL c):=by
 unfold me me.b fL
 rw[cP,cP]
 by_cases hl:1≤c.1.length∧c.1.length≤6
 ·rw[ah ω,ah ω,bs hl,m2]
  refine iq (F:=λn i=>me.l4 N n c i) (q5 c.1) (λn i r hi hp hr=> ?_) (λn=> ?_) N ω
  ·unfold me.l4 me.dw
   rw[aT ω,ak,aX ω ω,ak,aJ,ax ω ω,ag]
   simp only[Iv,ar,cond_not,gb]
   by_cases hP:q5 c.1 i
   ·rw[aj hP];unfold q5 oN at hP
    repeat' split
    all_goals first|rfl|exact hr|omega
   ·rw[ah hP];unfold q5 oN at hP
    repeat' split
    all_goals first|rfl|exact hr|omega
  ·unfold me.l4 me.dw
   rw[aP ω,av]
   simp only[Iv,ar,cond_not,gb,cG,nZ]
   by_cases hP:pD c
   ·rw[bs hP];unfold pD nh at hP
    repeat' split
    all_goals first|rfl|omega|(rw[bs ω])
   ·rw[cj hP];unfold pD nh at hP
    repeat' split
    all_goals first|rfl|omega|(rw[cj ω])
 ·rw[cj hl,vP]
  by_cases h:(c.1.length:Int)<1
  ·rw[aj h]
  ·rw[ah h,aj ω]
def iG(a b:Int)(i:Nat)(c:Int):Prop:=1≤a∧a≤12∧1≤b∧b≤4∧(0<i→c<a)
instance(a b:Int)(i:Nat)(c:Int):Decidable (iG a b i c):=by unfold iG;infer_instance
def fM(m:aD)(i:Nat):Prop:=iG (m.getD i cA).1 (m.getD i cA).2.1 i (m.getD (i-1) cA).1
instance(m:aD):DecidablePred (fM m):=λi=>by unfold fM;infer_instance
def dq(m:aD):Bool:=decide (∀j,j<m.length→fM m j)&&true
theorem Fv(N:Nat){m:aD}(hl:m.length≤100000)(hN:200000≤N):o5 N m=some (dq m):=by
 unfold o5 o5.b
 refine iq (F:=λn i=>o5.l2 N n m m (m.length:Int) i) (fM m) (λn i r hi hp hr=> ?_) (λn=> ?_) N ω
 ·unfold o5.l2 o5.gJ
  rw[aT ω,ak,aX ω ω,ak,aJ,ax (x:=(i:Int)+1) ω ω,ag]
  by_cases h0:0<i
  ·have e:W .i64 ((i:Int)-1)=((i-1:Nat):Int):=by rw[ax ω ω];omega
   dsimp only
   rw[aT (x:=0) ω,ak,e,aJ,aX ω ω,ak]
   simp only[cP,cG]
   by_cases hP:fM m i
   ·rw[aj hP];unfold fM iG at hP
    repeat' split
    all_goals first|rfl|exact hr|omega
   ·rw[ah hP];unfold fM iG at hP
    repeat' split
    all_goals first|rfl|exact hr|omega
  ·rw[aP (x:=0) ω,av]
   simp only[cP,cG]
   by_cases hP:fM m i
   ·rw[aj hP];unfold fM iG at hP
    repeat' split
    all_goals first|rfl|exact hr|omega
   ·rw[ah hP];unfold fM iG at hP
    repeat' split
    all_goals first|rfl|exact hr|omega
 ·unfold o5.l2 o5.gJ
  rw[aP ω,av]
theorem mD(N:Nat){m:aD}(hl:m.length≤100000)(hN:200000≤N):A6 N m=some (dq m):=by
 unfold A6 A6.b
 refine iq (F:=λn i=>A6.l2 N n m i) (fM m) (λn i r hi hp hr=> ?_) (λn=> ?_) N ω
 ·unfold A6.l2 A6.gJ
  rw[aT ω,ak,aX ω ω,ak,aJ,ax (x:=(i:Int)+1) ω ω,ag]
  by_cases h0:0<i
  ·have e:W .i64 ((i:Int)-1)=((i-1:Nat):Int):=by rw[ax ω ω];omega
   dsimp only
   rw[aT (x:=0) ω,e,aJ,aX (i:=((i-1:Nat):Int)) ω ω]
   simp only[cP,cG,ak]
   by_cases hP:fM m i
   ·rw[aj hP];unfold fM iG at hP
    repeat' split
    all_goals first|rfl|exact hr|omega
   ·rw[ah hP];unfold fM iG at hP
    repeat' split
    all_goals first|rfl|exact hr|omega
  ·rw[aP (x:=0) ω]
   simp only[cP,cG,ak,av]
   by_cases hP:fM m i
   ·rw[aj hP];unfold fM iG at hP
    repeat' split
    all_goals first|rfl|exact hr|omega
   ·rw[ah hP];unfold fM iG at hP
    repeat' split
    all_goals first|rfl|exact hr|omega
 ·unfold A6.l2 A6.gJ
  rw[aP ω,av]
end VM
end
section
namespace VM
open Go VM.F
def cQ(k n:Int):Prop:=(1≤k∧k≤4∧n=0)∨(k=5∧1≤n∧n≤24)∨(6≤k∧k≤7∧1≤n∧n≤12)
instance(k n:Int):Decidable (cQ k n):=by unfold cQ;infer_instance
theorem Qk(N:Nat)(k n:Int):Ql N k n=some (decide (cQ k n)):=by
 unfold Ql
 simp only[aN,cG]
 simp only[nZ,jA]
 by_cases hP:cQ k n
 ·rw[bs hP];unfold cQ at hP
  repeat' split
  all_goals first|rfl|omega|(rw[bs ω])
 ·rw[cj hP];unfold cQ at hP
  repeat' split
  all_goals first|rfl|omega|(rw[cj ω])
theorem aah(N:Nat)(k n:Int):Qm N k n=some (decide (cQ k n)):=by
 have:=Qk N k n
 unfold Ql at this
 unfold Qm
 exact this
def kW(a b c d:Int):Prop:=a<c∨(a=c∧b<d)
instance(a b c d:Int):Decidable (kW a b c d):=by unfold kW;infer_instance
def Bt(k n a b:Int):Int:=if k=a then n-b else k-a
def HB(x:Int):Prop:= -1000000≤x∧x≤1000000
theorem Fw(N:Nat){k n:Int}{r:db}(h1:HB k)(h2:HB n)(h3:HB r.1)(h4:HB r.2.1):Qn N k n r=some (Bt k n r.1 r.2.1):=by
 unfold Qn Bt
 unfold HB at*
 rw[cond_not,aN]
 split
 ·rw[ax ω ω]
 ·rw[ax ω ω]
theorem Iw(N:Nat){k n:Int}{r:db}(h1:HB k)(h2:HB n)(h3:HB r.1)(h4:HB r.2.1):TU N k n r=some (Bt k n r.1 r.2.1):=Fw N h1 h2 h3 h4
def mf(a b c:Int)(i:Nat)(d e:Int):Prop:=cQ a b∧c≠0∧(0<i→kW d e a b)
instance(a b c:Int)(i:Nat)(d e:Int):Decidable (mf a b c i d e):=by unfold mf;infer_instance
def lB(l:au)(i:Nat):Prop:=mf (l.getD i bh).1 (l.getD i bh).2.1 (l.getD i bh).2.2.1 i (l.getD (i-1) bh).1 (l.getD (i-1) bh).2.1
instance(l:au):DecidablePred (lB l):=λi=>by unfold lB;infer_instance
def dO(l:au):Bool:=decide (∀j,j<l.length→lB l j)&&true
theorem DX(N:Nat){l:au}(hl:l.length≤100000)(hN:200000≤N):A7 N l=some (dO l):=by
 unfold A7 A7.b
 refine iq (F:=λn i=>A7.l2 N n l l (l.length:Int) i) (lB l) (λn i r hi hp hr=> ?_) (λn=> ?_) N ω
 ·unfold A7.l2 A7.gJ
  rw[aT ω,ak,aX ω ω,ak,aJ,ax (x:=(i:Int)+1) ω ω,ag,Qk,ar,cond_not,gb]
  by_cases hK:cQ (l.getD i bh).1 (l.getD i bh).2.1
  ·rw[aj hK]
   by_cases h0:0<i
   ·have hq:=hp (i-1) ω
    have e:W .i64 ((i:Int)-1)=((i-1:Nat):Int):=by rw[ax ω ω];omega
    dsimp only
    rw[aT (x:=0) ω,ak,e,aJ,aX ω ω,ak]
    unfold lB mf at hq
    have hq:=hq.1
    rw[Fw N (by unfold cQ at hK;unfold HB;omega) (by unfold cQ at hK;unfold HB;omega) (by unfold cQ at hq;unfold HB;omega) (by unfold cQ at hq;unfold HB;omega),ar,aN,cG]
    by_cases hP:lB l i
    ·rw[aj hP];unfold lB mf kW at hP;unfold Bt
     have Qo:=hP.2
     repeat' split
     all_goals first|rfl|exact hr|omega
    ·rw[ah hP];unfold lB mf kW at hP;unfold Bt
     have Qo:=λh=>hP ⟨hK,h⟩
     repeat' split
     all_goals first|rfl|exact hr|omega|(exfalso;exact Qo ω)
   ·rw[aP (x:=0) ω,av,aN]
    by_cases hP:lB l i
    ·rw[aj hP];unfold lB mf at hP
     rw[ah hP.2.1];exact hr
    ·rw[ah hP];unfold lB mf at hP
     have Qo:=λh=>hP ⟨hK,h,λh=>absurd h h0⟩
     split
     ·rfl
     ·exact absurd (by assumption) Qo
  ·rw[ah hK,ah (λh=>hK (by unfold lB mf at h;exact h.1))]
 ·unfold A7.l2 A7.gJ
  rw[aP ω,av]
theorem Fy(N:Nat){l:au}(hl:l.length≤100000)(hN:200000≤N):Bu N l=some (dO l):=by
 unfold Bu Bu.b
 refine iq (F:=λn i=>Bu.l2 N n l i) (lB l) (λn i r hi hp hr=> ?_) (λn=> ?_) N ω
 ·unfold Bu.l2 Bu.gJ
  rw[aT ω,ak,aX ω ω,ak,aJ,ax (x:=(i:Int)+1) ω ω,ag,aah,ar,cond_not,gb]
  by_cases hK:cQ (l.getD i bh).1 (l.getD i bh).2.1
  ·rw[aj hK]
   by_cases h0:0<i
   ·have e:W .i64 ((i:Int)-1)=((i-1:Nat):Int):=by rw[ax ω ω];omega
    dsimp only
    rw[aT (x:=0) ω,e,aJ,aX (i:=((i-1:Nat):Int)) ω ω]
    simp only[cP,cG,aN,ak]
    by_cases hP:lB l i
    ·rw[aj hP];unfold lB mf kW at hP
     have Qo:=hP.2
     repeat' split
     all_goals first|rfl|exact hr|omega
    ·rw[ah hP];unfold lB mf kW at hP
     have Qo:=λh=>hP ⟨hK,h⟩
     repeat' split
     all_goals first|rfl|exact hr|omega|(exfalso;exact Qo ω)
   ·rw[aP (x:=0) ω]
    simp only[cP,cG,aN,ak,av]
    by_cases hP:lB l i
    ·rw[aj hP];unfold lB mf at hP
     rw[ah hP.2.1];exact hr
    ·rw[ah hP];unfold lB mf at hP
     have Qo:=λh=>hP ⟨hK,h,λh=>absurd h h0⟩
     split
     ·rfl
     ·exact absurd (by assumption) Qo
  ·rw[ah hK,ah (λh=>hK (by unfold lB mf at h;exact h.1))];rfl
 ·unfold Bu.l2 Bu.gJ
  rw[aP ω,av]
end VM
end
section
namespace VM
open Go VM.F
def bD(a b:Int):Prop:=0≤a∧a≤24∧0≤b∧b<6
instance(a b:Int):Decidable (bD a b):=by unfold bD;infer_instance
theorem DY(N:Nat)(a b:Int):Qp N a b=some (decide (bD a b)):=by
 unfold Qp
 simp only[cG]
 simp only[tX]
 by_cases hP:bD a b
 ·rw[bs hP];unfold bD at hP
  repeat' split
  all_goals first|rfl|omega|(rw[bs ω])
 ·rw[cj hP];unfold bD at hP
  repeat' split
  all_goals first|rfl|omega|(rw[cj ω])
def p5(q:Int):Prop:=q≠ -9223372036854775808
instance(q:Int):Decidable (p5 q):=by unfold p5;infer_instance
theorem sy(N:Nat)(q:Int):Qq N q=some (decide (p5 q)):=by
 unfold Qq p5
 rw[jA]
 by_cases h:q= -9223372036854775808<;>simp[h]
def mg(a b c:Int)(i:Nat)(d e:Int):Prop:=bD a b∧c≠0∧p5 c∧(0<i→kW d e a b)
instance(a b c:Int)(i:Nat)(d e:Int):Decidable (mg a b c i d e):=by unfold mg;infer_instance
def lC(l:au)(i:Nat):Prop:=mg (l.getD i bh).1 (l.getD i bh).2.1 (l.getD i bh).2.2.1 i (l.getD (i-1) bh).1 (l.getD (i-1) bh).2.1
instance(l:au):DecidablePred (lC l):=λi=>by unfold lC;infer_instance
def cz(l:au):Bool:=decide (∀j,j<l.length→lC l j)&&true
theorem wJ(N:Nat){l:au}(hl:l.length≤100000)(hN:200000≤N):nj N l=some (cz l):=by
 unfold nj nj.b
 refine iq (F:=λn i=>nj.l2 N n l l (l.length:Int) i) (lC l) (λn i r hi hp hr=> ?_) (λn=> ?_) N ω
 ·unfold nj.l2 nj.gJ
  rw[aT ω,ak,aX ω ω,ak,aJ,ax (x:=(i:Int)+1) ω ω,ag,DY,ar,cond_not,gb,sy,ar,cond_not,gb]
  by_cases hK:bD (l.getD i bh).1 (l.getD i bh).2.1
  ·rw[aj hK]
   by_cases h0:0<i
   ·have hq:=hp (i-1) ω
    have e:W .i64 ((i:Int)-1)=((i-1:Nat):Int):=by rw[ax ω ω];omega
    dsimp only
    rw[aT (x:=0) ω,ak,e,aJ,aX ω ω,ak]
    unfold lC mg at hq
    have hq:=hq.1
    rw[Iw N (by unfold bD at hK;unfold HB;omega) (by unfold bD at hK;unfold HB;omega) (by unfold bD at hq;unfold HB;omega) (by unfold bD at hq;unfold HB;omega),ar,aN,cG]
    by_cases hP:lC l i
    ·rw[aj hP];unfold lC mg kW at hP;unfold Bt
     obtain⟨_,hP1,Qo,hP3⟩:=hP
     rw[aj Qo]
     repeat' split
     all_goals first|rfl|exact hr|omega
    ·rw[ah hP];unfold lC mg kW at hP;unfold Bt
     have Qo:=λh1 h2 h3=>hP ⟨hK,h1,h2,h3⟩
     repeat' split
     all_goals first|rfl|exact hr|(exfalso;exact Qo (by assumption) (by assumption) ω)|omega
   ·rw[aP (x:=0) ω,av,aN]
    by_cases hP:lC l i
    ·rw[aj hP];unfold lC mg at hP
     rw[ah hP.2.1,aj hP.2.2.1];exact hr
    ·rw[ah hP];unfold lC mg at hP
     have Qo:=λh1 h2=>hP ⟨hK,h1,h2,λh=>absurd h h0⟩
     split
     ·rfl
     ·split
      ·exact(Qo (by assumption) (by assumption)).elim
      ·rfl
  ·rw[ah hK,ah (λh=>hK (by unfold lC mg at h;exact h.1))]
 ·unfold nj.l2 nj.gJ
  rw[aP ω,av]
theorem kN(N:Nat){l:au}(hl:l.length≤100000)(hN:200000≤N):ze N l=some (cz l):=by
 unfold ze ze.b
 refine iq (F:=λn i=>ze.l2 N n l i) (lC l) (λn i r hi hp hr=> ?_) (λn=> ?_) N ω
 ·unfold ze.l2 ze.gJ
  rw[aT ω,ak,aX ω ω,ak,aJ,ax (x:=(i:Int)+1) ω ω,ag]
  by_cases h0:0<i
  ·have e:W .i64 ((i:Int)-1)=((i-1:Nat):Int):=by rw[ax ω ω];omega
   dsimp only
   rw[aT (x:=0) (y:=(i:Int)) ω,e,aJ,aX (i:=((i-1:Nat):Int)) ω ω]
   simp only[cP,cG,aN,ak]
   by_cases hP:lC l i
   ·rw[aj hP];unfold lC mg kW p5 bD at hP
    repeat' split
    all_goals first|rfl|exact hr|omega
   ·rw[ah hP];unfold lC mg kW p5 bD at hP
    repeat' split
    all_goals first|rfl|exact hr|omega|(exfalso;exact hP ω)
  ·rw[aP (x:=0) (y:=(i:Int)) ω]
   simp only[cP,cG,aN,ak,av]
   by_cases hP:lC l i
   ·rw[aj hP];unfold lC mg kW p5 bD at hP
    repeat' split
    all_goals first|rfl|exact hr|omega
   ·rw[ah hP];unfold lC mg kW p5 bD at hP
    repeat' split
    all_goals first|rfl|exact hr|omega|(exfalso;exact hP ω)
 ·unfold ze.l2 ze.gJ
  rw[aP ω,av]
theorem gD(a b:Int)(y:Bool):cond (dk a b) (some y) (some false)=some (decide (a≤b)&&y):=by
 rw[cG];by_cases h:a≤b<;>simp[h]
theorem FA(a b:Int)(y:Bool):cond (aY a b) (some y) (some false)=some (decide (a<b)&&y):=by
 rw[cP];by_cases h:a<b<;>simp[h]
theorem FB(a b:Int)(y:Bool):cond (aO a b) (some y) (some false)=some (decide (a=b)&&y):=by
 rw[aN];by_cases h:a=b<;>simp[h]
theorem Bv(a b:Int)(y z:Bool):cond (aO a b) (some y) (some z)=some ((decide (a=b)&&y)||(!decide (a=b)&&z)):=by
 rw[aN];by_cases h:a=b<;>simp[h]
def yS(a b c d e f:Int):Prop:=(1≤a∧a≤1099511627776)∧(1≤b∧b≤24)∧(0≤c∧c<6)∧(d=1∨d=2)∧(1≤e∧e≤1000000000)∧(1≤f∧f≤1000000000000)
instance(a b c d e f:Int):Decidable (yS a b c d e f):=by unfold yS;infer_instance
def q6(o:gk):Prop:=yS o.1 o.2.1 o.2.2.1 o.2.2.2.1 o.2.2.2.2.1 o.2.2.2.2.2.1
instance(o:gk):Decidable (q6 o):=by unfold q6;infer_instance
theorem ahV(N:Nat)(o:gk):aai N o=some (decide (q6 o)):=by
 unfold aai
 rw[nZ o.2.2.2.2.2.1]
 rw[gD,gD,gD,FB,Bv,FA,gD,gD,gD,gD,gD]
 congr 1
 rw[oT,ff]
 unfold q6 yS
 simp only[bR,m1,qC,vH,Eh]
 omega
end VM
end
section
namespace VM
open Go VM.F
theorem Ix(N:Nat)(p:Int):F81 N p=some (decide (1≤p∧p≤1000000000000)):=by
 unfold F81
 rw[nZ p,gD];congr 1
 rw[oT];simp only[bR,vH]
theorem iH(N:Nat)(p:Int):Dp N p=some (decide (1≤p∧p≤1000000000000)):=Ix N p
theorem Ak(N:Nat)(o:gk):Qr N o=some (decide (q6 o)):=by
 unfold Qr
 rw[iH,ar]
 repeat (first|rw[gD]|rw[FA]|rw[FB]|rw[Bv])
 congr 1
 rw[oT,ff]
 unfold q6 yS
 simp only[bR,m1,qC,vH,Eh]
 omega
def tC(i:Nat)(a b:Int):Prop:=0<i→a<b
instance(i:Nat)(a b:Int):Decidable (tC i a b):=by unfold tC;infer_instance
def uz(l:bq)(i:Nat):Prop:=q6 (l.getD i fa)∧tC i (l.getD (i-1) fa).1 (l.getD i fa).1
instance(l:bq):DecidablePred (uz l):=λi=>by unfold uz;infer_instance
def ej(l:bq):Bool:=decide (∀j,j<l.length→uz l j)&&decide (l.length≤32)
theorem TV(N:Nat){l:bq}(hl:l.length≤100000)(hN:200000≤N):Dq N l=some (ej l):=by
 unfold Dq Dq.b
 refine iq (F:=λn i=>Dq.l2 N n l l (l.length:Int) i) (uz l) (λn i r hi hp hr=> ?_) (λn=> ?_) N ω
 ·unfold Dq.l2 Dq.gJ
  rw[aT ω,ak,aX ω ω,ak,aJ,ax (x:=(i:Int)+1) ω ω,ag,ahV,ar,cond_not,gb]
  by_cases hK:q6 (l.getD i fa)
  ·rw[aj hK]
   by_cases h0:0<i
   ·have e:W .i64 ((i:Int)-1)=((i-1:Nat):Int):=by rw[ax ω ω];omega
    dsimp only
    rw[aT (x:=0) ω,ak,e,aJ,aX ω ω,ak,cG]
    by_cases hP:uz l i
    ·rw[aj hP,ah (by have h2:=hP.2;unfold tC at h2;omega)];exact hr
    ·rw[ah hP,aj]
     have h2: ¬tC i (l.getD (i-1) fa).1 (l.getD i fa).1:=λh=>hP ⟨hK,h⟩
     unfold tC at h2
     omega
   ·rw[aP (x:=0) ω,av,aj ⟨hK,λh=>absurd h h0⟩];exact hr
  ·rw[ah hK,ah (λh=>hK h.1)]
 ·unfold Dq.l2 Dq.gJ
  rw[aP ω,av,nZ]
  congr 1;rw[oS];omega
theorem ia(N:Nat){l:bq}(hl:l.length≤100000)(hN:200000≤N):mN N l=some (ej l):=by
 unfold mN mN.b
 by_cases h32:32<l.length
 ·rw[aT ω,ak];unfold ej
  rw[cj (p:=l.length≤32) ω,Ey]
 rw[aP ω,av]
 have:=iq (F:=λn i=>mN.l4 N n l i) (e:=true) (uz l) (λn i r hi hp hr=> ?_) (λn=> ?_) N (show l.length<N by omega)
 ·refine Eq.trans this ?_
  unfold ej
  rw[bs (p:=l.length≤32) ω]
 ·unfold mN.l4 mN.dw
  rw[aT ω,ak,aX ω ω,ak,aJ,ax (x:=(i:Int)+1) ω ω,ag,Ak,ar,cond_not,gb]
  by_cases hK:q6 (l.getD i fa)
  ·rw[aj hK]
   by_cases h0:0<i
   ·have e:W .i64 ((i:Int)-1)=((i-1:Nat):Int):=by rw[ax ω ω];omega
    dsimp only
    rw[aT (x:=0) ω,ak,ak,e,aJ,aX ω ω,ak,cG]
    by_cases hP:uz l i
    ·rw[aj hP,ah (by have h2:=hP.2;unfold tC at h2;omega)];exact hr
    ·rw[ah hP,aj]
     have h2: ¬tC i (l.getD (i-1) fa).1 (l.getD i fa).1:=λh=>hP ⟨hK,h⟩
     unfold tC at h2
     omega
   ·rw[aP (x:=0) ω,av,aj ⟨hK,λh=>absurd h h0⟩];exact hr
  ·rw[ah hK,ah (λh=>hK h.1)]
 ·unfold mN.l4 mN.dw
  rw[aP ω,av]
end VM
end
section
namespace VM
open Go VM.F
def jK(id:Int):aD→Int
 |[]=>0
 |x::t=>if x.1=id then x.2.1 else jK id t
def tD(id:Int):aK→bO×Bool
 |[]=>(aV,false)
 |x::t=>if x.1=id then(x,true)else tD id t
def nk(id:Int):aK→Int
 |[]=>0
 |x::t=>if x.2.1=id then(if x.2.2.1=1 then x.1 else nk id t)else nk id t
theorem uA(id:Int)(x:yT)(t:aD):jK id (x::t)=if x.1=id then x.2.1 else jK id t:=rfl
theorem oh(id:Int)(x:bO)(t:aK):tD id (x::t)=if x.1=id then(x,true)else tD id t:=rfl
theorem sA(id:Int)(x:bO)(t:aK):nk id (x::t)=if x.2.1=id then(if x.2.2.1=1 then x.1 else nk id t)else nk id t:=rfl
theorem Nf(N:Nat){m:aD}(hl:m.length≤100000)(hN:200000≤N)(id:Int):Al.l4 N N id m (m.length:Int) 0=some (jK id m):=by
 refine Aj m cA (λn i=>Al.l4 N n id m (m.length:Int) i) (λl=>some (jK id l)) (λn i hi hr=> ?_) (λn=> ?_) N ω
 ·unfold Al.l4 Al.dw
  rw[aT ω,ak,aX ω ω,ak,aJ,ax (x:=(i:Int)+1) ω ω,ag,hr,aN]
  rw[uA]
  split<;>rfl
 ·unfold Al.l4 Al.dw
  rw[aP ω,av];rfl
theorem ib(N:Nat){m:aD}(hl:m.length≤100000)(hN:200000≤N)(id:Int):zf N m id=some (jK id m):=by
 unfold zf zf.b
 refine Aj m cA (λn i=>zf.l2 N n m id i) (λl=>some (jK id l)) (λn i hi hr=> ?_) (λn=> ?_) N ω
 ·unfold zf.l2 zf.gJ
  rw[aT ω,ak,aX ω ω,ak,ak,aJ,ax (x:=(i:Int)+1) ω ω,ag,hr,aN]
  rw[uA]
  split<;>rfl
 ·unfold zf.l2 zf.gJ
  rw[aP ω,av];rfl
def eA(m:aD)(id:Int):Int:=if dq m then jK id m else 0
theorem Bx(N:Nat){m:aD}(hl:m.length≤100000)(hN:200000≤N)(id:Int):Al N m id=some (eA m id):=by
 unfold Al Al.b eA
 rw[Fv N hl hN,ar,cond_not,Nf N hl hN]
 cases dq m<;>rfl
theorem oi(N:Nat){m:aD}(hl:m.length≤100000)(hN:200000≤N)(id:Int):R8 N m id=some (eA m id):=by
 unfold R8 eA
 rw[mD N hl hN,ar,cond_not,ib N hl hN]
 cases dq m<;>rfl
theorem TW(N:Nat){m:aK}(hl:m.length≤100000)(hN:200000≤N)(id:Int):o6.l4 N N id aV m (m.length:Int) 0=some (tD id m):=by
 refine Aj m aV (λn i=>o6.l4 N n id aV m (m.length:Int) i) (λl=>some (tD id l)) (λn i hi hr=> ?_) (λn=> ?_) N ω
 ·unfold o6.l4 o6.dw
  rw[aT ω,ak,aX ω ω,ak,aJ,ax (x:=(i:Int)+1) ω ω,ag,hr,aN]
  rw[oh]
  split<;>rfl
 ·unfold o6.l4 o6.dw
  rw[aP ω,av];rfl
theorem q7(N:Nat){m:aK}(hl:m.length≤100000)(hN:200000≤N)(id:Int):nQ N m id=some (tD id m):=by
 unfold nQ nQ.b
 refine Aj m aV (λn i=>nQ.l2 N n m id aV i) (λl=>some (tD id l)) (λn i hi hr=> ?_) (λn=> ?_) N ω
 ·unfold nQ.l2 nQ.gJ
  rw[aT ω,ak,aX ω ω,ak,ak,aJ,ax (x:=(i:Int)+1) ω ω,ag,hr,aN]
  rw[oh]
  split<;>rfl
 ·unfold nQ.l2 nQ.gJ
  rw[aP ω,av];rfl
theorem Ng(N:Nat){m:aK}(hl:m.length≤100000)(hN:200000≤N)(id:Int):mh.l4 N N m id 0=some (nk id m):=by
 refine Aj m aV (λn i=>mh.l4 N n m id i) (λl=>some (nk id l)) (λn i hi hr=> ?_) (λn=> ?_) N ω
 ·unfold mh.l4 mh.dw
  rw[aT ω,ak,aX ω ω]
  simp only[ak]
  rw[aJ,ax (x:=(i:Int)+1) ω ω,ag,hr,aN,aN]
  rw[sA]
  split
  ·split<;>rfl
  ·rfl
 ·unfold mh.l4 mh.dw
  rw[aP ω,av];rfl
end VM
end
section
namespace VM
open Go VM.F
def dx(a b:Int):Prop:=a=b
instance(a b:Int):Decidable (dx a b):=by unfold dx;infer_instance
def yt(l:aK)(k:Nat)(m:Int):Prop:=dx (l.getD k aV).2.2.1 1∧dx (l.getD k aV).2.1 m
instance(l:aK)(k:Nat)(m:Int):Decidable (yt l k m):=by unfold yt;infer_instance
def lV(l:aK)(i:Nat)(m:Int):Bool:=(List.range i).any λk=>decide (yt l k m)
theorem wK{l:aK}{i:Nat}{m:Int}:lV l i m=true↔ ∃k,k<i∧yt l k m:=by
 unfold lV
 rw[zv]
 simp only[qG,ff]
theorem uB(l:aK)(i:Nat)(m:Int):lV l (i+1) m=(lV l i m||decide (yt l i m)):=by
 unfold lV
 rw[Ev,List.any_append];simp
def mi(a b c d:Int):Prop:=(1≤a∧a≤24)∧(1≤b∧b≤12)∧(c=1∨c=2)∧(0≤d∧d≤1000000000000)
instance(a b c d:Int):Decidable (mi a b c d):=by unfold mi;infer_instance
def kk(l:aK)(i:Nat):Prop:= ¬(dx (l.getD i aV).2.2.1 1∧lV l i (l.getD i aV).2.1=true)
instance(l:aK)(i:Nat):Decidable (kk l i):=by unfold kk;infer_instance
def Am(l:aK)(i:Nat):Prop:=mi (l.getD i aV).1 (l.getD i aV).2.1 (l.getD i aV).2.2.1 (l.getD i aV).2.2.2.1∧tC i (l.getD (i-1) aV).1 (l.getD i aV).1∧kk l i
instance(l:aK):DecidablePred (Am l):=λi=>by unfold Am;infer_instance
def fA(l:aK):Bool:=decide (∀j,j<l.length→Am l j)&&true
def fp(l:aK)(i:Nat):List Bool:=(List.range 13).map λ(m:Nat)=>lV l i (m:Int)
theorem TX{l:aK}{i:Nat}{b:Int}(h0:0≤b)(h1:b<13):(fp l i).getD b.toNat false=lV l i b:=by
 unfold fp
 rw[aU,pW,List.getElem?_range ω]
 show lV l i ((b.toNat:Nat):Int)=_
 rw[vF h0]
theorem Nh{l:aK}{i:Nat}(h: ¬dx (l.getD i aV).2.2.1 1):fp l (i+1)=fp l i:=by
 unfold fp
 refine qz λm _=> ?_
 rw[uB,cj (λh'=>h h'.1),tb]
theorem Qs{l:aK}{i:Nat}(h:dx (l.getD i aV).2.2.1 1)(h0:(0:Int)≤(l.getD i aV).2.1):(fp l i).set ((l.getD i aV).2.1:Int).toNat true=fp l (i+1):=by
 refine List.ext_getElem (by unfold fp;simp) λk h1 h2=> ?_
 unfold fp at*
 rw[List.getElem_set]
 simp only[List.getElem_map,En]
 rw[uB]
 by_cases hk:((l.getD i aV).2.1:Int).toNat=k
 ·rw[aj hk,bs (show yt l i (k:Int)from⟨h,by unfold dx;omega⟩),Bool.or_true]
 ·rw[ah hk,cj (λh':yt l i (k:Int)=>hk (by have:=h'.2;unfold dx at this;omega)),tb]
theorem R9(N:Nat){l:aK}(hl:l.length≤100000)(hN:200000≤N):mO N l=some (fA l):=by
 unfold mO mO.b
 have h0:(List.replicate 13 false:List Bool)=fp l 0:=by unfold fp lV;rfl
 rw[h0]
 have:=iq (F:=λn i=>mO.l3 N n l (fp l i.toNat) l (l.length:Int) i) (e:=true) (Am l) (λn i r hi hp hr=> ?_) (λn=> ?_) N (show l.length<N by omega)
 ·exact this
 ·simp only[aJ]at hr ⊢
  unfold mO.l3 mO.nO
  rw[aT ω,ak,aX ω ω,ak]
  simp only[aJ]
  rw[ax (x:=(i:Int)+1) ω ω,ag]
  by_cases hF:mi (l.getD i aV).1 (l.getD i aV).2.1 (l.getD i aV).2.2.1 (l.getD i aV).2.2.2.1
  ·have Sa:=hF
   unfold mi at Sa
   have hT:cond (aO (l.getD i aV).2.2.1 1) (cond (ba (l.getD i aV).2.1 13) (cond (List.getD (fp l i) (l.getD i aV).2.1.toNat false) (some false) (cond (ba (l.getD i aV).2.1 13) (mO.l3 N n l (List.set (fp l i) (l.getD i aV).2.1.toNat true) l (l.length:Int) ((i+1:Nat):Int)) none)) none) (mO.l3 N n l (fp l i) l (l.length:Int) ((i+1:Nat):Int))=if kk l i then r else some false:=by
    rw[aN]
    by_cases hk:dx (l.getD i aV).2.2.1 1
    ·have Hj:=hk
     unfold dx at Hj
     rw[aj Hj,aX ω ω,ak,ak,TX ω ω,Qs hk ω,hr]
     by_cases ho:lV l i (l.getD i aV).2.1=true
     ·have vA: ¬kk l i:=λh=>h ⟨hk,ho⟩
      rw[ah vA,ho];rfl
     ·have vA:kk l i:=λh=>ho h.2
      rw[aj vA,vI.2 ho];rfl
    ·have Hj:=hk
     unfold dx at Hj
     rw[ah Hj,aj (show kk l i from λh=>hk h.1),←Nh hk,hr]
   have hP:Am l i↔tC i (l.getD (i-1) aV).1 (l.getD i aV).1∧kk l i:=⟨λh=>h.2,λh=>⟨hF,h⟩⟩
   have hD:(if Am l i then r else some false)=if tC i (l.getD (i-1) aV).1 (l.getD i aV).1 then(if kk l i then r else some false)else some false:=by
    by_cases h1:tC i (l.getD (i-1) aV).1 (l.getD i aV).1<;>by_cases h2:kk l i<;>simp[hP,h1,h2]
   rw[hD]
   rw[hT]
   rw[aP ω,av,aP ω,av,aP ω,av,aP ω,av,aP (x:=(l.getD i aV).2.2.2.1) ω,aP (x:=1000000000000) ω]
   simp only[av]
   have hm: ∀{α:Type} (x:α) (y:α),cond (!aO (l.getD i aV).2.2.1 1) (cond (!aO (l.getD i aV).2.2.1 2) y x) x=x:=by
    intro α x y
    rcases Sa.2.2.1 with h|h
    ·rw[dX h];rfl
    ·rw[dX (y:=2) h];cases aO (l.getD i aV).2.2.1 1<;>rfl
   rw[hm]
   by_cases h0:0<i
   ·have e:W .i64 ((i:Int)-1)=((i-1:Nat):Int):=by rw[ax ω ω];omega
    rw[aT (x:=0) ω,ak,e,aJ,aX ω ω,ak,cG]
    by_cases h1:tC i (l.getD (i-1) aV).1 (l.getD i aV).1
    ·rw[aj h1,ah (by unfold tC at h1;omega)]
    ·rw[ah h1,aj (by unfold tC at h1;omega)]
   ·rw[aP (x:=0) ω,av,aj (show tC i (l.getD (i-1) aV).1 (l.getD i aV).1 from λh=>absurd h h0)]
  ·rw[ah (λh=>hF h.1)]
   unfold mi at hF
   generalize cond (aO (l.getD i aV).2.2.1 1) (cond (ba (l.getD i aV).2.1 13) (cond (List.getD (fp l i) (l.getD i aV).2.1.toNat false) (some false) (cond (ba (l.getD i aV).2.1 13) (mO.l3 N n l (List.set (fp l i) (l.getD i aV).2.1.toNat true) l (l.length:Int) ((i+1:Nat):Int)) none)) none) (mO.l3 N n l (fp l i) l (l.length:Int) ((i+1:Nat):Int))=t
   generalize cond (aY 0 (i:Int)) _ _=u
   simp only[cond_not,cP,aN]
   repeat' split
   all_goals first|rfl|omega
 ·unfold mO.l3 mO.nO
  rw[aP ω,av]
end VM
end
section
namespace VM
open Go VM.F
theorem By(N:Nat)(K:aK→Int→Option Bool){l:aK}(hl:l.length≤100000){i:Nat}(hi:i<l.length): ∀(m n k:Nat),i-k≤m→m<n→k≤i→(dx (l.getD i aV).2.2.1 1→lV l k (l.getD i aV).2.1=false)→
  eD.l8 N K n l (i:Int) (l.getD i aV) (k:Int)=if kk l i then K l ((i+1:Nat):Int)else some false
 |m,0,k,_,hn,_,_=>ω
 |m,n+1,k,hm,hn,hk,h=>by
  unfold eD.l8 eD.yc
  by_cases E0:k<i
  ·rw[aT ω,ak,aX ω ω,ak,ak,aJ,ax (x:=(k:Int)+1) ω ω,ag,aN,aN,aN]
   by_cases h1:dx (l.getD i aV).2.2.1 1
   ·have pA:=h1
    unfold dx at pA
    rw[aj pA]
    by_cases h2:yt l k (l.getD i aV).2.1
    ·have yr:=h2
     unfold yt dx at yr
     have vA: ¬kk l i:=λh3=>h3 ⟨h1,wK.2 ⟨k,E0,h2⟩⟩
     rw[aj yr.1,aj yr.2,ah vA]
    ·have wI:=By N K hl hi (m-1) n (k+1) ω ω ω (λ_=>by rw[uB,h h1,cj h2];rfl)
     split
     ·split
      ·rename_i h3 h4
       exact absurd (show yt l k (l.getD i aV).2.1 from⟨h3,h4⟩) h2
      ·exact wI
     ·exact wI
   ·have pA:=h1
    unfold dx at pA
    rw[ah pA]
    exact By N K hl hi (m-1) n (k+1) ω ω ω (λh=>absurd h h1)
  ·have:k=i:=ω
   subst this
   have vA:kk l k:=λh3=>by rw[h h3.1]at h3;exact nomatch h3.2
   rw[aP ω,av,aj vA,ax (x:=(k:Int)+1) ω ω];rfl
set_option maxHeartbeats 2000000 in
theorem tE(N:Nat){l:aK}(hl:l.length≤100000)(hN:200000≤N):eD N l=some (fA l):=by
 unfold eD eD.b
 refine iq (F:=λn i=>eD.l2 N n l i) (Am l) (λn i r hi hp hr=> ?_) (λn=> ?_) N ω
 ·unfold eD.l2 eD.gJ
  have hT:eD.j7 N (eD.l2 N n) l (i:Int) (l.getD i aV)=if kk l i then r else some false:=by
   unfold eD.j7 eD.Vm
   have:=By N (eD.l2 N n) hl hi i N 0 ω ω ω (λ_=>rfl)
   rw[hr]at this
   exact this
  rw[aT ω,ak,aX ω ω,ak]
  simp only[aJ]
  rw[hT]
  have hD:(if Am l i then r else some false)=if mi (l.getD i aV).1 (l.getD i aV).2.1 (l.getD i aV).2.2.1 (l.getD i aV).2.2.2.1∧tC i (l.getD (i-1) aV).1 (l.getD i aV).1 then(if kk l i then r else some false)else some false:=by
   unfold Am
   by_cases h1:tC i (l.getD (i-1) aV).1 (l.getD i aV).1<;>by_cases h2:kk l i<;>by_cases h3:mi (l.getD i aV).1 (l.getD i aV).2.1 (l.getD i aV).2.2.1 (l.getD i aV).2.2.2.1<;>simp[h1,h2,h3]
  rw[hD]
  generalize (if kk l i then r else some false)=t
  by_cases h0:0<i
  ·have e:W .i64 ((i:Int)-1)=((i-1:Nat):Int):=by rw[ax ω ω];omega
   rw[aT (x:=0) (y:=(i:Int)) ω,e]
   simp only[ak,aJ]
   rw[aX (i:=((i-1:Nat):Int)) ω ω]
   simp only[cond_not,cP,cG,aN,ak]
   by_cases hP:mi (l.getD i aV).1 (l.getD i aV).2.1 (l.getD i aV).2.2.1 (l.getD i aV).2.2.2.1∧tC i (l.getD (i-1) aV).1 (l.getD i aV).1
   ·rw[aj hP];unfold mi tC at hP
    repeat' split
    all_goals first|rfl|omega
   ·rw[ah hP];unfold mi tC at hP
    repeat' split
    all_goals first|rfl|omega
  ·rw[aP (x:=0) (y:=(i:Int)) ω]
   simp only[cond_not,cP,cG,aN,ak,av]
   by_cases hP:mi (l.getD i aV).1 (l.getD i aV).2.1 (l.getD i aV).2.2.1 (l.getD i aV).2.2.2.1∧tC i (l.getD (i-1) aV).1 (l.getD i aV).1
   ·rw[aj hP];unfold mi tC at hP
    repeat' split
    all_goals first|rfl|omega
   ·rw[ah hP];unfold mi tC at hP
    repeat' split
    all_goals first|rfl|omega
 ·unfold eD.l2 eD.gJ
  rw[aP ω,av]
end VM
end
section
namespace VM
open Go VM.F
def fc(a:aK)(id:Int):bO×Bool:=if fA a then tD id a else(aV,false)
theorem aaj(N:Nat){a:aK}(hl:a.length≤100000)(hN:200000≤N)(id:Int):o6 N a id=some (fc a id):=by
 unfold o6 o6.b fc
 rw[R9 N hl hN,ar,cond_not,TW N hl hN]
 cases fA a<;>rfl
theorem wL(N:Nat){a:aK}(hl:a.length≤100000)(hN:200000≤N)(id:Int):Vo N a id=some (fc a id):=by
 unfold Vo fc
 rw[tE N hl hN,ar,cond_not,q7 N hl hN]
 cases fA a<;>rfl
def nn(a:aK)(id:Int):Int:=if fA a then nk id a else 0
theorem qp(N:Nat){a:aK}(hl:a.length≤100000)(hN:200000≤N)(id:Int):mh N a id=some (nn a id):=by
 unfold mh mh.b nn
 rw[tE N hl hN,ar,cond_not,Ng N hl hN]
 cases fA a<;>rfl
def kO(m:aD)(a:aK)(i:Nat):Prop:= ¬dx (jK (a.getD i aV).2.1 m) 0
instance(m:aD)(a:aK):DecidablePred (kO m a):=λi=>by unfold kO;infer_instance
def pE(m:aD)(a:aK):Bool:=dq m&&(fA a&&(decide (∀j,j<a.length→kO m a j)&&true))
theorem aak(N:Nat){m:aD}{a:aK}(hm:m.length≤100000)(hl:a.length≤100000)(hN:200000≤N):Dr N m a=some (pE m a):=by
 unfold Dr Dr.b pE
 rw[Fv N hm hN,ar,cond_not,R9 N hl hN,ar,cond_not]
 cases hM:dq m
 ·rfl
 cases fA a
 ·rfl
 rw[m2,m2,ak,ak]
 refine iq (F:=λn i=>Dr.l4 N n m a (a.length:Int) i) (kO m a) (λn i r hi hp hr=> ?_) (λn=> ?_) N ω
 ·unfold Dr.l4 Dr.dw
  rw[aT ω,ak,aX ω ω,ak,aJ,ax (x:=(i:Int)+1) ω ω,ag,Bx N hm hN,ar,aN]
  unfold eA
  rw[hM,aj rfl]
  by_cases hP:kO m a i
  ·rw[aj hP,ah (show ¬((jK (a.getD i aV).2.1 m:Int)=0)from λh=>hP h)];exact hr
  ·rw[ah hP,aj (show(jK (a.getD i aV).2.1 m:Int)=0 by unfold kO at hP;exact Es.1 hP)]
 ·unfold Dr.l4 Dr.dw
  rw[aP ω,av]
theorem wM(N:Nat){m:aD}{a:aK}(hm:m.length≤100000)(hl:a.length≤100000)(hN:200000≤N):oj N m a=some (pE m a):=by
 unfold oj oj.b pE
 rw[mD N hm hN,ar,cond_not,tE N hl hN,ar,cond_not]
 cases hM:dq m
 ·rfl
 cases fA a
 ·rfl
 rw[m2,m2,ak,ak]
 refine iq (F:=λn i=>oj.l4 N n m a i) (kO m a) (λn i r hi hp hr=> ?_) (λn=> ?_) N ω
 ·unfold oj.l4 oj.dw
  rw[aT ω,ak,aX ω ω,ak,aJ,ax (x:=(i:Int)+1) ω ω,ag,ib N hm hN,ar,aN]
  by_cases hP:kO m a i
  ·rw[aj hP,ah (show ¬((jK (a.getD i aV).2.1 m:Int)=0)from λh=>hP h)];exact hr
  ·rw[ah hP,aj (show(jK (a.getD i aV).2.1 m:Int)=0 by unfold kO at hP;exact Es.1 hP)]
 ·unfold oj.l4 oj.dw
  rw[aP ω,av]
end VM
end
section
namespace VM
open Go VM.F
theorem WG(a b:cC):pt (.pair (.int .i64) (.pair (.int .u64) .unit)) a b=(aO a.1 b.1&&(aO a.2.1 b.2.1&&true)):=rfl
theorem Sb(N:Nat){u v:Int}:WH N (dS u) (dS v)=some (vu (u-v)):=by
 unfold WH
 rw[WG]
 unfold dS
 dsimp only
 unfold vu
 rw[cP,aN,cP,fF,jA,jA]
 have hu:u=u/18446744073709551616*18446744073709551616+u%18446744073709551616:=ω
 have hv:v=v/18446744073709551616*18446744073709551616+v%18446744073709551616:=ω
 by_cases h1:u/18446744073709551616<v/18446744073709551616
 ·rw[aj h1];congr 1;split<;>(try split)<;>omega
 ·rw[ah h1]
  by_cases h2:u/18446744073709551616=v/18446744073709551616
  ·rw[aj h2,bs h2,m2]
   by_cases h3:u%18446744073709551616<v%18446744073709551616
   ·rw[aj h3];congr 1;split<;>(try split)<;>omega
   ·rw[ah h3]
    by_cases h4:u%18446744073709551616=v%18446744073709551616
    ·rw[bs h4,ak];congr 1;split<;>(try split)<;>omega
    ·rw[cj h4,av];congr 1;split<;>(try split)<;>omega
  ·rw[ah h2,cj h2,vP,av];congr 1;split<;>(try split)<;>omega
theorem Qt:dS 0=cA:=rfl
theorem An(N:Nat){u:Int}:F74 N (dS u)=some (vu u):=by
 unfold F74
 rw[←Qt,Sb,ar,EC]
end VM
end
section
namespace VM
open Go VM.F
def dU(r:db):Int:=r.2.2.1
def aE(x:Int):Prop:= -9223372036854775808≤x∧x<9223372036854775808
def dy(l:au):Prop:= ∀x∈l,aE (dU x)
theorem yU{l:au}(h:dy l)(i:Nat):aE (dU (l.getD i bh)):=by
 by_cases hi:i<l.length
 ·rw[aU,bn hi];exact h _ (dB hi)
 ·rw[aU,gH ω];exact⟨δ,δ⟩
theorem Ni{ws:List Int}(h: ∀x∈ws,aE x): -(9223372036854775808*(ws.length:Int))≤ws.sum∧ws.sum≤9223372036854775808*(ws.length:Int):=R3 ws h
theorem Iy{ws:List Int}(h: ∀x∈ws,aE x)(hl:ws.length≤1000000):dn ws.sum:=by
 have:=Ni h
 unfold dn;omega
theorem TY{ws:List Int}(h: ∀x∈ws,aE x): ∀x∈ws,dn x:=λx hx=>by
 have:=h x hx
 unfold aE at this;unfold dn;omega
theorem Ko(N:Nat){ws:List Int}(h: ∀x∈ws,aE x)(hl:ws.length≤1000000)(hN:1000000<N):mM N (ws.map dS)=some (dS ws.sum,true):=by
 rw[DW N (TY h) hl hN]
 unfold Fu
 rw[aj (Iy h hl)]
def gK(l:au):Int:=if dO l then(l.map dU).sum else 0
theorem Qu(N:Nat){l:au}(hq:dy l)(hl:l.length≤100000)(hN:2000000≤N):CD.l5 N N cA [] l (l.length:Int) 0=some (dS (l.map dU).sum):=by
 have:=og l bh (λn i ws=>CD.l5 N n cA (ws.map dS) l (l.length:Int) i) (λt ws=>some (dS (ws++t.map dU).sum)) (λi (ws:List Int)=>ws.length=i∧ ∀x∈ws,aE x)
  (λn i ws hi hI hr=> ?_) (λn ws hI=> ?_) l.length N 0 [] ω ω ω ⟨rfl,λx hx=>nomatch hx⟩
 ·simpa using this
 ·unfold CD.l5 CD.ei
  have nR:=yU hq i
  have iI:=nR
  unfold aE dU at iI
  rw[aT ω,ak,aX ω ω,ak,aJ,wH N iI.1 iI.2,ar,bL (by rw[cv,aI];omega),ak,ax ω ω,ag]
  have:=hr (ws++[dU (l.getD i bh)]) ⟨by rw[aS,hI.1];rfl,λx hx=>by
   rcases bb.1 hx with hx|hx
   ·exact hI.2 x hx
   ·rw[bW.1 hx];exact nR⟩
  rw[cY]at this
  refine this.trans ?_
  rw[bV,br];rfl
 ·unfold CD.l5 CD.ei
  rw[aP ω,av,Ko N hI.2 ω ω,ar,iZ,ch]
theorem WI(N:Nat){l:au}(hq:dy l)(hl:l.length≤100000)(hN:2000000≤N):CD N l=some (dS (gK l)):=by
 unfold CD CD.b gK
 rw[DX N hl ω,ar,cond_not,Qu N hq hl hN]
 cases dO l<;>rfl
theorem Nj(N:Nat){l:au}(hq:dy l)(hl:l.length≤100000)(hN:4000000≤N):CE.l5 N N l (cV 0) (cV 0) 0=some (cV (l.map dU).sum):=by
 have:=og l bh (λn i ws=>CE.l5 N n l (cV 0) (cV ws.sum) i) (λt ws=>some (cV (ws++t.map dU).sum)) (λi (ws:List Int)=>ws.length=i∧ ∀x∈ws,aE x)
  (λn i ws hi hI hr=> ?_) (λn ws hI=> ?_) l.length N 0 [] ω ω ω ⟨rfl,λx hx=>nomatch hx⟩
 ·simpa using this
 ·unfold CE.l5 CE.ei
  have nR:=yU hq i
  have iI:=nR
  unfold aE dU at iI
  have hb:=Ni hI.2
  rw[hI.1]at hb
  rw[aT ω,ak,aX ω ω,ak,aJ,c5 N ω iI.1 iI.2,ar,jc N ω ((Af (n:=i) ω hb.1 hb.2).mono ω) ((Fit.i64 iI.1 iI.2).mono ω),ar,ax ω ω,ag]
  have:=hr (ws++[dU (l.getD i bh)]) ⟨by rw[aS,hI.1];rfl,λx hx=>by
   rcases bb.1 hx with hx|hx
   ·exact hI.2 x hx
   ·rw[bW.1 hx];exact nR⟩
  rw[lR,cy,iA,gI]at this
  refine this.trans ?_
  rw[bV,br];rfl
 ·unfold CE.l5 CE.ei
  rw[aP ω,av,iZ,ch]
theorem TZ(N:Nat){l:au}(hq:dy l)(hl:l.length≤100000)(hN:4000000≤N):CE N l=some (cV (gK l)):=by
 unfold CE CE.b gK
 rw[Fy N hl ω,ar,cond_not]
 have:=Nj N hq hl hN
 rw[iF]at this
 rw[this]
 cases dO l
 ·rw[av];exact fi some iF.symm
 ·rfl
end VM
end
section
namespace VM
open Go VM.F
def c6(inst:Int):au→List Int
 |[]=>[]
 |x::t=>if x.2.1=inst then dU x::c6 inst t else c6 inst t
theorem dg(inst:Int)(x:db)(t:au):c6 inst (x::t)=if x.2.1=inst then dU x::c6 inst t else c6 inst t:=rfl
theorem T0(N:Nat){l:au}(hq:dy l)(hl:l.length≤100000)(hN:2000000≤N)(inst:Int):o7.l5 N N inst cA [] l (l.length:Int) 0=some (dS (c6 inst l).sum):=by
 have:=og l bh (λn i ws=>o7.l5 N n inst cA (ws.map dS) l (l.length:Int) i) (λt ws=>some (dS (ws++c6 inst t).sum)) (λi (ws:List Int)=>ws.length≤i∧ ∀x∈ws,aE x)
  (λn i ws hi hI hr=> ?_) (λn ws hI=> ?_) l.length N 0 [] ω ω ω ⟨aG _,λx hx=>nomatch hx⟩
 ·simpa using this
 ·unfold o7.l5 o7.ei
  have nR:=yU hq i
  have iI:=nR
  unfold aE dU at iI
  rw[aT ω,ak,aX ω ω,ak,aJ,wH N iI.1 iI.2,ar,bL (by rw[cv,aI];omega),ak,ax ω ω,ag,aN,dg]
  split
  ·have:=hr (ws++[dU (l.getD i bh)]) ⟨by rw[aS,aI];omega,λx hx=>by
    rcases bb.1 hx with hx|hx
    ·exact hI.2 x hx
    ·rw[bW.1 hx];exact nR⟩
   rw[cY]at this
   refine this.trans ?_
   rw[br];rfl
  ·exact hr ws ⟨ω,hI.2⟩
 ·unfold o7.l5 o7.ei
  rw[aP ω,av,Ko N hI.2 ω ω,ar]
  show _=some (dS (ws++[]).sum)
  rw[ch]
def sB(l:au)(inst:Int):Int:=if cz l then(c6 inst l).sum else 0
theorem aal(N:Nat){l:au}(hq:dy l)(hl:l.length≤100000)(hN:2000000≤N)(inst:Int):o7 N l inst=some (dS (sB l inst)):=by
 unfold o7 o7.b sB
 rw[wJ N hl ω,ar,cond_not,T0 N hq hl hN]
 cases cz l<;>rfl
theorem Qv(N:Nat){l:au}(hq:dy l)(hl:l.length≤100000)(hN:4000000≤N)(inst:Int):o8.l5 N N l inst (cV 0) (cV 0) 0=some (cV (c6 inst l).sum):=by
 have:=og l bh (λn i ws=>o8.l5 N n l inst (cV 0) (cV ws.sum) i) (λt ws=>some (cV (ws++c6 inst t).sum)) (λi (ws:List Int)=>ws.length≤i∧ ∀x∈ws,aE x)
  (λn i ws hi hI hr=> ?_) (λn ws hI=> ?_) l.length N 0 [] ω ω ω ⟨aG _,λx hx=>nomatch hx⟩
 ·simpa using this
 ·unfold o8.l5 o8.ei
  have nR:=yU hq i
  have iI:=nR
  unfold aE dU at iI
  have hb:=Ni hI.2
  rw[aT ω,ak,aX ω ω,ak,ak,aJ,c5 N ω iI.1 iI.2,ar,jc N ω ((Af (n:=ws.length) ω hb.1 hb.2).mono ω) ((Fit.i64 iI.1 iI.2).mono ω),ar,ax ω ω,ag,aN,dg]
  split
  ·have:=hr (ws++[dU (l.getD i bh)]) ⟨by rw[aS,aI];omega,λx hx=>by
    rcases bb.1 hx with hx|hx
    ·exact hI.2 x hx
    ·rw[bW.1 hx];exact nR⟩
   rw[lR,cy,iA,gI]at this
   refine this.trans ?_
   rw[br];rfl
  ·exact hr ws ⟨ω,hI.2⟩
 ·unfold o8.l5 o8.ei
  rw[aP ω,av]
  show _=some (cV (ws++[]).sum)
  rw[ch]
theorem Nk(N:Nat){l:au}(hq:dy l)(hl:l.length≤100000)(hN:4000000≤N)(inst:Int):o8 N l inst=some (cV (sB l inst)):=by
 unfold o8 o8.b sB
 rw[kN N hl ω,ar,cond_not]
 have:=Qv N hq hl hN inst
 rw[iF]at this
 rw[this]
 cases cz l
 ·rw[av];exact fi some iF.symm
 ·rfl
def sU(l:au)(i:Nat):Prop:=dx (sB l (i:Int)) 0
instance(l:au):DecidablePred (sU l):=λi=>by unfold sU;infer_instance
def ko:Nat:=6
def om(l:au):Bool:=decide (∀j,j<ko→sU l j)&&cz l
theorem kp{x:Int}:vu x=0↔x=0:=by unfold vu;split<;>(try split)<;>omega
theorem aam(N:Nat){l:au}(hq:dy l)(hl:l.length≤100000)(hN:2000000≤N):Ds N l=some (om l):=by
 unfold Ds Ds.b
 refine iq (len:=ko) (F:=λn i=>Ds.l2 N n l i) (sU l) (λn i r hi hp hr=> ?_) (λn=> ?_) N (by unfold ko;omega)
 ·unfold Ds.l2 Ds.gJ
  unfold ko at hi
  rw[aT ω,ak,aal N hq hl hN,ar,An,ar,cond_not,aN,ax ω ω,ag,hr]
  by_cases hP:sU l i
  ·rw[aj hP,aj (kp.2 hP)]
  ·rw[ah hP,ah (λh=>hP (kp.1 h))]
 ·unfold Ds.l2 Ds.gJ
  rw[aP (by unfold ko;omega),av,wJ N hl ω,ar]
theorem WJ(N:Nat){l:au}(hq:dy l)(hl:l.length≤100000)(hN:4000000≤N):Dt N l=some (om l):=by
 unfold Dt Dt.b
 refine iq (len:=ko) (F:=λn i=>Dt.l2 N n l i) (sU l) (λn i r hi hp hr=> ?_) (λn=> ?_) N (by unfold ko;omega)
 ·unfold Dt.l2 Dt.gJ
  unfold ko at hi
  rw[aT ω,ak,Nk N hq hl hN,ar,p4,ar,cond_not,aN,ax ω ω,ag,hr]
  by_cases hP:sU l i
  ·rw[aj hP,aj (kp.2 hP)]
  ·rw[ah hP,ah (λh=>hP (kp.1 h))]
 ·unfold Dt.l2 Dt.gJ
  rw[aP (by unfold ko;omega),av,kN N hl ω,ar]
end VM
end
section
namespace VM
open Go VM.F
def jL(m:aD)(a:aK)(l:au)(i:Nat):Prop:=
 (dx (l.getD i bh).1 5→(fc a (l.getD i bh).2.1).2=true)∧(dx (l.getD i bh).1 6∨dx (l.getD i bh).1 7→ ¬dx (eA m (l.getD i bh).2.1) 0)
instance(m:aD)(a:aK)(l:au):DecidablePred (jL m a l):=λi=>by unfold jL;infer_instance
theorem Kp(N:Nat)(b:aq)(hl:b.2.1.length≤100000)(hN:200000≤N)(id:Int):F78 N b id=some (fc b.2.1 id).2:=by
 unfold F78
 rw[aaj N hl hN,ar]
theorem T1{k:Int}{f:Bool}{z:Int}{r:Option Bool}:cond (aO k 5) (cond (!f) (some false) r) (cond (aO k 6) (cond (aO z 0) (some false) r) (cond (aO k 7) (cond (aO z 0) (some false) r) r))=
  if(dx k 5→f=true)∧(dx k 6∨dx k 7→ ¬dx z 0)then r else some false:=by
 unfold dx
 rw[aN,aN,aN,aN,cond_not]
 by_cases h5:k=5
 ·have h6: ¬(k=6):=ω
  have h7: ¬(k=7):=ω
  cases f<;>simp[h5,h6,h7]
 ·by_cases h6:k=6
  ·by_cases hz:z=0<;>simp[h5,h6,hz]
  ·by_cases h7:k=7
   ·by_cases hz:z=0<;>simp[h5,h6,h7,hz]
   ·simp[h5,h6,h7]
theorem HC(N:Nat)(hN:200000≤N)(c:ae)(b:aq)(hm:b.1.length≤100000)(ha:b.2.1.length≤100000)(hl:b.2.2.1.length≤100000){e:Bool}
  (he:lD.wN N N c b b.2.2.2.1 (b.2.2.2.1.length:Int) 0=some e):lD.l4 N N c b b.2.2.1 (b.2.2.1.length:Int) 0=some (decide (∀j,j<b.2.2.1.length→jL b.1 b.2.1 b.2.2.1 j)&&e):=by
 refine iq (F:=λn i=>lD.l4 N n c b b.2.2.1 (b.2.2.1.length:Int) i) (jL b.1 b.2.1 b.2.2.1) (λn i r hi hp hr=> ?_) (λn=> ?_) N ω
 ·unfold lD.l4 lD.dw
  rw[aT ω,ak,aX ω ω,ak,aJ,ax (x:=(i:Int)+1) ω ω,ag,hr]
  simp only[Kp N b ha hN,Bx N hm hN,ar]
  rw[T1]
  rfl
 ·unfold lD.l4 lD.dw
  rw[aP ω,av];exact he
def nS(a b:Int):Prop:=a<b
instance(a b:Int):Decidable (nS a b):=by unfold nS;infer_instance
def jd(c:ae)(a:aK)(l:au)(i:Nat):Prop:=
 (dx (l.getD i bh).1 0∨(fc a (l.getD i bh).1).2=true)∧nS (l.getD i bh).2.1 c.1.length
instance(c:ae)(a:aK)(l:au):DecidablePred (jd c a l):=λi=>by unfold jd;infer_instance
theorem WK{k x n:Int}{f:Bool}{r:Option Bool}:cond (!aO k 0) (cond (!f) (some false) (cond (dk n x) (some false) r)) (cond (dk n x) (some false) r)=if(dx k 0∨f=true)∧nS x n then r else some false:=by
 unfold dx nS
 rw[cond_not,aN,cG,cond_not]
 by_cases h0:k=0
 ·by_cases hx:n≤x
  ·have: ¬x<n:=ω
   simp[h0,hx,this]
  ·have:x<n:=ω
   simp[h0,hx,this]
 ·by_cases hx:n≤x
  ·have: ¬x<n:=ω
   cases f<;>simp[h0,hx,this]
  ·have:x<n:=ω
   cases f<;>simp[h0,hx,this]
theorem Kq(N:Nat)(hN:200000≤N)(c:ae)(b:aq)(ha:b.2.1.length≤100000)(hl:b.2.2.2.1.length≤100000){e:Bool}
  (he:lD.wO N N c b b.2.2.2.2.2.1 (b.2.2.2.2.2.1.length:Int) 0=some e):lD.wN N N c b b.2.2.2.1 (b.2.2.2.1.length:Int) 0=some (decide (∀j,j<b.2.2.2.1.length→jd c b.2.1 b.2.2.2.1 j)&&e):=by
 refine iq (F:=λn i=>lD.wN N n c b b.2.2.2.1 (b.2.2.2.1.length:Int) i) (jd c b.2.1 b.2.2.2.1) (λn i r hi hp hr=> ?_) (λn=> ?_) N ω
 ·unfold lD.wN lD.vv
  rw[aT ω,ak,aX ω ω,ak,aJ,ax (x:=(i:Int)+1) ω ω,ag,hr]
  simp only[Kp N b ha hN,ar]
  rw[WK]
  rfl
 ·unfold lD.wN lD.vv
  rw[aP ω,av];exact he
end VM
end
section
namespace VM
open Go VM.F
def p6(l:List Int)(i:Nat):Prop:=1≤l.getD i 0∧l.getD i 0≤1000000000000
instance(l:List Int):DecidablePred (p6 l):=λi=>by unfold p6;infer_instance
def eV(l:List Int):Bool:=decide (∀j,j<l.length→p6 l j)
theorem ahY(N:Nat)(p:Int):F80 N p=some (!decide (1≤p∧p≤1000000000000)):=by
 unfold F80
 rw[Ix,ar]
theorem FC(N:Nat){l:List Int}(hl:l.length≤100000): ∀(m n i:Nat),l.length-i≤m→m<n→i≤l.length→(∀j,j<i→p6 l j)→
  ∃r,rT.l2 N n l () (l.length:Int) (i:Int)=some r∧(dk 0 r= !eV l)
 |m,0,i,_,hn,_,_=>ω
 |m,n+1,i,hm,hn,hi,hp=>by
  unfold rT.l2 rT.gJ
  by_cases h:i<l.length
  ·rw[aT ω,ak,aX ω ω,ak,aJ,ahY,ar,cond_not,gb]
   by_cases hP:p6 l i
   ·have hP':=hP
    unfold p6 at hP'
    rw[aj hP',ax ω ω]
    exact FC N hl (m-1) n (i+1) ω ω ω (λj hj=>by
     by_cases yM:j=i
     ·subst yM;exact hP
     ·exact hp j ω)
   ·have hP':=hP
    unfold p6 at hP'
    rw[ah hP']
    refine⟨_,rfl,?_⟩
    rw[fE ω]
    unfold eV
    rw[cj (λh'=>hP (h' i h))];rfl
  ·rw[aP ω,av]
   refine⟨_,rfl,?_⟩
   rw[fm ω]
   unfold eV
   rw[bs (λj hj=>hp j ω)];rfl
theorem T2(N:Nat){l:List Int}(hl:l.length≤100000)(hN:200000≤N):F79 N l ()=some (!eV l):=by
 unfold F79 rT rT.b
 obtain⟨r,e,h⟩:=FC N hl l.length N 0 ω ω ω (λj hj=>absurd hj ω)
 rw[show((0:Nat):Int)=0 from rfl]at e
 rw[e,ar,h]
def p7(c:ae)(a:aK)(l:bq)(i:Nat):Prop:=
 (fc a (l.getD i fa).2.1).2=true∧nS (l.getD i fa).2.2.1 c.1.length
instance(c:ae)(a:aK)(l:bq):DecidablePred (p7 c a l):=λi=>by unfold p7;infer_instance
theorem FD{x n:Int}{f:Bool}{r:Option Bool}:cond (!f) (some false) (cond (dk n x) (some false) r)=if f=true∧nS x n then r else some false:=by
 unfold nS
 rw[cG,cond_not]
 by_cases hx:n≤x
 ·have: ¬x<n:=ω
  cases f<;>simp[hx,this]
 ·have:x<n:=ω
  cases f<;>simp[hx,this]
theorem Kr(N:Nat)(hN:200000≤N)(c:ae)(b:aq)(ha:b.2.1.length≤100000)(hl:b.2.2.2.2.2.1.length≤100000)(hp:b.2.2.2.2.1.length≤100000):
  lD.wO N N c b b.2.2.2.2.2.1 (b.2.2.2.2.2.1.length:Int) 0=some (decide (∀j,j<b.2.2.2.2.2.1.length→p7 c b.2.1 b.2.2.2.2.2.1 j)&&eV b.2.2.2.2.1):=by
 refine iq (F:=λn i=>lD.wO N n c b b.2.2.2.2.2.1 (b.2.2.2.2.2.1.length:Int) i) (p7 c b.2.1 b.2.2.2.2.2.1) (λn i r hi Ry hr=> ?_) (λn=> ?_) N ω
 ·unfold lD.wO lD.vw
  rw[aT ω,ak,aX ω ω,ak,aJ,ax (x:=(i:Int)+1) ω ω,ag,hr]
  simp only[Kp N b ha hN,ar]
  rw[FD]
  rfl
 ·unfold lD.wO lD.vw
  rw[aP ω,av,T2 N hp hN,ar,Bool.not_not]
def dz(c:ae)(b:aq):Bool:=
 fL c&&(pE b.1 b.2.1&&(dO b.2.2.1&&(decide (dx (gK b.2.2.1) 0)&&(om b.2.2.2.1&&(ej b.2.2.2.2.2.1&&(decide (dx b.2.2.2.2.1.length c.1.length)&&
  (decide (∀j,j<b.2.2.1.length→jL b.1 b.2.1 b.2.2.1 j)&&(decide (∀j,j<b.2.2.2.1.length→jd c b.2.1 b.2.2.2.1 j)&&(decide (∀j,j<b.2.2.2.2.2.1.length→p7 c b.2.1 b.2.2.2.2.2.1 j)&&eV b.2.2.2.2.1)))))))))
structure gE(b:aq):Prop where
 m:b.1.length≤100000
 a:b.2.1.length≤100000
 r:b.2.2.1.length≤100000
 s:b.2.2.2.1.length≤100000
 p:b.2.2.2.2.1.length≤100000
 o:b.2.2.2.2.2.1.length≤100000
 qr:dy b.2.2.1
 qs:dy b.2.2.2.1
theorem o9{x:Bool}{r:Option Bool}{y:Bool}(h:r=some y):cond (!x) (some false) r=some (x&&y):=by subst h;cases x<;>rfl
theorem Sc(N:Nat)(hN:4000000≤N){c:ae}{b:aq}(w:gE b):lD N c b=some (dz c b):=by
 unfold lD lD.b dz
 rw[R7 N ω,ar]
 refine o9 ?_
 rw[aak N w.m w.a ω,ar]
 refine o9 ?_
 rw[DX N w.r ω,ar]
 refine o9 ?_
 rw[WI N w.qr w.r ω,ar,An,ar]
 have e0:aO (vu (gK b.2.2.1)) 0=decide (dx (gK b.2.2.1) 0):=by rw[jA,oS];exact kp
 rw[e0]
 refine o9 ?_
 rw[aam N w.qs w.s ω,ar]
 refine o9 ?_
 rw[TV N w.o ω,ar]
 refine o9 ?_
 rw[jA]
 refine o9 ?_
 exact HC N ω c b w.m w.a w.r (Kq N ω c b w.a w.s (Kr N ω c b w.a w.o w.p))
end VM
end
section
namespace VM
open Go VM.F
theorem tF(N:Nat)(b:aq)(hl:b.2.1.length≤100000)(hN:200000≤N)(id:Int):Ks N b id=some ((fc b.2.1 id).2||decide (dx id 0)):=by
 unfold Ks
 rw[wL N hl hN,ar,jA]
 cases(fc b.2.1 id).2<;>rfl
theorem Qw{k:Int}{f:Bool}{z:Int}{r:Option Bool}:cond (aO k 5) (cond (!f) (some false) (cond (aO k 6) (cond (aO z 0) (some false) r) (cond (aO k 7) (cond (aO z 0) (some false) r) r))) (cond (aO k 6) (cond (aO z 0) (some false) r) (cond (aO k 7) (cond (aO z 0) (some false) r) r))=
  if(dx k 5→f=true)∧(dx k 6∨dx k 7→ ¬dx z 0)then r else some false:=by
 unfold dx
 rw[aN,aN,aN,aN,cond_not]
 by_cases h5:k=5
 ·have h6: ¬(k=6):=ω
  have h7: ¬(k=7):=ω
  cases f<;>simp[h5,h6,h7]
 ·by_cases h6:k=6
  ·by_cases hz:z=0<;>simp[h5,h6,hz]
  ·by_cases h7:k=7
   ·by_cases hz:z=0<;>simp[h5,h6,h7,hz]
   ·simp[h5,h6,h7]
theorem HD(N:Nat)(hN:200000≤N)(c:ae)(b:aq)(ha:b.2.1.length≤100000)(hl:b.2.2.2.2.2.1.length≤100000)(ho:ej b.2.2.2.2.2.1=true):
  fZ.wO N N c b 0=some (decide (∀j,j<b.2.2.2.2.2.1.length→p7 c b.2.1 b.2.2.2.2.2.1 j)&&true):=by
 refine iq (F:=λn i=>fZ.wO N n c b i) (p7 c b.2.1 b.2.2.2.2.2.1) (λn i r hi Ry hr=> ?_) (λn=> ?_) N ω
 ·unfold fZ.wO fZ.vw
  unfold ej at ho
  rw[bR,ff]at ho
  have h1:=(ho.1 i hi).1
  unfold q6 yS at h1
  have h2:decide (dx (b.2.2.2.2.2.1.getD i fa).2.1 0)=false:=cj (by unfold dx;omega)
  rw[aT ω,ak,aX ω ω,ak,aJ,ax (x:=(i:Int)+1) ω ω,ag,hr]
  simp only[tF N b ha hN,ar,ak]
  rw[h2,tb,FD]
  rfl
 ·unfold fZ.wO fZ.vw
  rw[aP ω,av]
theorem Du(N:Nat)(hN:200000≤N)(c:ae)(b:aq)(hl:b.2.2.2.2.1.length≤100000){e:Bool}(he:fZ.wO N N c b 0=some e):
  fZ.DZ N N c b 0=some (eV b.2.2.2.2.1&&e):=by
 refine iq (F:=λn i=>fZ.DZ N n c b i) (p6 b.2.2.2.2.1) (λn i r hi Ry hr=> ?_) (λn=> ?_) N ω
 ·unfold fZ.DZ fZ.Dv
  rw[aT ω,ak,aX ω ω,ak,aJ,ax (x:=(i:Int)+1) ω ω,ag,hr,iH,ar,cond_not,gb]
  rfl
 ·unfold fZ.DZ fZ.Dv
  rw[aP ω,av];exact he
theorem HE(N:Nat)(hN:200000≤N)(c:ae)(b:aq)(ha:b.2.1.length≤100000)(hl:b.2.2.2.1.length≤100000){e:Bool}(he:fZ.DZ N N c b 0=some e):
  fZ.p8 N N c b 0=some (decide (∀j,j<b.2.2.2.1.length→jd c b.2.1 b.2.2.2.1 j)&&e):=by
 refine iq (F:=λn i=>fZ.p8 N n c b i) (jd c b.2.1 b.2.2.2.1) (λn i r hi Ry hr=> ?_) (λn=> ?_) N ω
 ·unfold fZ.p8 fZ.pF
  rw[aT ω,ak,aX ω ω,ak,aJ,ax (x:=(i:Int)+1) ω ω,ag,hr]
  simp only[tF N b ha hN,ar,ak]
  rw[FD]
  have WL:((((fc b.2.1 (b.2.2.2.1.getD i bh).1).2||decide (dx (b.2.2.2.1.getD i bh).1 0))=true)∧nS (b.2.2.2.1.getD i bh).2.1 c.1.length)↔jd c b.2.1 b.2.2.2.1 i:=by
   unfold jd
   rw[m1,ff]
   exact⟨λh=>⟨h.1.symm,h.2⟩,λh=>⟨h.1.symm,h.2⟩⟩
  by_cases hP:jd c b.2.1 b.2.2.2.1 i
  ·rw[aj hP,aj (WL.2 hP)]
  ·rw[ah hP,ah (λh=>hP (WL.1 h))]
 ·unfold fZ.p8 fZ.pF
  rw[aP ω,av];exact he
theorem FE(N:Nat)(hN:200000≤N)(c:ae)(b:aq)(hm:b.1.length≤100000)(ha:b.2.1.length≤100000)(hl:b.2.2.1.length≤100000)(hk:dO b.2.2.1=true){e:Bool}
  (he:fZ.p8 N N c b 0=some e):fZ.l6 N N c b 0=some (decide (∀j,j<b.2.2.1.length→jL b.1 b.2.1 b.2.2.1 j)&&e):=by
 refine iq (F:=λn i=>fZ.l6 N n c b i) (jL b.1 b.2.1 b.2.2.1) (λn i r hi Ry hr=> ?_) (λn=> ?_) N ω
 ·unfold fZ.l6 fZ.uu
  unfold dO at hk
  rw[fF,ff]at hk
  have h1:=(hk i hi).1
  rw[aT ω,ak,aX ω ω,ak,aJ,ax (x:=(i:Int)+1) ω ω,ag,hr]
  simp only[tF N b ha hN,oi N hm hN,ar]
  rw[Qw]
  have WL:((dx (b.2.2.1.getD i bh).1 5→((fc b.2.1 (b.2.2.1.getD i bh).2.1).2||decide (dx (b.2.2.1.getD i bh).2.1 0))=true)∧(dx (b.2.2.1.getD i bh).1 6∨dx (b.2.2.1.getD i bh).1 7→ ¬dx (eA b.1 (b.2.2.1.getD i bh).2.1) 0))↔jL b.1 b.2.1 b.2.2.1 i:=by
   unfold jL
   refine and_congr_left λ_=>imp_congr_right λh5=> ?_
   rw[m1,ff]
   refine⟨λh=>h.elim id λh0=> ?_,.inl⟩
   unfold cQ at h1;unfold dx at h5 h0;omega
  by_cases hP:jL b.1 b.2.1 b.2.2.1 i
  ·rw[aj hP,aj (WL.2 hP)]
  ·rw[ah hP,ah (λh=>hP (WL.1 h))]
 ·unfold fZ.l6 fZ.uu
  rw[aP ω,av];exact he
end VM
end
section
namespace VM
open Go VM.F
theorem oq{x:Bool}{r:Option Bool}{y:Bool}(h:x=true→r=some y):cond (!x) (some false) r=some (x&&y):=by
 cases x
 ·rfl
 ·exact h rfl
theorem Ao(N:Nat)(hN:5000000≤N){c:ae}{b:aq}(w:gE b):fZ N c b=some (dz c b):=by
 unfold fZ fZ.b
 rw[ni N ω,ar]
 have e0:aO (vu (gK b.2.2.1)) 0=decide (dx (gK b.2.2.1) 0):=by rw[jA,oS];exact kp
 refine(oq λ_=> ?_).trans (fi some (?_:(fL c&&(pE b.1 b.2.1&&(dO b.2.2.1&&(om b.2.2.2.1&&(ej b.2.2.2.2.2.1&&(decide (dx b.2.2.2.2.1.length c.1.length)&&(decide (dx (gK b.2.2.1) 0)&&
  (decide (∀j,j<b.2.2.1.length→jL b.1 b.2.1 b.2.2.1 j)&&(decide (∀j,j<b.2.2.2.1.length→jd c b.2.1 b.2.2.2.1 j)&&(eV b.2.2.2.2.1&&(decide (∀j,j<b.2.2.2.2.2.1.length→p7 c b.2.1 b.2.2.2.2.2.1 j)&&true)))))))))))=dz c b))
 ·rw[wM N w.m w.a ω,ar]
  refine oq λ_=> ?_
  rw[Fy N w.r ω,ar]
  refine oq λhk=> ?_
  rw[WJ N w.qs w.s ω,ar]
  refine oq λ_=> ?_
  rw[ia N w.o ω,ar]
  refine oq λho=> ?_
  rw[jA]
  refine oq λ_=> ?_
  rw[TZ N w.qr w.r ω,ar,p4,ar,e0]
  refine oq λ_=> ?_
  exact FE N ω c b w.m w.a w.r hk (HE N ω c b w.a w.s (Du N ω c b w.p (HD N ω c b w.a w.o ho)))
 ·unfold dz
  generalize fL c=x1,pE b.1 b.2.1=x2,dO b.2.2.1=x3,om b.2.2.2.1=x4,ej b.2.2.2.2.2.1=x5,decide (dx b.2.2.2.2.1.length c.1.length)=x6,decide (dx (gK b.2.2.1) 0)=x7,decide (∀j,j<b.2.2.1.length→jL b.1 b.2.1 b.2.2.1 j)=x8,decide (∀j,j<b.2.2.2.1.length→jd c b.2.1 b.2.2.2.1 j)=x9,eV b.2.2.2.2.1=bw,decide (∀j,j<b.2.2.2.2.2.1.length→p7 c b.2.1 b.2.2.2.2.2.1 j)=a6
  rw[fF]
  cases x1<;>cases x2<;>cases x3<;>cases x4<;>cases x5<;>cases x6<;>cases x7<;>try rfl
  cases x8<;>cases x9<;>cases bw<;>cases a6<;>rfl
end VM
end
section
namespace VM
open Go VM.F
def np(a q n:Int)(i:Nat)(p:Int):Prop:=0≤a∧a<n∧q≠0∧p5 q∧(0<i→p<a)
instance(a q n:Int)(i:Nat)(p:Int):Decidable (np a q n i p):=by unfold np;infer_instance
def nq(c:ae)(l:aD)(i:Nat):Prop:=np (l.getD i cA).1 (l.getD i cA).2.1 c.1.length i (l.getD (i-1) cA).1
instance(c:ae)(l:aD):DecidablePred (nq c l):=λi=>by unfold nq;infer_instance
def mj(c:ae)(l:aD):Bool:=decide (∀j,j<l.length→nq c l j)&&fL c
theorem aan(N:Nat)(hN:200000≤N)(c:ae){l:aD}(hl:l.length≤100000):pG N c l=some (mj c l):=by
 unfold pG pG.b
 refine iq (F:=λn i=>pG.l2 N n l c l (l.length:Int) i) (nq c l) (λn i r hi hp hr=> ?_) (λn=> ?_) N ω
 ·unfold pG.l2 pG.gJ
  rw[aT ω,ak,aX ω ω,ak,aJ,ax (x:=(i:Int)+1) ω ω,ag,hr,sy,ar,cond_not,gb]
  by_cases h0:0<i
  ·have e:W .i64 ((i:Int)-1)=((i-1:Nat):Int):=by rw[ax ω ω];omega
   dsimp only
   rw[aT (x:=0) (y:=(i:Int)) ω,ak,e,aJ,aX ω ω,ak]
   simp only[cP,cG,aN]
   by_cases hP:nq c l i
   ·rw[aj hP];unfold nq np at hP
    rw[ah ω,ah ω,ah hP.2.2.1,aj hP.2.2.2.1,ah ω]
   ·rw[ah hP];unfold nq np at hP
    have h2:=λh1 h2 h3 h4 h5=>hP ⟨h1,h2,h3,h4,h5⟩
    repeat' split
    all_goals first|rfl|(exfalso;exact h2 ω ω (by assumption) (by assumption) ω)
  ·rw[aP (x:=0) (y:=(i:Int)) ω,av]
   simp only[cP,cG,aN]
   by_cases hP:nq c l i
   ·rw[aj hP];unfold nq np at hP
    rw[ah ω,ah ω,ah hP.2.2.1,aj hP.2.2.2.1]
   ·rw[ah hP];unfold nq np at hP
    have h2:=λh1 h2 h3 h4 h5=>hP ⟨h1,h2,h3,h4,h5⟩
    repeat' split
    all_goals first|rfl|(exfalso;exact h2 ω ω (by assumption) (by assumption) ω)
 ·unfold pG.l2 pG.gJ
  rw[aP ω,av,R7 N ω,ar]
end VM
end
