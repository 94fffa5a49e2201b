/- A part of the proof of WindBears of layer 21: what the functions compute, in plain words. -/
import Derived.Test.YtecmobijochjkaaGreatPlain0
import Derived.Test.YtecmobijochjkaaGreatText
set_option linter.all false
section
namespace VM
open Go VM.F
def dm(x:Int):Prop:= -170141183460469231731687303715884105728≤x∧x<170141183460469231731687303715884105728
instance(x:Int):Decidable (dm x):=by unfold dm;infer_instance
theorem wV(N:Nat){x:Int}(h0: -9223372036854775808≤x)(h1:x<9223372036854775808):Vl N x=some (dQ x):=by
 unfold Vl
 rw[aP ω,av,uM h0 h1,vu]
 congr 1
 exact wmk (by split<;>omega) rfl
theorem aaa{ws:List Int}(i:Nat):(ws.map dQ).getD i cA=dQ (ws.getD i 0):=by
 by_cases h:i<ws.length
 ·rw[aU,pZ,bl h,aU,bl h];rfl
 ·rw[aU,gI (by rw[cy];omega),aU,gI ω];rfl
theorem Ku{ws:List Int}(h: ∀x∈ws,dm x): -(170141183460469231731687303715884105728*(ws.length:Int))≤ws.sum∧ws.sum≤170141183460469231731687303715884105728*(ws.length:Int):=by
 induction ws with
 |nil=>simp
 |cons x ws ih=>
  have h0:=h x (bg ..)
  have ih:=ih (λy hy=>h y (aY _ hy))
  unfold dm at h0
  rw[cz,aR];omega
theorem WC{t w:Int}{lo hi top:Int}(hw:dm w)(yi:lo=t%18446744073709551616)(LB:hi=t/18446744073709551616%18446744073709551616)(arV:top=t/340282366920938463463374607431768211456):
  (lo+w%18446744073709551616+0)%18446744073709551616=(t+w)%18446744073709551616∧
  (hi+(w/18446744073709551616)%18446744073709551616+(lo+w%18446744073709551616+0)/18446744073709551616)%18446744073709551616=(t+w)/18446744073709551616%18446744073709551616∧
  top+(if w/18446744073709551616<0 then-1 else 0)+(hi+(w/18446744073709551616)%18446744073709551616+(lo+w%18446744073709551616+0)/18446744073709551616)/18446744073709551616=(t+w)/340282366920938463463374607431768211456:=by
 unfold dm at hw
 subst yi LB arV
 refine⟨ω,ω,?_⟩
 split<;>omega
def FD(t:Int):cC×Bool:=if dm t then(dQ t,true)else(cA,false)
theorem W64(x:Int):W .u64 x=x%18446744073709551616:=vu x
theorem IC(N:Nat){ws:List Int}(h: ∀x∈ws,dm x)(hl:ws.length≤1000000): ∀(m n i:Nat) (t:Int),ws.length-i≤m→m<n→i≤ws.length→t=(ws.take i).sum→
  mN.l3 N n cA (t/340282366920938463463374607431768211456) (t/18446744073709551616%18446744073709551616) (t%18446744073709551616) (ws.map dQ) (ws.length:Int) (i:Int)=some (FD ws.sum)
 |m,0,i,t,_,hn,_,_=>ω
 |m,n+1,i,t,hm,hn,hi,ht=>by
  unfold mN.l3 mN.nT
  have f1:=Ku (ws:=ws.take i) (λx hx=>h x (lP hx))
  rw[cf,iE ω,←ht]at f1
  by_cases h1:i<ws.length
  ·have hw:dm (ws.getD i 0):=by
    rw[aU,bl h1];exact h _ (dA h1)
   have hs:=lD ws h1
   rw[←ht]at hs
   have st:=WC (t:=t) (w:=ws.getD i 0) hw rfl rfl rfl
   have wX:=IC N h hl (m-1) n (i+1) (t+ws.getD i 0) ω ω ω hs.symm
   rw[aT ω,aq,a6 ω (by rw[cy];omega),aq,aJ,aaa]
   unfold dQ
   dsimp only
   have hw':=hw
   unfold dm at hw'
   generalize ws.getD i 0=w at*
   have hq:0≤(t%18446744073709551616+w%18446744073709551616+0)/18446744073709551616∧(t%18446744073709551616+w%18446744073709551616+0)/18446744073709551616≤1:=ω
   rw[Na N ω ω ω ω,ar,W64,Na N ω ω hq.1 hq.2,ar,aP (x:=63) ω,av,st.1,st.2.1]
   rw[uM ω ω]
   have hc:0≤(t/18446744073709551616%18446744073709551616+w/18446744073709551616%18446744073709551616+(t%18446744073709551616+w%18446744073709551616+0)/18446744073709551616)/18446744073709551616∧(t/18446744073709551616%18446744073709551616+w/18446744073709551616%18446744073709551616+(t%18446744073709551616+w%18446744073709551616+0)/18446744073709551616)/18446744073709551616≤1:=ω
   have hif: -1≤(if w/18446744073709551616<0 then(-1:Int)else 0)∧(if w/18446744073709551616<0 then(-1:Int)else 0)≤0:=by split<;>omega
   rw[ay (x:=t/340282366920938463463374607431768211456+_) ω ω,ay (x:=(_:Int)/18446744073709551616) ω ω,st.2.2,ay ω ω,ay (x:=(i:Int)+1) ω ω]
   exact wX
  ·have e:(ws.take i).sum=ws.sum:=by rw[jH ω]
   rw[e]at ht
   rw[aP ω,av,aP (x:=63) ω,av,←ht]
   have hh: -9223372036854775808≤W .i64 (t/18446744073709551616%18446744073709551616)∧W .i64 (t/18446744073709551616%18446744073709551616)<9223372036854775808:=by rw[iN];split<;>omega
   have hwv:W .i64 (t/18446744073709551616%18446744073709551616)=if 9223372036854775808≤t/18446744073709551616%18446744073709551616 then t/18446744073709551616%18446744073709551616-18446744073709551616 else t/18446744073709551616%18446744073709551616:=by rw[iN];split<;>split<;>omega
   rw[uM hh.1 hh.2,hwv]
   unfold FD
   by_cases hI:dm t
   ·rw[aj hI]
    unfold dm at hI
    rw[dP (by split<;>split<;>omega),bt,av]
    exact R7 (by split<;>omega) rfl
   ·rw[ah hI]
    unfold dm at hI
    rw[dX (by split<;>split<;>omega),c3,aq]
theorem D2(N:Nat){ws:List Int}(h: ∀x∈ws,dm x)(hl:ws.length≤1000000)(hN:1000000<N):mN N (ws.map dQ)=some (FD ws.sum):=by
 unfold mN mN.b
 rw[cy]
 exact IC N h hl ws.length N 0 0 ω ω ω (by simp)
end VM
end
section
namespace VM
open Go VM.F
theorem uQ(N:Nat)(a lo hi:Int):DA N a lo hi=some (decide (lo≤a∧a≤hi)):=by
 unfold DA
 rw[cG,oa]
 by_cases h:lo≤a
 ·rw[aj h];congr 1;rw[oU];omega
 ·rw[ah h,cm ω]
theorem ID(N:Nat)(a lo hi:Int):HI N a lo hi=some (decide (lo≤a∧a≤hi)):=uQ N a lo hi
def oP(a b c d:Int):Prop:=(0≤a∧a≤3)∧(1≤b∧b≤1000000000000)∧(0≤c∧c≤1000000000)∧(0≤d∧d≤1000000000)
instance(a b c d:Int):Decidable (oP a b c d):=by unfold oP;infer_instance
def rl(l:aL)(i:Nat):Prop:=oP (l.getD i aV).1 (l.getD i aV).2.1 (l.getD i aV).2.2.1 (l.getD i aV).2.2.2.1
instance(l:aL):DecidablePred (rl l):=λi=>by unfold rl;infer_instance
def nk(a b c d e f:Int):Prop:=0≤a∧(0≤b∧b≤4)∧(0≤c∧c≤1000000)∧(0≤d∧d≤1000000)∧(1≤e∧e≤4611686018427387904)∧0≤f
instance(a b c d e f:Int):Decidable (nk a b c d e f):=by unfold nk;infer_instance
def pF(c:ae):Prop:=nk c.2.1 c.2.2.1 c.2.2.2.1 c.2.2.2.2.1 c.2.2.2.2.2.1 c.2.2.2.2.2.2.1
instance(c:ae):Decidable (pF c):=by unfold pF;infer_instance
def fB(c:ae):Bool:=decide (1≤c.1.length∧c.1.length≤6)&&(decide (∀j,j<c.1.length→rl c.1 j)&&decide (pF c))
theorem R8(N:Nat)(hN:100≤N)(c:ae):CO N c=some (fB c):=by
 unfold CO CO.b fB
 rw[uQ,ar,cond_not,gh]
 by_cases hl:1≤c.1.length∧c.1.length≤6
 ·rw[aj ω,bs hl,m4]
  refine iz (F:=λn i=>CO.l4 N n c c.1 (c.1.length:Int) i) (rl c.1) (λn i r hi hp hr=> ?_) (λn=> ?_) N ω
  ·unfold CO.l4 CO.eK
   rw[aT ω,aq,a6 ω ω,aq,aJ,ay ω ω,ag]
   simp only[uQ,ar,cond_not,gh]
   by_cases hP:rl c.1 i
   ·rw[aj hP];unfold rl oP at hP
    repeat' split
    all_goals first|rfl|exact hr|omega
   ·rw[ah hP];unfold rl oP at hP
    repeat' split
    all_goals first|rfl|exact hr|omega
  ·unfold CO.l4 CO.eK
   rw[aP ω,av]
   simp only[uQ,ar,cond_not,gh,cG,oa]
   by_cases hP:pF c
   ·rw[bs hP];unfold pF nk at hP
    repeat' split
    all_goals first|rfl|omega|(rw[bs ω])
   ·rw[cm hP];unfold pF nk at hP
    repeat' split
    all_goals first|rfl|omega|(rw[cm ω])
 ·rw[ah ω,cm hl,wc]
theorem nn(N:Nat)(hN:100≤N)(c:ae):mh N c=some (fB c):=by
 unfold mh mh.b fB
 rw[cR,cR]
 by_cases hl:1≤c.1.length∧c.1.length≤6
 ·rw[ah ω,ah ω,bs hl,m4]
  refine iz (F:=λn i=>mh.l4 N n c i) (rl c.1) (λn i r hi hp hr=> ?_) (λn=> ?_) N ω
  ·unfold mh.l4 mh.eK
   rw[aT ω,aq,a6 ω ω,aq,aJ,ay ω ω,ag]
   simp only[ID,ar,cond_not,gh]
   by_cases hP:rl c.1 i
   ·rw[aj hP];unfold rl oP at hP
    repeat' split
    all_goals first|rfl|exact hr|omega
   ·rw[ah hP];unfold rl oP at hP
    repeat' split
    all_goals first|rfl|exact hr|omega
  ·unfold mh.l4 mh.eK
   rw[aP ω,av]
   simp only[ID,ar,cond_not,gh,cG,oa]
   by_cases hP:pF c
   ·rw[bs hP];unfold pF nk at hP
    repeat' split
    all_goals first|rfl|omega|(rw[bs ω])
   ·rw[cm hP];unfold pF nk at hP
    repeat' split
    all_goals first|rfl|omega|(rw[cm ω])
 ·rw[cm hl,wc]
  by_cases h:(c.1.length:Int)<1
  ·rw[aj h]
  ·rw[ah h,aj ω]
def iO(a b:Int)(i:Nat)(c:Int):Prop:=1≤a∧a≤12∧1≤b∧b≤4∧(0<i→c<a)
instance(a b:Int)(i:Nat)(c:Int):Decidable (iO a b i c):=by unfold iO;infer_instance
def fN(m:aE)(i:Nat):Prop:=iO (m.getD i cA).1 (m.getD i cA).2.1 i (m.getD (i-1) cA).1
instance(m:aE):DecidablePred (fN m):=λi=>by unfold fN;infer_instance
def dp(m:aE):Bool:=decide (∀j,j<m.length→fN m j)&&true
theorem FE(N:Nat){m:aE}(hl:m.length≤100000)(hN:200000≤N):o7 N m=some (dp m):=by
 unfold o7 o7.b
 refine iz (F:=λn i=>o7.l2 N n m m (m.length:Int) i) (fN m) (λn i r hi hp hr=> ?_) (λn=> ?_) N ω
 ·unfold o7.l2 o7.gJ
  rw[aT ω,aq,a6 ω ω,aq,aJ,ay (x:=(i:Int)+1) ω ω,ag]
  by_cases h0:0<i
  ·have e:W .i64 ((i:Int)-1)=((i-1:Nat):Int):=by rw[ay ω ω];omega
   dsimp only
   rw[aT (x:=0) ω,aq,e,aJ,a6 ω ω,aq]
   simp only[cR,cG]
   by_cases hP:fN m i
   ·rw[aj hP];unfold fN iO at hP
    repeat' split
    all_goals first|rfl|exact hr|omega
   ·rw[ah hP];unfold fN iO at hP
    repeat' split
    all_goals first|rfl|exact hr|omega
  ·rw[aP (x:=0) ω,av]
   simp only[cR,cG]
   by_cases hP:fN m i
   ·rw[aj hP];unfold fN iO at hP
    repeat' split
    all_goals first|rfl|exact hr|omega
   ·rw[ah hP];unfold fN iO at hP
    repeat' split
    all_goals first|rfl|exact hr|omega
 ·unfold o7.l2 o7.gJ
  rw[aP ω,av]
theorem mF(N:Nat){m:aE}(hl:m.length≤100000)(hN:200000≤N):Bi N m=some (dp m):=by
 unfold Bi Bi.b
 refine iz (F:=λn i=>Bi.l2 N n m i) (fN m) (λn i r hi hp hr=> ?_) (λn=> ?_) N ω
 ·unfold Bi.l2 Bi.gJ
  rw[aT ω,aq,a6 ω ω,aq,aJ,ay (x:=(i:Int)+1) ω ω,ag]
  by_cases h0:0<i
  ·have e:W .i64 ((i:Int)-1)=((i-1:Nat):Int):=by rw[ay ω ω];omega
   dsimp only
   rw[aT (x:=0) ω,e,aJ,a6 (i:=((i-1:Nat):Int)) ω ω]
   simp only[cR,cG,aq]
   by_cases hP:fN m i
   ·rw[aj hP];unfold fN iO at hP
    repeat' split
    all_goals first|rfl|exact hr|omega
   ·rw[ah hP];unfold fN iO at hP
    repeat' split
    all_goals first|rfl|exact hr|omega
  ·rw[aP (x:=0) ω]
   simp only[cR,cG,aq,av]
   by_cases hP:fN m i
   ·rw[aj hP];unfold fN iO at hP
    repeat' split
    all_goals first|rfl|exact hr|omega
   ·rw[ah hP];unfold fN iO at hP
    repeat' split
    all_goals first|rfl|exact hr|omega
 ·unfold Bi.l2 Bi.gJ
  rw[aP ω,av]
end VM
end
section
namespace VM
open Go VM.F
def cS(k n:Int):Prop:=(1≤k∧k≤4∧n=0)∨(k=5∧1≤n∧n≤24)∨(6≤k∧k≤7∧1≤n∧n≤12)
instance(k n:Int):Decidable (cS k n):=by unfold cS;infer_instance
theorem Qm(N:Nat)(k n:Int):Qn N k n=some (decide (cS k n)):=by
 unfold Qn
 simp only[aN,cG]
 simp only[oa,jA]
 by_cases hP:cS k n
 ·rw[bs hP];unfold cS at hP
  repeat' split
  all_goals first|rfl|omega|(rw[bs ω])
 ·rw[cm hP];unfold cS at hP
  repeat' split
  all_goals first|rfl|omega|(rw[cm ω])
theorem aab(N:Nat)(k n:Int):Qo N k n=some (decide (cS k n)):=by
 have:=Qm N k n
 unfold Qn at this
 unfold Qo
 exact this
def kY(a b c d:Int):Prop:=a<c∨(a=c∧b<d)
instance(a b c d:Int):Decidable (kY a b c d):=by unfold kY;infer_instance
def BH(k n a b:Int):Int:=if k=a then n-b else k-a
def HJ(x:Int):Prop:= -1000000≤x∧x≤1000000
theorem FF(N:Nat){k n:Int}{r:dh}(h1:HJ k)(h2:HJ n)(h3:HJ r.1)(h4:HJ r.2.1):Qp N k n r=some (BH k n r.1 r.2.1):=by
 unfold Qp BH
 unfold HJ at*
 rw[cond_not,aN]
 split
 ·rw[ay ω ω]
 ·rw[ay ω ω]
theorem IE(N:Nat){k n:Int}{r:dh}(h1:HJ k)(h2:HJ n)(h3:HJ r.1)(h4:HJ r.2.1):TS N k n r=some (BH k n r.1 r.2.1):=FF N h1 h2 h3 h4
def mi(a b c:Int)(i:Nat)(d e:Int):Prop:=cS a b∧c≠0∧(0<i→kY d e a b)
instance(a b c:Int)(i:Nat)(d e:Int):Decidable (mi a b c i d e):=by unfold mi;infer_instance
def lE(l:au)(i:Nat):Prop:=mi (l.getD i bm).1 (l.getD i bm).2.1 (l.getD i bm).2.2.1 i (l.getD (i-1) bm).1 (l.getD (i-1) bm).2.1
instance(l:au):DecidablePred (lE l):=λi=>by unfold lE;infer_instance
def eC(l:au):Bool:=decide (∀j,j<l.length→lE l j)&&true
theorem D3(N:Nat){l:au}(hl:l.length≤100000)(hN:200000≤N):Bj N l=some (eC l):=by
 unfold Bj Bj.b
 refine iz (F:=λn i=>Bj.l2 N n l l (l.length:Int) i) (lE l) (λn i r hi hp hr=> ?_) (λn=> ?_) N ω
 ·unfold Bj.l2 Bj.gJ
  rw[aT ω,aq,a6 ω ω,aq,aJ,ay (x:=(i:Int)+1) ω ω,ag,Qm,ar,cond_not,gh]
  by_cases hK:cS (l.getD i bm).1 (l.getD i bm).2.1
  ·rw[aj hK]
   by_cases h0:0<i
   ·have hq:=hp (i-1) ω
    have e:W .i64 ((i:Int)-1)=((i-1:Nat):Int):=by rw[ay ω ω];omega
    dsimp only
    rw[aT (x:=0) ω,aq,e,aJ,a6 ω ω,aq]
    unfold lE mi at hq
    have hq:=hq.1
    rw[FF N (by unfold cS at hK;unfold HJ;omega) (by unfold cS at hK;unfold HJ;omega) (by unfold cS at hq;unfold HJ;omega) (by unfold cS at hq;unfold HJ;omega),ar,aN,cG]
    by_cases hP:lE l i
    ·rw[aj hP];unfold lE mi kY at hP;unfold BH
     have Qq:=hP.2
     repeat' split
     all_goals first|rfl|exact hr|omega
    ·rw[ah hP];unfold lE mi kY at hP;unfold BH
     have Qq:=λh=>hP ⟨hK,h⟩
     repeat' split
     all_goals first|rfl|exact hr|omega|(exfalso;exact Qq ω)
   ·rw[aP (x:=0) ω,av,aN]
    by_cases hP:lE l i
    ·rw[aj hP];unfold lE mi at hP
     rw[ah hP.2.1];exact hr
    ·rw[ah hP];unfold lE mi at hP
     have Qq:=λh=>hP ⟨hK,h,λh=>absurd h h0⟩
     split
     ·rfl
     ·exact absurd (by assumption) Qq
  ·rw[ah hK,ah (λh=>hK (by unfold lE mi at h;exact h.1))]
 ·unfold Bj.l2 Bj.gJ
  rw[aP ω,av]
theorem FG(N:Nat){l:au}(hl:l.length≤100000)(hN:200000≤N):BI N l=some (eC l):=by
 unfold BI BI.b
 refine iz (F:=λn i=>BI.l2 N n l i) (lE l) (λn i r hi hp hr=> ?_) (λn=> ?_) N ω
 ·unfold BI.l2 BI.gJ
  rw[aT ω,aq,a6 ω ω,aq,aJ,ay (x:=(i:Int)+1) ω ω,ag,aab,ar,cond_not,gh]
  by_cases hK:cS (l.getD i bm).1 (l.getD i bm).2.1
  ·rw[aj hK]
   by_cases h0:0<i
   ·have e:W .i64 ((i:Int)-1)=((i-1:Nat):Int):=by rw[ay ω ω];omega
    dsimp only
    rw[aT (x:=0) ω,e,aJ,a6 (i:=((i-1:Nat):Int)) ω ω]
    simp only[cR,cG,aN,aq]
    by_cases hP:lE l i
    ·rw[aj hP];unfold lE mi kY at hP
     have Qq:=hP.2
     repeat' split
     all_goals first|rfl|exact hr|omega
    ·rw[ah hP];unfold lE mi kY at hP
     have Qq:=λh=>hP ⟨hK,h⟩
     repeat' split
     all_goals first|rfl|exact hr|omega|(exfalso;exact Qq ω)
   ·rw[aP (x:=0) ω]
    simp only[cR,cG,aN,aq,av]
    by_cases hP:lE l i
    ·rw[aj hP];unfold lE mi at hP
     rw[ah hP.2.1];exact hr
    ·rw[ah hP];unfold lE mi at hP
     have Qq:=λh=>hP ⟨hK,h,λh=>absurd h h0⟩
     split
     ·rfl
     ·exact absurd (by assumption) Qq
  ·rw[ah hK,ah (λh=>hK (by unfold lE mi at h;exact h.1))];rfl
 ·unfold BI.l2 BI.gJ
  rw[aP ω,av]
end VM
end
section
namespace VM
open Go VM.F
def bG(a b:Int):Prop:=0≤a∧a≤24∧0≤b∧b<6
instance(a b:Int):Decidable (bG a b):=by unfold bG;infer_instance
theorem D4(N:Nat)(a b:Int):Qr N a b=some (decide (bG a b)):=by
 unfold Qr
 simp only[cG]
 simp only[uu]
 by_cases hP:bG a b
 ·rw[bs hP];unfold bG at hP
  repeat' split
  all_goals first|rfl|omega|(rw[bs ω])
 ·rw[cm hP];unfold bG at hP
  repeat' split
  all_goals first|rfl|omega|(rw[cm ω])
def p8(q:Int):Prop:=q≠ -9223372036854775808
instance(q:Int):Decidable (p8 q):=by unfold p8;infer_instance
theorem sI(N:Nat)(q:Int):Qs N q=some (decide (p8 q)):=by
 unfold Qs p8
 rw[jA]
 by_cases h:q= -9223372036854775808<;>simp[h]
def mj(a b c:Int)(i:Nat)(d e:Int):Prop:=bG a b∧c≠0∧p8 c∧(0<i→kY d e a b)
instance(a b c:Int)(i:Nat)(d e:Int):Decidable (mj a b c i d e):=by unfold mj;infer_instance
def lF(l:au)(i:Nat):Prop:=mj (l.getD i bm).1 (l.getD i bm).2.1 (l.getD i bm).2.2.1 i (l.getD (i-1) bm).1 (l.getD (i-1) bm).2.1
instance(l:au):DecidablePred (lF l):=λi=>by unfold lF;infer_instance
def cQ(l:au):Bool:=decide (∀j,j<l.length→lF l j)&&true
theorem wY(N:Nat){l:au}(hl:l.length≤100000)(hN:200000≤N):np N l=some (cQ l):=by
 unfold np np.b
 refine iz (F:=λn i=>np.l2 N n l l (l.length:Int) i) (lF l) (λn i r hi hp hr=> ?_) (λn=> ?_) N ω
 ·unfold np.l2 np.gJ
  rw[aT ω,aq,a6 ω ω,aq,aJ,ay (x:=(i:Int)+1) ω ω,ag,D4,ar,cond_not,gh,sI,ar,cond_not,gh]
  by_cases hK:bG (l.getD i bm).1 (l.getD i bm).2.1
  ·rw[aj hK]
   by_cases h0:0<i
   ·have hq:=hp (i-1) ω
    have e:W .i64 ((i:Int)-1)=((i-1:Nat):Int):=by rw[ay ω ω];omega
    dsimp only
    rw[aT (x:=0) ω,aq,e,aJ,a6 ω ω,aq]
    unfold lF mj at hq
    have hq:=hq.1
    rw[IE N (by unfold bG at hK;unfold HJ;omega) (by unfold bG at hK;unfold HJ;omega) (by unfold bG at hq;unfold HJ;omega) (by unfold bG at hq;unfold HJ;omega),ar,aN,cG]
    by_cases hP:lF l i
    ·rw[aj hP];unfold lF mj kY at hP;unfold BH
     obtain⟨_,hP1,Qq,hP3⟩:=hP
     rw[aj Qq]
     repeat' split
     all_goals first|rfl|exact hr|omega
    ·rw[ah hP];unfold lF mj kY at hP;unfold BH
     have Qq:=λh1 h2 h3=>hP ⟨hK,h1,h2,h3⟩
     repeat' split
     all_goals first|rfl|exact hr|(exfalso;exact Qq (by assumption) (by assumption) ω)|omega
   ·rw[aP (x:=0) ω,av,aN]
    by_cases hP:lF l i
    ·rw[aj hP];unfold lF mj at hP
     rw[ah hP.2.1,aj hP.2.2.1];exact hr
    ·rw[ah hP];unfold lF mj at hP
     have Qq:=λh1 h2=>hP ⟨hK,h1,h2,λh=>absurd h h0⟩
     split
     ·rfl
     ·split
      ·exact(Qq (by assumption) (by assumption)).elim
      ·rfl
  ·rw[ah hK,ah (λh=>hK (by unfold lF mj at h;exact h.1))]
 ·unfold np.l2 np.gJ
  rw[aP ω,av]
theorem kQ(N:Nat){l:au}(hl:l.length≤100000)(hN:200000≤N):zp N l=some (cQ l):=by
 unfold zp zp.b
 refine iz (F:=λn i=>zp.l2 N n l i) (lF l) (λn i r hi hp hr=> ?_) (λn=> ?_) N ω
 ·unfold zp.l2 zp.gJ
  rw[aT ω,aq,a6 ω ω,aq,aJ,ay (x:=(i:Int)+1) ω ω,ag]
  by_cases h0:0<i
  ·have e:W .i64 ((i:Int)-1)=((i-1:Nat):Int):=by rw[ay ω ω];omega
   dsimp only
   rw[aT (x:=0) (y:=(i:Int)) ω,e,aJ,a6 (i:=((i-1:Nat):Int)) ω ω]
   simp only[cR,cG,aN,aq]
   by_cases hP:lF l i
   ·rw[aj hP];unfold lF mj kY p8 bG at hP
    repeat' split
    all_goals first|rfl|exact hr|omega
   ·rw[ah hP];unfold lF mj kY p8 bG at hP
    repeat' split
    all_goals first|rfl|exact hr|omega|(exfalso;exact hP ω)
  ·rw[aP (x:=0) (y:=(i:Int)) ω]
   simp only[cR,cG,aN,aq,av]
   by_cases hP:lF l i
   ·rw[aj hP];unfold lF mj kY p8 bG at hP
    repeat' split
    all_goals first|rfl|exact hr|omega
   ·rw[ah hP];unfold lF mj kY p8 bG at hP
    repeat' split
    all_goals first|rfl|exact hr|omega|(exfalso;exact hP ω)
 ·unfold zp.l2 zp.gJ
  rw[aP ω,av]
theorem gG(a b:Int)(y:Bool):cond (dk a b) (some y) (some false)=some (decide (a≤b)&&y):=by
 rw[cG];by_cases h:a≤b<;>simp[h]
theorem FH(a b:Int)(y:Bool):cond (aZ a b) (some y) (some false)=some (decide (a<b)&&y):=by
 rw[cR];by_cases h:a<b<;>simp[h]
theorem FI(a b:Int)(y:Bool):cond (aO a b) (some y) (some false)=some (decide (a=b)&&y):=by
 rw[aN];by_cases h:a=b<;>simp[h]
theorem BJ(a b:Int)(y z:Bool):cond (aO a b) (some y) (some z)=some ((decide (a=b)&&y)||(!decide (a=b)&&z)):=by
 rw[aN];by_cases h:a=b<;>simp[h]
def y8(a b c d e f:Int):Prop:=(1≤a∧a≤1099511627776)∧(1≤b∧b≤24)∧(0≤c∧c<6)∧(d=1∨d=2)∧(1≤e∧e≤1000000000)∧(1≤f∧f≤1000000000000)
instance(a b c d e f:Int):Decidable (y8 a b c d e f):=by unfold y8;infer_instance
def rm(o:gA):Prop:=y8 o.1 o.2.1 o.2.2.1 o.2.2.2.1 o.2.2.2.2.1 o.2.2.2.2.2.1
instance(o:gA):Decidable (rm o):=by unfold rm;infer_instance
theorem ahK(N:Nat)(o:gA):aac N o=some (decide (rm o)):=by
 unfold aac
 rw[oa o.2.2.2.2.2.1]
 rw[gG,gG,gG,FI,BJ,FH,gG,gG,gG,gG,gG]
 congr 1
 rw[oV,fg]
 unfold rm y8
 simp only[bQ,m3,qJ,vV,Em]
 omega
end VM
end
section
namespace VM
open Go VM.F
theorem IF(N:Nat)(p:Int):F81 N p=some (decide (1≤p∧p≤1000000000000)):=by
 unfold F81
 rw[oa p,gG];congr 1
 rw[oV];simp only[bQ,vV]
theorem iP(N:Nat)(p:Int):DB N p=some (decide (1≤p∧p≤1000000000000)):=IF N p
theorem Aw(N:Nat)(o:gA):Qt N o=some (decide (rm o)):=by
 unfold Qt
 rw[iP,ar]
 repeat (first|rw[gG]|rw[FH]|rw[FI]|rw[BJ])
 congr 1
 rw[oV,fg]
 unfold rm y8
 simp only[bQ,m3,qJ,vV,Em]
 omega
def tQ(i:Nat)(a b:Int):Prop:=0<i→a<b
instance(i:Nat)(a b:Int):Decidable (tQ i a b):=by unfold tQ;infer_instance
def uR(l:bB)(i:Nat):Prop:=rm (l.getD i fm)∧tQ i (l.getD (i-1) fm).1 (l.getD i fm).1
instance(l:bB):DecidablePred (uR l):=λi=>by unfold uR;infer_instance
def ei(l:bB):Bool:=decide (∀j,j<l.length→uR l j)&&decide (l.length≤32)
theorem TT(N:Nat){l:bB}(hl:l.length≤100000)(hN:200000≤N):DC N l=some (ei l):=by
 unfold DC DC.b
 refine iz (F:=λn i=>DC.l2 N n l l (l.length:Int) i) (uR l) (λn i r hi hp hr=> ?_) (λn=> ?_) N ω
 ·unfold DC.l2 DC.gJ
  rw[aT ω,aq,a6 ω ω,aq,aJ,ay (x:=(i:Int)+1) ω ω,ag,ahK,ar,cond_not,gh]
  by_cases hK:rm (l.getD i fm)
  ·rw[aj hK]
   by_cases h0:0<i
   ·have e:W .i64 ((i:Int)-1)=((i-1:Nat):Int):=by rw[ay ω ω];omega
    dsimp only
    rw[aT (x:=0) ω,aq,e,aJ,a6 ω ω,aq,cG]
    by_cases hP:uR l i
    ·rw[aj hP,ah (by have h2:=hP.2;unfold tQ at h2;omega)];exact hr
    ·rw[ah hP,aj]
     have h2: ¬tQ i (l.getD (i-1) fm).1 (l.getD i fm).1:=λh=>hP ⟨hK,h⟩
     unfold tQ at h2
     omega
   ·rw[aP (x:=0) ω,av,aj ⟨hK,λh=>absurd h h0⟩];exact hr
  ·rw[ah hK,ah (λh=>hK h.1)]
 ·unfold DC.l2 DC.gJ
  rw[aP ω,av,oa]
  congr 1;rw[oU];omega
theorem ik(N:Nat){l:bB}(hl:l.length≤100000)(hN:200000≤N):mO N l=some (ei l):=by
 unfold mO mO.b
 by_cases h32:32<l.length
 ·rw[aT ω,aq];unfold ei
  rw[cm (p:=l.length≤32) ω,EE]
 rw[aP ω,av]
 have:=iz (F:=λn i=>mO.l4 N n l i) (e:=true) (uR l) (λn i r hi hp hr=> ?_) (λn=> ?_) N (show l.length<N by omega)
 ·refine Eq.trans this ?_
  unfold ei
  rw[bs (p:=l.length≤32) ω]
 ·unfold mO.l4 mO.eK
  rw[aT ω,aq,a6 ω ω,aq,aJ,ay (x:=(i:Int)+1) ω ω,ag,Aw,ar,cond_not,gh]
  by_cases hK:rm (l.getD i fm)
  ·rw[aj hK]
   by_cases h0:0<i
   ·have e:W .i64 ((i:Int)-1)=((i-1:Nat):Int):=by rw[ay ω ω];omega
    dsimp only
    rw[aT (x:=0) ω,aq,aq,e,aJ,a6 ω ω,aq,cG]
    by_cases hP:uR l i
    ·rw[aj hP,ah (by have h2:=hP.2;unfold tQ at h2;omega)];exact hr
    ·rw[ah hP,aj]
     have h2: ¬tQ i (l.getD (i-1) fm).1 (l.getD i fm).1:=λh=>hP ⟨hK,h⟩
     unfold tQ at h2
     omega
   ·rw[aP (x:=0) ω,av,aj ⟨hK,λh=>absurd h h0⟩];exact hr
  ·rw[ah hK,ah (λh=>hK h.1)]
 ·unfold mO.l4 mO.eK
  rw[aP ω,av]
end VM
end
section
namespace VM
open Go VM.F
def jM(id:Int):aE→Int
 |[]=>0
 |x::t=>if x.1=id then x.2.1 else jM id t
def tR(id:Int):aL→bM×Bool
 |[]=>(aV,false)
 |x::t=>if x.1=id then(x,true)else tR id t
def nq(id:Int):aL→Int
 |[]=>0
 |x::t=>if x.2.1=id then(if x.2.2.1=1 then x.1 else nq id t)else nq id t
theorem uS(id:Int)(x:ym)(t:aE):jM id (x::t)=if x.1=id then x.2.1 else jM id t:=rfl
theorem oq(id:Int)(x:bM)(t:aL):tR id (x::t)=if x.1=id then(x,true)else tR id t:=rfl
theorem sJ(id:Int)(x:bM)(t:aL):nq id (x::t)=if x.2.1=id then(if x.2.2.1=1 then x.1 else nq id t)else nq id t:=rfl
theorem Nm(N:Nat){m:aE}(hl:m.length≤100000)(hN:200000≤N)(id:Int):Ax.l4 N N id m (m.length:Int) 0=some (jM id m):=by
 refine Av m cA (λn i=>Ax.l4 N n id m (m.length:Int) i) (λl=>some (jM id l)) (λn i hi hr=> ?_) (λn=> ?_) N ω
 ·unfold Ax.l4 Ax.eK
  rw[aT ω,aq,a6 ω ω,aq,aJ,ay (x:=(i:Int)+1) ω ω,ag,hr,aN]
  rw[uS]
  split<;>rfl
 ·unfold Ax.l4 Ax.eK
  rw[aP ω,av];rfl
theorem il(N:Nat){m:aE}(hl:m.length≤100000)(hN:200000≤N)(id:Int):zq N m id=some (jM id m):=by
 unfold zq zq.b
 refine Av m cA (λn i=>zq.l2 N n m id i) (λl=>some (jM id l)) (λn i hi hr=> ?_) (λn=> ?_) N ω
 ·unfold zq.l2 zq.gJ
  rw[aT ω,aq,a6 ω ω,aq,aq,aJ,ay (x:=(i:Int)+1) ω ω,ag,hr,aN]
  rw[uS]
  split<;>rfl
 ·unfold zq.l2 zq.gJ
  rw[aP ω,av];rfl
def eL(m:aE)(id:Int):Int:=if dp m then jM id m else 0
theorem BK(N:Nat){m:aE}(hl:m.length≤100000)(hN:200000≤N)(id:Int):Ax N m id=some (eL m id):=by
 unfold Ax Ax.b eL
 rw[FE N hl hN,ar,cond_not,Nm N hl hN]
 cases dp m<;>rfl
theorem ot(N:Nat){m:aE}(hl:m.length≤100000)(hN:200000≤N)(id:Int):R9 N m id=some (eL m id):=by
 unfold R9 eL
 rw[mF N hl hN,ar,cond_not,il N hl hN]
 cases dp m<;>rfl
theorem TU(N:Nat){m:aL}(hl:m.length≤100000)(hN:200000≤N)(id:Int):o8.l4 N N id aV m (m.length:Int) 0=some (tR id m):=by
 refine Av m aV (λn i=>o8.l4 N n id aV m (m.length:Int) i) (λl=>some (tR id l)) (λn i hi hr=> ?_) (λn=> ?_) N ω
 ·unfold o8.l4 o8.eK
  rw[aT ω,aq,a6 ω ω,aq,aJ,ay (x:=(i:Int)+1) ω ω,ag,hr,aN]
  rw[oq]
  split<;>rfl
 ·unfold o8.l4 o8.eK
  rw[aP ω,av];rfl
theorem rn(N:Nat){m:aL}(hl:m.length≤100000)(hN:200000≤N)(id:Int):nU N m id=some (tR id m):=by
 unfold nU nU.b
 refine Av m aV (λn i=>nU.l2 N n m id aV i) (λl=>some (tR id l)) (λn i hi hr=> ?_) (λn=> ?_) N ω
 ·unfold nU.l2 nU.gJ
  rw[aT ω,aq,a6 ω ω,aq,aq,aJ,ay (x:=(i:Int)+1) ω ω,ag,hr,aN]
  rw[oq]
  split<;>rfl
 ·unfold nU.l2 nU.gJ
  rw[aP ω,av];rfl
theorem Nn(N:Nat){m:aL}(hl:m.length≤100000)(hN:200000≤N)(id:Int):mq.l4 N N m id 0=some (nq id m):=by
 refine Av m aV (λn i=>mq.l4 N n m id i) (λl=>some (nq id l)) (λn i hi hr=> ?_) (λn=> ?_) N ω
 ·unfold mq.l4 mq.eK
  rw[aT ω,aq,a6 ω ω]
  simp only[aq]
  rw[aJ,ay (x:=(i:Int)+1) ω ω,ag,hr,aN,aN]
  rw[sJ]
  split
  ·split<;>rfl
  ·rfl
 ·unfold mq.l4 mq.eK
  rw[aP ω,av];rfl
end VM
end
section
namespace VM
open Go VM.F
def dw(a b:Int):Prop:=a=b
instance(a b:Int):Decidable (dw a b):=by unfold dw;infer_instance
def yG(l:aL)(k:Nat)(m:Int):Prop:=dw (l.getD k aV).2.2.1 1∧dw (l.getD k aV).2.1 m
instance(l:aL)(k:Nat)(m:Int):Decidable (yG l k m):=by unfold yG;infer_instance
def lX(l:aL)(i:Nat)(m:Int):Bool:=(List.range i).any λk=>decide (yG l k m)
theorem wZ{l:aL}{i:Nat}{m:Int}:lX l i m=true↔ ∃k,k<i∧yG l k m:=by
 unfold lX
 rw[zE]
 simp only[qN,fg]
theorem uT(l:aL)(i:Nat)(m:Int):lX l (i+1) m=(lX l i m||decide (yG l i m)):=by
 unfold lX
 rw[EB,List.any_append];simp
def mu(a b c d:Int):Prop:=(1≤a∧a≤24)∧(1≤b∧b≤12)∧(c=1∨c=2)∧(0≤d∧d≤1000000000000)
instance(a b c d:Int):Decidable (mu a b c d):=by unfold mu;infer_instance
def kk(l:aL)(i:Nat):Prop:= ¬(dw (l.getD i aV).2.2.1 1∧lX l i (l.getD i aV).2.1=true)
instance(l:aL)(i:Nat):Decidable (kk l i):=by unfold kk;infer_instance
def Ay(l:aL)(i:Nat):Prop:=mu (l.getD i aV).1 (l.getD i aV).2.1 (l.getD i aV).2.2.1 (l.getD i aV).2.2.2.1∧tQ i (l.getD (i-1) aV).1 (l.getD i aV).1∧kk l i
instance(l:aL):DecidablePred (Ay l):=λi=>by unfold Ay;infer_instance
def fC(l:aL):Bool:=decide (∀j,j<l.length→Ay l j)&&true
def fv(l:aL)(i:Nat):List Bool:=(List.range 13).map λ(m:Nat)=>lX l i (m:Int)
theorem TV{l:aL}{i:Nat}{b:Int}(h0:0≤b)(h1:b<13):(fv l i).getD b.toNat false=lX l i b:=by
 unfold fv
 rw[aU,pZ,List.getElem?_range ω]
 show lX l i ((b.toNat:Nat):Int)=_
 rw[ti h0]
theorem No{l:aL}{i:Nat}(h: ¬dw (l.getD i aV).2.2.1 1):fv l (i+1)=fv l i:=by
 unfold fv
 refine qG λm _=> ?_
 rw[uT,cm (λh'=>h h'.1),tx]
theorem Qu{l:aL}{i:Nat}(h:dw (l.getD i aV).2.2.1 1)(h0:(0:Int)≤(l.getD i aV).2.1):(fv l i).set ((l.getD i aV).2.1:Int).toNat true=fv l (i+1):=by
 refine List.ext_getElem (by unfold fv;simp) λk h1 h2=> ?_
 unfold fv at*
 rw[List.getElem_set]
 simp only[List.getElem_map,Et]
 rw[uT]
 by_cases hk:((l.getD i aV).2.1:Int).toNat=k
 ·rw[aj hk,bs (show yG l i (k:Int)from⟨h,by unfold dw;omega⟩),Bool.or_true]
 ·rw[ah hk,cm (λh':yG l i (k:Int)=>hk (by have:=h'.2;unfold dw at this;omega)),tx]
theorem Sa(N:Nat){l:aL}(hl:l.length≤100000)(hN:200000≤N):mP N l=some (fC l):=by
 unfold mP mP.b
 have h0:(List.replicate 13 false:List Bool)=fv l 0:=by unfold fv lX;rfl
 rw[h0]
 have:=iz (F:=λn i=>mP.l3 N n l (fv l i.toNat) l (l.length:Int) i) (e:=true) (Ay l) (λn i r hi hp hr=> ?_) (λn=> ?_) N (show l.length<N by omega)
 ·exact this
 ·simp only[aJ]at hr ⊢
  unfold mP.l3 mP.nT
  rw[aT ω,aq,a6 ω ω,aq]
  simp only[aJ]
  rw[ay (x:=(i:Int)+1) ω ω,ag]
  by_cases hF:mu (l.getD i aV).1 (l.getD i aV).2.1 (l.getD i aV).2.2.1 (l.getD i aV).2.2.2.1
  ·have Sb:=hF
   unfold mu at Sb
   have hT:cond (aO (l.getD i aV).2.2.1 1) (cond (bb (l.getD i aV).2.1 13) (cond (List.getD (fv l i) (l.getD i aV).2.1.toNat false) (some false) (cond (bb (l.getD i aV).2.1 13) (mP.l3 N n l (List.set (fv l i) (l.getD i aV).2.1.toNat true) l (l.length:Int) ((i+1:Nat):Int)) none)) none) (mP.l3 N n l (fv l i) l (l.length:Int) ((i+1:Nat):Int))=if kk l i then r else some false:=by
    rw[aN]
    by_cases hk:dw (l.getD i aV).2.2.1 1
    ·have Hs:=hk
     unfold dw at Hs
     rw[aj Hs,a6 ω ω,aq,aq,TV ω ω,Qu hk ω,hr]
     by_cases ho:lX l i (l.getD i aV).2.1=true
     ·have vN: ¬kk l i:=λh=>h ⟨hk,ho⟩
      rw[ah vN,ho];rfl
     ·have vN:kk l i:=λh=>ho h.2
      rw[aj vN,vW.2 ho];rfl
    ·have Hs:=hk
     unfold dw at Hs
     rw[ah Hs,aj (show kk l i from λh=>hk h.1),←No hk,hr]
   have hP:Ay l i↔tQ i (l.getD (i-1) aV).1 (l.getD i aV).1∧kk l i:=⟨λh=>h.2,λh=>⟨hF,h⟩⟩
   have hD:(if Ay l i then r else some false)=if tQ i (l.getD (i-1) aV).1 (l.getD i aV).1 then(if kk l i then r else some false)else some false:=by
    by_cases h1:tQ i (l.getD (i-1) aV).1 (l.getD i aV).1<;>by_cases h2:kk l i<;>simp[hP,h1,h2]
   rw[hD]
   rw[hT]
   rw[aP ω,av,aP ω,av,aP ω,av,aP ω,av,aP (x:=(l.getD i aV).2.2.2.1) ω,aP (x:=1000000000000) ω]
   simp only[av]
   have hm: ∀{α:Type} (x:α) (y:α),cond (!aO (l.getD i aV).2.2.1 1) (cond (!aO (l.getD i aV).2.2.1 2) y x) x=x:=by
    intro α x y
    rcases Sb.2.2.1 with h|h
    ·rw[dP h];rfl
    ·rw[dP (y:=2) h];cases aO (l.getD i aV).2.2.1 1<;>rfl
   rw[hm]
   by_cases h0:0<i
   ·have e:W .i64 ((i:Int)-1)=((i-1:Nat):Int):=by rw[ay ω ω];omega
    rw[aT (x:=0) ω,aq,e,aJ,a6 ω ω,aq,cG]
    by_cases h1:tQ i (l.getD (i-1) aV).1 (l.getD i aV).1
    ·rw[aj h1,ah (by unfold tQ at h1;omega)]
    ·rw[ah h1,aj (by unfold tQ at h1;omega)]
   ·rw[aP (x:=0) ω,av,aj (show tQ i (l.getD (i-1) aV).1 (l.getD i aV).1 from λh=>absurd h h0)]
  ·rw[ah (λh=>hF h.1)]
   unfold mu at hF
   generalize cond (aO (l.getD i aV).2.2.1 1) (cond (bb (l.getD i aV).2.1 13) (cond (List.getD (fv l i) (l.getD i aV).2.1.toNat false) (some false) (cond (bb (l.getD i aV).2.1 13) (mP.l3 N n l (List.set (fv l i) (l.getD i aV).2.1.toNat true) l (l.length:Int) ((i+1:Nat):Int)) none)) none) (mP.l3 N n l (fv l i) l (l.length:Int) ((i+1:Nat):Int))=t
   generalize cond (aZ 0 (i:Int)) _ _=u
   simp only[cond_not,cR,aN]
   repeat' split
   all_goals first|rfl|omega
 ·unfold mP.l3 mP.nT
  rw[aP ω,av]
end VM
end
section
namespace VM
open Go VM.F
theorem BL(N:Nat)(K:aL→Int→Option Bool){l:aL}(hl:l.length≤100000){i:Nat}(hi:i<l.length): ∀(m n k:Nat),i-k≤m→m<n→k≤i→(dw (l.getD i aV).2.2.1 1→lX l k (l.getD i aV).2.1=false)→
  eE.l8 N K n l (i:Int) (l.getD i aV) (k:Int)=if kk l i then K l ((i+1:Nat):Int)else some false
 |m,0,k,_,hn,_,_=>ω
 |m,n+1,k,hm,hn,hk,h=>by
  unfold eE.l8 eE.yn
  by_cases E8:k<i
  ·rw[aT ω,aq,a6 ω ω,aq,aq,aJ,ay (x:=(k:Int)+1) ω ω,ag,aN,aN,aN]
   by_cases h1:dw (l.getD i aV).2.2.1 1
   ·have pC:=h1
    unfold dw at pC
    rw[aj pC]
    by_cases h2:yG l k (l.getD i aV).2.1
    ·have yF:=h2
     unfold yG dw at yF
     have vN: ¬kk l i:=λh3=>h3 ⟨h1,wZ.2 ⟨k,E8,h2⟩⟩
     rw[aj yF.1,aj yF.2,ah vN]
    ·have wX:=BL N K hl hi (m-1) n (k+1) ω ω ω (λ_=>by rw[uT,h h1,cm h2];rfl)
     split
     ·split
      ·rename_i h3 h4
       exact absurd (show yG l k (l.getD i aV).2.1 from⟨h3,h4⟩) h2
      ·exact wX
     ·exact wX
   ·have pC:=h1
    unfold dw at pC
    rw[ah pC]
    exact BL N K hl hi (m-1) n (k+1) ω ω ω (λh=>absurd h h1)
  ·have:k=i:=ω
   subst this
   have vN:kk l k:=λh3=>by rw[h h3.1]at h3;exact nomatch h3.2
   rw[aP ω,av,aj vN,ay (x:=(k:Int)+1) ω ω];rfl
set_option maxHeartbeats 2000000 in
theorem tS(N:Nat){l:aL}(hl:l.length≤100000)(hN:200000≤N):eE N l=some (fC l):=by
 unfold eE eE.b
 refine iz (F:=λn i=>eE.l2 N n l i) (Ay l) (λn i r hi hp hr=> ?_) (λn=> ?_) N ω
 ·unfold eE.l2 eE.gJ
  have hT:eE.j7 N (eE.l2 N n) l (i:Int) (l.getD i aV)=if kk l i then r else some false:=by
   unfold eE.j7 eE.Vk
   have:=BL N (eE.l2 N n) hl hi i N 0 ω ω ω (λ_=>rfl)
   rw[hr]at this
   exact this
  rw[aT ω,aq,a6 ω ω,aq]
  simp only[aJ]
  rw[hT]
  have hD:(if Ay l i then r else some false)=if mu (l.getD i aV).1 (l.getD i aV).2.1 (l.getD i aV).2.2.1 (l.getD i aV).2.2.2.1∧tQ i (l.getD (i-1) aV).1 (l.getD i aV).1 then(if kk l i then r else some false)else some false:=by
   unfold Ay
   by_cases h1:tQ i (l.getD (i-1) aV).1 (l.getD i aV).1<;>by_cases h2:kk l i<;>by_cases h3:mu (l.getD i aV).1 (l.getD i aV).2.1 (l.getD i aV).2.2.1 (l.getD i aV).2.2.2.1<;>simp[h1,h2,h3]
  rw[hD]
  generalize (if kk l i then r else some false)=t
  by_cases h0:0<i
  ·have e:W .i64 ((i:Int)-1)=((i-1:Nat):Int):=by rw[ay ω ω];omega
   rw[aT (x:=0) (y:=(i:Int)) ω,e]
   simp only[aq,aJ]
   rw[a6 (i:=((i-1:Nat):Int)) ω ω]
   simp only[cond_not,cR,cG,aN,aq]
   by_cases hP:mu (l.getD i aV).1 (l.getD i aV).2.1 (l.getD i aV).2.2.1 (l.getD i aV).2.2.2.1∧tQ i (l.getD (i-1) aV).1 (l.getD i aV).1
   ·rw[aj hP];unfold mu tQ at hP
    repeat' split
    all_goals first|rfl|omega
   ·rw[ah hP];unfold mu tQ at hP
    repeat' split
    all_goals first|rfl|omega
  ·rw[aP (x:=0) (y:=(i:Int)) ω]
   simp only[cond_not,cR,cG,aN,aq,av]
   by_cases hP:mu (l.getD i aV).1 (l.getD i aV).2.1 (l.getD i aV).2.2.1 (l.getD i aV).2.2.2.1∧tQ i (l.getD (i-1) aV).1 (l.getD i aV).1
   ·rw[aj hP];unfold mu tQ at hP
    repeat' split
    all_goals first|rfl|omega
   ·rw[ah hP];unfold mu tQ at hP
    repeat' split
    all_goals first|rfl|omega
 ·unfold eE.l2 eE.gJ
  rw[aP ω,av]
end VM
end
section
namespace VM
open Go VM.F
def fe(a:aL)(id:Int):bM×Bool:=if fC a then tR id a else(aV,false)
theorem aad(N:Nat){a:aL}(hl:a.length≤100000)(hN:200000≤N)(id:Int):o8 N a id=some (fe a id):=by
 unfold o8 o8.b fe
 rw[Sa N hl hN,ar,cond_not,TU N hl hN]
 cases fC a<;>rfl
theorem w1(N:Nat){a:aL}(hl:a.length≤100000)(hN:200000≤N)(id:Int):Vm N a id=some (fe a id):=by
 unfold Vm fe
 rw[tS N hl hN,ar,cond_not,rn N hl hN]
 cases fC a<;>rfl
def nr(a:aL)(id:Int):Int:=if fC a then nq id a else 0
theorem qy(N:Nat){a:aL}(hl:a.length≤100000)(hN:200000≤N)(id:Int):mq N a id=some (nr a id):=by
 unfold mq mq.b nr
 rw[tS N hl hN,ar,cond_not,Nn N hl hN]
 cases fC a<;>rfl
def kR(m:aE)(a:aL)(i:Nat):Prop:= ¬dw (jM (a.getD i aV).2.1 m) 0
instance(m:aE)(a:aL):DecidablePred (kR m a):=λi=>by unfold kR;infer_instance
def pG(m:aE)(a:aL):Bool:=dp m&&(fC a&&(decide (∀j,j<a.length→kR m a j)&&true))
theorem aae(N:Nat){m:aE}{a:aL}(hm:m.length≤100000)(hl:a.length≤100000)(hN:200000≤N):DD N m a=some (pG m a):=by
 unfold DD DD.b pG
 rw[FE N hm hN,ar,cond_not,Sa N hl hN,ar,cond_not]
 cases hM:dp m
 ·rfl
 cases fC a
 ·rfl
 rw[m4,m4,aq,aq]
 refine iz (F:=λn i=>DD.l4 N n m a (a.length:Int) i) (kR m a) (λn i r hi hp hr=> ?_) (λn=> ?_) N ω
 ·unfold DD.l4 DD.eK
  rw[aT ω,aq,a6 ω ω,aq,aJ,ay (x:=(i:Int)+1) ω ω,ag,BK N hm hN,ar,aN]
  unfold eL
  rw[hM,aj rfl]
  by_cases hP:kR m a i
  ·rw[aj hP,ah (show ¬((jM (a.getD i aV).2.1 m:Int)=0)from λh=>hP h)];exact hr
  ·rw[ah hP,aj (show(jM (a.getD i aV).2.1 m:Int)=0 by unfold kR at hP;exact Ey.1 hP)]
 ·unfold DD.l4 DD.eK
  rw[aP ω,av]
theorem w3(N:Nat){m:aE}{a:aL}(hm:m.length≤100000)(hl:a.length≤100000)(hN:200000≤N):ou N m a=some (pG m a):=by
 unfold ou ou.b pG
 rw[mF N hm hN,ar,cond_not,tS N hl hN,ar,cond_not]
 cases hM:dp m
 ·rfl
 cases fC a
 ·rfl
 rw[m4,m4,aq,aq]
 refine iz (F:=λn i=>ou.l4 N n m a i) (kR m a) (λn i r hi hp hr=> ?_) (λn=> ?_) N ω
 ·unfold ou.l4 ou.eK
  rw[aT ω,aq,a6 ω ω,aq,aJ,ay (x:=(i:Int)+1) ω ω,ag,il N hm hN,ar,aN]
  by_cases hP:kR m a i
  ·rw[aj hP,ah (show ¬((jM (a.getD i aV).2.1 m:Int)=0)from λh=>hP h)];exact hr
  ·rw[ah hP,aj (show(jM (a.getD i aV).2.1 m:Int)=0 by unfold kR at hP;exact Ey.1 hP)]
 ·unfold ou.l4 ou.eK
  rw[aP ω,av]
end VM
end
section
namespace VM
open Go VM.F
theorem WD(a b:cC):uw (.pair (.int .i64) (.pair (.int .u64) .unit)) a b=(aO a.1 b.1&&(aO a.2.1 b.2.1&&true)):=rfl
theorem Sc(N:Nat){u v:Int}:WE N (dQ u) (dQ v)=some (vw (u-v)):=by
 unfold WE
 rw[WD]
 unfold dQ
 dsimp only
 unfold vw
 rw[cR,aN,cR,fX,jA,jA]
 have hu:u=u/18446744073709551616*18446744073709551616+u%18446744073709551616:=ω
 have hv:v=v/18446744073709551616*18446744073709551616+v%18446744073709551616:=ω
 by_cases h1:u/18446744073709551616<v/18446744073709551616
 ·rw[aj h1];congr 1;split<;>(try split)<;>omega
 ·rw[ah h1]
  by_cases h2:u/18446744073709551616=v/18446744073709551616
  ·rw[aj h2,bs h2,m4]
   by_cases h3:u%18446744073709551616<v%18446744073709551616
   ·rw[aj h3];congr 1;split<;>(try split)<;>omega
   ·rw[ah h3]
    by_cases h4:u%18446744073709551616=v%18446744073709551616
    ·rw[bs h4,aq];congr 1;split<;>(try split)<;>omega
    ·rw[cm h4,av];congr 1;split<;>(try split)<;>omega
  ·rw[ah h2,cm h2,wc,av];congr 1;split<;>(try split)<;>omega
theorem Qv:dQ 0=cA:=rfl
theorem Az(N:Nat){u:Int}:F74 N (dQ u)=some (vw u):=by
 unfold F74
 rw[←Qv,Sc,ar,EI]
end VM
end
section
namespace VM
open Go VM.F
def ed(r:dh):Int:=r.2.2.1
def aD(x:Int):Prop:= -9223372036854775808≤x∧x<9223372036854775808
def dT(l:au):Prop:= ∀x∈l,aD (ed x)
theorem y9{l:au}(h:dT l)(i:Nat):aD (ed (l.getD i bm)):=by
 by_cases hi:i<l.length
 ·rw[aU,bl hi];exact h _ (dA hi)
 ·rw[aU,gI ω];exact⟨δ,δ⟩
theorem Np{ws:List Int}(h: ∀x∈ws,aD x): -(9223372036854775808*(ws.length:Int))≤ws.sum∧ws.sum≤9223372036854775808*(ws.length:Int):=R4 ws h
theorem IG{ws:List Int}(h: ∀x∈ws,aD x)(hl:ws.length≤1000000):dm ws.sum:=by
 have:=Np h
 unfold dm;omega
theorem TW{ws:List Int}(h: ∀x∈ws,aD x): ∀x∈ws,dm x:=λx hx=>by
 have:=h x hx
 unfold aD at this;unfold dm;omega
theorem Kv(N:Nat){ws:List Int}(h: ∀x∈ws,aD x)(hl:ws.length≤1000000)(hN:1000000<N):mN N (ws.map dQ)=some (dQ ws.sum,true):=by
 rw[D2 N (TW h) hl hN]
 unfold FD
 rw[aj (IG h hl)]
def gK(l:au):Int:=if eC l then(l.map ed).sum else 0
theorem Qw(N:Nat){l:au}(hq:dT l)(hl:l.length≤100000)(hN:2000000≤N):CP.l5 N N cA [] l (l.length:Int) 0=some (dQ (l.map ed).sum):=by
 have:=om l bm (λn i ws=>CP.l5 N n cA (ws.map dQ) l (l.length:Int) i) (λt ws=>some (dQ (ws++t.map ed).sum)) (λi (ws:List Int)=>ws.length=i∧ ∀x∈ws,aD x)
  (λn i ws hi hI hr=> ?_) (λn ws hI=> ?_) l.length N 0 [] ω ω ω ⟨rfl,λx hx=>nomatch hx⟩
 ·simpa using this
 ·unfold CP.l5 CP.eg
  have nV:=y9 hq i
  have iQ:=nV
  unfold aD ed at iQ
  rw[aT ω,aq,a6 ω ω,aq,aJ,wV N iQ.1 iQ.2,ar,bL (by rw[cy,aI];omega),aq,ay ω ω,ag]
  have:=hr (ws++[ed (l.getD i bm)]) ⟨by rw[aS,hI.1];rfl,λx hx=>by
   rcases ba.1 hx with hx|hx
   ·exact hI.2 x hx
   ·rw[bV.1 hx];exact nV⟩
  rw[cZ]at this
  refine this.trans ?_
  rw[bW,bu];rfl
 ·unfold CP.l5 CP.eg
  rw[aP ω,av,Kv N hI.2 ω ω,ar,je,ck]
theorem WG(N:Nat){l:au}(hq:dT l)(hl:l.length≤100000)(hN:2000000≤N):CP N l=some (dQ (gK l)):=by
 unfold CP CP.b gK
 rw[D3 N hl ω,ar,cond_not,Qw N hq hl hN]
 cases eC l<;>rfl
theorem Nq(N:Nat){l:au}(hq:dT l)(hl:l.length≤100000)(hN:4000000≤N):CQ.l5 N N l (cP 0) (cP 0) 0=some (cP (l.map ed).sum):=by
 have:=om l bm (λn i ws=>CQ.l5 N n l (cP 0) (cP ws.sum) i) (λt ws=>some (cP (ws++t.map ed).sum)) (λi (ws:List Int)=>ws.length=i∧ ∀x∈ws,aD x)
  (λn i ws hi hI hr=> ?_) (λn ws hI=> ?_) l.length N 0 [] ω ω ω ⟨rfl,λx hx=>nomatch hx⟩
 ·simpa using this
 ·unfold CQ.l5 CQ.eg
  have nV:=y9 hq i
  have iQ:=nV
  unfold aD ed at iQ
  have hb:=Np hI.2
  rw[hI.1]at hb
  rw[aT ω,aq,a6 ω ω,aq,aJ,cv N ω iQ.1 iQ.2,ar,g5 N ω ((Ar (n:=i) ω hb.1 hb.2).mono ω) ((Fit.i64 iQ.1 iQ.2).mono ω),ar,ay ω ω,ag]
  have:=hr (ws++[ed (l.getD i bm)]) ⟨by rw[aS,hI.1];rfl,λx hx=>by
   rcases ba.1 hx with hx|hx
   ·exact hI.2 x hx
   ·rw[bV.1 hx];exact nV⟩
  rw[lT,cz,iI,fY]at this
  refine this.trans ?_
  rw[bW,bu];rfl
 ·unfold CQ.l5 CQ.eg
  rw[aP ω,av,je,ck]
theorem TX(N:Nat){l:au}(hq:dT l)(hl:l.length≤100000)(hN:4000000≤N):CQ N l=some (cP (gK l)):=by
 unfold CQ CQ.b gK
 rw[FG N hl ω,ar,cond_not]
 have:=Nq N hq hl hN
 rw[gU]at this
 rw[this]
 cases eC l
 ·rw[av];exact fj some gU.symm
 ·rfl
end VM
end
section
namespace VM
open Go VM.F
def c6(inst:Int):au→List Int
 |[]=>[]
 |x::t=>if x.2.1=inst then ed x::c6 inst t else c6 inst t
theorem df(inst:Int)(x:dh)(t:au):c6 inst (x::t)=if x.2.1=inst then ed x::c6 inst t else c6 inst t:=rfl
theorem TY(N:Nat){l:au}(hq:dT l)(hl:l.length≤100000)(hN:2000000≤N)(inst:Int):o9.l5 N N inst cA [] l (l.length:Int) 0=some (dQ (c6 inst l).sum):=by
 have:=om l bm (λn i ws=>o9.l5 N n inst cA (ws.map dQ) l (l.length:Int) i) (λt ws=>some (dQ (ws++c6 inst t).sum)) (λi (ws:List Int)=>ws.length≤i∧ ∀x∈ws,aD x)
  (λn i ws hi hI hr=> ?_) (λn ws hI=> ?_) l.length N 0 [] ω ω ω ⟨aG _,λx hx=>nomatch hx⟩
 ·simpa using this
 ·unfold o9.l5 o9.eg
  have nV:=y9 hq i
  have iQ:=nV
  unfold aD ed at iQ
  rw[aT ω,aq,a6 ω ω,aq,aJ,wV N iQ.1 iQ.2,ar,bL (by rw[cy,aI];omega),aq,ay ω ω,ag,aN,df]
  split
  ·have:=hr (ws++[ed (l.getD i bm)]) ⟨by rw[aS,aI];omega,λx hx=>by
    rcases ba.1 hx with hx|hx
    ·exact hI.2 x hx
    ·rw[bV.1 hx];exact nV⟩
   rw[cZ]at this
   refine this.trans ?_
   rw[bu];rfl
  ·exact hr ws ⟨ω,hI.2⟩
 ·unfold o9.l5 o9.eg
  rw[aP ω,av,Kv N hI.2 ω ω,ar]
  show _=some (dQ (ws++[]).sum)
  rw[ck]
def sK(l:au)(inst:Int):Int:=if cQ l then(c6 inst l).sum else 0
theorem aaf(N:Nat){l:au}(hq:dT l)(hl:l.length≤100000)(hN:2000000≤N)(inst:Int):o9 N l inst=some (dQ (sK l inst)):=by
 unfold o9 o9.b sK
 rw[wY N hl ω,ar,cond_not,TY N hq hl hN]
 cases cQ l<;>rfl
theorem Qx(N:Nat){l:au}(hq:dT l)(hl:l.length≤100000)(hN:4000000≤N)(inst:Int):pa.l5 N N l inst (cP 0) (cP 0) 0=some (cP (c6 inst l).sum):=by
 have:=om l bm (λn i ws=>pa.l5 N n l inst (cP 0) (cP ws.sum) i) (λt ws=>some (cP (ws++c6 inst t).sum)) (λi (ws:List Int)=>ws.length≤i∧ ∀x∈ws,aD x)
  (λn i ws hi hI hr=> ?_) (λn ws hI=> ?_) l.length N 0 [] ω ω ω ⟨aG _,λx hx=>nomatch hx⟩
 ·simpa using this
 ·unfold pa.l5 pa.eg
  have nV:=y9 hq i
  have iQ:=nV
  unfold aD ed at iQ
  have hb:=Np hI.2
  rw[aT ω,aq,a6 ω ω,aq,aq,aJ,cv N ω iQ.1 iQ.2,ar,g5 N ω ((Ar (n:=ws.length) ω hb.1 hb.2).mono ω) ((Fit.i64 iQ.1 iQ.2).mono ω),ar,ay ω ω,ag,aN,df]
  split
  ·have:=hr (ws++[ed (l.getD i bm)]) ⟨by rw[aS,aI];omega,λx hx=>by
    rcases ba.1 hx with hx|hx
    ·exact hI.2 x hx
    ·rw[bV.1 hx];exact nV⟩
   rw[lT,cz,iI,fY]at this
   refine this.trans ?_
   rw[bu];rfl
  ·exact hr ws ⟨ω,hI.2⟩
 ·unfold pa.l5 pa.eg
  rw[aP ω,av]
  show _=some (cP (ws++[]).sum)
  rw[ck]
theorem Nr(N:Nat){l:au}(hq:dT l)(hl:l.length≤100000)(hN:4000000≤N)(inst:Int):pa N l inst=some (cP (sK l inst)):=by
 unfold pa pa.b sK
 rw[kQ N hl ω,ar,cond_not]
 have:=Qx N hq hl hN inst
 rw[gU]at this
 rw[this]
 cases cQ l
 ·rw[av];exact fj some gU.symm
 ·rfl
def s4(l:au)(i:Nat):Prop:=dw (sK l (i:Int)) 0
instance(l:au):DecidablePred (s4 l):=λi=>by unfold s4;infer_instance
def ko:Nat:=6
def ov(l:au):Bool:=decide (∀j,j<ko→s4 l j)&&cQ l
theorem kp{x:Int}:vw x=0↔x=0:=by unfold vw;split<;>(try split)<;>omega
theorem aag(N:Nat){l:au}(hq:dT l)(hl:l.length≤100000)(hN:2000000≤N):DE N l=some (ov l):=by
 unfold DE DE.b
 refine iz (len:=ko) (F:=λn i=>DE.l2 N n l i) (s4 l) (λn i r hi hp hr=> ?_) (λn=> ?_) N (by unfold ko;omega)
 ·unfold DE.l2 DE.gJ
  unfold ko at hi
  rw[aT ω,aq,aaf N hq hl hN,ar,Az,ar,cond_not,aN,ay ω ω,ag,hr]
  by_cases hP:s4 l i
  ·rw[aj hP,aj (kp.2 hP)]
  ·rw[ah hP,ah (λh=>hP (kp.1 h))]
 ·unfold DE.l2 DE.gJ
  rw[aP (by unfold ko;omega),av,wY N hl ω,ar]
theorem WH(N:Nat){l:au}(hq:dT l)(hl:l.length≤100000)(hN:4000000≤N):DF N l=some (ov l):=by
 unfold DF DF.b
 refine iz (len:=ko) (F:=λn i=>DF.l2 N n l i) (s4 l) (λn i r hi hp hr=> ?_) (λn=> ?_) N (by unfold ko;omega)
 ·unfold DF.l2 DF.gJ
  unfold ko at hi
  rw[aT ω,aq,Nr N hq hl hN,ar,p7,ar,cond_not,aN,ay ω ω,ag,hr]
  by_cases hP:s4 l i
  ·rw[aj hP,aj (kp.2 hP)]
  ·rw[ah hP,ah (λh=>hP (kp.1 h))]
 ·unfold DF.l2 DF.gJ
  rw[aP (by unfold ko;omega),av,kQ N hl ω,ar]
end VM
end
section
namespace VM
open Go VM.F
def jN(m:aE)(a:aL)(l:au)(i:Nat):Prop:=
 (dw (l.getD i bm).1 5→(fe a (l.getD i bm).2.1).2=true)∧(dw (l.getD i bm).1 6∨dw (l.getD i bm).1 7→ ¬dw (eL m (l.getD i bm).2.1) 0)
instance(m:aE)(a:aL)(l:au):DecidablePred (jN m a l):=λi=>by unfold jN;infer_instance
theorem Kw(N:Nat)(b:an)(hl:b.2.1.length≤100000)(hN:200000≤N)(id:Int):F78 N b id=some (fe b.2.1 id).2:=by
 unfold F78
 rw[aad N hl hN,ar]
theorem TZ{k:Int}{f:Bool}{z:Int}{r:Option Bool}:cond (aO k 5) (cond (!f) (some false) r) (cond (aO k 6) (cond (aO z 0) (some false) r) (cond (aO k 7) (cond (aO z 0) (some false) r) r))=
  if(dw k 5→f=true)∧(dw k 6∨dw k 7→ ¬dw z 0)then r else some false:=by
 unfold dw
 rw[aN,aN,aN,aN,cond_not]
 by_cases h5:k=5
 ·have h6: ¬(k=6):=ω
  have h7: ¬(k=7):=ω
  cases f<;>simp[h5,h6,h7]
 ·by_cases h6:k=6
  ·by_cases hz:z=0<;>simp[h5,h6,hz]
  ·by_cases h7:k=7
   ·by_cases hz:z=0<;>simp[h5,h6,h7,hz]
   ·simp[h5,h6,h7]
theorem HK(N:Nat)(hN:200000≤N)(c:ae)(b:an)(hm:b.1.length≤100000)(ha:b.2.1.length≤100000)(hl:b.2.2.1.length≤100000){e:Bool}
  (he:lG.w4 N N c b b.2.2.2.1 (b.2.2.2.1.length:Int) 0=some e):lG.l4 N N c b b.2.2.1 (b.2.2.1.length:Int) 0=some (decide (∀j,j<b.2.2.1.length→jN b.1 b.2.1 b.2.2.1 j)&&e):=by
 refine iz (F:=λn i=>lG.l4 N n c b b.2.2.1 (b.2.2.1.length:Int) i) (jN b.1 b.2.1 b.2.2.1) (λn i r hi hp hr=> ?_) (λn=> ?_) N ω
 ·unfold lG.l4 lG.eK
  rw[aT ω,aq,a6 ω ω,aq,aJ,ay (x:=(i:Int)+1) ω ω,ag,hr]
  simp only[Kw N b ha hN,BK N hm hN,ar]
  rw[TZ]
  rfl
 ·unfold lG.l4 lG.eK
  rw[aP ω,av];exact he
def mQ(a b:Int):Prop:=a<b
instance(a b:Int):Decidable (mQ a b):=by unfold mQ;infer_instance
def jh(c:ae)(a:aL)(l:au)(i:Nat):Prop:=
 (dw (l.getD i bm).1 0∨(fe a (l.getD i bm).1).2=true)∧mQ (l.getD i bm).2.1 c.1.length
instance(c:ae)(a:aL)(l:au):DecidablePred (jh c a l):=λi=>by unfold jh;infer_instance
theorem WI{k x n:Int}{f:Bool}{r:Option Bool}:cond (!aO k 0) (cond (!f) (some false) (cond (dk n x) (some false) r)) (cond (dk n x) (some false) r)=if(dw k 0∨f=true)∧mQ x n then r else some false:=by
 unfold dw mQ
 rw[cond_not,aN,cG,cond_not]
 by_cases h0:k=0
 ·by_cases hx:n≤x
  ·have: ¬x<n:=ω
   simp[h0,hx,this]
  ·have:x<n:=ω
   simp[h0,hx,this]
 ·by_cases hx:n≤x
  ·have: ¬x<n:=ω
   cases f<;>simp[h0,hx,this]
  ·have:x<n:=ω
   cases f<;>simp[h0,hx,this]
theorem Kx(N:Nat)(hN:200000≤N)(c:ae)(b:an)(ha:b.2.1.length≤100000)(hl:b.2.2.2.1.length≤100000){e:Bool}
  (he:lG.w5 N N c b b.2.2.2.2.2.1 (b.2.2.2.2.2.1.length:Int) 0=some e):lG.w4 N N c b b.2.2.2.1 (b.2.2.2.1.length:Int) 0=some (decide (∀j,j<b.2.2.2.1.length→jh c b.2.1 b.2.2.2.1 j)&&e):=by
 refine iz (F:=λn i=>lG.w4 N n c b b.2.2.2.1 (b.2.2.2.1.length:Int) i) (jh c b.2.1 b.2.2.2.1) (λn i r hi hp hr=> ?_) (λn=> ?_) N ω
 ·unfold lG.w4 lG.vH
  rw[aT ω,aq,a6 ω ω,aq,aJ,ay (x:=(i:Int)+1) ω ω,ag,hr]
  simp only[Kw N b ha hN,ar]
  rw[WI]
  rfl
 ·unfold lG.w4 lG.vH
  rw[aP ω,av];exact he
end VM
end
section
namespace VM
open Go VM.F
def p9(l:List Int)(i:Nat):Prop:=1≤l.getD i 0∧l.getD i 0≤1000000000000
instance(l:List Int):DecidablePred (p9 l):=λi=>by unfold p9;infer_instance
def eW(l:List Int):Bool:=decide (∀j,j<l.length→p9 l j)
theorem ahN(N:Nat)(p:Int):F80 N p=some (!decide (1≤p∧p≤1000000000000)):=by
 unfold F80
 rw[IF,ar]
theorem FJ(N:Nat){l:List Int}(hl:l.length≤100000): ∀(m n i:Nat),l.length-i≤m→m<n→i≤l.length→(∀j,j<i→p9 l j)→
  ∃r,sa.l2 N n l () (l.length:Int) (i:Int)=some r∧(dk 0 r= !eW l)
 |m,0,i,_,hn,_,_=>ω
 |m,n+1,i,hm,hn,hi,hp=>by
  unfold sa.l2 sa.gJ
  by_cases h:i<l.length
  ·rw[aT ω,aq,a6 ω ω,aq,aJ,ahN,ar,cond_not,gh]
   by_cases hP:p9 l i
   ·have hP':=hP
    unfold p9 at hP'
    rw[aj hP',ay ω ω]
    exact FJ N hl (m-1) n (i+1) ω ω ω (λj hj=>by
     by_cases yY:j=i
     ·subst yY;exact hP
     ·exact hp j ω)
   ·have hP':=hP
    unfold p9 at hP'
    rw[ah hP']
    refine⟨_,rfl,?_⟩
    rw[fH ω]
    unfold eW
    rw[cm (λh'=>hP (h' i h))];rfl
  ·rw[aP ω,av]
   refine⟨_,rfl,?_⟩
   rw[fu ω]
   unfold eW
   rw[bs (λj hj=>hp j ω)];rfl
theorem T0(N:Nat){l:List Int}(hl:l.length≤100000)(hN:200000≤N):F79 N l ()=some (!eW l):=by
 unfold F79 sa sa.b
 obtain⟨r,e,h⟩:=FJ N hl l.length N 0 ω ω ω (λj hj=>absurd hj ω)
 rw[show((0:Nat):Int)=0 from rfl]at e
 rw[e,ar,h]
def qa(c:ae)(a:aL)(l:bB)(i:Nat):Prop:=
 (fe a (l.getD i fm).2.1).2=true∧mQ (l.getD i fm).2.2.1 c.1.length
instance(c:ae)(a:aL)(l:bB):DecidablePred (qa c a l):=λi=>by unfold qa;infer_instance
theorem FK{x n:Int}{f:Bool}{r:Option Bool}:cond (!f) (some false) (cond (dk n x) (some false) r)=if f=true∧mQ x n then r else some false:=by
 unfold mQ
 rw[cG,cond_not]
 by_cases hx:n≤x
 ·have: ¬x<n:=ω
  cases f<;>simp[hx,this]
 ·have:x<n:=ω
  cases f<;>simp[hx,this]
theorem Ky(N:Nat)(hN:200000≤N)(c:ae)(b:an)(ha:b.2.1.length≤100000)(hl:b.2.2.2.2.2.1.length≤100000)(hp:b.2.2.2.2.1.length≤100000):
  lG.w5 N N c b b.2.2.2.2.2.1 (b.2.2.2.2.2.1.length:Int) 0=some (decide (∀j,j<b.2.2.2.2.2.1.length→qa c b.2.1 b.2.2.2.2.2.1 j)&&eW b.2.2.2.2.1):=by
 refine iz (F:=λn i=>lG.w5 N n c b b.2.2.2.2.2.1 (b.2.2.2.2.2.1.length:Int) i) (qa c b.2.1 b.2.2.2.2.2.1) (λn i r hi Rz hr=> ?_) (λn=> ?_) N ω
 ·unfold lG.w5 lG.vI
  rw[aT ω,aq,a6 ω ω,aq,aJ,ay (x:=(i:Int)+1) ω ω,ag,hr]
  simp only[Kw N b ha hN,ar]
  rw[FK]
  rfl
 ·unfold lG.w5 lG.vI
  rw[aP ω,av,T0 N hp hN,ar,Bool.not_not]
def dx(c:ae)(b:an):Bool:=
 fB c&&(pG b.1 b.2.1&&(eC b.2.2.1&&(decide (dw (gK b.2.2.1) 0)&&(ov b.2.2.2.1&&(ei b.2.2.2.2.2.1&&(decide (dw b.2.2.2.2.1.length c.1.length)&&
  (decide (∀j,j<b.2.2.1.length→jN b.1 b.2.1 b.2.2.1 j)&&(decide (∀j,j<b.2.2.2.1.length→jh c b.2.1 b.2.2.2.1 j)&&(decide (∀j,j<b.2.2.2.2.2.1.length→qa c b.2.1 b.2.2.2.2.2.1 j)&&eW b.2.2.2.2.1)))))))))
structure im(b:an):Prop where
 m:b.1.length≤100000
 a:b.2.1.length≤100000
 r:b.2.2.1.length≤100000
 s:b.2.2.2.1.length≤100000
 p:b.2.2.2.2.1.length≤100000
 o:b.2.2.2.2.2.1.length≤100000
 qr:dT b.2.2.1
 qs:dT b.2.2.2.1
theorem pb{x:Bool}{r:Option Bool}{y:Bool}(h:r=some y):cond (!x) (some false) r=some (x&&y):=by subst h;cases x<;>rfl
theorem Sd(N:Nat)(hN:4000000≤N){c:ae}{b:an}(w:im b):lG N c b=some (dx c b):=by
 unfold lG lG.b dx
 rw[R8 N ω,ar]
 refine pb ?_
 rw[aae N w.m w.a ω,ar]
 refine pb ?_
 rw[D3 N w.r ω,ar]
 refine pb ?_
 rw[WG N w.qr w.r ω,ar,Az,ar]
 have e0:aO (vw (gK b.2.2.1)) 0=decide (dw (gK b.2.2.1) 0):=by rw[jA,oU];exact kp
 rw[e0]
 refine pb ?_
 rw[aag N w.qs w.s ω,ar]
 refine pb ?_
 rw[TT N w.o ω,ar]
 refine pb ?_
 rw[jA]
 refine pb ?_
 exact HK N ω c b w.m w.a w.r (Kx N ω c b w.a w.s (Ky N ω c b w.a w.o w.p))
end VM
end
section
namespace VM
open Go VM.F
theorem tT(N:Nat)(b:an)(hl:b.2.1.length≤100000)(hN:200000≤N)(id:Int):Kz N b id=some ((fe b.2.1 id).2||decide (dw id 0)):=by
 unfold Kz
 rw[w1 N hl hN,ar,jA]
 cases(fe b.2.1 id).2<;>rfl
theorem Qy{k:Int}{f:Bool}{z:Int}{r:Option Bool}:cond (aO k 5) (cond (!f) (some false) (cond (aO k 6) (cond (aO z 0) (some false) r) (cond (aO k 7) (cond (aO z 0) (some false) r) r))) (cond (aO k 6) (cond (aO z 0) (some false) r) (cond (aO k 7) (cond (aO z 0) (some false) r) r))=
  if(dw k 5→f=true)∧(dw k 6∨dw k 7→ ¬dw z 0)then r else some false:=by
 unfold dw
 rw[aN,aN,aN,aN,cond_not]
 by_cases h5:k=5
 ·have h6: ¬(k=6):=ω
  have h7: ¬(k=7):=ω
  cases f<;>simp[h5,h6,h7]
 ·by_cases h6:k=6
  ·by_cases hz:z=0<;>simp[h5,h6,hz]
  ·by_cases h7:k=7
   ·by_cases hz:z=0<;>simp[h5,h6,h7,hz]
   ·simp[h5,h6,h7]
theorem HL(N:Nat)(hN:200000≤N)(c:ae)(b:an)(ha:b.2.1.length≤100000)(hl:b.2.2.2.2.2.1.length≤100000)(ho:ei b.2.2.2.2.2.1=true):
  gb.w5 N N c b 0=some (decide (∀j,j<b.2.2.2.2.2.1.length→qa c b.2.1 b.2.2.2.2.2.1 j)&&true):=by
 refine iz (F:=λn i=>gb.w5 N n c b i) (qa c b.2.1 b.2.2.2.2.2.1) (λn i r hi Rz hr=> ?_) (λn=> ?_) N ω
 ·unfold gb.w5 gb.vI
  unfold ei at ho
  rw[bQ,fg]at ho
  have h1:=(ho.1 i hi).1
  unfold rm y8 at h1
  have h2:decide (dw (b.2.2.2.2.2.1.getD i fm).2.1 0)=false:=cm (by unfold dw;omega)
  rw[aT ω,aq,a6 ω ω,aq,aJ,ay (x:=(i:Int)+1) ω ω,ag,hr]
  simp only[tT N b ha hN,ar,aq]
  rw[h2,tx,FK]
  rfl
 ·unfold gb.w5 gb.vI
  rw[aP ω,av]
theorem DG(N:Nat)(hN:200000≤N)(c:ae)(b:an)(hl:b.2.2.2.2.1.length≤100000){e:Bool}(he:gb.w5 N N c b 0=some e):
  gb.D5 N N c b 0=some (eW b.2.2.2.2.1&&e):=by
 refine iz (F:=λn i=>gb.D5 N n c b i) (p9 b.2.2.2.2.1) (λn i r hi Rz hr=> ?_) (λn=> ?_) N ω
 ·unfold gb.D5 gb.DH
  rw[aT ω,aq,a6 ω ω,aq,aJ,ay (x:=(i:Int)+1) ω ω,ag,hr,iP,ar,cond_not,gh]
  rfl
 ·unfold gb.D5 gb.DH
  rw[aP ω,av];exact he
theorem HM(N:Nat)(hN:200000≤N)(c:ae)(b:an)(ha:b.2.1.length≤100000)(hl:b.2.2.2.1.length≤100000){e:Bool}(he:gb.D5 N N c b 0=some e):
  gb.mU N N c b 0=some (decide (∀j,j<b.2.2.2.1.length→jh c b.2.1 b.2.2.2.1 j)&&e):=by
 refine iz (F:=λn i=>gb.mU N n c b i) (jh c b.2.1 b.2.2.2.1) (λn i r hi Rz hr=> ?_) (λn=> ?_) N ω
 ·unfold gb.mU gb.ns
  rw[aT ω,aq,a6 ω ω,aq,aJ,ay (x:=(i:Int)+1) ω ω,ag,hr]
  simp only[tT N b ha hN,ar,aq]
  rw[FK]
  have WJ:((((fe b.2.1 (b.2.2.2.1.getD i bm).1).2||decide (dw (b.2.2.2.1.getD i bm).1 0))=true)∧mQ (b.2.2.2.1.getD i bm).2.1 c.1.length)↔jh c b.2.1 b.2.2.2.1 i:=by
   unfold jh
   rw[m3,fg]
   exact⟨λh=>⟨h.1.symm,h.2⟩,λh=>⟨h.1.symm,h.2⟩⟩
  by_cases hP:jh c b.2.1 b.2.2.2.1 i
  ·rw[aj hP,aj (WJ.2 hP)]
  ·rw[ah hP,ah (λh=>hP (WJ.1 h))]
 ·unfold gb.mU gb.ns
  rw[aP ω,av];exact he
theorem FL(N:Nat)(hN:200000≤N)(c:ae)(b:an)(hm:b.1.length≤100000)(ha:b.2.1.length≤100000)(hl:b.2.2.1.length≤100000)(hk:eC b.2.2.1=true){e:Bool}
  (he:gb.mU N N c b 0=some e):gb.l6 N N c b 0=some (decide (∀j,j<b.2.2.1.length→jN b.1 b.2.1 b.2.2.1 j)&&e):=by
 refine iz (F:=λn i=>gb.l6 N n c b i) (jN b.1 b.2.1 b.2.2.1) (λn i r hi Rz hr=> ?_) (λn=> ?_) N ω
 ·unfold gb.l6 gb.uN
  unfold eC at hk
  rw[fX,fg]at hk
  have h1:=(hk i hi).1
  rw[aT ω,aq,a6 ω ω,aq,aJ,ay (x:=(i:Int)+1) ω ω,ag,hr]
  simp only[tT N b ha hN,ot N hm hN,ar]
  rw[Qy]
  have WJ:((dw (b.2.2.1.getD i bm).1 5→((fe b.2.1 (b.2.2.1.getD i bm).2.1).2||decide (dw (b.2.2.1.getD i bm).2.1 0))=true)∧(dw (b.2.2.1.getD i bm).1 6∨dw (b.2.2.1.getD i bm).1 7→ ¬dw (eL b.1 (b.2.2.1.getD i bm).2.1) 0))↔jN b.1 b.2.1 b.2.2.1 i:=by
   unfold jN
   refine and_congr_left λ_=>imp_congr_right λh5=> ?_
   rw[m3,fg]
   refine⟨λh=>h.elim id λh0=> ?_,.inl⟩
   unfold cS at h1;unfold dw at h5 h0;omega
  by_cases hP:jN b.1 b.2.1 b.2.2.1 i
  ·rw[aj hP,aj (WJ.2 hP)]
  ·rw[ah hP,ah (λh=>hP (WJ.1 h))]
 ·unfold gb.l6 gb.uN
  rw[aP ω,av];exact he
end VM
end
section
namespace VM
open Go VM.F
theorem ow{x:Bool}{r:Option Bool}{y:Bool}(h:x=true→r=some y):cond (!x) (some false) r=some (x&&y):=by
 cases x
 ·rfl
 ·exact h rfl
theorem AA(N:Nat)(hN:5000000≤N){c:ae}{b:an}(w:im b):gb N c b=some (dx c b):=by
 unfold gb gb.b
 rw[nn N ω,ar]
 have e0:aO (vw (gK b.2.2.1)) 0=decide (dw (gK b.2.2.1) 0):=by rw[jA,oU];exact kp
 refine(ow λ_=> ?_).trans (fj some (?_:(fB c&&(pG b.1 b.2.1&&(eC b.2.2.1&&(ov b.2.2.2.1&&(ei b.2.2.2.2.2.1&&(decide (dw b.2.2.2.2.1.length c.1.length)&&(decide (dw (gK b.2.2.1) 0)&&
  (decide (∀j,j<b.2.2.1.length→jN b.1 b.2.1 b.2.2.1 j)&&(decide (∀j,j<b.2.2.2.1.length→jh c b.2.1 b.2.2.2.1 j)&&(eW b.2.2.2.2.1&&(decide (∀j,j<b.2.2.2.2.2.1.length→qa c b.2.1 b.2.2.2.2.2.1 j)&&true)))))))))))=dx c b))
 ·rw[w3 N w.m w.a ω,ar]
  refine ow λ_=> ?_
  rw[FG N w.r ω,ar]
  refine ow λhk=> ?_
  rw[WH N w.qs w.s ω,ar]
  refine ow λ_=> ?_
  rw[ik N w.o ω,ar]
  refine ow λho=> ?_
  rw[jA]
  refine ow λ_=> ?_
  rw[TX N w.qr w.r ω,ar,p7,ar,e0]
  refine ow λ_=> ?_
  exact FL N ω c b w.m w.a w.r hk (HM N ω c b w.a w.s (DG N ω c b w.p (HL N ω c b w.a w.o ho)))
 ·unfold dx
  generalize fB c=x1,pG b.1 b.2.1=x2,eC b.2.2.1=x3,ov b.2.2.2.1=x4,ei b.2.2.2.2.2.1=x5,decide (dw b.2.2.2.2.1.length c.1.length)=x6,decide (dw (gK b.2.2.1) 0)=x7,decide (∀j,j<b.2.2.1.length→jN b.1 b.2.1 b.2.2.1 j)=x8,decide (∀j,j<b.2.2.2.1.length→jh c b.2.1 b.2.2.2.1 j)=x9,eW b.2.2.2.2.1=bx,decide (∀j,j<b.2.2.2.2.2.1.length→qa c b.2.1 b.2.2.2.2.2.1 j)=aW
  rw[fX]
  cases x1<;>cases x2<;>cases x3<;>cases x4<;>cases x5<;>cases x6<;>cases x7<;>try rfl
  cases x8<;>cases x9<;>cases bx<;>cases aW<;>rfl
end VM
end
section
namespace VM
open Go VM.F
def nu(a q n:Int)(i:Nat)(p:Int):Prop:=0≤a∧a<n∧q≠0∧p8 q∧(0<i→p<a)
instance(a q n:Int)(i:Nat)(p:Int):Decidable (nu a q n i p):=by unfold nu;infer_instance
def mG(c:ae)(l:aE)(i:Nat):Prop:=nu (l.getD i cA).1 (l.getD i cA).2.1 c.1.length i (l.getD (i-1) cA).1
instance(c:ae)(l:aE):DecidablePred (mG c l):=λi=>by unfold mG;infer_instance
def kq(c:ae)(l:aE):Bool:=decide (∀j,j<l.length→mG c l j)&&fB c
theorem aah(N:Nat)(hN:200000≤N)(c:ae){l:aE}(hl:l.length≤100000):pH N c l=some (kq c l):=by
 unfold pH pH.b
 refine iz (F:=λn i=>pH.l2 N n l c l (l.length:Int) i) (mG c l) (λn i r hi hp hr=> ?_) (λn=> ?_) N ω
 ·unfold pH.l2 pH.gJ
  rw[aT ω,aq,a6 ω ω,aq,aJ,ay (x:=(i:Int)+1) ω ω,ag,hr,sI,ar,cond_not,gh]
  by_cases h0:0<i
  ·have e:W .i64 ((i:Int)-1)=((i-1:Nat):Int):=by rw[ay ω ω];omega
   dsimp only
   rw[aT (x:=0) (y:=(i:Int)) ω,aq,e,aJ,a6 ω ω,aq]
   simp only[cR,cG,aN]
   by_cases hP:mG c l i
   ·rw[aj hP];unfold mG nu at hP
    rw[ah ω,ah ω,ah hP.2.2.1,aj hP.2.2.2.1,ah ω]
   ·rw[ah hP];unfold mG nu at hP
    have h2:=λh1 h2 h3 h4 h5=>hP ⟨h1,h2,h3,h4,h5⟩
    repeat' split
    all_goals first|rfl|(exfalso;exact h2 ω ω (by assumption) (by assumption) ω)
  ·rw[aP (x:=0) (y:=(i:Int)) ω,av]
   simp only[cR,cG,aN]
   by_cases hP:mG c l i
   ·rw[aj hP];unfold mG nu at hP
    rw[ah ω,ah ω,ah hP.2.2.1,aj hP.2.2.2.1]
   ·rw[ah hP];unfold mG nu at hP
    have h2:=λh1 h2 h3 h4 h5=>hP ⟨h1,h2,h3,h4,h5⟩
    repeat' split
    all_goals first|rfl|(exfalso;exact h2 ω ω (by assumption) (by assumption) ω)
 ·unfold pH.l2 pH.gJ
  rw[aP ω,av,R8 N ω,ar]
end VM
end
