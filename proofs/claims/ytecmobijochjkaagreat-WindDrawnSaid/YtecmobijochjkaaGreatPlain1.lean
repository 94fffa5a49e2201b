/- A part of the proof of WindDrawn of layer 21: what the functions compute, in plain words. -/
import Derived.Test.YtecmobijochjkaaGreatPlain0
import Derived.Test.YtecmobijochjkaaGreatText
set_option linter.all false
section
namespace VM
open Go VM.F
def dm(x:Int):Prop:= -170141183460469231731687303715884105728≤x∧x<170141183460469231731687303715884105728
instance(x:Int):Decidable (dm x):=by unfold dm;infer_instance
theorem wv(N:Nat){x:Int}(h0: -9223372036854775808≤x)(h1:x<9223372036854775808):UP N x=some (dN x):=by
 unfold UP
 rw[aP ω,av,uc h0 h1,uZ]
 congr 1
 exact wmk (by split<;>omega) rfl
theorem ZL{ws:List Int}(i:Nat):(ws.map dN).getD i cz=dN (ws.getD i 0):=by
 by_cases h:i<ws.length
 ·rw[aU,pO,bm h,aU,bm h];rfl
 ·rw[aU,gC (by rw[cv];omega),aU,gC ω];rfl
theorem J3{ws:List Int}(h: ∀x∈ws,dm x): -(170141183460469231731687303715884105728*(ws.length:Int))≤ws.sum∧ws.sum≤170141183460469231731687303715884105728*(ws.length:Int):=by
 induction ws with
 |nil=>simp
 |cons x ws ih=>
  have h0:=h x (bn ..)
  have ih:=ih (λy hy=>h y (a6 _ hy))
  unfold dm at h0
  rw[cy,aR];omega
theorem V7{t w:Int}{lo hi top:Int}(hw:dm w)(xN:lo=t%18446744073709551616)(K6:hi=t/18446744073709551616%18446744073709551616)(arK:top=t/340282366920938463463374607431768211456):
  (lo+w%18446744073709551616+0)%18446744073709551616=(t+w)%18446744073709551616∧
  (hi+(w/18446744073709551616)%18446744073709551616+(lo+w%18446744073709551616+0)/18446744073709551616)%18446744073709551616=(t+w)/18446744073709551616%18446744073709551616∧
  top+(if w/18446744073709551616<0 then-1 else 0)+(hi+(w/18446744073709551616)%18446744073709551616+(lo+w%18446744073709551616+0)/18446744073709551616)/18446744073709551616=(t+w)/340282366920938463463374607431768211456:=by
 unfold dm at hw
 subst xN K6 arK
 refine⟨ω,ω,?_⟩
 split<;>omega
def Fe(t:Int):cB×Bool:=if dm t then(dN t,true)else(cz,false)
theorem W64(x:Int):W .u64 x=x%18446744073709551616:=uZ x
theorem Ic(N:Nat){ws:List Int}(h: ∀x∈ws,dm x)(hl:ws.length≤1000000): ∀(m n i:Nat) (t:Int),ws.length-i≤m→m<n→i≤ws.length→t=(ws.take i).sum→
  mB.l3 N n cz (t/340282366920938463463374607431768211456) (t/18446744073709551616%18446744073709551616) (t%18446744073709551616) (ws.map dN) (ws.length:Int) (i:Int)=some (Fe ws.sum)
 |m,0,i,t,_,hn,_,_=>ω
 |m,n+1,i,t,hm,hn,hi,ht=>by
  unfold mB.l3 mB.nC
  have f1:=J3 (ws:=ws.take i) (λx hx=>h x (lC hx))
  rw[cc,ir ω,←ht]at f1
  by_cases h1:i<ws.length
  ·have hw:dm (ws.getD i 0):=by
    rw[aU,bm h1];exact h _ (dz h1)
   have hs:=la ws h1
   rw[←ht]at hs
   have st:=V7 (t:=t) (w:=ws.getD i 0) hw rfl rfl rfl
   have wx:=Ic N h hl (m-1) n (i+1) (t+ws.getD i 0) ω ω ω hs.symm
   rw[aT ω,ak,aW ω (by rw[cv];omega),ak,aJ,ZL]
   unfold dN
   dsimp only
   have hw':=hw
   unfold dm at hw'
   generalize ws.getD i 0=w at*
   have hq:0≤(t%18446744073709551616+w%18446744073709551616+0)/18446744073709551616∧(t%18446744073709551616+w%18446744073709551616+0)/18446744073709551616≤1:=ω
   rw[MG N ω ω ω ω,ar,W64,MG N ω ω hq.1 hq.2,ar,aP (x:=63) ω,av,st.1,st.2.1]
   rw[uc ω ω]
   have hc:0≤(t/18446744073709551616%18446744073709551616+w/18446744073709551616%18446744073709551616+(t%18446744073709551616+w%18446744073709551616+0)/18446744073709551616)/18446744073709551616∧(t/18446744073709551616%18446744073709551616+w/18446744073709551616%18446744073709551616+(t%18446744073709551616+w%18446744073709551616+0)/18446744073709551616)/18446744073709551616≤1:=ω
   have hif: -1≤(if w/18446744073709551616<0 then(-1:Int)else 0)∧(if w/18446744073709551616<0 then(-1:Int)else 0)≤0:=by split<;>omega
   rw[ax (x:=t/340282366920938463463374607431768211456+_) ω ω,ax (x:=(_:Int)/18446744073709551616) ω ω,st.2.2,ax ω ω,ax (x:=(i:Int)+1) ω ω]
   exact wx
  ·have e:(ws.take i).sum=ws.sum:=by rw[jw ω]
   rw[e]at ht
   rw[aP ω,av,aP (x:=63) ω,av,←ht]
   have hh: -9223372036854775808≤W .i64 (t/18446744073709551616%18446744073709551616)∧W .i64 (t/18446744073709551616%18446744073709551616)<9223372036854775808:=by rw[iB];split<;>omega
   have hwv:W .i64 (t/18446744073709551616%18446744073709551616)=if 9223372036854775808≤t/18446744073709551616%18446744073709551616 then t/18446744073709551616%18446744073709551616-18446744073709551616 else t/18446744073709551616%18446744073709551616:=by rw[iB];split<;>split<;>omega
   rw[uc hh.1 hh.2,hwv]
   unfold Fe
   by_cases hI:dm t
   ·rw[aj hI]
    unfold dm at hI
    rw[dX (by split<;>split<;>omega),a7,av]
    exact RF (by split<;>omega) rfl
   ·rw[ah hI]
    unfold dm at hI
    rw[dT (by split<;>split<;>omega),cY,ak]
theorem DK(N:Nat){ws:List Int}(h: ∀x∈ws,dm x)(hl:ws.length≤1000000)(hN:1000000<N):mB N (ws.map dN)=some (Fe ws.sum):=by
 unfold mB mB.b
 rw[cv]
 exact Ic N h hl ws.length N 0 0 ω ω ω (by simp)
end VM
end
section
namespace VM
open Go VM.F
theorem ui(N:Nat)(a lo hi:Int):Da N a lo hi=some (decide (lo≤a∧a≤hi)):=by
 unfold Da
 rw[cF,nM]
 by_cases h:lo≤a
 ·rw[aj h];congr 1;rw[oF];omega
 ·rw[ah h,cj ω]
theorem Ie(N:Nat)(a lo hi:Int):Hj N a lo hi=some (decide (lo≤a∧a≤hi)):=ui N a lo hi
def oy(a b c d:Int):Prop:=(0≤a∧a≤3)∧(1≤b∧b≤1000000000000)∧(0≤c∧c≤1000000000)∧(0≤d∧d≤1000000000)
instance(a b c d:Int):Decidable (oy a b c d):=by unfold oy;infer_instance
def qS(l:aM)(i:Nat):Prop:=oy (l.getD i aV).1 (l.getD i aV).2.1 (l.getD i aV).2.2.1 (l.getD i aV).2.2.2.1
instance(l:aM):DecidablePred (qS l):=λi=>by unfold qS;infer_instance
def m3(a b c d e f:Int):Prop:=0≤a∧(0≤b∧b≤4)∧(0≤c∧c≤1000000)∧(0≤d∧d≤1000000)∧(1≤e∧e≤4611686018427387904)∧0≤f
instance(a b c d e f:Int):Decidable (m3 a b c d e f):=by unfold m3;infer_instance
def pn(c:ae):Prop:=m3 c.2.1 c.2.2.1 c.2.2.2.1 c.2.2.2.2.1 c.2.2.2.2.2.1 c.2.2.2.2.2.2.1
instance(c:ae):Decidable (pn c):=by unfold pn;infer_instance
def fI(c:ae):Bool:=decide (1≤c.1.length∧c.1.length≤6)&&(decide (∀j,j<c.1.length→qS c.1 j)&&decide (pn c))
theorem RG(N:Nat)(hN:100≤N)(c:ae):Co N c=some (fI c):=by
 unfold Co Co.b fI
 rw[ui,ar,cond_not,fY]
 by_cases hl:1≤c.1.length∧c.1.length≤6
 ·rw[aj ω,bs hl,mS]
  refine ij (F:=λn i=>Co.l4 N n c c.1 (c.1.length:Int) i) (qS c.1) (λn i r hi hp hr=> ?_) (λn=> ?_) N ω
  ·unfold Co.l4 Co.dv
   rw[aT ω,ak,aW ω ω,ak,aJ,ax ω ω,ag]
   simp only[ui,ar,cond_not,fY]
   by_cases hP:qS c.1 i
   ·rw[aj hP];unfold qS oy at hP
    repeat' split
    all_goals first|rfl|exact hr|omega
   ·rw[ah hP];unfold qS oy at hP
    repeat' split
    all_goals first|rfl|exact hr|omega
  ·unfold Co.l4 Co.dv
   rw[aP ω,av]
   simp only[ui,ar,cond_not,fY,cF,nM]
   by_cases hP:pn c
   ·rw[bs hP];unfold pn m3 at hP
    repeat' split
    all_goals first|rfl|omega|(rw[bs ω])
   ·rw[cj hP];unfold pn m3 at hP
    repeat' split
    all_goals first|rfl|omega|(rw[cj ω])
 ·rw[ah ω,cj hl,vF]
theorem m4(N:Nat)(hN:100≤N)(c:ae):lR N c=some (fI c):=by
 unfold lR lR.b fI
 rw[cO,cO]
 by_cases hl:1≤c.1.length∧c.1.length≤6
 ·rw[ah ω,ah ω,bs hl,mS]
  refine ij (F:=λn i=>lR.l4 N n c i) (qS c.1) (λn i r hi hp hr=> ?_) (λn=> ?_) N ω
  ·unfold lR.l4 lR.dv
   rw[aT ω,ak,aW ω ω,ak,aJ,ax ω ω,ag]
   simp only[Ie,ar,cond_not,fY]
   by_cases hP:qS c.1 i
   ·rw[aj hP];unfold qS oy at hP
    repeat' split
    all_goals first|rfl|exact hr|omega
   ·rw[ah hP];unfold qS oy at hP
    repeat' split
    all_goals first|rfl|exact hr|omega
  ·unfold lR.l4 lR.dv
   rw[aP ω,av]
   simp only[Ie,ar,cond_not,fY,cF,nM]
   by_cases hP:pn c
   ·rw[bs hP];unfold pn m3 at hP
    repeat' split
    all_goals first|rfl|omega|(rw[bs ω])
   ·rw[cj hP];unfold pn m3 at hP
    repeat' split
    all_goals first|rfl|omega|(rw[cj ω])
 ·rw[cj hl,vF]
  by_cases h:(c.1.length:Int)<1
  ·rw[aj h]
  ·rw[ah h,aj ω]
def iD(a b:Int)(i:Nat)(c:Int):Prop:=1≤a∧a≤12∧1≤b∧b≤4∧(0<i→c<a)
instance(a b:Int)(i:Nat)(c:Int):Decidable (iD a b i c):=by unfold iD;infer_instance
def fJ(m:aD)(i:Nat):Prop:=iD (m.getD i cz).1 (m.getD i cz).2.1 i (m.getD (i-1) cz).1
instance(m:aD):DecidablePred (fJ m):=λi=>by unfold fJ;infer_instance
def dp(m:aD):Bool:=decide (∀j,j<m.length→fJ m j)&&true
theorem Ff(N:Nat){m:aD}(hl:m.length≤100000)(hN:200000≤N):oP N m=some (dp m):=by
 unfold oP oP.b
 refine ij (F:=λn i=>oP.l2 N n m m (m.length:Int) i) (fJ m) (λn i r hi hp hr=> ?_) (λn=> ?_) N ω
 ·unfold oP.l2 oP.gD
  rw[aT ω,ak,aW ω ω,ak,aJ,ax (x:=(i:Int)+1) ω ω,ag]
  by_cases h0:0<i
  ·have e:W .i64 ((i:Int)-1)=((i-1:Nat):Int):=by rw[ax ω ω];omega
   dsimp only
   rw[aT (x:=0) ω,ak,e,aJ,aW ω ω,ak]
   simp only[cO,cF]
   by_cases hP:fJ m i
   ·rw[aj hP];unfold fJ iD at hP
    repeat' split
    all_goals first|rfl|exact hr|omega
   ·rw[ah hP];unfold fJ iD at hP
    repeat' split
    all_goals first|rfl|exact hr|omega
  ·rw[aP (x:=0) ω,av]
   simp only[cO,cF]
   by_cases hP:fJ m i
   ·rw[aj hP];unfold fJ iD at hP
    repeat' split
    all_goals first|rfl|exact hr|omega
   ·rw[ah hP];unfold fJ iD at hP
    repeat' split
    all_goals first|rfl|exact hr|omega
 ·unfold oP.l2 oP.gD
  rw[aP ω,av]
theorem mj(N:Nat){m:aD}(hl:m.length≤100000)(hN:200000≤N):AS N m=some (dp m):=by
 unfold AS AS.b
 refine ij (F:=λn i=>AS.l2 N n m i) (fJ m) (λn i r hi hp hr=> ?_) (λn=> ?_) N ω
 ·unfold AS.l2 AS.gD
  rw[aT ω,ak,aW ω ω,ak,aJ,ax (x:=(i:Int)+1) ω ω,ag]
  by_cases h0:0<i
  ·have e:W .i64 ((i:Int)-1)=((i-1:Nat):Int):=by rw[ax ω ω];omega
   dsimp only
   rw[aT (x:=0) ω,e,aJ,aW (i:=((i-1:Nat):Int)) ω ω]
   simp only[cO,cF,ak]
   by_cases hP:fJ m i
   ·rw[aj hP];unfold fJ iD at hP
    repeat' split
    all_goals first|rfl|exact hr|omega
   ·rw[ah hP];unfold fJ iD at hP
    repeat' split
    all_goals first|rfl|exact hr|omega
  ·rw[aP (x:=0) ω]
   simp only[cO,cF,ak,av]
   by_cases hP:fJ m i
   ·rw[aj hP];unfold fJ iD at hP
    repeat' split
    all_goals first|rfl|exact hr|omega
   ·rw[ah hP];unfold fJ iD at hP
    repeat' split
    all_goals first|rfl|exact hr|omega
 ·unfold AS.l2 AS.gD
  rw[aP ω,av]
end VM
end
section
namespace VM
open Go VM.F
def cQ(k n:Int):Prop:=(1≤k∧k≤4∧n=0)∨(k=5∧1≤n∧n≤24)∨(6≤k∧k≤7∧1≤n∧n≤12)
instance(k n:Int):Decidable (cQ k n):=by unfold cQ;infer_instance
theorem PX(N:Nat)(k n:Int):PY N k n=some (decide (cQ k n)):=by
 unfold PY
 simp only[aN,cF]
 simp only[nM,jq]
 by_cases hP:cQ k n
 ·rw[bs hP];unfold cQ at hP
  repeat' split
  all_goals first|rfl|omega|(rw[bs ω])
 ·rw[cj hP];unfold cQ at hP
  repeat' split
  all_goals first|rfl|omega|(rw[cj ω])
theorem ZM(N:Nat)(k n:Int):PZ N k n=some (decide (cQ k n)):=by
 have:=PX N k n
 unfold PY at this
 unfold PZ
 exact this
def kN(a b c d:Int):Prop:=a<c∨(a=c∧b<d)
instance(a b c d:Int):Decidable (kN a b c d):=by unfold kN;infer_instance
def Bf(k n a b:Int):Int:=if k=a then n-b else k-a
def Hk(x:Int):Prop:= -1000000≤x∧x≤1000000
theorem Fg(N:Nat){k n:Int}{r:db}(h1:Hk k)(h2:Hk n)(h3:Hk r.1)(h4:Hk r.2.1):P0 N k n r=some (Bf k n r.1 r.2.1):=by
 unfold P0 Bf
 unfold Hk at*
 rw[cond_not,aN]
 split
 ·rw[ax ω ω]
 ·rw[ax ω ω]
theorem Ig(N:Nat){k n:Int}{r:db}(h1:Hk k)(h2:Hk n)(h3:Hk r.1)(h4:Hk r.2.1):To N k n r=some (Bf k n r.1 r.2.1):=Fg N h1 h2 h3 h4
def lS(a b c:Int)(i:Nat)(d e:Int):Prop:=cQ a b∧c≠0∧(0<i→kN d e a b)
instance(a b c:Int)(i:Nat)(d e:Int):Decidable (lS a b c i d e):=by unfold lS;infer_instance
def ld(l:au)(i:Nat):Prop:=lS (l.getD i bl).1 (l.getD i bl).2.1 (l.getD i bl).2.2.1 i (l.getD (i-1) bl).1 (l.getD (i-1) bl).2.1
instance(l:au):DecidablePred (ld l):=λi=>by unfold ld;infer_instance
def ei(l:au):Bool:=decide (∀j,j<l.length→ld l j)&&true
theorem DL(N:Nat){l:au}(hl:l.length≤100000)(hN:200000≤N):AT N l=some (ei l):=by
 unfold AT AT.b
 refine ij (F:=λn i=>AT.l2 N n l l (l.length:Int) i) (ld l) (λn i r hi hp hr=> ?_) (λn=> ?_) N ω
 ·unfold AT.l2 AT.gD
  rw[aT ω,ak,aW ω ω,ak,aJ,ax (x:=(i:Int)+1) ω ω,ag,PX,ar,cond_not,fY]
  by_cases hK:cQ (l.getD i bl).1 (l.getD i bl).2.1
  ·rw[aj hK]
   by_cases h0:0<i
   ·have hq:=hp (i-1) ω
    have e:W .i64 ((i:Int)-1)=((i-1:Nat):Int):=by rw[ax ω ω];omega
    dsimp only
    rw[aT (x:=0) ω,ak,e,aJ,aW ω ω,ak]
    unfold ld lS at hq
    have hq:=hq.1
    rw[Fg N (by unfold cQ at hK;unfold Hk;omega) (by unfold cQ at hK;unfold Hk;omega) (by unfold cQ at hq;unfold Hk;omega) (by unfold cQ at hq;unfold Hk;omega),ar,aN,cF]
    by_cases hP:ld l i
    ·rw[aj hP];unfold ld lS kN at hP;unfold Bf
     have P1:=hP.2
     repeat' split
     all_goals first|rfl|exact hr|omega
    ·rw[ah hP];unfold ld lS kN at hP;unfold Bf
     have P1:=λh=>hP ⟨hK,h⟩
     repeat' split
     all_goals first|rfl|exact hr|omega|(exfalso;exact P1 ω)
   ·rw[aP (x:=0) ω,av,aN]
    by_cases hP:ld l i
    ·rw[aj hP];unfold ld lS at hP
     rw[ah hP.2.1];exact hr
    ·rw[ah hP];unfold ld lS at hP
     have P1:=λh=>hP ⟨hK,h,λh=>absurd h h0⟩
     split
     ·rfl
     ·exact absurd (by assumption) P1
  ·rw[ah hK,ah (λh=>hK (by unfold ld lS at h;exact h.1))]
 ·unfold AT.l2 AT.gD
  rw[aP ω,av]
theorem Fh(N:Nat){l:au}(hl:l.length≤100000)(hN:200000≤N):Bh N l=some (ei l):=by
 unfold Bh Bh.b
 refine ij (F:=λn i=>Bh.l2 N n l i) (ld l) (λn i r hi hp hr=> ?_) (λn=> ?_) N ω
 ·unfold Bh.l2 Bh.gD
  rw[aT ω,ak,aW ω ω,ak,aJ,ax (x:=(i:Int)+1) ω ω,ag,ZM,ar,cond_not,fY]
  by_cases hK:cQ (l.getD i bl).1 (l.getD i bl).2.1
  ·rw[aj hK]
   by_cases h0:0<i
   ·have e:W .i64 ((i:Int)-1)=((i-1:Nat):Int):=by rw[ax ω ω];omega
    dsimp only
    rw[aT (x:=0) ω,e,aJ,aW (i:=((i-1:Nat):Int)) ω ω]
    simp only[cO,cF,aN,ak]
    by_cases hP:ld l i
    ·rw[aj hP];unfold ld lS kN at hP
     have P1:=hP.2
     repeat' split
     all_goals first|rfl|exact hr|omega
    ·rw[ah hP];unfold ld lS kN at hP
     have P1:=λh=>hP ⟨hK,h⟩
     repeat' split
     all_goals first|rfl|exact hr|omega|(exfalso;exact P1 ω)
   ·rw[aP (x:=0) ω]
    simp only[cO,cF,aN,ak,av]
    by_cases hP:ld l i
    ·rw[aj hP];unfold ld lS at hP
     rw[ah hP.2.1];exact hr
    ·rw[ah hP];unfold ld lS at hP
     have P1:=λh=>hP ⟨hK,h,λh=>absurd h h0⟩
     split
     ·rfl
     ·exact absurd (by assumption) P1
  ·rw[ah hK,ah (λh=>hK (by unfold ld lS at h;exact h.1))];rfl
 ·unfold Bh.l2 Bh.gD
  rw[aP ω,av]
end VM
end
section
namespace VM
open Go VM.F
def bI(a b:Int):Prop:=0≤a∧a≤24∧0≤b∧b<6
instance(a b:Int):Decidable (bI a b):=by unfold bI;infer_instance
theorem DM(N:Nat)(a b:Int):P2 N a b=some (decide (bI a b)):=by
 unfold P2
 simp only[cF]
 simp only[tN]
 by_cases hP:bI a b
 ·rw[bs hP];unfold bI at hP
  repeat' split
  all_goals first|rfl|omega|(rw[bs ω])
 ·rw[cj hP];unfold bI at hP
  repeat' split
  all_goals first|rfl|omega|(rw[cj ω])
def pU(q:Int):Prop:=q≠ -9223372036854775808
instance(q:Int):Decidable (pU q):=by unfold pU;infer_instance
theorem sj(N:Nat)(q:Int):P3 N q=some (decide (pU q)):=by
 unfold P3 pU
 rw[jq]
 by_cases h:q= -9223372036854775808<;>simp[h]
def lT(a b c:Int)(i:Nat)(d e:Int):Prop:=bI a b∧c≠0∧pU c∧(0<i→kN d e a b)
instance(a b c:Int)(i:Nat)(d e:Int):Decidable (lT a b c i d e):=by unfold lT;infer_instance
def lf(l:au)(i:Nat):Prop:=lT (l.getD i bl).1 (l.getD i bl).2.1 (l.getD i bl).2.2.1 i (l.getD (i-1) bl).1 (l.getD (i-1) bl).2.1
instance(l:au):DecidablePred (lf l):=λi=>by unfold lf;infer_instance
def cZ(l:au):Bool:=decide (∀j,j<l.length→lf l j)&&true
theorem wy(N:Nat){l:au}(hl:l.length≤100000)(hN:200000≤N):m5 N l=some (cZ l):=by
 unfold m5 m5.b
 refine ij (F:=λn i=>m5.l2 N n l l (l.length:Int) i) (lf l) (λn i r hi hp hr=> ?_) (λn=> ?_) N ω
 ·unfold m5.l2 m5.gD
  rw[aT ω,ak,aW ω ω,ak,aJ,ax (x:=(i:Int)+1) ω ω,ag,DM,ar,cond_not,fY,sj,ar,cond_not,fY]
  by_cases hK:bI (l.getD i bl).1 (l.getD i bl).2.1
  ·rw[aj hK]
   by_cases h0:0<i
   ·have hq:=hp (i-1) ω
    have e:W .i64 ((i:Int)-1)=((i-1:Nat):Int):=by rw[ax ω ω];omega
    dsimp only
    rw[aT (x:=0) ω,ak,e,aJ,aW ω ω,ak]
    unfold lf lT at hq
    have hq:=hq.1
    rw[Ig N (by unfold bI at hK;unfold Hk;omega) (by unfold bI at hK;unfold Hk;omega) (by unfold bI at hq;unfold Hk;omega) (by unfold bI at hq;unfold Hk;omega),ar,aN,cF]
    by_cases hP:lf l i
    ·rw[aj hP];unfold lf lT kN at hP;unfold Bf
     obtain⟨_,hP1,P1,hP3⟩:=hP
     rw[aj P1]
     repeat' split
     all_goals first|rfl|exact hr|omega
    ·rw[ah hP];unfold lf lT kN at hP;unfold Bf
     have P1:=λh1 h2 h3=>hP ⟨hK,h1,h2,h3⟩
     repeat' split
     all_goals first|rfl|exact hr|(exfalso;exact P1 (by assumption) (by assumption) ω)|omega
   ·rw[aP (x:=0) ω,av,aN]
    by_cases hP:lf l i
    ·rw[aj hP];unfold lf lT at hP
     rw[ah hP.2.1,aj hP.2.2.1];exact hr
    ·rw[ah hP];unfold lf lT at hP
     have P1:=λh1 h2=>hP ⟨hK,h1,h2,λh=>absurd h h0⟩
     split
     ·rfl
     ·split
      ·exact(P1 (by assumption) (by assumption)).elim
      ·rfl
  ·rw[ah hK,ah (λh=>hK (by unfold lf lT at h;exact h.1))]
 ·unfold m5.l2 m5.gD
  rw[aP ω,av]
theorem kF(N:Nat){l:au}(hl:l.length≤100000)(hN:200000≤N):yY N l=some (cZ l):=by
 unfold yY yY.b
 refine ij (F:=λn i=>yY.l2 N n l i) (lf l) (λn i r hi hp hr=> ?_) (λn=> ?_) N ω
 ·unfold yY.l2 yY.gD
  rw[aT ω,ak,aW ω ω,ak,aJ,ax (x:=(i:Int)+1) ω ω,ag]
  by_cases h0:0<i
  ·have e:W .i64 ((i:Int)-1)=((i-1:Nat):Int):=by rw[ax ω ω];omega
   dsimp only
   rw[aT (x:=0) (y:=(i:Int)) ω,e,aJ,aW (i:=((i-1:Nat):Int)) ω ω]
   simp only[cO,cF,aN,ak]
   by_cases hP:lf l i
   ·rw[aj hP];unfold lf lT kN pU bI at hP
    repeat' split
    all_goals first|rfl|exact hr|omega
   ·rw[ah hP];unfold lf lT kN pU bI at hP
    repeat' split
    all_goals first|rfl|exact hr|omega|(exfalso;exact hP ω)
  ·rw[aP (x:=0) (y:=(i:Int)) ω]
   simp only[cO,cF,aN,ak,av]
   by_cases hP:lf l i
   ·rw[aj hP];unfold lf lT kN pU bI at hP
    repeat' split
    all_goals first|rfl|exact hr|omega
   ·rw[ah hP];unfold lf lT kN pU bI at hP
    repeat' split
    all_goals first|rfl|exact hr|omega|(exfalso;exact hP ω)
 ·unfold yY.l2 yY.gD
  rw[aP ω,av]
theorem gA(a b:Int)(y:Bool):cond (dj a b) (some y) (some false)=some (decide (a≤b)&&y):=by
 rw[cF];by_cases h:a≤b<;>simp[h]
theorem Fi(a b:Int)(y:Bool):cond (aY a b) (some y) (some false)=some (decide (a<b)&&y):=by
 rw[cO];by_cases h:a<b<;>simp[h]
theorem Fj(a b:Int)(y:Bool):cond (aO a b) (some y) (some false)=some (decide (a=b)&&y):=by
 rw[aN];by_cases h:a=b<;>simp[h]
theorem Bi(a b:Int)(y z:Bool):cond (aO a b) (some y) (some z)=some ((decide (a=b)&&y)||(!decide (a=b)&&z)):=by
 rw[aN];by_cases h:a=b<;>simp[h]
def yH(a b c d e f:Int):Prop:=(1≤a∧a≤1099511627776)∧(1≤b∧b≤24)∧(0≤c∧c<6)∧(d=1∨d=2)∧(1≤e∧e≤1000000000)∧(1≤f∧f≤1000000000000)
instance(a b c d e f:Int):Decidable (yH a b c d e f):=by unfold yH;infer_instance
def qT(o:gj):Prop:=yH o.1 o.2.1 o.2.2.1 o.2.2.2.1 o.2.2.2.2.1 o.2.2.2.2.2.1
instance(o:gj):Decidable (qT o):=by unfold qT;infer_instance
theorem ahs(N:Nat)(o:gj):ZN N o=some (decide (qT o)):=by
 unfold ZN
 rw[nM o.2.2.2.2.2.1]
 rw[gA,gA,gA,Fj,Bi,Fi,gA,gA,gA,gA,gA]
 congr 1
 rw[oG,fb]
 unfold qT yH
 simp only[bP,mR,qt,vx,D4]
 omega
end VM
end
section
namespace VM
open Go VM.F
theorem Ih(N:Nat)(p:Int):F81 N p=some (decide (1≤p∧p≤1000000000000)):=by
 unfold F81
 rw[nM p,gA];congr 1
 rw[oG];simp only[bP,vx]
theorem iE(N:Nat)(p:Int):Db N p=some (decide (1≤p∧p≤1000000000000)):=Ih N p
theorem Aa(N:Nat)(o:gj):P4 N o=some (decide (qT o)):=by
 unfold P4
 rw[iE,ar]
 repeat (first|rw[gA]|rw[Fi]|rw[Fj]|rw[Bi])
 congr 1
 rw[oG,fb]
 unfold qT yH
 simp only[bP,mR,qt,vx,D4]
 omega
def ti(i:Nat)(a b:Int):Prop:=0<i→a<b
instance(i:Nat)(a b:Int):Decidable (ti i a b):=by unfold ti;infer_instance
def uj(l:bq)(i:Nat):Prop:=qT (l.getD i e7)∧ti i (l.getD (i-1) e7).1 (l.getD i e7).1
instance(l:bq):DecidablePred (uj l):=λi=>by unfold uj;infer_instance
def dY(l:bq):Bool:=decide (∀j,j<l.length→uj l j)&&decide (l.length≤32)
theorem Tp(N:Nat){l:bq}(hl:l.length≤100000)(hN:200000≤N):Dc N l=some (dY l):=by
 unfold Dc Dc.b
 refine ij (F:=λn i=>Dc.l2 N n l l (l.length:Int) i) (uj l) (λn i r hi hp hr=> ?_) (λn=> ?_) N ω
 ·unfold Dc.l2 Dc.gD
  rw[aT ω,ak,aW ω ω,ak,aJ,ax (x:=(i:Int)+1) ω ω,ag,ahs,ar,cond_not,fY]
  by_cases hK:qT (l.getD i e7)
  ·rw[aj hK]
   by_cases h0:0<i
   ·have e:W .i64 ((i:Int)-1)=((i-1:Nat):Int):=by rw[ax ω ω];omega
    dsimp only
    rw[aT (x:=0) ω,ak,e,aJ,aW ω ω,ak,cF]
    by_cases hP:uj l i
    ·rw[aj hP,ah (by have h2:=hP.2;unfold ti at h2;omega)];exact hr
    ·rw[ah hP,aj]
     have h2: ¬ti i (l.getD (i-1) e7).1 (l.getD i e7).1:=λh=>hP ⟨hK,h⟩
     unfold ti at h2
     omega
   ·rw[aP (x:=0) ω,av,aj ⟨hK,λh=>absurd h h0⟩];exact hr
  ·rw[ah hK,ah (λh=>hK h.1)]
 ·unfold Dc.l2 Dc.gD
  rw[aP ω,av,nM]
  congr 1;rw[oF];omega
theorem g5(N:Nat){l:bq}(hl:l.length≤100000)(hN:200000≤N):mC N l=some (dY l):=by
 unfold mC mC.b
 by_cases h32:32<l.length
 ·rw[aT ω,ak];unfold dY
  rw[cj (p:=l.length≤32) ω,Ek]
 rw[aP ω,av]
 have:=ij (F:=λn i=>mC.l4 N n l i) (e:=true) (uj l) (λn i r hi hp hr=> ?_) (λn=> ?_) N (show l.length<N by omega)
 ·refine Eq.trans this ?_
  unfold dY
  rw[bs (p:=l.length≤32) ω]
 ·unfold mC.l4 mC.dv
  rw[aT ω,ak,aW ω ω,ak,aJ,ax (x:=(i:Int)+1) ω ω,ag,Aa,ar,cond_not,fY]
  by_cases hK:qT (l.getD i e7)
  ·rw[aj hK]
   by_cases h0:0<i
   ·have e:W .i64 ((i:Int)-1)=((i-1:Nat):Int):=by rw[ax ω ω];omega
    dsimp only
    rw[aT (x:=0) ω,ak,ak,e,aJ,aW ω ω,ak,cF]
    by_cases hP:uj l i
    ·rw[aj hP,ah (by have h2:=hP.2;unfold ti at h2;omega)];exact hr
    ·rw[ah hP,aj]
     have h2: ¬ti i (l.getD (i-1) e7).1 (l.getD i e7).1:=λh=>hP ⟨hK,h⟩
     unfold ti at h2
     omega
   ·rw[aP (x:=0) ω,av,aj ⟨hK,λh=>absurd h h0⟩];exact hr
  ·rw[ah hK,ah (λh=>hK h.1)]
 ·unfold mC.l4 mC.dv
  rw[aP ω,av]
end VM
end
section
namespace VM
open Go VM.F
def jA(id:Int):aD→Int
 |[]=>0
 |x::t=>if x.1=id then x.2.1 else jA id t
def tj(id:Int):aM→bX×Bool
 |[]=>(aV,false)
 |x::t=>if x.1=id then(x,true)else tj id t
def m6(id:Int):aM→Int
 |[]=>0
 |x::t=>if x.2.1=id then(if x.2.2.1=1 then x.1 else m6 id t)else m6 id t
theorem uk(id:Int)(x:yI)(t:aD):jA id (x::t)=if x.1=id then x.2.1 else jA id t:=rfl
theorem nW(id:Int)(x:bX)(t:aM):tj id (x::t)=if x.1=id then(x,true)else tj id t:=rfl
theorem sl(id:Int)(x:bX)(t:aM):m6 id (x::t)=if x.2.1=id then(if x.2.2.1=1 then x.1 else m6 id t)else m6 id t:=rfl
theorem MQ(N:Nat){m:aD}(hl:m.length≤100000)(hN:200000≤N)(id:Int):Ab.l4 N N id m (m.length:Int) 0=some (jA id m):=by
 refine z8 m cz (λn i=>Ab.l4 N n id m (m.length:Int) i) (λl=>some (jA id l)) (λn i hi hr=> ?_) (λn=> ?_) N ω
 ·unfold Ab.l4 Ab.dv
  rw[aT ω,ak,aW ω ω,ak,aJ,ax (x:=(i:Int)+1) ω ω,ag,hr,aN]
  rw[uk]
  split<;>rfl
 ·unfold Ab.l4 Ab.dv
  rw[aP ω,av];rfl
theorem g7(N:Nat){m:aD}(hl:m.length≤100000)(hN:200000≤N)(id:Int):yZ N m id=some (jA id m):=by
 unfold yZ yZ.b
 refine z8 m cz (λn i=>yZ.l2 N n m id i) (λl=>some (jA id l)) (λn i hi hr=> ?_) (λn=> ?_) N ω
 ·unfold yZ.l2 yZ.gD
  rw[aT ω,ak,aW ω ω,ak,ak,aJ,ax (x:=(i:Int)+1) ω ω,ag,hr,aN]
  rw[uk]
  split<;>rfl
 ·unfold yZ.l2 yZ.gD
  rw[aP ω,av];rfl
def fZ(m:aD)(id:Int):Int:=if dp m then jA id m else 0
theorem Bj(N:Nat){m:aD}(hl:m.length≤100000)(hN:200000≤N)(id:Int):Ab N m id=some (fZ m id):=by
 unfold Ab Ab.b fZ
 rw[Ff N hl hN,ar,cond_not,MQ N hl hN]
 cases dp m<;>rfl
theorem nX(N:Nat){m:aD}(hl:m.length≤100000)(hN:200000≤N)(id:Int):RH N m id=some (fZ m id):=by
 unfold RH fZ
 rw[mj N hl hN,ar,cond_not,g7 N hl hN]
 cases dp m<;>rfl
theorem Tq(N:Nat){m:aM}(hl:m.length≤100000)(hN:200000≤N)(id:Int):oQ.l4 N N id aV m (m.length:Int) 0=some (tj id m):=by
 refine z8 m aV (λn i=>oQ.l4 N n id aV m (m.length:Int) i) (λl=>some (tj id l)) (λn i hi hr=> ?_) (λn=> ?_) N ω
 ·unfold oQ.l4 oQ.dv
  rw[aT ω,ak,aW ω ω,ak,aJ,ax (x:=(i:Int)+1) ω ω,ag,hr,aN]
  rw[nW]
  split<;>rfl
 ·unfold oQ.l4 oQ.dv
  rw[aP ω,av];rfl
theorem qU(N:Nat){m:aM}(hl:m.length≤100000)(hN:200000≤N)(id:Int):nE N m id=some (tj id m):=by
 unfold nE nE.b
 refine z8 m aV (λn i=>nE.l2 N n m id aV i) (λl=>some (tj id l)) (λn i hi hr=> ?_) (λn=> ?_) N ω
 ·unfold nE.l2 nE.gD
  rw[aT ω,ak,aW ω ω,ak,ak,aJ,ax (x:=(i:Int)+1) ω ω,ag,hr,aN]
  rw[nW]
  split<;>rfl
 ·unfold nE.l2 nE.gD
  rw[aP ω,av];rfl
theorem MR(N:Nat){m:aM}(hl:m.length≤100000)(hN:200000≤N)(id:Int):lU.l4 N N m id 0=some (m6 id m):=by
 refine z8 m aV (λn i=>lU.l4 N n m id i) (λl=>some (m6 id l)) (λn i hi hr=> ?_) (λn=> ?_) N ω
 ·unfold lU.l4 lU.dv
  rw[aT ω,ak,aW ω ω]
  simp only[ak]
  rw[aJ,ax (x:=(i:Int)+1) ω ω,ag,hr,aN,aN]
  rw[sl]
  split
  ·split<;>rfl
  ·rfl
 ·unfold lU.l4 lU.dv
  rw[aP ω,av];rfl
end VM
end
section
namespace VM
open Go VM.F
def dw(a b:Int):Prop:=a=b
instance(a b:Int):Decidable (dw a b):=by unfold dw;infer_instance
def yh(l:aM)(k:Nat)(m:Int):Prop:=dw (l.getD k aV).2.2.1 1∧dw (l.getD k aV).2.1 m
instance(l:aM)(k:Nat)(m:Int):Decidable (yh l k m):=by unfold yh;infer_instance
def lL(l:aM)(i:Nat)(m:Int):Bool:=(List.range i).any λk=>decide (yh l k m)
theorem wz{l:aM}{i:Nat}{m:Int}:lL l i m=true↔ ∃k,k<i∧yh l k m:=by
 unfold lL
 rw[zk]
 simp only[qx,fb]
theorem um(l:aM)(i:Nat)(m:Int):lL l (i+1) m=(lL l i m||decide (yh l i m)):=by
 unfold lL
 rw[Eh,List.any_append];simp
def lV(a b c d:Int):Prop:=(1≤a∧a≤24)∧(1≤b∧b≤12)∧(c=1∨c=2)∧(0≤d∧d≤1000000000000)
instance(a b c d:Int):Decidable (lV a b c d):=by unfold lV;infer_instance
def ka(l:aM)(i:Nat):Prop:= ¬(dw (l.getD i aV).2.2.1 1∧lL l i (l.getD i aV).2.1=true)
instance(l:aM)(i:Nat):Decidable (ka l i):=by unfold ka;infer_instance
def Ac(l:aM)(i:Nat):Prop:=lV (l.getD i aV).1 (l.getD i aV).2.1 (l.getD i aV).2.2.1 (l.getD i aV).2.2.2.1∧ti i (l.getD (i-1) aV).1 (l.getD i aV).1∧ka l i
instance(l:aM):DecidablePred (Ac l):=λi=>by unfold Ac;infer_instance
def fu(l:aM):Bool:=decide (∀j,j<l.length→Ac l j)&&true
def fi(l:aM)(i:Nat):List Bool:=(List.range 13).map λ(m:Nat)=>lL l i (m:Int)
theorem Ts{l:aM}{i:Nat}{b:Int}(h0:0≤b)(h1:b<13):(fi l i).getD b.toNat false=lL l i b:=by
 unfold fi
 rw[aU,pO,List.getElem?_range ω]
 show lL l i ((b.toNat:Nat):Int)=_
 rw[vv h0]
theorem MS{l:aM}{i:Nat}(h: ¬dw (l.getD i aV).2.2.1 1):fi l (i+1)=fi l i:=by
 unfold fi
 refine qo λm _=> ?_
 rw[um,cj (λh'=>h h'.1),sX]
theorem P5{l:aM}{i:Nat}(h:dw (l.getD i aV).2.2.1 1)(h0:(0:Int)≤(l.getD i aV).2.1):(fi l i).set ((l.getD i aV).2.1:Int).toNat true=fi l (i+1):=by
 refine List.ext_getElem (by unfold fi;simp) λk h1 h2=> ?_
 unfold fi at*
 rw[List.getElem_set]
 simp only[List.getElem_map,Ea]
 rw[um]
 by_cases hk:((l.getD i aV).2.1:Int).toNat=k
 ·rw[aj hk,bs (show yh l i (k:Int)from⟨h,by unfold dw;omega⟩),Bool.or_true]
 ·rw[ah hk,cj (λh':yh l i (k:Int)=>hk (by have:=h'.2;unfold dw at this;omega)),sX]
theorem RI(N:Nat){l:aM}(hl:l.length≤100000)(hN:200000≤N):mD N l=some (fu l):=by
 unfold mD mD.b
 have h0:(List.replicate 13 false:List Bool)=fi l 0:=by unfold fi lL;rfl
 rw[h0]
 have:=ij (F:=λn i=>mD.l3 N n l (fi l i.toNat) l (l.length:Int) i) (e:=true) (Ac l) (λn i r hi hp hr=> ?_) (λn=> ?_) N (show l.length<N by omega)
 ·exact this
 ·simp only[aJ]at hr ⊢
  unfold mD.l3 mD.nC
  rw[aT ω,ak,aW ω ω,ak]
  simp only[aJ]
  rw[ax (x:=(i:Int)+1) ω ω,ag]
  by_cases hF:lV (l.getD i aV).1 (l.getD i aV).2.1 (l.getD i aV).2.2.1 (l.getD i aV).2.2.2.1
  ·have RJ:=hF
   unfold lV at RJ
   have hT:cond (aO (l.getD i aV).2.2.1 1) (cond (ba (l.getD i aV).2.1 13) (cond (List.getD (fi l i) (l.getD i aV).2.1.toNat false) (some false) (cond (ba (l.getD i aV).2.1 13) (mD.l3 N n l (List.set (fi l i) (l.getD i aV).2.1.toNat true) l (l.length:Int) ((i+1:Nat):Int)) none)) none) (mD.l3 N n l (fi l i) l (l.length:Int) ((i+1:Nat):Int))=if ka l i then r else some false:=by
    rw[aN]
    by_cases hk:dw (l.getD i aV).2.2.1 1
    ·have G0:=hk
     unfold dw at G0
     rw[aj G0,aW ω ω,ak,ak,Ts ω ω,P5 hk ω,hr]
     by_cases ho:lL l i (l.getD i aV).2.1=true
     ·have vp: ¬ka l i:=λh=>h ⟨hk,ho⟩
      rw[ah vp,ho];rfl
     ·have vp:ka l i:=λh=>ho h.2
      rw[aj vp,vy.2 ho];rfl
    ·have G0:=hk
     unfold dw at G0
     rw[ah G0,aj (show ka l i from λh=>hk h.1),←MS hk,hr]
   have hP:Ac l i↔ti i (l.getD (i-1) aV).1 (l.getD i aV).1∧ka l i:=⟨λh=>h.2,λh=>⟨hF,h⟩⟩
   have hD:(if Ac l i then r else some false)=if ti i (l.getD (i-1) aV).1 (l.getD i aV).1 then(if ka l i then r else some false)else some false:=by
    by_cases h1:ti i (l.getD (i-1) aV).1 (l.getD i aV).1<;>by_cases h2:ka l i<;>simp[hP,h1,h2]
   rw[hD]
   rw[hT]
   rw[aP ω,av,aP ω,av,aP ω,av,aP ω,av,aP (x:=(l.getD i aV).2.2.2.1) ω,aP (x:=1000000000000) ω]
   simp only[av]
   have hm: ∀{α:Type} (x:α) (y:α),cond (!aO (l.getD i aV).2.2.1 1) (cond (!aO (l.getD i aV).2.2.1 2) y x) x=x:=by
    intro α x y
    rcases RJ.2.2.1 with h|h
    ·rw[dX h];rfl
    ·rw[dX (y:=2) h];cases aO (l.getD i aV).2.2.1 1<;>rfl
   rw[hm]
   by_cases h0:0<i
   ·have e:W .i64 ((i:Int)-1)=((i-1:Nat):Int):=by rw[ax ω ω];omega
    rw[aT (x:=0) ω,ak,e,aJ,aW ω ω,ak,cF]
    by_cases h1:ti i (l.getD (i-1) aV).1 (l.getD i aV).1
    ·rw[aj h1,ah (by unfold ti at h1;omega)]
    ·rw[ah h1,aj (by unfold ti at h1;omega)]
   ·rw[aP (x:=0) ω,av,aj (show ti i (l.getD (i-1) aV).1 (l.getD i aV).1 from λh=>absurd h h0)]
  ·rw[ah (λh=>hF h.1)]
   unfold lV at hF
   generalize cond (aO (l.getD i aV).2.2.1 1) (cond (ba (l.getD i aV).2.1 13) (cond (List.getD (fi l i) (l.getD i aV).2.1.toNat false) (some false) (cond (ba (l.getD i aV).2.1 13) (mD.l3 N n l (List.set (fi l i) (l.getD i aV).2.1.toNat true) l (l.length:Int) ((i+1:Nat):Int)) none)) none) (mD.l3 N n l (fi l i) l (l.length:Int) ((i+1:Nat):Int))=t
   generalize cond (aY 0 (i:Int)) _ _=u
   simp only[cond_not,cO,aN]
   repeat' split
   all_goals first|rfl|omega
 ·unfold mD.l3 mD.nC
  rw[aP ω,av]
end VM
end
section
namespace VM
open Go VM.F
theorem Bk(N:Nat)(K:aM→Int→Option Bool){l:aM}(hl:l.length≤100000){i:Nat}(hi:i<l.length): ∀(m n k:Nat),i-k≤m→m<n→k≤i→(dw (l.getD i aV).2.2.1 1→lL l k (l.getD i aV).2.1=false)→
  eu.l8 N K n l (i:Int) (l.getD i aV) (k:Int)=if ka l i then K l ((i+1:Nat):Int)else some false
 |m,0,k,_,hn,_,_=>ω
 |m,n+1,k,hm,hn,hk,h=>by
  unfold eu.l8 eu.xR
  by_cases EL:k<i
  ·rw[aT ω,ak,aW ω ω,ak,ak,aJ,ax (x:=(k:Int)+1) ω ω,ag,aN,aN,aN]
   by_cases h1:dw (l.getD i aV).2.2.1 1
   ·have pg:=h1
    unfold dw at pg
    rw[aj pg]
    by_cases h2:yh l k (l.getD i aV).2.1
    ·have yg:=h2
     unfold yh dw at yg
     have vp: ¬ka l i:=λh3=>h3 ⟨h1,wz.2 ⟨k,EL,h2⟩⟩
     rw[aj yg.1,aj yg.2,ah vp]
    ·have wx:=Bk N K hl hi (m-1) n (k+1) ω ω ω (λ_=>by rw[um,h h1,cj h2];rfl)
     split
     ·split
      ·rename_i h3 h4
       exact absurd (show yh l k (l.getD i aV).2.1 from⟨h3,h4⟩) h2
      ·exact wx
     ·exact wx
   ·have pg:=h1
    unfold dw at pg
    rw[ah pg]
    exact Bk N K hl hi (m-1) n (k+1) ω ω ω (λh=>absurd h h1)
  ·have:k=i:=ω
   subst this
   have vp:ka l k:=λh3=>by rw[h h3.1]at h3;exact nomatch h3.2
   rw[aP ω,av,aj vp,ax (x:=(k:Int)+1) ω ω];rfl
set_option maxHeartbeats 2000000 in
theorem tk(N:Nat){l:aM}(hl:l.length≤100000)(hN:200000≤N):eu N l=some (fu l):=by
 unfold eu eu.b
 refine ij (F:=λn i=>eu.l2 N n l i) (Ac l) (λn i r hi hp hr=> ?_) (λn=> ?_) N ω
 ·unfold eu.l2 eu.gD
  have hT:eu.j7 N (eu.l2 N n) l (i:Int) (l.getD i aV)=if ka l i then r else some false:=by
   unfold eu.j7 eu.UO
   have:=Bk N (eu.l2 N n) hl hi i N 0 ω ω ω (λ_=>rfl)
   rw[hr]at this
   exact this
  rw[aT ω,ak,aW ω ω,ak]
  simp only[aJ]
  rw[hT]
  have hD:(if Ac l i then r else some false)=if lV (l.getD i aV).1 (l.getD i aV).2.1 (l.getD i aV).2.2.1 (l.getD i aV).2.2.2.1∧ti i (l.getD (i-1) aV).1 (l.getD i aV).1 then(if ka l i then r else some false)else some false:=by
   unfold Ac
   by_cases h1:ti i (l.getD (i-1) aV).1 (l.getD i aV).1<;>by_cases h2:ka l i<;>by_cases h3:lV (l.getD i aV).1 (l.getD i aV).2.1 (l.getD i aV).2.2.1 (l.getD i aV).2.2.2.1<;>simp[h1,h2,h3]
  rw[hD]
  generalize (if ka l i then r else some false)=t
  by_cases h0:0<i
  ·have e:W .i64 ((i:Int)-1)=((i-1:Nat):Int):=by rw[ax ω ω];omega
   rw[aT (x:=0) (y:=(i:Int)) ω,e]
   simp only[ak,aJ]
   rw[aW (i:=((i-1:Nat):Int)) ω ω]
   simp only[cond_not,cO,cF,aN,ak]
   by_cases hP:lV (l.getD i aV).1 (l.getD i aV).2.1 (l.getD i aV).2.2.1 (l.getD i aV).2.2.2.1∧ti i (l.getD (i-1) aV).1 (l.getD i aV).1
   ·rw[aj hP];unfold lV ti at hP
    repeat' split
    all_goals first|rfl|omega
   ·rw[ah hP];unfold lV ti at hP
    repeat' split
    all_goals first|rfl|omega
  ·rw[aP (x:=0) (y:=(i:Int)) ω]
   simp only[cond_not,cO,cF,aN,ak,av]
   by_cases hP:lV (l.getD i aV).1 (l.getD i aV).2.1 (l.getD i aV).2.2.1 (l.getD i aV).2.2.2.1∧ti i (l.getD (i-1) aV).1 (l.getD i aV).1
   ·rw[aj hP];unfold lV ti at hP
    repeat' split
    all_goals first|rfl|omega
   ·rw[ah hP];unfold lV ti at hP
    repeat' split
    all_goals first|rfl|omega
 ·unfold eu.l2 eu.gD
  rw[aP ω,av]
end VM
end
section
namespace VM
open Go VM.F
def e9(a:aM)(id:Int):bX×Bool:=if fu a then tj id a else(aV,false)
theorem ZO(N:Nat){a:aM}(hl:a.length≤100000)(hN:200000≤N)(id:Int):oQ N a id=some (e9 a id):=by
 unfold oQ oQ.b e9
 rw[RI N hl hN,ar,cond_not,Tq N hl hN]
 cases fu a<;>rfl
theorem wA(N:Nat){a:aM}(hl:a.length≤100000)(hN:200000≤N)(id:Int):UQ N a id=some (e9 a id):=by
 unfold UQ e9
 rw[tk N hl hN,ar,cond_not,qU N hl hN]
 cases fu a<;>rfl
def m7(a:aM)(id:Int):Int:=if fu a then m6 id a else 0
theorem qi(N:Nat){a:aM}(hl:a.length≤100000)(hN:200000≤N)(id:Int):lU N a id=some (m7 a id):=by
 unfold lU lU.b m7
 rw[tk N hl hN,ar,cond_not,MR N hl hN]
 cases fu a<;>rfl
def kG(m:aD)(a:aM)(i:Nat):Prop:= ¬dw (jA (a.getD i aV).2.1 m) 0
instance(m:aD)(a:aM):DecidablePred (kG m a):=λi=>by unfold kG;infer_instance
def pq(m:aD)(a:aM):Bool:=dp m&&(fu a&&(decide (∀j,j<a.length→kG m a j)&&true))
theorem ZP(N:Nat){m:aD}{a:aM}(hm:m.length≤100000)(hl:a.length≤100000)(hN:200000≤N):Dd N m a=some (pq m a):=by
 unfold Dd Dd.b pq
 rw[Ff N hm hN,ar,cond_not,RI N hl hN,ar,cond_not]
 cases hM:dp m
 ·rfl
 cases fu a
 ·rfl
 rw[mS,mS,ak,ak]
 refine ij (F:=λn i=>Dd.l4 N n m a (a.length:Int) i) (kG m a) (λn i r hi hp hr=> ?_) (λn=> ?_) N ω
 ·unfold Dd.l4 Dd.dv
  rw[aT ω,ak,aW ω ω,ak,aJ,ax (x:=(i:Int)+1) ω ω,ag,Bj N hm hN,ar,aN]
  unfold fZ
  rw[hM,aj rfl]
  by_cases hP:kG m a i
  ·rw[aj hP,ah (show ¬((jA (a.getD i aV).2.1 m:Int)=0)from λh=>hP h)];exact hr
  ·rw[ah hP,aj (show(jA (a.getD i aV).2.1 m:Int)=0 by unfold kG at hP;exact Ee.1 hP)]
 ·unfold Dd.l4 Dd.dv
  rw[aP ω,av]
theorem wD(N:Nat){m:aD}{a:aM}(hm:m.length≤100000)(hl:a.length≤100000)(hN:200000≤N):nY N m a=some (pq m a):=by
 unfold nY nY.b pq
 rw[mj N hm hN,ar,cond_not,tk N hl hN,ar,cond_not]
 cases hM:dp m
 ·rfl
 cases fu a
 ·rfl
 rw[mS,mS,ak,ak]
 refine ij (F:=λn i=>nY.l4 N n m a i) (kG m a) (λn i r hi hp hr=> ?_) (λn=> ?_) N ω
 ·unfold nY.l4 nY.dv
  rw[aT ω,ak,aW ω ω,ak,aJ,ax (x:=(i:Int)+1) ω ω,ag,g7 N hm hN,ar,aN]
  by_cases hP:kG m a i
  ·rw[aj hP,ah (show ¬((jA (a.getD i aV).2.1 m:Int)=0)from λh=>hP h)];exact hr
  ·rw[ah hP,aj (show(jA (a.getD i aV).2.1 m:Int)=0 by unfold kG at hP;exact Ee.1 hP)]
 ·unfold nY.l4 nY.dv
  rw[aP ω,av]
end VM
end
section
namespace VM
open Go VM.F
theorem V8(a b:cB):pa (.pair (.int .i64) (.pair (.int .u64) .unit)) a b=(aO a.1 b.1&&(aO a.2.1 b.2.1&&true)):=rfl
theorem RK(N:Nat){u v:Int}:V9 N (dN u) (dN v)=some (vj (u-v)):=by
 unfold V9
 rw[V8]
 unfold dN
 dsimp only
 unfold vj
 rw[cO,aN,cO,gg,jq,jq]
 have hu:u=u/18446744073709551616*18446744073709551616+u%18446744073709551616:=ω
 have hv:v=v/18446744073709551616*18446744073709551616+v%18446744073709551616:=ω
 by_cases h1:u/18446744073709551616<v/18446744073709551616
 ·rw[aj h1];congr 1;split<;>(try split)<;>omega
 ·rw[ah h1]
  by_cases h2:u/18446744073709551616=v/18446744073709551616
  ·rw[aj h2,bs h2,mS]
   by_cases h3:u%18446744073709551616<v%18446744073709551616
   ·rw[aj h3];congr 1;split<;>(try split)<;>omega
   ·rw[ah h3]
    by_cases h4:u%18446744073709551616=v%18446744073709551616
    ·rw[bs h4,ak];congr 1;split<;>(try split)<;>omega
    ·rw[cj h4,av];congr 1;split<;>(try split)<;>omega
  ·rw[ah h2,cj h2,vF,av];congr 1;split<;>(try split)<;>omega
theorem P6:dN 0=cz:=rfl
theorem Ad(N:Nat){u:Int}:F74 N (dN u)=some (vj u):=by
 unfold F74
 rw[←P6,RK,ar,Eo]
end VM
end
section
namespace VM
open Go VM.F
def dZ(r:db):Int:=r.2.2.1
def aE(x:Int):Prop:= -9223372036854775808≤x∧x<9223372036854775808
def ec(l:au):Prop:= ∀x∈l,aE (dZ x)
theorem yJ{l:au}(h:ec l)(i:Nat):aE (dZ (l.getD i bl)):=by
 by_cases hi:i<l.length
 ·rw[aU,bm hi];exact h _ (dz hi)
 ·rw[aU,gC ω];exact⟨δ,δ⟩
theorem MT{ws:List Int}(h: ∀x∈ws,aE x): -(9223372036854775808*(ws.length:Int))≤ws.sum∧ws.sum≤9223372036854775808*(ws.length:Int):=RC ws h
theorem Ii{ws:List Int}(h: ∀x∈ws,aE x)(hl:ws.length≤1000000):dm ws.sum:=by
 have:=MT h
 unfold dm;omega
theorem Tt{ws:List Int}(h: ∀x∈ws,aE x): ∀x∈ws,dm x:=λx hx=>by
 have:=h x hx
 unfold aE at this;unfold dm;omega
theorem J4(N:Nat){ws:List Int}(h: ∀x∈ws,aE x)(hl:ws.length≤1000000)(hN:1000000<N):mB N (ws.map dN)=some (dN ws.sum,true):=by
 rw[DK N (Tt h) hl hN]
 unfold Fe
 rw[aj (Ii h hl)]
def gE(l:au):Int:=if ei l then(l.map dZ).sum else 0
theorem P7(N:Nat){l:au}(hq:ec l)(hl:l.length≤100000)(hN:2000000≤N):Cp.l5 N N cz [] l (l.length:Int) 0=some (dN (l.map dZ).sum):=by
 have:=nV l bl (λn i ws=>Cp.l5 N n cz (ws.map dN) l (l.length:Int) i) (λt ws=>some (dN (ws++t.map dZ).sum)) (λi (ws:List Int)=>ws.length=i∧ ∀x∈ws,aE x)
  (λn i ws hi hI hr=> ?_) (λn ws hI=> ?_) l.length N 0 [] ω ω ω ⟨rfl,λx hx=>nomatch hx⟩
 ·simpa using this
 ·unfold Cp.l5 Cp.dV
  have nF:=yJ hq i
  have iF:=nF
  unfold aE dZ at iF
  rw[aT ω,ak,aW ω ω,ak,aJ,wv N iF.1 iF.2,ar,bL (by rw[cv,aI];omega),ak,ax ω ω,ag]
  have:=hr (ws++[dZ (l.getD i bl)]) ⟨by rw[aS,hI.1];rfl,λx hx=>by
   rcases bb.1 hx with hx|hx
   ·exact hI.2 x hx
   ·rw[bT.1 hx];exact nF⟩
  rw[cW]at this
  refine this.trans ?_
  rw[bU,br];rfl
 ·unfold Cp.l5 Cp.dV
  rw[aP ω,av,J4 N hI.2 ω ω,ar,iT,ch]
theorem Wa(N:Nat){l:au}(hq:ec l)(hl:l.length≤100000)(hN:2000000≤N):Cp N l=some (dN (gE l)):=by
 unfold Cp Cp.b gE
 rw[DL N hl ω,ar,cond_not,P7 N hq hl hN]
 cases ei l<;>rfl
theorem MU(N:Nat){l:au}(hq:ec l)(hl:l.length≤100000)(hN:4000000≤N):Cr.l5 N N l (cT 0) (cT 0) 0=some (cT (l.map dZ).sum):=by
 have:=nV l bl (λn i ws=>Cr.l5 N n l (cT 0) (cT ws.sum) i) (λt ws=>some (cT (ws++t.map dZ).sum)) (λi (ws:List Int)=>ws.length=i∧ ∀x∈ws,aE x)
  (λn i ws hi hI hr=> ?_) (λn ws hI=> ?_) l.length N 0 [] ω ω ω ⟨rfl,λx hx=>nomatch hx⟩
 ·simpa using this
 ·unfold Cr.l5 Cr.dV
  have nF:=yJ hq i
  have iF:=nF
  unfold aE dZ at iF
  have hb:=MT hI.2
  rw[hI.1]at hb
  rw[aT ω,ak,aW ω ω,ak,aJ,c4 N ω iF.1 iF.2,ar,iW N ω ((zZ (n:=i) ω hb.1 hb.2).mono ω) ((Fit.i64 iF.1 iF.2).mono ω),ar,ax ω ω,ag]
  have:=hr (ws++[dZ (l.getD i bl)]) ⟨by rw[aS,hI.1];rfl,λx hx=>by
   rcases bb.1 hx with hx|hx
   ·exact hI.2 x hx
   ·rw[bT.1 hx];exact nF⟩
  rw[lH,cy,ky,kz]at this
  refine this.trans ?_
  rw[bU,br];rfl
 ·unfold Cr.l5 Cr.dV
  rw[aP ω,av,iT,ch]
theorem Tu(N:Nat){l:au}(hq:ec l)(hl:l.length≤100000)(hN:4000000≤N):Cr N l=some (cT (gE l)):=by
 unfold Cr Cr.b gE
 rw[Fh N hl ω,ar,cond_not]
 have:=MU N hq hl hN
 rw[iC]at this
 rw[this]
 cases ei l
 ·rw[av];exact ff some iC.symm
 ·rfl
end VM
end
section
namespace VM
open Go VM.F
def c5(inst:Int):au→List Int
 |[]=>[]
 |x::t=>if x.2.1=inst then dZ x::c5 inst t else c5 inst t
theorem df(inst:Int)(x:db)(t:au):c5 inst (x::t)=if x.2.1=inst then dZ x::c5 inst t else c5 inst t:=rfl
theorem Tv(N:Nat){l:au}(hq:ec l)(hl:l.length≤100000)(hN:2000000≤N)(inst:Int):oR.l5 N N inst cz [] l (l.length:Int) 0=some (dN (c5 inst l).sum):=by
 have:=nV l bl (λn i ws=>oR.l5 N n inst cz (ws.map dN) l (l.length:Int) i) (λt ws=>some (dN (ws++c5 inst t).sum)) (λi (ws:List Int)=>ws.length≤i∧ ∀x∈ws,aE x)
  (λn i ws hi hI hr=> ?_) (λn ws hI=> ?_) l.length N 0 [] ω ω ω ⟨aG _,λx hx=>nomatch hx⟩
 ·simpa using this
 ·unfold oR.l5 oR.dV
  have nF:=yJ hq i
  have iF:=nF
  unfold aE dZ at iF
  rw[aT ω,ak,aW ω ω,ak,aJ,wv N iF.1 iF.2,ar,bL (by rw[cv,aI];omega),ak,ax ω ω,ag,aN,df]
  split
  ·have:=hr (ws++[dZ (l.getD i bl)]) ⟨by rw[aS,aI];omega,λx hx=>by
    rcases bb.1 hx with hx|hx
    ·exact hI.2 x hx
    ·rw[bT.1 hx];exact nF⟩
   rw[cW]at this
   refine this.trans ?_
   rw[br];rfl
  ·exact hr ws ⟨ω,hI.2⟩
 ·unfold oR.l5 oR.dV
  rw[aP ω,av,J4 N hI.2 ω ω,ar]
  show _=some (dN (ws++[]).sum)
  rw[ch]
def sm(l:au)(inst:Int):Int:=if cZ l then(c5 inst l).sum else 0
theorem ZQ(N:Nat){l:au}(hq:ec l)(hl:l.length≤100000)(hN:2000000≤N)(inst:Int):oR N l inst=some (dN (sm l inst)):=by
 unfold oR oR.b sm
 rw[wy N hl ω,ar,cond_not,Tv N hq hl hN]
 cases cZ l<;>rfl
theorem P8(N:Nat){l:au}(hq:ec l)(hl:l.length≤100000)(hN:4000000≤N)(inst:Int):oS.l5 N N l inst (cT 0) (cT 0) 0=some (cT (c5 inst l).sum):=by
 have:=nV l bl (λn i ws=>oS.l5 N n l inst (cT 0) (cT ws.sum) i) (λt ws=>some (cT (ws++c5 inst t).sum)) (λi (ws:List Int)=>ws.length≤i∧ ∀x∈ws,aE x)
  (λn i ws hi hI hr=> ?_) (λn ws hI=> ?_) l.length N 0 [] ω ω ω ⟨aG _,λx hx=>nomatch hx⟩
 ·simpa using this
 ·unfold oS.l5 oS.dV
  have nF:=yJ hq i
  have iF:=nF
  unfold aE dZ at iF
  have hb:=MT hI.2
  rw[aT ω,ak,aW ω ω,ak,ak,aJ,c4 N ω iF.1 iF.2,ar,iW N ω ((zZ (n:=ws.length) ω hb.1 hb.2).mono ω) ((Fit.i64 iF.1 iF.2).mono ω),ar,ax ω ω,ag,aN,df]
  split
  ·have:=hr (ws++[dZ (l.getD i bl)]) ⟨by rw[aS,aI];omega,λx hx=>by
    rcases bb.1 hx with hx|hx
    ·exact hI.2 x hx
    ·rw[bT.1 hx];exact nF⟩
   rw[lH,cy,ky,kz]at this
   refine this.trans ?_
   rw[br];rfl
  ·exact hr ws ⟨ω,hI.2⟩
 ·unfold oS.l5 oS.dV
  rw[aP ω,av]
  show _=some (cT (ws++[]).sum)
  rw[ch]
theorem MV(N:Nat){l:au}(hq:ec l)(hl:l.length≤100000)(hN:4000000≤N)(inst:Int):oS N l inst=some (cT (sm l inst)):=by
 unfold oS oS.b sm
 rw[kF N hl ω,ar,cond_not]
 have:=P8 N hq hl hN inst
 rw[iC]at this
 rw[this]
 cases cZ l
 ·rw[av];exact ff some iC.symm
 ·rfl
def sH(l:au)(i:Nat):Prop:=dw (sm l (i:Int)) 0
instance(l:au):DecidablePred (sH l):=λi=>by unfold sH;infer_instance
def kb:Nat:=6
def nZ(l:au):Bool:=decide (∀j,j<kb→sH l j)&&cZ l
theorem kd{x:Int}:vj x=0↔x=0:=by unfold vj;split<;>(try split)<;>omega
theorem ZR(N:Nat){l:au}(hq:ec l)(hl:l.length≤100000)(hN:2000000≤N):De N l=some (nZ l):=by
 unfold De De.b
 refine ij (len:=kb) (F:=λn i=>De.l2 N n l i) (sH l) (λn i r hi hp hr=> ?_) (λn=> ?_) N (by unfold kb;omega)
 ·unfold De.l2 De.gD
  unfold kb at hi
  rw[aT ω,ak,ZQ N hq hl hN,ar,Ad,ar,cond_not,aN,ax ω ω,ag,hr]
  by_cases hP:sH l i
  ·rw[aj hP,aj (kd.2 hP)]
  ·rw[ah hP,ah (λh=>hP (kd.1 h))]
 ·unfold De.l2 De.gD
  rw[aP (by unfold kb;omega),av,wy N hl ω,ar]
theorem Wb(N:Nat){l:au}(hq:ec l)(hl:l.length≤100000)(hN:4000000≤N):Df N l=some (nZ l):=by
 unfold Df Df.b
 refine ij (len:=kb) (F:=λn i=>Df.l2 N n l i) (sH l) (λn i r hi hp hr=> ?_) (λn=> ?_) N (by unfold kb;omega)
 ·unfold Df.l2 Df.gD
  unfold kb at hi
  rw[aT ω,ak,MV N hq hl hN,ar,pT,ar,cond_not,aN,ax ω ω,ag,hr]
  by_cases hP:sH l i
  ·rw[aj hP,aj (kd.2 hP)]
  ·rw[ah hP,ah (λh=>hP (kd.1 h))]
 ·unfold Df.l2 Df.gD
  rw[aP (by unfold kb;omega),av,kF N hl ω,ar]
end VM
end
section
namespace VM
open Go VM.F
def jB(m:aD)(a:aM)(l:au)(i:Nat):Prop:=
 (dw (l.getD i bl).1 5→(e9 a (l.getD i bl).2.1).2=true)∧(dw (l.getD i bl).1 6∨dw (l.getD i bl).1 7→ ¬dw (fZ m (l.getD i bl).2.1) 0)
instance(m:aD)(a:aM)(l:au):DecidablePred (jB m a l):=λi=>by unfold jB;infer_instance
theorem J5(N:Nat)(b:aq)(hl:b.2.1.length≤100000)(hN:200000≤N)(id:Int):F78 N b id=some (e9 b.2.1 id).2:=by
 unfold F78
 rw[ZO N hl hN,ar]
theorem Tw{k:Int}{f:Bool}{z:Int}{r:Option Bool}:cond (aO k 5) (cond (!f) (some false) r) (cond (aO k 6) (cond (aO z 0) (some false) r) (cond (aO k 7) (cond (aO z 0) (some false) r) r))=
  if(dw k 5→f=true)∧(dw k 6∨dw k 7→ ¬dw z 0)then r else some false:=by
 unfold dw
 rw[aN,aN,aN,aN,cond_not]
 by_cases h5:k=5
 ·have h6: ¬(k=6):=ω
  have h7: ¬(k=7):=ω
  cases f<;>simp[h5,h6,h7]
 ·by_cases h6:k=6
  ·by_cases hz:z=0<;>simp[h5,h6,hz]
  ·by_cases h7:k=7
   ·by_cases hz:z=0<;>simp[h5,h6,h7,hz]
   ·simp[h5,h6,h7]
theorem Hl(N:Nat)(hN:200000≤N)(c:ae)(b:aq)(hm:b.1.length≤100000)(ha:b.2.1.length≤100000)(hl:b.2.2.1.length≤100000){e:Bool}
  (he:lh.wE N N c b b.2.2.2.1 (b.2.2.2.1.length:Int) 0=some e):lh.l4 N N c b b.2.2.1 (b.2.2.1.length:Int) 0=some (decide (∀j,j<b.2.2.1.length→jB b.1 b.2.1 b.2.2.1 j)&&e):=by
 refine ij (F:=λn i=>lh.l4 N n c b b.2.2.1 (b.2.2.1.length:Int) i) (jB b.1 b.2.1 b.2.2.1) (λn i r hi hp hr=> ?_) (λn=> ?_) N ω
 ·unfold lh.l4 lh.dv
  rw[aT ω,ak,aW ω ω,ak,aJ,ax (x:=(i:Int)+1) ω ω,ag,hr]
  simp only[J5 N b ha hN,Bj N hm hN,ar]
  rw[Tw]
  rfl
 ·unfold lh.l4 lh.dv
  rw[aP ω,av];exact he
def n0(a b:Int):Prop:=a<b
instance(a b:Int):Decidable (n0 a b):=by unfold n0;infer_instance
def iX(c:ae)(a:aM)(l:au)(i:Nat):Prop:=
 (dw (l.getD i bl).1 0∨(e9 a (l.getD i bl).1).2=true)∧n0 (l.getD i bl).2.1 c.1.length
instance(c:ae)(a:aM)(l:au):DecidablePred (iX c a l):=λi=>by unfold iX;infer_instance
theorem Wc{k x n:Int}{f:Bool}{r:Option Bool}:cond (!aO k 0) (cond (!f) (some false) (cond (dj n x) (some false) r)) (cond (dj n x) (some false) r)=if(dw k 0∨f=true)∧n0 x n then r else some false:=by
 unfold dw n0
 rw[cond_not,aN,cF,cond_not]
 by_cases h0:k=0
 ·by_cases hx:n≤x
  ·have: ¬x<n:=ω
   simp[h0,hx,this]
  ·have:x<n:=ω
   simp[h0,hx,this]
 ·by_cases hx:n≤x
  ·have: ¬x<n:=ω
   cases f<;>simp[h0,hx,this]
  ·have:x<n:=ω
   cases f<;>simp[h0,hx,this]
theorem J6(N:Nat)(hN:200000≤N)(c:ae)(b:aq)(ha:b.2.1.length≤100000)(hl:b.2.2.2.1.length≤100000){e:Bool}
  (he:lh.wF N N c b b.2.2.2.2.2.1 (b.2.2.2.2.2.1.length:Int) 0=some e):lh.wE N N c b b.2.2.2.1 (b.2.2.2.1.length:Int) 0=some (decide (∀j,j<b.2.2.2.1.length→iX c b.2.1 b.2.2.2.1 j)&&e):=by
 refine ij (F:=λn i=>lh.wE N n c b b.2.2.2.1 (b.2.2.2.1.length:Int) i) (iX c b.2.1 b.2.2.2.1) (λn i r hi hp hr=> ?_) (λn=> ?_) N ω
 ·unfold lh.wE lh.vk
  rw[aT ω,ak,aW ω ω,ak,aJ,ax (x:=(i:Int)+1) ω ω,ag,hr]
  simp only[J5 N b ha hN,ar]
  rw[Wc]
  rfl
 ·unfold lh.wE lh.vk
  rw[aP ω,av];exact he
end VM
end
section
namespace VM
open Go VM.F
def pV(l:List Int)(i:Nat):Prop:=1≤l.getD i 0∧l.getD i 0≤1000000000000
instance(l:List Int):DecidablePred (pV l):=λi=>by unfold pV;infer_instance
def eS(l:List Int):Bool:=decide (∀j,j<l.length→pV l j)
theorem ahv(N:Nat)(p:Int):F80 N p=some (!decide (1≤p∧p≤1000000000000)):=by
 unfold F80
 rw[Ih,ar]
theorem Fk(N:Nat){l:List Int}(hl:l.length≤100000): ∀(m n i:Nat),l.length-i≤m→m<n→i≤l.length→(∀j,j<i→pV l j)→
  ∃r,rI.l2 N n l () (l.length:Int) (i:Int)=some r∧(dj 0 r= !eS l)
 |m,0,i,_,hn,_,_=>ω
 |m,n+1,i,hm,hn,hi,hp=>by
  unfold rI.l2 rI.gD
  by_cases h:i<l.length
  ·rw[aT ω,ak,aW ω ω,ak,aJ,ahv,ar,cond_not,fY]
   by_cases hP:pV l i
   ·have hP':=hP
    unfold pV at hP'
    rw[aj hP',ax ω ω]
    exact Fk N hl (m-1) n (i+1) ω ω ω (λj hj=>by
     by_cases yC:j=i
     ·subst yC;exact hP
     ·exact hp j ω)
   ·have hP':=hP
    unfold pV at hP'
    rw[ah hP']
    refine⟨_,rfl,?_⟩
    rw[fC ω]
    unfold eS
    rw[cj (λh'=>hP (h' i h))];rfl
  ·rw[aP ω,av]
   refine⟨_,rfl,?_⟩
   rw[fh ω]
   unfold eS
   rw[bs (λj hj=>hp j ω)];rfl
theorem Tx(N:Nat){l:List Int}(hl:l.length≤100000)(hN:200000≤N):F79 N l ()=some (!eS l):=by
 unfold F79 rI rI.b
 obtain⟨r,e,h⟩:=Fk N hl l.length N 0 ω ω ω (λj hj=>absurd hj ω)
 rw[show((0:Nat):Int)=0 from rfl]at e
 rw[e,ar,h]
def pW(c:ae)(a:aM)(l:bq)(i:Nat):Prop:=
 (e9 a (l.getD i e7).2.1).2=true∧n0 (l.getD i e7).2.2.1 c.1.length
instance(c:ae)(a:aM)(l:bq):DecidablePred (pW c a l):=λi=>by unfold pW;infer_instance
theorem Fl{x n:Int}{f:Bool}{r:Option Bool}:cond (!f) (some false) (cond (dj n x) (some false) r)=if f=true∧n0 x n then r else some false:=by
 unfold n0
 rw[cF,cond_not]
 by_cases hx:n≤x
 ·have: ¬x<n:=ω
  cases f<;>simp[hx,this]
 ·have:x<n:=ω
  cases f<;>simp[hx,this]
theorem J7(N:Nat)(hN:200000≤N)(c:ae)(b:aq)(ha:b.2.1.length≤100000)(hl:b.2.2.2.2.2.1.length≤100000)(hp:b.2.2.2.2.1.length≤100000):
  lh.wF N N c b b.2.2.2.2.2.1 (b.2.2.2.2.2.1.length:Int) 0=some (decide (∀j,j<b.2.2.2.2.2.1.length→pW c b.2.1 b.2.2.2.2.2.1 j)&&eS b.2.2.2.2.1):=by
 refine ij (F:=λn i=>lh.wF N n c b b.2.2.2.2.2.1 (b.2.2.2.2.2.1.length:Int) i) (pW c b.2.1 b.2.2.2.2.2.1) (λn i r hi Q7 hr=> ?_) (λn=> ?_) N ω
 ·unfold lh.wF lh.vl
  rw[aT ω,ak,aW ω ω,ak,aJ,ax (x:=(i:Int)+1) ω ω,ag,hr]
  simp only[J5 N b ha hN,ar]
  rw[Fl]
  rfl
 ·unfold lh.wF lh.vl
  rw[aP ω,av,Tx N hp hN,ar,Bool.not_not]
def dx(c:ae)(b:aq):Bool:=
 fI c&&(pq b.1 b.2.1&&(ei b.2.2.1&&(decide (dw (gE b.2.2.1) 0)&&(nZ b.2.2.2.1&&(dY b.2.2.2.2.2.1&&(decide (dw b.2.2.2.2.1.length c.1.length)&&
  (decide (∀j,j<b.2.2.1.length→jB b.1 b.2.1 b.2.2.1 j)&&(decide (∀j,j<b.2.2.2.1.length→iX c b.2.1 b.2.2.2.1 j)&&(decide (∀j,j<b.2.2.2.2.2.1.length→pW c b.2.1 b.2.2.2.2.2.1 j)&&eS b.2.2.2.2.1)))))))))
structure g8(b:aq):Prop where
 m:b.1.length≤100000
 a:b.2.1.length≤100000
 r:b.2.2.1.length≤100000
 s:b.2.2.2.1.length≤100000
 p:b.2.2.2.2.1.length≤100000
 o:b.2.2.2.2.2.1.length≤100000
 qr:ec b.2.2.1
 qs:ec b.2.2.2.1
theorem oT{x:Bool}{r:Option Bool}{y:Bool}(h:r=some y):cond (!x) (some false) r=some (x&&y):=by subst h;cases x<;>rfl
theorem RL(N:Nat)(hN:4000000≤N){c:ae}{b:aq}(w:g8 b):lh N c b=some (dx c b):=by
 unfold lh lh.b dx
 rw[RG N ω,ar]
 refine oT ?_
 rw[ZP N w.m w.a ω,ar]
 refine oT ?_
 rw[DL N w.r ω,ar]
 refine oT ?_
 rw[Wa N w.qr w.r ω,ar,Ad,ar]
 have e0:aO (vj (gE b.2.2.1)) 0=decide (dw (gE b.2.2.1) 0):=by rw[jq,oF];exact kd
 rw[e0]
 refine oT ?_
 rw[ZR N w.qs w.s ω,ar]
 refine oT ?_
 rw[Tp N w.o ω,ar]
 refine oT ?_
 rw[jq]
 refine oT ?_
 exact Hl N ω c b w.m w.a w.r (J6 N ω c b w.a w.s (J7 N ω c b w.a w.o w.p))
end VM
end
section
namespace VM
open Go VM.F
theorem tp(N:Nat)(b:aq)(hl:b.2.1.length≤100000)(hN:200000≤N)(id:Int):J8 N b id=some ((e9 b.2.1 id).2||decide (dw id 0)):=by
 unfold J8
 rw[wA N hl hN,ar,jq]
 cases(e9 b.2.1 id).2<;>rfl
theorem P9{k:Int}{f:Bool}{z:Int}{r:Option Bool}:cond (aO k 5) (cond (!f) (some false) (cond (aO k 6) (cond (aO z 0) (some false) r) (cond (aO k 7) (cond (aO z 0) (some false) r) r))) (cond (aO k 6) (cond (aO z 0) (some false) r) (cond (aO k 7) (cond (aO z 0) (some false) r) r))=
  if(dw k 5→f=true)∧(dw k 6∨dw k 7→ ¬dw z 0)then r else some false:=by
 unfold dw
 rw[aN,aN,aN,aN,cond_not]
 by_cases h5:k=5
 ·have h6: ¬(k=6):=ω
  have h7: ¬(k=7):=ω
  cases f<;>simp[h5,h6,h7]
 ·by_cases h6:k=6
  ·by_cases hz:z=0<;>simp[h5,h6,hz]
  ·by_cases h7:k=7
   ·by_cases hz:z=0<;>simp[h5,h6,h7,hz]
   ·simp[h5,h6,h7]
theorem Hm(N:Nat)(hN:200000≤N)(c:ae)(b:aq)(ha:b.2.1.length≤100000)(hl:b.2.2.2.2.2.1.length≤100000)(ho:dY b.2.2.2.2.2.1=true):
  fW.wF N N c b 0=some (decide (∀j,j<b.2.2.2.2.2.1.length→pW c b.2.1 b.2.2.2.2.2.1 j)&&true):=by
 refine ij (F:=λn i=>fW.wF N n c b i) (pW c b.2.1 b.2.2.2.2.2.1) (λn i r hi Q7 hr=> ?_) (λn=> ?_) N ω
 ·unfold fW.wF fW.vl
  unfold dY at ho
  rw[bP,fb]at ho
  have h1:=(ho.1 i hi).1
  unfold qT yH at h1
  have h2:decide (dw (b.2.2.2.2.2.1.getD i e7).2.1 0)=false:=cj (by unfold dw;omega)
  rw[aT ω,ak,aW ω ω,ak,aJ,ax (x:=(i:Int)+1) ω ω,ag,hr]
  simp only[tp N b ha hN,ar,ak]
  rw[h2,sX,Fl]
  rfl
 ·unfold fW.wF fW.vl
  rw[aP ω,av]
theorem Dg(N:Nat)(hN:200000≤N)(c:ae)(b:aq)(hl:b.2.2.2.2.1.length≤100000){e:Bool}(he:fW.wF N N c b 0=some e):
  fW.DN N N c b 0=some (eS b.2.2.2.2.1&&e):=by
 refine ij (F:=λn i=>fW.DN N n c b i) (pV b.2.2.2.2.1) (λn i r hi Q7 hr=> ?_) (λn=> ?_) N ω
 ·unfold fW.DN fW.Dh
  rw[aT ω,ak,aW ω ω,ak,aJ,ax (x:=(i:Int)+1) ω ω,ag,hr,iE,ar,cond_not,fY]
  rfl
 ·unfold fW.DN fW.Dh
  rw[aP ω,av];exact he
theorem Hn(N:Nat)(hN:200000≤N)(c:ae)(b:aq)(ha:b.2.1.length≤100000)(hl:b.2.2.2.1.length≤100000){e:Bool}(he:fW.DN N N c b 0=some e):
  fW.pX N N c b 0=some (decide (∀j,j<b.2.2.2.1.length→iX c b.2.1 b.2.2.2.1 j)&&e):=by
 refine ij (F:=λn i=>fW.pX N n c b i) (iX c b.2.1 b.2.2.2.1) (λn i r hi Q7 hr=> ?_) (λn=> ?_) N ω
 ·unfold fW.pX fW.pt
  rw[aT ω,ak,aW ω ω,ak,aJ,ax (x:=(i:Int)+1) ω ω,ag,hr]
  simp only[tp N b ha hN,ar,ak]
  rw[Fl]
  have Wd:((((e9 b.2.1 (b.2.2.2.1.getD i bl).1).2||decide (dw (b.2.2.2.1.getD i bl).1 0))=true)∧n0 (b.2.2.2.1.getD i bl).2.1 c.1.length)↔iX c b.2.1 b.2.2.2.1 i:=by
   unfold iX
   rw[mR,fb]
   exact⟨λh=>⟨h.1.symm,h.2⟩,λh=>⟨h.1.symm,h.2⟩⟩
  by_cases hP:iX c b.2.1 b.2.2.2.1 i
  ·rw[aj hP,aj (Wd.2 hP)]
  ·rw[ah hP,ah (λh=>hP (Wd.1 h))]
 ·unfold fW.pX fW.pt
  rw[aP ω,av];exact he
theorem Fm(N:Nat)(hN:200000≤N)(c:ae)(b:aq)(hm:b.1.length≤100000)(ha:b.2.1.length≤100000)(hl:b.2.2.1.length≤100000)(hk:ei b.2.2.1=true){e:Bool}
  (he:fW.pX N N c b 0=some e):fW.l6 N N c b 0=some (decide (∀j,j<b.2.2.1.length→jB b.1 b.2.1 b.2.2.1 j)&&e):=by
 refine ij (F:=λn i=>fW.l6 N n c b i) (jB b.1 b.2.1 b.2.2.1) (λn i r hi Q7 hr=> ?_) (λn=> ?_) N ω
 ·unfold fW.l6 fW.ud
  unfold ei at hk
  rw[gg,fb]at hk
  have h1:=(hk i hi).1
  rw[aT ω,ak,aW ω ω,ak,aJ,ax (x:=(i:Int)+1) ω ω,ag,hr]
  simp only[tp N b ha hN,nX N hm hN,ar]
  rw[P9]
  have Wd:((dw (b.2.2.1.getD i bl).1 5→((e9 b.2.1 (b.2.2.1.getD i bl).2.1).2||decide (dw (b.2.2.1.getD i bl).2.1 0))=true)∧(dw (b.2.2.1.getD i bl).1 6∨dw (b.2.2.1.getD i bl).1 7→ ¬dw (fZ b.1 (b.2.2.1.getD i bl).2.1) 0))↔jB b.1 b.2.1 b.2.2.1 i:=by
   unfold jB
   refine and_congr_left λ_=>imp_congr_right λh5=> ?_
   rw[mR,fb]
   refine⟨λh=>h.elim id λh0=> ?_,.inl⟩
   unfold cQ at h1;unfold dw at h5 h0;omega
  by_cases hP:jB b.1 b.2.1 b.2.2.1 i
  ·rw[aj hP,aj (Wd.2 hP)]
  ·rw[ah hP,ah (λh=>hP (Wd.1 h))]
 ·unfold fW.l6 fW.ud
  rw[aP ω,av];exact he
end VM
end
section
namespace VM
open Go VM.F
theorem n6{x:Bool}{r:Option Bool}{y:Bool}(h:x=true→r=some y):cond (!x) (some false) r=some (x&&y):=by
 cases x
 ·rfl
 ·exact h rfl
theorem Ae(N:Nat)(hN:5000000≤N){c:ae}{b:aq}(w:g8 b):fW N c b=some (dx c b):=by
 unfold fW fW.b
 rw[m4 N ω,ar]
 have e0:aO (vj (gE b.2.2.1)) 0=decide (dw (gE b.2.2.1) 0):=by rw[jq,oF];exact kd
 refine(n6 λ_=> ?_).trans (ff some (?_:(fI c&&(pq b.1 b.2.1&&(ei b.2.2.1&&(nZ b.2.2.2.1&&(dY b.2.2.2.2.2.1&&(decide (dw b.2.2.2.2.1.length c.1.length)&&(decide (dw (gE b.2.2.1) 0)&&
  (decide (∀j,j<b.2.2.1.length→jB b.1 b.2.1 b.2.2.1 j)&&(decide (∀j,j<b.2.2.2.1.length→iX c b.2.1 b.2.2.2.1 j)&&(eS b.2.2.2.2.1&&(decide (∀j,j<b.2.2.2.2.2.1.length→pW c b.2.1 b.2.2.2.2.2.1 j)&&true)))))))))))=dx c b))
 ·rw[wD N w.m w.a ω,ar]
  refine n6 λ_=> ?_
  rw[Fh N w.r ω,ar]
  refine n6 λhk=> ?_
  rw[Wb N w.qs w.s ω,ar]
  refine n6 λ_=> ?_
  rw[g5 N w.o ω,ar]
  refine n6 λho=> ?_
  rw[jq]
  refine n6 λ_=> ?_
  rw[Tu N w.qr w.r ω,ar,pT,ar,e0]
  refine n6 λ_=> ?_
  exact Fm N ω c b w.m w.a w.r hk (Hn N ω c b w.a w.s (Dg N ω c b w.p (Hm N ω c b w.a w.o ho)))
 ·unfold dx
  generalize fI c=x1,pq b.1 b.2.1=x2,ei b.2.2.1=x3,nZ b.2.2.2.1=x4,dY b.2.2.2.2.2.1=x5,decide (dw b.2.2.2.2.1.length c.1.length)=x6,decide (dw (gE b.2.2.1) 0)=x7,decide (∀j,j<b.2.2.1.length→jB b.1 b.2.1 b.2.2.1 j)=x8,decide (∀j,j<b.2.2.2.1.length→iX c b.2.1 b.2.2.2.1 j)=x9,eS b.2.2.2.2.1=bu,decide (∀j,j<b.2.2.2.2.2.1.length→pW c b.2.1 b.2.2.2.2.2.1 j)=aZ
  rw[gg]
  cases x1<;>cases x2<;>cases x3<;>cases x4<;>cases x5<;>cases x6<;>cases x7<;>try rfl
  cases x8<;>cases x9<;>cases bu<;>cases aZ<;>rfl
end VM
end
section
namespace VM
open Go VM.F
def m8(a q n:Int)(i:Nat)(p:Int):Prop:=0≤a∧a<n∧q≠0∧pU q∧(0<i→p<a)
instance(a q n:Int)(i:Nat)(p:Int):Decidable (m8 a q n i p):=by unfold m8;infer_instance
def m9(c:ae)(l:aD)(i:Nat):Prop:=m8 (l.getD i cz).1 (l.getD i cz).2.1 c.1.length i (l.getD (i-1) cz).1
instance(c:ae)(l:aD):DecidablePred (m9 c l):=λi=>by unfold m9;infer_instance
def lW(c:ae)(l:aD):Bool:=decide (∀j,j<l.length→m9 c l j)&&fI c
theorem ZS(N:Nat)(hN:200000≤N)(c:ae){l:aD}(hl:l.length≤100000):pv N c l=some (lW c l):=by
 unfold pv pv.b
 refine ij (F:=λn i=>pv.l2 N n l c l (l.length:Int) i) (m9 c l) (λn i r hi hp hr=> ?_) (λn=> ?_) N ω
 ·unfold pv.l2 pv.gD
  rw[aT ω,ak,aW ω ω,ak,aJ,ax (x:=(i:Int)+1) ω ω,ag,hr,sj,ar,cond_not,fY]
  by_cases h0:0<i
  ·have e:W .i64 ((i:Int)-1)=((i-1:Nat):Int):=by rw[ax ω ω];omega
   dsimp only
   rw[aT (x:=0) (y:=(i:Int)) ω,ak,e,aJ,aW ω ω,ak]
   simp only[cO,cF,aN]
   by_cases hP:m9 c l i
   ·rw[aj hP];unfold m9 m8 at hP
    rw[ah ω,ah ω,ah hP.2.2.1,aj hP.2.2.2.1,ah ω]
   ·rw[ah hP];unfold m9 m8 at hP
    have h2:=λh1 h2 h3 h4 h5=>hP ⟨h1,h2,h3,h4,h5⟩
    repeat' split
    all_goals first|rfl|(exfalso;exact h2 ω ω (by assumption) (by assumption) ω)
  ·rw[aP (x:=0) (y:=(i:Int)) ω,av]
   simp only[cO,cF,aN]
   by_cases hP:m9 c l i
   ·rw[aj hP];unfold m9 m8 at hP
    rw[ah ω,ah ω,ah hP.2.2.1,aj hP.2.2.2.1]
   ·rw[ah hP];unfold m9 m8 at hP
    have h2:=λh1 h2 h3 h4 h5=>hP ⟨h1,h2,h3,h4,h5⟩
    repeat' split
    all_goals first|rfl|(exfalso;exact h2 ω ω (by assumption) (by assumption) ω)
 ·unfold pv.l2 pv.gD
  rw[aP ω,av,RG N ω,ar]
end VM
end
