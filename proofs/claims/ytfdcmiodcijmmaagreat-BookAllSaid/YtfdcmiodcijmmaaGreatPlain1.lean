/- A part of the proof of BookAll of layer 18: what the functions compute, in plain words. -/
import Derived.Test.YtfdcmiodcijmmaaGreatPlain0
set_option linter.all false
open List renaming getD→γ
section
namespace VM
open Go VM.F
def bK(a b:Int):Prop:=0≤a∧a≤24∧0≤b∧b<6
instance(a b:Int):Decidable (bK a b):=by unfold bK;infer_instance
theorem Ig(N:Nat)(a b:Int):LL N a b=some (decide (bK a b)):=by
 unfold LL
 simp only[aX]
 simp only[nJ]
 by_cases hP:bK a b
 ·rw[aD hP];unfold bK at hP
  repeat' split
  all_goals first|rfl|omega|(rw[aD ω])
 ·rw[aP hP];unfold bK at hP
  repeat' split
  all_goals first|rfl|omega|(rw[aP ω])
def xd(q:Int):Prop:=q≠ -9223372036854775808
instance(q:Int):Decidable (xd q):=by unfold xd;infer_instance
theorem ny(N:Nat)(q:Int):GK N q=some (decide (xd q)):=by
 unfold GK xd
 rw[fF]
 by_cases h:q= -9223372036854775808<;>simp[h]
def jr(a b c:Int)(i:Nat)(d e:Int):Prop:=bK a b∧c≠0∧xd c∧(0<i→gZ d e a b)
instance(a b c:Int)(i:Nat)(d e:Int):Decidable (jr a b c i d e):=by unfold jr;infer_instance
def jb(l:ak)(i:Nat):Prop:=jr (l.getD i aH).1 (l.getD i aH).2.1 (l.getD i aH).2.2.1 i (l.getD (i-1) aH).1 (l.getD (i-1) aH).2.1
instance(l:ak):DecidablePred (jb l):=λi=>by unfold jb;infer_instance
def cB(l:ak):Bool:=decide (∀j,j<l.length→jb l j)&&true
theorem qD(N:Nat){l:ak}(hl:l.length≤100000)(hN:200000≤N):js N l=some (cB l):=by
 unfold js js.b
 refine e7 (F:=λn i=>js.l2 N n l l (l.length:Int) i) (jb l) (λn i r hi hp hr=> ?_) (λn=> ?_) N ω
 ·unfold js.l2 js.dY
  rw[az ω,aa,aE ω ω,aa,aw,ay (x:=(i:Int)+1) ω ω,ah,Ig,ag,cond_not,dH,ny,ag,cond_not,dH]
  by_cases hK:bK (l.getD i aH).1 (l.getD i aH).2.1
  ·rw[ae hK]
   by_cases h0:0<i
   ·have hq:=hp (i-1) ω
    have e:W .i64 ((i:Int)-1)=((i-1:Nat):Int):=by rw[ay ω ω];omega
    dsimp only
    rw[az (x:=0) ω,aa,e,aw,aE ω ω,aa]
    unfold jb jr at hq
    have hq:=hq.1
    rw[A0 N (by unfold bK at hK;unfold Ap;omega) (by unfold bK at hK;unfold Ap;omega) (by unfold bK at hq;unfold Ap;omega) (by unfold bK at hq;unfold Ap;omega),ag,au,aX]
    by_cases hP:jb l i
    ·rw[ae hP];unfold jb jr gZ at hP;unfold uX
     obtain⟨_,hP1,GJ,hP3⟩:=hP
     rw[ae GJ]
     repeat' split
     all_goals first|rfl|exact hr|omega
    ·rw[af hP];unfold jb jr gZ at hP;unfold uX
     have GJ:=λh1 h2 h3=>hP ⟨hK,h1,h2,h3⟩
     repeat' split
     all_goals first|rfl|exact hr|(exfalso;exact GJ (by assumption) (by assumption) ω)|omega
   ·rw[av (x:=0) ω,an,au]
    by_cases hP:jb l i
    ·rw[ae hP];unfold jb jr at hP
     rw[af hP.2.1,ae hP.2.2.1];exact hr
    ·rw[af hP];unfold jb jr at hP
     have GJ:=λh1 h2=>hP ⟨hK,h1,h2,λh=>absurd h h0⟩
     split
     ·rfl
     ·split
      ·exact(GJ (by assumption) (by assumption)).elim
      ·rfl
  ·rw[af hK,af (λh=>hK (by unfold jb jr at h;exact h.1))]
 ·unfold js.l2 js.dY
  rw[av ω,an]
theorem om(N:Nat){l:ak}(hl:l.length≤100000)(hN:200000≤N):tW N l=some (cB l):=by
 unfold tW tW.b
 refine e7 (F:=λn i=>tW.l2 N n l i) (jb l) (λn i r hi hp hr=> ?_) (λn=> ?_) N ω
 ·unfold tW.l2 tW.dY
  rw[az ω,aa,aE ω ω,aa,aw,ay (x:=(i:Int)+1) ω ω,ah]
  by_cases h0:0<i
  ·have e:W .i64 ((i:Int)-1)=((i-1:Nat):Int):=by rw[ay ω ω];omega
   dsimp only
   rw[az (x:=0) (y:=(i:Int)) ω,e,aw,aE (i:=((i-1:Nat):Int)) ω ω]
   simp only[bb,aX,au,aa]
   by_cases hP:jb l i
   ·rw[ae hP];unfold jb jr gZ xd bK at hP
    repeat' split
    all_goals first|rfl|exact hr|omega
   ·rw[af hP];unfold jb jr gZ xd bK at hP
    repeat' split
    all_goals first|rfl|exact hr|omega|(exfalso;exact hP ω)
  ·rw[av (x:=0) (y:=(i:Int)) ω]
   simp only[bb,aX,au,aa,an]
   by_cases hP:jb l i
   ·rw[ae hP];unfold jb jr gZ xd bK at hP
    repeat' split
    all_goals first|rfl|exact hr|omega
   ·rw[af hP];unfold jb jr gZ xd bK at hP
    repeat' split
    all_goals first|rfl|exact hr|omega|(exfalso;exact hP ω)
 ·unfold tW.l2 tW.dY
  rw[av ω,an]
theorem ix(a b:Int)(y:Bool):cond (cP a b) (some y) (some false)=some (decide (a≤b)&&y):=by
 rw[aX];by_cases h:a≤b<;>simp[h]
theorem El(a b:Int)(y:Bool):cond (bh a b) (some y) (some false)=some (decide (a<b)&&y):=by
 rw[bb];by_cases h:a<b<;>simp[h]
theorem Em(a b:Int)(y:Bool):cond (bf a b) (some y) (some false)=some (decide (a=b)&&y):=by
 rw[au];by_cases h:a=b<;>simp[h]
theorem A2(a b:Int)(y z:Bool):cond (bf a b) (some y) (some z)=some ((decide (a=b)&&y)||(!decide (a=b)&&z)):=by
 rw[au];by_cases h:a=b<;>simp[h]
def uY(a b c d e f:Int):Prop:=(1≤a∧a≤1099511627776)∧(1≤b∧b≤24)∧(0≤c∧c<6)∧(d=1∨d=2)∧(1≤e∧e≤1000000000)∧(1≤f∧f≤1000000000000)
instance(a b c d e f:Int):Decidable (uY a b c d e f):=by unfold uY;infer_instance
def qE(o:sw):Prop:=uY o.1 o.2.1 o.2.2.1 o.2.2.2.1 o.2.2.2.2.1 o.2.2.2.2.2.1
instance(o:sw):Decidable (qE o):=by unfold qE;infer_instance
theorem SX(N:Nat)(o:sw):Oq N o=some (decide (qE o)):=by
 unfold Oq
 rw[jl o.2.2.2.2.2.1]
 rw[ix,ix,ix,Em,A2,El,ix,ix,ix,ix,ix]
 congr 1
 rw[pT,lI]
 unfold qE uY
 simp only[ba,nk,pP,xH,C9]
 omega
theorem uZ(N:Nat)(p:Int):Aq N p=some (decide (1≤p∧p≤1000000000000)):=by
 unfold Aq
 rw[jl p,ix];congr 1
 rw[pT];simp only[ba,xH]
theorem u2(N:Nat)(p:Int):y3 N p=some (decide (1≤p∧p≤1000000000000)):=uZ N p
theorem Ot(N:Nat)(o:sw):Ou N o=some (decide (qE o)):=by
 unfold Ou
 rw[u2,ag]
 repeat (first|rw[ix]|rw[El]|rw[Em]|rw[A2])
 congr 1
 rw[pT,lI]
 unfold qE uY
 simp only[ba,nk,pP,xH,C9]
 omega
def wM(i:Nat)(a b:Int):Prop:=0<i→a<b
instance(i:Nat)(a b:Int):Decidable (wM i a b):=by unfold wM;infer_instance
def nA(l:bx)(i:Nat):Prop:=qE (l.getD i fZ)∧wM i (l.getD (i-1) fZ).1 (l.getD i fZ).1
instance(l:bx):DecidablePred (nA l):=λi=>by unfold nA;infer_instance
def dk(l:bx):Bool:=decide (∀j,j<l.length→nA l j)&&decide (l.length≤32)
theorem u5(N:Nat){l:bx}(hl:l.length≤100000)(hN:200000≤N):jU N l=some (dk l):=by
 unfold jU jU.b
 refine e7 (F:=λn i=>jU.l2 N n l l (l.length:Int) i) (nA l) (λn i r hi hp hr=> ?_) (λn=> ?_) N ω
 ·unfold jU.l2 jU.dY
  rw[az ω,aa,aE ω ω,aa,aw,ay (x:=(i:Int)+1) ω ω,ah,SX,ag,cond_not,dH]
  by_cases hK:qE (l.getD i fZ)
  ·rw[ae hK]
   by_cases h0:0<i
   ·have e:W .i64 ((i:Int)-1)=((i-1:Nat):Int):=by rw[ay ω ω];omega
    dsimp only
    rw[az (x:=0) ω,aa,e,aw,aE ω ω,aa,aX]
    by_cases hP:nA l i
    ·rw[ae hP,af (by have h2:=hP.2;unfold wM at h2;omega)];exact hr
    ·rw[af hP,ae]
     have h2: ¬wM i (l.getD (i-1) fZ).1 (l.getD i fZ).1:=λh=>hP ⟨hK,h⟩
     unfold wM at h2
     omega
   ·rw[av (x:=0) ω,an,ae ⟨hK,λh=>absurd h h0⟩];exact hr
  ·rw[af hK,af (λh=>hK h.1)]
 ·unfold jU.l2 jU.dY
  rw[av ω,an,jl]
  congr 1;rw[lK];omega
theorem y4(N:Nat){l:bx}(hl:l.length≤100000)(hN:200000≤N):kI N l=some (dk l):=by
 unfold kI kI.b
 by_cases h32:32<l.length
 ·rw[az ω,aa];unfold dk
  rw[aP (p:=l.length≤32) ω,Bool.and_false]
 rw[av ω,an]
 have:=e7 (F:=λn i=>kI.l4 N n l i) (e:=true) (nA l) (λn i r hi hp hr=> ?_) (λn=> ?_) N (show l.length<N by omega)
 ·refine Eq.trans this ?_
  unfold dk
  rw[aD (p:=l.length≤32) ω]
 ·unfold kI.l4 kI.de
  rw[az ω,aa,aE ω ω,aa,aw,ay (x:=(i:Int)+1) ω ω,ah,Ot,ag,cond_not,dH]
  by_cases hK:qE (l.getD i fZ)
  ·rw[ae hK]
   by_cases h0:0<i
   ·have e:W .i64 ((i:Int)-1)=((i-1:Nat):Int):=by rw[ay ω ω];omega
    dsimp only
    rw[az (x:=0) ω,aa,aa,e,aw,aE ω ω,aa,aX]
    by_cases hP:nA l i
    ·rw[ae hP,af (by have h2:=hP.2;unfold wM at h2;omega)];exact hr
    ·rw[af hP,ae]
     have h2: ¬wM i (l.getD (i-1) fZ).1 (l.getD i fZ).1:=λh=>hP ⟨hK,h⟩
     unfold wM at h2
     omega
   ·rw[av (x:=0) ω,an,ae ⟨hK,λh=>absurd h h0⟩];exact hr
  ·rw[af hK,af (λh=>hK h.1)]
 ·unfold kI.l4 kI.de
  rw[av ω,an]
def gm(id:Int):aW→Int
 |[]=>0
 |x::t=>if x.1=id then x.2.1 else gm id t
def tX(id:Int):bl→jH×Bool
 |[]=>(bQ,false)
 |x::t=>if x.1=id then(x,true)else tX id t
theorem oZ(id:Int)(x:GL)(t:aW):gm id (x::t)=if x.1=id then x.2.1 else gm id t:=rfl
theorem sx(id:Int)(x:jH)(t:bl):tX id (x::t)=if x.1=id then(x,true)else tX id t:=rfl
theorem En(N:Nat){m:aW}(hl:m.length≤100000)(hN:200000≤N)(id:Int):jt.l4 N N id m (m.length:Int) 0=some (gm id m):=by
 refine yW m dC (λn i=>jt.l4 N n id m (m.length:Int) i) (λl=>some (gm id l)) (λn i hi hr=> ?_) (λn=> ?_) N ω
 ·unfold jt.l4 jt.de
  rw[az ω,aa,aE ω ω,aa,aw,ay (x:=(i:Int)+1) ω ω,ah,hr,au]
  rw[oZ]
  split<;>rfl
 ·unfold jt.l4 jt.de
  rw[av ω,an];rfl
theorem y5(N:Nat){m:aW}(hl:m.length≤100000)(hN:200000≤N)(id:Int):kJ N m id=some (gm id m):=by
 unfold kJ kJ.b
 refine yW m dC (λn i=>kJ.l2 N n m id i) (λl=>some (gm id l)) (λn i hi hr=> ?_) (λn=> ?_) N ω
 ·unfold kJ.l2 kJ.dY
  rw[az ω,aa,aE ω ω,aa,aa,aw,ay (x:=(i:Int)+1) ω ω,ah,hr,au]
  rw[oZ]
  split<;>rfl
 ·unfold kJ.l2 kJ.dY
  rw[av ω,an];rfl
def et(m:aW)(id:Int):Int:=if eh m then gm id m else 0
theorem u6(N:Nat){m:aW}(hl:m.length≤100000)(hN:200000≤N)(id:Int):jt N m id=some (et m id):=by
 unfold jt jt.b et
 rw[yX N hl hN,ag,cond_not,En N hl hN]
 cases eh m<;>rfl
theorem y6(N:Nat){m:aW}(hl:m.length≤100000)(hN:200000≤N)(id:Int):Eo N m id=some (et m id):=by
 unfold Eo et
 rw[vX N hl hN,ag,cond_not,y5 N hl hN]
 cases eh m<;>rfl
theorem Jx(N:Nat){m:bl}(hl:m.length≤100000)(hN:200000≤N)(id:Int):kK.l4 N N id bQ m (m.length:Int) 0=some (tX id m):=by
 refine yW m bQ (λn i=>kK.l4 N n id bQ m (m.length:Int) i) (λl=>some (tX id l)) (λn i hi hr=> ?_) (λn=> ?_) N ω
 ·unfold kK.l4 kK.de
  rw[az ω,aa,aE ω ω,aa,aw,ay (x:=(i:Int)+1) ω ω,ah,hr,au]
  rw[sx]
  split<;>rfl
 ·unfold kK.l4 kK.de
  rw[av ω,an];rfl
theorem LM(N:Nat){m:bl}(hl:m.length≤100000)(hN:200000≤N)(id:Int):ld N m id=some (tX id m):=by
 unfold ld ld.b
 refine yW m bQ (λn i=>ld.l2 N n m id bQ i) (λl=>some (tX id l)) (λn i hi hr=> ?_) (λn=> ?_) N ω
 ·unfold ld.l2 ld.dY
  rw[az ω,aa,aE ω ω,aa,aa,aw,ay (x:=(i:Int)+1) ω ω,ah,hr,au]
  rw[sx]
  split<;>rfl
 ·unfold ld.l2 ld.dY
  rw[av ω,an];rfl
def eR(a b:Int):Prop:=a=b
instance(a b:Int):Decidable (eR a b):=by unfold eR;infer_instance
def rV(l:bl)(k:Nat)(m:Int):Prop:=eR (l.getD k bQ).2.2.1 1∧eR (l.getD k bQ).2.1 m
instance(l:bl)(k:Nat)(m:Int):Decidable (rV l k m):=by unfold rV;infer_instance
def iF(l:bl)(i:Nat)(m:Int):Bool:=(List.range i).any λk=>decide (rV l k m)
theorem Ep{l:bl}{i:Nat}{m:Int}:iF l i m=true↔ ∃k,k<i∧rV l k m:=by
 unfold iF
 rw[xI]
 simp only[s6,lI]
theorem o3(l:bl)(i:Nat)(m:Int):iF l (i+1) m=(iF l i m||decide (rV l i m)):=by
 unfold iF
 rw[xJ,List.any_append];simp
def ju(a b c d:Int):Prop:=(1≤a∧a≤24)∧(1≤b∧b≤12)∧(c=1∨c=2)∧(0≤d∧d≤1000000000000)
instance(a b c d:Int):Decidable (ju a b c d):=by unfold ju;infer_instance
def gF(l:bl)(i:Nat):Prop:= ¬(eR (l.getD i bQ).2.2.1 1∧iF l i (l.getD i bQ).2.1=true)
instance(l:bl)(i:Nat):Decidable (gF l i):=by unfold gF;infer_instance
def tY(l:bl)(i:Nat):Prop:=ju (l.getD i bQ).1 (l.getD i bQ).2.1 (l.getD i bQ).2.2.1 (l.getD i bQ).2.2.2.1∧wM i (l.getD (i-1) bQ).1 (l.getD i bQ).1∧gF l i
instance(l:bl):DecidablePred (tY l):=λi=>by unfold tY;infer_instance
def iP(l:bl):Bool:=decide (∀j,j<l.length→tY l j)&&true
def dB(l:bl)(i:Nat):List Bool:=(List.range 13).map λ(m:Nat)=>iF l i (m:Int)
theorem Jy{l:bl}{i:Nat}{b:Int}(h0:0≤b)(h1:b<13):(dB l i).getD b.toNat false=iF l i b:=by
 unfold dB
 rw[aR,nX,List.getElem?_range ω]
 show iF l i ((b.toNat:Nat):Int)=_
 rw[xB h0]
theorem Er{l:bl}{i:Nat}(h: ¬eR (l.getD i bQ).2.2.1 1):dB l (i+1)=dB l i:=by
 unfold dB
 refine nh λm _=> ?_
 rw[o3,aP (λh'=>h h'.1),n3]
theorem GM{l:bl}{i:Nat}(h:eR (l.getD i bQ).2.2.1 1)(h0:(0:Int)≤(l.getD i bQ).2.1):(dB l i).set ((l.getD i bQ).2.1:Int).toNat true=dB l (i+1):=by
 refine List.ext_getElem (by unfold dB;simp) λk h1 h2=> ?_
 unfold dB at*
 rw[List.getElem_set]
 simp only[List.getElem_map,xC]
 rw[o3]
 by_cases hk:((l.getD i bQ).2.1:Int).toNat=k
 ·rw[ae hk,aD (show rV l i (k:Int)from⟨h,by unfold eR;omega⟩),Bool.or_true]
 ·rw[af hk,aP (λh':rV l i (k:Int)=>hk (by have:=h'.2;unfold eR at this;omega)),n3]
theorem B8(N:Nat){l:bl}(hl:l.length≤100000)(hN:200000≤N):iQ N l=some (iP l):=by
 unfold iQ iQ.b
 have h0:(List.replicate 13 false:List Bool)=dB l 0:=by unfold dB iF;rfl
 rw[h0]
 have:=e7 (F:=λn i=>iQ.l3 N n l (dB l i.toNat) l (l.length:Int) i) (e:=true) (tY l) (λn i r hi hp hr=> ?_) (λn=> ?_) N (show l.length<N by omega)
 ·exact this
 ·simp only[aw]at hr ⊢
  unfold iQ.l3 iQ.zW
  rw[az ω,aa,aE ω ω,aa]
  simp only[aw]
  rw[ay (x:=(i:Int)+1) ω ω,ah]
  by_cases hF:ju (l.getD i bQ).1 (l.getD i bQ).2.1 (l.getD i bQ).2.2.1 (l.getD i bQ).2.2.2.1
  ·have Ih:=hF
   unfold ju at Ih
   have hT:cond (bf (l.getD i bQ).2.2.1 1) (cond (bJ (l.getD i bQ).2.1 13) (cond (γ (dB l i) (l.getD i bQ).2.1.toNat false) (some false) (cond (bJ (l.getD i bQ).2.1 13) (iQ.l3 N n l (List.set (dB l i) (l.getD i bQ).2.1.toNat true) l (l.length:Int) ((i+1:Nat):Int)) none)) none) (iQ.l3 N n l (dB l i) l (l.length:Int) ((i+1:Nat):Int))=if gF l i then r else some false:=by
    rw[au]
    by_cases hk:eR (l.getD i bQ).2.2.1 1
    ·have uH:=hk
     unfold eR at uH
     rw[ae uH,aE ω ω,aa,aa,Jy ω ω,GM hk ω,hr]
     by_cases ho:iF l i (l.getD i bQ).2.1=true
     ·have mD: ¬gF l i:=λh=>h ⟨hk,ho⟩
      rw[af mD,ho];rfl
     ·have mD:gF l i:=λh=>ho h.2
      rw[ae mD,Bool.eq_false_iff.2 ho];rfl
    ·have uH:=hk
     unfold eR at uH
     rw[af uH,ae (show gF l i from λh=>hk h.1),←Er hk,hr]
   have hP:tY l i↔wM i (l.getD (i-1) bQ).1 (l.getD i bQ).1∧gF l i:=⟨λh=>h.2,λh=>⟨hF,h⟩⟩
   have hD:(if tY l i then r else some false)=if wM i (l.getD (i-1) bQ).1 (l.getD i bQ).1 then(if gF l i then r else some false)else some false:=by
    by_cases h1:wM i (l.getD (i-1) bQ).1 (l.getD i bQ).1<;>by_cases h2:gF l i<;>simp[hP,h1,h2]
   rw[hD]
   rw[hT]
   rw[av ω,an,av ω,an,av ω,an,av ω,an,av (x:=(l.getD i bQ).2.2.2.1) ω,av (x:=1000000000000) ω]
   simp only[an]
   have hm: ∀{α:Type} (x:α) (y:α),cond (!bf (l.getD i bQ).2.2.1 1) (cond (!bf (l.getD i bQ).2.2.1 2) y x) x=x:=by
    intro α x y
    rcases Ih.2.2.1 with h|h
    ·rw[dS h];rfl
    ·rw[dS (y:=2) h];cases bf (l.getD i bQ).2.2.1 1<;>rfl
   rw[hm]
   by_cases h0:0<i
   ·have e:W .i64 ((i:Int)-1)=((i-1:Nat):Int):=by rw[ay ω ω];omega
    rw[az (x:=0) ω,aa,e,aw,aE ω ω,aa,aX]
    by_cases h1:wM i (l.getD (i-1) bQ).1 (l.getD i bQ).1
    ·rw[ae h1,af (by unfold wM at h1;omega)]
    ·rw[af h1,ae (by unfold wM at h1;omega)]
   ·rw[av (x:=0) ω,an,ae (show wM i (l.getD (i-1) bQ).1 (l.getD i bQ).1 from λh=>absurd h h0)]
  ·rw[af (λh=>hF h.1)]
   unfold ju at hF
   generalize cond (bf (l.getD i bQ).2.2.1 1) (cond (bJ (l.getD i bQ).2.1 13) (cond (γ (dB l i) (l.getD i bQ).2.1.toNat false) (some false) (cond (bJ (l.getD i bQ).2.1 13) (iQ.l3 N n l (List.set (dB l i) (l.getD i bQ).2.1.toNat true) l (l.length:Int) ((i+1:Nat):Int)) none)) none) (iQ.l3 N n l (dB l i) l (l.length:Int) ((i+1:Nat):Int))=t
   generalize cond (bh 0 (i:Int)) _ _=u
   simp only[cond_not,bb,au]
   repeat' split
   all_goals first|rfl|omega
 ·unfold iQ.l3 iQ.zW
  rw[av ω,an]
theorem u7(N:Nat)(K:bl→Int→Option Bool){l:bl}(hl:l.length≤100000){i:Nat}(hi:i<l.length): ∀(m n k:Nat),i-k≤m→m<n→k≤i→(eR (l.getD i bQ).2.2.1 1→iF l k (l.getD i bQ).2.1=false)→
  db.l8 N K n l (i:Int) (l.getD i bQ) (k:Int)=if gF l i then K l ((i+1:Nat):Int)else some false
 |m,0,k,_,hn,_,_=>ω
 |m,n+1,k,hm,hn,hk,h=>by
  unfold db.l8 db.l8b
  by_cases zV:k<i
  ·rw[az ω,aa,aE ω ω,aa,aa,aw,ay (x:=(k:Int)+1) ω ω,ah,au,au,au]
   by_cases h1:eR (l.getD i bQ).2.2.1 1
   ·have m4:=h1
    unfold eR at m4
    rw[ae m4]
    by_cases h2:rV l k (l.getD i bQ).2.1
    ·have rU:=h2
     unfold rV eR at rU
     have mD: ¬gF l i:=λh3=>h3 ⟨h1,Ep.2 ⟨k,zV,h2⟩⟩
     rw[ae rU.1,ae rU.2,af mD]
    ·have Ek:=u7 N K hl hi (m-1) n (k+1) ω ω ω (λ_=>by rw[o3,h h1,aP h2];rfl)
     split
     ·split
      ·rename_i h3 h4
       exact absurd (show rV l k (l.getD i bQ).2.1 from⟨h3,h4⟩) h2
      ·exact Ek
     ·exact Ek
   ·have m4:=h1
    unfold eR at m4
    rw[af m4]
    exact u7 N K hl hi (m-1) n (k+1) ω ω ω (λh=>absurd h h1)
  ·have:k=i:=ω
   subst this
   have mD:gF l k:=λh3=>by rw[h h3.1]at h3;exact nomatch h3.2
   rw[av ω,an,ae mD,ay (x:=(k:Int)+1) ω ω];rfl
set_option maxHeartbeats 2000000 in
theorem y7(N:Nat){l:bl}(hl:l.length≤100000)(hN:200000≤N):db N l=some (iP l):=by
 unfold db db.b
 refine e7 (F:=λn i=>db.l2 N n l i) (tY l) (λn i r hi hp hr=> ?_) (λn=> ?_) N ω
 ·unfold db.l2 db.dY
  have hT:db.j7 N (db.l2 N n) l (i:Int) (l.getD i bQ)=if gF l i then r else some false:=by
   unfold db.j7 db.SV
   have:=u7 N (db.l2 N n) hl hi i N 0 ω ω ω (λ_=>rfl)
   rw[hr]at this
   exact this
  rw[az ω,aa,aE ω ω,aa]
  simp only[aw]
  rw[hT]
  have hD:(if tY l i then r else some false)=if ju (l.getD i bQ).1 (l.getD i bQ).2.1 (l.getD i bQ).2.2.1 (l.getD i bQ).2.2.2.1∧wM i (l.getD (i-1) bQ).1 (l.getD i bQ).1 then(if gF l i then r else some false)else some false:=by
   unfold tY
   by_cases h1:wM i (l.getD (i-1) bQ).1 (l.getD i bQ).1<;>by_cases h2:gF l i<;>by_cases h3:ju (l.getD i bQ).1 (l.getD i bQ).2.1 (l.getD i bQ).2.2.1 (l.getD i bQ).2.2.2.1<;>simp[h1,h2,h3]
  rw[hD]
  generalize (if gF l i then r else some false)=t
  by_cases h0:0<i
  ·have e:W .i64 ((i:Int)-1)=((i-1:Nat):Int):=by rw[ay ω ω];omega
   rw[az (x:=0) (y:=(i:Int)) ω,e]
   simp only[aa,aw]
   rw[aE (i:=((i-1:Nat):Int)) ω ω]
   simp only[cond_not,bb,aX,au,aa]
   by_cases hP:ju (l.getD i bQ).1 (l.getD i bQ).2.1 (l.getD i bQ).2.2.1 (l.getD i bQ).2.2.2.1∧wM i (l.getD (i-1) bQ).1 (l.getD i bQ).1
   ·rw[ae hP];unfold ju wM at hP
    repeat' split
    all_goals first|rfl|omega
   ·rw[af hP];unfold ju wM at hP
    repeat' split
    all_goals first|rfl|omega
  ·rw[av (x:=0) (y:=(i:Int)) ω]
   simp only[cond_not,bb,aX,au,aa,an]
   by_cases hP:ju (l.getD i bQ).1 (l.getD i bQ).2.1 (l.getD i bQ).2.2.1 (l.getD i bQ).2.2.2.1∧wM i (l.getD (i-1) bQ).1 (l.getD i bQ).1
   ·rw[ae hP];unfold ju wM at hP
    repeat' split
    all_goals first|rfl|omega
   ·rw[af hP];unfold ju wM at hP
    repeat' split
    all_goals first|rfl|omega
 ·unfold db.l2 db.dY
  rw[av ω,an]
end VM
end
section
namespace VM
open Go VM.F
def dU(a:bl)(id:Int):jH×Bool:=if iP a then tX id a else(bQ,false)
theorem Ov(N:Nat){a:bl}(hl:a.length≤100000)(hN:200000≤N)(id:Int):kK N a id=some (dU a id):=by
 unfold kK kK.b dU
 rw[B8 N hl hN,ag,cond_not,Jx N hl hN]
 cases iP a<;>rfl
theorem Es(N:Nat){a:bl}(hl:a.length≤100000)(hN:200000≤N)(id:Int):LN N a id=some (dU a id):=by
 unfold LN dU
 rw[y7 N hl hN,ag,cond_not,LM N hl hN]
 cases iP a<;>rfl
def gU(m:aW)(a:bl)(i:Nat):Prop:= ¬eR (gm (a.getD i bQ).2.1 m) 0
instance(m:aW)(a:bl):DecidablePred (gU m a):=λi=>by unfold gU;infer_instance
def qF(m:aW)(a:bl):Bool:=eh m&&(iP a&&(decide (∀j,j<a.length→gU m a j)&&true))
theorem Ow(N:Nat){m:aW}{a:bl}(hm:m.length≤100000)(hl:a.length≤100000)(hN:200000≤N):lf N m a=some (qF m a):=by
 unfold lf lf.b qF
 rw[yX N hm hN,ag,cond_not,B8 N hl hN,ag,cond_not]
 cases hM:eh m
 ·rfl
 cases iP a
 ·rfl
 rw[jh,jh,aa,aa]
 refine e7 (F:=λn i=>lf.l4 N n m a (a.length:Int) i) (gU m a) (λn i r hi hp hr=> ?_) (λn=> ?_) N ω
 ·unfold lf.l4 lf.de
  rw[az ω,aa,aE ω ω,aa,aw,ay (x:=(i:Int)+1) ω ω,ah,u6 N hm hN,ag,au]
  unfold et
  rw[hM,ae rfl]
  by_cases hP:gU m a i
  ·rw[ae hP,af (show ¬((gm (a.getD i bQ).2.1 m:Int)=0)from λh=>hP h)];exact hr
  ·rw[af hP,ae (show(gm (a.getD i bQ).2.1 m:Int)=0 by unfold gU at hP;exact Decidable.not_not.1 hP)]
 ·unfold lf.l4 lf.de
  rw[av ω,an]
theorem LO(N:Nat){m:aW}{a:bl}(hm:m.length≤100000)(hl:a.length≤100000)(hN:200000≤N):lh N m a=some (qF m a):=by
 unfold lh lh.b qF
 rw[vX N hm hN,ag,cond_not,y7 N hl hN,ag,cond_not]
 cases hM:eh m
 ·rfl
 cases iP a
 ·rfl
 rw[jh,jh,aa,aa]
 refine e7 (F:=λn i=>lh.l4 N n m a i) (gU m a) (λn i r hi hp hr=> ?_) (λn=> ?_) N ω
 ·unfold lh.l4 lh.de
  rw[az ω,aa,aE ω ω,aa,aw,ay (x:=(i:Int)+1) ω ω,ah,y5 N hm hN,ag,au]
  by_cases hP:gU m a i
  ·rw[ae hP,af (show ¬((gm (a.getD i bQ).2.1 m:Int)=0)from λh=>hP h)];exact hr
  ·rw[af hP,ae (show(gm (a.getD i bQ).2.1 m:Int)=0 by unfold gU at hP;exact Decidable.not_not.1 hP)]
 ·unfold lh.l4 lh.de
  rw[av ω,an]
theorem LP(a b:aS):k5 (.pair (.int .i64) (.pair (.int .u64) .unit)) a b=(bf a.1 b.1&&(bf a.2.1 b.2.1&&true)):=rfl
theorem Ii(N:Nat){u v:Int}:Jz N (bp u) (bp v)=some (uz (u-v)):=by
 unfold Jz
 rw[LP]
 unfold bp
 dsimp only
 unfold uz
 rw[bb,au,bb,eB,fF,fF]
 have hu:u=u/18446744073709551616*18446744073709551616+u%18446744073709551616:=ω
 have hv:v=v/18446744073709551616*18446744073709551616+v%18446744073709551616:=ω
 by_cases h1:u/18446744073709551616<v/18446744073709551616
 ·rw[ae h1];congr 1;split<;>(try split)<;>omega
 ·rw[af h1]
  by_cases h2:u/18446744073709551616=v/18446744073709551616
  ·rw[ae h2,aD h2,jh]
   by_cases h3:u%18446744073709551616<v%18446744073709551616
   ·rw[ae h3];congr 1;split<;>(try split)<;>omega
   ·rw[af h3]
    by_cases h4:u%18446744073709551616=v%18446744073709551616
    ·rw[aD h4,aa];congr 1;split<;>(try split)<;>omega
    ·rw[aP h4,an];congr 1;split<;>(try split)<;>omega
  ·rw[af h2,aP h2,s9,an];congr 1;split<;>(try split)<;>omega
theorem GN:bp 0=dC:=rfl
theorem tZ(N:Nat){u:Int}:GO N (bp u)=some (uz u):=by
 unfold GO
 rw[←GN,Ii,ag,Int.sub_zero]
def da(r:dJ):Int:=r.2.2.1
def bk(x:Int):Prop:= -9223372036854775808≤x∧x<9223372036854775808
def c3(l:ak):Prop:= ∀x∈l,bk (da x)
theorem o4{l:ak}(h:c3 l)(i:Nat):bk (da (l.getD i aH)):=by
 by_cases hi:i<l.length
 ·rw[aR,bc hi];exact h _ (c6 hi)
 ·rw[aR,fC ω];exact⟨δ,δ⟩
theorem Et{ws:List Int}(h: ∀x∈ws,bk x): -(9223372036854775808*(ws.length:Int))≤ws.sum∧ws.sum≤9223372036854775808*(ws.length:Int):=Oh ws h
theorem A3{ws:List Int}(h: ∀x∈ws,bk x)(hl:ws.length≤1000000):bO ws.sum:=by
 have:=Et h
 unfold bO;omega
theorem JA{ws:List Int}(h: ∀x∈ws,bk x): ∀x∈ws,bO x:=λx hx=>by
 have:=h x hx
 unfold bk at this;unfold bO;omega
theorem B9(N:Nat){ws:List Int}(h: ∀x∈ws,bk x)(hl:ws.length≤1000000)(hN:1000000<N):je N (ws.map bp)=some (bp ws.sum,true):=by
 rw[xb N (JA h) hl hN]
 unfold Ej
 rw[ae (A3 h hl)]
def fJ(l:ak):Int:=if dK l then(l.map da).sum else 0
theorem GP(N:Nat){l:ak}(hq:c3 l)(hl:l.length≤100000)(hN:2000000≤N):kL.l5 N N dC [] l (l.length:Int) 0=some (bp (l.map da).sum):=by
 have:=hZ l aH (λn i ws=>kL.l5 N n dC (ws.map bp) l (l.length:Int) i) (λt ws=>some (bp (ws++t.map da).sum)) (λi (ws:List Int)=>ws.length=i∧ ∀x∈ws,bk x)
  (λn i ws hi hI hr=> ?_) (λn ws hI=> ?_) l.length N 0 [] ω ω ω ⟨rfl,λx hx=>nomatch hx⟩
 ·simpa using this
 ·unfold kL.l5 kL.fX
  have jV:=o4 hq i
  have fp:=jV
  unfold bk da at fp
  rw[az ω,aa,aE ω ω,aa,aw,oV N fp.1 fp.2,ag,bo (by rw[bI,aQ];omega),aa,ay ω ω,ah]
  have:=hr (ws++[da (l.getD i aH)]) ⟨by rw[aC,hI.1];rfl,λx hx=>by
   rcases br.1 hx with hx|hx
   ·exact hI.2 x hx
   ·rw[dw.1 hx];exact jV⟩
  rw[cH]at this
  refine this.trans ?_
  rw[bA,aT];rfl
 ·unfold kL.l5 kL.fX
  rw[av ω,an,B9 N hI.2 ω ω,ag,eL,bF]
theorem LQ(N:Nat){l:ak}(hq:c3 l)(hl:l.length≤100000)(hN:2000000≤N):kL N l=some (bp (fJ l)):=by
 unfold kL kL.b fJ
 rw[B7 N hl ω,ag,cond_not,GP N hq hl hN]
 cases dK l<;>rfl
theorem Eu(N:Nat){l:ak}(hq:c3 l)(hl:l.length≤100000)(hN:4000000≤N):kM.l5 N N l (bU 0) (bU 0) 0=some (bU (l.map da).sum):=by
 have:=hZ l aH (λn i ws=>kM.l5 N n l (bU 0) (bU ws.sum) i) (λt ws=>some (bU (ws++t.map da).sum)) (λi (ws:List Int)=>ws.length=i∧ ∀x∈ws,bk x)
  (λn i ws hi hI hr=> ?_) (λn ws hI=> ?_) l.length N 0 [] ω ω ω ⟨rfl,λx hx=>nomatch hx⟩
 ·simpa using this
 ·unfold kM.l5 kM.fX
  have jV:=o4 hq i
  have fp:=jV
  unfold bk da at fp
  have hb:=Et hI.2
  rw[hI.1]at hb
  rw[az ω,aa,aE ω ω,aa,aw,er N ω fp.1 fp.2,ag,kk N ω ((xa (n:=i) ω hb.1 hb.2).mono ω) ((Fit.i64 fp.1 fp.2).mono ω),ag,ay ω ω,ah]
  have:=hr (ws++[da (l.getD i aH)]) ⟨by rw[aC,hI.1];rfl,λx hx=>by
   rcases br.1 hx with hx|hx
   ·exact hI.2 x hx
   ·rw[dw.1 hx];exact jV⟩
  rw[n0,eA,jj,iD]at this
  refine this.trans ?_
  rw[bA,aT];rfl
 ·unfold kM.l5 kM.fX
  rw[av ω,an,eL,bF]
theorem JB(N:Nat){l:ak}(hq:c3 l)(hl:l.length≤100000)(hN:4000000≤N):kM N l=some (bU (fJ l)):=by
 unfold kM kM.b fJ
 rw[yZ N hl ω,ag,cond_not]
 have:=Eu N hq hl hN
 rw[fl]at this
 rw[this]
 cases dK l
 ·rw[an];exact cN some fl.symm
 ·rfl
def dm(inst:Int):ak→List Int
 |[]=>[]
 |x::t=>if x.2.1=inst then da x::dm inst t else dm inst t
theorem fB(inst:Int)(x:dJ)(t:ak):dm inst (x::t)=if x.2.1=inst then da x::dm inst t else dm inst t:=rfl
theorem JC(N:Nat){l:ak}(hq:c3 l)(hl:l.length≤100000)(hN:2000000≤N)(inst:Int):kN.l5 N N inst dC [] l (l.length:Int) 0=some (bp (dm inst l).sum):=by
 have:=hZ l aH (λn i ws=>kN.l5 N n inst dC (ws.map bp) l (l.length:Int) i) (λt ws=>some (bp (ws++dm inst t).sum)) (λi (ws:List Int)=>ws.length≤i∧ ∀x∈ws,bk x)
  (λn i ws hi hI hr=> ?_) (λn ws hI=> ?_) l.length N 0 [] ω ω ω ⟨aB _,λx hx=>nomatch hx⟩
 ·simpa using this
 ·unfold kN.l5 kN.fX
  have jV:=o4 hq i
  have fp:=jV
  unfold bk da at fp
  rw[az ω,aa,aE ω ω,aa,aw,oV N fp.1 fp.2,ag,bo (by rw[bI,aQ];omega),aa,ay ω ω,ah,au,fB]
  split
  ·have:=hr (ws++[da (l.getD i aH)]) ⟨by rw[aC,aQ];omega,λx hx=>by
    rcases br.1 hx with hx|hx
    ·exact hI.2 x hx
    ·rw[dw.1 hx];exact jV⟩
   rw[cH]at this
   refine this.trans ?_
   rw[aT];rfl
  ·exact hr ws ⟨ω,hI.2⟩
 ·unfold kN.l5 kN.fX
  rw[av ω,an,B9 N hI.2 ω ω,ag]
  show _=some (bp (ws++[]).sum)
  rw[bF]
def o5(l:ak)(inst:Int):Int:=if cB l then(dm inst l).sum else 0
theorem Ox(N:Nat){l:ak}(hq:c3 l)(hl:l.length≤100000)(hN:2000000≤N)(inst:Int):kN N l inst=some (bp (o5 l inst)):=by
 unfold kN kN.b o5
 rw[qD N hl ω,ag,cond_not,JC N hq hl hN]
 cases cB l<;>rfl
theorem GQ(N:Nat){l:ak}(hq:c3 l)(hl:l.length≤100000)(hN:4000000≤N)(inst:Int):kO.l5 N N l inst (bU 0) (bU 0) 0=some (bU (dm inst l).sum):=by
 have:=hZ l aH (λn i ws=>kO.l5 N n l inst (bU 0) (bU ws.sum) i) (λt ws=>some (bU (ws++dm inst t).sum)) (λi (ws:List Int)=>ws.length≤i∧ ∀x∈ws,bk x)
  (λn i ws hi hI hr=> ?_) (λn ws hI=> ?_) l.length N 0 [] ω ω ω ⟨aB _,λx hx=>nomatch hx⟩
 ·simpa using this
 ·unfold kO.l5 kO.fX
  have jV:=o4 hq i
  have fp:=jV
  unfold bk da at fp
  have hb:=Et hI.2
  rw[az ω,aa,aE ω ω,aa,aa,aw,er N ω fp.1 fp.2,ag,kk N ω ((xa (n:=ws.length) ω hb.1 hb.2).mono ω) ((Fit.i64 fp.1 fp.2).mono ω),ag,ay ω ω,ah,au,fB]
  split
  ·have:=hr (ws++[da (l.getD i aH)]) ⟨by rw[aC,aQ];omega,λx hx=>by
    rcases br.1 hx with hx|hx
    ·exact hI.2 x hx
    ·rw[dw.1 hx];exact jV⟩
   rw[n0,eA,jj,iD]at this
   refine this.trans ?_
   rw[aT];rfl
  ·exact hr ws ⟨ω,hI.2⟩
 ·unfold kO.l5 kO.fX
  rw[av ω,an]
  show _=some (bU (ws++[]).sum)
  rw[bF]
theorem Ev(N:Nat){l:ak}(hq:c3 l)(hl:l.length≤100000)(hN:4000000≤N)(inst:Int):kO N l inst=some (bU (o5 l inst)):=by
 unfold kO kO.b o5
 rw[om N hl ω,ag,cond_not]
 have:=GQ N hq hl hN inst
 rw[fl]at this
 rw[this]
 cases cB l
 ·rw[an];exact cN some fl.symm
 ·rfl
def o6(l:ak)(i:Nat):Prop:=eR (o5 l (i:Int)) 0
instance(l:ak):DecidablePred (o6 l):=λi=>by unfold o6;infer_instance
def ia:Nat:=6
def mM(l:ak):Bool:=decide (∀j,j<ia→o6 l j)&&cB l
theorem gG{x:Int}:uz x=0↔x=0:=by unfold uz;split<;>(try split)<;>omega
theorem Oy(N:Nat){l:ak}(hq:c3 l)(hl:l.length≤100000)(hN:2000000≤N):lj N l=some (mM l):=by
 unfold lj lj.b
 refine e7 (len:=ia) (F:=λn i=>lj.l2 N n l i) (o6 l) (λn i r hi hp hr=> ?_) (λn=> ?_) N (by unfold ia;omega)
 ·unfold lj.l2 lj.dY
  unfold ia at hi
  rw[az ω,aa,Ox N hq hl hN,ag,tZ,ag,cond_not,au,ay ω ω,ah,hr]
  by_cases hP:o6 l i
  ·rw[ae hP,ae (gG.2 hP)]
  ·rw[af hP,af (λh=>hP (gG.1 h))]
 ·unfold lj.l2 lj.dY
  rw[av (by unfold ia;omega),an,qD N hl ω,ag]
theorem LR(N:Nat){l:ak}(hq:c3 l)(hl:l.length≤100000)(hN:4000000≤N):ll N l=some (mM l):=by
 unfold ll ll.b
 refine e7 (len:=ia) (F:=λn i=>ll.l2 N n l i) (o6 l) (λn i r hi hp hr=> ?_) (λn=> ?_) N (by unfold ia;omega)
 ·unfold ll.l2 ll.dY
  unfold ia at hi
  rw[az ω,aa,Ev N hq hl hN,ag,tT,ag,cond_not,au,ay ω ω,ah,hr]
  by_cases hP:o6 l i
  ·rw[ae hP,ae (gG.2 hP)]
  ·rw[af hP,af (λh=>hP (gG.1 h))]
 ·unfold ll.l2 ll.dY
  rw[av (by unfold ia;omega),an,om N hl ω,ag]
def gn(m:aW)(a:bl)(l:ak)(i:Nat):Prop:=
 (eR (l.getD i aH).1 5→(dU a (l.getD i aH).2.1).2=true)∧(eR (l.getD i aH).1 6∨eR (l.getD i aH).1 7→ ¬eR (et m (l.getD i aH).2.1) 0)
instance(m:aW)(a:bl)(l:ak):DecidablePred (gn m a l):=λi=>by unfold gn;infer_instance
theorem u9(N:Nat)(b:ar)(hl:b.2.1.length≤100000)(hN:200000≤N)(id:Int):Ar N b id=some (dU b.2.1 id).2:=by
 unfold Ar
 rw[Ov N hl hN,ag]
theorem JD{k:Int}{f:Bool}{z:Int}{r:Option Bool}:cond (bf k 5) (cond (!f) (some false) r) (cond (bf k 6) (cond (bf z 0) (some false) r) (cond (bf k 7) (cond (bf z 0) (some false) r) r))=
  if(eR k 5→f=true)∧(eR k 6∨eR k 7→ ¬eR z 0)then r else some false:=by
 unfold eR
 rw[au,au,au,au,cond_not]
 by_cases h5:k=5
 ·have h6: ¬(k=6):=ω
  have h7: ¬(k=7):=ω
  cases f<;>simp[h5,h6,h7]
 ·by_cases h6:k=6
  ·by_cases hz:z=0<;>simp[h5,h6,hz]
  ·by_cases h7:k=7
   ·by_cases hz:z=0<;>simp[h5,h6,h7,hz]
   ·simp[h5,h6,h7]
theorem As(N:Nat)(hN:200000≤N)(c:aj)(b:ar)(hm:b.1.length≤100000)(ha:b.2.1.length≤100000)(hl:b.2.2.1.length≤100000){e:Bool}
  (he:gL.vY N N c b b.2.2.2.1 (b.2.2.2.1.length:Int) 0=some e):gL.l4 N N c b b.2.2.1 (b.2.2.1.length:Int) 0=some (decide (∀j,j<b.2.2.1.length→gn b.1 b.2.1 b.2.2.1 j)&&e):=by
 refine e7 (F:=λn i=>gL.l4 N n c b b.2.2.1 (b.2.2.1.length:Int) i) (gn b.1 b.2.1 b.2.2.1) (λn i r hi hp hr=> ?_) (λn=> ?_) N ω
 ·unfold gL.l4 gL.de
  rw[az ω,aa,aE ω ω,aa,aw,ay (x:=(i:Int)+1) ω ω,ah,hr]
  simp only[u9 N b ha hN,u6 N hm hN,ag]
  rw[JD]
  rfl
 ·unfold gL.l4 gL.de
  rw[av ω,an];exact he
def sy(a b:Int):Prop:=a<b
instance(a b:Int):Decidable (sy a b):=by unfold sy;infer_instance
def gq(c:aj)(a:bl)(l:ak)(i:Nat):Prop:=
 (eR (l.getD i aH).1 0∨(dU a (l.getD i aH).1).2=true)∧sy (l.getD i aH).2.1 c.1.length
instance(c:aj)(a:bl)(l:ak):DecidablePred (gq c a l):=λi=>by unfold gq;infer_instance
theorem LS{k x n:Int}{f:Bool}{r:Option Bool}:cond (!bf k 0) (cond (!f) (some false) (cond (cP n x) (some false) r)) (cond (cP n x) (some false) r)=if(eR k 0∨f=true)∧sy x n then r else some false:=by
 unfold eR sy
 rw[cond_not,au,aX,cond_not]
 by_cases h0:k=0
 ·by_cases hx:n≤x
  ·have: ¬x<n:=ω
   simp[h0,hx,this]
  ·have:x<n:=ω
   simp[h0,hx,this]
 ·by_cases hx:n≤x
  ·have: ¬x<n:=ω
   cases f<;>simp[h0,hx,this]
  ·have:x<n:=ω
   cases f<;>simp[h0,hx,this]
theorem Ca(N:Nat)(hN:200000≤N)(c:aj)(b:ar)(ha:b.2.1.length≤100000)(hl:b.2.2.2.1.length≤100000){e:Bool}
  (he:gL.Cb N N c b b.2.2.2.2.2.1 (b.2.2.2.2.2.1.length:Int) 0=some e):gL.vY N N c b b.2.2.2.1 (b.2.2.2.1.length:Int) 0=some (decide (∀j,j<b.2.2.2.1.length→gq c b.2.1 b.2.2.2.1 j)&&e):=by
 refine e7 (F:=λn i=>gL.vY N n c b b.2.2.2.1 (b.2.2.2.1.length:Int) i) (gq c b.2.1 b.2.2.2.1) (λn i r hi hp hr=> ?_) (λn=> ?_) N ω
 ·unfold gL.vY gL.vb
  rw[az ω,aa,aE ω ω,aa,aw,ay (x:=(i:Int)+1) ω ω,ah,hr]
  simp only[u9 N b ha hN,ag]
  rw[LS]
  rfl
 ·unfold gL.vY gL.vb
  rw[av ω,an];exact he
def nB(l:List Int)(i:Nat):Prop:=1≤l.getD i 0∧l.getD i 0≤1000000000000
instance(l:List Int):DecidablePred (nB l):=λi=>by unfold nB;infer_instance
def fq(l:List Int):Bool:=decide (∀j,j<l.length→nB l j)
theorem SY(N:Nat)(p:Int):Oz N p=some (!decide (1≤p∧p≤1000000000000)):=by
 unfold Oz
 rw[uZ,ag]
theorem y8(N:Nat){l:List Int}(hl:l.length≤100000): ∀(m n i:Nat),l.length-i≤m→m<n→i≤l.length→(∀j,j<i→nB l j)→
  ∃r,m7.l2 N n l () (l.length:Int) (i:Int)=some r∧(cP 0 r= !fq l)
 |m,0,i,_,hn,_,_=>ω
 |m,n+1,i,hm,hn,hi,hp=>by
  unfold m7.l2 m7.dY
  by_cases h:i<l.length
  ·rw[az ω,aa,aE ω ω,aa,aw,SY,ag,cond_not,dH]
   by_cases hP:nB l i
   ·have Xi:=hP
    unfold nB at Xi
    rw[ae Xi,ay ω ω]
    exact y8 N hl (m-1) n (i+1) ω ω ω (λj hj=>by
     by_cases yG:j=i
     ·subst yG;exact hP
     ·exact hp j ω)
   ·have Xi:=hP
    unfold nB at Xi
    rw[af Xi]
    refine⟨_,rfl,?_⟩
    rw[fT ω]
    unfold fq
    rw[aP (λh'=>hP (h' i h))];rfl
  ·rw[av ω,an]
   refine⟨_,rfl,?_⟩
   rw[fA ω]
   unfold fq
   rw[aD (λj hj=>hp j ω)];rfl
theorem JE(N:Nat){l:List Int}(hl:l.length≤100000)(hN:200000≤N):OA N l ()=some (!fq l):=by
 unfold OA m7 m7.b
 obtain⟨r,e,h⟩:=y8 N hl l.length N 0 ω ω ω (λj hj=>absurd hj ω)
 rw[show((0:Nat):Int)=0 from rfl]at e
 rw[e,ag,h]
def lT(c:aj)(a:bl)(l:bx)(i:Nat):Prop:=
 (dU a (l.getD i fZ).2.1).2=true∧sy (l.getD i fZ).2.2.1 c.1.length
instance(c:aj)(a:bl)(l:bx):DecidablePred (lT c a l):=λi=>by unfold lT;infer_instance
theorem y9{x n:Int}{f:Bool}{r:Option Bool}:cond (!f) (some false) (cond (cP n x) (some false) r)=if f=true∧sy x n then r else some false:=by
 unfold sy
 rw[aX,cond_not]
 by_cases hx:n≤x
 ·have: ¬x<n:=ω
  cases f<;>simp[hx,this]
 ·have:x<n:=ω
  cases f<;>simp[hx,this]
theorem Cc(N:Nat)(hN:200000≤N)(c:aj)(b:ar)(ha:b.2.1.length≤100000)(hl:b.2.2.2.2.2.1.length≤100000)(hp:b.2.2.2.2.1.length≤100000):
  gL.Cb N N c b b.2.2.2.2.2.1 (b.2.2.2.2.2.1.length:Int) 0=some (decide (∀j,j<b.2.2.2.2.2.1.length→lT c b.2.1 b.2.2.2.2.2.1 j)&&fq b.2.2.2.2.1):=by
 refine e7 (F:=λn i=>gL.Cb N n c b b.2.2.2.2.2.1 (b.2.2.2.2.2.1.length:Int) i) (lT c b.2.1 b.2.2.2.2.2.1) (λn i r hi HE hr=> ?_) (λn=> ?_) N ω
 ·unfold gL.Cb gL.Cd
  rw[az ω,aa,aE ω ω,aa,aw,ay (x:=(i:Int)+1) ω ω,ah,hr]
  simp only[u9 N b ha hN,ag]
  rw[y9]
  rfl
 ·unfold gL.Cb gL.Cd
  rw[av ω,an,JE N hp hN,ag,Bool.not_not]
def cD(c:aj)(b:ar):Bool:=
 eF c&&(qF b.1 b.2.1&&(dK b.2.2.1&&(decide (eR (fJ b.2.2.1) 0)&&(mM b.2.2.2.1&&(dk b.2.2.2.2.2.1&&(decide (eR b.2.2.2.2.1.length c.1.length)&&
  (decide (∀j,j<b.2.2.1.length→gn b.1 b.2.1 b.2.2.1 j)&&(decide (∀j,j<b.2.2.2.1.length→gq c b.2.1 b.2.2.2.1 j)&&(decide (∀j,j<b.2.2.2.2.2.1.length→lT c b.2.1 b.2.2.2.2.2.1 j)&&fq b.2.2.2.2.1)))))))))
structure ib(b:ar):Prop where
 m:b.1.length≤100000
 a:b.2.1.length≤100000
 r:b.2.2.1.length≤100000
 s:b.2.2.2.1.length≤100000
 p:b.2.2.2.2.1.length≤100000
 o:b.2.2.2.2.2.1.length≤100000
 qr:c3 b.2.2.1
 qs:c3 b.2.2.2.1
theorem jv{x:Bool}{r:Option Bool}{y:Bool}(h:r=some y):cond (!x) (some false) r=some (x&&y):=by subst h;cases x<;>rfl
theorem rq(N:Nat)(hN:4000000≤N){c:aj}{b:ar}(w:ib b):gL N c b=some (cD c b):=by
 unfold gL gL.b cD
 rw[xc N ω,ag]
 refine jv ?_
 rw[Ow N w.m w.a ω,ag]
 refine jv ?_
 rw[B7 N w.r ω,ag]
 refine jv ?_
 rw[LQ N w.qr w.r ω,ag,tZ,ag]
 have e0:bf (uz (fJ b.2.2.1)) 0=decide (eR (fJ b.2.2.1) 0):=by rw[fF,lK];exact gG
 rw[e0]
 refine jv ?_
 rw[Oy N w.qs w.s ω,ag]
 refine jv ?_
 rw[u5 N w.o ω,ag]
 refine jv ?_
 rw[fF]
 refine jv ?_
 exact As N ω c b w.m w.a w.r (Ca N ω c b w.a w.s (Cc N ω c b w.a w.o w.p))
theorem qG(N:Nat)(b:ar)(hl:b.2.1.length≤100000)(hN:200000≤N)(id:Int):Ew N b id=some ((dU b.2.1 id).2||decide (eR id 0)):=by
 unfold Ew
 rw[Es N hl hN,ag,fF]
 cases(dU b.2.1 id).2<;>rfl
theorem GR{k:Int}{f:Bool}{z:Int}{r:Option Bool}:cond (bf k 5) (cond (!f) (some false) (cond (bf k 6) (cond (bf z 0) (some false) r) (cond (bf k 7) (cond (bf z 0) (some false) r) r))) (cond (bf k 6) (cond (bf z 0) (some false) r) (cond (bf k 7) (cond (bf z 0) (some false) r) r))=
  if(eR k 5→f=true)∧(eR k 6∨eR k 7→ ¬eR z 0)then r else some false:=by
 unfold eR
 rw[au,au,au,au,cond_not]
 by_cases h5:k=5
 ·have h6: ¬(k=6):=ω
  have h7: ¬(k=7):=ω
  cases f<;>simp[h5,h6,h7]
 ·by_cases h6:k=6
  ·by_cases hz:z=0<;>simp[h5,h6,hz]
  ·by_cases h7:k=7
   ·by_cases hz:z=0<;>simp[h5,h6,h7,hz]
   ·simp[h5,h6,h7]
theorem Au(N:Nat)(hN:200000≤N)(c:aj)(b:ar)(ha:b.2.1.length≤100000)(hl:b.2.2.2.2.2.1.length≤100000)(ho:dk b.2.2.2.2.2.1=true):
  eV.Cb N N c b 0=some (decide (∀j,j<b.2.2.2.2.2.1.length→lT c b.2.1 b.2.2.2.2.2.1 j)&&true):=by
 refine e7 (F:=λn i=>eV.Cb N n c b i) (lT c b.2.1 b.2.2.2.2.2.1) (λn i r hi HE hr=> ?_) (λn=> ?_) N ω
 ·unfold eV.Cb eV.Cd
  unfold dk at ho
  rw[ba,lI]at ho
  have h1:=(ho.1 i hi).1
  unfold qE uY at h1
  have h2:decide (eR (b.2.2.2.2.2.1.getD i fZ).2.1 0)=false:=aP (by unfold eR;omega)
  rw[az ω,aa,aE ω ω,aa,aw,ay (x:=(i:Int)+1) ω ω,ah,hr]
  simp only[qG N b ha hN,ag,aa]
  rw[h2,n3,y9]
  rfl
 ·unfold eV.Cb eV.Cd
  rw[av ω,an]
theorem wN(N:Nat)(hN:200000≤N)(c:aj)(b:ar)(hl:b.2.2.2.2.1.length≤100000){e:Bool}(he:eV.Cb N N c b 0=some e):
  eV.OB N N c b 0=some (fq b.2.2.2.2.1&&e):=by
 refine e7 (F:=λn i=>eV.OB N n c b i) (nB b.2.2.2.2.1) (λn i r hi HE hr=> ?_) (λn=> ?_) N ω
 ·unfold eV.OB eV.OC
  rw[az ω,aa,aE ω ω,aa,aw,ay (x:=(i:Int)+1) ω ω,ah,hr,u2,ag,cond_not,dH]
  rfl
 ·unfold eV.OB eV.OC
  rw[av ω,an];exact he
theorem Av(N:Nat)(hN:200000≤N)(c:aj)(b:ar)(ha:b.2.1.length≤100000)(hl:b.2.2.2.1.length≤100000){e:Bool}(he:eV.OB N N c b 0=some e):
  eV.vd N N c b 0=some (decide (∀j,j<b.2.2.2.1.length→gq c b.2.1 b.2.2.2.1 j)&&e):=by
 refine e7 (F:=λn i=>eV.vd N n c b i) (gq c b.2.1 b.2.2.2.1) (λn i r hi HE hr=> ?_) (λn=> ?_) N ω
 ·unfold eV.vd eV.ua
  rw[az ω,aa,aE ω ω,aa,aw,ay (x:=(i:Int)+1) ω ω,ah,hr]
  simp only[qG N b ha hN,ag,aa]
  rw[y9]
  have LV:((((dU b.2.1 (b.2.2.2.1.getD i aH).1).2||decide (eR (b.2.2.2.1.getD i aH).1 0))=true)∧sy (b.2.2.2.1.getD i aH).2.1 c.1.length)↔gq c b.2.1 b.2.2.2.1 i:=by
   unfold gq
   rw[nk,lI]
   exact⟨λh=>⟨h.1.symm,h.2⟩,λh=>⟨h.1.symm,h.2⟩⟩
  by_cases hP:gq c b.2.1 b.2.2.2.1 i
  ·rw[ae hP,ae (LV.2 hP)]
  ·rw[af hP,af (λh=>hP (LV.1 h))]
 ·unfold eV.vd eV.ua
  rw[av ω,an];exact he
theorem za(N:Nat)(hN:200000≤N)(c:aj)(b:ar)(hm:b.1.length≤100000)(ha:b.2.1.length≤100000)(hl:b.2.2.1.length≤100000)(hk:dK b.2.2.1=true){e:Bool}
  (he:eV.vd N N c b 0=some e):eV.l6 N N c b 0=some (decide (∀j,j<b.2.2.1.length→gn b.1 b.2.1 b.2.2.1 j)&&e):=by
 refine e7 (F:=λn i=>eV.l6 N n c b i) (gn b.1 b.2.1 b.2.2.1) (λn i r hi HE hr=> ?_) (λn=> ?_) N ω
 ·unfold eV.l6 eV.B4
  unfold dK at hk
  rw[eB,lI]at hk
  have h1:=(hk i hi).1
  rw[az ω,aa,aE ω ω,aa,aw,ay (x:=(i:Int)+1) ω ω,ah,hr]
  simp only[qG N b ha hN,y6 N hm hN,ag]
  rw[GR]
  have LV:((eR (b.2.2.1.getD i aH).1 5→((dU b.2.1 (b.2.2.1.getD i aH).2.1).2||decide (eR (b.2.2.1.getD i aH).2.1 0))=true)∧(eR (b.2.2.1.getD i aH).1 6∨eR (b.2.2.1.getD i aH).1 7→ ¬eR (et b.1 (b.2.2.1.getD i aH).2.1) 0))↔gn b.1 b.2.1 b.2.2.1 i:=by
   unfold gn
   refine and_congr_left λ_=>imp_congr_right λh5=> ?_
   rw[nk,lI]
   refine⟨λh=>h.elim id λh0=> ?_,.inl⟩
   unfold cT at h1;unfold eR at h5 h0;omega
  by_cases hP:gn b.1 b.2.1 b.2.2.1 i
  ·rw[ae hP,ae (LV.2 hP)]
  ·rw[af hP,af (λh=>hP (LV.1 h))]
 ·unfold eV.l6 eV.B4
  rw[av ω,an];exact he
theorem jW{x:Bool}{r:Option Bool}{y:Bool}(h:x=true→r=some y):cond (!x) (some false) r=some (x&&y):=by
 cases x
 ·rfl
 ·exact h rfl
theorem qH(N:Nat)(hN:5000000≤N){c:aj}{b:ar}(w:ib b):eV N c b=some (cD c b):=by
 unfold eV eV.b
 rw[tV N ω,ag]
 have e0:bf (uz (fJ b.2.2.1)) 0=decide (eR (fJ b.2.2.1) 0):=by rw[fF,lK];exact gG
 refine(jW λ_=> ?_).trans (cN some (?_:(eF c&&(qF b.1 b.2.1&&(dK b.2.2.1&&(mM b.2.2.2.1&&(dk b.2.2.2.2.2.1&&(decide (eR b.2.2.2.2.1.length c.1.length)&&(decide (eR (fJ b.2.2.1) 0)&&
  (decide (∀j,j<b.2.2.1.length→gn b.1 b.2.1 b.2.2.1 j)&&(decide (∀j,j<b.2.2.2.1.length→gq c b.2.1 b.2.2.2.1 j)&&(fq b.2.2.2.2.1&&(decide (∀j,j<b.2.2.2.2.2.1.length→lT c b.2.1 b.2.2.2.2.2.1 j)&&true)))))))))))=cD c b))
 ·rw[LO N w.m w.a ω,ag]
  refine jW λ_=> ?_
  rw[yZ N w.r ω,ag]
  refine jW λhk=> ?_
  rw[LR N w.qs w.s ω,ag]
  refine jW λ_=> ?_
  rw[y4 N w.o ω,ag]
  refine jW λho=> ?_
  rw[fF]
  refine jW λ_=> ?_
  rw[JB N w.qr w.r ω,ag,tT,ag,e0]
  refine jW λ_=> ?_
  exact za N ω c b w.m w.a w.r hk (Av N ω c b w.a w.s (wN N ω c b w.p (Au N ω c b w.a w.o ho)))
 ·unfold cD
  generalize eF c=x1,qF b.1 b.2.1=x2,dK b.2.2.1=x3,mM b.2.2.2.1=x4,dk b.2.2.2.2.2.1=x5,decide (eR b.2.2.2.2.1.length c.1.length)=x6,decide (eR (fJ b.2.2.1) 0)=x7,decide (∀j,j<b.2.2.1.length→gn b.1 b.2.1 b.2.2.1 j)=x8,decide (∀j,j<b.2.2.2.1.length→gq c b.2.1 b.2.2.2.1 j)=x9,fq b.2.2.2.2.1=dp,decide (∀j,j<b.2.2.2.2.2.1.length→lT c b.2.1 b.2.2.2.2.2.1 j)=cw
  rw[eB]
  cases x1<;>cases x2<;>cases x3<;>cases x4<;>cases x5<;>cases x6<;>cases x7<;>try rfl
  cases x8<;>cases x9<;>cases dp<;>cases cw<;>rfl
def mN(a q n:Int)(i:Nat)(p:Int):Prop:=0≤a∧a<n∧q≠0∧xd q∧(0<i→p<a)
instance(a q n:Int)(i:Nat)(p:Int):Decidable (mN a q n i p):=by unfold mN;infer_instance
def jL(c:aj)(l:aW)(i:Nat):Prop:=mN (l.getD i dC).1 (l.getD i dC).2.1 c.1.length i (l.getD (i-1) dC).1
instance(c:aj)(l:aW):DecidablePred (jL c l):=λi=>by unfold jL;infer_instance
def jX(c:aj)(l:aW):Bool:=decide (∀j,j<l.length→jL c l j)&&eF c
theorem Ij(N:Nat)(hN:200000≤N)(c:aj){l:aW}(hl:l.length≤100000):vZ N c l=some (jX c l):=by
 unfold vZ vZ.b
 refine e7 (F:=λn i=>vZ.l2 N n l c l (l.length:Int) i) (jL c l) (λn i r hi hp hr=> ?_) (λn=> ?_) N ω
 ·unfold vZ.l2 vZ.dY
  rw[az ω,aa,aE ω ω,aa,aw,ay (x:=(i:Int)+1) ω ω,ah,hr,ny,ag,cond_not,dH]
  by_cases h0:0<i
  ·have e:W .i64 ((i:Int)-1)=((i-1:Nat):Int):=by rw[ay ω ω];omega
   dsimp only
   rw[az (x:=0) (y:=(i:Int)) ω,aa,e,aw,aE ω ω,aa]
   simp only[bb,aX,au]
   by_cases hP:jL c l i
   ·rw[ae hP];unfold jL mN at hP
    rw[af ω,af ω,af hP.2.2.1,ae hP.2.2.2.1,af ω]
   ·rw[af hP];unfold jL mN at hP
    have h2:=λh1 h2 h3 h4 h5=>hP ⟨h1,h2,h3,h4,h5⟩
    repeat' split
    all_goals first|rfl|(exfalso;exact h2 ω ω (by assumption) (by assumption) ω)
  ·rw[av (x:=0) (y:=(i:Int)) ω,an]
   simp only[bb,aX,au]
   by_cases hP:jL c l i
   ·rw[ae hP];unfold jL mN at hP
    rw[af ω,af ω,af hP.2.2.1,ae hP.2.2.2.1]
   ·rw[af hP];unfold jL mN at hP
    have h2:=λh1 h2 h3 h4 h5=>hP ⟨h1,h2,h3,h4,h5⟩
    repeat' split
    all_goals first|rfl|(exfalso;exact h2 ω ω (by assumption) (by assumption) ω)
 ·unfold vZ.l2 vZ.dY
  rw[av ω,an,xc N ω,ag]
theorem Ex(N:Nat)(hN:200000≤N)(c:aj){l:aW}(hl:l.length≤100000):kP N c l=some (jX c l):=by
 unfold kP kP.b
 rw[tV N ω,ag]
 have hsc:=e7 (F:=λn i=>kP.l4 N n l c i) (e:=true) (jL c l) (λn i r hi hp hr=> ?_) (λn=> ?_) N (show l.length<N by omega)
 ·rw[jv hsc];unfold jX
  rw[eB,Bool.and_comm]
 ·unfold kP.l4 kP.de
  rw[az ω,aa,aE ω ω,aa,aw,ay (x:=(i:Int)+1) ω ω,ah,hr]
  by_cases h0:0<i
  ·have e:W .i64 ((i:Int)-1)=((i-1:Nat):Int):=by rw[ay ω ω];omega
   dsimp only
   rw[az (x:=0) (y:=(i:Int)) ω,e,aw,aE (i:=((i-1:Nat):Int)) ω ω]
   simp only[bb,aX,au,aa]
   by_cases hP:jL c l i
   ·rw[ae hP];unfold jL mN at hP
    rw[af ω,af ω,af hP.2.2.1,af (show ¬((l.getD i dC).2.1:Int)= -9223372036854775808 from hP.2.2.2.1),af ω]
   ·rw[af hP];unfold jL mN at hP
    have h2:=λh1 h2 h3 h4 h5=>hP ⟨h1,h2,h3,h4,h5⟩
    repeat' split
    all_goals first|rfl|(exfalso;exact h2 ω ω (by assumption) (by assumption) ω)
  ·rw[av (x:=0) (y:=(i:Int)) ω]
   simp only[bb,aX,au,aa,an]
   by_cases hP:jL c l i
   ·rw[ae hP];unfold jL mN at hP
    rw[af ω,af ω,af hP.2.2.1,af (show ¬((l.getD i dC).2.1:Int)= -9223372036854775808 from hP.2.2.2.1)]
   ·rw[af hP];unfold jL mN at hP
    have h2:=λh1 h2 h3 h4 h5=>hP ⟨h1,h2,h3,h4,h5⟩
    repeat' split
    all_goals first|rfl|(exfalso;exact h2 ω ω (by assumption) (by assumption) ω)
 ·unfold kP.l4 kP.de
  rw[av ω,an]
end VM
end
section
namespace VM
open Go VM.F
end VM
end
section
namespace VM
open Go VM.F
end VM
end
section
namespace VM
open Go VM.F
def cq(a b:Int):ak→List Int
 |[]=>[]
 |x::t=>if x.1=a∧x.2.1=b then da x::cq a b t else cq a b t
theorem c4(a b:Int)(x:dJ)(t:ak):cq a b (x::t)=if x.1=a∧x.2.1=b then da x::cq a b t else cq a b t:=rfl
def bS(a b:Int)(l:ak):Int:=(cq a b l).sum
theorem JF(a b:Int):bS a b []=0:=rfl
theorem iR(a b:Int)(x:dJ)(t:ak):bS a b (x::t)=(if x.1=a∧x.2.1=b then da x else 0)+bS a b t:=by
 unfold bS
 rw[c4]
 split
 ·rw[eA]
 ·omega
theorem gH{a b:Int}: ∀{l:ak},(∀x∈l,¬(x.1=a∧x.2.1=b))→bS a b l=0
 |[],_=>rfl
 |x::t,h=>by
  rw[iR,af (h x (bg ..)),gH (λy hy=>h y (aU _ hy))];rfl
abbrev bZ:=Int×Int
def nR(x y:bZ):Prop:=gZ x.1 x.2 y.1 y.2
instance(x y:bZ):Decidable (nR x y):=by unfold nR;infer_instance
def keyOf(x:dJ):bZ:=(x.1,x.2.1)
def nW(K:List bZ):Prop:=K.Pairwise nR
theorem ko{x:bZ}(h:nR x x):False:=by unfold nR gZ at h;omega
theorem A4{x y:bZ}(h:nR x y)(k:nR y x):False:=by unfold nR gZ at*;omega
theorem rr{x y z:bZ}(h:nR x y)(k:nR y z):nR x z:=by unfold nR gZ at*;omega
theorem Ik(x y:bZ):nR x y∨x=y∨nR y x:=by
 have:(x.1=y.1∧x.2=y.2)→x=y:=λh=>ff h.1 h.2
 unfold nR gZ
 by_cases h1:x.1=y.1
 ·by_cases h2:x.2=y.2
  ·exact Or.inr (Or.inl (this ⟨h1,h2⟩))
  ·omega
 ·omega
theorem Il: ∀{a b:List bZ},nW a→nW b→(∀x,x∈a↔x∈b)→a=b
 |[],[],_,_,_=>rfl
 |[],y::t,_,_,h=>nomatch (h y).2 (bg ..)
 |x::s,[],_,_,h=>nomatch (h x).1 (bg ..)
 |x::s,y::t,ha,hb,h=>by
  obtain⟨Vy,ha2⟩:=ez.1 ha
  obtain⟨jF,sd⟩:=ez.1 hb
  have Ng:x=y:=by
   rcases aV.1 ((h x).1 (bg ..))with e|e
   ·exact e
   ·rcases aV.1 ((h y).2 (bg ..))with f|f
    ·exact f.symm
    ·exact(A4 (Vy y f) (jF x e)).elim
  subst Ng
  rw[Il ha2 sd λz=>⟨λhz=> ?_,λhz=> ?_⟩]
  ·rcases aV.1 ((h z).1 (aU _ hz))with e|e
   ·subst e;exact(ko (Vy z hz)).elim
   ·exact e
  ·rcases aV.1 ((h z).2 (aU _ hz))with e|e
   ·subst e;exact(ko (jF z hz)).elim
   ·exact e
def cO(P:Int→Prop) [DecidablePred P](f:Int→Int→Int):List bZ→Option ak
 |[]=>some []
 |k::t=>if P (f k.1 k.2)then(cO P f t).map (λo=>if f k.1 k.2=0 then o else(k.1,(k.2,(f k.1 k.2,())))::o)else none
theorem gV(P:Int→Prop) [DecidablePred P](f:Int→Int→Int)(k:bZ)(t:List bZ):cO P f (k::t)=if P (f k.1 k.2)then(cO P f t).map (λo=>if f k.1 k.2=0 then o else(k.1,(k.2,(f k.1 k.2,())))::o)else none:=rfl
theorem wa{P:Int→Prop} [DecidablePred P](h0:P 0){f:Int→Int→Int}(p:bZ→Bool): ∀{K:List bZ},(∀k∈K,p k=false→f k.1 k.2=0)→cO P f (K.filter p)=cO P f K
 |[],_=>rfl
 |k::t,h=>by
  have ih:=wa h0 p (K:=t) (λx hx=>h x (aU _ hx))
  cases hp:p k
  ·rw[List.filter_cons_of_neg (by rw[hp];decide),ih,gV,h k (bg ..) hp,ae h0]
   simp
  ·rw[List.filter_cons_of_pos hp,gV,gV,ih]
theorem Ey{P:Int→Prop} [DecidablePred P](h0:P 0){f:Int→Int→Int}{K G:List bZ}(hK:nW K)(hG:nW G)(hs: ∀k∈K,k∈G)(hz: ∀k∈G,k∉K→f k.1 k.2=0):cO P f K=cO P f G:=by
 have e:K=G.filter (λk=>decide (k∈K)):=by
  refine Il hK (pN List.filter_sublist hG) λx=> ?_
  rw[pU]
  exact⟨λh=>⟨hs x h,aD h⟩,λh=>bH h.2⟩
 rw[e]
 exact wa h0 _ λk hk hp=>hz k hk (of_decide_eq_false hp)
def qI(k:bZ):List bZ→List bZ
 |[]=>[k]
 |x::t=>if nR x k then x::qI k t else if x=k then x::t else k::x::t
theorem mO{k x:bZ}: ∀{K:List bZ},x∈qI k K↔x=k∨x∈K
 |[]=>by show x∈[k]↔_;simp
 |y::t=>by
  show x∈(if nR y k then y::qI k t else if y=k then y::t else k::y::t)↔_
  split
  ·rw[aV,mO,aV]
   exact⟨λh=>h.elim (λe=>Or.inr (Or.inl e)) (λh=>h.elim Or.inl (λh=>Or.inr (Or.inr h))),λh=>h.elim (λe=>Or.inr (Or.inl e)) (λh=>h.elim Or.inl (λh=>Or.inr (Or.inr h)))⟩
  ·split
   ·rename_i e
    rw[←e]
    exact⟨Or.inr,λh=>h.elim (λe=>e▸bg ..) id⟩
   ·rw[aV]
theorem ub{k:bZ}: ∀{K:List bZ},nW K→nW (qI k K)
 |[],_=>ez.2 ⟨λ_ h=>(nomatch h),List.Pairwise.nil⟩
 |y::t,h=>by
  obtain⟨h1,h2⟩:=ez.1 h
  show nW (if nR y k then y::qI k t else if y=k then y::t else k::y::t)
  split
  ·rename_i hy
   exact ez.2 ⟨λz hz=>(mO.1 hz).elim (λe=>e▸hy) (h1 z),ub h2⟩
  ·rename_i hy
   split
   ·exact h
   ·rename_i he
    have hk:nR k y:=(Ik y k).elim (λh=>absurd h hy) (λh=>h.elim (λh=>absurd h he) id)
    exact ez.2 ⟨λz hz=>(aV.1 hz).elim (λe=>e▸hk) (λhz=>rr hk (h1 z hz)),h⟩
def jw(K:List bZ)(E:ak):List bZ:=E.foldl (λK x=>qI (keyOf x) K) K
theorem nC(K:List bZ)(x:dJ)(E:ak):jw K (x::E)=jw (qI (keyOf x) K) E:=rfl
theorem sA: ∀{E:ak} {K:List bZ},nW K→nW (jw K E)
 |[],_,h=>h
 |x::E,K,h=>by rw[nC];exact sA (ub h)
theorem iS{k:bZ}: ∀{E:ak} {K:List bZ},k∈jw K E↔(k∈K∨ ∃x∈E,keyOf x=k)
 |[],K=>by
  show k∈K↔_
  simp
 |x::E,K=>by
  rw[nC,iS,mO]
  constructor
  ·rintro((rfl|h)|⟨y,hy,e⟩)
   ·exact Or.inr ⟨x,bg ..,rfl⟩
   ·exact Or.inl h
   ·exact Or.inr ⟨y,aU _ hy,e⟩
  ·rintro(h|⟨y,hy,e⟩)
   ·exact Or.inl (Or.inr h)
   ·rcases aV.1 hy with rfl|hy
    ·exact Or.inl (Or.inl e.symm)
    ·exact Or.inr ⟨y,hy,e⟩
theorem zb(k:bZ): ∀K:List bZ,(qI k K).length≤K.length+1
 |[]=>aB _
 |y::t=>by
  show(if nR y k then y::qI k t else if y=k then y::t else k::y::t).length≤_
  have:=zb k t
  split
  ·rw[aL,aL];omega
  ·split<;>rw[aL]<;>(try rw[aL])<;>omega
def rowsOf(l:ak)(K:List bZ):ak:=K.map λk=>(k.1,(k.2,(bS k.1 k.2 l,())))
theorem jc{l:ak}(h:nW (l.map keyOf)):rowsOf l (l.map keyOf)=l:=by
 have key: ∀(m:ak),nW (m.map keyOf)→(∀x∈m,bS x.1 x.2.1 l=da x)→rowsOf l (m.map keyOf)=m:=by
  intro m
  induction m with
  |nil=>intro _ _;rfl
  |cons x t ih=>
   intro hm hx
   have:=ih (ez.1 hm).2 (λy hy=>hx y (aU _ hy))
   unfold rowsOf at*
   rw[bA,bA,this]
   congr 1
   show(x.1,(x.2.1,(bS x.1 x.2.1 l,())))=x
   rw[hx x (bg ..)];rfl
 refine key l h ?_
 clear key
 induction l with
 |nil=>intro x hx;nomatch hx
 |cons y t ih=>
  intro x hx
  obtain⟨h1,h2⟩:=ez.1 h
  have gY: ∀z∈t,¬(z.1=y.1∧z.2.1=y.2.1):=λz hz e=>by
   have hk:=h1 (keyOf z) (dF hz)
   have he:keyOf z=keyOf y:=ff e.1 e.2
   rw[he]at hk
   exact ko hk
  rw[iR]
  rcases aV.1 hx with rfl|hx
  ·rw[ae ⟨rfl,rfl⟩,gH gY];omega
  ·rw[af (λe=>gY x hx ⟨e.1.symm,e.2.symm⟩),ih h2 x hx];omega
end VM
end
