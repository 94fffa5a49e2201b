/- A part of the proof of BookTwo of layer 18: what the functions compute, in plain words. -/
import Derived.Test.YtecmobijochjkaaGreatPlain2
import Derived.Test.YtecmobijochjkaaGreatVm7
import Derived.Test.YtecmobijochjkaaGreatPlain0
set_option linter.all false
section
namespace VM
open Go VM.F
theorem Pg(N:Nat)(hN:2000000≤N){b:an}{s e:au}(w:om b)(hr:eK b.2.2.1=true)(hs:c6 b.2.2.2.1=true)(lr:b.2.2.1.length≤90000)(ls:b.2.2.2.1.length≤90000)(gs:O6 s)(ge:O9 e):
  F68 N b s (e.map iJ)=some (cc b s e):=by
 unfold F68 cc
 rw[Pf N w,ar,ac7 N hN hs ls w.qs gs,Zw N hN hr lr w.qr ge,Kw hs gs.place,Pe hr ge.key]
 unfold vU
 rw[ar,ar]
 have e1:aN 2 0=false:=eR ω
 have e2:aN 0 0=true:=dZ rfl
 cases dL Fq (fS b.2.2.2.1 s) iW with
 |none=>dsimp only;rw[e1];rfl
 |some s'=>
  cases dL aF (fS b.2.2.1 e) lY with
  |none=>dsimp only;rw[e1,e2];rfl
  |some r'=>dsimp only;rw[e2];rfl
theorem UG(N:Nat)(hN:4000000≤N){b:an}{s e:au}(w:om b)(hr:eK b.2.2.1=true)(hs:c6 b.2.2.2.1=true)(lr:b.2.2.1.length≤90000)(ls:b.2.2.2.1.length≤90000)(gs:O6 s)(ge:O9 e):
  zt N b s (e.map gG)=some (cc b s e):=by
 have h1:=gs.len
 have h2:=ge.len
 unfold zt cc
 rw[Hv N hN hs ls w.qs (λx hx=>(gs.q x hx).1) ω,UF N hN hr lr w.qr ge.q ω]
 unfold wX
 rw[ar,ar]
 cases dL Fq (fS b.2.2.2.1 s) iW with
 |none=>rfl
 |some s'=>
  cases dL aF (fS b.2.2.1 e) lY with
  |none=>rfl
  |some r'=>rfl
theorem UH(N:Nat)(C:e8.bO){l:aO}(hl:l.length≤100000)(i:Nat)(hi:i<l.length): ∀(m n k:Nat),i-k≤m→m<n→k≤i→(l.take k).any (sD (l.getD i bb).2.2.1 (l.getD i bb).2.1)=false→
  e8.l9 N C n l (i:Int) (k:Int)=cond ((l.take i).any (sD (l.getD i bb).2.2.1 (l.getD i bb).2.1)) (some false) (C l ((i+1:Nat):Int))
 |m,0,k,_,hn,_,_=>ω
 |m,n+1,k,hm,hn,hk,hb=>by
  unfold e8.l9 e8.vN
  by_cases h:k<i
  ·have BI:=UH N C hl i hi (m-1) n (k+1) ω ω ω
   have ht:(l.take (k+1)).any (sD (l.getD i bb).2.2.1 (l.getD i bb).2.1)=sD (l.getD i bb).2.2.1 (l.getD i bb).2.1 (l.getD k bb):=by
    have ek:l.getD k bb=l[k]' ω:=by rw[aV,bo (show k<l.length by omega)];rfl
    rw[←tB (show k<l.length by omega),List.any_append,hb,ek,Gg,List.any_nil,rX,rW]
   have ka:sD (l.getD i bb).2.2.1 (l.getD i bb).2.1 (l.getD k bb)=true→(l.take i).any (sD (l.getD i bb).2.2.1 (l.getD i bb).2.1)=true:=λhh=>by
    refine AQ.2 ⟨l.getD k bb,?_,hh⟩
    rw[aV,bo (show k<l.length by omega)]
    exact List.mem_take_iff_getElem.2 ⟨k,ω,rfl⟩
   rw[aR ω,ak,aW ω ω,ak,aW ω ω,ak,ak,ak,aI,aI,aL,aL,aw (x:=(k:Int)+1) ω ω,af k]
   by_cases h1:(l.getD k bb).2.2.1=(l.getD i bb).2.2.1
   ·by_cases h2:(l.getD k bb).2.1=(l.getD i bb).2.1
    ·rw[aj h1,aj h2,ka (by unfold sD dG;rw[aU h1,aU h2];rfl)];rfl
    ·rw[aj h1,ah h2]
     exact BI (by rw[ht];unfold sD dG;rw[bu h2,Ge])
   ·rw[ah h1]
    exact BI (by rw[ht];unfold sD dG;rw[bu h1,uG])
  ·have:k=i:=ω
   subst this
   rw[aP ω,av,hb,av,aw (x:=(k:Int)+1) ω ω,af k]
theorem u6(N:Nat){l:aO}(hl:l.length≤100000)(hN:200000≤N):e8 N l=some (Zp l):=by
 unfold e8 e8.b Zp
 by_cases h40:l.length≤40
 ·rw[aP ω,av,aU h40]
  refine iI (F:=λn i=>e8.l4 N n l i) (BS l) (λn i r hi hp hr=> ?_) (λn=> ?_) N ω
  ·unfold e8.l4 e8.dU e8.j8 e8.Zz
   have ka:e8.l9 N (e8.l4 N n) N l (i:Int) 0=_:=UH N (e8.l4 N n) hl i hi i N 0 ω ω ω rfl
   rw[aR ω,ak,aW ω ω,ak,ak,aI,Uy,ar,cond_not,fU,ka,hr]
   have hT:cond ((l.take i).any (sD (l.getD i bb).2.2.1 (l.getD i bb).2.1)) (some false) r=if(l.take i).any (sD (l.getD i bb).2.2.1 (l.getD i bb).2.1)=false then r else some false:=by
    cases(l.take i).any (sD (l.getD i bb).2.2.1 (l.getD i bb).2.1)<;>rfl
   rw[hT]
   by_cases hK:Kl (l.getD i bb)
   ·rw[aj hK]
    have hD:(if BS l i then r else some false)=if uX i (l.getD (i-1) bb).1 (l.getD i bb).1 then(if(l.take i).any (sD (l.getD i bb).2.2.1 (l.getD i bb).2.1)=false then r else some false)else some false:=by
     by_cases h1:uX i (l.getD (i-1) bb).1 (l.getD i bb).1<;>by_cases h2:(l.take i).any (sD (l.getD i bb).2.2.1 (l.getD i bb).2.1)=false
     ·rw[aj h1,aj h2,aj ⟨hK,h1,h2⟩]
     ·rw[aj h1,ah h2,ah (λh=>h2 h.2.2)]
     ·rw[ah h1,ah (λh=>h1 h.2.1)]
     ·rw[ah h1,ah (λh=>h1 h.2.1)]
    rw[hD]
    by_cases h0:0<i
    ·have e:W .i64 ((i:Int)-1)=((i-1:Nat):Int):=by rw[aw ω ω];omega
     rw[aR (x:=0) (y:=(i:Int)) ω,ak,e]
     dsimp only
     rw[aI,aW ω ω,ak,cz]
     by_cases h1:uX i (l.getD (i-1) bb).1 (l.getD i bb).1
     ·rw[aj h1,ah (by unfold uX at h1;omega)]
     ·rw[ah h1,aj (by unfold uX at h1;omega)]
    ·rw[aP (x:=0) (y:=(i:Int)) ω,av,aj (show uX i (l.getD (i-1) bb).1 (l.getD i bb).1 from λh=>absurd h h0)]
   ·rw[ah hK,ah (λh=>hK h.1)]
  ·unfold e8.l4 e8.dU
   rw[aP ω,av]
 ·rw[aR ω,ak,bu h40,Ge]
def wa(s w p:Int):Prop:=((s=1∨s=3)∧w=0∧p=0)∨(s=2∧1≤w∧w≤12∧ -1152921504606846976≤p∧p≤1152921504606846976)
instance(s w p:Int):Decidable (wa s w p):=by unfold wa;infer_instance
def Hz(a:Int):Prop:=1≤a∧a≤1099511627776
instance(a:Int):Decidable (Hz a):=by unfold Hz;infer_instance
def ZA(a b:Int):Prop:=a≤b
instance(a b:Int):Decidable (ZA a b):=by unfold ZA;infer_instance
def FJ(c:ae)(l:bJ)(i:Nat):Prop:=
 Hz (l.getD i ((0:Int),(cf,bb))).1∧uX i (l.getD (i-1) ((0:Int),(cf,bb))).1 (l.getD i ((0:Int),(cf,bb))).1∧ ¬dG ((l.getD i ((0:Int),(cf,bb))).2.1.length:Int) 0∧pe c (l.getD i ((0:Int),(cf,bb))).2.1=true∧ZA (l.getD i ((0:Int),(cf,bb))).2.2.1 0∧wa (l.getD i ((0:Int),(cf,bb))).2.2.2.1 (l.getD i ((0:Int),(cf,bb))).2.2.2.2.1 (l.getD i ((0:Int),(cf,bb))).2.2.2.2.2.1
instance(c:ae)(l:bJ):DecidablePred (FJ c l):=λi=>by unfold FJ;infer_instance
def C5(c:ae)(l:bJ):Bool:=eJ c&&(decide (l.length≤12)&&(decide (∀j,j<l.length→FJ c l j)&&true))
def Ky(l:bJ):Prop:= ∀x∈l,x.2.1.length≤100000
theorem SQ{l:bJ}(h:Ky l)(i:Nat):(l.getD i ((0:Int),(cf,bb))).2.1.length≤100000:=by
 by_cases hi:i<l.length
 ·rw[aV,bo hi];exact h _ (dO hi)
 ·rw[aV,ig ω];exact bz _
theorem ade(s w p:Int)(r:Option Bool):
  cond (aN s 1) (cond (!aN w 0) (some false) (cond (!aN p 0) (some false) r)) (cond (aN s 3) (cond (!aN w 0) (some false) (cond (!aN p 0) (some false) r)) (cond (aN s 2) (cond (aX w 1) (some false) (cond (aX 12 w) (some false) (cond (aX p (-1152921504606846976)) (some false) (cond (aX 1152921504606846976 p) (some false) r)))) (some false)))=
   if wa s w p then r else some false:=by
 simp only[cond_not,aL,cy]
 by_cases h:wa s w p
 ·rw[aj h];unfold wa at h
  repeat' split
  all_goals first|rfl|omega
 ·rw[ah h];unfold wa at h
  repeat' split
  all_goals first|rfl|omega
theorem WE{A B C D E F:Prop} [Decidable A] [Decidable B] [Decidable C] [Decidable D] [Decidable E] [Decidable F](r:Option Bool):
  (if A then(if B then(if C then(if D then(if E then(if F then r else some false)else some false)else some false)else some false)else some false)else some false)=if A∧B∧C∧D∧E∧F then r else some false:=by
 by_cases hA:A<;>by_cases hB:B<;>by_cases hC:C<;>by_cases hD:D<;>by_cases hE:E<;>by_cases hF:F<;>simp only[hA,hB,hC,hD,hE,hF,g9,fC,and_self,fB,and_false,false_and,true_and]
theorem ZB{a b n f s w p:Int}{i:Nat}{o:Bool}{r:Option Bool}:
  cond (aX a 1) (some false) (cond (aX 1099511627776 a) (some false) (if uX i b a then(cond (aN n 0) (some false) (cond (!o) (some false) (cond (aX 0 f) (some false) (if wa s w p then r else some false))))else some false))=
   if Hz a∧uX i b a∧ ¬dG n 0∧o=true∧ZA f 0∧wa s w p then r else some false:=by
 rw[←WE]
 simp only[cond_not,aL,cy]
 by_cases h1:Hz a
 ·have q5:=h1
  unfold Hz at q5
  rw[aj h1,ah ω,ah ω]
  by_cases h2:uX i b a
  ·rw[aj h2,aj h2]
   by_cases h3:n=0
   ·rw[aj h3,ah (show ¬ ¬dG n 0 from λh=>h h3)]
   ·rw[ah h3,aj (show ¬dG n 0 from h3)]
    cases o
    ·rfl
    ·rw[ak,aj rfl]
     by_cases h4:f≤0
     ·rw[aj (show ZA f 0 from h4),ah ω]
     ·rw[ah (show ¬ZA f 0 from h4),aj ω]
  ·rw[ah h2,ah h2]
 ·have q5:=h1
  unfold Hz at q5
  rw[ah h1]
  by_cases h2:a<1
  ·rw[aj h2]
  ·rw[ah h2,aj ω]
theorem ZC{i:Nat}{a b:Int}{r:Option Bool}(h0:0<i):cond (du a b) (some false) r=if uX i b a then r else some false:=by
 rw[cz]
 by_cases h1:uX i b a
 ·rw[aj h1,ah (by unfold uX at h1;omega)]
 ·rw[ah h1,aj (by unfold uX at h1;omega)]
theorem BZ(N:Nat)(hN:200000≤N)(c:ae){l:bJ}(hl:l.length≤100000)(hw:Ky l):jG N c l=some (C5 c l):=by
 unfold jG jG.b C5
 rw[oe N ω,ar]
 cases eJ c
 ·rfl
 rw[bh,av,kR]
 by_cases h12:l.length≤12
 ·rw[aP ω,av,aU h12,kR]
  refine iI (F:=λn i=>jG.l4 N n l c i) (FJ c l) (λn i r hi hp hr=> ?_) (λn=> ?_) N ω
  ·unfold jG.l4 jG.dU jG.j9 jG.Js
   rw[aR ω,ak,aW ω ω,ak,aI,BR N hN c (SQ hw i),ar,aw (x:=(i:Int)+1) ω ω,af i,hr,ade]
   refine Eq.trans ?_ ZB
   by_cases h0:0<i
   ·have e:W .i64 ((i:Int)-1)=((i-1:Nat):Int):=by rw[aw ω ω];omega
    rw[aR (x:=0) (y:=(i:Int)) ω,ak,e]
    dsimp only
    rw[aI,aW ω ω,ak,ZC h0]
   ·rw[aP (x:=0) (y:=(i:Int)) ω,av,aj (show uX i (l.getD (i-1) ((0:Int),(cf,bb))).1 (l.getD i ((0:Int),(cf,bb))).1 from λh=>absurd h h0)]
  ·unfold jG.l4 jG.dU
   rw[aP ω,av]
 ·rw[aR ω,ak,bu h12,uG]
abbrev AwS:=au×au×bJ
structure aja(z:AwS)(i:Nat):Prop where
 place: ∀x∈z.1,bY x.1 x.2.1
 q: ∀x∈z.1,aF (dJ x)∧q7 (dJ x)
 len:z.1.length≤12*i
 flat: ∀a:Int,(dg a z.1).sum=0
 key: ∀x∈z.2.1,db x.1 x.2.1
 qe: ∀x∈z.2.1,aF (dJ x)
 aDO:z.2.1.length≤2*i
 zero:(z.2.1.map dJ).sum=0
 out:z.2.2.length=i
theorem JD(a:Int)(l m:au):dg a (l++m)=dg a l++dg a m:=by
 induction l with
 |nil=>rfl
 |cons x t ih=>
  rw[mV,dx,dx,ih]
  split<;>rfl
theorem ak4{v:Int}(h:aF v∧q7 v):aF (0-v)∧q7 (0-v):=by
 unfold aF q7 at*;omega
theorem aja.nil:aja ([],[],[]) 0:=⟨λx hx=>(nomatch hx),λx hx=>(nomatch hx),aH _,λa=>rfl,λx hx=>(nomatch hx),λx hx=>(nomatch hx),aH _,rfl,rfl⟩
theorem dE{c:ae}{b:an}(h:df c b=true):eK b.2.2.1=true∧c6 b.2.2.2.1=true:=by
 unfold df at h
 have h1:=(c5.1 (c5.1 h).2).2
 have h2:=c5.1 h1
 have h3:=(c5.1 (c5.1 h2.2).2).1
 refine⟨h2.1,?_⟩
 unfold oj at h3
 exact(c5.1 h3).2
structure pI(b:an):Prop where
 w:om b
 r:b.2.2.1.length≤90000
 s:b.2.2.2.1.length≤90000
end VM
end
section
namespace VM
open Go VM.F
theorem ei(x:Int):aN x x=true:=dZ rfl
theorem ZD(x:BK):pC (.pair (.int .i64) (.pair (.int .i64) .unit)) x x=true:=by
 show(aN x.1 x.1&&(aN x.2.1 x.2.1&&true))=true
 rw[ei,ei];rfl
theorem SS(x:de):pC (.pair (.int .i64) (.pair (.int .i64) (.pair (.int .i64) .unit))) x x=true:=by
 show(aN x.1 x.1&&pC (.pair (.int .i64) (.pair (.int .i64) .unit)) x.2 x.2)=true
 rw[ei,ZD];rfl
theorem ZE(x:cG):pC (.pair (.int .i64) (.pair (.int .i64) (.pair (.int .i64) (.pair (.int .i64) .unit)))) x x=true:=by
 show(aN x.1 x.1&&pC (.pair (.int .i64) (.pair (.int .i64) (.pair (.int .i64) .unit))) x.2 x.2)=true
 rw[ei,SS];rfl
theorem ak5(x:fV):pC (.pair (.int .i64) (.pair (.int .i64) (.pair (.int .i64) (.pair (.int .i64) (.pair (.int .i64) (.pair (.int .i64) .unit)))))) x x=true:=by
 show(aN x.1 x.1&&(aN x.2.1 x.2.1&&pC (.pair (.int .i64) (.pair (.int .i64) (.pair (.int .i64) (.pair (.int .i64) .unit)))) x.2.2 x.2.2))=true
 rw[ei,ei,ZE];rfl
theorem pg{F:Nat→Int→Option Bool}{len:Nat}(hs: ∀n (i:Nat),i<len→F n ((i+1:Nat):Int)=some true→F (n+1) (i:Int)=some true)(he: ∀n,F (n+1) (len:Int)=some true): ∀(m n i:Nat),len-i≤m→m<n→i≤len→F n (i:Int)=some true
 |m,0,i,_,hn,_=>ω
 |m,n+1,i,hm,hn,hi=>by
  by_cases h:i<len
  ·exact hs n i h (pg hs he (m-1) n (i+1) ω ω ω)
  ·have:i=len:=ω
   subst this;exact he n
theorem Ph(N:Nat){l:aE}(hl:l.length≤100000)(hN:200000≤N):E5 N l l=some true:=by
 unfold E5 E5.b
 rw[ei,bh,av]
 refine pg (F:=λn i=>E5.l4 N n l l i) (len:=l.length) (λn i hi hr=> ?_) (λn=> ?_) l.length N 0 ω ω ω
 ·unfold E5.l4 E5.dU
  rw[aR ω,ak,aW ω ω,ak,ak,ZD,bh,av,aw (x:=(i:Int)+1) ω ω,af i]
  exact hr
 ·unfold E5.l4 E5.dU
  rw[aP ω,av]
theorem ZF(N:Nat){l:aO}(hl:l.length≤100000)(hN:200000≤N):E6 N l l=some true:=by
 unfold E6 E6.b
 rw[ei,bh,av]
 refine pg (F:=λn i=>E6.l4 N n l l i) (len:=l.length) (λn i hi hr=> ?_) (λn=> ?_) l.length N 0 ω ω ω
 ·unfold E6.l4 E6.dU
  rw[aR ω,ak,aW ω ω,ak,ak,ZE,bh,av,aw (x:=(i:Int)+1) ω ω,af i]
  exact hr
 ·unfold E6.l4 E6.dU
  rw[aP ω,av]
theorem Pj(N:Nat){l:au}(hl:l.length≤100000)(hN:200000≤N):C6 N l l=some true:=by
 unfold C6 C6.b
 rw[ei,bh,av]
 refine pg (F:=λn i=>C6.l4 N n l l i) (len:=l.length) (λn i hi hr=> ?_) (λn=> ?_) l.length N 0 ω ω ω
 ·unfold C6.l4 C6.dU
  rw[aR ω,ak,aW ω ω,ak,ak,SS,bh,av,aw (x:=(i:Int)+1) ω ω,af i]
  exact hr
 ·unfold C6.l4 C6.dU
  rw[aP ω,av]
theorem WG(N:Nat){l:au}(hl:l.length≤100000)(hN:200000≤N):E7 N l l=some true:=by
 unfold E7 E7.b
 rw[ei,bh,av]
 refine pg (F:=λn i=>E7.l4 N n l l i) (len:=l.length) (λn i hi hr=> ?_) (λn=> ?_) l.length N 0 ω ω ω
 ·unfold E7.l4 E7.dU
  rw[aR ω,ak,aW ω ω,ak,ak,SS,bh,av,aw (x:=(i:Int)+1) ω ω,af i]
  exact hr
 ·unfold E7.l4 E7.dU
  rw[aP ω,av]
theorem SU(N:Nat){l:aY}(hl:l.length≤100000)(hN:200000≤N):E8 N l l=some true:=by
 unfold E8 E8.b
 rw[ei,bh,av]
 refine pg (F:=λn i=>E8.l4 N n l l i) (len:=l.length) (λn i hi hr=> ?_) (λn=> ?_) l.length N 0 ω ω ω
 ·unfold E8.l4 E8.dU
  rw[aR ω,ak,aW ω ω,ak,ak,ak5,bh,av,aw (x:=(i:Int)+1) ω ω,af i]
  exact hr
 ·unfold E8.l4 E8.dU
  rw[aP ω,av]
theorem Pk(N:Nat){l:List (Int)}(hl:l.length≤100000)(hN:200000≤N):C8 N l l=some true:=by
 unfold C8 C8.b
 rw[ei,bh,av]
 refine pg (F:=λn i=>C8.l4 N n l l i) (len:=l.length) (λn i hi hr=> ?_) (λn=> ?_) l.length N 0 ω ω ω
 ·unfold C8.l4 C8.dU
  rw[aR ω,ak,aW ω ω,ak,ak,ei,bh,av,aw (x:=(i:Int)+1) ω ω,af i]
  exact hr
 ·unfold C8.l4 C8.dU
  rw[aP ω,av]
theorem Zn(N:Nat)(hN:200000≤N){b:an}(h1:b.1.length≤100000)(h2:b.2.1.length≤100000)(h3:b.2.2.1.length≤100000)(h4:b.2.2.2.1.length≤100000)(h5:b.2.2.2.2.1.length≤100000)(h6:b.2.2.2.2.2.1.length≤100000):F35 N b b=some true:=by
 unfold F35
 rw[Ph N h1 hN,ar,ak,ZF N h2 hN,ar,ak,Pj N h3 hN,ar,ak,WG N h4 hN,ar,ak,Pk N h5 hN,ar,ak,SU N h6 hN,ar]
theorem HA{P:Int→Prop} [DecidablePred P]{f:Int→Int→Int}: ∀{K:List dh} {o:au},dL P f K=some o→o.length≤K.length
 |[],o,h=>by
  have:some []=some o:=h
  rw[←mw this];exact aH _
 |k::t,o,h=>by
  rw[ix]at h
  by_cases hP:P (f k.1 k.2)
  ·rw[aj hP]at h
   cases hc:dL P f t with
   |none=>rw[hc]at h;exact absurd h (by simp)
   |some r=>
    have ih:=HA hc
    rw[hc]at h
    have h':=mw h
    rw[←h',aT]
    dsimp only
    split
    ·omega
    ·rw[aT];omega
  ·rw[ah hP]at h;exact absurd h (by simp)
theorem SV:iW.length=150:=by decide+kernel
theorem WH:lY.length=175:=by decide+kernel
structure ZG(b:an):Prop where
 m:b.1.length≤100000
 a:b.2.1.length≤100000
 r:b.2.2.1.length≤100000
 s:b.2.2.2.1.length≤100000
 p:b.2.2.2.2.1.length≤100000
 o:b.2.2.2.2.2.1.length≤100000
theorem C9:ZG (([]:aE),(([]:aO),(([]:au),(([]:au),(([]:List Int),(([]:aY),())))))):=⟨bz _,bz _,bz _,bz _,bz _,bz _⟩
theorem Pl{b:an}(w:om b)(s e:au):ZG (cc b s e).1:=by
 unfold cc
 cases h1:dL Fq (fS b.2.2.2.1 s) iW with
 |none=>exact C9
 |some s'=>
  cases h2:dL aF (fS b.2.2.1 e) lY with
  |none=>exact C9
  |some r'=>
   have g1:=HA h1
   have g2:=HA h2
   rw[SV]at g1
   rw[WH]at g2
   exact⟨w.m,w.a,by show r'.length≤_;omega,by show s'.length≤_;omega,w.p,w.o⟩
end VM
end
section
namespace VM
open Go VM.F Go.RowKit
def gR(a b:Int):au→Int
 |[]=>0
 |x::t=>if x.1=a then(if x.2.1=b then x.2.2.1 else gR a b t)else gR a b t
theorem iK(a b:Int)(x:de)(t:au):gR a b (x::t)=if x.1=a then(if x.2.1=b then x.2.2.1 else gR a b t)else gR a b t:=rfl
def gb(l:au)(a b:Int):Int:=if c6 l then gR a b l else 0
def tT(l:au)(a b:Int):Int:=if eK l then gR a b l else 0
theorem FK(N:Nat){l:au}(hl:l.length≤100000)(hN:200000≤N)(a b:Int):Cv N l a b=some (gb l a b):=by
 unfold Cv Cv.b gb
 rw[lR N hl hN,ar,cond_not]
 have:=Eb l ba (λn i=>Cv.l4 N n l a b i) (λt=>some (gR a b t)) (λn i hi hr=> ?_) (λn=> ?_) N ω
 ·rw[this];cases c6 l<;>rfl
 ·unfold Cv.l4 Cv.dU
  rw[aR ω,ak,aW ω ω,ak,ak,ak,aI,aw (x:=(i:Int)+1) ω ω,af i,hr,aL,aL,iK]
  split
  ·split<;>rfl
  ·rfl
 ·unfold Cv.l4 Cv.dU
  rw[aP ω,av];rfl
theorem Mj(N:Nat){l:au}(hl:l.length≤100000)(hN:200000≤N)(a b:Int):vm N l a b=some (tT l a b):=by
 unfold vm vm.b tT
 rw[Hk N hl hN,ar,cond_not]
 have:=Eb l ba (λn i=>vm.l4 N n l a b i) (λt=>some (gR a b t)) (λn i hi hr=> ?_) (λn=> ?_) N ω
 ·rw[this];cases eK l<;>rfl
 ·unfold vm.l4 vm.dU
  rw[aR ω,ak,aW ω ω,ak,ak,ak,aI,aw (x:=(i:Int)+1) ω ω,af i,hr,aL,aL,iK]
  split
  ·split<;>rfl
  ·rfl
 ·unfold vm.l4 vm.dU
  rw[aP ω,av];rfl
theorem B0{l:au}(h: ∀i,i<l.length→aF (dJ (l.getD i ba))):dV l:=λx hx=>by
 obtain⟨i,hi,e⟩:=gE hx
 have:=h i hi
 rw[aV,bo hi]at this
 rw[←e];exact this
namespace Pure
end Pure
end VM
end
section
namespace VM
open Go VM.F
theorem HB{l:au}(h:dV l)(a b:Int):aF (gR a b l):=by
 induction l with
 |nil=>show aF 0;decide
 |cons x t ih=>
  have ih:=ih (λy hy=>h y (aZ _ hy))
  rw[iK]
  split
  ·split
   ·exact h x (bq ..)
   ·exact ih
  ·exact ih
theorem ZH{l:au}(h:dV l)(a b:Int):aF (tT l a b):=by
 unfold tT
 split
 ·exact HB h a b
 ·exact⟨δ,δ⟩
def nj(a:Int):au→aE
 |[]=>[]
 |x::t=>if x.1=a then(x.2.1,(x.2.2.1,()))::nj a t else nj a t
theorem qd(a:Int)(x:de)(t:au):nj a (x::t)=if x.1=a then(x.2.1,(x.2.2.1,()))::nj a t else nj a t:=rfl
def posOf(l:au)(a:Int):aE:=if c6 l then nj a l else []
theorem HC(a:Int): ∀l:au,(nj a l).length≤l.length
 |[]=>aH _
 |x::t=>by
  have:=HC a t
  rw[qd,aT]
  split
  ·rw[aT];omega
  ·omega
theorem Kz(a:Int)(l:au):(posOf l a).length≤l.length:=by
 unfold posOf
 split
 ·exact HC a l
 ·exact bz _
theorem nk{a:Int}{y:BK}: ∀{l:au},y∈nj a l→ ∃x∈l,x.1=a∧y=(x.2.1,(x.2.2.1,()))
 |[],h=>nomatch h
 |x::t,h=>by
  rw[qd]at h
  by_cases e:x.1=a
  ·rw[aj e]at h
   rcases a8.1 h with h|h
   ·exact⟨x,bq ..,e,h⟩
   ·obtain⟨x',hx,h'⟩:=nk h
    exact⟨x',aZ _ hx,h'⟩
  ·rw[ah e]at h
   obtain⟨x',hx,h'⟩:=nk h
   exact⟨x',aZ _ hx,h'⟩
theorem ZI{l:au}(h:dV l)(a:Int): ∀y∈posOf l a,aF y.2.1:=λy hy=>by
 unfold posOf at hy
 split at hy
 ·obtain⟨x,hx,_,rfl⟩:=nk hy
  exact h x hx
 ·nomatch hy
theorem aqq(N:Nat){l:au}(hl:l.length≤100000)(hN:200000≤N)(a:Int):Ej N l a=some (posOf l a):=by
 unfold Ej Ej.b posOf
 rw[xY N hl hN,ar,cond_not]
 have:=nH l ba (λn i s=>Ej.l5 N n a s l (l.length:Int) i) (λt s=>some (s++nj a t)) (λi (s:aE)=>s.length≤i) (λn i s hi hI hr=> ?_) (λn s hI=> ?_) l.length N 0 [] ω ω ω (aH _)
 ·have e:Ej.l5 N N a [] l (l.length:Int) 0=some (nj a l):=this
  rw[e];cases c6 l<;>rfl
 ·unfold Ej.l5 Ej.eA
  rw[aR ω,ak,aW ω ω,ak,aI,aw (x:=(i:Int)+1) ω ω,af i,aL,bS (by rw[aK];omega),ak,qd]
  split
  ·rw[hr _ (by rw[aS,aK];omega),bE];rfl
  ·exact hr s ω
 ·unfold Ej.l5 Ej.eA
  rw[aP ω,av]
  show some s=some (s++[])
  rw[cw]
theorem ZJ(N:Nat){l:au}(hl:l.length≤100000)(hN:200000≤N)(a:Int):mL N l a=some (posOf l a):=by
 unfold mL mL.b posOf
 rw[lR N hl hN,ar,cond_not]
 have:=nH l ba (λn i s=>mL.l5 N n l a s i) (λt s=>some (s++nj a t)) (λi (s:aE)=>s.length≤i) (λn i s hi hI hr=> ?_) (λn s hI=> ?_) l.length N 0 [] ω ω ω (aH _)
 ·have e:mL.l5 N N l a [] 0=some (nj a l):=this
  rw[e];cases c6 l<;>rfl
 ·unfold mL.l5 mL.eA
  rw[aR ω,ak,aW ω ω,ak,ak,ak,aI,aw (x:=(i:Int)+1) ω ω,af i,aL,bS (by rw[aK];omega),ak,qd]
  split
  ·rw[hr _ (by rw[aS,aK];omega),bE];rfl
  ·exact hr s ω
 ·unfold mL.l5 mL.eA
  rw[aP ω,av]
  show some s=some (s++[])
  rw[cw]
def Mk(a n:Int):Prop:=0≤a∧a<n
theorem Ek{a:Int}: ∀{l:au},sE (l.map keyOf)→((nj a l).map (λy=>(y.1:Int))).Pairwise (· < ·)
 |[],_=>List.Pairwise.nil
 |x::t,h=>by
  obtain⟨h1,h2⟩:=eP.1 h
  have ih:=Ek (a:=a) h2
  rw[qd]
  by_cases e:x.1=a
  ·rw[aj e,bQ]
   refine eP.2 ⟨λz hz=> ?_,ih⟩
   obtain⟨y,hy,rfl⟩:=cV.1 hz
   obtain⟨x',hx,e',rfl⟩:=nk hy
   have hk:=h1 (keyOf x') (fh hx)
   have g: ∀p q r s:Int,p=a→r=a→lX p q r s→q<s:=λp q r s h1 h2 h=>by unfold lX at h;omega
   exact g _ _ _ _ e e' hk
  ·rw[ah e];exact ih
def cF(p:Int):Prop:=1≤p∧p≤1000000000000
instance(p:Int):Decidable (cF p):=by unfold cF;infer_instance
theorem sG(N:Nat)(p:Int):EZ N p=some (decide (cF p)):=(jx N p).trans (fj some (nU.2 Iff.rfl))
def kd(a b c d e:Int):Prop:=(0≤a∧a≤24)∧(0≤b∧b≤24)∧a≠b∧(0≤c∧c<6)∧(1≤d∧d≤1000000000)∧cF e
instance(a b c d e:Int):Decidable (kd a b c d e):=by unfold kd;infer_instance
def dq(t:iu):Prop:=kd t.1 t.2.1 t.2.2.1 t.2.2.2.1 t.2.2.2.2.1
instance:DecidablePred dq:=λt=>by unfold dq;infer_instance
theorem El(a b c d e:Int):cond (du 0 a) (cond (du a 24) (cond (du 0 b) (cond (du b 24) (cond (!aN a b) (cond (du 0 c) (cond (aX c 6) (cond (du 1 d) (cond (du d 1000000000) (some (decide (cF e))) (some false)) (some false)) (some false)) (some false)) (some false)) (some false)) (some false)) (some false)) (some false)=some (decide (kd a b c d e)):=by
 simp only[cz,cond_not,aL,cy]
 by_cases hP:kd a b c d e
 ·have hp:=hP.2.2.2.2.2
  rw[aU hP,aU hp]
  unfold kd at hP
  repeat' split
  all_goals first|rfl|omega
 ·rw[bu hP]
  by_cases hp:cF e
  ·unfold kd at hP
   repeat' split
   all_goals first|rfl|(exact absurd ⟨ω,ω,ω,ω,ω,hp⟩ hP)
  ·rw[bu hp]
   repeat' split
   all_goals rfl
theorem u7(N:Nat)(t:iu):ZK N t=some (decide (dq t)):=by
 unfold ZK
 rw[sG,ar]
 exact El _ _ _ _ _
def mK(a x:Int):de:=if a=0 then((2:Int),((0:Int),(x,())))else((5:Int),(a,(x,())))
def mh(t:iu)(p:Int):au:=if p-t.2.2.2.2.1=0 then []else [mK t.1 ((p-t.2.2.2.2.1)*t.2.2.2.1),mK t.2.1 (-((p-t.2.2.2.2.1)*t.2.2.2.1))]
def kI(b:an)(t:iu):Int:=b.2.2.2.2.1.getD t.2.2.1.toNat 0
def iv:bf→au
 |[]=>[]
 |t::r=>(t.1,(t.2.2.1,(t.2.2.2.1,())))::(t.2.1,(t.2.2.1,((0-t.2.2.2.1:Int),())))::iv r
def iX(b:an):bf→au
 |[]=>[]
 |t::r=>mh t (kI b t)++iX b r
theorem qf(t:iu)(r:bf):iv (t::r)=(t.1,(t.2.2.1,(t.2.2.2.1,())))::(t.2.1,(t.2.2.1,((0-t.2.2.2.1:Int),())))::iv r:=rfl
theorem tU(b:an)(t:iu)(r:bf):iX b (t::r)=mh t (kI b t)++iX b r:=rfl
theorem y6(a x:Int)(N:Nat):Ml N a=some ((mK a x).1,(mK a x).2.1):=by
 unfold Ml mK
 rw[aL]
 by_cases h:a=0
 ·rw[aj h,aj h]
 ·rw[ah h,ah h]
theorem fX(a x:Int):dJ (mK a x)=x:=by unfold mK;split<;>rfl
theorem Da{d q:Int}(h1: -1000000000000≤d∧d≤1000000000000)(h2:1≤q∧q≤1000000000): -1000000000000000000000≤d*q∧d*q≤1000000000000000000000∧(d*q=0↔d=0):=by
 refine⟨?_,?_,?_⟩
 ·have:=AA h1.1 (show 0≤q by omega)
  have h3: -1000000000000*1000000000≤ -1000000000000*q:=ω
  omega
 ·have:=AA h1.2 (show 0≤q by omega)
  have h3:1000000000000*q≤1000000000000*1000000000:=ω
  omega
 ·rw[Int.mul_eq_zero];omega
theorem zJ(N:Nat)(hN:4000000≤N){t:iu}{p:Int}(ht:dq t)(hp:cF p):Pm N t p=some ((mh t p).map gG,0):=by
 unfold Pm mh
 have hq:=ht.2.2.2.2.1
 have he:=ht.2.2.2.2.2
 rw[u7,ar,aU ht,bh,av,sG,ar,aU hp,bh,av]
 unfold cF at hp he
 generalize t.2.2.2.2.1=e at*
 generalize t.2.2.2.1=q at*
 have hd: -1000000000000≤p-e∧p-e≤1000000000000:=ω
 have hn:=Da hd hq
 have ada:cT ((p-e)*q):=by unfold cT;omega
 rw[aw (x:=p-e) ω ω,dC N ω ω ω,ar,dC N ω ω ω,ar,xW N hN ((Fit.i64 ω ω).mono ω) ((Fit.i64 ω ω).mono ω),ar,ob,ar,aL]
 by_cases h:p-e=0
 ·rw[aj h,aj (by rw[hn.2.2.2 h];rfl)];rfl
 ·rw[ah h,ah (λk=>h (hn.2.2.1 (jz.1 k))),y6 t.1 ((p-e)*q),ar,y6 t.2.1 (-((p-e)*q)),ar,o9 N hN (FI ada),ar,bQ,bQ,gM]
  unfold gG
  rw[fX,fX]
def gd(c:ae)(b:an)(t:iu):Bool:=
 ((eS b.2.1 t.1).2||decide (dG t.1 0))&&(((eS b.2.1 t.2.1).2||decide (dG t.2.1 0))&&decide (lF t.2.2.1 c.1.length))
def ll(c:ae)(b:an)(l:bf):an×Int:=
 if df c b then(if l.length≤200 then(if l.all (λt=>decide (dq t))then(if l.all (gd c b)then cc b (iv l) (iX b l)else((cf,(cS,(bn,(bn,(dd,(dm,())))))),3))else((cf,(cS,(bn,(bn,(dd,(dm,())))))),1))else((cf,(cS,(bn,(bn,(dd,(dm,())))))),1))else((cf,(cS,(bn,(bn,(dd,(dm,())))))),1)
theorem dY{c:ae}{b:an}(h:df c b=true):b.2.2.2.2.1.length=c.1.length∧fe b.2.2.2.2.1=true:=by
 unfold df at h
 simp only[bM]at h
 have h1:=bt h.2.2.2.2.2.2.1
 unfold dG at h1
 exact⟨ω,h.2.2.2.2.2.2.2.2.2.2⟩
theorem wb: ∀l:bf,(iv l).length=2*l.length
 |[]=>rfl
 |t::r=>by rw[qf,aT,aT,aT,wb r];omega
theorem Ak(t:iu)(p:Int):(mh t p).length≤2:=by
 unfold mh
 split
 ·exact bz _
 ·exact aH 2
theorem wc(b:an): ∀l:bf,(iX b l).length≤2*l.length
 |[]=>aH _
 |t::r=>by
  have:=Ak t (kI b t)
  have:=wc b r
  rw[tU,aS,aT];omega
theorem ou{l:List Int}(h:fe l=true){i:Nat}(hi:i<l.length):cF (l.getD i 0):=bt h i hi
theorem SW(i:Int)(a b:de)(l:au)(h:a.2.1=b.2.1)(hs:dJ a+dJ b=0):(dg i (a::b::l)).sum=(dg i l).sum:=by
 rw[dx,dx]
 by_cases e:a.2.1=i
 ·rw[aj e,aj (h.symm.trans e),cE,cE];omega
 ·rw[ah e,ah (λk=>e (h.trans k))]
theorem Em: ∀{l:bf},(∀t∈l,dq t)→(∀x∈iv l,bY x.1 x.2.1∧aF (dJ x)∧q7 (dJ x))∧ ∀i:Int,(dg i (iv l)).sum=0
 |[],_=>⟨λx hx=>(nomatch hx),λi=>rfl⟩
 |t::r,h=>by
  obtain⟨h1,h2⟩:=Em (l:=r) (λy hy=>h y (aZ _ hy))
  have ht:=h t (bq ..)
  unfold dq kd at ht
  have g: ∀a b c d:Int,(0≤a∧a≤24)→(0≤b∧b≤24)→(0≤c∧c<6)→(1≤d∧d≤1000000000)→(bY a c∧aF d∧q7 d)∧(bY b c∧aF (0-d)∧q7 (0-d)):=λa b c d _ _ _ _=>by unfold bY aF q7;omega
  have hg:=g _ _ _ _ ht.1 ht.2.1 ht.2.2.2.1 ht.2.2.2.2.1
  refine⟨λx hx=> ?_,λi=> ?_⟩
  ·rw[qf]at hx
   rcases a8.1 hx with e|hx
   ·rw[e];exact hg.1
   ·rcases a8.1 hx with e|hx
    ·rw[e];exact hg.2
    ·exact h1 x hx
  ·rw[qf]
   have hz: ∀d:Int,d+(0-d)=0:=λd=>ω
   exact(SW i (t.1,(t.2.2.1,(t.2.2.2.1,()))) (t.2.1,(t.2.2.1,((0-t.2.2.2.1:Int),()))) (iv r) rfl (hz t.2.2.2.1)).trans (h2 i)
theorem SX{t:iu}{p:Int}(ht:dq t)(hp:cF p):cT ((p-t.2.2.2.2.1)*t.2.2.2.1)∧cT (-((p-t.2.2.2.2.1)*t.2.2.2.1)):=by
 have hq:=ht.2.2.2.2.1
 have he:=ht.2.2.2.2.2
 unfold cF at hp he
 generalize t.2.2.2.2.1=e at*
 generalize t.2.2.2.1=q at*
 have hn:=Da (d:=p-e) ω hq
 unfold cT
 omega
theorem HD{a x:Int}(h:0≤a∧a≤24):db (mK a x).1 (mK a x).2.1:=by
 unfold mK
 by_cases e:a=0
 ·rw[aj e];show db 2 0;decide
 ·rw[ah e];show db 5 a;unfold db;omega
theorem Pn{t:iu}{p:Int}(ht:dq t)(hp:cF p):(∀x∈mh t p,db x.1 x.2.1∧cT (dJ x))∧((mh t p).map dJ).sum=0:=by
 have hn:=SX ht hp
 unfold mh
 split
 ·exact⟨λx hx=>(nomatch hx),rfl⟩
 ·refine⟨λx hx=> ?_,?_⟩
  ·rcases a8.1 hx with e|hx
   ·rw[e,fX];exact⟨HD ht.1,hn.1⟩
   ·rw[cr.1 hx,fX];exact⟨HD ht.2.1,hn.2⟩
  ·rw[bQ,bQ,gM,cE,cE,jm,fX,fX];omega
theorem En{b:an}: ∀{l:bf},(∀t∈l,dq t∧cF (kI b t))→(∀x∈iX b l,db x.1 x.2.1∧cT (dJ x))∧((iX b l).map dJ).sum=0
 |[],_=>⟨λx hx=>(nomatch hx),rfl⟩
 |t::r,h=>by
  obtain⟨h1,h2⟩:=En (b:=b) (l:=r) (λy hy=>h y (aZ _ hy))
  have ht:=h t (bq ..)
  have hc:=Pn ht.1 ht.2
  rw[tU]
  refine⟨λx hx=>(bl.1 hx).elim (hc.1 x) (h1 x),?_⟩
  rw[dj,nS,hc.2,h2];rfl
theorem KA{l:bf}(h: ∀t∈l,dq t)(hl:l.length≤200):O6 (iv l):=by
 obtain⟨h1,h2⟩:=Em h
 exact⟨λx hx=>(h1 x hx).1,λx hx=>(h1 x hx).2,by rw[wb];omega,h2⟩
theorem KB{b:an}{l:bf}(h: ∀t∈l,dq t∧cF (kI b t))(hl:l.length≤200):O9 (iX b l):=by
 obtain⟨h1,h2⟩:=En h
 have:=wc b l
 exact⟨λx hx=>(h1 x hx).1,λx hx=>(h1 x hx).2,ω,h2⟩
theorem Mm(N:Nat)(hN:4000000≤N)(c:ae){b:an}(w:pI b)(hB:df c b=true){l:bf}(hk: ∀t∈l,dq t)(hl:l.length≤200):
  fm.Al N N l c b (cf,(cS,(bn,(bn,(dd,(dm,())))))) [] [] 0=some (if l.all (gd c b)then cc b (iv l) (iX b l)else((cf,(cS,(bn,(bn,(dd,(dm,())))))),3)):=by
 obtain⟨hr,hs⟩:=dE hB
 obtain⟨Bl,Bo⟩:=dY hB
 have gs:=KA hk hl
 have:=nH l gl (λn i (z:au×au)=>fm.Al N n l c b (cf,(cS,(bn,(bn,(dd,(dm,())))))) z.1 (z.2.map gG) i)
  (λu z=>some (if u.all (gd c b)then cc b (iv l) (iX b l)else((cf,(cS,(bn,(bn,(dd,(dm,())))))),3)))
  (λi z=>z.1++iv (l.drop i)=iv l∧z.2++iX b (l.drop i)=iX b l∧ ∀j,j<i→gd c b (l.getD j gl)=true)
  (λn i z hi hI BI=> ?_) (λn z hI=> ?_) l.length N 0 ([],[]) ω ω ω ⟨rfl,rfl,λj hj=>absurd hj ω⟩
 ·exact this
 ·unfold fm.Al fm.yf
  obtain⟨i1,i2,i3⟩:=hI
  have hls:=wb l
  have hle:=wc b l
  have z1:z.1.length≤400:=by rw[←i1,aS]at hls;omega
  have z2:z.2.length≤400:=by rw[←i2,aS]at hle;omega
  have hm:l.getD i gl∈l:=by
   rw[aV,bo hi];exact dO hi
  have ht:=hk _ hm
  rw[drop_cons hi gl,qf]at i1
  rw[drop_cons hi gl,tU]at i2
  rw[aR ω,ak,aW ω ω,ak,aI,aw (x:=(i:Int)+1) ω ω,af i,xj]
  have i4:gd c b (l.getD i gl)=true→ ∀j,j<i+1→gd c b (l.getD j gl)=true:=λh j hj=>by
   by_cases e:j=i
   ·rw[e];exact h
   ·exact i3 j ω
  generalize l.getD i gl=t at*
  have hq:=ht.2.2.2.2.1
  have ka:=ht.2.2.2.1
  rw[p9 N b w.w.a ω,ar,p9 N b w.w.a ω,ar,cond_not,cond_not,cz]
  have e0:W .i64 (0-t.2.2.2.1)=0-t.2.2.2.1:=by
   have g: ∀d:Int,1≤d∧d≤1000000000→W .i64 (0-d)=0-d:=λd _=>aw ω ω
   exact g _ hq
  rw[e0]
  dsimp only
  by_cases h1:((eS b.2.1 t.1).2||decide (dG t.1 0))=false
  ·have:gd c b t=false:=by unfold gd;rw[h1];rfl
   rw[h1,this];rfl
  ·rw[rR]at h1
   rw[h1,ak]
   by_cases h2:((eS b.2.1 t.2.1).2||decide (dG t.2.1 0))=false
   ·have:gd c b t=false:=by unfold gd;rw[h1,h2];rfl
    rw[h2,this];rfl
   ·rw[rR]at h2
    rw[h2,ak]
    by_cases h3:(c.1.length:Int)≤t.2.2.1
    ·have:gd c b t=false:=by
      unfold gd
      rw[h1,h2,bu (show ¬lF t.2.2.1 c.1.length from λh=>by unfold lF at h;exact absurd h (nY.2 h3))];rfl
     rw[aj h3,this];rfl
    ·have eU:t.2.2.1<(c.1.length:Int):=uI.1 h3
     have hth:gd c b t=true:=by
      unfold gd
      rw[h1,h2,aU (show lF t.2.2.1 c.1.length from eU)];rfl
     have WI:t.2.2.1.toNat<b.2.2.2.2.1.length:=by
      have g: ∀x:Int,(0≤x∧x<6)→x<(c.1.length:Int)→x.toNat<b.2.2.2.2.1.length:=λx _ _=>ω
      exact g _ ka eU
     have R9:bc t.2.2.1 b.2.2.2.2.1.length=true:=by
      have g: ∀x:Int,(0≤x∧x<6)→x<(c.1.length:Int)→bc x b.2.2.2.2.1.length=true:=λx _ _=>aW ω ω
      exact g _ ka eU
     have hp:cF (kI b t):=ou Bo WI
     have htp:Pm N t (b.2.2.2.2.1.getD t.2.2.1.toNat 0)=some ((mh t (kI b t)).map gG,0):=zJ N hN ht hp
     have Ft:=Ak t (kI b t)
     rw[ah h3,bS (by rw[aT,aK];omega),ak,R9,ak,htp,ar,bS (by rw[cD,cD];omega),ak,hth,kR]
     have:=BI (z.1++[(t.1,(t.2.2.1,(t.2.2.2.1,()))),(t.2.1,(t.2.2.1,((0-t.2.2.2.1:Int),())))],z.2++mh t (kI b t)) ⟨by rw[←i1,bE];rfl,by rw[←i2,bE],i4 hth⟩
     rw[dj]at this
     exact this
 ·unfold fm.Al fm.yf
  obtain⟨i1,i2,i3⟩:=hI
  rw[mW]at i1 i2
  have e1:z.1=iv l:=by rw[←i1];exact(cw _).symm
  have e2:z.2=iX b l:=by rw[←i2];exact(cw _).symm
  have iQ: ∀t∈l,dq t∧cF (kI b t):=λt ht=>by
   obtain⟨i,hi,e⟩:=gE ht
   have h:=i3 i hi
   rw[aV,bo hi]at h
   simp only[nR,e]at h
   unfold gd at h
   have eU:=bt (c5.1 (c5.1 h).2).2
   have ka:=(hk t ht).2.2.2.1
   have WI:t.2.2.1.toNat<b.2.2.2.2.1.length:=by
    have g: ∀x:Int,(0≤x∧x<6)→lF x c.1.length→x.toNat<b.2.2.2.2.1.length:=λx _ h=>by unfold lF at h;omega
    exact g _ ka eU
   exact⟨hk t ht,ou Bo WI⟩
  rw[aP ω,av,e1,e2,UG N hN w.w hr hs w.r w.s gs (KB iQ hl),ar]
  rfl
theorem Hs(N:Nat)(hN:5000000≤N)(c:ae){b:an}(w:pI b){l:bf}(hl:l.length≤100000):fm N c b l=some (ll c b l):=by
 unfold fm fm.b ll
 rw[BP N hN w.w,ar,cond_not,cy]
 by_cases hB:df c b=false
 ·rw[hB];rfl
 rw[rR]at hB
 rw[hB,ak,aj rfl]
 by_cases SY:l.length≤200
 ·rw[ah ω,aj SY]
  have key: ∀(m n i:Nat),l.length-i≤m→m<n→i≤l.length→(∀j,j<i→dq (l.getD j gl))→fm.l4 N n l c b (cf,(cS,(bn,(bn,(dd,(dm,())))))) (i:Int)=some (if l.all (λt=>decide (dq t))then(if l.all (gd c b)then cc b (iv l) (iX b l)else((cf,(cS,(bn,(bn,(dd,(dm,())))))),3))else((cf,(cS,(bn,(bn,(dd,(dm,())))))),1)):=by
   intro m n
   induction n generalizing m with
   |zero=>intro i _ hn;omega
   |succ n ih=>
    intro i hm hn hi hj
    unfold fm.l4 fm.dU
    by_cases h:i<l.length
    ·rw[aR ω,ak,aW ω ω,ak,aI,u7,ar,cond_not,fU,aw (x:=(i:Int)+1) ω ω,af i]
     by_cases hk:dq (l.getD i gl)
     ·rw[aj hk]
      exact ih (m-1) (i+1) ω ω ω λj XS=>by
       by_cases e:j=i
       ·rw[e];exact hk
       ·exact hj j ω
     ·rw[ah hk]
      have hf:l.all (λt=>decide (dq t))=false:=by
       rw[List.all_eq_false]
       refine⟨l.getD i gl,?_,by rw[bu hk];decide⟩
       rw[aV,bo h];exact dO h
      rw[hf];rfl
    ·have hk: ∀t∈l,dq t:=λt ht=>by
      obtain⟨k,hk,e⟩:=gE ht
      have:=hj k ω
      rw[aV,bo hk]at this
      rw[←e];exact this
     have ha:l.all (λt=>decide (dq t))=true:=pB.2 λt ht=>aU (hk t ht)
     rw[aP ω,av,ha,aj rfl]
     exact Mm N ω c w hB hk SY
  exact key l.length N 0 ω ω ω (λj hj=>absurd hj ω)
 ·rw[aj ω,ah SY]
theorem we{c:ae}{b:an}(h:df c b=true):eJ c=true:=by
 unfold df at h
 exact(c5.1 h).1
def oz(k:Int):Nat→aO→List Int
 |_,[]=>[]
 |i,x::t=>if x.1=k then(i:Int)::oz k (i+1) t else oz k (i+1) t
theorem B1(k:Int)(i:Nat)(x:cG)(t:aO):oz k i (x::t)=if x.1=k then(i:Int)::oz k (i+1) t else oz k (i+1) t:=rfl
def jA(c:ae)(k:Int):List Int:=if eJ c then oz k 0 c.1 else []
theorem SZ(N:Nat)(hN:200000≤N)(c:ae)(hl:c.1.length≤100000)(k:Int):qg N c k=some (jA c k):=by
 unfold qg qg.b jA
 rw[oe N ω,ar,cond_not]
 have:=nH c.1 bb (λn i s=>qg.l5 N n k c s i) (λt s=>some (s++oz k (c.1.length-t.length) t)) (λi (s:List Int)=>s.length≤i) (λn i s hi hI hr=> ?_) (λn s hI=> ?_) c.1.length N 0 [] ω ω ω (aH _)
 ·have e:qg.l5 N N k c [] 0=some (oz k 0 c.1):=by
   refine this.trans ?_
   rw[cQ,uH];rfl
  rw[e];cases eJ c<;>rfl
 ·unfold qg.l5 qg.eA
  have e1:c.1.length-(c.1.getD i bb::c.1.drop (i+1)).length=i:=by rw[aT,eg];omega
  have e2:c.1.length-(c.1.drop (i+1)).length=i+1:=by rw[eg];omega
  rw[e2]at hr
  rw[aR ω,ak,aW ω ω,ak,aI,aw (x:=(i:Int)+1) ω ω,af i,aL,bS (by rw[aK];omega),ak,e1,B1]
  split
  ·rw[hr _ (by rw[aS,aK];omega),bE];rfl
  ·exact hr s ω
 ·unfold qg.l5 qg.eA
  rw[aP ω,av]
  show some s=some (s++[])
  rw[cw]
theorem qc{c:ae}(h:eJ c=true):c.1.length≤6∧ ∀i,i<c.1.length→0≤(c.1.getD i bb).1∧(c.1.getD i bb).1≤3:=by
 unfold eJ at h
 simp only[bM]at h
 have h1:=bt h.1
 have h2:=bt h.2.1
 exact⟨h1.2,λi hi=>(h2 i hi).1⟩
theorem ZL{l:au}(h:dV l)(a b:Int):aF (gb l a b):=by
 unfold gb
 cases c6 l
 ·show aF 0;decide
 ·exact HB h a b
theorem sH(N:Nat)(p:Int):F81 N p=some (decide (cF p)):=(CT N p).trans (fj some (nU.2 Iff.rfl))
theorem KC(N:Nat)(hN:10≤N)(t:iu):ph N t=some (decide (dq t)):=by
 obtain⟨n,rfl⟩: ∃n,N=n+3:=⟨N-3,ω⟩
 refine Eq.trans ?_ (El t.1 t.2.1 t.2.2.1 t.2.2.2.1 t.2.2.2.2.1)
 unfold ph ph.b
 have el:List.set (List.set (List.replicate 2 (0:Int)) 0 t.1) 1 t.2.1=[t.1,t.2.1]:=rfl
 rw[el]
 generalize hl:[t.1,t.2.1]=l
 have g0:l.getD (0:Int).toNat 0=t.1:=by rw[←hl];rfl
 have g1:l.getD (1:Int).toNat 0=t.2.1:=by rw[←hl];rfl
 unfold ph.l2 ph.fG
 unfold ph.l2 ph.fG
 unfold ph.l2 ph.fG
 rw[aR (x:=0) ω,ak,aW (i:=0) ω ω,ak,aw (x:=0+1) ω ω,show(0:Int)+1=1 from rfl,aR (x:=1) (y:=2) ω,ak,aW (i:=1) ω ω,ak,aw (x:=1+1) ω ω,show(1:Int)+1=2 from rfl,aP (x:=2) (y:=2) ω,av,g0,g1,sH,ar]
 simp only[cz,cond_not,aL,cy]
 by_cases a1:t.1<0
 ·rw[aj a1,ah (uI.2 a1)]
 rw[ah a1,aj (nY.1 a1)]
 by_cases a2:24<t.1
 ·rw[aj a2,ah (uI.2 a2)]
 rw[ah a2,aj (nY.1 a2)]
 by_cases a3:t.2.1<0
 ·rw[aj a3,ah (uI.2 a3)]
 rw[ah a3,aj (nY.1 a3)]
 by_cases a4:24<t.2.1
 ·rw[aj a4,ah (uI.2 a4)]
 rw[ah a4,aj (nY.1 a4)]
theorem Db(N:Nat)(a x:Int):WJ N a (cN x)=some (iJ (mK a x)):=by
 unfold WJ mK iJ
 rw[aL]
 by_cases h:a=0
 ·rw[aj h,aj h];rfl
 ·rw[ah h,ah h];rfl
theorem S1(N:Nat)(hN:100≤N){t:iu}{p:Int}(ht:dq t)(hp:cF p):ZM N t p=some ((mh t p).map iJ,0):=by
 unfold ZM mh
 have hq:=ht.2.2.2.2.1
 have he:=ht.2.2.2.2.2
 rw[KC N ω,ar,aU ht,bh,av,sH,ar,aU hp,bh,av,aL]
 unfold cF at hp he
 generalize t.2.2.2.2.1=e at*
 generalize t.2.2.2.1=q at*
 by_cases h:p=e
 ·rw[aj h,aj ω];rfl
 ·rw[ah h,ah ω,aw (x:=p-e) ω ω,aw (x:=e-p) ω ω,L0 N ω ω ω ω,ar,Db,ar,L0 N ω ω ω ω,ar,Db,ar,bQ,bQ,gM,jl q (p-e)]
  have e2:q*(e-p)= -((p-e)*q):=by rw[jl,←Int.neg_mul];congr 1;omega
  rw[e2]
theorem adf(N:Nat){u v:Int}(hu:cT u)(hv:cT v)(hs:cT (u+v)):ZN N (cN u) (cN v)=some (cN (u+v),true):=by
 unfold ZN cN
 unfold cT at*
 dsimp only
 have hp:0≤u%18446744073709551616∧u%18446744073709551616<18446744073709551616:=ω
 have hq:0≤v%18446744073709551616∧v%18446744073709551616<18446744073709551616:=ω
 rw[pZ,pZ,xS N ω ω ω ω,ar]
 dsimp only
 have hc:0≤(u%18446744073709551616+v%18446744073709551616+0)/18446744073709551616∧(u%18446744073709551616+v%18446744073709551616+0)/18446744073709551616≤1:=ω
 have e1:(u%18446744073709551616+v%18446744073709551616+0)%18446744073709551616=(u+v)%18446744073709551616:=ω
 have e2:u/18446744073709551616+v/18446744073709551616+(u%18446744073709551616+v%18446744073709551616+0)/18446744073709551616=(u+v)/18446744073709551616:=ω
 have h3: -9223372036854775808≤(u+v)/18446744073709551616∧(u+v)/18446744073709551616<9223372036854775808:=ω
 rw[xS N ω ω hc.1 hc.2,ar]
 dsimp only
 have e3:W .i64 ((u/18446744073709551616%18446744073709551616+v/18446744073709551616%18446744073709551616+(u%18446744073709551616+v%18446744073709551616+0)/18446744073709551616)%18446744073709551616)=(u+v)/18446744073709551616:=by
  rw[gF];split<;>omega
 rw[e3,e1]
 have key: ∀A B C:Int,A=u/18446744073709551616→B=v/18446744073709551616→C=(u+v)/18446744073709551616→(A<0∧B<0→C<0)∧(¬A<0∧ ¬B<0→ ¬C<0):=λA B C _ _ _=>ω
 have k:=key _ _ _ rfl rfl rfl
 simp only[p3,qw]
 by_cases a:u/18446744073709551616<0<;>by_cases b:v/18446744073709551616<0
 ·have c:=k.1 ⟨a,b⟩
  rw[aU a,aU b,aU c];rfl
 ·rw[aU a,bu b];rfl
 ·rw[bu a,aU b];rfl
 ·have c:=k.2 ⟨a,b⟩
  rw[bu a,bu b,bu c];rfl
theorem Eo(N:Nat)(hN:10≤N){l:bf}(hl:l.length≤100000): ∀(m n i:Nat),l.length-i≤m→m<n→i≤l.length→
  ∃r,th.l2 N n l () (l.length:Int) (i:Int)=some r∧(du 0 r= !(l.drop i).all (λt=>decide (dq t)))
 |m,0,i,_,hn,_=>ω
 |m,n+1,i,hm,hn,hi=>by
  unfold th.l2 th.fG ak7
  by_cases h:i<l.length
  ·rw[aR ω,ak,aW ω ω,ak,aI,KC N hN,ar,ar,cond_not,fU,drop_cons h gl,xj]
   by_cases hP:dq (l.getD i gl)
   ·rw[aj hP,aw ω ω,aU hP,kR]
    exact Eo N hN hl (m-1) n (i+1) ω ω ω
   ·rw[ah hP,bu hP,uG]
    exact⟨_,rfl,by rw[fM ω];rfl⟩
  ·have e:i=l.length:=ω
   subst e
   rw[aP ω,av,mW]
   exact⟨_,rfl,by rw[fF ω];rfl⟩
theorem S2(N:Nat){l:bf}(hl:l.length≤100000)(hN:200000≤N):adg N l ()=some (!l.all (λt=>decide (dq t))):=by
 unfold adg th th.b
 obtain⟨r,e,h⟩:=Eo N ω hl l.length N 0 ω ω ω
 rw[show((0:Nat):Int)=0 from rfl]at e
 rw[e,ar,h,cQ]
theorem Po(N:Nat)(hN:4000000≤N)(c:ae){b:an}(w:pI b)(hB:df c b=true){l:bf}(hk: ∀t∈l,dq t)(hth: ∀t∈l,gd c b t=true)(hl:l.length≤200):
  uu.oM N N b (cf,(cS,(bn,(bn,(dd,(dm,())))))) [] [] l (l.length:Int) 0=some (cc b (iv l) (iX b l)):=by
 obtain⟨hr,hs⟩:=dE hB
 obtain⟨Bl,Bo⟩:=dY hB
 have gs:=KA hk hl
 have WI: ∀t∈l,t.2.2.1.toNat<b.2.2.2.2.1.length∧bc t.2.2.1 b.2.2.2.2.1.length=true:=λt ht=>by
  have h:=hth t ht
  unfold gd at h
  have eU:=bt (c5.1 (c5.1 h).2).2
  have ka:=(hk t ht).2.2.2.1
  have g: ∀x:Int,(0≤x∧x<6)→lF x c.1.length→x.toNat<b.2.2.2.2.1.length∧bc x b.2.2.2.2.1.length=true:=λx _ h=>by unfold lF at h;exact⟨ω,aW ω ω⟩
  exact g _ ka eU
 have iQ: ∀t∈l,dq t∧cF (kI b t):=λt ht=>⟨hk t ht,ou Bo (WI t ht).1⟩
 have:=nH l gl (λn i (z:au×au)=>uu.oM N n b (cf,(cS,(bn,(bn,(dd,(dm,())))))) z.1 (z.2.map iJ) l (l.length:Int) i)
  (λu z=>some (cc b (iv l) (iX b l)))
  (λi z=>z.1++iv (l.drop i)=iv l∧z.2++iX b (l.drop i)=iX b l)
  (λn i z hi hI BI=> ?_) (λn z hI=> ?_) l.length N 0 ([],[]) ω ω ω ⟨rfl,rfl⟩
 ·exact this
 ·unfold uu.oM uu.nK
  obtain⟨i1,i2⟩:=hI
  have hls:=wb l
  have hle:=wc b l
  have z1:z.1.length≤400:=by rw[←i1,aS]at hls;omega
  have z2:z.2.length≤400:=by rw[←i2,aS]at hle;omega
  have hm:l.getD i gl∈l:=by
   rw[aV,bo hi];exact dO hi
  have ht:=hk _ hm
  have hn:=WI _ hm
  have hp:=(iQ _ hm).2
  rw[drop_cons hi gl,qf]at i1
  rw[drop_cons hi gl,tU]at i2
  rw[aR ω,ak,aW ω ω,ak,aI,aw (x:=(i:Int)+1) ω ω,af i]
  generalize l.getD i gl=t at*
  have hq:=ht.2.2.2.2.1
  have e0:W .i64 (0-t.2.2.2.1)=0-t.2.2.2.1:=by
   have g: ∀d:Int,1≤d∧d≤1000000000→W .i64 (0-d)=0-d:=λd _=>aw ω ω
   exact g _ hq
  rw[e0]
  dsimp only
  have htp:ZM N t (b.2.2.2.2.1.getD t.2.2.1.toNat 0)=some ((mh t (kI b t)).map iJ,0):=S1 N ω ht hp
  have Ft:=Ak t (kI b t)
  rw[bS (by rw[aT,aK];omega),ak,hn.2,ak,htp,ar,bS (by rw[cD,cD];omega),ak]
  have:=BI (z.1++[(t.1,(t.2.2.1,(t.2.2.2.1,()))),(t.2.1,(t.2.2.1,((0-t.2.2.2.1:Int),())))],z.2++mh t (kI b t)) ⟨by rw[←i1,bE];rfl,by rw[←i2,bE]⟩
  rw[dj]at this
  exact this
 ·unfold uu.oM uu.nK
  obtain⟨i1,i2⟩:=hI
  rw[mW]at i1 i2
  have e1:z.1=iv l:=by rw[←i1];exact(cw _).symm
  have e2:z.2=iX b l:=by rw[←i2];exact(cw _).symm
  rw[aP ω,av,e1,e2,Pg N ω w.w hr hs w.r w.s gs (KB iQ hl),ar]
theorem B2{f:Bool}{a:Int}{r:Option (an×Int)}:cond (!aN a 0) (cond (!f) (some ((cf,(cS,(bn,(bn,(dd,(dm,())))))),(3:Int))) r) r=if(f||decide (dG a 0))=true then r else some ((cf,(cS,(bn,(bn,(dd,(dm,())))))),(3:Int)):=by
 rw[cond_not,aL,cond_not]
 by_cases h:a=0
 ·rw[aj h,aU (show dG a 0 from h),Bool.or_true,aj rfl]
 ·rw[ah h,bu (show ¬dG a 0 from h),rX]
  cases f<;>rfl
theorem Kj(N:Nat)(hN:4000000≤N)(c:ae){b:an}(w:pI b){l:bf}(hl:l.length≤100000):uu N c b l=some (ll c b l):=by
 unfold uu uu.b ll
 rw[tQ N hN w.w,ar,cond_not,cy,S2 N hl ω,ar,cond_not]
 by_cases hB:df c b=false
 ·rw[hB];rfl
 rw[rR]at hB
 rw[hB,ak,aj rfl]
 by_cases SY:l.length≤200
 ·rw[ah ω,aj SY]
  by_cases hk:l.all (λt=>decide (dq t))=false
  ·rw[hk];rfl
  rw[rR]at hk
  rw[hk,ak,aj rfl]
  have Bi: ∀t∈l,dq t:=λt ht=>bt (pB.1 hk t ht)
  have key: ∀(m n i:Nat),l.length-i≤m→m<n→i≤l.length→(∀j,j<i→gd c b (l.getD j gl)=true)→uu.l4 N n l c b (cf,(cS,(bn,(bn,(dd,(dm,())))))) l (l.length:Int) (i:Int)=some (if l.all (gd c b)then cc b (iv l) (iX b l)else((cf,(cS,(bn,(bn,(dd,(dm,())))))),3)):=by
   intro m n
   induction n generalizing m with
   |zero=>intro i _ hn;omega
   |succ n ih=>
    intro i hm hn hi hj
    unfold uu.l4 uu.dU
    by_cases h:i<l.length
    ·have qX:gd c b (l.getD i gl)=false→some ((cf,(cS,(bn,(bn,(dd,(dm,())))))),(3:Int))=some (if l.all (gd c b)then cc b (iv l) (iX b l)else((cf,(cS,(bn,(bn,(dd,(dm,())))))),3)):=λhf=>by
      have:l.all (gd c b)=false:=by
       rw[List.all_eq_false]
       refine⟨l.getD i gl,?_,by rw[hf];decide⟩
       rw[aV,bo h];exact dO h
      rw[this];rfl
     have aqr:gd c b (l.getD i gl)=true→ ∀j,j<i+1→gd c b (l.getD j gl)=true:=λh j XS=>by
      by_cases e:j=i
      ·rw[e];exact h
      ·exact hj j ω
     rw[aR ω,ak,aW ω ω,ak,aI,CZ N b w.w.a ω,CZ N b w.w.a ω,aw (x:=(i:Int)+1) ω ω,af i]
     simp only[ar]
     rw[B2,B2,cz]
     generalize l.getD i gl=t at*
     unfold gd at qX aqr
     by_cases h1:((eS b.2.1 t.1).2||decide (dG t.1 0))=true
     ·rw[aj h1]
      by_cases h2:((eS b.2.1 t.2.1).2||decide (dG t.2.1 0))=true
      ·rw[aj h2]
       by_cases h3:(c.1.length:Int)≤t.2.2.1
       ·rw[aj h3]
        exact qX (by rw[h1,h2,bu (show ¬lF t.2.2.1 c.1.length from λh=>by unfold lF at h;exact absurd h (nY.2 h3))];rfl)
       ·rw[ah h3]
        exact ih (m-1) (i+1) ω ω ω (aqr (by rw[h1,h2,aU (show lF t.2.2.1 c.1.length from uI.1 h3)];rfl))
      ·rw[ah h2]
       exact qX (by rw[mU]at h2;rw[h1,h2];rfl)
     ·rw[ah h1]
      exact qX (by rw[mU]at h1;rw[h1];rfl)
    ·have hth: ∀t∈l,gd c b t=true:=λt ht=>by
      obtain⟨k,hk,e⟩:=gE ht
      have:=hj k ω
      rw[aV,bo hk]at this
      rw[←e];exact this
     rw[aP ω,av,pB.2 hth,aj rfl]
     exact Po N hN c w hB Bi hth SY
  exact key l.length N 0 ω ω ω (λj hj=>absurd hj ω)
 ·rw[aj ω,ah SY]
def B3(l:List Int)(k:Int):Int:=l.getD k.toNat 0
def ins(l:List Int):List Int→Int→List Int
 |[],i=>[i]
 |k::t,i=>if B3 l i≤B3 l k then k::ins l t i else i::k::t
def gn(l:List Int):Nat→List Int
 |0=>[]
 |n+1=>ins l (gn l n) n
def ly(l:List Int):List Int:=gn l l.length
def zK(l:List Int)(a b:Int):Prop:=B3 l b<B3 l a∨(B3 l b=B3 l a∧a<b)
theorem UI(l:List Int): ∀(o:List Int) (i:Int),(ins l o i).length=o.length+1
 |[],i=>rfl
 |k::t,i=>by unfold ins;split<;>simp[UI l t i]
theorem tV(l:List Int): ∀n,(gn l n).length=n
 |0=>rfl
 |n+1=>by unfold gn;rw[UI,tV l n]
theorem Am(l:List Int):(ly l).length=l.length:=tV l _
theorem Mn(l:List Int){x:Int}: ∀{o:List Int} {i:Int},x∈ins l o i↔x=i∨x∈o
 |[],i=>by simp[ins]
 |k::t,i=>by
  unfold ins;split
  ·rw[a8,Mn l,a8]
   exact⟨λh=>h.elim (λh=> .inr (.inl h)) (λh=>h.elim .inl (λh=> .inr (.inr h))),λh=>h.elim (λh=> .inr (.inl h)) (λh=>h.elim .inl (λh=> .inr (.inr h)))⟩
  ·rw[a8]
theorem tW(l:List Int){x:Int}: ∀{n:Nat},x∈gn l n↔0≤x∧x<n
 |0=>⟨(λh=>nomatch h),λh=>absurd h.1 ω⟩
 |n+1=>by unfold gn;rw[Mn,tW l];omega
theorem B4(l:List Int): ∀{o:List Int} {i:Int},o.Pairwise (zK l)→(∀x∈o,x<i)→(ins l o i).Pairwise (zK l)
 |[],i,_,_=>FZ _ _
 |k::t,i,h,hi=>by
  rw[eP]at h
  have hk:k<i:=hi k (bq ..)
  unfold ins;split
  ·rename_i hle
   rw[eP]
   refine⟨λx hx=> ?_,B4 l h.2 (λx hx=>hi x (aZ _ hx))⟩
   rcases(Mn l).1 hx with rfl|hx
   ·unfold zK;omega
   ·exact h.1 x hx
  ·rename_i hle
   rw[eP,eP]
   refine⟨λx hx=> ?_,h.1,h.2⟩
   rcases a8.1 hx with rfl|hx
   ·unfold zK;omega
   ·have:=h.1 x hx;unfold zK at*;omega
theorem pj(l:List Int): ∀n,(gn l n).Pairwise (zK l)
 |0=>List.Pairwise.nil
 |n+1=>by unfold gn;exact B4 l (pj l n) (λx hx=>((tW l).1 hx).2)
theorem ZO(l:List Int): ∀(o:List Int) (i:Int) (p:Nat),p≤o.length→(∀j,j<p→B3 l i≤B3 l (o.getD j 0))→(p<o.length→B3 l (o.getD p 0)<B3 l i)→ins l o i=o.take p++i::o.drop p
 |[],i,p,hp,_,_=>by simp at hp;subst hp;rfl
 |k::t,i,0,hp,_,h=>by
  unfold ins;rw[ah (by have:=h (by simp);simp at this;omega)];rfl
 |k::t,i,p+1,hp,h0,h=>by
  unfold ins
  have h1:B3 l i≤B3 l k:=h0 0 ω
  rw[aj h1,ZO l t i p (by simpa using hp) (λj hj=>by have:=h0 (j+1) ω;simpa using this) (λRS=>by have:=h (by simpa using RS);simpa using this)]
  rfl
theorem UJ(l:List Int)(f:Int→Int): ∀(o:List Int) (i:Int),((ins l o i).map f).sum=(o.map f).sum+f i
 |[],i=>by simp[ins]
 |k::t,i=>by
  unfold ins;split
  ·rw[bQ,cE,UJ l f t i,bQ,cE];omega
  ·simp only[bQ,cE];omega
theorem Ep(l r:List Int): ∀n,n≤r.length→((gn l n).map (B3 r)).sum=(r.take n).sum
 |0,_=>rfl
 |n+1,h=>by
  unfold gn;rw[UJ,Ep l r n ω,mH r ω]
  unfold B3;rw[aI]
theorem S3(l r:List Int)(h:l.length=r.length):((ly l).map (B3 r)).sum=r.sum:=by
 unfold ly;rw[Ep l r _ ω,iy ω]
theorem HE{o:List Int}{j:Nat}(h:j<o.length):o.getD j 0∈o:=by
 rw[aV,bo h];exact dO h
theorem S4{l:List Int}{n j:Nat}(h:j<n):0≤(gn l n).getD j 0∧(gn l n).getD j 0<n:=by
 exact(tW l).1 (HE (by rw[tV];exact h))
theorem KD(N:Nat)(K:List Int→List Int→Int→Option (List Int)){l:List Int}(hl:l.length≤100000)(i:Nat)(hi:i<l.length): ∀(m n p:Nat),i-p≤m→m<n→p≤i→(∀j,j<p→B3 l i≤B3 l ((gn l i).getD j 0))→
  gg.l6 N K n l (gn l i) (i:Int) (p:Int)=K l (gn l (i+1)) ((i+1:Nat):Int)
 |m,0,p,_,hn,_,_=>ω
 |m,n+1,p,hm,hn,hp,h=>by
  have hlen:=tV l i
  have fin: ∀h2:(p<i→B3 l ((gn l i).getD p 0)<B3 l i),gg.j8 N K l (gn l i) (i:Int) (p:Int)=K l (gn l (i+1)) ((i+1:Nat):Int):=λh2=>by
   have e:=ZO l (gn l i) i p ω h (λh3=>h2 ω)
   unfold gg.j8 gg.Zz
   dsimp only
   rw[eh ω ω ω ω,ak,aI,aI,dP,cQ]
   rw[bS (by rw[bZ];omega),ak,bS (by rw[bZ];simp only[aK];omega),ak,eh ω ω ω ω,ak,bS (by simp only[aS,bZ,eg,aK];omega),ak,aw ω ω,ij,bE,F4,←e]
   rfl
  unfold gg.l6 gg.uU
  by_cases hpi:p<i
  ·have hr:=S4 (l:=l) (n:=i) (j:=p) hpi
   rw[aR ω,ak,aW ω ω,ak,aI,aI,aW ω ω,ak,aW ω ω,ak]
   by_cases h3:l.getD i 0≤l.getD ((gn l i).getD p 0).toNat 0
   ·rw[fM h3,ak,aw ω ω]
    refine KD N K hl i hi (m-1) n (p+1) ω ω ω (λj hj=> ?_)
    by_cases hjp:j=p
    ·rw[hjp];unfold B3;rw[aI];exact h3
    ·exact h j ω
   ·rw[fF ω,av]
    exact fin (λ_=>by unfold B3;rw[aI];omega)
  ·rw[aP ω,av]
   exact fin (λh=>absurd h hpi)
theorem HF(N:Nat){l:List Int}(hl:l.length≤100000)(hN:l.length<N): ∀(m n i:Nat),l.length-i≤m→m<n→i≤l.length→
  gg.l3 N n l (gn l i) (i:Int)=some (ly l)
 |m,0,i,_,hn,_=>ω
 |m,n+1,i,hm,hn,hi=>by
  unfold gg.l3 gg.nw
  by_cases h:i<l.length
  ·have:=KD N (gg.l3 N n) hl i h i N 0 ω ω ω (λj hj=>ω)
   rw[aR ω,ak]
   refine Eq.trans this ?_
   exact HF N hl hN (m-1) n (i+1) ω ω ω
  ·rw[aP ω,av,show i=l.length by omega];rfl
theorem WK(N:Nat){l:List Int}(hl:l.length≤100000)(hN:l.length<N):gg N l=some (ly l):=by
 unfold gg gg.b
 exact HF N hl hN l.length N 0 ω ω ω
def KE(l:List Int):Prop:= ∀x∈l,-9223372036854775808≤x∧x<9223372036854775808
def Pos(l:List Int):Prop:= ∀x∈l,0≤x
def may(w:List Int):Bool:=decide (w.length≤64)&&w.all (λx=>decide (0≤x))
theorem pJ{w:List Int}:may w=true↔w.length≤64∧Pos w:=by
 unfold may Pos;rw[bM,fP,pB]
 simp only[fP]
theorem HG(N:Nat){l:List Int}(hl:l.length≤1000000): ∀(m n i:Nat),l.length-i≤m→m<n→i≤l.length→ ∃r,qG.l4 N n l (i:Int)=some r∧(r=true↔ ∃x∈l.drop i,x<0)
 |m,0,i,_,hn,_=>ω
 |m,n+1,i,hm,hn,hi=>by
  unfold qG.l4 qG.dU
  by_cases h:i<l.length
  ·have hd:l.drop i=l.getD i 0::l.drop (i+1):=by
    rw[qU h,aV,bo h];rfl
   rw[aR ω,ak,aW ω ω,ak,aI,hd]
   by_cases hx:l.getD i 0<0
   ·rw[aR hx,ak]
    exact⟨_,rfl,λ_=>⟨_,bq ..,hx⟩,λ_=>rfl⟩
   ·rw[aP ω,av,aw ω ω]
    obtain⟨r,e,h1⟩:=HG N hl (m-1) n (i+1) ω ω ω
    refine⟨r,e,h1.trans ⟨λ⟨x,RY,Yl⟩=>⟨x,aZ _ RY,Yl⟩,λ⟨x,RY,Yl⟩=> ?_⟩⟩
    rcases a8.1 RY with rfl|RY
    ·exact absurd Yl hx
    ·exact⟨x,RY,Yl⟩
  ·rw[aP ω,av,xb ω]
   exact⟨_,rfl,(λh=>nomatch h),λ⟨x,hx,_⟩=>nomatch hx⟩
theorem HH(N:Nat){w:List Int}(hN:100≤N)(t:Int):qG N t w=some (decide (t<0)|| !may w):=by
 unfold qG qG.b
 by_cases ht:t<0
 ·rw[aR ht,ak,aU ht];rfl
 rw[aP ω,av,bu ht,rW]
 by_cases h:w.length≤64
 ·rw[aP ω,av]
  obtain⟨r,e,hr⟩:=HG N (l:=w) ω w.length N 0 ω ω ω
  rw[cQ]at hr
  rw[show((0:Nat):Int)=0 from rfl]at e
  rw[e]
  congr 1
  rw[pR,hr,rQ,xg,Ne,pJ]
  constructor
  ·rintro⟨x,hx,YI⟩ h;have:=h.2 x hx;omega
  ·intro h1
   by_cases h2: ∃x∈w,x<0
   ·exact h2
   ·exact absurd ⟨h,λx hx=>by
     by_cases YI:x<0
     ·exact absurd ⟨x,hx,YI⟩ h2
     ·omega⟩ h1
 ·rw[aR ω,ak]
  have:may w=false:=by
   rw[xg];intro hm;exact h (pJ.1 hm).1
  rw[this];rfl
def bump(q:List Int):List Int→List Int
 |[]=>q
 |k::t=>bump (q.set k.toNat (q.getD k.toNat 0+1)) t
def ti(t S:Int)(w:List Int):List Int:=w.map λx=>t*x/S
def mi(t S:Int)(w:List Int):List Int:=w.map λx=>t*x%S
def cm(t:Int)(w:List Int):List Int:=
 bump (ti t w.sum w) ((ly (mi t w.sum w)).take (t-(ti t w.sum w).sum).toNat)
def sI(t:Int)(w:List Int):List Int×Int:=
 if t<0∨may w=false then([],1)else if 9223372036854775808≤w.sum then([],2)
 else if w.sum=0 then(if t=0 then(List.replicate w.length 0,0)else([],1))else(cm t w,0)
theorem Pp: ∀(ks q:List Int),(bump q ks).length=q.length
 |[],q=>rfl
 |k::t,q=>by unfold bump;rw[Pp t];simp
theorem Mo: ∀(q:List Int) (k:Nat) (x:Int),k<q.length→(q.set k x).sum=q.sum-q.getD k 0+x
 |[],k,x,h=>absurd h (by simp)
 |a::q,0,x,h=>by simp;omega
 |a::q,k+1,x,h=>by
  have:=Mo q k x (by simpa using h)
  simp[this];omega
theorem kJ: ∀{q:List Int},Pos q→0≤q.sum
 |[],_=>by simp
 |a::q,h=>by
  have:=kJ (q:=q) (λx hx=>h x (aZ _ hx))
  have:=h a (bq ..)
  rw[cE];omega
theorem An: ∀{q:List Int},Pos q→ ∀i,q.getD i 0≤q.sum
 |[],_,i=>by simp
 |a::q,h,0=>by
  have:=kJ (q:=q) (λx hx=>h x (aZ _ hx))
  rw[cE];simp;omega
 |a::q,h,i+1=>by
  have:=An (q:=q) (λx hx=>h x (aZ _ hx)) i
  have:=h a (bq ..)
  rw[cE];simp;simp at*;omega
theorem iL{q:List Int}(h:Pos q)(i:Nat):0≤q.getD i 0:=by
 by_cases hi:i<q.length
 ·exact h _ (HE hi)
 ·rw[vL q ω];omega
theorem adh{q:List Int}(h:Pos q){x:Int}(hx:0≤x)(k:Nat):Pos (q.set k x):=λy hy=>by
 rcases ux hy with hy|rfl
 ·exact h y hy
 ·exact hx
theorem Pq{q:List Int}(h:Pos q)(n:Nat):Pos (q.take n):=λx hx=>h x (lH hx)
theorem Pr: ∀(ks q:List Int),(∀k∈ks,0≤k∧k<q.length)→(bump q ks).sum=q.sum+ks.length
 |[],q,_=>by simp[bump]
 |k::t,q,h=>by
  have hk:=h k (bq ..)
  unfold bump
  rw[Pr t _ (λx hx=>by rw[bN];exact h x (aZ _ hx)),Mo q _ _ ω,aT];omega
theorem yg(t S:Int)(w:List Int):(ti t S w).length=w.length:=by unfold ti;rw[cD]
theorem qh(t S:Int)(w:List Int):(mi t S w).length=w.length:=by unfold mi;rw[cD]
theorem UK{t S:Int}{w:List Int}(i:Nat):(ti t S w).getD i 0=t*w.getD i 0/S:=by
 unfold ti
 by_cases h:i<w.length
 ·rw[aV,nT,bo h,aV,bo h];rfl
 ·rw[vL _ (by rw[cD];omega),vL w ω];simp
theorem UL{t S:Int}{w:List Int}(i:Nat):(mi t S w).getD i 0=t*w.getD i 0%S:=by
 unfold mi
 by_cases h:i<w.length
 ·rw[aV,nT,bo h,aV,bo h];rfl
 ·rw[vL _ (by rw[cD];omega),vL w ω];simp
theorem HI{t S:Int}{w:List Int}(ht:0≤t)(hS:0≤S)(hw:Pos w):Pos (ti t S w):=λx hx=>by
 obtain⟨y,hy,rfl⟩:=cV.1 hx
 exact uC (uF ht (hw y hy)) hS
theorem Ps{t S:Int}{w:List Int}(hS:0<S):Pos (mi t S w):=λx hx=>by
 obtain⟨y,hy,rfl⟩:=cV.1 hx
 exact Gc _ ω
theorem Mp(t S:Int): ∀w:List Int,S*(ti t S w).sum+(mi t S w).sum=t*w.sum
 |[]=>by simp[ti,mi]
 |x::w=>by
  have h:=Mp t S w
  have e:=NI (t*x) S
  unfold ti mi at*
  simp only[bQ,cE,mA]
  omega
theorem ZP{t S:Int}{w:List Int}(ht:0≤t)(hS:0<S)(h:w.sum≤S):(ti t S w).sum≤t:=by
 have e:=Mp t S w
 have h1:=kJ (Ps (t:=t) (w:=w) hS)
 have h2:=yI h ht
 have h3:S*(ti t S w).sum≤S*t:=by rw[jl S t];omega
 exact Ny h3 hS
theorem Er{w:List Int}(h:Pos w)(i:Nat):(w.take i).sum≤w.sum:=by
 have e:w.take i++w.drop i=w:=gL i w
 have h1:(w.take i).sum+(w.drop i).sum=w.sum:=by rw[←nS,e]
 have:=kJ (q:=w.drop i) (λx hx=>h x (mQ hx))
 omega
theorem KF(t S:Int)(w:List Int)(i:Nat):(ti t S w).take i=ti t S (w.take i):=by unfold ti;rw[List.map_take]
theorem HJ(N:Nat){ks:List Int}(hl:ks.length≤1000000)(L:Nat)(hk: ∀k∈ks,0≤k∧k<L): ∀(m n i left:Nat) (q:List Int),ks.length-i≤m→m<n→i≤ks.length→q.length=L→Pos q→left≤9223372036854775807→q.sum+left≤9223372036854775807→
  gu.yc N n q (left:Int) ks (i:Int)=some (bump q ((ks.drop i).take left),0)
 |m,0,i,left,q,_,hn,_,_,_,_,_=>ω
 |m,n+1,i,left,q,hm,hn,hi,hq,hp,hle,hs=>by
  unfold gu.yc gu.wW
  by_cases h:i<ks.length
  ·have hd:ks.drop i=ks.getD i 0::ks.drop (i+1):=by
    rw[qU h,aV,bo h];rfl
   have GO:=hk _ (HE h)
   rw[aR ω,ak]
   match left,hle,hs with
   |0,hle,hs=>rw[aP ω,av,my];rfl
   |left+1,hle,hs=>
    rw[aR ω,ak,aW ω ω,ak,aI,aW ω ω,ak,ak,hd]
    have h1:=An hp (ks.getD i 0).toNat
    have h2:=iL hp (ks.getD i 0).toNat
    rw[aw (x:=q.getD _ 0+1) ω ω,aw (x:=(i:Int)+1) ω ω,aw ω ω,show((left+1:Nat):Int)-1=(left:Int)by omega]
    refine(HJ N hl L hk (m-1) n (i+1) left _ ω ω ω (by rw[bN];exact hq) (adh hp ω _) ω ?_).trans rfl
    rw[Mo q _ _ ω];omega
  ·rw[aP ω,av,xb ω,List.take_nil];rfl
theorem HK(l:List Int): ∀k∈ly l,0≤k∧k<l.length:=λk hk=>(tW l).1 hk
theorem take_set(l:List Int){i:Nat}(x:Int)(h:i<l.length):(l.set i x).take (i+1)=l.take i++[x]:=by
 rw[iT (l.set i x) (by rw[bN];exact h),ny l x h,List.take_set_of_le ω]
theorem Mq{v:Int}(h0: -9223372036854775808≤v)(h1:v<9223372036854775808):CO v=(v,true):=by unfold CO;rw[aj ⟨h0,h1⟩]
end VM
end
