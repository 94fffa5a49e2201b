/- A part of the proof of AwardDrawn of layer 25: what the functions compute, in plain words. -/
import Derived.Test.YtocmlaipoebfeaaGreatPlain2
import Derived.Test.YtocmlaipoebfeaaGreatVm6
import Derived.Test.YtocmlaipoebfeaaGreatPlain0
set_option linter.all false
section
namespace VM
open Go VM.F
theorem N0(N:Nat)(hN:2000000≤N){b:ah}{s e:aj}(w:qN b)(hr:eU b.2.2.1=true)(hs:dt b.2.2.2.1=true)(lr:b.2.2.1.length≤90000)(ls:b.2.2.2.1.length≤90000)(gs:JB s)(ge:JD e):
  F65 N b s (e.map fy)=some (eP b s e):=by
 unfold F65 eP
 rw[NZ N w,Option.bind_some,Ri N hN hs ls w.qs gs,NW N hN hr lr w.qr ge,K7 hs gs.place,NY hr ge.key]
 unfold pv
 rw[Option.bind_some,Option.bind_some]
 have e1:az 2 0=false:=cO (by omega)
 have e2:az 0 0=true:=ct rfl
 cases dC Fq (fS b.2.2.2.1 s) sW with
 |none=>dsimp only;rw[e1];rfl
 |some s'=>
  cases dC aD (fS b.2.2.1 e) yS with
  |none=>dsimp only;rw[e1,e2];rfl
  |some r'=>dsimp only;rw[e2];rfl
theorem Rq(N:Nat)(hN:4000000≤N){b:ah}{s e:aj}(w:qN b)(hr:eU b.2.2.1=true)(hs:dt b.2.2.2.1=true)(lr:b.2.2.1.length≤90000)(ls:b.2.2.2.1.length≤90000)(gs:JB s)(ge:JD e):
  vu N b s (e.map gI)=some (eP b s e):=by
 have h1:=gs.len
 have h2:=ge.len
 unfold vu eP
 rw[HS N hN hs ls w.qs (fun x hx=>(gs.q x hx).1) (by omega),Ro N hN hr lr w.qr ge.q (by omega)]
 unfold qQ
 rw[Option.bind_some,Option.bind_some]
 cases dC Fq (fS b.2.2.2.1 s) sW with
 |none=>rfl
 |some s'=>
  cases dC aD (fS b.2.2.1 e) yS with
  |none=>rfl
  |some r'=>rfl
theorem JF(N:Nat)(C:cW.aU){l:ay}(hl:l.length≤100000)(i:Nat)(hi:i<l.length): ∀(m n k:Nat),i-k≤m→m<n→k≤i→(l.take k).any (ff (l.getD i aE).2.2.1 (l.getD i aE).2.1)=false→
  cW.l9 N C n l (i:Int) (k:Int)=cond ((l.take i).any (ff (l.getD i aE).2.2.1 (l.getD i aE).2.1)) (some false) (C l ((i+1:Nat):Int))
 |m,0,k,_,hn,_,_=>by omega
 |m,n+1,k,hm,hn,hk,hb=>by
  unfold cW.l9 cW.sd
  by_cases h:k<i
  ·have qb:=JF N C hl i hi (m-1) n (k+1) (by omega) (by omega) (by omega)
   have ht:(l.take (k+1)).any (ff (l.getD i aE).2.2.1 (l.getD i aE).2.1)=ff (l.getD i aE).2.2.1 (l.getD i aE).2.1 (l.getD k aE):=by
    have ek:l.getD k aE=l[k]'(by omega):=by rw[List.getD_eq_getElem?_getD,List.getElem?_eq_getElem (show k<l.length by omega)];rfl
    rw[←List.take_append_getElem (show k<l.length by omega),List.any_append,hb,ek,List.any_cons,List.any_nil,Bool.or_false,Bool.false_or]
   have jr:ff (l.getD i aE).2.2.1 (l.getD i aE).2.1 (l.getD k aE)=true→(l.take i).any (ff (l.getD i aE).2.2.1 (l.getD i aE).2.1)=true:=fun hh=>by
    refine List.any_eq_true.2 ⟨l.getD k aE,?_,hh⟩
    rw[List.getD_eq_getElem?_getD,List.getElem?_eq_getElem (show k<l.length by omega)]
    exact List.mem_take_iff_getElem.2 ⟨k,by omega,rfl⟩
   rw[aH (by omega),cond_true,aJ (by omega) (by omega),cond_true,aJ (by omega) (by omega),cond_true,cond_true,cond_true,Int.toNat_natCast,Int.toNat_natCast,aB,aB,aq (x:=(k:Int)+1) (by omega) (by omega),aa k]
   by_cases h1:(l.getD k aE).2.2.1=(l.getD i aE).2.2.1
   ·by_cases h2:(l.getD k aE).2.1=(l.getD i aE).2.1
    ·rw[if_pos h1,if_pos h2,jr (by unfold ff fM;rw[decide_eq_true h1,decide_eq_true h2];rfl)];rfl
    ·rw[if_pos h1,if_neg h2]
     exact qb (by rw[ht];unfold ff fM;rw[decide_eq_false h2,Bool.and_false])
   ·rw[if_neg h1]
    exact qb (by rw[ht];unfold ff fM;rw[decide_eq_false h1,Bool.false_and])
  ·have:k=i:=by omega
   subst this
   rw[aF (by omega),cond_false,hb,cond_false,aq (x:=(k:Int)+1) (by omega) (by omega),aa k]
theorem mO(N:Nat){l:ay}(hl:l.length≤100000)(hN:200000≤N):cW N l=some (lj l):=by
 unfold cW cW.b lj
 by_cases h40:l.length≤40
 ·rw[aF (by omega),cond_false,decide_eq_true h40]
  refine ep (F:=fun n i=>cW.l4 N n l i) (pt l) (fun n i r hi hp hr=> ?_) (fun n=> ?_) N (by omega)
  ·unfold cW.l4 cW.ca cW.j8 cW.HW
   have jr:cW.l9 N (cW.l4 N n) N l (i:Int) 0=_:=JF N (cW.l4 N n) hl i hi i N 0 (by omega) (by omega) (by omega) rfl
   rw[aH (by omega),cond_true,aJ (by omega) (by omega),cond_true,cond_true,Int.toNat_natCast,Jv,Option.bind_some,cond_not,dw,jr,hr]
   have hT:cond ((l.take i).any (ff (l.getD i aE).2.2.1 (l.getD i aE).2.1)) (some false) r=if(l.take i).any (ff (l.getD i aE).2.2.1 (l.getD i aE).2.1)=false then r else some false:=by
    cases(l.take i).any (ff (l.getD i aE).2.2.1 (l.getD i aE).2.1)<;>rfl
   rw[hT]
   by_cases hK:oM (l.getD i aE)
   ·rw[if_pos hK]
    have hD:(if pt l i then r else some false)=if mi i (l.getD (i-1) aE).1 (l.getD i aE).1 then(if(l.take i).any (ff (l.getD i aE).2.2.1 (l.getD i aE).2.1)=false then r else some false)else some false:=by
     by_cases h1:mi i (l.getD (i-1) aE).1 (l.getD i aE).1<;>by_cases h2:(l.take i).any (ff (l.getD i aE).2.2.1 (l.getD i aE).2.1)=false
     ·rw[if_pos h1,if_pos h2,if_pos ⟨hK,h1,h2⟩]
     ·rw[if_pos h1,if_neg h2,if_neg (fun h=>h2 h.2.2)]
     ·rw[if_neg h1,if_neg (fun h=>h1 h.2.1)]
     ·rw[if_neg h1,if_neg (fun h=>h1 h.2.1)]
    rw[hD]
    by_cases h0:0<i
    ·have e:W .i64 ((i:Int)-1)=((i-1:Nat):Int):=by rw[aq (by omega) (by omega)];omega
     rw[aH (x:=0) (y:=(i:Int)) (by omega),cond_true,e]
     dsimp only
     rw[Int.toNat_natCast,aJ (by omega) (by omega),cond_true,bH]
     by_cases h1:mi i (l.getD (i-1) aE).1 (l.getD i aE).1
     ·rw[if_pos h1,if_neg (by unfold mi at h1;omega)]
     ·rw[if_neg h1,if_pos (by unfold mi at h1;omega)]
    ·rw[aF (x:=0) (y:=(i:Int)) (by omega),cond_false,if_pos (show mi i (l.getD (i-1) aE).1 (l.getD i aE).1 from fun h=>absurd h h0)]
   ·rw[if_neg hK,if_neg (fun h=>hK h.1)]
  ·unfold cW.l4 cW.ca
   rw[aF (by omega),cond_false]
 ·rw[aH (by omega),cond_true,decide_eq_false h40,Bool.and_false]
def oO(mL:Int):ay→bs→bs
 |[],b=>b
 |x::t,b=>oO mL t (if x.2.1=mL then(if b.1=0 then x else if b.2.2.2.1<x.2.2.2.1 then x else b)else b)
theorem s0(mL:Int)(x:bs)(t:ay)(b:bs):oO mL (x::t) b=oO mL t (if x.2.1=mL then(if b.1=0 then x else if b.2.2.2.1<x.2.2.2.1 then x else b)else b):=rfl
def yT(b:bs):Bool:= !decide (fM b.1 0)
def cA(l:ay)(mL:Int):bs×Bool:=if lj l then(oO mL l aE,yT (oO mL l aE))else(aE,false)
theorem uy(b:bs):(!az b.1 0)=yT b:=by unfold yT;rw[eR];rfl
theorem xE(N:Nat){l:ay}(hl:l.length≤100000)(hN:200000≤N)(mL:Int):ti N l mL=some (cA l mL):=by
 unfold ti ti.b cA
 rw[Jw N hl hN,Option.bind_some,cond_not]
 cases lj l
 ·rfl
 rw[cond_true,if_pos rfl]
 have:=lK l aE (fun n i b=>ti.l5 N n mL aE b l (l.length:Int) i) (fun t b=>some (oO mL t b,yT (oO mL t b))) (fun _ _=>True)
  (fun n i b hi hI hr=> ?_) (fun n b hI=> ?_) l.length N 0 aE (by omega) (by omega) (by omega) trivial
 ·exact this
 ·unfold ti.l5 ti.dn
  rw[aH (by omega),cond_true,aJ (by omega) (by omega),cond_true,Int.toNat_natCast,aq (x:=(i:Int)+1) (by omega) (by omega),aa i,aB,aB,bO,s0,←hr _ trivial]
  split
  ·split
   ·rfl
   ·split<;>rfl
  ·rfl
 ·unfold ti.l5 ti.dn
  rw[aF (by omega),cond_false,uy];rfl
theorem Bd{l:ay}(h:lj l=true): ∀i,i<l.length→oM (l.getD i aE):=fun i hi=>by
 unfold lj at h
 have h':=of_decide_eq_true (Bool.and_eq_true_iff.1 h).1
 exact(h' i hi).1
theorem EE(N:Nat){l:ay}(hl:l.length≤100000)(hN:200000≤N)(mL:Int):sj N l mL=some (cA l mL):=by
 unfold sj sj.b cA
 rw[mO N hl hN,Option.bind_some,cond_not]
 by_cases hB:lj l=true
 ·rw[hB,cond_true,if_pos rfl]
  have:=lK l aE (fun n i b=>sj.l6 N n l mL aE b (yT b) i) (fun t b=>some (oO mL t b,yT (oO mL t b))) (fun _ _=>True)
   (fun n i b hi hI hr=> ?_) (fun n b hI=> ?_) l.length N 0 aE (by omega) (by omega) (by omega) trivial
  ·exact this
  ·unfold sj.l6 sj.mg
   have ho:=Bd hB i hi
   have gH:yT (l.getD i aE)=true:=by
    rw[←uy,cO (by unfold oM sU at ho;have:=ho.1.1;intro e;rw[e]at this;omega)];rfl
   rw[aH (by omega),cond_true,aJ (by omega) (by omega),cond_true,cond_true,cond_true,Int.toNat_natCast,aq (x:=(i:Int)+1) (by omega) (by omega),aa i,aB,bO,s0,←hr _ trivial]
   by_cases h1:(l.getD i aE).2.1=mL
   ·rw[if_pos h1,if_pos h1,←uy b,Bool.not_not,aB]
    by_cases h2:b.1=0
    ·rw[if_pos h2,if_pos h2,gH]
    ·rw[if_neg h2,if_neg h2]
     by_cases h3:b.2.2.2.1<(l.getD i aE).2.2.2.1
     ·rw[if_pos h3,if_pos h3,gH]
     ·rw[if_neg h3,if_neg h3,uy]
   ·rw[if_neg h1,if_neg h1]
  ·unfold sj.l6 sj.mg
   rw[aF (by omega),cond_false];rfl
 ·rw[Bool.not_eq_true]at hB
  rw[hB];rfl
end VM
end
section
namespace VM
open Go VM.F
def pA(s w p:Int):Prop:=((s=1∨s=3)∧w=0∧p=0)∨(s=2∧1≤w∧w≤12∧ -1152921504606846976≤p∧p≤1152921504606846976)
instance(s w p:Int):Decidable (pA s w p):=by unfold pA;infer_instance
def yU(a:Int):Prop:=1≤a∧a≤1099511627776
instance(a:Int):Decidable (yU a):=by unfold yU;infer_instance
def leI(a b:Int):Prop:=a≤b
instance(a b:Int):Decidable (leI a b):=by unfold leI;infer_instance
def uz(c:ae)(l:aA)(i:Nat):Prop:=
 yU (l.getD i ((0:Int),(a6,aE))).1∧mi i (l.getD (i-1) ((0:Int),(a6,aE))).1 (l.getD i ((0:Int),(a6,aE))).1∧ ¬fM ((l.getD i ((0:Int),(a6,aE))).2.1.length:Int) 0∧qO c (l.getD i ((0:Int),(a6,aE))).2.1=true∧leI (l.getD i ((0:Int),(a6,aE))).2.2.1 0∧pA (l.getD i ((0:Int),(a6,aE))).2.2.2.1 (l.getD i ((0:Int),(a6,aE))).2.2.2.2.1 (l.getD i ((0:Int),(a6,aE))).2.2.2.2.2.1
instance(c:ae)(l:aA):DecidablePred (uz c l):=fun i=>by unfold uz;infer_instance
def ll(c:ae)(l:aA):Bool:=fZ c&&(decide (l.length≤12)&&(decide (∀j,j<l.length→uz c l j)&&true))
def kG(l:aA):Prop:= ∀x∈l,x.2.1.length≤100000
theorem mP{l:aA}(h:kG l)(i:Nat):(l.getD i ((0:Int),(a6,aE))).2.1.length≤100000:=by
 by_cases hi:i<l.length
 ·rw[List.getD_eq_getElem?_getD,List.getElem?_eq_getElem hi];exact h _ (List.getElem_mem hi)
 ·rw[List.getD_eq_getElem?_getD,List.getElem?_eq_none (by omega)];exact Nat.zero_le _
theorem JG(s w p:Int)(r:Option Bool):
  cond (az s 1) (cond (!az w 0) (some false) (cond (!az p 0) (some false) r)) (cond (az s 3) (cond (!az w 0) (some false) (cond (!az p 0) (some false) r)) (cond (az s 2) (cond (aM w 1) (some false) (cond (aM 12 w) (some false) (cond (aM p (-1152921504606846976)) (some false) (cond (aM 1152921504606846976 p) (some false) r)))) (some false)))=
   if pA s w p then r else some false:=by
 simp only[cond_not,aB,bO]
 by_cases h:pA s w p
 ·rw[if_pos h];unfold pA at h
  repeat' split
  all_goals first|rfl|omega
 ·rw[if_neg h];unfold pA at h
  repeat' split
  all_goals first|rfl|omega
theorem Lc{A B C D E F:Prop} [Decidable A] [Decidable B] [Decidable C] [Decidable D] [Decidable E] [Decidable F](r:Option Bool):
  (if A then(if B then(if C then(if D then(if E then(if F then r else some false)else some false)else some false)else some false)else some false)else some false)=if A∧B∧C∧D∧E∧F then r else some false:=by
 by_cases hA:A<;>by_cases hB:B<;>by_cases hC:C<;>by_cases hD:D<;>by_cases hE:E<;>by_cases hF:F<;>simp only[hA,hB,hC,hD,hE,hF,if_true,if_false,and_self,and_true,and_false,false_and,true_and]
theorem EF{a b n f s w p:Int}{i:Nat}{o:Bool}{r:Option Bool}:
  cond (aM a 1) (some false) (cond (aM 1099511627776 a) (some false) (if mi i b a then(cond (az n 0) (some false) (cond (!o) (some false) (cond (aM 0 f) (some false) (if pA s w p then r else some false))))else some false))=
   if yU a∧mi i b a∧ ¬fM n 0∧o=true∧leI f 0∧pA s w p then r else some false:=by
 rw[←Lc]
 simp only[cond_not,aB,bO]
 by_cases h1:yU a
 ·have la:=h1
  unfold yU at la
  rw[if_pos h1,if_neg (by omega),if_neg (by omega)]
  by_cases h2:mi i b a
  ·rw[if_pos h2,if_pos h2]
   by_cases h3:n=0
   ·rw[if_pos h3,if_neg (show ¬ ¬fM n 0 from fun h=>h h3)]
   ·rw[if_neg h3,if_pos (show ¬fM n 0 from h3)]
    cases o
    ·rfl
    ·rw[cond_true,if_pos rfl]
     by_cases h4:f≤0
     ·rw[if_pos (show leI f 0 from h4),if_neg (by omega)]
     ·rw[if_neg (show ¬leI f 0 from h4),if_pos (by omega)]
  ·rw[if_neg h2,if_neg h2]
 ·have la:=h1
  unfold yU at la
  rw[if_neg h1]
  by_cases h2:a<1
  ·rw[if_pos h2]
  ·rw[if_neg h2,if_pos (by omega)]
theorem EG{i:Nat}{a b:Int}{r:Option Bool}(h0:0<i):cond (bV a b) (some false) r=if mi i b a then r else some false:=by
 rw[bH]
 by_cases h1:mi i b a
 ·rw[if_pos h1,if_neg (by unfold mi at h1;omega)]
 ·rw[if_neg h1,if_pos (by unfold mi at h1;omega)]
theorem Rr(N:Nat)(hN:200000≤N)(c:ae){l:aA}(hl:l.length≤100000)(hw:kG l):pZ N c l=some (ll c l):=by
 unfold pZ pZ.b ll
 rw[Ce N (by omega),Option.bind_some]
 cases fZ c
 ·rfl
 rw[Bool.not_true,cond_false,Bool.true_and]
 by_cases Ki:l.length≤12
 ·rw[aF (by omega),cond_false,decide_eq_true Ki,Bool.true_and]
  refine ep (F:=fun n i=>pZ.l4 N n l c l (l.length:Int) i) (uz c l) (fun n i r hi hp hr=> ?_) (fun n=> ?_) N (by omega)
  ·unfold pZ.l4 pZ.ca pZ.j8 pZ.HW
   rw[aH (by omega),cond_true,aJ (by omega) (by omega),cond_true,Int.toNat_natCast,Q8 N hN c (mP hw i),Option.bind_some,aq (x:=(i:Int)+1) (by omega) (by omega),aa i,hr,JG]
   refine Eq.trans ?_ EF
   by_cases h0:0<i
   ·have e:W .i64 ((i:Int)-1)=((i-1:Nat):Int):=by rw[aq (by omega) (by omega)];omega
    rw[aH (x:=0) (y:=(i:Int)) (by omega),cond_true,e]
    dsimp only
    rw[Int.toNat_natCast,aJ (by omega) (by omega),cond_true,EG h0]
   ·rw[aF (x:=0) (y:=(i:Int)) (by omega),cond_false,if_pos (show mi i (l.getD (i-1) ((0:Int),(a6,aE))).1 (l.getD i ((0:Int),(a6,aE))).1 from fun h=>absurd h h0)]
  ·unfold pZ.l4 pZ.ca
   rw[aF (by omega),cond_false]
 ·rw[aH (by omega),cond_true,decide_eq_false Ki,Bool.false_and]
theorem uA(N:Nat)(hN:200000≤N)(c:ae){l:aA}(hl:l.length≤100000)(hw:kG l):e9 N c l=some (ll c l):=by
 unfold e9 e9.b ll
 rw[mK N (by omega),Option.bind_some]
 cases fZ c
 ·rfl
 rw[Bool.not_true,cond_false,Bool.true_and]
 by_cases Ki:l.length≤12
 ·rw[aF (by omega),cond_false,decide_eq_true Ki,Bool.true_and]
  refine ep (F:=fun n i=>e9.l4 N n l c i) (uz c l) (fun n i r hi hp hr=> ?_) (fun n=> ?_) N (by omega)
  ·unfold e9.l4 e9.ca e9.j9 e9.Hw
   rw[aH (by omega),cond_true,aJ (by omega) (by omega),cond_true,Int.toNat_natCast,uk N hN c (mP hw i),Option.bind_some,aq (x:=(i:Int)+1) (by omega) (by omega),aa i,hr,JG]
   refine Eq.trans ?_ EF
   by_cases h0:0<i
   ·have e:W .i64 ((i:Int)-1)=((i-1:Nat):Int):=by rw[aq (by omega) (by omega)];omega
    rw[aH (x:=0) (y:=(i:Int)) (by omega),cond_true,e]
    dsimp only
    rw[Int.toNat_natCast,aJ (by omega) (by omega),cond_true,EG h0]
   ·rw[aF (x:=0) (y:=(i:Int)) (by omega),cond_false,if_pos (show mi i (l.getD (i-1) ((0:Int),(a6,aE))).1 (l.getD i ((0:Int),(a6,aE))).1 from fun h=>absurd h h0)]
  ·unfold e9.l4 e9.ca
   rw[aF (by omega),cond_false]
 ·rw[aH (by omega),cond_true,decide_eq_false Ki,Bool.false_and]
theorem N1(l:aA)(i:Nat)(h:i<l.length):l.set i (l.getD i ((0:Int),(a6,aE)))=l:=by
 rw[List.getD_eq_getElem?_getD,List.getElem?_eq_getElem h]
 exact List.set_getElem_self h
theorem N2(N:Nat){l:aA}(hl:l.length≤100000)(hw:kG l)(hN:200000≤N):xc N l=some l:=by
 unfold xc xc.b
 rw[od N (by omega),Option.bind_some]
 refine se l ((0:Int),(a6,aE)) (fun n i=>xc.l3 N n l (l.length:Int) i) (fun _=>some l) (fun n i hi hr=> ?_) (fun n=> ?_) N (by omega)
 ·unfold xc.l3 xc.ig
  have hlw:=mP hw i
  rw[aH (by omega),cond_true,aJ (by omega) (by omega),cond_true,Int.toNat_natCast,od N (by omega),Option.bind_some,cond_true,aq (x:=(i:Int)+1) (by omega) (by omega),aa i]
  have e:l.set i ((l.getD i ((0:Int),(a6,aE))).1,((l.getD i ((0:Int),(a6,aE))).2.1,(l.getD i ((0:Int),(a6,aE))).2.2))=l:=N1 l i hi
  rw[e]
  exact hr
 ·unfold xc.l3 xc.ig
  rw[aF (by omega),cond_false]
end VM
end
section
namespace VM
open Go VM.F
def dG(h:Int):ax→aj
 |[]=>[]
 |y::t=>((0:Int),(y.1,((0-y.2.1:Int),())))::(h,(y.1,(y.2.1,())))::dG h t
theorem gf(h:Int)(y:KV)(t:ax):dG h (y::t)=((0:Int),(y.1,((0-y.2.1:Int),())))::(h,(y.1,(y.2.1,())))::dG h t:=rfl
def Am(h p:Int):aj:=[((5:Int),(h,((0-p:Int),()))),((2:Int),((0:Int),(p,())))]
abbrev Mh:=aj×aj×aA
def JH(x:cF)(m p:Int):cF:=(x.1,(x.2.1,(x.2.2.1,((2:Int),(m,(p,x.2.2.2.2.2.2))))))
def N3(x:cF):cF:=(x.1,(x.2.1,(x.2.2.1,((3:Int),x.2.2.2.2))))
def Ld(b:ah)(l:ay):aA→Mh→Option Mh
 |[],z=>some z
 |x::t,z=>
  if x.2.2.2.1=1 then
   (if(cA l x.1).2=true then
     (if ga b.1 (cA l x.1).1.2.2.1=0∨dQ b.2.1 (cA l x.1).1.2.2.1=0 then none
      else Ld b l t (z.1++dG (dQ b.2.1 (cA l x.1).1.2.2.1) x.2.1,z.2.1++Am (dQ b.2.1 (cA l x.1).1.2.2.1) (cA l x.1).1.2.2.2.1,z.2.2++[JH x (cA l x.1).1.2.2.1 (cA l x.1).1.2.2.2.1]))
    else Ld b l t (z.1,z.2.1,z.2.2++[N3 x]))
  else Ld b l t (z.1,z.2.1,z.2.2++[x])
theorem yV(b:ah)(l:ay)(x:cF)(t:aA)(z:Mh):Ld b l (x::t) z=
 if x.2.2.2.1=1 then
  (if(cA l x.1).2=true then
    (if ga b.1 (cA l x.1).1.2.2.1=0∨dQ b.2.1 (cA l x.1).1.2.2.1=0 then none
     else Ld b l t (z.1++dG (dQ b.2.1 (cA l x.1).1.2.2.1) x.2.1,z.2.1++Am (dQ b.2.1 (cA l x.1).1.2.2.1) (cA l x.1).1.2.2.2.1,z.2.2++[JH x (cA l x.1).1.2.2.1 (cA l x.1).1.2.2.2.1]))
   else Ld b l t (z.1,z.2.1,z.2.2++[N3 x]))
 else Ld b l t (z.1,z.2.1,z.2.2++[x]):=rfl
def wv(b:ah):Option Mh→ah×aA×Int
 |none=>((a6,(cn,(bc,(bc,(cQ,(cY,())))))),([],3))
 |some z=>if fM (eP b z.1 z.2.1).2 0 then((eP b z.1 z.2.1).1,(z.2.2,0))else((a6,(cn,(bc,(bc,(cQ,(cY,())))))),([],(eP b z.1 z.2.1).2))
def lO(c:ae)(b:ah)(cV:aA)(l:ay):ah×aA×Int:=
 if et c b=true then(if ll c cV=true then(if lj l=true then wv b (Ld b l cV ([],[],[]))else((a6,(cn,(bc,(bc,(cQ,(cY,())))))),([],1)))else((a6,(cn,(bc,(bc,(cQ,(cY,())))))),([],1)))else((a6,(cn,(bc,(bc,(cQ,(cY,())))))),([],1))
theorem Be(mL:Int): ∀(l:ay) (b:bs),oO mL l b=b∨oO mL l b∈l
 |[],b=>Or.inl rfl
 |x::t,b=>by
  rw[s0]
  have key: ∀c,(c=x∨c=b)→(oO mL t c=b∨oO mL t c∈x::t):=fun c hc=>by
   rcases Be mL t c with h|h
   ·rcases hc with e|e
    ·exact Or.inr (by rw[h,e];exact List.mem_cons_self ..)
    ·exact Or.inl (by rw[h,e])
   ·exact Or.inr (List.mem_cons_of_mem _ h)
  refine key _ ?_
  split
  ·split
   ·exact Or.inl rfl
   ·split
    ·exact Or.inl rfl
    ·exact Or.inr rfl
  ·exact Or.inr rfl
theorem JI{l:ay}{mL:Int}(h:(cA l mL).2=true):oM (cA l mL).1:=by
 unfold cA at h ⊢
 by_cases hB:lj l=true
 ·rw[if_pos hB]at h ⊢
  rcases Be mL l aE with e|e
  ·dsimp only at h
   rw[e]at h
   exact absurd h (by decide)
  ·obtain⟨i,hi,e'⟩:=List.getElem_of_mem e
   have:=Bd hB i hi
   rw[List.getD_eq_getElem?_getD,List.getElem?_eq_getElem hi]at this
   dsimp only
   rw[←e'];exact this
 ·rw[if_neg hB]at h
  exact absurd h (by decide)
theorem yW(id:Int): ∀(a:ay),il id a=0∨ ∃x∈a,x.1=il id a
 |[]=>Or.inl rfl
 |x::t=>by
  rw[nR]
  have ih:=yW id t
  have ih':il id t=0∨ ∃y∈x::t,y.1=il id t:=ih.imp (fun e=>e) fun⟨y,hy,e⟩=>⟨y,List.mem_cons_of_mem _ hy,e⟩
  split
  ·split
   ·exact Or.inr ⟨x,List.mem_cons_self ..,rfl⟩
   ·exact ih'
  ·exact ih'
theorem EH{a:ay}{id:Int}(h:dQ a id≠0):1≤dQ a id∧dQ a id≤24:=by
 unfold dQ at h ⊢
 by_cases hA:im a=true
 ·rw[if_pos hA]at h ⊢
  rcases yW id a with e|⟨x,hx,e⟩
  ·exact absurd e h
  ·obtain⟨i,hi,e'⟩:=List.getElem_of_mem hx
   unfold im at hA
   rw[Bool.and_true]at hA
   have:=(of_decide_eq_true hA i hi).1
   rw[List.getD_eq_getElem?_getD,List.getElem?_eq_getElem hi]at this
   have h5:=this.1
   dsimp only[Option.getD_some]at h5
   rw[e',e]at h5
   exact h5
 ·rw[if_neg hA]at h;exact absurd rfl h
def EI(a:Int):Prop:=0≤a∧a<6
structure mQ(t:ax):Prop where
 len:t.length≤6
 inst: ∀y∈t,EI y.1
 q: ∀y∈t,aD y.2.1∧w5 y.2.1
theorem Le{c:ae}{t:ax}(h:qO c t=true)(sS: ∀y∈t,aD y.2.1):mQ t:=by
 unfold qO at h
 obtain⟨h1,h2⟩:=Bool.and_eq_true_iff.1 h
 have la:=of_decide_eq_true h1
 have h6:c.1.length≤6:=by
  unfold fZ at h2
  exact(of_decide_eq_true (Bool.and_eq_true_iff.1 h2).1).2
 have get: ∀(i:Nat) (hi:i<t.length),t.getD i bP=t[i]:=fun i hi=>by rw[List.getD_eq_getElem?_getD,List.getElem?_eq_getElem hi];rfl
 have KJ: ∀i,i<t.length→jO (t.getD i bP).1 (t.getD i bP).2.1 c.1.length i (t.getD (i-1) bP).1:=la
 have inc: ∀i,i<t.length→(i:Int)≤(t.getD i bP).1:=by
  intro i
  induction i with
  |zero=>intro hi;exact(KJ 0 hi).1
  |succ i ih=>
   intro hi
   have a:=ih (by omega)
   have b:=(KJ (i+1) hi).2.2.2.2 (by omega)
   rw[Nat.add_sub_cancel]at b
   have g: ∀x y:Int,(i:Int)≤x→x<y→((i+1:Nat):Int)≤y:=fun x y _ _=>by omega
   exact g _ _ a b
 refine⟨?_,fun y hy=> ?_,fun y hy=> ?_⟩
 ·by_cases h0:t.length=0
  ·omega
  ·have a:=inc (t.length-1) (by omega)
   have b:=(KJ (t.length-1) (by omega)).2.1
   have g: ∀x:Int,((t.length-1:Nat):Int)≤x→x<(c.1.length:Int)→t.length≤6:=fun x _ _=>by omega
   exact g _ a b
 ·obtain⟨i,hi,e⟩:=List.getElem_of_mem hy
  have:=KJ i hi
  rw[get i hi,e]at this
  have g: ∀x:Int,0≤x→x<(c.1.length:Int)→EI x:=fun x _ _=>by unfold EI;omega
  exact g _ this.1 this.2.1
 ·obtain⟨i,hi,e⟩:=List.getElem_of_mem hy
  have:=KJ i hi
  rw[get i hi,e]at this
  exact⟨sS y hy,this.2.2.2.1⟩
structure lE(z:Mh)(i:Nat):Prop where
 place: ∀x∈z.1,bU x.1 x.2.1
 q: ∀x∈z.1,aD (eO x)∧w5 (eO x)
 len:z.1.length≤12*i
 flat: ∀a:Int,(dR a z.1).sum=0
 key: ∀x∈z.2.1,ea x.1 x.2.1
 qe: ∀x∈z.2.1,aD (eO x)
 N4:z.2.1.length≤2*i
 zero:(z.2.1.map eO).sum=0
 out:z.2.2.length=i
theorem An(a:Int)(l m:aj):dR a (l++m)=dR a l++dR a m:=by
 induction l with
 |nil=>rfl
 |cons x t ih=>
  rw[List.cons_append,fe,fe,ih]
  split<;>rfl
theorem Ct{h:Int}{x:cy}: ∀{t:ax},x∈dG h t→ ∃y∈t,x=((0:Int),(y.1,((0-y.2.1:Int),())))∨x=(h,(y.1,(y.2.1,())))
 |[],hx=>nomatch hx
 |y::t,hx=>by
  rw[gf]at hx
  rcases List.mem_cons.1 hx with e|hx
  ·exact⟨y,List.mem_cons_self ..,Or.inl e⟩
  ·rcases List.mem_cons.1 hx with e|hx
   ·exact⟨y,List.mem_cons_self ..,Or.inr e⟩
   ·obtain⟨y',hy,e⟩:=Ct hx
    exact⟨y',List.mem_cons_of_mem _ hy,e⟩
theorem JJ(h:Int): ∀t:ax,(dG h t).length=2*t.length
 |[]=>rfl
 |y::t=>by
  rw[gf,List.length_cons,List.length_cons,List.length_cons,JJ h t];omega
theorem EJ(h a:Int): ∀t:ax,(dR a (dG h t)).sum=0
 |[]=>rfl
 |y::t=>by
  have ih:=EJ h a t
  rw[gf,fe,fe]
  dsimp only
  by_cases e:y.1=a
  ·rw[if_pos e,if_pos e,List.sum_cons,List.sum_cons,ih]
   have g: ∀v:Int,0-v+(v+0)=0:=fun v=>by omega
   exact g y.2.1
  ·rw[if_neg e,if_neg e];exact ih
theorem Yr{v:Int}(h:aD v∧w5 v):aD (0-v)∧w5 (0-v):=by
 unfold aD w5 at*;omega
theorem lE.adJ{z:Mh}{i:Nat}(I:lE z i){h p:Int}(h1:1≤h∧h≤24)(hp: -1152921504606846976≤p∧p≤1152921504606846976){t:ax}(g:mQ t)(x:cF):lE (z.1++dG h t,z.2.1++Am h p,z.2.2++[x]) (i+1):=by
 have jr: ∀a:Int,EI a→bU 0 a∧bU h a:=fun a ha=>by unfold EI at ha;unfold bU;omega
 refine⟨fun x hx=> ?_,fun x hx=> ?_,?_,fun a=> ?_,fun x hx=> ?_,fun x hx=> ?_,?_,?_,?_⟩
 ·rcases List.mem_append.1 hx with hx|hx
  ·exact I.place x hx
  ·obtain⟨y,hy,e|e⟩:=Ct hx
   ·rw[e];exact(jr _ (g.inst y hy)).1
   ·rw[e];exact(jr _ (g.inst y hy)).2
 ·rcases List.mem_append.1 hx with hx|hx
  ·exact I.q x hx
  ·obtain⟨y,hy,e|e⟩:=Ct hx
   ·rw[e];exact Yr (g.q y hy)
   ·rw[e];exact g.q y hy
 ·rw[List.length_append,JJ]
  have:=I.len
  have:=g.len
  omega
 ·show(dR a (z.1++dG h t)).sum=0
  rw[An,List.sum_append,I.flat a,EJ];rfl
 ·rcases List.mem_append.1 hx with hx|hx
  ·exact I.key x hx
  ·rcases List.mem_cons.1 hx with e|hx
   ·rw[e];show ea 5 h;unfold ea;omega
   ·rw[List.mem_singleton.1 hx];show ea 2 0;decide
 ·rcases List.mem_append.1 hx with hx|hx
  ·exact I.qe x hx
  ·rcases List.mem_cons.1 hx with e|hx
   ·rw[e];show aD (0-p);unfold aD;omega
   ·rw[List.mem_singleton.1 hx];show aD p;unfold aD;omega
 ·show(z.2.1++Am h p).length≤_
  have:=I.N4
  rw[List.length_append,show(Am h p).length=2 from rfl];omega
 ·show((z.2.1++Am h p).map eO).sum=0
  rw[List.map_append,List.sum_append,I.zero]
  show 0+((0-p)+(p+0))=0
  omega
 ·show(z.2.2++[x]).length=_
  rw[List.length_append,I.out];rfl
theorem lE.pass{z:Mh}{i:Nat}(I:lE z i)(x:cF):lE (z.1,z.2.1,z.2.2++[x]) (i+1):=
 ⟨I.place,I.q,by have:=I.len;show z.1.length≤_;omega,I.flat,I.key,I.qe,by have:=I.N4;show z.2.1.length≤_;omega,I.zero,by rw[List.length_append,I.out];rfl⟩
theorem lE.nil:lE ([],[],[]) 0:=⟨fun x hx=>(nomatch hx),fun x hx=>(nomatch hx),Nat.le_refl _,fun a=>rfl,fun x hx=>(nomatch hx),fun x hx=>(nomatch hx),Nat.le_refl _,rfl,rfl⟩
theorem lE.Wy{z:Mh}{i:Nat}(I:lE z i)(h:i≤12):JB z.1:=⟨I.place,I.q,by have:=I.len;omega,I.flat⟩
theorem lE.Wz{z:Mh}{i:Nat}(I:lE z i)(h:i≤12):JD z.2.1:=⟨I.key,fun x hx=>sX (I.qe x hx),by have:=I.N4;omega,I.zero⟩
end VM
end
section
namespace VM
open Go VM.F
theorem sk{p:Int}(h: -1152921504606846976≤p∧p≤1152921504606846976):(-9223372036854775808≤p∧p<9223372036854775808)∧(-9223372036854775808≤0-p∧0-p<9223372036854775808):=by omega
theorem Ys(N:Nat)(K:lP.cU)(l:ay)(b db:ah)(out cV:aA)(s e:aj)(w:bs)(h:Int)(i:Nat)(hi:i≤1000)(hs:s.length≤1000)(he:e.length≤1000)(hw: -1152921504606846976≤w.2.2.2.1∧w.2.2.2.1≤1152921504606846976){t:ax}(g:mQ t)(hN:2000000≤N):
  lP.uB N K N l b db out s (e.map fy) w h cV (cV.length:Int) (i:Int) t (t.length:Int) 0=K l b db out (s++dG h t) ((e++Am h w.2.2.2.1).map fy) cV (cV.length:Int) ((i+1:Nat):Int):=by
 have hlen:=g.len
 have:=lK t bP (fun n j s=>lP.uB N K n l b db out s (e.map fy) w h cV (cV.length:Int) (i:Int) t (t.length:Int) j) (fun u s=>K l b db out (s++dG h u) ((e++Am h w.2.2.2.1).map fy) cV (cV.length:Int) ((i+1:Nat):Int)) (fun j s=>s.length≤1000+2*j)
  (fun n j s hj hI hr=> ?_) (fun n s hI=> ?_) t.length N 0 s (by omega) (by omega) (by omega) (by omega)
 ·exact this
 ·unfold lP.uB lP.rQ
  have hm:t.getD j bP∈t:=by
   rw[List.getD_eq_getElem?_getD,List.getElem?_eq_getElem hj];exact List.getElem_mem hj
  have hn:=(Yr (g.q _ hm)).1
  unfold aD at hn
  rw[aH (by omega),cond_true,aJ (by omega) (by omega),cond_true,Int.toNat_natCast,aq (x:=(j:Int)+1) (by omega) (by omega),aa j,aq hn.1 hn.2]
  dsimp only
  rw[bh (by rw[List.length_cons,List.length_singleton];omega),cond_true,gf]
  refine(hr _ ?_).trans ?_
  ·rw[List.length_append,List.length_cons,List.length_singleton];omega
  ·rw[List.append_assoc];rfl
 ·unfold lP.uB lP.rQ
  rw[aF (by omega),cond_false,aq (x:=0-w.2.2.2.1) (sk hw).2.1 (sk hw).2.2,qJ N (sk hw).2.1 (sk hw).2.2,Option.bind_some,qJ N (sk hw).1.1 (sk hw).1.2,Option.bind_some,bh (by rw[List.length_map,List.length_cons,List.length_singleton];omega),cond_true,aq (x:=(i:Int)+1) (by omega) (by omega),aa i]
  show _=K l b db out (s++[]) _ _ _ _
  rw[List.append_nil,List.map_append]
  rfl
theorem Cu{D T:aA}{x:cF}{i:Nat}(h:D.length=i):(D++x::T).getD i ((0:Int),(a6,aE))=x:=by
 subst h;simp
theorem xF{D T:aA}{x y:cF}{i:Nat}(h:D.length=i):(D++x::T).set i y=D++y::T:=by
 subst h;simp
theorem uC{D T:aA}{x:cF}{i:Nat}(h:D.length=i):i<(D++x::T).length:=by
 rw[List.length_append,List.length_cons];omega
theorem yX{D T:aA}{x:cF}:D++x::T=(D++[x])++T:=by rw[List.append_assoc];rfl
structure vv(l:aA):Prop where
 len:kG l
 q: ∀x∈l,∀y∈x.2.1,aD y.2.1
theorem Bf{c:ae}{l:aA}(h:ll c l=true)(w:vv l){i:Nat}(hi:i<l.length):mQ (l.getD i ((0:Int),(a6,aE))).2.1:=by
 unfold ll at h
 have h':=of_decide_eq_true (Bool.and_eq_true_iff.1 (Bool.and_eq_true_iff.1 (Bool.and_eq_true_iff.1 h).2).2).1
 have hl:qO c (l.getD i ((0:Int),(a6,aE))).2.1=true:=(h' i hi).2.2.2.1
 refine Le hl ?_
 have hm:l.getD i ((0:Int),(a6,aE))∈l:=by
  rw[List.getD_eq_getElem?_getD,List.getElem?_eq_getElem hi];exact List.getElem_mem hi
 exact w.q _ hm
theorem yY{c:ae}{l:aA}(h:ll c l=true):l.length≤12:=by
 unfold ll at h
 exact of_decide_eq_true (Bool.and_eq_true_iff.1 (Bool.and_eq_true_iff.1 h).2).1
theorem pB{c:ae}{b:ah}(h:et c b=true):eU b.2.2.1=true∧dt b.2.2.2.1=true:=by
 unfold et at h
 have h1:=(Bool.and_eq_true_iff.1 (Bool.and_eq_true_iff.1 h).2).2
 have h2:=Bool.and_eq_true_iff.1 h1
 have h3:=(Bool.and_eq_true_iff.1 (Bool.and_eq_true_iff.1 h2.2).2).1
 refine⟨h2.1,?_⟩
 unfold vq at h3
 exact(Bool.and_eq_true_iff.1 h3).2
structure uD(b:ah):Prop where
 w:qN b
 r:b.2.2.1.length≤90000
 s:b.2.2.2.1.length≤90000
theorem EK(N:Nat)(hN:4000000≤N)(c:ae){b:ah}{cV:aA}{l:ay}(w:uD b)(hl:l.length≤100000)(tH:cV.length≤100000)(lw:vv cV):
  lP N c b cV l=some (lO c b cV l):=by
 unfold lP lP.b lO
 rw[Q5 N hN w.w,Option.bind_some,Rr N (by omega) c tH lw.len,Option.bind_some,Jw N hl (by omega),Option.bind_some,N2 N tH lw.len (by omega),Option.bind_some,cond_not,cond_not,cond_not]
 by_cases hB:et c b=false
 ·rw[hB];rfl
 rw[Bool.not_eq_false]at hB
 rw[hB,cond_true,if_pos rfl]
 by_cases hL:ll c cV=false
 ·rw[hL];rfl
 rw[Bool.not_eq_false]at hL
 rw[hL,cond_true,if_pos rfl]
 by_cases hD:lj l=false
 ·rw[hD];rfl
 rw[Bool.not_eq_false]at hD
 rw[hD,cond_true,if_pos rfl]
 obtain⟨hr,hs⟩:=pB hB
 have Ki:=yY hL
 have:=lK cV ((0:Int),(a6,aE)) (fun n i (z:Mh)=>lP.l7 N n l b (a6,(cn,(bc,(bc,(cQ,(cY,())))))) (z.2.2++cV.drop i.toNat) z.1 (z.2.1.map fy) cV (cV.length:Int) i) (fun t z=>some (wv b (Ld b l t z))) (fun i z=>lE z i)
  (fun n i z hi I qb=> ?_) (fun n z I=> ?_) cV.length N 0 ([],[],[]) (by omega) (by omega) (by omega) lE.nil
 ·exact this
 ·unfold lP.l7 lP.lD
  have Lf:=I.out
  have hle:=I.len
  have aiY:=I.N4
  rw[Int.toNat_natCast,drop_cons hi ((0:Int),(a6,aE)),yV]
  generalize hx:cV.getD i ((0:Int),(a6,aE))=x at*
  have hg:mQ x.2.1:=by rw[←hx];exact Bf hL lw hi
  rw[aH (by omega),cond_true,aJ (by omega) (by omega),cond_true,aq (x:=(i:Int)+1) (by omega) (by omega),aa i,cond_not,aB]
  by_cases h1:x.2.2.2.1=1
  ·rw[if_pos h1,if_pos h1,xE N hl (by omega),Option.bind_some,cond_not]
   by_cases h2:(cA l x.1).2=true
   ·have hb:=JI h2
    unfold oM sU at hb
    rw[h2,cond_true,if_pos rfl,NF N w.w.a (by omega),Option.bind_some,vo N w.w.m (by omega),Option.bind_some,aB,aB]
    by_cases h3:ga b.1 (cA l x.1).1.2.2.1=0
    ·rw[if_pos h3,if_pos (Or.inl h3)];rfl
    ·rw[if_neg h3]
     by_cases h4:dQ b.2.1 (cA l x.1).1.2.2.1=0
     ·rw[if_pos h4,if_pos (Or.inr h4)];rfl
     ·rw[if_neg h4,if_neg (fun h=>h.elim h3 h4),aJ (by omega) (by have:=uC (T:=cV.drop (i+1)) (x:=x) Lf;omega),cond_true]
      dsimp only
      rw[Cu Lf,xF Lf]
      rw[aJ (by omega) (by have:=uC (T:=cV.drop (i+1)) (x:=x) Lf;rw[List.length_append,List.length_cons]at this ⊢;omega),cond_true,Cu Lf,xF Lf]
      rw[aJ (by omega) (by have:=uC (T:=cV.drop (i+1)) (x:=x) Lf;rw[List.length_append,List.length_cons]at this ⊢;omega),cond_true,Cu Lf,xF Lf]
      rw[Ys N _ l b _ _ _ _ _ _ _ i (by omega) (by omega) (by omega) hb.2.2.2 hg (by omega),yX]
      exact qb _ (I.adJ (EH h4) hb.2.2.2 hg _)
   ·rw[Bool.not_eq_true]at h2
    rw[h2,cond_false,if_neg (by decide),aJ (by omega) (by have:=uC (T:=cV.drop (i+1)) (x:=x) Lf;omega),cond_true,Cu Lf,xF Lf,yX]
    exact qb _ (I.pass _)
  ·rw[if_neg h1,if_neg h1,yX]
   exact qb _ (I.pass x)
 ·unfold lP.l7 lP.lD
  rw[aF (by omega),cond_false,Int.toNat_natCast,List.drop_length,List.append_nil,N0 N (by omega) w.w hr hs w.r w.s (I.Wy Ki) (I.Wz Ki),Option.bind_some,cond_not,aB]
  show _=some (wv b (some z))
  unfold wv
  by_cases h:(eP b z.1 z.2.1).2=0
  ·rw[if_pos h]
   dsimp only
   rw[if_pos (show fM (eP b z.1 z.2.1).2 0 from h)]
  ·rw[if_neg h]
   dsimp only
   rw[if_neg (show ¬fM (eP b z.1 z.2.1).2 0 from h)]
end VM
end
section
namespace VM
open Go VM.F
theorem Rs(N:Nat)(K:jk.cU)(l:ay)(b db:ah)(out cV:aA)(s e:aj)(x:cF)(w:bs)(h:Int)(i:Nat)(hi:i≤1000)(hs:s.length≤1000)(he:e.length≤1000)(ho:out.length≤1000)(hw: -1152921504606846976≤w.2.2.2.1∧w.2.2.2.1≤1152921504606846976)(g:mQ x.2.1)(hN:4000000≤N):
  jk.qc N K N cV l b db s (e.map gI) out (i:Int) x w h 0=K cV l b db (s++dG h x.2.1) ((e++Am h w.2.2.2.1).map gI) (out++[x]) ((i+1:Nat):Int):=by
 have hlen:=g.len
 have:=lK x.2.1 bP (fun n j s=>jk.qc N K n cV l b db s (e.map gI) out (i:Int) x w h j) (fun u s=>K cV l b db (s++dG h u) ((e++Am h w.2.2.2.1).map gI) (out++[x]) ((i+1:Nat):Int)) (fun j s=>s.length≤1000+2*j)
  (fun n j s hj hI hr=> ?_) (fun n s hI=> ?_) x.2.1.length N 0 s (by omega) (by omega) (by omega) (by omega)
 ·exact this
 ·unfold jk.qc jk.pq
  have hm:x.2.1.getD j bP∈x.2.1:=by
   rw[List.getD_eq_getElem?_getD,List.getElem?_eq_getElem hj];exact List.getElem_mem hj
  have hn:=(Yr (g.q _ hm)).1
  unfold aD at hn
  rw[aH (by omega),cond_true,aJ (by omega) (by omega),cond_true,cond_true,Int.toNat_natCast,aq (x:=(j:Int)+1) (by omega) (by omega),aa j,aq hn.1 hn.2]
  dsimp only
  rw[cond_true,cond_true,bh (by rw[List.length_cons,List.length_singleton];omega),cond_true,gf]
  refine(hr _ ?_).trans ?_
  ·rw[List.length_append,List.length_cons,List.length_singleton];omega
  ·rw[List.append_assoc];rfl
 ·unfold jk.qc jk.pq xd
  have hf:=Fit.i64 (sk hw).1.1 (sk hw).1.2
  rw[aF (by omega),cond_false,eS N (by omega) (sk hw).1.1 (sk hw).1.2,Option.bind_some,oJ N (by omega) (hf.mono (by omega)),Option.bind_some,Option.bind_some,bh (by rw[List.length_map,List.length_cons,List.length_singleton];omega),cond_true,bh (by rw[List.length_singleton];omega),cond_true,aq (x:=(i:Int)+1) (by omega) (by omega),aa i]
  show _=K cV l b db (s++[]) _ _ _
  rw[List.append_nil,List.map_append]
  have e0:bZ (-w.2.2.2.1)=bZ (0-w.2.2.2.1):=congrArg bZ (Int.zero_sub _).symm
  rw[e0]
  rfl
theorem Lg(N:Nat)(hN:5000000≤N)(c:ae){b:ah}{cV:aA}{l:ay}(w:uD b)(hl:l.length≤100000)(tH:cV.length≤100000)(lw:vv cV):
  jk N c b cV l=some (lO c b cV l):=by
 unfold jk jk.b lO
 rw[Ex N hN w.w,Option.bind_some,uA N (by omega) c tH lw.len,Option.bind_some,mO N hl (by omega),Option.bind_some,cond_not,cond_not,cond_not]
 by_cases hB:et c b=false
 ·rw[hB];rfl
 rw[Bool.not_eq_false]at hB
 rw[hB,cond_true,if_pos rfl]
 by_cases hL:ll c cV=false
 ·rw[hL];rfl
 rw[Bool.not_eq_false]at hL
 rw[hL,cond_true,if_pos rfl]
 by_cases hD:lj l=false
 ·rw[hD];rfl
 rw[Bool.not_eq_false]at hD
 rw[hD,cond_true,if_pos rfl]
 obtain⟨hr,hs⟩:=pB hB
 have Ki:=yY hL
 have:=lK cV ((0:Int),(a6,aE)) (fun n i (z:Mh)=>jk.l7 N n cV l b (a6,(cn,(bc,(bc,(cQ,(cY,())))))) z.1 (z.2.1.map gI) z.2.2 i) (fun t z=>some (wv b (Ld b l t z))) (fun i z=>lE z i)
  (fun n i z hi I qb=> ?_) (fun n z I=> ?_) cV.length N 0 ([],[],[]) (by omega) (by omega) (by omega) lE.nil
 ·exact this
 ·unfold jk.l7 jk.lD
  have Lf:=I.out
  have hle:=I.len
  have aiY:=I.N4
  have hlw:=mP lw.len i
  rw[Int.toNat_natCast,yV]
  have hg:mQ (cV.getD i ((0:Int),(a6,aE))).2.1:=Bf hL lw hi
  generalize cV.getD i ((0:Int),(a6,aE))=x at*
  have hlx:([]++x.2.1:List ((Int)×((Int)×(Unit))))=x.2.1:=rfl
  rw[aH (by omega),cond_true,aJ (by omega) (by omega),cond_true,bh (by rw[List.length_nil];omega),cond_true,aq (x:=(i:Int)+1) (by omega) (by omega),aa i,cond_not,aB]
  by_cases h1:x.2.2.2.1=1
  ·rw[if_pos h1,if_pos h1,EE N hl (by omega),Option.bind_some,cond_not]
   by_cases h2:(cA l x.1).2=true
   ·have hb:=JI h2
    unfold oM sU at hb
    unfold Ao
    rw[h2,cond_true,if_pos rfl,rq N w.w.a (by omega),Option.bind_some,sP N w.w.m (by omega),Option.bind_some,Option.bind_some,aB,aB]
    by_cases h4:dQ b.2.1 (cA l x.1).1.2.2.1=0
    ·rw[if_pos h4,if_pos (Or.inr h4)];rfl
    ·rw[if_neg h4]
     by_cases h3:ga b.1 (cA l x.1).1.2.2.1=0
     ·rw[if_pos h3,if_pos (Or.inl h3)];rfl
     ·rw[if_neg h3,if_neg (fun h=>h.elim h3 h4)]
      refine(Rs N _ l b (a6,(cn,(bc,(bc,(cQ,(cY,())))))) z.2.2 cV z.1 z.2.1 (JH x (cA l x.1).1.2.2.1 (cA l x.1).1.2.2.2.1) (cA l x.1).1 (dQ b.2.1 (cA l x.1).1.2.2.1) i (by omega) (by omega) (by omega) (by omega) hb.2.2.2 hg (by omega)).trans ?_
      exact qb _ (I.adJ (EH h4) hb.2.2.2 hg _)
   ·rw[Bool.not_eq_true]at h2
    rw[h2,cond_false,if_neg (by decide),bh (by rw[List.length_singleton];omega),cond_true]
    exact qb _ (I.pass _)
  ·rw[if_neg h1,if_neg h1,bh (by rw[List.length_singleton];omega),cond_true]
   exact qb _ (I.pass x)
 ·unfold jk.l7 jk.lD
  rw[aF (by omega),cond_false,Rq N (by omega) w.w hr hs w.r w.s (I.Wy Ki) (I.Wz Ki),Option.bind_some,cond_not,aB]
  show _=some (wv b (some z))
  unfold wv
  by_cases h:(eP b z.1 z.2.1).2=0
  ·rw[if_pos h]
   dsimp only
   rw[if_pos (show fM (eP b z.1 z.2.1).2 0 from h)]
  ·rw[if_neg h]
   dsimp only
   rw[if_neg (show ¬fM (eP b z.1 z.2.1).2 0 from h)]
end VM
end
section
namespace VM
open Go VM.F
theorem cK(x:Int):az x x=true:=ct rfl
theorem HX(x:KV):kV (.pair (.int .i64) (.pair (.int .i64) .unit)) x x=true:=by
 show(az x.1 x.1&&(az x.2.1 x.2.1&&true))=true
 rw[cK,cK];rfl
theorem HY(x:cy):kV (.pair (.int .i64) (.pair (.int .i64) (.pair (.int .i64) .unit))) x x=true:=by
 show(az x.1 x.1&&kV (.pair (.int .i64) (.pair (.int .i64) .unit)) x.2 x.2)=true
 rw[cK,HX];rfl
theorem HZ(x:bs):kV (.pair (.int .i64) (.pair (.int .i64) (.pair (.int .i64) (.pair (.int .i64) .unit)))) x x=true:=by
 show(az x.1 x.1&&kV (.pair (.int .i64) (.pair (.int .i64) (.pair (.int .i64) .unit))) x.2 x.2)=true
 rw[cK,HY];rfl
theorem Yt(x:fD):kV (.pair (.int .i64) (.pair (.int .i64) (.pair (.int .i64) (.pair (.int .i64) (.pair (.int .i64) (.pair (.int .i64) .unit)))))) x x=true:=by
 show(az x.1 x.1&&(az x.2.1 x.2.1&&kV (.pair (.int .i64) (.pair (.int .i64) (.pair (.int .i64) (.pair (.int .i64) .unit)))) x.2.2 x.2.2))=true
 rw[cK,cK,HZ];rfl
theorem gy{F:Nat→Int→Option Bool}{len:Nat}(hs: ∀n (i:Nat),i<len→F n ((i+1:Nat):Int)=some true→F (n+1) (i:Int)=some true)(he: ∀n,F (n+1) (len:Int)=some true): ∀(m n i:Nat),len-i≤m→m<n→i≤len→F n (i:Int)=some true
 |m,0,i,_,hn,_=>by omega
 |m,n+1,i,hm,hn,hi=>by
  by_cases h:i<len
  ·exact hs n i h (gy hs he (m-1) n (i+1) (by omega) (by omega) (by omega))
  ·have:i=len:=by omega
   subst this;exact he n
theorem EL(N:Nat){l:ax}(hl:l.length≤100000)(hN:200000≤N):ln N l l=some true:=by
 unfold ln ln.b
 rw[cK,Bool.not_true,cond_false]
 refine gy (F:=fun n i=>ln.l4 N n l l i) (len:=l.length) (fun n i hi hr=> ?_) (fun n=> ?_) l.length N 0 (by omega) (by omega) (by omega)
 ·unfold ln.l4 ln.ca
  rw[aH (by omega),cond_true,aJ (by omega) (by omega),cond_true,cond_true,HX,Bool.not_true,cond_false,aq (x:=(i:Int)+1) (by omega) (by omega),aa i]
  exact hr
 ·unfold ln.l4 ln.ca
  rw[aF (by omega),cond_false]
theorem N5(N:Nat){l:ay}(hl:l.length≤100000)(hN:200000≤N):lq N l l=some true:=by
 unfold lq lq.b
 rw[cK,Bool.not_true,cond_false]
 refine gy (F:=fun n i=>lq.l4 N n l l i) (len:=l.length) (fun n i hi hr=> ?_) (fun n=> ?_) l.length N 0 (by omega) (by omega) (by omega)
 ·unfold lq.l4 lq.ca
  rw[aH (by omega),cond_true,aJ (by omega) (by omega),cond_true,cond_true,HZ,Bool.not_true,cond_false,aq (x:=(i:Int)+1) (by omega) (by omega),aa i]
  exact hr
 ·unfold lq.l4 lq.ca
  rw[aF (by omega),cond_false]
theorem N6(N:Nat){l:aj}(hl:l.length≤100000)(hN:200000≤N):xe N l l=some true:=by
 unfold xe xe.b
 rw[cK,Bool.not_true,cond_false]
 refine gy (F:=fun n i=>xe.l4 N n l l i) (len:=l.length) (fun n i hi hr=> ?_) (fun n=> ?_) l.length N 0 (by omega) (by omega) (by omega)
 ·unfold xe.l4 xe.ca
  rw[aH (by omega),cond_true,aJ (by omega) (by omega),cond_true,cond_true,HY,Bool.not_true,cond_false,aq (x:=(i:Int)+1) (by omega) (by omega),aa i]
  exact hr
 ·unfold xe.l4 xe.ca
  rw[aF (by omega),cond_false]
theorem Lh(N:Nat){l:aj}(hl:l.length≤100000)(hN:200000≤N):xf N l l=some true:=by
 unfold xf xf.b
 rw[cK,Bool.not_true,cond_false]
 refine gy (F:=fun n i=>xf.l4 N n l l i) (len:=l.length) (fun n i hi hr=> ?_) (fun n=> ?_) l.length N 0 (by omega) (by omega) (by omega)
 ·unfold xf.l4 xf.ca
  rw[aH (by omega),cond_true,aJ (by omega) (by omega),cond_true,cond_true,HY,Bool.not_true,cond_false,aq (x:=(i:Int)+1) (by omega) (by omega),aa i]
  exact hr
 ·unfold xf.l4 xf.ca
  rw[aF (by omega),cond_false]
theorem H4(N:Nat){l:aZ}(hl:l.length≤100000)(hN:200000≤N):xg N l l=some true:=by
 unfold xg xg.b
 rw[cK,Bool.not_true,cond_false]
 refine gy (F:=fun n i=>xg.l4 N n l l i) (len:=l.length) (fun n i hi hr=> ?_) (fun n=> ?_) l.length N 0 (by omega) (by omega) (by omega)
 ·unfold xg.l4 xg.ca
  rw[aH (by omega),cond_true,aJ (by omega) (by omega),cond_true,cond_true,Yt,Bool.not_true,cond_false,aq (x:=(i:Int)+1) (by omega) (by omega),aa i]
  exact hr
 ·unfold xg.l4 xg.ca
  rw[aF (by omega),cond_false]
theorem N7(N:Nat){l:List (Int)}(hl:l.length≤100000)(hN:200000≤N):xh N l l=some true:=by
 unfold xh xh.b
 rw[cK,Bool.not_true,cond_false]
 refine gy (F:=fun n i=>xh.l4 N n l l i) (len:=l.length) (fun n i hi hr=> ?_) (fun n=> ?_) l.length N 0 (by omega) (by omega) (by omega)
 ·unfold xh.l4 xh.ca
  rw[aH (by omega),cond_true,aJ (by omega) (by omega),cond_true,cond_true,cK,Bool.not_true,cond_false,aq (x:=(i:Int)+1) (by omega) (by omega),aa i]
  exact hr
 ·unfold xh.l4 xh.ca
  rw[aF (by omega),cond_false]
theorem N8(N:Nat)(hN:200000≤N){b:ah}(h1:b.1.length≤100000)(h2:b.2.1.length≤100000)(h3:b.2.2.1.length≤100000)(h4:b.2.2.2.1.length≤100000)(h5:b.2.2.2.2.1.length≤100000)(h6:b.2.2.2.2.2.1.length≤100000):F57 N b b=some true:=by
 unfold F57
 rw[EL N h1 hN,Option.bind_some,cond_true,N5 N h2 hN,Option.bind_some,cond_true,N6 N h3 hN,Option.bind_some,cond_true,Lh N h4 hN,Option.bind_some,cond_true,N7 N h5 hN,Option.bind_some,cond_true,H4 N h6 hN,Option.bind_some]
theorem Rt(N:Nat)(K:mR.aU)(l:aA)(i:Nat)(hi:i≤100000)(x:cF)(hx:x.2.1.length≤100000)(hN:200000≤N)(hK:K l l ((i+1:Nat):Int)=some true):mR.WA N K N l l (i:Int) x x 0=some true:=by
 refine gy (F:=fun n j=>mR.WA N K n l l (i:Int) x x j) (len:=x.2.1.length) (fun n j hj hr=> ?_) (fun n=> ?_) x.2.1.length N 0 (by omega) (by omega) (by omega)
 ·unfold mR.WA mR.Ru
  rw[aH (by omega),cond_true,aJ (by omega) (by omega),cond_true,cond_true,HX,Bool.not_true,cond_false,aq (x:=(j:Int)+1) (by omega) (by omega),aa j]
  exact hr
 ·unfold mR.WA mR.Ru
  rw[aF (by omega),cond_false,aq (x:=(i:Int)+1) (by omega) (by omega),aa i,hK]
theorem EM(N:Nat){l:aA}(hl:l.length≤100000)(hw:kG l)(hN:200000≤N):mR N l l=some true:=by
 unfold mR mR.b
 rw[cK,Bool.not_true,cond_false]
 refine gy (F:=fun n i=>mR.l4 N n l l i) (len:=l.length) (fun n i hi hr=> ?_) (fun n=> ?_) l.length N 0 (by omega) (by omega) (by omega)
 ·unfold mR.l4 mR.ca
  rw[aH (by omega),cond_true,aJ (by omega) (by omega),cond_true,cond_true,cK,Bool.not_true,cond_false,cK,Bool.not_true,cond_false,cK,Bool.not_true,cond_false,cK,Bool.not_true,cond_false,cK,Bool.not_true,cond_false,cK,Bool.not_true,cond_false]
  exact Rt N _ l i (by omega) _ (mP hw i) hN hr
 ·unfold mR.l4 mR.ca
  rw[aF (by omega),cond_false]
theorem yZ{P:Int→Prop} [DecidablePred P]{f:Int→Int→Int}: ∀{K:List cC} {o:aj},dC P f K=some o→o.length≤K.length
 |[],o,h=>by
  have:some []=some o:=h
  rw[←Option.some.inj this];exact Nat.le_refl _
 |k::t,o,h=>by
  rw[jQ]at h
  by_cases hP:P (f k.1 k.2)
  ·rw[if_pos hP]at h
   cases hc:dC P f t with
   |none=>rw[hc]at h;exact absurd h (by simp)
   |some r=>
    have ih:=yZ hc
    rw[hc]at h
    have h':=Option.some.inj h
    rw[←h',List.length_cons]
    dsimp only
    split
    ·omega
    ·rw[List.length_cons];omega
  ·rw[if_neg hP]at h;exact absurd h (by simp)
theorem H5:sW.length=150:=by decide+kernel
theorem Li:yS.length=175:=by decide+kernel
structure JK(b:ah):Prop where
 m:b.1.length≤100000
 a:b.2.1.length≤100000
 r:b.2.2.1.length≤100000
 s:b.2.2.2.1.length≤100000
 p:b.2.2.2.2.1.length≤100000
 o:b.2.2.2.2.2.1.length≤100000
theorem jR:JK (([]:ax),(([]:ay),(([]:aj),(([]:aj),(([]:List Int),(([]:aZ),())))))):=⟨Nat.zero_le _,Nat.zero_le _,Nat.zero_le _,Nat.zero_le _,Nat.zero_le _,Nat.zero_le _⟩
theorem EN{b:ah}(w:qN b)(s e:aj):JK (eP b s e).1:=by
 unfold eP
 cases h1:dC Fq (fS b.2.2.2.1 s) sW with
 |none=>exact jR
 |some s'=>
  cases h2:dC aD (fS b.2.2.1 e) yS with
  |none=>exact jR
  |some r'=>
   have g1:=yZ h1
   have g2:=yZ h2
   rw[H5]at g1
   rw[Li]at g2
   exact⟨w.m,w.a,by show r'.length≤_;omega,by show s'.length≤_;omega,w.p,w.o⟩
theorem JL{b:ah}{l:ay}: ∀{t:aA} {z z':Mh},Ld b l t z=some z'→kG t→kG z.2.2→z'.2.2.length=z.2.2.length+t.length∧kG z'.2.2
 |[],z,z',h,_,hz=>by
  have:some z=some z':=h
  rw[←Option.some.inj this];exact⟨rfl,hz⟩
 |x::t,z,z',h,ht,hz=>by
  have snoc: ∀(y:cF),y.2.1=x.2.1→kG (z.2.2++[y]):=fun y e a ha=>by
   rcases List.mem_append.1 ha with ha|ha
   ·exact hz a ha
   ·rw[List.mem_singleton.1 ha,e];exact ht x (List.mem_cons_self ..)
  have go: ∀(s e:aj) (y:cF),y.2.1=x.2.1→Ld b l t (s,e,z.2.2++[y])=some z'→z'.2.2.length=z.2.2.length+(x::t).length∧kG z'.2.2:=fun s e y hy h=>by
   have:=JL h (fun a ha=>ht a (List.mem_cons_of_mem _ ha)) (snoc y hy)
   rw[List.length_append,List.length_singleton]at this
   rw[List.length_cons]
   exact⟨by omega,this.2⟩
  rw[yV]at h
  split at h
  ·split at h
   ·split at h
    ·exact absurd h (by simp)
    ·exact go _ _ (JH x _ _) rfl h
   ·exact go _ _ (N3 x) rfl h
  ·exact go _ _ x rfl h
theorem EO{c:ae}{b:ah}{cV:aA}{l:ay}(w:qN b)(hl:cV.length≤100000)(hw:kG cV):JK (lO c b cV l).1∧(lO c b cV l).2.1.length≤100000∧kG (lO c b cV l).2.1:=by
 have hn:kG []:=fun x hx=>nomatch hx
 unfold lO
 split
 ·split
  ·split
   ·cases h:Ld b l cV ([],[],[])with
    |none=>exact⟨jR,Nat.zero_le _,hn⟩
    |some z=>
     have ho:=JL h hw hn
     show JK (if fM (eP b z.1 z.2.1).2 0 then _ else _:ah×aA×Int).1∧_
     unfold wv
     dsimp only
     split
     ·refine⟨EN w _ _,?_,ho.2⟩
      show z.2.2.length≤_
      have:([]:aA).length=0:=rfl
      have h1:=ho.1
      dsimp only at h1
      omega
     ·exact⟨jR,Nat.zero_le _,hn⟩
   ·exact⟨jR,Nat.zero_le _,hn⟩
  ·exact⟨jR,Nat.zero_le _,hn⟩
 ·exact⟨jR,Nat.zero_le _,hn⟩
theorem JM(N:Nat)(hN:5000000≤N)(c:ae){b:ah}{cV:aA}{l:ay}(id:Int)(w:uD b)(hl:l.length≤100000)(tH:cV.length≤100000)(lw:vv cV):F15 N c b cV l id=some true:=by
 unfold F15
 have sh:=EO (c:=c) (l:=l) w.w tH lw.len
 rw[EK N (by omega) c w hl tH lw,Option.bind_some,Lg N (by omega) c w hl tH lw,Option.bind_some,xE N hl (by omega),Option.bind_some,EE N hl (by omega),Option.bind_some,cK,cond_true,
  N8 N (by omega) sh.1.m sh.1.a sh.1.r sh.1.s sh.1.p sh.1.o,Option.bind_some,cond_true,EM N sh.2.1 sh.2.2 (by omega),Option.bind_some,cond_true,HZ,cond_true]
 cases(cA l id).2<;>rfl
end VM
end
section
namespace VM
open Go VM.F Go.RowKit
def j2(a b:Int):aj→Int
 |[]=>0
 |x::t=>if x.1=a then(if x.2.1=b then x.2.2.1 else j2 a b t)else j2 a b t
theorem pC(a b:Int)(x:cy)(t:aj):j2 a b (x::t)=if x.1=a then(if x.2.1=b then x.2.2.1 else j2 a b t)else j2 a b t:=rfl
def s4(l:aj)(a b:Int):Int:=if dt l then j2 a b l else 0
def Bh(l:aj)(a b:Int):Int:=if eU l then j2 a b l else 0
theorem xG(N:Nat){l:aj}(hl:l.length≤100000)(hN:200000≤N)(a b:Int):tj N l a b=some (s4 l a b):=by
 unfold tj tj.b s4
 rw[mh N hl hN,Option.bind_some,cond_not]
 have:=se l aW (fun n i=>tj.l4 N n l a b i) (fun t=>some (j2 a b t)) (fun n i hi hr=> ?_) (fun n=> ?_) N (by omega)
 ·rw[this];cases dt l<;>rfl
 ·unfold tj.l4 tj.ca
  rw[aH (by omega),cond_true,aJ (by omega) (by omega),cond_true,cond_true,cond_true,Int.toNat_natCast,aq (x:=(i:Int)+1) (by omega) (by omega),aa i,hr,aB,aB,pC]
  split
  ·split<;>rfl
  ·rfl
 ·unfold tj.l4 tj.ca
  rw[aF (by omega),cond_false];rfl
theorem H6(N:Nat){l:aj}(hl:l.length≤100000)(hN:200000≤N)(a b:Int):oU N l a b=some (Bh l a b):=by
 unfold oU oU.b Bh
 rw[yH N hl hN,Option.bind_some,cond_not]
 have:=se l aW (fun n i=>oU.l4 N n l a b i) (fun t=>some (j2 a b t)) (fun n i hi hr=> ?_) (fun n=> ?_) N (by omega)
 ·rw[this];cases eU l<;>rfl
 ·unfold oU.l4 oU.ca
  rw[aH (by omega),cond_true,aJ (by omega) (by omega),cond_true,cond_true,cond_true,Int.toNat_natCast,aq (x:=(i:Int)+1) (by omega) (by omega),aa i,hr,aB,aB,pC]
  split
  ·split<;>rfl
  ·rfl
 ·unfold oU.l4 oU.ca
  rw[aF (by omega),cond_false];rfl
def kC:ae:=([((0:Int),((100:Int),bP))],((0:Int),((0:Int),((0:Int),((0:Int),((1:Int),((0:Int),())))))))
def kS:aj:=[((0:Int),((0:Int),((5:Int),()))),((2:Int),((0:Int),((-5:Int),())))]
def kM:ax:=[((1:Int),((1:Int),())),((2:Int),((1:Int),()))]
def kA:ay:=[((1:Int),((1:Int),((1:Int),((0:Int),())))),((2:Int),((2:Int),((1:Int),((0:Int),()))))]
def kB:ah:=(kM,(kA,(bc,(kS,([(100:Int)],(cY,()))))))
def kL:aA:=[((3:Int),([((0:Int),((3:Int),()))],((0:Int),((1:Int),bP)))),((4:Int),([((0:Int),((2:Int),()))],((0:Int),((1:Int),bP))))]
def kD:ay:=[((1:Int),((3:Int),((1:Int),((5:Int),())))),((2:Int),((3:Int),((2:Int),((5:Int),()))))]
def kE:ah×aA×Int:=
 ((kM,(kA,([((2:Int),((0:Int),((5:Int),()))),((5:Int),((1:Int),((-5:Int),())))],([((0:Int),((0:Int),((2:Int),()))),((1:Int),((0:Int),((3:Int),()))),((2:Int),((0:Int),((-5:Int),())))],([(100:Int)],(cY,())))))),
  ([((3:Int),([((0:Int),((3:Int),()))],((0:Int),((2:Int),((1:Int),((5:Int),())))))),((4:Int),([((0:Int),((2:Int),()))],((0:Int),((3:Int),bP))))],0))
theorem adK:lO kC kB kL kD=kE:=by kernel_rfl
theorem kB1:cA kD 3=(((1:Int),((3:Int),((1:Int),((5:Int),())))),true):=by decide+kernel
theorem kB2:cA kD 4=(aE,false):=by decide+kernel
theorem Rv{l:aj}(h: ∀i,i<l.length→aD (eO (l.getD i aW))):dy l:=fun x hx=>by
 obtain⟨i,hi,e⟩:=List.getElem_of_mem hx
 have:=h i hi
 rw[List.getD_eq_getElem?_getD,List.getElem?_eq_getElem hi]at this
 rw[←e];exact this
theorem kW:uD kB:=⟨⟨by decide,by decide,by decide,by decide,by decide,by decide,fun x hx=>(nomatch hx),Rv (l:=kS) (by decide)⟩,by decide,by decide⟩
theorem kLW:vv kL:=⟨fun x hx=>by
 have:x.2.1.length=1:=by
  rcases List.mem_cons.1 hx with rfl|hx
  ·rfl
  ·rw[List.mem_singleton.1 hx];rfl
 omega,fun x hx y hy=>by
 rcases List.mem_cons.1 hx with rfl|hx
 ·rw[List.mem_singleton.1 hy];exact⟨by decide,by decide⟩
 ·rw[List.mem_singleton.1 hx]at hy
  rw[List.mem_singleton.1 hy];exact⟨by decide,by decide⟩⟩
theorem Yu:s4 kE.1.2.2.2.1 1 0=3:=by decide+kernel
theorem Yv:s4 kE.1.2.2.2.1 0 0=2:=by decide+kernel
theorem adL:Bh kE.1.2.2.1 2 0=5:=by decide+kernel
theorem adM:Bh kE.1.2.2.1 5 1= -5:=by decide+kernel
theorem Lj(N:Nat)(hN:5000000≤N):F12 N=some true:=by
 unfold F12 F51
 rw[Option.bind_some]
 show(ti N kD 3).bind _=_
 rw[xE N (by decide) (by omega),Option.bind_some,kB1]
 show(ti N kD 4).bind _=_
 rw[xE N (by decide) (by omega),Option.bind_some,kB2]
 show(lP N kC kB kL kD).bind _=_
 rw[EK N (by omega) kC kW (by decide) (by decide) kLW,Option.bind_some,adK]
 have h1:tj N kE.1.2.2.2.1 1 0=some 3:=by rw[xG N (by decide) (by omega),Yu]
 have h2:tj N kE.1.2.2.2.1 0 0=some 2:=by rw[xG N (by decide) (by omega),Yv]
 have h3:oU N kE.1.2.2.1 2 0=some 5:=by rw[H6 N (by decide) (by omega),adL]
 have h4:oU N kE.1.2.2.1 5 1=some (-5):=by rw[H6 N (by decide) (by omega),adM]
 rw[h1,h2,h3,h4]
 simp only[Option.bind_some,cK]
 have e1:az kE.2.2 0=true:=ct rfl
 have e2:az (kE.2.1.length:Int) 2=true:=ct rfl
 have e3:aN 0 kE.2.1.length=true:=aJ (by decide) (by decide)
 have e4:aN 1 kE.2.1.length=true:=aJ (by decide) (by decide)
 have e5:az (kE.2.1.getD (0:Int).toNat ((0:Int),(a6,aE))).2.2.2.1 2=true:=ct rfl
 have e6:az (kE.2.1.getD (0:Int).toNat ((0:Int),(a6,aE))).2.2.2.2.1 1=true:=ct rfl
 have e7:az (kE.2.1.getD (0:Int).toNat ((0:Int),(a6,aE))).2.2.2.2.2.1 5=true:=ct rfl
 have e8:az (kE.2.1.getD (1:Int).toNat ((0:Int),(a6,aE))).2.2.2.1 3=true:=ct rfl
 simp only[e1,e2,e3,e4,e5,e6,e7,e8,cond_true,Bool.not_false]
namespace Pure
end Pure
end VM
end
section
namespace VM
open Go VM.F
theorem y3{l:aj}(h:dy l)(a b:Int):aD (j2 a b l):=by
 induction l with
 |nil=>show aD 0;decide
 |cons x t ih=>
  have ih:=ih (fun y hy=>h y (List.mem_cons_of_mem _ hy))
  rw[pC]
  split
  ·split
   ·exact h x (List.mem_cons_self ..)
   ·exact ih
  ·exact ih
theorem N9{l:aj}(h:dy l)(a b:Int):aD (Bh l a b):=by
 unfold Bh
 split
 ·exact y3 h a b
 ·exact⟨by decide,by decide⟩
def oe(a:Int):aj→ax
 |[]=>[]
 |x::t=>if x.1=a then(x.2.1,(x.2.2.1,()))::oe a t else oe a t
theorem qR(a:Int)(x:cy)(t:aj):oe a (x::t)=if x.1=a then(x.2.1,(x.2.2.1,()))::oe a t else oe a t:=rfl
def posOf(l:aj)(a:Int):ax:=if dt l then oe a l else []
theorem y4(a:Int): ∀l:aj,(oe a l).length≤l.length
 |[]=>Nat.le_refl _
 |x::t=>by
  have:=y4 a t
  rw[qR,List.length_cons]
  split
  ·rw[List.length_cons];omega
  ·omega
theorem Lk(a:Int)(l:aj):(posOf l a).length≤l.length:=by
 unfold posOf
 split
 ·exact y4 a l
 ·exact Nat.zero_le _
theorem pD{a:Int}{y:KV}: ∀{l:aj},y∈oe a l→ ∃x∈l,x.1=a∧y=(x.2.1,(x.2.2.1,()))
 |[],h=>nomatch h
 |x::t,h=>by
  rw[qR]at h
  by_cases e:x.1=a
  ·rw[if_pos e]at h
   rcases List.mem_cons.1 h with h|h
   ·exact⟨x,List.mem_cons_self ..,e,h⟩
   ·obtain⟨x',hx,h'⟩:=pD h
    exact⟨x',List.mem_cons_of_mem _ hx,h'⟩
  ·rw[if_neg e]at h
   obtain⟨x',hx,h'⟩:=pD h
   exact⟨x',List.mem_cons_of_mem _ hx,h'⟩
theorem Oa(N:Nat){l:aj}(hl:l.length≤100000)(hN:200000≤N)(a:Int):sl N l a=some (posOf l a):=by
 unfold sl sl.b posOf
 rw[mh N hl hN,Option.bind_some,cond_not]
 have:=lK l aW (fun n i s=>sl.l5 N n l a s i) (fun t s=>some (s++oe a t)) (fun i (s:ax)=>s.length≤i) (fun n i s hi hI hr=> ?_) (fun n s hI=> ?_) l.length N 0 [] (by omega) (by omega) (by omega) (Nat.le_refl _)
 ·have e:sl.l5 N N l a [] 0=some (oe a l):=this
  rw[e];cases dt l<;>rfl
 ·unfold sl.l5 sl.dn
  rw[aH (by omega),cond_true,aJ (by omega) (by omega),cond_true,cond_true,cond_true,Int.toNat_natCast,aq (x:=(i:Int)+1) (by omega) (by omega),aa i,aB,bh (by rw[List.length_singleton];omega),cond_true,qR]
  split
  ·rw[hr _ (by rw[List.length_append,List.length_singleton];omega),List.append_assoc];rfl
  ·exact hr s (by omega)
 ·unfold sl.l5 sl.dn
  rw[aF (by omega),cond_false]
  show some s=some (s++[])
  rw[List.append_nil]
def Cv(a n:Int):Prop:=0≤a∧a<n
end VM
end
section
namespace VM
open Go VM.F
end VM
end
section
namespace VM
open Go VM.F
def ka(p:Int):Prop:=1≤p∧p≤1000000000000
instance(p:Int):Decidable (ka p):=by unfold ka;infer_instance
theorem H7(N:Nat)(p:Int):w6 N p=some (decide (ka p)):=(iF N p).trans (congrArg some (decide_eq_decide.2 Iff.rfl))
def jl(a b c d e:Int):Prop:=(0≤a∧a≤24)∧(0≤b∧b≤24)∧a≠b∧(0≤c∧c<6)∧(1≤d∧d≤1000000000)∧ka e
instance(a b c d e:Int):Decidable (jl a b c d e):=by unfold jl;infer_instance
def rB(t:uE):Prop:=jl t.1 t.2.1 t.2.2.1 t.2.2.2.1 t.2.2.2.2.1
instance:DecidablePred rB:=fun t=>by unfold rB;infer_instance
theorem EP(a b c d e:Int):cond (bV 0 a) (cond (bV a 24) (cond (bV 0 b) (cond (bV b 24) (cond (!az a b) (cond (bV 0 c) (cond (aM c 6) (cond (bV 1 d) (cond (bV d 1000000000) (some (decide (ka e))) (some false)) (some false)) (some false)) (some false)) (some false)) (some false)) (some false)) (some false)) (some false)=some (decide (jl a b c d e)):=by
 simp only[bH,cond_not,aB,bO]
 by_cases hP:jl a b c d e
 ·have hp:=hP.2.2.2.2.2
  rw[decide_eq_true hP,decide_eq_true hp]
  unfold jl at hP
  repeat' split
  all_goals first|rfl|omega
 ·rw[decide_eq_false hP]
  by_cases hp:ka e
  ·unfold jl at hP
   repeat' split
   all_goals first|rfl|(exact absurd ⟨by omega,by omega,by omega,by omega,by omega,hp⟩ hP)
  ·rw[decide_eq_false hp]
   repeat' split
   all_goals rfl
theorem Bi(N:Nat)(t:uE):Ob N t=some (decide (rB t)):=by
 unfold Ob
 rw[H7,Option.bind_some]
 exact EP _ _ _ _ _
theorem gX{c:ae}{b:ah}(h:et c b=true):b.2.2.2.2.1.length=c.1.length∧gd b.2.2.2.2.1=true:=by
 unfold et at h
 simp only[Bool.and_eq_true]at h
 have h1:=of_decide_eq_true h.2.2.2.2.2.2.1
 unfold fM at h1
 exact⟨by omega,h.2.2.2.2.2.2.2.2.2.2⟩
end VM
end
section
namespace VM
open Go VM.F
theorem ES{l:List Int}(h:gd l=true){i:Nat}(hi:i<l.length):ka (l.getD i 0):=of_decide_eq_true h i hi
end VM
end
section
namespace VM
open Go VM.F
theorem pE{c:ae}{b:ah}(h:et c b=true):fZ c=true:=by
 unfold et at h
 exact(Bool.and_eq_true_iff.1 h).1
def jm(k:Int):Nat→ay→List Int
 |_,[]=>[]
 |i,x::t=>if x.1=k then(i:Int)::jm k (i+1) t else jm k (i+1) t
theorem uF(k:Int)(i:Nat)(x:bs)(t:ay):jm k i (x::t)=if x.1=k then(i:Int)::jm k (i+1) t else jm k (i+1) t:=rfl
def eW(c:ae)(k:Int):List Int:=if fZ c then jm k 0 c.1 else []
theorem H8(N:Nat)(hN:200000≤N)(c:ae)(hl:c.1.length≤100000)(k:Int):wx N c k=some (eW c k):=by
 unfold wx wx.b eW
 rw[mK N (by omega),Option.bind_some,cond_not]
 have:=lK c.1 aE (fun n i s=>wx.l5 N n k c s i) (fun t s=>some (s++jm k (c.1.length-t.length) t)) (fun i (s:List Int)=>s.length≤i) (fun n i s hi hI hr=> ?_) (fun n s hI=> ?_) c.1.length N 0 [] (by omega) (by omega) (by omega) (Nat.le_refl _)
 ·have e:wx.l5 N N k c [] 0=some (jm k 0 c.1):=by
   refine this.trans ?_
   rw[List.drop_zero,Nat.sub_self];rfl
  rw[e];cases fZ c<;>rfl
 ·unfold wx.l5 wx.dn
  have e1:c.1.length-(c.1.getD i aE::c.1.drop (i+1)).length=i:=by rw[List.length_cons,List.length_drop];omega
  have e2:c.1.length-(c.1.drop (i+1)).length=i+1:=by rw[List.length_drop];omega
  rw[e2]at hr
  rw[aH (by omega),cond_true,aJ (by omega) (by omega),cond_true,Int.toNat_natCast,aq (x:=(i:Int)+1) (by omega) (by omega),aa i,aB,bh (by rw[List.length_singleton];omega),cond_true,e1,uF]
  split
  ·rw[hr _ (by rw[List.length_append,List.length_singleton];omega),List.append_assoc];rfl
  ·exact hr s (by omega)
 ·unfold wx.l5 wx.dn
  rw[aF (by omega),cond_false]
  show some s=some (s++[])
  rw[List.append_nil]
theorem wy{c:ae}(h:fZ c=true):c.1.length≤6∧ ∀i,i<c.1.length→0≤(c.1.getD i aE).1∧(c.1.getD i aE).1≤3:=by
 unfold fZ at h
 simp only[Bool.and_eq_true]at h
 have h1:=of_decide_eq_true h.1
 have h2:=of_decide_eq_true h.2.1
 exact⟨h1.2,fun i hi=>(h2 i hi).1⟩
theorem Oc{l:aj}(h:dy l)(a b:Int):aD (s4 l a b):=by
 unfold s4
 cases dt l
 ·show aD 0;decide
 ·exact y3 h a b
end VM
end
section
namespace VM
open Go VM.F
end VM
end
section
namespace VM
open Go VM.F
end VM
end
section
namespace VM
open Go VM.F
def uG(l:List Int)(k:Int):Int:=l.getD k.toNat 0
def ins(l:List Int):List Int→Int→List Int
 |[],i=>[i]
 |k::t,i=>if uG l i≤uG l k then k::ins l t i else i::k::t
def du(l:List Int):Nat→List Int
 |0=>[]
 |n+1=>ins l (du l n) n
def gg(l:List Int):List Int:=du l l.length
def sm(l:List Int)(a b:Int):Prop:=uG l b<uG l a∨(uG l b=uG l a∧a<b)
theorem JN(l:List Int): ∀(o:List Int) (i:Int),(ins l o i).length=o.length+1
 |[],i=>rfl
 |k::t,i=>by unfold ins;split<;>simp[JN l t i]
theorem nW(l:List Int): ∀n,(du l n).length=n
 |0=>rfl
 |n+1=>by unfold du;rw[JN,nW l n]
theorem s6(l:List Int):(gg l).length=l.length:=nW l _
theorem Cw(l:List Int){x:Int}: ∀{o:List Int} {i:Int},x∈ins l o i↔x=i∨x∈o
 |[],i=>by simp[ins]
 |k::t,i=>by
  unfold ins;split
  ·rw[List.mem_cons,Cw l,List.mem_cons]
   exact⟨fun h=>h.elim (fun h=> .inr (.inl h)) (fun h=>h.elim .inl (fun h=> .inr (.inr h))),fun h=>h.elim (fun h=> .inr (.inl h)) (fun h=>h.elim .inl (fun h=> .inr (.inr h)))⟩
  ·rw[List.mem_cons]
theorem nX(l:List Int){x:Int}: ∀{n:Nat},x∈du l n↔0≤x∧x<n
 |0=>⟨(fun h=>nomatch h),fun h=>absurd h.1 (by omega)⟩
 |n+1=>by unfold du;rw[Cw,nX l];omega
theorem uH(l:List Int): ∀{o:List Int} {i:Int},o.Pairwise (sm l)→(∀x∈o,x<i)→(ins l o i).Pairwise (sm l)
 |[],i,_,_=>List.pairwise_singleton _ _
 |k::t,i,h,hi=>by
  rw[List.pairwise_cons]at h
  have hk:k<i:=hi k (List.mem_cons_self ..)
  unfold ins;split
  ·rename_i hle
   rw[List.pairwise_cons]
   refine⟨fun x hx=> ?_,uH l h.2 (fun x hx=>hi x (List.mem_cons_of_mem _ hx))⟩
   rcases(Cw l).1 hx with rfl|hx
   ·unfold sm;omega
   ·exact h.1 x hx
  ·rename_i hle
   rw[List.pairwise_cons,List.pairwise_cons]
   refine⟨fun x hx=> ?_,h.1,h.2⟩
   rcases List.mem_cons.1 hx with rfl|hx
   ·unfold sm;omega
   ·have:=h.1 x hx;unfold sm at*;omega
theorem jS(l:List Int): ∀n,(du l n).Pairwise (sm l)
 |0=>List.Pairwise.nil
 |n+1=>by unfold du;exact uH l (jS l n) (fun x hx=>((nX l).1 hx).2)
theorem Od(l:List Int): ∀(o:List Int) (i:Int) (p:Nat),p≤o.length→(∀j,j<p→uG l i≤uG l (o.getD j 0))→(p<o.length→uG l (o.getD p 0)<uG l i)→ins l o i=o.take p++i::o.drop p
 |[],i,p,hp,_,_=>by simp at hp;subst hp;rfl
 |k::t,i,0,hp,_,h=>by
  unfold ins;rw[if_neg (by have:=h (by simp);simp at this;omega)];rfl
 |k::t,i,p+1,hp,h0,h=>by
  unfold ins
  have h1:uG l i≤uG l k:=h0 0 (by omega)
  rw[if_pos h1,Od l t i p (by simpa using hp) (fun j hj=>by have:=h0 (j+1) (by omega);simpa using this) (fun I0=>by have:=h (by simpa using I0);simpa using this)]
  rfl
theorem JO(l:List Int)(f:Int→Int): ∀(o:List Int) (i:Int),((ins l o i).map f).sum=(o.map f).sum+f i
 |[],i=>by simp[ins]
 |k::t,i=>by
  unfold ins;split
  ·rw[List.map_cons,List.sum_cons,JO l f t i,List.map_cons,List.sum_cons];omega
  ·simp only[List.map_cons,List.sum_cons];omega
theorem wz(l r:List Int): ∀n,n≤r.length→((du l n).map (uG r)).sum=(r.take n).sum
 |0,_=>rfl
 |n+1,h=>by
  unfold du;rw[JO,wz l r n (by omega),gV r (by omega)]
  unfold uG;rw[Int.toNat_natCast]
theorem H9(l r:List Int)(h:l.length=r.length):((gg l).map (uG r)).sum=r.sum:=by
 unfold gg;rw[wz l r _ (by omega),List.take_of_length_le (by omega)]
theorem y5{o:List Int}{j:Nat}(h:j<o.length):o.getD j 0∈o:=by
 rw[List.getD_eq_getElem?_getD,List.getElem?_eq_getElem h];exact List.getElem_mem h
theorem Ia{l:List Int}{n j:Nat}(h:j<n):0≤(du l n).getD j 0∧(du l n).getD j 0<n:=by
 exact(nX l).1 (y5 (by rw[nW];exact h))
theorem Bj(N:Nat)(K:List Int→List Int→Int→Option (List Int)){l:List Int}(hl:l.length≤100000)(i:Nat)(hi:i<l.length): ∀(m n p:Nat),i-p≤m→m<n→p≤i→(∀j,j<p→uG l i≤uG l ((du l i).getD j 0))→
  dp.l6 N K n l (du l i) (i:Int) (p:Int)=K l (du l (i+1)) ((i+1:Nat):Int)
 |m,0,p,_,hn,_,_=>by omega
 |m,n+1,p,hm,hn,hp,h=>by
  have hlen:=nW l i
  have fin: ∀h2:(p<i→uG l ((du l i).getD p 0)<uG l i),dp.j8 N K l (du l i) (i:Int) (p:Int)=K l (du l (i+1)) ((i+1:Nat):Int):=fun h2=>by
   have e:=Od l (du l i) i p (by omega) h (fun h3=>h2 (by omega))
   unfold dp.j8 dp.HW
   dsimp only
   rw[cr (by omega) (by omega) (by omega) (by omega),cond_true,Int.toNat_natCast,Int.toNat_natCast,Int.toNat_zero,List.drop_zero]
   rw[bh (by rw[List.length_take];omega),cond_true,bh (by rw[List.length_take];simp only[List.length_singleton];omega),cond_true,cr (by omega) (by omega) (by omega) (by omega),cond_true,bh (by simp only[List.length_append,List.length_take,List.length_drop,List.length_singleton];omega),cond_true,aq (by omega) (by omega),List.take_length,List.append_assoc,List.singleton_append,←e]
   rfl
  unfold dp.l6 dp.mg
  by_cases hpi:p<i
  ·have hr:=Ia (l:=l) (n:=i) (j:=p) hpi
   rw[aH (by omega),cond_true,aJ (by omega) (by omega),cond_true,Int.toNat_natCast,Int.toNat_natCast,aJ (by omega) (by omega),cond_true,aJ (by omega) (by omega),cond_true]
   by_cases h3:l.getD i 0≤l.getD ((du l i).getD p 0).toNat 0
   ·rw[df h3,cond_true,aq (by omega) (by omega)]
    refine Bj N K hl i hi (m-1) n (p+1) (by omega) (by omega) (by omega) (fun j hj=> ?_)
    by_cases hjp:j=p
    ·rw[hjp];unfold uG;rw[Int.toNat_natCast];exact h3
    ·exact h j (by omega)
   ·rw[dg (by omega),cond_false]
    exact fin (fun _=>by unfold uG;rw[Int.toNat_natCast];omega)
  ·rw[aF (by omega),cond_false]
   exact fin (fun h=>absurd h hpi)
theorem y6(N:Nat){l:List Int}(hl:l.length≤100000)(hN:l.length<N): ∀(m n i:Nat),l.length-i≤m→m<n→i≤l.length→
  dp.l3 N n l (du l i) (i:Int)=some (gg l)
 |m,0,i,_,hn,_=>by omega
 |m,n+1,i,hm,hn,hi=>by
  unfold dp.l3 dp.ig
  by_cases h:i<l.length
  ·have:=Bj N (dp.l3 N n) hl i h i N 0 (by omega) (by omega) (by omega) (fun j hj=>by omega)
   rw[aH (by omega),cond_true]
   refine Eq.trans this ?_
   exact y6 N hl hN (m-1) n (i+1) (by omega) (by omega) (by omega)
  ·rw[aF (by omega),cond_false,show i=l.length by omega];rfl
theorem Ll(N:Nat){l:List Int}(hl:l.length≤100000)(hN:l.length<N):dp N l=some (gg l):=by
 unfold dp dp.b
 exact y6 N hl hN l.length N 0 (by omega) (by omega) (by omega)
end VM
end
