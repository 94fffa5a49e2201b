/- A part of the proof of TearDrawn of layer 29: what the functions compute, in plain words. -/
import Derived.Test.YtocmlaipoebfeaaGreatPlain4
import Derived.Test.YtocmlaipoebfeaaGreatPlain6
set_option linter.all false
section
namespace VM
open Go VM.F
theorem aeB{q x:Int}(h0:0≤x)(h1:x<9223372036854775808):aC (sg q x)∧n5 (sg q x):=by
 unfold sg aC n5;split<;>omega
theorem OY{t left:Int}{w out:List Int}(f:Full t w w out left)(i:Nat)(hi:i<w.length):0≤out.getD i 0∧out.getD i 0<9223372036854775808:=by
 have c:=f.c
 have h1:=c.le i hi
 have h2:=(c.pc i).2
 have h3:=c.po i
 omega
theorem OZ(N:Nat){a q:Int}{accs out:List Int}(hl:accs.length=out.length)(hle:out.length≤1000)(ho: ∀i,i<out.length→0≤out.getD i 0∧out.getD i 0<9223372036854775808)(s:ah)(hs:s.length≤1000)(hN:200000≤N):
  ln.sX N N a q accs s out (out.length:Int) 0=some (s++zc a q (out.zip accs),0):=by
 have hz:(out.zip accs).length=out.length:=by rw[List.length_zip];omega
 have:=nq (out.zip accs) (0,0) (fun n i s=>ln.sX N n a q accs s out (out.length:Int) i) (fun t s=>some (s++zc a q t,(0:Int))) (fun i (s:ah)=>s.length≤1000+i) (fun n i s hi hI hr=> ?_) (fun n s hI=> ?_) out.length N 0 s (by omega) (by omega) (by omega) (by omega)
 ·exact this
 ·unfold ln.sX ln.uC
  have iA:i<out.length:=by omega
  have h2:=ho i iA
  rw[aD (by omega),cond_true,aF (by omega) (by omega),cond_true,Int.toNat_natCast,aF (by omega) (by omega),cond_true,an (x:=(i:Int)+1) (by omega) (by omega),aa i,an (x:=0-out.getD i 0) (by omega) (by omega),IG iA (by omega),uI]
  dsimp only
  rw[cond_true,a6 (by rw[List.length_singleton];omega),cond_true,a6 (by rw[List.length_singleton];omega),cond_true]
  have e:sg q (out.getD i 0)=if q<0 then 0-out.getD i 0 else out.getD i 0:=rfl
  rw[bL,cond_not,cond_not,az,az]
  have fin:(if sg q (out.getD i 0)=0 then ln.sX N n a q accs s out (out.length:Int) ((i+1:Nat):Int)else ln.sX N n a q accs (s++[(accs.getD i 0,(a,(sg q (out.getD i 0),())))]) out (out.length:Int) ((i+1:Nat):Int))=some (s++(if sg q (out.getD i 0)=0 then zc a q ((out.zip accs).drop (i+1))else(accs.getD i 0,(a,(sg q (out.getD i 0),())))::zc a q ((out.zip accs).drop (i+1))),(0:Int)):=by
   by_cases h:sg q (out.getD i 0)=0
   ·rw[if_pos h,if_pos h];exact hr s (by omega)
   ·rw[if_neg h,if_neg h,hr _ (by rw[List.length_append,List.length_singleton];omega),List.append_assoc];rfl
  refine Eq.trans ?_ fin
  by_cases h:q<0
  ·rw[if_pos h,e,if_pos h]
  ·rw[if_neg h,e,if_neg h]
 ·unfold ln.sX ln.uC
  rw[hz,ax (by omega),cond_false]
  show _=some (s++[],(0:Int))
  rw[List.append_nil]
theorem LX(N:Nat){a q:Int}{accs out:List Int}(hl:accs.length=out.length)(hle:out.length≤1000)(ho: ∀i,i<out.length→0≤out.getD i 0∧out.getD i 0<9223372036854775808)(s:ah)(hs:s.length≤1000)(hN:200000≤N):
  jN.sX N N a q accs out s 0=some (s++zc a q (out.zip accs),0):=by
 have hz:(out.zip accs).length=out.length:=by rw[List.length_zip];omega
 have:=nq (out.zip accs) (0,0) (fun n i s=>jN.sX N n a q accs out s i) (fun t s=>some (s++zc a q t,(0:Int))) (fun i (s:ah)=>s.length≤1000+i) (fun n i s hi hI hr=> ?_) (fun n s hI=> ?_) out.length N 0 s (by omega) (by omega) (by omega) (by omega)
 ·exact this
 ·unfold jN.sX jN.uC
  have iA:i<out.length:=by omega
  have h2:=ho i iA
  rw[aD (by omega),cond_true,aF (by omega) (by omega),cond_true,Int.toNat_natCast,aF (by omega) (by omega),cond_true,an (x:=(i:Int)+1) (by omega) (by omega),aa i,an (x:=0-out.getD i 0) (by omega) (by omega),IG iA (by omega),uI]
  dsimp only
  rw[cond_true,a6 (by rw[List.length_singleton];omega),cond_true,a6 (by rw[List.length_singleton];omega),cond_true]
  have e:sg q (out.getD i 0)=if q<0 then 0-out.getD i 0 else out.getD i 0:=rfl
  rw[bL,cond_not,cond_not,az,az]
  have fin:(if sg q (out.getD i 0)=0 then jN.sX N n a q accs out s ((i+1:Nat):Int)else jN.sX N n a q accs out (s++[(accs.getD i 0,(a,(sg q (out.getD i 0),())))]) ((i+1:Nat):Int))=some (s++(if sg q (out.getD i 0)=0 then zc a q ((out.zip accs).drop (i+1))else(accs.getD i 0,(a,(sg q (out.getD i 0),())))::zc a q ((out.zip accs).drop (i+1))),(0:Int)):=by
   by_cases h:sg q (out.getD i 0)=0
   ·rw[if_pos h,if_pos h];exact hr s (by omega)
   ·rw[if_neg h,if_neg h,hr _ (by rw[List.length_append,List.length_singleton];omega),List.append_assoc];rfl
  refine Eq.trans ?_ fin
  by_cases h:q<0
  ·rw[if_pos h,e,if_pos h]
  ·rw[if_neg h,e,if_neg h]
 ·unfold jN.sX jN.uC
  rw[hz,ax (by omega),cond_false]
  show _=some (s++[],(0:Int))
  rw[List.append_nil]
theorem Dn{l:ah}(h: ∀x∈l,aC (da x)∧n5 (da x))(a b:Int):aC (dW l a b)∧n5 (dW l a b):=by
 have key: ∀l:ah,(∀x∈l,aC (da x)∧n5 (da x))→aC (eU a b l)∧n5 (eU a b l):=by
  intro l
  induction l with
  |nil=>intro _;show aC 0∧n5 0;decide
  |cons x t ih=>
   intro h
   have ih:=ih (fun y hy=>h y (List.mem_cons_of_mem _ hy))
   rw[gH]
   split
   ·split
    ·exact h x (List.mem_cons_self ..)
    ·exact ih
   ·exact ih
 unfold dW
 split
 ·exact key l h
 ·decide
theorem uM(l:ah):(pM l).length=l.length:=List.length_map ..
theorem oC(l:ah):(eK l).length=l.length:=List.length_map ..
theorem vE{q:Int}(h:aC q∧n5 q):(q.natAbs:Int)<9223372036854775808:=by unfold aC n5 at h;omega
theorem yb{l:ah}(hk:cN l=true)(hq:di l): ∀x∈l,aC (da x)∧n5 (da x):=fun x hx=>⟨hq x hx,((gk hk).2 x hx).2⟩
theorem vF{l:ah}(hk:cN l=true)(hq:di l){a q:Int}(sl:aC q∧n5 q)(hc:(eP l a q).2.2=0):
  Full (q.natAbs:Int) (eK (c9 a q l)) (eK (c9 a q l)) (eP l a q).1 (eP l a q).2.1∧(eP l a q).1.length=(c9 a q l).length∧(eP l a q).1.length≤64∧ ∀i,i<(eP l a q).1.length→0≤(eP l a q).1.getD i 0∧(eP l a q).1.getD i 0<9223372036854775808:=by
 have f:Full (q.natAbs:Int) (eK (c9 a q l)) (eK (c9 a q l)) (eP l a q).1 (eP l a q).2.1:=zz (vE sl) (oA (yb hk hq) a q) hc
 have h1:=f.c.l2
 have h2:=f.c.n
 rw[oC]at h1 h2
 exact⟨f,h1,by omega,fun i hi=>OY f i (by rw[oC];omega)⟩
theorem yc(N:Nat)(hN:5000000≤N)(c:ae){b:ag}(w:k7 b)(a:Int):ln N c b a=some (dk c b a):=by
 unfold ln ln.b dk
 rw[JX N (by omega) w,Option.bind_some,Rz N w.s (by omega),Option.bind_some,cond_not,bL,bM,az]
 by_cases hB:c8 c b=false
 ·rw[hB];rfl
 rw[Bool.not_eq_false]at hB
 rw[hB,cond_true,if_pos rfl]
 obtain⟨_,hk⟩:=gG hB
 have hq:=yb hk w.qs
 have hh:=Dn hq 0 a
 have hlen:=w.s
 have hqs:=w.qs
 generalize b.2.2.2.1=l at*
 generalize dW l 0 a=q at*
 by_cases h1:a<0
 ·rw[if_pos h1,if_pos h1]
 rw[if_neg h1,if_neg h1]
 by_cases h2:(c.1.length:Int)≤a
 ·rw[if_pos h2,if_pos h2]
 rw[if_neg h2,if_neg h2]
 by_cases h3:q=0
 ·rw[if_pos h3,if_pos h3]
 rw[if_neg h3,if_neg h3]
 have pV:=hh.1
 unfold aC at pV
 have hqn:q≠ -9223372036854775808:=hh.2
 have:=nq l aR (fun n i (z:ah)=>ln.s4 N n a q (pM z) (eK z) l (l.length:Int) i)
  (fun t z=>some (if(eP l a q).2.2=0 then(Ou l a q,0)else([],(eP l a q).2.2))) (fun i z=>z++c9 a q (l.drop i)=c9 a q l∧z.length≤i)
  (fun n i z hi hI hr=> ?_) (fun n z hI=> ?_) l.length N 0 [] (by omega) (by omega) (by omega) ⟨rfl,Nat.le_refl _⟩
 ·exact this
 ·unfold ln.s4 ln.pW
  obtain⟨i1,i2⟩:=hI
  have hm:l.getD i aR∈l:=by
   rw[List.getD_eq_getElem?_getD,List.getElem?_eq_getElem hi];exact List.getElem_mem hi
  have hx:=hq _ hm
  rw[drop_cons hi aR,kb]at i1
  rw[aD (by omega),cond_true,aF (by omega) (by omega),cond_true,Int.toNat_natCast,an (x:=(i:Int)+1) (by omega) (by omega),aa i]
  generalize l.getD i aR=x at*
  have oH:=hx.1
  unfold aC da at oH
  have hxs:(x.2.2.1.natAbs:Int)<9223372036854775808:=vE hx
  rw[a6 (by rw[uM,List.length_singleton];omega),cond_true,xM N oH.1 oH.2,Option.bind_some,an (x:=(x.2.2.1.natAbs:Int)) (by omega) (by omega)]
  dsimp only
  rw[a6 (by rw[oC,List.length_singleton];omega),cond_true,cond_not,az,az,cond_not,qy,mc,mc]
  by_cases e1:x.1=0
  ·rw[if_pos e1]
   rw[if_neg (fun h=>h.1 e1)]at i1
   exact hr z ⟨i1,by omega⟩
  ·rw[if_neg e1]
   by_cases e2:x.2.1=a
   ·rw[if_pos e2]
    by_cases e3:vA (da x) q
    ·have eb:(decide (x.2.2.1<0)==decide (q<0))=false:=by
      unfold vA da at e3
      by_cases g1:x.2.2.1<0<;>by_cases g2:q<0
      ·exact absurd ⟨fun _=>g2,fun _=>g1⟩ e3
      ·rw[decide_eq_true g1,decide_eq_false g2];rfl
      ·rw[decide_eq_false g1,decide_eq_true g2];rfl
      ·exact absurd ⟨fun h=>absurd h g1,fun h=>absurd h g2⟩ e3
     rw[eb,cond_false]
     rw[if_pos ⟨e1,e2,e3⟩]at i1
     have:=hr (z++[x]) ⟨by rw[List.append_assoc];exact i1,by rw[List.length_append,List.length_singleton];omega⟩
     unfold pM eK at this
     rw[List.map_append,List.map_append]at this
     exact this
    ·have eb:(decide (x.2.2.1<0)==decide (q<0))=true:=by
      unfold vA da at e3
      have e3:=Decidable.not_not.1 e3
      rw[show decide (x.2.2.1<0)=decide (q<0)from decide_eq_decide.2 e3]
      exact beq_self_eq_true _
     rw[eb,cond_true]
     rw[if_neg (fun h=>e3 h.2.2)]at i1
     exact hr z ⟨i1,by omega⟩
   ·rw[if_neg e2]
    rw[if_neg (fun h=>e2 h.2.1)]at i1
    exact hr z ⟨i1,by omega⟩
 ·unfold ln.s4 ln.pW
  obtain⟨i1,i2⟩:=hI
  rw[List.drop_length]at i1
  have ez:z=c9 a q l:=by rw[←i1];exact(List.append_nil _).symm
  subst ez
  have nE:=oC (c9 a q l)
  rw[ax (by omega),cond_false,xM N pV.1 pV.2,Option.bind_some,an (x:=(q.natAbs:Int)) (by omega) (by omega),LC N hN (by omega) (oA hq a q) (oA hq a q) (by rw[nE];omega),Option.bind_some,cond_not,az,an (x:=0-q) (by omega) (by omega)]
  show(if(eP l a q).2.2=0 then _ else _)=_
  by_cases h4:(eP l a q).2.2=0
  ·rw[if_pos h4,if_pos h4]
   obtain⟨f,g1,g2,g3⟩:=vF hk hqs hh h4
   exact OZ N (by rw[uM];omega) (by omega) g3 _ (by simp) (by omega)
  ·rw[if_neg h4,if_neg h4];rfl
theorem O0{l:ah}(h:cN l=true): ∀x∈l,da x≠0:=fun x hx=>by
 unfold cN at h
 rw[Bool.and_true]at h
 obtain⟨i,hi,e⟩:=List.getElem_of_mem hx
 have:=of_decide_eq_true h i hi
 unfold ib iE at this
 rw[List.getD_eq_getElem?_getD,List.getElem?_eq_getElem hi]at this
 simp only[Option.getD_some,e]at this
 exact this.2.1
theorem O1{x:Int}(h:aC x∧n5 x):mx x (W .i64 (0-x))=(x.natAbs:Int):=by
 unfold aC n5 at h
 rw[an (by omega) (by omega),Wq];split<;>omega
theorem FO{x q:Int}(hx:x≠0)(hq:q≠0):vA x q↔ ¬((0<x)↔(0<q)):=by
 unfold vA;omega
theorem FP(N:Nat)(hN:5000000≤N)(c:ae){b:ag}(w:k7 b)(a:Int):jN N c b a=some (dk c b a):=by
 unfold jN jN.b dk
 rw[y8 N (by omega) w,Option.bind_some,C1 N w.s (by omega),Option.bind_some,cond_not,bL,bM,az]
 by_cases hB:c8 c b=false
 ·rw[hB];rfl
 rw[Bool.not_eq_false]at hB
 rw[hB,cond_true,if_pos rfl]
 obtain⟨_,hk⟩:=gG hB
 have hq:=yb hk w.qs
 have hnz:=O0 hk
 have hh:=Dn hq 0 a
 have hlen:=w.s
 have hqs:=w.qs
 generalize dW b.2.2.2.1 0 a=q at*
 by_cases h1:a<0
 ·rw[if_pos h1,if_pos h1]
 rw[if_neg h1,if_neg h1]
 by_cases h2:(c.1.length:Int)≤a
 ·rw[if_pos h2,if_pos h2]
 rw[if_neg h2,if_neg h2]
 by_cases h3:q=0
 ·rw[if_pos h3,if_pos h3]
 rw[if_neg h3,if_neg h3]
 have pV:=hh.1
 unfold aC at pV
 have hqn:q≠ -9223372036854775808:=hh.2
 have:=nq b.2.2.2.1 aR (fun n i (z:ah)=>jN.s4 N n a b q (pM z) (eK z) i)
  (fun t z=>some (if(eP b.2.2.2.1 a q).2.2=0 then(Ou b.2.2.2.1 a q,0)else([],(eP b.2.2.2.1 a q).2.2))) (fun i z=>z++c9 a q (b.2.2.2.1.drop i)=c9 a q b.2.2.2.1∧z.length≤i)
  (fun n i z hi hI hr=> ?_) (fun n z hI=> ?_) b.2.2.2.1.length N 0 [] (by omega) (by omega) (by omega) ⟨rfl,Nat.le_refl _⟩
 ·exact this
 ·unfold jN.s4 jN.pW
  obtain⟨i1,i2⟩:=hI
  have hm:b.2.2.2.1.getD i aR∈b.2.2.2.1:=by
   rw[List.getD_eq_getElem?_getD,List.getElem?_eq_getElem hi];exact List.getElem_mem hi
  have hx:=hq _ hm
  have hn:=hnz _ hm
  rw[drop_cons hi aR,kb]at i1
  rw[aD (by omega),cond_true,aF (by omega) (by omega),cond_true,Int.toNat_natCast,an (x:=(i:Int)+1) (by omega) (by omega),aa i]
  generalize b.2.2.2.1.getD i aR=x at*
  have KF:mx x.2.2.1 (W .i64 (0-x.2.2.1))=(x.2.2.1.natAbs:Int):=O1 hx
  rw[a6 (by rw[uM,List.length_singleton];omega),cond_true,KF]
  dsimp only
  rw[a6 (by rw[oC,List.length_singleton];omega),cond_true,cond_not,az,az,cond_not,qy,mc,mc]
  by_cases e1:x.1=0
  ·rw[if_pos e1]
   rw[if_neg (fun h=>h.1 e1)]at i1
   exact hr z ⟨i1,by omega⟩
  ·rw[if_neg e1]
   by_cases e2:x.2.1=a
   ·rw[if_pos e2]
    by_cases e3:vA (da x) q
    ·have eb:(decide (0<x.2.2.1)==decide (0<q))=false:=by
      have e3:=(FO hn h3).1 e3
      unfold da at e3
      by_cases g1:0<x.2.2.1<;>by_cases g2:0<q
      ·exact absurd ⟨fun _=>g2,fun _=>g1⟩ e3
      ·rw[decide_eq_true g1,decide_eq_false g2];rfl
      ·rw[decide_eq_false g1,decide_eq_true g2];rfl
      ·exact absurd ⟨fun h=>absurd h g1,fun h=>absurd h g2⟩ e3
     rw[eb,cond_false]
     rw[if_pos ⟨e1,e2,e3⟩]at i1
     have:=hr (z++[x]) ⟨by rw[List.append_assoc];exact i1,by rw[List.length_append,List.length_singleton];omega⟩
     unfold pM eK at this
     rw[List.map_append,List.map_append]at this
     exact this
    ·have eb:(decide (0<x.2.2.1)==decide (0<q))=true:=by
      have e3:=Decidable.not_not.1 (fun h=>e3 ((FO hn h3).2 h))
      unfold da at e3
      rw[show decide (0<x.2.2.1)=decide (0<q)from decide_eq_decide.2 e3]
      exact beq_self_eq_true _
     rw[eb,cond_true]
     rw[if_neg (fun h=>e3 h.2.2)]at i1
     exact hr z ⟨i1,by omega⟩
   ·rw[if_neg e2]
    rw[if_neg (fun h=>e2 h.2.1)]at i1
    exact hr z ⟨i1,by omega⟩
 ·unfold jN.s4 jN.pW
  obtain⟨i1,i2⟩:=hI
  rw[List.drop_length]at i1
  have ez:z=c9 a q b.2.2.2.1:=by rw[←i1];exact(List.append_nil _).symm
  subst ez
  have nE:=oC (c9 a q b.2.2.2.1)
  have Cm:=BR a q b.2.2.2.1
  rw[ax (by omega),cond_false,O1 hh,zy N hN (vE hh) (oA hq a q) (oA hq a q) (by rw[nE];omega),Option.bind_some,cond_not,az,an (x:=0-q) (by omega) (by omega)]
  show(if(eP b.2.2.2.1 a q).2.2=0 then _ else _)=_
  by_cases h4:(eP b.2.2.2.1 a q).2.2=0
  ·rw[if_pos h4,if_pos h4]
   obtain⟨f,g1,g2,g3⟩:=vF hk hqs hh h4
   exact LX N (by rw[uM];omega) (by omega) g3 _ (by simp) (by omega)
  ·rw[if_neg h4,if_neg h4];rfl
end VM
end
section
namespace VM
open Go VM.F Go.RowKit
structure lq(s:ah)(n:Nat):Prop where
 place: ∀x∈s,bI x.1 x.2.1
 q: ∀x∈s,aC (da x)∧n5 (da x)
 len:s.length≤n
 flat: ∀i:Int,(cQ i s).sum=0
theorem lq.nil(n:Nat):lq [] n:=⟨fun x hx=>(nomatch hx),fun x hx=>(nomatch hx),Nat.zero_le _,fun i=>rfl⟩
theorem lq.app{s t:ah}{n m k:Nat}(a:lq s n)(b:lq t m)(h:n+m≤k):lq (s++t) k:=
 ⟨fun x hx=>(List.mem_append.1 hx).elim (a.place x) (b.place x),fun x hx=>(List.mem_append.1 hx).elim (a.q x) (b.q x),by rw[List.length_append];have:=a.len;have:=b.len;omega,fun i=>by rw[AI,List.sum_append,a.flat,b.flat];rfl⟩
theorem lq.aeC{s:ah}{n:Nat}(a:lq s n)(h:n≤400):J2 s:=⟨a.place,a.q,by have:=a.len;omega,a.flat⟩
theorem IW(a q i:Int): ∀t:List (Int×Int),(cQ i (zc a q t)).sum=if a=i then sg q (t.map (·.1)).sum else 0
 |[]=>by
  show(0:Int)=if a=i then sg q 0 else 0
  unfold sg;split<;>(try split)<;>rfl
 |p::t=>by
  have ih:=IW a q i t
  have hs:sg q ((p::t).map (·.1)).sum=sg q p.1+sg q (t.map (·.1)).sum:=by
   rw[List.map_cons,List.sum_cons];unfold sg;split<;>omega
  rw[uI,hs]
  by_cases h:sg q p.1=0
  ·rw[if_pos h,ih,h];split<;>omega
  ·rw[if_neg h,dO]
   dsimp only
   by_cases e:a=i
   ·rw[if_pos e,if_pos e,List.sum_cons,ih,if_pos e];rfl
   ·rw[if_neg e,if_neg e,ih,if_neg e]
theorem IX{a q:Int}{x:cE}: ∀{t:List (Int×Int)},x∈zc a q t→ ∃p∈t,x=(p.2,(a,(sg q p.1,())))
 |[],h=>nomatch h
 |p::t,h=>by
  rw[uI]at h
  split at h
  ·obtain⟨p',hp,e⟩:=IX h
   exact⟨p',List.mem_cons_of_mem _ hp,e⟩
  ·rcases List.mem_cons.1 h with e|h
   ·exact⟨p,List.mem_cons_self ..,e⟩
   ·obtain⟨p',hp,e⟩:=IX h
    exact⟨p',List.mem_cons_of_mem _ hp,e⟩
theorem O2(a q:Int): ∀t:List (Int×Int),(zc a q t).length≤t.length
 |[]=>Nat.le_refl _
 |p::t=>by
  have:=O2 a q t
  rw[uI,List.length_cons]
  split
  ·omega
  ·rw[List.length_cons];omega
theorem qS{c:ae}{b:ag}(h:c8 c b=true):qG b.2.2.2.1=true∧fm c=true:=by
 unfold c8 at h
 have h0:=Bool.and_eq_true_iff.1 h
 have h1:=(Bool.and_eq_true_iff.1 h0.2).2
 have h2:=Bool.and_eq_true_iff.1 h1
 exact⟨(Bool.and_eq_true_iff.1 (Bool.and_eq_true_iff.1 h2.2).2).1,h0.1⟩
theorem zD{c:ae}{b:ag}(hB:c8 c b=true)(w:k7 b){a:Int}(h:(dk c b a).2=0):lq (dk c b a).1 65:=by
 obtain⟨_,hk⟩:=gG hB
 obtain⟨hf,Cm⟩:=qS hB
 have hq:=yb hk w.qs
 have hh:=Dn hq 0 a
 obtain⟨hs,Ae⟩:=gk hk
 unfold dk at h ⊢
 rw[if_pos hB]at h ⊢
 by_cases h1:a<0
 ·rw[if_pos h1];exact lq.nil _
 rw[if_neg h1]at h ⊢
 by_cases h2:(c.1.length:Int)≤a
 ·rw[if_pos h2];exact lq.nil _
 rw[if_neg h2]at h ⊢
 by_cases h3:dW b.2.2.2.1 0 a=0
 ·rw[if_pos h3];exact lq.nil _
 rw[if_neg h3]at h ⊢
 by_cases h4:(eP b.2.2.2.1 a (dW b.2.2.2.1 0 a)).2.2=0
 ·rw[if_pos h4]
  have Y9:eU 0 a b.2.2.2.1=dW b.2.2.2.1 0 a:=by unfold dW;rw[hk];rfl
  have hn6:a<6:=by
   unfold fm at Cm
   have:=(of_decide_eq_true (Bool.and_eq_true_iff.1 Cm).1).2
   omega
  have hz:(cQ a b.2.2.2.1).sum=0:=by
   unfold qG at hf
   have JR:=of_decide_eq_true (Bool.and_eq_true_iff.1 hf).1 a.toNat (by unfold gT;omega)
   unfold qF eB rr at JR
   rw[hk,if_pos rfl,show((a.toNat:Nat):Int)=a by omega]at JR
   exact JR
  generalize dW b.2.2.2.1 0 a=q at*
  obtain⟨f,g1,g2,g3⟩:=vF hk w.qs hh h4
  have WW:=Ot f (IF hs hz Y9 h3)
  have AH:=f.c.s
  rw[WW,Int.add_zero]at AH
  have hzl:((eP b.2.2.2.1 a q).1.zip (pM (c9 a q b.2.2.2.1))).map (·.1)=(eP b.2.2.2.1 a q).1:=List.map_fst_zip (by rw[uM];omega)
  have hsg:sg q (q.natAbs:Int)=q:=by unfold sg;split<;>omega
  have hzz: ∀x∈zc a q ((eP b.2.2.2.1 a q).1.zip (pM (c9 a q b.2.2.2.1))),bI x.1 x.2.1∧aC (da x)∧n5 (da x):=fun x hx=>by
   obtain⟨p,hp,rfl⟩:=IX hx
   obtain⟨i,hi,e⟩:=List.getElem_of_mem hp
   rw[List.length_zip]at hi
   have e':=IG (out:=(eP b.2.2.2.1 a q).1) (accs:=pM (c9 a q b.2.2.2.1)) (i:=i) (by omega) (by omega)
   rw[List.getD_eq_getElem?_getD,List.getElem?_eq_getElem (by rw[List.length_zip];omega)]at e'
   have ep:p=_:=e.symm.trans e'
   have hr:=g3 i (by omega)
   rw[ep]
   refine⟨?_,aeB hr.1 hr.2⟩
   have hm:(pM (c9 a q b.2.2.2.1)).getD i 0∈pM (c9 a q b.2.2.2.1):=by
    rw[List.getD_eq_getElem?_getD,List.getElem?_eq_getElem (by omega)];exact List.getElem_mem _
   obtain⟨y,hy,ey⟩:=List.mem_map.1 hm
   have JC:=rI hy
   have hpy:=(Ae y JC.1).1
   have g: ∀u v z:Int,bI u v→v=a→u=z→bI z a:=fun u v z h e1 e2=>by rw[←e1,←e2];exact h
   exact g _ _ _ hpy JC.2.2 ey
  refine⟨fun x hx=> ?_,fun x hx=> ?_,?_,fun i=> ?_⟩
  ·rcases List.mem_cons.1 hx with e|hx
   ·rw[e];show bI 0 a;unfold bI;omega
   ·exact(hzz x hx).1
  ·rcases List.mem_cons.1 hx with e|hx
   ·rw[e];exact akb hh
   ·exact(hzz x hx).2
  ·unfold Ou
   rw[List.length_cons]
   have:=O2 a q ((eP b.2.2.2.1 a q).1.zip (pM (c9 a q b.2.2.2.1)))
   rw[List.length_zip]at this
   omega
  ·unfold Ou
   rw[dO]
   dsimp only
   by_cases e:a=i
   ·rw[if_pos e,List.sum_cons,IW,if_pos e,hzl,AH,hsg]
    show 0-q+q=0
    omega
   ·rw[if_neg e,IW,if_neg e]
 ·rw[if_neg h4]at h
  exact absurd h h4
def wP(c:ae)(b:ag):Nat→Nat→ah→ag×Int
 |0,_,s=>lI b s []
 |m+1,i,s=>if(dk c b (i:Int)).2=0 then wP c b m (i+1) (s++(dk c b (i:Int)).1)else((bN,(cI,(bq,(bq,(c3,(de,())))))),(dk c b (i:Int)).2)
def qT(c:ae)(b:ag):ag×Int:=if c8 c b then wP c b c.1.length 0 []else((bN,(cI,(bq,(bq,(c3,(de,())))))),1)
theorem BX:J3 []:=⟨fun x hx=>(nomatch hx),fun x hx=>(nomatch hx),Nat.zero_le _,rfl⟩
theorem Kj(N:Nat)(hN:5000000≤N)(c:ae){b:ag}(w:ux b):xw N c b=some (qT c b):=by
 unfold xw xw.b qT
 rw[JX N (by omega) w.w,Option.bind_some,cond_not]
 by_cases hB:c8 c b=false
 ·rw[hB];rfl
 rw[Bool.not_eq_false]at hB
 rw[hB,cond_true,if_pos rfl]
 obtain⟨hr,hs⟩:=gG hB
 have h6:c.1.length≤6:=by
  have Cm:=(qS hB).2
  unfold fm at Cm
  exact(of_decide_eq_true (Bool.and_eq_true_iff.1 Cm).1).2
 have key: ∀(m n i:Nat) (s:ah),i+m=c.1.length→m<n→lq s (65*i)→xw.l5 N n c b (bN,(cI,(bq,(bq,(c3,(de,())))))) s (c.1.length:Int) (i:Int)=some (wP c b m i s):=by
  intro m n
  induction n generalizing m with
  |zero=>intro i s _ hn _;omega
  |succ n ih=>
   intro i s hi hn I
   unfold xw.l5 xw.dp
   have hls:=I.len
   match m,hi,hn with
   |0,hi,hn=>
    have WE:=N4 N (by omega) w.w hr hs w.r w.s (I.aeC (by omega)) BX
    rw[ax (by omega),cond_false]
    show(F65 N b s ([].map gF)).bind _=some (lI b s [])
    rw[WE,Option.bind_some]
   |m+1,hi,hn=>
    rw[aD (by omega),cond_true,yc N hN c w.w,Option.bind_some,cond_not,az,an (x:=(i:Int)+1) (by omega) (by omega),aa i]
    show _=some (if(dk c b (i:Int)).2=0 then wP c b m (i+1) (s++(dk c b (i:Int)).1)else((bN,(cI,(bq,(bq,(c3,(de,())))))),(dk c b (i:Int)).2))
    by_cases h:(dk c b (i:Int)).2=0
    ·have J:=zD hB w.w h
     have hlj:=J.len
     rw[if_pos h,if_pos h,a6 (by omega),cond_true]
     exact ih m (i+1) _ (by omega) (by omega) (I.app J (by omega))
    ·rw[if_neg h,if_neg h]
 exact key c.1.length N 0 [] (by omega) (by omega) (lq.nil _)
theorem O3(N:Nat)(hN:5000000≤N)(c:ae){b:ag}(w:ux b):tc N c b=some (qT c b):=by
 unfold tc tc.b qT
 rw[y8 N (by omega) w.w,Option.bind_some,cond_not]
 by_cases hB:c8 c b=false
 ·rw[hB];rfl
 rw[Bool.not_eq_false]at hB
 rw[hB,cond_true,if_pos rfl]
 obtain⟨hr,hs⟩:=gG hB
 have h6:c.1.length≤6:=by
  have Cm:=(qS hB).2
  unfold fm at Cm
  exact(of_decide_eq_true (Bool.and_eq_true_iff.1 Cm).1).2
 have key: ∀(m n i:Nat) (s:ah),i+m=c.1.length→m<n→lq s (65*i)→tc.l5 N n c b (bN,(cI,(bq,(bq,(c3,(de,())))))) s (i:Int)=some (wP c b m i s):=by
  intro m n
  induction n generalizing m with
  |zero=>intro i s _ hn _;omega
  |succ n ih=>
   intro i s hi hn I
   unfold tc.l5 tc.dp
   have hls:=I.len
   match m,hi,hn with
   |0,hi,hn=>
    have WE:=Rt N (by omega) w.w hr hs w.r w.s (I.aeC (by omega)) BX
    rw[ax (by omega),cond_false]
    show(uw N b s ([].map jL)).bind _=some (lI b s [])
    rw[WE,Option.bind_some]
   |m+1,hi,hn=>
    rw[aD (by omega),cond_true,FP N hN c w.w,Option.bind_some,cond_not,az,an (x:=(i:Int)+1) (by omega) (by omega),aa i]
    show _=some (if(dk c b (i:Int)).2=0 then wP c b m (i+1) (s++(dk c b (i:Int)).1)else((bN,(cI,(bq,(bq,(c3,(de,())))))),(dk c b (i:Int)).2))
    by_cases h:(dk c b (i:Int)).2=0
    ·have J:=zD hB w.w h
     have hlj:=J.len
     rw[if_pos h,if_pos h,a6 (by omega),cond_true]
     exact ih m (i+1) _ (by omega) (by omega) (I.app J (by omega))
    ·rw[if_neg h,if_neg h]
 exact key c.1.length N 0 [] (by omega) (by omega) (lq.nil _)
theorem IY{c:ae}{b:ag}(w:k7 b):Fi (qT c b).1:=by
 have key: ∀(m i:Nat) (s:ah),Fi (wP c b m i s).1:=by
  intro m
  induction m with
  |zero=>intro i s;exact Fj w s []
  |succ m ih=>
   intro i s
   show Fi (if(dk c b (i:Int)).2=0 then wP c b m (i+1) (s++(dk c b (i:Int)).1)else((bN,(cI,(bq,(bq,(c3,(de,())))))),(dk c b (i:Int)).2)).1
   split
   ·exact ih _ _
   ·exact rD
 unfold qT
 split
 ·exact key _ _ _
 ·exact rD
theorem O4{c:ae}{b:ag}(w:k7 b)(a:Int):(dk c b a).1.length≤100000:=by
 by_cases hB:c8 c b=true
 ·by_cases h:(dk c b a).2=0
  ·have:=(zD hB w h).len;omega
  ·unfold dk at h ⊢
   rw[if_pos hB]at h ⊢
   by_cases h1:a<0
   ·rw[if_pos h1];exact Nat.zero_le _
   rw[if_neg h1]at h ⊢
   by_cases h2:(c.1.length:Int)≤a
   ·rw[if_pos h2];exact Nat.zero_le _
   rw[if_neg h2]at h ⊢
   by_cases h3:dW b.2.2.2.1 0 a=0
   ·rw[if_pos h3];exact Nat.zero_le _
   rw[if_neg h3]at h ⊢
   by_cases h4:(eP b.2.2.2.1 a (dW b.2.2.2.1 0 a)).2.2=0
   ·rw[if_pos h4]at h;exact absurd rfl h
   ·rw[if_neg h4];exact Nat.zero_le _
 ·unfold dk
  rw[if_neg hB];exact Nat.zero_le _
theorem zE(N:Nat){l:ah}(hl:l.length≤100000)(hN:200000≤N):uW N l l=some true:=by
 unfold uW uW.b
 rw[dt,Bool.not_true,cond_false]
 refine iR (F:=fun n i=>uW.l4 N n l l i) (len:=l.length) (fun n i hi hr=> ?_) (fun n=> ?_) l.length N 0 (by omega) (by omega) (by omega)
 ·unfold uW.l4 uW.cj
  rw[aD (by omega),cond_true,aF (by omega) (by omega),cond_true,cond_true,C0,Bool.not_true,cond_false,an (x:=(i:Int)+1) (by omega) (by omega),aa i]
  exact hr
 ·unfold uW.l4 uW.cj
  rw[ax (by omega),cond_false]
theorem aeD(N:Nat)(hN:5000000≤N)(c:ae){b:ag}(w:ux b)(a:Int):F29 N c b a=some true:=by
 unfold F29
 have sh:=IY (c:=c) w.w
 rw[yc N hN c w.w,Option.bind_some,FP N hN c w.w,Option.bind_some,Kj N hN c w,Option.bind_some,O3 N hN c w,Option.bind_some,dt,cond_true,zE N (O4 w.w a) (by omega),Option.bind_some,cond_true,dt,cond_true,Od N (by omega) sh.m sh.a sh.r sh.s sh.p sh.o,Option.bind_some]
def tC:ae:=([((0:Int),((100:Int),ca))],((0:Int),((0:Int),((0:Int),((0:Int),((1:Int),((0:Int),())))))))
def tS:ah:=[((0:Int),((0:Int),((3:Int),()))),((1:Int),((0:Int),((-4:Int),()))),((2:Int),((0:Int),((-2:Int),()))),((3:Int),((0:Int),((3:Int),())))]
def tB:ag:=([((1:Int),((1:Int),()))],([((1:Int),((1:Int),((1:Int),((0:Int),())))),((2:Int),((1:Int),((2:Int),((0:Int),())))),((3:Int),((1:Int),((2:Int),((0:Int),()))))],(([]:ah),(tS,([(100:Int)],(de,()))))))
theorem tW:ux tB:=⟨⟨by decide,by decide,by decide,by decide,by decide,by decide,fun x hx=>(nomatch hx),Rw (l:=tS) (by decide)⟩,by decide,by decide⟩
def tL0:ah:=[((0:Int),((0:Int),((-3:Int),()))),((1:Int),((0:Int),((2:Int),()))),((2:Int),((0:Int),((1:Int),())))]
def tL1:ah:=[((1:Int),((0:Int),((-2:Int),()))),((2:Int),((0:Int),((-1:Int),()))),((3:Int),((0:Int),((3:Int),())))]
theorem tC0:dk tC tB 0=(tL0,0):=by kernel_rfl
theorem tC1:(dk tC tB 1).2=3:=by kernel_rfl
theorem tT0:(qT tC tB).2=0:=by kernel_rfl
theorem tT1:(qT tC tB).1.2.2.2.1=tL1:=by kernel_rfl
theorem acA(N:Nat)(hN:5000000≤N):F26 N=some true:=by
 unfold F26 F86
 rw[Option.bind_some]
 show(ln N tC tB 0).bind _=_
 rw[yc N hN tC tW.w,Option.bind_some,tC0]
 show(xw N tC tB).bind _=_
 rw[Kj N hN tC tW,Option.bind_some]
 show(ln N tC tB 1).bind _=_
 rw[yc N hN tC tW.w,Option.bind_some,tC1,tT0,tT1]
 have h1:uW N tL0 tL0=some true:=zE N (by decide) (by omega)
 have h2:uV N tL1 tL1=some true:=BB N (by decide) (by omega)
 show cond (ay 0 0) ((uW N tL0 tL0).bind fun r5=>cond (r5) (cond (ay 0 0) ((uV N tL1 tL1).bind fun r6=>cond (r6) (some (ay 3 3)) (some false)) (some false)) (some false)) (some false)=some true
 rw[h1,h2]
 simp only[dt,cond_true,Option.bind_some]
namespace Pure
end Pure
end VM
end
section
namespace VM
open Go VM.F Go.RowKit
namespace Pure
end Pure
end VM
end
