/- A part of the proof of HedgeDrawn of layer 22: what the functions compute, in plain words. -/
import Derived.Test.YtocmlaipoebfeaaGreatPlain3
import Derived.Test.YtocmlaipoebfeaaGreatPlain1
import Derived.Test.YtocmlaipoebfeaaGreatPlain0
set_option linter.all false
section
namespace VM
open Go VM.F
theorem qH(N:Nat)(p:Int):Uq N p=some (decide (bo p)):=(wT N p).trans (congrArg some (decide_eq_decide.2 Iff.rfl))
theorem Dv(N:Nat)(hN:10≤N)(t:gg):k6 N t=some (decide (cz t)):=by
 obtain⟨n,rfl⟩: ∃n,N=n+3:=⟨N-3,by omega⟩
 refine Eq.trans ?_ (yb t.1 t.2.1 t.2.2.1 t.2.2.2.1 t.2.2.2.2.1)
 unfold k6 k6.b
 have el:List.set (List.set (List.replicate 2 (0:Int)) 0 t.1) 1 t.2.1=[t.1,t.2.1]:=rfl
 rw[el]
 generalize hl:[t.1,t.2.1]=l
 have g0:l.getD (0:Int).toNat 0=t.1:=by rw[←hl];rfl
 have g1:l.getD (1:Int).toNat 0=t.2.1:=by rw[←hl];rfl
 unfold k6.l2 k6.dx
 unfold k6.l2 k6.dx
 unfold k6.l2 k6.dx
 rw[aD (x:=0) (by omega),cond_true,aF (i:=0) (by omega) (by omega),cond_true,al (x:=0+1) (by omega) (by omega),show(0:Int)+1=1 from rfl,aD (x:=1) (y:=2) (by omega),cond_true,aF (i:=1) (by omega) (by omega),cond_true,al (x:=1+1) (by omega) (by omega),show(1:Int)+1=2 from rfl,ax (x:=2) (y:=2) (by omega),cond_false,g0,g1,qH,Option.bind_some]
 simp only[bk,cond_not,au,aJ]
 by_cases a1:t.1<0
 ·rw[if_pos a1,if_neg (Int.not_le.2 a1)]
 rw[if_neg a1,if_pos (Int.not_lt.1 a1)]
 by_cases a2:24<t.1
 ·rw[if_pos a2,if_neg (Int.not_le.2 a2)]
 rw[if_neg a2,if_pos (Int.not_lt.1 a2)]
 by_cases a3:t.2.1<0
 ·rw[if_pos a3,if_neg (Int.not_le.2 a3)]
 rw[if_neg a3,if_pos (Int.not_lt.1 a3)]
 by_cases a4:24<t.2.1
 ·rw[if_pos a4,if_neg (Int.not_le.2 a4)]
 rw[if_neg a4,if_pos (Int.not_lt.1 a4)]
theorem Dw(N:Nat)(a x:Int):Rl N a (bg x)=some (fW (y5 a x)):=by
 unfold Rl y5 fW
 rw[au]
 by_cases h:a=0
 ·rw[if_pos h,if_pos h];rfl
 ·rw[if_neg h,if_neg h];rfl
theorem K8(N:Nat)(hN:100≤N){t:gg}{p:Int}(ht:cz t)(hp:bo p):Rm N t p=some ((jf t p).map fW,0):=by
 unfold Rm jf
 have hq:=ht.2.2.2.2.1
 have he:=ht.2.2.2.2.2
 rw[Dv N (by omega),Option.bind_some,decide_eq_true ht,Bool.not_true,cond_false,qH,Option.bind_some,decide_eq_true hp,Bool.not_true,cond_false,au]
 unfold bo at hp he
 generalize t.2.2.2.2.1=e at*
 generalize t.2.2.2.1=q at*
 by_cases h:p=e
 ·rw[if_pos h,if_pos (by omega)];rfl
 ·rw[if_neg h,if_neg (by omega),al (x:=p-e) (by omega) (by omega),al (x:=e-p) (by omega) (by omega),vu N (by omega) (by omega) (by omega) (by omega),Option.bind_some,Dw,Option.bind_some,vu N (by omega) (by omega) (by omega) (by omega),Option.bind_some,Dw,Option.bind_some,List.map_cons,List.map_cons,List.map_nil,Int.mul_comm q (p-e)]
  have e2:q*(e-p)= -((p-e)*q):=by rw[Int.mul_comm,←Int.neg_mul];congr 1;omega
  rw[e2]
theorem E6(N:Nat){u v:Int}(hu:bA u)(hv:bA v)(hs:bA (u+v)):HK N (bg u) (bg v)=some (bg (u+v),true):=by
 unfold HK bg
 unfold bA at*
 dsimp only
 have hp:0≤u%18446744073709551616∧u%18446744073709551616<18446744073709551616:=by omega
 have hq:0≤v%18446744073709551616∧v%18446744073709551616<18446744073709551616:=by omega
 rw[jn,jn,pI N (by omega) (by omega) (by omega) (by omega),Option.bind_some]
 dsimp only
 have hc:0≤(u%18446744073709551616+v%18446744073709551616+0)/18446744073709551616∧(u%18446744073709551616+v%18446744073709551616+0)/18446744073709551616≤1:=by omega
 have e1:(u%18446744073709551616+v%18446744073709551616+0)%18446744073709551616=(u+v)%18446744073709551616:=by omega
 have e2:u/18446744073709551616+v/18446744073709551616+(u%18446744073709551616+v%18446744073709551616+0)/18446744073709551616=(u+v)/18446744073709551616:=by omega
 have h3: -9223372036854775808≤(u+v)/18446744073709551616∧(u+v)/18446744073709551616<9223372036854775808:=by omega
 rw[pI N (by omega) (by omega) hc.1 hc.2,Option.bind_some]
 dsimp only
 have e3:W .i64 ((u/18446744073709551616%18446744073709551616+v/18446744073709551616%18446744073709551616+(u%18446744073709551616+v%18446744073709551616+0)/18446744073709551616)%18446744073709551616)=(u+v)/18446744073709551616:=by
  rw[dV];split<;>omega
 rw[e3,e1]
 have key: ∀A B C:Int,A=u/18446744073709551616→B=v/18446744073709551616→C=(u+v)/18446744073709551616→(A<0∧B<0→C<0)∧(¬A<0∧ ¬B<0→ ¬C<0):=fun A B C _ _ _=>by omega
 have k:=key _ _ _ rfl rfl rfl
 simp only[lM,o9]
 by_cases a:u/18446744073709551616<0<;>by_cases b:v/18446744073709551616<0
 ·have c:=k.1 ⟨a,b⟩
  rw[decide_eq_true a,decide_eq_true b,decide_eq_true c];rfl
 ·rw[decide_eq_true a,decide_eq_false b];rfl
 ·rw[decide_eq_false a,decide_eq_true b];rfl
 ·have c:=k.2 ⟨a,b⟩
  rw[decide_eq_false a,decide_eq_false b,decide_eq_false c];rfl
theorem OD(N:Nat)(hN:200000≤N)(c:aa)(hl:c.1.length≤100000)(k:Int):lW N c k=some (bH c k):=by
 unfold lW lW.b bH
 rw[zr N (by omega),Option.bind_some,cond_not]
 have:=kD c.1 aK (fun n i s=>lW.l5 N n k s c.1 (c.1.length:Int) i) (fun t s=>some (s++gp k (c.1.length-t.length) t)) (fun i (s:List Int)=>s.length≤i) (fun n i s hi hI hr=> ?_) (fun n s hI=> ?_) c.1.length N 0 [] (by omega) (by omega) (by omega) (Nat.le_refl _)
 ·have e:lW.l5 N N k [] c.1 (c.1.length:Int) 0=some (gp k 0 c.1):=by
   refine this.trans ?_
   rw[List.drop_zero,Nat.sub_self];rfl
  rw[e];cases dY c<;>rfl
 ·unfold lW.l5 lW.c5
  have e1:c.1.length-(c.1.getD i aK::c.1.drop (i+1)).length=i:=by rw[List.length_cons,List.length_drop];omega
  have e2:c.1.length-(c.1.drop (i+1)).length=i+1:=by rw[List.length_drop];omega
  rw[e2]at hr
  rw[aD (by omega),cond_true,aF (by omega) (by omega),cond_true,Int.toNat_natCast,al (x:=(i:Int)+1) (by omega) (by omega),ae i,au,aZ (by rw[List.length_singleton];omega),cond_true,e1,m4]
  split
  ·rw[hr _ (by rw[List.length_append,List.length_singleton];omega),List.append_assoc];rfl
  ·exact hr s (by omega)
 ·unfold lW.l5 lW.c5
  rw[ax (by omega),cond_false]
  show some s=some (s++[])
  rw[List.append_nil]
end VM
end
section
namespace VM
open Go VM.F
theorem yf(N:Nat)(hN:10≤N){l:aX}(hl:l.length≤100000): ∀(m n i:Nat),l.length-i≤m→m<n→i≤l.length→
  ∃r,ow.l2 N n l () (l.length:Int) (i:Int)=some r∧(bW 0 r= !(l.drop i).all (fun t=>decide (cz t)))
 |m,0,i,_,hn,_=>by omega
 |m,n+1,i,hm,hn,hi=>by
  unfold ow.l2 ow.dx ace
  by_cases h:i<l.length
  ·rw[aD (by omega),cond_true,aF (by omega) (by omega),cond_true,Int.toNat_natCast,Dv N hN,Option.bind_some,Option.bind_some,cond_not,ct,drop_cons h dT,List.all_cons]
   by_cases hP:cz (l.getD i dT)
   ·rw[if_pos hP,al (by omega) (by omega),decide_eq_true hP,Bool.true_and]
    exact yf N hN hl (m-1) n (i+1) (by omega) (by omega) (by omega)
   ·rw[if_neg hP,decide_eq_false hP,Bool.false_and]
    exact⟨_,rfl,by rw[cS (by omega)];rfl⟩
  ·have e:i=l.length:=by omega
   subst e
   rw[ax (by omega),cond_false,List.drop_length]
   exact⟨_,rfl,by rw[cL (by omega)];rfl⟩
theorem K9(N:Nat){l:aX}(hl:l.length≤100000)(hN:200000≤N):UK N l ()=some (!l.all (fun t=>decide (cz t))):=by
 unfold UK ow ow.b
 obtain⟨r,e,h⟩:=yf N (by omega) hl l.length N 0 (by omega) (by omega) (by omega)
 rw[show((0:Nat):Int)=0 from rfl]at e
 rw[e,Option.bind_some,h,List.drop_zero]
theorem HL(N:Nat)(hN:4000000≤N)(c:aa){b:af}(w:mZ b)(hB:bV c b=true){l:aX}(hk: ∀t∈l,cz t)(hth: ∀t∈l,dE c b t=true)(hl:l.length≤200):
  fu.kd N N b (bK,(cg,(aY,(aY,(cD,(cJ,())))))) [] [] l (l.length:Int) 0=some (gm b (eN l) (e8 b l)):=by
 obtain⟨hr,hs⟩:=kj hB
 obtain⟨z5,yP⟩:=cK hB
 have gs:=Ds hk hl
 have OA: ∀t∈l,t.2.2.1.toNat<b.2.2.2.2.1.length∧aH t.2.2.1 b.2.2.2.2.1.length=true:=fun t ht=>by
  have h:=hth t ht
  unfold dE at h
  have dD:=of_decide_eq_true (Bool.and_eq_true_iff.1 (Bool.and_eq_true_iff.1 h).2).2
  have gC:=(hk t ht).2.2.2.1
  have g: ∀x:Int,(0≤x∧x<6)→BY x c.1.length→x.toNat<b.2.2.2.2.1.length∧aH x b.2.2.2.2.1.length=true:=fun x _ h=>by unfold BY at h;exact⟨by omega,aF (by omega) (by omega)⟩
  exact g _ gC dD
 have gW: ∀t∈l,cz t∧bo (gn b t):=fun t ht=>⟨hk t ht,kp yP (OA t ht).1⟩
 have:=kD l dT (fun n i (z:ah×ah)=>fu.kd N n b (bK,(cg,(aY,(aY,(cD,(cJ,())))))) z.1 (z.2.map fW) l (l.length:Int) i)
  (fun u z=>some (gm b (eN l) (e8 b l)))
  (fun i z=>z.1++eN (l.drop i)=eN l∧z.2++e8 b (l.drop i)=e8 b l)
  (fun n i z hi hI vx=> ?_) (fun n z hI=> ?_) l.length N 0 ([],[]) (by omega) (by omega) (by omega) ⟨rfl,rfl⟩
 ·exact this
 ·unfold fu.kd fu.jb
  obtain⟨i1,i2⟩:=hI
  have hls:=qF l
  have hle:=qG b l
  have z1:z.1.length≤400:=by rw[←i1,List.length_append]at hls;omega
  have z2:z.2.length≤400:=by rw[←i2,List.length_append]at hle;omega
  have hm:l.getD i dT∈l:=by
   rw[List.getD_eq_getElem?_getD,List.getElem?_eq_getElem hi];exact List.getElem_mem hi
  have ht:=hk _ hm
  have hn:=OA _ hm
  have hp:=(gW _ hm).2
  rw[drop_cons hi dT,lV]at i1
  rw[drop_cons hi dT,o1]at i2
  rw[aD (by omega),cond_true,aF (by omega) (by omega),cond_true,Int.toNat_natCast,al (x:=(i:Int)+1) (by omega) (by omega),ae i]
  generalize l.getD i dT=t at*
  have hq:=ht.2.2.2.2.1
  have e0:W .i64 (0-t.2.2.2.1)=0-t.2.2.2.1:=by
   have g: ∀d:Int,1≤d∧d≤1000000000→W .i64 (0-d)=0-d:=fun d _=>al (by omega) (by omega)
   exact g _ hq
  rw[e0]
  dsimp only
  have htp:Rm N t (b.2.2.2.2.1.getD t.2.2.1.toNat 0)=some ((jf t (gn b t)).map fW,0):=K8 N (by omega) ht hp
  have El:=uv t (gn b t)
  rw[aZ (by rw[List.length_cons,List.length_singleton];omega),cond_true,hn.2,cond_true,htp,Option.bind_some,aZ (by rw[List.length_map,List.length_map];omega),cond_true]
  have:=vx (z.1++[(t.1,(t.2.2.1,(t.2.2.2.1,()))),(t.2.1,(t.2.2.1,((0-t.2.2.2.1:Int),())))],z.2++jf t (gn b t)) ⟨by rw[←i1,List.append_assoc];rfl,by rw[←i2,List.append_assoc]⟩
  rw[List.map_append]at this
  exact this
 ·unfold fu.kd fu.jb
  obtain⟨i1,i2⟩:=hI
  rw[List.drop_length]at i1 i2
  have e1:z.1=eN l:=by rw[←i1];exact(List.append_nil _).symm
  have e2:z.2=e8 b l:=by rw[←i2];exact(List.append_nil _).symm
  rw[ax (by omega),cond_false,e1,e2,Q7 N (by omega) w.w hr hs w.r w.s gs (Dt gW hl),Option.bind_some]
theorem vP{f:Bool}{a:Int}{r:Option (af×Int)}:cond (!ay a 0) (cond (!f) (some ((bK,(cg,(aY,(aY,(cD,(cJ,())))))),(3:Int))) r) r=if(f||decide (gf a 0))=true then r else some ((bK,(cg,(aY,(aY,(cD,(cJ,())))))),(3:Int)):=by
 rw[cond_not,au,cond_not]
 by_cases h:a=0
 ·rw[if_pos h,decide_eq_true (show gf a 0 from h),Bool.or_true,if_pos rfl]
 ·rw[if_neg h,decide_eq_false (show ¬gf a 0 from h),Bool.or_false]
  cases f<;>rfl
theorem OE(N:Nat)(hN:4000000≤N)(c:aa){b:af}(w:mZ b){l:aX}(hl:l.length≤100000):fu N c b l=some (ko c b l):=by
 unfold fu fu.b ko
 rw[zu N hN w.w,Option.bind_some,cond_not,aJ,K9 N hl (by omega),Option.bind_some,cond_not]
 by_cases hB:bV c b=false
 ·rw[hB];rfl
 rw[Bool.not_eq_false]at hB
 rw[hB,cond_true,if_pos rfl]
 by_cases K7:l.length≤200
 ·rw[if_neg (by omega),if_pos K7]
  by_cases hk:l.all (fun t=>decide (cz t))=false
  ·rw[hk];rfl
  rw[Bool.not_eq_false]at hk
  rw[hk,cond_true,if_pos rfl]
  have zX: ∀t∈l,cz t:=fun t ht=>of_decide_eq_true (List.all_eq_true.1 hk t ht)
  have key: ∀(m n i:Nat),l.length-i≤m→m<n→i≤l.length→(∀j,j<i→dE c b (l.getD j dT)=true)→fu.l4 N n l c b (bK,(cg,(aY,(aY,(cD,(cJ,())))))) l (l.length:Int) (i:Int)=some (if l.all (dE c b)then gm b (eN l) (e8 b l)else((bK,(cg,(aY,(aY,(cD,(cJ,())))))),3)):=by
   intro m n
   induction n generalizing m with
   |zero=>intro i _ hn;omega
   |succ n ih=>
    intro i hm hn hi hj
    unfold fu.l4 fu.cA
    by_cases h:i<l.length
    ·have pC:dE c b (l.getD i dT)=false→some ((bK,(cg,(aY,(aY,(cD,(cJ,())))))),(3:Int))=some (if l.all (dE c b)then gm b (eN l) (e8 b l)else((bK,(cg,(aY,(aY,(cD,(cJ,())))))),3)):=fun hf=>by
      have:l.all (dE c b)=false:=by
       rw[List.all_eq_false]
       refine⟨l.getD i dT,?_,by rw[hf];decide⟩
       rw[List.getD_eq_getElem?_getD,List.getElem?_eq_getElem h];exact List.getElem_mem h
      rw[this];rfl
     have ahW:dE c b (l.getD i dT)=true→ ∀j,j<i+1→dE c b (l.getD j dT)=true:=fun h j S9=>by
      by_cases e:j=i
      ·rw[e];exact h
      ·exact hj j (by omega)
     rw[aD (by omega),cond_true,aF (by omega) (by omega),cond_true,Int.toNat_natCast,AI N b w.w.a (by omega),AI N b w.w.a (by omega),al (x:=(i:Int)+1) (by omega) (by omega),ae i]
     simp only[Option.bind_some]
     rw[vP,vP,bk]
     generalize l.getD i dT=t at*
     unfold dE at pC ahW
     by_cases h1:((dL b.2.1 t.1).2||decide (gf t.1 0))=true
     ·rw[if_pos h1]
      by_cases h2:((dL b.2.1 t.2.1).2||decide (gf t.2.1 0))=true
      ·rw[if_pos h2]
       by_cases h3:(c.1.length:Int)≤t.2.2.1
       ·rw[if_pos h3]
        exact pC (by rw[h1,h2,decide_eq_false (show ¬BY t.2.2.1 c.1.length from fun h=>by unfold BY at h;exact absurd h (Int.not_lt.2 h3))];rfl)
       ·rw[if_neg h3]
        exact ih (m-1) (i+1) (by omega) (by omega) (by omega) (ahW (by rw[h1,h2,decide_eq_true (show BY t.2.2.1 c.1.length from Int.not_le.1 h3)];rfl))
      ·rw[if_neg h2]
       exact pC (by rw[Bool.not_eq_true]at h2;rw[h1,h2];rfl)
     ·rw[if_neg h1]
      exact pC (by rw[Bool.not_eq_true]at h1;rw[h1];rfl)
    ·have hth: ∀t∈l,dE c b t=true:=fun t ht=>by
      obtain⟨k,hk,e⟩:=List.getElem_of_mem ht
      have:=hj k (by omega)
      rw[List.getD_eq_getElem?_getD,List.getElem?_eq_getElem hk]at this
      rw[←e];exact this
     rw[ax (by omega),cond_false,List.all_eq_true.2 hth,if_pos rfl]
     exact HL N hN c w hB zX hth K7
  exact key l.length N 0 (by omega) (by omega) (by omega) (fun j hj=>absurd hj (by omega))
 ·rw[if_pos (by omega),if_neg K7]
end VM
end
section
namespace VM
open Go VM.F
def vQ(l:List Int)(k:Int):Int:=l.getD k.toNat 0
def ins(l:List Int):List Int→Int→List Int
 |[],i=>[i]
 |k::t,i=>if vQ l i≤vQ l k then k::ins l t i else i::k::t
def dH(l:List Int):Nat→List Int
 |0=>[]
 |n+1=>ins l (dH l n) n
def gK(l:List Int):List Int:=dH l l.length
def tL(l:List Int)(a b:Int):Prop:=vQ l b<vQ l a∨(vQ l b=vQ l a∧a<b)
theorem MW(l:List Int): ∀(o:List Int) (i:Int),(ins l o i).length=o.length+1
 |[],i=>rfl
 |k::t,i=>by unfold ins;split<;>simp[MW l t i]
theorem o3(l:List Int): ∀n,(dH l n).length=n
 |0=>rfl
 |n+1=>by unfold dH;rw[MW,o3 l n]
theorem ux(l:List Int):(gK l).length=l.length:=o3 l _
theorem E7(l:List Int){x:Int}: ∀{o:List Int} {i:Int},x∈ins l o i↔x=i∨x∈o
 |[],i=>by simp[ins]
 |k::t,i=>by
  unfold ins;split
  ·rw[List.mem_cons,E7 l,List.mem_cons]
   exact⟨fun h=>h.elim (fun h=> .inr (.inl h)) (fun h=>h.elim .inl (fun h=> .inr (.inr h))),fun h=>h.elim (fun h=> .inr (.inl h)) (fun h=>h.elim .inl (fun h=> .inr (.inr h)))⟩
  ·rw[List.mem_cons]
theorem o4(l:List Int){x:Int}: ∀{n:Nat},x∈dH l n↔0≤x∧x<n
 |0=>⟨(fun h=>nomatch h),fun h=>absurd h.1 (by omega)⟩
 |n+1=>by unfold dH;rw[E7,o4 l];omega
theorem vR(l:List Int): ∀{o:List Int} {i:Int},o.Pairwise (tL l)→(∀x∈o,x<i)→(ins l o i).Pairwise (tL l)
 |[],i,_,_=>List.pairwise_singleton _ _
 |k::t,i,h,hi=>by
  rw[List.pairwise_cons]at h
  have hk:k<i:=hi k (List.mem_cons_self ..)
  unfold ins;split
  ·rename_i hle
   rw[List.pairwise_cons]
   refine⟨fun x hx=> ?_,vR l h.2 (fun x hx=>hi x (List.mem_cons_of_mem _ hx))⟩
   rcases(E7 l).1 hx with rfl|hx
   ·unfold tL;omega
   ·exact h.1 x hx
  ·rename_i hle
   rw[List.pairwise_cons,List.pairwise_cons]
   refine⟨fun x hx=> ?_,h.1,h.2⟩
   rcases List.mem_cons.1 hx with rfl|hx
   ·unfold tL;omega
   ·have:=h.1 x hx;unfold tL at*;omega
theorem k7(l:List Int): ∀n,(dH l n).Pairwise (tL l)
 |0=>List.Pairwise.nil
 |n+1=>by unfold dH;exact vR l (k7 l n) (fun x hx=>((o4 l).1 hx).2)
theorem Rn(l:List Int): ∀(o:List Int) (i:Int) (p:Nat),p≤o.length→(∀j,j<p→vQ l i≤vQ l (o.getD j 0))→(p<o.length→vQ l (o.getD p 0)<vQ l i)→ins l o i=o.take p++i::o.drop p
 |[],i,p,hp,_,_=>by simp at hp;subst hp;rfl
 |k::t,i,0,hp,_,h=>by
  unfold ins;rw[if_neg (by have:=h (by simp);simp at this;omega)];rfl
 |k::t,i,p+1,hp,h0,h=>by
  unfold ins
  have h1:vQ l i≤vQ l k:=h0 0 (by omega)
  rw[if_pos h1,Rn l t i p (by simpa using hp) (fun j hj=>by have:=h0 (j+1) (by omega);simpa using this) (fun wq=>by have:=h (by simpa using wq);simpa using this)]
  rfl
theorem MX(l:List Int)(f:Int→Int): ∀(o:List Int) (i:Int),((ins l o i).map f).sum=(o.map f).sum+f i
 |[],i=>by simp[ins]
 |k::t,i=>by
  unfold ins;split
  ·rw[List.map_cons,List.sum_cons,MX l f t i,List.map_cons,List.sum_cons];omega
  ·simp only[List.map_cons,List.sum_cons];omega
theorem yg(l r:List Int): ∀n,n≤r.length→((dH l n).map (vQ r)).sum=(r.take n).sum
 |0,_=>rfl
 |n+1,h=>by
  unfold dH;rw[MX,yg l r n (by omega),iF r (by omega)]
  unfold vQ;rw[Int.toNat_natCast]
theorem La(l r:List Int)(h:l.length=r.length):((gK l).map (vQ r)).sum=r.sum:=by
 unfold gK;rw[yg l r _ (by omega),List.take_of_length_le (by omega)]
theorem A3{o:List Int}{j:Nat}(h:j<o.length):o.getD j 0∈o:=by
 rw[List.getD_eq_getElem?_getD,List.getElem?_eq_getElem h];exact List.getElem_mem h
theorem Lb{l:List Int}{n j:Nat}(h:j<n):0≤(dH l n).getD j 0∧(dH l n).getD j 0<n:=by
 exact(o4 l).1 (A3 (by rw[o3];exact h))
theorem Dx(N:Nat)(K:List Int→List Int→Int→Option (List Int)){l:List Int}(hl:l.length≤100000)(i:Nat)(hi:i<l.length): ∀(m n p:Nat),i-p≤m→m<n→p≤i→(∀j,j<p→vQ l i≤vQ l ((dH l i).getD j 0))→
  dF.l6 N K n l (dH l i) (i:Int) (p:Int)=K l (dH l (i+1)) ((i+1:Nat):Int)
 |m,0,p,_,hn,_,_=>by omega
 |m,n+1,p,hm,hn,hp,h=>by
  have hlen:=o3 l i
  have fin: ∀h2:(p<i→vQ l ((dH l i).getD p 0)<vQ l i),dF.j8 N K l (dH l i) (i:Int) (p:Int)=K l (dH l (i+1)) ((i+1:Nat):Int):=fun h2=>by
   have e:=Rn l (dH l i) i p (by omega) h (fun h3=>h2 (by omega))
   unfold dF.j8 dF.Te
   dsimp only
   rw[cE (by omega) (by omega) (by omega) (by omega),cond_true,Int.toNat_natCast,Int.toNat_natCast,Int.toNat_zero,List.drop_zero]
   rw[aZ (by rw[List.length_take];omega),cond_true,aZ (by rw[List.length_take];simp only[List.length_singleton];omega),cond_true,cE (by omega) (by omega) (by omega) (by omega),cond_true,aZ (by simp only[List.length_append,List.length_take,List.length_drop,List.length_singleton];omega),cond_true,al (by omega) (by omega),List.take_length,List.append_assoc,List.singleton_append,←e]
   rfl
  unfold dF.l6 dF.pJ
  by_cases hpi:p<i
  ·have hr:=Lb (l:=l) (n:=i) (j:=p) hpi
   rw[aD (by omega),cond_true,aF (by omega) (by omega),cond_true,Int.toNat_natCast,Int.toNat_natCast,aF (by omega) (by omega),cond_true,aF (by omega) (by omega),cond_true]
   by_cases h3:l.getD i 0≤l.getD ((dH l i).getD p 0).toNat 0
   ·rw[cS h3,cond_true,al (by omega) (by omega)]
    refine Dx N K hl i hi (m-1) n (p+1) (by omega) (by omega) (by omega) (fun j hj=> ?_)
    by_cases hjp:j=p
    ·rw[hjp];unfold vQ;rw[Int.toNat_natCast];exact h3
    ·exact h j (by omega)
   ·rw[cL (by omega),cond_false]
    exact fin (fun _=>by unfold vQ;rw[Int.toNat_natCast];omega)
  ·rw[ax (by omega),cond_false]
   exact fin (fun h=>absurd h hpi)
theorem A4(N:Nat){l:List Int}(hl:l.length≤100000)(hN:l.length<N): ∀(m n i:Nat),l.length-i≤m→m<n→i≤l.length→
  dF.l3 N n l (dH l i) (i:Int)=some (gK l)
 |m,0,i,_,hn,_=>by omega
 |m,n+1,i,hm,hn,hi=>by
  unfold dF.l3 dF.jP
  by_cases h:i<l.length
  ·have:=Dx N (dF.l3 N n) hl i h i N 0 (by omega) (by omega) (by omega) (fun j hj=>by omega)
   rw[aD (by omega),cond_true]
   refine Eq.trans this ?_
   exact A4 N hl hN (m-1) n (i+1) (by omega) (by omega) (by omega)
  ·rw[ax (by omega),cond_false,show i=l.length by omega];rfl
theorem OF(N:Nat){l:List Int}(hl:l.length≤100000)(hN:l.length<N):dF N l=some (gK l):=by
 unfold dF dF.b
 exact A4 N hl hN l.length N 0 (by omega) (by omega) (by omega)
end VM
end
section
namespace VM
open Go VM.F
def E8(l:List Int):Prop:= ∀x∈l,-9223372036854775808≤x∧x<9223372036854775808
def Pos(l:List Int):Prop:= ∀x∈l,0≤x
def may(w:List Int):Bool:=decide (w.length≤64)&&w.all (fun x=>decide (0≤x))
theorem lA{w:List Int}:may w=true↔w.length≤64∧Pos w:=by
 unfold may Pos;rw[Bool.and_eq_true,decide_eq_true_iff,List.all_eq_true]
 simp only[decide_eq_true_iff]
theorem A5(N:Nat){l:List Int}(hl:l.length≤1000000): ∀(m n i:Nat),l.length-i≤m→m<n→i≤l.length→ ∃r,mF.l4 N n l (i:Int)=some r∧(r=true↔ ∃x∈l.drop i,x<0)
 |m,0,i,_,hn,_=>by omega
 |m,n+1,i,hm,hn,hi=>by
  unfold mF.l4 mF.cA
  by_cases h:i<l.length
  ·have hd:l.drop i=l.getD i 0::l.drop (i+1):=by
    rw[List.drop_eq_getElem_cons h,List.getD_eq_getElem?_getD,List.getElem?_eq_getElem h];rfl
   rw[aD (by omega),cond_true,aF (by omega) (by omega),cond_true,Int.toNat_natCast,hd]
   by_cases hx:l.getD i 0<0
   ·rw[aD hx,cond_true]
    exact⟨_,rfl,fun _=>⟨_,List.mem_cons_self ..,hx⟩,fun _=>rfl⟩
   ·rw[ax (by omega),cond_false,al (by omega) (by omega)]
    obtain⟨r,e,h1⟩:=A5 N hl (m-1) n (i+1) (by omega) (by omega) (by omega)
    refine⟨r,e,h1.trans ⟨fun⟨x,QH,hx2⟩=>⟨x,List.mem_cons_of_mem _ QH,hx2⟩,fun⟨x,QH,hx2⟩=> ?_⟩⟩
    rcases List.mem_cons.1 QH with rfl|QH
    ·exact absurd hx2 hx
    ·exact⟨x,QH,hx2⟩
  ·rw[ax (by omega),cond_false,List.drop_eq_nil_of_le (by omega)]
   exact⟨_,rfl,(fun h=>nomatch h),fun⟨x,hx,_⟩=>nomatch hx⟩
theorem A6(N:Nat){w:List Int}(hN:100≤N)(t:Int):mF N t w=some (decide (t<0)|| !may w):=by
 unfold mF mF.b
 by_cases ht:t<0
 ·rw[aD ht,cond_true,decide_eq_true ht];rfl
 rw[ax (by omega),cond_false,decide_eq_false ht,Bool.false_or]
 by_cases h:w.length≤64
 ·rw[ax (by omega),cond_false]
  obtain⟨r,e,hr⟩:=A5 N (l:=w) (by omega) w.length N 0 (by omega) (by omega) (by omega)
  rw[List.drop_zero]at hr
  rw[show((0:Nat):Int)=0 from rfl]at e
  rw[e]
  congr 1
  rw[Bool.eq_iff_iff,hr,Bool.not_eq_true',Bool.eq_false_iff,Ne,lA]
  constructor
  ·rintro⟨x,hx,Qd⟩ h;have:=h.2 x hx;omega
  ·intro h1
   by_cases h2: ∃x∈w,x<0
   ·exact h2
   ·exact absurd ⟨h,fun x hx=>by
     by_cases Qd:x<0
     ·exact absurd ⟨x,hx,Qd⟩ h2
     ·omega⟩ h1
 ·rw[aD (by omega),cond_true]
  have:may w=false:=by
   rw[Bool.eq_false_iff];intro hm;exact h (lA.1 hm).1
  rw[this];rfl
def bump(q:List Int):List Int→List Int
 |[]=>q
 |k::t=>bump (q.set k.toNat (q.getD k.toNat 0+1)) t
def ox(t S:Int)(w:List Int):List Int:=w.map fun x=>t*x/S
def ir(t S:Int)(w:List Int):List Int:=w.map fun x=>t*x%S
def bl(t:Int)(w:List Int):List Int:=
 bump (ox t w.sum w) ((gK (ir t w.sum w)).take (t-(ox t w.sum w).sum).toNat)
def nS(t:Int)(w:List Int):List Int×Int:=
 if t<0∨may w=false then([],1)else if 9223372036854775808≤w.sum then([],2)
 else if w.sum=0 then(if t=0 then(List.replicate w.length 0,0)else([],1))else(bl t w,0)
theorem HM: ∀(ks q:List Int),(bump q ks).length=q.length
 |[],q=>rfl
 |k::t,q=>by unfold bump;rw[HM t];simp
theorem E9: ∀(q:List Int) (k:Nat) (x:Int),k<q.length→(q.set k x).sum=q.sum-q.getD k 0+x
 |[],k,x,h=>absurd h (by simp)
 |a::q,0,x,h=>by simp;omega
 |a::q,k+1,x,h=>by
  have:=E9 q k x (by simpa using h)
  simp[this];omega
theorem gq: ∀{q:List Int},Pos q→0≤q.sum
 |[],_=>by simp
 |a::q,h=>by
  have:=gq (q:=q) (fun x hx=>h x (List.mem_cons_of_mem _ hx))
  have:=h a (List.mem_cons_self ..)
  rw[List.sum_cons];omega
theorem uy: ∀{q:List Int},Pos q→ ∀i,q.getD i 0≤q.sum
 |[],_,i=>by simp
 |a::q,h,0=>by
  have:=gq (q:=q) (fun x hx=>h x (List.mem_cons_of_mem _ hx))
  rw[List.sum_cons];simp;omega
 |a::q,h,i+1=>by
  have:=uy (q:=q) (fun x hx=>h x (List.mem_cons_of_mem _ hx)) i
  have:=h a (List.mem_cons_self ..)
  rw[List.sum_cons];simp;simp at*;omega
theorem fv{q:List Int}(h:Pos q)(i:Nat):0≤q.getD i 0:=by
 by_cases hi:i<q.length
 ·exact h _ (A3 hi)
 ·rw[qm q (by omega)];omega
theorem UL{q:List Int}(h:Pos q){x:Int}(hx:0≤x)(k:Nat):Pos (q.set k x):=fun y hy=>by
 rcases List.mem_or_eq_of_mem_set hy with hy|rfl
 ·exact h y hy
 ·exact hx
theorem HN{q:List Int}(h:Pos q)(n:Nat):Pos (q.take n):=fun x hx=>h x (List.mem_of_mem_take hx)
theorem HO: ∀(ks q:List Int),(∀k∈ks,0≤k∧k<q.length)→(bump q ks).sum=q.sum+ks.length
 |[],q,_=>by simp[bump]
 |k::t,q,h=>by
  have hk:=h k (List.mem_cons_self ..)
  unfold bump
  rw[HO t _ (fun x hx=>by rw[List.length_set];exact h x (List.mem_cons_of_mem _ hx)),E9 q _ _ (by omega),List.length_cons];omega
theorem sm(t S:Int)(w:List Int):(ox t S w).length=w.length:=by unfold ox;rw[List.length_map]
theorem lX(t S:Int)(w:List Int):(ir t S w).length=w.length:=by unfold ir;rw[List.length_map]
theorem MY{t S:Int}{w:List Int}(i:Nat):(ox t S w).getD i 0=t*w.getD i 0/S:=by
 unfold ox
 by_cases h:i<w.length
 ·rw[List.getD_eq_getElem?_getD,List.getElem?_map,List.getElem?_eq_getElem h,List.getD_eq_getElem?_getD,List.getElem?_eq_getElem h];rfl
 ·rw[qm _ (by rw[List.length_map];omega),qm w (by omega)];simp
theorem MZ{t S:Int}{w:List Int}(i:Nat):(ir t S w).getD i 0=t*w.getD i 0%S:=by
 unfold ir
 by_cases h:i<w.length
 ·rw[List.getD_eq_getElem?_getD,List.getElem?_map,List.getElem?_eq_getElem h,List.getD_eq_getElem?_getD,List.getElem?_eq_getElem h];rfl
 ·rw[qm _ (by rw[List.length_map];omega),qm w (by omega)];simp
theorem A7{t S:Int}{w:List Int}(ht:0≤t)(hS:0≤S)(hw:Pos w):Pos (ox t S w):=fun x hx=>by
 obtain⟨y,hy,rfl⟩:=List.mem_map.1 hx
 exact Int.ediv_nonneg (Int.mul_nonneg ht (hw y hy)) hS
theorem HQ{t S:Int}{w:List Int}(hS:0<S):Pos (ir t S w):=fun x hx=>by
 obtain⟨y,hy,rfl⟩:=List.mem_map.1 hx
 exact Int.emod_nonneg _ (by omega)
theorem Fa(t S:Int): ∀w:List Int,S*(ox t S w).sum+(ir t S w).sum=t*w.sum
 |[]=>by simp[ox,ir]
 |x::w=>by
  have h:=Fa t S w
  have e:=Int.mul_ediv_add_emod (t*x) S
  unfold ox ir at*
  simp only[List.map_cons,List.sum_cons,Int.mul_add]
  omega
theorem Ro{t S:Int}{w:List Int}(ht:0≤t)(hS:0<S)(h:w.sum≤S):(ox t S w).sum≤t:=by
 have e:=Fa t S w
 have h1:=gq (HQ (t:=t) (w:=w) hS)
 have h2:=Int.mul_le_mul_of_nonneg_left h ht
 have h3:S*(ox t S w).sum≤S*t:=by rw[Int.mul_comm S t];omega
 exact Int.le_of_mul_le_mul_left h3 hS
theorem yh{w:List Int}(h:Pos w)(i:Nat):(w.take i).sum≤w.sum:=by
 have e:w.take i++w.drop i=w:=List.take_append_drop i w
 have h1:(w.take i).sum+(w.drop i).sum=w.sum:=by rw[←List.sum_append,e]
 have:=gq (q:=w.drop i) (fun x hx=>h x (List.mem_of_mem_drop hx))
 omega
theorem Dy(t S:Int)(w:List Int)(i:Nat):(ox t S w).take i=ox t S (w.take i):=by unfold ox;rw[List.map_take]
theorem A8(N:Nat){ks:List Int}(hl:ks.length≤1000000)(L:Nat)(hk: ∀k∈ks,0≤k∧k<L): ∀(m n i left:Nat) (q:List Int),ks.length-i≤m→m<n→i≤ks.length→q.length=L→Pos q→left≤9223372036854775807→q.sum+left≤9223372036854775807→
  dM.um N n q (left:Int) ks (i:Int)=some (bump q ((ks.drop i).take left),0)
 |m,0,i,left,q,_,hn,_,_,_,_,_=>by omega
 |m,n+1,i,left,q,hm,hn,hi,hq,hp,hle,hs=>by
  unfold dM.um dM.th
  by_cases h:i<ks.length
  ·have hd:ks.drop i=ks.getD i 0::ks.drop (i+1):=by
    rw[List.drop_eq_getElem_cons h,List.getD_eq_getElem?_getD,List.getElem?_eq_getElem h];rfl
   have Ab:=hk _ (A3 h)
   rw[aD (by omega),cond_true]
   match left,hle,hs with
   |0,hle,hs=>rw[ax (by omega),cond_false,List.take_zero];rfl
   |left+1,hle,hs=>
    rw[aD (by omega),cond_true,aF (by omega) (by omega),cond_true,Int.toNat_natCast,aF (by omega) (by omega),cond_true,cond_true,hd]
    have h1:=uy hp (ks.getD i 0).toNat
    have h2:=fv hp (ks.getD i 0).toNat
    rw[al (x:=q.getD _ 0+1) (by omega) (by omega),al (x:=(i:Int)+1) (by omega) (by omega),al (by omega) (by omega),show((left+1:Nat):Int)-1=(left:Int)by omega]
    refine(A8 N hl L hk (m-1) n (i+1) left _ (by omega) (by omega) (by omega) (by rw[List.length_set];exact hq) (UL hp (by omega) _) (by omega) ?_).trans rfl
    rw[E9 q _ _ (by omega)];omega
  ·rw[ax (by omega),cond_false,List.drop_eq_nil_of_le (by omega),List.take_nil];rfl
theorem A9(l:List Int): ∀k∈gK l,0≤k∧k<l.length:=fun k hk=>(o4 l).1 hk
theorem take_set(l:List Int){i:Nat}(x:Int)(h:i<l.length):(l.set i x).take (i+1)=l.take i++[x]:=by
 rw[eZ (l.set i x) (by rw[List.length_set];exact h),jo l x h,List.take_set_of_le (by omega)]
theorem Fb{v:Int}(h0: -9223372036854775808≤v)(h1:v<9223372036854775808):yR v=(v,true):=by unfold yR;rw[if_pos ⟨h0,h1⟩]
end VM
end
section
namespace VM
open Go VM.F
theorem lY{a b:List Int}(hl:a.length=b.length)(h: ∀i,i<a.length→a.getD i 0=b.getD i 0):a=b:=by
 refine List.ext_getElem hl (fun i h1 h2=> ?_)
 have:=h i h1
 rwa [List.getD_eq_getElem?_getD,List.getElem?_eq_getElem h1,List.getD_eq_getElem?_getD,List.getElem?_eq_getElem h2]at this
theorem M4: ∀(ks q:List Int) (i:Nat),ks.Nodup→(∀k∈ks,0≤k∧k<q.length)→(bump q ks).getD i 0=q.getD i 0+(if(i:Int)∈ks then 1 else 0)
 |[],q,i,_,_=>by simp[bump]
 |k::t,q,i,hn,h=>by
  have hk:=h k (List.mem_cons_self ..)
  rw[List.nodup_cons]at hn
  unfold bump
  rw[M4 t _ i hn.2 (fun x hx=>by rw[List.length_set];exact h x (List.mem_cons_of_mem _ hx))]
  by_cases hik:(i:Int)=k
  ·rw[if_neg (by rw[hik];exact hn.1),if_pos (by rw[hik];exact List.mem_cons_self ..),←hik,Int.toNat_natCast,jo q _ (by omega)];omega
  ·rw[getD_set_ne q _ (by omega)]
   by_cases ht:(i:Int)∈t
   ·rw[if_pos ht,if_pos (List.mem_cons_of_mem _ ht)]
   ·rw[if_neg ht,if_neg (fun hc=>by rcases List.mem_cons.1 hc with hc|hc;exact hik hc;exact ht hc)]
theorem HR(l:List Int):(gK l).Nodup:=(k7 l l.length).imp (fun{a b} h he=>by unfold tL at h;rw[he]at h;omega)
theorem M5(t S:Int)(hS:0<S): ∀u:List Int,(ir t S u).sum≤u.length*S
 |[]=>by simp[ir]
 |x::u=>by
  have ih:=M5 t S hS u
  have:=Int.emod_lt_of_pos (t*x) hS
  unfold ir at*
  rw[List.map_cons,List.sum_cons,List.length_cons,Int.natCast_add,Int.add_mul];simp;omega
def jx(t:Int)(w:List Int):Int:=t-(ox t w.sum w).sum
theorem left_eq(t:Int)(w:List Int):w.sum*jx t w=(ir t w.sum w).sum:=by
 have:=Fa t w.sum w
 unfold jx;rw[Int.mul_sub,Int.mul_comm w.sum t];omega
theorem Ba{t:Int}{w:List Int}(ht:0≤t)(hS:0<w.sum):0≤jx t w:=by
 have:=Ro ht hS (Int.le_refl _);unfold jx;omega
theorem M6{t:Int}{w:List Int}(hS:0<w.sum):jx t w≤w.length:=by
 have h1:=left_eq t w
 have h2:=M5 t w.sum hS w
 rw[←h1,Int.mul_comm (w.length:Int)]at h2
 exact Int.le_of_mul_le_mul_left h2 hS
theorem k8(t:Int)(w:List Int):(bl t w).length=w.length:=by unfold bl;rw[HM,sm]
theorem qI{t:Int}{w:List Int}(ht:0≤t)(hS:0<w.sum):(bl t w).sum=t:=by
 unfold bl
 have h1:=Ba ht hS
 have h2:=M6 (t:=t) hS
 unfold jx at*
 rw[HO _ _ (fun k hk=>by have:=A9 _ k (List.mem_of_mem_take hk);rw[lX]at this;rwa [sm]),List.length_take,ux,lX]
 omega
theorem uz{f:Int→Int}{c:Int}: ∀{o:List Int},(∀x∈o,f x≤c)→(o.map f).sum≤o.length*c
 |[],_=>by simp
 |x::o,h=>by
  have ih:=uz (f:=f) (c:=c) (o:=o) (fun y hy=>h y (List.mem_cons_of_mem _ hy))
  have:=h x (List.mem_cons_self ..)
  rw[List.map_cons,List.sum_cons,List.length_cons,Int.natCast_add,Int.add_mul];simp;omega
theorem Lc{l o:List Int}(h:o.Pairwise (tL l)){m:Nat}{x y:Int}(hx:x∈o.take m)(hy:y∈o.drop m):tL l x y:=by
 rw[←List.take_append_drop m o,List.pairwise_append]at h
 exact h.2.2 x hx y hy
theorem OG{t:Int}{w:List Int}(ht:0≤t)(hS:0<w.sum){i:Int}(hi:i∈(gK (ir t w.sum w)).take (jx t w).toNat):0<vQ (ir t w.sum w) i:=by
 have Ko: ∀k:Int,0≤vQ (ir t w.sum w) k:=fun k=>fv (HQ hS) _
 have dD: ∀k:Int,vQ (ir t w.sum w) k≤w.sum-1:=fun k=>by
  unfold vQ;rw[MZ]
  have:=Int.emod_lt_of_pos (t*w.getD k.toNat 0) hS;omega
 have h0:=Ko i
 rcases Int.lt_or_le 0 (vQ (ir t w.sum w) i)with h|h
 ·exact h
 exfalso
 have KS:=La (ir t w.sum w) (ir t w.sum w) rfl
 rw[←left_eq]at KS
 have anZ:=List.take_append_drop (jx t w).toNat (gK (ir t w.sum w))
 rw[←anZ,List.map_append,List.sum_append]at KS
 have hd:(((gK (ir t w.sum w)).drop (jx t w).toNat).map (vQ (ir t w.sum w))).sum≤((gK (ir t w.sum w)).drop (jx t w).toNat).length*0:=uz (fun y hy=>by
  have:=Lc (k7 _ _) hi hy
  unfold tL at this;omega)
 have htk:(((gK (ir t w.sum w)).take (jx t w).toNat).map (vQ (ir t w.sum w))).sum≤((gK (ir t w.sum w)).take (jx t w).toNat).length*(w.sum-1):=uz (fun y _=>dD y)
 have h1:=Ba ht hS
 have h2:=M6 (t:=t) hS
 rw[List.length_take,ux,lX,Nat.min_eq_left (by omega),Int.mul_sub]at htk
 rw[Int.mul_zero]at hd
 have h3:(((jx t w).toNat:Nat):Int)=jx t w:=by omega
 have h4:0<(jx t w).toNat:=by
  rcases Nat.eq_zero_or_pos (jx t w).toNat with h|h
  ·rw[h,List.take_zero]at hi;nomatch hi
  ·exact h
 rw[h3,Int.mul_comm (jx t w)]at htk
 omega
def extra(t:Int)(w:List Int)(i:Nat):Int:=if(i:Int)∈(gK (ir t w.sum w)).take (jx t w).toNat then 1 else 0
theorem Dz(t:Int)(w:List Int)(i:Nat):(bl t w).getD i 0=t*w.getD i 0/w.sum+extra t w i:=by
 unfold bl
 rw[M4 _ _ i ((HR _).sublist (List.take_sublist ..)) (fun k hk=>by have:=A9 _ k (List.mem_of_mem_take hk);rw[lX]at this;rwa [sm]),MY]
 rfl
theorem DA(t:Int)(w:List Int)(i:Nat):extra t w i=0∨extra t w i=1:=by unfold extra;split<;>omega
theorem OH{t:Int}{w:List Int}(ht:0≤t)(hS:0<w.sum){i:Nat}(h:extra t w i=1):0<t*w.getD i 0%w.sum:=by
 unfold extra at h
 by_cases hi:(i:Int)∈(gK (ir t w.sum w)).take (jx t w).toNat
 ·have:=OG ht hS hi
  unfold vQ at this;rwa [MZ,Int.toNat_natCast]at this
 ·rw[if_neg hi]at h;omega
theorem qJ{t:Int}{w:List Int}(ht:0≤t)(hS:0<w.sum)(hw:Pos w):Pos (bl t w):=fun x hx=>by
 obtain⟨i,hi,rfl⟩:=List.mem_iff_getElem.1 hx
 have:=Dz t w i
 rw[List.getD_eq_getElem?_getD,List.getElem?_eq_getElem hi]at this
 have h1:=DA t w i
 have h2:0≤t*w.getD i 0/w.sum:=Int.ediv_nonneg (Int.mul_nonneg ht (fv hw i)) (by omega)
 simp only[Option.getD_some]at this
 omega
theorem yi{t:Int}{w:List Int}(ht:0≤t)(hS:0<w.sum){i:Nat}(h:w.getD i 0=0):(bl t w).getD i 0=0:=by
 rw[Dz,h]
 rcases DA t w i with h1|h1
 ·rw[h1];simp
 ·have:=OH ht hS h1
  rw[h]at this;simp at this
end VM
end
section
namespace VM
open Go VM.F
theorem yj(N:Nat)(hN:5000000≤N){t:Int}{w:List Int}(ht:0≤t)(rp:t<9223372036854775808)(hw:w.length≤64)(hp:Pos w)(hS:0<w.sum)(hS1:w.sum<9223372036854775808):
  ∀(m n i:Nat) (q r:List Int),w.length-i≤m→m<n→i≤w.length→q.length=w.length→r.length=w.length→q.take i=ox t w.sum (w.take i)→r.take i=ir t w.sum (w.take i)→
  dM.F2 N n t w (bn w.sum) q r (t-(ox t w.sum (w.take i)).sum) (i:Int)=some (bl t w,0)
 |m,0,i,q,r,_,hn,_,_,_,_,_=>by omega
 |m,n+1,i,q,r,hm,hn,hi,hq,hr,eq,er=>by
  unfold dM.F2 dM.Cy
  by_cases h:i<w.length
  ·have hwi:=fv hp i
   have an0:=uy hp i
   have hb:=mul_lt ht hwi (show t≤9223372036854775807 by omega) (show w.getD i 0≤9223372036854775807 by omega)
   have hqi:t*w.getD i 0/w.sum≤t:=Int.ediv_le_of_le_mul hS (Int.mul_le_mul_of_nonneg_left an0 ht)
   have avO:0≤t*w.getD i 0/w.sum:=Int.ediv_nonneg hb.1 (by omega)
   have hri:=Int.emod_lt_of_pos (t*w.getD i 0) hS
   have avP:=Int.emod_nonneg (t*w.getD i 0) (show w.sum≠0 by omega)
   have hs0:=Ro ht hS (yh hp i)
   have Mi:=gq (A7 ht (by omega:0≤w.sum) (HN hp i))
   have ft:Fit t 2:=Fit.i64 (by omega) (by omega)
   have fw:Fit (w.getD i 0) 2:=Fit.i64 (by omega) (by omega)
   have fS:Fit w.sum 2:=Fit.i64 (by omega) (by omega)
   rw[aD (by omega),cond_true,cj N (by omega) (by omega) rp,Option.bind_some,aF (by omega) (by omega),cond_true,Int.toNat_natCast,cj N (by omega) (by omega) (by omega),Option.bind_some,
    lN N (by omega) (ft.mono (by omega)) (fw.mono (by omega)),Option.bind_some,EM N (by omega) hS ((ft.mul fw).mono (by omega)) (fS.mono (by omega)),Option.bind_some]
   dsimp only
   rw[nM,Option.bind_some,Fb (by omega) (by omega),nM,Fb (by omega) (by omega)]
   dsimp only
   rw[Option.bind_some,aF (by omega) (by omega),cond_true,aF (by omega) (by omega),cond_true,List.length_set,aF (by omega) (by omega),cond_true,jo q _ (by omega),al (x:=(i:Int)+1) (by omega) (by omega),al (by omega) (by omega)]
   have vx:=yj N hN ht rp hw hp hS hS1 (m-1) n (i+1) (q.set i (t*w.getD i 0/w.sum)) (r.set i (t*w.getD i 0%w.sum)) (by omega) (by omega) (by omega) (by rw[List.length_set];exact hq) (by rw[List.length_set];exact hr)
    (by rw[take_set q _ (by omega),eq,eZ w h];unfold ox;simp)
    (by rw[take_set r _ (by omega),er,eZ w h];unfold ir;simp)
   rw[←Dy,iF _ (by rw[sm];exact h),MY,Dy]at vx
   rw[Int.sub_sub]
   exact vx
  ·have lG:i=w.length:=by omega
   subst lG
   rw[List.take_of_length_le (by omega),List.take_of_length_le (by omega)]at eq er
   subst eq er
   rw[List.take_of_length_le (by omega)]
   have Mi:=gq (A7 ht (by omega:0≤w.sum) hp)
   have h1:=Ba ht hS
   unfold jx at h1
   rw[ax (by omega),cond_false,OF N (by rw[lX];omega) (by rw[lX];omega),Option.bind_some]
   have hlen:=ux (ir t w.sum w)
   rw[lX]at hlen
   have tA:=A8 N (ks:=gK (ir t w.sum w)) (by omega) w.length (fun k hk=>by have:=A9 _ k hk;rwa [lX]at this) 1000 N 0 (t-(ox t w.sum w).sum).toNat (ox t w.sum w) (by omega) (by omega) (by omega) (sm ..) (A7 ht (by omega) hp) (by omega) (by omega)
   rw[List.drop_zero,Int.toNat_of_nonneg h1]at tA
   exact tA
theorem w4(N:Nat)(hN:5000000≤N){t:Int}{w:List Int}(rp:t<9223372036854775808)(hw:E8 w)(hl:w.length≤1000000):dM N t w=some (nS t w):=by
 unfold dM dM.b nS
 rw[A6 N (by omega),Option.bind_some]
 by_cases h1:t<0
 ·rw[decide_eq_true h1,Bool.true_or,cond_true,if_pos (.inl h1)]
 rw[decide_eq_false h1,Bool.false_or]
 cases h2:may w
 ·rw[Bool.not_false,cond_true,if_pos (.inr rfl)]
 rw[Bool.not_true,cond_false,if_neg (by simp[h1]),ue N (by omega) hw hl,Option.bind_some,mW,Option.bind_some]
 obtain⟨Ld,hp⟩:=lA.1 h2
 have hS0:=gq hp
 have hj: ∀h: ¬9223372036854775808≤w.sum,dM.j6 N t w (bn w.sum)=if w.sum=0 then some (List.replicate w.length 0,0)else some (bl t w,0):=fun h=>by
  unfold dM.j6 dM.J0
  rw[nM,Option.bind_some,Fb (by omega) (by omega),Bool.not_true,cond_false,bG (by omega) (by omega) (by omega),cond_true,cond_true,mW,Option.bind_some,Int.toNat_natCast]
  by_cases h4:w.sum=0
  ·rw[if_pos h4,h4,show lL 0=0 from rfl,cM rfl,cond_true]
  ·rw[if_neg h4,cG (by unfold lL;repeat' split<;>omega),cond_false]
   have:=yj N hN (by omega) rp Ld hp (by omega) (by omega) w.length N 0 (List.replicate w.length 0) (List.replicate w.length 0) (by omega) (by omega) (by omega) (List.length_replicate ..) (List.length_replicate ..) rfl rfl
   rw[List.take_zero]at this
   simp only[ox,List.map_nil,List.sum_nil,Int.sub_zero]at this
   exact this
 by_cases h3:9223372036854775808≤w.sum
 ·rw[if_pos h3,cG (by unfold lL;repeat' split<;>omega),cond_false]
  unfold dM.j6 dM.J0
  rw[nM,Option.bind_some];unfold yR;rw[if_neg (by omega)];rfl
 rw[if_neg h3,hj h3]
 by_cases h4:w.sum=0
 ·rw[if_pos h4,if_pos h4,h4,show lL 0=0 from rfl,cM rfl,cond_true]
  by_cases h5:t=0
  ·rw[if_pos h5,cM h5,Bool.not_true,cond_false]
  ·rw[if_neg h5,cG h5,Bool.not_false,cond_true]
 ·rw[if_neg h4,if_neg h4,cG (by unfold lL;repeat' split<;>omega),cond_false]
def DB(t n:Int):List Int×Int:=if t<0∨n<1∨64<n then([],1)else nS t (List.replicate n.toNat 1)
theorem Rp(n:Nat):E8 (List.replicate n 1):=fun x hx=>by rw[List.eq_of_mem_replicate hx];omega
theorem DC(N:Nat)(hN:5000000≤N){t:Int}{k:Nat}(hk:k≤64)(rp:t<9223372036854775808): ∀(m n i:Nat),k-i≤m→m<n→i≤k→
  nT.l5 N n t (k:Int) (List.replicate i 1++List.replicate (k-i) 0) (i:Int)=some (nS t (List.replicate k 1))
 |m,0,i,_,hn,_=>by omega
 |m,n+1,i,hm,hn,hi=>by
  unfold nT.l5 nT.c5
  by_cases h:i<k
  ·rw[aD (by omega),cond_true,aF (by omega) (by simp;omega),cond_true,al (by omega) (by omega)]
   refine Eq.trans ?_ (DC N hN hk rp (m-1) n (i+1) (by omega) (by omega) (by omega))
   congr 1
   rw[Int.toNat_natCast,List.set_append_right _ _ (by simp),List.length_replicate,Nat.sub_self,show k-i=(k-(i+1))+1 by omega,List.replicate_succ,List.set_cons_zero,List.replicate_succ',List.append_assoc]
   rfl
  ·rw[ax (by omega),cond_false,show k-i=0 by omega,List.replicate_zero,List.append_nil,show i=k by omega,w4 N hN rp (Rp _) (by rw[List.length_replicate];omega)]
   rfl
theorem Rq(N:Nat)(hN:5000000≤N){t n:Int}(rp:t<9223372036854775808):nT N t n=some (DB t n):=by
 unfold nT nT.b DB
 by_cases h1:t<0
 ·rw[aD h1,cond_true,if_pos (.inl h1)]
 by_cases h2:n<1
 ·rw[ax (by omega),cond_false,aD h2,cond_true,if_pos (.inr (.inl h2))]
 by_cases h3:64<n
 ·rw[ax (by omega),cond_false,ax (by omega),cond_false,aD h3,cond_true,if_pos (.inr (.inr h3))]
 rw[ax (by omega),cond_false,ax (by omega),cond_false,ax (by omega),cond_false,if_neg (by omega),bG (by omega) (by omega) (by omega),cond_true]
 have:=DC N hN (t:=t) (k:=n.toNat) (by omega) rp n.toNat N 0 (by omega) (by omega) (by omega)
 rw[List.replicate_zero,List.nil_append,Nat.sub_zero,Int.toNat_of_nonneg (by omega)]at this
 exact this
end VM
end
section
namespace VM
open Go VM.F
def Bb(n:Nat)(f:Nat→Int):List Int:=(List.range n).map f
theorem eH(n:Nat)(f:Nat→Int):(Bb n f).length=n:=by unfold Bb;rw[List.length_map,List.length_range]
theorem eA{n:Nat}{f:Nat→Int}{i:Nat}(h:i<n):(Bb n f).getD i 0=f i:=by
 unfold Bb
 rw[List.getD_eq_getElem?_getD,List.getElem?_map,List.getElem?_range h];rfl
theorem Fc(n:Nat)(f:Nat→Int)(i:Nat):(Bb n f).getD i 0=if i<n then f i else 0:=by
 by_cases h:i<n
 ·rw[if_pos h,eA h]
 ·rw[if_neg h,qm _ (by rw[eH];omega)]
theorem UM{n:Nat}{f:Nat→Int}(h: ∀i,i<n→0≤f i):Pos (Bb n f):=fun x hx=>by
 obtain⟨i,hi,rfl⟩:=List.mem_map.1 hx
 exact h i (List.mem_range.1 hi)
theorem o5{l:List Int}(h: ∀i,i<l.length→0≤l.getD i 0):Pos l:=fun x hx=>by
 obtain⟨i,hi,rfl⟩:=List.mem_iff_getElem.1 hx
 have:=h i hi
 rwa [List.getD_eq_getElem?_getD,List.getElem?_eq_getElem hi]at this
theorem w5: ∀{a b:List Int},a.length=b.length→(∀i,i<a.length→a.getD i 0≤b.getD i 0)→a.sum≤b.sum
 |[],[],_,_=>Int.le_refl _
 |[],_::_,h,_=>nomatch h
 |_::_,[],h,_=>nomatch h
 |x::a,y::b,h,h1=>by
  have:=w5 (a:=a) (b:=b) (by simpa using h) (fun i hi=>by have:=h1 (i+1) (by simpa using hi);simpa using this)
  have h2:x≤y:=by have:=h1 0 (by simp);simpa using this
  rw[List.sum_cons,List.sum_cons];omega
theorem Bc: ∀{a b c:List Int},a.length=b.length→a.length=c.length→(∀i,i<a.length→a.getD i 0=b.getD i 0+c.getD i 0)→a.sum=b.sum+c.sum
 |[],[],[],_,_,_=>rfl
 |[],_::_,_,h,_,_=>nomatch h
 |[],[],_::_,_,h,_=>nomatch h
 |_::_,[],_,h,_,_=>nomatch h
 |_::_,_::_,[],_,h,_=>nomatch h
 |x::a,y::b,z::c,h,h',h1=>by
  have:=Bc (a:=a) (b:=b) (c:=c) (by simpa using h) (by simpa using h') (fun i hi=>by have:=h1 (i+1) (by simpa using hi);simpa using this)
  have h2:x=y+z:=by have:=h1 0 (by simp);simpa using this
  rw[List.sum_cons,List.sum_cons,List.sum_cons];omega
theorem so: ∀{a:List Int},(∀i,i<a.length→a.getD i 0=0)→a.sum=0
 |[],_=>rfl
 |x::a,h=>by
  have:=so (a:=a) (fun i hi=>by have:=h (i+1) (by simpa using hi);simpa using this)
  have h2:x=0:=by have:=h 0 (by simp);simpa using this
  rw[List.sum_cons];omega
def bQ(w caps out:List Int):List Int:=Bb w.length fun i=>if out.getD i 0<caps.getD i 0 then w.getD i 0 else 0
def dA(parts caps out:List Int):List Int:=Bb out.length fun i=>min (parts.getD i 0) (caps.getD i 0-out.getD i 0)
def sq(out g:List Int):List Int:=Bb out.length fun i=>out.getD i 0+g.getD i 0
def qK(w caps:List Int):Nat→List Int→Int→List Int×Int
 |0,out,left=>(out,left)
 |f+1,out,left=>if left=0∨(bQ w caps out).sum=0 then(out,left)else
  qK w caps f (sq out (dA (bl left (bQ w caps out)) caps out)) (left-(dA (bl left (bQ w caps out)) caps out).sum)
structure M7(t:Int)(w caps out:List Int)(left:Int):Prop where
 n:w.length≤64
 l1:caps.length=w.length
 l2:out.length=w.length
 pw:Pos w
 sw:w.sum<9223372036854775808
 pc: ∀i,0≤caps.getD i 0∧caps.getD i 0<9223372036854775808
 po: ∀i,0≤out.getD i 0
 le: ∀i,i<w.length→out.getD i 0≤caps.getD i 0
 z: ∀i,w.getD i 0=0→out.getD i 0=0
 l:0≤left
 t1:t<9223372036854775808
 s:out.sum+left=t
theorem fx(w caps out:List Int):(bQ w caps out).length=w.length:=eH ..
theorem nU{w caps out:List Int}(h:Pos w):Pos (bQ w caps out):=UM (fun i _=>by split;exact fv h i;omega)
theorem HS{w caps out:List Int}(h:Pos w):(bQ w caps out).sum≤w.sum:=w5 (fx ..) (fun i hi=>by
 rw[fx]at hi
 unfold bQ;rw[eA hi];split
 ·omega
 ·exact fv h i)
theorem Rr{t left:Int}{w caps out:List Int}(c:M7 t w caps out left):E8 (bQ w caps out):=fun x hx=>by
 have h1:=nU (caps:=caps) (out:=out) c.pw
 have h2:=HS (caps:=caps) (out:=out) c.pw
 have h3:=h1 x hx
 obtain⟨i,hi,rfl⟩:=List.mem_iff_getElem.1 hx
 have h4:=uy h1 i
 rw[List.getD_eq_getElem?_getD,List.getElem?_eq_getElem hi]at h4
 simp only[Option.getD_some]at h4
 have:=c.sw
 omega
theorem HT{t left:Int}{w caps out:List Int}(c:M7 t w caps out left):left≤t:=by
 have:=gq (q:=out) (o5 (fun i _=>c.po i));have:=c.s;omega
theorem lB{t left:Int}{w caps out:List Int}(c:M7 t w caps out left)(hS:0<(bQ w caps out).sum)(i:Nat):
  0≤(dA (bl left (bQ w caps out)) caps out).getD i 0∧(dA (bl left (bQ w caps out)) caps out).getD i 0≤(bl left (bQ w caps out)).getD i 0∧(i<w.length→out.getD i 0+(dA (bl left (bQ w caps out)) caps out).getD i 0≤caps.getD i 0):=by
 have h0:=fv (qJ c.l hS (nU c.pw)) i
 unfold dA
 rw[Fc]
 have:=c.l2
 by_cases h:i<out.length
 ·rw[if_pos h]
  have:=c.le i (by omega)
  omega
 ·rw[if_neg h];exact⟨by omega,h0,fun h=>by omega⟩
theorem sr(parts caps out:List Int):(dA parts caps out).length=out.length:=eH ..
theorem Bd{t left:Int}{w caps out:List Int}(c:M7 t w caps out left)(hS:0<(bQ w caps out).sum):0≤(dA (bl left (bQ w caps out)) caps out).sum∧(dA (bl left (bQ w caps out)) caps out).sum≤left:=by
 constructor
 ·exact gq (o5 (fun i _=>(lB c hS i).1))
 ·have:=w5 (a:=dA (bl left (bQ w caps out)) caps out) (b:=bl left (bQ w caps out)) (by rw[sr,k8,fx,c.l2]) (fun i _=>(lB c hS i).2.1)
  rwa [qI c.l hS]at this
theorem HU{t left:Int}{w caps out:List Int}(c:M7 t w caps out left)(hS:0<(bQ w caps out).sum):M7 t w caps (sq out (dA (bl left (bQ w caps out)) caps out)) (left-(dA (bl left (bQ w caps out)) caps out).sum):=by
 have ll: ∀i,(sq out (dA (bl left (bQ w caps out)) caps out)).getD i 0=if i<out.length then out.getD i 0+(dA (bl left (bQ w caps out)) caps out).getD i 0 else 0:=fun i=>by unfold sq;rw[Fc]
 have gs:=Bd c hS
 refine⟨c.n,c.l1,?_,c.pw,c.sw,c.pc,fun i=> ?_,fun i hi=> ?_,fun i hi=> ?_,by omega,c.t1,?_⟩
 ·unfold sq;rw[eH,c.l2]
 ·rw[ll];have:=(lB c hS i).1;have:=c.po i;split<;>omega
 ·rw[ll,if_pos (by rw[c.l2];exact hi)];exact(lB c hS i).2.2 hi
 ·rw[ll]
  split
  ·have h1:(bQ w caps out).getD i 0=0:=by unfold bQ;rw[Fc,hi];split<;>(try split)<;>rfl
   have h2:=yi c.l hS h1
   have h3:=lB c hS i
   rw[c.z i hi];omega
  ·rfl
 ·have:=Bc (a:=sq out (dA (bl left (bQ w caps out)) caps out)) (b:=out) (c:=dA (bl left (bQ w caps out)) caps out) (by unfold sq;rw[eH]) (by unfold sq;rw[eH,sr]) (fun i hi=>by
   unfold sq at hi;rw[eH]at hi;rw[ll,if_pos hi])
  have:=c.s
  omega
def opens(w caps out:List Int):Nat:=(List.range w.length).countP fun i=>decide (0<w.getD i 0∧out.getD i 0<caps.getD i 0)
theorem DD{p q:Nat→Bool}: ∀{l:List Nat},(∀x∈l,q x=true→p x=true)→(∃x∈l,p x=true∧q x=false)→l.countP q<l.countP p
 |[],_,⟨x,hx,_⟩=>nomatch hx
 |y::l,h,⟨x,hx,h1,h2⟩=>by
  have hle:l.countP q≤l.countP p:=List.countP_mono_left (fun z hz=>h z (List.mem_cons_of_mem _ hz))
  rw[List.countP_cons,List.countP_cons]
  rcases List.mem_cons.1 hx with rfl|hx
  ·rw[h1,h2];simp;omega
  ·have:=DD (p:=p) (q:=q) (l:=l) (fun z hz=>h z (List.mem_cons_of_mem _ hz)) ⟨x,hx,h1,h2⟩
   have h3:=h y (List.mem_cons_self ..)
   cases hq:q y<;>cases hp:p y<;>simp<;>try omega
   rw[hq,hp]at h3;simp at h3
theorem DE{w caps out:List Int}(hw:Pos w)(h:(bQ w caps out).sum=0): ∀i,i<w.length→ ¬(0<w.getD i 0∧out.getD i 0<caps.getD i 0):=fun i hi ⟨h1,h2⟩=>by
 have:=uy (nU (caps:=caps) (out:=out) hw) i
 unfold bQ at this h
 rw[eA hi,if_pos h2,h]at this
 omega
theorem Fe{w caps out:List Int}(hw:Pos w)(h:(bQ w caps out).sum≠0): ∃i,i<w.length∧0<w.getD i 0∧out.getD i 0<caps.getD i 0:=by
 by_cases hx: ∃i,i<w.length∧0<w.getD i 0∧out.getD i 0<caps.getD i 0
 ·exact hx
 ·refine absurd (so (fun i hi=> ?_)) h
  rw[fx]at hi
  unfold bQ
  rw[eA hi]
  split
  ·rename_i h1
   have:=fv hw i
   by_cases h2:0<w.getD i 0
   ·exact absurd ⟨i,hi,h2,h1⟩ hx
   ·omega
  ·rfl
theorem OI{t left:Int}{w caps out:List Int}(c:M7 t w caps out left)(hS:0<(bQ w caps out).sum)(hl:left-(dA (bl left (bQ w caps out)) caps out).sum≠0):opens w caps (sq out (dA (bl left (bQ w caps out)) caps out))<opens w caps out:=by
 have ll: ∀i,i<w.length→(sq out (dA (bl left (bQ w caps out)) caps out)).getD i 0=out.getD i 0+(dA (bl left (bQ w caps out)) caps out).getD i 0:=fun i hi=>by unfold sq;rw[eA (by rw[c.l2];exact hi)]
 refine DD (fun i hi h=> ?_) ?_
 ·rw[List.mem_range]at hi
  rw[decide_eq_true_iff,ll i hi]at h
  rw[decide_eq_true_iff]
  have:=(lB c hS i).1
  omega
 ·by_cases hx: ∃i,i<w.length∧(0<w.getD i 0∧out.getD i 0<caps.getD i 0)∧caps.getD i 0≤out.getD i 0+(dA (bl left (bQ w caps out)) caps out).getD i 0
  ·obtain⟨i,h1,h2,h3⟩:=hx
   refine⟨i,List.mem_range.2 h1,decide_eq_true h2,decide_eq_false ?_⟩
   rw[ll i h1];omega
  ·exfalso
   have h1:bl left (bQ w caps out)=dA (bl left (bQ w caps out)) caps out:=by
    refine lY (by rw[sr,k8,fx,c.l2]) (fun i hi=> ?_)
    rw[k8,fx]at hi
    have h2:=lB c hS i
    have h3:=fv (qJ c.l hS (nU (caps:=caps) (out:=out) c.pw)) i
    by_cases h4:0<w.getD i 0∧out.getD i 0<caps.getD i 0
    ·have h5: ¬caps.getD i 0≤out.getD i 0+(dA (bl left (bQ w caps out)) caps out).getD i 0:=fun h=>hx ⟨i,hi,h4,h⟩
     have h6:(dA (bl left (bQ w caps out)) caps out).getD i 0=min ((bl left (bQ w caps out)).getD i 0) (caps.getD i 0-out.getD i 0):=eA (by rw[c.l2];exact hi)
     omega
    ·have h7:(bQ w caps out).getD i 0=0:=by
      unfold bQ;rw[eA hi]
      have:=fv c.pw i
      split<;>omega
     have:=yi c.l hS h7
     omega
   rw[←h1,qI c.l hS]at hl
   omega
theorem Rs(w caps out:List Int):opens w caps out≤w.length:=by
 unfold opens
 have:=List.countP_le_length (p:=fun i=>decide (0<w.getD i 0∧out.getD i 0<caps.getD i 0)) (l:=List.range w.length)
 rwa [List.length_range]at this
structure Full(t:Int)(w caps out:List Int)(left:Int):Prop where
 c:M7 t w caps out left
 f:left=0∨ ∀i,i<w.length→ ¬(0<w.getD i 0∧out.getD i 0<caps.getD i 0)
theorem HV{t:Int}{w caps:List Int}: ∀(f:Nat) (out:List Int) (left:Int),M7 t w caps out left→(opens w caps out<f∨left=0)→Full t w caps (qK w caps f out left).1 (qK w caps f out left).2
 |0,out,left,c,h=>⟨c,.inl (show left=0 by omega)⟩
 |f+1,out,left,c,h=>by
  unfold qK
  have hS:=gq (nU (caps:=caps) (out:=out) c.pw)
  split
  ·rename_i h1
   exact⟨c,h1.imp id (DE c.pw)⟩
  ·rename_i h1
   refine HV f _ _ (HU c (by omega)) ?_
   by_cases h2:left-(dA (bl left (bQ w caps out)) caps out).sum=0
   ·exact .inr h2
   ·have:=OI c (by omega) h2
    exact .inl (by omega)
def w6(out g:List Int)(i:Nat):List Int:=Bb out.length fun j=>if j<i then out.getD j 0+g.getD j 0 else out.getD j 0
theorem mid_zero(out g:List Int):w6 out g 0=out:=lY (eH ..) (fun i hi=>by unfold w6 at*;rw[eH]at hi;rw[eA hi,if_neg (by omega)])
theorem UN(out g:List Int){n:Nat}(h:out.length≤n):w6 out g n=sq out g:=lY (by unfold w6 sq;rw[eH,eH]) (fun i hi=>by unfold w6 sq at*;rw[eH]at hi;rw[eA hi,eA hi,if_pos (by omega)])
theorem vS(out g:List Int)(i:Nat):(w6 out g i).length=out.length:=eH ..
theorem acf{out g:List Int}{i:Nat}(h:i<out.length):(w6 out g i).getD i 0=out.getD i 0:=by unfold w6;rw[eA h,if_neg (by omega)]
theorem UO{out g:List Int}{i:Nat}(h:i<out.length):(w6 out g i).set i (out.getD i 0+g.getD i 0)=w6 out g (i+1):=lY (by rw[List.length_set,vS,vS]) (fun j hj=>by
 rw[List.length_set,vS]at hj
 by_cases tZ:i=j
 ·subst tZ
  rw[jo _ _ (by rw[vS];exact h)];unfold w6;rw[eA h,if_pos (by omega)]
 ·rw[getD_set_ne _ _ tZ];unfold w6;rw[eA hj,eA hj]
  by_cases h1:j<i
  ·rw[if_pos h1,if_pos (by omega)]
  ·rw[if_neg h1,if_neg (by omega)])
def o6(s:List Int)(i:Nat):List Int:=Bb s.length fun j=>if j<i then s.getD j 0 else 0
theorem OJ(s:List Int):o6 s 0=List.replicate s.length 0:=lY (by unfold o6;rw[eH,List.length_replicate]) (fun i hi=>by
 unfold o6 at*;rw[eH]at hi;rw[eA hi,if_neg (by omega),List.getD_eq_getElem?_getD,List.getElem?_replicate,if_pos hi];rfl)
theorem Rt(s:List Int):o6 s s.length=s:=lY (eH ..) (fun i hi=>by unfold o6 at*;rw[eH]at hi;rw[eA hi,if_pos hi])
theorem lZ(s:List Int)(i:Nat):(o6 s i).length=s.length:=eH ..
theorem Ru{s:List Int}{i:Nat}(h:i<s.length):(o6 s i).set i (s.getD i 0)=o6 s (i+1):=lY (by rw[List.length_set,lZ,lZ]) (fun j hj=>by
 rw[List.length_set,lZ]at hj
 by_cases tZ:i=j
 ·subst tZ
  rw[jo _ _ (by rw[lZ];exact h)];unfold o6;rw[eA h,if_pos (by omega)]
 ·rw[getD_set_ne _ _ tZ];unfold o6;rw[eA hj,eA hj]
  by_cases h1:j<i
  ·rw[if_pos h1,if_pos (by omega)]
  ·rw[if_neg h1,if_neg (by omega)])
theorem DF{s:List Int}{i:Nat}(h:s.getD i 0=0):o6 s i=o6 s (i+1):=lY (by rw[lZ,lZ]) (fun j hj=>by
 rw[lZ]at hj
 unfold o6;rw[eA hj,eA hj]
 by_cases h1:j<i
 ·rw[if_pos h1,if_pos (by omega)]
 ·rw[if_neg h1]
  by_cases h2:j=i
  ·subst h2;rw[if_pos (by omega),h]
  ·rw[if_neg (by omega)])
theorem acg(x y:Int):mn x y=min x y:=by rw[ZQ];split<;>omega
theorem OK{t left:Int}{w caps out:List Int}(c:M7 t w caps out left)(hS:0<(bQ w caps out).sum)(i:Nat):0≤((dA (bl left (bQ w caps out)) caps out).take i).sum∧((dA (bl left (bQ w caps out)) caps out).take i).sum≤left:=by
 have h:=o5 (l:=dA (bl left (bQ w caps out)) caps out) (fun i _=>(lB c hS i).1)
 have:=yh h i
 have:=Bd c hS
 exact⟨gq (HN h i),by omega⟩
theorem Be(N:Nat)(K:List Int→List Int→List Int→Int→Int→Option (List Int×Int×Int)){t left:Int}{w caps out:List Int}(c:M7 t w caps out left)(hS:0<(bQ w caps out).sum)(rd:Int): ∀(m n i:Nat),w.length-i≤m→m<n→i≤w.length→
  dg.Ou N K n w caps (w6 out (dA (bl left (bQ w caps out)) caps out) i) (left-((dA (bl left (bQ w caps out)) caps out).take i).sum) rd (bl left (bQ w caps out)) (i:Int)=
  K w caps (sq out (dA (bl left (bQ w caps out)) caps out)) (left-(dA (bl left (bQ w caps out)) caps out).sum) (W .i64 (rd+1))
 |m,0,i,_,hn,_=>by omega
 |m,n+1,i,hm,hn,hi=>by
  have n64:=c.n
  have e1:=c.l1
  have e2:=c.l2
  unfold dg.Ou dg.KW
  by_cases h:i<w.length
  ·have hc:=c.pc i
   have ho:=c.po i
   have hle:=c.le i h
   have hg:=lB c hS i
   have h6:(dA (bl left (bQ w caps out)) caps out).getD i 0=min ((bl left (bQ w caps out)).getD i 0) (caps.getD i 0-out.getD i 0):=eA (by rw[c.l2];exact h)
   have ht:=OK c hS i
   have hl:=HT c
   have rp:=c.t1
   have hgl:(dA (bl left (bQ w caps out)) caps out).getD i 0≤left:=by
    have:=uy (o5 (l:=dA (bl left (bQ w caps out)) caps out) (fun i _=>(lB c hS i).1)) i
    have:=Bd c hS
    omega
   dsimp only
   rw[aD (by omega),cond_true,aF (by omega) (by rw[k8,fx];omega),cond_true,aF (by omega) (by omega),cond_true,aF (by omega) (by rw[vS];omega),cond_true,cond_true,Int.toNat_natCast,acf (by omega),al (x:=caps.getD i 0-out.getD i 0) (by omega) (by omega),acg,←h6,
    al (x:=(i:Int)+1) (by omega) (by omega),al (x:=out.getD i 0+_) (by omega) (by omega),al (x:=left-_-_) (by omega) (by omega),UO (by omega)]
   have:=Be N K c hS rd (m-1) n (i+1) (by omega) (by omega) (by omega)
   rw[iF _ (by rw[sr];omega),←Int.sub_sub]at this
   exact this
  ·rw[ax (by omega),cond_false,UN _ _ (by omega),List.take_of_length_le (by rw[sr];omega)]
def HW(w caps out:List Int)(i:Nat):Prop:= ∃j,j<i∧0<w.getD j 0∧out.getD j 0<caps.getD j 0
theorem qL(N:Nat)(hN:5000000≤N)(K:List Int→List Int→List Int→Int→Int→Option (List Int×Int×Int)){t left:Int}{w caps out:List Int}(c:M7 t w caps out left)(rd:Int): ∀(m n i:Nat) (b:Bool),w.length-i≤m→m<n→i≤w.length→(b=true↔HW w caps out i)→
  dg.kd N K n w caps out left rd (o6 (bQ w caps out) i) b (i:Int)=
  if left=0∨(bQ w caps out).sum=0 then some (out,left,0)else K w caps (sq out (dA (bl left (bQ w caps out)) caps out)) (left-(dA (bl left (bQ w caps out)) caps out).sum) (W .i64 (rd+1))
 |m,0,i,b,_,hn,_,_=>by omega
 |m,n+1,i,b,hm,hn,hi,hb=>by
  have n64:=c.n
  have e1:=c.l1
  have e2:=c.l2
  unfold dg.kd dg.jb
  by_cases h:i<w.length
  ·have h1:(bQ w caps out).getD i 0=if out.getD i 0<caps.getD i 0 then w.getD i 0 else 0:=eA h
   have hw:=fv c.pw i
   have oO: ¬(0<w.getD i 0∧out.getD i 0<caps.getD i 0)→(b=true↔HW w caps out (i+1)):=fun pC=>hb.trans ⟨fun⟨j,hj,h2⟩=>⟨j,by omega,h2⟩,fun⟨j,hj,h2⟩=>⟨j,by
    by_cases tZ:j=i
    ·subst tZ;exact absurd h2 pC
    ·omega,h2⟩⟩
   rw[aD (by omega),cond_true,aF (by omega) (by omega),cond_true,Int.toNat_natCast]
   by_cases h0:0<w.getD i 0
   ·rw[aD h0,cond_true,aF (by omega) (by omega),cond_true,aF (by omega) (by omega),cond_true]
    by_cases h2:out.getD i 0<caps.getD i 0
    ·rw[if_pos h2]at h1
     rw[aD h2,cond_true,cond_true,aF (by omega) (by rw[lZ,fx];omega),cond_true,al (by omega) (by omega),←h1,Ru (by rw[fx];exact h)]
     exact qL N hN K c rd (m-1) n (i+1) true (by omega) (by omega) (by omega) ⟨fun _=>⟨i,by omega,h0,h2⟩,fun _=>rfl⟩
    ·rw[if_neg h2]at h1
     rw[ax (by omega),cond_false,al (by omega) (by omega),DF h1]
     exact qL N hN K c rd (m-1) n (i+1) b (by omega) (by omega) (by omega) (oO (fun h=>h2 h.2))
   ·have h3:(bQ w caps out).getD i 0=0:=by rw[h1];split<;>omega
    rw[ax (by omega),cond_false,al (by omega) (by omega),DF h3]
    exact qL N hN K c rd (m-1) n (i+1) b (by omega) (by omega) (by omega) (oO (fun h=>h0 h.1))
  ·have Z6:=HT c
   have rp:=c.t1
   have hl0:=c.l
   have lG:i=(bQ w caps out).length:=by rw[fx];omega
   have hp:=nU (caps:=caps) (out:=out) c.pw
   have hs:=HS (caps:=caps) (out:=out) c.pw
   have hs0:=gq hp
   have hsw:=c.sw
   have hm:may (bQ w caps out)=true:=lA.2 ⟨by rw[fx];omega,hp⟩
   rw[ax (by omega),cond_false]
   by_cases h4:left=0
   ·rw[cM h4,cond_true,if_pos (.inl h4)]
   rw[cG h4,cond_false]
   by_cases h3:(bQ w caps out).sum=0
   ·have hbf:b=false:=by
     rw[Bool.eq_false_iff];intro ht
     obtain⟨j,hj,h5⟩:=hb.1 ht
     exact DE c.pw h3 j (by omega) h5
    rw[if_pos (.inr h3),hbf];rfl
   ·have hbt:b=true:=hb.2 (by
     obtain⟨j,hj,h5⟩:=Fe c.pw h3
     exact⟨j,by omega,h5⟩)
    rw[hbt,Bool.not_true,cond_false,if_neg (by omega),lG,Rt,w4 N (by omega) (by omega) (Rr c) (by rw[fx];omega),Option.bind_some]
    unfold nS
    rw[if_neg (by rw[hm];simp;omega),if_neg (by omega),if_neg h3]
    have:=Be N K c (by omega) rd w.length N 0 (by omega) (by omega) (by omega)
    rw[mid_zero,List.take_zero,List.sum_nil,Int.sub_zero]at this
    exact this
theorem DG(N:Nat)(hN:5000000≤N){t:Int}{w caps:List Int}: ∀(f n:Nat) (out:List Int) (left:Int),M7 t w caps out left→f≤w.length+1→f<n→
  dg.l8 N n w caps out left ((w.length+1-f:Nat):Int)=some ((qK w caps f out left).1,(qK w caps f out left).2,0)
 |f,0,out,left,c,_,hn=>by omega
 |0,n+1,out,left,c,h,hn=>by
  unfold dg.l8 dg.zt
  rw[cL (by omega)];rfl
 |f+1,n+1,out,left,c,h,hn=>by
  have n64:=c.n
  have hl:=c.l
  unfold dg.l8 dg.zt
  rw[cS (by omega),cond_true,bG (by omega) (by omega) (by omega),cond_true,Int.toNat_natCast]
  have:=qL N hN (dg.l8 N n) c ((w.length+1-(f+1):Nat):Int) w.length N 0 false (by omega) (by omega) (by omega) ⟨(fun h=>nomatch h),fun⟨j,hj,_⟩=>by omega⟩
  rw[OJ,fx]at this
  refine Eq.trans this ?_
  have hS:=gq (nU (caps:=caps) (out:=out) c.pw)
  unfold qK
  by_cases h1:left=0∨(bQ w caps out).sum=0
  ·rw[if_pos h1,if_pos h1]
  ·rw[if_neg h1,if_neg h1,al (by omega) (by omega),show(((w.length+1-(f+1):Nat):Int)+1)=((w.length+1-f:Nat):Int)by omega]
   exact DG N hN f n _ _ (HU c (by omega)) (by omega) (by omega)
def qM(t:Int)(w caps:List Int):List Int×Int×Int:=
 if t<0∨may w=false∨caps.length≠w.length∨may caps=false then([],0,1)else if 9223372036854775808≤w.sum then([],0,2)
 else((qK w caps (w.length+1) (List.replicate w.length 0) t).1,(qK w caps (w.length+1) (List.replicate w.length 0) t).2,0)
theorem m5(n i:Nat):(List.replicate n (0:Int)).getD i 0=0:=by
 rw[List.getD_eq_getElem?_getD,List.getElem?_replicate];split<;>rfl
theorem DH{t:Int}{w caps:List Int}(ht:0≤t)(rp:t<9223372036854775808)(hw:may w=true)(hc:may caps=true)(hl:caps.length=w.length)(hi:E8 caps)(hs:w.sum<9223372036854775808):M7 t w caps (List.replicate w.length 0) t:=by
 obtain⟨h1,h2⟩:=lA.1 hw
 obtain⟨h3,h4⟩:=lA.1 hc
 refine⟨h1,hl,List.length_replicate ..,h2,hs,fun i=>⟨fv h4 i,(pL hi i).2⟩,fun i=>by rw[m5];omega,fun i _=>by rw[m5];exact fv h4 i,fun i _=>m5 ..,ht,rp,?_⟩
 rw[so (fun i _=>m5 ..)];omega
theorem Le(N:Nat)(hN:5000000≤N){t:Int}{w caps:List Int}(rp:t<9223372036854775808)(hw:E8 w)(hc:E8 caps)(hl:w.length≤1000000):dg N t w caps=some (qM t w caps):=by
 unfold dg dg.b qM
 rw[A6 N (by omega),Option.bind_some]
 by_cases h1:t<0
 ·rw[decide_eq_true h1,Bool.true_or,cond_true,if_pos (.inl h1)]
 rw[decide_eq_false h1,Bool.false_or]
 cases h2:may w
 ·rw[Bool.not_false,cond_true,if_pos (.inr (.inl rfl))]
 rw[Bool.not_true,cond_false]
 by_cases h3:caps.length=w.length
 case neg=>rw[cG (by omega),Bool.not_false,cond_true,if_pos (.inr (.inr (.inl h3)))]
 rw[cM (by omega),Bool.not_true,cond_false,A6 N (by omega),Option.bind_some]
 cases h4:may caps
 ·rw[if_pos (.inr (.inr (.inr rfl)))];rfl
 have hp:=gq (lA.1 h2).2
 rw[show(decide ((0:Int)<0)|| !true)=false from rfl,cond_false,ue N (by omega) hw hl,Option.bind_some,nM,Option.bind_some,if_neg (by simp;omega)]
 by_cases h5:9223372036854775808≤w.sum
 ·rw[if_pos h5];unfold yR;rw[if_neg (by omega)];rfl
 rw[if_neg h5,Fb (by omega) (by omega),Bool.not_true,cond_false,bG (by omega) (by omega) (by omega),cond_true,Int.toNat_natCast]
 have js:=(lA.1 h2).1
 have:=DG N hN (w.length+1) N _ _ (DH (by omega) rp h2 h4 h3 hc (by omega)) (by omega) (by omega)
 rw[Nat.sub_self]at this
 exact this
end VM
end
section
namespace VM
open Go VM.F
theorem w7{a b:Int}: ∀{l:ah},sT (l.map keyOf)→iS a b l=cf a b l
 |[],_=>rfl
 |x::t,h=>by
  obtain⟨h1,h2⟩:=List.pairwise_cons.1 h
  rw[kk,jc,←w7 h2]
  by_cases e1:x.1=a
  ·by_cases e2:x.2.1=b
   ·have hz:cf a b t=0:=jd fun y hy e=>by
     have hk:=h1 (keyOf y) (List.mem_map_of_mem hy)
     have he:keyOf y=keyOf x:=Prod.ext (e.1.trans e1.symm) (e.2.trans e2.symm)
     rw[he]at hk
     exact mY hk
    rw[if_pos e1,if_pos e2,if_pos ⟨e1,e2⟩,w7 h2,hz,Int.add_zero];rfl
   ·rw[if_pos e1,if_neg e2,if_neg (fun h=>e2 h.2),Int.zero_add]
  ·rw[if_neg e1,if_neg (fun h=>e1 h.1),Int.zero_add]
theorem Lf{t:Int}{w caps:List Int}(rp:t<9223372036854775808)(hc:E8 caps)(hx:(qM t w caps).2.2=0):Full t w caps (qM t w caps).1 (qM t w caps).2.1:=by
 unfold qM at*
 by_cases h1:t<0∨may w=false∨caps.length≠w.length∨may caps=false
 ·rw[if_pos h1]at hx;exact absurd hx (by decide)
 ·rw[if_neg h1]at hx ⊢
  by_cases h2:9223372036854775808≤w.sum
  ·rw[if_pos h2]at hx;exact absurd hx (by decide)
  ·rw[if_neg h2]
   have h3:may w=true:=by cases h:may w<;>simp_all
   have h4:may caps=true:=by cases h:may caps<;>simp_all
   have h5:caps.length=w.length:=Decidable.byContradiction fun h=>h1 (Or.inr (Or.inr (Or.inl h)))
   exact HV _ _ _ (DH (by omega) rp h3 h4 h5 hc (by omega)) (Or.inl (by have:=Rs w caps (List.replicate w.length 0);omega))
end VM
end
section
namespace VM
open Go VM.F
def Rv(c:aa)(p:List Int)(k:Int):ah→Int
 |[]=>0
 |x::t=>(if x.1=0∧(c.1.getD x.2.1.toNat aK).1=k then et x*p.getD x.2.1.toNat 0 else 0)+Rv c p k t
def HX(c:aa)(p:List Int)(k:Int)(l:ah):Nat→Int
 |0=>0
 |n+1=>HX c p k l n+if(c.1.getD n aK).1=k then cf 0 (n:Int) l*p.getD n 0 else 0
theorem s0(c:aa)(p:List Int)(k:Int)(l:ah)(n:Nat):HX c p k l (n+1)=HX c p k l n+if(c.1.getD n aK).1=k then cf 0 (n:Int) l*p.getD n 0 else 0:=rfl
theorem HY(c:aa)(p:List Int)(k:Int): ∀n,HX c p k [] n=0
 |0=>rfl
 |n+1=>by rw[s0,HY,De,Int.zero_mul];split<;>rfl
theorem DI(c:aa)(p:List Int)(k:Int)(x:ca)(t:ah)(m:Nat)(hm:(x.2.1:Int)=(m:Int)): ∀n,HX c p k (x::t) n=HX c p k t n+if x.1=0∧m<n∧(c.1.getD m aK).1=k then et x*p.getD m 0 else 0
 |0=>by rw[if_neg (fun h=>by omega)];rfl
 |n+1=>by
  rw[s0,s0,DI c p k x t m hm n,jc]
  by_cases hk:(c.1.getD n aK).1=k
  ·rw[if_pos hk,if_pos hk,Int.add_mul]
   by_cases hn:m=n
   ·subst hn
    rw[if_neg (fun h=>by omega)]
    by_cases h0:x.1=0
    ·rw[if_pos ⟨h0,hm⟩,if_pos ⟨h0,by omega,hk⟩];omega
    ·rw[if_neg (fun h=>h0 h.1),if_neg (fun h=>h0 h.1),Int.zero_mul];omega
   ·have e: ¬(x.1=0∧x.2.1=(n:Int)):=fun h=>hn (by
     have h2:(n:Int)=(m:Int):=h.2.symm.trans hm
     omega)
    rw[if_neg e,Int.zero_mul]
    by_cases h1:x.1=0∧m<n∧(c.1.getD m aK).1=k
    ·rw[if_pos h1,if_pos ⟨h1.1,by omega,h1.2.2⟩];omega
    ·rw[if_neg h1,if_neg (fun h=>h1 ⟨h.1,by have:=h.2.1;omega,h.2.2⟩)];omega
  ·rw[if_neg hk,if_neg hk]
   by_cases h1:x.1=0∧m<n∧(c.1.getD m aK).1=k
   ·rw[if_pos h1,if_pos ⟨h1.1,by omega,h1.2.2⟩];omega
   ·rw[if_neg h1,if_neg (fun h=>h1 ⟨h.1,by
     have h2:=h.2.1
     by_cases e:m=n
     ·subst e;exact absurd h.2.2 hk
     ·omega,h.2.2⟩)]
theorem DJ(c:aa)(p:List Int)(k:Int)(n:Nat): ∀{l:ah},(∀x∈l,m0 x.2.1 n)→HX c p k l n=Rv c p k l
 |[],_=>HY c p k n
 |x::t,h=>by
  have ih:=DJ c p k n (l:=t) (fun y hy=>h y (List.mem_cons_of_mem _ hy))
  have hx:=h x (List.mem_cons_self ..)
  have g: ∀v:Int,m0 v n→v=((v.toNat:Nat):Int)∧v.toNat<n:=fun v h=>by unfold m0 at h;omega
  have gx:=g _ hx
  rw[DI c p k x t x.2.1.toNat gx.1 n,ih]
  show _=(if x.1=0∧(c.1.getD x.2.1.toNat aK).1=k then et x*p.getD x.2.1.toNat 0 else 0)+Rv c p k t
  by_cases h1:x.1=0∧(c.1.getD x.2.1.toNat aK).1=k
  ·rw[if_pos h1,if_pos ⟨h1.1,gx.2,h1.2⟩];omega
  ·rw[if_neg h1,if_neg (fun h=>h1 ⟨h.1,h.2.2⟩)];omega
theorem Bf{c:aa}{b:af}(hk:dh b.2.2.2.1=true)(k:Int): ∀n,nR c b k n=HX c b.2.2.2.2.1 k b.2.2.2.1 n
 |0=>rfl
 |n+1=>by
  have hs:=(gI hk).1
  have e:mE b.2.2.2.1 0 (n:Int)=cf 0 (n:Int) b.2.2.2.1:=by
   unfold mE;rw[hk]
   exact w7 hs
  rw[uw,s0,Bf hk k n]
  unfold A0
  rw[e]
end VM
end
