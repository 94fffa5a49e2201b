/- A part of the proof of BookTurned of layer 18: what the functions compute, in plain words. -/
import Derived.Test.YthkjjlcblhbifaaGreatPlain4
set_option linter.all false
open List renaming length→ℓ
section
namespace VM
open Go VM.F
variable(N:Nat)
theorem adp{u v:Int}(hu:cH u)(hv:cH v)(hs:cH (u-v)):Ta N (cK u) (cK v)=some (cK (u-v),true):=by
 unfold Ta cK
 unfold cH at*
 dsimp only
 have hp:0≤u%18446744073709551616∧u%18446744073709551616<18446744073709551616:=ω
 have hq:0≤v%18446744073709551616∧v%18446744073709551616<18446744073709551616:=ω
 rw[p8,p8,mH N ω ω ω ω ω ω,ar]
 dsimp only
 have hb:(0:Int)≤(if u%18446744073709551616<v%18446744073709551616+0 then 1 else 0)∧(if u%18446744073709551616<v%18446744073709551616+0 then(1:Int)else 0)≤1:=by split<;>omega
 rw[mH N ω ω ω ω hb.1 hb.2,ar]
 dsimp only
 have e3:W .i64 ((u/18446744073709551616%18446744073709551616-v/18446744073709551616%18446744073709551616-(if u%18446744073709551616<v%18446744073709551616+0 then 1 else 0))%18446744073709551616)=(u-v)/18446744073709551616:=by
  by_cases h0:u%18446744073709551616<v%18446744073709551616+0
  ·rw[ak h0,gN];split<;>omega
  ·rw[ag h0,gN];split<;>omega
 have e1:(u%18446744073709551616-v%18446744073709551616-0)%18446744073709551616=(u-v)%18446744073709551616:=ω
 rw[e3,e1]
 have key: ∀A B C:Int,A=u/18446744073709551616→B=v/18446744073709551616→C=(u-v)/18446744073709551616→(A<0∧ ¬B<0→C<0)∧(¬A<0∧B<0→ ¬C<0):=λA B C _ _ _=>ω
 have k:=key _ _ _ rfl rfl rfl
 simp only[mI,qv]
 by_cases a:u/18446744073709551616<0<;>by_cases b:v/18446744073709551616<0
 ·rw[aV a,aV b];rfl
 ·have c:=k.1 ⟨a,b⟩
  rw[aV a,bw b,aV c];rfl
 ·have c:=k.2 ⟨a,b⟩
  rw[bw a,aV b,bw c];rfl
 ·rw[bw a,bw b];rfl
theorem WZ{v k:Int}(hv:0≤v∧v≤9223372069854775808)(hk:0≤k∧k≤1000000000):adq N (cK v) k=some (cK (v*k),true):=by
 unfold adq
 have hm:=F4 hv hk
 have h0:v/18446744073709551616=0:=ω
 have h1:v%18446744073709551616=v:=ω
 rw[Zo N ω ω,ar,Mj N ω ω,ar,show(v.natAbs:Int)=v by omega,show(k.natAbs:Int)=k by omega,h0,h1]
 dsimp only
 rw[Hv N ω ω ω ω,ar,Hv N ω ω ω ω,ar,GD]
 dsimp only
 have e:cK v=((0:Int),(v,())):=by unfold cK;rw[h0,h1]
 generalize v*k=m at*
 rw[xT N ω ω ω ω,ar,e]
 dsimp only
 have e1:(0%18446744073709551616+m/18446744073709551616+0)%18446744073709551616=m/18446744073709551616:=ω
 have e2:(0/18446744073709551616:Int)+(0%18446744073709551616+m/18446744073709551616+0)/18446744073709551616=0:=ω
 rw[e1,e2,eG (x:=0) ω ω,dj,bk,av,aO (x:=0) ω,aO (x:=k) ω,mI]
 show(rf N false _ _).bind _=_
 rw[Af N ω ω ω ω,ar,show m/18446744073709551616*18446744073709551616+m%18446744073709551616=m by omega]
theorem ads{q:Int}{z:Int×Int}(hq:aF q)(hz:NG z):((Pf N q).bind λr9=>(Pf N z.1).bind λme=>(ZV N r9 me).bind λoI=>(Pf N q).bind λnZ=>(Pf N z.2).bind λn0=>(Ta N nZ n0).bind λtV=>(Tb N oI.1).bind λuu=>(Tb N tV.1).bind λwz=>(F85 N uu.1 wz.1).bind λw1=>cond (aX w1 0) (some (wz.1,(0:Int))) (some (uu.1,(0:Int))))=some (cK (Cg q z),0):=by
 unfold aF NG at*
 have a1:cH q∧cH z.1∧cH z.2∧cH (q+z.1)∧cH (q-z.2):=by unfold cH;omega
 rw[vS N hq.1 hq.2,ar,vS N ω ω,ar,adh N a1.1 a1.2.1 a1.2.2.2.1,ar,ar,vS N ω ω,ar,adp N a1.1 a1.2.2.1 a1.2.2.2.2,ar,U3 N a1.2.2.2.1 ω,ar,U3 N a1.2.2.2.2 ω,ar,UE,ar,cf]
 unfold Cg
 have hs:vP (((q+z.1).natAbs:Int)-((q-z.2).natAbs:Int))<0↔((q+z.1).natAbs:Int)<((q-z.2).natAbs:Int):=by
  unfold vP;split<;>(try split)<;>omega
 by_cases h:((q+z.1).natAbs:Int)<((q-z.2).natAbs:Int)
 ·rw[ak h,ak (hs.2 h)]
 ·rw[ag h,ag (λk=>h (hs.1 k))]
theorem W0(hN:200000≤N){o:au}(xa:o.length≤100000)(ho: ∀x∈o,NG (x.2.1,x.2.2.1))(k:Int){q:Int}(hq:aF q):iY.mw N N k c7 q 0 0 o (o.length:Int) 0=some (cK (Cg q (yp k o (0,0))),0):=by
 have:=ll o aZ (λn i (z:Int×Int)=>iY.mw N n k c7 q z.1 z.2 o (o.length:Int) i) (λt z=>some (cK (Cg q (yp k t z)),(0:Int))) (λi z=>NG z) (λn i z hi hz hr=> ?_) (λn z hz=> ?_) o.length N 0 (0,0) ω ω ω (by unfold NG;decide)
 ·exact this
 ·unfold iY.mw iY.lq
  rw[aQ ω,aj,aU ω ω,aj,aG,aw (x:=(i:Int)+1) ω ω,af i,aI,As]
  by_cases h:(o.getD i aZ).1=k
  ·rw[ak h,ak h]
   exact hr ((o.getD i aZ).2.1,(o.getD i aZ).2.2.1) (ho _ (by rw[aW,bm hi];exact dG hi))
  ·rw[ag h,ag h]
   exact hr z hz
 ·unfold iY.mw iY.lq
  rw[aO ω,av]
  exact ads N hq hz
theorem alq(hN:200000≤N)(c:ae){l:aE}(hl:l.length≤100000)(kP: ∀y∈l,aF y.2.1){o:au}(xa:o.length≤100000)(k:Int):iY N c l o k=some (cK (EG c l o k).1,(EG c l o k).2):=by
 unfold iY iY.b EG
 rw[UF N hN c hl,ar,cond_not,K8 N hN c xa,ar,cond_not,cf,cz]
 cases h1:mi c l with
 |false=>rfl
 |true=>
  cases h2:gW c o with
  |false=>rfl
  |true=>
   rw[aj,aj,fc,ak rfl]
   by_cases h3:0≤k∧k<(c.1.length:Int)
   ·rw[ak h3,ag ω,ag ω]
    have:=ll l c7 (λn i (q:Int)=>iY.l7 N n o k c7 q 0 0 l (l.length:Int) i) (λt q=>some (cK (Cg (Io k t q) (yp k o (0,0))),(0:Int))) (λi q=>aF q) (λn i q hi hq hr=> ?_) (λn q hq=> ?_) l.length N 0 0 ω ω ω (by unfold aF;omega)
    ·exact this
    ·unfold iY.l7 iY.nR
     rw[aQ ω,aj,aU ω ω,aj,aG,aw (x:=(i:Int)+1) ω ω,af i,aI,Ar]
     by_cases h:(l.getD i c7).1=k
     ·rw[ak h,ak h]
      exact hr _ (kP _ (by rw[aW,bm hi];exact dG hi))
     ·rw[ag h,ag h]
      exact hr q hq
    ·unfold iY.l7 iY.nR
     rw[aO ω,av]
     exact W0 N hN xa (MO h2) k hq
   ·rw[ag h3]
    by_cases h4:k<0
    ·rw[ak h4];rfl
    ·rw[ag h4,ak ω];rfl
theorem aab(hN:4000000≤N){q:Int}{z:Int×Int}(hq:aF q)(hz:NG z):((nk N (cI q) (cI z.1)).bind λnZ=>(CZ N nZ).bind λn0=>(Ac N (cI q) (cI z.2)).bind λtV=>(CZ N tV).bind λuu=>(wW N uu n0).bind λwz=>cond (aX 0 wz) (some (uu,(0:Int))) (some (n0,(0:Int))))=some (cI (Cg q z),0):=by
 unfold aF NG at*
 have f: ∀x:Int,-170141183460469231731687303715884105728≤x→x<170141183460469231731687303715884105728→Fit x 900000:=λx h1 h2=>pO ⟨h1,h2⟩
 rw[iN N hN (f _ ω ω) (f _ ω ω),ar,BM N hN (f _ ω ω),ar,ra N hN (f _ ω ω) (f _ ω ω),ar,BM N hN (f _ ω ω),ar,HB N hN (f _ ω ω) (f _ ω ω),ar,cf]
 unfold Cg
 have hs:0<vP (((q-z.2).natAbs:Int)-((q+z.1).natAbs:Int))↔((q+z.1).natAbs:Int)<((q-z.2).natAbs:Int):=by
  unfold vP;split<;>(try split)<;>omega
 by_cases h:((q+z.1).natAbs:Int)<((q-z.2).natAbs:Int)
 ·rw[ak h,ak (hs.2 h)]
 ·rw[ag h,ag (λk=>h (hs.1 k))]
theorem Tc(hN:4000000≤N){o:au}(xa:o.length≤100000)(ho: ∀x∈o,NG (x.2.1,x.2.2.1))(k:Int){q:Int}(hq:aF q):gE.nJ N N o k (cI 0) (cI q) (cI 0) (cI 0) 0=some (cI (Cg q (yp k o (0,0))),0):=by
 have:=ll o aZ (λn i (z:Int×Int)=>gE.nJ N n o k (cI 0) (cI q) (cI z.1) (cI z.2) i) (λt z=>some (cI (Cg q (yp k t z)),(0:Int))) (λi z=>NG z) (λn i z hi hz hr=> ?_) (λn z hz=> ?_) o.length N 0 (0,0) ω ω ω (by unfold NG;decide)
 ·exact this
 ·unfold gE.nJ gE.mN
  rw[aQ ω,aj,aU ω ω,aj,aj,aG,aw (x:=(i:Int)+1) ω ω,af i,aI,As]
  by_cases h:(o.getD i aZ).1=k
  ·have hx:=ho (o.getD i aZ) (by rw[aW,bm hi];exact dG hi)
   have ed:=hr ((o.getD i aZ).2.1,(o.getD i aZ).2.2.1) hx
   unfold NG at hx
   rw[ak h,ak h,dd N ω (fH δ hx.1) (rP hx.2.1 δ),ar,aj,dd N ω (fH δ hx.2.2.1) (rP hx.2.2.2 δ),ar]
   exact ed
  ·rw[ag h,ag h]
   exact hr z hz
 ·unfold gE.nJ gE.mN
  rw[aO ω,av]
  exact aab N hN hq hz
theorem adt(hN:4000000≤N)(c:ae){l:aE}(hl:l.length≤100000)(kP: ∀y∈l,aF y.2.1){o:au}(xa:o.length≤100000)(k:Int):gE N c l o k=some (cI (EG c l o k).1,(EG c l o k).2):=by
 unfold gE gE.b EG
 rw[u5 N ω c hl,ar,cond_not,Is N ω c xa,ar,cond_not,cf,cz,←g8]
 cases h1:mi c l with
 |false=>rfl
 |true=>
  cases h2:gW c o with
  |false=>rfl
  |true=>
   rw[aj,aj,fc,ak rfl]
   by_cases h3:0≤k∧k<(c.1.length:Int)
   ·rw[ak h3,ag ω,ag ω]
    have:=ll l c7 (λn i (q:Int)=>gE.l7 N n l o k (cI 0) (cI q) (cI 0) (cI 0) i) (λt q=>some (cI (Cg (Io k t q) (yp k o (0,0))),(0:Int))) (λi q=>aF q) (λn i q hi hq hr=> ?_) (λn q hq=> ?_) l.length N 0 0 ω ω ω (by unfold aF;omega)
    ·exact this
    ·unfold gE.l7 gE.nR
     rw[aQ ω,aj,aU ω ω,aj,aj,aG,aw (x:=(i:Int)+1) ω ω,af i,aI,Ar]
     by_cases h:(l.getD i c7).1=k
     ·have hy:=kP (l.getD i c7) (by rw[aW,bm hi];exact dG hi)
      rw[ak h,ak h,dd N ω hy.1 hy.2,ar]
      exact hr _ hy
     ·rw[ag h,ag h]
      exact hr q hq
    ·unfold gE.l7 gE.nR
     rw[aO ω,av]
     exact Tc N hN xa (MO h2) k hq
   ·rw[ag h3]
    by_cases h4:k<0
    ·rw[ak h4]
    ·rw[ag h4,ak ω]
theorem K9{c:ae}{l:aE}{o:au}(h1:mi c l=true)(h2:gW c o=true){k:Int}(hk:0≤k∧k<(c.1.length:Int)):(EG c l o k).1=Ch l o k:=by
 unfold EG
 rw[h1,h2,fc,ak rfl,ak hk]
theorem aac(hN:2000000≤N)(c:ae){l:aE}(hl:l.length≤100000)(kP: ∀y∈l,aF y.2.1){o:au}(xa:o.length≤100000):It N c l o=some (cK (lV c l o).1,(lV c l o).2):=by
 unfold It It.b lV
 rw[UF N ω c hl,ar,cond_not,K8 N ω c xa,ar,cond_not]
 cases h1:mi c l with
 |false=>rfl
 |true=>
  cases h2:gW c o with
  |false=>rfl
  |true=>
   rw[aj,aj,fc,ak rfl]
   have h6:=Iq (jY h2)
   have aqp: ∀i,i<c.1.length→0≤Ch l o (i:Int)*oG c i∧Ch l o (i:Int)*oG c i≤9223372069854775808000000000:=λi hi=>F4 (Ci h2 kP (i:Int)) (F2 (jY h2) hi)
   have hL: ∀n,n≤c.1.length→ ∀x∈wy c l o n,cH x:=by
    intro n
    induction n with
    |zero=>intro _ x hx;nomatch hx
    |succ n ih=>
     intro hn
     have:=aqp n ω
     exact wg (ih ω) (by unfold cH;omega)
   have hw:=y9 (jY h2) h2 kP c.1.length (aH _)
   have key: ∀(m n i:Nat),c.1.length-i≤m→m<n→i≤c.1.length→It.l5 N n l o c c7 ((wy c l o i).map cK) c.1 (c.1.length:Int) (i:Int)=some (cK (oH c l o c.1.length),0):=by
    intro m n
    induction n generalizing m with
    |zero=>intro i _ hn;omega
    |succ n ih=>
     intro i hm hn hi
     unfold It.l5 It.dV
     by_cases h:i<c.1.length
     ·have hr:=F2 (jY h2) h
      have ed:=hr
      unfold oG at ed
      have ht:=Ci h2 kP (i:Int)
      rw[aQ ω,aj,aU ω ω,aj,alq N ω c hl kP xa,ar,K9 h1 h2 ⟨ω,ω⟩,aG,WZ N ht ed,ar,bJ (by rw[cB,Au,aJ];omega),aj,aw (x:=(i:Int)+1) ω ω,af i]
      have:=ih (m-1) (i+1) ω ω ω
      rw[show wy c l o (i+1)=wy c l o i++[Ch l o (i:Int)*oG c i]from rfl,dr]at this
      exact this
     ·have e:i=c.1.length:=ω
      subst e
      rw[aO ω,av,FP N (hL _ hi) (by rw[Au];omega) ω,ar,Ip]
      unfold Pg
      rw[ak (by unfold cH;omega)]
   exact key c.1.length N 0 ω ω ω
theorem W1(hN:4000000≤N)(c:ae){l:aE}(hl:l.length≤100000)(kP: ∀y∈l,aF y.2.1){o:au}(xa:o.length≤100000):nT N c l o=some (cI (lV c l o).1,(lV c l o).2):=by
 unfold nT nT.b lV
 rw[u5 N ω c hl,ar,cond_not,Is N ω c xa,ar,cond_not,←g8]
 cases h1:mi c l with
 |false=>rfl
 |true=>
  cases h2:gW c o with
  |false=>rfl
  |true=>
   rw[aj,aj,fc,ak rfl]
   have h6:=Iq (jY h2)
   have f: ∀x:Int,-170141183460469231731687303715884105728≤x→x<170141183460469231731687303715884105728→Fit x 900000:=λx h1 h2=>pO ⟨h1,h2⟩
   have f2: ∀x:Int,0≤x→x≤9223372069854775808→Fit x 80000:=λx h1 h2=>by
    refine Fit.mono (j:=3) ?_ ω
    unfold Fit
    rw[show(4294967296:Nat)^3=79228162514264337593543950336 from rfl]
    omega
   have key: ∀(m n i:Nat),c.1.length-i≤m→m<n→i≤c.1.length→nT.l5 N n l o c (cI 0) (cI (oH c l o i)) (i:Int)=some (cI (oH c l o c.1.length),0):=by
    intro m n
    induction n generalizing m with
    |zero=>intro i _ hn;omega
    |succ n ih=>
     intro i hm hn hi
     unfold nT.l5 nT.dV
     by_cases h:i<c.1.length
     ·have hr:=F2 (jY h2) h
      have ht:=Ci h2 kP (i:Int)
      have ji:=F4 ht hr
      have hw:=y9 (jY h2) h2 kP i ω
      have hfr:=f2 _ hr.1 (fH hr.2 δ)
      have hWh:eC N ((c.1.getD i bb).2.2.1)=some (cI (oG c i)):=dd N ω (fH δ hr.1) (rP hr.2 δ)
      rw[aQ ω,aj,adt N ω c hl kP xa,ar,K9 h1 h2 ⟨ω,ω⟩,aU ω ω,aj,aG,hWh,ar,sx N ω ((f2 _ ht.1 ht.2).mono ω) (hfr.mono ω),ar,iN N ω (f _ ω ω) (f _ ω ω),ar,aw (x:=(i:Int)+1) ω ω,af i]
      exact ih (m-1) (i+1) ω ω ω
     ·have e:i=c.1.length:=ω
      subst e
      rw[aO ω,av]
   exact key c.1.length N 0 ω ω ω
theorem zL{c:ae}{b:an}(h:dh c b=true):dn b.2.2.2.2.2.1=true:=by
 unfold dh at h
 simp only[bQ]at h
 exact h.2.2.2.2.2.1
theorem La(l:aY)(a:Int):(m7 l a).length≤6:=U5 _ 6 0
def qIn(q:Int):Prop:=1≤q∧q≤1000000000
instance(q:Int):Decidable (qIn q):=by unfold qIn;infer_instance
def Cj(a b c d:Int):Prop:=(1≤a∧a≤1099511627776)∧(0≤b∧b<6)∧(c=1∨c=2)∧qIn d
instance(a b c d:Int):Decidable (Cj a b c d):=by unfold Cj;infer_instance
def Ck(h:cO):Prop:=Cj h.1 h.2.1 h.2.2.1 h.2.2.2.1
instance(h:cO):Decidable (Ck h):=by unfold Ck;infer_instance
theorem yq(h:cO):adu N h=some (decide (Ck h)):=by
 unfold adu
 rw[m9 h.2.2.2.1]
 rw[ig,HH,C5,HG,ig,ig,ig]
 congr 1
 rw[pV,fV]
 unfold Ck Cj qIn
 simp only[bQ,og,rQ,xi,Gj]
 omega
end VM
end
section
namespace VM
open Go VM.F Go.RowKit
variable(N:Nat)
theorem aad(hN:4000000≤N){v:Int}(h:cH v):adv N (cK v)=some (cI v):=by
 unfold adv cK
 unfold cH at h
 dsimp only
 have hv:VD [(0:Int),0,1]:=VD.cons ω ω (VD.cons ω ω (VD.cons ω ω VD.nil))
 have Ha:dv [(0:Int),0,1]=18446744073709551616:=δ
 have hl:(mv (v%18446744073709551616).toNat).length≤2:=vO 2 _ (by
  rw[show(4294967296:Nat)^2=18446744073709551616 from rfl];omega)
 have f2: ∀x:Int,(x.natAbs:Int)≤18446744073709551616→Fit x 90000:=λx hx=>by
  refine Fit.mono (j:=3) ?_ ω
  unfold Fit
  rw[show(4294967296:Nat)^3=79228162514264337593543950336 from rfl]
  omega
 rw[dd N ω ω ω,ar,pL N false hv (by simp;omega) (by simp),ar,ag pD,Ha,sx N hN (f2 _ ω) (f2 _ ω),ar,size_eq N ω ω ω,ar,pL N false (ku _) ω ω,ar,ag pD,iv,uy ω,iN N hN (pO (by unfold cH;omega)) (pO (by unfold cH;omega)),ar,show v/18446744073709551616*18446744073709551616+v%18446744073709551616=v by omega]
theorem P3(hN:4000000≤N){v:Int}(h:cH v):F56 N (cK v) (cI v)=some true:=by
 unfold F56
 rw[aad N hN h,ar,HB N hN (pO h) (pO h),ar,Int.sub_self,show vP 0=0 from rfl,dj]
theorem MP{c:ae}{b:an}(w:jC b)(l:bE):PG (sG c b l).1:=by
 unfold sG
 repeat' split
 all_goals first|exact Er w _ _|exact u9
def hR:au:=[((1:Int),((0:Int),((-90:Int),()))),((5:Int),((1:Int),((90:Int),())))]
def hS:au:=[((0:Int),((0:Int),((5:Int),()))),((0:Int),((1:Int),((20:Int),()))),((1:Int),((0:Int),((-5:Int),()))),((1:Int),((1:Int),((-20:Int),())))]
def hB:an:=([((1:Int),((1:Int),()))],([((1:Int),((1:Int),((1:Int),((50:Int),()))))],(hR,(hS,([(100:Int),(7:Int)],(du,()))))))
def hO:cO:=((4:Int),((0:Int),((2:Int),((6:Int),()))))
theorem hW:m5 hB:=⟨⟨δ,δ,δ,δ,δ,δ,B9 (l:=hR) δ,B9 (l:=hS) δ⟩,δ,δ⟩
namespace Pure
end Pure
end VM
end
section
namespace VM
open Go VM.F
variable(N:Nat)
def Ok{α:Type}(P:α→Prop)(o:Option α):Prop:= ∃r,o=some r∧P r
theorem aq{α:Type}{P:α→Prop}{r:α}(h:P r):Ok P (some r):=⟨r,rfl,h⟩
theorem ah{α β:Type}{P:β→Prop}{Q:α→Prop}{o:Option α}{f:α→Option β}(h:Ok Q o)(hf: ∀r,Q r→Ok P (f r)):Ok P (o.bind f):=by
 obtain⟨r,rfl,hr⟩:=h
 exact hf r hr
theorem Mu{α:Type}{P Q:α→Prop}{o:Option α}(h:Ok Q o)(hf: ∀r,Q r→P r):Ok P o:=by
 obtain⟨r,e,hr⟩:=h
 exact⟨r,e,hf r hr⟩
theorem nK{α:Type}{P:α→Prop}{o:Option α}{r:α}(h:o=some r)(hr:P r):Ok P o:=⟨r,h,hr⟩
theorem qc{α:Type}{P:α→Prop}{b:Bool}{x y:Option α}(hx:b=true→Ok P x)(hy:b=false→Ok P y):Ok P (cond b x y):=by
 cases b
 ·exact hy rfl
 ·exact hx rfl
theorem bI{α:Type}{P:α→Prop}{b:Bool}{x y:Option α}(hx:b=false→Ok P x)(hy:b=true→Ok P y):Ok P (cond (!b) x y):=by
 cases b
 ·exact hx rfl
 ·exact hy rfl
theorem ax{α:Type}{P:α→Prop}{a b:Int}{x y:Option α}(hx:a<b→Ok P x)(hy:b≤a→Ok P y):Ok P (cond (aX a b) x y):=by
 rw[cf]
 split
 ·exact hx (by assumption)
 ·exact hy ω
theorem eR{α:Type}{P:α→Prop}{a b:Int}{x y:Option α}(hx:a≤b→Ok P x)(hy:b<a→Ok P y):Ok P (cond (dy a b) x y):=by
 rw[cz]
 split
 ·exact hx (by assumption)
 ·exact hy ω
theorem ok_eq{α:Type}{P:α→Prop}{a b:Int}{x y:Option α}(hx:a=b→Ok P x)(hy:a≠b→Ok P y):Ok P (cond (aM a b) x y):=by
 rw[aI]
 split
 ·exact hx (by assumption)
 ·exact hy (by assumption)
theorem bM{α:Type}{P:α→Prop}{a b:Int}{x y:Option α}(hx:a≠b→Ok P x)(hy:a=b→Ok P y):Ok P (cond (!aM a b) x y):=by
 rw[cond_not];exact ok_eq hy hx
theorem aB{α:Type}{P:α→Prop}{i:Int}{n:Nat}{x y:Option α}(h:0≤i∧i<(n:Int))(hx:Ok P x):Ok P (cond (bg i n) x y):=by
 rw[aU h.1 h.2];exact hx
theorem aC{α:Type}{P:α→Prop}{n:Nat}{x y:Option α}(h:n<68719476736)(hx:Ok P x):Ok P (cond (small n) x y):=by
 rw[bJ h];exact hx
theorem adw{α:Type}{P:α→Prop}{l c:Int}{x y:Option α}(h:0≤l∧l≤c∧c<68719476736)(hx:Ok P x):Ok P (cond (kU l c) x y):=by
 rw[db h.1 h.2.1 h.2.2];exact hx
theorem Ak{α:Type}{P:α→Prop}{l h m n:Int}{x y:Option α}(hh:0≤l∧l≤h∧h≤m∧m≤n)(hx:Ok P x):Ok P (cond (jc l h m n) x y):=by
 rw[eh hh.1 hh.2.1 hh.2.2.1 hh.2.2.2];exact hx
theorem jk{σ β:Type}{P:β→Prop}{F:Nat→Int→σ→Option β}{len:Nat}(I:Nat→σ→Prop)
  (hs: ∀n i s,i<len→I i s→(∀s',I (i+1) s'→Ok P (F n ((i+1:Nat):Int) s'))→Ok P (F (n+1) (i:Int) s)) (he: ∀n s,I len s→Ok P (F (n+1) (len:Int) s)):
  ∀m n i s,len-i≤m→m<n→i≤len→I i s→Ok P (F n (i:Int) s)
 |m,0,i,s,_,hn,_,_=>ω
 |m,n+1,i,s,hm,hn,hi,hI=>by
  by_cases h:i<len
  ·exact hs n i s h hI λs' zD=>jk I hs he (m-1) n (i+1) s' ω ω ω zD
  ·have:i=len:=ω
   subst this
   exact he n s hI
theorem bt{σ β:Type}{P:β→Prop}{F:Nat→Int→σ→Option β}{len:Nat}(I:Nat→σ→Prop){N:Nat}{s:σ}(h0:I 0 s)(hN:len<N)
  (hs: ∀n i s,i<len→I i s→(∀s',I (i+1) s'→Ok P (F n ((i+1:Nat):Int) s'))→Ok P (F (n+1) (i:Int) s)) (he: ∀n s,I len s→Ok P (F (n+1) (len:Int) s)):Ok P (F N 0 s):=
 jk I hs he len N 0 s ω hN ω h0
theorem m8{β:Type}{P:β→Prop}{F:Nat→Int→Option β}{len N:Nat}(hN:len<N)
  (hs: ∀n i,i<len→Ok P (F n ((i+1:Nat):Int))→Ok P (F (n+1) (i:Int))) (he: ∀n,Ok P (F (n+1) (len:Int))):Ok P (F N 0):=
 bt (σ:=Unit) (F:=λn i _=>F n i) (λ_ _=>True) (s:=()) trivial hN (λn i _ h _ hr=>hs n i h (hr () trivial)) λn _ _=>he n
theorem yY{σ β:Type}{P:β→Prop}{F:Nat→Int→σ→Option β}(I:Nat→σ→Prop)
  (hs: ∀n (k:Nat) s,I (k+1) s→(∀s',I k s'→Ok P (F n (k:Int) s'))→Ok P (F (n+1) ((k+1:Nat):Int) s)) (he: ∀n s,I 0 s→Ok P (F (n+1) 0 s)):
  ∀(k n:Nat) s,k<n→I k s→Ok P (F n (k:Int) s)
 |0,0,s,hn,_=>ω
 |0,n+1,s,hn,hI=>he n s hI
 |k+1,0,s,hn,_=>ω
 |k+1,n+1,s,hn,hI=>hs n k s hI λs' zD=>yY I hs he k n s' ω zD
def G(m:Nat):(τ:Ty)→τ.den→Prop
 | .int .i64,x=>aF x
 | .int .u64,x=>0≤x∧x<18446744073709551616
 | .slice e,l=>ℓ l≤m∧ ∀x∈(l:List e.den),G m e x
 | .pair a b,x=>G m a x.1∧G m b x.2
 |_,_=>True
theorem G.mono{m n:Nat}(h:m≤n): ∀{τ:Ty} {x:τ.den},G m τ x→G n τ x
 | .int k,x,hx=>by cases k<;>exact hx
 | .slice e,l,hl=>⟨ck hl.1 h,λx hx=>G.mono h (hl.2 x hx)⟩
 | .pair a b,x,hx=>⟨G.mono h hx.1,G.mono h hx.2⟩
 | .bool,_,_=>trivial
 | .str,_,_=>trivial
 | .unit,_,_=>trivial
 | .arr _ _,_,_=>trivial
theorem G.nil{m:Nat}{e:Ty}:G m (.slice e) ([]:List e.den):=⟨bs _,λx hx=>nomatch hx⟩
theorem G.app{m:Nat}{e:Ty}{l:List e.den}{x:e.den}(h:G m (.slice e) l)(hx:G m e x):G (m+1) (.slice e) (l++[x]):=
 ⟨by have:=h.1;rw[aS,aJ];omega,λy hy=>by
  rcases bn.1 hy with hy|hy
  ·exact G.mono ω (h.2 y hy)
  ·rw[cy.1 hy];exact G.mono ω hx⟩
theorem G.get{m:Nat}{e:Ty}{l:List e.den}{d:e.den}(h:G m (.slice e) l)(hd:G m e d)(k:Nat):G m e (l.getD k d):=by
 by_cases hk:k<l.length
 ·rw[aW,bm hk];exact h.2 _ (dG hk)
 ·rw[aW,iq ω];exact hd
theorem G.zero(m:Nat): ∀τ:Ty,G m τ τ.zero
 | .int k=>by cases k<;>first|trivial|exact⟨δ,δ⟩
 | .slice _=>G.nil
 | .pair a b=>⟨G.zero m a,G.zero m b⟩
 | .bool=>trivial
 | .str=>trivial
 | .unit=>trivial
 | .arr _ _=>trivial
theorem G.at{m:Nat}{e:Ty}{l:List e.den}(h:G m (.slice e) l)(k:Nat):G m e (l.getD k e.zero):=h.get (G.zero m e) k
theorem G.set{m:Nat}{e:Ty}{l:List e.den}{x:e.den}(h:G m (.slice e) l)(hx:G m e x)(k:Nat):G m (.slice e) (l.set k x):=
 ⟨by rw[bU];exact h.1,λy hy=>by
  rcases vq hy with hy|rfl
  ·exact h.2 y hy
  ·exact hx⟩
theorem gJ(x:Int):aF (W .i64 x):=by
 rw[gN];unfold aF;split<;>omega
def Bg(k:Nat)(z:aL):Prop:= ∃v,z=cI v∧Fit v k
theorem Bg.mono{j k:Nat}{z:aL}(h:Bg j z)(hk:j≤k):Bg k z:=by
 obtain⟨v,e,f⟩:=h
 exact⟨v,e,Fit.mono f hk⟩
theorem Bg.zero:Bg 1 (false,(([]:List Int),())):=⟨0,g8.symm,by unfold Fit;decide⟩
theorem bH(hN:4000000≤N){x:Int}(h:aF x):Ok (Bg 2) (eC N x):=nK (dd N ω h.1 h.2) ⟨x,rfl,Fit.i64 h.1 h.2⟩
theorem lW(hN:4000000≤N){k:Nat}(hk:k≤90000){u v:aL}(hu:Bg k u)(hv:Bg k v):Ok (Bg (k+1)) (nk N u v):=by
 obtain⟨a,rfl,ha⟩:=hu
 obtain⟨b,rfl,hb⟩:=hv
 exact nK (iN N hN (Fit.mono ha ω) (Fit.mono hb ω)) ⟨_,rfl,Fit.add ha hb⟩
theorem zb(hN:4000000≤N){k:Nat}(hk:k≤90000){u v:aL}(hu:Bg k u)(hv:Bg k v):Ok (Bg (k+1)) (Ac N u v):=by
 obtain⟨a,rfl,ha⟩:=hu
 obtain⟨b,rfl,hb⟩:=hv
 exact nK (ra N hN (Fit.mono ha ω) (Fit.mono hb ω)) ⟨_,rfl,by rw[Int.sub_eq_add_neg];exact Fit.add ha (Fit.neg hb)⟩
theorem rL(hN:4000000≤N){k:Nat}(hk:k≤90000){u:aL}(hu:Bg k u):Ok (Bg k) (E8 N u):=by
 obtain⟨a,rfl,ha⟩:=hu
 exact nK (pe N hN (Fit.mono ha ω)) ⟨_,rfl,Fit.neg ha⟩
theorem Cl(hN:4000000≤N){k:Nat}(hk:k≤90000){u:aL}(hu:Bg k u):Ok (Bg k) (CZ N u):=by
 obtain⟨a,rfl,ha⟩:=hu
 exact nK (BM N hN (Fit.mono ha ω)) ⟨_,rfl,Fit.of_le ha ω⟩
theorem mQ(hN:4000000≤N){j k:Nat}(hj:j≤90000)(hk:k≤90000){u v:aL}(hu:Bg j u)(hv:Bg k v):Ok (Bg (j+k)) (ei N u v):=by
 obtain⟨a,rfl,ha⟩:=hu
 obtain⟨b,rfl,hb⟩:=hv
 exact nK (sx N hN (Fit.mono ha hj) (Fit.mono hb hk)) ⟨_,rfl,Fit.mul ha hb⟩
theorem Ga{k:Nat}{u:aL}(hu:Bg k u):Ok (λ_=>True) (Uw N u):=by
 obtain⟨a,rfl,ha⟩:=hu
 exact nK (pM N a) trivial
theorem qK(hN:4000000≤N){j k:Nat}(hj:j≤90000)(hk:k≤90000){u v:aL}(hu:Bg j u)(hv:Bg k v):Ok (λ_=>True) (wW N u v):=by
 obtain⟨a,rfl,ha⟩:=hu
 obtain⟨b,rfl,hb⟩:=hv
 exact nK (HB N hN (Fit.mono ha ω) (Fit.mono hb ω)) trivial
theorem aae(v:Int):aF (C0 v).1:=by
 by_cases h:aF v
 ·rw[wb h];exact h
 ·rw[y4 h];unfold aF;decide
theorem yr{k:Nat}{u:aL}(hu:Bg k u):Ok (λr=>aF r.1) (xW N u):=by
 obtain⟨a,rfl,ha⟩:=hu
 exact nK (uk N a) (aae a)
abbrev L3(m:Nat)(l:au):Prop:=G m (.slice kd) l
def kR(m:Nat)(p:bO):Prop:=p.length≤m∧ ∀y∈p,Bg 8 y.2.2.1
theorem kR.at{m:Nat}{p:bO}(h:kR m p)(i:Nat):Bg 8 (p.getD i ((0:Int),((0:Int),((false,oZ),())))).2.2.1:=by
 by_cases hk:i<p.length
 ·rw[aW,bm hk];exact h.2 _ (dG hk)
 ·rw[aW,iq ω];exact Bg.mono Bg.zero δ
theorem kR.nil{m:Nat}:kR m []:=⟨bs _,λx hx=>nomatch hx⟩
theorem kR.app{m n:Nat}{p q:bO}(h:kR m p)(h':kR n q):kR (m+n) (p++q):=
 ⟨by have:=h.1;have:=h'.1;rw[aS];omega,λy hy=>(bn.1 hy).elim (h.2 y) (h'.2 y)⟩
theorem kR.mono{m n:Nat}{p:bO}(h:kR m p)(hm:m≤n):kR n p:=⟨ck h.1 hm,h.2⟩
theorem EI{k:Nat}{u:aL}(hu:Bg k u):Ok (λr=>aF r.1) (SO N u):=by
 unfold SO
 refine ah (yr N hu) λr h=>bI (λ_=>aq (by unfold aF;decide)) λ_=>ok_eq (λ_=>aq (by unfold aF;decide)) λ_=>aq h
theorem jE{x:Int}(h0: -1000000≤x)(h1:x≤1000000):aF x:=by unfold aF;omega
theorem G3{m:Nat}{a b c:Int}(ha:aF a)(hb:aF b)(hc:aF c):G m kd (a,(b,(c,()))):=⟨ha,hb,hc,trivial⟩
theorem cc:aF 0:=by unfold aF;decide
theorem W2(hN:4000000≤N){x k n:Int}{p:bO}(hx:aF x)(hp:kR 50000 p):Ok (λr=>aF r.1) (oE N x k n p):=by
 have hl:=hp.1
 refine bt (len:=p.length) (F:=λn' i (s:aL×Bool)=>oE.l3 N n' x k n p s.1 s.2 i) (s:=(_,_)) (λi s=>Bg (8+i) s.1) (Bg.mono Bg.zero ω) ω (λn' i s hi hI hr=> ?_) (λn' s hI=> ?_)
 all_goals unfold oE.l3 oE.nY
 ·rw[aw (x:=(i:Int)+1) ω ω,af i]
  have h1:=hr (s.1,s.2) (Bg.mono hI ω)
  repeat' first|exact h1|refine aB ⟨ω,ω⟩ ?_|refine ax (λ_=> ?_) (λ_=> ?_)|refine ok_eq (λ_=> ?_) (λ_=> ?_)|(exfalso;omega)|exact ah (lW N hN ω hI (Bg.mono (hp.at _) ω)) λr h=>hr (r,true) h
 ·refine ax (λ_=>ω) λ_=>bI (λ_=>aq hx) λ_=>ah (bH N hN hx) λr h=>ah (lW N hN ω hI (Bg.mono h ω)) λr h=>ah (yr N h) λr h=>aq h
theorem adx(hN:4000000≤N){l:au}{p:bO}{m:Nat}(hm:m≤50000)(hl:L3 m l)(hp:kR 50000 p):Ok (λr=>L3 200 r.1) (dR N l p):=by
 have Jo:=hl.1
 refine jk (len:=8) (F:=λn k (s:au×Int)=>dR.l4 N n l p s.1 s.2 k) (λi s=>L3 (25*i) s.1∧0≤s.2) (λn i s hi hI hr=> ?_) (λn s hI=> ?_) 8 N 1 (_,_) ω ω ω ⟨G.nil,fY 0⟩
 all_goals unfold dR.l4 dR.dM
 ·refine eR (λ_=> ?_) (λ_=>ω)
  refine bt (len:=25) (F:=λn' j (s:au×Int)=>dR.l7 N (dR.l4 N n) n' l p s.1 s.2 (i:Int) j) (s:=s) (λj s=>L3 (25*i+j) s.1∧0≤s.2) hI ω (λn' j s hj hI ed=> ?_) (λn' s hI=> ?_)
  all_goals unfold dR.l7 dR.nR
  ·have ke: ∀(k x:Int),0≤k→aF x→Ok (λr=>L3 200 r.1) (dR.UP N (dR.l4 N n) (dR.l7 N (dR.l4 N n) n') l p s.1 k (i:Int) (j:Int) x):=λk x hk hx=>by
    unfold dR.UP dR.Mz
    rw[aw (x:=(j:Int)+1) ω ω,af j]
    have hs:=hI.1.1
    refine ah (W2 N hN hx hp) λr h=>bI (λ_=>aq G.nil) λ_=>bM (λ_=>aC (by rw[aJ];omega) (ed (_,k) ⟨G.app hI.1 (G3 (jE ω ω) (jE ω ω) h),hk⟩)) λ_=>ed (s.1,k) ⟨G.mono ω hI.1,hk⟩
   have h0:=ke s.2 0 hI.2 cc
   have Wd:=hI.2
   repeat' first|exact h0|refine aB ⟨ω,ω⟩ ?_|refine ax (λ_=> ?_) (λ_=> ?_)|refine eR (λ_=> ?_) (λ_=> ?_)|refine ok_eq (λ_=> ?_) (λ_=> ?_)|(exfalso;omega)|exact ke _ _ (by rw[aw (x:=s.2+1) ω ω];omega) (G.at hl _).2.2.1
  ·rw[aw (x:=(i:Int)+1) ω ω,af i]
   exact eR (λ_=>ω) λ_=>hr s ⟨G.mono ω hI.1,hI.2⟩
 ·exact eR (λ_=>ω) λ_=>aq (G.mono δ hI.1)
theorem Td(hN:4000000≤N){l t:au}{m:Nat}(hm:m≤50000)(hl:L3 m l)(ht:L3 50000 t):Ok (λr=>L3 200 r.1) (cS N l t):=by
 have Jo:=hl.1
 have htl:=ht.1
 refine bt (len:=25) (F:=λn k (s:au×Int)=>cS.l4 N n l t s.1 s.2 k) (s:=(_,_)) (λi s=>L3 (6*i) s.1∧0≤s.2) ⟨G.nil,fY 0⟩ ω (λn i s hi hI hr=> ?_) (λn s hI=> ?_)
 all_goals unfold cS.l4 cS.dM
 ·refine eR (λ_=> ?_) (λ_=>ω)
  refine bt (len:=6) (F:=λn' j (s:au×Int)=>cS.l7 N (cS.l4 N n) n' l t s.1 s.2 (i:Int) j) (s:=s) (λj s=>L3 (6*i+j) s.1∧0≤s.2) hI ω (λn' j s hj hI ed=> ?_) (λn' s hI=> ?_)
  all_goals unfold cS.l7 cS.nR
  ·have ke: ∀(k x:Int),0≤k→aF x→Ok (λr=>L3 200 r.1) (cS.UP N (cS.l4 N n) (cS.l7 N (cS.l4 N n) n') l t s.1 k (i:Int) (j:Int) x false):=λk x hk hx=>by
    unfold cS.UP cS.Mz
    have hs:=hI.1.1
    have Br: ∀y:Int,aF y→Ok (λr=>L3 200 r.1) (cond (!aM y 0) (cond (small (s.1.length+[(((i:Int),((j:Int),(y,()))):dg)].length)) (cS.l7 N (cS.l4 N n) n' l t (s.1++[((i:Int),((j:Int),(y,())))]) k (i:Int) (W .i64 ((j:Int)+1))) none) (cS.l7 N (cS.l4 N n) n' l t s.1 k (i:Int) (W .i64 ((j:Int)+1)))):=λy hy=>by
     rw[aw (x:=(j:Int)+1) ω ω,af j]
     exact bM (λ_=>aC (by rw[aJ];omega) (ed (_,k) ⟨G.app hI.1 (G3 (jE ω ω) (jE ω ω) hy),hk⟩)) λ_=>ed (s.1,k) ⟨G.mono ω hI.1,hk⟩
    refine bt (len:=t.length) (F:=λLb u (z:aL×Bool)=>cS.KK N (cS.l4 N n) (cS.l7 N (cS.l4 N n) n') Lb l t s.1 k (i:Int) (j:Int) x z.2 z.1 u) (s:=(_,_)) (λu z=>Bg (3+u) z.1) (Bg.mono Bg.zero ω) ω (λLb u z hu hz aaf=> ?_) (λLb z hz=> ?_)
    all_goals unfold cS.KK cS.JY
    ·rw[aw (x:=(u:Int)+1) ω ω,af u]
     have h1:=aaf (z.1,z.2) (Bg.mono hz ω)
     repeat' first|exact h1|refine aB ⟨ω,ω⟩ ?_|refine ax (λ_=> ?_) (λ_=> ?_)|refine ok_eq (λ_=> ?_) (λ_=> ?_)|(exfalso;omega)|exact ah (bH N hN (G.at ht _).2.2.1) λr h=>ah (lW N hN ω hz (Bg.mono h ω)) λr h=>aaf (r,true) h
    ·exact ax (λ_=>ω) λ_=>qc (λ_=>ah (bH N hN hx) λr h=>ah (lW N hN ω hz (Bg.mono h ω)) λr h=>ah (EI N h) λr h=>bI (λ_=>aq G.nil) λ_=>Br _ h) λ_=>Br _ hx
   have h0:=ke s.2 0 hI.2 cc
   have Wd:=hI.2
   repeat' first|exact h0|refine aB ⟨ω,ω⟩ ?_|refine ax (λ_=> ?_) (λ_=> ?_)|refine eR (λ_=> ?_) (λ_=> ?_)|refine ok_eq (λ_=> ?_) (λ_=> ?_)|(exfalso;omega)|exact ke _ _ (by rw[aw (x:=s.2+1) ω ω];omega) (G.at hl _).2.2.1
  ·rw[aw (x:=(i:Int)+1) ω ω,af i]
   exact ax (λ_=>ω) λ_=>hr s ⟨G.mono ω hI.1,hI.2⟩
 ·exact eR (λ_=>ω) λ_=>aq (G.mono δ hI.1)
theorem G.jH{m:Nat}:G m aK (cn,(cW,(bo,(bo,(di,(du,())))))):=G.zero m aK
theorem tW(hN:4000000≤N){b:an}{s:au}{p:bO}{m:Nat}(h2:200≤m)(hm:m≤50000)(hb:G m aK b)(hs:L3 50000 s)(hp:kR 50000 p):Ok (λr=>G m aK r.1) (zt N b s p):=by
 unfold zt
 exact ah (Td N hN hm hb.2.2.2.1 hs) λr h=>bI (λ_=>aq G.jH) λ_=>ah (adx N hN hm hb.2.2.1 hp) λr' h'=>bI (λ_=>aq G.jH) λ_=>aq ⟨hb.1,hb.2.1,G.mono h2 h',G.mono h2 h,hb.2.2.2.2⟩
theorem bV{α β:Type}{P:β→Prop}{o:Option α}{r:α}{f:α→Option β}(h:o=some r)(hf:Ok P (f r)):Ok P (o.bind f):=by rw[h];exact hf
theorem G.wf{m:Nat}(hm:m≤50000){b:an}(h:G m aK b):m5 b:=by
 obtain⟨h1,h2,h3,h4,h5,h6,_⟩:=h
 exact⟨⟨ck h1.1 ω,ck h2.1 ω,ck h3.1 ω,ck h4.1 ω,ck h5.1 ω,ck h6.1 ω,λx hx=>(h3.2 x hx).2.2.1,λx hx=>(h4.2 x hx).2.2.1⟩,ck h3.1 ω,ck h4.1 ω⟩
theorem eo(hN:5000000≤N){c:ae}{b:an}{m:Nat}(hm:m≤50000)(h:G m aK b):gH N c b=some (dh c b):=qa N hN (G.wf hm h).w
theorem ady{x:Int}(h:c5 x):aF x:=by unfold c5 at h;unfold aF;omega
theorem J1(hN:4000000≤N)(t:kQ)(p:Int):Ok (λr=>kR 2 r.1) (PH N t p):=by
 unfold PH
 refine bV (vb N t) (bI (λ_=>aq kR.nil) λht=>bV (jz N p) (bI (λ_=>aq kR.nil) λ_=>ah (bH N hN (gJ _)) λa ha=>ah (bH N hN ?_) λq hq=>ah (mQ N hN ω ω ha hq) λx hx=>ah (Ga N hx) λ_ _=>ok_eq (λ_=>aq kR.nil) λ_=> ?_))
 ·have:=bD ht
  unfold dx ki at this
  exact fH δ this.2.2.2.2.1.1 |> λh=>⟨h,rP this.2.2.2.2.1.2 δ⟩
 ·unfold MD
  have hr: ∀a:Int,Ok (λ_=>True) (cond (aM a 0) (some ((2:Int),(0:Int))) (some ((5:Int),a))):=λa=>ok_eq (λ_=>aq trivial) λ_=>aq trivial
  refine ah (hr _) λ_ _=>ah (hr _) λ_ _=>ah (rL N hN ω hx) λy hy=>aq ⟨aH 2,λz hz=> ?_⟩
  rcases bh.1 hz with rfl|hz
  ·exact Bg.mono hx ω
  ·rw[cy.1 hz];exact Bg.mono hy ω
theorem P4(hN:200000≤N){b:an}{m:Nat}(hm:m≤50000)(h:G m aK b)(id:Int):Ok (λ_=>True) (F48 N b id):=nK (p9 N b (G.wf hm h).w.a hN id) trivial
theorem Lc(hN:5000000≤N)(c:ae){b:an}{l:bE}{m:Nat}(h2:200≤m)(hm:m≤50000)(hb:G m aK b):Ok (λr=>G m aK r.1) (nS N c b l):=by
 unfold nS nS.b
 refine bV (eo N hN hm hb) (bI (λ_=>aq G.jH) λhB=>ax (λ_=>aq G.jH) λhl=> ?_)
 obtain⟨hp,_⟩:=dY hB
 refine bt (len:=l.length) (F:=λn i (_:Unit)=>nS.l4 N n l c b (cn,(cW,(bo,(bo,(di,(du,())))))) i) (s:=()) (λi _=> ∀j,j<i→dx (l.getD j gv)) (λj hj=>ω) ω (λn i _ hi hI hr=> ?_) (λn _ hI=> ?_)
 all_goals unfold nS.l4 nS.dM
 ·rw[aw (x:=(i:Int)+1) ω ω,af i]
  refine ax (λ_=>aB ⟨ω,ω⟩ (bV (vb N _) (bI (λ_=>aq G.jH) λht=>hr () λj hj=> ?_))) λ_=>ω
  by_cases e:j=i
  ·rw[e];exact bD ht
  ·exact hI j ω
 ·refine ax (λ_=>ω) λ_=> ?_
  refine bt (len:=l.length) (F:=λn i (s:au×bO)=>nS.An N n l c b (cn,(cW,(bo,(bo,(di,(du,())))))) s.1 s.2 i) (s:=(_,_)) (λi s=>L3 (2*i) s.1∧kR (2*i) s.2) ⟨G.nil,kR.nil⟩ ω (λn i s hi hJ hr=> ?_) (λn s hJ=> ?_)
  all_goals unfold nS.An nS.yg
  ·have ht:=hI i hi
   unfold dx ki at ht
   have NA:=hJ.1.1
   have Wd:=hJ.2.1
   have g64: ∀x:Int,0≤x∧x≤1000000→aF x:=λx h=>jE ω ω
   dsimp only
   rw[aw (x:=(i:Int)+1) ω ω,af i,aG]
   refine ax (λ_=>aB ⟨ω,ω⟩ (ah (P4 N ω hm hb _) λ_ _=>bI (λ_=>aq G.jH) λ_=>ah (P4 N ω hm hb _) λ_ _=>bI (λ_=>aq G.jH) λ_=>eR (λ_=>aq G.jH) λeU=>aC ?_ (aB ⟨ht.2.2.2.1.1,ω⟩ (ah (J1 N ω _ _) λr h=>aC ?_ (hr (_,_) ⟨?_,kR.mono (kR.app hJ.2 h) ω⟩))))) λ_=>ω
   ·rw[aT,aJ];omega
   ·have:=h.1;omega
   ·have hq:aF (l.getD i gv).2.2.2.1:=⟨fH δ ht.2.2.2.2.1.1,rP ht.2.2.2.2.1.2 δ⟩
    have oj:aF (l.getD i gv).2.2.1:=g64 _ ⟨ht.2.2.2.1.1,fH (Int.le_of_lt ht.2.2.2.1.2) δ⟩
    have h1:=G.app (G.app hJ.1 (G3 (g64 _ ⟨ht.1.1,fH ht.1.2 δ⟩) oj hq)) (G3 (g64 _ ⟨ht.2.1.1,fH ht.2.1.2 δ⟩) oj (gJ (0-(l.getD i gv).2.2.2.1)))
    rw[bF]at h1
    exact G.mono ω h1
  ·exact ax (λ_=>ω) λ_=>ah (tW N ω h2 hm hb (G.mono ω hJ.1) (kR.mono hJ.2 ω)) λr h=>aq h
def J2(k:Nat)(l:qm):Prop:= ∀x∈l,Bg k x
theorem J2.mono{j k:Nat}{l:qm}(h:J2 j l)(hk:j≤k):J2 k l:=λx hx=>Bg.mono (h x hx) hk
theorem J2.at{k:Nat}{l:qm}(h:J2 k l)(h1:1≤k)(i:Nat):Bg k (l.getD i (false,oZ)):=by
 by_cases hk:i<l.length
 ·rw[aW,bm hk];exact h _ (dG hk)
 ·rw[aW,iq ω];exact Bg.mono Bg.zero h1
theorem J2.set{k:Nat}{l:qm}{x:aL}(h:J2 k l)(hx:Bg k x)(i:Nat):J2 k (l.set i x):=λy hy=>by
 rcases vq hy with hy|rfl
 ·exact h y hy
 ·exact hx
theorem J2.rep{k n:Nat}(h:1≤k):J2 k (List.replicate n (false,oZ)):=λx hx=>by
 rw[(List.mem_replicate.1 hx).2];exact Bg.mono Bg.zero h
theorem adz(hN:5000000≤N)(c:ae){b:an}{m:Nat}(hm:m≤50000)(hb:G m aK b):Ok (λr=>(r.2=0→dh c b=true∧r.1.length=4)∧J2 20 r.1) (sM N c b):=by
 unfold sM sM.b
 have w:=(G.wf hm hb).w
 refine bV (eo N hN hm hb) (bI (λ_=>aq ⟨λh=>absurd h δ,λx hx=>nomatch hx⟩) λhB=>adw ⟨ω,ω,ω⟩ ?_)
 obtain⟨hp,Bv⟩:=dY hB
 obtain⟨h6,hbk⟩:=tL (wk hB)
 refine bt (len:=c.1.length) (F:=λn i (s:qm)=>sM.l5 N n c b s i) (λi s=>s.length=4∧J2 (8+i) s) ⟨c9 ..,J2.rep ω⟩ ω (λn i s hi hI hr=> ?_) (λn s hI=> ?_)
 all_goals unfold sM.l5 sM.dV
 ·have hk:=hbk i hi
  have hl:=hI.1
  rw[aw (x:=(i:Int)+1) ω ω,af i,aG]
  have in1: ∀{x y:Option (qm×Int)},Ok (λr=>(r.2=0→dh c b=true∧r.1.length=4)∧J2 20 r.1) x→Ok (λr=>(r.2=0→dh c b=true∧r.1.length=4)∧J2 20 r.1) (cond (bg (c.1.getD i bb).1 s.length) x y):=λh=>aB ⟨hk.1,rP hk.2 (show(3:Int)<(s.length:Int)by omega)⟩ h
  exact ax (λ_=>aB ⟨ω,ω⟩ (in1 (bV (FY N w.s ω 0 (i:Int)) (ah (bH N ω (ZU w.qs 0 (i:Int))) λa ha=>aB ⟨ω,ω⟩ (ah (bH N ω (ady (qg Bv ω))) λp hp=>ah (mQ N ω ω ω ha hp) λx hx=>ah (lW N ω ω (J2.at hI.2 ω _) (Bg.mono hx ω)) λy hy=>in1 (hr _ ⟨by rw[bU];exact hl,J2.set (J2.mono hI.2 ω) hy _⟩)))))) λ_=>ω
 ·exact ax (λ_=>ω) λ_=>aq ⟨λ_=>⟨hB,hI.1⟩,J2.mono hI.2 ω⟩
theorem aqs{v:Int}(h:(C0 v).2=true):(C0 v).1=v:=by
 by_cases h':aF v
 ·rw[wb h']
 ·rw[y4 h']at h;exact nomatch h
def J3(c:ae)(x:cO):Prop:=((λi n:Int=>0≤i∧i<n) x.2.1 c.1.length)∧qIn x.2.2.2.1
theorem Ld(hN:5000000≤N)(c:ae)(hc:aF (aqo c)){b:an}{m:Nat}(hm:m≤50000)(hb:G m aK b)(next:Int):Ok (λr=>G 4 (.slice ff) r.1∧ ∀x∈r.1,J3 c x) (jJ N c b next):=by
 unfold jJ jJ.b
 refine ah (adz N hN c hm hb) λz hz=>bM (λ_=>aq ⟨G.nil,λx hx=>nomatch hx⟩) λh0=>ax (λ_=>aq ⟨G.nil,λx hx=>nomatch hx⟩) λh1=>ax (λ_=>aq ⟨G.nil,λx hx=>nomatch hx⟩) λh2=> ?_
 obtain⟨hB,hl4⟩:=hz.1 h0
 obtain⟨hp,Bv⟩:=dY hB
 obtain⟨h6,hbk⟩:=tL (wk hB)
 refine bt (len:=4) (F:=λn k (s:Int×aN)=>jJ.l6 N n s.1 c b z.1 s.2 k) (s:=(_,_)) (λk s=>(G k (.slice ff) s.2∧ ∀x∈s.2,J3 c x)∧next≤s.1∧s.1≤next+k) ⟨⟨G.nil,λx hx=>nomatch hx⟩,ω,ω⟩ ω (λn k s hk hI hr=> ?_) (λn s hI=> ?_)
 all_goals unfold jJ.l6 jJ.uU
 ·have NA:=hI.1.1.1
  have Wd:=hI.2
  rw[aw (x:=(k:Int)+1) ω ω,af k]
  have tG:=hr s ⟨⟨G.mono ω hI.1.1,hI.1.2⟩,ω,ω⟩
  obtain⟨a,ea,ha⟩:=J2.at hz.2 ω k
  have ha':Fit (a.natAbs:Int) 20:=Fit.of_le ha ω
  refine ax (λ_=>bV (S3 N ω c ω (k:Int)) (aB ⟨ω,ω⟩ (bV (by rw[aG,ea];exact BM N ω (ha.mono ω)) (ok_eq (λ_=>tG) λkN=>ah (bH N ω hc) λv hv=>ah (qK N ω ω ω ⟨_,rfl,ha'⟩ hv) λ_ _=>eR (λ_=>tG) λ_=> ?_)))) λ_=>ω
  have aqt:jF c (k:Int)≠[]:=λe=>kN (by rw[e];rfl)
  have hh:0≤(jF c (k:Int)).getD 0 0∧(jF c (k:Int)).getD 0 0<(c.1.length:Int):=by
   have h1:=aqt
   unfold jF at h1 ⊢
   rw[wk hB,ak rfl]at h1 ⊢
   have:=EE h1
   omega
  have hl0:0<(jF c (k:Int)).length:=pT.2 aqt
  have hpx:=qg Bv (i:=((jF c (k:Int)).getD 0 0).toNat) ω
  have hj: ∀q:Int,0≤q∧q≤1000000000→Ok (λr=>G 4 (.slice ff) r.1∧ ∀x∈r.1,J3 c x) (jJ.Dt N (jJ.l6 N n) s.1 c b z.1 s.2 (k:Int) (jF c (k:Int)) q):=λq hq=>by
   have awp:aF q:=by unfold aF;omega
   unfold jJ.Dt jJ.w3
   rw[aw (x:=(k:Int)+1) ω ω,af k,aw (x:=s.1+1) ω ω]
   have Br:q≠0→ ∀d:Int,aF d→Ok (λr=>G 4 (.slice ff) r.1∧ ∀x∈r.1,J3 c x) (cond (small (s.2.length+[((s.1,((jF c (k:Int)).getD 0 0,(d,(q,())))):cO)].length)) (jJ.l6 N n (s.1+1) c b z.1 (s.2++[(s.1,((jF c (k:Int)).getD 0 0,(d,(q,()))))]) ((k+1:Nat):Int)) none):=λwU d hd=>
    aC (by rw[aJ];omega) (hr (_,_) ⟨⟨G.app hI.1.1 ⟨by show aF s.1;unfold aF;omega,(show aF ((jF c (k:Int)).getD 0 0)from jE ω ω),hd,awp,trivial⟩,λx hx=>by
     rcases bn.1 hx with hx|hx
     ·exact hI.1.2 x hx
     ·rw[List.mem_singleton.1 hx];exact⟨hh,show 1≤q∧q≤1000000000 by omega⟩⟩,by dsimp only;omega,by dsimp only;omega⟩)
   exact ok_eq (λ_=>tG) λwU=>aB ⟨ω,ω⟩ (aB ⟨ω,ω⟩ (ah (Ga N (J2.at hz.2 ω _)) λ_ _=>ax (λ_=>Br wU 2 (jE ω ω)) λ_=>Br wU 1 (jE ω ω)))
  refine aB ⟨ω,ω⟩ (aB ⟨hh.1,by show(jF c (k:Int)).getD 0 0<_;omega⟩ ?_)
  have awq:=hpx
  unfold c5 at awq
  rw[show(0:Int).toNat=0 from rfl]
  refine bV (dd N ω ω ω) (bV (Uz N hN ω (Fit.mono ha' ω) ((Fit.i64 ω ω).mono ω)) (bV (uk N _) (bI (λ_=>hj _ δ) λht=>ax (λ_=>hj _ δ) λhle=>hj _ ?_)))
  rw[aqs ht]at hle ⊢
  exact⟨uC ω ω,hle⟩
 ·exact ax (λ_=>ω) λ_=>aq hI.1
theorem W3(hN:5000000≤N)(c:ae)(hc:aF (aqo c)){b:an}{m:Nat}(hm:m≤50000)(hb:G m aK b)(next:Int):Ok (λr=>G 4 (.slice ff) r.1) (jJ N c b next):=Mu (Ld N hN c hc hm hb next) λ_ h=>h.1
theorem Iu(hN:200000≤N){l:aY}(hl:l.length≤100000)(a:Int):Ok (λr=>L3 6 r) (fx N l a):=by
 unfold fx fx.b
 refine bt (len:=6) (F:=λn k (s:au)=>fx.l3 N n l a s k) (λk s=>L3 k s) G.nil ω (λn k s hk hI hr=> ?_) (λn s hI=> ?_)
 all_goals unfold fx.l3 fx.nY
 ·have hs:=hI.1
  refine ax (λ_=> ?_) λ_=>ω
  refine bt (len:=l.length) (F:=λn' i (x:dg)=>fx.l7 N (fx.l3 N n) n' l a s (k:Int) x i) (λi x=>G 6 kd x) (G3 (jE ω ω) cc cc) ω (λn' i x hi hx ed=> ?_) (λn' x hx=> ?_)
  all_goals unfold fx.l7 fx.nR
  ·rw[aw (x:=(i:Int)+1) ω ω,af i]
   have h1:=ed x hx
   repeat' first|exact h1|refine aB ⟨ω,ω⟩ ?_|refine ax (λ_=> ?_) (λ_=> ?_)|refine bM (λ_=> ?_) (λ_=> ?_)|refine ok_eq (λ_=> ?_) (λ_=> ?_)|(exfalso;omega)|exact ed (_,(_,(_,_))) ⟨hx.1,gJ _,hx.2.2.1,trivial⟩|exact ed (_,(_,(_,_))) ⟨hx.1,hx.2.1,gJ _,trivial⟩
  ·rw[aw (x:=(k:Int)+1) ω ω,af k]
   have h1:=hr s (G.mono ω hI)
   have h2:=hr (s++[x]) ⟨by rw[aS,aJ];omega,λy hy=>by
    rcases bn.1 hy with hy|hy
    ·exact G.mono ω (hI.2 y hy)
    ·rw[cy.1 hy];exact⟨hx.1,hx.2.1,hx.2.2.1,trivial⟩⟩
   repeat' first|exact h1|exact h2|refine aC (by rw[aJ];omega) ?_|refine ax (λ_=> ?_) (λ_=> ?_)|(exfalso;omega)
 ·exact ax (λ_=>ω) λ_=>aq hI
theorem Le(hN:200000≤N)(c:ae){l:au}(hl:l.length≤100000):Ok (λ_=>True) (mP N c l):=by
 unfold mP mP.b
 refine bV (mK N ω c) (bI (λ_=>aq trivial) λ_=>m8 (len:=l.length) (F:=λn i=>mP.l5 N n l c 33000000000 i) ω (λn i hi hr=> ?_) λn=> ?_)
 all_goals unfold mP.l5 mP.dV
 ·rw[aw (x:=(i:Int)+1) ω ω,af i]
  dsimp only
  repeat' first|exact hr|exact aq trivial|refine aB ⟨ω,ω⟩ ?_|refine aB (by rw[aw (x:=(i:Int)-1) ω ω];omega) ?_|refine ax (λ_=> ?_) (λ_=> ?_)|refine eR (λ_=> ?_) (λ_=> ?_)|refine ok_eq (λ_=> ?_) (λ_=> ?_)|(exfalso;omega)
 ·exact ax (λ_=>ω) λ_=>aq trivial
theorem MQ{k:Nat}(h:1≤k):Bg k (false,(([]:List Int),())):=Bg.mono Bg.zero h
theorem aag(hN:4000000≤N)(c:ae){l:aE}{o:au}{m:Nat}(hm:m≤50000)(hl:G m (.slice kM) l)(ho:L3 m o)(k:Int):Ok (λr=>Bg 3 r.1) (gE N c l o k):=by
 have h1:=hl.1
 have h2:=ho.1
 unfold gE gE.b
 refine bV (u5 N ω c ω) (bI (λ_=>aq (MQ ω)) λ_=>ah (Le N ω c ω) λ_ _=>bI (λ_=>aq (MQ ω)) λ_=>ax (λ_=>aq (MQ ω)) λ_=>eR (λ_=>aq (MQ ω)) λ_=> ?_)
 refine bt (len:=l.length) (F:=λn i (q:aL)=>gE.l7 N n l o k (false,(([]:List Int),())) q (false,(([]:List Int),())) (false,(([]:List Int),())) i) (λ_ q=>Bg 2 q) (MQ ω) ω (λn i q hi hq hr=> ?_) (λn q hq=> ?_)
 all_goals unfold gE.l7 gE.nR
 ·rw[aw (x:=(i:Int)+1) ω ω,af i]
  exact ax (λ_=>aB ⟨ω,ω⟩ (ok_eq (λ_=>aB ⟨ω,ω⟩ (ah (bH N hN (G.at hl _).2.1) λr h=>hr r h)) λ_=>hr q hq)) λ_=>ω
 ·refine ax (λ_=>ω) λ_=> ?_
  refine bt (len:=o.length) (F:=λn i (z:aL×aL)=>gE.nJ N n o k (false,(([]:List Int),())) q z.1 z.2 i) (s:=(_,_)) (λ_ z=>Bg 2 z.1∧Bg 2 z.2) ⟨MQ ω,MQ ω⟩ ω (λn i z hi hz hr=> ?_) (λn z hz=> ?_)
  all_goals unfold gE.nJ gE.mN
  ·rw[aw (x:=(i:Int)+1) ω ω,af i]
   exact ax (λ_=>aB ⟨ω,ω⟩ (ok_eq (λ_=>aB ⟨ω,ω⟩ (ah (bH N hN (G.at ho _).2.1) λr h=>aB ⟨ω,ω⟩ (ah (bH N hN (G.at ho _).2.2.1) λr' h'=>hr (r,r') ⟨h,h'⟩))) λ_=>hr z hz)) λ_=>ω
  ·exact ax (λ_=>ω) λ_=>ah (lW N hN ω hq hz.1) λx hx=>ah (Cl N hN ω hx) λx hx=>ah (zb N hN ω hq hz.2) λy hy=>ah (Cl N hN ω hy) λy hy=>ah (qK N hN ω ω hy hx) λ_ _=>ax (λ_=>aq hy) λ_=>aq hx
theorem P5(hN:4000000≤N){c:ae}{l:aE}{o:au}{m:Nat}(hm:m≤50000)(hc:G m aA c)(hl:G m (.slice kM) l)(ho:L3 m o):Ok (λr=>Bg 60000 r.1) (nT N c l o):=by
 have h1:=hl.1
 have h2:=ho.1
 have h3:=hc.1.1
 unfold nT nT.b
 refine bV (u5 N ω c ω) (bI (λ_=>aq (MQ ω)) λ_=>ah (Le N ω c ω) λ_ _=>bI (λ_=>aq (MQ ω)) λ_=> ?_)
 refine bt (len:=c.1.length) (F:=λn i (t:aL)=>nT.l5 N n l o c (false,(([]:List Int),())) t i) (λi t=>Bg (8+i) t) (MQ ω) ω (λn i t hi ht hr=> ?_) (λn t ht=> ?_)
 all_goals unfold nT.l5 nT.dV
 ·rw[aw (x:=(i:Int)+1) ω ω,af i]
  exact ax (λ_=>ah (aag N hN c hm hl ho _) λx hx=>aB ⟨ω,ω⟩ (ah (bH N hN (G.at hc.1 _).2.2.1) λr h=>ah (mQ N hN ω ω hx h) λy hy=>ah (lW N hN ω ht (Bg.mono hy ω)) λz hz=>hr z hz)) λ_=>ω
 ·exact ax (λ_=>ω) λ_=>aq (Bg.mono ht ω)
theorem aqu{m:Nat}{l:au}(h:L3 m l)(a:Int):G m (.slice kM) (posOf l a):=by
 refine⟨ck (Dl a l) h.1,λy hy=> ?_⟩
 unfold posOf at hy
 split at hy
 ·obtain⟨x,hx,_,e⟩:=nv hy
  rw[e];exact⟨(h.2 x hx).2.1,(h.2 x hx).2.2.1,trivial⟩
 ·nomatch hy
theorem P6(hN:200000≤N){l:au}{m:Nat}(hm:m≤50000)(h:L3 m l)(a:Int):Ok (G m (.slice kM)) (mO N l a):=nK (SX N (ck h.1 ω) hN a) (aqu h a)
theorem Iv(hN:4000000≤N){c:ae}{b:an}{l:aY}{m:Nat}(h2:200≤m)(hm:m≤40000)(hc:G m aA c)(hb:G m aK b)(hl:l.length≤1000)(a:Int):Ok (Bg 60000) (P7 N c b a l):=by
 have ho:=hb.2.2.2.2.2.1.1
 unfold P7
 refine aC (by rw[bZ];omega) ?_
 dsimp only
 rw[cD]
 exact aC ω (ah (P6 N ω ω hb.2.2.2.1 a) λr h=>ah (Iu N ω (by rw[aS];omega) a) λo h'=>ah (P5 N hN ω hc h (G.mono ω h')) λx hx=>aq hx)
theorem adA(hN:4000000≤N){o:gb}{m:Nat}(ho:G m nw o)(a:Int):Ok (λr=>Bg 4 r.1) (adB N o a):=by
 unfold adB
 have hw: ∀x:Int,Ok (λr:aL×Int=>Bg 4 r.1) ((eC N o.2.2.2.2.1).bind λr5=>(eC N (W .i64 x)).bind λr6=>(ei N r5 r6).bind λr7=>some (r7,(0:Int))):=λx=>
  ah (bH N hN ho.2.2.2.2.1) λr h=>ah (bH N hN (gJ _)) λr' h'=>ah (mQ N hN ω ω h h') λy hy=>aq hy
 exact bV (BS N o) (bI (λ_=>aq (MQ ω)) λ_=>bV (jz N a) (bI (λ_=>aq (MQ ω)) λ_=>ok_eq (λ_=>ax (λ_=>aq (MQ ω)) λ_=>hw _) λ_=>ax (λ_=>aq (MQ ω)) λ_=>hw _))
theorem alr{m:Nat}{a:aN}(h:G m (.slice ff) a)(id:Int):G m ff (eT a id).1:=by
 unfold eT
 split
 ·have: ∀l:aN,(∀x∈l,G m ff x)→G m ff (uZ id l).1:=by
   intro l
   induction l with
   |nil=>intro _;exact G.zero m ff
   |cons x t ih=>
    intro hx
    rw[pf]
    split
    ·exact hx x (bu ..)
    ·exact ih λy hy=>hx y (ba _ hy)
  exact this a h.2
 ·exact G.zero m ff
theorem zd(hN:200000≤N){a:aN}{m:Nat}(hm:m≤50000)(h:G m (.slice ff) a)(id:Int):Ok (λr=>G m ff r.1) (Dc N a id):=nK (ya N (ck h.1 ω) hN id) (alr h id)
theorem px(hN:200000≤N){a:aE}{m:Nat}(hm:m≤50000)(h:G m (.slice kM) a)(id:Int):Ok (λ_=>True) (UC N a id):=nK (pg N (ck h.1 ω) hN id) trivial
theorem ny(hN:200000≤N){l:au}{m:Nat}(hm:m≤50000)(h:L3 m l)(a b:Int):Ok aF (vn N l a b):=nK (MB N (ck h.1 ω) hN a b) (ZS (λx hx=>(h.2 x hx).2.2.1) a b)
theorem Iw(hN:200000≤N){a:aN}{m:Nat}(hm:m≤50000)(h:G m (.slice ff) a)(id:Int):Ok (λr=>G m ff r.1∧r=eT a id) (Dc N a id):=by
 obtain⟨r,e,hr⟩:=zd N hN hm h id
 exact⟨r,e,hr,oe (e.symm.trans (ya N (ck h.1 ω) hN id))⟩
theorem Cm(hN:5000000≤N){c:ae}{b:an}{o:gb}{m:Nat}(h2:200≤m)(hm:m≤40000)(hc:G m aA c)(hb:G m aK b)(ho:G m nw o):Ok (λe=>e=0→qU o∧(eT b.2.1 o.2.1).2=true∧lG o.2.2.1 c.1.length) (aah N c b o):=by
 have bad: ∀e:Int,e≠0→Ok (λe:Int=>e=0→qU o∧(eT b.2.1 o.2.1).2=true∧lG o.2.2.1 c.1.length) (some e):=λe h=>aq λh'=>absurd h' h
 have xa:=hb.2.2.2.2.2.1.1
 unfold aah
 refine bV (eo N hN ω hb) (bI (λ_=>bad _ δ) λhB=>bV (BS N o) (bI (λ_=>bad _ δ) λYr=>ah (Iw N ω ω hb.2.1 _) λx ⟨hx,Yu⟩=>bI (λ_=>bad _ δ) λhf=>ah (px N ω ω hb.1 _) λ_ _=>bM (λ_=>bad _ δ) λ_=>eR (λ_=>bad _ δ) λhi=>aC (by rw[bZ];omega) ?_))
 have hr:=bD Yr
 unfold qU Ai at hr
 obtain⟨hp,_⟩:=dY hB
 dsimp only
 rw[cD]
 exact aC (by rw[aJ];omega) (ah (P6 N ω ω hb.2.2.2.1 _) λr h=>ah (Iu N ω (by rw[aS,aJ];omega) _) λq h'=>ah (aag N ω c ω h (G.mono ω h') _) λt ht=>ah (bH N ω hx.2.2.2.1) λv hv=>ah (qK N ω ω ω ht hv) λ_ _=>ax (λ_=>bad _ δ) λ_=>aB ⟨hr.2.2.1.1,by rw[hp];exact hi⟩ (ah (adA N ω ho _) λe he=>ah (ny N ω ω hb.2.2.1 _ _) λg hg=>ah (bH N ω hg) λy hy=>ah (zb N ω ω (Bg.mono hy ω) he) λz hz=>ah (Iv N ω h2 hm hc hb (by rw[aJ];omega) _) λu hu=>ah (qK N ω ω ω hz hu) λ_ _=>ax (λ_=>bad _ δ) λ_=>aq λ_=>⟨bD Yr,by rw[←Yu];exact hf,hi⟩))
theorem U7(hN:5000000≤N){c:ae}{b:an}{h:cO}{a q p:Int}{m:Nat}(h2:200≤m)(hm:m≤40000)(hc:G m aA c)(hb:G m aK b)(hh:G m ff h)(ha:aF a)(hq:aF q)(hp:aF p):Ok (λr=>G m aK r.1∧G m ff r.2.1) (qL N c b h a q p):=by
 have ho:G m nw (h.1,(a,(h.2.1,(W .i64 (3-h.2.2.1),(q,(p,())))))):=⟨hh.1,ha,hh.2.1,gJ _,hq,hp,trivial⟩
 have et: ∀e:Int,Ok (λr:an×cO×Int=>G m aK r.1∧G m ff r.2.1) (some ((cn,(cW,(bo,(bo,(di,(du,())))))),(bb,e))):=λe=>aq ⟨G.jH,G.zero m ff⟩
 unfold qL qL.b
 have hj: ∀t:kQ,Ok (λr=>G m aK r.1∧G m ff r.2.1) (qL.j14 N q c b h (cn,(cW,(bo,(bo,(di,(du,())))))) bb t):=λt=>by
  unfold qL.j14 qL.adC
  exact ah (Lc N hN c h2 ω hb) λr hr=>bM (λ_=>et _) λ_=>aq ⟨hr,hh.1,hh.2.1,hh.2.2.1,gJ _,trivial⟩
 exact bV (eo N hN ω hb) (bI (λ_=>et _) λ_=>bV (yq N h) (bI (λ_=>et _) λ_=>ax (λ_=>et _) λ_=>ax (λ_=>et _) λ_=>ax (λ_=>et _) λ_=>ax (λ_=>et _) λ_=>ax (λ_=>et _) λ_=>ax (λ_=>et _) λ_=>ax (λ_=>et _) λ_=>ah (Cm N hN h2 hm hc hb ho) λe _=>bM (λ_=>et _) λ_=>ok_eq (λ_=>hj _) λ_=>hj _))
def Dk(k:Nat)(d:aP):Prop:=(∀x∈(d.1:List Int),0≤x∧x<18446744073709551616)∧0≤(d.2.1:Int)∧(d.2.1:Int)≤k
theorem Dk.mono{j k:Nat}{d:aP}(h:Dk j d)(hk:j≤k):Dk k d:=⟨h.1,h.2.1,fH h.2.2 ω⟩
def lx:Nat:=1000000000
theorem FT{k:Nat}{d:aP}(hk:k≤lx)(h:Dk k d):Ok (λr=>(0≤r.1∧r.1<18446744073709551616)∧Dk (k+1) r.2) (F74 N d):=by
 obtain⟨h1,h2,h3⟩:=h
 unfold lx at hk
 unfold F74
 have hw: ∀i:Int,0≤i→i≤(k:Int)→0≤W .i64 (i+1)∧W .i64 (i+1)≤((k+1:Nat):Int):=λi h0 h1=>by rw[aw ω ω];omega
 have hd:Dk (k+1) (d.1,(W .i64 (d.2.1+1),d.2.2)):=⟨h1,hw _ h2 h3⟩
 have hg: ∀(l:List Int) (i:Int),(∀x∈l,0≤x∧x<18446744073709551616)→0≤l.getD i.toNat 0∧l.getD i.toNat 0<18446744073709551616:=λl i hl=>by
  by_cases hi:i.toNat<l.length
  ·rw[aW,bm hi];exact hl _ (dG hi)
  ·rw[aW,iq ω];decide
 exact ax (λeU=>aB ⟨h2,eU⟩ (aq ⟨hg _ _ h1,hd⟩)) λ_=>aq ⟨(show(0:Int)≤0∧(0:Int)<18446744073709551616 by decide),hd⟩
theorem rem_in{x y:Int}(h0:0≤x)(hy:0<y):0≤rem x y∧rem x y<y:=by
 unfold rem;rw[jr]
 exact⟨Int.tmod_nonneg _ h0,Gs _ hy⟩
theorem jD(N:Nat){k:Nat}{d:aP}{n:Int}(hn:0<n∧n<1000000)(h:Dk k d)(hk:k≤lx:=by first|decide|(unfold lx;omega)):Ok (λr=>(0≤r.1∧r.1<n)∧Dk (k+1) r.2) (qV N d n):=by
 unfold qV
 refine ah (FT N hk h) λr hr=> ?_
 dsimp only
 rw[eG (x:=n) ω ω]
 have:=rem_in hr.1.1 hn.1
 refine ok_eq (λ_=>ω) λ_=>aq ⟨?_,hr.2⟩
 dsimp only
 rw[aw ω ω]
 exact this
theorem qG(N:Nat){k:Nat}{d:aP}{n:Int}(hn:0<n∧n<1000000)(h:Dk k d)(hk:k≤lx:=by first|decide|(unfold lx;omega)):Ok (λr=>Dk (k+1) r.2) (Te N d n):=by
 unfold Te
 exact ah (jD N hn h hk) λr hr=>aq hr.2
theorem Gb(N:Nat){k:Nat}{d:aP}(h:Dk k d)(hk:k≤lx:=by first|decide|(unfold lx;omega)):Ok (λr=>aF r.1∧Dk (k+1) r.2) (NH N d):=by
 unfold NH
 refine ah (FT N hk h) λr hr=>ok_eq (λ_=>ω) λ_=> ?_
 dsimp only
 repeat' first|exact aq ⟨gJ _,hr.2⟩|refine ax (λ_=> ?_) (λ_=> ?_)|refine ok_eq (λ_=> ?_) (λ_=> ?_)|(exfalso;omega)
theorem aai{x y:Int}(hy:0<y)(hy1:y<9223372036854775808):aF (rem x y):=by
 unfold rem;rw[jr]
 have h1:=Gs x hy
 have h2: -y<x.tmod y:=by
  have:=Gs (-x) hy
  rw[Int.neg_tmod]at this;omega
 unfold aF;omega
theorem BY{x y:Int}(hx:aF x)(hy:aF y):aF (mx x y):=by unfold mx;rw[jr];split<;>assumption
theorem Zy{x y:Int}(hx:aF x)(hy:aF y):aF (mn x y):=by unfold mn;rw[jr];split<;>assumption
theorem Tf{x n:Int}(h:0≤x∧x<n)(hn:n≤1000000):aF x:=jE ω ω
abbrev wL(m:Nat)(l:dq):Prop:=G m (.slice mc) l
theorem tg{k a b c d e f g:Int}{m:Nat}(h0:aF k)(h1:aF a)(h2:aF b)(h3:aF c)(h4:aF d)(h5:aF e)(h6:aF f)(h7:aF g):G m mc (k,(a,(b,(c,(d,(e,(f,(g,())))))))):=⟨h0,h1,h2,h3,h4,h5,h6,h7,trivial⟩
theorem bz{x:Int}(h: -1000000≤x∧x≤1000000:=by decide):aF x:=jE h.1 h.2
theorem MR{k:Nat}{d:aP}(h:Dk k d)(c:ae){i:Int}(hi:0≤i∧i<(c.1.length:Int))(hc:c.1.length≤5)(hk:k≤100000000):Ok (λr=>G 0 mc r.1∧Dk (k+5) r.2) (W4 N d c i):=by
 unfold W4
 have hb:aF 1000000000000:=by unfold aF;decide
 have oj:aF i:=jE ω ω
 exact aB hi (ah (jD N δ h) λa ⟨_,hd⟩=>ah (qG N δ hd) λr hd=>qc (λ_=>ah (Gb N hd) λr ⟨_,hd⟩=>ok_eq (λ_=>ω) λ_=>aq ⟨tg bz bz bz oj bz bz bz (gJ _),Dk.mono hd ω⟩) λ_=>aq ⟨tg bz bz bz oj bz bz bz (BY bz (Zy hb (gJ _))),Dk.mono hd ω⟩)
theorem P8{k:Nat}{d:aP}(h:Dk k d)(c:ae)(T1:1≤c.1.length)(hc:c.1.length≤5)(hk:k≤100000000):Ok (λr=>G 0 mc r.1∧Dk (k+10) r.2) (aaj N d c):=by
 unfold aaj
 have hb:aF 1000000000000:=by unfold aF;decide
 refine ah (jD N ⟨ω,ω⟩ h) λa ⟨ha,hd⟩=>ah (jD N δ hd) λb ⟨fb,hd⟩=> ?_
 dsimp only
 refine ah (jD N δ hd) λe ⟨he,hd⟩=>ah (jD N δ hd) λf ⟨hf,hd⟩=>aB ha (ah (jD N δ hd) λg ⟨_,hd⟩=>ah (qG N δ hd) λr hd=>qc (λ_=>ah (Gb N hd) λr ⟨_,hd⟩=>ok_eq (λ_=>ω) λ_=>ah (Gb N hd) λr' ⟨_,hd⟩=>ok_eq (λ_=>ω) λ_=>aq ⟨tg bz bz (gJ _) (Tf ha ω) (gJ _) bz (gJ _) (gJ _),Dk.mono hd ω⟩) λ_=>aq ⟨tg bz bz (gJ _) (Tf ha ω) (gJ _) bz (gJ _) (BY bz (Zy hb (gJ _))),Dk.mono hd ω⟩)
structure Cf(c:ae):Prop where
 g:G 5 aA c
 n:1≤c.1.length
theorem HM{k:Nat}{d:aP}(h:Dk k d){c:ae}(hc:Cf c)(hk:k≤10000000):Ok (λr=>G 0 mc r.1∧Dk (k+20) r.2) (F77 N d c):=by
 have hn:=hc.n
 have hl:=hc.g.1.1
 unfold F77
 refine ah (jD N δ h) λa ⟨ha,hd⟩=> ?_
 dsimp only
 refine ah (jD N δ hd) λb ⟨hb,hd⟩=>ah (jD N ⟨ω,ω⟩ hd) λi ⟨hi,hd⟩=>ah (jD N δ hd) λe ⟨he,hd⟩=> ?_
 have hz: ∀(e:iE) (j:Nat) (d:aP),G 0 mc e→Dk j d→j≤k+20→Ok (λr=>G 0 mc r.1∧Dk (k+20) r.2) (some (e,d)):=λe j d he hd hj=>aq ⟨he,Dk.mono hd hj⟩
 have hs: ∀{f:Int×aP→Option (iE×aP)},(∀x d,aF x→Dk (k+5) d→Ok (λr=>G 0 mc r.1∧Dk (k+20) r.2) (f (x,d)))→Ok (λr=>G 0 mc r.1∧Dk (k+20) r.2) ((NH N e.2).bind f):=λhf=>ah (Gb N hd) λr ⟨h1,h2⟩=>hf r.1 r.2 h1 (Dk.mono h2 ω)
 have hm: ∀{n:Int} {f:Int×aP→Option (iE×aP)},0<n∧n<1000000→(∀x d,Dk (k+5) d→Ok (λr=>G 0 mc r.1∧Dk (k+20) r.2) (f (x,d)))→Ok (λr=>G 0 mc r.1∧Dk (k+20) r.2) ((qV N e.2 n).bind f):=λhn hf=>ah (jD N hn hd) λr ⟨h1,h2⟩=>hf r.1 r.2 (Dk.mono h2 ω)
 repeat' first
  |refine ok_eq (λ_=> ?_) (λ_=> ?_)
  |(exfalso;omega)
  |(refine hs λx d' hx hd'=> ?_;dsimp only)
  |(refine hm δ λx d' hd'=> ?_;dsimp only)
  |(refine hz _ _ _ ?_ hd ω;refine⟨?_,?_,?_,?_,?_,?_,?_,?_,trivial⟩<;>first|exact gJ _|exact cc|exact BY hx bz|exact aai δ δ|exact(G.at hc.g.1 _).2.1)
  |(refine hz _ _ _ ?_ hd' ω;refine⟨?_,?_,?_,?_,?_,?_,?_,?_,trivial⟩<;>first|exact gJ _|exact cc|exact BY hx bz|exact aai δ δ|exact(G.at hc.g.1 _).2.1)
  |(refine hz _ _ _ ?_ h2 ω;refine⟨?_,?_,?_,?_,?_,?_,?_,?_,trivial⟩<;>first|exact gJ _|exact cc|exact BY hx bz|exact aai δ δ|exact(G.at hc.g.1 _).2.1)
  |exact ah (MR N hd c hi hl ω) λr ⟨h1,h2⟩=>hz _ _ _ h1 h2 ω
  |exact ah (P8 N hd c hn hl ω) λr ⟨h1,h2⟩=>hz _ _ _ h1 h2 ω
  |refine aB hi ?_
  |(refine ah (jD N δ hd') λr ⟨h1,h2⟩=> ?_)
theorem G.cat{m n:Nat}{e:Ty}{l k:List e.den}(h:G m (.slice e) l)(h':G n (.slice e) k):G (m+n) (.slice e) (l++k):=
 ⟨by have:=h.1;have:=h'.1;rw[aS];omega,λy hy=>by
  rcases bn.1 hy with hy|hy
  ·exact G.mono ω (h.2 y hy)
  ·exact G.mono ω (h'.2 y hy)⟩
theorem G.two{m:Nat}{e:Ty}{a b:e.den}(ha:G 0 e a)(hb:G 0 e b)(hm:2≤m):G m (.slice e) [a,b]:=
 ⟨hm,λy hy=>by
  rcases bh.1 hy with rfl|hy
  ·exact G.mono ω ha
  ·rw[cy.1 hy];exact G.mono ω hb⟩
theorem G.one{m:Nat}{e:Ty}{a:e.den}(ha:G 0 e a)(hm:1≤m):G m (.slice e) [a]:=
 ⟨hm,λy hy=>by rw[cy.1 hy];exact G.mono ω ha⟩
theorem ze{α:Type}(a b:α):[a,b].length=2:=rfl
theorem Tg(hN:100≤N){k:Nat}{d:aP}(h:Dk k d)(c:ae)(hk:k≤10000000):Ok (λr=>wL 40 r.1∧Dk (k+50) r.2) (gF N d c):=by
 have s64: ∀i:Nat,i<100→aF (i:Int):=λi hi=>jE ω ω
 unfold gF gF.b
 refine jk (len:=5) (F:=λn i (s:aP×dq)=>gF.l3 N n s.1 s.2 i) (λi s=>Dk (k+2*i) s.1∧wL (3*i) s.2) (λn i s hi hI hr=> ?_) (λn s hI=> ?_) 5 N 1 (d,[]) ω ω ω ⟨Dk.mono h ω,G.nil⟩
 all_goals unfold gF.l3 gF.nY
 ·have hl:=hI.2.1
  have oj:=s64 i ω
  dsimp only
  rw[aw (x:=(i:Int)+1) ω ω,af i]
  have h2:wL (3*i+2) (s.2++[((1:Int),((i:Int),dT)),((2:Int),((i:Int),((i:Int),((0:Int),((1:Int),aZ)))))]):=G.cat hI.2 (G.two (tg bz oj cc cc cc cc cc cc) (tg bz oj oj cc bz cc cc cc) ω)
  have hl2:=h2.1
  exact eR (λ_=>aC (by rw[ze];omega) (ah (qG N δ hI.1 (by unfold lx;omega)) λr hd=>bI (λ_=>ah (jD N δ hd (by unfold lx;omega)) λr ⟨_,hd⟩=>aC (by rw[aJ];omega) (hr (_,_) ⟨Dk.mono hd ω,G.mono ω (G.cat h2 (G.one (m:=1) (tg bz oj cc cc cc cc (gJ _) cc) ω))⟩)) λ_=>hr (_,_) ⟨Dk.mono hd ω,G.mono ω h2⟩)) λ_=>ω
 ·refine eR (λ_=>ω) λ_=> ?_
  refine jk (len:=8) (F:=λn i (s:aP×dq)=>gF.l9 N n s.1 s.2 i) (λi s=>Dk (k+10+i) s.1∧wL (15+i) s.2) (λn i s hi hI hr=> ?_) (λn s hI=> ?_) 8 N 5 s ω ω ω ⟨Dk.mono hI.1 ω,G.mono ω hI.2⟩
  all_goals unfold gF.l9 gF.uX
  ·have hl:=hI.2.1
   dsimp only
   rw[aw (x:=(i:Int)+1) ω ω,af i]
   exact eR (λ_=>ah (jD N δ hI.1 (by unfold lx;omega)) λr ⟨_,hd⟩=>aC (by rw[aJ];omega) (hr (_,_) ⟨Dk.mono hd ω,G.mono ω (G.cat hI.2 (G.one (m:=1) (tg bz (gJ _) (s64 i ω) cc bz cc cc cc) ω))⟩)) λ_=>ω
  ·refine eR (λ_=>ω) λ_=> ?_
   refine jk (len:=8) (F:=λn i (s:aP×dq)=>gF.mw N n s.1 s.2 i) (λi s=>Dk (k+18+2*i) s.1∧wL (23+2*i) s.2) (λn i s hi hI hr=> ?_) (λn s hI=> ?_) 8 N 1 s ω ω ω ⟨Dk.mono hI.1 ω,G.mono ω hI.2⟩
   all_goals unfold gF.mw gF.lq
   ·have hl:=hI.2.1
    have oj:=s64 i ω
    dsimp only
    rw[aw (x:=(i:Int)+1) ω ω,af i]
    exact eR (λ_=>ah (jD N δ hI.1 (by unfold lx;omega)) λr ⟨_,hd⟩=>ah (jD N δ hd (by unfold lx;omega)) λr ⟨_,hd⟩=>aC (by rw[ze];omega) (hr (_,_) ⟨Dk.mono hd ω,G.mono ω (G.cat hI.2 (G.two (m:=2) (tg bz cc oj cc cc cc (gJ _) cc) (tg bz cc oj cc cc cc (gJ _) cc) ω))⟩)) λ_=>ω
   ·exact eR (λ_=>ω) λ_=>aq ⟨G.mono ω hI.2,Dk.mono hI.1 ω⟩
theorem Mt{x:Nat}(h:x<1000000):W .i64 (((x+1:Nat):Int)-1)=(x:Int):=by rw[aw ω ω];omega
theorem KD(hN:1000≤N){k:Nat}{d:aP}(h:Dk k d){c:ae}(hc:Cf c){ye:Int}(hm:0≤ye∧ye≤100)(hk:k≤10000):Ok (λr=>wL 200 r.1∧Dk (k+3000) r.2) (Fl N d c ye):=by
 have hn:=hc.n
 have hl:=hc.g.1.1
 unfold Fl Fl.b
 rw[aw (x:=ye+1) ω ω]
 refine ah (Tg N ω h c ω) λr ⟨BK,hd⟩=>ah (jD N ⟨ω,ω⟩ hd (by unfold lx;omega)) λz ⟨hz,hd⟩=> ?_
 obtain⟨j,hj⟩: ∃j:Nat,z.1=(j:Int):=⟨z.1.toNat,ω⟩
 rw[hj]
 refine yY (F:=λn x (s:aP×dq)=>Fl.l3 N n s.1 c s.2 x) (λx s=>x≤100∧Dk (k+100+25*(100-x)) s.1∧wL (40+(100-x)) s.2) (λn x s hI hr=> ?_) (λn s hI=> ?_) j N (z.2,r.1) ω ⟨ω,Dk.mono hd ω,G.mono ω BK⟩
 all_goals unfold Fl.l3 Fl.nY
 ·obtain⟨hx,hd,hG⟩:=hI
  have hs:=hG.1
  rw[Mt ω]
  have put: ∀(e:iE) (d:aP) (q:Nat),G 0 mc e→Dk q d→q≤k+100+25*(100-(x+1))+25→Ok (λr=>wL 200 r.1∧Dk (k+3000) r.2) (cond (small (s.2.length+[e].length)) (Fl.l3 N n d c (s.2++[e]) (x:Int)) none):=λe d q he hd hq=>aC (by rw[aJ];omega) (hr (_,_) ⟨ω,Dk.mono hd ω,G.mono ω (G.cat hG (G.one (m:=1) he ω))⟩)
  exact ax (λ_=>ah (jD N δ hd (by unfold lx;omega)) λa ⟨_,hd⟩=>ok_eq (λ_=>ah (HM N hd hc ω) λr ⟨h1,h2⟩=>put _ _ _ h1 h2 ω) λ_=>ok_eq (λ_=>ah (jD N ⟨ω,ω⟩ hd (by unfold lx;omega)) λb ⟨hb,hd⟩=>ah (MR N hd c hb hl ω) λr ⟨h1,h2⟩=>put _ _ _ h1 h2 ω) λ_=>ah (P8 N hd c hn hl ω) λr ⟨h1,h2⟩=>put _ _ _ h1 h2 ω) λ_=>ω
 ·exact ax (λ_=>ω) λ_=>aq ⟨G.mono ω hI.2.2,Dk.mono hI.2.1 ω⟩
theorem u2(hN:1000≤N){k:Nat}{d:aP}(h:Dk k d){c:ae}(hc:Cf c)(hk:k≤100000):Ok (λr=>wL 3 r.1∧Dk (k+100) r.2) (oJ N d c):=by
 have hn:=hc.n
 have hl:=hc.g.1.1
 unfold oJ oJ.b
 refine ah (jD N δ h (by unfold lx;omega)) λz ⟨hz,hd⟩=> ?_
 obtain⟨j,hj⟩: ∃j:Nat,z.1=(j:Int):=⟨z.1.toNat,ω⟩
 rw[hj]
 refine yY (F:=λn x (s:aP×dq)=>oJ.l3 N n s.1 c s.2 x) (λx s=>x≤3∧Dk (k+1+25*(3-x)) s.1∧wL (3-x) s.2) (λn x s hI hr=> ?_) (λn s hI=> ?_) j N (z.2,[]) ω ⟨ω,Dk.mono hd ω,G.nil⟩
 all_goals unfold oJ.l3 oJ.nY
 ·obtain⟨hx,hd,hG⟩:=hI
  have hs:=hG.1
  rw[Mt ω]
  have put: ∀(e:iE) (d:aP) (q:Nat),G 0 mc e→Dk q d→q≤k+1+25*(3-(x+1))+25→Ok (λr=>wL 3 r.1∧Dk (k+100) r.2) (cond (small (s.2.length+[e].length)) (oJ.l3 N n d c (s.2++[e]) (x:Int)) none):=λe d q he hd hq=>aC (by rw[aJ];omega) (hr (_,_) ⟨ω,Dk.mono hd ω,G.mono ω (G.cat hG (G.one (m:=1) he ω))⟩)
  exact ax (λ_=>ah (qG N δ hd (by unfold lx;omega)) λa hd=>qc (λ_=>ah (jD N ⟨ω,ω⟩ hd (by unfold lx;omega)) λb ⟨hb,hd⟩=>ah (MR N hd c hb hl ω) λr ⟨h1,h2⟩=>put _ _ _ h1 h2 ω) λ_=>ah (HM N hd hc ω) λr ⟨h1,h2⟩=>put _ _ _ h1 h2 ω) λ_=>ω
 ·exact ax (λ_=>ω) λ_=>aq ⟨G.mono ω hI.2.2,Dk.mono hI.2.1 ω⟩
end VM
end
