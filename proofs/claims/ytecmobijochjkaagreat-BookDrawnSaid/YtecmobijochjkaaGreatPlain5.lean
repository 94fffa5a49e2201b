/- A part of the proof of BookDrawn of layer 18: what the functions compute, in plain words. -/
import Derived.Test.YtecmobijochjkaaGreatPlain4
set_option linter.all false
open List renaming length→ℓ
section
namespace VM
open Go VM.F
theorem adw(N:Nat){u v:Int}(hu:cE u)(hv:cE v)(hs:cE (u-v)):Te N (cH u) (cH v)=some (cH (u-v),true):=by
 unfold Te cH
 unfold cE at*
 dsimp only
 have hp:0≤u%18446744073709551616∧u%18446744073709551616<18446744073709551616:=ω
 have hq:0≤v%18446744073709551616∧v%18446744073709551616<18446744073709551616:=ω
 rw[qg,qg,mI N ω ω ω ω ω ω,ar]
 dsimp only
 have hb:(0:Int)≤(if u%18446744073709551616<v%18446744073709551616+0 then 1 else 0)∧(if u%18446744073709551616<v%18446744073709551616+0 then(1:Int)else 0)≤1:=by split<;>omega
 rw[mI N ω ω ω ω hb.1 hb.2,ar]
 dsimp only
 have e3:W .i64 ((u/18446744073709551616%18446744073709551616-v/18446744073709551616%18446744073709551616-(if u%18446744073709551616<v%18446744073709551616+0 then 1 else 0))%18446744073709551616)=(u-v)/18446744073709551616:=by
  by_cases h0:u%18446744073709551616<v%18446744073709551616+0
  ·rw[ak h0,gK];split<;>omega
  ·rw[ah h0,gK];split<;>omega
 have e1:(u%18446744073709551616-v%18446744073709551616-0)%18446744073709551616=(u-v)%18446744073709551616:=ω
 rw[e3,e1]
 have key: ∀A B C:Int,A=u/18446744073709551616→B=v/18446744073709551616→C=(u-v)/18446744073709551616→(A<0∧ ¬B<0→C<0)∧(¬A<0∧B<0→ ¬C<0):=λA B C _ _ _=>ω
 have k:=key _ _ _ rfl rfl rfl
 simp only[om,qH]
 by_cases a:u/18446744073709551616<0<;>by_cases b:v/18446744073709551616<0
 ·rw[aV a,aV b];rfl
 ·have c:=k.1 ⟨a,b⟩
  rw[aV a,bu b,aV c];rfl
 ·have c:=k.2 ⟨a,b⟩
  rw[bu a,aV b,bu c];rfl
 ·rw[bu a,bu b];rfl
theorem W6(N:Nat){v k:Int}(hv:0≤v∧v≤9223372069854775808)(hk:0≤k∧k≤1000000000):adx N (cH v) k=some (cH (v*k),true):=by
 unfold adx
 have hm:=FX hv hk
 have h0:v/18446744073709551616=0:=ω
 have h1:v%18446744073709551616=v:=ω
 rw[Zr N ω ω,ar,L9 N ω ω,ar,show(v.natAbs:Int)=v by omega,show(k.natAbs:Int)=k by omega,h0,h1]
 dsimp only
 rw[Hn N ω ω ω ω,ar,Hn N ω ω ω ω,ar,Gs]
 dsimp only
 have e:cH v=((0:Int),(v,())):=by unfold cH;rw[h0,h1]
 generalize v*k=m at*
 rw[ya N ω ω ω ω,ar,e]
 dsimp only
 have e1:(0%18446744073709551616+m/18446744073709551616+0)%18446744073709551616=m/18446744073709551616:=ω
 have e2:(0/18446744073709551616:Int)+(0%18446744073709551616+m/18446744073709551616+0)/18446744073709551616=0:=ω
 rw[e1,e2,eB (x:=0) ω ω,df,bg,av,aP (x:=0) ω,aP (x:=k) ω,om]
 show(rz N false _ _).bind _=_
 rw[An N ω ω ω ω,ar,show m/18446744073709551616*18446744073709551616+m%18446744073709551616=m by omega]
theorem ady(N:Nat){q:Int}{z:Int×Int}(hq:aF q)(hz:Nx z):((O4 N q).bind λr9=>(O4 N z.1).bind λkT=>(ZZ N r9 kT).bind λm6=>(O4 N q).bind λoU=>(O4 N z.2).bind λnW=>(Te N oU nW).bind λrG=>(Tf N m6.1).bind λuD=>(Tf N rG.1).bind λwG=>(Wt N uD.1 wG.1).bind λyA=>cond (aX yA 0) (some (wG.1,(0:Int))) (some (uD.1,(0:Int))))=some (cH (Ci q z),0):=by
 unfold aF Nx at*
 have a1:cE q∧cE z.1∧cE z.2∧cE (q+z.1)∧cE (q-z.2):=by unfold cE;omega
 rw[vY N hq.1 hq.2,ar,vY N ω ω,ar,adn N a1.1 a1.2.1 a1.2.2.2.1,ar,ar,vY N ω ω,ar,adw N a1.1 a1.2.2.1 a1.2.2.2.2,ar,U1 N a1.2.2.2.1 ω,ar,U1 N a1.2.2.2.2 ω,ar,UE,ar,bZ]
 unfold Ci
 have hs:vV (((q+z.1).natAbs:Int)-((q-z.2).natAbs:Int))<0↔((q+z.1).natAbs:Int)<((q-z.2).natAbs:Int):=by
  unfold vV;split<;>(try split)<;>omega
 by_cases h:((q+z.1).natAbs:Int)<((q-z.2).natAbs:Int)
 ·rw[ak h,ak (hs.2 h)]
 ·rw[ah h,ah (λk=>h (hs.1 k))]
theorem W7(N:Nat)(hN:200000≤N){o:au}(xg:o.length≤100000)(ho: ∀x∈o,Nx (x.2.1,x.2.2.1))(k:Int){q:Int}(hq:aF q):iZ.my N N k c5 q 0 0 o (o.length:Int) 0=some (cH (Ci q (yz k o (0,0))),0):=by
 have:=ll o bb (λn i (z:Int×Int)=>iZ.my N n k c5 q z.1 z.2 o (o.length:Int) i) (λt z=>some (cH (Ci q (yz k t z)),(0:Int))) (λi z=>Nx z) (λn i z hi hz hr=> ?_) (λn z hz=> ?_) o.length N 0 (0,0) ω ω ω (by unfold Nx;decide)
 ·exact this
 ·unfold iZ.my iZ.ly
  rw[aQ ω,aj,aU ω ω,aj,aG,aw (x:=(i:Int)+1) ω ω,af i,aI,Ax]
  by_cases h:(o.getD i bb).1=k
  ·rw[ak h,ak h]
   exact hr ((o.getD i bb).2.1,(o.getD i bb).2.2.1) (ho _ (by rw[aW,bl hi];exact dF hi))
  ·rw[ah h,ah h]
   exact hr z hz
 ·unfold iZ.my iZ.ly
  rw[aP ω,av]
  exact ady N hq hz
theorem alu(N:Nat)(hN:200000≤N)(c:ae){l:aE}(hl:l.length≤100000)(lq: ∀y∈l,aF y.2.1){o:au}(xg:o.length≤100000)(k:Int):iZ N c l o k=some (cH (EA c l o k).1,(EA c l o k).2):=by
 unfold iZ iZ.b EA
 rw[UF N hN c hl,ar,cond_not,K0 N hN c xg,ar,cond_not,bZ,ct]
 cases h1:mj c l with
 |false=>rfl
 |true=>
  cases h2:gS c o with
  |false=>rfl
  |true=>
   rw[aj,aj,eZ,ak rfl]
   by_cases h3:0≤k∧k<(c.1.length:Int)
   ·rw[ak h3,ah ω,ah ω]
    have:=ll l c5 (λn i (q:Int)=>iZ.l7 N n o k c5 q 0 0 l (l.length:Int) i) (λt q=>some (cH (Ci (Ih k t q) (yz k o (0,0))),(0:Int))) (λi q=>aF q) (λn i q hi hq hr=> ?_) (λn q hq=> ?_) l.length N 0 0 ω ω ω (by unfold aF;omega)
    ·exact this
    ·unfold iZ.l7 iZ.mK
     rw[aQ ω,aj,aU ω ω,aj,aG,aw (x:=(i:Int)+1) ω ω,af i,aI,Aw]
     by_cases h:(l.getD i c5).1=k
     ·rw[ak h,ak h]
      exact hr _ (lq _ (by rw[aW,bl hi];exact dF hi))
     ·rw[ah h,ah h]
      exact hr q hq
    ·unfold iZ.l7 iZ.mK
     rw[aP ω,av]
     exact W7 N hN xg (MD h2) k hq
   ·rw[ah h3]
    by_cases h4:k<0
    ·rw[ak h4];rfl
    ·rw[ah h4,ak ω];rfl
theorem aaf(N:Nat)(hN:4000000≤N){q:Int}{z:Int×Int}(hq:aF q)(hz:Nx z):((Ak N (cF q) (cF z.1)).bind λoU=>(Wl N oU).bind λnW=>(SC N (cF q) (cF z.2)).bind λrG=>(Wl N rG).bind λuD=>(Nu N uD nW).bind λwG=>cond (aX 0 wG) (some (uD,(0:Int))) (some (nW,(0:Int))))=some (cF (Ci q z),0):=by
 unfold aF Nx at*
 have f: ∀x:Int,-170141183460469231731687303715884105728≤x→x<170141183460469231731687303715884105728→Fit x 900000:=λx h1 h2=>pV ⟨h1,h2⟩
 rw[iO N hN (f _ ω ω) (f _ ω ω),ar,BP N hN (f _ ω ω),ar,ry N hN (f _ ω ω) (f _ ω ω),ar,BP N hN (f _ ω ω),ar,Ht N hN (f _ ω ω) (f _ ω ω),ar,bZ]
 unfold Ci
 have hs:0<vV (((q-z.2).natAbs:Int)-((q+z.1).natAbs:Int))↔((q+z.1).natAbs:Int)<((q-z.2).natAbs:Int):=by
  unfold vV;split<;>(try split)<;>omega
 by_cases h:((q+z.1).natAbs:Int)<((q-z.2).natAbs:Int)
 ·rw[ak h,ak (hs.2 h)]
 ·rw[ah h,ah (λk=>h (hs.1 k))]
theorem Tg(N:Nat)(hN:4000000≤N){o:au}(xg:o.length≤100000)(ho: ∀x∈o,Nx (x.2.1,x.2.2.1))(k:Int){q:Int}(hq:aF q):gA.nI N N o k (cF 0) (cF q) (cF 0) (cF 0) 0=some (cF (Ci q (yz k o (0,0))),0):=by
 have:=ll o bb (λn i (z:Int×Int)=>gA.nI N n o k (cF 0) (cF q) (cF z.1) (cF z.2) i) (λt z=>some (cF (Ci q (yz k t z)),(0:Int))) (λi z=>Nx z) (λn i z hi hz hr=> ?_) (λn z hz=> ?_) o.length N 0 (0,0) ω ω ω (by unfold Nx;decide)
 ·exact this
 ·unfold gA.nI gA.mO
  rw[aQ ω,aj,aU ω ω,aj,aj,aG,aw (x:=(i:Int)+1) ω ω,af i,aI,Ax]
  by_cases h:(o.getD i bb).1=k
  ·have hx:=ho (o.getD i bb) (by rw[aW,bl hi];exact dF hi)
   have dZ:=hr ((o.getD i bb).2.1,(o.getD i bb).2.2.1) hx
   unfold Nx at hx
   rw[ak h,ak h,da N ω (fC δ hx.1) (sa hx.2.1 δ),ar,aj,da N ω (fC δ hx.2.2.1) (sa hx.2.2.2 δ),ar]
   exact dZ
  ·rw[ah h,ah h]
   exact hr z hz
 ·unfold gA.nI gA.mO
  rw[aP ω,av]
  exact aaf N hN hq hz
theorem adz(N:Nat)(hN:4000000≤N)(c:ae){l:aE}(hl:l.length≤100000)(lq: ∀y∈l,aF y.2.1){o:au}(xg:o.length≤100000)(k:Int):gA N c l o k=some (cF (EA c l o k).1,(EA c l o k).2):=by
 unfold gA gA.b EA
 rw[vh N ω c hl,ar,cond_not,Il N ω c xg,ar,cond_not,bZ,ct,←gX]
 cases h1:mj c l with
 |false=>rfl
 |true=>
  cases h2:gS c o with
  |false=>rfl
  |true=>
   rw[aj,aj,eZ,ak rfl]
   by_cases h3:0≤k∧k<(c.1.length:Int)
   ·rw[ak h3,ah ω,ah ω]
    have:=ll l c5 (λn i (q:Int)=>gA.l7 N n l o k (cF 0) (cF q) (cF 0) (cF 0) i) (λt q=>some (cF (Ci (Ih k t q) (yz k o (0,0))),(0:Int))) (λi q=>aF q) (λn i q hi hq hr=> ?_) (λn q hq=> ?_) l.length N 0 0 ω ω ω (by unfold aF;omega)
    ·exact this
    ·unfold gA.l7 gA.mK
     rw[aQ ω,aj,aU ω ω,aj,aj,aG,aw (x:=(i:Int)+1) ω ω,af i,aI,Aw]
     by_cases h:(l.getD i c5).1=k
     ·have hy:=lq (l.getD i c5) (by rw[aW,bl hi];exact dF hi)
      rw[ak h,ak h,da N ω hy.1 hy.2,ar]
      exact hr _ hy
     ·rw[ah h,ah h]
      exact hr q hq
    ·unfold gA.l7 gA.mK
     rw[aP ω,av]
     exact Tg N hN xg (MD h2) k hq
   ·rw[ah h3]
    by_cases h4:k<0
    ·rw[ak h4]
    ·rw[ah h4,ak ω]
theorem K1{c:ae}{l:aE}{o:au}(h1:mj c l=true)(h2:gS c o=true){k:Int}(hk:0≤k∧k<(c.1.length:Int)):(EA c l o k).1=Cj l o k:=by
 unfold EA
 rw[h1,h2,eZ,ak rfl,ak hk]
theorem aag(N:Nat)(hN:2000000≤N)(c:ae){l:aE}(hl:l.length≤100000)(lq: ∀y∈l,aF y.2.1){o:au}(xg:o.length≤100000):sY N c l o=some (cH (lW c l o).1,(lW c l o).2):=by
 unfold sY sY.b lW
 rw[UF N ω c hl,ar,cond_not,K0 N ω c xg,ar,cond_not]
 cases h1:mj c l with
 |false=>rfl
 |true=>
  cases h2:gS c o with
  |false=>rfl
  |true=>
   rw[aj,aj,eZ,ak rfl]
   have h6:=Ij (jZ h2)
   have aqJ: ∀i,i<c.1.length→0≤Cj l o (i:Int)*oH c i∧Cj l o (i:Int)*oH c i≤9223372069854775808000000000:=λi hi=>FX (Ck h2 lq (i:Int)) (FW (jZ h2) hi)
   have hL: ∀n,n≤c.1.length→ ∀x∈wF c l o n,cE x:=by
    intro n
    induction n with
    |zero=>intro _ x hx;nomatch hx
    |succ n ih=>
     intro hn
     have:=aqJ n ω
     exact wq (ih ω) (by unfold cE;omega)
   have hw:=zk (jZ h2) h2 lq c.1.length (aH _)
   have key: ∀(m n i:Nat),c.1.length-i≤m→m<n→i≤c.1.length→sY.l5 N n l o c c5 ((wF c l o i).map cH) c.1 (c.1.length:Int) (i:Int)=some (cH (oI c l o c.1.length),0):=by
    intro m n
    induction n generalizing m with
    |zero=>intro i _ hn;omega
    |succ n ih=>
     intro i hm hn hi
     unfold sY.l5 sY.dU
     by_cases h:i<c.1.length
     ·have hr:=FW (jZ h2) h
      have dZ:=hr
      unfold oH at dZ
      have ht:=Ck h2 lq (i:Int)
      rw[aQ ω,aj,aU ω ω,aj,alu N ω c hl lq xg,ar,K1 h1 h2 ⟨ω,ω⟩,aG,W6 N ht dZ,ar,bH (by rw[cz,Ay,aK];omega),aj,aw (x:=(i:Int)+1) ω ω,af i]
      have:=ih (m-1) (i+1) ω ω ω
      rw[show wF c l o (i+1)=wF c l o i++[Cj l o (i:Int)*oH c i]from rfl,dp]at this
      exact this
     ·have e:i=c.1.length:=ω
      subst e
      rw[aP ω,av,FJ N (hL _ hi) (by rw[Ay];omega) ω,ar,Ii]
      unfold O5
      rw[ak (by unfold cE;omega)]
   exact key c.1.length N 0 ω ω ω
theorem W8(N:Nat)(hN:4000000≤N)(c:ae){l:aE}(hl:l.length≤100000)(lq: ∀y∈l,aF y.2.1){o:au}(xg:o.length≤100000):nR N c l o=some (cF (lW c l o).1,(lW c l o).2):=by
 unfold nR nR.b lW
 rw[vh N ω c hl,ar,cond_not,Il N ω c xg,ar,cond_not,←gX]
 cases h1:mj c l with
 |false=>rfl
 |true=>
  cases h2:gS c o with
  |false=>rfl
  |true=>
   rw[aj,aj,eZ,ak rfl]
   have h6:=Ij (jZ h2)
   have f: ∀x:Int,-170141183460469231731687303715884105728≤x→x<170141183460469231731687303715884105728→Fit x 900000:=λx h1 h2=>pV ⟨h1,h2⟩
   have f2: ∀x:Int,0≤x→x≤9223372069854775808→Fit x 80000:=λx h1 h2=>by
    refine Fit.mono (j:=3) ?_ ω
    unfold Fit
    rw[show(4294967296:Nat)^3=79228162514264337593543950336 from rfl]
    omega
   have key: ∀(m n i:Nat),c.1.length-i≤m→m<n→i≤c.1.length→nR.l5 N n l o c (cF 0) (cF (oI c l o i)) (i:Int)=some (cF (oI c l o c.1.length),0):=by
    intro m n
    induction n generalizing m with
    |zero=>intro i _ hn;omega
    |succ n ih=>
     intro i hm hn hi
     unfold nR.l5 nR.dU
     by_cases h:i<c.1.length
     ·have hr:=FW (jZ h2) h
      have ht:=Ck h2 lq (i:Int)
      have jh:=FX ht hr
      have hw:=zk (jZ h2) h2 lq i ω
      have hfr:=f2 _ hr.1 (fC hr.2 δ)
      have hWh:kR N ((c.1.getD i ba).2.2.1)=some (cF (oH c i)):=da N ω (fC δ hr.1) (sa hr.2 δ)
      rw[aQ ω,aj,adz N ω c hl lq xg,ar,K1 h1 h2 ⟨ω,ω⟩,aU ω ω,aj,aG,hWh,ar,sJ N ω ((f2 _ ht.1 ht.2).mono ω) (hfr.mono ω),ar,iO N ω (f _ ω ω) (f _ ω ω),ar,aw (x:=(i:Int)+1) ω ω,af i]
      exact ih (m-1) (i+1) ω ω ω
     ·have e:i=c.1.length:=ω
      subst e
      rw[aP ω,av]
   exact key c.1.length N 0 ω ω ω
theorem zS{c:ae}{b:an}(h:de c b=true):dk b.2.2.2.2.2.1=true:=by
 unfold de at h
 simp only[bP]at h
 exact h.2.2.2.2.2.1
theorem K2(l:aY)(a:Int):(m5 l a).length≤6:=U3 _ 6 0
def qIn(q:Int):Prop:=1≤q∧q≤1000000000
instance(q:Int):Decidable (qIn q):=by unfold qIn;infer_instance
def Cl(a b c d:Int):Prop:=(1≤a∧a≤1099511627776)∧(0≤b∧b<6)∧(c=1∨c=2)∧qIn d
instance(a b c d:Int):Decidable (Cl a b c d):=by unfold Cl;infer_instance
def Cm(h:cL):Prop:=Cl h.1 h.2.1 h.2.2.1 h.2.2.2.1
instance(h:cL):Decidable (Cm h):=by unfold Cm;infer_instance
theorem yB(N:Nat)(h:cL):adA N h=some (decide (Cm h)):=by
 unfold adA
 rw[m8 h.2.2.2.1]
 rw[ia,HA,C1,Hz,ia,ia,ia]
 congr 1
 rw[p5,fR]
 unfold Cm Cl qIn
 simp only[bP,ob,sb,xp,F7]
 omega
end VM
end
section
namespace VM
open Go VM.F Go.RowKit
theorem aah(N:Nat)(hN:4000000≤N){v:Int}(h:cE v):adB N (cH v)=some (cF v):=by
 unfold adB cH
 unfold cE at h
 dsimp only
 have hv:VD [(0:Int),0,1]:=VD.cons ω ω (VD.cons ω ω (VD.cons ω ω VD.nil))
 have GZ:dr [(0:Int),0,1]=18446744073709551616:=δ
 have hl:(mw (v%18446744073709551616).toNat).length≤2:=vU 2 _ (by
  rw[show(4294967296:Nat)^2=18446744073709551616 from rfl];omega)
 have f2: ∀x:Int,(x.natAbs:Int)≤18446744073709551616→Fit x 90000:=λx hx=>by
  refine Fit.mono (j:=3) ?_ ω
  unfold Fit
  rw[show(4294967296:Nat)^3=79228162514264337593543950336 from rfl]
  omega
 rw[da N ω ω ω,ar,pR N false hv (by simp;omega) (by simp),ar,ah pJ,GZ,sJ N hN (f2 _ ω) (f2 _ ω),ar,size_eq N ω ω ω,ar,pR N false (kv _) ω ω,ar,ah pJ,ir,uI ω,iO N hN (pV (by unfold cE;omega)) (pV (by unfold cE;omega)),ar,show v/18446744073709551616*18446744073709551616+v%18446744073709551616=v by omega]
theorem PV(N:Nat)(hN:4000000≤N){v:Int}(h:cE v):aai N (cH v) (cF v)=some true:=by
 unfold aai
 rw[aah N hN h,ar,Ht N hN (pV h) (pV h),ar,Int.sub_self,show vV 0=0 from rfl,df]
theorem ME{c:ae}{b:an}(w:jC b)(l:bh):Px (sS c b l).1:=by
 unfold sS
 repeat' split
 all_goals first|exact Ek w _ _|exact vk
def hR:au:=[((1:Int),((0:Int),((-90:Int),()))),((5:Int),((1:Int),((90:Int),())))]
def hS:au:=[((0:Int),((0:Int),((5:Int),()))),((0:Int),((1:Int),((20:Int),()))),((1:Int),((0:Int),((-5:Int),()))),((1:Int),((1:Int),((-20:Int),())))]
def hB:an:=([((1:Int),((1:Int),()))],([((1:Int),((1:Int),((1:Int),((50:Int),()))))],(hR,(hS,([(100:Int),(7:Int)],(du,()))))))
def hO:cL:=((4:Int),((0:Int),((2:Int),((6:Int),()))))
theorem hW:oF hB:=⟨⟨δ,δ,δ,δ,δ,δ,Cb (l:=hR) δ,Cb (l:=hS) δ⟩,δ,δ⟩
namespace Pure
end Pure
end VM
end
section
namespace VM
open Go VM.F
def Ok{α:Type}(P:α→Prop)(o:Option α):Prop:= ∃r,o=some r∧P r
theorem aq{α:Type}{P:α→Prop}{r:α}(h:P r):Ok P (some r):=⟨r,rfl,h⟩
theorem ag{α β:Type}{P:β→Prop}{Q:α→Prop}{o:Option α}{f:α→Option β}(h:Ok Q o)(hf: ∀r,Q r→Ok P (f r)):Ok P (o.bind f):=by
 obtain⟨r,rfl,hr⟩:=h
 exact hf r hr
theorem Mj{α:Type}{P Q:α→Prop}{o:Option α}(h:Ok Q o)(hf: ∀r,Q r→P r):Ok P o:=by
 obtain⟨r,e,hr⟩:=h
 exact⟨r,e,hf r hr⟩
theorem oJ{α:Type}{P:α→Prop}{o:Option α}{r:α}(h:o=some r)(hr:P r):Ok P o:=⟨r,h,hr⟩
theorem oZ{α:Type}{P:α→Prop}{b:Bool}{x y:Option α}(hx:b=true→Ok P x)(hy:b=false→Ok P y):Ok P (cond b x y):=by
 cases b
 ·exact hy rfl
 ·exact hx rfl
theorem bG{α:Type}{P:α→Prop}{b:Bool}{x y:Option α}(hx:b=false→Ok P x)(hy:b=true→Ok P y):Ok P (cond (!b) x y):=by
 cases b
 ·exact hx rfl
 ·exact hy rfl
theorem ax{α:Type}{P:α→Prop}{a b:Int}{x y:Option α}(hx:a<b→Ok P x)(hy:b≤a→Ok P y):Ok P (cond (aX a b) x y):=by
 rw[bZ]
 split
 ·exact hx (by assumption)
 ·exact hy ω
theorem eK{α:Type}{P:α→Prop}{a b:Int}{x y:Option α}(hx:a≤b→Ok P x)(hy:b<a→Ok P y):Ok P (cond (dx a b) x y):=by
 rw[ct]
 split
 ·exact hx (by assumption)
 ·exact hy ω
theorem ok_eq{α:Type}{P:α→Prop}{a b:Int}{x y:Option α}(hx:a=b→Ok P x)(hy:a≠b→Ok P y):Ok P (cond (aN a b) x y):=by
 rw[aI]
 split
 ·exact hx (by assumption)
 ·exact hy (by assumption)
theorem bK{α:Type}{P:α→Prop}{a b:Int}{x y:Option α}(hx:a≠b→Ok P x)(hy:a=b→Ok P y):Ok P (cond (!aN a b) x y):=by
 rw[cond_not];exact ok_eq hy hx
theorem aB{α:Type}{P:α→Prop}{i:Int}{n:Nat}{x y:Option α}(h:0≤i∧i<(n:Int))(hx:Ok P x):Ok P (cond (bf i n) x y):=by
 rw[aU h.1 h.2];exact hx
theorem aD{α:Type}{P:α→Prop}{n:Nat}{x y:Option α}(h:n<68719476736)(hx:Ok P x):Ok P (cond (small n) x y):=by
 rw[bH h];exact hx
theorem adC{α:Type}{P:α→Prop}{l c:Int}{x y:Option α}(h:0≤l∧l≤c∧c<68719476736)(hx:Ok P x):Ok P (cond (kW l c) x y):=by
 rw[c9 h.1 h.2.1 h.2.2];exact hx
theorem Dm{α:Type}{P:α→Prop}{l h m n:Int}{x y:Option α}(hh:0≤l∧l≤h∧h≤m∧m≤n)(hx:Ok P x):Ok P (cond (jt l h m n) x y):=by
 rw[ed hh.1 hh.2.1 hh.2.2.1 hh.2.2.2];exact hx
theorem jk{σ β:Type}{P:β→Prop}{F:Nat→Int→σ→Option β}{len:Nat}(I:Nat→σ→Prop)
  (hs: ∀n i s,i<len→I i s→(∀s',I (i+1) s'→Ok P (F n ((i+1:Nat):Int) s'))→Ok P (F (n+1) (i:Int) s)) (he: ∀n s,I len s→Ok P (F (n+1) (len:Int) s)):
  ∀m n i s,len-i≤m→m<n→i≤len→I i s→Ok P (F n (i:Int) s)
 |m,0,i,s,_,hn,_,_=>ω
 |m,n+1,i,s,hm,hn,hi,hI=>by
  by_cases h:i<len
  ·exact hs n i s h hI λs' zJ=>jk I hs he (m-1) n (i+1) s' ω ω ω zJ
  ·have:i=len:=ω
   subst this
   exact he n s hI
theorem bs{σ β:Type}{P:β→Prop}{F:Nat→Int→σ→Option β}{len:Nat}(I:Nat→σ→Prop){N:Nat}{s:σ}(h0:I 0 s)(hN:len<N)
  (hs: ∀n i s,i<len→I i s→(∀s',I (i+1) s'→Ok P (F n ((i+1:Nat):Int) s'))→Ok P (F (n+1) (i:Int) s)) (he: ∀n s,I len s→Ok P (F (n+1) (len:Int) s)):Ok P (F N 0 s):=
 jk I hs he len N 0 s ω hN ω h0
theorem m7{β:Type}{P:β→Prop}{F:Nat→Int→Option β}{len N:Nat}(hN:len<N)
  (hs: ∀n i,i<len→Ok P (F n ((i+1:Nat):Int))→Ok P (F (n+1) (i:Int))) (he: ∀n,Ok P (F (n+1) (len:Int))):Ok P (F N 0):=
 bs (σ:=Unit) (F:=λn i _=>F n i) (λ_ _=>True) (s:=()) trivial hN (λn i _ h _ hr=>hs n i h (hr () trivial)) λn _ _=>he n
theorem wg{σ β:Type}{P:β→Prop}{F:Nat→Int→σ→Option β}(I:Nat→σ→Prop)
  (hs: ∀n (k:Nat) s,I (k+1) s→(∀s',I k s'→Ok P (F n (k:Int) s'))→Ok P (F (n+1) ((k+1:Nat):Int) s)) (he: ∀n s,I 0 s→Ok P (F (n+1) 0 s)):
  ∀(k n:Nat) s,k<n→I k s→Ok P (F n (k:Int) s)
 |0,0,s,hn,_=>ω
 |0,n+1,s,hn,hI=>he n s hI
 |k+1,0,s,hn,_=>ω
 |k+1,n+1,s,hn,hI=>hs n k s hI λs' zJ=>wg I hs he k n s' ω zJ
def G(m:Nat):(τ:Ty)→τ.den→Prop
 | .int .i64,x=>aF x
 | .int .u64,x=>0≤x∧x<18446744073709551616
 | .slice e,l=>ℓ l≤m∧ ∀x∈(l:List e.den),G m e x
 | .pair a b,x=>G m a x.1∧G m b x.2
 |_,_=>True
theorem G.mono{m n:Nat}(h:m≤n): ∀{τ:Ty} {x:τ.den},G m τ x→G n τ x
 | .int k,x,hx=>by cases k<;>exact hx
 | .slice e,l,hl=>⟨cA hl.1 h,λx hx=>G.mono h (hl.2 x hx)⟩
 | .pair a b,x,hx=>⟨G.mono h hx.1,G.mono h hx.2⟩
 | .bool,_,_=>trivial
 | .str,_,_=>trivial
 | .unit,_,_=>trivial
 | .arr _ _,_,_=>trivial
theorem G.nil{m:Nat}{e:Ty}:G m (.slice e) ([]:List e.den):=⟨bw _,λx hx=>nomatch hx⟩
theorem G.app{m:Nat}{e:Ty}{l:List e.den}{x:e.den}(h:G m (.slice e) l)(hx:G m e x):G (m+1) (.slice e) (l++[x]):=
 ⟨by have:=h.1;rw[aS,aK];omega,λy hy=>by
  rcases bn.1 hy with hy|hy
  ·exact G.mono ω (h.2 y hy)
  ·rw[cw.1 hy];exact G.mono ω hx⟩
theorem G.get{m:Nat}{e:Ty}{l:List e.den}{d:e.den}(h:G m (.slice e) l)(hd:G m e d)(k:Nat):G m e (l.getD k d):=by
 by_cases hk:k<l.length
 ·rw[aW,bl hk];exact h.2 _ (dF hk)
 ·rw[aW,il ω];exact hd
theorem G.zero(m:Nat): ∀τ:Ty,G m τ τ.zero
 | .int k=>by cases k<;>first|trivial|exact⟨δ,δ⟩
 | .slice _=>G.nil
 | .pair a b=>⟨G.zero m a,G.zero m b⟩
 | .bool=>trivial
 | .str=>trivial
 | .unit=>trivial
 | .arr _ _=>trivial
theorem G.at{m:Nat}{e:Ty}{l:List e.den}(h:G m (.slice e) l)(k:Nat):G m e (l.getD k e.zero):=h.get (G.zero m e) k
theorem G.set{m:Nat}{e:Ty}{l:List e.den}{x:e.den}(h:G m (.slice e) l)(hx:G m e x)(k:Nat):G m (.slice e) (l.set k x):=
 ⟨by rw[bU];exact h.1,λy hy=>by
  rcases uG hy with hy|rfl
  ·exact h.2 y hy
  ·exact hx⟩
theorem gH(x:Int):aF (W .i64 x):=by
 rw[gK];unfold aF;split<;>omega
def Bg(k:Nat)(z:aM):Prop:= ∃v,z=cF v∧Fit v k
theorem Bg.mono{j k:Nat}{z:aM}(h:Bg j z)(hk:j≤k):Bg k z:=by
 obtain⟨v,e,f⟩:=h
 exact⟨v,e,Fit.mono f hk⟩
theorem Bg.zero:Bg 1 (false,(([]:List Int),())):=⟨0,gX.symm,by unfold Fit;decide⟩
theorem bF(N:Nat)(hN:4000000≤N){x:Int}(h:aF x):Ok (Bg 2) (kR N x):=oJ (da N ω h.1 h.2) ⟨x,rfl,Fit.i64 h.1 h.2⟩
theorem lX(N:Nat)(hN:4000000≤N){k:Nat}(hk:k≤90000){u v:aM}(hu:Bg k u)(hv:Bg k v):Ok (Bg (k+1)) (Ak N u v):=by
 obtain⟨a,rfl,ha⟩:=hu
 obtain⟨b,rfl,hb⟩:=hv
 exact oJ (iO N hN (Fit.mono ha ω) (Fit.mono hb ω)) ⟨_,rfl,Fit.add ha hb⟩
theorem zm(N:Nat)(hN:4000000≤N){k:Nat}(hk:k≤90000){u v:aM}(hu:Bg k u)(hv:Bg k v):Ok (Bg (k+1)) (SC N u v):=by
 obtain⟨a,rfl,ha⟩:=hu
 obtain⟨b,rfl,hb⟩:=hv
 exact oJ (ry N hN (Fit.mono ha ω) (Fit.mono hb ω)) ⟨_,rfl,by rw[Int.sub_eq_add_neg];exact Fit.add ha (Fit.neg hb)⟩
theorem rV(N:Nat)(hN:4000000≤N){k:Nat}(hk:k≤90000){u:aM}(hu:Bg k u):Ok (Bg k) (X7 N u):=by
 obtain⟨a,rfl,ha⟩:=hu
 exact oJ (pk N hN (Fit.mono ha ω)) ⟨_,rfl,Fit.neg ha⟩
theorem Cn(N:Nat)(hN:4000000≤N){k:Nat}(hk:k≤90000){u:aM}(hu:Bg k u):Ok (Bg k) (Wl N u):=by
 obtain⟨a,rfl,ha⟩:=hu
 exact oJ (BP N hN (Fit.mono ha ω)) ⟨_,rfl,Fit.of_le ha ω⟩
theorem mR(N:Nat)(hN:4000000≤N){j k:Nat}(hj:j≤90000)(hk:k≤90000){u v:aM}(hu:Bg j u)(hv:Bg k v):Ok (Bg (j+k)) (kI N u v):=by
 obtain⟨a,rfl,ha⟩:=hu
 obtain⟨b,rfl,hb⟩:=hv
 exact oJ (sJ N hN (Fit.mono ha hj) (Fit.mono hb hk)) ⟨_,rfl,Fit.mul ha hb⟩
theorem FY(N:Nat){k:Nat}{u:aM}(hu:Bg k u):Ok (λ_=>True) (Uw N u):=by
 obtain⟨a,rfl,ha⟩:=hu
 exact oJ (pS N a) trivial
theorem qT(N:Nat)(hN:4000000≤N){j k:Nat}(hj:j≤90000)(hk:k≤90000){u v:aM}(hu:Bg j u)(hv:Bg k v):Ok (λ_=>True) (Nu N u v):=by
 obtain⟨a,rfl,ha⟩:=hu
 obtain⟨b,rfl,hb⟩:=hv
 exact oJ (Ht N hN (Fit.mono ha ω) (Fit.mono hb ω)) trivial
theorem aaj(v:Int):aF (CX v).1:=by
 by_cases h:aF v
 ·rw[wk h];exact h
 ·rw[zf h];unfold aF;decide
theorem yC(N:Nat){k:Nat}{u:aM}(hu:Bg k u):Ok (λr=>aF r.1) (yd N u):=by
 obtain⟨a,rfl,ha⟩:=hu
 exact oJ (uz N a) (aaj a)
abbrev L3(m:Nat)(l:au):Prop:=G m (.slice kf) l
def kS(m:Nat)(p:bM):Prop:=p.length≤m∧ ∀y∈p,Bg 8 y.2.2.1
theorem kS.at{m:Nat}{p:bM}(h:kS m p)(i:Nat):Bg 8 (p.getD i ((0:Int),((0:Int),((false,o6),())))).2.2.1:=by
 by_cases hk:i<p.length
 ·rw[aW,bl hk];exact h.2 _ (dF hk)
 ·rw[aW,il ω];exact Bg.mono Bg.zero δ
theorem kS.nil{m:Nat}:kS m []:=⟨bw _,λx hx=>nomatch hx⟩
theorem kS.app{m n:Nat}{p q:bM}(h:kS m p)(h':kS n q):kS (m+n) (p++q):=
 ⟨by have:=h.1;have:=h'.1;rw[aS];omega,λy hy=>(bn.1 hy).elim (h.2 y) (h'.2 y)⟩
theorem kS.mono{m n:Nat}{p:bM}(h:kS m p)(hm:m≤n):kS n p:=⟨cA h.1 hm,h.2⟩
theorem EC(N:Nat){k:Nat}{u:aM}(hu:Bg k u):Ok (λr=>aF r.1) (SU N u):=by
 unfold SU
 refine ag (yC N hu) λr h=>bG (λ_=>aq (by unfold aF;decide)) λ_=>ok_eq (λ_=>aq (by unfold aF;decide)) λ_=>aq h
theorem jD{x:Int}(h0: -1000000≤x)(h1:x≤1000000):aF x:=by unfold aF;omega
theorem G3{m:Nat}{a b c:Int}(ha:aF a)(hb:aF b)(hc:aF c):G m kf (a,(b,(c,()))):=⟨ha,hb,hc,trivial⟩
theorem bY:aF 0:=by unfold aF;decide
theorem W9(N:Nat)(hN:4000000≤N){x k n:Int}{p:bM}(hx:aF x)(hp:kS 50000 p):Ok (λr=>aF r.1) (oE N x k n p):=by
 have hl:=hp.1
 refine bs (len:=p.length) (F:=λn' i (s:aM×Bool)=>oE.l3 N n' x k n p s.1 s.2 i) (s:=(_,_)) (λi s=>Bg (8+i) s.1) (Bg.mono Bg.zero ω) ω (λn' i s hi hI hr=> ?_) (λn' s hI=> ?_)
 all_goals unfold oE.l3 oE.m3
 ·rw[aw (x:=(i:Int)+1) ω ω,af i]
  have h1:=hr (s.1,s.2) (Bg.mono hI ω)
  repeat' first|exact h1|refine aB ⟨ω,ω⟩ ?_|refine ax (λ_=> ?_) (λ_=> ?_)|refine ok_eq (λ_=> ?_) (λ_=> ?_)|(exfalso;omega)|exact ag (lX N hN ω hI (Bg.mono (hp.at _) ω)) λr h=>hr (r,true) h
 ·refine ax (λ_=>ω) λ_=>bG (λ_=>aq hx) λ_=>ag (bF N hN hx) λr h=>ag (lX N hN ω hI (Bg.mono h ω)) λr h=>ag (yC N h) λr h=>aq h
theorem adD(N:Nat)(hN:4000000≤N){l:au}{p:bM}{m:Nat}(hm:m≤50000)(hl:L3 m l)(hp:kS 50000 p):Ok (λr=>L3 200 r.1) (dQ N l p):=by
 have Jg:=hl.1
 refine jk (len:=8) (F:=λn k (s:au×Int)=>dQ.l4 N n l p s.1 s.2 k) (λi s=>L3 (25*i) s.1∧0≤s.2) (λn i s hi hI hr=> ?_) (λn s hI=> ?_) 8 N 1 (_,_) ω ω ω ⟨G.nil,fU 0⟩
 all_goals unfold dQ.l4 dQ.dL
 ·refine eK (λ_=> ?_) (λ_=>ω)
  refine bs (len:=25) (F:=λn' j (s:au×Int)=>dQ.l7 N (dQ.l4 N n) n' l p s.1 s.2 (i:Int) j) (s:=s) (λj s=>L3 (25*i+j) s.1∧0≤s.2) hI ω (λn' j s hj hI dZ=> ?_) (λn' s hI=> ?_)
  all_goals unfold dQ.l7 dQ.mK
  ·have kg: ∀(k x:Int),0≤k→aF x→Ok (λr=>L3 200 r.1) (dQ.UN N (dQ.l4 N n) (dQ.l7 N (dQ.l4 N n) n') l p s.1 k (i:Int) (j:Int) x):=λk x hk hx=>by
    unfold dQ.UN dQ.Mn
    rw[aw (x:=(j:Int)+1) ω ω,af j]
    have hs:=hI.1.1
    refine ag (W9 N hN hx hp) λr h=>bG (λ_=>aq G.nil) λ_=>bK (λ_=>aD (by rw[aK];omega) (dZ (_,k) ⟨G.app hI.1 (G3 (jD ω ω) (jD ω ω) h),hk⟩)) λ_=>dZ (s.1,k) ⟨G.mono ω hI.1,hk⟩
   have h0:=kg s.2 0 hI.2 bY
   have Wf:=hI.2
   repeat' first|exact h0|refine aB ⟨ω,ω⟩ ?_|refine ax (λ_=> ?_) (λ_=> ?_)|refine eK (λ_=> ?_) (λ_=> ?_)|refine ok_eq (λ_=> ?_) (λ_=> ?_)|(exfalso;omega)|exact kg _ _ (by rw[aw (x:=s.2+1) ω ω];omega) (G.at hl _).2.2.1
  ·rw[aw (x:=(i:Int)+1) ω ω,af i]
   exact eK (λ_=>ω) λ_=>hr s ⟨G.mono ω hI.1,hI.2⟩
 ·exact eK (λ_=>ω) λ_=>aq (G.mono δ hI.1)
theorem Th(N:Nat)(hN:4000000≤N){l t:au}{m:Nat}(hm:m≤50000)(hl:L3 m l)(ht:L3 50000 t):Ok (λr=>L3 200 r.1) (cQ N l t):=by
 have Jg:=hl.1
 have htl:=ht.1
 refine bs (len:=25) (F:=λn k (s:au×Int)=>cQ.l4 N n l t s.1 s.2 k) (s:=(_,_)) (λi s=>L3 (6*i) s.1∧0≤s.2) ⟨G.nil,fU 0⟩ ω (λn i s hi hI hr=> ?_) (λn s hI=> ?_)
 all_goals unfold cQ.l4 cQ.dL
 ·refine eK (λ_=> ?_) (λ_=>ω)
  refine bs (len:=6) (F:=λn' j (s:au×Int)=>cQ.l7 N (cQ.l4 N n) n' l t s.1 s.2 (i:Int) j) (s:=s) (λj s=>L3 (6*i+j) s.1∧0≤s.2) hI ω (λn' j s hj hI dZ=> ?_) (λn' s hI=> ?_)
  all_goals unfold cQ.l7 cQ.mK
  ·have kg: ∀(k x:Int),0≤k→aF x→Ok (λr=>L3 200 r.1) (cQ.UN N (cQ.l4 N n) (cQ.l7 N (cQ.l4 N n) n') l t s.1 k (i:Int) (j:Int) x false):=λk x hk hx=>by
    unfold cQ.UN cQ.Mn
    have hs:=hI.1.1
    have Bv: ∀y:Int,aF y→Ok (λr=>L3 200 r.1) (cond (!aN y 0) (cond (small (s.1.length+[(((i:Int),((j:Int),(y,()))):dh)].length)) (cQ.l7 N (cQ.l4 N n) n' l t (s.1++[((i:Int),((j:Int),(y,())))]) k (i:Int) (W .i64 ((j:Int)+1))) none) (cQ.l7 N (cQ.l4 N n) n' l t s.1 k (i:Int) (W .i64 ((j:Int)+1)))):=λy hy=>by
     rw[aw (x:=(j:Int)+1) ω ω,af j]
     exact bK (λ_=>aD (by rw[aK];omega) (dZ (_,k) ⟨G.app hI.1 (G3 (jD ω ω) (jD ω ω) hy),hk⟩)) λ_=>dZ (s.1,k) ⟨G.mono ω hI.1,hk⟩
    refine bs (len:=t.length) (F:=λK3 u (z:aM×Bool)=>cQ.KC N (cQ.l4 N n) (cQ.l7 N (cQ.l4 N n) n') K3 l t s.1 k (i:Int) (j:Int) x z.2 z.1 u) (s:=(_,_)) (λu z=>Bg (3+u) z.1) (Bg.mono Bg.zero ω) ω (λK3 u z hu hz aak=> ?_) (λK3 z hz=> ?_)
    all_goals unfold cQ.KC cQ.JP
    ·rw[aw (x:=(u:Int)+1) ω ω,af u]
     have h1:=aak (z.1,z.2) (Bg.mono hz ω)
     repeat' first|exact h1|refine aB ⟨ω,ω⟩ ?_|refine ax (λ_=> ?_) (λ_=> ?_)|refine ok_eq (λ_=> ?_) (λ_=> ?_)|(exfalso;omega)|exact ag (bF N hN (G.at ht _).2.2.1) λr h=>ag (lX N hN ω hz (Bg.mono h ω)) λr h=>aak (r,true) h
    ·exact ax (λ_=>ω) λ_=>oZ (λ_=>ag (bF N hN hx) λr h=>ag (lX N hN ω hz (Bg.mono h ω)) λr h=>ag (EC N h) λr h=>bG (λ_=>aq G.nil) λ_=>Bv _ h) λ_=>Bv _ hx
   have h0:=kg s.2 0 hI.2 bY
   have Wf:=hI.2
   repeat' first|exact h0|refine aB ⟨ω,ω⟩ ?_|refine ax (λ_=> ?_) (λ_=> ?_)|refine eK (λ_=> ?_) (λ_=> ?_)|refine ok_eq (λ_=> ?_) (λ_=> ?_)|(exfalso;omega)|exact kg _ _ (by rw[aw (x:=s.2+1) ω ω];omega) (G.at hl _).2.2.1
  ·rw[aw (x:=(i:Int)+1) ω ω,af i]
   exact ax (λ_=>ω) λ_=>hr s ⟨G.mono ω hI.1,hI.2⟩
 ·exact eK (λ_=>ω) λ_=>aq (G.mono δ hI.1)
theorem G.jG{m:Nat}:G m aL (ch,(cT,(bq,(bq,(dg,(du,())))))):=G.zero m aL
theorem uh(N:Nat)(hN:4000000≤N){b:an}{s:au}{p:bM}{m:Nat}(h2:200≤m)(hm:m≤50000)(hb:G m aL b)(hs:L3 50000 s)(hp:kS 50000 p):Ok (λr=>G m aL r.1) (zB N b s p):=by
 unfold zB
 exact ag (Th N hN hm hb.2.2.2.1 hs) λr h=>bG (λ_=>aq G.jG) λ_=>ag (adD N hN hm hb.2.2.1 hp) λr' h'=>bG (λ_=>aq G.jG) λ_=>aq ⟨hb.1,hb.2.1,G.mono h2 h',G.mono h2 h,hb.2.2.2.2⟩
theorem bO{α β:Type}{P:β→Prop}{o:Option α}{r:α}{f:α→Option β}(h:o=some r)(hf:Ok P (f r)):Ok P (o.bind f):=by rw[h];exact hf
theorem G.wf{m:Nat}(hm:m≤50000){b:an}(h:G m aL b):oF b:=by
 obtain⟨h1,h2,h3,h4,h5,h6,_⟩:=h
 exact⟨⟨cA h1.1 ω,cA h2.1 ω,cA h3.1 ω,cA h4.1 ω,cA h5.1 ω,cA h6.1 ω,λx hx=>(h3.2 x hx).2.2.1,λx hx=>(h4.2 x hx).2.2.1⟩,cA h3.1 ω,cA h4.1 ω⟩
theorem eh(N:Nat)(hN:5000000≤N){c:ae}{b:an}{m:Nat}(hm:m≤50000)(h:G m aL b):gG N c b=some (de c b):=sO N hN (G.wf hm h).w
theorem adE{x:Int}(h:c0 x):aF x:=by unfold c0 at h;unfold aF;omega
theorem JS(N:Nat)(hN:4000000≤N)(t:iE)(p:Int):Ok (λr=>kS 2 r.1) (Py N t p):=by
 unfold Py
 refine bO (vl N t) (bG (λ_=>aq kS.nil) λht=>bO (jz N p) (bG (λ_=>aq kS.nil) λ_=>ag (bF N hN (gH _)) λa ha=>ag (bF N hN ?_) λq hq=>ag (mR N hN ω ω ha hq) λx hx=>ag (FY N hx) λ_ _=>ok_eq (λ_=>aq kS.nil) λ_=> ?_))
 ·have:=bA ht
  unfold dv kj at this
  exact fC δ this.2.2.2.2.1.1 |> λh=>⟨h,sa this.2.2.2.2.1.2 δ⟩
 ·unfold Mr
  have hr: ∀a:Int,Ok (λ_=>True) (cond (aN a 0) (some ((2:Int),(0:Int))) (some ((5:Int),a))):=λa=>ok_eq (λ_=>aq trivial) λ_=>aq trivial
  refine ag (hr _) λ_ _=>ag (hr _) λ_ _=>ag (rV N hN ω hx) λy hy=>aq ⟨aH 2,λz hz=> ?_⟩
  rcases bc.1 hz with rfl|hz
  ·exact Bg.mono hx ω
  ·rw[cw.1 hz];exact Bg.mono hy ω
theorem PW(N:Nat)(hN:200000≤N){b:an}{m:Nat}(hm:m≤50000)(h:G m aL b)(id:Int):Ok (λ_=>True) (Mi N b id):=oJ (ql N b (G.wf hm h).w.a hN id) trivial
theorem K4(N:Nat)(hN:5000000≤N)(c:ae){b:an}{l:bh}{m:Nat}(h2:200≤m)(hm:m≤50000)(hb:G m aL b):Ok (λr=>G m aL r.1) (fk N c b l):=by
 unfold fk fk.b
 refine bO (eh N hN hm hb) (bG (λ_=>aq G.jG) λhB=>ax (λ_=>aq G.jG) λhl=> ?_)
 obtain⟨hp,_⟩:=eH hB
 refine bs (len:=l.length) (F:=λn i (_:Unit)=>fk.l4 N n l c b (ch,(cT,(bq,(bq,(dg,(du,())))))) i) (s:=()) (λi _=> ∀j,j<i→dv (l.getD j gq)) (λj hj=>ω) ω (λn i _ hi hI hr=> ?_) (λn _ hI=> ?_)
 all_goals unfold fk.l4 fk.dL
 ·rw[aw (x:=(i:Int)+1) ω ω,af i]
  refine ax (λ_=>aB ⟨ω,ω⟩ (bO (vl N _) (bG (λ_=>aq G.jG) λht=>hr () λj hj=> ?_))) λ_=>ω
  by_cases e:j=i
  ·rw[e];exact bA ht
  ·exact hI j ω
 ·refine ax (λ_=>ω) λ_=> ?_
  refine bs (len:=l.length) (F:=λn i (s:au×bM)=>fk.Ar N n l c b (ch,(cT,(bq,(bq,(dg,(du,())))))) s.1 s.2 i) (s:=(_,_)) (λi s=>L3 (2*i) s.1∧kS (2*i) s.2) ⟨G.nil,kS.nil⟩ ω (λn i s hi hJ hr=> ?_) (λn s hJ=> ?_)
  all_goals unfold fk.Ar fk.yq
  ·have ht:=hI i hi
   unfold dv kj at ht
   have Nr:=hJ.1.1
   have Wf:=hJ.2.1
   have g64: ∀x:Int,0≤x∧x≤1000000→aF x:=λx h=>jD ω ω
   dsimp only
   rw[aw (x:=(i:Int)+1) ω ω,af i,aG]
   refine ax (λ_=>aB ⟨ω,ω⟩ (ag (PW N ω hm hb _) λ_ _=>bG (λ_=>aq G.jG) λ_=>ag (PW N ω hm hb _) λ_ _=>bG (λ_=>aq G.jG) λ_=>eK (λ_=>aq G.jG) λeV=>aD ?_ (aB ⟨ht.2.2.2.1.1,ω⟩ (ag (JS N ω _ _) λr h=>aD ?_ (hr (_,_) ⟨?_,kS.mono (kS.app hJ.2 h) ω⟩))))) λ_=>ω
   ·rw[aT,aK];omega
   ·have:=h.1;omega
   ·have hq:aF (l.getD i gq).2.2.2.1:=⟨fC δ ht.2.2.2.2.1.1,sa ht.2.2.2.2.1.2 δ⟩
    have oe:aF (l.getD i gq).2.2.1:=g64 _ ⟨ht.2.2.2.1.1,fC (Int.le_of_lt ht.2.2.2.1.2) δ⟩
    have h1:=G.app (G.app hJ.1 (G3 (g64 _ ⟨ht.1.1,fC ht.1.2 δ⟩) oe hq)) (G3 (g64 _ ⟨ht.2.1.1,fC ht.2.1.2 δ⟩) oe (gH (0-(l.getD i gq).2.2.2.1)))
    rw[bD]at h1
    exact G.mono ω h1
  ·exact ax (λ_=>ω) λ_=>ag (uh N ω h2 hm hb (G.mono ω hJ.1) (kS.mono hJ.2 ω)) λr h=>aq h
def JT(k:Nat)(l:qx):Prop:= ∀x∈l,Bg k x
theorem JT.mono{j k:Nat}{l:qx}(h:JT j l)(hk:j≤k):JT k l:=λx hx=>Bg.mono (h x hx) hk
theorem JT.at{k:Nat}{l:qx}(h:JT k l)(h1:1≤k)(i:Nat):Bg k (l.getD i (false,o6)):=by
 by_cases hk:i<l.length
 ·rw[aW,bl hk];exact h _ (dF hk)
 ·rw[aW,il ω];exact Bg.mono Bg.zero h1
theorem JT.set{k:Nat}{l:qx}{x:aM}(h:JT k l)(hx:Bg k x)(i:Nat):JT k (l.set i x):=λy hy=>by
 rcases uG hy with hy|rfl
 ·exact h y hy
 ·exact hx
theorem JT.rep{k n:Nat}(h:1≤k):JT k (List.replicate n (false,o6)):=λx hx=>by
 rw[(List.mem_replicate.1 hx).2];exact Bg.mono Bg.zero h
theorem adF(N:Nat)(hN:5000000≤N)(c:ae){b:an}{m:Nat}(hm:m≤50000)(hb:G m aL b):Ok (λr=>(r.2=0→de c b=true∧r.1.length=4)∧JT 20 r.1) (sZ N c b):=by
 unfold sZ sZ.b
 have w:=(G.wf hm hb).w
 refine bO (eh N hN hm hb) (bG (λ_=>aq ⟨λh=>absurd h δ,λx hx=>nomatch hx⟩) λhB=>adC ⟨ω,ω,ω⟩ ?_)
 obtain⟨hp,BA⟩:=eH hB
 obtain⟨h6,hbk⟩:=tW (wy hB)
 refine bs (len:=c.1.length) (F:=λn i (s:qx)=>sZ.l5 N n c b s i) (λi s=>s.length=4∧JT (8+i) s) ⟨c7 ..,JT.rep ω⟩ ω (λn i s hi hI hr=> ?_) (λn s hI=> ?_)
 all_goals unfold sZ.l5 sZ.dU
 ·have hk:=hbk i hi
  have hl:=hI.1
  rw[aw (x:=(i:Int)+1) ω ω,af i,aG]
  have in1: ∀{x y:Option (qx×Int)},Ok (λr=>(r.2=0→de c b=true∧r.1.length=4)∧JT 20 r.1) x→Ok (λr=>(r.2=0→de c b=true∧r.1.length=4)∧JT 20 r.1) (cond (bf (c.1.getD i ba).1 s.length) x y):=λh=>aB ⟨hk.1,sa hk.2 (show(3:Int)<(s.length:Int)by omega)⟩ h
  exact ax (λ_=>aB ⟨ω,ω⟩ (in1 (bO (FR N w.s ω 0 (i:Int)) (ag (bF N ω (ZX w.qs 0 (i:Int))) λa ha=>aB ⟨ω,ω⟩ (ag (bF N ω (adE (qp BA ω))) λp hp=>ag (mR N ω ω ω ha hp) λx hx=>ag (lX N ω ω (JT.at hI.2 ω _) (Bg.mono hx ω)) λy hy=>in1 (hr _ ⟨by rw[bU];exact hl,JT.set (JT.mono hI.2 ω) hy _⟩)))))) λ_=>ω
 ·exact ax (λ_=>ω) λ_=>aq ⟨λ_=>⟨hB,hI.1⟩,JT.mono hI.2 ω⟩
theorem aqL{v:Int}(h:(CX v).2=true):(CX v).1=v:=by
 by_cases h':aF v
 ·rw[wk h']
 ·rw[zf h']at h;exact nomatch h
def JU(c:ae)(x:cL):Prop:=((λi n:Int=>0≤i∧i<n) x.2.1 c.1.length)∧qIn x.2.2.2.1
theorem K5(N:Nat)(hN:5000000≤N)(c:ae)(hc:aF (aqI c)){b:an}{m:Nat}(hm:m≤50000)(hb:G m aL b)(next:Int):Ok (λr=>G 4 (.slice fa) r.1∧ ∀x∈r.1,JU c x) (jK N c b next):=by
 unfold jK jK.b
 refine ag (adF N hN c hm hb) λz hz=>bK (λ_=>aq ⟨G.nil,λx hx=>nomatch hx⟩) λh0=>ax (λ_=>aq ⟨G.nil,λx hx=>nomatch hx⟩) λh1=>ax (λ_=>aq ⟨G.nil,λx hx=>nomatch hx⟩) λh2=> ?_
 obtain⟨hB,hl4⟩:=hz.1 h0
 obtain⟨hp,BA⟩:=eH hB
 obtain⟨h6,hbk⟩:=tW (wy hB)
 refine bs (len:=4) (F:=λn k (s:Int×aO)=>jK.l6 N n s.1 c b z.1 s.2 k) (s:=(_,_)) (λk s=>(G k (.slice fa) s.2∧ ∀x∈s.2,JU c x)∧next≤s.1∧s.1≤next+k) ⟨⟨G.nil,λx hx=>nomatch hx⟩,ω,ω⟩ ω (λn k s hk hI hr=> ?_) (λn s hI=> ?_)
 all_goals unfold jK.l6 jK.u7
 ·have Nr:=hI.1.1.1
  have Wf:=hI.2
  rw[aw (x:=(k:Int)+1) ω ω,af k]
  have tR:=hr s ⟨⟨G.mono ω hI.1.1,hI.1.2⟩,ω,ω⟩
  obtain⟨a,ea,ha⟩:=JT.at hz.2 ω k
  have ha':Fit (a.natAbs:Int) 20:=Fit.of_le ha ω
  refine ax (λ_=>bO (S7 N ω c ω (k:Int)) (aB ⟨ω,ω⟩ (bO (by rw[aG,ea];exact BP N ω (ha.mono ω)) (ok_eq (λ_=>tR) λkQ=>ag (bF N ω hc) λv hv=>ag (qT N ω ω ω ⟨_,rfl,ha'⟩ hv) λ_ _=>eK (λ_=>tR) λ_=> ?_)))) λ_=>ω
  have aqM:jE c (k:Int)≠[]:=λe=>kQ (by rw[e];rfl)
  have hh:0≤(jE c (k:Int)).getD 0 0∧(jE c (k:Int)).getD 0 0<(c.1.length:Int):=by
   have h1:=aqM
   unfold jE at h1 ⊢
   rw[wy hB,ak rfl]at h1 ⊢
   have:=Ey h1
   omega
  have hl0:0<(jE c (k:Int)).length:=p3.2 aqM
  have hpx:=qp BA (i:=((jE c (k:Int)).getD 0 0).toNat) ω
  have hj: ∀q:Int,0≤q∧q≤1000000000→Ok (λr=>G 4 (.slice fa) r.1∧ ∀x∈r.1,JU c x) (jK.Dn N (jK.l6 N n) s.1 c b z.1 s.2 (k:Int) (jE c (k:Int)) q):=λq hq=>by
   have awB:aF q:=by unfold aF;omega
   unfold jK.Dn jK.xa
   rw[aw (x:=(k:Int)+1) ω ω,af k,aw (x:=s.1+1) ω ω]
   have Bv:q≠0→ ∀d:Int,aF d→Ok (λr=>G 4 (.slice fa) r.1∧ ∀x∈r.1,JU c x) (cond (small (s.2.length+[((s.1,((jE c (k:Int)).getD 0 0,(d,(q,())))):cL)].length)) (jK.l6 N n (s.1+1) c b z.1 (s.2++[(s.1,((jE c (k:Int)).getD 0 0,(d,(q,()))))]) ((k+1:Nat):Int)) none):=λw5 d hd=>
    aD (by rw[aK];omega) (hr (_,_) ⟨⟨G.app hI.1.1 ⟨by show aF s.1;unfold aF;omega,(show aF ((jE c (k:Int)).getD 0 0)from jD ω ω),hd,awB,trivial⟩,λx hx=>by
     rcases bn.1 hx with hx|hx
     ·exact hI.1.2 x hx
     ·rw[List.mem_singleton.1 hx];exact⟨hh,show 1≤q∧q≤1000000000 by omega⟩⟩,by dsimp only;omega,by dsimp only;omega⟩)
   exact ok_eq (λ_=>tR) λw5=>aB ⟨ω,ω⟩ (aB ⟨ω,ω⟩ (ag (FY N (JT.at hz.2 ω _)) λ_ _=>ax (λ_=>Bv w5 2 (jD ω ω)) λ_=>Bv w5 1 (jD ω ω)))
  refine aB ⟨ω,ω⟩ (aB ⟨hh.1,by show(jE c (k:Int)).getD 0 0<_;omega⟩ ?_)
  have awC:=hpx
  unfold c0 at awC
  rw[show(0:Int).toNat=0 from rfl]
  refine bO (da N ω ω ω) (bO (Uz N hN ω (Fit.mono ha' ω) ((Fit.i64 ω ω).mono ω)) (bO (uz N _) (bG (λ_=>hj _ δ) λht=>ax (λ_=>hj _ δ) λhle=>hj _ ?_)))
  rw[aqL ht]at hle ⊢
  exact⟨uN ω ω,hle⟩
 ·exact ax (λ_=>ω) λ_=>aq hI.1
theorem Xa(N:Nat)(hN:5000000≤N)(c:ae)(hc:aF (aqI c)){b:an}{m:Nat}(hm:m≤50000)(hb:G m aL b)(next:Int):Ok (λr=>G 4 (.slice fa) r.1) (jK N c b next):=Mj (K5 N hN c hc hm hb next) λ_ h=>h.1
theorem Im(N:Nat)(hN:200000≤N){l:aY}(hl:l.length≤100000)(a:Int):Ok (λr=>L3 6 r) (fm N l a):=by
 unfold fm fm.b
 refine bs (len:=6) (F:=λn k (s:au)=>fm.l3 N n l a s k) (λk s=>L3 k s) G.nil ω (λn k s hk hI hr=> ?_) (λn s hI=> ?_)
 all_goals unfold fm.l3 fm.m3
 ·have hs:=hI.1
  refine ax (λ_=> ?_) λ_=>ω
  refine bs (len:=l.length) (F:=λn' i (x:dh)=>fm.l7 N (fm.l3 N n) n' l a s (k:Int) x i) (λi x=>G 6 kf x) (G3 (jD ω ω) bY bY) ω (λn' i x hi hx dZ=> ?_) (λn' x hx=> ?_)
  all_goals unfold fm.l7 fm.mK
  ·rw[aw (x:=(i:Int)+1) ω ω,af i]
   have h1:=dZ x hx
   repeat' first|exact h1|refine aB ⟨ω,ω⟩ ?_|refine ax (λ_=> ?_) (λ_=> ?_)|refine bK (λ_=> ?_) (λ_=> ?_)|refine ok_eq (λ_=> ?_) (λ_=> ?_)|(exfalso;omega)|exact dZ (_,(_,(_,_))) ⟨hx.1,gH _,hx.2.2.1,trivial⟩|exact dZ (_,(_,(_,_))) ⟨hx.1,hx.2.1,gH _,trivial⟩
  ·rw[aw (x:=(k:Int)+1) ω ω,af k]
   have h1:=hr s (G.mono ω hI)
   have h2:=hr (s++[x]) ⟨by rw[aS,aK];omega,λy hy=>by
    rcases bn.1 hy with hy|hy
    ·exact G.mono ω (hI.2 y hy)
    ·rw[cw.1 hy];exact⟨hx.1,hx.2.1,hx.2.2.1,trivial⟩⟩
   repeat' first|exact h1|exact h2|refine aD (by rw[aK];omega) ?_|refine ax (λ_=> ?_) (λ_=> ?_)|(exfalso;omega)
 ·exact ax (λ_=>ω) λ_=>aq hI
theorem K6(N:Nat)(hN:200000≤N)(c:ae){l:au}(hl:l.length≤100000):Ok (λ_=>True) (mQ N c l):=by
 unfold mQ mQ.b
 refine bO (mL N ω c) (bG (λ_=>aq trivial) λ_=>m7 (len:=l.length) (F:=λn i=>mQ.l5 N n l c 33000000000 i) ω (λn i hi hr=> ?_) λn=> ?_)
 all_goals unfold mQ.l5 mQ.dU
 ·rw[aw (x:=(i:Int)+1) ω ω,af i]
  dsimp only
  repeat' first|exact hr|exact aq trivial|refine aB ⟨ω,ω⟩ ?_|refine aB (by rw[aw (x:=(i:Int)-1) ω ω];omega) ?_|refine ax (λ_=> ?_) (λ_=> ?_)|refine eK (λ_=> ?_) (λ_=> ?_)|refine ok_eq (λ_=> ?_) (λ_=> ?_)|(exfalso;omega)
 ·exact ax (λ_=>ω) λ_=>aq trivial
theorem MF{k:Nat}(h:1≤k):Bg k (false,(([]:List Int),())):=Bg.mono Bg.zero h
theorem aal(N:Nat)(hN:4000000≤N)(c:ae){l:aE}{o:au}{m:Nat}(hm:m≤50000)(hl:G m (.slice kO) l)(ho:L3 m o)(k:Int):Ok (λr=>Bg 3 r.1) (gA N c l o k):=by
 have h1:=hl.1
 have h2:=ho.1
 unfold gA gA.b
 refine bO (vh N ω c ω) (bG (λ_=>aq (MF ω)) λ_=>ag (K6 N ω c ω) λ_ _=>bG (λ_=>aq (MF ω)) λ_=>ax (λ_=>aq (MF ω)) λ_=>eK (λ_=>aq (MF ω)) λ_=> ?_)
 refine bs (len:=l.length) (F:=λn i (q:aM)=>gA.l7 N n l o k (false,(([]:List Int),())) q (false,(([]:List Int),())) (false,(([]:List Int),())) i) (λ_ q=>Bg 2 q) (MF ω) ω (λn i q hi hq hr=> ?_) (λn q hq=> ?_)
 all_goals unfold gA.l7 gA.mK
 ·rw[aw (x:=(i:Int)+1) ω ω,af i]
  exact ax (λ_=>aB ⟨ω,ω⟩ (ok_eq (λ_=>aB ⟨ω,ω⟩ (ag (bF N hN (G.at hl _).2.1) λr h=>hr r h)) λ_=>hr q hq)) λ_=>ω
 ·refine ax (λ_=>ω) λ_=> ?_
  refine bs (len:=o.length) (F:=λn i (z:aM×aM)=>gA.nI N n o k (false,(([]:List Int),())) q z.1 z.2 i) (s:=(_,_)) (λ_ z=>Bg 2 z.1∧Bg 2 z.2) ⟨MF ω,MF ω⟩ ω (λn i z hi hz hr=> ?_) (λn z hz=> ?_)
  all_goals unfold gA.nI gA.mO
  ·rw[aw (x:=(i:Int)+1) ω ω,af i]
   exact ax (λ_=>aB ⟨ω,ω⟩ (ok_eq (λ_=>aB ⟨ω,ω⟩ (ag (bF N hN (G.at ho _).2.1) λr h=>aB ⟨ω,ω⟩ (ag (bF N hN (G.at ho _).2.2.1) λr' h'=>hr (r,r') ⟨h,h'⟩))) λ_=>hr z hz)) λ_=>ω
  ·exact ax (λ_=>ω) λ_=>ag (lX N hN ω hq hz.1) λx hx=>ag (Cn N hN ω hx) λx hx=>ag (zm N hN ω hq hz.2) λy hy=>ag (Cn N hN ω hy) λy hy=>ag (qT N hN ω ω hy hx) λ_ _=>ax (λ_=>aq hy) λ_=>aq hx
theorem PX(N:Nat)(hN:4000000≤N){c:ae}{l:aE}{o:au}{m:Nat}(hm:m≤50000)(hc:G m aA c)(hl:G m (.slice kO) l)(ho:L3 m o):Ok (λr=>Bg 60000 r.1) (nR N c l o):=by
 have h1:=hl.1
 have h2:=ho.1
 have h3:=hc.1.1
 unfold nR nR.b
 refine bO (vh N ω c ω) (bG (λ_=>aq (MF ω)) λ_=>ag (K6 N ω c ω) λ_ _=>bG (λ_=>aq (MF ω)) λ_=> ?_)
 refine bs (len:=c.1.length) (F:=λn i (t:aM)=>nR.l5 N n l o c (false,(([]:List Int),())) t i) (λi t=>Bg (8+i) t) (MF ω) ω (λn i t hi ht hr=> ?_) (λn t ht=> ?_)
 all_goals unfold nR.l5 nR.dU
 ·rw[aw (x:=(i:Int)+1) ω ω,af i]
  exact ax (λ_=>ag (aal N hN c hm hl ho _) λx hx=>aB ⟨ω,ω⟩ (ag (bF N hN (G.at hc.1 _).2.2.1) λr h=>ag (mR N hN ω ω hx h) λy hy=>ag (lX N hN ω ht (Bg.mono hy ω)) λz hz=>hr z hz)) λ_=>ω
 ·exact ax (λ_=>ω) λ_=>aq (Bg.mono ht ω)
theorem aqN{m:Nat}{l:au}(h:L3 m l)(a:Int):G m (.slice kO) (posOf l a):=by
 refine⟨cA (Df a l) h.1,λy hy=> ?_⟩
 unfold posOf at hy
 split at hy
 ·obtain⟨x,hx,_,e⟩:=nv hy
  rw[e];exact⟨(h.2 x hx).2.1,(h.2 x hx).2.2.1,trivial⟩
 ·nomatch hy
theorem PY(N:Nat)(hN:200000≤N){l:au}{m:Nat}(hm:m≤50000)(h:L3 m l)(a:Int):Ok (G m (.slice kO)) (mP N l a):=oJ (S2 N (cA h.1 ω) hN a) (aqN h a)
theorem Io(N:Nat)(hN:4000000≤N){c:ae}{b:an}{l:aY}{m:Nat}(h2:200≤m)(hm:m≤40000)(hc:G m aA c)(hb:G m aL b)(hl:l.length≤1000)(a:Int):Ok (Bg 60000) (PZ N c b a l):=by
 have ho:=hb.2.2.2.2.2.1.1
 unfold PZ
 refine aD (by rw[ca];omega) ?_
 dsimp only
 rw[cB]
 exact aD ω (ag (PY N ω ω hb.2.2.2.1 a) λr h=>ag (Im N ω (by rw[aS];omega) a) λo h'=>ag (PX N hN ω hc h (G.mono ω h')) λx hx=>aq hx)
theorem adG(N:Nat)(hN:4000000≤N){o:fX}{m:Nat}(ho:G m nw o)(a:Int):Ok (λr=>Bg 4 r.1) (adH N o a):=by
 unfold adH
 have hw: ∀x:Int,Ok (λr:aM×Int=>Bg 4 r.1) ((kR N o.2.2.2.2.1).bind λr5=>(kR N (W .i64 x)).bind λr6=>(kI N r5 r6).bind λr7=>some (r7,(0:Int))):=λx=>
  ag (bF N hN ho.2.2.2.2.1) λr h=>ag (bF N hN (gH _)) λr' h'=>ag (mR N hN ω ω h h') λy hy=>aq hy
 exact bO (BU N o) (bG (λ_=>aq (MF ω)) λ_=>bO (jz N a) (bG (λ_=>aq (MF ω)) λ_=>ok_eq (λ_=>ax (λ_=>aq (MF ω)) λ_=>hw _) λ_=>ax (λ_=>aq (MF ω)) λ_=>hw _))
theorem alv{m:Nat}{a:aO}(h:G m (.slice fa) a)(id:Int):G m fa (eM a id).1:=by
 unfold eM
 split
 ·have: ∀l:aO,(∀x∈l,G m fa x)→G m fa (vf id l).1:=by
   intro l
   induction l with
   |nil=>intro _;exact G.zero m fa
   |cons x t ih=>
    intro hx
    rw[pn]
    split
    ·exact hx x (bt ..)
    ·exact ih λy hy=>hx y (a8 _ hy)
  exact this a h.2
 ·exact G.zero m fa
theorem zn(N:Nat)(hN:200000≤N){a:aO}{m:Nat}(hm:m≤50000)(h:G m (.slice fa) a)(id:Int):Ok (λr=>G m fa r.1) (Ws N a id):=oJ (yh N (cA h.1 ω) hN id) (alv h id)
theorem pE(N:Nat)(hN:200000≤N){a:aE}{m:Nat}(hm:m≤50000)(h:G m (.slice kO) a)(id:Int):Ok (λ_=>True) (UC N a id):=oJ (pq N (cA h.1 ω) hN id) trivial
theorem ny(N:Nat)(hN:200000≤N){l:au}{m:Nat}(hm:m≤50000)(h:L3 m l)(a b:Int):Ok aF (vy N l a b):=oJ (Mp N (cA h.1 ω) hN a b) (ZV (λx hx=>(h.2 x hx).2.2.1) a b)
theorem Ip(N:Nat)(hN:200000≤N){a:aO}{m:Nat}(hm:m≤50000)(h:G m (.slice fa) a)(id:Int):Ok (λr=>G m fa r.1∧r=eM a id) (Ws N a id):=by
 obtain⟨r,e,hr⟩:=zn N hN hm h id
 exact⟨r,e,hr,oa (e.symm.trans (yh N (cA h.1 ω) hN id))⟩
theorem Co(N:Nat)(hN:5000000≤N){c:ae}{b:an}{o:fX}{m:Nat}(h2:200≤m)(hm:m≤40000)(hc:G m aA c)(hb:G m aL b)(ho:G m nw o):Ok (λe=>e=0→rf o∧(eM b.2.1 o.2.1).2=true∧lH o.2.2.1 c.1.length) (aam N c b o):=by
 have bad: ∀e:Int,e≠0→Ok (λe:Int=>e=0→rf o∧(eM b.2.1 o.2.1).2=true∧lH o.2.2.1 c.1.length) (some e):=λe h=>aq λh'=>absurd h' h
 have xg:=hb.2.2.2.2.2.1.1
 unfold aam
 refine bO (eh N hN ω hb) (bG (λ_=>bad _ δ) λhB=>bO (BU N o) (bG (λ_=>bad _ δ) λYu=>ag (Ip N ω ω hb.2.1 _) λx ⟨hx,Yx⟩=>bG (λ_=>bad _ δ) λhf=>ag (pE N ω ω hb.1 _) λ_ _=>bK (λ_=>bad _ δ) λ_=>eK (λ_=>bad _ δ) λhi=>aD (by rw[ca];omega) ?_))
 have hr:=bA Yu
 unfold rf Ao at hr
 obtain⟨hp,_⟩:=eH hB
 dsimp only
 rw[cB]
 exact aD (by rw[aK];omega) (ag (PY N ω ω hb.2.2.2.1 _) λr h=>ag (Im N ω (by rw[aS,aK];omega) _) λq h'=>ag (aal N ω c ω h (G.mono ω h') _) λt ht=>ag (bF N ω hx.2.2.2.1) λv hv=>ag (qT N ω ω ω ht hv) λ_ _=>ax (λ_=>bad _ δ) λ_=>aB ⟨hr.2.2.1.1,by rw[hp];exact hi⟩ (ag (adG N ω ho _) λe he=>ag (ny N ω ω hb.2.2.1 _ _) λg hg=>ag (bF N ω hg) λy hy=>ag (zm N ω ω (Bg.mono hy ω) he) λz hz=>ag (Io N ω h2 hm hc hb (by rw[aK];omega) _) λu hu=>ag (qT N ω ω ω hz hu) λ_ _=>ax (λ_=>bad _ δ) λ_=>aq λ_=>⟨bA Yu,by rw[←Yx];exact hf,hi⟩))
theorem U5(N:Nat)(hN:5000000≤N){c:ae}{b:an}{h:cL}{a q p:Int}{m:Nat}(h2:200≤m)(hm:m≤40000)(hc:G m aA c)(hb:G m aL b)(hh:G m fa h)(ha:aF a)(hq:aF q)(hp:aF p):Ok (λr=>G m aL r.1∧G m fa r.2.1) (qU N c b h a q p):=by
 have ho:G m nw (h.1,(a,(h.2.1,(W .i64 (3-h.2.2.1),(q,(p,())))))):=⟨hh.1,ha,hh.2.1,gH _,hq,hp,trivial⟩
 have ei: ∀e:Int,Ok (λr:an×cL×Int=>G m aL r.1∧G m fa r.2.1) (some ((ch,(cT,(bq,(bq,(dg,(du,())))))),(ba,e))):=λe=>aq ⟨G.jG,G.zero m fa⟩
 unfold qU qU.b
 have hj: ∀t:iE,Ok (λr=>G m aL r.1∧G m fa r.2.1) (qU.j14 N q c b h (ch,(cT,(bq,(bq,(dg,(du,())))))) ba t):=λt=>by
  unfold qU.j14 qU.adI
  exact ag (K4 N hN c h2 ω hb) λr hr=>bK (λ_=>ei _) λ_=>aq ⟨hr,hh.1,hh.2.1,hh.2.2.1,gH _,trivial⟩
 exact bO (eh N hN ω hb) (bG (λ_=>ei _) λ_=>bO (yB N h) (bG (λ_=>ei _) λ_=>ax (λ_=>ei _) λ_=>ax (λ_=>ei _) λ_=>ax (λ_=>ei _) λ_=>ax (λ_=>ei _) λ_=>ax (λ_=>ei _) λ_=>ax (λ_=>ei _) λ_=>ax (λ_=>ei _) λ_=>ag (Co N hN h2 hm hc hb ho) λe _=>bK (λ_=>ei _) λ_=>ok_eq (λ_=>hj _) λ_=>hj _))
def Dk(k:Nat)(d:aJ):Prop:=(∀x∈(d.1:List Int),0≤x∧x<18446744073709551616)∧0≤(d.2.1:Int)∧(d.2.1:Int)≤k
theorem Dk.mono{j k:Nat}{d:aJ}(h:Dk j d)(hk:j≤k):Dk k d:=⟨h.1,h.2.1,fC h.2.2 ω⟩
def iA:Nat:=1000000000
theorem FM(N:Nat){k:Nat}{d:aJ}(hk:k≤iA)(h:Dk k d):Ok (λr=>(0≤r.1∧r.1<18446744073709551616)∧Dk (k+1) r.2) (F62 N d):=by
 obtain⟨h1,h2,h3⟩:=h
 unfold iA at hk
 unfold F62
 have hw: ∀i:Int,0≤i→i≤(k:Int)→0≤W .i64 (i+1)∧W .i64 (i+1)≤((k+1:Nat):Int):=λi h0 h1=>by rw[aw ω ω];omega
 have hd:Dk (k+1) (d.1,(W .i64 (d.2.1+1),d.2.2)):=⟨h1,hw _ h2 h3⟩
 have hg: ∀(l:List Int) (i:Int),(∀x∈l,0≤x∧x<18446744073709551616)→0≤l.getD i.toNat 0∧l.getD i.toNat 0<18446744073709551616:=λl i hl=>by
  by_cases hi:i.toNat<l.length
  ·rw[aW,bl hi];exact hl _ (dF hi)
  ·rw[aW,il ω];decide
 exact ax (λeV=>aB ⟨h2,eV⟩ (aq ⟨hg _ _ h1,hd⟩)) λ_=>aq ⟨(show(0:Int)≤0∧(0:Int)<18446744073709551616 by decide),hd⟩
theorem rem_in{x y:Int}(h0:0≤x)(hy:0<y):0≤rem x y∧rem x y<y:=by
 unfold rem;rw[js]
 exact⟨Int.tmod_nonneg _ h0,Gg _ hy⟩
theorem ic(N:Nat){k:Nat}{d:aJ}{n:Int}(hn:0<n∧n<1000000)(h:Dk k d)(hk:k≤iA:=by first|decide|(unfold iA;omega)):Ok (λr=>(0≤r.1∧r.1<n)∧Dk (k+1) r.2) (o9 N d n):=by
 unfold o9
 refine ag (FM N hk h) λr hr=> ?_
 dsimp only
 rw[eB (x:=n) ω ω]
 have:=rem_in hr.1.1 hn.1
 refine ok_eq (λ_=>ω) λ_=>aq ⟨?_,hr.2⟩
 dsimp only
 rw[aw ω ω]
 exact this
theorem oB(N:Nat){k:Nat}{d:aJ}{n:Int}(hn:0<n∧n<1000000)(h:Dk k d)(hk:k≤iA:=by first|decide|(unfold iA;omega)):Ok (λr=>Dk (k+1) r.2) (P0 N d n):=by
 unfold P0
 exact ag (ic N hn h hk) λr hr=>aq hr.2
theorem wh(N:Nat){k:Nat}{d:aJ}(h:Dk k d)(hk:k≤iA:=by first|decide|(unfold iA;omega)):Ok (λr=>aF r.1∧Dk (k+1) r.2) (JV N d):=by
 unfold JV
 refine ag (FM N hk h) λr hr=>ok_eq (λ_=>ω) λ_=> ?_
 dsimp only
 repeat' first|exact aq ⟨gH _,hr.2⟩|refine ax (λ_=> ?_) (λ_=> ?_)|refine ok_eq (λ_=> ?_) (λ_=> ?_)|(exfalso;omega)
theorem aan{x y:Int}(hy:0<y)(hy1:y<9223372036854775808):aF (rem x y):=by
 unfold rem;rw[js]
 have h1:=Gg x hy
 have h2: -y<x.tmod y:=by
  have:=Gg (-x) hy
  rw[Int.neg_tmod]at this;omega
 unfold aF;omega
theorem B0{x y:Int}(hx:aF x)(hy:aF y):aF (mx x y):=by unfold mx;rw[js];split<;>assumption
theorem ZB{x y:Int}(hx:aF x)(hy:aF y):aF (mn x y):=by unfold mn;rw[js];split<;>assumption
theorem Ti{x n:Int}(h:0≤x∧x<n)(hn:n≤1000000):aF x:=jD ω ω
abbrev wU(m:Nat)(l:dn):Prop:=G m (.slice me) l
theorem tz{k a b c d e f g:Int}{m:Nat}(h0:aF k)(h1:aF a)(h2:aF b)(h3:aF c)(h4:aF d)(h5:aF e)(h6:aF f)(h7:aF g):G m me (k,(a,(b,(c,(d,(e,(f,(g,())))))))):=⟨h0,h1,h2,h3,h4,h5,h6,h7,trivial⟩
theorem bx{x:Int}(h: -1000000≤x∧x≤1000000:=by decide):aF x:=jD h.1 h.2
theorem MG(N:Nat){k:Nat}{d:aJ}(h:Dk k d)(c:ae){i:Int}(hi:0≤i∧i<(c.1.length:Int))(hc:c.1.length≤5)(hk:k≤100000000):Ok (λr=>G 0 me r.1∧Dk (k+5) r.2) (Xb N d c i):=by
 unfold Xb
 have hb:aF 1000000000000:=by unfold aF;decide
 have oe:aF i:=jD ω ω
 exact aB hi (ag (ic N δ h) λa ⟨_,hd⟩=>ag (oB N δ hd) λr hd=>oZ (λ_=>ag (wh N hd) λr ⟨_,hd⟩=>ok_eq (λ_=>ω) λ_=>aq ⟨tz bx bx bx oe bx bx bx (gH _),Dk.mono hd ω⟩) λ_=>aq ⟨tz bx bx bx oe bx bx bx (B0 bx (ZB hb (gH _))),Dk.mono hd ω⟩)
theorem P1(N:Nat){k:Nat}{d:aJ}(h:Dk k d)(c:ae)(T4:1≤c.1.length)(hc:c.1.length≤5)(hk:k≤100000000):Ok (λr=>G 0 me r.1∧Dk (k+10) r.2) (aao N d c):=by
 unfold aao
 have hb:aF 1000000000000:=by unfold aF;decide
 refine ag (ic N ⟨ω,ω⟩ h) λa ⟨ha,hd⟩=>ag (ic N δ hd) λb ⟨eY,hd⟩=> ?_
 dsimp only
 refine ag (ic N δ hd) λe ⟨he,hd⟩=>ag (ic N δ hd) λf ⟨hf,hd⟩=>aB ha (ag (ic N δ hd) λg ⟨_,hd⟩=>ag (oB N δ hd) λr hd=>oZ (λ_=>ag (wh N hd) λr ⟨_,hd⟩=>ok_eq (λ_=>ω) λ_=>ag (wh N hd) λr' ⟨_,hd⟩=>ok_eq (λ_=>ω) λ_=>aq ⟨tz bx bx (gH _) (Ti ha ω) (gH _) bx (gH _) (gH _),Dk.mono hd ω⟩) λ_=>aq ⟨tz bx bx (gH _) (Ti ha ω) (gH _) bx (gH _) (B0 bx (ZB hb (gH _))),Dk.mono hd ω⟩)
structure Cf(c:ae):Prop where
 g:G 5 aA c
 n:1≤c.1.length
theorem HG(N:Nat){k:Nat}{d:aJ}(h:Dk k d){c:ae}(hc:Cf c)(hk:k≤10000000):Ok (λr=>G 0 me r.1∧Dk (k+20) r.2) (Xc N d c):=by
 have hn:=hc.n
 have hl:=hc.g.1.1
 unfold Xc
 refine ag (ic N δ h) λa ⟨ha,hd⟩=> ?_
 dsimp only
 refine ag (ic N δ hd) λb ⟨hb,hd⟩=>ag (ic N ⟨ω,ω⟩ hd) λi ⟨hi,hd⟩=>ag (ic N δ hd) λe ⟨he,hd⟩=> ?_
 have hz: ∀(e:iD) (j:Nat) (d:aJ),G 0 me e→Dk j d→j≤k+20→Ok (λr=>G 0 me r.1∧Dk (k+20) r.2) (some (e,d)):=λe j d he hd hj=>aq ⟨he,Dk.mono hd hj⟩
 have hs: ∀{f:Int×aJ→Option (iD×aJ)},(∀x d,aF x→Dk (k+5) d→Ok (λr=>G 0 me r.1∧Dk (k+20) r.2) (f (x,d)))→Ok (λr=>G 0 me r.1∧Dk (k+20) r.2) ((JV N e.2).bind f):=λhf=>ag (wh N hd) λr ⟨h1,h2⟩=>hf r.1 r.2 h1 (Dk.mono h2 ω)
 have hm: ∀{n:Int} {f:Int×aJ→Option (iD×aJ)},0<n∧n<1000000→(∀x d,Dk (k+5) d→Ok (λr=>G 0 me r.1∧Dk (k+20) r.2) (f (x,d)))→Ok (λr=>G 0 me r.1∧Dk (k+20) r.2) ((o9 N e.2 n).bind f):=λhn hf=>ag (ic N hn hd) λr ⟨h1,h2⟩=>hf r.1 r.2 (Dk.mono h2 ω)
 repeat' first
  |refine ok_eq (λ_=> ?_) (λ_=> ?_)
  |(exfalso;omega)
  |(refine hs λx d' hx hd'=> ?_;dsimp only)
  |(refine hm δ λx d' hd'=> ?_;dsimp only)
  |(refine hz _ _ _ ?_ hd ω;refine⟨?_,?_,?_,?_,?_,?_,?_,?_,trivial⟩<;>first|exact gH _|exact bY|exact B0 hx bx|exact aan δ δ|exact(G.at hc.g.1 _).2.1)
  |(refine hz _ _ _ ?_ hd' ω;refine⟨?_,?_,?_,?_,?_,?_,?_,?_,trivial⟩<;>first|exact gH _|exact bY|exact B0 hx bx|exact aan δ δ|exact(G.at hc.g.1 _).2.1)
  |(refine hz _ _ _ ?_ h2 ω;refine⟨?_,?_,?_,?_,?_,?_,?_,?_,trivial⟩<;>first|exact gH _|exact bY|exact B0 hx bx|exact aan δ δ|exact(G.at hc.g.1 _).2.1)
  |exact ag (MG N hd c hi hl ω) λr ⟨h1,h2⟩=>hz _ _ _ h1 h2 ω
  |exact ag (P1 N hd c hn hl ω) λr ⟨h1,h2⟩=>hz _ _ _ h1 h2 ω
  |refine aB hi ?_
  |(refine ag (ic N δ hd') λr ⟨h1,h2⟩=> ?_)
theorem G.cat{m n:Nat}{e:Ty}{l k:List e.den}(h:G m (.slice e) l)(h':G n (.slice e) k):G (m+n) (.slice e) (l++k):=
 ⟨by have:=h.1;have:=h'.1;rw[aS];omega,λy hy=>by
  rcases bn.1 hy with hy|hy
  ·exact G.mono ω (h.2 y hy)
  ·exact G.mono ω (h'.2 y hy)⟩
theorem G.two{m:Nat}{e:Ty}{a b:e.den}(ha:G 0 e a)(hb:G 0 e b)(hm:2≤m):G m (.slice e) [a,b]:=
 ⟨hm,λy hy=>by
  rcases bc.1 hy with rfl|hy
  ·exact G.mono ω ha
  ·rw[cw.1 hy];exact G.mono ω hb⟩
theorem G.one{m:Nat}{e:Ty}{a:e.den}(ha:G 0 e a)(hm:1≤m):G m (.slice e) [a]:=
 ⟨hm,λy hy=>by rw[cw.1 hy];exact G.mono ω ha⟩
theorem zo{α:Type}(a b:α):[a,b].length=2:=rfl
theorem Tj(N:Nat)(hN:100≤N){k:Nat}{d:aJ}(h:Dk k d)(c:ae)(hk:k≤10000000):Ok (λr=>wU 40 r.1∧Dk (k+50) r.2) (gB N d c):=by
 have s64: ∀i:Nat,i<100→aF (i:Int):=λi hi=>jD ω ω
 unfold gB gB.b
 refine jk (len:=5) (F:=λn i (s:aJ×dn)=>gB.l3 N n s.1 s.2 i) (λi s=>Dk (k+2*i) s.1∧wU (3*i) s.2) (λn i s hi hI hr=> ?_) (λn s hI=> ?_) 5 N 1 (d,[]) ω ω ω ⟨Dk.mono h ω,G.nil⟩
 all_goals unfold gB.l3 gB.m3
 ·have hl:=hI.2.1
  have oe:=s64 i ω
  dsimp only
  rw[aw (x:=(i:Int)+1) ω ω,af i]
  have h2:wU (3*i+2) (s.2++[((1:Int),((i:Int),dS)),((2:Int),((i:Int),((i:Int),((0:Int),((1:Int),bb)))))]):=G.cat hI.2 (G.two (tz bx oe bY bY bY bY bY bY) (tz bx oe oe bY bx bY bY bY) ω)
  have hl2:=h2.1
  exact eK (λ_=>aD (by rw[zo];omega) (ag (oB N δ hI.1 (by unfold iA;omega)) λr hd=>bG (λ_=>ag (ic N δ hd (by unfold iA;omega)) λr ⟨_,hd⟩=>aD (by rw[aK];omega) (hr (_,_) ⟨Dk.mono hd ω,G.mono ω (G.cat h2 (G.one (m:=1) (tz bx oe bY bY bY bY (gH _) bY) ω))⟩)) λ_=>hr (_,_) ⟨Dk.mono hd ω,G.mono ω h2⟩)) λ_=>ω
 ·refine eK (λ_=>ω) λ_=> ?_
  refine jk (len:=8) (F:=λn i (s:aJ×dn)=>gB.l9 N n s.1 s.2 i) (λi s=>Dk (k+10+i) s.1∧wU (15+i) s.2) (λn i s hi hI hr=> ?_) (λn s hI=> ?_) 8 N 5 s ω ω ω ⟨Dk.mono hI.1 ω,G.mono ω hI.2⟩
  all_goals unfold gB.l9 gB.vd
  ·have hl:=hI.2.1
   dsimp only
   rw[aw (x:=(i:Int)+1) ω ω,af i]
   exact eK (λ_=>ag (ic N δ hI.1 (by unfold iA;omega)) λr ⟨_,hd⟩=>aD (by rw[aK];omega) (hr (_,_) ⟨Dk.mono hd ω,G.mono ω (G.cat hI.2 (G.one (m:=1) (tz bx (gH _) (s64 i ω) bY bx bY bY bY) ω))⟩)) λ_=>ω
  ·refine eK (λ_=>ω) λ_=> ?_
   refine jk (len:=8) (F:=λn i (s:aJ×dn)=>gB.my N n s.1 s.2 i) (λi s=>Dk (k+18+2*i) s.1∧wU (23+2*i) s.2) (λn i s hi hI hr=> ?_) (λn s hI=> ?_) 8 N 1 s ω ω ω ⟨Dk.mono hI.1 ω,G.mono ω hI.2⟩
   all_goals unfold gB.my gB.ly
   ·have hl:=hI.2.1
    have oe:=s64 i ω
    dsimp only
    rw[aw (x:=(i:Int)+1) ω ω,af i]
    exact eK (λ_=>ag (ic N δ hI.1 (by unfold iA;omega)) λr ⟨_,hd⟩=>ag (ic N δ hd (by unfold iA;omega)) λr ⟨_,hd⟩=>aD (by rw[zo];omega) (hr (_,_) ⟨Dk.mono hd ω,G.mono ω (G.cat hI.2 (G.two (m:=2) (tz bx bY oe bY bY bY (gH _) bY) (tz bx bY oe bY bY bY (gH _) bY) ω))⟩)) λ_=>ω
   ·exact eK (λ_=>ω) λ_=>aq ⟨G.mono ω hI.2,Dk.mono hI.1 ω⟩
theorem HE{x:Nat}(h:x<1000000):W .i64 (((x+1:Nat):Int)-1)=(x:Int):=by rw[aw ω ω];omega
theorem Kv(N:Nat)(hN:1000≤N){k:Nat}{d:aJ}(h:Dk k d){c:ae}(hc:Cf c){yl:Int}(hm:0≤yl∧yl≤100)(hk:k≤10000):Ok (λr=>wU 200 r.1∧Dk (k+3000) r.2) (qV N d c yl):=by
 have hn:=hc.n
 have hl:=hc.g.1.1
 unfold qV qV.b
 rw[aw (x:=yl+1) ω ω]
 refine ag (Tj N ω h c ω) λr ⟨BN,hd⟩=>ag (ic N ⟨ω,ω⟩ hd (by unfold iA;omega)) λz ⟨hz,hd⟩=> ?_
 obtain⟨j,hj⟩: ∃j:Nat,z.1=(j:Int):=⟨z.1.toNat,ω⟩
 rw[hj]
 refine wg (F:=λn x (s:aJ×dn)=>qV.l3 N n s.1 c s.2 x) (λx s=>x≤100∧Dk (k+100+25*(100-x)) s.1∧wU (40+(100-x)) s.2) (λn x s hI hr=> ?_) (λn s hI=> ?_) j N (z.2,r.1) ω ⟨ω,Dk.mono hd ω,G.mono ω BN⟩
 all_goals unfold qV.l3 qV.m3
 ·obtain⟨hx,hd,hG⟩:=hI
  have hs:=hG.1
  rw[HE ω]
  have put: ∀(e:iD) (d:aJ) (q:Nat),G 0 me e→Dk q d→q≤k+100+25*(100-(x+1))+25→Ok (λr=>wU 200 r.1∧Dk (k+3000) r.2) (cond (small (s.2.length+[e].length)) (qV.l3 N n d c (s.2++[e]) (x:Int)) none):=λe d q he hd hq=>aD (by rw[aK];omega) (hr (_,_) ⟨ω,Dk.mono hd ω,G.mono ω (G.cat hG (G.one (m:=1) he ω))⟩)
  exact ax (λ_=>ag (ic N δ hd (by unfold iA;omega)) λa ⟨_,hd⟩=>ok_eq (λ_=>ag (HG N hd hc ω) λr ⟨h1,h2⟩=>put _ _ _ h1 h2 ω) λ_=>ok_eq (λ_=>ag (ic N ⟨ω,ω⟩ hd (by unfold iA;omega)) λb ⟨hb,hd⟩=>ag (MG N hd c hb hl ω) λr ⟨h1,h2⟩=>put _ _ _ h1 h2 ω) λ_=>ag (P1 N hd c hn hl ω) λr ⟨h1,h2⟩=>put _ _ _ h1 h2 ω) λ_=>ω
 ·exact ax (λ_=>ω) λ_=>aq ⟨G.mono ω hI.2.2,Dk.mono hI.2.1 ω⟩
theorem vg(N:Nat)(hN:1000≤N){k:Nat}{d:aJ}(h:Dk k d){c:ae}(hc:Cf c)(hk:k≤100000):Ok (λr=>wU 3 r.1∧Dk (k+100) r.2) (oK N d c):=by
 have hn:=hc.n
 have hl:=hc.g.1.1
 unfold oK oK.b
 refine ag (ic N δ h (by unfold iA;omega)) λz ⟨hz,hd⟩=> ?_
 obtain⟨j,hj⟩: ∃j:Nat,z.1=(j:Int):=⟨z.1.toNat,ω⟩
 rw[hj]
 refine wg (F:=λn x (s:aJ×dn)=>oK.l3 N n s.1 c s.2 x) (λx s=>x≤3∧Dk (k+1+25*(3-x)) s.1∧wU (3-x) s.2) (λn x s hI hr=> ?_) (λn s hI=> ?_) j N (z.2,[]) ω ⟨ω,Dk.mono hd ω,G.nil⟩
 all_goals unfold oK.l3 oK.m3
 ·obtain⟨hx,hd,hG⟩:=hI
  have hs:=hG.1
  rw[HE ω]
  have put: ∀(e:iD) (d:aJ) (q:Nat),G 0 me e→Dk q d→q≤k+1+25*(3-(x+1))+25→Ok (λr=>wU 3 r.1∧Dk (k+100) r.2) (cond (small (s.2.length+[e].length)) (oK.l3 N n d c (s.2++[e]) (x:Int)) none):=λe d q he hd hq=>aD (by rw[aK];omega) (hr (_,_) ⟨ω,Dk.mono hd ω,G.mono ω (G.cat hG (G.one (m:=1) he ω))⟩)
  exact ax (λ_=>ag (oB N δ hd (by unfold iA;omega)) λa hd=>oZ (λ_=>ag (ic N ⟨ω,ω⟩ hd (by unfold iA;omega)) λb ⟨hb,hd⟩=>ag (MG N hd c hb hl ω) λr ⟨h1,h2⟩=>put _ _ _ h1 h2 ω) λ_=>ag (HG N hd hc ω) λr ⟨h1,h2⟩=>put _ _ _ h1 h2 ω) λ_=>ω
 ·exact ax (λ_=>ω) λ_=>aq ⟨G.mono ω hI.2.2,Dk.mono hI.2.1 ω⟩
end VM
end
