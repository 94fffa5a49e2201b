/- A part of the proof of HedgeLess of layer 22: what the functions compute, in plain words. -/
import Derived.Test.YtocmlaipoebfeaaGreatPlain1
set_option linter.all false
section
namespace VM
open Go VM.F
def dZ(r:cK):Int:=r.2.2.1
def aE(x:Int):Prop:= -9223372036854775808≤x∧x<9223372036854775808
def eW(l:au):Prop:= ∀x∈l,aE (dZ x)
theorem zB{l:au}(h:eW l)(i:Nat):aE (dZ (l.getD i a6)):=by
 by_cases hi:i<l.length
 ·rw[aU,bg hi];exact h _ (dx hi)
 ·rw[aU,gH ω];exact⟨δ,δ⟩
theorem OB{ws:List Int}(h: ∀x∈ws,aE x): -(9223372036854775808*(ws.length:Int))≤ws.sum∧ws.sum≤9223372036854775808*(ws.length:Int):=TW ws h
theorem Jy{ws:List Int}(h: ∀x∈ws,aE x)(hl:ws.length≤1000000):cf ws.sum:=by
 have:=OB h
 unfold cf;omega
theorem VS{ws:List Int}(h: ∀x∈ws,aE x): ∀x∈ws,cf x:=λx hx=>by
 have:=h x hx
 unfold aE at this;unfold cf;omega
theorem Ls(N:Nat){ws:List Int}(h: ∀x∈ws,aE x)(hl:ws.length≤1000000)(hN:1000000<N):mZ N (ws.map bS)=some (bS ws.sum,true):=by
 rw[EN N (VS h) hl hN]
 unfold Ou
 rw[ah (Jy h hl)]
def gK(l:au):Int:=if eP l then(l.map dZ).sum else 0
theorem Sb(N:Nat){l:au}(hq:eW l)(hl:l.length≤100000)(hN:2000000≤N):Dz.l5 N N cv [] l (l.length:Int) 0=some (bS (l.map dZ).sum):=by
 have:=oF l a6 (λn i ws=>Dz.l5 N n cv (ws.map bS) l (l.length:Int) i) (λt ws=>some (bS (ws++t.map dZ).sum)) (λi (ws:List Int)=>ws.length=i∧ ∀x∈ws,aE x)
  (λn i ws hi hI hr=> ?_) (λn ws hI=> ?_) l.length N 0 [] ω ω ω ⟨rfl,λx hx=>nomatch hx⟩
 ·simpa using this
 ·unfold Dz.l5 Dz.eA
  have nP:=zB hq i
  have iN:=nP
  unfold aE dZ at iN
  rw[aQ ω,ak,aS ω ω,ak,aG,qm N iN.1 iN.2,ar,bP (by rw[cI,aK];omega),ak,aw ω ω,af]
  have:=hr (ws++[dZ (l.getD i a6)]) ⟨by rw[aM,hI.1];rfl,λx hx=>by
   rcases bk.1 hx with hx|hx
   ·exact hI.2 x hx
   ·rw[cr.1 hx];exact nP⟩
  rw[dg]at this
  refine this.trans ?_
  rw[bR,bH];rfl
 ·unfold Dz.l5 Dz.eA
  rw[aP ω,av,Ls N hI.2 ω ω,ar,gQ,cH]
theorem YJ(N:Nat){l:au}(hq:eW l)(hl:l.length≤100000)(hN:2000000≤N):Dz N l=some (bS (gK l)):=by
 unfold Dz Dz.b gK
 rw[EP N hl ω,ar,cond_not,Sb N hq hl hN]
 cases eP l<;>rfl
theorem OC(N:Nat){l:au}(hq:eW l)(hl:l.length≤100000)(hN:4000000≤N):pJ.l5 N N l (di 0) (di 0) 0=some (di (l.map dZ).sum):=by
 have:=oF l a6 (λn i ws=>pJ.l5 N n l (di 0) (di ws.sum) i) (λt ws=>some (di (ws++t.map dZ).sum)) (λi (ws:List Int)=>ws.length=i∧ ∀x∈ws,aE x)
  (λn i ws hi hI hr=> ?_) (λn ws hI=> ?_) l.length N 0 [] ω ω ω ⟨rfl,λx hx=>nomatch hx⟩
 ·simpa using this
 ·unfold pJ.l5 pJ.eA
  have nP:=zB hq i
  have iN:=nP
  unfold aE dZ at iN
  have hb:=OB hI.2
  rw[hI.1]at hb
  rw[aQ ω,ak,aS ω ω,ak,aG,da N ω iN.1 iN.2,ar,ji N ω ((A3 (n:=i) ω hb.1 hb.2).mono ω) ((Fit.i64 iN.1 iN.2).mono ω),ar,aw ω ω,af]
  have:=hr (ws++[dZ (l.getD i a6)]) ⟨by rw[aM,hI.1];rfl,λx hx=>by
   rcases bk.1 hx with hx|hx
   ·exact hI.2 x hx
   ·rw[cr.1 hx];exact nP⟩
  rw[nh,cB,iF,iG]at this
  refine this.trans ?_
  rw[bR,bH];rfl
 ·unfold pJ.l5 pJ.eA
  rw[aP ω,av,gQ,cH]
theorem VT(N:Nat){l:au}(hq:eW l)(hl:l.length≤100000)(hN:4000000≤N):pJ N l=some (di (gK l)):=by
 unfold pJ pJ.b gK
 rw[Gt N hl ω,ar,cond_not]
 have:=OC N hq hl hN
 rw[kT]at this
 rw[this]
 cases eP l
 ·rw[av];exact ej some kT.symm
 ·rfl
end VM
end
section
namespace VM
open Go VM.F
def c8(inst:Int):au→List Int
 |[]=>[]
 |x::t=>if x.2.1=inst then dZ x::c8 inst t else c8 inst t
theorem dp(inst:Int)(x:cK)(t:au):c8 inst (x::t)=if x.2.1=inst then dZ x::c8 inst t else c8 inst t:=rfl
theorem VU(N:Nat){l:au}(hq:eW l)(hl:l.length≤100000)(hN:2000000≤N)(inst:Int):pK.l5 N N inst cv [] l (l.length:Int) 0=some (bS (c8 inst l).sum):=by
 have:=oF l a6 (λn i ws=>pK.l5 N n inst cv (ws.map bS) l (l.length:Int) i) (λt ws=>some (bS (ws++c8 inst t).sum)) (λi (ws:List Int)=>ws.length≤i∧ ∀x∈ws,aE x)
  (λn i ws hi hI hr=> ?_) (λn ws hI=> ?_) l.length N 0 [] ω ω ω ⟨aH _,λx hx=>nomatch hx⟩
 ·simpa using this
 ·unfold pK.l5 pK.eA
  have nP:=zB hq i
  have iN:=nP
  unfold aE dZ at iN
  rw[aQ ω,ak,aS ω ω,ak,aG,qm N iN.1 iN.2,ar,bP (by rw[cI,aK];omega),ak,aw ω ω,af,aI,dp]
  split
  ·have:=hr (ws++[dZ (l.getD i a6)]) ⟨by rw[aM,aK];omega,λx hx=>by
    rcases bk.1 hx with hx|hx
    ·exact hI.2 x hx
    ·rw[cr.1 hx];exact nP⟩
   rw[dg]at this
   refine this.trans ?_
   rw[bH];rfl
  ·exact hr ws ⟨ω,hI.2⟩
 ·unfold pK.l5 pK.eA
  rw[aP ω,av,Ls N hI.2 ω ω,ar]
  show _=some (bS (ws++[]).sum)
  rw[cH]
def tE(l:au)(inst:Int):Int:=if dt l then(c8 inst l).sum else 0
theorem acE(N:Nat){l:au}(hq:eW l)(hl:l.length≤100000)(hN:2000000≤N)(inst:Int):pK N l inst=some (bS (tE l inst)):=by
 unfold pK pK.b tE
 rw[A9 N hl ω,ar,cond_not,VU N hq hl hN]
 cases dt l<;>rfl
theorem Sc(N:Nat){l:au}(hq:eW l)(hl:l.length≤100000)(hN:4000000≤N)(inst:Int):pL.l5 N N l inst (di 0) (di 0) 0=some (di (c8 inst l).sum):=by
 have:=oF l a6 (λn i ws=>pL.l5 N n l inst (di 0) (di ws.sum) i) (λt ws=>some (di (ws++c8 inst t).sum)) (λi (ws:List Int)=>ws.length≤i∧ ∀x∈ws,aE x)
  (λn i ws hi hI hr=> ?_) (λn ws hI=> ?_) l.length N 0 [] ω ω ω ⟨aH _,λx hx=>nomatch hx⟩
 ·simpa using this
 ·unfold pL.l5 pL.eA
  have nP:=zB hq i
  have iN:=nP
  unfold aE dZ at iN
  have hb:=OB hI.2
  rw[aQ ω,ak,aS ω ω,ak,ak,aG,da N ω iN.1 iN.2,ar,ji N ω ((A3 (n:=ws.length) ω hb.1 hb.2).mono ω) ((Fit.i64 iN.1 iN.2).mono ω),ar,aw ω ω,af,aI,dp]
  split
  ·have:=hr (ws++[dZ (l.getD i a6)]) ⟨by rw[aM,aK];omega,λx hx=>by
    rcases bk.1 hx with hx|hx
    ·exact hI.2 x hx
    ·rw[cr.1 hx];exact nP⟩
   rw[nh,cB,iF,iG]at this
   refine this.trans ?_
   rw[bH];rfl
  ·exact hr ws ⟨ω,hI.2⟩
 ·unfold pL.l5 pL.eA
  rw[aP ω,av]
  show _=some (di (ws++[]).sum)
  rw[cH]
theorem OD(N:Nat){l:au}(hq:eW l)(hl:l.length≤100000)(hN:4000000≤N)(inst:Int):pL N l inst=some (di (tE l inst)):=by
 unfold pL pL.b tE
 rw[mQ N hl ω,ar,cond_not]
 have:=Sc N hq hl hN inst
 rw[kT]at this
 rw[this]
 cases dt l
 ·rw[av];exact ej some kT.symm
 ·rfl
def ud(l:au)(i:Nat):Prop:=dz (tE l (i:Int)) 0
instance(l:au):DecidablePred (ud l):=λi=>by unfold ud;infer_instance
def ku:Nat:=6
def oJ(l:au):Bool:=decide (∀j,j<ku→ud l j)&&dt l
theorem kv{x:Int}:p5 x=0↔x=0:=by unfold p5;split<;>(try split)<;>omega
theorem acF(N:Nat){l:au}(hq:eW l)(hl:l.length≤100000)(hN:2000000≤N):Eo N l=some (oJ l):=by
 unfold Eo Eo.b
 refine gV (len:=ku) (F:=λn i=>Eo.l2 N n l i) (ud l) (λn i r hi hp hr=> ?_) (λn=> ?_) N (by unfold ku;omega)
 ·unfold Eo.l2 Eo.fy
  unfold ku at hi
  rw[aQ ω,ak,acE N hq hl hN,ar,so,ar,cond_not,aI,aw ω ω,af,hr]
  by_cases hP:ud l i
  ·rw[ah hP,ah (kv.2 hP)]
  ·rw[aj hP,aj (λh=>hP (kv.1 h))]
 ·unfold Eo.l2 Eo.fy
  rw[aP (by unfold ku;omega),av,A9 N hl ω,ar]
theorem YK(N:Nat){l:au}(hq:eW l)(hl:l.length≤100000)(hN:4000000≤N):qp N l=some (oJ l):=by
 unfold qp qp.b
 refine gV (len:=ku) (F:=λn i=>qp.l2 N n l i) (ud l) (λn i r hi hp hr=> ?_) (λn=> ?_) N (by unfold ku;omega)
 ·unfold qp.l2 qp.fy
  unfold ku at hi
  rw[aQ ω,ak,OD N hq hl hN,ar,mj,ar,cond_not,aI,aw ω ω,af,hr]
  by_cases hP:ud l i
  ·rw[ah hP,ah (kv.2 hP)]
  ·rw[aj hP,aj (λh=>hP (kv.1 h))]
 ·unfold qp.l2 qp.fy
  rw[aP (by unfold ku;omega),av,mQ N hl ω,ar]
end VM
end
section
namespace VM
open Go VM.F
def jP(m:aD)(a:aO)(l:au)(i:Nat):Prop:=
 (dz (l.getD i a6).1 5→(et a (l.getD i a6).2.1).2=true)∧(dz (l.getD i a6).1 6∨dz (l.getD i a6).1 7→ ¬dz (gW m (l.getD i a6).2.1) 0)
instance(m:aD)(a:aO)(l:au):DecidablePred (jP m a l):=λi=>by unfold jP;infer_instance
theorem GA(N:Nat)(b:an)(hl:b.2.1.length≤100000)(hN:200000≤N)(id:Int):F82 N b id=some (et b.2.1 id).2:=by
 unfold F82
 rw[T2 N hl hN,ar]
theorem VV{k:Int}{f:Bool}{z:Int}{r:Option Bool}:cond (aN k 5) (cond (!f) (some false) r) (cond (aN k 6) (cond (aN z 0) (some false) r) (cond (aN k 7) (cond (aN z 0) (some false) r) r))=
  if(dz k 5→f=true)∧(dz k 6∨dz k 7→ ¬dz z 0)then r else some false:=by
 unfold dz
 rw[aI,aI,aI,aI,cond_not]
 by_cases h5:k=5
 ·have h6: ¬(k=6):=ω
  have h7: ¬(k=7):=ω
  cases f<;>simp[h5,h6,h7]
 ·by_cases h6:k=6
  ·by_cases hz:z=0<;>simp[h5,h6,hz]
  ·by_cases h7:k=7
   ·by_cases hz:z=0<;>simp[h5,h6,h7,hz]
   ·simp[h5,h6,h7]
theorem IH(N:Nat)(hN:200000≤N)(c:ae)(b:an)(hm:b.1.length≤100000)(ha:b.2.1.length≤100000)(hl:b.2.2.1.length≤100000){e:Bool}
  (he:ly.xK N N c b b.2.2.2.1 (b.2.2.2.1.length:Int) 0=some e):ly.l4 N N c b b.2.2.1 (b.2.2.1.length:Int) 0=some (decide (∀j,j<b.2.2.1.length→jP b.1 b.2.1 b.2.2.1 j)&&e):=by
 refine gV (F:=λn i=>ly.l4 N n c b b.2.2.1 (b.2.2.1.length:Int) i) (jP b.1 b.2.1 b.2.2.1) (λn i r hi hp hr=> ?_) (λn=> ?_) N ω
 ·unfold ly.l4 ly.eN
  rw[aQ ω,ak,aS ω ω,ak,aG,aw (x:=(i:Int)+1) ω ω,af,hr]
  simp only[GA N b ha hN,Cn N hm hN,ar]
  rw[VV]
  rfl
 ·unfold ly.l4 ly.eN
  rw[aP ω,av];exact he
def oc(a b:Int):Prop:=a<b
instance(a b:Int):Decidable (oc a b):=by unfold oc;infer_instance
def jj(c:ae)(a:aO)(l:au)(i:Nat):Prop:=
 (dz (l.getD i a6).1 0∨(et a (l.getD i a6).1).2=true)∧oc (l.getD i a6).2.1 c.1.length
instance(c:ae)(a:aO)(l:au):DecidablePred (jj c a l):=λi=>by unfold jj;infer_instance
theorem YL{k x n:Int}{f:Bool}{r:Option Bool}:cond (!aN k 0) (cond (!f) (some false) (cond (cZ n x) (some false) r)) (cond (cZ n x) (some false) r)=if(dz k 0∨f=true)∧oc x n then r else some false:=by
 unfold dz oc
 rw[cond_not,aI,cn,cond_not]
 by_cases h0:k=0
 ·by_cases hx:n≤x
  ·have: ¬x<n:=ω
   simp[h0,hx,this]
  ·have:x<n:=ω
   simp[h0,hx,this]
 ·by_cases hx:n≤x
  ·have: ¬x<n:=ω
   cases f<;>simp[h0,hx,this]
  ·have:x<n:=ω
   cases f<;>simp[h0,hx,this]
theorem Lt(N:Nat)(hN:200000≤N)(c:ae)(b:an)(ha:b.2.1.length≤100000)(hl:b.2.2.2.1.length≤100000){e:Bool}
  (he:ly.xL N N c b b.2.2.2.2.2.1 (b.2.2.2.2.2.1.length:Int) 0=some e):ly.xK N N c b b.2.2.2.1 (b.2.2.2.1.length:Int) 0=some (decide (∀j,j<b.2.2.2.1.length→jj c b.2.1 b.2.2.2.1 j)&&e):=by
 refine gV (F:=λn i=>ly.xK N n c b b.2.2.2.1 (b.2.2.2.1.length:Int) i) (jj c b.2.1 b.2.2.2.1) (λn i r hi hp hr=> ?_) (λn=> ?_) N ω
 ·unfold ly.xK ly.wP
  rw[aQ ω,ak,aS ω ω,ak,aG,aw (x:=(i:Int)+1) ω ω,af,hr]
  simp only[GA N b ha hN,ar]
  rw[YL]
  rfl
 ·unfold ly.xK ly.wP
  rw[aP ω,av];exact he
end VM
end
section
namespace VM
open Go VM.F
def qO(l:List Int)(i:Nat):Prop:=1≤l.getD i 0∧l.getD i 0≤1000000000000
instance(l:List Int):DecidablePred (qO l):=λi=>by unfold qO;infer_instance
def eV(l:List Int):Bool:=decide (∀j,j<l.length→qO l j)
theorem akp(N:Nat)(p:Int):F84 N p=some (!decide (1≤p∧p≤1000000000000)):=by
 unfold F84
 rw[Cl,ar]
theorem GB(N:Nat){l:List Int}(hl:l.length≤100000): ∀(m n i:Nat),l.length-i≤m→m<n→i≤l.length→(∀j,j<i→qO l j)→
  ∃r,sX.l2 N n l () (l.length:Int) (i:Int)=some r∧(cZ 0 r= !eV l)
 |m,0,i,_,hn,_,_=>ω
 |m,n+1,i,hm,hn,hi,hp=>by
  unfold sX.l2 sX.fy
  by_cases h:i<l.length
  ·rw[aQ ω,ak,aS ω ω,ak,aG,akp,ar,cond_not,ed]
   by_cases hP:qO l i
   ·have hP':=hP
    unfold qO at hP'
    rw[ah hP',aw ω ω]
    exact GB N hl (m-1) n (i+1) ω ω ω (λj hj=>by
     by_cases zt:j=i
     ·subst zt;exact hP
     ·exact hp j ω)
   ·have hP':=hP
    unfold qO at hP'
    rw[aj hP']
    refine⟨_,rfl,?_⟩
    rw[dY ω]
    unfold eV
    rw[bC (λh'=>hP (h' i h))];rfl
  ·rw[aP ω,av]
   refine⟨_,rfl,?_⟩
   rw[dL ω]
   unfold eV
   rw[a8 (λj hj=>hp j ω)];rfl
theorem VW(N:Nat){l:List Int}(hl:l.length≤100000)(hN:200000≤N):F83 N l ()=some (!eV l):=by
 unfold F83 sX sX.b
 obtain⟨r,e,h⟩:=GB N hl l.length N 0 ω ω ω (λj hj=>absurd hj ω)
 rw[show((0:Nat):Int)=0 from rfl]at e
 rw[e,ar,h]
def qP(c:ae)(a:aO)(l:bm)(i:Nat):Prop:=
 (et a (l.getD i eT).2.1).2=true∧oc (l.getD i eT).2.2.1 c.1.length
instance(c:ae)(a:aO)(l:bm):DecidablePred (qP c a l):=λi=>by unfold qP;infer_instance
theorem GC{x n:Int}{f:Bool}{r:Option Bool}:cond (!f) (some false) (cond (cZ n x) (some false) r)=if f=true∧oc x n then r else some false:=by
 unfold oc
 rw[cn,cond_not]
 by_cases hx:n≤x
 ·have: ¬x<n:=ω
  cases f<;>simp[hx,this]
 ·have:x<n:=ω
  cases f<;>simp[hx,this]
theorem Lu(N:Nat)(hN:200000≤N)(c:ae)(b:an)(ha:b.2.1.length≤100000)(hl:b.2.2.2.2.2.1.length≤100000)(hp:b.2.2.2.2.1.length≤100000):
  ly.xL N N c b b.2.2.2.2.2.1 (b.2.2.2.2.2.1.length:Int) 0=some (decide (∀j,j<b.2.2.2.2.2.1.length→qP c b.2.1 b.2.2.2.2.2.1 j)&&eV b.2.2.2.2.1):=by
 refine gV (F:=λn i=>ly.xL N n c b b.2.2.2.2.2.1 (b.2.2.2.2.2.1.length:Int) i) (qP c b.2.1 b.2.2.2.2.2.1) (λn i r hi D2 hr=> ?_) (λn=> ?_) N ω
 ·unfold ly.xL ly.wQ
  rw[aQ ω,ak,aS ω ω,ak,aG,aw (x:=(i:Int)+1) ω ω,af,hr]
  simp only[GA N b ha hN,ar]
  rw[GC]
  rfl
 ·unfold ly.xL ly.wQ
  rw[aP ω,av,VW N hp hN,ar,Bool.not_not]
def cY(c:ae)(b:an):Bool:=
 eo c&&(sm b.1 b.2.1&&(eP b.2.2.1&&(decide (dz (gK b.2.2.1) 0)&&(oJ b.2.2.2.1&&(dv b.2.2.2.2.2.1&&(decide (dz b.2.2.2.2.1.length c.1.length)&&
  (decide (∀j,j<b.2.2.1.length→jP b.1 b.2.1 b.2.2.1 j)&&(decide (∀j,j<b.2.2.2.1.length→jj c b.2.1 b.2.2.2.1 j)&&(decide (∀j,j<b.2.2.2.2.2.1.length→qP c b.2.1 b.2.2.2.2.2.1 j)&&eV b.2.2.2.2.1)))))))))
structure iM(b:an):Prop where
 m:b.1.length≤100000
 a:b.2.1.length≤100000
 r:b.2.2.1.length≤100000
 s:b.2.2.2.1.length≤100000
 p:b.2.2.2.2.1.length≤100000
 o:b.2.2.2.2.2.1.length≤100000
 qr:eW b.2.2.1
 qs:eW b.2.2.2.1
theorem pM{x:Bool}{r:Option Bool}{y:Bool}(h:r=some y):cond (!x) (some false) r=some (x&&y):=by subst h;cases x<;>rfl
theorem EV(N:Nat)(hN:4000000≤N){c:ae}{b:an}(w:iM b):ly N c b=some (cY c b):=by
 unfold ly ly.b cY
 rw[EO N ω,ar]
 refine pM ?_
 rw[acx N w.m w.a ω,ar]
 refine pM ?_
 rw[EP N w.r ω,ar]
 refine pM ?_
 rw[YJ N w.qr w.r ω,ar,so,ar]
 have e0:aN (p5 (gK b.2.2.1)) 0=decide (dz (gK b.2.2.1) 0):=by rw[jB,np];exact kv
 rw[e0]
 refine pM ?_
 rw[acF N w.qs w.s ω,ar]
 refine pM ?_
 rw[Jx N w.o ω,ar]
 refine pM ?_
 rw[jB]
 refine pM ?_
 exact IH N ω c b w.m w.a w.r (Lt N ω c b w.a w.s (Lu N ω c b w.a w.o w.p))
end VM
end
section
namespace VM
open Go VM.F
theorem u7(N:Nat)(b:an)(hl:b.2.1.length≤100000)(hN:200000≤N)(id:Int):Lv N b id=some ((et b.2.1 id).2||decide (dz id 0)):=by
 unfold Lv
 rw[Be N hl hN,ar,jB]
 cases(et b.2.1 id).2<;>rfl
theorem Sd{k:Int}{f:Bool}{z:Int}{r:Option Bool}:cond (aN k 5) (cond (!f) (some false) (cond (aN k 6) (cond (aN z 0) (some false) r) (cond (aN k 7) (cond (aN z 0) (some false) r) r))) (cond (aN k 6) (cond (aN z 0) (some false) r) (cond (aN k 7) (cond (aN z 0) (some false) r) r))=
  if(dz k 5→f=true)∧(dz k 6∨dz k 7→ ¬dz z 0)then r else some false:=by
 unfold dz
 rw[aI,aI,aI,aI,cond_not]
 by_cases h5:k=5
 ·have h6: ¬(k=6):=ω
  have h7: ¬(k=7):=ω
  cases f<;>simp[h5,h6,h7]
 ·by_cases h6:k=6
  ·by_cases hz:z=0<;>simp[h5,h6,hz]
  ·by_cases h7:k=7
   ·by_cases hz:z=0<;>simp[h5,h6,h7,hz]
   ·simp[h5,h6,h7]
theorem II(N:Nat)(hN:200000≤N)(c:ae)(b:an)(ha:b.2.1.length≤100000)(hl:b.2.2.2.2.2.1.length≤100000)(ho:dv b.2.2.2.2.2.1=true):
  cN.xL N N c b 0=some (decide (∀j,j<b.2.2.2.2.2.1.length→qP c b.2.1 b.2.2.2.2.2.1 j)&&true):=by
 refine gV (F:=λn i=>cN.xL N n c b i) (qP c b.2.1 b.2.2.2.2.2.1) (λn i r hi D2 hr=> ?_) (λn=> ?_) N ω
 ·unfold cN.xL cN.wQ
  unfold dv at ho
  rw[bB,fb]at ho
  have h1:=(ho.1 i hi).1
  unfold jb tZ at h1
  have h2:decide (dz (b.2.2.2.2.2.1.getD i eT).2.1 0)=false:=bC (by unfold dz;omega)
  rw[aQ ω,ak,aS ω ω,ak,aG,aw (x:=(i:Int)+1) ω ω,af,hr]
  simp only[u7 N b ha hN,ar,ak]
  rw[h2,rI,GC]
  rfl
 ·unfold cN.xL cN.wQ
  rw[aP ω,av]
theorem Ep(N:Nat)(hN:200000≤N)(c:ae)(b:an)(hl:b.2.2.2.2.1.length≤100000){e:Bool}(he:cN.xL N N c b 0=some e):
  cN.N8 N N c b 0=some (eV b.2.2.2.2.1&&e):=by
 refine gV (F:=λn i=>cN.N8 N n c b i) (qO b.2.2.2.2.1) (λn i r hi D2 hr=> ?_) (λn=> ?_) N ω
 ·unfold cN.N8 cN.N9
  rw[aQ ω,ak,aS ω ω,ak,aG,aw (x:=(i:Int)+1) ω ω,af,hr,iL,ar,cond_not,ed]
  rfl
 ·unfold cN.N8 cN.N9
  rw[aP ω,av];exact he
theorem IJ(N:Nat)(hN:200000≤N)(c:ae)(b:an)(ha:b.2.1.length≤100000)(hl:b.2.2.2.1.length≤100000){e:Bool}(he:cN.N8 N N c b 0=some e):
  cN.lx N N c b 0=some (decide (∀j,j<b.2.2.2.1.length→jj c b.2.1 b.2.2.2.1 j)&&e):=by
 refine gV (F:=λn i=>cN.lx N n c b i) (jj c b.2.1 b.2.2.2.1) (λn i r hi D2 hr=> ?_) (λn=> ?_) N ω
 ·unfold cN.lx cN.kt
  rw[aQ ω,ak,aS ω ω,ak,aG,aw (x:=(i:Int)+1) ω ω,af,hr]
  simp only[u7 N b ha hN,ar,ak]
  rw[GC]
  have YM:((((et b.2.1 (b.2.2.2.1.getD i a6).1).2||decide (dz (b.2.2.2.1.getD i a6).1 0))=true)∧oc (b.2.2.2.1.getD i a6).2.1 c.1.length)↔jj c b.2.1 b.2.2.2.1 i:=by
   unfold jj
   rw[nu,fb]
   exact⟨λh=>⟨h.1.symm,h.2⟩,λh=>⟨h.1.symm,h.2⟩⟩
  by_cases hP:jj c b.2.1 b.2.2.2.1 i
  ·rw[ah hP,ah (YM.2 hP)]
  ·rw[aj hP,aj (λh=>hP (YM.1 h))]
 ·unfold cN.lx cN.kt
  rw[aP ω,av];exact he
theorem GD(N:Nat)(hN:200000≤N)(c:ae)(b:an)(hm:b.1.length≤100000)(ha:b.2.1.length≤100000)(hl:b.2.2.1.length≤100000)(hk:eP b.2.2.1=true){e:Bool}
  (he:cN.lx N N c b 0=some e):cN.l6 N N c b 0=some (decide (∀j,j<b.2.2.1.length→jP b.1 b.2.1 b.2.2.1 j)&&e):=by
 refine gV (F:=λn i=>cN.l6 N n c b i) (jP b.1 b.2.1 b.2.2.1) (λn i r hi D2 hr=> ?_) (λn=> ?_) N ω
 ·unfold cN.l6 cN.tX
  unfold eP at hk
  rw[fv,fb]at hk
  have h1:=(hk i hi).1
  rw[aQ ω,ak,aS ω ω,ak,aG,aw (x:=(i:Int)+1) ω ω,af,hr]
  simp only[u7 N b ha hN,sj N hm hN,ar]
  rw[Sd]
  have YM:((dz (b.2.2.1.getD i a6).1 5→((et b.2.1 (b.2.2.1.getD i a6).2.1).2||decide (dz (b.2.2.1.getD i a6).2.1 0))=true)∧(dz (b.2.2.1.getD i a6).1 6∨dz (b.2.2.1.getD i a6).1 7→ ¬dz (gW b.1 (b.2.2.1.getD i a6).2.1) 0))↔jP b.1 b.2.1 b.2.2.1 i:=by
   unfold jP
   refine and_congr_left λ_=>imp_congr_right λh5=> ?_
   rw[nu,fb]
   refine⟨λh=>h.elim id λh0=> ?_,.inl⟩
   unfold cV at h1;unfold dz at h5 h0;omega
  by_cases hP:jP b.1 b.2.1 b.2.2.1 i
  ·rw[ah hP,ah (YM.2 hP)]
  ·rw[aj hP,aj (λh=>hP (YM.1 h))]
 ·unfold cN.l6 cN.tX
  rw[aP ω,av];exact he
end VM
end
section
namespace VM
open Go VM.F
theorem oL{x:Bool}{r:Option Bool}{y:Bool}(h:x=true→r=some y):cond (!x) (some false) r=some (x&&y):=by
 cases x
 ·rfl
 ·exact h rfl
theorem OE(N:Nat)(hN:5000000≤N){c:ae}{b:an}(w:iM b):cN N c b=some (cY c b):=by
 unfold cN cN.b
 rw[nM N ω,ar]
 have e0:aN (p5 (gK b.2.2.1)) 0=decide (dz (gK b.2.2.1) 0):=by rw[jB,np];exact kv
 refine(oL λ_=> ?_).trans (ej some (?_:(eo c&&(sm b.1 b.2.1&&(eP b.2.2.1&&(oJ b.2.2.2.1&&(dv b.2.2.2.2.2.1&&(decide (dz b.2.2.2.2.1.length c.1.length)&&(decide (dz (gK b.2.2.1) 0)&&
  (decide (∀j,j<b.2.2.1.length→jP b.1 b.2.1 b.2.2.1 j)&&(decide (∀j,j<b.2.2.2.1.length→jj c b.2.1 b.2.2.2.1 j)&&(eV b.2.2.2.2.1&&(decide (∀j,j<b.2.2.2.2.2.1.length→qP c b.2.1 b.2.2.2.2.2.1 j)&&true)))))))))))=cY c b))
 ·rw[xI N w.m w.a ω,ar]
  refine oL λ_=> ?_
  rw[Gt N w.r ω,ar]
  refine oL λhk=> ?_
  rw[YK N w.qs w.s ω,ar]
  refine oL λ_=> ?_
  rw[ij N w.o ω,ar]
  refine oL λho=> ?_
  rw[jB]
  refine oL λ_=> ?_
  rw[VT N w.qr w.r ω,ar,mj,ar,e0]
  refine oL λ_=> ?_
  exact GD N ω c b w.m w.a w.r hk (IJ N ω c b w.a w.s (Ep N ω c b w.p (II N ω c b w.a w.o ho)))
 ·unfold cY
  generalize eo c=x1,sm b.1 b.2.1=x2,eP b.2.2.1=x3,oJ b.2.2.2.1=x4,dv b.2.2.2.2.2.1=x5,decide (dz b.2.2.2.2.1.length c.1.length)=x6,decide (dz (gK b.2.2.1) 0)=x7,decide (∀j,j<b.2.2.1.length→jP b.1 b.2.1 b.2.2.1 j)=x8,decide (∀j,j<b.2.2.2.1.length→jj c b.2.1 b.2.2.2.1 j)=x9,eV b.2.2.2.2.1=bb,decide (∀j,j<b.2.2.2.2.2.1.length→qP c b.2.1 b.2.2.2.2.2.1 j)=aX
  rw[fv]
  cases x1<;>cases x2<;>cases x3<;>cases x4<;>cases x5<;>cases x6<;>cases x7<;>try rfl
  cases x8<;>cases x9<;>cases bb<;>cases aX<;>rfl
end VM
end
section
namespace VM
open Go VM.F
def qq(a q n:Int)(i:Nat)(p:Int):Prop:=0≤a∧a<n∧q≠0∧qE q∧(0<i→p<a)
instance(a q n:Int)(i:Nat)(p:Int):Decidable (qq a q n i p):=by unfold qq;infer_instance
def oq(c:ae)(l:aD)(i:Nat):Prop:=qq (l.getD i cv).1 (l.getD i cv).2.1 c.1.length i (l.getD (i-1) cv).1
instance(c:ae)(l:aD):DecidablePred (oq c l):=λi=>by unfold oq;infer_instance
def oM(c:ae)(l:aD):Bool:=decide (∀j,j<l.length→oq c l j)&&eo c
theorem T9(N:Nat)(hN:200000≤N)(c:ae){l:aD}(hl:l.length≤100000):pN N c l=some (oM c l):=by
 unfold pN pN.b
 refine gV (F:=λn i=>pN.l2 N n l c l (l.length:Int) i) (oq c l) (λn i r hi hp hr=> ?_) (λn=> ?_) N ω
 ·unfold pN.l2 pN.fy
  rw[aQ ω,ak,aS ω ω,ak,aG,aw (x:=(i:Int)+1) ω ω,af,hr,tz,ar,cond_not,ed]
  by_cases h0:0<i
  ·have e:W .i64 ((i:Int)-1)=((i-1:Nat):Int):=by rw[aw ω ω];omega
   dsimp only
   rw[aQ (x:=0) (y:=(i:Int)) ω,ak,e,aG,aS ω ω,ak]
   simp only[bN,cn,aI]
   by_cases hP:oq c l i
   ·rw[ah hP];unfold oq qq at hP
    rw[aj ω,aj ω,aj hP.2.2.1,ah hP.2.2.2.1,aj ω]
   ·rw[aj hP];unfold oq qq at hP
    have h2:=λh1 h2 h3 h4 h5=>hP ⟨h1,h2,h3,h4,h5⟩
    repeat' split
    all_goals first|rfl|(exfalso;exact h2 ω ω (by assumption) (by assumption) ω)
  ·rw[aP (x:=0) (y:=(i:Int)) ω,av]
   simp only[bN,cn,aI]
   by_cases hP:oq c l i
   ·rw[ah hP];unfold oq qq at hP
    rw[aj ω,aj ω,aj hP.2.2.1,ah hP.2.2.2.1]
   ·rw[aj hP];unfold oq qq at hP
    have h2:=λh1 h2 h3 h4 h5=>hP ⟨h1,h2,h3,h4,h5⟩
    repeat' split
    all_goals first|rfl|(exfalso;exact h2 ω ω (by assumption) (by assumption) ω)
 ·unfold pN.l2 pN.fy
  rw[aP ω,av,EO N ω,ar]
end VM
end
section
namespace VM
open Go VM.F
theorem Bj(N:Nat)(hN:200000≤N)(c:ae){l:aD}(hl:l.length≤100000):nQ N c l=some (oM c l):=by
 unfold nQ nQ.b
 rw[nM N ω,ar]
 have hsc:=gV (F:=λn i=>nQ.l4 N n l c i) (e:=true) (oq c l) (λn i r hi hp hr=> ?_) (λn=> ?_) N (show l.length<N by omega)
 ·rw[pM hsc];unfold oM
  rw[fv,Bool.and_comm]
 ·unfold nQ.l4 nQ.eN
  rw[aQ ω,ak,aS ω ω,ak,aG,aw (x:=(i:Int)+1) ω ω,af,hr]
  by_cases h0:0<i
  ·have e:W .i64 ((i:Int)-1)=((i-1:Nat):Int):=by rw[aw ω ω];omega
   dsimp only
   rw[aQ (x:=0) (y:=(i:Int)) ω,e,aG,aS (i:=((i-1:Nat):Int)) ω ω]
   simp only[bN,cn,aI,ak]
   by_cases hP:oq c l i
   ·rw[ah hP];unfold oq qq at hP
    rw[aj ω,aj ω,aj hP.2.2.1,aj (show ¬((l.getD i cv).2.1:Int)= -9223372036854775808 from hP.2.2.2.1),aj ω]
   ·rw[aj hP];unfold oq qq at hP
    have h2:=λh1 h2 h3 h4 h5=>hP ⟨h1,h2,h3,h4,h5⟩
    repeat' split
    all_goals first|rfl|(exfalso;exact h2 ω ω (by assumption) (by assumption) ω)
  ·rw[aP (x:=0) (y:=(i:Int)) ω]
   simp only[bN,cn,aI,ak,av]
   by_cases hP:oq c l i
   ·rw[ah hP];unfold oq qq at hP
    rw[aj ω,aj ω,aj hP.2.2.1,aj (show ¬((l.getD i cv).2.1:Int)= -9223372036854775808 from hP.2.2.2.1)]
   ·rw[aj hP];unfold oq qq at hP
    have h2:=λh1 h2 h3 h4 h5=>hP ⟨h1,h2,h3,h4,h5⟩
    repeat' split
    all_goals first|rfl|(exfalso;exact h2 ω ω (by assumption) (by assumption) ω)
 ·unfold nQ.l4 nQ.eN
  rw[aP ω,av]
end VM
end
section
namespace VM
open Go VM.F
def Lw(a b c d:Int):Prop:=(1≤a∧a≤1099511627776)∧(1≤b∧b≤1099511627776)∧(1≤c∧c≤12)∧(-1152921504606846976≤d∧d≤1152921504606846976)
instance(a b c d:Int):Decidable (Lw a b c d):=by unfold Lw;infer_instance
def Jz(x:bT):Prop:=Lw x.1 x.2.1 x.2.2.1 x.2.2.2.1
instance(x:bT):Decidable (Jz x):=by unfold Jz;infer_instance
theorem Ua(N:Nat)(x:bT):YN N x=some (decide (Jz x)):=by
 unfold YN
 rw[ny x.2.2.2.1]
 repeat rw[fY]
 congr 1
 rw[ns,fb]
 unfold Jz Lw
 simp only[bB,ux]
 omega
end VM
end
section
namespace VM
open Go VM.F
def su(m lot:Int)(x:bT):Bool:=decide (dz x.2.2.1 m)&&decide (dz x.2.1 lot)
end VM
end
section
namespace VM
open Go VM.F
def Bk(l:aO)(i:Nat):Prop:=Jz (l.getD i aW)∧u2 i (l.getD (i-1) aW).1 (l.getD i aW).1∧(l.take i).any (su (l.getD i aW).2.2.1 (l.getD i aW).2.1)=false
instance(l:aO):DecidablePred (Bk l):=λi=>by unfold Bk;infer_instance
def YO(l:aO):Bool:=decide (∀j,j<l.length→Bk l j)&&decide (l.length≤40)
end VM
end
section
namespace VM
open Go VM.F
def dm(a b:Int):au→List Int
 |[]=>[]
 |x::t=>if x.1=a∧x.2.1=b then dZ x::dm a b t else dm a b t
theorem eX(a b:Int)(x:cK)(t:au):dm a b (x::t)=if x.1=a∧x.2.1=b then dZ x::dm a b t else dm a b t:=rfl
def cE(a b:Int)(l:au):Int:=(dm a b l).sum
theorem JA(a b:Int):cE a b []=0:=rfl
theorem im(a b:Int)(x:cK)(t:au):cE a b (x::t)=(if x.1=a∧x.2.1=b then dZ x else 0)+cE a b t:=by
 unfold cE
 rw[eX]
 split
 ·rw[cB]
 ·omega
theorem ky{a b:Int}: ∀{l:au},(∀x∈l,¬(x.1=a∧x.2.1=b))→cE a b l=0
 |[],_=>rfl
 |x::t,h=>by
  rw[im,aj (h x (bh ..)),ky (λy hy=>h y (a7 _ hy))];rfl
abbrev c5:=Int×Int
def ue(x y:c5):Prop:=lh x.1 x.2 y.1 y.2
instance(x y:c5):Decidable (ue x y):=by unfold ue;infer_instance
def keyOf(x:cK):c5:=(x.1,x.2.1)
def ug(K:List c5):Prop:=K.Pairwise ue
theorem ph{x:c5}(h:ue x x):False:=by unfold ue lh at h;omega
theorem JB{x y:c5}(h:ue x y)(k:ue y x):False:=by unfold ue lh at*;omega
theorem yr{x y z:c5}(h:ue x y)(k:ue y z):ue x z:=by unfold ue lh at*;omega
theorem Ub(x y:c5):ue x y∨x=y∨ue y x:=by
 have:(x.1=y.1∧x.2=y.2)→x=y:=λh=>gR h.1 h.2
 unfold ue lh
 by_cases h1:x.1=y.1
 ·by_cases h2:x.2=y.2
  ·exact Or.inr (Or.inl (this ⟨h1,h2⟩))
  ·omega
 ·omega
theorem Uc: ∀{a b:List c5},ug a→ug b→(∀x,x∈a↔x∈b)→a=b
 |[],[],_,_,_=>rfl
 |[],y::t,_,_,h=>nomatch (h y).2 (bh ..)
 |x::s,[],_,_,h=>nomatch (h x).1 (bh ..)
 |x::s,y::t,ha,hb,h=>by
  obtain⟨ha1,ha2⟩:=eK.1 ha
  obtain⟨mJ,uM⟩:=eK.1 hb
  have hxy:x=y:=by
   rcases aZ.1 ((h x).1 (bh ..))with e|e
   ·exact e
   ·rcases aZ.1 ((h y).2 (bh ..))with f|f
    ·exact f.symm
    ·exact(JB (ha1 y f) (mJ x e)).elim
  subst hxy
  rw[Uc ha2 uM λz=>⟨λhz=> ?_,λhz=> ?_⟩]
  ·rcases aZ.1 ((h z).1 (a7 _ hz))with e|e
   ·subst e;exact(ph (ha1 z hz)).elim
   ·exact e
  ·rcases aZ.1 ((h z).2 (a7 _ hz))with e|e
   ·subst e;exact(ph (mJ z hz)).elim
   ·exact e
def eC(P:Int→Prop) [DecidablePred P](f:Int→Int→Int):List c5→Option au
 |[]=>some []
 |k::t=>if P (f k.1 k.2)then(eC P f t).map (λo=>if f k.1 k.2=0 then o else(k.1,(k.2,(f k.1 k.2,())))::o)else none
theorem kW(P:Int→Prop) [DecidablePred P](f:Int→Int→Int)(k:c5)(t:List c5):eC P f (k::t)=if P (f k.1 k.2)then(eC P f t).map (λo=>if f k.1 k.2=0 then o else(k.1,(k.2,(f k.1 k.2,())))::o)else none:=rfl
theorem DA{P:Int→Prop} [DecidablePred P](h0:P 0){f:Int→Int→Int}(p:c5→Bool): ∀{K:List c5},(∀k∈K,p k=false→f k.1 k.2=0)→eC P f (K.filter p)=eC P f K
 |[],_=>rfl
 |k::t,h=>by
  have ih:=DA h0 p (K:=t) (λx hx=>h x (a7 _ hx))
  cases hp:p k
  ·rw[List.filter_cons_of_neg (by rw[hp];decide),ih,kW,h k (bh ..) hp,ah h0]
   simp
  ·rw[List.filter_cons_of_pos hp,kW,kW,ih]
theorem OF{P:Int→Prop} [DecidablePred P](h0:P 0){f:Int→Int→Int}{K G:List c5}(hK:ug K)(hG:ug G)(hs: ∀k∈K,k∈G)(hz: ∀k∈G,k∉K→f k.1 k.2=0):eC P f K=eC P f G:=by
 have e:K=G.filter (λk=>decide (k∈K)):=by
  refine Uc hK (wX List.filter_sublist hG) λx=> ?_
  rw[w5]
  exact⟨λh=>⟨hs x h,a8 h⟩,λh=>bA h.2⟩
 rw[e]
 exact DA h0 _ λk hk hp=>hz k hk (Fo hp)
def xM(k:c5):List c5→List c5
 |[]=>[k]
 |x::t=>if ue x k then x::xM k t else if x=k then x::t else k::x::t
theorem sv{k x:c5}: ∀{K:List c5},x∈xM k K↔x=k∨x∈K
 |[]=>by show x∈[k]↔_;simp
 |y::t=>by
  show x∈(if ue y k then y::xM k t else if y=k then y::t else k::y::t)↔_
  split
  ·rw[aZ,sv,aZ]
   exact⟨λh=>h.elim (λe=>Or.inr (Or.inl e)) (λh=>h.elim Or.inl (λh=>Or.inr (Or.inr h))),λh=>h.elim (λe=>Or.inr (Or.inl e)) (λh=>h.elim Or.inl (λh=>Or.inr (Or.inr h)))⟩
  ·split
   ·rename_i e
    rw[←e]
    exact⟨Or.inr,λh=>h.elim (λe=>e▸bh ..) id⟩
   ·rw[aZ]
theorem Bl{k:c5}: ∀{K:List c5},ug K→ug (xM k K)
 |[],_=>eK.2 ⟨λ_ h=>(nomatch h),List.Pairwise.nil⟩
 |y::t,h=>by
  obtain⟨h1,h2⟩:=eK.1 h
  show ug (if ue y k then y::xM k t else if y=k then y::t else k::y::t)
  split
  ·rename_i hy
   exact eK.2 ⟨λz hz=>(sv.1 hz).elim (λe=>e▸hy) (h1 z),Bl h2⟩
  ·rename_i hy
   split
   ·exact h
   ·rename_i he
    have hk:ue k y:=(Ub y k).elim (λh=>absurd h hy) (λh=>h.elim (λh=>absurd h he) id)
    exact eK.2 ⟨λz hz=>(aZ.1 hz).elim (λe=>e▸hk) (λhz=>yr hk (h1 z hz)),h⟩
def nR(K:List c5)(E:au):List c5:=E.foldl (λK x=>xM (keyOf x) K) K
theorem tF(K:List c5)(x:cK)(E:au):nR K (x::E)=nR (xM (keyOf x) K) E:=rfl
theorem zC: ∀{E:au} {K:List c5},ug K→ug (nR K E)
 |[],_,h=>h
 |x::E,K,h=>by rw[tF];exact zC (Bl h)
theorem mE{k:c5}: ∀{E:au} {K:List c5},k∈nR K E↔(k∈K∨ ∃x∈E,keyOf x=k)
 |[],K=>by
  show k∈K↔_
  simp
 |x::E,K=>by
  rw[tF,mE,sv]
  constructor
  ·rintro((rfl|h)|⟨y,hy,e⟩)
   ·exact Or.inr ⟨x,bh ..,rfl⟩
   ·exact Or.inl h
   ·exact Or.inr ⟨y,a7 _ hy,e⟩
  ·rintro(h|⟨y,hy,e⟩)
   ·exact Or.inl (Or.inr h)
   ·rcases aZ.1 hy with rfl|hy
    ·exact Or.inl (Or.inl e.symm)
    ·exact Or.inr ⟨y,hy,e⟩
theorem GF(k:c5): ∀K:List c5,(xM k K).length≤K.length+1
 |[]=>aH _
 |y::t=>by
  show(if ue y k then y::xM k t else if y=k then y::t else k::y::t).length≤_
  have:=GF k t
  split
  ·rw[aR,aR];omega
  ·split<;>rw[aR]<;>(try rw[aR])<;>omega
def rowsOf(l:au)(K:List c5):au:=K.map λk=>(k.1,(k.2,(cE k.1 k.2 l,())))
theorem mR{l:au}(h:ug (l.map keyOf)):rowsOf l (l.map keyOf)=l:=by
 have key: ∀(m:au),ug (m.map keyOf)→(∀x∈m,cE x.1 x.2.1 l=dZ x)→rowsOf l (m.map keyOf)=m:=by
  intro m
  induction m with
  |nil=>intro _ _;rfl
  |cons x t ih=>
   intro hm hx
   have:=ih (eK.1 hm).2 (λy hy=>hx y (a7 _ hy))
   unfold rowsOf at*
   rw[bR,bR,this]
   congr 1
   show(x.1,(x.2.1,(cE x.1 x.2.1 l,())))=x
   rw[hx x (bh ..)];rfl
 refine key l h ?_
 clear key
 induction l with
 |nil=>intro x hx;nomatch hx
 |cons y t ih=>
  intro x hx
  obtain⟨h1,h2⟩:=eK.1 h
  have iI: ∀z∈t,¬(z.1=y.1∧z.2.1=y.2.1):=λz hz e=>by
   have hk:=h1 (keyOf z) (fa hz)
   have he:keyOf z=keyOf y:=gR e.1 e.2
   rw[he]at hk
   exact ph hk
  rw[im]
  rcases aZ.1 hx with rfl|hx
  ·rw[ah ⟨rfl,rfl⟩,ky iI];omega
  ·rw[aj (λe=>iI x hx ⟨e.1.symm,e.2.symm⟩),ih h2 x hx];omega
end VM
end
section
namespace VM
open Go VM.F
instance(x:Int):Decidable (aE x):=by unfold aE;infer_instance
def Fq(x:Int):Prop:=aE x∧qE x
instance:DecidablePred Fq:=λx=>by unfold Fq;infer_instance
def vR(r:Option au):Option (au×Int):=some (match r with|some o=>(o,0)|none=>([],2))
def fS(l E:au)(a b:Int):Int:=cE a b l+cE a b E
theorem EW{α:Type}(N:Nat){l:List α}{i:Nat}{x:α}(hi:i≤l.length)(hl:l.length<1000000):kM N l (i:Int) [x]=some (l.take i++x::l.drop i):=by
 unfold kM
 rw[ah ⟨ω,ω,rfl,by unfold zP;omega⟩]
 rfl
theorem xN{α:Type}(N:Nat){l:List α}(hl:l.length≤1000000):ox N l=some l:=by
 unfold ox
 rw[ah (by unfold zP;omega)]
theorem Bm(N:Nat){v:Int}(h:cf v):Ot N (bS v)=some (Eh v):=acs N h.1 h.2
theorem vS{v:Int}(h:aE v):Eh v=(v,true):=by unfold Eh;exact ah h
theorem yt{v:Int}(h: ¬aE v):Eh v=(0,false):=by unfold Eh;exact aj h
theorem Cs{ws:List Int}{x:Int}(h: ∀y∈ws,aE y)(hx:aE x): ∀y∈ws++[x],aE y:=λy hy=>by
 rcases bk.1 hy with hy|hy
 ·exact h y hy
 ·rw[cr.1 hy];exact hx
theorem OG(N:Nat){l:au}:acH N l=some l:=by
 unfold acH
 rw[dD ω ω ω ω,ak]
 simp
theorem YP(N:Nat)(hN:2000000≤N)(K:cw.JC){E out R:au}(hq:eW E)(hl:E.length≤100000)(ho:out.length≤1000000)(r:cK)(hr:aE (dZ r))(i:Nat)(hi:i≤1000000):
  cw.l27 N K N E out r [bS (dZ r)] R (R.length:Int) (i:Int) E (E.length:Int) 0=
   if Fq (dZ r+cE r.1 r.2.1 E)then K E (if dZ r+cE r.1 r.2.1 E=0 then out else out++[(r.1,(r.2.1,(dZ r+cE r.1 r.2.1 E,())))]) R (R.length:Int) ((i+1:Nat):Int)else some (bq,(2:Int)):=by
 have:=oF E a6 (λn j ws=>cw.l27 N K n E out r (ws.map bS) R (R.length:Int) (i:Int) E (E.length:Int) j)
  (λt ws=>if Fq (ws++dm r.1 r.2.1 t).sum then K E (if(ws++dm r.1 r.2.1 t).sum=0 then out else out++[(r.1,(r.2.1,((ws++dm r.1 r.2.1 t).sum,())))]) R (R.length:Int) ((i+1:Nat):Int)else some (bq,(2:Int)))
  (λj (ws:List Int)=>ws.length≤j+1∧ ∀x∈ws,aE x)
  (λn j ws hj hI eF=> ?_) (λn ws hI=> ?_) E.length N 0 [dZ r] ω ω ω ⟨aH _,λx hx=>by rw[cr.1 hx];exact hr⟩
 ·rw[show((0:Nat):Int)=0 from rfl,c0]at this
  refine this.trans ?_
  have e:([dZ r]++dm r.1 r.2.1 E).sum=dZ r+cE r.1 r.2.1 E:=by rw[Fi,cB];rfl
  rw[e]
 ·unfold cw.l27 cw.acI
  have nP:=zB hq j
  have iN:=nP
  unfold aE dZ at iN
  rw[aQ ω,ak,aS ω ω,ak,aG,qm N iN.1 iN.2,ar,bP (by rw[cI,aK];omega),ak,aw (x:=(j:Int)+1) ω ω,af,aI,aI]
  by_cases h1:(E.getD j a6).1=r.1
  ·by_cases h2:(E.getD j a6).2.1=r.2.1
   ·have hc:dm r.1 r.2.1 (E.getD j a6::E.drop (j+1))=dZ (E.getD j a6)::dm r.1 r.2.1 (E.drop (j+1)):=by rw[eX,ah ⟨h1,h2⟩]
    rw[ah h1,ah h2,hc]
    have:=eF (ws++[dZ (E.getD j a6)]) ⟨by rw[aM,aK];omega,Cs hI.2 nP⟩
    rw[dg]at this
    refine this.trans ?_
    rw[bH];rfl
   ·have hc:dm r.1 r.2.1 (E.getD j a6::E.drop (j+1))=dm r.1 r.2.1 (E.drop (j+1)):=by rw[eX,aj (λh=>h2 h.2)]
    rw[ah h1,aj h2,hc]
    exact eF ws ⟨ω,hI.2⟩
  ·have hc:dm r.1 r.2.1 (E.getD j a6::E.drop (j+1))=dm r.1 r.2.1 (E.drop (j+1)):=by rw[eX,aj (λh=>h1 h.1)]
   rw[aj h1,hc]
   exact eF ws ⟨ω,hI.2⟩
 ·unfold cw.l27 cw.acI
  have hs:=Jy hI.2 ω
  rw[aP ω,av,Ls N hI.2 ω ω,ar]
  show _=if Fq (ws++[]).sum then K E (if(ws++[]).sum=0 then out else out++[(r.1,(r.2.1,((ws++[]).sum,())))]) R (R.length:Int) ((i+1:Nat):Int)else some (bq,(2:Int))
  rw[cH,Bm N hs,ar]
  by_cases h1:aE ws.sum
  ·rw[vS h1]
   dsimp only
   rw[bp,av,tz,ar,cond_not,ed,cond_not,aI,bP (by rw[aK];omega),ak,aw (x:=(i:Int)+1) ω ω,af]
   by_cases h2:qE ws.sum
   ·rw[ah h2,ah (show Fq ws.sum from⟨h1,h2⟩)]
    split<;>rfl
   ·rw[aj h2,aj (λh=>h2 h.2)]
  ·rw[yt h1,aj (λh=>h1 h.1)]
   rfl
theorem VX(N:Nat)(hN:2000000≤N){l E R:au}(hq:eW E)(hl:E.length≤100000)(hR:R.length≤200000)(hv: ∀r∈R,aE (dZ r)∧dZ r=cE r.1 r.2.1 l):
  cw.l23 N N E [] R (R.length:Int) 0=vR (eC Fq (fS l E) (R.map keyOf)):=by
 have:=oF R a6 (λn i out=>cw.l23 N n E out R (R.length:Int) i) (λt out=>vR ((eC Fq (fS l E) (t.map keyOf)).map (λo=>out++o))) (λi (out:au)=>out.length≤i)
  (λn i out hi hI hr=> ?_) (λn out hI=> ?_) R.length N 0 [] ω ω ω (aH _)
 ·rw[show((0:Nat):Int)=0 from rfl,c0]at this
  refine this.trans ?_
  simp
 ·unfold cw.l23 cw.acK
  have hm:R.getD i a6∈R:=by
   rw[aU,bg hi];exact dx hi
  have XH:=hv _ hm
  have nP:=XH.1
  have iN:=nP
  unfold aE dZ at iN
  rw[aQ ω,ak,aS ω ω,ak,aG,qm N iN.1 iN.2,ar]
  refine(YP N hN _ hq hl ω _ nP i ω).trans ?_
  rw[bR,kW]
  have ef:fS l E (keyOf (R.getD i a6)).1 (keyOf (R.getD i a6)).2=dZ (R.getD i a6)+cE (R.getD i a6).1 (R.getD i a6).2.1 E:=by
   show cE _ _ l+cE _ _ E=_
   rw[XH.2];rfl
  rw[ef]
  generalize hS:dZ (R.getD i a6)+cE (R.getD i a6).1 (R.getD i a6).2.1 E=v
  by_cases hF:Fq v
  ·rw[ah hF,ah hF,hr _ (by
    split
    ·omega
    ·rw[aM,aK];omega)]
   cases eC Fq (fS l E) ((R.drop (i+1)).map keyOf)with
   |none=>rfl
   |some o=>
    show vR (some _)=vR (some _)
    congr 2
    split
    ·rfl
    ·exact bH _ _ _
  ·rw[aj hF,aj hF];rfl
 ·unfold cw.l23 cw.acK
  rw[aP ω,av,OG,ar]
  show _=vR (some (out++[]))
  rw[cH];rfl
def Er(l:au)(k:c5):cK:=(k.1,(k.2,(cE k.1 k.2 l,())))
theorem eD(l:au)(K:List c5):(rowsOf l K).length=K.length:=cI ..
theorem JD(l:au){K:List c5}{p:Nat}(h:p<K.length):(rowsOf l K).getD p a6=Er l (K.getD p (0,0)):=by
 unfold rowsOf
 rw[aU,nj,bg h,aU,bg h];rfl
theorem vT(l:au)(K:List c5)(p:Nat)(k:c5):(rowsOf l K).take p++Er l k::(rowsOf l K).drop p=rowsOf l (K.take p++k::K.drop p):=by
 unfold rowsOf
 rw[dg,bR,List.map_take,List.map_drop];rfl
theorem DB(l:au)(K:List c5):(rowsOf l K).map keyOf=K:=by
 unfold rowsOf
 rw[List.map_map]
 induction K with
 |nil=>rfl
 |cons k t ih=>rw[bR,ih];rfl
theorem Bn{k x:c5}:0<Ci k.1 k.2 x.1 x.2↔ue x k:=by
 unfold Ci ue lh;split<;>omega
theorem yu{k x:c5}:Ci k.1 k.2 x.1 x.2=0↔x=k:=by
 have:x=k↔x.1=k.1∧x.2=k.2:=⟨λh=>h▸⟨rfl,rfl⟩,λh=>gR h.1 h.2⟩
 rw[this]
 unfold Ci;split<;>omega
def Bo(k:c5):Prop:=IF k.1∧IF k.2
theorem Ud{k:c5}{K:List c5}{p:Nat}(h:p<K.length):xM k (K.drop p)=if ue (K.getD p (0,0)) k then K.getD p (0,0)::xM k (K.drop (p+1))else if K.getD p (0,0)=k then K.drop p else k::K.drop p:=by
 rw[drop_cons h (0,0)];rfl
theorem Bp{K:List c5}{p:Nat}(h:p<K.length)(t:List c5):K.take p++K.getD p (0,0)::t=K.take (p+1)++t:=by
 rw[←td h,bH,aU,bg h];rfl
def zeroAt(l:au)(K:List c5)(k:c5):Prop:=k∉K→cE k.1 k.2 l=0
theorem yv{l:au}{k:c5}(h:cE k.1 k.2 l=0):((k.1,(k.2,((0:Int),()))):cK)=Er l k:=by
 unfold Er;rw[h]
theorem vU{k:c5}{K:List c5}{p:Nat}(hs:ug K)(hp: ∀x∈K.take p,ue x k)(h: ∀x∈K.drop p,ue k x):k∉K:=λhk=>by
 rw[←gb p K]at hk
 rcases bk.1 hk with hk|hk
 ·exact ph (hp k hk)
 ·exact ph (h k hk)
theorem Ue{k:c5}{K:List c5}{p:Nat}(hs:ug K)(h:p<K.length)(h1: ¬ue (K.getD p (0,0)) k)(h2:K.getD p (0,0)≠k): ∀x∈K.drop p,ue k x:=by
 have hk:ue k (K.getD p (0,0)):=(Ub (K.getD p (0,0)) k).elim (λh=>absurd h h1) (λh=>h.elim (λh=>absurd h h2) id)
 have hd:ug (K.drop p):=wX (List.drop_sublist ..) hs
 rw[drop_cons h (0,0)]at hd ⊢
 intro x hx
 rcases aZ.1 hx with rfl|hx
 ·exact hk
 ·exact yr hk ((eK.1 hd).1 x hx)
theorem aiB(N:Nat)(C:cw.gm){l E S:au}{K:List c5}(hs:ug K)(hl:K.length≤100000)(hf: ∀k∈K,Bo k)(x:cK)(hx:Bo (keyOf x))(hz:zeroAt l K (keyOf x))(len:Int)(i:Nat)(hi:i≤1000000):
  ∀(m n p:Nat),K.length-p≤m→m<n→p≤K.length→(∀y∈K.take p,ue y (keyOf x))→
   cw.xK N C n E (rowsOf l K) x (p:Int) S len (i:Int)=C E (rowsOf l (K.take p++xM (keyOf x) (K.drop p))) S len ((i+1:Nat):Int)
 |m,0,p,_,hn,_,_=>ω
 |m,n+1,p,hm,hn,hp,hb=>by
  unfold cw.xK cw.wP cw.j18 cw.akq
  rw[eD,aw (x:=(i:Int)+1) ω ω,af i]
  by_cases h:p<K.length
  ·have hfk:=hf (K.getD p (0,0)) (by rw[aU,bg h];exact dx h)
   have ho:VG N x.1 x.2.1 ((rowsOf l K).getD p a6)=some (Ci (keyOf x).1 (keyOf x).2 (K.getD p (0,0)).1 (K.getD p (0,0)).2):=by
    rw[JD l h]
    exact Jw N hx.1 hx.2 hfk.1 hfk.2
   rw[aQ ω,ak,aS ω ω,ak,aG,ho,ar,dG (x:=(p:Int)) ω,av,ak,ar,bN,cond_not,aI,Ud h]
   by_cases h1:ue (K.getD p (0,0)) (keyOf x)
   ·rw[ah (Bn.2 h1),ah h1,aw (x:=(p:Int)+1) ω ω,af p,Bp h]
    refine aiB N C hs hl hf x hx hz len i hi (m-1) n (p+1) ω ω ω λy hy=> ?_
    rw[←td h]at hy
    rcases bk.1 hy with hy|hy
    ·exact hb y hy
    ·rw[aU,bg h]at h1
     rw[cr.1 hy];exact h1
   ·rw[aj (λh=>h1 (Bn.1 h)),aj h1]
    by_cases h2:K.getD p (0,0)=keyOf x
    ·rw[ah (yu.2 h2),ah h2,gb]
    ·rw[aj (λh=>h2 (yu.1 h)),aj h2,EW N (by rw[eD];omega) (by rw[eD];omega),ar]
     have D6:=hz (vU hs hb (Ue hs h h1 h2))
     have e:=vT l K p (keyOf x)
     rw[←yv D6]at e
     exact ej (λR=>C E R S len ((i+1:Nat):Int)) e
  ·have hd:K.drop p=[]:=wV ω
   rw[aP ω,av,dF ω,ak,EW N (by rw[eD];omega) (by rw[eD];omega),ar]
   have D6:=hz (vU hs hb (by rw[hd];exact λx hx=>nomatch hx))
   have e:=vT l K p (keyOf x)
   rw[←yv D6]at e
   have e2:xM (keyOf x) (K.drop p)=keyOf x::K.drop p:=by rw[hd];rfl
   rw[e2]
   exact ej (λR=>C E R S len ((i+1:Nat):Int)) e
end VM
end
section
namespace VM
open Go VM.F
def JE(E:au)(i:Nat):Prop:=dz (c8 (i:Int) E).sum 0
instance(E:au):DecidablePred (JE E):=λi=>by unfold JE;infer_instance
theorem acL(N:Nat)(hN:2000000≤N)(K:gv.cO){E:au}(hq:eW E)(hl:E.length≤100000)(a:Nat)(ha:a<6):
  gv.l6 N K N E (a:Int) [] (a:Int) E (E.length:Int) 0=if(c8 (a:Int) E).sum=0 then K E ((a+1:Nat):Int)else some false:=by
 have:=oF E a6 (λn j ws=>gv.l6 N K n E (a:Int) (ws.map bS) (a:Int) E (E.length:Int) j)
  (λt ws=>if(ws++c8 (a:Int) t).sum=0 then K E ((a+1:Nat):Int)else some false)
  (λj (ws:List Int)=>ws.length≤j∧ ∀x∈ws,aE x)
  (λn j ws hj hI hr=> ?_) (λn ws hI=> ?_) E.length N 0 [] ω ω ω ⟨aH _,λx hx=>nomatch hx⟩
 ·rw[show((0:Nat):Int)=0 from rfl,c0]at this
  exact this
 ·unfold gv.l6 gv.tX
  have nP:=zB hq j
  have iN:=nP
  unfold aE dZ at iN
  rw[aQ ω,ak,aS ω ω,ak,aG,qm N iN.1 iN.2,ar,bP (by rw[cI,aK];omega),ak,aw (x:=(j:Int)+1) ω ω,af j,aI]
  by_cases h1:(E.getD j a6).2.1=(a:Int)
  ·have hc:c8 (a:Int) (E.getD j a6::E.drop (j+1))=dZ (E.getD j a6)::c8 (a:Int) (E.drop (j+1)):=by rw[dp,ah h1]
   rw[ah h1,hc]
   have:=hr (ws++[dZ (E.getD j a6)]) ⟨by rw[aM,aK];omega,Cs hI.2 nP⟩
   rw[dg]at this
   refine this.trans ?_
   rw[bH];rfl
  ·have hc:c8 (a:Int) (E.getD j a6::E.drop (j+1))=c8 (a:Int) (E.drop (j+1)):=by rw[dp,aj h1]
   rw[aj h1,hc]
   exact hr ws ⟨ω,hI.2⟩
 ·unfold gv.l6 gv.tX
  rw[aP ω,av,Ls N hI.2 ω ω,ar]
  show _=if(ws++[]).sum=0 then K E ((a+1:Nat):Int)else some false
  rw[cH,bp,av,so,ar,cond_not,aI,aw (x:=(a:Int)+1) ω ω,af a]
  by_cases h:ws.sum=0
  ·rw[ah h,ah (kv.2 h)]
  ·rw[aj h,aj (λk=>h (kv.1 k))]
theorem YQ(N:Nat)(hN:2000000≤N){E:au}(hq:eW E)(hl:E.length≤100000):gv N E=some (decide (∀j,j<ku→JE E j)&&true):=by
 unfold gv gv.b
 refine gV (len:=ku) (F:=λn i=>gv.l2 N n E i) (JE E) (λn i r hi hp hr=> ?_) (λn=> ?_) N (by unfold ku;omega)
 ·unfold gv.l2 gv.fy
  unfold ku at hi
  rw[aQ ω,ak,acL N hN _ hq hl i hi,hr]
  unfold JE dz
  rfl
 ·unfold gv.l2 gv.fy
  rw[aP (by unfold ku;omega),av]
structure YR(E:au):Prop where
 place: ∀x∈E,bV x.1 x.2.1
 q: ∀x∈E,aE (dZ x)∧qE (dZ x)
 len:E.length≤400
 flat: ∀i:Int,(c8 i E).sum=0
theorem JF{x:cK}(h:bV x.1 x.2.1):Bo (keyOf x):=by
 have h':bV (keyOf x).1 (keyOf x).2:=h
 unfold bV at h'
 unfold Bo IF
 omega
theorem gn{l:au}{k:c5}(h:k∉l.map keyOf):cE k.1 k.2 l=0:=ky λx hx e=>h (by
 have:keyOf x=k:=gR e.1 e.2
 rw[←this];exact fa hx)
theorem VY(N:Nat)(hN:2000000≤N){l E:au}(hq:eW E)(hE:E.length≤400)(hp: ∀x∈E,Bo (keyOf x))(hs:ug (l.map keyOf))(hl:l.length≤90000)(YS:eW l)(IK: ∀x∈l,Bo (keyOf x)):
  cw.oi N N E l E (E.length:Int) 0=vR (eC Fq (fS l E) (nR (l.map keyOf) E)):=by
 have:=oF E a6 (λn i K=>cw.oi N n E (rowsOf l K) E (E.length:Int) i) (λt K=>vR (eC Fq (fS l E) (nR K t)))
  (λi (K:List c5)=>K.length≤l.length+i∧ug K∧(∀k∈K,Bo k)∧ ∀x∈l,keyOf x∈K)
  (λn i K hi hI hr=> ?_) (λn K hI=> ?_) E.length N 0 (l.map keyOf) ω ω ω ⟨by rw[cI];omega,hs,λk hk=>by
   obtain⟨x,hx,rfl⟩:=cL.1 hk
   exact IK x hx,λx hx=>fa hx⟩
 ·rw[show((0:Nat):Int)=0 from rfl,c0]at this
  simp only[mR hs]at this
  exact this
 ·unfold cw.oi cw.mF
  obtain⟨h1,h2,h3,h4⟩:=hI
  have hm:E.getD i a6∈E:=by
   rw[aU,bg hi];exact dx hi
  rw[aQ ω,ak,aS ω ω,ak,aG]
  refine(aiB N _ h2 ω h3 (E.getD i a6) (hp _ hm) (λhk=>gn λhx=>hk (by
   obtain⟨x,hx,e⟩:=cL.1 hx
   rw[←e];exact h4 x hx)) (E.length:Int) i ω K.length N 0 ω ω ω (λy hy=>nomatch hy)).trans ?_
  rw[px,cW,c0,tF]
  refine hr (xM (keyOf (E.getD i a6)) K) ⟨ct (GF _ K) ω,Bl h2,λk hk=>(sv.1 hk).elim (λe=>e▸hp _ hm) (h3 k),λx hx=>sv.2 (Or.inr (h4 x hx))⟩
 ·unfold cw.oi cw.mF
  obtain⟨h1,h2,h3,h4⟩:=hI
  rw[aP ω,av,eD,cD ω ω ω,ak]
  have:=VX N hN (l:=l) (R:=rowsOf l K) hq ω (by rw[eD];omega) (λr hr=>by
   unfold rowsOf at hr
   obtain⟨k,hk,rfl⟩:=cL.1 hr
   refine⟨?_,rfl⟩
   show aE (cE k.1 k.2 l)
   by_cases hkl:k∈l.map keyOf
   ·have e:rowsOf l (l.map keyOf)=l:=mR hs
    have hm:Er l k∈rowsOf l (l.map keyOf):=fa hkl
    rw[e]at hm
    exact YS (Er l k) hm
   ·rw[gn hkl];exact⟨δ,δ⟩)
  rw[DB,eD]at this
  exact this
theorem eY{l:au}(h:dt l=true):ug (l.map keyOf)∧(∀x∈l,bV x.1 x.2.1∧qE (dZ x)):=by
 unfold dt at h
 rw[fv]at h
 have h':=bA h
 have get: ∀(i:Nat) (hi:i<l.length),l.getD i a6=l[i]:=λi hi=>by rw[aU,bg hi];rfl
 have YT: ∀i,i+1<l.length→ue (keyOf (l.getD i a6)) (keyOf (l.getD (i+1) a6)):=λi hi=>(h' (i+1) hi).2.2.2 ω
 have fj: ∀j,j<l.length→ ∀i,i<j→ue (keyOf (l.getD i a6)) (keyOf (l.getD j a6)):=by
  intro j
  induction j with
  |zero=>intro _ i hi;omega
  |succ j ih=>
   intro hj i hi
   by_cases e:i=j
   ·rw[e];exact YT j hj
   ·exact yr (ih ω i ω) (YT j hj)
 refine⟨?_,λx hx=> ?_⟩
 ·refine Ai.2 (vp.2 λi j hi hj qB=> ?_)
  have:=fj j hj i qB
  rw[get i hi,get j hj]at this
  exact this
 ·obtain⟨i,hi,e⟩:=gd hx
  have:=h' i hi
  unfold lR mC at this
  rw[get i hi,e]at this
  exact⟨this.1,this.2.2.1⟩
theorem acM(N:Nat)(hN:2000000≤N){l E:au}(hk:dt l=true)(hl:l.length≤90000)(YS:eW l)(g:YR E):cw N l E=vR (eC Fq (fS l E) (nR (l.map keyOf) E)):=by
 obtain⟨hs,IK⟩:=eY hk
 have hE:=g.len
 unfold cw cw.b
 rw[A9 N ω ω,hk,ar,bp,av,aP ω,av]
 refine A8 E a6 (λn i=>cw.l4 N n l E E (E.length:Int) i) (λ_=>vR (eC Fq (fS l E) (nR (l.map keyOf) E))) (λn i hi hr=> ?_) (λn=> ?_) N ω
 ·unfold cw.l4 cw.eN
  have hm:E.getD i a6∈E:=by
   rw[aU,bg hi];exact dx hi
  rw[aQ ω,ak,aS ω ω,ak,aG,TZ,a8 (g.place _ hm),ar,bp,av,tz,ar,
   a8 (show qE ((E.getD i a6).2.2.1)from(g.q _ hm).2),bp,av,aw (x:=(i:Int)+1) ω ω,af i]
  exact hr
 ·unfold cw.l4 cw.eN
  have hf:gv N E=some true:=by
   rw[YQ N hN (λx hx=>(g.q x hx).1) ω,a8 (p:= ∀j,j<ku→JE E j) (λj _=>g.flat (j:Int))];rfl
  rw[aP ω,av,hf,ar,bp,av,xN N ω,ar]
  exact VY N hN (λx hx=>(g.q x hx).1) hE (λx hx=>JF (g.place x hx)) hs hl YS (λx hx=>JF (IK x hx).1)
end VM
end
section
namespace VM
open Go VM.F
def Bq(a b:Nat):Nat→List c5
 |0=>[]
 |m+1=>((a:Int),(b:Int))::Bq a (b+1) m
def y8(w a:Nat):Nat→List c5
 |0=>[]
 |m+1=>Bq a 0 w++y8 w (a+1) m
theorem Br{k:c5}{a:Nat}: ∀{m b:Nat},k∈Bq a b m↔k.1=a∧(b:Int)≤k.2∧k.2<(b+m:Nat)
 |0,b=>⟨λh=>(nomatch h),λh=>ω⟩
 |m+1,b=>by
  show k∈((a:Int),(b:Int))::Bq a (b+1) m↔_
  rw[aZ,Br]
  have:k=((a:Int),(b:Int))↔k.1=a∧k.2=b:=⟨λh=>h▸⟨rfl,rfl⟩,λh=>gR h.1 h.2⟩
  rw[this]
  omega
theorem oN{k:c5}{w:Nat}: ∀{m a:Nat},k∈y8 w a m↔(a:Int)≤k.1∧k.1<(a+m:Nat)∧0≤k.2∧k.2<w
 |0,a=>⟨λh=>(nomatch h),λh=>ω⟩
 |m+1,a=>by
  show k∈Bq a 0 w++y8 w (a+1) m↔_
  rw[bk,Br,oN]
  omega
theorem OH(a:Nat): ∀(m b:Nat),ug (Bq a b m)
 |0,b=>List.Pairwise.nil
 |m+1,b=>eK.2 ⟨λk hk=>by
  have:=Br.1 hk
  show(a:Int)<k.1∨((a:Int)=k.1∧(b:Int)<k.2)
  omega,OH a m (b+1)⟩
theorem oO(w:Nat): ∀(m a:Nat),ug (y8 w a m)
 |0,a=>List.Pairwise.nil
 |m+1,a=>wY.2 ⟨OH a w 0,oO w m (a+1),λx hx y hy=>by
  have h1:=Br.1 hx
  have h2:=oN.1 hy
  show x.1<y.1∨(x.1=y.1∧x.2<y.2)
  omega⟩
structure Mark(l:au)(a b p:Nat):Prop where
 le:p≤l.length
 lo: ∀x∈l.take p,ue (keyOf x) ((a:Int),(b:Int))
 hi: ∀x∈l.drop p,¬ue (keyOf x) ((a:Int),(b:Int))
theorem u9{k:c5}{a b:Nat}:ue k ((a:Int),((b+1:Nat):Int))↔ue k ((a:Int),(b:Int))∨k=((a:Int),(b:Int)):=by
 have:k=((a:Int),(b:Int))↔k.1=a∧k.2=b:=⟨λh=>h▸⟨rfl,rfl⟩,λh=>gR h.1 h.2⟩
 rw[this]
 show(k.1<(a:Int)∨(k.1=(a:Int)∧k.2<((b+1:Nat):Int)))↔(k.1<(a:Int)∨(k.1=(a:Int)∧k.2<(b:Int)))∨_
 omega
theorem Mark.row{l:au}{a w p:Nat}(h:Mark l a w p)(hw: ∀x∈l,0≤(keyOf x).2∧(keyOf x).2<w):Mark l (a+1) 0 p:=by
 have key: ∀x∈l,(ue (keyOf x) ((a:Int),(w:Int))↔ue (keyOf x) (((a+1:Nat):Int),((0:Nat):Int))):=λx hx=>by
  have:=hw x hx
  show((keyOf x).1<(a:Int)∨((keyOf x).1=(a:Int)∧(keyOf x).2<(w:Int)))↔((keyOf x).1<((a+1:Nat):Int)∨((keyOf x).1=((a+1:Nat):Int)∧(keyOf x).2<((0:Nat):Int)))
  omega
 exact⟨h.le,λx hx=>(key x (lZ hx)).1 (h.lo x hx),λx hx k=>h.hi x hx ((key x (m9 hx)).2 k)⟩
theorem Lx(a b:Int)(l m:au):cE a b (l++m)=cE a b l+cE a b m:=by
 induction l with
 |nil=>rw[cW,JA];omega
 |cons x t ih=>rw[kK,im,im,ih];omega
theorem Mark.step{l:au}(hs:ug (l.map keyOf)){a b p:Nat}(h:Mark l a b p):
  (p<l.length∧(l.getD p a6).1=(a:Int)∧(l.getD p a6).2.1=(b:Int)∧cE (a:Int) (b:Int) l=dZ (l.getD p a6)∧Mark l a (b+1) (p+1))∨
  ((p<l.length→(l.getD p a6).1=(a:Int)→(l.getD p a6).2.1=(b:Int)→False)∧cE (a:Int) (b:Int) l=0∧Mark l a (b+1) p):=by
 have no: ∀{x:cK} {k:c5},¬keyOf x=k→ ¬(x.1=k.1∧x.2.1=k.2):=λh e=>h (gR e.1 e.2)
 have hz:cE (a:Int) (b:Int) (l.take p)=0:=ky λx hx e=>by
  have e':keyOf x=((a:Int),(b:Int)):=gR e.1 e.2
  have:=h.lo x hx
  rw[e']at this
  exact ph this
 have IL:cE (a:Int) (b:Int) l=cE (a:Int) (b:Int) (l.drop p):=by
  conv=>lhs;rw[←gb p l]
  rw[Lx,hz];omega
 by_cases hp:p<l.length
 ·have hd:=drop_cons hp a6
  have hsd:ug ((l.drop p).map keyOf):=by
   rw[List.map_drop];exact wX (List.drop_sublist ..) hs
  have MJ:=h.hi
  rw[hd]at hsd MJ IL
  have hgt:=(eK.1 hsd).1
  have X4:=MJ _ (bh ..)
  have ap5:l.take (p+1)=l.take p++[l.getD p a6]:=by
   rw[←td hp,aU,bg hp];rfl
  by_cases he:keyOf (l.getD p a6)=((a:Int),(b:Int))
  ·refine Or.inl ⟨hp,ej Prod.fst he,ej Prod.snd he,?_,ω,λx hx=> ?_,λx hx hk=> ?_⟩
   ·rw[IL,im,ah ⟨ej Prod.fst he,ej Prod.snd he⟩,ky λx hx e=> ?_]
    ·omega
    ·have hg:=hgt (keyOf x) (fa hx)
     have e':keyOf x=((a:Int),(b:Int)):=gR e.1 e.2
     rw[he,e']at hg
     exact ph hg
   ·rw[ap5]at hx
    rcases bk.1 hx with hx|hx
    ·exact u9.2 (Or.inl (h.lo x hx))
    ·rw[cr.1 hx];exact u9.2 (Or.inr he)
   ·have hg:=hgt (keyOf x) (fa hx)
    rw[he]at hg
    rcases u9.1 hk with hk|hk
    ·exact JB hg hk
    ·rw[hk]at hg;exact ph hg
  ·have ki: ∀x∈l.getD p a6::l.drop (p+1),keyOf x≠((a:Int),(b:Int)):=λx hx e=>by
    rcases aZ.1 hx with rfl|hx
    ·exact he e
    ·have hg:=hgt (keyOf x) (fa hx)
     rw[e]at hg
     exact X4 hg
   refine Or.inr ⟨λ_ e1 e2=>he (gR e1 e2),?_,h.le,λx hx=>u9.2 (Or.inl (h.lo x hx)),λx hx hk=> ?_⟩
   ·rw[IL]
    exact ky λx hx=>no (ki x hx)
   ·rw[hd]at hx
    rcases u9.1 hk with hk|hk
    ·exact MJ x hx hk
    ·exact ki x hx hk
 ·have hd:l.drop p=[]:=wV ω
  refine Or.inr ⟨λh=>absurd h hp,by rw[IL,hd];rfl,h.le,λx hx=>u9.2 (Or.inl (h.lo x hx)),λx hx=> ?_⟩
  rw[hd]at hx;nomatch hx
def xO(out:au)(r:Option au):Option (au×Bool):=some (match r with|some o=>(out++o,true)|none=>([],false))
theorem Ly(N:Nat)(v:Int):Se N (di v)=some (if Fq v then(v,true)else(0,false)):=by
 unfold Se
 rw[tY,ar]
 by_cases h:aE v
 ·rw[vS h]
  dsimp only
  rw[bp,av,aI]
  by_cases h2:qE v
  ·rw[aj (show ¬v= -9223372036854775808 from h2),ah (show Fq v from⟨h,h2⟩)]
  ·rw[ah (show v= -9223372036854775808 by unfold qE at h2;omega),aj (λh=>h2 h.2)]
 ·rw[yt h,aj (λk=>h k.1)]
  rfl
theorem YU(N:Nat)(hN:4000000≤N)(C4:cA.bX)(C7:cA.e7){l E out:au}(hq:eW E)(hl:E.length≤100000)(ho:out.length≤1000000)(p:Int)(a b:Nat)(hb:b≤1000000)(q:Int)(hF:Fq q):
  cA.JG N C4 C7 N l E out p (a:Int) (b:Int) q false (false,(([]:List Int),())) 0=
   if Fq (q+cE (a:Int) (b:Int) E)then C7 l E (if q+cE (a:Int) (b:Int) E=0 then out else out++[((a:Int),((b:Int),(q+cE (a:Int) (b:Int) E,())))]) p (a:Int) ((b+1:Nat):Int)else some ([],false):=by
 have:=oF E a6 (λn j ws=>cA.JG N C4 C7 n l E out p (a:Int) (b:Int) q (!ws.isEmpty) (di ws.sum) j)
  (λt ws=>if Fq (q+(ws++dm (a:Int) (b:Int) t).sum)then C7 l E (if q+(ws++dm (a:Int) (b:Int) t).sum=0 then out else out++[((a:Int),((b:Int),(q+(ws++dm (a:Int) (b:Int) t).sum,())))]) p (a:Int) ((b+1:Nat):Int)else some ([],false))
  (λj (ws:List Int)=>ws.length≤j∧ ∀x∈ws,aE x)
  (λn j ws hj hI eF=> ?_) (λn ws hI=> ?_) E.length N 0 [] ω ω ω ⟨aH _,λx hx=>nomatch hx⟩
 ·rw[show((0:Nat):Int)=0 from rfl,c0,iF,kT]at this
  exact this
 ·unfold cA.JG cA.IM
  have nP:=zB hq j
  have iN:=nP
  unfold aE dZ at iN
  have hb:=OB hI.2
  rw[aQ ω,ak,aS ω ω,ak,ak,ak,aG,da N ω iN.1 iN.2,ar,ji N ω ((A3 (n:=ws.length) ω hb.1 hb.2).mono ω) ((Fit.i64 iN.1 iN.2).mono ω),ar,aw (x:=(j:Int)+1) ω ω,af j,aI,aI]
  by_cases h1:(E.getD j a6).1=(a:Int)
  ·by_cases h2:(E.getD j a6).2.1=(b:Int)
   ·have hc:dm (a:Int) (b:Int) (E.getD j a6::E.drop (j+1))=dZ (E.getD j a6)::dm (a:Int) (b:Int) (E.drop (j+1)):=by rw[eX,ah ⟨h1,h2⟩]
    rw[ah h1,ah h2,hc]
    have:=eF (ws++[dZ (E.getD j a6)]) ⟨by rw[aM,aK];omega,Cs hI.2 nP⟩
    rw[nh,cB,iF,iG,bH]at this
    refine Eq.trans ?_ this
    rw[show(!(ws++[dZ (E.getD j a6)]).isEmpty)=true by cases ws<;>rfl]
    rfl
   ·have hc:dm (a:Int) (b:Int) (E.getD j a6::E.drop (j+1))=dm (a:Int) (b:Int) (E.drop (j+1)):=by rw[eX,aj (λh=>h2 h.2)]
    rw[ah h1,aj h2,hc]
    exact eF ws ⟨ω,hI.2⟩
  ·have hc:dm (a:Int) (b:Int) (E.getD j a6::E.drop (j+1))=dm (a:Int) (b:Int) (E.drop (j+1)):=by rw[eX,aj (λh=>h1 h.1)]
   rw[aj h1,hc]
   exact eF ws ⟨ω,hI.2⟩
 ·unfold cA.JG cA.IM
  have hs:=OB hI.2
  have T1:=hF.1
  unfold aE at T1
  rw[aP ω,av,da N ω T1.1 T1.2,ar,ji N ω ((A3 (n:=ws.length) ω hs.1 hs.2).mono ω) ((Fit.i64 T1.1 T1.2).mono ω),ar,Ly,ar,aw (x:=(b:Int)+1) ω ω,af b,bP (by rw[aK];omega),ak,bP (by rw[aK];omega),ak,cond_not]
  show _=if Fq (q+(ws++[]).sum)then C7 l E (if q+(ws++[]).sum=0 then out else out++[((a:Int),((b:Int),(q+(ws++[]).sum,())))]) p (a:Int) ((b+1:Nat):Int)else some ([],false)
  rw[cH,Int.add_comm ws.sum q]
  cases ws with
  |nil=>
   show cond (!aN q 0) _ _=_
   rw[cond_not,aI,iF,iG,ah hF]
   by_cases h:q=0
   ·rw[ah h,ah h]
   ·rw[aj h,aj h]
  |cons w ws=>
   show cond (!(if Fq (q+(w::ws).sum)then(q+(w::ws).sum,true)else(0,false)).2) _ _=_
   by_cases h2:Fq (q+(w::ws).sum)
   ·rw[ah h2,ah h2]
    dsimp only
    rw[bp,av,cond_not,aI]
    by_cases h:q+(w::ws).sum=0
    ·rw[ah h,ah h]
    ·rw[aj h,aj h]
   ·rw[aj h2,aj h2];rfl
end VM
end
section
namespace VM
open Go VM.F
theorem JH{P:Int→Prop} [DecidablePred P]{f:Int→Int→Int}{k:c5}{K:List c5}{out:au}{v:Int}(hv:f k.1 k.2=v):
  (if P v then xO (if v=0 then out else out++[(k.1,(k.2,(v,())))]) (eC P f K)else some ([],false))=xO out (eC P f (k::K)):=by
 rw[kW,hv]
 by_cases h:P v
 ·rw[ah h,ah h]
  cases eC P f K with
  |none=>rfl
  |some o=>
   show some ((if v=0 then out else out++[(k.1,(k.2,(v,())))])++o,true)=some (out++(if v=0 then o else(k.1,(k.2,(v,())))::o),true)
   by_cases h0:v=0
   ·rw[ah h0,ah h0]
   ·rw[aj h0,aj h0,bH];rfl
 ·rw[aj h,aj h];rfl
theorem ap6{l:au}(hs:ug (l.map keyOf))(hl: ∀x∈l,Fq (dZ x))(k:c5):Fq (cE k.1 k.2 l):=by
 by_cases hk:k∈l.map keyOf
 ·have hm:Er l k∈rowsOf l (l.map keyOf):=fa hk
  rw[mR hs]at hm
  exact hl (Er l k) hm
 ·rw[gn hk];exact⟨⟨δ,δ⟩,δ⟩
theorem JI(N:Nat)(hN:4000000≤N)(C:cA.bX){l E:au}(hq:eW E)(hl:E.length≤100000)(hs:ug (l.map keyOf))(H8:l.length≤100000)(hf: ∀x∈l,Fq (dZ x))(hw: ∀x∈l,0≤(keyOf x).2∧(keyOf x).2<(6:Nat))(a:Nat)(ha:a≤24)(G:List c5)
  (hc: ∀(p:Nat) (out:au),Mark l (a+1) 0 p→out.length≤6*(a+1)→C l E out (p:Int) ((a+1:Nat):Int)=xO out (eC Fq (fS l E) G)):
  ∀(m n b p:Nat) (out:au),b+m=6→m<n→Mark l a b p→out.length≤6*a+b→cA.l7 N C n l E out (p:Int) (a:Int) (b:Int)=xO out (eC Fq (fS l E) (Bq a b m++G))
 |m,0,b,p,out,_,hn,_,_=>ω
 |0,n+1,b,p,out,hb,_,hM,ho=>by
  have e:b=6:=ω
  subst e
  unfold cA.l7 cA.p6
  rw[aP ω,av,aw (x:=(a:Int)+1) ω ω,af a]
  exact hc p out (hM.row hw) ω
 |m+1,n+1,b,p,out,hb,hn,hM,ho=>by
  have hp:=hM.le
  have akr: ∀(p:Nat) (v:Int),Mark l a (b+1) p→cA.l7 N C n l E (if v=0 then out else out++[((a:Int),((b:Int),(v,())))]) (p:Int) (a:Int) ((b+1:Nat):Int)=xO (if v=0 then out else out++[((a:Int),((b:Int),(v,())))]) (eC Fq (fS l E) (Bq a (b+1) m++G)):=λp v h=>
   JI N hN C hq hl hs H8 hf hw a ha G hc m n (b+1) p _ ω ω h (by
    split
    ·omega
    ·rw[aM,aK];omega)
  have wT:=ap6 hs hf ((a:Int),(b:Int))
  unfold cA.l7 cA.p6 cA.Lp cA.A7
  show _=xO out (eC Fq (fS l E) (((a:Int),(b:Int))::(Bq a (b+1) m++G)))
  rw[aQ (x:=(b:Int)) ω,ak,bN,aI,aI,aG]
  have fin: ∀(p:Nat) (q:Int),q=cE (a:Int) (b:Int) l→Mark l a (b+1) p→cA.JG N C (cA.l7 N C n) N l E out (p:Int) (a:Int) (b:Int) q false (false,(([]:List Int),())) 0=xO out (eC Fq (fS l E) (((a:Int),(b:Int))::(Bq a (b+1) m++G))):=λp q e h=>by
   subst e
   rw[YU N hN C _ hq hl ω (p:Int) a b ω _ wT,akr p _ h]
   exact JH (k:=((a:Int),(b:Int))) rfl
  rcases hM.step hs with⟨h1,h2,h3,h4,h5⟩|⟨h1,h2,h3⟩
  ·rw[ah (show(p:Int)<(l.length:Int)by omega),aS ω ω,ak,ak,ah h2,ah h3,aw (x:=(p:Int)+1) ω ω,af p,ak]
   exact fin (p+1) _ h4.symm h5
  ·by_cases g1:p<l.length
   ·rw[ah (show(p:Int)<(l.length:Int)by omega),aS ω ω,ak,ak]
    by_cases g2:(l.getD p a6).1=(a:Int)
    ·rw[ah g2,aj (λg3=>h1 g1 g2 g3)]
     exact fin p _ h2.symm h3
    ·rw[aj g2]
     exact fin p _ h2.symm h3
   ·rw[aj (show ¬(p:Int)<(l.length:Int)by omega)]
    exact fin p _ h2.symm h3
theorem JJ(N:Nat)(hN:4000000≤N){l E:au}(hq:eW E)(hl:E.length≤100000)(hs:ug (l.map keyOf))(H8:l.length≤100000)(hf: ∀x∈l,Fq (dZ x))(hw: ∀x∈l,0≤(keyOf x).2∧(keyOf x).2<(6:Nat)):
  ∀(m n a p:Nat) (out:au),a+m=25→m<n→Mark l a 0 p→out.length≤6*a→cA.l4 N n l E out (p:Int) (a:Int)=xO out (eC Fq (fS l E) (y8 6 a m))
 |m,0,a,p,out,_,hn,_,_=>ω
 |0,n+1,a,p,out,ha,_,hM,ho=>by
  unfold cA.l4 cA.eN
  rw[dL ω,av]
  show some (out,true)=some (out++[],true)
  rw[cH]
 |m+1,n+1,a,p,out,ha,hn,hM,ho=>by
  unfold cA.l4 cA.eN
  rw[dY ω,ak]
  exact JI N hN _ hq hl hs H8 hf hw a ω (y8 6 (a+1) m) (λp out h ho=>JJ N hN hq hl hs H8 hf hw m n (a+1) p out ω ω h ho) 6 N 0 p out ω ω hM ω
def kz:List c5:=y8 6 0 25
theorem Sf(N:Nat)(hN:4000000≤N){l E:au}(hk:dt l=true)(hl:l.length≤90000)(YS:eW l)(hq:eW E)(hE:E.length≤100000):cA N l E=xO [] (eC Fq (fS l E) kz):=by
 obtain⟨hs,IK⟩:=eY hk
 unfold cA cA.b
 refine JJ N hN hq hE hs ω (λx hx=>⟨YS x hx,(IK x hx).2⟩) (λx hx=> ?_) 25 N 0 0 [] ω ω ⟨ω,λx hx=>(nomatch hx),λx hx fj=> ?_⟩ (by simp)
 ·have h:bV (keyOf x).1 (keyOf x).2:=(IK x hx).1
  unfold bV at h;omega
 ·have h:bV (keyOf x).1 (keyOf x).2:=(IK x (m9 hx)).1
  unfold bV at h
  have xq:(keyOf x).1<((0:Nat):Int)∨((keyOf x).1=((0:Nat):Int)∧(keyOf x).2<((0:Nat):Int)):=fj
  omega
theorem VZ{l E:au}(hk:dt l=true)(hp: ∀x∈E,bV x.1 x.2.1):eC Fq (fS l E) (nR (l.map keyOf) E)=eC Fq (fS l E) kz:=by
 obtain⟨hs,IK⟩:=eY hk
 refine OF ⟨⟨δ,δ⟩,δ⟩ (zC hs) (oO 6 25 0) (λk hk=> ?_) (λk hk hn=> ?_)
 ·have:bV k.1 k.2:=by
   rcases mE.1 hk with h|⟨x,hx,rfl⟩
   ·obtain⟨x,hx,rfl⟩:=cL.1 h
    exact(IK x hx).1
   ·exact hp x hx
  unfold bV at this
  exact oN.2 ω
 ·have h1:k∉l.map keyOf:=λh=>hn (mE.2 (Or.inl h))
  have h2:k∉E.map keyOf:=λh=>by
   obtain⟨x,hx,e⟩:=cL.1 h
   exact hn (mE.2 (Or.inr ⟨x,hx,e⟩))
  unfold fS
  rw[gn h1,gn h2];rfl
end VM
end
