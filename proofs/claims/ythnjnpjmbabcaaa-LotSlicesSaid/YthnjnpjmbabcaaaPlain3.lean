/- A part of the proof of LotSlices of layer 23: what the functions compute, in plain words. -/
import Derived.Test.YthnjnpjmbabcaaaPlain2
set_option linter.all false
section
namespace VM
open Go VM.F Go.RowKit
theorem vl(c:al)(next:Int)(p:aH)(t:List aH)(out:aX):nD c next (p::t) out=
 if p=[]then nD c next t out else if(C9 (-(kd c p))).2=true then nD c next t (out++[(next+(out.length:Int),(p,((C9 (-(kd c p))).1,(1,(0,(0,()))))))])else none:=rfl
theorem rj{c:al}{next:Int}: ∀{t:List aH} {out o:aX},nD c next t out=some o→o.length≤out.length+t.length
 |[],out,o,h=>by cases h;exact aB _
 |p::t,out,o,h=>by
  rw[vl]at h
  rw[aE]
  split at h
  ·have:=rj h;omega
  ·split at h
   ·have:=rj h;rw[aQ,aR]at this;omega
   ·cases h
theorem A8(c:al)(next:Int)(all:aH)(k:Nat)(t:List Nat)(out:aX):wV c next all (k::t) out=(nD c next (kU c (bm c all k)) out).bind (wV c next all t):=rfl
theorem F2{x:Int}(h:0≤x∧x≤92233720368547758070000000000):bN x∧x≠ -170141183460469231731687303715884105728∧bN (-x):=by unfold bN;omega
theorem Dx(N:Nat)(hN:5000000≤N)(K8:bM.nE){next:Int}(hn:1≤next∧next≤1099511627764)(c:al)(all:aH)(b:Int){parts:List aH}(hp:parts.length≤3)(hq: ∀p∈parts,p.length≤100000∧ ∀y∈p,cD y.2.1){out:aX}(ho:out.length≤1000):
  bM.GO N K8 N next c all out b parts (parts.length:Int) 0=match nD c next parts out with
   |some o=>K8 next c all o (W .i64 (b+1))
   |none=>some ([],2):=by
 have:=uK parts eS (λm j s=>bM.GO N K8 m next c all s b parts (parts.length:Int) j) (λt s=>match nD c next t s with
   |some o=>K8 next c all o (W .i64 (b+1))
   |none=>some ([],2)) (λj s=>s.length≤1000+j) (λm j s hj hI hr=> ?_) (λm s hI=> ?_) parts.length N 0 out ω ω ω ω
 ·exact this
 ·have hx:parts.getD j eS∈parts:=by rw[aW,a6 hj];exact eD hj
  obtain⟨h1,h2⟩:=hq _ hx
  unfold bM.GO bM.It
  rw[aD ω,ah,aU ω ω,ah,aI,aJ (x:=(j:Int)+1) ω ω,an j,vl]
  by_cases vJ:parts.getD j eS=[]
  ·rw[af vJ,bW (by rw[vJ];rfl),ah]
   exact hr s ω
  ·have GC:((parts.getD j eS).length:Int)≠0:=λh=>vJ (ia ω)
   obtain⟨g1,g2,g3⟩:=F2 (uZ (c:=c) h2)
   rw[ag vJ,cw GC,aj,Ih N ω c h1 h2,ak,Im N g1 g2,ak,FA N g3,ak,cond_not]
   by_cases hi:(C9 (-(kd c (parts.getD j eS)))).2=true
   ·rw[af hi,hi,ah,aJ (x:=next+(s.length:Int)) ω ω]
    dsimp only
    rw[bP (by rw[aR];omega),ah]
    exact hr _ (by rw[aQ,aR];omega)
   ·rw[ag hi,gm _ |>.mp hi,aj]
 ·unfold bM.GO bM.It
  rw[av ω,aj]
  rfl
theorem wY: ∀{l:aH},(∀y∈l,LQ y)→0≤dX l∧dX l≤9223372036854775808*(l.length:Int)
 |[],_=>δ
 |x::t,h=>by
  have ih:=wY (λy hy=>h y (a7 _ hy))
  have hx:=(h x ba).2.1
  have hb:(x.2.1.natAbs:Int)≤9223372036854775808:=by
   have g: ∀x:Int,cD x→(x.natAbs:Int)≤9223372036854775808:=λx h=>by unfold cD at h;omega
   exact g _ hx
  have e:dX (x::t)=(x.2.1.natAbs:Int)+dX t:=by unfold dX;rw[bz,fI]
  have e2:(((x::t).length:Nat):Int)=(t.length:Int)+1:=by rw[aE];rfl
  rw[e,e2,fh]
  omega
theorem A9(l:aH)(x:j2):dX (l++[x])=dX l+(x.2.1.natAbs:Int):=by
 unfold dX
 rw[cU,List.sum_append]
 simp
theorem vY{c:al}{l:aH}{i:Nat}(hi:i<l.length)(k:Nat):bm c (l.take (i+1)) k=bm c (l.take i) k++if qu c (l.getD i cO)=(k:Int)then [l.getD i cO]else []:=by
 unfold bm
 rw[th,List.filter_append,a6 hi,aW,a6 hi]
 congr 1
 simp only[Option.toList_some,pb,List.filter_cons,List.filter_nil,ti]
theorem qw(c:al)(l:aH)(k:Nat):(bm c l k).length≤l.length:=yA _ _
theorem qx{c:al}{l:aH}{k:Nat}{y:j2}(h:y∈bm c l k):y∈l:=(mS.1 h).1
theorem Aa(N:Nat)(hN:5000000≤N)(K8:bM.nE)(next:Int){c:al}(hc:cD c.2.2.2.2.2.1){all:aH}(hl:all.length≤1000)(hq: ∀y∈all,LQ y∧0≤(y.1:Int)∧(y.1:Int)<(c.1.length:Int))(out:aX)(k:Nat):
  bM.A2 N K8 N next c all out (k:Int) eS (a5 0) (k:Int) (all.length:Int) 0=bM.xO N K8 N next c all out (List.replicate (mb c (bm c all k)) eS) (k:Int) (bm c all k) ((bm c all k).length:Int) 0:=by
 have:=uK all cO (λm i (s:aH×aA)=>bM.A2 N K8 m next c all out (k:Int) s.1 s.2 (k:Int) (all.length:Int) i) (λ_ _=>bM.xO N K8 N next c all out (List.replicate (mb c (bm c all k)) eS) (k:Int) (bm c all k) ((bm c all k).length:Int) 0)
  (λi s=>s=(bm c (all.take i) k,a5 (dX (bm c (all.take i) k)))) (λm i s hi hI hr=> ?_) (λm s hI=> ?_) all.length N 0 (eS,a5 0) ω ω ω rfl
 ·exact this
 ·have hx:all.getD i cO∈all:=by rw[aW,a6 hi];exact eD hi
  obtain⟨hy,vJ,TQ⟩:=hq _ hx
  have C6:=hy.2.1
  unfold cD at C6
  have hb:((all.getD i cO).2.1.natAbs:Int)<9223372036854775808:=by
   have g: ∀x:Int,-9223372036854775808≤x→x<9223372036854775808→vV x→(x.natAbs:Int)<9223372036854775808:=λx h1 h2 h3=>by unfold vV at h3;omega
   exact g _ C6.1 C6.2 hy.2.2
  have hlen:=qw c (all.take i) k
  rw[aT]at hlen
  have hg:=wY (l:=bm c (all.take i) k) λy hy=>(hq y (ig (qx hy))).1
  have Qz:=vY (c:=c) hi k
  subst hI
  generalize bm c (all.take i) k=own at*
  unfold bM.A2 bM.z5
  dsimp only
  rw[aD ω,ah,aU ω ω,ah,aI,aU vJ TQ,ah,aJ (x:=(i:Int)+1) ω ω,an i]
  change cond (cg (qu c (all.getD i cO)) (k:Int)) _ _=_
  by_cases h:qu c (all.getD i cO)=(k:Int)
  ·rw[af h]at Qz
   rw[bW h,ah,bP (by rw[aR];omega),ah,qb N C6.1 C6.2,ak,aJ ω hb,q4 N ω hb,ak,Ii N (by unfold bN;omega) (by unfold bN;omega) (by unfold bN;omega),ak]
   refine hr (own++[all.getD i cO],a5 (dX own+((all.getD i cO).2.1.natAbs:Int))) ?_
   rw[Qz,A9]
  ·rw[ag h,cV]at Qz
   rw[cw h,aj]
   refine hr (own,a5 (dX own)) ?_
   rw[Qz]
 ·have hS:=sj (dX (bm c all k)) c.2.2.2.2.2.1
  rw[gn]at hI
  subst hI
  unfold bM.A2 bM.z5
  dsimp only
  rw[av ω,aj,kV N ω hc,ak,bR hS.1 ω ω,ah]
  rfl
theorem Ga(N:Nat)(hN:5000000≤N){next:Int}(hn:1≤next∧next≤1099511627764){c:al}(hc:cD c.2.2.2.2.2.1){all:aH}(hl:all.length≤1000)(hq: ∀y∈all,LQ y∧0≤(y.1:Int)∧(y.1:Int)<(c.1.length:Int)):
  bM.l8 N N next c all [] 0=some (FR c all next):=by
 have:=uK (List.range 4) 0 (λm i s=>bM.l8 N m next c all s i) (λt s=>match wV c next all t s with
   |some o=>some (o,(0:Int))
   |none=>some ([],2)) (λi s=>s.length≤3*i) (λm i s hi hI hr=> ?_) (λm s hI=> ?_) 4 N 0 [] (by rw[ko];omega) ω ω (by rw[cA];omega)
 ·rw[show((0:Nat):Int)=0 from rfl,cW]at this
  rw[this]
  unfold FR
  cases wV c next all (List.range 4) []<;>rfl
 ·have S7:i<4:=by rw[ko]at hi;exact hi
  have e:(List.range 4).getD i 0=i:=by rw[aW,a6 hi];simp
  have OC: ∀y∈bm c all i,LQ y:=λy hy=>(hq y (qx hy)).1
  have mG:=qw c all i
  have hS:=sj (dX (bm c all i)) c.2.2.2.2.2.1
  have hp:mb c (bm c all i)≤3:=by unfold mb;omega
  rw[e,A8]
  unfold bM.l8 bM.QA
  rw[aD ω,ah]
  refine(Aa N hN (bM.l8 N m) next hc hl hq s i).trans ?_
  rw[Du N hN _ _ _ _ _ hp _ ω OC]
  have e2:(List.range (mb c (bm c all i))).map (jm (bm c all i) (mb c (bm c all i)))=kU c (bm c all i):=rfl
  have e3:(kU c (bm c all i)).length≤3:=by unfold kU;simp;exact hp
  rw[e2,Dx N hN _ hn c all _ e3 (λp WA=> ?_) ω,aJ (x:=(i:Int)+1) ω ω,an i]
  ·cases hL:nD c next (kU c (bm c all i)) s with
   |none=>rfl
   |some o=>
    have:=rj hL
    exact hr o ω
  ·obtain⟨j,_,rfl⟩:=cm.1 WA
   exact⟨by have:=wW (bm c all i) (mb c (bm c all i)) j;omega,Ip OC hp j⟩
 ·unfold bM.l8 bM.QA
  rw[av (by rw[ko];omega),aj]
  rfl
end VM
end
section
namespace VM
open Go VM.F Go.RowKit
def s4(c:al)(b:ch)(next:Int):aX×Int:=
 if lW c b=true then if next<1∨1099511627764<next then([],1)else if posOf b.2.2.2.1 0=[]then([],3)else FR c (posOf b.2.2.2.1 0) next else([],1)
theorem Iu{c:al}{b:ch}(w:ra b)(hB:lW c b=true):(posOf b.2.2.2.1 0).length≤6∧ ∀y∈posOf b.2.2.2.1 0,LQ y∧0≤(y.1:Int)∧(y.1:Int)<(c.1.length:Int):=by
 have hL:=F1 (F0.1 hB) 0
 have wP:=FE w.qs 0
 have hg:=wQ hL wP
 refine⟨hg.len,λy hy=> ?_⟩
 have hp:=(xK hL wP y hy).place
 have h1:=hg.inst y hy
 unfold BX at h1
 unfold qq at hp
 exact⟨⟨by unfold cD;omega,hg.q y hy⟩,hp⟩
theorem vm(N:Nat)(hN:5000000≤N){c:al}{b:ch}(w:ra b)(hc:cD c.2.2.2.2.2.1)(next:Int):bM N c b next=some (s4 c b next):=by
 unfold bM bM.b s4
 rw[H9 N ω w,ak,cond_not]
 by_cases hB:lW c b=true
 ·obtain⟨h6,hq⟩:=Iu w hB
  rw[af hB,hB,ah]
  by_cases h1:next<1
  ·rw[aD h1,ah,af (.inl h1)]
  rw[av ω,aj]
  by_cases h2:1099511627764<next
  ·rw[aD h2,ah,af (.inr h2)]
  rw[av ω,aj,ag ω,Oy N w.s ω,ak]
  by_cases h3:posOf b.2.2.2.1 0=[]
  ·rw[bW (by rw[h3];rfl),ah,af h3]
  ·have hz:((posOf b.2.2.2.1 0).length:Int)≠0:=λh=>h3 (ia ω)
   rw[cw hz,aj,ag h3,Ga N hN ω hc ω hq]
 ·rw[ag hB,gm _ |>.mp hB,aj]
def nZ(id:Int):aX→nG×Bool
 |[]=>(((0:Int),(eS,bC)),false)
 |x::t=>if x.1=id then(x,true)else nZ id t
theorem xR(id:Int)(x:nG)(t:aX):nZ id (x::t)=if x.1=id then(x,true)else nZ id t:=rfl
theorem Gb(N:Nat)(hN:200000≤N){l:aX}(hl:l.length≤100000)(hw:BW l)(id:Int):sl N l id=some (nZ id l):=by
 unfold sl sl.b
 refine Fk l ((0:Int),(eS,bC)) (λn i=>sl.l2 N n id ((0:Int),(eS,bC)) l (l.length:Int) i) (λt=>some (nZ id t)) (λn i hi hr=> ?_) (λn=> ?_) N ω
 ·have Y2:=uY hw i
  unfold sl.l2 sl.jg
  rw[aD ω,ah,aU ω ω,ah,aI,xR,aJ (x:=(i:Int)+1) ω ω,an i]
  by_cases h:(l.getD i ((0:Int),(eS,bC))).1=id
  ·rw[bW h,ah,af h,bP ω,ah]
  ·rw[cw h,aj,ag h];exact hr
 ·unfold sl.l2 sl.jg
  rw[av ω,aj];rfl
def lC:al:=([((0:Int),((100:Int),((0:Int),((2:Int),())))),((1:Int),((7:Int),cO))],((0:Int),((0:Int),((0:Int),((0:Int),((3:Int),((0:Int),())))))))
def lS:bF:=[((0:Int),((0:Int),((7:Int),()))),((0:Int),((1:Int),((-2:Int),()))),((1:Int),((0:Int),((-7:Int),()))),((1:Int),((1:Int),((2:Int),())))]
def lB(s:bF):ch:=([((1:Int),((1:Int),()))],([((1:Int),((1:Int),((1:Int),((0:Int),()))))],(QH,(s,([(100:Int),(7:Int)],(QI,()))))))
def lL:aX:=[((5:Int),([((0:Int),((3:Int),()))],((-6:Int),((1:Int),cO)))),((6:Int),([((0:Int),((2:Int),()))],((-4:Int),((1:Int),cO)))),((7:Int),([((0:Int),((2:Int),()))],((-4:Int),((1:Int),cO)))),((8:Int),([((1:Int),((-2:Int),()))],((0:Int),((1:Int),cO))))]
theorem WB:s4 lC (lB lS) 5=(lL,0):=κ
theorem WC:s4 lC (lB []) 5=([],3):=κ
theorem WD:nZ 7 lL=(((7:Int),([((0:Int),((2:Int),()))],((-4:Int),((1:Int),cO)))),true):=κ
theorem WE:AY lC lL=true:=by decide+kernel
theorem WG:ra (lB lS):=⟨δ,δ,δ,δ,δ,δ,λx hx=>(nomatch hx),Ig (l:=lS) δ⟩
theorem WH:ra (lB []):=⟨δ,δ,δ,δ,δ,δ,λx hx=>(nomatch hx),λx hx=>(nomatch hx)⟩
theorem TR:BW lL:=λx hx=>by
 have:x.2.1.length=1:=by
  simp only[lL,bc,tp,or_false]at hx
  rcases hx with rfl|rfl|rfl|rfl<;>rfl
 omega
theorem Dy(N:Nat)(hN:5000000≤N):F4 N=some true:=by
 unfold F4 QB
 rw[ak]
 show(bM N lC (lB lS) 5).bind _=_
 rw[vm N hN WG δ,ak,WB]
 show(sl N lL 7).bind _=_
 rw[Gb N ω δ TR,ak,WD]
 show(bM N lC (lB []) 5).bind _=_
 rw[vm N hN WH δ,ak,WC]
 have h1:oQ N (lL.getD (0:Int).toNat ((0:Int),(eS,bC))).2.1 [((0:Int),((3:Int),()))]=some true:=vk N δ ω
 have h2:oQ N [((0:Int),((2:Int),()))] [((0:Int),((2:Int),()))]=some true:=vk N δ ω
 have h3:oQ N (lL.getD (3:Int).toNat ((0:Int),(eS,bC))).2.1 [((1:Int),((-2:Int),()))]=some true:=vk N δ ω
 have h4:kX N lC lL=some true:=by rw[Ic N ω lC δ TR,WE]
 have e2:cg (lL.length:Int) 4=true:=bW rfl
 have e3:c9 0 lL.length=true:=aU δ δ
 have e4:c9 3 lL.length=true:=aU δ δ
 have e5:cg (lL.getD (0:Int).toNat ((0:Int),(eS,bC))).1 5=true:=bW rfl
 have e6:cg (lL.getD (0:Int).toNat ((0:Int),(eS,bC))).2.2.1 (-6)=true:=bW rfl
 have e7:cg (lL.getD (0:Int).toNat ((0:Int),(eS,bC))).2.2.2.1 1=true:=bW rfl
 have h5:F5 N (a5 7) 3=some 3:=by rw[kV N ω δ];rfl
 have h6:F5 N (a5 6) 3=some 2:=by rw[kV N ω δ];rfl
 simp only[h1,h2,h3,h4,e2,e3,e4,e5,e6,e7,kS,ah,ak,q4 N (x:=7) ω ω,q4 N (x:=6) ω ω,h5,h6]
 show(kX N lC lL).bind _=_
 rw[h4];rfl
end VM
end
section
namespace VM
open Go VM.F Go.RowKit
theorem Gc(hi lo:Int)(h1: -9223372036854775808≤hi∧hi≤9223372036854775807)(h2:0≤lo∧lo≤18446744073709551615):(hi,(lo,()))=a5 (hi*18446744073709551616+lo)∧bN (hi*18446744073709551616+lo):=by
 refine⟨?_,by unfold bN;omega⟩
 unfold a5
 rw[show(hi*18446744073709551616+lo)/18446744073709551616=hi by omega,show(hi*18446744073709551616+lo)%18446744073709551616=lo by omega]
theorem Ba{w:aA}(h:WF bU w): ∃v,w=a5 v∧bN v:=
 ⟨_,Gc w.1 w.2.1 (wf_i64.1 h.1) (wf_u64.1 h.2.1)⟩
namespace Pure
theorem Dz(w:aA)(s a b:Int)(h:NX [bU,.int .i64,.int .u16,.int .u8] (w,s,a,b)): ∃N,F3 N w s a b=some true:=by
 refine⟨6000000,?_⟩
 obtain⟨h1,h2,h3,h4,_⟩:=h
 obtain⟨v,rfl,hv⟩:=Ba (show WF bU w from h1)
 have h2: -9223372036854775808≤s∧s≤9223372036854775807:=wf_i64.1 h2
 have h3:0≤a∧a≤65535:=wf_u16.1 h3
 have h4:0≤b∧b≤255:=wf_u8.1 h4
 have hs:cD s:=by unfold cD;omega
 unfold F3
 rw[Dy 6000000 ω,ak,bo,aj,kV _ ω hs,ak,FP _ ω hv,ak,vj _ ω (sY hv) hs,ak,kS,ah,aJ (x:=a) ω ω,aJ (x:=b) ω ω,q4 _ ω ω,ak,kV _ ω (by unfold cD;omega),ak,qd _ ω ω ω,ak,vj _ ω (sY (by unfold bN;omega)) (by unfold cD;omega),ak,kS]
end Pure
end VM
end
