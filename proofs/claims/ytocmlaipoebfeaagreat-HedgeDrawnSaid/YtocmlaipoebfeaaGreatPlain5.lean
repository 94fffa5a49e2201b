/- A part of the proof of HedgeDrawn of layer 22: what the functions compute, in plain words. -/
import Derived.Test.YtocmlaipoebfeaaGreatPlain4
set_option linter.all false
section
namespace VM
open Go VM.F
def Sm(c:aa)(p:List Int)(k:Int):aj→Int
 |[]=>0
 |x::t=>(if x.1=0∧(c.1.getD x.2.1.toNat aJ).1=k then eC x*p.getD x.2.1.toNat 0 else 0)+Sm c p k t
def Ix(c:aa)(p:List Int)(k:Int)(l:aj):Nat→Int
 |0=>0
 |n+1=>Ix c p k l n+if(c.1.getD n aJ).1=k then cj 0 (n:Int) l*p.getD n 0 else 0
theorem tp(c:aa)(p:List Int)(k:Int)(l:aj)(n:Nat):Ix c p k l (n+1)=Ix c p k l n+if(c.1.getD n aJ).1=k then cj 0 (n:Int) l*p.getD n 0 else 0:=rfl
theorem Iy(c:aa)(p:List Int)(k:Int): ∀n,Ix c p k [] n=0
 |0=>rfl
 |n+1=>by rw[tp,Iy,DK,aBy];split<;>rfl
theorem Ed(c:aa)(p:List Int)(k:Int)(x:bY)(t:aj)(m:Nat)(hm:(x.2.1:Int)=(m:Int)): ∀n,Ix c p k (x::t) n=Ix c p k t n+if x.1=0∧m<n∧(c.1.getD m aJ).1=k then eC x*p.getD m 0 else 0
 |0=>by rw[ayE (fun h=>by omega)];rfl
 |n+1=>by
  rw[tp,tp,Ed c p k x t m hm n,ji]
  by_cases hk:(c.1.getD n aJ).1=k
  ·rw[ayF hk,ayF hk,aAx]
   by_cases hn:m=n
   ·subst hn
    rw[ayE (fun h=>by omega)]
    by_cases h0:x.1=0
    ·rw[ayF ⟨h0,hm⟩,ayF ⟨h0,by omega,hk⟩];omega
    ·rw[ayE (fun h=>h0 h.1),ayE (fun h=>h0 h.1),aBy];omega
   ·have e: ¬(x.1=0∧x.2.1=(n:Int)):=fun h=>hn (by
     have h2:(n:Int)=(m:Int):=h.2.symm.trans hm
     omega)
    rw[ayE e,aBy]
    by_cases h1:x.1=0∧m<n∧(c.1.getD m aJ).1=k
    ·rw[ayF h1,ayF ⟨h1.1,by omega,h1.2.2⟩];omega
    ·rw[ayE h1,ayE (fun h=>h1 ⟨h.1,by have:=h.2.1;omega,h.2.2⟩)];omega
  ·rw[ayE hk,ayE hk]
   by_cases h1:x.1=0∧m<n∧(c.1.getD m aJ).1=k
   ·rw[ayF h1,ayF ⟨h1.1,by omega,h1.2.2⟩];omega
   ·rw[ayE h1,ayE (fun h=>h1 ⟨h.1,by
     have h2:=h.2.1
     by_cases e:m=n
     ·subst e;exact absurd h.2.2 hk
     ·omega,h.2.2⟩)]
theorem Ee(c:aa)(p:List Int)(k:Int)(n:Nat): ∀{l:aj},(∀x∈l,nj x.2.1 n)→Ix c p k l n=Sm c p k l
 |[],_=>Iy c p k n
 |x::t,h=>by
  have ih:=Ee c p k n (l:=t) (fun y hy=>h y (ayK _ hy))
  have hx:=h x (ayN ..)
  have g: ∀v:Int,nj v n→v=((v.toNat:Nat):Int)∧v.toNat<n:=fun v h=>by unfold nj at h;omega
  have gx:=g _ hx
  rw[Ed c p k x t x.2.1.toNat gx.1 n,ih]
  show _=(if x.1=0∧(c.1.getD x.2.1.toNat aJ).1=k then eC x*p.getD x.2.1.toNat 0 else 0)+Sm c p k t
  by_cases h1:x.1=0∧(c.1.getD x.2.1.toNat aJ).1=k
  ·rw[ayF h1,ayF ⟨h1.1,gx.2,h1.2⟩];omega
  ·rw[ayE h1,ayE (fun h=>h1 ⟨h.1,h.2.2⟩)];omega
theorem BB{c:aa}{b:ag}(hk:dn b.2.2.2.1=true)(k:Int): ∀n,n6 c b k n=Ix c b.2.2.2.2.1 k b.2.2.2.1 n
 |0=>rfl
 |n+1=>by
  have hs:=(gQ hk).1
  have e:mR b.2.2.2.1 0 (n:Int)=cj 0 (n:Int) b.2.2.2.1:=by
   unfold mR;rw[hk]
   exact xt hs
  rw[uR,tp,BB hk k n]
  unfold Bl
  rw[e]
end VM
end
section
namespace VM
open Go VM.F
def Pr(c:aa)(p:List Int)(k:Int):av→Int
 |[]=>0
 |y::t=>(if(c.1.getD y.1.toNat aJ).1=k then y.2.1*p.getD y.1.toNat 0 else 0)+Pr c p k t
theorem Ef(c:aa)(p:List Int)(k:Int)(y:Lk)(t:av):Pr c p k (y::t)=(if(c.1.getD y.1.toNat aJ).1=k then y.2.1*p.getD y.1.toNat 0 else 0)+Pr c p k t:=rfl
theorem Eg(c:aa)(p:List Int)(k:Int): ∀l:aj,Sm c p k l=Pr c p k (gR 0 l)
 |[]=>rfl
 |x::t=>by
  have ih:=Eg c p k t
  show(if x.1=0∧(c.1.getD x.2.1.toNat aJ).1=k then eC x*p.getD x.2.1.toNat 0 else 0)+Sm c p k t=_
  rw[jC,ih]
  by_cases h:x.1=0
  ·rw[ayF h,Ef]
   by_cases h2:(c.1.getD x.2.1.toNat aJ).1=k
   ·rw[ayF ⟨h,h2⟩,ayF h2];rfl
   ·rw[ayE (fun h=>h2 h.2),ayE h2]
  ·rw[ayE h,ayE (fun k=>h k.1),aBz]
def eH(f:Int→Int):c3:=[bl (f 0),bl (f 1),bl (f 2),bl (f 3)]
theorem xu(f:Int→Int){k:Int}(h:0≤k∧k≤3):(eH f).getD k.toNat bL=bl (f k):=by
 have:k=0∨k=1∨k=2∨k=3:=by omega
 rcases this with rfl|rfl|rfl|rfl<;>rfl
theorem LW(f:Int→Int){k:Int}(h:0≤k∧k≤3)(v:Int):(eH f).set k.toNat (bl (f k+v))=eH (fun j=>f j+if k=j then v else 0):=by
 have:k=0∨k=1∨k=2∨k=3:=by omega
 unfold eH
 rcases this with rfl|rfl|rfl|rfl<;>simp
theorem np{f g:Int→Int}(h: ∀k,f k=g k):eH f=eH g:=by rw[funext h]
theorem Ps(N:Nat)(hN:200000≤N)(c:aa){b:ag}{t:av}(hl:t.length≤6)(jy: ∀y∈t,aB y.2.1)(Ap: ∀y∈t,nj y.1 c.1.length)(hp:b.2.2.2.2.1.length=c.1.length)(za:fZ b.2.2.2.2.1=true)(Ue: ∀i,i<c.1.length→0≤(c.1.getD i aJ).1∧(c.1.getD i aJ).1≤3):
  wq.l5 N N c b (eH fun _=>0) t (t.length:Int) 0=some (eH (fun k=>Pr c b.2.2.2.2.1 k t),0):=by
 have:=kK t bL (fun n i (f:Int→Int)=>wq.l5 N n c b (eH f) t (t.length:Int) i) (fun u f=>some (eH (fun k=>f k+Pr c b.2.2.2.2.1 k u),(0:Int)))
  (fun i f=> ∀k,-(9223372036854775808000000000000*(i:Int))≤f k∧f k≤9223372036854775808000000000000*(i:Int))
  (fun n i f hi hI hr=> ?_) (fun n f hI=> ?_) t.length N 0 (fun _=>0) (by omega) (by omega) (by omega) (fun k=>⟨azC _,azC _⟩)
 ·refine this.trans ?_
  rw[ay7]
  exact azS (fun z=>some (z,(0:Int))) (np fun k=>aBz _)
 ·unfold wq.l5 wq.c7
  have hm:t.getD i bL∈t:=by
   rw[ayC,ayG hi];exact ay5 hi
  have hq:=jy _ hm
  have hpy:=Ap _ hm
  rw[aE (by omega),ayz,aF (by omega) (by omega),ayz,ayD,ak (x:=(i:Int)+1) (by omega) (by omega),ae i]
  generalize t.getD i bL=y at*
  have g: ∀v:Int,nj v c.1.length→aI v c.1.length=true∧aI v b.2.2.2.2.1.length=true∧v.toNat<c.1.length:=fun v h=>by unfold nj at h;exact⟨aF (by omega) (by omega),aF (by omega) (by omega),by omega⟩
  have gy:=g _ hpy
  have hk:=Ue _ gy.2.2
  have Cn:=kA za (i:=y.1.toNat) (by omega)
  have gD:aI (c.1.getD y.1.toNat aJ).1 (eH f).length=true:=aF hk.1 (by
   have g: ∀x:Int,x≤3→x<((4:Nat):Int):=fun x _=>by omega
   exact g _ hk.2)
  have hma:=ND hq Cn
  have aoz:=Cn
  unfold bt at aoz
  have oH:=hq
  unfold aB at oH
  have hf:=hI (c.1.getD y.1.toNat aJ).1
  rw[gy.1,ayz,gD,ayz,gy.2.1,ayz,vL N oH.1 oH.2 (by omega) (by omega),ayy,xu f hk,FF N (by unfold bB;omega) (by unfold bB;omega) (by unfold bB;omega),ayy,ayz]
  dsimp only
  rw[LW f hk,hr _ (fun k=>by
   have:=hI k
   split<;>omega)]
  refine azS (fun z=>some (z,(0:Int))) (np fun k=> ?_)
  rw[Ef]
  omega
 ·unfold wq.l5 wq.c7
  rw[az (by omega),ayB]
  refine azS (fun z=>some (z,(0:Int))) (np fun k=> ?_)
  show f k=f k+0
  omega
theorem wu{c:aa}{b:ag}(h:bW c b=true): ∀x∈b.2.2.2.1,nj x.2.1 c.1.length:=fun x hx=>by
 have hk:=(kv h).2
 have h0:=(gQ hk).2 x hx
 unfold bW at h
 simp only[ayQ]at h
 have h1:=ayV h.2.2.2.2.2.2.2.2.1
 obtain⟨i,hi,e⟩:=azG hx
 have h2:=h1 i hi
 unfold ig at h2
 rw[ayC,ayG hi]at h2
 simp only[az9,e]at h2
 have g: ∀u v:Int,ca u v→Cs v c.1.length→nj v c.1.length:=fun u v h1 h2=>by unfold ca at h1;unfold Cs at h2;unfold nj;omega
 exact g _ _ h0.1 h2.2
theorem FN(N:Nat)(hN:4000000≤N)(c:aa){b:ag}(w:eS b):wq N c b=some (if bW c b then(eH (bF c b),0)else([],1)):=by
 unfold wq wq.b
 rw[zN N hN w,ayy,cond_not]
 by_cases hB:bW c b=false
 ·rw[hB];rfl
 rw[azD]at hB
 rw[hB,ayz,ayF rfl,bJ (by omega) (by omega) (by omega),ayz,abm N w.s (by omega),ayy]
 obtain⟨Ap,za⟩:=cO hB
 obtain⟨h6,Ue⟩:=fM (dv hB)
 obtain⟨_,hk⟩:=kv hB
 have aiW:=wu hB
 have e:posOf b.2.2.2.1 0=gR 0 b.2.2.2.1:=by unfold posOf;rw[hk];rfl
 have C2:=Ps N (by omega) c (b:=b) (t:=posOf b.2.2.2.1 0) (Sa hk w.qs 0).len (wi w.qs 0) (fun y hy=>by
  rw[e]at hy
  obtain⟨x,hx,_,rfl⟩:=fR hy
  exact aiW x hx) Ap za Ue
 have e0:eH (fun _=>0)=List.replicate (4:Int).toNat bL:=rfl
 rw[e0]at C2
 refine C2.trans (azS (fun z=>some (z,(0:Int))) (np fun k=> ?_))
 unfold bF
 rw[e,←Eg,BB hk,Ee c _ k _ aiW]
end VM
end
section
namespace VM
open Go VM.F
theorem VP(N:Nat){x:Int}(h:bB x)(hx:x≠ -170141183460469231731687303715884105728):VQ N (bl x)=some (bl (-x),true):=by
 unfold VQ LX bl
 unfold bB at h
 dsimp only
 have hp:0≤x%18446744073709551616∧x%18446744073709551616<18446744073709551616:=by omega
 have hh: -9223372036854775808≤x/18446744073709551616∧x/18446744073709551616<9223372036854775808:=by omega
 rw[ju,ju,iI N (by omega) (by omega) (by omega) (by omega) (by omega) (by omega),ayy]
 dsimp only
 have hb:(0:Int)≤(if(0:Int)<x%18446744073709551616+0 then 1 else 0)∧(if(0:Int)<x%18446744073709551616+0 then(1:Int)else 0)≤1:=by split<;>omega
 rw[iI N (by omega) (by omega) (by omega) (by omega) hb.1 hb.2,ayy]
 dsimp only
 have key: ∀{z:aT},z=bl (-x)→((some (z,true):Option (aT×Bool)).bind fun r1=>some (r1.1,r1.2))=some (bl (-x),true):=fun e=>by rw[e];rfl
 have e3:W .i64 ((0%18446744073709551616-x/18446744073709551616%18446744073709551616-(if(0:Int)<x%18446744073709551616+0 then 1 else 0))%18446744073709551616)=(-x)/18446744073709551616:=by
  by_cases h0:x%18446744073709551616=0
  ·rw[ayE (show ¬(0:Int)<x%18446744073709551616+0 by omega),dZ];split<;>omega
  ·rw[ayF (show(0:Int)<x%18446744073709551616+0 by omega),dZ];split<;>omega
 have e1:(0-x%18446744073709551616-0)%18446744073709551616=(-x)%18446744073709551616:=by omega
 rw[e3,e1]
 simp only[lX,pz]
 by_cases a:x/18446744073709551616<0
 ·have c: ¬(-x)/18446744073709551616<0:=by omega
  rw[ayR (show ¬(0:Int)<0 by omega),ayO a,ayR c]
  exact key rfl
 ·rw[ayR (show ¬(0:Int)<0 by omega),ayR a]
  exact key rfl
theorem FO(N:Nat){x:Int}(h:bB x)(hx:x≠ -170141183460469231731687303715884105728):Iz N (bl x)=some (bl (x.natAbs:Int),true):=by
 unfold Iz
 have e:(bl x).1=x/18446744073709551616:=rfl
 rw[e]
 by_cases h0:x<0
 ·rw[aE (show x/18446744073709551616<0 by omega),ayz,VP N h hx,ayy,show(x.natAbs:Int)= -x by omega]
 ·rw[az (show 0≤x/18446744073709551616 by omega),ayB,show(x.natAbs:Int)=x by omega]
end VM
end
section
namespace VM
open Go VM.F
theorem BC{k:Int}: ∀{i:Nat} {l:aD},gw k i l=[]→ ∀x∈l,¬x.1=k
 |i,[],_,x,hx=>nomatch hx
 |i,y::t,h,x,hx=>by
  rw[nk]at h
  by_cases e:y.1=k
  ·rw[ayF e]at h;exact absurd h (by simp)
  ·rw[ayE e]at h
   rcases ayY.1 hx with rfl|hx
   ·exact e
   ·exact BC h x hx
theorem sN{k:Int}: ∀{i:Nat} {l:aD},gw k i l≠[]→(i:Int)≤(gw k i l).getD 0 0∧(gw k i l).getD 0 0<((i+l.length:Nat):Int)
 |i,[],h=>absurd rfl h
 |i,y::t,h=>by
  rw[nk]at h ⊢
  by_cases e:y.1=k
  ·rw[ayF e,ayI]
   show(i:Int)≤(i:Int)∧(i:Int)<_
   omega
  ·rw[ayE e]at h ⊢
   have:=sN h
   rw[ayI];omega
theorem LY{c:aa}{b:ag}(hp:ec c=true){k:Int}(h:bK c k=[]):bF c b k=0:=by
 unfold bK at h
 rw[hp,ayF rfl]at h
 have hn:=BC h
 have key: ∀n,n≤c.1.length→n6 c b k n=0:=by
  intro n
  induction n with
  |zero=>intro _;rfl
  |succ n ih=>
   intro hle
   rw[uR,ih (by omega),ayE (hn _ (by
    rw[ayC,ayG (by omega)];exact ay5 _))];rfl
 exact key _ (ayJ _)
def qf(c:aa):Int:=c.2.2.2.2.2.2.1
def qOf(v p:Int):Int:=if(v.natAbs:Int)/p≤1000000000 then(v.natAbs:Int)/p else 1000000000
def dR(c:aa)(b:ag)(k:Int):Int×Int×Int:=
 ((bK c k).getD 0 0,((if 0<bF c b k then 2 else 1),qOf (bF c b k) (b.2.2.2.2.1.getD ((bK c k).getD 0 0).toNat 0)))
def tM(c:aa)(b:ag)(next:Int):Nat→Nat→aD→aD
 |0,_,out=>out
 |m+1,k,out=>if((bF c b (k:Int)).natAbs:Int)≤qf c then tM c b next m (k+1) out else
  if(dR c b (k:Int)).2.2=0 then tM c b next m (k+1) out else
  tM c b next m (k+1) (out++[(next+(out.length:Int),((dR c b (k:Int)).1,((dR c b (k:Int)).2.1,((dR c b (k:Int)).2.2,()))))])
theorem tq(c:aa)(b:ag)(next:Int)(m k:Nat)(out:aD):tM c b next (m+1) k out=if((bF c b (k:Int)).natAbs:Int)≤qf c then tM c b next m (k+1) out else
 if(dR c b (k:Int)).2.2=0 then tM c b next m (k+1) out else
 tM c b next m (k+1) (out++[(next+(out.length:Int),((dR c b (k:Int)).1,((dR c b (k:Int)).2.1,((dR c b (k:Int)).2.2,()))))]):=rfl
def gT(c:aa)(b:ag)(next:Int):aD×Int:=
 if bW c b then(if 1≤next∧next≤1099511627772 then(tM c b next 4 0 [],0)else([],1))else([],1)
theorem FP{c:aa}{b:ag}(w:eS b)(hB:bW c b=true){k:Int}(h: ¬((bF c b k).natAbs:Int)≤qf c)(h0:0≤qf c):
  bK c k≠[]∧aI ((bK c k).getD 0 0) b.2.2.2.2.1.length=true∧bt (b.2.2.2.2.1.getD ((bK c k).getD 0 0).toNat 0):=by
 have Ap:=dv hB
 obtain⟨hp,za⟩:=cO hB
 have gq:bK c k≠[]:=fun e=>h (by rw[LY Ap e];exact h0)
 have hh:0≤(bK c k).getD 0 0∧(bK c k).getD 0 0<(c.1.length:Int):=by
  unfold bK at gq ⊢
  rw[Ap,ayF rfl]at gq ⊢
  have:=sN gq
  omega
 exact⟨gq,aF (by omega) (by omega),kA za (by omega)⟩
theorem wv{c:aa}{b:ag}(w:eS b)(hB:bW c b=true)(k:Int):bB (bF c b k)∧((bF c b k).natAbs:Int)≤60000000000000000000000000000000:=by
 have h6:=(fM (dv hB)).1
 have:=xn w hB k c.1.length (ayJ _)
 unfold bF bB
 omega
theorem FQ{c:aa}{b:ag}(hB:bW c b=true):0≤qf c:=by
 have h:=dv hB
 unfold ec at h
 simp only[ayQ]at h
 have:=ayV h.2.2
 exact this.2.2.2.2.2
theorem FR{v p:Int}(hv:(v.natAbs:Int)≤60000000000000000000000000000000)(hp:bt p):0≤(v.natAbs:Int)/p∧bB ((v.natAbs:Int)/p):=by
 unfold bt at hp
 have h1:0≤(v.natAbs:Int)/p:=azV (by omega) (by omega)
 have h2:(v.natAbs:Int)/p≤v.natAbs:=aBR _ (by omega)
 unfold bB;omega
end VM
end
section
namespace VM
open Go VM.F
theorem BD(N:Nat)(hN:4000000≤N)(c:aa)(hc:aB (qf c)){b:ag}(w:eS b)(next:Int):qq N c b next=some (gT c b next):=by
 unfold qq qq.b gT
 rw[FN N hN c w,ayy]
 by_cases hB:bW c b=false
 ·rw[hB]
  show cond (!aA 1 0) _ _=_
  rw[cJ (by omega)];rfl
 rw[azD]at hB
 rw[hB,ayF rfl,ayF rfl]
 dsimp only
 rw[b9,ayL,ayB,aL,aL]
 by_cases h1:next<1
 ·rw[ayF h1,ayE (by omega)]
 rw[ayE h1]
 by_cases h2:1099511627772<next
 ·rw[ayF h2,ayE (by omega)]
 rw[ayE h2,ayF (by omega)]
 have h0:=FQ hB
 obtain⟨h6,Ue⟩:=fM (dv hB)
 have key: ∀(m n k:Nat) (out:aD),k+m=4→m<n→out.length≤k→qq.l6 N n next c b out (eH (bF c b)) ((eH (bF c b)).length:Int) (k:Int)=some (tM c b next m k out,0):=by
  intro m n
  induction n generalizing m with
  |zero=>intro k out _ hn;omega
  |succ n ih=>
   intro k out hk hn ho
   unfold qq.l6 qq.pE
   have hlen:(eH (bF c b)).length=4:=rfl
   rw[hlen]
   match m,hk,hn with
   |0,hk,hn=>rw[az (by omega),ayB];rfl
   |m+1,hk,hn=>
    obtain⟨hv,hva⟩:=wv w hB (k:Int)
    have hvn:bF c b (k:Int)≠ -170141183460469231731687303715884105728:=by omega
    have lG:=xu (bF c b) (k:=(k:Int)) (by omega)
    have VS:=fun qK Ut=>ih m (k+1) qK (by omega) (by omega) Ut
    rw[hlen]at VS
    unfold aB qf at hc
    rw[aE (by omega),ayz,aF (by omega) (by omega),ayz,lG,FO N hv hvn,ayy,mL N hc.1 hc.2,ayy,vW,ayy,bm,ak (x:=(k:Int)+1) (by omega) (by omega),ae k,tq]
    have hs:lW (((bF c b (k:Int)).natAbs:Int)-c.2.2.2.2.2.2.1)≤0↔((bF c b (k:Int)).natAbs:Int)≤qf c:=by
     unfold qf lW;split<;>(try split)<;>omega
    by_cases h3:((bF c b (k:Int)).natAbs:Int)≤qf c
    ·rw[ayF (hs.2 h3),ayF h3]
     exact VS out (by omega)
    ·obtain⟨gq,gD,hp⟩:=FP w hB h3 h0
     have hl0:0<(bK c (k:Int)).length:=azQ.2 gq
     have hd:=FR hva hp
     have wN:=hp
     unfold bt at wN
     rw[ayE (fun h=>h3 (hs.1 h)),ayE h3,Pj N (by omega) c (by omega),ayy,aF (i:=0) (by omega) (by omega),ayz,show(0:Int).toNat=0 from rfl,gD,ayz,Vl N (by omega) (by omega) (by omega) (by omega) (by omega),ayy,wa N hd.2,ayy]
     have fin: ∀q:Int,q=(dR c b (k:Int)).2.2→qq.wT N (qq.l6 N n) next c b out (bl (bF c b (k:Int))) ((bK c (k:Int)).getD 0 0) q (eH (bF c b)) ((4:Nat):Int) (k:Int)=some (if(dR c b (k:Int)).2.2=0 then tM c b next m (k+1) out else tM c b next m (k+1) (out++[(next+(out.length:Int),((dR c b (k:Int)).1,((dR c b (k:Int)).2.1,((dR c b (k:Int)).2.2,()))))]),0):=fun q e=>by
      subst e
      unfold qq.wT qq.qg
      have Nc:0<lW (bF c b (k:Int))↔0<bF c b (k:Int):=by unfold lW;split<;>(try split)<;>omega
      rw[au,ak (x:=(k:Int)+1) (by omega) (by omega),ae k,n0,ayy,ak (x:=next+(out.length:Int)) (by omega) (by omega),aL]
      by_cases h4:(dR c b (k:Int)).2.2=0
      ·rw[ayF h4,ayF h4];exact VS out (by omega)
      ·rw[ayE h4,ayE h4]
       rw[a8 (by rw[ayA];omega),ayz,a8 (by rw[ayA];omega),ayz]
       by_cases h5:0<bF c b (k:Int)
       ·rw[ayF (Nc.2 h5)]
        have e2:(dR c b (k:Int)).2.1=2:=by unfold dR;exact ayF h5
        rw[e2]
        exact VS _ (by rw[ayH,ayA];omega)
       ·rw[ayE (fun h=>h5 (Nc.1 h))]
        have e2:(dR c b (k:Int)).2.1=1:=by unfold dR;exact ayE h5
        rw[e2]
        exact VS _ (by rw[ayH,ayA];omega)
     have hq: ∀d:Int,d=((bF c b (k:Int)).natAbs:Int)/(b.2.2.2.2.1.getD ((bK c (k:Int)).getD 0 0).toNat 0)→(dR c b (k:Int)).2.2=if d≤1000000000 then d else 1000000000:=fun d e=>by subst e;rfl
     have oH:=hq _ rfl
     generalize ((bF c b (k:Int)).natAbs:Int)/(b.2.2.2.2.1.getD ((bK c (k:Int)).getD 0 0).toNat 0)=d at*
     by_cases h6:aB d
     ·rw[pf h6]
      dsimp only
      rw[ayL,ayB,aL]
      by_cases h7:1000000000<d
      ·rw[ayF h7];exact fin _ (by rw[oH,ayE (by omega)])
      ·rw[ayE h7];exact fin _ (by rw[oH,ayF (by omega)])
     ·rw[qU h6]
      dsimp only
      rw[ay4,ayz]
      exact fin _ (by rw[oH,ayE (by unfold aB at h6;omega)])
 exact key 4 N 0 [] (by omega) (by omega) (ayJ _)
end VM
end
section
namespace VM
open Go VM.F
theorem BE(N:Nat)(hN:5000000≤N)(c:aa)(hc:aB (qf c)){b:ag}(w:eS b)(next:Int):mT N c b next=some (gT c b next):=by
 unfold mT mT.b gT
 rw[Ij N hN c w,ayy]
 by_cases hB:bW c b=false
 ·rw[hB]
  show cond (!aA 1 0) _ _=_
  rw[cJ (by omega)];rfl
 rw[azD]at hB
 rw[hB,ayF rfl,ayF rfl]
 dsimp only
 rw[b9,ayL,ayB,aL,aL]
 by_cases h1:next<1
 ·rw[ayF h1,ayE (by omega)]
 rw[ayE h1]
 by_cases h2:1099511627772<next
 ·rw[ayF h2,ayE (by omega)]
 rw[ayE h2,ayF (by omega)]
 have h0:=FQ hB
 obtain⟨h6,Ue⟩:=fM (dv hB)
 have key: ∀(m n k:Nat) (out:aD),k+m=4→m<n→out.length≤k→mT.l6 N n (next+(out.length:Int)) c b (kR (bF c b)) out (k:Int)=some (tM c b next m k out,0):=by
  intro m n
  induction n generalizing m with
  |zero=>intro k out _ hn;omega
  |succ n ih=>
   intro k out hk hn ho
   unfold mT.l6 mT.pE
   have hlen:(kR (bF c b)).length=4:=rfl
   match m,hk,hn with
   |0,hk,hn=>rw[az (by omega),ayB];rfl
   |m+1,hk,hn=>
    obtain⟨hv,hva⟩:=wv w hB (k:Int)
    have lG:=Bm (bF c b) (k:=(k:Int)) (by omega)
    have VS:=fun qK Ut=>ih m (k+1) qK (by omega) (by omega) Ut
    unfold aB qf at hc
    have hab:bB ((bF c b (k:Int)).natAbs:Int):=by unfold bB;omega
    rw[aE (by omega),ayz,Bk N (by omega) c (by omega),ayy,hlen,aF (by omega) (by omega),ayz,lG,vH N (by omega) (ij hv),ayy,au,cn N (by omega) hc.1 hc.2,ayy,sv N (by omega) (ij hab) ((Fit.i64 hc.1 hc.2).mono (by omega)),ayy,bm,ak (x:=(k:Int)+1) (by omega) (by omega),ae k,tq]
    have hs:lW (((bF c b (k:Int)).natAbs:Int)-c.2.2.2.2.2.2.1)≤0↔((bF c b (k:Int)).natAbs:Int)≤qf c:=by
     unfold qf lW;split<;>(try split)<;>omega
    by_cases h3:((bF c b (k:Int)).natAbs:Int)≤qf c
    ·rw[ayF (hs.2 h3),ayF h3,VS out (by omega)]
     split<;>rfl
    ·obtain⟨gq,gD,hp⟩:=FP w hB h3 h0
     have hl0:0<(bK c (k:Int)).length:=azQ.2 gq
     have hd:=FR hva hp
     have h5:Fit ((bF c b (k:Int)).natAbs:Int) 5:=by
      unfold Fit
      rw[show(4294967296:Nat)^5=1461501637330902918203684832716283019655932542976 from rfl]
      omega
     have Qo:Fit ((bF c b (k:Int)).natAbs:Int) 80000:=Fit.mono h5 (by decide)
     have acg:(kR (bF c b)).getD k (false,kV)=br (bF c b (k:Int)):=by rw[←lG,ayD]
     have wN:=hp
     unfold bt at wN
     rw[ayE (show ¬((bK c (k:Int)).length:Int)=0 by omega),ayE (fun h=>h3 (hs.1 h)),ayE h3,aF (i:=0) (by omega) (by omega),ayz,show(0:Int).toNat=0 from rfl,gD,ayz,cn N (by omega) (by omega) (by omega),ayy,Fj N hN (by omega) Qo ((Fit.i64 (by omega) (by omega)).mono (by omega)),ayy,nZ,ayy]
     have fin: ∀q:Int,q=(dR c b (k:Int)).2.2→mT.wT N (mT.l6 N n) (next+(out.length:Int)) c b (kR (bF c b)) out (k:Int) (bK c (k:Int)) q=some (if(dR c b (k:Int)).2.2=0 then tM c b next m (k+1) out else tM c b next m (k+1) (out++[(next+(out.length:Int),((dR c b (k:Int)).1,((dR c b (k:Int)).2.1,((dR c b (k:Int)).2.2,()))))]),0):=fun q e=>by
      subst e
      unfold mT.wT mT.qg
      have Nc:0<lW (bF c b (k:Int))↔0<bF c b (k:Int):=by unfold lW;split<;>(try split)<;>omega
      rw[au,ak (x:=(k:Int)+1) (by omega) (by omega),ae k,aF (i:=0) (by omega) (by omega),ayz,hlen,aF (by omega) (by omega),ayz,ayD,acg,nf,ayy,aL,ak (x:=next+(out.length:Int)+1) (by omega) (by omega),show(0:Int).toNat=0 from rfl]
      by_cases h4:(dR c b (k:Int)).2.2=0
      ·rw[ayF h4,ayF h4];exact VS out (by omega)
      ·rw[ayE h4,ayE h4,a8 (by rw[ayA];omega),ayz,a8 (by rw[ayA];omega),ayz]
       have step:=fun z:bp=>VS (out++[z]) (by rw[ayH,ayA];omega)
       have el: ∀z:bp,next+((out++[z]).length:Int)=next+(out.length:Int)+1:=fun z=>by rw[ayH,ayA];omega
       by_cases h5:0<bF c b (k:Int)
       ·rw[ayF (Nc.2 h5)]
        have e2:(dR c b (k:Int)).2.1=2:=by unfold dR;exact ayF h5
        rw[e2,←step _,el];rfl
       ·rw[ayE (fun h=>h5 (Nc.1 h))]
        have e2:(dR c b (k:Int)).2.1=1:=by unfold dR;exact ayE h5
        rw[e2,←step _,el];rfl
     have hq: ∀d:Int,d=((bF c b (k:Int)).natAbs:Int)/(b.2.2.2.2.1.getD ((bK c (k:Int)).getD 0 0).toNat 0)→(dR c b (k:Int)).2.2=if d≤1000000000 then d else 1000000000:=fun d e=>by subst e;rfl
     have oH:=hq _ rfl
     generalize ((bF c b (k:Int)).natAbs:Int)/(b.2.2.2.2.1.getD ((bK c (k:Int)).getD 0 0).toNat 0)=d at*
     by_cases h6:aB d
     ·rw[pf h6]
      dsimp only
      rw[ayL,ayB,aL]
      by_cases h7:1000000000<d
      ·rw[ayF h7];exact fin _ (by rw[oH,ayE (by omega)])
      ·rw[ayE h7];exact fin _ (by rw[oH,ayF (by omega)])
     ·rw[qU h6]
      dsimp only
      rw[ay4,ayz]
      exact fin _ (by rw[oH,ayE (by unfold aB at h6;omega)])
 have:=key 4 N 0 [] (by omega) (by omega) (ayJ _)
 rw[ayW,show next+((0:Nat):Int)=next by omega]at this
 exact this
end VM
end
section
namespace VM
open Go VM.F
def mw(x:cr)(z:Int×Int):Int×Int:=if x.2.2.2.1=1 then(z.1+x.2.2.2.2.1,z.2)else(z.1,z.2+x.2.2.2.2.1)
def VT(a k:Int):aU→Int×Int→Int×Int
 |[],z=>z
 |x::t,z=>VT a k t (if x.2.1=a∧x.2.2.1=k then mw x z else z)
theorem wx(a k:Int)(x:cr)(t:aU)(z:Int×Int):VT a k (x::t) z=VT a k t (if x.2.1=a∧x.2.2.1=k then mw x z else z):=rfl
theorem IA(a k:Int)(o:cr): ∀(l:aU) (z:Int×Int),VT a k (l++[o]) z=if o.2.1=a∧o.2.2.1=k then mw o (VT a k l z)else VT a k l z
 |[],z=>rfl
 |x::t,z=>by rw[azY,wx,wx];exact IA a k o t _
def nz(i:Int)(z:Int×Int):bY:=(i,(z.1,(z.2,())))
def IB(f:Int→Int×Int):Nat→Nat→aj
 |0,_=>[]
 |m+1,k=>if 0<(f (k:Int)).1+(f (k:Int)).2 then nz (k:Int) (f (k:Int))::IB f m (k+1)else IB f m (k+1)
theorem iN(f:Int→Int×Int)(m k:Nat):IB f (m+1) k=if 0<(f (k:Int)).1+(f (k:Int)).2 then nz (k:Int) (f (k:Int))::IB f m (k+1)else IB f m (k+1):=rfl
def FT(l:aU)(a k:Int):Int×Int:=VT a k l (0,0)
def pt(l:aU)(a:Int):aj:=IB (FT l a) 6 0
theorem FU(f:Int→Int×Int): ∀m k,(IB f m k).length≤m
 |0,_=>ayJ _
 |m+1,k=>by
  rw[iN]
  have:=FU f m (k+1)
  split
  ·rw[ayI];omega
  ·omega
theorem Sn(f:Int→Int×Int): ∀m k,∀x∈IB f m k,(k:Int)≤x.1
 |0,_,x,hx=>nomatch hx
 |m+1,k,x,hx=>by
  rw[iN]at hx
  have ih:=Sn f m (k+1) x
  split at hx
  ·rcases ayY.1 hx with rfl|hx
   ·exact azC _
   ·have:=ih hx;omega
  ·have:=ih hx;omega
theorem xv{f g:Int→Int×Int}: ∀m k,(∀j:Nat,k≤j→f (j:Int)=g (j:Int))→IB f m k=IB g m k
 |0,_,_=>rfl
 |m+1,k,h=>by rw[iN,iN,h k (ayJ _),xv m (k+1) (fun j hj=>h j (by omega))]
def C5(l:aU):Prop:= ∀x∈l,1≤x.2.2.2.2.1∧x.2.2.2.2.1≤1000000000
theorem FV{l:aU}(h:C5 l){i:Nat}(hi:i<l.length):1≤(l.getD i dT).2.2.2.2.1∧(l.getD i dT).2.2.2.2.1≤1000000000:=h _ (by
 rw[ayC,ayG hi];exact ay5 hi)
def zo(z:Int×Int)(n:Nat):Prop:=0≤z.1∧z.1≤1000000000*(n:Int)∧0≤z.2∧z.2≤1000000000*(n:Int)
theorem NN{x:cr}{z:Int×Int}{n:Nat}(hq:1≤x.2.2.2.2.1∧x.2.2.2.2.1≤1000000000)(h:zo z n):zo (mw x z) (n+1):=by
 have g: ∀q:Int,1≤q∧q≤1000000000→zo (z.1+q,z.2) (n+1)∧zo (z.1,z.2+q) (n+1):=fun q hq=>by unfold zo at*;dsimp only;omega
 have gx:=g _ hq
 unfold mw
 split
 ·exact gx.1
 ·exact gx.2
theorem zo.mono{z:Int×Int}{n m:Nat}(h:zo z n)(hm:n≤m):zo z m:=by unfold zo at*;omega
theorem So{a k:Int}: ∀{l:aU} {z:Int×Int} {n:Nat},C5 l→zo z n→zo (VT a k l z) (n+l.length)
 |[],z,n,_,h=>h
 |x::t,z,n,hq,h=>by
  have hx:=hq x (ayN ..)
  rw[wx,ayI,show n+(t.length+1)=n+1+t.length by omega]
  refine So (fun y hy=>hq y (ayK _ hy)) ?_
  split
  ·exact NN hx h
  ·exact zo.mono h (by omega)
theorem zS{l:aU}(h:C5 l)(a k:Int):zo (FT l a k) l.length:=by
 have:=So (a:=a) (k:=k) (z:=(0,0)) (n:=0) h (by unfold zo;dsimp only;omega)
 rw[azH]at this;exact this
theorem BF{l:aU}(h:eF l=true):C5 l∧l.length≤32:=by
 unfold eF at h
 rw[ayQ]at h
 refine⟨fun x hx=> ?_,ayV h.2⟩
 obtain⟨i,hi,e⟩:=azG hx
 have:=ayV h.1 i hi
 unfold pb at this
 have h1:=this.1
 rw[ayC,ayG hi,az9,e]at h1
 unfold fj at h1
 exact h1.2.2.2.2.1
def oI(o:cr):Int:=o.2.2.1
def oQ(o:cr):Int:=o.2.2.2.2.1
def oK(x:bY):Int:=x.1
def wy(o:cr):aj→aj
 |[]=>[nz (oI o) (mw o (0,0))]
 |x::t=>if oK x<oI o then x::wy o t else if oK x=oI o then nz (oK x) (mw o (x.2.1,x.2.2.1))::t else nz (oI o) (mw o (0,0))::x::t
theorem oa(o:cr)(x:bY)(t:aj):wy o (x::t)=if oK x<oI o then x::wy o t else if oK x=oI o then nz (oK x) (mw o (x.2.1,x.2.2.1))::t else nz (oI o) (mw o (0,0))::x::t:=rfl
theorem Sp(o:cr){l:aj}(h: ∀x∈l,oI o<oK x):wy o l=nz (oI o) (mw o (0,0))::l:=by
 match l,h with
 |[],_=>rfl
 |x::t,h=>
  have:=h x (ayN ..)
  rw[oa,ayE (Int.lt_asymm this),ayE (fun e=>Int.lt_irrefl _ (e▸this))]
def IC(o:cr)(f:Int→Int×Int)(k:Int):Int×Int:=if k=oI o then mw o (f k)else f k
theorem Sq(o:cr)(z:Int×Int):(mw o z).1+(mw o z).2=z.1+z.2+oQ o:=by
 unfold mw
 have: ∀a b q:Int,a+q+b=a+b+q∧a+(b+q)=a+b+q:=fun a b q=>by omega
 split
 ·exact(this _ _ _).1
 ·exact(this _ _ _).2
theorem Eh(o:cr){f:Int→Int×Int}(hf: ∀k,0≤(f k).1∧0≤(f k).2)(hq:1≤oQ o): ∀m k:Nat,(k:Int)≤oI o→oI o<((k+m:Nat):Int)→wy o (IB f m k)=IB (IC o f) m k
 |0,k,h1,h2=>by omega
 |m+1,k,h1,h2=>by
  have hk:=hf (k:Int)
  by_cases e:(k:Int)=oI o
  ·have hu:IC o f (k:Int)=mw o (f (k:Int)):=by unfold IC;rw[ayF e]
   have hs:=Sq o (f (k:Int))
   have hc:IB f m (k+1)=IB (IC o f) m (k+1):=xv m (k+1) fun j hj=>by unfold IC;rw[ayE (by omega)]
   rw[iN,iN,hu,ayF (show 0<(mw o (f (k:Int))).1+(mw o (f (k:Int))).2 by omega),←hc]
   by_cases h0:0<(f (k:Int)).1+(f (k:Int)).2
   ·rw[ayF h0,oa,ayE (show ¬oK (nz (k:Int) (f (k:Int)))<oI o from by show ¬(k:Int)<oI o;omega),ayF (show oK (nz (k:Int) (f (k:Int)))=oI o from e)]
    rfl
   ·have hz:f (k:Int)=(0,0):=aA4 (by omega) (by omega)
    rw[ayE h0,hz,Sp o (fun x hx=>by have:((k+1:Nat):Int)≤oK x:=Sn f m (k+1) x hx;omega),e]
  ·have hu:IC o f (k:Int)=f (k:Int):=by unfold IC;rw[ayE e]
   have ih:=Eh o hf hq m (k+1) (by omega) (by omega)
   rw[iN,iN,hu]
   by_cases h0:0<(f (k:Int)).1+(f (k:Int)).2
   ·rw[ayF h0,ayF h0,oa,ayF (show oK (nz (k:Int) (f (k:Int)))<oI o from by show(k:Int)<oI o;omega),ih]
   ·rw[ayE h0,ayE h0,ih]
theorem ID{l:aU}(h:C5 l){o:cr}(ho:fj o):wy o (pt l o.2.1)=pt (l++[o]) o.2.1:=by
 unfold fj at ho
 unfold pt
 rw[Eh o (fun k=>by have:=zS h o.2.1 k;unfold zo at this;omega) ho.2.2.2.2.1.1 6 0 ho.2.2.1.1 (Int.lt_of_lt_of_le ho.2.2.1.2 (by decide))]
 refine xv 6 0 fun j _=> ?_
 unfold IC FT
 rw[IA]
 by_cases e:oI o=(j:Int)
 ·rw[ayF e.symm];exact(ayF ⟨rfl,e⟩).symm
 ·rw[ayE (fun h=>e h.symm)];exact(ayE fun h=>e h.2).symm
def cutAt(a:Int):aj→Nat
 |[]=>0
 |x::t=>if oK x<a then cutAt a t+1 else 0
theorem lB(a:Int)(x:bY)(t:aj):cutAt a (x::t)=if oK x<a then cutAt a t+1 else 0:=rfl
theorem BG(a:Int): ∀l:aj,cutAt a l≤l.length
 |[]=>ayJ _
 |x::t=>by
  rw[lB,ayI]
  have:=BG a t
  split<;>omega
def atO(o:cr)(x:bY):bY:=nz (oK x) (mw o (x.2.1,x.2.2.1))
theorem xw(o:cr): ∀l:aj,(cutAt (oI o) l=l.length∨ ¬oK (l.getD (cutAt (oI o) l) aM)=oI o)→wy o l=l.take (cutAt (oI o) l)++nz (oI o) (mw o (0,0))::l.drop (cutAt (oI o) l)
 |[],_=>rfl
 |x::t,h=>by
  rw[lB]at h ⊢
  rw[oa]
  by_cases h1:oK x<oI o
  ·rw[ayF h1]at h ⊢
   rw[ayF h1,xw o t (by
    rw[ayI,aA8]at h
    rcases h with h|h
    ·exact .inl (by omega)
    ·exact .inr h)];rfl
  ·rw[ayE h1]at h ⊢
   have h2: ¬oK x=oI o:=by
    rcases h with h|h
    ·rw[ayI]at h;omega
    ·exact h
   rw[ayE h1,ayE h2];rfl
theorem Ei(o:cr): ∀l:aj,cutAt (oI o) l<l.length→oK (l.getD (cutAt (oI o) l) aM)=oI o→wy o l=l.set (cutAt (oI o) l) (atO o (l.getD (cutAt (oI o) l) aM))
 |[],h,_=>by exact absurd h (aBN 0)
 |x::t,h,h'=>by
  rw[lB]at h h'
  rw[oa,lB]
  by_cases h1:oK x<oI o
  ·rw[ayF h1]at h h'
   rw[ayF h1,ayF h1]
   rw[ayI]at h
   rw[aA8]at h'
   rw[aA8,Ei o t (by omega) h'];rfl
  ·rw[ayE h1]at h'
   rw[ayE h1,ayE h1,ayF (show oK x=oI o from h')];rfl
end VM
end
section
namespace VM
open Go VM.F
theorem Sr{x:cr}{z:Int×Int}{n:Nat}(hn:n≤1000)(hq:1≤x.2.2.2.2.1∧x.2.2.2.2.1≤1000000000)(hz:zo z n)(k:Int):
  (x.2.2.2.1=1→((k,(W .i64 (z.1+x.2.2.2.2.1),(z.2,()))):bY)=nz k (mw x z))∧(¬x.2.2.2.1=1→((k,(z.1,(W .i64 (z.2+x.2.2.2.2.1),()))):bY)=nz k (mw x z)):=by
 have g: ∀q:Int,1≤q∧q≤1000000000→W .i64 (z.1+q)=z.1+q∧W .i64 (z.2+q)=z.2+q:=fun q hq=>by
  unfold zo at hz
  exact⟨ak (by omega) (by omega),ak (by omega) (by omega)⟩
 have gx:=g _ hq
 unfold mw nz
 exact⟨fun h=>by rw[gx.1,ayF h],fun h=>by rw[gx.2,ayE h]⟩
theorem yF(N:Nat){F:bY→Option aj}{G:Nat→bY→Int→Option aj}(l:aU)(a k:Int)(hq:C5 l)(hl:l.length≤1000)(hN:l.length<N)
  (hs: ∀n i z r,i<l.length→zo z i→G n (nz k (if(l.getD i dT).2.1=a∧(l.getD i dT).2.2.1=k then mw (l.getD i dT) z else z)) ((i+1:Nat):Int)=r→G (n+1) (nz k z) (i:Int)=r)
  (he: ∀n z,zo z l.length→G (n+1) (nz k z) (l.length:Int)=F (nz k z)):G N (nz k (0,0)) 0=F (nz k (FT l a k)):=by
 have:=kK l dT (fun n i (z:Int×Int)=>G n (nz k z) i) (fun t z=>F (nz k (VT a k t z))) (fun i z=>zo z i) (fun n i z hi hz hr=> ?_) (fun n z hz=>he n z hz) l.length N 0 (0,0) (by omega) hN (by omega) (by unfold zo;decide)
 ·exact this
 ·rw[wx]
  refine hs n i z _ hi hz (hr _ ?_)
  split
  ·exact NN (FV hq hi) hz
  ·exact zo.mono hz (by omega)
theorem sO{F:Nat→aj→Int→Option aj}(f:Int→Int×Int)
  (hs: ∀(n k:Nat) (out:aj) (r:Option aj),k<6→out.length≤k→F n (if 0<(f (k:Int)).1+(f (k:Int)).2 then out++[nz (k:Int) (f (k:Int))]else out) ((k+1:Nat):Int)=r→F (n+1) out (k:Int)=r)
  (he: ∀n out,F (n+1) out 6=some out): ∀(m n k:Nat) (out:aj),k+m=6→m<n→out.length≤k→F n out (k:Int)=some (out++IB f m k)
 |_,0,_,_,_,hn,_=>by omega
 |0,n+1,k,out,hk,_,_=>by
  have:k=6:=by omega
  subst this
  rw[show IB f 0 6=[]from rfl,ay2]
  exact he n out
 |m+1,n+1,k,out,hk,hn,ho=>by
  refine hs n k out _ (by omega) ho ?_
  rw[sO f hs he m n (k+1) _ (by omega) (by omega) (by
   split
   ·rw[ayH,ayA];omega
   ·omega),iN]
  split
  ·rw[ayP];rfl
  ·rfl
theorem Ss(N:Nat)(hN:200000≤N){l:aU}(hl:l.length≤100000)(a:Int):eB N l a=some (if eF l then pt l a else []):=by
 unfold eB eB.b
 rw[DH N hl hN,ayy]
 by_cases h:eF l=false
 ·rw[h];rfl
 rw[azD]at h
 rw[h,ayL,ayB,ayF rfl]
 obtain⟨hq,h32⟩:=BF h
 refine sO (F:=fun n out k=>eB.l5 N n l a out k) (FT l a) (fun n k out r hk ho hr=> ?_) (fun n out=> ?_) 6 N 0 [] (by omega) (by omega) (ayJ _)
 ·unfold eB.l5 eB.c7
  rw[aE (by omega),ayz]
  refine(yF N (G:=fun n' x i=>eB.l9 N (eB.l5 N n) n' l a out (k:Int) x (k:Int) l (l.length:Int) i) (F:=fun x=>cond (aG 0 (W .i64 (x.2.1+x.2.2.1))) (cond (small (out.length+[x].length)) (eB.l5 N n l a (out++[x]) (W .i64 ((k:Int)+1))) none) (eB.l5 N n l a out (W .i64 ((k:Int)+1)))) l a (k:Int) hq (by omega) (by omega) (fun n' i z r' hi hz dg=> ?_) (fun n' z hz=> ?_)).trans ?_
  ·unfold eB.l9 eB.tJ
   rw[aE (by omega),ayz,aF (by omega) (by omega),ayz,ayD,cond_not,au,cond_not,au,au,ak (x:=(i:Int)+1) (by omega) (by omega),ae i]
   have hw:=Sr (n:=i) (by omega) (FV hq hi) hz (k:Int)
   by_cases h1:(l.getD i dT).2.1=a
   ·rw[ayF h1]
    by_cases h2:(l.getD i dT).2.2.1=(k:Int)
    ·rw[ayF ⟨h1,h2⟩]at dg
     rw[ayF h2]
     by_cases h3:(l.getD i dT).2.2.2.1=1
     ·rw[ayF h3,←dg,←hw.1 h3];rfl
     ·rw[ayE h3,←dg,←hw.2 h3];rfl
    ·rw[ayE (fun h=>h2 h.2)]at dg
     rw[ayE h2];exact dg
   ·rw[ayE (fun h=>h1 h.1)]at dg
    rw[ayE h1];exact dg
  ·unfold eB.l9 eB.tJ
   rw[az (by omega),ayB]
  ·have hz:=zS hq a (k:Int)
   unfold zo at hz
   show cond (aG 0 (W .i64 ((FT l a (k:Int)).1+(FT l a (k:Int)).2))) _ _=r
   rw[ak (x:=(FT l a (k:Int)).1+(FT l a (k:Int)).2) (by omega) (by omega),aL,a8 (by rw[ayA];omega),ayz,ak (x:=(k:Int)+1) (by omega) (by omega),ae k,←hr]
   split<;>rfl
 ·unfold eB.l5 eB.c7
  rw[az (by omega),ayB]
theorem Ej(N:Nat)(hN:200000≤N){l:aU}(hq:C5 l)(hl:l.length≤1000)(a:Int):dp N l a=some (pt l a):=by
 unfold dp dp.b
 refine sO (F:=fun n out k=>dp.l3 N n l a out k) (FT l a) (fun n k out r hk ho hr=> ?_) (fun n out=> ?_) 6 N 0 [] (by omega) (by omega) (ayJ _)
 ·unfold dp.l3 dp.jU
  rw[aE (by omega),ayz]
  refine(yF N (G:=fun n' x i=>dp.l7 N (dp.l3 N n) n' l a out (k:Int) x i) (F:=fun x=>cond (aG 0 x.2.1) (cond (small (out.length+[x].length)) (dp.l3 N n l a (out++[x]) (W .i64 ((k:Int)+1))) none) (cond (aG 0 x.2.2.1) (cond (small (out.length+[x].length)) (dp.l3 N n l a (out++[x]) (W .i64 ((k:Int)+1))) none) (dp.l3 N n l a out (W .i64 ((k:Int)+1))))) l a (k:Int) hq (by omega) (by omega) (fun n' i z r' hi hz dg=> ?_) (fun n' z hz=> ?_)).trans ?_
  ·unfold dp.l7 dp.mE
   rw[aE (by omega),ayz,aF (by omega) (by omega),ayz,ayz,ayz,ayz,ayz,ayD,cond_not,au,cond_not,au,au,ak (x:=(i:Int)+1) (by omega) (by omega),ae i]
   have hw:=Sr (n:=i) (by omega) (FV hq hi) hz (k:Int)
   by_cases h1:(l.getD i dT).2.1=a
   ·rw[ayF h1]
    by_cases h2:(l.getD i dT).2.2.1=(k:Int)
    ·rw[ayF ⟨h1,h2⟩]at dg
     rw[ayF h2]
     by_cases h3:(l.getD i dT).2.2.2.1=1
     ·rw[ayF h3,←dg,←hw.1 h3];rfl
     ·rw[ayE h3,←dg,←hw.2 h3];rfl
    ·rw[ayE (fun h=>h2 h.2)]at dg
     rw[ayE h2];exact dg
   ·rw[ayE (fun h=>h1 h.1)]at dg
    rw[ayE h1];exact dg
  ·unfold dp.l7 dp.mE
   rw[az (by omega),ayB]
  ·have hz:=zS hq a (k:Int)
   unfold zo at hz
   show cond (aG 0 (FT l a (k:Int)).1) _ (cond (aG 0 (FT l a (k:Int)).2) _ _)=r
   rw[aL,aL,a8 (by rw[ayA];omega),ayz,ak (x:=(k:Int)+1) (by omega) (by omega),ae k,←hr]
   by_cases h0:0<(FT l a (k:Int)).1+(FT l a (k:Int)).2
   ·rw[ayF h0]
    by_cases h1:0<(FT l a (k:Int)).1
    ·rw[ayF h1]
    ·rw[ayE h1,ayF (by omega)]
   ·rw[ayE h0,ayE (by omega),ayE (by omega)]
 ·unfold dp.l3 dp.jU
  rw[az (by omega),ayB]
theorem Su(a:Int): ∀(l:aj) (i:Nat),i<cutAt a l→oK (l.getD i aM)<a
 |[],i,h=>absurd h (aB4 i)
 |x::t,i,h=>by
  rw[lB]at h
  by_cases h1:oK x<a
  ·rw[ayF h1]at h
   match i with
   |0=>exact h1
   |i+1=>exact Su a t i (by omega)
  ·rw[ayE h1]at h;exact absurd h (aB4 i)
theorem NO(a:Int): ∀l:aj,cutAt a l<l.length→ ¬oK (l.getD (cutAt a l) aM)<a
 |[],h=>absurd h (aB4 _)
 |x::t,h=>by
  rw[lB]at h ⊢
  by_cases h1:oK x<a
  ·rw[ayF h1]at h ⊢
   rw[ayI]at h
   exact NO a t (by omega)
  ·rw[ayE h1];exact h1
theorem Ek(N:Nat)(o:cr)(l:aj)(hl:l.length≤100000): ∀m n i,cutAt (oI o) l-i≤m→m<n→i≤cutAt (oI o) l→eP.l2 N n l o (i:Int)=eP.j4 N l o (cutAt (oI o) l:Int)
 |m,0,i,_,hn,_=>by omega
 |m,n+1,i,hm,hn,hi=>by
  have hle:=BG (oI o) l
  unfold eP.l2 eP.dA
  rw[aL,aL,ak (x:=(i:Int)+1) (by omega) (by omega),ae i,ayD]
  by_cases h:i<cutAt (oI o) l
  ·rw[ayF (by omega),aF (by omega) (by omega),ayz]
   exact(ayF (Su (oI o) l i h)).trans (Ek N o l hl (m-1) n (i+1) (by omega) (by omega) (by omega))
  ·have e:i=cutAt (oI o) l:=by omega
   rw[←e]
   by_cases h2:(i:Int)<(l.length:Int)
   ·rw[ayF h2,aF (by omega) (by omega),ayz]
    have:=NO (oI o) l (by omega)
    rw[←e]at this
    exact ayE this
   ·rw[ayE h2]
theorem Sv{α:Type}(a b:List α)(x y:α):(a++x::b).set a.length y=a++y::b:=by
 rw[aB7 _ _ (ayJ _),aA6];rfl
theorem Pu{α:Type}(a b:List α)(x d:α):(a++x::b).getD a.length d=x:=by
 rw[ayC,azu (ayJ _),aA6];rfl
def zT(z:Int×Int):Prop:=0≤z.1∧z.1≤33000000000∧0≤z.2∧z.2≤33000000000
theorem VU{o:cr}(hq:1≤oQ o∧oQ o≤1000000000){x:bY}(hz:zT (x.2.1,x.2.2.1)):
  (o.2.2.2.1=1→((x.1,(W .i64 (x.2.1+o.2.2.2.2.1),x.2.2)):bY)=atO o x)∧(¬o.2.2.2.1=1→((x.1,(x.2.1,(W .i64 (x.2.2.1+o.2.2.2.2.1),x.2.2.2))):bY)=atO o x):=by
 have g: ∀a b q:Int,zT (a,b)→1≤q∧q≤1000000000→W .i64 (a+q)=a+q∧W .i64 (b+q)=b+q:=fun a b q hz hq=>by
  unfold zT at hz
  dsimp only at hz
  exact⟨ak (by omega) (by omega),ak (by omega) (by omega)⟩
 have gx:=g _ _ _ hz hq
 unfold oQ at gx
 unfold atO mw nz oK
 exact⟨fun h=>by rw[gx.1,ayF h],fun h=>by rw[gx.2,ayE h]⟩
theorem NP(N:Nat){o:cr}(hq:1≤oQ o∧oQ o≤1000000000){l:aj}{i:Nat}(hi:i<l.length)(hl:l.length≤100000)(hz:zT ((l.getD i aM).2.1,(l.getD i aM).2.2.1)):eP.j6 N l o (i:Int)=some (l.set i (atO o (l.getD i aM))):=by
 unfold eP.j6 eP.KB
 have h:=VU hq hz
 rw[aF (by omega) (by omega),ayz,ayz,ayz,ayz,ayD,au]
 by_cases h3:o.2.2.2.1=1
 ·rw[ayF h3,←h.1 h3]
 ·rw[ayE h3,←h.2 h3]
theorem IE(N:Nat){o:cr}(hq:1≤oQ o∧oQ o≤1000000000){l:aj}{i:Nat}(hi:i≤l.length)(hl:l.length≤1000):
  ((gZ N l (i:Int) ([(o.2.2.1,bL)]:aj)).bind fun r4=>eP.j6 N r4 o (i:Int))=some (l.take i++nz (oI o) (mw o (0,0))::l.drop i):=by
 unfold gZ
 rw[ayF ⟨by omega,by omega,rfl,by unfold u7;omega⟩,ayy,ayD]
 have ht:(l.take i).length=i:=by rw[ayX];omega
 have hg: ∀d:bY,(l.take i++d::l.drop i).getD i aM=d:=fun d=>by
  have:=Pu (l.take i) (l.drop i) d aM
  rw[ht]at this;exact this
 have hs: ∀d y:bY,(l.take i++d::l.drop i).set i y=l.take i++y::l.drop i:=fun d y=>by
  have:=Sv (l.take i) (l.drop i) d y
  rw[ht]at this;exact this
 have hn:(l.take i++(((oI o,bL):bY)::l.drop i)).length=l.length+1:=by rw[ayH,ayI,ayX,aza];omega
 have:=NP N hq (l:=l.take i++(((oI o,bL):bY)::l.drop i)) (i:=i) (by omega) (by omega) (by rw[hg];exact⟨azC _,(by decide:(0:Int)≤33000000000),azC _,(by decide:(0:Int)≤33000000000)⟩)
 rw[hg,hs]at this
 exact this
theorem VV(N:Nat)(hN:200000≤N){o:cr}(hq:1≤oQ o∧oQ o≤1000000000){l:aj}(hl:l.length≤1000)(hz: ∀x∈l,zT (x.2.1,x.2.2.1)):eP N l o=some (wy o l):=by
 unfold eP eP.b
 have hle:=BG (oI o) l
 refine(Ek N o l (by omega) (cutAt (oI o) l) N 0 (by omega) (by omega) (by omega)).trans ?_
 unfold eP.j4 eP.j4b
 rw[au,cond_not,au,ayD]
 by_cases h:cutAt (oI o) l=l.length
 ·rw[ayF (by omega),IE N hq hle hl,xw o l (.inl h)]
 ·rw[ayE (by omega),aF (by omega) (by omega),ayz]
  by_cases h2:oK (l.getD (cutAt (oI o) l) aM)=oI o
  ·rw[Ei o l (by omega) h2]
   refine(ayF h2).trans (NP N hq (by omega) (by omega) (hz _ ?_))
   rw[ayC,ayG (by omega)];exact ay5 _
  ·rw[xw o l (.inr h2)]
   exact(ayE h2).trans (IE N hq hle hl)
end VM
end
section
namespace VM
open Go VM.F
def zU(a b s n:Int)(i:Nat)(p:Int):Prop:=0≤a∧a<n∧0≤b∧b≤33000000000∧0≤s∧s≤33000000000∧(b=0→s≠0)∧(0<i→p<a)
instance(a b s n:Int)(i:Nat)(p:Int):Decidable (zU a b s n i p):=by unfold zU;infer_instance
def sP(c:aa)(l:aj)(i:Nat):Prop:=zU (l.getD i aM).1 (l.getD i aM).2.1 (l.getD i aM).2.2.1 c.1.length i (l.getD (i-1) aM).1
instance(c:aa)(l:aj):DecidablePred (sP c l):=fun i=>by unfold sP;infer_instance
def eO(c:aa)(l:aj):Bool:=decide (∀j,j<l.length→sP c l j)&&ec c
def BH(k:Int):av→Int→Int
 |[],z=>z
 |x::t,z=>BH k t (if x.1=k then x.2.1 else z)
theorem uV(k:Int)(x:Lk)(t:av)(z:Int):BH k (x::t) z=BH k t (if x.1=k then x.2.1 else z):=rfl
def sQ(k:Int):aj→Int×Int→Int×Int
 |[],z=>z
 |x::t,z=>sQ k t (if x.1=k then(x.2.1,x.2.2.1)else z)
theorem uW(k:Int)(x:bY)(t:aj)(z:Int×Int):sQ k (x::t) z=sQ k t (if x.1=k then(x.2.1,x.2.2.1)else z):=rfl
theorem IF(k:Int): ∀{l:av} {z:Int},(∀y∈l,aB y.2.1)→aB z→aB (BH k l z)
 |[],z,_,h=>h
 |x::t,z,hl,h=>by
  rw[uV]
  refine IF k (fun y hy=>hl y (ayK _ hy)) ?_
  split
  ·exact hl x (ayN ..)
  ·exact h
theorem IG(k:Int): ∀{l:aj} {z:Int×Int},(∀x∈l,zT (x.2.1,x.2.2.1))→zT z→zT (sQ k l z)
 |[],z,_,h=>h
 |x::t,z,hl,h=>by
  rw[uW]
  refine IG k (fun y hy=>hl y (ayK _ hy)) ?_
  split
  ·exact hl x (ayN ..)
  ·exact h
theorem FW{c:aa}{l:aj}(h:eO c l=true): ∀x∈l,zT (x.2.1,x.2.2.1):=fun x hx=>by
 unfold eO at h
 rw[ayQ]at h
 obtain⟨i,hi,e⟩:=azG hx
 have h1:=ayV h.1 i hi
 unfold sP at h1
 rw[ayC,ayG hi,az9,e]at h1
 unfold zU at h1
 exact⟨h1.2.2.1,h1.2.2.2.1,h1.2.2.2.2.1,h1.2.2.2.2.2.1⟩
def wz(q:Int)(z:Int×Int):Int:=if((q+z.1).natAbs:Int)<((q-z.2).natAbs:Int)then((q-z.2).natAbs:Int)else((q+z.1).natAbs:Int)
theorem Sw{q:Int}{z:Int×Int}(hq:aB q)(hz:zT z):0≤wz q z∧wz q z≤9223372069854775808:=by
 unfold wz zT aB at*
 split<;>omega
def wA(l:av)(o:aj)(k:Int):Int:=wz (BH k l 0) (sQ k o (0,0))
def m4(c:aa)(l:av)(o:aj)(k:Int):Int×Int:=
 if ko c l&&eO c o then(if 0≤k∧k<(c.1.length:Int)then(wA l o k,0)else(0,3))else(0,1)
theorem sR{c:aa}{l:av}{o:aj}(ho:eO c o=true)(jy: ∀y∈l,aB y.2.1)(k:Int):0≤wA l o k∧wA l o k≤9223372069854775808:=
 Sw (IF k jy (show aB 0 by unfold aB;omega)) (IG k (FW ho) (by unfold zT;decide))
def kB(c:aa)(i:Nat):Int:=(c.1.getD i aJ).2.2.1
theorem zV{c:aa}(h:ec c=true){i:Nat}(hi:i<c.1.length):0≤kB c i∧kB c i≤1000000000:=by
 unfold ec at h
 simp only[ayQ]at h
 have:=ayV h.2.1 i hi
 unfold mM o8 at this
 exact this.2.2.1
def kC(c:aa)(l:av)(o:aj):Nat→Int
 |0=>0
 |n+1=>kC c l o n+wA l o (n:Int)*kB c n
def rf(c:aa)(l:av)(o:aj):Nat→List Int
 |0=>[]
 |n+1=>rf c l o n++[wA l o (n:Int)*kB c n]
theorem BI(c:aa)(l:av)(o:aj): ∀n,(rf c l o n).sum=kC c l o n
 |0=>rfl
 |n+1=>by
  show(rf c l o n++[wA l o (n:Int)*kB c n]).sum=kC c l o n+wA l o (n:Int)*kB c n
  rw[aAs,BI c l o n,azd,aAe,aAF]
theorem uX(c:aa)(l:av)(o:aj): ∀n,(rf c l o n).length=n
 |0=>rfl
 |n+1=>by
  show(rf c l o n++[wA l o (n:Int)*kB c n]).length=n+1
  rw[ayH,uX c l o n];rfl
def fp(c:aa)(l:av)(o:aj):Int×Int:=
 if ko c l&&eO c o then(kC c l o c.1.length,0)else(0,1)
theorem zW{a b:Int}(ha:0≤a∧a≤9223372069854775808)(hb:0≤b∧b≤1000000000):0≤a*b∧a*b≤9223372069854775808000000000:=
 ⟨aAb ha.1 hb.1,aAc (Int.mul_le_mul ha.2 hb.2 hb.1 (by decide)) (by decide)⟩
theorem tt{c:aa}{l:av}{o:aj}(hp:ec c=true)(ho:eO c o=true)(jy: ∀y∈l,aB y.2.1): ∀n,n≤c.1.length→0≤kC c l o n∧kC c l o n≤9223372069854775808000000000*(n:Int)
 |0,_=>⟨azC _,azC _⟩
 |n+1,hn=>by
  have ih:=tt hp ho jy n (by omega)
  have h1:=zW (sR ho jy (n:Int)) (zV hp (i:=n) (by omega))
  show 0≤kC c l o n+wA l o (n:Int)*kB c n∧kC c l o n+wA l o (n:Int)*kB c n≤_
  omega
theorem fT{c:aa}{l:aj}(h:eO c l=true):ec c=true:=by
 unfold eO at h
 rw[ayQ]at h;exact h.2
theorem BJ{c:aa}(h:ec c=true):c.1.length≤6:=by
 unfold ec at h
 simp only[ayQ]at h
 exact(ayV h.1).2
theorem yG(c:aa){l:av}(o:aj)(jy: ∀y∈l,aB y.2.1):0≤(fp c l o).1∧(fp c l o).1≤60000000000000000000000000000:=by
 unfold fp
 by_cases h:(ko c l&&eO c o)=true
 ·rw[ayF h]
  rw[ayQ]at h
  have:=tt (fT h.2) h.2 jy c.1.length (ayJ _)
  have h6:=BJ (fT h.2)
  dsimp only
  omega
 ·rw[ayE h];decide
theorem El(c:aa){l:av}(o:aj)(jy: ∀y∈l,aB y.2.1)(k:Int):0≤(m4 c l o k).1∧(m4 c l o k).1≤9223372069854775808:=by
 unfold m4
 by_cases h:(ko c l&&eO c o)=true
 ·rw[ayF h]
  rw[ayQ]at h
  split
  ·exact sR h.2 jy k
  ·decide
 ·rw[ayE h];decide
theorem abn{P:Prop} [Decidable P]{a b s n p:Int}{r:Option Bool}(h:P↔0≤a∧a<n∧0≤b∧b≤33000000000∧0≤s∧s≤33000000000∧(b=0→s≠0)∧p<a):
  (if a<0 then some false else if n≤a then some false else if b<0 then some false else if 33000000000<b then some false else if s<0 then some false else if 33000000000<s then some false else
   if b=0 then(if s=0 then some false else if a≤p then some false else r)else if a≤p then some false else r)=if P then r else some false:=by
 by_cases hP:P
 ·have:=h.1 hP
  rw[ayF hP,ayE (by omega),ayE (by omega),ayE (by omega),ayE (by omega),ayE (by omega),ayE (by omega)]
  split
  ·rw[ayE (by omega),ayE (by omega)]
  ·rw[ayE (by omega)]
 ·rw[ayE hP]
  have h2:=fun h1 h2 h3 h4 h5 h6 h7 h8=>hP (h.2 ⟨h1,h2,h3,h4,h5,h6,h7,h8⟩)
  repeat' split
  all_goals first|rfl|(exfalso;exact h2 (by omega) (by omega) (by omega) (by omega) (by omega) (by omega) (by omega) (by omega))
theorem abo{P:Prop} [Decidable P]{a b s n:Int}{r:Option Bool}(h:P↔0≤a∧a<n∧0≤b∧b≤33000000000∧0≤s∧s≤33000000000∧(b=0→s≠0)):
  (if a<0 then some false else if n≤a then some false else if b<0 then some false else if 33000000000<b then some false else if s<0 then some false else if 33000000000<s then some false else
   if b=0 then(if s=0 then some false else r)else r)=if P then r else some false:=by
 by_cases hP:P
 ·have:=h.1 hP
  rw[ayF hP,ayE (by omega),ayE (by omega),ayE (by omega),ayE (by omega),ayE (by omega),ayE (by omega)]
  split
  ·rw[ayE (by omega)]
  ·rfl
 ·rw[ayE hP]
  have h2:=fun h1 h2 h3 h4 h5 h6 h7=>hP (h.2 ⟨h1,h2,h3,h4,h5,h6,h7⟩)
  repeat' split
  all_goals first|rfl|(exfalso;exact h2 (by omega) (by omega) (by omega) (by omega) (by omega) (by omega) (by omega))
theorem BK{c:aa}{l:aj}{i:Nat}(h:0<i):sP c l i↔0≤(l.getD i aM).1∧(l.getD i aM).1<(c.1.length:Int)∧0≤(l.getD i aM).2.1∧(l.getD i aM).2.1≤33000000000∧0≤(l.getD i aM).2.2.1∧(l.getD i aM).2.2.1≤33000000000∧((l.getD i aM).2.1=0→(l.getD i aM).2.2.1≠0)∧(l.getD (i-1) aM).1<(l.getD i aM).1:=
 ⟨fun⟨a,b,c,d,e,f,g,k⟩=>⟨a,b,c,d,e,f,g,k h⟩,fun⟨a,b,c,d,e,f,g,k⟩=>⟨a,b,c,d,e,f,g,fun _=>k⟩⟩
theorem yH{c:aa}{l:aj}{i:Nat}(h: ¬0<i):sP c l i↔0≤(l.getD i aM).1∧(l.getD i aM).1<(c.1.length:Int)∧0≤(l.getD i aM).2.1∧(l.getD i aM).2.1≤33000000000∧0≤(l.getD i aM).2.2.1∧(l.getD i aM).2.2.1≤33000000000∧((l.getD i aM).2.1=0→(l.getD i aM).2.2.1≠0):=
 ⟨fun⟨a,b,c,d,e,f,g,_⟩=>⟨a,b,c,d,e,f,g⟩,fun⟨a,b,c,d,e,f,g⟩=>⟨a,b,c,d,e,f,g,fun k=>absurd k h⟩⟩
theorem Em(N:Nat)(hN:200000≤N)(c:aa){l:aj}(hl:l.length≤100000):my N c l=some (eO c l):=by
 unfold my my.b
 refine eR (F:=fun n i=>my.l2 N n l c l (l.length:Int) i) (sP c l) (fun n i r hi hp hr=> ?_) (fun n=> ?_) N (by omega)
 ·unfold my.l2 my.dA
  rw[aE (by omega),ayz,aF (by omega) (by omega),ayz,ayD,ak (x:=(i:Int)+1) (by omega) (by omega),ae,hr]
  by_cases h0:0<i
  ·have e:W .i64 ((i:Int)-1)=((i-1:Nat):Int):=by rw[ak (by omega) (by omega)];omega
   dsimp only
   rw[aE (x:=0) (y:=(i:Int)) (by omega),e,ayD,aF (i:=((i-1:Nat):Int)) (by omega) (by omega)]
   simp only[aL,bm,au,ayz]
   have hg:=BK h0 (c:=c) (l:=l)
   exact abn hg
  ·rw[az (x:=0) (y:=(i:Int)) (by omega)]
   simp only[aL,bm,au,ayz,ayB]
   have hg:=yH h0 (c:=c) (l:=l)
   exact abo hg
 ·unfold my.l2 my.dA
  rw[az (by omega),ayB,zJ N (by omega),ayy]
theorem BL(N:Nat)(hN:200000≤N)(c:aa){l:aj}(hl:l.length≤100000):iO N c l=some (eO c l):=by
 unfold iO iO.b
 rw[lZ N (by omega),ayy]
 have hsc:=eR (F:=fun n i=>iO.l5 N n l c 33000000000 i) (e:=true) (sP c l) (fun n i r hi hp hr=> ?_) (fun n=> ?_) N (show l.length<N by omega)
 ·rw[kj hsc];unfold eO
  rw[azW,Bool.and_comm]
 ·unfold iO.l5 iO.c7
  rw[aE (by omega),ayz,aF (by omega) (by omega),ayz,ayD,ak (x:=(i:Int)+1) (by omega) (by omega),ae,hr]
  by_cases h0:0<i
  ·have e:W .i64 ((i:Int)-1)=((i-1:Nat):Int):=by rw[ak (by omega) (by omega)];omega
   dsimp only
   rw[aE (x:=0) (y:=(i:Int)) (by omega),e,ayD,aF (i:=((i-1:Nat):Int)) (by omega) (by omega)]
   simp only[aL,bm,au,ayz]
   have hg:=BK h0 (c:=c) (l:=l)
   exact abn hg
  ·rw[az (x:=0) (y:=(i:Int)) (by omega)]
   simp only[aL,bm,au,ayz,ayB]
   have hg:=yH h0 (c:=c) (l:=l)
   exact abo hg
 ·unfold iO.l5 iO.c7
  rw[az (by omega),ayB]
end VM
end
section
namespace VM
open Go VM.F
theorem VW(N:Nat){u v:Int}(hu:bB u)(hv:bB v)(hs:bB (u-v)):LX N (bl u) (bl v)=some (bl (u-v),true):=by
 unfold LX bl
 unfold bB at*
 dsimp only
 have hp:0≤u%18446744073709551616∧u%18446744073709551616<18446744073709551616:=by omega
 have hq:0≤v%18446744073709551616∧v%18446744073709551616<18446744073709551616:=by omega
 rw[ju,ju,iI N (by omega) (by omega) (by omega) (by omega) (by omega) (by omega),ayy]
 dsimp only
 have hb:(0:Int)≤(if u%18446744073709551616<v%18446744073709551616+0 then 1 else 0)∧(if u%18446744073709551616<v%18446744073709551616+0 then(1:Int)else 0)≤1:=by split<;>omega
 rw[iI N (by omega) (by omega) (by omega) (by omega) hb.1 hb.2,ayy]
 dsimp only
 have e3:W .i64 ((u/18446744073709551616%18446744073709551616-v/18446744073709551616%18446744073709551616-(if u%18446744073709551616<v%18446744073709551616+0 then 1 else 0))%18446744073709551616)=(u-v)/18446744073709551616:=by
  by_cases h0:u%18446744073709551616<v%18446744073709551616+0
  ·rw[ayF h0,dZ];split<;>omega
  ·rw[ayE h0,dZ];split<;>omega
 have e1:(u%18446744073709551616-v%18446744073709551616-0)%18446744073709551616=(u-v)%18446744073709551616:=by omega
 rw[e3,e1]
 have key: ∀A B C:Int,A=u/18446744073709551616→B=v/18446744073709551616→C=(u-v)/18446744073709551616→(A<0∧ ¬B<0→C<0)∧(¬A<0∧B<0→ ¬C<0):=fun A B C _ _ _=>by omega
 have k:=key _ _ _ rfl rfl rfl
 simp only[lX,pz]
 by_cases a:u/18446744073709551616<0<;>by_cases b:v/18446744073709551616<0
 ·rw[ayO a,ayO b];rfl
 ·have c:=k.1 ⟨a,b⟩
  rw[ayO a,ayR b,ayO c];rfl
 ·have c:=k.2 ⟨a,b⟩
  rw[ayR a,ayO b,ayR c];rfl
 ·rw[ayR a,ayR b];rfl
theorem Pv(N:Nat){v k:Int}(hv:0≤v∧v≤9223372069854775808)(hk:0≤k∧k≤1000000000):VX N (bl v) k=some (bl (v*k),true):=by
 unfold VX
 have hm:=zW hv hk
 have h0:v/18446744073709551616=0:=by omega
 have h1:v%18446744073709551616=v:=by omega
 rw[HR N (by omega) (by omega),ayy,Fg N (by omega) (by omega),ayy,show(v.natAbs:Int)=v by omega,show(k.natAbs:Int)=k by omega,h0,h1]
 dsimp only
 rw[AP N (by omega) (by omega) (by omega) (by omega),ayy,AP N (by omega) (by omega) (by omega) (by omega),ayy,aBy]
 dsimp only
 have e:bl v=((0:Int),(v,())):=by unfold bl;rw[h0,h1]
 generalize v*k=m at*
 rw[p4 N (by omega) (by omega) (by omega) (by omega),ayy,e]
 dsimp only
 have e1:(0%18446744073709551616+m/18446744073709551616+0)%18446744073709551616=m/18446744073709551616:=by omega
 have e2:(0/18446744073709551616:Int)+(0%18446744073709551616+m/18446744073709551616+0)/18446744073709551616=0:=by omega
 rw[e1,e2,bG (x:=0) (by omega) (by omega),b9,ayL,ayB,az (x:=0) (by omega),az (x:=k) (by omega),lX]
 show(mK N false _ _).bind _=_
 rw[uG N (by omega) (by omega) (by omega) (by omega),ayy,show m/18446744073709551616*18446744073709551616+m%18446744073709551616=m by omega]
theorem VY(N:Nat){q:Int}{z:Int×Int}(hq:aB q)(hz:zT z):((CV N q).bind fun r9=>(CV N z.1).bind fun gA=>(Ik N r9 gA).bind fun jV=>(CV N q).bind fun iX=>(CV N z.2).bind fun jE=>(LX N iX jE).bind fun mF=>(Iz N jV.1).bind fun ob=>(Iz N mF.1).bind fun ri=>(CY N ob.1 ri.1).bind fun rO=>cond (aG rO 0) (some (ri.1,(0:Int))) (some (ob.1,(0:Int))))=some (bl (wz q z),0):=by
 unfold aB zT at*
 have a1:bB q∧bB z.1∧bB z.2∧bB (q+z.1)∧bB (q-z.2):=by unfold bB;omega
 rw[mL N hq.1 hq.2,ayy,mL N (by omega) (by omega),ayy,FF N a1.1 a1.2.1 a1.2.2.2.1,ayy,ayy,mL N (by omega) (by omega),ayy,VW N a1.1 a1.2.2.1 a1.2.2.2.2,ayy,FO N a1.2.2.2.1 (by omega),ayy,FO N a1.2.2.2.2 (by omega),ayy,vW,ayy,aL]
 unfold wz
 have hs:lW (((q+z.1).natAbs:Int)-((q-z.2).natAbs:Int))<0↔((q+z.1).natAbs:Int)<((q-z.2).natAbs:Int):=by
  unfold lW;split<;>(try split)<;>omega
 by_cases h:((q+z.1).natAbs:Int)<((q-z.2).natAbs:Int)
 ·rw[ayF h,ayF (hs.2 h)]
 ·rw[ayE h,ayE (fun k=>h (hs.1 k))]
theorem Pw(N:Nat)(hN:200000≤N){o:aj}(ub:o.length≤100000)(ho: ∀x∈o,zT (x.2.1,x.2.2.1))(k:Int){q:Int}(hq:aB q):eU.mi N N k bL q 0 0 o (o.length:Int) 0=some (bl (wz q (sQ k o (0,0))),0):=by
 have:=kK o aM (fun n i (z:Int×Int)=>eU.mi N n k bL q z.1 z.2 o (o.length:Int) i) (fun t z=>some (bl (wz q (sQ k t z)),(0:Int))) (fun i z=>zT z) (fun n i z hi hz hr=> ?_) (fun n z hz=> ?_) o.length N 0 (0,0) (by omega) (by omega) (by omega) (by unfold zT;decide)
 ·exact this
 ·unfold eU.mi eU.kt
  rw[aE (by omega),ayz,aF (by omega) (by omega),ayz,ayD,ak (x:=(i:Int)+1) (by omega) (by omega),ae i,au,uW]
  by_cases h:(o.getD i aM).1=k
  ·rw[ayF h,ayF h]
   exact hr ((o.getD i aM).2.1,(o.getD i aM).2.2.1) (ho _ (by rw[ayC,ayG hi];exact ay5 hi))
  ·rw[ayE h,ayE h]
   exact hr z hz
 ·unfold eU.mi eU.kt
  rw[az (by omega),ayB]
  exact VY N hq hz
theorem Sx(N:Nat)(hN:200000≤N)(c:aa){l:av}(hl:l.length≤100000)(jy: ∀y∈l,aB y.2.1){o:aj}(ub:o.length≤100000)(k:Int):eU N c l o k=some (bl (m4 c l o k).1,(m4 c l o k).2):=by
 unfold eU eU.b m4
 rw[Nr N hN c hl,ayy,cond_not,Em N hN c ub,ayy,cond_not,aL,bm]
 cases h1:ko c l with
 |false=>rfl
 |true=>
  cases h2:eO c o with
  |false=>rfl
  |true=>
   rw[ayz,ayz,azW,ayF rfl]
   by_cases h3:0≤k∧k<(c.1.length:Int)
   ·rw[ayF h3,ayE (by omega),ayE (by omega)]
    have:=kK l bL (fun n i (q:Int)=>eU.l7 N n o k bL q 0 0 l (l.length:Int) i) (fun t q=>some (bl (wz (BH k t q) (sQ k o (0,0))),(0:Int))) (fun i q=>aB q) (fun n i q hi hq hr=> ?_) (fun n q hq=> ?_) l.length N 0 0 (by omega) (by omega) (by omega) (by unfold aB;omega)
    ·exact this
    ·unfold eU.l7 eU.mE
     rw[aE (by omega),ayz,aF (by omega) (by omega),ayz,ayD,ak (x:=(i:Int)+1) (by omega) (by omega),ae i,au,uV]
     by_cases h:(l.getD i bL).1=k
     ·rw[ayF h,ayF h]
      exact hr _ (jy _ (by rw[ayC,ayG hi];exact ay5 hi))
     ·rw[ayE h,ayE h]
      exact hr q hq
    ·unfold eU.l7 eU.mE
     rw[az (by omega),ayB]
     exact Pw N hN ub (FW h2) k hq
   ·rw[ayE h3]
    by_cases h4:k<0
    ·rw[ayF h4];rfl
    ·rw[ayE h4,ayF (by omega)];rfl
theorem Sy(N:Nat)(hN:4000000≤N){q:Int}{z:Int×Int}(hq:aB q)(hz:zT z):((uc N (br q) (br z.1)).bind fun iX=>(OQ N iX).bind fun jE=>(KC N (br q) (br z.2)).bind fun mF=>(OQ N mF).bind fun ob=>(DB N ob jE).bind fun ri=>cond (aG 0 ri) (some (ob,(0:Int))) (some (jE,(0:Int))))=some (br (wz q z),0):=by
 unfold aB zT at*
 have f: ∀x:Int,-170141183460469231731687303715884105728≤x→x<170141183460469231731687303715884105728→Fit x 900000:=fun x h1 h2=>ij ⟨h1,h2⟩
 rw[eM N hN (f _ (by omega) (by omega)) (f _ (by omega) (by omega)),ayy,vH N hN (f _ (by omega) (by omega)),ayy,o7 N hN (f _ (by omega) (by omega)) (f _ (by omega) (by omega)),ayy,vH N hN (f _ (by omega) (by omega)),ayy,sv N hN (f _ (by omega) (by omega)) (f _ (by omega) (by omega)),ayy,aL]
 unfold wz
 have hs:0<lW (((q-z.2).natAbs:Int)-((q+z.1).natAbs:Int))↔((q+z.1).natAbs:Int)<((q-z.2).natAbs:Int):=by
  unfold lW;split<;>(try split)<;>omega
 by_cases h:((q+z.1).natAbs:Int)<((q-z.2).natAbs:Int)
 ·rw[ayF h,ayF (hs.2 h)]
 ·rw[ayE h,ayE (fun k=>h (hs.1 k))]
theorem LZ(N:Nat)(hN:4000000≤N){o:aj}(ub:o.length≤100000)(ho: ∀x∈o,zT (x.2.1,x.2.2.1))(k:Int){q:Int}(hq:aB q):dM.kk N N o k (br 0) (br q) (br 0) (br 0) 0=some (br (wz q (sQ k o (0,0))),0):=by
 have:=kK o aM (fun n i (z:Int×Int)=>dM.kk N n o k (br 0) (br q) (br z.1) (br z.2) i) (fun t z=>some (br (wz q (sQ k t z)),(0:Int))) (fun i z=>zT z) (fun n i z hi hz hr=> ?_) (fun n z hz=> ?_) o.length N 0 (0,0) (by omega) (by omega) (by omega) (by unfold zT;decide)
 ·exact this
 ·unfold dM.kk dM.jh
  rw[aE (by omega),ayz,aF (by omega) (by omega),ayz,ayz,ayD,ak (x:=(i:Int)+1) (by omega) (by omega),ae i,au,uW]
  by_cases h:(o.getD i aM).1=k
  ·have hx:=ho (o.getD i aM) (by rw[ayC,ayG hi];exact ay5 hi)
   have dg:=hr ((o.getD i aM).2.1,(o.getD i aM).2.2.1) hx
   unfold zT at hx
   rw[ayF h,ayF h,cn N (by omega) (aAc (by decide) hx.1) (aAn hx.2.1 (by decide)),ayy,ayz,cn N (by omega) (aAc (by decide) hx.2.2.1) (aAn hx.2.2.2 (by decide)),ayy]
   exact dg
  ·rw[ayE h,ayE h]
   exact hr z hz
 ·unfold dM.kk dM.jh
  rw[az (by omega),ayB]
  exact Sy N hN hq hz
theorem NQ(N:Nat)(hN:4000000≤N)(c:aa){l:av}(hl:l.length≤100000)(jy: ∀y∈l,aB y.2.1){o:aj}(ub:o.length≤100000)(k:Int):dM N c l o k=some (br (m4 c l o k).1,(m4 c l o k).2):=by
 unfold dM dM.b m4
 rw[qb N (by omega) c hl,ayy,cond_not,BL N (by omega) c ub,ayy,cond_not,aL,bm,←ez]
 cases h1:ko c l with
 |false=>rfl
 |true=>
  cases h2:eO c o with
  |false=>rfl
  |true=>
   rw[ayz,ayz,azW,ayF rfl]
   by_cases h3:0≤k∧k<(c.1.length:Int)
   ·rw[ayF h3,ayE (by omega),ayE (by omega)]
    have:=kK l bL (fun n i (q:Int)=>dM.l7 N n l o k (br 0) (br q) (br 0) (br 0) i) (fun t q=>some (br (wz (BH k t q) (sQ k o (0,0))),(0:Int))) (fun i q=>aB q) (fun n i q hi hq hr=> ?_) (fun n q hq=> ?_) l.length N 0 0 (by omega) (by omega) (by omega) (by unfold aB;omega)
    ·exact this
    ·unfold dM.l7 dM.mE
     rw[aE (by omega),ayz,aF (by omega) (by omega),ayz,ayz,ayD,ak (x:=(i:Int)+1) (by omega) (by omega),ae i,au,uV]
     by_cases h:(l.getD i bL).1=k
     ·have hy:=jy (l.getD i bL) (by rw[ayC,ayG hi];exact ay5 hi)
      rw[ayF h,ayF h,cn N (by omega) hy.1 hy.2,ayy]
      exact hr _ hy
     ·rw[ayE h,ayE h]
      exact hr q hq
    ·unfold dM.l7 dM.mE
     rw[az (by omega),ayB]
     exact LZ N hN ub (FW h2) k hq
   ·rw[ayE h3]
    by_cases h4:k<0
    ·rw[ayF h4]
    ·rw[ayE h4,ayF (by omega)]
theorem En{c:aa}{l:av}{o:aj}(h1:ko c l=true)(h2:eO c o=true){k:Int}(hk:0≤k∧k<(c.1.length:Int)):(m4 c l o k).1=wA l o k:=by
 unfold m4
 rw[h1,h2,azW,ayF rfl,ayF hk]
theorem Sz(N:Nat)(hN:2000000≤N)(c:aa){l:av}(hl:l.length≤100000)(jy: ∀y∈l,aB y.2.1){o:aj}(ub:o.length≤100000):nq N c l o=some (bl (fp c l o).1,(fp c l o).2):=by
 unfold nq nq.b fp
 rw[Nr N (by omega) c hl,ayy,cond_not,Em N (by omega) c ub,ayy,cond_not]
 cases h1:ko c l with
 |false=>rfl
 |true=>
  cases h2:eO c o with
  |false=>rfl
  |true=>
   rw[ayz,ayz,azW,ayF rfl]
   have h6:=BJ (fT h2)
   have aiY: ∀i,i<c.1.length→0≤wA l o (i:Int)*kB c i∧wA l o (i:Int)*kB c i≤9223372069854775808000000000:=fun i hi=>zW (sR h2 jy (i:Int)) (zV (fT h2) hi)
   have hL: ∀n,n≤c.1.length→ ∀x∈rf c l o n,bB x:=by
    intro n
    induction n with
    |zero=>intro _ x hx;nomatch hx
    |succ n ih=>
     intro hn
     have:=aiY n (by omega)
     exact qX (ih (by omega)) (by unfold bB;omega)
   have hw:=tt (fT h2) h2 jy c.1.length (ayJ _)
   have key: ∀(m n i:Nat),c.1.length-i≤m→m<n→i≤c.1.length→nq.l5 N n l o c bL ((rf c l o i).map bl) c.1 (c.1.length:Int) (i:Int)=some (bl (kC c l o c.1.length),0):=by
    intro m n
    induction n generalizing m with
    |zero=>intro i _ hn;omega
    |succ n ih=>
     intro i hm hn hi
     unfold nq.l5 nq.c7
     by_cases h:i<c.1.length
     ·have hr:=zV (fT h2) h
      have dg:=hr
      unfold kB at dg
      have ht:=sR h2 jy (i:Int)
      rw[aE (by omega),ayz,aF (by omega) (by omega),ayz,Sx N (by omega) c hl jy ub,ayy,En h1 h2 ⟨by omega,by omega⟩,ayD,Pv N ht dg,ayy,a8 (by rw[ay1,uX,ayA];omega),ayz,ak (x:=(i:Int)+1) (by omega) (by omega),ae i]
      have:=ih (m-1) (i+1) (by omega) (by omega) (by omega)
      rw[show rf c l o (i+1)=rf c l o i++[wA l o (i:Int)*kB c i]from rfl,aze]at this
      exact this
     ·have e:i=c.1.length:=by omega
      subst e
      rw[az (by omega),ayB,zI N (hL _ hi) (by rw[uX];omega) (by omega),ayy,BI]
      unfold HT
      rw[ayF (by unfold bB;omega)]
   exact key c.1.length N 0 (by omega) (by omega) (by omega)
theorem Px(N:Nat)(hN:4000000≤N)(c:aa){l:av}(hl:l.length≤100000)(jy: ∀y∈l,aB y.2.1){o:aj}(ub:o.length≤100000):jm N c l o=some (br (fp c l o).1,(fp c l o).2):=by
 unfold jm jm.b fp
 rw[qb N (by omega) c hl,ayy,cond_not,BL N (by omega) c ub,ayy,cond_not,←ez]
 cases h1:ko c l with
 |false=>rfl
 |true=>
  cases h2:eO c o with
  |false=>rfl
  |true=>
   rw[ayz,ayz,azW,ayF rfl]
   have h6:=BJ (fT h2)
   have f: ∀x:Int,-170141183460469231731687303715884105728≤x→x<170141183460469231731687303715884105728→Fit x 900000:=fun x h1 h2=>ij ⟨h1,h2⟩
   have f2: ∀x:Int,0≤x→x≤9223372069854775808→Fit x 80000:=fun x h1 h2=>by
    refine Fit.mono (j:=3) ?_ (by omega)
    unfold Fit
    rw[show(4294967296:Nat)^3=79228162514264337593543950336 from rfl]
    omega
   have key: ∀(m n i:Nat),c.1.length-i≤m→m<n→i≤c.1.length→jm.l5 N n l o c (br 0) (br (kC c l o i)) (i:Int)=some (br (kC c l o c.1.length),0):=by
    intro m n
    induction n generalizing m with
    |zero=>intro i _ hn;omega
    |succ n ih=>
     intro i hm hn hi
     unfold jm.l5 jm.c7
     by_cases h:i<c.1.length
     ·have hr:=zV (fT h2) h
      have ht:=sR h2 jy (i:Int)
      have gY:=zW ht hr
      have hw:=tt (fT h2) h2 jy i (by omega)
      have T9:=f2 _ hr.1 (aAc hr.2 (by decide))
      have hWh:fQ N ((c.1.getD i aJ).2.2.1)=some (br (kB c i)):=cn N (by omega) (aAc (by decide) hr.1) (aAn hr.2 (by decide))
      rw[aE (by omega),ayz,NQ N (by omega) c hl jy ub,ayy,En h1 h2 ⟨by omega,by omega⟩,aF (by omega) (by omega),ayz,ayD,hWh,ayy,lY N (by omega) ((f2 _ ht.1 ht.2).mono (by omega)) (T9.mono (by omega)),ayy,eM N (by omega) (f _ (by omega) (by omega)) (f _ (by omega) (by omega)),ayy,ak (x:=(i:Int)+1) (by omega) (by omega),ae i]
      exact ih (m-1) (i+1) (by omega) (by omega) (by omega)
     ·have e:i=c.1.length:=by omega
      subst e
      rw[az (by omega),ayB]
   exact key c.1.length N 0 (by omega) (by omega) (by omega)
end VM
end
