/- A part of the proof of AwardPays of layer 25: what the functions compute, in plain words. -/
import Derived.Test.YtocmlaipoebfeaaGreatVm0
import GoSem.Claim
import Derived.Test.YtocmlaipoebfeaaGreatText
set_option linter.all false
section
namespace VM
open Go
theorem BI(x:Int):W .u64 x=x%18446744073709551616:=by rw[yu];simp[IntKind.wrap,IntKind.bits,IntKind.signed]
theorem dj{x:Int}(h0:0≤x)(h1:x<18446744073709551616):W .u64 x=x:=by rw[BI];omega
theorem ke(x:Int):W .i64 x=if 9223372036854775808≤x%18446744073709551616 then x%18446744073709551616-18446744073709551616 else x%18446744073709551616:=by
 rw[yu];simp[IntKind.wrap,IntKind.bits,IntKind.signed]
theorem ar{x:Int}(h0: -9223372036854775808≤x)(h1:x<9223372036854775808):W .i64 x=x:=by
 rw[ke];split<;>omega
theorem wf_u64{x:Int}:(Lit.int .u64 x).wf=true↔0≤x∧x≤18446744073709551615:=by simp[Lit.wf,IntKind.min,IntKind.max,IntKind.bits,IntKind.signed]
theorem aK{x y:Int}(h:x<y):aL x y=true:=by rw[td];exact at1 h
theorem aH{x y:Int}(h:y≤x):aL x y=false:=by rw[td];exact at6 (by omega)
theorem dK{x y:Int}(h:x≤y):bX x y=true:=by rw[iE];exact at1 h
theorem dL{x y:Int}(h:y<x):bX x y=false:=by rw[iE];exact at6 (by omega)
theorem cz{x y:Int}(h:x=y):aA x y=true:=by rw[fh];exact at1 h
theorem cS{x y:Int}(h:x≠y):aA x y=false:=by rw[fh];exact at6 h
theorem aP{i:Int}{n:Nat}(h0:0≤i)(h1:i<n):aM i n=true:=by rw[Ng];exact at1 ⟨h0,h1⟩
theorem bF{n:Nat}(h:n<68719476736):small n=true:=by rw[yv];exact at1 (by simpa [uh]using h)
theorem bM{l c:Int}(h0:0≤l)(h1:l≤c)(h2:c<68719476736):gm l c=true:=by rw[Bn];exact at1 (by simp only[uh];omega)
theorem cA{l h m n:Int}(h0:0≤l)(h1:l≤h)(h2:h≤m)(h3:m≤n):fM l h m n=true:=by rw[ui];exact at1 ⟨h0,h1,h2,h3⟩
theorem ae(n:Nat):(n:Int)+1=((n+1:Nat):Int):=rfl
theorem ob(x:Int)(h0:0≤x)(h1:x<18446744073709551616):(BitVec.ofInt 64 x).toNat=x.toNat:=by
 rw[BitVec.toNat_ofInt];congr 1;omega
theorem E4{x y:Int}(hx:0≤x)(RN:x<18446744073709551616)(hy:0≤y)(hy1:y<18446744073709551616):oY .and .u64 x y=((x.toNat&&& y.toNat:Nat):Int):=by
 rw[py]
 have h:((BitVec.ofInt 64 x&&& BitVec.ofInt 64 y).toNat)=x.toNat&&& y.toNat:=by rw[BitVec.toNat_and,ob x hx RN,ob y hy hy1]
 show IntKind.u64.wrap (((BitVec.ofInt 64 x&&& BitVec.ofInt 64 y).toNat:Nat):Int)=_
 rw[h,←yu]
 have:x.toNat&&& y.toNat≤x.toNat:=Nat.and_le_left
 exact dj (by omega) (by omega)
theorem J5{x y:Int}(hx:0≤x)(RN:x<18446744073709551616)(hy:0≤y)(hy1:y<18446744073709551616):oY .or .u64 x y=((x.toNat|||y.toNat:Nat):Int):=by
 rw[py]
 have h:((BitVec.ofInt 64 x|||BitVec.ofInt 64 y).toNat)=x.toNat|||y.toNat:=by rw[BitVec.toNat_or,ob x hx RN,ob y hy hy1]
 show IntKind.u64.wrap (((BitVec.ofInt 64 x|||BitVec.ofInt 64 y).toNat:Nat):Int)=_
 rw[h,←yu]
 have:x.toNat|||y.toNat<2^64:=Nat.or_lt_two_pow (by omega) (by omega)
 exact dj (by omega) (by omega)
theorem tC{x:Int}(h0:0≤x)(h1:x<18446744073709551616):oY .and .u64 x 4294967295=x%4294967296:=by
 rw[E4 h0 h1 (by omega) (by omega)]
 have:=awu x.toNat 32
 rw[show((4294967295:Int).toNat)=2^32-1 from rfl,this]
 omega
theorem J6{x y:Int}(h0:0≤y)(h1:y≤64):shr .u64 x y=x/2^y.toNat:=by
 rw[H5]
 have:min y.toNat IntKind.u64.bits=y.toNat:=by simp[IntKind.bits];omega
 rw[this,awA]
 exact_mod_cast auu _
theorem Oj(x:Int):shr .u64 x 32=x/4294967296:=by rw[J6 (by omega) (by omega)];rfl
theorem aj9(x:Int):shr .u64 x 1=x/2:=by rw[J6 (by omega) (by omega)];rfl
theorem pM{x:Int}(h0: -9223372036854775808≤x)(h1:x<9223372036854775808):shr .i64 x 63=if x<0 then-1 else 0:=by
 rw[H5]
 have:(2:Int)^(min (63:Int).toNat IntKind.i64.bits)=9223372036854775808:=by rfl
 rw[this,awA _ (by omega)]
 split<;>omega
theorem RO{x y:Int}(h0:0≤y)(h1:y≤64):shl .u64 x y=x*2^y.toNat:=by
 rw[Nh]
 have:min y.toNat IntKind.u64.bits=y.toNat:=by simp[IntKind.bits];omega
 rw[this]
theorem mul_lt{a b m n:Int}(ha:0≤a)(hb:0≤b)(ham:a≤m)(hbn:b≤n):0≤a*b∧a*b≤m*n:=
 ⟨awn ha hb,av0 (awt ham hb) (auW hbn (by omega))⟩
end VM
end
section
namespace VM
open Go VM.F
end VM
end
section
namespace VM
open Go VM.F
theorem E5(N:Nat){x y c:Int}(hx:0≤x)(hy:0≤y)(hc:0≤c)(Ey:c≤1):sU N x y c=some ((x+y+c)%18446744073709551616,(x+y+c)/18446744073709551616):=by
 unfold sU;rw[atK ⟨hx,hy,hc,Ey⟩]
end VM
end
section
namespace VM
open Go VM.F
structure rr(Y nJ y9 eb za q rh:Int):Prop where
 hY:Y=nJ*4294967296+y9
 y1:2147483648≤nJ
 y1':nJ<4294967296
 y0:0≤y9
 y0':y9<4294967296
 u1:0≤za
 u1':za<4294967296
 lt:eb<Y
 q0:0≤q
 eq:q*nJ+rh=eb
 r0:0≤rh
 q1:q≤4294967297
 ge:(eb*4294967296+za)/Y≤q
theorem rr.prod{Y nJ y9 eb za q rh:Int}(g:rr Y nJ y9 eb za q rh):q*Y=(eb-rh)*4294967296+q*y9∧0≤q*y9∧q*y9≤18446744073709551615:=by
 have h:=mul_lt (m:=4294967297) (n:=4294967295) g.q0 g.y0 g.q1 (by have:=g.y0';omega)
 refine⟨?_,h.1,by omega⟩
 rw[g.hY,avJ,←avB,show q*nJ=eb-rh from by have:=g.eq;omega]
theorem rr.pos{Y nJ y9 eb za q rh:Int}(g:rr Y nJ y9 eb za q rh):0<Y:=by have:=g.hY;have:=g.y1;have:=g.y0;omega
theorem rr.digit{Y nJ y9 eb za q rh:Int}(g:rr Y nJ y9 eb za q rh)(h:0≤eb):0≤(eb*4294967296+za)/Y∧(eb*4294967296+za)/Y<4294967296:=by
 have hp:=g.pos
 have:=g.u1;have:=g.u1';have:=g.lt
 refine⟨av9 (by omega) (by omega),?_⟩
 rw[avM hp];omega
theorem rr.next{Y nJ y9 eb za q rh:Int}(g:rr Y nJ y9 eb za q rh)(hu:0≤eb)(h:4294967296≤q∨4294967296*rh+za<q*y9):rr Y nJ y9 eb za (q-1) (rh+nJ)∧1≤q:=by
 have hp:=g.pos
 have h1:=g.prod.1
 have hd:=g.digit hu
 have dZ:(eb*4294967296+za)/Y<q:=by
  rcases h with h|h
  ·omega
  ·rw[avM hp];omega
 have:=g.q1;have:=g.r0;have:=g.y1
 exact⟨⟨g.hY,g.y1,g.y1',g.y0,g.y0',g.u1,g.u1',g.lt,by omega,by rw[Int.sub_mul,aw5];have:=g.eq;omega,by omega,by omega,by omega⟩,by omega⟩
theorem rr.first{Y nJ y9 eb za:Int}(hY:Y=nJ*4294967296+y9)(y1:2147483648≤nJ)(y1':nJ<4294967296)(y0:0≤y9)(y0':y9<4294967296)(u1:0≤za)(u1':za<4294967296)(hu:0≤eb)(lt:eb<Y):
  rr Y nJ y9 eb za (eb/nJ) (eb-eb/nJ*nJ)∧eb-eb/nJ*nJ<4294967296∧0≤eb/nJ*nJ∧eb/nJ*nJ≤eb:=by
 have h1:=aw2 eb nJ
 have h2:=awb eb (show 0<nJ by omega)
 have h3:=aw0 eb (show nJ≠0 by omega)
 have hq0:0≤eb/nJ:=av9 hu (by omega)
 rw[avs]at h1
 have hq1:eb/nJ≤4294967297:=by
  have:eb/nJ<4294967298:=by rw[avM (by omega)];omega
  omega
 have Rr:(eb*4294967296+za)/Y≤eb/nJ:=by
  have dZ:eb*4294967296+za<(eb/nJ+1)*Y:=by
   have e:eb+1≤(eb/nJ+1)*nJ:=by rw[awJ,aw5];omega
   have e2:(eb/nJ+1)*Y=(eb/nJ+1)*nJ*4294967296+(eb/nJ+1)*y9:=by rw[hY,avJ,avB]
   have e3:0≤(eb/nJ+1)*y9:=awn (by omega) y0
   omega
  have:(eb*4294967296+za)/Y<eb/nJ+1:=by rw[avM (by omega)];exact dZ
  omega
 exact⟨⟨hY,y1,y1',y0,y0',u1,u1',lt,hq0,by omega,by omega,hq1,Rr⟩,by omega,awn hq0 (by omega),by omega⟩
end VM
end
section
namespace VM
open Go VM.F
def bS:List Int→Int
 |[]=>0
 |d::r=>d+4294967296*bS r
def VD(l:List Int):Prop:= ∀d∈l,0≤d∧d<4294967296
def il(n:Nat):List Int:=if n=0 then []else((n%4294967296:Nat):Int)::il (n/4294967296)
termination_by n
decreasing_by omega
theorem gv:il 0=[]:=by rw[il];rfl
theorem si{n:Nat}(h:n≠0):il n=((n%4294967296:Nat):Int)::il (n/4294967296):=by rw[il];simp[h]
theorem VD.nil:VD []:=fun d h=>by cases h
theorem VD.cons{d:Int}{l:List Int}(h0:0≤d)(h1:d<4294967296)(h:VD l):VD (d::l):=fun x hx=>by
 rcases atZ.1 hx with rfl|hx
 ·exact⟨h0,h1⟩
 ·exact h x hx
theorem VD.tail{d:Int}{l:List Int}(h:VD (d::l)):VD l:=fun x hx=>h x (atM _ hx)
theorem VD.drop{l:List Int}(h:VD l)(n:Nat):VD (l.drop n):=fun x hx=>h x (avX hx)
theorem VD.take{l:List Int}(h:VD l)(n:Nat):VD (l.take n):=fun x hx=>h x (au0 hx)
theorem VD.getD{l:List Int}(h:VD l)(n:Nat):0≤l.getD n 0∧l.getD n 0<4294967296:=by
 rw[atD]
 cases hn:l[n]? with
 |none=>exact⟨au2 _,by decide⟩
 |some x=>exact h x (List.mem_of_getElem? hn)
theorem VD.set{l:List Int}(h:VD l)(n:Nat){x:Int}(h0:0≤x)(h1:x<4294967296):VD (l.set n x):=fun y hy=>by
 rcases avg hy with hy|rfl
 ·exact h y hy
 ·exact⟨h0,h1⟩
theorem VD.Xr(n:Nat):VD (List.replicate n 0):=fun x hx=>by rw[avC hx];exact⟨au2 _,by decide⟩
theorem gw: ∀{l:List Int},VD l→0≤bS l
 |[],_=>au2 _
 |d::r,h=>by
  have:=gw h.tail
  have:=(h d (atS ..)).1
  simp only[bS];omega
theorem eL(n:Nat):bS (il n)=n:=by
 induction n using Nat.strongRecOn with
 |_ n ih=>
  by_cases h:n=0
  ·subst h;rw[gv];rfl
  ·rw[si h,bS,ih _ (by omega)];omega
theorem gy(n:Nat):VD (il n):=by
 induction n using Nat.strongRecOn with
 |_ n ih=>
  by_cases h:n=0
  ·subst h;rw[gv];exact VD.nil
  ·rw[si h];exact VD.cons (by omega) (by omega) (ih _ (by omega))
theorem uP{n:Nat}:il n=[]↔n=0:=by
 constructor
 ·intro h
  by_cases hn:n=0
  ·exact hn
  ·rw[si hn]at h;cases h
 ·rintro rfl;exact gv
theorem sj(k:Nat): ∀n,n<4294967296^k→(il n).length≤k:=by
 induction k with
 |zero=>
  intro n h;have:n=0:=by simpa using h
  subst this;rw[gv];simp
 |succ k ih=>
  intro n h
  by_cases hn:n=0
  ·subst hn;rw[gv];simp
  ·rw[si hn,atN]
   have:=ih (n/4294967296) (by rw[aw3 (by omega)];rw[awT]at h;exact h)
   omega
theorem CW(k:Nat): ∀n,(il n).length≤k→n<4294967296^k:=by
 induction k with
 |zero=>
  intro n h
  have:il n=[]:=auQ (by omega)
  rw[uP]at this;subst this;decide
 |succ k ih=>
  intro n h
  by_cases hn:n=0
  ·subst hn;exact Nat.pow_pos (by decide)
  ·rw[si hn,atN]at h
   have:=ih (n/4294967296) (by omega)
   rw[aw3 (by omega)]at this
   rw[awT];exact this
def strip:List Int→List Int
 |[]=>[]
 |d::r=>if strip r=[]∧d=0 then []else d::strip r
theorem E6: ∀{l:List Int},VD l→strip l=il (bS l).toNat
 |[],_=>by rw[show(bS []).toNat=0 from rfl,gv];rfl
 |d::r,h=>by
  have ih:=E6 h.tail
  have h0:=gw h.tail
  obtain⟨h1,h2⟩:=h d (atS ..)
  simp only[strip,bS,ih,uP]
  split
  ·rename_i hc
   obtain⟨hc,rfl⟩:=hc
   have:bS r=0:=by omega
   rw[this];exact gv.symm
  ·rename_i hc
   have ib:(d+4294967296*bS r).toNat≠0:=fun he=>hc ⟨by omega,by omega⟩
   rw[si ib]
   congr 1
   ·omega
   ·congr 1;omega
theorem zb: ∀(l:List Int) (x:Int),strip (l++[x])=if x=0 then strip l else l++[x]
 |[],x=>by simp[strip]
 |d::r,x=>by
  simp only[au6,strip,zb r x]
  split
  ·rfl
  ·simp
theorem eV(l:List Int){k:Nat}(h:k<l.length):l.take (k+1)=l.take k++[l.getD k 0]:=by
 rw[awo h,atD,atI h];rfl
theorem BJ(N:Nat)(l:List Int)(hl:l.length<68719476736): ∀(k n:Nat),k≤l.length→k<n→kf.l2 N n l (k:Int)=some (strip (l.take k))
 |0,n+1,_,_=>by
  unfold kf.l2 kf.dP
  simp (disch:=omega) only[aK,aH,dK,dL,cz,cS,aP,bF,bM,cA,ar,dj,atC,atH,at3,auf,atB,atE,auk,ae,atJ,atG,atX,atT,atN,aua]
  simp[strip]
 |k+1,n+1,hk,hn=>by
  unfold kf.l2 kf.dP
  have e:((k+1:Nat):Int)-1=(k:Int):=by omega
  simp (disch:=omega) only[aK,aH,dK,dL,cz,cS,aP,bF,bM,cA,ar,dj,atC,atH,at3,auf,atB,atE,auk,ae,atJ,atG,atX,atT,atN,aua,e]
  have ih:=BJ N l hl k n (by omega) (by omega)
  rw[eV l (by omega),zb]
  by_cases h:l.getD k 0=0
  ·rw[cz h,atC,ih,atK h]
  ·rw[cS h,atH,atL h]
   simp only[auk,aui]
theorem CX(N:Nat){l:List Int}(h:VD l)(hN:l.length<N)(hl:l.length<68719476736):kf N l=some (il (bS l).toNat):=by
 unfold kf kf.b
 rw[BJ N l hl l.length N (atP _) hN,avv,E6 h]
def bH(v:Int):aq:=(decide (v<0),(il v.natAbs,()))
theorem oc(N:Nat)(neg:Bool){l:List Int}(h:VD l)(hN:l.length<N)(hl:l.length<68719476736):Ol N neg l=some (bH (if neg then-bS l else bS l)):=by
 unfold Ol
 rw[CX N h hN hl,atB]
 have h0:=gw h
 cases neg
 ·simp only[atH,bH,auA,avq]
  rw[at6 (by omega)]
  congr 4;omega
 ·simp only[atC,bH,av8]
  have e:(-bS l).natAbs=(bS l).toNat:=by omega
  rw[e]
  congr 2
  by_cases hz:bS l=0
  ·rw[hz,auk,gv,aH (by simp),at6 (by omega)]
  ·have:0<(il (bS l).toNat).length:=by
    apply au1.2
    intro hd;rw[uP]at hd;omega
   rw[aK (by omega),at1 (by omega)]
theorem size_eq(N:Nat)(hN:1000≤N){u:Int}(h0:0≤u)(h1:u<18446744073709551616):F67 N u=some (il u.toNat):=by
 unfold F67
 rw[tC h0 h1,Oj]
 have hv:VD [u%4294967296,u/4294967296]:=VD.cons (by omega) (by omega) (VD.cons (by omega) (by omega) VD.nil)
 simp (disch:=omega) only[aK,aH,dK,dL,cz,cS,aP,bF,bM,cA,ar,dj,atC,atH,at3,auf,atB,atE,auk,ae,atJ,atG,atX,atT,atN,aua,CX N hv (by simp;omega) (by simp)]
 congr 2
 simp only[bS];omega
theorem dd(N:Nat)(hN:1000≤N){x:Int}(h0: -9223372036854775808≤x)(h1:x<9223372036854775808):fu N x=some (bH x):=by
 unfold fu
 have hd: ∀n:Nat,n<18446744073709551616→(il n).length≤2:=fun n h=>sj 2 n (by simpa using h)
 by_cases h:x<0
 ·have e:W .u64 (0-W .u64 x)= -x:=by rw[BI,BI];omega
  simp only[aK h,atC,e,size_eq N hN (show 0≤ -x by omega) (by omega),atB]
  have:=hd (-x).toNat (by omega)
  rw[oc N true (gy _) (by omega) (by omega),eL,atK rfl,show-(((-x).toNat:Nat):Int)=x from by omega];rfl
 ·have e:W .u64 x=x:=dj (by omega) (by omega)
  simp only[aH (show 0≤x by omega),atH,e,size_eq N hN (show 0≤x by omega) (by omega),atB]
  have:=hd x.toNat (by omega)
  rw[oc N false (gy _) (by omega) (by omega),eL,atL awa,av3 (by omega)];rfl
theorem ru(N:Nat)(l:List Int)(i:Nat):RP N l (i:Int)=some (l.getD i 0):=by
 unfold RP
 by_cases h:i<l.length
 ·simp (disch:=omega) only[aK,aH,dK,dL,cz,cS,aP,bF,bM,cA,ar,dj,atC,atH,at3,auf,atB,atE,auk,ae,atJ,atG,atX,atT,atN,aua]
 ·simp (disch:=omega) only[aK,aH,dK,dL,cz,cS,aP,bF,bM,cA,ar,dj,atC,atH,at3,auf,atB,atE,auk,ae,atJ,atG,atX,atT,atN,aua]
  rw[atD,aul (by omega)];rfl
theorem gQ(l:List Int)(i:Nat):bS (l.drop i)=l.getD i 0+4294967296*bS (l.drop (i+1)):=by
 by_cases h:i<l.length
 ·rw[auS h,bS,atD,atI h];rfl
 ·rw[auw (by omega),auw (by omega),atD,aul (by omega)];rfl
theorem E7(N:Nat){a b:List Int}(ha:VD a)(hb:VD b)(tA:a.length≤1000000)(HM:b.length≤1000000): ∀(m n i:Nat) (out:List Int) (c:Int),a.length+b.length+2-i≤m→m<n→out.length=i→i≤a.length+b.length+1→0≤c→c≤1→(a.length≤i→b.length≤i→i=max a.length b.length∨c=0)→
  ∃r,qA.l4 N n a b out c (i:Int)=some (out++r)∧VD r∧bS r=bS (a.drop i)+bS (b.drop i)+c∧r.length≤m
 |m,0,i,out,c,_,hn,_,_,_,_,_=>by omega
 |m,n+1,i,out,c,hm,hn,ho,hi,MZ,Ey,hz=>by
  unfold qA.l4 qA.cY
  by_cases E8:a.length≤i∧b.length≤i∧c=0
  ·obtain⟨h1,h2,rfl⟩:=E8
   simp (disch:=omega) only[aK,aH,dK,dL,cz,cS,aP,bF,bM,cA,ar,dj,atC,atH,at3,auf,atB,atE,auk,ae,atJ,atG,atX,atT,atN,aua]
   exact⟨[],by simp,VD.nil,by rw[auw h1,auw h2];rfl,auu _⟩
  ·obtain⟨ga0,ga1⟩:=ha.getD i
   obtain⟨gb0,gb1⟩:=hb.getD i
   have step: ∃r,qA.j6 N (qA.l4 N n) a b out c (i:Int)=some (out++r)∧VD r∧bS r=bS (a.drop i)+bS (b.drop i)+c∧r.length≤m:=by
    unfold qA.j6 qA.M8
    have AP:i≤a.length+b.length:=by
     by_cases h1:a.length≤i∧b.length≤i
     ·rcases hz h1.1 h1.2 with h|h
      ·omega
      ·exact absurd ⟨h1.1,h1.2,h⟩ E8
     ·omega
    simp only[ru,atB]
    generalize hga:a.getD i 0=x at*
    generalize hgb:b.getD i 0=y at*
    rw[dj (x:=x+y) (by omega) (by omega),dj (x:=c+(x+y)) (by omega) (by omega),tC (by omega) (by omega),Oj]
    simp (disch:=omega) only[aK,aH,dK,dL,cz,cS,aP,bF,bM,cA,ar,dj,atC,atH,at3,auf,atB,atE,auk,ae,atJ,atG,atX,atT,atN,aua]
    obtain⟨r,hr,hv,hs,En⟩:=E7 N ha hb tA HM (m-1) n (i+1) (out++[(c+(x+y))%4294967296]) ((c+(x+y))/4294967296) (by omega) (by omega) (by simp[ho]) (by omega) (by omega) (by omega) (fun h1 h2=>by
     by_cases h3:a.length≤i∧b.length≤i
     ·right
      rw[←hga,←hgb,atD,aul h3.1,atD,aul h3.2]
      simp only[Option.getD_none];omega
     ·left;omega)
    refine⟨(c+(x+y))%4294967296::r,by rw[hr];simp,VD.cons (by omega) (by omega) hv,?_,by rw[atN];omega⟩
    rw[bS,hs,gQ a i,gQ b i,hga,hgb];omega
   by_cases h1:i<a.length
   ·simp (disch:=omega) only[aK,atC];exact step
   ·by_cases h2:i<b.length
    ·simp (disch:=omega) only[aK,aH,atC,atH];exact step
    ·have:0<c:=by omega
     simp (disch:=omega) only[aK,aH,atC,atH];exact step
theorem J7: ∀{l:List Int},VD l→bS l<4294967296^l.length
 |[],_=>by simp[bS]
 |d::r,h=>by
  have ih:=J7 h.tail
  obtain⟨h1,h2⟩:=h d (atS ..)
  rw[bS,atN,awU]
  generalize (4294967296:Int)^r.length=p at*
  omega
theorem E9(N:Nat)(hN:4000000≤N){a b:List Int}(ha:VD a)(hb:VD b)(tA:a.length≤1000000)(HM:b.length≤1000000): ∃r,qA N a b=some r∧VD r∧bS r=bS a+bS b∧r.length≤2000002:=by
 unfold qA qA.b
 obtain⟨r,hr,hv,hs,hl⟩:=E7 N ha hb tA HM (a.length+b.length+2) N 0 [] 0 (by omega) (by omega) rfl (by omega) (by omega) (by omega) (fun _ _=> .inr rfl)
 exact⟨r,hr,hv,by simpa using hs,by omega⟩
theorem zc(N:Nat){a b:List Int}(ha:VD a)(hb:VD b)(tA:a.length≤1000000): ∀(m n i:Nat) (out:List Int) (c:Int),a.length-i≤m→m<n→out.length=i→i≤a.length→0≤c→c≤1→0≤bS (a.drop i)-bS (b.drop i)-c→
  ∃r,ye.l4 N n a b out c (i:Int)=some (out++r)∧VD r∧bS r=bS (a.drop i)-bS (b.drop i)-c∧r.length≤m
 |m,0,i,out,c,_,hn,_,_,_,_,_=>by omega
 |m,n+1,i,out,c,hm,hn,ho,hi,MZ,Ey,hz=>by
  unfold ye.l4 ye.cY
  by_cases h1:i<a.length
  ·obtain⟨ga0,ga1⟩:=ha.getD i
   obtain⟨gb0,gb1⟩:=hb.getD i
   rw[gQ a i,gQ b i]at*
   simp only[ru,atB,atE]
   generalize hga:a.getD i 0=x at*
   generalize hgb:b.getD i 0=y at*
   rw[dj (x:=y+c) (by omega) (by omega),dj (x:=x+4294967296) (by omega) (by omega)]
   by_cases dZ:x<y+c
   ·rw[dj (x:=x+4294967296-(y+c)) (by omega) (by omega)]
    simp (disch:=omega) only[aK,aH,dK,dL,cz,cS,aP,bF,bM,cA,ar,dj,atC,atH,at3,auf,atB,atE,auk,ae,atJ,atG,atX,atT,atN,aua,hga,hgb]
    obtain⟨r,hr,hv,hs,En⟩:=zc N ha hb tA (m-1) n (i+1) (out++[x+4294967296-(y+c)]) 1 (by omega) (by omega) (by simp[ho]) (by omega) (by omega) (by omega) (by omega)
    refine⟨(x+4294967296-(y+c))::r,by rw[hr];simp,VD.cons (by omega) (by omega) hv,by rw[bS,hs];omega,by rw[atN];omega⟩
   ·rw[dj (x:=x-(y+c)) (by omega) (by omega)]
    simp (disch:=omega) only[aK,aH,dK,dL,cz,cS,aP,bF,bM,cA,ar,dj,atC,atH,at3,auf,atB,atE,auk,ae,atJ,atG,atX,atT,atN,aua,hga,hgb]
    obtain⟨r,hr,hv,hs,En⟩:=zc N ha hb tA (m-1) n (i+1) (out++[x-(y+c)]) 0 (by omega) (by omega) (by simp[ho]) (by omega) (by omega) (by omega) (by omega)
    refine⟨(x-(y+c))::r,by rw[hr];simp,VD.cons (by omega) (by omega) hv,by rw[bS,hs];omega,by rw[atN];omega⟩
  ·simp (disch:=omega) only[aK,aH,dK,dL,cz,cS,aP,bF,bM,cA,ar,dj,atC,atH,at3,auf,atB,atE,auk,ae,atJ,atG,atX,atT,atN,aua]
   have h0:=gw (hb.drop i)
   rw[auw (l:=a) (by omega)]at hz ⊢
   simp only[bS]at hz ⊢
   exact⟨[],by simp,VD.nil,by simp only[bS];omega,auu _⟩
theorem wT(N:Nat)(hN:4000000≤N){a b:List Int}(ha:VD a)(hb:VD b)(tA:a.length≤1000000)(h:bS b≤bS a): ∃r,ye N a b=some r∧VD r∧bS r=bS a-bS b∧r.length≤1000000:=by
 unfold ye ye.b
 obtain⟨r,hr,hv,hs,hl⟩:=zc N ha hb tA a.length N 0 [] 0 (by omega) (by omega) rfl (by omega) (by omega) (by omega) (by simp;omega)
 exact⟨r,hr,hv,by simpa using hs,by omega⟩
theorem mE: ∀(l:List Int) (x:Int),bS (l++[x])=bS l+4294967296^l.length*x
 |[],x=>by simp[bS]
 |d::r,x=>by
  rw[au6,bS,mE r x,bS,atN,awU,avs _ 4294967296,avB,avJ];omega
theorem Fa{a b:List Int}(ha:VD a)(hb:VD b){k:Nat}(h1:k<a.length)(h2:k<b.length)(dZ:a.getD k 0<b.getD k 0):bS (a.take (k+1))<bS (b.take (k+1)):=by
 rw[eV a h1,eV b h2,mE,mE]
 have l1:(a.take k).length=k:=by rw[at4];omega
 have l2:(b.take k).length=k:=by rw[at4];omega
 have v1:=J7 (ha.take k)
 have v2:=gw (hb.take k)
 rw[l1]at*
 rw[l2]
 generalize (4294967296:Int)^k=p at*
 have hp:0<p:=by have:=gw (ha.take k);omega
 have:=auW (show a.getD k 0+1≤b.getD k 0 by omega) (Int.le_of_lt hp)
 rw[avJ,Int.mul_one]at this
 omega
def sk(x:Int):Int:=if x<0 then-1 else if 0<x then 1 else 0
theorem Fb(N:Nat){a b:List Int}(ha:VD a)(hb:VD b)(hl:a.length=b.length)(tA:a.length≤1000000): ∀(k n:Nat),k≤a.length→k<n→xD.l6 N n a b ((k:Int)-1)=some (sk (bS (a.take k)-bS (b.take k)))
 |k,0,_,hn=>by omega
 |0,n+1,_,_=>by
  unfold xD.l6 xD.oX
  simp (disch:=omega) only[aK,aH,dK,dL,cz,cS,aP,bF,bM,cA,ar,dj,atC,atH,at3,auf,atB,atE,auk,ae,atJ,atG,atX,atT,atN,aua]
  simp[sk,bS]
 |k+1,n+1,hk,hn=>by
  unfold xD.l6 xD.oX
  have e:((k+1:Nat):Int)-1=(k:Int):=by omega
  rw[e]
  simp (disch:=omega) only[aK,aH,dK,dL,cz,cS,aP,bF,bM,cA,ar,dj,atC,atH,at3,auf,atB,atE,auk,ae,atJ,atG,atX,atT,atN,aua]
  by_cases h1:a.getD k 0<b.getD k 0
  ·rw[aK h1,atC]
   have:=Fa ha hb (k:=k) (by omega) (by omega) h1
   rw[sk,atK (by omega)]
  ·rw[aH (by omega),atH]
   by_cases h2:b.getD k 0<a.getD k 0
   ·rw[aK h2,atC]
    have:=Fa hb ha (k:=k) (by omega) (by omega) h2
    rw[sk,atL (by omega),atK (by omega)]
   ·rw[aH (by omega),atH,Fb N ha hb hl tA k n (by omega) (by omega)]
    congr 2
    rw[eV a (by omega),eV b (by omega),mE,mE,show a.getD k 0=b.getD k 0 from by omega,at4,at4,hl]
    omega
theorem Fc(N:Nat)(hN:4000000≤N)(m k:Nat)(hm:(il m).length≤1000000)(hk:(il k).length≤1000000):xD N (il m) (il k)=some (sk ((m:Int)-k)):=by
 unfold xD xD.b
 by_cases h:(il m).length=(il k).length
 ·simp (disch:=omega) only[aK,aH,dK,dL,cz,cS,aP,bF,bM,cA,ar,dj,atC,atH,at3,auf,atB,atE,auk,ae,atJ,atG,atX,atT,atN,aua]
  rw[Fb N (gy m) (gy k) h hm (il m).length N (atP _) (by omega),avv,h,avv,eL,eL]
 ·rw[cS (by omega),auf,atC]
  by_cases dZ:(il m).length<(il k).length
  ·rw[aK (by omega),atC]
   have h1:=CW ((il k).length-1) m (by omega)
   have h2: ¬(k<4294967296^((il k).length-1)):=fun h=>by have:=sj _ _ h;omega
   rw[sk,atK (by omega)]
  ·rw[aH (by omega),atH]
   have h1:=CW ((il m).length-1) k (by omega)
   have h2: ¬(m<4294967296^((il m).length-1)):=fun h=>by have:=sj _ _ h;omega
   rw[sk,atL (by omega),atK (by omega)]
end VM
end
section
namespace VM
open Go VM.F
def Fit(v:Int)(k:Nat):Prop:=v.natAbs<4294967296^k
theorem Fit.len{v:Int}{k:Nat}(h:Fit v k):(il v.natAbs).length≤k:=sj k _ h
theorem Fit.mono{v:Int}{j k:Nat}(h:Fit v j)(hjk:j≤k):Fit v k:=auU h (Nat.pow_le_pow_right (by decide) hjk)
theorem Fit.neg{v:Int}{k:Nat}(h:Fit v k):Fit (-v) k:=by unfold Fit at*;rwa [Int.natAbs_neg]
theorem Fit.i64{v:Int}(h0: -9223372036854775808≤v)(h1:v<9223372036854775808):Fit v 2:=by
 unfold Fit
 rw[show(4294967296:Nat)^2=18446744073709551616 from by decide];omega
theorem Fit.add{u v:Int}{k:Nat}(hu:Fit u k)(hv:Fit v k):Fit (u+v) (k+1):=by
 unfold Fit at*
 rw[awT]
 have:(u+v).natAbs≤u.natAbs+v.natAbs:=Int.natAbs_add_le u v
 generalize 4294967296^k=p at*
 omega
theorem Fit.mul{u v:Int}{j k:Nat}(hu:Fit u j)(hv:Fit v k):Fit (u*v) (j+k):=by
 unfold Fit at*
 rw[Int.natAbs_mul,Nat.pow_add]
 exact Nat.mul_lt_mul'' hu hv
theorem Fit.of_le{u v:Int}{k:Nat}(hv:Fit v k)(h:u.natAbs≤v.natAbs):Fit u k:=Nat.lt_of_le_of_lt h hv
theorem Fe(a b:Bool):qQ .bool a b=(a==b):=by simp[qQ]
theorem iz(N:Nat)(hN:4000000≤N){u v:Int}(hu:Fit u 900000)(hv:Fit v 900000):ub N (bH u) (bH v)=some (bH (u+v)):=by
 have lu:=hu.len
 have lv:=hv.len
 unfold ub
 simp only[bH,Fe]
 by_cases hs:decide (u<0)=decide (v<0)
 ·rw[hs,beq_self_eq_true,atC]
  obtain⟨r,hr,hvd,CL,hl⟩:=E9 N hN (gy u.natAbs) (gy v.natAbs) (by omega) (by omega)
  simp only[hr,atB,oc N _ hvd (by omega) (by omega),CL,eL]
  congr 1
  show bH _=bH _
  congr 1
  by_cases h:v<0
  ·have:u<0:=by simpa [h]using hs
   rw[atK (at1 h)];omega
  ·have: ¬u<0:=by simpa [h]using hs
   rw[atL (by simpa using h)];omega
 ·have hb:(decide (u<0)==decide (v<0))=false:=by simpa using hs
  rw[hb,atH,Fc N hN _ _ (by omega) (by omega),atB]
  by_cases hc:v.natAbs≤u.natAbs
  ·have h1:bX 0 (sk ((u.natAbs:Int)-v.natAbs))=true:=dK (by unfold sk;split<;>(try split)<;>omega)
   obtain⟨r,hr,hvd,CL,hl⟩:=wT N hN (gy u.natAbs) (gy v.natAbs) (by omega) (by rw[eL,eL];omega)
   simp only[h1,atC,hr,atB,oc N _ hvd (by omega) (by omega),CL,eL]
   congr 1
   show bH _=bH _
   congr 1
   by_cases h:u<0
   ·have: ¬v<0:=fun hv=>hs (by simp[h,hv])
    rw[atK (at1 h)];omega
   ·have:v<0:=awG fun hv=>hs (by simp[h,hv])
    rw[atL (by simpa using h)];omega
  ·have h1:bX 0 (sk ((u.natAbs:Int)-v.natAbs))=false:=dL (by unfold sk;rw[atK (by omega)];omega)
   obtain⟨r,hr,hvd,CL,hl⟩:=wT N hN (gy v.natAbs) (gy u.natAbs) (by omega) (by rw[eL,eL];omega)
   simp only[h1,atH,hr,atB,oc N _ hvd (by omega) (by omega),CL,eL]
   congr 1
   show bH _=bH _
   congr 1
   by_cases h:v<0
   ·have: ¬u<0:=fun hu=>hs (by simp[h,hu])
    rw[atK (at1 h)];omega
   ·have:u<0:=awG fun hu=>hs (by simp[h,hu])
    rw[atL (by simpa using h)];omega
theorem sl(N:Nat)(hN:4000000≤N){u:Int}(hu:Fit u 900000):M9 N (bH u)=some (bH (-u)):=by
 have lu:=hu.len
 unfold M9
 simp only[bH]
 simp only[oc N _ (gy u.natAbs) (by omega) (by omega),atB,eL]
 congr 1
 show bH _=bH _
 congr 1
 by_cases h:u<0
 ·rw[at1 h,at3,atL awa];omega
 ·rw[at6 h,auf,atK rfl];omega
theorem Om(N:Nat)(hN:4000000≤N){u:Int}(hu:Fit u 900000):On N (bH u)=some (bH u.natAbs):=by
 have lu:=hu.len
 unfold On
 simp only[bH]
 simp only[oc N _ (gy u.natAbs) (by omega) (by omega),atB,eL,auA,avq]
 rfl
theorem od(N:Nat)(hN:4000000≤N){u v:Int}(hu:Fit u 900000)(hv:Fit v 900000):HQ N (bH u) (bH v)=some (bH (u-v)):=by
 unfold HQ
 simp only[sl N hN hv,atB,iz N hN hu hv.neg,avN]
theorem pN(N:Nat)(u:Int):J8 N (bH u)=some (sk u):=by
 unfold J8
 simp only[bH]
 by_cases h:u=0
 ·subst h
  rw[show(0:Int).natAbs=0 from rfl,gv]
  simp (disch:=omega) only[aK,aH,dK,dL,cz,cS,aP,bF,bM,cA,ar,dj,atC,atH,at3,auf,atB,atE,auk,ae,atJ,atG,atX,atT,atN,aua]
  rfl
 ·have:0<(il u.natAbs).length:=by
   apply au1.2
   intro hd;rw[uP]at hd;omega
  rw[cS (by omega),atH]
  by_cases hn:u<0
  ·rw[at1 hn,atC,sk,atK hn]
  ·rw[at6 hn,atH,sk,atL hn,atK (by omega)]
theorem vP(N:Nat)(hN:4000000≤N){u v:Int}(hu:Fit u 900000)(hv:Fit v 900000):CY N (bH u) (bH v)=some (sk (u-v)):=by
 unfold CY
 simp only[od N hN hu hv,atB,pN]
theorem J9(l:List Int)(h: ∀x∈l,-9223372036854775808≤x∧x<9223372036854775808): -(9223372036854775808*l.length)≤l.sum∧l.sum≤9223372036854775808*l.length:=by
 induction l with
 |nil=>simp
 |cons x l ih=>
  have:=ih (fun y hy=>h y (atM _ hy))
  obtain⟨h1,h2⟩:=h x (atS ..)
  rw[aue,atN]
  omega
theorem CZ{v:Int}{n:Nat}(hn:n≤1000000)(h0: -(9223372036854775808*n)≤v)(h1:v≤9223372036854775808*n):Fit v 3:=by
 unfold Fit
 rw[show(4294967296:Nat)^3=79228162514264337593543950336 from by decide]
 omega
theorem pe{l:List Int}(h: ∀x∈l,-9223372036854775808≤x∧x<9223372036854775808)(i:Nat): -9223372036854775808≤l.getD i 0∧l.getD i 0<9223372036854775808:=by
 rw[atD]
 cases hn:l[i]? with
 |none=>exact⟨by decide,by decide⟩
 |some x=>exact h x (List.mem_of_getElem? hn)
theorem fU(l:List Int){i:Nat}(h:i<l.length):(l.take (i+1)).sum=(l.take i).sum+l.getD i 0:=by
 rw[eV l h];simp
theorem uQ(N:Nat)(hN:4000000≤N){l:List Int}(h: ∀x∈l,-9223372036854775808≤x∧x<9223372036854775808)(hl:l.length≤1000000): ∀(m n i:Nat) (z:aq),l.length-i≤m→m<n→i≤l.length→
  lJ.l3 N n l z (bH (l.take i).sum) (i:Int)=some (bH l.sum)
 |m,0,i,z,_,hn,_=>by omega
 |m,n+1,i,z,hm,hn,hi=>by
  unfold lJ.l3 lJ.ji
  by_cases h1:i<l.length
  ·obtain⟨g0,g1⟩:=pe h i
   have f1:=J9 (l.take i) (fun x hx=>h x (au0 hx))
   rw[at4,auL (by omega)]at f1
   have f2:Fit (l.take i).sum 900000:=(CZ (n:=i) (by omega) f1.1 f1.2).mono (by omega)
   have f3:Fit (l.getD i 0) 900000:=(Fit.i64 g0 g1).mono (by omega)
   simp (disch:=omega) only[aK,aH,dK,dL,cz,cS,aP,bF,bM,cA,ar,dj,atC,atH,at3,auf,atB,atE,auk,ae,atJ,atG,atX,atT,atN,aua,dd N (by omega) g0 g1,iz N hN f2 f3]
   rw[←fU l h1]
   exact uQ N hN h hl (m-1) n (i+1) z (by omega) (by omega) (by omega)
  ·simp (disch:=omega) only[aK,aH,dK,dL,cz,cS,aP,bF,bM,cA,ar,dj,atC,atH,at3,auf,atB,atE,auk,ae,atJ,atG,atX,atT,atN,aua]
   rw[aur (by omega)]
theorem kg:bH 0=(false,([],())):=by unfold bH;rw[show(0:Int).natAbs=0 from rfl,gv];rfl
theorem tD(N:Nat)(hN:4000000≤N){l:List Int}(h: ∀x∈l,-9223372036854775808≤x∧x<9223372036854775808)(hl:l.length≤1000000):lJ N l=some (bH l.sum):=by
 unfold lJ lJ.b
 have:=uQ N hN h hl l.length N 0 (false,([],())) (by omega) (by omega) (by omega)
 rw[auT,au9,kg]at this
 exact this
theorem Oo{a b:Int}(ha:0≤a)(ha1:a<4294967296)(hb:0≤b)(jS:b<4294967296):oY .or .u64 a (b*4294967296)=a+b*4294967296:=by
 rw[J5 ha (by omega) (by omega) (by omega)]
 have h:=aww (i:=32) (b:=a.toNat) (by omega) b.toNat
 have e:(b*4294967296).toNat=2^32*b.toNat:=by omega
 rw[e,Nat.or_comm,←h];omega
theorem LB{a b:Int}(ha:0≤a)(ha1:a<4294967296)(hb:0≤b)(jS:b<4294967296):oY .or .u64 (b*4294967296) a=a+b*4294967296:=by
 rw[J5 (by omega) (by omega) ha (by omega)]
 have h:=aww (i:=32) (b:=a.toNat) (by omega) b.toNat
 have e:(b*4294967296).toNat=2^32*b.toNat:=by omega
 rw[e,←h];omega
theorem Xs{x:Int}(h0:0≤x):shl .u64 x 32=x*4294967296:=by rw[RO (by omega) (by omega)];rfl
def A7(v:Int):Int×Bool:=if-9223372036854775808≤v∧v<9223372036854775808 then(v,true)else(0,false)
theorem RQ{n:Nat}(h:(il n).length≤2):(il n).getD 0 0+4294967296*(il n).getD 1 0=n:=by
 have h1:=gQ (il n) 0
 have h2:=gQ (il n) 1
 rw[aui,eL]at h1
 rw[auw (l:=il n) (i:=1+1) h]at h2
 simp only[bS,auP]at h1 h2
 omega
theorem ry(N:Nat)(v:Int):rz N (bH v)=some (A7 v):=by
 unfold rz
 simp only[bH]
 by_cases hl:2<(il v.natAbs).length
 ·rw[aK (by omega),atC,A7,atL]
  intro hh
  have:=sj 2 v.natAbs (by rw[show(4294967296:Nat)^2=18446744073709551616 from by decide];omega)
  omega
 ·have h2:=RQ (n:=v.natAbs) (by omega)
  obtain⟨a0,a1⟩:=(gy v.natAbs).getD 0
  obtain⟨b0,b1⟩:=(gy v.natAbs).getD 1
  have e0:=ru N (il v.natAbs) 0
  have e1:=ru N (il v.natAbs) 1
  simp only[Int.natCast_zero,Int.natCast_one]at e0 e1
  rw[aH (by omega),atH,e0,e1]
  generalize (il v.natAbs).getD 0 0=a at*
  generalize (il v.natAbs).getD 1 0=b at*
  simp only[atB]
  rw[aH (show(0:Int)≤32 by omega),atH,Xs b0,dj (x:=b*4294967296) (by omega) (by omega),Oo a0 a1 b0 b1]
  have ev:a+b*4294967296=v.natAbs:=by omega
  rw[ev]
  by_cases hn:v<0
  ·rw[at1 hn,atC]
   by_cases CV:9223372036854775808<(v.natAbs:Int)
   ·rw[aK CV,atC,A7,atL (by omega)]
   ·rw[aH (by omega),atH,A7,atK (by omega),BI,ke]
    congr 2
    split<;>omega
  ·rw[at6 hn,atH]
   by_cases CV:9223372036854775807<(v.natAbs:Int)
   ·rw[aK CV,atC,A7,atL (by omega)]
   ·rw[aH (by omega),atH,A7,atK (by omega),ar (by omega) (by omega)]
    congr 2;omega
end VM
end
section
namespace VM
open Go VM.F
theorem Ff: ∀(l:List Int) (k:Nat) (x:Int),k<l.length→bS (l.set k x)=bS l+4294967296^k*(x-l.getD k 0)
 |d::r,0,x,_=>by simp[bS];omega
 |d::r,k+1,x,h=>by
  have ih:=Ff r k x (by simpa using h)
  rw[List.set_cons_succ,bS,bS,ih,List.getD_cons_succ,awU,avs (4294967296^k) 4294967296,avB,avJ];omega
theorem getD_set_ne(l:List Int){j k:Nat}(x:Int)(h:j≠k):(l.set j x).getD k 0=l.getD k 0:=by
 simp[atD,List.getElem?_set_ne h]
theorem iX(l:List Int){k:Nat}(x:Int)(h:k<l.length):(l.set k x).getD k 0=x:=by
 simp[atD,List.getElem?_set,h]
theorem pO(l:List Int){k:Nat}(h:l.length≤k):l.getD k 0=0:=by
 rw[atD,aul h];rfl
theorem wU(N:Nat)(K:aq→aq→aq→List Int→Int→Option aq){a b:List Int}(na nb:Bool)(z:aq)(ha:VD a)(hb:VD b)(i:Nat)(hi:i<a.length)(tA:a.length≤100000)(HM:b.length≤100000):
  ∀(m n j:Nat) (out:List Int) (c:Int),b.length+1-j≤m→m<n→VD out→out.length=a.length+b.length+1→0≤c→c<4294967296→(j≤b.length→ ∀k,i+b.length≤k→out.getD k 0=0)→(b.length<j→c=0∧j=b.length+1∧ ∀k,i+b.length+1≤k→out.getD k 0=0)→
  ∃tE,gj.l7 N K n (na,(a,())) (nb,(b,())) z out (i:Int) c (j:Int)=K (na,(a,())) (nb,(b,())) z tE ((i+1:Nat):Int)∧VD tE∧tE.length=out.length∧
   bS tE=bS out+4294967296^i*(4294967296^j*(a.getD i 0*bS (b.drop j)+c))∧ ∀k,i+1+b.length≤k→tE.getD k 0=0
 |m,0,j,out,c,_,hn,_,_,_,_,_,_=>by omega
 |m,n+1,j,out,c,hm,hn,ho,DZ,MZ,Ey,hz,HN=>by
  unfold gj.l7 gj.oe
  by_cases E8:b.length≤j∧c=0
  ·obtain⟨h1,rfl⟩:=E8
   simp (disch:=omega) only[aK,aH,dK,dL,cz,cS,aP,bF,bM,cA,ar,dj,atC,atH,at3,auf,atB,atE,auk,ae,atJ,atG,atX,atT,atN,aua]
   refine⟨out,rfl,ho,rfl,by rw[auw h1];simp[bS],fun k hk=> ?_⟩
   by_cases hj:j≤b.length
   ·exact hz hj k (by omega)
   ·exact(HN (by omega)).2.2 k (by omega)
  ·have wC:j≤b.length:=by
    by_cases hj:j≤b.length
    ·exact hj
    ·exact absurd ⟨by omega,(HN (by omega)).1⟩ E8
   obtain⟨ga0,ga1⟩:=ha.getD i
   obtain⟨gb0,gb1⟩:=hb.getD j
   obtain⟨go0,go1⟩:=ho.getD (i+j)
   have step: ∃tE,gj.j9 N K (gj.l7 N K n) (na,(a,())) (nb,(b,())) z out (i:Int) c (j:Int)=K (na,(a,())) (nb,(b,())) z tE ((i+1:Nat):Int)∧VD tE∧tE.length=out.length∧
     bS tE=bS out+4294967296^i*(4294967296^j*(a.getD i 0*bS (b.drop j)+c))∧ ∀k,i+1+b.length≤k→tE.getD k 0=0:=by
    unfold gj.j9 gj.Is
    have eij:(i:Int)+(j:Int)=((i+j:Nat):Int):=rfl
    have hp:=mul_lt (m:=4294967295) (n:=4294967295) ga0 gb0 (by omega) (by omega)
    simp only[ru,atB,eij,atE]
    simp (disch:=omega) only[aK,aH,dK,dL,cz,cS,aP,bF,bM,cA,ar,dj,atC,atH,at3,auf,atB,atE,auk,ae,atJ,atG,atX,atT,atN,aua]
    generalize hx:out.getD (i+j) 0=x at*
    generalize ha':a.getD i 0=ai at*
    generalize dx:b.getD j 0=bj at*
    generalize hpe:ai*bj=p at*
    have hpz:b.length≤j→p=0∧x=0:=fun h=>by
     rw[pO b h]at dx
     refine⟨by rw[←hpe,←dx,Int.mul_zero],?_⟩
     rw[←hx];exact hz wC _ (by omega)
    rw[tC (by omega) (by omega),Oj]
    have akd:(out.set (i+j) ((c+(x+p))%4294967296)).length=a.length+b.length+1:=by rw[atX];exact DZ
    obtain⟨tE,h1,h2,h3,h4,h5⟩:=wU N K na nb z ha hb i hi tA HM (m-1) n (j+1) (out.set (i+j) ((c+(x+p))%4294967296)) ((c+(x+p))/4294967296) (by omega) (by omega) (ho.set _ (by omega) (by omega)) akd (by omega) (by omega)
     (fun h k hk=>by rw[getD_set_ne _ _ (by omega)];exact hz wC k hk)
     (fun h=>by
      obtain⟨hp0,RB⟩:=hpz (by omega)
      refine⟨by omega,by omega,fun k hk=> ?_⟩
      rw[getD_set_ne _ _ (by omega)];exact hz wC k (by omega))
    refine⟨tE,h1,h2,by rw[h3,atX],?_,h5⟩
    rw[h4,Ff _ _ _ (by omega),hx,ha',gQ b j,dx,avJ ai,hpe,Int.pow_add,awU]
    have e1:ai*(4294967296*bS (b.drop (j+1)))=4294967296*(ai*bS (b.drop (j+1))):=Int.mul_left_comm _ _ _
    rw[e1]
    generalize ai*bS (b.drop (j+1))=y
    generalize (4294967296:Int)^i=P
    generalize (4294967296:Int)^j=R
    rw[avB R,avB P,avu,←avJ,←avJ]
    congr 3
    omega
   by_cases h1:j<b.length
   ·simp (disch:=omega) only[aK,atC];exact step
   ·have:0<c:=by omega
    simp (disch:=omega) only[aK,aH,atC,atH];exact step
theorem wV(N:Nat)(hN:4000000≤N){a b:List Int}(na nb:Bool)(z:aq)(ha:VD a)(hb:VD b)(tA:a.length≤100000)(HM:b.length≤100000):
  ∀(m n i:Nat) (out:List Int),a.length-i≤m→m<n→i≤a.length→VD out→out.length=a.length+b.length+1→(∀k,i+b.length≤k→out.getD k 0=0)→bS out=bS (a.take i)*bS b→
  gj.l3 N n (na,(a,())) (nb,(b,())) z out (i:Int)=some (bH (if na=nb then bS a*bS b else-(bS a*bS b)))
 |m,0,i,out,_,hn,_,_,_,_,_=>by omega
 |m,n+1,i,out,hm,hn,hi,ho,DZ,hz,hv=>by
  unfold gj.l3 gj.ji
  by_cases h1:i<a.length
  ·simp only
   rw[aK (by omega),atC]
   obtain⟨tE,e1,e2,e3,e4,e5⟩:=wU N (gj.l3 N n) na nb z ha hb i h1 tA HM (b.length+1) N 0 out 0 (by omega) (by omega) ho DZ (by omega) (by omega) (fun _ k hk=>hz k hk) (fun h=>by omega)
   rw[show((0:Nat):Int)=0 from rfl]at e1
   rw[e1]
   refine wV N hN na nb z ha hb tA HM (m-1) n (i+1) tE (by omega) (by omega) (by omega) e2 (by rw[e3];exact DZ) (fun k hk=>e5 k (by omega)) ?_
   rw[e4,hv,eV a h1,mE,at4,auL (by omega),aui,Int.pow_zero,aw5,auK,awJ,avB]
  ·simp only
   rw[aH (by omega),atH]
   simp only[oc N _ ho (by omega) (by omega),atB]
   rw[hv,aur (by omega),Fe]
   congr 2
   cases na<;>cases nb<;>simp
theorem Fg(N:Nat)(hN:4000000≤N){u v:Int}(hu:Fit u 90000)(hv:Fit v 90000):gj N (bH u) (bH v)=some (bH (u*v)):=by
 have lu:=hu.len
 have lv:=hv.len
 unfold gj gj.b
 simp only[bH]
 simp (disch:=omega) only[aK,aH,dK,dL,cz,cS,aP,bF,bM,cA,ar,dj,atC,atH,at3,auf,atB,atE,auk,ae,atJ,atG,atX,atT,atN,aua]
 have e:(((il u.natAbs).length:Int)+((il v.natAbs).length:Int)+1).toNat=(il u.natAbs).length+(il v.natAbs).length+1:=by omega
 have:=wV N hN (decide (u<0)) (decide (v<0)) (false,([],())) (gy u.natAbs) (gy v.natAbs) (by omega) (by omega) (il u.natAbs).length N 0 (List.replicate ((il u.natAbs).length+(il v.natAbs).length+1) 0) (by omega) (by omega) (by omega) (VD.Xr _) (by simp)
  (fun k _=>by rw[atD,awf];split<;>rfl) (by
   have: ∀n,bS (List.replicate n 0)=0:=fun n=>by
    induction n with
    |zero=>rfl
    |succ n ih=>rw[av2,bS,ih];rfl
   rw[this];simp[bS])
 rw[eL,eL]at this
 have e2:(((il u.natAbs).length+(il v.natAbs).length:Nat):Int)+1=(il u.natAbs).length+(il v.natAbs).length+1:=by omega
 first
 |(rw[e];refine this.trans ?_)
 |(refine(this).trans ?_)
 show some (bH _)=some (bH _)
 congr 2
 have key:(u.natAbs:Int)*v.natAbs=if decide (u<0)=decide (v<0)then u*v else-(u*v):=by
  by_cases h1:u<0<;>by_cases h2:v<0
  ·rw[atK (by simp[h1,h2]),show(u.natAbs:Int)= -u from by omega,show(v.natAbs:Int)= -v from by omega,Int.neg_mul_neg]
  ·rw[atL (by simp[h1,h2]),show(u.natAbs:Int)= -u from by omega,show(v.natAbs:Int)=v from by omega,Int.neg_mul]
  ·rw[atL (by simp[h1,h2]),show(u.natAbs:Int)=u from by omega,show(v.natAbs:Int)= -v from by omega,Int.mul_neg]
  ·rw[atK (by simp[h1,h2]),show(u.natAbs:Int)=u from by omega,show(v.natAbs:Int)=v from by omega]
 rw[key]
 split<;>simp
end VM
end
section
namespace VM
open Go VM.F
theorem RS{x:Int}(h0:0≤x)(h1:x<18446744073709551616):oY .and .u64 x 1=x%2:=by
 rw[E4 h0 h1 (by omega) (by omega)]
 have:=awu x.toNat 1
 rw[show((1:Int).toNat)=2^1-1 from rfl,this]
 omega
theorem A8{l:List Int}{k:Nat}(x:Int)(h:k<l.length):bS ((l.set k x).drop k)=x+4294967296*bS (l.drop (k+1)):=by
 rw[gQ,iX l x h,List.drop_set_of_lt (by omega)]
theorem BK(N:Nat){d:List Int}(hd:VD d)(hl:d.length≤100000)(hN:4000000≤N): ∀(k n:Nat) (out:List Int) (c:Int),k≤d.length→k<n→VD out→out.length=d.length→c=bS (d.drop k)%2→bS (out.drop k)=bS (d.drop k)/2→
  lK.l4 N n d out c ((k:Int)-1)=some (il (bS d/2).toNat,bS d%2)
 |k,0,out,c,_,hn,_,_,_,_=>by omega
 |0,n+1,out,c,_,_,ho,DZ,hc,hv=>by
  unfold lK.l4 lK.cY
  simp (disch:=omega) only[aK,aH,dK,dL,cz,cS,aP,bF,bM,cA,ar,dj,atC,atH,at3,auf,atB,atE,auk,ae,atJ,atG,atX,atT,atN,aua,CX N ho (by omega) (by omega)]
  rw[aui,aui]at hv
  rw[aui]at hc
  rw[hv,hc]
 |k+1,n+1,out,c,hk,hn,ho,DZ,hc,hv=>by
  unfold lK.l4 lK.cY
  have e:((k+1:Nat):Int)-1=(k:Int):=by omega
  obtain⟨g0,g1⟩:=hd.getD k
  have hn0:=gw (hd.drop (k+1))
  have e1:=gQ d k
  simp only[e,atE]
  rw[Xs (by omega)]
  generalize hx:d.getD k 0=x at*
  rw[dj (x:=c*4294967296) (by omega) (by omega),LB g0 g1 (by omega) (by omega)]
  simp (disch:=omega) only[aK,aH,dK,dL,cz,cS,aP,bF,bM,cA,ar,dj,atC,atH,at3,auf,atB,atE,auk,ae,atJ,atG,atX,atT,atN,aua,aj9,RS]
  refine BK N hd hl hN k n (out.set k ((x+c*4294967296)/2)) ((x+c*4294967296)%2) (by omega) (by omega) (ho.set _ (by omega) (by omega)) (by rw[atX];exact DZ) (by rw[e1,hc];omega) ?_
  rw[A8 _ (by omega),hv,e1]
  omega
theorem RT(N:Nat)(hN:4000000≤N)(m:Nat)(h:(il m).length≤100000):lK N (il m)=some (il (m/2),((m%2:Nat):Int)):=by
 unfold lK lK.b
 simp (disch:=omega) only[aK,aH,dK,dL,cz,cS,aP,bF,bM,cA,ar,dj,atC,atH,at3,auf,atB,atE,auk,ae,atJ,atG,atX,atT,atN,aua]
 have:=BK N (gy m) h hN (il m).length N (List.replicate (il m).length 0) 0 (atP _) (by omega) (VD.Xr _) (by simp) (by rw[avI];rfl) (by rw[avI,auw (by simp)];rfl)
 rw[eL]at this
 rw[this]
 congr 2
def bin(n:Nat):List Int:=if n=0 then []else((n%2:Nat):Int)::bin (n/2)
termination_by n
decreasing_by omega
theorem yf{n:Nat}(h:n≠0):bin n=((n%2:Nat):Int)::bin (n/2):=by rw[bin];simp[h]
theorem rA:bin 0=[]:=by rw[bin];rfl
def uR:List Int→Int
 |[]=>0
 |d::r=>d+2*uR r
theorem RU(n:Nat):uR (bin n)=n:=by
 induction n using Nat.strongRecOn with
 |_ n ih=>
  by_cases h:n=0
  ·subst h;rw[rA];rfl
  ·rw[yf h,uR,ih _ (by omega)];omega
theorem RV(n:Nat): ∀d∈bin n,d=0∨d=1:=by
 induction n using Nat.strongRecOn with
 |_ n ih=>
  by_cases h:n=0
  ·subst h;rw[rA];intro d hd;cases hd
  ·rw[yf h];intro d hd
   rcases atZ.1 hd with rfl|hd
   ·omega
   ·exact ih _ (by omega) d hd
theorem RW(k:Nat): ∀n,n<2^k→(bin n).length≤k:=by
 induction k with
 |zero=>
  intro n h;have:n=0:=by simpa using h
  subst this;rw[rA];simp
 |succ k ih=>
  intro n h
  by_cases hn:n=0
  ·subst hn;rw[rA];simp
  ·rw[yf hn,atN]
   have:=ih (n/2) (by rw[awT]at h;omega)
   omega
theorem Oq{n k:Nat}(h:n<4294967296^k):(bin n).length≤32*k:=RW _ _ (auU h (by rw[Nat.pow_mul];exact atP _))
theorem BL(N:Nat)(hN:4000000≤N)(x2 x3 x4 x5:aq): ∀(m n:Nat) (t:Nat) (bits:List Int),(bin t).length≤m→m<n→(il t).length≤100000→bits.length+(bin t).length≤4000000→
  fc.l3 N n x2 x3 x4 x5 bits (il t)=fc.l9 N N x2 x3 x4 x5 (bits++bin t) (false,([],())) (false,([],())) (((bits++bin t).length:Int)-1)
 |m,0,t,bits,_,hn,_,_=>by omega
 |m,n+1,t,bits,hm,hn,hd,hb=>by
  unfold fc.l3 fc.ji
  by_cases ht:t=0
  ·subst ht
   rw[gv,rA]
   simp (disch:=omega) only[aK,aH,dK,dL,cz,cS,aP,bF,bM,cA,ar,dj,atC,atH,at3,auf,atB,atE,auk,ae,atJ,atG,atX,atT,atN,aua,auh]
  ·have Ii:0<(il t).length:=by
    apply au1.2
    intro h;rw[uP]at h;omega
   rw[yf ht]at hm hb ⊢
   rw[atN]at hm hb
   have hdl:(il (t/2)).length≤100000:=by
    have:=CW _ t hd
    exact sj _ _ (Nat.lt_of_le_of_lt (Nat.div_le_self _ _) this)
   simp (disch:=omega) only[aK,aH,dK,dL,cz,cS,aP,bF,bM,cA,ar,dj,atC,atH,at3,auf,atB,atE,auk,ae,atJ,atG,atX,atT,atN,aua,RT N hN t hd]
   rw[BL N hN x2 x3 x4 x5 (m-1) n (t/2) (bits++[((t%2:Nat):Int)]) (by omega) (by omega) hdl (by simp;omega)]
   simp
theorem LC(l:List Int){i:Nat}(h:i<l.length):uR (l.drop i)=l.getD i 0+2*uR (l.drop (i+1)):=by
 rw[auS h,uR,atD,atI h];rfl
theorem wW: ∀{l:List Int},(∀d∈l,d=0∨d=1)→0≤uR l
 |[],_=>au2 _
 |d::r,h=>by
  have h1:=wW (l:=r) fun x hx=>h x (atM _ hx)
  have:=h d (atS ..)
  simp only[uR];omega
theorem pP: ∀(l:List Int) (i:Nat),(∀d∈l,d=0∨d=1)→uR (l.drop i)≤uR l
 |l,0,_=>au2 _
 |[],i+1,_=>au2 _
 |d::r,i+1,h=>by
  have h1:=pP r i fun x hx=>h x (atM _ hx)
  have h2:=wW (l:=r) fun x hx=>h x (atM _ hx)
  have:=h d (atS ..)
  rw[List.drop_succ_cons,uR];omega
theorem pf(N:Nat)(hN:4000000≤N)(a d:Int)(hd:0<d)(QT:Fit a 80000)(LD:Fit d 80000)(x4 x5:aq){bits:List Int}(hb: ∀x∈bits,x=0∨x=1)(hbv:uR bits=a.natAbs)(tZ:bits.length≤4000000):
  ∀(k n:Nat) (q r:Int),k≤bits.length→k<n→0≤q→0≤r→r<d→uR (bits.drop k)=q*d+r→
  fc.l9 N n (bH a) (bH d) x4 x5 bits (bH q) (bH r) ((k:Int)-1)=some (bH (a/d),bH (a%d))
 |k,0,q,r,_,hn,_,_,_,_=>by omega
 |0,n+1,q,r,_,_,hq,hr,g4,hv=>by
  unfold fc.l9 fc.s0
  rw[aui,hbv]at hv
  have hqa:q≤a.natAbs:=by
   have:q*1≤q*d:=auW (by omega) hq
   omega
  have fq:Fit q 900000:=(QT.of_le (u:=q) (by omega)).mono (by omega)
  have fr:Fit r 900000:=(LD.of_le (u:=r) (by omega)).mono (by omega)
  have f1:Fit 1 900000:=(Fit.i64 (v:=1) (by omega) (by omega)).mono (by omega)
  have fq':Fit (-q) 900000:=fq.neg
  have fd:Fit d 900000:=LD.mono (by omega)
  rw[dL (by omega),atH]
  by_cases ha:a<0
  ·have Xg:(a.natAbs:Int)= -a:=by omega
   have e0:(bH a).1=true:=at1 ha
   simp only[e0,at3,atH,pN,atB]
   by_cases hr0:r=0
   ·subst hr0
    rw[cz (by unfold sk;simp),atC]
    simp only[sl N hN fq,atB]
    have e1:a=d*(-q):=by rw[Int.mul_neg,avs];omega
    have e2:a/d= -q:=by rw[e1,Int.mul_ediv_cancel_left _ (by omega)]
    have e3:a%d=0:=by rw[e1,Int.mul_emod_right]
    rw[e2,e3]
   ·rw[cS (by unfold sk;rw[atL (by omega),atK (by omega)];omega),atH]
    simp (disch:=omega) only[sl N hN fq,dd N (by omega) (show-9223372036854775808≤(1:Int)by omega) (by omega),atB,od N hN fq' f1,od N hN fd fr]
    have e1:a=(d-r)+d*(-q-1):=by rw[Int.mul_sub,Int.mul_neg,Int.mul_one,avs];omega
    have e2:a/d= -q-1:=by
     rw[e1,aw4 _ _ (by omega),awV (by omega) (by omega)];omega
    have e3:a%d=d-r:=by rw[e1,awB,Int.emod_eq_of_lt (by omega) (by omega)]
    rw[e2,e3]
  ·have Xg:(a.natAbs:Int)=a:=by omega
   have e0:(bH a).1=false:=at6 ha
   simp only[e0,auf,atC]
   have e1:a=r+d*q:=by rw[avs];omega
   have e2:a/d=q:=by rw[e1,aw4 _ _ (by omega),awV hr g4];omega
   have e3:a%d=r:=by rw[e1,awB,Int.emod_eq_of_lt hr g4]
   rw[e2,e3]
 |k+1,n+1,q,r,hk,hn,hq,hr,g4,hv=>by
  unfold fc.l9 fc.s0
  have e:((k+1:Nat):Int)-1=(k:Int):=by omega
  have hle:=pP bits k hb
  have ake:=pP bits (k+1) hb
  rw[hbv]at hle ake
  have hqa:q≤a.natAbs:=by
   have:q*1≤q*d:=auW (by omega) hq
   omega
  have fq:Fit q 80000:=QT.of_le (by omega)
  have fr:Fit r 80000:=LD.of_le (by omega)
  have fqq:=fq.add fq
  have frr:=fr.add fr
  have f1:Fit 1 80000:=(Fit.i64 (v:=1) (by omega) (by omega)).mono (by omega)
  have hvk:=LC bits (i:=k) (by omega)
  have xA:bits.getD k 0=0∨bits.getD k 0=1:=by
   rw[atD,atI (show k<bits.length by omega)]
   exact hb _ (aun _)
  rw[e,dK (by omega),atC]
  have e2q:(q+q)*d=2*(q*d):=by rw[←Int.two_mul,avB]
  have aeH:(q+q+1)*d=2*(q*d)+d:=by rw[awJ,e2q,aw5]
  simp (disch:=omega) only[aK,aH,dK,dL,cz,cS,aP,bF,bM,cA,ar,dj,atC,atH,at3,auf,atB,atE,auk,ae,atJ,atG,atX,atT,atN,aua,iz N hN (fq.mono (by omega)) (fq.mono (by omega)),iz N hN (fr.mono (by omega)) (fr.mono (by omega)),dd N (by omega) (show-9223372036854775808≤(1:Int)by omega) (by omega)]
  rcases xA with xA|xA
  ·rw[xA,cS (by omega),atH]
   simp only[vP N hN (frr.mono (by omega)) (LD.mono (by omega)),atB]
   by_cases Rr:d≤r+r
   ·rw[dK (by unfold sk;split<;>(try split)<;>omega),atC]
    simp only[od N hN (frr.mono (by omega)) (LD.mono (by omega)),iz N hN (fqq.mono (by omega)) (f1.mono (by omega)),atB]
    refine pf N hN a d hd QT LD x4 x5 hb hbv tZ k n _ _ (by omega) (by omega) (by omega) (by omega) (by omega) ?_
    rw[hvk,xA,hv,aeH];omega
   ·rw[dL (by unfold sk;rw[atK (by omega)];omega),atH]
    refine pf N hN a d hd QT LD x4 x5 hb hbv tZ k n _ _ (by omega) (by omega) (by omega) (by omega) (by omega) ?_
    rw[hvk,xA,hv,e2q];omega
  ·rw[xA,cz rfl,atC]
   have aeI:=frr.add (f1.mono (show 80000≤80001 by omega))
   simp only[iz N hN (frr.mono (by omega)) (f1.mono (by omega)),vP N hN (aeI.mono (by omega)) (LD.mono (by omega)),atB]
   by_cases Rr:d≤r+r+1
   ·rw[dK (by unfold sk;split<;>(try split)<;>omega),atC]
    simp only[od N hN (aeI.mono (by omega)) (LD.mono (by omega)),iz N hN (fqq.mono (by omega)) (f1.mono (by omega)),atB]
    refine pf N hN a d hd QT LD x4 x5 hb hbv tZ k n _ _ (by omega) (by omega) (by omega) (by omega) (by omega) ?_
    rw[hvk,xA,hv,aeH];omega
   ·rw[dL (by unfold sk;rw[atK (by omega)];omega),atH]
    refine pf N hN a d hd QT LD x4 x5 hb hbv tZ k n _ _ (by omega) (by omega) (by omega) (by omega) (by omega) ?_
    rw[hvk,xA,hv,e2q];omega
theorem Ka(N:Nat)(hN:5000000≤N){a d:Int}(hd:0<d)(QT:Fit a 80000)(LD:Fit d 80000):fc N (bH a) (bH d)=some (bH (a/d),bH (a%d)):=by
 unfold fc fc.b
 have tZ:(bin a.natAbs).length≤32*80000:=Oq QT
 have h1:=BL N (by omega) (bH a) (bH d) (false,([],())) (false,([],())) (bin a.natAbs).length N a.natAbs [] (atP _) (by omega) (aut QT.len (by omega)) (by simp;omega)
 rw[aug]at h1
 refine h1.trans ?_
 rw[←kg]
 exact pf N (by omega) a d hd QT LD _ _ (RV _) (RU _) (by omega) (bin a.natAbs).length N 0 0 (atP _) (by omega) (by omega) (by omega) hd (by rw[avI];simp[uR])
end VM
end
section
namespace VM
open Go VM.F
def dk(v:Int):de:=(v/18446744073709551616,(v%18446744073709551616,()))
theorem wmk{a b v:Int}(h1:a=v/18446744073709551616)(h2:b=v%18446744073709551616):((a,(b,())):de)=dk v:=by
 unfold dk;rw[h1,h2]
theorem aeJ{a b v:Int}{α:Type}{c:α}(h1:a=v/18446744073709551616)(h2:b=v%18446744073709551616):(some (((a,(b,())):de),c):Option (de×α))=some (dk v,c):=by
 rw[wmk h1 h2]
theorem RX(N:Nat){v:Int}(v0: -170141183460469231731687303715884105728≤v)(v1:v<170141183460469231731687303715884105728):It N (dk v)=some (A7 v):=by
 unfold It dk
 rw[aH (by omega),atH]
 dsimp only
 have hw0: -9223372036854775808≤W .i64 (v%18446744073709551616)∧W .i64 (v%18446744073709551616)<9223372036854775808:=by rw[ke];split<;>omega
 rw[pM hw0.1 hw0.2]
 have hwv:W .i64 (v%18446744073709551616)=if 9223372036854775808≤v%18446744073709551616 then v%18446744073709551616-18446744073709551616 else v%18446744073709551616:=by rw[ke];split<;>split<;>omega
 rw[hwv]
 unfold A7
 by_cases h: -9223372036854775808≤v∧v<9223372036854775808
 ·rw[atK h]
  by_cases hn:v<0
  ·rw[atK (show 9223372036854775808≤v%18446744073709551616 by omega),atK (by omega),cz (by omega),at3,atH]
   congr 2;omega
  ·rw[atL (show ¬9223372036854775808≤v%18446744073709551616 by omega),atL (by omega),cz (by omega),at3,atH]
   congr 2;omega
 ·rw[atL h]
  by_cases hm:9223372036854775808≤v%18446744073709551616
  ·rw[atK hm,atK (by omega),cS (by omega),auf,atC]
  ·rw[atL hm,atL (by omega),cS (by omega),auf,atC]
end VM
end
section
namespace VM
open Go
theorem cond_not{α:Type}(b:Bool)(x y:α):cond (!b) x y=cond b y x:=by cases b<;>rfl
theorem cg{α:Type}(a b:Int)(x y:α):cond (aL a b) x y=if a<b then x else y:=by
 by_cases h:a<b
 ·rw[aK h,atK h];rfl
 ·rw[aH (by omega),atL h];rfl
theorem bO{α:Type}(a b:Int)(x y:α):cond (bX a b) x y=if a≤b then x else y:=by
 by_cases h:a≤b
 ·rw[dK h,atK h];rfl
 ·rw[dL (by omega),atL h];rfl
theorem aI{α:Type}(a b:Int)(x y:α):cond (aA a b) x y=if a=b then x else y:=by
 by_cases h:a=b
 ·rw[cz h,atK h];rfl
 ·rw[cS h,atL h];rfl
theorem dy{α:Type}(p:Prop) [Decidable p](x y:α):cond (decide p) x y=if p then x else y:=by
 by_cases h:p
 ·rw[at1 h,atK h];rfl
 ·rw[at6 h,atL h];rfl
theorem drop_cons{α:Type}{l:List α}{i:Nat}(h:i<l.length)(d:α):l.drop i=l.getD i d::l.drop (i+1):=by
 rw[auS h,atD,atI h];rfl
theorem pQ{α σ β:Type}(l:List α)(d:α)(F:Nat→Int→σ→Option β)(g:List α→σ→Option β)(I:Nat→σ→Prop)
  (hs: ∀n i s,i<l.length→I i s→(∀s',I (i+1) s'→F n ((i+1:Nat):Int) s'=g (l.drop (i+1)) s')→F (n+1) (i:Int) s=g (l.getD i d::l.drop (i+1)) s)
  (he: ∀n s,I l.length s→F (n+1) (l.length:Int) s=g [] s): ∀m n i s,l.length-i≤m→m<n→i≤l.length→I i s→F n (i:Int) s=g (l.drop i) s
 |m,0,i,s,_,hn,_,_=>by omega
 |m,n+1,i,s,hm,hn,hi,hI=>by
  by_cases h:i<l.length
  ·rw[drop_cons h d]
   exact hs n i s h hI fun s' sX=>pQ l d F g I hs he (m-1) n (i+1) s' (by omega) (by omega) (by omega) sX
  ·have:i=l.length:=by omega
   subst this
   rw[avI];exact he n s hI
theorem s4{α β:Type}(l:List α)(d:α)(F:Nat→Int→Option β)(g:List α→Option β)
  (hs: ∀n i,i<l.length→F n ((i+1:Nat):Int)=g (l.drop (i+1))→F (n+1) (i:Int)=g (l.getD i d::l.drop (i+1)))
  (he: ∀n,F (n+1) (l.length:Int)=g []) (n:Nat) (hn:l.length<n):F n 0=g l:=by
 have:=pQ (σ:=Unit) l d (fun n i _=>F n i) (fun l _=>g l) (fun _ _=>True) (fun n i _ h _ hr=>hs n i h (hr () trivial)) (fun n _ _=>he n) l.length n 0 () (by omega) hn (by omega) trivial
 simpa using this
theorem scan{F:Nat→Int→Option Bool}{len:Nat}(P:Nat→Prop) [DecidablePred P]
  (hs: ∀n i r,i<len→(∀j,j<i→P j)→F n ((i+1:Nat):Int)=r→F (n+1) (i:Int)=if P i then r else some false) {e:Bool} (he: ∀n,F (n+1) (len:Int)=some e):
  ∀m n i,len-i≤m→m<n→i≤len→(∀j,j<i→P j)→F n (i:Int)=some (decide (∀j,j<len→i≤j→P j)&&e)
 |m,0,i,_,hn,_,_=>by omega
 |m,n+1,i,hm,hn,hi,hp=>by
  by_cases h:i<len
  ·rw[hs n i _ h hp rfl]
   by_cases hP:P i
   ·rw[atK hP,scan P hs he (m-1) n (i+1) (by omega) (by omega) (by omega) (fun j hj=>by
     by_cases tx:j=i
     ·subst tx;exact hP
     ·exact hp j (by omega))]
    congr 2
    rw[avj]
    refine⟨fun hj j h2 h1=> ?_,fun hj j h2 h1=>hj j h2 (by omega)⟩
    by_cases tx:j=i
    ·subst tx;exact hP
    ·exact hj j h2 (by omega)
   ·rw[atL hP,at6 (fun hj=>hP (hj i h (atP i)))];rfl
  ·have:i=len:=by omega
   subst this
   rw[he n,at1 (fun j h2 h1=>absurd h2 (by omega))];rfl
theorem eE{F:Nat→Int→Option Bool}{len:Nat}(P:Nat→Prop) [DecidablePred P]{e:Bool}
  (hs: ∀n i r,i<len→(∀j,j<i→P j)→F n ((i+1:Nat):Int)=r→F (n+1) (i:Int)=if P i then r else some false) (he: ∀n,F (n+1) (len:Int)=some e) (n:Nat) (hn:len<n):
  F n 0=some (decide (∀j,j<len→P j)&&e):=by
 have:=scan P hs he len n 0 (by omega) hn (by omega) (fun j hj=>absurd hj (by omega))
 rw[show((0:Nat):Int)=0 from rfl]at this
 rw[this]
 congr 2
 rw[avj]
 exact⟨fun h j hj=>h j hj (by omega),fun h j hj _=>h j hj⟩
end VM
end
section
namespace VM
open Go VM.F
def eM(x:Int):Prop:= -170141183460469231731687303715884105728≤x∧x<170141183460469231731687303715884105728
instance(x:Int):Decidable (eM x):=by unfold eM;infer_instance
theorem rB(N:Nat){x:Int}(h0: -9223372036854775808≤x)(h1:x<9223372036854775808):Ot N x=some (dk x):=by
 unfold Ot
 rw[aH (by omega),atH,pM h0 h1,BI]
 congr 1
 exact wmk (by split<;>omega) rfl
theorem RY{ws:List Int}(i:Nat):(ws.map dk).getD i bR=dk (ws.getD i 0):=by
 by_cases h:i<ws.length
 ·rw[atD,auY,atI h,atD,atI h];rfl
 ·rw[atD,aul (by rw[aud];omega),atD,aul (by omega)];rfl
theorem Zl{ws:List Int}(h: ∀x∈ws,eM x): -(170141183460469231731687303715884105728*(ws.length:Int))≤ws.sum∧ws.sum≤170141183460469231731687303715884105728*(ws.length:Int):=by
 induction ws with
 |nil=>simp
 |cons x ws ih=>
  have h0:=h x (atS ..)
  have ih:=ih (fun y hy=>h y (atM _ hy))
  unfold eM at h0
  rw[aue,atN];omega
theorem Ou{t w:Int}{lo hi top:Int}(hw:eM w)(xy:lo=t%18446744073709551616)(JR:hi=t/18446744073709551616%18446744073709551616)(akh:top=t/340282366920938463463374607431768211456):
  (lo+w%18446744073709551616+0)%18446744073709551616=(t+w)%18446744073709551616∧
  (hi+(w/18446744073709551616)%18446744073709551616+(lo+w%18446744073709551616+0)/18446744073709551616)%18446744073709551616=(t+w)/18446744073709551616%18446744073709551616∧
  top+(if w/18446744073709551616<0 then-1 else 0)+(hi+(w/18446744073709551616)%18446744073709551616+(lo+w%18446744073709551616+0)/18446744073709551616)/18446744073709551616=(t+w)/340282366920938463463374607431768211456:=by
 unfold eM at hw
 subst xy JR akh
 refine⟨by omega,by omega,?_⟩
 split<;>omega
def Iu(t:Int):de×Bool:=if eM t then(dk t,true)else(bR,false)
theorem W64(x:Int):W .u64 x=x%18446744073709551616:=BI x
theorem BM(N:Nat){ws:List Int}(h: ∀x∈ws,eM x)(hl:ws.length≤1000000): ∀(m n i:Nat) (t:Int),ws.length-i≤m→m<n→i≤ws.length→t=(ws.take i).sum→
  jA.l3 N n bR (t/340282366920938463463374607431768211456) (t/18446744073709551616%18446744073709551616) (t%18446744073709551616) (ws.map dk) (ws.length:Int) (i:Int)=some (Iu ws.sum)
 |m,0,i,t,_,hn,_,_=>by omega
 |m,n+1,i,t,hm,hn,hi,ht=>by
  unfold jA.l3 jA.ji
  have f1:=Zl (ws:=ws.take i) (fun x hx=>h x (au0 hx))
  rw[at4,auL (by omega),←ht]at f1
  by_cases h1:i<ws.length
  ·have hw:eM (ws.getD i 0):=by
    rw[atD,atI h1];exact h _ (aun h1)
   have hs:=fU ws h1
   rw[←ht]at hs
   have st:=Ou (t:=t) (w:=ws.getD i 0) hw rfl rfl rfl
   have uS:=BM N h hl (m-1) n (i+1) (t+ws.getD i 0) (by omega) (by omega) (by omega) hs.symm
   rw[aK (by omega),atC,aP (by omega) (by rw[aud];omega),atC,atE,RY]
   unfold dk
   dsimp only
   have hw':=hw
   unfold eM at hw'
   generalize ws.getD i 0=w at*
   have hq:0≤(t%18446744073709551616+w%18446744073709551616+0)/18446744073709551616∧(t%18446744073709551616+w%18446744073709551616+0)/18446744073709551616≤1:=by omega
   rw[E5 N (by omega) (by omega) (by omega) (by omega),atB,W64,E5 N (by omega) (by omega) hq.1 hq.2,atB,aH (x:=63) (by omega),atH,st.1,st.2.1]
   rw[pM (by omega) (by omega)]
   have hc:0≤(t/18446744073709551616%18446744073709551616+w/18446744073709551616%18446744073709551616+(t%18446744073709551616+w%18446744073709551616+0)/18446744073709551616)/18446744073709551616∧(t/18446744073709551616%18446744073709551616+w/18446744073709551616%18446744073709551616+(t%18446744073709551616+w%18446744073709551616+0)/18446744073709551616)/18446744073709551616≤1:=by omega
   have hif: -1≤(if w/18446744073709551616<0 then(-1:Int)else 0)∧(if w/18446744073709551616<0 then(-1:Int)else 0)≤0:=by split<;>omega
   rw[ar (x:=t/340282366920938463463374607431768211456+_) (by omega) (by omega),ar (x:=(_:Int)/18446744073709551616) (by omega) (by omega),st.2.2,ar (by omega) (by omega),ar (x:=(i:Int)+1) (by omega) (by omega)]
   exact uS
  ·have e:(ws.take i).sum=ws.sum:=by rw[aur (by omega)]
   rw[e]at ht
   rw[aH (by omega),atH,aH (x:=63) (by omega),atH,←ht]
   have hh: -9223372036854775808≤W .i64 (t/18446744073709551616%18446744073709551616)∧W .i64 (t/18446744073709551616%18446744073709551616)<9223372036854775808:=by rw[ke];split<;>omega
   have hwv:W .i64 (t/18446744073709551616%18446744073709551616)=if 9223372036854775808≤t/18446744073709551616%18446744073709551616 then t/18446744073709551616%18446744073709551616-18446744073709551616 else t/18446744073709551616%18446744073709551616:=by rw[ke];split<;>split<;>omega
   rw[pM hh.1 hh.2,hwv]
   unfold Iu
   by_cases hI:eM t
   ·rw[atK hI]
    unfold eM at hI
    rw[cz (by split<;>split<;>omega),at3,atH]
    exact aeJ (by split<;>omega) rfl
   ·rw[atL hI]
    unfold eM at hI
    rw[cS (by split<;>split<;>omega),auf,atC]
theorem C0(N:Nat){ws:List Int}(h: ∀x∈ws,eM x)(hl:ws.length≤1000000)(hN:1000000<N):jA N (ws.map dk)=some (Iu ws.sum):=by
 unfold jA jA.b
 rw[aud]
 exact BM N h hl ws.length N 0 0 (by omega) (by omega) (by omega) (by simp)
end VM
end
