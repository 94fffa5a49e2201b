/- A part of the proof of BookAtOnce of layer 18: what the functions compute, in plain words. -/
import Derived.Test.YthkjjlcblhbifaaGreatVm0
import GoSem.Claim
import Derived.Test.YthkjjlcblhbifaaGreatText
set_option linter.all false
section
namespace VM
open Go
variable(N:Nat)
theorem pQ(x:Int):W .u64 x=x%18446744073709551616:=by rw[Gj];simp[IntKind.wrap,IntKind.bits,IntKind.signed]
theorem eB{x:Int}(h0:0≤x)(h1:x<18446744073709551616):W .u64 x=x:=by rw[pQ];omega
theorem gF(x:Int):W .i64 x=if 9223372036854775808≤x%18446744073709551616 then x%18446744073709551616-18446744073709551616 else x%18446744073709551616:=by
 rw[Gj];simp[IntKind.wrap,IntKind.bits,IntKind.signed]
theorem aw{x:Int}(h0: -9223372036854775808≤x)(h1:x<9223372036854775808):W .i64 x=x:=by
 rw[gF];split<;>omega
theorem wf_u64{x:Int}:(Lit.int .u64 x).wf=true↔0≤x∧x≤18446744073709551615:=by simp[Lit.wf,IntKind.min,IntKind.max,IntKind.bits,IntKind.signed]
theorem aR{x y:Int}(h:x<y):aX x y=true:=by rw[qd];exact aU h
theorem aP{x y:Int}(h:y≤x):aX x y=false:=by rw[qd];exact bx ω
theorem fQ{x y:Int}(h:x≤y):du x y=true:=by rw[mZ];exact aU h
theorem fK{x y:Int}(h:y<x):du x y=false:=by rw[mZ];exact bx ω
theorem dV{x y:Int}(h:x=y):aN x y=true:=by rw[kj];exact aU h
theorem eU{x y:Int}(h:x≠y):aN x y=false:=by rw[kj];exact bx h
theorem aW{i:Int}{n:Nat}(h0:0≤i)(h1:i<n):bb i n=true:=by rw[Xx];exact aU ⟨h0,h1⟩
theorem bY{n:Nat}(h:n<68719476736):small n=true:=by rw[Gk];exact aU (by simpa [AN]using h)
theorem c7{l c:Int}(h0:0≤l)(h1:l≤c)(h2:c<68719476736):kU l c=true:=by rw[J1];exact aU (by simp only[AN];omega)
theorem dZ{l h m n:Int}(h0:0≤l)(h1:l≤h)(h2:h≤m)(h3:m≤n):ja l h m n=true:=by rw[rP];exact aU ⟨h0,h1,h2,h3⟩
theorem af(n:Nat):(n:Int)+1=((n+1:Nat):Int):=rfl
theorem tt(x:Int)(h0:0≤x)(h1:x<18446744073709551616):(BitVec.ofInt 64 x).toNat=x.toNat:=by
 rw[BitVec.toNat_ofInt];congr 1;omega
theorem OH{x y:Int}(hx:0≤x)(RD:x<18446744073709551616)(hy:0≤y)(hy1:y<18446744073709551616):rQ .and .u64 x y=((x.toNat&&& y.toNat:Nat):Int):=by
 rw[u7]
 have h:((BitVec.ofInt 64 x&&& BitVec.ofInt 64 y).toNat)=x.toNat&&& y.toNat:=by rw[BitVec.toNat_and,tt x hx RD,tt y hy hy1]
 show IntKind.u64.wrap (((BitVec.ofInt 64 x&&& BitVec.ofInt 64 y).toNat:Nat):Int)=_
 rw[h,←Gj]
 have:x.toNat&&& y.toNat≤x.toNat:=Nat.and_le_left
 exact eB ω ω
theorem T1{x y:Int}(hx:0≤x)(RD:x<18446744073709551616)(hy:0≤y)(hy1:y<18446744073709551616):rQ .or .u64 x y=((x.toNat|||y.toNat:Nat):Int):=by
 rw[u7]
 have h:((BitVec.ofInt 64 x|||BitVec.ofInt 64 y).toNat)=x.toNat|||y.toNat:=by rw[BitVec.toNat_or,tt x hx RD,tt y hy hy1]
 show IntKind.u64.wrap (((BitVec.ofInt 64 x|||BitVec.ofInt 64 y).toNat:Nat):Int)=_
 rw[h,←Gj]
 have:x.toNat|||y.toNat<2^64:=Nat.or_lt_two_pow ω ω
 exact eB ω ω
theorem oX{x:Int}(h0:0≤x)(h1:x<18446744073709551616):rQ .and .u64 x 4294967295=x%4294967296:=by
 rw[OH h0 h1 ω ω]
 have:=Np x.toNat 32
 rw[show((4294967295:Int).toNat)=2^32-1 from rfl,this]
 omega
theorem LZ{x y:Int}(h0:0≤y)(h1:y≤64):shr .u64 x y=x/2^y.toNat:=by
 rw[RJ]
 have:min y.toNat IntKind.u64.bits=y.toNat:=by simp[IntKind.bits];omega
 rw[this,Ns]
 exact_mod_cast bz _
theorem T2(x:Int):shr .u64 x 32=x/4294967296:=by rw[LZ ω ω];rfl
theorem apI(x:Int):shr .u64 x 1=x/2:=by rw[LZ ω ω];rfl
theorem vt{x:Int}(h0: -9223372036854775808≤x)(h1:x<9223372036854775808):shr .i64 x 63=if x<0 then-1 else 0:=by
 rw[RJ]
 have:(2:Int)^(min (63:Int).toNat IntKind.i64.bits)=9223372036854775808:=by rfl
 rw[this,Ns _ ω]
 split<;>omega
theorem acj{x y:Int}(h0:0≤y)(h1:y≤64):shl .u64 x y=x*2^y.toNat:=by
 rw[Xy]
 have:min y.toNat IntKind.u64.bits=y.toNat:=by simp[IntKind.bits];omega
 rw[this]
theorem mul_lt{a b m n:Int}(ha:0≤a)(hb:0≤b)(ham:a≤m)(hbn:b≤n):0≤a*b∧a*b≤m*n:=
 ⟨uk ha hb,gO (Al ham hb) (yp hbn ω)⟩
end VM
end
section
namespace VM
open Go VM.F
variable(N:Nat)
theorem VO(a b:Int):a*b=(a/4294967296)*(b/4294967296)*18446744073709551616+((a/4294967296)*(b%4294967296)+(a%4294967296)*(b/4294967296))*4294967296+(a%4294967296)*(b%4294967296):=by
 have ha:a=(a/4294967296)*4294967296+a%4294967296:=ω
 have hb:b=(b/4294967296)*4294967296+b%4294967296:=ω
 generalize a/4294967296=a1 at*
 generalize a%4294967296=a0 at*
 generalize b/4294967296=b1 at*
 generalize b%4294967296=b0 at*
 subst ha;subst hb
 simp only[pK,mB]
 have e1:a1*4294967296*(b1*4294967296)=a1*b1*18446744073709551616:=by
  rw[lL,Int.mul_left_comm 4294967296,←lL];rfl
 have e2:a1*4294967296*b0=a1*b0*4294967296:=by rw[lL,jm 4294967296,←lL]
 have e3:a0*(b1*4294967296)=a0*b1*4294967296:=by rw[←lL]
 rw[e1,e2,e3];omega
theorem Ha{a b:Int}(ha:0≤a)(ha1:a<18446744073709551616)(hb:0≤b)(nk:b<18446744073709551616):
  VP N a b=some (a*b/18446744073709551616,a*b%18446744073709551616):=by
 unfold VP
 have hm:=VO a b
 have h1:=mul_lt (m:=4294967295) (n:=4294967295) (show 0≤a/4294967296 by omega) (show 0≤b/4294967296 by omega) ω ω
 have h2:=mul_lt (m:=4294967295) (n:=4294967295) (show 0≤a/4294967296 by omega) (show 0≤b%4294967296 by omega) ω ω
 have h3:=mul_lt (m:=4294967295) (n:=4294967295) (show 0≤a%4294967296 by omega) (show 0≤b/4294967296 by omega) ω ω
 have h4:=mul_lt (m:=4294967295) (n:=4294967295) (show 0≤a%4294967296 by omega) (show 0≤b%4294967296 by omega) ω ω
 simp only[aP (show(0:Int)≤32 by omega),av,oX ha ha1,oX hb nk,T2]
 generalize a/4294967296=a1 at*
 generalize a%4294967296=a0 at*
 generalize b/4294967296=b1 at*
 generalize b%4294967296=b0 at*
 generalize a*b=ab at*
 generalize a1*b1=p at*
 generalize a1*b0=q at*
 generalize a0*b1=r at*
 generalize a0*b0=s at*
 rw[eB (x:=q) ω ω,eB (x:=s) ω ω,eB (x:=r) ω ω,eB (x:=p) ω ω,eB (x:=q+s/4294967296) ω ω,
  oX ω ω,eB (x:=(q+s/4294967296)%4294967296+r) ω ω,eB (x:=p+(q+s/4294967296)/4294967296) ω ω,eB (x:=p+(q+s/4294967296)/4294967296+_) ω ω,pQ]
 congr 2
 omega
theorem L0{x:Int}(h0: -9223372036854775808≤x)(h1:x<9223372036854775808):VQ N x=some (x.natAbs:Int):=by
 unfold VQ
 by_cases h:x<0
 ·rw[aR h,ak,pQ,pQ];congr 1;omega
 ·rw[aP ω,av,pQ];congr 1;omega
theorem xy{x y c:Int}(hx:0≤x)(hy:0≤y)(hc:0≤c)(EL:c≤1):ux N x y c=some ((x+y+c)%18446744073709551616,(x+y+c)/18446744073709551616):=by
 unfold ux;rw[aj ⟨hx,hy,hc,EL⟩]
theorem mF{x y c:Int}(hx:0≤x)(RD:x<18446744073709551616)(hy:0≤y)(hy1:y<18446744073709551616)(hc:0≤c)(EL:c≤1):
  tg N x y c=some ((x-y-c)%18446744073709551616,if x<y+c then 1 else 0):=by
 unfold tg;rw[aj ⟨hx,RD,hy,hy1,hc,EL⟩];congr 2;omega
structure xz(Y sY Hb gP Hc q rh:Int):Prop where
 hY:Y=sY*4294967296+Hb
 y1:2147483648≤sY
 y1':sY<4294967296
 y0:0≤Hb
 y0':Hb<4294967296
 u1:0≤Hc
 u1':Hc<4294967296
 lt:gP<Y
 q0:0≤q
 eq:q*sY+rh=gP
 r0:0≤rh
 q1:q≤4294967297
 ge:(gP*4294967296+Hc)/Y≤q
theorem xz.prod{Y sY Hb gP Hc q rh:Int}(g:xz Y sY Hb gP Hc q rh):q*Y=(gP-rh)*4294967296+q*Hb∧0≤q*Hb∧q*Hb≤18446744073709551615:=by
 have h:=mul_lt (m:=4294967297) (n:=4294967295) g.q0 g.y0 g.q1 (by have:=g.y0';omega)
 refine⟨?_,h.1,ω⟩
 rw[g.hY,mB,←lL,show q*sY=gP-rh from by have:=g.eq;omega]
theorem xz.pos{Y sY Hb gP Hc q rh:Int}(g:xz Y sY Hb gP Hc q rh):0<Y:=by have:=g.hY;have:=g.y1;have:=g.y0;omega
theorem xz.digit{Y sY Hb gP Hc q rh:Int}(g:xz Y sY Hb gP Hc q rh)(h:0≤gP):0≤(gP*4294967296+Hc)/Y∧(gP*4294967296+Hc)/Y<4294967296:=by
 have hp:=g.pos
 have:=g.u1;have:=g.u1';have:=g.lt
 refine⟨uh ω ω,?_⟩
 rw[Aq hp];omega
theorem xz.next{Y sY Hb gP Hc q rh:Int}(g:xz Y sY Hb gP Hc q rh)(hu:0≤gP)(h:4294967296≤q∨4294967296*rh+Hc<q*Hb):xz Y sY Hb gP Hc (q-1) (rh+sY)∧1≤q:=by
 have hp:=g.pos
 have h1:=g.prod.1
 have hd:=g.digit hu
 have eT:(gP*4294967296+Hc)/Y<q:=by
  rcases h with h|h
  ·omega
  ·rw[Aq hp];omega
 have:=g.q1;have:=g.r0;have:=g.y1
 exact⟨⟨g.hY,g.y1,g.y1',g.y0,g.y0',g.u1,g.u1',g.lt,ω,by rw[Int.sub_mul,AI];have:=g.eq;omega,ω,ω,ω⟩,ω⟩
theorem xz.first{Y sY Hb gP Hc:Int}(hY:Y=sY*4294967296+Hb)(y1:2147483648≤sY)(y1':sY<4294967296)(y0:0≤Hb)(y0':Hb<4294967296)(u1:0≤Hc)(u1':Hc<4294967296)(hu:0≤gP)(lt:gP<Y):
  xz Y sY Hb gP Hc (gP/sY) (gP-gP/sY*sY)∧gP-gP/sY*sY<4294967296∧0≤gP/sY*sY∧gP/sY*sY≤gP:=by
 have h1:=NH gP sY
 have h2:=Au gP (show 0<sY by omega)
 have h3:=Gb gP (show sY≠0 by omega)
 have wC:0≤gP/sY:=uh hu ω
 rw[jm]at h1
 have hq1:gP/sY≤4294967297:=by
  have:gP/sY<4294967298:=by rw[Aq ω];omega
  omega
 have TK:(gP*4294967296+Hc)/Y≤gP/sY:=by
  have eT:gP*4294967296+Hc<(gP/sY+1)*Y:=by
   have e:gP+1≤(gP/sY+1)*sY:=by rw[pK,AI];omega
   have e2:(gP/sY+1)*Y=(gP/sY+1)*sY*4294967296+(gP/sY+1)*Hb:=by rw[hY,mB,lL]
   have e3:0≤(gP/sY+1)*Hb:=uk ω y0
   omega
  have:(gP*4294967296+Hc)/Y<gP/sY+1:=by rw[Aq ω];exact eT
  omega
 exact⟨⟨hY,y1,y1',y0,y0',u1,u1',lt,wC,ω,ω,hq1,TK⟩,ω,uk wC ω,ω⟩
def dr:List Int→Int
 |[]=>0
 |d::r=>d+4294967296*dr r
def VD(l:List Int):Prop:= ∀d∈l,0≤d∧d<4294967296
def mG(n:Nat):List Int:=if n=0 then []else((n%4294967296:Nat):Int)::mG (n/4294967296)
termination_by n
decreasing_by omega
theorem lh:mG 0=[]:=by rw[mG];rfl
theorem yF{n:Nat}(h:n≠0):mG n=((n%4294967296:Nat):Int)::mG (n/4294967296):=by rw[mG];simp[h]
theorem VD.nil:VD []:=λd h=>by cases h
theorem VD.cons{d:Int}{l:List Int}(h0:0≤d)(h1:d<4294967296)(h:VD l):VD (d::l):=λx hx=>by
 rcases a8.1 hx with rfl|hx
 ·exact⟨h0,h1⟩
 ·exact h x hx
theorem VD.tail{d:Int}{l:List Int}(h:VD (d::l)):VD l:=λx hx=>h x (aZ _ hx)
theorem VD.append{a b:List Int}(h:VD a)(k:VD b):VD (a++b):=λx hx=>(bk.1 hx).elim (h x) (k x)
theorem VD.drop{l:List Int}(h:VD l)(n:Nat):VD (l.drop n):=λx hx=>h x (mP hx)
theorem VD.take{l:List Int}(h:VD l)(n:Nat):VD (l.take n):=λx hx=>h x (lK hx)
theorem VD.getD{l:List Int}(h:VD l)(n:Nat):0≤l.getD n 0∧l.getD n 0<4294967296:=by
 rw[aV]
 cases hn:l[n]? with
 |none=>exact⟨fW _,δ⟩
 |some x=>exact h x (List.mem_of_getElem? hn)
theorem VD.set{l:List Int}(h:VD l)(n:Nat){x:Int}(h0:0≤x)(h1:x<4294967296):VD (l.set n x):=λy hy=>by
 rcases uc hy with hy|rfl
 ·exact h y hy
 ·exact⟨h0,h1⟩
theorem VD.aiy(n:Nat):VD (List.replicate n 0):=λx hx=>by rw[An hx];exact⟨fW _,δ⟩
theorem lj: ∀{l:List Int},VD l→0≤dr l
 |[],_=>fW _
 |d::r,h=>by
  have:=lj h.tail
  have:=(h d (bs ..)).1
  simp only[dr];omega
theorem iG(n:Nat):dr (mG n)=n:=by
 induction n using Nat.strongRecOn with
 |_ n ih=>
  by_cases h:n=0
  ·subst h;rw[lh];rfl
  ·rw[yF h,dr,ih _ ω];omega
theorem ll(n:Nat):VD (mG n):=by
 induction n using Nat.strongRecOn with
 |_ n ih=>
  by_cases h:n=0
  ·subst h;rw[lh];exact VD.nil
  ·rw[yF h];exact VD.cons ω ω (ih _ ω)
theorem Bn{n:Nat}:mG n=[]↔n=0:=by
 constructor
 ·intro h
  by_cases hn:n=0
  ·exact hn
  ·rw[yF hn]at h;cases h
 ·rintro rfl;exact lh
theorem yG(k:Nat): ∀n,n<4294967296^k→(mG n).length≤k:=by
 induction k with
 |zero=>
  intro n h;have:n=0:=by simpa using h
  subst this;rw[lh];simp
 |succ k ih=>
  intro n h
  by_cases hn:n=0
  ·subst hn;rw[lh];simp
  ·rw[yF hn,aT]
   have:=ih (n/4294967296) (by rw[NI ω];rw[AF]at h;exact h)
   omega
theorem L1(k:Nat): ∀n,(mG n).length≤k→n<4294967296^k:=by
 induction k with
 |zero=>
  intro n h
  have:mG n=[]:=uZ ω
  rw[Bn]at this;subst this;decide
 |succ k ih=>
  intro n h
  by_cases hn:n=0
  ·subst hn;exact Nat.pow_pos δ
  ·rw[yF hn,aT]at h
   have:=ih (n/4294967296) ω
   rw[NI ω]at this
   rw[AF];exact this
def strip:List Int→List Int
 |[]=>[]
 |d::r=>if strip r=[]∧d=0 then []else d::strip r
theorem OI: ∀{l:List Int},VD l→strip l=mG (dr l).toNat
 |[],_=>by rw[show(dr []).toNat=0 from rfl,lh];rfl
 |d::r,h=>by
  have ih:=OI h.tail
  have h0:=lj h.tail
  obtain⟨h1,h2⟩:=h d (bs ..)
  simp only[strip,dr,ih,Bn]
  split
  ·rename_i hc
   obtain⟨hc,rfl⟩:=hc
   have:dr r=0:=ω
   rw[this];exact lh.symm
  ·rename_i hc
   have ko:(d+4294967296*dr r).toNat≠0:=λhe=>hc ⟨ω,ω⟩
   rw[yF ko]
   congr 1
   ·omega
   ·congr 1;omega
theorem Hd: ∀(l:List Int) (x:Int),strip (l++[x])=if x=0 then strip l else l++[x]
 |[],x=>by simp[strip]
 |d::r,x=>by
  simp only[ky,strip,Hd r x]
  split
  ·rfl
  ·simp
theorem iR(l:List Int){k:Nat}(h:k<l.length):l.take (k+1)=l.take k++[l.getD k 0]:=by
 rw[List.take_succ_eq_append_getElem h,aV,bm h];rfl
theorem Kj(N:Nat)(l:List Int)(hl:l.length<68719476736): ∀(k n:Nat),k≤l.length→k<n→oY.l2 N n l (k:Int)=some (strip (l.take k))
 |0,n+1,_,_=>by
  unfold oY.l2 oY.fM
  simp (disch:=omega) only[aR,aP,fQ,fK,dV,eU,aW,bY,c7,dZ,aw,eB,ak,av,bl,dp,ar,aI,dK,af,aS,aJ,bP,c4,aT,cr]
  simp[strip]
 |k+1,n+1,hk,hn=>by
  unfold oY.l2 oY.fM
  have e:((k+1:Nat):Int)-1=(k:Int):=ω
  simp (disch:=omega) only[aR,aP,fQ,fK,dV,eU,aW,bY,c7,dZ,aw,eB,ak,av,bl,dp,ar,aI,dK,af,aS,aJ,bP,c4,aT,cr,e]
  have ih:=Kj N l hl k n ω ω
  rw[iR l ω,Hd]
  by_cases h:l.getD k 0=0
  ·rw[dV h,ak,ih,aj h]
  ·rw[eU h,av,ah h]
   simp only[dK,cV]
theorem L4{l:List Int}(h:VD l)(hN:l.length<N)(hl:l.length<68719476736):oY N l=some (mG (dr l).toNat):=by
 unfold oY oY.b
 rw[Kj N l hl l.length N (aH _) hN,gN,OI h]
def dA(v:Int):aL:=(decide (v<0),(mG v.natAbs,()))
theorem tu(neg:Bool){l:List Int}(h:VD l)(hN:l.length<N)(hl:l.length<68719476736):He N neg l=some (dA (if neg then-dr l else dr l)):=by
 unfold He
 rw[L4 N h hN hl,ar]
 have h0:=lj h
 cases neg
 ·simp only[av,dA,jL,fG]
  rw[bx ω]
  congr 4;omega
 ·simp only[ak,dA,g8]
  have e:(-dr l).natAbs=(dr l).toNat:=ω
  rw[e]
  congr 2
  by_cases hz:dr l=0
  ·rw[hz,dK,lh,aP (by simp),bx ω]
  ·have:0<(mG (dr l).toNat).length:=by
    apply pD.2
    intro hd;rw[Bn]at hd;omega
   rw[aR ω,aU ω]
theorem size_eq(hN:1000≤N){u:Int}(h0:0≤u)(h1:u<18446744073709551616):YN N u=some (mG u.toNat):=by
 unfold YN
 rw[oX h0 h1,T2]
 have hv:VD [u%4294967296,u/4294967296]:=VD.cons ω ω (VD.cons ω ω VD.nil)
 simp (disch:=omega) only[aR,aP,fQ,fK,dV,eU,aW,bY,c7,dZ,aw,eB,ak,av,bl,dp,ar,aI,dK,af,aS,aJ,bP,c4,aT,cr,L4 N hv (by simp;omega) (by simp)]
 congr 2
 simp only[dr];omega
theorem dP(hN:1000≤N){x:Int}(h0: -9223372036854775808≤x)(h1:x<9223372036854775808):eI N x=some (dA x):=by
 unfold eI
 have hd: ∀n:Nat,n<18446744073709551616→(mG n).length≤2:=λn h=>yG 2 n (by simpa using h)
 by_cases h:x<0
 ·have e:W .u64 (0-W .u64 x)= -x:=by rw[pQ,pQ];omega
  simp only[aR h,ak,e,size_eq N hN (show 0≤ -x by omega) ω,ar]
  have:=hd (-x).toNat ω
  rw[tu N true (ll _) ω ω,iG,aj rfl,show-(((-x).toNat:Nat):Int)=x from by omega];rfl
 ·have e:W .u64 x=x:=eB ω ω
  simp only[aP (show 0≤x by omega),av,e,size_eq N hN (show 0≤x by omega) ω,ar]
  have:=hd x.toNat ω
  rw[tu N false (ll _) ω ω,iG,ah pF,wS ω];rfl
theorem xA(l:List Int)(i:Nat):L7 N l (i:Int)=some (l.getD i 0):=by
 unfold L7
 by_cases h:i<l.length
 ·simp (disch:=omega) only[aR,aP,fQ,fK,dV,eU,aW,bY,c7,dZ,aw,eB,ak,av,bl,dp,ar,aI,dK,af,aS,aJ,bP,c4,aT,cr]
 ·simp (disch:=omega) only[aR,aP,fQ,fK,dV,eU,aW,bY,c7,dZ,aw,eB,ak,av,bl,dp,ar,aI,dK,af,aS,aJ,bP,c4,aT,cr]
  rw[aV,ig ω];rfl
theorem lS(l:List Int)(i:Nat):dr (l.drop i)=l.getD i 0+4294967296*dr (l.drop (i+1)):=by
 by_cases h:i<l.length
 ·rw[qF h,dr,aV,bm h];rfl
 ·rw[jf ω,jf ω,aV,ig ω];rfl
theorem OJ(N:Nat){a b:List Int}(ha:VD a)(hb:VD b)(zK:a.length≤1000000)(RG:b.length≤1000000): ∀(m n i:Nat) (out:List Int) (c:Int),a.length+b.length+2-i≤m→m<n→out.length=i→i≤a.length+b.length+1→0≤c→c≤1→(a.length≤i→b.length≤i→i=max a.length b.length∨c=0)→
  ∃r,kb.l4 N n a b out c (i:Int)=some (out++r)∧VD r∧dr r=dr (a.drop i)+dr (b.drop i)+c∧r.length≤m
 |m,0,i,out,c,_,hn,_,_,_,_,_=>ω
 |m,n+1,i,out,c,hm,hn,ho,hi,Tz,EL,hz=>by
  unfold kb.l4 kb.dQ
  by_cases OK:a.length≤i∧b.length≤i∧c=0
  ·obtain⟨h1,h2,rfl⟩:=OK
   simp (disch:=omega) only[aR,aP,fQ,fK,dV,eU,aW,bY,c7,dZ,aw,eB,ak,av,bl,dp,ar,aI,dK,af,aS,aJ,bP,c4,aT,cr]
   exact⟨[],by simp,VD.nil,by rw[jf h1,jf h2];rfl,bz _⟩
  ·obtain⟨ga0,ga1⟩:=ha.getD i
   obtain⟨gb0,gb1⟩:=hb.getD i
   have step: ∃r,kb.j6 N (kb.l4 N n) a b out c (i:Int)=some (out++r)∧VD r∧dr r=dr (a.drop i)+dr (b.drop i)+c∧r.length≤m:=by
    unfold kb.j6 kb.OL
    have Fm:i≤a.length+b.length:=by
     by_cases h1:a.length≤i∧b.length≤i
     ·rcases hz h1.1 h1.2 with h|h
      ·omega
      ·exact absurd ⟨h1.1,h1.2,h⟩ OK
     ·omega
    simp only[xA,ar]
    generalize hga:a.getD i 0=x at*
    generalize hgb:b.getD i 0=y at*
    rw[eB (x:=x+y) ω ω,eB (x:=c+(x+y)) ω ω,oX ω ω,T2]
    simp (disch:=omega) only[aR,aP,fQ,fK,dV,eU,aW,bY,c7,dZ,aw,eB,ak,av,bl,dp,ar,aI,dK,af,aS,aJ,bP,c4,aT,cr]
    obtain⟨r,hr,hv,hs,J6⟩:=OJ N ha hb zK RG (m-1) n (i+1) (out++[(c+(x+y))%4294967296]) ((c+(x+y))/4294967296) ω ω (by simp[ho]) ω ω ω (λh1 h2=>by
     by_cases h3:a.length≤i∧b.length≤i
     ·right
      rw[←hga,←hgb,aV,ig h3.1,aV,ig h3.2]
      simp only[Option.getD_none];omega
     ·left;omega)
    refine⟨(c+(x+y))%4294967296::r,by rw[hr];simp,VD.cons ω ω hv,?_,by rw[aT];omega⟩
    rw[dr,hs,lS a i,lS b i,hga,hgb];omega
   by_cases h1:i<a.length
   ·simp (disch:=omega) only[aR,ak];exact step
   ·by_cases h2:i<b.length
    ·simp (disch:=omega) only[aR,aP,ak,av];exact step
    ·have:0<c:=ω
     simp (disch:=omega) only[aR,aP,ak,av];exact step
theorem T3: ∀{l:List Int},VD l→dr l<4294967296^l.length
 |[],_=>by simp[dr]
 |d::r,h=>by
  have ih:=T3 h.tail
  obtain⟨h1,h2⟩:=h d (bs ..)
  rw[dr,aT,AG]
  generalize (4294967296:Int)^r.length=p at*
  omega
theorem OM(hN:4000000≤N){a b:List Int}(ha:VD a)(hb:VD b)(zK:a.length≤1000000)(RG:b.length≤1000000): ∃r,kb N a b=some r∧VD r∧dr r=dr a+dr b∧r.length≤2000002:=by
 unfold kb kb.b
 obtain⟨r,hr,hv,hs,hl⟩:=OJ N ha hb zK RG (a.length+b.length+2) N 0 [] 0 ω ω rfl ω ω ω (λ_ _=> .inr rfl)
 exact⟨r,hr,hv,by simpa using hs,ω⟩
theorem Hf(N:Nat){a b:List Int}(ha:VD a)(hb:VD b)(zK:a.length≤1000000): ∀(m n i:Nat) (out:List Int) (c:Int),a.length-i≤m→m<n→out.length=i→i≤a.length→0≤c→c≤1→0≤dr (a.drop i)-dr (b.drop i)-c→
  ∃r,qN.l4 N n a b out c (i:Int)=some (out++r)∧VD r∧dr r=dr (a.drop i)-dr (b.drop i)-c∧r.length≤m
 |m,0,i,out,c,_,hn,_,_,_,_,_=>ω
 |m,n+1,i,out,c,hm,hn,ho,hi,Tz,EL,hz=>by
  unfold qN.l4 qN.dQ
  by_cases h1:i<a.length
  ·obtain⟨ga0,ga1⟩:=ha.getD i
   obtain⟨gb0,gb1⟩:=hb.getD i
   rw[lS a i,lS b i]at*
   simp only[xA,ar,aI]
   generalize hga:a.getD i 0=x at*
   generalize hgb:b.getD i 0=y at*
   rw[eB (x:=y+c) ω ω,eB (x:=x+4294967296) ω ω]
   by_cases eT:x<y+c
   ·rw[eB (x:=x+4294967296-(y+c)) ω ω]
    simp (disch:=omega) only[aR,aP,fQ,fK,dV,eU,aW,bY,c7,dZ,aw,eB,ak,av,bl,dp,ar,aI,dK,af,aS,aJ,bP,c4,aT,cr,hga,hgb]
    obtain⟨r,hr,hv,hs,J6⟩:=Hf N ha hb zK (m-1) n (i+1) (out++[x+4294967296-(y+c)]) 1 ω ω (by simp[ho]) ω ω ω ω
    refine⟨(x+4294967296-(y+c))::r,by rw[hr];simp,VD.cons ω ω hv,by rw[dr,hs];omega,by rw[aT];omega⟩
   ·rw[eB (x:=x-(y+c)) ω ω]
    simp (disch:=omega) only[aR,aP,fQ,fK,dV,eU,aW,bY,c7,dZ,aw,eB,ak,av,bl,dp,ar,aI,dK,af,aS,aJ,bP,c4,aT,cr,hga,hgb]
    obtain⟨r,hr,hv,hs,J6⟩:=Hf N ha hb zK (m-1) n (i+1) (out++[x-(y+c)]) 0 ω ω (by simp[ho]) ω ω ω ω
    refine⟨(x-(y+c))::r,by rw[hr];simp,VD.cons ω ω hv,by rw[dr,hs];omega,by rw[aT];omega⟩
  ·simp (disch:=omega) only[aR,aP,fQ,fK,dV,eU,aW,bY,c7,dZ,aw,eB,ak,av,bl,dp,ar,aI,dK,af,aS,aJ,bP,c4,aT,cr]
   have h0:=lj (hb.drop i)
   rw[jf (l:=a) ω]at hz ⊢
   simp only[dr]at hz ⊢
   exact⟨[],by simp,VD.nil,by simp only[dr];omega,bz _⟩
theorem DX(hN:4000000≤N){a b:List Int}(ha:VD a)(hb:VD b)(zK:a.length≤1000000)(h:dr b≤dr a): ∃r,qN N a b=some r∧VD r∧dr r=dr a-dr b∧r.length≤1000000:=by
 unfold qN qN.b
 obtain⟨r,hr,hv,hs,hl⟩:=Hf N ha hb zK a.length N 0 [] 0 ω ω rfl ω ω ω (by simp;omega)
 exact⟨r,hr,hv,by simpa using hs,ω⟩
theorem rr: ∀(l:List Int) (x:Int),dr (l++[x])=dr l+4294967296^l.length*x
 |[],x=>by simp[dr]
 |d::r,x=>by
  rw[ky,dr,rr r x,dr,aT,AG,jm _ 4294967296,lL,mB];omega
theorem ON{a b:List Int}(ha:VD a)(hb:VD b){k:Nat}(h1:k<a.length)(h2:k<b.length)(eT:a.getD k 0<b.getD k 0):dr (a.take (k+1))<dr (b.take (k+1)):=by
 rw[iR a h1,iR b h2,rr,rr]
 have l1:(a.take k).length=k:=by rw[bV];omega
 have l2:(b.take k).length=k:=by rw[bV];omega
 have v1:=T3 (ha.take k)
 have v2:=lj (hb.take k)
 rw[l1]at*
 rw[l2]
 generalize (4294967296:Int)^k=p at*
 have hp:0<p:=by have:=lj (ha.take k);omega
 have:=yp (show a.getD k 0+1≤b.getD k 0 by omega) (Int.le_of_lt hp)
 rw[mB,Int.mul_one]at this
 omega
def wN(x:Int):Int:=if x<0 then-1 else if 0<x then 1 else 0
theorem OO(N:Nat){a b:List Int}(ha:VD a)(hb:VD b)(hl:a.length=b.length)(zK:a.length≤1000000): ∀(k n:Nat),k≤a.length→k<n→ql.l6 N n a b ((k:Int)-1)=some (wN (dr (a.take k)-dr (b.take k)))
 |k,0,_,hn=>ω
 |0,n+1,_,_=>by
  unfold ql.l6 ql.vu
  simp (disch:=omega) only[aR,aP,fQ,fK,dV,eU,aW,bY,c7,dZ,aw,eB,ak,av,bl,dp,ar,aI,dK,af,aS,aJ,bP,c4,aT,cr]
  simp[wN,dr]
 |k+1,n+1,hk,hn=>by
  unfold ql.l6 ql.vu
  have e:((k+1:Nat):Int)-1=(k:Int):=ω
  rw[e]
  simp (disch:=omega) only[aR,aP,fQ,fK,dV,eU,aW,bY,c7,dZ,aw,eB,ak,av,bl,dp,ar,aI,dK,af,aS,aJ,bP,c4,aT,cr]
  by_cases h1:a.getD k 0<b.getD k 0
  ·rw[aR h1,ak]
   have:=ON ha hb (k:=k) ω ω h1
   rw[wN,aj ω]
  ·rw[aP ω,av]
   by_cases h2:b.getD k 0<a.getD k 0
   ·rw[aR h2,ak]
    have:=ON hb ha (k:=k) ω ω h2
    rw[wN,ah ω,aj ω]
   ·rw[aP ω,av,OO N ha hb hl zK k n ω ω]
    congr 2
    rw[iR a ω,iR b ω,rr,rr,show a.getD k 0=b.getD k 0 from by omega,bV,bV,hl]
    omega
theorem OP(hN:4000000≤N)(m k:Nat)(hm:(mG m).length≤1000000)(hk:(mG k).length≤1000000):ql N (mG m) (mG k)=some (wN ((m:Int)-k)):=by
 unfold ql ql.b
 by_cases h:(mG m).length=(mG k).length
 ·simp (disch:=omega) only[aR,aP,fQ,fK,dV,eU,aW,bY,c7,dZ,aw,eB,ak,av,bl,dp,ar,aI,dK,af,aS,aJ,bP,c4,aT,cr]
  rw[OO N (ll m) (ll k) h hm (mG m).length N (aH _) ω,gN,h,gN,iG,iG]
 ·rw[eU ω,dp,ak]
  by_cases eT:(mG m).length<(mG k).length
  ·rw[aR ω,ak]
   have h1:=L1 ((mG k).length-1) m ω
   have h2: ¬(k<4294967296^((mG k).length-1)):=λh=>by have:=yG _ _ h;omega
   rw[wN,aj ω]
  ·rw[aP ω,av]
   have h1:=L1 ((mG m).length-1) k ω
   have h2: ¬(m<4294967296^((mG m).length-1)):=λh=>by have:=yG _ _ h;omega
   rw[wN,ah ω,aj ω]
def Fit(v:Int)(k:Nat):Prop:=v.natAbs<4294967296^k
theorem Fit.len{v:Int}{k:Nat}(h:Fit v k):(mG v.natAbs).length≤k:=yG k _ h
theorem Fit.mono{v:Int}{j k:Nat}(h:Fit v j)(hjk:j≤k):Fit v k:=nM h (Nat.pow_le_pow_right δ hjk)
theorem Fit.neg{v:Int}{k:Nat}(h:Fit v k):Fit (-v) k:=by unfold Fit at*;rwa [Int.natAbs_neg]
theorem Fit.i64{v:Int}(h0: -9223372036854775808≤v)(h1:v<9223372036854775808):Fit v 2:=by
 unfold Fit
 rw[show(4294967296:Nat)^2=18446744073709551616 from by decide];omega
theorem Fit.add{u v:Int}{k:Nat}(hu:Fit u k)(hv:Fit v k):Fit (u+v) (k+1):=by
 unfold Fit at*
 rw[AF]
 have:(u+v).natAbs≤u.natAbs+v.natAbs:=Int.natAbs_add_le u v
 generalize 4294967296^k=p at*
 omega
theorem Fit.mul{u v:Int}{j k:Nat}(hu:Fit u j)(hv:Fit v k):Fit (u*v) (j+k):=by
 unfold Fit at*
 rw[Gc,Nat.pow_add]
 exact Nat.mul_lt_mul'' hu hv
theorem Fit.of_le{u v:Int}{k:Nat}(hv:Fit v k)(h:u.natAbs≤v.natAbs):Fit u k:=Nat.lt_of_le_of_lt h hv
theorem pR(a b:Bool):pn .bool a b=(a==b):=by simp[pn]
theorem kG(hN:4000000≤N){u v:Int}(hu:Fit u 900000)(hv:Fit v 900000):nZ N (dA u) (dA v)=some (dA (u+v)):=by
 have lu:=hu.len
 have lv:=hv.len
 unfold nZ
 simp only[dA,pR]
 by_cases hs:decide (u<0)=decide (v<0)
 ·rw[hs,AB,ak]
  obtain⟨r,hr,hvd,LJ,hl⟩:=OM N hN (ll u.natAbs) (ll v.natAbs) ω ω
  simp only[hr,ar,tu N _ hvd ω ω,LJ,iG]
  congr 1
  show dA _=dA _
  congr 1
  by_cases h:v<0
  ·have:u<0:=by simpa [h]using hs
   rw[aj (aU h)];omega
  ·have: ¬u<0:=by simpa [h]using hs
   rw[ah (by simpa using h)];omega
 ·have hb:(decide (u<0)==decide (v<0))=false:=by simpa using hs
  rw[hb,av,OP N hN _ _ ω ω,ar]
  by_cases hc:v.natAbs≤u.natAbs
  ·have h1:du 0 (wN ((u.natAbs:Int)-v.natAbs))=true:=fQ (by unfold wN;split<;>(try split)<;>omega)
   obtain⟨r,hr,hvd,LJ,hl⟩:=DX N hN (ll u.natAbs) (ll v.natAbs) ω (by rw[iG,iG];omega)
   simp only[h1,ak,hr,ar,tu N _ hvd ω ω,LJ,iG]
   congr 1
   show dA _=dA _
   congr 1
   by_cases h:u<0
   ·have: ¬v<0:=λhv=>hs (by simp[h,hv])
    rw[aj (aU h)];omega
   ·have:v<0:=Nv λhv=>hs (by simp[h,hv])
    rw[ah (by simpa using h)];omega
  ·have h1:du 0 (wN ((u.natAbs:Int)-v.natAbs))=false:=fK (by unfold wN;rw[aj ω];omega)
   obtain⟨r,hr,hvd,LJ,hl⟩:=DX N hN (ll v.natAbs) (ll u.natAbs) ω (by rw[iG,iG];omega)
   simp only[h1,av,hr,ar,tu N _ hvd ω ω,LJ,iG]
   congr 1
   show dA _=dA _
   congr 1
   by_cases h:v<0
   ·have: ¬u<0:=λhu=>hs (by simp[h,hu])
    rw[aj (aU h)];omega
   ·have:u<0:=Nv λhu=>hs (by simp[h,hu])
    rw[ah (by simpa using h)];omega
theorem oZ(hN:4000000≤N){u:Int}(hu:Fit u 900000):ES N (dA u)=some (dA (-u)):=by
 have lu:=hu.len
 unfold ES
 simp only[dA]
 simp only[tu N _ (ll u.natAbs) ω ω,ar,iG]
 congr 1
 show dA _=dA _
 congr 1
 by_cases h:u<0
 ·rw[aU h,bl,ah pF];omega
 ·rw[bx h,dp,aj rfl];omega
theorem OQ(hN:4000000≤N){u:Int}(hu:Fit u 900000):Hg N (dA u)=some (dA u.natAbs):=by
 have lu:=hu.len
 unfold Hg
 simp only[dA]
 simp only[tu N _ (ll u.natAbs) ω ω,ar,iG,jL,fG]
 rfl
theorem vv(hN:4000000≤N){u v:Int}(hu:Fit u 900000)(hv:Fit v 900000):Bo N (dA u) (dA v)=some (dA (u-v)):=by
 unfold Bo
 simp only[oZ N hN hv,ar,kG N hN hu hv.neg,Int.sub_eq_add_neg]
theorem qO(u:Int):T4 N (dA u)=some (wN u):=by
 unfold T4
 simp only[dA]
 by_cases h:u=0
 ·subst h
  rw[show(0:Int).natAbs=0 from rfl,lh]
  simp (disch:=omega) only[aR,aP,fQ,fK,dV,eU,aW,bY,c7,dZ,aw,eB,ak,av,bl,dp,ar,aI,dK,af,aS,aJ,bP,c4,aT,cr]
  rfl
 ·have:0<(mG u.natAbs).length:=by
   apply pD.2
   intro hd;rw[Bn]at hd;omega
  rw[eU ω,av]
  by_cases hn:u<0
  ·rw[aU hn,ak,wN,aj hn]
  ·rw[bx hn,av,wN,ah hn,aj ω]
theorem R6(hN:4000000≤N){u v:Int}(hu:Fit u 900000)(hv:Fit v 900000):y8 N (dA u) (dA v)=some (wN (u-v)):=by
 unfold y8
 simp only[vv N hN hu hv,ar,qO]
theorem T6(l:List Int)(h: ∀x∈l,-9223372036854775808≤x∧x<9223372036854775808): -(9223372036854775808*l.length)≤l.sum∧l.sum≤9223372036854775808*l.length:=by
 induction l with
 |nil=>simp
 |cons x l ih=>
  have:=ih (λy hy=>h y (aZ _ hy))
  obtain⟨h1,h2⟩:=h x (bs ..)
  rw[cE,aT]
  omega
theorem Bp{v:Int}{n:Nat}(hn:n≤1000000)(h0: -(9223372036854775808*n)≤v)(h1:v≤9223372036854775808*n):Fit v 3:=by
 unfold Fit
 rw[show(4294967296:Nat)^3=79228162514264337593543950336 from by decide]
 omega
theorem uD{l:List Int}(h: ∀x∈l,-9223372036854775808≤x∧x<9223372036854775808)(i:Nat): -9223372036854775808≤l.getD i 0∧l.getD i 0<9223372036854775808:=by
 rw[aV]
 cases hn:l[i]? with
 |none=>exact⟨δ,δ⟩
 |some x=>exact h x (List.mem_of_getElem? hn)
theorem mH(l:List Int){i:Nat}(h:i<l.length):(l.take (i+1)).sum=(l.take i).sum+l.getD i 0:=by
 rw[iR l h];simp
theorem Bq(N:Nat)(hN:4000000≤N){l:List Int}(h: ∀x∈l,-9223372036854775808≤x∧x<9223372036854775808)(hl:l.length≤1000000): ∀(m n i:Nat) (z:aL),l.length-i≤m→m<n→i≤l.length→
  qm.l3 N n l z (dA (l.take i).sum) (i:Int)=some (dA l.sum)
 |m,0,i,z,_,hn,_=>ω
 |m,n+1,i,z,hm,hn,hi=>by
  unfold qm.l3 qm.nr
  by_cases h1:i<l.length
  ·obtain⟨g0,g1⟩:=uD h i
   have f1:=T6 (l.take i) (λx hx=>h x (lK hx))
   rw[bV,ij ω]at f1
   have f2:Fit (l.take i).sum 900000:=(Bp (n:=i) ω f1.1 f1.2).mono ω
   have f3:Fit (l.getD i 0) 900000:=(Fit.i64 g0 g1).mono ω
   simp (disch:=omega) only[aR,aP,fQ,fK,dV,eU,aW,bY,c7,dZ,aw,eB,ak,av,bl,dp,ar,aI,dK,af,aS,aJ,bP,c4,aT,cr,dP N ω g0 g1,kG N hN f2 f3]
   rw[←mH l h1]
   exact Bq N hN h hl (m-1) n (i+1) z ω ω ω
  ·simp (disch:=omega) only[aR,aP,fQ,fK,dV,eU,aW,bY,c7,dZ,aw,eB,ak,av,bl,dp,ar,aI,dK,af,aS,aJ,bP,c4,aT,cr]
   rw[iz ω]
theorem lT:dA 0=(false,([],())):=by unfold dA;rw[show(0:Int).natAbs=0 from rfl,lh];rfl
theorem zM(hN:4000000≤N){l:List Int}(h: ∀x∈l,-9223372036854775808≤x∧x<9223372036854775808)(hl:l.length≤1000000):qm N l=some (dA l.sum):=by
 unfold qm qm.b
 have:=Bq N hN h hl l.length N 0 (false,([],())) ω ω ω
 rw[mU,jo,lT]at this
 exact this
theorem YO{a b:Int}(ha:0≤a)(ha1:a<4294967296)(hb:0≤b)(nk:b<4294967296):rQ .or .u64 a (b*4294967296)=a+b*4294967296:=by
 rw[T1 ha ω ω ω]
 have h:=Nq (i:=32) (b:=a.toNat) ω b.toNat
 have e:(b*4294967296).toNat=2^32*b.toNat:=ω
 rw[e,Nat.or_comm,←h];omega
theorem VS{a b:Int}(ha:0≤a)(ha1:a<4294967296)(hb:0≤b)(nk:b<4294967296):rQ .or .u64 (b*4294967296) a=a+b*4294967296:=by
 rw[T1 ω ω ha ω]
 have h:=Nq (i:=32) (b:=a.toNat) ω b.toNat
 have e:(b*4294967296).toNat=2^32*b.toNat:=ω
 rw[e,←h];omega
theorem aiz{x:Int}(h0:0≤x):shl .u64 x 32=x*4294967296:=by rw[acj ω ω];rfl
def CG(v:Int):Int×Bool:=if-9223372036854775808≤v∧v<9223372036854775808 then(v,true)else(0,false)
theorem ack{n:Nat}(h:(mG n).length≤2):(mG n).getD 0 0+4294967296*(mG n).getD 1 0=n:=by
 have h1:=lS (mG n) 0
 have h2:=lS (mG n) 1
 rw[cV,iG]at h1
 rw[jf (l:=mG n) (i:=1+1) h]at h2
 simp only[dr,gn]at h1 h2
 omega
theorem tX(v:Int):xB N (dA v)=some (CG v):=by
 unfold xB
 simp only[dA]
 by_cases hl:2<(mG v.natAbs).length
 ·rw[aR ω,ak,CG,ah]
  intro hh
  have:=yG 2 v.natAbs (by rw[show(4294967296:Nat)^2=18446744073709551616 from by decide];omega)
  omega
 ·have h2:=ack (n:=v.natAbs) ω
  obtain⟨a0,a1⟩:=(ll v.natAbs).getD 0
  obtain⟨b0,b1⟩:=(ll v.natAbs).getD 1
  have e0:=xA N (mG v.natAbs) 0
  have e1:=xA N (mG v.natAbs) 1
  simp only[Int.natCast_zero,Int.natCast_one]at e0 e1
  rw[aP ω,av,e0,e1]
  generalize (mG v.natAbs).getD 0 0=a at*
  generalize (mG v.natAbs).getD 1 0=b at*
  simp only[ar]
  rw[aP (show(0:Int)≤32 by omega),av,aiz b0,eB (x:=b*4294967296) ω ω,YO a0 a1 b0 b1]
  have ev:a+b*4294967296=v.natAbs:=ω
  rw[ev]
  by_cases hn:v<0
  ·rw[aU hn,ak]
   by_cases LX:9223372036854775808<(v.natAbs:Int)
   ·rw[aR LX,ak,CG,ah ω]
   ·rw[aP ω,av,CG,aj ω,pQ,gF]
    congr 2
    split<;>omega
  ·rw[bx hn,av]
   by_cases LX:9223372036854775807<(v.natAbs:Int)
   ·rw[aR LX,ak,CG,ah ω]
   ·rw[aP ω,av,CG,aj ω,aw ω ω]
    congr 2;omega
theorem OR: ∀(l:List Int) (k:Nat) (x:Int),k<l.length→dr (l.set k x)=dr l+4294967296^k*(x-l.getD k 0)
 |d::r,0,x,_=>by simp[dr];omega
 |d::r,k+1,x,h=>by
  have ih:=OR r k x (by simpa using h)
  rw[List.set_cons_succ,dr,dr,ih,List.getD_cons_succ,AG,jm (4294967296^k) 4294967296,lL,mB];omega
theorem getD_set_ne(l:List Int){j k:Nat}(x:Int)(h:j≠k):(l.set j x).getD k 0=l.getD k 0:=by
 simp[aV,List.getElem?_set_ne h]
theorem ns(l:List Int){k:Nat}(x:Int)(h:k<l.length):(l.set k x).getD k 0=x:=by
 simp[aV,List.getElem?_set,h]
theorem vx(l:List Int){k:Nat}(h:l.length≤k):l.getD k 0=0:=by
 rw[aV,ig h];rfl
theorem DY(N:Nat)(K:aL→aL→aL→List Int→Int→Option aL){a b:List Int}(na nb:Bool)(z:aL)(ha:VD a)(hb:VD b)(i:Nat)(hi:i<a.length)(zK:a.length≤100000)(RG:b.length≤100000):
  ∀(m n j:Nat) (out:List Int) (c:Int),b.length+1-j≤m→m<n→VD out→out.length=a.length+b.length+1→0≤c→c<4294967296→(j≤b.length→ ∀k,i+b.length≤k→out.getD k 0=0)→(b.length<j→c=0∧j=b.length+1∧ ∀k,i+b.length+1≤k→out.getD k 0=0)→
  ∃zN,et.l7 N K n (na,(a,())) (nb,(b,())) z out (i:Int) c (j:Int)=K (na,(a,())) (nb,(b,())) z zN ((i+1:Nat):Int)∧VD zN∧zN.length=out.length∧
   dr zN=dr out+4294967296^i*(4294967296^j*(a.getD i 0*dr (b.drop j)+c))∧ ∀k,i+1+b.length≤k→zN.getD k 0=0
 |m,0,j,out,c,_,hn,_,_,_,_,_,_=>ω
 |m,n+1,j,out,c,hm,hn,ho,Cg,Tz,EL,hz,Fu=>by
  unfold et.l7 et.oJ
  by_cases OK:b.length≤j∧c=0
  ·obtain⟨h1,rfl⟩:=OK
   simp (disch:=omega) only[aR,aP,fQ,fK,dV,eU,aW,bY,c7,dZ,aw,eB,ak,av,bl,dp,ar,aI,dK,af,aS,aJ,bP,c4,aT,cr]
   refine⟨out,rfl,ho,rfl,by rw[jf h1];simp[dr],λk hk=> ?_⟩
   by_cases hj:j≤b.length
   ·exact hz hj k ω
   ·exact(Fu ω).2.2 k ω
  ·have AY:j≤b.length:=by
    by_cases hj:j≤b.length
    ·exact hj
    ·exact absurd ⟨ω,(Fu ω).1⟩ OK
   obtain⟨ga0,ga1⟩:=ha.getD i
   obtain⟨gb0,gb1⟩:=hb.getD j
   obtain⟨go0,go1⟩:=ho.getD (i+j)
   have step: ∃zN,et.j9 N K (et.l7 N K n) (na,(a,())) (nb,(b,())) z out (i:Int) c (j:Int)=K (na,(a,())) (nb,(b,())) z zN ((i+1:Nat):Int)∧VD zN∧zN.length=out.length∧
     dr zN=dr out+4294967296^i*(4294967296^j*(a.getD i 0*dr (b.drop j)+c))∧ ∀k,i+1+b.length≤k→zN.getD k 0=0:=by
    unfold et.j9 et.JA
    have eij:(i:Int)+(j:Int)=((i+j:Nat):Int):=rfl
    have hp:=mul_lt (m:=4294967295) (n:=4294967295) ga0 gb0 ω ω
    simp only[xA,ar,eij,aI]
    simp (disch:=omega) only[aR,aP,fQ,fK,dV,eU,aW,bY,c7,dZ,aw,eB,ak,av,bl,dp,ar,aI,dK,af,aS,aJ,bP,c4,aT,cr]
    generalize hx:out.getD (i+j) 0=x at*
    generalize ha':a.getD i 0=ai at*
    generalize fa:b.getD j 0=bj at*
    generalize hpe:ai*bj=p at*
    have hpz:b.length≤j→p=0∧x=0:=λh=>by
     rw[vx b h]at fa
     refine⟨by rw[←hpe,←fa,AH],?_⟩
     rw[←hx];exact hz AY _ ω
    rw[oX ω ω,T2]
    have avM:(out.set (i+j) ((c+(x+p))%4294967296)).length=a.length+b.length+1:=by rw[bP];exact Cg
    obtain⟨zN,h1,h2,h3,h4,h5⟩:=DY N K na nb z ha hb i hi zK RG (m-1) n (j+1) (out.set (i+j) ((c+(x+p))%4294967296)) ((c+(x+p))/4294967296) ω ω (ho.set _ ω ω) avM ω ω
     (λh k hk=>by rw[getD_set_ne _ _ ω];exact hz AY k hk)
     (λh=>by
      obtain⟨hp0,Yk⟩:=hpz ω
      refine⟨ω,ω,λk hk=> ?_⟩
      rw[getD_set_ne _ _ ω];exact hz AY k ω)
    refine⟨zN,h1,h2,by rw[h3,bP],?_,h5⟩
    rw[h4,OR _ _ _ ω,hx,ha',lS b j,fa,mB ai,hpe,Int.pow_add,AG]
    have e1:ai*(4294967296*dr (b.drop (j+1)))=4294967296*(ai*dr (b.drop (j+1))):=Int.mul_left_comm _ _ _
    rw[e1]
    generalize ai*dr (b.drop (j+1))=y
    generalize (4294967296:Int)^i=P
    generalize (4294967296:Int)^j=R
    rw[lL R,lL P,Int.add_assoc,←mB,←mB]
    congr 3
    omega
   by_cases h1:j<b.length
   ·simp (disch:=omega) only[aR,ak];exact step
   ·have:0<c:=ω
    simp (disch:=omega) only[aR,aP,ak,av];exact step
theorem DZ(N:Nat)(hN:4000000≤N){a b:List Int}(na nb:Bool)(z:aL)(ha:VD a)(hb:VD b)(zK:a.length≤100000)(RG:b.length≤100000):
  ∀(m n i:Nat) (out:List Int),a.length-i≤m→m<n→i≤a.length→VD out→out.length=a.length+b.length+1→(∀k,i+b.length≤k→out.getD k 0=0)→dr out=dr (a.take i)*dr b→
  et.l3 N n (na,(a,())) (nb,(b,())) z out (i:Int)=some (dA (if na=nb then dr a*dr b else-(dr a*dr b)))
 |m,0,i,out,_,hn,_,_,_,_,_=>ω
 |m,n+1,i,out,hm,hn,hi,ho,Cg,hz,hv=>by
  unfold et.l3 et.nr
  by_cases h1:i<a.length
  ·simp only
   rw[aR ω,ak]
   obtain⟨zN,e1,e2,e3,e4,e5⟩:=DY N (et.l3 N n) na nb z ha hb i h1 zK RG (b.length+1) N 0 out 0 ω ω ho Cg ω ω (λ_ k hk=>hz k hk) (λh=>ω)
   rw[show((0:Nat):Int)=0 from rfl]at e1
   rw[e1]
   refine DZ N hN na nb z ha hb zK RG (m-1) n (i+1) zN ω ω ω e2 (by rw[e3];exact Cg) (λk hk=>e5 k ω) ?_
   rw[e4,hv,iR a h1,rr,bV,ij ω,cV,Int.pow_zero,AI,jM,pK,lL]
  ·simp only
   rw[aP ω,av]
   simp only[tu N _ ho ω ω,ar]
   rw[hv,iz ω,pR]
   congr 2
   cases na<;>cases nb<;>simp
theorem Br(hN:4000000≤N){u v:Int}(hu:Fit u 90000)(hv:Fit v 90000):et N (dA u) (dA v)=some (dA (u*v)):=by
 have lu:=hu.len
 have lv:=hv.len
 unfold et et.b
 simp only[dA]
 simp (disch:=omega) only[aR,aP,fQ,fK,dV,eU,aW,bY,c7,dZ,aw,eB,ak,av,bl,dp,ar,aI,dK,af,aS,aJ,bP,c4,aT,cr]
 have e:(((mG u.natAbs).length:Int)+((mG v.natAbs).length:Int)+1).toNat=(mG u.natAbs).length+(mG v.natAbs).length+1:=ω
 have:=DZ N hN (decide (u<0)) (decide (v<0)) (false,([],())) (ll u.natAbs) (ll v.natAbs) ω ω (mG u.natAbs).length N 0 (List.replicate ((mG u.natAbs).length+(mG v.natAbs).length+1) 0) ω ω ω (VD.aiy _) (by simp)
  (λk _=>by rw[aV,FQ];split<;>rfl) (by
   have: ∀n,dr (List.replicate n 0)=0:=λn=>by
    induction n with
    |zero=>rfl
    |succ n ih=>rw[As,dr,ih];rfl
   rw[this];simp[dr])
 rw[iG,iG]at this
 have e2:(((mG u.natAbs).length+(mG v.natAbs).length:Nat):Int)+1=(mG u.natAbs).length+(mG v.natAbs).length+1:=ω
 first
 |(rw[e];refine this.trans ?_)
 |(refine(this).trans ?_)
 show some (dA _)=some (dA _)
 congr 2
 have key:(u.natAbs:Int)*v.natAbs=if decide (u<0)=decide (v<0)then u*v else-(u*v):=by
  by_cases h1:u<0<;>by_cases h2:v<0
  ·rw[aj (by simp[h1,h2]),show(u.natAbs:Int)= -u from by omega,show(v.natAbs:Int)= -v from by omega,Int.neg_mul_neg]
  ·rw[ah (by simp[h1,h2]),show(u.natAbs:Int)= -u from by omega,show(v.natAbs:Int)=v from by omega,Int.neg_mul]
  ·rw[ah (by simp[h1,h2]),show(u.natAbs:Int)=u from by omega,show(v.natAbs:Int)= -v from by omega,AJ]
  ·rw[aj (by simp[h1,h2]),show(u.natAbs:Int)=u from by omega,show(v.natAbs:Int)=v from by omega]
 rw[key]
 split<;>simp
theorem acm{x:Int}(h0:0≤x)(h1:x<18446744073709551616):rQ .and .u64 x 1=x%2:=by
 rw[OH h0 h1 ω ω]
 have:=Np x.toNat 1
 rw[show((1:Int).toNat)=2^1-1 from rfl,this]
 omega
theorem JB{l:List Int}{k:Nat}(x:Int)(h:k<l.length):dr ((l.set k x).drop k)=x+4294967296*dr (l.drop (k+1)):=by
 rw[lS,ns l x h,List.drop_set_of_lt ω]
theorem Kk(N:Nat){d:List Int}(hd:VD d)(hl:d.length≤100000)(hN:4000000≤N): ∀(k n:Nat) (out:List Int) (c:Int),k≤d.length→k<n→VD out→out.length=d.length→c=dr (d.drop k)%2→dr (out.drop k)=dr (d.drop k)/2→
  qn.l4 N n d out c ((k:Int)-1)=some (mG (dr d/2).toNat,dr d%2)
 |k,0,out,c,_,hn,_,_,_,_=>ω
 |0,n+1,out,c,_,_,ho,Cg,hc,hv=>by
  unfold qn.l4 qn.dQ
  simp (disch:=omega) only[aR,aP,fQ,fK,dV,eU,aW,bY,c7,dZ,aw,eB,ak,av,bl,dp,ar,aI,dK,af,aS,aJ,bP,c4,aT,cr,L4 N ho ω ω]
  rw[cV,cV]at hv
  rw[cV]at hc
  rw[hv,hc]
 |k+1,n+1,out,c,hk,hn,ho,Cg,hc,hv=>by
  unfold qn.l4 qn.dQ
  have e:((k+1:Nat):Int)-1=(k:Int):=ω
  obtain⟨g0,g1⟩:=hd.getD k
  have hn0:=lj (hd.drop (k+1))
  have e1:=lS d k
  simp only[e,aI]
  rw[aiz ω]
  generalize hx:d.getD k 0=x at*
  rw[eB (x:=c*4294967296) ω ω,VS g0 g1 ω ω]
  simp (disch:=omega) only[aR,aP,fQ,fK,dV,eU,aW,bY,c7,dZ,aw,eB,ak,av,bl,dp,ar,aI,dK,af,aS,aJ,bP,c4,aT,cr,apI,acm]
  refine Kk N hd hl hN k n (out.set k ((x+c*4294967296)/2)) ((x+c*4294967296)%2) ω ω (ho.set _ ω ω) (by rw[bP];exact Cg) (by rw[e1,hc];omega) ?_
  rw[JB _ ω,hv,e1]
  omega
theorem acn(hN:4000000≤N)(m:Nat)(h:(mG m).length≤100000):qn N (mG m)=some (mG (m/2),((m%2:Nat):Int)):=by
 unfold qn qn.b
 simp (disch:=omega) only[aR,aP,fQ,fK,dV,eU,aW,bY,c7,dZ,aw,eB,ak,av,bl,dp,ar,aI,dK,af,aS,aJ,bP,c4,aT,cr]
 have:=Kk N (ll m) h hN (mG m).length N (List.replicate (mG m).length 0) 0 (aH _) ω (VD.aiy _) (by simp) (by rw[mT];rfl) (by rw[mT,jf (by simp)];rfl)
 rw[iG]at this
 rw[this]
 congr 2
def bin(n:Nat):List Int:=if n=0 then []else((n%2:Nat):Int)::bin (n/2)
termination_by n
decreasing_by omega
theorem Fw{n:Nat}(h:n≠0):bin n=((n%2:Nat):Int)::bin (n/2):=by rw[bin];simp[h]
theorem xC:bin 0=[]:=by rw[bin];rfl
def Bs:List Int→Int
 |[]=>0
 |d::r=>d+2*Bs r
theorem aco(n:Nat):Bs (bin n)=n:=by
 induction n using Nat.strongRecOn with
 |_ n ih=>
  by_cases h:n=0
  ·subst h;rw[xC];rfl
  ·rw[Fw h,Bs,ih _ ω];omega
theorem acp(n:Nat): ∀d∈bin n,d=0∨d=1:=by
 induction n using Nat.strongRecOn with
 |_ n ih=>
  by_cases h:n=0
  ·subst h;rw[xC];intro d hd;cases hd
  ·rw[Fw h];intro d hd
   rcases a8.1 hd with rfl|hd
   ·omega
   ·exact ih _ ω d hd
theorem acq(k:Nat): ∀n,n<2^k→(bin n).length≤k:=by
 induction k with
 |zero=>
  intro n h;have:n=0:=by simpa using h
  subst this;rw[xC];simp
 |succ k ih=>
  intro n h
  by_cases hn:n=0
  ·subst hn;rw[xC];simp
  ·rw[Fw hn,aT]
   have:=ih (n/2) (by rw[AF]at h;omega)
   omega
theorem YP{n k:Nat}(h:n<4294967296^k):(bin n).length≤32*k:=acq _ _ (nM h (by rw[Nat.pow_mul];exact aH _))
theorem Kl(N:Nat)(hN:4000000≤N)(x2 x3 x4 x5:aL): ∀(m n:Nat) (t:Nat) (bits:List Int),(bin t).length≤m→m<n→(mG t).length≤100000→bits.length+(bin t).length≤4000000→
  je.l3 N n x2 x3 x4 x5 bits (mG t)=je.l9 N N x2 x3 x4 x5 (bits++bin t) (false,([],())) (false,([],())) (((bits++bin t).length:Int)-1)
 |m,0,t,bits,_,hn,_,_=>ω
 |m,n+1,t,bits,hm,hn,hd,hb=>by
  unfold je.l3 je.nr
  by_cases ht:t=0
  ·subst ht
   rw[lh,xC]
   simp (disch:=omega) only[aR,aP,fQ,fK,dV,eU,aW,bY,c7,dZ,aw,eB,ak,av,bl,dp,ar,aI,dK,af,aS,aJ,bP,c4,aT,cr,cw]
  ·have N8:0<(mG t).length:=by
    apply pD.2
    intro h;rw[Bn]at h;omega
   rw[Fw ht]at hm hb ⊢
   rw[aT]at hm hb
   have hdl:(mG (t/2)).length≤100000:=by
    have:=L1 _ t hd
    exact yG _ _ (Nat.lt_of_le_of_lt (Nat.div_le_self _ _) this)
   simp (disch:=omega) only[aR,aP,fQ,fK,dV,eU,aW,bY,c7,dZ,aw,eB,ak,av,bl,dp,ar,aI,dK,af,aS,aJ,bP,c4,aT,cr,acn N hN t hd]
   rw[Kl N hN x2 x3 x4 x5 (m-1) n (t/2) (bits++[((t%2:Nat):Int)]) ω ω hdl (by simp;omega)]
   simp
theorem VT(l:List Int){i:Nat}(h:i<l.length):Bs (l.drop i)=l.getD i 0+2*Bs (l.drop (i+1)):=by
 rw[qF h,Bs,aV,bm h];rfl
theorem D0: ∀{l:List Int},(∀d∈l,d=0∨d=1)→0≤Bs l
 |[],_=>fW _
 |d::r,h=>by
  have h1:=D0 (l:=r) λx hx=>h x (aZ _ hx)
  have:=h d (bs ..)
  simp only[Bs];omega
theorem vy: ∀(l:List Int) (i:Nat),(∀d∈l,d=0∨d=1)→Bs (l.drop i)≤Bs l
 |l,0,_=>fW _
 |[],i+1,_=>fW _
 |d::r,i+1,h=>by
  have h1:=vy r i λx hx=>h x (aZ _ hx)
  have h2:=D0 (l:=r) λx hx=>h x (aZ _ hx)
  have:=h d (bs ..)
  rw[List.drop_succ_cons,Bs];omega
theorem uE(N:Nat)(hN:4000000≤N)(a d:Int)(hd:0<d)(T7:Fit a 80000)(VU:Fit d 80000)(x4 x5:aL){bits:List Int}(hb: ∀x∈bits,x=0∨x=1)(hbv:Bs bits=a.natAbs)(xf:bits.length≤4000000):
  ∀(k n:Nat) (q r:Int),k≤bits.length→k<n→0≤q→0≤r→r<d→Bs (bits.drop k)=q*d+r→
  je.l9 N n (dA a) (dA d) x4 x5 bits (dA q) (dA r) ((k:Int)-1)=some (dA (a/d),dA (a%d))
 |k,0,q,r,_,hn,_,_,_,_=>ω
 |0,n+1,q,r,_,_,hq,hr,kB,hv=>by
  unfold je.l9 je.vz
  rw[cV,hbv]at hv
  have hqa:q≤a.natAbs:=by
   have:q*1≤q*d:=yp ω hq
   omega
  have fq:Fit q 900000:=(T7.of_le (u:=q) ω).mono ω
  have fr:Fit r 900000:=(VU.of_le (u:=r) ω).mono ω
  have f1:Fit 1 900000:=(Fit.i64 (v:=1) ω ω).mono ω
  have fq':Fit (-q) 900000:=fq.neg
  have fd:Fit d 900000:=VU.mono ω
  rw[fK ω,av]
  by_cases ha:a<0
  ·have XP:(a.natAbs:Int)= -a:=ω
   have e0:(dA a).1=true:=aU ha
   simp only[e0,bl,av,qO,ar]
   by_cases XO:r=0
   ·subst XO
    rw[dV (by unfold wN;simp),ak]
    simp only[oZ N hN fq,ar]
    have e1:a=d*(-q):=by rw[AJ,jm];omega
    have e2:a/d= -q:=by rw[e1,Int.mul_ediv_cancel_left _ ω]
    have e3:a%d=0:=by rw[e1,Int.mul_emod_right]
    rw[e2,e3]
   ·rw[eU (by unfold wN;rw[ah ω,aj ω];omega),av]
    simp (disch:=omega) only[oZ N hN fq,dP N ω (show-9223372036854775808≤(1:Int)by omega) ω,ar,vv N hN fq' f1,vv N hN fd fr]
    have e1:a=(d-r)+d*(-q-1):=by rw[Int.mul_sub,AJ,Int.mul_one,jm];omega
    have e2:a/d= -q-1:=by
     rw[e1,NJ _ _ ω,ND ω ω];omega
    have e3:a%d=d-r:=by rw[e1,Nt,Int.emod_eq_of_lt ω ω]
    rw[e2,e3]
  ·have XP:(a.natAbs:Int)=a:=ω
   have e0:(dA a).1=false:=bx ha
   simp only[e0,dp,ak]
   have e1:a=r+d*q:=by rw[jm];omega
   have e2:a/d=q:=by rw[e1,NJ _ _ ω,ND hr kB];omega
   have e3:a%d=r:=by rw[e1,Nt,Int.emod_eq_of_lt hr kB]
   rw[e2,e3]
 |k+1,n+1,q,r,hk,hn,hq,hr,kB,hv=>by
  unfold je.l9 je.vz
  have e:((k+1:Nat):Int)-1=(k:Int):=ω
  have hle:=vy bits k hb
  have avN:=vy bits (k+1) hb
  rw[hbv]at hle avN
  have hqa:q≤a.natAbs:=by
   have:q*1≤q*d:=yp ω hq
   omega
  have fq:Fit q 80000:=T7.of_le ω
  have fr:Fit r 80000:=VU.of_le ω
  have fqq:=fq.add fq
  have frr:=fr.add fr
  have f1:Fit 1 80000:=(Fit.i64 (v:=1) ω ω).mono ω
  have hvk:=VT bits (i:=k) ω
  have EO:bits.getD k 0=0∨bits.getD k 0=1:=by
   rw[aV,bm (show k<bits.length by omega)]
   exact hb _ (dJ _)
  rw[e,fQ ω,ak]
  have e2q:(q+q)*d=2*(q*d):=by rw[←Int.two_mul,lL]
  have apM:(q+q+1)*d=2*(q*d)+d:=by rw[pK,e2q,AI]
  simp (disch:=omega) only[aR,aP,fQ,fK,dV,eU,aW,bY,c7,dZ,aw,eB,ak,av,bl,dp,ar,aI,dK,af,aS,aJ,bP,c4,aT,cr,kG N hN (fq.mono ω) (fq.mono ω),kG N hN (fr.mono ω) (fr.mono ω),dP N ω (show-9223372036854775808≤(1:Int)by omega) ω]
  rcases EO with EO|EO
  ·rw[EO,eU ω,av]
   simp only[R6 N hN (frr.mono ω) (VU.mono ω),ar]
   by_cases TK:d≤r+r
   ·rw[fQ (by unfold wN;split<;>(try split)<;>omega),ak]
    simp only[vv N hN (frr.mono ω) (VU.mono ω),kG N hN (fqq.mono ω) (f1.mono ω),ar]
    refine uE N hN a d hd T7 VU x4 x5 hb hbv xf k n _ _ ω ω ω ω ω ?_
    rw[hvk,EO,hv,apM];omega
   ·rw[fK (by unfold wN;rw[aj ω];omega),av]
    refine uE N hN a d hd T7 VU x4 x5 hb hbv xf k n _ _ ω ω ω ω ω ?_
    rw[hvk,EO,hv,e2q];omega
  ·rw[EO,dV rfl,ak]
   have apN:=frr.add (f1.mono (show 80000≤80001 by omega))
   simp only[kG N hN (frr.mono ω) (f1.mono ω),R6 N hN (apN.mono ω) (VU.mono ω),ar]
   by_cases TK:d≤r+r+1
   ·rw[fQ (by unfold wN;split<;>(try split)<;>omega),ak]
    simp only[vv N hN (apN.mono ω) (VU.mono ω),kG N hN (fqq.mono ω) (f1.mono ω),ar]
    refine uE N hN a d hd T7 VU x4 x5 hb hbv xf k n _ _ ω ω ω ω ω ?_
    rw[hvk,EO,hv,apM];omega
   ·rw[fK (by unfold wN;rw[aj ω];omega),av]
    refine uE N hN a d hd T7 VU x4 x5 hb hbv xf k n _ _ ω ω ω ω ω ?_
    rw[hvk,EO,hv,e2q];omega
theorem T8(hN:5000000≤N){a d:Int}(hd:0<d)(T7:Fit a 80000)(VU:Fit d 80000):je N (dA a) (dA d)=some (dA (a/d),dA (a%d)):=by
 unfold je je.b
 have xf:(bin a.natAbs).length≤32*80000:=YP T7
 have h1:=Kl N ω (dA a) (dA d) (false,([],())) (false,([],())) (bin a.natAbs).length N a.natAbs [] (aH _) ω (ct T7.len ω) (by simp;omega)
 rw[cN]at h1
 refine h1.trans ?_
 rw[←lT]
 exact uE N ω a d hd T7 VU _ _ (acp _) (aco _) ω (bin a.natAbs).length N 0 0 (aH _) ω ω ω hd (by rw[mT];simp[Bs])
def cL(v:Int):bS:=(v/18446744073709551616,(v%18446744073709551616,()))
theorem wmk{a b v:Int}(h1:a=v/18446744073709551616)(h2:b=v%18446744073709551616):((a,(b,())):bS)=cL v:=by
 unfold cL;rw[h1,h2]
theorem T9{a b v:Int}{α:Type}{c:α}(h1:a=v/18446744073709551616)(h2:b=v%18446744073709551616):(some (((a,(b,())):bS),c):Option (bS×α))=some (cL v,c):=by
 rw[wmk h1 h2]
theorem YQ{a b c d:Int}(h1:a=c)(h2:b=d):(some (a,b):Option (Int×Int))=some (c,d):=by rw[h1,h2]
theorem zO{hi lo:Int}(h0:0≤hi)(h1:hi<9223372036854775808)(l0:0≤lo)(l1:lo<18446744073709551616):qP N false hi lo=some (cL (hi*18446744073709551616+lo),true):=by
 unfold qP qP.b
 rw[dp,ak,fK ω,av,aw ω ω]
 exact T9 ω ω
theorem Hh{hi lo:Int}(h0:0≤hi)(l0:0≤lo)(l1:lo<18446744073709551616)(hm:hi*18446744073709551616+lo≤170141183460469231731687303715884105728):qP N true hi lo=some (cL (-(hi*18446744073709551616+lo)),true):=by
 unfold qP qP.b
 have hj:qP.j7 N hi lo c8=some (cL (-(hi*18446744073709551616+lo)),true):=by
  unfold qP.j7 qP.Xp
  rw[mF N ω ω l0 l1 ω ω,ar]
  by_cases hl:lo=0
  ·subst hl
   rw[ah ω]
   rw[mF N ω ω h0 ω ω ω,ar,gF]
   exact T9 (by split<;>omega) ω
  ·rw[aj ω]
   rw[mF N ω ω h0 ω ω ω,ar,gF]
   exact T9 (by split<;>omega) ω
 rw[bl,av,aP ω,av]
 by_cases he:hi=9223372036854775808
 ·rw[dV he,ak,aP ω,av];exact hj
 ·rw[eU he,av];exact hj
theorem JC{a b:Int}(a0: -9223372036854775808≤a)(a1:a<9223372036854775808)(b0: -9223372036854775808≤b)(b1:b<9223372036854775808):
  0≤(a.natAbs:Int)*b.natAbs∧(a.natAbs:Int)*b.natAbs≤85070591730234615865843651857942052864:=by
 have:=mul_lt (m:=9223372036854775808) (n:=9223372036854775808) (show 0≤(a.natAbs:Int)by omega) (show 0≤(b.natAbs:Int)by omega) ω ω
 omega
theorem L8{a b:Int}(a0: -9223372036854775808≤a)(a1:a<9223372036854775808)(b0: -9223372036854775808≤b)(b1:b<9223372036854775808):VV N a b=some (cL (a*b)):=by
 unfold VV
 have hm:=JC a0 a1 b0 b1
 simp only[L0 N a0 a1,L0 N b0 b1,ar,Ha N (show 0≤(a.natAbs:Int)by omega) ω (show 0≤(b.natAbs:Int)by omega) ω,pR]
 obtain⟨m,hme⟩: ∃m,m=(a.natAbs:Int)*b.natAbs:=⟨_,rfl⟩
 rw[←hme]at hm ⊢
 have hd:m/18446744073709551616*18446744073709551616+m%18446744073709551616=m:=ω
 by_cases h1:a<0<;>by_cases h2:b<0
 ·rw[aR h1,aR h2,AB,bl,zO N ω ω ω ω,ar,hd]
  have:m=a*b:=by rw[hme,show(a.natAbs:Int)= -a from by omega,show(b.natAbs:Int)= -b from by omega,Int.neg_mul_neg]
  rw[this]
 ·rw[aR h1,aP (x:=b) ω,show(!(true==false))=true from rfl,Hh N ω ω ω ω,ar,hd]
  have:m= -(a*b):=by rw[hme,show(a.natAbs:Int)= -a from by omega,show(b.natAbs:Int)=b from by omega,Int.neg_mul]
  rw[this,Int.neg_neg]
 ·rw[aP (x:=a) ω,aR h2,show(!(false==true))=true from rfl,Hh N ω ω ω ω,ar,hd]
  have:m= -(a*b):=by rw[hme,show(a.natAbs:Int)=a from by omega,show(b.natAbs:Int)= -b from by omega,AJ]
  rw[this,Int.neg_neg]
 ·rw[aP (x:=a) ω,aP (x:=b) ω,AB,bl,zO N ω ω ω ω,ar,hd]
  have:m=a*b:=by rw[hme,show(a.natAbs:Int)=a from by omega,show(b.natAbs:Int)=b from by omega]
  rw[this]
theorem YR{v:Int}(v0: -170141183460469231731687303715884105728≤v)(v1:v<170141183460469231731687303715884105728):acr N (cL v)=some ((v.natAbs:Int)/18446744073709551616,(v.natAbs:Int)%18446744073709551616):=by
 unfold acr cL
 dsimp only
 by_cases h:0≤v
 ·rw[fQ ω,ak,eB ω ω]
  exact YQ ω ω
 ·rw[fK ω,av,mF N ω ω ω ω ω ω,ar]
  dsimp only
  rw[pQ]
  by_cases hl:v%18446744073709551616=0
  ·rw[ah ω,mF N ω ω ω ω ω ω,ar]
   exact YQ ω ω
  ·rw[aj ω,mF N ω ω ω ω ω ω,ar]
   exact YQ ω ω
theorem acs{v:Int}(v0: -170141183460469231731687303715884105728≤v)(v1:v<170141183460469231731687303715884105728):R7 N (cL v)=some (CG v):=by
 unfold R7 cL
 rw[aP ω,av]
 dsimp only
 have hw0: -9223372036854775808≤W .i64 (v%18446744073709551616)∧W .i64 (v%18446744073709551616)<9223372036854775808:=by rw[gF];split<;>omega
 rw[vt hw0.1 hw0.2]
 have hwv:W .i64 (v%18446744073709551616)=if 9223372036854775808≤v%18446744073709551616 then v%18446744073709551616-18446744073709551616 else v%18446744073709551616:=by rw[gF];split<;>split<;>omega
 rw[hwv]
 unfold CG
 by_cases h: -9223372036854775808≤v∧v<9223372036854775808
 ·rw[aj h]
  by_cases hn:v<0
  ·rw[aj (show 9223372036854775808≤v%18446744073709551616 by omega),aj ω,dV ω,bl,av]
   congr 2;omega
  ·rw[ah (show ¬9223372036854775808≤v%18446744073709551616 by omega),ah ω,dV ω,bl,av]
   congr 2;omega
 ·rw[ah h]
  by_cases hm:9223372036854775808≤v%18446744073709551616
  ·rw[aj hm,aj ω,eU ω,dp,ak]
  ·rw[ah hm,ah ω,eU ω,dp,ak]
end VM
end
section
namespace VM
open Go
variable(N:Nat)
theorem cond_not{α:Type}(b:Bool)(x y:α):cond (!b) x y=cond b y x:=by cases b<;>rfl
theorem cA{α:Type}(a b:Int)(x y:α):cond (aX a b) x y=if a<b then x else y:=by
 by_cases h:a<b
 ·rw[aR h,aj h];rfl
 ·rw[aP ω,ah h];rfl
theorem cB{α:Type}(a b:Int)(x y:α):cond (du a b) x y=if a≤b then x else y:=by
 by_cases h:a≤b
 ·rw[fQ h,aj h];rfl
 ·rw[fK ω,ah h];rfl
theorem aM{α:Type}(a b:Int)(x y:α):cond (aN a b) x y=if a=b then x else y:=by
 by_cases h:a=b
 ·rw[dV h,aj h];rfl
 ·rw[eU h,ah h];rfl
theorem fY{α:Type}(p:Prop) [Decidable p](x y:α):cond (decide p) x y=if p then x else y:=by
 by_cases h:p
 ·rw[aU h,aj h];rfl
 ·rw[bx h,ah h];rfl
theorem drop_cons{α:Type}{l:List α}{i:Nat}(h:i<l.length)(d:α):l.drop i=l.getD i d::l.drop (i+1):=by
 rw[qF h,aV,bm h];rfl
theorem n0{α σ β:Type}(l:List α)(d:α)(F:Nat→Int→σ→Option β)(g:List α→σ→Option β)(I:Nat→σ→Prop)
  (hs: ∀n i s,i<l.length→I i s→(∀s',I (i+1) s'→F n ((i+1:Nat):Int) s'=g (l.drop (i+1)) s')→F (n+1) (i:Int) s=g (l.getD i d::l.drop (i+1)) s)
  (he: ∀n s,I l.length s→F (n+1) (l.length:Int) s=g [] s): ∀m n i s,l.length-i≤m→m<n→i≤l.length→I i s→F n (i:Int) s=g (l.drop i) s
 |m,0,i,s,_,hn,_,_=>ω
 |m,n+1,i,s,hm,hn,hi,hI=>by
  by_cases h:i<l.length
  ·rw[drop_cons h d]
   exact hs n i s h hI λs' zj=>n0 l d F g I hs he (m-1) n (i+1) s' ω ω ω zj
  ·have:i=l.length:=ω
   subst this
   rw[mT];exact he n s hI
theorem D1{α β:Type}(l:List α)(d:α)(F:Nat→Int→Option β)(g:List α→Option β)
  (hs: ∀n i,i<l.length→F n ((i+1:Nat):Int)=g (l.drop (i+1))→F (n+1) (i:Int)=g (l.getD i d::l.drop (i+1)))
  (he: ∀n,F (n+1) (l.length:Int)=g []) (n:Nat) (hn:l.length<n):F n 0=g l:=by
 have:=n0 (σ:=Unit) l d (λn i _=>F n i) (λl _=>g l) (λ_ _=>True) (λn i _ h _ hr=>hs n i h (hr () trivial)) (λn _ _=>he n) l.length n 0 () ω hn ω trivial
 simpa using this
theorem scan{F:Nat→Int→Option Bool}{len:Nat}(P:Nat→Prop) [DecidablePred P]
  (hs: ∀n i r,i<len→(∀j,j<i→P j)→F n ((i+1:Nat):Int)=r→F (n+1) (i:Int)=if P i then r else some false) {e:Bool} (he: ∀n,F (n+1) (len:Int)=some e):
  ∀m n i,len-i≤m→m<n→i≤len→(∀j,j<i→P j)→F n (i:Int)=some (decide (∀j,j<len→i≤j→P j)&&e)
 |m,0,i,_,hn,_,_=>ω
 |m,n+1,i,hm,hn,hi,hp=>by
  by_cases h:i<len
  ·rw[hs n i _ h hp rfl]
   by_cases hP:P i
   ·rw[aj hP,scan P hs he (m-1) n (i+1) ω ω ω (λj hj=>by
     by_cases zJ:j=i
     ·subst zJ;exact hP
     ·exact hp j ω)]
    congr 2
    rw[nQ]
    refine⟨λhj j h2 h1=> ?_,λhj j h2 h1=>hj j h2 ω⟩
    by_cases zJ:j=i
    ·subst zJ;exact hP
    ·exact hj j h2 ω
   ·rw[ah hP,bx (λhj=>hP (hj i h (aH i)))];rfl
  ·have:i=len:=ω
   subst this
   rw[he n,aU (λj h2 h1=>absurd h2 ω)];rfl
theorem iH{F:Nat→Int→Option Bool}{len:Nat}(P:Nat→Prop) [DecidablePred P]{e:Bool}
  (hs: ∀n i r,i<len→(∀j,j<i→P j)→F n ((i+1:Nat):Int)=r→F (n+1) (i:Int)=if P i then r else some false) (he: ∀n,F (n+1) (len:Int)=some e) (n:Nat) (hn:len<n):
  F n 0=some (decide (∀j,j<len→P j)&&e):=by
 have:=scan P hs he len n 0 ω hn ω (λj hj=>absurd hj ω)
 rw[show((0:Nat):Int)=0 from rfl]at this
 rw[this]
 congr 2
 rw[nQ]
 exact⟨λh j hj=>h j hj ω,λh j hj _=>h j hj⟩
end VM
end
