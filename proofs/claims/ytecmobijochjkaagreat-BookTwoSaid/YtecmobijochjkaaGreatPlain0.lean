/- A part of the proof of BookTwo of layer 18: what the functions compute, in plain words. -/
import Derived.Test.YtecmobijochjkaaGreatVm0
import GoSem.Claim
import Derived.Test.YtecmobijochjkaaGreatText
set_option linter.all false
section
namespace VM
open Go
theorem pZ(x:Int):W .u64 x=x%18446744073709551616:=by rw[Gj];simp[IntKind.wrap,IntKind.bits,IntKind.signed]
theorem eE{x:Int}(h0:0≤x)(h1:x<18446744073709551616):W .u64 x=x:=by rw[pZ];omega
theorem gF(x:Int):W .i64 x=if 9223372036854775808≤x%18446744073709551616 then x%18446744073709551616-18446744073709551616 else x%18446744073709551616:=by
 rw[Gj];simp[IntKind.wrap,IntKind.bits,IntKind.signed]
theorem aw{x:Int}(h0: -9223372036854775808≤x)(h1:x<9223372036854775808):W .i64 x=x:=by
 rw[gF];split<;>omega
theorem wf_u64{x:Int}:(Lit.int .u64 x).wf=true↔0≤x∧x≤18446744073709551615:=by simp[Lit.wf,IntKind.min,IntKind.max,IntKind.bits,IntKind.signed]
theorem wf_u32{x:Int}:(Lit.int .u32 x).wf=true↔0≤x∧x≤4294967295:=by simp[Lit.wf,IntKind.min,IntKind.max,IntKind.bits,IntKind.signed]
theorem aR{x y:Int}(h:x<y):aX x y=true:=by rw[qw];exact aU h
theorem aP{x y:Int}(h:y≤x):aX x y=false:=by rw[qw];exact bu ω
theorem fM{x y:Int}(h:x≤y):du x y=true:=by rw[m0];exact aU h
theorem fF{x y:Int}(h:y<x):du x y=false:=by rw[m0];exact bu ω
theorem dZ{x y:Int}(h:x=y):aN x y=true:=by rw[ko];exact aU h
theorem eR{x y:Int}(h:x≠y):aN x y=false:=by rw[ko];exact bu h
theorem aW{i:Int}{n:Nat}(h0:0≤i)(h1:i<n):bc i n=true:=by rw[X1];exact aU ⟨h0,h1⟩
theorem bS{n:Nat}(h:n<68719476736):small n=true:=by rw[Gk];exact aU (by simpa [A2]using h)
theorem c9{l c:Int}(h0:0≤l)(h1:l≤c)(h2:c<68719476736):kT l c=true:=by rw[JT];exact aU (by simp only[A2];omega)
theorem eh{l h m n:Int}(h0:0≤l)(h1:l≤h)(h2:h≤m)(h3:m≤n):jq l h m n=true:=by rw[sb];exact aU ⟨h0,h1,h2,h3⟩
theorem af(n:Nat):(n:Int)+1=((n+1:Nat):Int):=rfl
theorem tK(x:Int)(h0:0≤x)(h1:x<18446744073709551616):(BitVec.ofInt 64 x).toNat=x.toNat:=by
 rw[BitVec.toNat_ofInt];congr 1;omega
theorem OJ{x y:Int}(hx:0≤x)(RY:x<18446744073709551616)(hy:0≤y)(hy1:y<18446744073709551616):sd .and .u64 x y=((x.toNat&&& y.toNat:Nat):Int):=by
 rw[vt]
 have h:((BitVec.ofInt 64 x&&& BitVec.ofInt 64 y).toNat)=x.toNat&&& y.toNat:=by rw[BitVec.toNat_and,tK x hx RY,tK y hy hy1]
 show IntKind.u64.wrap (((BitVec.ofInt 64 x&&& BitVec.ofInt 64 y).toNat:Nat):Int)=_
 rw[h,←Gj]
 have:x.toNat&&& y.toNat≤x.toNat:=Nat.and_le_left
 exact eE ω ω
theorem Ul{x y:Int}(hx:0≤x)(RY:x<18446744073709551616)(hy:0≤y)(hy1:y<18446744073709551616):sd .or .u64 x y=((x.toNat|||y.toNat:Nat):Int):=by
 rw[vt]
 have h:((BitVec.ofInt 64 x|||BitVec.ofInt 64 y).toNat)=x.toNat|||y.toNat:=by rw[BitVec.toNat_or,tK x hx RY,tK y hy hy1]
 show IntKind.u64.wrap (((BitVec.ofInt 64 x|||BitVec.ofInt 64 y).toNat:Nat):Int)=_
 rw[h,←Gj]
 have:x.toNat|||y.toNat<2^64:=Nat.or_lt_two_pow ω ω
 exact eE ω ω
theorem o7{x:Int}(h0:0≤x)(h1:x<18446744073709551616):sd .and .u64 x 4294967295=x%4294967296:=by
 rw[OJ h0 h1 ω ω]
 have:=Nr x.toNat 32
 rw[show((4294967295:Int).toNat)=2^32-1 from rfl,this]
 omega
theorem LW{x y:Int}(h0:0≤y)(h1:y≤64):shr .u64 x y=x/2^y.toNat:=by
 rw[R5]
 have:min y.toNat IntKind.u64.bits=y.toNat:=by simp[IntKind.bits];omega
 rw[this,Nu]
 exact_mod_cast bz _
theorem Um(x:Int):shr .u64 x 32=x/4294967296:=by rw[LW ω ω];rfl
theorem ap7(x:Int):shr .u64 x 1=x/2:=by rw[LW ω ω];rfl
theorem vK{x:Int}(h0: -9223372036854775808≤x)(h1:x<9223372036854775808):shr .i64 x 63=if x<0 then-1 else 0:=by
 rw[R5]
 have:(2:Int)^(min (63:Int).toNat IntKind.i64.bits)=9223372036854775808:=by rfl
 rw[this,Nu _ ω]
 split<;>omega
theorem acJ{x y:Int}(h0:0≤y)(h1:y≤64):shl .u64 x y=x*2^y.toNat:=by
 rw[X2]
 have:min y.toNat IntKind.u64.bits=y.toNat:=by simp[IntKind.bits];omega
 rw[this]
theorem mul_lt{a b m n:Int}(ha:0≤a)(hb:0≤b)(ham:a≤m)(hbn:b≤n):0≤a*b∧a*b≤m*n:=
 ⟨uF ha hb,gN (AA ham hb) (yI hbn ω)⟩
end VM
end
section
namespace VM
open Go VM.F
theorem Wd(a b:Int):a*b=(a/4294967296)*(b/4294967296)*18446744073709551616+((a/4294967296)*(b%4294967296)+(a%4294967296)*(b/4294967296))*4294967296+(a%4294967296)*(b%4294967296):=by
 have ha:a=(a/4294967296)*4294967296+a%4294967296:=ω
 have hb:b=(b/4294967296)*4294967296+b%4294967296:=ω
 generalize a/4294967296=a1 at*
 generalize a%4294967296=a0 at*
 generalize b/4294967296=b1 at*
 generalize b%4294967296=b0 at*
 subst ha;subst hb
 simp only[nX,mA]
 have e1:a1*4294967296*(b1*4294967296)=a1*b1*18446744073709551616:=by
  rw[lI,Int.mul_left_comm 4294967296,←lI];rfl
 have e2:a1*4294967296*b0=a1*b0*4294967296:=by rw[lI,jl 4294967296,←lI]
 have e3:a0*(b1*4294967296)=a0*b1*4294967296:=by rw[←lI]
 rw[e1,e2,e3];omega
theorem Hc(N:Nat){a b:Int}(ha:0≤a)(ha1:a<18446744073709551616)(hb:0≤b)(nr:b<18446744073709551616):
  We N a b=some (a*b/18446744073709551616,a*b%18446744073709551616):=by
 unfold We
 have hm:=Wd a b
 have h1:=mul_lt (m:=4294967295) (n:=4294967295) (show 0≤a/4294967296 by omega) (show 0≤b/4294967296 by omega) ω ω
 have h2:=mul_lt (m:=4294967295) (n:=4294967295) (show 0≤a/4294967296 by omega) (show 0≤b%4294967296 by omega) ω ω
 have h3:=mul_lt (m:=4294967295) (n:=4294967295) (show 0≤a%4294967296 by omega) (show 0≤b/4294967296 by omega) ω ω
 have h4:=mul_lt (m:=4294967295) (n:=4294967295) (show 0≤a%4294967296 by omega) (show 0≤b%4294967296 by omega) ω ω
 simp only[aP (show(0:Int)≤32 by omega),av,o7 ha ha1,o7 hb nr,Um]
 generalize a/4294967296=a1 at*
 generalize a%4294967296=a0 at*
 generalize b/4294967296=b1 at*
 generalize b%4294967296=b0 at*
 generalize a*b=ab at*
 generalize a1*b1=p at*
 generalize a1*b0=q at*
 generalize a0*b1=r at*
 generalize a0*b0=s at*
 rw[eE (x:=q) ω ω,eE (x:=s) ω ω,eE (x:=r) ω ω,eE (x:=p) ω ω,eE (x:=q+s/4294967296) ω ω,
  o7 ω ω,eE (x:=(q+s/4294967296)%4294967296+r) ω ω,eE (x:=p+(q+s/4294967296)/4294967296) ω ω,eE (x:=p+(q+s/4294967296)/4294967296+_) ω ω,pZ]
 congr 2
 omega
theorem LX(N:Nat){x:Int}(h0: -9223372036854775808≤x)(h1:x<9223372036854775808):Wf N x=some (x.natAbs:Int):=by
 unfold Wf
 by_cases h:x<0
 ·rw[aR h,ak,pZ,pZ];congr 1;omega
 ·rw[aP ω,av,pZ];congr 1;omega
theorem xS(N:Nat){x y c:Int}(hx:0≤x)(hy:0≤y)(hc:0≤c)(DT:c≤1):uO N x y c=some ((x+y+c)%18446744073709551616,(x+y+c)/18446744073709551616):=by
 unfold uO;rw[aj ⟨hx,hy,hc,DT⟩]
theorem mF(N:Nat){x y c:Int}(hx:0≤x)(RY:x<18446744073709551616)(hy:0≤y)(hy1:y<18446744073709551616)(hc:0≤c)(DT:c≤1):
  tD N x y c=some ((x-y-c)%18446744073709551616,if x<y+c then 1 else 0):=by
 unfold tD;rw[aj ⟨hx,RY,hy,hy1,hc,DT⟩];congr 2;omega
structure xT(Y tf Hd gO He q rh:Int):Prop where
 hY:Y=tf*4294967296+Hd
 y1:2147483648≤tf
 y1':tf<4294967296
 y0:0≤Hd
 y0':Hd<4294967296
 u1:0≤He
 u1':He<4294967296
 lt:gO<Y
 q0:0≤q
 eq:q*tf+rh=gO
 r0:0≤rh
 q1:q≤4294967297
 ge:(gO*4294967296+He)/Y≤q
theorem xT.prod{Y tf Hd gO He q rh:Int}(g:xT Y tf Hd gO He q rh):q*Y=(gO-rh)*4294967296+q*Hd∧0≤q*Hd∧q*Hd≤18446744073709551615:=by
 have h:=mul_lt (m:=4294967297) (n:=4294967295) g.q0 g.y0 g.q1 (by have:=g.y0';omega)
 refine⟨?_,h.1,ω⟩
 rw[g.hY,mA,←lI,show q*tf=gO-rh from by have:=g.eq;omega]
theorem xT.pos{Y tf Hd gO He q rh:Int}(g:xT Y tf Hd gO He q rh):0<Y:=by have:=g.hY;have:=g.y1;have:=g.y0;omega
theorem xT.digit{Y tf Hd gO He q rh:Int}(g:xT Y tf Hd gO He q rh)(h:0≤gO):0≤(gO*4294967296+He)/Y∧(gO*4294967296+He)/Y<4294967296:=by
 have hp:=g.pos
 have:=g.u1;have:=g.u1';have:=g.lt
 refine⟨uC ω ω,?_⟩
 rw[AG hp];omega
theorem xT.next{Y tf Hd gO He q rh:Int}(g:xT Y tf Hd gO He q rh)(hu:0≤gO)(h:4294967296≤q∨4294967296*rh+He<q*Hd):xT Y tf Hd gO He (q-1) (rh+tf)∧1≤q:=by
 have hp:=g.pos
 have h1:=g.prod.1
 have hd:=g.digit hu
 have eU:(gO*4294967296+He)/Y<q:=by
  rcases h with h|h
  ·omega
  ·rw[AG hp];omega
 have:=g.q1;have:=g.r0;have:=g.y1
 exact⟨⟨g.hY,g.y1,g.y1',g.y0,g.y0',g.u1,g.u1',g.lt,ω,by rw[Int.sub_mul,AY];have:=g.eq;omega,ω,ω,ω⟩,ω⟩
theorem xT.first{Y tf Hd gO He:Int}(hY:Y=tf*4294967296+Hd)(y1:2147483648≤tf)(y1':tf<4294967296)(y0:0≤Hd)(y0':Hd<4294967296)(u1:0≤He)(u1':He<4294967296)(hu:0≤gO)(lt:gO<Y):
  xT Y tf Hd gO He (gO/tf) (gO-gO/tf*tf)∧gO-gO/tf*tf<4294967296∧0≤gO/tf*tf∧gO/tf*tf≤gO:=by
 have h1:=NI gO tf
 have h2:=AJ gO (show 0<tf by omega)
 have h3:=Gc gO (show tf≠0 by omega)
 have wT:0≤gO/tf:=uC hu ω
 rw[jl]at h1
 have hq1:gO/tf≤4294967297:=by
  have:gO/tf<4294967298:=by rw[AG ω];omega
  omega
 have RX:(gO*4294967296+He)/Y≤gO/tf:=by
  have eU:gO*4294967296+He<(gO/tf+1)*Y:=by
   have e:gO+1≤(gO/tf+1)*tf:=by rw[nX,AY];omega
   have e2:(gO/tf+1)*Y=(gO/tf+1)*tf*4294967296+(gO/tf+1)*Hd:=by rw[hY,mA,lI]
   have e3:0≤(gO/tf+1)*Hd:=uF ω y0
   omega
  have:(gO*4294967296+He)/Y<gO/tf+1:=by rw[AG ω];exact eU
  omega
 exact⟨⟨hY,y1,y1',y0,y0',u1,u1',lt,wT,ω,ω,hq1,RX⟩,ω,uF wT ω,ω⟩
def dr:List Int→Int
 |[]=>0
 |d::r=>d+4294967296*dr r
def VD(l:List Int):Prop:= ∀d∈l,0≤d∧d<4294967296
def mG(n:Nat):List Int:=if n=0 then []else((n%4294967296:Nat):Int)::mG (n/4294967296)
termination_by n
decreasing_by omega
theorem la:mG 0=[]:=by rw[mG];rfl
theorem yW{n:Nat}(h:n≠0):mG n=((n%4294967296:Nat):Int)::mG (n/4294967296):=by rw[mG];simp[h]
theorem VD.nil:VD []:=λd h=>by cases h
theorem VD.cons{d:Int}{l:List Int}(h0:0≤d)(h1:d<4294967296)(h:VD l):VD (d::l):=λx hx=>by
 rcases a8.1 hx with rfl|hx
 ·exact⟨h0,h1⟩
 ·exact h x hx
theorem VD.tail{d:Int}{l:List Int}(h:VD (d::l)):VD l:=λx hx=>h x (aZ _ hx)
theorem VD.append{a b:List Int}(h:VD a)(k:VD b):VD (a++b):=λx hx=>(bl.1 hx).elim (h x) (k x)
theorem VD.drop{l:List Int}(h:VD l)(n:Nat):VD (l.drop n):=λx hx=>h x (mQ hx)
theorem VD.take{l:List Int}(h:VD l)(n:Nat):VD (l.take n):=λx hx=>h x (lH hx)
theorem VD.getD{l:List Int}(h:VD l)(n:Nat):0≤l.getD n 0∧l.getD n 0<4294967296:=by
 rw[aV]
 cases hn:l[n]? with
 |none=>exact⟨fR _,δ⟩
 |some x=>exact h x (List.mem_of_getElem? hn)
theorem VD.set{l:List Int}(h:VD l)(n:Nat){x:Int}(h0:0≤x)(h1:x<4294967296):VD (l.set n x):=λy hy=>by
 rcases ux hy with hy|rfl
 ·exact h y hy
 ·exact⟨h0,h1⟩
theorem VD.ai5(n:Nat):VD (List.replicate n 0):=λx hx=>by rw[AD hx];exact⟨fR _,δ⟩
theorem ld: ∀{l:List Int},VD l→0≤dr l
 |[],_=>fR _
 |d::r,h=>by
  have:=ld h.tail
  have:=(h d (bq ..)).1
  simp only[dr];omega
theorem iH(n:Nat):dr (mG n)=n:=by
 induction n using Nat.strongRecOn with
 |_ n ih=>
  by_cases h:n=0
  ·subst h;rw[la];rfl
  ·rw[yW h,dr,ih _ ω];omega
theorem lf(n:Nat):VD (mG n):=by
 induction n using Nat.strongRecOn with
 |_ n ih=>
  by_cases h:n=0
  ·subst h;rw[la];exact VD.nil
  ·rw[yW h];exact VD.cons ω ω (ih _ ω)
theorem BD{n:Nat}:mG n=[]↔n=0:=by
 constructor
 ·intro h
  by_cases hn:n=0
  ·exact hn
  ·rw[yW hn]at h;cases h
 ·rintro rfl;exact la
theorem yX(k:Nat): ∀n,n<4294967296^k→(mG n).length≤k:=by
 induction k with
 |zero=>
  intro n h;have:n=0:=by simpa using h
  subst this;rw[la];simp
 |succ k ih=>
  intro n h
  by_cases hn:n=0
  ·subst hn;rw[la];simp
  ·rw[yW hn,aT]
   have:=ih (n/4294967296) (by rw[NJ ω];rw[AV]at h;exact h)
   omega
theorem LY(k:Nat): ∀n,(mG n).length≤k→n<4294967296^k:=by
 induction k with
 |zero=>
  intro n h
  have:mG n=[]:=vo ω
  rw[BD]at this;subst this;decide
 |succ k ih=>
  intro n h
  by_cases hn:n=0
  ·subst hn;exact Nat.pow_pos δ
  ·rw[yW hn,aT]at h
   have:=ih (n/4294967296) ω
   rw[NJ ω]at this
   rw[AV];exact this
def strip:List Int→List Int
 |[]=>[]
 |d::r=>if strip r=[]∧d=0 then []else d::strip r
theorem OK: ∀{l:List Int},VD l→strip l=mG (dr l).toNat
 |[],_=>by rw[show(dr []).toNat=0 from rfl,la];rfl
 |d::r,h=>by
  have ih:=OK h.tail
  have h0:=ld h.tail
  obtain⟨h1,h2⟩:=h d (bq ..)
  simp only[strip,dr,ih,BD]
  split
  ·rename_i hc
   obtain⟨hc,rfl⟩:=hc
   have:dr r=0:=ω
   rw[this];exact la.symm
  ·rename_i hc
   have kq:(d+4294967296*dr r).toNat≠0:=λhe=>hc ⟨ω,ω⟩
   rw[yW kq]
   congr 1
   ·omega
   ·congr 1;omega
theorem Hf: ∀(l:List Int) (x:Int),strip (l++[x])=if x=0 then strip l else l++[x]
 |[],x=>by simp[strip]
 |d::r,x=>by
  simp only[mV,strip,Hf r x]
  split
  ·rfl
  ·simp
theorem iT(l:List Int){k:Nat}(h:k<l.length):l.take (k+1)=l.take k++[l.getD k 0]:=by
 rw[List.take_succ_eq_append_getElem h,aV,bo h];rfl
theorem Ka(N:Nat)(l:List Int)(hl:l.length<68719476736): ∀(k n:Nat),k≤l.length→k<n→o8.l2 N n l (k:Int)=some (strip (l.take k))
 |0,n+1,_,_=>by
  unfold o8.l2 o8.fG
  simp (disch:=omega) only[aR,aP,fM,fF,dZ,eR,aW,bS,c9,eh,aw,eE,ak,av,bh,dp,ar,aI,dP,af,aS,aK,bN,c4,aT,cj]
  simp[strip]
 |k+1,n+1,hk,hn=>by
  unfold o8.l2 o8.fG
  have e:((k+1:Nat):Int)-1=(k:Int):=ω
  simp (disch:=omega) only[aR,aP,fM,fF,dZ,eR,aW,bS,c9,eh,aw,eE,ak,av,bh,dp,ar,aI,dP,af,aS,aK,bN,c4,aT,cj,e]
  have ih:=Ka N l hl k n ω ω
  rw[iT l ω,Hf]
  by_cases h:l.getD k 0=0
  ·rw[dZ h,ak,ih,aj h]
  ·rw[eR h,av,ah h]
   simp only[dP,cQ]
theorem LZ(N:Nat){l:List Int}(h:VD l)(hN:l.length<N)(hl:l.length<68719476736):o8 N l=some (mG (dr l).toNat):=by
 unfold o8 o8.b
 rw[Ka N l hl l.length N (aH _) hN,ij,OK h]
def dz(v:Int):aM:=(decide (v<0),(mG v.natAbs,()))
theorem tL(N:Nat)(neg:Bool){l:List Int}(h:VD l)(hN:l.length<N)(hl:l.length<68719476736):Za N neg l=some (dz (if neg then-dr l else dr l)):=by
 unfold Za
 rw[LZ N h hN hl,ar]
 have h0:=ld h
 cases neg
 ·simp only[av,dz,jM,fC]
  rw[bu ω]
  congr 4;omega
 ·simp only[ak,dz,g9]
  have e:(-dr l).natAbs=(dr l).toNat:=ω
  rw[e]
  congr 2
  by_cases hz:dr l=0
  ·rw[hz,dP,la,aP (by simp),bu ω]
  ·have:0<(mG (dr l).toNat).length:=by
    apply pO.2
    intro hd;rw[BD]at hd;omega
   rw[aR ω,aU ω]
theorem size_eq(N:Nat)(hN:1000≤N){u:Int}(h0:0≤u)(h1:u<18446744073709551616):F83 N u=some (mG u.toNat):=by
 unfold F83
 rw[o7 h0 h1,Um]
 have hv:VD [u%4294967296,u/4294967296]:=VD.cons ω ω (VD.cons ω ω VD.nil)
 simp (disch:=omega) only[aR,aP,fM,fF,dZ,eR,aW,bS,c9,eh,aw,eE,ak,av,bh,dp,ar,aI,dP,af,aS,aK,bN,c4,aT,cj,LZ N hv (by simp;omega) (by simp)]
 congr 2
 simp only[dr];omega
theorem dC(N:Nat)(hN:1000≤N){x:Int}(h0: -9223372036854775808≤x)(h1:x<9223372036854775808):lh N x=some (dz x):=by
 unfold lh
 have hd: ∀n:Nat,n<18446744073709551616→(mG n).length≤2:=λn h=>yX 2 n (by simpa using h)
 by_cases h:x<0
 ·have e:W .u64 (0-W .u64 x)= -x:=by rw[pZ,pZ];omega
  simp only[aR h,ak,e,size_eq N hN (show 0≤ -x by omega) ω,ar]
  have:=hd (-x).toNat ω
  rw[tL N true (lf _) ω ω,iH,aj rfl,show-(((-x).toNat:Nat):Int)=x from by omega];rfl
 ·have e:W .u64 x=x:=eE ω ω
  simp only[aP (show 0≤x by omega),av,e,size_eq N hN (show 0≤x by omega) ω,ar]
  have:=hd x.toNat ω
  rw[tL N false (lf _) ω ω,iH,ah rP,xd ω];rfl
theorem xU(N:Nat)(l:List Int)(i:Nat):F93 N l (i:Int)=some (l.getD i 0):=by
 unfold F93
 by_cases h:i<l.length
 ·simp (disch:=omega) only[aR,aP,fM,fF,dZ,eR,aW,bS,c9,eh,aw,eE,ak,av,bh,dp,ar,aI,dP,af,aS,aK,bN,c4,aT,cj]
 ·simp (disch:=omega) only[aR,aP,fM,fF,dZ,eR,aW,bS,c9,eh,aw,eE,ak,av,bh,dp,ar,aI,dP,af,aS,aK,bN,c4,aT,cj]
  rw[aV,ig ω];rfl
theorem lP(l:List Int)(i:Nat):dr (l.drop i)=l.getD i 0+4294967296*dr (l.drop (i+1)):=by
 by_cases h:i<l.length
 ·rw[qU h,dr,aV,bo h];rfl
 ·rw[jL ω,jL ω,aV,ig ω];rfl
theorem OL(N:Nat){a b:List Int}(ha:VD a)(hb:VD b)(Ac:a.length≤1000000)(R2:b.length≤1000000): ∀(m n i:Nat) (out:List Int) (c:Int),a.length+b.length+2-i≤m→m<n→out.length=i→i≤a.length+b.length+1→0≤c→c≤1→(a.length≤i→b.length≤i→i=max a.length b.length∨c=0)→
  ∃r,wJ.l4 N n a b out c (i:Int)=some (out++r)∧VD r∧dr r=dr (a.drop i)+dr (b.drop i)+c∧r.length≤m
 |m,0,i,out,c,_,hn,_,_,_,_,_=>ω
 |m,n+1,i,out,c,hm,hn,ho,hi,TW,DT,hz=>by
  unfold wJ.l4 wJ.dU
  by_cases OM:a.length≤i∧b.length≤i∧c=0
  ·obtain⟨h1,h2,rfl⟩:=OM
   simp (disch:=omega) only[aR,aP,fM,fF,dZ,eR,aW,bS,c9,eh,aw,eE,ak,av,bh,dp,ar,aI,dP,af,aS,aK,bN,c4,aT,cj]
   exact⟨[],by simp,VD.nil,by rw[jL h1,jL h2];rfl,bz _⟩
  ·obtain⟨ga0,ga1⟩:=ha.getD i
   obtain⟨gb0,gb1⟩:=hb.getD i
   have step: ∃r,wJ.j6 N (wJ.l4 N n) a b out c (i:Int)=some (out++r)∧VD r∧dr r=dr (a.drop i)+dr (b.drop i)+c∧r.length≤m:=by
    unfold wJ.j6 wJ.ON
    have zB:i≤a.length+b.length:=by
     by_cases h1:a.length≤i∧b.length≤i
     ·rcases hz h1.1 h1.2 with h|h
      ·omega
      ·exact absurd ⟨h1.1,h1.2,h⟩ OM
     ·omega
    simp only[xU,ar]
    generalize hga:a.getD i 0=x at*
    generalize hgb:b.getD i 0=y at*
    rw[eE (x:=x+y) ω ω,eE (x:=c+(x+y)) ω ω,o7 ω ω,Um]
    simp (disch:=omega) only[aR,aP,fM,fF,dZ,eR,aW,bS,c9,eh,aw,eE,ak,av,bh,dp,ar,aI,dP,af,aS,aK,bN,c4,aT,cj]
    obtain⟨r,hr,hv,hs,JX⟩:=OL N ha hb Ac R2 (m-1) n (i+1) (out++[(c+(x+y))%4294967296]) ((c+(x+y))/4294967296) ω ω (by simp[ho]) ω ω ω (λh1 h2=>by
     by_cases h3:a.length≤i∧b.length≤i
     ·right
      rw[←hga,←hgb,aV,ig h3.1,aV,ig h3.2]
      simp only[Option.getD_none];omega
     ·left;omega)
    refine⟨(c+(x+y))%4294967296::r,by rw[hr];simp,VD.cons ω ω hv,?_,by rw[aT];omega⟩
    rw[dr,hs,lP a i,lP b i,hga,hgb];omega
   by_cases h1:i<a.length
   ·simp (disch:=omega) only[aR,ak];exact step
   ·by_cases h2:i<b.length
    ·simp (disch:=omega) only[aR,aP,ak,av];exact step
    ·have:0<c:=ω
     simp (disch:=omega) only[aR,aP,ak,av];exact step
theorem Un: ∀{l:List Int},VD l→dr l<4294967296^l.length
 |[],_=>by simp[dr]
 |d::r,h=>by
  have ih:=Un h.tail
  obtain⟨h1,h2⟩:=h d (bq ..)
  rw[dr,aT,AW]
  generalize (4294967296:Int)^r.length=p at*
  omega
theorem OO(N:Nat)(hN:4000000≤N){a b:List Int}(ha:VD a)(hb:VD b)(Ac:a.length≤1000000)(R2:b.length≤1000000): ∃r,wJ N a b=some r∧VD r∧dr r=dr a+dr b∧r.length≤2000002:=by
 unfold wJ wJ.b
 obtain⟨r,hr,hv,hs,hl⟩:=OL N ha hb Ac R2 (a.length+b.length+2) N 0 [] 0 ω ω rfl ω ω ω (λ_ _=> .inr rfl)
 exact⟨r,hr,hv,by simpa using hs,ω⟩
theorem Hg(N:Nat){a b:List Int}(ha:VD a)(hb:VD b)(Ac:a.length≤1000000): ∀(m n i:Nat) (out:List Int) (c:Int),a.length-i≤m→m<n→out.length=i→i≤a.length→0≤c→c≤1→0≤dr (a.drop i)-dr (b.drop i)-c→
  ∃r,FC.l4 N n a b out c (i:Int)=some (out++r)∧VD r∧dr r=dr (a.drop i)-dr (b.drop i)-c∧r.length≤m
 |m,0,i,out,c,_,hn,_,_,_,_,_=>ω
 |m,n+1,i,out,c,hm,hn,ho,hi,TW,DT,hz=>by
  unfold FC.l4 FC.dU
  by_cases h1:i<a.length
  ·obtain⟨ga0,ga1⟩:=ha.getD i
   obtain⟨gb0,gb1⟩:=hb.getD i
   rw[lP a i,lP b i]at*
   simp only[xU,ar,aI]
   generalize hga:a.getD i 0=x at*
   generalize hgb:b.getD i 0=y at*
   rw[eE (x:=y+c) ω ω,eE (x:=x+4294967296) ω ω]
   by_cases eU:x<y+c
   ·rw[eE (x:=x+4294967296-(y+c)) ω ω]
    simp (disch:=omega) only[aR,aP,fM,fF,dZ,eR,aW,bS,c9,eh,aw,eE,ak,av,bh,dp,ar,aI,dP,af,aS,aK,bN,c4,aT,cj,hga,hgb]
    obtain⟨r,hr,hv,hs,JX⟩:=Hg N ha hb Ac (m-1) n (i+1) (out++[x+4294967296-(y+c)]) 1 ω ω (by simp[ho]) ω ω ω ω
    refine⟨(x+4294967296-(y+c))::r,by rw[hr];simp,VD.cons ω ω hv,by rw[dr,hs];omega,by rw[aT];omega⟩
   ·rw[eE (x:=x-(y+c)) ω ω]
    simp (disch:=omega) only[aR,aP,fM,fF,dZ,eR,aW,bS,c9,eh,aw,eE,ak,av,bh,dp,ar,aI,dP,af,aS,aK,bN,c4,aT,cj,hga,hgb]
    obtain⟨r,hr,hv,hs,JX⟩:=Hg N ha hb Ac (m-1) n (i+1) (out++[x-(y+c)]) 0 ω ω (by simp[ho]) ω ω ω ω
    refine⟨(x-(y+c))::r,by rw[hr];simp,VD.cons ω ω hv,by rw[dr,hs];omega,by rw[aT];omega⟩
  ·simp (disch:=omega) only[aR,aP,fM,fF,dZ,eR,aW,bS,c9,eh,aw,eE,ak,av,bh,dp,ar,aI,dP,af,aS,aK,bN,c4,aT,cj]
   have h0:=ld (hb.drop i)
   rw[jL (l:=a) ω]at hz ⊢
   simp only[dr]at hz ⊢
   exact⟨[],by simp,VD.nil,by simp only[dr];omega,bz _⟩
theorem D7(N:Nat)(hN:4000000≤N){a b:List Int}(ha:VD a)(hb:VD b)(Ac:a.length≤1000000)(h:dr b≤dr a): ∃r,FC N a b=some r∧VD r∧dr r=dr a-dr b∧r.length≤1000000:=by
 unfold FC FC.b
 obtain⟨r,hr,hv,hs,hl⟩:=Hg N ha hb Ac a.length N 0 [] 0 ω ω rfl ω ω ω (by simp;omega)
 exact⟨r,hr,hv,by simpa using hs,ω⟩
theorem rI: ∀(l:List Int) (x:Int),dr (l++[x])=dr l+4294967296^l.length*x
 |[],x=>by simp[dr]
 |d::r,x=>by
  rw[mV,dr,rI r x,dr,aT,AW,jl _ 4294967296,lI,mA];omega
theorem OP{a b:List Int}(ha:VD a)(hb:VD b){k:Nat}(h1:k<a.length)(h2:k<b.length)(eU:a.getD k 0<b.getD k 0):dr (a.take (k+1))<dr (b.take (k+1)):=by
 rw[iT a h1,iT b h2,rI,rI]
 have l1:(a.take k).length=k:=by rw[bZ];omega
 have l2:(b.take k).length=k:=by rw[bZ];omega
 have v1:=Un (ha.take k)
 have v2:=ld (hb.take k)
 rw[l1]at*
 rw[l2]
 generalize (4294967296:Int)^k=p at*
 have hp:0<p:=by have:=ld (ha.take k);omega
 have:=yI (show a.getD k 0+1≤b.getD k 0 by omega) (Int.le_of_lt hp)
 rw[mA,Int.mul_one]at this
 omega
def w7(x:Int):Int:=if x<0 then-1 else if 0<x then 1 else 0
theorem OQ(N:Nat){a b:List Int}(ha:VD a)(hb:VD b)(hl:a.length=b.length)(Ac:a.length≤1000000): ∀(k n:Nat),k≤a.length→k<n→EX.l6 N n a b ((k:Int)-1)=some (w7 (dr (a.take k)-dr (b.take k)))
 |k,0,_,hn=>ω
 |0,n+1,_,_=>by
  unfold EX.l6 EX.uU
  simp (disch:=omega) only[aR,aP,fM,fF,dZ,eR,aW,bS,c9,eh,aw,eE,ak,av,bh,dp,ar,aI,dP,af,aS,aK,bN,c4,aT,cj]
  simp[w7,dr]
 |k+1,n+1,hk,hn=>by
  unfold EX.l6 EX.uU
  have e:((k+1:Nat):Int)-1=(k:Int):=ω
  rw[e]
  simp (disch:=omega) only[aR,aP,fM,fF,dZ,eR,aW,bS,c9,eh,aw,eE,ak,av,bh,dp,ar,aI,dP,af,aS,aK,bN,c4,aT,cj]
  by_cases h1:a.getD k 0<b.getD k 0
  ·rw[aR h1,ak]
   have:=OP ha hb (k:=k) ω ω h1
   rw[w7,aj ω]
  ·rw[aP ω,av]
   by_cases h2:b.getD k 0<a.getD k 0
   ·rw[aR h2,ak]
    have:=OP hb ha (k:=k) ω ω h2
    rw[w7,ah ω,aj ω]
   ·rw[aP ω,av,OQ N ha hb hl Ac k n ω ω]
    congr 2
    rw[iT a ω,iT b ω,rI,rI,show a.getD k 0=b.getD k 0 from by omega,bZ,bZ,hl]
    omega
theorem OR(N:Nat)(hN:4000000≤N)(m k:Nat)(hm:(mG m).length≤1000000)(hk:(mG k).length≤1000000):EX N (mG m) (mG k)=some (w7 ((m:Int)-k)):=by
 unfold EX EX.b
 by_cases h:(mG m).length=(mG k).length
 ·simp (disch:=omega) only[aR,aP,fM,fF,dZ,eR,aW,bS,c9,eh,aw,eE,ak,av,bh,dp,ar,aI,dP,af,aS,aK,bN,c4,aT,cj]
  rw[OQ N (lf m) (lf k) h hm (mG m).length N (aH _) ω,ij,h,ij,iH,iH]
 ·rw[eR ω,dp,ak]
  by_cases eU:(mG m).length<(mG k).length
  ·rw[aR ω,ak]
   have h1:=LY ((mG k).length-1) m ω
   have h2: ¬(k<4294967296^((mG k).length-1)):=λh=>by have:=yX _ _ h;omega
   rw[w7,aj ω]
  ·rw[aP ω,av]
   have h1:=LY ((mG m).length-1) k ω
   have h2: ¬(m<4294967296^((mG m).length-1)):=λh=>by have:=yX _ _ h;omega
   rw[w7,ah ω,aj ω]
def Fit(v:Int)(k:Nat):Prop:=v.natAbs<4294967296^k
theorem Fit.len{v:Int}{k:Nat}(h:Fit v k):(mG v.natAbs).length≤k:=yX k _ h
theorem Fit.mono{v:Int}{j k:Nat}(h:Fit v j)(hjk:j≤k):Fit v k:=nQ h (Nat.pow_le_pow_right δ hjk)
theorem Fit.neg{v:Int}{k:Nat}(h:Fit v k):Fit (-v) k:=by unfold Fit at*;rwa [Int.natAbs_neg]
theorem Fit.i64{v:Int}(h0: -9223372036854775808≤v)(h1:v<9223372036854775808):Fit v 2:=by
 unfold Fit
 rw[show(4294967296:Nat)^2=18446744073709551616 from by decide];omega
theorem Fit.add{u v:Int}{k:Nat}(hu:Fit u k)(hv:Fit v k):Fit (u+v) (k+1):=by
 unfold Fit at*
 rw[AV]
 have:(u+v).natAbs≤u.natAbs+v.natAbs:=Int.natAbs_add_le u v
 generalize 4294967296^k=p at*
 omega
theorem Fit.mul{u v:Int}{j k:Nat}(hu:Fit u j)(hv:Fit v k):Fit (u*v) (j+k):=by
 unfold Fit at*
 rw[Gd,Nat.pow_add]
 exact Nat.mul_lt_mul'' hu hv
theorem Fit.of_le{u v:Int}{k:Nat}(hv:Fit v k)(h:u.natAbs≤v.natAbs):Fit u k:=Nat.lt_of_le_of_lt h hv
theorem p3(a b:Bool):pC .bool a b=(a==b):=by simp[pC]
theorem kF(N:Nat)(hN:4000000≤N){u v:Int}(hu:Fit u 900000)(hv:Fit v 900000):BE N (dz u) (dz v)=some (dz (u+v)):=by
 have lu:=hu.len
 have lv:=hv.len
 unfold BE
 simp only[dz,p3]
 by_cases hs:decide (u<0)=decide (v<0)
 ·rw[hs,AS,ak]
  obtain⟨r,hr,hvd,LF,hl⟩:=OO N hN (lf u.natAbs) (lf v.natAbs) ω ω
  simp only[hr,ar,tL N _ hvd ω ω,LF,iH]
  congr 1
  show dz _=dz _
  congr 1
  by_cases h:v<0
  ·have:u<0:=by simpa [h]using hs
   rw[aj (aU h)];omega
  ·have: ¬u<0:=by simpa [h]using hs
   rw[ah (by simpa using h)];omega
 ·have hb:(decide (u<0)==decide (v<0))=false:=by simpa using hs
  rw[hb,av,OR N hN _ _ ω ω,ar]
  by_cases hc:v.natAbs≤u.natAbs
  ·have h1:du 0 (w7 ((u.natAbs:Int)-v.natAbs))=true:=fM (by unfold w7;split<;>(try split)<;>omega)
   obtain⟨r,hr,hvd,LF,hl⟩:=D7 N hN (lf u.natAbs) (lf v.natAbs) ω (by rw[iH,iH];omega)
   simp only[h1,ak,hr,ar,tL N _ hvd ω ω,LF,iH]
   congr 1
   show dz _=dz _
   congr 1
   by_cases h:u<0
   ·have: ¬v<0:=λhv=>hs (by simp[h,hv])
    rw[aj (aU h)];omega
   ·have:v<0:=Nx λhv=>hs (by simp[h,hv])
    rw[ah (by simpa using h)];omega
  ·have h1:du 0 (w7 ((u.natAbs:Int)-v.natAbs))=false:=fF (by unfold w7;rw[aj ω];omega)
   obtain⟨r,hr,hvd,LF,hl⟩:=D7 N hN (lf v.natAbs) (lf u.natAbs) ω (by rw[iH,iH];omega)
   simp only[h1,av,hr,ar,tL N _ hvd ω ω,LF,iH]
   congr 1
   show dz _=dz _
   congr 1
   by_cases h:v<0
   ·have: ¬u<0:=λhu=>hs (by simp[h,hu])
    rw[aj (aU h)];omega
   ·have:u<0:=Nx λhu=>hs (by simp[h,hu])
    rw[ah (by simpa using h)];omega
theorem o9(N:Nat)(hN:4000000≤N){u:Int}(hu:Fit u 900000):XU N (dz u)=some (dz (-u)):=by
 have lu:=hu.len
 unfold XU
 simp only[dz]
 simp only[tL N _ (lf u.natAbs) ω ω,ar,iH]
 congr 1
 show dz _=dz _
 congr 1
 by_cases h:u<0
 ·rw[aU h,bh,ah rP];omega
 ·rw[bu h,dp,aj rfl];omega
theorem OS(N:Nat)(hN:4000000≤N){u:Int}(hu:Fit u 900000):Zb N (dz u)=some (dz u.natAbs):=by
 have lu:=hu.len
 unfold Zb
 simp only[dz]
 simp only[tL N _ (lf u.natAbs) ω ω,ar,iH,jM,fC]
 rfl
theorem tM(N:Nat)(hN:4000000≤N){u v:Int}(hu:Fit u 900000)(hv:Fit v 900000):Uo N (dz u) (dz v)=some (dz (u-v)):=by
 unfold Uo
 simp only[o9 N hN hv,ar,kF N hN hu hv.neg,Int.sub_eq_add_neg]
theorem ob(N:Nat)(u:Int):Sq N (dz u)=some (w7 u):=by
 unfold Sq
 simp only[dz]
 by_cases h:u=0
 ·subst h
  rw[show(0:Int).natAbs=0 from rfl,la]
  simp (disch:=omega) only[aR,aP,fM,fF,dZ,eR,aW,bS,c9,eh,aw,eE,ak,av,bh,dp,ar,aI,dP,af,aS,aK,bN,c4,aT,cj]
  rfl
 ·have:0<(mG u.natAbs).length:=by
   apply pO.2
   intro hd;rw[BD]at hd;omega
  rw[eR ω,av]
  by_cases hn:u<0
  ·rw[aU hn,ak,w7,aj hn]
  ·rw[bu hn,av,w7,ah hn,aj ω]
theorem Sr(N:Nat)(hN:4000000≤N){u v:Int}(hu:Fit u 900000)(hv:Fit v 900000):R3 N (dz u) (dz v)=some (w7 (u-v)):=by
 unfold R3
 simp only[tM N hN hu hv,ar,ob]
theorem Up(l:List Int)(h: ∀x∈l,-9223372036854775808≤x∧x<9223372036854775808): -(9223372036854775808*l.length)≤l.sum∧l.sum≤9223372036854775808*l.length:=by
 induction l with
 |nil=>simp
 |cons x l ih=>
  have:=ih (λy hy=>h y (aZ _ hy))
  obtain⟨h1,h2⟩:=h x (bq ..)
  rw[cE,aT]
  omega
theorem BF{v:Int}{n:Nat}(hn:n≤1000000)(h0: -(9223372036854775808*n)≤v)(h1:v≤9223372036854775808*n):Fit v 3:=by
 unfold Fit
 rw[show(4294967296:Nat)^3=79228162514264337593543950336 from by decide]
 omega
theorem uV{l:List Int}(h: ∀x∈l,-9223372036854775808≤x∧x<9223372036854775808)(i:Nat): -9223372036854775808≤l.getD i 0∧l.getD i 0<9223372036854775808:=by
 rw[aV]
 cases hn:l[i]? with
 |none=>exact⟨δ,δ⟩
 |some x=>exact h x (List.mem_of_getElem? hn)
theorem mH(l:List Int){i:Nat}(h:i<l.length):(l.take (i+1)).sum=(l.take i).sum+l.getD i 0:=by
 rw[iT l h];simp
theorem BG(N:Nat)(hN:4000000≤N){l:List Int}(h: ∀x∈l,-9223372036854775808≤x∧x<9223372036854775808)(hl:l.length≤1000000): ∀(m n i:Nat) (z:aM),l.length-i≤m→m<n→i≤l.length→
  qB.l3 N n l z (dz (l.take i).sum) (i:Int)=some (dz l.sum)
 |m,0,i,z,_,hn,_=>ω
 |m,n+1,i,z,hm,hn,hi=>by
  unfold qB.l3 qB.nw
  by_cases h1:i<l.length
  ·obtain⟨g0,g1⟩:=uV h i
   have f1:=Up (l.take i) (λx hx=>h x (lH hx))
   rw[bZ,ik ω]at f1
   have f2:Fit (l.take i).sum 900000:=(BF (n:=i) ω f1.1 f1.2).mono ω
   have f3:Fit (l.getD i 0) 900000:=(Fit.i64 g0 g1).mono ω
   simp (disch:=omega) only[aR,aP,fM,fF,dZ,eR,aW,bS,c9,eh,aw,eE,ak,av,bh,dp,ar,aI,dP,af,aS,aK,bN,c4,aT,cj,dC N ω g0 g1,kF N hN f2 f3]
   rw[←mH l h1]
   exact BG N hN h hl (m-1) n (i+1) z ω ω ω
  ·simp (disch:=omega) only[aR,aP,fM,fF,dZ,eR,aW,bS,c9,eh,aw,eE,ak,av,bh,dp,ar,aI,dP,af,aS,aK,bN,c4,aT,cj]
   rw[iy ω]
theorem lQ:dz 0=(false,([],())):=by unfold dz;rw[show(0:Int).natAbs=0 from rfl,la];rfl
theorem Ae(N:Nat)(hN:4000000≤N){l:List Int}(h: ∀x∈l,-9223372036854775808≤x∧x<9223372036854775808)(hl:l.length≤1000000):qB N l=some (dz l.sum):=by
 unfold qB qB.b
 have:=BG N hN h hl l.length N 0 (false,([],())) ω ω ω
 rw[my,jm,lQ]at this
 exact this
theorem Zc{a b:Int}(ha:0≤a)(ha1:a<4294967296)(hb:0≤b)(nr:b<4294967296):sd .or .u64 a (b*4294967296)=a+b*4294967296:=by
 rw[Ul ha ω ω ω]
 have h:=Ns (i:=32) (b:=a.toNat) ω b.toNat
 have e:(b*4294967296).toNat=2^32*b.toNat:=ω
 rw[e,Nat.or_comm,←h];omega
theorem Wg{a b:Int}(ha:0≤a)(ha1:a<4294967296)(hb:0≤b)(nr:b<4294967296):sd .or .u64 (b*4294967296) a=a+b*4294967296:=by
 rw[Ul ω ω ha ω]
 have h:=Ns (i:=32) (b:=a.toNat) ω b.toNat
 have e:(b*4294967296).toNat=2^32*b.toNat:=ω
 rw[e,←h];omega
theorem ai6{x:Int}(h0:0≤x):shl .u64 x 32=x*4294967296:=by rw[acJ ω ω];rfl
def CO(v:Int):Int×Bool:=if-9223372036854775808≤v∧v<9223372036854775808 then(v,true)else(0,false)
theorem acL{n:Nat}(h:(mG n).length≤2):(mG n).getD 0 0+4294967296*(mG n).getD 1 0=n:=by
 have h1:=lP (mG n) 0
 have h2:=lP (mG n) 1
 rw[cQ,iH]at h1
 rw[jL (l:=mG n) (i:=1+1) h]at h2
 simp only[dr,gm]at h1 h2
 omega
theorem uq(N:Nat)(v:Int):xV N (dz v)=some (CO v):=by
 unfold xV
 simp only[dz]
 by_cases hl:2<(mG v.natAbs).length
 ·rw[aR ω,ak,CO,ah]
  intro hh
  have:=yX 2 v.natAbs (by rw[show(4294967296:Nat)^2=18446744073709551616 from by decide];omega)
  omega
 ·have h2:=acL (n:=v.natAbs) ω
  obtain⟨a0,a1⟩:=(lf v.natAbs).getD 0
  obtain⟨b0,b1⟩:=(lf v.natAbs).getD 1
  have e0:=xU N (mG v.natAbs) 0
  have e1:=xU N (mG v.natAbs) 1
  simp only[Int.natCast_zero,Int.natCast_one]at e0 e1
  rw[aP ω,av,e0,e1]
  generalize (mG v.natAbs).getD 0 0=a at*
  generalize (mG v.natAbs).getD 1 0=b at*
  simp only[ar]
  rw[aP (show(0:Int)≤32 by omega),av,ai6 b0,eE (x:=b*4294967296) ω ω,Zc a0 a1 b0 b1]
  have ev:a+b*4294967296=v.natAbs:=ω
  rw[ev]
  by_cases hn:v<0
  ·rw[aU hn,ak]
   by_cases LS:9223372036854775808<(v.natAbs:Int)
   ·rw[aR LS,ak,CO,ah ω]
   ·rw[aP ω,av,CO,aj ω,pZ,gF]
    congr 2
    split<;>omega
  ·rw[bu hn,av]
   by_cases LS:9223372036854775807<(v.natAbs:Int)
   ·rw[aR LS,ak,CO,ah ω]
   ·rw[aP ω,av,CO,aj ω,aw ω ω]
    congr 2;omega
theorem OT: ∀(l:List Int) (k:Nat) (x:Int),k<l.length→dr (l.set k x)=dr l+4294967296^k*(x-l.getD k 0)
 |d::r,0,x,_=>by simp[dr];omega
 |d::r,k+1,x,h=>by
  have ih:=OT r k x (by simpa using h)
  rw[List.set_cons_succ,dr,dr,ih,List.getD_cons_succ,AW,jl (4294967296^k) 4294967296,lI,mA];omega
theorem getD_set_ne(l:List Int){j k:Nat}(x:Int)(h:j≠k):(l.set j x).getD k 0=l.getD k 0:=by
 simp[aV,List.getElem?_set_ne h]
theorem ny(l:List Int){k:Nat}(x:Int)(h:k<l.length):(l.set k x).getD k 0=x:=by
 simp[aV,List.getElem?_set,h]
theorem vL(l:List Int){k:Nat}(h:l.length≤k):l.getD k 0=0:=by
 rw[aV,ig h];rfl
theorem D8(N:Nat)(K:aM→aM→aM→List Int→Int→Option aM){a b:List Int}(na nb:Bool)(z:aM)(ha:VD a)(hb:VD b)(i:Nat)(hi:i<a.length)(Ac:a.length≤100000)(R2:b.length≤100000):
  ∀(m n j:Nat) (out:List Int) (c:Int),b.length+1-j≤m→m<n→VD out→out.length=a.length+b.length+1→0≤c→c<4294967296→(j≤b.length→ ∀k,i+b.length≤k→out.getD k 0=0)→(b.length<j→c=0∧j=b.length+1∧ ∀k,i+b.length+1≤k→out.getD k 0=0)→
  ∃Af,kO.l7 N K n (na,(a,())) (nb,(b,())) z out (i:Int) c (j:Int)=K (na,(a,())) (nb,(b,())) z Af ((i+1:Nat):Int)∧VD Af∧Af.length=out.length∧
   dr Af=dr out+4294967296^i*(4294967296^j*(a.getD i 0*dr (b.drop j)+c))∧ ∀k,i+1+b.length≤k→Af.getD k 0=0
 |m,0,j,out,c,_,hn,_,_,_,_,_,_=>ω
 |m,n+1,j,out,c,hm,hn,ho,Cs,TW,DT,hz,FA=>by
  unfold kO.l7 kO.oP
  by_cases OM:b.length≤j∧c=0
  ·obtain⟨h1,rfl⟩:=OM
   simp (disch:=omega) only[aR,aP,fM,fF,dZ,eR,aW,bS,c9,eh,aw,eE,ak,av,bh,dp,ar,aI,dP,af,aS,aK,bN,c4,aT,cj]
   refine⟨out,rfl,ho,rfl,by rw[jL h1];simp[dr],λk hk=> ?_⟩
   by_cases hj:j≤b.length
   ·exact hz hj k ω
   ·exact(FA ω).2.2 k ω
  ·have Bd:j≤b.length:=by
    by_cases hj:j≤b.length
    ·exact hj
    ·exact absurd ⟨ω,(FA ω).1⟩ OM
   obtain⟨ga0,ga1⟩:=ha.getD i
   obtain⟨gb0,gb1⟩:=hb.getD j
   obtain⟨go0,go1⟩:=ho.getD (i+j)
   have step: ∃Af,kO.j9 N K (kO.l7 N K n) (na,(a,())) (nb,(b,())) z out (i:Int) c (j:Int)=K (na,(a,())) (nb,(b,())) z Af ((i+1:Nat):Int)∧VD Af∧Af.length=out.length∧
     dr Af=dr out+4294967296^i*(4294967296^j*(a.getD i 0*dr (b.drop j)+c))∧ ∀k,i+1+b.length≤k→Af.getD k 0=0:=by
    unfold kO.j9 kO.Js
    have eij:(i:Int)+(j:Int)=((i+j:Nat):Int):=rfl
    have hp:=mul_lt (m:=4294967295) (n:=4294967295) ga0 gb0 ω ω
    simp only[xU,ar,eij,aI]
    simp (disch:=omega) only[aR,aP,fM,fF,dZ,eR,aW,bS,c9,eh,aw,eE,ak,av,bh,dp,ar,aI,dP,af,aS,aK,bN,c4,aT,cj]
    generalize hx:out.getD (i+j) 0=x at*
    generalize ha':a.getD i 0=ai at*
    generalize eX:b.getD j 0=bj at*
    generalize hpe:ai*bj=p at*
    have hpz:b.length≤j→p=0∧x=0:=λh=>by
     rw[vL b h]at eX
     refine⟨by rw[←hpe,←eX,AX],?_⟩
     rw[←hx];exact hz Bd _ ω
    rw[o7 ω ω,Um]
    have awa:(out.set (i+j) ((c+(x+p))%4294967296)).length=a.length+b.length+1:=by rw[bN];exact Cs
    obtain⟨Af,h1,h2,h3,h4,h5⟩:=D8 N K na nb z ha hb i hi Ac R2 (m-1) n (j+1) (out.set (i+j) ((c+(x+p))%4294967296)) ((c+(x+p))/4294967296) ω ω (ho.set _ ω ω) awa ω ω
     (λh k hk=>by rw[getD_set_ne _ _ ω];exact hz Bd k hk)
     (λh=>by
      obtain⟨hp0,YI⟩:=hpz ω
      refine⟨ω,ω,λk hk=> ?_⟩
      rw[getD_set_ne _ _ ω];exact hz Bd k ω)
    refine⟨Af,h1,h2,by rw[h3,bN],?_,h5⟩
    rw[h4,OT _ _ _ ω,hx,ha',lP b j,eX,mA ai,hpe,Int.pow_add,AW]
    have e1:ai*(4294967296*dr (b.drop (j+1)))=4294967296*(ai*dr (b.drop (j+1))):=Int.mul_left_comm _ _ _
    rw[e1]
    generalize ai*dr (b.drop (j+1))=y
    generalize (4294967296:Int)^i=P
    generalize (4294967296:Int)^j=R
    rw[lI R,lI P,Int.add_assoc,←mA,←mA]
    congr 3
    omega
   by_cases h1:j<b.length
   ·simp (disch:=omega) only[aR,ak];exact step
   ·have:0<c:=ω
    simp (disch:=omega) only[aR,aP,ak,av];exact step
theorem D9(N:Nat)(hN:4000000≤N){a b:List Int}(na nb:Bool)(z:aM)(ha:VD a)(hb:VD b)(Ac:a.length≤100000)(R2:b.length≤100000):
  ∀(m n i:Nat) (out:List Int),a.length-i≤m→m<n→i≤a.length→VD out→out.length=a.length+b.length+1→(∀k,i+b.length≤k→out.getD k 0=0)→dr out=dr (a.take i)*dr b→
  kO.l3 N n (na,(a,())) (nb,(b,())) z out (i:Int)=some (dz (if na=nb then dr a*dr b else-(dr a*dr b)))
 |m,0,i,out,_,hn,_,_,_,_,_=>ω
 |m,n+1,i,out,hm,hn,hi,ho,Cs,hz,hv=>by
  unfold kO.l3 kO.nw
  by_cases h1:i<a.length
  ·simp only
   rw[aR ω,ak]
   obtain⟨Af,e1,e2,e3,e4,e5⟩:=D8 N (kO.l3 N n) na nb z ha hb i h1 Ac R2 (b.length+1) N 0 out 0 ω ω ho Cs ω ω (λ_ k hk=>hz k hk) (λh=>ω)
   rw[show((0:Nat):Int)=0 from rfl]at e1
   rw[e1]
   refine D9 N hN na nb z ha hb Ac R2 (m-1) n (i+1) Af ω ω ω e2 (by rw[e3];exact Cs) (λk hk=>e5 k ω) ?_
   rw[e4,hv,iT a h1,rI,bZ,ik ω,cQ,Int.pow_zero,AY,jN,nX,lI]
  ·simp only
   rw[aP ω,av]
   simp only[tL N _ ho ω ω,ar]
   rw[hv,iy ω,p3]
   congr 2
   cases na<;>cases nb<;>simp
theorem xW(N:Nat)(hN:4000000≤N){u v:Int}(hu:Fit u 90000)(hv:Fit v 90000):kO N (dz u) (dz v)=some (dz (u*v)):=by
 have lu:=hu.len
 have lv:=hv.len
 unfold kO kO.b
 simp only[dz]
 simp (disch:=omega) only[aR,aP,fM,fF,dZ,eR,aW,bS,c9,eh,aw,eE,ak,av,bh,dp,ar,aI,dP,af,aS,aK,bN,c4,aT,cj]
 have e:(((mG u.natAbs).length:Int)+((mG v.natAbs).length:Int)+1).toNat=(mG u.natAbs).length+(mG v.natAbs).length+1:=ω
 have:=D9 N hN (decide (u<0)) (decide (v<0)) (false,([],())) (lf u.natAbs) (lf v.natAbs) ω ω (mG u.natAbs).length N 0 (List.replicate ((mG u.natAbs).length+(mG v.natAbs).length+1) 0) ω ω ω (VD.ai5 _) (by simp)
  (λk _=>by rw[aV,FX];split<;>rfl) (by
   have: ∀n,dr (List.replicate n 0)=0:=λn=>by
    induction n with
    |zero=>rfl
    |succ n ih=>rw[AI,dr,ih];rfl
   rw[this];simp[dr])
 rw[iH,iH]at this
 have e2:(((mG u.natAbs).length+(mG v.natAbs).length:Nat):Int)+1=(mG u.natAbs).length+(mG v.natAbs).length+1:=ω
 first
 |(rw[e];refine this.trans ?_)
 |(refine(this).trans ?_)
 show some (dz _)=some (dz _)
 congr 2
 have key:(u.natAbs:Int)*v.natAbs=if decide (u<0)=decide (v<0)then u*v else-(u*v):=by
  by_cases h1:u<0<;>by_cases h2:v<0
  ·rw[aj (by simp[h1,h2]),show(u.natAbs:Int)= -u from by omega,show(v.natAbs:Int)= -v from by omega,Int.neg_mul_neg]
  ·rw[ah (by simp[h1,h2]),show(u.natAbs:Int)= -u from by omega,show(v.natAbs:Int)=v from by omega,Int.neg_mul]
  ·rw[ah (by simp[h1,h2]),show(u.natAbs:Int)=u from by omega,show(v.natAbs:Int)= -v from by omega,xm]
  ·rw[aj (by simp[h1,h2]),show(u.natAbs:Int)=u from by omega,show(v.natAbs:Int)=v from by omega]
 rw[key]
 split<;>simp
theorem acM{x:Int}(h0:0≤x)(h1:x<18446744073709551616):sd .and .u64 x 1=x%2:=by
 rw[OJ h0 h1 ω ω]
 have:=Nr x.toNat 1
 rw[show((1:Int).toNat)=2^1-1 from rfl,this]
 omega
theorem Jt{l:List Int}{k:Nat}(x:Int)(h:k<l.length):dr ((l.set k x).drop k)=x+4294967296*dr (l.drop (k+1)):=by
 rw[lP,ny l x h,List.drop_set_of_lt ω]
theorem Kb(N:Nat){d:List Int}(hd:VD d)(hl:d.length≤100000)(hN:4000000≤N): ∀(k n:Nat) (out:List Int) (c:Int),k≤d.length→k<n→VD out→out.length=d.length→c=dr (d.drop k)%2→dr (out.drop k)=dr (d.drop k)/2→
  qC.l4 N n d out c ((k:Int)-1)=some (mG (dr d/2).toNat,dr d%2)
 |k,0,out,c,_,hn,_,_,_,_=>ω
 |0,n+1,out,c,_,_,ho,Cs,hc,hv=>by
  unfold qC.l4 qC.dU
  simp (disch:=omega) only[aR,aP,fM,fF,dZ,eR,aW,bS,c9,eh,aw,eE,ak,av,bh,dp,ar,aI,dP,af,aS,aK,bN,c4,aT,cj,LZ N ho ω ω]
  rw[cQ,cQ]at hv
  rw[cQ]at hc
  rw[hv,hc]
 |k+1,n+1,out,c,hk,hn,ho,Cs,hc,hv=>by
  unfold qC.l4 qC.dU
  have e:((k+1:Nat):Int)-1=(k:Int):=ω
  obtain⟨g0,g1⟩:=hd.getD k
  have hn0:=ld (hd.drop (k+1))
  have e1:=lP d k
  simp only[e,aI]
  rw[ai6 ω]
  generalize hx:d.getD k 0=x at*
  rw[eE (x:=c*4294967296) ω ω,Wg g0 g1 ω ω]
  simp (disch:=omega) only[aR,aP,fM,fF,dZ,eR,aW,bS,c9,eh,aw,eE,ak,av,bh,dp,ar,aI,dP,af,aS,aK,bN,c4,aT,cj,ap7,acM]
  refine Kb N hd hl hN k n (out.set k ((x+c*4294967296)/2)) ((x+c*4294967296)%2) ω ω (ho.set _ ω ω) (by rw[bN];exact Cs) (by rw[e1,hc];omega) ?_
  rw[Jt _ ω,hv,e1]
  omega
theorem acN(N:Nat)(hN:4000000≤N)(m:Nat)(h:(mG m).length≤100000):qC N (mG m)=some (mG (m/2),((m%2:Nat):Int)):=by
 unfold qC qC.b
 simp (disch:=omega) only[aR,aP,fM,fF,dZ,eR,aW,bS,c9,eh,aw,eE,ak,av,bh,dp,ar,aI,dP,af,aS,aK,bN,c4,aT,cj]
 have:=Kb N (lf m) h hN (mG m).length N (List.replicate (mG m).length 0) 0 (aH _) ω (VD.ai5 _) (by simp) (by rw[mW];rfl) (by rw[mW,jL (by simp)];rfl)
 rw[iH]at this
 rw[this]
 congr 2
def bin(n:Nat):List Int:=if n=0 then []else((n%2:Nat):Int)::bin (n/2)
termination_by n
decreasing_by omega
theorem FD{n:Nat}(h:n≠0):bin n=((n%2:Nat):Int)::bin (n/2):=by rw[bin];simp[h]
theorem xX:bin 0=[]:=by rw[bin];rfl
def BH:List Int→Int
 |[]=>0
 |d::r=>d+2*BH r
theorem acO(n:Nat):BH (bin n)=n:=by
 induction n using Nat.strongRecOn with
 |_ n ih=>
  by_cases h:n=0
  ·subst h;rw[xX];rfl
  ·rw[FD h,BH,ih _ ω];omega
theorem acP(n:Nat): ∀d∈bin n,d=0∨d=1:=by
 induction n using Nat.strongRecOn with
 |_ n ih=>
  by_cases h:n=0
  ·subst h;rw[xX];intro d hd;cases hd
  ·rw[FD h];intro d hd
   rcases a8.1 hd with rfl|hd
   ·omega
   ·exact ih _ ω d hd
theorem acQ(k:Nat): ∀n,n<2^k→(bin n).length≤k:=by
 induction k with
 |zero=>
  intro n h;have:n=0:=by simpa using h
  subst this;rw[xX];simp
 |succ k ih=>
  intro n h
  by_cases hn:n=0
  ·subst hn;rw[xX];simp
  ·rw[FD hn,aT]
   have:=ih (n/2) (by rw[AV]at h;omega)
   omega
theorem Zd{n k:Nat}(h:n<4294967296^k):(bin n).length≤32*k:=acQ _ _ (nQ h (by rw[Nat.pow_mul];exact aH _))
theorem Kc(N:Nat)(hN:4000000≤N)(x2 x3 x4 x5:aM): ∀(m n:Nat) (t:Nat) (bits:List Int),(bin t).length≤m→m<n→(mG t).length≤100000→bits.length+(bin t).length≤4000000→
  je.l3 N n x2 x3 x4 x5 bits (mG t)=je.l9 N N x2 x3 x4 x5 (bits++bin t) (false,([],())) (false,([],())) (((bits++bin t).length:Int)-1)
 |m,0,t,bits,_,hn,_,_=>ω
 |m,n+1,t,bits,hm,hn,hd,hb=>by
  unfold je.l3 je.nw
  by_cases ht:t=0
  ·subst ht
   rw[la,xX]
   simp (disch:=omega) only[aR,aP,fM,fF,dZ,eR,aW,bS,c9,eh,aw,eE,ak,av,bh,dp,ar,aI,dP,af,aS,aK,bN,c4,aT,cj,cw]
  ·have N9:0<(mG t).length:=by
    apply pO.2
    intro h;rw[BD]at h;omega
   rw[FD ht]at hm hb ⊢
   rw[aT]at hm hb
   have hdl:(mG (t/2)).length≤100000:=by
    have:=LY _ t hd
    exact yX _ _ (Nat.lt_of_le_of_lt (Nat.div_le_self _ _) this)
   simp (disch:=omega) only[aR,aP,fM,fF,dZ,eR,aW,bS,c9,eh,aw,eE,ak,av,bh,dp,ar,aI,dP,af,aS,aK,bN,c4,aT,cj,acN N hN t hd]
   rw[Kc N hN x2 x3 x4 x5 (m-1) n (t/2) (bits++[((t%2:Nat):Int)]) ω ω hdl (by simp;omega)]
   simp
theorem Wh(l:List Int){i:Nat}(h:i<l.length):BH (l.drop i)=l.getD i 0+2*BH (l.drop (i+1)):=by
 rw[qU h,BH,aV,bo h];rfl
theorem Ea: ∀{l:List Int},(∀d∈l,d=0∨d=1)→0≤BH l
 |[],_=>fR _
 |d::r,h=>by
  have h1:=Ea (l:=r) λx hx=>h x (aZ _ hx)
  have:=h d (bq ..)
  simp only[BH];omega
theorem vM: ∀(l:List Int) (i:Nat),(∀d∈l,d=0∨d=1)→BH (l.drop i)≤BH l
 |l,0,_=>fR _
 |[],i+1,_=>fR _
 |d::r,i+1,h=>by
  have h1:=vM r i λx hx=>h x (aZ _ hx)
  have h2:=Ea (l:=r) λx hx=>h x (aZ _ hx)
  have:=h d (bq ..)
  rw[List.drop_succ_cons,BH];omega
theorem uW(N:Nat)(hN:4000000≤N)(a d:Int)(hd:0<d)(Uq:Fit a 80000)(Ss:Fit d 80000)(x4 x5:aM){bits:List Int}(hb: ∀x∈bits,x=0∨x=1)(hbv:BH bits=a.natAbs)(xC:bits.length≤4000000):
  ∀(k n:Nat) (q r:Int),k≤bits.length→k<n→0≤q→0≤r→r<d→BH (bits.drop k)=q*d+r→
  je.l9 N n (dz a) (dz d) x4 x5 bits (dz q) (dz r) ((k:Int)-1)=some (dz (a/d),dz (a%d))
 |k,0,q,r,_,hn,_,_,_,_=>ω
 |0,n+1,q,r,_,_,hq,hr,kB,hv=>by
  unfold je.l9 je.vN
  rw[cQ,hbv]at hv
  have hqa:q≤a.natAbs:=by
   have:q*1≤q*d:=yI ω hq
   omega
  have fq:Fit q 900000:=(Uq.of_le (u:=q) ω).mono ω
  have fr:Fit r 900000:=(Ss.of_le (u:=r) ω).mono ω
  have f1:Fit 1 900000:=(Fit.i64 (v:=1) ω ω).mono ω
  have fq':Fit (-q) 900000:=fq.neg
  have fd:Fit d 900000:=Ss.mono ω
  rw[fF ω,av]
  by_cases ha:a<0
  ·have Yj:(a.natAbs:Int)= -a:=ω
   have e0:(dz a).1=true:=aU ha
   simp only[e0,bh,av,ob,ar]
   by_cases Yi:r=0
   ·subst Yi
    rw[dZ (by unfold w7;simp),ak]
    simp only[o9 N hN fq,ar]
    have e1:a=d*(-q):=by rw[xm,jl];omega
    have e2:a/d= -q:=by rw[e1,Int.mul_ediv_cancel_left _ ω]
    have e3:a%d=0:=by rw[e1,Int.mul_emod_right]
    rw[e2,e3]
   ·rw[eR (by unfold w7;rw[ah ω,aj ω];omega),av]
    simp (disch:=omega) only[o9 N hN fq,dC N ω (show-9223372036854775808≤(1:Int)by omega) ω,ar,tM N hN fq' f1,tM N hN fd fr]
    have e1:a=(d-r)+d*(-q-1):=by rw[Int.mul_sub,xm,Int.mul_one,jl];omega
    have e2:a/d= -q-1:=by
     rw[e1,NK _ _ ω,NG ω ω];omega
    have e3:a%d=d-r:=by rw[e1,Nv,Int.emod_eq_of_lt ω ω]
    rw[e2,e3]
  ·have Yj:(a.natAbs:Int)=a:=ω
   have e0:(dz a).1=false:=bu ha
   simp only[e0,dp,ak]
   have e1:a=r+d*q:=by rw[jl];omega
   have e2:a/d=q:=by rw[e1,NK _ _ ω,NG hr kB];omega
   have e3:a%d=r:=by rw[e1,Nv,Int.emod_eq_of_lt hr kB]
   rw[e2,e3]
 |k+1,n+1,q,r,hk,hn,hq,hr,kB,hv=>by
  unfold je.l9 je.vN
  have e:((k+1:Nat):Int)-1=(k:Int):=ω
  have hle:=vM bits k hb
  have awb:=vM bits (k+1) hb
  rw[hbv]at hle awb
  have hqa:q≤a.natAbs:=by
   have:q*1≤q*d:=yI ω hq
   omega
  have fq:Fit q 80000:=Uq.of_le ω
  have fr:Fit r 80000:=Ss.of_le ω
  have fqq:=fq.add fq
  have frr:=fr.add fr
  have f1:Fit 1 80000:=(Fit.i64 (v:=1) ω ω).mono ω
  have hvk:=Wh bits (i:=k) ω
  have EV:bits.getD k 0=0∨bits.getD k 0=1:=by
   rw[aV,bo (show k<bits.length by omega)]
   exact hb _ (dO _)
  rw[e,fM ω,ak]
  have e2q:(q+q)*d=2*(q*d):=by rw[←Int.two_mul,lI]
  have aqc:(q+q+1)*d=2*(q*d)+d:=by rw[nX,e2q,AY]
  simp (disch:=omega) only[aR,aP,fM,fF,dZ,eR,aW,bS,c9,eh,aw,eE,ak,av,bh,dp,ar,aI,dP,af,aS,aK,bN,c4,aT,cj,kF N hN (fq.mono ω) (fq.mono ω),kF N hN (fr.mono ω) (fr.mono ω),dC N ω (show-9223372036854775808≤(1:Int)by omega) ω]
  rcases EV with EV|EV
  ·rw[EV,eR ω,av]
   simp only[Sr N hN (frr.mono ω) (Ss.mono ω),ar]
   by_cases RX:d≤r+r
   ·rw[fM (by unfold w7;split<;>(try split)<;>omega),ak]
    simp only[tM N hN (frr.mono ω) (Ss.mono ω),kF N hN (fqq.mono ω) (f1.mono ω),ar]
    refine uW N hN a d hd Uq Ss x4 x5 hb hbv xC k n _ _ ω ω ω ω ω ?_
    rw[hvk,EV,hv,aqc];omega
   ·rw[fF (by unfold w7;rw[aj ω];omega),av]
    refine uW N hN a d hd Uq Ss x4 x5 hb hbv xC k n _ _ ω ω ω ω ω ?_
    rw[hvk,EV,hv,e2q];omega
  ·rw[EV,dZ rfl,ak]
   have aqd:=frr.add (f1.mono (show 80000≤80001 by omega))
   simp only[kF N hN (frr.mono ω) (f1.mono ω),Sr N hN (aqd.mono ω) (Ss.mono ω),ar]
   by_cases RX:d≤r+r+1
   ·rw[fM (by unfold w7;split<;>(try split)<;>omega),ak]
    simp only[tM N hN (aqd.mono ω) (Ss.mono ω),kF N hN (fqq.mono ω) (f1.mono ω),ar]
    refine uW N hN a d hd Uq Ss x4 x5 hb hbv xC k n _ _ ω ω ω ω ω ?_
    rw[hvk,EV,hv,aqc];omega
   ·rw[fF (by unfold w7;rw[aj ω];omega),av]
    refine uW N hN a d hd Uq Ss x4 x5 hb hbv xC k n _ _ ω ω ω ω ω ?_
    rw[hvk,EV,hv,e2q];omega
theorem Ur(N:Nat)(hN:5000000≤N){a d:Int}(hd:0<d)(Uq:Fit a 80000)(Ss:Fit d 80000):je N (dz a) (dz d)=some (dz (a/d),dz (a%d)):=by
 unfold je je.b
 have xC:(bin a.natAbs).length≤32*80000:=Zd Uq
 have h1:=Kc N ω (dz a) (dz d) (false,([],())) (false,([],())) (bin a.natAbs).length N a.natAbs [] (aH _) ω (cv Uq.len ω) (by simp;omega)
 rw[cM]at h1
 refine h1.trans ?_
 rw[←lQ]
 exact uW N ω a d hd Uq Ss _ _ (acP _) (acO _) ω (bin a.natAbs).length N 0 0 (aH _) ω ω ω hd (by rw[mW];simp[BH])
def cN(v:Int):bU:=(v/18446744073709551616,(v%18446744073709551616,()))
theorem wmk{a b v:Int}(h1:a=v/18446744073709551616)(h2:b=v%18446744073709551616):((a,(b,())):bU)=cN v:=by
 unfold cN;rw[h1,h2]
theorem Us{a b v:Int}{α:Type}{c:α}(h1:a=v/18446744073709551616)(h2:b=v%18446744073709551616):(some (((a,(b,())):bU),c):Option (bU×α))=some (cN v,c):=by
 rw[wmk h1 h2]
theorem Ze{a b c d:Int}(h1:a=c)(h2:b=d):(some (a,b):Option (Int×Int))=some (c,d):=by rw[h1,h2]
theorem Ah(N:Nat){hi lo:Int}(h0:0≤hi)(h1:hi<9223372036854775808)(l0:0≤lo)(l1:lo<18446744073709551616):q6 N false hi lo=some (cN (hi*18446744073709551616+lo),true):=by
 unfold q6 q6.b
 rw[dp,ak,fF ω,av,aw ω ω]
 exact Us ω ω
theorem Hh(N:Nat){hi lo:Int}(h0:0≤hi)(l0:0≤lo)(l1:lo<18446744073709551616)(hm:hi*18446744073709551616+lo≤170141183460469231731687303715884105728):q6 N true hi lo=some (cN (-(hi*18446744073709551616+lo)),true):=by
 unfold q6 q6.b
 have hj:q6.j7 N hi lo da=some (cN (-(hi*18446744073709551616+lo)),true):=by
  unfold q6.j7 q6.XV
  rw[mF N ω ω l0 l1 ω ω,ar]
  by_cases hl:lo=0
  ·subst hl
   rw[ah ω]
   rw[mF N ω ω h0 ω ω ω,ar,gF]
   exact Us (by split<;>omega) ω
  ·rw[aj ω]
   rw[mF N ω ω h0 ω ω ω,ar,gF]
   exact Us (by split<;>omega) ω
 rw[bh,av,aP ω,av]
 by_cases he:hi=9223372036854775808
 ·rw[dZ he,ak,aP ω,av];exact hj
 ·rw[eR he,av];exact hj
theorem Ju{a b:Int}(a0: -9223372036854775808≤a)(a1:a<9223372036854775808)(b0: -9223372036854775808≤b)(b1:b<9223372036854775808):
  0≤(a.natAbs:Int)*b.natAbs∧(a.natAbs:Int)*b.natAbs≤85070591730234615865843651857942052864:=by
 have:=mul_lt (m:=9223372036854775808) (n:=9223372036854775808) (show 0≤(a.natAbs:Int)by omega) (show 0≤(b.natAbs:Int)by omega) ω ω
 omega
theorem L0(N:Nat){a b:Int}(a0: -9223372036854775808≤a)(a1:a<9223372036854775808)(b0: -9223372036854775808≤b)(b1:b<9223372036854775808):Wi N a b=some (cN (a*b)):=by
 unfold Wi
 have hm:=Ju a0 a1 b0 b1
 simp only[LX N a0 a1,LX N b0 b1,ar,Hc N (show 0≤(a.natAbs:Int)by omega) ω (show 0≤(b.natAbs:Int)by omega) ω,p3]
 obtain⟨m,hme⟩: ∃m,m=(a.natAbs:Int)*b.natAbs:=⟨_,rfl⟩
 rw[←hme]at hm ⊢
 have hd:m/18446744073709551616*18446744073709551616+m%18446744073709551616=m:=ω
 by_cases h1:a<0<;>by_cases h2:b<0
 ·rw[aR h1,aR h2,AS,bh,Ah N ω ω ω ω,ar,hd]
  have:m=a*b:=by rw[hme,show(a.natAbs:Int)= -a from by omega,show(b.natAbs:Int)= -b from by omega,Int.neg_mul_neg]
  rw[this]
 ·rw[aR h1,aP (x:=b) ω,show(!(true==false))=true from rfl,Hh N ω ω ω ω,ar,hd]
  have:m= -(a*b):=by rw[hme,show(a.natAbs:Int)= -a from by omega,show(b.natAbs:Int)=b from by omega,Int.neg_mul]
  rw[this,Int.neg_neg]
 ·rw[aP (x:=a) ω,aR h2,show(!(false==true))=true from rfl,Hh N ω ω ω ω,ar,hd]
  have:m= -(a*b):=by rw[hme,show(a.natAbs:Int)=a from by omega,show(b.natAbs:Int)= -b from by omega,xm]
  rw[this,Int.neg_neg]
 ·rw[aP (x:=a) ω,aP (x:=b) ω,AS,bh,Ah N ω ω ω ω,ar,hd]
  have:m=a*b:=by rw[hme,show(a.natAbs:Int)=a from by omega,show(b.natAbs:Int)=b from by omega]
  rw[this]
theorem Zf(N:Nat){v:Int}(v0: -170141183460469231731687303715884105728≤v)(v1:v<170141183460469231731687303715884105728):acR N (cN v)=some ((v.natAbs:Int)/18446744073709551616,(v.natAbs:Int)%18446744073709551616):=by
 unfold acR cN
 dsimp only
 by_cases h:0≤v
 ·rw[fM ω,ak,eE ω ω]
  exact Ze ω ω
 ·rw[fF ω,av,mF N ω ω ω ω ω ω,ar]
  dsimp only
  rw[pZ]
  by_cases hl:v%18446744073709551616=0
  ·rw[ah ω,mF N ω ω ω ω ω ω,ar]
   exact Ze ω ω
  ·rw[aj ω,mF N ω ω ω ω ω ω,ar]
   exact Ze ω ω
theorem acS(N:Nat){v:Int}(v0: -170141183460469231731687303715884105728≤v)(v1:v<170141183460469231731687303715884105728):F92 N (cN v)=some (CO v):=by
 unfold F92 cN
 rw[aP ω,av]
 dsimp only
 have hw0: -9223372036854775808≤W .i64 (v%18446744073709551616)∧W .i64 (v%18446744073709551616)<9223372036854775808:=by rw[gF];split<;>omega
 rw[vK hw0.1 hw0.2]
 have hwv:W .i64 (v%18446744073709551616)=if 9223372036854775808≤v%18446744073709551616 then v%18446744073709551616-18446744073709551616 else v%18446744073709551616:=by rw[gF];split<;>split<;>omega
 rw[hwv]
 unfold CO
 by_cases h: -9223372036854775808≤v∧v<9223372036854775808
 ·rw[aj h]
  by_cases hn:v<0
  ·rw[aj (show 9223372036854775808≤v%18446744073709551616 by omega),aj ω,dZ ω,bh,av]
   congr 2;omega
  ·rw[ah (show ¬9223372036854775808≤v%18446744073709551616 by omega),ah ω,dZ ω,bh,av]
   congr 2;omega
 ·rw[ah h]
  by_cases hm:9223372036854775808≤v%18446744073709551616
  ·rw[aj hm,aj ω,eR ω,dp,ak]
  ·rw[ah hm,ah ω,eR ω,dp,ak]
end VM
end
section
namespace VM
open Go
theorem cond_not{α:Type}(b:Bool)(x y:α):cond (!b) x y=cond b y x:=by cases b<;>rfl
theorem cy{α:Type}(a b:Int)(x y:α):cond (aX a b) x y=if a<b then x else y:=by
 by_cases h:a<b
 ·rw[aR h,aj h];rfl
 ·rw[aP ω,ah h];rfl
theorem cz{α:Type}(a b:Int)(x y:α):cond (du a b) x y=if a≤b then x else y:=by
 by_cases h:a≤b
 ·rw[fM h,aj h];rfl
 ·rw[fF ω,ah h];rfl
theorem aL{α:Type}(a b:Int)(x y:α):cond (aN a b) x y=if a=b then x else y:=by
 by_cases h:a=b
 ·rw[dZ h,aj h];rfl
 ·rw[eR h,ah h];rfl
theorem fU{α:Type}(p:Prop) [Decidable p](x y:α):cond (decide p) x y=if p then x else y:=by
 by_cases h:p
 ·rw[aU h,aj h];rfl
 ·rw[bu h,ah h];rfl
theorem drop_cons{α:Type}{l:List α}{i:Nat}(h:i<l.length)(d:α):l.drop i=l.getD i d::l.drop (i+1):=by
 rw[qU h,aV,bo h];rfl
theorem nH{α σ β:Type}(l:List α)(d:α)(F:Nat→Int→σ→Option β)(g:List α→σ→Option β)(I:Nat→σ→Prop)
  (hs: ∀n i s,i<l.length→I i s→(∀s',I (i+1) s'→F n ((i+1:Nat):Int) s'=g (l.drop (i+1)) s')→F (n+1) (i:Int) s=g (l.getD i d::l.drop (i+1)) s)
  (he: ∀n s,I l.length s→F (n+1) (l.length:Int) s=g [] s): ∀m n i s,l.length-i≤m→m<n→i≤l.length→I i s→F n (i:Int) s=g (l.drop i) s
 |m,0,i,s,_,hn,_,_=>ω
 |m,n+1,i,s,hm,hn,hi,hI=>by
  by_cases h:i<l.length
  ·rw[drop_cons h d]
   exact hs n i s h hI λs' zD=>nH l d F g I hs he (m-1) n (i+1) s' ω ω ω zD
  ·have:i=l.length:=ω
   subst this
   rw[mW];exact he n s hI
theorem Eb{α β:Type}(l:List α)(d:α)(F:Nat→Int→Option β)(g:List α→Option β)
  (hs: ∀n i,i<l.length→F n ((i+1:Nat):Int)=g (l.drop (i+1))→F (n+1) (i:Int)=g (l.getD i d::l.drop (i+1)))
  (he: ∀n,F (n+1) (l.length:Int)=g []) (n:Nat) (hn:l.length<n):F n 0=g l:=by
 have:=nH (σ:=Unit) l d (λn i _=>F n i) (λl _=>g l) (λ_ _=>True) (λn i _ h _ hr=>hs n i h (hr () trivial)) (λn _ _=>he n) l.length n 0 () ω hn ω trivial
 simpa using this
theorem scan{F:Nat→Int→Option Bool}{len:Nat}(P:Nat→Prop) [DecidablePred P]
  (hs: ∀n i r,i<len→(∀j,j<i→P j)→F n ((i+1:Nat):Int)=r→F (n+1) (i:Int)=if P i then r else some false) {e:Bool} (he: ∀n,F (n+1) (len:Int)=some e):
  ∀m n i,len-i≤m→m<n→i≤len→(∀j,j<i→P j)→F n (i:Int)=some (decide (∀j,j<len→i≤j→P j)&&e)
 |m,0,i,_,hn,_,_=>ω
 |m,n+1,i,hm,hn,hi,hp=>by
  by_cases h:i<len
  ·rw[hs n i _ h hp rfl]
   by_cases hP:P i
   ·rw[aj hP,scan P hs he (m-1) n (i+1) ω ω ω (λj hj=>by
     by_cases Ab:j=i
     ·subst Ab;exact hP
     ·exact hp j ω)]
    congr 2
    rw[nU]
    refine⟨λhj j h2 h1=> ?_,λhj j h2 h1=>hj j h2 ω⟩
    by_cases Ab:j=i
    ·subst Ab;exact hP
    ·exact hj j h2 ω
   ·rw[ah hP,bu (λhj=>hP (hj i h (aH i)))];rfl
  ·have:i=len:=ω
   subst this
   rw[he n,aU (λj h2 h1=>absurd h2 ω)];rfl
theorem iI{F:Nat→Int→Option Bool}{len:Nat}(P:Nat→Prop) [DecidablePred P]{e:Bool}
  (hs: ∀n i r,i<len→(∀j,j<i→P j)→F n ((i+1:Nat):Int)=r→F (n+1) (i:Int)=if P i then r else some false) (he: ∀n,F (n+1) (len:Int)=some e) (n:Nat) (hn:len<n):
  F n 0=some (decide (∀j,j<len→P j)&&e):=by
 have:=scan P hs he len n 0 ω hn ω (λj hj=>absurd hj ω)
 rw[show((0:Nat):Int)=0 from rfl]at this
 rw[this]
 congr 2
 rw[nU]
 exact⟨λh j hj=>h j hj ω,λh j hj _=>h j hj⟩
end VM
end
