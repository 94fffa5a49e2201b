/- A part of the proof of BookTurned of layer 18: what the functions compute, in plain words. -/
import Derived.Test.YthkjjlcblhbifaaGreatVm0
import GoSem.Claim
import Derived.Test.YthkjjlcblhbifaaGreatText
set_option linter.all false
section
namespace VM
open Go
variable(N:Nat)
theorem p8(x:Int):W .u64 x=x%18446744073709551616:=by rw[EY];simp[IntKind.wrap,IntKind.bits,IntKind.signed]
theorem eG{x:Int}(h0:0≤x)(h1:x<18446744073709551616):W .u64 x=x:=by rw[p8];omega
theorem gN(x:Int):W .i64 x=if 9223372036854775808≤x%18446744073709551616 then x%18446744073709551616-18446744073709551616 else x%18446744073709551616:=by
 rw[EY];simp[IntKind.wrap,IntKind.bits,IntKind.signed]
theorem aw{x:Int}(h0: -9223372036854775808≤x)(h1:x<9223372036854775808):W .i64 x=x:=by
 rw[gN];split<;>omega
theorem av7{x:Int}(h0:0≤x)(h1:x<256):W .u8 x=x:=by rw[EY];simp[IntKind.wrap,IntKind.bits,IntKind.signed];omega
theorem wf_i64{x:Int}:(Lit.int .i64 x).wf=true↔ -9223372036854775808≤x∧x≤9223372036854775807:=by simp[Lit.wf,IntKind.min,IntKind.max,IntKind.bits,IntKind.signed]
theorem wf_u64{x:Int}:(Lit.int .u64 x).wf=true↔0≤x∧x≤18446744073709551615:=by simp[Lit.wf,IntKind.min,IntKind.max,IntKind.bits,IntKind.signed]
theorem wf_u8{x:Int}:(Lit.int .u8 x).wf=true↔0≤x∧x≤255:=by simp[Lit.wf,IntKind.min,IntKind.max,IntKind.bits,IntKind.signed]
theorem aQ{x y:Int}(h:x<y):aX x y=true:=by rw[qv];exact aV h
theorem aO{x y:Int}(h:y≤x):aX x y=false:=by rw[qv];exact bw ω
theorem fR{x y:Int}(h:x≤y):dy x y=true:=by rw[m9];exact aV h
theorem fM{x y:Int}(h:y<x):dy x y=false:=by rw[m9];exact bw ω
theorem eg{x y:Int}(h:x=y):aM x y=true:=by rw[jO];exact aV h
theorem eH{x y:Int}(h:x≠y):aM x y=false:=by rw[jO];exact bw h
theorem aU{i:Int}{n:Nat}(h0:0≤i)(h1:i<n):bg i n=true:=by rw[X4];exact aV ⟨h0,h1⟩
theorem bJ{n:Nat}(h:n<68719476736):small n=true:=by rw[GF];exact aV (by simpa [Ba]using h)
theorem db{l c:Int}(h0:0≤l)(h1:l≤c)(h2:c<68719476736):kU l c=true:=by rw[Kd];exact aV (by simp only[Ba];omega)
theorem eh{l h m n:Int}(h0:0≤l)(h1:l≤h)(h2:h≤m)(h3:m≤n):jc l h m n=true:=by rw[sa];exact aV ⟨h0,h1,h2,h3⟩
theorem af(n:Nat):(n:Int)+1=((n+1:Nat):Int):=rfl
theorem tH(x:Int)(h0:0≤x)(h1:x<18446744073709551616):(BitVec.ofInt 64 x).toNat=x.toNat:=by
 rw[BitVec.toNat_ofInt];congr 1;omega
theorem O2{x y:Int}(hx:0≤x)(R6:x<18446744073709551616)(hy:0≤y)(hy1:y<18446744073709551616):sb .and .u64 x y=((x.toNat&&& y.toNat:Nat):Int):=by
 rw[vu]
 have h:((BitVec.ofInt 64 x&&& BitVec.ofInt 64 y).toNat)=x.toNat&&& y.toNat:=by rw[BitVec.toNat_and,tH x hx R6,tH y hy hy1]
 show IntKind.u64.wrap (((BitVec.ofInt 64 x&&& BitVec.ofInt 64 y).toNat:Nat):Int)=_
 rw[h,←EY]
 have:x.toNat&&& y.toNat≤x.toNat:=Nat.and_le_left
 exact eG ω ω
theorem Ut{x y:Int}(hx:0≤x)(R6:x<18446744073709551616)(hy:0≤y)(hy1:y<18446744073709551616):sb .or .u64 x y=((x.toNat|||y.toNat:Nat):Int):=by
 rw[vu]
 have h:((BitVec.ofInt 64 x|||BitVec.ofInt 64 y).toNat)=x.toNat|||y.toNat:=by rw[BitVec.toNat_or,tH x hx R6,tH y hy hy1]
 show IntKind.u64.wrap (((BitVec.ofInt 64 x|||BitVec.ofInt 64 y).toNat:Nat):Int)=_
 rw[h,←EY]
 have:x.toNat|||y.toNat<2^64:=Nat.or_lt_two_pow ω ω
 exact eG ω ω
theorem pb{x:Int}(h0:0≤x)(h1:x<18446744073709551616):sb .and .u64 x 4294967295=x%4294967296:=by
 rw[O2 h0 h1 ω ω]
 have:=NM x.toNat 32
 rw[show((4294967295:Int).toNat)=2^32-1 from rfl,this]
 omega
theorem Mi{x y:Int}(h0:0≤y)(h1:y≤64):shr .u64 x y=x/2^y.toNat:=by
 rw[Sc]
 have:min y.toNat IntKind.u64.bits=y.toNat:=by simp[IntKind.bits];omega
 rw[this,NP]
 exact_mod_cast bs _
theorem Uu(x:Int):shr .u64 x 32=x/4294967296:=by rw[Mi ω ω];rfl
theorem ap4(x:Int):shr .u64 x 1=x/2:=by rw[Mi ω ω];rfl
theorem vN{x:Int}(h0: -9223372036854775808≤x)(h1:x<9223372036854775808):shr .i64 x 63=if x<0 then-1 else 0:=by
 rw[Sc]
 have:(2:Int)^(min (63:Int).toNat IntKind.i64.bits)=9223372036854775808:=by rfl
 rw[this,NP _ ω]
 split<;>omega
theorem acL{x y:Int}(h0:0≤y)(h1:y≤64):shl .u64 x y=x*2^y.toNat:=by
 rw[Yb]
 have:min y.toNat IntKind.u64.bits=y.toNat:=by simp[IntKind.bits];omega
 rw[this]
theorem mul_lt{a b m n:Int}(ha:0≤a)(hb:0≤b)(ham:a≤m)(hbn:b≤n):0≤a*b∧a*b≤m*n:=
 ⟨uF ha hb,fH (AI ham hb) (yJ hbn ω)⟩
end VM
end
section
namespace VM
open Go VM.F
variable(N:Nat)
theorem Wf(a b:Int):a*b=(a/4294967296)*(b/4294967296)*18446744073709551616+((a/4294967296)*(b%4294967296)+(a%4294967296)*(b/4294967296))*4294967296+(a%4294967296)*(b%4294967296):=by
 have ha:a=(a/4294967296)*4294967296+a%4294967296:=ω
 have hb:b=(b/4294967296)*4294967296+b%4294967296:=ω
 generalize a/4294967296=a1 at*
 generalize a%4294967296=a0 at*
 generalize b/4294967296=b1 at*
 generalize b%4294967296=b0 at*
 subst ha;subst hb
 simp only[pZ,mC]
 have e1:a1*4294967296*(b1*4294967296)=a1*b1*18446744073709551616:=by
  rw[lK,Int.mul_left_comm 4294967296,←lK];rfl
 have e2:a1*4294967296*b0=a1*b0*4294967296:=by rw[lK,jm 4294967296,←lK]
 have e3:a0*(b1*4294967296)=a0*b1*4294967296:=by rw[←lK]
 rw[e1,e2,e3];omega
theorem Hv{a b:Int}(ha:0≤a)(ha1:a<18446744073709551616)(hb:0≤b)(nD:b<18446744073709551616):
  Wg N a b=some (a*b/18446744073709551616,a*b%18446744073709551616):=by
 unfold Wg
 have hm:=Wf a b
 have h1:=mul_lt (m:=4294967295) (n:=4294967295) (show 0≤a/4294967296 by omega) (show 0≤b/4294967296 by omega) ω ω
 have h2:=mul_lt (m:=4294967295) (n:=4294967295) (show 0≤a/4294967296 by omega) (show 0≤b%4294967296 by omega) ω ω
 have h3:=mul_lt (m:=4294967295) (n:=4294967295) (show 0≤a%4294967296 by omega) (show 0≤b/4294967296 by omega) ω ω
 have h4:=mul_lt (m:=4294967295) (n:=4294967295) (show 0≤a%4294967296 by omega) (show 0≤b%4294967296 by omega) ω ω
 simp only[aO (show(0:Int)≤32 by omega),av,pb ha ha1,pb hb nD,Uu]
 generalize a/4294967296=a1 at*
 generalize a%4294967296=a0 at*
 generalize b/4294967296=b1 at*
 generalize b%4294967296=b0 at*
 generalize a*b=ab at*
 generalize a1*b1=p at*
 generalize a1*b0=q at*
 generalize a0*b1=r at*
 generalize a0*b0=s at*
 rw[eG (x:=q) ω ω,eG (x:=s) ω ω,eG (x:=r) ω ω,eG (x:=p) ω ω,eG (x:=q+s/4294967296) ω ω,
  pb ω ω,eG (x:=(q+s/4294967296)%4294967296+r) ω ω,eG (x:=p+(q+s/4294967296)/4294967296) ω ω,eG (x:=p+(q+s/4294967296)/4294967296+_) ω ω,p8]
 congr 2
 omega
theorem Mj{x:Int}(h0: -9223372036854775808≤x)(h1:x<9223372036854775808):Wh N x=some (x.natAbs:Int):=by
 unfold Wh
 by_cases h:x<0
 ·rw[aQ h,aj,p8,p8];congr 1;omega
 ·rw[aO ω,av,p8];congr 1;omega
theorem xT{x y c:Int}(hx:0≤x)(hy:0≤y)(hc:0≤c)(FJ:c≤1):uO N x y c=some ((x+y+c)%18446744073709551616,(x+y+c)/18446744073709551616):=by
 unfold uO;rw[ak ⟨hx,hy,hc,FJ⟩]
theorem mH{x y c:Int}(hx:0≤x)(R6:x<18446744073709551616)(hy:0≤y)(hy1:y<18446744073709551616)(hc:0≤c)(FJ:c≤1):
  tA N x y c=some ((x-y-c)%18446744073709551616,if x<y+c then 1 else 0):=by
 unfold tA;rw[ak ⟨hx,R6,hy,hy1,hc,FJ⟩];congr 2;omega
structure xU(Y tf Hw gV Hy q rh:Int):Prop where
 hY:Y=tf*4294967296+Hw
 y1:2147483648≤tf
 y1':tf<4294967296
 y0:0≤Hw
 y0':Hw<4294967296
 u1:0≤Hy
 u1':Hy<4294967296
 lt:gV<Y
 q0:0≤q
 eq:q*tf+rh=gV
 r0:0≤rh
 q1:q≤4294967297
 ge:(gV*4294967296+Hy)/Y≤q
theorem xU.prod{Y tf Hw gV Hy q rh:Int}(g:xU Y tf Hw gV Hy q rh):q*Y=(gV-rh)*4294967296+q*Hw∧0≤q*Hw∧q*Hw≤18446744073709551615:=by
 have h:=mul_lt (m:=4294967297) (n:=4294967295) g.q0 g.y0 g.q1 (by have:=g.y0';omega)
 refine⟨?_,h.1,ω⟩
 rw[g.hY,mC,←lK,show q*tf=gV-rh from by have:=g.eq;omega]
theorem xU.pos{Y tf Hw gV Hy q rh:Int}(g:xU Y tf Hw gV Hy q rh):0<Y:=by have:=g.hY;have:=g.y1;have:=g.y0;omega
theorem xU.digit{Y tf Hw gV Hy q rh:Int}(g:xU Y tf Hw gV Hy q rh)(h:0≤gV):0≤(gV*4294967296+Hy)/Y∧(gV*4294967296+Hy)/Y<4294967296:=by
 have hp:=g.pos
 have:=g.u1;have:=g.u1';have:=g.lt
 refine⟨uC ω ω,?_⟩
 rw[AO hp];omega
theorem xU.next{Y tf Hw gV Hy q rh:Int}(g:xU Y tf Hw gV Hy q rh)(hu:0≤gV)(h:4294967296≤q∨4294967296*rh+Hy<q*Hw):xU Y tf Hw gV Hy (q-1) (rh+tf)∧1≤q:=by
 have hp:=g.pos
 have h1:=g.prod.1
 have hd:=g.digit hu
 have eU:(gV*4294967296+Hy)/Y<q:=by
  rcases h with h|h
  ·omega
  ·rw[AO hp];omega
 have:=g.q1;have:=g.r0;have:=g.y1
 exact⟨⟨g.hY,g.y1,g.y1',g.y0,g.y0',g.u1,g.u1',g.lt,ω,by rw[Int.sub_mul,A6];have:=g.eq;omega,ω,ω,ω⟩,ω⟩
theorem xU.first{Y tf Hw gV Hy:Int}(hY:Y=tf*4294967296+Hw)(y1:2147483648≤tf)(y1':tf<4294967296)(y0:0≤Hw)(y0':Hw<4294967296)(u1:0≤Hy)(u1':Hy<4294967296)(hu:0≤gV)(lt:gV<Y):
  xU Y tf Hw gV Hy (gV/tf) (gV-gV/tf*tf)∧gV-gV/tf*tf<4294967296∧0≤gV/tf*tf∧gV/tf*tf≤gV:=by
 have h1:=N3 gV tf
 have h2:=AS gV (show 0<tf by omega)
 have h3:=Gx gV (show tf≠0 by omega)
 have wU:0≤gV/tf:=uC hu ω
 rw[jm]at h1
 have hq1:gV/tf≤4294967297:=by
  have:gV/tf<4294967298:=by rw[AO ω];omega
  omega
 have L1:(gV*4294967296+Hy)/Y≤gV/tf:=by
  have eU:gV*4294967296+Hy<(gV/tf+1)*Y:=by
   have e:gV+1≤(gV/tf+1)*tf:=by rw[pZ,A6];omega
   have e2:(gV/tf+1)*Y=(gV/tf+1)*tf*4294967296+(gV/tf+1)*Hw:=by rw[hY,mC,lK]
   have e3:0≤(gV/tf+1)*Hw:=uF ω y0
   omega
  have:(gV*4294967296+Hy)/Y<gV/tf+1:=by rw[AO ω];exact eU
  omega
 exact⟨⟨hY,y1,y1',y0,y0',u1,u1',lt,wU,ω,ω,hq1,L1⟩,ω,uF wU ω,ω⟩
def dv:List Int→Int
 |[]=>0
 |d::r=>d+4294967296*dv r
def VD(l:List Int):Prop:= ∀d∈l,0≤d∧d<4294967296
def mv(n:Nat):List Int:=if n=0 then []else((n%4294967296:Nat):Int)::mv (n/4294967296)
termination_by n
decreasing_by omega
theorem lh:mv 0=[]:=by rw[mv];rfl
theorem yX{n:Nat}(h:n≠0):mv n=((n%4294967296:Nat):Int)::mv (n/4294967296):=by rw[mv];simp[h]
theorem VD.nil:VD []:=λd h=>by cases h
theorem VD.cons{d:Int}{l:List Int}(h0:0≤d)(h1:d<4294967296)(h:VD l):VD (d::l):=λx hx=>by
 rcases bh.1 hx with rfl|hx
 ·exact⟨h0,h1⟩
 ·exact h x hx
theorem VD.tail{d:Int}{l:List Int}(h:VD (d::l)):VD l:=λx hx=>h x (ba _ hx)
theorem VD.append{a b:List Int}(h:VD a)(k:VD b):VD (a++b):=λx hx=>(bn.1 hx).elim (h x) (k x)
theorem VD.drop{l:List Int}(h:VD l)(n:Nat):VD (l.drop n):=λx hx=>h x (mV hx)
theorem VD.take{l:List Int}(h:VD l)(n:Nat):VD (l.take n):=λx hx=>h x (lI hx)
theorem VD.getD{l:List Int}(h:VD l)(n:Nat):0≤l.getD n 0∧l.getD n 0<4294967296:=by
 rw[aW]
 cases hn:l[n]? with
 |none=>exact⟨fY _,δ⟩
 |some x=>exact h x (List.mem_of_getElem? hn)
theorem VD.set{l:List Int}(h:VD l)(n:Nat){x:Int}(h0:0≤x)(h1:x<4294967296):VD (l.set n x):=λy hy=>by
 rcases vq hy with hy|rfl
 ·exact h y hy
 ·exact⟨h0,h1⟩
theorem VD.aiX(n:Nat):VD (List.replicate n 0):=λx hx=>by rw[AK hx];exact⟨fY _,δ⟩
theorem lj: ∀{l:List Int},VD l→0≤dv l
 |[],_=>fY _
 |d::r,h=>by
  have:=lj h.tail
  have:=(h d (bu ..)).1
  simp only[dv];omega
theorem iv(n:Nat):dv (mv n)=n:=by
 induction n using Nat.strongRecOn with
 |_ n ih=>
  by_cases h:n=0
  ·subst h;rw[lh];rfl
  ·rw[yX h,dv,ih _ ω];omega
theorem ku(n:Nat):VD (mv n):=by
 induction n using Nat.strongRecOn with
 |_ n ih=>
  by_cases h:n=0
  ·subst h;rw[lh];exact VD.nil
  ·rw[yX h];exact VD.cons ω ω (ih _ ω)
theorem BL{n:Nat}:mv n=[]↔n=0:=by
 constructor
 ·intro h
  by_cases hn:n=0
  ·exact hn
  ·rw[yX hn]at h;cases h
 ·rintro rfl;exact lh
theorem vO(k:Nat): ∀n,n<4294967296^k→(mv n).length≤k:=by
 induction k with
 |zero=>
  intro n h;have:n=0:=by simpa using h
  subst this;rw[lh];simp
 |succ k ih=>
  intro n h
  by_cases hn:n=0
  ·subst hn;rw[lh];simp
  ·rw[yX hn,aT]
   have:=ih (n/4294967296) (by rw[N4 ω];rw[A2]at h;exact h)
   omega
theorem Mk(k:Nat): ∀n,(mv n).length≤k→n<4294967296^k:=by
 induction k with
 |zero=>
  intro n h
  have:mv n=[]:=vo ω
  rw[BL]at this;subst this;decide
 |succ k ih=>
  intro n h
  by_cases hn:n=0
  ·subst hn;exact Nat.pow_pos δ
  ·rw[yX hn,aT]at h
   have:=ih (n/4294967296) ω
   rw[N4 ω]at this
   rw[A2];exact this
def strip:List Int→List Int
 |[]=>[]
 |d::r=>if strip r=[]∧d=0 then []else d::strip r
theorem O3: ∀{l:List Int},VD l→strip l=mv (dv l).toNat
 |[],_=>by rw[show(dv []).toNat=0 from rfl,lh];rfl
 |d::r,h=>by
  have ih:=O3 h.tail
  have h0:=lj h.tail
  obtain⟨h1,h2⟩:=h d (bu ..)
  simp only[strip,dv,ih,BL]
  split
  ·rename_i hc
   obtain⟨hc,rfl⟩:=hc
   have:dv r=0:=ω
   rw[this];exact lh.symm
  ·rename_i hc
   have kN:(d+4294967296*dv r).toNat≠0:=λhe=>hc ⟨ω,ω⟩
   rw[yX kN]
   congr 1
   ·omega
   ·congr 1;omega
theorem Hz: ∀(l:List Int) (x:Int),strip (l++[x])=if x=0 then strip l else l++[x]
 |[],x=>by simp[strip]
 |d::r,x=>by
  simp only[mZ,strip,Hz r x]
  split
  ·rfl
  ·simp
theorem iV(l:List Int){k:Nat}(h:k<l.length):l.take (k+1)=l.take k++[l.getD k 0]:=by
 rw[List.take_succ_eq_append_getElem h,aW,bm h];rfl
theorem Kw(N:Nat)(l:List Int)(hl:l.length<68719476736): ∀(k n:Nat),k≤l.length→k<n→pd.l2 N n l (k:Int)=some (strip (l.take k))
 |0,n+1,_,_=>by
  unfold pd.l2 pd.fN
  simp (disch:=omega) only[aQ,aO,fR,fM,eg,eH,aU,bJ,db,eh,aw,eG,aj,av,bk,dw,ar,aG,dO,af,aS,aJ,bU,c9,aT,bZ]
  simp[strip]
 |k+1,n+1,hk,hn=>by
  unfold pd.l2 pd.fN
  have e:((k+1:Nat):Int)-1=(k:Int):=ω
  simp (disch:=omega) only[aQ,aO,fR,fM,eg,eH,aU,bJ,db,eh,aw,eG,aj,av,bk,dw,ar,aG,dO,af,aS,aJ,bU,c9,aT,bZ,e]
  have ih:=Kw N l hl k n ω ω
  rw[iV l ω,Hz]
  by_cases h:l.getD k 0=0
  ·rw[eg h,aj,ih,ak h]
  ·rw[eH h,av,ag h]
   simp only[dO,cM]
theorem Ml{l:List Int}(h:VD l)(hN:l.length<N)(hl:l.length<68719476736):pd N l=some (mv (dv l).toNat):=by
 unfold pd pd.b
 rw[Kw N l hl l.length N (aH _) hN,ir,O3 h]
def cI(v:Int):aL:=(decide (v<0),(mv v.natAbs,()))
theorem pL(neg:Bool){l:List Int}(h:VD l)(hN:l.length<N)(hl:l.length<68719476736):CY N neg l=some (cI (if neg then-dv l else dv l)):=by
 unfold CY
 rw[Ml N h hN hl,ar]
 have h0:=lj h
 cases neg
 ·simp only[av,cI,jN,fI]
  rw[bw ω]
  congr 4;omega
 ·simp only[aj,cI,ib]
  have e:(-dv l).natAbs=(dv l).toNat:=ω
  rw[e]
  congr 2
  by_cases hz:dv l=0
  ·rw[hz,dO,lh,aO (by simp),bw ω]
  ·have:0<(mv (dv l).toNat).length:=by
    apply pT.2
    intro hd;rw[BL]at hd;omega
   rw[aQ ω,aV ω]
theorem size_eq(hN:1000≤N){u:Int}(h0:0≤u)(h1:u<18446744073709551616):Wi N u=some (mv u.toNat):=by
 unfold Wi
 rw[pb h0 h1,Uu]
 have hv:VD [u%4294967296,u/4294967296]:=VD.cons ω ω (VD.cons ω ω VD.nil)
 simp (disch:=omega) only[aQ,aO,fR,fM,eg,eH,aU,bJ,db,eh,aw,eG,aj,av,bk,dw,ar,aG,dO,af,aS,aJ,bU,c9,aT,bZ,Ml N hv (by simp;omega) (by simp)]
 congr 2
 simp only[dv];omega
theorem dd(hN:1000≤N){x:Int}(h0: -9223372036854775808≤x)(h1:x<9223372036854775808):eC N x=some (cI x):=by
 unfold eC
 have hd: ∀n:Nat,n<18446744073709551616→(mv n).length≤2:=λn h=>vO 2 n (by simpa using h)
 by_cases h:x<0
 ·have e:W .u64 (0-W .u64 x)= -x:=by rw[p8,p8];omega
  simp only[aQ h,aj,e,size_eq N hN (show 0≤ -x by omega) ω,ar]
  have:=hd (-x).toNat ω
  rw[pL N true (ku _) ω ω,iv,ak rfl,show-(((-x).toNat:Nat):Int)=x from by omega];rfl
 ·have e:W .u64 x=x:=eG ω ω
  simp only[aO (show 0≤x by omega),av,e,size_eq N hN (show 0≤x by omega) ω,ar]
  have:=hd x.toNat ω
  rw[pL N false (ku _) ω ω,iv,ag pD,uy ω];rfl
theorem xV(l:List Int)(i:Nat):Mm N l (i:Int)=some (l.getD i 0):=by
 unfold Mm
 by_cases h:i<l.length
 ·simp (disch:=omega) only[aQ,aO,fR,fM,eg,eH,aU,bJ,db,eh,aw,eG,aj,av,bk,dw,ar,aG,dO,af,aS,aJ,bU,c9,aT,bZ]
 ·simp (disch:=omega) only[aQ,aO,fR,fM,eg,eH,aU,bJ,db,eh,aw,eG,aj,av,bk,dw,ar,aG,dO,af,aS,aJ,bU,c9,aT,bZ]
  rw[aW,iq ω];rfl
theorem lR(l:List Int)(i:Nat):dv (l.drop i)=l.getD i 0+4294967296*dv (l.drop (i+1)):=by
 by_cases h:i<l.length
 ·rw[qW h,dv,aW,bm h];rfl
 ·rw[jM ω,jM ω,aW,iq ω];rfl
theorem O4(N:Nat){a b:List Int}(ha:VD a)(hb:VD b)(Aa:a.length≤1000000)(R9:b.length≤1000000): ∀(m n i:Nat) (out:List Int) (c:Int),a.length+b.length+2-i≤m→m<n→out.length=i→i≤a.length+b.length+1→0≤c→c≤1→(a.length≤i→b.length≤i→i=max a.length b.length∨c=0)→
  ∃r,kg.l4 N n a b out c (i:Int)=some (out++r)∧VD r∧dv r=dv (a.drop i)+dv (b.drop i)+c∧r.length≤m
 |m,0,i,out,c,_,hn,_,_,_,_,_=>ω
 |m,n+1,i,out,c,hm,hn,ho,hi,T1,FJ,hz=>by
  unfold kg.l4 kg.dM
  by_cases O5:a.length≤i∧b.length≤i∧c=0
  ·obtain⟨h1,h2,rfl⟩:=O5
   simp (disch:=omega) only[aQ,aO,fR,fM,eg,eH,aU,bJ,db,eh,aw,eG,aj,av,bk,dw,ar,aG,dO,af,aS,aJ,bU,c9,aT,bZ]
   exact⟨[],by simp,VD.nil,by rw[jM h1,jM h2];rfl,bs _⟩
  ·obtain⟨ga0,ga1⟩:=ha.getD i
   obtain⟨gb0,gb1⟩:=hb.getD i
   have step: ∃r,kg.j6 N (kg.l4 N n) a b out c (i:Int)=some (out++r)∧VD r∧dv r=dv (a.drop i)+dv (b.drop i)+c∧r.length≤m:=by
    unfold kg.j6 kg.O6
    have Bl:i≤a.length+b.length:=by
     by_cases h1:a.length≤i∧b.length≤i
     ·rcases hz h1.1 h1.2 with h|h
      ·omega
      ·exact absurd ⟨h1.1,h1.2,h⟩ O5
     ·omega
    simp only[xV,ar]
    generalize hga:a.getD i 0=x at*
    generalize hgb:b.getD i 0=y at*
    rw[eG (x:=x+y) ω ω,eG (x:=c+(x+y)) ω ω,pb ω ω,Uu]
    simp (disch:=omega) only[aQ,aO,fR,fM,eg,eH,aU,bJ,db,eh,aw,eG,aj,av,bk,dw,ar,aG,dO,af,aS,aJ,bU,c9,aT,bZ]
    obtain⟨r,hr,hv,hs,Ki⟩:=O4 N ha hb Aa R9 (m-1) n (i+1) (out++[(c+(x+y))%4294967296]) ((c+(x+y))/4294967296) ω ω (by simp[ho]) ω ω ω (λh1 h2=>by
     by_cases h3:a.length≤i∧b.length≤i
     ·right
      rw[←hga,←hgb,aW,iq h3.1,aW,iq h3.2]
      simp only[Option.getD_none];omega
     ·left;omega)
    refine⟨(c+(x+y))%4294967296::r,by rw[hr];simp,VD.cons ω ω hv,?_,by rw[aT];omega⟩
    rw[dv,hs,lR a i,lR b i,hga,hgb];omega
   by_cases h1:i<a.length
   ·simp (disch:=omega) only[aQ,aj];exact step
   ·by_cases h2:i<b.length
    ·simp (disch:=omega) only[aQ,aO,aj,av];exact step
    ·have:0<c:=ω
     simp (disch:=omega) only[aQ,aO,aj,av];exact step
theorem Uv: ∀{l:List Int},VD l→dv l<4294967296^l.length
 |[],_=>by simp[dv]
 |d::r,h=>by
  have ih:=Uv h.tail
  obtain⟨h1,h2⟩:=h d (bu ..)
  rw[dv,aT,A3]
  generalize (4294967296:Int)^r.length=p at*
  omega
theorem O7(hN:4000000≤N){a b:List Int}(ha:VD a)(hb:VD b)(Aa:a.length≤1000000)(R9:b.length≤1000000): ∃r,kg N a b=some r∧VD r∧dv r=dv a+dv b∧r.length≤2000002:=by
 unfold kg kg.b
 obtain⟨r,hr,hv,hs,hl⟩:=O4 N ha hb Aa R9 (a.length+b.length+2) N 0 [] 0 ω ω rfl ω ω ω (λ_ _=> .inr rfl)
 exact⟨r,hr,hv,by simpa using hs,ω⟩
theorem HA(N:Nat){a b:List Int}(ha:VD a)(hb:VD b)(Aa:a.length≤1000000): ∀(m n i:Nat) (out:List Int) (c:Int),a.length-i≤m→m<n→out.length=i→i≤a.length→0≤c→c≤1→0≤dv (a.drop i)-dv (b.drop i)-c→
  ∃r,q7.l4 N n a b out c (i:Int)=some (out++r)∧VD r∧dv r=dv (a.drop i)-dv (b.drop i)-c∧r.length≤m
 |m,0,i,out,c,_,hn,_,_,_,_,_=>ω
 |m,n+1,i,out,c,hm,hn,ho,hi,T1,FJ,hz=>by
  unfold q7.l4 q7.dM
  by_cases h1:i<a.length
  ·obtain⟨ga0,ga1⟩:=ha.getD i
   obtain⟨gb0,gb1⟩:=hb.getD i
   rw[lR a i,lR b i]at*
   simp only[xV,ar,aG]
   generalize hga:a.getD i 0=x at*
   generalize hgb:b.getD i 0=y at*
   rw[eG (x:=y+c) ω ω,eG (x:=x+4294967296) ω ω]
   by_cases eU:x<y+c
   ·rw[eG (x:=x+4294967296-(y+c)) ω ω]
    simp (disch:=omega) only[aQ,aO,fR,fM,eg,eH,aU,bJ,db,eh,aw,eG,aj,av,bk,dw,ar,aG,dO,af,aS,aJ,bU,c9,aT,bZ,hga,hgb]
    obtain⟨r,hr,hv,hs,Ki⟩:=HA N ha hb Aa (m-1) n (i+1) (out++[x+4294967296-(y+c)]) 1 ω ω (by simp[ho]) ω ω ω ω
    refine⟨(x+4294967296-(y+c))::r,by rw[hr];simp,VD.cons ω ω hv,by rw[dv,hs];omega,by rw[aT];omega⟩
   ·rw[eG (x:=x-(y+c)) ω ω]
    simp (disch:=omega) only[aQ,aO,fR,fM,eg,eH,aU,bJ,db,eh,aw,eG,aj,av,bk,dw,ar,aG,dO,af,aS,aJ,bU,c9,aT,bZ,hga,hgb]
    obtain⟨r,hr,hv,hs,Ki⟩:=HA N ha hb Aa (m-1) n (i+1) (out++[x-(y+c)]) 0 ω ω (by simp[ho]) ω ω ω ω
    refine⟨(x-(y+c))::r,by rw[hr];simp,VD.cons ω ω hv,by rw[dv,hs];omega,by rw[aT];omega⟩
  ·simp (disch:=omega) only[aQ,aO,fR,fM,eg,eH,aU,bJ,db,eh,aw,eG,aj,av,bk,dw,ar,aG,dO,af,aS,aJ,bU,c9,aT,bZ]
   have h0:=lj (hb.drop i)
   rw[jM (l:=a) ω]at hz ⊢
   simp only[dv]at hz ⊢
   exact⟨[],by simp,VD.nil,by simp only[dv];omega,bs _⟩
theorem Ec(hN:4000000≤N){a b:List Int}(ha:VD a)(hb:VD b)(Aa:a.length≤1000000)(h:dv b≤dv a): ∃r,q7 N a b=some r∧VD r∧dv r=dv a-dv b∧r.length≤1000000:=by
 unfold q7 q7.b
 obtain⟨r,hr,hv,hs,hl⟩:=HA N ha hb Aa a.length N 0 [] 0 ω ω rfl ω ω ω (by simp;omega)
 exact⟨r,hr,hv,by simpa using hs,ω⟩
theorem rI: ∀(l:List Int) (x:Int),dv (l++[x])=dv l+4294967296^l.length*x
 |[],x=>by simp[dv]
 |d::r,x=>by
  rw[mZ,dv,rI r x,dv,aT,A3,jm _ 4294967296,lK,mC];omega
theorem O8{a b:List Int}(ha:VD a)(hb:VD b){k:Nat}(h1:k<a.length)(h2:k<b.length)(eU:a.getD k 0<b.getD k 0):dv (a.take (k+1))<dv (b.take (k+1)):=by
 rw[iV a h1,iV b h2,rI,rI]
 have l1:(a.take k).length=k:=by rw[cj];omega
 have l2:(b.take k).length=k:=by rw[cj];omega
 have v1:=Uv (ha.take k)
 have v2:=lj (hb.take k)
 rw[l1]at*
 rw[l2]
 generalize (4294967296:Int)^k=p at*
 have hp:0<p:=by have:=lj (ha.take k);omega
 have:=yJ (show a.getD k 0+1≤b.getD k 0 by omega) (Int.le_of_lt hp)
 rw[mC,Int.mul_one]at this
 omega
def vP(x:Int):Int:=if x<0 then-1 else if 0<x then 1 else 0
theorem O9(N:Nat){a b:List Int}(ha:VD a)(hb:VD b)(hl:a.length=b.length)(Aa:a.length≤1000000): ∀(k n:Nat),k≤a.length→k<n→qA.l6 N n a b ((k:Int)-1)=some (vP (dv (a.take k)-dv (b.take k)))
 |k,0,_,hn=>ω
 |0,n+1,_,_=>by
  unfold qA.l6 qA.uU
  simp (disch:=omega) only[aQ,aO,fR,fM,eg,eH,aU,bJ,db,eh,aw,eG,aj,av,bk,dw,ar,aG,dO,af,aS,aJ,bU,c9,aT,bZ]
  simp[vP,dv]
 |k+1,n+1,hk,hn=>by
  unfold qA.l6 qA.uU
  have e:((k+1:Nat):Int)-1=(k:Int):=ω
  rw[e]
  simp (disch:=omega) only[aQ,aO,fR,fM,eg,eH,aU,bJ,db,eh,aw,eG,aj,av,bk,dw,ar,aG,dO,af,aS,aJ,bU,c9,aT,bZ]
  by_cases h1:a.getD k 0<b.getD k 0
  ·rw[aQ h1,aj]
   have:=O8 ha hb (k:=k) ω ω h1
   rw[vP,ak ω]
  ·rw[aO ω,av]
   by_cases h2:b.getD k 0<a.getD k 0
   ·rw[aQ h2,aj]
    have:=O8 hb ha (k:=k) ω ω h2
    rw[vP,ag ω,ak ω]
   ·rw[aO ω,av,O9 N ha hb hl Aa k n ω ω]
    congr 2
    rw[iV a ω,iV b ω,rI,rI,show a.getD k 0=b.getD k 0 from by omega,cj,cj,hl]
    omega
theorem Pb(hN:4000000≤N)(m k:Nat)(hm:(mv m).length≤1000000)(hk:(mv k).length≤1000000):qA N (mv m) (mv k)=some (vP ((m:Int)-k)):=by
 unfold qA qA.b
 by_cases h:(mv m).length=(mv k).length
 ·simp (disch:=omega) only[aQ,aO,fR,fM,eg,eH,aU,bJ,db,eh,aw,eG,aj,av,bk,dw,ar,aG,dO,af,aS,aJ,bU,c9,aT,bZ]
  rw[O9 N (ku m) (ku k) h hm (mv m).length N (aH _) ω,ir,h,ir,iv,iv]
 ·rw[eH ω,dw,aj]
  by_cases eU:(mv m).length<(mv k).length
  ·rw[aQ ω,aj]
   have h1:=Mk ((mv k).length-1) m ω
   have h2: ¬(k<4294967296^((mv k).length-1)):=λh=>by have:=vO _ _ h;omega
   rw[vP,ak ω]
  ·rw[aO ω,av]
   have h1:=Mk ((mv m).length-1) k ω
   have h2: ¬(m<4294967296^((mv m).length-1)):=λh=>by have:=vO _ _ h;omega
   rw[vP,ag ω,ak ω]
def Fit(v:Int)(k:Nat):Prop:=v.natAbs<4294967296^k
theorem Fit.len{v:Int}{k:Nat}(h:Fit v k):(mv v.natAbs).length≤k:=vO k _ h
theorem Fit.mono{v:Int}{j k:Nat}(h:Fit v j)(hjk:j≤k):Fit v k:=n6 h (Nat.pow_le_pow_right δ hjk)
theorem Fit.neg{v:Int}{k:Nat}(h:Fit v k):Fit (-v) k:=by unfold Fit at*;rwa [Int.natAbs_neg]
theorem Fit.i64{v:Int}(h0: -9223372036854775808≤v)(h1:v<9223372036854775808):Fit v 2:=by
 unfold Fit
 rw[show(4294967296:Nat)^2=18446744073709551616 from by decide];omega
theorem Fit.add{u v:Int}{k:Nat}(hu:Fit u k)(hv:Fit v k):Fit (u+v) (k+1):=by
 unfold Fit at*
 rw[A2]
 have:(u+v).natAbs≤u.natAbs+v.natAbs:=Int.natAbs_add_le u v
 generalize 4294967296^k=p at*
 omega
theorem Fit.mul{u v:Int}{j k:Nat}(hu:Fit u j)(hv:Fit v k):Fit (u*v) (j+k):=by
 unfold Fit at*
 rw[Gy,Nat.pow_add]
 exact Nat.mul_lt_mul'' hu hv
theorem Fit.of_le{u v:Int}{k:Nat}(hv:Fit v k)(h:u.natAbs≤v.natAbs):Fit u k:=Nat.lt_of_le_of_lt h hv
theorem mI(a b:Bool):oX .bool a b=(a==b):=by simp[oX]
theorem iN(hN:4000000≤N){u v:Int}(hu:Fit u 900000)(hv:Fit v 900000):nk N (cI u) (cI v)=some (cI (u+v)):=by
 have lu:=hu.len
 have lv:=hv.len
 unfold nk
 simp only[cI,mI]
 by_cases hs:decide (u<0)=decide (v<0)
 ·rw[hs,uA,aj]
  obtain⟨r,hr,hvd,Ha,hl⟩:=O7 N hN (ku u.natAbs) (ku v.natAbs) ω ω
  simp only[hr,ar,pL N _ hvd ω ω,Ha,iv]
  congr 1
  show cI _=cI _
  congr 1
  by_cases h:v<0
  ·have:u<0:=by simpa [h]using hs
   rw[ak (aV h)];omega
  ·have: ¬u<0:=by simpa [h]using hs
   rw[ag (by simpa using h)];omega
 ·have hb:(decide (u<0)==decide (v<0))=false:=by simpa using hs
  rw[hb,av,Pb N hN _ _ ω ω,ar]
  by_cases hc:v.natAbs≤u.natAbs
  ·have h1:dy 0 (vP ((u.natAbs:Int)-v.natAbs))=true:=fR (by unfold vP;split<;>(try split)<;>omega)
   obtain⟨r,hr,hvd,Ha,hl⟩:=Ec N hN (ku u.natAbs) (ku v.natAbs) ω (by rw[iv,iv];omega)
   simp only[h1,aj,hr,ar,pL N _ hvd ω ω,Ha,iv]
   congr 1
   show cI _=cI _
   congr 1
   by_cases h:u<0
   ·have: ¬v<0:=λhv=>hs (by simp[h,hv])
    rw[ak (aV h)];omega
   ·have:v<0:=NS λhv=>hs (by simp[h,hv])
    rw[ag (by simpa using h)];omega
  ·have h1:dy 0 (vP ((u.natAbs:Int)-v.natAbs))=false:=fM (by unfold vP;rw[ak ω];omega)
   obtain⟨r,hr,hvd,Ha,hl⟩:=Ec N hN (ku v.natAbs) (ku u.natAbs) ω (by rw[iv,iv];omega)
   simp only[h1,av,hr,ar,pL N _ hvd ω ω,Ha,iv]
   congr 1
   show cI _=cI _
   congr 1
   by_cases h:v<0
   ·have: ¬u<0:=λhu=>hs (by simp[h,hu])
    rw[ak (aV h)];omega
   ·have:u<0:=NS λhu=>hs (by simp[h,hu])
    rw[ag (by simpa using h)];omega
theorem pe(hN:4000000≤N){u:Int}(hu:Fit u 900000):E8 N (cI u)=some (cI (-u)):=by
 have lu:=hu.len
 unfold E8
 simp only[cI]
 simp only[pL N _ (ku u.natAbs) ω ω,ar,iv]
 congr 1
 show cI _=cI _
 congr 1
 by_cases h:u<0
 ·rw[aV h,bk,ag pD];omega
 ·rw[bw h,dw,ak rfl];omega
theorem BM(hN:4000000≤N){u:Int}(hu:Fit u 900000):CZ N (cI u)=some (cI u.natAbs):=by
 have lu:=hu.len
 unfold CZ
 simp only[cI]
 simp only[pL N _ (ku u.natAbs) ω ω,ar,iv,jN,fI]
 rfl
theorem ra(hN:4000000≤N){u v:Int}(hu:Fit u 900000)(hv:Fit v 900000):Ac N (cI u) (cI v)=some (cI (u-v)):=by
 unfold Ac
 simp only[pe N hN hv,ar,iN N hN hu hv.neg,Int.sub_eq_add_neg]
theorem pM(u:Int):Uw N (cI u)=some (vP u):=by
 unfold Uw
 simp only[cI]
 by_cases h:u=0
 ·subst h
  rw[show(0:Int).natAbs=0 from rfl,lh]
  simp (disch:=omega) only[aQ,aO,fR,fM,eg,eH,aU,bJ,db,eh,aw,eG,aj,av,bk,dw,ar,aG,dO,af,aS,aJ,bU,c9,aT,bZ]
  rfl
 ·have:0<(mv u.natAbs).length:=by
   apply pT.2
   intro hd;rw[BL]at hd;omega
  rw[eH ω,av]
  by_cases hn:u<0
  ·rw[aV hn,aj,vP,ak hn]
  ·rw[bw hn,av,vP,ag hn,ak ω]
theorem HB(hN:4000000≤N){u v:Int}(hu:Fit u 900000)(hv:Fit v 900000):wW N (cI u) (cI v)=some (vP (u-v)):=by
 unfold wW
 simp only[ra N hN hu hv,ar,pM]
theorem Ux(l:List Int)(h: ∀x∈l,-9223372036854775808≤x∧x<9223372036854775808): -(9223372036854775808*l.length)≤l.sum∧l.sum≤9223372036854775808*l.length:=by
 induction l with
 |nil=>simp
 |cons x l ih=>
  have:=ih (λy hy=>h y (ba _ hy))
  obtain⟨h1,h2⟩:=h x (bu ..)
  rw[cN,aT]
  omega
theorem BN{v:Int}{n:Nat}(hn:n≤1000000)(h0: -(9223372036854775808*n)≤v)(h1:v≤9223372036854775808*n):Fit v 3:=by
 unfold Fit
 rw[show(4294967296:Nat)^3=79228162514264337593543950336 from by decide]
 omega
theorem uV{l:List Int}(h: ∀x∈l,-9223372036854775808≤x∧x<9223372036854775808)(i:Nat): -9223372036854775808≤l.getD i 0∧l.getD i 0<9223372036854775808:=by
 rw[aW]
 cases hn:l[i]? with
 |none=>exact⟨δ,δ⟩
 |some x=>exact h x (List.mem_of_getElem? hn)
theorem mJ(l:List Int){i:Nat}(h:i<l.length):(l.take (i+1)).sum=(l.take i).sum+l.getD i 0:=by
 rw[iV l h];simp
theorem BO(N:Nat)(hN:4000000≤N){l:List Int}(h: ∀x∈l,-9223372036854775808≤x∧x<9223372036854775808)(hl:l.length≤1000000): ∀(m n i:Nat) (z:aL),l.length-i≤m→m<n→i≤l.length→
  qB.l3 N n l z (cI (l.take i).sum) (i:Int)=some (cI l.sum)
 |m,0,i,z,_,hn,_=>ω
 |m,n+1,i,z,hm,hn,hi=>by
  unfold qB.l3 qB.nY
  by_cases h1:i<l.length
  ·obtain⟨g0,g1⟩:=uV h i
   have f1:=Ux (l.take i) (λx hx=>h x (lI hx))
   rw[cj,iu ω]at f1
   have f2:Fit (l.take i).sum 900000:=(BN (n:=i) ω f1.1 f1.2).mono ω
   have f3:Fit (l.getD i 0) 900000:=(Fit.i64 g0 g1).mono ω
   simp (disch:=omega) only[aQ,aO,fR,fM,eg,eH,aU,bJ,db,eh,aw,eG,aj,av,bk,dw,ar,aG,dO,af,aS,aJ,bU,c9,aT,bZ,dd N ω g0 g1,iN N hN f2 f3]
   rw[←mJ l h1]
   exact BO N hN h hl (m-1) n (i+1) z ω ω ω
  ·simp (disch:=omega) only[aQ,aO,fR,fM,eg,eH,aU,bJ,db,eh,aw,eG,aj,av,bk,dw,ar,aG,dO,af,aS,aJ,bU,c9,aT,bZ]
   rw[iG ω]
theorem g8:cI 0=(false,([],())):=by unfold cI;rw[show(0:Int).natAbs=0 from rfl,lh];rfl
theorem Ad(hN:4000000≤N){l:List Int}(h: ∀x∈l,-9223372036854775808≤x∧x<9223372036854775808)(hl:l.length≤1000000):qB N l=some (cI l.sum):=by
 unfold qB qB.b
 have:=BO N hN h hl l.length N 0 (false,([],())) ω ω ω
 rw[mA,jn,g8]at this
 exact this
theorem Zl{a b:Int}(ha:0≤a)(ha1:a<4294967296)(hb:0≤b)(nD:b<4294967296):sb .or .u64 a (b*4294967296)=a+b*4294967296:=by
 rw[Ut ha ω ω ω]
 have h:=NN (i:=32) (b:=a.toNat) ω b.toNat
 have e:(b*4294967296).toNat=2^32*b.toNat:=ω
 rw[e,Nat.or_comm,←h];omega
theorem Wj{a b:Int}(ha:0≤a)(ha1:a<4294967296)(hb:0≤b)(nD:b<4294967296):sb .or .u64 (b*4294967296) a=a+b*4294967296:=by
 rw[Ut ω ω ha ω]
 have h:=NN (i:=32) (b:=a.toNat) ω b.toNat
 have e:(b*4294967296).toNat=2^32*b.toNat:=ω
 rw[e,←h];omega
theorem aiY{x:Int}(h0:0≤x):shl .u64 x 32=x*4294967296:=by rw[acL ω ω];rfl
def C0(v:Int):Int×Bool:=if-9223372036854775808≤v∧v<9223372036854775808 then(v,true)else(0,false)
theorem acM{n:Nat}(h:(mv n).length≤2):(mv n).getD 0 0+4294967296*(mv n).getD 1 0=n:=by
 have h1:=lR (mv n) 0
 have h2:=lR (mv n) 1
 rw[cM,iv]at h1
 rw[jM (l:=mv n) (i:=1+1) h]at h2
 simp only[dv,fX]at h1 h2
 omega
theorem uk(v:Int):xW N (cI v)=some (C0 v):=by
 unfold xW
 simp only[cI]
 by_cases hl:2<(mv v.natAbs).length
 ·rw[aQ ω,aj,C0,ag]
  intro hh
  have:=vO 2 v.natAbs (by rw[show(4294967296:Nat)^2=18446744073709551616 from by decide];omega)
  omega
 ·have h2:=acM (n:=v.natAbs) ω
  obtain⟨a0,a1⟩:=(ku v.natAbs).getD 0
  obtain⟨b0,b1⟩:=(ku v.natAbs).getD 1
  have e0:=xV N (mv v.natAbs) 0
  have e1:=xV N (mv v.natAbs) 1
  simp only[Int.natCast_zero,Int.natCast_one]at e0 e1
  rw[aO ω,av,e0,e1]
  generalize (mv v.natAbs).getD 0 0=a at*
  generalize (mv v.natAbs).getD 1 0=b at*
  simp only[ar]
  rw[aO (show(0:Int)≤32 by omega),av,aiY b0,eG (x:=b*4294967296) ω ω,Zl a0 a1 b0 b1]
  have ev:a+b*4294967296=v.natAbs:=ω
  rw[ev]
  by_cases hn:v<0
  ·rw[aV hn,aj]
   by_cases Mg:9223372036854775808<(v.natAbs:Int)
   ·rw[aQ Mg,aj,C0,ag ω]
   ·rw[aO ω,av,C0,ak ω,p8,gN]
    congr 2
    split<;>omega
  ·rw[bw hn,av]
   by_cases Mg:9223372036854775807<(v.natAbs:Int)
   ·rw[aQ Mg,aj,C0,ag ω]
   ·rw[aO ω,av,C0,ak ω,aw ω ω]
    congr 2;omega
theorem Pd: ∀(l:List Int) (k:Nat) (x:Int),k<l.length→dv (l.set k x)=dv l+4294967296^k*(x-l.getD k 0)
 |d::r,0,x,_=>by simp[dv];omega
 |d::r,k+1,x,h=>by
  have ih:=Pd r k x (by simpa using h)
  rw[List.set_cons_succ,dv,dv,ih,List.getD_cons_succ,A3,jm (4294967296^k) 4294967296,lK,mC];omega
theorem getD_set_ne(l:List Int){j k:Nat}(x:Int)(h:j≠k):(l.set j x).getD k 0=l.getD k 0:=by
 simp[aW,List.getElem?_set_ne h]
theorem nH(l:List Int){k:Nat}(x:Int)(h:k<l.length):(l.set k x).getD k 0=x:=by
 simp[aW,List.getElem?_set,h]
theorem vQ(l:List Int){k:Nat}(h:l.length≤k):l.getD k 0=0:=by
 rw[aW,iq h];rfl
theorem Ed(N:Nat)(K:aL→aL→aL→List Int→Int→Option aL){a b:List Int}(na nb:Bool)(z:aL)(ha:VD a)(hb:VD b)(i:Nat)(hi:i<a.length)(Aa:a.length≤100000)(R9:b.length≤100000):
  ∀(m n j:Nat) (out:List Int) (c:Int),b.length+1-j≤m→m<n→VD out→out.length=a.length+b.length+1→0≤c→c<4294967296→(j≤b.length→ ∀k,i+b.length≤k→out.getD k 0=0)→(b.length<j→c=0∧j=b.length+1∧ ∀k,i+b.length+1≤k→out.getD k 0=0)→
  ∃Ae,ei.l7 N K n (na,(a,())) (nb,(b,())) z out (i:Int) c (j:Int)=K (na,(a,())) (nb,(b,())) z Ae ((i+1:Nat):Int)∧VD Ae∧Ae.length=out.length∧
   dv Ae=dv out+4294967296^i*(4294967296^j*(a.getD i 0*dv (b.drop j)+c))∧ ∀k,i+1+b.length≤k→Ae.getD k 0=0
 |m,0,j,out,c,_,hn,_,_,_,_,_,_=>ω
 |m,n+1,j,out,c,hm,hn,ho,xa,T1,FJ,hz,FM=>by
  unfold ei.l7 ei.nR
  by_cases O5:b.length≤j∧c=0
  ·obtain⟨h1,rfl⟩:=O5
   simp (disch:=omega) only[aQ,aO,fR,fM,eg,eH,aU,bJ,db,eh,aw,eG,aj,av,bk,dw,ar,aG,dO,af,aS,aJ,bU,c9,aT,bZ]
   refine⟨out,rfl,ho,rfl,by rw[jM h1];simp[dv],λk hk=> ?_⟩
   by_cases hj:j≤b.length
   ·exact hz hj k ω
   ·exact(FM ω).2.2 k ω
  ·have Bm:j≤b.length:=by
    by_cases hj:j≤b.length
    ·exact hj
    ·exact absurd ⟨ω,(FM ω).1⟩ O5
   obtain⟨ga0,ga1⟩:=ha.getD i
   obtain⟨gb0,gb1⟩:=hb.getD j
   obtain⟨go0,go1⟩:=ho.getD (i+j)
   have step: ∃Ae,ei.j9 N K (ei.l7 N K n) (na,(a,())) (nb,(b,())) z out (i:Int) c (j:Int)=K (na,(a,())) (nb,(b,())) z Ae ((i+1:Nat):Int)∧VD Ae∧Ae.length=out.length∧
     dv Ae=dv out+4294967296^i*(4294967296^j*(a.getD i 0*dv (b.drop j)+c))∧ ∀k,i+1+b.length≤k→Ae.getD k 0=0:=by
    unfold ei.j9 ei.Pe
    have eij:(i:Int)+(j:Int)=((i+j:Nat):Int):=rfl
    have hp:=mul_lt (m:=4294967295) (n:=4294967295) ga0 gb0 ω ω
    simp only[xV,ar,eij,aG]
    simp (disch:=omega) only[aQ,aO,fR,fM,eg,eH,aU,bJ,db,eh,aw,eG,aj,av,bk,dw,ar,aG,dO,af,aS,aJ,bU,c9,aT,bZ]
    generalize hx:out.getD (i+j) 0=x at*
    generalize ha':a.getD i 0=ai at*
    generalize fb:b.getD j 0=bj at*
    generalize hpe:ai*bj=p at*
    have hpz:b.length≤j→p=0∧x=0:=λh=>by
     rw[vQ b h]at fb
     refine⟨by rw[←hpe,←fb,A4],?_⟩
     rw[←hx];exact hz Bm _ ω
    rw[pb ω ω,Uu]
    have awb:(out.set (i+j) ((c+(x+p))%4294967296)).length=a.length+b.length+1:=by rw[bU];exact xa
    obtain⟨Ae,h1,h2,h3,h4,h5⟩:=Ed N K na nb z ha hb i hi Aa R9 (m-1) n (j+1) (out.set (i+j) ((c+(x+p))%4294967296)) ((c+(x+p))/4294967296) ω ω (ho.set _ ω ω) awb ω ω
     (λh k hk=>by rw[getD_set_ne _ _ ω];exact hz Bm k hk)
     (λh=>by
      obtain⟨hp0,YS⟩:=hpz ω
      refine⟨ω,ω,λk hk=> ?_⟩
      rw[getD_set_ne _ _ ω];exact hz Bm k ω)
    refine⟨Ae,h1,h2,by rw[h3,bU],?_,h5⟩
    rw[h4,Pd _ _ _ ω,hx,ha',lR b j,fb,mC ai,hpe,Int.pow_add,A3]
    have e1:ai*(4294967296*dv (b.drop (j+1)))=4294967296*(ai*dv (b.drop (j+1))):=Int.mul_left_comm _ _ _
    rw[e1]
    generalize ai*dv (b.drop (j+1))=y
    generalize (4294967296:Int)^i=P
    generalize (4294967296:Int)^j=R
    rw[lK R,lK P,Int.add_assoc,←mC,←mC]
    congr 3
    omega
   by_cases h1:j<b.length
   ·simp (disch:=omega) only[aQ,aj];exact step
   ·have:0<c:=ω
    simp (disch:=omega) only[aQ,aO,aj,av];exact step
theorem Ee(N:Nat)(hN:4000000≤N){a b:List Int}(na nb:Bool)(z:aL)(ha:VD a)(hb:VD b)(Aa:a.length≤100000)(R9:b.length≤100000):
  ∀(m n i:Nat) (out:List Int),a.length-i≤m→m<n→i≤a.length→VD out→out.length=a.length+b.length+1→(∀k,i+b.length≤k→out.getD k 0=0)→dv out=dv (a.take i)*dv b→
  ei.l3 N n (na,(a,())) (nb,(b,())) z out (i:Int)=some (cI (if na=nb then dv a*dv b else-(dv a*dv b)))
 |m,0,i,out,_,hn,_,_,_,_,_=>ω
 |m,n+1,i,out,hm,hn,hi,ho,xa,hz,hv=>by
  unfold ei.l3 ei.nY
  by_cases h1:i<a.length
  ·simp only
   rw[aQ ω,aj]
   obtain⟨Ae,e1,e2,e3,e4,e5⟩:=Ed N (ei.l3 N n) na nb z ha hb i h1 Aa R9 (b.length+1) N 0 out 0 ω ω ho xa ω ω (λ_ k hk=>hz k hk) (λh=>ω)
   rw[show((0:Nat):Int)=0 from rfl]at e1
   rw[e1]
   refine Ee N hN na nb z ha hb Aa R9 (m-1) n (i+1) Ae ω ω ω e2 (by rw[e3];exact xa) (λk hk=>e5 k ω) ?_
   rw[e4,hv,iV a h1,rI,cj,iu ω,cM,Int.pow_zero,A6,jo,pZ,lK]
  ·simp only
   rw[aO ω,av]
   simp only[pL N _ ho ω ω,ar]
   rw[hv,iG ω,mI]
   congr 2
   cases na<;>cases nb<;>simp
theorem sx(hN:4000000≤N){u v:Int}(hu:Fit u 90000)(hv:Fit v 90000):ei N (cI u) (cI v)=some (cI (u*v)):=by
 have lu:=hu.len
 have lv:=hv.len
 unfold ei ei.b
 simp only[cI]
 simp (disch:=omega) only[aQ,aO,fR,fM,eg,eH,aU,bJ,db,eh,aw,eG,aj,av,bk,dw,ar,aG,dO,af,aS,aJ,bU,c9,aT,bZ]
 have e:(((mv u.natAbs).length:Int)+((mv v.natAbs).length:Int)+1).toNat=(mv u.natAbs).length+(mv v.natAbs).length+1:=ω
 have:=Ee N hN (decide (u<0)) (decide (v<0)) (false,([],())) (ku u.natAbs) (ku v.natAbs) ω ω (mv u.natAbs).length N 0 (List.replicate ((mv u.natAbs).length+(mv v.natAbs).length+1) 0) ω ω ω (VD.aiX _) (by simp)
  (λk _=>by rw[aW,Gi];split<;>rfl) (by
   have: ∀n,dv (List.replicate n 0)=0:=λn=>by
    induction n with
    |zero=>rfl
    |succ n ih=>rw[AQ,dv,ih];rfl
   rw[this];simp[dv])
 rw[iv,iv]at this
 have e2:(((mv u.natAbs).length+(mv v.natAbs).length:Nat):Int)+1=(mv u.natAbs).length+(mv v.natAbs).length+1:=ω
 first
 |(rw[e];refine this.trans ?_)
 |(refine(this).trans ?_)
 show some (cI _)=some (cI _)
 congr 2
 have key:(u.natAbs:Int)*v.natAbs=if decide (u<0)=decide (v<0)then u*v else-(u*v):=by
  by_cases h1:u<0<;>by_cases h2:v<0
  ·rw[ak (by simp[h1,h2]),show(u.natAbs:Int)= -u from by omega,show(v.natAbs:Int)= -v from by omega,Int.neg_mul_neg]
  ·rw[ag (by simp[h1,h2]),show(u.natAbs:Int)= -u from by omega,show(v.natAbs:Int)=v from by omega,Int.neg_mul]
  ·rw[ag (by simp[h1,h2]),show(u.natAbs:Int)=u from by omega,show(v.natAbs:Int)= -v from by omega,A7]
  ·rw[ak (by simp[h1,h2]),show(u.natAbs:Int)=u from by omega,show(v.natAbs:Int)=v from by omega]
 rw[key]
 split<;>simp
theorem acN{x:Int}(h0:0≤x)(h1:x<18446744073709551616):sb .and .u64 x 1=x%2:=by
 rw[O2 h0 h1 ω ω]
 have:=NM x.toNat 1
 rw[show((1:Int).toNat)=2^1-1 from rfl,this]
 omega
theorem JQ{l:List Int}{k:Nat}(x:Int)(h:k<l.length):dv ((l.set k x).drop k)=x+4294967296*dv (l.drop (k+1)):=by
 rw[lR,nH l x h,List.drop_set_of_lt ω]
theorem Kx(N:Nat){d:List Int}(hd:VD d)(hl:d.length≤100000)(hN:4000000≤N): ∀(k n:Nat) (out:List Int) (c:Int),k≤d.length→k<n→VD out→out.length=d.length→c=dv (d.drop k)%2→dv (out.drop k)=dv (d.drop k)/2→
  qC.l4 N n d out c ((k:Int)-1)=some (mv (dv d/2).toNat,dv d%2)
 |k,0,out,c,_,hn,_,_,_,_=>ω
 |0,n+1,out,c,_,_,ho,xa,hc,hv=>by
  unfold qC.l4 qC.dM
  simp (disch:=omega) only[aQ,aO,fR,fM,eg,eH,aU,bJ,db,eh,aw,eG,aj,av,bk,dw,ar,aG,dO,af,aS,aJ,bU,c9,aT,bZ,Ml N ho ω ω]
  rw[cM,cM]at hv
  rw[cM]at hc
  rw[hv,hc]
 |k+1,n+1,out,c,hk,hn,ho,xa,hc,hv=>by
  unfold qC.l4 qC.dM
  have e:((k+1:Nat):Int)-1=(k:Int):=ω
  obtain⟨g0,g1⟩:=hd.getD k
  have hn0:=lj (hd.drop (k+1))
  have e1:=lR d k
  simp only[e,aG]
  rw[aiY ω]
  generalize hx:d.getD k 0=x at*
  rw[eG (x:=c*4294967296) ω ω,Wj g0 g1 ω ω]
  simp (disch:=omega) only[aQ,aO,fR,fM,eg,eH,aU,bJ,db,eh,aw,eG,aj,av,bk,dw,ar,aG,dO,af,aS,aJ,bU,c9,aT,bZ,ap4,acN]
  refine Kx N hd hl hN k n (out.set k ((x+c*4294967296)/2)) ((x+c*4294967296)%2) ω ω (ho.set _ ω ω) (by rw[bU];exact xa) (by rw[e1,hc];omega) ?_
  rw[JQ _ ω,hv,e1]
  omega
theorem acO(hN:4000000≤N)(m:Nat)(h:(mv m).length≤100000):qC N (mv m)=some (mv (m/2),((m%2:Nat):Int)):=by
 unfold qC qC.b
 simp (disch:=omega) only[aQ,aO,fR,fM,eg,eH,aU,bJ,db,eh,aw,eG,aj,av,bk,dw,ar,aG,dO,af,aS,aJ,bU,c9,aT,bZ]
 have:=Kx N (ku m) h hN (mv m).length N (List.replicate (mv m).length 0) 0 (aH _) ω (VD.aiX _) (by simp) (by rw[m0];rfl) (by rw[m0,jM (by simp)];rfl)
 rw[iv]at this
 rw[this]
 congr 2
def bin(n:Nat):List Int:=if n=0 then []else((n%2:Nat):Int)::bin (n/2)
termination_by n
decreasing_by omega
theorem FO{n:Nat}(h:n≠0):bin n=((n%2:Nat):Int)::bin (n/2):=by rw[bin];simp[h]
theorem xX:bin 0=[]:=by rw[bin];rfl
def BP:List Int→Int
 |[]=>0
 |d::r=>d+2*BP r
theorem acP(n:Nat):BP (bin n)=n:=by
 induction n using Nat.strongRecOn with
 |_ n ih=>
  by_cases h:n=0
  ·subst h;rw[xX];rfl
  ·rw[FO h,BP,ih _ ω];omega
theorem acQ(n:Nat): ∀d∈bin n,d=0∨d=1:=by
 induction n using Nat.strongRecOn with
 |_ n ih=>
  by_cases h:n=0
  ·subst h;rw[xX];intro d hd;cases hd
  ·rw[FO h];intro d hd
   rcases bh.1 hd with rfl|hd
   ·omega
   ·exact ih _ ω d hd
theorem acR(k:Nat): ∀n,n<2^k→(bin n).length≤k:=by
 induction k with
 |zero=>
  intro n h;have:n=0:=by simpa using h
  subst this;rw[xX];simp
 |succ k ih=>
  intro n h
  by_cases hn:n=0
  ·subst hn;rw[xX];simp
  ·rw[FO hn,aT]
   have:=ih (n/2) (by rw[A2]at h;omega)
   omega
theorem Zm{n k:Nat}(h:n<4294967296^k):(bin n).length≤32*k:=acR _ _ (n6 h (by rw[Nat.pow_mul];exact aH _))
theorem Ky(N:Nat)(hN:4000000≤N)(x2 x3 x4 x5:aL): ∀(m n:Nat) (t:Nat) (bits:List Int),(bin t).length≤m→m<n→(mv t).length≤100000→bits.length+(bin t).length≤4000000→
  jg.l3 N n x2 x3 x4 x5 bits (mv t)=jg.l9 N N x2 x3 x4 x5 (bits++bin t) (false,([],())) (false,([],())) (((bits++bin t).length:Int)-1)
 |m,0,t,bits,_,hn,_,_=>ω
 |m,n+1,t,bits,hm,hn,hd,hb=>by
  unfold jg.l3 jg.nY
  by_cases ht:t=0
  ·subst ht
   rw[lh,xX]
   simp (disch:=omega) only[aQ,aO,fR,fM,eg,eH,aU,bJ,db,eh,aw,eG,aj,av,bk,dw,ar,aG,dO,af,aS,aJ,bU,c9,aT,bZ,cA]
  ·have Oy:0<(mv t).length:=by
    apply pT.2
    intro h;rw[BL]at h;omega
   rw[FO ht]at hm hb ⊢
   rw[aT]at hm hb
   have hdl:(mv (t/2)).length≤100000:=by
    have:=Mk _ t hd
    exact vO _ _ (Nat.lt_of_le_of_lt (Nat.div_le_self _ _) this)
   simp (disch:=omega) only[aQ,aO,fR,fM,eg,eH,aU,bJ,db,eh,aw,eG,aj,av,bk,dw,ar,aG,dO,af,aS,aJ,bU,c9,aT,bZ,acO N hN t hd]
   rw[Ky N hN x2 x3 x4 x5 (m-1) n (t/2) (bits++[((t%2:Nat):Int)]) ω ω hdl (by simp;omega)]
   simp
theorem Wk(l:List Int){i:Nat}(h:i<l.length):BP (l.drop i)=l.getD i 0+2*BP (l.drop (i+1)):=by
 rw[qW h,BP,aW,bm h];rfl
theorem Ef: ∀{l:List Int},(∀d∈l,d=0∨d=1)→0≤BP l
 |[],_=>fY _
 |d::r,h=>by
  have h1:=Ef (l:=r) λx hx=>h x (ba _ hx)
  have:=h d (bu ..)
  simp only[BP];omega
theorem vR: ∀(l:List Int) (i:Nat),(∀d∈l,d=0∨d=1)→BP (l.drop i)≤BP l
 |l,0,_=>fY _
 |[],i+1,_=>fY _
 |d::r,i+1,h=>by
  have h1:=vR r i λx hx=>h x (ba _ hx)
  have h2:=Ef (l:=r) λx hx=>h x (ba _ hx)
  have:=h d (bu ..)
  rw[List.drop_succ_cons,BP];omega
theorem uW(N:Nat)(hN:4000000≤N)(a d:Int)(hd:0<d)(Uy:Fit a 80000)(Sy:Fit d 80000)(x4 x5:aL){bits:List Int}(hb: ∀x∈bits,x=0∨x=1)(hbv:BP bits=a.natAbs)(xD:bits.length≤4000000):
  ∀(k n:Nat) (q r:Int),k≤bits.length→k<n→0≤q→0≤r→r<d→BP (bits.drop k)=q*d+r→
  jg.l9 N n (cI a) (cI d) x4 x5 bits (cI q) (cI r) ((k:Int)-1)=some (cI (a/d),cI (a%d))
 |k,0,q,r,_,hn,_,_,_,_=>ω
 |0,n+1,q,r,_,_,hq,hr,kD,hv=>by
  unfold jg.l9 jg.uX
  rw[cM,hbv]at hv
  have hqa:q≤a.natAbs:=by
   have:q*1≤q*d:=yJ ω hq
   omega
  have fq:Fit q 900000:=(Uy.of_le (u:=q) ω).mono ω
  have fr:Fit r 900000:=(Sy.of_le (u:=r) ω).mono ω
  have f1:Fit 1 900000:=(Fit.i64 (v:=1) ω ω).mono ω
  have fq':Fit (-q) 900000:=fq.neg
  have fd:Fit d 900000:=Sy.mono ω
  rw[fM ω,av]
  by_cases ha:a<0
  ·have Ys:(a.natAbs:Int)= -a:=ω
   have e0:(cI a).1=true:=aV ha
   simp only[e0,bk,av,pM,ar]
   by_cases Yr:r=0
   ·subst Yr
    rw[eg (by unfold vP;simp),aj]
    simp only[pe N hN fq,ar]
    have e1:a=d*(-q):=by rw[A7,jm];omega
    have e2:a/d= -q:=by rw[e1,Int.mul_ediv_cancel_left _ ω]
    have e3:a%d=0:=by rw[e1,Int.mul_emod_right]
    rw[e2,e3]
   ·rw[eH (by unfold vP;rw[ag ω,ak ω];omega),av]
    simp (disch:=omega) only[pe N hN fq,dd N ω (show-9223372036854775808≤(1:Int)by omega) ω,ar,ra N hN fq' f1,ra N hN fd fr]
    have e1:a=(d-r)+d*(-q-1):=by rw[Int.mul_sub,A7,Int.mul_one,jm];omega
    have e2:a/d= -q-1:=by
     rw[e1,N5 _ _ ω,N0 ω ω];omega
    have e3:a%d=d-r:=by rw[e1,NQ,Int.emod_eq_of_lt ω ω]
    rw[e2,e3]
  ·have Ys:(a.natAbs:Int)=a:=ω
   have e0:(cI a).1=false:=bw ha
   simp only[e0,dw,aj]
   have e1:a=r+d*q:=by rw[jm];omega
   have e2:a/d=q:=by rw[e1,N5 _ _ ω,N0 hr kD];omega
   have e3:a%d=r:=by rw[e1,NQ,Int.emod_eq_of_lt hr kD]
   rw[e2,e3]
 |k+1,n+1,q,r,hk,hn,hq,hr,kD,hv=>by
  unfold jg.l9 jg.uX
  have e:((k+1:Nat):Int)-1=(k:Int):=ω
  have hle:=vR bits k hb
  have awc:=vR bits (k+1) hb
  rw[hbv]at hle awc
  have hqa:q≤a.natAbs:=by
   have:q*1≤q*d:=yJ ω hq
   omega
  have fq:Fit q 80000:=Uy.of_le ω
  have fr:Fit r 80000:=Sy.of_le ω
  have fqq:=fq.add fq
  have frr:=fr.add fr
  have f1:Fit 1 80000:=(Fit.i64 (v:=1) ω ω).mono ω
  have hvk:=Wk bits (i:=k) ω
  have E6:bits.getD k 0=0∨bits.getD k 0=1:=by
   rw[aW,bm (show k<bits.length by omega)]
   exact hb _ (dG _)
  rw[e,fR ω,aj]
  have e2q:(q+q)*d=2*(q*d):=by rw[←Int.two_mul,lK]
  have ap8:(q+q+1)*d=2*(q*d)+d:=by rw[pZ,e2q,A6]
  simp (disch:=omega) only[aQ,aO,fR,fM,eg,eH,aU,bJ,db,eh,aw,eG,aj,av,bk,dw,ar,aG,dO,af,aS,aJ,bU,c9,aT,bZ,iN N hN (fq.mono ω) (fq.mono ω),iN N hN (fr.mono ω) (fr.mono ω),dd N ω (show-9223372036854775808≤(1:Int)by omega) ω]
  rcases E6 with E6|E6
  ·rw[E6,eH ω,av]
   simp only[HB N hN (frr.mono ω) (Sy.mono ω),ar]
   by_cases L1:d≤r+r
   ·rw[fR (by unfold vP;split<;>(try split)<;>omega),aj]
    simp only[ra N hN (frr.mono ω) (Sy.mono ω),iN N hN (fqq.mono ω) (f1.mono ω),ar]
    refine uW N hN a d hd Uy Sy x4 x5 hb hbv xD k n _ _ ω ω ω ω ω ?_
    rw[hvk,E6,hv,ap8];omega
   ·rw[fM (by unfold vP;rw[ak ω];omega),av]
    refine uW N hN a d hd Uy Sy x4 x5 hb hbv xD k n _ _ ω ω ω ω ω ?_
    rw[hvk,E6,hv,e2q];omega
  ·rw[E6,eg rfl,aj]
   have ap9:=frr.add (f1.mono (show 80000≤80001 by omega))
   simp only[iN N hN (frr.mono ω) (f1.mono ω),HB N hN (ap9.mono ω) (Sy.mono ω),ar]
   by_cases L1:d≤r+r+1
   ·rw[fR (by unfold vP;split<;>(try split)<;>omega),aj]
    simp only[ra N hN (ap9.mono ω) (Sy.mono ω),iN N hN (fqq.mono ω) (f1.mono ω),ar]
    refine uW N hN a d hd Uy Sy x4 x5 hb hbv xD k n _ _ ω ω ω ω ω ?_
    rw[hvk,E6,hv,ap8];omega
   ·rw[fM (by unfold vP;rw[ak ω];omega),av]
    refine uW N hN a d hd Uy Sy x4 x5 hb hbv xD k n _ _ ω ω ω ω ω ?_
    rw[hvk,E6,hv,e2q];omega
theorem Uz(hN:5000000≤N){a d:Int}(hd:0<d)(Uy:Fit a 80000)(Sy:Fit d 80000):jg N (cI a) (cI d)=some (cI (a/d),cI (a%d)):=by
 unfold jg jg.b
 have xD:(bin a.natAbs).length≤32*80000:=Zm Uy
 have h1:=Ky N ω (cI a) (cI d) (false,([],())) (false,([],())) (bin a.natAbs).length N a.natAbs [] (aH _) ω (ck Uy.len ω) (by simp;omega)
 rw[cD]at h1
 refine h1.trans ?_
 rw[←g8]
 exact uW N ω a d hd Uy Sy _ _ (acQ _) (acP _) ω (bin a.natAbs).length N 0 0 (aH _) ω ω ω hd (by rw[m0];simp[BP])
def cK(v:Int):bY:=(v/18446744073709551616,(v%18446744073709551616,()))
theorem wmk{a b v:Int}(h1:a=v/18446744073709551616)(h2:b=v%18446744073709551616):((a,(b,())):bY)=cK v:=by
 unfold cK;rw[h1,h2]
theorem UA{a b v:Int}{α:Type}{c:α}(h1:a=v/18446744073709551616)(h2:b=v%18446744073709551616):(some (((a,(b,())):bY),c):Option (bY×α))=some (cK v,c):=by
 rw[wmk h1 h2]
theorem Zn{a b c d:Int}(h1:a=c)(h2:b=d):(some (a,b):Option (Int×Int))=some (c,d):=by rw[h1,h2]
theorem Af{hi lo:Int}(h0:0≤hi)(h1:hi<9223372036854775808)(l0:0≤lo)(l1:lo<18446744073709551616):rf N false hi lo=some (cK (hi*18446744073709551616+lo),true):=by
 unfold rf rf.b
 rw[dw,aj,fM ω,av,aw ω ω]
 exact UA ω ω
theorem HC{hi lo:Int}(h0:0≤hi)(l0:0≤lo)(l1:lo<18446744073709551616)(hm:hi*18446744073709551616+lo≤170141183460469231731687303715884105728):rf N true hi lo=some (cK (-(hi*18446744073709551616+lo)),true):=by
 unfold rf rf.b
 have hj:rf.j7 N hi lo c7=some (cK (-(hi*18446744073709551616+lo)),true):=by
  unfold rf.j7 rf.XX
  rw[mH N ω ω l0 l1 ω ω,ar]
  by_cases hl:lo=0
  ·subst hl
   rw[ag ω]
   rw[mH N ω ω h0 ω ω ω,ar,gN]
   exact UA (by split<;>omega) ω
  ·rw[ak ω]
   rw[mH N ω ω h0 ω ω ω,ar,gN]
   exact UA (by split<;>omega) ω
 rw[bk,av,aO ω,av]
 by_cases he:hi=9223372036854775808
 ·rw[eg he,aj,aO ω,av];exact hj
 ·rw[eH he,av];exact hj
theorem JR{a b:Int}(a0: -9223372036854775808≤a)(a1:a<9223372036854775808)(b0: -9223372036854775808≤b)(b1:b<9223372036854775808):
  0≤(a.natAbs:Int)*b.natAbs∧(a.natAbs:Int)*b.natAbs≤85070591730234615865843651857942052864:=by
 have:=mul_lt (m:=9223372036854775808) (n:=9223372036854775808) (show 0≤(a.natAbs:Int)by omega) (show 0≤(b.natAbs:Int)by omega) ω ω
 omega
theorem Mn{a b:Int}(a0: -9223372036854775808≤a)(a1:a<9223372036854775808)(b0: -9223372036854775808≤b)(b1:b<9223372036854775808):Wl N a b=some (cK (a*b)):=by
 unfold Wl
 have hm:=JR a0 a1 b0 b1
 simp only[Mj N a0 a1,Mj N b0 b1,ar,Hv N (show 0≤(a.natAbs:Int)by omega) ω (show 0≤(b.natAbs:Int)by omega) ω,mI]
 obtain⟨m,hme⟩: ∃m,m=(a.natAbs:Int)*b.natAbs:=⟨_,rfl⟩
 rw[←hme]at hm ⊢
 have hd:m/18446744073709551616*18446744073709551616+m%18446744073709551616=m:=ω
 by_cases h1:a<0<;>by_cases h2:b<0
 ·rw[aQ h1,aQ h2,uA,bk,Af N ω ω ω ω,ar,hd]
  have:m=a*b:=by rw[hme,show(a.natAbs:Int)= -a from by omega,show(b.natAbs:Int)= -b from by omega,Int.neg_mul_neg]
  rw[this]
 ·rw[aQ h1,aO (x:=b) ω,show(!(true==false))=true from rfl,HC N ω ω ω ω,ar,hd]
  have:m= -(a*b):=by rw[hme,show(a.natAbs:Int)= -a from by omega,show(b.natAbs:Int)=b from by omega,Int.neg_mul]
  rw[this,Int.neg_neg]
 ·rw[aO (x:=a) ω,aQ h2,show(!(false==true))=true from rfl,HC N ω ω ω ω,ar,hd]
  have:m= -(a*b):=by rw[hme,show(a.natAbs:Int)=a from by omega,show(b.natAbs:Int)= -b from by omega,A7]
  rw[this,Int.neg_neg]
 ·rw[aO (x:=a) ω,aO (x:=b) ω,uA,bk,Af N ω ω ω ω,ar,hd]
  have:m=a*b:=by rw[hme,show(a.natAbs:Int)=a from by omega,show(b.natAbs:Int)=b from by omega]
  rw[this]
theorem Zo{v:Int}(v0: -170141183460469231731687303715884105728≤v)(v1:v<170141183460469231731687303715884105728):acS N (cK v)=some ((v.natAbs:Int)/18446744073709551616,(v.natAbs:Int)%18446744073709551616):=by
 unfold acS cK
 dsimp only
 by_cases h:0≤v
 ·rw[fR ω,aj,eG ω ω]
  exact Zn ω ω
 ·rw[fM ω,av,mH N ω ω ω ω ω ω,ar]
  dsimp only
  rw[p8]
  by_cases hl:v%18446744073709551616=0
  ·rw[ag ω,mH N ω ω ω ω ω ω,ar]
   exact Zn ω ω
  ·rw[ak ω,mH N ω ω ω ω ω ω,ar]
   exact Zn ω ω
theorem acT{v:Int}(v0: -170141183460469231731687303715884105728≤v)(v1:v<170141183460469231731687303715884105728):Sz N (cK v)=some (C0 v):=by
 unfold Sz cK
 rw[aO ω,av]
 dsimp only
 have hw0: -9223372036854775808≤W .i64 (v%18446744073709551616)∧W .i64 (v%18446744073709551616)<9223372036854775808:=by rw[gN];split<;>omega
 rw[vN hw0.1 hw0.2]
 have hwv:W .i64 (v%18446744073709551616)=if 9223372036854775808≤v%18446744073709551616 then v%18446744073709551616-18446744073709551616 else v%18446744073709551616:=by rw[gN];split<;>split<;>omega
 rw[hwv]
 unfold C0
 by_cases h: -9223372036854775808≤v∧v<9223372036854775808
 ·rw[ak h]
  by_cases hn:v<0
  ·rw[ak (show 9223372036854775808≤v%18446744073709551616 by omega),ak ω,eg ω,bk,av]
   congr 2;omega
  ·rw[ag (show ¬9223372036854775808≤v%18446744073709551616 by omega),ag ω,eg ω,bk,av]
   congr 2;omega
 ·rw[ag h]
  by_cases hm:9223372036854775808≤v%18446744073709551616
  ·rw[ak hm,ak ω,eH ω,dw,aj]
  ·rw[ag hm,ag ω,eH ω,dw,aj]
end VM
end
section
namespace VM
open Go
variable(N:Nat)
theorem cond_not{α:Type}(b:Bool)(x y:α):cond (!b) x y=cond b y x:=by cases b<;>rfl
theorem cf{α:Type}(a b:Int)(x y:α):cond (aX a b) x y=if a<b then x else y:=by
 by_cases h:a<b
 ·rw[aQ h,ak h];rfl
 ·rw[aO ω,ag h];rfl
theorem cz{α:Type}(a b:Int)(x y:α):cond (dy a b) x y=if a≤b then x else y:=by
 by_cases h:a≤b
 ·rw[fR h,ak h];rfl
 ·rw[fM ω,ag h];rfl
theorem aI{α:Type}(a b:Int)(x y:α):cond (aM a b) x y=if a=b then x else y:=by
 by_cases h:a=b
 ·rw[eg h,ak h];rfl
 ·rw[eH h,ag h];rfl
theorem ga{α:Type}(p:Prop) [Decidable p](x y:α):cond (decide p) x y=if p then x else y:=by
 by_cases h:p
 ·rw[aV h,ak h];rfl
 ·rw[bw h,ag h];rfl
theorem drop_cons{α:Type}{l:List α}{i:Nat}(h:i<l.length)(d:α):l.drop i=l.getD i d::l.drop (i+1):=by
 rw[qW h,aW,bm h];rfl
theorem ll{α σ β:Type}(l:List α)(d:α)(F:Nat→Int→σ→Option β)(g:List α→σ→Option β)(I:Nat→σ→Prop)
  (hs: ∀n i s,i<l.length→I i s→(∀s',I (i+1) s'→F n ((i+1:Nat):Int) s'=g (l.drop (i+1)) s')→F (n+1) (i:Int) s=g (l.getD i d::l.drop (i+1)) s)
  (he: ∀n s,I l.length s→F (n+1) (l.length:Int) s=g [] s): ∀m n i s,l.length-i≤m→m<n→i≤l.length→I i s→F n (i:Int) s=g (l.drop i) s
 |m,0,i,s,_,hn,_,_=>ω
 |m,n+1,i,s,hm,hn,hi,hI=>by
  by_cases h:i<l.length
  ·rw[drop_cons h d]
   exact hs n i s h hI λs' zD=>ll l d F g I hs he (m-1) n (i+1) s' ω ω ω zD
  ·have:i=l.length:=ω
   subst this
   rw[m0];exact he n s hI
theorem Eg{α β:Type}(l:List α)(d:α)(F:Nat→Int→Option β)(g:List α→Option β)
  (hs: ∀n i,i<l.length→F n ((i+1:Nat):Int)=g (l.drop (i+1))→F (n+1) (i:Int)=g (l.getD i d::l.drop (i+1)))
  (he: ∀n,F (n+1) (l.length:Int)=g []) (n:Nat) (hn:l.length<n):F n 0=g l:=by
 have:=ll (σ:=Unit) l d (λn i _=>F n i) (λl _=>g l) (λ_ _=>True) (λn i _ h _ hr=>hs n i h (hr () trivial)) (λn _ _=>he n) l.length n 0 () ω hn ω trivial
 simpa using this
theorem scan{F:Nat→Int→Option Bool}{len:Nat}(P:Nat→Prop) [DecidablePred P]
  (hs: ∀n i r,i<len→(∀j,j<i→P j)→F n ((i+1:Nat):Int)=r→F (n+1) (i:Int)=if P i then r else some false) {e:Bool} (he: ∀n,F (n+1) (len:Int)=some e):
  ∀m n i,len-i≤m→m<n→i≤len→(∀j,j<i→P j)→F n (i:Int)=some (decide (∀j,j<len→i≤j→P j)&&e)
 |m,0,i,_,hn,_,_=>ω
 |m,n+1,i,hm,hn,hi,hp=>by
  by_cases h:i<len
  ·rw[hs n i _ h hp rfl]
   by_cases hP:P i
   ·rw[ak hP,scan P hs he (m-1) n (i+1) ω ω ω (λj hj=>by
     by_cases z8:j=i
     ·subst z8;exact hP
     ·exact hp j ω)]
    congr 2
    rw[oc]
    refine⟨λhj j h2 h1=> ?_,λhj j h2 h1=>hj j h2 ω⟩
    by_cases z8:j=i
    ·subst z8;exact hP
    ·exact hj j h2 ω
   ·rw[ag hP,bw (λhj=>hP (hj i h (aH i)))];rfl
  ·have:i=len:=ω
   subst this
   rw[he n,aV (λj h2 h1=>absurd h2 ω)];rfl
theorem iC{F:Nat→Int→Option Bool}{len:Nat}(P:Nat→Prop) [DecidablePred P]{e:Bool}
  (hs: ∀n i r,i<len→(∀j,j<i→P j)→F n ((i+1:Nat):Int)=r→F (n+1) (i:Int)=if P i then r else some false) (he: ∀n,F (n+1) (len:Int)=some e) (n:Nat) (hn:len<n):
  F n 0=some (decide (∀j,j<len→P j)&&e):=by
 have:=scan P hs he len n 0 ω hn ω (λj hj=>absurd hj ω)
 rw[show((0:Nat):Int)=0 from rfl]at this
 rw[this]
 congr 2
 rw[oc]
 exact⟨λh j hj=>h j hj ω,λh j hj _=>h j hj⟩
end VM
end
