/- A part of the proof of LotSlices of layer 23: what the functions compute, in plain words. -/
import Derived.Test.YthnjnpjmbabcaaaVm0
import GoSem.Claim
import Derived.Test.YthnjnpjmbabcaaaText
set_option linter.all false
section
namespace VM
open Go
variable(N:Nat)
theorem gd(x:Int):W .u64 x=x%18446744073709551616:=by rw[so];simp[IntKind.wrap,IntKind.bits,IntKind.signed]
theorem bb{x:Int}(h0:0≤x)(h1:x<18446744073709551616):W .u64 x=x:=by rw[gd];omega
theorem dP(x:Int):W .i64 x=if 9223372036854775808≤x%18446744073709551616 then x%18446744073709551616-18446744073709551616 else x%18446744073709551616:=by
 rw[so];simp[IntKind.wrap,IntKind.bits,IntKind.signed]
theorem aJ{x:Int}(h0: -9223372036854775808≤x)(h1:x<9223372036854775808):W .i64 x=x:=by
 rw[dP];split<;>omega
theorem Ob{x:Int}(h0:0≤x)(h1:x<256):W .u8 x=x:=by rw[so];simp[IntKind.wrap,IntKind.bits,IntKind.signed];omega
theorem wf_i64{x:Int}:(Lit.int .i64 x).wf=true↔ -9223372036854775808≤x∧x≤9223372036854775807:=by simp[Lit.wf,IntKind.min,IntKind.max,IntKind.bits,IntKind.signed]
theorem wf_u64{x:Int}:(Lit.int .u64 x).wf=true↔0≤x∧x≤18446744073709551615:=by simp[Lit.wf,IntKind.min,IntKind.max,IntKind.bits,IntKind.signed]
theorem wf_u16{x:Int}:(Lit.int .u16 x).wf=true↔0≤x∧x≤65535:=by simp[Lit.wf,IntKind.min,IntKind.max,IntKind.bits,IntKind.signed]
theorem wf_u8{x:Int}:(Lit.int .u8 x).wf=true↔0≤x∧x≤255:=by simp[Lit.wf,IntKind.min,IntKind.max,IntKind.bits,IntKind.signed]
theorem aD{x y:Int}(h:x<y):bu x y=true:=by rw[lh];exact bn h
theorem av{x y:Int}(h:y≤x):bu x y=false:=by rw[lh];exact bt ω
theorem cP{x y:Int}(h:x≤y):dK x y=true:=by rw[jR];exact bn h
theorem cE{x y:Int}(h:y<x):dK x y=false:=by rw[jR];exact bt ω
theorem bW{x y:Int}(h:x=y):cg x y=true:=by rw[eL];exact bn h
theorem cw{x y:Int}(h:x≠y):cg x y=false:=by rw[eL];exact bt h
theorem aU{i:Int}{n:Nat}(h0:0≤i)(h1:i<n):c9 i n=true:=by rw[DT];exact bn ⟨h0,h1⟩
theorem bP{n:Nat}(h:n<68719476736):small n=true:=by rw[tC];exact bn (by simpa [py]using h)
theorem bR{l c:Int}(h0:0≤l)(h1:l≤c)(h2:c<68719476736):gU l c=true:=by rw[qD];exact bn (by simp only[py];omega)
theorem cJ{l h m n:Int}(h0:0≤l)(h1:l≤h)(h2:h≤m)(h3:m≤n):jD l h m n=true:=by rw[mX];exact bn ⟨h0,h1,h2,h3⟩
theorem an(n:Nat):(n:Int)+1=((n+1:Nat):Int):=rfl
theorem jM(x:Int)(h0:0≤x)(h1:x<18446744073709551616):(BitVec.ofInt 64 x).toNat=x.toNat:=by
 rw[BitVec.toNat_ofInt];congr 1;omega
theorem Fe{x y:Int}(hx:0≤x)(CA:x<18446744073709551616)(hy:0≤y)(I6:y<18446744073709551616):ik .and .u64 x y=((x.toNat&&& y.toNat:Nat):Int):=by
 rw[lj]
 have h:((BitVec.ofInt 64 x&&& BitVec.ofInt 64 y).toNat)=x.toNat&&& y.toNat:=by rw[BitVec.toNat_and,jM x hx CA,jM y hy I6]
 show IntKind.u64.wrap (((BitVec.ofInt 64 x&&& BitVec.ofInt 64 y).toNat:Nat):Int)=_
 rw[h,←so]
 have:x.toNat&&& y.toNat≤x.toNat:=Nat.and_le_left
 exact bb ω ω
theorem HL{x y:Int}(hx:0≤x)(CA:x<18446744073709551616)(hy:0≤y)(I6:y<18446744073709551616):ik .or .u64 x y=((x.toNat|||y.toNat:Nat):Int):=by
 rw[lj]
 have h:((BitVec.ofInt 64 x|||BitVec.ofInt 64 y).toNat)=x.toNat|||y.toNat:=by rw[BitVec.toNat_or,jM x hx CA,jM y hy I6]
 show IntKind.u64.wrap (((BitVec.ofInt 64 x|||BitVec.ofInt 64 y).toNat:Nat):Int)=_
 rw[h,←so]
 have:x.toNat|||y.toNat<2^64:=Nat.or_lt_two_pow ω ω
 exact bb ω ω
theorem ep{x:Int}(h0:0≤x)(h1:x<18446744073709551616):ik .and .u64 x 4294967295=x%4294967296:=by
 rw[Fe h0 h1 ω ω]
 have:=Nat.and_two_pow_sub_one_eq_mod x.toNat 32
 rw[show((4294967295:Int).toNat)=2^32-1 from rfl,this]
 omega
theorem qa{x y:Int}(h0:0≤y)(h1:y≤64):shr .u64 x y=x/2^y.toNat:=by
 rw[Ar]
 have:min y.toNat IntKind.u64.bits=y.toNat:=by simp[IntKind.bits];omega
 rw[this,yk]
 exact_mod_cast gE _
theorem uC(x:Int):shr .u64 x 32=x/4294967296:=by rw[qa ω ω];rfl
theorem je{x:Int}(h0: -9223372036854775808≤x)(h1:x<9223372036854775808):shr .i64 x 63=if x<0 then-1 else 0:=by
 rw[Ar]
 have:(2:Int)^(min (63:Int).toNat IntKind.i64.bits)=9223372036854775808:=by rfl
 rw[this,yk _ ω]
 split<;>omega
theorem HM{x y:Int}(h0:0≤y)(h1:y≤64):shl .u64 x y=x*2^y.toNat:=by
 rw[DV]
 have:min y.toNat IntKind.u64.bits=y.toNat:=by simp[IntKind.bits];omega
 rw[this]
theorem mul_lt{a b m n:Int}(ha:0≤a)(hb:0≤b)(V9:a≤m)(Mv:b≤n):0≤a*b∧a*b≤m*n:=
 ⟨gA ha hb,Int.le_trans (kY V9 hb) (nH Mv ω)⟩
end VM
end
section
namespace VM
open Go VM.F
variable(N:Nat)
theorem C5(a b:Int):a*b=(a/4294967296)*(b/4294967296)*18446744073709551616+((a/4294967296)*(b%4294967296)+(a%4294967296)*(b/4294967296))*4294967296+(a%4294967296)*(b%4294967296):=by
 have ha:a=(a/4294967296)*4294967296+a%4294967296:=ω
 have hb:b=(b/4294967296)*4294967296+b%4294967296:=ω
 generalize a/4294967296=a1 at*
 generalize a%4294967296=a0 at*
 generalize b/4294967296=b1 at*
 generalize b%4294967296=b0 at*
 subst ha;subst hb
 simp only[fK,fh]
 have e1:a1*4294967296*(b1*4294967296)=a1*b1*18446744073709551616:=by
  rw[c6,Int.mul_left_comm 4294967296,←c6];rfl
 have e2:a1*4294967296*b0=a1*b0*4294967296:=by rw[c6,cG 4294967296,←c6]
 have e3:a0*(b1*4294967296)=a0*b1*4294967296:=by rw[←c6]
 rw[e1,e2,e3];omega
theorem zw{a b:Int}(ha:0≤a)(Qc:a<18446744073709551616)(hb:0≤b)(bL:b<18446744073709551616):
  Oc N a b=some (a*b/18446744073709551616,a*b%18446744073709551616):=by
 unfold Oc
 have hm:=C5 a b
 have h1:=mul_lt (m:=4294967295) (n:=4294967295) (show 0≤a/4294967296 by omega) (show 0≤b/4294967296 by omega) ω ω
 have h2:=mul_lt (m:=4294967295) (n:=4294967295) (show 0≤a/4294967296 by omega) (show 0≤b%4294967296 by omega) ω ω
 have h3:=mul_lt (m:=4294967295) (n:=4294967295) (show 0≤a%4294967296 by omega) (show 0≤b/4294967296 by omega) ω ω
 have h4:=mul_lt (m:=4294967295) (n:=4294967295) (show 0≤a%4294967296 by omega) (show 0≤b%4294967296 by omega) ω ω
 simp only[av (show(0:Int)≤32 by omega),aj,ep ha Qc,ep hb bL,uC]
 generalize a/4294967296=a1 at*
 generalize a%4294967296=a0 at*
 generalize b/4294967296=b1 at*
 generalize b%4294967296=b0 at*
 generalize a*b=ab at*
 generalize a1*b1=p at*
 generalize a1*b0=q at*
 generalize a0*b1=r at*
 generalize a0*b0=s at*
 rw[bb (x:=q) ω ω,bb (x:=s) ω ω,bb (x:=r) ω ω,bb (x:=p) ω ω,bb (x:=q+s/4294967296) ω ω,
  ep ω ω,bb (x:=(q+s/4294967296)%4294967296+r) ω ω,bb (x:=p+(q+s/4294967296)/4294967296) ω ω,bb (x:=p+(q+s/4294967296)/4294967296+_) ω ω,gd]
 congr 2
 omega
theorem xx(n:Int)(h0:0<n)(h1:n<1048576):Qd N 1 n=some (0,n):=by
 unfold Qd
 simp only[aj,zw N (show(0:Int)≤1 by omega) ω (show 0≤n by omega) ω,ak]
 congr 2<;>omega
theorem qb{x:Int}(h0: -9223372036854775808≤x)(h1:x<9223372036854775808):I7 N x=some (x.natAbs:Int):=by
 unfold I7
 by_cases h:x<0
 ·rw[aD h,ah,gd,gd];congr 1;omega
 ·rw[av ω,aj,gd];congr 1;omega
theorem kN{x y c:Int}(hx:0≤x)(hy:0≤y)(hc:0≤c)(pO:c≤1):jE N x y c=some ((x+y+c)%18446744073709551616,(x+y+c)/18446744073709551616):=by
 unfold jE;rw[af ⟨hx,hy,hc,pO⟩]
theorem gL{x y c:Int}(hx:0≤x)(CA:x<18446744073709551616)(hy:0≤y)(I6:y<18446744073709551616)(hc:0≤c)(pO:c≤1):
  jF N x y c=some ((x-y-c)%18446744073709551616,if x<y+c then 1 else 0):=by
 unfold jF;rw[af ⟨hx,CA,hy,I6,hc,pO⟩];congr 2;omega
def bitLen(n:Nat):Nat:=if n=0 then 0 else bitLen (n/2)+1
termination_by n
decreasing_by omega
theorem jf{n:Nat}(h:n≠0):bitLen n=bitLen (n/2)+1:=by rw[bitLen];simp[h]
theorem nx:bitLen 0=0:=by rw[bitLen];rfl
theorem bitLen_shift(k:Nat): ∀n,2^k≤n→bitLen n=bitLen (n/2^k)+k:=by
 induction k with
 |zero=>intro n _;simp
 |succ k ih=>
  intro n h
  have hp:0<2^k:=Nat.pow_pos δ
  rw[kz]at h
  rw[jf ω,ih (n/2) ω,Nat.div_div_eq_div_mul,kz,pq 2];omega
theorem bitLen_spec(n:Nat):n<2^bitLen n∧(n≠0→2^(bitLen n-1)≤n):=by
 induction n using Nat.strongRecOn with
 |_ n ih=>
  by_cases h:n=0
  ·subst h;rw[nx];simp
  ·rw[jf h]
   obtain⟨h1,h2⟩:=ih (n/2) ω
   refine⟨by rw[kz];omega,λ_=> ?_⟩
   rw[Nat.add_sub_cancel]
   by_cases h3:n/2=0
   ·rw[h3,nx];simp;omega
   ·have:=h2 h3
    have e:bitLen (n/2)=(bitLen (n/2)-1)+1:=by rw[jf h3];omega
    rw[e,kz];omega
theorem HN: ∀i:Fin 256,((strOf [0,1,2,2,3,3,3,3,4,4,4,4,4,4,4,4,5,5,5,5,5,5,5,5,5,5,5,5,5,5,5,5,6,6,6,6,6,6,6,6,6,6,6,6,6,6,6,6,6,6,6,6,6,6,6,6,6,6,6,6,6,6,6,6,7,7,7,7,7,7,7,7,7,7,7,7,7,7,7,7,7,7,7,7,7,7,7,7,7,7,7,7,7,7,7,7,7,7,7,7,7,7,7,7,7,7,7,7,7,7,7,7,7,7,7,7,7,7,7,7,7,7,7,7,7,7,7,7,8,8,8,8,8,8,8,8,8,8,8,8,8,8,8,8,8,8,8,8,8,8,8,8,8,8,8,8,8,8,8,8,8,8,8,8,8,8,8,8,8,8,8,8,8,8,8,8,8,8,8,8,8,8,8,8,8,8,8,8,8,8,8,8,8,8,8,8,8,8,8,8,8,8,8,8,8,8,8,8,8,8,8,8,8,8,8,8,8,8,8,8,8,8,8,8,8,8,8,8,8,8,8,8,8,8,8,8,8,8,8,8,8,8,8,8,8,8,8,8,8,8,8,8,8,8,8,8]).data.getD i.val 0).toNat=Nat.log2 (2*i.val+1):=by decide+kernel
theorem rU(n:Nat):Nat.log2 (2*n+1)=bitLen n:=by
 induction n using Nat.strongRecOn with
 |_ n ih=>
  by_cases h:n=0
  ·subst h;rw[nx];decide
  ·rw[jf h,tB,af ω,show(2*n+1)/2=n from by omega]
   congr 1
   have:=ih (n/2) ω
   rw[←this]
   by_cases h2:n%2=0
   ·rw[tB,tB (n:=2*(n/2)+1)]
    have e1:(2*(n/2)+1)/2=n/2:=ω
    rw[af ω,af ω,e1]
   ·congr 1;omega
theorem zx(i:Nat)(h:i<256):((strOf [0,1,2,2,3,3,3,3,4,4,4,4,4,4,4,4,5,5,5,5,5,5,5,5,5,5,5,5,5,5,5,5,6,6,6,6,6,6,6,6,6,6,6,6,6,6,6,6,6,6,6,6,6,6,6,6,6,6,6,6,6,6,6,6,7,7,7,7,7,7,7,7,7,7,7,7,7,7,7,7,7,7,7,7,7,7,7,7,7,7,7,7,7,7,7,7,7,7,7,7,7,7,7,7,7,7,7,7,7,7,7,7,7,7,7,7,7,7,7,7,7,7,7,7,7,7,7,7,8,8,8,8,8,8,8,8,8,8,8,8,8,8,8,8,8,8,8,8,8,8,8,8,8,8,8,8,8,8,8,8,8,8,8,8,8,8,8,8,8,8,8,8,8,8,8,8,8,8,8,8,8,8,8,8,8,8,8,8,8,8,8,8,8,8,8,8,8,8,8,8,8,8,8,8,8,8,8,8,8,8,8,8,8,8,8,8,8,8,8,8,8,8,8,8,8,8,8,8,8,8,8,8,8,8,8,8,8,8,8,8,8,8,8,8,8,8,8,8,8,8,8,8,8,8,8,8]).data.getD i 0).toNat=bitLen i:=by
 rw[←rU];exact HN ⟨i,h⟩
theorem zy:ByteArray.size (strOf [0,1,2,2,3,3,3,3,4,4,4,4,4,4,4,4,5,5,5,5,5,5,5,5,5,5,5,5,5,5,5,5,6,6,6,6,6,6,6,6,6,6,6,6,6,6,6,6,6,6,6,6,6,6,6,6,6,6,6,6,6,6,6,6,7,7,7,7,7,7,7,7,7,7,7,7,7,7,7,7,7,7,7,7,7,7,7,7,7,7,7,7,7,7,7,7,7,7,7,7,7,7,7,7,7,7,7,7,7,7,7,7,7,7,7,7,7,7,7,7,7,7,7,7,7,7,7,7,8,8,8,8,8,8,8,8,8,8,8,8,8,8,8,8,8,8,8,8,8,8,8,8,8,8,8,8,8,8,8,8,8,8,8,8,8,8,8,8,8,8,8,8,8,8,8,8,8,8,8,8,8,8,8,8,8,8,8,8,8,8,8,8,8,8,8,8,8,8,8,8,8,8,8,8,8,8,8,8,8,8,8,8,8,8,8,8,8,8,8,8,8,8,8,8,8,8,8,8,8,8,8,8,8,8,8,8,8,8,8,8,8,8,8,8,8,8,8,8,8,8,8,8,8,8,8,8])=256:=by decide+kernel
set_option maxRecDepth 100000 in
theorem BI{x c:Int}(h0:0≤x)(h1:x<65536)(hc:0≤c)(pO:c≤100):oO.j7 N x c=some (c+bitLen x.toNat):=by
 unfold oO.j7 oO.KN
 have h8:shr .u64 x 8=x/256:=by rw[qa ω ω];rfl
 have hle: ∀n,n<256→bitLen n≤8:=λn hn=>by
  rw[←rU]
  have:Nat.log2 (2*n+1)<9:=(Nat.log2_lt ω).2 ω
  omega
 by_cases h:256≤x
 ·have ht:=zx (x/256).toNat ω
  have hl:=hle (x/256).toNat ω
  rw[cP h,ah,av (show(0:Int)≤8 by omega),aj,h8]
  rw[Ob (x:=x/256) ω ω]
  extract_lets v8
  rw[zy,aU ω ω,ah,ht]
  clear ht
  simp (disch:=omega) only[aD,av,cP,cE,bW,cw,aU,bP,bR,cJ,aJ,bb,ah,aj,bo,bS,ak,aI,ck,an,aQ,aR,aY,a8,aE,cA]
  have:=bitLen_shift 8 x.toNat ω
  rw[this]
  have e:(x/256).toNat=x.toNat/2^8:=ω
  rw[e];congr 1;omega
 ·have ht:=zx x.toNat ω
  have hl:=hle x.toNat ω
  rw[cE ω,aj,Ob (x:=x) ω ω]
  extract_lets v8
  rw[zy,aU ω ω,ah,ht]
  clear ht
  simp (disch:=omega) only[aD,av,cP,cE,bW,cw,aU,bP,bR,cJ,aJ,bb,ah,aj,bo,bS,ak,aI,ck,an,aQ,aR,aY,a8,aE,cA]
theorem Ff{x:Int}(h0:0≤x)(h1:x<18446744073709551616):oO N x=some (bitLen x.toNat:Int):=by
 have TF: ∀y c:Int,0≤y→y<4294967296→0≤c→c≤50→oO.j4 N y c=some (c+bitLen y.toNat):=λy c Wa I6 hc pO=>by
  unfold oO.j4 oO.RQ
  by_cases h:65536≤y
  ·have e:shr .u64 y 16=y/65536:=by rw[qa ω ω];rfl
   rw[cP h,ah,av ω,aj,e,aJ ω ω,BI N ω ω ω ω]
   have:=bitLen_shift 16 y.toNat ω
   rw[this]
   have e:(y/65536).toNat=y.toNat/2^16:=ω
   rw[e];congr 1;omega
  ·rw[cE ω,aj,BI N Wa ω hc ω]
 unfold oO oO.b
 by_cases h:4294967296≤x
 ·rw[cP h,ah,av ω,aj,uC,TF _ _ ω ω ω ω]
  have:=bitLen_shift 32 x.toNat ω
  rw[this]
  have e:(x/4294967296).toNat=x.toNat/2^32:=ω
  rw[e];congr 1;omega
 ·rw[cE ω,aj,TF _ _ h0 ω ω ω]
  congr 1;omega
end VM
end
section
namespace VM
open Go VM.F
variable(N:Nat)
structure gM(Y yn1 yn0 un32 un1 q rh:Int):Prop where
 hY:Y=yn1*4294967296+yn0
 y1:2147483648≤yn1
 Od:yn1<4294967296
 y0:0≤yn0
 MJ:yn0<4294967296
 u1:0≤un1
 MK:un1<4294967296
 lt:un32<Y
 q0:0≤q
 eq:q*yn1+rh=un32
 r0:0≤rh
 q1:q≤4294967297
 ge:(un32*4294967296+un1)/Y≤q
theorem gM.prod{Y yn1 yn0 un32 un1 q rh:Int}(g:gM Y yn1 yn0 un32 un1 q rh):q*Y=(un32-rh)*4294967296+q*yn0∧0≤q*yn0∧q*yn0≤18446744073709551615:=by
 have h:=mul_lt (m:=4294967297) (n:=4294967295) g.q0 g.y0 g.q1 (by have:=g.MJ;omega)
 refine⟨?_,h.1,ω⟩
 rw[g.hY,fh,←c6,show q*yn1=un32-rh from by have:=g.eq;omega]
theorem gM.pos{Y yn1 yn0 un32 un1 q rh:Int}(g:gM Y yn1 yn0 un32 un1 q rh):0<Y:=by have:=g.hY;have:=g.y1;have:=g.y0;omega
theorem gM.digit{Y yn1 yn0 un32 un1 q rh:Int}(g:gM Y yn1 yn0 un32 un1 q rh)(h:0≤un32):0≤(un32*4294967296+un1)/Y∧(un32*4294967296+un1)/Y<4294967296:=by
 have hp:=g.pos
 have:=g.u1;have:=g.MK;have:=g.lt
 refine⟨fH ω ω,?_⟩
 rw[nI hp];omega
theorem gM.done{Y yn1 yn0 un32 un1 q rh:Int}(g:gM Y yn1 yn0 un32 un1 q rh)(h:q*yn0≤4294967296*rh+un1):q=(un32*4294967296+un1)/Y:=by
 have hp:=g.pos
 have h1:=g.prod.1
 have h2:q≤(un32*4294967296+un1)/Y:=by
  rw[Int.le_ediv_iff_mul_le hp];omega
 have:=g.ge
 omega
theorem gM.next{Y yn1 yn0 un32 un1 q rh:Int}(g:gM Y yn1 yn0 un32 un1 q rh)(hu:0≤un32)(h:4294967296≤q∨4294967296*rh+un1<q*yn0):gM Y yn1 yn0 un32 un1 (q-1) (rh+yn1)∧1≤q:=by
 have hp:=g.pos
 have h1:=g.prod.1
 have hd:=g.digit hu
 have cy:(un32*4294967296+un1)/Y<q:=by
  rcases h with h|h
  ·omega
  ·rw[nI hp];omega
 have:=g.q1;have:=g.r0;have:=g.y1
 exact⟨⟨g.hY,g.y1,g.Od,g.y0,g.MJ,g.u1,g.MK,g.lt,ω,by rw[Int.sub_mul,iN];have:=g.eq;omega,ω,ω,ω⟩,ω⟩
theorem BJ(N:Nat){Y s yn1 yn0 un32 un1 Oe:Int}(hu:0≤un32)(sQ:un32<18446744073709551616): ∀(m n:Nat) (q rh:Int),gM Y yn1 yn0 un32 un1 q rh→rh<4294967296→4294967296-rh≤2147483648*m→m<n→
  eO.KO N n Y s yn1 yn0 un32 un1 Oe q rh=eO.I8 N Y s yn1 yn0 un32 un1 Oe ((un32*4294967296+un1)/Y)
 |m,0,q,rh,_,_,_,hn=>ω
 |m,n+1,q,rh,g,hr,hm,hn=>by
  unfold eO.KO eO.KP
  have QW:=g.prod
  have hd:=g.digit hu
  obtain⟨hY,y1,Od,y0,MJ,u1,MK,lt,q0,eq,r0,q1,ge⟩:=id g
  have go:(4294967296≤q∨4294967296*rh+un1<q*yn0)→
    (cond (dK (4294967296:Int) (W .u64 (rh+yn1))) (eO.I8 N Y s yn1 yn0 un32 un1 Oe (W .u64 (q-1))) (eO.KO N n Y s yn1 yn0 un32 un1 Oe (W .u64 (q-1)) (W .u64 (rh+yn1))))=eO.I8 N Y s yn1 yn0 un32 un1 Oe ((un32*4294967296+un1)/Y):=λh=>by
   obtain⟨g',hq⟩:=g.next hu h
   rw[bb (x:=rh+yn1) ω ω,bb (x:=q-1) ω ω]
   by_cases hb:4294967296≤rh+yn1
   ·rw[cP hb,ah]
    have xY:=g'.prod
    rw[g'.done ω]
   ·rw[cE ω,aj]
    exact BJ N hu sQ (m-1) n (q-1) (rh+yn1) g' ω ω ω
  by_cases h1:4294967296≤q
  ·rw[cP h1,ah]
   exact go (.inl h1)
  ·rw[cE ω,aj,bb (x:=4294967296*rh) ω ω,bb (x:=4294967296*rh+un1) ω ω,bb (x:=q*yn0) ω ω]
   by_cases h2:4294967296*rh+un1<q*yn0
   ·rw[aD h2,ah]
    exact go (.inr h2)
   ·rw[av ω,aj,g.done ω]
theorem BK(N:Nat){Y s yn1 yn0 un32 un1 a b:Int}(hu:0≤un32)(sQ:un32<18446744073709551616): ∀(m n:Nat) (q rh:Int),gM Y yn1 yn0 un32 un1 q rh→rh<4294967296→4294967296-rh≤2147483648*m→m<n→
  eO.KQ N n Y s yn1 yn0 un1 a rh un32 q=eO.I9 N Y s un1 a un32 ((un32*4294967296+un1)/Y)
 |m,0,q,rh,_,_,_,hn=>ω
 |m,n+1,q,rh,g,hr,hm,hn=>by
  unfold eO.KQ eO.KR
  have QW:=g.prod
  have hd:=g.digit hu
  obtain⟨hY,y1,Od,y0,MJ,u1,MK,lt,q0,eq,r0,q1,ge⟩:=id g
  have go:(4294967296≤q∨4294967296*rh+un1<q*yn0)→
    (cond (dK (4294967296:Int) (W .u64 (rh+yn1))) (eO.I9 N Y s un1 a un32 (W .u64 (q-1))) (eO.KQ N n Y s yn1 yn0 un1 a (W .u64 (rh+yn1)) un32 (W .u64 (q-1))))=eO.I9 N Y s un1 a un32 ((un32*4294967296+un1)/Y):=λh=>by
   obtain⟨g',hq⟩:=g.next hu h
   rw[bb (x:=rh+yn1) ω ω,bb (x:=q-1) ω ω]
   by_cases hb:4294967296≤rh+yn1
   ·rw[cP hb,ah]
    have xY:=g'.prod
    rw[g'.done ω]
   ·rw[cE ω,aj]
    exact BK N (b:=b) hu sQ (m-1) n (q-1) (rh+yn1) g' ω ω ω
  by_cases h1:4294967296≤q
  ·rw[cP h1,ah]
   exact go (.inl h1)
  ·rw[cE ω,aj,bb (x:=4294967296*rh) ω ω,bb (x:=4294967296*rh+un1) ω ω,bb (x:=q*yn0) ω ω]
   by_cases h2:4294967296*rh+un1<q*yn0
   ·rw[aD h2,ah]
    exact go (.inr h2)
   ·rw[av ω,aj,g.done ω]
theorem gM.first{Y yn1 yn0 un32 un1:Int}(hY:Y=yn1*4294967296+yn0)(y1:2147483648≤yn1)(Od:yn1<4294967296)(y0:0≤yn0)(MJ:yn0<4294967296)(u1:0≤un1)(MK:un1<4294967296)(hu:0≤un32)(lt:un32<Y):
  gM Y yn1 yn0 un32 un1 (un32/yn1) (un32-un32/yn1*yn1)∧un32-un32/yn1*yn1<4294967296∧0≤un32/yn1*yn1∧un32/yn1*yn1≤un32:=by
 have h1:=ld un32 yn1
 have h2:=lf un32 (show 0<yn1 by omega)
 have h3:=kt un32 (show yn1≠0 by omega)
 have om:0≤un32/yn1:=fH hu ω
 rw[cG]at h1
 have IV:un32/yn1≤4294967297:=by
  have:un32/yn1<4294967298:=by rw[nI ω];omega
  omega
 have Ke:(un32*4294967296+un1)/Y≤un32/yn1:=by
  have cy:un32*4294967296+un1<(un32/yn1+1)*Y:=by
   have e:un32+1≤(un32/yn1+1)*yn1:=by rw[fK,iN];omega
   have e2:(un32/yn1+1)*Y=(un32/yn1+1)*yn1*4294967296+(un32/yn1+1)*yn0:=by rw[hY,fh,c6]
   have e3:0≤(un32/yn1+1)*yn0:=gA ω y0
   omega
  have:(un32*4294967296+un1)/Y<un32/yn1+1:=by rw[nI ω];exact cy
  omega
 exact⟨⟨hY,y1,Od,y0,MJ,u1,MK,lt,om,ω,ω,IV,Ke⟩,ω,gA om ω,ω⟩
theorem Fg{a b:Int}{k:Nat}(ha:0≤a)(Qc:a<2^k)(hb:0≤b)(h:b*2^k<18446744073709551616)(hk:k<64):ik .or .u64 (b*2^k) a=b*2^k+a:=by
 have hp:(0:Int)<2^k:=Int.pow_pos δ
 have ya:((2^k:Nat):Int)=2^k:=by rw[Int.natCast_pow];rfl
 have Wb:(2:Int)^k≤2^63:=by
  rw[←ya,show(2:Int)^63=((2^63:Nat):Int)from by decide]
  exact_mod_cast tc δ ω
 have TG:(2:Int)^63=9223372036854775808:=δ
 have lz:=gA hb (iL hp)
 rw[HL lz h ha ω]
 have h1:=Nat.two_pow_add_eq_or_of_lt (i:=k) (b:=a.toNat) (by
  have:((a.toNat:Nat):Int)<((2^k:Nat):Int):=by rw[ya,ij ha];exact Qc
  exact_mod_cast this) b.toNat
 have e:(b*2^k).toNat=2^k*b.toNat:=by
  have:((2^k*b.toNat:Nat):Int)=b*2^k:=by rw[pe,ya,ij hb,cG]
  omega
 rw[e,←h1,pf,pe,ya,ij hb,ij ha,cG]
theorem zz(hN:100≤N){hi lo y:Int}(h0:0≤hi)(h1:hi<y)(l0:0≤lo)(l1:lo<18446744073709551616)(y1:y<18446744073709551616):
  eO N hi lo y=some ((hi*18446744073709551616+lo)/y,(hi*18446744073709551616+lo)%y):=by
 unfold eO eO.b
 rw[cw (show y≠0 by omega),aj,cE ω,aj]
 by_cases hz:hi=0
 ·subst hz
  rw[bW rfl,ah,aj,aj,w3,DU,s6 l0,Int.tmod_eq_emod_of_nonneg l0]
  have e1:0≤lo/y:=fH l0 ω
  have e2:lo/y≤lo:=Int.ediv_le_self _ l0
  rw[bb ω ω]
  simp
 ·rw[cw hz,aj]
  obtain⟨b1,b2⟩:=bitLen_spec y.toNat
  have b2:=b2 ω
  obtain⟨L,hL⟩: ∃L,L=bitLen y.toNat:=⟨_,rfl⟩
  rw[←hL]at b1 b2
  have YS:1≤L:=by rw[hL,jf ω];omega
  have Wc:L≤64:=by
   rcases gq 64 L with h|h
   ·have h3:2^64≤2^(L-1):=tc δ ω
    have:(2:Nat)^64=18446744073709551616:=δ
    omega
   ·exact h
  have hl:Qe N y=some (64-(L:Int)):=by
   unfold Qe
   rw[Ff N ω y1,ak,←hL,aJ ω ω]
  obtain⟨s,hs⟩: ∃s:Nat,s=64-L:=⟨_,rfl⟩
  have Wd:64-(L:Int)=(s:Int):=ω
  rw[hl,ak,Wd]
  clear hl
  have ya: ∀k:Nat,((2^k:Nat):Int)=2^k:=λk=>by rw[Int.natCast_pow];rfl
  obtain⟨p,hp⟩: ∃p:Int,p=2^s:=⟨_,rfl⟩
  obtain⟨p',xY⟩: ∃p':Int,p'=2^(64-s):=⟨_,rfl⟩
  have xa:p'*p=18446744073709551616:=by
   rw[hp,xY,←Int.pow_add,show 64-s+s=64 from by omega];decide
  have vJ:0<p:=by rw[hp];exact Int.pow_pos δ
  have We:0<p':=by rw[xY];exact Int.pow_pos δ
  have I6:y*p<18446744073709551616:=by
   have h:y.toNat*2^s<2^L*2^s:=Nat.mul_lt_mul_of_pos_right b1 (Nat.pow_pos δ)
   rw[←Nat.pow_add,show L+s=64 from by omega,show(2:Nat)^64=18446744073709551616 from by decide]at h
   have:((y.toNat*2^s:Nat):Int)=y*p:=by rw[pe,ya,←hp,ij ω]
   omega
  have C6:9223372036854775808≤y*p:=by
   have h:2^(L-1)*2^s≤y.toNat*2^s:=dD _ b2
   rw[←Nat.pow_add,show L-1+s=63 from by omega,show(2:Nat)^63=9223372036854775808 from by decide]at h
   have:((y.toNat*2^s:Nat):Int)=y*p:=by rw[pe,ya,←hp,ij ω]
   omega
  have RS: ∀x:Int,shl .u64 x (s:Int)=x*p:=λx=>by rw[HM ω ω,hp];rfl
  have RT:shr .u64 lo (64-(s:Int))=lo*p/18446744073709551616:=by
   rw[qa ω ω,show(64-(s:Int)).toNat=64-s from by omega,←xY,←xa,Int.mul_ediv_mul_of_pos_left _ _ vJ]
  have Wf:hi*p+p≤y*p:=by
   have:=kY (show hi+1≤y by omega) (iL vJ)
   rw[fK,iN]at this;exact this
  have Wg:0≤hi*p:=gA h0 (iL vJ)
  have RU:0≤lo*p:=gA l0 (iL vJ)
  have RV:lo*p<18446744073709551616*p:=Int.mul_lt_mul_of_pos_right l1 vJ
  have rD:lo*p/18446744073709551616<p:=by rw[nI ω,cG p];exact RV
  have Wh:0≤lo*p/18446744073709551616:=fH RU ω
  have J8:ik .or .u64 (hi*p) (lo*p/18446744073709551616)=hi*p+lo*p/18446744073709551616:=by
   have:=Fg (k:=s) (a:=lo*p/18446744073709551616) (b:=hi) Wh (by rw[←hp];exact rD) h0 (by rw[←hp];omega) ω
   rw[←hp]at this;exact this
  obtain⟨Y,hY⟩: ∃Y,Y=y*p:=⟨_,rfl⟩
  have hU:(hi*18446744073709551616+lo)*p=(hi*p+lo*p/18446744073709551616)*18446744073709551616+lo*p%18446744073709551616:=by
   rw[fK,c6,cG 18446744073709551616 p,←c6];omega
  have Wi:W .u64 (s:Int)=(s:Int):=bb ω ω
  have RW:W .u64 (64-(s:Int))=64-(s:Int):=bb ω ω
  have Wj:W .u64 (lo*p)=lo*p%18446744073709551616:=gd _
  simp only[Wi,RW,RS,RT,Wj]
  rw[←hY]at I6 C6 Wf ⊢
  have NW:W .u64 Y=Y:=bb ω ω
  have Wk:W .u64 (hi*p)=hi*p:=bb ω ω
  simp only[NW,Wk,J8]
  obtain⟨u,hu⟩: ∃u,u=hi*p+lo*p/18446744073709551616:=⟨_,rfl⟩
  obtain⟨v,hv⟩: ∃v,v=lo*p%18446744073709551616:=⟨_,rfl⟩
  rw[←hu,←hv]at hU ⊢
  have Wl:0≤v:=ω
  have Ak:v<18446744073709551616:=ω
  have Qf:0≤u:=ω
  have AD:u<Y:=ω
  have Wm:ik .and .u64 Y 4294967295=Y%4294967296:=ep ω ω
  have P3:ik .and .u64 v 4294967295=v%4294967296:=ep Wl Ak
  obtain⟨g1,g2,g3,g4⟩:=gM.first (Y:=Y) (yn1:=Y/4294967296) (yn0:=Y%4294967296) (un32:=u) (un1:=v/4294967296) ω ω ω ω ω ω ω Qf AD
  have hq:quo u (Y/4294967296)=u/(Y/4294967296):=by rw[w3,s6 Qf]
  have Of:W .u64 (u/(Y/4294967296))=u/(Y/4294967296):=bb g1.q0 (by have:=g1.q1;omega)
  have Og:W .u64 (u/(Y/4294967296)*(Y/4294967296))=u/(Y/4294967296)*(Y/4294967296):=bb g3 ω
  have Oh:W .u64 (u-u/(Y/4294967296)*(Y/4294967296))=u-u/(Y/4294967296)*(Y/4294967296):=bb ω ω
  rw[av (show(0:Int)≤s by omega),av (show(0:Int)≤32 by omega),av (show(0:Int)≤64-(s:Int)by omega),uC,uC,Wm,P3,cw (show Y/4294967296≠0 by omega),hq,Of,Og,Oh]
  simp only[aj]
  rw[BJ N Qf ω 3 N _ _ g1 g2 ω ω]
  have d1:=g1.digit Qf
  clear hq Of Og Oh g1 g2 g3 g4
  obtain⟨q1,IV⟩: ∃q1,q1=(u*4294967296+v/4294967296)/Y:=⟨_,rfl⟩
  have m1:=ld (u*4294967296+v/4294967296) Y
  have m2:=lf (u*4294967296+v/4294967296) (show 0<Y by omega)
  have m3:=kt (u*4294967296+v/4294967296) (show Y≠0 by omega)
  rw[←IV]at d1 m1 ⊢
  obtain⟨r1,DL⟩: ∃r1,r1=(u*4294967296+v/4294967296)%Y:=⟨_,rfl⟩
  rw[←DL]at m1 m2 m3
  rw[cG]at m1
  unfold eO.I8 eO.KS
  have RX:W .u64 (W .u64 (W .u64 (u*4294967296)+v/4294967296)-W .u64 (q1*Y))=r1:=by
   simp only[gd]
   generalize q1*Y=z at*
   omega
  simp only[RX]
  obtain⟨g1,g2,g3,g4⟩:=gM.first (Y:=Y) (yn1:=Y/4294967296) (yn0:=Y%4294967296) (un32:=r1) (un1:=v%4294967296) ω ω ω ω ω ω ω m3 m2
  have hq:quo r1 (Y/4294967296)=r1/(Y/4294967296):=by rw[w3,s6 m3]
  have Of:W .u64 (r1/(Y/4294967296))=r1/(Y/4294967296):=bb g1.q0 (by have:=g1.q1;omega)
  have Og:W .u64 (r1/(Y/4294967296)*(Y/4294967296))=r1/(Y/4294967296)*(Y/4294967296):=bb g3 ω
  have Oh:W .u64 (r1-r1/(Y/4294967296)*(Y/4294967296))=r1-r1/(Y/4294967296)*(Y/4294967296):=bb ω ω
  rw[cw (show Y/4294967296≠0 by omega),hq,Of,Og,Oh,aj,BK N (b:=0) m3 ω 3 N _ _ g1 g2 ω ω]
  have d0:=g1.digit m3
  clear hq Of Og Oh g1 g2 g3 g4
  obtain⟨q0,om⟩: ∃q0,q0=(r1*4294967296+v%4294967296)/Y:=⟨_,rfl⟩
  have n1:=ld (r1*4294967296+v%4294967296) Y
  have n2:=lf (r1*4294967296+v%4294967296) (show 0<Y by omega)
  have n3:=kt (r1*4294967296+v%4294967296) (show Y≠0 by omega)
  rw[←om]at d0 n1 ⊢
  obtain⟨r0,DI⟩: ∃r0,r0=(r1*4294967296+v%4294967296)%Y:=⟨_,rfl⟩
  rw[←DI]at n1 n2 n3
  rw[cG]at n1
  unfold eO.I9 eO.KT
  have RY:W .u64 (W .u64 (W .u64 (r1*4294967296)+v%4294967296)-W .u64 (q0*Y))=r0:=by
   simp only[gd]
   generalize q0*Y=z at*
   omega
  rw[av (show(0:Int)≤s by omega),aj,RY,bb (x:=q1*4294967296) ω ω,bb (x:=q1*4294967296+q0) ω ω,qa ω ω,aI,←hp]
  obtain⟨V,hV⟩: ∃V,V=hi*18446744073709551616+lo:=⟨_,rfl⟩
  obtain⟨Q,hQ⟩: ∃Q,Q=q1*4294967296+q0:=⟨_,rfl⟩
  rw[←hV]at hU ⊢
  rw[←hQ]
  have Wn:Q*Y=q1*Y*4294967296+q0*Y:=by rw[hQ,fK,c6,cG 4294967296 Y,←c6]
  have Wo:V*p=Q*Y+r0:=by rw[hU,Wn];generalize q1*Y=z1 at*;generalize q0*Y=z0 at*;omega
  have Oi:r0=(V-Q*y)*p:=by rw[Int.sub_mul,c6,←hY];omega
  have I0:0≤V-Q*y:=by
   by_cases h:V-Q*y<0
   ·have:=Int.mul_neg_of_neg_of_pos h vJ;omega
   ·omega
  have ME:V-Q*y<y:=by
   by_cases h:V-Q*y<y
   ·exact h
   ·have:=kY (show y≤V-Q*y by omega) (iL vJ);rw[←Oi,←hY]at this;omega
  have Wp:V=(V-Q*y)+y*Q:=by rw[cG y Q];omega
  have e1:V/y=Q:=by
   rw[Wp,ta _ _ ω,yx I0 ME];omega
  have e2:V%y=V-Q*y:=by
   have:=ld V y
   rw[e1,cG]at this;omega
  rw[e1,e2,Oi,Int.mul_ediv_cancel _ ω]
def br:List Int→Int
 |[]=>0
 |d::r=>d+4294967296*br r
def VD(l:List Int):Prop:= ∀d∈l,0≤d∧d<4294967296
def jw(n:Nat):List Int:=if n=0 then []else((n%4294967296:Nat):Int)::jw (n/4294967296)
termination_by n
decreasing_by omega
theorem eX:jw 0=[]:=by rw[jw];rfl
theorem nV{n:Nat}(h:n≠0):jw n=((n%4294967296:Nat):Int)::jw (n/4294967296):=by rw[jw];simp[h]
theorem VD.nil:VD []:=λd h=>by cases h
theorem VD.cons{d:Int}{l:List Int}(h0:0≤d)(h1:d<4294967296)(h:VD l):VD (d::l):=λx hx=>by
 rcases bc.1 hx with rfl|hx
 ·exact⟨h0,h1⟩
 ·exact h x hx
theorem VD.tail{d:Int}{l:List Int}(h:VD (d::l)):VD l:=λx hx=>h x (a7 _ hx)
theorem VD.drop{l:List Int}(h:VD l)(n:Nat):VD (l.drop n):=λx hx=>h x (tb hx)
theorem VD.take{l:List Int}(h:VD l)(n:Nat):VD (l.take n):=λx hx=>h x (ig hx)
theorem VD.getD{l:List Int}(h:VD l)(n:Nat):0≤l.getD n 0∧l.getD n 0<4294967296:=by
 rw[aW]
 cases hn:l[n]? with
 |none=>exact⟨gD _,δ⟩
 |some x=>exact h x (List.mem_of_getElem? hn)
theorem VD.set{l:List Int}(h:VD l)(n:Nat){x:Int}(h0:0≤x)(h1:x<4294967296):VD (l.set n x):=λy hy=>by
 rcases oU hy with hy|rfl
 ·exact h y hy
 ·exact⟨h0,h1⟩
theorem VD.Oj(n:Nat):VD (List.replicate n 0):=λx hx=>by rw[oW hx];exact⟨gD _,δ⟩
theorem fA: ∀{l:List Int},VD l→0≤br l
 |[],_=>gD _
 |d::r,h=>by
  have:=fA h.tail
  have:=(h d (ba ..)).1
  simp only[br];omega
theorem dH(n:Nat):br (jw n)=n:=by
 induction n using Nat.strongRecOn with
 |_ n ih=>
  by_cases h:n=0
  ·subst h;rw[eX];rfl
  ·rw[nV h,br,ih _ ω];omega
theorem fT(n:Nat):VD (jw n):=by
 induction n using Nat.strongRecOn with
 |_ n ih=>
  by_cases h:n=0
  ·subst h;rw[eX];exact VD.nil
  ·rw[nV h];exact VD.cons ω ω (ih _ ω)
theorem sV{n:Nat}:jw n=[]↔n=0:=by
 constructor
 ·intro h
  by_cases hn:n=0
  ·exact hn
  ·rw[nV hn]at h;cases h
 ·rintro rfl;exact eX
theorem qc(k:Nat): ∀n,n<4294967296^k→(jw n).length≤k:=by
 induction k with
 |zero=>
  intro n h;have:n=0:=by simpa using h
  subst this;rw[eX];simp
 |succ k ih=>
  intro n h
  by_cases hn:n=0
  ·subst hn;rw[eX];simp
  ·rw[nV hn,aE]
   have:=ih (n/4294967296) (by rw[yB ω];rw[kz]at h;exact h)
   omega
theorem BL(k:Nat): ∀n,(jw n).length≤k→n<4294967296^k:=by
 induction k with
 |zero=>
  intro n h
  have:jw n=[]:=ia ω
  rw[sV]at this;subst this;decide
 |succ k ih=>
  intro n h
  by_cases hn:n=0
  ·subst hn;exact Nat.pow_pos δ
  ·rw[nV hn,aE]at h
   have:=ih (n/4294967296) ω
   rw[yB ω]at this
   rw[kz];exact this
def strip:List Int→List Int
 |[]=>[]
 |d::r=>if strip r=[]∧d=0 then []else d::strip r
theorem zA: ∀{l:List Int},VD l→strip l=jw (br l).toNat
 |[],_=>by rw[show(br []).toNat=0 from rfl,eX];rfl
 |d::r,h=>by
  have ih:=zA h.tail
  have h0:=fA h.tail
  obtain⟨h1,h2⟩:=h d (ba ..)
  simp only[strip,br,ih,sV]
  split
  ·rename_i hc
   obtain⟨hc,rfl⟩:=hc
   have:br r=0:=ω
   rw[this];exact eX.symm
  ·rename_i hc
   have dT:(d+4294967296*br r).toNat≠0:=λhe=>hc ⟨ω,ω⟩
   rw[nV dT]
   congr 1
   ·omega
   ·congr 1;omega
theorem uD: ∀(l:List Int) (x:Int),strip (l++[x])=if x=0 then strip l else l++[x]
 |[],x=>by simp[strip]
 |d::r,x=>by
  simp only[iH,strip,uD r x]
  split
  ·rfl
  ·simp
theorem dk(l:List Int){k:Nat}(h:k<l.length):l.take (k+1)=l.take k++[l.getD k 0]:=by
 rw[List.take_succ_eq_append_getElem h,aW,a6 h];rfl
theorem wG(N:Nat)(l:List Int)(hl:l.length<68719476736): ∀(k n:Nat),k≤l.length→k<n→rV.l2 N n l (k:Int)=some (strip (l.take k))
 |0,n+1,_,_=>by
  unfold rV.l2 rV.jg
  simp (disch:=omega) only[aD,av,cP,cE,bW,cw,aU,bP,bR,cJ,aJ,bb,ah,aj,bo,bS,ak,aI,ck,an,aQ,aR,aY,a8,aE,cA]
  simp[strip]
 |k+1,n+1,hk,hn=>by
  unfold rV.l2 rV.jg
  have e:((k+1:Nat):Int)-1=(k:Int):=ω
  simp (disch:=omega) only[aD,av,cP,cE,bW,cw,aU,bP,bR,cJ,aJ,bb,ah,aj,bo,bS,ak,aI,ck,an,aQ,aR,aY,a8,aE,cA,e]
  have ih:=wG N l hl k n ω ω
  rw[dk l ω,uD]
  by_cases h:l.getD k 0=0
  ·rw[bW h,ah,ih,af h]
  ·rw[cw h,aj,ag h]
   simp only[ck,cW]
theorem BM{l:List Int}(h:VD l)(hN:l.length<N)(hl:l.length<68719476736):rV N l=some (jw (br l).toNat):=by
 unfold rV rV.b
 rw[wG N l hl l.length N (aB _) hN,gn,zA h]
def dp(v:Int):bf:=(decide (v<0),(jw v.natAbs,()))
theorem iz(neg:Bool){l:List Int}(h:VD l)(hN:l.length<N)(hl:l.length<68719476736):DO N neg l=some (dp (if neg then-br l else br l)):=by
 unfold DO
 rw[BM N h hN hl,ak]
 have h0:=fA h
 cases neg
 ·simp only[aj,dp,dq,c7]
  rw[bt ω]
  congr 4;omega
 ·simp only[ah,dp,dv]
  have e:(-br l).natAbs=(br l).toNat:=ω
  rw[e]
  congr 2
  by_cases hz:br l=0
  ·rw[hz,ck,eX,av (by simp),bt ω]
  ·have:0<(jw (br l).toNat).length:=by
    apply mM.2
    intro hd;rw[sV]at hd;omega
   rw[aD ω,bn ω]
theorem size_eq(hN:1000≤N){u:Int}(h0:0≤u)(h1:u<18446744073709551616):ML N u=some (jw u.toNat):=by
 unfold ML
 rw[ep h0 h1,uC]
 have hv:VD [u%4294967296,u/4294967296]:=VD.cons ω ω (VD.cons ω ω VD.nil)
 simp (disch:=omega) only[aD,av,cP,cE,bW,cw,aU,bP,bR,cJ,aJ,bb,ah,aj,bo,bS,ak,aI,ck,an,aQ,aR,aY,a8,aE,cA,BM N hv (by simp;omega) (by simp)]
 congr 2
 simp only[br];omega
theorem qd(hN:1000≤N){x:Int}(h0: -9223372036854775808≤x)(h1:x<9223372036854775808):F9 N x=some (dp x):=by
 unfold F9
 have hd: ∀n:Nat,n<18446744073709551616→(jw n).length≤2:=λn h=>qc 2 n (by simpa using h)
 by_cases h:x<0
 ·have e:W .u64 (0-W .u64 x)= -x:=by rw[gd,gd];omega
  simp only[aD h,ah,e,size_eq N hN (show 0≤ -x by omega) ω,ak]
  have:=hd (-x).toNat ω
  rw[iz N true (fT _) ω ω,dH,af rfl,show-(((-x).toNat:Nat):Int)=x from by omega];rfl
 ·have e:W .u64 x=x:=bb ω ω
  simp only[av (show 0≤x by omega),aj,e,size_eq N hN (show 0≤x by omega) ω,ak]
  have:=hd x.toNat ω
  rw[iz N false (fT _) ω ω,dH,ag mN,ij ω];rfl
theorem uE(l:List Int)(i:Nat):KU N l (i:Int)=some (l.getD i 0):=by
 unfold KU
 by_cases h:i<l.length
 ·simp (disch:=omega) only[aD,av,cP,cE,bW,cw,aU,bP,bR,cJ,aJ,bb,ah,aj,bo,bS,ak,aI,ck,an,aQ,aR,aY,a8,aE,cA]
 ·simp (disch:=omega) only[aD,av,cP,cE,bW,cw,aU,bP,bR,cJ,aJ,bb,ah,aj,bo,bS,ak,aI,ck,an,aQ,aR,aY,a8,aE,cA]
  rw[aW,eB ω];rfl
theorem kO(l:List Int)(i:Nat):br (l.drop i)=l.getD i 0+4294967296*br (l.drop (i+1)):=by
 by_cases h:i<l.length
 ·rw[kZ h,br,aW,a6 h];rfl
 ·rw[fa ω,fa ω,aW,eB ω];rfl
theorem zB(N:Nat){a b:List Int}(ha:VD a)(hb:VD b)(oG:a.length≤1000000)(Ao:b.length≤1000000): ∀(m n i:Nat) (out:List Int) (c:Int),a.length+b.length+2-i≤m→m<n→out.length=i→i≤a.length+b.length+1→0≤c→c≤1→(a.length≤i→b.length≤i→i=max a.length b.length∨c=0)→
  ∃r,mu.l4 N n a b out c (i:Int)=some (out++r)∧VD r∧br r=br (a.drop i)+br (b.drop i)+c∧r.length≤m
 |m,0,i,out,c,_,hn,_,_,_,_,_=>ω
 |m,n+1,i,out,c,hm,hn,ho,hi,Cm,pO,hz=>by
  unfold mu.l4 mu.gN
  by_cases zC:a.length≤i∧b.length≤i∧c=0
  ·obtain⟨h1,h2,rfl⟩:=zC
   simp (disch:=omega) only[aD,av,cP,cE,bW,cw,aU,bP,bR,cJ,aJ,bb,ah,aj,bo,bS,ak,aI,ck,an,aQ,aR,aY,a8,aE,cA]
   exact⟨[],by simp,VD.nil,by rw[fa h1,fa h2];rfl,gE _⟩
  ·obtain⟨RZ,TH⟩:=ha.getD i
   obtain⟨R0,TI⟩:=hb.getD i
   have step: ∃r,mu.j6 N (mu.l4 N n) a b out c (i:Int)=some (out++r)∧VD r∧br r=br (a.drop i)+br (b.drop i)+c∧r.length≤m:=by
    unfold mu.j6 mu.R1
    have sv:i≤a.length+b.length:=by
     by_cases h1:a.length≤i∧b.length≤i
     ·rcases hz h1.1 h1.2 with h|h
      ·omega
      ·exact absurd ⟨h1.1,h1.2,h⟩ zC
     ·omega
    simp only[uE,ak]
    generalize Ok:a.getD i 0=x at*
    generalize Ol:b.getD i 0=y at*
    rw[bb (x:=x+y) ω ω,bb (x:=c+(x+y)) ω ω,ep ω ω,uC]
    simp (disch:=omega) only[aD,av,cP,cE,bW,cw,aU,bP,bR,cJ,aJ,bb,ah,aj,bo,bS,ak,aI,ck,an,aQ,aR,aY,a8,aE,cA]
    obtain⟨r,hr,hv,hs,D0⟩:=zB N ha hb oG Ao (m-1) n (i+1) (out++[(c+(x+y))%4294967296]) ((c+(x+y))/4294967296) ω ω (by simp[ho]) ω ω ω (λh1 h2=>by
     by_cases h3:a.length≤i∧b.length≤i
     ·right
      rw[←Ok,←Ol,aW,eB h3.1,aW,eB h3.2]
      simp only[Option.getD_none];omega
     ·left;omega)
    refine⟨(c+(x+y))%4294967296::r,by rw[hr];simp,VD.cons ω ω hv,?_,by rw[aE];omega⟩
    rw[br,hs,kO a i,kO b i,Ok,Ol];omega
   by_cases h1:i<a.length
   ·simp (disch:=omega) only[aD,ah];exact step
   ·by_cases h2:i<b.length
    ·simp (disch:=omega) only[aD,av,ah,aj];exact step
    ·have:0<c:=ω
     simp (disch:=omega) only[aD,av,ah,aj];exact step
theorem BN: ∀{l:List Int},VD l→br l<4294967296^l.length
 |[],_=>by simp[br]
 |d::r,h=>by
  have ih:=BN h.tail
  obtain⟨h1,h2⟩:=h d (ba ..)
  rw[br,aE,pt]
  generalize (4294967296:Int)^r.length=p at*
  omega
theorem zD(hN:4000000≤N){a b:List Int}(ha:VD a)(hb:VD b)(oG:a.length≤1000000)(Ao:b.length≤1000000): ∃r,mu N a b=some r∧VD r∧br r=br a+br b∧r.length≤2000002:=by
 unfold mu mu.b
 obtain⟨r,hr,hv,hs,hl⟩:=zB N ha hb oG Ao (a.length+b.length+2) N 0 [] 0 ω ω rfl ω ω ω (λ_ _=> .inr rfl)
 exact⟨r,hr,hv,by simpa using hs,ω⟩
theorem uF(N:Nat){a b:List Int}(ha:VD a)(hb:VD b)(oG:a.length≤1000000): ∀(m n i:Nat) (out:List Int) (c:Int),a.length-i≤m→m<n→out.length=i→i≤a.length→0≤c→c≤1→0≤br (a.drop i)-br (b.drop i)-c→
  ∃r,sW.l4 N n a b out c (i:Int)=some (out++r)∧VD r∧br r=br (a.drop i)-br (b.drop i)-c∧r.length≤m
 |m,0,i,out,c,_,hn,_,_,_,_,_=>ω
 |m,n+1,i,out,c,hm,hn,ho,hi,Cm,pO,hz=>by
  unfold sW.l4 sW.gN
  by_cases h1:i<a.length
  ·obtain⟨RZ,TH⟩:=ha.getD i
   obtain⟨R0,TI⟩:=hb.getD i
   rw[kO a i,kO b i]at*
   simp only[uE,ak,aI]
   generalize Ok:a.getD i 0=x at*
   generalize Ol:b.getD i 0=y at*
   rw[bb (x:=y+c) ω ω,bb (x:=x+4294967296) ω ω]
   by_cases cy:x<y+c
   ·rw[bb (x:=x+4294967296-(y+c)) ω ω]
    simp (disch:=omega) only[aD,av,cP,cE,bW,cw,aU,bP,bR,cJ,aJ,bb,ah,aj,bo,bS,ak,aI,ck,an,aQ,aR,aY,a8,aE,cA,Ok,Ol]
    obtain⟨r,hr,hv,hs,D0⟩:=uF N ha hb oG (m-1) n (i+1) (out++[x+4294967296-(y+c)]) 1 ω ω (by simp[ho]) ω ω ω ω
    refine⟨(x+4294967296-(y+c))::r,by rw[hr];simp,VD.cons ω ω hv,by rw[br,hs];omega,by rw[aE];omega⟩
   ·rw[bb (x:=x-(y+c)) ω ω]
    simp (disch:=omega) only[aD,av,cP,cE,bW,cw,aU,bP,bR,cJ,aJ,bb,ah,aj,bo,bS,ak,aI,ck,an,aQ,aR,aY,a8,aE,cA,Ok,Ol]
    obtain⟨r,hr,hv,hs,D0⟩:=uF N ha hb oG (m-1) n (i+1) (out++[x-(y+c)]) 0 ω ω (by simp[ho]) ω ω ω ω
    refine⟨(x-(y+c))::r,by rw[hr];simp,VD.cons ω ω hv,by rw[br,hs];omega,by rw[aE];omega⟩
  ·simp (disch:=omega) only[aD,av,cP,cE,bW,cw,aU,bP,bR,cJ,aJ,bb,ah,aj,bo,bS,ak,aI,ck,an,aQ,aR,aY,a8,aE,cA]
   have h0:=fA (hb.drop i)
   rw[fa (l:=a) ω]at hz ⊢
   simp only[br]at hz ⊢
   exact⟨[],by simp,VD.nil,by simp only[br];omega,gE _⟩
theorem rW(hN:4000000≤N){a b:List Int}(ha:VD a)(hb:VD b)(oG:a.length≤1000000)(h:br b≤br a): ∃r,sW N a b=some r∧VD r∧br r=br a-br b∧r.length≤1000000:=by
 unfold sW sW.b
 obtain⟨r,hr,hv,hs,hl⟩:=uF N ha hb oG a.length N 0 [] 0 ω ω rfl ω ω ω (by simp;omega)
 exact⟨r,hr,hv,by simpa using hs,ω⟩
theorem iF: ∀(l:List Int) (x:Int),br (l++[x])=br l+4294967296^l.length*x
 |[],x=>by simp[br]
 |d::r,x=>by
  rw[iH,br,iF r x,br,aE,pt,cG _ 4294967296,c6,fh];omega
theorem zE{a b:List Int}(ha:VD a)(hb:VD b){k:Nat}(h1:k<a.length)(h2:k<b.length)(cy:a.getD k 0<b.getD k 0):br (a.take (k+1))<br (b.take (k+1)):=by
 rw[dk a h1,dk b h2,iF,iF]
 have l1:(a.take k).length=k:=by rw[aT];omega
 have l2:(b.take k).length=k:=by rw[aT];omega
 have v1:=BN (ha.take k)
 have v2:=fA (hb.take k)
 rw[l1]at*
 rw[l2]
 generalize (4294967296:Int)^k=p at*
 have hp:0<p:=by have:=fA (ha.take k);omega
 have:=nH (show a.getD k 0+1≤b.getD k 0 by omega) (iL hp)
 rw[fh,Int.mul_one]at this
 omega
def qZ(x:Int):Int:=if x<0 then-1 else if 0<x then 1 else 0
theorem zF(N:Nat){a b:List Int}(ha:VD a)(hb:VD b)(hl:a.length=b.length)(oG:a.length≤1000000): ∀(k n:Nat),k≤a.length→k<n→sC.l6 N n a b ((k:Int)-1)=some (qZ (br (a.take k)-br (b.take k)))
 |k,0,_,hn=>ω
 |0,n+1,_,_=>by
  unfold sC.l6 sC.Ja
  simp (disch:=omega) only[aD,av,cP,cE,bW,cw,aU,bP,bR,cJ,aJ,bb,ah,aj,bo,bS,ak,aI,ck,an,aQ,aR,aY,a8,aE,cA]
  simp[qZ,br]
 |k+1,n+1,hk,hn=>by
  unfold sC.l6 sC.Ja
  have e:((k+1:Nat):Int)-1=(k:Int):=ω
  rw[e]
  simp (disch:=omega) only[aD,av,cP,cE,bW,cw,aU,bP,bR,cJ,aJ,bb,ah,aj,bo,bS,ak,aI,ck,an,aQ,aR,aY,a8,aE,cA]
  by_cases h1:a.getD k 0<b.getD k 0
  ·rw[aD h1,ah]
   have:=zE ha hb (k:=k) ω ω h1
   rw[qZ,af ω]
  ·rw[av ω,aj]
   by_cases h2:b.getD k 0<a.getD k 0
   ·rw[aD h2,ah]
    have:=zE hb ha (k:=k) ω ω h2
    rw[qZ,ag ω,af ω]
   ·rw[av ω,aj,zF N ha hb hl oG k n ω ω]
    congr 2
    rw[dk a ω,dk b ω,iF,iF,show a.getD k 0=b.getD k 0 from by omega,aT,aT,hl]
    omega
theorem zG(hN:4000000≤N)(m k:Nat)(hm:(jw m).length≤1000000)(hk:(jw k).length≤1000000):sC N (jw m) (jw k)=some (qZ ((m:Int)-k)):=by
 unfold sC sC.b
 by_cases h:(jw m).length=(jw k).length
 ·simp (disch:=omega) only[aD,av,cP,cE,bW,cw,aU,bP,bR,cJ,aJ,bb,ah,aj,bo,bS,ak,aI,ck,an,aQ,aR,aY,a8,aE,cA]
  rw[zF N (fT m) (fT k) h hm (jw m).length N (aB _) ω,gn,h,gn,dH,dH]
 ·rw[cw ω,bS,ah]
  by_cases cy:(jw m).length<(jw k).length
  ·rw[aD ω,ah]
   have h1:=BL ((jw k).length-1) m ω
   have h2: ¬(k<4294967296^((jw k).length-1)):=λh=>by have:=qc _ _ h;omega
   rw[qZ,af ω]
  ·rw[av ω,aj]
   have h1:=BL ((jw m).length-1) k ω
   have h2: ¬(m<4294967296^((jw m).length-1)):=λh=>by have:=qc _ _ h;omega
   rw[qZ,ag ω,af ω]
def Fit(v:Int)(k:Nat):Prop:=v.natAbs<4294967296^k
theorem Fit.len{v:Int}{k:Nat}(h:Fit v k):(jw v.natAbs).length≤k:=qc k _ h
theorem Fit.mono{v:Int}{j k:Nat}(h:Fit v j)(R2:j≤k):Fit v k:=fe h (tc δ R2)
theorem Fit.neg{v:Int}{k:Nat}(h:Fit v k):Fit (-v) k:=by unfold Fit at*;rwa [Int.natAbs_neg]
theorem Fit.i64{v:Int}(h0: -9223372036854775808≤v)(h1:v<9223372036854775808):Fit v 2:=by
 unfold Fit
 rw[show(4294967296:Nat)^2=18446744073709551616 from by decide];omega
theorem Fit.mul{u v:Int}{j k:Nat}(hu:Fit u j)(hv:Fit v k):Fit (u*v) (j+k):=by
 unfold Fit at*
 rw[Int.natAbs_mul,Nat.pow_add]
 exact Nat.mul_lt_mul'' hu hv
theorem ny(a b:Bool):kW .bool a b=(a==b):=by simp[kW]
theorem BO(hN:4000000≤N){u v:Int}(hu:Fit u 900000)(hv:Fit v 900000):Om N (dp u) (dp v)=some (dp (u+v)):=by
 have lu:=hu.len
 have lv:=hv.len
 unfold Om
 simp only[dp,ny]
 by_cases hs:decide (u<0)=decide (v<0)
 ·rw[hs,tq,ah]
  obtain⟨r,hr,On,uc,hl⟩:=zD N hN (fT u.natAbs) (fT v.natAbs) ω ω
  simp only[hr,ak,iz N _ On ω ω,uc,dH]
  congr 1
  show dp _=dp _
  congr 1
  by_cases h:v<0
  ·have:u<0:=by simpa [h]using hs
   rw[af (bn h)];omega
  ·have: ¬u<0:=by simpa [h]using hs
   rw[ag (by simpa using h)];omega
 ·have hb:(decide (u<0)==decide (v<0))=false:=by simpa using hs
  rw[hb,aj,zG N hN _ _ ω ω,ak]
  by_cases hc:v.natAbs≤u.natAbs
  ·have h1:dK 0 (qZ ((u.natAbs:Int)-v.natAbs))=true:=cP (by unfold qZ;split<;>(try split)<;>omega)
   obtain⟨r,hr,On,uc,hl⟩:=rW N hN (fT u.natAbs) (fT v.natAbs) ω (by rw[dH,dH];omega)
   simp only[h1,ah,hr,ak,iz N _ On ω ω,uc,dH]
   congr 1
   show dp _=dp _
   congr 1
   by_cases h:u<0
   ·have: ¬v<0:=λhv=>hs (by simp[h,hv])
    rw[af (bn h)];omega
   ·have:v<0:=yp λhv=>hs (by simp[h,hv])
    rw[ag (by simpa using h)];omega
  ·have h1:dK 0 (qZ ((u.natAbs:Int)-v.natAbs))=false:=cE (by unfold qZ;rw[af ω];omega)
   obtain⟨r,hr,On,uc,hl⟩:=rW N hN (fT v.natAbs) (fT u.natAbs) ω (by rw[dH,dH];omega)
   simp only[h1,aj,hr,ak,iz N _ On ω ω,uc,dH]
   congr 1
   show dp _=dp _
   congr 1
   by_cases h:v<0
   ·have: ¬u<0:=λhu=>hs (by simp[h,hu])
    rw[af (bn h)];omega
   ·have:u<0:=yp λhu=>hs (by simp[h,hu])
    rw[ag (by simpa using h)];omega
theorem C7(hN:4000000≤N){u:Int}(hu:Fit u 900000):Qg N (dp u)=some (dp (-u)):=by
 have lu:=hu.len
 unfold Qg
 simp only[dp]
 simp only[iz N _ (fT u.natAbs) ω ω,ak,dH]
 congr 1
 show dp _=dp _
 congr 1
 by_cases h:u<0
 ·rw[bn h,bo,ag mN];omega
 ·rw[bt h,bS,af rfl];omega
theorem HO(hN:4000000≤N){u v:Int}(hu:Fit u 900000)(hv:Fit v 900000):Qh N (dp u) (dp v)=some (dp (u-v)):=by
 unfold Qh
 simp only[C7 N hN hv,ak,BO N hN hu hv.neg,Int.sub_eq_add_neg]
theorem BP(u:Int):Oo N (dp u)=some (qZ u):=by
 unfold Oo
 simp only[dp]
 by_cases h:u=0
 ·subst h
  rw[show(0:Int).natAbs=0 from rfl,eX]
  simp (disch:=omega) only[aD,av,cP,cE,bW,cw,aU,bP,bR,cJ,aJ,bb,ah,aj,bo,bS,ak,aI,ck,an,aQ,aR,aY,a8,aE,cA]
  rfl
 ·have:0<(jw u.natAbs).length:=by
   apply mM.2
   intro hd;rw[sV]at hd;omega
  rw[cw ω,aj]
  by_cases hn:u<0
  ·rw[bn hn,ah,qZ,af hn]
  ·rw[bt hn,aj,qZ,ag hn,af ω]
theorem KV(hN:4000000≤N){u v:Int}(hu:Fit u 900000)(hv:Fit v 900000):Qi N (dp u) (dp v)=some (qZ (u-v)):=by
 unfold Qi
 simp only[HO N hN hu hv,ak,BP]
theorem BQ(l:List Int)(h: ∀x∈l,-9223372036854775808≤x∧x<9223372036854775808): -(9223372036854775808*l.length)≤l.sum∧l.sum≤9223372036854775808*l.length:=by
 induction l with
 |nil=>simp
 |cons x l ih=>
  have:=ih (λy hy=>h y (a7 _ hy))
  obtain⟨h1,h2⟩:=h x (ba ..)
  rw[fI,aE]
  omega
theorem Fh{l:List Int}(h: ∀x∈l,-9223372036854775808≤x∧x<9223372036854775808)(i:Nat): -9223372036854775808≤l.getD i 0∧l.getD i 0<9223372036854775808:=by
 rw[aW]
 cases hn:l[i]? with
 |none=>exact⟨δ,δ⟩
 |some x=>exact h x (List.mem_of_getElem? hn)
theorem jZ(l:List Int){i:Nat}(h:i<l.length):(l.take (i+1)).sum=(l.take i).sum+l.getD i 0:=by
 rw[dk l h];simp
theorem C8:dp 0=(false,([],())):=by unfold dp;rw[show(0:Int).natAbs=0 from rfl,eX];rfl
def C9(v:Int):Int×Bool:=if-9223372036854775808≤v∧v<9223372036854775808 then(v,true)else(0,false)
theorem zH: ∀(l:List Int) (k:Nat) (x:Int),k<l.length→br (l.set k x)=br l+4294967296^k*(x-l.getD k 0)
 |d::r,0,x,_=>by simp[br];omega
 |d::r,k+1,x,h=>by
  have ih:=zH r k x (by simpa using h)
  rw[List.set_cons_succ,br,br,ih,List.getD_cons_succ,pt,cG (4294967296^k) 4294967296,c6,fh];omega
theorem getD_set_ne(l:List Int){j k:Nat}(x:Int)(h:j≠k):(l.set j x).getD k 0=l.getD k 0:=by
 simp[aW,List.getElem?_set_ne h]
theorem nz(l:List Int){k:Nat}(x:Int)(h:k<l.length):(l.set k x).getD k 0=x:=by
 simp[aW,List.getElem?_set,h]
theorem sX(l:List Int){k:Nat}(h:l.length≤k):l.getD k 0=0:=by
 rw[aW,eB h];rfl
theorem rX(N:Nat)(K:bf→bf→bf→List Int→Int→Option bf){a b:List Int}(na nb:Bool)(z:bf)(ha:VD a)(hb:VD b)(i:Nat)(hi:i<a.length)(oG:a.length≤100000)(Ao:b.length≤100000):
  ∀(m n j:Nat) (out:List Int) (c:Int),b.length+1-j≤m→m<n→VD out→out.length=a.length+b.length+1→0≤c→c<4294967296→(j≤b.length→ ∀k,i+b.length≤k→out.getD k 0=0)→(b.length<j→c=0∧j=b.length+1∧ ∀k,i+b.length+1≤k→out.getD k 0=0)→
  ∃oI,fD.l7 N K n (na,(a,())) (nb,(b,())) z out (i:Int) c (j:Int)=K (na,(a,())) (nb,(b,())) z oI ((i+1:Nat):Int)∧VD oI∧oI.length=out.length∧
   br oI=br out+4294967296^i*(4294967296^j*(a.getD i 0*br (b.drop j)+c))∧ ∀k,i+1+b.length≤k→oI.getD k 0=0
 |m,0,j,out,c,_,hn,_,_,_,_,_,_=>ω
 |m,n+1,j,out,c,hm,hn,ho,EP,Cm,pO,hz,MC=>by
  unfold fD.l7 fD.R3
  by_cases zC:b.length≤j∧c=0
  ·obtain⟨h1,rfl⟩:=zC
   simp (disch:=omega) only[aD,av,cP,cE,bW,cw,aU,bP,bR,cJ,aJ,bb,ah,aj,bo,bS,ak,aI,ck,an,aQ,aR,aY,a8,aE,cA]
   refine⟨out,rfl,ho,rfl,by rw[fa h1];simp[br],λk hk=> ?_⟩
   by_cases hj:j≤b.length
   ·exact hz hj k ω
   ·exact(MC ω).2.2 k ω
  ·have pJ:j≤b.length:=by
    by_cases hj:j≤b.length
    ·exact hj
    ·exact absurd ⟨ω,(MC ω).1⟩ zC
   obtain⟨RZ,TH⟩:=ha.getD i
   obtain⟨R0,TI⟩:=hb.getD j
   obtain⟨YT,YU⟩:=ho.getD (i+j)
   have step: ∃oI,fD.j9 N K (fD.l7 N K n) (na,(a,())) (nb,(b,())) z out (i:Int) c (j:Int)=K (na,(a,())) (nb,(b,())) z oI ((i+1:Nat):Int)∧VD oI∧oI.length=out.length∧
     br oI=br out+4294967296^i*(4294967296^j*(a.getD i 0*br (b.drop j)+c))∧ ∀k,i+1+b.length≤k→oI.getD k 0=0:=by
    unfold fD.j9 fD.R4
    have Wq:(i:Int)+(j:Int)=((i+j:Nat):Int):=rfl
    have hp:=mul_lt (m:=4294967295) (n:=4294967295) RZ R0 ω ω
    simp only[uE,ak,Wq,aI]
    simp (disch:=omega) only[aD,av,cP,cE,bW,cw,aU,bP,bR,cJ,aJ,bb,ah,aj,bo,bS,ak,aI,ck,an,aQ,aR,aY,a8,aE,cA]
    generalize hx:out.getD (i+j) 0=x at*
    generalize QV:a.getD i 0=ai at*
    generalize bA:b.getD j 0=bj at*
    generalize TJ:ai*bj=p at*
    have Wr:b.length≤j→p=0∧x=0:=λh=>by
     rw[sX b h]at bA
     refine⟨by rw[←TJ,←bA,Int.mul_zero],?_⟩
     rw[←hx];exact hz pJ _ ω
    rw[ep ω ω,uC]
    have R5:(out.set (i+j) ((c+(x+p))%4294967296)).length=a.length+b.length+1:=by rw[aY];exact EP
    obtain⟨oI,h1,h2,h3,h4,h5⟩:=rX N K na nb z ha hb i hi oG Ao (m-1) n (j+1) (out.set (i+j) ((c+(x+p))%4294967296)) ((c+(x+p))/4294967296) ω ω (ho.set _ ω ω) R5 ω ω
     (λh k hk=>by rw[getD_set_ne _ _ ω];exact hz pJ k hk)
     (λh=>by
      obtain⟨vJ,DM⟩:=Wr ω
      refine⟨ω,ω,λk hk=> ?_⟩
      rw[getD_set_ne _ _ ω];exact hz pJ k ω)
    refine⟨oI,h1,h2,by rw[h3,aY],?_,h5⟩
    rw[h4,zH _ _ _ ω,hx,QV,kO b j,bA,fh ai,TJ,Int.pow_add,pt]
    have e1:ai*(4294967296*br (b.drop (j+1)))=4294967296*(ai*br (b.drop (j+1))):=Int.mul_left_comm _ _ _
    rw[e1]
    generalize ai*br (b.drop (j+1))=y
    generalize (4294967296:Int)^i=P
    generalize (4294967296:Int)^j=R
    rw[c6 R,c6 P,Int.add_assoc,←fh,←fh]
    congr 3
    omega
   by_cases h1:j<b.length
   ·simp (disch:=omega) only[aD,ah];exact step
   ·have:0<c:=ω
    simp (disch:=omega) only[aD,av,ah,aj];exact step
theorem rY(N:Nat)(hN:4000000≤N){a b:List Int}(na nb:Bool)(z:bf)(ha:VD a)(hb:VD b)(oG:a.length≤100000)(Ao:b.length≤100000):
  ∀(m n i:Nat) (out:List Int),a.length-i≤m→m<n→i≤a.length→VD out→out.length=a.length+b.length+1→(∀k,i+b.length≤k→out.getD k 0=0)→br out=br (a.take i)*br b→
  fD.l3 N n (na,(a,())) (nb,(b,())) z out (i:Int)=some (dp (if na=nb then br a*br b else-(br a*br b)))
 |m,0,i,out,_,hn,_,_,_,_,_=>ω
 |m,n+1,i,out,hm,hn,hi,ho,EP,hz,hv=>by
  unfold fD.l3 fD.wH
  by_cases h1:i<a.length
  ·simp only
   rw[aD ω,ah]
   obtain⟨oI,e1,e2,e3,e4,e5⟩:=rX N (fD.l3 N n) na nb z ha hb i h1 oG Ao (b.length+1) N 0 out 0 ω ω ho EP ω ω (λ_ k hk=>hz k hk) (λh=>ω)
   rw[show((0:Nat):Int)=0 from rfl]at e1
   rw[e1]
   refine rY N hN na nb z ha hb oG Ao (m-1) n (i+1) oI ω ω ω e2 (by rw[e3];exact EP) (λk hk=>e5 k ω) ?_
   rw[e4,hv,dk a h1,iF,aT,c5 ω,cW,Int.pow_zero,iN,Int.add_zero,fK,c6]
  ·simp only
   rw[av ω,aj]
   simp only[iz N _ ho ω ω,ak]
   rw[hv,eA ω,ny]
   congr 2
   cases na<;>cases nb<;>simp
theorem zI(hN:4000000≤N){u v:Int}(hu:Fit u 90000)(hv:Fit v 90000):fD N (dp u) (dp v)=some (dp (u*v)):=by
 have lu:=hu.len
 have lv:=hv.len
 unfold fD fD.b
 simp only[dp]
 simp (disch:=omega) only[aD,av,cP,cE,bW,cw,aU,bP,bR,cJ,aJ,bb,ah,aj,bo,bS,ak,aI,ck,an,aQ,aR,aY,a8,aE,cA]
 have e:(((jw u.natAbs).length:Int)+((jw v.natAbs).length:Int)+1).toNat=(jw u.natAbs).length+(jw v.natAbs).length+1:=ω
 have:=rY N hN (decide (u<0)) (decide (v<0)) (false,([],())) (fT u.natAbs) (fT v.natAbs) ω ω (jw u.natAbs).length N 0 (List.replicate ((jw u.natAbs).length+(jw v.natAbs).length+1) 0) ω ω ω (VD.Oj _) (by simp)
  (λk _=>by rw[aW,oY];split<;>rfl) (by
   have: ∀n,br (List.replicate n 0)=0:=λn=>by
    induction n with
    |zero=>rfl
    |succ n ih=>rw[tf,br,ih];rfl
   rw[this];simp[br])
 rw[dH,dH]at this
 have e2:(((jw u.natAbs).length+(jw v.natAbs).length:Nat):Int)+1=(jw u.natAbs).length+(jw v.natAbs).length+1:=ω
 first
 |(rw[e];refine this.trans ?_)
 |(refine(this).trans ?_)
 show some (dp _)=some (dp _)
 congr 2
 have key:(u.natAbs:Int)*v.natAbs=if decide (u<0)=decide (v<0)then u*v else-(u*v):=by
  by_cases h1:u<0<;>by_cases h2:v<0
  ·rw[af (by simp[h1,h2]),show(u.natAbs:Int)= -u from by omega,show(v.natAbs:Int)= -v from by omega,Int.neg_mul_neg]
  ·rw[ag (by simp[h1,h2]),show(u.natAbs:Int)= -u from by omega,show(v.natAbs:Int)=v from by omega,Int.neg_mul]
  ·rw[ag (by simp[h1,h2]),show(u.natAbs:Int)=u from by omega,show(v.natAbs:Int)= -v from by omega,pv]
  ·rw[af (by simp[h1,h2]),show(u.natAbs:Int)=u from by omega,show(v.natAbs:Int)=v from by omega]
 rw[key]
 split<;>simp
end VM
end
