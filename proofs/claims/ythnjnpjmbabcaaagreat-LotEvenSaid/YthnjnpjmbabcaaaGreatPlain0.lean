/- A part of the proof of LotEven of layer 23: what the functions compute, in plain words. -/
import Derived.Test.YthnjnpjmbabcaaaGreatVm0
import GoSem.Claim
import Derived.Test.YthnjnpjmbabcaaaGreatText
set_option linter.all false
section
namespace VM
open Go
variable(N:Nat)
theorem nA(x:Int):W .u64 x=x%18446744073709551616:=by rw[DW];simp[IntKind.wrap,IntKind.bits,IntKind.signed]
theorem cz{x:Int}(h0:0≤x)(h1:x<18446744073709551616):W .u64 x=x:=by rw[nA];omega
theorem gU(x:Int):W .i64 x=if 9223372036854775808≤x%18446744073709551616 then x%18446744073709551616-18446744073709551616 else x%18446744073709551616:=by
 rw[DW];simp[IntKind.wrap,IntKind.bits,IntKind.signed]
theorem ay{x:Int}(h0: -9223372036854775808≤x)(h1:x<9223372036854775808):W .i64 x=x:=by
 rw[gU];split<;>omega
theorem am3{x:Int}(h0:0≤x)(h1:x<256):W .u8 x=x:=by rw[DW];simp[IntKind.wrap,IntKind.bits,IntKind.signed];omega
theorem wf_u64{x:Int}:(Lit.int .u64 x).wf=true↔0≤x∧x≤18446744073709551615:=by simp[Lit.wf,IntKind.min,IntKind.max,IntKind.bits,IntKind.signed]
theorem aP{x y:Int}(h:x<y):aT x y=true:=by rw[rm];exact bq h
theorem aK{x y:Int}(h:y≤x):aT x y=false:=by rw[rm];exact bK ω
theorem dC{x y:Int}(h:x≤y):cY x y=true:=by rw[oe];exact bq h
theorem dn{x y:Int}(h:y<x):cY x y=false:=by rw[oe];exact bK ω
theorem cZ{x y:Int}(h:x=y):aM x y=true:=by rw[jj];exact bq h
theorem da{x y:Int}(h:x≠y):aM x y=false:=by rw[jj];exact bK h
theorem aY{i:Int}{n:Nat}(h0:0≤i)(h1:i<n):a7 i n=true:=by rw[VB];exact bq ⟨h0,h1⟩
theorem ch{n:Nat}(h:n<68719476736):small n=true:=by rw[FE];exact bq (by simpa [Al]using h)
theorem cC{l c:Int}(h0:0≤l)(h1:l≤c)(h2:c<68719476736):iP l c=true:=by rw[BL];exact bq (by simp only[Al];omega)
theorem db{l h m n:Int}(h0:0≤l)(h1:l≤h)(h2:h≤m)(h3:m≤n):jA l h m n=true:=by rw[wR];exact bq ⟨h0,h1,h2,h3⟩
theorem ag(n:Nat):(n:Int)+1=((n+1:Nat):Int):=rfl
theorem sY(x:Int)(h0:0≤x)(h1:x<18446744073709551616):(BitVec.ofInt 64 x).toNat=x.toNat:=by
 rw[BitVec.toNat_ofInt];congr 1;omega
theorem Nt{x y:Int}(hx:0≤x)(Ib:x<18446744073709551616)(hy:0≤y)(hy1:y<18446744073709551616):mX .and .u64 x y=((x.toNat&&& y.toNat:Nat):Int):=by
 rw[uU]
 have h:((BitVec.ofInt 64 x&&& BitVec.ofInt 64 y).toNat)=x.toNat&&& y.toNat:=by rw[BitVec.toNat_and,sY x hx Ib,sY y hy hy1]
 show IntKind.u64.wrap (((BitVec.ofInt 64 x&&& BitVec.ofInt 64 y).toNat:Nat):Int)=_
 rw[h,←DW]
 have:x.toNat&&& y.toNat≤x.toNat:=Nat.and_le_left
 exact cz ω ω
theorem KL{x y:Int}(hx:0≤x)(Ib:x<18446744073709551616)(hy:0≤y)(hy1:y<18446744073709551616):mX .or .u64 x y=((x.toNat|||y.toNat:Nat):Int):=by
 rw[uU]
 have h:((BitVec.ofInt 64 x|||BitVec.ofInt 64 y).toNat)=x.toNat|||y.toNat:=by rw[BitVec.toNat_or,sY x hx Ib,sY y hy hy1]
 show IntKind.u64.wrap (((BitVec.ofInt 64 x|||BitVec.ofInt 64 y).toNat:Nat):Int)=_
 rw[h,←DW]
 have:x.toNat|||y.toNat<2^64:=Nat.or_lt_two_pow ω ω
 exact cz ω ω
theorem kB{x:Int}(h0:0≤x)(h1:x<18446744073709551616):mX .and .u64 x 4294967295=x%4294967296:=by
 rw[Nt h0 h1 ω ω]
 have:=Md x.toNat 32
 rw[show((4294967295:Int).toNat)=2^32-1 from rfl,this]
 omega
theorem vm{x y:Int}(h0:0≤y)(h1:y≤64):shr .u64 x y=x/2^y.toNat:=by
 rw[Qg]
 have:min y.toNat IntKind.u64.bits=y.toNat:=by simp[IntKind.bits];omega
 rw[this,Mf]
 exact_mod_cast bA _
theorem Gn(x:Int):shr .u64 x 32=x/4294967296:=by rw[vm ω ω];rfl
theorem am4(x:Int):shr .u64 x 1=x/2:=by rw[vm ω ω];rfl
theorem rI{x:Int}(h0: -9223372036854775808≤x)(h1:x<9223372036854775808):shr .i64 x 63=if x<0 then-1 else 0:=by
 rw[Qg]
 have:(2:Int)^(min (63:Int).toNat IntKind.i64.bits)=9223372036854775808:=by rfl
 rw[this,Mf _ ω]
 split<;>omega
theorem Sd{x y:Int}(h0:0≤y)(h1:y≤64):shl .u64 x y=x*2^y.toNat:=by
 rw[VE]
 have:min y.toNat IntKind.u64.bits=y.toNat:=by simp[IntKind.bits];omega
 rw[this]
theorem mul_lt{a b m n:Int}(ha:0≤a)(hb:0≤b)(ham:a≤m)(hbn:b≤n):0≤a*b∧a*b≤m*n:=
 ⟨o5 ha hb,fU (qf ham hb) (qi hbn ω)⟩
end VM
end
section
namespace VM
open Go VM.F
variable(N:Nat)
theorem T4(a b:Int):a*b=(a/4294967296)*(b/4294967296)*18446744073709551616+((a/4294967296)*(b%4294967296)+(a%4294967296)*(b/4294967296))*4294967296+(a%4294967296)*(b%4294967296):=by
 have ha:a=(a/4294967296)*4294967296+a%4294967296:=ω
 have hb:b=(b/4294967296)*4294967296+b%4294967296:=ω
 generalize a/4294967296=a1 at*
 generalize a%4294967296=a0 at*
 generalize b/4294967296=b1 at*
 generalize b%4294967296=b0 at*
 subst ha;subst hb
 simp only[iN,jz]
 have e1:a1*4294967296*(b1*4294967296)=a1*b1*18446744073709551616:=by
  rw[gj,Int.mul_left_comm 4294967296,←gj];rfl
 have e2:a1*4294967296*b0=a1*b0*4294967296:=by rw[gj,dZ 4294967296,←gj]
 have e3:a0*(b1*4294967296)=a0*b1*4294967296:=by rw[←gj]
 rw[e1,e2,e3];omega
theorem Nu{a b:Int}(ha:0≤a)(ha1:a<18446744073709551616)(hb:0≤b)(dA:b<18446744073709551616):
  WT N a b=some (a*b/18446744073709551616,a*b%18446744073709551616):=by
 unfold WT
 have hm:=T4 a b
 have h1:=mul_lt (m:=4294967295) (n:=4294967295) (show 0≤a/4294967296 by omega) (show 0≤b/4294967296 by omega) ω ω
 have h2:=mul_lt (m:=4294967295) (n:=4294967295) (show 0≤a/4294967296 by omega) (show 0≤b%4294967296 by omega) ω ω
 have h3:=mul_lt (m:=4294967295) (n:=4294967295) (show 0≤a%4294967296 by omega) (show 0≤b/4294967296 by omega) ω ω
 have h4:=mul_lt (m:=4294967295) (n:=4294967295) (show 0≤a%4294967296 by omega) (show 0≤b%4294967296 by omega) ω ω
 simp only[aK (show(0:Int)≤32 by omega),au,kB ha ha1,kB hb dA,Gn]
 generalize a/4294967296=a1 at*
 generalize a%4294967296=a0 at*
 generalize b/4294967296=b1 at*
 generalize b%4294967296=b0 at*
 generalize a*b=ab at*
 generalize a1*b1=p at*
 generalize a1*b0=q at*
 generalize a0*b1=r at*
 generalize a0*b0=s at*
 rw[cz (x:=q) ω ω,cz (x:=s) ω ω,cz (x:=r) ω ω,cz (x:=p) ω ω,cz (x:=q+s/4294967296) ω ω,
  kB ω ω,cz (x:=(q+s/4294967296)%4294967296+r) ω ω,cz (x:=p+(q+s/4294967296)/4294967296) ω ω,cz (x:=p+(q+s/4294967296)/4294967296+_) ω ω,nA]
 congr 2
 omega
theorem KM(n:Int)(h0:0<n)(h1:n<1048576):aab N 1 n=some (0,n):=by
 unfold aab
 simp only[au,Nu N (show(0:Int)≤1 by omega) ω (show 0≤n by omega) ω,aw]
 congr 2<;>omega
theorem AX{x:Int}(h0: -9223372036854775808≤x)(h1:x<9223372036854775808):F45 N x=some (x.natAbs:Int):=by
 unfold F45
 by_cases h:x<0
 ·rw[aP h,aj,nA,nA];congr 1;omega
 ·rw[aK ω,au,nA];congr 1;omega
theorem uj{x y c:Int}(hx:0≤x)(hy:0≤y)(hc:0≤c)(zz:c≤1):sQ N x y c=some ((x+y+c)%18446744073709551616,(x+y+c)/18446744073709551616):=by
 unfold sQ;rw[ak ⟨hx,hy,hc,zz⟩]
theorem ph{x y c:Int}(hx:0≤x)(Ib:x<18446744073709551616)(hy:0≤y)(hy1:y<18446744073709551616)(hc:0≤c)(zz:c≤1):
  sR N x y c=some ((x-y-c)%18446744073709551616,if x<y+c then 1 else 0):=by
 unfold sR;rw[ak ⟨hx,Ib,hy,hy1,hc,zz⟩];congr 2;omega
def bitLen(n:Nat):Nat:=if n=0 then 0 else bitLen (n/2)+1
termination_by n
decreasing_by omega
theorem rJ{n:Nat}(h:n≠0):bitLen n=bitLen (n/2)+1:=by rw[bitLen];simp[h]
theorem xk:bitLen 0=0:=by rw[bitLen];rfl
theorem bitLen_shift(k:Nat): ∀n,2^k≤n→bitLen n=bitLen (n/2^k)+k:=by
 induction k with
 |zero=>intro n _;simp
 |succ k ih=>
  intro n h
  have hp:0<2^k:=Nat.pow_pos δ
  rw[o8]at h
  rw[rJ ω,ih (n/2) ω,Nat.div_div_eq_div_mul,o8,Ac 2];omega
theorem bitLen_spec(n:Nat):n<2^bitLen n∧(n≠0→2^(bitLen n-1)≤n):=by
 induction n using Nat.strongRecOn with
 |_ n ih=>
  by_cases h:n=0
  ·subst h;rw[xk];simp
  ·rw[rJ h]
   obtain⟨h1,h2⟩:=ih (n/2) ω
   refine⟨by rw[o8];omega,λ_=> ?_⟩
   rw[Nat.add_sub_cancel]
   by_cases h3:n/2=0
   ·rw[h3,xk];simp;omega
   ·have:=h2 h3
    have e:bitLen (n/2)=(bitLen (n/2)-1)+1:=by rw[rJ h3];omega
    rw[e,o8];omega
theorem aac: ∀i:Fin 256,((strOf [0,1,2,2,3,3,3,3,4,4,4,4,4,4,4,4,5,5,5,5,5,5,5,5,5,5,5,5,5,5,5,5,6,6,6,6,6,6,6,6,6,6,6,6,6,6,6,6,6,6,6,6,6,6,6,6,6,6,6,6,6,6,6,6,7,7,7,7,7,7,7,7,7,7,7,7,7,7,7,7,7,7,7,7,7,7,7,7,7,7,7,7,7,7,7,7,7,7,7,7,7,7,7,7,7,7,7,7,7,7,7,7,7,7,7,7,7,7,7,7,7,7,7,7,7,7,7,7,8,8,8,8,8,8,8,8,8,8,8,8,8,8,8,8,8,8,8,8,8,8,8,8,8,8,8,8,8,8,8,8,8,8,8,8,8,8,8,8,8,8,8,8,8,8,8,8,8,8,8,8,8,8,8,8,8,8,8,8,8,8,8,8,8,8,8,8,8,8,8,8,8,8,8,8,8,8,8,8,8,8,8,8,8,8,8,8,8,8,8,8,8,8,8,8,8,8,8,8,8,8,8,8,8,8,8,8,8,8,8,8,8,8,8,8,8,8,8,8,8,8,8,8,8,8,8,8]).data.getD i.val 0).toNat=Nat.log2 (2*i.val+1):=by decide+kernel
theorem Dj(n:Nat):Nat.log2 (2*n+1)=bitLen n:=by
 induction n using Nat.strongRecOn with
 |_ n ih=>
  by_cases h:n=0
  ·subst h;rw[xk];decide
  ·rw[rJ h,FD,ak ω,show(2*n+1)/2=n from by omega]
   congr 1
   have:=ih (n/2) ω
   rw[←this]
   by_cases h2:n%2=0
   ·rw[FD,FD (n:=2*(n/2)+1)]
    have e1:(2*(n/2)+1)/2=n/2:=ω
    rw[ak ω,ak ω,e1]
   ·congr 1;omega
theorem Nv(i:Nat)(h:i<256):((strOf [0,1,2,2,3,3,3,3,4,4,4,4,4,4,4,4,5,5,5,5,5,5,5,5,5,5,5,5,5,5,5,5,6,6,6,6,6,6,6,6,6,6,6,6,6,6,6,6,6,6,6,6,6,6,6,6,6,6,6,6,6,6,6,6,7,7,7,7,7,7,7,7,7,7,7,7,7,7,7,7,7,7,7,7,7,7,7,7,7,7,7,7,7,7,7,7,7,7,7,7,7,7,7,7,7,7,7,7,7,7,7,7,7,7,7,7,7,7,7,7,7,7,7,7,7,7,7,7,8,8,8,8,8,8,8,8,8,8,8,8,8,8,8,8,8,8,8,8,8,8,8,8,8,8,8,8,8,8,8,8,8,8,8,8,8,8,8,8,8,8,8,8,8,8,8,8,8,8,8,8,8,8,8,8,8,8,8,8,8,8,8,8,8,8,8,8,8,8,8,8,8,8,8,8,8,8,8,8,8,8,8,8,8,8,8,8,8,8,8,8,8,8,8,8,8,8,8,8,8,8,8,8,8,8,8,8,8,8,8,8,8,8,8,8,8,8,8,8,8,8,8,8,8,8,8,8]).data.getD i 0).toNat=bitLen i:=by
 rw[←Dj];exact aac ⟨i,h⟩
theorem Nw:ByteArray.size (strOf [0,1,2,2,3,3,3,3,4,4,4,4,4,4,4,4,5,5,5,5,5,5,5,5,5,5,5,5,5,5,5,5,6,6,6,6,6,6,6,6,6,6,6,6,6,6,6,6,6,6,6,6,6,6,6,6,6,6,6,6,6,6,6,6,7,7,7,7,7,7,7,7,7,7,7,7,7,7,7,7,7,7,7,7,7,7,7,7,7,7,7,7,7,7,7,7,7,7,7,7,7,7,7,7,7,7,7,7,7,7,7,7,7,7,7,7,7,7,7,7,7,7,7,7,7,7,7,7,8,8,8,8,8,8,8,8,8,8,8,8,8,8,8,8,8,8,8,8,8,8,8,8,8,8,8,8,8,8,8,8,8,8,8,8,8,8,8,8,8,8,8,8,8,8,8,8,8,8,8,8,8,8,8,8,8,8,8,8,8,8,8,8,8,8,8,8,8,8,8,8,8,8,8,8,8,8,8,8,8,8,8,8,8,8,8,8,8,8,8,8,8,8,8,8,8,8,8,8,8,8,8,8,8,8,8,8,8,8,8,8,8,8,8,8,8,8,8,8,8,8,8,8,8,8,8,8])=256:=by decide+kernel
set_option maxRecDepth 100000 in
theorem Se{x c:Int}(h0:0≤x)(h1:x<65536)(hc:0≤c)(zz:c≤100):mY.j7 N x c=some (c+bitLen x.toNat):=by
 unfold mY.j7 mY.Qc
 have h8:shr .u64 x 8=x/256:=by rw[vm ω ω];rfl
 have hle: ∀n,n<256→bitLen n≤8:=λn hn=>by
  rw[←Dj]
  have:Nat.log2 (2*n+1)<9:=(Nat.log2_lt ω).2 ω
  omega
 by_cases h:256≤x
 ·have ht:=Nv (x/256).toNat ω
  have hl:=hle (x/256).toNat ω
  rw[dC h,aj,aK (show(0:Int)≤8 by omega),au,h8]
  rw[am3 (x:=x/256) ω ω]
  extract_lets v8
  rw[Nw,aY ω ω,aj,ht]
  clear ht
  simp (disch:=omega) only[aP,aK,dC,dn,cZ,da,aY,ch,cC,db,ay,cz,aj,au,bR,cJ,aw,aF,cT,ag,aX,aJ,bs,bP,aU,bY]
  have:=bitLen_shift 8 x.toNat ω
  rw[this]
  have e:(x/256).toNat=x.toNat/2^8:=ω
  rw[e];congr 1;omega
 ·have ht:=Nv x.toNat ω
  have hl:=hle x.toNat ω
  rw[dn ω,au,am3 (x:=x) ω ω]
  extract_lets v8
  rw[Nw,aY ω ω,aj,ht]
  clear ht
  simp (disch:=omega) only[aP,aK,dC,dn,cZ,da,aY,ch,cC,db,ay,cz,aj,au,bR,cJ,aw,aF,cT,ag,aX,aJ,bs,bP,aU,bY]
theorem WU{x:Int}(h0:0≤x)(h1:x<18446744073709551616):mY N x=some (bitLen x.toNat:Int):=by
 have h16: ∀y c:Int,0≤y→y<4294967296→0≤c→c≤50→mY.j4 N y c=some (c+bitLen y.toNat):=λy c hy0 hy1 hc zz=>by
  unfold mY.j4 mY.j4b
  by_cases h:65536≤y
  ·have e:shr .u64 y 16=y/65536:=by rw[vm ω ω];rfl
   rw[dC h,aj,aK ω,au,e,ay ω ω,Se N ω ω ω ω]
   have:=bitLen_shift 16 y.toNat ω
   rw[this]
   have e:(y/65536).toNat=y.toNat/2^16:=ω
   rw[e];congr 1;omega
  ·rw[dn ω,au,Se N hy0 ω hc ω]
 unfold mY mY.b
 by_cases h:4294967296≤x
 ·rw[dC h,aj,aK ω,au,Gn,h16 _ _ ω ω ω ω]
  have:=bitLen_shift 32 x.toNat ω
  rw[this]
  have e:(x/4294967296).toNat=x.toNat/2^32:=ω
  rw[e];congr 1;omega
 ·rw[dn ω,au,h16 _ _ h0 ω ω ω]
  congr 1;omega
end VM
end
section
namespace VM
open Go VM.F
variable(N:Nat)
structure pj(Y yn1 yn0 un32 un1 q rh:Int):Prop where
 hY:Y=yn1*4294967296+yn0
 y1:2147483648≤yn1
 y1':yn1<4294967296
 y0:0≤yn0
 y0':yn0<4294967296
 u1:0≤un1
 u1':un1<4294967296
 lt:un32<Y
 q0:0≤q
 eq:q*yn1+rh=un32
 r0:0≤rh
 q1:q≤4294967297
 ge:(un32*4294967296+un1)/Y≤q
theorem pj.prod{Y yn1 yn0 un32 un1 q rh:Int}(g:pj Y yn1 yn0 un32 un1 q rh):q*Y=(un32-rh)*4294967296+q*yn0∧0≤q*yn0∧q*yn0≤18446744073709551615:=by
 have h:=mul_lt (m:=4294967297) (n:=4294967295) g.q0 g.y0 g.q1 (by have:=g.y0';omega)
 refine⟨?_,h.1,ω⟩
 rw[g.hY,jz,←gj,show q*yn1=un32-rh from by have:=g.eq;omega]
theorem pj.pos{Y yn1 yn0 un32 un1 q rh:Int}(g:pj Y yn1 yn0 un32 un1 q rh):0<Y:=by have:=g.hY;have:=g.y1;have:=g.y0;omega
theorem pj.digit{Y yn1 yn0 un32 un1 q rh:Int}(g:pj Y yn1 yn0 un32 un1 q rh)(h:0≤un32):0≤(un32*4294967296+un1)/Y∧(un32*4294967296+un1)/Y<4294967296:=by
 have hp:=g.pos
 have:=g.u1;have:=g.u1';have:=g.lt
 refine⟨kR ω ω,?_⟩
 rw[tL hp];omega
theorem pj.done{Y yn1 yn0 un32 un1 q rh:Int}(g:pj Y yn1 yn0 un32 un1 q rh)(h:q*yn0≤4294967296*rh+un1):q=(un32*4294967296+un1)/Y:=by
 have hp:=g.pos
 have h1:=g.prod.1
 have h2:q≤(un32*4294967296+un1)/Y:=by
  rw[Int.le_ediv_iff_mul_le hp];omega
 have:=g.ge
 omega
theorem pj.next{Y yn1 yn0 un32 un1 q rh:Int}(g:pj Y yn1 yn0 un32 un1 q rh)(hu:0≤un32)(h:4294967296≤q∨4294967296*rh+un1<q*yn0):pj Y yn1 yn0 un32 un1 (q-1) (rh+yn1)∧1≤q:=by
 have hp:=g.pos
 have h1:=g.prod.1
 have hd:=g.digit hu
 have dU:(un32*4294967296+un1)/Y<q:=by
  rcases h with h|h
  ·omega
  ·rw[tL hp];omega
 have:=g.q1;have:=g.r0;have:=g.y1
 exact⟨⟨g.hY,g.y1,g.y1',g.y0,g.y0',g.u1,g.u1',g.lt,ω,by rw[Int.sub_mul,pa];have:=g.eq;omega,ω,ω,ω⟩,ω⟩
theorem Sf(N:Nat){Y s yn1 yn0 un32 un1 un0:Int}(hu:0≤un32)(EH:un32<18446744073709551616): ∀(m n:Nat) (q rh:Int),pj Y yn1 yn0 un32 un1 q rh→rh<4294967296→4294967296-rh≤2147483648*m→m<n→
  dX.Nx N n Y s yn1 yn0 un32 un1 un0 q rh=dX.j21 N Y s yn1 yn0 un32 un1 un0 ((un32*4294967296+un1)/Y)
 |m,0,q,rh,_,_,_,hn=>ω
 |m,n+1,q,rh,g,hr,hm,hn=>by
  unfold dX.Nx dX.Ny
  have Tz:=g.prod
  have hd:=g.digit hu
  obtain⟨hY,y1,y1',y0,y0',u1,u1',lt,q0,eq,r0,q1,ge⟩:=id g
  have go:(4294967296≤q∨4294967296*rh+un1<q*yn0)→
    (cond (cY (4294967296:Int) (W .u64 (rh+yn1))) (dX.j21 N Y s yn1 yn0 un32 un1 un0 (W .u64 (q-1))) (dX.Nx N n Y s yn1 yn0 un32 un1 un0 (W .u64 (q-1)) (W .u64 (rh+yn1))))=dX.j21 N Y s yn1 yn0 un32 un1 un0 ((un32*4294967296+un1)/Y):=λh=>by
   obtain⟨g',hq⟩:=g.next hu h
   rw[cz (x:=rh+yn1) ω ω,cz (x:=q-1) ω ω]
   by_cases hb:4294967296≤rh+yn1
   ·rw[dC hb,aj]
    have H4:=g'.prod
    rw[g'.done ω]
   ·rw[dn ω,au]
    exact Sf N hu EH (m-1) n (q-1) (rh+yn1) g' ω ω ω
  by_cases h1:4294967296≤q
  ·rw[dC h1,aj]
   exact go (.inl h1)
  ·rw[dn ω,au,cz (x:=4294967296*rh) ω ω,cz (x:=4294967296*rh+un1) ω ω,cz (x:=q*yn0) ω ω]
   by_cases h2:4294967296*rh+un1<q*yn0
   ·rw[aP h2,aj]
    exact go (.inr h2)
   ·rw[aK ω,au,g.done ω]
theorem Sg(N:Nat){Y s yn1 yn0 un32 un1 a b:Int}(hu:0≤un32)(EH:un32<18446744073709551616): ∀(m n:Nat) (q rh:Int),pj Y yn1 yn0 un32 un1 q rh→rh<4294967296→4294967296-rh≤2147483648*m→m<n→
  dX.xX N n Y s yn1 yn0 un1 a rh un32 q=dX.j28 N Y s un1 a un32 ((un32*4294967296+un1)/Y)
 |m,0,q,rh,_,_,_,hn=>ω
 |m,n+1,q,rh,g,hr,hm,hn=>by
  unfold dX.xX dX.yE
  have Tz:=g.prod
  have hd:=g.digit hu
  obtain⟨hY,y1,y1',y0,y0',u1,u1',lt,q0,eq,r0,q1,ge⟩:=id g
  have go:(4294967296≤q∨4294967296*rh+un1<q*yn0)→
    (cond (cY (4294967296:Int) (W .u64 (rh+yn1))) (dX.j28 N Y s un1 a un32 (W .u64 (q-1))) (dX.xX N n Y s yn1 yn0 un1 a (W .u64 (rh+yn1)) un32 (W .u64 (q-1))))=dX.j28 N Y s un1 a un32 ((un32*4294967296+un1)/Y):=λh=>by
   obtain⟨g',hq⟩:=g.next hu h
   rw[cz (x:=rh+yn1) ω ω,cz (x:=q-1) ω ω]
   by_cases hb:4294967296≤rh+yn1
   ·rw[dC hb,aj]
    have H4:=g'.prod
    rw[g'.done ω]
   ·rw[dn ω,au]
    exact Sg N (b:=b) hu EH (m-1) n (q-1) (rh+yn1) g' ω ω ω
  by_cases h1:4294967296≤q
  ·rw[dC h1,aj]
   exact go (.inl h1)
  ·rw[dn ω,au,cz (x:=4294967296*rh) ω ω,cz (x:=4294967296*rh+un1) ω ω,cz (x:=q*yn0) ω ω]
   by_cases h2:4294967296*rh+un1<q*yn0
   ·rw[aP h2,aj]
    exact go (.inr h2)
   ·rw[aK ω,au,g.done ω]
theorem pj.first{Y yn1 yn0 un32 un1:Int}(hY:Y=yn1*4294967296+yn0)(y1:2147483648≤yn1)(y1':yn1<4294967296)(y0:0≤yn0)(y0':yn0<4294967296)(u1:0≤un1)(u1':un1<4294967296)(hu:0≤un32)(lt:un32<Y):
  pj Y yn1 yn0 un32 un1 (un32/yn1) (un32-un32/yn1*yn1)∧un32-un32/yn1*yn1<4294967296∧0≤un32/yn1*yn1∧un32/yn1*yn1≤un32:=by
 have h1:=sP un32 yn1
 have h2:=oL un32 (show 0<yn1 by omega)
 have h3:=o4 un32 (show yn1≠0 by omega)
 have uQ:0≤un32/yn1:=kR hu ω
 rw[dZ]at h1
 have hq1:un32/yn1≤4294967297:=by
  have:un32/yn1<4294967298:=by rw[tL ω];omega
  omega
 have Vp:(un32*4294967296+un1)/Y≤un32/yn1:=by
  have dU:un32*4294967296+un1<(un32/yn1+1)*Y:=by
   have e:un32+1≤(un32/yn1+1)*yn1:=by rw[iN,pa];omega
   have e2:(un32/yn1+1)*Y=(un32/yn1+1)*yn1*4294967296+(un32/yn1+1)*yn0:=by rw[hY,jz,gj]
   have e3:0≤(un32/yn1+1)*yn0:=o5 ω y0
   omega
  have:(un32*4294967296+un1)/Y<un32/yn1+1:=by rw[tL ω];exact dU
  omega
 exact⟨⟨hY,y1,y1',y0,y0',u1,u1',lt,uQ,ω,ω,hq1,Vp⟩,ω,o5 uQ ω,ω⟩
theorem WV{a b:Int}{k:Nat}(ha:0≤a)(ha1:a<2^k)(hb:0≤b)(h:b*2^k<18446744073709551616)(hk:k<64):mX .or .u64 (b*2^k) a=b*2^k+a:=by
 have hp:(0:Int)<2^k:=Int.pow_pos δ
 have LS:((2^k:Nat):Int)=2^k:=by rw[Int.natCast_pow];rfl
 have az6:(2:Int)^k≤2^63:=by
  rw[←LS,show(2:Int)^63=((2^63:Nat):Int)from by decide]
  exact_mod_cast Fj δ ω
 have axr:(2:Int)^63=9223372036854775808:=δ
 have qO:=o5 hb (o9 hp)
 rw[KL qO h ha ω]
 have h1:=E7 (i:=k) (b:=a.toNat) (by
  have:((a.toNat:Nat):Int)<((2^k:Nat):Int):=by rw[LS,nf ha];exact ha1
  exact_mod_cast this) b.toNat
 have e:(b*2^k).toNat=2^k*b.toNat:=by
  have:((2^k*b.toNat:Nat):Int)=b*2^k:=by rw[z8,LS,nf hb,dZ]
  omega
 rw[e,←h1,wK,z8,LS,nf hb,nf ha,dZ]
theorem Nz(hN:100≤N){hi lo y:Int}(h0:0≤hi)(h1:hi<y)(l0:0≤lo)(l1:lo<18446744073709551616)(y1:y<18446744073709551616):
  dX N hi lo y=some ((hi*18446744073709551616+lo)/y,(hi*18446744073709551616+lo)%y):=by
 unfold dX dX.b
 rw[da (show y≠0 by omega),au,dn ω,au]
 by_cases hz:hi=0
 ·subst hz
  rw[cZ rfl,aj,au,au,Kg,VC,E8 l0,Int.tmod_eq_emod_of_nonneg l0]
  have e1:0≤lo/y:=kR l0 ω
  have e2:lo/y≤lo:=Int.ediv_le_self _ l0
  rw[cz ω ω]
  simp
 ·rw[da hz,au]
  obtain⟨b1,b2⟩:=bitLen_spec y.toNat
  have b2:=b2 ω
  obtain⟨L,hL⟩: ∃L,L=bitLen y.toNat:=⟨_,rfl⟩
  rw[←hL]at b1 b2
  have hL1:1≤L:=by rw[hL,rJ ω];omega
  have az7:L≤64:=by
   rcases lJ 64 L with h|h
   ·have h3:2^64≤2^(L-1):=Fj δ ω
    have:(2:Nat)^64=18446744073709551616:=δ
    omega
   ·exact h
  have hl:aad N y=some (64-(L:Int)):=by
   unfold aad
   rw[WU N ω y1,aw,←hL,ay ω ω]
  obtain⟨s,hs⟩: ∃s:Nat,s=64-L:=⟨_,rfl⟩
  have hsI:64-(L:Int)=(s:Int):=ω
  rw[hl,aw,hsI]
  clear hl
  have LS: ∀k:Nat,((2^k:Nat):Int)=2^k:=λk=>by rw[Int.natCast_pow];rfl
  obtain⟨p,hp⟩: ∃p:Int,p=2^s:=⟨_,rfl⟩
  obtain⟨p',H4⟩: ∃p':Int,p'=2^(64-s):=⟨_,rfl⟩
  have EF:p'*p=18446744073709551616:=by
   rw[hp,H4,←Int.pow_add,show 64-s+s=64 from by omega];decide
  have It:0<p:=by rw[hp];exact Int.pow_pos δ
  have az9:0<p':=by rw[H4];exact Int.pow_pos δ
  have hy1:y*p<18446744073709551616:=by
   have h:y.toNat*2^s<2^L*2^s:=Nat.mul_lt_mul_of_pos_right b1 (Nat.pow_pos δ)
   rw[←Nat.pow_add,show L+s=64 from by omega,show(2:Nat)^64=18446744073709551616 from by decide]at h
   have:((y.toNat*2^s:Nat):Int)=y*p:=by rw[z8,LS,←hp,nf ω]
   omega
  have T6:9223372036854775808≤y*p:=by
   have h:2^(L-1)*2^s≤y.toNat*2^s:=jh _ b2
   rw[←Nat.pow_add,show L-1+s=63 from by omega,show(2:Nat)^63=9223372036854775808 from by decide]at h
   have:((y.toNat*2^s:Nat):Int)=y*p:=by rw[z8,LS,←hp,nf ω]
   omega
  have asH: ∀x:Int,shl .u64 x (s:Int)=x*p:=λx=>by rw[Sd ω ω,hp];rfl
  have asI:shr .u64 lo (64-(s:Int))=lo*p/18446744073709551616:=by
   rw[vm ω ω,show(64-(s:Int)).toNat=64-s from by omega,←H4,←EF,Int.mul_ediv_mul_of_pos_left _ _ It]
  have hhp:hi*p+p≤y*p:=by
   have:=qf (show hi+1≤y by omega) (o9 It)
   rw[iN,pa]at this;exact this
  have aAb:0≤hi*p:=o5 h0 (o9 It)
  have asJ:0≤lo*p:=o5 l0 (o9 It)
  have asK:lo*p<18446744073709551616*p:=Int.mul_lt_mul_of_pos_right l1 It
  have rA:lo*p/18446744073709551616<p:=by rw[tL ω,dZ p];exact asK
  have ht0:0≤lo*p/18446744073709551616:=kR asJ ω
  have hor:mX .or .u64 (hi*p) (lo*p/18446744073709551616)=hi*p+lo*p/18446744073709551616:=by
   have:=WV (k:=s) (a:=lo*p/18446744073709551616) (b:=hi) ht0 (by rw[←hp];exact rA) h0 (by rw[←hp];omega) ω
   rw[←hp]at this;exact this
  obtain⟨Y,hY⟩: ∃Y,Y=y*p:=⟨_,rfl⟩
  have hU:(hi*18446744073709551616+lo)*p=(hi*p+lo*p/18446744073709551616)*18446744073709551616+lo*p%18446744073709551616:=by
   rw[iN,gj,dZ 18446744073709551616 p,←gj];omega
  have hws:W .u64 (s:Int)=(s:Int):=cz ω ω
  have asL:W .u64 (64-(s:Int))=64-(s:Int):=cz ω ω
  have hwl:W .u64 (lo*p)=lo*p%18446744073709551616:=nA _
  simp only[hws,asL,asH,asI,hwl]
  rw[←hY]at hy1 T6 hhp ⊢
  have hwy:W .u64 Y=Y:=cz ω ω
  have hwh:W .u64 (hi*p)=hi*p:=cz ω ω
  simp only[hwy,hwh,hor]
  obtain⟨u,hu⟩: ∃u,u=hi*p+lo*p/18446744073709551616:=⟨_,rfl⟩
  obtain⟨v,hv⟩: ∃v,v=lo*p%18446744073709551616:=⟨_,rfl⟩
  rw[←hu,←hv]at hU ⊢
  have hv0:0≤v:=ω
  have MJ:v<18446744073709551616:=ω
  have hu0:0≤u:=ω
  have Qp:u<Y:=ω
  have hmy:mX .and .u64 Y 4294967295=Y%4294967296:=kB ω ω
  have hmv:mX .and .u64 v 4294967295=v%4294967296:=kB hv0 MJ
  obtain⟨g1,g2,g3,g4⟩:=pj.first (Y:=Y) (yn1:=Y/4294967296) (yn0:=Y%4294967296) (un32:=u) (un1:=v/4294967296) ω ω ω ω ω ω ω hu0 Qp
  have hq:quo u (Y/4294967296)=u/(Y/4294967296):=by rw[Kg,E8 hu0]
  have hwq:W .u64 (u/(Y/4294967296))=u/(Y/4294967296):=cz g1.q0 (by have:=g1.q1;omega)
  have hwm:W .u64 (u/(Y/4294967296)*(Y/4294967296))=u/(Y/4294967296)*(Y/4294967296):=cz g3 ω
  have hwr:W .u64 (u-u/(Y/4294967296)*(Y/4294967296))=u-u/(Y/4294967296)*(Y/4294967296):=cz ω ω
  rw[aK (show(0:Int)≤s by omega),aK (show(0:Int)≤32 by omega),aK (show(0:Int)≤64-(s:Int)by omega),Gn,Gn,hmy,hmv,da (show Y/4294967296≠0 by omega),hq,hwq,hwm,hwr]
  simp only[au]
  rw[Sf N hu0 ω 3 N _ _ g1 g2 ω ω]
  have d1:=g1.digit hu0
  clear hq hwq hwm hwr g1 g2 g3 g4
  obtain⟨q1,hq1⟩: ∃q1,q1=(u*4294967296+v/4294967296)/Y:=⟨_,rfl⟩
  have m1:=sP (u*4294967296+v/4294967296) Y
  have m2:=oL (u*4294967296+v/4294967296) (show 0<Y by omega)
  have m3:=o4 (u*4294967296+v/4294967296) (show Y≠0 by omega)
  rw[←hq1]at d1 m1 ⊢
  obtain⟨r1,xe⟩: ∃r1,r1=(u*4294967296+v/4294967296)%Y:=⟨_,rfl⟩
  rw[←xe]at m1 m2 m3
  rw[dZ]at m1
  unfold dX.j21 dX.ahL
  have asM:W .u64 (W .u64 (W .u64 (u*4294967296)+v/4294967296)-W .u64 (q1*Y))=r1:=by
   simp only[nA]
   generalize q1*Y=z at*
   omega
  simp only[asM]
  obtain⟨g1,g2,g3,g4⟩:=pj.first (Y:=Y) (yn1:=Y/4294967296) (yn0:=Y%4294967296) (un32:=r1) (un1:=v%4294967296) ω ω ω ω ω ω ω m3 m2
  have hq:quo r1 (Y/4294967296)=r1/(Y/4294967296):=by rw[Kg,E8 m3]
  have hwq:W .u64 (r1/(Y/4294967296))=r1/(Y/4294967296):=cz g1.q0 (by have:=g1.q1;omega)
  have hwm:W .u64 (r1/(Y/4294967296)*(Y/4294967296))=r1/(Y/4294967296)*(Y/4294967296):=cz g3 ω
  have hwr:W .u64 (r1-r1/(Y/4294967296)*(Y/4294967296))=r1-r1/(Y/4294967296)*(Y/4294967296):=cz ω ω
  rw[da (show Y/4294967296≠0 by omega),hq,hwq,hwm,hwr,au,Sg N (b:=0) m3 ω 3 N _ _ g1 g2 ω ω]
  have d0:=g1.digit m3
  clear hq hwq hwm hwr g1 g2 g3 g4
  obtain⟨q0,uQ⟩: ∃q0,q0=(r1*4294967296+v%4294967296)/Y:=⟨_,rfl⟩
  have n1:=sP (r1*4294967296+v%4294967296) Y
  have n2:=oL (r1*4294967296+v%4294967296) (show 0<Y by omega)
  have n3:=o4 (r1*4294967296+v%4294967296) (show Y≠0 by omega)
  rw[←uQ]at d0 n1 ⊢
  obtain⟨r0,MO⟩: ∃r0,r0=(r1*4294967296+v%4294967296)%Y:=⟨_,rfl⟩
  rw[←MO]at n1 n2 n3
  rw[dZ]at n1
  unfold dX.j28 dX.ahM
  have asN:W .u64 (W .u64 (W .u64 (r1*4294967296)+v%4294967296)-W .u64 (q0*Y))=r0:=by
   simp only[nA]
   generalize q0*Y=z at*
   omega
  rw[aK (show(0:Int)≤s by omega),au,asN,cz (x:=q1*4294967296) ω ω,cz (x:=q1*4294967296+q0) ω ω,vm ω ω,aF,←hp]
  obtain⟨V,hV⟩: ∃V,V=hi*18446744073709551616+lo:=⟨_,rfl⟩
  obtain⟨Q,hQ⟩: ∃Q,Q=q1*4294967296+q0:=⟨_,rfl⟩
  rw[←hV]at hU ⊢
  rw[←hQ]
  have hQY:Q*Y=q1*Y*4294967296+q0*Y:=by rw[hQ,iN,gj,dZ 4294967296 Y,←gj]
  have aAh:V*p=Q*Y+r0:=by rw[hU,hQY];generalize q1*Y=z1 at*;generalize q0*Y=z0 at*;omega
  have anb:r0=(V-Q*y)*p:=by rw[Int.sub_mul,gj,←hY];omega
  have hd0:0≤V-Q*y:=by
   by_cases h:V-Q*y<0
   ·have:=Int.mul_neg_of_neg_of_pos h It;omega
   ·omega
  have hd1:V-Q*y<y:=by
   by_cases h:V-Q*y<y
   ·exact h
   ·have:=qf (show y≤V-Q*y by omega) (o9 It);rw[←anb,←hY]at this;omega
  have hVe:V=(V-Q*y)+y*Q:=by rw[dZ y Q];omega
  have e1:V/y=Q:=by
   rw[hVe,wD _ _ ω,zO hd0 hd1];omega
  have e2:V%y=V-Q*y:=by
   have:=sP V y
   rw[e1,dZ]at this;omega
  rw[e1,e2,anb,Int.mul_ediv_cancel _ ω]
def cR:List Int→Int
 |[]=>0
 |d::r=>d+4294967296*cR r
def VD(l:List Int):Prop:= ∀d∈l,0≤d∧d<4294967296
def lP(n:Nat):List Int:=if n=0 then []else((n%4294967296:Nat):Int)::lP (n/4294967296)
termination_by n
decreasing_by omega
theorem kC:lP 0=[]:=by rw[lP];rfl
theorem xY{n:Nat}(h:n≠0):lP n=((n%4294967296:Nat):Int)::lP (n/4294967296):=by rw[lP];simp[h]
theorem VD.nil:VD []:=λd h=>by cases h
theorem VD.cons{d:Int}{l:List Int}(h0:0≤d)(h1:d<4294967296)(h:VD l):VD (d::l):=λx hx=>by
 rcases bm.1 hx with rfl|hx
 ·exact⟨h0,h1⟩
 ·exact h x hx
theorem VD.tail{d:Int}{l:List Int}(h:VD (d::l)):VD l:=λx hx=>h x (a6 _ hx)
theorem VD.append{a b:List Int}(h:VD a)(k:VD b):VD (a++b):=λx hx=>(bf.1 hx).elim (h x) (k x)
theorem VD.drop{l:List Int}(h:VD l)(n:Nat):VD (l.drop n):=λx hx=>h x (lZ hx)
theorem VD.take{l:List Int}(h:VD l)(n:Nat):VD (l.take n):=λx hx=>h x (iH hx)
theorem VD.getD{l:List Int}(h:VD l)(n:Nat):0≤l.getD n 0∧l.getD n 0<4294967296:=by
 rw[aZ]
 cases hn:l[n]? with
 |none=>exact⟨ec _,δ⟩
 |some x=>exact h x (List.mem_of_getElem? hn)
theorem VD.set{l:List Int}(h:VD l)(n:Nat){x:Int}(h0:0≤x)(h1:x<4294967296):VD (l.set n x):=λy hy=>by
 rcases tK hy with hy|rfl
 ·exact h y hy
 ·exact⟨h0,h1⟩
theorem VD.afS(n:Nat):VD (List.replicate n 0):=λx hx=>by rw[wz hx];exact⟨ec _,δ⟩
theorem kD: ∀{l:List Int},VD l→0≤cR l
 |[],_=>ec _
 |d::r,h=>by
  have:=kD h.tail
  have:=(h d (bu ..)).1
  simp only[cR];omega
theorem g7(n:Nat):cR (lP n)=n:=by
 induction n using Nat.strongRecOn with
 |_ n ih=>
  by_cases h:n=0
  ·subst h;rw[kC];rfl
  ·rw[xY h,cR,ih _ ω];omega
theorem kE(n:Nat):VD (lP n):=by
 induction n using Nat.strongRecOn with
 |_ n ih=>
  by_cases h:n=0
  ·subst h;rw[kC];exact VD.nil
  ·rw[xY h];exact VD.cons ω ω (ih _ ω)
theorem AY{n:Nat}:lP n=[]↔n=0:=by
 constructor
 ·intro h
  by_cases hn:n=0
  ·exact hn
  ·rw[xY hn]at h;cases h
 ·rintro rfl;exact kC
theorem xZ(k:Nat): ∀n,n<4294967296^k→(lP n).length≤k:=by
 induction k with
 |zero=>
  intro n h;have:n=0:=by simpa using h
  subst this;rw[kC];simp
 |succ k ih=>
  intro n h
  by_cases hn:n=0
  ·subst hn;rw[kC];simp
  ·rw[xY hn,aU]
   have:=ih (n/4294967296) (by rw[Mo ω];rw[o8]at h;exact h)
   omega
theorem KN(k:Nat): ∀n,(lP n).length≤k→n<4294967296^k:=by
 induction k with
 |zero=>
  intro n h
  have:lP n=[]:=qg ω
  rw[AY]at this;subst this;decide
 |succ k ih=>
  intro n h
  by_cases hn:n=0
  ·subst hn;exact Nat.pow_pos δ
  ·rw[xY hn,aU]at h
   have:=ih (n/4294967296) ω
   rw[Mo ω]at this
   rw[o8];exact this
def strip:List Int→List Int
 |[]=>[]
 |d::r=>if strip r=[]∧d=0 then []else d::strip r
theorem NA: ∀{l:List Int},VD l→strip l=lP (cR l).toNat
 |[],_=>by rw[show(cR []).toNat=0 from rfl,kC];rfl
 |d::r,h=>by
  have ih:=NA h.tail
  have h0:=kD h.tail
  obtain⟨h1,h2⟩:=h d (bu ..)
  simp only[strip,cR,ih,AY]
  split
  ·rename_i hc
   obtain⟨hc,rfl⟩:=hc
   have:cR r=0:=ω
   rw[this];exact kC.symm
  ·rename_i hc
   have ij:(d+4294967296*cR r).toNat≠0:=λhe=>hc ⟨ω,ω⟩
   rw[xY ij]
   congr 1
   ·omega
   ·congr 1;omega
theorem Gp: ∀(l:List Int) (x:Int),strip (l++[x])=if x=0 then strip l else l++[x]
 |[],x=>by simp[strip]
 |d::r,x=>by
  simp only[mh,strip,Gp r x]
  split
  ·rfl
  ·simp
theorem fW(l:List Int){k:Nat}(h:k<l.length):l.take (k+1)=l.take k++[l.getD k 0]:=by
 rw[List.take_succ_eq_append_getElem h,aZ,bo h];rfl
theorem Jp(N:Nat)(l:List Int)(hl:l.length<68719476736): ∀(k n:Nat),k≤l.length→k<n→om.l2 N n l (k:Int)=some (strip (l.take k))
 |0,n+1,_,_=>by
  unfold om.l2 om.gm
  simp (disch:=omega) only[aP,aK,dC,dn,cZ,da,aY,ch,cC,db,ay,cz,aj,au,bR,cJ,aw,aF,cT,ag,aX,aJ,bs,bP,aU,bY]
  simp[strip]
 |k+1,n+1,hk,hn=>by
  unfold om.l2 om.gm
  have e:((k+1:Nat):Int)-1=(k:Int):=ω
  simp (disch:=omega) only[aP,aK,dC,dn,cZ,da,aY,ch,cC,db,ay,cz,aj,au,bR,cJ,aw,aF,cT,ag,aX,aJ,bs,bP,aU,bY,e]
  have ih:=Jp N l hl k n ω ω
  rw[fW l ω,Gp]
  by_cases h:l.getD k 0=0
  ·rw[cZ h,aj,ih,ak h]
  ·rw[da h,au,ah h]
   simp only[cT,c9]
theorem KO{l:List Int}(h:VD l)(hN:l.length<N)(hl:l.length<68719476736):om N l=some (lP (cR l).toNat):=by
 unfold om om.b
 rw[Jp N l hl l.length N (aI _) hN,fD,NA h]
def c5(v:Int):aH:=(decide (v<0),(lP v.natAbs,()))
theorem sZ(neg:Bool){l:List Int}(h:VD l)(hN:l.length<N)(hl:l.length<68719476736):WW N neg l=some (c5 (if neg then-cR l else cR l)):=by
 unfold WW
 rw[KO N h hN hl,aw]
 have h0:=kD h
 cases neg
 ·simp only[au,c5,gW,eo]
  rw[bK ω]
  congr 4;omega
 ·simp only[aj,c5,gA]
  have e:(-cR l).natAbs=(cR l).toNat:=ω
  rw[e]
  congr 2
  by_cases hz:cR l=0
  ·rw[hz,cT,kC,aK (by simp),bK ω]
  ·have:0<(lP (cR l).toNat).length:=by
    apply oK.2
    intro hd;rw[AY]at hd;omega
   rw[aP ω,bq ω]
theorem size_eq(hN:1000≤N){u:Int}(h0:0≤u)(h1:u<18446744073709551616):F55 N u=some (lP u.toNat):=by
 unfold F55
 rw[kB h0 h1,Gn]
 have hv:VD [u%4294967296,u/4294967296]:=VD.cons ω ω (VD.cons ω ω VD.nil)
 simp (disch:=omega) only[aP,aK,dC,dn,cZ,da,aY,ch,cC,db,ay,cz,aj,au,bR,cJ,aw,aF,cT,ag,aX,aJ,bs,bP,aU,bY,KO N hv (by simp;omega) (by simp)]
 congr 2
 simp only[cR];omega
theorem dp(hN:1000≤N){x:Int}(h0: -9223372036854775808≤x)(h1:x<9223372036854775808):kF N x=some (c5 x):=by
 unfold kF
 have hd: ∀n:Nat,n<18446744073709551616→(lP n).length≤2:=λn h=>xZ 2 n (by simpa using h)
 by_cases h:x<0
 ·have e:W .u64 (0-W .u64 x)= -x:=by rw[nA,nA];omega
  simp only[aP h,aj,e,size_eq N hN (show 0≤ -x by omega) ω,aw]
  have:=hd (-x).toNat ω
  rw[sZ N true (kE _) ω ω,g7,ak rfl,show-(((-x).toNat:Nat):Int)=x from by omega];rfl
 ·have e:W .u64 x=x:=cz ω ω
  simp only[aK (show 0≤x by omega),au,e,size_eq N hN (show 0≤x by omega) ω,aw]
  have:=hd x.toNat ω
  rw[sZ N false (kE _) ω ω,g7,ah qY,nf ω];rfl
theorem xl(l:List Int)(i:Nat):F56 N l (i:Int)=some (l.getD i 0):=by
 unfold F56
 by_cases h:i<l.length
 ·simp (disch:=omega) only[aP,aK,dC,dn,cZ,da,aY,ch,cC,db,ay,cz,aj,au,bR,cJ,aw,aF,cT,ag,aX,aJ,bs,bP,aU,bY]
 ·simp (disch:=omega) only[aP,aK,dC,dn,cZ,da,aY,ch,cC,db,ay,cz,aj,au,bR,cJ,aw,aF,cT,ag,aX,aJ,bs,bP,aU,bY]
  rw[aZ,gV ω];rfl
theorem kW(l:List Int)(i:Nat):cR (l.drop i)=l.getD i 0+4294967296*cR (l.drop (i+1)):=by
 by_cases h:i<l.length
 ·rw[nc h,cR,aZ,bo h];rfl
 ·rw[jN ω,jN ω,aZ,gV ω];rfl
theorem NB(N:Nat){a b:List Int}(ha:VD a)(hb:VD b)(zg:a.length≤1000000)(Qa:b.length≤1000000): ∀(m n i:Nat) (out:List Int) (c:Int),a.length+b.length+2-i≤m→m<n→out.length=i→i≤a.length+b.length+1→0≤c→c≤1→(a.length≤i→b.length≤i→i=max a.length b.length∨c=0)→
  ∃r,vW.l4 N n a b out c (i:Int)=some (out++r)∧VD r∧cR r=cR (a.drop i)+cR (b.drop i)+c∧r.length≤m
 |m,0,i,out,c,_,hn,_,_,_,_,_=>ω
 |m,n+1,i,out,c,hm,hn,ho,hi,P5,zz,hz=>by
  unfold vW.l4 vW.ew
  by_cases NC:a.length≤i∧b.length≤i∧c=0
  ·obtain⟨h1,h2,rfl⟩:=NC
   simp (disch:=omega) only[aP,aK,dC,dn,cZ,da,aY,ch,cC,db,ay,cz,aj,au,bR,cJ,aw,aF,cT,ag,aX,aJ,bs,bP,aU,bY]
   exact⟨[],by simp,VD.nil,by rw[jN h1,jN h2];rfl,bA _⟩
  ·obtain⟨ga0,ga1⟩:=ha.getD i
   obtain⟨gb0,gb1⟩:=hb.getD i
   have step: ∃r,vW.j6 N (vW.l4 N n) a b out c (i:Int)=some (out++r)∧VD r∧cR r=cR (a.drop i)+cR (b.drop i)+c∧r.length≤m:=by
    unfold vW.j6 vW.T7
    have D1:i≤a.length+b.length:=by
     by_cases h1:a.length≤i∧b.length≤i
     ·rcases hz h1.1 h1.2 with h|h
      ·omega
      ·exact absurd ⟨h1.1,h1.2,h⟩ NC
     ·omega
    simp only[xl,aw]
    generalize hga:a.getD i 0=x at*
    generalize hgb:b.getD i 0=y at*
    rw[cz (x:=x+y) ω ω,cz (x:=c+(x+y)) ω ω,kB ω ω,Gn]
    simp (disch:=omega) only[aP,aK,dC,dn,cZ,da,aY,ch,cC,db,ay,cz,aj,au,bR,cJ,aw,aF,cT,ag,aX,aJ,bs,bP,aU,bY]
    obtain⟨r,hr,hv,hs,MB⟩:=NB N ha hb zg Qa (m-1) n (i+1) (out++[(c+(x+y))%4294967296]) ((c+(x+y))/4294967296) ω ω (by simp[ho]) ω ω ω (λh1 h2=>by
     by_cases h3:a.length≤i∧b.length≤i
     ·right
      rw[←hga,←hgb,aZ,gV h3.1,aZ,gV h3.2]
      simp only[Option.getD_none];omega
     ·left;omega)
    refine⟨(c+(x+y))%4294967296::r,by rw[hr];simp,VD.cons ω ω hv,?_,by rw[aU];omega⟩
    rw[cR,hs,kW a i,kW b i,hga,hgb];omega
   by_cases h1:i<a.length
   ·simp (disch:=omega) only[aP,aj];exact step
   ·by_cases h2:i<b.length
    ·simp (disch:=omega) only[aP,aK,aj,au];exact step
    ·have:0<c:=ω
     simp (disch:=omega) only[aP,aK,aj,au];exact step
theorem Sh: ∀{l:List Int},VD l→cR l<4294967296^l.length
 |[],_=>by simp[cR]
 |d::r,h=>by
  have ih:=Sh h.tail
  obtain⟨h1,h2⟩:=h d (bu ..)
  rw[cR,aU,Ad]
  generalize (4294967296:Int)^r.length=p at*
  omega
theorem ND(hN:4000000≤N){a b:List Int}(ha:VD a)(hb:VD b)(zg:a.length≤1000000)(Qa:b.length≤1000000): ∃r,vW N a b=some r∧VD r∧cR r=cR a+cR b∧r.length≤2000002:=by
 unfold vW vW.b
 obtain⟨r,hr,hv,hs,hl⟩:=NB N ha hb zg Qa (a.length+b.length+2) N 0 [] 0 ω ω rfl ω ω ω (λ_ _=> .inr rfl)
 exact⟨r,hr,hv,by simpa using hs,ω⟩
theorem Gq(N:Nat){a b:List Int}(ha:VD a)(hb:VD b)(zg:a.length≤1000000): ∀(m n i:Nat) (out:List Int) (c:Int),a.length-i≤m→m<n→out.length=i→i≤a.length→0≤c→c≤1→0≤cR (a.drop i)-cR (b.drop i)-c→
  ∃r,EO.l4 N n a b out c (i:Int)=some (out++r)∧VD r∧cR r=cR (a.drop i)-cR (b.drop i)-c∧r.length≤m
 |m,0,i,out,c,_,hn,_,_,_,_,_=>ω
 |m,n+1,i,out,c,hm,hn,ho,hi,P5,zz,hz=>by
  unfold EO.l4 EO.ew
  by_cases h1:i<a.length
  ·obtain⟨ga0,ga1⟩:=ha.getD i
   obtain⟨gb0,gb1⟩:=hb.getD i
   rw[kW a i,kW b i]at*
   simp only[xl,aw,aF]
   generalize hga:a.getD i 0=x at*
   generalize hgb:b.getD i 0=y at*
   rw[cz (x:=y+c) ω ω,cz (x:=x+4294967296) ω ω]
   by_cases dU:x<y+c
   ·rw[cz (x:=x+4294967296-(y+c)) ω ω]
    simp (disch:=omega) only[aP,aK,dC,dn,cZ,da,aY,ch,cC,db,ay,cz,aj,au,bR,cJ,aw,aF,cT,ag,aX,aJ,bs,bP,aU,bY,hga,hgb]
    obtain⟨r,hr,hv,hs,MB⟩:=Gq N ha hb zg (m-1) n (i+1) (out++[x+4294967296-(y+c)]) 1 ω ω (by simp[ho]) ω ω ω ω
    refine⟨(x+4294967296-(y+c))::r,by rw[hr];simp,VD.cons ω ω hv,by rw[cR,hs];omega,by rw[aU];omega⟩
   ·rw[cz (x:=x-(y+c)) ω ω]
    simp (disch:=omega) only[aP,aK,dC,dn,cZ,da,aY,ch,cC,db,ay,cz,aj,au,bR,cJ,aw,aF,cT,ag,aX,aJ,bs,bP,aU,bY,hga,hgb]
    obtain⟨r,hr,hv,hs,MB⟩:=Gq N ha hb zg (m-1) n (i+1) (out++[x-(y+c)]) 0 ω ω (by simp[ho]) ω ω ω ω
    refine⟨(x-(y+c))::r,by rw[hr];simp,VD.cons ω ω hv,by rw[cR,hs];omega,by rw[aU];omega⟩
  ·simp (disch:=omega) only[aP,aK,dC,dn,cZ,da,aY,ch,cC,db,ay,cz,aj,au,bR,cJ,aw,aF,cT,ag,aX,aJ,bs,bP,aU,bY]
   have h0:=kD (hb.drop i)
   rw[jN (l:=a) ω]at hz ⊢
   simp only[cR]at hz ⊢
   exact⟨[],by simp,VD.nil,by simp only[cR];omega,bA _⟩
theorem Dl(hN:4000000≤N){a b:List Int}(ha:VD a)(hb:VD b)(zg:a.length≤1000000)(h:cR b≤cR a): ∃r,EO N a b=some r∧VD r∧cR r=cR a-cR b∧r.length≤1000000:=by
 unfold EO EO.b
 obtain⟨r,hr,hv,hs,hl⟩:=Gq N ha hb zg a.length N 0 [] 0 ω ω rfl ω ω ω (by simp;omega)
 exact⟨r,hr,hv,by simpa using hs,ω⟩
theorem qR: ∀(l:List Int) (x:Int),cR (l++[x])=cR l+4294967296^l.length*x
 |[],x=>by simp[cR]
 |d::r,x=>by
  rw[mh,cR,qR r x,cR,aU,Ad,dZ _ 4294967296,gj,jz];omega
theorem NF{a b:List Int}(ha:VD a)(hb:VD b){k:Nat}(h1:k<a.length)(h2:k<b.length)(dU:a.getD k 0<b.getD k 0):cR (a.take (k+1))<cR (b.take (k+1)):=by
 rw[fW a h1,fW b h2,qR,qR]
 have l1:(a.take k).length=k:=by rw[bE];omega
 have l2:(b.take k).length=k:=by rw[bE];omega
 have v1:=Sh (ha.take k)
 have v2:=kD (hb.take k)
 rw[l1]at*
 rw[l2]
 generalize (4294967296:Int)^k=p at*
 have hp:0<p:=by have:=kD (ha.take k);omega
 have:=qi (show a.getD k 0+1≤b.getD k 0 by omega) (o9 hp)
 rw[jz,Ah]at this
 omega
def wk(x:Int):Int:=if x<0 then-1 else if 0<x then 1 else 0
theorem NG(N:Nat){a b:List Int}(ha:VD a)(hb:VD b)(hl:a.length=b.length)(zg:a.length≤1000000): ∀(k n:Nat),k≤a.length→k<n→Eb.l6 N n a b ((k:Int)-1)=some (wk (cR (a.take k)-cR (b.take k)))
 |k,0,_,hn=>ω
 |0,n+1,_,_=>by
  unfold Eb.l6 Eb.vX
  simp (disch:=omega) only[aP,aK,dC,dn,cZ,da,aY,ch,cC,db,ay,cz,aj,au,bR,cJ,aw,aF,cT,ag,aX,aJ,bs,bP,aU,bY]
  simp[wk,cR]
 |k+1,n+1,hk,hn=>by
  unfold Eb.l6 Eb.vX
  have e:((k+1:Nat):Int)-1=(k:Int):=ω
  rw[e]
  simp (disch:=omega) only[aP,aK,dC,dn,cZ,da,aY,ch,cC,db,ay,cz,aj,au,bR,cJ,aw,aF,cT,ag,aX,aJ,bs,bP,aU,bY]
  by_cases h1:a.getD k 0<b.getD k 0
  ·rw[aP h1,aj]
   have:=NF ha hb (k:=k) ω ω h1
   rw[wk,ak ω]
  ·rw[aK ω,au]
   by_cases h2:b.getD k 0<a.getD k 0
   ·rw[aP h2,aj]
    have:=NF hb ha (k:=k) ω ω h2
    rw[wk,ah ω,ak ω]
   ·rw[aK ω,au,NG N ha hb hl zg k n ω ω]
    congr 2
    rw[fW a ω,fW b ω,qR,qR,show a.getD k 0=b.getD k 0 from by omega,bE,bE,hl]
    omega
theorem NH(hN:4000000≤N)(m k:Nat)(hm:(lP m).length≤1000000)(hk:(lP k).length≤1000000):Eb N (lP m) (lP k)=some (wk ((m:Int)-k)):=by
 unfold Eb Eb.b
 by_cases h:(lP m).length=(lP k).length
 ·simp (disch:=omega) only[aP,aK,dC,dn,cZ,da,aY,ch,cC,db,ay,cz,aj,au,bR,cJ,aw,aF,cT,ag,aX,aJ,bs,bP,aU,bY]
  rw[NG N (kE m) (kE k) h hm (lP m).length N (aI _) ω,fD,h,fD,g7,g7]
 ·rw[da ω,cJ,aj]
  by_cases dU:(lP m).length<(lP k).length
  ·rw[aP ω,aj]
   have h1:=KN ((lP k).length-1) m ω
   have h2: ¬(k<4294967296^((lP k).length-1)):=λh=>by have:=xZ _ _ h;omega
   rw[wk,ak ω]
  ·rw[aK ω,au]
   have h1:=KN ((lP m).length-1) k ω
   have h2: ¬(m<4294967296^((lP m).length-1)):=λh=>by have:=xZ _ _ h;omega
   rw[wk,ah ω,ak ω]
def Fit(v:Int)(k:Nat):Prop:=v.natAbs<4294967296^k
theorem Fit.len{v:Int}{k:Nat}(h:Fit v k):(lP v.natAbs).length≤k:=xZ k _ h
theorem Fit.mono{v:Int}{j k:Nat}(h:Fit v j)(hjk:j≤k):Fit v k:=kQ h (Fj δ hjk)
theorem Fit.neg{v:Int}{k:Nat}(h:Fit v k):Fit (-v) k:=by unfold Fit at*;rwa [Int.natAbs_neg]
theorem Fit.i64{v:Int}(h0: -9223372036854775808≤v)(h1:v<9223372036854775808):Fit v 2:=by
 unfold Fit
 rw[show(4294967296:Nat)^2=18446744073709551616 from by decide];omega
theorem Fit.add{u v:Int}{k:Nat}(hu:Fit u k)(hv:Fit v k):Fit (u+v) (k+1):=by
 unfold Fit at*
 rw[o8]
 have:(u+v).natAbs≤u.natAbs+v.natAbs:=Int.natAbs_add_le u v
 generalize 4294967296^k=p at*
 omega
theorem Fit.mul{u v:Int}{j k:Nat}(hu:Fit u j)(hv:Fit v k):Fit (u*v) (j+k):=by
 unfold Fit at*
 rw[Int.natAbs_mul,Nat.pow_add]
 exact Nat.mul_lt_mul'' hu hv
theorem Fit.of_le{u v:Int}{k:Nat}(hv:Fit v k)(h:u.natAbs≤v.natAbs):Fit u k:=Nat.lt_of_le_of_lt h hv
theorem uk(a b:Bool):ti .bool a b=(a==b):=by simp[ti]
theorem jR(hN:4000000≤N){u v:Int}(hu:Fit u 900000)(hv:Fit v 900000):AZ N (c5 u) (c5 v)=some (c5 (u+v)):=by
 have lu:=hu.len
 have lv:=hv.len
 unfold AZ
 simp only[c5,uk]
 by_cases hs:decide (u<0)=decide (v<0)
 ·rw[hs,z6,aj]
  obtain⟨r,hr,hvd,KA,hl⟩:=ND N hN (kE u.natAbs) (kE v.natAbs) ω ω
  simp only[hr,aw,sZ N _ hvd ω ω,KA,g7]
  congr 1
  show c5 _=c5 _
  congr 1
  by_cases h:v<0
  ·have:u<0:=by simpa [h]using hs
   rw[ak (bq h)];omega
  ·have: ¬u<0:=by simpa [h]using hs
   rw[ah (by simpa using h)];omega
 ·have hb:(decide (u<0)==decide (v<0))=false:=by simpa using hs
  rw[hb,au,NH N hN _ _ ω ω,aw]
  by_cases hc:v.natAbs≤u.natAbs
  ·have h1:cY 0 (wk ((u.natAbs:Int)-v.natAbs))=true:=dC (by unfold wk;split<;>(try split)<;>omega)
   obtain⟨r,hr,hvd,KA,hl⟩:=Dl N hN (kE u.natAbs) (kE v.natAbs) ω (by rw[g7,g7];omega)
   simp only[h1,aj,hr,aw,sZ N _ hvd ω ω,KA,g7]
   congr 1
   show c5 _=c5 _
   congr 1
   by_cases h:u<0
   ·have: ¬v<0:=λhv=>hs (by simp[h,hv])
    rw[ak (bq h)];omega
   ·have:v<0:=Fa λhv=>hs (by simp[h,hv])
    rw[ah (by simpa using h)];omega
  ·have h1:cY 0 (wk ((u.natAbs:Int)-v.natAbs))=false:=dn (by unfold wk;rw[ak ω];omega)
   obtain⟨r,hr,hvd,KA,hl⟩:=Dl N hN (kE v.natAbs) (kE u.natAbs) ω (by rw[g7,g7];omega)
   simp only[h1,au,hr,aw,sZ N _ hvd ω ω,KA,g7]
   congr 1
   show c5 _=c5 _
   congr 1
   by_cases h:v<0
   ·have: ¬u<0:=λhu=>hs (by simp[h,hu])
    rw[ak (bq h)];omega
   ·have:u<0:=Fa λhu=>hs (by simp[h,hu])
    rw[ah (by simpa using h)];omega
theorem oq(hN:4000000≤N){u:Int}(hu:Fit u 900000):Vt N (c5 u)=some (c5 (-u)):=by
 have lu:=hu.len
 unfold Vt
 simp only[c5]
 simp only[sZ N _ (kE u.natAbs) ω ω,aw,g7]
 congr 1
 show c5 _=c5 _
 congr 1
 by_cases h:u<0
 ·rw[bq h,bR,ah qY];omega
 ·rw[bK h,cJ,ak rfl];omega
theorem NI(hN:4000000≤N){u:Int}(hu:Fit u 900000):WX N (c5 u)=some (c5 u.natAbs):=by
 have lu:=hu.len
 unfold WX
 simp only[c5]
 simp only[sZ N _ (kE u.natAbs) ω ω,aw,g7,gW,eo]
 rfl
theorem vn(hN:4000000≤N){u v:Int}(hu:Fit u 900000)(hv:Fit v 900000):Si N (c5 u) (c5 v)=some (c5 (u-v)):=by
 unfold Si
 simp only[oq N hN hv,aw,jR N hN hu hv.neg,Int.sub_eq_add_neg]
theorem qx(u:Int):Sj N (c5 u)=some (wk u):=by
 unfold Sj
 simp only[c5]
 by_cases h:u=0
 ·subst h
  rw[show(0:Int).natAbs=0 from rfl,kC]
  simp (disch:=omega) only[aP,aK,dC,dn,cZ,da,aY,ch,cC,db,ay,cz,aj,au,bR,cJ,aw,aF,cT,ag,aX,aJ,bs,bP,aU,bY]
  rfl
 ·have:0<(lP u.natAbs).length:=by
   apply oK.2
   intro hd;rw[AY]at hd;omega
  rw[da ω,au]
  by_cases hn:u<0
  ·rw[bq hn,aj,wk,ak hn]
  ·rw[bK hn,au,wk,ah hn,ak ω]
theorem QC(hN:4000000≤N){u v:Int}(hu:Fit u 900000)(hv:Fit v 900000):Qd N (c5 u) (c5 v)=some (wk (u-v)):=by
 unfold Qd
 simp only[vn N hN hu hv,aw,qx]
theorem KP(l:List Int)(h: ∀x∈l,-9223372036854775808≤x∧x<9223372036854775808): -(9223372036854775808*l.length)≤l.sum∧l.sum≤9223372036854775808*l.length:=by
 induction l with
 |nil=>simp
 |cons x l ih=>
  have:=ih (λy hy=>h y (a6 _ hy))
  obtain⟨h1,h2⟩:=h x (bu ..)
  rw[cD,aU]
  omega
theorem A0{v:Int}{n:Nat}(hn:n≤1000000)(h0: -(9223372036854775808*n)≤v)(h1:v≤9223372036854775808*n):Fit v 3:=by
 unfold Fit
 rw[show(4294967296:Nat)^3=79228162514264337593543950336 from by decide]
 omega
theorem rK{l:List Int}(h: ∀x∈l,-9223372036854775808≤x∧x<9223372036854775808)(i:Nat): -9223372036854775808≤l.getD i 0∧l.getD i 0<9223372036854775808:=by
 rw[aZ]
 cases hn:l[i]? with
 |none=>exact⟨δ,δ⟩
 |some x=>exact h x (List.mem_of_getElem? hn)
theorem im(l:List Int){i:Nat}(h:i<l.length):(l.take (i+1)).sum=(l.take i).sum+l.getD i 0:=by
 rw[fW l h];simp
theorem A2(N:Nat)(hN:4000000≤N){l:List Int}(h: ∀x∈l,-9223372036854775808≤x∧x<9223372036854775808)(hl:l.length≤1000000): ∀(m n i:Nat) (z:aH),l.length-i≤m→m<n→i≤l.length→
  pW.l3 N n l z (c5 (l.take i).sum) (i:Int)=some (c5 l.sum)
 |m,0,i,z,_,hn,_=>ω
 |m,n+1,i,z,hm,hn,hi=>by
  unfold pW.l3 pW.lD
  by_cases h1:i<l.length
  ·obtain⟨g0,g1⟩:=rK h i
   have f1:=KP (l.take i) (λx hx=>h x (iH hx))
   rw[bE,fT ω]at f1
   have f2:Fit (l.take i).sum 900000:=(A0 (n:=i) ω f1.1 f1.2).mono ω
   have f3:Fit (l.getD i 0) 900000:=(Fit.i64 g0 g1).mono ω
   simp (disch:=omega) only[aP,aK,dC,dn,cZ,da,aY,ch,cC,db,ay,cz,aj,au,bR,cJ,aw,aF,cT,ag,aX,aJ,bs,bP,aU,bY,dp N ω g0 g1,jR N hN f2 f3]
   rw[←im l h1]
   exact A2 N hN h hl (m-1) n (i+1) z ω ω ω
  ·simp (disch:=omega) only[aP,aK,dC,dn,cZ,da,aY,ch,cC,db,ay,cz,aj,au,bR,cJ,aw,aF,cT,ag,aX,aJ,bs,bP,aU,bY]
   rw[gh ω]
theorem kX:c5 0=(false,([],())):=by unfold c5;rw[show(0:Int).natAbs=0 from rfl,kC];rfl
theorem zi(hN:4000000≤N){l:List Int}(h: ∀x∈l,-9223372036854775808≤x∧x<9223372036854775808)(hl:l.length≤1000000):pW N l=some (c5 l.sum):=by
 unfold pW pW.b
 have:=A2 N hN h hl l.length N 0 (false,([],())) ω ω ω
 rw[nk,iM,kX]at this
 exact this
theorem WY{a b:Int}(ha:0≤a)(ha1:a<4294967296)(hb:0≤b)(dA:b<4294967296):mX .or .u64 a (b*4294967296)=a+b*4294967296:=by
 rw[KL ha ω ω ω]
 have h:=E7 (i:=32) (b:=a.toNat) ω b.toNat
 have e:(b*4294967296).toNat=2^32*b.toNat:=ω
 rw[e,Nat.or_comm,←h];omega
theorem T8{a b:Int}(ha:0≤a)(ha1:a<4294967296)(hb:0≤b)(dA:b<4294967296):mX .or .u64 (b*4294967296) a=a+b*4294967296:=by
 rw[KL ω ω ha ω]
 have h:=E7 (i:=32) (b:=a.toNat) ω b.toNat
 have e:(b*4294967296).toNat=2^32*b.toNat:=ω
 rw[e,←h];omega
theorem afT{x:Int}(h0:0≤x):shl .u64 x 32=x*4294967296:=by rw[Sd ω ω];rfl
def ya(v:Int):Int×Bool:=if-9223372036854775808≤v∧v<9223372036854775808 then(v,true)else(0,false)
theorem aaf{n:Nat}(h:(lP n).length≤2):(lP n).getD 0 0+4294967296*(lP n).getD 1 0=n:=by
 have h1:=kW (lP n) 0
 have h2:=kW (lP n) 1
 rw[c9,g7]at h1
 rw[jN (l:=lP n) (i:=1+1) h]at h2
 simp only[cR,fh]at h1 h2
 omega
theorem tx(v:Int):NJ N (c5 v)=some (ya v):=by
 unfold NJ
 simp only[c5]
 by_cases hl:2<(lP v.natAbs).length
 ·rw[aP ω,aj,ya,ah]
  intro hh
  have:=xZ 2 v.natAbs (by rw[show(4294967296:Nat)^2=18446744073709551616 from by decide];omega)
  omega
 ·have h2:=aaf (n:=v.natAbs) ω
  obtain⟨a0,a1⟩:=(kE v.natAbs).getD 0
  obtain⟨b0,b1⟩:=(kE v.natAbs).getD 1
  have e0:=xl N (lP v.natAbs) 0
  have e1:=xl N (lP v.natAbs) 1
  simp only[Int.natCast_zero,Int.natCast_one]at e0 e1
  rw[aK ω,au,e0,e1]
  generalize (lP v.natAbs).getD 0 0=a at*
  generalize (lP v.natAbs).getD 1 0=b at*
  simp only[aw]
  rw[aK (show(0:Int)≤32 by omega),au,afT b0,cz (x:=b*4294967296) ω ω,WY a0 a1 b0 b1]
  have ev:a+b*4294967296=v.natAbs:=ω
  rw[ev]
  by_cases hn:v<0
  ·rw[bq hn,aj]
   by_cases Nr:9223372036854775808<(v.natAbs:Int)
   ·rw[aP Nr,aj,ya,ah ω]
   ·rw[aK ω,au,ya,ak ω,nA,gU]
    congr 2
    split<;>omega
  ·rw[bK hn,au]
   by_cases Nr:9223372036854775807<(v.natAbs:Int)
   ·rw[aP Nr,aj,ya,ah ω]
   ·rw[aK ω,au,ya,ak ω,ay ω ω]
    congr 2;omega
theorem NK: ∀(l:List Int) (k:Nat) (x:Int),k<l.length→cR (l.set k x)=cR l+4294967296^k*(x-l.getD k 0)
 |d::r,0,x,_=>by simp[cR];omega
 |d::r,k+1,x,h=>by
  have ih:=NK r k x (by simpa using h)
  rw[List.set_cons_succ,cR,cR,ih,List.getD_cons_succ,Ad,dZ (4294967296^k) 4294967296,gj,jz];omega
theorem getD_set_ne(l:List Int){j k:Nat}(x:Int)(h:j≠k):(l.set j x).getD k 0=l.getD k 0:=by
 simp[aZ,Fi h]
theorem kG(l:List Int){k:Nat}(x:Int)(h:k<l.length):(l.set k x).getD k 0=x:=by
 simp[aZ,List.getElem?_set,h]
theorem vo(l:List Int){k:Nat}(h:l.length≤k):l.getD k 0=0:=by
 rw[aZ,gV h];rfl
theorem Dm(N:Nat)(K:aH→aH→aH→List Int→Int→Option aH){a b:List Int}(na nb:Bool)(z:aH)(ha:VD a)(hb:VD b)(i:Nat)(hi:i<a.length)(zg:a.length≤100000)(Qa:b.length≤100000):
  ∀(m n j:Nat) (out:List Int) (c:Int),b.length+1-j≤m→m<n→VD out→out.length=a.length+b.length+1→0≤c→c<4294967296→(j≤b.length→ ∀k,i+b.length≤k→out.getD k 0=0)→(b.length<j→c=0∧j=b.length+1∧ ∀k,i+b.length+1≤k→out.getD k 0=0)→
  ∃zj,jZ.l7 N K n (na,(a,())) (nb,(b,())) z out (i:Int) c (j:Int)=K (na,(a,())) (nb,(b,())) z zj ((i+1:Nat):Int)∧VD zj∧zj.length=out.length∧
   cR zj=cR out+4294967296^i*(4294967296^j*(a.getD i 0*cR (b.drop j)+c))∧ ∀k,i+1+b.length≤k→zj.getD k 0=0
 |m,0,j,out,c,_,hn,_,_,_,_,_,_=>ω
 |m,n+1,j,out,c,hm,hn,ho,Jg,P5,zz,hz,EM=>by
  unfold jZ.l7 jZ.rL
  by_cases NC:b.length≤j∧c=0
  ·obtain⟨h1,rfl⟩:=NC
   simp (disch:=omega) only[aP,aK,dC,dn,cZ,da,aY,ch,cC,db,ay,cz,aj,au,bR,cJ,aw,aF,cT,ag,aX,aJ,bs,bP,aU,bY]
   refine⟨out,rfl,ho,rfl,by rw[jN h1];simp[cR],λk hk=> ?_⟩
   by_cases hj:j≤b.length
   ·exact hz hj k ω
   ·exact(EM ω).2.2 k ω
  ·have Ax:j≤b.length:=by
    by_cases hj:j≤b.length
    ·exact hj
    ·exact absurd ⟨ω,(EM ω).1⟩ NC
   obtain⟨ga0,ga1⟩:=ha.getD i
   obtain⟨gb0,gb1⟩:=hb.getD j
   obtain⟨go0,go1⟩:=ho.getD (i+j)
   have step: ∃zj,jZ.j9 N K (jZ.l7 N K n) (na,(a,())) (nb,(b,())) z out (i:Int) c (j:Int)=K (na,(a,())) (nb,(b,())) z zj ((i+1:Nat):Int)∧VD zj∧zj.length=out.length∧
     cR zj=cR out+4294967296^i*(4294967296^j*(a.getD i 0*cR (b.drop j)+c))∧ ∀k,i+1+b.length≤k→zj.getD k 0=0:=by
    unfold jZ.j9 jZ.NL
    have eij:(i:Int)+(j:Int)=((i+j:Nat):Int):=rfl
    have hp:=mul_lt (m:=4294967295) (n:=4294967295) ga0 gb0 ω ω
    simp only[xl,aw,eij,aF]
    simp (disch:=omega) only[aP,aK,dC,dn,cZ,da,aY,ch,cC,db,ay,cz,aj,au,bR,cJ,aw,aF,cT,ag,aX,aJ,bs,bP,aU,bY]
    generalize hx:out.getD (i+j) 0=x at*
    generalize ha':a.getD i 0=ai at*
    generalize dj:b.getD j 0=bj at*
    generalize hpe:ai*bj=p at*
    have hpz:b.length≤j→p=0∧x=0:=λh=>by
     rw[vo b h]at dj
     refine⟨by rw[←hpe,←dj,Ae],?_⟩
     rw[←hx];exact hz Ax _ ω
    rw[kB ω ω,Gn]
    have asR:(out.set (i+j) ((c+(x+p))%4294967296)).length=a.length+b.length+1:=by rw[bs];exact Jg
    obtain⟨zj,h1,h2,h3,h4,h5⟩:=Dm N K na nb z ha hb i hi zg Qa (m-1) n (j+1) (out.set (i+j) ((c+(x+p))%4294967296)) ((c+(x+p))/4294967296) ω ω (ho.set _ ω ω) asR ω ω
     (λh k hk=>by rw[getD_set_ne _ _ ω];exact hz Ax k hk)
     (λh=>by
      obtain⟨It,M4⟩:=hpz ω
      refine⟨ω,ω,λk hk=> ?_⟩
      rw[getD_set_ne _ _ ω];exact hz Ax k ω)
    refine⟨zj,h1,h2,by rw[h3,bs],?_,h5⟩
    rw[h4,NK _ _ _ ω,hx,ha',kW b j,dj,jz ai,hpe,Int.pow_add,Ad]
    have e1:ai*(4294967296*cR (b.drop (j+1)))=4294967296*(ai*cR (b.drop (j+1))):=Int.mul_left_comm _ _ _
    rw[e1]
    generalize ai*cR (b.drop (j+1))=y
    generalize (4294967296:Int)^i=P
    generalize (4294967296:Int)^j=R
    rw[gj R,gj P,Int.add_assoc,←jz,←jz]
    congr 3
    omega
   by_cases h1:j<b.length
   ·simp (disch:=omega) only[aP,aj];exact step
   ·have:0<c:=ω
    simp (disch:=omega) only[aP,aK,aj,au];exact step
theorem Dn(N:Nat)(hN:4000000≤N){a b:List Int}(na nb:Bool)(z:aH)(ha:VD a)(hb:VD b)(zg:a.length≤100000)(Qa:b.length≤100000):
  ∀(m n i:Nat) (out:List Int),a.length-i≤m→m<n→i≤a.length→VD out→out.length=a.length+b.length+1→(∀k,i+b.length≤k→out.getD k 0=0)→cR out=cR (a.take i)*cR b→
  jZ.l3 N n (na,(a,())) (nb,(b,())) z out (i:Int)=some (c5 (if na=nb then cR a*cR b else-(cR a*cR b)))
 |m,0,i,out,_,hn,_,_,_,_,_=>ω
 |m,n+1,i,out,hm,hn,hi,ho,Jg,hz,hv=>by
  unfold jZ.l3 jZ.lD
  by_cases h1:i<a.length
  ·simp only
   rw[aP ω,aj]
   obtain⟨zj,e1,e2,e3,e4,e5⟩:=Dm N (jZ.l3 N n) na nb z ha hb i h1 zg Qa (b.length+1) N 0 out 0 ω ω ho Jg ω ω (λ_ k hk=>hz k hk) (λh=>ω)
   rw[show((0:Nat):Int)=0 from rfl]at e1
   rw[e1]
   refine Dn N hN na nb z ha hb zg Qa (m-1) n (i+1) zj ω ω ω e2 (by rw[e3];exact Jg) (λk hk=>e5 k ω) ?_
   rw[e4,hv,fW a h1,qR,bE,fT ω,c9,Int.pow_zero,pa,jy,iN,gj]
  ·simp only
   rw[aK ω,au]
   simp only[sZ N _ ho ω ω,aw]
   rw[hv,gh ω,uk]
   congr 2
   cases na<;>cases nb<;>simp
theorem A3(hN:4000000≤N){u v:Int}(hu:Fit u 90000)(hv:Fit v 90000):jZ N (c5 u) (c5 v)=some (c5 (u*v)):=by
 have lu:=hu.len
 have lv:=hv.len
 unfold jZ jZ.b
 simp only[c5]
 simp (disch:=omega) only[aP,aK,dC,dn,cZ,da,aY,ch,cC,db,ay,cz,aj,au,bR,cJ,aw,aF,cT,ag,aX,aJ,bs,bP,aU,bY]
 have e:(((lP u.natAbs).length:Int)+((lP v.natAbs).length:Int)+1).toNat=(lP u.natAbs).length+(lP v.natAbs).length+1:=ω
 have:=Dn N hN (decide (u<0)) (decide (v<0)) (false,([],())) (kE u.natAbs) (kE v.natAbs) ω ω (lP u.natAbs).length N 0 (List.replicate ((lP u.natAbs).length+(lP v.natAbs).length+1) 0) ω ω ω (VD.afS _) (by simp)
  (λk _=>by rw[aZ,uT];split<;>rfl) (by
   have: ∀n,cR (List.replicate n 0)=0:=λn=>by
    induction n with
    |zero=>rfl
    |succ n ih=>rw[zS,cR,ih];rfl
   rw[this];simp[cR])
 rw[g7,g7]at this
 have e2:(((lP u.natAbs).length+(lP v.natAbs).length:Nat):Int)+1=(lP u.natAbs).length+(lP v.natAbs).length+1:=ω
 first
 |(rw[e];refine this.trans ?_)
 |(refine(this).trans ?_)
 show some (c5 _)=some (c5 _)
 congr 2
 have key:(u.natAbs:Int)*v.natAbs=if decide (u<0)=decide (v<0)then u*v else-(u*v):=by
  by_cases h1:u<0<;>by_cases h2:v<0
  ·rw[ak (by simp[h1,h2]),show(u.natAbs:Int)= -u from by omega,show(v.natAbs:Int)= -v from by omega,Int.neg_mul_neg]
  ·rw[ah (by simp[h1,h2]),show(u.natAbs:Int)= -u from by omega,show(v.natAbs:Int)=v from by omega,Int.neg_mul]
  ·rw[ah (by simp[h1,h2]),show(u.natAbs:Int)=u from by omega,show(v.natAbs:Int)= -v from by omega,tV]
  ·rw[ak (by simp[h1,h2]),show(u.natAbs:Int)=u from by omega,show(v.natAbs:Int)=v from by omega]
 rw[key]
 split<;>simp
end VM
end
