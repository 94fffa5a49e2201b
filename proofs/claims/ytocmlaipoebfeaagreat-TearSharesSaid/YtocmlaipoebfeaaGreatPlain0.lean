/- A part of the proof of TearShares of layer 29: what the functions compute, in plain words. -/
import Derived.Test.YtocmlaipoebfeaaGreatVm0
import GoSem.Claim
import Derived.Test.YtocmlaipoebfeaaGreatText
set_option linter.all false
section
namespace VM
open Go
theorem mz(x:Int):W .u64 x=x%18446744073709551616:=by rw[w9];simp[IntKind.wrap,IntKind.bits,IntKind.signed]
theorem bz{x:Int}(h0:0≤x)(h1:x<18446744073709551616):W .u64 x=x:=by rw[mz];omega
theorem gH(x:Int):W .i64 x=if 9223372036854775808≤x%18446744073709551616 then x%18446744073709551616-18446744073709551616 else x%18446744073709551616:=by
 rw[w9];simp[IntKind.wrap,IntKind.bits,IntKind.signed]
theorem an{x:Int}(h0: -9223372036854775808≤x)(h1:x<9223372036854775808):W .i64 x=x:=by
 rw[gH];split<;>omega
theorem aeI{x:Int}(h0:0≤x)(h1:x<256):W .u8 x=x:=by rw[w9];simp[IntKind.wrap,IntKind.bits,IntKind.signed];omega
theorem wf_u64{x:Int}:(Lit.int .u64 x).wf=true↔0≤x∧x≤18446744073709551615:=by simp[Lit.wf,IntKind.min,IntKind.max,IntKind.bits,IntKind.signed]
theorem wf_u8{x:Int}:(Lit.int .u8 x).wf=true↔0≤x∧x≤255:=by simp[Lit.wf,IntKind.min,IntKind.max,IntKind.bits,IntKind.signed]
theorem aC{x y:Int}(h:x<y):aH x y=true:=by rw[ma];exact auv h
theorem az{x y:Int}(h:y≤x):aH x y=false:=by rw[ma];exact auB (by omega)
theorem cK{x y:Int}(h:x≤y):bR x y=true:=by rw[jY];exact auv h
theorem cE{x y:Int}(h:y<x):bR x y=false:=by rw[jY];exact auB (by omega)
theorem bW{x y:Int}(h:x=y):ay x y=true:=by rw[fK];exact auv h
theorem cf{x y:Int}(h:x≠y):ay x y=false:=by rw[fK];exact auB h
theorem aI{i:Int}{n:Nat}(h0:0≤i)(h1:i<n):aK i n=true:=by rw[MX];exact auv ⟨h0,h1⟩
theorem bs{n:Nat}(h:n<68719476736):small n=true:=by rw[yu];exact auv (by simpa [si]using h)
theorem bq{l c:Int}(h0:0≤l)(h1:l≤c)(h2:c<68719476736):dX l c=true:=by rw[Bh];exact auv (by simp only[si];omega)
theorem b9{l h m n:Int}(h0:0≤l)(h1:l≤h)(h2:h≤m)(h3:m≤n):fD l h m n=true:=by rw[tx];exact auv ⟨h0,h1,h2,h3⟩
theorem aa(n:Nat):(n:Int)+1=((n+1:Nat):Int):=rfl
theorem nN(x:Int)(h0:0≤x)(h1:x<18446744073709551616):(BitVec.ofInt 64 x).toNat=x.toNat:=by
 rw[BitVec.toNat_ofInt];congr 1;omega
theorem ES{x y:Int}(hx:0≤x)(ET:x<18446744073709551616)(hy:0≤y)(Rx:y<18446744073709551616):iZ .and .u64 x y=((x.toNat&&& y.toNat:Nat):Int):=by
 rw[o0]
 have h:((BitVec.ofInt 64 x&&& BitVec.ofInt 64 y).toNat)=x.toNat&&& y.toNat:=by rw[BitVec.toNat_and,nN x hx ET,nN y hy Rx]
 show IntKind.u64.wrap (((BitVec.ofInt 64 x&&& BitVec.ofInt 64 y).toNat:Nat):Int)=_
 rw[h,←w9]
 have:x.toNat&&& y.toNat≤x.toNat:=Nat.and_le_left
 exact bz (by omega) (by omega)
theorem CU{x y:Int}(hx:0≤x)(ET:x<18446744073709551616)(hy:0≤y)(Rx:y<18446744073709551616):iZ .or .u64 x y=((x.toNat|||y.toNat:Nat):Int):=by
 rw[o0]
 have h:((BitVec.ofInt 64 x|||BitVec.ofInt 64 y).toNat)=x.toNat|||y.toNat:=by rw[BitVec.toNat_or,nN x hx ET,nN y hy Rx]
 show IntKind.u64.wrap (((BitVec.ofInt 64 x|||BitVec.ofInt 64 y).toNat:Nat):Int)=_
 rw[h,←w9]
 have:x.toNat|||y.toNat<2^64:=Nat.or_lt_two_pow (by omega) (by omega)
 exact bz (by omega) (by omega)
theorem gj{x:Int}(h0:0≤x)(h1:x<18446744073709551616):iZ .and .u64 x 4294967295=x%4294967296:=by
 rw[ES h0 h1 (by omega) (by omega)]
 have:=aw4 x.toNat 32
 rw[show((4294967295:Int).toNat)=2^32-1 from rfl,this]
 omega
theorem rL{x y:Int}(h0:0≤y)(h1:y≤64):shr .u64 x y=x/2^y.toNat:=by
 rw[HR]
 have:min y.toNat IntKind.u64.bits=y.toNat:=by simp[IntKind.bits];omega
 rw[this,axk]
 exact_mod_cast au3 _
theorem y8(x:Int):shr .u64 x 32=x/4294967296:=by rw[rL (by omega) (by omega)];rfl
theorem aj5(x:Int):shr .u64 x 1=x/2:=by rw[rL (by omega) (by omega)];rfl
theorem mA{x:Int}(h0: -9223372036854775808≤x)(h1:x<9223372036854775808):shr .i64 x 63=if x<0 then-1 else 0:=by
 rw[HR]
 have:(2:Int)^(min (63:Int).toNat IntKind.i64.bits)=9223372036854775808:=by rfl
 rw[this,axk _ (by omega)]
 split<;>omega
theorem J1{x y:Int}(h0:0≤y)(h1:y≤64):shl .u64 x y=x*2^y.toNat:=by
 rw[MZ]
 have:min y.toNat IntKind.u64.bits=y.toNat:=by simp[IntKind.bits];omega
 rw[this]
theorem mul_lt{a b m n:Int}(ha:0≤a)(hb:0≤b)(ham:a≤m)(hbn:b≤n):0≤a*b∧a*b≤m*n:=
 ⟨av8 ha hb,awD (avy ham hb) (au4 hbn (by omega))⟩
end VM
end
section
namespace VM
open Go VM.F
theorem Lq(a b:Int):a*b=(a/4294967296)*(b/4294967296)*18446744073709551616+((a/4294967296)*(b%4294967296)+(a%4294967296)*(b/4294967296))*4294967296+(a%4294967296)*(b%4294967296):=by
 have ha:a=(a/4294967296)*4294967296+a%4294967296:=by omega
 have hb:b=(b/4294967296)*4294967296+b%4294967296:=by omega
 generalize a/4294967296=a1 at*
 generalize a%4294967296=a0 at*
 generalize b/4294967296=b1 at*
 generalize b%4294967296=b0 at*
 subst ha;subst hb
 simp only[avV,awd]
 have e1:a1*4294967296*(b1*4294967296)=a1*b1*18446744073709551616:=by
  rw[ave,Int.mul_left_comm 4294967296,←ave];rfl
 have e2:a1*4294967296*b0=a1*b0*4294967296:=by rw[ave,auY 4294967296,←ave]
 have e3:a0*(b1*4294967296)=a0*b1*4294967296:=by rw[←ave]
 rw[e1,e2,e3];omega
theorem N7(N:Nat){a b:Int}(ha:0≤a)(Ry:a<18446744073709551616)(hb:0≤b)(jN:b<18446744073709551616):
  Rz N a b=some (a*b/18446744073709551616,a*b%18446744073709551616):=by
 unfold Rz
 have hm:=Lq a b
 have h1:=mul_lt (m:=4294967295) (n:=4294967295) (show 0≤a/4294967296 by omega) (show 0≤b/4294967296 by omega) (by omega) (by omega)
 have h2:=mul_lt (m:=4294967295) (n:=4294967295) (show 0≤a/4294967296 by omega) (show 0≤b%4294967296 by omega) (by omega) (by omega)
 have h3:=mul_lt (m:=4294967295) (n:=4294967295) (show 0≤a%4294967296 by omega) (show 0≤b/4294967296 by omega) (by omega) (by omega)
 have h4:=mul_lt (m:=4294967295) (n:=4294967295) (show 0≤a%4294967296 by omega) (show 0≤b%4294967296 by omega) (by omega) (by omega)
 simp only[az (show(0:Int)≤32 by omega),auc,gj ha Ry,gj hb jN,y8]
 generalize a/4294967296=a1 at*
 generalize a%4294967296=a0 at*
 generalize b/4294967296=b1 at*
 generalize b%4294967296=b0 at*
 generalize a*b=ab at*
 generalize a1*b1=p at*
 generalize a1*b0=q at*
 generalize a0*b1=r at*
 generalize a0*b0=s at*
 rw[bz (x:=q) (by omega) (by omega),bz (x:=s) (by omega) (by omega),bz (x:=r) (by omega) (by omega),bz (x:=p) (by omega) (by omega),bz (x:=q+s/4294967296) (by omega) (by omega),
  gj (by omega) (by omega),bz (x:=(q+s/4294967296)%4294967296+r) (by omega) (by omega),bz (x:=p+(q+s/4294967296)/4294967296) (by omega) (by omega),bz (x:=p+(q+s/4294967296)/4294967296+_) (by omega) (by omega),mz]
 congr 2
 omega
end VM
end
section
namespace VM
open Go VM.F
theorem xW(N:Nat){x:Int}(h0: -9223372036854775808≤x)(h1:x<9223372036854775808):Zw N x=some (x.natAbs:Int):=by
 unfold Zw
 by_cases h:x<0
 ·rw[aC h,aua,mz,mz];congr 1;omega
 ·rw[az (by omega),auc,mz];congr 1;omega
theorem ub(N:Nat){x y c:Int}(hx:0≤x)(hy:0≤y)(hc:0≤c)(AP:c≤1):p6 N x y c=some ((x+y+c)%18446744073709551616,(x+y+c)/18446744073709551616):=by
 unfold p6;rw[auh ⟨hx,hy,hc,AP⟩]
theorem oK(N:Nat){x y c:Int}(hx:0≤x)(ET:x<18446744073709551616)(hy:0≤y)(Rx:y<18446744073709551616)(hc:0≤c)(AP:c≤1):
  p7 N x y c=some ((x-y-c)%18446744073709551616,if x<y+c then 1 else 0):=by
 unfold p7;rw[auh ⟨hx,ET,hy,Rx,hc,AP⟩];congr 2;omega
def bitLen(n:Nat):Nat:=if n=0 then 0 else bitLen (n/2)+1
termination_by n
decreasing_by omega
theorem mB{n:Nat}(h:n≠0):bitLen n=bitLen (n/2)+1:=by rw[bitLen];simp[h]
theorem qS:bitLen 0=0:=by rw[bitLen];rfl
theorem bitLen_shift(k:Nat): ∀n,2^k≤n→bitLen n=bitLen (n/2^k)+k:=by
 induction k with
 |zero=>intro n _;simp
 |succ k ih=>
  intro n h
  have hp:0<2^k:=Nat.pow_pos (by decide)
  rw[awp]at h
  rw[mB (by omega),ih (n/2) (by omega),Nat.div_div_eq_div_mul,awp,axB 2];omega
theorem bitLen_spec(n:Nat):n<2^bitLen n∧(n≠0→2^(bitLen n-1)≤n):=by
 induction n using Nat.strongRecOn with
 |_ n ih=>
  by_cases h:n=0
  ·subst h;rw[qS];simp
  ·rw[mB h]
   obtain⟨h1,h2⟩:=ih (n/2) (by omega)
   refine⟨by rw[awp];omega,fun _=> ?_⟩
   rw[Nat.add_sub_cancel]
   by_cases h3:n/2=0
   ·rw[h3,qS];simp;omega
   ·have:=h2 h3
    have e:bitLen (n/2)=(bitLen (n/2)-1)+1:=by rw[mB h3];omega
    rw[e,awp];omega
theorem RA: ∀i:Fin 256,((strOf [0,1,2,2,3,3,3,3,4,4,4,4,4,4,4,4,5,5,5,5,5,5,5,5,5,5,5,5,5,5,5,5,6,6,6,6,6,6,6,6,6,6,6,6,6,6,6,6,6,6,6,6,6,6,6,6,6,6,6,6,6,6,6,6,7,7,7,7,7,7,7,7,7,7,7,7,7,7,7,7,7,7,7,7,7,7,7,7,7,7,7,7,7,7,7,7,7,7,7,7,7,7,7,7,7,7,7,7,7,7,7,7,7,7,7,7,7,7,7,7,7,7,7,7,7,7,7,7,8,8,8,8,8,8,8,8,8,8,8,8,8,8,8,8,8,8,8,8,8,8,8,8,8,8,8,8,8,8,8,8,8,8,8,8,8,8,8,8,8,8,8,8,8,8,8,8,8,8,8,8,8,8,8,8,8,8,8,8,8,8,8,8,8,8,8,8,8,8,8,8,8,8,8,8,8,8,8,8,8,8,8,8,8,8,8,8,8,8,8,8,8,8,8,8,8,8,8,8,8,8,8,8,8,8,8,8,8,8,8,8,8,8,8,8,8,8,8,8,8,8,8,8,8,8,8,8]).data.getD i.val 0).toNat=Nat.log2 (2*i.val+1):=by decide+kernel
theorem wM(n:Nat):Nat.log2 (2*n+1)=bitLen n:=by
 induction n using Nat.strongRecOn with
 |_ n ih=>
  by_cases h:n=0
  ·subst h;rw[qS];decide
  ·rw[mB h,axS,auh (by omega),show(2*n+1)/2=n from by omega]
   congr 1
   have:=ih (n/2) (by omega)
   rw[←this]
   by_cases h2:n%2=0
   ·rw[axS,axS (n:=2*(n/2)+1)]
    have e1:(2*(n/2)+1)/2=n/2:=by omega
    rw[auh (by omega),auh (by omega),e1]
   ·congr 1;omega
theorem EU(i:Nat)(h:i<256):((strOf [0,1,2,2,3,3,3,3,4,4,4,4,4,4,4,4,5,5,5,5,5,5,5,5,5,5,5,5,5,5,5,5,6,6,6,6,6,6,6,6,6,6,6,6,6,6,6,6,6,6,6,6,6,6,6,6,6,6,6,6,6,6,6,6,7,7,7,7,7,7,7,7,7,7,7,7,7,7,7,7,7,7,7,7,7,7,7,7,7,7,7,7,7,7,7,7,7,7,7,7,7,7,7,7,7,7,7,7,7,7,7,7,7,7,7,7,7,7,7,7,7,7,7,7,7,7,7,7,8,8,8,8,8,8,8,8,8,8,8,8,8,8,8,8,8,8,8,8,8,8,8,8,8,8,8,8,8,8,8,8,8,8,8,8,8,8,8,8,8,8,8,8,8,8,8,8,8,8,8,8,8,8,8,8,8,8,8,8,8,8,8,8,8,8,8,8,8,8,8,8,8,8,8,8,8,8,8,8,8,8,8,8,8,8,8,8,8,8,8,8,8,8,8,8,8,8,8,8,8,8,8,8,8,8,8,8,8,8,8,8,8,8,8,8,8,8,8,8,8,8,8,8,8,8,8,8]).data.getD i 0).toNat=bitLen i:=by
 rw[←wM];exact RA ⟨i,h⟩
theorem EV:ByteArray.size (strOf [0,1,2,2,3,3,3,3,4,4,4,4,4,4,4,4,5,5,5,5,5,5,5,5,5,5,5,5,5,5,5,5,6,6,6,6,6,6,6,6,6,6,6,6,6,6,6,6,6,6,6,6,6,6,6,6,6,6,6,6,6,6,6,6,7,7,7,7,7,7,7,7,7,7,7,7,7,7,7,7,7,7,7,7,7,7,7,7,7,7,7,7,7,7,7,7,7,7,7,7,7,7,7,7,7,7,7,7,7,7,7,7,7,7,7,7,7,7,7,7,7,7,7,7,7,7,7,7,8,8,8,8,8,8,8,8,8,8,8,8,8,8,8,8,8,8,8,8,8,8,8,8,8,8,8,8,8,8,8,8,8,8,8,8,8,8,8,8,8,8,8,8,8,8,8,8,8,8,8,8,8,8,8,8,8,8,8,8,8,8,8,8,8,8,8,8,8,8,8,8,8,8,8,8,8,8,8,8,8,8,8,8,8,8,8,8,8,8,8,8,8,8,8,8,8,8,8,8,8,8,8,8,8,8,8,8,8,8,8,8,8,8,8,8,8,8,8,8,8,8,8,8,8,8,8,8])=256:=by decide+kernel
set_option maxRecDepth 100000 in
theorem J2(N:Nat){x c:Int}(h0:0≤x)(h1:x<65536)(hc:0≤c)(AP:c≤100):jb.j7 N x c=some (c+bitLen x.toNat):=by
 unfold jb.j7 jb.Ig
 have h8:shr .u64 x 8=x/256:=by rw[rL (by omega) (by omega)];rfl
 have hle: ∀n,n<256→bitLen n≤8:=fun n hn=>by
  rw[←wM]
  have:Nat.log2 (2*n+1)<9:=(Nat.log2_lt (by omega)).2 (by omega)
  omega
 by_cases h:256≤x
 ·have ht:=EU (x/256).toNat (by omega)
  have hl:=hle (x/256).toNat (by omega)
  rw[cK h,aua,az (show(0:Int)≤8 by omega),auc,h8]
  rw[aeI (x:=x/256) (by omega) (by omega)]
  extract_lets v8
  rw[EV,aI (by omega) (by omega),aua,ht]
  clear ht
  simp (disch:=omega) only[aC,az,cK,cE,bW,cf,aI,bs,bq,b9,an,bz,aua,auc,auq,auC,at7,aue,auL,aa,aug,aud,aup,aun,auj,auA]
  have:=bitLen_shift 8 x.toNat (by omega)
  rw[this]
  have e:(x/256).toNat=x.toNat/2^8:=by omega
  rw[e];congr 1;omega
 ·have ht:=EU x.toNat (by omega)
  have hl:=hle x.toNat (by omega)
  rw[cE (by omega),auc,aeI (x:=x) (by omega) (by omega)]
  extract_lets v8
  rw[EV,aI (by omega) (by omega),aua,ht]
  clear ht
  simp (disch:=omega) only[aC,az,cK,cE,bW,cf,aI,bs,bq,b9,an,bz,aua,auc,auq,auC,at7,aue,auL,aa,aug,aud,aup,aun,auj,auA]
theorem N8(N:Nat){x:Int}(h0:0≤x)(h1:x<18446744073709551616):jb N x=some (bitLen x.toNat:Int):=by
 have h16: ∀y c:Int,0≤y→y<4294967296→0≤c→c≤50→jb.j4 N y c=some (c+bitLen y.toNat):=fun y c hy0 Rx hc AP=>by
  unfold jb.j4 jb.j4b
  by_cases h:65536≤y
  ·have e:shr .u64 y 16=y/65536:=by rw[rL (by omega) (by omega)];rfl
   rw[cK h,aua,az (by omega),auc,e,an (by omega) (by omega),J2 N (by omega) (by omega) (by omega) (by omega)]
   have:=bitLen_shift 16 y.toNat (by omega)
   rw[this]
   have e:(y/65536).toNat=y.toNat/2^16:=by omega
   rw[e];congr 1;omega
  ·rw[cE (by omega),auc,J2 N hy0 (by omega) hc (by omega)]
 unfold jb jb.b
 by_cases h:4294967296≤x
 ·rw[cK h,aua,az (by omega),auc,y8,h16 _ _ (by omega) (by omega) (by omega) (by omega)]
  have:=bitLen_shift 32 x.toNat (by omega)
  rw[this]
  have e:(x/4294967296).toNat=x.toNat/2^32:=by omega
  rw[e];congr 1;omega
 ·rw[cE (by omega),auc,h16 _ _ h0 (by omega) (by omega) (by omega)]
  congr 1;omega
end VM
end
section
namespace VM
open Go VM.F
structure kI(Y yn1 yn0 un32 un1 q rh:Int):Prop where
 hY:Y=yn1*4294967296+yn0
 y1:2147483648≤yn1
 y1':yn1<4294967296
 y0:0≤yn0
 y0':yn0<4294967296
 u1:0≤un1
 u1':un1<4294967296
 lt:un32<Y
 q0:0≤q
 eq:q*yn1+rh=un32
 r0:0≤rh
 q1:q≤4294967297
 ge:(un32*4294967296+un1)/Y≤q
theorem kI.prod{Y yn1 yn0 un32 un1 q rh:Int}(g:kI Y yn1 yn0 un32 un1 q rh):q*Y=(un32-rh)*4294967296+q*yn0∧0≤q*yn0∧q*yn0≤18446744073709551615:=by
 have h:=mul_lt (m:=4294967297) (n:=4294967295) g.q0 g.y0 g.q1 (by have:=g.y0';omega)
 refine⟨?_,h.1,by omega⟩
 rw[g.hY,awd,←ave,show q*yn1=un32-rh from by have:=g.eq;omega]
theorem kI.pos{Y yn1 yn0 un32 un1 q rh:Int}(g:kI Y yn1 yn0 un32 un1 q rh):0<Y:=by have:=g.hY;have:=g.y1;have:=g.y0;omega
theorem kI.digit{Y yn1 yn0 un32 un1 q rh:Int}(g:kI Y yn1 yn0 un32 un1 q rh)(h:0≤un32):0≤(un32*4294967296+un1)/Y∧(un32*4294967296+un1)/Y<4294967296:=by
 have hp:=g.pos
 have:=g.u1;have:=g.u1';have:=g.lt
 refine⟨avu (by omega) (by omega),?_⟩
 rw[avA hp];omega
theorem kI.done{Y yn1 yn0 un32 un1 q rh:Int}(g:kI Y yn1 yn0 un32 un1 q rh)(h:q*yn0≤4294967296*rh+un1):q=(un32*4294967296+un1)/Y:=by
 have hp:=g.pos
 have h1:=g.prod.1
 have h2:q≤(un32*4294967296+un1)/Y:=by
  rw[Int.le_ediv_iff_mul_le hp];omega
 have:=g.ge
 omega
theorem kI.next{Y yn1 yn0 un32 un1 q rh:Int}(g:kI Y yn1 yn0 un32 un1 q rh)(hu:0≤un32)(h:4294967296≤q∨4294967296*rh+un1<q*yn0):kI Y yn1 yn0 un32 un1 (q-1) (rh+yn1)∧1≤q:=by
 have hp:=g.pos
 have h1:=g.prod.1
 have hd:=g.digit hu
 have dz:(un32*4294967296+un1)/Y<q:=by
  rcases h with h|h
  ·omega
  ·rw[avA hp];omega
 have:=g.q1;have:=g.r0;have:=g.y1
 exact⟨⟨g.hY,g.y1,g.y1',g.y0,g.y0',g.u1,g.u1',g.lt,by omega,by rw[Int.sub_mul,awP];have:=g.eq;omega,by omega,by omega,by omega⟩,by omega⟩
theorem J3(N:Nat){Y s yn1 yn0 un32 un1 un0:Int}(hu:0≤un32)(Rp:un32<18446744073709551616): ∀(m n:Nat) (q rh:Int),kI Y yn1 yn0 un32 un1 q rh→rh<4294967296→4294967296-rh≤2147483648*m→m<n→
  cN.EW N n Y s yn1 yn0 un32 un1 un0 q rh=cN.MQ N Y s yn1 yn0 un32 un1 un0 ((un32*4294967296+un1)/Y)
 |m,0,q,rh,_,_,_,hn=>by omega
 |m,n+1,q,rh,g,hr,hm,hn=>by
  unfold cN.EW cN.EX
  have XG:=g.prod
  have hd:=g.digit hu
  obtain⟨hY,y1,y1',y0,y0',u1,u1',lt,q0,eq,r0,q1,ge⟩:=id g
  have go:(4294967296≤q∨4294967296*rh+un1<q*yn0)→
    (cond (bR (4294967296:Int) (W .u64 (rh+yn1))) (cN.MQ N Y s yn1 yn0 un32 un1 un0 (W .u64 (q-1))) (cN.EW N n Y s yn1 yn0 un32 un1 un0 (W .u64 (q-1)) (W .u64 (rh+yn1))))=cN.MQ N Y s yn1 yn0 un32 un1 un0 ((un32*4294967296+un1)/Y):=fun h=>by
   obtain⟨g',hq⟩:=g.next hu h
   rw[bz (x:=rh+yn1) (by omega) (by omega),bz (x:=q-1) (by omega) (by omega)]
   by_cases hb:4294967296≤rh+yn1
   ·rw[cK hb,aua]
    have so:=g'.prod
    rw[g'.done (by omega)]
   ·rw[cE (by omega),auc]
    exact J3 N hu Rp (m-1) n (q-1) (rh+yn1) g' (by omega) (by omega) (by omega)
  by_cases h1:4294967296≤q
  ·rw[cK h1,aua]
   exact go (.inl h1)
  ·rw[cE (by omega),auc,bz (x:=4294967296*rh) (by omega) (by omega),bz (x:=4294967296*rh+un1) (by omega) (by omega),bz (x:=q*yn0) (by omega) (by omega)]
   by_cases h2:4294967296*rh+un1<q*yn0
   ·rw[aC h2,aua]
    exact go (.inr h2)
   ·rw[az (by omega),auc,g.done (by omega)]
theorem J4(N:Nat){Y s yn1 yn0 un32 un1 a b:Int}(hu:0≤un32)(Rp:un32<18446744073709551616): ∀(m n:Nat) (q rh:Int),kI Y yn1 yn0 un32 un1 q rh→rh<4294967296→4294967296-rh≤2147483648*m→m<n→
  cN.xX N n Y s yn1 yn0 un1 a rh un32 q=cN.J5 N Y s un1 a un32 ((un32*4294967296+un1)/Y)
 |m,0,q,rh,_,_,_,hn=>by omega
 |m,n+1,q,rh,g,hr,hm,hn=>by
  unfold cN.xX cN.y9
  have XG:=g.prod
  have hd:=g.digit hu
  obtain⟨hY,y1,y1',y0,y0',u1,u1',lt,q0,eq,r0,q1,ge⟩:=id g
  have go:(4294967296≤q∨4294967296*rh+un1<q*yn0)→
    (cond (bR (4294967296:Int) (W .u64 (rh+yn1))) (cN.J5 N Y s un1 a un32 (W .u64 (q-1))) (cN.xX N n Y s yn1 yn0 un1 a (W .u64 (rh+yn1)) un32 (W .u64 (q-1))))=cN.J5 N Y s un1 a un32 ((un32*4294967296+un1)/Y):=fun h=>by
   obtain⟨g',hq⟩:=g.next hu h
   rw[bz (x:=rh+yn1) (by omega) (by omega),bz (x:=q-1) (by omega) (by omega)]
   by_cases hb:4294967296≤rh+yn1
   ·rw[cK hb,aua]
    have so:=g'.prod
    rw[g'.done (by omega)]
   ·rw[cE (by omega),auc]
    exact J4 N (b:=b) hu Rp (m-1) n (q-1) (rh+yn1) g' (by omega) (by omega) (by omega)
  by_cases h1:4294967296≤q
  ·rw[cK h1,aua]
   exact go (.inl h1)
  ·rw[cE (by omega),auc,bz (x:=4294967296*rh) (by omega) (by omega),bz (x:=4294967296*rh+un1) (by omega) (by omega),bz (x:=q*yn0) (by omega) (by omega)]
   by_cases h2:4294967296*rh+un1<q*yn0
   ·rw[aC h2,aua]
    exact go (.inr h2)
   ·rw[az (by omega),auc,g.done (by omega)]
theorem kI.first{Y yn1 yn0 un32 un1:Int}(hY:Y=yn1*4294967296+yn0)(y1:2147483648≤yn1)(y1':yn1<4294967296)(y0:0≤yn0)(y0':yn0<4294967296)(u1:0≤un1)(u1':un1<4294967296)(hu:0≤un32)(lt:un32<Y):
  kI Y yn1 yn0 un32 un1 (un32/yn1) (un32-un32/yn1*yn1)∧un32-un32/yn1*yn1<4294967296∧0≤un32/yn1*yn1∧un32/yn1*yn1≤un32:=by
 have h1:=avv un32 yn1
 have h2:=avt un32 (show 0<yn1 by omega)
 have h3:=avZ un32 (show yn1≠0 by omega)
 have Ra:0≤un32/yn1:=avu hu (by omega)
 rw[auY]at h1
 have MK:un32/yn1≤4294967297:=by
  have:un32/yn1<4294967298:=by rw[avA (by omega)];omega
  omega
 have Qw:(un32*4294967296+un1)/Y≤un32/yn1:=by
  have dz:un32*4294967296+un1<(un32/yn1+1)*Y:=by
   have e:un32+1≤(un32/yn1+1)*yn1:=by rw[avV,awP];omega
   have e2:(un32/yn1+1)*Y=(un32/yn1+1)*yn1*4294967296+(un32/yn1+1)*yn0:=by rw[hY,awd,ave]
   have e3:0≤(un32/yn1+1)*yn0:=av8 (by omega) y0
   omega
  have:(un32*4294967296+un1)/Y<un32/yn1+1:=by rw[avA (by omega)];exact dz
  omega
 exact⟨⟨hY,y1,y1',y0,y0',u1,u1',lt,Ra,by omega,by omega,MK,Qw⟩,by omega,av8 Ra (by omega),by omega⟩
theorem N9{a b:Int}{k:Nat}(ha:0≤a)(Ry:a<2^k)(hb:0≤b)(h:b*2^k<18446744073709551616)(hk:k<64):iZ .or .u64 (b*2^k) a=b*2^k+a:=by
 have hp:(0:Int)<2^k:=Int.pow_pos (by decide)
 have Zx:((2^k:Nat):Int)=2^k:=by rw[Int.natCast_pow];rfl
 have aq7:(2:Int)^k≤2^63:=by
  rw[←Zx,show(2:Int)^63=((2^63:Nat):Int)from by decide]
  exact_mod_cast aw6 (by decide) (by omega)
 have aoN:(2:Int)^63=9223372036854775808:=by decide
 have sr:=av8 hb (av1 hp)
 rw[CU sr h ha (by omega)]
 have h1:=awv (i:=k) (b:=a.toNat) (by
  have:((a.toNat:Nat):Int)<((2^k:Nat):Int):=by rw[Zx,avp ha];exact Ry
  exact_mod_cast this) b.toNat
 have e:(b*2^k).toNat=2^k*b.toNat:=by
  have:((2^k*b.toNat:Nat):Int)=b*2^k:=by rw[aw8,Zx,avp hb,auY]
  omega
 rw[e,←h1,aw9,aw8,Zx,avp hb,avp ha,auY]
theorem EY(N:Nat)(hN:100≤N){hi lo y:Int}(h0:0≤hi)(h1:hi<y)(l0:0≤lo)(l1:lo<18446744073709551616)(y1:y<18446744073709551616):
  cN N hi lo y=some ((hi*18446744073709551616+lo)/y,(hi*18446744073709551616+lo)%y):=by
 unfold cN cN.b
 rw[cf (show y≠0 by omega),auc,cE (by omega),auc]
 by_cases hz:hi=0
 ·subst hz
  rw[bW rfl,aua,auc,auc,Cl,MY,awA l0,Int.tmod_eq_emod_of_nonneg l0]
  have e1:0≤lo/y:=avu l0 (by omega)
  have e2:lo/y≤lo:=Int.ediv_le_self _ l0
  rw[bz (by omega) (by omega)]
  simp
 ·rw[cf hz,auc]
  obtain⟨b1,b2⟩:=bitLen_spec y.toNat
  have b2:=b2 (by omega)
  obtain⟨L,hL⟩: ∃L,L=bitLen y.toNat:=⟨_,rfl⟩
  rw[←hL]at b1 b2
  have hL1:1≤L:=by rw[hL,mB (by omega)];omega
  have aq8:L≤64:=by
   rcases awC 64 L with h|h
   ·have h3:2^64≤2^(L-1):=aw6 (by decide) (by omega)
    have:(2:Nat)^64=18446744073709551616:=by decide
    omega
   ·exact h
  have hl:RB N y=some (64-(L:Int)):=by
   unfold RB
   rw[N8 N (by omega) y1,at7,←hL,an (by omega) (by omega)]
  obtain⟨s,hs⟩: ∃s:Nat,s=64-L:=⟨_,rfl⟩
  have hsI:64-(L:Int)=(s:Int):=by omega
  rw[hl,at7,hsI]
  clear hl
  have Zx: ∀k:Nat,((2^k:Nat):Int)=2^k:=fun k=>by rw[Int.natCast_pow];rfl
  obtain⟨p,hp⟩: ∃p:Int,p=2^s:=⟨_,rfl⟩
  obtain⟨p',so⟩: ∃p':Int,p'=2^(64-s):=⟨_,rfl⟩
  have yx:p'*p=18446744073709551616:=by
   rw[hp,so,←Int.pow_add,show 64-s+s=64 from by omega];decide
  have MO:0<p:=by rw[hp];exact Int.pow_pos (by decide)
  have ara:0<p':=by rw[so];exact Int.pow_pos (by decide)
  have Rx:y*p<18446744073709551616:=by
   have h:y.toNat*2^s<2^L*2^s:=Nat.mul_lt_mul_of_pos_right b1 (Nat.pow_pos (by decide))
   rw[←Nat.pow_add,show L+s=64 from by omega,show(2:Nat)^64=18446744073709551616 from by decide]at h
   have:((y.toNat*2^s:Nat):Int)=y*p:=by rw[aw8,Zx,←hp,avp (by omega)]
   omega
  have hy2:9223372036854775808≤y*p:=by
   have h:2^(L-1)*2^s≤y.toNat*2^s:=ava _ b2
   rw[←Nat.pow_add,show L-1+s=63 from by omega,show(2:Nat)^63=9223372036854775808 from by decide]at h
   have:((y.toNat*2^s:Nat):Int)=y*p:=by rw[aw8,Zx,←hp,avp (by omega)]
   omega
  have aj7: ∀x:Int,shl .u64 x (s:Int)=x*p:=fun x=>by rw[J1 (by omega) (by omega),hp];rfl
  have aj8:shr .u64 lo (64-(s:Int))=lo*p/18446744073709551616:=by
   rw[rL (by omega) (by omega),show(64-(s:Int)).toNat=64-s from by omega,←so,←yx,Int.mul_ediv_mul_of_pos_left _ _ MO]
  have hhp:hi*p+p≤y*p:=by
   have:=avy (show hi+1≤y by omega) (av1 MO)
   rw[avV,awP]at this;exact this
  have ard:0≤hi*p:=av8 h0 (av1 MO)
  have aj9:0≤lo*p:=av8 l0 (av1 MO)
  have aka:lo*p<18446744073709551616*p:=axc l1 MO
  have nv:lo*p/18446744073709551616<p:=by rw[avA (by omega),auY p];exact aka
  have ht0:0≤lo*p/18446744073709551616:=avu aj9 (by omega)
  have hor:iZ .or .u64 (hi*p) (lo*p/18446744073709551616)=hi*p+lo*p/18446744073709551616:=by
   have:=N9 (k:=s) (a:=lo*p/18446744073709551616) (b:=hi) ht0 (by rw[←hp];exact nv) h0 (by rw[←hp];omega) (by omega)
   rw[←hp]at this;exact this
  obtain⟨Y,hY⟩: ∃Y,Y=y*p:=⟨_,rfl⟩
  have hU:(hi*18446744073709551616+lo)*p=(hi*p+lo*p/18446744073709551616)*18446744073709551616+lo*p%18446744073709551616:=by
   rw[avV,ave,auY 18446744073709551616 p,←ave];omega
  have hws:W .u64 (s:Int)=(s:Int):=bz (by omega) (by omega)
  have akb:W .u64 (64-(s:Int))=64-(s:Int):=bz (by omega) (by omega)
  have hwl:W .u64 (lo*p)=lo*p%18446744073709551616:=mz _
  simp only[hws,akb,aj7,aj8,hwl]
  rw[←hY]at Rx hy2 hhp ⊢
  have hwy:W .u64 Y=Y:=bz (by omega) (by omega)
  have hwh:W .u64 (hi*p)=hi*p:=bz (by omega) (by omega)
  simp only[hwy,hwh,hor]
  obtain⟨u,hu⟩: ∃u,u=hi*p+lo*p/18446744073709551616:=⟨_,rfl⟩
  obtain⟨v,hv⟩: ∃v,v=lo*p%18446744073709551616:=⟨_,rfl⟩
  rw[←hu,←hv]at hU ⊢
  have hv0:0≤v:=by omega
  have Ei:v<18446744073709551616:=by omega
  have hu0:0≤u:=by omega
  have hu1:u<Y:=by omega
  have hmy:iZ .and .u64 Y 4294967295=Y%4294967296:=gj (by omega) (by omega)
  have hmv:iZ .and .u64 v 4294967295=v%4294967296:=gj hv0 Ei
  obtain⟨g1,g2,g3,g4⟩:=kI.first (Y:=Y) (yn1:=Y/4294967296) (yn0:=Y%4294967296) (un32:=u) (un1:=v/4294967296) (by omega) (by omega) (by omega) (by omega) (by omega) (by omega) (by omega) hu0 hu1
  have hq:quo u (Y/4294967296)=u/(Y/4294967296):=by rw[Cl,awA hu0]
  have hwq:W .u64 (u/(Y/4294967296))=u/(Y/4294967296):=bz g1.q0 (by have:=g1.q1;omega)
  have hwm:W .u64 (u/(Y/4294967296)*(Y/4294967296))=u/(Y/4294967296)*(Y/4294967296):=bz g3 (by omega)
  have hwr:W .u64 (u-u/(Y/4294967296)*(Y/4294967296))=u-u/(Y/4294967296)*(Y/4294967296):=bz (by omega) (by omega)
  rw[az (show(0:Int)≤s by omega),az (show(0:Int)≤32 by omega),az (show(0:Int)≤64-(s:Int)by omega),y8,y8,hmy,hmv,cf (show Y/4294967296≠0 by omega),hq,hwq,hwm,hwr]
  simp only[auc]
  rw[J3 N hu0 (by omega) 3 N _ _ g1 g2 (by omega) (by omega)]
  have d1:=g1.digit hu0
  clear hq hwq hwm hwr g1 g2 g3 g4
  obtain⟨q1,MK⟩: ∃q1,q1=(u*4294967296+v/4294967296)/Y:=⟨_,rfl⟩
  have m1:=avv (u*4294967296+v/4294967296) Y
  have m2:=avt (u*4294967296+v/4294967296) (show 0<Y by omega)
  have m3:=avZ (u*4294967296+v/4294967296) (show Y≠0 by omega)
  rw[←MK]at d1 m1 ⊢
  obtain⟨r1,CS⟩: ∃r1,r1=(u*4294967296+v/4294967296)%Y:=⟨_,rfl⟩
  rw[←CS]at m1 m2 m3
  rw[auY]at m1
  unfold cN.MQ cN.Ih
  have akc:W .u64 (W .u64 (W .u64 (u*4294967296)+v/4294967296)-W .u64 (q1*Y))=r1:=by
   simp only[mz]
   generalize q1*Y=z at*
   omega
  simp only[akc]
  obtain⟨g1,g2,g3,g4⟩:=kI.first (Y:=Y) (yn1:=Y/4294967296) (yn0:=Y%4294967296) (un32:=r1) (un1:=v%4294967296) (by omega) (by omega) (by omega) (by omega) (by omega) (by omega) (by omega) m3 m2
  have hq:quo r1 (Y/4294967296)=r1/(Y/4294967296):=by rw[Cl,awA m3]
  have hwq:W .u64 (r1/(Y/4294967296))=r1/(Y/4294967296):=bz g1.q0 (by have:=g1.q1;omega)
  have hwm:W .u64 (r1/(Y/4294967296)*(Y/4294967296))=r1/(Y/4294967296)*(Y/4294967296):=bz g3 (by omega)
  have hwr:W .u64 (r1-r1/(Y/4294967296)*(Y/4294967296))=r1-r1/(Y/4294967296)*(Y/4294967296):=bz (by omega) (by omega)
  rw[cf (show Y/4294967296≠0 by omega),hq,hwq,hwm,hwr,auc,J4 N (b:=0) m3 (by omega) 3 N _ _ g1 g2 (by omega) (by omega)]
  have d0:=g1.digit m3
  clear hq hwq hwm hwr g1 g2 g3 g4
  obtain⟨q0,Ra⟩: ∃q0,q0=(r1*4294967296+v%4294967296)/Y:=⟨_,rfl⟩
  have n1:=avv (r1*4294967296+v%4294967296) Y
  have n2:=avt (r1*4294967296+v%4294967296) (show 0<Y by omega)
  have n3:=avZ (r1*4294967296+v%4294967296) (show Y≠0 by omega)
  rw[←Ra]at d0 n1 ⊢
  obtain⟨r0,YS⟩: ∃r0,r0=(r1*4294967296+v%4294967296)%Y:=⟨_,rfl⟩
  rw[←YS]at n1 n2 n3
  rw[auY]at n1
  unfold cN.J5 cN.Ii
  have akd:W .u64 (W .u64 (W .u64 (r1*4294967296)+v%4294967296)-W .u64 (q0*Y))=r0:=by
   simp only[mz]
   generalize q0*Y=z at*
   omega
  rw[az (show(0:Int)≤s by omega),auc,akd,bz (x:=q1*4294967296) (by omega) (by omega),bz (x:=q1*4294967296+q0) (by omega) (by omega),rL (by omega) (by omega),aue,←hp]
  obtain⟨V,hV⟩: ∃V,V=hi*18446744073709551616+lo:=⟨_,rfl⟩
  obtain⟨Q,hQ⟩: ∃Q,Q=q1*4294967296+q0:=⟨_,rfl⟩
  rw[←hV]at hU ⊢
  rw[←hQ]
  have hQY:Q*Y=q1*Y*4294967296+q0*Y:=by rw[hQ,avV,ave,auY 4294967296 Y,←ave]
  have aro:V*p=Q*Y+r0:=by rw[hU,hQY];generalize q1*Y=z1 at*;generalize q0*Y=z0 at*;omega
  have aeO:r0=(V-Q*y)*p:=by rw[Int.sub_mul,ave,←hY];omega
  have hd0:0≤V-Q*y:=by
   by_cases h:V-Q*y<0
   ·have:=Int.mul_neg_of_neg_of_pos h MO;omega
   ·omega
  have hd1:V-Q*y<y:=by
   by_cases h:V-Q*y<y
   ·exact h
   ·have:=avy (show y≤V-Q*y by omega) (av1 MO);rw[←aeO,←hY]at this;omega
  have hVe:V=(V-Q*y)+y*Q:=by rw[auY y Q];omega
  have e1:V/y=Q:=by
   rw[hVe,awa _ _ (by omega),awq hd0 hd1];omega
  have e2:V%y=V-Q*y:=by
   have:=avv V y
   rw[e1,auY]at this;omega
  rw[e1,e2,aeO,Int.mul_ediv_cancel _ (by omega)]
end VM
end
section
namespace VM
open Go VM.F
def bP:List Int→Int
 |[]=>0
 |d::r=>d+4294967296*bP r
def VD(l:List Int):Prop:= ∀d∈l,0≤d∧d<4294967296
def ic(n:Nat):List Int:=if n=0 then []else((n%4294967296:Nat):Int)::ic (n/4294967296)
termination_by n
decreasing_by omega
theorem gk:ic 0=[]:=by rw[ic];rfl
theorem rM{n:Nat}(h:n≠0):ic n=((n%4294967296:Nat):Int)::ic (n/4294967296):=by rw[ic];simp[h]
theorem VD.nil:VD []:=fun d h=>by cases h
theorem VD.cons{d:Int}{l:List Int}(h0:0≤d)(h1:d<4294967296)(h:VD l):VD (d::l):=fun x hx=>by
 rcases auy.1 hx with rfl|hx
 ·exact⟨h0,h1⟩
 ·exact h x hx
theorem VD.tail{d:Int}{l:List Int}(h:VD (d::l)):VD l:=fun x hx=>h x (auk _ hx)
theorem VD.drop{l:List Int}(h:VD l)(n:Nat):VD (l.drop n):=fun x hx=>h x (awB hx)
theorem VD.take{l:List Int}(h:VD l)(n:Nat):VD (l.take n):=fun x hx=>h x (avh hx)
theorem VD.getD{l:List Int}(h:VD l)(n:Nat):0≤l.getD n 0∧l.getD n 0<4294967296:=by
 rw[aub]
 cases hn:l[n]? with
 |none=>exact⟨avo _,by decide⟩
 |some x=>exact h x (List.mem_of_getElem? hn)
theorem VD.set{l:List Int}(h:VD l)(n:Nat){x:Int}(h0:0≤x)(h1:x<4294967296):VD (l.set n x):=fun y hy=>by
 rcases avO hy with hy|rfl
 ·exact h y hy
 ·exact⟨h0,h1⟩
theorem VD.XH(n:Nat):VD (List.replicate n 0):=fun x hx=>by rw[awf hx];exact⟨avo _,by decide⟩
theorem gl: ∀{l:List Int},VD l→0≤bP l
 |[],_=>avo _
 |d::r,h=>by
  have:=gl h.tail
  have:=(h d (auo ..)).1
  simp only[bP];omega
theorem eD(n:Nat):bP (ic n)=n:=by
 induction n using Nat.strongRecOn with
 |_ n ih=>
  by_cases h:n=0
  ·subst h;rw[gk];rfl
  ·rw[rM h,bP,ih _ (by omega)];omega
theorem gm(n:Nat):VD (ic n):=by
 induction n using Nat.strongRecOn with
 |_ n ih=>
  by_cases h:n=0
  ·subst h;rw[gk];exact VD.nil
  ·rw[rM h];exact VD.cons (by omega) (by omega) (ih _ (by omega))
theorem uc{n:Nat}:ic n=[]↔n=0:=by
 constructor
 ·intro h
  by_cases hn:n=0
  ·exact hn
  ·rw[rM hn]at h;cases h
 ·rintro rfl;exact gk
theorem rN(k:Nat): ∀n,n<4294967296^k→(ic n).length≤k:=by
 induction k with
 |zero=>
  intro n h;have:n=0:=by simpa using h
  subst this;rw[gk];simp
 |succ k ih=>
  intro n h
  by_cases hn:n=0
  ·subst hn;rw[gk];simp
  ·rw[rM hn,auj]
   have:=ih (n/4294967296) (by rw[axK (by omega)];rw[awp]at h;exact h)
   omega
theorem CV(k:Nat): ∀n,(ic n).length≤k→n<4294967296^k:=by
 induction k with
 |zero=>
  intro n h
  have:ic n=[]:=avl (by omega)
  rw[uc]at this;subst this;decide
 |succ k ih=>
  intro n h
  by_cases hn:n=0
  ·subst hn;exact Nat.pow_pos (by decide)
  ·rw[rM hn,auj]at h
   have:=ih (n/4294967296) (by omega)
   rw[axK (by omega)]at this
   rw[awp];exact this
def strip:List Int→List Int
 |[]=>[]
 |d::r=>if strip r=[]∧d=0 then []else d::strip r
theorem EZ: ∀{l:List Int},VD l→strip l=ic (bP l).toNat
 |[],_=>by rw[show(bP []).toNat=0 from rfl,gk];rfl
 |d::r,h=>by
  have ih:=EZ h.tail
  have h0:=gl h.tail
  obtain⟨h1,h2⟩:=h d (auo ..)
  simp only[strip,bP,ih,uc]
  split
  ·rename_i hc
   obtain⟨hc,rfl⟩:=hc
   have:bP r=0:=by omega
   rw[this];exact gk.symm
  ·rename_i hc
   have fL:(d+4294967296*bP r).toNat≠0:=fun he=>hc ⟨by omega,by omega⟩
   rw[rM fL]
   congr 1
   ·omega
   ·congr 1;omega
theorem za: ∀(l:List Int) (x:Int),strip (l++[x])=if x=0 then strip l else l++[x]
 |[],x=>by simp[strip]
 |d::r,x=>by
  simp only[avz,strip,za r x]
  split
  ·rfl
  ·simp
theorem dK(l:List Int){k:Nat}(h:k<l.length):l.take (k+1)=l.take k++[l.getD k 0]:=by
 rw[awW h,aub,auf h];rfl
theorem BD(N:Nat)(l:List Int)(hl:l.length<68719476736): ∀(k n:Nat),k≤l.length→k<n→kf.l2 N n l (k:Int)=some (strip (l.take k))
 |0,n+1,_,_=>by
  unfold kf.l2 kf.ei
  simp (disch:=omega) only[aC,az,cK,cE,bW,cf,aI,bs,bq,b9,an,bz,aua,auc,auq,auC,at7,aue,auL,aa,aug,aud,aup,aun,auj,auA]
  simp[strip]
 |k+1,n+1,hk,hn=>by
  unfold kf.l2 kf.ei
  have e:((k+1:Nat):Int)-1=(k:Int):=by omega
  simp (disch:=omega) only[aC,az,cK,cE,bW,cf,aI,bs,bq,b9,an,bz,aua,auc,auq,auC,at7,aue,auL,aa,aug,aud,aup,aun,auj,auA,e]
  have ih:=BD N l hl k n (by omega) (by omega)
  rw[dK l (by omega),za]
  by_cases h:l.getD k 0=0
  ·rw[bW h,aua,ih,auh h]
  ·rw[cf h,auc,aui h]
   simp only[auL,auG]
theorem CW(N:Nat){l:List Int}(h:VD l)(hN:l.length<N)(hl:l.length<68719476736):kf N l=some (ic (bP l).toNat):=by
 unfold kf kf.b
 rw[BD N l hl l.length N (aul _) hN,avF,EZ h]
def bX(v:Int):au:=(decide (v<0),(ic v.natAbs,()))
theorem nO(N:Nat)(neg:Bool){l:List Int}(h:VD l)(hN:l.length<N)(hl:l.length<68719476736):Oa N neg l=some (bX (if neg then-bP l else bP l)):=by
 unfold Oa
 rw[CW N h hN hl,at7]
 have h0:=gl h
 cases neg
 ·simp only[auc,bX,au6,avQ]
  rw[auB (by omega)]
  congr 4;omega
 ·simp only[aua,bX,awt]
  have e:(-bP l).natAbs=(bP l).toNat:=by omega
  rw[e]
  congr 2
  by_cases hz:bP l=0
  ·rw[hz,auL,gk,az (by simp),auB (by omega)]
  ·have:0<(ic (bP l).toNat).length:=by
    apply avC.2
    intro hd;rw[uc]at hd;omega
   rw[aC (by omega),auv (by omega)]
theorem size_eq(N:Nat)(hN:1000≤N){u:Int}(h0:0≤u)(h1:u<18446744073709551616):F67 N u=some (ic u.toNat):=by
 unfold F67
 rw[gj h0 h1,y8]
 have hv:VD [u%4294967296,u/4294967296]:=VD.cons (by omega) (by omega) (VD.cons (by omega) (by omega) VD.nil)
 simp (disch:=omega) only[aC,az,cK,cE,bW,cf,aI,bs,bq,b9,an,bz,aua,auc,auq,auC,at7,aue,auL,aa,aug,aud,aup,aun,auj,auA,CW N hv (by simp;omega) (by simp)]
 congr 2
 simp only[bP];omega
theorem eX(N:Nat)(hN:1000≤N){x:Int}(h0: -9223372036854775808≤x)(h1:x<9223372036854775808):fM N x=some (bX x):=by
 unfold fM
 have hd: ∀n:Nat,n<18446744073709551616→(ic n).length≤2:=fun n h=>rN 2 n (by simpa using h)
 by_cases h:x<0
 ·have e:W .u64 (0-W .u64 x)= -x:=by rw[mz,mz];omega
  simp only[aC h,aua,e,size_eq N hN (show 0≤ -x by omega) (by omega),at7]
  have:=hd (-x).toNat (by omega)
  rw[nO N true (gm _) (by omega) (by omega),eD,auh rfl,show-(((-x).toNat:Nat):Int)=x from by omega];rfl
 ·have e:W .u64 x=x:=bz (by omega) (by omega)
  simp only[az (show 0≤x by omega),auc,e,size_eq N hN (show 0≤x by omega) (by omega),at7]
  have:=hd x.toNat (by omega)
  rw[nO N false (gm _) (by omega) (by omega),eD,aui axj,avp (by omega)];rfl
theorem qT(N:Nat)(l:List Int)(i:Nat):RC N l (i:Int)=some (l.getD i 0):=by
 unfold RC
 by_cases h:i<l.length
 ·simp (disch:=omega) only[aC,az,cK,cE,bW,cf,aI,bs,bq,b9,an,bz,aua,auc,auq,auC,at7,aue,auL,aa,aug,aud,aup,aun,auj,auA]
 ·simp (disch:=omega) only[aC,az,cK,cE,bW,cf,aI,bs,bq,b9,an,bz,aua,auc,auq,auC,at7,aue,auL,aa,aug,aud,aup,aun,auj,auA]
  rw[aub,auQ (by omega)];rfl
theorem gI(l:List Int)(i:Nat):bP (l.drop i)=l.getD i 0+4294967296*bP (l.drop (i+1)):=by
 by_cases h:i<l.length
 ·rw[au2 h,bP,aub,auf h];rfl
 ·rw[au0 (by omega),au0 (by omega),aub,auQ (by omega)];rfl
theorem E0(N:Nat){a b:List Int}(ha:VD a)(hb:VD b)(s0:a.length≤1000000)(HD:b.length≤1000000): ∀(m n i:Nat) (out:List Int) (c:Int),a.length+b.length+2-i≤m→m<n→out.length=i→i≤a.length+b.length+1→0≤c→c≤1→(a.length≤i→b.length≤i→i=max a.length b.length∨c=0)→
  ∃r,qc.l4 N n a b out c (i:Int)=some (out++r)∧VD r∧bP r=bP (a.drop i)+bP (b.drop i)+c∧r.length≤m
 |m,0,i,out,c,_,hn,_,_,_,_,_=>by omega
 |m,n+1,i,out,c,hm,hn,ho,hi,MJ,AP,hz=>by
  unfold qc.l4 qc.cT
  by_cases E1:a.length≤i∧b.length≤i∧c=0
  ·obtain⟨h1,h2,rfl⟩:=E1
   simp (disch:=omega) only[aC,az,cK,cE,bW,cf,aI,bs,bq,b9,an,bz,aua,auc,auq,auC,at7,aue,auL,aa,aug,aud,aup,aun,auj,auA]
   exact⟨[],by simp,VD.nil,by rw[au0 h1,au0 h2];rfl,au3 _⟩
  ·obtain⟨ga0,ga1⟩:=ha.getD i
   obtain⟨gb0,gb1⟩:=hb.getD i
   have step: ∃r,qc.j6 N (qc.l4 N n) a b out c (i:Int)=some (out++r)∧VD r∧bP r=bP (a.drop i)+bP (b.drop i)+c∧r.length≤m:=by
    unfold qc.j6 qc.MR
    have AJ:i≤a.length+b.length:=by
     by_cases h1:a.length≤i∧b.length≤i
     ·rcases hz h1.1 h1.2 with h|h
      ·omega
      ·exact absurd ⟨h1.1,h1.2,h⟩ E1
     ·omega
    simp only[qT,at7]
    generalize hga:a.getD i 0=x at*
    generalize hgb:b.getD i 0=y at*
    rw[bz (x:=x+y) (by omega) (by omega),bz (x:=c+(x+y)) (by omega) (by omega),gj (by omega) (by omega),y8]
    simp (disch:=omega) only[aC,az,cK,cE,bW,cf,aI,bs,bq,b9,an,bz,aua,auc,auq,auC,at7,aue,auL,aa,aug,aud,aup,aun,auj,auA]
    obtain⟨r,hr,hv,hs,Hs⟩:=E0 N ha hb s0 HD (m-1) n (i+1) (out++[(c+(x+y))%4294967296]) ((c+(x+y))/4294967296) (by omega) (by omega) (by simp[ho]) (by omega) (by omega) (by omega) (fun h1 h2=>by
     by_cases h3:a.length≤i∧b.length≤i
     ·right
      rw[←hga,←hgb,aub,auQ h3.1,aub,auQ h3.2]
      simp only[Option.getD_none];omega
     ·left;omega)
    refine⟨(c+(x+y))%4294967296::r,by rw[hr];simp,VD.cons (by omega) (by omega) hv,?_,by rw[auj];omega⟩
    rw[bP,hs,gI a i,gI b i,hga,hgb];omega
   by_cases h1:i<a.length
   ·simp (disch:=omega) only[aC,aua];exact step
   ·by_cases h2:i<b.length
    ·simp (disch:=omega) only[aC,az,aua,auc];exact step
    ·have:0<c:=by omega
     simp (disch:=omega) only[aC,az,aua,auc];exact step
theorem J6: ∀{l:List Int},VD l→bP l<4294967296^l.length
 |[],_=>by simp[bP]
 |d::r,h=>by
  have ih:=J6 h.tail
  obtain⟨h1,h2⟩:=h d (auo ..)
  rw[bP,auj,axD]
  generalize (4294967296:Int)^r.length=p at*
  omega
theorem E2(N:Nat)(hN:4000000≤N){a b:List Int}(ha:VD a)(hb:VD b)(s0:a.length≤1000000)(HD:b.length≤1000000): ∃r,qc N a b=some r∧VD r∧bP r=bP a+bP b∧r.length≤2000002:=by
 unfold qc qc.b
 obtain⟨r,hr,hv,hs,hl⟩:=E0 N ha hb s0 HD (a.length+b.length+2) N 0 [] 0 (by omega) (by omega) rfl (by omega) (by omega) (by omega) (fun _ _=> .inr rfl)
 exact⟨r,hr,hv,by simpa using hs,by omega⟩
theorem zb(N:Nat){a b:List Int}(ha:VD a)(hb:VD b)(s0:a.length≤1000000): ∀(m n i:Nat) (out:List Int) (c:Int),a.length-i≤m→m<n→out.length=i→i≤a.length→0≤c→c≤1→0≤bP (a.drop i)-bP (b.drop i)-c→
  ∃r,xY.l4 N n a b out c (i:Int)=some (out++r)∧VD r∧bP r=bP (a.drop i)-bP (b.drop i)-c∧r.length≤m
 |m,0,i,out,c,_,hn,_,_,_,_,_=>by omega
 |m,n+1,i,out,c,hm,hn,ho,hi,MJ,AP,hz=>by
  unfold xY.l4 xY.cT
  by_cases h1:i<a.length
  ·obtain⟨ga0,ga1⟩:=ha.getD i
   obtain⟨gb0,gb1⟩:=hb.getD i
   rw[gI a i,gI b i]at*
   simp only[qT,at7,aue]
   generalize hga:a.getD i 0=x at*
   generalize hgb:b.getD i 0=y at*
   rw[bz (x:=y+c) (by omega) (by omega),bz (x:=x+4294967296) (by omega) (by omega)]
   by_cases dz:x<y+c
   ·rw[bz (x:=x+4294967296-(y+c)) (by omega) (by omega)]
    simp (disch:=omega) only[aC,az,cK,cE,bW,cf,aI,bs,bq,b9,an,bz,aua,auc,auq,auC,at7,aue,auL,aa,aug,aud,aup,aun,auj,auA,hga,hgb]
    obtain⟨r,hr,hv,hs,Hs⟩:=zb N ha hb s0 (m-1) n (i+1) (out++[x+4294967296-(y+c)]) 1 (by omega) (by omega) (by simp[ho]) (by omega) (by omega) (by omega) (by omega)
    refine⟨(x+4294967296-(y+c))::r,by rw[hr];simp,VD.cons (by omega) (by omega) hv,by rw[bP,hs];omega,by rw[auj];omega⟩
   ·rw[bz (x:=x-(y+c)) (by omega) (by omega)]
    simp (disch:=omega) only[aC,az,cK,cE,bW,cf,aI,bs,bq,b9,an,bz,aua,auc,auq,auC,at7,aue,auL,aa,aug,aud,aup,aun,auj,auA,hga,hgb]
    obtain⟨r,hr,hv,hs,Hs⟩:=zb N ha hb s0 (m-1) n (i+1) (out++[x-(y+c)]) 0 (by omega) (by omega) (by simp[ho]) (by omega) (by omega) (by omega) (by omega)
    refine⟨(x-(y+c))::r,by rw[hr];simp,VD.cons (by omega) (by omega) hv,by rw[bP,hs];omega,by rw[auj];omega⟩
  ·simp (disch:=omega) only[aC,az,cK,cE,bW,cf,aI,bs,bq,b9,an,bz,aua,auc,auq,auC,at7,aue,auL,aa,aug,aud,aup,aun,auj,auA]
   have h0:=gl (hb.drop i)
   rw[au0 (l:=a) (by omega)]at hz ⊢
   simp only[bP]at hz ⊢
   exact⟨[],by simp,VD.nil,by simp only[bP];omega,au3 _⟩
theorem wN(N:Nat)(hN:4000000≤N){a b:List Int}(ha:VD a)(hb:VD b)(s0:a.length≤1000000)(h:bP b≤bP a): ∃r,xY N a b=some r∧VD r∧bP r=bP a-bP b∧r.length≤1000000:=by
 unfold xY xY.b
 obtain⟨r,hr,hv,hs,hl⟩:=zb N ha hb s0 a.length N 0 [] 0 (by omega) (by omega) rfl (by omega) (by omega) (by omega) (by simp;omega)
 exact⟨r,hr,hv,by simpa using hs,by omega⟩
theorem lW: ∀(l:List Int) (x:Int),bP (l++[x])=bP l+4294967296^l.length*x
 |[],x=>by simp[bP]
 |d::r,x=>by
  rw[avz,bP,lW r x,bP,auj,axD,auY _ 4294967296,ave,awd];omega
theorem E3{a b:List Int}(ha:VD a)(hb:VD b){k:Nat}(h1:k<a.length)(h2:k<b.length)(dz:a.getD k 0<b.getD k 0):bP (a.take (k+1))<bP (b.take (k+1)):=by
 rw[dK a h1,dK b h2,lW,lW]
 have l1:(a.take k).length=k:=by rw[auu];omega
 have l2:(b.take k).length=k:=by rw[auu];omega
 have v1:=J6 (ha.take k)
 have v2:=gl (hb.take k)
 rw[l1]at*
 rw[l2]
 generalize (4294967296:Int)^k=p at*
 have hp:0<p:=by have:=gl (ha.take k);omega
 have:=au4 (show a.getD k 0+1≤b.getD k 0 by omega) (av1 hp)
 rw[awd,Int.mul_one]at this
 omega
def qU(x:Int):Int:=if x<0 then-1 else if 0<x then 1 else 0
theorem E4(N:Nat){a b:List Int}(ha:VD a)(hb:VD b)(hl:a.length=b.length)(s0:a.length≤1000000): ∀(k n:Nat),k≤a.length→k<n→xr.l6 N n a b ((k:Int)-1)=some (qU (bP (a.take k)-bP (b.take k)))
 |k,0,_,hn=>by omega
 |0,n+1,_,_=>by
  unfold xr.l6 xr.ov
  simp (disch:=omega) only[aC,az,cK,cE,bW,cf,aI,bs,bq,b9,an,bz,aua,auc,auq,auC,at7,aue,auL,aa,aug,aud,aup,aun,auj,auA]
  simp[qU,bP]
 |k+1,n+1,hk,hn=>by
  unfold xr.l6 xr.ov
  have e:((k+1:Nat):Int)-1=(k:Int):=by omega
  rw[e]
  simp (disch:=omega) only[aC,az,cK,cE,bW,cf,aI,bs,bq,b9,an,bz,aua,auc,auq,auC,at7,aue,auL,aa,aug,aud,aup,aun,auj,auA]
  by_cases h1:a.getD k 0<b.getD k 0
  ·rw[aC h1,aua]
   have:=E3 ha hb (k:=k) (by omega) (by omega) h1
   rw[qU,auh (by omega)]
  ·rw[az (by omega),auc]
   by_cases h2:b.getD k 0<a.getD k 0
   ·rw[aC h2,aua]
    have:=E3 hb ha (k:=k) (by omega) (by omega) h2
    rw[qU,aui (by omega),auh (by omega)]
   ·rw[az (by omega),auc,E4 N ha hb hl s0 k n (by omega) (by omega)]
    congr 2
    rw[dK a (by omega),dK b (by omega),lW,lW,show a.getD k 0=b.getD k 0 from by omega,auu,auu,hl]
    omega
theorem E5(N:Nat)(hN:4000000≤N)(m k:Nat)(hm:(ic m).length≤1000000)(hk:(ic k).length≤1000000):xr N (ic m) (ic k)=some (qU ((m:Int)-k)):=by
 unfold xr xr.b
 by_cases h:(ic m).length=(ic k).length
 ·simp (disch:=omega) only[aC,az,cK,cE,bW,cf,aI,bs,bq,b9,an,bz,aua,auc,auq,auC,at7,aue,auL,aa,aug,aud,aup,aun,auj,auA]
  rw[E4 N (gm m) (gm k) h hm (ic m).length N (aul _) (by omega),avF,h,avF,eD,eD]
 ·rw[cf (by omega),auC,aua]
  by_cases dz:(ic m).length<(ic k).length
  ·rw[aC (by omega),aua]
   have h1:=CV ((ic k).length-1) m (by omega)
   have h2: ¬(k<4294967296^((ic k).length-1)):=fun h=>by have:=rN _ _ h;omega
   rw[qU,auh (by omega)]
  ·rw[az (by omega),auc]
   have h1:=CV ((ic m).length-1) k (by omega)
   have h2: ¬(m<4294967296^((ic m).length-1)):=fun h=>by have:=rN _ _ h;omega
   rw[qU,aui (by omega),auh (by omega)]
end VM
end
section
namespace VM
open Go VM.F
def Fit(v:Int)(k:Nat):Prop:=v.natAbs<4294967296^k
theorem Fit.len{v:Int}{k:Nat}(h:Fit v k):(ic v.natAbs).length≤k:=rN k _ h
theorem Fit.mono{v:Int}{j k:Nat}(h:Fit v j)(hjk:j≤k):Fit v k:=avn h (aw6 (by decide) hjk)
theorem Fit.neg{v:Int}{k:Nat}(h:Fit v k):Fit (-v) k:=by unfold Fit at*;rwa [Int.natAbs_neg]
theorem Fit.i64{v:Int}(h0: -9223372036854775808≤v)(h1:v<9223372036854775808):Fit v 2:=by
 unfold Fit
 rw[show(4294967296:Nat)^2=18446744073709551616 from by decide];omega
theorem Fit.add{u v:Int}{k:Nat}(hu:Fit u k)(hv:Fit v k):Fit (u+v) (k+1):=by
 unfold Fit at*
 rw[awp]
 have:(u+v).natAbs≤u.natAbs+v.natAbs:=Int.natAbs_add_le u v
 generalize 4294967296^k=p at*
 omega
theorem Fit.mul{u v:Int}{j k:Nat}(hu:Fit u j)(hv:Fit v k):Fit (u*v) (j+k):=by
 unfold Fit at*
 rw[Int.natAbs_mul,Nat.pow_add]
 exact Nat.mul_lt_mul'' hu hv
theorem Fit.of_le{u v:Int}{k:Nat}(hv:Fit v k)(h:u.natAbs≤v.natAbs):Fit u k:=Nat.lt_of_le_of_lt h hv
theorem qV(a b:Bool):lR .bool a b=(a==b):=by simp[lR]
theorem js(N:Nat)(hN:4000000≤N){u v:Int}(hu:Fit u 900000)(hv:Fit v 900000):ud N (bX u) (bX v)=some (bX (u+v)):=by
 have lu:=hu.len
 have lv:=hv.len
 unfold ud
 simp only[bX,qV]
 by_cases hs:decide (u<0)=decide (v<0)
 ·rw[hs,aw5,aua]
  obtain⟨r,hr,hvd,CH,hl⟩:=E2 N hN (gm u.natAbs) (gm v.natAbs) (by omega) (by omega)
  simp only[hr,at7,nO N _ hvd (by omega) (by omega),CH,eD]
  congr 1
  show bX _=bX _
  congr 1
  by_cases h:v<0
  ·have:u<0:=by simpa [h]using hs
   rw[auh (auv h)];omega
  ·have: ¬u<0:=by simpa [h]using hs
   rw[aui (by simpa using h)];omega
 ·have hb:(decide (u<0)==decide (v<0))=false:=by simpa using hs
  rw[hb,auc,E5 N hN _ _ (by omega) (by omega),at7]
  by_cases hc:v.natAbs≤u.natAbs
  ·have h1:bR 0 (qU ((u.natAbs:Int)-v.natAbs))=true:=cK (by unfold qU;split<;>(try split)<;>omega)
   obtain⟨r,hr,hvd,CH,hl⟩:=wN N hN (gm u.natAbs) (gm v.natAbs) (by omega) (by rw[eD,eD];omega)
   simp only[h1,aua,hr,at7,nO N _ hvd (by omega) (by omega),CH,eD]
   congr 1
   show bX _=bX _
   congr 1
   by_cases h:u<0
   ·have: ¬v<0:=fun hv=>hs (by simp[h,hv])
    rw[auh (auv h)];omega
   ·have:v<0:=axq fun hv=>hs (by simp[h,hv])
    rw[aui (by simpa using h)];omega
  ·have h1:bR 0 (qU ((u.natAbs:Int)-v.natAbs))=false:=cE (by unfold qU;rw[auh (by omega)];omega)
   obtain⟨r,hr,hvd,CH,hl⟩:=wN N hN (gm v.natAbs) (gm u.natAbs) (by omega) (by rw[eD,eD];omega)
   simp only[h1,auc,hr,at7,nO N _ hvd (by omega) (by omega),CH,eD]
   congr 1
   show bX _=bX _
   congr 1
   by_cases h:v<0
   ·have: ¬u<0:=fun hu=>hs (by simp[h,hu])
    rw[auh (auv h)];omega
   ·have:u<0:=axq fun hu=>hs (by simp[h,hu])
    rw[aui (by simpa using h)];omega
theorem rO(N:Nat)(hN:4000000≤N){u:Int}(hu:Fit u 900000):MS N (bX u)=some (bX (-u)):=by
 have lu:=hu.len
 unfold MS
 simp only[bX]
 simp only[nO N _ (gm u.natAbs) (by omega) (by omega),at7,eD]
 congr 1
 show bX _=bX _
 congr 1
 by_cases h:u<0
 ·rw[auv h,auq,aui axj];omega
 ·rw[auB h,auC,auh rfl];omega
theorem oL(N:Nat)(hN:4000000≤N){u:Int}(hu:Fit u 900000):HF N (bX u)=some (bX u.natAbs):=by
 have lu:=hu.len
 unfold HF
 simp only[bX]
 simp only[nO N _ (gm u.natAbs) (by omega) (by omega),at7,eD,au6,avQ]
 rfl
theorem pj(N:Nat)(hN:4000000≤N){u v:Int}(hu:Fit u 900000)(hv:Fit v 900000):Ij N (bX u) (bX v)=some (bX (u-v)):=by
 unfold Ij
 simp only[rO N hN hv,at7,js N hN hu hv.neg,axl]
theorem pk(N:Nat)(u:Int):J7 N (bX u)=some (qU u):=by
 unfold J7
 simp only[bX]
 by_cases h:u=0
 ·subst h
  rw[show(0:Int).natAbs=0 from rfl,gk]
  simp (disch:=omega) only[aC,az,cK,cE,bW,cf,aI,bs,bq,b9,an,bz,aua,auc,auq,auC,at7,aue,auL,aa,aug,aud,aup,aun,auj,auA]
  rfl
 ·have:0<(ic u.natAbs).length:=by
   apply avC.2
   intro hd;rw[uc]at hd;omega
  rw[cf (by omega),auc]
  by_cases hn:u<0
  ·rw[auv hn,aua,qU,auh hn]
  ·rw[auB hn,auc,qU,aui hn,auh (by omega)]
theorem CX(N:Nat)(hN:4000000≤N){u v:Int}(hu:Fit u 900000)(hv:Fit v 900000):CY N (bX u) (bX v)=some (qU (u-v)):=by
 unfold CY
 simp only[pj N hN hu hv,at7,pk]
theorem CZ(l:List Int)(h: ∀x∈l,-9223372036854775808≤x∧x<9223372036854775808): -(9223372036854775808*l.length)≤l.sum∧l.sum≤9223372036854775808*l.length:=by
 induction l with
 |nil=>simp
 |cons x l ih=>
  have:=ih (fun y hy=>h y (auk _ hy))
  obtain⟨h1,h2⟩:=h x (auo ..)
  rw[auO,auj]
  omega
theorem C0{v:Int}{n:Nat}(hn:n≤1000000)(h0: -(9223372036854775808*n)≤v)(h1:v≤9223372036854775808*n):Fit v 3:=by
 unfold Fit
 rw[show(4294967296:Nat)^3=79228162514264337593543950336 from by decide]
 omega
theorem mC{l:List Int}(h: ∀x∈l,-9223372036854775808≤x∧x<9223372036854775808)(i:Nat): -9223372036854775808≤l.getD i 0∧l.getD i 0<9223372036854775808:=by
 rw[aub]
 cases hn:l[i]? with
 |none=>exact⟨by decide,by decide⟩
 |some x=>exact h x (List.mem_of_getElem? hn)
theorem dx(l:List Int){i:Nat}(h:i<l.length):(l.take (i+1)).sum=(l.take i).sum+l.getD i 0:=by
 rw[dK l h];simp
theorem ue(N:Nat)(hN:4000000≤N){l:List Int}(h: ∀x∈l,-9223372036854775808≤x∧x<9223372036854775808)(hl:l.length≤1000000): ∀(m n i:Nat) (z:au),l.length-i≤m→m<n→i≤l.length→
  la.l3 N n l z (bX (l.take i).sum) (i:Int)=some (bX l.sum)
 |m,0,i,z,_,hn,_=>by omega
 |m,n+1,i,z,hm,hn,hi=>by
  unfold la.l3 la.ix
  by_cases h1:i<l.length
  ·obtain⟨g0,g1⟩:=mC h i
   have f1:=CZ (l.take i) (fun x hx=>h x (avh hx))
   rw[auu,avd (by omega)]at f1
   have f2:Fit (l.take i).sum 900000:=(C0 (n:=i) (by omega) f1.1 f1.2).mono (by omega)
   have f3:Fit (l.getD i 0) 900000:=(Fit.i64 g0 g1).mono (by omega)
   simp (disch:=omega) only[aC,az,cK,cE,bW,cf,aI,bs,bq,b9,an,bz,aua,auc,auq,auC,at7,aue,auL,aa,aug,aud,aup,aun,auj,auA,eX N (by omega) g0 g1,js N hN f2 f3]
   rw[←dx l h1]
   exact ue N hN h hl (m-1) n (i+1) z (by omega) (by omega) (by omega)
  ·simp (disch:=omega) only[aC,az,cK,cE,bW,cf,aI,bs,bq,b9,an,bz,aua,auc,auq,auC,at7,aue,auL,aa,aug,aud,aup,aun,auj,auA]
   rw[auM (by omega)]
theorem iQ:bX 0=(false,([],())):=by unfold bX;rw[show(0:Int).natAbs=0 from rfl,gk];rfl
theorem s7(N:Nat)(hN:4000000≤N){l:List Int}(h: ∀x∈l,-9223372036854775808≤x∧x<9223372036854775808)(hl:l.length≤1000000):la N l=some (bX l.sum):=by
 unfold la la.b
 have:=ue N hN h hl l.length N 0 (false,([],())) (by omega) (by omega) (by omega)
 rw[avD,awr,iQ]at this
 exact this
theorem Ob{a b:Int}(ha:0≤a)(Ry:a<4294967296)(hb:0≤b)(jN:b<4294967296):iZ .or .u64 a (b*4294967296)=a+b*4294967296:=by
 rw[CU ha (by omega) (by omega) (by omega)]
 have h:=awv (i:=32) (b:=a.toNat) (by omega) b.toNat
 have e:(b*4294967296).toNat=2^32*b.toNat:=by omega
 rw[e,Nat.or_comm,←h];omega
theorem Lr{a b:Int}(ha:0≤a)(Ry:a<4294967296)(hb:0≤b)(jN:b<4294967296):iZ .or .u64 (b*4294967296) a=a+b*4294967296:=by
 rw[CU (by omega) (by omega) ha (by omega)]
 have h:=awv (i:=32) (b:=a.toNat) (by omega) b.toNat
 have e:(b*4294967296).toNat=2^32*b.toNat:=by omega
 rw[e,←h];omega
theorem XI{x:Int}(h0:0≤x):shl .u64 x 32=x*4294967296:=by rw[J1 (by omega) (by omega)];rfl
def xt(v:Int):Int×Bool:=if-9223372036854775808≤v∧v<9223372036854775808 then(v,true)else(0,false)
theorem RD{n:Nat}(h:(ic n).length≤2):(ic n).getD 0 0+4294967296*(ic n).getD 1 0=n:=by
 have h1:=gI (ic n) 0
 have h2:=gI (ic n) 1
 rw[auG,eD]at h1
 rw[au0 (l:=ic n) (i:=1+1) h]at h2
 simp only[bP,avk]at h1 h2
 omega
theorem qW(N:Nat)(v:Int):qX N (bX v)=some (xt v):=by
 unfold qX
 simp only[bX]
 by_cases hl:2<(ic v.natAbs).length
 ·rw[aC (by omega),aua,xt,aui]
  intro hh
  have:=rN 2 v.natAbs (by rw[show(4294967296:Nat)^2=18446744073709551616 from by decide];omega)
  omega
 ·have h2:=RD (n:=v.natAbs) (by omega)
  obtain⟨a0,a1⟩:=(gm v.natAbs).getD 0
  obtain⟨b0,b1⟩:=(gm v.natAbs).getD 1
  have e0:=qT N (ic v.natAbs) 0
  have e1:=qT N (ic v.natAbs) 1
  simp only[Int.natCast_zero,Int.natCast_one]at e0 e1
  rw[az (by omega),auc,e0,e1]
  generalize (ic v.natAbs).getD 0 0=a at*
  generalize (ic v.natAbs).getD 1 0=b at*
  simp only[at7]
  rw[az (show(0:Int)≤32 by omega),auc,XI b0,bz (x:=b*4294967296) (by omega) (by omega),Ob a0 a1 b0 b1]
  have ev:a+b*4294967296=v.natAbs:=by omega
  rw[ev]
  by_cases hn:v<0
  ·rw[auv hn,aua]
   by_cases y6:9223372036854775808<(v.natAbs:Int)
   ·rw[aC y6,aua,xt,aui (by omega)]
   ·rw[az (by omega),auc,xt,auh (by omega),mz,gH]
    congr 2
    split<;>omega
  ·rw[auB hn,auc]
   by_cases y6:9223372036854775807<(v.natAbs:Int)
   ·rw[aC y6,aua,xt,aui (by omega)]
   ·rw[az (by omega),auc,xt,auh (by omega),an (by omega) (by omega)]
    congr 2;omega
end VM
end
section
namespace VM
open Go VM.F
theorem E6: ∀(l:List Int) (k:Nat) (x:Int),k<l.length→bP (l.set k x)=bP l+4294967296^k*(x-l.getD k 0)
 |d::r,0,x,_=>by simp[bP];omega
 |d::r,k+1,x,h=>by
  have ih:=E6 r k x (by simpa using h)
  rw[List.set_cons_succ,bP,bP,ih,List.getD_cons_succ,axD,auY (4294967296^k) 4294967296,ave,awd];omega
theorem getD_set_ne(l:List Int){j k:Nat}(x:Int)(h:j≠k):(l.set j x).getD k 0=l.getD k 0:=by
 simp[aub,List.getElem?_set_ne h]
theorem gn(l:List Int){k:Nat}(x:Int)(h:k<l.length):(l.set k x).getD k 0=x:=by
 simp[aub,List.getElem?_set,h]
theorem pn(l:List Int){k:Nat}(h:l.length≤k):l.getD k 0=0:=by
 rw[aub,auQ h];rfl
theorem wO(N:Nat)(K:au→au→au→List Int→Int→Option au){a b:List Int}(na nb:Bool)(z:au)(ha:VD a)(hb:VD b)(i:Nat)(hi:i<a.length)(s0:a.length≤100000)(HD:b.length≤100000):
  ∀(m n j:Nat) (out:List Int) (c:Int),b.length+1-j≤m→m<n→VD out→out.length=a.length+b.length+1→0≤c→c<4294967296→(j≤b.length→ ∀k,i+b.length≤k→out.getD k 0=0)→(b.length<j→c=0∧j=b.length+1∧ ∀k,i+b.length+1≤k→out.getD k 0=0)→
  ∃s8,fN.l7 N K n (na,(a,())) (nb,(b,())) z out (i:Int) c (j:Int)=K (na,(a,())) (nb,(b,())) z s8 ((i+1:Nat):Int)∧VD s8∧s8.length=out.length∧
   bP s8=bP out+4294967296^i*(4294967296^j*(a.getD i 0*bP (b.drop j)+c))∧ ∀k,i+1+b.length≤k→s8.getD k 0=0
 |m,0,j,out,c,_,hn,_,_,_,_,_,_=>by omega
 |m,n+1,j,out,c,hm,hn,ho,DU,MJ,AP,hz,HE=>by
  unfold fN.l7 fN.n9
  by_cases E1:b.length≤j∧c=0
  ·obtain⟨h1,rfl⟩:=E1
   simp (disch:=omega) only[aC,az,cK,cE,bW,cf,aI,bs,bq,b9,an,bz,aua,auc,auq,auC,at7,aue,auL,aa,aug,aud,aup,aun,auj,auA]
   refine⟨out,rfl,ho,rfl,by rw[au0 h1];simp[bP],fun k hk=> ?_⟩
   by_cases hj:j≤b.length
   ·exact hz hj k (by omega)
   ·exact(HE (by omega)).2.2 k (by omega)
  ·have AA:j≤b.length:=by
    by_cases hj:j≤b.length
    ·exact hj
    ·exact absurd ⟨by omega,(HE (by omega)).1⟩ E1
   obtain⟨ga0,ga1⟩:=ha.getD i
   obtain⟨gb0,gb1⟩:=hb.getD j
   obtain⟨go0,go1⟩:=ho.getD (i+j)
   have step: ∃s8,fN.j9 N K (fN.l7 N K n) (na,(a,())) (nb,(b,())) z out (i:Int) c (j:Int)=K (na,(a,())) (nb,(b,())) z s8 ((i+1:Nat):Int)∧VD s8∧s8.length=out.length∧
     bP s8=bP out+4294967296^i*(4294967296^j*(a.getD i 0*bP (b.drop j)+c))∧ ∀k,i+1+b.length≤k→s8.getD k 0=0:=by
    unfold fN.j9 fN.Ik
    have eij:(i:Int)+(j:Int)=((i+j:Nat):Int):=rfl
    have hp:=mul_lt (m:=4294967295) (n:=4294967295) ga0 gb0 (by omega) (by omega)
    simp only[qT,at7,eij,aue]
    simp (disch:=omega) only[aC,az,cK,cE,bW,cf,aI,bs,bq,b9,an,bz,aua,auc,auq,auC,at7,aue,auL,aa,aug,aud,aup,aun,auj,auA]
    generalize hx:out.getD (i+j) 0=x at*
    generalize ha':a.getD i 0=ai at*
    generalize dy:b.getD j 0=bj at*
    generalize hpe:ai*bj=p at*
    have hpz:b.length≤j→p=0∧x=0:=fun h=>by
     rw[pn b h]at dy
     refine⟨by rw[←hpe,←dy,Int.mul_zero],?_⟩
     rw[←hx];exact hz AA _ (by omega)
    rw[gj (by omega) (by omega),y8]
    have akh:(out.set (i+j) ((c+(x+p))%4294967296)).length=a.length+b.length+1:=by rw[aup];exact DU
    obtain⟨s8,h1,h2,h3,h4,h5⟩:=wO N K na nb z ha hb i hi s0 HD (m-1) n (j+1) (out.set (i+j) ((c+(x+p))%4294967296)) ((c+(x+p))/4294967296) (by omega) (by omega) (ho.set _ (by omega) (by omega)) akh (by omega) (by omega)
     (fun h k hk=>by rw[getD_set_ne _ _ (by omega)];exact hz AA k hk)
     (fun h=>by
      obtain⟨MO,JQ⟩:=hpz (by omega)
      refine⟨by omega,by omega,fun k hk=> ?_⟩
      rw[getD_set_ne _ _ (by omega)];exact hz AA k (by omega))
    refine⟨s8,h1,h2,by rw[h3,aup],?_,h5⟩
    rw[h4,E6 _ _ _ (by omega),hx,ha',gI b j,dy,awd ai,hpe,Int.pow_add,axD]
    have e1:ai*(4294967296*bP (b.drop (j+1)))=4294967296*(ai*bP (b.drop (j+1))):=Int.mul_left_comm _ _ _
    rw[e1]
    generalize ai*bP (b.drop (j+1))=y
    generalize (4294967296:Int)^i=P
    generalize (4294967296:Int)^j=R
    rw[ave R,ave P,Int.add_assoc,←awd,←awd]
    congr 3
    omega
   by_cases h1:j<b.length
   ·simp (disch:=omega) only[aC,aua];exact step
   ·have:0<c:=by omega
    simp (disch:=omega) only[aC,az,aua,auc];exact step
theorem wP(N:Nat)(hN:4000000≤N){a b:List Int}(na nb:Bool)(z:au)(ha:VD a)(hb:VD b)(s0:a.length≤100000)(HD:b.length≤100000):
  ∀(m n i:Nat) (out:List Int),a.length-i≤m→m<n→i≤a.length→VD out→out.length=a.length+b.length+1→(∀k,i+b.length≤k→out.getD k 0=0)→bP out=bP (a.take i)*bP b→
  fN.l3 N n (na,(a,())) (nb,(b,())) z out (i:Int)=some (bX (if na=nb then bP a*bP b else-(bP a*bP b)))
 |m,0,i,out,_,hn,_,_,_,_,_=>by omega
 |m,n+1,i,out,hm,hn,hi,ho,DU,hz,hv=>by
  unfold fN.l3 fN.ix
  by_cases h1:i<a.length
  ·simp only
   rw[aC (by omega),aua]
   obtain⟨s8,e1,e2,e3,e4,e5⟩:=wO N (fN.l3 N n) na nb z ha hb i h1 s0 HD (b.length+1) N 0 out 0 (by omega) (by omega) ho DU (by omega) (by omega) (fun _ k hk=>hz k hk) (fun h=>by omega)
   rw[show((0:Nat):Int)=0 from rfl]at e1
   rw[e1]
   refine wP N hN na nb z ha hb s0 HD (m-1) n (i+1) s8 (by omega) (by omega) (by omega) e2 (by rw[e3];exact DU) (fun k hk=>e5 k (by omega)) ?_
   rw[e4,hv,dK a h1,lW,auu,avd (by omega),auG,Int.pow_zero,awP,axd,avV,ave]
  ·simp only
   rw[az (by omega),auc]
   simp only[nO N _ ho (by omega) (by omega),at7]
   rw[hv,auM (by omega),qV]
   congr 2
   cases na<;>cases nb<;>simp
theorem ug(N:Nat)(hN:4000000≤N){u v:Int}(hu:Fit u 90000)(hv:Fit v 90000):fN N (bX u) (bX v)=some (bX (u*v)):=by
 have lu:=hu.len
 have lv:=hv.len
 unfold fN fN.b
 simp only[bX]
 simp (disch:=omega) only[aC,az,cK,cE,bW,cf,aI,bs,bq,b9,an,bz,aua,auc,auq,auC,at7,aue,auL,aa,aug,aud,aup,aun,auj,auA]
 have e:(((ic u.natAbs).length:Int)+((ic v.natAbs).length:Int)+1).toNat=(ic u.natAbs).length+(ic v.natAbs).length+1:=by omega
 have:=wP N hN (decide (u<0)) (decide (v<0)) (false,([],())) (gm u.natAbs) (gm v.natAbs) (by omega) (by omega) (ic u.natAbs).length N 0 (List.replicate ((ic u.natAbs).length+(ic v.natAbs).length+1) 0) (by omega) (by omega) (by omega) (VD.XH _) (by simp)
  (fun k _=>by rw[aub,awQ];split<;>rfl) (by
   have: ∀n,bP (List.replicate n 0)=0:=fun n=>by
    induction n with
    |zero=>rfl
    |succ n ih=>rw[awF,bP,ih];rfl
   rw[this];simp[bP])
 rw[eD,eD]at this
 have e2:(((ic u.natAbs).length+(ic v.natAbs).length:Nat):Int)+1=(ic u.natAbs).length+(ic v.natAbs).length+1:=by omega
 first
 |(rw[e];refine this.trans ?_)
 |(refine(this).trans ?_)
 show some (bX _)=some (bX _)
 congr 2
 have key:(u.natAbs:Int)*v.natAbs=if decide (u<0)=decide (v<0)then u*v else-(u*v):=by
  by_cases h1:u<0<;>by_cases h2:v<0
  ·rw[auh (by simp[h1,h2]),show(u.natAbs:Int)= -u from by omega,show(v.natAbs:Int)= -v from by omega,Int.neg_mul_neg]
  ·rw[aui (by simp[h1,h2]),show(u.natAbs:Int)= -u from by omega,show(v.natAbs:Int)=v from by omega,Int.neg_mul]
  ·rw[aui (by simp[h1,h2]),show(u.natAbs:Int)=u from by omega,show(v.natAbs:Int)= -v from by omega,aw7]
  ·rw[auh (by simp[h1,h2]),show(u.natAbs:Int)=u from by omega,show(v.natAbs:Int)=v from by omega]
 rw[key]
 split<;>simp
end VM
end
