/- A part of the proof of HedgeDrawn of layer 22: what the functions compute, in plain words. -/
import Derived.Test.YtocmlaipoebfeaaGreatVm0
import GoSem.Claim
import Derived.Test.YtocmlaipoebfeaaGreatText
set_option linter.all false
section
namespace VM
open Go
theorem ju(x:Int):W .u64 x=x%18446744073709551616:=by rw[yQ];simp[IntKind.wrap,IntKind.bits,IntKind.signed]
theorem bG{x:Int}(h0:0≤x)(h1:x<18446744073709551616):W .u64 x=x:=by rw[ju];omega
theorem dZ(x:Int):W .i64 x=if 9223372036854775808≤x%18446744073709551616 then x%18446744073709551616-18446744073709551616 else x%18446744073709551616:=by
 rw[yQ];simp[IntKind.wrap,IntKind.bits,IntKind.signed]
theorem ak{x:Int}(h0: -9223372036854775808≤x)(h1:x<9223372036854775808):W .i64 x=x:=by
 rw[dZ];split<;>omega
theorem aiB{x:Int}(h0:0≤x)(h1:x<256):W .u8 x=x:=by rw[yQ];simp[IntKind.wrap,IntKind.bits,IntKind.signed];omega
theorem wf_u64{x:Int}:(Lit.int .u64 x).wf=true↔0≤x∧x≤18446744073709551615:=by simp[Lit.wf,IntKind.min,IntKind.max,IntKind.bits,IntKind.signed]
theorem aE{x y:Int}(h:x<y):aG x y=true:=by rw[pz];exact ayO h
theorem az{x y:Int}(h:y≤x):aG x y=false:=by rw[pz];exact ayR (by omega)
theorem cX{x y:Int}(h:x≤y):bX x y=true:=by rw[jW];exact ayO h
theorem cP{x y:Int}(h:y<x):bX x y=false:=by rw[jW];exact ayR (by omega)
theorem cQ{x y:Int}(h:x=y):aA x y=true:=by rw[gh];exact ayO h
theorem cJ{x y:Int}(h:x≠y):aA x y=false:=by rw[gh];exact ayR h
theorem aF{i:Int}{n:Nat}(h0:0≤i)(h1:i<n):aI i n=true:=by rw[KM];exact ayO ⟨h0,h1⟩
theorem a8{n:Nat}(h:n<68719476736):small n=true:=by rw[z7];exact ayO (by simpa [u7]using h)
theorem bJ{l c:Int}(h0:0≤l)(h1:l≤c)(h2:c<68719476736):gg l c=true:=by rw[Dd];exact ayO (by simp only[u7];omega)
theorem cH{l h m n:Int}(h0:0≤l)(h1:l≤h)(h2:h≤m)(h3:m≤n):gH l h m n=true:=by rw[vg];exact ayO ⟨h0,h1,h2,h3⟩
theorem ae(n:Nat):(n:Int)+1=((n+1:Nat):Int):=rfl
theorem o6(x:Int)(h0:0≤x)(h1:x<18446744073709551616):(BitVec.ofInt 64 x).toNat=x.toNat:=by
 rw[BitVec.toNat_ofInt];congr 1;omega
theorem HB{x y:Int}(hx:0≤x)(Rw:x<18446744073709551616)(hy:0≤y)(U8:y<18446744073709551616):jH .and .u64 x y=((x.toNat&&& y.toNat:Nat):Int):=by
 rw[qt]
 have h:((BitVec.ofInt 64 x&&& BitVec.ofInt 64 y).toNat)=x.toNat&&& y.toNat:=by rw[BitVec.toNat_and,o6 x hx Rw,o6 y hy U8]
 show IntKind.u64.wrap (((BitVec.ofInt 64 x&&& BitVec.ofInt 64 y).toNat:Nat):Int)=_
 rw[h,←yQ]
 have:x.toNat&&& y.toNat≤x.toNat:=Nat.and_le_left
 exact bG (by omega) (by omega)
theorem Ff{x y:Int}(hx:0≤x)(Rw:x<18446744073709551616)(hy:0≤y)(U8:y<18446744073709551616):jH .or .u64 x y=((x.toNat|||y.toNat:Nat):Int):=by
 rw[qt]
 have h:((BitVec.ofInt 64 x|||BitVec.ofInt 64 y).toNat)=x.toNat|||y.toNat:=by rw[BitVec.toNat_or,o6 x hx Rw,o6 y hy U8]
 show IntKind.u64.wrap (((BitVec.ofInt 64 x|||BitVec.ofInt 64 y).toNat:Nat):Int)=_
 rw[h,←yQ]
 have:x.toNat|||y.toNat<2^64:=Nat.or_lt_two_pow (by omega) (by omega)
 exact bG (by omega) (by omega)
theorem gM{x:Int}(h0:0≤x)(h1:x<18446744073709551616):jH .and .u64 x 4294967295=x%4294967296:=by
 rw[HB h0 h1 (by omega) (by omega)]
 have:=aBr x.toNat 32
 rw[show((4294967295:Int).toNat)=2^32-1 from rfl,this]
 omega
theorem ta{x y:Int}(h0:0≤y)(h1:y≤64):shr .u64 x y=x/2^y.toNat:=by
 rw[KN]
 have:min y.toNat IntKind.u64.bits=y.toNat:=by simp[IntKind.bits];omega
 rw[this,aBD]
 exact_mod_cast azn _
theorem AO(x:Int):shr .u64 x 32=x/4294967296:=by rw[ta (by omega) (by omega)];rfl
theorem aoc(x:Int):shr .u64 x 1=x/2:=by rw[ta (by omega) (by omega)];rfl
theorem qH{x:Int}(h0: -9223372036854775808≤x)(h1:x<9223372036854775808):shr .i64 x 63=if x<0 then-1 else 0:=by
 rw[KN]
 have:(2:Int)^(min (63:Int).toNat IntKind.i64.bits)=9223372036854775808:=by rfl
 rw[this,aBD _ (by omega)]
 split<;>omega
theorem Ng{x y:Int}(h0:0≤y)(h1:y≤64):shl .u64 x y=x*2^y.toNat:=by
 rw[Qt]
 have:min y.toNat IntKind.u64.bits=y.toNat:=by simp[IntKind.bits];omega
 rw[this]
theorem mul_lt{a b m n:Int}(ha:0≤a)(hb:0≤b)(ham:a≤m)(hbn:b≤n):0≤a*b∧a*b≤m*n:=
 ⟨aAb ha hb,aAc (azs ham hb) (azm hbn (by omega))⟩
end VM
end
section
namespace VM
open Go VM.F
theorem ON(a b:Int):a*b=(a/4294967296)*(b/4294967296)*18446744073709551616+((a/4294967296)*(b%4294967296)+(a%4294967296)*(b/4294967296))*4294967296+(a%4294967296)*(b%4294967296):=by
 have ha:a=(a/4294967296)*4294967296+a%4294967296:=by omega
 have hb:b=(b/4294967296)*4294967296+b%4294967296:=by omega
 generalize a/4294967296=a1 at*
 generalize a%4294967296=a0 at*
 generalize b/4294967296=b1 at*
 generalize b%4294967296=b0 at*
 subst ha;subst hb
 simp only[aAx,aAE]
 have e1:a1*4294967296*(b1*4294967296)=a1*b1*18446744073709551616:=by
  rw[azE,Int.mul_left_comm 4294967296,←azE];rfl
 have e2:a1*4294967296*b0=a1*b0*4294967296:=by rw[azE,azt 4294967296,←azE]
 have e3:a0*(b1*4294967296)=a0*b1*4294967296:=by rw[←azE]
 rw[e1,e2,e3];omega
theorem AP(N:Nat){a b:Int}(ha:0≤a)(U9:a<18446744073709551616)(hb:0≤b)(kI:b<18446744073709551616):
  OO N a b=some (a*b/18446744073709551616,a*b%18446744073709551616):=by
 unfold OO
 have hm:=ON a b
 have h1:=mul_lt (m:=4294967295) (n:=4294967295) (show 0≤a/4294967296 by omega) (show 0≤b/4294967296 by omega) (by omega) (by omega)
 have h2:=mul_lt (m:=4294967295) (n:=4294967295) (show 0≤a/4294967296 by omega) (show 0≤b%4294967296 by omega) (by omega) (by omega)
 have h3:=mul_lt (m:=4294967295) (n:=4294967295) (show 0≤a%4294967296 by omega) (show 0≤b/4294967296 by omega) (by omega) (by omega)
 have h4:=mul_lt (m:=4294967295) (n:=4294967295) (show 0≤a%4294967296 by omega) (show 0≤b%4294967296 by omega) (by omega) (by omega)
 simp only[az (show(0:Int)≤32 by omega),ayB,gM ha U9,gM hb kI,AO]
 generalize a/4294967296=a1 at*
 generalize a%4294967296=a0 at*
 generalize b/4294967296=b1 at*
 generalize b%4294967296=b0 at*
 generalize a*b=ab at*
 generalize a1*b1=p at*
 generalize a1*b0=q at*
 generalize a0*b1=r at*
 generalize a0*b0=s at*
 rw[bG (x:=q) (by omega) (by omega),bG (x:=s) (by omega) (by omega),bG (x:=r) (by omega) (by omega),bG (x:=p) (by omega) (by omega),bG (x:=q+s/4294967296) (by omega) (by omega),
  gM (by omega) (by omega),bG (x:=(q+s/4294967296)%4294967296+r) (by omega) (by omega),bG (x:=p+(q+s/4294967296)/4294967296) (by omega) (by omega),bG (x:=p+(q+s/4294967296)/4294967296+_) (by omega) (by omega),ju]
 congr 2
 omega
end VM
end
section
namespace VM
open Go VM.F
theorem Fg(N:Nat){x:Int}(h0: -9223372036854775808≤x)(h1:x<9223372036854775808):F96 N x=some (x.natAbs:Int):=by
 unfold F96
 by_cases h:x<0
 ·rw[aE h,ayz,ju,ju];congr 1;omega
 ·rw[az (by omega),ayB,ju];congr 1;omega
theorem p4(N:Nat){x y c:Int}(hx:0≤x)(hy:0≤y)(hc:0≤c)(CF:c≤1):oT N x y c=some ((x+y+c)%18446744073709551616,(x+y+c)/18446744073709551616):=by
 unfold oT;rw[ayF ⟨hx,hy,hc,CF⟩]
theorem iI(N:Nat){x y c:Int}(hx:0≤x)(Rw:x<18446744073709551616)(hy:0≤y)(U8:y<18446744073709551616)(hc:0≤c)(CF:c≤1):
  oU N x y c=some ((x-y-c)%18446744073709551616,if x<y+c then 1 else 0):=by
 unfold oU;rw[ayF ⟨hx,Rw,hy,U8,hc,CF⟩];congr 2;omega
def bitLen(n:Nat):Nat:=if n=0 then 0 else bitLen (n/2)+1
termination_by n
decreasing_by omega
theorem nY{n:Nat}(h:n≠0):bitLen n=bitLen (n/2)+1:=by rw[bitLen];simp[h]
theorem ss:bitLen 0=0:=by rw[bitLen];rfl
theorem bitLen_shift(k:Nat): ∀n,2^k≤n→bitLen n=bitLen (n/2^k)+k:=by
 induction k with
 |zero=>intro n _;simp
 |succ k ih=>
  intro n h
  have hp:0<2^k:=Nat.pow_pos (by decide)
  rw[aAR]at h
  rw[nY (by omega),ih (n/2) (by omega),Nat.div_div_eq_div_mul,aAR,aBV 2];omega
theorem bitLen_spec(n:Nat):n<2^bitLen n∧(n≠0→2^(bitLen n-1)≤n):=by
 induction n using Nat.strongRecOn with
 |_ n ih=>
  by_cases h:n=0
  ·subst h;rw[ss];simp
  ·rw[nY h]
   obtain⟨h1,h2⟩:=ih (n/2) (by omega)
   refine⟨by rw[aAR];omega,fun _=> ?_⟩
   rw[Nat.add_sub_cancel]
   by_cases h3:n/2=0
   ·rw[h3,ss];simp;omega
   ·have:=h2 h3
    have e:bitLen (n/2)=(bitLen (n/2)-1)+1:=by rw[nY h3];omega
    rw[e,aAR];omega
theorem Va: ∀i:Fin 256,((strOf [0,1,2,2,3,3,3,3,4,4,4,4,4,4,4,4,5,5,5,5,5,5,5,5,5,5,5,5,5,5,5,5,6,6,6,6,6,6,6,6,6,6,6,6,6,6,6,6,6,6,6,6,6,6,6,6,6,6,6,6,6,6,6,6,7,7,7,7,7,7,7,7,7,7,7,7,7,7,7,7,7,7,7,7,7,7,7,7,7,7,7,7,7,7,7,7,7,7,7,7,7,7,7,7,7,7,7,7,7,7,7,7,7,7,7,7,7,7,7,7,7,7,7,7,7,7,7,7,8,8,8,8,8,8,8,8,8,8,8,8,8,8,8,8,8,8,8,8,8,8,8,8,8,8,8,8,8,8,8,8,8,8,8,8,8,8,8,8,8,8,8,8,8,8,8,8,8,8,8,8,8,8,8,8,8,8,8,8,8,8,8,8,8,8,8,8,8,8,8,8,8,8,8,8,8,8,8,8,8,8,8,8,8,8,8,8,8,8,8,8,8,8,8,8,8,8,8,8,8,8,8,8,8,8,8,8,8,8,8,8,8,8,8,8,8,8,8,8,8,8,8,8,8,8,8,8]).data.getD i.val 0).toNat=Nat.log2 (2*i.val+1):=by decide+kernel
theorem yh(n:Nat):Nat.log2 (2*n+1)=bitLen n:=by
 induction n using Nat.strongRecOn with
 |_ n ih=>
  by_cases h:n=0
  ·subst h;rw[ss];decide
  ·rw[nY h,aCc,ayF (by omega),show(2*n+1)/2=n from by omega]
   congr 1
   have:=ih (n/2) (by omega)
   rw[←this]
   by_cases h2:n%2=0
   ·rw[aCc,aCc (n:=2*(n/2)+1)]
    have e1:(2*(n/2)+1)/2=n/2:=by omega
    rw[ayF (by omega),ayF (by omega),e1]
   ·congr 1;omega
theorem HC(i:Nat)(h:i<256):((strOf [0,1,2,2,3,3,3,3,4,4,4,4,4,4,4,4,5,5,5,5,5,5,5,5,5,5,5,5,5,5,5,5,6,6,6,6,6,6,6,6,6,6,6,6,6,6,6,6,6,6,6,6,6,6,6,6,6,6,6,6,6,6,6,6,7,7,7,7,7,7,7,7,7,7,7,7,7,7,7,7,7,7,7,7,7,7,7,7,7,7,7,7,7,7,7,7,7,7,7,7,7,7,7,7,7,7,7,7,7,7,7,7,7,7,7,7,7,7,7,7,7,7,7,7,7,7,7,7,8,8,8,8,8,8,8,8,8,8,8,8,8,8,8,8,8,8,8,8,8,8,8,8,8,8,8,8,8,8,8,8,8,8,8,8,8,8,8,8,8,8,8,8,8,8,8,8,8,8,8,8,8,8,8,8,8,8,8,8,8,8,8,8,8,8,8,8,8,8,8,8,8,8,8,8,8,8,8,8,8,8,8,8,8,8,8,8,8,8,8,8,8,8,8,8,8,8,8,8,8,8,8,8,8,8,8,8,8,8,8,8,8,8,8,8,8,8,8,8,8,8,8,8,8,8,8,8]).data.getD i 0).toNat=bitLen i:=by
 rw[←yh];exact Va ⟨i,h⟩
theorem HD:ByteArray.size (strOf [0,1,2,2,3,3,3,3,4,4,4,4,4,4,4,4,5,5,5,5,5,5,5,5,5,5,5,5,5,5,5,5,6,6,6,6,6,6,6,6,6,6,6,6,6,6,6,6,6,6,6,6,6,6,6,6,6,6,6,6,6,6,6,6,7,7,7,7,7,7,7,7,7,7,7,7,7,7,7,7,7,7,7,7,7,7,7,7,7,7,7,7,7,7,7,7,7,7,7,7,7,7,7,7,7,7,7,7,7,7,7,7,7,7,7,7,7,7,7,7,7,7,7,7,7,7,7,7,8,8,8,8,8,8,8,8,8,8,8,8,8,8,8,8,8,8,8,8,8,8,8,8,8,8,8,8,8,8,8,8,8,8,8,8,8,8,8,8,8,8,8,8,8,8,8,8,8,8,8,8,8,8,8,8,8,8,8,8,8,8,8,8,8,8,8,8,8,8,8,8,8,8,8,8,8,8,8,8,8,8,8,8,8,8,8,8,8,8,8,8,8,8,8,8,8,8,8,8,8,8,8,8,8,8,8,8,8,8,8,8,8,8,8,8,8,8,8,8,8,8,8,8,8,8,8,8])=256:=by decide+kernel
set_option maxRecDepth 100000 in
theorem Nh(N:Nat){x c:Int}(h0:0≤x)(h1:x<65536)(hc:0≤c)(CF:c≤100):jJ.j7 N x c=some (c+bitLen x.toNat):=by
 unfold jJ.j7 jJ.K8
 have h8:shr .u64 x 8=x/256:=by rw[ta (by omega) (by omega)];rfl
 have hle: ∀n,n<256→bitLen n≤8:=fun n hn=>by
  rw[←yh]
  have:Nat.log2 (2*n+1)<9:=(Nat.log2_lt (by omega)).2 (by omega)
  omega
 by_cases h:256≤x
 ·have ht:=HC (x/256).toNat (by omega)
  have hl:=hle (x/256).toNat (by omega)
  rw[cX h,ayz,az (show(0:Int)≤8 by omega),ayB,h8]
  rw[aiB (x:=x/256) (by omega) (by omega)]
  extract_lets v8
  rw[HD,aF (by omega) (by omega),ayz,ht]
  clear ht
  simp (disch:=omega) only[aE,az,cX,cP,cQ,cJ,aF,a8,bJ,cH,ak,bG,ayz,ayB,ayL,ay4,ayy,ayD,azb,ae,ayH,ayA,ayT,ayS,ayI,ayW]
  have:=bitLen_shift 8 x.toNat (by omega)
  rw[this]
  have e:(x/256).toNat=x.toNat/2^8:=by omega
  rw[e];congr 1;omega
 ·have ht:=HC x.toNat (by omega)
  have hl:=hle x.toNat (by omega)
  rw[cP (by omega),ayB,aiB (x:=x) (by omega) (by omega)]
  extract_lets v8
  rw[HD,aF (by omega) (by omega),ayz,ht]
  clear ht
  simp (disch:=omega) only[aE,az,cX,cP,cQ,cJ,aF,a8,bJ,cH,ak,bG,ayz,ayB,ayL,ay4,ayy,ayD,azb,ae,ayH,ayA,ayT,ayS,ayI,ayW]
theorem Rx(N:Nat){x:Int}(h0:0≤x)(h1:x<18446744073709551616):jJ N x=some (bitLen x.toNat:Int):=by
 have h16: ∀y c:Int,0≤y→y<4294967296→0≤c→c≤50→jJ.j4 N y c=some (c+bitLen y.toNat):=fun y c hy0 U8 hc CF=>by
  unfold jJ.j4 jJ.j4b
  by_cases h:65536≤y
  ·have e:shr .u64 y 16=y/65536:=by rw[ta (by omega) (by omega)];rfl
   rw[cX h,ayz,az (by omega),ayB,e,ak (by omega) (by omega),Nh N (by omega) (by omega) (by omega) (by omega)]
   have:=bitLen_shift 16 y.toNat (by omega)
   rw[this]
   have e:(y/65536).toNat=y.toNat/2^16:=by omega
   rw[e];congr 1;omega
  ·rw[cP (by omega),ayB,Nh N hy0 (by omega) hc (by omega)]
 unfold jJ jJ.b
 by_cases h:4294967296≤x
 ·rw[cX h,ayz,az (by omega),ayB,AO,h16 _ _ (by omega) (by omega) (by omega) (by omega)]
  have:=bitLen_shift 32 x.toNat (by omega)
  rw[this]
  have e:(x/4294967296).toNat=x.toNat/2^32:=by omega
  rw[e];congr 1;omega
 ·rw[cP (by omega),ayB,h16 _ _ h0 (by omega) (by omega) (by omega)]
  congr 1;omega
end VM
end
section
namespace VM
open Go VM.F
structure lV(Y yn1 yn0 un32 un1 q rh:Int):Prop where
 hY:Y=yn1*4294967296+yn0
 y1:2147483648≤yn1
 y1':yn1<4294967296
 y0:0≤yn0
 y0':yn0<4294967296
 u1:0≤un1
 u1':un1<4294967296
 lt:un32<Y
 q0:0≤q
 eq:q*yn1+rh=un32
 r0:0≤rh
 q1:q≤4294967297
 ge:(un32*4294967296+un1)/Y≤q
theorem lV.prod{Y yn1 yn0 un32 un1 q rh:Int}(g:lV Y yn1 yn0 un32 un1 q rh):q*Y=(un32-rh)*4294967296+q*yn0∧0≤q*yn0∧q*yn0≤18446744073709551615:=by
 have h:=mul_lt (m:=4294967297) (n:=4294967295) g.q0 g.y0 g.q1 (by have:=g.y0';omega)
 refine⟨?_,h.1,by omega⟩
 rw[g.hY,aAE,←azE,show q*yn1=un32-rh from by have:=g.eq;omega]
theorem lV.pos{Y yn1 yn0 un32 un1 q rh:Int}(g:lV Y yn1 yn0 un32 un1 q rh):0<Y:=by have:=g.hY;have:=g.y1;have:=g.y0;omega
theorem lV.digit{Y yn1 yn0 un32 un1 q rh:Int}(g:lV Y yn1 yn0 un32 un1 q rh)(h:0≤un32):0≤(un32*4294967296+un1)/Y∧(un32*4294967296+un1)/Y<4294967296:=by
 have hp:=g.pos
 have:=g.u1;have:=g.u1';have:=g.lt
 refine⟨azV (by omega) (by omega),?_⟩
 rw[aAd hp];omega
theorem lV.done{Y yn1 yn0 un32 un1 q rh:Int}(g:lV Y yn1 yn0 un32 un1 q rh)(h:q*yn0≤4294967296*rh+un1):q=(un32*4294967296+un1)/Y:=by
 have hp:=g.pos
 have h1:=g.prod.1
 have h2:q≤(un32*4294967296+un1)/Y:=by
  rw[Int.le_ediv_iff_mul_le hp];omega
 have:=g.ge
 omega
theorem lV.next{Y yn1 yn0 un32 un1 q rh:Int}(g:lV Y yn1 yn0 un32 un1 q rh)(hu:0≤un32)(h:4294967296≤q∨4294967296*rh+un1<q*yn0):lV Y yn1 yn0 un32 un1 (q-1) (rh+yn1)∧1≤q:=by
 have hp:=g.pos
 have h1:=g.prod.1
 have hd:=g.digit hu
 have dH:(un32*4294967296+un1)/Y<q:=by
  rcases h with h|h
  ·omega
  ·rw[aAd hp];omega
 have:=g.q1;have:=g.r0;have:=g.y1
 exact⟨⟨g.hY,g.y1,g.y1',g.y0,g.y0',g.u1,g.u1',g.lt,by omega,by rw[Int.sub_mul,aBu];have:=g.eq;omega,by omega,by omega,by omega⟩,by omega⟩
theorem Ni(N:Nat){Y s yn1 yn0 un32 un1 un0:Int}(hu:0≤un32)(U0:un32<18446744073709551616): ∀(m n:Nat) (q rh:Int),lV Y yn1 yn0 un32 un1 q rh→rh<4294967296→4294967296-rh≤2147483648*m→m<n→
  c4.HE N n Y s yn1 yn0 un32 un1 un0 q rh=c4.Qm N Y s yn1 yn0 un32 un1 un0 ((un32*4294967296+un1)/Y)
 |m,0,q,rh,_,_,_,hn=>by omega
 |m,n+1,q,rh,g,hr,hm,hn=>by
  unfold c4.HE c4.HF
  have za:=g.prod
  have hd:=g.digit hu
  obtain⟨hY,y1,y1',y0,y0',u1,u1',lt,q0,eq,r0,q1,ge⟩:=id g
  have go:(4294967296≤q∨4294967296*rh+un1<q*yn0)→
    (cond (bX (4294967296:Int) (W .u64 (rh+yn1))) (c4.Qm N Y s yn1 yn0 un32 un1 un0 (W .u64 (q-1))) (c4.HE N n Y s yn1 yn0 un32 un1 un0 (W .u64 (q-1)) (W .u64 (rh+yn1))))=c4.Qm N Y s yn1 yn0 un32 un1 un0 ((un32*4294967296+un1)/Y):=fun h=>by
   obtain⟨g',hq⟩:=g.next hu h
   rw[bG (x:=rh+yn1) (by omega) (by omega),bG (x:=q-1) (by omega) (by omega)]
   by_cases hb:4294967296≤rh+yn1
   ·rw[cX hb,ayz]
    have wN:=g'.prod
    rw[g'.done (by omega)]
   ·rw[cP (by omega),ayB]
    exact Ni N hu U0 (m-1) n (q-1) (rh+yn1) g' (by omega) (by omega) (by omega)
  by_cases h1:4294967296≤q
  ·rw[cX h1,ayz]
   exact go (.inl h1)
  ·rw[cP (by omega),ayB,bG (x:=4294967296*rh) (by omega) (by omega),bG (x:=4294967296*rh+un1) (by omega) (by omega),bG (x:=q*yn0) (by omega) (by omega)]
   by_cases h2:4294967296*rh+un1<q*yn0
   ·rw[aE h2,ayz]
    exact go (.inr h2)
   ·rw[az (by omega),ayB,g.done (by omega)]
theorem Nj(N:Nat){Y s yn1 yn0 un32 un1 a b:Int}(hu:0≤un32)(U0:un32<18446744073709551616): ∀(m n:Nat) (q rh:Int),lV Y yn1 yn0 un32 un1 q rh→rh<4294967296→4294967296-rh≤2147483648*m→m<n→
  c4.zF N n Y s yn1 yn0 un1 a rh un32 q=c4.j28 N Y s un1 a un32 ((un32*4294967296+un1)/Y)
 |m,0,q,rh,_,_,_,hn=>by omega
 |m,n+1,q,rh,g,hr,hm,hn=>by
  unfold c4.zF c4.AQ
  have za:=g.prod
  have hd:=g.digit hu
  obtain⟨hY,y1,y1',y0,y0',u1,u1',lt,q0,eq,r0,q1,ge⟩:=id g
  have go:(4294967296≤q∨4294967296*rh+un1<q*yn0)→
    (cond (bX (4294967296:Int) (W .u64 (rh+yn1))) (c4.j28 N Y s un1 a un32 (W .u64 (q-1))) (c4.zF N n Y s yn1 yn0 un1 a (W .u64 (rh+yn1)) un32 (W .u64 (q-1))))=c4.j28 N Y s un1 a un32 ((un32*4294967296+un1)/Y):=fun h=>by
   obtain⟨g',hq⟩:=g.next hu h
   rw[bG (x:=rh+yn1) (by omega) (by omega),bG (x:=q-1) (by omega) (by omega)]
   by_cases hb:4294967296≤rh+yn1
   ·rw[cX hb,ayz]
    have wN:=g'.prod
    rw[g'.done (by omega)]
   ·rw[cP (by omega),ayB]
    exact Nj N (b:=b) hu U0 (m-1) n (q-1) (rh+yn1) g' (by omega) (by omega) (by omega)
  by_cases h1:4294967296≤q
  ·rw[cX h1,ayz]
   exact go (.inl h1)
  ·rw[cP (by omega),ayB,bG (x:=4294967296*rh) (by omega) (by omega),bG (x:=4294967296*rh+un1) (by omega) (by omega),bG (x:=q*yn0) (by omega) (by omega)]
   by_cases h2:4294967296*rh+un1<q*yn0
   ·rw[aE h2,ayz]
    exact go (.inr h2)
   ·rw[az (by omega),ayB,g.done (by omega)]
theorem lV.first{Y yn1 yn0 un32 un1:Int}(hY:Y=yn1*4294967296+yn0)(y1:2147483648≤yn1)(y1':yn1<4294967296)(y0:0≤yn0)(y0':yn0<4294967296)(u1:0≤un1)(u1':un1<4294967296)(hu:0≤un32)(lt:un32<Y):
  lV Y yn1 yn0 un32 un1 (un32/yn1) (un32-un32/yn1*yn1)∧un32-un32/yn1*yn1<4294967296∧0≤un32/yn1*yn1∧un32/yn1*yn1≤un32:=by
 have h1:=az1 un32 yn1
 have h2:=az3 un32 (show 0<yn1 by omega)
 have h3:=aAC un32 (show yn1≠0 by omega)
 have Oj:0≤un32/yn1:=azV hu (by omega)
 rw[azt]at h1
 have hq1:un32/yn1≤4294967297:=by
  have:un32/yn1<4294967298:=by rw[aAd (by omega)];omega
  omega
 have UL:(un32*4294967296+un1)/Y≤un32/yn1:=by
  have dH:un32*4294967296+un1<(un32/yn1+1)*Y:=by
   have e:un32+1≤(un32/yn1+1)*yn1:=by rw[aAx,aBu];omega
   have e2:(un32/yn1+1)*Y=(un32/yn1+1)*yn1*4294967296+(un32/yn1+1)*yn0:=by rw[hY,aAE,azE]
   have e3:0≤(un32/yn1+1)*yn0:=aAb (by omega) y0
   omega
  have:(un32*4294967296+un1)/Y<un32/yn1+1:=by rw[aAd (by omega)];exact dH
  omega
 exact⟨⟨hY,y1,y1',y0,y0',u1,u1',lt,Oj,by omega,by omega,hq1,UL⟩,by omega,aAb Oj (by omega),by omega⟩
theorem Ry{a b:Int}{k:Nat}(ha:0≤a)(U9:a<2^k)(hb:0≤b)(h:b*2^k<18446744073709551616)(hk:k<64):jH .or .u64 (b*2^k) a=b*2^k+a:=by
 have hp:(0:Int)<2^k:=Int.pow_pos (by decide)
 have hpn:((2^k:Nat):Int)=2^k:=by rw[Int.natCast_pow];rfl
 have avL:(2:Int)^k≤2^63:=by
  rw[←hpn,show(2:Int)^63=((2^63:Nat):Int)from by decide]
  exact_mod_cast aBv (by decide) (by omega)
 have atc:(2:Int)^63=9223372036854775808:=by decide
 have tF:=aAb hb (aAS hp)
 rw[Ff tF h ha (by omega)]
 have h1:=aAX (i:=k) (b:=a.toNat) (by
  have:((a.toNat:Nat):Int)<((2^k:Nat):Int):=by rw[hpn,azM ha];exact U9
  exact_mod_cast this) b.toNat
 have e:(b*2^k).toNat=2^k*b.toNat:=by
  have:((2^k*b.toNat:Nat):Int)=b*2^k:=by rw[aBw,hpn,azM hb,azt]
  omega
 rw[e,←h1,aB3,aBw,hpn,azM hb,azM ha,azt]
theorem HG(N:Nat)(hN:100≤N){hi lo y:Int}(h0:0≤hi)(h1:hi<y)(l0:0≤lo)(l1:lo<18446744073709551616)(y1:y<18446744073709551616):
  c4 N hi lo y=some ((hi*18446744073709551616+lo)/y,(hi*18446744073709551616+lo)%y):=by
 unfold c4 c4.b
 rw[cJ (show y≠0 by omega),ayB,cP (by omega),ayB]
 by_cases hz:hi=0
 ·subst hz
  rw[cQ rfl,ayz,ayB,ayB,ED,Qs,aA2 l0,Int.tmod_eq_emod_of_nonneg l0]
  have e1:0≤lo/y:=azV l0 (by omega)
  have e2:lo/y≤lo:=aBR _ l0
  rw[bG (by omega) (by omega)]
  simp
 ·rw[cJ hz,ayB]
  obtain⟨b1,b2⟩:=bitLen_spec y.toNat
  have b2:=b2 (by omega)
  obtain⟨L,hL⟩: ∃L,L=bitLen y.toNat:=⟨_,rfl⟩
  rw[←hL]at b1 b2
  have hL1:1≤L:=by rw[hL,nY (by omega)];omega
  have avM:L≤64:=by
   rcases aA5 64 L with h|h
   ·have h3:2^64≤2^(L-1):=aBv (by decide) (by omega)
    have:(2:Nat)^64=18446744073709551616:=by decide
    omega
   ·exact h
  have hl:Vb N y=some (64-(L:Int)):=by
   unfold Vb
   rw[Rx N (by omega) y1,ayy,←hL,ak (by omega) (by omega)]
  obtain⟨s,hs⟩: ∃s:Nat,s=64-L:=⟨_,rfl⟩
  have hsI:64-(L:Int)=(s:Int):=by omega
  rw[hl,ayy,hsI]
  clear hl
  have hpn: ∀k:Nat,((2^k:Nat):Int)=2^k:=fun k=>by rw[Int.natCast_pow];rfl
  obtain⟨p,hp⟩: ∃p:Int,p=2^s:=⟨_,rfl⟩
  obtain⟨p',wN⟩: ∃p':Int,p'=2^(64-s):=⟨_,rfl⟩
  have Cn:p'*p=18446744073709551616:=by
   rw[hp,wN,←Int.pow_add,show 64-s+s=64 from by omega];decide
  have Qk:0<p:=by rw[hp];exact Int.pow_pos (by decide)
  have avO:0<p':=by rw[wN];exact Int.pow_pos (by decide)
  have U8:y*p<18446744073709551616:=by
   have h:y.toNat*2^s<2^L*2^s:=Nat.mul_lt_mul_of_pos_right b1 (Nat.pow_pos (by decide))
   rw[←Nat.pow_add,show L+s=64 from by omega,show(2:Nat)^64=18446744073709551616 from by decide]at h
   have:((y.toNat*2^s:Nat):Int)=y*p:=by rw[aBw,hpn,←hp,azM (by omega)]
   omega
  have hy2:9223372036854775808≤y*p:=by
   have h:2^(L-1)*2^s≤y.toNat*2^s:=azy _ b2
   rw[←Nat.pow_add,show L-1+s=63 from by omega,show(2:Nat)^63=9223372036854775808 from by decide]at h
   have:((y.toNat*2^s:Nat):Int)=y*p:=by rw[aBw,hpn,←hp,azM (by omega)]
   omega
  have aod: ∀x:Int,shl .u64 x (s:Int)=x*p:=fun x=>by rw[Ng (by omega) (by omega),hp];rfl
  have aoe:shr .u64 lo (64-(s:Int))=lo*p/18446744073709551616:=by
   rw[ta (by omega) (by omega),show(64-(s:Int)).toNat=64-s from by omega,←wN,←Cn,Int.mul_ediv_mul_of_pos_left _ _ Qk]
  have hhp:hi*p+p≤y*p:=by
   have:=azs (show hi+1≤y by omega) (aAS Qk)
   rw[aAx,aBu]at this;exact this
  have avR:0≤hi*p:=aAb h0 (aAS Qk)
  have aof:0≤lo*p:=aAb l0 (aAS Qk)
  have aog:lo*p<18446744073709551616*p:=Int.mul_lt_mul_of_pos_right l1 Qk
  have rN:lo*p/18446744073709551616<p:=by rw[aAd (by omega),azt p];exact aog
  have ht0:0≤lo*p/18446744073709551616:=azV aof (by omega)
  have Vc:jH .or .u64 (hi*p) (lo*p/18446744073709551616)=hi*p+lo*p/18446744073709551616:=by
   have:=Ry (k:=s) (a:=lo*p/18446744073709551616) (b:=hi) ht0 (by rw[←hp];exact rN) h0 (by rw[←hp];omega) (by omega)
   rw[←hp]at this;exact this
  obtain⟨Y,hY⟩: ∃Y,Y=y*p:=⟨_,rfl⟩
  have hU:(hi*18446744073709551616+lo)*p=(hi*p+lo*p/18446744073709551616)*18446744073709551616+lo*p%18446744073709551616:=by
   rw[aAx,azE,azt 18446744073709551616 p,←azE];omega
  have hws:W .u64 (s:Int)=(s:Int):=bG (by omega) (by omega)
  have aoh:W .u64 (64-(s:Int))=64-(s:Int):=bG (by omega) (by omega)
  have hwl:W .u64 (lo*p)=lo*p%18446744073709551616:=ju _
  simp only[hws,aoh,aod,aoe,hwl]
  rw[←hY]at U8 hy2 hhp ⊢
  have hwy:W .u64 Y=Y:=bG (by omega) (by omega)
  have hwh:W .u64 (hi*p)=hi*p:=bG (by omega) (by omega)
  simp only[hwy,hwh,Vc]
  obtain⟨u,hu⟩: ∃u,u=hi*p+lo*p/18446744073709551616:=⟨_,rfl⟩
  obtain⟨v,hv⟩: ∃v,v=lo*p%18446744073709551616:=⟨_,rfl⟩
  rw[←hu,←hv]at hU ⊢
  have hv0:0≤v:=by omega
  have GX:v<18446744073709551616:=by omega
  have hu0:0≤u:=by omega
  have hu1:u<Y:=by omega
  have hmy:jH .and .u64 Y 4294967295=Y%4294967296:=gM (by omega) (by omega)
  have hmv:jH .and .u64 v 4294967295=v%4294967296:=gM hv0 GX
  obtain⟨g1,g2,g3,g4⟩:=lV.first (Y:=Y) (yn1:=Y/4294967296) (yn0:=Y%4294967296) (un32:=u) (un1:=v/4294967296) (by omega) (by omega) (by omega) (by omega) (by omega) (by omega) (by omega) hu0 hu1
  have hq:quo u (Y/4294967296)=u/(Y/4294967296):=by rw[ED,aA2 hu0]
  have hwq:W .u64 (u/(Y/4294967296))=u/(Y/4294967296):=bG g1.q0 (by have:=g1.q1;omega)
  have hwm:W .u64 (u/(Y/4294967296)*(Y/4294967296))=u/(Y/4294967296)*(Y/4294967296):=bG g3 (by omega)
  have hwr:W .u64 (u-u/(Y/4294967296)*(Y/4294967296))=u-u/(Y/4294967296)*(Y/4294967296):=bG (by omega) (by omega)
  rw[az (show(0:Int)≤s by omega),az (show(0:Int)≤32 by omega),az (show(0:Int)≤64-(s:Int)by omega),AO,AO,hmy,hmv,cJ (show Y/4294967296≠0 by omega),hq,hwq,hwm,hwr]
  simp only[ayB]
  rw[Ni N hu0 (by omega) 3 N _ _ g1 g2 (by omega) (by omega)]
  have d1:=g1.digit hu0
  clear hq hwq hwm hwr g1 g2 g3 g4
  obtain⟨q1,hq1⟩: ∃q1,q1=(u*4294967296+v/4294967296)/Y:=⟨_,rfl⟩
  have m1:=az1 (u*4294967296+v/4294967296) Y
  have m2:=az3 (u*4294967296+v/4294967296) (show 0<Y by omega)
  have m3:=aAC (u*4294967296+v/4294967296) (show Y≠0 by omega)
  rw[←hq1]at d1 m1 ⊢
  obtain⟨r1,Fc⟩: ∃r1,r1=(u*4294967296+v/4294967296)%Y:=⟨_,rfl⟩
  rw[←Fc]at m1 m2 m3
  rw[azt]at m1
  unfold c4.Qm c4.K9
  have aoi:W .u64 (W .u64 (W .u64 (u*4294967296)+v/4294967296)-W .u64 (q1*Y))=r1:=by
   simp only[ju]
   generalize q1*Y=z at*
   omega
  simp only[aoi]
  obtain⟨g1,g2,g3,g4⟩:=lV.first (Y:=Y) (yn1:=Y/4294967296) (yn0:=Y%4294967296) (un32:=r1) (un1:=v%4294967296) (by omega) (by omega) (by omega) (by omega) (by omega) (by omega) (by omega) m3 m2
  have hq:quo r1 (Y/4294967296)=r1/(Y/4294967296):=by rw[ED,aA2 m3]
  have hwq:W .u64 (r1/(Y/4294967296))=r1/(Y/4294967296):=bG g1.q0 (by have:=g1.q1;omega)
  have hwm:W .u64 (r1/(Y/4294967296)*(Y/4294967296))=r1/(Y/4294967296)*(Y/4294967296):=bG g3 (by omega)
  have hwr:W .u64 (r1-r1/(Y/4294967296)*(Y/4294967296))=r1-r1/(Y/4294967296)*(Y/4294967296):=bG (by omega) (by omega)
  rw[cJ (show Y/4294967296≠0 by omega),hq,hwq,hwm,hwr,ayB,Nj N (b:=0) m3 (by omega) 3 N _ _ g1 g2 (by omega) (by omega)]
  have d0:=g1.digit m3
  clear hq hwq hwm hwr g1 g2 g3 g4
  obtain⟨q0,Oj⟩: ∃q0,q0=(r1*4294967296+v%4294967296)/Y:=⟨_,rfl⟩
  have n1:=az1 (r1*4294967296+v%4294967296) Y
  have n2:=az3 (r1*4294967296+v%4294967296) (show 0<Y by omega)
  have n3:=aAC (r1*4294967296+v%4294967296) (show Y≠0 by omega)
  rw[←Oj]at d0 n1 ⊢
  obtain⟨r0,hr0⟩: ∃r0,r0=(r1*4294967296+v%4294967296)%Y:=⟨_,rfl⟩
  rw[←hr0]at n1 n2 n3
  rw[azt]at n1
  unfold c4.j28 c4.adf
  have aoj:W .u64 (W .u64 (W .u64 (r1*4294967296)+v%4294967296)-W .u64 (q0*Y))=r0:=by
   simp only[ju]
   generalize q0*Y=z at*
   omega
  rw[az (show(0:Int)≤s by omega),ayB,aoj,bG (x:=q1*4294967296) (by omega) (by omega),bG (x:=q1*4294967296+q0) (by omega) (by omega),ta (by omega) (by omega),ayD,←hp]
  obtain⟨V,hV⟩: ∃V,V=hi*18446744073709551616+lo:=⟨_,rfl⟩
  obtain⟨Q,hQ⟩: ∃Q,Q=q1*4294967296+q0:=⟨_,rfl⟩
  rw[←hV]at hU ⊢
  rw[←hQ]
  have hQY:Q*Y=q1*Y*4294967296+q0*Y:=by rw[hQ,aAx,azE,azt 4294967296 Y,←azE]
  have avZ:V*p=Q*Y+r0:=by rw[hU,hQY];generalize q1*Y=z1 at*;generalize q0*Y=z0 at*;omega
  have aiH:r0=(V-Q*y)*p:=by rw[Int.sub_mul,azE,←hY];omega
  have hd0:0≤V-Q*y:=by
   by_cases h:V-Q*y<0
   ·have:=Int.mul_neg_of_neg_of_pos h Qk;omega
   ·omega
  have hd1:V-Q*y<y:=by
   by_cases h:V-Q*y<y
   ·exact h
   ·have:=azs (show y≤V-Q*y by omega) (aAS Qk);rw[←aiH,←hY]at this;omega
  have hVe:V=(V-Q*y)+y*Q:=by rw[azt y Q];omega
  have e1:V/y=Q:=by
   rw[hVe,aAB _ _ (by omega),aAT hd0 hd1];omega
  have e2:V%y=V-Q*y:=by
   have:=az1 V y
   rw[e1,azt]at this;omega
  rw[e1,e2,aiH,Int.mul_ediv_cancel _ (by omega)]
end VM
end
section
namespace VM
open Go VM.F
def cf:List Int→Int
 |[]=>0
 |d::r=>d+4294967296*cf r
def VD(l:List Int):Prop:= ∀d∈l,0≤d∧d<4294967296
def iC(n:Nat):List Int:=if n=0 then []else((n%4294967296:Nat):Int)::iC (n/4294967296)
termination_by n
decreasing_by omega
theorem gN:iC 0=[]:=by rw[iC];rfl
theorem tb{n:Nat}(h:n≠0):iC n=((n%4294967296:Nat):Int)::iC (n/4294967296):=by rw[iC];simp[h]
theorem VD.nil:VD []:=fun d h=>by cases h
theorem VD.cons{d:Int}{l:List Int}(h0:0≤d)(h1:d<4294967296)(h:VD l):VD (d::l):=fun x hx=>by
 rcases ayY.1 hx with rfl|hx
 ·exact⟨h0,h1⟩
 ·exact h x hx
theorem VD.tail{d:Int}{l:List Int}(h:VD (d::l)):VD l:=fun x hx=>h x (ayK _ hx)
theorem VD.drop{l:List Int}(h:VD l)(n:Nat):VD (l.drop n):=fun x hx=>h x (az8 hx)
theorem VD.take{l:List Int}(h:VD l)(n:Nat):VD (l.take n):=fun x hx=>h x (azT hx)
theorem VD.getD{l:List Int}(h:VD l)(n:Nat):0≤l.getD n 0∧l.getD n 0<4294967296:=by
 rw[ayC]
 cases hn:l[n]? with
 |none=>exact⟨azC _,by decide⟩
 |some x=>exact h x (List.mem_of_getElem? hn)
theorem VD.set{l:List Int}(h:VD l)(n:Nat){x:Int}(h0:0≤x)(h1:x<4294967296):VD (l.set n x):=fun y hy=>by
 rcases aAk hy with hy|rfl
 ·exact h y hy
 ·exact⟨h0,h1⟩
theorem VD.abg(n:Nat):VD (List.replicate n 0):=fun x hx=>by rw[aAI hx];exact⟨azC _,by decide⟩
theorem gO: ∀{l:List Int},VD l→0≤cf l
 |[],_=>azC _
 |d::r,h=>by
  have:=gO h.tail
  have:=(h d (ayN ..)).1
  simp only[cf];omega
theorem eL(n:Nat):cf (iC n)=n:=by
 induction n using Nat.strongRecOn with
 |_ n ih=>
  by_cases h:n=0
  ·subst h;rw[gN];rfl
  ·rw[tb h,cf,ih _ (by omega)];omega
theorem gi(n:Nat):VD (iC n):=by
 induction n using Nat.strongRecOn with
 |_ n ih=>
  by_cases h:n=0
  ·subst h;rw[gN];exact VD.nil
  ·rw[tb h];exact VD.cons (by omega) (by omega) (ih _ (by omega))
theorem vG{n:Nat}:iC n=[]↔n=0:=by
 constructor
 ·intro h
  by_cases hn:n=0
  ·exact hn
  ·rw[tb hn]at h;cases h
 ·rintro rfl;exact gN
theorem qI(k:Nat): ∀n,n<4294967296^k→(iC n).length≤k:=by
 induction k with
 |zero=>
  intro n h;have:n=0:=by simpa using h
  subst this;rw[gN];simp
 |succ k ih=>
  intro n h
  by_cases hn:n=0
  ·subst hn;rw[gN];simp
  ·rw[tb hn,ayI]
   have:=ih (n/4294967296) (by rw[aB6 (by omega)];rw[aAR]at h;exact h)
   omega
theorem Fh(k:Nat): ∀n,(iC n).length≤k→n<4294967296^k:=by
 induction k with
 |zero=>
  intro n h
  have:iC n=[]:=azL (by omega)
  rw[vG]at this;subst this;decide
 |succ k ih=>
  intro n h
  by_cases hn:n=0
  ·subst hn;exact Nat.pow_pos (by decide)
  ·rw[tb hn,ayI]at h
   have:=ih (n/4294967296) (by omega)
   rw[aB6 (by omega)]at this
   rw[aAR];exact this
def strip:List Int→List Int
 |[]=>[]
 |d::r=>if strip r=[]∧d=0 then []else d::strip r
theorem HH: ∀{l:List Int},VD l→strip l=iC (cf l).toNat
 |[],_=>by rw[show(cf []).toNat=0 from rfl,gN];rfl
 |d::r,h=>by
  have ih:=HH h.tail
  have h0:=gO h.tail
  obtain⟨h1,h2⟩:=h d (ayN ..)
  simp only[strip,cf,ih,vG]
  split
  ·rename_i hc
   obtain⟨hc,rfl⟩:=hc
   have:cf r=0:=by omega
   rw[this];exact gN.symm
  ·rename_i hc
   have gq:(d+4294967296*cf r).toNat≠0:=fun he=>hc ⟨by omega,by omega⟩
   rw[tb gq]
   congr 1
   ·omega
   ·congr 1;omega
theorem AS: ∀(l:List Int) (x:Int),strip (l++[x])=if x=0 then strip l else l++[x]
 |[],x=>by simp[strip]
 |d::r,x=>by
  simp only[azY,strip,AS r x]
  split
  ·rfl
  ·simp
theorem fa(l:List Int){k:Nat}(h:k<l.length):l.take (k+1)=l.take k++[l.getD k 0]:=by
 rw[List.take_succ_eq_append_getElem h,ayC,ayG h];rfl
theorem DA(N:Nat)(l:List Int)(hl:l.length<68719476736): ∀(k n:Nat),k≤l.length→k<n→la.l2 N n l (k:Int)=some (strip (l.take k))
 |0,n+1,_,_=>by
  unfold la.l2 la.dA
  simp (disch:=omega) only[aE,az,cX,cP,cQ,cJ,aF,a8,bJ,cH,ak,bG,ayz,ayB,ayL,ay4,ayy,ayD,azb,ae,ayH,ayA,ayT,ayS,ayI,ayW]
  simp[strip]
 |k+1,n+1,hk,hn=>by
  unfold la.l2 la.dA
  have e:((k+1:Nat):Int)-1=(k:Int):=by omega
  simp (disch:=omega) only[aE,az,cX,cP,cQ,cJ,aF,a8,bJ,cH,ak,bG,ayz,ayB,ayL,ay4,ayy,ayD,azb,ae,ayH,ayA,ayT,ayS,ayI,ayW,e]
  have ih:=DA N l hl k n (by omega) (by omega)
  rw[fa l (by omega),AS]
  by_cases h:l.getD k 0=0
  ·rw[cQ h,ayz,ih,ayF h]
  ·rw[cJ h,ayB,ayE h]
   simp only[azb,ay7]
theorem Fi(N:Nat){l:List Int}(h:VD l)(hN:l.length<N)(hl:l.length<68719476736):la N l=some (iC (cf l).toNat):=by
 unfold la la.b
 rw[DA N l hl l.length N (ayJ _) hN,aAM,HH h]
def br(v:Int):ax:=(decide (v<0),(iC v.natAbs,()))
theorem lL(N:Nat)(neg:Bool){l:List Int}(h:VD l)(hN:l.length<N)(hl:l.length<68719476736):OP N neg l=some (br (if neg then-cf l else cf l)):=by
 unfold OP
 rw[Fi N h hN hl,ayy]
 have h0:=gO h
 cases neg
 ·simp only[ayB,br,azv,aAt]
  rw[ayR (by omega)]
  congr 4;omega
 ·simp only[ayz,br,aBc]
  have e:(-cf l).natAbs=(cf l).toNat:=by omega
  rw[e]
  congr 2
  by_cases hz:cf l=0
  ·rw[hz,azb,gN,az (by simp),ayR (by omega)]
  ·have:0<(iC (cf l).toNat).length:=by
    apply azQ.2
    intro hd;rw[vG]at hd;omega
   rw[aE (by omega),ayO (by omega)]
theorem size_eq(N:Nat)(hN:1000≤N){u:Int}(h0:0≤u)(h1:u<18446744073709551616):F67 N u=some (iC u.toNat):=by
 unfold F67
 rw[gM h0 h1,AO]
 have hv:VD [u%4294967296,u/4294967296]:=VD.cons (by omega) (by omega) (VD.cons (by omega) (by omega) VD.nil)
 simp (disch:=omega) only[aE,az,cX,cP,cQ,cJ,aF,a8,bJ,cH,ak,bG,ayz,ayB,ayL,ay4,ayy,ayD,azb,ae,ayH,ayA,ayT,ayS,ayI,ayW,Fi N hv (by simp;omega) (by simp)]
 congr 2
 simp only[cf];omega
theorem cn(N:Nat)(hN:1000≤N){x:Int}(h0: -9223372036854775808≤x)(h1:x<9223372036854775808):fQ N x=some (br x):=by
 unfold fQ
 have hd: ∀n:Nat,n<18446744073709551616→(iC n).length≤2:=fun n h=>qI 2 n (by simpa using h)
 by_cases h:x<0
 ·have e:W .u64 (0-W .u64 x)= -x:=by rw[ju,ju];omega
  simp only[aE h,ayz,e,size_eq N hN (show 0≤ -x by omega) (by omega),ayy]
  have:=hd (-x).toNat (by omega)
  rw[lL N true (gi _) (by omega) (by omega),eL,ayF rfl,show-(((-x).toNat:Nat):Int)=x from by omega];rfl
 ·have e:W .u64 x=x:=bG (by omega) (by omega)
  simp only[az (show 0≤x by omega),ayB,e,size_eq N hN (show 0≤x by omega) (by omega),ayy]
  have:=hd x.toNat (by omega)
  rw[lL N false (gi _) (by omega) (by omega),eL,ayE aAQ,azM (by omega)];rfl
theorem su(N:Nat)(l:List Int)(i:Nat):Vd N l (i:Int)=some (l.getD i 0):=by
 unfold Vd
 by_cases h:i<l.length
 ·simp (disch:=omega) only[aE,az,cX,cP,cQ,cJ,aF,a8,bJ,cH,ak,bG,ayz,ayB,ayL,ay4,ayy,ayD,azb,ae,ayH,ayA,ayT,ayS,ayI,ayW]
 ·simp (disch:=omega) only[aE,az,cX,cP,cQ,cJ,aF,a8,bJ,cH,ak,bG,ayz,ayB,ayL,ay4,ayy,ayD,azb,ae,ayH,ayA,ayT,ayS,ayI,ayW]
  rw[ayC,azc (by omega)];rfl
theorem hZ(l:List Int)(i:Nat):cf (l.drop i)=l.getD i 0+4294967296*cf (l.drop (i+1)):=by
 by_cases h:i<l.length
 ·rw[azO h,cf,ayC,ayG h];rfl
 ·rw[azr (by omega),azr (by omega),ayC,azc (by omega)];rfl
theorem HI(N:Nat){a b:List Int}(ha:VD a)(hb:VD b)(uC:a.length≤1000000)(Kz:b.length≤1000000): ∀(m n i:Nat) (out:List Int) (c:Int),a.length+b.length+2-i≤m→m<n→out.length=i→i≤a.length+b.length+1→0≤c→c≤1→(a.length≤i→b.length≤i→i=max a.length b.length∨c=0)→
  ∃r,rD.l4 N n a b out c (i:Int)=some (out++r)∧VD r∧cf r=cf (a.drop i)+cf (b.drop i)+c∧r.length≤m
 |m,0,i,out,c,_,hn,_,_,_,_,_=>by omega
 |m,n+1,i,out,c,hm,hn,ho,hi,Qg,CF,hz=>by
  unfold rD.l4 rD.cD
  by_cases HJ:a.length≤i∧b.length≤i∧c=0
  ·obtain⟨h1,h2,rfl⟩:=HJ
   simp (disch:=omega) only[aE,az,cX,cP,cQ,cJ,aF,a8,bJ,cH,ak,bG,ayz,ayB,ayL,ay4,ayy,ayD,azb,ae,ayH,ayA,ayT,ayS,ayI,ayW]
   exact⟨[],by simp,VD.nil,by rw[azr h1,azr h2];rfl,azn _⟩
  ·obtain⟨ga0,ga1⟩:=ha.getD i
   obtain⟨gb0,gb1⟩:=hb.getD i
   have step: ∃r,rD.j6 N (rD.l4 N n) a b out c (i:Int)=some (out++r)∧VD r∧cf r=cf (a.drop i)+cf (b.drop i)+c∧r.length≤m:=by
    unfold rD.j6 rD.KB
    have CB:i≤a.length+b.length:=by
     by_cases h1:a.length≤i∧b.length≤i
     ·rcases hz h1.1 h1.2 with h|h
      ·omega
      ·exact absurd ⟨h1.1,h1.2,h⟩ HJ
     ·omega
    simp only[su,ayy]
    generalize hga:a.getD i 0=x at*
    generalize hgb:b.getD i 0=y at*
    rw[bG (x:=x+y) (by omega) (by omega),bG (x:=c+(x+y)) (by omega) (by omega),gM (by omega) (by omega),AO]
    simp (disch:=omega) only[aE,az,cX,cP,cQ,cJ,aF,a8,bJ,cH,ak,bG,ayz,ayB,ayL,ay4,ayy,ayD,azb,ae,ayH,ayA,ayT,ayS,ayI,ayW]
    obtain⟨r,hr,hv,hs,Kr⟩:=HI N ha hb uC Kz (m-1) n (i+1) (out++[(c+(x+y))%4294967296]) ((c+(x+y))/4294967296) (by omega) (by omega) (by simp[ho]) (by omega) (by omega) (by omega) (fun h1 h2=>by
     by_cases h3:a.length≤i∧b.length≤i
     ·right
      rw[←hga,←hgb,ayC,azc h3.1,ayC,azc h3.2]
      simp only[Option.getD_none];omega
     ·left;omega)
    refine⟨(c+(x+y))%4294967296::r,by rw[hr];simp,VD.cons (by omega) (by omega) hv,?_,by rw[ayI];omega⟩
    rw[cf,hs,hZ a i,hZ b i,hga,hgb];omega
   by_cases h1:i<a.length
   ·simp (disch:=omega) only[aE,ayz];exact step
   ·by_cases h2:i<b.length
    ·simp (disch:=omega) only[aE,az,ayz,ayB];exact step
    ·have:0<c:=by omega
     simp (disch:=omega) only[aE,az,ayz,ayB];exact step
theorem Nk: ∀{l:List Int},VD l→cf l<4294967296^l.length
 |[],_=>by simp[cf]
 |d::r,h=>by
  have ih:=Nk h.tail
  obtain⟨h1,h2⟩:=h d (ayN ..)
  rw[cf,ayI,aBX]
  generalize (4294967296:Int)^r.length=p at*
  omega
theorem HK(N:Nat)(hN:4000000≤N){a b:List Int}(ha:VD a)(hb:VD b)(uC:a.length≤1000000)(Kz:b.length≤1000000): ∃r,rD N a b=some r∧VD r∧cf r=cf a+cf b∧r.length≤2000002:=by
 unfold rD rD.b
 obtain⟨r,hr,hv,hs,hl⟩:=HI N ha hb uC Kz (a.length+b.length+2) N 0 [] 0 (by omega) (by omega) rfl (by omega) (by omega) (by omega) (fun _ _=> .inr rfl)
 exact⟨r,hr,hv,by simpa using hs,by omega⟩
theorem AT(N:Nat){a b:List Int}(ha:VD a)(hb:VD b)(uC:a.length≤1000000): ∀(m n i:Nat) (out:List Int) (c:Int),a.length-i≤m→m<n→out.length=i→i≤a.length→0≤c→c≤1→0≤cf (a.drop i)-cf (b.drop i)-c→
  ∃r,zG.l4 N n a b out c (i:Int)=some (out++r)∧VD r∧cf r=cf (a.drop i)-cf (b.drop i)-c∧r.length≤m
 |m,0,i,out,c,_,hn,_,_,_,_,_=>by omega
 |m,n+1,i,out,c,hm,hn,ho,hi,Qg,CF,hz=>by
  unfold zG.l4 zG.cD
  by_cases h1:i<a.length
  ·obtain⟨ga0,ga1⟩:=ha.getD i
   obtain⟨gb0,gb1⟩:=hb.getD i
   rw[hZ a i,hZ b i]at*
   simp only[su,ayy,ayD]
   generalize hga:a.getD i 0=x at*
   generalize hgb:b.getD i 0=y at*
   rw[bG (x:=y+c) (by omega) (by omega),bG (x:=x+4294967296) (by omega) (by omega)]
   by_cases dH:x<y+c
   ·rw[bG (x:=x+4294967296-(y+c)) (by omega) (by omega)]
    simp (disch:=omega) only[aE,az,cX,cP,cQ,cJ,aF,a8,bJ,cH,ak,bG,ayz,ayB,ayL,ay4,ayy,ayD,azb,ae,ayH,ayA,ayT,ayS,ayI,ayW,hga,hgb]
    obtain⟨r,hr,hv,hs,Kr⟩:=AT N ha hb uC (m-1) n (i+1) (out++[x+4294967296-(y+c)]) 1 (by omega) (by omega) (by simp[ho]) (by omega) (by omega) (by omega) (by omega)
    refine⟨(x+4294967296-(y+c))::r,by rw[hr];simp,VD.cons (by omega) (by omega) hv,by rw[cf,hs];omega,by rw[ayI];omega⟩
   ·rw[bG (x:=x-(y+c)) (by omega) (by omega)]
    simp (disch:=omega) only[aE,az,cX,cP,cQ,cJ,aF,a8,bJ,cH,ak,bG,ayz,ayB,ayL,ay4,ayy,ayD,azb,ae,ayH,ayA,ayT,ayS,ayI,ayW,hga,hgb]
    obtain⟨r,hr,hv,hs,Kr⟩:=AT N ha hb uC (m-1) n (i+1) (out++[x-(y+c)]) 0 (by omega) (by omega) (by simp[ho]) (by omega) (by omega) (by omega) (by omega)
    refine⟨(x-(y+c))::r,by rw[hr];simp,VD.cons (by omega) (by omega) hv,by rw[cf,hs];omega,by rw[ayI];omega⟩
  ·simp (disch:=omega) only[aE,az,cX,cP,cQ,cJ,aF,a8,bJ,cH,ak,bG,ayz,ayB,ayL,ay4,ayy,ayD,azb,ae,ayH,ayA,ayT,ayS,ayI,ayW]
   have h0:=gO (hb.drop i)
   rw[azr (l:=a) (by omega)]at hz ⊢
   simp only[cf]at hz ⊢
   exact⟨[],by simp,VD.nil,by simp only[cf];omega,azn _⟩
theorem yi(N:Nat)(hN:4000000≤N){a b:List Int}(ha:VD a)(hb:VD b)(uC:a.length≤1000000)(h:cf b≤cf a): ∃r,zG N a b=some r∧VD r∧cf r=cf a-cf b∧r.length≤1000000:=by
 unfold zG zG.b
 obtain⟨r,hr,hv,hs,hl⟩:=AT N ha hb uC a.length N 0 [] 0 (by omega) (by omega) rfl (by omega) (by omega) (by omega) (by simp;omega)
 exact⟨r,hr,hv,by simpa using hs,by omega⟩
theorem nF: ∀(l:List Int) (x:Int),cf (l++[x])=cf l+4294967296^l.length*x
 |[],x=>by simp[cf]
 |d::r,x=>by
  rw[azY,cf,nF r x,cf,ayI,aBX,azt _ 4294967296,azE,aAE];omega
theorem HL{a b:List Int}(ha:VD a)(hb:VD b){k:Nat}(h1:k<a.length)(h2:k<b.length)(dH:a.getD k 0<b.getD k 0):cf (a.take (k+1))<cf (b.take (k+1)):=by
 rw[fa a h1,fa b h2,nF,nF]
 have l1:(a.take k).length=k:=by rw[ayX];omega
 have l2:(b.take k).length=k:=by rw[ayX];omega
 have v1:=Nk (ha.take k)
 have v2:=gO (hb.take k)
 rw[l1]at*
 rw[l2]
 generalize (4294967296:Int)^k=p at*
 have hp:0<p:=by have:=gO (ha.take k);omega
 have:=azm (show a.getD k 0+1≤b.getD k 0 by omega) (aAS hp)
 rw[aAE,Int.mul_one]at this
 omega
def lW(x:Int):Int:=if x<0 then-1 else if 0<x then 1 else 0
theorem HM(N:Nat){a b:List Int}(ha:VD a)(hb:VD b)(hl:a.length=b.length)(uC:a.length≤1000000): ∀(k n:Nat),k≤a.length→k<n→zb.l6 N n a b ((k:Int)-1)=some (lW (cf (a.take k)-cf (b.take k)))
 |k,0,_,hn=>by omega
 |0,n+1,_,_=>by
  unfold zb.l6 zb.pE
  simp (disch:=omega) only[aE,az,cX,cP,cQ,cJ,aF,a8,bJ,cH,ak,bG,ayz,ayB,ayL,ay4,ayy,ayD,azb,ae,ayH,ayA,ayT,ayS,ayI,ayW]
  simp[lW,cf]
 |k+1,n+1,hk,hn=>by
  unfold zb.l6 zb.pE
  have e:((k+1:Nat):Int)-1=(k:Int):=by omega
  rw[e]
  simp (disch:=omega) only[aE,az,cX,cP,cQ,cJ,aF,a8,bJ,cH,ak,bG,ayz,ayB,ayL,ay4,ayy,ayD,azb,ae,ayH,ayA,ayT,ayS,ayI,ayW]
  by_cases h1:a.getD k 0<b.getD k 0
  ·rw[aE h1,ayz]
   have:=HL ha hb (k:=k) (by omega) (by omega) h1
   rw[lW,ayF (by omega)]
  ·rw[az (by omega),ayB]
   by_cases h2:b.getD k 0<a.getD k 0
   ·rw[aE h2,ayz]
    have:=HL hb ha (k:=k) (by omega) (by omega) h2
    rw[lW,ayE (by omega),ayF (by omega)]
   ·rw[az (by omega),ayB,HM N ha hb hl uC k n (by omega) (by omega)]
    congr 2
    rw[fa a (by omega),fa b (by omega),nF,nF,show a.getD k 0=b.getD k 0 from by omega,ayX,ayX,hl]
    omega
theorem HN(N:Nat)(hN:4000000≤N)(m k:Nat)(hm:(iC m).length≤1000000)(hk:(iC k).length≤1000000):zb N (iC m) (iC k)=some (lW ((m:Int)-k)):=by
 unfold zb zb.b
 by_cases h:(iC m).length=(iC k).length
 ·simp (disch:=omega) only[aE,az,cX,cP,cQ,cJ,aF,a8,bJ,cH,ak,bG,ayz,ayB,ayL,ay4,ayy,ayD,azb,ae,ayH,ayA,ayT,ayS,ayI,ayW]
  rw[HM N (gi m) (gi k) h hm (iC m).length N (ayJ _) (by omega),aAM,h,aAM,eL,eL]
 ·rw[cJ (by omega),ay4,ayz]
  by_cases dH:(iC m).length<(iC k).length
  ·rw[aE (by omega),ayz]
   have h1:=Fh ((iC k).length-1) m (by omega)
   have h2: ¬(k<4294967296^((iC k).length-1)):=fun h=>by have:=qI _ _ h;omega
   rw[lW,ayF (by omega)]
  ·rw[az (by omega),ayB]
   have h1:=Fh ((iC m).length-1) k (by omega)
   have h2: ¬(m<4294967296^((iC m).length-1)):=fun h=>by have:=qI _ _ h;omega
   rw[lW,ayE (by omega),ayF (by omega)]
end VM
end
section
namespace VM
open Go VM.F
def Fit(v:Int)(k:Nat):Prop:=v.natAbs<4294967296^k
theorem Fit.len{v:Int}{k:Nat}(h:Fit v k):(iC v.natAbs).length≤k:=qI k _ h
theorem Fit.mono{v:Int}{j k:Nat}(h:Fit v j)(hjk:j≤k):Fit v k:=azP h (aBv (by decide) hjk)
theorem Fit.neg{v:Int}{k:Nat}(h:Fit v k):Fit (-v) k:=by unfold Fit at*;rwa [Int.natAbs_neg]
theorem Fit.i64{v:Int}(h0: -9223372036854775808≤v)(h1:v<9223372036854775808):Fit v 2:=by
 unfold Fit
 rw[show(4294967296:Nat)^2=18446744073709551616 from by decide];omega
theorem Fit.add{u v:Int}{k:Nat}(hu:Fit u k)(hv:Fit v k):Fit (u+v) (k+1):=by
 unfold Fit at*
 rw[aAR]
 have:(u+v).natAbs≤u.natAbs+v.natAbs:=Int.natAbs_add_le u v
 generalize 4294967296^k=p at*
 omega
theorem Fit.mul{u v:Int}{j k:Nat}(hu:Fit u j)(hv:Fit v k):Fit (u*v) (j+k):=by
 unfold Fit at*
 rw[Int.natAbs_mul,Nat.pow_add]
 exact Nat.mul_lt_mul'' hu hv
theorem Fit.of_le{u v:Int}{k:Nat}(hv:Fit v k)(h:u.natAbs≤v.natAbs):Fit u k:=Nat.lt_of_le_of_lt h hv
theorem lX(a b:Bool):jT .bool a b=(a==b):=by simp[jT]
theorem eM(N:Nat)(hN:4000000≤N){u v:Int}(hu:Fit u 900000)(hv:Fit v 900000):uc N (br u) (br v)=some (br (u+v)):=by
 have lu:=hu.len
 have lv:=hv.len
 unfold uc
 simp only[br,lX]
 by_cases hs:decide (u<0)=decide (v<0)
 ·rw[hs,aBs,ayz]
  obtain⟨r,hr,hvd,Au,hl⟩:=HK N hN (gi u.natAbs) (gi v.natAbs) (by omega) (by omega)
  simp only[hr,ayy,lL N _ hvd (by omega) (by omega),Au,eL]
  congr 1
  show br _=br _
  congr 1
  by_cases h:v<0
  ·have:u<0:=by simpa [h]using hs
   rw[ayF (ayO h)];omega
  ·have: ¬u<0:=by simpa [h]using hs
   rw[ayE (by simpa using h)];omega
 ·have hb:(decide (u<0)==decide (v<0))=false:=by simpa using hs
  rw[hb,ayB,HN N hN _ _ (by omega) (by omega),ayy]
  by_cases hc:v.natAbs≤u.natAbs
  ·have h1:bX 0 (lW ((u.natAbs:Int)-v.natAbs))=true:=cX (by unfold lW;split<;>(try split)<;>omega)
   obtain⟨r,hr,hvd,Au,hl⟩:=yi N hN (gi u.natAbs) (gi v.natAbs) (by omega) (by rw[eL,eL];omega)
   simp only[h1,ayz,hr,ayy,lL N _ hvd (by omega) (by omega),Au,eL]
   congr 1
   show br _=br _
   congr 1
   by_cases h:u<0
   ·have: ¬v<0:=fun hv=>hs (by simp[h,hv])
    rw[ayF (ayO h)];omega
   ·have:v<0:=aBJ fun hv=>hs (by simp[h,hv])
    rw[ayE (by simpa using h)];omega
  ·have h1:bX 0 (lW ((u.natAbs:Int)-v.natAbs))=false:=cP (by unfold lW;rw[ayF (by omega)];omega)
   obtain⟨r,hr,hvd,Au,hl⟩:=yi N hN (gi v.natAbs) (gi u.natAbs) (by omega) (by rw[eL,eL];omega)
   simp only[h1,ayB,hr,ayy,lL N _ hvd (by omega) (by omega),Au,eL]
   congr 1
   show br _=br _
   congr 1
   by_cases h:v<0
   ·have: ¬u<0:=fun hu=>hs (by simp[h,hu])
    rw[ayF (ayO h)];omega
   ·have:u<0:=aBJ fun hu=>hs (by simp[h,hu])
    rw[ayE (by simpa using h)];omega
theorem p5(N:Nat)(hN:4000000≤N){u:Int}(hu:Fit u 900000):Qn N (br u)=some (br (-u)):=by
 have lu:=hu.len
 unfold Qn
 simp only[br]
 simp only[lL N _ (gi u.natAbs) (by omega) (by omega),ayy,eL]
 congr 1
 show br _=br _
 congr 1
 by_cases h:u<0
 ·rw[ayO h,ayL,ayE aAQ];omega
 ·rw[ayR h,ay4,ayF rfl];omega
theorem vH(N:Nat)(hN:4000000≤N){u:Int}(hu:Fit u 900000):OQ N (br u)=some (br u.natAbs):=by
 have lu:=hu.len
 unfold OQ
 simp only[br]
 simp only[lL N _ (gi u.natAbs) (by omega) (by omega),ayy,eL,azv,aAt]
 rfl
theorem o7(N:Nat)(hN:4000000≤N){u v:Int}(hu:Fit u 900000)(hv:Fit v 900000):KC N (br u) (br v)=some (br (u-v)):=by
 unfold KC
 simp only[p5 N hN hv,ayy,eM N hN hu hv.neg,Int.sub_eq_add_neg]
theorem nf(N:Nat)(u:Int):Nl N (br u)=some (lW u):=by
 unfold Nl
 simp only[br]
 by_cases h:u=0
 ·subst h
  rw[show(0:Int).natAbs=0 from rfl,gN]
  simp (disch:=omega) only[aE,az,cX,cP,cQ,cJ,aF,a8,bJ,cH,ak,bG,ayz,ayB,ayL,ay4,ayy,ayD,azb,ae,ayH,ayA,ayT,ayS,ayI,ayW]
  rfl
 ·have:0<(iC u.natAbs).length:=by
   apply azQ.2
   intro hd;rw[vG]at hd;omega
  rw[cJ (by omega),ayB]
  by_cases hn:u<0
  ·rw[ayO hn,ayz,lW,ayF hn]
  ·rw[ayR hn,ayB,lW,ayE hn,ayF (by omega)]
theorem sv(N:Nat)(hN:4000000≤N){u v:Int}(hu:Fit u 900000)(hv:Fit v 900000):DB N (br u) (br v)=some (lW (u-v)):=by
 unfold DB
 simp only[o7 N hN hu hv,ayy,nf]
theorem Nm(l:List Int)(h: ∀x∈l,-9223372036854775808≤x∧x<9223372036854775808): -(9223372036854775808*l.length)≤l.sum∧l.sum≤9223372036854775808*l.length:=by
 induction l with
 |nil=>simp
 |cons x l ih=>
  have:=ih (fun y hy=>h y (ayK _ hy))
  obtain⟨h1,h2⟩:=h x (ayN ..)
  rw[azd,ayI]
  omega
theorem vI{v:Int}{n:Nat}(hn:n≤1000000)(h0: -(9223372036854775808*n)≤v)(h1:v≤9223372036854775808*n):Fit v 3:=by
 unfold Fit
 rw[show(4294967296:Nat)^3=79228162514264337593543950336 from by decide]
 omega
theorem p6{l:List Int}(h: ∀x∈l,-9223372036854775808≤x∧x<9223372036854775808)(i:Nat): -9223372036854775808≤l.getD i 0∧l.getD i 0<9223372036854775808:=by
 rw[ayC]
 cases hn:l[i]? with
 |none=>exact⟨by decide,by decide⟩
 |some x=>exact h x (List.mem_of_getElem? hn)
theorem iJ(l:List Int){i:Nat}(h:i<l.length):(l.take (i+1)).sum=(l.take i).sum+l.getD i 0:=by
 rw[fa l h];simp
theorem vJ(N:Nat)(hN:4000000≤N){l:List Int}(h: ∀x∈l,-9223372036854775808≤x∧x<9223372036854775808)(hl:l.length≤1000000): ∀(m n i:Nat) (z:ax),l.length-i≤m→m<n→i≤l.length→
  mI.l3 N n l z (br (l.take i).sum) (i:Int)=some (br l.sum)
 |m,0,i,z,_,hn,_=>by omega
 |m,n+1,i,z,hm,hn,hi=>by
  unfold mI.l3 mI.jU
  by_cases h1:i<l.length
  ·obtain⟨g0,g1⟩:=p6 h i
   have f1:=Nm (l.take i) (fun x hx=>h x (azT hx))
   rw[ayX,azF (by omega)]at f1
   have f2:Fit (l.take i).sum 900000:=(vI (n:=i) (by omega) f1.1 f1.2).mono (by omega)
   have f3:Fit (l.getD i 0) 900000:=(Fit.i64 g0 g1).mono (by omega)
   simp (disch:=omega) only[aE,az,cX,cP,cQ,cJ,aF,a8,bJ,cH,ak,bG,ayz,ayB,ayL,ay4,ayy,ayD,azb,ae,ayH,ayA,ayT,ayS,ayI,ayW,cn N (by omega) g0 g1,eM N hN f2 f3]
   rw[←iJ l h1]
   exact vJ N hN h hl (m-1) n (i+1) z (by omega) (by omega) (by omega)
  ·simp (disch:=omega) only[aE,az,cX,cP,cQ,cJ,aF,a8,bJ,cH,ak,bG,ayz,ayB,ayL,ay4,ayy,ayD,azb,ae,ayH,ayA,ayT,ayS,ayI,ayW]
   rw[azo (by omega)]
theorem ez:br 0=(false,([],())):=by unfold br;rw[show(0:Int).natAbs=0 from rfl,gN];rfl
theorem uF(N:Nat)(hN:4000000≤N){l:List Int}(h: ∀x∈l,-9223372036854775808≤x∧x<9223372036854775808)(hl:l.length≤1000000):mI N l=some (br l.sum):=by
 unfold mI mI.b
 have:=vJ N hN h hl l.length N 0 (false,([],())) (by omega) (by omega) (by omega)
 rw[aAz,aAe,ez]at this
 exact this
theorem Rz{a b:Int}(ha:0≤a)(U9:a<4294967296)(hb:0≤b)(kI:b<4294967296):jH .or .u64 a (b*4294967296)=a+b*4294967296:=by
 rw[Ff ha (by omega) (by omega) (by omega)]
 have h:=aAX (i:=32) (b:=a.toNat) (by omega) b.toNat
 have e:(b*4294967296).toNat=2^32*b.toNat:=by omega
 rw[e,Nat.or_comm,←h];omega
theorem OR{a b:Int}(ha:0≤a)(U9:a<4294967296)(hb:0≤b)(kI:b<4294967296):jH .or .u64 (b*4294967296) a=a+b*4294967296:=by
 rw[Ff (by omega) (by omega) ha (by omega)]
 have h:=aAX (i:=32) (b:=a.toNat) (by omega) b.toNat
 have e:(b*4294967296).toNat=2^32*b.toNat:=by omega
 rw[e,←h];omega
theorem abh{x:Int}(h0:0≤x):shl .u64 x 32=x*4294967296:=by rw[Ng (by omega) (by omega)];rfl
def zc(v:Int):Int×Bool:=if-9223372036854775808≤v∧v<9223372036854775808 then(v,true)else(0,false)
theorem Ve{n:Nat}(h:(iC n).length≤2):(iC n).getD 0 0+4294967296*(iC n).getD 1 0=n:=by
 have h1:=hZ (iC n) 0
 have h2:=hZ (iC n) 1
 rw[ay7,eL]at h1
 rw[azr (l:=iC n) (i:=1+1) h]at h2
 simp only[cf,azH]at h1 h2
 omega
theorem nZ(N:Nat)(v:Int):sx N (br v)=some (zc v):=by
 unfold sx
 simp only[br]
 by_cases hl:2<(iC v.natAbs).length
 ·rw[aE (by omega),ayz,zc,ayE]
  intro hh
  have:=qI 2 v.natAbs (by rw[show(4294967296:Nat)^2=18446744073709551616 from by decide];omega)
  omega
 ·have h2:=Ve (n:=v.natAbs) (by omega)
  obtain⟨a0,a1⟩:=(gi v.natAbs).getD 0
  obtain⟨b0,b1⟩:=(gi v.natAbs).getD 1
  have e0:=su N (iC v.natAbs) 0
  have e1:=su N (iC v.natAbs) 1
  simp only[Int.natCast_zero,Int.natCast_one]at e0 e1
  rw[az (by omega),ayB,e0,e1]
  generalize (iC v.natAbs).getD 0 0=a at*
  generalize (iC v.natAbs).getD 1 0=b at*
  simp only[ayy]
  rw[az (show(0:Int)≤32 by omega),ayB,abh b0,bG (x:=b*4294967296) (by omega) (by omega),Rz a0 a1 b0 b1]
  have ev:a+b*4294967296=v.natAbs:=by omega
  rw[ev]
  by_cases hn:v<0
  ·rw[ayO hn,ayz]
   by_cases Fb:9223372036854775808<(v.natAbs:Int)
   ·rw[aE Fb,ayz,zc,ayE (by omega)]
   ·rw[az (by omega),ayB,zc,ayF (by omega),ju,dZ]
    congr 2
    split<;>omega
  ·rw[ayR hn,ayB]
   by_cases Fb:9223372036854775807<(v.natAbs:Int)
   ·rw[aE Fb,ayz,zc,ayE (by omega)]
   ·rw[az (by omega),ayB,zc,ayF (by omega),ak (by omega) (by omega)]
    congr 2;omega
end VM
end
section
namespace VM
open Go VM.F
theorem HO: ∀(l:List Int) (k:Nat) (x:Int),k<l.length→cf (l.set k x)=cf l+4294967296^k*(x-l.getD k 0)
 |d::r,0,x,_=>by simp[cf];omega
 |d::r,k+1,x,h=>by
  have ih:=HO r k x (by simpa using h)
  rw[List.set_cons_succ,cf,cf,ih,aA8,aBX,azt (4294967296^k) 4294967296,azE,aAE];omega
theorem getD_set_ne(l:List Int){j k:Nat}(x:Int)(h:j≠k):(l.set j x).getD k 0=l.getD k 0:=by
 simp[ayC,List.getElem?_set_ne h]
theorem jv(l:List Int){k:Nat}(x:Int)(h:k<l.length):(l.set k x).getD k 0=x:=by
 simp[ayC,List.getElem?_set,h]
theorem qJ(l:List Int){k:Nat}(h:l.length≤k):l.getD k 0=0:=by
 rw[ayC,azc h];rfl
theorem yj(N:Nat)(K:ax→ax→ax→List Int→Int→Option ax){a b:List Int}(na nb:Bool)(z:ax)(ha:VD a)(hb:VD b)(i:Nat)(hi:i<a.length)(uC:a.length≤100000)(Kz:b.length≤100000):
  ∀(m n j:Nat) (out:List Int) (c:Int),b.length+1-j≤m→m<n→VD out→out.length=a.length+b.length+1→0≤c→c<4294967296→(j≤b.length→ ∀k,i+b.length≤k→out.getD k 0=0)→(b.length<j→c=0∧j=b.length+1∧ ∀k,i+b.length+1≤k→out.getD k 0=0)→
  ∃qK,gf.l7 N K n (na,(a,())) (nb,(b,())) z out (i:Int) c (j:Int)=K (na,(a,())) (nb,(b,())) z qK ((i+1:Nat):Int)∧VD qK∧qK.length=out.length∧
   cf qK=cf out+4294967296^i*(4294967296^j*(a.getD i 0*cf (b.drop j)+c))∧ ∀k,i+1+b.length≤k→qK.getD k 0=0
 |m,0,j,out,c,_,hn,_,_,_,_,_,_=>by omega
 |m,n+1,j,out,c,hm,hn,ho,ub,Qg,CF,hz,KA=>by
  unfold gf.l7 gf.mE
  by_cases HJ:b.length≤j∧c=0
  ·obtain⟨h1,rfl⟩:=HJ
   simp (disch:=omega) only[aE,az,cX,cP,cQ,cJ,aF,a8,bJ,cH,ak,bG,ayz,ayB,ayL,ay4,ayy,ayD,azb,ae,ayH,ayA,ayT,ayS,ayI,ayW]
   refine⟨out,rfl,ho,rfl,by rw[azr h1];simp[cf],fun k hk=> ?_⟩
   by_cases hj:j≤b.length
   ·exact hz hj k (by omega)
   ·exact(KA (by omega)).2.2 k (by omega)
  ·have Cr:j≤b.length:=by
    by_cases hj:j≤b.length
    ·exact hj
    ·exact absurd ⟨by omega,(KA (by omega)).1⟩ HJ
   obtain⟨ga0,ga1⟩:=ha.getD i
   obtain⟨gb0,gb1⟩:=hb.getD j
   obtain⟨go0,go1⟩:=ho.getD (i+j)
   have step: ∃qK,gf.j9 N K (gf.l7 N K n) (na,(a,())) (nb,(b,())) z out (i:Int) c (j:Int)=K (na,(a,())) (nb,(b,())) z qK ((i+1:Nat):Int)∧VD qK∧qK.length=out.length∧
     cf qK=cf out+4294967296^i*(4294967296^j*(a.getD i 0*cf (b.drop j)+c))∧ ∀k,i+1+b.length≤k→qK.getD k 0=0:=by
    unfold gf.j9 gf.La
    have eij:(i:Int)+(j:Int)=((i+j:Nat):Int):=rfl
    have hp:=mul_lt (m:=4294967295) (n:=4294967295) ga0 gb0 (by omega) (by omega)
    simp only[su,ayy,eij,ayD]
    simp (disch:=omega) only[aE,az,cX,cP,cQ,cJ,aF,a8,bJ,cH,ak,bG,ayz,ayB,ayL,ay4,ayy,ayD,azb,ae,ayH,ayA,ayT,ayS,ayI,ayW]
    generalize hx:out.getD (i+j) 0=x at*
    generalize ha':a.getD i 0=ai at*
    generalize dN:b.getD j 0=bj at*
    generalize hpe:ai*bj=p at*
    have hpz:b.length≤j→p=0∧x=0:=fun h=>by
     rw[qJ b h]at dN
     refine⟨by rw[←hpe,←dN,Int.mul_zero],?_⟩
     rw[←hx];exact hz Cr _ (by omega)
    rw[gM (by omega) (by omega),AO]
    have aom:(out.set (i+j) ((c+(x+p))%4294967296)).length=a.length+b.length+1:=by rw[ayT];exact ub
    obtain⟨qK,h1,h2,h3,h4,h5⟩:=yj N K na nb z ha hb i hi uC Kz (m-1) n (j+1) (out.set (i+j) ((c+(x+p))%4294967296)) ((c+(x+p))/4294967296) (by omega) (by omega) (ho.set _ (by omega) (by omega)) aom (by omega) (by omega)
     (fun h k hk=>by rw[getD_set_ne _ _ (by omega)];exact hz Cr k hk)
     (fun h=>by
      obtain⟨Qk,Q2⟩:=hpz (by omega)
      refine⟨by omega,by omega,fun k hk=> ?_⟩
      rw[getD_set_ne _ _ (by omega)];exact hz Cr k (by omega))
    refine⟨qK,h1,h2,by rw[h3,ayT],?_,h5⟩
    rw[h4,HO _ _ _ (by omega),hx,ha',hZ b j,dN,aAE ai,hpe,Int.pow_add,aBX]
    have e1:ai*(4294967296*cf (b.drop (j+1)))=4294967296*(ai*cf (b.drop (j+1))):=Int.mul_left_comm _ _ _
    rw[e1]
    generalize ai*cf (b.drop (j+1))=y
    generalize (4294967296:Int)^i=P
    generalize (4294967296:Int)^j=R
    rw[azE R,azE P,Int.add_assoc,←aAE,←aAE]
    congr 3
    omega
   by_cases h1:j<b.length
   ·simp (disch:=omega) only[aE,ayz];exact step
   ·have:0<c:=by omega
    simp (disch:=omega) only[aE,az,ayz,ayB];exact step
theorem yk(N:Nat)(hN:4000000≤N){a b:List Int}(na nb:Bool)(z:ax)(ha:VD a)(hb:VD b)(uC:a.length≤100000)(Kz:b.length≤100000):
  ∀(m n i:Nat) (out:List Int),a.length-i≤m→m<n→i≤a.length→VD out→out.length=a.length+b.length+1→(∀k,i+b.length≤k→out.getD k 0=0)→cf out=cf (a.take i)*cf b→
  gf.l3 N n (na,(a,())) (nb,(b,())) z out (i:Int)=some (br (if na=nb then cf a*cf b else-(cf a*cf b)))
 |m,0,i,out,_,hn,_,_,_,_,_=>by omega
 |m,n+1,i,out,hm,hn,hi,ho,ub,hz,hv=>by
  unfold gf.l3 gf.jU
  by_cases h1:i<a.length
  ·simp only
   rw[aE (by omega),ayz]
   obtain⟨qK,e1,e2,e3,e4,e5⟩:=yj N (gf.l3 N n) na nb z ha hb i h1 uC Kz (b.length+1) N 0 out 0 (by omega) (by omega) ho ub (by omega) (by omega) (fun _ k hk=>hz k hk) (fun h=>by omega)
   rw[show((0:Nat):Int)=0 from rfl]at e1
   rw[e1]
   refine yk N hN na nb z ha hb uC Kz (m-1) n (i+1) qK (by omega) (by omega) (by omega) e2 (by rw[e3];exact ub) (fun k hk=>e5 k (by omega)) ?_
   rw[e4,hv,fa a h1,nF,ayX,azF (by omega),ay7,Int.pow_zero,aBu,aAF,aAx,azE]
  ·simp only
   rw[az (by omega),ayB]
   simp only[lL N _ ho (by omega) (by omega),ayy]
   rw[hv,azo (by omega),lX]
   congr 2
   cases na<;>cases nb<;>simp
theorem lY(N:Nat)(hN:4000000≤N){u v:Int}(hu:Fit u 90000)(hv:Fit v 90000):gf N (br u) (br v)=some (br (u*v)):=by
 have lu:=hu.len
 have lv:=hv.len
 unfold gf gf.b
 simp only[br]
 simp (disch:=omega) only[aE,az,cX,cP,cQ,cJ,aF,a8,bJ,cH,ak,bG,ayz,ayB,ayL,ay4,ayy,ayD,azb,ae,ayH,ayA,ayT,ayS,ayI,ayW]
 have e:(((iC u.natAbs).length:Int)+((iC v.natAbs).length:Int)+1).toNat=(iC u.natAbs).length+(iC v.natAbs).length+1:=by omega
 have:=yk N hN (decide (u<0)) (decide (v<0)) (false,([],())) (gi u.natAbs) (gi v.natAbs) (by omega) (by omega) (iC u.natAbs).length N 0 (List.replicate ((iC u.natAbs).length+(iC v.natAbs).length+1) 0) (by omega) (by omega) (by omega) (VD.abg _) (by simp)
  (fun k _=>by rw[ayC,aBf];split<;>rfl) (by
   have: ∀n,cf (List.replicate n 0)=0:=fun n=>by
    induction n with
    |zero=>rfl
    |succ n ih=>rw[aA7,cf,ih];rfl
   rw[this];simp[cf])
 rw[eL,eL]at this
 have e2:(((iC u.natAbs).length+(iC v.natAbs).length:Nat):Int)+1=(iC u.natAbs).length+(iC v.natAbs).length+1:=by omega
 first
 |(rw[e];refine this.trans ?_)
 |(refine(this).trans ?_)
 show some (br _)=some (br _)
 congr 2
 have key:(u.natAbs:Int)*v.natAbs=if decide (u<0)=decide (v<0)then u*v else-(u*v):=by
  by_cases h1:u<0<;>by_cases h2:v<0
  ·rw[ayF (by simp[h1,h2]),show(u.natAbs:Int)= -u from by omega,show(v.natAbs:Int)= -v from by omega,Int.neg_mul_neg]
  ·rw[ayE (by simp[h1,h2]),show(u.natAbs:Int)= -u from by omega,show(v.natAbs:Int)=v from by omega,Int.neg_mul]
  ·rw[ayE (by simp[h1,h2]),show(u.natAbs:Int)=u from by omega,show(v.natAbs:Int)= -v from by omega,aBg]
  ·rw[ayF (by simp[h1,h2]),show(u.natAbs:Int)=u from by omega,show(v.natAbs:Int)=v from by omega]
 rw[key]
 split<;>simp
end VM
end
