/- A part of the proof of TearDrawn of layer 29: what the functions compute, in plain words. -/
import Derived.Test.YtocmlaipoebfeaaGreatVm0
import GoSem.Claim
import Derived.Test.YtocmlaipoebfeaaGreatText
set_option linter.all false
section
namespace VM
open Go
theorem mM(x:Int):W .u64 x=x%18446744073709551616:=by rw[xg];simp[IntKind.wrap,IntKind.bits,IntKind.signed]
theorem bz{x:Int}(h0:0≤x)(h1:x<18446744073709551616):W .u64 x=x:=by rw[mM];omega
theorem gE(x:Int):W .i64 x=if 9223372036854775808≤x%18446744073709551616 then x%18446744073709551616-18446744073709551616 else x%18446744073709551616:=by
 rw[xg];simp[IntKind.wrap,IntKind.bits,IntKind.signed]
theorem al{x:Int}(h0: -9223372036854775808≤x)(h1:x<9223372036854775808):W .i64 x=x:=by
 rw[gE];split<;>omega
theorem aeU{x:Int}(h0:0≤x)(h1:x<256):W .u8 x=x:=by rw[xg];simp[IntKind.wrap,IntKind.bits,IntKind.signed];omega
theorem wf_u64{x:Int}:(Lit.int .u64 x).wf=true↔0≤x∧x≤18446744073709551615:=by simp[Lit.wf,IntKind.min,IntKind.max,IntKind.bits,IntKind.signed]
theorem aD{x y:Int}(h:x<y):aH x y=true:=by rw[mw];exact decide_eq_true h
theorem ay{x y:Int}(h:y≤x):aH x y=false:=by rw[mw];exact decide_eq_false (by omega)
theorem cB{x y:Int}(h:x≤y):bV x y=true:=by rw[jV];exact decide_eq_true h
theorem cv{x y:Int}(h:y<x):bV x y=false:=by rw[jV];exact decide_eq_false (by omega)
theorem ck{x y:Int}(h:x=y):az x y=true:=by rw[fL];exact decide_eq_true h
theorem cf{x y:Int}(h:x≠y):az x y=false:=by rw[fL];exact decide_eq_false h
theorem aG{i:Int}{n:Nat}(h0:0≤i)(h1:i<n):aJ i n=true:=by rw[Nj];exact decide_eq_true ⟨h0,h1⟩
theorem ba{n:Nat}(h:n<68719476736):small n=true:=by rw[yA];exact decide_eq_true (by simpa [tx]using h)
theorem br{l c:Int}(h0:0≤l)(h1:l≤c)(h2:c<68719476736):dZ l c=true:=by rw[Bj];exact decide_eq_true (by simp only[tx];omega)
theorem b8{l h m n:Int}(h0:0≤l)(h1:l≤h)(h2:h≤m)(h3:m≤n):fE l h m n=true:=by rw[tG];exact decide_eq_true ⟨h0,h1,h2,h3⟩
theorem aa(n:Nat):(n:Int)+1=((n+1:Nat):Int):=rfl
theorem nZ(x:Int)(h0:0≤x)(h1:x<18446744073709551616):(BitVec.ofInt 64 x).toNat=x.toNat:=by
 rw[BitVec.toNat_ofInt];congr 1;omega
theorem E9{x y:Int}(hx:0≤x)(Fa:x<18446744073709551616)(hy:0≤y)(RN:y<18446744073709551616):ja .and .u64 x y=((x.toNat&&& y.toNat:Nat):Int):=by
 rw[o1]
 have h:((BitVec.ofInt 64 x&&& BitVec.ofInt 64 y).toNat)=x.toNat&&& y.toNat:=by rw[BitVec.toNat_and,nZ x hx Fa,nZ y hy RN]
 show IntKind.u64.wrap (((BitVec.ofInt 64 x&&& BitVec.ofInt 64 y).toNat:Nat):Int)=_
 rw[h,←xg]
 have:x.toNat&&& y.toNat≤x.toNat:=Nat.and_le_left
 exact bz (by omega) (by omega)
theorem C5{x y:Int}(hx:0≤x)(Fa:x<18446744073709551616)(hy:0≤y)(RN:y<18446744073709551616):ja .or .u64 x y=((x.toNat|||y.toNat:Nat):Int):=by
 rw[o1]
 have h:((BitVec.ofInt 64 x|||BitVec.ofInt 64 y).toNat)=x.toNat|||y.toNat:=by rw[BitVec.toNat_or,nZ x hx Fa,nZ y hy RN]
 show IntKind.u64.wrap (((BitVec.ofInt 64 x|||BitVec.ofInt 64 y).toNat:Nat):Int)=_
 rw[h,←xg]
 have:x.toNat|||y.toNat<2^64:=Nat.or_lt_two_pow (by omega) (by omega)
 exact bz (by omega) (by omega)
theorem gh{x:Int}(h0:0≤x)(h1:x<18446744073709551616):ja .and .u64 x 4294967295=x%4294967296:=by
 rw[E9 h0 h1 (by omega) (by omega)]
 have:=Nat.and_two_pow_sub_one_eq_mod x.toNat 32
 rw[show((4294967295:Int).toNat)=2^32-1 from rfl,this]
 omega
theorem rG{x y:Int}(h0:0≤y)(h1:y≤64):shr .u64 x y=x/2^y.toNat:=by
 rw[Ig]
 have:min y.toNat IntKind.u64.bits=y.toNat:=by simp[IntKind.bits];omega
 rw[this,Int.fdiv_eq_ediv_of_nonneg]
 exact_mod_cast Nat.zero_le _
theorem za(x:Int):shr .u64 x 32=x/4294967296:=by rw[rG (by omega) (by omega)];rfl
theorem akk(x:Int):shr .u64 x 1=x/2:=by rw[rG (by omega) (by omega)];rfl
theorem mN{x:Int}(h0: -9223372036854775808≤x)(h1:x<9223372036854775808):shr .i64 x 63=if x<0 then-1 else 0:=by
 rw[Ig]
 have:(2:Int)^(min (63:Int).toNat IntKind.i64.bits)=9223372036854775808:=by rfl
 rw[this,Int.fdiv_eq_ediv_of_nonneg _ (by omega)]
 split<;>omega
theorem Kh{x y:Int}(h0:0≤y)(h1:y≤64):shl .u64 x y=x*2^y.toNat:=by
 rw[Nl]
 have:min y.toNat IntKind.u64.bits=y.toNat:=by simp[IntKind.bits];omega
 rw[this]
theorem mul_lt{a b m n:Int}(ha:0≤a)(hb:0≤b)(ham:a≤m)(hbn:b≤n):0≤a*b∧a*b≤m*n:=
 ⟨Int.mul_nonneg ha hb,Int.le_trans (Int.mul_le_mul_of_nonneg_right ham hb) (Int.mul_le_mul_of_nonneg_left hbn (by omega))⟩
end VM
end
section
namespace VM
open Go VM.F
theorem LN(a b:Int):a*b=(a/4294967296)*(b/4294967296)*18446744073709551616+((a/4294967296)*(b%4294967296)+(a%4294967296)*(b/4294967296))*4294967296+(a%4294967296)*(b%4294967296):=by
 have ha:a=(a/4294967296)*4294967296+a%4294967296:=by omega
 have hb:b=(b/4294967296)*4294967296+b%4294967296:=by omega
 generalize a/4294967296=a1 at*
 generalize a%4294967296=a0 at*
 generalize b/4294967296=b1 at*
 generalize b%4294967296=b0 at*
 subst ha;subst hb
 simp only[Int.add_mul,Int.mul_add]
 have e1:a1*4294967296*(b1*4294967296)=a1*b1*18446744073709551616:=by
  rw[Int.mul_assoc,Int.mul_left_comm 4294967296,←Int.mul_assoc];rfl
 have e2:a1*4294967296*b0=a1*b0*4294967296:=by rw[Int.mul_assoc,Int.mul_comm 4294967296,←Int.mul_assoc]
 have e3:a0*(b1*4294967296)=a0*b1*4294967296:=by rw[←Int.mul_assoc]
 rw[e1,e2,e3];omega
theorem On(N:Nat){a b:Int}(ha:0≤a)(XV:a<18446744073709551616)(hb:0≤b)(jI:b<18446744073709551616):
  RO N a b=some (a*b/18446744073709551616,a*b%18446744073709551616):=by
 unfold RO
 have hm:=LN a b
 have h1:=mul_lt (m:=4294967295) (n:=4294967295) (show 0≤a/4294967296 by omega) (show 0≤b/4294967296 by omega) (by omega) (by omega)
 have h2:=mul_lt (m:=4294967295) (n:=4294967295) (show 0≤a/4294967296 by omega) (show 0≤b%4294967296 by omega) (by omega) (by omega)
 have h3:=mul_lt (m:=4294967295) (n:=4294967295) (show 0≤a%4294967296 by omega) (show 0≤b/4294967296 by omega) (by omega) (by omega)
 have h4:=mul_lt (m:=4294967295) (n:=4294967295) (show 0≤a%4294967296 by omega) (show 0≤b%4294967296 by omega) (by omega) (by omega)
 simp only[ay (show(0:Int)≤32 by omega),cond_false,gh ha XV,gh hb jI,za]
 generalize a/4294967296=a1 at*
 generalize a%4294967296=a0 at*
 generalize b/4294967296=b1 at*
 generalize b%4294967296=b0 at*
 generalize a*b=ab at*
 generalize a1*b1=p at*
 generalize a1*b0=q at*
 generalize a0*b1=r at*
 generalize a0*b0=s at*
 rw[bz (x:=q) (by omega) (by omega),bz (x:=s) (by omega) (by omega),bz (x:=r) (by omega) (by omega),bz (x:=p) (by omega) (by omega),bz (x:=q+s/4294967296) (by omega) (by omega),
  gh (by omega) (by omega),bz (x:=(q+s/4294967296)%4294967296+r) (by omega) (by omega),bz (x:=p+(q+s/4294967296)/4294967296) (by omega) (by omega),bz (x:=p+(q+s/4294967296)/4294967296+_) (by omega) (by omega),mM]
 congr 2
 omega
end VM
end
section
namespace VM
open Go VM.F
theorem ye(N:Nat){x:Int}(h0: -9223372036854775808≤x)(h1:x<9223372036854775808):ZK N x=some (x.natAbs:Int):=by
 unfold ZK
 by_cases h:x<0
 ·rw[aD h,cond_true,mM,mM];congr 1;omega
 ·rw[ay (by omega),cond_false,mM];congr 1;omega
theorem ui(N:Nat){x y c:Int}(hx:0≤x)(hy:0≤y)(hc:0≤c)(AQ:c≤1):pX N x y c=some ((x+y+c)%18446744073709551616,(x+y+c)/18446744073709551616):=by
 unfold pX;rw[if_pos ⟨hx,hy,hc,AQ⟩]
theorem oM(N:Nat){x y c:Int}(hx:0≤x)(Fa:x<18446744073709551616)(hy:0≤y)(RN:y<18446744073709551616)(hc:0≤c)(AQ:c≤1):
  pY N x y c=some ((x-y-c)%18446744073709551616,if x<y+c then 1 else 0):=by
 unfold pY;rw[if_pos ⟨hx,Fa,hy,RN,hc,AQ⟩];congr 2;omega
def bitLen(n:Nat):Nat:=if n=0 then 0 else bitLen (n/2)+1
termination_by n
decreasing_by omega
theorem mO{n:Nat}(h:n≠0):bitLen n=bitLen (n/2)+1:=by rw[bitLen];simp[h]
theorem qN:bitLen 0=0:=by rw[bitLen];rfl
theorem bitLen_shift(k:Nat): ∀n,2^k≤n→bitLen n=bitLen (n/2^k)+k:=by
 induction k with
 |zero=>intro n _;simp
 |succ k ih=>
  intro n h
  have hp:0<2^k:=Nat.pow_pos (by decide)
  rw[Nat.pow_succ]at h
  rw[mO (by omega),ih (n/2) (by omega),Nat.div_div_eq_div_mul,Nat.pow_succ,Nat.mul_comm 2];omega
theorem bitLen_spec(n:Nat):n<2^bitLen n∧(n≠0→2^(bitLen n-1)≤n):=by
 induction n using Nat.strongRecOn with
 |_ n ih=>
  by_cases h:n=0
  ·subst h;rw[qN];simp
  ·rw[mO h]
   obtain⟨h1,h2⟩:=ih (n/2) (by omega)
   refine⟨by rw[Nat.pow_succ];omega,fun _=> ?_⟩
   rw[Nat.add_sub_cancel]
   by_cases h3:n/2=0
   ·rw[h3,qN];simp;omega
   ·have:=h2 h3
    have e:bitLen (n/2)=(bitLen (n/2)-1)+1:=by rw[mO h3];omega
    rw[e,Nat.pow_succ];omega
theorem RP: ∀i:Fin 256,((strOf [0,1,2,2,3,3,3,3,4,4,4,4,4,4,4,4,5,5,5,5,5,5,5,5,5,5,5,5,5,5,5,5,6,6,6,6,6,6,6,6,6,6,6,6,6,6,6,6,6,6,6,6,6,6,6,6,6,6,6,6,6,6,6,6,7,7,7,7,7,7,7,7,7,7,7,7,7,7,7,7,7,7,7,7,7,7,7,7,7,7,7,7,7,7,7,7,7,7,7,7,7,7,7,7,7,7,7,7,7,7,7,7,7,7,7,7,7,7,7,7,7,7,7,7,7,7,7,7,8,8,8,8,8,8,8,8,8,8,8,8,8,8,8,8,8,8,8,8,8,8,8,8,8,8,8,8,8,8,8,8,8,8,8,8,8,8,8,8,8,8,8,8,8,8,8,8,8,8,8,8,8,8,8,8,8,8,8,8,8,8,8,8,8,8,8,8,8,8,8,8,8,8,8,8,8,8,8,8,8,8,8,8,8,8,8,8,8,8,8,8,8,8,8,8,8,8,8,8,8,8,8,8,8,8,8,8,8,8,8,8,8,8,8,8,8,8,8,8,8,8,8,8,8,8,8,8]).data.getD i.val 0).toNat=Nat.log2 (2*i.val+1):=by decide+kernel
theorem wP(n:Nat):Nat.log2 (2*n+1)=bitLen n:=by
 induction n using Nat.strongRecOn with
 |_ n ih=>
  by_cases h:n=0
  ·subst h;rw[qN];decide
  ·rw[mO h,Nat.log2_def,if_pos (by omega),show(2*n+1)/2=n from by omega]
   congr 1
   have:=ih (n/2) (by omega)
   rw[←this]
   by_cases h2:n%2=0
   ·rw[Nat.log2_def,Nat.log2_def (n:=2*(n/2)+1)]
    have e1:(2*(n/2)+1)/2=n/2:=by omega
    rw[if_pos (by omega),if_pos (by omega),e1]
   ·congr 1;omega
theorem Fb(i:Nat)(h:i<256):((strOf [0,1,2,2,3,3,3,3,4,4,4,4,4,4,4,4,5,5,5,5,5,5,5,5,5,5,5,5,5,5,5,5,6,6,6,6,6,6,6,6,6,6,6,6,6,6,6,6,6,6,6,6,6,6,6,6,6,6,6,6,6,6,6,6,7,7,7,7,7,7,7,7,7,7,7,7,7,7,7,7,7,7,7,7,7,7,7,7,7,7,7,7,7,7,7,7,7,7,7,7,7,7,7,7,7,7,7,7,7,7,7,7,7,7,7,7,7,7,7,7,7,7,7,7,7,7,7,7,8,8,8,8,8,8,8,8,8,8,8,8,8,8,8,8,8,8,8,8,8,8,8,8,8,8,8,8,8,8,8,8,8,8,8,8,8,8,8,8,8,8,8,8,8,8,8,8,8,8,8,8,8,8,8,8,8,8,8,8,8,8,8,8,8,8,8,8,8,8,8,8,8,8,8,8,8,8,8,8,8,8,8,8,8,8,8,8,8,8,8,8,8,8,8,8,8,8,8,8,8,8,8,8,8,8,8,8,8,8,8,8,8,8,8,8,8,8,8,8,8,8,8,8,8,8,8,8]).data.getD i 0).toNat=bitLen i:=by
 rw[←wP];exact RP ⟨i,h⟩
theorem Fc:ByteArray.size (strOf [0,1,2,2,3,3,3,3,4,4,4,4,4,4,4,4,5,5,5,5,5,5,5,5,5,5,5,5,5,5,5,5,6,6,6,6,6,6,6,6,6,6,6,6,6,6,6,6,6,6,6,6,6,6,6,6,6,6,6,6,6,6,6,6,7,7,7,7,7,7,7,7,7,7,7,7,7,7,7,7,7,7,7,7,7,7,7,7,7,7,7,7,7,7,7,7,7,7,7,7,7,7,7,7,7,7,7,7,7,7,7,7,7,7,7,7,7,7,7,7,7,7,7,7,7,7,7,7,8,8,8,8,8,8,8,8,8,8,8,8,8,8,8,8,8,8,8,8,8,8,8,8,8,8,8,8,8,8,8,8,8,8,8,8,8,8,8,8,8,8,8,8,8,8,8,8,8,8,8,8,8,8,8,8,8,8,8,8,8,8,8,8,8,8,8,8,8,8,8,8,8,8,8,8,8,8,8,8,8,8,8,8,8,8,8,8,8,8,8,8,8,8,8,8,8,8,8,8,8,8,8,8,8,8,8,8,8,8,8,8,8,8,8,8,8,8,8,8,8,8,8,8,8,8,8,8])=256:=by decide+kernel
set_option maxRecDepth 100000 in
theorem Ki(N:Nat){x c:Int}(h0:0≤x)(h1:x<65536)(hc:0≤c)(AQ:c≤100):jc.j7 N x c=some (c+bitLen x.toNat):=by
 unfold jc.j7 jc.IB
 have h8:shr .u64 x 8=x/256:=by rw[rG (by omega) (by omega)];rfl
 have hle: ∀n,n<256→bitLen n≤8:=fun n hn=>by
  rw[←wP]
  have:Nat.log2 (2*n+1)<9:=(Nat.log2_lt (by omega)).2 (by omega)
  omega
 by_cases h:256≤x
 ·have ht:=Fb (x/256).toNat (by omega)
  have hl:=hle (x/256).toNat (by omega)
  rw[cB h,cond_true,ay (show(0:Int)≤8 by omega),cond_false,h8]
  rw[aeU (x:=x/256) (by omega) (by omega)]
  extract_lets v8
  rw[Fc,aG (by omega) (by omega),cond_true,ht]
  clear ht
  simp (disch:=omega) only[aD,ay,cB,cv,ck,cf,aG,ba,br,b8,al,bz,cond_true,cond_false,Bool.not_true,Bool.not_false,Option.bind_some,Int.toNat_natCast,Int.toNat_zero,aa,List.length_append,List.length_singleton,List.length_set,List.length_replicate,List.length_cons,List.length_nil]
  have:=bitLen_shift 8 x.toNat (by omega)
  rw[this]
  have e:(x/256).toNat=x.toNat/2^8:=by omega
  rw[e];congr 1;omega
 ·have ht:=Fb x.toNat (by omega)
  have hl:=hle x.toNat (by omega)
  rw[cv (by omega),cond_false,aeU (x:=x) (by omega) (by omega)]
  extract_lets v8
  rw[Fc,aG (by omega) (by omega),cond_true,ht]
  clear ht
  simp (disch:=omega) only[aD,ay,cB,cv,ck,cf,aG,ba,br,b8,al,bz,cond_true,cond_false,Bool.not_true,Bool.not_false,Option.bind_some,Int.toNat_natCast,Int.toNat_zero,aa,List.length_append,List.length_singleton,List.length_set,List.length_replicate,List.length_cons,List.length_nil]
theorem Oo(N:Nat){x:Int}(h0:0≤x)(h1:x<18446744073709551616):jc N x=some (bitLen x.toNat:Int):=by
 have h16: ∀y c:Int,0≤y→y<4294967296→0≤c→c≤50→jc.j4 N y c=some (c+bitLen y.toNat):=fun y c hy0 RN hc AQ=>by
  unfold jc.j4 jc.j4b
  by_cases h:65536≤y
  ·have e:shr .u64 y 16=y/65536:=by rw[rG (by omega) (by omega)];rfl
   rw[cB h,cond_true,ay (by omega),cond_false,e,al (by omega) (by omega),Ki N (by omega) (by omega) (by omega) (by omega)]
   have:=bitLen_shift 16 y.toNat (by omega)
   rw[this]
   have e:(y/65536).toNat=y.toNat/2^16:=by omega
   rw[e];congr 1;omega
  ·rw[cv (by omega),cond_false,Ki N hy0 (by omega) hc (by omega)]
 unfold jc jc.b
 by_cases h:4294967296≤x
 ·rw[cB h,cond_true,ay (by omega),cond_false,za,h16 _ _ (by omega) (by omega) (by omega) (by omega)]
  have:=bitLen_shift 32 x.toNat (by omega)
  rw[this]
  have e:(x/4294967296).toNat=x.toNat/2^32:=by omega
  rw[e];congr 1;omega
 ·rw[cv (by omega),cond_false,h16 _ _ h0 (by omega) (by omega) (by omega)]
  congr 1;omega
end VM
end
section
namespace VM
open Go VM.F
structure kI(Y yn1 yn0 un32 un1 q rh:Int):Prop where
 hY:Y=yn1*4294967296+yn0
 y1:2147483648≤yn1
 y1':yn1<4294967296
 y0:0≤yn0
 y0':yn0<4294967296
 u1:0≤un1
 u1':un1<4294967296
 lt:un32<Y
 q0:0≤q
 eq:q*yn1+rh=un32
 r0:0≤rh
 q1:q≤4294967297
 ge:(un32*4294967296+un1)/Y≤q
theorem kI.prod{Y yn1 yn0 un32 un1 q rh:Int}(g:kI Y yn1 yn0 un32 un1 q rh):q*Y=(un32-rh)*4294967296+q*yn0∧0≤q*yn0∧q*yn0≤18446744073709551615:=by
 have h:=mul_lt (m:=4294967297) (n:=4294967295) g.q0 g.y0 g.q1 (by have:=g.y0';omega)
 refine⟨?_,h.1,by omega⟩
 rw[g.hY,Int.mul_add,←Int.mul_assoc,show q*yn1=un32-rh from by have:=g.eq;omega]
theorem kI.pos{Y yn1 yn0 un32 un1 q rh:Int}(g:kI Y yn1 yn0 un32 un1 q rh):0<Y:=by have:=g.hY;have:=g.y1;have:=g.y0;omega
theorem kI.digit{Y yn1 yn0 un32 un1 q rh:Int}(g:kI Y yn1 yn0 un32 un1 q rh)(h:0≤un32):0≤(un32*4294967296+un1)/Y∧(un32*4294967296+un1)/Y<4294967296:=by
 have hp:=g.pos
 have:=g.u1;have:=g.u1';have:=g.lt
 refine⟨Int.ediv_nonneg (by omega) (by omega),?_⟩
 rw[Int.ediv_lt_iff_lt_mul hp];omega
theorem kI.done{Y yn1 yn0 un32 un1 q rh:Int}(g:kI Y yn1 yn0 un32 un1 q rh)(h:q*yn0≤4294967296*rh+un1):q=(un32*4294967296+un1)/Y:=by
 have hp:=g.pos
 have h1:=g.prod.1
 have h2:q≤(un32*4294967296+un1)/Y:=by
  rw[Int.le_ediv_iff_mul_le hp];omega
 have:=g.ge
 omega
theorem kI.next{Y yn1 yn0 un32 un1 q rh:Int}(g:kI Y yn1 yn0 un32 un1 q rh)(hu:0≤un32)(h:4294967296≤q∨4294967296*rh+un1<q*yn0):kI Y yn1 yn0 un32 un1 (q-1) (rh+yn1)∧1≤q:=by
 have hp:=g.pos
 have h1:=g.prod.1
 have hd:=g.digit hu
 have dF:(un32*4294967296+un1)/Y<q:=by
  rcases h with h|h
  ·omega
  ·rw[Int.ediv_lt_iff_lt_mul hp];omega
 have:=g.q1;have:=g.r0;have:=g.y1
 exact⟨⟨g.hY,g.y1,g.y1',g.y0,g.y0',g.u1,g.u1',g.lt,by omega,by rw[Int.sub_mul,Int.one_mul];have:=g.eq;omega,by omega,by omega,by omega⟩,by omega⟩
theorem Kj(N:Nat){Y s yn1 yn0 un32 un1 un0:Int}(hu:0≤un32)(RE:un32<18446744073709551616): ∀(m n:Nat) (q rh:Int),kI Y yn1 yn0 un32 un1 q rh→rh<4294967296→4294967296-rh≤2147483648*m→m<n→
  cP.Fe N n Y s yn1 yn0 un32 un1 un0 q rh=cP.Nb N Y s yn1 yn0 un32 un1 un0 ((un32*4294967296+un1)/Y)
 |m,0,q,rh,_,_,_,hn=>by omega
 |m,n+1,q,rh,g,hr,hm,hn=>by
  unfold cP.Fe cP.Ff
  have XW:=g.prod
  have hd:=g.digit hu
  obtain⟨hY,y1,y1',y0,y0',u1,u1',lt,q0,eq,r0,q1,ge⟩:=id g
  have go:(4294967296≤q∨4294967296*rh+un1<q*yn0)→
    (cond (bV (4294967296:Int) (W .u64 (rh+yn1))) (cP.Nb N Y s yn1 yn0 un32 un1 un0 (W .u64 (q-1))) (cP.Fe N n Y s yn1 yn0 un32 un1 un0 (W .u64 (q-1)) (W .u64 (rh+yn1))))=cP.Nb N Y s yn1 yn0 un32 un1 un0 ((un32*4294967296+un1)/Y):=fun h=>by
   obtain⟨g',hq⟩:=g.next hu h
   rw[bz (x:=rh+yn1) (by omega) (by omega),bz (x:=q-1) (by omega) (by omega)]
   by_cases hb:4294967296≤rh+yn1
   ·rw[cB hb,cond_true]
    have Bm:=g'.prod
    rw[g'.done (by omega)]
   ·rw[cv (by omega),cond_false]
    exact Kj N hu RE (m-1) n (q-1) (rh+yn1) g' (by omega) (by omega) (by omega)
  by_cases h1:4294967296≤q
  ·rw[cB h1,cond_true]
   exact go (.inl h1)
  ·rw[cv (by omega),cond_false,bz (x:=4294967296*rh) (by omega) (by omega),bz (x:=4294967296*rh+un1) (by omega) (by omega),bz (x:=q*yn0) (by omega) (by omega)]
   by_cases h2:4294967296*rh+un1<q*yn0
   ·rw[aD h2,cond_true]
    exact go (.inr h2)
   ·rw[ay (by omega),cond_false,g.done (by omega)]
theorem Kk(N:Nat){Y s yn1 yn0 un32 un1 a b:Int}(hu:0≤un32)(RE:un32<18446744073709551616): ∀(m n:Nat) (q rh:Int),kI Y yn1 yn0 un32 un1 q rh→rh<4294967296→4294967296-rh≤2147483648*m→m<n→
  cP.yf N n Y s yn1 yn0 un1 a rh un32 q=cP.XX N Y s un1 a un32 ((un32*4294967296+un1)/Y)
 |m,0,q,rh,_,_,_,hn=>by omega
 |m,n+1,q,rh,g,hr,hm,hn=>by
  unfold cP.yf cP.zb
  have XW:=g.prod
  have hd:=g.digit hu
  obtain⟨hY,y1,y1',y0,y0',u1,u1',lt,q0,eq,r0,q1,ge⟩:=id g
  have go:(4294967296≤q∨4294967296*rh+un1<q*yn0)→
    (cond (bV (4294967296:Int) (W .u64 (rh+yn1))) (cP.XX N Y s un1 a un32 (W .u64 (q-1))) (cP.yf N n Y s yn1 yn0 un1 a (W .u64 (rh+yn1)) un32 (W .u64 (q-1))))=cP.XX N Y s un1 a un32 ((un32*4294967296+un1)/Y):=fun h=>by
   obtain⟨g',hq⟩:=g.next hu h
   rw[bz (x:=rh+yn1) (by omega) (by omega),bz (x:=q-1) (by omega) (by omega)]
   by_cases hb:4294967296≤rh+yn1
   ·rw[cB hb,cond_true]
    have Bm:=g'.prod
    rw[g'.done (by omega)]
   ·rw[cv (by omega),cond_false]
    exact Kk N (b:=b) hu RE (m-1) n (q-1) (rh+yn1) g' (by omega) (by omega) (by omega)
  by_cases h1:4294967296≤q
  ·rw[cB h1,cond_true]
   exact go (.inl h1)
  ·rw[cv (by omega),cond_false,bz (x:=4294967296*rh) (by omega) (by omega),bz (x:=4294967296*rh+un1) (by omega) (by omega),bz (x:=q*yn0) (by omega) (by omega)]
   by_cases h2:4294967296*rh+un1<q*yn0
   ·rw[aD h2,cond_true]
    exact go (.inr h2)
   ·rw[ay (by omega),cond_false,g.done (by omega)]
theorem kI.first{Y yn1 yn0 un32 un1:Int}(hY:Y=yn1*4294967296+yn0)(y1:2147483648≤yn1)(y1':yn1<4294967296)(y0:0≤yn0)(y0':yn0<4294967296)(u1:0≤un1)(u1':un1<4294967296)(hu:0≤un32)(lt:un32<Y):
  kI Y yn1 yn0 un32 un1 (un32/yn1) (un32-un32/yn1*yn1)∧un32-un32/yn1*yn1<4294967296∧0≤un32/yn1*yn1∧un32/yn1*yn1≤un32:=by
 have h1:=Int.mul_ediv_add_emod un32 yn1
 have h2:=Int.emod_lt_of_pos un32 (show 0<yn1 by omega)
 have h3:=Int.emod_nonneg un32 (show yn1≠0 by omega)
 have Lk:0≤un32/yn1:=Int.ediv_nonneg hu (by omega)
 rw[Int.mul_comm]at h1
 have hq1:un32/yn1≤4294967297:=by
  have:un32/yn1<4294967298:=by rw[Int.ediv_lt_iff_lt_mul (by omega)];omega
  omega
 have QQ:(un32*4294967296+un1)/Y≤un32/yn1:=by
  have dF:un32*4294967296+un1<(un32/yn1+1)*Y:=by
   have e:un32+1≤(un32/yn1+1)*yn1:=by rw[Int.add_mul,Int.one_mul];omega
   have e2:(un32/yn1+1)*Y=(un32/yn1+1)*yn1*4294967296+(un32/yn1+1)*yn0:=by rw[hY,Int.mul_add,Int.mul_assoc]
   have e3:0≤(un32/yn1+1)*yn0:=Int.mul_nonneg (by omega) y0
   omega
  have:(un32*4294967296+un1)/Y<un32/yn1+1:=by rw[Int.ediv_lt_iff_lt_mul (by omega)];exact dF
  omega
 exact⟨⟨hY,y1,y1',y0,y0',u1,u1',lt,Lk,by omega,by omega,hq1,QQ⟩,by omega,Int.mul_nonneg Lk (by omega),by omega⟩
theorem Oq{a b:Int}{k:Nat}(ha:0≤a)(XV:a<2^k)(hb:0≤b)(h:b*2^k<18446744073709551616)(hk:k<64):ja .or .u64 (b*2^k) a=b*2^k+a:=by
 have hp:(0:Int)<2^k:=Int.pow_pos (by decide)
 have ZL:((2^k:Nat):Int)=2^k:=by rw[Int.natCast_pow];rfl
 have arB:(2:Int)^k≤2^63:=by
  rw[←ZL,show(2:Int)^63=((2^63:Nat):Int)from by decide]
  exact_mod_cast Nat.pow_le_pow_right (by decide) (by omega)
 have ao2:(2:Int)^63=9223372036854775808:=by decide
 have so:=Int.mul_nonneg hb (Int.le_of_lt hp)
 rw[C5 so h ha (by omega)]
 have h1:=Nat.two_pow_add_eq_or_of_lt (i:=k) (b:=a.toNat) (by
  have:((a.toNat:Nat):Int)<((2^k:Nat):Int):=by rw[ZL,Int.toNat_of_nonneg ha];exact XV
  exact_mod_cast this) b.toNat
 have e:(b*2^k).toNat=2^k*b.toNat:=by
  have:((2^k*b.toNat:Nat):Int)=b*2^k:=by rw[Int.natCast_mul,ZL,Int.toNat_of_nonneg hb,Int.mul_comm]
  omega
 rw[e,←h1,Int.natCast_add,Int.natCast_mul,ZL,Int.toNat_of_nonneg hb,Int.toNat_of_nonneg ha,Int.mul_comm]
theorem Fg(N:Nat)(hN:100≤N){hi lo y:Int}(h0:0≤hi)(h1:hi<y)(l0:0≤lo)(l1:lo<18446744073709551616)(y1:y<18446744073709551616):
  cP N hi lo y=some ((hi*18446744073709551616+lo)/y,(hi*18446744073709551616+lo)%y):=by
 unfold cP cP.b
 rw[cf (show y≠0 by omega),cond_false,cv (by omega),cond_false]
 by_cases hz:hi=0
 ·subst hz
  rw[ck rfl,cond_true,cond_false,cond_false,Ct,Nk,Int.tdiv_eq_ediv_of_nonneg l0,Int.tmod_eq_emod_of_nonneg l0]
  have e1:0≤lo/y:=Int.ediv_nonneg l0 (by omega)
  have e2:lo/y≤lo:=Int.ediv_le_self _ l0
  rw[bz (by omega) (by omega)]
  simp
 ·rw[cf hz,cond_false]
  obtain⟨b1,b2⟩:=bitLen_spec y.toNat
  have b2:=b2 (by omega)
  obtain⟨L,hL⟩: ∃L,L=bitLen y.toNat:=⟨_,rfl⟩
  rw[←hL]at b1 b2
  have hL1:1≤L:=by rw[hL,mO (by omega)];omega
  have arC:L≤64:=by
   rcases Nat.lt_or_ge 64 L with h|h
   ·have h3:2^64≤2^(L-1):=Nat.pow_le_pow_right (by decide) (by omega)
    have:(2:Nat)^64=18446744073709551616:=by decide
    omega
   ·exact h
  have hl:RQ N y=some (64-(L:Int)):=by
   unfold RQ
   rw[Oo N (by omega) y1,Option.bind_some,←hL,al (by omega) (by omega)]
  obtain⟨s,hs⟩: ∃s:Nat,s=64-L:=⟨_,rfl⟩
  have hsI:64-(L:Int)=(s:Int):=by omega
  rw[hl,Option.bind_some,hsI]
  clear hl
  have ZL: ∀k:Nat,((2^k:Nat):Int)=2^k:=fun k=>by rw[Int.natCast_pow];rfl
  obtain⟨p,hp⟩: ∃p:Int,p=2^s:=⟨_,rfl⟩
  obtain⟨p',Bm⟩: ∃p':Int,p'=2^(64-s):=⟨_,rfl⟩
  have AH:p'*p=18446744073709551616:=by
   rw[hp,Bm,←Int.pow_add,show 64-s+s=64 from by omega];decide
  have M9:0<p:=by rw[hp];exact Int.pow_pos (by decide)
  have arE:0<p':=by rw[Bm];exact Int.pow_pos (by decide)
  have RN:y*p<18446744073709551616:=by
   have h:y.toNat*2^s<2^L*2^s:=Nat.mul_lt_mul_of_pos_right b1 (Nat.pow_pos (by decide))
   rw[←Nat.pow_add,show L+s=64 from by omega,show(2:Nat)^64=18446744073709551616 from by decide]at h
   have:((y.toNat*2^s:Nat):Int)=y*p:=by rw[Int.natCast_mul,ZL,←hp,Int.toNat_of_nonneg (by omega)]
   omega
  have hy2:9223372036854775808≤y*p:=by
   have h:2^(L-1)*2^s≤y.toNat*2^s:=Nat.mul_le_mul_right _ b2
   rw[←Nat.pow_add,show L-1+s=63 from by omega,show(2:Nat)^63=9223372036854775808 from by decide]at h
   have:((y.toNat*2^s:Nat):Int)=y*p:=by rw[Int.natCast_mul,ZL,←hp,Int.toNat_of_nonneg (by omega)]
   omega
  have akm: ∀x:Int,shl .u64 x (s:Int)=x*p:=fun x=>by rw[Kh (by omega) (by omega),hp];rfl
  have akn:shr .u64 lo (64-(s:Int))=lo*p/18446744073709551616:=by
   rw[rG (by omega) (by omega),show(64-(s:Int)).toNat=64-s from by omega,←Bm,←AH,Int.mul_ediv_mul_of_pos_left _ _ M9]
  have hhp:hi*p+p≤y*p:=by
   have:=Int.mul_le_mul_of_nonneg_right (show hi+1≤y by omega) (Int.le_of_lt M9)
   rw[Int.add_mul,Int.one_mul]at this;exact this
  have arH:0≤hi*p:=Int.mul_nonneg h0 (Int.le_of_lt M9)
  have ako:0≤lo*p:=Int.mul_nonneg l0 (Int.le_of_lt M9)
  have akp:lo*p<18446744073709551616*p:=Int.mul_lt_mul_of_pos_right l1 M9
  have nE:lo*p/18446744073709551616<p:=by rw[Int.ediv_lt_iff_lt_mul (by omega),Int.mul_comm p];exact akp
  have ht0:0≤lo*p/18446744073709551616:=Int.ediv_nonneg ako (by omega)
  have hor:ja .or .u64 (hi*p) (lo*p/18446744073709551616)=hi*p+lo*p/18446744073709551616:=by
   have:=Oq (k:=s) (a:=lo*p/18446744073709551616) (b:=hi) ht0 (by rw[←hp];exact nE) h0 (by rw[←hp];omega) (by omega)
   rw[←hp]at this;exact this
  obtain⟨Y,hY⟩: ∃Y,Y=y*p:=⟨_,rfl⟩
  have hU:(hi*18446744073709551616+lo)*p=(hi*p+lo*p/18446744073709551616)*18446744073709551616+lo*p%18446744073709551616:=by
   rw[Int.add_mul,Int.mul_assoc,Int.mul_comm 18446744073709551616 p,←Int.mul_assoc];omega
  have hws:W .u64 (s:Int)=(s:Int):=bz (by omega) (by omega)
  have akq:W .u64 (64-(s:Int))=64-(s:Int):=bz (by omega) (by omega)
  have hwl:W .u64 (lo*p)=lo*p%18446744073709551616:=mM _
  simp only[hws,akq,akm,akn,hwl]
  rw[←hY]at RN hy2 hhp ⊢
  have hwy:W .u64 Y=Y:=bz (by omega) (by omega)
  have hwh:W .u64 (hi*p)=hi*p:=bz (by omega) (by omega)
  simp only[hwy,hwh,hor]
  obtain⟨u,hu⟩: ∃u,u=hi*p+lo*p/18446744073709551616:=⟨_,rfl⟩
  obtain⟨v,hv⟩: ∃v,v=lo*p%18446744073709551616:=⟨_,rfl⟩
  rw[←hu,←hv]at hU ⊢
  have hv0:0≤v:=by omega
  have Ez:v<18446744073709551616:=by omega
  have hu0:0≤u:=by omega
  have hu1:u<Y:=by omega
  have hmy:ja .and .u64 Y 4294967295=Y%4294967296:=gh (by omega) (by omega)
  have XP:ja .and .u64 v 4294967295=v%4294967296:=gh hv0 Ez
  obtain⟨g1,g2,g3,g4⟩:=kI.first (Y:=Y) (yn1:=Y/4294967296) (yn0:=Y%4294967296) (un32:=u) (un1:=v/4294967296) (by omega) (by omega) (by omega) (by omega) (by omega) (by omega) (by omega) hu0 hu1
  have hq:quo u (Y/4294967296)=u/(Y/4294967296):=by rw[Ct,Int.tdiv_eq_ediv_of_nonneg hu0]
  have hwq:W .u64 (u/(Y/4294967296))=u/(Y/4294967296):=bz g1.q0 (by have:=g1.q1;omega)
  have hwm:W .u64 (u/(Y/4294967296)*(Y/4294967296))=u/(Y/4294967296)*(Y/4294967296):=bz g3 (by omega)
  have hwr:W .u64 (u-u/(Y/4294967296)*(Y/4294967296))=u-u/(Y/4294967296)*(Y/4294967296):=bz (by omega) (by omega)
  rw[ay (show(0:Int)≤s by omega),ay (show(0:Int)≤32 by omega),ay (show(0:Int)≤64-(s:Int)by omega),za,za,hmy,XP,cf (show Y/4294967296≠0 by omega),hq,hwq,hwm,hwr]
  simp only[cond_false]
  rw[Kj N hu0 (by omega) 3 N _ _ g1 g2 (by omega) (by omega)]
  have d1:=g1.digit hu0
  clear hq hwq hwm hwr g1 g2 g3 g4
  obtain⟨q1,hq1⟩: ∃q1,q1=(u*4294967296+v/4294967296)/Y:=⟨_,rfl⟩
  have m1:=Int.mul_ediv_add_emod (u*4294967296+v/4294967296) Y
  have m2:=Int.emod_lt_of_pos (u*4294967296+v/4294967296) (show 0<Y by omega)
  have m3:=Int.emod_nonneg (u*4294967296+v/4294967296) (show Y≠0 by omega)
  rw[←hq1]at d1 m1 ⊢
  obtain⟨r1,C2⟩: ∃r1,r1=(u*4294967296+v/4294967296)%Y:=⟨_,rfl⟩
  rw[←C2]at m1 m2 m3
  rw[Int.mul_comm]at m1
  unfold cP.Nb cP.IC
  have akr:W .u64 (W .u64 (W .u64 (u*4294967296)+v/4294967296)-W .u64 (q1*Y))=r1:=by
   simp only[mM]
   generalize q1*Y=z at*
   omega
  simp only[akr]
  obtain⟨g1,g2,g3,g4⟩:=kI.first (Y:=Y) (yn1:=Y/4294967296) (yn0:=Y%4294967296) (un32:=r1) (un1:=v%4294967296) (by omega) (by omega) (by omega) (by omega) (by omega) (by omega) (by omega) m3 m2
  have hq:quo r1 (Y/4294967296)=r1/(Y/4294967296):=by rw[Ct,Int.tdiv_eq_ediv_of_nonneg m3]
  have hwq:W .u64 (r1/(Y/4294967296))=r1/(Y/4294967296):=bz g1.q0 (by have:=g1.q1;omega)
  have hwm:W .u64 (r1/(Y/4294967296)*(Y/4294967296))=r1/(Y/4294967296)*(Y/4294967296):=bz g3 (by omega)
  have hwr:W .u64 (r1-r1/(Y/4294967296)*(Y/4294967296))=r1-r1/(Y/4294967296)*(Y/4294967296):=bz (by omega) (by omega)
  rw[cf (show Y/4294967296≠0 by omega),hq,hwq,hwm,hwr,cond_false,Kk N (b:=0) m3 (by omega) 3 N _ _ g1 g2 (by omega) (by omega)]
  have d0:=g1.digit m3
  clear hq hwq hwm hwr g1 g2 g3 g4
  obtain⟨q0,Lk⟩: ∃q0,q0=(r1*4294967296+v%4294967296)/Y:=⟨_,rfl⟩
  have n1:=Int.mul_ediv_add_emod (r1*4294967296+v%4294967296) Y
  have n2:=Int.emod_lt_of_pos (r1*4294967296+v%4294967296) (show 0<Y by omega)
  have n3:=Int.emod_nonneg (r1*4294967296+v%4294967296) (show Y≠0 by omega)
  rw[←Lk]at d0 n1 ⊢
  obtain⟨r0,Y7⟩: ∃r0,r0=(r1*4294967296+v%4294967296)%Y:=⟨_,rfl⟩
  rw[←Y7]at n1 n2 n3
  rw[Int.mul_comm]at n1
  unfold cP.XX cP.ZM
  have aks:W .u64 (W .u64 (W .u64 (r1*4294967296)+v%4294967296)-W .u64 (q0*Y))=r0:=by
   simp only[mM]
   generalize q0*Y=z at*
   omega
  rw[ay (show(0:Int)≤s by omega),cond_false,aks,bz (x:=q1*4294967296) (by omega) (by omega),bz (x:=q1*4294967296+q0) (by omega) (by omega),rG (by omega) (by omega),Int.toNat_natCast,←hp]
  obtain⟨V,hV⟩: ∃V,V=hi*18446744073709551616+lo:=⟨_,rfl⟩
  obtain⟨Q,hQ⟩: ∃Q,Q=q1*4294967296+q0:=⟨_,rfl⟩
  rw[←hV]at hU ⊢
  rw[←hQ]
  have hQY:Q*Y=q1*Y*4294967296+q0*Y:=by rw[hQ,Int.add_mul,Int.mul_assoc,Int.mul_comm 4294967296 Y,←Int.mul_assoc]
  have arQ:V*p=Q*Y+r0:=by rw[hU,hQY];generalize q1*Y=z1 at*;generalize q0*Y=z0 at*;omega
  have ae0:r0=(V-Q*y)*p:=by rw[Int.sub_mul,Int.mul_assoc,←hY];omega
  have hd0:0≤V-Q*y:=by
   by_cases h:V-Q*y<0
   ·have:=Int.mul_neg_of_neg_of_pos h M9;omega
   ·omega
  have hd1:V-Q*y<y:=by
   by_cases h:V-Q*y<y
   ·exact h
   ·have:=Int.mul_le_mul_of_nonneg_right (show y≤V-Q*y by omega) (Int.le_of_lt M9);rw[←ae0,←hY]at this;omega
  have hVe:V=(V-Q*y)+y*Q:=by rw[Int.mul_comm y Q];omega
  have e1:V/y=Q:=by
   rw[hVe,Int.add_mul_ediv_left _ _ (by omega),Int.ediv_eq_zero_of_lt hd0 hd1];omega
  have e2:V%y=V-Q*y:=by
   have:=Int.mul_ediv_add_emod V y
   rw[e1,Int.mul_comm]at this;omega
  rw[e1,e2,ae0,Int.mul_ediv_cancel _ (by omega)]
end VM
end
section
namespace VM
open Go VM.F
def bQ:List Int→Int
 |[]=>0
 |d::r=>d+4294967296*bQ r
def VD(l:List Int):Prop:= ∀d∈l,0≤d∧d<4294967296
def ic(n:Nat):List Int:=if n=0 then []else((n%4294967296:Nat):Int)::ic (n/4294967296)
termination_by n
decreasing_by omega
theorem gi:ic 0=[]:=by rw[ic];rfl
theorem rH{n:Nat}(h:n≠0):ic n=((n%4294967296:Nat):Int)::ic (n/4294967296):=by rw[ic];simp[h]
theorem VD.nil:VD []:=fun d h=>by cases h
theorem VD.cons{d:Int}{l:List Int}(h0:0≤d)(h1:d<4294967296)(h:VD l):VD (d::l):=fun x hx=>by
 rcases List.mem_cons.1 hx with rfl|hx
 ·exact⟨h0,h1⟩
 ·exact h x hx
theorem VD.tail{d:Int}{l:List Int}(h:VD (d::l)):VD l:=fun x hx=>h x (List.mem_cons_of_mem _ hx)
theorem VD.drop{l:List Int}(h:VD l)(n:Nat):VD (l.drop n):=fun x hx=>h x (List.mem_of_mem_drop hx)
theorem VD.take{l:List Int}(h:VD l)(n:Nat):VD (l.take n):=fun x hx=>h x (List.mem_of_mem_take hx)
theorem VD.getD{l:List Int}(h:VD l)(n:Nat):0≤l.getD n 0∧l.getD n 0<4294967296:=by
 rw[List.getD_eq_getElem?_getD]
 cases hn:l[n]? with
 |none=>exact⟨Int.le_refl _,by decide⟩
 |some x=>exact h x (List.mem_of_getElem? hn)
theorem VD.set{l:List Int}(h:VD l)(n:Nat){x:Int}(h0:0≤x)(h1:x<4294967296):VD (l.set n x):=fun y hy=>by
 rcases List.mem_or_eq_of_mem_set hy with hy|rfl
 ·exact h y hy
 ·exact⟨h0,h1⟩
theorem VD.XY(n:Nat):VD (List.replicate n 0):=fun x hx=>by rw[List.eq_of_mem_replicate hx];exact⟨Int.le_refl _,by decide⟩
theorem gj: ∀{l:List Int},VD l→0≤bQ l
 |[],_=>Int.le_refl _
 |d::r,h=>by
  have:=gj h.tail
  have:=(h d (List.mem_cons_self ..)).1
  simp only[bQ];omega
theorem eF(n:Nat):bQ (ic n)=n:=by
 induction n using Nat.strongRecOn with
 |_ n ih=>
  by_cases h:n=0
  ·subst h;rw[gi];rfl
  ·rw[rH h,bQ,ih _ (by omega)];omega
theorem gk(n:Nat):VD (ic n):=by
 induction n using Nat.strongRecOn with
 |_ n ih=>
  by_cases h:n=0
  ·subst h;rw[gi];exact VD.nil
  ·rw[rH h];exact VD.cons (by omega) (by omega) (ih _ (by omega))
theorem uj{n:Nat}:ic n=[]↔n=0:=by
 constructor
 ·intro h
  by_cases hn:n=0
  ·exact hn
  ·rw[rH hn]at h;cases h
 ·rintro rfl;exact gi
theorem rI(k:Nat): ∀n,n<4294967296^k→(ic n).length≤k:=by
 induction k with
 |zero=>
  intro n h;have:n=0:=by simpa using h
  subst this;rw[gi];simp
 |succ k ih=>
  intro n h
  by_cases hn:n=0
  ·subst hn;rw[gi];simp
  ·rw[rH hn,List.length_cons]
   have:=ih (n/4294967296) (by rw[Nat.div_lt_iff_lt_mul (by omega)];rw[Nat.pow_succ]at h;exact h)
   omega
theorem C6(k:Nat): ∀n,(ic n).length≤k→n<4294967296^k:=by
 induction k with
 |zero=>
  intro n h
  have:ic n=[]:=List.eq_nil_of_length_eq_zero (by omega)
  rw[uj]at this;subst this;decide
 |succ k ih=>
  intro n h
  by_cases hn:n=0
  ·subst hn;exact Nat.pow_pos (by decide)
  ·rw[rH hn,List.length_cons]at h
   have:=ih (n/4294967296) (by omega)
   rw[Nat.div_lt_iff_lt_mul (by omega)]at this
   rw[Nat.pow_succ];exact this
def strip:List Int→List Int
 |[]=>[]
 |d::r=>if strip r=[]∧d=0 then []else d::strip r
theorem Fh: ∀{l:List Int},VD l→strip l=ic (bQ l).toNat
 |[],_=>by rw[show(bQ []).toNat=0 from rfl,gi];rfl
 |d::r,h=>by
  have ih:=Fh h.tail
  have h0:=gj h.tail
  obtain⟨h1,h2⟩:=h d (List.mem_cons_self ..)
  simp only[strip,bQ,ih,uj]
  split
  ·rename_i hc
   obtain⟨hc,rfl⟩:=hc
   have:bQ r=0:=by omega
   rw[this];exact gi.symm
  ·rename_i hc
   have g9:(d+4294967296*bQ r).toNat≠0:=fun he=>hc ⟨by omega,by omega⟩
   rw[rH g9]
   congr 1
   ·omega
   ·congr 1;omega
theorem zd: ∀(l:List Int) (x:Int),strip (l++[x])=if x=0 then strip l else l++[x]
 |[],x=>by simp[strip]
 |d::r,x=>by
  simp only[List.cons_append,strip,zd r x]
  split
  ·rfl
  ·simp
theorem dJ(l:List Int){k:Nat}(h:k<l.length):l.take (k+1)=l.take k++[l.getD k 0]:=by
 rw[List.take_succ_eq_append_getElem h,List.getD_eq_getElem?_getD,List.getElem?_eq_getElem h];rfl
theorem BG(N:Nat)(l:List Int)(hl:l.length<68719476736): ∀(k n:Nat),k≤l.length→k<n→kd.l2 N n l (k:Int)=some (strip (l.take k))
 |0,n+1,_,_=>by
  unfold kd.l2 kd.eu
  simp (disch:=omega) only[aD,ay,cB,cv,ck,cf,aG,ba,br,b8,al,bz,cond_true,cond_false,Bool.not_true,Bool.not_false,Option.bind_some,Int.toNat_natCast,Int.toNat_zero,aa,List.length_append,List.length_singleton,List.length_set,List.length_replicate,List.length_cons,List.length_nil]
  simp[strip]
 |k+1,n+1,hk,hn=>by
  unfold kd.l2 kd.eu
  have e:((k+1:Nat):Int)-1=(k:Int):=by omega
  simp (disch:=omega) only[aD,ay,cB,cv,ck,cf,aG,ba,br,b8,al,bz,cond_true,cond_false,Bool.not_true,Bool.not_false,Option.bind_some,Int.toNat_natCast,Int.toNat_zero,aa,List.length_append,List.length_singleton,List.length_set,List.length_replicate,List.length_cons,List.length_nil,e]
  have ih:=BG N l hl k n (by omega) (by omega)
  rw[dJ l (by omega),zd]
  by_cases h:l.getD k 0=0
  ·rw[ck h,cond_true,ih,if_pos h]
  ·rw[cf h,cond_false,if_neg h]
   simp only[Int.toNat_zero,List.drop_zero]
theorem C8(N:Nat){l:List Int}(h:VD l)(hN:l.length<N)(hl:l.length<68719476736):kd N l=some (ic (bQ l).toNat):=by
 unfold kd kd.b
 rw[BG N l hl l.length N (Nat.le_refl _) hN,List.take_length,Fh h]
def cg(v:Int):av:=(decide (v<0),(ic v.natAbs,()))
theorem n0(N:Nat)(neg:Bool){l:List Int}(h:VD l)(hN:l.length<N)(hl:l.length<68719476736):Ot N neg l=some (cg (if neg then-bQ l else bQ l)):=by
 unfold Ot
 rw[C8 N h hN hl,Option.bind_some]
 have h0:=gj h
 cases neg
 ·simp only[cond_false,cg,Bool.false_eq_true,if_false]
  rw[decide_eq_false (by omega)]
  congr 4;omega
 ·simp only[cond_true,cg,if_true]
  have e:(-bQ l).natAbs=(bQ l).toNat:=by omega
  rw[e]
  congr 2
  by_cases hz:bQ l=0
  ·rw[hz,Int.toNat_zero,gi,ay (by simp),decide_eq_false (by omega)]
  ·have:0<(ic (bQ l).toNat).length:=by
    apply List.length_pos_iff.2
    intro hd;rw[uj]at hd;omega
   rw[aD (by omega),decide_eq_true (by omega)]
theorem size_eq(N:Nat)(hN:1000≤N){u:Int}(h0:0≤u)(h1:u<18446744073709551616):F67 N u=some (ic u.toNat):=by
 unfold F67
 rw[gh h0 h1,za]
 have hv:VD [u%4294967296,u/4294967296]:=VD.cons (by omega) (by omega) (VD.cons (by omega) (by omega) VD.nil)
 simp (disch:=omega) only[aD,ay,cB,cv,ck,cf,aG,ba,br,b8,al,bz,cond_true,cond_false,Bool.not_true,Bool.not_false,Option.bind_some,Int.toNat_natCast,Int.toNat_zero,aa,List.length_append,List.length_singleton,List.length_set,List.length_replicate,List.length_cons,List.length_nil,C8 N hv (by simp;omega) (by simp)]
 congr 2
 simp only[bQ];omega
theorem fH(N:Nat)(hN:1000≤N){x:Int}(h0: -9223372036854775808≤x)(h1:x<9223372036854775808):gl N x=some (cg x):=by
 unfold gl
 have hd: ∀n:Nat,n<18446744073709551616→(ic n).length≤2:=fun n h=>rI 2 n (by simpa using h)
 by_cases h:x<0
 ·have e:W .u64 (0-W .u64 x)= -x:=by rw[mM,mM];omega
  simp only[aD h,cond_true,e,size_eq N hN (show 0≤ -x by omega) (by omega),Option.bind_some]
  have:=hd (-x).toNat (by omega)
  rw[n0 N true (gk _) (by omega) (by omega),eF,if_pos rfl,show-(((-x).toNat:Nat):Int)=x from by omega];rfl
 ·have e:W .u64 x=x:=bz (by omega) (by omega)
  simp only[ay (show 0≤x by omega),cond_false,e,size_eq N hN (show 0≤x by omega) (by omega),Option.bind_some]
  have:=hd x.toNat (by omega)
  rw[n0 N false (gk _) (by omega) (by omega),eF,if_neg Bool.false_ne_true,Int.toNat_of_nonneg (by omega)];rfl
theorem qO(N:Nat)(l:List Int)(i:Nat):RS N l (i:Int)=some (l.getD i 0):=by
 unfold RS
 by_cases h:i<l.length
 ·simp (disch:=omega) only[aD,ay,cB,cv,ck,cf,aG,ba,br,b8,al,bz,cond_true,cond_false,Bool.not_true,Bool.not_false,Option.bind_some,Int.toNat_natCast,Int.toNat_zero,aa,List.length_append,List.length_singleton,List.length_set,List.length_replicate,List.length_cons,List.length_nil]
 ·simp (disch:=omega) only[aD,ay,cB,cv,ck,cf,aG,ba,br,b8,al,bz,cond_true,cond_false,Bool.not_true,Bool.not_false,Option.bind_some,Int.toNat_natCast,Int.toNat_zero,aa,List.length_append,List.length_singleton,List.length_set,List.length_replicate,List.length_cons,List.length_nil]
  rw[List.getD_eq_getElem?_getD,List.getElem?_eq_none (by omega)];rfl
theorem gF(l:List Int)(i:Nat):bQ (l.drop i)=l.getD i 0+4294967296*bQ (l.drop (i+1)):=by
 by_cases h:i<l.length
 ·rw[List.drop_eq_getElem_cons h,bQ,List.getD_eq_getElem?_getD,List.getElem?_eq_getElem h];rfl
 ·rw[List.drop_of_length_le (by omega),List.drop_of_length_le (by omega),List.getD_eq_getElem?_getD,List.getElem?_eq_none (by omega)];rfl
theorem Fi(N:Nat){a b:List Int}(ha:VD a)(hb:VD b)(sZ:a.length≤1000000)(HZ:b.length≤1000000): ∀(m n i:Nat) (out:List Int) (c:Int),a.length+b.length+2-i≤m→m<n→out.length=i→i≤a.length+b.length+1→0≤c→c≤1→(a.length≤i→b.length≤i→i=max a.length b.length∨c=0)→
  ∃r,p6.l4 N n a b out c (i:Int)=some (out++r)∧VD r∧bQ r=bQ (a.drop i)+bQ (b.drop i)+c∧r.length≤m
 |m,0,i,out,c,_,hn,_,_,_,_,_=>by omega
 |m,n+1,i,out,c,hm,hn,ho,hi,M5,AQ,hz=>by
  unfold p6.l4 p6.cn
  by_cases Fj:a.length≤i∧b.length≤i∧c=0
  ·obtain⟨h1,h2,rfl⟩:=Fj
   simp (disch:=omega) only[aD,ay,cB,cv,ck,cf,aG,ba,br,b8,al,bz,cond_true,cond_false,Bool.not_true,Bool.not_false,Option.bind_some,Int.toNat_natCast,Int.toNat_zero,aa,List.length_append,List.length_singleton,List.length_set,List.length_replicate,List.length_cons,List.length_nil]
   exact⟨[],by simp,VD.nil,by rw[List.drop_of_length_le h1,List.drop_of_length_le h2];rfl,Nat.zero_le _⟩
  ·obtain⟨ga0,ga1⟩:=ha.getD i
   obtain⟨gb0,gb1⟩:=hb.getD i
   have step: ∃r,p6.j6 N (p6.l4 N n) a b out c (i:Int)=some (out++r)∧VD r∧bQ r=bQ (a.drop i)+bQ (b.drop i)+c∧r.length≤m:=by
    unfold p6.j6 p6.Nc
    have AK:i≤a.length+b.length:=by
     by_cases h1:a.length≤i∧b.length≤i
     ·rcases hz h1.1 h1.2 with h|h
      ·omega
      ·exact absurd ⟨h1.1,h1.2,h⟩ Fj
     ·omega
    simp only[qO,Option.bind_some]
    generalize hga:a.getD i 0=x at*
    generalize hgb:b.getD i 0=y at*
    rw[bz (x:=x+y) (by omega) (by omega),bz (x:=c+(x+y)) (by omega) (by omega),gh (by omega) (by omega),za]
    simp (disch:=omega) only[aD,ay,cB,cv,ck,cf,aG,ba,br,b8,al,bz,cond_true,cond_false,Bool.not_true,Bool.not_false,Option.bind_some,Int.toNat_natCast,Int.toNat_zero,aa,List.length_append,List.length_singleton,List.length_set,List.length_replicate,List.length_cons,List.length_nil]
    obtain⟨r,hr,hv,hs,HQ⟩:=Fi N ha hb sZ HZ (m-1) n (i+1) (out++[(c+(x+y))%4294967296]) ((c+(x+y))/4294967296) (by omega) (by omega) (by simp[ho]) (by omega) (by omega) (by omega) (fun h1 h2=>by
     by_cases h3:a.length≤i∧b.length≤i
     ·right
      rw[←hga,←hgb,List.getD_eq_getElem?_getD,List.getElem?_eq_none h3.1,List.getD_eq_getElem?_getD,List.getElem?_eq_none h3.2]
      simp only[Option.getD_none];omega
     ·left;omega)
    refine⟨(c+(x+y))%4294967296::r,by rw[hr];simp,VD.cons (by omega) (by omega) hv,?_,by rw[List.length_cons];omega⟩
    rw[bQ,hs,gF a i,gF b i,hga,hgb];omega
   by_cases h1:i<a.length
   ·simp (disch:=omega) only[aD,cond_true];exact step
   ·by_cases h2:i<b.length
    ·simp (disch:=omega) only[aD,ay,cond_true,cond_false];exact step
    ·have:0<c:=by omega
     simp (disch:=omega) only[aD,ay,cond_true,cond_false];exact step
theorem Kl: ∀{l:List Int},VD l→bQ l<4294967296^l.length
 |[],_=>by simp[bQ]
 |d::r,h=>by
  have ih:=Kl h.tail
  obtain⟨h1,h2⟩:=h d (List.mem_cons_self ..)
  rw[bQ,List.length_cons,Int.pow_succ]
  generalize (4294967296:Int)^r.length=p at*
  omega
theorem Fk(N:Nat)(hN:4000000≤N){a b:List Int}(ha:VD a)(hb:VD b)(sZ:a.length≤1000000)(HZ:b.length≤1000000): ∃r,p6 N a b=some r∧VD r∧bQ r=bQ a+bQ b∧r.length≤2000002:=by
 unfold p6 p6.b
 obtain⟨r,hr,hv,hs,hl⟩:=Fi N ha hb sZ HZ (a.length+b.length+2) N 0 [] 0 (by omega) (by omega) rfl (by omega) (by omega) (by omega) (fun _ _=> .inr rfl)
 exact⟨r,hr,hv,by simpa using hs,by omega⟩
theorem ze(N:Nat){a b:List Int}(ha:VD a)(hb:VD b)(sZ:a.length≤1000000): ∀(m n i:Nat) (out:List Int) (c:Int),a.length-i≤m→m<n→out.length=i→i≤a.length→0≤c→c≤1→0≤bQ (a.drop i)-bQ (b.drop i)-c→
  ∃r,yg.l4 N n a b out c (i:Int)=some (out++r)∧VD r∧bQ r=bQ (a.drop i)-bQ (b.drop i)-c∧r.length≤m
 |m,0,i,out,c,_,hn,_,_,_,_,_=>by omega
 |m,n+1,i,out,c,hm,hn,ho,hi,M5,AQ,hz=>by
  unfold yg.l4 yg.cn
  by_cases h1:i<a.length
  ·obtain⟨ga0,ga1⟩:=ha.getD i
   obtain⟨gb0,gb1⟩:=hb.getD i
   rw[gF a i,gF b i]at*
   simp only[qO,Option.bind_some,Int.toNat_natCast]
   generalize hga:a.getD i 0=x at*
   generalize hgb:b.getD i 0=y at*
   rw[bz (x:=y+c) (by omega) (by omega),bz (x:=x+4294967296) (by omega) (by omega)]
   by_cases dF:x<y+c
   ·rw[bz (x:=x+4294967296-(y+c)) (by omega) (by omega)]
    simp (disch:=omega) only[aD,ay,cB,cv,ck,cf,aG,ba,br,b8,al,bz,cond_true,cond_false,Bool.not_true,Bool.not_false,Option.bind_some,Int.toNat_natCast,Int.toNat_zero,aa,List.length_append,List.length_singleton,List.length_set,List.length_replicate,List.length_cons,List.length_nil,hga,hgb]
    obtain⟨r,hr,hv,hs,HQ⟩:=ze N ha hb sZ (m-1) n (i+1) (out++[x+4294967296-(y+c)]) 1 (by omega) (by omega) (by simp[ho]) (by omega) (by omega) (by omega) (by omega)
    refine⟨(x+4294967296-(y+c))::r,by rw[hr];simp,VD.cons (by omega) (by omega) hv,by rw[bQ,hs];omega,by rw[List.length_cons];omega⟩
   ·rw[bz (x:=x-(y+c)) (by omega) (by omega)]
    simp (disch:=omega) only[aD,ay,cB,cv,ck,cf,aG,ba,br,b8,al,bz,cond_true,cond_false,Bool.not_true,Bool.not_false,Option.bind_some,Int.toNat_natCast,Int.toNat_zero,aa,List.length_append,List.length_singleton,List.length_set,List.length_replicate,List.length_cons,List.length_nil,hga,hgb]
    obtain⟨r,hr,hv,hs,HQ⟩:=ze N ha hb sZ (m-1) n (i+1) (out++[x-(y+c)]) 0 (by omega) (by omega) (by simp[ho]) (by omega) (by omega) (by omega) (by omega)
    refine⟨(x-(y+c))::r,by rw[hr];simp,VD.cons (by omega) (by omega) hv,by rw[bQ,hs];omega,by rw[List.length_cons];omega⟩
  ·simp (disch:=omega) only[aD,ay,cB,cv,ck,cf,aG,ba,br,b8,al,bz,cond_true,cond_false,Bool.not_true,Bool.not_false,Option.bind_some,Int.toNat_natCast,Int.toNat_zero,aa,List.length_append,List.length_singleton,List.length_set,List.length_replicate,List.length_cons,List.length_nil]
   have h0:=gj (hb.drop i)
   rw[List.drop_of_length_le (l:=a) (by omega)]at hz ⊢
   simp only[bQ]at hz ⊢
   exact⟨[],by simp,VD.nil,by simp only[bQ];omega,Nat.zero_le _⟩
theorem wQ(N:Nat)(hN:4000000≤N){a b:List Int}(ha:VD a)(hb:VD b)(sZ:a.length≤1000000)(h:bQ b≤bQ a): ∃r,yg N a b=some r∧VD r∧bQ r=bQ a-bQ b∧r.length≤1000000:=by
 unfold yg yg.b
 obtain⟨r,hr,hv,hs,hl⟩:=ze N ha hb sZ a.length N 0 [] 0 (by omega) (by omega) rfl (by omega) (by omega) (by omega) (by simp;omega)
 exact⟨r,hr,hv,by simpa using hs,by omega⟩
theorem mm: ∀(l:List Int) (x:Int),bQ (l++[x])=bQ l+4294967296^l.length*x
 |[],x=>by simp[bQ]
 |d::r,x=>by
  rw[List.cons_append,bQ,mm r x,bQ,List.length_cons,Int.pow_succ,Int.mul_comm _ 4294967296,Int.mul_assoc,Int.mul_add];omega
theorem Fl{a b:List Int}(ha:VD a)(hb:VD b){k:Nat}(h1:k<a.length)(h2:k<b.length)(dF:a.getD k 0<b.getD k 0):bQ (a.take (k+1))<bQ (b.take (k+1)):=by
 rw[dJ a h1,dJ b h2,mm,mm]
 have l1:(a.take k).length=k:=by rw[List.length_take];omega
 have l2:(b.take k).length=k:=by rw[List.length_take];omega
 have v1:=Kl (ha.take k)
 have v2:=gj (hb.take k)
 rw[l1]at*
 rw[l2]
 generalize (4294967296:Int)^k=p at*
 have hp:0<p:=by have:=gj (ha.take k);omega
 have:=Int.mul_le_mul_of_nonneg_left (show a.getD k 0+1≤b.getD k 0 by omega) (Int.le_of_lt hp)
 rw[Int.mul_add,Int.mul_one]at this
 omega
def rJ(x:Int):Int:=if x<0 then-1 else if 0<x then 1 else 0
theorem Fm(N:Nat){a b:List Int}(ha:VD a)(hb:VD b)(hl:a.length=b.length)(sZ:a.length≤1000000): ∀(k n:Nat),k≤a.length→k<n→xz.l6 N n a b ((k:Int)-1)=some (rJ (bQ (a.take k)-bQ (b.take k)))
 |k,0,_,hn=>by omega
 |0,n+1,_,_=>by
  unfold xz.l6 xz.ow
  simp (disch:=omega) only[aD,ay,cB,cv,ck,cf,aG,ba,br,b8,al,bz,cond_true,cond_false,Bool.not_true,Bool.not_false,Option.bind_some,Int.toNat_natCast,Int.toNat_zero,aa,List.length_append,List.length_singleton,List.length_set,List.length_replicate,List.length_cons,List.length_nil]
  simp[rJ,bQ]
 |k+1,n+1,hk,hn=>by
  unfold xz.l6 xz.ow
  have e:((k+1:Nat):Int)-1=(k:Int):=by omega
  rw[e]
  simp (disch:=omega) only[aD,ay,cB,cv,ck,cf,aG,ba,br,b8,al,bz,cond_true,cond_false,Bool.not_true,Bool.not_false,Option.bind_some,Int.toNat_natCast,Int.toNat_zero,aa,List.length_append,List.length_singleton,List.length_set,List.length_replicate,List.length_cons,List.length_nil]
  by_cases h1:a.getD k 0<b.getD k 0
  ·rw[aD h1,cond_true]
   have:=Fl ha hb (k:=k) (by omega) (by omega) h1
   rw[rJ,if_pos (by omega)]
  ·rw[ay (by omega),cond_false]
   by_cases h2:b.getD k 0<a.getD k 0
   ·rw[aD h2,cond_true]
    have:=Fl hb ha (k:=k) (by omega) (by omega) h2
    rw[rJ,if_neg (by omega),if_pos (by omega)]
   ·rw[ay (by omega),cond_false,Fm N ha hb hl sZ k n (by omega) (by omega)]
    congr 2
    rw[dJ a (by omega),dJ b (by omega),mm,mm,show a.getD k 0=b.getD k 0 from by omega,List.length_take,List.length_take,hl]
    omega
theorem Fo(N:Nat)(hN:4000000≤N)(m k:Nat)(hm:(ic m).length≤1000000)(hk:(ic k).length≤1000000):xz N (ic m) (ic k)=some (rJ ((m:Int)-k)):=by
 unfold xz xz.b
 by_cases h:(ic m).length=(ic k).length
 ·simp (disch:=omega) only[aD,ay,cB,cv,ck,cf,aG,ba,br,b8,al,bz,cond_true,cond_false,Bool.not_true,Bool.not_false,Option.bind_some,Int.toNat_natCast,Int.toNat_zero,aa,List.length_append,List.length_singleton,List.length_set,List.length_replicate,List.length_cons,List.length_nil]
  rw[Fm N (gk m) (gk k) h hm (ic m).length N (Nat.le_refl _) (by omega),List.take_length,h,List.take_length,eF,eF]
 ·rw[cf (by omega),Bool.not_false,cond_true]
  by_cases dF:(ic m).length<(ic k).length
  ·rw[aD (by omega),cond_true]
   have h1:=C6 ((ic k).length-1) m (by omega)
   have h2: ¬(k<4294967296^((ic k).length-1)):=fun h=>by have:=rI _ _ h;omega
   rw[rJ,if_pos (by omega)]
  ·rw[ay (by omega),cond_false]
   have h1:=C6 ((ic m).length-1) k (by omega)
   have h2: ¬(m<4294967296^((ic m).length-1)):=fun h=>by have:=rI _ _ h;omega
   rw[rJ,if_neg (by omega),if_pos (by omega)]
end VM
end
section
namespace VM
open Go VM.F
def Fit(v:Int)(k:Nat):Prop:=v.natAbs<4294967296^k
theorem Fit.len{v:Int}{k:Nat}(h:Fit v k):(ic v.natAbs).length≤k:=rI k _ h
theorem Fit.mono{v:Int}{j k:Nat}(h:Fit v j)(hjk:j≤k):Fit v k:=Nat.lt_of_lt_of_le h (Nat.pow_le_pow_right (by decide) hjk)
theorem Fit.neg{v:Int}{k:Nat}(h:Fit v k):Fit (-v) k:=by unfold Fit at*;rwa [Int.natAbs_neg]
theorem Fit.i64{v:Int}(h0: -9223372036854775808≤v)(h1:v<9223372036854775808):Fit v 2:=by
 unfold Fit
 rw[show(4294967296:Nat)^2=18446744073709551616 from by decide];omega
theorem Fit.add{u v:Int}{k:Nat}(hu:Fit u k)(hv:Fit v k):Fit (u+v) (k+1):=by
 unfold Fit at*
 rw[Nat.pow_succ]
 have:(u+v).natAbs≤u.natAbs+v.natAbs:=Int.natAbs_add_le u v
 generalize 4294967296^k=p at*
 omega
theorem Fit.mul{u v:Int}{j k:Nat}(hu:Fit u j)(hv:Fit v k):Fit (u*v) (j+k):=by
 unfold Fit at*
 rw[Int.natAbs_mul,Nat.pow_add]
 exact Nat.mul_lt_mul'' hu hv
theorem Fit.of_le{u v:Int}{k:Nat}(hv:Fit v k)(h:u.natAbs≤v.natAbs):Fit u k:=Nat.lt_of_le_of_lt h hv
theorem qP(a b:Bool):la .bool a b=(a==b):=by simp[la]
theorem fT(N:Nat)(hN:4000000≤N){u v:Int}(hu:Fit u 900000)(hv:Fit v 900000):uk N (cg u) (cg v)=some (cg (u+v)):=by
 have lu:=hu.len
 have lv:=hv.len
 unfold uk
 simp only[cg,qP]
 by_cases hs:decide (u<0)=decide (v<0)
 ·rw[hs,beq_self_eq_true,cond_true]
  obtain⟨r,hr,hvd,CS,hl⟩:=Fk N hN (gk u.natAbs) (gk v.natAbs) (by omega) (by omega)
  simp only[hr,Option.bind_some,n0 N _ hvd (by omega) (by omega),CS,eF]
  congr 1
  show cg _=cg _
  congr 1
  by_cases h:v<0
  ·have:u<0:=by simpa [h]using hs
   rw[if_pos (decide_eq_true h)];omega
  ·have: ¬u<0:=by simpa [h]using hs
   rw[if_neg (by simpa using h)];omega
 ·have hb:(decide (u<0)==decide (v<0))=false:=by simpa using hs
  rw[hb,cond_false,Fo N hN _ _ (by omega) (by omega),Option.bind_some]
  by_cases hc:v.natAbs≤u.natAbs
  ·have h1:bV 0 (rJ ((u.natAbs:Int)-v.natAbs))=true:=cB (by unfold rJ;split<;>(try split)<;>omega)
   obtain⟨r,hr,hvd,CS,hl⟩:=wQ N hN (gk u.natAbs) (gk v.natAbs) (by omega) (by rw[eF,eF];omega)
   simp only[h1,cond_true,hr,Option.bind_some,n0 N _ hvd (by omega) (by omega),CS,eF]
   congr 1
   show cg _=cg _
   congr 1
   by_cases h:u<0
   ·have: ¬v<0:=fun hv=>hs (by simp[h,hv])
    rw[if_pos (decide_eq_true h)];omega
   ·have:v<0:=Classical.byContradiction fun hv=>hs (by simp[h,hv])
    rw[if_neg (by simpa using h)];omega
  ·have h1:bV 0 (rJ ((u.natAbs:Int)-v.natAbs))=false:=cv (by unfold rJ;rw[if_pos (by omega)];omega)
   obtain⟨r,hr,hvd,CS,hl⟩:=wQ N hN (gk v.natAbs) (gk u.natAbs) (by omega) (by rw[eF,eF];omega)
   simp only[h1,cond_false,hr,Option.bind_some,n0 N _ hvd (by omega) (by omega),CS,eF]
   congr 1
   show cg _=cg _
   congr 1
   by_cases h:v<0
   ·have: ¬u<0:=fun hu=>hs (by simp[h,hu])
    rw[if_pos (decide_eq_true h)];omega
   ·have:u<0:=Classical.byContradiction fun hu=>hs (by simp[h,hu])
    rw[if_neg (by simpa using h)];omega
theorem rK(N:Nat)(hN:4000000≤N){u:Int}(hu:Fit u 900000):Nd N (cg u)=some (cg (-u)):=by
 have lu:=hu.len
 unfold Nd
 simp only[cg]
 simp only[n0 N _ (gk u.natAbs) (by omega) (by omega),Option.bind_some,eF]
 congr 1
 show cg _=cg _
 congr 1
 by_cases h:u<0
 ·rw[decide_eq_true h,Bool.not_true,if_neg Bool.false_ne_true];omega
 ·rw[decide_eq_false h,Bool.not_false,if_pos rfl];omega
theorem Ou(N:Nat)(hN:4000000≤N){u:Int}(hu:Fit u 900000):Ov N (cg u)=some (cg u.natAbs):=by
 have lu:=hu.len
 unfold Ov
 simp only[cg]
 simp only[n0 N _ (gk u.natAbs) (by omega) (by omega),Option.bind_some,eF,Bool.false_eq_true,if_false]
 rfl
theorem rL(N:Nat)(hN:4000000≤N){u v:Int}(hu:Fit u 900000)(hv:Fit v 900000):Km N (cg u) (cg v)=some (cg (u-v)):=by
 unfold Km
 simp only[rK N hN hv,Option.bind_some,fT N hN hu hv.neg,Int.sub_eq_add_neg]
theorem ph(N:Nat)(u:Int):Ko N (cg u)=some (rJ u):=by
 unfold Ko
 simp only[cg]
 by_cases h:u=0
 ·subst h
  rw[show(0:Int).natAbs=0 from rfl,gi]
  simp (disch:=omega) only[aD,ay,cB,cv,ck,cf,aG,ba,br,b8,al,bz,cond_true,cond_false,Bool.not_true,Bool.not_false,Option.bind_some,Int.toNat_natCast,Int.toNat_zero,aa,List.length_append,List.length_singleton,List.length_set,List.length_replicate,List.length_cons,List.length_nil]
  rfl
 ·have:0<(ic u.natAbs).length:=by
   apply List.length_pos_iff.2
   intro hd;rw[uj]at hd;omega
  rw[cf (by omega),cond_false]
  by_cases hn:u<0
  ·rw[decide_eq_true hn,cond_true,rJ,if_pos hn]
  ·rw[decide_eq_false hn,cond_false,rJ,if_neg hn,if_pos (by omega)]
theorem ID(N:Nat)(hN:4000000≤N){u v:Int}(hu:Fit u 900000)(hv:Fit v 900000):H5 N (cg u) (cg v)=some (rJ (u-v)):=by
 unfold H5
 simp only[rL N hN hu hv,Option.bind_some,ph]
theorem C9(l:List Int)(h: ∀x∈l,-9223372036854775808≤x∧x<9223372036854775808): -(9223372036854775808*l.length)≤l.sum∧l.sum≤9223372036854775808*l.length:=by
 induction l with
 |nil=>simp
 |cons x l ih=>
  have:=ih (fun y hy=>h y (List.mem_cons_of_mem _ hy))
  obtain⟨h1,h2⟩:=h x (List.mem_cons_self ..)
  rw[List.sum_cons,List.length_cons]
  omega
theorem um{v:Int}{n:Nat}(hn:n≤1000000)(h0: -(9223372036854775808*n)≤v)(h1:v≤9223372036854775808*n):Fit v 3:=by
 unfold Fit
 rw[show(4294967296:Nat)^3=79228162514264337593543950336 from by decide]
 omega
theorem mP{l:List Int}(h: ∀x∈l,-9223372036854775808≤x∧x<9223372036854775808)(i:Nat): -9223372036854775808≤l.getD i 0∧l.getD i 0<9223372036854775808:=by
 rw[List.getD_eq_getElem?_getD]
 cases hn:l[i]? with
 |none=>exact⟨by decide,by decide⟩
 |some x=>exact h x (List.mem_of_getElem? hn)
theorem dU(l:List Int){i:Nat}(h:i<l.length):(l.take (i+1)).sum=(l.take i).sum+l.getD i 0:=by
 rw[dJ l h];simp
theorem uq(N:Nat)(hN:4000000≤N){l:List Int}(h: ∀x∈l,-9223372036854775808≤x∧x<9223372036854775808)(hl:l.length≤1000000): ∀(m n i:Nat) (z:av),l.length-i≤m→m<n→i≤l.length→
  lj.l3 N n l z (cg (l.take i).sum) (i:Int)=some (cg l.sum)
 |m,0,i,z,_,hn,_=>by omega
 |m,n+1,i,z,hm,hn,hi=>by
  unfold lj.l3 lj.g7
  by_cases h1:i<l.length
  ·obtain⟨g0,g1⟩:=mP h i
   have f1:=C9 (l.take i) (fun x hx=>h x (List.mem_of_mem_take hx))
   rw[List.length_take,Nat.min_eq_left (by omega)]at f1
   have f2:Fit (l.take i).sum 900000:=(um (n:=i) (by omega) f1.1 f1.2).mono (by omega)
   have f3:Fit (l.getD i 0) 900000:=(Fit.i64 g0 g1).mono (by omega)
   simp (disch:=omega) only[aD,ay,cB,cv,ck,cf,aG,ba,br,b8,al,bz,cond_true,cond_false,Bool.not_true,Bool.not_false,Option.bind_some,Int.toNat_natCast,Int.toNat_zero,aa,List.length_append,List.length_singleton,List.length_set,List.length_replicate,List.length_cons,List.length_nil,fH N (by omega) g0 g1,fT N hN f2 f3]
   rw[←dU l h1]
   exact uq N hN h hl (m-1) n (i+1) z (by omega) (by omega) (by omega)
  ·simp (disch:=omega) only[aD,ay,cB,cv,ck,cf,aG,ba,br,b8,al,bz,cond_true,cond_false,Bool.not_true,Bool.not_false,Option.bind_some,Int.toNat_natCast,Int.toNat_zero,aa,List.length_append,List.length_singleton,List.length_set,List.length_replicate,List.length_cons,List.length_nil]
   rw[List.take_of_length_le (by omega)]
theorem gG:cg 0=(false,([],())):=by unfold cg;rw[show(0:Int).natAbs=0 from rfl,gi];rfl
theorem s6(N:Nat)(hN:4000000≤N){l:List Int}(h: ∀x∈l,-9223372036854775808≤x∧x<9223372036854775808)(hl:l.length≤1000000):lj N l=some (cg l.sum):=by
 unfold lj lj.b
 have:=uq N hN h hl l.length N 0 (false,([],())) (by omega) (by omega) (by omega)
 rw[List.take_zero,List.sum_nil,gG]at this
 exact this
theorem Ow{a b:Int}(ha:0≤a)(XV:a<4294967296)(hb:0≤b)(jI:b<4294967296):ja .or .u64 a (b*4294967296)=a+b*4294967296:=by
 rw[C5 ha (by omega) (by omega) (by omega)]
 have h:=Nat.two_pow_add_eq_or_of_lt (i:=32) (b:=a.toNat) (by omega) b.toNat
 have e:(b*4294967296).toNat=2^32*b.toNat:=by omega
 rw[e,Nat.or_comm,←h];omega
theorem LO{a b:Int}(ha:0≤a)(XV:a<4294967296)(hb:0≤b)(jI:b<4294967296):ja .or .u64 (b*4294967296) a=a+b*4294967296:=by
 rw[C5 (by omega) (by omega) ha (by omega)]
 have h:=Nat.two_pow_add_eq_or_of_lt (i:=32) (b:=a.toNat) (by omega) b.toNat
 have e:(b*4294967296).toNat=2^32*b.toNat:=by omega
 rw[e,←h];omega
theorem XZ{x:Int}(h0:0≤x):shl .u64 x 32=x*4294967296:=by rw[Kh (by omega) (by omega)];rfl
def ur(v:Int):Int×Bool:=if-9223372036854775808≤v∧v<9223372036854775808 then(v,true)else(0,false)
theorem RT{n:Nat}(h:(ic n).length≤2):(ic n).getD 0 0+4294967296*(ic n).getD 1 0=n:=by
 have h1:=gF (ic n) 0
 have h2:=gF (ic n) 1
 rw[List.drop_zero,eF]at h1
 rw[List.drop_of_length_le (l:=ic n) (i:=1+1) h]at h2
 simp only[bQ,Nat.zero_add]at h1 h2
 omega
theorem oh(N:Nat)(v:Int):qQ N (cg v)=some (ur v):=by
 unfold qQ
 simp only[cg]
 by_cases hl:2<(ic v.natAbs).length
 ·rw[aD (by omega),cond_true,ur,if_neg]
  intro hh
  have:=rI 2 v.natAbs (by rw[show(4294967296:Nat)^2=18446744073709551616 from by decide];omega)
  omega
 ·have h2:=RT (n:=v.natAbs) (by omega)
  obtain⟨a0,a1⟩:=(gk v.natAbs).getD 0
  obtain⟨b0,b1⟩:=(gk v.natAbs).getD 1
  have e0:=qO N (ic v.natAbs) 0
  have e1:=qO N (ic v.natAbs) 1
  simp only[Int.natCast_zero,Int.natCast_one]at e0 e1
  rw[ay (by omega),cond_false,e0,e1]
  generalize (ic v.natAbs).getD 0 0=a at*
  generalize (ic v.natAbs).getD 1 0=b at*
  simp only[Option.bind_some]
  rw[ay (show(0:Int)≤32 by omega),cond_false,XZ b0,bz (x:=b*4294967296) (by omega) (by omega),Ow a0 a1 b0 b1]
  have ev:a+b*4294967296=v.natAbs:=by omega
  rw[ev]
  by_cases hn:v<0
  ·rw[decide_eq_true hn,cond_true]
   by_cases C1:9223372036854775808<(v.natAbs:Int)
   ·rw[aD C1,cond_true,ur,if_neg (by omega)]
   ·rw[ay (by omega),cond_false,ur,if_pos (by omega),mM,gE]
    congr 2
    split<;>omega
  ·rw[decide_eq_false hn,cond_false]
   by_cases C1:9223372036854775807<(v.natAbs:Int)
   ·rw[aD C1,cond_true,ur,if_neg (by omega)]
   ·rw[ay (by omega),cond_false,ur,if_pos (by omega),al (by omega) (by omega)]
    congr 2;omega
end VM
end
section
namespace VM
open Go VM.F
theorem Fp: ∀(l:List Int) (k:Nat) (x:Int),k<l.length→bQ (l.set k x)=bQ l+4294967296^k*(x-l.getD k 0)
 |d::r,0,x,_=>by simp[bQ];omega
 |d::r,k+1,x,h=>by
  have ih:=Fp r k x (by simpa using h)
  rw[List.set_cons_succ,bQ,bQ,ih,List.getD_cons_succ,Int.pow_succ,Int.mul_comm (4294967296^k) 4294967296,Int.mul_assoc,Int.mul_add];omega
theorem getD_set_ne(l:List Int){j k:Nat}(x:Int)(h:j≠k):(l.set j x).getD k 0=l.getD k 0:=by
 simp[List.getD_eq_getElem?_getD,List.getElem?_set_ne h]
theorem gm(l:List Int){k:Nat}(x:Int)(h:k<l.length):(l.set k x).getD k 0=x:=by
 simp[List.getD_eq_getElem?_getD,List.getElem?_set,h]
theorem pj(l:List Int){k:Nat}(h:l.length≤k):l.getD k 0=0:=by
 rw[List.getD_eq_getElem?_getD,List.getElem?_eq_none h];rfl
theorem wR(N:Nat)(K:av→av→av→List Int→Int→Option av){a b:List Int}(na nb:Bool)(z:av)(ha:VD a)(hb:VD b)(i:Nat)(hi:i<a.length)(sZ:a.length≤100000)(HZ:b.length≤100000):
  ∀(m n j:Nat) (out:List Int) (c:Int),b.length+1-j≤m→m<n→VD out→out.length=a.length+b.length+1→0≤c→c<4294967296→(j≤b.length→ ∀k,i+b.length≤k→out.getD k 0=0)→(b.length<j→c=0∧j=b.length+1∧ ∀k,i+b.length+1≤k→out.getD k 0=0)→
  ∃s7,fX.l7 N K n (na,(a,())) (nb,(b,())) z out (i:Int) c (j:Int)=K (na,(a,())) (nb,(b,())) z s7 ((i+1:Nat):Int)∧VD s7∧s7.length=out.length∧
   bQ s7=bQ out+4294967296^i*(4294967296^j*(a.getD i 0*bQ (b.drop j)+c))∧ ∀k,i+1+b.length≤k→s7.getD k 0=0
 |m,0,j,out,c,_,hn,_,_,_,_,_,_=>by omega
 |m,n+1,j,out,c,hm,hn,ho,D6,M5,AQ,hz,H4=>by
  unfold fX.l7 fX.ll
  by_cases Fj:b.length≤j∧c=0
  ·obtain⟨h1,rfl⟩:=Fj
   simp (disch:=omega) only[aD,ay,cB,cv,ck,cf,aG,ba,br,b8,al,bz,cond_true,cond_false,Bool.not_true,Bool.not_false,Option.bind_some,Int.toNat_natCast,Int.toNat_zero,aa,List.length_append,List.length_singleton,List.length_set,List.length_replicate,List.length_cons,List.length_nil]
   refine⟨out,rfl,ho,rfl,by rw[List.drop_of_length_le h1];simp[bQ],fun k hk=> ?_⟩
   by_cases hj:j≤b.length
   ·exact hz hj k (by omega)
   ·exact(H4 (by omega)).2.2 k (by omega)
  ·have AB:j≤b.length:=by
    by_cases hj:j≤b.length
    ·exact hj
    ·exact absurd ⟨by omega,(H4 (by omega)).1⟩ Fj
   obtain⟨ga0,ga1⟩:=ha.getD i
   obtain⟨gb0,gb1⟩:=hb.getD j
   obtain⟨go0,go1⟩:=ho.getD (i+j)
   have step: ∃s7,fX.j9 N K (fX.l7 N K n) (na,(a,())) (nb,(b,())) z out (i:Int) c (j:Int)=K (na,(a,())) (nb,(b,())) z s7 ((i+1:Nat):Int)∧VD s7∧s7.length=out.length∧
     bQ s7=bQ out+4294967296^i*(4294967296^j*(a.getD i 0*bQ (b.drop j)+c))∧ ∀k,i+1+b.length≤k→s7.getD k 0=0:=by
    unfold fX.j9 fX.IE
    have eij:(i:Int)+(j:Int)=((i+j:Nat):Int):=rfl
    have hp:=mul_lt (m:=4294967295) (n:=4294967295) ga0 gb0 (by omega) (by omega)
    simp only[qO,Option.bind_some,eij,Int.toNat_natCast]
    simp (disch:=omega) only[aD,ay,cB,cv,ck,cf,aG,ba,br,b8,al,bz,cond_true,cond_false,Bool.not_true,Bool.not_false,Option.bind_some,Int.toNat_natCast,Int.toNat_zero,aa,List.length_append,List.length_singleton,List.length_set,List.length_replicate,List.length_cons,List.length_nil]
    generalize hx:out.getD (i+j) 0=x at*
    generalize ha':a.getD i 0=ai at*
    generalize dw:b.getD j 0=bj at*
    generalize hpe:ai*bj=p at*
    have hpz:b.length≤j→p=0∧x=0:=fun h=>by
     rw[pj b h]at dw
     refine⟨by rw[←hpe,←dw,Int.mul_zero],?_⟩
     rw[←hx];exact hz AB _ (by omega)
    rw[gh (by omega) (by omega),za]
    have akw:(out.set (i+j) ((c+(x+p))%4294967296)).length=a.length+b.length+1:=by rw[List.length_set];exact D6
    obtain⟨s7,h1,h2,h3,h4,h5⟩:=wR N K na nb z ha hb i hi sZ HZ (m-1) n (j+1) (out.set (i+j) ((c+(x+p))%4294967296)) ((c+(x+p))/4294967296) (by omega) (by omega) (ho.set _ (by omega) (by omega)) akw (by omega) (by omega)
     (fun h k hk=>by rw[getD_set_ne _ _ (by omega)];exact hz AB k hk)
     (fun h=>by
      obtain⟨M9,J7⟩:=hpz (by omega)
      refine⟨by omega,by omega,fun k hk=> ?_⟩
      rw[getD_set_ne _ _ (by omega)];exact hz AB k (by omega))
    refine⟨s7,h1,h2,by rw[h3,List.length_set],?_,h5⟩
    rw[h4,Fp _ _ _ (by omega),hx,ha',gF b j,dw,Int.mul_add ai,hpe,Int.pow_add,Int.pow_succ]
    have e1:ai*(4294967296*bQ (b.drop (j+1)))=4294967296*(ai*bQ (b.drop (j+1))):=Int.mul_left_comm _ _ _
    rw[e1]
    generalize ai*bQ (b.drop (j+1))=y
    generalize (4294967296:Int)^i=P
    generalize (4294967296:Int)^j=R
    rw[Int.mul_assoc R,Int.mul_assoc P,Int.add_assoc,←Int.mul_add,←Int.mul_add]
    congr 3
    omega
   by_cases h1:j<b.length
   ·simp (disch:=omega) only[aD,cond_true];exact step
   ·have:0<c:=by omega
    simp (disch:=omega) only[aD,ay,cond_true,cond_false];exact step
theorem wS(N:Nat)(hN:4000000≤N){a b:List Int}(na nb:Bool)(z:av)(ha:VD a)(hb:VD b)(sZ:a.length≤100000)(HZ:b.length≤100000):
  ∀(m n i:Nat) (out:List Int),a.length-i≤m→m<n→i≤a.length→VD out→out.length=a.length+b.length+1→(∀k,i+b.length≤k→out.getD k 0=0)→bQ out=bQ (a.take i)*bQ b→
  fX.l3 N n (na,(a,())) (nb,(b,())) z out (i:Int)=some (cg (if na=nb then bQ a*bQ b else-(bQ a*bQ b)))
 |m,0,i,out,_,hn,_,_,_,_,_=>by omega
 |m,n+1,i,out,hm,hn,hi,ho,D6,hz,hv=>by
  unfold fX.l3 fX.g7
  by_cases h1:i<a.length
  ·simp only
   rw[aD (by omega),cond_true]
   obtain⟨s7,e1,e2,e3,e4,e5⟩:=wR N (fX.l3 N n) na nb z ha hb i h1 sZ HZ (b.length+1) N 0 out 0 (by omega) (by omega) ho D6 (by omega) (by omega) (fun _ k hk=>hz k hk) (fun h=>by omega)
   rw[show((0:Nat):Int)=0 from rfl]at e1
   rw[e1]
   refine wS N hN na nb z ha hb sZ HZ (m-1) n (i+1) s7 (by omega) (by omega) (by omega) e2 (by rw[e3];exact D6) (fun k hk=>e5 k (by omega)) ?_
   rw[e4,hv,dJ a h1,mm,List.length_take,Nat.min_eq_left (by omega),List.drop_zero,Int.pow_zero,Int.one_mul,Int.add_zero,Int.add_mul,Int.mul_assoc]
  ·simp only
   rw[ay (by omega),cond_false]
   simp only[n0 N _ ho (by omega) (by omega),Option.bind_some]
   rw[hv,List.take_of_length_le (by omega),qP]
   congr 2
   cases na<;>cases nb<;>simp
theorem Fs(N:Nat)(hN:4000000≤N){u v:Int}(hu:Fit u 90000)(hv:Fit v 90000):fX N (cg u) (cg v)=some (cg (u*v)):=by
 have lu:=hu.len
 have lv:=hv.len
 unfold fX fX.b
 simp only[cg]
 simp (disch:=omega) only[aD,ay,cB,cv,ck,cf,aG,ba,br,b8,al,bz,cond_true,cond_false,Bool.not_true,Bool.not_false,Option.bind_some,Int.toNat_natCast,Int.toNat_zero,aa,List.length_append,List.length_singleton,List.length_set,List.length_replicate,List.length_cons,List.length_nil]
 have e:(((ic u.natAbs).length:Int)+((ic v.natAbs).length:Int)+1).toNat=(ic u.natAbs).length+(ic v.natAbs).length+1:=by omega
 have:=wS N hN (decide (u<0)) (decide (v<0)) (false,([],())) (gk u.natAbs) (gk v.natAbs) (by omega) (by omega) (ic u.natAbs).length N 0 (List.replicate ((ic u.natAbs).length+(ic v.natAbs).length+1) 0) (by omega) (by omega) (by omega) (VD.XY _) (by simp)
  (fun k _=>by rw[List.getD_eq_getElem?_getD,List.getElem?_replicate];split<;>rfl) (by
   have: ∀n,bQ (List.replicate n 0)=0:=fun n=>by
    induction n with
    |zero=>rfl
    |succ n ih=>rw[List.replicate_succ,bQ,ih];rfl
   rw[this];simp[bQ])
 rw[eF,eF]at this
 have e2:(((ic u.natAbs).length+(ic v.natAbs).length:Nat):Int)+1=(ic u.natAbs).length+(ic v.natAbs).length+1:=by omega
 first
 |(rw[e];refine this.trans ?_)
 |(refine(this).trans ?_)
 show some (cg _)=some (cg _)
 congr 2
 have key:(u.natAbs:Int)*v.natAbs=if decide (u<0)=decide (v<0)then u*v else-(u*v):=by
  by_cases h1:u<0<;>by_cases h2:v<0
  ·rw[if_pos (by simp[h1,h2]),show(u.natAbs:Int)= -u from by omega,show(v.natAbs:Int)= -v from by omega,Int.neg_mul_neg]
  ·rw[if_neg (by simp[h1,h2]),show(u.natAbs:Int)= -u from by omega,show(v.natAbs:Int)=v from by omega,Int.neg_mul]
  ·rw[if_neg (by simp[h1,h2]),show(u.natAbs:Int)=u from by omega,show(v.natAbs:Int)= -v from by omega,Int.mul_neg]
  ·rw[if_pos (by simp[h1,h2]),show(u.natAbs:Int)=u from by omega,show(v.natAbs:Int)=v from by omega]
 rw[key]
 split<;>simp
end VM
end
