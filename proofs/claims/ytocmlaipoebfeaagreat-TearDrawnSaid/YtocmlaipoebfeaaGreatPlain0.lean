/- A part of the proof of TearDrawn of layer 29: what the functions compute, in plain words. -/
import Derived.Test.YtocmlaipoebfeaaGreatVm0
import GoSem.Claim
import Derived.Test.YtocmlaipoebfeaaGreatText
set_option linter.all false
section
namespace VM
open Go
theorem mA(x:Int):W .u64 x=x%18446744073709551616:=by rw[wV];simp[IntKind.wrap,IntKind.bits,IntKind.signed]
theorem bw{x:Int}(h0:0≤x)(h1:x<18446744073709551616):W .u64 x=x:=by rw[mA];omega
theorem gz(x:Int):W .i64 x=if 9223372036854775808≤x%18446744073709551616 then x%18446744073709551616-18446744073709551616 else x%18446744073709551616:=by
 rw[wV];simp[IntKind.wrap,IntKind.bits,IntKind.signed]
theorem an{x:Int}(h0: -9223372036854775808≤x)(h1:x<9223372036854775808):W .i64 x=x:=by
 rw[gz];split<;>omega
theorem adY{x:Int}(h0:0≤x)(h1:x<256):W .u8 x=x:=by rw[wV];simp[IntKind.wrap,IntKind.bits,IntKind.signed];omega
theorem wf_u64{x:Int}:(Lit.int .u64 x).wf=true↔0≤x∧x≤18446744073709551615:=by simp[Lit.wf,IntKind.min,IntKind.max,IntKind.bits,IntKind.signed]
theorem aD{x y:Int}(h:x<y):aG x y=true:=by rw[mc];exact decide_eq_true h
theorem ax{x y:Int}(h:y≤x):aG x y=false:=by rw[mc];exact decide_eq_false (by omega)
theorem cv{x y:Int}(h:x≤y):bR x y=true:=by rw[kU];exact decide_eq_true h
theorem cn{x y:Int}(h:y<x):bR x y=false:=by rw[kU];exact decide_eq_false (by omega)
theorem ch{x y:Int}(h:x=y):ay x y=true:=by rw[fI];exact decide_eq_true h
theorem b9{x y:Int}(h:x≠y):ay x y=false:=by rw[fI];exact decide_eq_false h
theorem aF{i:Int}{n:Nat}(h0:0≤i)(h1:i<n):aI i n=true:=by rw[Mp];exact decide_eq_true ⟨h0,h1⟩
theorem a6{n:Nat}(h:n<68719476736):small n=true:=by rw[yf];exact decide_eq_true (by simpa [s8]using h)
theorem bp{l c:Int}(h0:0≤l)(h1:l≤c)(h2:c<68719476736):dS l c=true:=by rw[AS];exact decide_eq_true (by simp only[s8];omega)
theorem bY{l h m n:Int}(h0:0≤l)(h1:l≤h)(h2:h≤m)(h3:m≤n):fB l h m n=true:=by rw[tf];exact decide_eq_true ⟨h0,h1,h2,h3⟩
theorem aa(n:Nat):(n:Int)+1=((n+1:Nat):Int):=rfl
theorem nJ(x:Int)(h0:0≤x)(h1:x<18446744073709551616):(BitVec.ofInt 64 x).toNat=x.toNat:=by
 rw[BitVec.toNat_ofInt];congr 1;omega
theorem EJ{x y:Int}(hx:0≤x)(EK:x<18446744073709551616)(hy:0≤y)(QO:y<18446744073709551616):iV .and .u64 x y=((x.toNat&&& y.toNat:Nat):Int):=by
 rw[oJ]
 have h:((BitVec.ofInt 64 x&&& BitVec.ofInt 64 y).toNat)=x.toNat&&& y.toNat:=by rw[BitVec.toNat_and,nJ x hx EK,nJ y hy QO]
 show IntKind.u64.wrap (((BitVec.ofInt 64 x&&& BitVec.ofInt 64 y).toNat:Nat):Int)=_
 rw[h,←wV]
 have:x.toNat&&& y.toNat≤x.toNat:=Nat.and_le_left
 exact bw (by omega) (by omega)
theorem CD{x y:Int}(hx:0≤x)(EK:x<18446744073709551616)(hy:0≤y)(QO:y<18446744073709551616):iV .or .u64 x y=((x.toNat|||y.toNat:Nat):Int):=by
 rw[oJ]
 have h:((BitVec.ofInt 64 x|||BitVec.ofInt 64 y).toNat)=x.toNat|||y.toNat:=by rw[BitVec.toNat_or,nJ x hx EK,nJ y hy QO]
 show IntKind.u64.wrap (((BitVec.ofInt 64 x|||BitVec.ofInt 64 y).toNat:Nat):Int)=_
 rw[h,←wV]
 have:x.toNat|||y.toNat<2^64:=Nat.or_lt_two_pow (by omega) (by omega)
 exact bw (by omega) (by omega)
theorem fZ{x:Int}(h0:0≤x)(h1:x<18446744073709551616):iV .and .u64 x 4294967295=x%4294967296:=by
 rw[EJ h0 h1 (by omega) (by omega)]
 have:=Nat.and_two_pow_sub_one_eq_mod x.toNat 32
 rw[show((4294967295:Int).toNat)=2^32-1 from rfl,this]
 omega
theorem rk{x y:Int}(h0:0≤y)(h1:y≤64):shr .u64 x y=x/2^y.toNat:=by
 rw[HD]
 have:min y.toNat IntKind.u64.bits=y.toNat:=by simp[IntKind.bits];omega
 rw[this,Int.fdiv_eq_ediv_of_nonneg]
 exact_mod_cast Nat.zero_le _
theorem yP(x:Int):shr .u64 x 32=x/4294967296:=by rw[rk (by omega) (by omega)];rfl
theorem ajP(x:Int):shr .u64 x 1=x/2:=by rw[rk (by omega) (by omega)];rfl
theorem mB{x:Int}(h0: -9223372036854775808≤x)(h1:x<9223372036854775808):shr .i64 x 63=if x<0 then-1 else 0:=by
 rw[HD]
 have:(2:Int)^(min (63:Int).toNat IntKind.i64.bits)=9223372036854775808:=by rfl
 rw[this,Int.fdiv_eq_ediv_of_nonneg _ (by omega)]
 split<;>omega
theorem JK{x y:Int}(h0:0≤y)(h1:y≤64):shl .u64 x y=x*2^y.toNat:=by
 rw[Mr]
 have:min y.toNat IntKind.u64.bits=y.toNat:=by simp[IntKind.bits];omega
 rw[this]
theorem mul_lt{a b m n:Int}(ha:0≤a)(hb:0≤b)(ham:a≤m)(hbn:b≤n):0≤a*b∧a*b≤m*n:=
 ⟨Int.mul_nonneg ha hb,Int.le_trans (Int.mul_le_mul_of_nonneg_right ham hb) (Int.mul_le_mul_of_nonneg_left hbn (by omega))⟩
end VM
end
section
namespace VM
open Go VM.F
theorem K8(a b:Int):a*b=(a/4294967296)*(b/4294967296)*18446744073709551616+((a/4294967296)*(b%4294967296)+(a%4294967296)*(b/4294967296))*4294967296+(a%4294967296)*(b%4294967296):=by
 have ha:a=(a/4294967296)*4294967296+a%4294967296:=by omega
 have hb:b=(b/4294967296)*4294967296+b%4294967296:=by omega
 generalize a/4294967296=a1 at*
 generalize a%4294967296=a0 at*
 generalize b/4294967296=b1 at*
 generalize b%4294967296=b0 at*
 subst ha;subst hb
 simp only[Int.add_mul,Int.mul_add]
 have e1:a1*4294967296*(b1*4294967296)=a1*b1*18446744073709551616:=by
  rw[Int.mul_assoc,Int.mul_left_comm 4294967296,←Int.mul_assoc];rfl
 have e2:a1*4294967296*b0=a1*b0*4294967296:=by rw[Int.mul_assoc,Int.mul_comm 4294967296,←Int.mul_assoc]
 have e3:a0*(b1*4294967296)=a0*b1*4294967296:=by rw[←Int.mul_assoc]
 rw[e1,e2,e3];omega
theorem Ny(N:Nat){a b:Int}(ha:0≤a)(WL:a<18446744073709551616)(hb:0≤b)(jD:b<18446744073709551616):
  QP N a b=some (a*b/18446744073709551616,a*b%18446744073709551616):=by
 unfold QP
 have hm:=K8 a b
 have h1:=mul_lt (m:=4294967295) (n:=4294967295) (show 0≤a/4294967296 by omega) (show 0≤b/4294967296 by omega) (by omega) (by omega)
 have h2:=mul_lt (m:=4294967295) (n:=4294967295) (show 0≤a/4294967296 by omega) (show 0≤b%4294967296 by omega) (by omega) (by omega)
 have h3:=mul_lt (m:=4294967295) (n:=4294967295) (show 0≤a%4294967296 by omega) (show 0≤b/4294967296 by omega) (by omega) (by omega)
 have h4:=mul_lt (m:=4294967295) (n:=4294967295) (show 0≤a%4294967296 by omega) (show 0≤b%4294967296 by omega) (by omega) (by omega)
 simp only[ax (show(0:Int)≤32 by omega),cond_false,fZ ha WL,fZ hb jD,yP]
 generalize a/4294967296=a1 at*
 generalize a%4294967296=a0 at*
 generalize b/4294967296=b1 at*
 generalize b%4294967296=b0 at*
 generalize a*b=ab at*
 generalize a1*b1=p at*
 generalize a1*b0=q at*
 generalize a0*b1=r at*
 generalize a0*b0=s at*
 rw[bw (x:=q) (by omega) (by omega),bw (x:=s) (by omega) (by omega),bw (x:=r) (by omega) (by omega),bw (x:=p) (by omega) (by omega),bw (x:=q+s/4294967296) (by omega) (by omega),
  fZ (by omega) (by omega),bw (x:=(q+s/4294967296)%4294967296+r) (by omega) (by omega),bw (x:=p+(q+s/4294967296)/4294967296) (by omega) (by omega),bw (x:=p+(q+s/4294967296)/4294967296+_) (by omega) (by omega),mA]
 congr 2
 omega
end VM
end
section
namespace VM
open Go VM.F
theorem xM(N:Nat){x:Int}(h0: -9223372036854775808≤x)(h1:x<9223372036854775808):YE N x=some (x.natAbs:Int):=by
 unfold YE
 by_cases h:x<0
 ·rw[aD h,cond_true,mA,mA];congr 1;omega
 ·rw[ax (by omega),cond_false,mA];congr 1;omega
theorem tN(N:Nat){x y c:Int}(hx:0≤x)(hy:0≤y)(hc:0≤c)(Cn:c≤1):pF N x y c=some ((x+y+c)%18446744073709551616,(x+y+c)/18446744073709551616):=by
 unfold pF;rw[if_pos ⟨hx,hy,hc,Cn⟩]
theorem ot(N:Nat){x y c:Int}(hx:0≤x)(EK:x<18446744073709551616)(hy:0≤y)(QO:y<18446744073709551616)(hc:0≤c)(Cn:c≤1):
  pG N x y c=some ((x-y-c)%18446744073709551616,if x<y+c then 1 else 0):=by
 unfold pG;rw[if_pos ⟨hx,EK,hy,QO,hc,Cn⟩];congr 2;omega
def bitLen(n:Nat):Nat:=if n=0 then 0 else bitLen (n/2)+1
termination_by n
decreasing_by omega
theorem mC{n:Nat}(h:n≠0):bitLen n=bitLen (n/2)+1:=by rw[bitLen];simp[h]
theorem qw:bitLen 0=0:=by rw[bitLen];rfl
theorem bitLen_shift(k:Nat): ∀n,2^k≤n→bitLen n=bitLen (n/2^k)+k:=by
 induction k with
 |zero=>intro n _;simp
 |succ k ih=>
  intro n h
  have hp:0<2^k:=Nat.pow_pos (by decide)
  rw[Nat.pow_succ]at h
  rw[mC (by omega),ih (n/2) (by omega),Nat.div_div_eq_div_mul,Nat.pow_succ,Nat.mul_comm 2];omega
theorem bitLen_spec(n:Nat):n<2^bitLen n∧(n≠0→2^(bitLen n-1)≤n):=by
 induction n using Nat.strongRecOn with
 |_ n ih=>
  by_cases h:n=0
  ·subst h;rw[qw];simp
  ·rw[mC h]
   obtain⟨h1,h2⟩:=ih (n/2) (by omega)
   refine⟨by rw[Nat.pow_succ];omega,fun _=> ?_⟩
   rw[Nat.add_sub_cancel]
   by_cases h3:n/2=0
   ·rw[h3,qw];simp;omega
   ·have:=h2 h3
    have e:bitLen (n/2)=(bitLen (n/2)-1)+1:=by rw[mC h3];omega
    rw[e,Nat.pow_succ];omega
theorem QQ: ∀i:Fin 256,((strOf [0,1,2,2,3,3,3,3,4,4,4,4,4,4,4,4,5,5,5,5,5,5,5,5,5,5,5,5,5,5,5,5,6,6,6,6,6,6,6,6,6,6,6,6,6,6,6,6,6,6,6,6,6,6,6,6,6,6,6,6,6,6,6,6,7,7,7,7,7,7,7,7,7,7,7,7,7,7,7,7,7,7,7,7,7,7,7,7,7,7,7,7,7,7,7,7,7,7,7,7,7,7,7,7,7,7,7,7,7,7,7,7,7,7,7,7,7,7,7,7,7,7,7,7,7,7,7,7,8,8,8,8,8,8,8,8,8,8,8,8,8,8,8,8,8,8,8,8,8,8,8,8,8,8,8,8,8,8,8,8,8,8,8,8,8,8,8,8,8,8,8,8,8,8,8,8,8,8,8,8,8,8,8,8,8,8,8,8,8,8,8,8,8,8,8,8,8,8,8,8,8,8,8,8,8,8,8,8,8,8,8,8,8,8,8,8,8,8,8,8,8,8,8,8,8,8,8,8,8,8,8,8,8,8,8,8,8,8,8,8,8,8,8,8,8,8,8,8,8,8,8,8,8,8,8,8]).data.getD i.val 0).toNat=Nat.log2 (2*i.val+1):=by decide+kernel
theorem wv(n:Nat):Nat.log2 (2*n+1)=bitLen n:=by
 induction n using Nat.strongRecOn with
 |_ n ih=>
  by_cases h:n=0
  ·subst h;rw[qw];decide
  ·rw[mC h,Nat.log2_def,if_pos (by omega),show(2*n+1)/2=n from by omega]
   congr 1
   have:=ih (n/2) (by omega)
   rw[←this]
   by_cases h2:n%2=0
   ·rw[Nat.log2_def,Nat.log2_def (n:=2*(n/2)+1)]
    have e1:(2*(n/2)+1)/2=n/2:=by omega
    rw[if_pos (by omega),if_pos (by omega),e1]
   ·congr 1;omega
theorem EL(i:Nat)(h:i<256):((strOf [0,1,2,2,3,3,3,3,4,4,4,4,4,4,4,4,5,5,5,5,5,5,5,5,5,5,5,5,5,5,5,5,6,6,6,6,6,6,6,6,6,6,6,6,6,6,6,6,6,6,6,6,6,6,6,6,6,6,6,6,6,6,6,6,7,7,7,7,7,7,7,7,7,7,7,7,7,7,7,7,7,7,7,7,7,7,7,7,7,7,7,7,7,7,7,7,7,7,7,7,7,7,7,7,7,7,7,7,7,7,7,7,7,7,7,7,7,7,7,7,7,7,7,7,7,7,7,7,8,8,8,8,8,8,8,8,8,8,8,8,8,8,8,8,8,8,8,8,8,8,8,8,8,8,8,8,8,8,8,8,8,8,8,8,8,8,8,8,8,8,8,8,8,8,8,8,8,8,8,8,8,8,8,8,8,8,8,8,8,8,8,8,8,8,8,8,8,8,8,8,8,8,8,8,8,8,8,8,8,8,8,8,8,8,8,8,8,8,8,8,8,8,8,8,8,8,8,8,8,8,8,8,8,8,8,8,8,8,8,8,8,8,8,8,8,8,8,8,8,8,8,8,8,8,8,8]).data.getD i 0).toNat=bitLen i:=by
 rw[←wv];exact QQ ⟨i,h⟩
theorem EM:ByteArray.size (strOf [0,1,2,2,3,3,3,3,4,4,4,4,4,4,4,4,5,5,5,5,5,5,5,5,5,5,5,5,5,5,5,5,6,6,6,6,6,6,6,6,6,6,6,6,6,6,6,6,6,6,6,6,6,6,6,6,6,6,6,6,6,6,6,6,7,7,7,7,7,7,7,7,7,7,7,7,7,7,7,7,7,7,7,7,7,7,7,7,7,7,7,7,7,7,7,7,7,7,7,7,7,7,7,7,7,7,7,7,7,7,7,7,7,7,7,7,7,7,7,7,7,7,7,7,7,7,7,7,8,8,8,8,8,8,8,8,8,8,8,8,8,8,8,8,8,8,8,8,8,8,8,8,8,8,8,8,8,8,8,8,8,8,8,8,8,8,8,8,8,8,8,8,8,8,8,8,8,8,8,8,8,8,8,8,8,8,8,8,8,8,8,8,8,8,8,8,8,8,8,8,8,8,8,8,8,8,8,8,8,8,8,8,8,8,8,8,8,8,8,8,8,8,8,8,8,8,8,8,8,8,8,8,8,8,8,8,8,8,8,8,8,8,8,8,8,8,8,8,8,8,8,8,8,8,8,8])=256:=by decide+kernel
set_option maxRecDepth 100000 in
theorem JL(N:Nat){x c:Int}(h0:0≤x)(h1:x<65536)(hc:0≤c)(Cn:c≤100):iX.j7 N x c=some (c+bitLen x.toNat):=by
 unfold iX.j7 iX.H4
 have h8:shr .u64 x 8=x/256:=by rw[rk (by omega) (by omega)];rfl
 have hle: ∀n,n<256→bitLen n≤8:=fun n hn=>by
  rw[←wv]
  have:Nat.log2 (2*n+1)<9:=(Nat.log2_lt (by omega)).2 (by omega)
  omega
 by_cases h:256≤x
 ·have ht:=EL (x/256).toNat (by omega)
  have hl:=hle (x/256).toNat (by omega)
  rw[cv h,cond_true,ax (show(0:Int)≤8 by omega),cond_false,h8]
  rw[adY (x:=x/256) (by omega) (by omega)]
  extract_lets v8
  rw[EM,aF (by omega) (by omega),cond_true,ht]
  clear ht
  simp (disch:=omega) only[aD,ax,cv,cn,ch,b9,aF,a6,bp,bY,an,bw,cond_true,cond_false,Bool.not_true,Bool.not_false,Option.bind_some,Int.toNat_natCast,Int.toNat_zero,aa,List.length_append,List.length_singleton,List.length_set,List.length_replicate,List.length_cons,List.length_nil]
  have:=bitLen_shift 8 x.toNat (by omega)
  rw[this]
  have e:(x/256).toNat=x.toNat/2^8:=by omega
  rw[e];congr 1;omega
 ·have ht:=EL x.toNat (by omega)
  have hl:=hle x.toNat (by omega)
  rw[cn (by omega),cond_false,adY (x:=x) (by omega) (by omega)]
  extract_lets v8
  rw[EM,aF (by omega) (by omega),cond_true,ht]
  clear ht
  simp (disch:=omega) only[aD,ax,cv,cn,ch,b9,aF,a6,bp,bY,an,bw,cond_true,cond_false,Bool.not_true,Bool.not_false,Option.bind_some,Int.toNat_natCast,Int.toNat_zero,aa,List.length_append,List.length_singleton,List.length_set,List.length_replicate,List.length_cons,List.length_nil]
theorem Nz(N:Nat){x:Int}(h0:0≤x)(h1:x<18446744073709551616):iX N x=some (bitLen x.toNat:Int):=by
 have h16: ∀y c:Int,0≤y→y<4294967296→0≤c→c≤50→iX.j4 N y c=some (c+bitLen y.toNat):=fun y c hy0 QO hc Cn=>by
  unfold iX.j4 iX.j4b
  by_cases h:65536≤y
  ·have e:shr .u64 y 16=y/65536:=by rw[rk (by omega) (by omega)];rfl
   rw[cv h,cond_true,ax (by omega),cond_false,e,an (by omega) (by omega),JL N (by omega) (by omega) (by omega) (by omega)]
   have:=bitLen_shift 16 y.toNat (by omega)
   rw[this]
   have e:(y/65536).toNat=y.toNat/2^16:=by omega
   rw[e];congr 1;omega
  ·rw[cn (by omega),cond_false,JL N hy0 (by omega) hc (by omega)]
 unfold iX iX.b
 by_cases h:4294967296≤x
 ·rw[cv h,cond_true,ax (by omega),cond_false,yP,h16 _ _ (by omega) (by omega) (by omega) (by omega)]
  have:=bitLen_shift 32 x.toNat (by omega)
  rw[this]
  have e:(x/4294967296).toNat=x.toNat/2^32:=by omega
  rw[e];congr 1;omega
 ·rw[cn (by omega),cond_false,h16 _ _ h0 (by omega) (by omega) (by omega)]
  congr 1;omega
end VM
end
section
namespace VM
open Go VM.F
structure kC(Y yn1 yn0 un32 un1 q rh:Int):Prop where
 hY:Y=yn1*4294967296+yn0
 y1:2147483648≤yn1
 y1':yn1<4294967296
 y0:0≤yn0
 y0':yn0<4294967296
 u1:0≤un1
 u1':un1<4294967296
 lt:un32<Y
 q0:0≤q
 eq:q*yn1+rh=un32
 r0:0≤rh
 q1:q≤4294967297
 ge:(un32*4294967296+un1)/Y≤q
theorem kC.prod{Y yn1 yn0 un32 un1 q rh:Int}(g:kC Y yn1 yn0 un32 un1 q rh):q*Y=(un32-rh)*4294967296+q*yn0∧0≤q*yn0∧q*yn0≤18446744073709551615:=by
 have h:=mul_lt (m:=4294967297) (n:=4294967295) g.q0 g.y0 g.q1 (by have:=g.y0';omega)
 refine⟨?_,h.1,by omega⟩
 rw[g.hY,Int.mul_add,←Int.mul_assoc,show q*yn1=un32-rh from by have:=g.eq;omega]
theorem kC.pos{Y yn1 yn0 un32 un1 q rh:Int}(g:kC Y yn1 yn0 un32 un1 q rh):0<Y:=by have:=g.hY;have:=g.y1;have:=g.y0;omega
theorem kC.digit{Y yn1 yn0 un32 un1 q rh:Int}(g:kC Y yn1 yn0 un32 un1 q rh)(h:0≤un32):0≤(un32*4294967296+un1)/Y∧(un32*4294967296+un1)/Y<4294967296:=by
 have hp:=g.pos
 have:=g.u1;have:=g.u1';have:=g.lt
 refine⟨Int.ediv_nonneg (by omega) (by omega),?_⟩
 rw[Int.ediv_lt_iff_lt_mul hp];omega
theorem kC.done{Y yn1 yn0 un32 un1 q rh:Int}(g:kC Y yn1 yn0 un32 un1 q rh)(h:q*yn0≤4294967296*rh+un1):q=(un32*4294967296+un1)/Y:=by
 have hp:=g.pos
 have h1:=g.prod.1
 have h2:q≤(un32*4294967296+un1)/Y:=by
  rw[Int.le_ediv_iff_mul_le hp];omega
 have:=g.ge
 omega
theorem kC.next{Y yn1 yn0 un32 un1 q rh:Int}(g:kC Y yn1 yn0 un32 un1 q rh)(hu:0≤un32)(h:4294967296≤q∨4294967296*rh+un1<q*yn0):kC Y yn1 yn0 un32 un1 (q-1) (rh+yn1)∧1≤q:=by
 have hp:=g.pos
 have h1:=g.prod.1
 have hd:=g.digit hu
 have dz:(un32*4294967296+un1)/Y<q:=by
  rcases h with h|h
  ·omega
  ·rw[Int.ediv_lt_iff_lt_mul hp];omega
 have:=g.q1;have:=g.r0;have:=g.y1
 exact⟨⟨g.hY,g.y1,g.y1',g.y0,g.y0',g.u1,g.u1',g.lt,by omega,by rw[Int.sub_mul,Int.one_mul];have:=g.eq;omega,by omega,by omega,by omega⟩,by omega⟩
theorem JM(N:Nat){Y s yn1 yn0 un32 un1 un0:Int}(hu:0≤un32)(QF:un32<18446744073709551616): ∀(m n:Nat) (q rh:Int),kC Y yn1 yn0 un32 un1 q rh→rh<4294967296→4294967296-rh≤2147483648*m→m<n→
  cL.EN N n Y s yn1 yn0 un32 un1 un0 q rh=cL.Mj N Y s yn1 yn0 un32 un1 un0 ((un32*4294967296+un1)/Y)
 |m,0,q,rh,_,_,_,hn=>by omega
 |m,n+1,q,rh,g,hr,hm,hn=>by
  unfold cL.EN cL.EO
  have WM:=g.prod
  have hd:=g.digit hu
  obtain⟨hY,y1,y1',y0,y0',u1,u1',lt,q0,eq,r0,q1,ge⟩:=id g
  have go:(4294967296≤q∨4294967296*rh+un1<q*yn0)→
    (cond (bR (4294967296:Int) (W .u64 (rh+yn1))) (cL.Mj N Y s yn1 yn0 un32 un1 un0 (W .u64 (q-1))) (cL.EN N n Y s yn1 yn0 un32 un1 un0 (W .u64 (q-1)) (W .u64 (rh+yn1))))=cL.Mj N Y s yn1 yn0 un32 un1 un0 ((un32*4294967296+un1)/Y):=fun h=>by
   obtain⟨g',hq⟩:=g.next hu h
   rw[bw (x:=rh+yn1) (by omega) (by omega),bw (x:=q-1) (by omega) (by omega)]
   by_cases hb:4294967296≤rh+yn1
   ·rw[cv hb,cond_true]
    have AV:=g'.prod
    rw[g'.done (by omega)]
   ·rw[cn (by omega),cond_false]
    exact JM N hu QF (m-1) n (q-1) (rh+yn1) g' (by omega) (by omega) (by omega)
  by_cases h1:4294967296≤q
  ·rw[cv h1,cond_true]
   exact go (.inl h1)
  ·rw[cn (by omega),cond_false,bw (x:=4294967296*rh) (by omega) (by omega),bw (x:=4294967296*rh+un1) (by omega) (by omega),bw (x:=q*yn0) (by omega) (by omega)]
   by_cases h2:4294967296*rh+un1<q*yn0
   ·rw[aD h2,cond_true]
    exact go (.inr h2)
   ·rw[ax (by omega),cond_false,g.done (by omega)]
theorem JN(N:Nat){Y s yn1 yn0 un32 un1 a b:Int}(hu:0≤un32)(QF:un32<18446744073709551616): ∀(m n:Nat) (q rh:Int),kC Y yn1 yn0 un32 un1 q rh→rh<4294967296→4294967296-rh≤2147483648*m→m<n→
  cL.xN N n Y s yn1 yn0 un1 a rh un32 q=cL.WN N Y s un1 a un32 ((un32*4294967296+un1)/Y)
 |m,0,q,rh,_,_,_,hn=>by omega
 |m,n+1,q,rh,g,hr,hm,hn=>by
  unfold cL.xN cL.yQ
  have WM:=g.prod
  have hd:=g.digit hu
  obtain⟨hY,y1,y1',y0,y0',u1,u1',lt,q0,eq,r0,q1,ge⟩:=id g
  have go:(4294967296≤q∨4294967296*rh+un1<q*yn0)→
    (cond (bR (4294967296:Int) (W .u64 (rh+yn1))) (cL.WN N Y s un1 a un32 (W .u64 (q-1))) (cL.xN N n Y s yn1 yn0 un1 a (W .u64 (rh+yn1)) un32 (W .u64 (q-1))))=cL.WN N Y s un1 a un32 ((un32*4294967296+un1)/Y):=fun h=>by
   obtain⟨g',hq⟩:=g.next hu h
   rw[bw (x:=rh+yn1) (by omega) (by omega),bw (x:=q-1) (by omega) (by omega)]
   by_cases hb:4294967296≤rh+yn1
   ·rw[cv hb,cond_true]
    have AV:=g'.prod
    rw[g'.done (by omega)]
   ·rw[cn (by omega),cond_false]
    exact JN N (b:=b) hu QF (m-1) n (q-1) (rh+yn1) g' (by omega) (by omega) (by omega)
  by_cases h1:4294967296≤q
  ·rw[cv h1,cond_true]
   exact go (.inl h1)
  ·rw[cn (by omega),cond_false,bw (x:=4294967296*rh) (by omega) (by omega),bw (x:=4294967296*rh+un1) (by omega) (by omega),bw (x:=q*yn0) (by omega) (by omega)]
   by_cases h2:4294967296*rh+un1<q*yn0
   ·rw[aD h2,cond_true]
    exact go (.inr h2)
   ·rw[ax (by omega),cond_false,g.done (by omega)]
theorem kC.first{Y yn1 yn0 un32 un1:Int}(hY:Y=yn1*4294967296+yn0)(y1:2147483648≤yn1)(y1':yn1<4294967296)(y0:0≤yn0)(y0':yn0<4294967296)(u1:0≤un1)(u1':un1<4294967296)(hu:0≤un32)(lt:un32<Y):
  kC Y yn1 yn0 un32 un1 (un32/yn1) (un32-un32/yn1*yn1)∧un32-un32/yn1*yn1<4294967296∧0≤un32/yn1*yn1∧un32/yn1*yn1≤un32:=by
 have h1:=Int.mul_ediv_add_emod un32 yn1
 have h2:=Int.emod_lt_of_pos un32 (show 0<yn1 by omega)
 have h3:=Int.emod_nonneg un32 (show yn1≠0 by omega)
 have KJ:0≤un32/yn1:=Int.ediv_nonneg hu (by omega)
 rw[Int.mul_comm]at h1
 have hq1:un32/yn1≤4294967297:=by
  have:un32/yn1<4294967298:=by rw[Int.ediv_lt_iff_lt_mul (by omega)];omega
  omega
 have PS:(un32*4294967296+un1)/Y≤un32/yn1:=by
  have dz:un32*4294967296+un1<(un32/yn1+1)*Y:=by
   have e:un32+1≤(un32/yn1+1)*yn1:=by rw[Int.add_mul,Int.one_mul];omega
   have e2:(un32/yn1+1)*Y=(un32/yn1+1)*yn1*4294967296+(un32/yn1+1)*yn0:=by rw[hY,Int.mul_add,Int.mul_assoc]
   have e3:0≤(un32/yn1+1)*yn0:=Int.mul_nonneg (by omega) y0
   omega
  have:(un32*4294967296+un1)/Y<un32/yn1+1:=by rw[Int.ediv_lt_iff_lt_mul (by omega)];exact dz
  omega
 exact⟨⟨hY,y1,y1',y0,y0',u1,u1',lt,KJ,by omega,by omega,hq1,PS⟩,by omega,Int.mul_nonneg KJ (by omega),by omega⟩
theorem NA{a b:Int}{k:Nat}(ha:0≤a)(WL:a<2^k)(hb:0≤b)(h:b*2^k<18446744073709551616)(hk:k<64):iV .or .u64 (b*2^k) a=b*2^k+a:=by
 have hp:(0:Int)<2^k:=Int.pow_pos (by decide)
 have YF:((2^k:Nat):Int)=2^k:=by rw[Int.natCast_pow];rfl
 have aq3:(2:Int)^k≤2^63:=by
  rw[←YF,show(2:Int)^63=((2^63:Nat):Int)from by decide]
  exact_mod_cast Nat.pow_le_pow_right (by decide) (by omega)
 have aot:(2:Int)^63=9223372036854775808:=by decide
 have rQ:=Int.mul_nonneg hb (Int.le_of_lt hp)
 rw[CD rQ h ha (by omega)]
 have h1:=Nat.two_pow_add_eq_or_of_lt (i:=k) (b:=a.toNat) (by
  have:((a.toNat:Nat):Int)<((2^k:Nat):Int):=by rw[YF,Int.toNat_of_nonneg ha];exact WL
  exact_mod_cast this) b.toNat
 have e:(b*2^k).toNat=2^k*b.toNat:=by
  have:((2^k*b.toNat:Nat):Int)=b*2^k:=by rw[Int.natCast_mul,YF,Int.toNat_of_nonneg hb,Int.mul_comm]
  omega
 rw[e,←h1,Int.natCast_add,Int.natCast_mul,YF,Int.toNat_of_nonneg hb,Int.toNat_of_nonneg ha,Int.mul_comm]
theorem EP(N:Nat)(hN:100≤N){hi lo y:Int}(h0:0≤hi)(h1:hi<y)(l0:0≤lo)(l1:lo<18446744073709551616)(y1:y<18446744073709551616):
  cL N hi lo y=some ((hi*18446744073709551616+lo)/y,(hi*18446744073709551616+lo)%y):=by
 unfold cL cL.b
 rw[b9 (show y≠0 by omega),cond_false,cn (by omega),cond_false]
 by_cases hz:hi=0
 ·subst hz
  rw[ch rfl,cond_true,cond_false,cond_false,B3,Mq,Int.tdiv_eq_ediv_of_nonneg l0,Int.tmod_eq_emod_of_nonneg l0]
  have e1:0≤lo/y:=Int.ediv_nonneg l0 (by omega)
  have e2:lo/y≤lo:=Int.ediv_le_self _ l0
  rw[bw (by omega) (by omega)]
  simp
 ·rw[b9 hz,cond_false]
  obtain⟨b1,b2⟩:=bitLen_spec y.toNat
  have b2:=b2 (by omega)
  obtain⟨L,hL⟩: ∃L,L=bitLen y.toNat:=⟨_,rfl⟩
  rw[←hL]at b1 b2
  have hL1:1≤L:=by rw[hL,mC (by omega)];omega
  have aq4:L≤64:=by
   rcases Nat.lt_or_ge 64 L with h|h
   ·have h3:2^64≤2^(L-1):=Nat.pow_le_pow_right (by decide) (by omega)
    have:(2:Nat)^64=18446744073709551616:=by decide
    omega
   ·exact h
  have hl:QR N y=some (64-(L:Int)):=by
   unfold QR
   rw[Nz N (by omega) y1,Option.bind_some,←hL,an (by omega) (by omega)]
  obtain⟨s,hs⟩: ∃s:Nat,s=64-L:=⟨_,rfl⟩
  have hsI:64-(L:Int)=(s:Int):=by omega
  rw[hl,Option.bind_some,hsI]
  clear hl
  have YF: ∀k:Nat,((2^k:Nat):Int)=2^k:=fun k=>by rw[Int.natCast_pow];rfl
  obtain⟨p,hp⟩: ∃p:Int,p=2^s:=⟨_,rfl⟩
  obtain⟨p',AV⟩: ∃p':Int,p'=2^(64-s):=⟨_,rfl⟩
  have Ae:p'*p=18446744073709551616:=by
   rw[hp,AV,←Int.pow_add,show 64-s+s=64 from by omega];decide
  have Mh:0<p:=by rw[hp];exact Int.pow_pos (by decide)
  have aq6:0<p':=by rw[AV];exact Int.pow_pos (by decide)
  have QO:y*p<18446744073709551616:=by
   have h:y.toNat*2^s<2^L*2^s:=Nat.mul_lt_mul_of_pos_right b1 (Nat.pow_pos (by decide))
   rw[←Nat.pow_add,show L+s=64 from by omega,show(2:Nat)^64=18446744073709551616 from by decide]at h
   have:((y.toNat*2^s:Nat):Int)=y*p:=by rw[Int.natCast_mul,YF,←hp,Int.toNat_of_nonneg (by omega)]
   omega
  have hy2:9223372036854775808≤y*p:=by
   have h:2^(L-1)*2^s≤y.toNat*2^s:=Nat.mul_le_mul_right _ b2
   rw[←Nat.pow_add,show L-1+s=63 from by omega,show(2:Nat)^63=9223372036854775808 from by decide]at h
   have:((y.toNat*2^s:Nat):Int)=y*p:=by rw[Int.natCast_mul,YF,←hp,Int.toNat_of_nonneg (by omega)]
   omega
  have ajR: ∀x:Int,shl .u64 x (s:Int)=x*p:=fun x=>by rw[JK (by omega) (by omega),hp];rfl
  have ajS:shr .u64 lo (64-(s:Int))=lo*p/18446744073709551616:=by
   rw[rk (by omega) (by omega),show(64-(s:Int)).toNat=64-s from by omega,←AV,←Ae,Int.mul_ediv_mul_of_pos_left _ _ Mh]
  have hhp:hi*p+p≤y*p:=by
   have:=Int.mul_le_mul_of_nonneg_right (show hi+1≤y by omega) (Int.le_of_lt Mh)
   rw[Int.add_mul,Int.one_mul]at this;exact this
  have aq9:0≤hi*p:=Int.mul_nonneg h0 (Int.le_of_lt Mh)
  have ajT:0≤lo*p:=Int.mul_nonneg l0 (Int.le_of_lt Mh)
  have ajU:lo*p<18446744073709551616*p:=Int.mul_lt_mul_of_pos_right l1 Mh
  have nk:lo*p/18446744073709551616<p:=by rw[Int.ediv_lt_iff_lt_mul (by omega),Int.mul_comm p];exact ajU
  have ht0:0≤lo*p/18446744073709551616:=Int.ediv_nonneg ajT (by omega)
  have hor:iV .or .u64 (hi*p) (lo*p/18446744073709551616)=hi*p+lo*p/18446744073709551616:=by
   have:=NA (k:=s) (a:=lo*p/18446744073709551616) (b:=hi) ht0 (by rw[←hp];exact nk) h0 (by rw[←hp];omega) (by omega)
   rw[←hp]at this;exact this
  obtain⟨Y,hY⟩: ∃Y,Y=y*p:=⟨_,rfl⟩
  have hU:(hi*18446744073709551616+lo)*p=(hi*p+lo*p/18446744073709551616)*18446744073709551616+lo*p%18446744073709551616:=by
   rw[Int.add_mul,Int.mul_assoc,Int.mul_comm 18446744073709551616 p,←Int.mul_assoc];omega
  have hws:W .u64 (s:Int)=(s:Int):=bw (by omega) (by omega)
  have ajV:W .u64 (64-(s:Int))=64-(s:Int):=bw (by omega) (by omega)
  have hwl:W .u64 (lo*p)=lo*p%18446744073709551616:=mA _
  simp only[hws,ajV,ajR,ajS,hwl]
  rw[←hY]at QO hy2 hhp ⊢
  have hwy:W .u64 Y=Y:=bw (by omega) (by omega)
  have hwh:W .u64 (hi*p)=hi*p:=bw (by omega) (by omega)
  simp only[hwy,hwh,hor]
  obtain⟨u,hu⟩: ∃u,u=hi*p+lo*p/18446744073709551616:=⟨_,rfl⟩
  obtain⟨v,hv⟩: ∃v,v=lo*p%18446744073709551616:=⟨_,rfl⟩
  rw[←hu,←hv]at hU ⊢
  have hv0:0≤v:=by omega
  have D9:v<18446744073709551616:=by omega
  have hu0:0≤u:=by omega
  have hu1:u<Y:=by omega
  have hmy:iV .and .u64 Y 4294967295=Y%4294967296:=fZ (by omega) (by omega)
  have WE:iV .and .u64 v 4294967295=v%4294967296:=fZ hv0 D9
  obtain⟨g1,g2,g3,g4⟩:=kC.first (Y:=Y) (yn1:=Y/4294967296) (yn0:=Y%4294967296) (un32:=u) (un1:=v/4294967296) (by omega) (by omega) (by omega) (by omega) (by omega) (by omega) (by omega) hu0 hu1
  have hq:quo u (Y/4294967296)=u/(Y/4294967296):=by rw[B3,Int.tdiv_eq_ediv_of_nonneg hu0]
  have hwq:W .u64 (u/(Y/4294967296))=u/(Y/4294967296):=bw g1.q0 (by have:=g1.q1;omega)
  have hwm:W .u64 (u/(Y/4294967296)*(Y/4294967296))=u/(Y/4294967296)*(Y/4294967296):=bw g3 (by omega)
  have hwr:W .u64 (u-u/(Y/4294967296)*(Y/4294967296))=u-u/(Y/4294967296)*(Y/4294967296):=bw (by omega) (by omega)
  rw[ax (show(0:Int)≤s by omega),ax (show(0:Int)≤32 by omega),ax (show(0:Int)≤64-(s:Int)by omega),yP,yP,hmy,WE,b9 (show Y/4294967296≠0 by omega),hq,hwq,hwm,hwr]
  simp only[cond_false]
  rw[JM N hu0 (by omega) 3 N _ _ g1 g2 (by omega) (by omega)]
  have d1:=g1.digit hu0
  clear hq hwq hwm hwr g1 g2 g3 g4
  obtain⟨q1,hq1⟩: ∃q1,q1=(u*4294967296+v/4294967296)/Y:=⟨_,rfl⟩
  have m1:=Int.mul_ediv_add_emod (u*4294967296+v/4294967296) Y
  have m2:=Int.emod_lt_of_pos (u*4294967296+v/4294967296) (show 0<Y by omega)
  have m3:=Int.emod_nonneg (u*4294967296+v/4294967296) (show Y≠0 by omega)
  rw[←hq1]at d1 m1 ⊢
  obtain⟨r1,Nv⟩: ∃r1,r1=(u*4294967296+v/4294967296)%Y:=⟨_,rfl⟩
  rw[←Nv]at m1 m2 m3
  rw[Int.mul_comm]at m1
  unfold cL.Mj cL.H5
  have ajW:W .u64 (W .u64 (W .u64 (u*4294967296)+v/4294967296)-W .u64 (q1*Y))=r1:=by
   simp only[mA]
   generalize q1*Y=z at*
   omega
  simp only[ajW]
  obtain⟨g1,g2,g3,g4⟩:=kC.first (Y:=Y) (yn1:=Y/4294967296) (yn0:=Y%4294967296) (un32:=r1) (un1:=v%4294967296) (by omega) (by omega) (by omega) (by omega) (by omega) (by omega) (by omega) m3 m2
  have hq:quo r1 (Y/4294967296)=r1/(Y/4294967296):=by rw[B3,Int.tdiv_eq_ediv_of_nonneg m3]
  have hwq:W .u64 (r1/(Y/4294967296))=r1/(Y/4294967296):=bw g1.q0 (by have:=g1.q1;omega)
  have hwm:W .u64 (r1/(Y/4294967296)*(Y/4294967296))=r1/(Y/4294967296)*(Y/4294967296):=bw g3 (by omega)
  have hwr:W .u64 (r1-r1/(Y/4294967296)*(Y/4294967296))=r1-r1/(Y/4294967296)*(Y/4294967296):=bw (by omega) (by omega)
  rw[b9 (show Y/4294967296≠0 by omega),hq,hwq,hwm,hwr,cond_false,JN N (b:=0) m3 (by omega) 3 N _ _ g1 g2 (by omega) (by omega)]
  have d0:=g1.digit m3
  clear hq hwq hwm hwr g1 g2 g3 g4
  obtain⟨q0,KJ⟩: ∃q0,q0=(r1*4294967296+v%4294967296)/Y:=⟨_,rfl⟩
  have n1:=Int.mul_ediv_add_emod (r1*4294967296+v%4294967296) Y
  have n2:=Int.emod_lt_of_pos (r1*4294967296+v%4294967296) (show 0<Y by omega)
  have n3:=Int.emod_nonneg (r1*4294967296+v%4294967296) (show Y≠0 by omega)
  rw[←KJ]at d0 n1 ⊢
  obtain⟨r0,X0⟩: ∃r0,r0=(r1*4294967296+v%4294967296)%Y:=⟨_,rfl⟩
  rw[←X0]at n1 n2 n3
  rw[Int.mul_comm]at n1
  unfold cL.WN cL.YG
  have ajX:W .u64 (W .u64 (W .u64 (r1*4294967296)+v%4294967296)-W .u64 (q0*Y))=r0:=by
   simp only[mA]
   generalize q0*Y=z at*
   omega
  rw[ax (show(0:Int)≤s by omega),cond_false,ajX,bw (x:=q1*4294967296) (by omega) (by omega),bw (x:=q1*4294967296+q0) (by omega) (by omega),rk (by omega) (by omega),Int.toNat_natCast,←hp]
  obtain⟨V,hV⟩: ∃V,V=hi*18446744073709551616+lo:=⟨_,rfl⟩
  obtain⟨Q,hQ⟩: ∃Q,Q=q1*4294967296+q0:=⟨_,rfl⟩
  rw[←hV]at hU ⊢
  rw[←hQ]
  have hQY:Q*Y=q1*Y*4294967296+q0*Y:=by rw[hQ,Int.add_mul,Int.mul_assoc,Int.mul_comm 4294967296 Y,←Int.mul_assoc]
  have arj:V*p=Q*Y+r0:=by rw[hU,hQY];generalize q1*Y=z1 at*;generalize q0*Y=z0 at*;omega
  have ad4:r0=(V-Q*y)*p:=by rw[Int.sub_mul,Int.mul_assoc,←hY];omega
  have hd0:0≤V-Q*y:=by
   by_cases h:V-Q*y<0
   ·have:=Int.mul_neg_of_neg_of_pos h Mh;omega
   ·omega
  have hd1:V-Q*y<y:=by
   by_cases h:V-Q*y<y
   ·exact h
   ·have:=Int.mul_le_mul_of_nonneg_right (show y≤V-Q*y by omega) (Int.le_of_lt Mh);rw[←ad4,←hY]at this;omega
  have hVe:V=(V-Q*y)+y*Q:=by rw[Int.mul_comm y Q];omega
  have e1:V/y=Q:=by
   rw[hVe,Int.add_mul_ediv_left _ _ (by omega),Int.ediv_eq_zero_of_lt hd0 hd1];omega
  have e2:V%y=V-Q*y:=by
   have:=Int.mul_ediv_add_emod V y
   rw[e1,Int.mul_comm]at this;omega
  rw[e1,e2,ad4,Int.mul_ediv_cancel _ (by omega)]
end VM
end
section
namespace VM
open Go VM.F
def bO:List Int→Int
 |[]=>0
 |d::r=>d+4294967296*bO r
def VD(l:List Int):Prop:= ∀d∈l,0≤d∧d<4294967296
def hZ(n:Nat):List Int:=if n=0 then []else((n%4294967296:Nat):Int)::hZ (n/4294967296)
termination_by n
decreasing_by omega
theorem ga:hZ 0=[]:=by rw[hZ];rfl
theorem rl{n:Nat}(h:n≠0):hZ n=((n%4294967296:Nat):Int)::hZ (n/4294967296):=by rw[hZ];simp[h]
theorem VD.nil:VD []:=fun d h=>by cases h
theorem VD.cons{d:Int}{l:List Int}(h0:0≤d)(h1:d<4294967296)(h:VD l):VD (d::l):=fun x hx=>by
 rcases List.mem_cons.1 hx with rfl|hx
 ·exact⟨h0,h1⟩
 ·exact h x hx
theorem VD.tail{d:Int}{l:List Int}(h:VD (d::l)):VD l:=fun x hx=>h x (List.mem_cons_of_mem _ hx)
theorem VD.drop{l:List Int}(h:VD l)(n:Nat):VD (l.drop n):=fun x hx=>h x (List.mem_of_mem_drop hx)
theorem VD.take{l:List Int}(h:VD l)(n:Nat):VD (l.take n):=fun x hx=>h x (List.mem_of_mem_take hx)
theorem VD.getD{l:List Int}(h:VD l)(n:Nat):0≤l.getD n 0∧l.getD n 0<4294967296:=by
 rw[List.getD_eq_getElem?_getD]
 cases hn:l[n]? with
 |none=>exact⟨Int.le_refl _,by decide⟩
 |some x=>exact h x (List.mem_of_getElem? hn)
theorem VD.set{l:List Int}(h:VD l)(n:Nat){x:Int}(h0:0≤x)(h1:x<4294967296):VD (l.set n x):=fun y hy=>by
 rcases List.mem_or_eq_of_mem_set hy with hy|rfl
 ·exact h y hy
 ·exact⟨h0,h1⟩
theorem VD.WO(n:Nat):VD (List.replicate n 0):=fun x hx=>by rw[List.eq_of_mem_replicate hx];exact⟨Int.le_refl _,by decide⟩
theorem gb: ∀{l:List Int},VD l→0≤bO l
 |[],_=>Int.le_refl _
 |d::r,h=>by
  have:=gb h.tail
  have:=(h d (List.mem_cons_self ..)).1
  simp only[bO];omega
theorem eu(n:Nat):bO (hZ n)=n:=by
 induction n using Nat.strongRecOn with
 |_ n ih=>
  by_cases h:n=0
  ·subst h;rw[ga];rfl
  ·rw[rl h,bO,ih _ (by omega)];omega
theorem gd(n:Nat):VD (hZ n):=by
 induction n using Nat.strongRecOn with
 |_ n ih=>
  by_cases h:n=0
  ·subst h;rw[ga];exact VD.nil
  ·rw[rl h];exact VD.cons (by omega) (by omega) (ih _ (by omega))
theorem tO{n:Nat}:hZ n=[]↔n=0:=by
 constructor
 ·intro h
  by_cases hn:n=0
  ·exact hn
  ·rw[rl hn]at h;cases h
 ·rintro rfl;exact ga
theorem rm(k:Nat): ∀n,n<4294967296^k→(hZ n).length≤k:=by
 induction k with
 |zero=>
  intro n h;have:n=0:=by simpa using h
  subst this;rw[ga];simp
 |succ k ih=>
  intro n h
  by_cases hn:n=0
  ·subst hn;rw[ga];simp
  ·rw[rl hn,List.length_cons]
   have:=ih (n/4294967296) (by rw[Nat.div_lt_iff_lt_mul (by omega)];rw[Nat.pow_succ]at h;exact h)
   omega
theorem CE(k:Nat): ∀n,(hZ n).length≤k→n<4294967296^k:=by
 induction k with
 |zero=>
  intro n h
  have:hZ n=[]:=List.eq_nil_of_length_eq_zero (by omega)
  rw[tO]at this;subst this;decide
 |succ k ih=>
  intro n h
  by_cases hn:n=0
  ·subst hn;exact Nat.pow_pos (by decide)
  ·rw[rl hn,List.length_cons]at h
   have:=ih (n/4294967296) (by omega)
   rw[Nat.div_lt_iff_lt_mul (by omega)]at this
   rw[Nat.pow_succ];exact this
def strip:List Int→List Int
 |[]=>[]
 |d::r=>if strip r=[]∧d=0 then []else d::strip r
theorem ES: ∀{l:List Int},VD l→strip l=hZ (bO l).toNat
 |[],_=>by rw[show(bO []).toNat=0 from rfl,ga];rfl
 |d::r,h=>by
  have ih:=ES h.tail
  have h0:=gb h.tail
  obtain⟨h1,h2⟩:=h d (List.mem_cons_self ..)
  simp only[strip,bO,ih,tO]
  split
  ·rename_i hc
   obtain⟨hc,rfl⟩:=hc
   have:bO r=0:=by omega
   rw[this];exact ga.symm
  ·rename_i hc
   have g7:(d+4294967296*bO r).toNat≠0:=fun he=>hc ⟨by omega,by omega⟩
   rw[rl g7]
   congr 1
   ·omega
   ·congr 1;omega
theorem yR: ∀(l:List Int) (x:Int),strip (l++[x])=if x=0 then strip l else l++[x]
 |[],x=>by simp[strip]
 |d::r,x=>by
  simp only[List.cons_append,strip,yR r x]
  split
  ·rfl
  ·simp
theorem dD(l:List Int){k:Nat}(h:k<l.length):l.take (k+1)=l.take k++[l.getD k 0]:=by
 rw[List.take_succ_eq_append_getElem h,List.getD_eq_getElem?_getD,List.getElem?_eq_getElem h];rfl
theorem Bf(N:Nat)(l:List Int)(hl:l.length<68719476736): ∀(k n:Nat),k≤l.length→k<n→jW.l2 N n l (k:Int)=some (strip (l.take k))
 |0,n+1,_,_=>by
  unfold jW.l2 jW.ec
  simp (disch:=omega) only[aD,ax,cv,cn,ch,b9,aF,a6,bp,bY,an,bw,cond_true,cond_false,Bool.not_true,Bool.not_false,Option.bind_some,Int.toNat_natCast,Int.toNat_zero,aa,List.length_append,List.length_singleton,List.length_set,List.length_replicate,List.length_cons,List.length_nil]
  simp[strip]
 |k+1,n+1,hk,hn=>by
  unfold jW.l2 jW.ec
  have e:((k+1:Nat):Int)-1=(k:Int):=by omega
  simp (disch:=omega) only[aD,ax,cv,cn,ch,b9,aF,a6,bp,bY,an,bw,cond_true,cond_false,Bool.not_true,Bool.not_false,Option.bind_some,Int.toNat_natCast,Int.toNat_zero,aa,List.length_append,List.length_singleton,List.length_set,List.length_replicate,List.length_cons,List.length_nil,e]
  have ih:=Bf N l hl k n (by omega) (by omega)
  rw[dD l (by omega),yR]
  by_cases h:l.getD k 0=0
  ·rw[ch h,cond_true,ih,if_pos h]
  ·rw[b9 h,cond_false,if_neg h]
   simp only[Int.toNat_zero,List.drop_zero]
theorem CF(N:Nat){l:List Int}(h:VD l)(hN:l.length<N)(hl:l.length<68719476736):jW N l=some (hZ (bO l).toNat):=by
 unfold jW jW.b
 rw[Bf N l hl l.length N (Nat.le_refl _) hN,List.take_length,ES h]
def cc(v:Int):au:=(decide (v<0),(hZ v.natAbs,()))
theorem nK(N:Nat)(neg:Bool){l:List Int}(h:VD l)(hN:l.length<N)(hl:l.length<68719476736):NB N neg l=some (cc (if neg then-bO l else bO l)):=by
 unfold NB
 rw[CF N h hN hl,Option.bind_some]
 have h0:=gb h
 cases neg
 ·simp only[cond_false,cc,Bool.false_eq_true,if_false]
  rw[decide_eq_false (by omega)]
  congr 4;omega
 ·simp only[cond_true,cc,if_true]
  have e:(-bO l).natAbs=(bO l).toNat:=by omega
  rw[e]
  congr 2
  by_cases hz:bO l=0
  ·rw[hz,Int.toNat_zero,ga,ax (by simp),decide_eq_false (by omega)]
  ·have:0<(hZ (bO l).toNat).length:=by
    apply List.length_pos_iff.2
    intro hd;rw[tO]at hd;omega
   rw[aD (by omega),decide_eq_true (by omega)]
theorem size_eq(N:Nat)(hN:1000≤N){u:Int}(h0:0≤u)(h1:u<18446744073709551616):F67 N u=some (hZ u.toNat):=by
 unfold F67
 rw[fZ h0 h1,yP]
 have hv:VD [u%4294967296,u/4294967296]:=VD.cons (by omega) (by omega) (VD.cons (by omega) (by omega) VD.nil)
 simp (disch:=omega) only[aD,ax,cv,cn,ch,b9,aF,a6,bp,bY,an,bw,cond_true,cond_false,Bool.not_true,Bool.not_false,Option.bind_some,Int.toNat_natCast,Int.toNat_zero,aa,List.length_append,List.length_singleton,List.length_set,List.length_replicate,List.length_cons,List.length_nil,CF N hv (by simp;omega) (by simp)]
 congr 2
 simp only[bO];omega
theorem fE(N:Nat)(hN:1000≤N){x:Int}(h0: -9223372036854775808≤x)(h1:x<9223372036854775808):gf N x=some (cc x):=by
 unfold gf
 have hd: ∀n:Nat,n<18446744073709551616→(hZ n).length≤2:=fun n h=>rm 2 n (by simpa using h)
 by_cases h:x<0
 ·have e:W .u64 (0-W .u64 x)= -x:=by rw[mA,mA];omega
  simp only[aD h,cond_true,e,size_eq N hN (show 0≤ -x by omega) (by omega),Option.bind_some]
  have:=hd (-x).toNat (by omega)
  rw[nK N true (gd _) (by omega) (by omega),eu,if_pos rfl,show-(((-x).toNat:Nat):Int)=x from by omega];rfl
 ·have e:W .u64 x=x:=bw (by omega) (by omega)
  simp only[ax (show 0≤x by omega),cond_false,e,size_eq N hN (show 0≤x by omega) (by omega),Option.bind_some]
  have:=hd x.toNat (by omega)
  rw[nK N false (gd _) (by omega) (by omega),eu,if_neg Bool.false_ne_true,Int.toNat_of_nonneg (by omega)];rfl
theorem qx(N:Nat)(l:List Int)(i:Nat):QS N l (i:Int)=some (l.getD i 0):=by
 unfold QS
 by_cases h:i<l.length
 ·simp (disch:=omega) only[aD,ax,cv,cn,ch,b9,aF,a6,bp,bY,an,bw,cond_true,cond_false,Bool.not_true,Bool.not_false,Option.bind_some,Int.toNat_natCast,Int.toNat_zero,aa,List.length_append,List.length_singleton,List.length_set,List.length_replicate,List.length_cons,List.length_nil]
 ·simp (disch:=omega) only[aD,ax,cv,cn,ch,b9,aF,a6,bp,bY,an,bw,cond_true,cond_false,Bool.not_true,Bool.not_false,Option.bind_some,Int.toNat_natCast,Int.toNat_zero,aa,List.length_append,List.length_singleton,List.length_set,List.length_replicate,List.length_cons,List.length_nil]
  rw[List.getD_eq_getElem?_getD,List.getElem?_eq_none (by omega)];rfl
theorem gA(l:List Int)(i:Nat):bO (l.drop i)=l.getD i 0+4294967296*bO (l.drop (i+1)):=by
 by_cases h:i<l.length
 ·rw[List.drop_eq_getElem_cons h,bO,List.getD_eq_getElem?_getD,List.getElem?_eq_getElem h];rfl
 ·rw[List.drop_of_length_le (by omega),List.drop_of_length_le (by omega),List.getD_eq_getElem?_getD,List.getElem?_eq_none (by omega)];rfl
theorem ET(N:Nat){a b:List Int}(ha:VD a)(hb:VD b)(sI:a.length≤1000000)(Hs:b.length≤1000000): ∀(m n i:Nat) (out:List Int) (c:Int),a.length+b.length+2-i≤m→m<n→out.length=i→i≤a.length+b.length+1→0≤c→c≤1→(a.length≤i→b.length≤i→i=max a.length b.length∨c=0)→
  ∃r,pL.l4 N n a b out c (i:Int)=some (out++r)∧VD r∧bO r=bO (a.drop i)+bO (b.drop i)+c∧r.length≤m
 |m,0,i,out,c,_,hn,_,_,_,_,_=>by omega
 |m,n+1,i,out,c,hm,hn,ho,hi,Md,Cn,hz=>by
  unfold pL.l4 pL.cj
  by_cases EU:a.length≤i∧b.length≤i∧c=0
  ·obtain⟨h1,h2,rfl⟩:=EU
   simp (disch:=omega) only[aD,ax,cv,cn,ch,b9,aF,a6,bp,bY,an,bw,cond_true,cond_false,Bool.not_true,Bool.not_false,Option.bind_some,Int.toNat_natCast,Int.toNat_zero,aa,List.length_append,List.length_singleton,List.length_set,List.length_replicate,List.length_cons,List.length_nil]
   exact⟨[],by simp,VD.nil,by rw[List.drop_of_length_le h1,List.drop_of_length_le h2];rfl,Nat.zero_le _⟩
  ·obtain⟨ga0,ga1⟩:=ha.getD i
   obtain⟨gb0,gb1⟩:=hb.getD i
   have step: ∃r,pL.j6 N (pL.l4 N n) a b out c (i:Int)=some (out++r)∧VD r∧bO r=bO (a.drop i)+bO (b.drop i)+c∧r.length≤m:=by
    unfold pL.j6 pL.Mk
    have Ai:i≤a.length+b.length:=by
     by_cases h1:a.length≤i∧b.length≤i
     ·rcases hz h1.1 h1.2 with h|h
      ·omega
      ·exact absurd ⟨h1.1,h1.2,h⟩ EU
     ·omega
    simp only[qx,Option.bind_some]
    generalize hga:a.getD i 0=x at*
    generalize hgb:b.getD i 0=y at*
    rw[bw (x:=x+y) (by omega) (by omega),bw (x:=c+(x+y)) (by omega) (by omega),fZ (by omega) (by omega),yP]
    simp (disch:=omega) only[aD,ax,cv,cn,ch,b9,aF,a6,bp,bY,an,bw,cond_true,cond_false,Bool.not_true,Bool.not_false,Option.bind_some,Int.toNat_natCast,Int.toNat_zero,aa,List.length_append,List.length_singleton,List.length_set,List.length_replicate,List.length_cons,List.length_nil]
    obtain⟨r,hr,hv,hs,HH⟩:=ET N ha hb sI Hs (m-1) n (i+1) (out++[(c+(x+y))%4294967296]) ((c+(x+y))/4294967296) (by omega) (by omega) (by simp[ho]) (by omega) (by omega) (by omega) (fun h1 h2=>by
     by_cases h3:a.length≤i∧b.length≤i
     ·right
      rw[←hga,←hgb,List.getD_eq_getElem?_getD,List.getElem?_eq_none h3.1,List.getD_eq_getElem?_getD,List.getElem?_eq_none h3.2]
      simp only[Option.getD_none];omega
     ·left;omega)
    refine⟨(c+(x+y))%4294967296::r,by rw[hr];simp,VD.cons (by omega) (by omega) hv,?_,by rw[List.length_cons];omega⟩
    rw[bO,hs,gA a i,gA b i,hga,hgb];omega
   by_cases h1:i<a.length
   ·simp (disch:=omega) only[aD,cond_true];exact step
   ·by_cases h2:i<b.length
    ·simp (disch:=omega) only[aD,ax,cond_true,cond_false];exact step
    ·have:0<c:=by omega
     simp (disch:=omega) only[aD,ax,cond_true,cond_false];exact step
theorem JO: ∀{l:List Int},VD l→bO l<4294967296^l.length
 |[],_=>by simp[bO]
 |d::r,h=>by
  have ih:=JO h.tail
  obtain⟨h1,h2⟩:=h d (List.mem_cons_self ..)
  rw[bO,List.length_cons,Int.pow_succ]
  generalize (4294967296:Int)^r.length=p at*
  omega
theorem EV(N:Nat)(hN:4000000≤N){a b:List Int}(ha:VD a)(hb:VD b)(sI:a.length≤1000000)(Hs:b.length≤1000000): ∃r,pL N a b=some r∧VD r∧bO r=bO a+bO b∧r.length≤2000002:=by
 unfold pL pL.b
 obtain⟨r,hr,hv,hs,hl⟩:=ET N ha hb sI Hs (a.length+b.length+2) N 0 [] 0 (by omega) (by omega) rfl (by omega) (by omega) (by omega) (fun _ _=> .inr rfl)
 exact⟨r,hr,hv,by simpa using hs,by omega⟩
theorem yS(N:Nat){a b:List Int}(ha:VD a)(hb:VD b)(sI:a.length≤1000000): ∀(m n i:Nat) (out:List Int) (c:Int),a.length-i≤m→m<n→out.length=i→i≤a.length→0≤c→c≤1→0≤bO (a.drop i)-bO (b.drop i)-c→
  ∃r,xO.l4 N n a b out c (i:Int)=some (out++r)∧VD r∧bO r=bO (a.drop i)-bO (b.drop i)-c∧r.length≤m
 |m,0,i,out,c,_,hn,_,_,_,_,_=>by omega
 |m,n+1,i,out,c,hm,hn,ho,hi,Md,Cn,hz=>by
  unfold xO.l4 xO.cj
  by_cases h1:i<a.length
  ·obtain⟨ga0,ga1⟩:=ha.getD i
   obtain⟨gb0,gb1⟩:=hb.getD i
   rw[gA a i,gA b i]at*
   simp only[qx,Option.bind_some,Int.toNat_natCast]
   generalize hga:a.getD i 0=x at*
   generalize hgb:b.getD i 0=y at*
   rw[bw (x:=y+c) (by omega) (by omega),bw (x:=x+4294967296) (by omega) (by omega)]
   by_cases dz:x<y+c
   ·rw[bw (x:=x+4294967296-(y+c)) (by omega) (by omega)]
    simp (disch:=omega) only[aD,ax,cv,cn,ch,b9,aF,a6,bp,bY,an,bw,cond_true,cond_false,Bool.not_true,Bool.not_false,Option.bind_some,Int.toNat_natCast,Int.toNat_zero,aa,List.length_append,List.length_singleton,List.length_set,List.length_replicate,List.length_cons,List.length_nil,hga,hgb]
    obtain⟨r,hr,hv,hs,HH⟩:=yS N ha hb sI (m-1) n (i+1) (out++[x+4294967296-(y+c)]) 1 (by omega) (by omega) (by simp[ho]) (by omega) (by omega) (by omega) (by omega)
    refine⟨(x+4294967296-(y+c))::r,by rw[hr];simp,VD.cons (by omega) (by omega) hv,by rw[bO,hs];omega,by rw[List.length_cons];omega⟩
   ·rw[bw (x:=x-(y+c)) (by omega) (by omega)]
    simp (disch:=omega) only[aD,ax,cv,cn,ch,b9,aF,a6,bp,bY,an,bw,cond_true,cond_false,Bool.not_true,Bool.not_false,Option.bind_some,Int.toNat_natCast,Int.toNat_zero,aa,List.length_append,List.length_singleton,List.length_set,List.length_replicate,List.length_cons,List.length_nil,hga,hgb]
    obtain⟨r,hr,hv,hs,HH⟩:=yS N ha hb sI (m-1) n (i+1) (out++[x-(y+c)]) 0 (by omega) (by omega) (by simp[ho]) (by omega) (by omega) (by omega) (by omega)
    refine⟨(x-(y+c))::r,by rw[hr];simp,VD.cons (by omega) (by omega) hv,by rw[bO,hs];omega,by rw[List.length_cons];omega⟩
  ·simp (disch:=omega) only[aD,ax,cv,cn,ch,b9,aF,a6,bp,bY,an,bw,cond_true,cond_false,Bool.not_true,Bool.not_false,Option.bind_some,Int.toNat_natCast,Int.toNat_zero,aa,List.length_append,List.length_singleton,List.length_set,List.length_replicate,List.length_cons,List.length_nil]
   have h0:=gb (hb.drop i)
   rw[List.drop_of_length_le (l:=a) (by omega)]at hz ⊢
   simp only[bO]at hz ⊢
   exact⟨[],by simp,VD.nil,by simp only[bO];omega,Nat.zero_le _⟩
theorem wx(N:Nat)(hN:4000000≤N){a b:List Int}(ha:VD a)(hb:VD b)(sI:a.length≤1000000)(h:bO b≤bO a): ∃r,xO N a b=some r∧VD r∧bO r=bO a-bO b∧r.length≤1000000:=by
 unfold xO xO.b
 obtain⟨r,hr,hv,hs,hl⟩:=yS N ha hb sI a.length N 0 [] 0 (by omega) (by omega) rfl (by omega) (by omega) (by omega) (by simp;omega)
 exact⟨r,hr,hv,by simpa using hs,by omega⟩
theorem lX: ∀(l:List Int) (x:Int),bO (l++[x])=bO l+4294967296^l.length*x
 |[],x=>by simp[bO]
 |d::r,x=>by
  rw[List.cons_append,bO,lX r x,bO,List.length_cons,Int.pow_succ,Int.mul_comm _ 4294967296,Int.mul_assoc,Int.mul_add];omega
theorem EW{a b:List Int}(ha:VD a)(hb:VD b){k:Nat}(h1:k<a.length)(h2:k<b.length)(dz:a.getD k 0<b.getD k 0):bO (a.take (k+1))<bO (b.take (k+1)):=by
 rw[dD a h1,dD b h2,lX,lX]
 have l1:(a.take k).length=k:=by rw[List.length_take];omega
 have l2:(b.take k).length=k:=by rw[List.length_take];omega
 have v1:=JO (ha.take k)
 have v2:=gb (hb.take k)
 rw[l1]at*
 rw[l2]
 generalize (4294967296:Int)^k=p at*
 have hp:0<p:=by have:=gb (ha.take k);omega
 have:=Int.mul_le_mul_of_nonneg_left (show a.getD k 0+1≤b.getD k 0 by omega) (Int.le_of_lt hp)
 rw[Int.mul_add,Int.mul_one]at this
 omega
def rn(x:Int):Int:=if x<0 then-1 else if 0<x then 1 else 0
theorem EX(N:Nat){a b:List Int}(ha:VD a)(hb:VD b)(hl:a.length=b.length)(sI:a.length≤1000000): ∀(k n:Nat),k≤a.length→k<n→xe.l6 N n a b ((k:Int)-1)=some (rn (bO (a.take k)-bO (b.take k)))
 |k,0,_,hn=>by omega
 |0,n+1,_,_=>by
  unfold xe.l6 xe.oI
  simp (disch:=omega) only[aD,ax,cv,cn,ch,b9,aF,a6,bp,bY,an,bw,cond_true,cond_false,Bool.not_true,Bool.not_false,Option.bind_some,Int.toNat_natCast,Int.toNat_zero,aa,List.length_append,List.length_singleton,List.length_set,List.length_replicate,List.length_cons,List.length_nil]
  simp[rn,bO]
 |k+1,n+1,hk,hn=>by
  unfold xe.l6 xe.oI
  have e:((k+1:Nat):Int)-1=(k:Int):=by omega
  rw[e]
  simp (disch:=omega) only[aD,ax,cv,cn,ch,b9,aF,a6,bp,bY,an,bw,cond_true,cond_false,Bool.not_true,Bool.not_false,Option.bind_some,Int.toNat_natCast,Int.toNat_zero,aa,List.length_append,List.length_singleton,List.length_set,List.length_replicate,List.length_cons,List.length_nil]
  by_cases h1:a.getD k 0<b.getD k 0
  ·rw[aD h1,cond_true]
   have:=EW ha hb (k:=k) (by omega) (by omega) h1
   rw[rn,if_pos (by omega)]
  ·rw[ax (by omega),cond_false]
   by_cases h2:b.getD k 0<a.getD k 0
   ·rw[aD h2,cond_true]
    have:=EW hb ha (k:=k) (by omega) (by omega) h2
    rw[rn,if_neg (by omega),if_pos (by omega)]
   ·rw[ax (by omega),cond_false,EX N ha hb hl sI k n (by omega) (by omega)]
    congr 2
    rw[dD a (by omega),dD b (by omega),lX,lX,show a.getD k 0=b.getD k 0 from by omega,List.length_take,List.length_take,hl]
    omega
theorem EY(N:Nat)(hN:4000000≤N)(m k:Nat)(hm:(hZ m).length≤1000000)(hk:(hZ k).length≤1000000):xe N (hZ m) (hZ k)=some (rn ((m:Int)-k)):=by
 unfold xe xe.b
 by_cases h:(hZ m).length=(hZ k).length
 ·simp (disch:=omega) only[aD,ax,cv,cn,ch,b9,aF,a6,bp,bY,an,bw,cond_true,cond_false,Bool.not_true,Bool.not_false,Option.bind_some,Int.toNat_natCast,Int.toNat_zero,aa,List.length_append,List.length_singleton,List.length_set,List.length_replicate,List.length_cons,List.length_nil]
  rw[EX N (gd m) (gd k) h hm (hZ m).length N (Nat.le_refl _) (by omega),List.take_length,h,List.take_length,eu,eu]
 ·rw[b9 (by omega),Bool.not_false,cond_true]
  by_cases dz:(hZ m).length<(hZ k).length
  ·rw[aD (by omega),cond_true]
   have h1:=CE ((hZ k).length-1) m (by omega)
   have h2: ¬(k<4294967296^((hZ k).length-1)):=fun h=>by have:=rm _ _ h;omega
   rw[rn,if_pos (by omega)]
  ·rw[ax (by omega),cond_false]
   have h1:=CE ((hZ m).length-1) k (by omega)
   have h2: ¬(m<4294967296^((hZ m).length-1)):=fun h=>by have:=rm _ _ h;omega
   rw[rn,if_neg (by omega),if_pos (by omega)]
end VM
end
section
namespace VM
open Go VM.F
def Fit(v:Int)(k:Nat):Prop:=v.natAbs<4294967296^k
theorem Fit.len{v:Int}{k:Nat}(h:Fit v k):(hZ v.natAbs).length≤k:=rm k _ h
theorem Fit.mono{v:Int}{j k:Nat}(h:Fit v j)(hjk:j≤k):Fit v k:=Nat.lt_of_lt_of_le h (Nat.pow_le_pow_right (by decide) hjk)
theorem Fit.neg{v:Int}{k:Nat}(h:Fit v k):Fit (-v) k:=by unfold Fit at*;rwa [Int.natAbs_neg]
theorem Fit.i64{v:Int}(h0: -9223372036854775808≤v)(h1:v<9223372036854775808):Fit v 2:=by
 unfold Fit
 rw[show(4294967296:Nat)^2=18446744073709551616 from by decide];omega
theorem Fit.add{u v:Int}{k:Nat}(hu:Fit u k)(hv:Fit v k):Fit (u+v) (k+1):=by
 unfold Fit at*
 rw[Nat.pow_succ]
 have:(u+v).natAbs≤u.natAbs+v.natAbs:=Int.natAbs_add_le u v
 generalize 4294967296^k=p at*
 omega
theorem Fit.mul{u v:Int}{j k:Nat}(hu:Fit u j)(hv:Fit v k):Fit (u*v) (j+k):=by
 unfold Fit at*
 rw[Int.natAbs_mul,Nat.pow_add]
 exact Nat.mul_lt_mul'' hu hv
theorem Fit.of_le{u v:Int}{k:Nat}(hv:Fit v k)(h:u.natAbs≤v.natAbs):Fit u k:=Nat.lt_of_le_of_lt h hv
theorem qy(a b:Bool):kV .bool a b=(a==b):=by simp[kV]
theorem fO(N:Nat)(hN:4000000≤N){u v:Int}(hu:Fit u 900000)(hv:Fit v 900000):tP N (cc u) (cc v)=some (cc (u+v)):=by
 have lu:=hu.len
 have lv:=hv.len
 unfold tP
 simp only[cc,qy]
 by_cases hs:decide (u<0)=decide (v<0)
 ·rw[hs,beq_self_eq_true,cond_true]
  obtain⟨r,hr,hvd,Cs,hl⟩:=EV N hN (gd u.natAbs) (gd v.natAbs) (by omega) (by omega)
  simp only[hr,Option.bind_some,nK N _ hvd (by omega) (by omega),Cs,eu]
  congr 1
  show cc _=cc _
  congr 1
  by_cases h:v<0
  ·have:u<0:=by simpa [h]using hs
   rw[if_pos (decide_eq_true h)];omega
  ·have: ¬u<0:=by simpa [h]using hs
   rw[if_neg (by simpa using h)];omega
 ·have hb:(decide (u<0)==decide (v<0))=false:=by simpa using hs
  rw[hb,cond_false,EY N hN _ _ (by omega) (by omega),Option.bind_some]
  by_cases hc:v.natAbs≤u.natAbs
  ·have h1:bR 0 (rn ((u.natAbs:Int)-v.natAbs))=true:=cv (by unfold rn;split<;>(try split)<;>omega)
   obtain⟨r,hr,hvd,Cs,hl⟩:=wx N hN (gd u.natAbs) (gd v.natAbs) (by omega) (by rw[eu,eu];omega)
   simp only[h1,cond_true,hr,Option.bind_some,nK N _ hvd (by omega) (by omega),Cs,eu]
   congr 1
   show cc _=cc _
   congr 1
   by_cases h:u<0
   ·have: ¬v<0:=fun hv=>hs (by simp[h,hv])
    rw[if_pos (decide_eq_true h)];omega
   ·have:v<0:=Classical.byContradiction fun hv=>hs (by simp[h,hv])
    rw[if_neg (by simpa using h)];omega
  ·have h1:bR 0 (rn ((u.natAbs:Int)-v.natAbs))=false:=cn (by unfold rn;rw[if_pos (by omega)];omega)
   obtain⟨r,hr,hvd,Cs,hl⟩:=wx N hN (gd v.natAbs) (gd u.natAbs) (by omega) (by rw[eu,eu];omega)
   simp only[h1,cond_false,hr,Option.bind_some,nK N _ hvd (by omega) (by omega),Cs,eu]
   congr 1
   show cc _=cc _
   congr 1
   by_cases h:v<0
   ·have: ¬u<0:=fun hu=>hs (by simp[h,hu])
    rw[if_pos (decide_eq_true h)];omega
   ·have:u<0:=Classical.byContradiction fun hu=>hs (by simp[h,hu])
    rw[if_neg (by simpa using h)];omega
theorem rp(N:Nat)(hN:4000000≤N){u:Int}(hu:Fit u 900000):Ml N (cc u)=some (cc (-u)):=by
 have lu:=hu.len
 unfold Ml
 simp only[cc]
 simp only[nK N _ (gd u.natAbs) (by omega) (by omega),Option.bind_some,eu]
 congr 1
 show cc _=cc _
 congr 1
 by_cases h:u<0
 ·rw[decide_eq_true h,Bool.not_true,if_neg Bool.false_ne_true];omega
 ·rw[decide_eq_false h,Bool.not_false,if_pos rfl];omega
theorem NC(N:Nat)(hN:4000000≤N){u:Int}(hu:Fit u 900000):ND N (cc u)=some (cc u.natAbs):=by
 have lu:=hu.len
 unfold ND
 simp only[cc]
 simp only[nK N _ (gd u.natAbs) (by omega) (by omega),Option.bind_some,eu,Bool.false_eq_true,if_false]
 rfl
theorem rq(N:Nat)(hN:4000000≤N){u v:Int}(hu:Fit u 900000)(hv:Fit v 900000):JP N (cc u) (cc v)=some (cc (u-v)):=by
 unfold JP
 simp only[rp N hN hv,Option.bind_some,fO N hN hu hv.neg,Int.sub_eq_add_neg]
theorem oX(N:Nat)(u:Int):JQ N (cc u)=some (rn u):=by
 unfold JQ
 simp only[cc]
 by_cases h:u=0
 ·subst h
  rw[show(0:Int).natAbs=0 from rfl,ga]
  simp (disch:=omega) only[aD,ax,cv,cn,ch,b9,aF,a6,bp,bY,an,bw,cond_true,cond_false,Bool.not_true,Bool.not_false,Option.bind_some,Int.toNat_natCast,Int.toNat_zero,aa,List.length_append,List.length_singleton,List.length_set,List.length_replicate,List.length_cons,List.length_nil]
  rfl
 ·have:0<(hZ u.natAbs).length:=by
   apply List.length_pos_iff.2
   intro hd;rw[tO]at hd;omega
  rw[b9 (by omega),cond_false]
  by_cases hn:u<0
  ·rw[decide_eq_true hn,cond_true,rn,if_pos hn]
  ·rw[decide_eq_false hn,cond_false,rn,if_neg hn,if_pos (by omega)]
theorem H6(N:Nat)(hN:4000000≤N){u v:Int}(hu:Fit u 900000)(hv:Fit v 900000):Hu N (cc u) (cc v)=some (rn (u-v)):=by
 unfold Hu
 simp only[rq N hN hu hv,Option.bind_some,oX]
theorem CG(l:List Int)(h: ∀x∈l,-9223372036854775808≤x∧x<9223372036854775808): -(9223372036854775808*l.length)≤l.sum∧l.sum≤9223372036854775808*l.length:=by
 induction l with
 |nil=>simp
 |cons x l ih=>
  have:=ih (fun y hy=>h y (List.mem_cons_of_mem _ hy))
  obtain⟨h1,h2⟩:=h x (List.mem_cons_self ..)
  rw[List.sum_cons,List.length_cons]
  omega
theorem tQ{v:Int}{n:Nat}(hn:n≤1000000)(h0: -(9223372036854775808*n)≤v)(h1:v≤9223372036854775808*n):Fit v 3:=by
 unfold Fit
 rw[show(4294967296:Nat)^3=79228162514264337593543950336 from by decide]
 omega
theorem mD{l:List Int}(h: ∀x∈l,-9223372036854775808≤x∧x<9223372036854775808)(i:Nat): -9223372036854775808≤l.getD i 0∧l.getD i 0<9223372036854775808:=by
 rw[List.getD_eq_getElem?_getD]
 cases hn:l[i]? with
 |none=>exact⟨by decide,by decide⟩
 |some x=>exact h x (List.mem_of_getElem? hn)
theorem dN(l:List Int){i:Nat}(h:i<l.length):(l.take (i+1)).sum=(l.take i).sum+l.getD i 0:=by
 rw[dD l h];simp
theorem tR(N:Nat)(hN:4000000≤N){l:List Int}(h: ∀x∈l,-9223372036854775808≤x∧x<9223372036854775808)(hl:l.length≤1000000): ∀(m n i:Nat) (z:au),l.length-i≤m→m<n→i≤l.length→
  kZ.l3 N n l z (cc (l.take i).sum) (i:Int)=some (cc l.sum)
 |m,0,i,z,_,hn,_=>by omega
 |m,n+1,i,z,hm,hn,hi=>by
  unfold kZ.l3 kZ.gZ
  by_cases h1:i<l.length
  ·obtain⟨g0,g1⟩:=mD h i
   have f1:=CG (l.take i) (fun x hx=>h x (List.mem_of_mem_take hx))
   rw[List.length_take,Nat.min_eq_left (by omega)]at f1
   have f2:Fit (l.take i).sum 900000:=(tQ (n:=i) (by omega) f1.1 f1.2).mono (by omega)
   have f3:Fit (l.getD i 0) 900000:=(Fit.i64 g0 g1).mono (by omega)
   simp (disch:=omega) only[aD,ax,cv,cn,ch,b9,aF,a6,bp,bY,an,bw,cond_true,cond_false,Bool.not_true,Bool.not_false,Option.bind_some,Int.toNat_natCast,Int.toNat_zero,aa,List.length_append,List.length_singleton,List.length_set,List.length_replicate,List.length_cons,List.length_nil,fE N (by omega) g0 g1,fO N hN f2 f3]
   rw[←dN l h1]
   exact tR N hN h hl (m-1) n (i+1) z (by omega) (by omega) (by omega)
  ·simp (disch:=omega) only[aD,ax,cv,cn,ch,b9,aF,a6,bp,bY,an,bw,cond_true,cond_false,Bool.not_true,Bool.not_false,Option.bind_some,Int.toNat_natCast,Int.toNat_zero,aa,List.length_append,List.length_singleton,List.length_set,List.length_replicate,List.length_cons,List.length_nil]
   rw[List.take_of_length_le (by omega)]
theorem gB:cc 0=(false,([],())):=by unfold cc;rw[show(0:Int).natAbs=0 from rfl,ga];rfl
theorem sL(N:Nat)(hN:4000000≤N){l:List Int}(h: ∀x∈l,-9223372036854775808≤x∧x<9223372036854775808)(hl:l.length≤1000000):kZ N l=some (cc l.sum):=by
 unfold kZ kZ.b
 have:=tR N hN h hl l.length N 0 (false,([],())) (by omega) (by omega) (by omega)
 rw[List.take_zero,List.sum_nil,gB]at this
 exact this
theorem NF{a b:Int}(ha:0≤a)(WL:a<4294967296)(hb:0≤b)(jD:b<4294967296):iV .or .u64 a (b*4294967296)=a+b*4294967296:=by
 rw[CD ha (by omega) (by omega) (by omega)]
 have h:=Nat.two_pow_add_eq_or_of_lt (i:=32) (b:=a.toNat) (by omega) b.toNat
 have e:(b*4294967296).toNat=2^32*b.toNat:=by omega
 rw[e,Nat.or_comm,←h];omega
theorem K9{a b:Int}(ha:0≤a)(WL:a<4294967296)(hb:0≤b)(jD:b<4294967296):iV .or .u64 (b*4294967296) a=a+b*4294967296:=by
 rw[CD (by omega) (by omega) ha (by omega)]
 have h:=Nat.two_pow_add_eq_or_of_lt (i:=32) (b:=a.toNat) (by omega) b.toNat
 have e:(b*4294967296).toNat=2^32*b.toNat:=by omega
 rw[e,←h];omega
theorem WQ{x:Int}(h0:0≤x):shl .u64 x 32=x*4294967296:=by rw[JK (by omega) (by omega)];rfl
def tT(v:Int):Int×Bool:=if-9223372036854775808≤v∧v<9223372036854775808 then(v,true)else(0,false)
theorem QT{n:Nat}(h:(hZ n).length≤2):(hZ n).getD 0 0+4294967296*(hZ n).getD 1 0=n:=by
 have h1:=gA (hZ n) 0
 have h2:=gA (hZ n) 1
 rw[List.drop_zero,eu]at h1
 rw[List.drop_of_length_le (l:=hZ n) (i:=1+1) h]at h2
 simp only[bO,Nat.zero_add]at h1 h2
 omega
theorem nV(N:Nat)(v:Int):qz N (cc v)=some (tT v):=by
 unfold qz
 simp only[cc]
 by_cases hl:2<(hZ v.natAbs).length
 ·rw[aD (by omega),cond_true,tT,if_neg]
  intro hh
  have:=rm 2 v.natAbs (by rw[show(4294967296:Nat)^2=18446744073709551616 from by decide];omega)
  omega
 ·have h2:=QT (n:=v.natAbs) (by omega)
  obtain⟨a0,a1⟩:=(gd v.natAbs).getD 0
  obtain⟨b0,b1⟩:=(gd v.natAbs).getD 1
  have e0:=qx N (hZ v.natAbs) 0
  have e1:=qx N (hZ v.natAbs) 1
  simp only[Int.natCast_zero,Int.natCast_one]at e0 e1
  rw[ax (by omega),cond_false,e0,e1]
  generalize (hZ v.natAbs).getD 0 0=a at*
  generalize (hZ v.natAbs).getD 1 0=b at*
  simp only[Option.bind_some]
  rw[ax (show(0:Int)≤32 by omega),cond_false,WQ b0,bw (x:=b*4294967296) (by omega) (by omega),NF a0 a1 b0 b1]
  have ev:a+b*4294967296=v.natAbs:=by omega
  rw[ev]
  by_cases hn:v<0
  ·rw[decide_eq_true hn,cond_true]
   by_cases CB:9223372036854775808<(v.natAbs:Int)
   ·rw[aD CB,cond_true,tT,if_neg (by omega)]
   ·rw[ax (by omega),cond_false,tT,if_pos (by omega),mA,gz]
    congr 2
    split<;>omega
  ·rw[decide_eq_false hn,cond_false]
   by_cases CB:9223372036854775807<(v.natAbs:Int)
   ·rw[aD CB,cond_true,tT,if_neg (by omega)]
   ·rw[ax (by omega),cond_false,tT,if_pos (by omega),an (by omega) (by omega)]
    congr 2;omega
end VM
end
section
namespace VM
open Go VM.F
theorem EZ: ∀(l:List Int) (k:Nat) (x:Int),k<l.length→bO (l.set k x)=bO l+4294967296^k*(x-l.getD k 0)
 |d::r,0,x,_=>by simp[bO];omega
 |d::r,k+1,x,h=>by
  have ih:=EZ r k x (by simpa using h)
  rw[List.set_cons_succ,bO,bO,ih,List.getD_cons_succ,Int.pow_succ,Int.mul_comm (4294967296^k) 4294967296,Int.mul_assoc,Int.mul_add];omega
theorem getD_set_ne(l:List Int){j k:Nat}(x:Int)(h:j≠k):(l.set j x).getD k 0=l.getD k 0:=by
 simp[List.getD_eq_getElem?_getD,List.getElem?_set_ne h]
theorem gg(l:List Int){k:Nat}(x:Int)(h:k<l.length):(l.set k x).getD k 0=x:=by
 simp[List.getD_eq_getElem?_getD,List.getElem?_set,h]
theorem oY(l:List Int){k:Nat}(h:l.length≤k):l.getD k 0=0:=by
 rw[List.getD_eq_getElem?_getD,List.getElem?_eq_none h];rfl
theorem wy(N:Nat)(K:au→au→au→List Int→Int→Option au){a b:List Int}(na nb:Bool)(z:au)(ha:VD a)(hb:VD b)(i:Nat)(hi:i<a.length)(sI:a.length≤100000)(Hs:b.length≤100000):
  ∀(m n j:Nat) (out:List Int) (c:Int),b.length+1-j≤m→m<n→VD out→out.length=a.length+b.length+1→0≤c→c<4294967296→(j≤b.length→ ∀k,i+b.length≤k→out.getD k 0=0)→(b.length<j→c=0∧j=b.length+1∧ ∀k,i+b.length+1≤k→out.getD k 0=0)→
  ∃sM,fR.l7 N K n (na,(a,())) (nb,(b,())) z out (i:Int) c (j:Int)=K (na,(a,())) (nb,(b,())) z sM ((i+1:Nat):Int)∧VD sM∧sM.length=out.length∧
   bO sM=bO out+4294967296^i*(4294967296^j*(a.getD i 0*bO (b.drop j)+c))∧ ∀k,i+1+b.length≤k→sM.getD k 0=0
 |m,0,j,out,c,_,hn,_,_,_,_,_,_=>by omega
 |m,n+1,j,out,c,hm,hn,ho,Ev,Md,Cn,hz,Ht=>by
  unfold fR.l7 fR.lC
  by_cases EU:b.length≤j∧c=0
  ·obtain⟨h1,rfl⟩:=EU
   simp (disch:=omega) only[aD,ax,cv,cn,ch,b9,aF,a6,bp,bY,an,bw,cond_true,cond_false,Bool.not_true,Bool.not_false,Option.bind_some,Int.toNat_natCast,Int.toNat_zero,aa,List.length_append,List.length_singleton,List.length_set,List.length_replicate,List.length_cons,List.length_nil]
   refine⟨out,rfl,ho,rfl,by rw[List.drop_of_length_le h1];simp[bO],fun k hk=> ?_⟩
   by_cases hj:j≤b.length
   ·exact hz hj k (by omega)
   ·exact(Ht (by omega)).2.2 k (by omega)
  ·have z8:j≤b.length:=by
    by_cases hj:j≤b.length
    ·exact hj
    ·exact absurd ⟨by omega,(Ht (by omega)).1⟩ EU
   obtain⟨ga0,ga1⟩:=ha.getD i
   obtain⟨gb0,gb1⟩:=hb.getD j
   obtain⟨go0,go1⟩:=ho.getD (i+j)
   have step: ∃sM,fR.j9 N K (fR.l7 N K n) (na,(a,())) (nb,(b,())) z out (i:Int) c (j:Int)=K (na,(a,())) (nb,(b,())) z sM ((i+1:Nat):Int)∧VD sM∧sM.length=out.length∧
     bO sM=bO out+4294967296^i*(4294967296^j*(a.getD i 0*bO (b.drop j)+c))∧ ∀k,i+1+b.length≤k→sM.getD k 0=0:=by
    unfold fR.j9 fR.H7
    have eij:(i:Int)+(j:Int)=((i+j:Nat):Int):=rfl
    have hp:=mul_lt (m:=4294967295) (n:=4294967295) ga0 gb0 (by omega) (by omega)
    simp only[qx,Option.bind_some,eij,Int.toNat_natCast]
    simp (disch:=omega) only[aD,ax,cv,cn,ch,b9,aF,a6,bp,bY,an,bw,cond_true,cond_false,Bool.not_true,Bool.not_false,Option.bind_some,Int.toNat_natCast,Int.toNat_zero,aa,List.length_append,List.length_singleton,List.length_set,List.length_replicate,List.length_cons,List.length_nil]
    generalize hx:out.getD (i+j) 0=x at*
    generalize ha':a.getD i 0=ai at*
    generalize dq:b.getD j 0=bj at*
    generalize hpe:ai*bj=p at*
    have hpz:b.length≤j→p=0∧x=0:=fun h=>by
     rw[oY b h]at dq
     refine⟨by rw[←hpe,←dq,Int.mul_zero],?_⟩
     rw[←hx];exact hz z8 _ (by omega)
    rw[fZ (by omega) (by omega),yP]
    have aj1:(out.set (i+j) ((c+(x+p))%4294967296)).length=a.length+b.length+1:=by rw[List.length_set];exact Ev
    obtain⟨sM,h1,h2,h3,h4,h5⟩:=wy N K na nb z ha hb i hi sI Hs (m-1) n (j+1) (out.set (i+j) ((c+(x+p))%4294967296)) ((c+(x+p))/4294967296) (by omega) (by omega) (ho.set _ (by omega) (by omega)) aj1 (by omega) (by omega)
     (fun h k hk=>by rw[getD_set_ne _ _ (by omega)];exact hz z8 k hk)
     (fun h=>by
      obtain⟨Mh,JA⟩:=hpz (by omega)
      refine⟨by omega,by omega,fun k hk=> ?_⟩
      rw[getD_set_ne _ _ (by omega)];exact hz z8 k (by omega))
    refine⟨sM,h1,h2,by rw[h3,List.length_set],?_,h5⟩
    rw[h4,EZ _ _ _ (by omega),hx,ha',gA b j,dq,Int.mul_add ai,hpe,Int.pow_add,Int.pow_succ]
    have e1:ai*(4294967296*bO (b.drop (j+1)))=4294967296*(ai*bO (b.drop (j+1))):=Int.mul_left_comm _ _ _
    rw[e1]
    generalize ai*bO (b.drop (j+1))=y
    generalize (4294967296:Int)^i=P
    generalize (4294967296:Int)^j=R
    rw[Int.mul_assoc R,Int.mul_assoc P,Int.add_assoc,←Int.mul_add,←Int.mul_add]
    congr 3
    omega
   by_cases h1:j<b.length
   ·simp (disch:=omega) only[aD,cond_true];exact step
   ·have:0<c:=by omega
    simp (disch:=omega) only[aD,ax,cond_true,cond_false];exact step
theorem wz(N:Nat)(hN:4000000≤N){a b:List Int}(na nb:Bool)(z:au)(ha:VD a)(hb:VD b)(sI:a.length≤100000)(Hs:b.length≤100000):
  ∀(m n i:Nat) (out:List Int),a.length-i≤m→m<n→i≤a.length→VD out→out.length=a.length+b.length+1→(∀k,i+b.length≤k→out.getD k 0=0)→bO out=bO (a.take i)*bO b→
  fR.l3 N n (na,(a,())) (nb,(b,())) z out (i:Int)=some (cc (if na=nb then bO a*bO b else-(bO a*bO b)))
 |m,0,i,out,_,hn,_,_,_,_,_=>by omega
 |m,n+1,i,out,hm,hn,hi,ho,Ev,hz,hv=>by
  unfold fR.l3 fR.gZ
  by_cases h1:i<a.length
  ·simp only
   rw[aD (by omega),cond_true]
   obtain⟨sM,e1,e2,e3,e4,e5⟩:=wy N (fR.l3 N n) na nb z ha hb i h1 sI Hs (b.length+1) N 0 out 0 (by omega) (by omega) ho Ev (by omega) (by omega) (fun _ k hk=>hz k hk) (fun h=>by omega)
   rw[show((0:Nat):Int)=0 from rfl]at e1
   rw[e1]
   refine wz N hN na nb z ha hb sI Hs (m-1) n (i+1) sM (by omega) (by omega) (by omega) e2 (by rw[e3];exact Ev) (fun k hk=>e5 k (by omega)) ?_
   rw[e4,hv,dD a h1,lX,List.length_take,Nat.min_eq_left (by omega),List.drop_zero,Int.pow_zero,Int.one_mul,Int.add_zero,Int.add_mul,Int.mul_assoc]
  ·simp only
   rw[ax (by omega),cond_false]
   simp only[nK N _ ho (by omega) (by omega),Option.bind_some]
   rw[hv,List.take_of_length_le (by omega),qy]
   congr 2
   cases na<;>cases nb<;>simp
theorem E0(N:Nat)(hN:4000000≤N){u v:Int}(hu:Fit u 90000)(hv:Fit v 90000):fR N (cc u) (cc v)=some (cc (u*v)):=by
 have lu:=hu.len
 have lv:=hv.len
 unfold fR fR.b
 simp only[cc]
 simp (disch:=omega) only[aD,ax,cv,cn,ch,b9,aF,a6,bp,bY,an,bw,cond_true,cond_false,Bool.not_true,Bool.not_false,Option.bind_some,Int.toNat_natCast,Int.toNat_zero,aa,List.length_append,List.length_singleton,List.length_set,List.length_replicate,List.length_cons,List.length_nil]
 have e:(((hZ u.natAbs).length:Int)+((hZ v.natAbs).length:Int)+1).toNat=(hZ u.natAbs).length+(hZ v.natAbs).length+1:=by omega
 have:=wz N hN (decide (u<0)) (decide (v<0)) (false,([],())) (gd u.natAbs) (gd v.natAbs) (by omega) (by omega) (hZ u.natAbs).length N 0 (List.replicate ((hZ u.natAbs).length+(hZ v.natAbs).length+1) 0) (by omega) (by omega) (by omega) (VD.WO _) (by simp)
  (fun k _=>by rw[List.getD_eq_getElem?_getD,List.getElem?_replicate];split<;>rfl) (by
   have: ∀n,bO (List.replicate n 0)=0:=fun n=>by
    induction n with
    |zero=>rfl
    |succ n ih=>rw[List.replicate_succ,bO,ih];rfl
   rw[this];simp[bO])
 rw[eu,eu]at this
 have e2:(((hZ u.natAbs).length+(hZ v.natAbs).length:Nat):Int)+1=(hZ u.natAbs).length+(hZ v.natAbs).length+1:=by omega
 first
 |(rw[e];refine this.trans ?_)
 |(refine(this).trans ?_)
 show some (cc _)=some (cc _)
 congr 2
 have key:(u.natAbs:Int)*v.natAbs=if decide (u<0)=decide (v<0)then u*v else-(u*v):=by
  by_cases h1:u<0<;>by_cases h2:v<0
  ·rw[if_pos (by simp[h1,h2]),show(u.natAbs:Int)= -u from by omega,show(v.natAbs:Int)= -v from by omega,Int.neg_mul_neg]
  ·rw[if_neg (by simp[h1,h2]),show(u.natAbs:Int)= -u from by omega,show(v.natAbs:Int)=v from by omega,Int.neg_mul]
  ·rw[if_neg (by simp[h1,h2]),show(u.natAbs:Int)=u from by omega,show(v.natAbs:Int)= -v from by omega,Int.mul_neg]
  ·rw[if_pos (by simp[h1,h2]),show(u.natAbs:Int)=u from by omega,show(v.natAbs:Int)=v from by omega]
 rw[key]
 split<;>simp
end VM
end
