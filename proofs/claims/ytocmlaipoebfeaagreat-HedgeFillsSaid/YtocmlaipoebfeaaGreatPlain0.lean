/- A part of the proof of HedgeFills of layer 22: what the functions compute, in plain words. -/
import Derived.Test.YtocmlaipoebfeaaGreatVm0
import GoSem.Claim
import Derived.Test.YtocmlaipoebfeaaGreatText
set_option linter.all false
section
namespace VM
open Go
theorem jm(x:Int):W .u64 x=x%18446744073709551616:=by rw[yi];simp[IntKind.wrap,IntKind.bits,IntKind.signed]
theorem bz{x:Int}(h0:0≤x)(h1:x<18446744073709551616):W .u64 x=x:=by rw[jm];omega
theorem dO(x:Int):W .i64 x=if 9223372036854775808≤x%18446744073709551616 then x%18446744073709551616-18446744073709551616 else x%18446744073709551616:=by
 rw[yi];simp[IntKind.wrap,IntKind.bits,IntKind.signed]
theorem al{x:Int}(h0: -9223372036854775808≤x)(h1:x<9223372036854775808):W .i64 x=x:=by
 rw[dO];split<;>omega
theorem ahF{x:Int}(h0:0≤x)(h1:x<256):W .u8 x=x:=by rw[yi];simp[IntKind.wrap,IntKind.bits,IntKind.signed];omega
theorem wf_u64{x:Int}:(Lit.int .u64 x).wf=true↔0≤x∧x≤18446744073709551615:=by simp[Lit.wf,IntKind.min,IntKind.max,IntKind.bits,IntKind.signed]
theorem aE{x y:Int}(h:x<y):aH x y=true:=by rw[pe];exact decide_eq_true h
theorem aA{x y:Int}(h:y≤x):aH x y=false:=by rw[pe];exact decide_eq_false (by omega)
theorem cS{x y:Int}(h:x≤y):bU x y=true:=by rw[jI];exact decide_eq_true h
theorem cM{x y:Int}(h:y<x):bU x y=false:=by rw[jI];exact decide_eq_false (by omega)
theorem cG{x y:Int}(h:x=y):ay x y=true:=by rw[fY];exact decide_eq_true h
theorem cA{x y:Int}(h:x≠y):ay x y=false:=by rw[fY];exact decide_eq_false h
theorem aG{i:Int}{n:Nat}(h0:0≤i)(h1:i<n):aL i n=true:=by rw[JV];exact decide_eq_true ⟨h0,h1⟩
theorem bo{n:Nat}(h:n<68719476736):small n=true:=by rw[zp];exact decide_eq_true (by simpa [uD]using h)
theorem bC{l c:Int}(h0:0≤l)(h1:l≤c)(h2:c<68719476736):fX l c=true:=by rw[Cm];exact decide_eq_true (by simp only[uD];omega)
theorem cw{l h m n:Int}(h0:0≤l)(h1:l≤h)(h2:h≤m)(h3:m≤n):gD l h m n=true:=by rw[uN];exact decide_eq_true ⟨h0,h1,h2,h3⟩
theorem ae(n:Nat):(n:Int)+1=((n+1:Nat):Int):=rfl
theorem oP(x:Int)(h0:0≤x)(h1:x<18446744073709551616):(BitVec.ofInt 64 x).toNat=x.toNat:=by
 rw[BitVec.toNat_ofInt];congr 1;omega
theorem Gu{x y:Int}(hx:0≤x)(QG:x<18446744073709551616)(hy:0≤y)(Ui:y<18446744073709551616):jx .and .u64 x y=((x.toNat&&& y.toNat:Nat):Int):=by
 rw[qa]
 have h:((BitVec.ofInt 64 x&&& BitVec.ofInt 64 y).toNat)=x.toNat&&& y.toNat:=by rw[BitVec.toNat_and,oP x hx QG,oP y hy Ui]
 show IntKind.u64.wrap (((BitVec.ofInt 64 x&&& BitVec.ofInt 64 y).toNat:Nat):Int)=_
 rw[h,←yi]
 have:x.toNat&&& y.toNat≤x.toNat:=Nat.and_le_left
 exact bz (by omega) (by omega)
theorem Eh{x y:Int}(hx:0≤x)(QG:x<18446744073709551616)(hy:0≤y)(Ui:y<18446744073709551616):jx .or .u64 x y=((x.toNat|||y.toNat:Nat):Int):=by
 rw[qa]
 have h:((BitVec.ofInt 64 x|||BitVec.ofInt 64 y).toNat)=x.toNat|||y.toNat:=by rw[BitVec.toNat_or,oP x hx QG,oP y hy Ui]
 show IntKind.u64.wrap (((BitVec.ofInt 64 x|||BitVec.ofInt 64 y).toNat:Nat):Int)=_
 rw[h,←yi]
 have:x.toNat|||y.toNat<2^64:=Nat.or_lt_two_pow (by omega) (by omega)
 exact bz (by omega) (by omega)
theorem gJ{x:Int}(h0:0≤x)(h1:x<18446744073709551616):jx .and .u64 x 4294967295=x%4294967296:=by
 rw[Gu h0 h1 (by omega) (by omega)]
 have:=Nat.and_two_pow_sub_one_eq_mod x.toNat 32
 rw[show((4294967295:Int).toNat)=2^32-1 from rfl,this]
 omega
theorem sP{x y:Int}(h0:0≤y)(h1:y≤64):shr .u64 x y=x/2^y.toNat:=by
 rw[JW]
 have:min y.toNat IntKind.u64.bits=y.toNat:=by simp[IntKind.bits];omega
 rw[this,Int.fdiv_eq_ediv_of_nonneg]
 exact_mod_cast Nat.zero_le _
theorem zY(x:Int):shr .u64 x 32=x/4294967296:=by rw[sP (by omega) (by omega)];rfl
theorem am9(x:Int):shr .u64 x 1=x/2:=by rw[sP (by omega) (by omega)];rfl
theorem qt{x:Int}(h0: -9223372036854775808≤x)(h1:x<9223372036854775808):shr .i64 x 63=if x<0 then-1 else 0:=by
 rw[JW]
 have:(2:Int)^(min (63:Int).toNat IntKind.i64.bits)=9223372036854775808:=by rfl
 rw[this,Int.fdiv_eq_ediv_of_nonneg _ (by omega)]
 split<;>omega
theorem Mk{x y:Int}(h0:0≤y)(h1:y≤64):shl .u64 x y=x*2^y.toNat:=by
 rw[PC]
 have:min y.toNat IntKind.u64.bits=y.toNat:=by simp[IntKind.bits];omega
 rw[this]
theorem mul_lt{a b m n:Int}(ha:0≤a)(hb:0≤b)(ham:a≤m)(hbn:b≤n):0≤a*b∧a*b≤m*n:=
 ⟨Int.mul_nonneg ha hb,Int.le_trans (Int.mul_le_mul_of_nonneg_right ham hb) (Int.mul_le_mul_of_nonneg_left hbn (by omega))⟩
end VM
end
section
namespace VM
open Go VM.F
theorem NT(a b:Int):a*b=(a/4294967296)*(b/4294967296)*18446744073709551616+((a/4294967296)*(b%4294967296)+(a%4294967296)*(b/4294967296))*4294967296+(a%4294967296)*(b%4294967296):=by
 have ha:a=(a/4294967296)*4294967296+a%4294967296:=by omega
 have hb:b=(b/4294967296)*4294967296+b%4294967296:=by omega
 generalize a/4294967296=a1 at*
 generalize a%4294967296=a0 at*
 generalize b/4294967296=b1 at*
 generalize b%4294967296=b0 at*
 subst ha;subst hb
 simp only[Int.add_mul,Int.mul_add]
 have e1:a1*4294967296*(b1*4294967296)=a1*b1*18446744073709551616:=by
  rw[Int.mul_assoc,Int.mul_left_comm 4294967296,←Int.mul_assoc];rfl
 have e2:a1*4294967296*b0=a1*b0*4294967296:=by rw[Int.mul_assoc,Int.mul_comm 4294967296,←Int.mul_assoc]
 have e3:a0*(b1*4294967296)=a0*b1*4294967296:=by rw[←Int.mul_assoc]
 rw[e1,e2,e3];omega
theorem zZ(N:Nat){a b:Int}(ha:0≤a)(ha1:a<18446744073709551616)(hb:0≤b)(ke:b<18446744073709551616):
  NU N a b=some (a*b/18446744073709551616,a*b%18446744073709551616):=by
 unfold NU
 have hm:=NT a b
 have h1:=mul_lt (m:=4294967295) (n:=4294967295) (show 0≤a/4294967296 by omega) (show 0≤b/4294967296 by omega) (by omega) (by omega)
 have h2:=mul_lt (m:=4294967295) (n:=4294967295) (show 0≤a/4294967296 by omega) (show 0≤b%4294967296 by omega) (by omega) (by omega)
 have h3:=mul_lt (m:=4294967295) (n:=4294967295) (show 0≤a%4294967296 by omega) (show 0≤b/4294967296 by omega) (by omega) (by omega)
 have h4:=mul_lt (m:=4294967295) (n:=4294967295) (show 0≤a%4294967296 by omega) (show 0≤b%4294967296 by omega) (by omega) (by omega)
 simp only[aA (show(0:Int)≤32 by omega),cond_false,gJ ha ha1,gJ hb ke,zY]
 generalize a/4294967296=a1 at*
 generalize a%4294967296=a0 at*
 generalize b/4294967296=b1 at*
 generalize b%4294967296=b0 at*
 generalize a*b=ab at*
 generalize a1*b1=p at*
 generalize a1*b0=q at*
 generalize a0*b1=r at*
 generalize a0*b0=s at*
 rw[bz (x:=q) (by omega) (by omega),bz (x:=s) (by omega) (by omega),bz (x:=r) (by omega) (by omega),bz (x:=p) (by omega) (by omega),bz (x:=q+s/4294967296) (by omega) (by omega),
  gJ (by omega) (by omega),bz (x:=(q+s/4294967296)%4294967296+r) (by omega) (by omega),bz (x:=p+(q+s/4294967296)/4294967296) (by omega) (by omega),bz (x:=p+(q+s/4294967296)/4294967296+_) (by omega) (by omega),jm]
 congr 2
 omega
end VM
end
section
namespace VM
open Go VM.F
theorem Ei(N:Nat){x:Int}(h0: -9223372036854775808≤x)(h1:x<9223372036854775808):F96 N x=some (x.natAbs:Int):=by
 unfold F96
 by_cases h:x<0
 ·rw[aE h,cond_true,jm,jm];congr 1;omega
 ·rw[aA (by omega),cond_false,jm];congr 1;omega
theorem pQ(N:Nat){x y c:Int}(hx:0≤x)(hy:0≤y)(hc:0≤c)(BS:c≤1):oC N x y c=some ((x+y+c)%18446744073709551616,(x+y+c)/18446744073709551616):=by
 unfold oC;rw[if_pos ⟨hx,hy,hc,BS⟩]
theorem iH(N:Nat){x y c:Int}(hx:0≤x)(QG:x<18446744073709551616)(hy:0≤y)(Ui:y<18446744073709551616)(hc:0≤c)(BS:c≤1):
  oD N x y c=some ((x-y-c)%18446744073709551616,if x<y+c then 1 else 0):=by
 unfold oD;rw[if_pos ⟨hx,QG,hy,Ui,hc,BS⟩];congr 2;omega
def bitLen(n:Nat):Nat:=if n=0 then 0 else bitLen (n/2)+1
termination_by n
decreasing_by omega
theorem nE{n:Nat}(h:n≠0):bitLen n=bitLen (n/2)+1:=by rw[bitLen];simp[h]
theorem rX:bitLen 0=0:=by rw[bitLen];rfl
theorem bitLen_shift(k:Nat): ∀n,2^k≤n→bitLen n=bitLen (n/2^k)+k:=by
 induction k with
 |zero=>intro n _;simp
 |succ k ih=>
  intro n h
  have hp:0<2^k:=Nat.pow_pos (by decide)
  rw[Nat.pow_succ]at h
  rw[nE (by omega),ih (n/2) (by omega),Nat.div_div_eq_div_mul,Nat.pow_succ,Nat.mul_comm 2];omega
theorem bitLen_spec(n:Nat):n<2^bitLen n∧(n≠0→2^(bitLen n-1)≤n):=by
 induction n using Nat.strongRecOn with
 |_ n ih=>
  by_cases h:n=0
  ·subst h;rw[rX];simp
  ·rw[nE h]
   obtain⟨h1,h2⟩:=ih (n/2) (by omega)
   refine⟨by rw[Nat.pow_succ];omega,fun _=> ?_⟩
   rw[Nat.add_sub_cancel]
   by_cases h3:n/2=0
   ·rw[h3,rX];simp;omega
   ·have:=h2 h3
    have e:bitLen (n/2)=(bitLen (n/2)-1)+1:=by rw[nE h3];omega
    rw[e,Nat.pow_succ];omega
theorem Uj: ∀i:Fin 256,((strOf [0,1,2,2,3,3,3,3,4,4,4,4,4,4,4,4,5,5,5,5,5,5,5,5,5,5,5,5,5,5,5,5,6,6,6,6,6,6,6,6,6,6,6,6,6,6,6,6,6,6,6,6,6,6,6,6,6,6,6,6,6,6,6,6,7,7,7,7,7,7,7,7,7,7,7,7,7,7,7,7,7,7,7,7,7,7,7,7,7,7,7,7,7,7,7,7,7,7,7,7,7,7,7,7,7,7,7,7,7,7,7,7,7,7,7,7,7,7,7,7,7,7,7,7,7,7,7,7,8,8,8,8,8,8,8,8,8,8,8,8,8,8,8,8,8,8,8,8,8,8,8,8,8,8,8,8,8,8,8,8,8,8,8,8,8,8,8,8,8,8,8,8,8,8,8,8,8,8,8,8,8,8,8,8,8,8,8,8,8,8,8,8,8,8,8,8,8,8,8,8,8,8,8,8,8,8,8,8,8,8,8,8,8,8,8,8,8,8,8,8,8,8,8,8,8,8,8,8,8,8,8,8,8,8,8,8,8,8,8,8,8,8,8,8,8,8,8,8,8,8,8,8,8,8,8,8]).data.getD i.val 0).toNat=Nat.log2 (2*i.val+1):=by decide+kernel
theorem xH(n:Nat):Nat.log2 (2*n+1)=bitLen n:=by
 induction n using Nat.strongRecOn with
 |_ n ih=>
  by_cases h:n=0
  ·subst h;rw[rX];decide
  ·rw[nE h,Nat.log2_def,if_pos (by omega),show(2*n+1)/2=n from by omega]
   congr 1
   have:=ih (n/2) (by omega)
   rw[←this]
   by_cases h2:n%2=0
   ·rw[Nat.log2_def,Nat.log2_def (n:=2*(n/2)+1)]
    have e1:(2*(n/2)+1)/2=n/2:=by omega
    rw[if_pos (by omega),if_pos (by omega),e1]
   ·congr 1;omega
theorem Gv(i:Nat)(h:i<256):((strOf [0,1,2,2,3,3,3,3,4,4,4,4,4,4,4,4,5,5,5,5,5,5,5,5,5,5,5,5,5,5,5,5,6,6,6,6,6,6,6,6,6,6,6,6,6,6,6,6,6,6,6,6,6,6,6,6,6,6,6,6,6,6,6,6,7,7,7,7,7,7,7,7,7,7,7,7,7,7,7,7,7,7,7,7,7,7,7,7,7,7,7,7,7,7,7,7,7,7,7,7,7,7,7,7,7,7,7,7,7,7,7,7,7,7,7,7,7,7,7,7,7,7,7,7,7,7,7,7,8,8,8,8,8,8,8,8,8,8,8,8,8,8,8,8,8,8,8,8,8,8,8,8,8,8,8,8,8,8,8,8,8,8,8,8,8,8,8,8,8,8,8,8,8,8,8,8,8,8,8,8,8,8,8,8,8,8,8,8,8,8,8,8,8,8,8,8,8,8,8,8,8,8,8,8,8,8,8,8,8,8,8,8,8,8,8,8,8,8,8,8,8,8,8,8,8,8,8,8,8,8,8,8,8,8,8,8,8,8,8,8,8,8,8,8,8,8,8,8,8,8,8,8,8,8,8,8]).data.getD i 0).toNat=bitLen i:=by
 rw[←xH];exact Uj ⟨i,h⟩
theorem Gw:ByteArray.size (strOf [0,1,2,2,3,3,3,3,4,4,4,4,4,4,4,4,5,5,5,5,5,5,5,5,5,5,5,5,5,5,5,5,6,6,6,6,6,6,6,6,6,6,6,6,6,6,6,6,6,6,6,6,6,6,6,6,6,6,6,6,6,6,6,6,7,7,7,7,7,7,7,7,7,7,7,7,7,7,7,7,7,7,7,7,7,7,7,7,7,7,7,7,7,7,7,7,7,7,7,7,7,7,7,7,7,7,7,7,7,7,7,7,7,7,7,7,7,7,7,7,7,7,7,7,7,7,7,7,8,8,8,8,8,8,8,8,8,8,8,8,8,8,8,8,8,8,8,8,8,8,8,8,8,8,8,8,8,8,8,8,8,8,8,8,8,8,8,8,8,8,8,8,8,8,8,8,8,8,8,8,8,8,8,8,8,8,8,8,8,8,8,8,8,8,8,8,8,8,8,8,8,8,8,8,8,8,8,8,8,8,8,8,8,8,8,8,8,8,8,8,8,8,8,8,8,8,8,8,8,8,8,8,8,8,8,8,8,8,8,8,8,8,8,8,8,8,8,8,8,8,8,8,8,8,8,8])=256:=by decide+kernel
set_option maxRecDepth 100000 in
theorem Ml(N:Nat){x c:Int}(h0:0≤x)(h1:x<65536)(hc:0≤c)(BS:c≤100):jz.j7 N x c=some (c+bitLen x.toNat):=by
 unfold jz.j7 jz.Kh
 have h8:shr .u64 x 8=x/256:=by rw[sP (by omega) (by omega)];rfl
 have hle: ∀n,n<256→bitLen n≤8:=fun n hn=>by
  rw[←xH]
  have:Nat.log2 (2*n+1)<9:=(Nat.log2_lt (by omega)).2 (by omega)
  omega
 by_cases h:256≤x
 ·have ht:=Gv (x/256).toNat (by omega)
  have hl:=hle (x/256).toNat (by omega)
  rw[cS h,cond_true,aA (show(0:Int)≤8 by omega),cond_false,h8]
  rw[ahF (x:=x/256) (by omega) (by omega)]
  extract_lets v8
  rw[Gw,aG (by omega) (by omega),cond_true,ht]
  clear ht
  simp (disch:=omega) only[aE,aA,cS,cM,cG,cA,aG,bo,bC,cw,al,bz,cond_true,cond_false,Bool.not_true,Bool.not_false,Option.bind_some,Int.toNat_natCast,Int.toNat_zero,ae,List.length_append,List.length_singleton,List.length_set,List.length_replicate,List.length_cons,List.length_nil]
  have:=bitLen_shift 8 x.toNat (by omega)
  rw[this]
  have e:(x/256).toNat=x.toNat/2^8:=by omega
  rw[e];congr 1;omega
 ·have ht:=Gv x.toNat (by omega)
  have hl:=hle x.toNat (by omega)
  rw[cM (by omega),cond_false,ahF (x:=x) (by omega) (by omega)]
  extract_lets v8
  rw[Gw,aG (by omega) (by omega),cond_true,ht]
  clear ht
  simp (disch:=omega) only[aE,aA,cS,cM,cG,cA,aG,bo,bC,cw,al,bz,cond_true,cond_false,Bool.not_true,Bool.not_false,Option.bind_some,Int.toNat_natCast,Int.toNat_zero,ae,List.length_append,List.length_singleton,List.length_set,List.length_replicate,List.length_cons,List.length_nil]
theorem QH(N:Nat){x:Int}(h0:0≤x)(h1:x<18446744073709551616):jz N x=some (bitLen x.toNat:Int):=by
 have h16: ∀y c:Int,0≤y→y<4294967296→0≤c→c≤50→jz.j4 N y c=some (c+bitLen y.toNat):=fun y c hy0 Ui hc BS=>by
  unfold jz.j4 jz.j4b
  by_cases h:65536≤y
  ·have e:shr .u64 y 16=y/65536:=by rw[sP (by omega) (by omega)];rfl
   rw[cS h,cond_true,aA (by omega),cond_false,e,al (by omega) (by omega),Ml N (by omega) (by omega) (by omega) (by omega)]
   have:=bitLen_shift 16 y.toNat (by omega)
   rw[this]
   have e:(y/65536).toNat=y.toNat/2^16:=by omega
   rw[e];congr 1;omega
  ·rw[cM (by omega),cond_false,Ml N hy0 (by omega) hc (by omega)]
 unfold jz jz.b
 by_cases h:4294967296≤x
 ·rw[cS h,cond_true,aA (by omega),cond_false,zY,h16 _ _ (by omega) (by omega) (by omega) (by omega)]
  have:=bitLen_shift 32 x.toNat (by omega)
  rw[this]
  have e:(x/4294967296).toNat=x.toNat/2^32:=by omega
  rw[e];congr 1;omega
 ·rw[cM (by omega),cond_false,h16 _ _ h0 (by omega) (by omega) (by omega)]
  congr 1;omega
end VM
end
section
namespace VM
open Go VM.F
structure lE(Y yn1 yn0 un32 un1 q rh:Int):Prop where
 hY:Y=yn1*4294967296+yn0
 y1:2147483648≤yn1
 y1':yn1<4294967296
 y0:0≤yn0
 y0':yn0<4294967296
 u1:0≤un1
 u1':un1<4294967296
 lt:un32<Y
 q0:0≤q
 eq:q*yn1+rh=un32
 r0:0≤rh
 q1:q≤4294967297
 ge:(un32*4294967296+un1)/Y≤q
theorem lE.prod{Y yn1 yn0 un32 un1 q rh:Int}(g:lE Y yn1 yn0 un32 un1 q rh):q*Y=(un32-rh)*4294967296+q*yn0∧0≤q*yn0∧q*yn0≤18446744073709551615:=by
 have h:=mul_lt (m:=4294967297) (n:=4294967295) g.q0 g.y0 g.q1 (by have:=g.y0';omega)
 refine⟨?_,h.1,by omega⟩
 rw[g.hY,Int.mul_add,←Int.mul_assoc,show q*yn1=un32-rh from by have:=g.eq;omega]
theorem lE.pos{Y yn1 yn0 un32 un1 q rh:Int}(g:lE Y yn1 yn0 un32 un1 q rh):0<Y:=by have:=g.hY;have:=g.y1;have:=g.y0;omega
theorem lE.digit{Y yn1 yn0 un32 un1 q rh:Int}(g:lE Y yn1 yn0 un32 un1 q rh)(h:0≤un32):0≤(un32*4294967296+un1)/Y∧(un32*4294967296+un1)/Y<4294967296:=by
 have hp:=g.pos
 have:=g.u1;have:=g.u1';have:=g.lt
 refine⟨Int.ediv_nonneg (by omega) (by omega),?_⟩
 rw[Int.ediv_lt_iff_lt_mul hp];omega
theorem lE.done{Y yn1 yn0 un32 un1 q rh:Int}(g:lE Y yn1 yn0 un32 un1 q rh)(h:q*yn0≤4294967296*rh+un1):q=(un32*4294967296+un1)/Y:=by
 have hp:=g.pos
 have h1:=g.prod.1
 have h2:q≤(un32*4294967296+un1)/Y:=by
  rw[Int.le_ediv_iff_mul_le hp];omega
 have:=g.ge
 omega
theorem lE.next{Y yn1 yn0 un32 un1 q rh:Int}(g:lE Y yn1 yn0 un32 un1 q rh)(hu:0≤un32)(h:4294967296≤q∨4294967296*rh+un1<q*yn0):lE Y yn1 yn0 un32 un1 (q-1) (rh+yn1)∧1≤q:=by
 have hp:=g.pos
 have h1:=g.prod.1
 have hd:=g.digit hu
 have dT:(un32*4294967296+un1)/Y<q:=by
  rcases h with h|h
  ·omega
  ·rw[Int.ediv_lt_iff_lt_mul hp];omega
 have:=g.q1;have:=g.r0;have:=g.y1
 exact⟨⟨g.hY,g.y1,g.y1',g.y0,g.y0',g.u1,g.u1',g.lt,by omega,by rw[Int.sub_mul,Int.one_mul];have:=g.eq;omega,by omega,by omega,by omega⟩,by omega⟩
theorem Mm(N:Nat){Y s yn1 yn0 un32 un1 un0:Int}(hu:0≤un32)(Ua:un32<18446744073709551616): ∀(m n:Nat) (q rh:Int),lE Y yn1 yn0 un32 un1 q rh→rh<4294967296→4294967296-rh≤2147483648*m→m<n→
  cV.Gx N n Y s yn1 yn0 un32 un1 un0 q rh=cV.Gy N Y s yn1 yn0 un32 un1 un0 ((un32*4294967296+un1)/Y)
 |m,0,q,rh,_,_,_,hn=>by omega
 |m,n+1,q,rh,g,hr,hm,hn=>by
  unfold cV.Gx cV.Gz
  have B3:=g.prod
  have hd:=g.digit hu
  obtain⟨hY,y1,y1',y0,y0',u1,u1',lt,q0,eq,r0,q1,ge⟩:=id g
  have go:(4294967296≤q∨4294967296*rh+un1<q*yn0)→
    (cond (bU (4294967296:Int) (W .u64 (rh+yn1))) (cV.Gy N Y s yn1 yn0 un32 un1 un0 (W .u64 (q-1))) (cV.Gx N n Y s yn1 yn0 un32 un1 un0 (W .u64 (q-1)) (W .u64 (rh+yn1))))=cV.Gy N Y s yn1 yn0 un32 un1 un0 ((un32*4294967296+un1)/Y):=fun h=>by
   obtain⟨g',hq⟩:=g.next hu h
   rw[bz (x:=rh+yn1) (by omega) (by omega),bz (x:=q-1) (by omega) (by omega)]
   by_cases hb:4294967296≤rh+yn1
   ·rw[cS hb,cond_true]
    have xl:=g'.prod
    rw[g'.done (by omega)]
   ·rw[cM (by omega),cond_false]
    exact Mm N hu Ua (m-1) n (q-1) (rh+yn1) g' (by omega) (by omega) (by omega)
  by_cases h1:4294967296≤q
  ·rw[cS h1,cond_true]
   exact go (.inl h1)
  ·rw[cM (by omega),cond_false,bz (x:=4294967296*rh) (by omega) (by omega),bz (x:=4294967296*rh+un1) (by omega) (by omega),bz (x:=q*yn0) (by omega) (by omega)]
   by_cases h2:4294967296*rh+un1<q*yn0
   ·rw[aE h2,cond_true]
    exact go (.inr h2)
   ·rw[aA (by omega),cond_false,g.done (by omega)]
theorem Mn(N:Nat){Y s yn1 yn0 un32 un1 a b:Int}(hu:0≤un32)(Ua:un32<18446744073709551616): ∀(m n:Nat) (q rh:Int),lE Y yn1 yn0 un32 un1 q rh→rh<4294967296→4294967296-rh≤2147483648*m→m<n→
  cV.y5 N n Y s yn1 yn0 un1 a rh un32 q=cV.j28 N Y s un1 a un32 ((un32*4294967296+un1)/Y)
 |m,0,q,rh,_,_,_,hn=>by omega
 |m,n+1,q,rh,g,hr,hm,hn=>by
  unfold cV.y5 cV.z5
  have B3:=g.prod
  have hd:=g.digit hu
  obtain⟨hY,y1,y1',y0,y0',u1,u1',lt,q0,eq,r0,q1,ge⟩:=id g
  have go:(4294967296≤q∨4294967296*rh+un1<q*yn0)→
    (cond (bU (4294967296:Int) (W .u64 (rh+yn1))) (cV.j28 N Y s un1 a un32 (W .u64 (q-1))) (cV.y5 N n Y s yn1 yn0 un1 a (W .u64 (rh+yn1)) un32 (W .u64 (q-1))))=cV.j28 N Y s un1 a un32 ((un32*4294967296+un1)/Y):=fun h=>by
   obtain⟨g',hq⟩:=g.next hu h
   rw[bz (x:=rh+yn1) (by omega) (by omega),bz (x:=q-1) (by omega) (by omega)]
   by_cases hb:4294967296≤rh+yn1
   ·rw[cS hb,cond_true]
    have xl:=g'.prod
    rw[g'.done (by omega)]
   ·rw[cM (by omega),cond_false]
    exact Mn N (b:=b) hu Ua (m-1) n (q-1) (rh+yn1) g' (by omega) (by omega) (by omega)
  by_cases h1:4294967296≤q
  ·rw[cS h1,cond_true]
   exact go (.inl h1)
  ·rw[cM (by omega),cond_false,bz (x:=4294967296*rh) (by omega) (by omega),bz (x:=4294967296*rh+un1) (by omega) (by omega),bz (x:=q*yn0) (by omega) (by omega)]
   by_cases h2:4294967296*rh+un1<q*yn0
   ·rw[aE h2,cond_true]
    exact go (.inr h2)
   ·rw[aA (by omega),cond_false,g.done (by omega)]
theorem lE.first{Y yn1 yn0 un32 un1:Int}(hY:Y=yn1*4294967296+yn0)(y1:2147483648≤yn1)(y1':yn1<4294967296)(y0:0≤yn0)(y0':yn0<4294967296)(u1:0≤un1)(u1':un1<4294967296)(hu:0≤un32)(lt:un32<Y):
  lE Y yn1 yn0 un32 un1 (un32/yn1) (un32-un32/yn1*yn1)∧un32-un32/yn1*yn1<4294967296∧0≤un32/yn1*yn1∧un32/yn1*yn1≤un32:=by
 have h1:=Int.mul_ediv_add_emod un32 yn1
 have h2:=Int.emod_lt_of_pos un32 (show 0<yn1 by omega)
 have h3:=Int.emod_nonneg un32 (show yn1≠0 by omega)
 have TU:0≤un32/yn1:=Int.ediv_nonneg hu (by omega)
 rw[Int.mul_comm]at h1
 have hq1:un32/yn1≤4294967297:=by
  have:un32/yn1<4294967298:=by rw[Int.ediv_lt_iff_lt_mul (by omega)];omega
  omega
 have TV:(un32*4294967296+un1)/Y≤un32/yn1:=by
  have dT:un32*4294967296+un1<(un32/yn1+1)*Y:=by
   have e:un32+1≤(un32/yn1+1)*yn1:=by rw[Int.add_mul,Int.one_mul];omega
   have e2:(un32/yn1+1)*Y=(un32/yn1+1)*yn1*4294967296+(un32/yn1+1)*yn0:=by rw[hY,Int.mul_add,Int.mul_assoc]
   have e3:0≤(un32/yn1+1)*yn0:=Int.mul_nonneg (by omega) y0
   omega
  have:(un32*4294967296+un1)/Y<un32/yn1+1:=by rw[Int.ediv_lt_iff_lt_mul (by omega)];exact dT
  omega
 exact⟨⟨hY,y1,y1',y0,y0',u1,u1',lt,TU,by omega,by omega,hq1,TV⟩,by omega,Int.mul_nonneg TU (by omega),by omega⟩
theorem QI{a b:Int}{k:Nat}(ha:0≤a)(ha1:a<2^k)(hb:0≤b)(h:b*2^k<18446744073709551616)(hk:k<64):jx .or .u64 (b*2^k) a=b*2^k+a:=by
 have hp:(0:Int)<2^k:=Int.pow_pos (by decide)
 have hpn:((2^k:Nat):Int)=2^k:=by rw[Int.natCast_pow];rfl
 have auH:(2:Int)^k≤2^63:=by
  rw[←hpn,show(2:Int)^63=((2^63:Nat):Int)from by decide]
  exact_mod_cast Nat.pow_le_pow_right (by decide) (by omega)
 have ar2:(2:Int)^63=9223372036854775808:=by decide
 have tg:=Int.mul_nonneg hb (Int.le_of_lt hp)
 rw[Eh tg h ha (by omega)]
 have h1:=Nat.two_pow_add_eq_or_of_lt (i:=k) (b:=a.toNat) (by
  have:((a.toNat:Nat):Int)<((2^k:Nat):Int):=by rw[hpn,Int.toNat_of_nonneg ha];exact ha1
  exact_mod_cast this) b.toNat
 have e:(b*2^k).toNat=2^k*b.toNat:=by
  have:((2^k*b.toNat:Nat):Int)=b*2^k:=by rw[Int.natCast_mul,hpn,Int.toNat_of_nonneg hb,Int.mul_comm]
  omega
 rw[e,←h1,Int.natCast_add,Int.natCast_mul,hpn,Int.toNat_of_nonneg hb,Int.toNat_of_nonneg ha,Int.mul_comm]
theorem GA(N:Nat)(hN:100≤N){hi lo y:Int}(h0:0≤hi)(h1:hi<y)(l0:0≤lo)(l1:lo<18446744073709551616)(y1:y<18446744073709551616):
  cV N hi lo y=some ((hi*18446744073709551616+lo)/y,(hi*18446744073709551616+lo)%y):=by
 unfold cV cV.b
 rw[cA (show y≠0 by omega),cond_false,cM (by omega),cond_false]
 by_cases hz:hi=0
 ·subst hz
  rw[cG rfl,cond_true,cond_false,cond_false,DI,PB,Int.tdiv_eq_ediv_of_nonneg l0,Int.tmod_eq_emod_of_nonneg l0]
  have e1:0≤lo/y:=Int.ediv_nonneg l0 (by omega)
  have e2:lo/y≤lo:=Int.ediv_le_self _ l0
  rw[bz (by omega) (by omega)]
  simp
 ·rw[cA hz,cond_false]
  obtain⟨b1,b2⟩:=bitLen_spec y.toNat
  have b2:=b2 (by omega)
  obtain⟨L,hL⟩: ∃L,L=bitLen y.toNat:=⟨_,rfl⟩
  rw[←hL]at b1 b2
  have hL1:1≤L:=by rw[hL,nE (by omega)];omega
  have auI:L≤64:=by
   rcases Nat.lt_or_ge 64 L with h|h
   ·have h3:2^64≤2^(L-1):=Nat.pow_le_pow_right (by decide) (by omega)
    have:(2:Nat)^64=18446744073709551616:=by decide
    omega
   ·exact h
  have hl:Uk N y=some (64-(L:Int)):=by
   unfold Uk
   rw[QH N (by omega) y1,Option.bind_some,←hL,al (by omega) (by omega)]
  obtain⟨s,hs⟩: ∃s:Nat,s=64-L:=⟨_,rfl⟩
  have hsI:64-(L:Int)=(s:Int):=by omega
  rw[hl,Option.bind_some,hsI]
  clear hl
  have hpn: ∀k:Nat,((2^k:Nat):Int)=2^k:=fun k=>by rw[Int.natCast_pow];rfl
  obtain⟨p,hp⟩: ∃p:Int,p=2^s:=⟨_,rfl⟩
  obtain⟨p',xl⟩: ∃p':Int,p'=2^(64-s):=⟨_,rfl⟩
  have BA:p'*p=18446744073709551616:=by
   rw[hp,xl,←Int.pow_add,show 64-s+s=64 from by omega];decide
  have Pu:0<p:=by rw[hp];exact Int.pow_pos (by decide)
  have auK:0<p':=by rw[xl];exact Int.pow_pos (by decide)
  have Ui:y*p<18446744073709551616:=by
   have h:y.toNat*2^s<2^L*2^s:=Nat.mul_lt_mul_of_pos_right b1 (Nat.pow_pos (by decide))
   rw[←Nat.pow_add,show L+s=64 from by omega,show(2:Nat)^64=18446744073709551616 from by decide]at h
   have:((y.toNat*2^s:Nat):Int)=y*p:=by rw[Int.natCast_mul,hpn,←hp,Int.toNat_of_nonneg (by omega)]
   omega
  have hy2:9223372036854775808≤y*p:=by
   have h:2^(L-1)*2^s≤y.toNat*2^s:=Nat.mul_le_mul_right _ b2
   rw[←Nat.pow_add,show L-1+s=63 from by omega,show(2:Nat)^63=9223372036854775808 from by decide]at h
   have:((y.toNat*2^s:Nat):Int)=y*p:=by rw[Int.natCast_mul,hpn,←hp,Int.toNat_of_nonneg (by omega)]
   omega
  have ana: ∀x:Int,shl .u64 x (s:Int)=x*p:=fun x=>by rw[Mk (by omega) (by omega),hp];rfl
  have anb:shr .u64 lo (64-(s:Int))=lo*p/18446744073709551616:=by
   rw[sP (by omega) (by omega),show(64-(s:Int)).toNat=64-s from by omega,←xl,←BA,Int.mul_ediv_mul_of_pos_left _ _ Pu]
  have hhp:hi*p+p≤y*p:=by
   have:=Int.mul_le_mul_of_nonneg_right (show hi+1≤y by omega) (Int.le_of_lt Pu)
   rw[Int.add_mul,Int.one_mul]at this;exact this
  have auN:0≤hi*p:=Int.mul_nonneg h0 (Int.le_of_lt Pu)
  have anc:0≤lo*p:=Int.mul_nonneg l0 (Int.le_of_lt Pu)
  have ane:lo*p<18446744073709551616*p:=Int.mul_lt_mul_of_pos_right l1 Pu
  have ru:lo*p/18446744073709551616<p:=by rw[Int.ediv_lt_iff_lt_mul (by omega),Int.mul_comm p];exact ane
  have ht0:0≤lo*p/18446744073709551616:=Int.ediv_nonneg anc (by omega)
  have hor:jx .or .u64 (hi*p) (lo*p/18446744073709551616)=hi*p+lo*p/18446744073709551616:=by
   have:=QI (k:=s) (a:=lo*p/18446744073709551616) (b:=hi) ht0 (by rw[←hp];exact ru) h0 (by rw[←hp];omega) (by omega)
   rw[←hp]at this;exact this
  obtain⟨Y,hY⟩: ∃Y,Y=y*p:=⟨_,rfl⟩
  have hU:(hi*18446744073709551616+lo)*p=(hi*p+lo*p/18446744073709551616)*18446744073709551616+lo*p%18446744073709551616:=by
   rw[Int.add_mul,Int.mul_assoc,Int.mul_comm 18446744073709551616 p,←Int.mul_assoc];omega
  have hws:W .u64 (s:Int)=(s:Int):=bz (by omega) (by omega)
  have anf:W .u64 (64-(s:Int))=64-(s:Int):=bz (by omega) (by omega)
  have hwl:W .u64 (lo*p)=lo*p%18446744073709551616:=jm _
  simp only[hws,anf,ana,anb,hwl]
  rw[←hY]at Ui hy2 hhp ⊢
  have hwy:W .u64 Y=Y:=bz (by omega) (by omega)
  have hwh:W .u64 (hi*p)=hi*p:=bz (by omega) (by omega)
  simp only[hwy,hwh,hor]
  obtain⟨u,hu⟩: ∃u,u=hi*p+lo*p/18446744073709551616:=⟨_,rfl⟩
  obtain⟨v,hv⟩: ∃v,v=lo*p%18446744073709551616:=⟨_,rfl⟩
  rw[←hu,←hv]at hU ⊢
  have hv0:0≤v:=by omega
  have FW:v<18446744073709551616:=by omega
  have hu0:0≤u:=by omega
  have hu1:u<Y:=by omega
  have hmy:jx .and .u64 Y 4294967295=Y%4294967296:=gJ (by omega) (by omega)
  have hmv:jx .and .u64 v 4294967295=v%4294967296:=gJ hv0 FW
  obtain⟨g1,g2,g3,g4⟩:=lE.first (Y:=Y) (yn1:=Y/4294967296) (yn0:=Y%4294967296) (un32:=u) (un1:=v/4294967296) (by omega) (by omega) (by omega) (by omega) (by omega) (by omega) (by omega) hu0 hu1
  have hq:quo u (Y/4294967296)=u/(Y/4294967296):=by rw[DI,Int.tdiv_eq_ediv_of_nonneg hu0]
  have hwq:W .u64 (u/(Y/4294967296))=u/(Y/4294967296):=bz g1.q0 (by have:=g1.q1;omega)
  have hwm:W .u64 (u/(Y/4294967296)*(Y/4294967296))=u/(Y/4294967296)*(Y/4294967296):=bz g3 (by omega)
  have hwr:W .u64 (u-u/(Y/4294967296)*(Y/4294967296))=u-u/(Y/4294967296)*(Y/4294967296):=bz (by omega) (by omega)
  rw[aA (show(0:Int)≤s by omega),aA (show(0:Int)≤32 by omega),aA (show(0:Int)≤64-(s:Int)by omega),zY,zY,hmy,hmv,cA (show Y/4294967296≠0 by omega),hq,hwq,hwm,hwr]
  simp only[cond_false]
  rw[Mm N hu0 (by omega) 3 N _ _ g1 g2 (by omega) (by omega)]
  have d1:=g1.digit hu0
  clear hq hwq hwm hwr g1 g2 g3 g4
  obtain⟨q1,hq1⟩: ∃q1,q1=(u*4294967296+v/4294967296)/Y:=⟨_,rfl⟩
  have m1:=Int.mul_ediv_add_emod (u*4294967296+v/4294967296) Y
  have m2:=Int.emod_lt_of_pos (u*4294967296+v/4294967296) (show 0<Y by omega)
  have m3:=Int.emod_nonneg (u*4294967296+v/4294967296) (show Y≠0 by omega)
  rw[←hq1]at d1 m1 ⊢
  obtain⟨r1,Ef⟩: ∃r1,r1=(u*4294967296+v/4294967296)%Y:=⟨_,rfl⟩
  rw[←Ef]at m1 m2 m3
  rw[Int.mul_comm]at m1
  unfold cV.Gy cV.z6
  have ang:W .u64 (W .u64 (W .u64 (u*4294967296)+v/4294967296)-W .u64 (q1*Y))=r1:=by
   simp only[jm]
   generalize q1*Y=z at*
   omega
  simp only[ang]
  obtain⟨g1,g2,g3,g4⟩:=lE.first (Y:=Y) (yn1:=Y/4294967296) (yn0:=Y%4294967296) (un32:=r1) (un1:=v%4294967296) (by omega) (by omega) (by omega) (by omega) (by omega) (by omega) (by omega) m3 m2
  have hq:quo r1 (Y/4294967296)=r1/(Y/4294967296):=by rw[DI,Int.tdiv_eq_ediv_of_nonneg m3]
  have hwq:W .u64 (r1/(Y/4294967296))=r1/(Y/4294967296):=bz g1.q0 (by have:=g1.q1;omega)
  have hwm:W .u64 (r1/(Y/4294967296)*(Y/4294967296))=r1/(Y/4294967296)*(Y/4294967296):=bz g3 (by omega)
  have hwr:W .u64 (r1-r1/(Y/4294967296)*(Y/4294967296))=r1-r1/(Y/4294967296)*(Y/4294967296):=bz (by omega) (by omega)
  rw[cA (show Y/4294967296≠0 by omega),hq,hwq,hwm,hwr,cond_false,Mn N (b:=0) m3 (by omega) 3 N _ _ g1 g2 (by omega) (by omega)]
  have d0:=g1.digit m3
  clear hq hwq hwm hwr g1 g2 g3 g4
  obtain⟨q0,TU⟩: ∃q0,q0=(r1*4294967296+v%4294967296)/Y:=⟨_,rfl⟩
  have n1:=Int.mul_ediv_add_emod (r1*4294967296+v%4294967296) Y
  have n2:=Int.emod_lt_of_pos (r1*4294967296+v%4294967296) (show 0<Y by omega)
  have n3:=Int.emod_nonneg (r1*4294967296+v%4294967296) (show Y≠0 by omega)
  rw[←TU]at d0 n1 ⊢
  obtain⟨r0,hr0⟩: ∃r0,r0=(r1*4294967296+v%4294967296)%Y:=⟨_,rfl⟩
  rw[←hr0]at n1 n2 n3
  rw[Int.mul_comm]at n1
  unfold cV.j28 cV.aca
  have anh:W .u64 (W .u64 (W .u64 (r1*4294967296)+v%4294967296)-W .u64 (q0*Y))=r0:=by
   simp only[jm]
   generalize q0*Y=z at*
   omega
  rw[aA (show(0:Int)≤s by omega),cond_false,anh,bz (x:=q1*4294967296) (by omega) (by omega),bz (x:=q1*4294967296+q0) (by omega) (by omega),sP (by omega) (by omega),Int.toNat_natCast,←hp]
  obtain⟨V,hV⟩: ∃V,V=hi*18446744073709551616+lo:=⟨_,rfl⟩
  obtain⟨Q,hQ⟩: ∃Q,Q=q1*4294967296+q0:=⟨_,rfl⟩
  rw[←hV]at hU ⊢
  rw[←hQ]
  have hQY:Q*Y=q1*Y*4294967296+q0*Y:=by rw[hQ,Int.add_mul,Int.mul_assoc,Int.mul_comm 4294967296 Y,←Int.mul_assoc]
  have acb:V*p=Q*Y+r0:=by rw[hU,hQY];generalize q1*Y=z1 at*;generalize q0*Y=z0 at*;omega
  have ahL:r0=(V-Q*y)*p:=by rw[Int.sub_mul,Int.mul_assoc,←hY];omega
  have hd0:0≤V-Q*y:=by
   by_cases h:V-Q*y<0
   ·have:=Int.mul_neg_of_neg_of_pos h Pu;omega
   ·omega
  have hd1:V-Q*y<y:=by
   by_cases h:V-Q*y<y
   ·exact h
   ·have:=Int.mul_le_mul_of_nonneg_right (show y≤V-Q*y by omega) (Int.le_of_lt Pu);rw[←ahL,←hY]at this;omega
  have hVe:V=(V-Q*y)+y*Q:=by rw[Int.mul_comm y Q];omega
  have e1:V/y=Q:=by
   rw[hVe,Int.add_mul_ediv_left _ _ (by omega),Int.ediv_eq_zero_of_lt hd0 hd1];omega
  have e2:V%y=V-Q*y:=by
   have:=Int.mul_ediv_add_emod V y
   rw[e1,Int.mul_comm]at this;omega
  rw[e1,e2,ahL,Int.mul_ediv_cancel _ (by omega)]
end VM
end
section
namespace VM
open Go VM.F
def bZ:List Int→Int
 |[]=>0
 |d::r=>d+4294967296*bZ r
def VD(l:List Int):Prop:= ∀d∈l,0≤d∧d<4294967296
def iI(n:Nat):List Int:=if n=0 then []else((n%4294967296:Nat):Int)::iI (n/4294967296)
termination_by n
decreasing_by omega
theorem gK:iI 0=[]:=by rw[iI];rfl
theorem sQ{n:Nat}(h:n≠0):iI n=((n%4294967296:Nat):Int)::iI (n/4294967296):=by rw[iI];simp[h]
theorem VD.nil:VD []:=fun d h=>by cases h
theorem VD.cons{d:Int}{l:List Int}(h0:0≤d)(h1:d<4294967296)(h:VD l):VD (d::l):=fun x hx=>by
 rcases List.mem_cons.1 hx with rfl|hx
 ·exact⟨h0,h1⟩
 ·exact h x hx
theorem VD.tail{d:Int}{l:List Int}(h:VD (d::l)):VD l:=fun x hx=>h x (List.mem_cons_of_mem _ hx)
theorem VD.drop{l:List Int}(h:VD l)(n:Nat):VD (l.drop n):=fun x hx=>h x (List.mem_of_mem_drop hx)
theorem VD.take{l:List Int}(h:VD l)(n:Nat):VD (l.take n):=fun x hx=>h x (List.mem_of_mem_take hx)
theorem VD.getD{l:List Int}(h:VD l)(n:Nat):0≤l.getD n 0∧l.getD n 0<4294967296:=by
 rw[List.getD_eq_getElem?_getD]
 cases hn:l[n]? with
 |none=>exact⟨Int.le_refl _,by decide⟩
 |some x=>exact h x (List.mem_of_getElem? hn)
theorem VD.set{l:List Int}(h:VD l)(n:Nat){x:Int}(h0:0≤x)(h1:x<4294967296):VD (l.set n x):=fun y hy=>by
 rcases List.mem_or_eq_of_mem_set hy with hy|rfl
 ·exact h y hy
 ·exact⟨h0,h1⟩
theorem VD.aaq(n:Nat):VD (List.replicate n 0):=fun x hx=>by rw[List.eq_of_mem_replicate hx];exact⟨Int.le_refl _,by decide⟩
theorem gL: ∀{l:List Int},VD l→0≤bZ l
 |[],_=>Int.le_refl _
 |d::r,h=>by
  have:=gL h.tail
  have:=(h d (List.mem_cons_self ..)).1
  simp only[bZ];omega
theorem eM(n:Nat):bZ (iI n)=n:=by
 induction n using Nat.strongRecOn with
 |_ n ih=>
  by_cases h:n=0
  ·subst h;rw[gK];rfl
  ·rw[sQ h,bZ,ih _ (by omega)];omega
theorem gM(n:Nat):VD (iI n):=by
 induction n using Nat.strongRecOn with
 |_ n ih=>
  by_cases h:n=0
  ·subst h;rw[gK];exact VD.nil
  ·rw[sQ h];exact VD.cons (by omega) (by omega) (ih _ (by omega))
theorem vj{n:Nat}:iI n=[]↔n=0:=by
 constructor
 ·intro h
  by_cases hn:n=0
  ·exact hn
  ·rw[sQ hn]at h;cases h
 ·rintro rfl;exact gK
theorem sR(k:Nat): ∀n,n<4294967296^k→(iI n).length≤k:=by
 induction k with
 |zero=>
  intro n h;have:n=0:=by simpa using h
  subst this;rw[gK];simp
 |succ k ih=>
  intro n h
  by_cases hn:n=0
  ·subst hn;rw[gK];simp
  ·rw[sQ hn,List.length_cons]
   have:=ih (n/4294967296) (by rw[Nat.div_lt_iff_lt_mul (by omega)];rw[Nat.pow_succ]at h;exact h)
   omega
theorem Ej(k:Nat): ∀n,(iI n).length≤k→n<4294967296^k:=by
 induction k with
 |zero=>
  intro n h
  have:iI n=[]:=List.eq_nil_of_length_eq_zero (by omega)
  rw[vj]at this;subst this;decide
 |succ k ih=>
  intro n h
  by_cases hn:n=0
  ·subst hn;exact Nat.pow_pos (by decide)
  ·rw[sQ hn,List.length_cons]at h
   have:=ih (n/4294967296) (by omega)
   rw[Nat.div_lt_iff_lt_mul (by omega)]at this
   rw[Nat.pow_succ];exact this
def strip:List Int→List Int
 |[]=>[]
 |d::r=>if strip r=[]∧d=0 then []else d::strip r
theorem GB: ∀{l:List Int},VD l→strip l=iI (bZ l).toNat
 |[],_=>by rw[show(bZ []).toNat=0 from rfl,gK];rfl
 |d::r,h=>by
  have ih:=GB h.tail
  have h0:=gL h.tail
  obtain⟨h1,h2⟩:=h d (List.mem_cons_self ..)
  simp only[strip,bZ,ih,vj]
  split
  ·rename_i hc
   obtain⟨hc,rfl⟩:=hc
   have:bZ r=0:=by omega
   rw[this];exact gK.symm
  ·rename_i hc
   have gi:(d+4294967296*bZ r).toNat≠0:=fun he=>hc ⟨by omega,by omega⟩
   rw[sQ gi]
   congr 1
   ·omega
   ·congr 1;omega
theorem z7: ∀(l:List Int) (x:Int),strip (l++[x])=if x=0 then strip l else l++[x]
 |[],x=>by simp[strip]
 |d::r,x=>by
  simp only[List.cons_append,strip,z7 r x]
  split
  ·rfl
  ·simp
theorem eW(l:List Int){k:Nat}(h:k<l.length):l.take (k+1)=l.take k++[l.getD k 0]:=by
 rw[List.take_succ_eq_append_getElem h,List.getD_eq_getElem?_getD,List.getElem?_eq_getElem h];rfl
theorem CG(N:Nat)(l:List Int)(hl:l.length<68719476736): ∀(k n:Nat),k≤l.length→k<n→kG.l2 N n l (k:Int)=some (strip (l.take k))
 |0,n+1,_,_=>by
  unfold kG.l2 kG.dr
  simp (disch:=omega) only[aE,aA,cS,cM,cG,cA,aG,bo,bC,cw,al,bz,cond_true,cond_false,Bool.not_true,Bool.not_false,Option.bind_some,Int.toNat_natCast,Int.toNat_zero,ae,List.length_append,List.length_singleton,List.length_set,List.length_replicate,List.length_cons,List.length_nil]
  simp[strip]
 |k+1,n+1,hk,hn=>by
  unfold kG.l2 kG.dr
  have e:((k+1:Nat):Int)-1=(k:Int):=by omega
  simp (disch:=omega) only[aE,aA,cS,cM,cG,cA,aG,bo,bC,cw,al,bz,cond_true,cond_false,Bool.not_true,Bool.not_false,Option.bind_some,Int.toNat_natCast,Int.toNat_zero,ae,List.length_append,List.length_singleton,List.length_set,List.length_replicate,List.length_cons,List.length_nil,e]
  have ih:=CG N l hl k n (by omega) (by omega)
  rw[eW l (by omega),z7]
  by_cases h:l.getD k 0=0
  ·rw[cG h,cond_true,ih,if_pos h]
  ·rw[cA h,cond_false,if_neg h]
   simp only[Int.toNat_zero,List.drop_zero]
theorem Ek(N:Nat){l:List Int}(h:VD l)(hN:l.length<N)(hl:l.length<68719476736):kG N l=some (iI (bZ l).toNat):=by
 unfold kG kG.b
 rw[CG N l hl l.length N (Nat.le_refl _) hN,List.take_length,GB h]
def b9(v:Int):aw:=(decide (v<0),(iI v.natAbs,()))
theorem oR(N:Nat)(neg:Bool){l:List Int}(h:VD l)(hN:l.length<N)(hl:l.length<68719476736):QJ N neg l=some (b9 (if neg then-bZ l else bZ l)):=by
 unfold QJ
 rw[Ek N h hN hl,Option.bind_some]
 have h0:=gL h
 cases neg
 ·simp only[cond_false,b9,Bool.false_eq_true,if_false]
  rw[decide_eq_false (by omega)]
  congr 4;omega
 ·simp only[cond_true,b9,if_true]
  have e:(-bZ l).natAbs=(bZ l).toNat:=by omega
  rw[e]
  congr 2
  by_cases hz:bZ l=0
  ·rw[hz,Int.toNat_zero,gK,aA (by simp),decide_eq_false (by omega)]
  ·have:0<(iI (bZ l).toNat).length:=by
    apply List.length_pos_iff.2
    intro hd;rw[vj]at hd;omega
   rw[aE (by omega),decide_eq_true (by omega)]
theorem size_eq(N:Nat)(hN:1000≤N){u:Int}(h0:0≤u)(h1:u<18446744073709551616):F67 N u=some (iI u.toNat):=by
 unfold F67
 rw[gJ h0 h1,zY]
 have hv:VD [u%4294967296,u/4294967296]:=VD.cons (by omega) (by omega) (VD.cons (by omega) (by omega) VD.nil)
 simp (disch:=omega) only[aE,aA,cS,cM,cG,cA,aG,bo,bC,cw,al,bz,cond_true,cond_false,Bool.not_true,Bool.not_false,Option.bind_some,Int.toNat_natCast,Int.toNat_zero,ae,List.length_append,List.length_singleton,List.length_set,List.length_replicate,List.length_cons,List.length_nil,Ek N hv (by simp;omega) (by simp)]
 congr 2
 simp only[bZ];omega
theorem fg(N:Nat)(hN:1000≤N){x:Int}(h0: -9223372036854775808≤x)(h1:x<9223372036854775808):gN N x=some (b9 x):=by
 unfold gN
 have hd: ∀n:Nat,n<18446744073709551616→(iI n).length≤2:=fun n h=>sR 2 n (by simpa using h)
 by_cases h:x<0
 ·have e:W .u64 (0-W .u64 x)= -x:=by rw[jm,jm];omega
  simp only[aE h,cond_true,e,size_eq N hN (show 0≤ -x by omega) (by omega),Option.bind_some]
  have:=hd (-x).toNat (by omega)
  rw[oR N true (gM _) (by omega) (by omega),eM,if_pos rfl,show-(((-x).toNat:Nat):Int)=x from by omega];rfl
 ·have e:W .u64 x=x:=bz (by omega) (by omega)
  simp only[aA (show 0≤x by omega),cond_false,e,size_eq N hN (show 0≤x by omega) (by omega),Option.bind_some]
  have:=hd x.toNat (by omega)
  rw[oR N false (gM _) (by omega) (by omega),eM,if_neg Bool.false_ne_true,Int.toNat_of_nonneg (by omega)];rfl
theorem rY(N:Nat)(l:List Int)(i:Nat):Ul N l (i:Int)=some (l.getD i 0):=by
 unfold Ul
 by_cases h:i<l.length
 ·simp (disch:=omega) only[aE,aA,cS,cM,cG,cA,aG,bo,bC,cw,al,bz,cond_true,cond_false,Bool.not_true,Bool.not_false,Option.bind_some,Int.toNat_natCast,Int.toNat_zero,ae,List.length_append,List.length_singleton,List.length_set,List.length_replicate,List.length_cons,List.length_nil]
 ·simp (disch:=omega) only[aE,aA,cS,cM,cG,cA,aG,bo,bC,cw,al,bz,cond_true,cond_false,Bool.not_true,Bool.not_false,Option.bind_some,Int.toNat_natCast,Int.toNat_zero,ae,List.length_append,List.length_singleton,List.length_set,List.length_replicate,List.length_cons,List.length_nil]
  rw[List.getD_eq_getElem?_getD,List.getElem?_eq_none (by omega)];rfl
theorem g8(l:List Int)(i:Nat):bZ (l.drop i)=l.getD i 0+4294967296*bZ (l.drop (i+1)):=by
 by_cases h:i<l.length
 ·rw[List.drop_eq_getElem_cons h,bZ,List.getD_eq_getElem?_getD,List.getElem?_eq_getElem h];rfl
 ·rw[List.drop_of_length_le (by omega),List.drop_of_length_le (by omega),List.getD_eq_getElem?_getD,List.getElem?_eq_none (by omega)];rfl
theorem GC(N:Nat){a b:List Int}(ha:VD a)(hb:VD b)(tZ:a.length≤1000000)(JI:b.length≤1000000): ∀(m n i:Nat) (out:List Int) (c:Int),a.length+b.length+2-i≤m→m<n→out.length=i→i≤a.length+b.length+1→0≤c→c≤1→(a.length≤i→b.length≤i→i=max a.length b.length∨c=0)→
  ∃r,rf.l4 N n a b out c (i:Int)=some (out++r)∧VD r∧bZ r=bZ (a.drop i)+bZ (b.drop i)+c∧r.length≤m
 |m,0,i,out,c,_,hn,_,_,_,_,_=>by omega
 |m,n+1,i,out,c,hm,hn,ho,hi,Pp,BS,hz=>by
  unfold rf.l4 rf.c5
  by_cases GD:a.length≤i∧b.length≤i∧c=0
  ·obtain⟨h1,h2,rfl⟩:=GD
   simp (disch:=omega) only[aE,aA,cS,cM,cG,cA,aG,bo,bC,cw,al,bz,cond_true,cond_false,Bool.not_true,Bool.not_false,Option.bind_some,Int.toNat_natCast,Int.toNat_zero,ae,List.length_append,List.length_singleton,List.length_set,List.length_replicate,List.length_cons,List.length_nil]
   exact⟨[],by simp,VD.nil,by rw[List.drop_of_length_le h1,List.drop_of_length_le h2];rfl,Nat.zero_le _⟩
  ·obtain⟨ga0,ga1⟩:=ha.getD i
   obtain⟨gb0,gb1⟩:=hb.getD i
   have step: ∃r,rf.j6 N (rf.l4 N n) a b out c (i:Int)=some (out++r)∧VD r∧bZ r=bZ (a.drop i)+bZ (b.drop i)+c∧r.length≤m:=by
    unfold rf.j6 rf.JK
    have BO:i≤a.length+b.length:=by
     by_cases h1:a.length≤i∧b.length≤i
     ·rcases hz h1.1 h1.2 with h|h
      ·omega
      ·exact absurd ⟨h1.1,h1.2,h⟩ GD
     ·omega
    simp only[rY,Option.bind_some]
    generalize hga:a.getD i 0=x at*
    generalize hgb:b.getD i 0=y at*
    rw[bz (x:=x+y) (by omega) (by omega),bz (x:=c+(x+y)) (by omega) (by omega),gJ (by omega) (by omega),zY]
    simp (disch:=omega) only[aE,aA,cS,cM,cG,cA,aG,bo,bC,cw,al,bz,cond_true,cond_false,Bool.not_true,Bool.not_false,Option.bind_some,Int.toNat_natCast,Int.toNat_zero,ae,List.length_append,List.length_singleton,List.length_set,List.length_replicate,List.length_cons,List.length_nil]
    obtain⟨r,hr,hv,hs,JB⟩:=GC N ha hb tZ JI (m-1) n (i+1) (out++[(c+(x+y))%4294967296]) ((c+(x+y))/4294967296) (by omega) (by omega) (by simp[ho]) (by omega) (by omega) (by omega) (fun h1 h2=>by
     by_cases h3:a.length≤i∧b.length≤i
     ·right
      rw[←hga,←hgb,List.getD_eq_getElem?_getD,List.getElem?_eq_none h3.1,List.getD_eq_getElem?_getD,List.getElem?_eq_none h3.2]
      simp only[Option.getD_none];omega
     ·left;omega)
    refine⟨(c+(x+y))%4294967296::r,by rw[hr];simp,VD.cons (by omega) (by omega) hv,?_,by rw[List.length_cons];omega⟩
    rw[bZ,hs,g8 a i,g8 b i,hga,hgb];omega
   by_cases h1:i<a.length
   ·simp (disch:=omega) only[aE,cond_true];exact step
   ·by_cases h2:i<b.length
    ·simp (disch:=omega) only[aE,aA,cond_true,cond_false];exact step
    ·have:0<c:=by omega
     simp (disch:=omega) only[aE,aA,cond_true,cond_false];exact step
theorem Mo: ∀{l:List Int},VD l→bZ l<4294967296^l.length
 |[],_=>by simp[bZ]
 |d::r,h=>by
  have ih:=Mo h.tail
  obtain⟨h1,h2⟩:=h d (List.mem_cons_self ..)
  rw[bZ,List.length_cons,Int.pow_succ]
  generalize (4294967296:Int)^r.length=p at*
  omega
theorem GF(N:Nat)(hN:4000000≤N){a b:List Int}(ha:VD a)(hb:VD b)(tZ:a.length≤1000000)(JI:b.length≤1000000): ∃r,rf N a b=some r∧VD r∧bZ r=bZ a+bZ b∧r.length≤2000002:=by
 unfold rf rf.b
 obtain⟨r,hr,hv,hs,hl⟩:=GC N ha hb tZ JI (a.length+b.length+2) N 0 [] 0 (by omega) (by omega) rfl (by omega) (by omega) (by omega) (fun _ _=> .inr rfl)
 exact⟨r,hr,hv,by simpa using hs,by omega⟩
theorem z8(N:Nat){a b:List Int}(ha:VD a)(hb:VD b)(tZ:a.length≤1000000): ∀(m n i:Nat) (out:List Int) (c:Int),a.length-i≤m→m<n→out.length=i→i≤a.length→0≤c→c≤1→0≤bZ (a.drop i)-bZ (b.drop i)-c→
  ∃r,y6.l4 N n a b out c (i:Int)=some (out++r)∧VD r∧bZ r=bZ (a.drop i)-bZ (b.drop i)-c∧r.length≤m
 |m,0,i,out,c,_,hn,_,_,_,_,_=>by omega
 |m,n+1,i,out,c,hm,hn,ho,hi,Pp,BS,hz=>by
  unfold y6.l4 y6.c5
  by_cases h1:i<a.length
  ·obtain⟨ga0,ga1⟩:=ha.getD i
   obtain⟨gb0,gb1⟩:=hb.getD i
   rw[g8 a i,g8 b i]at*
   simp only[rY,Option.bind_some,Int.toNat_natCast]
   generalize hga:a.getD i 0=x at*
   generalize hgb:b.getD i 0=y at*
   rw[bz (x:=y+c) (by omega) (by omega),bz (x:=x+4294967296) (by omega) (by omega)]
   by_cases dT:x<y+c
   ·rw[bz (x:=x+4294967296-(y+c)) (by omega) (by omega)]
    simp (disch:=omega) only[aE,aA,cS,cM,cG,cA,aG,bo,bC,cw,al,bz,cond_true,cond_false,Bool.not_true,Bool.not_false,Option.bind_some,Int.toNat_natCast,Int.toNat_zero,ae,List.length_append,List.length_singleton,List.length_set,List.length_replicate,List.length_cons,List.length_nil,hga,hgb]
    obtain⟨r,hr,hv,hs,JB⟩:=z8 N ha hb tZ (m-1) n (i+1) (out++[x+4294967296-(y+c)]) 1 (by omega) (by omega) (by simp[ho]) (by omega) (by omega) (by omega) (by omega)
    refine⟨(x+4294967296-(y+c))::r,by rw[hr];simp,VD.cons (by omega) (by omega) hv,by rw[bZ,hs];omega,by rw[List.length_cons];omega⟩
   ·rw[bz (x:=x-(y+c)) (by omega) (by omega)]
    simp (disch:=omega) only[aE,aA,cS,cM,cG,cA,aG,bo,bC,cw,al,bz,cond_true,cond_false,Bool.not_true,Bool.not_false,Option.bind_some,Int.toNat_natCast,Int.toNat_zero,ae,List.length_append,List.length_singleton,List.length_set,List.length_replicate,List.length_cons,List.length_nil,hga,hgb]
    obtain⟨r,hr,hv,hs,JB⟩:=z8 N ha hb tZ (m-1) n (i+1) (out++[x-(y+c)]) 0 (by omega) (by omega) (by simp[ho]) (by omega) (by omega) (by omega) (by omega)
    refine⟨(x-(y+c))::r,by rw[hr];simp,VD.cons (by omega) (by omega) hv,by rw[bZ,hs];omega,by rw[List.length_cons];omega⟩
  ·simp (disch:=omega) only[aE,aA,cS,cM,cG,cA,aG,bo,bC,cw,al,bz,cond_true,cond_false,Bool.not_true,Bool.not_false,Option.bind_some,Int.toNat_natCast,Int.toNat_zero,ae,List.length_append,List.length_singleton,List.length_set,List.length_replicate,List.length_cons,List.length_nil]
   have h0:=gL (hb.drop i)
   rw[List.drop_of_length_le (l:=a) (by omega)]at hz ⊢
   simp only[bZ]at hz ⊢
   exact⟨[],by simp,VD.nil,by simp only[bZ];omega,Nat.zero_le _⟩
theorem xI(N:Nat)(hN:4000000≤N){a b:List Int}(ha:VD a)(hb:VD b)(tZ:a.length≤1000000)(h:bZ b≤bZ a): ∃r,y6 N a b=some r∧VD r∧bZ r=bZ a-bZ b∧r.length≤1000000:=by
 unfold y6 y6.b
 obtain⟨r,hr,hv,hs,hl⟩:=z8 N ha hb tZ a.length N 0 [] 0 (by omega) (by omega) rfl (by omega) (by omega) (by omega) (by simp;omega)
 exact⟨r,hr,hv,by simpa using hs,by omega⟩
theorem nf: ∀(l:List Int) (x:Int),bZ (l++[x])=bZ l+4294967296^l.length*x
 |[],x=>by simp[bZ]
 |d::r,x=>by
  rw[List.cons_append,bZ,nf r x,bZ,List.length_cons,Int.pow_succ,Int.mul_comm _ 4294967296,Int.mul_assoc,Int.mul_add];omega
theorem GG{a b:List Int}(ha:VD a)(hb:VD b){k:Nat}(h1:k<a.length)(h2:k<b.length)(dT:a.getD k 0<b.getD k 0):bZ (a.take (k+1))<bZ (b.take (k+1)):=by
 rw[eW a h1,eW b h2,nf,nf]
 have l1:(a.take k).length=k:=by rw[List.length_take];omega
 have l2:(b.take k).length=k:=by rw[List.length_take];omega
 have v1:=Mo (ha.take k)
 have v2:=gL (hb.take k)
 rw[l1]at*
 rw[l2]
 generalize (4294967296:Int)^k=p at*
 have hp:0<p:=by have:=gL (ha.take k);omega
 have:=Int.mul_le_mul_of_nonneg_left (show a.getD k 0+1≤b.getD k 0 by omega) (Int.le_of_lt hp)
 rw[Int.mul_add,Int.mul_one]at this
 omega
def mC(x:Int):Int:=if x<0 then-1 else if 0<x then 1 else 0
theorem GH(N:Nat){a b:List Int}(ha:VD a)(hb:VD b)(hl:a.length=b.length)(tZ:a.length≤1000000): ∀(k n:Nat),k≤a.length→k<n→yC.l6 N n a b ((k:Int)-1)=some (mC (bZ (a.take k)-bZ (b.take k)))
 |k,0,_,hn=>by omega
 |0,n+1,_,_=>by
  unfold yC.l6 yC.pn
  simp (disch:=omega) only[aE,aA,cS,cM,cG,cA,aG,bo,bC,cw,al,bz,cond_true,cond_false,Bool.not_true,Bool.not_false,Option.bind_some,Int.toNat_natCast,Int.toNat_zero,ae,List.length_append,List.length_singleton,List.length_set,List.length_replicate,List.length_cons,List.length_nil]
  simp[mC,bZ]
 |k+1,n+1,hk,hn=>by
  unfold yC.l6 yC.pn
  have e:((k+1:Nat):Int)-1=(k:Int):=by omega
  rw[e]
  simp (disch:=omega) only[aE,aA,cS,cM,cG,cA,aG,bo,bC,cw,al,bz,cond_true,cond_false,Bool.not_true,Bool.not_false,Option.bind_some,Int.toNat_natCast,Int.toNat_zero,ae,List.length_append,List.length_singleton,List.length_set,List.length_replicate,List.length_cons,List.length_nil]
  by_cases h1:a.getD k 0<b.getD k 0
  ·rw[aE h1,cond_true]
   have:=GG ha hb (k:=k) (by omega) (by omega) h1
   rw[mC,if_pos (by omega)]
  ·rw[aA (by omega),cond_false]
   by_cases h2:b.getD k 0<a.getD k 0
   ·rw[aE h2,cond_true]
    have:=GG hb ha (k:=k) (by omega) (by omega) h2
    rw[mC,if_neg (by omega),if_pos (by omega)]
   ·rw[aA (by omega),cond_false,GH N ha hb hl tZ k n (by omega) (by omega)]
    congr 2
    rw[eW a (by omega),eW b (by omega),nf,nf,show a.getD k 0=b.getD k 0 from by omega,List.length_take,List.length_take,hl]
    omega
theorem GI(N:Nat)(hN:4000000≤N)(m k:Nat)(hm:(iI m).length≤1000000)(hk:(iI k).length≤1000000):yC N (iI m) (iI k)=some (mC ((m:Int)-k)):=by
 unfold yC yC.b
 by_cases h:(iI m).length=(iI k).length
 ·simp (disch:=omega) only[aE,aA,cS,cM,cG,cA,aG,bo,bC,cw,al,bz,cond_true,cond_false,Bool.not_true,Bool.not_false,Option.bind_some,Int.toNat_natCast,Int.toNat_zero,ae,List.length_append,List.length_singleton,List.length_set,List.length_replicate,List.length_cons,List.length_nil]
  rw[GH N (gM m) (gM k) h hm (iI m).length N (Nat.le_refl _) (by omega),List.take_length,h,List.take_length,eM,eM]
 ·rw[cA (by omega),Bool.not_false,cond_true]
  by_cases dT:(iI m).length<(iI k).length
  ·rw[aE (by omega),cond_true]
   have h1:=Ej ((iI k).length-1) m (by omega)
   have h2: ¬(k<4294967296^((iI k).length-1)):=fun h=>by have:=sR _ _ h;omega
   rw[mC,if_pos (by omega)]
  ·rw[aA (by omega),cond_false]
   have h1:=Ej ((iI m).length-1) k (by omega)
   have h2: ¬(m<4294967296^((iI m).length-1)):=fun h=>by have:=sR _ _ h;omega
   rw[mC,if_neg (by omega),if_pos (by omega)]
end VM
end
section
namespace VM
open Go VM.F
def Fit(v:Int)(k:Nat):Prop:=v.natAbs<4294967296^k
theorem Fit.len{v:Int}{k:Nat}(h:Fit v k):(iI v.natAbs).length≤k:=sR k _ h
theorem Fit.mono{v:Int}{j k:Nat}(h:Fit v j)(hjk:j≤k):Fit v k:=Nat.lt_of_lt_of_le h (Nat.pow_le_pow_right (by decide) hjk)
theorem Fit.neg{v:Int}{k:Nat}(h:Fit v k):Fit (-v) k:=by unfold Fit at*;rwa [Int.natAbs_neg]
theorem Fit.i64{v:Int}(h0: -9223372036854775808≤v)(h1:v<9223372036854775808):Fit v 2:=by
 unfold Fit
 rw[show(4294967296:Nat)^2=18446744073709551616 from by decide];omega
theorem Fit.add{u v:Int}{k:Nat}(hu:Fit u k)(hv:Fit v k):Fit (u+v) (k+1):=by
 unfold Fit at*
 rw[Nat.pow_succ]
 have:(u+v).natAbs≤u.natAbs+v.natAbs:=Int.natAbs_add_le u v
 generalize 4294967296^k=p at*
 omega
theorem Fit.mul{u v:Int}{j k:Nat}(hu:Fit u j)(hv:Fit v k):Fit (u*v) (j+k):=by
 unfold Fit at*
 rw[Int.natAbs_mul,Nat.pow_add]
 exact Nat.mul_lt_mul'' hu hv
theorem Fit.of_le{u v:Int}{k:Nat}(hv:Fit v k)(h:u.natAbs≤v.natAbs):Fit u k:=Nat.lt_of_le_of_lt h hv
theorem nF(a b:Bool):kZ .bool a b=(a==b):=by simp[kZ]
theorem jR(N:Nat)(hN:4000000≤N){u v:Int}(hu:Fit u 900000)(hv:Fit v 900000):vk N (b9 u) (b9 v)=some (b9 (u+v)):=by
 have lu:=hu.len
 have lv:=hv.len
 unfold vk
 simp only[b9,nF]
 by_cases hs:decide (u<0)=decide (v<0)
 ·rw[hs,beq_self_eq_true,cond_true]
  obtain⟨r,hr,hvd,D4,hl⟩:=GF N hN (gM u.natAbs) (gM v.natAbs) (by omega) (by omega)
  simp only[hr,Option.bind_some,oR N _ hvd (by omega) (by omega),D4,eM]
  congr 1
  show b9 _=b9 _
  congr 1
  by_cases h:v<0
  ·have:u<0:=by simpa [h]using hs
   rw[if_pos (decide_eq_true h)];omega
  ·have: ¬u<0:=by simpa [h]using hs
   rw[if_neg (by simpa using h)];omega
 ·have hb:(decide (u<0)==decide (v<0))=false:=by simpa using hs
  rw[hb,cond_false,GI N hN _ _ (by omega) (by omega),Option.bind_some]
  by_cases hc:v.natAbs≤u.natAbs
  ·have h1:bU 0 (mC ((u.natAbs:Int)-v.natAbs))=true:=cS (by unfold mC;split<;>(try split)<;>omega)
   obtain⟨r,hr,hvd,D4,hl⟩:=xI N hN (gM u.natAbs) (gM v.natAbs) (by omega) (by rw[eM,eM];omega)
   simp only[h1,cond_true,hr,Option.bind_some,oR N _ hvd (by omega) (by omega),D4,eM]
   congr 1
   show b9 _=b9 _
   congr 1
   by_cases h:u<0
   ·have: ¬v<0:=fun hv=>hs (by simp[h,hv])
    rw[if_pos (decide_eq_true h)];omega
   ·have:v<0:=Classical.byContradiction fun hv=>hs (by simp[h,hv])
    rw[if_neg (by simpa using h)];omega
  ·have h1:bU 0 (mC ((u.natAbs:Int)-v.natAbs))=false:=cM (by unfold mC;rw[if_pos (by omega)];omega)
   obtain⟨r,hr,hvd,D4,hl⟩:=xI N hN (gM v.natAbs) (gM u.natAbs) (by omega) (by rw[eM,eM];omega)
   simp only[h1,cond_false,hr,Option.bind_some,oR N _ hvd (by omega) (by omega),D4,eM]
   congr 1
   show b9 _=b9 _
   congr 1
   by_cases h:v<0
   ·have: ¬u<0:=fun hu=>hs (by simp[h,hu])
    rw[if_pos (decide_eq_true h)];omega
   ·have:u<0:=Classical.byContradiction fun hu=>hs (by simp[h,hu])
    rw[if_neg (by simpa using h)];omega
theorem sS(N:Nat)(hN:4000000≤N){u:Int}(hu:Fit u 900000):Pw N (b9 u)=some (b9 (-u)):=by
 have lu:=hu.len
 unfold Pw
 simp only[b9]
 simp only[oR N _ (gM u.natAbs) (by omega) (by omega),Option.bind_some,eM]
 congr 1
 show b9 _=b9 _
 congr 1
 by_cases h:u<0
 ·rw[decide_eq_true h,Bool.not_true,if_neg Bool.false_ne_true];omega
 ·rw[decide_eq_false h,Bool.not_false,if_pos rfl];omega
theorem GJ(N:Nat)(hN:4000000≤N){u:Int}(hu:Fit u 900000):QK N (b9 u)=some (b9 u.natAbs):=by
 have lu:=hu.len
 unfold QK
 simp only[b9]
 simp only[oR N _ (gM u.natAbs) (by omega) (by omega),Option.bind_some,eM,Bool.false_eq_true,if_false]
 rfl
theorem sT(N:Nat)(hN:4000000≤N){u v:Int}(hu:Fit u 900000)(hv:Fit v 900000):Mp N (b9 u) (b9 v)=some (b9 (u-v)):=by
 unfold Mp
 simp only[sS N hN hv,Option.bind_some,jR N hN hu hv.neg,Int.sub_eq_add_neg]
theorem oS(N:Nat)(u:Int):Mq N (b9 u)=some (mC u):=by
 unfold Mq
 simp only[b9]
 by_cases h:u=0
 ·subst h
  rw[show(0:Int).natAbs=0 from rfl,gK]
  simp (disch:=omega) only[aE,aA,cS,cM,cG,cA,aG,bo,bC,cw,al,bz,cond_true,cond_false,Bool.not_true,Bool.not_false,Option.bind_some,Int.toNat_natCast,Int.toNat_zero,ae,List.length_append,List.length_singleton,List.length_set,List.length_replicate,List.length_cons,List.length_nil]
  rfl
 ·have:0<(iI u.natAbs).length:=by
   apply List.length_pos_iff.2
   intro hd;rw[vj]at hd;omega
  rw[cA (by omega),cond_false]
  by_cases hn:u<0
  ·rw[decide_eq_true hn,cond_true,mC,if_pos hn]
  ·rw[decide_eq_false hn,cond_false,mC,if_neg hn,if_pos (by omega)]
theorem El(N:Nat)(hN:4000000≤N){u v:Int}(hu:Fit u 900000)(hv:Fit v 900000):JL N (b9 u) (b9 v)=some (mC (u-v)):=by
 unfold JL
 simp only[sT N hN hu hv,Option.bind_some,oS]
theorem Mr(l:List Int)(h: ∀x∈l,-9223372036854775808≤x∧x<9223372036854775808): -(9223372036854775808*l.length)≤l.sum∧l.sum≤9223372036854775808*l.length:=by
 induction l with
 |nil=>simp
 |cons x l ih=>
  have:=ih (fun y hy=>h y (List.mem_cons_of_mem _ hy))
  obtain⟨h1,h2⟩:=h x (List.mem_cons_self ..)
  rw[List.sum_cons,List.length_cons]
  omega
theorem Em{v:Int}{n:Nat}(hn:n≤1000000)(h0: -(9223372036854775808*n)≤v)(h1:v≤9223372036854775808*n):Fit v 3:=by
 unfold Fit
 rw[show(4294967296:Nat)^3=79228162514264337593543950336 from by decide]
 omega
theorem pR{l:List Int}(h: ∀x∈l,-9223372036854775808≤x∧x<9223372036854775808)(i:Nat): -9223372036854775808≤l.getD i 0∧l.getD i 0<9223372036854775808:=by
 rw[List.getD_eq_getElem?_getD]
 cases hn:l[i]? with
 |none=>exact⟨by decide,by decide⟩
 |some x=>exact h x (List.mem_of_getElem? hn)
theorem iJ(l:List Int){i:Nat}(h:i<l.length):(l.take (i+1)).sum=(l.take i).sum+l.getD i 0:=by
 rw[eW l h];simp
theorem vl(N:Nat)(hN:4000000≤N){l:List Int}(h: ∀x∈l,-9223372036854775808≤x∧x<9223372036854775808)(hl:l.length≤1000000): ∀(m n i:Nat) (z:aw),l.length-i≤m→m<n→i≤l.length→
  me.l3 N n l z (b9 (l.take i).sum) (i:Int)=some (b9 l.sum)
 |m,0,i,z,_,hn,_=>by omega
 |m,n+1,i,z,hm,hn,hi=>by
  unfold me.l3 me.kq
  by_cases h1:i<l.length
  ·obtain⟨g0,g1⟩:=pR h i
   have f1:=Mr (l.take i) (fun x hx=>h x (List.mem_of_mem_take hx))
   rw[List.length_take,Nat.min_eq_left (by omega)]at f1
   have f2:Fit (l.take i).sum 900000:=(Em (n:=i) (by omega) f1.1 f1.2).mono (by omega)
   have f3:Fit (l.getD i 0) 900000:=(Fit.i64 g0 g1).mono (by omega)
   simp (disch:=omega) only[aE,aA,cS,cM,cG,cA,aG,bo,bC,cw,al,bz,cond_true,cond_false,Bool.not_true,Bool.not_false,Option.bind_some,Int.toNat_natCast,Int.toNat_zero,ae,List.length_append,List.length_singleton,List.length_set,List.length_replicate,List.length_cons,List.length_nil,fg N (by omega) g0 g1,jR N hN f2 f3]
   rw[←iJ l h1]
   exact vl N hN h hl (m-1) n (i+1) z (by omega) (by omega) (by omega)
  ·simp (disch:=omega) only[aE,aA,cS,cM,cG,cA,aG,bo,bC,cw,al,bz,cond_true,cond_false,Bool.not_true,Bool.not_false,Option.bind_some,Int.toNat_natCast,Int.toNat_zero,ae,List.length_append,List.length_singleton,List.length_set,List.length_replicate,List.length_cons,List.length_nil]
   rw[List.take_of_length_le (by omega)]
theorem jn:b9 0=(false,([],())):=by unfold b9;rw[show(0:Int).natAbs=0 from rfl,gK];rfl
theorem uc(N:Nat)(hN:4000000≤N){l:List Int}(h: ∀x∈l,-9223372036854775808≤x∧x<9223372036854775808)(hl:l.length≤1000000):me N l=some (b9 l.sum):=by
 unfold me me.b
 have:=vl N hN h hl l.length N 0 (false,([],())) (by omega) (by omega) (by omega)
 rw[List.take_zero,List.sum_nil,jn]at this
 exact this
theorem QL{a b:Int}(ha:0≤a)(ha1:a<4294967296)(hb:0≤b)(ke:b<4294967296):jx .or .u64 a (b*4294967296)=a+b*4294967296:=by
 rw[Eh ha (by omega) (by omega) (by omega)]
 have h:=Nat.two_pow_add_eq_or_of_lt (i:=32) (b:=a.toNat) (by omega) b.toNat
 have e:(b*4294967296).toNat=2^32*b.toNat:=by omega
 rw[e,Nat.or_comm,←h];omega
theorem NV{a b:Int}(ha:0≤a)(ha1:a<4294967296)(hb:0≤b)(ke:b<4294967296):jx .or .u64 (b*4294967296) a=a+b*4294967296:=by
 rw[Eh (by omega) (by omega) ha (by omega)]
 have h:=Nat.two_pow_add_eq_or_of_lt (i:=32) (b:=a.toNat) (by omega) b.toNat
 have e:(b*4294967296).toNat=2^32*b.toNat:=by omega
 rw[e,←h];omega
theorem aar{x:Int}(h0:0≤x):shl .u64 x 32=x*4294967296:=by rw[Mk (by omega) (by omega)];rfl
def B4(v:Int):Int×Bool:=if-9223372036854775808≤v∧v<9223372036854775808 then(v,true)else(0,false)
theorem Um{n:Nat}(h:(iI n).length≤2):(iI n).getD 0 0+4294967296*(iI n).getD 1 0=n:=by
 have h1:=g8 (iI n) 0
 have h2:=g8 (iI n) 1
 rw[List.drop_zero,eM]at h1
 rw[List.drop_of_length_le (l:=iI n) (i:=1+1) h]at h2
 simp only[bZ,Nat.zero_add]at h1 h2
 omega
theorem qu(N:Nat)(v:Int):rZ N (b9 v)=some (B4 v):=by
 unfold rZ
 simp only[b9]
 by_cases hl:2<(iI v.natAbs).length
 ·rw[aE (by omega),cond_true,B4,if_neg]
  intro hh
  have:=sR 2 v.natAbs (by rw[show(4294967296:Nat)^2=18446744073709551616 from by decide];omega)
  omega
 ·have h2:=Um (n:=v.natAbs) (by omega)
  obtain⟨a0,a1⟩:=(gM v.natAbs).getD 0
  obtain⟨b0,b1⟩:=(gM v.natAbs).getD 1
  have e0:=rY N (iI v.natAbs) 0
  have e1:=rY N (iI v.natAbs) 1
  simp only[Int.natCast_zero,Int.natCast_one]at e0 e1
  rw[aA (by omega),cond_false,e0,e1]
  generalize (iI v.natAbs).getD 0 0=a at*
  generalize (iI v.natAbs).getD 1 0=b at*
  simp only[Option.bind_some]
  rw[aA (show(0:Int)≤32 by omega),cond_false,aar b0,bz (x:=b*4294967296) (by omega) (by omega),QL a0 a1 b0 b1]
  have ev:a+b*4294967296=v.natAbs:=by omega
  rw[ev]
  by_cases hn:v<0
  ·rw[decide_eq_true hn,cond_true]
   by_cases Ee:9223372036854775808<(v.natAbs:Int)
   ·rw[aE Ee,cond_true,B4,if_neg (by omega)]
   ·rw[aA (by omega),cond_false,B4,if_pos (by omega),jm,dO]
    congr 2
    split<;>omega
  ·rw[decide_eq_false hn,cond_false]
   by_cases Ee:9223372036854775807<(v.natAbs:Int)
   ·rw[aE Ee,cond_true,B4,if_neg (by omega)]
   ·rw[aA (by omega),cond_false,B4,if_pos (by omega),al (by omega) (by omega)]
    congr 2;omega
end VM
end
section
namespace VM
open Go VM.F
theorem GK: ∀(l:List Int) (k:Nat) (x:Int),k<l.length→bZ (l.set k x)=bZ l+4294967296^k*(x-l.getD k 0)
 |d::r,0,x,_=>by simp[bZ];omega
 |d::r,k+1,x,h=>by
  have ih:=GK r k x (by simpa using h)
  rw[List.set_cons_succ,bZ,bZ,ih,List.getD_cons_succ,Int.pow_succ,Int.mul_comm (4294967296^k) 4294967296,Int.mul_assoc,Int.mul_add];omega
theorem getD_set_ne(l:List Int){j k:Nat}(x:Int)(h:j≠k):(l.set j x).getD k 0=l.getD k 0:=by
 simp[List.getD_eq_getElem?_getD,List.getElem?_set_ne h]
theorem jo(l:List Int){k:Nat}(x:Int)(h:k<l.length):(l.set k x).getD k 0=x:=by
 simp[List.getD_eq_getElem?_getD,List.getElem?_set,h]
theorem qv(l:List Int){k:Nat}(h:l.length≤k):l.getD k 0=0:=by
 rw[List.getD_eq_getElem?_getD,List.getElem?_eq_none h];rfl
theorem xJ(N:Nat)(K:aw→aw→aw→List Int→Int→Option aw){a b:List Int}(na nb:Bool)(z:aw)(ha:VD a)(hb:VD b)(i:Nat)(hi:i<a.length)(tZ:a.length≤100000)(JI:b.length≤100000):
  ∀(m n j:Nat) (out:List Int) (c:Int),b.length+1-j≤m→m<n→VD out→out.length=a.length+b.length+1→0≤c→c<4294967296→(j≤b.length→ ∀k,i+b.length≤k→out.getD k 0=0)→(b.length<j→c=0∧j=b.length+1∧ ∀k,i+b.length+1≤k→out.getD k 0=0)→
  ∃qw,gv.l7 N K n (na,(a,())) (nb,(b,())) z out (i:Int) c (j:Int)=K (na,(a,())) (nb,(b,())) z qw ((i+1:Nat):Int)∧VD qw∧qw.length=out.length∧
   bZ qw=bZ out+4294967296^i*(4294967296^j*(a.getD i 0*bZ (b.drop j)+c))∧ ∀k,i+1+b.length≤k→qw.getD k 0=0
 |m,0,j,out,c,_,hn,_,_,_,_,_,_=>by omega
 |m,n+1,j,out,c,hm,hn,ho,yx,Pp,BS,hz,JJ=>by
  unfold gv.l7 gv.oT
  by_cases GD:b.length≤j∧c=0
  ·obtain⟨h1,rfl⟩:=GD
   simp (disch:=omega) only[aE,aA,cS,cM,cG,cA,aG,bo,bC,cw,al,bz,cond_true,cond_false,Bool.not_true,Bool.not_false,Option.bind_some,Int.toNat_natCast,Int.toNat_zero,ae,List.length_append,List.length_singleton,List.length_set,List.length_replicate,List.length_cons,List.length_nil]
   refine⟨out,rfl,ho,rfl,by rw[List.drop_of_length_le h1];simp[bZ],fun k hk=> ?_⟩
   by_cases hj:j≤b.length
   ·exact hz hj k (by omega)
   ·exact(JJ (by omega)).2.2 k (by omega)
  ·have BE:j≤b.length:=by
    by_cases hj:j≤b.length
    ·exact hj
    ·exact absurd ⟨by omega,(JJ (by omega)).1⟩ GD
   obtain⟨ga0,ga1⟩:=ha.getD i
   obtain⟨gb0,gb1⟩:=hb.getD j
   obtain⟨go0,go1⟩:=ho.getD (i+j)
   have step: ∃qw,gv.j9 N K (gv.l7 N K n) (na,(a,())) (nb,(b,())) z out (i:Int) c (j:Int)=K (na,(a,())) (nb,(b,())) z qw ((i+1:Nat):Int)∧VD qw∧qw.length=out.length∧
     bZ qw=bZ out+4294967296^i*(4294967296^j*(a.getD i 0*bZ (b.drop j)+c))∧ ∀k,i+1+b.length≤k→qw.getD k 0=0:=by
    unfold gv.j9 gv.Ki
    have eij:(i:Int)+(j:Int)=((i+j:Nat):Int):=rfl
    have hp:=mul_lt (m:=4294967295) (n:=4294967295) ga0 gb0 (by omega) (by omega)
    simp only[rY,Option.bind_some,eij,Int.toNat_natCast]
    simp (disch:=omega) only[aE,aA,cS,cM,cG,cA,aG,bo,bC,cw,al,bz,cond_true,cond_false,Bool.not_true,Bool.not_false,Option.bind_some,Int.toNat_natCast,Int.toNat_zero,ae,List.length_append,List.length_singleton,List.length_set,List.length_replicate,List.length_cons,List.length_nil]
    generalize hx:out.getD (i+j) 0=x at*
    generalize ha':a.getD i 0=ai at*
    generalize dF:b.getD j 0=bj at*
    generalize hpe:ai*bj=p at*
    have hpz:b.length≤j→p=0∧x=0:=fun h=>by
     rw[qv b h]at dF
     refine⟨by rw[←hpe,←dF,Int.mul_zero],?_⟩
     rw[←hx];exact hz BE _ (by omega)
    rw[gJ (by omega) (by omega),zY]
    have ank:(out.set (i+j) ((c+(x+p))%4294967296)).length=a.length+b.length+1:=by rw[List.length_set];exact yx
    obtain⟨qw,h1,h2,h3,h4,h5⟩:=xJ N K na nb z ha hb i hi tZ JI (m-1) n (j+1) (out.set (i+j) ((c+(x+p))%4294967296)) ((c+(x+p))/4294967296) (by omega) (by omega) (ho.set _ (by omega) (by omega)) ank (by omega) (by omega)
     (fun h k hk=>by rw[getD_set_ne _ _ (by omega)];exact hz BE k hk)
     (fun h=>by
      obtain⟨Pu,Qd⟩:=hpz (by omega)
      refine⟨by omega,by omega,fun k hk=> ?_⟩
      rw[getD_set_ne _ _ (by omega)];exact hz BE k (by omega))
    refine⟨qw,h1,h2,by rw[h3,List.length_set],?_,h5⟩
    rw[h4,GK _ _ _ (by omega),hx,ha',g8 b j,dF,Int.mul_add ai,hpe,Int.pow_add,Int.pow_succ]
    have e1:ai*(4294967296*bZ (b.drop (j+1)))=4294967296*(ai*bZ (b.drop (j+1))):=Int.mul_left_comm _ _ _
    rw[e1]
    generalize ai*bZ (b.drop (j+1))=y
    generalize (4294967296:Int)^i=P
    generalize (4294967296:Int)^j=R
    rw[Int.mul_assoc R,Int.mul_assoc P,Int.add_assoc,←Int.mul_add,←Int.mul_add]
    congr 3
    omega
   by_cases h1:j<b.length
   ·simp (disch:=omega) only[aE,cond_true];exact step
   ·have:0<c:=by omega
    simp (disch:=omega) only[aE,aA,cond_true,cond_false];exact step
theorem xK(N:Nat)(hN:4000000≤N){a b:List Int}(na nb:Bool)(z:aw)(ha:VD a)(hb:VD b)(tZ:a.length≤100000)(JI:b.length≤100000):
  ∀(m n i:Nat) (out:List Int),a.length-i≤m→m<n→i≤a.length→VD out→out.length=a.length+b.length+1→(∀k,i+b.length≤k→out.getD k 0=0)→bZ out=bZ (a.take i)*bZ b→
  gv.l3 N n (na,(a,())) (nb,(b,())) z out (i:Int)=some (b9 (if na=nb then bZ a*bZ b else-(bZ a*bZ b)))
 |m,0,i,out,_,hn,_,_,_,_,_=>by omega
 |m,n+1,i,out,hm,hn,hi,ho,yx,hz,hv=>by
  unfold gv.l3 gv.kq
  by_cases h1:i<a.length
  ·simp only
   rw[aE (by omega),cond_true]
   obtain⟨qw,e1,e2,e3,e4,e5⟩:=xJ N (gv.l3 N n) na nb z ha hb i h1 tZ JI (b.length+1) N 0 out 0 (by omega) (by omega) ho yx (by omega) (by omega) (fun _ k hk=>hz k hk) (fun h=>by omega)
   rw[show((0:Nat):Int)=0 from rfl]at e1
   rw[e1]
   refine xK N hN na nb z ha hb tZ JI (m-1) n (i+1) qw (by omega) (by omega) (by omega) e2 (by rw[e3];exact yx) (fun k hk=>e5 k (by omega)) ?_
   rw[e4,hv,eW a h1,nf,List.length_take,Nat.min_eq_left (by omega),List.drop_zero,Int.pow_zero,Int.one_mul,Int.add_zero,Int.add_mul,Int.mul_assoc]
  ·simp only
   rw[aA (by omega),cond_false]
   simp only[oR N _ ho (by omega) (by omega),Option.bind_some]
   rw[hv,List.take_of_length_le (by omega),nF]
   congr 2
   cases na<;>cases nb<;>simp
theorem Aa(N:Nat)(hN:4000000≤N){u v:Int}(hu:Fit u 90000)(hv:Fit v 90000):gv N (b9 u) (b9 v)=some (b9 (u*v)):=by
 have lu:=hu.len
 have lv:=hv.len
 unfold gv gv.b
 simp only[b9]
 simp (disch:=omega) only[aE,aA,cS,cM,cG,cA,aG,bo,bC,cw,al,bz,cond_true,cond_false,Bool.not_true,Bool.not_false,Option.bind_some,Int.toNat_natCast,Int.toNat_zero,ae,List.length_append,List.length_singleton,List.length_set,List.length_replicate,List.length_cons,List.length_nil]
 have e:(((iI u.natAbs).length:Int)+((iI v.natAbs).length:Int)+1).toNat=(iI u.natAbs).length+(iI v.natAbs).length+1:=by omega
 have:=xK N hN (decide (u<0)) (decide (v<0)) (false,([],())) (gM u.natAbs) (gM v.natAbs) (by omega) (by omega) (iI u.natAbs).length N 0 (List.replicate ((iI u.natAbs).length+(iI v.natAbs).length+1) 0) (by omega) (by omega) (by omega) (VD.aaq _) (by simp)
  (fun k _=>by rw[List.getD_eq_getElem?_getD,List.getElem?_replicate];split<;>rfl) (by
   have: ∀n,bZ (List.replicate n 0)=0:=fun n=>by
    induction n with
    |zero=>rfl
    |succ n ih=>rw[List.replicate_succ,bZ,ih];rfl
   rw[this];simp[bZ])
 rw[eM,eM]at this
 have e2:(((iI u.natAbs).length+(iI v.natAbs).length:Nat):Int)+1=(iI u.natAbs).length+(iI v.natAbs).length+1:=by omega
 first
 |(rw[e];refine this.trans ?_)
 |(refine(this).trans ?_)
 show some (b9 _)=some (b9 _)
 congr 2
 have key:(u.natAbs:Int)*v.natAbs=if decide (u<0)=decide (v<0)then u*v else-(u*v):=by
  by_cases h1:u<0<;>by_cases h2:v<0
  ·rw[if_pos (by simp[h1,h2]),show(u.natAbs:Int)= -u from by omega,show(v.natAbs:Int)= -v from by omega,Int.neg_mul_neg]
  ·rw[if_neg (by simp[h1,h2]),show(u.natAbs:Int)= -u from by omega,show(v.natAbs:Int)=v from by omega,Int.neg_mul]
  ·rw[if_neg (by simp[h1,h2]),show(u.natAbs:Int)=u from by omega,show(v.natAbs:Int)= -v from by omega,Int.mul_neg]
  ·rw[if_pos (by simp[h1,h2]),show(u.natAbs:Int)=u from by omega,show(v.natAbs:Int)=v from by omega]
 rw[key]
 split<;>simp
end VM
end
