/- A part of the proof of HedgeDrawn of layer 22: what the functions compute, in plain words. -/
import Derived.Test.YtocmlaipoebfeaaGreatVm0
import GoSem.Claim
import Derived.Test.YtocmlaipoebfeaaGreatText
set_option linter.all false
section
namespace VM
open Go
theorem jn(x:Int):W .u64 x=x%18446744073709551616:=by rw[yx];simp[IntKind.wrap,IntKind.bits,IntKind.signed]
theorem bD{x:Int}(h0:0≤x)(h1:x<18446744073709551616):W .u64 x=x:=by rw[jn];omega
theorem dV(x:Int):W .i64 x=if 9223372036854775808≤x%18446744073709551616 then x%18446744073709551616-18446744073709551616 else x%18446744073709551616:=by
 rw[yx];simp[IntKind.wrap,IntKind.bits,IntKind.signed]
theorem al{x:Int}(h0: -9223372036854775808≤x)(h1:x<9223372036854775808):W .i64 x=x:=by
 rw[dV];split<;>omega
theorem ahC{x:Int}(h0:0≤x)(h1:x<256):W .u8 x=x:=by rw[yx];simp[IntKind.wrap,IntKind.bits,IntKind.signed];omega
theorem wf_u64{x:Int}:(Lit.int .u64 x).wf=true↔0≤x∧x≤18446744073709551615:=by simp[Lit.wf,IntKind.min,IntKind.max,IntKind.bits,IntKind.signed]
theorem aD{x y:Int}(h:x<y):aG x y=true:=by rw[o9];exact decide_eq_true h
theorem ax{x y:Int}(h:y≤x):aG x y=false:=by rw[o9];exact decide_eq_false (by omega)
theorem cS{x y:Int}(h:x≤y):bW x y=true:=by rw[kN];exact decide_eq_true h
theorem cL{x y:Int}(h:y<x):bW x y=false:=by rw[kN];exact decide_eq_false (by omega)
theorem cM{x y:Int}(h:x=y):ay x y=true:=by rw[gb];exact decide_eq_true h
theorem cG{x y:Int}(h:x≠y):ay x y=false:=by rw[gb];exact decide_eq_false h
theorem aF{i:Int}{n:Nat}(h0:0≤i)(h1:i<n):aH i n=true:=by rw[Ka];exact decide_eq_true ⟨h0,h1⟩
theorem aZ{n:Nat}(h:n<68719476736):small n=true:=by rw[zK];exact decide_eq_true (by simpa [uM]using h)
theorem bG{l c:Int}(h0:0≤l)(h1:l≤c)(h2:c<68719476736):ga l c=true:=by rw[CH];exact decide_eq_true (by simp only[uM];omega)
theorem cE{l h m n:Int}(h0:0≤l)(h1:l≤h)(h2:h≤m)(h3:m≤n):gw l h m n=true:=by rw[uS];exact decide_eq_true ⟨h0,h1,h2,h3⟩
theorem ae(n:Nat):(n:Int)+1=((n+1:Nat):Int):=rfl
theorem oR(x:Int)(h0:0≤x)(h1:x<18446744073709551616):(BitVec.ofInt 64 x).toNat=x.toNat:=by
 rw[BitVec.toNat_ofInt];congr 1;omega
theorem G7{x y:Int}(hx:0≤x)(QH:x<18446744073709551616)(hy:0≤y)(T9:y<18446744073709551616):jC .and .u64 x y=((x.toNat&&& y.toNat:Nat):Int):=by
 rw[p3]
 have h:((BitVec.ofInt 64 x&&& BitVec.ofInt 64 y).toNat)=x.toNat&&& y.toNat:=by rw[BitVec.toNat_and,oR x hx QH,oR y hy T9]
 show IntKind.u64.wrap (((BitVec.ofInt 64 x&&& BitVec.ofInt 64 y).toNat:Nat):Int)=_
 rw[h,←yx]
 have:x.toNat&&& y.toNat≤x.toNat:=Nat.and_le_left
 exact bD (by omega) (by omega)
theorem EI{x y:Int}(hx:0≤x)(QH:x<18446744073709551616)(hy:0≤y)(T9:y<18446744073709551616):jC .or .u64 x y=((x.toNat|||y.toNat:Nat):Int):=by
 rw[p3]
 have h:((BitVec.ofInt 64 x|||BitVec.ofInt 64 y).toNat)=x.toNat|||y.toNat:=by rw[BitVec.toNat_or,oR x hx QH,oR y hy T9]
 show IntKind.u64.wrap (((BitVec.ofInt 64 x|||BitVec.ofInt 64 y).toNat:Nat):Int)=_
 rw[h,←yx]
 have:x.toNat|||y.toNat<2^64:=Nat.or_lt_two_pow (by omega) (by omega)
 exact bD (by omega) (by omega)
theorem gE{x:Int}(h0:0≤x)(h1:x<18446744073709551616):jC .and .u64 x 4294967295=x%4294967296:=by
 rw[G7 h0 h1 (by omega) (by omega)]
 have:=Nat.and_two_pow_sub_one_eq_mod x.toNat 32
 rw[show((4294967295:Int).toNat)=2^32-1 from rfl,this]
 omega
theorem sQ{x y:Int}(h0:0≤y)(h1:y≤64):shr .u64 x y=x/2^y.toNat:=by
 rw[Kb]
 have:min y.toNat IntKind.u64.bits=y.toNat:=by simp[IntKind.bits];omega
 rw[this,Int.fdiv_eq_ediv_of_nonneg]
 exact_mod_cast Nat.zero_le _
theorem Au(x:Int):shr .u64 x 32=x/4294967296:=by rw[sQ (by omega) (by omega)];rfl
theorem anD(x:Int):shr .u64 x 1=x/2:=by rw[sQ (by omega) (by omega)];rfl
theorem qj{x:Int}(h0: -9223372036854775808≤x)(h1:x<9223372036854775808):shr .i64 x 63=if x<0 then-1 else 0:=by
 rw[Kb]
 have:(2:Int)^(min (63:Int).toNat IntKind.i64.bits)=9223372036854775808:=by rfl
 rw[this,Int.fdiv_eq_ediv_of_nonneg _ (by omega)]
 split<;>omega
theorem MA{x y:Int}(h0:0≤y)(h1:y≤64):shl .u64 x y=x*2^y.toNat:=by
 rw[PC]
 have:min y.toNat IntKind.u64.bits=y.toNat:=by simp[IntKind.bits];omega
 rw[this]
theorem mul_lt{a b m n:Int}(ha:0≤a)(hb:0≤b)(ham:a≤m)(hbn:b≤n):0≤a*b∧a*b≤m*n:=
 ⟨Int.mul_nonneg ha hb,Int.le_trans (Int.mul_le_mul_of_nonneg_right ham hb) (Int.mul_le_mul_of_nonneg_left hbn (by omega))⟩
end VM
end
section
namespace VM
open Go VM.F
theorem N6(a b:Int):a*b=(a/4294967296)*(b/4294967296)*18446744073709551616+((a/4294967296)*(b%4294967296)+(a%4294967296)*(b/4294967296))*4294967296+(a%4294967296)*(b%4294967296):=by
 have ha:a=(a/4294967296)*4294967296+a%4294967296:=by omega
 have hb:b=(b/4294967296)*4294967296+b%4294967296:=by omega
 generalize a/4294967296=a1 at*
 generalize a%4294967296=a0 at*
 generalize b/4294967296=b1 at*
 generalize b%4294967296=b0 at*
 subst ha;subst hb
 simp only[Int.add_mul,Int.mul_add]
 have e1:a1*4294967296*(b1*4294967296)=a1*b1*18446744073709551616:=by
  rw[Int.mul_assoc,Int.mul_left_comm 4294967296,←Int.mul_assoc];rfl
 have e2:a1*4294967296*b0=a1*b0*4294967296:=by rw[Int.mul_assoc,Int.mul_comm 4294967296,←Int.mul_assoc]
 have e3:a0*(b1*4294967296)=a0*b1*4294967296:=by rw[←Int.mul_assoc]
 rw[e1,e2,e3];omega
theorem Av(N:Nat){a b:Int}(ha:0≤a)(Ua:a<18446744073709551616)(hb:0≤b)(kB:b<18446744073709551616):
  N7 N a b=some (a*b/18446744073709551616,a*b%18446744073709551616):=by
 unfold N7
 have hm:=N6 a b
 have h1:=mul_lt (m:=4294967295) (n:=4294967295) (show 0≤a/4294967296 by omega) (show 0≤b/4294967296 by omega) (by omega) (by omega)
 have h2:=mul_lt (m:=4294967295) (n:=4294967295) (show 0≤a/4294967296 by omega) (show 0≤b%4294967296 by omega) (by omega) (by omega)
 have h3:=mul_lt (m:=4294967295) (n:=4294967295) (show 0≤a%4294967296 by omega) (show 0≤b/4294967296 by omega) (by omega) (by omega)
 have h4:=mul_lt (m:=4294967295) (n:=4294967295) (show 0≤a%4294967296 by omega) (show 0≤b%4294967296 by omega) (by omega) (by omega)
 simp only[ax (show(0:Int)≤32 by omega),cond_false,gE ha Ua,gE hb kB,Au]
 generalize a/4294967296=a1 at*
 generalize a%4294967296=a0 at*
 generalize b/4294967296=b1 at*
 generalize b%4294967296=b0 at*
 generalize a*b=ab at*
 generalize a1*b1=p at*
 generalize a1*b0=q at*
 generalize a0*b1=r at*
 generalize a0*b0=s at*
 rw[bD (x:=q) (by omega) (by omega),bD (x:=s) (by omega) (by omega),bD (x:=r) (by omega) (by omega),bD (x:=p) (by omega) (by omega),bD (x:=q+s/4294967296) (by omega) (by omega),
  gE (by omega) (by omega),bD (x:=(q+s/4294967296)%4294967296+r) (by omega) (by omega),bD (x:=p+(q+s/4294967296)/4294967296) (by omega) (by omega),bD (x:=p+(q+s/4294967296)/4294967296+_) (by omega) (by omega),jn]
 congr 2
 omega
end VM
end
section
namespace VM
open Go VM.F
theorem EJ(N:Nat){x:Int}(h0: -9223372036854775808≤x)(h1:x<9223372036854775808):F96 N x=some (x.natAbs:Int):=by
 unfold F96
 by_cases h:x<0
 ·rw[aD h,cond_true,jn,jn];congr 1;omega
 ·rw[ax (by omega),cond_false,jn];congr 1;omega
theorem pI(N:Nat){x y c:Int}(hx:0≤x)(hy:0≤y)(hc:0≤c)(Es:c≤1):oC N x y c=some ((x+y+c)%18446744073709551616,(x+y+c)/18446744073709551616):=by
 unfold oC;rw[if_pos ⟨hx,hy,hc,Es⟩]
theorem iE(N:Nat){x y c:Int}(hx:0≤x)(QH:x<18446744073709551616)(hy:0≤y)(T9:y<18446744073709551616)(hc:0≤c)(Es:c≤1):
  oD N x y c=some ((x-y-c)%18446744073709551616,if x<y+c then 1 else 0):=by
 unfold oD;rw[if_pos ⟨hx,QH,hy,T9,hc,Es⟩];congr 2;omega
def bitLen(n:Nat):Nat:=if n=0 then 0 else bitLen (n/2)+1
termination_by n
decreasing_by omega
theorem nL{n:Nat}(h:n≠0):bitLen n=bitLen (n/2)+1:=by rw[bitLen];simp[h]
theorem rX:bitLen 0=0:=by rw[bitLen];rfl
theorem bitLen_shift(k:Nat): ∀n,2^k≤n→bitLen n=bitLen (n/2^k)+k:=by
 induction k with
 |zero=>intro n _;simp
 |succ k ih=>
  intro n h
  have hp:0<2^k:=Nat.pow_pos (by decide)
  rw[Nat.pow_succ]at h
  rw[nL (by omega),ih (n/2) (by omega),Nat.div_div_eq_div_mul,Nat.pow_succ,Nat.mul_comm 2];omega
theorem bitLen_spec(n:Nat):n<2^bitLen n∧(n≠0→2^(bitLen n-1)≤n):=by
 induction n using Nat.strongRecOn with
 |_ n ih=>
  by_cases h:n=0
  ·subst h;rw[rX];simp
  ·rw[nL h]
   obtain⟨h1,h2⟩:=ih (n/2) (by omega)
   refine⟨by rw[Nat.pow_succ];omega,fun _=> ?_⟩
   rw[Nat.add_sub_cancel]
   by_cases h3:n/2=0
   ·rw[h3,rX];simp;omega
   ·have:=h2 h3
    have e:bitLen (n/2)=(bitLen (n/2)-1)+1:=by rw[nL h3];omega
    rw[e,Nat.pow_succ];omega
theorem Ub: ∀i:Fin 256,((strOf [0,1,2,2,3,3,3,3,4,4,4,4,4,4,4,4,5,5,5,5,5,5,5,5,5,5,5,5,5,5,5,5,6,6,6,6,6,6,6,6,6,6,6,6,6,6,6,6,6,6,6,6,6,6,6,6,6,6,6,6,6,6,6,6,7,7,7,7,7,7,7,7,7,7,7,7,7,7,7,7,7,7,7,7,7,7,7,7,7,7,7,7,7,7,7,7,7,7,7,7,7,7,7,7,7,7,7,7,7,7,7,7,7,7,7,7,7,7,7,7,7,7,7,7,7,7,7,7,8,8,8,8,8,8,8,8,8,8,8,8,8,8,8,8,8,8,8,8,8,8,8,8,8,8,8,8,8,8,8,8,8,8,8,8,8,8,8,8,8,8,8,8,8,8,8,8,8,8,8,8,8,8,8,8,8,8,8,8,8,8,8,8,8,8,8,8,8,8,8,8,8,8,8,8,8,8,8,8,8,8,8,8,8,8,8,8,8,8,8,8,8,8,8,8,8,8,8,8,8,8,8,8,8,8,8,8,8,8,8,8,8,8,8,8,8,8,8,8,8,8,8,8,8,8,8,8]).data.getD i.val 0).toNat=Nat.log2 (2*i.val+1):=by decide+kernel
theorem xP(n:Nat):Nat.log2 (2*n+1)=bitLen n:=by
 induction n using Nat.strongRecOn with
 |_ n ih=>
  by_cases h:n=0
  ·subst h;rw[rX];decide
  ·rw[nL h,Nat.log2_def,if_pos (by omega),show(2*n+1)/2=n from by omega]
   congr 1
   have:=ih (n/2) (by omega)
   rw[←this]
   by_cases h2:n%2=0
   ·rw[Nat.log2_def,Nat.log2_def (n:=2*(n/2)+1)]
    have e1:(2*(n/2)+1)/2=n/2:=by omega
    rw[if_pos (by omega),if_pos (by omega),e1]
   ·congr 1;omega
theorem G8(i:Nat)(h:i<256):((strOf [0,1,2,2,3,3,3,3,4,4,4,4,4,4,4,4,5,5,5,5,5,5,5,5,5,5,5,5,5,5,5,5,6,6,6,6,6,6,6,6,6,6,6,6,6,6,6,6,6,6,6,6,6,6,6,6,6,6,6,6,6,6,6,6,7,7,7,7,7,7,7,7,7,7,7,7,7,7,7,7,7,7,7,7,7,7,7,7,7,7,7,7,7,7,7,7,7,7,7,7,7,7,7,7,7,7,7,7,7,7,7,7,7,7,7,7,7,7,7,7,7,7,7,7,7,7,7,7,8,8,8,8,8,8,8,8,8,8,8,8,8,8,8,8,8,8,8,8,8,8,8,8,8,8,8,8,8,8,8,8,8,8,8,8,8,8,8,8,8,8,8,8,8,8,8,8,8,8,8,8,8,8,8,8,8,8,8,8,8,8,8,8,8,8,8,8,8,8,8,8,8,8,8,8,8,8,8,8,8,8,8,8,8,8,8,8,8,8,8,8,8,8,8,8,8,8,8,8,8,8,8,8,8,8,8,8,8,8,8,8,8,8,8,8,8,8,8,8,8,8,8,8,8,8,8,8]).data.getD i 0).toNat=bitLen i:=by
 rw[←xP];exact Ub ⟨i,h⟩
theorem G9:ByteArray.size (strOf [0,1,2,2,3,3,3,3,4,4,4,4,4,4,4,4,5,5,5,5,5,5,5,5,5,5,5,5,5,5,5,5,6,6,6,6,6,6,6,6,6,6,6,6,6,6,6,6,6,6,6,6,6,6,6,6,6,6,6,6,6,6,6,6,7,7,7,7,7,7,7,7,7,7,7,7,7,7,7,7,7,7,7,7,7,7,7,7,7,7,7,7,7,7,7,7,7,7,7,7,7,7,7,7,7,7,7,7,7,7,7,7,7,7,7,7,7,7,7,7,7,7,7,7,7,7,7,7,8,8,8,8,8,8,8,8,8,8,8,8,8,8,8,8,8,8,8,8,8,8,8,8,8,8,8,8,8,8,8,8,8,8,8,8,8,8,8,8,8,8,8,8,8,8,8,8,8,8,8,8,8,8,8,8,8,8,8,8,8,8,8,8,8,8,8,8,8,8,8,8,8,8,8,8,8,8,8,8,8,8,8,8,8,8,8,8,8,8,8,8,8,8,8,8,8,8,8,8,8,8,8,8,8,8,8,8,8,8,8,8,8,8,8,8,8,8,8,8,8,8,8,8,8,8,8,8])=256:=by decide+kernel
set_option maxRecDepth 100000 in
theorem MB(N:Nat){x c:Int}(h0:0≤x)(h1:x<65536)(hc:0≤c)(Es:c≤100):jE.j7 N x c=some (c+bitLen x.toNat):=by
 unfold jE.j7 jE.Kz
 have h8:shr .u64 x 8=x/256:=by rw[sQ (by omega) (by omega)];rfl
 have hle: ∀n,n<256→bitLen n≤8:=fun n hn=>by
  rw[←xP]
  have:Nat.log2 (2*n+1)<9:=(Nat.log2_lt (by omega)).2 (by omega)
  omega
 by_cases h:256≤x
 ·have ht:=G8 (x/256).toNat (by omega)
  have hl:=hle (x/256).toNat (by omega)
  rw[cS h,cond_true,ax (show(0:Int)≤8 by omega),cond_false,h8]
  rw[ahC (x:=x/256) (by omega) (by omega)]
  extract_lets v8
  rw[G9,aF (by omega) (by omega),cond_true,ht]
  clear ht
  simp (disch:=omega) only[aD,ax,cS,cL,cM,cG,aF,aZ,bG,cE,al,bD,cond_true,cond_false,Bool.not_true,Bool.not_false,Option.bind_some,Int.toNat_natCast,Int.toNat_zero,ae,List.length_append,List.length_singleton,List.length_set,List.length_replicate,List.length_cons,List.length_nil]
  have:=bitLen_shift 8 x.toNat (by omega)
  rw[this]
  have e:(x/256).toNat=x.toNat/2^8:=by omega
  rw[e];congr 1;omega
 ·have ht:=G8 x.toNat (by omega)
  have hl:=hle x.toNat (by omega)
  rw[cL (by omega),cond_false,ahC (x:=x) (by omega) (by omega)]
  extract_lets v8
  rw[G9,aF (by omega) (by omega),cond_true,ht]
  clear ht
  simp (disch:=omega) only[aD,ax,cS,cL,cM,cG,aF,aZ,bG,cE,al,bD,cond_true,cond_false,Bool.not_true,Bool.not_false,Option.bind_some,Int.toNat_natCast,Int.toNat_zero,ae,List.length_append,List.length_singleton,List.length_set,List.length_replicate,List.length_cons,List.length_nil]
theorem QI(N:Nat){x:Int}(h0:0≤x)(h1:x<18446744073709551616):jE N x=some (bitLen x.toNat:Int):=by
 have h16: ∀y c:Int,0≤y→y<4294967296→0≤c→c≤50→jE.j4 N y c=some (c+bitLen y.toNat):=fun y c hy0 T9 hc Es=>by
  unfold jE.j4 jE.j4b
  by_cases h:65536≤y
  ·have e:shr .u64 y 16=y/65536:=by rw[sQ (by omega) (by omega)];rfl
   rw[cS h,cond_true,ax (by omega),cond_false,e,al (by omega) (by omega),MB N (by omega) (by omega) (by omega) (by omega)]
   have:=bitLen_shift 16 y.toNat (by omega)
   rw[this]
   have e:(y/65536).toNat=y.toNat/2^16:=by omega
   rw[e];congr 1;omega
  ·rw[cL (by omega),cond_false,MB N hy0 (by omega) hc (by omega)]
 unfold jE jE.b
 by_cases h:4294967296≤x
 ·rw[cS h,cond_true,ax (by omega),cond_false,Au,h16 _ _ (by omega) (by omega) (by omega) (by omega)]
  have:=bitLen_shift 32 x.toNat (by omega)
  rw[this]
  have e:(x/4294967296).toNat=x.toNat/2^32:=by omega
  rw[e];congr 1;omega
 ·rw[cL (by omega),cond_false,h16 _ _ h0 (by omega) (by omega) (by omega)]
  congr 1;omega
end VM
end
section
namespace VM
open Go VM.F
structure lK(Y yn1 yn0 un32 un1 q rh:Int):Prop where
 hY:Y=yn1*4294967296+yn0
 y1:2147483648≤yn1
 y1':yn1<4294967296
 y0:0≤yn0
 y0':yn0<4294967296
 u1:0≤un1
 u1':un1<4294967296
 lt:un32<Y
 q0:0≤q
 eq:q*yn1+rh=un32
 r0:0≤rh
 q1:q≤4294967297
 ge:(un32*4294967296+un1)/Y≤q
theorem lK.prod{Y yn1 yn0 un32 un1 q rh:Int}(g:lK Y yn1 yn0 un32 un1 q rh):q*Y=(un32-rh)*4294967296+q*yn0∧0≤q*yn0∧q*yn0≤18446744073709551615:=by
 have h:=mul_lt (m:=4294967297) (n:=4294967295) g.q0 g.y0 g.q1 (by have:=g.y0';omega)
 refine⟨?_,h.1,by omega⟩
 rw[g.hY,Int.mul_add,←Int.mul_assoc,show q*yn1=un32-rh from by have:=g.eq;omega]
theorem lK.pos{Y yn1 yn0 un32 un1 q rh:Int}(g:lK Y yn1 yn0 un32 un1 q rh):0<Y:=by have:=g.hY;have:=g.y1;have:=g.y0;omega
theorem lK.digit{Y yn1 yn0 un32 un1 q rh:Int}(g:lK Y yn1 yn0 un32 un1 q rh)(h:0≤un32):0≤(un32*4294967296+un1)/Y∧(un32*4294967296+un1)/Y<4294967296:=by
 have hp:=g.pos
 have:=g.u1;have:=g.u1';have:=g.lt
 refine⟨Int.ediv_nonneg (by omega) (by omega),?_⟩
 rw[Int.ediv_lt_iff_lt_mul hp];omega
theorem lK.done{Y yn1 yn0 un32 un1 q rh:Int}(g:lK Y yn1 yn0 un32 un1 q rh)(h:q*yn0≤4294967296*rh+un1):q=(un32*4294967296+un1)/Y:=by
 have hp:=g.pos
 have h1:=g.prod.1
 have h2:q≤(un32*4294967296+un1)/Y:=by
  rw[Int.le_ediv_iff_mul_le hp];omega
 have:=g.ge
 omega
theorem lK.next{Y yn1 yn0 un32 un1 q rh:Int}(g:lK Y yn1 yn0 un32 un1 q rh)(hu:0≤un32)(h:4294967296≤q∨4294967296*rh+un1<q*yn0):lK Y yn1 yn0 un32 un1 (q-1) (rh+yn1)∧1≤q:=by
 have hp:=g.pos
 have h1:=g.prod.1
 have hd:=g.digit hu
 have dD:(un32*4294967296+un1)/Y<q:=by
  rcases h with h|h
  ·omega
  ·rw[Int.ediv_lt_iff_lt_mul hp];omega
 have:=g.q1;have:=g.r0;have:=g.y1
 exact⟨⟨g.hY,g.y1,g.y1',g.y0,g.y0',g.u1,g.u1',g.lt,by omega,by rw[Int.sub_mul,Int.one_mul];have:=g.eq;omega,by omega,by omega,by omega⟩,by omega⟩
theorem MC(N:Nat){Y s yn1 yn0 un32 un1 un0:Int}(hu:0≤un32)(T1:un32<18446744073709551616): ∀(m n:Nat) (q rh:Int),lK Y yn1 yn0 un32 un1 q rh→rh<4294967296→4294967296-rh≤2147483648*m→m<n→
  cY.Ha N n Y s yn1 yn0 un32 un1 un0 q rh=cY.Pw N Y s yn1 yn0 un32 un1 un0 ((un32*4294967296+un1)/Y)
 |m,0,q,rh,_,_,_,hn=>by omega
 |m,n+1,q,rh,g,hr,hm,hn=>by
  unfold cY.Ha cY.Hb
  have yP:=g.prod
  have hd:=g.digit hu
  obtain⟨hY,y1,y1',y0,y0',u1,u1',lt,q0,eq,r0,q1,ge⟩:=id g
  have go:(4294967296≤q∨4294967296*rh+un1<q*yn0)→
    (cond (bW (4294967296:Int) (W .u64 (rh+yn1))) (cY.Pw N Y s yn1 yn0 un32 un1 un0 (W .u64 (q-1))) (cY.Ha N n Y s yn1 yn0 un32 un1 un0 (W .u64 (q-1)) (W .u64 (rh+yn1))))=cY.Pw N Y s yn1 yn0 un32 un1 un0 ((un32*4294967296+un1)/Y):=fun h=>by
   obtain⟨g',hq⟩:=g.next hu h
   rw[bD (x:=rh+yn1) (by omega) (by omega),bD (x:=q-1) (by omega) (by omega)]
   by_cases hb:4294967296≤rh+yn1
   ·rw[cS hb,cond_true]
    have wq:=g'.prod
    rw[g'.done (by omega)]
   ·rw[cL (by omega),cond_false]
    exact MC N hu T1 (m-1) n (q-1) (rh+yn1) g' (by omega) (by omega) (by omega)
  by_cases h1:4294967296≤q
  ·rw[cS h1,cond_true]
   exact go (.inl h1)
  ·rw[cL (by omega),cond_false,bD (x:=4294967296*rh) (by omega) (by omega),bD (x:=4294967296*rh+un1) (by omega) (by omega),bD (x:=q*yn0) (by omega) (by omega)]
   by_cases h2:4294967296*rh+un1<q*yn0
   ·rw[aD h2,cond_true]
    exact go (.inr h2)
   ·rw[ax (by omega),cond_false,g.done (by omega)]
theorem MD(N:Nat){Y s yn1 yn0 un32 un1 a b:Int}(hu:0≤un32)(T1:un32<18446744073709551616): ∀(m n:Nat) (q rh:Int),lK Y yn1 yn0 un32 un1 q rh→rh<4294967296→4294967296-rh≤2147483648*m→m<n→
  cY.zn N n Y s yn1 yn0 un1 a rh un32 q=cY.Z7 N Y s un1 a un32 ((un32*4294967296+un1)/Y)
 |m,0,q,rh,_,_,_,hn=>by omega
 |m,n+1,q,rh,g,hr,hm,hn=>by
  unfold cY.zn cY.Aw
  have yP:=g.prod
  have hd:=g.digit hu
  obtain⟨hY,y1,y1',y0,y0',u1,u1',lt,q0,eq,r0,q1,ge⟩:=id g
  have go:(4294967296≤q∨4294967296*rh+un1<q*yn0)→
    (cond (bW (4294967296:Int) (W .u64 (rh+yn1))) (cY.Z7 N Y s un1 a un32 (W .u64 (q-1))) (cY.zn N n Y s yn1 yn0 un1 a (W .u64 (rh+yn1)) un32 (W .u64 (q-1))))=cY.Z7 N Y s un1 a un32 ((un32*4294967296+un1)/Y):=fun h=>by
   obtain⟨g',hq⟩:=g.next hu h
   rw[bD (x:=rh+yn1) (by omega) (by omega),bD (x:=q-1) (by omega) (by omega)]
   by_cases hb:4294967296≤rh+yn1
   ·rw[cS hb,cond_true]
    have wq:=g'.prod
    rw[g'.done (by omega)]
   ·rw[cL (by omega),cond_false]
    exact MD N (b:=b) hu T1 (m-1) n (q-1) (rh+yn1) g' (by omega) (by omega) (by omega)
  by_cases h1:4294967296≤q
  ·rw[cS h1,cond_true]
   exact go (.inl h1)
  ·rw[cL (by omega),cond_false,bD (x:=4294967296*rh) (by omega) (by omega),bD (x:=4294967296*rh+un1) (by omega) (by omega),bD (x:=q*yn0) (by omega) (by omega)]
   by_cases h2:4294967296*rh+un1<q*yn0
   ·rw[aD h2,cond_true]
    exact go (.inr h2)
   ·rw[ax (by omega),cond_false,g.done (by omega)]
theorem lK.first{Y yn1 yn0 un32 un1:Int}(hY:Y=yn1*4294967296+yn0)(y1:2147483648≤yn1)(y1':yn1<4294967296)(y0:0≤yn0)(y0':yn0<4294967296)(u1:0≤un1)(u1':un1<4294967296)(hu:0≤un32)(lt:un32<Y):
  lK Y yn1 yn0 un32 un1 (un32/yn1) (un32-un32/yn1*yn1)∧un32-un32/yn1*yn1<4294967296∧0≤un32/yn1*yn1∧un32/yn1*yn1≤un32:=by
 have h1:=Int.mul_ediv_add_emod un32 yn1
 have h2:=Int.emod_lt_of_pos un32 (show 0<yn1 by omega)
 have h3:=Int.emod_nonneg un32 (show yn1≠0 by omega)
 have NG:0≤un32/yn1:=Int.ediv_nonneg hu (by omega)
 rw[Int.mul_comm]at h1
 have hq1:un32/yn1≤4294967297:=by
  have:un32/yn1<4294967298:=by rw[Int.ediv_lt_iff_lt_mul (by omega)];omega
  omega
 have TN:(un32*4294967296+un1)/Y≤un32/yn1:=by
  have dD:un32*4294967296+un1<(un32/yn1+1)*Y:=by
   have e:un32+1≤(un32/yn1+1)*yn1:=by rw[Int.add_mul,Int.one_mul];omega
   have e2:(un32/yn1+1)*Y=(un32/yn1+1)*yn1*4294967296+(un32/yn1+1)*yn0:=by rw[hY,Int.mul_add,Int.mul_assoc]
   have e3:0≤(un32/yn1+1)*yn0:=Int.mul_nonneg (by omega) y0
   omega
  have:(un32*4294967296+un1)/Y<un32/yn1+1:=by rw[Int.ediv_lt_iff_lt_mul (by omega)];exact dD
  omega
 exact⟨⟨hY,y1,y1',y0,y0',u1,u1',lt,NG,by omega,by omega,hq1,TN⟩,by omega,Int.mul_nonneg NG (by omega),by omega⟩
theorem QJ{a b:Int}{k:Nat}(ha:0≤a)(Ua:a<2^k)(hb:0≤b)(h:b*2^k<18446744073709551616)(hk:k<64):jC .or .u64 (b*2^k) a=b*2^k+a:=by
 have hp:(0:Int)<2^k:=Int.pow_pos (by decide)
 have hpn:((2^k:Nat):Int)=2^k:=by rw[Int.natCast_pow];rfl
 have avh:(2:Int)^k≤2^63:=by
  rw[←hpn,show(2:Int)^63=((2^63:Nat):Int)from by decide]
  exact_mod_cast Nat.pow_le_pow_right (by decide) (by omega)
 have asA:(2:Int)^63=9223372036854775808:=by decide
 have tb:=Int.mul_nonneg hb (Int.le_of_lt hp)
 rw[EI tb h ha (by omega)]
 have h1:=Nat.two_pow_add_eq_or_of_lt (i:=k) (b:=a.toNat) (by
  have:((a.toNat:Nat):Int)<((2^k:Nat):Int):=by rw[hpn,Int.toNat_of_nonneg ha];exact Ua
  exact_mod_cast this) b.toNat
 have e:(b*2^k).toNat=2^k*b.toNat:=by
  have:((2^k*b.toNat:Nat):Int)=b*2^k:=by rw[Int.natCast_mul,hpn,Int.toNat_of_nonneg hb,Int.mul_comm]
  omega
 rw[e,←h1,Int.natCast_add,Int.natCast_mul,hpn,Int.toNat_of_nonneg hb,Int.toNat_of_nonneg ha,Int.mul_comm]
theorem Hc(N:Nat)(hN:100≤N){hi lo y:Int}(h0:0≤hi)(h1:hi<y)(l0:0≤lo)(l1:lo<18446744073709551616)(y1:y<18446744073709551616):
  cY N hi lo y=some ((hi*18446744073709551616+lo)/y,(hi*18446744073709551616+lo)%y):=by
 unfold cY cY.b
 rw[cG (show y≠0 by omega),cond_false,cL (by omega),cond_false]
 by_cases hz:hi=0
 ·subst hz
  rw[cM rfl,cond_true,cond_false,cond_false,D8,PB,Int.tdiv_eq_ediv_of_nonneg l0,Int.tmod_eq_emod_of_nonneg l0]
  have e1:0≤lo/y:=Int.ediv_nonneg l0 (by omega)
  have e2:lo/y≤lo:=Int.ediv_le_self _ l0
  rw[bD (by omega) (by omega)]
  simp
 ·rw[cG hz,cond_false]
  obtain⟨b1,b2⟩:=bitLen_spec y.toNat
  have b2:=b2 (by omega)
  obtain⟨L,hL⟩: ∃L,L=bitLen y.toNat:=⟨_,rfl⟩
  rw[←hL]at b1 b2
  have hL1:1≤L:=by rw[hL,nL (by omega)];omega
  have avi:L≤64:=by
   rcases Nat.lt_or_ge 64 L with h|h
   ·have h3:2^64≤2^(L-1):=Nat.pow_le_pow_right (by decide) (by omega)
    have:(2:Nat)^64=18446744073709551616:=by decide
    omega
   ·exact h
  have hl:Uc N y=some (64-(L:Int)):=by
   unfold Uc
   rw[QI N (by omega) y1,Option.bind_some,←hL,al (by omega) (by omega)]
  obtain⟨s,hs⟩: ∃s:Nat,s=64-L:=⟨_,rfl⟩
  have hsI:64-(L:Int)=(s:Int):=by omega
  rw[hl,Option.bind_some,hsI]
  clear hl
  have hpn: ∀k:Nat,((2^k:Nat):Int)=2^k:=fun k=>by rw[Int.natCast_pow];rfl
  obtain⟨p,hp⟩: ∃p:Int,p=2^s:=⟨_,rfl⟩
  obtain⟨p',wq⟩: ∃p':Int,p'=2^(64-s):=⟨_,rfl⟩
  have BT:p'*p=18446744073709551616:=by
   rw[hp,wq,←Int.pow_add,show 64-s+s=64 from by omega];decide
  have Pu:0<p:=by rw[hp];exact Int.pow_pos (by decide)
  have avk:0<p':=by rw[wq];exact Int.pow_pos (by decide)
  have T9:y*p<18446744073709551616:=by
   have h:y.toNat*2^s<2^L*2^s:=Nat.mul_lt_mul_of_pos_right b1 (Nat.pow_pos (by decide))
   rw[←Nat.pow_add,show L+s=64 from by omega,show(2:Nat)^64=18446744073709551616 from by decide]at h
   have:((y.toNat*2^s:Nat):Int)=y*p:=by rw[Int.natCast_mul,hpn,←hp,Int.toNat_of_nonneg (by omega)]
   omega
  have hy2:9223372036854775808≤y*p:=by
   have h:2^(L-1)*2^s≤y.toNat*2^s:=Nat.mul_le_mul_right _ b2
   rw[←Nat.pow_add,show L-1+s=63 from by omega,show(2:Nat)^63=9223372036854775808 from by decide]at h
   have:((y.toNat*2^s:Nat):Int)=y*p:=by rw[Int.natCast_mul,hpn,←hp,Int.toNat_of_nonneg (by omega)]
   omega
  have anE: ∀x:Int,shl .u64 x (s:Int)=x*p:=fun x=>by rw[MA (by omega) (by omega),hp];rfl
  have anF:shr .u64 lo (64-(s:Int))=lo*p/18446744073709551616:=by
   rw[sQ (by omega) (by omega),show(64-(s:Int)).toNat=64-s from by omega,←wq,←BT,Int.mul_ediv_mul_of_pos_left _ _ Pu]
  have hhp:hi*p+p≤y*p:=by
   have:=Int.mul_le_mul_of_nonneg_right (show hi+1≤y by omega) (Int.le_of_lt Pu)
   rw[Int.add_mul,Int.one_mul]at this;exact this
  have avn:0≤hi*p:=Int.mul_nonneg h0 (Int.le_of_lt Pu)
  have anG:0≤lo*p:=Int.mul_nonneg l0 (Int.le_of_lt Pu)
  have anH:lo*p<18446744073709551616*p:=Int.mul_lt_mul_of_pos_right l1 Pu
  have rp:lo*p/18446744073709551616<p:=by rw[Int.ediv_lt_iff_lt_mul (by omega),Int.mul_comm p];exact anH
  have ht0:0≤lo*p/18446744073709551616:=Int.ediv_nonneg anG (by omega)
  have Ud:jC .or .u64 (hi*p) (lo*p/18446744073709551616)=hi*p+lo*p/18446744073709551616:=by
   have:=QJ (k:=s) (a:=lo*p/18446744073709551616) (b:=hi) ht0 (by rw[←hp];exact rp) h0 (by rw[←hp];omega) (by omega)
   rw[←hp]at this;exact this
  obtain⟨Y,hY⟩: ∃Y,Y=y*p:=⟨_,rfl⟩
  have hU:(hi*18446744073709551616+lo)*p=(hi*p+lo*p/18446744073709551616)*18446744073709551616+lo*p%18446744073709551616:=by
   rw[Int.add_mul,Int.mul_assoc,Int.mul_comm 18446744073709551616 p,←Int.mul_assoc];omega
  have hws:W .u64 (s:Int)=(s:Int):=bD (by omega) (by omega)
  have anI:W .u64 (64-(s:Int))=64-(s:Int):=bD (by omega) (by omega)
  have hwl:W .u64 (lo*p)=lo*p%18446744073709551616:=jn _
  simp only[hws,anI,anE,anF,hwl]
  rw[←hY]at T9 hy2 hhp ⊢
  have hwy:W .u64 Y=Y:=bD (by omega) (by omega)
  have hwh:W .u64 (hi*p)=hi*p:=bD (by omega) (by omega)
  simp only[hwy,hwh,Ud]
  obtain⟨u,hu⟩: ∃u,u=hi*p+lo*p/18446744073709551616:=⟨_,rfl⟩
  obtain⟨v,hv⟩: ∃v,v=lo*p%18446744073709551616:=⟨_,rfl⟩
  rw[←hu,←hv]at hU ⊢
  have hv0:0≤v:=by omega
  have Gs:v<18446744073709551616:=by omega
  have hu0:0≤u:=by omega
  have hu1:u<Y:=by omega
  have hmy:jC .and .u64 Y 4294967295=Y%4294967296:=gE (by omega) (by omega)
  have hmv:jC .and .u64 v 4294967295=v%4294967296:=gE hv0 Gs
  obtain⟨g1,g2,g3,g4⟩:=lK.first (Y:=Y) (yn1:=Y/4294967296) (yn0:=Y%4294967296) (un32:=u) (un1:=v/4294967296) (by omega) (by omega) (by omega) (by omega) (by omega) (by omega) (by omega) hu0 hu1
  have hq:quo u (Y/4294967296)=u/(Y/4294967296):=by rw[D8,Int.tdiv_eq_ediv_of_nonneg hu0]
  have hwq:W .u64 (u/(Y/4294967296))=u/(Y/4294967296):=bD g1.q0 (by have:=g1.q1;omega)
  have hwm:W .u64 (u/(Y/4294967296)*(Y/4294967296))=u/(Y/4294967296)*(Y/4294967296):=bD g3 (by omega)
  have hwr:W .u64 (u-u/(Y/4294967296)*(Y/4294967296))=u-u/(Y/4294967296)*(Y/4294967296):=bD (by omega) (by omega)
  rw[ax (show(0:Int)≤s by omega),ax (show(0:Int)≤32 by omega),ax (show(0:Int)≤64-(s:Int)by omega),Au,Au,hmy,hmv,cG (show Y/4294967296≠0 by omega),hq,hwq,hwm,hwr]
  simp only[cond_false]
  rw[MC N hu0 (by omega) 3 N _ _ g1 g2 (by omega) (by omega)]
  have d1:=g1.digit hu0
  clear hq hwq hwm hwr g1 g2 g3 g4
  obtain⟨q1,hq1⟩: ∃q1,q1=(u*4294967296+v/4294967296)/Y:=⟨_,rfl⟩
  have m1:=Int.mul_ediv_add_emod (u*4294967296+v/4294967296) Y
  have m2:=Int.emod_lt_of_pos (u*4294967296+v/4294967296) (show 0<Y by omega)
  have m3:=Int.emod_nonneg (u*4294967296+v/4294967296) (show Y≠0 by omega)
  rw[←hq1]at d1 m1 ⊢
  obtain⟨r1,QE⟩: ∃r1,r1=(u*4294967296+v/4294967296)%Y:=⟨_,rfl⟩
  rw[←QE]at m1 m2 m3
  rw[Int.mul_comm]at m1
  unfold cY.Pw cY.KA
  have anJ:W .u64 (W .u64 (W .u64 (u*4294967296)+v/4294967296)-W .u64 (q1*Y))=r1:=by
   simp only[jn]
   generalize q1*Y=z at*
   omega
  simp only[anJ]
  obtain⟨g1,g2,g3,g4⟩:=lK.first (Y:=Y) (yn1:=Y/4294967296) (yn0:=Y%4294967296) (un32:=r1) (un1:=v%4294967296) (by omega) (by omega) (by omega) (by omega) (by omega) (by omega) (by omega) m3 m2
  have hq:quo r1 (Y/4294967296)=r1/(Y/4294967296):=by rw[D8,Int.tdiv_eq_ediv_of_nonneg m3]
  have hwq:W .u64 (r1/(Y/4294967296))=r1/(Y/4294967296):=bD g1.q0 (by have:=g1.q1;omega)
  have hwm:W .u64 (r1/(Y/4294967296)*(Y/4294967296))=r1/(Y/4294967296)*(Y/4294967296):=bD g3 (by omega)
  have hwr:W .u64 (r1-r1/(Y/4294967296)*(Y/4294967296))=r1-r1/(Y/4294967296)*(Y/4294967296):=bD (by omega) (by omega)
  rw[cG (show Y/4294967296≠0 by omega),hq,hwq,hwm,hwr,cond_false,MD N (b:=0) m3 (by omega) 3 N _ _ g1 g2 (by omega) (by omega)]
  have d0:=g1.digit m3
  clear hq hwq hwm hwr g1 g2 g3 g4
  obtain⟨q0,NG⟩: ∃q0,q0=(r1*4294967296+v%4294967296)/Y:=⟨_,rfl⟩
  have n1:=Int.mul_ediv_add_emod (r1*4294967296+v%4294967296) Y
  have n2:=Int.emod_lt_of_pos (r1*4294967296+v%4294967296) (show 0<Y by omega)
  have n3:=Int.emod_nonneg (r1*4294967296+v%4294967296) (show Y≠0 by omega)
  rw[←NG]at d0 n1 ⊢
  obtain⟨r0,hr0⟩: ∃r0,r0=(r1*4294967296+v%4294967296)%Y:=⟨_,rfl⟩
  rw[←hr0]at n1 n2 n3
  rw[Int.mul_comm]at n1
  unfold cY.Z7 cY.ab5
  have anK:W .u64 (W .u64 (W .u64 (r1*4294967296)+v%4294967296)-W .u64 (q0*Y))=r0:=by
   simp only[jn]
   generalize q0*Y=z at*
   omega
  rw[ax (show(0:Int)≤s by omega),cond_false,anK,bD (x:=q1*4294967296) (by omega) (by omega),bD (x:=q1*4294967296+q0) (by omega) (by omega),sQ (by omega) (by omega),Int.toNat_natCast,←hp]
  obtain⟨V,hV⟩: ∃V,V=hi*18446744073709551616+lo:=⟨_,rfl⟩
  obtain⟨Q,hQ⟩: ∃Q,Q=q1*4294967296+q0:=⟨_,rfl⟩
  rw[←hV]at hU ⊢
  rw[←hQ]
  have hQY:Q*Y=q1*Y*4294967296+q0*Y:=by rw[hQ,Int.add_mul,Int.mul_assoc,Int.mul_comm 4294967296 Y,←Int.mul_assoc]
  have avv:V*p=Q*Y+r0:=by rw[hU,hQY];generalize q1*Y=z1 at*;generalize q0*Y=z0 at*;omega
  have ahI:r0=(V-Q*y)*p:=by rw[Int.sub_mul,Int.mul_assoc,←hY];omega
  have hd0:0≤V-Q*y:=by
   by_cases h:V-Q*y<0
   ·have:=Int.mul_neg_of_neg_of_pos h Pu;omega
   ·omega
  have hd1:V-Q*y<y:=by
   by_cases h:V-Q*y<y
   ·exact h
   ·have:=Int.mul_le_mul_of_nonneg_right (show y≤V-Q*y by omega) (Int.le_of_lt Pu);rw[←ahI,←hY]at this;omega
  have hVe:V=(V-Q*y)+y*Q:=by rw[Int.mul_comm y Q];omega
  have e1:V/y=Q:=by
   rw[hVe,Int.add_mul_ediv_left _ _ (by omega),Int.ediv_eq_zero_of_lt hd0 hd1];omega
  have e2:V%y=V-Q*y:=by
   have:=Int.mul_ediv_add_emod V y
   rw[e1,Int.mul_comm]at this;omega
  rw[e1,e2,ahI,Int.mul_ediv_cancel _ (by omega)]
end VM
end
section
namespace VM
open Go VM.F
def b9:List Int→Int
 |[]=>0
 |d::r=>d+4294967296*b9 r
def VD(l:List Int):Prop:= ∀d∈l,0≤d∧d<4294967296
def iy(n:Nat):List Int:=if n=0 then []else((n%4294967296:Nat):Int)::iy (n/4294967296)
termination_by n
decreasing_by omega
theorem gF:iy 0=[]:=by rw[iy];rfl
theorem sR{n:Nat}(h:n≠0):iy n=((n%4294967296:Nat):Int)::iy (n/4294967296):=by rw[iy];simp[h]
theorem VD.nil:VD []:=fun d h=>by cases h
theorem VD.cons{d:Int}{l:List Int}(h0:0≤d)(h1:d<4294967296)(h:VD l):VD (d::l):=fun x hx=>by
 rcases List.mem_cons.1 hx with rfl|hx
 ·exact⟨h0,h1⟩
 ·exact h x hx
theorem VD.tail{d:Int}{l:List Int}(h:VD (d::l)):VD l:=fun x hx=>h x (List.mem_cons_of_mem _ hx)
theorem VD.drop{l:List Int}(h:VD l)(n:Nat):VD (l.drop n):=fun x hx=>h x (List.mem_of_mem_drop hx)
theorem VD.take{l:List Int}(h:VD l)(n:Nat):VD (l.take n):=fun x hx=>h x (List.mem_of_mem_take hx)
theorem VD.getD{l:List Int}(h:VD l)(n:Nat):0≤l.getD n 0∧l.getD n 0<4294967296:=by
 rw[List.getD_eq_getElem?_getD]
 cases hn:l[n]? with
 |none=>exact⟨Int.le_refl _,by decide⟩
 |some x=>exact h x (List.mem_of_getElem? hn)
theorem VD.set{l:List Int}(h:VD l)(n:Nat){x:Int}(h0:0≤x)(h1:x<4294967296):VD (l.set n x):=fun y hy=>by
 rcases List.mem_or_eq_of_mem_set hy with hy|rfl
 ·exact h y hy
 ·exact⟨h0,h1⟩
theorem VD.Z8(n:Nat):VD (List.replicate n 0):=fun x hx=>by rw[List.eq_of_mem_replicate hx];exact⟨Int.le_refl _,by decide⟩
theorem gG: ∀{l:List Int},VD l→0≤b9 l
 |[],_=>Int.le_refl _
 |d::r,h=>by
  have:=gG h.tail
  have:=(h d (List.mem_cons_self ..)).1
  simp only[b9];omega
theorem eF(n:Nat):b9 (iy n)=n:=by
 induction n using Nat.strongRecOn with
 |_ n ih=>
  by_cases h:n=0
  ·subst h;rw[gF];rfl
  ·rw[sR h,b9,ih _ (by omega)];omega
theorem gd(n:Nat):VD (iy n):=by
 induction n using Nat.strongRecOn with
 |_ n ih=>
  by_cases h:n=0
  ·subst h;rw[gF];exact VD.nil
  ·rw[sR h];exact VD.cons (by omega) (by omega) (ih _ (by omega))
theorem vo{n:Nat}:iy n=[]↔n=0:=by
 constructor
 ·intro h
  by_cases hn:n=0
  ·exact hn
  ·rw[sR hn]at h;cases h
 ·rintro rfl;exact gF
theorem qk(k:Nat): ∀n,n<4294967296^k→(iy n).length≤k:=by
 induction k with
 |zero=>
  intro n h;have:n=0:=by simpa using h
  subst this;rw[gF];simp
 |succ k ih=>
  intro n h
  by_cases hn:n=0
  ·subst hn;rw[gF];simp
  ·rw[sR hn,List.length_cons]
   have:=ih (n/4294967296) (by rw[Nat.div_lt_iff_lt_mul (by omega)];rw[Nat.pow_succ]at h;exact h)
   omega
theorem EK(k:Nat): ∀n,(iy n).length≤k→n<4294967296^k:=by
 induction k with
 |zero=>
  intro n h
  have:iy n=[]:=List.eq_nil_of_length_eq_zero (by omega)
  rw[vo]at this;subst this;decide
 |succ k ih=>
  intro n h
  by_cases hn:n=0
  ·subst hn;exact Nat.pow_pos (by decide)
  ·rw[sR hn,List.length_cons]at h
   have:=ih (n/4294967296) (by omega)
   rw[Nat.div_lt_iff_lt_mul (by omega)]at this
   rw[Nat.pow_succ];exact this
def strip:List Int→List Int
 |[]=>[]
 |d::r=>if strip r=[]∧d=0 then []else d::strip r
theorem Hd: ∀{l:List Int},VD l→strip l=iy (b9 l).toNat
 |[],_=>by rw[show(b9 []).toNat=0 from rfl,gF];rfl
 |d::r,h=>by
  have ih:=Hd h.tail
  have h0:=gG h.tail
  obtain⟨h1,h2⟩:=h d (List.mem_cons_self ..)
  simp only[strip,b9,ih,vo]
  split
  ·rename_i hc
   obtain⟨hc,rfl⟩:=hc
   have:b9 r=0:=by omega
   rw[this];exact gF.symm
  ·rename_i hc
   have gk:(d+4294967296*b9 r).toNat≠0:=fun he=>hc ⟨by omega,by omega⟩
   rw[sR gk]
   congr 1
   ·omega
   ·congr 1;omega
theorem Ax: ∀(l:List Int) (x:Int),strip (l++[x])=if x=0 then strip l else l++[x]
 |[],x=>by simp[strip]
 |d::r,x=>by
  simp only[List.cons_append,strip,Ax r x]
  split
  ·rfl
  ·simp
theorem eZ(l:List Int){k:Nat}(h:k<l.length):l.take (k+1)=l.take k++[l.getD k 0]:=by
 rw[List.take_succ_eq_append_getElem h,List.getD_eq_getElem?_getD,List.getElem?_eq_getElem h];rfl
theorem C2(N:Nat)(l:List Int)(hl:l.length<68719476736): ∀(k n:Nat),k≤l.length→k<n→kV.l2 N n l (k:Int)=some (strip (l.take k))
 |0,n+1,_,_=>by
  unfold kV.l2 kV.dx
  simp (disch:=omega) only[aD,ax,cS,cL,cM,cG,aF,aZ,bG,cE,al,bD,cond_true,cond_false,Bool.not_true,Bool.not_false,Option.bind_some,Int.toNat_natCast,Int.toNat_zero,ae,List.length_append,List.length_singleton,List.length_set,List.length_replicate,List.length_cons,List.length_nil]
  simp[strip]
 |k+1,n+1,hk,hn=>by
  unfold kV.l2 kV.dx
  have e:((k+1:Nat):Int)-1=(k:Int):=by omega
  simp (disch:=omega) only[aD,ax,cS,cL,cM,cG,aF,aZ,bG,cE,al,bD,cond_true,cond_false,Bool.not_true,Bool.not_false,Option.bind_some,Int.toNat_natCast,Int.toNat_zero,ae,List.length_append,List.length_singleton,List.length_set,List.length_replicate,List.length_cons,List.length_nil,e]
  have ih:=C2 N l hl k n (by omega) (by omega)
  rw[eZ l (by omega),Ax]
  by_cases h:l.getD k 0=0
  ·rw[cM h,cond_true,ih,if_pos h]
  ·rw[cG h,cond_false,if_neg h]
   simp only[Int.toNat_zero,List.drop_zero]
theorem EL(N:Nat){l:List Int}(h:VD l)(hN:l.length<N)(hl:l.length<68719476736):kV N l=some (iy (b9 l).toNat):=by
 unfold kV kV.b
 rw[C2 N l hl l.length N (Nat.le_refl _) hN,List.take_length,Hd h]
def bn(v:Int):aw:=(decide (v<0),(iy v.natAbs,()))
theorem lz(N:Nat)(neg:Bool){l:List Int}(h:VD l)(hN:l.length<N)(hl:l.length<68719476736):N8 N neg l=some (bn (if neg then-b9 l else b9 l)):=by
 unfold N8
 rw[EL N h hN hl,Option.bind_some]
 have h0:=gG h
 cases neg
 ·simp only[cond_false,bn,Bool.false_eq_true,if_false]
  rw[decide_eq_false (by omega)]
  congr 4;omega
 ·simp only[cond_true,bn,if_true]
  have e:(-b9 l).natAbs=(b9 l).toNat:=by omega
  rw[e]
  congr 2
  by_cases hz:b9 l=0
  ·rw[hz,Int.toNat_zero,gF,ax (by simp),decide_eq_false (by omega)]
  ·have:0<(iy (b9 l).toNat).length:=by
    apply List.length_pos_iff.2
    intro hd;rw[vo]at hd;omega
   rw[aD (by omega),decide_eq_true (by omega)]
theorem size_eq(N:Nat)(hN:1000≤N){u:Int}(h0:0≤u)(h1:u<18446744073709551616):F67 N u=some (iy u.toNat):=by
 unfold F67
 rw[gE h0 h1,Au]
 have hv:VD [u%4294967296,u/4294967296]:=VD.cons (by omega) (by omega) (VD.cons (by omega) (by omega) VD.nil)
 simp (disch:=omega) only[aD,ax,cS,cL,cM,cG,aF,aZ,bG,cE,al,bD,cond_true,cond_false,Bool.not_true,Bool.not_false,Option.bind_some,Int.toNat_natCast,Int.toNat_zero,ae,List.length_append,List.length_singleton,List.length_set,List.length_replicate,List.length_cons,List.length_nil,EL N hv (by simp;omega) (by simp)]
 congr 2
 simp only[b9];omega
theorem cj(N:Nat)(hN:1000≤N){x:Int}(h0: -9223372036854775808≤x)(h1:x<9223372036854775808):fN N x=some (bn x):=by
 unfold fN
 have hd: ∀n:Nat,n<18446744073709551616→(iy n).length≤2:=fun n h=>qk 2 n (by simpa using h)
 by_cases h:x<0
 ·have e:W .u64 (0-W .u64 x)= -x:=by rw[jn,jn];omega
  simp only[aD h,cond_true,e,size_eq N hN (show 0≤ -x by omega) (by omega),Option.bind_some]
  have:=hd (-x).toNat (by omega)
  rw[lz N true (gd _) (by omega) (by omega),eF,if_pos rfl,show-(((-x).toNat:Nat):Int)=x from by omega];rfl
 ·have e:W .u64 x=x:=bD (by omega) (by omega)
  simp only[ax (show 0≤x by omega),cond_false,e,size_eq N hN (show 0≤x by omega) (by omega),Option.bind_some]
  have:=hd x.toNat (by omega)
  rw[lz N false (gd _) (by omega) (by omega),eF,if_neg Bool.false_ne_true,Int.toNat_of_nonneg (by omega)];rfl
theorem rY(N:Nat)(l:List Int)(i:Nat):Ue N l (i:Int)=some (l.getD i 0):=by
 unfold Ue
 by_cases h:i<l.length
 ·simp (disch:=omega) only[aD,ax,cS,cL,cM,cG,aF,aZ,bG,cE,al,bD,cond_true,cond_false,Bool.not_true,Bool.not_false,Option.bind_some,Int.toNat_natCast,Int.toNat_zero,ae,List.length_append,List.length_singleton,List.length_set,List.length_replicate,List.length_cons,List.length_nil]
 ·simp (disch:=omega) only[aD,ax,cS,cL,cM,cG,aF,aZ,bG,cE,al,bD,cond_true,cond_false,Bool.not_true,Bool.not_false,Option.bind_some,Int.toNat_natCast,Int.toNat_zero,ae,List.length_append,List.length_singleton,List.length_set,List.length_replicate,List.length_cons,List.length_nil]
  rw[List.getD_eq_getElem?_getD,List.getElem?_eq_none (by omega)];rfl
theorem gX(l:List Int)(i:Nat):b9 (l.drop i)=l.getD i 0+4294967296*b9 (l.drop (i+1)):=by
 by_cases h:i<l.length
 ·rw[List.drop_eq_getElem_cons h,b9,List.getD_eq_getElem?_getD,List.getElem?_eq_getElem h];rfl
 ·rw[List.drop_of_length_le (by omega),List.drop_of_length_le (by omega),List.getD_eq_getElem?_getD,List.getElem?_eq_none (by omega)];rfl
theorem He(N:Nat){a b:List Int}(ha:VD a)(hb:VD b)(ub:a.length≤1000000)(JY:b.length≤1000000): ∀(m n i:Nat) (out:List Int) (c:Int),a.length+b.length+2-i≤m→m<n→out.length=i→i≤a.length+b.length+1→0≤c→c≤1→(a.length≤i→b.length≤i→i=max a.length b.length∨c=0)→
  ∃r,q8.l4 N n a b out c (i:Int)=some (out++r)∧VD r∧b9 r=b9 (a.drop i)+b9 (b.drop i)+c∧r.length≤m
 |m,0,i,out,c,_,hn,_,_,_,_,_=>by omega
 |m,n+1,i,out,c,hm,hn,ho,hi,Pp,Es,hz=>by
  unfold q8.l4 q8.cA
  by_cases Hf:a.length≤i∧b.length≤i∧c=0
  ·obtain⟨h1,h2,rfl⟩:=Hf
   simp (disch:=omega) only[aD,ax,cS,cL,cM,cG,aF,aZ,bG,cE,al,bD,cond_true,cond_false,Bool.not_true,Bool.not_false,Option.bind_some,Int.toNat_natCast,Int.toNat_zero,ae,List.length_append,List.length_singleton,List.length_set,List.length_replicate,List.length_cons,List.length_nil]
   exact⟨[],by simp,VD.nil,by rw[List.drop_of_length_le h1,List.drop_of_length_le h2];rfl,Nat.zero_le _⟩
  ·obtain⟨ga0,ga1⟩:=ha.getD i
   obtain⟨gb0,gb1⟩:=hb.getD i
   have step: ∃r,q8.j6 N (q8.l4 N n) a b out c (i:Int)=some (out++r)∧VD r∧b9 r=b9 (a.drop i)+b9 (b.drop i)+c∧r.length≤m:=by
    unfold q8.j6 q8.J0
    have B6:i≤a.length+b.length:=by
     by_cases h1:a.length≤i∧b.length≤i
     ·rcases hz h1.1 h1.2 with h|h
      ·omega
      ·exact absurd ⟨h1.1,h1.2,h⟩ Hf
     ·omega
    simp only[rY,Option.bind_some]
    generalize hga:a.getD i 0=x at*
    generalize hgb:b.getD i 0=y at*
    rw[bD (x:=x+y) (by omega) (by omega),bD (x:=c+(x+y)) (by omega) (by omega),gE (by omega) (by omega),Au]
    simp (disch:=omega) only[aD,ax,cS,cL,cM,cG,aF,aZ,bG,cE,al,bD,cond_true,cond_false,Bool.not_true,Bool.not_false,Option.bind_some,Int.toNat_natCast,Int.toNat_zero,ae,List.length_append,List.length_singleton,List.length_set,List.length_replicate,List.length_cons,List.length_nil]
    obtain⟨r,hr,hv,hs,Kf⟩:=He N ha hb ub JY (m-1) n (i+1) (out++[(c+(x+y))%4294967296]) ((c+(x+y))/4294967296) (by omega) (by omega) (by simp[ho]) (by omega) (by omega) (by omega) (fun h1 h2=>by
     by_cases h3:a.length≤i∧b.length≤i
     ·right
      rw[←hga,←hgb,List.getD_eq_getElem?_getD,List.getElem?_eq_none h3.1,List.getD_eq_getElem?_getD,List.getElem?_eq_none h3.2]
      simp only[Option.getD_none];omega
     ·left;omega)
    refine⟨(c+(x+y))%4294967296::r,by rw[hr];simp,VD.cons (by omega) (by omega) hv,?_,by rw[List.length_cons];omega⟩
    rw[b9,hs,gX a i,gX b i,hga,hgb];omega
   by_cases h1:i<a.length
   ·simp (disch:=omega) only[aD,cond_true];exact step
   ·by_cases h2:i<b.length
    ·simp (disch:=omega) only[aD,ax,cond_true,cond_false];exact step
    ·have:0<c:=by omega
     simp (disch:=omega) only[aD,ax,cond_true,cond_false];exact step
theorem ME: ∀{l:List Int},VD l→b9 l<4294967296^l.length
 |[],_=>by simp[b9]
 |d::r,h=>by
  have ih:=ME h.tail
  obtain⟨h1,h2⟩:=h d (List.mem_cons_self ..)
  rw[b9,List.length_cons,Int.pow_succ]
  generalize (4294967296:Int)^r.length=p at*
  omega
theorem Hg(N:Nat)(hN:4000000≤N){a b:List Int}(ha:VD a)(hb:VD b)(ub:a.length≤1000000)(JY:b.length≤1000000): ∃r,q8 N a b=some r∧VD r∧b9 r=b9 a+b9 b∧r.length≤2000002:=by
 unfold q8 q8.b
 obtain⟨r,hr,hv,hs,hl⟩:=He N ha hb ub JY (a.length+b.length+2) N 0 [] 0 (by omega) (by omega) rfl (by omega) (by omega) (by omega) (fun _ _=> .inr rfl)
 exact⟨r,hr,hv,by simpa using hs,by omega⟩
theorem Ay(N:Nat){a b:List Int}(ha:VD a)(hb:VD b)(ub:a.length≤1000000): ∀(m n i:Nat) (out:List Int) (c:Int),a.length-i≤m→m<n→out.length=i→i≤a.length→0≤c→c≤1→0≤b9 (a.drop i)-b9 (b.drop i)-c→
  ∃r,zo.l4 N n a b out c (i:Int)=some (out++r)∧VD r∧b9 r=b9 (a.drop i)-b9 (b.drop i)-c∧r.length≤m
 |m,0,i,out,c,_,hn,_,_,_,_,_=>by omega
 |m,n+1,i,out,c,hm,hn,ho,hi,Pp,Es,hz=>by
  unfold zo.l4 zo.cA
  by_cases h1:i<a.length
  ·obtain⟨ga0,ga1⟩:=ha.getD i
   obtain⟨gb0,gb1⟩:=hb.getD i
   rw[gX a i,gX b i]at*
   simp only[rY,Option.bind_some,Int.toNat_natCast]
   generalize hga:a.getD i 0=x at*
   generalize hgb:b.getD i 0=y at*
   rw[bD (x:=y+c) (by omega) (by omega),bD (x:=x+4294967296) (by omega) (by omega)]
   by_cases dD:x<y+c
   ·rw[bD (x:=x+4294967296-(y+c)) (by omega) (by omega)]
    simp (disch:=omega) only[aD,ax,cS,cL,cM,cG,aF,aZ,bG,cE,al,bD,cond_true,cond_false,Bool.not_true,Bool.not_false,Option.bind_some,Int.toNat_natCast,Int.toNat_zero,ae,List.length_append,List.length_singleton,List.length_set,List.length_replicate,List.length_cons,List.length_nil,hga,hgb]
    obtain⟨r,hr,hv,hs,Kf⟩:=Ay N ha hb ub (m-1) n (i+1) (out++[x+4294967296-(y+c)]) 1 (by omega) (by omega) (by simp[ho]) (by omega) (by omega) (by omega) (by omega)
    refine⟨(x+4294967296-(y+c))::r,by rw[hr];simp,VD.cons (by omega) (by omega) hv,by rw[b9,hs];omega,by rw[List.length_cons];omega⟩
   ·rw[bD (x:=x-(y+c)) (by omega) (by omega)]
    simp (disch:=omega) only[aD,ax,cS,cL,cM,cG,aF,aZ,bG,cE,al,bD,cond_true,cond_false,Bool.not_true,Bool.not_false,Option.bind_some,Int.toNat_natCast,Int.toNat_zero,ae,List.length_append,List.length_singleton,List.length_set,List.length_replicate,List.length_cons,List.length_nil,hga,hgb]
    obtain⟨r,hr,hv,hs,Kf⟩:=Ay N ha hb ub (m-1) n (i+1) (out++[x-(y+c)]) 0 (by omega) (by omega) (by simp[ho]) (by omega) (by omega) (by omega) (by omega)
    refine⟨(x-(y+c))::r,by rw[hr];simp,VD.cons (by omega) (by omega) hv,by rw[b9,hs];omega,by rw[List.length_cons];omega⟩
  ·simp (disch:=omega) only[aD,ax,cS,cL,cM,cG,aF,aZ,bG,cE,al,bD,cond_true,cond_false,Bool.not_true,Bool.not_false,Option.bind_some,Int.toNat_natCast,Int.toNat_zero,ae,List.length_append,List.length_singleton,List.length_set,List.length_replicate,List.length_cons,List.length_nil]
   have h0:=gG (hb.drop i)
   rw[List.drop_of_length_le (l:=a) (by omega)]at hz ⊢
   simp only[b9]at hz ⊢
   exact⟨[],by simp,VD.nil,by simp only[b9];omega,Nat.zero_le _⟩
theorem xQ(N:Nat)(hN:4000000≤N){a b:List Int}(ha:VD a)(hb:VD b)(ub:a.length≤1000000)(h:b9 b≤b9 a): ∃r,zo N a b=some r∧VD r∧b9 r=b9 a-b9 b∧r.length≤1000000:=by
 unfold zo zo.b
 obtain⟨r,hr,hv,hs,hl⟩:=Ay N ha hb ub a.length N 0 [] 0 (by omega) (by omega) rfl (by omega) (by omega) (by omega) (by simp;omega)
 exact⟨r,hr,hv,by simpa using hs,by omega⟩
theorem nr: ∀(l:List Int) (x:Int),b9 (l++[x])=b9 l+4294967296^l.length*x
 |[],x=>by simp[b9]
 |d::r,x=>by
  rw[List.cons_append,b9,nr r x,b9,List.length_cons,Int.pow_succ,Int.mul_comm _ 4294967296,Int.mul_assoc,Int.mul_add];omega
theorem Hh{a b:List Int}(ha:VD a)(hb:VD b){k:Nat}(h1:k<a.length)(h2:k<b.length)(dD:a.getD k 0<b.getD k 0):b9 (a.take (k+1))<b9 (b.take (k+1)):=by
 rw[eZ a h1,eZ b h2,nr,nr]
 have l1:(a.take k).length=k:=by rw[List.length_take];omega
 have l2:(b.take k).length=k:=by rw[List.length_take];omega
 have v1:=ME (ha.take k)
 have v2:=gG (hb.take k)
 rw[l1]at*
 rw[l2]
 generalize (4294967296:Int)^k=p at*
 have hp:0<p:=by have:=gG (ha.take k);omega
 have:=Int.mul_le_mul_of_nonneg_left (show a.getD k 0+1≤b.getD k 0 by omega) (Int.le_of_lt hp)
 rw[Int.mul_add,Int.mul_one]at this
 omega
def lL(x:Int):Int:=if x<0 then-1 else if 0<x then 1 else 0
theorem Hi(N:Nat){a b:List Int}(ha:VD a)(hb:VD b)(hl:a.length=b.length)(ub:a.length≤1000000): ∀(k n:Nat),k≤a.length→k<n→yQ.l6 N n a b ((k:Int)-1)=some (lL (b9 (a.take k)-b9 (b.take k)))
 |k,0,_,hn=>by omega
 |0,n+1,_,_=>by
  unfold yQ.l6 yQ.pJ
  simp (disch:=omega) only[aD,ax,cS,cL,cM,cG,aF,aZ,bG,cE,al,bD,cond_true,cond_false,Bool.not_true,Bool.not_false,Option.bind_some,Int.toNat_natCast,Int.toNat_zero,ae,List.length_append,List.length_singleton,List.length_set,List.length_replicate,List.length_cons,List.length_nil]
  simp[lL,b9]
 |k+1,n+1,hk,hn=>by
  unfold yQ.l6 yQ.pJ
  have e:((k+1:Nat):Int)-1=(k:Int):=by omega
  rw[e]
  simp (disch:=omega) only[aD,ax,cS,cL,cM,cG,aF,aZ,bG,cE,al,bD,cond_true,cond_false,Bool.not_true,Bool.not_false,Option.bind_some,Int.toNat_natCast,Int.toNat_zero,ae,List.length_append,List.length_singleton,List.length_set,List.length_replicate,List.length_cons,List.length_nil]
  by_cases h1:a.getD k 0<b.getD k 0
  ·rw[aD h1,cond_true]
   have:=Hh ha hb (k:=k) (by omega) (by omega) h1
   rw[lL,if_pos (by omega)]
  ·rw[ax (by omega),cond_false]
   by_cases h2:b.getD k 0<a.getD k 0
   ·rw[aD h2,cond_true]
    have:=Hh hb ha (k:=k) (by omega) (by omega) h2
    rw[lL,if_neg (by omega),if_pos (by omega)]
   ·rw[ax (by omega),cond_false,Hi N ha hb hl ub k n (by omega) (by omega)]
    congr 2
    rw[eZ a (by omega),eZ b (by omega),nr,nr,show a.getD k 0=b.getD k 0 from by omega,List.length_take,List.length_take,hl]
    omega
theorem Hj(N:Nat)(hN:4000000≤N)(m k:Nat)(hm:(iy m).length≤1000000)(hk:(iy k).length≤1000000):yQ N (iy m) (iy k)=some (lL ((m:Int)-k)):=by
 unfold yQ yQ.b
 by_cases h:(iy m).length=(iy k).length
 ·simp (disch:=omega) only[aD,ax,cS,cL,cM,cG,aF,aZ,bG,cE,al,bD,cond_true,cond_false,Bool.not_true,Bool.not_false,Option.bind_some,Int.toNat_natCast,Int.toNat_zero,ae,List.length_append,List.length_singleton,List.length_set,List.length_replicate,List.length_cons,List.length_nil]
  rw[Hi N (gd m) (gd k) h hm (iy m).length N (Nat.le_refl _) (by omega),List.take_length,h,List.take_length,eF,eF]
 ·rw[cG (by omega),Bool.not_false,cond_true]
  by_cases dD:(iy m).length<(iy k).length
  ·rw[aD (by omega),cond_true]
   have h1:=EK ((iy k).length-1) m (by omega)
   have h2: ¬(k<4294967296^((iy k).length-1)):=fun h=>by have:=qk _ _ h;omega
   rw[lL,if_pos (by omega)]
  ·rw[ax (by omega),cond_false]
   have h1:=EK ((iy m).length-1) k (by omega)
   have h2: ¬(m<4294967296^((iy m).length-1)):=fun h=>by have:=qk _ _ h;omega
   rw[lL,if_neg (by omega),if_pos (by omega)]
end VM
end
section
namespace VM
open Go VM.F
def Fit(v:Int)(k:Nat):Prop:=v.natAbs<4294967296^k
theorem Fit.len{v:Int}{k:Nat}(h:Fit v k):(iy v.natAbs).length≤k:=qk k _ h
theorem Fit.mono{v:Int}{j k:Nat}(h:Fit v j)(hjk:j≤k):Fit v k:=Nat.lt_of_lt_of_le h (Nat.pow_le_pow_right (by decide) hjk)
theorem Fit.neg{v:Int}{k:Nat}(h:Fit v k):Fit (-v) k:=by unfold Fit at*;rwa [Int.natAbs_neg]
theorem Fit.i64{v:Int}(h0: -9223372036854775808≤v)(h1:v<9223372036854775808):Fit v 2:=by
 unfold Fit
 rw[show(4294967296:Nat)^2=18446744073709551616 from by decide];omega
theorem Fit.add{u v:Int}{k:Nat}(hu:Fit u k)(hv:Fit v k):Fit (u+v) (k+1):=by
 unfold Fit at*
 rw[Nat.pow_succ]
 have:(u+v).natAbs≤u.natAbs+v.natAbs:=Int.natAbs_add_le u v
 generalize 4294967296^k=p at*
 omega
theorem Fit.mul{u v:Int}{j k:Nat}(hu:Fit u j)(hv:Fit v k):Fit (u*v) (j+k):=by
 unfold Fit at*
 rw[Int.natAbs_mul,Nat.pow_add]
 exact Nat.mul_lt_mul'' hu hv
theorem Fit.of_le{u v:Int}{k:Nat}(hv:Fit v k)(h:u.natAbs≤v.natAbs):Fit u k:=Nat.lt_of_le_of_lt h hv
theorem lM(a b:Bool):jO .bool a b=(a==b):=by simp[jO]
theorem eG(N:Nat)(hN:4000000≤N){u v:Int}(hu:Fit u 900000)(hv:Fit v 900000):tF N (bn u) (bn v)=some (bn (u+v)):=by
 have lu:=hu.len
 have lv:=hv.len
 unfold tF
 simp only[bn,lM]
 by_cases hs:decide (u<0)=decide (v<0)
 ·rw[hs,beq_self_eq_true,cond_true]
  obtain⟨r,hr,hvd,Aa,hl⟩:=Hg N hN (gd u.natAbs) (gd v.natAbs) (by omega) (by omega)
  simp only[hr,Option.bind_some,lz N _ hvd (by omega) (by omega),Aa,eF]
  congr 1
  show bn _=bn _
  congr 1
  by_cases h:v<0
  ·have:u<0:=by simpa [h]using hs
   rw[if_pos (decide_eq_true h)];omega
  ·have: ¬u<0:=by simpa [h]using hs
   rw[if_neg (by simpa using h)];omega
 ·have hb:(decide (u<0)==decide (v<0))=false:=by simpa using hs
  rw[hb,cond_false,Hj N hN _ _ (by omega) (by omega),Option.bind_some]
  by_cases hc:v.natAbs≤u.natAbs
  ·have h1:bW 0 (lL ((u.natAbs:Int)-v.natAbs))=true:=cS (by unfold lL;split<;>(try split)<;>omega)
   obtain⟨r,hr,hvd,Aa,hl⟩:=xQ N hN (gd u.natAbs) (gd v.natAbs) (by omega) (by rw[eF,eF];omega)
   simp only[h1,cond_true,hr,Option.bind_some,lz N _ hvd (by omega) (by omega),Aa,eF]
   congr 1
   show bn _=bn _
   congr 1
   by_cases h:u<0
   ·have: ¬v<0:=fun hv=>hs (by simp[h,hv])
    rw[if_pos (decide_eq_true h)];omega
   ·have:v<0:=Classical.byContradiction fun hv=>hs (by simp[h,hv])
    rw[if_neg (by simpa using h)];omega
  ·have h1:bW 0 (lL ((u.natAbs:Int)-v.natAbs))=false:=cL (by unfold lL;rw[if_pos (by omega)];omega)
   obtain⟨r,hr,hvd,Aa,hl⟩:=xQ N hN (gd v.natAbs) (gd u.natAbs) (by omega) (by rw[eF,eF];omega)
   simp only[h1,cond_false,hr,Option.bind_some,lz N _ hvd (by omega) (by omega),Aa,eF]
   congr 1
   show bn _=bn _
   congr 1
   by_cases h:v<0
   ·have: ¬u<0:=fun hu=>hs (by simp[h,hu])
    rw[if_pos (decide_eq_true h)];omega
   ·have:u<0:=Classical.byContradiction fun hu=>hs (by simp[h,hu])
    rw[if_neg (by simpa using h)];omega
theorem pK(N:Nat)(hN:4000000≤N){u:Int}(hu:Fit u 900000):Px N (bn u)=some (bn (-u)):=by
 have lu:=hu.len
 unfold Px
 simp only[bn]
 simp only[lz N _ (gd u.natAbs) (by omega) (by omega),Option.bind_some,eF]
 congr 1
 show bn _=bn _
 congr 1
 by_cases h:u<0
 ·rw[decide_eq_true h,Bool.not_true,if_neg Bool.false_ne_true];omega
 ·rw[decide_eq_false h,Bool.not_false,if_pos rfl];omega
theorem vp(N:Nat)(hN:4000000≤N){u:Int}(hu:Fit u 900000):N9 N (bn u)=some (bn u.natAbs):=by
 have lu:=hu.len
 unfold N9
 simp only[bn]
 simp only[lz N _ (gd u.natAbs) (by omega) (by omega),Option.bind_some,eF,Bool.false_eq_true,if_false]
 rfl
theorem oS(N:Nat)(hN:4000000≤N){u v:Int}(hu:Fit u 900000)(hv:Fit v 900000):J1 N (bn u) (bn v)=some (bn (u-v)):=by
 unfold J1
 simp only[pK N hN hv,Option.bind_some,eG N hN hu hv.neg,Int.sub_eq_add_neg]
theorem mW(N:Nat)(u:Int):MF N (bn u)=some (lL u):=by
 unfold MF
 simp only[bn]
 by_cases h:u=0
 ·subst h
  rw[show(0:Int).natAbs=0 from rfl,gF]
  simp (disch:=omega) only[aD,ax,cS,cL,cM,cG,aF,aZ,bG,cE,al,bD,cond_true,cond_false,Bool.not_true,Bool.not_false,Option.bind_some,Int.toNat_natCast,Int.toNat_zero,ae,List.length_append,List.length_singleton,List.length_set,List.length_replicate,List.length_cons,List.length_nil]
  rfl
 ·have:0<(iy u.natAbs).length:=by
   apply List.length_pos_iff.2
   intro hd;rw[vo]at hd;omega
  rw[cG (by omega),cond_false]
  by_cases hn:u<0
  ·rw[decide_eq_true hn,cond_true,lL,if_pos hn]
  ·rw[decide_eq_false hn,cond_false,lL,if_neg hn,if_pos (by omega)]
theorem rZ(N:Nat)(hN:4000000≤N){u v:Int}(hu:Fit u 900000)(hv:Fit v 900000):C3 N (bn u) (bn v)=some (lL (u-v)):=by
 unfold C3
 simp only[oS N hN hu hv,Option.bind_some,mW]
theorem MG(l:List Int)(h: ∀x∈l,-9223372036854775808≤x∧x<9223372036854775808): -(9223372036854775808*l.length)≤l.sum∧l.sum≤9223372036854775808*l.length:=by
 induction l with
 |nil=>simp
 |cons x l ih=>
  have:=ih (fun y hy=>h y (List.mem_cons_of_mem _ hy))
  obtain⟨h1,h2⟩:=h x (List.mem_cons_self ..)
  rw[List.sum_cons,List.length_cons]
  omega
theorem vq{v:Int}{n:Nat}(hn:n≤1000000)(h0: -(9223372036854775808*n)≤v)(h1:v≤9223372036854775808*n):Fit v 3:=by
 unfold Fit
 rw[show(4294967296:Nat)^3=79228162514264337593543950336 from by decide]
 omega
theorem pL{l:List Int}(h: ∀x∈l,-9223372036854775808≤x∧x<9223372036854775808)(i:Nat): -9223372036854775808≤l.getD i 0∧l.getD i 0<9223372036854775808:=by
 rw[List.getD_eq_getElem?_getD]
 cases hn:l[i]? with
 |none=>exact⟨by decide,by decide⟩
 |some x=>exact h x (List.mem_of_getElem? hn)
theorem iF(l:List Int){i:Nat}(h:i<l.length):(l.take (i+1)).sum=(l.take i).sum+l.getD i 0:=by
 rw[eZ l h];simp
theorem vr(N:Nat)(hN:4000000≤N){l:List Int}(h: ∀x∈l,-9223372036854775808≤x∧x<9223372036854775808)(hl:l.length≤1000000): ∀(m n i:Nat) (z:aw),l.length-i≤m→m<n→i≤l.length→
  mo.l3 N n l z (bn (l.take i).sum) (i:Int)=some (bn l.sum)
 |m,0,i,z,_,hn,_=>by omega
 |m,n+1,i,z,hm,hn,hi=>by
  unfold mo.l3 mo.jP
  by_cases h1:i<l.length
  ·obtain⟨g0,g1⟩:=pL h i
   have f1:=MG (l.take i) (fun x hx=>h x (List.mem_of_mem_take hx))
   rw[List.length_take,Nat.min_eq_left (by omega)]at f1
   have f2:Fit (l.take i).sum 900000:=(vq (n:=i) (by omega) f1.1 f1.2).mono (by omega)
   have f3:Fit (l.getD i 0) 900000:=(Fit.i64 g0 g1).mono (by omega)
   simp (disch:=omega) only[aD,ax,cS,cL,cM,cG,aF,aZ,bG,cE,al,bD,cond_true,cond_false,Bool.not_true,Bool.not_false,Option.bind_some,Int.toNat_natCast,Int.toNat_zero,ae,List.length_append,List.length_singleton,List.length_set,List.length_replicate,List.length_cons,List.length_nil,cj N (by omega) g0 g1,eG N hN f2 f3]
   rw[←iF l h1]
   exact vr N hN h hl (m-1) n (i+1) z (by omega) (by omega) (by omega)
  ·simp (disch:=omega) only[aD,ax,cS,cL,cM,cG,aF,aZ,bG,cE,al,bD,cond_true,cond_false,Bool.not_true,Bool.not_false,Option.bind_some,Int.toNat_natCast,Int.toNat_zero,ae,List.length_append,List.length_singleton,List.length_set,List.length_replicate,List.length_cons,List.length_nil]
   rw[List.take_of_length_le (by omega)]
theorem ej:bn 0=(false,([],())):=by unfold bn;rw[show(0:Int).natAbs=0 from rfl,gF];rfl
theorem ue(N:Nat)(hN:4000000≤N){l:List Int}(h: ∀x∈l,-9223372036854775808≤x∧x<9223372036854775808)(hl:l.length≤1000000):mo N l=some (bn l.sum):=by
 unfold mo mo.b
 have:=vr N hN h hl l.length N 0 (false,([],())) (by omega) (by omega) (by omega)
 rw[List.take_zero,List.sum_nil,ej]at this
 exact this
theorem QK{a b:Int}(ha:0≤a)(Ua:a<4294967296)(hb:0≤b)(kB:b<4294967296):jC .or .u64 a (b*4294967296)=a+b*4294967296:=by
 rw[EI ha (by omega) (by omega) (by omega)]
 have h:=Nat.two_pow_add_eq_or_of_lt (i:=32) (b:=a.toNat) (by omega) b.toNat
 have e:(b*4294967296).toNat=2^32*b.toNat:=by omega
 rw[e,Nat.or_comm,←h];omega
theorem Oa{a b:Int}(ha:0≤a)(Ua:a<4294967296)(hb:0≤b)(kB:b<4294967296):jC .or .u64 (b*4294967296) a=a+b*4294967296:=by
 rw[EI (by omega) (by omega) ha (by omega)]
 have h:=Nat.two_pow_add_eq_or_of_lt (i:=32) (b:=a.toNat) (by omega) b.toNat
 have e:(b*4294967296).toNat=2^32*b.toNat:=by omega
 rw[e,←h];omega
theorem Z9{x:Int}(h0:0≤x):shl .u64 x 32=x*4294967296:=by rw[MA (by omega) (by omega)];rfl
def yR(v:Int):Int×Bool:=if-9223372036854775808≤v∧v<9223372036854775808 then(v,true)else(0,false)
theorem Uf{n:Nat}(h:(iy n).length≤2):(iy n).getD 0 0+4294967296*(iy n).getD 1 0=n:=by
 have h1:=gX (iy n) 0
 have h2:=gX (iy n) 1
 rw[List.drop_zero,eF]at h1
 rw[List.drop_of_length_le (l:=iy n) (i:=1+1) h]at h2
 simp only[b9,Nat.zero_add]at h1 h2
 omega
theorem nM(N:Nat)(v:Int):sa N (bn v)=some (yR v):=by
 unfold sa
 simp only[bn]
 by_cases hl:2<(iy v.natAbs).length
 ·rw[aD (by omega),cond_true,yR,if_neg]
  intro hh
  have:=qk 2 v.natAbs (by rw[show(4294967296:Nat)^2=18446744073709551616 from by decide];omega)
  omega
 ·have h2:=Uf (n:=v.natAbs) (by omega)
  obtain⟨a0,a1⟩:=(gd v.natAbs).getD 0
  obtain⟨b0,b1⟩:=(gd v.natAbs).getD 1
  have e0:=rY N (iy v.natAbs) 0
  have e1:=rY N (iy v.natAbs) 1
  simp only[Int.natCast_zero,Int.natCast_one]at e0 e1
  rw[ax (by omega),cond_false,e0,e1]
  generalize (iy v.natAbs).getD 0 0=a at*
  generalize (iy v.natAbs).getD 1 0=b at*
  simp only[Option.bind_some]
  rw[ax (show(0:Int)≤32 by omega),cond_false,Z9 b0,bD (x:=b*4294967296) (by omega) (by omega),QK a0 a1 b0 b1]
  have ev:a+b*4294967296=v.natAbs:=by omega
  rw[ev]
  by_cases hn:v<0
  ·rw[decide_eq_true hn,cond_true]
   by_cases EG:9223372036854775808<(v.natAbs:Int)
   ·rw[aD EG,cond_true,yR,if_neg (by omega)]
   ·rw[ax (by omega),cond_false,yR,if_pos (by omega),jn,dV]
    congr 2
    split<;>omega
  ·rw[decide_eq_false hn,cond_false]
   by_cases EG:9223372036854775807<(v.natAbs:Int)
   ·rw[aD EG,cond_true,yR,if_neg (by omega)]
   ·rw[ax (by omega),cond_false,yR,if_pos (by omega),al (by omega) (by omega)]
    congr 2;omega
end VM
end
section
namespace VM
open Go VM.F
theorem Hk: ∀(l:List Int) (k:Nat) (x:Int),k<l.length→b9 (l.set k x)=b9 l+4294967296^k*(x-l.getD k 0)
 |d::r,0,x,_=>by simp[b9];omega
 |d::r,k+1,x,h=>by
  have ih:=Hk r k x (by simpa using h)
  rw[List.set_cons_succ,b9,b9,ih,List.getD_cons_succ,Int.pow_succ,Int.mul_comm (4294967296^k) 4294967296,Int.mul_assoc,Int.mul_add];omega
theorem getD_set_ne(l:List Int){j k:Nat}(x:Int)(h:j≠k):(l.set j x).getD k 0=l.getD k 0:=by
 simp[List.getD_eq_getElem?_getD,List.getElem?_set_ne h]
theorem jo(l:List Int){k:Nat}(x:Int)(h:k<l.length):(l.set k x).getD k 0=x:=by
 simp[List.getD_eq_getElem?_getD,List.getElem?_set,h]
theorem qm(l:List Int){k:Nat}(h:l.length≤k):l.getD k 0=0:=by
 rw[List.getD_eq_getElem?_getD,List.getElem?_eq_none h];rfl
theorem xR(N:Nat)(K:aw→aw→aw→List Int→Int→Option aw){a b:List Int}(na nb:Bool)(z:aw)(ha:VD a)(hb:VD b)(i:Nat)(hi:i<a.length)(ub:a.length≤100000)(JY:b.length≤100000):
  ∀(m n j:Nat) (out:List Int) (c:Int),b.length+1-j≤m→m<n→VD out→out.length=a.length+b.length+1→0≤c→c<4294967296→(j≤b.length→ ∀k,i+b.length≤k→out.getD k 0=0)→(b.length<j→c=0∧j=b.length+1∧ ∀k,i+b.length+1≤k→out.getD k 0=0)→
  ∃qn,fZ.l7 N K n (na,(a,())) (nb,(b,())) z out (i:Int) c (j:Int)=K (na,(a,())) (nb,(b,())) z qn ((i+1:Nat):Int)∧VD qn∧qn.length=out.length∧
   b9 qn=b9 out+4294967296^i*(4294967296^j*(a.getD i 0*b9 (b.drop j)+c))∧ ∀k,i+1+b.length≤k→qn.getD k 0=0
 |m,0,j,out,c,_,hn,_,_,_,_,_,_=>by omega
 |m,n+1,j,out,c,hm,hn,ho,tY,Pp,Es,hz,JZ=>by
  unfold fZ.l7 fZ.mq
  by_cases Hf:b.length≤j∧c=0
  ·obtain⟨h1,rfl⟩:=Hf
   simp (disch:=omega) only[aD,ax,cS,cL,cM,cG,aF,aZ,bG,cE,al,bD,cond_true,cond_false,Bool.not_true,Bool.not_false,Option.bind_some,Int.toNat_natCast,Int.toNat_zero,ae,List.length_append,List.length_singleton,List.length_set,List.length_replicate,List.length_cons,List.length_nil]
   refine⟨out,rfl,ho,rfl,by rw[List.drop_of_length_le h1];simp[b9],fun k hk=> ?_⟩
   by_cases hj:j≤b.length
   ·exact hz hj k (by omega)
   ·exact(JZ (by omega)).2.2 k (by omega)
  ·have BX:j≤b.length:=by
    by_cases hj:j≤b.length
    ·exact hj
    ·exact absurd ⟨by omega,(JZ (by omega)).1⟩ Hf
   obtain⟨ga0,ga1⟩:=ha.getD i
   obtain⟨gb0,gb1⟩:=hb.getD j
   obtain⟨go0,go1⟩:=ho.getD (i+j)
   have step: ∃qn,fZ.j9 N K (fZ.l7 N K n) (na,(a,())) (nb,(b,())) z out (i:Int) c (j:Int)=K (na,(a,())) (nb,(b,())) z qn ((i+1:Nat):Int)∧VD qn∧qn.length=out.length∧
     b9 qn=b9 out+4294967296^i*(4294967296^j*(a.getD i 0*b9 (b.drop j)+c))∧ ∀k,i+1+b.length≤k→qn.getD k 0=0:=by
    unfold fZ.j9 fZ.KB
    have eij:(i:Int)+(j:Int)=((i+j:Nat):Int):=rfl
    have hp:=mul_lt (m:=4294967295) (n:=4294967295) ga0 gb0 (by omega) (by omega)
    simp only[rY,Option.bind_some,eij,Int.toNat_natCast]
    simp (disch:=omega) only[aD,ax,cS,cL,cM,cG,aF,aZ,bG,cE,al,bD,cond_true,cond_false,Bool.not_true,Bool.not_false,Option.bind_some,Int.toNat_natCast,Int.toNat_zero,ae,List.length_append,List.length_singleton,List.length_set,List.length_replicate,List.length_cons,List.length_nil]
    generalize hx:out.getD (i+j) 0=x at*
    generalize ha':a.getD i 0=ai at*
    generalize dJ:b.getD j 0=bj at*
    generalize hpe:ai*bj=p at*
    have hpz:b.length≤j→p=0∧x=0:=fun h=>by
     rw[qm b h]at dJ
     refine⟨by rw[←hpe,←dJ,Int.mul_zero],?_⟩
     rw[←hx];exact hz BX _ (by omega)
    rw[gE (by omega) (by omega),Au]
    have anN:(out.set (i+j) ((c+(x+p))%4294967296)).length=a.length+b.length+1:=by rw[List.length_set];exact tY
    obtain⟨qn,h1,h2,h3,h4,h5⟩:=xR N K na nb z ha hb i hi ub JY (m-1) n (j+1) (out.set (i+j) ((c+(x+p))%4294967296)) ((c+(x+p))/4294967296) (by omega) (by omega) (ho.set _ (by omega) (by omega)) anN (by omega) (by omega)
     (fun h k hk=>by rw[getD_set_ne _ _ (by omega)];exact hz BX k hk)
     (fun h=>by
      obtain⟨Pu,Qd⟩:=hpz (by omega)
      refine⟨by omega,by omega,fun k hk=> ?_⟩
      rw[getD_set_ne _ _ (by omega)];exact hz BX k (by omega))
    refine⟨qn,h1,h2,by rw[h3,List.length_set],?_,h5⟩
    rw[h4,Hk _ _ _ (by omega),hx,ha',gX b j,dJ,Int.mul_add ai,hpe,Int.pow_add,Int.pow_succ]
    have e1:ai*(4294967296*b9 (b.drop (j+1)))=4294967296*(ai*b9 (b.drop (j+1))):=Int.mul_left_comm _ _ _
    rw[e1]
    generalize ai*b9 (b.drop (j+1))=y
    generalize (4294967296:Int)^i=P
    generalize (4294967296:Int)^j=R
    rw[Int.mul_assoc R,Int.mul_assoc P,Int.add_assoc,←Int.mul_add,←Int.mul_add]
    congr 3
    omega
   by_cases h1:j<b.length
   ·simp (disch:=omega) only[aD,cond_true];exact step
   ·have:0<c:=by omega
    simp (disch:=omega) only[aD,ax,cond_true,cond_false];exact step
theorem xS(N:Nat)(hN:4000000≤N){a b:List Int}(na nb:Bool)(z:aw)(ha:VD a)(hb:VD b)(ub:a.length≤100000)(JY:b.length≤100000):
  ∀(m n i:Nat) (out:List Int),a.length-i≤m→m<n→i≤a.length→VD out→out.length=a.length+b.length+1→(∀k,i+b.length≤k→out.getD k 0=0)→b9 out=b9 (a.take i)*b9 b→
  fZ.l3 N n (na,(a,())) (nb,(b,())) z out (i:Int)=some (bn (if na=nb then b9 a*b9 b else-(b9 a*b9 b)))
 |m,0,i,out,_,hn,_,_,_,_,_=>by omega
 |m,n+1,i,out,hm,hn,hi,ho,tY,hz,hv=>by
  unfold fZ.l3 fZ.jP
  by_cases h1:i<a.length
  ·simp only
   rw[aD (by omega),cond_true]
   obtain⟨qn,e1,e2,e3,e4,e5⟩:=xR N (fZ.l3 N n) na nb z ha hb i h1 ub JY (b.length+1) N 0 out 0 (by omega) (by omega) ho tY (by omega) (by omega) (fun _ k hk=>hz k hk) (fun h=>by omega)
   rw[show((0:Nat):Int)=0 from rfl]at e1
   rw[e1]
   refine xS N hN na nb z ha hb ub JY (m-1) n (i+1) qn (by omega) (by omega) (by omega) e2 (by rw[e3];exact tY) (fun k hk=>e5 k (by omega)) ?_
   rw[e4,hv,eZ a h1,nr,List.length_take,Nat.min_eq_left (by omega),List.drop_zero,Int.pow_zero,Int.one_mul,Int.add_zero,Int.add_mul,Int.mul_assoc]
  ·simp only
   rw[ax (by omega),cond_false]
   simp only[lz N _ ho (by omega) (by omega),Option.bind_some]
   rw[hv,List.take_of_length_le (by omega),lM]
   congr 2
   cases na<;>cases nb<;>simp
theorem lN(N:Nat)(hN:4000000≤N){u v:Int}(hu:Fit u 90000)(hv:Fit v 90000):fZ N (bn u) (bn v)=some (bn (u*v)):=by
 have lu:=hu.len
 have lv:=hv.len
 unfold fZ fZ.b
 simp only[bn]
 simp (disch:=omega) only[aD,ax,cS,cL,cM,cG,aF,aZ,bG,cE,al,bD,cond_true,cond_false,Bool.not_true,Bool.not_false,Option.bind_some,Int.toNat_natCast,Int.toNat_zero,ae,List.length_append,List.length_singleton,List.length_set,List.length_replicate,List.length_cons,List.length_nil]
 have e:(((iy u.natAbs).length:Int)+((iy v.natAbs).length:Int)+1).toNat=(iy u.natAbs).length+(iy v.natAbs).length+1:=by omega
 have:=xS N hN (decide (u<0)) (decide (v<0)) (false,([],())) (gd u.natAbs) (gd v.natAbs) (by omega) (by omega) (iy u.natAbs).length N 0 (List.replicate ((iy u.natAbs).length+(iy v.natAbs).length+1) 0) (by omega) (by omega) (by omega) (VD.Z8 _) (by simp)
  (fun k _=>by rw[List.getD_eq_getElem?_getD,List.getElem?_replicate];split<;>rfl) (by
   have: ∀n,b9 (List.replicate n 0)=0:=fun n=>by
    induction n with
    |zero=>rfl
    |succ n ih=>rw[List.replicate_succ,b9,ih];rfl
   rw[this];simp[b9])
 rw[eF,eF]at this
 have e2:(((iy u.natAbs).length+(iy v.natAbs).length:Nat):Int)+1=(iy u.natAbs).length+(iy v.natAbs).length+1:=by omega
 first
 |(rw[e];refine this.trans ?_)
 |(refine(this).trans ?_)
 show some (bn _)=some (bn _)
 congr 2
 have key:(u.natAbs:Int)*v.natAbs=if decide (u<0)=decide (v<0)then u*v else-(u*v):=by
  by_cases h1:u<0<;>by_cases h2:v<0
  ·rw[if_pos (by simp[h1,h2]),show(u.natAbs:Int)= -u from by omega,show(v.natAbs:Int)= -v from by omega,Int.neg_mul_neg]
  ·rw[if_neg (by simp[h1,h2]),show(u.natAbs:Int)= -u from by omega,show(v.natAbs:Int)=v from by omega,Int.neg_mul]
  ·rw[if_neg (by simp[h1,h2]),show(u.natAbs:Int)=u from by omega,show(v.natAbs:Int)= -v from by omega,Int.mul_neg]
  ·rw[if_pos (by simp[h1,h2]),show(u.natAbs:Int)=u from by omega,show(v.natAbs:Int)=v from by omega]
 rw[key]
 split<;>simp
end VM
end
