/- A part of the proof of TearFlat of layer 29: what the functions compute, in plain words. -/
import Derived.Test.YtocmlaipoebfeaaGreatVm0
import GoSem.Claim
import Derived.Test.YtocmlaipoebfeaaGreatText
set_option linter.all false
section
namespace VM
open Go
theorem rm(x:Int):W .u64 x=x%18446744073709551616:=by rw[De];simp[IntKind.wrap,IntKind.bits,IntKind.signed]
theorem cv{x:Int}(h0:0≤x)(h1:x<18446744073709551616):W .u64 x=x:=by rw[rm];omega
theorem kS(x:Int):W .i64 x=if 9223372036854775808≤x%18446744073709551616 then x%18446744073709551616-18446744073709551616 else x%18446744073709551616:=by
 rw[De];simp[IntKind.wrap,IntKind.bits,IntKind.signed]
theorem aw{x:Int}(h0: -9223372036854775808≤x)(h1:x<9223372036854775808):W .i64 x=x:=by
 rw[kS];split<;>omega
theorem amR{x:Int}(h0:0≤x)(h1:x<256):W .u8 x=x:=by rw[De];simp[IntKind.wrap,IntKind.bits,IntKind.signed];omega
theorem wf_u64{x:Int}:(Lit.int .u64 x).wf=true↔0≤x∧x≤18446744073709551615:=by simp[Lit.wf,IntKind.min,IntKind.max,IntKind.bits,IntKind.signed]
theorem aP{x y:Int}(h:x<y):aS x y=true:=by rw[om];exact bs h
theorem aL{x y:Int}(h:y≤x):aS x y=false:=by rw[om];exact cg ω
theorem dL{x y:Int}(h:x≤y):c0 x y=true:=by rw[oq];exact bs h
theorem dB{x y:Int}(h:y<x):c0 x y=false:=by rw[oq];exact cg ω
theorem dt{x y:Int}(h:x=y):aM x y=true:=by rw[jB];exact bs h
theorem du{x y:Int}(h:x≠y):aM x y=false:=by rw[jB];exact cg h
theorem aQ{i:Int}{n:Nat}(h0:0≤i)(h1:i<n):aZ i n=true:=by rw[U8];exact bs ⟨h0,h1⟩
theorem bQ{n:Nat}(h:n<68719476736):small n=true:=by rw[EN];exact bs (by simpa [yE]using h)
theorem cj{l c:Int}(h0:0≤l)(h1:l≤c)(h2:c<68719476736):gI l c=true:=by rw[HZ];exact bs (by simp only[yE];omega)
theorem dq{l h m n:Int}(h0:0≤l)(h1:l≤h)(h2:h≤m)(h3:m≤n):jt l h m n=true:=by rw[zL];exact bs ⟨h0,h1,h2,h3⟩
theorem ae(n:Nat):(n:Int)+1=((n+1:Nat):Int):=rfl
theorem sN(x:Int)(h0:0≤x)(h1:x<18446744073709551616):(BitVec.ofInt 64 x).toNat=x.toNat:=by
 rw[BitVec.toNat_ofInt];congr 1;omega
theorem MP{x y:Int}(hx:0≤x)(Iv:x<18446744073709551616)(hy:0≤y)(ZN:y<18446744073709551616):mR .and .u64 x y=((x.toNat&&& y.toNat:Nat):Int):=by
 rw[uO]
 have h:((BitVec.ofInt 64 x&&& BitVec.ofInt 64 y).toNat)=x.toNat&&& y.toNat:=by rw[BitVec.toNat_and,sN x hx Iv,sN y hy ZN]
 show IntKind.u64.wrap (((BitVec.ofInt 64 x&&& BitVec.ofInt 64 y).toNat:Nat):Int)=_
 rw[h,←De]
 have:x.toNat&&& y.toNat≤x.toNat:=Nat.and_le_left
 exact cv ω ω
theorem Kb{x y:Int}(hx:0≤x)(Iv:x<18446744073709551616)(hy:0≤y)(ZN:y<18446744073709551616):mR .or .u64 x y=((x.toNat|||y.toNat:Nat):Int):=by
 rw[uO]
 have h:((BitVec.ofInt 64 x|||BitVec.ofInt 64 y).toNat)=x.toNat|||y.toNat:=by rw[BitVec.toNat_or,sN x hx Iv,sN y hy ZN]
 show IntKind.u64.wrap (((BitVec.ofInt 64 x|||BitVec.ofInt 64 y).toNat:Nat):Int)=_
 rw[h,←De]
 have:x.toNat|||y.toNat<2^64:=Nat.or_lt_two_pow ω ω
 exact cv ω ω
theorem kk{x:Int}(h0:0≤x)(h1:x<18446744073709551616):mR .and .u64 x 4294967295=x%4294967296:=by
 rw[MP h0 h1 ω ω]
 have:=Lv x.toNat 32
 rw[show((4294967295:Int).toNat)=2^32-1 from rfl,this]
 omega
theorem u6{x y:Int}(h0:0≤y)(h1:y≤64):shr .u64 x y=x/2^y.toNat:=by
 rw[PQ]
 have:min y.toNat IntKind.u64.bits=y.toNat:=by simp[IntKind.bits];omega
 rw[this,Ly]
 exact_mod_cast bG _
theorem Fu(x:Int):shr .u64 x 32=x/4294967296:=by rw[u6 ω ω];rfl
theorem amS(x:Int):shr .u64 x 1=x/2:=by rw[u6 ω ω];rfl
theorem rn{x:Int}(h0: -9223372036854775808≤x)(h1:x<9223372036854775808):shr .i64 x 63=if x<0 then-1 else 0:=by
 rw[PQ]
 have:(2:Int)^(min (63:Int).toNat IntKind.i64.bits)=9223372036854775808:=by rfl
 rw[this,Ly _ ω]
 split<;>omega
theorem RW{x y:Int}(h0:0≤y)(h1:y≤64):shl .u64 x y=x*2^y.toNat:=by
 rw[Va]
 have:min y.toNat IntKind.u64.bits=y.toNat:=by simp[IntKind.bits];omega
 rw[this]
theorem mul_lt{a b m n:Int}(ha:0≤a)(hb:0≤b)(ham:a≤m)(hbn:b≤n):0≤a*b∧a*b≤m*n:=
 ⟨o6 ha hb,gQ (uH ham hb) (p3 hbn ω)⟩
end VM
end
section
namespace VM
open Go VM.F
theorem Tv(a b:Int):a*b=(a/4294967296)*(b/4294967296)*18446744073709551616+((a/4294967296)*(b%4294967296)+(a%4294967296)*(b/4294967296))*4294967296+(a%4294967296)*(b%4294967296):=by
 have ha:a=(a/4294967296)*4294967296+a%4294967296:=ω
 have hb:b=(b/4294967296)*4294967296+b%4294967296:=ω
 generalize a/4294967296=a1 at*
 generalize a%4294967296=a0 at*
 generalize b/4294967296=b1 at*
 generalize b%4294967296=b0 at*
 subst ha;subst hb
 simp only[iG,lI]
 have e1:a1*4294967296*(b1*4294967296)=a1*b1*18446744073709551616:=by
  rw[gm,Int.mul_left_comm 4294967296,←gm];rfl
 have e2:a1*4294967296*b0=a1*b0*4294967296:=by rw[gm,eo 4294967296,←gm]
 have e3:a0*(b1*4294967296)=a0*b1*4294967296:=by rw[←gm]
 rw[e1,e2,e3];omega
theorem Wg(N:Nat){a b:Int}(ha:0≤a)(ZO:a<18446744073709551616)(hb:0≤b)(mG:b<18446744073709551616):
  ZP N a b=some (a*b/18446744073709551616,a*b%18446744073709551616):=by
 unfold ZP
 have hm:=Tv a b
 have h1:=mul_lt (m:=4294967295) (n:=4294967295) (show 0≤a/4294967296 by omega) (show 0≤b/4294967296 by omega) ω ω
 have h2:=mul_lt (m:=4294967295) (n:=4294967295) (show 0≤a/4294967296 by omega) (show 0≤b%4294967296 by omega) ω ω
 have h3:=mul_lt (m:=4294967295) (n:=4294967295) (show 0≤a%4294967296 by omega) (show 0≤b/4294967296 by omega) ω ω
 have h4:=mul_lt (m:=4294967295) (n:=4294967295) (show 0≤a%4294967296 by omega) (show 0≤b%4294967296 by omega) ω ω
 simp only[aL (show(0:Int)≤32 by omega),ar,kk ha ZO,kk hb mG,Fu]
 generalize a/4294967296=a1 at*
 generalize a%4294967296=a0 at*
 generalize b/4294967296=b1 at*
 generalize b%4294967296=b0 at*
 generalize a*b=ab at*
 generalize a1*b1=p at*
 generalize a1*b0=q at*
 generalize a0*b1=r at*
 generalize a0*b0=s at*
 rw[cv (x:=q) ω ω,cv (x:=s) ω ω,cv (x:=r) ω ω,cv (x:=p) ω ω,cv (x:=q+s/4294967296) ω ω,
  kk ω ω,cv (x:=(q+s/4294967296)%4294967296+r) ω ω,cv (x:=p+(q+s/4294967296)/4294967296) ω ω,cv (x:=p+(q+s/4294967296)/4294967296+_) ω ω,rm]
 congr 2
 omega
end VM
end
section
namespace VM
open Go VM.F
theorem D5(N:Nat){x:Int}(h0: -9223372036854775808≤x)(h1:x<9223372036854775808):F96 N x=some (x.natAbs:Int):=by
 unfold F96
 by_cases h:x<0
 ·rw[aP h,ak,rm,rm];congr 1;omega
 ·rw[aL ω,ar,rm];congr 1;omega
theorem Ak(N:Nat){x y c:Int}(hx:0≤x)(hy:0≤y)(hc:0≤c)(Ih:c≤1):vB N x y c=some ((x+y+c)%18446744073709551616,(x+y+c)/18446744073709551616):=by
 unfold vB;rw[aj ⟨hx,hy,hc,Ih⟩]
theorem uc(N:Nat){x y c:Int}(hx:0≤x)(Iv:x<18446744073709551616)(hy:0≤y)(ZN:y<18446744073709551616)(hc:0≤c)(Ih:c≤1):
  vC N x y c=some ((x-y-c)%18446744073709551616,if x<y+c then 1 else 0):=by
 unfold vC;rw[aj ⟨hx,Iv,hy,ZN,hc,Ih⟩];congr 2;omega
def bitLen(n:Nat):Nat:=if n=0 then 0 else bitLen (n/2)+1
termination_by n
decreasing_by omega
theorem rp{n:Nat}(h:n≠0):bitLen n=bitLen (n/2)+1:=by rw[bitLen];simp[h]
theorem wV:bitLen 0=0:=by rw[bitLen];rfl
theorem bitLen_shift(k:Nat): ∀n,2^k≤n→bitLen n=bitLen (n/2^k)+k:=by
 induction k with
 |zero=>intro n _;simp
 |succ k ih=>
  intro n h
  have hp:0<2^k:=Nat.pow_pos δ
  rw[o8]at h
  rw[rp ω,ih (n/2) ω,Nat.div_div_eq_div_mul,o8,zF 2];omega
theorem bitLen_spec(n:Nat):n<2^bitLen n∧(n≠0→2^(bitLen n-1)≤n):=by
 induction n using Nat.strongRecOn with
 |_ n ih=>
  by_cases h:n=0
  ·subst h;rw[wV];simp
  ·rw[rp h]
   obtain⟨h1,h2⟩:=ih (n/2) ω
   refine⟨by rw[o8];omega,λ_=> ?_⟩
   rw[Nat.add_sub_cancel]
   by_cases h3:n/2=0
   ·rw[h3,wV];simp;omega
   ·have:=h2 h3
    have e:bitLen (n/2)=(bitLen (n/2)-1)+1:=by rw[rp h3];omega
    rw[e,o8];omega
theorem ZQ: ∀i:Fin 256,((strOf [0,1,2,2,3,3,3,3,4,4,4,4,4,4,4,4,5,5,5,5,5,5,5,5,5,5,5,5,5,5,5,5,6,6,6,6,6,6,6,6,6,6,6,6,6,6,6,6,6,6,6,6,6,6,6,6,6,6,6,6,6,6,6,6,7,7,7,7,7,7,7,7,7,7,7,7,7,7,7,7,7,7,7,7,7,7,7,7,7,7,7,7,7,7,7,7,7,7,7,7,7,7,7,7,7,7,7,7,7,7,7,7,7,7,7,7,7,7,7,7,7,7,7,7,7,7,7,7,8,8,8,8,8,8,8,8,8,8,8,8,8,8,8,8,8,8,8,8,8,8,8,8,8,8,8,8,8,8,8,8,8,8,8,8,8,8,8,8,8,8,8,8,8,8,8,8,8,8,8,8,8,8,8,8,8,8,8,8,8,8,8,8,8,8,8,8,8,8,8,8,8,8,8,8,8,8,8,8,8,8,8,8,8,8,8,8,8,8,8,8,8,8,8,8,8,8,8,8,8,8,8,8,8,8,8,8,8,8,8,8,8,8,8,8,8,8,8,8,8,8,8,8,8,8,8,8]).data.getD i.val 0).toNat=Nat.log2 (2*i.val+1):=by decide+kernel
theorem CJ(n:Nat):Nat.log2 (2*n+1)=bitLen n:=by
 induction n using Nat.strongRecOn with
 |_ n ih=>
  by_cases h:n=0
  ·subst h;rw[wV];decide
  ·rw[rp h,EM,aj ω,show(2*n+1)/2=n from by omega]
   congr 1
   have:=ih (n/2) ω
   rw[←this]
   by_cases h2:n%2=0
   ·rw[EM,EM (n:=2*(n/2)+1)]
    have e1:(2*(n/2)+1)/2=n/2:=ω
    rw[aj ω,aj ω,e1]
   ·congr 1;omega
theorem MQ(i:Nat)(h:i<256):((strOf [0,1,2,2,3,3,3,3,4,4,4,4,4,4,4,4,5,5,5,5,5,5,5,5,5,5,5,5,5,5,5,5,6,6,6,6,6,6,6,6,6,6,6,6,6,6,6,6,6,6,6,6,6,6,6,6,6,6,6,6,6,6,6,6,7,7,7,7,7,7,7,7,7,7,7,7,7,7,7,7,7,7,7,7,7,7,7,7,7,7,7,7,7,7,7,7,7,7,7,7,7,7,7,7,7,7,7,7,7,7,7,7,7,7,7,7,7,7,7,7,7,7,7,7,7,7,7,7,8,8,8,8,8,8,8,8,8,8,8,8,8,8,8,8,8,8,8,8,8,8,8,8,8,8,8,8,8,8,8,8,8,8,8,8,8,8,8,8,8,8,8,8,8,8,8,8,8,8,8,8,8,8,8,8,8,8,8,8,8,8,8,8,8,8,8,8,8,8,8,8,8,8,8,8,8,8,8,8,8,8,8,8,8,8,8,8,8,8,8,8,8,8,8,8,8,8,8,8,8,8,8,8,8,8,8,8,8,8,8,8,8,8,8,8,8,8,8,8,8,8,8,8,8,8,8,8]).data.getD i 0).toNat=bitLen i:=by
 rw[←CJ];exact ZQ ⟨i,h⟩
theorem MR:ByteArray.size (strOf [0,1,2,2,3,3,3,3,4,4,4,4,4,4,4,4,5,5,5,5,5,5,5,5,5,5,5,5,5,5,5,5,6,6,6,6,6,6,6,6,6,6,6,6,6,6,6,6,6,6,6,6,6,6,6,6,6,6,6,6,6,6,6,6,7,7,7,7,7,7,7,7,7,7,7,7,7,7,7,7,7,7,7,7,7,7,7,7,7,7,7,7,7,7,7,7,7,7,7,7,7,7,7,7,7,7,7,7,7,7,7,7,7,7,7,7,7,7,7,7,7,7,7,7,7,7,7,7,8,8,8,8,8,8,8,8,8,8,8,8,8,8,8,8,8,8,8,8,8,8,8,8,8,8,8,8,8,8,8,8,8,8,8,8,8,8,8,8,8,8,8,8,8,8,8,8,8,8,8,8,8,8,8,8,8,8,8,8,8,8,8,8,8,8,8,8,8,8,8,8,8,8,8,8,8,8,8,8,8,8,8,8,8,8,8,8,8,8,8,8,8,8,8,8,8,8,8,8,8,8,8,8,8,8,8,8,8,8,8,8,8,8,8,8,8,8,8,8,8,8,8,8,8,8,8,8])=256:=by decide+kernel
set_option maxRecDepth 100000 in
theorem RX(N:Nat){x c:Int}(h0:0≤x)(h1:x<65536)(hc:0≤c)(Ih:c≤100):mT.j7 N x c=some (c+bitLen x.toNat):=by
 unfold mT.j7 mT.PG
 have h8:shr .u64 x 8=x/256:=by rw[u6 ω ω];rfl
 have hle: ∀n,n<256→bitLen n≤8:=λn hn=>by
  rw[←CJ]
  have:Nat.log2 (2*n+1)<9:=(Nat.log2_lt ω).2 ω
  omega
 by_cases h:256≤x
 ·have ht:=MQ (x/256).toNat ω
  have hl:=hle (x/256).toNat ω
  rw[dL h,ak,aL (show(0:Int)≤8 by omega),ar,h8]
  rw[amR (x:=x/256) ω ω]
  extract_lets v8
  rw[MR,aQ ω ω,ak,ht]
  clear ht
  simp (disch:=omega) only[aP,aL,dL,dB,dt,du,aQ,bQ,cj,dq,aw,cv,ak,ar,aY,cz,av,aE,cZ,ae,aT,aK,bB,ck,aW,bZ]
  have:=bitLen_shift 8 x.toNat ω
  rw[this]
  have e:(x/256).toNat=x.toNat/2^8:=ω
  rw[e];congr 1;omega
 ·have ht:=MQ x.toNat ω
  have hl:=hle x.toNat ω
  rw[dB ω,ar,amR (x:=x) ω ω]
  extract_lets v8
  rw[MR,aQ ω ω,ak,ht]
  clear ht
  simp (disch:=omega) only[aP,aL,dL,dB,dt,du,aQ,bQ,cj,dq,aw,cv,ak,ar,aY,cz,av,aE,cZ,ae,aT,aK,bB,ck,aW,bZ]
theorem Wh(N:Nat){x:Int}(h0:0≤x)(h1:x<18446744073709551616):mT N x=some (bitLen x.toNat:Int):=by
 have h16: ∀y c:Int,0≤y→y<4294967296→0≤c→c≤50→mT.j4 N y c=some (c+bitLen y.toNat):=λy c hy0 ZN hc Ih=>by
  unfold mT.j4 mT.j4b
  by_cases h:65536≤y
  ·have e:shr .u64 y 16=y/65536:=by rw[u6 ω ω];rfl
   rw[dL h,ak,aL ω,ar,e,aw ω ω,RX N ω ω ω ω]
   have:=bitLen_shift 16 y.toNat ω
   rw[this]
   have e:(y/65536).toNat=y.toNat/2^16:=ω
   rw[e];congr 1;omega
  ·rw[dB ω,ar,RX N hy0 ω hc ω]
 unfold mT mT.b
 by_cases h:4294967296≤x
 ·rw[dL h,ak,aL ω,ar,Fu,h16 _ _ ω ω ω ω]
  have:=bitLen_shift 32 x.toNat ω
  rw[this]
  have e:(x/4294967296).toNat=x.toNat/2^32:=ω
  rw[e];congr 1;omega
 ·rw[dB ω,ar,h16 _ _ h0 ω ω ω]
  congr 1;omega
end VM
end
section
namespace VM
open Go VM.F
structure pd(Y yn1 yn0 un32 un1 q rh:Int):Prop where
 hY:Y=yn1*4294967296+yn0
 y1:2147483648≤yn1
 y1':yn1<4294967296
 y0:0≤yn0
 y0':yn0<4294967296
 u1:0≤un1
 u1':un1<4294967296
 lt:un32<Y
 q0:0≤q
 eq:q*yn1+rh=un32
 r0:0≤rh
 q1:q≤4294967297
 ge:(un32*4294967296+un1)/Y≤q
theorem pd.prod{Y yn1 yn0 un32 un1 q rh:Int}(g:pd Y yn1 yn0 un32 un1 q rh):q*Y=(un32-rh)*4294967296+q*yn0∧0≤q*yn0∧q*yn0≤18446744073709551615:=by
 have h:=mul_lt (m:=4294967297) (n:=4294967295) g.q0 g.y0 g.q1 (by have:=g.y0';omega)
 refine⟨?_,h.1,ω⟩
 rw[g.hY,lI,←gm,show q*yn1=un32-rh from by have:=g.eq;omega]
theorem pd.pos{Y yn1 yn0 un32 un1 q rh:Int}(g:pd Y yn1 yn0 un32 un1 q rh):0<Y:=by have:=g.hY;have:=g.y1;have:=g.y0;omega
theorem pd.digit{Y yn1 yn0 un32 un1 q rh:Int}(g:pd Y yn1 yn0 un32 un1 q rh)(h:0≤un32):0≤(un32*4294967296+un1)/Y∧(un32*4294967296+un1)/Y<4294967296:=by
 have hp:=g.pos
 have:=g.u1;have:=g.u1';have:=g.lt
 refine⟨me ω ω,?_⟩
 rw[uN hp];omega
theorem pd.done{Y yn1 yn0 un32 un1 q rh:Int}(g:pd Y yn1 yn0 un32 un1 q rh)(h:q*yn0≤4294967296*rh+un1):q=(un32*4294967296+un1)/Y:=by
 have hp:=g.pos
 have h1:=g.prod.1
 have h2:q≤(un32*4294967296+un1)/Y:=by
  rw[Int.le_ediv_iff_mul_le hp];omega
 have:=g.ge
 omega
theorem pd.next{Y yn1 yn0 un32 un1 q rh:Int}(g:pd Y yn1 yn0 un32 un1 q rh)(hu:0≤un32)(h:4294967296≤q∨4294967296*rh+un1<q*yn0):pd Y yn1 yn0 un32 un1 (q-1) (rh+yn1)∧1≤q:=by
 have hp:=g.pos
 have h1:=g.prod.1
 have hd:=g.digit hu
 have fA:(un32*4294967296+un1)/Y<q:=by
  rcases h with h|h
  ·omega
  ·rw[uN hp];omega
 have:=g.q1;have:=g.r0;have:=g.y1
 exact⟨⟨g.hY,g.y1,g.y1',g.y0,g.y0',g.u1,g.u1',g.lt,ω,by rw[Int.sub_mul,qV];have:=g.eq;omega,ω,ω,ω⟩,ω⟩
theorem RY(N:Nat){Y s yn1 yn0 un32 un1 un0:Int}(hu:0≤un32)(VS:un32<18446744073709551616): ∀(m n:Nat) (q rh:Int),pd Y yn1 yn0 un32 un1 q rh→rh<4294967296→4294967296-rh≤2147483648*m→m<n→
  eD.MS N n Y s yn1 yn0 un32 un1 un0 q rh=eD.U2 N Y s yn1 yn0 un32 un1 un0 ((un32*4294967296+un1)/Y)
 |m,0,q,rh,_,_,_,hn=>ω
 |m,n+1,q,rh,g,hr,hm,hn=>by
  unfold eD.MS eD.MT
  have Wi:=g.prod
  have hd:=g.digit hu
  obtain⟨hY,y1,y1',y0,y0',u1,u1',lt,q0,eq,r0,q1,ge⟩:=id g
  have go:(4294967296≤q∨4294967296*rh+un1<q*yn0)→
    (cond (c0 (4294967296:Int) (W .u64 (rh+yn1))) (eD.U2 N Y s yn1 yn0 un32 un1 un0 (W .u64 (q-1))) (eD.MS N n Y s yn1 yn0 un32 un1 un0 (W .u64 (q-1)) (W .u64 (rh+yn1))))=eD.U2 N Y s yn1 yn0 un32 un1 un0 ((un32*4294967296+un1)/Y):=λh=>by
   obtain⟨g',hq⟩:=g.next hu h
   rw[cv (x:=rh+yn1) ω ω,cv (x:=q-1) ω ω]
   by_cases hb:4294967296≤rh+yn1
   ·rw[dL hb,ak]
    have H6:=g'.prod
    rw[g'.done ω]
   ·rw[dB ω,ar]
    exact RY N hu VS (m-1) n (q-1) (rh+yn1) g' ω ω ω
  by_cases h1:4294967296≤q
  ·rw[dL h1,ak]
   exact go (.inl h1)
  ·rw[dB ω,ar,cv (x:=4294967296*rh) ω ω,cv (x:=4294967296*rh+un1) ω ω,cv (x:=q*yn0) ω ω]
   by_cases h2:4294967296*rh+un1<q*yn0
   ·rw[aP h2,ak]
    exact go (.inr h2)
   ·rw[aL ω,ar,g.done ω]
theorem RZ(N:Nat){Y s yn1 yn0 un32 un1 a b:Int}(hu:0≤un32)(VS:un32<18446744073709551616): ∀(m n:Nat) (q rh:Int),pd Y yn1 yn0 un32 un1 q rh→rh<4294967296→4294967296-rh≤2147483648*m→m<n→
  eD.CK N n Y s yn1 yn0 un1 a rh un32 q=eD.j28 N Y s un1 a un32 ((un32*4294967296+un1)/Y)
 |m,0,q,rh,_,_,_,hn=>ω
 |m,n+1,q,rh,g,hr,hm,hn=>by
  unfold eD.CK eD.Dx
  have Wi:=g.prod
  have hd:=g.digit hu
  obtain⟨hY,y1,y1',y0,y0',u1,u1',lt,q0,eq,r0,q1,ge⟩:=id g
  have go:(4294967296≤q∨4294967296*rh+un1<q*yn0)→
    (cond (c0 (4294967296:Int) (W .u64 (rh+yn1))) (eD.j28 N Y s un1 a un32 (W .u64 (q-1))) (eD.CK N n Y s yn1 yn0 un1 a (W .u64 (rh+yn1)) un32 (W .u64 (q-1))))=eD.j28 N Y s un1 a un32 ((un32*4294967296+un1)/Y):=λh=>by
   obtain⟨g',hq⟩:=g.next hu h
   rw[cv (x:=rh+yn1) ω ω,cv (x:=q-1) ω ω]
   by_cases hb:4294967296≤rh+yn1
   ·rw[dL hb,ak]
    have H6:=g'.prod
    rw[g'.done ω]
   ·rw[dB ω,ar]
    exact RZ N (b:=b) hu VS (m-1) n (q-1) (rh+yn1) g' ω ω ω
  by_cases h1:4294967296≤q
  ·rw[dL h1,ak]
   exact go (.inl h1)
  ·rw[dB ω,ar,cv (x:=4294967296*rh) ω ω,cv (x:=4294967296*rh+un1) ω ω,cv (x:=q*yn0) ω ω]
   by_cases h2:4294967296*rh+un1<q*yn0
   ·rw[aP h2,ak]
    exact go (.inr h2)
   ·rw[aL ω,ar,g.done ω]
theorem pd.first{Y yn1 yn0 un32 un1:Int}(hY:Y=yn1*4294967296+yn0)(y1:2147483648≤yn1)(y1':yn1<4294967296)(y0:0≤yn0)(y0':yn0<4294967296)(u1:0≤un1)(u1':un1<4294967296)(hu:0≤un32)(lt:un32<Y):
  pd Y yn1 yn0 un32 un1 (un32/yn1) (un32-un32/yn1*yn1)∧un32-un32/yn1*yn1<4294967296∧0≤un32/yn1*yn1∧un32/yn1*yn1≤un32:=by
 have h1:=sE un32 yn1
 have h2:=oQ un32 (show 0<yn1 by omega)
 have h3:=o5 un32 (show yn1≠0 by omega)
 have yh:0≤un32/yn1:=me hu ω
 rw[eo]at h1
 have hq1:un32/yn1≤4294967297:=by
  have:un32/yn1<4294967298:=by rw[uN ω];omega
  omega
 have YN:(un32*4294967296+un1)/Y≤un32/yn1:=by
  have fA:un32*4294967296+un1<(un32/yn1+1)*Y:=by
   have e:un32+1≤(un32/yn1+1)*yn1:=by rw[iG,qV];omega
   have e2:(un32/yn1+1)*Y=(un32/yn1+1)*yn1*4294967296+(un32/yn1+1)*yn0:=by rw[hY,lI,gm]
   have e3:0≤(un32/yn1+1)*yn0:=o6 ω y0
   omega
  have:(un32*4294967296+un1)/Y<un32/yn1+1:=by rw[uN ω];exact fA
  omega
 exact⟨⟨hY,y1,y1',y0,y0',u1,u1',lt,yh,ω,ω,hq1,YN⟩,ω,o6 yh ω,ω⟩
theorem Wj{a b:Int}{k:Nat}(ha:0≤a)(ZO:a<2^k)(hb:0≤b)(h:b*2^k<18446744073709551616)(hk:k<64):mR .or .u64 (b*2^k) a=b*2^k+a:=by
 have hp:(0:Int)<2^k:=Int.pow_pos δ
 have hpn:((2^k:Nat):Int)=2^k:=by rw[Int.natCast_pow];rfl
 have azB:(2:Int)^k≤2^63:=by
  rw[←hpn,show(2:Int)^63=((2^63:Nat):Int)from by decide]
  exact_mod_cast EA δ ω
 have axc:(2:Int)^63=9223372036854775808:=δ
 have tU:=o6 hb (lG hp)
 rw[Kb tU h ha ω]
 have h1:=Eo (i:=k) (b:=a.toNat) (by
  have:((a.toNat:Nat):Int)<((2^k:Nat):Int):=by rw[hpn,m9 ha];exact ZO
  exact_mod_cast this) b.toNat
 have e:(b*2^k).toNat=2^k*b.toNat:=by
  have:((2^k*b.toNat:Nat):Int)=b*2^k:=by rw[zC,hpn,m9 hb,eo]
  omega
 rw[e,←h1,zD,zC,hpn,m9 hb,m9 ha,eo]
theorem MU(N:Nat)(hN:100≤N){hi lo y:Int}(h0:0≤hi)(h1:hi<y)(l0:0≤lo)(l1:lo<18446744073709551616)(y1:y<18446744073709551616):
  eD N hi lo y=some ((hi*18446744073709551616+lo)/y,(hi*18446744073709551616+lo)%y):=by
 unfold eD eD.b
 rw[du (show y≠0 by omega),ar,dB ω,ar]
 by_cases hz:hi=0
 ·subst hz
  rw[dt rfl,ak,ar,ar,Jy,U9,Er l0,Int.tmod_eq_emod_of_nonneg l0]
  have e1:0≤lo/y:=me l0 ω
  have e2:lo/y≤lo:=Int.ediv_le_self _ l0
  rw[cv ω ω]
  simp
 ·rw[du hz,ar]
  obtain⟨b1,b2⟩:=bitLen_spec y.toNat
  have b2:=b2 ω
  obtain⟨L,hL⟩: ∃L,L=bitLen y.toNat:=⟨_,rfl⟩
  rw[←hL]at b1 b2
  have hL1:1≤L:=by rw[hL,rp ω];omega
  have azC:L≤64:=by
   rcases nq 64 L with h|h
   ·have h3:2^64≤2^(L-1):=EA δ ω
    have:(2:Nat)^64=18446744073709551616:=δ
    omega
   ·exact h
  have hl:ZR N y=some (64-(L:Int)):=by
   unfold ZR
   rw[Wh N ω y1,av,←hL,aw ω ω]
  obtain⟨s,hs⟩: ∃s:Nat,s=64-L:=⟨_,rfl⟩
  have hsI:64-(L:Int)=(s:Int):=ω
  rw[hl,av,hsI]
  clear hl
  have hpn: ∀k:Nat,((2^k:Nat):Int)=2^k:=λk=>by rw[Int.natCast_pow];rfl
  obtain⟨p,hp⟩: ∃p:Int,p=2^s:=⟨_,rfl⟩
  obtain⟨p',H6⟩: ∃p':Int,p'=2^(64-s):=⟨_,rfl⟩
  have Co:p'*p=18446744073709551616:=by
   rw[hp,H6,←Int.pow_add,show 64-s+s=64 from by omega];decide
  have U0:0<p:=by rw[hp];exact Int.pow_pos δ
  have azE:0<p':=by rw[H6];exact Int.pow_pos δ
  have ZN:y*p<18446744073709551616:=by
   have h:y.toNat*2^s<2^L*2^s:=Nat.mul_lt_mul_of_pos_right b1 (Nat.pow_pos δ)
   rw[←Nat.pow_add,show L+s=64 from by omega,show(2:Nat)^64=18446744073709551616 from by decide]at h
   have:((y.toNat*2^s:Nat):Int)=y*p:=by rw[zC,hpn,←hp,m9 ω]
   omega
  have hy2:9223372036854775808≤y*p:=by
   have h:2^(L-1)*2^s≤y.toNat*2^s:=kK _ b2
   rw[←Nat.pow_add,show L-1+s=63 from by omega,show(2:Nat)^63=9223372036854775808 from by decide]at h
   have:((y.toNat*2^s:Nat):Int)=y*p:=by rw[zC,hpn,←hp,m9 ω]
   omega
  have asu: ∀x:Int,shl .u64 x (s:Int)=x*p:=λx=>by rw[RW ω ω,hp];rfl
  have asv:shr .u64 lo (64-(s:Int))=lo*p/18446744073709551616:=by
   rw[u6 ω ω,show(64-(s:Int)).toNat=64-s from by omega,←H6,←Co,Int.mul_ediv_mul_of_pos_left _ _ U0]
  have hhp:hi*p+p≤y*p:=by
   have:=uH (show hi+1≤y by omega) (lG U0)
   rw[iG,qV]at this;exact this
  have azH:0≤hi*p:=o6 h0 (lG U0)
  have asw:0≤lo*p:=o6 l0 (lG U0)
  have asx:lo*p<18446744073709551616*p:=Lw l1 U0
  have si:lo*p/18446744073709551616<p:=by rw[uN ω,eo p];exact asx
  have ht0:0≤lo*p/18446744073709551616:=me asw ω
  have hor:mR .or .u64 (hi*p) (lo*p/18446744073709551616)=hi*p+lo*p/18446744073709551616:=by
   have:=Wj (k:=s) (a:=lo*p/18446744073709551616) (b:=hi) ht0 (by rw[←hp];exact si) h0 (by rw[←hp];omega) ω
   rw[←hp]at this;exact this
  obtain⟨Y,hY⟩: ∃Y,Y=y*p:=⟨_,rfl⟩
  have hU:(hi*18446744073709551616+lo)*p=(hi*p+lo*p/18446744073709551616)*18446744073709551616+lo*p%18446744073709551616:=by
   rw[iG,gm,eo 18446744073709551616 p,←gm];omega
  have hws:W .u64 (s:Int)=(s:Int):=cv ω ω
  have asy:W .u64 (64-(s:Int))=64-(s:Int):=cv ω ω
  have hwl:W .u64 (lo*p)=lo*p%18446744073709551616:=rm _
  simp only[hws,asy,asu,asv,hwl]
  rw[←hY]at ZN hy2 hhp ⊢
  have hwy:W .u64 Y=Y:=cv ω ω
  have hwh:W .u64 (hi*p)=hi*p:=cv ω ω
  simp only[hwy,hwh,hor]
  obtain⟨u,hu⟩: ∃u,u=hi*p+lo*p/18446744073709551616:=⟨_,rfl⟩
  obtain⟨v,hv⟩: ∃v,v=lo*p%18446744073709551616:=⟨_,rfl⟩
  rw[←hu,←hv]at hU ⊢
  have hv0:0≤v:=ω
  have Md:v<18446744073709551616:=ω
  have hu0:0≤u:=ω
  have hu1:u<Y:=ω
  have hmy:mR .and .u64 Y 4294967295=Y%4294967296:=kk ω ω
  have hmv:mR .and .u64 v 4294967295=v%4294967296:=kk hv0 Md
  obtain⟨g1,g2,g3,g4⟩:=pd.first (Y:=Y) (yn1:=Y/4294967296) (yn0:=Y%4294967296) (un32:=u) (un1:=v/4294967296) ω ω ω ω ω ω ω hu0 hu1
  have hq:quo u (Y/4294967296)=u/(Y/4294967296):=by rw[Jy,Er hu0]
  have hwq:W .u64 (u/(Y/4294967296))=u/(Y/4294967296):=cv g1.q0 (by have:=g1.q1;omega)
  have hwm:W .u64 (u/(Y/4294967296)*(Y/4294967296))=u/(Y/4294967296)*(Y/4294967296):=cv g3 ω
  have hwr:W .u64 (u-u/(Y/4294967296)*(Y/4294967296))=u-u/(Y/4294967296)*(Y/4294967296):=cv ω ω
  rw[aL (show(0:Int)≤s by omega),aL (show(0:Int)≤32 by omega),aL (show(0:Int)≤64-(s:Int)by omega),Fu,Fu,hmy,hmv,du (show Y/4294967296≠0 by omega),hq,hwq,hwm,hwr]
  simp only[ar]
  rw[RY N hu0 ω 3 N _ _ g1 g2 ω ω]
  have d1:=g1.digit hu0
  clear hq hwq hwm hwr g1 g2 g3 g4
  obtain⟨q1,hq1⟩: ∃q1,q1=(u*4294967296+v/4294967296)/Y:=⟨_,rfl⟩
  have m1:=sE (u*4294967296+v/4294967296) Y
  have m2:=oQ (u*4294967296+v/4294967296) (show 0<Y by omega)
  have m3:=o5 (u*4294967296+v/4294967296) (show Y≠0 by omega)
  rw[←hq1]at d1 m1 ⊢
  obtain⟨r1,zf⟩: ∃r1,r1=(u*4294967296+v/4294967296)%Y:=⟨_,rfl⟩
  rw[←zf]at m1 m2 m3
  rw[eo]at m1
  unfold eD.U2 eD.Qa
  have asz:W .u64 (W .u64 (W .u64 (u*4294967296)+v/4294967296)-W .u64 (q1*Y))=r1:=by
   simp only[rm]
   generalize q1*Y=z at*
   omega
  simp only[asz]
  obtain⟨g1,g2,g3,g4⟩:=pd.first (Y:=Y) (yn1:=Y/4294967296) (yn0:=Y%4294967296) (un32:=r1) (un1:=v%4294967296) ω ω ω ω ω ω ω m3 m2
  have hq:quo r1 (Y/4294967296)=r1/(Y/4294967296):=by rw[Jy,Er m3]
  have hwq:W .u64 (r1/(Y/4294967296))=r1/(Y/4294967296):=cv g1.q0 (by have:=g1.q1;omega)
  have hwm:W .u64 (r1/(Y/4294967296)*(Y/4294967296))=r1/(Y/4294967296)*(Y/4294967296):=cv g3 ω
  have hwr:W .u64 (r1-r1/(Y/4294967296)*(Y/4294967296))=r1-r1/(Y/4294967296)*(Y/4294967296):=cv ω ω
  rw[du (show Y/4294967296≠0 by omega),hq,hwq,hwm,hwr,ar,RZ N (b:=0) m3 ω 3 N _ _ g1 g2 ω ω]
  have d0:=g1.digit m3
  clear hq hwq hwm hwr g1 g2 g3 g4
  obtain⟨q0,yh⟩: ∃q0,q0=(r1*4294967296+v%4294967296)/Y:=⟨_,rfl⟩
  have n1:=sE (r1*4294967296+v%4294967296) Y
  have n2:=oQ (r1*4294967296+v%4294967296) (show 0<Y by omega)
  have n3:=o5 (r1*4294967296+v%4294967296) (show Y≠0 by omega)
  rw[←yh]at d0 n1 ⊢
  obtain⟨r0,YH⟩: ∃r0,r0=(r1*4294967296+v%4294967296)%Y:=⟨_,rfl⟩
  rw[←YH]at n1 n2 n3
  rw[eo]at n1
  unfold eD.j28 eD.ahK
  have asA:W .u64 (W .u64 (W .u64 (r1*4294967296)+v%4294967296)-W .u64 (q0*Y))=r0:=by
   simp only[rm]
   generalize q0*Y=z at*
   omega
  rw[aL (show(0:Int)≤s by omega),ar,asA,cv (x:=q1*4294967296) ω ω,cv (x:=q1*4294967296+q0) ω ω,u6 ω ω,aE,←hp]
  obtain⟨V,hV⟩: ∃V,V=hi*18446744073709551616+lo:=⟨_,rfl⟩
  obtain⟨Q,hQ⟩: ∃Q,Q=q1*4294967296+q0:=⟨_,rfl⟩
  rw[←hV]at hU ⊢
  rw[←hQ]
  have hQY:Q*Y=q1*Y*4294967296+q0*Y:=by rw[hQ,iG,gm,eo 4294967296 Y,←gm]
  have azP:V*p=Q*Y+r0:=by rw[hU,hQY];generalize q1*Y=z1 at*;generalize q0*Y=z0 at*;omega
  have amY:r0=(V-Q*y)*p:=by rw[Int.sub_mul,gm,←hY];omega
  have hd0:0≤V-Q*y:=by
   by_cases h:V-Q*y<0
   ·have:=Int.mul_neg_of_neg_of_pos h U0;omega
   ·omega
  have hd1:V-Q*y<y:=by
   by_cases h:V-Q*y<y
   ·exact h
   ·have:=uH (show y≤V-Q*y by omega) (lG U0);rw[←amY,←hY]at this;omega
  have hVe:V=(V-Q*y)+y*Q:=by rw[eo y Q];omega
  have e1:V/y=Q:=by
   rw[hVe,vZ _ _ ω,zr hd0 hd1];omega
  have e2:V%y=V-Q*y:=by
   have:=sE V y
   rw[e1,eo]at this;omega
  rw[e1,e2,amY,Int.mul_ediv_cancel _ ω]
end VM
end
section
namespace VM
open Go VM.F
def cV:List Int→Int
 |[]=>0
 |d::r=>d+4294967296*cV r
def VD(l:List Int):Prop:= ∀d∈l,0≤d∧d<4294967296
def lP(n:Nat):List Int:=if n=0 then []else((n%4294967296:Nat):Int)::lP (n/4294967296)
termination_by n
decreasing_by omega
theorem ko:lP 0=[]:=by rw[lP];rfl
theorem xB{n:Nat}(h:n≠0):lP n=((n%4294967296:Nat):Int)::lP (n/4294967296):=by rw[lP];simp[h]
theorem VD.nil:VD []:=λd h=>by cases h
theorem VD.cons{d:Int}{l:List Int}(h0:0≤d)(h1:d<4294967296)(h:VD l):VD (d::l):=λx hx=>by
 rcases aX.1 hx with rfl|hx
 ·exact⟨h0,h1⟩
 ·exact h x hx
theorem VD.tail{d:Int}{l:List Int}(h:VD (d::l)):VD l:=λx hx=>h x (a8 _ hx)
theorem VD.append{a b:List Int}(h:VD a)(k:VD b):VD (a++b):=λx hx=>(bo.1 hx).elim (h x) (k x)
theorem VD.drop{l:List Int}(h:VD l)(n:Nat):VD (l.drop n):=λx hx=>h x (m8 hx)
theorem VD.take{l:List Int}(h:VD l)(n:Nat):VD (l.take n):=λx hx=>h x (jI hx)
theorem VD.getD{l:List Int}(h:VD l)(n:Nat):0≤l.getD n 0∧l.getD n 0<4294967296:=by
 rw[aR]
 cases hn:l[n]? with
 |none=>exact⟨fx _,δ⟩
 |some x=>exact h x (List.mem_of_getElem? hn)
theorem VD.set{l:List Int}(h:VD l)(n:Nat){x:Int}(h0:0≤x)(h1:x<4294967296):VD (l.set n x):=λy hy=>by
 rcases tA hy with hy|rfl
 ·exact h y hy
 ·exact⟨h0,h1⟩
theorem VD.afR(n:Nat):VD (List.replicate n 0):=λx hx=>by rw[zo hx];exact⟨fx _,δ⟩
theorem kp: ∀{l:List Int},VD l→0≤cV l
 |[],_=>fx _
 |d::r,h=>by
  have:=kp h.tail
  have:=(h d (bp ..)).1
  simp only[cV];omega
theorem g9(n:Nat):cV (lP n)=n:=by
 induction n using Nat.strongRecOn with
 |_ n ih=>
  by_cases h:n=0
  ·subst h;rw[ko];rfl
  ·rw[xB h,cV,ih _ ω];omega
theorem kq(n:Nat):VD (lP n):=by
 induction n using Nat.strongRecOn with
 |_ n ih=>
  by_cases h:n=0
  ·subst h;rw[ko];exact VD.nil
  ·rw[xB h];exact VD.cons ω ω (ih _ ω)
theorem Al{n:Nat}:lP n=[]↔n=0:=by
 constructor
 ·intro h
  by_cases hn:n=0
  ·exact hn
  ·rw[xB hn]at h;cases h
 ·rintro rfl;exact ko
theorem xC(k:Nat): ∀n,n<4294967296^k→(lP n).length≤k:=by
 induction k with
 |zero=>
  intro n h;have:n=0:=by simpa using h
  subst this;rw[ko];simp
 |succ k ih=>
  intro n h
  by_cases hn:n=0
  ·subst hn;rw[ko];simp
  ·rw[xB hn,aW]
   have:=ih (n/4294967296) (by rw[LM ω];rw[o8]at h;exact h)
   omega
theorem Kc(k:Nat): ∀n,(lP n).length≤k→n<4294967296^k:=by
 induction k with
 |zero=>
  intro n h
  have:lP n=[]:=uI ω
  rw[Al]at this;subst this;decide
 |succ k ih=>
  intro n h
  by_cases hn:n=0
  ·subst hn;exact Nat.pow_pos δ
  ·rw[xB hn,aW]at h
   have:=ih (n/4294967296) ω
   rw[LM ω]at this
   rw[o8];exact this
def strip:List Int→List Int
 |[]=>[]
 |d::r=>if strip r=[]∧d=0 then []else d::strip r
theorem MV: ∀{l:List Int},VD l→strip l=lP (cV l).toNat
 |[],_=>by rw[show(cV []).toNat=0 from rfl,ko];rfl
 |d::r,h=>by
  have ih:=MV h.tail
  have h0:=kp h.tail
  obtain⟨h1,h2⟩:=h d (bp ..)
  simp only[strip,cV,ih,Al]
  split
  ·rename_i hc
   obtain⟨hc,rfl⟩:=hc
   have:cV r=0:=ω
   rw[this];exact ko.symm
  ·rename_i hc
   have iI:(d+4294967296*cV r).toNat≠0:=λhe=>hc ⟨ω,ω⟩
   rw[xB iI]
   congr 1
   ·omega
   ·congr 1;omega
theorem Fv: ∀(l:List Int) (x:Int),strip (l++[x])=if x=0 then strip l else l++[x]
 |[],x=>by simp[strip]
 |d::r,x=>by
  simp only[kL,strip,Fv r x]
  split
  ·rfl
  ·simp
theorem gb(l:List Int){k:Nat}(h:k<l.length):l.take (k+1)=l.take k++[l.getD k 0]:=by
 rw[List.take_succ_eq_append_getElem h,aR,bl h];rfl
theorem Iw(N:Nat)(l:List Int)(hl:l.length<68719476736): ∀(k n:Nat),k≤l.length→k<n→oz.l2 N n l (k:Int)=some (strip (l.take k))
 |0,n+1,_,_=>by
  unfold oz.l2 oz.gV
  simp (disch:=omega) only[aP,aL,dL,dB,dt,du,aQ,bQ,cj,dq,aw,cv,ak,ar,aY,cz,av,aE,cZ,ae,aT,aK,bB,ck,aW,bZ]
  simp[strip]
 |k+1,n+1,hk,hn=>by
  unfold oz.l2 oz.gV
  have e:((k+1:Nat):Int)-1=(k:Int):=ω
  simp (disch:=omega) only[aP,aL,dL,dB,dt,du,aQ,bQ,cj,dq,aw,cv,ak,ar,aY,cz,av,aE,cZ,ae,aT,aK,bB,ck,aW,bZ,e]
  have ih:=Iw N l hl k n ω ω
  rw[gb l ω,Fv]
  by_cases h:l.getD k 0=0
  ·rw[dt h,ak,ih,aj h]
  ·rw[du h,ar,ah h]
   simp only[cZ,cM]
theorem Kd(N:Nat){l:List Int}(h:VD l)(hN:l.length<N)(hl:l.length<68719476736):oz N l=some (lP (cV l).toNat):=by
 unfold oz oz.b
 rw[Iw N l hl l.length N (aI _) hN,iD,MV h]
def di(v:Int):aF:=(decide (v<0),(lP v.natAbs,()))
theorem sO(N:Nat)(neg:Bool){l:List Int}(h:VD l)(hN:l.length<N)(hl:l.length<68719476736):Wk N neg l=some (di (if neg then-cV l else cV l)):=by
 unfold Wk
 rw[Kd N h hN hl,av]
 have h0:=kp h
 cases neg
 ·simp only[ar,di,jd,fa]
  rw[cg ω]
  congr 4;omega
 ·simp only[ak,di,gH]
  have e:(-cV l).natAbs=(cV l).toNat:=ω
  rw[e]
  congr 2
  by_cases hz:cV l=0
  ·rw[hz,cZ,ko,aL (by simp),cg ω]
  ·have:0<(lP (cV l).toNat).length:=by
    apply o0.2
    intro hd;rw[Al]at hd;omega
   rw[aP ω,bs ω]
theorem size_eq(N:Nat)(hN:1000≤N){u:Int}(h0:0≤u)(h1:u<18446744073709551616):F67 N u=some (lP u.toNat):=by
 unfold F67
 rw[kk h0 h1,Fu]
 have hv:VD [u%4294967296,u/4294967296]:=VD.cons ω ω (VD.cons ω ω VD.nil)
 simp (disch:=omega) only[aP,aL,dL,dB,dt,du,aQ,bQ,cj,dq,aw,cv,ak,ar,aY,cz,av,aE,cZ,ae,aT,aK,bB,ck,aW,bZ,Kd N hv (by simp;omega) (by simp)]
 congr 2
 simp only[cV];omega
theorem dC(N:Nat)(hN:1000≤N){x:Int}(h0: -9223372036854775808≤x)(h1:x<9223372036854775808):kt N x=some (di x):=by
 unfold kt
 have hd: ∀n:Nat,n<18446744073709551616→(lP n).length≤2:=λn h=>xC 2 n (by simpa using h)
 by_cases h:x<0
 ·have e:W .u64 (0-W .u64 x)= -x:=by rw[rm,rm];omega
  simp only[aP h,ak,e,size_eq N hN (show 0≤ -x by omega) ω,av]
  have:=hd (-x).toNat ω
  rw[sO N true (kq _) ω ω,g9,aj rfl,show-(((-x).toNat:Nat):Int)=x from by omega];rfl
 ·have e:W .u64 x=x:=cv ω ω
  simp only[aL (show 0≤x by omega),ar,e,size_eq N hN (show 0≤x by omega) ω,av]
  have:=hd x.toNat ω
  rw[sO N false (kq _) ω ω,g9,ah qK,m9 ω];rfl
theorem wW(N:Nat)(l:List Int)(i:Nat):ZS N l (i:Int)=some (l.getD i 0):=by
 unfold ZS
 by_cases h:i<l.length
 ·simp (disch:=omega) only[aP,aL,dL,dB,dt,du,aQ,bQ,cj,dq,aw,cv,ak,ar,aY,cz,av,aE,cZ,ae,aT,aK,bB,ck,aW,bZ]
 ·simp (disch:=omega) only[aP,aL,dL,dB,dt,du,aQ,bQ,cj,dq,aw,cv,ak,ar,aY,cz,av,aE,cZ,ae,aT,aK,bB,ck,aW,bZ]
  rw[aR,gP ω];rfl
theorem kT(l:List Int)(i:Nat):cV (l.drop i)=l.getD i 0+4294967296*cV (l.drop (i+1)):=by
 by_cases h:i<l.length
 ·rw[lX h,cV,aR,bl h];rfl
 ·rw[kJ ω,kJ ω,aR,gP ω];rfl
theorem MW(N:Nat){a b:List Int}(ha:VD a)(hb:VD b)(yQ:a.length≤1000000)(PF:b.length≤1000000): ∀(m n i:Nat) (out:List Int) (c:Int),a.length+b.length+2-i≤m→m<n→out.length=i→i≤a.length+b.length+1→0≤c→c≤1→(a.length≤i→b.length≤i→i=max a.length b.length∨c=0)→
  ∃r,vK.l4 N n a b out c (i:Int)=some (out++r)∧VD r∧cV r=cV (a.drop i)+cV (b.drop i)+c∧r.length≤m
 |m,0,i,out,c,_,hn,_,_,_,_,_=>ω
 |m,n+1,i,out,c,hm,hn,ho,hi,UU,Ih,hz=>by
  unfold vK.l4 vK.dH
  by_cases MX:a.length≤i∧b.length≤i∧c=0
  ·obtain⟨h1,h2,rfl⟩:=MX
   simp (disch:=omega) only[aP,aL,dL,dB,dt,du,aQ,bQ,cj,dq,aw,cv,ak,ar,aY,cz,av,aE,cZ,ae,aT,aK,bB,ck,aW,bZ]
   exact⟨[],by simp,VD.nil,by rw[kJ h1,kJ h2];rfl,bG _⟩
  ·obtain⟨ga0,ga1⟩:=ha.getD i
   obtain⟨gb0,gb1⟩:=hb.getD i
   have step: ∃r,vK.j6 N (vK.l4 N n) a b out c (i:Int)=some (out++r)∧VD r∧cV r=cV (a.drop i)+cV (b.drop i)+c∧r.length≤m:=by
    unfold vK.j6 vK.Tw
    have Ht:i≤a.length+b.length:=by
     by_cases h1:a.length≤i∧b.length≤i
     ·rcases hz h1.1 h1.2 with h|h
      ·omega
      ·exact absurd ⟨h1.1,h1.2,h⟩ MX
     ·omega
    simp only[wW,av]
    generalize hga:a.getD i 0=x at*
    generalize hgb:b.getD i 0=y at*
    rw[cv (x:=x+y) ω ω,cv (x:=c+(x+y)) ω ω,kk ω ω,Fu]
    simp (disch:=omega) only[aP,aL,dL,dB,dt,du,aQ,bQ,cj,dq,aw,cv,ak,ar,aY,cz,av,aE,cZ,ae,aT,aK,bB,ck,aW,bZ]
    obtain⟨r,hr,hv,hs,H9⟩:=MW N ha hb yQ PF (m-1) n (i+1) (out++[(c+(x+y))%4294967296]) ((c+(x+y))/4294967296) ω ω (by simp[ho]) ω ω ω (λh1 h2=>by
     by_cases h3:a.length≤i∧b.length≤i
     ·right
      rw[←hga,←hgb,aR,gP h3.1,aR,gP h3.2]
      simp only[Option.getD_none];omega
     ·left;omega)
    refine⟨(c+(x+y))%4294967296::r,by rw[hr];simp,VD.cons ω ω hv,?_,by rw[aW];omega⟩
    rw[cV,hs,kT a i,kT b i,hga,hgb];omega
   by_cases h1:i<a.length
   ·simp (disch:=omega) only[aP,ak];exact step
   ·by_cases h2:i<b.length
    ·simp (disch:=omega) only[aP,aL,ak,ar];exact step
    ·have:0<c:=ω
     simp (disch:=omega) only[aP,aL,ak,ar];exact step
theorem R1: ∀{l:List Int},VD l→cV l<4294967296^l.length
 |[],_=>by simp[cV]
 |d::r,h=>by
  have ih:=R1 h.tail
  obtain⟨h1,h2⟩:=h d (bp ..)
  rw[cV,aW,zG]
  generalize (4294967296:Int)^r.length=p at*
  omega
theorem MY(N:Nat)(hN:4000000≤N){a b:List Int}(ha:VD a)(hb:VD b)(yQ:a.length≤1000000)(PF:b.length≤1000000): ∃r,vK N a b=some r∧VD r∧cV r=cV a+cV b∧r.length≤2000002:=by
 unfold vK vK.b
 obtain⟨r,hr,hv,hs,hl⟩:=MW N ha hb yQ PF (a.length+b.length+2) N 0 [] 0 ω ω rfl ω ω ω (λ_ _=> .inr rfl)
 exact⟨r,hr,hv,by simpa using hs,ω⟩
theorem Fw(N:Nat){a b:List Int}(ha:VD a)(hb:VD b)(yQ:a.length≤1000000): ∀(m n i:Nat) (out:List Int) (c:Int),a.length-i≤m→m<n→out.length=i→i≤a.length→0≤c→c≤1→0≤cV (a.drop i)-cV (b.drop i)-c→
  ∃r,D6.l4 N n a b out c (i:Int)=some (out++r)∧VD r∧cV r=cV (a.drop i)-cV (b.drop i)-c∧r.length≤m
 |m,0,i,out,c,_,hn,_,_,_,_,_=>ω
 |m,n+1,i,out,c,hm,hn,ho,hi,UU,Ih,hz=>by
  unfold D6.l4 D6.dH
  by_cases h1:i<a.length
  ·obtain⟨ga0,ga1⟩:=ha.getD i
   obtain⟨gb0,gb1⟩:=hb.getD i
   rw[kT a i,kT b i]at*
   simp only[wW,av,aE]
   generalize hga:a.getD i 0=x at*
   generalize hgb:b.getD i 0=y at*
   rw[cv (x:=y+c) ω ω,cv (x:=x+4294967296) ω ω]
   by_cases fA:x<y+c
   ·rw[cv (x:=x+4294967296-(y+c)) ω ω]
    simp (disch:=omega) only[aP,aL,dL,dB,dt,du,aQ,bQ,cj,dq,aw,cv,ak,ar,aY,cz,av,aE,cZ,ae,aT,aK,bB,ck,aW,bZ,hga,hgb]
    obtain⟨r,hr,hv,hs,H9⟩:=Fw N ha hb yQ (m-1) n (i+1) (out++[x+4294967296-(y+c)]) 1 ω ω (by simp[ho]) ω ω ω ω
    refine⟨(x+4294967296-(y+c))::r,by rw[hr];simp,VD.cons ω ω hv,by rw[cV,hs];omega,by rw[aW];omega⟩
   ·rw[cv (x:=x-(y+c)) ω ω]
    simp (disch:=omega) only[aP,aL,dL,dB,dt,du,aQ,bQ,cj,dq,aw,cv,ak,ar,aY,cz,av,aE,cZ,ae,aT,aK,bB,ck,aW,bZ,hga,hgb]
    obtain⟨r,hr,hv,hs,H9⟩:=Fw N ha hb yQ (m-1) n (i+1) (out++[x-(y+c)]) 0 ω ω (by simp[ho]) ω ω ω ω
    refine⟨(x-(y+c))::r,by rw[hr];simp,VD.cons ω ω hv,by rw[cV,hs];omega,by rw[aW];omega⟩
  ·simp (disch:=omega) only[aP,aL,dL,dB,dt,du,aQ,bQ,cj,dq,aw,cv,ak,ar,aY,cz,av,aE,cZ,ae,aT,aK,bB,ck,aW,bZ]
   have h0:=kp (hb.drop i)
   rw[kJ (l:=a) ω]at hz ⊢
   simp only[cV]at hz ⊢
   exact⟨[],by simp,VD.nil,by simp only[cV];omega,bG _⟩
theorem CL(N:Nat)(hN:4000000≤N){a b:List Int}(ha:VD a)(hb:VD b)(yQ:a.length≤1000000)(h:cV b≤cV a): ∃r,D6 N a b=some r∧VD r∧cV r=cV a-cV b∧r.length≤1000000:=by
 unfold D6 D6.b
 obtain⟨r,hr,hv,hs,hl⟩:=Fw N ha hb yQ a.length N 0 [] 0 ω ω rfl ω ω ω (by simp;omega)
 exact⟨r,hr,hv,by simpa using hs,ω⟩
theorem qA: ∀(l:List Int) (x:Int),cV (l++[x])=cV l+4294967296^l.length*x
 |[],x=>by simp[cV]
 |d::r,x=>by
  rw[kL,cV,qA r x,cV,aW,zG,eo _ 4294967296,gm,lI];omega
theorem MZ{a b:List Int}(ha:VD a)(hb:VD b){k:Nat}(h1:k<a.length)(h2:k<b.length)(fA:a.getD k 0<b.getD k 0):cV (a.take (k+1))<cV (b.take (k+1)):=by
 rw[gb a h1,gb b h2,qA,qA]
 have l1:(a.take k).length=k:=by rw[bO];omega
 have l2:(b.take k).length=k:=by rw[bO];omega
 have v1:=R1 (ha.take k)
 have v2:=kp (hb.take k)
 rw[l1]at*
 rw[l2]
 generalize (4294967296:Int)^k=p at*
 have hp:0<p:=by have:=kp (ha.take k);omega
 have:=p3 (show a.getD k 0+1≤b.getD k 0 by omega) (lG hp)
 rw[lI,Int.mul_one]at this
 omega
def xD(x:Int):Int:=if x<0 then-1 else if 0<x then 1 else 0
theorem M4(N:Nat){a b:List Int}(ha:VD a)(hb:VD b)(hl:a.length=b.length)(yQ:a.length≤1000000): ∀(k n:Nat),k≤a.length→k<n→Dy.l6 N n a b ((k:Int)-1)=some (xD (cV (a.take k)-cV (b.take k)))
 |k,0,_,hn=>ω
 |0,n+1,_,_=>by
  unfold Dy.l6 Dy.tb
  simp (disch:=omega) only[aP,aL,dL,dB,dt,du,aQ,bQ,cj,dq,aw,cv,ak,ar,aY,cz,av,aE,cZ,ae,aT,aK,bB,ck,aW,bZ]
  simp[xD,cV]
 |k+1,n+1,hk,hn=>by
  unfold Dy.l6 Dy.tb
  have e:((k+1:Nat):Int)-1=(k:Int):=ω
  rw[e]
  simp (disch:=omega) only[aP,aL,dL,dB,dt,du,aQ,bQ,cj,dq,aw,cv,ak,ar,aY,cz,av,aE,cZ,ae,aT,aK,bB,ck,aW,bZ]
  by_cases h1:a.getD k 0<b.getD k 0
  ·rw[aP h1,ak]
   have:=MZ ha hb (k:=k) ω ω h1
   rw[xD,aj ω]
  ·rw[aL ω,ar]
   by_cases h2:b.getD k 0<a.getD k 0
   ·rw[aP h2,ak]
    have:=MZ hb ha (k:=k) ω ω h2
    rw[xD,ah ω,aj ω]
   ·rw[aL ω,ar,M4 N ha hb hl yQ k n ω ω]
    congr 2
    rw[gb a ω,gb b ω,qA,qA,show a.getD k 0=b.getD k 0 from by omega,bO,bO,hl]
    omega
theorem M5(N:Nat)(hN:4000000≤N)(m k:Nat)(hm:(lP m).length≤1000000)(hk:(lP k).length≤1000000):Dy N (lP m) (lP k)=some (xD ((m:Int)-k)):=by
 unfold Dy Dy.b
 by_cases h:(lP m).length=(lP k).length
 ·simp (disch:=omega) only[aP,aL,dL,dB,dt,du,aQ,bQ,cj,dq,aw,cv,ak,ar,aY,cz,av,aE,cZ,ae,aT,aK,bB,ck,aW,bZ]
  rw[M4 N (kq m) (kq k) h hm (lP m).length N (aI _) ω,iD,h,iD,g9,g9]
 ·rw[du ω,cz,ak]
  by_cases fA:(lP m).length<(lP k).length
  ·rw[aP ω,ak]
   have h1:=Kc ((lP k).length-1) m ω
   have h2: ¬(k<4294967296^((lP k).length-1)):=λh=>by have:=xC _ _ h;omega
   rw[xD,aj ω]
  ·rw[aL ω,ar]
   have h1:=Kc ((lP m).length-1) k ω
   have h2: ¬(m<4294967296^((lP m).length-1)):=λh=>by have:=xC _ _ h;omega
   rw[xD,ah ω,aj ω]
end VM
end
section
namespace VM
open Go VM.F
def Fit(v:Int)(k:Nat):Prop:=v.natAbs<4294967296^k
theorem Fit.len{v:Int}{k:Nat}(h:Fit v k):(lP v.natAbs).length≤k:=xC k _ h
theorem Fit.mono{v:Int}{j k:Nat}(h:Fit v j)(hjk:j≤k):Fit v k:=nc h (EA δ hjk)
theorem Fit.neg{v:Int}{k:Nat}(h:Fit v k):Fit (-v) k:=by unfold Fit at*;rwa [Int.natAbs_neg]
theorem Fit.i64{v:Int}(h0: -9223372036854775808≤v)(h1:v<9223372036854775808):Fit v 2:=by
 unfold Fit
 rw[show(4294967296:Nat)^2=18446744073709551616 from by decide];omega
theorem Fit.add{u v:Int}{k:Nat}(hu:Fit u k)(hv:Fit v k):Fit (u+v) (k+1):=by
 unfold Fit at*
 rw[o8]
 have:(u+v).natAbs≤u.natAbs+v.natAbs:=Int.natAbs_add_le u v
 generalize 4294967296^k=p at*
 omega
theorem Fit.mul{u v:Int}{j k:Nat}(hu:Fit u j)(hv:Fit v k):Fit (u*v) (j+k):=by
 unfold Fit at*
 rw[Int.natAbs_mul,Nat.pow_add]
 exact Nat.mul_lt_mul'' hu hv
theorem Fit.of_le{u v:Int}{k:Nat}(hv:Fit v k)(h:u.natAbs≤v.natAbs):Fit u k:=Nat.lt_of_le_of_lt h hv
theorem ud(a b:Bool):oR .bool a b=(a==b):=by simp[oR]
theorem jN(N:Nat)(hN:4000000≤N){u v:Int}(hu:Fit u 900000)(hv:Fit v 900000):Am N (di u) (di v)=some (di (u+v)):=by
 have lu:=hu.len
 have lv:=hv.len
 unfold Am
 simp only[di,ud]
 by_cases hs:decide (u<0)=decide (v<0)
 ·rw[hs,wg,ak]
  obtain⟨r,hr,hvd,JX,hl⟩:=MY N hN (kq u.natAbs) (kq v.natAbs) ω ω
  simp only[hr,av,sO N _ hvd ω ω,JX,g9]
  congr 1
  show di _=di _
  congr 1
  by_cases h:v<0
  ·have:u<0:=by simpa [h]using hs
   rw[aj (bs h)];omega
  ·have: ¬u<0:=by simpa [h]using hs
   rw[ah (by simpa using h)];omega
 ·have hb:(decide (u<0)==decide (v<0))=false:=by simpa using hs
  rw[hb,ar,M5 N hN _ _ ω ω,av]
  by_cases hc:v.natAbs≤u.natAbs
  ·have h1:c0 0 (xD ((u.natAbs:Int)-v.natAbs))=true:=dL (by unfold xD;split<;>(try split)<;>omega)
   obtain⟨r,hr,hvd,JX,hl⟩:=CL N hN (kq u.natAbs) (kq v.natAbs) ω (by rw[g9,g9];omega)
   simp only[h1,ak,hr,av,sO N _ hvd ω ω,JX,g9]
   congr 1
   show di _=di _
   congr 1
   by_cases h:u<0
   ·have: ¬v<0:=λhv=>hs (by simp[h,hv])
    rw[aj (bs h)];omega
   ·have:v<0:=LC λhv=>hs (by simp[h,hv])
    rw[ah (by simpa using h)];omega
  ·have h1:c0 0 (xD ((u.natAbs:Int)-v.natAbs))=false:=dB (by unfold xD;rw[aj ω];omega)
   obtain⟨r,hr,hvd,JX,hl⟩:=CL N hN (kq v.natAbs) (kq u.natAbs) ω (by rw[g9,g9];omega)
   simp only[h1,ar,hr,av,sO N _ hvd ω ω,JX,g9]
   congr 1
   show di _=di _
   congr 1
   by_cases h:v<0
   ·have: ¬u<0:=λhu=>hs (by simp[h,hu])
    rw[aj (bs h)];omega
   ·have:u<0:=LC λhu=>hs (by simp[h,hu])
    rw[ah (by simpa using h)];omega
theorem oB(N:Nat)(hN:4000000≤N){u:Int}(hu:Fit u 900000):U3 N (di u)=some (di (-u)):=by
 have lu:=hu.len
 unfold U3
 simp only[di]
 simp only[sO N _ (kq u.natAbs) ω ω,av,g9]
 congr 1
 show di _=di _
 congr 1
 by_cases h:u<0
 ·rw[bs h,aY,ah qK];omega
 ·rw[cg h,cz,aj rfl];omega
theorem Wl(N:Nat)(hN:4000000≤N){u:Int}(hu:Fit u 900000):Wm N (di u)=some (di u.natAbs):=by
 have lu:=hu.len
 unfold Wm
 simp only[di]
 simp only[sO N _ (kq u.natAbs) ω ω,av,g9,jd,fa]
 rfl
theorem u7(N:Nat)(hN:4000000≤N){u v:Int}(hu:Fit u 900000)(hv:Fit v 900000):R2 N (di u) (di v)=some (di (u-v)):=by
 unfold R2
 simp only[oB N hN hv,av,jN N hN hu hv.neg,Int.sub_eq_add_neg]
theorem p9(N:Nat)(u:Int):R3 N (di u)=some (xD u):=by
 unfold R3
 simp only[di]
 by_cases h:u=0
 ·subst h
  rw[show(0:Int).natAbs=0 from rfl,ko]
  simp (disch:=omega) only[aP,aL,dL,dB,dt,du,aQ,bQ,cj,dq,aw,cv,ak,ar,aY,cz,av,aE,cZ,ae,aT,aK,bB,ck,aW,bZ]
  rfl
 ·have:0<(lP u.natAbs).length:=by
   apply o0.2
   intro hd;rw[Al]at hd;omega
  rw[du ω,ar]
  by_cases hn:u<0
  ·rw[bs hn,ak,xD,aj hn]
  ·rw[cg hn,ar,xD,ah hn,aj ω]
theorem Qb(N:Nat)(hN:4000000≤N){u v:Int}(hu:Fit u 900000)(hv:Fit v 900000):PH N (di u) (di v)=some (xD (u-v)):=by
 unfold PH
 simp only[u7 N hN hu hv,av,p9]
theorem Ke(l:List Int)(h: ∀x∈l,-9223372036854775808≤x∧x<9223372036854775808): -(9223372036854775808*l.length)≤l.sum∧l.sum≤9223372036854775808*l.length:=by
 induction l with
 |nil=>simp
 |cons x l ih=>
  have:=ih (λy hy=>h y (a8 _ hy))
  obtain⟨h1,h2⟩:=h x (bp ..)
  rw[cH,aW]
  omega
theorem An{v:Int}{n:Nat}(hn:n≤1000000)(h0: -(9223372036854775808*n)≤v)(h1:v≤9223372036854775808*n):Fit v 3:=by
 unfold Fit
 rw[show(4294967296:Nat)^3=79228162514264337593543950336 from by decide]
 omega
theorem rq{l:List Int}(h: ∀x∈l,-9223372036854775808≤x∧x<9223372036854775808)(i:Nat): -9223372036854775808≤l.getD i 0∧l.getD i 0<9223372036854775808:=by
 rw[aR]
 cases hn:l[i]? with
 |none=>exact⟨δ,δ⟩
 |some x=>exact h x (List.mem_of_getElem? hn)
theorem gy(l:List Int){i:Nat}(h:i<l.length):(l.take (i+1)).sum=(l.take i).sum+l.getD i 0:=by
 rw[gb l h];simp
theorem Ao(N:Nat)(hN:4000000≤N){l:List Int}(h: ∀x∈l,-9223372036854775808≤x∧x<9223372036854775808)(hl:l.length≤1000000): ∀(m n i:Nat) (z:aF),l.length-i≤m→m<n→i≤l.length→
  pM.l3 N n l z (di (l.take i).sum) (i:Int)=some (di l.sum)
 |m,0,i,z,_,hn,_=>ω
 |m,n+1,i,z,hm,hn,hi=>by
  unfold pM.l3 pM.lB
  by_cases h1:i<l.length
  ·obtain⟨g0,g1⟩:=rq h i
   have f1:=Ke (l.take i) (λx hx=>h x (jI hx))
   rw[bO,gZ ω]at f1
   have f2:Fit (l.take i).sum 900000:=(An (n:=i) ω f1.1 f1.2).mono ω
   have f3:Fit (l.getD i 0) 900000:=(Fit.i64 g0 g1).mono ω
   simp (disch:=omega) only[aP,aL,dL,dB,dt,du,aQ,bQ,cj,dq,aw,cv,ak,ar,aY,cz,av,aE,cZ,ae,aT,aK,bB,ck,aW,bZ,dC N ω g0 g1,jN N hN f2 f3]
   rw[←gy l h1]
   exact Ao N hN h hl (m-1) n (i+1) z ω ω ω
  ·simp (disch:=omega) only[aP,aL,dL,dB,dt,du,aQ,bQ,cj,dq,aw,cv,ak,ar,aY,cz,av,aE,cZ,ae,aT,aK,bB,ck,aW,bZ]
   rw[gl ω]
theorem kU:di 0=(false,([],())):=by unfold di;rw[show(0:Int).natAbs=0 from rfl,ko];rfl
theorem yT(N:Nat)(hN:4000000≤N){l:List Int}(h: ∀x∈l,-9223372036854775808≤x∧x<9223372036854775808)(hl:l.length≤1000000):pM N l=some (di l.sum):=by
 unfold pM pM.b
 have:=Ao N hN h hl l.length N 0 (false,([],())) ω ω ω
 rw[kd,jK,kU]at this
 exact this
theorem Wn{a b:Int}(ha:0≤a)(ZO:a<4294967296)(hb:0≤b)(mG:b<4294967296):mR .or .u64 a (b*4294967296)=a+b*4294967296:=by
 rw[Kb ha ω ω ω]
 have h:=Eo (i:=32) (b:=a.toNat) ω b.toNat
 have e:(b*4294967296).toNat=2^32*b.toNat:=ω
 rw[e,Nat.or_comm,←h];omega
theorem Tx{a b:Int}(ha:0≤a)(ZO:a<4294967296)(hb:0≤b)(mG:b<4294967296):mR .or .u64 (b*4294967296) a=a+b*4294967296:=by
 rw[Kb ω ω ha ω]
 have h:=Eo (i:=32) (b:=a.toNat) ω b.toNat
 have e:(b*4294967296).toNat=2^32*b.toNat:=ω
 rw[e,←h];omega
theorem afS{x:Int}(h0:0≤x):shl .u64 x 32=x*4294967296:=by rw[RW ω ω];rfl
def Ap(v:Int):Int×Bool:=if-9223372036854775808≤v∧v<9223372036854775808 then(v,true)else(0,false)
theorem ZT{n:Nat}(h:(lP n).length≤2):(lP n).getD 0 0+4294967296*(lP n).getD 1 0=n:=by
 have h1:=kT (lP n) 0
 have h2:=kT (lP n) 1
 rw[cM,g9]at h1
 rw[kJ (l:=lP n) (i:=1+1) h]at h2
 simp only[cV,gq]at h1 h2
 omega
theorem tc(N:Nat)(v:Int):wX N (di v)=some (Ap v):=by
 unfold wX
 simp only[di]
 by_cases hl:2<(lP v.natAbs).length
 ·rw[aP ω,ak,Ap,ah]
  intro hh
  have:=xC 2 v.natAbs (by rw[show(4294967296:Nat)^2=18446744073709551616 from by decide];omega)
  omega
 ·have h2:=ZT (n:=v.natAbs) ω
  obtain⟨a0,a1⟩:=(kq v.natAbs).getD 0
  obtain⟨b0,b1⟩:=(kq v.natAbs).getD 1
  have e0:=wW N (lP v.natAbs) 0
  have e1:=wW N (lP v.natAbs) 1
  simp only[Int.natCast_zero,Int.natCast_one]at e0 e1
  rw[aL ω,ar,e0,e1]
  generalize (lP v.natAbs).getD 0 0=a at*
  generalize (lP v.natAbs).getD 1 0=b at*
  simp only[av]
  rw[aL (show(0:Int)≤32 by omega),ar,afS b0,cv (x:=b*4294967296) ω ω,Wn a0 a1 b0 b1]
  have ev:a+b*4294967296=v.natAbs:=ω
  rw[ev]
  by_cases hn:v<0
  ·rw[bs hn,ak]
   by_cases J9:9223372036854775808<(v.natAbs:Int)
   ·rw[aP J9,ak,Ap,ah ω]
   ·rw[aL ω,ar,Ap,aj ω,rm,kS]
    congr 2
    split<;>omega
  ·rw[cg hn,ar]
   by_cases J9:9223372036854775807<(v.natAbs:Int)
   ·rw[aP J9,ak,Ap,ah ω]
   ·rw[aL ω,ar,Ap,aj ω,aw ω ω]
    congr 2;omega
end VM
end
section
namespace VM
open Go VM.F
theorem M6: ∀(l:List Int) (k:Nat) (x:Int),k<l.length→cV (l.set k x)=cV l+4294967296^k*(x-l.getD k 0)
 |d::r,0,x,_=>by simp[cV];omega
 |d::r,k+1,x,h=>by
  have ih:=M6 r k x (by simpa using h)
  rw[List.set_cons_succ,cV,cV,ih,List.getD_cons_succ,zG,eo (4294967296^k) 4294967296,gm,lI];omega
theorem getD_set_ne(l:List Int){j k:Nat}(x:Int)(h:j≠k):(l.set j x).getD k 0=l.getD k 0:=by
 simp[aR,List.getElem?_set_ne h]
theorem ku(l:List Int){k:Nat}(x:Int)(h:k<l.length):(l.set k x).getD k 0=x:=by
 simp[aR,List.getElem?_set,h]
theorem u9(l:List Int){k:Nat}(h:l.length≤k):l.getD k 0=0:=by
 rw[aR,gP h];rfl
theorem CN(N:Nat)(K:aF→aF→aF→List Int→Int→Option aF){a b:List Int}(na nb:Bool)(z:aF)(ha:VD a)(hb:VD b)(i:Nat)(hi:i<a.length)(yQ:a.length≤100000)(PF:b.length≤100000):
  ∀(m n j:Nat) (out:List Int) (c:Int),b.length+1-j≤m→m<n→VD out→out.length=a.length+b.length+1→0≤c→c<4294967296→(j≤b.length→ ∀k,i+b.length≤k→out.getD k 0=0)→(b.length<j→c=0∧j=b.length+1∧ ∀k,i+b.length+1≤k→out.getD k 0=0)→
  ∃yU,jY.l7 N K n (na,(a,())) (nb,(b,())) z out (i:Int) c (j:Int)=K (na,(a,())) (nb,(b,())) z yU ((i+1:Nat):Int)∧VD yU∧yU.length=out.length∧
   cV yU=cV out+4294967296^i*(4294967296^j*(a.getD i 0*cV (b.drop j)+c))∧ ∀k,i+1+b.length≤k→yU.getD k 0=0
 |m,0,j,out,c,_,hn,_,_,_,_,_,_=>ω
 |m,n+1,j,out,c,hm,hn,ho,Im,UU,Ih,hz,Hj=>by
  unfold jY.l7 jY.pN
  by_cases MX:b.length≤j∧c=0
  ·obtain⟨h1,rfl⟩:=MX
   simp (disch:=omega) only[aP,aL,dL,dB,dt,du,aQ,bQ,cj,dq,aw,cv,ak,ar,aY,cz,av,aE,cZ,ae,aT,aK,bB,ck,aW,bZ]
   refine⟨out,rfl,ho,rfl,by rw[kJ h1];simp[cV],λk hk=> ?_⟩
   by_cases hj:j≤b.length
   ·exact hz hj k ω
   ·exact(Hj ω).2.2 k ω
  ·have Hg:j≤b.length:=by
    by_cases hj:j≤b.length
    ·exact hj
    ·exact absurd ⟨ω,(Hj ω).1⟩ MX
   obtain⟨ga0,ga1⟩:=ha.getD i
   obtain⟨gb0,gb1⟩:=hb.getD j
   obtain⟨go0,go1⟩:=ho.getD (i+j)
   have step: ∃yU,jY.j9 N K (jY.l7 N K n) (na,(a,())) (nb,(b,())) z out (i:Int) c (j:Int)=K (na,(a,())) (nb,(b,())) z yU ((i+1:Nat):Int)∧VD yU∧yU.length=out.length∧
     cV yU=cV out+4294967296^i*(4294967296^j*(a.getD i 0*cV (b.drop j)+c))∧ ∀k,i+1+b.length≤k→yU.getD k 0=0:=by
    unfold jY.j9 jY.M7
    have eij:(i:Int)+(j:Int)=((i+j:Nat):Int):=rfl
    have hp:=mul_lt (m:=4294967295) (n:=4294967295) ga0 gb0 ω ω
    simp only[wW,av,eij,aE]
    simp (disch:=omega) only[aP,aL,dL,dB,dt,du,aQ,bQ,cj,dq,aw,cv,ak,ar,aY,cz,av,aE,cZ,ae,aT,aK,bB,ck,aW,bZ]
    generalize hx:out.getD (i+j) 0=x at*
    generalize ha':a.getD i 0=ai at*
    generalize ff:b.getD j 0=bj at*
    generalize hpe:ai*bj=p at*
    have hpz:b.length≤j→p=0∧x=0:=λh=>by
     rw[u9 b h]at ff
     refine⟨by rw[←hpe,←ff,zH],?_⟩
     rw[←hx];exact hz Hg _ ω
    rw[kk ω ω,Fu]
    have asE:(out.set (i+j) ((c+(x+p))%4294967296)).length=a.length+b.length+1:=by rw[bB];exact Im
    obtain⟨yU,h1,h2,h3,h4,h5⟩:=CN N K na nb z ha hb i hi yQ PF (m-1) n (j+1) (out.set (i+j) ((c+(x+p))%4294967296)) ((c+(x+p))/4294967296) ω ω (ho.set _ ω ω) asE ω ω
     (λh k hk=>by rw[getD_set_ne _ _ ω];exact hz Hg k hk)
     (λh=>by
      obtain⟨U0,Lk⟩:=hpz ω
      refine⟨ω,ω,λk hk=> ?_⟩
      rw[getD_set_ne _ _ ω];exact hz Hg k ω)
    refine⟨yU,h1,h2,by rw[h3,bB],?_,h5⟩
    rw[h4,M6 _ _ _ ω,hx,ha',kT b j,ff,lI ai,hpe,Int.pow_add,zG]
    have e1:ai*(4294967296*cV (b.drop (j+1)))=4294967296*(ai*cV (b.drop (j+1))):=Int.mul_left_comm _ _ _
    rw[e1]
    generalize ai*cV (b.drop (j+1))=y
    generalize (4294967296:Int)^i=P
    generalize (4294967296:Int)^j=R
    rw[gm R,gm P,Int.add_assoc,←lI,←lI]
    congr 3
    omega
   by_cases h1:j<b.length
   ·simp (disch:=omega) only[aP,ak];exact step
   ·have:0<c:=ω
    simp (disch:=omega) only[aP,aL,ak,ar];exact step
theorem CO(N:Nat)(hN:4000000≤N){a b:List Int}(na nb:Bool)(z:aF)(ha:VD a)(hb:VD b)(yQ:a.length≤100000)(PF:b.length≤100000):
  ∀(m n i:Nat) (out:List Int),a.length-i≤m→m<n→i≤a.length→VD out→out.length=a.length+b.length+1→(∀k,i+b.length≤k→out.getD k 0=0)→cV out=cV (a.take i)*cV b→
  jY.l3 N n (na,(a,())) (nb,(b,())) z out (i:Int)=some (di (if na=nb then cV a*cV b else-(cV a*cV b)))
 |m,0,i,out,_,hn,_,_,_,_,_=>ω
 |m,n+1,i,out,hm,hn,hi,ho,Im,hz,hv=>by
  unfold jY.l3 jY.lB
  by_cases h1:i<a.length
  ·simp only
   rw[aP ω,ak]
   obtain⟨yU,e1,e2,e3,e4,e5⟩:=CN N (jY.l3 N n) na nb z ha hb i h1 yQ PF (b.length+1) N 0 out 0 ω ω ho Im ω ω (λ_ k hk=>hz k hk) (λh=>ω)
   rw[show((0:Nat):Int)=0 from rfl]at e1
   rw[e1]
   refine CO N hN na nb z ha hb yQ PF (m-1) n (i+1) yU ω ω ω e2 (by rw[e3];exact Im) (λk hk=>e5 k ω) ?_
   rw[e4,hv,gb a h1,qA,bO,gZ ω,cM,Int.pow_zero,qV,gr,iG,gm]
  ·simp only
   rw[aL ω,ar]
   simp only[sO N _ ho ω ω,av]
   rw[hv,gl ω,ud]
   congr 2
   cases na<;>cases nb<;>simp
theorem Aq(N:Nat)(hN:4000000≤N){u v:Int}(hu:Fit u 90000)(hv:Fit v 90000):jY N (di u) (di v)=some (di (u*v)):=by
 have lu:=hu.len
 have lv:=hv.len
 unfold jY jY.b
 simp only[di]
 simp (disch:=omega) only[aP,aL,dL,dB,dt,du,aQ,bQ,cj,dq,aw,cv,ak,ar,aY,cz,av,aE,cZ,ae,aT,aK,bB,ck,aW,bZ]
 have e:(((lP u.natAbs).length:Int)+((lP v.natAbs).length:Int)+1).toNat=(lP u.natAbs).length+(lP v.natAbs).length+1:=ω
 have:=CO N hN (decide (u<0)) (decide (v<0)) (false,([],())) (kq u.natAbs) (kq v.natAbs) ω ω (lP u.natAbs).length N 0 (List.replicate ((lP u.natAbs).length+(lP v.natAbs).length+1) 0) ω ω ω (VD.afR _) (by simp)
  (λk _=>by rw[aR,Ev];split<;>rfl) (by
   have: ∀n,cV (List.replicate n 0)=0:=λn=>by
    induction n with
    |zero=>rfl
    |succ n ih=>rw[zu,cV,ih];rfl
   rw[this];simp[cV])
 rw[g9,g9]at this
 have e2:(((lP u.natAbs).length+(lP v.natAbs).length:Nat):Int)+1=(lP u.natAbs).length+(lP v.natAbs).length+1:=ω
 first
 |(rw[e];refine this.trans ?_)
 |(refine(this).trans ?_)
 show some (di _)=some (di _)
 congr 2
 have key:(u.natAbs:Int)*v.natAbs=if decide (u<0)=decide (v<0)then u*v else-(u*v):=by
  by_cases h1:u<0<;>by_cases h2:v<0
  ·rw[aj (by simp[h1,h2]),show(u.natAbs:Int)= -u from by omega,show(v.natAbs:Int)= -v from by omega,Int.neg_mul_neg]
  ·rw[ah (by simp[h1,h2]),show(u.natAbs:Int)= -u from by omega,show(v.natAbs:Int)=v from by omega,Int.neg_mul]
  ·rw[ah (by simp[h1,h2]),show(u.natAbs:Int)=u from by omega,show(v.natAbs:Int)= -v from by omega,tM]
  ·rw[aj (by simp[h1,h2]),show(u.natAbs:Int)=u from by omega,show(v.natAbs:Int)=v from by omega]
 rw[key]
 split<;>simp
end VM
end
