/- A part of the proof of HedgeLess of layer 22: what the functions compute, in plain words. -/
import Derived.Test.YtocmlaipoebfeaaGreatVm0
import GoSem.Claim
import Derived.Test.YtocmlaipoebfeaaGreatText
set_option linter.all false
section
namespace VM
open Go
theorem mN(x:Int):W .u64 x=x%18446744073709551616:=by rw[DY];simp[IntKind.wrap,IntKind.bits,IntKind.signed]
theorem cz{x:Int}(h0:0≤x)(h1:x<18446744073709551616):W .u64 x=x:=by rw[mN];omega
theorem fW(x:Int):W .i64 x=if 9223372036854775808≤x%18446744073709551616 then x%18446744073709551616-18446744073709551616 else x%18446744073709551616:=by
 rw[DY];simp[IntKind.wrap,IntKind.bits,IntKind.signed]
theorem aw{x:Int}(h0: -9223372036854775808≤x)(h1:x<9223372036854775808):W .i64 x=x:=by
 rw[fW];split<;>omega
theorem apL{x:Int}(h0:0≤x)(h1:x<256):W .u8 x=x:=by rw[DY];simp[IntKind.wrap,IntKind.bits,IntKind.signed];omega
theorem wf_u64{x:Int}:(Lit.int .u64 x).wf=true↔0≤x∧x≤18446744073709551615:=by simp[Lit.wf,IntKind.min,IntKind.max,IntKind.bits,IntKind.signed]
theorem aQ{x y:Int}(h:x<y):aT x y=true:=by rw[p7];exact a8 h
theorem aP{x y:Int}(h:y≤x):aT x y=false:=by rw[p7];exact bC ω
theorem dY{x y:Int}(h:x≤y):cZ x y=true:=by rw[ny];exact a8 h
theorem dL{x y:Int}(h:y<x):cZ x y=false:=by rw[ny];exact bC ω
theorem dF{x y:Int}(h:x=y):aN x y=true:=by rw[jB];exact a8 h
theorem dG{x y:Int}(h:x≠y):aN x y=false:=by rw[jB];exact bC h
theorem aS{i:Int}{n:Nat}(h0:0≤i)(h1:i<n):aY i n=true:=by rw[Rx];exact a8 ⟨h0,h1⟩
theorem bP{n:Nat}(h:n<68719476736):small n=true:=by rw[FG];exact a8 (by simpa [zP]using h)
theorem cD{l c:Int}(h0:0≤l)(h1:l≤c)(h2:c<68719476736):jA l c=true:=by rw[I3];exact a8 (by simp only[zP];omega)
theorem dD{l h m n:Int}(h0:0≤l)(h1:l≤h)(h2:h≤m)(h3:m≤n):kd l h m n=true:=by rw[Ax];exact a8 ⟨h0,h1,h2,h3⟩
theorem af(n:Nat):(n:Int)+1=((n+1:Nat):Int):=rfl
theorem tv(x:Int)(h0:0≤x)(h1:x<18446744073709551616):(BitVec.ofInt 64 x).toNat=x.toNat:=by
 rw[BitVec.toNat_ofInt];congr 1;omega
theorem N5{x y:Int}(hx:0≤x)(TQ:x<18446744073709551616)(hy:0≤y)(hy1:y<18446744073709551616):mW .and .u64 x y=((x.toNat&&& y.toNat:Nat):Int):=by
 rw[vr]
 have h:((BitVec.ofInt 64 x&&& BitVec.ofInt 64 y).toNat)=x.toNat&&& y.toNat:=by rw[BitVec.toNat_and,tv x hx TQ,tv y hy hy1]
 show IntKind.u64.wrap (((BitVec.ofInt 64 x&&& BitVec.ofInt 64 y).toNat:Nat):Int)=_
 rw[h,←DY]
 have:x.toNat&&& y.toNat≤x.toNat:=Nat.and_le_left
 exact cz ω ω
theorem Lk{x y:Int}(hx:0≤x)(TQ:x<18446744073709551616)(hy:0≤y)(hy1:y<18446744073709551616):mW .or .u64 x y=((x.toNat|||y.toNat:Nat):Int):=by
 rw[vr]
 have h:((BitVec.ofInt 64 x|||BitVec.ofInt 64 y).toNat)=x.toNat|||y.toNat:=by rw[BitVec.toNat_or,tv x hx TQ,tv y hy hy1]
 show IntKind.u64.wrap (((BitVec.ofInt 64 x|||BitVec.ofInt 64 y).toNat:Nat):Int)=_
 rw[h,←DY]
 have:x.toNat|||y.toNat<2^64:=Nat.or_lt_two_pow ω ω
 exact cz ω ω
theorem kk{x:Int}(h0:0≤x)(h1:x<18446744073709551616):mW .and .u64 x 4294967295=x%4294967296:=by
 rw[N5 h0 h1 ω ω]
 have:=MS x.toNat 32
 rw[show((4294967295:Int).toNat)=2^32-1 from rfl,this]
 omega
theorem vG{x y:Int}(h0:0≤y)(h1:y≤64):shr .u64 x y=x/2^y.toNat:=by
 rw[Ry]
 have:min y.toNat IntKind.u64.bits=y.toNat:=by simp[IntKind.bits];omega
 rw[this,MU]
 exact_mod_cast bF _
theorem Gm(x:Int):shr .u64 x 32=x/4294967296:=by rw[vG ω ω];rfl
theorem apM(x:Int):shr .u64 x 1=x/2:=by rw[vG ω ω];rfl
theorem vH{x:Int}(h0: -9223372036854775808≤x)(h1:x<9223372036854775808):shr .i64 x 63=if x<0 then-1 else 0:=by
 rw[Ry]
 have:(2:Int)^(min (63:Int).toNat IntKind.i64.bits)=9223372036854775808:=by rfl
 rw[this,MU _ ω]
 split<;>omega
theorem TR{x y:Int}(h0:0≤y)(h1:y≤64):shl .u64 x y=x*2^y.toNat:=by
 rw[Xv]
 have:min y.toNat IntKind.u64.bits=y.toNat:=by simp[IntKind.bits];omega
 rw[this]
theorem mul_lt{a b m n:Int}(ha:0≤a)(hb:0≤b)(ham:a≤m)(hbn:b≤n):0≤a*b∧a*b≤m*n:=
 ⟨ka ha hb,fU (qH ham hb) (kG hbn ω)⟩
end VM
end
section
namespace VM
open Go VM.F
theorem Vz(a b:Int):a*b=(a/4294967296)*(b/4294967296)*18446744073709551616+((a/4294967296)*(b%4294967296)+(a%4294967296)*(b/4294967296))*4294967296+(a%4294967296)*(b%4294967296):=by
 have ha:a=(a/4294967296)*4294967296+a%4294967296:=ω
 have hb:b=(b/4294967296)*4294967296+b%4294967296:=ω
 generalize a/4294967296=a1 at*
 generalize a%4294967296=a0 at*
 generalize b/4294967296=b1 at*
 generalize b%4294967296=b0 at*
 subst ha;subst hb
 simp only[js,lH]
 have e1:a1*4294967296*(b1*4294967296)=a1*b1*18446744073709551616:=by
  rw[gg,Int.mul_left_comm 4294967296,←gg];rfl
 have e2:a1*4294967296*b0=a1*b0*4294967296:=by rw[gg,eL 4294967296,←gg]
 have e3:a0*(b1*4294967296)=a0*b1*4294967296:=by rw[←gg]
 rw[e1,e2,e3];omega
theorem Gn(N:Nat){a b:Int}(ha:0≤a)(ha1:a<18446744073709551616)(hb:0≤b)(mJ:b<18446744073709551616):
  VA N a b=some (a*b/18446744073709551616,a*b%18446744073709551616):=by
 unfold VA
 have hm:=Vz a b
 have h1:=mul_lt (m:=4294967295) (n:=4294967295) (show 0≤a/4294967296 by omega) (show 0≤b/4294967296 by omega) ω ω
 have h2:=mul_lt (m:=4294967295) (n:=4294967295) (show 0≤a/4294967296 by omega) (show 0≤b%4294967296 by omega) ω ω
 have h3:=mul_lt (m:=4294967295) (n:=4294967295) (show 0≤a%4294967296 by omega) (show 0≤b/4294967296 by omega) ω ω
 have h4:=mul_lt (m:=4294967295) (n:=4294967295) (show 0≤a%4294967296 by omega) (show 0≤b%4294967296 by omega) ω ω
 simp only[aP (show(0:Int)≤32 by omega),av,kk ha ha1,kk hb mJ,Gm]
 generalize a/4294967296=a1 at*
 generalize a%4294967296=a0 at*
 generalize b/4294967296=b1 at*
 generalize b%4294967296=b0 at*
 generalize a*b=ab at*
 generalize a1*b1=p at*
 generalize a1*b0=q at*
 generalize a0*b1=r at*
 generalize a0*b0=s at*
 rw[cz (x:=q) ω ω,cz (x:=s) ω ω,cz (x:=r) ω ω,cz (x:=p) ω ω,cz (x:=q+s/4294967296) ω ω,
  kk ω ω,cz (x:=(q+s/4294967296)%4294967296+r) ω ω,cz (x:=p+(q+s/4294967296)/4294967296) ω ω,cz (x:=p+(q+s/4294967296)/4294967296+_) ω ω,mN]
 congr 2
 omega
end VM
end
section
namespace VM
open Go VM.F
theorem Ll(N:Nat){x:Int}(h0: -9223372036854775808≤x)(h1:x<9223372036854775808):F96 N x=some (x.natAbs:Int):=by
 unfold F96
 by_cases h:x<0
 ·rw[aQ h,ak,mN,mN];congr 1;omega
 ·rw[aP ω,av,mN];congr 1;omega
theorem uV(N:Nat){x y c:Int}(hx:0≤x)(hy:0≤y)(hc:0≤c)(Jf:c≤1):tf N x y c=some ((x+y+c)%18446744073709551616,(x+y+c)/18446744073709551616):=by
 unfold tf;rw[ah ⟨hx,hy,hc,Jf⟩]
theorem lO(N:Nat){x y c:Int}(hx:0≤x)(TQ:x<18446744073709551616)(hy:0≤y)(hy1:y<18446744073709551616)(hc:0≤c)(Jf:c≤1):
  tg N x y c=some ((x-y-c)%18446744073709551616,if x<y+c then 1 else 0):=by
 unfold tg;rw[ah ⟨hx,TQ,hy,hy1,hc,Jf⟩];congr 2;omega
def bitLen(n:Nat):Nat:=if n=0 then 0 else bitLen (n/2)+1
termination_by n
decreasing_by omega
theorem sf{n:Nat}(h:n≠0):bitLen n=bitLen (n/2)+1:=by rw[bitLen];simp[h]
theorem xB:bitLen 0=0:=by rw[bitLen];rfl
theorem bitLen_shift(k:Nat): ∀n,2^k≤n→bitLen n=bitLen (n/2^k)+k:=by
 induction k with
 |zero=>intro n _;simp
 |succ k ih=>
  intro n h
  have hp:0<2^k:=Nat.pow_pos δ
  rw[pz]at h
  rw[sf ω,ih (n/2) ω,Nat.div_div_eq_div_mul,pz,Aq 2];omega
theorem bitLen_spec(n:Nat):n<2^bitLen n∧(n≠0→2^(bitLen n-1)≤n):=by
 induction n using Nat.strongRecOn with
 |_ n ih=>
  by_cases h:n=0
  ·subst h;rw[xB];simp
  ·rw[sf h]
   obtain⟨h1,h2⟩:=ih (n/2) ω
   refine⟨by rw[pz];omega,λ_=> ?_⟩
   rw[Nat.add_sub_cancel]
   by_cases h3:n/2=0
   ·rw[h3,xB];simp;omega
   ·have:=h2 h3
    have e:bitLen (n/2)=(bitLen (n/2)-1)+1:=by rw[sf h3];omega
    rw[e,pz];omega
theorem acg: ∀i:Fin 256,((strOf [0,1,2,2,3,3,3,3,4,4,4,4,4,4,4,4,5,5,5,5,5,5,5,5,5,5,5,5,5,5,5,5,6,6,6,6,6,6,6,6,6,6,6,6,6,6,6,6,6,6,6,6,6,6,6,6,6,6,6,6,6,6,6,6,7,7,7,7,7,7,7,7,7,7,7,7,7,7,7,7,7,7,7,7,7,7,7,7,7,7,7,7,7,7,7,7,7,7,7,7,7,7,7,7,7,7,7,7,7,7,7,7,7,7,7,7,7,7,7,7,7,7,7,7,7,7,7,7,8,8,8,8,8,8,8,8,8,8,8,8,8,8,8,8,8,8,8,8,8,8,8,8,8,8,8,8,8,8,8,8,8,8,8,8,8,8,8,8,8,8,8,8,8,8,8,8,8,8,8,8,8,8,8,8,8,8,8,8,8,8,8,8,8,8,8,8,8,8,8,8,8,8,8,8,8,8,8,8,8,8,8,8,8,8,8,8,8,8,8,8,8,8,8,8,8,8,8,8,8,8,8,8,8,8,8,8,8,8,8,8,8,8,8,8,8,8,8,8,8,8,8,8,8,8,8,8]).data.getD i.val 0).toNat=Nat.log2 (2*i.val+1):=by decide+kernel
theorem Dr(n:Nat):Nat.log2 (2*n+1)=bitLen n:=by
 induction n using Nat.strongRecOn with
 |_ n ih=>
  by_cases h:n=0
  ·subst h;rw[xB];decide
  ·rw[sf h,FE,ah ω,show(2*n+1)/2=n from by omega]
   congr 1
   have:=ih (n/2) ω
   rw[←this]
   by_cases h2:n%2=0
   ·rw[FE,FE (n:=2*(n/2)+1)]
    have e1:(2*(n/2)+1)/2=n/2:=ω
    rw[ah ω,ah ω,e1]
   ·congr 1;omega
theorem N6(i:Nat)(h:i<256):((strOf [0,1,2,2,3,3,3,3,4,4,4,4,4,4,4,4,5,5,5,5,5,5,5,5,5,5,5,5,5,5,5,5,6,6,6,6,6,6,6,6,6,6,6,6,6,6,6,6,6,6,6,6,6,6,6,6,6,6,6,6,6,6,6,6,7,7,7,7,7,7,7,7,7,7,7,7,7,7,7,7,7,7,7,7,7,7,7,7,7,7,7,7,7,7,7,7,7,7,7,7,7,7,7,7,7,7,7,7,7,7,7,7,7,7,7,7,7,7,7,7,7,7,7,7,7,7,7,7,8,8,8,8,8,8,8,8,8,8,8,8,8,8,8,8,8,8,8,8,8,8,8,8,8,8,8,8,8,8,8,8,8,8,8,8,8,8,8,8,8,8,8,8,8,8,8,8,8,8,8,8,8,8,8,8,8,8,8,8,8,8,8,8,8,8,8,8,8,8,8,8,8,8,8,8,8,8,8,8,8,8,8,8,8,8,8,8,8,8,8,8,8,8,8,8,8,8,8,8,8,8,8,8,8,8,8,8,8,8,8,8,8,8,8,8,8,8,8,8,8,8,8,8,8,8,8,8]).data.getD i 0).toNat=bitLen i:=by
 rw[←Dr];exact acg ⟨i,h⟩
theorem N7:ByteArray.size (strOf [0,1,2,2,3,3,3,3,4,4,4,4,4,4,4,4,5,5,5,5,5,5,5,5,5,5,5,5,5,5,5,5,6,6,6,6,6,6,6,6,6,6,6,6,6,6,6,6,6,6,6,6,6,6,6,6,6,6,6,6,6,6,6,6,7,7,7,7,7,7,7,7,7,7,7,7,7,7,7,7,7,7,7,7,7,7,7,7,7,7,7,7,7,7,7,7,7,7,7,7,7,7,7,7,7,7,7,7,7,7,7,7,7,7,7,7,7,7,7,7,7,7,7,7,7,7,7,7,8,8,8,8,8,8,8,8,8,8,8,8,8,8,8,8,8,8,8,8,8,8,8,8,8,8,8,8,8,8,8,8,8,8,8,8,8,8,8,8,8,8,8,8,8,8,8,8,8,8,8,8,8,8,8,8,8,8,8,8,8,8,8,8,8,8,8,8,8,8,8,8,8,8,8,8,8,8,8,8,8,8,8,8,8,8,8,8,8,8,8,8,8,8,8,8,8,8,8,8,8,8,8,8,8,8,8,8,8,8,8,8,8,8,8,8,8,8,8,8,8,8,8,8,8,8,8,8])=256:=by decide+kernel
set_option maxRecDepth 100000 in
theorem TS(N:Nat){x c:Int}(h0:0≤x)(h1:x<65536)(hc:0≤c)(Jf:c≤100):mY.j7 N x c=some (c+bitLen x.toNat):=by
 unfold mY.j7 mY.Rr
 have h8:shr .u64 x 8=x/256:=by rw[vG ω ω];rfl
 have hle: ∀n,n<256→bitLen n≤8:=λn hn=>by
  rw[←Dr]
  have:Nat.log2 (2*n+1)<9:=(Nat.log2_lt ω).2 ω
  omega
 by_cases h:256≤x
 ·have ht:=N6 (x/256).toNat ω
  have hl:=hle (x/256).toNat ω
  rw[dY h,ak,aP (show(0:Int)≤8 by omega),av,h8]
  rw[apL (x:=x/256) ω ω]
  extract_lets v8
  rw[N7,aS ω ω,ak,ht]
  clear ht
  simp (disch:=omega) only[aQ,aP,dY,dL,dF,dG,aS,bP,cD,dD,aw,cz,ak,av,bp,cX,ar,aG,dq,af,aM,aK,bM,cQ,aR,ck]
  have:=bitLen_shift 8 x.toNat ω
  rw[this]
  have e:(x/256).toNat=x.toNat/2^8:=ω
  rw[e];congr 1;omega
 ·have ht:=N6 x.toNat ω
  have hl:=hle x.toNat ω
  rw[dL ω,av,apL (x:=x) ω ω]
  extract_lets v8
  rw[N7,aS ω ω,ak,ht]
  clear ht
  simp (disch:=omega) only[aQ,aP,dY,dL,dF,dG,aS,bP,cD,dD,aw,cz,ak,av,bp,cX,ar,aG,dq,af,aM,aK,bM,cQ,aR,ck]
theorem Yx(N:Nat){x:Int}(h0:0≤x)(h1:x<18446744073709551616):mY N x=some (bitLen x.toNat:Int):=by
 have h16: ∀y c:Int,0≤y→y<4294967296→0≤c→c≤50→mY.j4 N y c=some (c+bitLen y.toNat):=λy c hy0 hy1 hc Jf=>by
  unfold mY.j4 mY.j4b
  by_cases h:65536≤y
  ·have e:shr .u64 y 16=y/65536:=by rw[vG ω ω];rfl
   rw[dY h,ak,aP ω,av,e,aw ω ω,TS N ω ω ω ω]
   have:=bitLen_shift 16 y.toNat ω
   rw[this]
   have e:(y/65536).toNat=y.toNat/2^16:=ω
   rw[e];congr 1;omega
  ·rw[dL ω,av,TS N hy0 ω hc ω]
 unfold mY mY.b
 by_cases h:4294967296≤x
 ·rw[dY h,ak,aP ω,av,Gm,h16 _ _ ω ω ω ω]
  have:=bitLen_shift 32 x.toNat ω
  rw[this]
  have e:(x/4294967296).toNat=x.toNat/2^32:=ω
  rw[e];congr 1;omega
 ·rw[dL ω,av,h16 _ _ h0 ω ω ω]
  congr 1;omega
end VM
end
section
namespace VM
open Go VM.F
structure pF(Y yn1 yn0 un32 un1 q rh:Int):Prop where
 hY:Y=yn1*4294967296+yn0
 y1:2147483648≤yn1
 y1':yn1<4294967296
 y0:0≤yn0
 y0':yn0<4294967296
 u1:0≤un1
 u1':un1<4294967296
 lt:un32<Y
 q0:0≤q
 eq:q*yn1+rh=un32
 r0:0≤rh
 q1:q≤4294967297
 ge:(un32*4294967296+un1)/Y≤q
theorem pF.prod{Y yn1 yn0 un32 un1 q rh:Int}(g:pF Y yn1 yn0 un32 un1 q rh):q*Y=(un32-rh)*4294967296+q*yn0∧0≤q*yn0∧q*yn0≤18446744073709551615:=by
 have h:=mul_lt (m:=4294967297) (n:=4294967295) g.q0 g.y0 g.q1 (by have:=g.y0';omega)
 refine⟨?_,h.1,ω⟩
 rw[g.hY,lH,←gg,show q*yn1=un32-rh from by have:=g.eq;omega]
theorem pF.pos{Y yn1 yn0 un32 un1 q rh:Int}(g:pF Y yn1 yn0 un32 un1 q rh):0<Y:=by have:=g.hY;have:=g.y1;have:=g.y0;omega
theorem pF.digit{Y yn1 yn0 un32 un1 q rh:Int}(g:pF Y yn1 yn0 un32 un1 q rh)(h:0≤un32):0≤(un32*4294967296+un1)/Y∧(un32*4294967296+un1)/Y<4294967296:=by
 have hp:=g.pos
 have:=g.u1;have:=g.u1';have:=g.lt
 refine⟨kL ω ω,?_⟩
 rw[uw hp];omega
theorem pF.done{Y yn1 yn0 un32 un1 q rh:Int}(g:pF Y yn1 yn0 un32 un1 q rh)(h:q*yn0≤4294967296*rh+un1):q=(un32*4294967296+un1)/Y:=by
 have hp:=g.pos
 have h1:=g.prod.1
 have h2:q≤(un32*4294967296+un1)/Y:=by
  rw[Int.le_ediv_iff_mul_le hp];omega
 have:=g.ge
 omega
theorem pF.next{Y yn1 yn0 un32 un1 q rh:Int}(g:pF Y yn1 yn0 un32 un1 q rh)(hu:0≤un32)(h:4294967296≤q∨4294967296*rh+un1<q*yn0):pF Y yn1 yn0 un32 un1 (q-1) (rh+yn1)∧1≤q:=by
 have hp:=g.pos
 have h1:=g.prod.1
 have hd:=g.digit hu
 have fj:(un32*4294967296+un1)/Y<q:=by
  rcases h with h|h
  ·omega
  ·rw[uw hp];omega
 have:=g.q1;have:=g.r0;have:=g.y1
 exact⟨⟨g.hY,g.y1,g.y1',g.y0,g.y0',g.u1,g.u1',g.lt,ω,by rw[Int.sub_mul,uD];have:=g.eq;omega,ω,ω,ω⟩,ω⟩
theorem TT(N:Nat){Y s yn1 yn0 un32 un1 un0:Int}(hu:0≤un32)(Yb:un32<18446744073709551616): ∀(m n:Nat) (q rh:Int),pF Y yn1 yn0 un32 un1 q rh→rh<4294967296→4294967296-rh≤2147483648*m→m<n→
  eB.N8 N n Y s yn1 yn0 un32 un1 un0 q rh=eB.Xl N Y s yn1 yn0 un32 un1 un0 ((un32*4294967296+un1)/Y)
 |m,0,q,rh,_,_,_,hn=>ω
 |m,n+1,q,rh,g,hr,hm,hn=>by
  unfold eB.N8 eB.N9
  have EK:=g.prod
  have hd:=g.digit hu
  obtain⟨hY,y1,y1',y0,y0',u1,u1',lt,q0,eq,r0,q1,ge⟩:=id g
  have go:(4294967296≤q∨4294967296*rh+un1<q*yn0)→
    (cond (cZ (4294967296:Int) (W .u64 (rh+yn1))) (eB.Xl N Y s yn1 yn0 un32 un1 un0 (W .u64 (q-1))) (eB.N8 N n Y s yn1 yn0 un32 un1 un0 (W .u64 (q-1)) (W .u64 (rh+yn1))))=eB.Xl N Y s yn1 yn0 un32 un1 un0 ((un32*4294967296+un1)/Y):=λh=>by
   obtain⟨g',hq⟩:=g.next hu h
   rw[cz (x:=rh+yn1) ω ω,cz (x:=q-1) ω ω]
   by_cases hb:4294967296≤rh+yn1
   ·rw[dY hb,ak]
    have D2:=g'.prod
    rw[g'.done ω]
   ·rw[dL ω,av]
    exact TT N hu Yb (m-1) n (q-1) (rh+yn1) g' ω ω ω
  by_cases h1:4294967296≤q
  ·rw[dY h1,ak]
   exact go (.inl h1)
  ·rw[dL ω,av,cz (x:=4294967296*rh) ω ω,cz (x:=4294967296*rh+un1) ω ω,cz (x:=q*yn0) ω ω]
   by_cases h2:4294967296*rh+un1<q*yn0
   ·rw[aQ h2,ak]
    exact go (.inr h2)
   ·rw[aP ω,av,g.done ω]
theorem TU(N:Nat){Y s yn1 yn0 un32 un1 a b:Int}(hu:0≤un32)(Yb:un32<18446744073709551616): ∀(m n:Nat) (q rh:Int),pF Y yn1 yn0 un32 un1 q rh→rh<4294967296→4294967296-rh≤2147483648*m→m<n→
  eB.Ds N n Y s yn1 yn0 un1 a rh un32 q=eB.j28 N Y s un1 a un32 ((un32*4294967296+un1)/Y)
 |m,0,q,rh,_,_,_,hn=>ω
 |m,n+1,q,rh,g,hr,hm,hn=>by
  unfold eB.Ds eB.Ef
  have EK:=g.prod
  have hd:=g.digit hu
  obtain⟨hY,y1,y1',y0,y0',u1,u1',lt,q0,eq,r0,q1,ge⟩:=id g
  have go:(4294967296≤q∨4294967296*rh+un1<q*yn0)→
    (cond (cZ (4294967296:Int) (W .u64 (rh+yn1))) (eB.j28 N Y s un1 a un32 (W .u64 (q-1))) (eB.Ds N n Y s yn1 yn0 un1 a (W .u64 (rh+yn1)) un32 (W .u64 (q-1))))=eB.j28 N Y s un1 a un32 ((un32*4294967296+un1)/Y):=λh=>by
   obtain⟨g',hq⟩:=g.next hu h
   rw[cz (x:=rh+yn1) ω ω,cz (x:=q-1) ω ω]
   by_cases hb:4294967296≤rh+yn1
   ·rw[dY hb,ak]
    have D2:=g'.prod
    rw[g'.done ω]
   ·rw[dL ω,av]
    exact TU N (b:=b) hu Yb (m-1) n (q-1) (rh+yn1) g' ω ω ω
  by_cases h1:4294967296≤q
  ·rw[dY h1,ak]
   exact go (.inl h1)
  ·rw[dL ω,av,cz (x:=4294967296*rh) ω ω,cz (x:=4294967296*rh+un1) ω ω,cz (x:=q*yn0) ω ω]
   by_cases h2:4294967296*rh+un1<q*yn0
   ·rw[aQ h2,ak]
    exact go (.inr h2)
   ·rw[aP ω,av,g.done ω]
theorem pF.first{Y yn1 yn0 un32 un1:Int}(hY:Y=yn1*4294967296+yn0)(y1:2147483648≤yn1)(y1':yn1<4294967296)(y0:0≤yn0)(y0':yn0<4294967296)(u1:0≤un1)(u1':un1<4294967296)(hu:0≤un32)(lt:un32<Y):
  pF Y yn1 yn0 un32 un1 (un32/yn1) (un32-un32/yn1*yn1)∧un32-un32/yn1*yn1<4294967296∧0≤un32/yn1*yn1∧un32/yn1*yn1≤un32:=by
 have h1:=rA un32 yn1
 have h2:=pt un32 (show 0<yn1 by omega)
 have h3:=rE un32 (show yn1≠0 by omega)
 have wT:0≤un32/yn1:=kL hu ω
 rw[eL]at h1
 have hq1:un32/yn1≤4294967297:=by
  have:un32/yn1<4294967298:=by rw[uw ω];omega
  omega
 have hge:(un32*4294967296+un1)/Y≤un32/yn1:=by
  have fj:un32*4294967296+un1<(un32/yn1+1)*Y:=by
   have e:un32+1≤(un32/yn1+1)*yn1:=by rw[js,uD];omega
   have e2:(un32/yn1+1)*Y=(un32/yn1+1)*yn1*4294967296+(un32/yn1+1)*yn0:=by rw[hY,lH,gg]
   have e3:0≤(un32/yn1+1)*yn0:=ka ω y0
   omega
  have:(un32*4294967296+un1)/Y<un32/yn1+1:=by rw[uw ω];exact fj
  omega
 exact⟨⟨hY,y1,y1',y0,y0',u1,u1',lt,wT,ω,ω,hq1,hge⟩,ω,ka wT ω,ω⟩
theorem Yy{a b:Int}{k:Nat}(ha:0≤a)(ha1:a<2^k)(hb:0≤b)(h:b*2^k<18446744073709551616)(hk:k<64):mW .or .u64 (b*2^k) a=b*2^k+a:=by
 have hp:(0:Int)<2^k:=Int.pow_pos δ
 have hpn:((2^k:Nat):Int)=2^k:=by rw[Int.natCast_pow];rfl
 have aCN:(2:Int)^k≤2^63:=by
  rw[←hpn,show(2:Int)^63=((2^63:Nat):Int)from by decide]
  exact_mod_cast Fk δ ω
 have aAl:(2:Int)^63=9223372036854775808:=δ
 have uM:=ka hb (pA hp)
 rw[Lk uM h ha ω]
 have h1:=E8 (i:=k) (b:=a.toNat) (by
  have:((a.toNat:Nat):Int)<((2^k:Nat):Int):=by rw[hpn,mc ha];exact ha1
  exact_mod_cast this) b.toNat
 have e:(b*2^k).toNat=2^k*b.toNat:=by
  have:((2^k*b.toNat:Nat):Int)=b*2^k:=by rw[Am,hpn,mc hb,eL]
  omega
 rw[e,←h1,FB,Am,hpn,mc hb,mc ha,eL]
theorem Oa(N:Nat)(hN:100≤N){hi lo y:Int}(h0:0≤hi)(h1:hi<y)(l0:0≤lo)(l1:lo<18446744073709551616)(y1:y<18446744073709551616):
  eB N hi lo y=some ((hi*18446744073709551616+lo)/y,(hi*18446744073709551616+lo)%y):=by
 unfold eB eB.b
 rw[dG (show y≠0 by omega),av,dL ω,av]
 by_cases hz:hi=0
 ·subst hz
  rw[dF rfl,ak,av,av,KJ,Xu,Fa l0,Int.tmod_eq_emod_of_nonneg l0]
  have e1:0≤lo/y:=kL l0 ω
  have e2:lo/y≤lo:=Fw _ l0
  rw[cz ω ω]
  simp
 ·rw[dG hz,av]
  obtain⟨b1,b2⟩:=bitLen_spec y.toNat
  have b2:=b2 ω
  obtain⟨L,hL⟩: ∃L,L=bitLen y.toNat:=⟨_,rfl⟩
  rw[←hL]at b1 b2
  have hL1:1≤L:=by rw[hL,sf ω];omega
  have aCO:L≤64:=by
   rcases nv 64 L with h|h
   ·have h3:2^64≤2^(L-1):=Fk δ ω
    have:(2:Nat)^64=18446744073709551616:=δ
    omega
   ·exact h
  have hl:ach N y=some (64-(L:Int)):=by
   unfold ach
   rw[Yx N ω y1,ar,←hL,aw ω ω]
  obtain⟨s,hs⟩: ∃s:Nat,s=64-L:=⟨_,rfl⟩
  have hsI:64-(L:Int)=(s:Int):=ω
  rw[hl,ar,hsI]
  clear hl
  have hpn: ∀k:Nat,((2^k:Nat):Int)=2^k:=λk=>by rw[Int.natCast_pow];rfl
  obtain⟨p,hp⟩: ∃p:Int,p=2^s:=⟨_,rfl⟩
  obtain⟨p',D2⟩: ∃p':Int,p'=2^(64-s):=⟨_,rfl⟩
  have B1:p'*p=18446744073709551616:=by
   rw[hp,D2,←Int.pow_add,show 64-s+s=64 from by omega];decide
  have Xj:0<p:=by rw[hp];exact Int.pow_pos δ
  have aCQ:0<p':=by rw[D2];exact Int.pow_pos δ
  have hy1:y*p<18446744073709551616:=by
   have h:y.toNat*2^s<2^L*2^s:=Nat.mul_lt_mul_of_pos_right b1 (Nat.pow_pos δ)
   rw[←Nat.pow_add,show L+s=64 from by omega,show(2:Nat)^64=18446744073709551616 from by decide]at h
   have:((y.toNat*2^s:Nat):Int)=y*p:=by rw[Am,hpn,←hp,mc ω]
   omega
  have hy2:9223372036854775808≤y*p:=by
   have h:2^(L-1)*2^s≤y.toNat*2^s:=kJ _ b2
   rw[←Nat.pow_add,show L-1+s=63 from by omega,show(2:Nat)^63=9223372036854775808 from by decide]at h
   have:((y.toNat*2^s:Nat):Int)=y*p:=by rw[Am,hpn,←hp,mc ω]
   omega
  have avA: ∀x:Int,shl .u64 x (s:Int)=x*p:=λx=>by rw[TR ω ω,hp];rfl
  have avB:shr .u64 lo (64-(s:Int))=lo*p/18446744073709551616:=by
   rw[vG ω ω,show(64-(s:Int)).toNat=64-s from by omega,←D2,←B1,Int.mul_ediv_mul_of_pos_left _ _ Xj]
  have hhp:hi*p+p≤y*p:=by
   have:=qH (show hi+1≤y by omega) (pA Xj)
   rw[js,uD]at this;exact this
  have aCT:0≤hi*p:=ka h0 (pA Xj)
  have avC:0≤lo*p:=ka l0 (pA Xj)
  have avD:lo*p<18446744073709551616*p:=Int.mul_lt_mul_of_pos_right l1 Xj
  have wO:lo*p/18446744073709551616<p:=by rw[uw ω,eL p];exact avD
  have ht0:0≤lo*p/18446744073709551616:=kL avC ω
  have hor:mW .or .u64 (hi*p) (lo*p/18446744073709551616)=hi*p+lo*p/18446744073709551616:=by
   have:=Yy (k:=s) (a:=lo*p/18446744073709551616) (b:=hi) ht0 (by rw[←hp];exact wO) h0 (by rw[←hp];omega) ω
   rw[←hp]at this;exact this
  obtain⟨Y,hY⟩: ∃Y,Y=y*p:=⟨_,rfl⟩
  have hU:(hi*18446744073709551616+lo)*p=(hi*p+lo*p/18446744073709551616)*18446744073709551616+lo*p%18446744073709551616:=by
   rw[js,gg,eL 18446744073709551616 p,←gg];omega
  have hws:W .u64 (s:Int)=(s:Int):=cz ω ω
  have avE:W .u64 (64-(s:Int))=64-(s:Int):=cz ω ω
  have hwl:W .u64 (lo*p)=lo*p%18446744073709551616:=mN _
  simp only[hws,avE,avA,avB,hwl]
  rw[←hY]at hy1 hy2 hhp ⊢
  have hwy:W .u64 Y=Y:=cz ω ω
  have hwh:W .u64 (hi*p)=hi*p:=cz ω ω
  simp only[hwy,hwh,hor]
  obtain⟨u,hu⟩: ∃u,u=hi*p+lo*p/18446744073709551616:=⟨_,rfl⟩
  obtain⟨v,hv⟩: ∃v,v=lo*p%18446744073709551616:=⟨_,rfl⟩
  rw[←hu,←hv]at hU ⊢
  have hv0:0≤v:=ω
  have Nu:v<18446744073709551616:=ω
  have hu0:0≤u:=ω
  have hu1:u<Y:=ω
  have hmy:mW .and .u64 Y 4294967295=Y%4294967296:=kk ω ω
  have hmv:mW .and .u64 v 4294967295=v%4294967296:=kk hv0 Nu
  obtain⟨g1,g2,g3,g4⟩:=pF.first (Y:=Y) (yn1:=Y/4294967296) (yn0:=Y%4294967296) (un32:=u) (un1:=v/4294967296) ω ω ω ω ω ω ω hu0 hu1
  have hq:quo u (Y/4294967296)=u/(Y/4294967296):=by rw[KJ,Fa hu0]
  have hwq:W .u64 (u/(Y/4294967296))=u/(Y/4294967296):=cz g1.q0 (by have:=g1.q1;omega)
  have hwm:W .u64 (u/(Y/4294967296)*(Y/4294967296))=u/(Y/4294967296)*(Y/4294967296):=cz g3 ω
  have hwr:W .u64 (u-u/(Y/4294967296)*(Y/4294967296))=u-u/(Y/4294967296)*(Y/4294967296):=cz ω ω
  rw[aP (show(0:Int)≤s by omega),aP (show(0:Int)≤32 by omega),aP (show(0:Int)≤64-(s:Int)by omega),Gm,Gm,hmy,hmv,dG (show Y/4294967296≠0 by omega),hq,hwq,hwm,hwr]
  simp only[av]
  rw[TT N hu0 ω 3 N _ _ g1 g2 ω ω]
  have d1:=g1.digit hu0
  clear hq hwq hwm hwr g1 g2 g3 g4
  obtain⟨q1,hq1⟩: ∃q1,q1=(u*4294967296+v/4294967296)/Y:=⟨_,rfl⟩
  have m1:=rA (u*4294967296+v/4294967296) Y
  have m2:=pt (u*4294967296+v/4294967296) (show 0<Y by omega)
  have m3:=rE (u*4294967296+v/4294967296) (show Y≠0 by omega)
  rw[←hq1]at d1 m1 ⊢
  obtain⟨r1,zS⟩: ∃r1,r1=(u*4294967296+v/4294967296)%Y:=⟨_,rfl⟩
  rw[←zS]at m1 m2 m3
  rw[eL]at m1
  unfold eB.Xl eB.RT
  have avF:W .u64 (W .u64 (W .u64 (u*4294967296)+v/4294967296)-W .u64 (q1*Y))=r1:=by
   simp only[mN]
   generalize q1*Y=z at*
   omega
  simp only[avF]
  obtain⟨g1,g2,g3,g4⟩:=pF.first (Y:=Y) (yn1:=Y/4294967296) (yn0:=Y%4294967296) (un32:=r1) (un1:=v%4294967296) ω ω ω ω ω ω ω m3 m2
  have hq:quo r1 (Y/4294967296)=r1/(Y/4294967296):=by rw[KJ,Fa m3]
  have hwq:W .u64 (r1/(Y/4294967296))=r1/(Y/4294967296):=cz g1.q0 (by have:=g1.q1;omega)
  have hwm:W .u64 (r1/(Y/4294967296)*(Y/4294967296))=r1/(Y/4294967296)*(Y/4294967296):=cz g3 ω
  have hwr:W .u64 (r1-r1/(Y/4294967296)*(Y/4294967296))=r1-r1/(Y/4294967296)*(Y/4294967296):=cz ω ω
  rw[dG (show Y/4294967296≠0 by omega),hq,hwq,hwm,hwr,av,TU N (b:=0) m3 ω 3 N _ _ g1 g2 ω ω]
  have d0:=g1.digit m3
  clear hq hwq hwm hwr g1 g2 g3 g4
  obtain⟨q0,wT⟩: ∃q0,q0=(r1*4294967296+v%4294967296)/Y:=⟨_,rfl⟩
  have n1:=rA (r1*4294967296+v%4294967296) Y
  have n2:=pt (r1*4294967296+v%4294967296) (show 0<Y by omega)
  have n3:=rE (r1*4294967296+v%4294967296) (show Y≠0 by omega)
  rw[←wT]at d0 n1 ⊢
  obtain⟨r0,hr0⟩: ∃r0,r0=(r1*4294967296+v%4294967296)%Y:=⟨_,rfl⟩
  rw[←hr0]at n1 n2 n3
  rw[eL]at n1
  unfold eB.j28 eB.aki
  have avG:W .u64 (W .u64 (W .u64 (r1*4294967296)+v%4294967296)-W .u64 (q0*Y))=r0:=by
   simp only[mN]
   generalize q0*Y=z at*
   omega
  rw[aP (show(0:Int)≤s by omega),av,avG,cz (x:=q1*4294967296) ω ω,cz (x:=q1*4294967296+q0) ω ω,vG ω ω,aG,←hp]
  obtain⟨V,hV⟩: ∃V,V=hi*18446744073709551616+lo:=⟨_,rfl⟩
  obtain⟨Q,hQ⟩: ∃Q,Q=q1*4294967296+q0:=⟨_,rfl⟩
  rw[←hV]at hU ⊢
  rw[←hQ]
  have hQY:Q*Y=q1*Y*4294967296+q0*Y:=by rw[hQ,js,gg,eL 4294967296 Y,←gg]
  have aC0:V*p=Q*Y+r0:=by rw[hU,hQY];generalize q1*Y=z1 at*;generalize q0*Y=z0 at*;omega
  have apS:r0=(V-Q*y)*p:=by rw[Int.sub_mul,gg,←hY];omega
  have hd0:0≤V-Q*y:=by
   by_cases h:V-Q*y<0
   ·have:=Int.mul_neg_of_neg_of_pos h Xj;omega
   ·omega
  have hd1:V-Q*y<y:=by
   by_cases h:V-Q*y<y
   ·exact h
   ·have:=qH (show y≤V-Q*y by omega) (pA Xj);rw[←apS,←hY]at this;omega
  have hVe:V=(V-Q*y)+y*Q:=by rw[eL y Q];omega
  have e1:V/y=Q:=by
   rw[hVe,wW _ _ ω,Aa hd0 hd1];omega
  have e2:V%y=V-Q*y:=by
   have:=rA V y
   rw[e1,eL]at this;omega
  rw[e1,e2,apS,Int.mul_ediv_cancel _ ω]
end VM
end
section
namespace VM
open Go VM.F
def c6:List Int→Int
 |[]=>0
 |d::r=>d+4294967296*c6 r
def VD(l:List Int):Prop:= ∀d∈l,0≤d∧d<4294967296
def lD(n:Nat):List Int:=if n=0 then []else((n%4294967296:Nat):Int)::lD (n/4294967296)
termination_by n
decreasing_by omega
theorem ko:lD 0=[]:=by rw[lD];rfl
theorem yp{n:Nat}(h:n≠0):lD n=((n%4294967296:Nat):Int)::lD (n/4294967296):=by rw[lD];simp[h]
theorem VD.nil:VD []:=λd h=>by cases h
theorem VD.cons{d:Int}{l:List Int}(h0:0≤d)(h1:d<4294967296)(h:VD l):VD (d::l):=λx hx=>by
 rcases aZ.1 hx with rfl|hx
 ·exact⟨h0,h1⟩
 ·exact h x hx
theorem VD.tail{d:Int}{l:List Int}(h:VD (d::l)):VD l:=λx hx=>h x (a7 _ hx)
theorem VD.append{a b:List Int}(h:VD a)(k:VD b):VD (a++b):=λx hx=>(bk.1 hx).elim (h x) (k x)
theorem VD.drop{l:List Int}(h:VD l)(n:Nat):VD (l.drop n):=λx hx=>h x (m9 hx)
theorem VD.take{l:List Int}(h:VD l)(n:Nat):VD (l.take n):=λx hx=>h x (lZ hx)
theorem VD.getD{l:List Int}(h:VD l)(n:Nat):0≤l.getD n 0∧l.getD n 0<4294967296:=by
 rw[aU]
 cases hn:l[n]? with
 |none=>exact⟨dP _,δ⟩
 |some x=>exact h x (List.mem_of_getElem? hn)
theorem VD.set{l:List Int}(h:VD l)(n:Nat){x:Int}(h0:0≤x)(h1:x<4294967296):VD (l.set n x):=λy hy=>by
 rcases uu hy with hy|rfl
 ·exact h y hy
 ·exact⟨h0,h1⟩
theorem VD.aiy(n:Nat):VD (List.replicate n 0):=λx hx=>by rw[z6 hx];exact⟨dP _,δ⟩
theorem kp: ∀{l:List Int},VD l→0≤c6 l
 |[],_=>dP _
 |d::r,h=>by
  have:=kp h.tail
  have:=(h d (bh ..)).1
  simp only[c6];omega
theorem gJ(n:Nat):c6 (lD n)=n:=by
 induction n using Nat.strongRecOn with
 |_ n ih=>
  by_cases h:n=0
  ·subst h;rw[ko];rfl
  ·rw[yp h,c6,ih _ ω];omega
theorem jC(n:Nat):VD (lD n):=by
 induction n using Nat.strongRecOn with
 |_ n ih=>
  by_cases h:n=0
  ·subst h;rw[ko];exact VD.nil
  ·rw[yp h];exact VD.cons ω ω (ih _ ω)
theorem A2{n:Nat}:lD n=[]↔n=0:=by
 constructor
 ·intro h
  by_cases hn:n=0
  ·exact hn
  ·rw[yp hn]at h;cases h
 ·rintro rfl;exact ko
theorem vI(k:Nat): ∀n,n<4294967296^k→(lD n).length≤k:=by
 induction k with
 |zero=>
  intro n h;have:n=0:=by simpa using h
  subst this;rw[ko];simp
 |succ k ih=>
  intro n h
  by_cases hn:n=0
  ·subst hn;rw[ko];simp
  ·rw[yp hn,aR]
   have:=ih (n/4294967296) (by rw[Nb ω];rw[pz]at h;exact h)
   omega
theorem Lm(k:Nat): ∀n,(lD n).length≤k→n<4294967296^k:=by
 induction k with
 |zero=>
  intro n h
  have:lD n=[]:=ta ω
  rw[A2]at this;subst this;decide
 |succ k ih=>
  intro n h
  by_cases hn:n=0
  ·subst hn;exact Nat.pow_pos δ
  ·rw[yp hn,aR]at h
   have:=ih (n/4294967296) ω
   rw[Nb ω]at this
   rw[pz];exact this
def strip:List Int→List Int
 |[]=>[]
 |d::r=>if strip r=[]∧d=0 then []else d::strip r
theorem Ob: ∀{l:List Int},VD l→strip l=lD (c6 l).toNat
 |[],_=>by rw[show(c6 []).toNat=0 from rfl,ko];rfl
 |d::r,h=>by
  have ih:=Ob h.tail
  have h0:=kp h.tail
  obtain⟨h1,h2⟩:=h d (bh ..)
  simp only[strip,c6,ih,A2]
  split
  ·rename_i hc
   obtain⟨hc,rfl⟩:=hc
   have:c6 r=0:=ω
   rw[this];exact ko.symm
  ·rename_i hc
   have iI:(d+4294967296*c6 r).toNat≠0:=λhe=>hc ⟨ω,ω⟩
   rw[yp iI]
   congr 1
   ·omega
   ·congr 1;omega
theorem Gp: ∀(l:List Int) (x:Int),strip (l++[x])=if x=0 then strip l else l++[x]
 |[],x=>by simp[strip]
 |d::r,x=>by
  simp only[kK,strip,Gp r x]
  split
  ·rfl
  ·simp
theorem ig(l:List Int){k:Nat}(h:k<l.length):l.take (k+1)=l.take k++[l.getD k 0]:=by
 rw[List.take_succ_eq_append_getElem h,aU,bg h];rfl
theorem Jr(N:Nat)(l:List Int)(hl:l.length<68719476736): ∀(k n:Nat),k≤l.length→k<n→oD.l2 N n l (k:Int)=some (strip (l.take k))
 |0,n+1,_,_=>by
  unfold oD.l2 oD.fy
  simp (disch:=omega) only[aQ,aP,dY,dL,dF,dG,aS,bP,cD,dD,aw,cz,ak,av,bp,cX,ar,aG,dq,af,aM,aK,bM,cQ,aR,ck]
  simp[strip]
 |k+1,n+1,hk,hn=>by
  unfold oD.l2 oD.fy
  have e:((k+1:Nat):Int)-1=(k:Int):=ω
  simp (disch:=omega) only[aQ,aP,dY,dL,dF,dG,aS,bP,cD,dD,aw,cz,ak,av,bp,cX,ar,aG,dq,af,aM,aK,bM,cQ,aR,ck,e]
  have ih:=Jr N l hl k n ω ω
  rw[ig l ω,Gp]
  by_cases h:l.getD k 0=0
  ·rw[dF h,ak,ih,ah h]
  ·rw[dG h,av,aj h]
   simp only[dq,c0]
theorem Ln(N:Nat){l:List Int}(h:VD l)(hN:l.length<N)(hl:l.length<68719476736):oD N l=some (lD (c6 l).toNat):=by
 unfold oD oD.b
 rw[Jr N l hl l.length N (aH _) hN,jf,Ob h]
def di(v:Int):aJ:=(decide (v<0),(lD v.natAbs,()))
theorem pe(N:Nat)(neg:Bool){l:List Int}(h:VD l)(hN:l.length<N)(hl:l.length<68719476736):VB N neg l=some (di (if neg then-c6 l else c6 l)):=by
 unfold VB
 rw[Ln N h hN hl,ar]
 have h0:=kp h
 cases neg
 ·simp only[av,di,jd,fc]
  rw[bC ω]
  congr 4;omega
 ·simp only[ak,di,gB]
  have e:(-c6 l).natAbs=(c6 l).toNat:=ω
  rw[e]
  congr 2
  by_cases hz:c6 l=0
  ·rw[hz,dq,ko,aP (by simp),bC ω]
  ·have:0<(lD (c6 l).toNat).length:=by
    apply o7.2
    intro hd;rw[A2]at hd;omega
   rw[aQ ω,a8 ω]
theorem size_eq(N:Nat)(hN:1000≤N){u:Int}(h0:0≤u)(h1:u<18446744073709551616):F67 N u=some (lD u.toNat):=by
 unfold F67
 rw[kk h0 h1,Gm]
 have hv:VD [u%4294967296,u/4294967296]:=VD.cons ω ω (VD.cons ω ω VD.nil)
 simp (disch:=omega) only[aQ,aP,dY,dL,dF,dG,aS,bP,cD,dD,aw,cz,ak,av,bp,cX,ar,aG,dq,af,aM,aK,bM,cQ,aR,ck,Ln N hv (by simp;omega) (by simp)]
 congr 2
 simp only[c6];omega
theorem da(N:Nat)(hN:1000≤N){x:Int}(h0: -9223372036854775808≤x)(h1:x<9223372036854775808):jD N x=some (di x):=by
 unfold jD
 have hd: ∀n:Nat,n<18446744073709551616→(lD n).length≤2:=λn h=>vI 2 n (by simpa using h)
 by_cases h:x<0
 ·have e:W .u64 (0-W .u64 x)= -x:=by rw[mN,mN];omega
  simp only[aQ h,ak,e,size_eq N hN (show 0≤ -x by omega) ω,ar]
  have:=hd (-x).toNat ω
  rw[pe N true (jC _) ω ω,gJ,ah rfl,show-(((-x).toNat:Nat):Int)=x from by omega];rfl
 ·have e:W .u64 x=x:=cz ω ω
  simp only[aP (show 0≤x by omega),av,e,size_eq N hN (show 0≤x by omega) ω,ar]
  have:=hd x.toNat ω
  rw[pe N false (jC _) ω ω,gJ,aj qJ,mc ω];rfl
theorem xC(N:Nat)(l:List Int)(i:Nat):F98 N l (i:Int)=some (l.getD i 0):=by
 unfold F98
 by_cases h:i<l.length
 ·simp (disch:=omega) only[aQ,aP,dY,dL,dF,dG,aS,bP,cD,dD,aw,cz,ak,av,bp,cX,ar,aG,dq,af,aM,aK,bM,cQ,aR,ck]
 ·simp (disch:=omega) only[aQ,aP,dY,dL,dF,dG,aS,bP,cD,dD,aw,cz,ak,av,bp,cX,ar,aG,dq,af,aM,aK,bM,cQ,aR,ck]
  rw[aU,gH ω];rfl
theorem kS(l:List Int)(i:Nat):c6 (l.drop i)=l.getD i 0+4294967296*c6 (l.drop (i+1)):=by
 by_cases h:i<l.length
 ·rw[qI h,c6,aU,bg h];rfl
 ·rw[kI ω,kI ω,aU,gH ω];rfl
theorem Oc(N:Nat){a b:List Int}(ha:VD a)(hb:VD b)(zu:a.length≤1000000)(Rq:b.length≤1000000): ∀(m n i:Nat) (out:List Int) (c:Int),a.length+b.length+2-i≤m→m<n→out.length=i→i≤a.length+b.length+1→0≤c→c≤1→(a.length≤i→b.length≤i→i=max a.length b.length∨c=0)→
  ∃r,wE.l4 N n a b out c (i:Int)=some (out++r)∧VD r∧c6 r=c6 (a.drop i)+c6 (b.drop i)+c∧r.length≤m
 |m,0,i,out,c,_,hn,_,_,_,_,_=>ω
 |m,n+1,i,out,c,hm,hn,ho,hi,Xd,Jf,hz=>by
  unfold wE.l4 wE.eN
  by_cases Od:a.length≤i∧b.length≤i∧c=0
  ·obtain⟨h1,h2,rfl⟩:=Od
   simp (disch:=omega) only[aQ,aP,dY,dL,dF,dG,aS,bP,cD,dD,aw,cz,ak,av,bp,cX,ar,aG,dq,af,aM,aK,bM,cQ,aR,ck]
   exact⟨[],by simp,VD.nil,by rw[kI h1,kI h2];rfl,bF _⟩
  ·obtain⟨ga0,ga1⟩:=ha.getD i
   obtain⟨gb0,gb1⟩:=hb.getD i
   have step: ∃r,wE.j6 N (wE.l4 N n) a b out c (i:Int)=some (out++r)∧VD r∧c6 r=c6 (a.drop i)+c6 (b.drop i)+c∧r.length≤m:=by
    unfold wE.j6 wE.Oe
    have Ip:i≤a.length+b.length:=by
     by_cases h1:a.length≤i∧b.length≤i
     ·rcases hz h1.1 h1.2 with h|h
      ·omega
      ·exact absurd ⟨h1.1,h1.2,h⟩ Od
     ·omega
    simp only[xC,ar]
    generalize hga:a.getD i 0=x at*
    generalize hgb:b.getD i 0=y at*
    rw[cz (x:=x+y) ω ω,cz (x:=c+(x+y)) ω ω,kk ω ω,Gm]
    simp (disch:=omega) only[aQ,aP,dY,dL,dF,dG,aS,bP,cD,dD,aw,cz,ak,av,bp,cX,ar,aG,dq,af,aM,aK,bM,cQ,aR,ck]
    obtain⟨r,hr,hv,hs,I8⟩:=Oc N ha hb zu Rq (m-1) n (i+1) (out++[(c+(x+y))%4294967296]) ((c+(x+y))/4294967296) ω ω (by simp[ho]) ω ω ω (λh1 h2=>by
     by_cases h3:a.length≤i∧b.length≤i
     ·right
      rw[←hga,←hgb,aU,gH h3.1,aU,gH h3.2]
      simp only[Option.getD_none];omega
     ·left;omega)
    refine⟨(c+(x+y))%4294967296::r,by rw[hr];simp,VD.cons ω ω hv,?_,by rw[aR];omega⟩
    rw[c6,hs,kS a i,kS b i,hga,hgb];omega
   by_cases h1:i<a.length
   ·simp (disch:=omega) only[aQ,ak];exact step
   ·by_cases h2:i<b.length
    ·simp (disch:=omega) only[aQ,aP,ak,av];exact step
    ·have:0<c:=ω
     simp (disch:=omega) only[aQ,aP,ak,av];exact step
theorem TV: ∀{l:List Int},VD l→c6 l<4294967296^l.length
 |[],_=>by simp[c6]
 |d::r,h=>by
  have ih:=TV h.tail
  obtain⟨h1,h2⟩:=h d (bh ..)
  rw[c6,aR,Ar]
  generalize (4294967296:Int)^r.length=p at*
  omega
theorem Of(N:Nat)(hN:4000000≤N){a b:List Int}(ha:VD a)(hb:VD b)(zu:a.length≤1000000)(Rq:b.length≤1000000): ∃r,wE N a b=some r∧VD r∧c6 r=c6 a+c6 b∧r.length≤2000002:=by
 unfold wE wE.b
 obtain⟨r,hr,hv,hs,hl⟩:=Oc N ha hb zu Rq (a.length+b.length+2) N 0 [] 0 ω ω rfl ω ω ω (λ_ _=> .inr rfl)
 exact⟨r,hr,hv,by simpa using hs,ω⟩
theorem Gq(N:Nat){a b:List Int}(ha:VD a)(hb:VD b)(zu:a.length≤1000000): ∀(m n i:Nat) (out:List Int) (c:Int),a.length-i≤m→m<n→out.length=i→i≤a.length→0≤c→c≤1→0≤c6 (a.drop i)-c6 (b.drop i)-c→
  ∃r,EL.l4 N n a b out c (i:Int)=some (out++r)∧VD r∧c6 r=c6 (a.drop i)-c6 (b.drop i)-c∧r.length≤m
 |m,0,i,out,c,_,hn,_,_,_,_,_=>ω
 |m,n+1,i,out,c,hm,hn,ho,hi,Xd,Jf,hz=>by
  unfold EL.l4 EL.eN
  by_cases h1:i<a.length
  ·obtain⟨ga0,ga1⟩:=ha.getD i
   obtain⟨gb0,gb1⟩:=hb.getD i
   rw[kS a i,kS b i]at*
   simp only[xC,ar,aG]
   generalize hga:a.getD i 0=x at*
   generalize hgb:b.getD i 0=y at*
   rw[cz (x:=y+c) ω ω,cz (x:=x+4294967296) ω ω]
   by_cases fj:x<y+c
   ·rw[cz (x:=x+4294967296-(y+c)) ω ω]
    simp (disch:=omega) only[aQ,aP,dY,dL,dF,dG,aS,bP,cD,dD,aw,cz,ak,av,bp,cX,ar,aG,dq,af,aM,aK,bM,cQ,aR,ck,hga,hgb]
    obtain⟨r,hr,hv,hs,I8⟩:=Gq N ha hb zu (m-1) n (i+1) (out++[x+4294967296-(y+c)]) 1 ω ω (by simp[ho]) ω ω ω ω
    refine⟨(x+4294967296-(y+c))::r,by rw[hr];simp,VD.cons ω ω hv,by rw[c6,hs];omega,by rw[aR];omega⟩
   ·rw[cz (x:=x-(y+c)) ω ω]
    simp (disch:=omega) only[aQ,aP,dY,dL,dF,dG,aS,bP,cD,dD,aw,cz,ak,av,bp,cX,ar,aG,dq,af,aM,aK,bM,cQ,aR,ck,hga,hgb]
    obtain⟨r,hr,hv,hs,I8⟩:=Gq N ha hb zu (m-1) n (i+1) (out++[x-(y+c)]) 0 ω ω (by simp[ho]) ω ω ω ω
    refine⟨(x-(y+c))::r,by rw[hr];simp,VD.cons ω ω hv,by rw[c6,hs];omega,by rw[aR];omega⟩
  ·simp (disch:=omega) only[aQ,aP,dY,dL,dF,dG,aS,bP,cD,dD,aw,cz,ak,av,bp,cX,ar,aG,dq,af,aM,aK,bM,cQ,aR,ck]
   have h0:=kp (hb.drop i)
   rw[kI (l:=a) ω]at hz ⊢
   simp only[c6]at hz ⊢
   exact⟨[],by simp,VD.nil,by simp only[c6];omega,bF _⟩
theorem Dt(N:Nat)(hN:4000000≤N){a b:List Int}(ha:VD a)(hb:VD b)(zu:a.length≤1000000)(h:c6 b≤c6 a): ∃r,EL N a b=some r∧VD r∧c6 r=c6 a-c6 b∧r.length≤1000000:=by
 unfold EL EL.b
 obtain⟨r,hr,hv,hs,hl⟩:=Gq N ha hb zu a.length N 0 [] 0 ω ω rfl ω ω ω (by simp;omega)
 exact⟨r,hr,hv,by simpa using hs,ω⟩
theorem rm: ∀(l:List Int) (x:Int),c6 (l++[x])=c6 l+4294967296^l.length*x
 |[],x=>by simp[c6]
 |d::r,x=>by
  rw[kK,c6,rm r x,c6,aR,Ar,eL _ 4294967296,gg,lH];omega
theorem Og{a b:List Int}(ha:VD a)(hb:VD b){k:Nat}(h1:k<a.length)(h2:k<b.length)(fj:a.getD k 0<b.getD k 0):c6 (a.take (k+1))<c6 (b.take (k+1)):=by
 rw[ig a h1,ig b h2,rm,rm]
 have l1:(a.take k).length=k:=by rw[cc];omega
 have l2:(b.take k).length=k:=by rw[cc];omega
 have v1:=TV (ha.take k)
 have v2:=kp (hb.take k)
 rw[l1]at*
 rw[l2]
 generalize (4294967296:Int)^k=p at*
 have hp:0<p:=by have:=kp (ha.take k);omega
 have:=kG (show a.getD k 0+1≤b.getD k 0 by omega) (pA hp)
 rw[lH,Int.mul_one]at this
 omega
def p5(x:Int):Int:=if x<0 then-1 else if 0<x then 1 else 0
theorem Oh(N:Nat){a b:List Int}(ha:VD a)(hb:VD b)(hl:a.length=b.length)(zu:a.length≤1000000): ∀(k n:Nat),k≤a.length→k<n→Eg.l6 N n a b ((k:Int)-1)=some (p5 (c6 (a.take k)-c6 (b.take k)))
 |k,0,_,hn=>ω
 |0,n+1,_,_=>by
  unfold Eg.l6 Eg.tX
  simp (disch:=omega) only[aQ,aP,dY,dL,dF,dG,aS,bP,cD,dD,aw,cz,ak,av,bp,cX,ar,aG,dq,af,aM,aK,bM,cQ,aR,ck]
  simp[p5,c6]
 |k+1,n+1,hk,hn=>by
  unfold Eg.l6 Eg.tX
  have e:((k+1:Nat):Int)-1=(k:Int):=ω
  rw[e]
  simp (disch:=omega) only[aQ,aP,dY,dL,dF,dG,aS,bP,cD,dD,aw,cz,ak,av,bp,cX,ar,aG,dq,af,aM,aK,bM,cQ,aR,ck]
  by_cases h1:a.getD k 0<b.getD k 0
  ·rw[aQ h1,ak]
   have:=Og ha hb (k:=k) ω ω h1
   rw[p5,ah ω]
  ·rw[aP ω,av]
   by_cases h2:b.getD k 0<a.getD k 0
   ·rw[aQ h2,ak]
    have:=Og hb ha (k:=k) ω ω h2
    rw[p5,aj ω,ah ω]
   ·rw[aP ω,av,Oh N ha hb hl zu k n ω ω]
    congr 2
    rw[ig a ω,ig b ω,rm,rm,show a.getD k 0=b.getD k 0 from by omega,cc,cc,hl]
    omega
theorem Oi(N:Nat)(hN:4000000≤N)(m k:Nat)(hm:(lD m).length≤1000000)(hk:(lD k).length≤1000000):Eg N (lD m) (lD k)=some (p5 ((m:Int)-k)):=by
 unfold Eg Eg.b
 by_cases h:(lD m).length=(lD k).length
 ·simp (disch:=omega) only[aQ,aP,dY,dL,dF,dG,aS,bP,cD,dD,aw,cz,ak,av,bp,cX,ar,aG,dq,af,aM,aK,bM,cQ,aR,ck]
  rw[Oh N (jC m) (jC k) h hm (lD m).length N (aH _) ω,jf,h,jf,gJ,gJ]
 ·rw[dG ω,cX,ak]
  by_cases fj:(lD m).length<(lD k).length
  ·rw[aQ ω,ak]
   have h1:=Lm ((lD k).length-1) m ω
   have h2: ¬(k<4294967296^((lD k).length-1)):=λh=>by have:=vI _ _ h;omega
   rw[p5,ah ω]
  ·rw[aP ω,av]
   have h1:=Lm ((lD m).length-1) k ω
   have h2: ¬(m<4294967296^((lD m).length-1)):=λh=>by have:=vI _ _ h;omega
   rw[p5,aj ω,ah ω]
end VM
end
section
namespace VM
open Go VM.F
def Fit(v:Int)(k:Nat):Prop:=v.natAbs<4294967296^k
theorem Fit.len{v:Int}{k:Nat}(h:Fit v k):(lD v.natAbs).length≤k:=vI k _ h
theorem Fit.mono{v:Int}{j k:Nat}(h:Fit v j)(hjk:j≤k):Fit v k:=nc h (Fk δ hjk)
theorem Fit.neg{v:Int}{k:Nat}(h:Fit v k):Fit (-v) k:=by unfold Fit at*;rwa [Int.natAbs_neg]
theorem Fit.i64{v:Int}(h0: -9223372036854775808≤v)(h1:v<9223372036854775808):Fit v 2:=by
 unfold Fit
 rw[show(4294967296:Nat)^2=18446744073709551616 from by decide];omega
theorem Fit.add{u v:Int}{k:Nat}(hu:Fit u k)(hv:Fit v k):Fit (u+v) (k+1):=by
 unfold Fit at*
 rw[pz]
 have:(u+v).natAbs≤u.natAbs+v.natAbs:=Int.natAbs_add_le u v
 generalize 4294967296^k=p at*
 omega
theorem Fit.mul{u v:Int}{j k:Nat}(hu:Fit u j)(hv:Fit v k):Fit (u*v) (j+k):=by
 unfold Fit at*
 rw[Int.natAbs_mul,Nat.pow_add]
 exact Nat.mul_lt_mul'' hu hv
theorem Fit.of_le{u v:Int}{k:Nat}(hv:Fit v k)(h:u.natAbs≤v.natAbs):Fit u k:=Nat.lt_of_le_of_lt h hv
theorem nJ(a b:Bool):p8 .bool a b=(a==b):=by simp[p8]
theorem ji(N:Nat)(hN:4000000≤N){u v:Int}(hu:Fit u 900000)(hv:Fit v 900000):zT N (di u) (di v)=some (di (u+v)):=by
 have lu:=hu.len
 have lv:=hv.len
 unfold zT
 simp only[di,nJ]
 by_cases hs:decide (u<0)=decide (v<0)
 ·rw[hs,Ak,ak]
  obtain⟨r,hr,hvd,F2,hl⟩:=Of N hN (jC u.natAbs) (jC v.natAbs) ω ω
  simp only[hr,ar,pe N _ hvd ω ω,F2,gJ]
  congr 1
  show di _=di _
  congr 1
  by_cases h:v<0
  ·have:u<0:=by simpa [h]using hs
   rw[ah (a8 h)];omega
  ·have: ¬u<0:=by simpa [h]using hs
   rw[aj (by simpa using h)];omega
 ·have hb:(decide (u<0)==decide (v<0))=false:=by simpa using hs
  rw[hb,av,Oi N hN _ _ ω ω,ar]
  by_cases hc:v.natAbs≤u.natAbs
  ·have h1:cZ 0 (p5 ((u.natAbs:Int)-v.natAbs))=true:=dY (by unfold p5;split<;>(try split)<;>omega)
   obtain⟨r,hr,hvd,F2,hl⟩:=Dt N hN (jC u.natAbs) (jC v.natAbs) ω (by rw[gJ,gJ];omega)
   simp only[h1,ak,hr,ar,pe N _ hvd ω ω,F2,gJ]
   congr 1
   show di _=di _
   congr 1
   by_cases h:u<0
   ·have: ¬v<0:=λhv=>hs (by simp[h,hv])
    rw[ah (a8 h)];omega
   ·have:v<0:=MX λhv=>hs (by simp[h,hv])
    rw[aj (by simpa using h)];omega
  ·have h1:cZ 0 (p5 ((u.natAbs:Int)-v.natAbs))=false:=dL (by unfold p5;rw[ah ω];omega)
   obtain⟨r,hr,hvd,F2,hl⟩:=Dt N hN (jC v.natAbs) (jC u.natAbs) ω (by rw[gJ,gJ];omega)
   simp only[h1,av,hr,ar,pe N _ hvd ω ω,F2,gJ]
   congr 1
   show di _=di _
   congr 1
   by_cases h:v<0
   ·have: ¬u<0:=λhu=>hs (by simp[h,hu])
    rw[ah (a8 h)];omega
   ·have:u<0:=MX λhu=>hs (by simp[h,hu])
    rw[aj (by simpa using h)];omega
theorem oE(N:Nat)(hN:4000000≤N){u:Int}(hu:Fit u 900000):Xm N (di u)=some (di (-u)):=by
 have lu:=hu.len
 unfold Xm
 simp only[di]
 simp only[pe N _ (jC u.natAbs) ω ω,ar,gJ]
 congr 1
 show di _=di _
 congr 1
 by_cases h:u<0
 ·rw[a8 h,bp,aj qJ];omega
 ·rw[bC h,cX,ah rfl];omega
theorem Oj(N:Nat)(hN:4000000≤N){u:Int}(hu:Fit u 900000):Xn N (di u)=some (di u.natAbs):=by
 have lu:=hu.len
 unfold Xn
 simp only[di]
 simp only[pe N _ (jC u.natAbs) ω ω,ar,gJ,jd,fc]
 rfl
theorem tx(N:Nat)(hN:4000000≤N){u v:Int}(hu:Fit u 900000)(hv:Fit v 900000):RU N (di u) (di v)=some (di (u-v)):=by
 unfold RU
 simp only[oE N hN hv,ar,ji N hN hu hv.neg,Int.sub_eq_add_neg]
theorem mj(N:Nat)(u:Int):Ol N (di u)=some (p5 u):=by
 unfold Ol
 simp only[di]
 by_cases h:u=0
 ·subst h
  rw[show(0:Int).natAbs=0 from rfl,ko]
  simp (disch:=omega) only[aQ,aP,dY,dL,dF,dG,aS,bP,cD,dD,aw,cz,ak,av,bp,cX,ar,aG,dq,af,aM,aK,bM,cQ,aR,ck]
  rfl
 ·have:0<(lD u.natAbs).length:=by
   apply o7.2
   intro hd;rw[A2]at hd;omega
  rw[dG ω,av]
  by_cases hn:u<0
  ·rw[a8 hn,ak,p5,ah hn]
  ·rw[bC hn,av,p5,aj hn,ah ω]
theorem Ch(N:Nat)(hN:4000000≤N){u v:Int}(hu:Fit u 900000)(hv:Fit v 900000):Lo N (di u) (di v)=some (p5 (u-v)):=by
 unfold Lo
 simp only[tx N hN hu hv,ar,mj]
theorem TW(l:List Int)(h: ∀x∈l,-9223372036854775808≤x∧x<9223372036854775808): -(9223372036854775808*l.length)≤l.sum∧l.sum≤9223372036854775808*l.length:=by
 induction l with
 |nil=>simp
 |cons x l ih=>
  have:=ih (λy hy=>h y (a7 _ hy))
  obtain⟨h1,h2⟩:=h x (bh ..)
  rw[cB,aR]
  omega
theorem A3{v:Int}{n:Nat}(hn:n≤1000000)(h0: -(9223372036854775808*n)≤v)(h1:v≤9223372036854775808*n):Fit v 3:=by
 unfold Fit
 rw[show(4294967296:Nat)^3=79228162514264337593543950336 from by decide]
 omega
theorem uW{l:List Int}(h: ∀x∈l,-9223372036854775808≤x∧x<9223372036854775808)(i:Nat): -9223372036854775808≤l.getD i 0∧l.getD i 0<9223372036854775808:=by
 rw[aU]
 cases hn:l[i]? with
 |none=>exact⟨δ,δ⟩
 |some x=>exact h x (List.mem_of_getElem? hn)
theorem lP(l:List Int){i:Nat}(h:i<l.length):(l.take (i+1)).sum=(l.take i).sum+l.getD i 0:=by
 rw[ig l h];simp
theorem A4(N:Nat)(hN:4000000≤N){l:List Int}(h: ∀x∈l,-9223372036854775808≤x∧x<9223372036854775808)(hl:l.length≤1000000): ∀(m n i:Nat) (z:aJ),l.length-i≤m→m<n→i≤l.length→
  qg.l3 N n l z (di (l.take i).sum) (i:Int)=some (di l.sum)
 |m,0,i,z,_,hn,_=>ω
 |m,n+1,i,z,hm,hn,hi=>by
  unfold qg.l3 qg.ob
  by_cases h1:i<l.length
  ·obtain⟨g0,g1⟩:=uW h i
   have f1:=TW (l.take i) (λx hx=>h x (lZ hx))
   rw[cc,iB ω]at f1
   have f2:Fit (l.take i).sum 900000:=(A3 (n:=i) ω f1.1 f1.2).mono ω
   have f3:Fit (l.getD i 0) 900000:=(Fit.i64 g0 g1).mono ω
   simp (disch:=omega) only[aQ,aP,dY,dL,dF,dG,aS,bP,cD,dD,aw,cz,ak,av,bp,cX,ar,aG,dq,af,aM,aK,bM,cQ,aR,ck,da N ω g0 g1,ji N hN f2 f3]
   rw[←lP l h1]
   exact A4 N hN h hl (m-1) n (i+1) z ω ω ω
  ·simp (disch:=omega) only[aQ,aP,dY,dL,dF,dG,aS,bP,cD,dD,aw,cz,ak,av,bp,cX,ar,aG,dq,af,aM,aK,bM,cQ,aR,ck]
   rw[jK ω]
theorem kT:di 0=(false,([],())):=by unfold di;rw[show(0:Int).natAbs=0 from rfl,ko];rfl
theorem zx(N:Nat)(hN:4000000≤N){l:List Int}(h: ∀x∈l,-9223372036854775808≤x∧x<9223372036854775808)(hl:l.length≤1000000):qg N l=some (di l.sum):=by
 unfold qg qg.b
 have:=A4 N hN h hl l.length N 0 (false,([],())) ω ω ω
 rw[px,iF,kT]at this
 exact this
theorem Yz{a b:Int}(ha:0≤a)(ha1:a<4294967296)(hb:0≤b)(mJ:b<4294967296):mW .or .u64 a (b*4294967296)=a+b*4294967296:=by
 rw[Lk ha ω ω ω]
 have h:=E8 (i:=32) (b:=a.toNat) ω b.toNat
 have e:(b*4294967296).toNat=2^32*b.toNat:=ω
 rw[e,Nat.or_comm,←h];omega
theorem VC{a b:Int}(ha:0≤a)(ha1:a<4294967296)(hb:0≤b)(mJ:b<4294967296):mW .or .u64 (b*4294967296) a=a+b*4294967296:=by
 rw[Lk ω ω ha ω]
 have h:=E8 (i:=32) (b:=a.toNat) ω b.toNat
 have e:(b*4294967296).toNat=2^32*b.toNat:=ω
 rw[e,←h];omega
theorem aiz{x:Int}(h0:0≤x):shl .u64 x 32=x*4294967296:=by rw[TR ω ω];rfl
def Eh(v:Int):Int×Bool:=if-9223372036854775808≤v∧v<9223372036854775808 then(v,true)else(0,false)
theorem acj{n:Nat}(h:(lD n).length≤2):(lD n).getD 0 0+4294967296*(lD n).getD 1 0=n:=by
 have h1:=kS (lD n) 0
 have h2:=kS (lD n) 1
 rw[c0,gJ]at h1
 rw[kI (l:=lD n) (i:=1+1) h]at h2
 simp only[c6,fT]at h1 h2
 omega
theorem tY(N:Nat)(v:Int):xD N (di v)=some (Eh v):=by
 unfold xD
 simp only[di]
 by_cases hl:2<(lD v.natAbs).length
 ·rw[aQ ω,ak,Eh,aj]
  intro hh
  have:=vI 2 v.natAbs (by rw[show(4294967296:Nat)^2=18446744073709551616 from by decide];omega)
  omega
 ·have h2:=acj (n:=v.natAbs) ω
  obtain⟨a0,a1⟩:=(jC v.natAbs).getD 0
  obtain⟨b0,b1⟩:=(jC v.natAbs).getD 1
  have e0:=xC N (lD v.natAbs) 0
  have e1:=xC N (lD v.natAbs) 1
  simp only[Int.natCast_zero,Int.natCast_one]at e0 e1
  rw[aP ω,av,e0,e1]
  generalize (lD v.natAbs).getD 0 0=a at*
  generalize (lD v.natAbs).getD 1 0=b at*
  simp only[ar]
  rw[aP (show(0:Int)≤32 by omega),av,aiz b0,cz (x:=b*4294967296) ω ω,Yz a0 a1 b0 b1]
  have ev:a+b*4294967296=v.natAbs:=ω
  rw[ev]
  by_cases hn:v<0
  ·rw[a8 hn,ak]
   by_cases Li:9223372036854775808<(v.natAbs:Int)
   ·rw[aQ Li,ak,Eh,aj ω]
   ·rw[aP ω,av,Eh,ah ω,mN,fW]
    congr 2
    split<;>omega
  ·rw[bC hn,av]
   by_cases Li:9223372036854775807<(v.natAbs:Int)
   ·rw[aQ Li,ak,Eh,aj ω]
   ·rw[aP ω,av,Eh,ah ω,aw ω ω]
    congr 2;omega
end VM
end
section
namespace VM
open Go VM.F
theorem Om: ∀(l:List Int) (k:Nat) (x:Int),k<l.length→c6 (l.set k x)=c6 l+4294967296^k*(x-l.getD k 0)
 |d::r,0,x,_=>by simp[c6];omega
 |d::r,k+1,x,h=>by
  have ih:=Om r k x (by simpa using h)
  rw[List.set_cons_succ,c6,c6,ih,Ad,Ar,eL (4294967296^k) 4294967296,gg,lH];omega
theorem getD_set_ne(l:List Int){j k:Nat}(x:Int)(h:j≠k):(l.set j x).getD k 0=l.getD k 0:=by
 simp[aU,List.getElem?_set_ne h]
theorem mO(l:List Int){k:Nat}(x:Int)(h:k<l.length):(l.set k x).getD k 0=x:=by
 simp[aU,List.getElem?_set,h]
theorem vJ(l:List Int){k:Nat}(h:l.length≤k):l.getD k 0=0:=by
 rw[aU,gH h];rfl
theorem Du(N:Nat)(K:aJ→aJ→aJ→List Int→Int→Option aJ){a b:List Int}(na nb:Bool)(z:aJ)(ha:VD a)(hb:VD b)(i:Nat)(hi:i<a.length)(zu:a.length≤100000)(Rq:b.length≤100000):
  ∀(m n j:Nat) (out:List Int) (c:Int),b.length+1-j≤m→m<n→VD out→out.length=a.length+b.length+1→0≤c→c<4294967296→(j≤b.length→ ∀k,i+b.length≤k→out.getD k 0=0)→(b.length<j→c=0∧j=b.length+1∧ ∀k,i+b.length+1≤k→out.getD k 0=0)→
  ∃xE,jE.l7 N K n (na,(a,())) (nb,(b,())) z out (i:Int) c (j:Int)=K (na,(a,())) (nb,(b,())) z xE ((i+1:Nat):Int)∧VD xE∧xE.length=out.length∧
   c6 xE=c6 out+4294967296^i*(4294967296^j*(a.getD i 0*c6 (b.drop j)+c))∧ ∀k,i+1+b.length≤k→xE.getD k 0=0
 |m,0,j,out,c,_,hn,_,_,_,_,_,_=>ω
 |m,n+1,j,out,c,hm,hn,ho,Cc,Xd,Jf,hz,Ib=>by
  unfold jE.l7 jE.p6
  by_cases Od:b.length≤j∧c=0
  ·obtain⟨h1,rfl⟩:=Od
   simp (disch:=omega) only[aQ,aP,dY,dL,dF,dG,aS,bP,cD,dD,aw,cz,ak,av,bp,cX,ar,aG,dq,af,aM,aK,bM,cQ,aR,ck]
   refine⟨out,rfl,ho,rfl,by rw[kI h1];simp[c6],λk hk=> ?_⟩
   by_cases hj:j≤b.length
   ·exact hz hj k ω
   ·exact(Ib ω).2.2 k ω
  ·have H7:j≤b.length:=by
    by_cases hj:j≤b.length
    ·exact hj
    ·exact absurd ⟨ω,(Ib ω).1⟩ Od
   obtain⟨ga0,ga1⟩:=ha.getD i
   obtain⟨gb0,gb1⟩:=hb.getD j
   obtain⟨go0,go1⟩:=ho.getD (i+j)
   have step: ∃xE,jE.j9 N K (jE.l7 N K n) (na,(a,())) (nb,(b,())) z out (i:Int) c (j:Int)=K (na,(a,())) (nb,(b,())) z xE ((i+1:Nat):Int)∧VD xE∧xE.length=out.length∧
     c6 xE=c6 out+4294967296^i*(4294967296^j*(a.getD i 0*c6 (b.drop j)+c))∧ ∀k,i+1+b.length≤k→xE.getD k 0=0:=by
    unfold jE.j9 jE.On
    have eij:(i:Int)+(j:Int)=((i+j:Nat):Int):=rfl
    have hp:=mul_lt (m:=4294967295) (n:=4294967295) ga0 gb0 ω ω
    simp only[xC,ar,eij,aG]
    simp (disch:=omega) only[aQ,aP,dY,dL,dF,dG,aS,bP,cD,dD,aw,cz,ak,av,bp,cX,ar,aG,dq,af,aM,aK,bM,cQ,aR,ck]
    generalize hx:out.getD (i+j) 0=x at*
    generalize ha':a.getD i 0=ai at*
    generalize fg:b.getD j 0=bj at*
    generalize hpe:ai*bj=p at*
    have hpz:b.length≤j→p=0∧x=0:=λh=>by
     rw[vJ b h]at fg
     refine⟨by rw[←hpe,←fg,As],?_⟩
     rw[←hx];exact hz H7 _ ω
    rw[kk ω ω,Gm]
    have avJ:(out.set (i+j) ((c+(x+p))%4294967296)).length=a.length+b.length+1:=by rw[bM];exact Cc
    obtain⟨xE,h1,h2,h3,h4,h5⟩:=Du N K na nb z ha hb i hi zu Rq (m-1) n (j+1) (out.set (i+j) ((c+(x+p))%4294967296)) ((c+(x+p))/4294967296) ω ω (ho.set _ ω ω) avJ ω ω
     (λh k hk=>by rw[getD_set_ne _ _ ω];exact hz H7 k hk)
     (λh=>by
      obtain⟨Xj,X4⟩:=hpz ω
      refine⟨ω,ω,λk hk=> ?_⟩
      rw[getD_set_ne _ _ ω];exact hz H7 k ω)
    refine⟨xE,h1,h2,by rw[h3,bM],?_,h5⟩
    rw[h4,Om _ _ _ ω,hx,ha',kS b j,fg,lH ai,hpe,Int.pow_add,Ar]
    have e1:ai*(4294967296*c6 (b.drop (j+1)))=4294967296*(ai*c6 (b.drop (j+1))):=Int.mul_left_comm _ _ _
    rw[e1]
    generalize ai*c6 (b.drop (j+1))=y
    generalize (4294967296:Int)^i=P
    generalize (4294967296:Int)^j=R
    rw[gg R,gg P,Int.add_assoc,←lH,←lH]
    congr 3
    omega
   by_cases h1:j<b.length
   ·simp (disch:=omega) only[aQ,ak];exact step
   ·have:0<c:=ω
    simp (disch:=omega) only[aQ,aP,ak,av];exact step
theorem Dv(N:Nat)(hN:4000000≤N){a b:List Int}(na nb:Bool)(z:aJ)(ha:VD a)(hb:VD b)(zu:a.length≤100000)(Rq:b.length≤100000):
  ∀(m n i:Nat) (out:List Int),a.length-i≤m→m<n→i≤a.length→VD out→out.length=a.length+b.length+1→(∀k,i+b.length≤k→out.getD k 0=0)→c6 out=c6 (a.take i)*c6 b→
  jE.l3 N n (na,(a,())) (nb,(b,())) z out (i:Int)=some (di (if na=nb then c6 a*c6 b else-(c6 a*c6 b)))
 |m,0,i,out,_,hn,_,_,_,_,_=>ω
 |m,n+1,i,out,hm,hn,hi,ho,Cc,hz,hv=>by
  unfold jE.l3 jE.ob
  by_cases h1:i<a.length
  ·simp only
   rw[aQ ω,ak]
   obtain⟨xE,e1,e2,e3,e4,e5⟩:=Du N (jE.l3 N n) na nb z ha hb i h1 zu Rq (b.length+1) N 0 out 0 ω ω ho Cc ω ω (λ_ k hk=>hz k hk) (λh=>ω)
   rw[show((0:Nat):Int)=0 from rfl]at e1
   rw[e1]
   refine Dv N hN na nb z ha hb zu Rq (m-1) n (i+1) xE ω ω ω e2 (by rw[e3];exact Cc) (λk hk=>e5 k ω) ?_
   rw[e4,hv,ig a h1,rm,cc,iB ω,c0,Int.pow_zero,uD,iG,js,gg]
  ·simp only
   rw[aP ω,av]
   simp only[pe N _ ho ω ω,ar]
   rw[hv,jK ω,nJ]
   congr 2
   cases na<;>cases nb<;>simp
theorem uX(N:Nat)(hN:4000000≤N){u v:Int}(hu:Fit u 90000)(hv:Fit v 90000):jE N (di u) (di v)=some (di (u*v)):=by
 have lu:=hu.len
 have lv:=hv.len
 unfold jE jE.b
 simp only[di]
 simp (disch:=omega) only[aQ,aP,dY,dL,dF,dG,aS,bP,cD,dD,aw,cz,ak,av,bp,cX,ar,aG,dq,af,aM,aK,bM,cQ,aR,ck]
 have e:(((lD u.natAbs).length:Int)+((lD v.natAbs).length:Int)+1).toNat=(lD u.natAbs).length+(lD v.natAbs).length+1:=ω
 have:=Dv N hN (decide (u<0)) (decide (v<0)) (false,([],())) (jC u.natAbs) (jC v.natAbs) ω ω (lD u.natAbs).length N 0 (List.replicate ((lD u.natAbs).length+(lD v.natAbs).length+1) 0) ω ω ω (VD.aiy _) (by simp)
  (λk _=>by rw[aU,Fc];split<;>rfl) (by
   have: ∀n,c6 (List.replicate n 0)=0:=λn=>by
    induction n with
    |zero=>rfl
    |succ n ih=>rw[Ac,c6,ih];rfl
   rw[this];simp[c6])
 rw[gJ,gJ]at this
 have e2:(((lD u.natAbs).length+(lD v.natAbs).length:Nat):Int)+1=(lD u.natAbs).length+(lD v.natAbs).length+1:=ω
 first
 |(rw[e];refine this.trans ?_)
 |(refine(this).trans ?_)
 show some (di _)=some (di _)
 congr 2
 have key:(u.natAbs:Int)*v.natAbs=if decide (u<0)=decide (v<0)then u*v else-(u*v):=by
  by_cases h1:u<0<;>by_cases h2:v<0
  ·rw[ah (by simp[h1,h2]),show(u.natAbs:Int)= -u from by omega,show(v.natAbs:Int)= -v from by omega,Int.neg_mul_neg]
  ·rw[aj (by simp[h1,h2]),show(u.natAbs:Int)= -u from by omega,show(v.natAbs:Int)=v from by omega,Int.neg_mul]
  ·rw[aj (by simp[h1,h2]),show(u.natAbs:Int)=u from by omega,show(v.natAbs:Int)= -v from by omega,rN]
  ·rw[ah (by simp[h1,h2]),show(u.natAbs:Int)=u from by omega,show(v.natAbs:Int)=v from by omega]
 rw[key]
 split<;>simp
end VM
end
