/- A part of the proof of LotAll of layer 23: what the functions compute, in plain words. -/
import Derived.Test.YthnjnpjmbabcaaaGreatVm0
import GoSem.Claim
import Derived.Test.YthnjnpjmbabcaaaGreatText
set_option linter.all false
section
namespace VM
open Go
variable(N:Nat)
theorem iD(x:Int):W .u64 x=x%18446744073709551616:=by rw[vj];simp[IntKind.wrap,IntKind.bits,IntKind.signed]
theorem bh{x:Int}(h0:0≤x)(h1:x<18446744073709551616):W .u64 x=x:=by rw[iD];omega
theorem ej(x:Int):W .i64 x=if 9223372036854775808≤x%18446744073709551616 then x%18446744073709551616-18446744073709551616 else x%18446744073709551616:=by
 rw[vj];simp[IntKind.wrap,IntKind.bits,IntKind.signed]
theorem ax{x:Int}(h0: -9223372036854775808≤x)(h1:x<9223372036854775808):W .i64 x=x:=by
 rw[ej];split<;>omega
theorem T2{x:Int}(h0:0≤x)(h1:x<256):W .u8 x=x:=by rw[vj];simp[IntKind.wrap,IntKind.bits,IntKind.signed];omega
theorem wf_i64{x:Int}:(Lit.int .i64 x).wf=true↔ -9223372036854775808≤x∧x≤9223372036854775807:=by simp[Lit.wf,IntKind.min,IntKind.max,IntKind.bits,IntKind.signed]
theorem au{x y:Int}(h:x<y):aX x y=true:=by rw[nA];exact bn h
theorem aq{x y:Int}(h:y≤x):aX x y=false:=by rw[nA];exact bm ω
theorem cq{x y:Int}(h:x≤y):c4 x y=true:=by rw[kV];exact bn h
theorem cf{x y:Int}(h:y<x):c4 x y=false:=by rw[kV];exact bm ω
theorem bD{x y:Int}(h:x=y):bq x y=true:=by rw[eD];exact bn h
theorem bI{x y:Int}(h:x≠y):bq x y=false:=by rw[eD];exact bm h
theorem aB{i:Int}{n:Nat}(h0:0≤i)(h1:i<n):bB i n=true:=by rw[HN];exact bn ⟨h0,h1⟩
theorem bp{n:Nat}(h:n<68719476736):small n=true:=by rw[wT];exact bn (by simpa [sh]using h)
theorem bw{l c:Int}(h0:0≤l)(h1:l≤c)(h2:c<68719476736):gh l c=true:=by rw[ti];exact bn (by simp only[sh];omega)
theorem bS{l h m n:Int}(h0:0≤l)(h1:l≤h)(h2:h≤m)(h3:m≤n):kf l h m n=true:=by rw[pa];exact bn ⟨h0,h1,h2,h3⟩
theorem an(n:Nat):(n:Int)+1=((n+1:Nat):Int):=rfl
theorem my(x:Int)(h0:0≤x)(h1:x<18446744073709551616):(BitVec.ofInt 64 x).toNat=x.toNat:=by
 rw[BitVec.toNat_ofInt];congr 1;omega
theorem Cv{x y:Int}(hx:0≤x)(Am:x<18446744073709551616)(hy:0≤y)(NP:y<18446744073709551616):hZ .and .u64 x y=((x.toNat&&& y.toNat:Nat):Int):=by
 rw[nB]
 have h:((BitVec.ofInt 64 x&&& BitVec.ofInt 64 y).toNat)=x.toNat&&& y.toNat:=by rw[BitVec.toNat_and,my x hx Am,my y hy NP]
 show IntKind.u64.wrap (((BitVec.ofInt 64 x&&& BitVec.ofInt 64 y).toNat:Nat):Int)=_
 rw[h,←vj]
 have:x.toNat&&& y.toNat≤x.toNat:=Nat.and_le_left
 exact bh ω ω
theorem Az{x y:Int}(hx:0≤x)(Am:x<18446744073709551616)(hy:0≤y)(NP:y<18446744073709551616):hZ .or .u64 x y=((x.toNat|||y.toNat:Nat):Int):=by
 rw[nB]
 have h:((BitVec.ofInt 64 x|||BitVec.ofInt 64 y).toNat)=x.toNat|||y.toNat:=by rw[BitVec.toNat_or,my x hx Am,my y hy NP]
 show IntKind.u64.wrap (((BitVec.ofInt 64 x|||BitVec.ofInt 64 y).toNat:Nat):Int)=_
 rw[h,←vj]
 have:x.toNat|||y.toNat<2^64:=Nat.or_lt_two_pow ω ω
 exact bh ω ω
theorem fF{x:Int}(h0:0≤x)(h1:x<18446744073709551616):hZ .and .u64 x 4294967295=x%4294967296:=by
 rw[Cv h0 h1 ω ω]
 have:=Bn x.toNat 32
 rw[show((4294967295:Int).toNat)=2^32-1 from rfl,this]
 omega
theorem qa{x y:Int}(h0:0≤y)(h1:y≤64):shr .u64 x y=x/2^y.toNat:=by
 rw[D2]
 have:min y.toNat IntKind.u64.bits=y.toNat:=by simp[IntKind.bits];omega
 rw[this,Bo]
 exact_mod_cast fk _
theorem xH(x:Int):shr .u64 x 32=x/4294967296:=by rw[qa ω ω];rfl
theorem Yc(x:Int):shr .u64 x 1=x/2:=by rw[qa ω ω];rfl
theorem lq{x:Int}(h0: -9223372036854775808≤x)(h1:x<9223372036854775808):shr .i64 x 63=if x<0 then-1 else 0:=by
 rw[D2]
 have:(2:Int)^(min (63:Int).toNat IntKind.i64.bits)=9223372036854775808:=by rfl
 rw[this,Bo _ ω]
 split<;>omega
theorem Fp{x y:Int}(h0:0≤y)(h1:y≤64):shl .u64 x y=x*2^y.toNat:=by
 rw[HQ]
 have:min y.toNat IntKind.u64.bits=y.toNat:=by simp[IntKind.bits];omega
 rw[this]
theorem mul_lt{a b m n:Int}(ha:0≤a)(hb:0≤b)(ham:a≤m)(Sg:b≤n):0≤a*b∧a*b≤m*n:=
 ⟨jt ha hb,o6 (ny ham hb) (ko Sg ω)⟩
end VM
end
section
namespace VM
open Go VM.F
variable(N:Nat)
theorem GV(a b:Int):a*b=(a/4294967296)*(b/4294967296)*18446744073709551616+((a/4294967296)*(b%4294967296)+(a%4294967296)*(b/4294967296))*4294967296+(a%4294967296)*(b%4294967296):=by
 have ha:a=(a/4294967296)*4294967296+a%4294967296:=ω
 have hb:b=(b/4294967296)*4294967296+b%4294967296:=ω
 generalize a/4294967296=a1 at*
 generalize a%4294967296=a0 at*
 generalize b/4294967296=b1 at*
 generalize b%4294967296=b0 at*
 subst ha;subst hb
 simp only[gu,eG]
 have e1:a1*4294967296*(b1*4294967296)=a1*b1*18446744073709551616:=by
  rw[dw,Int.mul_left_comm 4294967296,←dw];rfl
 have e2:a1*4294967296*b0=a1*b0*4294967296:=by rw[dw,cO 4294967296,←dw]
 have e3:a0*(b1*4294967296)=a0*b1*4294967296:=by rw[←dw]
 rw[e1,e2,e3];omega
theorem Cw{a b:Int}(ha:0≤a)(Sv:a<18446744073709551616)(hb:0≤b)(cg:b<18446744073709551616):
  Ji N a b=some (a*b/18446744073709551616,a*b%18446744073709551616):=by
 unfold Ji
 have hm:=GV a b
 have h1:=mul_lt (m:=4294967295) (n:=4294967295) (show 0≤a/4294967296 by omega) (show 0≤b/4294967296 by omega) ω ω
 have h2:=mul_lt (m:=4294967295) (n:=4294967295) (show 0≤a/4294967296 by omega) (show 0≤b%4294967296 by omega) ω ω
 have h3:=mul_lt (m:=4294967295) (n:=4294967295) (show 0≤a%4294967296 by omega) (show 0≤b/4294967296 by omega) ω ω
 have h4:=mul_lt (m:=4294967295) (n:=4294967295) (show 0≤a%4294967296 by omega) (show 0≤b%4294967296 by omega) ω ω
 simp only[aq (show(0:Int)≤32 by omega),ah,fF ha Sv,fF hb cg,xH]
 generalize a/4294967296=a1 at*
 generalize a%4294967296=a0 at*
 generalize b/4294967296=b1 at*
 generalize b%4294967296=b0 at*
 generalize a*b=ab at*
 generalize a1*b1=p at*
 generalize a1*b0=q at*
 generalize a0*b1=r at*
 generalize a0*b0=s at*
 rw[bh (x:=q) ω ω,bh (x:=s) ω ω,bh (x:=r) ω ω,bh (x:=p) ω ω,bh (x:=q+s/4294967296) ω ω,
  fF ω ω,bh (x:=(q+s/4294967296)%4294967296+r) ω ω,bh (x:=p+(q+s/4294967296)/4294967296) ω ω,bh (x:=p+(q+s/4294967296)/4294967296+_) ω ω,iD]
 congr 2
 omega
theorem AA(n:Int)(h0:0<n)(h1:n<1048576):LD N 1 n=some (0,n):=by
 unfold LD
 simp only[ah,Cw N (show(0:Int)≤1 by omega) ω (show 0≤n by omega) ω,al]
 congr 2<;>omega
theorem sS{x:Int}(h0: -9223372036854775808≤x)(h1:x<9223372036854775808):NQ N x=some (x.natAbs:Int):=by
 unfold NQ
 by_cases h:x<0
 ·rw[au h,aa,iD,iD];congr 1;omega
 ·rw[aq ω,ah,iD];congr 1;omega
theorem nn{x y c:Int}(hx:0≤x)(hy:0≤y)(hc:0≤c)(rq:c≤1):mh N x y c=some ((x+y+c)%18446744073709551616,(x+y+c)/18446744073709551616):=by
 unfold mh;rw[ae ⟨hx,hy,hc,rq⟩]
theorem jH{x y c:Int}(hx:0≤x)(Am:x<18446744073709551616)(hy:0≤y)(NP:y<18446744073709551616)(hc:0≤c)(rq:c≤1):
  mi N x y c=some ((x-y-c)%18446744073709551616,if x<y+c then 1 else 0):=by
 unfold mi;rw[ae ⟨hx,Am,hy,NP,hc,rq⟩];congr 2;omega
def bitLen(n:Nat):Nat:=if n=0 then 0 else bitLen (n/2)+1
termination_by n
decreasing_by omega
theorem lr{n:Nat}(h:n≠0):bitLen n=bitLen (n/2)+1:=by rw[bitLen];simp[h]
theorem pG:bitLen 0=0:=by rw[bitLen];rfl
theorem bitLen_shift(k:Nat): ∀n,2^k≤n→bitLen n=bitLen (n/2^k)+k:=by
 induction k with
 |zero=>intro n _;simp
 |succ k ih=>
  intro n h
  have hp:0<2^k:=Nat.pow_pos δ
  rw[jx]at h
  rw[lr ω,ih (n/2) ω,Nat.div_div_eq_div_mul,jx,sb 2];omega
theorem bitLen_spec(n:Nat):n<2^bitLen n∧(n≠0→2^(bitLen n-1)≤n):=by
 induction n using Nat.strongRecOn with
 |_ n ih=>
  by_cases h:n=0
  ·subst h;rw[pG];simp
  ·rw[lr h]
   obtain⟨h1,h2⟩:=ih (n/2) ω
   refine⟨by rw[jx];omega,λ_=> ?_⟩
   rw[Nat.add_sub_cancel]
   by_cases h3:n/2=0
   ·rw[h3,pG];simp;omega
   ·have:=h2 h3
    have e:bitLen (n/2)=(bitLen (n/2)-1)+1:=by rw[lr h3];omega
    rw[e,jx];omega
theorem LF: ∀i:Fin 256,((strOf [0,1,2,2,3,3,3,3,4,4,4,4,4,4,4,4,5,5,5,5,5,5,5,5,5,5,5,5,5,5,5,5,6,6,6,6,6,6,6,6,6,6,6,6,6,6,6,6,6,6,6,6,6,6,6,6,6,6,6,6,6,6,6,6,7,7,7,7,7,7,7,7,7,7,7,7,7,7,7,7,7,7,7,7,7,7,7,7,7,7,7,7,7,7,7,7,7,7,7,7,7,7,7,7,7,7,7,7,7,7,7,7,7,7,7,7,7,7,7,7,7,7,7,7,7,7,7,7,8,8,8,8,8,8,8,8,8,8,8,8,8,8,8,8,8,8,8,8,8,8,8,8,8,8,8,8,8,8,8,8,8,8,8,8,8,8,8,8,8,8,8,8,8,8,8,8,8,8,8,8,8,8,8,8,8,8,8,8,8,8,8,8,8,8,8,8,8,8,8,8,8,8,8,8,8,8,8,8,8,8,8,8,8,8,8,8,8,8,8,8,8,8,8,8,8,8,8,8,8,8,8,8,8,8,8,8,8,8,8,8,8,8,8,8,8,8,8,8,8,8,8,8,8,8,8,8]).data.getD i.val 0).toNat=Nat.log2 (2*i.val+1):=by decide+kernel
theorem uO(n:Nat):Nat.log2 (2*n+1)=bitLen n:=by
 induction n using Nat.strongRecOn with
 |_ n ih=>
  by_cases h:n=0
  ·subst h;rw[pG];decide
  ·rw[lr h,wR,ae ω,show(2*n+1)/2=n from by omega]
   congr 1
   have:=ih (n/2) ω
   rw[←this]
   by_cases h2:n%2=0
   ·rw[wR,wR (n:=2*(n/2)+1)]
    have e1:(2*(n/2)+1)/2=n/2:=ω
    rw[ae ω,ae ω,e1]
   ·congr 1;omega
theorem Cx(i:Nat)(h:i<256):((strOf [0,1,2,2,3,3,3,3,4,4,4,4,4,4,4,4,5,5,5,5,5,5,5,5,5,5,5,5,5,5,5,5,6,6,6,6,6,6,6,6,6,6,6,6,6,6,6,6,6,6,6,6,6,6,6,6,6,6,6,6,6,6,6,6,7,7,7,7,7,7,7,7,7,7,7,7,7,7,7,7,7,7,7,7,7,7,7,7,7,7,7,7,7,7,7,7,7,7,7,7,7,7,7,7,7,7,7,7,7,7,7,7,7,7,7,7,7,7,7,7,7,7,7,7,7,7,7,7,8,8,8,8,8,8,8,8,8,8,8,8,8,8,8,8,8,8,8,8,8,8,8,8,8,8,8,8,8,8,8,8,8,8,8,8,8,8,8,8,8,8,8,8,8,8,8,8,8,8,8,8,8,8,8,8,8,8,8,8,8,8,8,8,8,8,8,8,8,8,8,8,8,8,8,8,8,8,8,8,8,8,8,8,8,8,8,8,8,8,8,8,8,8,8,8,8,8,8,8,8,8,8,8,8,8,8,8,8,8,8,8,8,8,8,8,8,8,8,8,8,8,8,8,8,8,8,8]).data.getD i 0).toNat=bitLen i:=by
 rw[←uO];exact LF ⟨i,h⟩
theorem Cy:ByteArray.size (strOf [0,1,2,2,3,3,3,3,4,4,4,4,4,4,4,4,5,5,5,5,5,5,5,5,5,5,5,5,5,5,5,5,6,6,6,6,6,6,6,6,6,6,6,6,6,6,6,6,6,6,6,6,6,6,6,6,6,6,6,6,6,6,6,6,7,7,7,7,7,7,7,7,7,7,7,7,7,7,7,7,7,7,7,7,7,7,7,7,7,7,7,7,7,7,7,7,7,7,7,7,7,7,7,7,7,7,7,7,7,7,7,7,7,7,7,7,7,7,7,7,7,7,7,7,7,7,7,7,8,8,8,8,8,8,8,8,8,8,8,8,8,8,8,8,8,8,8,8,8,8,8,8,8,8,8,8,8,8,8,8,8,8,8,8,8,8,8,8,8,8,8,8,8,8,8,8,8,8,8,8,8,8,8,8,8,8,8,8,8,8,8,8,8,8,8,8,8,8,8,8,8,8,8,8,8,8,8,8,8,8,8,8,8,8,8,8,8,8,8,8,8,8,8,8,8,8,8,8,8,8,8,8,8,8,8,8,8,8,8,8,8,8,8,8,8,8,8,8,8,8,8,8,8,8,8,8])=256:=by decide+kernel
set_option maxRecDepth 100000 in
theorem Fq{x c:Int}(h0:0≤x)(h1:x<65536)(hc:0≤c)(rq:c≤100):ib.j7 N x c=some (c+bitLen x.toNat):=by
 unfold ib.j7 ib.Jj
 have h8:shr .u64 x 8=x/256:=by rw[qa ω ω];rfl
 have hle: ∀n,n<256→bitLen n≤8:=λn hn=>by
  rw[←uO]
  have:Nat.log2 (2*n+1)<9:=(Nat.log2_lt ω).2 ω
  omega
 by_cases h:256≤x
 ·have ht:=Cx (x/256).toNat ω
  have hl:=hle (x/256).toNat ω
  rw[cq h,aa,aq (show(0:Int)≤8 by omega),ah,h8]
  rw[T2 (x:=x/256) ω ω]
  extract_lets v8
  rw[Cy,aB ω ω,aa,ht]
  clear ht
  simp (disch:=omega) only[au,aq,cq,cf,bD,bI,aB,bp,bw,bS,ax,bh,aa,ah,aS,bx,al,ar,bP,an,aO,a6,aT,a5,aG,bM]
  have:=bitLen_shift 8 x.toNat ω
  rw[this]
  have e:(x/256).toNat=x.toNat/2^8:=ω
  rw[e];congr 1;omega
 ·have ht:=Cx x.toNat ω
  have hl:=hle x.toNat ω
  rw[cf ω,ah,T2 (x:=x) ω ω]
  extract_lets v8
  rw[Cy,aB ω ω,aa,ht]
  clear ht
  simp (disch:=omega) only[au,aq,cq,cf,bD,bI,aB,bp,bw,bS,ax,bh,aa,ah,aS,bx,al,ar,bP,an,aO,a6,aT,a5,aG,bM]
theorem Jk{x:Int}(h0:0≤x)(h1:x<18446744073709551616):ib N x=some (bitLen x.toNat:Int):=by
 have h16: ∀y c:Int,0≤y→y<4294967296→0≤c→c≤50→ib.j4 N y c=some (c+bitLen y.toNat):=λy c hy0 NP hc rq=>by
  unfold ib.j4 ib.Yd
  by_cases h:65536≤y
  ·have e:shr .u64 y 16=y/65536:=by rw[qa ω ω];rfl
   rw[cq h,aa,aq ω,ah,e,ax ω ω,Fq N ω ω ω ω]
   have:=bitLen_shift 16 y.toNat ω
   rw[this]
   have e:(y/65536).toNat=y.toNat/2^16:=ω
   rw[e];congr 1;omega
  ·rw[cf ω,ah,Fq N hy0 ω hc ω]
 unfold ib ib.b
 by_cases h:4294967296≤x
 ·rw[cq h,aa,aq ω,ah,xH,h16 _ _ ω ω ω ω]
  have:=bitLen_shift 32 x.toNat ω
  rw[this]
  have e:(x/4294967296).toNat=x.toNat/2^32:=ω
  rw[e];congr 1;omega
 ·rw[cf ω,ah,h16 _ _ h0 ω ω ω]
  congr 1;omega
end VM
end
section
namespace VM
open Go VM.F
variable(N:Nat)
structure jI(Y yn1 yn0 un32 un1 q rh:Int):Prop where
 hY:Y=yn1*4294967296+yn0
 y1:2147483648≤yn1
 T3:yn1<4294967296
 y0:0≤yn0
 Sw:yn0<4294967296
 u1:0≤un1
 Sx:un1<4294967296
 lt:un32<Y
 q0:0≤q
 eq:q*yn1+rh=un32
 r0:0≤rh
 q1:q≤4294967297
 ge:(un32*4294967296+un1)/Y≤q
theorem jI.prod{Y yn1 yn0 un32 un1 q rh:Int}(g:jI Y yn1 yn0 un32 un1 q rh):q*Y=(un32-rh)*4294967296+q*yn0∧0≤q*yn0∧q*yn0≤18446744073709551615:=by
 have h:=mul_lt (m:=4294967297) (n:=4294967295) g.q0 g.y0 g.q1 (by have:=g.Sw;omega)
 refine⟨?_,h.1,ω⟩
 rw[g.hY,eG,←dw,show q*yn1=un32-rh from by have:=g.eq;omega]
theorem jI.pos{Y yn1 yn0 un32 un1 q rh:Int}(g:jI Y yn1 yn0 un32 un1 q rh):0<Y:=by have:=g.hY;have:=g.y1;have:=g.y0;omega
theorem jI.digit{Y yn1 yn0 un32 un1 q rh:Int}(g:jI Y yn1 yn0 un32 un1 q rh)(h:0≤un32):0≤(un32*4294967296+un1)/Y∧(un32*4294967296+un1)/Y<4294967296:=by
 have hp:=g.pos
 have:=g.u1;have:=g.Sx;have:=g.lt
 refine⟨gM ω ω,?_⟩
 rw[pT hp];omega
theorem jI.done{Y yn1 yn0 un32 un1 q rh:Int}(g:jI Y yn1 yn0 un32 un1 q rh)(h:q*yn0≤4294967296*rh+un1):q=(un32*4294967296+un1)/Y:=by
 have hp:=g.pos
 have h1:=g.prod.1
 have h2:q≤(un32*4294967296+un1)/Y:=by
  rw[Int.le_ediv_iff_mul_le hp];omega
 have:=g.ge
 omega
theorem jI.next{Y yn1 yn0 un32 un1 q rh:Int}(g:jI Y yn1 yn0 un32 un1 q rh)(hu:0≤un32)(h:4294967296≤q∨4294967296*rh+un1<q*yn0):jI Y yn1 yn0 un32 un1 (q-1) (rh+yn1)∧1≤q:=by
 have hp:=g.pos
 have h1:=g.prod.1
 have hd:=g.digit hu
 have c6:(un32*4294967296+un1)/Y<q:=by
  rcases h with h|h
  ·omega
  ·rw[pT hp];omega
 have:=g.q1;have:=g.r0;have:=g.y1
 exact⟨⟨g.hY,g.y1,g.T3,g.y0,g.Sw,g.u1,g.Sx,g.lt,ω,by rw[Int.sub_mul,jz];have:=g.eq;omega,ω,ω,ω⟩,ω⟩
theorem Fs(N:Nat){Y s yn1 yn0 un32 un1 T4:Int}(hu:0≤un32)(vT:un32<18446744073709551616): ∀(m n:Nat) (q rh:Int),jI Y yn1 yn0 un32 un1 q rh→rh<4294967296→4294967296-rh≤2147483648*m→m<n→
  cv.Cz N n Y s yn1 yn0 un32 un1 T4 q rh=cv.NR N Y s yn1 yn0 un32 un1 T4 ((un32*4294967296+un1)/Y)
 |m,0,q,rh,_,_,_,hn=>ω
 |m,n+1,q,rh,g,hr,hm,hn=>by
  unfold cv.Cz cv.CA
  have Xk:=g.prod
  have hd:=g.digit hu
  obtain⟨hY,y1,T3,y0,Sw,u1,Sx,lt,q0,eq,r0,q1,ge⟩:=id g
  have go:(4294967296≤q∨4294967296*rh+un1<q*yn0)→
    (cond (c4 (4294967296:Int) (W .u64 (rh+yn1))) (cv.NR N Y s yn1 yn0 un32 un1 T4 (W .u64 (q-1))) (cv.Cz N n Y s yn1 yn0 un32 un1 T4 (W .u64 (q-1)) (W .u64 (rh+yn1))))=cv.NR N Y s yn1 yn0 un32 un1 T4 ((un32*4294967296+un1)/Y):=λh=>by
   obtain⟨g',hq⟩:=g.next hu h
   rw[bh (x:=rh+yn1) ω ω,bh (x:=q-1) ω ω]
   by_cases hb:4294967296≤rh+yn1
   ·rw[cq hb,aa]
    have yF:=g'.prod
    rw[g'.done ω]
   ·rw[cf ω,ah]
    exact Fs N hu vT (m-1) n (q-1) (rh+yn1) g' ω ω ω
  by_cases h1:4294967296≤q
  ·rw[cq h1,aa]
   exact go (.inl h1)
  ·rw[cf ω,ah,bh (x:=4294967296*rh) ω ω,bh (x:=4294967296*rh+un1) ω ω,bh (x:=q*yn0) ω ω]
   by_cases h2:4294967296*rh+un1<q*yn0
   ·rw[au h2,aa]
    exact go (.inr h2)
   ·rw[aq ω,ah,g.done ω]
theorem Ft(N:Nat){Y s yn1 yn0 un32 un1 a b:Int}(hu:0≤un32)(vT:un32<18446744073709551616): ∀(m n:Nat) (q rh:Int),jI Y yn1 yn0 un32 un1 q rh→rh<4294967296→4294967296-rh≤2147483648*m→m<n→
  cv.AB N n Y s yn1 yn0 un1 a rh un32 q=cv.NS N Y s un1 a un32 ((un32*4294967296+un1)/Y)
 |m,0,q,rh,_,_,_,hn=>ω
 |m,n+1,q,rh,g,hr,hm,hn=>by
  unfold cv.AB cv.CB
  have Xk:=g.prod
  have hd:=g.digit hu
  obtain⟨hY,y1,T3,y0,Sw,u1,Sx,lt,q0,eq,r0,q1,ge⟩:=id g
  have go:(4294967296≤q∨4294967296*rh+un1<q*yn0)→
    (cond (c4 (4294967296:Int) (W .u64 (rh+yn1))) (cv.NS N Y s un1 a un32 (W .u64 (q-1))) (cv.AB N n Y s yn1 yn0 un1 a (W .u64 (rh+yn1)) un32 (W .u64 (q-1))))=cv.NS N Y s un1 a un32 ((un32*4294967296+un1)/Y):=λh=>by
   obtain⟨g',hq⟩:=g.next hu h
   rw[bh (x:=rh+yn1) ω ω,bh (x:=q-1) ω ω]
   by_cases hb:4294967296≤rh+yn1
   ·rw[cq hb,aa]
    have yF:=g'.prod
    rw[g'.done ω]
   ·rw[cf ω,ah]
    exact Ft N (b:=b) hu vT (m-1) n (q-1) (rh+yn1) g' ω ω ω
  by_cases h1:4294967296≤q
  ·rw[cq h1,aa]
   exact go (.inl h1)
  ·rw[cf ω,ah,bh (x:=4294967296*rh) ω ω,bh (x:=4294967296*rh+un1) ω ω,bh (x:=q*yn0) ω ω]
   by_cases h2:4294967296*rh+un1<q*yn0
   ·rw[au h2,aa]
    exact go (.inr h2)
   ·rw[aq ω,ah,g.done ω]
theorem jI.first{Y yn1 yn0 un32 un1:Int}(hY:Y=yn1*4294967296+yn0)(y1:2147483648≤yn1)(T3:yn1<4294967296)(y0:0≤yn0)(Sw:yn0<4294967296)(u1:0≤un1)(Sx:un1<4294967296)(hu:0≤un32)(lt:un32<Y):
  jI Y yn1 yn0 un32 un1 (un32/yn1) (un32-un32/yn1*yn1)∧un32-un32/yn1*yn1<4294967296∧0≤un32/yn1*yn1∧un32/yn1*yn1≤un32:=by
 have h1:=nz un32 yn1
 have h2:=me un32 (show 0<yn1 by omega)
 have h3:=kP un32 (show yn1≠0 by omega)
 have qF:0≤un32/yn1:=gM hu ω
 rw[cO]at h1
 have NF:un32/yn1≤4294967297:=by
  have:un32/yn1<4294967298:=by rw[pT ω];omega
  omega
 have Ld:(un32*4294967296+un1)/Y≤un32/yn1:=by
  have c6:un32*4294967296+un1<(un32/yn1+1)*Y:=by
   have e:un32+1≤(un32/yn1+1)*yn1:=by rw[gu,jz];omega
   have e2:(un32/yn1+1)*Y=(un32/yn1+1)*yn1*4294967296+(un32/yn1+1)*yn0:=by rw[hY,eG,dw]
   have e3:0≤(un32/yn1+1)*yn0:=jt ω y0
   omega
  have:(un32*4294967296+un1)/Y<un32/yn1+1:=by rw[pT ω];exact c6
  omega
 exact⟨⟨hY,y1,T3,y0,Sw,u1,Sx,lt,qF,ω,ω,NF,Ld⟩,ω,jt qF ω,ω⟩
theorem Jl{a b:Int}{k:Nat}(ha:0≤a)(Sv:a<2^k)(hb:0≤b)(h:b*2^k<18446744073709551616)(hk:k<64):hZ .or .u64 (b*2^k) a=b*2^k+a:=by
 have hp:(0:Int)<2^k:=Int.pow_pos δ
 have Bc:((2^k:Nat):Int)=2^k:=by rw[Int.natCast_pow];rfl
 have ada:(2:Int)^k≤2^63:=by
  rw[←Bc,show(2:Int)^63=((2^63:Nat):Int)from by decide]
  exact_mod_cast wA δ ω
 have aaJ:(2:Int)^63=9223372036854775808:=δ
 have nI:=jt hb (kT hp)
 rw[Az nI h ha ω]
 have h1:=wq (i:=k) (b:=a.toNat) (by
  have:((a.toNat:Nat):Int)<((2^k:Nat):Int):=by rw[Bc,jg ha];exact Sv
  exact_mod_cast this) b.toNat
 have e:(b*2^k).toNat=2^k*b.toNat:=by
  have:((2^k*b.toNat:Nat):Int)=b*2^k:=by rw[rW,Bc,jg hb,cO]
  omega
 rw[e,←h1,oY,rW,Bc,jg hb,jg ha,cO]
theorem CC(hN:100≤N){hi lo y:Int}(h0:0≤hi)(h1:hi<y)(l0:0≤lo)(l1:lo<18446744073709551616)(y1:y<18446744073709551616):
  cv N hi lo y=some ((hi*18446744073709551616+lo)/y,(hi*18446744073709551616+lo)%y):=by
 unfold cv cv.b
 rw[bI (show y≠0 by omega),ah,cf ω,ah]
 by_cases hz:hi=0
 ·subst hz
  rw[bD rfl,aa,ah,ah,zY,HO,wu l0,Int.tmod_eq_emod_of_nonneg l0]
  have e1:0≤lo/y:=gM l0 ω
  have e2:lo/y≤lo:=Int.ediv_le_self _ l0
  rw[bh ω ω]
  simp
 ·rw[bI hz,ah]
  obtain⟨b1,b2⟩:=bitLen_spec y.toNat
  have b2:=b2 ω
  obtain⟨L,hL⟩: ∃L,L=bitLen y.toNat:=⟨_,rfl⟩
  rw[←hL]at b1 b2
  have hL1:1≤L:=by rw[hL,lr ω];omega
  have adb:L≤64:=by
   rcases gq 64 L with h|h
   ·have h3:2^64≤2^(L-1):=wA δ ω
    have:(2:Nat)^64=18446744073709551616:=δ
    omega
   ·exact h
  have hl:LG N y=some (64-(L:Int)):=by
   unfold LG
   rw[Jk N ω y1,al,←hL,ax ω ω]
  obtain⟨s,hs⟩: ∃s:Nat,s=64-L:=⟨_,rfl⟩
  have hsI:64-(L:Int)=(s:Int):=ω
  rw[hl,al,hsI]
  clear hl
  have Bc: ∀k:Nat,((2^k:Nat):Int)=2^k:=λk=>by rw[Int.natCast_pow];rfl
  obtain⟨p,hp⟩: ∃p:Int,p=2^s:=⟨_,rfl⟩
  obtain⟨p',yF⟩: ∃p':Int,p'=2^(64-s):=⟨_,rfl⟩
  have Aa:p'*p=18446744073709551616:=by
   rw[hp,yF,←Int.pow_add,show 64-s+s=64 from by omega];decide
  have qx:0<p:=by rw[hp];exact Int.pow_pos δ
  have adf:0<p':=by rw[yF];exact Int.pow_pos δ
  have NP:y*p<18446744073709551616:=by
   have h:y.toNat*2^s<2^L*2^s:=Nat.mul_lt_mul_of_pos_right b1 (Nat.pow_pos δ)
   rw[←Nat.pow_add,show L+s=64 from by omega,show(2:Nat)^64=18446744073709551616 from by decide]at h
   have:((y.toNat*2^s:Nat):Int)=y*p:=by rw[rW,Bc,←hp,jg ω]
   omega
  have uP:9223372036854775808≤y*p:=by
   have h:2^(L-1)*2^s≤y.toNat*2^s:=eB _ b2
   rw[←Nat.pow_add,show L-1+s=63 from by omega,show(2:Nat)^63=9223372036854775808 from by decide]at h
   have:((y.toNat*2^s:Nat):Int)=y*p:=by rw[rW,Bc,←hp,jg ω]
   omega
  have Ye: ∀x:Int,shl .u64 x (s:Int)=x*p:=λx=>by rw[Fp ω ω,hp];rfl
  have Yf:shr .u64 lo (64-(s:Int))=lo*p/18446744073709551616:=by
   rw[qa ω ω,show(64-(s:Int)).toNat=64-s from by omega,←yF,←Aa,Int.mul_ediv_mul_of_pos_left _ _ qx]
  have hhp:hi*p+p≤y*p:=by
   have:=ny (show hi+1≤y by omega) (kT qx)
   rw[gu,jz]at this;exact this
  have adh:0≤hi*p:=jt h0 (kT qx)
  have Yg:0≤lo*p:=jt l0 (kT qx)
  have Yh:lo*p<18446744073709551616*p:=Int.mul_lt_mul_of_pos_right l1 qx
  have oP:lo*p/18446744073709551616<p:=by rw[pT ω,cO p];exact Yh
  have ht0:0≤lo*p/18446744073709551616:=gM Yg ω
  have O6:hZ .or .u64 (hi*p) (lo*p/18446744073709551616)=hi*p+lo*p/18446744073709551616:=by
   have:=Jl (k:=s) (a:=lo*p/18446744073709551616) (b:=hi) ht0 (by rw[←hp];exact oP) h0 (by rw[←hp];omega) ω
   rw[←hp]at this;exact this
  obtain⟨Y,hY⟩: ∃Y,Y=y*p:=⟨_,rfl⟩
  have hU:(hi*18446744073709551616+lo)*p=(hi*p+lo*p/18446744073709551616)*18446744073709551616+lo*p%18446744073709551616:=by
   rw[gu,dw,cO 18446744073709551616 p,←dw];omega
  have hws:W .u64 (s:Int)=(s:Int):=bh ω ω
  have Yi:W .u64 (64-(s:Int))=64-(s:Int):=bh ω ω
  have hwl:W .u64 (lo*p)=lo*p%18446744073709551616:=iD _
  simp only[hws,Yi,Ye,Yf,hwl]
  rw[←hY]at NP uP hhp ⊢
  have TM:W .u64 Y=Y:=bh ω ω
  have hwh:W .u64 (hi*p)=hi*p:=bh ω ω
  simp only[TM,hwh,O6]
  obtain⟨u,hu⟩: ∃u,u=hi*p+lo*p/18446744073709551616:=⟨_,rfl⟩
  obtain⟨v,hv⟩: ∃v,v=lo*p%18446744073709551616:=⟨_,rfl⟩
  rw[←hu,←hv]at hU ⊢
  have hv0:0≤v:=ω
  have DU:v<18446744073709551616:=ω
  have WD:0≤u:=ω
  have Eb:u<Y:=ω
  have hmy:hZ .and .u64 Y 4294967295=Y%4294967296:=fF ω ω
  have Wt:hZ .and .u64 v 4294967295=v%4294967296:=fF hv0 DU
  obtain⟨g1,g2,g3,g4⟩:=jI.first (Y:=Y) (yn1:=Y/4294967296) (yn0:=Y%4294967296) (un32:=u) (un1:=v/4294967296) ω ω ω ω ω ω ω WD Eb
  have hq:quo u (Y/4294967296)=u/(Y/4294967296):=by rw[zY,wu WD]
  have T5:W .u64 (u/(Y/4294967296))=u/(Y/4294967296):=bh g1.q0 (by have:=g1.q1;omega)
  have T6:W .u64 (u/(Y/4294967296)*(Y/4294967296))=u/(Y/4294967296)*(Y/4294967296):=bh g3 ω
  have T7:W .u64 (u-u/(Y/4294967296)*(Y/4294967296))=u-u/(Y/4294967296)*(Y/4294967296):=bh ω ω
  rw[aq (show(0:Int)≤s by omega),aq (show(0:Int)≤32 by omega),aq (show(0:Int)≤64-(s:Int)by omega),xH,xH,hmy,Wt,bI (show Y/4294967296≠0 by omega),hq,T5,T6,T7]
  simp only[ah]
  rw[Fs N WD ω 3 N _ _ g1 g2 ω ω]
  have d1:=g1.digit WD
  clear hq T5 T6 T7 g1 g2 g3 g4
  obtain⟨q1,NF⟩: ∃q1,q1=(u*4294967296+v/4294967296)/Y:=⟨_,rfl⟩
  have m1:=nz (u*4294967296+v/4294967296) Y
  have m2:=me (u*4294967296+v/4294967296) (show 0<Y by omega)
  have m3:=kP (u*4294967296+v/4294967296) (show Y≠0 by omega)
  rw[←NF]at d1 m1 ⊢
  obtain⟨r1,HE⟩: ∃r1,r1=(u*4294967296+v/4294967296)%Y:=⟨_,rfl⟩
  rw[←HE]at m1 m2 m3
  rw[cO]at m1
  unfold cv.NR cv.PK
  have Yj:W .u64 (W .u64 (W .u64 (u*4294967296)+v/4294967296)-W .u64 (q1*Y))=r1:=by
   simp only[iD]
   generalize q1*Y=z at*
   omega
  simp only[Yj]
  obtain⟨g1,g2,g3,g4⟩:=jI.first (Y:=Y) (yn1:=Y/4294967296) (yn0:=Y%4294967296) (un32:=r1) (un1:=v%4294967296) ω ω ω ω ω ω ω m3 m2
  have hq:quo r1 (Y/4294967296)=r1/(Y/4294967296):=by rw[zY,wu m3]
  have T5:W .u64 (r1/(Y/4294967296))=r1/(Y/4294967296):=bh g1.q0 (by have:=g1.q1;omega)
  have T6:W .u64 (r1/(Y/4294967296)*(Y/4294967296))=r1/(Y/4294967296)*(Y/4294967296):=bh g3 ω
  have T7:W .u64 (r1-r1/(Y/4294967296)*(Y/4294967296))=r1-r1/(Y/4294967296)*(Y/4294967296):=bh ω ω
  rw[bI (show Y/4294967296≠0 by omega),hq,T5,T6,T7,ah,Ft N (b:=0) m3 ω 3 N _ _ g1 g2 ω ω]
  have d0:=g1.digit m3
  clear hq T5 T6 T7 g1 g2 g3 g4
  obtain⟨q0,qF⟩: ∃q0,q0=(r1*4294967296+v%4294967296)/Y:=⟨_,rfl⟩
  have n1:=nz (r1*4294967296+v%4294967296) Y
  have n2:=me (r1*4294967296+v%4294967296) (show 0<Y by omega)
  have n3:=kP (r1*4294967296+v%4294967296) (show Y≠0 by omega)
  rw[←qF]at d0 n1 ⊢
  obtain⟨r0,E4⟩: ∃r0,r0=(r1*4294967296+v%4294967296)%Y:=⟨_,rfl⟩
  rw[←E4]at n1 n2 n3
  rw[cO]at n1
  unfold cv.NS cv.PL
  have Yk:W .u64 (W .u64 (W .u64 (r1*4294967296)+v%4294967296)-W .u64 (q0*Y))=r0:=by
   simp only[iD]
   generalize q0*Y=z at*
   omega
  rw[aq (show(0:Int)≤s by omega),ah,Yk,bh (x:=q1*4294967296) ω ω,bh (x:=q1*4294967296+q0) ω ω,qa ω ω,ar,←hp]
  obtain⟨V,hV⟩: ∃V,V=hi*18446744073709551616+lo:=⟨_,rfl⟩
  obtain⟨Q,hQ⟩: ∃Q,Q=q1*4294967296+q0:=⟨_,rfl⟩
  rw[←hV]at hU ⊢
  rw[←hQ]
  have hQY:Q*Y=q1*Y*4294967296+q0*Y:=by rw[hQ,gu,dw,cO 4294967296 Y,←dw]
  have adp:V*p=Q*Y+r0:=by rw[hU,hQY];generalize q1*Y=z1 at*;generalize q0*Y=z0 at*;omega
  have T8:r0=(V-Q*y)*p:=by rw[Int.sub_mul,dw,←hY];omega
  have NJ:0≤V-Q*y:=by
   by_cases h:V-Q*y<0
   ·have:=Int.mul_neg_of_neg_of_pos h qx;omega
   ·omega
  have So:V-Q*y<y:=by
   by_cases h:V-Q*y<y
   ·exact h
   ·have:=ny (show y≤V-Q*y by omega) (kT qx);rw[←T8,←hY]at this;omega
  have hVe:V=(V-Q*y)+y*Q:=by rw[cO y Q];omega
  have e1:V/y=Q:=by
   rw[hVe,oR _ _ ω,rK NJ So];omega
  have e2:V%y=V-Q*y:=by
   have:=nz V y
   rw[e1,cO]at this;omega
  rw[e1,e2,T8,Int.mul_ediv_cancel _ ω]
def bC:List Int→Int
 |[]=>0
 |d::r=>d+4294967296*bC r
def VD(l:List Int):Prop:= ∀d∈l,0≤d∧d<4294967296
def gA(n:Nat):List Int:=if n=0 then []else((n%4294967296:Nat):Int)::gA (n/4294967296)
termination_by n
decreasing_by omega
theorem fG:gA 0=[]:=by rw[gA];rfl
theorem qb{n:Nat}(h:n≠0):gA n=((n%4294967296:Nat):Int)::gA (n/4294967296):=by rw[gA];simp[h]
theorem VD.nil:VD []:=λd h=>by cases h
theorem VD.cons{d:Int}{l:List Int}(h0:0≤d)(h1:d<4294967296)(h:VD l):VD (d::l):=λx hx=>by
 rcases bu.1 hx with rfl|hx
 ·exact⟨h0,h1⟩
 ·exact h x hx
theorem VD.tail{d:Int}{l:List Int}(h:VD (d::l)):VD l:=λx hx=>h x (aR _ hx)
theorem VD.drop{l:List Int}(h:VD l)(n:Nat):VD (l.drop n):=λx hx=>h x (wz hx)
theorem VD.take{l:List Int}(h:VD l)(n:Nat):VD (l.take n):=λx hx=>h x (il hx)
theorem VD.getD{l:List Int}(h:VD l)(n:Nat):0≤l.getD n 0∧l.getD n 0<4294967296:=by
 rw[aY]
 cases hn:l[n]? with
 |none=>exact⟨fj _,δ⟩
 |some x=>exact h x (List.mem_of_getElem? hn)
theorem VD.set{l:List Int}(h:VD l)(n:Nat){x:Int}(h0:0≤x)(h1:x<4294967296):VD (l.set n x):=λy hy=>by
 rcases rC hy with hy|rfl
 ·exact h y hy
 ·exact⟨h0,h1⟩
theorem VD.NT(n:Nat):VD (List.replicate n 0):=λx hx=>by rw[rE hx];exact⟨fj _,δ⟩
theorem fH: ∀{l:List Int},VD l→0≤bC l
 |[],_=>fj _
 |d::r,h=>by
  have:=fH h.tail
  have:=(h d (bl ..)).1
  simp only[bC];omega
theorem dN(n:Nat):bC (gA n)=n:=by
 induction n using Nat.strongRecOn with
 |_ n ih=>
  by_cases h:n=0
  ·subst h;rw[fG];rfl
  ·rw[qb h,bC,ih _ ω];omega
theorem fI(n:Nat):VD (gA n):=by
 induction n using Nat.strongRecOn with
 |_ n ih=>
  by_cases h:n=0
  ·subst h;rw[fG];exact VD.nil
  ·rw[qb h];exact VD.cons ω ω (ih _ ω)
theorem sT{n:Nat}:gA n=[]↔n=0:=by
 constructor
 ·intro h
  by_cases hn:n=0
  ·exact hn
  ·rw[qb hn]at h;cases h
 ·rintro rfl;exact fG
theorem qc(k:Nat): ∀n,n<4294967296^k→(gA n).length≤k:=by
 induction k with
 |zero=>
  intro n h;have:n=0:=by simpa using h
  subst this;rw[fG];simp
 |succ k ih=>
  intro n h
  by_cases hn:n=0
  ·subst hn;rw[fG];simp
  ·rw[qb hn,aG]
   have:=ih (n/4294967296) (by rw[BB ω];rw[jx]at h;exact h)
   omega
theorem AD(k:Nat): ∀n,(gA n).length≤k→n<4294967296^k:=by
 induction k with
 |zero=>
  intro n h
  have:gA n=[]:=ij ω
  rw[sT]at this;subst this;decide
 |succ k ih=>
  intro n h
  by_cases hn:n=0
  ·subst hn;exact Nat.pow_pos δ
  ·rw[qb hn,aG]at h
   have:=ih (n/4294967296) ω
   rw[BB ω]at this
   rw[jx];exact this
def strip:List Int→List Int
 |[]=>[]
 |d::r=>if strip r=[]∧d=0 then []else d::strip r
theorem CD: ∀{l:List Int},VD l→strip l=gA (bC l).toNat
 |[],_=>by rw[show(bC []).toNat=0 from rfl,fG];rfl
 |d::r,h=>by
  have ih:=CD h.tail
  have h0:=fH h.tail
  obtain⟨h1,h2⟩:=h d (bl ..)
  simp only[strip,bC,ih,sT]
  split
  ·rename_i hc
   obtain⟨hc,rfl⟩:=hc
   have:bC r=0:=ω
   rw[this];exact fG.symm
  ·rename_i hc
   have eX:(d+4294967296*bC r).toNat≠0:=λhe=>hc ⟨ω,ω⟩
   rw[qb eX]
   congr 1
   ·omega
   ·congr 1;omega
theorem xI: ∀(l:List Int) (x:Int),strip (l++[x])=if x=0 then strip l else l++[x]
 |[],x=>by simp[strip]
 |d::r,x=>by
  simp only[kN,strip,xI r x]
  split
  ·rfl
  ·simp
theorem dq(l:List Int){k:Nat}(h:k<l.length):l.take (k+1)=l.take k++[l.getD k 0]:=by
 rw[List.take_succ_eq_append_getElem h,aY,ba h];rfl
theorem zG(N:Nat)(l:List Int)(hl:l.length<68719476736): ∀(k n:Nat),k≤l.length→k<n→iY.l2 N n l (k:Int)=some (strip (l.take k))
 |0,n+1,_,_=>by
  unfold iY.l2 iY.dV
  simp (disch:=omega) only[au,aq,cq,cf,bD,bI,aB,bp,bw,bS,ax,bh,aa,ah,aS,bx,al,ar,bP,an,aO,a6,aT,a5,aG,bM]
  simp[strip]
 |k+1,n+1,hk,hn=>by
  unfold iY.l2 iY.dV
  have e:((k+1:Nat):Int)-1=(k:Int):=ω
  simp (disch:=omega) only[au,aq,cq,cf,bD,bI,aB,bp,bw,bS,ax,bh,aa,ah,aS,bx,al,ar,bP,an,aO,a6,aT,a5,aG,bM,e]
  have ih:=zG N l hl k n ω ω
  rw[dq l ω,xI]
  by_cases h:l.getD k 0=0
  ·rw[bD h,aa,ih,ae h]
  ·rw[bI h,ah,af h]
   simp only[bP,bX]
theorem AE{l:List Int}(h:VD l)(hN:l.length<N)(hl:l.length<68719476736):iY N l=some (gA (bC l).toNat):=by
 unfold iY iY.b
 rw[zG N l hl l.length N (aH _) hN,fR,CD h]
def bz(v:Int):ay:=(decide (v<0),(gA v.natAbs,()))
theorem mz(neg:Bool){l:List Int}(h:VD l)(hN:l.length<N)(hl:l.length<68719476736):Jm N neg l=some (bz (if neg then-bC l else bC l)):=by
 unfold Jm
 rw[AE N h hN hl,al]
 have h0:=fH h
 cases neg
 ·simp only[ah,bz,dJ,cU]
  rw[bm ω]
  congr 4;omega
 ·simp only[aa,bz,ed]
  have e:(-bC l).natAbs=(bC l).toNat:=ω
  rw[e]
  congr 2
  by_cases hz:bC l=0
  ·rw[hz,bP,fG,aq (by simp),bm ω]
  ·have:0<(gA (bC l).toNat).length:=by
    apply mT.2
    intro hd;rw[sT]at hd;omega
   rw[au ω,bn ω]
theorem size_eq(hN:1000≤N){u:Int}(h0:0≤u)(h1:u<18446744073709551616):T9 N u=some (gA u.toNat):=by
 unfold T9
 rw[fF h0 h1,xH]
 have hv:VD [u%4294967296,u/4294967296]:=VD.cons ω ω (VD.cons ω ω VD.nil)
 simp (disch:=omega) only[au,aq,cq,cf,bD,bI,aB,bp,bw,bS,ax,bh,aa,ah,aS,bx,al,ar,bP,an,aO,a6,aT,a5,aG,bM,AE N hv (by simp;omega) (by simp)]
 congr 2
 simp only[bC];omega
theorem eJ(hN:1000≤N){x:Int}(h0: -9223372036854775808≤x)(h1:x<9223372036854775808):AF N x=some (bz x):=by
 unfold AF
 have hd: ∀n:Nat,n<18446744073709551616→(gA n).length≤2:=λn h=>qc 2 n (by simpa using h)
 by_cases h:x<0
 ·have e:W .u64 (0-W .u64 x)= -x:=by rw[iD,iD];omega
  simp only[au h,aa,e,size_eq N hN (show 0≤ -x by omega) ω,al]
  have:=hd (-x).toNat ω
  rw[mz N true (fI _) ω ω,dN,ae rfl,show-(((-x).toNat:Nat):Int)=x from by omega];rfl
 ·have e:W .u64 x=x:=bh ω ω
  simp only[aq (show 0≤x by omega),ah,e,size_eq N hN (show 0≤x by omega) ω,al]
  have:=hd x.toNat ω
  rw[mz N false (fI _) ω ω,dN,af wC,jg ω];rfl
theorem pH(l:List Int)(i:Nat):LH N l (i:Int)=some (l.getD i 0):=by
 unfold LH
 by_cases h:i<l.length
 ·simp (disch:=omega) only[au,aq,cq,cf,bD,bI,aB,bp,bw,bS,ax,bh,aa,ah,aS,bx,al,ar,bP,an,aO,a6,aT,a5,aG,bM]
 ·simp (disch:=omega) only[au,aq,cq,cf,bD,bI,aB,bp,bw,bS,ax,bh,aa,ah,aS,bx,al,ar,bP,an,aO,a6,aT,a5,aG,bM]
  rw[aY,eU ω];rfl
theorem fY(l:List Int)(i:Nat):bC (l.drop i)=l.getD i 0+4294967296*bC (l.drop (i+1)):=by
 by_cases h:i<l.length
 ·rw[jf h,bC,aY,ba h];rfl
 ·rw[eT ω,eT ω,aY,eU ω];rfl
theorem CE(N:Nat){a b:List Int}(ha:VD a)(hb:VD b)(q5:a.length≤1000000)(DY:b.length≤1000000): ∀(m n i:Nat) (out:List Int) (c:Int),a.length+b.length+2-i≤m→m<n→out.length=i→i≤a.length+b.length+1→0≤c→c≤1→(a.length≤i→b.length≤i→i=max a.length b.length∨c=0)→
  ∃r,oF.l4 N n a b out c (i:Int)=some (out++r)∧VD r∧bC r=bC (a.drop i)+bC (b.drop i)+c∧r.length≤m
 |m,0,i,out,c,_,hn,_,_,_,_,_=>ω
 |m,n+1,i,out,c,hm,hn,ho,hi,F9,rq,hz=>by
  unfold oF.l4 oF.dF
  by_cases CG:a.length≤i∧b.length≤i∧c=0
  ·obtain⟨h1,h2,rfl⟩:=CG
   simp (disch:=omega) only[au,aq,cq,cf,bD,bI,aB,bp,bw,bS,ax,bh,aa,ah,aS,bx,al,ar,bP,an,aO,a6,aT,a5,aG,bM]
   exact⟨[],by simp,VD.nil,by rw[eT h1,eT h2];rfl,fk _⟩
  ·obtain⟨Yl,ga1⟩:=ha.getD i
   obtain⟨Ym,gb1⟩:=hb.getD i
   have step: ∃r,oF.j6 N (oF.l4 N n) a b out c (i:Int)=some (out++r)∧VD r∧bC r=bC (a.drop i)+bC (b.drop i)+c∧r.length≤m:=by
    unfold oF.j6 oF.NU
    have vo:i≤a.length+b.length:=by
     by_cases h1:a.length≤i∧b.length≤i
     ·rcases hz h1.1 h1.2 with h|h
      ·omega
      ·exact absurd ⟨h1.1,h1.2,h⟩ CG
     ·omega
    simp only[pH,al]
    generalize Ua:a.getD i 0=x at*
    generalize Ub:b.getD i 0=y at*
    rw[bh (x:=x+y) ω ω,bh (x:=c+(x+y)) ω ω,fF ω ω,xH]
    simp (disch:=omega) only[au,aq,cq,cf,bD,bI,aB,bp,bw,bS,ax,bh,aa,ah,aS,bx,al,ar,bP,an,aO,a6,aT,a5,aG,bM]
    obtain⟨r,hr,hv,hs,HW⟩:=CE N ha hb q5 DY (m-1) n (i+1) (out++[(c+(x+y))%4294967296]) ((c+(x+y))/4294967296) ω ω (by simp[ho]) ω ω ω (λh1 h2=>by
     by_cases h3:a.length≤i∧b.length≤i
     ·right
      rw[←Ua,←Ub,aY,eU h3.1,aY,eU h3.2]
      simp only[Option.getD_none];omega
     ·left;omega)
    refine⟨(c+(x+y))%4294967296::r,by rw[hr];simp,VD.cons ω ω hv,?_,by rw[aG];omega⟩
    rw[bC,hs,fY a i,fY b i,Ua,Ub];omega
   by_cases h1:i<a.length
   ·simp (disch:=omega) only[au,aa];exact step
   ·by_cases h2:i<b.length
    ·simp (disch:=omega) only[au,aq,aa,ah];exact step
    ·have:0<c:=ω
     simp (disch:=omega) only[au,aq,aa,ah];exact step
theorem Fu: ∀{l:List Int},VD l→bC l<4294967296^l.length
 |[],_=>by simp[bC]
 |d::r,h=>by
  have ih:=Fu h.tail
  obtain⟨h1,h2⟩:=h d (bl ..)
  rw[bC,aG,sd]
  generalize (4294967296:Int)^r.length=p at*
  omega
theorem CH(hN:4000000≤N){a b:List Int}(ha:VD a)(hb:VD b)(q5:a.length≤1000000)(DY:b.length≤1000000): ∃r,oF N a b=some r∧VD r∧bC r=bC a+bC b∧r.length≤2000002:=by
 unfold oF oF.b
 obtain⟨r,hr,hv,hs,hl⟩:=CE N ha hb q5 DY (a.length+b.length+2) N 0 [] 0 ω ω rfl ω ω ω (λ_ _=> .inr rfl)
 exact⟨r,hr,hv,by simpa using hs,ω⟩
theorem xJ(N:Nat){a b:List Int}(ha:VD a)(hb:VD b)(q5:a.length≤1000000): ∀(m n i:Nat) (out:List Int) (c:Int),a.length-i≤m→m<n→out.length=i→i≤a.length→0≤c→c≤1→0≤bC (a.drop i)-bC (b.drop i)-c→
  ∃r,vY.l4 N n a b out c (i:Int)=some (out++r)∧VD r∧bC r=bC (a.drop i)-bC (b.drop i)-c∧r.length≤m
 |m,0,i,out,c,_,hn,_,_,_,_,_=>ω
 |m,n+1,i,out,c,hm,hn,ho,hi,F9,rq,hz=>by
  unfold vY.l4 vY.dF
  by_cases h1:i<a.length
  ·obtain⟨Yl,ga1⟩:=ha.getD i
   obtain⟨Ym,gb1⟩:=hb.getD i
   rw[fY a i,fY b i]at*
   simp only[pH,al,ar]
   generalize Ua:a.getD i 0=x at*
   generalize Ub:b.getD i 0=y at*
   rw[bh (x:=y+c) ω ω,bh (x:=x+4294967296) ω ω]
   by_cases c6:x<y+c
   ·rw[bh (x:=x+4294967296-(y+c)) ω ω]
    simp (disch:=omega) only[au,aq,cq,cf,bD,bI,aB,bp,bw,bS,ax,bh,aa,ah,aS,bx,al,ar,bP,an,aO,a6,aT,a5,aG,bM,Ua,Ub]
    obtain⟨r,hr,hv,hs,HW⟩:=xJ N ha hb q5 (m-1) n (i+1) (out++[x+4294967296-(y+c)]) 1 ω ω (by simp[ho]) ω ω ω ω
    refine⟨(x+4294967296-(y+c))::r,by rw[hr];simp,VD.cons ω ω hv,by rw[bC,hs];omega,by rw[aG];omega⟩
   ·rw[bh (x:=x-(y+c)) ω ω]
    simp (disch:=omega) only[au,aq,cq,cf,bD,bI,aB,bp,bw,bS,ax,bh,aa,ah,aS,bx,al,ar,bP,an,aO,a6,aT,a5,aG,bM,Ua,Ub]
    obtain⟨r,hr,hv,hs,HW⟩:=xJ N ha hb q5 (m-1) n (i+1) (out++[x-(y+c)]) 0 ω ω (by simp[ho]) ω ω ω ω
    refine⟨(x-(y+c))::r,by rw[hr];simp,VD.cons ω ω hv,by rw[bC,hs];omega,by rw[aG];omega⟩
  ·simp (disch:=omega) only[au,aq,cq,cf,bD,bI,aB,bp,bw,bS,ax,bh,aa,ah,aS,bx,al,ar,bP,an,aO,a6,aT,a5,aG,bM]
   have h0:=fH (hb.drop i)
   rw[eT (l:=a) ω]at hz ⊢
   simp only[bC]at hz ⊢
   exact⟨[],by simp,VD.nil,by simp only[bC];omega,fk _⟩
theorem uQ(hN:4000000≤N){a b:List Int}(ha:VD a)(hb:VD b)(q5:a.length≤1000000)(h:bC b≤bC a): ∃r,vY N a b=some r∧VD r∧bC r=bC a-bC b∧r.length≤1000000:=by
 unfold vY vY.b
 obtain⟨r,hr,hv,hs,hl⟩:=xJ N ha hb q5 a.length N 0 [] 0 ω ω rfl ω ω ω (by simp;omega)
 exact⟨r,hr,hv,by simpa using hs,ω⟩
theorem kL: ∀(l:List Int) (x:Int),bC (l++[x])=bC l+4294967296^l.length*x
 |[],x=>by simp[bC]
 |d::r,x=>by
  rw[kN,bC,kL r x,bC,aG,sd,cO _ 4294967296,dw,eG];omega
theorem CI{a b:List Int}(ha:VD a)(hb:VD b){k:Nat}(h1:k<a.length)(h2:k<b.length)(c6:a.getD k 0<b.getD k 0):bC (a.take (k+1))<bC (b.take (k+1)):=by
 rw[dq a h1,dq b h2,kL,kL]
 have l1:(a.take k).length=k:=by rw[a7];omega
 have l2:(b.take k).length=k:=by rw[a7];omega
 have v1:=Fu (ha.take k)
 have v2:=fH (hb.take k)
 rw[l1]at*
 rw[l2]
 generalize (4294967296:Int)^k=p at*
 have hp:0<p:=by have:=fH (ha.take k);omega
 have:=ko (show a.getD k 0+1≤b.getD k 0 by omega) (kT hp)
 rw[eG,Int.mul_one]at this
 omega
def nW(x:Int):Int:=if x<0 then-1 else if 0<x then 1 else 0
theorem CJ(N:Nat){a b:List Int}(ha:VD a)(hb:VD b)(hl:a.length=b.length)(q5:a.length≤1000000): ∀(k n:Nat),k≤a.length→k<n→vx.l6 N n a b ((k:Int)-1)=some (nW (bC (a.take k)-bC (b.take k)))
 |k,0,_,hn=>ω
 |0,n+1,_,_=>by
  unfold vx.l6 vx.y7
  simp (disch:=omega) only[au,aq,cq,cf,bD,bI,aB,bp,bw,bS,ax,bh,aa,ah,aS,bx,al,ar,bP,an,aO,a6,aT,a5,aG,bM]
  simp[nW,bC]
 |k+1,n+1,hk,hn=>by
  unfold vx.l6 vx.y7
  have e:((k+1:Nat):Int)-1=(k:Int):=ω
  rw[e]
  simp (disch:=omega) only[au,aq,cq,cf,bD,bI,aB,bp,bw,bS,ax,bh,aa,ah,aS,bx,al,ar,bP,an,aO,a6,aT,a5,aG,bM]
  by_cases h1:a.getD k 0<b.getD k 0
  ·rw[au h1,aa]
   have:=CI ha hb (k:=k) ω ω h1
   rw[nW,ae ω]
  ·rw[aq ω,ah]
   by_cases h2:b.getD k 0<a.getD k 0
   ·rw[au h2,aa]
    have:=CI hb ha (k:=k) ω ω h2
    rw[nW,af ω,ae ω]
   ·rw[aq ω,ah,CJ N ha hb hl q5 k n ω ω]
    congr 2
    rw[dq a ω,dq b ω,kL,kL,show a.getD k 0=b.getD k 0 from by omega,a7,a7,hl]
    omega
theorem CK(hN:4000000≤N)(m k:Nat)(hm:(gA m).length≤1000000)(hk:(gA k).length≤1000000):vx N (gA m) (gA k)=some (nW ((m:Int)-k)):=by
 unfold vx vx.b
 by_cases h:(gA m).length=(gA k).length
 ·simp (disch:=omega) only[au,aq,cq,cf,bD,bI,aB,bp,bw,bS,ax,bh,aa,ah,aS,bx,al,ar,bP,an,aO,a6,aT,a5,aG,bM]
  rw[CJ N (fI m) (fI k) h hm (gA m).length N (aH _) ω,fR,h,fR,dN,dN]
 ·rw[bI ω,bx,aa]
  by_cases c6:(gA m).length<(gA k).length
  ·rw[au ω,aa]
   have h1:=AD ((gA k).length-1) m ω
   have h2: ¬(k<4294967296^((gA k).length-1)):=λh=>by have:=qc _ _ h;omega
   rw[nW,ae ω]
  ·rw[aq ω,ah]
   have h1:=AD ((gA m).length-1) k ω
   have h2: ¬(m<4294967296^((gA m).length-1)):=λh=>by have:=qc _ _ h;omega
   rw[nW,af ω,ae ω]
def Fit(v:Int)(k:Nat):Prop:=v.natAbs<4294967296^k
theorem Fit.len{v:Int}{k:Nat}(h:Fit v k):(gA v.natAbs).length≤k:=qc k _ h
theorem Fit.mono{v:Int}{j k:Nat}(h:Fit v j)(Yn:j≤k):Fit v k:=fP h (wA δ Yn)
theorem Fit.neg{v:Int}{k:Nat}(h:Fit v k):Fit (-v) k:=by unfold Fit at*;rwa [Int.natAbs_neg]
theorem Fit.i64{v:Int}(h0: -9223372036854775808≤v)(h1:v<9223372036854775808):Fit v 2:=by
 unfold Fit
 rw[show(4294967296:Nat)^2=18446744073709551616 from by decide];omega
theorem Fit.add{u v:Int}{k:Nat}(hu:Fit u k)(hv:Fit v k):Fit (u+v) (k+1):=by
 unfold Fit at*
 rw[jx]
 have:(u+v).natAbs≤u.natAbs+v.natAbs:=Int.natAbs_add_le u v
 generalize 4294967296^k=p at*
 omega
theorem Fit.mul{u v:Int}{j k:Nat}(hu:Fit u j)(hv:Fit v k):Fit (u*v) (j+k):=by
 unfold Fit at*
 rw[Int.natAbs_mul,Nat.pow_add]
 exact Nat.mul_lt_mul'' hu hv
theorem Fit.of_le{u v:Int}{k:Nat}(hv:Fit v k)(h:u.natAbs≤v.natAbs):Fit u k:=Nat.lt_of_le_of_lt h hv
theorem pI(a b:Bool):mg .bool a b=(a==b):=by simp[mg]
theorem iE(hN:4000000≤N){u v:Int}(hu:Fit u 900000)(hv:Fit v 900000):DZ N (bz u) (bz v)=some (bz (u+v)):=by
 have lu:=hu.len
 have lv:=hv.len
 unfold DZ
 simp only[bz,pI]
 by_cases hs:decide (u<0)=decide (v<0)
 ·rw[hs,wK,aa]
  obtain⟨r,hr,Uc,An,hl⟩:=CH N hN (fI u.natAbs) (fI v.natAbs) ω ω
  simp only[hr,al,mz N _ Uc ω ω,An,dN]
  congr 1
  show bz _=bz _
  congr 1
  by_cases h:v<0
  ·have:u<0:=by simpa [h]using hs
   rw[ae (bn h)];omega
  ·have: ¬u<0:=by simpa [h]using hs
   rw[af (by simpa using h)];omega
 ·have hb:(decide (u<0)==decide (v<0))=false:=by simpa using hs
  rw[hb,ah,CK N hN _ _ ω ω,al]
  by_cases hc:v.natAbs≤u.natAbs
  ·have h1:c4 0 (nW ((u.natAbs:Int)-v.natAbs))=true:=cq (by unfold nW;split<;>(try split)<;>omega)
   obtain⟨r,hr,Uc,An,hl⟩:=uQ N hN (fI u.natAbs) (fI v.natAbs) ω (by rw[dN,dN];omega)
   simp only[h1,aa,hr,al,mz N _ Uc ω ω,An,dN]
   congr 1
   show bz _=bz _
   congr 1
   by_cases h:u<0
   ·have: ¬v<0:=λhv=>hs (by simp[h,hv])
    rw[ae (bn h)];omega
   ·have:v<0:=Bq λhv=>hs (by simp[h,hv])
    rw[af (by simpa using h)];omega
  ·have h1:c4 0 (nW ((u.natAbs:Int)-v.natAbs))=false:=cf (by unfold nW;rw[ae ω];omega)
   obtain⟨r,hr,Uc,An,hl⟩:=uQ N hN (fI v.natAbs) (fI u.natAbs) ω (by rw[dN,dN];omega)
   simp only[h1,ah,hr,al,mz N _ Uc ω ω,An,dN]
   congr 1
   show bz _=bz _
   congr 1
   by_cases h:v<0
   ·have: ¬u<0:=λhu=>hs (by simp[h,hu])
    rw[ae (bn h)];omega
   ·have:u<0:=Bq λhu=>hs (by simp[h,hu])
    rw[af (by simpa using h)];omega
theorem qd(hN:4000000≤N){u:Int}(hu:Fit u 900000):PM N (bz u)=some (bz (-u)):=by
 have lu:=hu.len
 unfold PM
 simp only[bz]
 simp only[mz N _ (fI u.natAbs) ω ω,al,dN]
 congr 1
 show bz _=bz _
 congr 1
 by_cases h:u<0
 ·rw[bn h,aS,af wC];omega
 ·rw[bm h,bx,ae rfl];omega
theorem CL(hN:4000000≤N){u:Int}(hu:Fit u 900000):Sy N (bz u)=some (bz u.natAbs):=by
 have lu:=hu.len
 unfold Sy
 simp only[bz]
 simp only[mz N _ (fI u.natAbs) ω ω,al,dN,dJ,cU]
 rfl
theorem sU(hN:4000000≤N){u v:Int}(hu:Fit u 900000)(hv:Fit v 900000):NV N (bz u) (bz v)=some (bz (u-v)):=by
 unfold NV
 simp only[qd N hN hv,al,iE N hN hu hv.neg,Int.sub_eq_add_neg]
theorem nX(u:Int):KL N (bz u)=some (nW u):=by
 unfold KL
 simp only[bz]
 by_cases h:u=0
 ·subst h
  rw[show(0:Int).natAbs=0 from rfl,fG]
  simp (disch:=omega) only[au,aq,cq,cf,bD,bI,aB,bp,bw,bS,ax,bh,aa,ah,aS,bx,al,ar,bP,an,aO,a6,aT,a5,aG,bM]
  rfl
 ·have:0<(gA u.natAbs).length:=by
   apply mT.2
   intro hd;rw[sT]at hd;omega
  rw[bI ω,ah]
  by_cases hn:u<0
  ·rw[bn hn,aa,nW,ae hn]
  ·rw[bm hn,ah,nW,af hn,ae ω]
theorem Eo(hN:4000000≤N){u v:Int}(hu:Fit u 900000)(hv:Fit v 900000):Sz N (bz u) (bz v)=some (nW (u-v)):=by
 unfold Sz
 simp only[sU N hN hu hv,al,nX]
theorem AG(l:List Int)(h: ∀x∈l,-9223372036854775808≤x∧x<9223372036854775808): -(9223372036854775808*l.length)≤l.sum∧l.sum≤9223372036854775808*l.length:=by
 induction l with
 |nil=>simp
 |cons x l ih=>
  have:=ih (λy hy=>h y (aR _ hy))
  obtain⟨h1,h2⟩:=h x (bl ..)
  rw[eV,aG]
  omega
theorem AH{v:Int}{n:Nat}(hn:n≤1000000)(h0: -(9223372036854775808*n)≤v)(h1:v≤9223372036854775808*n):Fit v 3:=by
 unfold Fit
 rw[show(4294967296:Nat)^3=79228162514264337593543950336 from by decide]
 omega
theorem CN{l:List Int}(h: ∀x∈l,-9223372036854775808≤x∧x<9223372036854775808)(i:Nat): -9223372036854775808≤l.getD i 0∧l.getD i 0<9223372036854775808:=by
 rw[aY]
 cases hn:l[i]? with
 |none=>exact⟨δ,δ⟩
 |some x=>exact h x (List.mem_of_getElem? hn)
theorem gB(l:List Int){i:Nat}(h:i<l.length):(l.take (i+1)).sum=(l.take i).sum+l.getD i 0:=by
 rw[dq l h];simp
theorem sV(N:Nat)(hN:4000000≤N){l:List Int}(h: ∀x∈l,-9223372036854775808≤x∧x<9223372036854775808)(hl:l.length≤1000000): ∀(m n i:Nat) (z:ay),l.length-i≤m→m<n→i≤l.length→
  lx.l3 N n l z (bz (l.take i).sum) (i:Int)=some (bz l.sum)
 |m,0,i,z,_,hn,_=>ω
 |m,n+1,i,z,hm,hn,hi=>by
  unfold lx.l3 lx.qJ
  by_cases h1:i<l.length
  ·obtain⟨g0,g1⟩:=CN h i
   have f1:=AG (l.take i) (λx hx=>h x (il hx))
   rw[a7,du ω]at f1
   have f2:Fit (l.take i).sum 900000:=(AH (n:=i) ω f1.1 f1.2).mono ω
   have f3:Fit (l.getD i 0) 900000:=(Fit.i64 g0 g1).mono ω
   simp (disch:=omega) only[au,aq,cq,cf,bD,bI,aB,bp,bw,bS,ax,bh,aa,ah,aS,bx,al,ar,bP,an,aO,a6,aT,a5,aG,bM,eJ N ω g0 g1,iE N hN f2 f3]
   rw[←gB l h1]
   exact sV N hN h hl (m-1) n (i+1) z ω ω ω
  ·simp (disch:=omega) only[au,aq,cq,cf,bD,bI,aB,bp,bw,bS,ax,bh,aa,ah,aS,bx,al,ar,bP,an,aO,a6,aT,a5,aG,bM]
   rw[dI ω]
theorem eP:bz 0=(false,([],())):=by unfold bz;rw[show(0:Int).natAbs=0 from rfl,fG];rfl
theorem Ep(hN:4000000≤N){l:List Int}(h: ∀x∈l,-9223372036854775808≤x∧x<9223372036854775808)(hl:l.length≤1000000):lx N l=some (bz l.sum):=by
 unfold lx lx.b
 have:=sV N hN h hl l.length N 0 (false,([],())) ω ω ω
 rw[kS,jy,eP]at this
 exact this
theorem Jn{a b:Int}(ha:0≤a)(Sv:a<4294967296)(hb:0≤b)(cg:b<4294967296):hZ .or .u64 a (b*4294967296)=a+b*4294967296:=by
 rw[Az ha ω ω ω]
 have h:=wq (i:=32) (b:=a.toNat) ω b.toNat
 have e:(b*4294967296).toNat=2^32*b.toNat:=ω
 rw[e,Nat.or_comm,←h];omega
theorem GW{a b:Int}(ha:0≤a)(Sv:a<4294967296)(hb:0≤b)(cg:b<4294967296):hZ .or .u64 (b*4294967296) a=a+b*4294967296:=by
 rw[Az ω ω ha ω]
 have h:=wq (i:=32) (b:=a.toNat) ω b.toNat
 have e:(b*4294967296).toNat=2^32*b.toNat:=ω
 rw[e,←h];omega
theorem NW{x:Int}(h0:0≤x):shl .u64 x 32=x*4294967296:=by rw[Fp ω ω];rfl
def q7(v:Int):Int×Bool:=if-9223372036854775808≤v∧v<9223372036854775808 then(v,true)else(0,false)
theorem LJ{n:Nat}(h:(gA n).length≤2):(gA n).getD 0 0+4294967296*(gA n).getD 1 0=n:=by
 have h1:=fY (gA n) 0
 have h2:=fY (gA n) 1
 rw[bX,dN]at h1
 rw[eT (l:=gA n) (i:=1+1) h]at h2
 simp only[bC,c7]at h1 h2
 omega
theorem xK(v:Int):PN N (bz v)=some (q7 v):=by
 unfold PN
 simp only[bz]
 by_cases hl:2<(gA v.natAbs).length
 ·rw[au ω,aa,q7,af]
  intro hh
  have:=qc 2 v.natAbs (by rw[show(4294967296:Nat)^2=18446744073709551616 from by decide];omega)
  omega
 ·have h2:=LJ (n:=v.natAbs) ω
  obtain⟨a0,a1⟩:=(fI v.natAbs).getD 0
  obtain⟨b0,b1⟩:=(fI v.natAbs).getD 1
  have e0:=pH N (gA v.natAbs) 0
  have e1:=pH N (gA v.natAbs) 1
  simp only[Int.natCast_zero,Int.natCast_one]at e0 e1
  rw[aq ω,ah,e0,e1]
  generalize (gA v.natAbs).getD 0 0=a at*
  generalize (gA v.natAbs).getD 1 0=b at*
  simp only[al]
  rw[aq (show(0:Int)≤32 by omega),ah,NW b0,bh (x:=b*4294967296) ω ω,Jn a0 a1 b0 b1]
  have ev:a+b*4294967296=v.natAbs:=ω
  rw[ev]
  by_cases hn:v<0
  ·rw[bn hn,aa]
   by_cases Ct:9223372036854775808<(v.natAbs:Int)
   ·rw[au Ct,aa,q7,af ω]
   ·rw[aq ω,ah,q7,ae ω,iD,ej]
    congr 2
    split<;>omega
  ·rw[bm hn,ah]
   by_cases Ct:9223372036854775807<(v.natAbs:Int)
   ·rw[au Ct,aa,q7,af ω]
   ·rw[aq ω,ah,q7,ae ω,ax ω ω]
    congr 2;omega
theorem CO: ∀(l:List Int) (k:Nat) (x:Int),k<l.length→bC (l.set k x)=bC l+4294967296^k*(x-l.getD k 0)
 |d::r,0,x,_=>by simp[bC];omega
 |d::r,k+1,x,h=>by
  have ih:=CO r k x (by simpa using h)
  rw[List.set_cons_succ,bC,bC,ih,List.getD_cons_succ,sd,cO (4294967296^k) 4294967296,dw,eG];omega
theorem getD_set_ne(l:List Int){j k:Nat}(x:Int)(h:j≠k):(l.set j x).getD k 0=l.getD k 0:=by
 simp[aY,List.getElem?_set_ne h]
theorem jJ(l:List Int){k:Nat}(x:Int)(h:k<l.length):(l.set k x).getD k 0=x:=by
 simp[aY,List.getElem?_set,h]
theorem vZ(l:List Int){k:Nat}(h:l.length≤k):l.getD k 0=0:=by
 rw[aY,eU h];rfl
theorem uR(N:Nat)(K:ay→ay→ay→List Int→Int→Option ay){a b:List Int}(na nb:Bool)(z:ay)(ha:VD a)(hb:VD b)(i:Nat)(hi:i<a.length)(q5:a.length≤100000)(DY:b.length≤100000):
  ∀(m n j:Nat) (out:List Int) (c:Int),b.length+1-j≤m→m<n→VD out→out.length=a.length+b.length+1→0≤c→c<4294967296→(j≤b.length→ ∀k,i+b.length≤k→out.getD k 0=0)→(b.length<j→c=0∧j=b.length+1∧ ∀k,i+b.length+1≤k→out.getD k 0=0)→
  ∃q8,g8.l7 N K n (na,(a,())) (nb,(b,())) z out (i:Int) c (j:Int)=K (na,(a,())) (nb,(b,())) z q8 ((i+1:Nat):Int)∧VD q8∧q8.length=out.length∧
   bC q8=bC out+4294967296^i*(4294967296^j*(a.getD i 0*bC (b.drop j)+c))∧ ∀k,i+1+b.length≤k→q8.getD k 0=0
 |m,0,j,out,c,_,hn,_,_,_,_,_,_=>ω
 |m,n+1,j,out,c,hm,hn,ho,Fg,F9,rq,hz,Sn=>by
  unfold g8.l7 g8.Yo
  by_cases CG:b.length≤j∧c=0
  ·obtain⟨h1,rfl⟩:=CG
   simp (disch:=omega) only[au,aq,cq,cf,bD,bI,aB,bp,bw,bS,ax,bh,aa,ah,aS,bx,al,ar,bP,an,aO,a6,aT,a5,aG,bM]
   refine⟨out,rfl,ho,rfl,by rw[eT h1];simp[bC],λk hk=> ?_⟩
   by_cases hj:j≤b.length
   ·exact hz hj k ω
   ·exact(Sn ω).2.2 k ω
  ·have sv:j≤b.length:=by
    by_cases hj:j≤b.length
    ·exact hj
    ·exact absurd ⟨ω,(Sn ω).1⟩ CG
   obtain⟨Yl,ga1⟩:=ha.getD i
   obtain⟨Ym,gb1⟩:=hb.getD j
   obtain⟨go0,go1⟩:=ho.getD (i+j)
   have step: ∃q8,g8.j9 N K (g8.l7 N K n) (na,(a,())) (nb,(b,())) z out (i:Int) c (j:Int)=K (na,(a,())) (nb,(b,())) z q8 ((i+1:Nat):Int)∧VD q8∧q8.length=out.length∧
     bC q8=bC out+4294967296^i*(4294967296^j*(a.getD i 0*bC (b.drop j)+c))∧ ∀k,i+1+b.length≤k→q8.getD k 0=0:=by
    unfold g8.j9 g8.PO
    have eij:(i:Int)+(j:Int)=((i+j:Nat):Int):=rfl
    have hp:=mul_lt (m:=4294967295) (n:=4294967295) Yl Ym ω ω
    simp only[pH,al,eij,ar]
    simp (disch:=omega) only[au,aq,cq,cf,bD,bI,aB,bp,bw,bS,ax,bh,aa,ah,aS,bx,al,ar,bP,an,aO,a6,aT,a5,aG,bM]
    generalize hx:out.getD (i+j) 0=x at*
    generalize Xj:a.getD i 0=ai at*
    generalize bT:b.getD j 0=bj at*
    generalize WE:ai*bj=p at*
    have Yp:b.length≤j→p=0∧x=0:=λh=>by
     rw[vZ b h]at bT
     refine⟨by rw[←WE,←bT,Int.mul_zero],?_⟩
     rw[←hx];exact hz sv _ ω
    rw[fF ω ω,xH]
    have Yq:(out.set (i+j) ((c+(x+p))%4294967296)).length=a.length+b.length+1:=by rw[aT];exact Fg
    obtain⟨q8,h1,h2,h3,h4,h5⟩:=uR N K na nb z ha hb i hi q5 DY (m-1) n (j+1) (out.set (i+j) ((c+(x+p))%4294967296)) ((c+(x+p))/4294967296) ω ω (ho.set _ ω ω) Yq ω ω
     (λh k hk=>by rw[getD_set_ne _ _ ω];exact hz sv k hk)
     (λh=>by
      obtain⟨qx,Ed⟩:=Yp ω
      refine⟨ω,ω,λk hk=> ?_⟩
      rw[getD_set_ne _ _ ω];exact hz sv k ω)
    refine⟨q8,h1,h2,by rw[h3,aT],?_,h5⟩
    rw[h4,CO _ _ _ ω,hx,Xj,fY b j,bT,eG ai,WE,Int.pow_add,sd]
    have e1:ai*(4294967296*bC (b.drop (j+1)))=4294967296*(ai*bC (b.drop (j+1))):=Int.mul_left_comm _ _ _
    rw[e1]
    generalize ai*bC (b.drop (j+1))=y
    generalize (4294967296:Int)^i=P
    generalize (4294967296:Int)^j=R
    rw[dw R,dw P,Int.add_assoc,←eG,←eG]
    congr 3
    omega
   by_cases h1:j<b.length
   ·simp (disch:=omega) only[au,aa];exact step
   ·have:0<c:=ω
    simp (disch:=omega) only[au,aq,aa,ah];exact step
theorem uS(N:Nat)(hN:4000000≤N){a b:List Int}(na nb:Bool)(z:ay)(ha:VD a)(hb:VD b)(q5:a.length≤100000)(DY:b.length≤100000):
  ∀(m n i:Nat) (out:List Int),a.length-i≤m→m<n→i≤a.length→VD out→out.length=a.length+b.length+1→(∀k,i+b.length≤k→out.getD k 0=0)→bC out=bC (a.take i)*bC b→
  g8.l3 N n (na,(a,())) (nb,(b,())) z out (i:Int)=some (bz (if na=nb then bC a*bC b else-(bC a*bC b)))
 |m,0,i,out,_,hn,_,_,_,_,_=>ω
 |m,n+1,i,out,hm,hn,hi,ho,Fg,hz,hv=>by
  unfold g8.l3 g8.qJ
  by_cases h1:i<a.length
  ·simp only
   rw[au ω,aa]
   obtain⟨q8,e1,e2,e3,e4,e5⟩:=uR N (g8.l3 N n) na nb z ha hb i h1 q5 DY (b.length+1) N 0 out 0 ω ω ho Fg ω ω (λ_ k hk=>hz k hk) (λh=>ω)
   rw[show((0:Nat):Int)=0 from rfl]at e1
   rw[e1]
   refine uS N hN na nb z ha hb q5 DY (m-1) n (i+1) q8 ω ω ω e2 (by rw[e3];exact Fg) (λk hk=>e5 k ω) ?_
   rw[e4,hv,dq a h1,kL,a7,du ω,bX,Int.pow_zero,jz,o7,gu,dw]
  ·simp only
   rw[aq ω,ah]
   simp only[mz N _ ho ω ω,al]
   rw[hv,dI ω,pI]
   congr 2
   cases na<;>cases nb<;>simp
theorem xL(hN:4000000≤N){u v:Int}(hu:Fit u 90000)(hv:Fit v 90000):g8 N (bz u) (bz v)=some (bz (u*v)):=by
 have lu:=hu.len
 have lv:=hv.len
 unfold g8 g8.b
 simp only[bz]
 simp (disch:=omega) only[au,aq,cq,cf,bD,bI,aB,bp,bw,bS,ax,bh,aa,ah,aS,bx,al,ar,bP,an,aO,a6,aT,a5,aG,bM]
 have e:(((gA u.natAbs).length:Int)+((gA v.natAbs).length:Int)+1).toNat=(gA u.natAbs).length+(gA v.natAbs).length+1:=ω
 have:=uS N hN (decide (u<0)) (decide (v<0)) (false,([],())) (fI u.natAbs) (fI v.natAbs) ω ω (gA u.natAbs).length N 0 (List.replicate ((gA u.natAbs).length+(gA v.natAbs).length+1) 0) ω ω ω (VD.NT _) (by simp)
  (λk _=>by rw[aY,rG];split<;>rfl) (by
   have: ∀n,bC (List.replicate n 0)=0:=λn=>by
    induction n with
    |zero=>rfl
    |succ n ih=>rw[rO,bC,ih];rfl
   rw[this];simp[bC])
 rw[dN,dN]at this
 have e2:(((gA u.natAbs).length+(gA v.natAbs).length:Nat):Int)+1=(gA u.natAbs).length+(gA v.natAbs).length+1:=ω
 first
 |(rw[e];refine this.trans ?_)
 |(refine(this).trans ?_)
 show some (bz _)=some (bz _)
 congr 2
 have key:(u.natAbs:Int)*v.natAbs=if decide (u<0)=decide (v<0)then u*v else-(u*v):=by
  by_cases h1:u<0<;>by_cases h2:v<0
  ·rw[ae (by simp[h1,h2]),show(u.natAbs:Int)= -u from by omega,show(v.natAbs:Int)= -v from by omega,Int.neg_mul_neg]
  ·rw[af (by simp[h1,h2]),show(u.natAbs:Int)= -u from by omega,show(v.natAbs:Int)=v from by omega,Int.neg_mul]
  ·rw[af (by simp[h1,h2]),show(u.natAbs:Int)=u from by omega,show(v.natAbs:Int)= -v from by omega,m0]
  ·rw[ae (by simp[h1,h2]),show(u.natAbs:Int)=u from by omega,show(v.natAbs:Int)=v from by omega]
 rw[key]
 split<;>simp
end VM
end
