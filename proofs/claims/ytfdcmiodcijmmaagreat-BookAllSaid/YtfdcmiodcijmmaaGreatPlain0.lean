/- A part of the proof of BookAll of layer 18: what the functions compute, in plain words. -/
import Derived.Test.YtfdcmiodcijmmaaGreatVm0
import GoSem.Claim
import Derived.Test.YtfdcmiodcijmmaaGreatText
set_option linter.all false
section
namespace VM
open Go
theorem kD(x:Int):W .u64 x=x%18446744073709551616:=by rw[xO];simp[IntKind.wrap,IntKind.bits,IntKind.signed]
theorem dA{x:Int}(h0:0≤x)(h1:x<18446744073709551616):W .u64 x=x:=by rw[kD];omega
theorem eg(x:Int):W .i64 x=if 9223372036854775808≤x%18446744073709551616 then x%18446744073709551616-18446744073709551616 else x%18446744073709551616:=by
 rw[xO];simp[IntKind.wrap,IntKind.bits,IntKind.signed]
theorem ay{x:Int}(h0: -9223372036854775808≤x)(h1:x<9223372036854775808):W .i64 x=x:=by
 rw[eg];split<;>omega
theorem wf_i64{x:Int}:(Lit.int .i64 x).wf=true↔ -9223372036854775808≤x∧x≤9223372036854775807:=by simp[Lit.wf,IntKind.min,IntKind.max,IntKind.bits,IntKind.signed]
theorem az{x y:Int}(h:x<y):bh x y=true:=by rw[nJ];exact aD h
theorem av{x y:Int}(h:y≤x):bh x y=false:=by rw[nJ];exact aP ω
theorem fT{x y:Int}(h:x≤y):cP x y=true:=by rw[jl];exact aD h
theorem fA{x y:Int}(h:y<x):cP x y=false:=by rw[jl];exact aP ω
theorem dS{x y:Int}(h:x=y):bf x y=true:=by rw[fF];exact aD h
theorem eP{x y:Int}(h:x≠y):bf x y=false:=by rw[fF];exact aP h
theorem aE{i:Int}{n:Nat}(h0:0≤i)(h1:i<n):bJ i n=true:=by rw[Ku];exact aD ⟨h0,h1⟩
theorem bo{n:Nat}(h:n<68719476736):small n=true:=by rw[xP];exact aD (by simpa [th]using h)
theorem c0{l c:Int}(h0:0≤l)(h1:l≤c)(h2:c<68719476736):oC l c=true:=by rw[AD];exact aD (by simp only[th];omega)
theorem eC{l h m n:Int}(h0:0≤l)(h1:l≤h)(h2:h≤m)(h3:m≤n):lz l h m n=true:=by rw[mv];exact aD ⟨h0,h1,h2,h3⟩
theorem ah(n:Nat):(n:Int)+1=((n+1:Nat):Int):=rfl
theorem nw(x:Int)(h0:0≤x)(h1:x<18446744073709551616):(BitVec.ofInt 64 x).toNat=x.toNat:=by
 rw[BitVec.toNat_ofInt];congr 1;omega
theorem LB{x y:Int}(hx:0≤x)(Sr:x<18446744073709551616)(hy:0≤y)(W9:y<18446744073709551616):oD .and .u64 x y=((x.toNat&&& y.toNat:Nat):Int):=by
 rw[oE]
 have h:((BitVec.ofInt 64 x&&& BitVec.ofInt 64 y).toNat)=x.toNat&&& y.toNat:=by rw[BitVec.toNat_and,nw x hx Sr,nw y hy W9]
 show IntKind.u64.wrap (((BitVec.ofInt 64 x&&& BitVec.ofInt 64 y).toNat:Nat):Int)=_
 rw[h,←xO]
 have:x.toNat&&& y.toNat≤x.toNat:=Nat.and_le_left
 exact dA ω ω
theorem Od{x y:Int}(hx:0≤x)(Sr:x<18446744073709551616)(hy:0≤y)(W9:y<18446744073709551616):oD .or .u64 x y=((x.toNat|||y.toNat:Nat):Int):=by
 rw[oE]
 have h:((BitVec.ofInt 64 x|||BitVec.ofInt 64 y).toNat)=x.toNat|||y.toNat:=by rw[BitVec.toNat_or,nw x hx Sr,nw y hy W9]
 show IntKind.u64.wrap (((BitVec.ofInt 64 x|||BitVec.ofInt 64 y).toNat:Nat):Int)=_
 rw[h,←xO]
 have:x.toNat|||y.toNat<2^64:=Nat.or_lt_two_pow ω ω
 exact dA ω ω
theorem jQ{x:Int}(h0:0≤x)(h1:x<18446744073709551616):oD .and .u64 x 4294967295=x%4294967296:=by
 rw[LB h0 h1 ω ω]
 have:=Nat.and_two_pow_sub_one_eq_mod x.toNat 32
 rw[show((4294967295:Int).toNat)=2^32-1 from rfl,this]
 omega
theorem Oe{x y:Int}(h0:0≤y)(h1:y≤64):shr .u64 x y=x/2^y.toNat:=by
 rw[Gk]
 have:min y.toNat IntKind.u64.bits=y.toNat:=by simp[IntKind.bits];omega
 rw[this,C2]
 exact_mod_cast c8 _
theorem H9(x:Int):shr .u64 x 32=x/4294967296:=by rw[Oe ω ω];rfl
theorem oU{x:Int}(h0: -9223372036854775808≤x)(h1:x<9223372036854775808):shr .i64 x 63=if x<0 then-1 else 0:=by
 rw[Gk]
 have:(2:Int)^(min (63:Int).toNat IntKind.i64.bits)=9223372036854775808:=by rfl
 rw[this,C2 _ ω]
 split<;>omega
theorem Of{x y:Int}(h0:0≤y)(h1:y≤64):shl .u64 x y=x*2^y.toNat:=by
 rw[Kv]
 have:min y.toNat IntKind.u64.bits=y.toNat:=by simp[IntKind.bits];omega
 rw[this]
theorem mul_lt{a b m n:Int}(ha:0≤a)(hb:0≤b)(ham:a≤m)(Q1:b≤n):0≤a*b∧a*b≤m*n:=
 ⟨s8 ha hb,mo (wW ham hb) (C1 Q1 ω)⟩
end VM
end
section
namespace VM
open Go VM.F
theorem Js(a b:Int):a*b=(a/4294967296)*(b/4294967296)*18446744073709551616+((a/4294967296)*(b%4294967296)+(a%4294967296)*(b/4294967296))*4294967296+(a%4294967296)*(b%4294967296):=by
 have ha:a=(a/4294967296)*4294967296+a%4294967296:=ω
 have hb:b=(b/4294967296)*4294967296+b%4294967296:=ω
 generalize a/4294967296=a1 at*
 generalize a%4294967296=a0 at*
 generalize b/4294967296=b1 at*
 generalize b%4294967296=b0 at*
 subst ha;subst hb
 simp only[td,kv]
 have e1:a1*4294967296*(b1*4294967296)=a1*b1*18446744073709551616:=by
  rw[jg,Int.mul_left_comm 4294967296,←jg];rfl
 have e2:a1*4294967296*b0=a1*b0*4294967296:=by rw[jg,n6 4294967296,←jg]
 have e3:a0*(b1*4294967296)=a0*b1*4294967296:=by rw[←jg]
 rw[e1,e2,e3];omega
theorem yS(N:Nat){a b:Int}(ha:0≤a)(Vy:a<18446744073709551616)(hb:0≤b)(jF:b<18446744073709551616):
  Jt N a b=some (a*b/18446744073709551616,a*b%18446744073709551616):=by
 unfold Jt
 have hm:=Js a b
 have h1:=mul_lt (m:=4294967295) (n:=4294967295) (show 0≤a/4294967296 by omega) (show 0≤b/4294967296 by omega) ω ω
 have h2:=mul_lt (m:=4294967295) (n:=4294967295) (show 0≤a/4294967296 by omega) (show 0≤b%4294967296 by omega) ω ω
 have h3:=mul_lt (m:=4294967295) (n:=4294967295) (show 0≤a%4294967296 by omega) (show 0≤b/4294967296 by omega) ω ω
 have h4:=mul_lt (m:=4294967295) (n:=4294967295) (show 0≤a%4294967296 by omega) (show 0≤b%4294967296 by omega) ω ω
 simp only[av (show(0:Int)≤32 by omega),an,jQ ha Vy,jQ hb jF,H9]
 generalize a/4294967296=a1 at*
 generalize a%4294967296=a0 at*
 generalize b/4294967296=b1 at*
 generalize b%4294967296=b0 at*
 generalize a*b=ab at*
 generalize a1*b1=p at*
 generalize a1*b0=q at*
 generalize a0*b1=r at*
 generalize a0*b0=s at*
 rw[dA (x:=q) ω ω,dA (x:=s) ω ω,dA (x:=r) ω ω,dA (x:=p) ω ω,dA (x:=q+s/4294967296) ω ω,
  jQ ω ω,dA (x:=(q+s/4294967296)%4294967296+r) ω ω,dA (x:=p+(q+s/4294967296)/4294967296) ω ω,dA (x:=p+(q+s/4294967296)/4294967296+_) ω ω,kD]
 congr 2
 omega
theorem B2(N:Nat){x:Int}(h0: -9223372036854775808≤x)(h1:x<9223372036854775808):Vz N x=some (x.natAbs:Int):=by
 unfold Vz
 by_cases h:x<0
 ·rw[az h,aa,kD,kD];congr 1;omega
 ·rw[av ω,an,kD];congr 1;omega
theorem qB(N:Nat){x y c:Int}(hx:0≤x)(hy:0≤y)(hc:0≤c)(yl:c≤1):od N x y c=some ((x+y+c)%18446744073709551616,(x+y+c)/18446744073709551616):=by
 unfold od;rw[ae ⟨hx,hy,hc,yl⟩]
theorem iu(N:Nat){x y c:Int}(hx:0≤x)(Sr:x<18446744073709551616)(hy:0≤y)(W9:y<18446744073709551616)(hc:0≤c)(yl:c≤1):
  np N x y c=some ((x-y-c)%18446744073709551616,if x<y+c then 1 else 0):=by
 unfold np;rw[ae ⟨hx,Sr,hy,W9,hc,yl⟩];congr 2;omega
structure Rc(Y rm Nl hX Nm q rh:Int):Prop where
 hY:Y=rm*4294967296+Nl
 y1:2147483648≤rm
 y1':rm<4294967296
 y0:0≤Nl
 y0':Nl<4294967296
 u1:0≤Nm
 u1':Nm<4294967296
 lt:hX<Y
 q0:0≤q
 eq:q*rm+rh=hX
 r0:0≤rh
 q1:q≤4294967297
 ge:(hX*4294967296+Nm)/Y≤q
theorem Rc.first{Y rm Nl hX Nm:Int}(hY:Y=rm*4294967296+Nl)(y1:2147483648≤rm)(y1':rm<4294967296)(y0:0≤Nl)(y0':Nl<4294967296)(u1:0≤Nm)(u1':Nm<4294967296)(hu:0≤hX)(lt:hX<Y):
  Rc Y rm Nl hX Nm (hX/rm) (hX-hX/rm*rm)∧hX-hX/rm*rm<4294967296∧0≤hX/rm*rm∧hX/rm*rm≤hX:=by
 have h1:=Int.mul_ediv_add_emod hX rm
 have h2:=Int.emod_lt_of_pos hX (show 0<rm by omega)
 have h3:=Int.emod_nonneg hX (show rm≠0 by omega)
 have rL:0≤hX/rm:=Int.ediv_nonneg hu ω
 rw[n6]at h1
 have Wo:hX/rm≤4294967297:=by
  have:hX/rm<4294967298:=by rw[Dd ω];omega
  omega
 have HS:(hX*4294967296+Nm)/Y≤hX/rm:=by
  have dv:hX*4294967296+Nm<(hX/rm+1)*Y:=by
   have e:hX+1≤(hX/rm+1)*rm:=by rw[td,Int.one_mul];omega
   have e2:(hX/rm+1)*Y=(hX/rm+1)*rm*4294967296+(hX/rm+1)*Nl:=by rw[hY,kv,jg]
   have e3:0≤(hX/rm+1)*Nl:=s8 ω y0
   omega
  have:(hX*4294967296+Nm)/Y<hX/rm+1:=by rw[Dd ω];exact dv
  omega
 exact⟨⟨hY,y1,y1',y0,y0',u1,u1',lt,rL,ω,ω,Wo,HS⟩,ω,s8 rL ω,ω⟩
def cn:List Int→Int
 |[]=>0
 |d::r=>d+4294967296*cn r
def VD(l:List Int):Prop:= ∀d∈l,0≤d∧d<4294967296
def jK(n:Nat):List Int:=if n=0 then []else((n%4294967296:Nat):Int)::jK (n/4294967296)
termination_by n
decreasing_by omega
theorem iv:jK 0=[]:=by rw[jK];rfl
theorem rn{n:Nat}(h:n≠0):jK n=((n%4294967296:Nat):Int)::jK (n/4294967296):=by rw[jK];simp[h]
theorem VD.nil:VD []:=λd h=>by cases h
theorem VD.cons{d:Int}{l:List Int}(h0:0≤d)(h1:d<4294967296)(h:VD l):VD (d::l):=λx hx=>by
 rcases aV.1 hx with rfl|hx
 ·exact⟨h0,h1⟩
 ·exact h x hx
theorem VD.tail{d:Int}{l:List Int}(h:VD (d::l)):VD l:=λx hx=>h x (aU _ hx)
theorem VD.drop{l:List Int}(h:VD l)(n:Nat):VD (l.drop n):=λx hx=>h x (pO hx)
theorem VD.take{l:List Int}(h:VD l)(n:Nat):VD (l.take n):=λx hx=>h x (sW hx)
theorem VD.getD{l:List Int}(h:VD l)(n:Nat):0≤l.getD n 0∧l.getD n 0<4294967296:=by
 rw[aR]
 cases hn:l[n]? with
 |none=>exact⟨jk _,δ⟩
 |some x=>exact h x (List.mem_of_getElem? hn)
theorem VD.set{l:List Int}(h:VD l)(n:Nat){x:Int}(h0:0≤x)(h1:x<4294967296):VD (l.set n x):=λy hy=>by
 rcases xt hy with hy|rfl
 ·exact h y hy
 ·exact⟨h0,h1⟩
theorem VD.Xa(n:Nat):VD (List.replicate n 0):=λx hx=>by rw[List.eq_of_mem_replicate hx];exact⟨jk _,δ⟩
theorem iZ: ∀{l:List Int},VD l→0≤cn l
 |[],_=>jk _
 |d::r,h=>by
  have:=iZ h.tail
  have:=(h d (bg ..)).1
  simp only[cn];omega
theorem eQ(n:Nat):cn (jK n)=n:=by
 induction n using Nat.strongRecOn with
 |_ n ih=>
  by_cases h:n=0
  ·subst h;rw[iv];rfl
  ·rw[rn h,cn,ih _ ω];omega
theorem gE(n:Nat):VD (jK n):=by
 induction n using Nat.strongRecOn with
 |_ n ih=>
  by_cases h:n=0
  ·subst h;rw[iv];exact VD.nil
  ·rw[rn h];exact VD.cons ω ω (ih _ ω)
theorem w8{n:Nat}:jK n=[]↔n=0:=by
 constructor
 ·intro h
  by_cases hn:n=0
  ·exact hn
  ·rw[rn hn]at h;cases h
 ·rintro rfl;exact iv
theorem rp(k:Nat): ∀n,n<4294967296^k→(jK n).length≤k:=by
 induction k with
 |zero=>
  intro n h;have:n=0:=by simpa using h
  subst this;rw[iv];simp
 |succ k ih=>
  intro n h
  by_cases hn:n=0
  ·subst hn;rw[iv];simp
  ·rw[rn hn,aL]
   have:=ih (n/4294967296) (by rw[Df ω];rw[Nat.pow_succ]at h;exact h)
   omega
theorem Ia(k:Nat): ∀n,(jK n).length≤k→n<4294967296^k:=by
 induction k with
 |zero=>
  intro n h
  have:jK n=[]:=oy ω
  rw[w8]at this;subst this;decide
 |succ k ih=>
  intro n h
  by_cases hn:n=0
  ·subst hn;exact Nat.pow_pos δ
  ·rw[rn hn,aL]at h
   have:=ih (n/4294967296) ω
   rw[Df ω]at this
   rw[Nat.pow_succ];exact this
def strip:List Int→List Int
 |[]=>[]
 |d::r=>if strip r=[]∧d=0 then []else d::strip r
theorem D9: ∀{l:List Int},VD l→strip l=jK (cn l).toNat
 |[],_=>by rw[show(cn []).toNat=0 from rfl,iv];rfl
 |d::r,h=>by
  have ih:=D9 h.tail
  have h0:=iZ h.tail
  obtain⟨h1,h2⟩:=h d (bg ..)
  simp only[strip,cn,ih,w8]
  split
  ·rename_i hc
   obtain⟨hc,rfl⟩:=hc
   have:cn r=0:=ω
   rw[this];exact iv.symm
  ·rename_i hc
   have gY:(d+4294967296*cn r).toNat≠0:=λhe=>hc ⟨ω,ω⟩
   rw[rn gY]
   congr 1
   ·omega
   ·congr 1;omega
theorem yT: ∀(l:List Int) (x:Int),strip (l++[x])=if x=0 then strip l else l++[x]
 |[],x=>by simp[strip]
 |d::r,x=>by
  simp only[nj,strip,yT r x]
  split
  ·rfl
  ·simp
theorem iN(l:List Int){k:Nat}(h:k<l.length):l.take (k+1)=l.take k++[l.getD k 0]:=by
 rw[List.take_succ_eq_append_getElem h,aR,bc h];rfl
theorem AW(N:Nat)(l:List Int)(hl:l.length<68719476736): ∀(k n:Nat),k≤l.length→k<n→kE.l2 N n l (k:Int)=some (strip (l.take k))
 |0,n+1,_,_=>by
  unfold kE.l2 kE.dY
  simp (disch:=omega) only[az,av,fT,fA,dS,eP,aE,bo,c0,eC,ay,dA,aa,an,aN,dh,ag,aw,ea,ah,aC,aQ,cz,dg,aL,dy]
  simp[strip]
 |k+1,n+1,hk,hn=>by
  unfold kE.l2 kE.dY
  have e:((k+1:Nat):Int)-1=(k:Int):=ω
  simp (disch:=omega) only[az,av,fT,fA,dS,eP,aE,bo,c0,eC,ay,dA,aa,an,aN,dh,ag,aw,ea,ah,aC,aQ,cz,dg,aL,dy,e]
  have ih:=AW N l hl k n ω ω
  rw[iN l ω,yT]
  by_cases h:l.getD k 0=0
  ·rw[dS h,aa,ih,ae h]
  ·rw[eP h,an,af h]
   simp only[ea,bY]
theorem Ib(N:Nat){l:List Int}(h:VD l)(hN:l.length<N)(hl:l.length<68719476736):kE N l=some (jK (cn l).toNat):=by
 unfold kE kE.b
 rw[AW N l hl l.length N (aB _) hN,ni,D9 h]
def bU(v:Int):aK:=(decide (v<0),(jK v.natAbs,()))
theorem kj(N:Nat)(neg:Bool){l:List Int}(h:VD l)(hN:l.length<N)(hl:l.length<68719476736):Ju N neg l=some (bU (if neg then-cn l else cn l)):=by
 unfold Ju
 rw[Ib N h hN hl,ag]
 have h0:=iZ h
 cases neg
 ·simp only[an,bU,fD,dW]
  rw[aP ω]
  congr 4;omega
 ·simp only[aa,bU,fO]
  have e:(-cn l).natAbs=(cn l).toNat:=ω
  rw[e]
  congr 2
  by_cases hz:cn l=0
  ·rw[hz,ea,iv,av (by simp),aP ω]
  ·have:0<(jK (cn l).toNat).length:=by
    apply qS.2
    intro hd;rw[w8]at hd;omega
   rw[az ω,aD ω]
theorem size_eq(N:Nat)(hN:1000≤N){u:Int}(h0:0≤u)(h1:u<18446744073709551616):VA N u=some (jK u.toNat):=by
 unfold VA
 rw[jQ h0 h1,H9]
 have hv:VD [u%4294967296,u/4294967296]:=VD.cons ω ω (VD.cons ω ω VD.nil)
 simp (disch:=omega) only[az,av,fT,fA,dS,eP,aE,bo,c0,eC,ay,dA,aa,an,aN,dh,ag,aw,ea,ah,aC,aQ,cz,dg,aL,dy,Ib N hv (by simp;omega) (by simp)]
 congr 2
 simp only[cn];omega
theorem er(N:Nat)(hN:1000≤N){x:Int}(h0: -9223372036854775808≤x)(h1:x<9223372036854775808):B3 N x=some (bU x):=by
 unfold B3
 have hd: ∀n:Nat,n<18446744073709551616→(jK n).length≤2:=λn h=>rp 2 n (by simpa using h)
 by_cases h:x<0
 ·have e:W .u64 (0-W .u64 x)= -x:=by rw[kD,kD];omega
  simp only[az h,aa,e,size_eq N hN (show 0≤ -x by omega) ω,ag]
  have:=hd (-x).toNat ω
  rw[kj N true (gE _) ω ω,eQ,ae rfl,show-(((-x).toNat:Nat):Int)=x from by omega];rfl
 ·have e:W .u64 x=x:=dA ω ω
  simp only[av (show 0≤x by omega),an,e,size_eq N hN (show 0≤x by omega) ω,ag]
  have:=hd x.toNat ω
  rw[kj N false (gE _) ω ω,eQ,af oB,xB ω];rfl
theorem qC(N:Nat)(l:List Int)(i:Nat):Og N l (i:Int)=some (l.getD i 0):=by
 unfold Og
 by_cases h:i<l.length
 ·simp (disch:=omega) only[az,av,fT,fA,dS,eP,aE,bo,c0,eC,ay,dA,aa,an,aN,dh,ag,aw,ea,ah,aC,aQ,cz,dg,aL,dy]
 ·simp (disch:=omega) only[az,av,fT,fA,dS,eP,aE,bo,c0,eC,ay,dA,aa,an,aN,dh,ag,aw,ea,ah,aC,aQ,cz,dg,aL,dy]
  rw[aR,fC ω];rfl
theorem jR(l:List Int)(i:Nat):cn (l.drop i)=l.getD i 0+4294967296*cn (l.drop (i+1)):=by
 by_cases h:i<l.length
 ·rw[sR h,cn,aR,bc h];rfl
 ·rw[gd ω,gd ω,aR,fC ω];rfl
theorem Ea(N:Nat){a b:List Int}(ha:VD a)(hb:VD b)(sr:a.length≤1000000)(Gi:b.length≤1000000): ∀(m n i:Nat) (out:List Int) (c:Int),a.length+b.length+2-i≤m→m<n→out.length=i→i≤a.length+b.length+1→0≤c→c≤1→(a.length≤i→b.length≤i→i=max a.length b.length∨c=0)→
  ∃r,pz.l4 N n a b out c (i:Int)=some (out++r)∧VD r∧cn r=cn (a.drop i)+cn (b.drop i)+c∧r.length≤m
 |m,0,i,out,c,_,hn,_,_,_,_,_=>ω
 |m,n+1,i,out,c,hm,hn,ho,hi,IH,yl,hz=>by
  unfold pz.l4 pz.de
  by_cases Eb:a.length≤i∧b.length≤i∧c=0
  ·obtain⟨h1,h2,rfl⟩:=Eb
   simp (disch:=omega) only[az,av,fT,fA,dS,eP,aE,bo,c0,eC,ay,dA,aa,an,aN,dh,ag,aw,ea,ah,aC,aQ,cz,dg,aL,dy]
   exact⟨[],by simp,VD.nil,by rw[gd h1,gd h2];rfl,c8 _⟩
  ·obtain⟨ga0,ga1⟩:=ha.getD i
   obtain⟨gb0,gb1⟩:=hb.getD i
   have step: ∃r,pz.j6 N (pz.l4 N n) a b out c (i:Int)=some (out++r)∧VD r∧cn r=cn (a.drop i)+cn (b.drop i)+c∧r.length≤m:=by
    unfold pz.j6 pz.LC
    have tz:i≤a.length+b.length:=by
     by_cases h1:a.length≤i∧b.length≤i
     ·rcases hz h1.1 h1.2 with h|h
      ·omega
      ·exact absurd ⟨h1.1,h1.2,h⟩ Eb
     ·omega
    simp only[qC,ag]
    generalize Xb:a.getD i 0=x at*
    generalize Xc:b.getD i 0=y at*
    rw[dA (x:=x+y) ω ω,dA (x:=c+(x+y)) ω ω,jQ ω ω,H9]
    simp (disch:=omega) only[az,av,fT,fA,dS,eP,aE,bo,c0,eC,ay,dA,aa,an,aN,dh,ag,aw,ea,ah,aC,aQ,cz,dg,aL,dy]
    obtain⟨r,hr,hv,hs,Gp⟩:=Ea N ha hb sr Gi (m-1) n (i+1) (out++[(c+(x+y))%4294967296]) ((c+(x+y))/4294967296) ω ω (by simp[ho]) ω ω ω (λh1 h2=>by
     by_cases h3:a.length≤i∧b.length≤i
     ·right
      rw[←Xb,←Xc,aR,fC h3.1,aR,fC h3.2]
      simp only[Option.getD_none];omega
     ·left;omega)
    refine⟨(c+(x+y))%4294967296::r,by rw[hr];simp,VD.cons ω ω hv,?_,by rw[aL];omega⟩
    rw[cn,hs,jR a i,jR b i,Xb,Xc];omega
   by_cases h1:i<a.length
   ·simp (disch:=omega) only[az,aa];exact step
   ·by_cases h2:i<b.length
    ·simp (disch:=omega) only[az,av,aa,an];exact step
    ·have:0<c:=ω
     simp (disch:=omega) only[az,av,aa,an];exact step
theorem Ic: ∀{l:List Int},VD l→cn l<4294967296^l.length
 |[],_=>by simp[cn]
 |d::r,h=>by
  have ih:=Ic h.tail
  obtain⟨h1,h2⟩:=h d (bg ..)
  rw[cn,aL,tb]
  generalize (4294967296:Int)^r.length=p at*
  omega
theorem Ec(N:Nat)(hN:4000000≤N){a b:List Int}(ha:VD a)(hb:VD b)(sr:a.length≤1000000)(Gi:b.length≤1000000): ∃r,pz N a b=some r∧VD r∧cn r=cn a+cn b∧r.length≤2000002:=by
 unfold pz pz.b
 obtain⟨r,hr,hv,hs,hl⟩:=Ea N ha hb sr Gi (a.length+b.length+2) N 0 [] 0 ω ω rfl ω ω ω (λ_ _=> .inr rfl)
 exact⟨r,hr,hv,by simpa using hs,ω⟩
theorem yU(N:Nat){a b:List Int}(ha:VD a)(hb:VD b)(sr:a.length≤1000000): ∀(m n i:Nat) (out:List Int) (c:Int),a.length-i≤m→m<n→out.length=i→i≤a.length→0≤c→c≤1→0≤cn (a.drop i)-cn (b.drop i)-c→
  ∃r,w9.l4 N n a b out c (i:Int)=some (out++r)∧VD r∧cn r=cn (a.drop i)-cn (b.drop i)-c∧r.length≤m
 |m,0,i,out,c,_,hn,_,_,_,_,_=>ω
 |m,n+1,i,out,c,hm,hn,ho,hi,IH,yl,hz=>by
  unfold w9.l4 w9.de
  by_cases h1:i<a.length
  ·obtain⟨ga0,ga1⟩:=ha.getD i
   obtain⟨gb0,gb1⟩:=hb.getD i
   rw[jR a i,jR b i]at*
   simp only[qC,ag,aw]
   generalize Xb:a.getD i 0=x at*
   generalize Xc:b.getD i 0=y at*
   rw[dA (x:=y+c) ω ω,dA (x:=x+4294967296) ω ω]
   by_cases dv:x<y+c
   ·rw[dA (x:=x+4294967296-(y+c)) ω ω]
    simp (disch:=omega) only[az,av,fT,fA,dS,eP,aE,bo,c0,eC,ay,dA,aa,an,aN,dh,ag,aw,ea,ah,aC,aQ,cz,dg,aL,dy,Xb,Xc]
    obtain⟨r,hr,hv,hs,Gp⟩:=yU N ha hb sr (m-1) n (i+1) (out++[x+4294967296-(y+c)]) 1 ω ω (by simp[ho]) ω ω ω ω
    refine⟨(x+4294967296-(y+c))::r,by rw[hr];simp,VD.cons ω ω hv,by rw[cn,hs];omega,by rw[aL];omega⟩
   ·rw[dA (x:=x-(y+c)) ω ω]
    simp (disch:=omega) only[az,av,fT,fA,dS,eP,aE,bo,c0,eC,ay,dA,aa,an,aN,dh,ag,aw,ea,ah,aC,aQ,cz,dg,aL,dy,Xb,Xc]
    obtain⟨r,hr,hv,hs,Gp⟩:=yU N ha hb sr (m-1) n (i+1) (out++[x-(y+c)]) 0 ω ω (by simp[ho]) ω ω ω ω
    refine⟨(x-(y+c))::r,by rw[hr];simp,VD.cons ω ω hv,by rw[cn,hs];omega,by rw[aL];omega⟩
  ·simp (disch:=omega) only[az,av,fT,fA,dS,eP,aE,bo,c0,eC,ay,dA,aa,an,aN,dh,ag,aw,ea,ah,aC,aQ,cz,dg,aL,dy]
   have h0:=iZ (hb.drop i)
   rw[gd (l:=a) ω]at hz ⊢
   simp only[cn]at hz ⊢
   exact⟨[],by simp,VD.nil,by simp only[cn];omega,c8 _⟩
theorem vU(N:Nat)(hN:4000000≤N){a b:List Int}(ha:VD a)(hb:VD b)(sr:a.length≤1000000)(h:cn b≤cn a): ∃r,w9 N a b=some r∧VD r∧cn r=cn a-cn b∧r.length≤1000000:=by
 unfold w9 w9.b
 obtain⟨r,hr,hv,hs,hl⟩:=yU N ha hb sr a.length N 0 [] 0 ω ω rfl ω ω ω (by simp;omega)
 exact⟨r,hr,hv,by simpa using hs,ω⟩
theorem mf: ∀(l:List Int) (x:Int),cn (l++[x])=cn l+4294967296^l.length*x
 |[],x=>by simp[cn]
 |d::r,x=>by
  rw[nj,cn,mf r x,cn,aL,tb,n6 _ 4294967296,jg,kv];omega
theorem Ed{a b:List Int}(ha:VD a)(hb:VD b){k:Nat}(h1:k<a.length)(h2:k<b.length)(dv:a.getD k 0<b.getD k 0):cn (a.take (k+1))<cn (b.take (k+1)):=by
 rw[iN a h1,iN b h2,mf,mf]
 have l1:(a.take k).length=k:=by rw[bV];omega
 have l2:(b.take k).length=k:=by rw[bV];omega
 have v1:=Ic (ha.take k)
 have v2:=iZ (hb.take k)
 rw[l1]at*
 rw[l2]
 generalize (4294967296:Int)^k=p at*
 have hp:0<p:=by have:=iZ (ha.take k);omega
 have:=C1 (show a.getD k 0+1≤b.getD k 0 by omega) (Int.le_of_lt hp)
 rw[kv,Int.mul_one]at this
 omega
def uz(x:Int):Int:=if x<0 then-1 else if 0<x then 1 else 0
theorem Ee(N:Nat){a b:List Int}(ha:VD a)(hb:VD b)(hl:a.length=b.length)(sr:a.length≤1000000): ∀(k n:Nat),k≤a.length→k<n→wK.l6 N n a b ((k:Int)-1)=some (uz (cn (a.take k)-cn (b.take k)))
 |k,0,_,hn=>ω
 |0,n+1,_,_=>by
  unfold wK.l6 wK.B4
  simp (disch:=omega) only[az,av,fT,fA,dS,eP,aE,bo,c0,eC,ay,dA,aa,an,aN,dh,ag,aw,ea,ah,aC,aQ,cz,dg,aL,dy]
  simp[uz,cn]
 |k+1,n+1,hk,hn=>by
  unfold wK.l6 wK.B4
  have e:((k+1:Nat):Int)-1=(k:Int):=ω
  rw[e]
  simp (disch:=omega) only[az,av,fT,fA,dS,eP,aE,bo,c0,eC,ay,dA,aa,an,aN,dh,ag,aw,ea,ah,aC,aQ,cz,dg,aL,dy]
  by_cases h1:a.getD k 0<b.getD k 0
  ·rw[az h1,aa]
   have:=Ed ha hb (k:=k) ω ω h1
   rw[uz,ae ω]
  ·rw[av ω,an]
   by_cases h2:b.getD k 0<a.getD k 0
   ·rw[az h2,aa]
    have:=Ed hb ha (k:=k) ω ω h2
    rw[uz,af ω,ae ω]
   ·rw[av ω,an,Ee N ha hb hl sr k n ω ω]
    congr 2
    rw[iN a ω,iN b ω,mf,mf,show a.getD k 0=b.getD k 0 from by omega,bV,bV,hl]
    omega
theorem Ef(N:Nat)(hN:4000000≤N)(m k:Nat)(hm:(jK m).length≤1000000)(hk:(jK k).length≤1000000):wK N (jK m) (jK k)=some (uz ((m:Int)-k)):=by
 unfold wK wK.b
 by_cases h:(jK m).length=(jK k).length
 ·simp (disch:=omega) only[az,av,fT,fA,dS,eP,aE,bo,c0,eC,ay,dA,aa,an,aN,dh,ag,aw,ea,ah,aC,aQ,cz,dg,aL,dy]
  rw[Ee N (gE m) (gE k) h hm (jK m).length N (aB _) ω,ni,h,ni,eQ,eQ]
 ·rw[eP ω,dh,aa]
  by_cases dv:(jK m).length<(jK k).length
  ·rw[az ω,aa]
   have h1:=Ia ((jK k).length-1) m ω
   have h2: ¬(k<4294967296^((jK k).length-1)):=λh=>by have:=rp _ _ h;omega
   rw[uz,ae ω]
  ·rw[av ω,an]
   have h1:=Ia ((jK m).length-1) k ω
   have h2: ¬(m<4294967296^((jK m).length-1)):=λh=>by have:=rp _ _ h;omega
   rw[uz,af ω,ae ω]
def Fit(v:Int)(k:Nat):Prop:=v.natAbs<4294967296^k
theorem Fit.len{v:Int}{k:Nat}(h:Fit v k):(jK v.natAbs).length≤k:=rp k _ h
theorem Fit.mono{v:Int}{j k:Nat}(h:Fit v j)(hjk:j≤k):Fit v k:=ka h (Nat.pow_le_pow_right δ hjk)
theorem Fit.neg{v:Int}{k:Nat}(h:Fit v k):Fit (-v) k:=by unfold Fit at*;rwa [Int.natAbs_neg]
theorem Fit.i64{v:Int}(h0: -9223372036854775808≤v)(h1:v<9223372036854775808):Fit v 2:=by
 unfold Fit
 rw[show(4294967296:Nat)^2=18446744073709551616 from by decide];omega
theorem kF(a b:Bool):k5 .bool a b=(a==b):=by simp[k5]
theorem kk(N:Nat)(hN:4000000≤N){u v:Int}(hu:Fit u 900000)(hv:Fit v 900000):GD N (bU u) (bU v)=some (bU (u+v)):=by
 have lu:=hu.len
 have lv:=hv.len
 unfold GD
 simp only[bU,kF]
 by_cases hs:decide (u<0)=decide (v<0)
 ·rw[hs,s4,aa]
  obtain⟨r,hr,Xd,yv,hl⟩:=Ec N hN (gE u.natAbs) (gE v.natAbs) ω ω
  simp only[hr,ag,kj N _ Xd ω ω,yv,eQ]
  congr 1
  show bU _=bU _
  congr 1
  by_cases h:v<0
  ·have:u<0:=by simpa [h]using hs
   rw[ae (aD h)];omega
  ·have: ¬u<0:=by simpa [h]using hs
   rw[af (by simpa using h)];omega
 ·have hb:(decide (u<0)==decide (v<0))=false:=by simpa using hs
  rw[hb,an,Ef N hN _ _ ω ω,ag]
  by_cases hc:v.natAbs≤u.natAbs
  ·have h1:cP 0 (uz ((u.natAbs:Int)-v.natAbs))=true:=fT (by unfold uz;split<;>(try split)<;>omega)
   obtain⟨r,hr,Xd,yv,hl⟩:=vU N hN (gE u.natAbs) (gE v.natAbs) ω (by rw[eQ,eQ];omega)
   simp only[h1,aa,hr,ag,kj N _ Xd ω ω,yv,eQ]
   congr 1
   show bU _=bU _
   congr 1
   by_cases h:u<0
   ·have: ¬v<0:=λhv=>hs (by simp[h,hv])
    rw[ae (aD h)];omega
   ·have:v<0:=C5 λhv=>hs (by simp[h,hv])
    rw[af (by simpa using h)];omega
  ·have h1:cP 0 (uz ((u.natAbs:Int)-v.natAbs))=false:=fA (by unfold uz;rw[ae ω];omega)
   obtain⟨r,hr,Xd,yv,hl⟩:=vU N hN (gE v.natAbs) (gE u.natAbs) ω (by rw[eQ,eQ];omega)
   simp only[h1,an,hr,ag,kj N _ Xd ω ω,yv,eQ]
   congr 1
   show bU _=bU _
   congr 1
   by_cases h:v<0
   ·have: ¬u<0:=λhu=>hs (by simp[h,hu])
    rw[ae (aD h)];omega
   ·have:u<0:=C5 λhu=>hs (by simp[h,hu])
    rw[af (by simpa using h)];omega
theorem AX(N:Nat)(hN:4000000≤N){u:Int}(hu:Fit u 900000):Xe N (bU u)=some (bU (-u)):=by
 have lu:=hu.len
 unfold Xe
 simp only[bU]
 simp only[kj N _ (gE u.natAbs) ω ω,ag,eQ]
 congr 1
 show bU _=bU _
 congr 1
 by_cases h:u<0
 ·rw[aD h,aN,af oB];omega
 ·rw[aP h,dh,ae rfl];omega
theorem Eg(N:Nat)(hN:4000000≤N){u:Int}(hu:Fit u 900000):SS N (bU u)=some (bU u.natAbs):=by
 have lu:=hu.len
 unfold SS
 simp only[bU]
 simp only[kj N _ (gE u.natAbs) ω ω,ag,eQ,fD,dW]
 rfl
theorem B5(N:Nat)(hN:4000000≤N){u v:Int}(hu:Fit u 900000)(hv:Fit v 900000):SU N (bU u) (bU v)=some (bU (u-v)):=by
 unfold SU
 simp only[AX N hN hv,ag,kk N hN hu hv.neg,Int.sub_eq_add_neg]
theorem tT(N:Nat)(u:Int):Re N (bU u)=some (uz u):=by
 unfold Re
 simp only[bU]
 by_cases h:u=0
 ·subst h
  rw[show(0:Int).natAbs=0 from rfl,iv]
  simp (disch:=omega) only[az,av,fT,fA,dS,eP,aE,bo,c0,eC,ay,dA,aa,an,aN,dh,ag,aw,ea,ah,aC,aQ,cz,dg,aL,dy]
  rfl
 ·have:0<(jK u.natAbs).length:=by
   apply qS.2
   intro hd;rw[w8]at hd;omega
  rw[eP ω,an]
  by_cases hn:u<0
  ·rw[aD hn,aa,uz,ae hn]
  ·rw[aP hn,an,uz,af hn,ae ω]
theorem LD(N:Nat)(hN:4000000≤N){u v:Int}(hu:Fit u 900000)(hv:Fit v 900000):VB N (bU u) (bU v)=some (uz (u-v)):=by
 unfold VB
 simp only[B5 N hN hu hv,ag,tT]
theorem Oh(l:List Int)(h: ∀x∈l,-9223372036854775808≤x∧x<9223372036854775808): -(9223372036854775808*l.length)≤l.sum∧l.sum≤9223372036854775808*l.length:=by
 induction l with
 |nil=>simp
 |cons x l ih=>
  have:=ih (λy hy=>h y (aU _ hy))
  obtain⟨h1,h2⟩:=h x (bg ..)
  rw[eA,aL]
  omega
theorem xa{v:Int}{n:Nat}(hn:n≤1000000)(h0: -(9223372036854775808*n)≤v)(h1:v≤9223372036854775808*n):Fit v 3:=by
 unfold Fit
 rw[show(4294967296:Nat)^3=79228162514264337593543950336 from by decide]
 omega
theorem Am(l:List Int){i:Nat}(h:i<l.length):(l.take (i+1)).sum=(l.take i).sum+l.getD i 0:=by
 rw[iN l h];simp
theorem fl:bU 0=(false,([],())):=by unfold bU;rw[show(0:Int).natAbs=0 from rfl,iv];rfl
theorem LF{a b:Int}(ha:0≤a)(Vy:a<4294967296)(hb:0≤b)(jF:b<4294967296):oD .or .u64 a (b*4294967296)=a+b*4294967296:=by
 rw[Od ha ω ω ω]
 have h:=Nat.two_pow_add_eq_or_of_lt (i:=32) (b:=a.toNat) ω b.toNat
 have e:(b*4294967296).toNat=2^32*b.toNat:=ω
 rw[e,Nat.or_comm,←h];omega
theorem Xf{x:Int}(h0:0≤x):shl .u64 x 32=x*4294967296:=by rw[Of ω ω];rfl
def CR(v:Int):Int×Bool:=if-9223372036854775808≤v∧v<9223372036854775808 then(v,true)else(0,false)
theorem Oi{n:Nat}(h:(jK n).length≤2):(jK n).getD 0 0+4294967296*(jK n).getD 1 0=n:=by
 have h1:=jR (jK n) 0
 have h2:=jR (jK n) 1
 rw[bY,eQ]at h1
 rw[gd (l:=jK n) (i:=1+1) h]at h2
 simp only[cn,dG]at h1 h2
 omega
theorem LG(N:Nat)(v:Int):Xg N (bU v)=some (CR v):=by
 unfold Xg
 simp only[bU]
 by_cases hl:2<(jK v.natAbs).length
 ·rw[az ω,aa,CR,af]
  intro hh
  have:=rp 2 v.natAbs (by rw[show(4294967296:Nat)^2=18446744073709551616 from by decide];omega)
  omega
 ·have h2:=Oi (n:=v.natAbs) ω
  obtain⟨a0,a1⟩:=(gE v.natAbs).getD 0
  obtain⟨b0,b1⟩:=(gE v.natAbs).getD 1
  have e0:=qC N (jK v.natAbs) 0
  have e1:=qC N (jK v.natAbs) 1
  simp only[Int.natCast_zero,Int.natCast_one]at e0 e1
  rw[av ω,an,e0,e1]
  generalize (jK v.natAbs).getD 0 0=a at*
  generalize (jK v.natAbs).getD 1 0=b at*
  simp only[ag]
  rw[av (show(0:Int)≤32 by omega),an,Xf b0,dA (x:=b*4294967296) ω ω,LF a0 a1 b0 b1]
  have ev:a+b*4294967296=v.natAbs:=ω
  rw[ev]
  by_cases hn:v<0
  ·rw[aD hn,aa]
   by_cases B0:9223372036854775808<(v.natAbs:Int)
   ·rw[az B0,aa,CR,af ω]
   ·rw[av ω,an,CR,ae ω,kD,eg]
    congr 2
    split<;>omega
  ·rw[aP hn,an]
   by_cases B0:9223372036854775807<(v.natAbs:Int)
   ·rw[az B0,aa,CR,af ω]
   ·rw[av ω,an,CR,ae ω,ay ω ω]
    congr 2;omega
theorem Eh: ∀(l:List Int) (k:Nat) (x:Int),k<l.length→cn (l.set k x)=cn l+4294967296^k*(x-l.getD k 0)
 |d::r,0,x,_=>by simp[cn];omega
 |d::r,k+1,x,h=>by
  have ih:=Eh r k x (by simpa using h)
  rw[List.set_cons_succ,cn,cn,ih,List.getD_cons_succ,tb,n6 (4294967296^k) 4294967296,jg,kv];omega
theorem getD_set_ne(l:List Int){j k:Nat}(x:Int)(h:j≠k):(l.set j x).getD k 0=l.getD k 0:=by
 simp[aR,List.getElem?_set_ne h]
theorem Oj(l:List Int){k:Nat}(h:l.length≤k):l.getD k 0=0:=by
 rw[aR,fC h];rfl
theorem vV(N:Nat)(K:aK→aK→aK→List Int→Int→Option aK){a b:List Int}(na nb:Bool)(z:aK)(ha:VD a)(hb:VD b)(i:Nat)(hi:i<a.length)(sr:a.length≤100000)(Gi:b.length≤100000):
  ∀(m n j:Nat) (out:List Int) (c:Int),b.length+1-j≤m→m<n→VD out→out.length=a.length+b.length+1→0≤c→c<4294967296→(j≤b.length→ ∀k,i+b.length≤k→out.getD k 0=0)→(b.length<j→c=0∧j=b.length+1∧ ∀k,i+b.length+1≤k→out.getD k 0=0)→
  ∃su,ja.l7 N K n (na,(a,())) (nb,(b,())) z out (i:Int) c (j:Int)=K (na,(a,())) (nb,(b,())) z su ((i+1:Nat):Int)∧VD su∧su.length=out.length∧
   cn su=cn out+4294967296^i*(4294967296^j*(a.getD i 0*cn (b.drop j)+c))∧ ∀k,i+1+b.length≤k→su.getD k 0=0
 |m,0,j,out,c,_,hn,_,_,_,_,_,_=>ω
 |m,n+1,j,out,c,hm,hn,ho,uS,IH,yl,hz,Vr=>by
  unfold ja.l7 ja.pA
  by_cases Eb:b.length≤j∧c=0
  ·obtain⟨h1,rfl⟩:=Eb
   simp (disch:=omega) only[az,av,fT,fA,dS,eP,aE,bo,c0,eC,ay,dA,aa,an,aN,dh,ag,aw,ea,ah,aC,aQ,cz,dg,aL,dy]
   refine⟨out,rfl,ho,rfl,by rw[gd h1];simp[cn],λk hk=> ?_⟩
   by_cases hj:j≤b.length
   ·exact hz hj k ω
   ·exact(Vr ω).2.2 k ω
  ·have tA:j≤b.length:=by
    by_cases hj:j≤b.length
    ·exact hj
    ·exact absurd ⟨ω,(Vr ω).1⟩ Eb
   obtain⟨ga0,ga1⟩:=ha.getD i
   obtain⟨gb0,gb1⟩:=hb.getD j
   obtain⟨go0,go1⟩:=ho.getD (i+j)
   have step: ∃su,ja.j9 N K (ja.l7 N K n) (na,(a,())) (nb,(b,())) z out (i:Int) c (j:Int)=K (na,(a,())) (nb,(b,())) z su ((i+1:Nat):Int)∧VD su∧su.length=out.length∧
     cn su=cn out+4294967296^i*(4294967296^j*(a.getD i 0*cn (b.drop j)+c))∧ ∀k,i+1+b.length≤k→su.getD k 0=0:=by
    unfold ja.j9 ja.j9b
    have eij:(i:Int)+(j:Int)=((i+j:Nat):Int):=rfl
    have hp:=mul_lt (m:=4294967295) (n:=4294967295) ga0 gb0 ω ω
    simp only[qC,ag,eij,aw]
    simp (disch:=omega) only[az,av,fT,fA,dS,eP,aE,bo,c0,eC,ay,dA,aa,an,aN,dh,ag,aw,ea,ah,aC,aQ,cz,dg,aL,dy]
    generalize hx:out.getD (i+j) 0=x at*
    generalize ha':a.getD i 0=ai at*
    generalize cY:b.getD j 0=bj at*
    generalize hpe:ai*bj=p at*
    have hpz:b.length≤j→p=0∧x=0:=λh=>by
     rw[Oj b h]at cY
     refine⟨by rw[←hpe,←cY,Int.mul_zero],?_⟩
     rw[←hx];exact hz tA _ ω
    rw[jQ ω ω,H9]
    have abr:(out.set (i+j) ((c+(x+p))%4294967296)).length=a.length+b.length+1:=by rw[cz];exact uS
    obtain⟨su,h1,h2,h3,h4,h5⟩:=vV N K na nb z ha hb i hi sr Gi (m-1) n (j+1) (out.set (i+j) ((c+(x+p))%4294967296)) ((c+(x+p))/4294967296) ω ω (ho.set _ ω ω) abr ω ω
     (λh k hk=>by rw[getD_set_ne _ _ ω];exact hz tA k hk)
     (λh=>by
      obtain⟨Vl,Q7⟩:=hpz ω
      refine⟨ω,ω,λk hk=> ?_⟩
      rw[getD_set_ne _ _ ω];exact hz tA k ω)
    refine⟨su,h1,h2,by rw[h3,cz],?_,h5⟩
    rw[h4,Eh _ _ _ ω,hx,ha',jR b j,cY,kv ai,hpe,Int.pow_add,tb]
    have e1:ai*(4294967296*cn (b.drop (j+1)))=4294967296*(ai*cn (b.drop (j+1))):=Int.mul_left_comm _ _ _
    rw[e1]
    generalize ai*cn (b.drop (j+1))=y
    generalize (4294967296:Int)^i=P
    generalize (4294967296:Int)^j=R
    rw[jg R,jg P,Int.add_assoc,←kv,←kv]
    congr 3
    omega
   by_cases h1:j<b.length
   ·simp (disch:=omega) only[az,aa];exact step
   ·have:0<c:=ω
    simp (disch:=omega) only[az,av,aa,an];exact step
theorem vW(N:Nat)(hN:4000000≤N){a b:List Int}(na nb:Bool)(z:aK)(ha:VD a)(hb:VD b)(sr:a.length≤100000)(Gi:b.length≤100000):
  ∀(m n i:Nat) (out:List Int),a.length-i≤m→m<n→i≤a.length→VD out→out.length=a.length+b.length+1→(∀k,i+b.length≤k→out.getD k 0=0)→cn out=cn (a.take i)*cn b→
  ja.l3 N n (na,(a,())) (nb,(b,())) z out (i:Int)=some (bU (if na=nb then cn a*cn b else-(cn a*cn b)))
 |m,0,i,out,_,hn,_,_,_,_,_=>ω
 |m,n+1,i,out,hm,hn,hi,ho,uS,hz,hv=>by
  unfold ja.l3 ja.zW
  by_cases h1:i<a.length
  ·simp only
   rw[az ω,aa]
   obtain⟨su,e1,e2,e3,e4,e5⟩:=vV N (ja.l3 N n) na nb z ha hb i h1 sr Gi (b.length+1) N 0 out 0 ω ω ho uS ω ω (λ_ k hk=>hz k hk) (λh=>ω)
   rw[show((0:Nat):Int)=0 from rfl]at e1
   rw[e1]
   refine vW N hN na nb z ha hb sr Gi (m-1) n (i+1) su ω ω ω e2 (by rw[e3];exact uS) (λk hk=>e5 k ω) ?_
   rw[e4,hv,iN a h1,mf,bV,fb ω,bY,Int.pow_zero,Int.one_mul,iD,td,jg]
  ·simp only
   rw[av ω,an]
   simp only[kj N _ ho ω ω,ag]
   rw[hv,jf ω,kF]
   congr 2
   cases na<;>cases nb<;>simp
theorem tU(N:Nat)(hN:4000000≤N){u v:Int}(hu:Fit u 90000)(hv:Fit v 90000):ja N (bU u) (bU v)=some (bU (u*v)):=by
 have lu:=hu.len
 have lv:=hv.len
 unfold ja ja.b
 simp only[bU]
 simp (disch:=omega) only[az,av,fT,fA,dS,eP,aE,bo,c0,eC,ay,dA,aa,an,aN,dh,ag,aw,ea,ah,aC,aQ,cz,dg,aL,dy]
 have e:(((jK u.natAbs).length:Int)+((jK v.natAbs).length:Int)+1).toNat=(jK u.natAbs).length+(jK v.natAbs).length+1:=ω
 have:=vW N hN (decide (u<0)) (decide (v<0)) (false,([],())) (gE u.natAbs) (gE v.natAbs) ω ω (jK u.natAbs).length N 0 (List.replicate ((jK u.natAbs).length+(jK v.natAbs).length+1) 0) ω ω ω (VD.Xa _) (by simp)
  (λk _=>by rw[aR,List.getElem?_replicate];split<;>rfl) (by
   have: ∀n,cn (List.replicate n 0)=0:=λn=>by
    induction n with
    |zero=>rfl
    |succ n ih=>rw[List.replicate_succ,cn,ih];rfl
   rw[this];simp[cn])
 rw[eQ,eQ]at this
 have e2:(((jK u.natAbs).length+(jK v.natAbs).length:Nat):Int)+1=(jK u.natAbs).length+(jK v.natAbs).length+1:=ω
 first
 |(rw[e];refine this.trans ?_)
 |(refine(this).trans ?_)
 show some (bU _)=some (bU _)
 congr 2
 have key:(u.natAbs:Int)*v.natAbs=if decide (u<0)=decide (v<0)then u*v else-(u*v):=by
  by_cases h1:u<0<;>by_cases h2:v<0
  ·rw[ae (by simp[h1,h2]),show(u.natAbs:Int)= -u from by omega,show(v.natAbs:Int)= -v from by omega,Int.neg_mul_neg]
  ·rw[af (by simp[h1,h2]),show(u.natAbs:Int)= -u from by omega,show(v.natAbs:Int)=v from by omega,Int.neg_mul]
  ·rw[af (by simp[h1,h2]),show(u.natAbs:Int)=u from by omega,show(v.natAbs:Int)= -v from by omega,Int.mul_neg]
  ·rw[ae (by simp[h1,h2]),show(u.natAbs:Int)=u from by omega,show(v.natAbs:Int)=v from by omega]
 rw[key]
 split<;>simp
end VM
end
section
namespace VM
open Go VM.F
def bp(v:Int):aS:=(v/18446744073709551616,(v%18446744073709551616,()))
theorem wmk{a b v:Int}(h1:a=v/18446744073709551616)(h2:b=v%18446744073709551616):((a,(b,())):aS)=bp v:=by
 unfold bp;rw[h1,h2]
theorem Ie{a b v:Int}{α:Type}{c:α}(h1:a=v/18446744073709551616)(h2:b=v%18446744073709551616):(some (((a,(b,())):aS),c):Option (aS×α))=some (bp v,c):=by
 rw[wmk h1 h2]
theorem LH{a b c d:Int}(h1:a=c)(h2:b=d):(some (a,b):Option (Int×Int))=some (c,d):=by rw[h1,h2]
theorem sv(N:Nat){hi lo:Int}(h0:0≤hi)(h1:hi<9223372036854775808)(l0:0≤lo)(l1:lo<18446744073709551616):lS N false hi lo=some (bp (hi*18446744073709551616+lo),true):=by
 unfold lS lS.b
 rw[dh,aa,fA ω,an,ay ω ω]
 exact Ie ω ω
theorem yV(N:Nat){hi lo:Int}(h0:0≤hi)(l0:0≤lo)(l1:lo<18446744073709551616)(hm:hi*18446744073709551616+lo≤170141183460469231731687303715884105728):lS N true hi lo=some (bp (-(hi*18446744073709551616+lo)),true):=by
 unfold lS lS.b
 have hj:lS.j7 N hi lo dC=some (bp (-(hi*18446744073709551616+lo)),true):=by
  unfold lS.j7 lS.SV
  rw[iu N ω ω l0 l1 ω ω,ag]
  by_cases hl:lo=0
  ·subst hl
   rw[af ω]
   rw[iu N ω ω h0 ω ω ω,ag,eg]
   exact Ie (by split<;>omega) ω
  ·rw[ae ω]
   rw[iu N ω ω h0 ω ω ω,ag,eg]
   exact Ie (by split<;>omega) ω
 rw[aN,an,av ω,an]
 by_cases he:hi=9223372036854775808
 ·rw[dS he,aa,av ω,an];exact hj
 ·rw[eP he,an];exact hj
theorem An{a b:Int}(a0: -9223372036854775808≤a)(a1:a<9223372036854775808)(b0: -9223372036854775808≤b)(b1:b<9223372036854775808):
  0≤(a.natAbs:Int)*b.natAbs∧(a.natAbs:Int)*b.natAbs≤85070591730234615865843651857942052864:=by
 have:=mul_lt (m:=9223372036854775808) (n:=9223372036854775808) (show 0≤(a.natAbs:Int)by omega) (show 0≤(b.natAbs:Int)by omega) ω ω
 omega
theorem B6(N:Nat){a b:Int}(a0: -9223372036854775808≤a)(a1:a<9223372036854775808)(b0: -9223372036854775808≤b)(b1:b<9223372036854775808):Jv N a b=some (bp (a*b)):=by
 unfold Jv
 have hm:=An a0 a1 b0 b1
 simp only[B2 N a0 a1,B2 N b0 b1,ag,yS N (show 0≤(a.natAbs:Int)by omega) ω (show 0≤(b.natAbs:Int)by omega) ω,kF]
 obtain⟨m,Xh⟩: ∃m,m=(a.natAbs:Int)*b.natAbs:=⟨_,rfl⟩
 rw[←Xh]at hm ⊢
 have hd:m/18446744073709551616*18446744073709551616+m%18446744073709551616=m:=ω
 by_cases h1:a<0<;>by_cases h2:b<0
 ·rw[az h1,az h2,s4,aN,sv N ω ω ω ω,ag,hd]
  have:m=a*b:=by rw[Xh,show(a.natAbs:Int)= -a from by omega,show(b.natAbs:Int)= -b from by omega,Int.neg_mul_neg]
  rw[this]
 ·rw[az h1,av (x:=b) ω,show(!(true==false))=true from rfl,yV N ω ω ω ω,ag,hd]
  have:m= -(a*b):=by rw[Xh,show(a.natAbs:Int)= -a from by omega,show(b.natAbs:Int)=b from by omega,Int.neg_mul]
  rw[this,Int.neg_neg]
 ·rw[av (x:=a) ω,az h2,show(!(false==true))=true from rfl,yV N ω ω ω ω,ag,hd]
  have:m= -(a*b):=by rw[Xh,show(a.natAbs:Int)=a from by omega,show(b.natAbs:Int)= -b from by omega,Int.mul_neg]
  rw[this,Int.neg_neg]
 ·rw[av (x:=a) ω,av (x:=b) ω,s4,aN,sv N ω ω ω ω,ag,hd]
  have:m=a*b:=by rw[Xh,show(a.natAbs:Int)=a from by omega,show(b.natAbs:Int)=b from by omega]
  rw[this]
theorem LJ(N:Nat){v:Int}(v0: -170141183460469231731687303715884105728≤v)(v1:v<170141183460469231731687303715884105728):Ok N (bp v)=some ((v.natAbs:Int)/18446744073709551616,(v.natAbs:Int)%18446744073709551616):=by
 unfold Ok bp
 dsimp only
 by_cases h:0≤v
 ·rw[fT ω,aa,dA ω ω]
  exact LH ω ω
 ·rw[fA ω,an,iu N ω ω ω ω ω ω,ag]
  dsimp only
  rw[kD]
  by_cases hl:v%18446744073709551616=0
  ·rw[af ω,iu N ω ω ω ω ω ω,ag]
   exact LH ω ω
  ·rw[ae ω,iu N ω ω ω ω ω ω,ag]
   exact LH ω ω
theorem Ol(N:Nat){v:Int}(v0: -170141183460469231731687303715884105728≤v)(v1:v<170141183460469231731687303715884105728):SW N (bp v)=some (CR v):=by
 unfold SW bp
 rw[av ω,an]
 dsimp only
 have hw0: -9223372036854775808≤W .i64 (v%18446744073709551616)∧W .i64 (v%18446744073709551616)<9223372036854775808:=by rw[eg];split<;>omega
 rw[oU hw0.1 hw0.2]
 have hwv:W .i64 (v%18446744073709551616)=if 9223372036854775808≤v%18446744073709551616 then v%18446744073709551616-18446744073709551616 else v%18446744073709551616:=by rw[eg];split<;>split<;>omega
 rw[hwv]
 unfold CR
 by_cases h: -9223372036854775808≤v∧v<9223372036854775808
 ·rw[ae h]
  by_cases hn:v<0
  ·rw[ae (show 9223372036854775808≤v%18446744073709551616 by omega),ae ω,dS ω,aN,an]
   congr 2;omega
  ·rw[af (show ¬9223372036854775808≤v%18446744073709551616 by omega),af ω,dS ω,aN,an]
   congr 2;omega
 ·rw[af h]
  by_cases hm:9223372036854775808≤v%18446744073709551616
  ·rw[ae hm,ae ω,eP ω,dh,aa]
  ·rw[af hm,af ω,eP ω,dh,aa]
end VM
end
section
namespace VM
open Go
theorem cond_not{α:Type}(b:Bool)(x y:α):cond (!b) x y=cond b y x:=by cases b<;>rfl
theorem bb{α:Type}(a b:Int)(x y:α):cond (bh a b) x y=if a<b then x else y:=by
 by_cases h:a<b
 ·rw[az h,ae h];rfl
 ·rw[av ω,af h];rfl
theorem aX{α:Type}(a b:Int)(x y:α):cond (cP a b) x y=if a≤b then x else y:=by
 by_cases h:a≤b
 ·rw[fT h,ae h];rfl
 ·rw[fA ω,af h];rfl
theorem au{α:Type}(a b:Int)(x y:α):cond (bf a b) x y=if a=b then x else y:=by
 by_cases h:a=b
 ·rw[dS h,ae h];rfl
 ·rw[eP h,af h];rfl
theorem dH{α:Type}(p:Prop) [Decidable p](x y:α):cond (decide p) x y=if p then x else y:=by
 by_cases h:p
 ·rw[aD h,ae h];rfl
 ·rw[aP h,af h];rfl
theorem drop_cons{α:Type}{l:List α}{i:Nat}(h:i<l.length)(d:α):l.drop i=l.getD i d::l.drop (i+1):=by
 rw[sR h,aR,bc h];rfl
theorem hZ{α σ β:Type}(l:List α)(d:α)(F:Nat→Int→σ→Option β)(g:List α→σ→Option β)(I:Nat→σ→Prop)
  (hs: ∀n i s,i<l.length→I i s→(∀s',I (i+1) s'→F n ((i+1:Nat):Int) s'=g (l.drop (i+1)) s')→F (n+1) (i:Int) s=g (l.getD i d::l.drop (i+1)) s)
  (he: ∀n s,I l.length s→F (n+1) (l.length:Int) s=g [] s): ∀m n i s,l.length-i≤m→m<n→i≤l.length→I i s→F n (i:Int) s=g (l.drop i) s
 |m,0,i,s,_,hn,_,_=>ω
 |m,n+1,i,s,hm,hn,hi,hI=>by
  by_cases h:i<l.length
  ·rw[drop_cons h d]
   exact hs n i s h hI λs' vL=>hZ l d F g I hs he (m-1) n (i+1) s' ω ω ω vL
  ·have:i=l.length:=ω
   subst this
   rw[pQ];exact he n s hI
theorem yW{α β:Type}(l:List α)(d:α)(F:Nat→Int→Option β)(g:List α→Option β)
  (hs: ∀n i,i<l.length→F n ((i+1:Nat):Int)=g (l.drop (i+1))→F (n+1) (i:Int)=g (l.getD i d::l.drop (i+1)))
  (he: ∀n,F (n+1) (l.length:Int)=g []) (n:Nat) (hn:l.length<n):F n 0=g l:=by
 have:=hZ (σ:=Unit) l d (λn i _=>F n i) (λl _=>g l) (λ_ _=>True) (λn i _ h _ hr=>hs n i h (hr () trivial)) (λn _ _=>he n) l.length n 0 () ω hn ω trivial
 simpa using this
theorem scan{F:Nat→Int→Option Bool}{len:Nat}(P:Nat→Prop) [DecidablePred P]
  (hs: ∀n i r,i<len→(∀j,j<i→P j)→F n ((i+1:Nat):Int)=r→F (n+1) (i:Int)=if P i then r else some false) {e:Bool} (he: ∀n,F (n+1) (len:Int)=some e):
  ∀m n i,len-i≤m→m<n→i≤len→(∀j,j<i→P j)→F n (i:Int)=some (decide (∀j,j<len→i≤j→P j)&&e)
 |m,0,i,_,hn,_,_=>ω
 |m,n+1,i,hm,hn,hi,hp=>by
  by_cases h:i<len
  ·rw[hs n i _ h hp rfl]
   by_cases hP:P i
   ·rw[ae hP,scan P hs he (m-1) n (i+1) ω ω ω (λj hj=>by
     by_cases yG:j=i
     ·subst yG;exact hP
     ·exact hp j ω)]
    congr 2
    rw[lK]
    refine⟨λhj j h2 h1=> ?_,λhj j h2 h1=>hj j h2 ω⟩
    by_cases yG:j=i
    ·subst yG;exact hP
    ·exact hj j h2 ω
   ·rw[af hP,aP (λhj=>hP (hj i h (aB i)))];rfl
  ·have:i=len:=ω
   subst this
   rw[he n,aD (λj h2 h1=>absurd h2 ω)];rfl
theorem e7{F:Nat→Int→Option Bool}{len:Nat}(P:Nat→Prop) [DecidablePred P]{e:Bool}
  (hs: ∀n i r,i<len→(∀j,j<i→P j)→F n ((i+1:Nat):Int)=r→F (n+1) (i:Int)=if P i then r else some false) (he: ∀n,F (n+1) (len:Int)=some e) (n:Nat) (hn:len<n):
  F n 0=some (decide (∀j,j<len→P j)&&e):=by
 have:=scan P hs he len n 0 ω hn ω (λj hj=>absurd hj ω)
 rw[show((0:Nat):Int)=0 from rfl]at this
 rw[this]
 congr 2
 rw[lK]
 exact⟨λh j hj=>h j hj ω,λh j hj _=>h j hj⟩
end VM
end
section
namespace VM
open Go VM.F
def bO(x:Int):Prop:= -170141183460469231731687303715884105728≤x∧x<170141183460469231731687303715884105728
instance(x:Int):Decidable (bO x):=by unfold bO;infer_instance
theorem oV(N:Nat){x:Int}(h0: -9223372036854775808≤x)(h1:x<9223372036854775808):Ei N x=some (bp x):=by
 unfold Ei
 rw[av ω,an,oU h0 h1,kD]
 congr 1
 exact wmk (by split<;>omega) rfl
theorem Om{ws:List Int}(i:Nat):(ws.map bp).getD i dC=bp (ws.getD i 0):=by
 by_cases h:i<ws.length
 ·rw[aR,nX,bc h,aR,bc h];rfl
 ·rw[aR,fC (by rw[bI];omega),aR,fC ω];rfl
theorem GF{ws:List Int}(h: ∀x∈ws,bO x): -(170141183460469231731687303715884105728*(ws.length:Int))≤ws.sum∧ws.sum≤170141183460469231731687303715884105728*(ws.length:Int):=by
 induction ws with
 |nil=>simp
 |cons x ws ih=>
  have h0:=h x (bg ..)
  have ih:=ih (λy hy=>h y (aU _ hy))
  unfold bO at h0
  rw[eA,aL];omega
theorem LK{t w:Int}{lo hi top:Int}(hw:bO w)(pK:lo=t%18446744073709551616)(AI:hi=t/18446744073709551616%18446744073709551616)(abu:top=t/340282366920938463463374607431768211456):
  (lo+w%18446744073709551616+0)%18446744073709551616=(t+w)%18446744073709551616∧
  (hi+(w/18446744073709551616)%18446744073709551616+(lo+w%18446744073709551616+0)/18446744073709551616)%18446744073709551616=(t+w)/18446744073709551616%18446744073709551616∧
  top+(if w/18446744073709551616<0 then-1 else 0)+(hi+(w/18446744073709551616)%18446744073709551616+(lo+w%18446744073709551616+0)/18446744073709551616)/18446744073709551616=(t+w)/340282366920938463463374607431768211456:=by
 unfold bO at hw
 subst pK AI abu
 refine⟨ω,ω,?_⟩
 split<;>omega
def Ej(t:Int):aS×Bool:=if bO t then(bp t,true)else(dC,false)
theorem W64(x:Int):W .u64 x=x%18446744073709551616:=kD x
theorem AY(N:Nat){ws:List Int}(h: ∀x∈ws,bO x)(hl:ws.length≤1000000): ∀(m n i:Nat) (t:Int),ws.length-i≤m→m<n→i≤ws.length→t=(ws.take i).sum→
  je.l3 N n dC (t/340282366920938463463374607431768211456) (t/18446744073709551616%18446744073709551616) (t%18446744073709551616) (ws.map bp) (ws.length:Int) (i:Int)=some (Ej ws.sum)
 |m,0,i,t,_,hn,_,_=>ω
 |m,n+1,i,t,hm,hn,hi,ht=>by
  unfold je.l3 je.zW
  have f1:=GF (ws:=ws.take i) (λx hx=>h x (sW hx))
  rw[bV,fb ω,←ht]at f1
  by_cases h1:i<ws.length
  ·have hw:bO (ws.getD i 0):=by
    rw[aR,bc h1];exact h _ (c6 h1)
   have hs:=Am ws h1
   rw[←ht]at hs
   have st:=LK (t:=t) (w:=ws.getD i 0) hw rfl rfl rfl
   have Ek:=AY N h hl (m-1) n (i+1) (t+ws.getD i 0) ω ω ω hs.symm
   rw[az ω,aa,aE ω (by rw[bI];omega),aa,aw,Om]
   unfold bp
   dsimp only
   have hw':=hw
   unfold bO at hw'
   generalize ws.getD i 0=w at*
   have hq:0≤(t%18446744073709551616+w%18446744073709551616+0)/18446744073709551616∧(t%18446744073709551616+w%18446744073709551616+0)/18446744073709551616≤1:=ω
   rw[qB N ω ω ω ω,ag,W64,qB N ω ω hq.1 hq.2,ag,av (x:=63) ω,an,st.1,st.2.1]
   rw[oU ω ω]
   have hc:0≤(t/18446744073709551616%18446744073709551616+w/18446744073709551616%18446744073709551616+(t%18446744073709551616+w%18446744073709551616+0)/18446744073709551616)/18446744073709551616∧(t/18446744073709551616%18446744073709551616+w/18446744073709551616%18446744073709551616+(t%18446744073709551616+w%18446744073709551616+0)/18446744073709551616)/18446744073709551616≤1:=ω
   have hif: -1≤(if w/18446744073709551616<0 then(-1:Int)else 0)∧(if w/18446744073709551616<0 then(-1:Int)else 0)≤0:=by split<;>omega
   rw[ay (x:=t/340282366920938463463374607431768211456+_) ω ω,ay (x:=(_:Int)/18446744073709551616) ω ω,st.2.2,ay ω ω,ay (x:=(i:Int)+1) ω ω]
   exact Ek
  ·have e:(ws.take i).sum=ws.sum:=by rw[jf ω]
   rw[e]at ht
   rw[av ω,an,av (x:=63) ω,an,←ht]
   have hh: -9223372036854775808≤W .i64 (t/18446744073709551616%18446744073709551616)∧W .i64 (t/18446744073709551616%18446744073709551616)<9223372036854775808:=by rw[eg];split<;>omega
   have hwv:W .i64 (t/18446744073709551616%18446744073709551616)=if 9223372036854775808≤t/18446744073709551616%18446744073709551616 then t/18446744073709551616%18446744073709551616-18446744073709551616 else t/18446744073709551616%18446744073709551616:=by rw[eg];split<;>split<;>omega
   rw[oU hh.1 hh.2,hwv]
   unfold Ej
   by_cases hI:bO t
   ·rw[ae hI]
    unfold bO at hI
    rw[dS (by split<;>split<;>omega),aN,an]
    exact Ie (by split<;>omega) rfl
   ·rw[af hI]
    unfold bO at hI
    rw[eP (by split<;>split<;>omega),dh,aa]
theorem xb(N:Nat){ws:List Int}(h: ∀x∈ws,bO x)(hl:ws.length≤1000000)(hN:1000000<N):je N (ws.map bp)=some (Ej ws.sum):=by
 unfold je je.b
 rw[bI]
 exact AY N h hl ws.length N 0 0 ω ω ω (by simp)
theorem oW(N:Nat)(a lo hi:Int):wL N a lo hi=some (decide (lo≤a∧a≤hi)):=by
 unfold wL
 rw[aX,jl]
 by_cases h:lo≤a
 ·rw[ae h];congr 1;rw[lK];omega
 ·rw[af h,aP ω]
theorem AZ(N:Nat)(a lo hi:Int):Ao N a lo hi=some (decide (lo≤a∧a≤hi)):=oW N a lo hi
def nx(a b c d:Int):Prop:=(0≤a∧a≤3)∧(1≤b∧b≤1000000000000)∧(0≤c∧c≤1000000000)∧(0≤d∧d≤1000000000)
instance(a b c d:Int):Decidable (nx a b c d):=by unfold nx;infer_instance
def la(l:bl)(i:Nat):Prop:=nx (l.getD i bQ).1 (l.getD i bQ).2.1 (l.getD i bQ).2.2.1 (l.getD i bQ).2.2.2.1
instance(l:bl):DecidablePred (la l):=λi=>by unfold la;infer_instance
def oX(a b c d e f:Int):Prop:=0≤a∧(0≤b∧b≤4)∧(0≤c∧c≤1000000)∧(0≤d∧d≤1000000)∧(1≤e∧e≤4611686018427387904)∧0≤f
instance(a b c d e f:Int):Decidable (oX a b c d e f):=by unfold oX;infer_instance
def oY(c:aj):Prop:=oX c.2.1 c.2.2.1 c.2.2.2.1 c.2.2.2.2.1 c.2.2.2.2.2.1 c.2.2.2.2.2.2.1
instance(c:aj):Decidable (oY c):=by unfold oY;infer_instance
def eF(c:aj):Bool:=decide (1≤c.1.length∧c.1.length≤6)&&(decide (∀j,j<c.1.length→la c.1 j)&&decide (oY c))
theorem xc(N:Nat)(hN:100≤N)(c:aj):uA N c=some (eF c):=by
 unfold uA uA.b eF
 rw[oW,ag,cond_not,dH]
 by_cases hl:1≤c.1.length∧c.1.length≤6
 ·rw[ae ω,aD hl,jh]
  refine e7 (F:=λn i=>uA.l4 N n c c.1 (c.1.length:Int) i) (la c.1) (λn i r hi hp hr=> ?_) (λn=> ?_) N ω
  ·unfold uA.l4 uA.de
   rw[az ω,aa,aE ω ω,aa,aw,ay ω ω,ah]
   simp only[oW,ag,cond_not,dH]
   by_cases hP:la c.1 i
   ·rw[ae hP];unfold la nx at hP
    repeat' split
    all_goals first|rfl|exact hr|omega
   ·rw[af hP];unfold la nx at hP
    repeat' split
    all_goals first|rfl|exact hr|omega
  ·unfold uA.l4 uA.de
   rw[av ω,an]
   simp only[oW,ag,cond_not,dH,aX,jl]
   by_cases hP:oY c
   ·rw[aD hP];unfold oY oX at hP
    repeat' split
    all_goals first|rfl|omega|(rw[aD ω])
   ·rw[aP hP];unfold oY oX at hP
    repeat' split
    all_goals first|rfl|omega|(rw[aP ω])
 ·rw[af ω,aP hl,s9]
theorem tV(N:Nat)(hN:100≤N)(c:aj):uB N c=some (eF c):=by
 unfold uB uB.b eF
 rw[bb,bb]
 by_cases hl:1≤c.1.length∧c.1.length≤6
 ·rw[af ω,af ω,aD hl,jh]
  refine e7 (F:=λn i=>uB.l4 N n c i) (la c.1) (λn i r hi hp hr=> ?_) (λn=> ?_) N ω
  ·unfold uB.l4 uB.de
   rw[az ω,aa,aE ω ω,aa,aw,ay ω ω,ah]
   simp only[AZ,ag,cond_not,dH]
   by_cases hP:la c.1 i
   ·rw[ae hP];unfold la nx at hP
    repeat' split
    all_goals first|rfl|exact hr|omega
   ·rw[af hP];unfold la nx at hP
    repeat' split
    all_goals first|rfl|exact hr|omega
  ·unfold uB.l4 uB.de
   rw[av ω,an]
   simp only[AZ,ag,cond_not,dH,aX,jl]
   by_cases hP:oY c
   ·rw[aD hP];unfold oY oX at hP
    repeat' split
    all_goals first|rfl|omega|(rw[aD ω])
   ·rw[aP hP];unfold oY oX at hP
    repeat' split
    all_goals first|rfl|omega|(rw[aP ω])
 ·rw[aP hl,s9]
  by_cases h:(c.1.length:Int)<1
  ·rw[ae h]
  ·rw[af h,ae ω]
def fm(a b:Int)(i:Nat)(c:Int):Prop:=1≤a∧a≤12∧1≤b∧b≤4∧(0<i→c<a)
instance(a b:Int)(i:Nat)(c:Int):Decidable (fm a b i c):=by unfold fm;infer_instance
def dI(m:aW)(i:Nat):Prop:=fm (m.getD i dC).1 (m.getD i dC).2.1 i (m.getD (i-1) dC).1
instance(m:aW):DecidablePred (dI m):=λi=>by unfold dI;infer_instance
def eh(m:aW):Bool:=decide (∀j,j<m.length→dI m j)&&true
theorem yX(N:Nat){m:aW}(hl:m.length≤100000)(hN:200000≤N):kG N m=some (eh m):=by
 unfold kG kG.b
 refine e7 (F:=λn i=>kG.l2 N n m m (m.length:Int) i) (dI m) (λn i r hi hp hr=> ?_) (λn=> ?_) N ω
 ·unfold kG.l2 kG.dY
  rw[az ω,aa,aE ω ω,aa,aw,ay (x:=(i:Int)+1) ω ω,ah]
  by_cases h0:0<i
  ·have e:W .i64 ((i:Int)-1)=((i-1:Nat):Int):=by rw[ay ω ω];omega
   dsimp only
   rw[az (x:=0) ω,aa,e,aw,aE ω ω,aa]
   simp only[bb,aX]
   by_cases hP:dI m i
   ·rw[ae hP];unfold dI fm at hP
    repeat' split
    all_goals first|rfl|exact hr|omega
   ·rw[af hP];unfold dI fm at hP
    repeat' split
    all_goals first|rfl|exact hr|omega
  ·rw[av (x:=0) ω,an]
   simp only[bb,aX]
   by_cases hP:dI m i
   ·rw[ae hP];unfold dI fm at hP
    repeat' split
    all_goals first|rfl|exact hr|omega
   ·rw[af hP];unfold dI fm at hP
    repeat' split
    all_goals first|rfl|exact hr|omega
 ·unfold kG.l2 kG.dY
  rw[av ω,an]
theorem vX(N:Nat){m:aW}(hl:m.length≤100000)(hN:200000≤N):kH N m=some (eh m):=by
 unfold kH kH.b
 refine e7 (F:=λn i=>kH.l2 N n m i) (dI m) (λn i r hi hp hr=> ?_) (λn=> ?_) N ω
 ·unfold kH.l2 kH.dY
  rw[az ω,aa,aE ω ω,aa,aw,ay (x:=(i:Int)+1) ω ω,ah]
  by_cases h0:0<i
  ·have e:W .i64 ((i:Int)-1)=((i-1:Nat):Int):=by rw[ay ω ω];omega
   dsimp only
   rw[az (x:=0) ω,e,aw,aE (i:=((i-1:Nat):Int)) ω ω]
   simp only[bb,aX,aa]
   by_cases hP:dI m i
   ·rw[ae hP];unfold dI fm at hP
    repeat' split
    all_goals first|rfl|exact hr|omega
   ·rw[af hP];unfold dI fm at hP
    repeat' split
    all_goals first|rfl|exact hr|omega
  ·rw[av (x:=0) ω]
   simp only[bb,aX,aa,an]
   by_cases hP:dI m i
   ·rw[ae hP];unfold dI fm at hP
    repeat' split
    all_goals first|rfl|exact hr|omega
   ·rw[af hP];unfold dI fm at hP
    repeat' split
    all_goals first|rfl|exact hr|omega
 ·unfold kH.l2 kH.dY
  rw[av ω,an]
def cT(k n:Int):Prop:=(1≤k∧k≤4∧n=0)∨(k=5∧1≤n∧n≤24)∨(6≤k∧k≤7∧1≤n∧n≤12)
instance(k n:Int):Decidable (cT k n):=by unfold cT;infer_instance
theorem GG(N:Nat)(k n:Int):GH N k n=some (decide (cT k n)):=by
 unfold GH
 simp only[au,aX]
 simp only[jl,fF]
 by_cases hP:cT k n
 ·rw[aD hP];unfold cT at hP
  repeat' split
  all_goals first|rfl|omega|(rw[aD ω])
 ·rw[aP hP];unfold cT at hP
  repeat' split
  all_goals first|rfl|omega|(rw[aP ω])
theorem On(N:Nat)(k n:Int):Oo N k n=some (decide (cT k n)):=by
 have:=GG N k n
 unfold GH at this
 unfold Oo
 exact this
def gZ(a b c d:Int):Prop:=a<c∨(a=c∧b<d)
instance(a b c d:Int):Decidable (gZ a b c d):=by unfold gZ;infer_instance
def uX(k n a b:Int):Int:=if k=a then n-b else k-a
def Ap(x:Int):Prop:= -1000000≤x∧x≤1000000
theorem yY(N:Nat){k n:Int}{r:dJ}(h1:Ap k)(h2:Ap n)(h3:Ap r.1)(h4:Ap r.2.1):GI N k n r=some (uX k n r.1 r.2.1):=by
 unfold GI uX
 unfold Ap at*
 rw[cond_not,au]
 split
 ·rw[ay ω ω]
 ·rw[ay ω ω]
theorem A0(N:Nat){k n:Int}{r:dJ}(h1:Ap k)(h2:Ap n)(h3:Ap r.1)(h4:Ap r.2.1):Jw N k n r=some (uX k n r.1 r.2.1):=yY N h1 h2 h3 h4
def iO(a b c:Int)(i:Nat)(d e:Int):Prop:=cT a b∧c≠0∧(0<i→gZ d e a b)
instance(a b c:Int)(i:Nat)(d e:Int):Decidable (iO a b c i d e):=by unfold iO;infer_instance
def iw(l:ak)(i:Nat):Prop:=iO (l.getD i aH).1 (l.getD i aH).2.1 (l.getD i aH).2.2.1 i (l.getD (i-1) aH).1 (l.getD (i-1) aH).2.1
instance(l:ak):DecidablePred (iw l):=λi=>by unfold iw;infer_instance
def dK(l:ak):Bool:=decide (∀j,j<l.length→iw l j)&&true
theorem B7(N:Nat){l:ak}(hl:l.length≤100000)(hN:200000≤N):jS N l=some (dK l):=by
 unfold jS jS.b
 refine e7 (F:=λn i=>jS.l2 N n l l (l.length:Int) i) (iw l) (λn i r hi hp hr=> ?_) (λn=> ?_) N ω
 ·unfold jS.l2 jS.dY
  rw[az ω,aa,aE ω ω,aa,aw,ay (x:=(i:Int)+1) ω ω,ah,GG,ag,cond_not,dH]
  by_cases hK:cT (l.getD i aH).1 (l.getD i aH).2.1
  ·rw[ae hK]
   by_cases h0:0<i
   ·have hq:=hp (i-1) ω
    have e:W .i64 ((i:Int)-1)=((i-1:Nat):Int):=by rw[ay ω ω];omega
    dsimp only
    rw[az (x:=0) ω,aa,e,aw,aE ω ω,aa]
    unfold iw iO at hq
    have hq:=hq.1
    rw[yY N (by unfold cT at hK;unfold Ap;omega) (by unfold cT at hK;unfold Ap;omega) (by unfold cT at hq;unfold Ap;omega) (by unfold cT at hq;unfold Ap;omega),ag,au,aX]
    by_cases hP:iw l i
    ·rw[ae hP];unfold iw iO gZ at hP;unfold uX
     have GJ:=hP.2
     repeat' split
     all_goals first|rfl|exact hr|omega
    ·rw[af hP];unfold iw iO gZ at hP;unfold uX
     have GJ:=λh=>hP ⟨hK,h⟩
     repeat' split
     all_goals first|rfl|exact hr|omega|(exfalso;exact GJ ω)
   ·rw[av (x:=0) ω,an,au]
    by_cases hP:iw l i
    ·rw[ae hP];unfold iw iO at hP
     rw[af hP.2.1];exact hr
    ·rw[af hP];unfold iw iO at hP
     have GJ:=λh=>hP ⟨hK,h,λh=>absurd h h0⟩
     split
     ·rfl
     ·exact absurd (by assumption) GJ
  ·rw[af hK,af (λh=>hK (by unfold iw iO at h;exact h.1))]
 ·unfold jS.l2 jS.dY
  rw[av ω,an]
theorem yZ(N:Nat){l:ak}(hl:l.length≤100000)(hN:200000≤N):jT N l=some (dK l):=by
 unfold jT jT.b
 refine e7 (F:=λn i=>jT.l2 N n l i) (iw l) (λn i r hi hp hr=> ?_) (λn=> ?_) N ω
 ·unfold jT.l2 jT.dY
  rw[az ω,aa,aE ω ω,aa,aw,ay (x:=(i:Int)+1) ω ω,ah,On,ag,cond_not,dH]
  by_cases hK:cT (l.getD i aH).1 (l.getD i aH).2.1
  ·rw[ae hK]
   by_cases h0:0<i
   ·have e:W .i64 ((i:Int)-1)=((i-1:Nat):Int):=by rw[ay ω ω];omega
    dsimp only
    rw[az (x:=0) ω,e,aw,aE (i:=((i-1:Nat):Int)) ω ω]
    simp only[bb,aX,au,aa]
    by_cases hP:iw l i
    ·rw[ae hP];unfold iw iO gZ at hP
     have GJ:=hP.2
     repeat' split
     all_goals first|rfl|exact hr|omega
    ·rw[af hP];unfold iw iO gZ at hP
     have GJ:=λh=>hP ⟨hK,h⟩
     repeat' split
     all_goals first|rfl|exact hr|omega|(exfalso;exact GJ ω)
   ·rw[av (x:=0) ω]
    simp only[bb,aX,au,aa,an]
    by_cases hP:iw l i
    ·rw[ae hP];unfold iw iO at hP
     rw[af hP.2.1];exact hr
    ·rw[af hP];unfold iw iO at hP
     have GJ:=λh=>hP ⟨hK,h,λh=>absurd h h0⟩
     split
     ·rfl
     ·exact absurd (by assumption) GJ
  ·rw[af hK,af (λh=>hK (by unfold iw iO at h;exact h.1))];rfl
 ·unfold jT.l2 jT.dY
  rw[av ω,an]
end VM
end
