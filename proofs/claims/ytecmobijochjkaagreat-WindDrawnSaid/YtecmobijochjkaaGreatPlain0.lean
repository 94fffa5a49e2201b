/- A part of the proof of WindDrawn of layer 21: what the functions compute, in plain words. -/
import Derived.Test.YtecmobijochjkaaGreatVm0
import GoSem.Claim
import Derived.Test.YtecmobijochjkaaGreatText
set_option linter.all false
section
namespace VM
open Go
theorem uZ(x:Int):W .u64 x=x%18446744073709551616:=by rw[Er];simp[IntKind.wrap,IntKind.bits,IntKind.signed]
theorem dS{x:Int}(h0:0≤x)(h1:x<18446744073709551616):W .u64 x=x:=by rw[uZ];omega
theorem iB(x:Int):W .i64 x=if 9223372036854775808≤x%18446744073709551616 then x%18446744073709551616-18446744073709551616 else x%18446744073709551616:=by
 rw[Er];simp[IntKind.wrap,IntKind.bits,IntKind.signed]
theorem ax{x:Int}(h0: -9223372036854775808≤x)(h1:x<9223372036854775808):W .i64 x=x:=by
 rw[iB];split<;>omega
theorem wf_u64{x:Int}:(Lit.int .u64 x).wf=true↔0≤x∧x≤18446744073709551615:=by simp[Lit.wf,IntKind.min,IntKind.max,IntKind.bits,IntKind.signed]
theorem aT{x y:Int}(h:x<y):aY x y=true:=by rw[tN];exact bs h
theorem aP{x y:Int}(h:y≤x):aY x y=false:=by rw[tN];exact cj ω
theorem fC{x y:Int}(h:x≤y):dj x y=true:=by rw[nM];exact bs h
theorem fh{x y:Int}(h:y<x):dj x y=false:=by rw[nM];exact cj ω
theorem dX{x y:Int}(h:x=y):aO x y=true:=by rw[jq];exact bs h
theorem dT{x y:Int}(h:x≠y):aO x y=false:=by rw[jq];exact cj h
theorem aW{i:Int}{n:Nat}(h0:0≤i)(h1:i<n):ba i n=true:=by rw[UU];exact bs ⟨h0,h1⟩
theorem bL{n:Nat}(h:n<68719476736):small n=true:=by rw[Es];exact bs (by simpa [zw]using h)
theorem cL{l c:Int}(h0:0≤l)(h1:l≤c)(h2:c<68719476736):jR l c=true:=by rw[HH];exact bs (by simp only[zw];omega)
theorem dF{l h m n:Int}(h0:0≤l)(h1:l≤h)(h2:h≤m)(h3:m≤n):jS l h m n=true:=by rw[zx];exact bs ⟨h0,h1,h2,h3⟩
theorem ag(n:Nat):(n:Int)+1=((n+1:Nat):Int):=rfl
theorem sf(x:Int)(h0:0≤x)(h1:x<18446744073709551616):(BitVec.ofInt 64 x).toNat=x.toNat:=by
 rw[BitVec.toNat_ofInt];congr 1;omega
theorem MF{x y:Int}(hx:0≤x)(Rv:x<18446744073709551616)(hy:0≤y)(hy1:y<18446744073709551616):qC .and .u64 x y=((x.toNat&&& y.toNat:Nat):Int):=by
 rw[tO]
 have h:((BitVec.ofInt 64 x&&& BitVec.ofInt 64 y).toNat)=x.toNat&&& y.toNat:=by rw[BitVec.toNat_and,sf x hx Rv,sf y hy hy1]
 show IntKind.u64.wrap (((BitVec.ofInt 64 x&&& BitVec.ofInt 64 y).toNat:Nat):Int)=_
 rw[h,←Er]
 have:x.toNat&&& y.toNat≤x.toNat:=Nat.and_le_left
 exact dS ω ω
theorem Rw{x y:Int}(hx:0≤x)(Rv:x<18446744073709551616)(hy:0≤y)(hy1:y<18446744073709551616):qC .or .u64 x y=((x.toNat|||y.toNat:Nat):Int):=by
 rw[tO]
 have h:((BitVec.ofInt 64 x|||BitVec.ofInt 64 y).toNat)=x.toNat|||y.toNat:=by rw[BitVec.toNat_or,sf x hx Rv,sf y hy hy1]
 show IntKind.u64.wrap (((BitVec.ofInt 64 x|||BitVec.ofInt 64 y).toNat:Nat):Int)=_
 rw[h,←Er]
 have:x.toNat|||y.toNat<2^64:=Nat.or_lt_two_pow ω ω
 exact dS ω ω
theorem nT{x:Int}(h0:0≤x)(h1:x<18446744073709551616):qC .and .u64 x 4294967295=x%4294967296:=by
 rw[MF h0 h1 ω ω]
 have:=Lg x.toNat 32
 rw[show((4294967295:Int).toNat)=2^32-1 from rfl,this]
 omega
theorem JZ{x y:Int}(h0:0≤y)(h1:y≤64):shr .u64 x y=x/2^y.toNat:=by
 rw[Py]
 have:min y.toNat IntKind.u64.bits=y.toNat:=by simp[IntKind.bits];omega
 rw[this,Lj]
 exact_mod_cast bo _
theorem Rx(x:Int):shr .u64 x 32=x/4294967296:=by rw[JZ ω ω];rfl
theorem amf(x:Int):shr .u64 x 1=x/2:=by rw[JZ ω ω];rfl
theorem uc{x:Int}(h0: -9223372036854775808≤x)(h1:x<9223372036854775808):shr .i64 x 63=if x<0 then-1 else 0:=by
 rw[Py]
 have:(2:Int)^(min (63:Int).toNat IntKind.i64.bits)=9223372036854775808:=by rfl
 rw[this,Lj _ ω]
 split<;>omega
theorem Zz{x y:Int}(h0:0≤y)(h1:y≤64):shl .u64 x y=x*2^y.toNat:=by
 rw[UW]
 have:min y.toNat IntKind.u64.bits=y.toNat:=by simp[IntKind.bits];omega
 rw[this]
theorem mul_lt{a b m n:Int}(ha:0≤a)(hb:0≤b)(ham:a≤m)(hbn:b≤n):0≤a*b∧a*b≤m*n:=
 ⟨vE ha hb,fD (y5 ham hb) (xc hbn ω)⟩
end VM
end
section
namespace VM
open Go VM.F
theorem Th(a b:Int):a*b=(a/4294967296)*(b/4294967296)*18446744073709551616+((a/4294967296)*(b%4294967296)+(a%4294967296)*(b/4294967296))*4294967296+(a%4294967296)*(b%4294967296):=by
 have ha:a=(a/4294967296)*4294967296+a%4294967296:=ω
 have hb:b=(b/4294967296)*4294967296+b%4294967296:=ω
 generalize a/4294967296=a1 at*
 generalize a%4294967296=a0 at*
 generalize b/4294967296=b1 at*
 generalize b%4294967296=b0 at*
 subst ha;subst hb
 simp only[qB,jQ]
 have e1:a1*4294967296*(b1*4294967296)=a1*b1*18446744073709551616:=by
  rw[kv,Int.mul_left_comm 4294967296,←kv];rfl
 have e2:a1*4294967296*b0=a1*b0*4294967296:=by rw[kv,jO 4294967296,←kv]
 have e3:a0*(b1*4294967296)=a0*b1*4294967296:=by rw[←kv]
 rw[e1,e2,e3];omega
theorem V2(N:Nat){a b:Int}(ha:0≤a)(ha1:a<18446744073709551616)(hb:0≤b)(me:b<18446744073709551616):
  ZA N a b=some (a*b/18446744073709551616,a*b%18446744073709551616):=by
 unfold ZA
 have hm:=Th a b
 have h1:=mul_lt (m:=4294967295) (n:=4294967295) (show 0≤a/4294967296 by omega) (show 0≤b/4294967296 by omega) ω ω
 have h2:=mul_lt (m:=4294967295) (n:=4294967295) (show 0≤a/4294967296 by omega) (show 0≤b%4294967296 by omega) ω ω
 have h3:=mul_lt (m:=4294967295) (n:=4294967295) (show 0≤a%4294967296 by omega) (show 0≤b/4294967296 by omega) ω ω
 have h4:=mul_lt (m:=4294967295) (n:=4294967295) (show 0≤a%4294967296 by omega) (show 0≤b%4294967296 by omega) ω ω
 simp only[aP (show(0:Int)≤32 by omega),av,nT ha ha1,nT hb me,Rx]
 generalize a/4294967296=a1 at*
 generalize a%4294967296=a0 at*
 generalize b/4294967296=b1 at*
 generalize b%4294967296=b0 at*
 generalize a*b=ab at*
 generalize a1*b1=p at*
 generalize a1*b0=q at*
 generalize a0*b1=r at*
 generalize a0*b0=s at*
 rw[dS (x:=q) ω ω,dS (x:=s) ω ω,dS (x:=r) ω ω,dS (x:=p) ω ω,dS (x:=q+s/4294967296) ω ω,
  nT ω ω,dS (x:=(q+s/4294967296)%4294967296+r) ω ω,dS (x:=p+(q+s/4294967296)/4294967296) ω ω,dS (x:=p+(q+s/4294967296)/4294967296+_) ω ω,uZ]
 congr 2
 omega
end VM
end
section
namespace VM
open Go VM.F
theorem J0(N:Nat){x:Int}(h0: -9223372036854775808≤x)(h1:x<9223372036854775808):Ti N x=some (x.natAbs:Int):=by
 unfold Ti
 by_cases h:x<0
 ·rw[aT h,ak,uZ,uZ];congr 1;omega
 ·rw[aP ω,av,uZ];congr 1;omega
theorem MG(N:Nat){x y c:Int}(hx:0≤x)(hy:0≤y)(hc:0≤c)(K5:c≤1):yb N x y c=some ((x+y+c)%18446744073709551616,(x+y+c)/18446744073709551616):=by
 unfold yb;rw[aj ⟨hx,hy,hc,K5⟩]
theorem wj(N:Nat){x y c:Int}(hx:0≤x)(Rv:x<18446744073709551616)(hy:0≤y)(hy1:y<18446744073709551616)(hc:0≤c)(K5:c≤1):
  uT N x y c=some ((x-y-c)%18446744073709551616,if x<y+c then 1 else 0):=by
 unfold uT;rw[aj ⟨hx,Rv,hy,hy1,hc,K5⟩];congr 2;omega
end VM
end
section
namespace VM
open Go VM.F
structure wk(Y rG E6 gi E7 q rh:Int):Prop where
 hY:Y=rG*4294967296+E6
 y1:2147483648≤rG
 y1':rG<4294967296
 y0:0≤E6
 y0':E6<4294967296
 u1:0≤E7
 u1':E7<4294967296
 lt:gi<Y
 q0:0≤q
 eq:q*rG+rh=gi
 r0:0≤rh
 q1:q≤4294967297
 ge:(gi*4294967296+E7)/Y≤q
theorem wk.prod{Y rG E6 gi E7 q rh:Int}(g:wk Y rG E6 gi E7 q rh):q*Y=(gi-rh)*4294967296+q*E6∧0≤q*E6∧q*E6≤18446744073709551615:=by
 have h:=mul_lt (m:=4294967297) (n:=4294967295) g.q0 g.y0 g.q1 (by have:=g.y0';omega)
 refine⟨?_,h.1,ω⟩
 rw[g.hY,jQ,←kv,show q*rG=gi-rh from by have:=g.eq;omega]
theorem wk.pos{Y rG E6 gi E7 q rh:Int}(g:wk Y rG E6 gi E7 q rh):0<Y:=by have:=g.hY;have:=g.y1;have:=g.y0;omega
theorem wk.digit{Y rG E6 gi E7 q rh:Int}(g:wk Y rG E6 gi E7 q rh)(h:0≤gi):0≤(gi*4294967296+E7)/Y∧(gi*4294967296+E7)/Y<4294967296:=by
 have hp:=g.pos
 have:=g.u1;have:=g.u1';have:=g.lt
 refine⟨sU ω ω,?_⟩
 rw[zd hp];omega
theorem wk.next{Y rG E6 gi E7 q rh:Int}(g:wk Y rG E6 gi E7 q rh)(hu:0≤gi)(h:4294967296≤q∨4294967296*rh+E7<q*E6):wk Y rG E6 gi E7 (q-1) (rh+rG)∧1≤q:=by
 have hp:=g.pos
 have h1:=g.prod.1
 have hd:=g.digit hu
 have eZ:(gi*4294967296+E7)/Y<q:=by
  rcases h with h|h
  ·omega
  ·rw[zd hp];omega
 have:=g.q1;have:=g.r0;have:=g.y1
 exact⟨⟨g.hY,g.y1,g.y1',g.y0,g.y0',g.u1,g.u1',g.lt,ω,by rw[Int.sub_mul,zr];have:=g.eq;omega,ω,ω,ω⟩,ω⟩
theorem wk.first{Y rG E6 gi E7:Int}(hY:Y=rG*4294967296+E6)(y1:2147483648≤rG)(y1':rG<4294967296)(y0:0≤E6)(y0':E6<4294967296)(u1:0≤E7)(u1':E7<4294967296)(hu:0≤gi)(lt:gi<Y):
  wk Y rG E6 gi E7 (gi/rG) (gi-gi/rG*rG)∧gi-gi/rG*rG<4294967296∧0≤gi/rG*rG∧gi/rG*rG≤gi:=by
 have h1:=Lx gi rG
 have h2:=zg gi (show 0<rG by omega)
 have h3:=Ei gi (show rG≠0 by omega)
 have xi:0≤gi/rG:=sU hu ω
 rw[jO]at h1
 have hq1:gi/rG≤4294967297:=by
  have:gi/rG<4294967298:=by rw[zd ω];omega
  omega
 have YG:(gi*4294967296+E7)/Y≤gi/rG:=by
  have eZ:gi*4294967296+E7<(gi/rG+1)*Y:=by
   have e:gi+1≤(gi/rG+1)*rG:=by rw[qB,zr];omega
   have e2:(gi/rG+1)*Y=(gi/rG+1)*rG*4294967296+(gi/rG+1)*E6:=by rw[hY,jQ,kv]
   have e3:0≤(gi/rG+1)*E6:=vE ω y0
   omega
  have:(gi*4294967296+E7)/Y<gi/rG+1:=by rw[zd ω];exact eZ
  omega
 exact⟨⟨hY,y1,y1',y0,y0',u1,u1',lt,xi,ω,ω,hq1,YG⟩,ω,vE xi ω,ω⟩
end VM
end
section
namespace VM
open Go VM.F
def c0:List Int→Int
 |[]=>0
 |d::r=>d+4294967296*c0 r
def VD(l:List Int):Prop:= ∀d∈l,0≤d∧d<4294967296
def kZ(n:Nat):List Int:=if n=0 then []else((n%4294967296:Nat):Int)::kZ (n/4294967296)
termination_by n
decreasing_by omega
theorem jX:kZ 0=[]:=by rw[kZ];rfl
theorem xm{n:Nat}(h:n≠0):kZ n=((n%4294967296:Nat):Int)::kZ (n/4294967296):=by rw[kZ];simp[h]
theorem VD.nil:VD []:=λd h=>by cases h
theorem VD.cons{d:Int}{l:List Int}(h0:0≤d)(h1:d<4294967296)(h:VD l):VD (d::l):=λx hx=>by
 rcases aX.1 hx with rfl|hx
 ·exact⟨h0,h1⟩
 ·exact h x hx
theorem VD.tail{d:Int}{l:List Int}(h:VD (d::l)):VD l:=λx hx=>h x (a6 _ hx)
theorem VD.append{a b:List Int}(h:VD a)(k:VD b):VD (a++b):=λx hx=>(bb.1 hx).elim (h x) (k x)
theorem VD.drop{l:List Int}(h:VD l)(n:Nat):VD (l.drop n):=λx hx=>h x (mK hx)
theorem VD.take{l:List Int}(h:VD l)(n:Nat):VD (l.take n):=λx hx=>h x (lC hx)
theorem VD.getD{l:List Int}(h:VD l)(n:Nat):0≤l.getD n 0∧l.getD n 0<4294967296:=by
 rw[aU]
 cases hn:l[n]? with
 |none=>exact⟨fE _,δ⟩
 |some x=>exact h x (List.mem_of_getElem? hn)
theorem VD.set{l:List Int}(h:VD l)(n:Nat){x:Int}(h0:0≤x)(h1:x<4294967296):VD (l.set n x):=λy hy=>by
 rcases xd hy with hy|rfl
 ·exact h y hy
 ·exact⟨h0,h1⟩
theorem VD.afE(n:Nat):VD (List.replicate n 0):=λx hx=>by rw[y8 hx];exact⟨fE _,δ⟩
theorem jY: ∀{l:List Int},VD l→0≤c0 l
 |[],_=>fE _
 |d::r,h=>by
  have:=jY h.tail
  have:=(h d (bn ..)).1
  simp only[c0];omega
theorem gQ(n:Nat):c0 (kZ n)=n:=by
 induction n using Nat.strongRecOn with
 |_ n ih=>
  by_cases h:n=0
  ·subst h;rw[jX];rfl
  ·rw[xm h,c0,ih _ ω];omega
theorem jZ(n:Nat):VD (kZ n):=by
 induction n using Nat.strongRecOn with
 |_ n ih=>
  by_cases h:n=0
  ·subst h;rw[jX];exact VD.nil
  ·rw[xm h];exact VD.cons ω ω (ih _ ω)
theorem zY{n:Nat}:kZ n=[]↔n=0:=by
 constructor
 ·intro h
  by_cases hn:n=0
  ·exact hn
  ·rw[xm hn]at h;cases h
 ·rintro rfl;exact jX
theorem xn(k:Nat): ∀n,n<4294967296^k→(kZ n).length≤k:=by
 induction k with
 |zero=>
  intro n h;have:n=0:=by simpa using h
  subst this;rw[jX];simp
 |succ k ih=>
  intro n h
  by_cases hn:n=0
  ·subst hn;rw[jX];simp
  ·rw[xm hn,aR]
   have:=ih (n/4294967296) (by rw[Ly ω];rw[zo]at h;exact h)
   omega
theorem J1(k:Nat): ∀n,(kZ n).length≤k→n<4294967296^k:=by
 induction k with
 |zero=>
  intro n h
  have:kZ n=[]:=tJ ω
  rw[zY]at this;subst this;decide
 |succ k ih=>
  intro n h
  by_cases hn:n=0
  ·subst hn;exact Nat.pow_pos δ
  ·rw[xm hn,aR]at h
   have:=ih (n/4294967296) ω
   rw[Ly ω]at this
   rw[zo];exact this
def strip:List Int→List Int
 |[]=>[]
 |d::r=>if strip r=[]∧d=0 then []else d::strip r
theorem MH: ∀{l:List Int},VD l→strip l=kZ (c0 l).toNat
 |[],_=>by rw[show(c0 []).toNat=0 from rfl,jX];rfl
 |d::r,h=>by
  have ih:=MH h.tail
  have h0:=jY h.tail
  obtain⟨h1,h2⟩:=h d (bn ..)
  simp only[strip,c0,ih,zY]
  split
  ·rename_i hc
   obtain⟨hc,rfl⟩:=hc
   have:c0 r=0:=ω
   rw[this];exact jX.symm
  ·rename_i hc
   have jH:(d+4294967296*c0 r).toNat≠0:=λhe=>hc ⟨ω,ω⟩
   rw[xm jH]
   congr 1
   ·omega
   ·congr 1;omega
theorem E8: ∀(l:List Int) (x:Int),strip (l++[x])=if x=0 then strip l else l++[x]
 |[],x=>by simp[strip]
 |d::r,x=>by
  simp only[lG,strip,E8 r x]
  split
  ·rfl
  ·simp
theorem g4(l:List Int){k:Nat}(h:k<l.length):l.take (k+1)=l.take k++[l.getD k 0]:=by
 rw[List.take_succ_eq_append_getElem h,aU,bm h];rfl
theorem H9(N:Nat)(l:List Int)(hl:l.length<68719476736): ∀(k n:Nat),k≤l.length→k<n→nU.l2 N n l (k:Int)=some (strip (l.take k))
 |0,n+1,_,_=>by
  unfold nU.l2 nU.gD
  simp (disch:=omega) only[aT,aP,fC,fh,dX,dT,aW,bL,cL,dF,ax,dS,ak,av,a7,cY,ar,aJ,dq,ag,aS,aI,bN,cP,aR,bS]
  simp[strip]
 |k+1,n+1,hk,hn=>by
  unfold nU.l2 nU.gD
  have e:((k+1:Nat):Int)-1=(k:Int):=ω
  simp (disch:=omega) only[aT,aP,fC,fh,dX,dT,aW,bL,cL,dF,ax,dS,ak,av,a7,cY,ar,aJ,dq,ag,aS,aI,bN,cP,aR,bS,e]
  have ih:=H9 N l hl k n ω ω
  rw[g4 l ω,E8]
  by_cases h:l.getD k 0=0
  ·rw[dX h,ak,ih,aj h]
  ·rw[dT h,av,ah h]
   simp only[dq,cX]
theorem J2(N:Nat){l:List Int}(h:VD l)(hN:l.length<N)(hl:l.length<68719476736):nU N l=some (kZ (c0 l).toNat):=by
 unfold nU nU.b
 rw[H9 N l hl l.length N (aG _) hN,iS,MH h]
def cT(v:Int):aH:=(decide (v<0),(kZ v.natAbs,()))
theorem si(N:Nat)(neg:Bool){l:List Int}(h:VD l)(hN:l.length<N)(hl:l.length<68719476736):V3 N neg l=some (cT (if neg then-c0 l else c0 l)):=by
 unfold V3
 rw[J2 N h hN hl,ar]
 have h0:=jY h
 cases neg
 ·simp only[av,cT,iQ,eQ]
  rw[cj ω]
  congr 4;omega
 ·simp only[ak,cT,gw]
  have e:(-c0 l).natAbs=(c0 l).toNat:=ω
  rw[e]
  congr 2
  by_cases hz:c0 l=0
  ·rw[hz,dq,jX,aP (by simp),cj ω]
  ·have:0<(kZ (c0 l).toNat).length:=by
    apply rU.2
    intro hd;rw[zY]at hd;omega
   rw[aT ω,bs ω]
theorem size_eq(N:Nat)(hN:1000≤N){u:Int}(h0:0≤u)(h1:u<18446744073709551616):F83 N u=some (kZ u.toNat):=by
 unfold F83
 rw[nT h0 h1,Rx]
 have hv:VD [u%4294967296,u/4294967296]:=VD.cons ω ω (VD.cons ω ω VD.nil)
 simp (disch:=omega) only[aT,aP,fC,fh,dX,dT,aW,bL,cL,dF,ax,dS,ak,av,a7,cY,ar,aJ,dq,ag,aS,aI,bN,cP,aR,bS,J2 N hv (by simp;omega) (by simp)]
 congr 2
 simp only[c0];omega
theorem c4(N:Nat)(hN:1000≤N){x:Int}(h0: -9223372036854775808≤x)(h1:x<9223372036854775808):jN N x=some (cT x):=by
 unfold jN
 have hd: ∀n:Nat,n<18446744073709551616→(kZ n).length≤2:=λn h=>xn 2 n (by simpa using h)
 by_cases h:x<0
 ·have e:W .u64 (0-W .u64 x)= -x:=by rw[uZ,uZ];omega
  simp only[aT h,ak,e,size_eq N hN (show 0≤ -x by omega) ω,ar]
  have:=hd (-x).toNat ω
  rw[si N true (jZ _) ω ω,gQ,aj rfl,show-(((-x).toNat:Nat):Int)=x from by omega];rfl
 ·have e:W .u64 x=x:=dS ω ω
  simp only[aP (show 0≤x by omega),av,e,size_eq N hN (show 0≤x by omega) ω,ar]
  have:=hd x.toNat ω
  rw[si N false (jZ _) ω ω,gQ,ah qp,vv ω];rfl
theorem wm(N:Nat)(l:List Int)(i:Nat):ZB N l (i:Int)=some (l.getD i 0):=by
 unfold ZB
 by_cases h:i<l.length
 ·simp (disch:=omega) only[aT,aP,fC,fh,dX,dT,aW,bL,cL,dF,ax,dS,ak,av,a7,cY,ar,aJ,dq,ag,aS,aI,bN,cP,aR,bS]
 ·simp (disch:=omega) only[aT,aP,fC,fh,dX,dT,aW,bL,cL,dF,ax,dS,ak,av,a7,cY,ar,aJ,dq,ag,aS,aI,bN,cP,aR,bS]
  rw[aU,gC ω];rfl
theorem kE(l:List Int)(i:Nat):c0 (l.drop i)=l.getD i 0+4294967296*c0 (l.drop (i+1)):=by
 by_cases h:i<l.length
 ·rw[pM h,c0,aU,bm h];rfl
 ·rw[ku ω,ku ω,aU,gC ω];rfl
theorem MI(N:Nat){a b:List Int}(ha:VD a)(hb:VD b)(yD:a.length≤1000000)(Ps:b.length≤1000000): ∀(m n i:Nat) (out:List Int) (c:Int),a.length+b.length+2-i≤m→m<n→out.length=i→i≤a.length+b.length+1→0≤c→c≤1→(a.length≤i→b.length≤i→i=max a.length b.length∨c=0)→
  ∃r,u2.l4 N n a b out c (i:Int)=some (out++r)∧VD r∧c0 r=c0 (a.drop i)+c0 (b.drop i)+c∧r.length≤m
 |m,0,i,out,c,_,hn,_,_,_,_,_=>ω
 |m,n+1,i,out,c,hm,hn,ho,hi,UH,K5,hz=>by
  unfold u2.l4 u2.dv
  by_cases MJ:a.length≤i∧b.length≤i∧c=0
  ·obtain⟨h1,h2,rfl⟩:=MJ
   simp (disch:=omega) only[aT,aP,fC,fh,dX,dT,aW,bL,cL,dF,ax,dS,ak,av,a7,cY,ar,aJ,dq,ag,aS,aI,bN,cP,aR,bS]
   exact⟨[],by simp,VD.nil,by rw[ku h1,ku h2];rfl,bo _⟩
  ·obtain⟨ga0,ga1⟩:=ha.getD i
   obtain⟨gb0,gb1⟩:=hb.getD i
   have step: ∃r,u2.j6 N (u2.l4 N n) a b out c (i:Int)=some (out++r)∧VD r∧c0 r=c0 (a.drop i)+c0 (b.drop i)+c∧r.length≤m:=by
    unfold u2.j6 u2.Tj
    have GY:i≤a.length+b.length:=by
     by_cases h1:a.length≤i∧b.length≤i
     ·rcases hz h1.1 h1.2 with h|h
      ·omega
      ·exact absurd ⟨h1.1,h1.2,h⟩ MJ
     ·omega
    simp only[wm,ar]
    generalize hga:a.getD i 0=x at*
    generalize hgb:b.getD i 0=y at*
    rw[dS (x:=x+y) ω ω,dS (x:=c+(x+y)) ω ω,nT ω ω,Rx]
    simp (disch:=omega) only[aT,aP,fC,fh,dX,dT,aW,bL,cL,dF,ax,dS,ak,av,a7,cY,ar,aJ,dq,ag,aS,aI,bN,cP,aR,bS]
    obtain⟨r,hr,hv,hs,HM⟩:=MI N ha hb yD Ps (m-1) n (i+1) (out++[(c+(x+y))%4294967296]) ((c+(x+y))/4294967296) ω ω (by simp[ho]) ω ω ω (λh1 h2=>by
     by_cases h3:a.length≤i∧b.length≤i
     ·right
      rw[←hga,←hgb,aU,gC h3.1,aU,gC h3.2]
      simp only[Option.getD_none];omega
     ·left;omega)
    refine⟨(c+(x+y))%4294967296::r,by rw[hr];simp,VD.cons ω ω hv,?_,by rw[aR];omega⟩
    rw[c0,hs,kE a i,kE b i,hga,hgb];omega
   by_cases h1:i<a.length
   ·simp (disch:=omega) only[aT,ak];exact step
   ·by_cases h2:i<b.length
    ·simp (disch:=omega) only[aT,aP,ak,av];exact step
    ·have:0<c:=ω
     simp (disch:=omega) only[aT,aP,ak,av];exact step
theorem Ry: ∀{l:List Int},VD l→c0 l<4294967296^l.length
 |[],_=>by simp[c0]
 |d::r,h=>by
  have ih:=Ry h.tail
  obtain⟨h1,h2⟩:=h d (bn ..)
  rw[c0,aR,zp]
  generalize (4294967296:Int)^r.length=p at*
  omega
theorem MK(N:Nat)(hN:4000000≤N){a b:List Int}(ha:VD a)(hb:VD b)(yD:a.length≤1000000)(Ps:b.length≤1000000): ∃r,u2 N a b=some r∧VD r∧c0 r=c0 a+c0 b∧r.length≤2000002:=by
 unfold u2 u2.b
 obtain⟨r,hr,hv,hs,hl⟩:=MI N ha hb yD Ps (a.length+b.length+2) N 0 [] 0 ω ω rfl ω ω ω (λ_ _=> .inr rfl)
 exact⟨r,hr,hv,by simpa using hs,ω⟩
theorem E9(N:Nat){a b:List Int}(ha:VD a)(hb:VD b)(yD:a.length≤1000000): ∀(m n i:Nat) (out:List Int) (c:Int),a.length-i≤m→m<n→out.length=i→i≤a.length→0≤c→c≤1→0≤c0 (a.drop i)-c0 (b.drop i)-c→
  ∃r,DI.l4 N n a b out c (i:Int)=some (out++r)∧VD r∧c0 r=c0 (a.drop i)-c0 (b.drop i)-c∧r.length≤m
 |m,0,i,out,c,_,hn,_,_,_,_,_=>ω
 |m,n+1,i,out,c,hm,hn,ho,hi,UH,K5,hz=>by
  unfold DI.l4 DI.dv
  by_cases h1:i<a.length
  ·obtain⟨ga0,ga1⟩:=ha.getD i
   obtain⟨gb0,gb1⟩:=hb.getD i
   rw[kE a i,kE b i]at*
   simp only[wm,ar,aJ]
   generalize hga:a.getD i 0=x at*
   generalize hgb:b.getD i 0=y at*
   rw[dS (x:=y+c) ω ω,dS (x:=x+4294967296) ω ω]
   by_cases eZ:x<y+c
   ·rw[dS (x:=x+4294967296-(y+c)) ω ω]
    simp (disch:=omega) only[aT,aP,fC,fh,dX,dT,aW,bL,cL,dF,ax,dS,ak,av,a7,cY,ar,aJ,dq,ag,aS,aI,bN,cP,aR,bS,hga,hgb]
    obtain⟨r,hr,hv,hs,HM⟩:=E9 N ha hb yD (m-1) n (i+1) (out++[x+4294967296-(y+c)]) 1 ω ω (by simp[ho]) ω ω ω ω
    refine⟨(x+4294967296-(y+c))::r,by rw[hr];simp,VD.cons ω ω hv,by rw[c0,hs];omega,by rw[aR];omega⟩
   ·rw[dS (x:=x-(y+c)) ω ω]
    simp (disch:=omega) only[aT,aP,fC,fh,dX,dT,aW,bL,cL,dF,ax,dS,ak,av,a7,cY,ar,aJ,dq,ag,aS,aI,bN,cP,aR,bS,hga,hgb]
    obtain⟨r,hr,hv,hs,HM⟩:=E9 N ha hb yD (m-1) n (i+1) (out++[x-(y+c)]) 0 ω ω (by simp[ho]) ω ω ω ω
    refine⟨(x-(y+c))::r,by rw[hr];simp,VD.cons ω ω hv,by rw[c0,hs];omega,by rw[aR];omega⟩
  ·simp (disch:=omega) only[aT,aP,fC,fh,dX,dT,aW,bL,cL,dF,ax,dS,ak,av,a7,cY,ar,aJ,dq,ag,aS,aI,bN,cP,aR,bS]
   have h0:=jY (hb.drop i)
   rw[ku (l:=a) ω]at hz ⊢
   simp only[c0]at hz ⊢
   exact⟨[],by simp,VD.nil,by simp only[c0];omega,bo _⟩
theorem Ck(N:Nat)(hN:4000000≤N){a b:List Int}(ha:VD a)(hb:VD b)(yD:a.length≤1000000)(h:c0 b≤c0 a): ∃r,DI N a b=some r∧VD r∧c0 r=c0 a-c0 b∧r.length≤1000000:=by
 unfold DI DI.b
 obtain⟨r,hr,hv,hs,hl⟩:=E9 N ha hb yD a.length N 0 [] 0 ω ω rfl ω ω ω (by simp;omega)
 exact⟨r,hr,hv,by simpa using hs,ω⟩
theorem qh: ∀(l:List Int) (x:Int),c0 (l++[x])=c0 l+4294967296^l.length*x
 |[],x=>by simp[c0]
 |d::r,x=>by
  rw[lG,c0,qh r x,c0,aR,zp,jO _ 4294967296,kv,jQ];omega
theorem ML{a b:List Int}(ha:VD a)(hb:VD b){k:Nat}(h1:k<a.length)(h2:k<b.length)(eZ:a.getD k 0<b.getD k 0):c0 (a.take (k+1))<c0 (b.take (k+1)):=by
 rw[g4 a h1,g4 b h2,qh,qh]
 have l1:(a.take k).length=k:=by rw[cc];omega
 have l2:(b.take k).length=k:=by rw[cc];omega
 have v1:=Ry (ha.take k)
 have v2:=jY (hb.take k)
 rw[l1]at*
 rw[l2]
 generalize (4294967296:Int)^k=p at*
 have hp:0<p:=by have:=jY (ha.take k);omega
 have:=xc (show a.getD k 0+1≤b.getD k 0 by omega) (Int.le_of_lt hp)
 rw[jQ,Int.mul_one]at this
 omega
def vj(x:Int):Int:=if x<0 then-1 else if 0<x then 1 else 0
theorem MM(N:Nat){a b:List Int}(ha:VD a)(hb:VD b)(hl:a.length=b.length)(yD:a.length≤1000000): ∀(k n:Nat),k≤a.length→k<n→C9.l6 N n a b ((k:Int)-1)=some (vj (c0 (a.take k)-c0 (b.take k)))
 |k,0,_,hn=>ω
 |0,n+1,_,_=>by
  unfold C9.l6 C9.ud
  simp (disch:=omega) only[aT,aP,fC,fh,dX,dT,aW,bL,cL,dF,ax,dS,ak,av,a7,cY,ar,aJ,dq,ag,aS,aI,bN,cP,aR,bS]
  simp[vj,c0]
 |k+1,n+1,hk,hn=>by
  unfold C9.l6 C9.ud
  have e:((k+1:Nat):Int)-1=(k:Int):=ω
  rw[e]
  simp (disch:=omega) only[aT,aP,fC,fh,dX,dT,aW,bL,cL,dF,ax,dS,ak,av,a7,cY,ar,aJ,dq,ag,aS,aI,bN,cP,aR,bS]
  by_cases h1:a.getD k 0<b.getD k 0
  ·rw[aT h1,ak]
   have:=ML ha hb (k:=k) ω ω h1
   rw[vj,aj ω]
  ·rw[aP ω,av]
   by_cases h2:b.getD k 0<a.getD k 0
   ·rw[aT h2,ak]
    have:=ML hb ha (k:=k) ω ω h2
    rw[vj,ah ω,aj ω]
   ·rw[aP ω,av,MM N ha hb hl yD k n ω ω]
    congr 2
    rw[g4 a ω,g4 b ω,qh,qh,show a.getD k 0=b.getD k 0 from by omega,cc,cc,hl]
    omega
theorem MN(N:Nat)(hN:4000000≤N)(m k:Nat)(hm:(kZ m).length≤1000000)(hk:(kZ k).length≤1000000):C9 N (kZ m) (kZ k)=some (vj ((m:Int)-k)):=by
 unfold C9 C9.b
 by_cases h:(kZ m).length=(kZ k).length
 ·simp (disch:=omega) only[aT,aP,fC,fh,dX,dT,aW,bL,cL,dF,ax,dS,ak,av,a7,cY,ar,aJ,dq,ag,aS,aI,bN,cP,aR,bS]
  rw[MM N (jZ m) (jZ k) h hm (kZ m).length N (aG _) ω,iS,h,iS,gQ,gQ]
 ·rw[dT ω,cY,ak]
  by_cases eZ:(kZ m).length<(kZ k).length
  ·rw[aT ω,ak]
   have h1:=J1 ((kZ k).length-1) m ω
   have h2: ¬(k<4294967296^((kZ k).length-1)):=λh=>by have:=xn _ _ h;omega
   rw[vj,aj ω]
  ·rw[aP ω,av]
   have h1:=J1 ((kZ m).length-1) k ω
   have h2: ¬(m<4294967296^((kZ m).length-1)):=λh=>by have:=xn _ _ h;omega
   rw[vj,ah ω,aj ω]
end VM
end
section
namespace VM
open Go VM.F
def Fit(v:Int)(k:Nat):Prop:=v.natAbs<4294967296^k
theorem Fit.len{v:Int}{k:Nat}(h:Fit v k):(kZ v.natAbs).length≤k:=xn k _ h
theorem Fit.mono{v:Int}{j k:Nat}(h:Fit v j)(hjk:j≤k):Fit v k:=mL h (Nat.pow_le_pow_right δ hjk)
theorem Fit.neg{v:Int}{k:Nat}(h:Fit v k):Fit (-v) k:=by unfold Fit at*;rwa [Int.natAbs_neg]
theorem Fit.i64{v:Int}(h0: -9223372036854775808≤v)(h1:v<9223372036854775808):Fit v 2:=by
 unfold Fit
 rw[show(4294967296:Nat)^2=18446744073709551616 from by decide];omega
theorem Fit.add{u v:Int}{k:Nat}(hu:Fit u k)(hv:Fit v k):Fit (u+v) (k+1):=by
 unfold Fit at*
 rw[zo]
 have:(u+v).natAbs≤u.natAbs+v.natAbs:=Int.natAbs_add_le u v
 generalize 4294967296^k=p at*
 omega
theorem Fit.mul{u v:Int}{j k:Nat}(hu:Fit u j)(hv:Fit v k):Fit (u*v) (j+k):=by
 unfold Fit at*
 rw[Int.natAbs_mul,Nat.pow_add]
 exact Nat.mul_lt_mul'' hu hv
theorem Fit.of_le{u v:Int}{k:Nat}(hv:Fit v k)(h:u.natAbs≤v.natAbs):Fit u k:=Nat.lt_of_le_of_lt h hv
theorem oO(a b:Bool):pa .bool a b=(a==b):=by simp[pa]
theorem iW(N:Nat)(hN:4000000≤N){u v:Int}(hu:Fit u 900000)(hv:Fit v 900000):yX N (cT u) (cT v)=some (cT (u+v)):=by
 have lu:=hu.len
 have lv:=hv.len
 unfold yX
 simp only[cT,oO]
 by_cases hs:decide (u<0)=decide (v<0)
 ·rw[hs,sS,ak]
  obtain⟨r,hr,hvd,JM,hl⟩:=MK N hN (jZ u.natAbs) (jZ v.natAbs) ω ω
  simp only[hr,ar,si N _ hvd ω ω,JM,gQ]
  congr 1
  show cT _=cT _
  congr 1
  by_cases h:v<0
  ·have:u<0:=by simpa [h]using hs
   rw[aj (bs h)];omega
  ·have: ¬u<0:=by simpa [h]using hs
   rw[ah (by simpa using h)];omega
 ·have hb:(decide (u<0)==decide (v<0))=false:=by simpa using hs
  rw[hb,av,MN N hN _ _ ω ω,ar]
  by_cases hc:v.natAbs≤u.natAbs
  ·have h1:dj 0 (vj ((u.natAbs:Int)-v.natAbs))=true:=fC (by unfold vj;split<;>(try split)<;>omega)
   obtain⟨r,hr,hvd,JM,hl⟩:=Ck N hN (jZ u.natAbs) (jZ v.natAbs) ω (by rw[gQ,gQ];omega)
   simp only[h1,ak,hr,ar,si N _ hvd ω ω,JM,gQ]
   congr 1
   show cT _=cT _
   congr 1
   by_cases h:u<0
   ·have: ¬v<0:=λhv=>hs (by simp[h,hv])
    rw[aj (bs h)];omega
   ·have:v<0:=Ln λhv=>hs (by simp[h,hv])
    rw[ah (by simpa using h)];omega
  ·have h1:dj 0 (vj ((u.natAbs:Int)-v.natAbs))=false:=fh (by unfold vj;rw[aj ω];omega)
   obtain⟨r,hr,hvd,JM,hl⟩:=Ck N hN (jZ v.natAbs) (jZ u.natAbs) ω (by rw[gQ,gQ];omega)
   simp only[h1,av,hr,ar,si N _ hvd ω ω,JM,gQ]
   congr 1
   show cT _=cT _
   congr 1
   by_cases h:v<0
   ·have: ¬u<0:=λhu=>hs (by simp[h,hu])
    rw[aj (bs h)];omega
   ·have:u<0:=Ln λhu=>hs (by simp[h,hu])
    rw[ah (by simpa using h)];omega
theorem jo(N:Nat)(hN:4000000≤N){u:Int}(hu:Fit u 900000):Tk N (cT u)=some (cT (-u)):=by
 have lu:=hu.len
 unfold Tk
 simp only[cT]
 simp only[si N _ (jZ u.natAbs) ω ω,ar,gQ]
 congr 1
 show cT _=cT _
 congr 1
 by_cases h:u<0
 ·rw[bs h,a7,ah qp];omega
 ·rw[cj h,cY,aj rfl];omega
theorem Fa(N:Nat)(hN:4000000≤N){u:Int}(hu:Fit u 900000):V4 N (cT u)=some (cT u.natAbs):=by
 have lu:=hu.len
 unfold V4
 simp only[cT]
 simp only[si N _ (jZ u.natAbs) ω ω,ar,gQ,iQ,eQ]
 rfl
theorem ue(N:Nat)(hN:4000000≤N){u v:Int}(hu:Fit u 900000)(hv:Fit v 900000):Rz N (cT u) (cT v)=some (cT (u-v)):=by
 unfold Rz
 simp only[jo N hN hv,ar,iW N hN hu hv.neg,Int.sub_eq_add_neg]
theorem pT(N:Nat)(u:Int):RA N (cT u)=some (vj u):=by
 unfold RA
 simp only[cT]
 by_cases h:u=0
 ·subst h
  rw[show(0:Int).natAbs=0 from rfl,jX]
  simp (disch:=omega) only[aT,aP,fC,fh,dX,dT,aW,bL,cL,dF,ax,dS,ak,av,a7,cY,ar,aJ,dq,ag,aS,aI,bN,cP,aR,bS]
  rfl
 ·have:0<(kZ u.natAbs).length:=by
   apply rU.2
   intro hd;rw[zY]at hd;omega
  rw[dT ω,av]
  by_cases hn:u<0
  ·rw[bs hn,ak,vj,aj hn]
  ·rw[cj hn,av,vj,ah hn,aj ω]
theorem PW(N:Nat)(hN:4000000≤N){u v:Int}(hu:Fit u 900000)(hv:Fit v 900000):Pv N (cT u) (cT v)=some (vj (u-v)):=by
 unfold Pv
 simp only[ue N hN hu hv,ar,pT]
theorem RC(l:List Int)(h: ∀x∈l,-9223372036854775808≤x∧x<9223372036854775808): -(9223372036854775808*l.length)≤l.sum∧l.sum≤9223372036854775808*l.length:=by
 induction l with
 |nil=>simp
 |cons x l ih=>
  have:=ih (λy hy=>h y (a6 _ hy))
  obtain⟨h1,h2⟩:=h x (bn ..)
  rw[cy,aR]
  omega
theorem zZ{v:Int}{n:Nat}(hn:n≤1000000)(h0: -(9223372036854775808*n)≤v)(h1:v≤9223372036854775808*n):Fit v 3:=by
 unfold Fit
 rw[show(4294967296:Nat)^3=79228162514264337593543950336 from by decide]
 omega
theorem tg{l:List Int}(h: ∀x∈l,-9223372036854775808≤x∧x<9223372036854775808)(i:Nat): -9223372036854775808≤l.getD i 0∧l.getD i 0<9223372036854775808:=by
 rw[aU]
 cases hn:l[i]? with
 |none=>exact⟨δ,δ⟩
 |some x=>exact h x (List.mem_of_getElem? hn)
theorem la(l:List Int){i:Nat}(h:i<l.length):(l.take (i+1)).sum=(l.take i).sum+l.getD i 0:=by
 rw[g4 l h];simp
theorem z6(N:Nat)(hN:4000000≤N){l:List Int}(h: ∀x∈l,-9223372036854775808≤x∧x<9223372036854775808)(hl:l.length≤1000000): ∀(m n i:Nat) (z:aH),l.length-i≤m→m<n→i≤l.length→
  ph.l3 N n l z (cT (l.take i).sum) (i:Int)=some (cT l.sum)
 |m,0,i,z,_,hn,_=>ω
 |m,n+1,i,z,hm,hn,hi=>by
  unfold ph.l3 ph.nC
  by_cases h1:i<l.length
  ·obtain⟨g0,g1⟩:=tg h i
   have f1:=RC (l.take i) (λx hx=>h x (lC hx))
   rw[cc,ir ω]at f1
   have f2:Fit (l.take i).sum 900000:=(zZ (n:=i) ω f1.1 f1.2).mono ω
   have f3:Fit (l.getD i 0) 900000:=(Fit.i64 g0 g1).mono ω
   simp (disch:=omega) only[aT,aP,fC,fh,dX,dT,aW,bL,cL,dF,ax,dS,ak,av,a7,cY,ar,aJ,dq,ag,aS,aI,bN,cP,aR,bS,c4 N ω g0 g1,iW N hN f2 f3]
   rw[←la l h1]
   exact z6 N hN h hl (m-1) n (i+1) z ω ω ω
  ·simp (disch:=omega) only[aT,aP,fC,fh,dX,dT,aW,bL,cL,dF,ax,dS,ak,av,a7,cY,ar,aJ,dq,ag,aS,aI,bN,cP,aR,bS]
   rw[jw ω]
theorem iC:cT 0=(false,([],())):=by unfold cT;rw[show(0:Int).natAbs=0 from rfl,jX];rfl
theorem yF(N:Nat)(hN:4000000≤N){l:List Int}(h: ∀x∈l,-9223372036854775808≤x∧x<9223372036854775808)(hl:l.length≤1000000):ph N l=some (cT l.sum):=by
 unfold ph ph.b
 have:=z6 N hN h hl l.length N 0 (false,([],())) ω ω ω
 rw[oH,ky,iC]at this
 exact this
theorem V5{a b:Int}(ha:0≤a)(ha1:a<4294967296)(hb:0≤b)(me:b<4294967296):qC .or .u64 a (b*4294967296)=a+b*4294967296:=by
 rw[Rw ha ω ω ω]
 have h:=Lh (i:=32) (b:=a.toNat) ω b.toNat
 have e:(b*4294967296).toNat=2^32*b.toNat:=ω
 rw[e,Nat.or_comm,←h];omega
theorem Tl{a b:Int}(ha:0≤a)(ha1:a<4294967296)(hb:0≤b)(me:b<4294967296):qC .or .u64 (b*4294967296) a=a+b*4294967296:=by
 rw[Rw ω ω ha ω]
 have h:=Lh (i:=32) (b:=a.toNat) ω b.toNat
 have e:(b*4294967296).toNat=2^32*b.toNat:=ω
 rw[e,←h];omega
theorem afF{x:Int}(h0:0≤x):shl .u64 x 32=x*4294967296:=by rw[Zz ω ω];rfl
def Be(v:Int):Int×Bool:=if-9223372036854775808≤v∧v<9223372036854775808 then(v,true)else(0,false)
theorem ZC{n:Nat}(h:(kZ n).length≤2):(kZ n).getD 0 0+4294967296*(kZ n).getD 1 0=n:=by
 have h1:=kE (kZ n) 0
 have h2:=kE (kZ n) 1
 rw[cX,gQ]at h1
 rw[ku (l:=kZ n) (i:=1+1) h]at h2
 simp only[c0,gh]at h1 h2
 omega
theorem qR(N:Nat)(v:Int):wo N (cT v)=some (Be v):=by
 unfold wo
 simp only[cT]
 by_cases hl:2<(kZ v.natAbs).length
 ·rw[aT ω,ak,Be,ah]
  intro hh
  have:=xn 2 v.natAbs (by rw[show(4294967296:Nat)^2=18446744073709551616 from by decide];omega)
  omega
 ·have h2:=ZC (n:=v.natAbs) ω
  obtain⟨a0,a1⟩:=(jZ v.natAbs).getD 0
  obtain⟨b0,b1⟩:=(jZ v.natAbs).getD 1
  have e0:=wm N (kZ v.natAbs) 0
  have e1:=wm N (kZ v.natAbs) 1
  simp only[Int.natCast_zero,Int.natCast_one]at e0 e1
  rw[aP ω,av,e0,e1]
  generalize (kZ v.natAbs).getD 0 0=a at*
  generalize (kZ v.natAbs).getD 1 0=b at*
  simp only[ar]
  rw[aP (show(0:Int)≤32 by omega),av,afF b0,dS (x:=b*4294967296) ω ω,V5 a0 a1 b0 b1]
  have ev:a+b*4294967296=v.natAbs:=ω
  rw[ev]
  by_cases hn:v<0
  ·rw[bs hn,ak]
   by_cases JX:9223372036854775808<(v.natAbs:Int)
   ·rw[aT JX,ak,Be,ah ω]
   ·rw[aP ω,av,Be,aj ω,uZ,iB]
    congr 2
    split<;>omega
  ·rw[cj hn,av]
   by_cases JX:9223372036854775807<(v.natAbs:Int)
   ·rw[aT JX,ak,Be,ah ω]
   ·rw[aP ω,av,Be,aj ω,ax ω ω]
    congr 2;omega
end VM
end
section
namespace VM
open Go VM.F
theorem MO: ∀(l:List Int) (k:Nat) (x:Int),k<l.length→c0 (l.set k x)=c0 l+4294967296^k*(x-l.getD k 0)
 |d::r,0,x,_=>by simp[c0];omega
 |d::r,k+1,x,h=>by
  have ih:=MO r k x (by simpa using h)
  rw[List.set_cons_succ,c0,c0,ih,List.getD_cons_succ,zp,jO (4294967296^k) 4294967296,kv,jQ];omega
theorem getD_set_ne(l:List Int){j k:Nat}(x:Int)(h:j≠k):(l.set j x).getD k 0=l.getD k 0:=by
 simp[aU,List.getElem?_set_ne h]
theorem mi(l:List Int){k:Nat}(x:Int)(h:k<l.length):(l.set k x).getD k 0=x:=by
 simp[aU,List.getElem?_set,h]
theorem ug(l:List Int){k:Nat}(h:l.length≤k):l.getD k 0=0:=by
 rw[aU,gC h];rfl
theorem Cl(N:Nat)(K:aH→aH→aH→List Int→Int→Option aH){a b:List Int}(na nb:Bool)(z:aH)(ha:VD a)(hb:VD b)(i:Nat)(hi:i<a.length)(yD:a.length≤100000)(Ps:b.length≤100000):
  ∀(m n j:Nat) (out:List Int) (c:Int),b.length+1-j≤m→m<n→VD out→out.length=a.length+b.length+1→0≤c→c<4294967296→(j≤b.length→ ∀k,i+b.length≤k→out.getD k 0=0)→(b.length<j→c=0∧j=b.length+1∧ ∀k,i+b.length+1≤k→out.getD k 0=0)→
  ∃yG,jJ.l7 N K n (na,(a,())) (nb,(b,())) z out (i:Int) c (j:Int)=K (na,(a,())) (nb,(b,())) z yG ((i+1:Nat):Int)∧VD yG∧yG.length=out.length∧
   c0 yG=c0 out+4294967296^i*(4294967296^j*(a.getD i 0*c0 (b.drop j)+c))∧ ∀k,i+1+b.length≤k→yG.getD k 0=0
 |m,0,j,out,c,_,hn,_,_,_,_,_,_=>ω
 |m,n+1,j,out,c,hm,hn,ho,HX,UH,K5,hz,GM=>by
  unfold jJ.l7 jJ.pj
  by_cases MJ:b.length≤j∧c=0
  ·obtain⟨h1,rfl⟩:=MJ
   simp (disch:=omega) only[aT,aP,fC,fh,dX,dT,aW,bL,cL,dF,ax,dS,ak,av,a7,cY,ar,aJ,dq,ag,aS,aI,bN,cP,aR,bS]
   refine⟨out,rfl,ho,rfl,by rw[ku h1];simp[c0],λk hk=> ?_⟩
   by_cases hj:j≤b.length
   ·exact hz hj k ω
   ·exact(GM ω).2.2 k ω
  ·have GI:j≤b.length:=by
    by_cases hj:j≤b.length
    ·exact hj
    ·exact absurd ⟨ω,(GM ω).1⟩ MJ
   obtain⟨ga0,ga1⟩:=ha.getD i
   obtain⟨gb0,gb1⟩:=hb.getD j
   obtain⟨go0,go1⟩:=ho.getD (i+j)
   have step: ∃yG,jJ.j9 N K (jJ.l7 N K n) (na,(a,())) (nb,(b,())) z out (i:Int) c (j:Int)=K (na,(a,())) (nb,(b,())) z yG ((i+1:Nat):Int)∧VD yG∧yG.length=out.length∧
     c0 yG=c0 out+4294967296^i*(4294967296^j*(a.getD i 0*c0 (b.drop j)+c))∧ ∀k,i+1+b.length≤k→yG.getD k 0=0:=by
    unfold jJ.j9 jJ.MP
    have eij:(i:Int)+(j:Int)=((i+j:Nat):Int):=rfl
    have hp:=mul_lt (m:=4294967295) (n:=4294967295) ga0 gb0 ω ω
    simp only[wm,ar,eij,aJ]
    simp (disch:=omega) only[aT,aP,fC,fh,dX,dT,aW,bL,cL,dF,ax,dS,ak,av,a7,cY,ar,aJ,dq,ag,aS,aI,bN,cP,aR,bS]
    generalize hx:out.getD (i+j) 0=x at*
    generalize ha':a.getD i 0=ai at*
    generalize eV:b.getD j 0=bj at*
    generalize hpe:ai*bj=p at*
    have hpz:b.length≤j→p=0∧x=0:=λh=>by
     rw[ug b h]at eV
     refine⟨by rw[←hpe,←eV,zq],?_⟩
     rw[←hx];exact hz GI _ ω
    rw[nT ω ω,Rx]
    have arG:(out.set (i+j) ((c+(x+p))%4294967296)).length=a.length+b.length+1:=by rw[bN];exact HX
    obtain⟨yG,h1,h2,h3,h4,h5⟩:=Cl N K na nb z ha hb i hi yD Ps (m-1) n (j+1) (out.set (i+j) ((c+(x+p))%4294967296)) ((c+(x+p))/4294967296) ω ω (ho.set _ ω ω) arG ω ω
     (λh k hk=>by rw[getD_set_ne _ _ ω];exact hz GI k hk)
     (λh=>by
      obtain⟨hp0,Vw⟩:=hpz ω
      refine⟨ω,ω,λk hk=> ?_⟩
      rw[getD_set_ne _ _ ω];exact hz GI k ω)
    refine⟨yG,h1,h2,by rw[h3,bN],?_,h5⟩
    rw[h4,MO _ _ _ ω,hx,ha',kE b j,eV,jQ ai,hpe,Int.pow_add,zp]
    have e1:ai*(4294967296*c0 (b.drop (j+1)))=4294967296*(ai*c0 (b.drop (j+1))):=Int.mul_left_comm _ _ _
    rw[e1]
    generalize ai*c0 (b.drop (j+1))=y
    generalize (4294967296:Int)^i=P
    generalize (4294967296:Int)^j=R
    rw[kv R,kv P,Int.add_assoc,←jQ,←jQ]
    congr 3
    omega
   by_cases h1:j<b.length
   ·simp (disch:=omega) only[aT,ak];exact step
   ·have:0<c:=ω
    simp (disch:=omega) only[aT,aP,ak,av];exact step
theorem Cm(N:Nat)(hN:4000000≤N){a b:List Int}(na nb:Bool)(z:aH)(ha:VD a)(hb:VD b)(yD:a.length≤100000)(Ps:b.length≤100000):
  ∀(m n i:Nat) (out:List Int),a.length-i≤m→m<n→i≤a.length→VD out→out.length=a.length+b.length+1→(∀k,i+b.length≤k→out.getD k 0=0)→c0 out=c0 (a.take i)*c0 b→
  jJ.l3 N n (na,(a,())) (nb,(b,())) z out (i:Int)=some (cT (if na=nb then c0 a*c0 b else-(c0 a*c0 b)))
 |m,0,i,out,_,hn,_,_,_,_,_=>ω
 |m,n+1,i,out,hm,hn,hi,ho,HX,hz,hv=>by
  unfold jJ.l3 jJ.nC
  by_cases h1:i<a.length
  ·simp only
   rw[aT ω,ak]
   obtain⟨yG,e1,e2,e3,e4,e5⟩:=Cl N (jJ.l3 N n) na nb z ha hb i h1 yD Ps (b.length+1) N 0 out 0 ω ω ho HX ω ω (λ_ k hk=>hz k hk) (λh=>ω)
   rw[show((0:Nat):Int)=0 from rfl]at e1
   rw[e1]
   refine Cm N hN na nb z ha hb yD Ps (m-1) n (i+1) yG ω ω ω e2 (by rw[e3];exact HX) (λk hk=>e5 k ω) ?_
   rw[e4,hv,g4 a h1,qh,cc,ir ω,cX,Int.pow_zero,zr,kz,qB,kv]
  ·simp only
   rw[aP ω,av]
   simp only[si N _ ho ω ω,ar]
   rw[hv,jw ω,oO]
   congr 2
   cases na<;>cases nb<;>simp
theorem wq(N:Nat)(hN:4000000≤N){u v:Int}(hu:Fit u 90000)(hv:Fit v 90000):jJ N (cT u) (cT v)=some (cT (u*v)):=by
 have lu:=hu.len
 have lv:=hv.len
 unfold jJ jJ.b
 simp only[cT]
 simp (disch:=omega) only[aT,aP,fC,fh,dX,dT,aW,bL,cL,dF,ax,dS,ak,av,a7,cY,ar,aJ,dq,ag,aS,aI,bN,cP,aR,bS]
 have e:(((kZ u.natAbs).length:Int)+((kZ v.natAbs).length:Int)+1).toNat=(kZ u.natAbs).length+(kZ v.natAbs).length+1:=ω
 have:=Cm N hN (decide (u<0)) (decide (v<0)) (false,([],())) (jZ u.natAbs) (jZ v.natAbs) ω ω (kZ u.natAbs).length N 0 (List.replicate ((kZ u.natAbs).length+(kZ v.natAbs).length+1) 0) ω ω ω (VD.afE _) (by simp)
  (λk _=>by rw[aU,D3];split<;>rfl) (by
   have: ∀n,c0 (List.replicate n 0)=0:=λn=>by
    induction n with
    |zero=>rfl
    |succ n ih=>rw[zf,c0,ih];rfl
   rw[this];simp[c0])
 rw[gQ,gQ]at this
 have e2:(((kZ u.natAbs).length+(kZ v.natAbs).length:Nat):Int)+1=(kZ u.natAbs).length+(kZ v.natAbs).length+1:=ω
 first
 |(rw[e];refine this.trans ?_)
 |(refine(this).trans ?_)
 show some (cT _)=some (cT _)
 congr 2
 have key:(u.natAbs:Int)*v.natAbs=if decide (u<0)=decide (v<0)then u*v else-(u*v):=by
  by_cases h1:u<0<;>by_cases h2:v<0
  ·rw[aj (by simp[h1,h2]),show(u.natAbs:Int)= -u from by omega,show(v.natAbs:Int)= -v from by omega,Int.neg_mul_neg]
  ·rw[ah (by simp[h1,h2]),show(u.natAbs:Int)= -u from by omega,show(v.natAbs:Int)=v from by omega,Int.neg_mul]
  ·rw[ah (by simp[h1,h2]),show(u.natAbs:Int)=u from by omega,show(v.natAbs:Int)= -v from by omega,zs]
  ·rw[aj (by simp[h1,h2]),show(u.natAbs:Int)=u from by omega,show(v.natAbs:Int)=v from by omega]
 rw[key]
 split<;>simp
end VM
end
section
namespace VM
open Go VM.F
theorem ZD{x:Int}(h0:0≤x)(h1:x<18446744073709551616):qC .and .u64 x 1=x%2:=by
 rw[MF h0 h1 ω ω]
 have:=Lg x.toNat 1
 rw[show((1:Int).toNat)=2^1-1 from rfl,this]
 omega
theorem Hh{l:List Int}{k:Nat}(x:Int)(h:k<l.length):c0 ((l.set k x).drop k)=x+4294967296*c0 (l.drop (k+1)):=by
 rw[kE,mi l x h,List.drop_set_of_lt ω]
theorem Ia(N:Nat){d:List Int}(hd:VD d)(hl:d.length≤100000)(hN:4000000≤N): ∀(k n:Nat) (out:List Int) (c:Int),k≤d.length→k<n→VD out→out.length=d.length→c=c0 (d.drop k)%2→c0 (out.drop k)=c0 (d.drop k)/2→
  pk.l4 N n d out c ((k:Int)-1)=some (kZ (c0 d/2).toNat,c0 d%2)
 |k,0,out,c,_,hn,_,_,_,_=>ω
 |0,n+1,out,c,_,_,ho,HX,hc,hv=>by
  unfold pk.l4 pk.dv
  simp (disch:=omega) only[aT,aP,fC,fh,dX,dT,aW,bL,cL,dF,ax,dS,ak,av,a7,cY,ar,aJ,dq,ag,aS,aI,bN,cP,aR,bS,J2 N ho ω ω]
  rw[cX,cX]at hv
  rw[cX]at hc
  rw[hv,hc]
 |k+1,n+1,out,c,hk,hn,ho,HX,hc,hv=>by
  unfold pk.l4 pk.dv
  have e:((k+1:Nat):Int)-1=(k:Int):=ω
  obtain⟨g0,g1⟩:=hd.getD k
  have hn0:=jY (hd.drop (k+1))
  have e1:=kE d k
  simp only[e,aJ]
  rw[afF ω]
  generalize hx:d.getD k 0=x at*
  rw[dS (x:=c*4294967296) ω ω,Tl g0 g1 ω ω]
  simp (disch:=omega) only[aT,aP,fC,fh,dX,dT,aW,bL,cL,dF,ax,dS,ak,av,a7,cY,ar,aJ,dq,ag,aS,aI,bN,cP,aR,bS,amf,ZD]
  refine Ia N hd hl hN k n (out.set k ((x+c*4294967296)/2)) ((x+c*4294967296)%2) ω ω (ho.set _ ω ω) (by rw[bN];exact HX) (by rw[e1,hc];omega) ?_
  rw[Hh _ ω,hv,e1]
  omega
theorem ZE(N:Nat)(hN:4000000≤N)(m:Nat)(h:(kZ m).length≤100000):pk N (kZ m)=some (kZ (m/2),((m%2:Nat):Int)):=by
 unfold pk pk.b
 simp (disch:=omega) only[aT,aP,fC,fh,dX,dT,aW,bL,cL,dF,ax,dS,ak,av,a7,cY,ar,aJ,dq,ag,aS,aI,bN,cP,aR,bS]
 have:=Ia N (jZ m) h hN (kZ m).length N (List.replicate (kZ m).length 0) 0 (aG _) ω (VD.afE _) (by simp) (by rw[mM];rfl) (by rw[mM,ku (by simp)];rfl)
 rw[gQ]at this
 rw[this]
 congr 2
def bin(n:Nat):List Int:=if n=0 then []else((n%2:Nat):Int)::bin (n/2)
termination_by n
decreasing_by omega
theorem DJ{n:Nat}(h:n≠0):bin n=((n%2:Nat):Int)::bin (n/2):=by rw[bin];simp[h]
theorem wu:bin 0=[]:=by rw[bin];rfl
def z7:List Int→Int
 |[]=>0
 |d::r=>d+2*z7 r
theorem ZF(n:Nat):z7 (bin n)=n:=by
 induction n using Nat.strongRecOn with
 |_ n ih=>
  by_cases h:n=0
  ·subst h;rw[wu];rfl
  ·rw[DJ h,z7,ih _ ω];omega
theorem ZG(n:Nat): ∀d∈bin n,d=0∨d=1:=by
 induction n using Nat.strongRecOn with
 |_ n ih=>
  by_cases h:n=0
  ·subst h;rw[wu];intro d hd;cases hd
  ·rw[DJ h];intro d hd
   rcases aX.1 hd with rfl|hd
   ·omega
   ·exact ih _ ω d hd
theorem ZH(k:Nat): ∀n,n<2^k→(bin n).length≤k:=by
 induction k with
 |zero=>
  intro n h;have:n=0:=by simpa using h
  subst this;rw[wu];simp
 |succ k ih=>
  intro n h
  by_cases hn:n=0
  ·subst hn;rw[wu];simp
  ·rw[DJ hn,aR]
   have:=ih (n/2) (by rw[zo]at h;omega)
   omega
theorem V6{n k:Nat}(h:n<4294967296^k):(bin n).length≤32*k:=ZH _ _ (mL h (by rw[Nat.pow_mul];exact aG _))
theorem Ib(N:Nat)(hN:4000000≤N)(x2 x3 x4 x5:aH): ∀(m n:Nat) (t:Nat) (bits:List Int),(bin t).length≤m→m<n→(kZ t).length≤100000→bits.length+(bin t).length≤4000000→
  il.l3 N n x2 x3 x4 x5 bits (kZ t)=il.l9 N N x2 x3 x4 x5 (bits++bin t) (false,([],())) (false,([],())) (((bits++bin t).length:Int)-1)
 |m,0,t,bits,_,hn,_,_=>ω
 |m,n+1,t,bits,hm,hn,hd,hb=>by
  unfold il.l3 il.nC
  by_cases ht:t=0
  ·subst ht
   rw[jX,wu]
   simp (disch:=omega) only[aT,aP,fC,fh,dX,dT,aW,bL,cL,dF,ax,dS,ak,av,a7,cY,ar,aJ,dq,ag,aS,aI,bN,cP,aR,bS,ch]
  ·have G8:0<(kZ t).length:=by
    apply rU.2
    intro h;rw[zY]at h;omega
   rw[DJ ht]at hm hb ⊢
   rw[aR]at hm hb
   have hdl:(kZ (t/2)).length≤100000:=by
    have:=J1 _ t hd
    exact xn _ _ (Nat.lt_of_le_of_lt (Nat.div_le_self _ _) this)
   simp (disch:=omega) only[aT,aP,fC,fh,dX,dT,aW,bL,cL,dF,ax,dS,ak,av,a7,cY,ar,aJ,dq,ag,aS,aI,bN,cP,aR,bS,ZE N hN t hd]
   rw[Ib N hN x2 x3 x4 x5 (m-1) n (t/2) (bits++[((t%2:Nat):Int)]) ω ω hdl (by simp;omega)]
   simp
theorem Tm(l:List Int){i:Nat}(h:i<l.length):z7 (l.drop i)=l.getD i 0+2*z7 (l.drop (i+1)):=by
 rw[pM h,z7,aU,bm h];rfl
theorem Cn: ∀{l:List Int},(∀d∈l,d=0∨d=1)→0≤z7 l
 |[],_=>fE _
 |d::r,h=>by
  have h1:=Cn (l:=r) λx hx=>h x (a6 _ hx)
  have:=h d (bn ..)
  simp only[z7];omega
theorem uh: ∀(l:List Int) (i:Nat),(∀d∈l,d=0∨d=1)→z7 (l.drop i)≤z7 l
 |l,0,_=>fE _
 |[],i+1,_=>fE _
 |d::r,i+1,h=>by
  have h1:=uh r i λx hx=>h x (a6 _ hx)
  have h2:=Cn (l:=r) λx hx=>h x (a6 _ hx)
  have:=h d (bn ..)
  rw[List.drop_succ_cons,z7];omega
theorem th(N:Nat)(hN:4000000≤N)(a d:Int)(hd:0<d)(RD:Fit a 80000)(Tn:Fit d 80000)(x4 x5:aH){bits:List Int}(hb: ∀x∈bits,x=0∨x=1)(hbv:z7 bits=a.natAbs)(vR:bits.length≤4000000):
  ∀(k n:Nat) (q r:Int),k≤bits.length→k<n→0≤q→0≤r→r<d→z7 (bits.drop k)=q*d+r→
  il.l9 N n (cT a) (cT d) x4 x5 bits (cT q) (cT r) ((k:Int)-1)=some (cT (a/d),cT (a%d))
 |k,0,q,r,_,hn,_,_,_,_=>ω
 |0,n+1,q,r,_,_,hq,hr,kM,hv=>by
  unfold il.l9 il.xp
  rw[cX,hbv]at hv
  have hqa:q≤a.natAbs:=by
   have:q*1≤q*d:=xc ω hq
   omega
  have fq:Fit q 900000:=(RD.of_le (u:=q) ω).mono ω
  have fr:Fit r 900000:=(Tn.of_le (u:=r) ω).mono ω
  have f1:Fit 1 900000:=(Fit.i64 (v:=1) ω ω).mono ω
  have fq':Fit (-q) 900000:=fq.neg
  have fd:Fit d 900000:=Tn.mono ω
  rw[fh ω,av]
  by_cases ha:a<0
  ·have hna:(a.natAbs:Int)= -a:=ω
   have e0:(cT a).1=true:=bs ha
   simp only[e0,a7,av,pT,ar]
   by_cases YA:r=0
   ·subst YA
    rw[dX (by unfold vj;simp),ak]
    simp only[jo N hN fq,ar]
    have e1:a=d*(-q):=by rw[zs,jO];omega
    have e2:a/d= -q:=by rw[e1,Int.mul_ediv_cancel_left _ ω]
    have e3:a%d=0:=by rw[e1,Int.mul_emod_right]
    rw[e2,e3]
   ·rw[dT (by unfold vj;rw[ah ω,aj ω];omega),av]
    simp (disch:=omega) only[jo N hN fq,c4 N ω (show-9223372036854775808≤(1:Int)by omega) ω,ar,ue N hN fq' f1,ue N hN fd fr]
    have e1:a=(d-r)+d*(-q-1):=by rw[Int.mul_sub,zs,Int.mul_one,jO];omega
    have e2:a/d= -q-1:=by
     rw[e1,LA _ _ ω,Lv ω ω];omega
    have e3:a%d=d-r:=by rw[e1,Lk,Int.emod_eq_of_lt ω ω]
    rw[e2,e3]
  ·have hna:(a.natAbs:Int)=a:=ω
   have e0:(cT a).1=false:=cj ha
   simp only[e0,cY,ak]
   have e1:a=r+d*q:=by rw[jO];omega
   have e2:a/d=q:=by rw[e1,LA _ _ ω,Lv hr kM];omega
   have e3:a%d=r:=by rw[e1,Lk,Int.emod_eq_of_lt hr kM]
   rw[e2,e3]
 |k+1,n+1,q,r,hk,hn,hq,hr,kM,hv=>by
  unfold il.l9 il.xp
  have e:((k+1:Nat):Int)-1=(k:Int):=ω
  have hle:=uh bits k hb
  have arH:=uh bits (k+1) hb
  rw[hbv]at hle arH
  have hqa:q≤a.natAbs:=by
   have:q*1≤q*d:=xc ω hq
   omega
  have fq:Fit q 80000:=RD.of_le ω
  have fr:Fit r 80000:=Tn.of_le ω
  have fqq:=fq.add fq
  have frr:=fr.add fr
  have f1:Fit 1 80000:=(Fit.i64 (v:=1) ω ω).mono ω
  have hvk:=Tm bits (i:=k) ω
  have C5:bits.getD k 0=0∨bits.getD k 0=1:=by
   rw[aU,bm (show k<bits.length by omega)]
   exact hb _ (dz _)
  rw[e,fC ω,ak]
  have e2q:(q+q)*d=2*(q*d):=by rw[←Int.two_mul,kv]
  have amk:(q+q+1)*d=2*(q*d)+d:=by rw[qB,e2q,zr]
  simp (disch:=omega) only[aT,aP,fC,fh,dX,dT,aW,bL,cL,dF,ax,dS,ak,av,a7,cY,ar,aJ,dq,ag,aS,aI,bN,cP,aR,bS,iW N hN (fq.mono ω) (fq.mono ω),iW N hN (fr.mono ω) (fr.mono ω),c4 N ω (show-9223372036854775808≤(1:Int)by omega) ω]
  rcases C5 with C5|C5
  ·rw[C5,dT ω,av]
   simp only[PW N hN (frr.mono ω) (Tn.mono ω),ar]
   by_cases YG:d≤r+r
   ·rw[fC (by unfold vj;split<;>(try split)<;>omega),ak]
    simp only[ue N hN (frr.mono ω) (Tn.mono ω),iW N hN (fqq.mono ω) (f1.mono ω),ar]
    refine th N hN a d hd RD Tn x4 x5 hb hbv vR k n _ _ ω ω ω ω ω ?_
    rw[hvk,C5,hv,amk];omega
   ·rw[fh (by unfold vj;rw[aj ω];omega),av]
    refine th N hN a d hd RD Tn x4 x5 hb hbv vR k n _ _ ω ω ω ω ω ?_
    rw[hvk,C5,hv,e2q];omega
  ·rw[C5,dX rfl,ak]
   have aml:=frr.add (f1.mono (show 80000≤80001 by omega))
   simp only[iW N hN (frr.mono ω) (f1.mono ω),PW N hN (aml.mono ω) (Tn.mono ω),ar]
   by_cases YG:d≤r+r+1
   ·rw[fC (by unfold vj;split<;>(try split)<;>omega),ak]
    simp only[ue N hN (aml.mono ω) (Tn.mono ω),iW N hN (fqq.mono ω) (f1.mono ω),ar]
    refine th N hN a d hd RD Tn x4 x5 hb hbv vR k n _ _ ω ω ω ω ω ?_
    rw[hvk,C5,hv,amk];omega
   ·rw[fh (by unfold vj;rw[aj ω];omega),av]
    refine th N hN a d hd RD Tn x4 x5 hb hbv vR k n _ _ ω ω ω ω ω ?_
    rw[hvk,C5,hv,e2q];omega
theorem RE(N:Nat)(hN:5000000≤N){a d:Int}(hd:0<d)(RD:Fit a 80000)(Tn:Fit d 80000):il N (cT a) (cT d)=some (cT (a/d),cT (a%d)):=by
 unfold il il.b
 have vR:(bin a.natAbs).length≤32*80000:=V6 RD
 have h1:=Ib N ω (cT a) (cT d) (false,([],())) (false,([],())) (bin a.natAbs).length N a.natAbs [] (aG _) ω (ck RD.len ω) (by simp;omega)
 rw[cI]at h1
 refine h1.trans ?_
 rw[←iC]
 exact th N ω a d hd RD Tn _ _ (ZG _) (ZF _) ω (bin a.natAbs).length N 0 0 (aG _) ω ω ω hd (by rw[mM];simp[z7])
end VM
end
section
namespace VM
open Go VM.F
def dN(v:Int):cB:=(v/18446744073709551616,(v%18446744073709551616,()))
theorem wmk{a b v:Int}(h1:a=v/18446744073709551616)(h2:b=v%18446744073709551616):((a,(b,())):cB)=dN v:=by
 unfold dN;rw[h1,h2]
theorem RF{a b v:Int}{α:Type}{c:α}(h1:a=v/18446744073709551616)(h2:b=v%18446744073709551616):(some (((a,(b,())):cB),c):Option (cB×α))=some (dN v,c):=by
 rw[wmk h1 h2]
theorem Fb(N:Nat){hi lo:Int}(h0:0≤hi)(h1:hi<9223372036854775808)(l0:0≤lo)(l1:lo<18446744073709551616):rH N false hi lo=some (dN (hi*18446744073709551616+lo),true):=by
 unfold rH rH.b
 rw[cY,ak,fh ω,av,ax ω ω]
 exact RF ω ω
theorem Fc(N:Nat){hi lo:Int}(h0:0≤hi)(l0:0≤lo)(l1:lo<18446744073709551616)(hm:hi*18446744073709551616+lo≤170141183460469231731687303715884105728):rH N true hi lo=some (dN (-(hi*18446744073709551616+lo)),true):=by
 unfold rH rH.b
 have hj:rH.j7 N hi lo cz=some (dN (-(hi*18446744073709551616+lo)),true):=by
  unfold rH.j7 rH.UO
  rw[wj N ω ω l0 l1 ω ω,ar]
  by_cases hl:lo=0
  ·subst hl
   rw[ah ω]
   rw[wj N ω ω h0 ω ω ω,ar,iB]
   exact RF (by split<;>omega) ω
  ·rw[aj ω]
   rw[wj N ω ω h0 ω ω ω,ar,iB]
   exact RF (by split<;>omega) ω
 rw[a7,av,aP ω,av]
 by_cases he:hi=9223372036854775808
 ·rw[dX he,ak,aP ω,av];exact hj
 ·rw[dT he,av];exact hj
theorem Hi{a b:Int}(a0: -9223372036854775808≤a)(a1:a<9223372036854775808)(b0: -9223372036854775808≤b)(b1:b<9223372036854775808):
  0≤(a.natAbs:Int)*b.natAbs∧(a.natAbs:Int)*b.natAbs≤85070591730234615865843651857942052864:=by
 have:=mul_lt (m:=9223372036854775808) (n:=9223372036854775808) (show 0≤(a.natAbs:Int)by omega) (show 0≤(b.natAbs:Int)by omega) ω ω
 omega
theorem ZI(N:Nat){a b:Int}(a0: -9223372036854775808≤a)(a1:a<9223372036854775808)(b0: -9223372036854775808≤b)(b1:b<9223372036854775808):ZJ N a b=some (dN (a*b)):=by
 unfold ZJ
 have hm:=Hi a0 a1 b0 b1
 simp only[J0 N a0 a1,J0 N b0 b1,ar,V2 N (show 0≤(a.natAbs:Int)by omega) ω (show 0≤(b.natAbs:Int)by omega) ω,oO]
 obtain⟨m,hme⟩: ∃m,m=(a.natAbs:Int)*b.natAbs:=⟨_,rfl⟩
 rw[←hme]at hm ⊢
 have hd:m/18446744073709551616*18446744073709551616+m%18446744073709551616=m:=ω
 by_cases h1:a<0<;>by_cases h2:b<0
 ·rw[aT h1,aT h2,sS,a7,Fb N ω ω ω ω,ar,hd]
  have:m=a*b:=by rw[hme,show(a.natAbs:Int)= -a from by omega,show(b.natAbs:Int)= -b from by omega,Int.neg_mul_neg]
  rw[this]
 ·rw[aT h1,aP (x:=b) ω,show(!(true==false))=true from rfl,Fc N ω ω ω ω,ar,hd]
  have:m= -(a*b):=by rw[hme,show(a.natAbs:Int)= -a from by omega,show(b.natAbs:Int)=b from by omega,Int.neg_mul]
  rw[this,zt]
 ·rw[aP (x:=a) ω,aT h2,show(!(false==true))=true from rfl,Fc N ω ω ω ω,ar,hd]
  have:m= -(a*b):=by rw[hme,show(a.natAbs:Int)=a from by omega,show(b.natAbs:Int)= -b from by omega,zs]
  rw[this,zt]
 ·rw[aP (x:=a) ω,aP (x:=b) ω,sS,a7,Fb N ω ω ω ω,ar,hd]
  have:m=a*b:=by rw[hme,show(a.natAbs:Int)=a from by omega,show(b.natAbs:Int)=b from by omega]
  rw[this]
theorem ZK(N:Nat){v:Int}(v0: -170141183460469231731687303715884105728≤v)(v1:v<170141183460469231731687303715884105728):F92 N (dN v)=some (Be v):=by
 unfold F92 dN
 rw[aP ω,av]
 dsimp only
 have hw0: -9223372036854775808≤W .i64 (v%18446744073709551616)∧W .i64 (v%18446744073709551616)<9223372036854775808:=by rw[iB];split<;>omega
 rw[uc hw0.1 hw0.2]
 have hwv:W .i64 (v%18446744073709551616)=if 9223372036854775808≤v%18446744073709551616 then v%18446744073709551616-18446744073709551616 else v%18446744073709551616:=by rw[iB];split<;>split<;>omega
 rw[hwv]
 unfold Be
 by_cases h: -9223372036854775808≤v∧v<9223372036854775808
 ·rw[aj h]
  by_cases hn:v<0
  ·rw[aj (show 9223372036854775808≤v%18446744073709551616 by omega),aj ω,dX ω,a7,av]
   congr 2;omega
  ·rw[ah (show ¬9223372036854775808≤v%18446744073709551616 by omega),ah ω,dX ω,a7,av]
   congr 2;omega
 ·rw[ah h]
  by_cases hm:9223372036854775808≤v%18446744073709551616
  ·rw[aj hm,aj ω,dT ω,cY,ak]
  ·rw[ah hm,ah ω,dT ω,cY,ak]
end VM
end
section
namespace VM
open Go
theorem cond_not{α:Type}(b:Bool)(x y:α):cond (!b) x y=cond b y x:=by cases b<;>rfl
theorem cO{α:Type}(a b:Int)(x y:α):cond (aY a b) x y=if a<b then x else y:=by
 by_cases h:a<b
 ·rw[aT h,aj h];rfl
 ·rw[aP ω,ah h];rfl
theorem cF{α:Type}(a b:Int)(x y:α):cond (dj a b) x y=if a≤b then x else y:=by
 by_cases h:a≤b
 ·rw[fC h,aj h];rfl
 ·rw[fh ω,ah h];rfl
theorem aN{α:Type}(a b:Int)(x y:α):cond (aO a b) x y=if a=b then x else y:=by
 by_cases h:a=b
 ·rw[dX h,aj h];rfl
 ·rw[dT h,ah h];rfl
theorem fY{α:Type}(p:Prop) [Decidable p](x y:α):cond (decide p) x y=if p then x else y:=by
 by_cases h:p
 ·rw[bs h,aj h];rfl
 ·rw[cj h,ah h];rfl
theorem drop_cons{α:Type}{l:List α}{i:Nat}(h:i<l.length)(d:α):l.drop i=l.getD i d::l.drop (i+1):=by
 rw[pM h,aU,bm h];rfl
theorem nV{α σ β:Type}(l:List α)(d:α)(F:Nat→Int→σ→Option β)(g:List α→σ→Option β)(I:Nat→σ→Prop)
  (hs: ∀n i s,i<l.length→I i s→(∀s',I (i+1) s'→F n ((i+1:Nat):Int) s'=g (l.drop (i+1)) s')→F (n+1) (i:Int) s=g (l.getD i d::l.drop (i+1)) s)
  (he: ∀n s,I l.length s→F (n+1) (l.length:Int) s=g [] s): ∀m n i s,l.length-i≤m→m<n→i≤l.length→I i s→F n (i:Int) s=g (l.drop i) s
 |m,0,i,s,_,hn,_,_=>ω
 |m,n+1,i,s,hm,hn,hi,hI=>by
  by_cases h:i<l.length
  ·rw[drop_cons h d]
   exact hs n i s h hI λs' ye=>nV l d F g I hs he (m-1) n (i+1) s' ω ω ω ye
  ·have:i=l.length:=ω
   subst this
   rw[mM];exact he n s hI
theorem z8{α β:Type}(l:List α)(d:α)(F:Nat→Int→Option β)(g:List α→Option β)
  (hs: ∀n i,i<l.length→F n ((i+1:Nat):Int)=g (l.drop (i+1))→F (n+1) (i:Int)=g (l.getD i d::l.drop (i+1)))
  (he: ∀n,F (n+1) (l.length:Int)=g []) (n:Nat) (hn:l.length<n):F n 0=g l:=by
 have:=nV (σ:=Unit) l d (λn i _=>F n i) (λl _=>g l) (λ_ _=>True) (λn i _ h _ hr=>hs n i h (hr () trivial)) (λn _ _=>he n) l.length n 0 () ω hn ω trivial
 simpa using this
theorem scan{F:Nat→Int→Option Bool}{len:Nat}(P:Nat→Prop) [DecidablePred P]
  (hs: ∀n i r,i<len→(∀j,j<i→P j)→F n ((i+1:Nat):Int)=r→F (n+1) (i:Int)=if P i then r else some false) {e:Bool} (he: ∀n,F (n+1) (len:Int)=some e):
  ∀m n i,len-i≤m→m<n→i≤len→(∀j,j<i→P j)→F n (i:Int)=some (decide (∀j,j<len→i≤j→P j)&&e)
 |m,0,i,_,hn,_,_=>ω
 |m,n+1,i,hm,hn,hi,hp=>by
  by_cases h:i<len
  ·rw[hs n i _ h hp rfl]
   by_cases hP:P i
   ·rw[aj hP,scan P hs he (m-1) n (i+1) ω ω ω (λj hj=>by
     by_cases yC:j=i
     ·subst yC;exact hP
     ·exact hp j ω)]
    congr 2
    rw[oF]
    refine⟨λhj j h2 h1=> ?_,λhj j h2 h1=>hj j h2 ω⟩
    by_cases yC:j=i
    ·subst yC;exact hP
    ·exact hj j h2 ω
   ·rw[ah hP,cj (λhj=>hP (hj i h (aG i)))];rfl
  ·have:i=len:=ω
   subst this
   rw[he n,bs (λj h2 h1=>absurd h2 ω)];rfl
theorem ij{F:Nat→Int→Option Bool}{len:Nat}(P:Nat→Prop) [DecidablePred P]{e:Bool}
  (hs: ∀n i r,i<len→(∀j,j<i→P j)→F n ((i+1:Nat):Int)=r→F (n+1) (i:Int)=if P i then r else some false) (he: ∀n,F (n+1) (len:Int)=some e) (n:Nat) (hn:len<n):
  F n 0=some (decide (∀j,j<len→P j)&&e):=by
 have:=scan P hs he len n 0 ω hn ω (λj hj=>absurd hj ω)
 rw[show((0:Nat):Int)=0 from rfl]at this
 rw[this]
 congr 2
 rw[oF]
 exact⟨λh j hj=>h j hj ω,λh j hj _=>h j hj⟩
end VM
end
