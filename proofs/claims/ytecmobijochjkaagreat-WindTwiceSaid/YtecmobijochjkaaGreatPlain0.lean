/- A part of the proof of WindTwice of layer 21: what the functions compute, in plain words. -/
import Derived.Test.YtecmobijochjkaaGreatVm0
import GoSem.Claim
import Derived.Test.YtecmobijochjkaaGreatText
set_option linter.all false
section
namespace VM
open Go
theorem vg(x:Int):W .u64 x=x%18446744073709551616:=by rw[EE];simp[IntKind.wrap,IntKind.bits,IntKind.signed]
theorem ec{x:Int}(h0:0≤x)(h1:x<18446744073709551616):W .u64 x=x:=by rw[vg];omega
theorem iE(x:Int):W .i64 x=if 9223372036854775808≤x%18446744073709551616 then x%18446744073709551616-18446744073709551616 else x%18446744073709551616:=by
 rw[EE];simp[IntKind.wrap,IntKind.bits,IntKind.signed]
theorem ax{x:Int}(h0: -9223372036854775808≤x)(h1:x<9223372036854775808):W .i64 x=x:=by
 rw[iE];split<;>omega
theorem wf_u64{x:Int}:(Lit.int .u64 x).wf=true↔0≤x∧x≤18446744073709551615:=by simp[Lit.wf,IntKind.min,IntKind.max,IntKind.bits,IntKind.signed]
theorem aT{x y:Int}(h:x<y):aY x y=true:=by rw[tX];exact bs h
theorem aP{x y:Int}(h:y≤x):aY x y=false:=by rw[tX];exact cj ω
theorem fE{x y:Int}(h:x≤y):dk x y=true:=by rw[nZ];exact bs h
theorem fm{x y:Int}(h:y<x):dk x y=false:=by rw[nZ];exact cj ω
theorem dX{x y:Int}(h:x=y):aO x y=true:=by rw[jA];exact bs h
theorem ed{x y:Int}(h:x≠y):aO x y=false:=by rw[jA];exact cj h
theorem aX{i:Int}{n:Nat}(h0:0≤i)(h1:i<n):ba i n=true:=by rw[Vr];exact bs ⟨h0,h1⟩
theorem bL{n:Nat}(h:n<68719476736):small n=true:=by rw[EF];exact bs (by simpa [zG]using h)
theorem cM{l c:Int}(h0:0≤l)(h1:l≤c)(h2:c<68719476736):jZ l c=true:=by rw[HX];exact bs (by simp only[zG];omega)
theorem dG{l h m n:Int}(h0:0≤l)(h1:l≤h)(h2:h≤m)(h3:m≤n):ka l h m n=true:=by rw[zH];exact bs ⟨h0,h1,h2,h3⟩
theorem ag(n:Nat):(n:Int)+1=((n+1:Nat):Int):=rfl
theorem sv(x:Int)(h0:0≤x)(h1:x<18446744073709551616):(BitVec.ofInt 64 x).toNat=x.toNat:=by
 rw[BitVec.toNat_ofInt];congr 1;omega
theorem MZ{x y:Int}(hx:0≤x)(Lu:x<18446744073709551616)(hy:0≤y)(hy1:y<18446744073709551616):qL .and .u64 x y=((x.toNat&&& y.toNat:Nat):Int):=by
 rw[tY]
 have h:((BitVec.ofInt 64 x&&& BitVec.ofInt 64 y).toNat)=x.toNat&&& y.toNat:=by rw[BitVec.toNat_and,sv x hx Lu,sv y hy hy1]
 show IntKind.u64.wrap (((BitVec.ofInt 64 x&&& BitVec.ofInt 64 y).toNat:Nat):Int)=_
 rw[h,←EE]
 have:x.toNat&&& y.toNat≤x.toNat:=Nat.and_le_left
 exact ec ω ω
theorem RX{x y:Int}(hx:0≤x)(Lu:x<18446744073709551616)(hy:0≤y)(hy1:y<18446744073709551616):qL .or .u64 x y=((x.toNat|||y.toNat:Nat):Int):=by
 rw[tY]
 have h:((BitVec.ofInt 64 x|||BitVec.ofInt 64 y).toNat)=x.toNat|||y.toNat:=by rw[BitVec.toNat_or,sv x hx Lu,sv y hy hy1]
 show IntKind.u64.wrap (((BitVec.ofInt 64 x|||BitVec.ofInt 64 y).toNat:Nat):Int)=_
 rw[h,←EE]
 have:x.toNat|||y.toNat<2^64:=Nat.or_lt_two_pow ω ω
 exact ec ω ω
theorem od{x:Int}(h0:0≤x)(h1:x<18446744073709551616):qL .and .u64 x 4294967295=x%4294967296:=by
 rw[MZ h0 h1 ω ω]
 have:=LF x.toNat 32
 rw[show((4294967295:Int).toNat)=2^32-1 from rfl,this]
 omega
theorem Ki{x y:Int}(h0:0≤y)(h1:y≤64):shr .u64 x y=x/2^y.toNat:=by
 rw[PZ]
 have:min y.toNat IntKind.u64.bits=y.toNat:=by simp[IntKind.bits];omega
 rw[this,LJ]
 exact_mod_cast bo _
theorem RY(x:Int):shr .u64 x 32=x/4294967296:=by rw[Ki ω ω];rfl
theorem amH(x:Int):shr .u64 x 1=x/2:=by rw[Ki ω ω];rfl
theorem ur{x:Int}(h0: -9223372036854775808≤x)(h1:x<9223372036854775808):shr .i64 x 63=if x<0 then-1 else 0:=by
 rw[PZ]
 have:(2:Int)^(min (63:Int).toNat IntKind.i64.bits)=9223372036854775808:=by rfl
 rw[this,LJ _ ω]
 split<;>omega
theorem Z4{x y:Int}(h0:0≤y)(h1:y≤64):shl .u64 x y=x*2^y.toNat:=by
 rw[Vs]
 have:min y.toNat IntKind.u64.bits=y.toNat:=by simp[IntKind.bits];omega
 rw[this]
theorem mul_lt{a b m n:Int}(ha:0≤a)(hb:0≤b)(ham:a≤m)(hbn:b≤n):0≤a*b∧a*b≤m*n:=
 ⟨vO ha hb,fG (zh ham hb) (xk hbn ω)⟩
end VM
end
section
namespace VM
open Go VM.F
theorem TN(a b:Int):a*b=(a/4294967296)*(b/4294967296)*18446744073709551616+((a/4294967296)*(b%4294967296)+(a%4294967296)*(b/4294967296))*4294967296+(a%4294967296)*(b%4294967296):=by
 have ha:a=(a/4294967296)*4294967296+a%4294967296:=ω
 have hb:b=(b/4294967296)*4294967296+b%4294967296:=ω
 generalize a/4294967296=a1 at*
 generalize a%4294967296=a0 at*
 generalize b/4294967296=b1 at*
 generalize b%4294967296=b0 at*
 subst ha;subst hb
 simp only[qK,jY]
 have e1:a1*4294967296*(b1*4294967296)=a1*b1*18446744073709551616:=by
  rw[kH,Int.mul_left_comm 4294967296,←kH];rfl
 have e2:a1*4294967296*b0=a1*b0*4294967296:=by rw[kH,jW 4294967296,←kH]
 have e3:a0*(b1*4294967296)=a0*b1*4294967296:=by rw[←kH]
 rw[e1,e2,e3];omega
theorem Wz(N:Nat){a b:Int}(ha:0≤a)(ha1:a<18446744073709551616)(hb:0≤b)(my:b<18446744073709551616):
  Z5 N a b=some (a*b/18446744073709551616,a*b%18446744073709551616):=by
 unfold Z5
 have hm:=TN a b
 have h1:=mul_lt (m:=4294967295) (n:=4294967295) (show 0≤a/4294967296 by omega) (show 0≤b/4294967296 by omega) ω ω
 have h2:=mul_lt (m:=4294967295) (n:=4294967295) (show 0≤a/4294967296 by omega) (show 0≤b%4294967296 by omega) ω ω
 have h3:=mul_lt (m:=4294967295) (n:=4294967295) (show 0≤a%4294967296 by omega) (show 0≤b/4294967296 by omega) ω ω
 have h4:=mul_lt (m:=4294967295) (n:=4294967295) (show 0≤a%4294967296 by omega) (show 0≤b%4294967296 by omega) ω ω
 simp only[aP (show(0:Int)≤32 by omega),av,od ha ha1,od hb my,RY]
 generalize a/4294967296=a1 at*
 generalize a%4294967296=a0 at*
 generalize b/4294967296=b1 at*
 generalize b%4294967296=b0 at*
 generalize a*b=ab at*
 generalize a1*b1=p at*
 generalize a1*b0=q at*
 generalize a0*b1=r at*
 generalize a0*b0=s at*
 rw[ec (x:=q) ω ω,ec (x:=s) ω ω,ec (x:=r) ω ω,ec (x:=p) ω ω,ec (x:=q+s/4294967296) ω ω,
  od ω ω,ec (x:=(q+s/4294967296)%4294967296+r) ω ω,ec (x:=p+(q+s/4294967296)/4294967296) ω ω,ec (x:=p+(q+s/4294967296)/4294967296+_) ω ω,vg]
 congr 2
 omega
end VM
end
section
namespace VM
open Go VM.F
theorem Kj(N:Nat){x:Int}(h0: -9223372036854775808≤x)(h1:x<9223372036854775808):TO N x=some (x.natAbs:Int):=by
 unfold TO
 by_cases h:x<0
 ·rw[aT h,ak,vg,vg];congr 1;omega
 ·rw[aP ω,av,vg];congr 1;omega
theorem M4(N:Nat){x y c:Int}(hx:0≤x)(hy:0≤y)(hc:0≤c)(Lq:c≤1):yl N x y c=some ((x+y+c)%18446744073709551616,(x+y+c)/18446744073709551616):=by
 unfold yl;rw[aj ⟨hx,hy,hc,Lq⟩]
theorem wz(N:Nat){x y c:Int}(hx:0≤x)(Lu:x<18446744073709551616)(hy:0≤y)(hy1:y<18446744073709551616)(hc:0≤c)(Lq:c≤1):
  u7 N x y c=some ((x-y-c)%18446744073709551616,if x<y+c then 1 else 0):=by
 unfold u7;rw[aj ⟨hx,Lu,hy,hy1,hc,Lq⟩];congr 2;omega
end VM
end
section
namespace VM
open Go VM.F
structure wA(Y rR Fk gj Fl q rh:Int):Prop where
 hY:Y=rR*4294967296+Fk
 y1:2147483648≤rR
 y1':rR<4294967296
 y0:0≤Fk
 y0':Fk<4294967296
 u1:0≤Fl
 u1':Fl<4294967296
 lt:gj<Y
 q0:0≤q
 eq:q*rR+rh=gj
 r0:0≤rh
 q1:q≤4294967297
 ge:(gj*4294967296+Fl)/Y≤q
theorem wA.prod{Y rR Fk gj Fl q rh:Int}(g:wA Y rR Fk gj Fl q rh):q*Y=(gj-rh)*4294967296+q*Fk∧0≤q*Fk∧q*Fk≤18446744073709551615:=by
 have h:=mul_lt (m:=4294967297) (n:=4294967295) g.q0 g.y0 g.q1 (by have:=g.y0';omega)
 refine⟨?_,h.1,ω⟩
 rw[g.hY,jY,←kH,show q*rR=gj-rh from by have:=g.eq;omega]
theorem wA.pos{Y rR Fk gj Fl q rh:Int}(g:wA Y rR Fk gj Fl q rh):0<Y:=by have:=g.hY;have:=g.y1;have:=g.y0;omega
theorem wA.digit{Y rR Fk gj Fl q rh:Int}(g:wA Y rR Fk gj Fl q rh)(h:0≤gj):0≤(gj*4294967296+Fl)/Y∧(gj*4294967296+Fl)/Y<4294967296:=by
 have hp:=g.pos
 have:=g.u1;have:=g.u1';have:=g.lt
 refine⟨s8 ω ω,?_⟩
 rw[zo hp];omega
theorem wA.next{Y rR Fk gj Fl q rh:Int}(g:wA Y rR Fk gj Fl q rh)(hu:0≤gj)(h:4294967296≤q∨4294967296*rh+Fl<q*Fk):wA Y rR Fk gj Fl (q-1) (rh+rR)∧1≤q:=by
 have hp:=g.pos
 have h1:=g.prod.1
 have hd:=g.digit hu
 have e9:(gj*4294967296+Fl)/Y<q:=by
  rcases h with h|h
  ·omega
  ·rw[zo hp];omega
 have:=g.q1;have:=g.r0;have:=g.y1
 exact⟨⟨g.hY,g.y1,g.y1',g.y0,g.y0',g.u1,g.u1',g.lt,ω,by rw[Int.sub_mul,zB];have:=g.eq;omega,ω,ω,ω⟩,ω⟩
theorem wA.first{Y rR Fk gj Fl:Int}(hY:Y=rR*4294967296+Fk)(y1:2147483648≤rR)(y1':rR<4294967296)(y0:0≤Fk)(y0':Fk<4294967296)(u1:0≤Fl)(u1':Fl<4294967296)(hu:0≤gj)(lt:gj<Y):
  wA Y rR Fk gj Fl (gj/rR) (gj-gj/rR*rR)∧gj-gj/rR*rR<4294967296∧0≤gj/rR*rR∧gj/rR*rR≤gj:=by
 have h1:=L0 gj rR
 have h2:=zr gj (show 0<rR by omega)
 have h3:=Ew gj (show rR≠0 by omega)
 have xr:0≤gj/rR:=s8 hu ω
 rw[jW]at h1
 have hq1:gj/rR≤4294967297:=by
  have:gj/rR<4294967298:=by rw[zo ω];omega
  omega
 have Zc:(gj*4294967296+Fl)/Y≤gj/rR:=by
  have e9:gj*4294967296+Fl<(gj/rR+1)*Y:=by
   have e:gj+1≤(gj/rR+1)*rR:=by rw[qK,zB];omega
   have e2:(gj/rR+1)*Y=(gj/rR+1)*rR*4294967296+(gj/rR+1)*Fk:=by rw[hY,jY,kH]
   have e3:0≤(gj/rR+1)*Fk:=vO ω y0
   omega
  have:(gj*4294967296+Fl)/Y<gj/rR+1:=by rw[zo ω];exact e9
  omega
 exact⟨⟨hY,y1,y1',y0,y0',u1,u1',lt,xr,ω,ω,hq1,Zc⟩,ω,vO xr ω,ω⟩
end VM
end
section
namespace VM
open Go VM.F
def c3:List Int→Int
 |[]=>0
 |d::r=>d+4294967296*c3 r
def VD(l:List Int):Prop:= ∀d∈l,0≤d∧d<4294967296
def lz(n:Nat):List Int:=if n=0 then []else((n%4294967296:Nat):Int)::lz (n/4294967296)
termination_by n
decreasing_by omega
theorem kg:lz 0=[]:=by rw[lz];rfl
theorem xw{n:Nat}(h:n≠0):lz n=((n%4294967296:Nat):Int)::lz (n/4294967296):=by rw[lz];simp[h]
theorem VD.nil:VD []:=λd h=>by cases h
theorem VD.cons{d:Int}{l:List Int}(h0:0≤d)(h1:d<4294967296)(h:VD l):VD (d::l):=λx hx=>by
 rcases aW.1 hx with rfl|hx
 ·exact⟨h0,h1⟩
 ·exact h x hx
theorem VD.tail{d:Int}{l:List Int}(h:VD (d::l)):VD l:=λx hx=>h x (aZ _ hx)
theorem VD.append{a b:List Int}(h:VD a)(k:VD b):VD (a++b):=λx hx=>(bb.1 hx).elim (h x) (k x)
theorem VD.drop{l:List Int}(h:VD l)(n:Nat):VD (l.drop n):=λx hx=>h x (mV hx)
theorem VD.take{l:List Int}(h:VD l)(n:Nat):VD (l.take n):=λx hx=>h x (lM hx)
theorem VD.getD{l:List Int}(h:VD l)(n:Nat):0≤l.getD n 0∧l.getD n 0<4294967296:=by
 rw[aU]
 cases hn:l[n]? with
 |none=>exact⟨fH _,δ⟩
 |some x=>exact h x (List.mem_of_getElem? hn)
theorem VD.set{l:List Int}(h:VD l)(n:Nat){x:Int}(h0:0≤x)(h1:x<4294967296):VD (l.set n x):=λy hy=>by
 rcases xl hy with hy|rfl
 ·exact h y hy
 ·exact⟨h0,h1⟩
theorem VD.af7(n:Nat):VD (List.replicate n 0):=λx hx=>by rw[zk hx];exact⟨fH _,δ⟩
theorem ki: ∀{l:List Int},VD l→0≤c3 l
 |[],_=>fH _
 |d::r,h=>by
  have:=ki h.tail
  have:=(h d (bk ..)).1
  simp only[c3];omega
theorem gX(n:Nat):c3 (lz n)=n:=by
 induction n using Nat.strongRecOn with
 |_ n ih=>
  by_cases h:n=0
  ·subst h;rw[kg];rfl
  ·rw[xw h,c3,ih _ ω];omega
theorem kj(n:Nat):VD (lz n):=by
 induction n using Nat.strongRecOn with
 |_ n ih=>
  by_cases h:n=0
  ·subst h;rw[kg];exact VD.nil
  ·rw[xw h];exact VD.cons ω ω (ih _ ω)
theorem Ae{n:Nat}:lz n=[]↔n=0:=by
 constructor
 ·intro h
  by_cases hn:n=0
  ·exact hn
  ·rw[xw hn]at h;cases h
 ·rintro rfl;exact kg
theorem xx(k:Nat): ∀n,n<4294967296^k→(lz n).length≤k:=by
 induction k with
 |zero=>
  intro n h;have:n=0:=by simpa using h
  subst this;rw[kg];simp
 |succ k ih=>
  intro n h
  by_cases hn:n=0
  ·subst hn;rw[kg];simp
  ·rw[xw hn,aR]
   have:=ih (n/4294967296) (by rw[L1 ω];rw[zy]at h;exact h)
   omega
theorem Kk(k:Nat): ∀n,(lz n).length≤k→n<4294967296^k:=by
 induction k with
 |zero=>
  intro n h
  have:lz n=[]:=tT ω
  rw[Ae]at this;subst this;decide
 |succ k ih=>
  intro n h
  by_cases hn:n=0
  ·subst hn;exact Nat.pow_pos δ
  ·rw[xw hn,aR]at h
   have:=ih (n/4294967296) ω
   rw[L1 ω]at this
   rw[zy];exact this
def strip:List Int→List Int
 |[]=>[]
 |d::r=>if strip r=[]∧d=0 then []else d::strip r
theorem M5: ∀{l:List Int},VD l→strip l=lz (c3 l).toNat
 |[],_=>by rw[show(c3 []).toNat=0 from rfl,kg];rfl
 |d::r,h=>by
  have ih:=M5 h.tail
  have h0:=ki h.tail
  obtain⟨h1,h2⟩:=h d (bk ..)
  simp only[strip,c3,ih,Ae]
  split
  ·rename_i hc
   obtain⟨hc,rfl⟩:=hc
   have:c3 r=0:=ω
   rw[this];exact kg.symm
  ·rename_i hc
   have jB:(d+4294967296*c3 r).toNat≠0:=λhe=>hc ⟨ω,ω⟩
   rw[xw jB]
   congr 1
   ·omega
   ·congr 1;omega
theorem Fm: ∀(l:List Int) (x:Int),strip (l++[x])=if x=0 then strip l else l++[x]
 |[],x=>by simp[strip]
 |d::r,x=>by
  simp only[lQ,strip,Fm r x]
  split
  ·rfl
  ·simp
theorem hZ(l:List Int){k:Nat}(h:k<l.length):l.take (k+1)=l.take k++[l.getD k 0]:=by
 rw[List.take_succ_eq_append_getElem h,aU,bn h];rfl
theorem Ir(N:Nat)(l:List Int)(hl:l.length<68719476736): ∀(k n:Nat),k≤l.length→k<n→oe.l2 N n l (k:Int)=some (strip (l.take k))
 |0,n+1,_,_=>by
  unfold oe.l2 oe.gJ
  simp (disch:=omega) only[aT,aP,fE,fm,dX,ed,aX,bL,cM,dG,ax,ec,ak,av,a7,c0,ar,aJ,dr,ag,aS,aI,bN,cR,aR,bU]
  simp[strip]
 |k+1,n+1,hk,hn=>by
  unfold oe.l2 oe.gJ
  have e:((k+1:Nat):Int)-1=(k:Int):=ω
  simp (disch:=omega) only[aT,aP,fE,fm,dX,ed,aX,bL,cM,dG,ax,ec,ak,av,a7,c0,ar,aJ,dr,ag,aS,aI,bN,cR,aR,bU,e]
  have ih:=Ir N l hl k n ω ω
  rw[hZ l ω,Fm]
  by_cases h:l.getD k 0=0
  ·rw[dX h,ak,ih,aj h]
  ·rw[ed h,av,ah h]
   simp only[dr,cZ]
theorem Kl(N:Nat){l:List Int}(h:VD l)(hN:l.length<N)(hl:l.length<68719476736):oe N l=some (lz (c3 l).toNat):=by
 unfold oe oe.b
 rw[Ir N l hl l.length N (aG _) hN,iY,M5 h]
def cV(v:Int):aH:=(decide (v<0),(lz v.natAbs,()))
theorem sx(N:Nat)(neg:Bool){l:List Int}(h:VD l)(hN:l.length<N)(hl:l.length<68719476736):WA N neg l=some (cV (if neg then-c3 l else c3 l)):=by
 unfold WA
 rw[Kl N h hN hl,ar]
 have h0:=ki h
 cases neg
 ·simp only[av,cV,iW,eT]
  rw[cj ω]
  congr 4;omega
 ·simp only[ak,cV,gA]
  have e:(-c3 l).natAbs=(c3 l).toNat:=ω
  rw[e]
  congr 2
  by_cases hz:c3 l=0
  ·rw[hz,dr,kg,aP (by simp),cj ω]
  ·have:0<(lz (c3 l).toNat).length:=by
    apply si.2
    intro hd;rw[Ae]at hd;omega
   rw[aT ω,bs ω]
theorem size_eq(N:Nat)(hN:1000≤N){u:Int}(h0:0≤u)(h1:u<18446744073709551616):F83 N u=some (lz u.toNat):=by
 unfold F83
 rw[od h0 h1,RY]
 have hv:VD [u%4294967296,u/4294967296]:=VD.cons ω ω (VD.cons ω ω VD.nil)
 simp (disch:=omega) only[aT,aP,fE,fm,dX,ed,aX,bL,cM,dG,ax,ec,ak,av,a7,c0,ar,aJ,dr,ag,aS,aI,bN,cR,aR,bU,Kl N hv (by simp;omega) (by simp)]
 congr 2
 simp only[c3];omega
theorem c5(N:Nat)(hN:1000≤N){x:Int}(h0: -9223372036854775808≤x)(h1:x<9223372036854775808):jV N x=some (cV x):=by
 unfold jV
 have hd: ∀n:Nat,n<18446744073709551616→(lz n).length≤2:=λn h=>xx 2 n (by simpa using h)
 by_cases h:x<0
 ·have e:W .u64 (0-W .u64 x)= -x:=by rw[vg,vg];omega
  simp only[aT h,ak,e,size_eq N hN (show 0≤ -x by omega) ω,ar]
  have:=hd (-x).toNat ω
  rw[sx N true (kj _) ω ω,gX,aj rfl,show-(((-x).toNat:Nat):Int)=x from by omega];rfl
 ·have e:W .u64 x=x:=ec ω ω
  simp only[aP (show 0≤x by omega),av,e,size_eq N hN (show 0≤x by omega) ω,ar]
  have:=hd x.toNat ω
  rw[sx N false (kj _) ω ω,gX,ah qA,vF ω];rfl
theorem wD(N:Nat)(l:List Int)(i:Nat):Z6 N l (i:Int)=some (l.getD i 0):=by
 unfold Z6
 by_cases h:i<l.length
 ·simp (disch:=omega) only[aT,aP,fE,fm,dX,ed,aX,bL,cM,dG,ax,ec,ak,av,a7,c0,ar,aJ,dr,ag,aS,aI,bN,cR,aR,bU]
 ·simp (disch:=omega) only[aT,aP,fE,fm,dX,ed,aX,bL,cM,dG,ax,ec,ak,av,a7,c0,ar,aJ,dr,ag,aS,aI,bN,cR,aR,bU]
  rw[aU,gH ω];rfl
theorem kM(l:List Int)(i:Nat):c3 (l.drop i)=l.getD i 0+4294967296*c3 (l.drop (i+1)):=by
 by_cases h:i<l.length
 ·rw[pU h,c3,aU,bn h];rfl
 ·rw[kG ω,kG ω,aU,gH ω];rfl
theorem M6(N:Nat){a b:List Int}(ha:VD a)(hb:VD b)(yN:a.length≤1000000)(PU:b.length≤1000000): ∀(m n i:Nat) (out:List Int) (c:Int),a.length+b.length+2-i≤m→m<n→out.length=i→i≤a.length+b.length+1→0≤c→c≤1→(a.length≤i→b.length≤i→i=max a.length b.length∨c=0)→
  ∃r,vh.l4 N n a b out c (i:Int)=some (out++r)∧VD r∧c3 r=c3 (a.drop i)+c3 (b.drop i)+c∧r.length≤m
 |m,0,i,out,c,_,hn,_,_,_,_,_=>ω
 |m,n+1,i,out,c,hm,hn,ho,hi,Vf,Lq,hz=>by
  unfold vh.l4 vh.dw
  by_cases M7:a.length≤i∧b.length≤i∧c=0
  ·obtain⟨h1,h2,rfl⟩:=M7
   simp (disch:=omega) only[aT,aP,fE,fm,dX,ed,aX,bL,cM,dG,ax,ec,ak,av,a7,c0,ar,aJ,dr,ag,aS,aI,bN,cR,aR,bU]
   exact⟨[],by simp,VD.nil,by rw[kG h1,kG h2];rfl,bo _⟩
  ·obtain⟨ga0,ga1⟩:=ha.getD i
   obtain⟨gb0,gb1⟩:=hb.getD i
   have step: ∃r,vh.j6 N (vh.l4 N n) a b out c (i:Int)=some (out++r)∧VD r∧c3 r=c3 (a.drop i)+c3 (b.drop i)+c∧r.length≤m:=by
    unfold vh.j6 vh.TP
    have Hh:i≤a.length+b.length:=by
     by_cases h1:a.length≤i∧b.length≤i
     ·rcases hz h1.1 h1.2 with h|h
      ·omega
      ·exact absurd ⟨h1.1,h1.2,h⟩ M7
     ·omega
    simp only[wD,ar]
    generalize hga:a.getD i 0=x at*
    generalize hgb:b.getD i 0=y at*
    rw[ec (x:=x+y) ω ω,ec (x:=c+(x+y)) ω ω,od ω ω,RY]
    simp (disch:=omega) only[aT,aP,fE,fm,dX,ed,aX,bL,cM,dG,ax,ec,ak,av,a7,c0,ar,aJ,dr,ag,aS,aI,bN,cR,aR,bU]
    obtain⟨r,hr,hv,hs,H6⟩:=M6 N ha hb yN PU (m-1) n (i+1) (out++[(c+(x+y))%4294967296]) ((c+(x+y))/4294967296) ω ω (by simp[ho]) ω ω ω (λh1 h2=>by
     by_cases h3:a.length≤i∧b.length≤i
     ·right
      rw[←hga,←hgb,aU,gH h3.1,aU,gH h3.2]
      simp only[Option.getD_none];omega
     ·left;omega)
    refine⟨(c+(x+y))%4294967296::r,by rw[hr];simp,VD.cons ω ω hv,?_,by rw[aR];omega⟩
    rw[c3,hs,kM a i,kM b i,hga,hgb];omega
   by_cases h1:i<a.length
   ·simp (disch:=omega) only[aT,ak];exact step
   ·by_cases h2:i<b.length
    ·simp (disch:=omega) only[aT,aP,ak,av];exact step
    ·have:0<c:=ω
     simp (disch:=omega) only[aT,aP,ak,av];exact step
theorem RZ: ∀{l:List Int},VD l→c3 l<4294967296^l.length
 |[],_=>by simp[c3]
 |d::r,h=>by
  have ih:=RZ h.tail
  obtain⟨h1,h2⟩:=h d (bk ..)
  rw[c3,aR,zz]
  generalize (4294967296:Int)^r.length=p at*
  omega
theorem M8(N:Nat)(hN:4000000≤N){a b:List Int}(ha:VD a)(hb:VD b)(yN:a.length≤1000000)(PU:b.length≤1000000): ∃r,vh N a b=some r∧VD r∧c3 r=c3 a+c3 b∧r.length≤2000002:=by
 unfold vh vh.b
 obtain⟨r,hr,hv,hs,hl⟩:=M6 N ha hb yN PU (a.length+b.length+2) N 0 [] 0 ω ω rfl ω ω ω (λ_ _=> .inr rfl)
 exact⟨r,hr,hv,by simpa using hs,ω⟩
theorem Fo(N:Nat){a b:List Int}(ha:VD a)(hb:VD b)(yN:a.length≤1000000): ∀(m n i:Nat) (out:List Int) (c:Int),a.length-i≤m→m<n→out.length=i→i≤a.length→0≤c→c≤1→0≤c3 (a.drop i)-c3 (b.drop i)-c→
  ∃r,DU.l4 N n a b out c (i:Int)=some (out++r)∧VD r∧c3 r=c3 (a.drop i)-c3 (b.drop i)-c∧r.length≤m
 |m,0,i,out,c,_,hn,_,_,_,_,_=>ω
 |m,n+1,i,out,c,hm,hn,ho,hi,Vf,Lq,hz=>by
  unfold DU.l4 DU.dw
  by_cases h1:i<a.length
  ·obtain⟨ga0,ga1⟩:=ha.getD i
   obtain⟨gb0,gb1⟩:=hb.getD i
   rw[kM a i,kM b i]at*
   simp only[wD,ar,aJ]
   generalize hga:a.getD i 0=x at*
   generalize hgb:b.getD i 0=y at*
   rw[ec (x:=y+c) ω ω,ec (x:=x+4294967296) ω ω]
   by_cases e9:x<y+c
   ·rw[ec (x:=x+4294967296-(y+c)) ω ω]
    simp (disch:=omega) only[aT,aP,fE,fm,dX,ed,aX,bL,cM,dG,ax,ec,ak,av,a7,c0,ar,aJ,dr,ag,aS,aI,bN,cR,aR,bU,hga,hgb]
    obtain⟨r,hr,hv,hs,H6⟩:=Fo N ha hb yN (m-1) n (i+1) (out++[x+4294967296-(y+c)]) 1 ω ω (by simp[ho]) ω ω ω ω
    refine⟨(x+4294967296-(y+c))::r,by rw[hr];simp,VD.cons ω ω hv,by rw[c3,hs];omega,by rw[aR];omega⟩
   ·rw[ec (x:=x-(y+c)) ω ω]
    simp (disch:=omega) only[aT,aP,fE,fm,dX,ed,aX,bL,cM,dG,ax,ec,ak,av,a7,c0,ar,aJ,dr,ag,aS,aI,bN,cR,aR,bU,hga,hgb]
    obtain⟨r,hr,hv,hs,H6⟩:=Fo N ha hb yN (m-1) n (i+1) (out++[x-(y+c)]) 0 ω ω (by simp[ho]) ω ω ω ω
    refine⟨(x-(y+c))::r,by rw[hr];simp,VD.cons ω ω hv,by rw[c3,hs];omega,by rw[aR];omega⟩
  ·simp (disch:=omega) only[aT,aP,fE,fm,dX,ed,aX,bL,cM,dG,ax,ec,ak,av,a7,c0,ar,aJ,dr,ag,aS,aI,bN,cR,aR,bU]
   have h0:=ki (hb.drop i)
   rw[kG (l:=a) ω]at hz ⊢
   simp only[c3]at hz ⊢
   exact⟨[],by simp,VD.nil,by simp only[c3];omega,bo _⟩
theorem Cy(N:Nat)(hN:4000000≤N){a b:List Int}(ha:VD a)(hb:VD b)(yN:a.length≤1000000)(h:c3 b≤c3 a): ∃r,DU N a b=some r∧VD r∧c3 r=c3 a-c3 b∧r.length≤1000000:=by
 unfold DU DU.b
 obtain⟨r,hr,hv,hs,hl⟩:=Fo N ha hb yN a.length N 0 [] 0 ω ω rfl ω ω ω (by simp;omega)
 exact⟨r,hr,hv,by simpa using hs,ω⟩
theorem qo: ∀(l:List Int) (x:Int),c3 (l++[x])=c3 l+4294967296^l.length*x
 |[],x=>by simp[c3]
 |d::r,x=>by
  rw[lQ,c3,qo r x,c3,aR,zz,jW _ 4294967296,kH,jY];omega
theorem M9{a b:List Int}(ha:VD a)(hb:VD b){k:Nat}(h1:k<a.length)(h2:k<b.length)(e9:a.getD k 0<b.getD k 0):c3 (a.take (k+1))<c3 (b.take (k+1)):=by
 rw[hZ a h1,hZ b h2,qo,qo]
 have l1:(a.take k).length=k:=by rw[cc];omega
 have l2:(b.take k).length=k:=by rw[cc];omega
 have v1:=RZ (ha.take k)
 have v2:=ki (hb.take k)
 rw[l1]at*
 rw[l2]
 generalize (4294967296:Int)^k=p at*
 have hp:0<p:=by have:=ki (ha.take k);omega
 have:=xk (show a.getD k 0+1≤b.getD k 0 by omega) (Int.le_of_lt hp)
 rw[jY,Int.mul_one]at this
 omega
def vu(x:Int):Int:=if x<0 then-1 else if 0<x then 1 else 0
theorem Na(N:Nat){a b:List Int}(ha:VD a)(hb:VD b)(hl:a.length=b.length)(yN:a.length≤1000000): ∀(k n:Nat),k≤a.length→k<n→Dm.l6 N n a b ((k:Int)-1)=some (vu (c3 (a.take k)-c3 (b.take k)))
 |k,0,_,hn=>ω
 |0,n+1,_,_=>by
  unfold Dm.l6 Dm.uu
  simp (disch:=omega) only[aT,aP,fE,fm,dX,ed,aX,bL,cM,dG,ax,ec,ak,av,a7,c0,ar,aJ,dr,ag,aS,aI,bN,cR,aR,bU]
  simp[vu,c3]
 |k+1,n+1,hk,hn=>by
  unfold Dm.l6 Dm.uu
  have e:((k+1:Nat):Int)-1=(k:Int):=ω
  rw[e]
  simp (disch:=omega) only[aT,aP,fE,fm,dX,ed,aX,bL,cM,dG,ax,ec,ak,av,a7,c0,ar,aJ,dr,ag,aS,aI,bN,cR,aR,bU]
  by_cases h1:a.getD k 0<b.getD k 0
  ·rw[aT h1,ak]
   have:=M9 ha hb (k:=k) ω ω h1
   rw[vu,aj ω]
  ·rw[aP ω,av]
   by_cases h2:b.getD k 0<a.getD k 0
   ·rw[aT h2,ak]
    have:=M9 hb ha (k:=k) ω ω h2
    rw[vu,ah ω,aj ω]
   ·rw[aP ω,av,Na N ha hb hl yN k n ω ω]
    congr 2
    rw[hZ a ω,hZ b ω,qo,qo,show a.getD k 0=b.getD k 0 from by omega,cc,cc,hl]
    omega
theorem Nb(N:Nat)(hN:4000000≤N)(m k:Nat)(hm:(lz m).length≤1000000)(hk:(lz k).length≤1000000):Dm N (lz m) (lz k)=some (vu ((m:Int)-k)):=by
 unfold Dm Dm.b
 by_cases h:(lz m).length=(lz k).length
 ·simp (disch:=omega) only[aT,aP,fE,fm,dX,ed,aX,bL,cM,dG,ax,ec,ak,av,a7,c0,ar,aJ,dr,ag,aS,aI,bN,cR,aR,bU]
  rw[Na N (kj m) (kj k) h hm (lz m).length N (aG _) ω,iY,h,iY,gX,gX]
 ·rw[ed ω,c0,ak]
  by_cases e9:(lz m).length<(lz k).length
  ·rw[aT ω,ak]
   have h1:=Kk ((lz k).length-1) m ω
   have h2: ¬(k<4294967296^((lz k).length-1)):=λh=>by have:=xx _ _ h;omega
   rw[vu,aj ω]
  ·rw[aP ω,av]
   have h1:=Kk ((lz m).length-1) k ω
   have h2: ¬(m<4294967296^((lz m).length-1)):=λh=>by have:=xx _ _ h;omega
   rw[vu,ah ω,aj ω]
end VM
end
section
namespace VM
open Go VM.F
def Fit(v:Int)(k:Nat):Prop:=v.natAbs<4294967296^k
theorem Fit.len{v:Int}{k:Nat}(h:Fit v k):(lz v.natAbs).length≤k:=xx k _ h
theorem Fit.mono{v:Int}{j k:Nat}(h:Fit v j)(hjk:j≤k):Fit v k:=mW h (Nat.pow_le_pow_right δ hjk)
theorem Fit.neg{v:Int}{k:Nat}(h:Fit v k):Fit (-v) k:=by unfold Fit at*;rwa [Int.natAbs_neg]
theorem Fit.i64{v:Int}(h0: -9223372036854775808≤v)(h1:v<9223372036854775808):Fit v 2:=by
 unfold Fit
 rw[show(4294967296:Nat)^2=18446744073709551616 from by decide];omega
theorem Fit.add{u v:Int}{k:Nat}(hu:Fit u k)(hv:Fit v k):Fit (u+v) (k+1):=by
 unfold Fit at*
 rw[zy]
 have:(u+v).natAbs≤u.natAbs+v.natAbs:=Int.natAbs_add_le u v
 generalize 4294967296^k=p at*
 omega
theorem Fit.mul{u v:Int}{j k:Nat}(hu:Fit u j)(hv:Fit v k):Fit (u*v) (j+k):=by
 unfold Fit at*
 rw[Int.natAbs_mul,Nat.pow_add]
 exact Nat.mul_lt_mul'' hu hv
theorem Fit.of_le{u v:Int}{k:Nat}(hv:Fit v k)(h:u.natAbs≤v.natAbs):Fit u k:=Nat.lt_of_le_of_lt h hv
theorem o4(a b:Bool):pt .bool a b=(a==b):=by simp[pt]
theorem jc(N:Nat)(hN:4000000≤N){u v:Int}(hu:Fit u 900000)(hv:Fit v 900000):zd N (cV u) (cV v)=some (cV (u+v)):=by
 have lu:=hu.len
 have lv:=hv.len
 unfold zd
 simp only[cV,o4]
 by_cases hs:decide (u<0)=decide (v<0)
 ·rw[hs,s6,ak]
  obtain⟨r,hr,hvd,J4,hl⟩:=M8 N hN (kj u.natAbs) (kj v.natAbs) ω ω
  simp only[hr,ar,sx N _ hvd ω ω,J4,gX]
  congr 1
  show cV _=cV _
  congr 1
  by_cases h:v<0
  ·have:u<0:=by simpa [h]using hs
   rw[aj (bs h)];omega
  ·have: ¬u<0:=by simpa [h]using hs
   rw[ah (by simpa using h)];omega
 ·have hb:(decide (u<0)==decide (v<0))=false:=by simpa using hs
  rw[hb,av,Nb N hN _ _ ω ω,ar]
  by_cases hc:v.natAbs≤u.natAbs
  ·have h1:dk 0 (vu ((u.natAbs:Int)-v.natAbs))=true:=fE (by unfold vu;split<;>(try split)<;>omega)
   obtain⟨r,hr,hvd,J4,hl⟩:=Cy N hN (kj u.natAbs) (kj v.natAbs) ω (by rw[gX,gX];omega)
   simp only[h1,ak,hr,ar,sx N _ hvd ω ω,J4,gX]
   congr 1
   show cV _=cV _
   congr 1
   by_cases h:u<0
   ·have: ¬v<0:=λhv=>hs (by simp[h,hv])
    rw[aj (bs h)];omega
   ·have:v<0:=LO λhv=>hs (by simp[h,hv])
    rw[ah (by simpa using h)];omega
  ·have h1:dk 0 (vu ((u.natAbs:Int)-v.natAbs))=false:=fm (by unfold vu;rw[aj ω];omega)
   obtain⟨r,hr,hvd,J4,hl⟩:=Cy N hN (kj v.natAbs) (kj u.natAbs) ω (by rw[gX,gX];omega)
   simp only[h1,av,hr,ar,sx N _ hvd ω ω,J4,gX]
   congr 1
   show cV _=cV _
   congr 1
   by_cases h:v<0
   ·have: ¬u<0:=λhu=>hs (by simp[h,hu])
    rw[aj (bs h)];omega
   ·have:u<0:=LO λhu=>hs (by simp[h,hu])
    rw[ah (by simpa using h)];omega
theorem jy(N:Nat)(hN:4000000≤N){u:Int}(hu:Fit u 900000):TQ N (cV u)=some (cV (-u)):=by
 have lu:=hu.len
 unfold TQ
 simp only[cV]
 simp only[sx N _ (kj u.natAbs) ω ω,ar,gX]
 congr 1
 show cV _=cV _
 congr 1
 by_cases h:u<0
 ·rw[bs h,a7,ah qA];omega
 ·rw[cj h,c0,aj rfl];omega
theorem Fp(N:Nat)(hN:4000000≤N){u:Int}(hu:Fit u 900000):WB N (cV u)=some (cV u.natAbs):=by
 have lu:=hu.len
 unfold WB
 simp only[cV]
 simp only[sx N _ (kj u.natAbs) ω ω,ar,gX,iW,eT]
 rfl
theorem uv(N:Nat)(hN:4000000≤N){u v:Int}(hu:Fit u 900000)(hv:Fit v 900000):R1 N (cV u) (cV v)=some (cV (u-v)):=by
 unfold R1
 simp only[jy N hN hv,ar,jc N hN hu hv.neg,Int.sub_eq_add_neg]
theorem p4(N:Nat)(u:Int):R2 N (cV u)=some (vu u):=by
 unfold R2
 simp only[cV]
 by_cases h:u=0
 ·subst h
  rw[show(0:Int).natAbs=0 from rfl,kg]
  simp (disch:=omega) only[aT,aP,fE,fm,dX,ed,aX,bL,cM,dG,ax,ec,ak,av,a7,c0,ar,aJ,dr,ag,aS,aI,bN,cR,aR,bU]
  rfl
 ·have:0<(lz u.natAbs).length:=by
   apply si.2
   intro hd;rw[Ae]at hd;omega
  rw[ed ω,av]
  by_cases hn:u<0
  ·rw[bs hn,ak,vu,aj hn]
  ·rw[cj hn,av,vu,ah hn,aj ω]
theorem Qj(N:Nat)(hN:4000000≤N){u v:Int}(hu:Fit u 900000)(hv:Fit v 900000):PW N (cV u) (cV v)=some (vu (u-v)):=by
 unfold PW
 simp only[uv N hN hu hv,ar,p4]
theorem R3(l:List Int)(h: ∀x∈l,-9223372036854775808≤x∧x<9223372036854775808): -(9223372036854775808*l.length)≤l.sum∧l.sum≤9223372036854775808*l.length:=by
 induction l with
 |nil=>simp
 |cons x l ih=>
  have:=ih (λy hy=>h y (aZ _ hy))
  obtain⟨h1,h2⟩:=h x (bk ..)
  rw[cy,aR]
  omega
theorem Af{v:Int}{n:Nat}(hn:n≤1000000)(h0: -(9223372036854775808*n)≤v)(h1:v≤9223372036854775808*n):Fit v 3:=by
 unfold Fit
 rw[show(4294967296:Nat)^3=79228162514264337593543950336 from by decide]
 omega
theorem tA{l:List Int}(h: ∀x∈l,-9223372036854775808≤x∧x<9223372036854775808)(i:Nat): -9223372036854775808≤l.getD i 0∧l.getD i 0<9223372036854775808:=by
 rw[aU]
 cases hn:l[i]? with
 |none=>exact⟨δ,δ⟩
 |some x=>exact h x (List.mem_of_getElem? hn)
theorem lA(l:List Int){i:Nat}(h:i<l.length):(l.take (i+1)).sum=(l.take i).sum+l.getD i 0:=by
 rw[hZ l h];simp
theorem Ah(N:Nat)(hN:4000000≤N){l:List Int}(h: ∀x∈l,-9223372036854775808≤x∧x<9223372036854775808)(hl:l.length≤1000000): ∀(m n i:Nat) (z:aH),l.length-i≤m→m<n→i≤l.length→
  pB.l3 N n l z (cV (l.take i).sum) (i:Int)=some (cV l.sum)
 |m,0,i,z,_,hn,_=>ω
 |m,n+1,i,z,hm,hn,hi=>by
  unfold pB.l3 pB.nO
  by_cases h1:i<l.length
  ·obtain⟨g0,g1⟩:=tA h i
   have f1:=R3 (l.take i) (λx hx=>h x (lM hx))
   rw[cc,iw ω]at f1
   have f2:Fit (l.take i).sum 900000:=(Af (n:=i) ω f1.1 f1.2).mono ω
   have f3:Fit (l.getD i 0) 900000:=(Fit.i64 g0 g1).mono ω
   simp (disch:=omega) only[aT,aP,fE,fm,dX,ed,aX,bL,cM,dG,ax,ec,ak,av,a7,c0,ar,aJ,dr,ag,aS,aI,bN,cR,aR,bU,c5 N ω g0 g1,jc N hN f2 f3]
   rw[←lA l h1]
   exact Ah N hN h hl (m-1) n (i+1) z ω ω ω
  ·simp (disch:=omega) only[aT,aP,fE,fm,dX,ed,aX,bL,cM,dG,ax,ec,ak,av,a7,c0,ar,aJ,dr,ag,aS,aI,bN,cR,aR,bU]
   rw[jG ω]
theorem iF:cV 0=(false,([],())):=by unfold cV;rw[show(0:Int).natAbs=0 from rfl,kg];rfl
theorem yQ(N:Nat)(hN:4000000≤N){l:List Int}(h: ∀x∈l,-9223372036854775808≤x∧x<9223372036854775808)(hl:l.length≤1000000):pB N l=some (cV l.sum):=by
 unfold pB pB.b
 have:=Ah N hN h hl l.length N 0 (false,([],())) ω ω ω
 rw[oU,iA,iF]at this
 exact this
theorem WC{a b:Int}(ha:0≤a)(ha1:a<4294967296)(hb:0≤b)(my:b<4294967296):qL .or .u64 a (b*4294967296)=a+b*4294967296:=by
 rw[RX ha ω ω ω]
 have h:=LG (i:=32) (b:=a.toNat) ω b.toNat
 have e:(b*4294967296).toNat=2^32*b.toNat:=ω
 rw[e,Nat.or_comm,←h];omega
theorem TR{a b:Int}(ha:0≤a)(ha1:a<4294967296)(hb:0≤b)(my:b<4294967296):qL .or .u64 (b*4294967296) a=a+b*4294967296:=by
 rw[RX ω ω ha ω]
 have h:=LG (i:=32) (b:=a.toNat) ω b.toNat
 have e:(b*4294967296).toNat=2^32*b.toNat:=ω
 rw[e,←h];omega
theorem af8{x:Int}(h0:0≤x):shl .u64 x 32=x*4294967296:=by rw[Z4 ω ω];rfl
def Bs(v:Int):Int×Bool:=if-9223372036854775808≤v∧v<9223372036854775808 then(v,true)else(0,false)
theorem Z7{n:Nat}(h:(lz n).length≤2):(lz n).getD 0 0+4294967296*(lz n).getD 1 0=n:=by
 have h1:=kM (lz n) 0
 have h2:=kM (lz n) 1
 rw[cZ,gX]at h1
 rw[kG (l:=lz n) (i:=1+1) h]at h2
 simp only[c3,gi]at h1 h2
 omega
theorem q3(N:Nat)(v:Int):wE N (cV v)=some (Bs v):=by
 unfold wE
 simp only[cV]
 by_cases hl:2<(lz v.natAbs).length
 ·rw[aT ω,ak,Bs,ah]
  intro hh
  have:=xx 2 v.natAbs (by rw[show(4294967296:Nat)^2=18446744073709551616 from by decide];omega)
  omega
 ·have h2:=Z7 (n:=v.natAbs) ω
  obtain⟨a0,a1⟩:=(kj v.natAbs).getD 0
  obtain⟨b0,b1⟩:=(kj v.natAbs).getD 1
  have e0:=wD N (lz v.natAbs) 0
  have e1:=wD N (lz v.natAbs) 1
  simp only[Int.natCast_zero,Int.natCast_one]at e0 e1
  rw[aP ω,av,e0,e1]
  generalize (lz v.natAbs).getD 0 0=a at*
  generalize (lz v.natAbs).getD 1 0=b at*
  simp only[ar]
  rw[aP (show(0:Int)≤32 by omega),av,af8 b0,ec (x:=b*4294967296) ω ω,WC a0 a1 b0 b1]
  have ev:a+b*4294967296=v.natAbs:=ω
  rw[ev]
  by_cases hn:v<0
  ·rw[bs hn,ak]
   by_cases Kg:9223372036854775808<(v.natAbs:Int)
   ·rw[aT Kg,ak,Bs,ah ω]
   ·rw[aP ω,av,Bs,aj ω,vg,iE]
    congr 2
    split<;>omega
  ·rw[cj hn,av]
   by_cases Kg:9223372036854775807<(v.natAbs:Int)
   ·rw[aT Kg,ak,Bs,ah ω]
   ·rw[aP ω,av,Bs,aj ω,ax ω ω]
    congr 2;omega
end VM
end
section
namespace VM
open Go VM.F
theorem Nc: ∀(l:List Int) (k:Nat) (x:Int),k<l.length→c3 (l.set k x)=c3 l+4294967296^k*(x-l.getD k 0)
 |d::r,0,x,_=>by simp[c3];omega
 |d::r,k+1,x,h=>by
  have ih:=Nc r k x (by simpa using h)
  rw[List.set_cons_succ,c3,c3,ih,List.getD_cons_succ,zz,jW (4294967296^k) 4294967296,kH,jY];omega
theorem getD_set_ne(l:List Int){j k:Nat}(x:Int)(h:j≠k):(l.set j x).getD k 0=l.getD k 0:=by
 simp[aU,List.getElem?_set_ne h]
theorem mC(l:List Int){k:Nat}(x:Int)(h:k<l.length):(l.set k x).getD k 0=x:=by
 simp[aU,List.getElem?_set,h]
theorem uw(l:List Int){k:Nat}(h:l.length≤k):l.getD k 0=0:=by
 rw[aU,gH h];rfl
theorem Cz(N:Nat)(K:aH→aH→aH→List Int→Int→Option aH){a b:List Int}(na nb:Bool)(z:aH)(ha:VD a)(hb:VD b)(i:Nat)(hi:i<a.length)(yN:a.length≤100000)(PU:b.length≤100000):
  ∀(m n j:Nat) (out:List Int) (c:Int),b.length+1-j≤m→m<n→VD out→out.length=a.length+b.length+1→0≤c→c<4294967296→(j≤b.length→ ∀k,i+b.length≤k→out.getD k 0=0)→(b.length<j→c=0∧j=b.length+1∧ ∀k,i+b.length+1≤k→out.getD k 0=0)→
  ∃yR,jS.l7 N K n (na,(a,())) (nb,(b,())) z out (i:Int) c (j:Int)=K (na,(a,())) (nb,(b,())) z yR ((i+1:Nat):Int)∧VD yR∧yR.length=out.length∧
   c3 yR=c3 out+4294967296^i*(4294967296^j*(a.getD i 0*c3 (b.drop j)+c))∧ ∀k,i+1+b.length≤k→yR.getD k 0=0
 |m,0,j,out,c,_,hn,_,_,_,_,_,_=>ω
 |m,n+1,j,out,c,hm,hn,ho,Ii,Vf,Lq,hz,G7=>by
  unfold jS.l7 jS.q4
  by_cases M7:b.length≤j∧c=0
  ·obtain⟨h1,rfl⟩:=M7
   simp (disch:=omega) only[aT,aP,fE,fm,dX,ed,aX,bL,cM,dG,ax,ec,ak,av,a7,c0,ar,aJ,dr,ag,aS,aI,bN,cR,aR,bU]
   refine⟨out,rfl,ho,rfl,by rw[kG h1];simp[c3],λk hk=> ?_⟩
   by_cases hj:j≤b.length
   ·exact hz hj k ω
   ·exact(G7 ω).2.2 k ω
  ·have G1:j≤b.length:=by
    by_cases hj:j≤b.length
    ·exact hj
    ·exact absurd ⟨ω,(G7 ω).1⟩ M7
   obtain⟨ga0,ga1⟩:=ha.getD i
   obtain⟨gb0,gb1⟩:=hb.getD j
   obtain⟨go0,go1⟩:=ho.getD (i+j)
   have step: ∃yR,jS.j9 N K (jS.l7 N K n) (na,(a,())) (nb,(b,())) z out (i:Int) c (j:Int)=K (na,(a,())) (nb,(b,())) z yR ((i+1:Nat):Int)∧VD yR∧yR.length=out.length∧
     c3 yR=c3 out+4294967296^i*(4294967296^j*(a.getD i 0*c3 (b.drop j)+c))∧ ∀k,i+1+b.length≤k→yR.getD k 0=0:=by
    unfold jS.j9 jS.Nd
    have eij:(i:Int)+(j:Int)=((i+j:Nat):Int):=rfl
    have hp:=mul_lt (m:=4294967295) (n:=4294967295) ga0 gb0 ω ω
    simp only[wD,ar,eij,aJ]
    simp (disch:=omega) only[aT,aP,fE,fm,dX,ed,aX,bL,cM,dG,ax,ec,ak,av,a7,c0,ar,aJ,dr,ag,aS,aI,bN,cR,aR,bU]
    generalize hx:out.getD (i+j) 0=x at*
    generalize ha':a.getD i 0=ai at*
    generalize eY:b.getD j 0=bj at*
    generalize hpe:ai*bj=p at*
    have hpz:b.length≤j→p=0∧x=0:=λh=>by
     rw[uw b h]at eY
     refine⟨by rw[←hpe,←eY,zA],?_⟩
     rw[←hx];exact hz G1 _ ω
    rw[od ω ω,RY]
    have ar6:(out.set (i+j) ((c+(x+p))%4294967296)).length=a.length+b.length+1:=by rw[bN];exact Ii
    obtain⟨yR,h1,h2,h3,h4,h5⟩:=Cz N K na nb z ha hb i hi yN PU (m-1) n (j+1) (out.set (i+j) ((c+(x+p))%4294967296)) ((c+(x+p))/4294967296) ω ω (ho.set _ ω ω) ar6 ω ω
     (λh k hk=>by rw[getD_set_ne _ _ ω];exact hz G1 k hk)
     (λh=>by
      obtain⟨hp0,V6⟩:=hpz ω
      refine⟨ω,ω,λk hk=> ?_⟩
      rw[getD_set_ne _ _ ω];exact hz G1 k ω)
    refine⟨yR,h1,h2,by rw[h3,bN],?_,h5⟩
    rw[h4,Nc _ _ _ ω,hx,ha',kM b j,eY,jY ai,hpe,Int.pow_add,zz]
    have e1:ai*(4294967296*c3 (b.drop (j+1)))=4294967296*(ai*c3 (b.drop (j+1))):=Int.mul_left_comm _ _ _
    rw[e1]
    generalize ai*c3 (b.drop (j+1))=y
    generalize (4294967296:Int)^i=P
    generalize (4294967296:Int)^j=R
    rw[kH R,kH P,Int.add_assoc,←jY,←jY]
    congr 3
    omega
   by_cases h1:j<b.length
   ·simp (disch:=omega) only[aT,ak];exact step
   ·have:0<c:=ω
    simp (disch:=omega) only[aT,aP,ak,av];exact step
theorem CA(N:Nat)(hN:4000000≤N){a b:List Int}(na nb:Bool)(z:aH)(ha:VD a)(hb:VD b)(yN:a.length≤100000)(PU:b.length≤100000):
  ∀(m n i:Nat) (out:List Int),a.length-i≤m→m<n→i≤a.length→VD out→out.length=a.length+b.length+1→(∀k,i+b.length≤k→out.getD k 0=0)→c3 out=c3 (a.take i)*c3 b→
  jS.l3 N n (na,(a,())) (nb,(b,())) z out (i:Int)=some (cV (if na=nb then c3 a*c3 b else-(c3 a*c3 b)))
 |m,0,i,out,_,hn,_,_,_,_,_=>ω
 |m,n+1,i,out,hm,hn,hi,ho,Ii,hz,hv=>by
  unfold jS.l3 jS.nO
  by_cases h1:i<a.length
  ·simp only
   rw[aT ω,ak]
   obtain⟨yR,e1,e2,e3,e4,e5⟩:=Cz N (jS.l3 N n) na nb z ha hb i h1 yN PU (b.length+1) N 0 out 0 ω ω ho Ii ω ω (λ_ k hk=>hz k hk) (λh=>ω)
   rw[show((0:Nat):Int)=0 from rfl]at e1
   rw[e1]
   refine CA N hN na nb z ha hb yN PU (m-1) n (i+1) yR ω ω ω e2 (by rw[e3];exact Ii) (λk hk=>e5 k ω) ?_
   rw[e4,hv,hZ a h1,qo,cc,iw ω,cZ,Int.pow_zero,zB,gI,qK,kH]
  ·simp only
   rw[aP ω,av]
   simp only[sx N _ ho ω ω,ar]
   rw[hv,jG ω,o4]
   congr 2
   cases na<;>cases nb<;>simp
theorem wF(N:Nat)(hN:4000000≤N){u v:Int}(hu:Fit u 90000)(hv:Fit v 90000):jS N (cV u) (cV v)=some (cV (u*v)):=by
 have lu:=hu.len
 have lv:=hv.len
 unfold jS jS.b
 simp only[cV]
 simp (disch:=omega) only[aT,aP,fE,fm,dX,ed,aX,bL,cM,dG,ax,ec,ak,av,a7,c0,ar,aJ,dr,ag,aS,aI,bN,cR,aR,bU]
 have e:(((lz u.natAbs).length:Int)+((lz v.natAbs).length:Int)+1).toNat=(lz u.natAbs).length+(lz v.natAbs).length+1:=ω
 have:=CA N hN (decide (u<0)) (decide (v<0)) (false,([],())) (kj u.natAbs) (kj v.natAbs) ω ω (lz u.natAbs).length N 0 (List.replicate ((lz u.natAbs).length+(lz v.natAbs).length+1) 0) ω ω ω (VD.af7 _) (by simp)
  (λk _=>by rw[aU,Eg];split<;>rfl) (by
   have: ∀n,c3 (List.replicate n 0)=0:=λn=>by
    induction n with
    |zero=>rfl
    |succ n ih=>rw[zq,c3,ih];rfl
   rw[this];simp[c3])
 rw[gX,gX]at this
 have e2:(((lz u.natAbs).length+(lz v.natAbs).length:Nat):Int)+1=(lz u.natAbs).length+(lz v.natAbs).length+1:=ω
 first
 |(rw[e];refine this.trans ?_)
 |(refine(this).trans ?_)
 show some (cV _)=some (cV _)
 congr 2
 have key:(u.natAbs:Int)*v.natAbs=if decide (u<0)=decide (v<0)then u*v else-(u*v):=by
  by_cases h1:u<0<;>by_cases h2:v<0
  ·rw[aj (by simp[h1,h2]),show(u.natAbs:Int)= -u from by omega,show(v.natAbs:Int)= -v from by omega,Int.neg_mul_neg]
  ·rw[ah (by simp[h1,h2]),show(u.natAbs:Int)= -u from by omega,show(v.natAbs:Int)=v from by omega,Int.neg_mul]
  ·rw[ah (by simp[h1,h2]),show(u.natAbs:Int)=u from by omega,show(v.natAbs:Int)= -v from by omega,zC]
  ·rw[aj (by simp[h1,h2]),show(u.natAbs:Int)=u from by omega,show(v.natAbs:Int)=v from by omega]
 rw[key]
 split<;>simp
end VM
end
section
namespace VM
open Go VM.F
theorem Z8{x:Int}(h0:0≤x)(h1:x<18446744073709551616):qL .and .u64 x 1=x%2:=by
 rw[MZ h0 h1 ω ω]
 have:=LF x.toNat 1
 rw[show((1:Int).toNat)=2^1-1 from rfl,this]
 omega
theorem Hy{l:List Int}{k:Nat}(x:Int)(h:k<l.length):c3 ((l.set k x).drop k)=x+4294967296*c3 (l.drop (k+1)):=by
 rw[kM,mC l x h,List.drop_set_of_lt ω]
theorem Is(N:Nat){d:List Int}(hd:VD d)(hl:d.length≤100000)(hN:4000000≤N): ∀(k n:Nat) (out:List Int) (c:Int),k≤d.length→k<n→VD out→out.length=d.length→c=c3 (d.drop k)%2→c3 (out.drop k)=c3 (d.drop k)/2→
  pC.l4 N n d out c ((k:Int)-1)=some (lz (c3 d/2).toNat,c3 d%2)
 |k,0,out,c,_,hn,_,_,_,_=>ω
 |0,n+1,out,c,_,_,ho,Ii,hc,hv=>by
  unfold pC.l4 pC.dw
  simp (disch:=omega) only[aT,aP,fE,fm,dX,ed,aX,bL,cM,dG,ax,ec,ak,av,a7,c0,ar,aJ,dr,ag,aS,aI,bN,cR,aR,bU,Kl N ho ω ω]
  rw[cZ,cZ]at hv
  rw[cZ]at hc
  rw[hv,hc]
 |k+1,n+1,out,c,hk,hn,ho,Ii,hc,hv=>by
  unfold pC.l4 pC.dw
  have e:((k+1:Nat):Int)-1=(k:Int):=ω
  obtain⟨g0,g1⟩:=hd.getD k
  have hn0:=ki (hd.drop (k+1))
  have e1:=kM d k
  simp only[e,aJ]
  rw[af8 ω]
  generalize hx:d.getD k 0=x at*
  rw[ec (x:=c*4294967296) ω ω,TR g0 g1 ω ω]
  simp (disch:=omega) only[aT,aP,fE,fm,dX,ed,aX,bL,cM,dG,ax,ec,ak,av,a7,c0,ar,aJ,dr,ag,aS,aI,bN,cR,aR,bU,amH,Z8]
  refine Is N hd hl hN k n (out.set k ((x+c*4294967296)/2)) ((x+c*4294967296)%2) ω ω (ho.set _ ω ω) (by rw[bN];exact Ii) (by rw[e1,hc];omega) ?_
  rw[Hy _ ω,hv,e1]
  omega
theorem Z9(N:Nat)(hN:4000000≤N)(m:Nat)(h:(lz m).length≤100000):pC N (lz m)=some (lz (m/2),((m%2:Nat):Int)):=by
 unfold pC pC.b
 simp (disch:=omega) only[aT,aP,fE,fm,dX,ed,aX,bL,cM,dG,ax,ec,ak,av,a7,c0,ar,aJ,dr,ag,aS,aI,bN,cR,aR,bU]
 have:=Is N (kj m) h hN (lz m).length N (List.replicate (lz m).length 0) 0 (aG _) ω (VD.af7 _) (by simp) (by rw[mX];rfl) (by rw[mX,kG (by simp)];rfl)
 rw[gX]at this
 rw[this]
 congr 2
def bin(n:Nat):List Int:=if n=0 then []else((n%2:Nat):Int)::bin (n/2)
termination_by n
decreasing_by omega
theorem DV{n:Nat}(h:n≠0):bin n=((n%2:Nat):Int)::bin (n/2):=by rw[bin];simp[h]
theorem wG:bin 0=[]:=by rw[bin];rfl
def Ai:List Int→Int
 |[]=>0
 |d::r=>d+2*Ai r
theorem aaa(n:Nat):Ai (bin n)=n:=by
 induction n using Nat.strongRecOn with
 |_ n ih=>
  by_cases h:n=0
  ·subst h;rw[wG];rfl
  ·rw[DV h,Ai,ih _ ω];omega
theorem aab(n:Nat): ∀d∈bin n,d=0∨d=1:=by
 induction n using Nat.strongRecOn with
 |_ n ih=>
  by_cases h:n=0
  ·subst h;rw[wG];intro d hd;cases hd
  ·rw[DV h];intro d hd
   rcases aW.1 hd with rfl|hd
   ·omega
   ·exact ih _ ω d hd
theorem aac(k:Nat): ∀n,n<2^k→(bin n).length≤k:=by
 induction k with
 |zero=>
  intro n h;have:n=0:=by simpa using h
  subst this;rw[wG];simp
 |succ k ih=>
  intro n h
  by_cases hn:n=0
  ·subst hn;rw[wG];simp
  ·rw[DV hn,aR]
   have:=ih (n/2) (by rw[zy]at h;omega)
   omega
theorem WD{n k:Nat}(h:n<4294967296^k):(bin n).length≤32*k:=aac _ _ (mW h (by rw[Nat.pow_mul];exact aG _))
theorem It(N:Nat)(hN:4000000≤N)(x2 x3 x4 x5:aH): ∀(m n:Nat) (t:Nat) (bits:List Int),(bin t).length≤m→m<n→(lz t).length≤100000→bits.length+(bin t).length≤4000000→
  iu.l3 N n x2 x3 x4 x5 bits (lz t)=iu.l9 N N x2 x3 x4 x5 (bits++bin t) (false,([],())) (false,([],())) (((bits++bin t).length:Int)-1)
 |m,0,t,bits,_,hn,_,_=>ω
 |m,n+1,t,bits,hm,hn,hd,hb=>by
  unfold iu.l3 iu.nO
  by_cases ht:t=0
  ·subst ht
   rw[kg,wG]
   simp (disch:=omega) only[aT,aP,fE,fm,dX,ed,aX,bL,cM,dG,ax,ec,ak,av,a7,c0,ar,aJ,dr,ag,aS,aI,bN,cR,aR,bU,ch]
  ·have Ho:0<(lz t).length:=by
    apply si.2
    intro h;rw[Ae]at h;omega
   rw[DV ht]at hm hb ⊢
   rw[aR]at hm hb
   have hdl:(lz (t/2)).length≤100000:=by
    have:=Kk _ t hd
    exact xx _ _ (Nat.lt_of_le_of_lt (Nat.div_le_self _ _) this)
   simp (disch:=omega) only[aT,aP,fE,fm,dX,ed,aX,bL,cM,dG,ax,ec,ak,av,a7,c0,ar,aJ,dr,ag,aS,aI,bN,cR,aR,bU,Z9 N hN t hd]
   rw[It N hN x2 x3 x4 x5 (m-1) n (t/2) (bits++[((t%2:Nat):Int)]) ω ω hdl (by simp;omega)]
   simp
theorem TS(l:List Int){i:Nat}(h:i<l.length):Ai (l.drop i)=l.getD i 0+2*Ai (l.drop (i+1)):=by
 rw[pU h,Ai,aU,bn h];rfl
theorem CB: ∀{l:List Int},(∀d∈l,d=0∨d=1)→0≤Ai l
 |[],_=>fH _
 |d::r,h=>by
  have h1:=CB (l:=r) λx hx=>h x (aZ _ hx)
  have:=h d (bk ..)
  simp only[Ai];omega
theorem ux: ∀(l:List Int) (i:Nat),(∀d∈l,d=0∨d=1)→Ai (l.drop i)≤Ai l
 |l,0,_=>fH _
 |[],i+1,_=>fH _
 |d::r,i+1,h=>by
  have h1:=ux r i λx hx=>h x (aZ _ hx)
  have h2:=CB (l:=r) λx hx=>h x (aZ _ hx)
  have:=h d (bk ..)
  rw[List.drop_succ_cons,Ai];omega
theorem tB(N:Nat)(hN:4000000≤N)(a d:Int)(hd:0<d)(R4:Fit a 80000)(TT:Fit d 80000)(x4 x5:aH){bits:List Int}(hb: ∀x∈bits,x=0∨x=1)(hbv:Ai bits=a.natAbs)(wa:bits.length≤4000000):
  ∀(k n:Nat) (q r:Int),k≤bits.length→k<n→0≤q→0≤r→r<d→Ai (bits.drop k)=q*d+r→
  iu.l9 N n (cV a) (cV d) x4 x5 bits (cV q) (cV r) ((k:Int)-1)=some (cV (a/d),cV (a%d))
 |k,0,q,r,_,hn,_,_,_,_=>ω
 |0,n+1,q,r,_,_,hq,hr,kV,hv=>by
  unfold iu.l9 iu.xy
  rw[cZ,hbv]at hv
  have hqa:q≤a.natAbs:=by
   have:q*1≤q*d:=xk ω hq
   omega
  have fq:Fit q 900000:=(R4.of_le (u:=q) ω).mono ω
  have fr:Fit r 900000:=(TT.of_le (u:=r) ω).mono ω
  have f1:Fit 1 900000:=(Fit.i64 (v:=1) ω ω).mono ω
  have fq':Fit (-q) 900000:=fq.neg
  have fd:Fit d 900000:=TT.mono ω
  rw[fm ω,av]
  by_cases ha:a<0
  ·have hna:(a.natAbs:Int)= -a:=ω
   have e0:(cV a).1=true:=bs ha
   simp only[e0,a7,av,p4,ar]
   by_cases Y6:r=0
   ·subst Y6
    rw[dX (by unfold vu;simp),ak]
    simp only[jy N hN fq,ar]
    have e1:a=d*(-q):=by rw[zC,jW];omega
    have e2:a/d= -q:=by rw[e1,Int.mul_ediv_cancel_left _ ω]
    have e3:a%d=0:=by rw[e1,Int.mul_emod_right]
    rw[e2,e3]
   ·rw[ed (by unfold vu;rw[ah ω,aj ω];omega),av]
    simp (disch:=omega) only[jy N hN fq,c5 N ω (show-9223372036854775808≤(1:Int)by omega) ω,ar,uv N hN fq' f1,uv N hN fd fr]
    have e1:a=(d-r)+d*(-q-1):=by rw[Int.mul_sub,zC,Int.mul_one,jW];omega
    have e2:a/d= -q-1:=by
     rw[e1,L4 _ _ ω,LY ω ω];omega
    have e3:a%d=d-r:=by rw[e1,LK,Int.emod_eq_of_lt ω ω]
    rw[e2,e3]
  ·have hna:(a.natAbs:Int)=a:=ω
   have e0:(cV a).1=false:=cj ha
   simp only[e0,c0,ak]
   have e1:a=r+d*q:=by rw[jW];omega
   have e2:a/d=q:=by rw[e1,L4 _ _ ω,LY hr kV];omega
   have e3:a%d=r:=by rw[e1,LK,Int.emod_eq_of_lt hr kV]
   rw[e2,e3]
 |k+1,n+1,q,r,hk,hn,hq,hr,kV,hv=>by
  unfold iu.l9 iu.xy
  have e:((k+1:Nat):Int)-1=(k:Int):=ω
  have hle:=ux bits k hb
  have ar7:=ux bits (k+1) hb
  rw[hbv]at hle ar7
  have hqa:q≤a.natAbs:=by
   have:q*1≤q*d:=xk ω hq
   omega
  have fq:Fit q 80000:=R4.of_le ω
  have fr:Fit r 80000:=TT.of_le ω
  have fqq:=fq.add fq
  have frr:=fr.add fr
  have f1:Fit 1 80000:=(Fit.i64 (v:=1) ω ω).mono ω
  have hvk:=TS bits (i:=k) ω
  have Di:bits.getD k 0=0∨bits.getD k 0=1:=by
   rw[aU,bn (show k<bits.length by omega)]
   exact hb _ (dB _)
  rw[e,fE ω,ak]
  have e2q:(q+q)*d=2*(q*d):=by rw[←Int.two_mul,kH]
  have amM:(q+q+1)*d=2*(q*d)+d:=by rw[qK,e2q,zB]
  simp (disch:=omega) only[aT,aP,fE,fm,dX,ed,aX,bL,cM,dG,ax,ec,ak,av,a7,c0,ar,aJ,dr,ag,aS,aI,bN,cR,aR,bU,jc N hN (fq.mono ω) (fq.mono ω),jc N hN (fr.mono ω) (fr.mono ω),c5 N ω (show-9223372036854775808≤(1:Int)by omega) ω]
  rcases Di with Di|Di
  ·rw[Di,ed ω,av]
   simp only[Qj N hN (frr.mono ω) (TT.mono ω),ar]
   by_cases Zc:d≤r+r
   ·rw[fE (by unfold vu;split<;>(try split)<;>omega),ak]
    simp only[uv N hN (frr.mono ω) (TT.mono ω),jc N hN (fqq.mono ω) (f1.mono ω),ar]
    refine tB N hN a d hd R4 TT x4 x5 hb hbv wa k n _ _ ω ω ω ω ω ?_
    rw[hvk,Di,hv,amM];omega
   ·rw[fm (by unfold vu;rw[aj ω];omega),av]
    refine tB N hN a d hd R4 TT x4 x5 hb hbv wa k n _ _ ω ω ω ω ω ?_
    rw[hvk,Di,hv,e2q];omega
  ·rw[Di,dX rfl,ak]
   have amN:=frr.add (f1.mono (show 80000≤80001 by omega))
   simp only[jc N hN (frr.mono ω) (f1.mono ω),Qj N hN (amN.mono ω) (TT.mono ω),ar]
   by_cases Zc:d≤r+r+1
   ·rw[fE (by unfold vu;split<;>(try split)<;>omega),ak]
    simp only[uv N hN (amN.mono ω) (TT.mono ω),jc N hN (fqq.mono ω) (f1.mono ω),ar]
    refine tB N hN a d hd R4 TT x4 x5 hb hbv wa k n _ _ ω ω ω ω ω ?_
    rw[hvk,Di,hv,amM];omega
   ·rw[fm (by unfold vu;rw[aj ω];omega),av]
    refine tB N hN a d hd R4 TT x4 x5 hb hbv wa k n _ _ ω ω ω ω ω ?_
    rw[hvk,Di,hv,e2q];omega
theorem R5(N:Nat)(hN:5000000≤N){a d:Int}(hd:0<d)(R4:Fit a 80000)(TT:Fit d 80000):iu N (cV a) (cV d)=some (cV (a/d),cV (a%d)):=by
 unfold iu iu.b
 have wa:(bin a.natAbs).length≤32*80000:=WD R4
 have h1:=It N ω (cV a) (cV d) (false,([],())) (false,([],())) (bin a.natAbs).length N a.natAbs [] (aG _) ω (cm R4.len ω) (by simp;omega)
 rw[cJ]at h1
 refine h1.trans ?_
 rw[←iF]
 exact tB N ω a d hd R4 TT _ _ (aab _) (aaa _) ω (bin a.natAbs).length N 0 0 (aG _) ω ω ω hd (by rw[mX];simp[Ai])
end VM
end
section
namespace VM
open Go VM.F
def dS(v:Int):cC:=(v/18446744073709551616,(v%18446744073709551616,()))
theorem wmk{a b v:Int}(h1:a=v/18446744073709551616)(h2:b=v%18446744073709551616):((a,(b,())):cC)=dS v:=by
 unfold dS;rw[h1,h2]
theorem R6{a b v:Int}{α:Type}{c:α}(h1:a=v/18446744073709551616)(h2:b=v%18446744073709551616):(some (((a,(b,())):cC),c):Option (cC×α))=some (dS v,c):=by
 rw[wmk h1 h2]
theorem Fs(N:Nat){hi lo:Int}(h0:0≤hi)(h1:hi<9223372036854775808)(l0:0≤lo)(l1:lo<18446744073709551616):rS N false hi lo=some (dS (hi*18446744073709551616+lo),true):=by
 unfold rS rS.b
 rw[c0,ak,fm ω,av,ax ω ω]
 exact R6 ω ω
theorem Ft(N:Nat){hi lo:Int}(h0:0≤hi)(l0:0≤lo)(l1:lo<18446744073709551616)(hm:hi*18446744073709551616+lo≤170141183460469231731687303715884105728):rS N true hi lo=some (dS (-(hi*18446744073709551616+lo)),true):=by
 unfold rS rS.b
 have hj:rS.j7 N hi lo cA=some (dS (-(hi*18446744073709551616+lo)),true):=by
  unfold rS.j7 rS.Vm
  rw[wz N ω ω l0 l1 ω ω,ar]
  by_cases hl:lo=0
  ·subst hl
   rw[ah ω]
   rw[wz N ω ω h0 ω ω ω,ar,iE]
   exact R6 (by split<;>omega) ω
  ·rw[aj ω]
   rw[wz N ω ω h0 ω ω ω,ar,iE]
   exact R6 (by split<;>omega) ω
 rw[a7,av,aP ω,av]
 by_cases he:hi=9223372036854775808
 ·rw[dX he,ak,aP ω,av];exact hj
 ·rw[ed he,av];exact hj
theorem Hz{a b:Int}(a0: -9223372036854775808≤a)(a1:a<9223372036854775808)(b0: -9223372036854775808≤b)(b1:b<9223372036854775808):
  0≤(a.natAbs:Int)*b.natAbs∧(a.natAbs:Int)*b.natAbs≤85070591730234615865843651857942052864:=by
 have:=mul_lt (m:=9223372036854775808) (n:=9223372036854775808) (show 0≤(a.natAbs:Int)by omega) (show 0≤(b.natAbs:Int)by omega) ω ω
 omega
theorem aad(N:Nat){a b:Int}(a0: -9223372036854775808≤a)(a1:a<9223372036854775808)(b0: -9223372036854775808≤b)(b1:b<9223372036854775808):aae N a b=some (dS (a*b)):=by
 unfold aae
 have hm:=Hz a0 a1 b0 b1
 simp only[Kj N a0 a1,Kj N b0 b1,ar,Wz N (show 0≤(a.natAbs:Int)by omega) ω (show 0≤(b.natAbs:Int)by omega) ω,o4]
 obtain⟨m,hme⟩: ∃m,m=(a.natAbs:Int)*b.natAbs:=⟨_,rfl⟩
 rw[←hme]at hm ⊢
 have hd:m/18446744073709551616*18446744073709551616+m%18446744073709551616=m:=ω
 by_cases h1:a<0<;>by_cases h2:b<0
 ·rw[aT h1,aT h2,s6,a7,Fs N ω ω ω ω,ar,hd]
  have:m=a*b:=by rw[hme,show(a.natAbs:Int)= -a from by omega,show(b.natAbs:Int)= -b from by omega,Int.neg_mul_neg]
  rw[this]
 ·rw[aT h1,aP (x:=b) ω,show(!(true==false))=true from rfl,Ft N ω ω ω ω,ar,hd]
  have:m= -(a*b):=by rw[hme,show(a.natAbs:Int)= -a from by omega,show(b.natAbs:Int)=b from by omega,Int.neg_mul]
  rw[this,zD]
 ·rw[aP (x:=a) ω,aT h2,show(!(false==true))=true from rfl,Ft N ω ω ω ω,ar,hd]
  have:m= -(a*b):=by rw[hme,show(a.natAbs:Int)=a from by omega,show(b.natAbs:Int)= -b from by omega,zC]
  rw[this,zD]
 ·rw[aP (x:=a) ω,aP (x:=b) ω,s6,a7,Fs N ω ω ω ω,ar,hd]
  have:m=a*b:=by rw[hme,show(a.natAbs:Int)=a from by omega,show(b.natAbs:Int)=b from by omega]
  rw[this]
theorem aaf(N:Nat){v:Int}(v0: -170141183460469231731687303715884105728≤v)(v1:v<170141183460469231731687303715884105728):F92 N (dS v)=some (Bs v):=by
 unfold F92 dS
 rw[aP ω,av]
 dsimp only
 have hw0: -9223372036854775808≤W .i64 (v%18446744073709551616)∧W .i64 (v%18446744073709551616)<9223372036854775808:=by rw[iE];split<;>omega
 rw[ur hw0.1 hw0.2]
 have hwv:W .i64 (v%18446744073709551616)=if 9223372036854775808≤v%18446744073709551616 then v%18446744073709551616-18446744073709551616 else v%18446744073709551616:=by rw[iE];split<;>split<;>omega
 rw[hwv]
 unfold Bs
 by_cases h: -9223372036854775808≤v∧v<9223372036854775808
 ·rw[aj h]
  by_cases hn:v<0
  ·rw[aj (show 9223372036854775808≤v%18446744073709551616 by omega),aj ω,dX ω,a7,av]
   congr 2;omega
  ·rw[ah (show ¬9223372036854775808≤v%18446744073709551616 by omega),ah ω,dX ω,a7,av]
   congr 2;omega
 ·rw[ah h]
  by_cases hm:9223372036854775808≤v%18446744073709551616
  ·rw[aj hm,aj ω,ed ω,c0,ak]
  ·rw[ah hm,ah ω,ed ω,c0,ak]
end VM
end
section
namespace VM
open Go
theorem cond_not{α:Type}(b:Bool)(x y:α):cond (!b) x y=cond b y x:=by cases b<;>rfl
theorem cP{α:Type}(a b:Int)(x y:α):cond (aY a b) x y=if a<b then x else y:=by
 by_cases h:a<b
 ·rw[aT h,aj h];rfl
 ·rw[aP ω,ah h];rfl
theorem cG{α:Type}(a b:Int)(x y:α):cond (dk a b) x y=if a≤b then x else y:=by
 by_cases h:a≤b
 ·rw[fE h,aj h];rfl
 ·rw[fm ω,ah h];rfl
theorem aN{α:Type}(a b:Int)(x y:α):cond (aO a b) x y=if a=b then x else y:=by
 by_cases h:a=b
 ·rw[dX h,aj h];rfl
 ·rw[ed h,ah h];rfl
theorem gb{α:Type}(p:Prop) [Decidable p](x y:α):cond (decide p) x y=if p then x else y:=by
 by_cases h:p
 ·rw[bs h,aj h];rfl
 ·rw[cj h,ah h];rfl
theorem drop_cons{α:Type}{l:List α}{i:Nat}(h:i<l.length)(d:α):l.drop i=l.getD i d::l.drop (i+1):=by
 rw[pU h,aU,bn h];rfl
theorem og{α σ β:Type}(l:List α)(d:α)(F:Nat→Int→σ→Option β)(g:List α→σ→Option β)(I:Nat→σ→Prop)
  (hs: ∀n i s,i<l.length→I i s→(∀s',I (i+1) s'→F n ((i+1:Nat):Int) s'=g (l.drop (i+1)) s')→F (n+1) (i:Int) s=g (l.getD i d::l.drop (i+1)) s)
  (he: ∀n s,I l.length s→F (n+1) (l.length:Int) s=g [] s): ∀m n i s,l.length-i≤m→m<n→i≤l.length→I i s→F n (i:Int) s=g (l.drop i) s
 |m,0,i,s,_,hn,_,_=>ω
 |m,n+1,i,s,hm,hn,hi,hI=>by
  by_cases h:i<l.length
  ·rw[drop_cons h d]
   exact hs n i s h hI λs' yp=>og l d F g I hs he (m-1) n (i+1) s' ω ω ω yp
  ·have:i=l.length:=ω
   subst this
   rw[mX];exact he n s hI
theorem Aj{α β:Type}(l:List α)(d:α)(F:Nat→Int→Option β)(g:List α→Option β)
  (hs: ∀n i,i<l.length→F n ((i+1:Nat):Int)=g (l.drop (i+1))→F (n+1) (i:Int)=g (l.getD i d::l.drop (i+1)))
  (he: ∀n,F (n+1) (l.length:Int)=g []) (n:Nat) (hn:l.length<n):F n 0=g l:=by
 have:=og (σ:=Unit) l d (λn i _=>F n i) (λl _=>g l) (λ_ _=>True) (λn i _ h _ hr=>hs n i h (hr () trivial)) (λn _ _=>he n) l.length n 0 () ω hn ω trivial
 simpa using this
theorem scan{F:Nat→Int→Option Bool}{len:Nat}(P:Nat→Prop) [DecidablePred P]
  (hs: ∀n i r,i<len→(∀j,j<i→P j)→F n ((i+1:Nat):Int)=r→F (n+1) (i:Int)=if P i then r else some false) {e:Bool} (he: ∀n,F (n+1) (len:Int)=some e):
  ∀m n i,len-i≤m→m<n→i≤len→(∀j,j<i→P j)→F n (i:Int)=some (decide (∀j,j<len→i≤j→P j)&&e)
 |m,0,i,_,hn,_,_=>ω
 |m,n+1,i,hm,hn,hi,hp=>by
  by_cases h:i<len
  ·rw[hs n i _ h hp rfl]
   by_cases hP:P i
   ·rw[aj hP,scan P hs he (m-1) n (i+1) ω ω ω (λj hj=>by
     by_cases yM:j=i
     ·subst yM;exact hP
     ·exact hp j ω)]
    congr 2
    rw[oS]
    refine⟨λhj j h2 h1=> ?_,λhj j h2 h1=>hj j h2 ω⟩
    by_cases yM:j=i
    ·subst yM;exact hP
    ·exact hj j h2 ω
   ·rw[ah hP,cj (λhj=>hP (hj i h (aG i)))];rfl
  ·have:i=len:=ω
   subst this
   rw[he n,bs (λj h2 h1=>absurd h2 ω)];rfl
theorem iq{F:Nat→Int→Option Bool}{len:Nat}(P:Nat→Prop) [DecidablePred P]{e:Bool}
  (hs: ∀n i r,i<len→(∀j,j<i→P j)→F n ((i+1:Nat):Int)=r→F (n+1) (i:Int)=if P i then r else some false) (he: ∀n,F (n+1) (len:Int)=some e) (n:Nat) (hn:len<n):
  F n 0=some (decide (∀j,j<len→P j)&&e):=by
 have:=scan P hs he len n 0 ω hn ω (λj hj=>absurd hj ω)
 rw[show((0:Nat):Int)=0 from rfl]at this
 rw[this]
 congr 2
 rw[oS]
 exact⟨λh j hj=>h j hj ω,λh j hj _=>h j hj⟩
end VM
end
