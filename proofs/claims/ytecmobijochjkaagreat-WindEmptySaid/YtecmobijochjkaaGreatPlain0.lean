/- A part of the proof of WindEmpty of layer 21: what the functions compute, in plain words. -/
import Derived.Test.YtecmobijochjkaaGreatVm0
import GoSem.Claim
import Derived.Test.YtecmobijochjkaaGreatText
set_option linter.all false
section
namespace VM
open Go
theorem vi(x:Int):W .u64 x=x%18446744073709551616:=by rw[ED];simp[IntKind.wrap,IntKind.bits,IntKind.signed]
theorem dV{x:Int}(h0:0≤x)(h1:x<18446744073709551616):W .u64 x=x:=by rw[vi];omega
theorem iG(x:Int):W .i64 x=if 9223372036854775808≤x%18446744073709551616 then x%18446744073709551616-18446744073709551616 else x%18446744073709551616:=by
 rw[ED];simp[IntKind.wrap,IntKind.bits,IntKind.signed]
theorem ay{x:Int}(h0: -9223372036854775808≤x)(h1:x<9223372036854775808):W .i64 x=x:=by
 rw[iG];split<;>omega
theorem wf_u64{x:Int}:(Lit.int .u64 x).wf=true↔0≤x∧x≤18446744073709551615:=by simp[Lit.wf,IntKind.min,IntKind.max,IntKind.bits,IntKind.signed]
theorem aT{x y:Int}(h:x<y):aY x y=true:=by rw[tZ];exact bu h
theorem aP{x y:Int}(h:y≤x):aY x y=false:=by rw[tZ];exact cj ω
theorem fG{x y:Int}(h:x≤y):dj x y=true:=by rw[nY];exact bu h
theorem fp{x y:Int}(h:y<x):dj x y=false:=by rw[nY];exact cj ω
theorem dW{x y:Int}(h:x=y):aO x y=true:=by rw[jx];exact bu h
theorem dX{x y:Int}(h:x≠y):aO x y=false:=by rw[jx];exact cj h
theorem a6{i:Int}{n:Nat}(h0:0≤i)(h1:i<n):ba i n=true:=by rw[Vm];exact bu ⟨h0,h1⟩
theorem bL{n:Nat}(h:n<68719476736):small n=true:=by rw[EE];exact bu (by simpa [zK]using h)
theorem cM{l c:Int}(h0:0≤l)(h1:l≤c)(h2:c<68719476736):jX l c=true:=by rw[H4];exact bu (by simp only[zK];omega)
theorem dG{l h m n:Int}(h0:0≤l)(h1:l≤h)(h2:h≤m)(h3:m≤n):jY l h m n=true:=by rw[zL];exact bu ⟨h0,h1,h2,h3⟩
theorem ag(n:Nat):(n:Int)+1=((n+1:Nat):Int):=rfl
theorem sv(x:Int)(h0:0≤x)(h1:x<18446744073709551616):(BitVec.ofInt 64 x).toNat=x.toNat:=by
 rw[BitVec.toNat_ofInt];congr 1;omega
theorem M9{x y:Int}(hx:0≤x)(Fj:x<18446744073709551616)(hy:0≤y)(hy1:y<18446744073709551616):qL .and .u64 x y=((x.toNat&&& y.toNat:Nat):Int):=by
 rw[ua]
 have h:((BitVec.ofInt 64 x&&& BitVec.ofInt 64 y).toNat)=x.toNat&&& y.toNat:=by rw[BitVec.toNat_and,sv x hx Fj,sv y hy hy1]
 show IntKind.u64.wrap (((BitVec.ofInt 64 x&&& BitVec.ofInt 64 y).toNat:Nat):Int)=_
 rw[h,←ED]
 have:x.toNat&&& y.toNat≤x.toNat:=Nat.and_le_left
 exact dV ω ω
theorem RS{x y:Int}(hx:0≤x)(Fj:x<18446744073709551616)(hy:0≤y)(hy1:y<18446744073709551616):qL .or .u64 x y=((x.toNat|||y.toNat:Nat):Int):=by
 rw[ua]
 have h:((BitVec.ofInt 64 x|||BitVec.ofInt 64 y).toNat)=x.toNat|||y.toNat:=by rw[BitVec.toNat_or,sv x hx Fj,sv y hy hy1]
 show IntKind.u64.wrap (((BitVec.ofInt 64 x|||BitVec.ofInt 64 y).toNat:Nat):Int)=_
 rw[h,←ED]
 have:x.toNat|||y.toNat<2^64:=Nat.or_lt_two_pow ω ω
 exact dV ω ω
theorem oc{x:Int}(h0:0≤x)(h1:x<18446744073709551616):qL .and .u64 x 4294967295=x%4294967296:=by
 rw[M9 h0 h1 ω ω]
 have:=LN x.toNat 32
 rw[show((4294967295:Int).toNat)=2^32-1 from rfl,this]
 omega
theorem Kl{x y:Int}(h0:0≤y)(h1:y≤64):shr .u64 x y=x/2^y.toNat:=by
 rw[PY]
 have:min y.toNat IntKind.u64.bits=y.toNat:=by simp[IntKind.bits];omega
 rw[this,LR]
 exact_mod_cast bo _
theorem RT(x:Int):shr .u64 x 32=x/4294967296:=by rw[Kl ω ω];rfl
theorem amw(x:Int):shr .u64 x 1=x/2:=by rw[Kl ω ω];rfl
theorem uv{x:Int}(h0: -9223372036854775808≤x)(h1:x<9223372036854775808):shr .i64 x 63=if x<0 then-1 else 0:=by
 rw[PY]
 have:(2:Int)^(min (63:Int).toNat IntKind.i64.bits)=9223372036854775808:=by rfl
 rw[this,LR _ ω]
 split<;>omega
theorem ZV{x y:Int}(h0:0≤y)(h1:y≤64):shl .u64 x y=x*2^y.toNat:=by
 rw[Vn]
 have:min y.toNat IntKind.u64.bits=y.toNat:=by simp[IntKind.bits];omega
 rw[this]
theorem mul_lt{a b m n:Int}(ha:0≤a)(hb:0≤b)(ham:a≤m)(hbn:b≤n):0≤a*b∧a*b≤m*n:=
 ⟨vR ha hb,fi (zk ham hb) (xm hbn ω)⟩
end VM
end
section
namespace VM
open Go VM.F
theorem TH(a b:Int):a*b=(a/4294967296)*(b/4294967296)*18446744073709551616+((a/4294967296)*(b%4294967296)+(a%4294967296)*(b/4294967296))*4294967296+(a%4294967296)*(b%4294967296):=by
 have ha:a=(a/4294967296)*4294967296+a%4294967296:=ω
 have hb:b=(b/4294967296)*4294967296+b%4294967296:=ω
 generalize a/4294967296=a1 at*
 generalize a%4294967296=a0 at*
 generalize b/4294967296=b1 at*
 generalize b%4294967296=b0 at*
 subst ha;subst hb
 simp only[qK,jW]
 have e1:a1*4294967296*(b1*4294967296)=a1*b1*18446744073709551616:=by
  rw[kG,Int.mul_left_comm 4294967296,←kG];rfl
 have e2:a1*4294967296*b0=a1*b0*4294967296:=by rw[kG,jU 4294967296,←kG]
 have e3:a0*(b1*4294967296)=a0*b1*4294967296:=by rw[←kG]
 rw[e1,e2,e3];omega
theorem Wt(N:Nat){a b:Int}(ha:0≤a)(Y5:a<18446744073709551616)(hb:0≤b)(mw:b<18446744073709551616):
  ZW N a b=some (a*b/18446744073709551616,a*b%18446744073709551616):=by
 unfold ZW
 have hm:=TH a b
 have h1:=mul_lt (m:=4294967295) (n:=4294967295) (show 0≤a/4294967296 by omega) (show 0≤b/4294967296 by omega) ω ω
 have h2:=mul_lt (m:=4294967295) (n:=4294967295) (show 0≤a/4294967296 by omega) (show 0≤b%4294967296 by omega) ω ω
 have h3:=mul_lt (m:=4294967295) (n:=4294967295) (show 0≤a%4294967296 by omega) (show 0≤b/4294967296 by omega) ω ω
 have h4:=mul_lt (m:=4294967295) (n:=4294967295) (show 0≤a%4294967296 by omega) (show 0≤b%4294967296 by omega) ω ω
 simp only[aP (show(0:Int)≤32 by omega),av,oc ha Y5,oc hb mw,RT]
 generalize a/4294967296=a1 at*
 generalize a%4294967296=a0 at*
 generalize b/4294967296=b1 at*
 generalize b%4294967296=b0 at*
 generalize a*b=ab at*
 generalize a1*b1=p at*
 generalize a1*b0=q at*
 generalize a0*b1=r at*
 generalize a0*b0=s at*
 rw[dV (x:=q) ω ω,dV (x:=s) ω ω,dV (x:=r) ω ω,dV (x:=p) ω ω,dV (x:=q+s/4294967296) ω ω,
  oc ω ω,dV (x:=(q+s/4294967296)%4294967296+r) ω ω,dV (x:=p+(q+s/4294967296)/4294967296) ω ω,dV (x:=p+(q+s/4294967296)/4294967296+_) ω ω,vi]
 congr 2
 omega
end VM
end
section
namespace VM
open Go VM.F
theorem Km(N:Nat){x:Int}(h0: -9223372036854775808≤x)(h1:x<9223372036854775808):TI N x=some (x.natAbs:Int):=by
 unfold TI
 by_cases h:x<0
 ·rw[aT h,aq,vi,vi];congr 1;omega
 ·rw[aP ω,av,vi];congr 1;omega
theorem Na(N:Nat){x y c:Int}(hx:0≤x)(hy:0≤y)(hc:0≤c)(Ly:c≤1):ym N x y c=some ((x+y+c)%18446744073709551616,(x+y+c)/18446744073709551616):=by
 unfold ym;rw[aj ⟨hx,hy,hc,Ly⟩]
theorem wE(N:Nat){x y c:Int}(hx:0≤x)(Fj:x<18446744073709551616)(hy:0≤y)(hy1:y<18446744073709551616)(hc:0≤c)(Ly:c≤1):
  vb N x y c=some ((x-y-c)%18446744073709551616,if x<y+c then 1 else 0):=by
 unfold vb;rw[aj ⟨hx,Fj,hy,hy1,hc,Ly⟩];congr 2;omega
end VM
end
section
namespace VM
open Go VM.F
structure wF(Y rS Fk gl Fl q rh:Int):Prop where
 hY:Y=rS*4294967296+Fk
 y1:2147483648≤rS
 y1':rS<4294967296
 y0:0≤Fk
 y0':Fk<4294967296
 u1:0≤Fl
 u1':Fl<4294967296
 lt:gl<Y
 q0:0≤q
 eq:q*rS+rh=gl
 r0:0≤rh
 q1:q≤4294967297
 ge:(gl*4294967296+Fl)/Y≤q
theorem wF.prod{Y rS Fk gl Fl q rh:Int}(g:wF Y rS Fk gl Fl q rh):q*Y=(gl-rh)*4294967296+q*Fk∧0≤q*Fk∧q*Fk≤18446744073709551615:=by
 have h:=mul_lt (m:=4294967297) (n:=4294967295) g.q0 g.y0 g.q1 (by have:=g.y0';omega)
 refine⟨?_,h.1,ω⟩
 rw[g.hY,jW,←kG,show q*rS=gl-rh from by have:=g.eq;omega]
theorem wF.pos{Y rS Fk gl Fl q rh:Int}(g:wF Y rS Fk gl Fl q rh):0<Y:=by have:=g.hY;have:=g.y1;have:=g.y0;omega
theorem wF.digit{Y rS Fk gl Fl q rh:Int}(g:wF Y rS Fk gl Fl q rh)(h:0≤gl):0≤(gl*4294967296+Fl)/Y∧(gl*4294967296+Fl)/Y<4294967296:=by
 have hp:=g.pos
 have:=g.u1;have:=g.u1';have:=g.lt
 refine⟨ta ω ω,?_⟩
 rw[zr hp];omega
theorem wF.next{Y rS Fk gl Fl q rh:Int}(g:wF Y rS Fk gl Fl q rh)(hu:0≤gl)(h:4294967296≤q∨4294967296*rh+Fl<q*Fk):wF Y rS Fk gl Fl (q-1) (rh+rS)∧1≤q:=by
 have hp:=g.pos
 have h1:=g.prod.1
 have hd:=g.digit hu
 have e9:(gl*4294967296+Fl)/Y<q:=by
  rcases h with h|h
  ·omega
  ·rw[zr hp];omega
 have:=g.q1;have:=g.r0;have:=g.y1
 exact⟨⟨g.hY,g.y1,g.y1',g.y0,g.y0',g.u1,g.u1',g.lt,ω,by rw[Int.sub_mul,zF];have:=g.eq;omega,ω,ω,ω⟩,ω⟩
theorem wF.first{Y rS Fk gl Fl:Int}(hY:Y=rS*4294967296+Fk)(y1:2147483648≤rS)(y1':rS<4294967296)(y0:0≤Fk)(y0':Fk<4294967296)(u1:0≤Fl)(u1':Fl<4294967296)(hu:0≤gl)(lt:gl<Y):
  wF Y rS Fk gl Fl (gl/rS) (gl-gl/rS*rS)∧gl-gl/rS*rS<4294967296∧0≤gl/rS*rS∧gl/rS*rS≤gl:=by
 have h1:=Ma gl rS
 have h2:=zu gl (show 0<rS by omega)
 have h3:=Ev gl (show rS≠0 by omega)
 have xu:0≤gl/rS:=ta hu ω
 rw[jU]at h1
 have hq1:gl/rS≤4294967297:=by
  have:gl/rS<4294967298:=by rw[zr ω];omega
  omega
 have Y1:(gl*4294967296+Fl)/Y≤gl/rS:=by
  have e9:gl*4294967296+Fl<(gl/rS+1)*Y:=by
   have e:gl+1≤(gl/rS+1)*rS:=by rw[qK,zF];omega
   have e2:(gl/rS+1)*Y=(gl/rS+1)*rS*4294967296+(gl/rS+1)*Fk:=by rw[hY,jW,kG]
   have e3:0≤(gl/rS+1)*Fk:=vR ω y0
   omega
  have:(gl*4294967296+Fl)/Y<gl/rS+1:=by rw[zr ω];exact e9
  omega
 exact⟨⟨hY,y1,y1',y0,y0',u1,u1',lt,xu,ω,ω,hq1,Y1⟩,ω,vR xu ω,ω⟩
end VM
end
section
namespace VM
open Go VM.F
def c3:List Int→Int
 |[]=>0
 |d::r=>d+4294967296*c3 r
def VD(l:List Int):Prop:= ∀d∈l,0≤d∧d<4294967296
def lA(n:Nat):List Int:=if n=0 then []else((n%4294967296:Nat):Int)::lA (n/4294967296)
termination_by n
decreasing_by omega
theorem ke:lA 0=[]:=by rw[lA];rfl
theorem xy{n:Nat}(h:n≠0):lA n=((n%4294967296:Nat):Int)::lA (n/4294967296):=by rw[lA];simp[h]
theorem VD.nil:VD []:=λd h=>by cases h
theorem VD.cons{d:Int}{l:List Int}(h0:0≤d)(h1:d<4294967296)(h:VD l):VD (d::l):=λx hx=>by
 rcases aW.1 hx with rfl|hx
 ·exact⟨h0,h1⟩
 ·exact h x hx
theorem VD.tail{d:Int}{l:List Int}(h:VD (d::l)):VD l:=λx hx=>h x (aZ _ hx)
theorem VD.append{a b:List Int}(h:VD a)(k:VD b):VD (a++b):=λx hx=>(a8.1 hx).elim (h x) (k x)
theorem VD.drop{l:List Int}(h:VD l)(n:Nat):VD (l.drop n):=λx hx=>h x (mS hx)
theorem VD.take{l:List Int}(h:VD l)(n:Nat):VD (l.take n):=λx hx=>h x (lM hx)
theorem VD.getD{l:List Int}(h:VD l)(n:Nat):0≤l.getD n 0∧l.getD n 0<4294967296:=by
 rw[aU]
 cases hn:l[n]? with
 |none=>exact⟨fI _,δ⟩
 |some x=>exact h x (List.mem_of_getElem? hn)
theorem VD.set{l:List Int}(h:VD l)(n:Nat){x:Int}(h0:0≤x)(h1:x<4294967296):VD (l.set n x):=λy hy=>by
 rcases xn hy with hy|rfl
 ·exact h y hy
 ·exact⟨h0,h1⟩
theorem VD.afW(n:Nat):VD (List.replicate n 0):=λx hx=>by rw[zo hx];exact⟨fI _,δ⟩
theorem kf: ∀{l:List Int},VD l→0≤c3 l
 |[],_=>fI _
 |d::r,h=>by
  have:=kf h.tail
  have:=(h d (bm ..)).1
  simp only[c3];omega
theorem gX(n:Nat):c3 (lA n)=n:=by
 induction n using Nat.strongRecOn with
 |_ n ih=>
  by_cases h:n=0
  ·subst h;rw[ke];rfl
  ·rw[xy h,c3,ih _ ω];omega
theorem kg(n:Nat):VD (lA n):=by
 induction n using Nat.strongRecOn with
 |_ n ih=>
  by_cases h:n=0
  ·subst h;rw[ke];exact VD.nil
  ·rw[xy h];exact VD.cons ω ω (ih _ ω)
theorem Ak{n:Nat}:lA n=[]↔n=0:=by
 constructor
 ·intro h
  by_cases hn:n=0
  ·exact hn
  ·rw[xy hn]at h;cases h
 ·rintro rfl;exact ke
theorem xz(k:Nat): ∀n,n<4294967296^k→(lA n).length≤k:=by
 induction k with
 |zero=>
  intro n h;have:n=0:=by simpa using h
  subst this;rw[ke];simp
 |succ k ih=>
  intro n h
  by_cases hn:n=0
  ·subst hn;rw[ke];simp
  ·rw[xy hn,aR]
   have:=ih (n/4294967296) (by rw[Mb ω];rw[zC]at h;exact h)
   omega
theorem Ko(k:Nat): ∀n,(lA n).length≤k→n<4294967296^k:=by
 induction k with
 |zero=>
  intro n h
  have:lA n=[]:=tV ω
  rw[Ak]at this;subst this;decide
 |succ k ih=>
  intro n h
  by_cases hn:n=0
  ·subst hn;exact Nat.pow_pos δ
  ·rw[xy hn,aR]at h
   have:=ih (n/4294967296) ω
   rw[Mb ω]at this
   rw[zC];exact this
def strip:List Int→List Int
 |[]=>[]
 |d::r=>if strip r=[]∧d=0 then []else d::strip r
theorem Nb: ∀{l:List Int},VD l→strip l=lA (c3 l).toNat
 |[],_=>by rw[show(c3 []).toNat=0 from rfl,ke];rfl
 |d::r,h=>by
  have ih:=Nb h.tail
  have h0:=kf h.tail
  obtain⟨h1,h2⟩:=h d (bm ..)
  simp only[strip,c3,ih,Ak]
  split
  ·rename_i hc
   obtain⟨hc,rfl⟩:=hc
   have:c3 r=0:=ω
   rw[this];exact ke.symm
  ·rename_i hc
   have jy:(d+4294967296*c3 r).toNat≠0:=λhe=>hc ⟨ω,ω⟩
   rw[xy jy]
   congr 1
   ·omega
   ·congr 1;omega
theorem Fm: ∀(l:List Int) (x:Int),strip (l++[x])=if x=0 then strip l else l++[x]
 |[],x=>by simp[strip]
 |d::r,x=>by
  simp only[kF,strip,Fm r x]
  split
  ·rfl
  ·simp
theorem hZ(l:List Int){k:Nat}(h:k<l.length):l.take (k+1)=l.take k++[l.getD k 0]:=by
 rw[List.take_succ_eq_append_getElem h,aU,bk h];rfl
theorem Iu(N:Nat)(l:List Int)(hl:l.length<68719476736): ∀(k n:Nat),k≤l.length→k<n→od.l2 N n l (k:Int)=some (strip (l.take k))
 |0,n+1,_,_=>by
  unfold od.l2 od.gH
  simp (disch:=omega) only[aT,aP,fG,fp,dW,dX,a6,bL,cM,dG,ay,dV,aq,av,bn,c0,ar,aJ,dr,ag,aS,aI,bN,cR,aR,bU]
  simp[strip]
 |k+1,n+1,hk,hn=>by
  unfold od.l2 od.gH
  have e:((k+1:Nat):Int)-1=(k:Int):=ω
  simp (disch:=omega) only[aT,aP,fG,fp,dW,dX,a6,bL,cM,dG,ay,dV,aq,av,bn,c0,ar,aJ,dr,ag,aS,aI,bN,cR,aR,bU,e]
  have ih:=Iu N l hl k n ω ω
  rw[hZ l ω,Fm]
  by_cases h:l.getD k 0=0
  ·rw[dW h,aq,ih,aj h]
  ·rw[dX h,av,ah h]
   simp only[dr,cZ]
theorem Kp(N:Nat){l:List Int}(h:VD l)(hN:l.length<N)(hl:l.length<68719476736):od N l=some (lA (c3 l).toNat):=by
 unfold od od.b
 rw[Iu N l hl l.length N (aG _) hN,ix,Nb h]
def cS(v:Int):aH:=(decide (v<0),(lA v.natAbs,()))
theorem sx(N:Nat)(neg:Bool){l:List Int}(h:VD l)(hN:l.length<N)(hl:l.length<68719476736):Wu N neg l=some (cS (if neg then-c3 l else c3 l)):=by
 unfold Wu
 rw[Kp N h hN hl,ar]
 have h0:=kf h
 cases neg
 ·simp only[av,cS,iY,eT]
  rw[cj ω]
  congr 4;omega
 ·simp only[aq,cS,gB]
  have e:(-c3 l).natAbs=(c3 l).toNat:=ω
  rw[e]
  congr 2
  by_cases hz:c3 l=0
  ·rw[hz,dr,ke,aP (by simp),cj ω]
  ·have:0<(lA (c3 l).toNat).length:=by
    apply si.2
    intro hd;rw[Ak]at hd;omega
   rw[aT ω,bu ω]
theorem size_eq(N:Nat)(hN:1000≤N){u:Int}(h0:0≤u)(h1:u<18446744073709551616):F83 N u=some (lA u.toNat):=by
 unfold F83
 rw[oc h0 h1,RT]
 have hv:VD [u%4294967296,u/4294967296]:=VD.cons ω ω (VD.cons ω ω VD.nil)
 simp (disch:=omega) only[aT,aP,fG,fp,dW,dX,a6,bL,cM,dG,ay,dV,aq,av,bn,c0,ar,aJ,dr,ag,aS,aI,bN,cR,aR,bU,Kp N hv (by simp;omega) (by simp)]
 congr 2
 simp only[c3];omega
theorem cP(N:Nat)(hN:1000≤N){x:Int}(h0: -9223372036854775808≤x)(h1:x<9223372036854775808):jz N x=some (cS x):=by
 unfold jz
 have hd: ∀n:Nat,n<18446744073709551616→(lA n).length≤2:=λn h=>xz 2 n (by simpa using h)
 by_cases h:x<0
 ·have e:W .u64 (0-W .u64 x)= -x:=by rw[vi,vi];omega
  simp only[aT h,aq,e,size_eq N hN (show 0≤ -x by omega) ω,ar]
  have:=hd (-x).toNat ω
  rw[sx N true (kg _) ω ω,gX,aj rfl,show-(((-x).toNat:Nat):Int)=x from by omega];rfl
 ·have e:W .u64 x=x:=dV ω ω
  simp only[aP (show 0≤x by omega),av,e,size_eq N hN (show 0≤x by omega) ω,ar]
  have:=hd x.toNat ω
  rw[sx N false (kg _) ω ω,gX,ah qA,vI ω];rfl
theorem wG(N:Nat)(l:List Int)(i:Nat):ZX N l (i:Int)=some (l.getD i 0):=by
 unfold ZX
 by_cases h:i<l.length
 ·simp (disch:=omega) only[aT,aP,fG,fp,dW,dX,a6,bL,cM,dG,ay,dV,aq,av,bn,c0,ar,aJ,dr,ag,aS,aI,bN,cR,aR,bU]
 ·simp (disch:=omega) only[aT,aP,fG,fp,dW,dX,a6,bL,cM,dG,ay,dV,aq,av,bn,c0,ar,aJ,dr,ag,aS,aI,bN,cR,aR,bU]
  rw[aU,gG ω];rfl
theorem kL(l:List Int)(i:Nat):c3 (l.drop i)=l.getD i 0+4294967296*c3 (l.drop (i+1)):=by
 by_cases h:i<l.length
 ·rw[pS h,c3,aU,bk h];rfl
 ·rw[kE ω,kE ω,aU,gG ω];rfl
theorem Nc(N:Nat){a b:List Int}(ha:VD a)(hb:VD b)(yO:a.length≤1000000)(PS:b.length≤1000000): ∀(m n i:Nat) (out:List Int) (c:Int),a.length+b.length+2-i≤m→m<n→out.length=i→i≤a.length+b.length+1→0≤c→c≤1→(a.length≤i→b.length≤i→i=max a.length b.length∨c=0)→
  ∃r,vj.l4 N n a b out c (i:Int)=some (out++r)∧VD r∧c3 r=c3 (a.drop i)+c3 (b.drop i)+c∧r.length≤m
 |m,0,i,out,c,_,hn,_,_,_,_,_=>ω
 |m,n+1,i,out,c,hm,hn,ho,hi,U9,Ly,hz=>by
  unfold vj.l4 vj.ei
  by_cases Nd:a.length≤i∧b.length≤i∧c=0
  ·obtain⟨h1,h2,rfl⟩:=Nd
   simp (disch:=omega) only[aT,aP,fG,fp,dW,dX,a6,bL,cM,dG,ay,dV,aq,av,bn,c0,ar,aJ,dr,ag,aS,aI,bN,cR,aR,bU]
   exact⟨[],by simp,VD.nil,by rw[kE h1,kE h2];rfl,bo _⟩
  ·obtain⟨ga0,ga1⟩:=ha.getD i
   obtain⟨gb0,gb1⟩:=hb.getD i
   have step: ∃r,vj.j6 N (vj.l4 N n) a b out c (i:Int)=some (out++r)∧VD r∧c3 r=c3 (a.drop i)+c3 (b.drop i)+c∧r.length≤m:=by
    unfold vj.j6 vj.TJ
    have Hl:i≤a.length+b.length:=by
     by_cases h1:a.length≤i∧b.length≤i
     ·rcases hz h1.1 h1.2 with h|h
      ·omega
      ·exact absurd ⟨h1.1,h1.2,h⟩ Nd
     ·omega
    simp only[wG,ar]
    generalize hga:a.getD i 0=x at*
    generalize hgb:b.getD i 0=y at*
    rw[dV (x:=x+y) ω ω,dV (x:=c+(x+y)) ω ω,oc ω ω,RT]
    simp (disch:=omega) only[aT,aP,fG,fp,dW,dX,a6,bL,cM,dG,ay,dV,aq,av,bn,c0,ar,aJ,dr,ag,aS,aI,bN,cR,aR,bU]
    obtain⟨r,hr,hv,hs,H9⟩:=Nc N ha hb yO PS (m-1) n (i+1) (out++[(c+(x+y))%4294967296]) ((c+(x+y))/4294967296) ω ω (by simp[ho]) ω ω ω (λh1 h2=>by
     by_cases h3:a.length≤i∧b.length≤i
     ·right
      rw[←hga,←hgb,aU,gG h3.1,aU,gG h3.2]
      simp only[Option.getD_none];omega
     ·left;omega)
    refine⟨(c+(x+y))%4294967296::r,by rw[hr];simp,VD.cons ω ω hv,?_,by rw[aR];omega⟩
    rw[c3,hs,kL a i,kL b i,hga,hgb];omega
   by_cases h1:i<a.length
   ·simp (disch:=omega) only[aT,aq];exact step
   ·by_cases h2:i<b.length
    ·simp (disch:=omega) only[aT,aP,aq,av];exact step
    ·have:0<c:=ω
     simp (disch:=omega) only[aT,aP,aq,av];exact step
theorem RU: ∀{l:List Int},VD l→c3 l<4294967296^l.length
 |[],_=>by simp[c3]
 |d::r,h=>by
  have ih:=RU h.tail
  obtain⟨h1,h2⟩:=h d (bm ..)
  rw[c3,aR,zD]
  generalize (4294967296:Int)^r.length=p at*
  omega
theorem Nf(N:Nat)(hN:4000000≤N){a b:List Int}(ha:VD a)(hb:VD b)(yO:a.length≤1000000)(PS:b.length≤1000000): ∃r,vj N a b=some r∧VD r∧c3 r=c3 a+c3 b∧r.length≤2000002:=by
 unfold vj vj.b
 obtain⟨r,hr,hv,hs,hl⟩:=Nc N ha hb yO PS (a.length+b.length+2) N 0 [] 0 ω ω rfl ω ω ω (λ_ _=> .inr rfl)
 exact⟨r,hr,hv,by simpa using hs,ω⟩
theorem Fo(N:Nat){a b:List Int}(ha:VD a)(hb:VD b)(yO:a.length≤1000000): ∀(m n i:Nat) (out:List Int) (c:Int),a.length-i≤m→m<n→out.length=i→i≤a.length→0≤c→c≤1→0≤c3 (a.drop i)-c3 (b.drop i)-c→
  ∃r,DW.l4 N n a b out c (i:Int)=some (out++r)∧VD r∧c3 r=c3 (a.drop i)-c3 (b.drop i)-c∧r.length≤m
 |m,0,i,out,c,_,hn,_,_,_,_,_=>ω
 |m,n+1,i,out,c,hm,hn,ho,hi,U9,Ly,hz=>by
  unfold DW.l4 DW.ei
  by_cases h1:i<a.length
  ·obtain⟨ga0,ga1⟩:=ha.getD i
   obtain⟨gb0,gb1⟩:=hb.getD i
   rw[kL a i,kL b i]at*
   simp only[wG,ar,aJ]
   generalize hga:a.getD i 0=x at*
   generalize hgb:b.getD i 0=y at*
   rw[dV (x:=y+c) ω ω,dV (x:=x+4294967296) ω ω]
   by_cases e9:x<y+c
   ·rw[dV (x:=x+4294967296-(y+c)) ω ω]
    simp (disch:=omega) only[aT,aP,fG,fp,dW,dX,a6,bL,cM,dG,ay,dV,aq,av,bn,c0,ar,aJ,dr,ag,aS,aI,bN,cR,aR,bU,hga,hgb]
    obtain⟨r,hr,hv,hs,H9⟩:=Fo N ha hb yO (m-1) n (i+1) (out++[x+4294967296-(y+c)]) 1 ω ω (by simp[ho]) ω ω ω ω
    refine⟨(x+4294967296-(y+c))::r,by rw[hr];simp,VD.cons ω ω hv,by rw[c3,hs];omega,by rw[aR];omega⟩
   ·rw[dV (x:=x-(y+c)) ω ω]
    simp (disch:=omega) only[aT,aP,fG,fp,dW,dX,a6,bL,cM,dG,ay,dV,aq,av,bn,c0,ar,aJ,dr,ag,aS,aI,bN,cR,aR,bU,hga,hgb]
    obtain⟨r,hr,hv,hs,H9⟩:=Fo N ha hb yO (m-1) n (i+1) (out++[x-(y+c)]) 0 ω ω (by simp[ho]) ω ω ω ω
    refine⟨(x-(y+c))::r,by rw[hr];simp,VD.cons ω ω hv,by rw[c3,hs];omega,by rw[aR];omega⟩
  ·simp (disch:=omega) only[aT,aP,fG,fp,dW,dX,a6,bL,cM,dG,ay,dV,aq,av,bn,c0,ar,aJ,dr,ag,aS,aI,bN,cR,aR,bU]
   have h0:=kf (hb.drop i)
   rw[kE (l:=a) ω]at hz ⊢
   simp only[c3]at hz ⊢
   exact⟨[],by simp,VD.nil,by simp only[c3];omega,bo _⟩
theorem CF(N:Nat)(hN:4000000≤N){a b:List Int}(ha:VD a)(hb:VD b)(yO:a.length≤1000000)(h:c3 b≤c3 a): ∃r,DW N a b=some r∧VD r∧c3 r=c3 a-c3 b∧r.length≤1000000:=by
 unfold DW DW.b
 obtain⟨r,hr,hv,hs,hl⟩:=Fo N ha hb yO a.length N 0 [] 0 ω ω rfl ω ω ω (by simp;omega)
 exact⟨r,hr,hv,by simpa using hs,ω⟩
theorem qp: ∀(l:List Int) (x:Int),c3 (l++[x])=c3 l+4294967296^l.length*x
 |[],x=>by simp[c3]
 |d::r,x=>by
  rw[kF,c3,qp r x,c3,aR,zD,jU _ 4294967296,kG,jW];omega
theorem Ng{a b:List Int}(ha:VD a)(hb:VD b){k:Nat}(h1:k<a.length)(h2:k<b.length)(e9:a.getD k 0<b.getD k 0):c3 (a.take (k+1))<c3 (b.take (k+1)):=by
 rw[hZ a h1,hZ b h2,qp,qp]
 have l1:(a.take k).length=k:=by rw[cc];omega
 have l2:(b.take k).length=k:=by rw[cc];omega
 have v1:=RU (ha.take k)
 have v2:=kf (hb.take k)
 rw[l1]at*
 rw[l2]
 generalize (4294967296:Int)^k=p at*
 have hp:0<p:=by have:=kf (ha.take k);omega
 have:=xm (show a.getD k 0+1≤b.getD k 0 by omega) (Int.le_of_lt hp)
 rw[jW,Int.mul_one]at this
 omega
def vv(x:Int):Int:=if x<0 then-1 else if 0<x then 1 else 0
theorem Nh(N:Nat){a b:List Int}(ha:VD a)(hb:VD b)(hl:a.length=b.length)(yO:a.length≤1000000): ∀(k n:Nat),k≤a.length→k<n→Dt.l6 N n a b ((k:Int)-1)=some (vv (c3 (a.take k)-c3 (b.take k)))
 |k,0,_,hn=>ω
 |0,n+1,_,_=>by
  unfold Dt.l6 Dt.uw
  simp (disch:=omega) only[aT,aP,fG,fp,dW,dX,a6,bL,cM,dG,ay,dV,aq,av,bn,c0,ar,aJ,dr,ag,aS,aI,bN,cR,aR,bU]
  simp[vv,c3]
 |k+1,n+1,hk,hn=>by
  unfold Dt.l6 Dt.uw
  have e:((k+1:Nat):Int)-1=(k:Int):=ω
  rw[e]
  simp (disch:=omega) only[aT,aP,fG,fp,dW,dX,a6,bL,cM,dG,ay,dV,aq,av,bn,c0,ar,aJ,dr,ag,aS,aI,bN,cR,aR,bU]
  by_cases h1:a.getD k 0<b.getD k 0
  ·rw[aT h1,aq]
   have:=Ng ha hb (k:=k) ω ω h1
   rw[vv,aj ω]
  ·rw[aP ω,av]
   by_cases h2:b.getD k 0<a.getD k 0
   ·rw[aT h2,aq]
    have:=Ng hb ha (k:=k) ω ω h2
    rw[vv,ah ω,aj ω]
   ·rw[aP ω,av,Nh N ha hb hl yO k n ω ω]
    congr 2
    rw[hZ a ω,hZ b ω,qp,qp,show a.getD k 0=b.getD k 0 from by omega,cc,cc,hl]
    omega
theorem Ni(N:Nat)(hN:4000000≤N)(m k:Nat)(hm:(lA m).length≤1000000)(hk:(lA k).length≤1000000):Dt N (lA m) (lA k)=some (vv ((m:Int)-k)):=by
 unfold Dt Dt.b
 by_cases h:(lA m).length=(lA k).length
 ·simp (disch:=omega) only[aT,aP,fG,fp,dW,dX,a6,bL,cM,dG,ay,dV,aq,av,bn,c0,ar,aJ,dr,ag,aS,aI,bN,cR,aR,bU]
  rw[Nh N (kg m) (kg k) h hm (lA m).length N (aG _) ω,ix,h,ix,gX,gX]
 ·rw[dX ω,c0,aq]
  by_cases e9:(lA m).length<(lA k).length
  ·rw[aT ω,aq]
   have h1:=Ko ((lA k).length-1) m ω
   have h2: ¬(k<4294967296^((lA k).length-1)):=λh=>by have:=xz _ _ h;omega
   rw[vv,aj ω]
  ·rw[aP ω,av]
   have h1:=Ko ((lA m).length-1) k ω
   have h2: ¬(m<4294967296^((lA m).length-1)):=λh=>by have:=xz _ _ h;omega
   rw[vv,ah ω,aj ω]
end VM
end
section
namespace VM
open Go VM.F
def Fit(v:Int)(k:Nat):Prop:=v.natAbs<4294967296^k
theorem Fit.len{v:Int}{k:Nat}(h:Fit v k):(lA v.natAbs).length≤k:=xz k _ h
theorem Fit.mono{v:Int}{j k:Nat}(h:Fit v j)(hjk:j≤k):Fit v k:=mT h (Nat.pow_le_pow_right δ hjk)
theorem Fit.neg{v:Int}{k:Nat}(h:Fit v k):Fit (-v) k:=by unfold Fit at*;rwa [Int.natAbs_neg]
theorem Fit.i64{v:Int}(h0: -9223372036854775808≤v)(h1:v<9223372036854775808):Fit v 2:=by
 unfold Fit
 rw[show(4294967296:Nat)^2=18446744073709551616 from by decide];omega
theorem Fit.add{u v:Int}{k:Nat}(hu:Fit u k)(hv:Fit v k):Fit (u+v) (k+1):=by
 unfold Fit at*
 rw[zC]
 have:(u+v).natAbs≤u.natAbs+v.natAbs:=Int.natAbs_add_le u v
 generalize 4294967296^k=p at*
 omega
theorem Fit.mul{u v:Int}{j k:Nat}(hu:Fit u j)(hv:Fit v k):Fit (u*v) (j+k):=by
 unfold Fit at*
 rw[Int.natAbs_mul,Nat.pow_add]
 exact Nat.mul_lt_mul'' hu hv
theorem Fit.of_le{u v:Int}{k:Nat}(hv:Fit v k)(h:u.natAbs≤v.natAbs):Fit u k:=Nat.lt_of_le_of_lt h hv
theorem o0(a b:Bool):ql .bool a b=(a==b):=by simp[ql]
theorem iA(N:Nat)(hN:4000000≤N){u v:Int}(hu:Fit u 900000)(hv:Fit v 900000):yR N (cS u) (cS v)=some (cS (u+v)):=by
 have lu:=hu.len
 have lv:=hv.len
 unfold yR
 simp only[cS,o0]
 by_cases hs:decide (u<0)=decide (v<0)
 ·rw[hs,s8,aq]
  obtain⟨r,hr,hvd,J7,hl⟩:=Nf N hN (kg u.natAbs) (kg v.natAbs) ω ω
  simp only[hr,ar,sx N _ hvd ω ω,J7,gX]
  congr 1
  show cS _=cS _
  congr 1
  by_cases h:v<0
  ·have:u<0:=by simpa [h]using hs
   rw[aj (bu h)];omega
  ·have: ¬u<0:=by simpa [h]using hs
   rw[ah (by simpa using h)];omega
 ·have hb:(decide (u<0)==decide (v<0))=false:=by simpa using hs
  rw[hb,av,Ni N hN _ _ ω ω,ar]
  by_cases hc:v.natAbs≤u.natAbs
  ·have h1:dj 0 (vv ((u.natAbs:Int)-v.natAbs))=true:=fG (by unfold vv;split<;>(try split)<;>omega)
   obtain⟨r,hr,hvd,J7,hl⟩:=CF N hN (kg u.natAbs) (kg v.natAbs) ω (by rw[gX,gX];omega)
   simp only[h1,aq,hr,ar,sx N _ hvd ω ω,J7,gX]
   congr 1
   show cS _=cS _
   congr 1
   by_cases h:u<0
   ·have: ¬v<0:=λhv=>hs (by simp[h,hv])
    rw[aj (bu h)];omega
   ·have:v<0:=LX λhv=>hs (by simp[h,hv])
    rw[ah (by simpa using h)];omega
  ·have h1:dj 0 (vv ((u.natAbs:Int)-v.natAbs))=false:=fp (by unfold vv;rw[aj ω];omega)
   obtain⟨r,hr,hvd,J7,hl⟩:=CF N hN (kg v.natAbs) (kg u.natAbs) ω (by rw[gX,gX];omega)
   simp only[h1,av,hr,ar,sx N _ hvd ω ω,J7,gX]
   congr 1
   show cS _=cS _
   congr 1
   by_cases h:v<0
   ·have: ¬u<0:=λhu=>hs (by simp[h,hu])
    rw[aj (bu h)];omega
   ·have:u<0:=LX λhu=>hs (by simp[h,hu])
    rw[ah (by simpa using h)];omega
theorem jw(N:Nat)(hN:4000000≤N){u:Int}(hu:Fit u 900000):TK N (cS u)=some (cS (-u)):=by
 have lu:=hu.len
 unfold TK
 simp only[cS]
 simp only[sx N _ (kg u.natAbs) ω ω,ar,gX]
 congr 1
 show cS _=cS _
 congr 1
 by_cases h:u<0
 ·rw[bu h,bn,ah qA];omega
 ·rw[cj h,c0,aj rfl];omega
theorem Fp(N:Nat)(hN:4000000≤N){u:Int}(hu:Fit u 900000):Wv N (cS u)=some (cS u.natAbs):=by
 have lu:=hu.len
 unfold Wv
 simp only[cS]
 simp only[sx N _ (kg u.natAbs) ω ω,ar,gX,iY,eT]
 rfl
theorem ux(N:Nat)(hN:4000000≤N){u v:Int}(hu:Fit u 900000)(hv:Fit v 900000):RV N (cS u) (cS v)=some (cS (u-v)):=by
 unfold RV
 simp only[jw N hN hv,ar,iA N hN hu hv.neg,Int.sub_eq_add_neg]
theorem p3(N:Nat)(u:Int):RW N (cS u)=some (vv u):=by
 unfold RW
 simp only[cS]
 by_cases h:u=0
 ·subst h
  rw[show(0:Int).natAbs=0 from rfl,ke]
  simp (disch:=omega) only[aT,aP,fG,fp,dW,dX,a6,bL,cM,dG,ay,dV,aq,av,bn,c0,ar,aJ,dr,ag,aS,aI,bN,cR,aR,bU]
  rfl
 ·have:0<(lA u.natAbs).length:=by
   apply si.2
   intro hd;rw[Ak]at hd;omega
  rw[dX ω,av]
  by_cases hn:u<0
  ·rw[bu hn,aq,vv,aj hn]
  ·rw[cj hn,av,vv,ah hn,aj ω]
theorem Kq(N:Nat)(hN:4000000≤N){u v:Int}(hu:Fit u 900000)(hv:Fit v 900000):Nj N (cS u) (cS v)=some (vv (u-v)):=by
 unfold Nj
 simp only[ux N hN hu hv,ar,p3]
theorem RX(l:List Int)(h: ∀x∈l,-9223372036854775808≤x∧x<9223372036854775808): -(9223372036854775808*l.length)≤l.sum∧l.sum≤9223372036854775808*l.length:=by
 induction l with
 |nil=>simp
 |cons x l ih=>
  have:=ih (λy hy=>h y (aZ _ hy))
  obtain⟨h1,h2⟩:=h x (bm ..)
  rw[cw,aR]
  omega
theorem Al{v:Int}{n:Nat}(hn:n≤1000000)(h0: -(9223372036854775808*n)≤v)(h1:v≤9223372036854775808*n):Fit v 3:=by
 unfold Fit
 rw[show(4294967296:Nat)^3=79228162514264337593543950336 from by decide]
 omega
theorem tB{l:List Int}(h: ∀x∈l,-9223372036854775808≤x∧x<9223372036854775808)(i:Nat): -9223372036854775808≤l.getD i 0∧l.getD i 0<9223372036854775808:=by
 rw[aU]
 cases hn:l[i]? with
 |none=>exact⟨δ,δ⟩
 |some x=>exact h x (List.mem_of_getElem? hn)
theorem lB(l:List Int){i:Nat}(h:i<l.length):(l.take (i+1)).sum=(l.take i).sum+l.getD i 0:=by
 rw[hZ l h];simp
theorem Am(N:Nat)(hN:4000000≤N){l:List Int}(h: ∀x∈l,-9223372036854775808≤x∧x<9223372036854775808)(hl:l.length≤1000000): ∀(m n i:Nat) (z:aH),l.length-i≤m→m<n→i≤l.length→
  pz.l3 N n l z (cS (l.take i).sum) (i:Int)=some (cS l.sum)
 |m,0,i,z,_,hn,_=>ω
 |m,n+1,i,z,hm,hn,hi=>by
  unfold pz.l3 pz.nO
  by_cases h1:i<l.length
  ·obtain⟨g0,g1⟩:=tB h i
   have f1:=RX (l.take i) (λx hx=>h x (lM hx))
   rw[cc,iy ω]at f1
   have f2:Fit (l.take i).sum 900000:=(Al (n:=i) ω f1.1 f1.2).mono ω
   have f3:Fit (l.getD i 0) 900000:=(Fit.i64 g0 g1).mono ω
   simp (disch:=omega) only[aT,aP,fG,fp,dW,dX,a6,bL,cM,dG,ay,dV,aq,av,bn,c0,ar,aJ,dr,ag,aS,aI,bN,cR,aR,bU,cP N ω g0 g1,iA N hN f2 f3]
   rw[←lB l h1]
   exact Am N hN h hl (m-1) n (i+1) z ω ω ω
  ·simp (disch:=omega) only[aT,aP,fG,fp,dW,dX,a6,bL,cM,dG,ay,dV,aq,av,bn,c0,ar,aJ,dr,ag,aS,aI,bN,cR,aR,bU]
   rw[jF ω]
theorem iH:cS 0=(false,([],())):=by unfold cS;rw[show(0:Int).natAbs=0 from rfl,ke];rfl
theorem yS(N:Nat)(hN:4000000≤N){l:List Int}(h: ∀x∈l,-9223372036854775808≤x∧x<9223372036854775808)(hl:l.length≤1000000):pz N l=some (cS l.sum):=by
 unfold pz pz.b
 have:=Am N hN h hl l.length N 0 (false,([],())) ω ω ω
 rw[oS,iC,iH]at this
 exact this
theorem Ww{a b:Int}(ha:0≤a)(Y5:a<4294967296)(hb:0≤b)(mw:b<4294967296):qL .or .u64 a (b*4294967296)=a+b*4294967296:=by
 rw[RS ha ω ω ω]
 have h:=LO (i:=32) (b:=a.toNat) ω b.toNat
 have e:(b*4294967296).toNat=2^32*b.toNat:=ω
 rw[e,Nat.or_comm,←h];omega
theorem TL{a b:Int}(ha:0≤a)(Y5:a<4294967296)(hb:0≤b)(mw:b<4294967296):qL .or .u64 (b*4294967296) a=a+b*4294967296:=by
 rw[RS ω ω ha ω]
 have h:=LO (i:=32) (b:=a.toNat) ω b.toNat
 have e:(b*4294967296).toNat=2^32*b.toNat:=ω
 rw[e,←h];omega
theorem afX{x:Int}(h0:0≤x):shl .u64 x 32=x*4294967296:=by rw[ZV ω ω];rfl
def BA(v:Int):Int×Bool:=if-9223372036854775808≤v∧v<9223372036854775808 then(v,true)else(0,false)
theorem ZY{n:Nat}(h:(lA n).length≤2):(lA n).getD 0 0+4294967296*(lA n).getD 1 0=n:=by
 have h1:=kL (lA n) 0
 have h2:=kL (lA n) 1
 rw[cZ,gX]at h1
 rw[kE (l:=lA n) (i:=1+1) h]at h2
 simp only[c3,gk]at h1 h2
 omega
theorem q3(N:Nat)(v:Int):wH N (cS v)=some (BA v):=by
 unfold wH
 simp only[cS]
 by_cases hl:2<(lA v.natAbs).length
 ·rw[aT ω,aq,BA,ah]
  intro hh
  have:=xz 2 v.natAbs (by rw[show(4294967296:Nat)^2=18446744073709551616 from by decide];omega)
  omega
 ·have h2:=ZY (n:=v.natAbs) ω
  obtain⟨a0,a1⟩:=(kg v.natAbs).getD 0
  obtain⟨b0,b1⟩:=(kg v.natAbs).getD 1
  have e0:=wG N (lA v.natAbs) 0
  have e1:=wG N (lA v.natAbs) 1
  simp only[Int.natCast_zero,Int.natCast_one]at e0 e1
  rw[aP ω,av,e0,e1]
  generalize (lA v.natAbs).getD 0 0=a at*
  generalize (lA v.natAbs).getD 1 0=b at*
  simp only[ar]
  rw[aP (show(0:Int)≤32 by omega),av,afX b0,dV (x:=b*4294967296) ω ω,Ww a0 a1 b0 b1]
  have ev:a+b*4294967296=v.natAbs:=ω
  rw[ev]
  by_cases hn:v<0
  ·rw[bu hn,aq]
   by_cases Kj:9223372036854775808<(v.natAbs:Int)
   ·rw[aT Kj,aq,BA,ah ω]
   ·rw[aP ω,av,BA,aj ω,vi,iG]
    congr 2
    split<;>omega
  ·rw[cj hn,av]
   by_cases Kj:9223372036854775807<(v.natAbs:Int)
   ·rw[aT Kj,aq,BA,ah ω]
   ·rw[aP ω,av,BA,aj ω,ay ω ω]
    congr 2;omega
end VM
end
section
namespace VM
open Go VM.F
theorem Nk: ∀(l:List Int) (k:Nat) (x:Int),k<l.length→c3 (l.set k x)=c3 l+4294967296^k*(x-l.getD k 0)
 |d::r,0,x,_=>by simp[c3];omega
 |d::r,k+1,x,h=>by
  have ih:=Nk r k x (by simpa using h)
  rw[List.set_cons_succ,c3,c3,ih,List.getD_cons_succ,zD,jU (4294967296^k) 4294967296,kG,jW];omega
theorem getD_set_ne(l:List Int){j k:Nat}(x:Int)(h:j≠k):(l.set j x).getD k 0=l.getD k 0:=by
 simp[aU,List.getElem?_set_ne h]
theorem mB(l:List Int){k:Nat}(x:Int)(h:k<l.length):(l.set k x).getD k 0=x:=by
 simp[aU,List.getElem?_set,h]
theorem uy(l:List Int){k:Nat}(h:l.length≤k):l.getD k 0=0:=by
 rw[aU,gG h];rfl
theorem CG(N:Nat)(K:aH→aH→aH→List Int→Int→Option aH){a b:List Int}(na nb:Bool)(z:aH)(ha:VD a)(hb:VD b)(i:Nat)(hi:i<a.length)(yO:a.length≤100000)(PS:b.length≤100000):
  ∀(m n j:Nat) (out:List Int) (c:Int),b.length+1-j≤m→m<n→VD out→out.length=a.length+b.length+1→0≤c→c<4294967296→(j≤b.length→ ∀k,i+b.length≤k→out.getD k 0=0)→(b.length<j→c=0∧j=b.length+1∧ ∀k,i+b.length+1≤k→out.getD k 0=0)→
  ∃yT,jR.l7 N K n (na,(a,())) (nb,(b,())) z out (i:Int) c (j:Int)=K (na,(a,())) (nb,(b,())) z yT ((i+1:Nat):Int)∧VD yT∧yT.length=out.length∧
   c3 yT=c3 out+4294967296^i*(4294967296^j*(a.getD i 0*c3 (b.drop j)+c))∧ ∀k,i+1+b.length≤k→yT.getD k 0=0
 |m,0,j,out,c,_,hn,_,_,_,_,_,_=>ω
 |m,n+1,j,out,c,hm,hn,ho,Il,U9,Ly,hz,Hb=>by
  unfold jR.l7 jR.q4
  by_cases Nd:b.length≤j∧c=0
  ·obtain⟨h1,rfl⟩:=Nd
   simp (disch:=omega) only[aT,aP,fG,fp,dW,dX,a6,bL,cM,dG,ay,dV,aq,av,bn,c0,ar,aJ,dr,ag,aS,aI,bN,cR,aR,bU]
   refine⟨out,rfl,ho,rfl,by rw[kE h1];simp[c3],λk hk=> ?_⟩
   by_cases hj:j≤b.length
   ·exact hz hj k ω
   ·exact(Hb ω).2.2 k ω
  ·have G8:j≤b.length:=by
    by_cases hj:j≤b.length
    ·exact hj
    ·exact absurd ⟨ω,(Hb ω).1⟩ Nd
   obtain⟨ga0,ga1⟩:=ha.getD i
   obtain⟨gb0,gb1⟩:=hb.getD j
   obtain⟨go0,go1⟩:=ho.getD (i+j)
   have step: ∃yT,jR.j9 N K (jR.l7 N K n) (na,(a,())) (nb,(b,())) z out (i:Int) c (j:Int)=K (na,(a,())) (nb,(b,())) z yT ((i+1:Nat):Int)∧VD yT∧yT.length=out.length∧
     c3 yT=c3 out+4294967296^i*(4294967296^j*(a.getD i 0*c3 (b.drop j)+c))∧ ∀k,i+1+b.length≤k→yT.getD k 0=0:=by
    unfold jR.j9 jR.Nl
    have eij:(i:Int)+(j:Int)=((i+j:Nat):Int):=rfl
    have hp:=mul_lt (m:=4294967295) (n:=4294967295) ga0 gb0 ω ω
    simp only[wG,ar,eij,aJ]
    simp (disch:=omega) only[aT,aP,fG,fp,dW,dX,a6,bL,cM,dG,ay,dV,aq,av,bn,c0,ar,aJ,dr,ag,aS,aI,bN,cR,aR,bU]
    generalize hx:out.getD (i+j) 0=x at*
    generalize ha':a.getD i 0=ai at*
    generalize eY:b.getD j 0=bj at*
    generalize hpe:ai*bj=p at*
    have hpz:b.length≤j→p=0∧x=0:=λh=>by
     rw[uy b h]at eY
     refine⟨by rw[←hpe,←eY,zE],?_⟩
     rw[←hx];exact hz G8 _ ω
    rw[oc ω ω,RT]
    have arP:(out.set (i+j) ((c+(x+p))%4294967296)).length=a.length+b.length+1:=by rw[bN];exact Il
    obtain⟨yT,h1,h2,h3,h4,h5⟩:=CG N K na nb z ha hb i hi yO PS (m-1) n (j+1) (out.set (i+j) ((c+(x+p))%4294967296)) ((c+(x+p))/4294967296) ω ω (ho.set _ ω ω) arP ω ω
     (λh k hk=>by rw[getD_set_ne _ _ ω];exact hz G8 k hk)
     (λh=>by
      obtain⟨hp0,Tn⟩:=hpz ω
      refine⟨ω,ω,λk hk=> ?_⟩
      rw[getD_set_ne _ _ ω];exact hz G8 k ω)
    refine⟨yT,h1,h2,by rw[h3,bN],?_,h5⟩
    rw[h4,Nk _ _ _ ω,hx,ha',kL b j,eY,jW ai,hpe,Int.pow_add,zD]
    have e1:ai*(4294967296*c3 (b.drop (j+1)))=4294967296*(ai*c3 (b.drop (j+1))):=Int.mul_left_comm _ _ _
    rw[e1]
    generalize ai*c3 (b.drop (j+1))=y
    generalize (4294967296:Int)^i=P
    generalize (4294967296:Int)^j=R
    rw[kG R,kG P,zB,←jW,←jW]
    congr 3
    omega
   by_cases h1:j<b.length
   ·simp (disch:=omega) only[aT,aq];exact step
   ·have:0<c:=ω
    simp (disch:=omega) only[aT,aP,aq,av];exact step
theorem CH(N:Nat)(hN:4000000≤N){a b:List Int}(na nb:Bool)(z:aH)(ha:VD a)(hb:VD b)(yO:a.length≤100000)(PS:b.length≤100000):
  ∀(m n i:Nat) (out:List Int),a.length-i≤m→m<n→i≤a.length→VD out→out.length=a.length+b.length+1→(∀k,i+b.length≤k→out.getD k 0=0)→c3 out=c3 (a.take i)*c3 b→
  jR.l3 N n (na,(a,())) (nb,(b,())) z out (i:Int)=some (cS (if na=nb then c3 a*c3 b else-(c3 a*c3 b)))
 |m,0,i,out,_,hn,_,_,_,_,_=>ω
 |m,n+1,i,out,hm,hn,hi,ho,Il,hz,hv=>by
  unfold jR.l3 jR.nO
  by_cases h1:i<a.length
  ·simp only
   rw[aT ω,aq]
   obtain⟨yT,e1,e2,e3,e4,e5⟩:=CG N (jR.l3 N n) na nb z ha hb i h1 yO PS (b.length+1) N 0 out 0 ω ω ho Il ω ω (λ_ k hk=>hz k hk) (λh=>ω)
   rw[show((0:Nat):Int)=0 from rfl]at e1
   rw[e1]
   refine CH N hN na nb z ha hb yO PS (m-1) n (i+1) yT ω ω ω e2 (by rw[e3];exact Il) (λk hk=>e5 k ω) ?_
   rw[e4,hv,hZ a h1,qp,cc,iy ω,cZ,Int.pow_zero,zF,fY,qK,kG]
  ·simp only
   rw[aP ω,av]
   simp only[sx N _ ho ω ω,ar]
   rw[hv,jF ω,o0]
   congr 2
   cases na<;>cases nb<;>simp
theorem wI(N:Nat)(hN:4000000≤N){u v:Int}(hu:Fit u 90000)(hv:Fit v 90000):jR N (cS u) (cS v)=some (cS (u*v)):=by
 have lu:=hu.len
 have lv:=hv.len
 unfold jR jR.b
 simp only[cS]
 simp (disch:=omega) only[aT,aP,fG,fp,dW,dX,a6,bL,cM,dG,ay,dV,aq,av,bn,c0,ar,aJ,dr,ag,aS,aI,bN,cR,aR,bU]
 have e:(((lA u.natAbs).length:Int)+((lA v.natAbs).length:Int)+1).toNat=(lA u.natAbs).length+(lA v.natAbs).length+1:=ω
 have:=CH N hN (decide (u<0)) (decide (v<0)) (false,([],())) (kg u.natAbs) (kg v.natAbs) ω ω (lA u.natAbs).length N 0 (List.replicate ((lA u.natAbs).length+(lA v.natAbs).length+1) 0) ω ω ω (VD.afW _) (by simp)
  (λk _=>by rw[aU,Ef];split<;>rfl) (by
   have: ∀n,c3 (List.replicate n 0)=0:=λn=>by
    induction n with
    |zero=>rfl
    |succ n ih=>rw[zt,c3,ih];rfl
   rw[this];simp[c3])
 rw[gX,gX]at this
 have e2:(((lA u.natAbs).length+(lA v.natAbs).length:Nat):Int)+1=(lA u.natAbs).length+(lA v.natAbs).length+1:=ω
 first
 |(rw[e];refine this.trans ?_)
 |(refine(this).trans ?_)
 show some (cS _)=some (cS _)
 congr 2
 have key:(u.natAbs:Int)*v.natAbs=if decide (u<0)=decide (v<0)then u*v else-(u*v):=by
  by_cases h1:u<0<;>by_cases h2:v<0
  ·rw[aj (by simp[h1,h2]),show(u.natAbs:Int)= -u from by omega,show(v.natAbs:Int)= -v from by omega,Int.neg_mul_neg]
  ·rw[ah (by simp[h1,h2]),show(u.natAbs:Int)= -u from by omega,show(v.natAbs:Int)=v from by omega,Int.neg_mul]
  ·rw[ah (by simp[h1,h2]),show(u.natAbs:Int)=u from by omega,show(v.natAbs:Int)= -v from by omega,zG]
  ·rw[aj (by simp[h1,h2]),show(u.natAbs:Int)=u from by omega,show(v.natAbs:Int)=v from by omega]
 rw[key]
 split<;>simp
end VM
end
section
namespace VM
open Go VM.F
theorem ZZ{x:Int}(h0:0≤x)(h1:x<18446744073709551616):qL .and .u64 x 1=x%2:=by
 rw[M9 h0 h1 ω ω]
 have:=LN x.toNat 1
 rw[show((1:Int).toNat)=2^1-1 from rfl,this]
 omega
theorem HB{l:List Int}{k:Nat}(x:Int)(h:k<l.length):c3 ((l.set k x).drop k)=x+4294967296*c3 (l.drop (k+1)):=by
 rw[kL,mB l x h,List.drop_set_of_lt ω]
theorem Iv(N:Nat){d:List Int}(hd:VD d)(hl:d.length≤100000)(hN:4000000≤N): ∀(k n:Nat) (out:List Int) (c:Int),k≤d.length→k<n→VD out→out.length=d.length→c=c3 (d.drop k)%2→c3 (out.drop k)=c3 (d.drop k)/2→
  pA.l4 N n d out c ((k:Int)-1)=some (lA (c3 d/2).toNat,c3 d%2)
 |k,0,out,c,_,hn,_,_,_,_=>ω
 |0,n+1,out,c,_,_,ho,Il,hc,hv=>by
  unfold pA.l4 pA.ei
  simp (disch:=omega) only[aT,aP,fG,fp,dW,dX,a6,bL,cM,dG,ay,dV,aq,av,bn,c0,ar,aJ,dr,ag,aS,aI,bN,cR,aR,bU,Kp N ho ω ω]
  rw[cZ,cZ]at hv
  rw[cZ]at hc
  rw[hv,hc]
 |k+1,n+1,out,c,hk,hn,ho,Il,hc,hv=>by
  unfold pA.l4 pA.ei
  have e:((k+1:Nat):Int)-1=(k:Int):=ω
  obtain⟨g0,g1⟩:=hd.getD k
  have hn0:=kf (hd.drop (k+1))
  have e1:=kL d k
  simp only[e,aJ]
  rw[afX ω]
  generalize hx:d.getD k 0=x at*
  rw[dV (x:=c*4294967296) ω ω,TL g0 g1 ω ω]
  simp (disch:=omega) only[aT,aP,fG,fp,dW,dX,a6,bL,cM,dG,ay,dV,aq,av,bn,c0,ar,aJ,dr,ag,aS,aI,bN,cR,aR,bU,amw,ZZ]
  refine Iv N hd hl hN k n (out.set k ((x+c*4294967296)/2)) ((x+c*4294967296)%2) ω ω (ho.set _ ω ω) (by rw[bN];exact Il) (by rw[e1,hc];omega) ?_
  rw[HB _ ω,hv,e1]
  omega
theorem Z0(N:Nat)(hN:4000000≤N)(m:Nat)(h:(lA m).length≤100000):pA N (lA m)=some (lA (m/2),((m%2:Nat):Int)):=by
 unfold pA pA.b
 simp (disch:=omega) only[aT,aP,fG,fp,dW,dX,a6,bL,cM,dG,ay,dV,aq,av,bn,c0,ar,aJ,dr,ag,aS,aI,bN,cR,aR,bU]
 have:=Iv N (kg m) h hN (lA m).length N (List.replicate (lA m).length 0) 0 (aG _) ω (VD.afW _) (by simp) (by rw[mU];rfl) (by rw[mU,kE (by simp)];rfl)
 rw[gX]at this
 rw[this]
 congr 2
def bin(n:Nat):List Int:=if n=0 then []else((n%2:Nat):Int)::bin (n/2)
termination_by n
decreasing_by omega
theorem DX{n:Nat}(h:n≠0):bin n=((n%2:Nat):Int)::bin (n/2):=by rw[bin];simp[h]
theorem wJ:bin 0=[]:=by rw[bin];rfl
def An:List Int→Int
 |[]=>0
 |d::r=>d+2*An r
theorem Z1(n:Nat):An (bin n)=n:=by
 induction n using Nat.strongRecOn with
 |_ n ih=>
  by_cases h:n=0
  ·subst h;rw[wJ];rfl
  ·rw[DX h,An,ih _ ω];omega
theorem Z2(n:Nat): ∀d∈bin n,d=0∨d=1:=by
 induction n using Nat.strongRecOn with
 |_ n ih=>
  by_cases h:n=0
  ·subst h;rw[wJ];intro d hd;cases hd
  ·rw[DX h];intro d hd
   rcases aW.1 hd with rfl|hd
   ·omega
   ·exact ih _ ω d hd
theorem Z3(k:Nat): ∀n,n<2^k→(bin n).length≤k:=by
 induction k with
 |zero=>
  intro n h;have:n=0:=by simpa using h
  subst this;rw[wJ];simp
 |succ k ih=>
  intro n h
  by_cases hn:n=0
  ·subst hn;rw[wJ];simp
  ·rw[DX hn,aR]
   have:=ih (n/2) (by rw[zC]at h;omega)
   omega
theorem Wx{n k:Nat}(h:n<4294967296^k):(bin n).length≤32*k:=Z3 _ _ (mT h (by rw[Nat.pow_mul];exact aG _))
theorem Iw(N:Nat)(hN:4000000≤N)(x2 x3 x4 x5:aH): ∀(m n:Nat) (t:Nat) (bits:List Int),(bin t).length≤m→m<n→(lA t).length≤100000→bits.length+(bin t).length≤4000000→
  iv.l3 N n x2 x3 x4 x5 bits (lA t)=iv.l9 N N x2 x3 x4 x5 (bits++bin t) (false,([],())) (false,([],())) (((bits++bin t).length:Int)-1)
 |m,0,t,bits,_,hn,_,_=>ω
 |m,n+1,t,bits,hm,hn,hd,hb=>by
  unfold iv.l3 iv.nO
  by_cases ht:t=0
  ·subst ht
   rw[ke,wJ]
   simp (disch:=omega) only[aT,aP,fG,fp,dW,dX,a6,bL,cM,dG,ay,dV,aq,av,bn,c0,ar,aJ,dr,ag,aS,aI,bN,cR,aR,bU,ch]
  ·have Hs:0<(lA t).length:=by
    apply si.2
    intro h;rw[Ak]at h;omega
   rw[DX ht]at hm hb ⊢
   rw[aR]at hm hb
   have hdl:(lA (t/2)).length≤100000:=by
    have:=Ko _ t hd
    exact xz _ _ (Nat.lt_of_le_of_lt (Nat.div_le_self _ _) this)
   simp (disch:=omega) only[aT,aP,fG,fp,dW,dX,a6,bL,cM,dG,ay,dV,aq,av,bn,c0,ar,aJ,dr,ag,aS,aI,bN,cR,aR,bU,Z0 N hN t hd]
   rw[Iw N hN x2 x3 x4 x5 (m-1) n (t/2) (bits++[((t%2:Nat):Int)]) ω ω hdl (by simp;omega)]
   simp
theorem TM(l:List Int){i:Nat}(h:i<l.length):An (l.drop i)=l.getD i 0+2*An (l.drop (i+1)):=by
 rw[pS h,An,aU,bk h];rfl
theorem CI: ∀{l:List Int},(∀d∈l,d=0∨d=1)→0≤An l
 |[],_=>fI _
 |d::r,h=>by
  have h1:=CI (l:=r) λx hx=>h x (aZ _ hx)
  have:=h d (bm ..)
  simp only[An];omega
theorem uz: ∀(l:List Int) (i:Nat),(∀d∈l,d=0∨d=1)→An (l.drop i)≤An l
 |l,0,_=>fI _
 |[],i+1,_=>fI _
 |d::r,i+1,h=>by
  have h1:=uz r i λx hx=>h x (aZ _ hx)
  have h2:=CI (l:=r) λx hx=>h x (aZ _ hx)
  have:=h d (bm ..)
  rw[List.drop_succ_cons,An];omega
theorem tC(N:Nat)(hN:4000000≤N)(a d:Int)(hd:0<d)(RY:Fit a 80000)(TN:Fit d 80000)(x4 x5:aH){bits:List Int}(hb: ∀x∈bits,x=0∨x=1)(hbv:An bits=a.natAbs)(we:bits.length≤4000000):
  ∀(k n:Nat) (q r:Int),k≤bits.length→k<n→0≤q→0≤r→r<d→An (bits.drop k)=q*d+r→
  iv.l9 N n (cS a) (cS d) x4 x5 bits (cS q) (cS r) ((k:Int)-1)=some (cS (a/d),cS (a%d))
 |k,0,q,r,_,hn,_,_,_,_=>ω
 |0,n+1,q,r,_,_,hq,hr,kV,hv=>by
  unfold iv.l9 iv.xA
  rw[cZ,hbv]at hv
  have hqa:q≤a.natAbs:=by
   have:q*1≤q*d:=xm ω hq
   omega
  have fq:Fit q 900000:=(RY.of_le (u:=q) ω).mono ω
  have fr:Fit r 900000:=(TN.of_le (u:=r) ω).mono ω
  have f1:Fit 1 900000:=(Fit.i64 (v:=1) ω ω).mono ω
  have fq':Fit (-q) 900000:=fq.neg
  have fd:Fit d 900000:=TN.mono ω
  rw[fp ω,av]
  by_cases ha:a<0
  ·have hna:(a.natAbs:Int)= -a:=ω
   have e0:(cS a).1=true:=bu ha
   simp only[e0,bn,av,p3,ar]
   by_cases YV:r=0
   ·subst YV
    rw[dW (by unfold vv;simp),aq]
    simp only[jw N hN fq,ar]
    have e1:a=d*(-q):=by rw[zG,jU];omega
    have e2:a/d= -q:=by rw[e1,Int.mul_ediv_cancel_left _ ω]
    have e3:a%d=0:=by rw[e1,Int.mul_emod_right]
    rw[e2,e3]
   ·rw[dX (by unfold vv;rw[ah ω,aj ω];omega),av]
    simp (disch:=omega) only[jw N hN fq,cP N ω (show-9223372036854775808≤(1:Int)by omega) ω,ar,ux N hN fq' f1,ux N hN fd fr]
    have e1:a=(d-r)+d*(-q-1):=by rw[Int.mul_sub,zG,Int.mul_one,jU];omega
    have e2:a/d= -q-1:=by
     rw[e1,Mc _ _ ω,L8 ω ω];omega
    have e3:a%d=d-r:=by rw[e1,LS,Int.emod_eq_of_lt ω ω]
    rw[e2,e3]
  ·have hna:(a.natAbs:Int)=a:=ω
   have e0:(cS a).1=false:=cj ha
   simp only[e0,c0,aq]
   have e1:a=r+d*q:=by rw[jU];omega
   have e2:a/d=q:=by rw[e1,Mc _ _ ω,L8 hr kV];omega
   have e3:a%d=r:=by rw[e1,LS,Int.emod_eq_of_lt hr kV]
   rw[e2,e3]
 |k+1,n+1,q,r,hk,hn,hq,hr,kV,hv=>by
  unfold iv.l9 iv.xA
  have e:((k+1:Nat):Int)-1=(k:Int):=ω
  have hle:=uz bits k hb
  have arQ:=uz bits (k+1) hb
  rw[hbv]at hle arQ
  have hqa:q≤a.natAbs:=by
   have:q*1≤q*d:=xm ω hq
   omega
  have fq:Fit q 80000:=RY.of_le ω
  have fr:Fit r 80000:=TN.of_le ω
  have fqq:=fq.add fq
  have frr:=fr.add fr
  have f1:Fit 1 80000:=(Fit.i64 (v:=1) ω ω).mono ω
  have hvk:=TM bits (i:=k) ω
  have Dq:bits.getD k 0=0∨bits.getD k 0=1:=by
   rw[aU,bk (show k<bits.length by omega)]
   exact hb _ (dB _)
  rw[e,fG ω,aq]
  have e2q:(q+q)*d=2*(q*d):=by rw[←Int.two_mul,kG]
  have amB:(q+q+1)*d=2*(q*d)+d:=by rw[qK,e2q,zF]
  simp (disch:=omega) only[aT,aP,fG,fp,dW,dX,a6,bL,cM,dG,ay,dV,aq,av,bn,c0,ar,aJ,dr,ag,aS,aI,bN,cR,aR,bU,iA N hN (fq.mono ω) (fq.mono ω),iA N hN (fr.mono ω) (fr.mono ω),cP N ω (show-9223372036854775808≤(1:Int)by omega) ω]
  rcases Dq with Dq|Dq
  ·rw[Dq,dX ω,av]
   simp only[Kq N hN (frr.mono ω) (TN.mono ω),ar]
   by_cases Y1:d≤r+r
   ·rw[fG (by unfold vv;split<;>(try split)<;>omega),aq]
    simp only[ux N hN (frr.mono ω) (TN.mono ω),iA N hN (fqq.mono ω) (f1.mono ω),ar]
    refine tC N hN a d hd RY TN x4 x5 hb hbv we k n _ _ ω ω ω ω ω ?_
    rw[hvk,Dq,hv,amB];omega
   ·rw[fp (by unfold vv;rw[aj ω];omega),av]
    refine tC N hN a d hd RY TN x4 x5 hb hbv we k n _ _ ω ω ω ω ω ?_
    rw[hvk,Dq,hv,e2q];omega
  ·rw[Dq,dW rfl,aq]
   have amC:=frr.add (f1.mono (show 80000≤80001 by omega))
   simp only[iA N hN (frr.mono ω) (f1.mono ω),Kq N hN (amC.mono ω) (TN.mono ω),ar]
   by_cases Y1:d≤r+r+1
   ·rw[fG (by unfold vv;split<;>(try split)<;>omega),aq]
    simp only[ux N hN (amC.mono ω) (TN.mono ω),iA N hN (fqq.mono ω) (f1.mono ω),ar]
    refine tC N hN a d hd RY TN x4 x5 hb hbv we k n _ _ ω ω ω ω ω ?_
    rw[hvk,Dq,hv,amB];omega
   ·rw[fp (by unfold vv;rw[aj ω];omega),av]
    refine tC N hN a d hd RY TN x4 x5 hb hbv we k n _ _ ω ω ω ω ω ?_
    rw[hvk,Dq,hv,e2q];omega
theorem RZ(N:Nat)(hN:5000000≤N){a d:Int}(hd:0<d)(RY:Fit a 80000)(TN:Fit d 80000):iv N (cS a) (cS d)=some (cS (a/d),cS (a%d)):=by
 unfold iv iv.b
 have we:(bin a.natAbs).length≤32*80000:=Wx RY
 have h1:=Iw N ω (cS a) (cS d) (false,([],())) (false,([],())) (bin a.natAbs).length N a.natAbs [] (aG _) ω (cm RY.len ω) (by simp;omega)
 rw[cJ]at h1
 refine h1.trans ?_
 rw[←iH]
 exact tC N ω a d hd RY TN _ _ (Z2 _) (Z1 _) ω (bin a.natAbs).length N 0 0 (aG _) ω ω ω hd (by rw[mU];simp[An])
end VM
end
section
namespace VM
open Go VM.F
def dP(v:Int):cz:=(v/18446744073709551616,(v%18446744073709551616,()))
theorem wmk{a b v:Int}(h1:a=v/18446744073709551616)(h2:b=v%18446744073709551616):((a,(b,())):cz)=dP v:=by
 unfold dP;rw[h1,h2]
theorem R1{a b v:Int}{α:Type}{c:α}(h1:a=v/18446744073709551616)(h2:b=v%18446744073709551616):(some (((a,(b,())):cz),c):Option (cz×α))=some (dP v,c):=by
 rw[wmk h1 h2]
theorem Fs(N:Nat){hi lo:Int}(h0:0≤hi)(h1:hi<9223372036854775808)(l0:0≤lo)(l1:lo<18446744073709551616):rT N false hi lo=some (dP (hi*18446744073709551616+lo),true):=by
 unfold rT rT.b
 rw[c0,aq,fp ω,av,ay ω ω]
 exact R1 ω ω
theorem Ft(N:Nat){hi lo:Int}(h0:0≤hi)(l0:0≤lo)(l1:lo<18446744073709551616)(hm:hi*18446744073709551616+lo≤170141183460469231731687303715884105728):rT N true hi lo=some (dP (-(hi*18446744073709551616+lo)),true):=by
 unfold rT rT.b
 have hj:rT.j7 N hi lo cD=some (dP (-(hi*18446744073709551616+lo)),true):=by
  unfold rT.j7 rT.Vg
  rw[wE N ω ω l0 l1 ω ω,ar]
  by_cases hl:lo=0
  ·subst hl
   rw[ah ω]
   rw[wE N ω ω h0 ω ω ω,ar,iG]
   exact R1 (by split<;>omega) ω
  ·rw[aj ω]
   rw[wE N ω ω h0 ω ω ω,ar,iG]
   exact R1 (by split<;>omega) ω
 rw[bn,av,aP ω,av]
 by_cases he:hi=9223372036854775808
 ·rw[dW he,aq,aP ω,av];exact hj
 ·rw[dX he,av];exact hj
theorem HC{a b:Int}(a0: -9223372036854775808≤a)(a1:a<9223372036854775808)(b0: -9223372036854775808≤b)(b1:b<9223372036854775808):
  0≤(a.natAbs:Int)*b.natAbs∧(a.natAbs:Int)*b.natAbs≤85070591730234615865843651857942052864:=by
 have:=mul_lt (m:=9223372036854775808) (n:=9223372036854775808) (show 0≤(a.natAbs:Int)by omega) (show 0≤(b.natAbs:Int)by omega) ω ω
 omega
theorem Z4(N:Nat){a b:Int}(a0: -9223372036854775808≤a)(a1:a<9223372036854775808)(b0: -9223372036854775808≤b)(b1:b<9223372036854775808):Z5 N a b=some (dP (a*b)):=by
 unfold Z5
 have hm:=HC a0 a1 b0 b1
 simp only[Km N a0 a1,Km N b0 b1,ar,Wt N (show 0≤(a.natAbs:Int)by omega) ω (show 0≤(b.natAbs:Int)by omega) ω,o0]
 obtain⟨m,hme⟩: ∃m,m=(a.natAbs:Int)*b.natAbs:=⟨_,rfl⟩
 rw[←hme]at hm ⊢
 have hd:m/18446744073709551616*18446744073709551616+m%18446744073709551616=m:=ω
 by_cases h1:a<0<;>by_cases h2:b<0
 ·rw[aT h1,aT h2,s8,bn,Fs N ω ω ω ω,ar,hd]
  have:m=a*b:=by rw[hme,show(a.natAbs:Int)= -a from by omega,show(b.natAbs:Int)= -b from by omega,Int.neg_mul_neg]
  rw[this]
 ·rw[aT h1,aP (x:=b) ω,show(!(true==false))=true from rfl,Ft N ω ω ω ω,ar,hd]
  have:m= -(a*b):=by rw[hme,show(a.natAbs:Int)= -a from by omega,show(b.natAbs:Int)=b from by omega,Int.neg_mul]
  rw[this,zH]
 ·rw[aP (x:=a) ω,aT h2,show(!(false==true))=true from rfl,Ft N ω ω ω ω,ar,hd]
  have:m= -(a*b):=by rw[hme,show(a.natAbs:Int)=a from by omega,show(b.natAbs:Int)= -b from by omega,zG]
  rw[this,zH]
 ·rw[aP (x:=a) ω,aP (x:=b) ω,s8,bn,Fs N ω ω ω ω,ar,hd]
  have:m=a*b:=by rw[hme,show(a.natAbs:Int)=a from by omega,show(b.natAbs:Int)=b from by omega]
  rw[this]
theorem Z6(N:Nat){v:Int}(v0: -170141183460469231731687303715884105728≤v)(v1:v<170141183460469231731687303715884105728):F92 N (dP v)=some (BA v):=by
 unfold F92 dP
 rw[aP ω,av]
 dsimp only
 have hw0: -9223372036854775808≤W .i64 (v%18446744073709551616)∧W .i64 (v%18446744073709551616)<9223372036854775808:=by rw[iG];split<;>omega
 rw[uv hw0.1 hw0.2]
 have hwv:W .i64 (v%18446744073709551616)=if 9223372036854775808≤v%18446744073709551616 then v%18446744073709551616-18446744073709551616 else v%18446744073709551616:=by rw[iG];split<;>split<;>omega
 rw[hwv]
 unfold BA
 by_cases h: -9223372036854775808≤v∧v<9223372036854775808
 ·rw[aj h]
  by_cases hn:v<0
  ·rw[aj (show 9223372036854775808≤v%18446744073709551616 by omega),aj ω,dW ω,bn,av]
   congr 2;omega
  ·rw[ah (show ¬9223372036854775808≤v%18446744073709551616 by omega),ah ω,dW ω,bn,av]
   congr 2;omega
 ·rw[ah h]
  by_cases hm:9223372036854775808≤v%18446744073709551616
  ·rw[aj hm,aj ω,dX ω,c0,aq]
  ·rw[ah hm,ah ω,dX ω,c0,aq]
end VM
end
section
namespace VM
open Go
theorem cond_not{α:Type}(b:Bool)(x y:α):cond (!b) x y=cond b y x:=by cases b<;>rfl
theorem cQ{α:Type}(a b:Int)(x y:α):cond (aY a b) x y=if a<b then x else y:=by
 by_cases h:a<b
 ·rw[aT h,aj h];rfl
 ·rw[aP ω,ah h];rfl
theorem cG{α:Type}(a b:Int)(x y:α):cond (dj a b) x y=if a≤b then x else y:=by
 by_cases h:a≤b
 ·rw[fG h,aj h];rfl
 ·rw[fp ω,ah h];rfl
theorem aN{α:Type}(a b:Int)(x y:α):cond (aO a b) x y=if a=b then x else y:=by
 by_cases h:a=b
 ·rw[dW h,aj h];rfl
 ·rw[dX h,ah h];rfl
theorem gg{α:Type}(p:Prop) [Decidable p](x y:α):cond (decide p) x y=if p then x else y:=by
 by_cases h:p
 ·rw[bu h,aj h];rfl
 ·rw[cj h,ah h];rfl
theorem drop_cons{α:Type}{l:List α}{i:Nat}(h:i<l.length)(d:α):l.drop i=l.getD i d::l.drop (i+1):=by
 rw[pS h,aU,bk h];rfl
theorem oe{α σ β:Type}(l:List α)(d:α)(F:Nat→Int→σ→Option β)(g:List α→σ→Option β)(I:Nat→σ→Prop)
  (hs: ∀n i s,i<l.length→I i s→(∀s',I (i+1) s'→F n ((i+1:Nat):Int) s'=g (l.drop (i+1)) s')→F (n+1) (i:Int) s=g (l.getD i d::l.drop (i+1)) s)
  (he: ∀n s,I l.length s→F (n+1) (l.length:Int) s=g [] s): ∀m n i s,l.length-i≤m→m<n→i≤l.length→I i s→F n (i:Int) s=g (l.drop i) s
 |m,0,i,s,_,hn,_,_=>ω
 |m,n+1,i,s,hm,hn,hi,hI=>by
  by_cases h:i<l.length
  ·rw[drop_cons h d]
   exact hs n i s h hI λs' yq=>oe l d F g I hs he (m-1) n (i+1) s' ω ω ω yq
  ·have:i=l.length:=ω
   subst this
   rw[mU];exact he n s hI
theorem Ao{α β:Type}(l:List α)(d:α)(F:Nat→Int→Option β)(g:List α→Option β)
  (hs: ∀n i,i<l.length→F n ((i+1:Nat):Int)=g (l.drop (i+1))→F (n+1) (i:Int)=g (l.getD i d::l.drop (i+1)))
  (he: ∀n,F (n+1) (l.length:Int)=g []) (n:Nat) (hn:l.length<n):F n 0=g l:=by
 have:=oe (σ:=Unit) l d (λn i _=>F n i) (λl _=>g l) (λ_ _=>True) (λn i _ h _ hr=>hs n i h (hr () trivial)) (λn _ _=>he n) l.length n 0 () ω hn ω trivial
 simpa using this
theorem scan{F:Nat→Int→Option Bool}{len:Nat}(P:Nat→Prop) [DecidablePred P]
  (hs: ∀n i r,i<len→(∀j,j<i→P j)→F n ((i+1:Nat):Int)=r→F (n+1) (i:Int)=if P i then r else some false) {e:Bool} (he: ∀n,F (n+1) (len:Int)=some e):
  ∀m n i,len-i≤m→m<n→i≤len→(∀j,j<i→P j)→F n (i:Int)=some (decide (∀j,j<len→i≤j→P j)&&e)
 |m,0,i,_,hn,_,_=>ω
 |m,n+1,i,hm,hn,hi,hp=>by
  by_cases h:i<len
  ·rw[hs n i _ h hp rfl]
   by_cases hP:P i
   ·rw[aj hP,scan P hs he (m-1) n (i+1) ω ω ω (λj hj=>by
     by_cases yN:j=i
     ·subst yN;exact hP
     ·exact hp j ω)]
    congr 2
    rw[oQ]
    refine⟨λhj j h2 h1=> ?_,λhj j h2 h1=>hj j h2 ω⟩
    by_cases yN:j=i
    ·subst yN;exact hP
    ·exact hj j h2 ω
   ·rw[ah hP,cj (λhj=>hP (hj i h (aG i)))];rfl
  ·have:i=len:=ω
   subst this
   rw[he n,bu (λj h2 h1=>absurd h2 ω)];rfl
theorem iq{F:Nat→Int→Option Bool}{len:Nat}(P:Nat→Prop) [DecidablePred P]{e:Bool}
  (hs: ∀n i r,i<len→(∀j,j<i→P j)→F n ((i+1:Nat):Int)=r→F (n+1) (i:Int)=if P i then r else some false) (he: ∀n,F (n+1) (len:Int)=some e) (n:Nat) (hn:len<n):
  F n 0=some (decide (∀j,j<len→P j)&&e):=by
 have:=scan P hs he len n 0 ω hn ω (λj hj=>absurd hj ω)
 rw[show((0:Nat):Int)=0 from rfl]at this
 rw[this]
 congr 2
 rw[oQ]
 exact⟨λh j hj=>h j hj ω,λh j hj _=>h j hj⟩
end VM
end
