/- A part of the proof of WindBears of layer 21: what the functions compute, in plain words. -/
import Derived.Test.YtecmobijochjkaaGreatVm0
import GoSem.Claim
import Derived.Test.YtecmobijochjkaaGreatText
set_option linter.all false
section
namespace VM
open Go
theorem vu(x:Int):W .u64 x=x%18446744073709551616:=by rw[EL];simp[IntKind.wrap,IntKind.bits,IntKind.signed]
theorem dW{x:Int}(h0:0≤x)(h1:x<18446744073709551616):W .u64 x=x:=by rw[vu];omega
theorem iN(x:Int):W .i64 x=if 9223372036854775808≤x%18446744073709551616 then x%18446744073709551616-18446744073709551616 else x%18446744073709551616:=by
 rw[EL];simp[IntKind.wrap,IntKind.bits,IntKind.signed]
theorem ay{x:Int}(h0: -9223372036854775808≤x)(h1:x<9223372036854775808):W .i64 x=x:=by
 rw[iN];split<;>omega
theorem wf_u64{x:Int}:(Lit.int .u64 x).wf=true↔0≤x∧x≤18446744073709551615:=by simp[Lit.wf,IntKind.min,IntKind.max,IntKind.bits,IntKind.signed]
theorem aT{x y:Int}(h:x<y):aZ x y=true:=by rw[uu];exact bs h
theorem aP{x y:Int}(h:y≤x):aZ x y=false:=by rw[uu];exact cm ω
theorem fH{x y:Int}(h:x≤y):dk x y=true:=by rw[oa];exact bs h
theorem fu{x y:Int}(h:y<x):dk x y=false:=by rw[oa];exact cm ω
theorem dP{x y:Int}(h:x=y):aO x y=true:=by rw[jA];exact bs h
theorem dX{x y:Int}(h:x≠y):aO x y=false:=by rw[jA];exact cm h
theorem a6{i:Int}{n:Nat}(h0:0≤i)(h1:i<n):bb i n=true:=by rw[Vr];exact bs ⟨h0,h1⟩
theorem bL{n:Nat}(h:n<68719476736):small n=true:=by rw[EM];exact bs (by simpa [zQ]using h)
theorem cO{l c:Int}(h0:0≤l)(h1:l≤c)(h2:c<68719476736):jZ l c=true:=by rw[H9];exact bs (by simp only[zQ];omega)
theorem dG{l h m n:Int}(h0:0≤l)(h1:l≤h)(h2:h≤m)(h3:m≤n):ka l h m n=true:=by rw[zS];exact bs ⟨h0,h1,h2,h3⟩
theorem ag(n:Nat):(n:Int)+1=((n+1:Nat):Int):=rfl
theorem sF(x:Int)(h0:0≤x)(h1:x<18446744073709551616):(BitVec.ofInt 64 x).toNat=x.toNat:=by
 rw[BitVec.toNat_ofInt];congr 1;omega
theorem M9{x y:Int}(hx:0≤x)(PY:x<18446744073709551616)(hy:0≤y)(hy1:y<18446744073709551616):qS .and .u64 x y=((x.toNat&&& y.toNat:Nat):Int):=by
 rw[uv]
 have h:((BitVec.ofInt 64 x&&& BitVec.ofInt 64 y).toNat)=x.toNat&&& y.toNat:=by rw[BitVec.toNat_and,sF x hx PY,sF y hy hy1]
 show IntKind.u64.wrap (((BitVec.ofInt 64 x&&& BitVec.ofInt 64 y).toNat:Nat):Int)=_
 rw[h,←EL]
 have:x.toNat&&& y.toNat≤x.toNat:=Nat.and_le_left
 exact dW ω ω
theorem RZ{x y:Int}(hx:0≤x)(PY:x<18446744073709551616)(hy:0≤y)(hy1:y<18446744073709551616):qS .or .u64 x y=((x.toNat|||y.toNat:Nat):Int):=by
 rw[uv]
 have h:((BitVec.ofInt 64 x|||BitVec.ofInt 64 y).toNat)=x.toNat|||y.toNat:=by rw[BitVec.toNat_or,sF x hx PY,sF y hy hy1]
 show IntKind.u64.wrap (((BitVec.ofInt 64 x|||BitVec.ofInt 64 y).toNat:Nat):Int)=_
 rw[h,←EL]
 have:x.toNat|||y.toNat<2^64:=Nat.or_lt_two_pow ω ω
 exact dW ω ω
theorem oi{x:Int}(h0:0≤x)(h1:x<18446744073709551616):qS .and .u64 x 4294967295=x%4294967296:=by
 rw[M9 h0 h1 ω ω]
 have:=LM x.toNat 32
 rw[show((4294967295:Int).toNat)=2^32-1 from rfl,this]
 omega
theorem Kp{x y:Int}(h0:0≤y)(h1:y≤64):shr .u64 x y=x/2^y.toNat:=by
 rw[P2]
 have:min y.toNat IntKind.u64.bits=y.toNat:=by simp[IntKind.bits];omega
 rw[this,LP]
 exact_mod_cast bp _
theorem R1(x:Int):shr .u64 x 32=x/4294967296:=by rw[Kp ω ω];rfl
theorem amx(x:Int):shr .u64 x 1=x/2:=by rw[Kp ω ω];rfl
theorem uM{x:Int}(h0: -9223372036854775808≤x)(h1:x<9223372036854775808):shr .i64 x 63=if x<0 then-1 else 0:=by
 rw[P2]
 have:(2:Int)^(min (63:Int).toNat IntKind.i64.bits)=9223372036854775808:=by rfl
 rw[this,LP _ ω]
 split<;>omega
theorem ZX{x y:Int}(h0:0≤y)(h1:y≤64):shl .u64 x y=x*2^y.toNat:=by
 rw[Vs]
 have:min y.toNat IntKind.u64.bits=y.toNat:=by simp[IntKind.bits];omega
 rw[this]
theorem mul_lt{a b m n:Int}(ha:0≤a)(hb:0≤b)(ham:a≤m)(hbn:b≤n):0≤a*b∧a*b≤m*n:=
 ⟨tu ha hb,fI (zs ham hb) (xx hbn ω)⟩
end VM
end
section
namespace VM
open Go VM.F
theorem TL(a b:Int):a*b=(a/4294967296)*(b/4294967296)*18446744073709551616+((a/4294967296)*(b%4294967296)+(a%4294967296)*(b/4294967296))*4294967296+(a%4294967296)*(b%4294967296):=by
 have ha:a=(a/4294967296)*4294967296+a%4294967296:=ω
 have hb:b=(b/4294967296)*4294967296+b%4294967296:=ω
 generalize a/4294967296=a1 at*
 generalize a%4294967296=a0 at*
 generalize b/4294967296=b1 at*
 generalize b%4294967296=b0 at*
 subst ha;subst hb
 simp only[qR,jY]
 have e1:a1*4294967296*(b1*4294967296)=a1*b1*18446744073709551616:=by
  rw[kK,Int.mul_left_comm 4294967296,←kK];rfl
 have e2:a1*4294967296*b0=a1*b0*4294967296:=by rw[kK,jW 4294967296,←kK]
 have e3:a0*(b1*4294967296)=a0*b1*4294967296:=by rw[←kK]
 rw[e1,e2,e3];omega
theorem Wy(N:Nat){a b:Int}(ha:0≤a)(ZY:a<18446744073709551616)(hb:0≤b)(mA:b<18446744073709551616):
  ZZ N a b=some (a*b/18446744073709551616,a*b%18446744073709551616):=by
 unfold ZZ
 have hm:=TL a b
 have h1:=mul_lt (m:=4294967295) (n:=4294967295) (show 0≤a/4294967296 by omega) (show 0≤b/4294967296 by omega) ω ω
 have h2:=mul_lt (m:=4294967295) (n:=4294967295) (show 0≤a/4294967296 by omega) (show 0≤b%4294967296 by omega) ω ω
 have h3:=mul_lt (m:=4294967295) (n:=4294967295) (show 0≤a%4294967296 by omega) (show 0≤b/4294967296 by omega) ω ω
 have h4:=mul_lt (m:=4294967295) (n:=4294967295) (show 0≤a%4294967296 by omega) (show 0≤b%4294967296 by omega) ω ω
 simp only[aP (show(0:Int)≤32 by omega),av,oi ha ZY,oi hb mA,R1]
 generalize a/4294967296=a1 at*
 generalize a%4294967296=a0 at*
 generalize b/4294967296=b1 at*
 generalize b%4294967296=b0 at*
 generalize a*b=ab at*
 generalize a1*b1=p at*
 generalize a1*b0=q at*
 generalize a0*b1=r at*
 generalize a0*b0=s at*
 rw[dW (x:=q) ω ω,dW (x:=s) ω ω,dW (x:=r) ω ω,dW (x:=p) ω ω,dW (x:=q+s/4294967296) ω ω,
  oi ω ω,dW (x:=(q+s/4294967296)%4294967296+r) ω ω,dW (x:=p+(q+s/4294967296)/4294967296) ω ω,dW (x:=p+(q+s/4294967296)/4294967296+_) ω ω,vu]
 congr 2
 omega
end VM
end
section
namespace VM
open Go VM.F
theorem Kq(N:Nat){x:Int}(h0: -9223372036854775808≤x)(h1:x<9223372036854775808):TM N x=some (x.natAbs:Int):=by
 unfold TM
 by_cases h:x<0
 ·rw[aT h,aq,vu,vu];congr 1;omega
 ·rw[aP ω,av,vu];congr 1;omega
theorem Na(N:Nat){x y c:Int}(hx:0≤x)(hy:0≤y)(hc:0≤c)(LA:c≤1):yA N x y c=some ((x+y+c)%18446744073709551616,(x+y+c)/18446744073709551616):=by
 unfold yA;rw[aj ⟨hx,hy,hc,LA⟩]
theorem wO(N:Nat){x y c:Int}(hx:0≤x)(PY:x<18446744073709551616)(hy:0≤y)(hy1:y<18446744073709551616)(hc:0≤c)(LA:c≤1):
  vn N x y c=some ((x-y-c)%18446744073709551616,if x<y+c then 1 else 0):=by
 unfold vn;rw[aj ⟨hx,PY,hy,hy1,hc,LA⟩];congr 2;omega
end VM
end
section
namespace VM
open Go VM.F
structure wP(Y rY Fv gr Fw q rh:Int):Prop where
 hY:Y=rY*4294967296+Fv
 y1:2147483648≤rY
 y1':rY<4294967296
 y0:0≤Fv
 y0':Fv<4294967296
 u1:0≤Fw
 u1':Fw<4294967296
 lt:gr<Y
 q0:0≤q
 eq:q*rY+rh=gr
 r0:0≤rh
 q1:q≤4294967297
 ge:(gr*4294967296+Fw)/Y≤q
theorem wP.prod{Y rY Fv gr Fw q rh:Int}(g:wP Y rY Fv gr Fw q rh):q*Y=(gr-rh)*4294967296+q*Fv∧0≤q*Fv∧q*Fv≤18446744073709551615:=by
 have h:=mul_lt (m:=4294967297) (n:=4294967295) g.q0 g.y0 g.q1 (by have:=g.y0';omega)
 refine⟨?_,h.1,ω⟩
 rw[g.hY,jY,←kK,show q*rY=gr-rh from by have:=g.eq;omega]
theorem wP.pos{Y rY Fv gr Fw q rh:Int}(g:wP Y rY Fv gr Fw q rh):0<Y:=by have:=g.hY;have:=g.y1;have:=g.y0;omega
theorem wP.digit{Y rY Fv gr Fw q rh:Int}(g:wP Y rY Fv gr Fw q rh)(h:0≤gr):0≤(gr*4294967296+Fw)/Y∧(gr*4294967296+Fw)/Y<4294967296:=by
 have hp:=g.pos
 have:=g.u1;have:=g.u1';have:=g.lt
 refine⟨tq ω ω,?_⟩
 rw[zy hp];omega
theorem wP.next{Y rY Fv gr Fw q rh:Int}(g:wP Y rY Fv gr Fw q rh)(hu:0≤gr)(h:4294967296≤q∨4294967296*rh+Fw<q*Fv):wP Y rY Fv gr Fw (q-1) (rh+rY)∧1≤q:=by
 have hp:=g.pos
 have h1:=g.prod.1
 have hd:=g.digit hu
 have fb:(gr*4294967296+Fw)/Y<q:=by
  rcases h with h|h
  ·omega
  ·rw[zy hp];omega
 have:=g.q1;have:=g.r0;have:=g.y1
 exact⟨⟨g.hY,g.y1,g.y1',g.y0,g.y0',g.u1,g.u1',g.lt,ω,by rw[Int.sub_mul,zL];have:=g.eq;omega,ω,ω,ω⟩,ω⟩
theorem wP.first{Y rY Fv gr Fw:Int}(hY:Y=rY*4294967296+Fv)(y1:2147483648≤rY)(y1':rY<4294967296)(y0:0≤Fv)(y0':Fv<4294967296)(u1:0≤Fw)(u1':Fw<4294967296)(hu:0≤gr)(lt:gr<Y):
  wP Y rY Fv gr Fw (gr/rY) (gr-gr/rY*rY)∧gr-gr/rY*rY<4294967296∧0≤gr/rY*rY∧gr/rY*rY≤gr:=by
 have h1:=Ma gr rY
 have h2:=zB gr (show 0<rY by omega)
 have h3:=EC gr (show rY≠0 by omega)
 have xD:0≤gr/rY:=tq hu ω
 rw[jW]at h1
 have hq1:gr/rY≤4294967297:=by
  have:gr/rY<4294967298:=by rw[zy ω];omega
  omega
 have Y6:(gr*4294967296+Fw)/Y≤gr/rY:=by
  have fb:gr*4294967296+Fw<(gr/rY+1)*Y:=by
   have e:gr+1≤(gr/rY+1)*rY:=by rw[qR,zL];omega
   have e2:(gr/rY+1)*Y=(gr/rY+1)*rY*4294967296+(gr/rY+1)*Fv:=by rw[hY,jY,kK]
   have e3:0≤(gr/rY+1)*Fv:=tu ω y0
   omega
  have:(gr*4294967296+Fw)/Y<gr/rY+1:=by rw[zy ω];exact fb
  omega
 exact⟨⟨hY,y1,y1',y0,y0',u1,u1',lt,xD,ω,ω,hq1,Y6⟩,ω,tu xD ω,ω⟩
end VM
end
section
namespace VM
open Go VM.F
def c4:List Int→Int
 |[]=>0
 |d::r=>d+4294967296*c4 r
def VD(l:List Int):Prop:= ∀d∈l,0≤d∧d<4294967296
def lC(n:Nat):List Int:=if n=0 then []else((n%4294967296:Nat):Int)::lC (n/4294967296)
termination_by n
decreasing_by omega
theorem kg:lC 0=[]:=by rw[lC];rfl
theorem xH{n:Nat}(h:n≠0):lC n=((n%4294967296:Nat):Int)::lC (n/4294967296):=by rw[lC];simp[h]
theorem VD.nil:VD []:=λd h=>by cases h
theorem VD.cons{d:Int}{l:List Int}(h0:0≤d)(h1:d<4294967296)(h:VD l):VD (d::l):=λx hx=>by
 rcases aX.1 hx with rfl|hx
 ·exact⟨h0,h1⟩
 ·exact h x hx
theorem VD.tail{d:Int}{l:List Int}(h:VD (d::l)):VD l:=λx hx=>h x (aY _ hx)
theorem VD.append{a b:List Int}(h:VD a)(k:VD b):VD (a++b):=λx hx=>(ba.1 hx).elim (h x) (k x)
theorem VD.drop{l:List Int}(h:VD l)(n:Nat):VD (l.drop n):=λx hx=>h x (mX hx)
theorem VD.take{l:List Int}(h:VD l)(n:Nat):VD (l.take n):=λx hx=>h x (lP hx)
theorem VD.getD{l:List Int}(h:VD l)(n:Nat):0≤l.getD n 0∧l.getD n 0<4294967296:=by
 rw[aU]
 cases hn:l[n]? with
 |none=>exact⟨fJ _,δ⟩
 |some x=>exact h x (List.mem_of_getElem? hn)
theorem VD.set{l:List Int}(h:VD l)(n:Nat){x:Int}(h0:0≤x)(h1:x<4294967296):VD (l.set n x):=λy hy=>by
 rcases xy hy with hy|rfl
 ·exact h y hy
 ·exact⟨h0,h1⟩
theorem VD.afY(n:Nat):VD (List.replicate n 0):=λx hx=>by rw[zv hx];exact⟨fJ _,δ⟩
theorem ki: ∀{l:List Int},VD l→0≤c4 l
 |[],_=>fJ _
 |d::r,h=>by
  have:=ki h.tail
  have:=(h d (bg ..)).1
  simp only[c4];omega
theorem g4(n:Nat):c4 (lC n)=n:=by
 induction n using Nat.strongRecOn with
 |_ n ih=>
  by_cases h:n=0
  ·subst h;rw[kg];rfl
  ·rw[xH h,c4,ih _ ω];omega
theorem kj(n:Nat):VD (lC n):=by
 induction n using Nat.strongRecOn with
 |_ n ih=>
  by_cases h:n=0
  ·subst h;rw[kg];exact VD.nil
  ·rw[xH h];exact VD.cons ω ω (ih _ ω)
theorem Ap{n:Nat}:lC n=[]↔n=0:=by
 constructor
 ·intro h
  by_cases hn:n=0
  ·exact hn
  ·rw[xH hn]at h;cases h
 ·rintro rfl;exact kg
theorem xI(k:Nat): ∀n,n<4294967296^k→(lC n).length≤k:=by
 induction k with
 |zero=>
  intro n h;have:n=0:=by simpa using h
  subst this;rw[kg];simp
 |succ k ih=>
  intro n h
  by_cases hn:n=0
  ·subst hn;rw[kg];simp
  ·rw[xH hn,aR]
   have:=ih (n/4294967296) (by rw[Mb ω];rw[zI]at h;exact h)
   omega
theorem Kr(k:Nat): ∀n,(lC n).length≤k→n<4294967296^k:=by
 induction k with
 |zero=>
  intro n h
  have:lC n=[]:=uk ω
  rw[Ap]at this;subst this;decide
 |succ k ih=>
  intro n h
  by_cases hn:n=0
  ·subst hn;exact Nat.pow_pos δ
  ·rw[xH hn,aR]at h
   have:=ih (n/4294967296) ω
   rw[Mb ω]at this
   rw[zI];exact this
def strip:List Int→List Int
 |[]=>[]
 |d::r=>if strip r=[]∧d=0 then []else d::strip r
theorem Nb: ∀{l:List Int},VD l→strip l=lC (c4 l).toNat
 |[],_=>by rw[show(c4 []).toNat=0 from rfl,kg];rfl
 |d::r,h=>by
  have ih:=Nb h.tail
  have h0:=ki h.tail
  obtain⟨h1,h2⟩:=h d (bg ..)
  simp only[strip,c4,ih,Ap]
  split
  ·rename_i hc
   obtain⟨hc,rfl⟩:=hc
   have:c4 r=0:=ω
   rw[this];exact kg.symm
  ·rename_i hc
   have jB:(d+4294967296*c4 r).toNat≠0:=λhe=>hc ⟨ω,ω⟩
   rw[xH jB]
   congr 1
   ·omega
   ·congr 1;omega
theorem Fy: ∀(l:List Int) (x:Int),strip (l++[x])=if x=0 then strip l else l++[x]
 |[],x=>by simp[strip]
 |d::r,x=>by
  simp only[kJ,strip,Fy r x]
  split
  ·rfl
  ·simp
theorem ij(l:List Int){k:Nat}(h:k<l.length):l.take (k+1)=l.take k++[l.getD k 0]:=by
 rw[List.take_succ_eq_append_getElem h,aU,bl h];rfl
theorem Iz(N:Nat)(l:List Int)(hl:l.length<68719476736): ∀(k n:Nat),k≤l.length→k<n→oj.l2 N n l (k:Int)=some (strip (l.take k))
 |0,n+1,_,_=>by
  unfold oj.l2 oj.gJ
  simp (disch:=omega) only[aT,aP,fH,fu,dP,dX,a6,bL,cO,dG,ay,dW,aq,av,bt,c3,ar,aJ,dr,ag,aS,aI,bO,cU,aR,bT]
  simp[strip]
 |k+1,n+1,hk,hn=>by
  unfold oj.l2 oj.gJ
  have e:((k+1:Nat):Int)-1=(k:Int):=ω
  simp (disch:=omega) only[aT,aP,fH,fu,dP,dX,a6,bL,cO,dG,ay,dW,aq,av,bt,c3,ar,aJ,dr,ag,aS,aI,bO,cU,aR,bT,e]
  have ih:=Iz N l hl k n ω ω
  rw[ij l ω,Fy]
  by_cases h:l.getD k 0=0
  ·rw[dP h,aq,ih,aj h]
  ·rw[dX h,av,ah h]
   simp only[dr,c0]
theorem Ks(N:Nat){l:List Int}(h:VD l)(hN:l.length<N)(hl:l.length<68719476736):oj N l=some (lC (c4 l).toNat):=by
 unfold oj oj.b
 rw[Iz N l hl l.length N (aG _) hN,iD,Nb h]
def cP(v:Int):aH:=(decide (v<0),(lC v.natAbs,()))
theorem sG(N:Nat)(neg:Bool){l:List Int}(h:VD l)(hN:l.length<N)(hl:l.length<68719476736):Wz N neg l=some (cP (if neg then-c4 l else c4 l)):=by
 unfold Wz
 rw[Ks N h hN hl,ar]
 have h0:=ki h
 cases neg
 ·simp only[av,cP,jc,eU]
  rw[cm ω]
  congr 4;omega
 ·simp only[aq,cP,gD]
  have e:(-c4 l).natAbs=(c4 l).toNat:=ω
  rw[e]
  congr 2
  by_cases hz:c4 l=0
  ·rw[hz,dr,kg,aP (by simp),cm ω]
  ·have:0<(lC (c4 l).toNat).length:=by
    apply su.2
    intro hd;rw[Ap]at hd;omega
   rw[aT ω,bs ω]
theorem size_eq(N:Nat)(hN:1000≤N){u:Int}(h0:0≤u)(h1:u<18446744073709551616):F83 N u=some (lC u.toNat):=by
 unfold F83
 rw[oi h0 h1,R1]
 have hv:VD [u%4294967296,u/4294967296]:=VD.cons ω ω (VD.cons ω ω VD.nil)
 simp (disch:=omega) only[aT,aP,fH,fu,dP,dX,a6,bL,cO,dG,ay,dW,aq,av,bt,c3,ar,aJ,dr,ag,aS,aI,bO,cU,aR,bT,Ks N hv (by simp;omega) (by simp)]
 congr 2
 simp only[c4];omega
theorem cv(N:Nat)(hN:1000≤N){x:Int}(h0: -9223372036854775808≤x)(h1:x<9223372036854775808):iG N x=some (cP x):=by
 unfold iG
 have hd: ∀n:Nat,n<18446744073709551616→(lC n).length≤2:=λn h=>xI 2 n (by simpa using h)
 by_cases h:x<0
 ·have e:W .u64 (0-W .u64 x)= -x:=by rw[vu,vu];omega
  simp only[aT h,aq,e,size_eq N hN (show 0≤ -x by omega) ω,ar]
  have:=hd (-x).toNat ω
  rw[sG N true (kj _) ω ω,g4,aj rfl,show-(((-x).toNat:Nat):Int)=x from by omega];rfl
 ·have e:W .u64 x=x:=dW ω ω
  simp only[aP (show 0≤x by omega),av,e,size_eq N hN (show 0≤x by omega) ω,ar]
  have:=hd x.toNat ω
  rw[sG N false (kj _) ω ω,g4,ah qH,ti ω];rfl
theorem wQ(N:Nat)(l:List Int)(i:Nat):Z0 N l (i:Int)=some (l.getD i 0):=by
 unfold Z0
 by_cases h:i<l.length
 ·simp (disch:=omega) only[aT,aP,fH,fu,dP,dX,a6,bL,cO,dG,ay,dW,aq,av,bt,c3,ar,aJ,dr,ag,aS,aI,bO,cU,aR,bT]
 ·simp (disch:=omega) only[aT,aP,fH,fu,dP,dX,a6,bL,cO,dG,ay,dW,aq,av,bt,c3,ar,aJ,dr,ag,aS,aI,bO,cU,aR,bT]
  rw[aU,gI ω];rfl
theorem kP(l:List Int)(i:Nat):c4 (l.drop i)=l.getD i 0+4294967296*c4 (l.drop (i+1)):=by
 by_cases h:i<l.length
 ·rw[pW h,c4,aU,bl h];rfl
 ·rw[kI ω,kI ω,aU,gI ω];rfl
theorem Nc(N:Nat){a b:List Int}(ha:VD a)(hb:VD b)(yZ:a.length≤1000000)(PW:b.length≤1000000): ∀(m n i:Nat) (out:List Int) (c:Int),a.length+b.length+2-i≤m→m<n→out.length=i→i≤a.length+b.length+1→0≤c→c≤1→(a.length≤i→b.length≤i→i=max a.length b.length∨c=0)→
  ∃r,vv.l4 N n a b out c (i:Int)=some (out++r)∧VD r∧c4 r=c4 (a.drop i)+c4 (b.drop i)+c∧r.length≤m
 |m,0,i,out,c,_,hn,_,_,_,_,_=>ω
 |m,n+1,i,out,c,hm,hn,ho,hi,Vc,LA,hz=>by
  unfold vv.l4 vv.eK
  by_cases Nd:a.length≤i∧b.length≤i∧c=0
  ·obtain⟨h1,h2,rfl⟩:=Nd
   simp (disch:=omega) only[aT,aP,fH,fu,dP,dX,a6,bL,cO,dG,ay,dW,aq,av,bt,c3,ar,aJ,dr,ag,aS,aI,bO,cU,aR,bT]
   exact⟨[],by simp,VD.nil,by rw[kI h1,kI h2];rfl,bp _⟩
  ·obtain⟨ga0,ga1⟩:=ha.getD i
   obtain⟨gb0,gb1⟩:=hb.getD i
   have step: ∃r,vv.j6 N (vv.l4 N n) a b out c (i:Int)=some (out++r)∧VD r∧c4 r=c4 (a.drop i)+c4 (b.drop i)+c∧r.length≤m:=by
    unfold vv.j6 vv.TN
    have Hp:i≤a.length+b.length:=by
     by_cases h1:a.length≤i∧b.length≤i
     ·rcases hz h1.1 h1.2 with h|h
      ·omega
      ·exact absurd ⟨h1.1,h1.2,h⟩ Nd
     ·omega
    simp only[wQ,ar]
    generalize hga:a.getD i 0=x at*
    generalize hgb:b.getD i 0=y at*
    rw[dW (x:=x+y) ω ω,dW (x:=c+(x+y)) ω ω,oi ω ω,R1]
    simp (disch:=omega) only[aT,aP,fH,fu,dP,dX,a6,bL,cO,dG,ay,dW,aq,av,bt,c3,ar,aJ,dr,ag,aS,aI,bO,cU,aR,bT]
    obtain⟨r,hr,hv,hs,Ig⟩:=Nc N ha hb yZ PW (m-1) n (i+1) (out++[(c+(x+y))%4294967296]) ((c+(x+y))/4294967296) ω ω (by simp[ho]) ω ω ω (λh1 h2=>by
     by_cases h3:a.length≤i∧b.length≤i
     ·right
      rw[←hga,←hgb,aU,gI h3.1,aU,gI h3.2]
      simp only[Option.getD_none];omega
     ·left;omega)
    refine⟨(c+(x+y))%4294967296::r,by rw[hr];simp,VD.cons ω ω hv,?_,by rw[aR];omega⟩
    rw[c4,hs,kP a i,kP b i,hga,hgb];omega
   by_cases h1:i<a.length
   ·simp (disch:=omega) only[aT,aq];exact step
   ·by_cases h2:i<b.length
    ·simp (disch:=omega) only[aT,aP,aq,av];exact step
    ·have:0<c:=ω
     simp (disch:=omega) only[aT,aP,aq,av];exact step
theorem R2: ∀{l:List Int},VD l→c4 l<4294967296^l.length
 |[],_=>by simp[c4]
 |d::r,h=>by
  have ih:=R2 h.tail
  obtain⟨h1,h2⟩:=h d (bg ..)
  rw[c4,aR,zJ]
  generalize (4294967296:Int)^r.length=p at*
  omega
theorem Nf(N:Nat)(hN:4000000≤N){a b:List Int}(ha:VD a)(hb:VD b)(yZ:a.length≤1000000)(PW:b.length≤1000000): ∃r,vv N a b=some r∧VD r∧c4 r=c4 a+c4 b∧r.length≤2000002:=by
 unfold vv vv.b
 obtain⟨r,hr,hv,hs,hl⟩:=Nc N ha hb yZ PW (a.length+b.length+2) N 0 [] 0 ω ω rfl ω ω ω (λ_ _=> .inr rfl)
 exact⟨r,hr,hv,by simpa using hs,ω⟩
theorem FA(N:Nat){a b:List Int}(ha:VD a)(hb:VD b)(yZ:a.length≤1000000): ∀(m n i:Nat) (out:List Int) (c:Int),a.length-i≤m→m<n→out.length=i→i≤a.length→0≤c→c≤1→0≤c4 (a.drop i)-c4 (b.drop i)-c→
  ∃r,D0.l4 N n a b out c (i:Int)=some (out++r)∧VD r∧c4 r=c4 (a.drop i)-c4 (b.drop i)-c∧r.length≤m
 |m,0,i,out,c,_,hn,_,_,_,_,_=>ω
 |m,n+1,i,out,c,hm,hn,ho,hi,Vc,LA,hz=>by
  unfold D0.l4 D0.eK
  by_cases h1:i<a.length
  ·obtain⟨ga0,ga1⟩:=ha.getD i
   obtain⟨gb0,gb1⟩:=hb.getD i
   rw[kP a i,kP b i]at*
   simp only[wQ,ar,aJ]
   generalize hga:a.getD i 0=x at*
   generalize hgb:b.getD i 0=y at*
   rw[dW (x:=y+c) ω ω,dW (x:=x+4294967296) ω ω]
   by_cases fb:x<y+c
   ·rw[dW (x:=x+4294967296-(y+c)) ω ω]
    simp (disch:=omega) only[aT,aP,fH,fu,dP,dX,a6,bL,cO,dG,ay,dW,aq,av,bt,c3,ar,aJ,dr,ag,aS,aI,bO,cU,aR,bT,hga,hgb]
    obtain⟨r,hr,hv,hs,Ig⟩:=FA N ha hb yZ (m-1) n (i+1) (out++[x+4294967296-(y+c)]) 1 ω ω (by simp[ho]) ω ω ω ω
    refine⟨(x+4294967296-(y+c))::r,by rw[hr];simp,VD.cons ω ω hv,by rw[c4,hs];omega,by rw[aR];omega⟩
   ·rw[dW (x:=x-(y+c)) ω ω]
    simp (disch:=omega) only[aT,aP,fH,fu,dP,dX,a6,bL,cO,dG,ay,dW,aq,av,bt,c3,ar,aJ,dr,ag,aS,aI,bO,cU,aR,bT,hga,hgb]
    obtain⟨r,hr,hv,hs,Ig⟩:=FA N ha hb yZ (m-1) n (i+1) (out++[x-(y+c)]) 0 ω ω (by simp[ho]) ω ω ω ω
    refine⟨(x-(y+c))::r,by rw[hr];simp,VD.cons ω ω hv,by rw[c4,hs];omega,by rw[aR];omega⟩
  ·simp (disch:=omega) only[aT,aP,fH,fu,dP,dX,a6,bL,cO,dG,ay,dW,aq,av,bt,c3,ar,aJ,dr,ag,aS,aI,bO,cU,aR,bT]
   have h0:=ki (hb.drop i)
   rw[kI (l:=a) ω]at hz ⊢
   simp only[c4]at hz ⊢
   exact⟨[],by simp,VD.nil,by simp only[c4];omega,bp _⟩
theorem CJ(N:Nat)(hN:4000000≤N){a b:List Int}(ha:VD a)(hb:VD b)(yZ:a.length≤1000000)(h:c4 b≤c4 a): ∃r,D0 N a b=some r∧VD r∧c4 r=c4 a-c4 b∧r.length≤1000000:=by
 unfold D0 D0.b
 obtain⟨r,hr,hv,hs,hl⟩:=FA N ha hb yZ a.length N 0 [] 0 ω ω rfl ω ω ω (by simp;omega)
 exact⟨r,hr,hv,by simpa using hs,ω⟩
theorem qx: ∀(l:List Int) (x:Int),c4 (l++[x])=c4 l+4294967296^l.length*x
 |[],x=>by simp[c4]
 |d::r,x=>by
  rw[kJ,c4,qx r x,c4,aR,zJ,jW _ 4294967296,kK,jY];omega
theorem Ng{a b:List Int}(ha:VD a)(hb:VD b){k:Nat}(h1:k<a.length)(h2:k<b.length)(fb:a.getD k 0<b.getD k 0):c4 (a.take (k+1))<c4 (b.take (k+1)):=by
 rw[ij a h1,ij b h2,qx,qx]
 have l1:(a.take k).length=k:=by rw[cf];omega
 have l2:(b.take k).length=k:=by rw[cf];omega
 have v1:=R2 (ha.take k)
 have v2:=ki (hb.take k)
 rw[l1]at*
 rw[l2]
 generalize (4294967296:Int)^k=p at*
 have hp:0<p:=by have:=ki (ha.take k);omega
 have:=xx (show a.getD k 0+1≤b.getD k 0 by omega) (Int.le_of_lt hp)
 rw[jY,Int.mul_one]at this
 omega
def vw(x:Int):Int:=if x<0 then-1 else if 0<x then 1 else 0
theorem Nh(N:Nat){a b:List Int}(ha:VD a)(hb:VD b)(hl:a.length=b.length)(yZ:a.length≤1000000): ∀(k n:Nat),k≤a.length→k<n→Dz.l6 N n a b ((k:Int)-1)=some (vw (c4 (a.take k)-c4 (b.take k)))
 |k,0,_,hn=>ω
 |0,n+1,_,_=>by
  unfold Dz.l6 Dz.uN
  simp (disch:=omega) only[aT,aP,fH,fu,dP,dX,a6,bL,cO,dG,ay,dW,aq,av,bt,c3,ar,aJ,dr,ag,aS,aI,bO,cU,aR,bT]
  simp[vw,c4]
 |k+1,n+1,hk,hn=>by
  unfold Dz.l6 Dz.uN
  have e:((k+1:Nat):Int)-1=(k:Int):=ω
  rw[e]
  simp (disch:=omega) only[aT,aP,fH,fu,dP,dX,a6,bL,cO,dG,ay,dW,aq,av,bt,c3,ar,aJ,dr,ag,aS,aI,bO,cU,aR,bT]
  by_cases h1:a.getD k 0<b.getD k 0
  ·rw[aT h1,aq]
   have:=Ng ha hb (k:=k) ω ω h1
   rw[vw,aj ω]
  ·rw[aP ω,av]
   by_cases h2:b.getD k 0<a.getD k 0
   ·rw[aT h2,aq]
    have:=Ng hb ha (k:=k) ω ω h2
    rw[vw,ah ω,aj ω]
   ·rw[aP ω,av,Nh N ha hb hl yZ k n ω ω]
    congr 2
    rw[ij a ω,ij b ω,qx,qx,show a.getD k 0=b.getD k 0 from by omega,cf,cf,hl]
    omega
theorem Ni(N:Nat)(hN:4000000≤N)(m k:Nat)(hm:(lC m).length≤1000000)(hk:(lC k).length≤1000000):Dz N (lC m) (lC k)=some (vw ((m:Int)-k)):=by
 unfold Dz Dz.b
 by_cases h:(lC m).length=(lC k).length
 ·simp (disch:=omega) only[aT,aP,fH,fu,dP,dX,a6,bL,cO,dG,ay,dW,aq,av,bt,c3,ar,aJ,dr,ag,aS,aI,bO,cU,aR,bT]
  rw[Nh N (kj m) (kj k) h hm (lC m).length N (aG _) ω,iD,h,iD,g4,g4]
 ·rw[dX ω,c3,aq]
  by_cases fb:(lC m).length<(lC k).length
  ·rw[aT ω,aq]
   have h1:=Kr ((lC k).length-1) m ω
   have h2: ¬(k<4294967296^((lC k).length-1)):=λh=>by have:=xI _ _ h;omega
   rw[vw,aj ω]
  ·rw[aP ω,av]
   have h1:=Kr ((lC m).length-1) k ω
   have h2: ¬(m<4294967296^((lC m).length-1)):=λh=>by have:=xI _ _ h;omega
   rw[vw,ah ω,aj ω]
end VM
end
section
namespace VM
open Go VM.F
def Fit(v:Int)(k:Nat):Prop:=v.natAbs<4294967296^k
theorem Fit.len{v:Int}{k:Nat}(h:Fit v k):(lC v.natAbs).length≤k:=xI k _ h
theorem Fit.mono{v:Int}{j k:Nat}(h:Fit v j)(hjk:j≤k):Fit v k:=mY h (Nat.pow_le_pow_right δ hjk)
theorem Fit.neg{v:Int}{k:Nat}(h:Fit v k):Fit (-v) k:=by unfold Fit at*;rwa [Int.natAbs_neg]
theorem Fit.i64{v:Int}(h0: -9223372036854775808≤v)(h1:v<9223372036854775808):Fit v 2:=by
 unfold Fit
 rw[show(4294967296:Nat)^2=18446744073709551616 from by decide];omega
theorem Fit.add{u v:Int}{k:Nat}(hu:Fit u k)(hv:Fit v k):Fit (u+v) (k+1):=by
 unfold Fit at*
 rw[zI]
 have:(u+v).natAbs≤u.natAbs+v.natAbs:=Int.natAbs_add_le u v
 generalize 4294967296^k=p at*
 omega
theorem Fit.mul{u v:Int}{j k:Nat}(hu:Fit u j)(hv:Fit v k):Fit (u*v) (j+k):=by
 unfold Fit at*
 rw[Int.natAbs_mul,Nat.pow_add]
 exact Nat.mul_lt_mul'' hu hv
theorem Fit.of_le{u v:Int}{k:Nat}(hv:Fit v k)(h:u.natAbs≤v.natAbs):Fit u k:=Nat.lt_of_le_of_lt h hv
theorem o6(a b:Bool):uw .bool a b=(a==b):=by simp[uw]
theorem g5(N:Nat)(hN:4000000≤N){u v:Int}(hu:Fit u 900000)(hv:Fit v 900000):xJ N (cP u) (cP v)=some (cP (u+v)):=by
 have lu:=hu.len
 have lv:=hv.len
 unfold xJ
 simp only[cP,o6]
 by_cases hs:decide (u<0)=decide (v<0)
 ·rw[hs,tk,aq]
  obtain⟨r,hr,hvd,Ka,hl⟩:=Nf N hN (kj u.natAbs) (kj v.natAbs) ω ω
  simp only[hr,ar,sG N _ hvd ω ω,Ka,g4]
  congr 1
  show cP _=cP _
  congr 1
  by_cases h:v<0
  ·have:u<0:=by simpa [h]using hs
   rw[aj (bs h)];omega
  ·have: ¬u<0:=by simpa [h]using hs
   rw[ah (by simpa using h)];omega
 ·have hb:(decide (u<0)==decide (v<0))=false:=by simpa using hs
  rw[hb,av,Ni N hN _ _ ω ω,ar]
  by_cases hc:v.natAbs≤u.natAbs
  ·have h1:dk 0 (vw ((u.natAbs:Int)-v.natAbs))=true:=fH (by unfold vw;split<;>(try split)<;>omega)
   obtain⟨r,hr,hvd,Ka,hl⟩:=CJ N hN (kj u.natAbs) (kj v.natAbs) ω (by rw[g4,g4];omega)
   simp only[h1,aq,hr,ar,sG N _ hvd ω ω,Ka,g4]
   congr 1
   show cP _=cP _
   congr 1
   by_cases h:u<0
   ·have: ¬v<0:=λhv=>hs (by simp[h,hv])
    rw[aj (bs h)];omega
   ·have:v<0:=LW λhv=>hs (by simp[h,hv])
    rw[ah (by simpa using h)];omega
  ·have h1:dk 0 (vw ((u.natAbs:Int)-v.natAbs))=false:=fu (by unfold vw;rw[aj ω];omega)
   obtain⟨r,hr,hvd,Ka,hl⟩:=CJ N hN (kj v.natAbs) (kj u.natAbs) ω (by rw[g4,g4];omega)
   simp only[h1,av,hr,ar,sG N _ hvd ω ω,Ka,g4]
   congr 1
   show cP _=cP _
   congr 1
   by_cases h:v<0
   ·have: ¬u<0:=λhu=>hs (by simp[h,hu])
    rw[aj (bs h)];omega
   ·have:u<0:=LW λhu=>hs (by simp[h,hu])
    rw[ah (by simpa using h)];omega
theorem jz(N:Nat)(hN:4000000≤N){u:Int}(hu:Fit u 900000):TO N (cP u)=some (cP (-u)):=by
 have lu:=hu.len
 unfold TO
 simp only[cP]
 simp only[sG N _ (kj u.natAbs) ω ω,ar,g4]
 congr 1
 show cP _=cP _
 congr 1
 by_cases h:u<0
 ·rw[bs h,bt,ah qH];omega
 ·rw[cm h,c3,aj rfl];omega
theorem Aq(N:Nat)(hN:4000000≤N){u:Int}(hu:Fit u 900000):Vj N (cP u)=some (cP u.natAbs):=by
 have lu:=hu.len
 unfold Vj
 simp only[cP]
 simp only[sG N _ (kj u.natAbs) ω ω,ar,g4,jc,eU]
 rfl
theorem sH(N:Nat)(hN:4000000≤N){u v:Int}(hu:Fit u 900000)(hv:Fit v 900000):Nj N (cP u) (cP v)=some (cP (u-v)):=by
 unfold Nj
 simp only[jz N hN hv,ar,g5 N hN hu hv.neg,Eu]
theorem p7(N:Nat)(u:Int):R3 N (cP u)=some (vw u):=by
 unfold R3
 simp only[cP]
 by_cases h:u=0
 ·subst h
  rw[show(0:Int).natAbs=0 from rfl,kg]
  simp (disch:=omega) only[aT,aP,fH,fu,dP,dX,a6,bL,cO,dG,ay,dW,aq,av,bt,c3,ar,aJ,dr,ag,aS,aI,bO,cU,aR,bT]
  rfl
 ·have:0<(lC u.natAbs).length:=by
   apply su.2
   intro hd;rw[Ap]at hd;omega
  rw[dX ω,av]
  by_cases hn:u<0
  ·rw[bs hn,aq,vw,aj hn]
  ·rw[cm hn,av,vw,ah hn,aj ω]
theorem BF(N:Nat)(hN:4000000≤N){u v:Int}(hu:Fit u 900000)(hv:Fit v 900000):Kt N (cP u) (cP v)=some (vw (u-v)):=by
 unfold Kt
 simp only[sH N hN hu hv,ar,p7]
theorem R4(l:List Int)(h: ∀x∈l,-9223372036854775808≤x∧x<9223372036854775808): -(9223372036854775808*l.length)≤l.sum∧l.sum≤9223372036854775808*l.length:=by
 induction l with
 |nil=>simp
 |cons x l ih=>
  have:=ih (λy hy=>h y (aY _ hy))
  obtain⟨h1,h2⟩:=h x (bg ..)
  rw[cz,aR]
  omega
theorem Ar{v:Int}{n:Nat}(hn:n≤1000000)(h0: -(9223372036854775808*n)≤v)(h1:v≤9223372036854775808*n):Fit v 3:=by
 unfold Fit
 rw[show(4294967296:Nat)^3=79228162514264337593543950336 from by decide]
 omega
theorem tN{l:List Int}(h: ∀x∈l,-9223372036854775808≤x∧x<9223372036854775808)(i:Nat): -9223372036854775808≤l.getD i 0∧l.getD i 0<9223372036854775808:=by
 rw[aU]
 cases hn:l[i]? with
 |none=>exact⟨δ,δ⟩
 |some x=>exact h x (List.mem_of_getElem? hn)
theorem lD(l:List Int){i:Nat}(h:i<l.length):(l.take (i+1)).sum=(l.take i).sum+l.getD i 0:=by
 rw[ij l h];simp
theorem As(N:Nat)(hN:4000000≤N){l:List Int}(h: ∀x∈l,-9223372036854775808≤x∧x<9223372036854775808)(hl:l.length≤1000000): ∀(m n i:Nat) (z:aH),l.length-i≤m→m<n→i≤l.length→
  pD.l3 N n l z (cP (l.take i).sum) (i:Int)=some (cP l.sum)
 |m,0,i,z,_,hn,_=>ω
 |m,n+1,i,z,hm,hn,hi=>by
  unfold pD.l3 pD.nT
  by_cases h1:i<l.length
  ·obtain⟨g0,g1⟩:=tN h i
   have f1:=R4 (l.take i) (λx hx=>h x (lP hx))
   rw[cf,iE ω]at f1
   have f2:Fit (l.take i).sum 900000:=(Ar (n:=i) ω f1.1 f1.2).mono ω
   have f3:Fit (l.getD i 0) 900000:=(Fit.i64 g0 g1).mono ω
   simp (disch:=omega) only[aT,aP,fH,fu,dP,dX,a6,bL,cO,dG,ay,dW,aq,av,bt,c3,ar,aJ,dr,ag,aS,aI,bO,cU,aR,bT,cv N ω g0 g1,g5 N hN f2 f3]
   rw[←lD l h1]
   exact As N hN h hl (m-1) n (i+1) z ω ω ω
  ·simp (disch:=omega) only[aT,aP,fH,fu,dP,dX,a6,bL,cO,dG,ay,dW,aq,av,bt,c3,ar,aJ,dr,ag,aS,aI,bO,cU,aR,bT]
   rw[jH ω]
theorem gU:cP 0=(false,([],())):=by unfold cP;rw[show(0:Int).natAbs=0 from rfl,kg];rfl
theorem y6(N:Nat)(hN:4000000≤N){l:List Int}(h: ∀x∈l,-9223372036854775808≤x∧x<9223372036854775808)(hl:l.length≤1000000):pD N l=some (cP l.sum):=by
 unfold pD pD.b
 have:=As N hN h hl l.length N 0 (false,([],())) ω ω ω
 rw[oW,iI,gU]at this
 exact this
theorem WA{a b:Int}(ha:0≤a)(ZY:a<4294967296)(hb:0≤b)(mA:b<4294967296):qS .or .u64 a (b*4294967296)=a+b*4294967296:=by
 rw[RZ ha ω ω ω]
 have h:=LN (i:=32) (b:=a.toNat) ω b.toNat
 have e:(b*4294967296).toNat=2^32*b.toNat:=ω
 rw[e,Nat.or_comm,←h];omega
theorem TP{a b:Int}(ha:0≤a)(ZY:a<4294967296)(hb:0≤b)(mA:b<4294967296):qS .or .u64 (b*4294967296) a=a+b*4294967296:=by
 rw[RZ ω ω ha ω]
 have h:=LN (i:=32) (b:=a.toNat) ω b.toNat
 have e:(b*4294967296).toNat=2^32*b.toNat:=ω
 rw[e,←h];omega
theorem afZ{x:Int}(h0:0≤x):shl .u64 x 32=x*4294967296:=by rw[ZX ω ω];rfl
def BG(v:Int):Int×Bool:=if-9223372036854775808≤v∧v<9223372036854775808 then(v,true)else(0,false)
theorem Z1{n:Nat}(h:(lC n).length≤2):(lC n).getD 0 0+4294967296*(lC n).getD 1 0=n:=by
 have h1:=kP (lC n) 0
 have h2:=kP (lC n) 1
 rw[c0,g4]at h1
 rw[kI (l:=lC n) (i:=1+1) h]at h2
 simp only[c4,gq]at h1 h2
 omega
theorem ri(N:Nat)(v:Int):wT N (cP v)=some (BG v):=by
 unfold wT
 simp only[cP]
 by_cases hl:2<(lC v.natAbs).length
 ·rw[aT ω,aq,BG,ah]
  intro hh
  have:=xI 2 v.natAbs (by rw[show(4294967296:Nat)^2=18446744073709551616 from by decide];omega)
  omega
 ·have h2:=Z1 (n:=v.natAbs) ω
  obtain⟨a0,a1⟩:=(kj v.natAbs).getD 0
  obtain⟨b0,b1⟩:=(kj v.natAbs).getD 1
  have e0:=wQ N (lC v.natAbs) 0
  have e1:=wQ N (lC v.natAbs) 1
  simp only[Int.natCast_zero,Int.natCast_one]at e0 e1
  rw[aP ω,av,e0,e1]
  generalize (lC v.natAbs).getD 0 0=a at*
  generalize (lC v.natAbs).getD 1 0=b at*
  simp only[ar]
  rw[aP (show(0:Int)≤32 by omega),av,afZ b0,dW (x:=b*4294967296) ω ω,WA a0 a1 b0 b1]
  have ev:a+b*4294967296=v.natAbs:=ω
  rw[ev]
  by_cases hn:v<0
  ·rw[bs hn,aq]
   by_cases Km:9223372036854775808<(v.natAbs:Int)
   ·rw[aT Km,aq,BG,ah ω]
   ·rw[aP ω,av,BG,aj ω,vu,iN]
    congr 2
    split<;>omega
  ·rw[cm hn,av]
   by_cases Km:9223372036854775807<(v.natAbs:Int)
   ·rw[aT Km,aq,BG,ah ω]
   ·rw[aP ω,av,BG,aj ω,ay ω ω]
    congr 2;omega
end VM
end
section
namespace VM
open Go VM.F
theorem Nk: ∀(l:List Int) (k:Nat) (x:Int),k<l.length→c4 (l.set k x)=c4 l+4294967296^k*(x-l.getD k 0)
 |d::r,0,x,_=>by simp[c4];omega
 |d::r,k+1,x,h=>by
  have ih:=Nk r k x (by simpa using h)
  rw[List.set_cons_succ,c4,c4,ih,List.getD_cons_succ,zJ,jW (4294967296^k) 4294967296,kK,jY];omega
theorem getD_set_ne(l:List Int){j k:Nat}(x:Int)(h:j≠k):(l.set j x).getD k 0=l.getD k 0:=by
 simp[aU,List.getElem?_set_ne h]
theorem mE(l:List Int){k:Nat}(x:Int)(h:k<l.length):(l.set k x).getD k 0=x:=by
 simp[aU,List.getElem?_set,h]
theorem uO(l:List Int){k:Nat}(h:l.length≤k):l.getD k 0=0:=by
 rw[aU,gI h];rfl
theorem CK(N:Nat)(K:aH→aH→aH→List Int→Int→Option aH){a b:List Int}(na nb:Bool)(z:aH)(ha:VD a)(hb:VD b)(i:Nat)(hi:i<a.length)(yZ:a.length≤100000)(PW:b.length≤100000):
  ∀(m n j:Nat) (out:List Int) (c:Int),b.length+1-j≤m→m<n→VD out→out.length=a.length+b.length+1→0≤c→c<4294967296→(j≤b.length→ ∀k,i+b.length≤k→out.getD k 0=0)→(b.length<j→c=0∧j=b.length+1∧ ∀k,i+b.length+1≤k→out.getD k 0=0)→
  ∃y7,jL.l7 N K n (na,(a,())) (nb,(b,())) z out (i:Int) c (j:Int)=K (na,(a,())) (nb,(b,())) z y7 ((i+1:Nat):Int)∧VD y7∧y7.length=out.length∧
   c4 y7=c4 out+4294967296^i*(4294967296^j*(a.getD i 0*c4 (b.drop j)+c))∧ ∀k,i+1+b.length≤k→y7.getD k 0=0
 |m,0,j,out,c,_,hn,_,_,_,_,_,_=>ω
 |m,n+1,j,out,c,hm,hn,ho,Ir,Vc,LA,hz,Hg=>by
  unfold jL.l7 jL.rj
  by_cases Nd:b.length≤j∧c=0
  ·obtain⟨h1,rfl⟩:=Nd
   simp (disch:=omega) only[aT,aP,fH,fu,dP,dX,a6,bL,cO,dG,ay,dW,aq,av,bt,c3,ar,aJ,dr,ag,aS,aI,bO,cU,aR,bT]
   refine⟨out,rfl,ho,rfl,by rw[kI h1];simp[c4],λk hk=> ?_⟩
   by_cases hj:j≤b.length
   ·exact hz hj k ω
   ·exact(Hg ω).2.2 k ω
  ·have Hd:j≤b.length:=by
    by_cases hj:j≤b.length
    ·exact hj
    ·exact absurd ⟨ω,(Hg ω).1⟩ Nd
   obtain⟨ga0,ga1⟩:=ha.getD i
   obtain⟨gb0,gb1⟩:=hb.getD j
   obtain⟨go0,go1⟩:=ho.getD (i+j)
   have step: ∃y7,jL.j9 N K (jL.l7 N K n) (na,(a,())) (nb,(b,())) z out (i:Int) c (j:Int)=K (na,(a,())) (nb,(b,())) z y7 ((i+1:Nat):Int)∧VD y7∧y7.length=out.length∧
     c4 y7=c4 out+4294967296^i*(4294967296^j*(a.getD i 0*c4 (b.drop j)+c))∧ ∀k,i+1+b.length≤k→y7.getD k 0=0:=by
    unfold jL.j9 jL.Nl
    have eij:(i:Int)+(j:Int)=((i+j:Nat):Int):=rfl
    have hp:=mul_lt (m:=4294967295) (n:=4294967295) ga0 gb0 ω ω
    simp only[wQ,ar,eij,aJ]
    simp (disch:=omega) only[aT,aP,fH,fu,dP,dX,a6,bL,cO,dG,ay,dW,aq,av,bt,c3,ar,aJ,dr,ag,aS,aI,bO,cU,aR,bT]
    generalize hx:out.getD (i+j) 0=x at*
    generalize ha':a.getD i 0=ai at*
    generalize eZ:b.getD j 0=bj at*
    generalize hpe:ai*bj=p at*
    have hpz:b.length≤j→p=0∧x=0:=λh=>by
     rw[uO b h]at eZ
     refine⟨by rw[←hpe,←eZ,zK],?_⟩
     rw[←hx];exact hz Hd _ ω
    rw[oi ω ω,R1]
    have arR:(out.set (i+j) ((c+(x+p))%4294967296)).length=a.length+b.length+1:=by rw[bO];exact Ir
    obtain⟨y7,h1,h2,h3,h4,h5⟩:=CK N K na nb z ha hb i hi yZ PW (m-1) n (j+1) (out.set (i+j) ((c+(x+p))%4294967296)) ((c+(x+p))/4294967296) ω ω (ho.set _ ω ω) arR ω ω
     (λh k hk=>by rw[getD_set_ne _ _ ω];exact hz Hd k hk)
     (λh=>by
      obtain⟨hp0,V5⟩:=hpz ω
      refine⟨ω,ω,λk hk=> ?_⟩
      rw[getD_set_ne _ _ ω];exact hz Hd k ω)
    refine⟨y7,h1,h2,by rw[h3,bO],?_,h5⟩
    rw[h4,Nk _ _ _ ω,hx,ha',kP b j,eZ,jY ai,hpe,Int.pow_add,zJ]
    have e1:ai*(4294967296*c4 (b.drop (j+1)))=4294967296*(ai*c4 (b.drop (j+1))):=Int.mul_left_comm _ _ _
    rw[e1]
    generalize ai*c4 (b.drop (j+1))=y
    generalize (4294967296:Int)^i=P
    generalize (4294967296:Int)^j=R
    rw[kK R,kK P,zH,←jY,←jY]
    congr 3
    omega
   by_cases h1:j<b.length
   ·simp (disch:=omega) only[aT,aq];exact step
   ·have:0<c:=ω
    simp (disch:=omega) only[aT,aP,aq,av];exact step
theorem CL(N:Nat)(hN:4000000≤N){a b:List Int}(na nb:Bool)(z:aH)(ha:VD a)(hb:VD b)(yZ:a.length≤100000)(PW:b.length≤100000):
  ∀(m n i:Nat) (out:List Int),a.length-i≤m→m<n→i≤a.length→VD out→out.length=a.length+b.length+1→(∀k,i+b.length≤k→out.getD k 0=0)→c4 out=c4 (a.take i)*c4 b→
  jL.l3 N n (na,(a,())) (nb,(b,())) z out (i:Int)=some (cP (if na=nb then c4 a*c4 b else-(c4 a*c4 b)))
 |m,0,i,out,_,hn,_,_,_,_,_=>ω
 |m,n+1,i,out,hm,hn,hi,ho,Ir,hz,hv=>by
  unfold jL.l3 jL.nT
  by_cases h1:i<a.length
  ·simp only
   rw[aT ω,aq]
   obtain⟨y7,e1,e2,e3,e4,e5⟩:=CK N (jL.l3 N n) na nb z ha hb i h1 yZ PW (b.length+1) N 0 out 0 ω ω ho Ir ω ω (λ_ k hk=>hz k hk) (λh=>ω)
   rw[show((0:Nat):Int)=0 from rfl]at e1
   rw[e1]
   refine CL N hN na nb z ha hb yZ PW (m-1) n (i+1) y7 ω ω ω e2 (by rw[e3];exact Ir) (λk hk=>e5 k ω) ?_
   rw[e4,hv,ij a h1,qx,cf,iE ω,c0,Int.pow_zero,zL,fY,qR,kK]
  ·simp only
   rw[aP ω,av]
   simp only[sG N _ ho ω ω,ar]
   rw[hv,jH ω,o6]
   congr 2
   cases na<;>cases nb<;>simp
theorem tO(N:Nat)(hN:4000000≤N){u v:Int}(hu:Fit u 90000)(hv:Fit v 90000):jL N (cP u) (cP v)=some (cP (u*v)):=by
 have lu:=hu.len
 have lv:=hv.len
 unfold jL jL.b
 simp only[cP]
 simp (disch:=omega) only[aT,aP,fH,fu,dP,dX,a6,bL,cO,dG,ay,dW,aq,av,bt,c3,ar,aJ,dr,ag,aS,aI,bO,cU,aR,bT]
 have e:(((lC u.natAbs).length:Int)+((lC v.natAbs).length:Int)+1).toNat=(lC u.natAbs).length+(lC v.natAbs).length+1:=ω
 have:=CL N hN (decide (u<0)) (decide (v<0)) (false,([],())) (kj u.natAbs) (kj v.natAbs) ω ω (lC u.natAbs).length N 0 (List.replicate ((lC u.natAbs).length+(lC v.natAbs).length+1) 0) ω ω ω (VD.afY _) (by simp)
  (λk _=>by rw[aU,El];split<;>rfl) (by
   have: ∀n,c4 (List.replicate n 0)=0:=λn=>by
    induction n with
    |zero=>rfl
    |succ n ih=>rw[zA,c4,ih];rfl
   rw[this];simp[c4])
 rw[g4,g4]at this
 have e2:(((lC u.natAbs).length+(lC v.natAbs).length:Nat):Int)+1=(lC u.natAbs).length+(lC v.natAbs).length+1:=ω
 first
 |(rw[e];refine this.trans ?_)
 |(refine(this).trans ?_)
 show some (cP _)=some (cP _)
 congr 2
 have key:(u.natAbs:Int)*v.natAbs=if decide (u<0)=decide (v<0)then u*v else-(u*v):=by
  by_cases h1:u<0<;>by_cases h2:v<0
  ·rw[aj (by simp[h1,h2]),show(u.natAbs:Int)= -u from by omega,show(v.natAbs:Int)= -v from by omega,Int.neg_mul_neg]
  ·rw[ah (by simp[h1,h2]),show(u.natAbs:Int)= -u from by omega,show(v.natAbs:Int)=v from by omega,Int.neg_mul]
  ·rw[ah (by simp[h1,h2]),show(u.natAbs:Int)=u from by omega,show(v.natAbs:Int)= -v from by omega,zM]
  ·rw[aj (by simp[h1,h2]),show(u.natAbs:Int)=u from by omega,show(v.natAbs:Int)=v from by omega]
 rw[key]
 split<;>simp
end VM
end
section
namespace VM
open Go VM.F
theorem Z2{x:Int}(h0:0≤x)(h1:x<18446744073709551616):qS .and .u64 x 1=x%2:=by
 rw[M9 h0 h1 ω ω]
 have:=LM x.toNat 1
 rw[show((1:Int).toNat)=2^1-1 from rfl,this]
 omega
theorem HG{l:List Int}{k:Nat}(x:Int)(h:k<l.length):c4 ((l.set k x).drop k)=x+4294967296*c4 (l.drop (k+1)):=by
 rw[kP,mE l x h,List.drop_set_of_lt ω]
theorem IA(N:Nat){d:List Int}(hd:VD d)(hl:d.length≤100000)(hN:4000000≤N): ∀(k n:Nat) (out:List Int) (c:Int),k≤d.length→k<n→VD out→out.length=d.length→c=c4 (d.drop k)%2→c4 (out.drop k)=c4 (d.drop k)/2→
  pE.l4 N n d out c ((k:Int)-1)=some (lC (c4 d/2).toNat,c4 d%2)
 |k,0,out,c,_,hn,_,_,_,_=>ω
 |0,n+1,out,c,_,_,ho,Ir,hc,hv=>by
  unfold pE.l4 pE.eK
  simp (disch:=omega) only[aT,aP,fH,fu,dP,dX,a6,bL,cO,dG,ay,dW,aq,av,bt,c3,ar,aJ,dr,ag,aS,aI,bO,cU,aR,bT,Ks N ho ω ω]
  rw[c0,c0]at hv
  rw[c0]at hc
  rw[hv,hc]
 |k+1,n+1,out,c,hk,hn,ho,Ir,hc,hv=>by
  unfold pE.l4 pE.eK
  have e:((k+1:Nat):Int)-1=(k:Int):=ω
  obtain⟨g0,g1⟩:=hd.getD k
  have hn0:=ki (hd.drop (k+1))
  have e1:=kP d k
  simp only[e,aJ]
  rw[afZ ω]
  generalize hx:d.getD k 0=x at*
  rw[dW (x:=c*4294967296) ω ω,TP g0 g1 ω ω]
  simp (disch:=omega) only[aT,aP,fH,fu,dP,dX,a6,bL,cO,dG,ay,dW,aq,av,bt,c3,ar,aJ,dr,ag,aS,aI,bO,cU,aR,bT,amx,Z2]
  refine IA N hd hl hN k n (out.set k ((x+c*4294967296)/2)) ((x+c*4294967296)%2) ω ω (ho.set _ ω ω) (by rw[bO];exact Ir) (by rw[e1,hc];omega) ?_
  rw[HG _ ω,hv,e1]
  omega
theorem Z3(N:Nat)(hN:4000000≤N)(m:Nat)(h:(lC m).length≤100000):pE N (lC m)=some (lC (m/2),((m%2:Nat):Int)):=by
 unfold pE pE.b
 simp (disch:=omega) only[aT,aP,fH,fu,dP,dX,a6,bL,cO,dG,ay,dW,aq,av,bt,c3,ar,aJ,dr,ag,aS,aI,bO,cU,aR,bT]
 have:=IA N (kj m) h hN (lC m).length N (List.replicate (lC m).length 0) 0 (aG _) ω (VD.afY _) (by simp) (by rw[mZ];rfl) (by rw[mZ,kI (by simp)];rfl)
 rw[g4]at this
 rw[this]
 congr 2
def bin(n:Nat):List Int:=if n=0 then []else((n%2:Nat):Int)::bin (n/2)
termination_by n
decreasing_by omega
theorem D1{n:Nat}(h:n≠0):bin n=((n%2:Nat):Int)::bin (n/2):=by rw[bin];simp[h]
theorem wU:bin 0=[]:=by rw[bin];rfl
def Au:List Int→Int
 |[]=>0
 |d::r=>d+2*Au r
theorem Z4(n:Nat):Au (bin n)=n:=by
 induction n using Nat.strongRecOn with
 |_ n ih=>
  by_cases h:n=0
  ·subst h;rw[wU];rfl
  ·rw[D1 h,Au,ih _ ω];omega
theorem Z5(n:Nat): ∀d∈bin n,d=0∨d=1:=by
 induction n using Nat.strongRecOn with
 |_ n ih=>
  by_cases h:n=0
  ·subst h;rw[wU];intro d hd;cases hd
  ·rw[D1 h];intro d hd
   rcases aX.1 hd with rfl|hd
   ·omega
   ·exact ih _ ω d hd
theorem Z6(k:Nat): ∀n,n<2^k→(bin n).length≤k:=by
 induction k with
 |zero=>
  intro n h;have:n=0:=by simpa using h
  subst this;rw[wU];simp
 |succ k ih=>
  intro n h
  by_cases hn:n=0
  ·subst hn;rw[wU];simp
  ·rw[D1 hn,aR]
   have:=ih (n/2) (by rw[zI]at h;omega)
   omega
theorem WB{n k:Nat}(h:n<4294967296^k):(bin n).length≤32*k:=Z6 _ _ (mY h (by rw[Nat.pow_mul];exact aG _))
theorem IB(N:Nat)(hN:4000000≤N)(x2 x3 x4 x5:aH): ∀(m n:Nat) (t:Nat) (bits:List Int),(bin t).length≤m→m<n→(lC t).length≤100000→bits.length+(bin t).length≤4000000→
  iB.l3 N n x2 x3 x4 x5 bits (lC t)=iB.l9 N N x2 x3 x4 x5 (bits++bin t) (false,([],())) (false,([],())) (((bits++bin t).length:Int)-1)
 |m,0,t,bits,_,hn,_,_=>ω
 |m,n+1,t,bits,hm,hn,hd,hb=>by
  unfold iB.l3 iB.nT
  by_cases ht:t=0
  ·subst ht
   rw[kg,wU]
   simp (disch:=omega) only[aT,aP,fH,fu,dP,dX,a6,bL,cO,dG,ay,dW,aq,av,bt,c3,ar,aJ,dr,ag,aS,aI,bO,cU,aR,bT,ck]
  ·have Hz:0<(lC t).length:=by
    apply su.2
    intro h;rw[Ap]at h;omega
   rw[D1 ht]at hm hb ⊢
   rw[aR]at hm hb
   have hdl:(lC (t/2)).length≤100000:=by
    have:=Kr _ t hd
    exact xI _ _ (Nat.lt_of_le_of_lt (Nat.div_le_self _ _) this)
   simp (disch:=omega) only[aT,aP,fH,fu,dP,dX,a6,bL,cO,dG,ay,dW,aq,av,bt,c3,ar,aJ,dr,ag,aS,aI,bO,cU,aR,bT,Z3 N hN t hd]
   rw[IB N hN x2 x3 x4 x5 (m-1) n (t/2) (bits++[((t%2:Nat):Int)]) ω ω hdl (by simp;omega)]
   simp
theorem TQ(l:List Int){i:Nat}(h:i<l.length):Au (l.drop i)=l.getD i 0+2*Au (l.drop (i+1)):=by
 rw[pW h,Au,aU,bl h];rfl
theorem CN: ∀{l:List Int},(∀d∈l,d=0∨d=1)→0≤Au l
 |[],_=>fJ _
 |d::r,h=>by
  have h1:=CN (l:=r) λx hx=>h x (aY _ hx)
  have:=h d (bg ..)
  simp only[Au];omega
theorem uP: ∀(l:List Int) (i:Nat),(∀d∈l,d=0∨d=1)→Au (l.drop i)≤Au l
 |l,0,_=>fJ _
 |[],i+1,_=>fJ _
 |d::r,i+1,h=>by
  have h1:=uP r i λx hx=>h x (aY _ hx)
  have h2:=CN (l:=r) λx hx=>h x (aY _ hx)
  have:=h d (bg ..)
  rw[List.drop_succ_cons,Au];omega
theorem tP(N:Nat)(hN:4000000≤N)(a d:Int)(hd:0<d)(R5:Fit a 80000)(TR:Fit d 80000)(x4 x5:aH){bits:List Int}(hb: ∀x∈bits,x=0∨x=1)(hbv:Au bits=a.natAbs)(wv:bits.length≤4000000):
  ∀(k n:Nat) (q r:Int),k≤bits.length→k<n→0≤q→0≤r→r<d→Au (bits.drop k)=q*d+r→
  iB.l9 N n (cP a) (cP d) x4 x5 bits (cP q) (cP r) ((k:Int)-1)=some (cP (a/d),cP (a%d))
 |k,0,q,r,_,hn,_,_,_,_=>ω
 |0,n+1,q,r,_,_,hq,hr,kX,hv=>by
  unfold iB.l9 iB.xK
  rw[c0,hbv]at hv
  have hqa:q≤a.natAbs:=by
   have:q*1≤q*d:=xx ω hq
   omega
  have fq:Fit q 900000:=(R5.of_le (u:=q) ω).mono ω
  have fr:Fit r 900000:=(TR.of_le (u:=r) ω).mono ω
  have f1:Fit 1 900000:=(Fit.i64 (v:=1) ω ω).mono ω
  have fq':Fit (-q) 900000:=fq.neg
  have fd:Fit d 900000:=TR.mono ω
  rw[fu ω,av]
  by_cases ha:a<0
  ·have hna:(a.natAbs:Int)= -a:=ω
   have e0:(cP a).1=true:=bs ha
   simp only[e0,bt,av,p7,ar]
   by_cases Y0:r=0
   ·subst Y0
    rw[dP (by unfold vw;simp),aq]
    simp only[jz N hN fq,ar]
    have e1:a=d*(-q):=by rw[zM,jW];omega
    have e2:a/d= -q:=by rw[e1,Int.mul_ediv_cancel_left _ ω]
    have e3:a%d=0:=by rw[e1,Int.mul_emod_right]
    rw[e2,e3]
   ·rw[dX (by unfold vw;rw[ah ω,aj ω];omega),av]
    simp (disch:=omega) only[jz N hN fq,cv N ω (show-9223372036854775808≤(1:Int)by omega) ω,ar,sH N hN fq' f1,sH N hN fd fr]
    have e1:a=(d-r)+d*(-q-1):=by rw[Int.mul_sub,zM,Int.mul_one,jW];omega
    have e2:a/d= -q-1:=by
     rw[e1,Mc _ _ ω,L8 ω ω];omega
    have e3:a%d=d-r:=by rw[e1,LR,Int.emod_eq_of_lt ω ω]
    rw[e2,e3]
  ·have hna:(a.natAbs:Int)=a:=ω
   have e0:(cP a).1=false:=cm ha
   simp only[e0,c3,aq]
   have e1:a=r+d*q:=by rw[jW];omega
   have e2:a/d=q:=by rw[e1,Mc _ _ ω,L8 hr kX];omega
   have e3:a%d=r:=by rw[e1,LR,Int.emod_eq_of_lt hr kX]
   rw[e2,e3]
 |k+1,n+1,q,r,hk,hn,hq,hr,kX,hv=>by
  unfold iB.l9 iB.xK
  have e:((k+1:Nat):Int)-1=(k:Int):=ω
  have hle:=uP bits k hb
  have arS:=uP bits (k+1) hb
  rw[hbv]at hle arS
  have hqa:q≤a.natAbs:=by
   have:q*1≤q*d:=xx ω hq
   omega
  have fq:Fit q 80000:=R5.of_le ω
  have fr:Fit r 80000:=TR.of_le ω
  have fqq:=fq.add fq
  have frr:=fr.add fr
  have f1:Fit 1 80000:=(Fit.i64 (v:=1) ω ω).mono ω
  have hvk:=TQ bits (i:=k) ω
  have Dw:bits.getD k 0=0∨bits.getD k 0=1:=by
   rw[aU,bl (show k<bits.length by omega)]
   exact hb _ (dA _)
  rw[e,fH ω,aq]
  have e2q:(q+q)*d=2*(q*d):=by rw[←Int.two_mul,kK]
  have amC:(q+q+1)*d=2*(q*d)+d:=by rw[qR,e2q,zL]
  simp (disch:=omega) only[aT,aP,fH,fu,dP,dX,a6,bL,cO,dG,ay,dW,aq,av,bt,c3,ar,aJ,dr,ag,aS,aI,bO,cU,aR,bT,g5 N hN (fq.mono ω) (fq.mono ω),g5 N hN (fr.mono ω) (fr.mono ω),cv N ω (show-9223372036854775808≤(1:Int)by omega) ω]
  rcases Dw with Dw|Dw
  ·rw[Dw,dX ω,av]
   simp only[BF N hN (frr.mono ω) (TR.mono ω),ar]
   by_cases Y6:d≤r+r
   ·rw[fH (by unfold vw;split<;>(try split)<;>omega),aq]
    simp only[sH N hN (frr.mono ω) (TR.mono ω),g5 N hN (fqq.mono ω) (f1.mono ω),ar]
    refine tP N hN a d hd R5 TR x4 x5 hb hbv wv k n _ _ ω ω ω ω ω ?_
    rw[hvk,Dw,hv,amC];omega
   ·rw[fu (by unfold vw;rw[aj ω];omega),av]
    refine tP N hN a d hd R5 TR x4 x5 hb hbv wv k n _ _ ω ω ω ω ω ?_
    rw[hvk,Dw,hv,e2q];omega
  ·rw[Dw,dP rfl,aq]
   have amD:=frr.add (f1.mono (show 80000≤80001 by omega))
   simp only[g5 N hN (frr.mono ω) (f1.mono ω),BF N hN (amD.mono ω) (TR.mono ω),ar]
   by_cases Y6:d≤r+r+1
   ·rw[fH (by unfold vw;split<;>(try split)<;>omega),aq]
    simp only[sH N hN (amD.mono ω) (TR.mono ω),g5 N hN (fqq.mono ω) (f1.mono ω),ar]
    refine tP N hN a d hd R5 TR x4 x5 hb hbv wv k n _ _ ω ω ω ω ω ?_
    rw[hvk,Dw,hv,amC];omega
   ·rw[fu (by unfold vw;rw[aj ω];omega),av]
    refine tP N hN a d hd R5 TR x4 x5 hb hbv wv k n _ _ ω ω ω ω ω ?_
    rw[hvk,Dw,hv,e2q];omega
theorem R6(N:Nat)(hN:5000000≤N){a d:Int}(hd:0<d)(R5:Fit a 80000)(TR:Fit d 80000):iB N (cP a) (cP d)=some (cP (a/d),cP (a%d)):=by
 unfold iB iB.b
 have wv:(bin a.natAbs).length≤32*80000:=WB R5
 have h1:=IB N ω (cP a) (cP d) (false,([],())) (false,([],())) (bin a.natAbs).length N a.natAbs [] (aG _) ω (cq R5.len ω) (by simp;omega)
 rw[cL]at h1
 refine h1.trans ?_
 rw[←gU]
 exact tP N ω a d hd R5 TR _ _ (Z5 _) (Z4 _) ω (bin a.natAbs).length N 0 0 (aG _) ω ω ω hd (by rw[mZ];simp[Au])
end VM
end
section
namespace VM
open Go VM.F
def dQ(v:Int):cC:=(v/18446744073709551616,(v%18446744073709551616,()))
theorem wmk{a b v:Int}(h1:a=v/18446744073709551616)(h2:b=v%18446744073709551616):((a,(b,())):cC)=dQ v:=by
 unfold dQ;rw[h1,h2]
theorem R7{a b v:Int}{α:Type}{c:α}(h1:a=v/18446744073709551616)(h2:b=v%18446744073709551616):(some (((a,(b,())):cC),c):Option (cC×α))=some (dQ v,c):=by
 rw[wmk h1 h2]
theorem FB(N:Nat){hi lo:Int}(h0:0≤hi)(h1:hi<9223372036854775808)(l0:0≤lo)(l1:lo<18446744073709551616):rZ N false hi lo=some (dQ (hi*18446744073709551616+lo),true):=by
 unfold rZ rZ.b
 rw[c3,aq,fu ω,av,ay ω ω]
 exact R7 ω ω
theorem FC(N:Nat){hi lo:Int}(h0:0≤hi)(l0:0≤lo)(l1:lo<18446744073709551616)(hm:hi*18446744073709551616+lo≤170141183460469231731687303715884105728):rZ N true hi lo=some (dQ (-(hi*18446744073709551616+lo)),true):=by
 unfold rZ rZ.b
 have hj:rZ.j7 N hi lo cA=some (dQ (-(hi*18446744073709551616+lo)),true):=by
  unfold rZ.j7 rZ.Vk
  rw[wO N ω ω l0 l1 ω ω,ar]
  by_cases hl:lo=0
  ·subst hl
   rw[ah ω]
   rw[wO N ω ω h0 ω ω ω,ar,iN]
   exact R7 (by split<;>omega) ω
  ·rw[aj ω]
   rw[wO N ω ω h0 ω ω ω,ar,iN]
   exact R7 (by split<;>omega) ω
 rw[bt,av,aP ω,av]
 by_cases he:hi=9223372036854775808
 ·rw[dP he,aq,aP ω,av];exact hj
 ·rw[dX he,av];exact hj
theorem HH{a b:Int}(a0: -9223372036854775808≤a)(a1:a<9223372036854775808)(b0: -9223372036854775808≤b)(b1:b<9223372036854775808):
  0≤(a.natAbs:Int)*b.natAbs∧(a.natAbs:Int)*b.natAbs≤85070591730234615865843651857942052864:=by
 have:=mul_lt (m:=9223372036854775808) (n:=9223372036854775808) (show 0≤(a.natAbs:Int)by omega) (show 0≤(b.natAbs:Int)by omega) ω ω
 omega
theorem Z7(N:Nat){a b:Int}(a0: -9223372036854775808≤a)(a1:a<9223372036854775808)(b0: -9223372036854775808≤b)(b1:b<9223372036854775808):Z8 N a b=some (dQ (a*b)):=by
 unfold Z8
 have hm:=HH a0 a1 b0 b1
 simp only[Kq N a0 a1,Kq N b0 b1,ar,Wy N (show 0≤(a.natAbs:Int)by omega) ω (show 0≤(b.natAbs:Int)by omega) ω,o6]
 obtain⟨m,hme⟩: ∃m,m=(a.natAbs:Int)*b.natAbs:=⟨_,rfl⟩
 rw[←hme]at hm ⊢
 have hd:m/18446744073709551616*18446744073709551616+m%18446744073709551616=m:=ω
 by_cases h1:a<0<;>by_cases h2:b<0
 ·rw[aT h1,aT h2,tk,bt,FB N ω ω ω ω,ar,hd]
  have:m=a*b:=by rw[hme,show(a.natAbs:Int)= -a from by omega,show(b.natAbs:Int)= -b from by omega,Int.neg_mul_neg]
  rw[this]
 ·rw[aT h1,aP (x:=b) ω,show(!(true==false))=true from rfl,FC N ω ω ω ω,ar,hd]
  have:m= -(a*b):=by rw[hme,show(a.natAbs:Int)= -a from by omega,show(b.natAbs:Int)=b from by omega,Int.neg_mul]
  rw[this,zN]
 ·rw[aP (x:=a) ω,aT h2,show(!(false==true))=true from rfl,FC N ω ω ω ω,ar,hd]
  have:m= -(a*b):=by rw[hme,show(a.natAbs:Int)=a from by omega,show(b.natAbs:Int)= -b from by omega,zM]
  rw[this,zN]
 ·rw[aP (x:=a) ω,aP (x:=b) ω,tk,bt,FB N ω ω ω ω,ar,hd]
  have:m=a*b:=by rw[hme,show(a.natAbs:Int)=a from by omega,show(b.natAbs:Int)=b from by omega]
  rw[this]
theorem Z9(N:Nat){v:Int}(v0: -170141183460469231731687303715884105728≤v)(v1:v<170141183460469231731687303715884105728):F92 N (dQ v)=some (BG v):=by
 unfold F92 dQ
 rw[aP ω,av]
 dsimp only
 have hw0: -9223372036854775808≤W .i64 (v%18446744073709551616)∧W .i64 (v%18446744073709551616)<9223372036854775808:=by rw[iN];split<;>omega
 rw[uM hw0.1 hw0.2]
 have hwv:W .i64 (v%18446744073709551616)=if 9223372036854775808≤v%18446744073709551616 then v%18446744073709551616-18446744073709551616 else v%18446744073709551616:=by rw[iN];split<;>split<;>omega
 rw[hwv]
 unfold BG
 by_cases h: -9223372036854775808≤v∧v<9223372036854775808
 ·rw[aj h]
  by_cases hn:v<0
  ·rw[aj (show 9223372036854775808≤v%18446744073709551616 by omega),aj ω,dP ω,bt,av]
   congr 2;omega
  ·rw[ah (show ¬9223372036854775808≤v%18446744073709551616 by omega),ah ω,dP ω,bt,av]
   congr 2;omega
 ·rw[ah h]
  by_cases hm:9223372036854775808≤v%18446744073709551616
  ·rw[aj hm,aj ω,dX ω,c3,aq]
  ·rw[ah hm,ah ω,dX ω,c3,aq]
end VM
end
section
namespace VM
open Go
theorem cond_not{α:Type}(b:Bool)(x y:α):cond (!b) x y=cond b y x:=by cases b<;>rfl
theorem cR{α:Type}(a b:Int)(x y:α):cond (aZ a b) x y=if a<b then x else y:=by
 by_cases h:a<b
 ·rw[aT h,aj h];rfl
 ·rw[aP ω,ah h];rfl
theorem cG{α:Type}(a b:Int)(x y:α):cond (dk a b) x y=if a≤b then x else y:=by
 by_cases h:a≤b
 ·rw[fH h,aj h];rfl
 ·rw[fu ω,ah h];rfl
theorem aN{α:Type}(a b:Int)(x y:α):cond (aO a b) x y=if a=b then x else y:=by
 by_cases h:a=b
 ·rw[dP h,aj h];rfl
 ·rw[dX h,ah h];rfl
theorem gh{α:Type}(p:Prop) [Decidable p](x y:α):cond (decide p) x y=if p then x else y:=by
 by_cases h:p
 ·rw[bs h,aj h];rfl
 ·rw[cm h,ah h];rfl
theorem drop_cons{α:Type}{l:List α}{i:Nat}(h:i<l.length)(d:α):l.drop i=l.getD i d::l.drop (i+1):=by
 rw[pW h,aU,bl h];rfl
theorem om{α σ β:Type}(l:List α)(d:α)(F:Nat→Int→σ→Option β)(g:List α→σ→Option β)(I:Nat→σ→Prop)
  (hs: ∀n i s,i<l.length→I i s→(∀s',I (i+1) s'→F n ((i+1:Nat):Int) s'=g (l.drop (i+1)) s')→F (n+1) (i:Int) s=g (l.getD i d::l.drop (i+1)) s)
  (he: ∀n s,I l.length s→F (n+1) (l.length:Int) s=g [] s): ∀m n i s,l.length-i≤m→m<n→i≤l.length→I i s→F n (i:Int) s=g (l.drop i) s
 |m,0,i,s,_,hn,_,_=>ω
 |m,n+1,i,s,hm,hn,hi,hI=>by
  by_cases h:i<l.length
  ·rw[drop_cons h d]
   exact hs n i s h hI λs' yD=>om l d F g I hs he (m-1) n (i+1) s' ω ω ω yD
  ·have:i=l.length:=ω
   subst this
   rw[mZ];exact he n s hI
theorem Av{α β:Type}(l:List α)(d:α)(F:Nat→Int→Option β)(g:List α→Option β)
  (hs: ∀n i,i<l.length→F n ((i+1:Nat):Int)=g (l.drop (i+1))→F (n+1) (i:Int)=g (l.getD i d::l.drop (i+1)))
  (he: ∀n,F (n+1) (l.length:Int)=g []) (n:Nat) (hn:l.length<n):F n 0=g l:=by
 have:=om (σ:=Unit) l d (λn i _=>F n i) (λl _=>g l) (λ_ _=>True) (λn i _ h _ hr=>hs n i h (hr () trivial)) (λn _ _=>he n) l.length n 0 () ω hn ω trivial
 simpa using this
theorem scan{F:Nat→Int→Option Bool}{len:Nat}(P:Nat→Prop) [DecidablePred P]
  (hs: ∀n i r,i<len→(∀j,j<i→P j)→F n ((i+1:Nat):Int)=r→F (n+1) (i:Int)=if P i then r else some false) {e:Bool} (he: ∀n,F (n+1) (len:Int)=some e):
  ∀m n i,len-i≤m→m<n→i≤len→(∀j,j<i→P j)→F n (i:Int)=some (decide (∀j,j<len→i≤j→P j)&&e)
 |m,0,i,_,hn,_,_=>ω
 |m,n+1,i,hm,hn,hi,hp=>by
  by_cases h:i<len
  ·rw[hs n i _ h hp rfl]
   by_cases hP:P i
   ·rw[aj hP,scan P hs he (m-1) n (i+1) ω ω ω (λj hj=>by
     by_cases yY:j=i
     ·subst yY;exact hP
     ·exact hp j ω)]
    congr 2
    rw[oU]
    refine⟨λhj j h2 h1=> ?_,λhj j h2 h1=>hj j h2 ω⟩
    by_cases yY:j=i
    ·subst yY;exact hP
    ·exact hj j h2 ω
   ·rw[ah hP,cm (λhj=>hP (hj i h (aG i)))];rfl
  ·have:i=len:=ω
   subst this
   rw[he n,bs (λj h2 h1=>absurd h2 ω)];rfl
theorem iz{F:Nat→Int→Option Bool}{len:Nat}(P:Nat→Prop) [DecidablePred P]{e:Bool}
  (hs: ∀n i r,i<len→(∀j,j<i→P j)→F n ((i+1:Nat):Int)=r→F (n+1) (i:Int)=if P i then r else some false) (he: ∀n,F (n+1) (len:Int)=some e) (n:Nat) (hn:len<n):
  F n 0=some (decide (∀j,j<len→P j)&&e):=by
 have:=scan P hs he len n 0 ω hn ω (λj hj=>absurd hj ω)
 rw[show((0:Nat):Int)=0 from rfl]at this
 rw[this]
 congr 2
 rw[oU]
 exact⟨λh j hj=>h j hj ω,λh j hj _=>h j hj⟩
end VM
end
