/- A part of the proof of BookDrawn of layer 18: what the functions compute, in plain words. -/
import Derived.Test.YtecmobijochjkaaGreatVm0
import GoSem.Claim
import Derived.Test.YtecmobijochjkaaGreatText
set_option linter.all false
section
namespace VM
open Go
theorem qg(x:Int):W .u64 x=x%18446744073709551616:=by rw[Gt];simp[IntKind.wrap,IntKind.bits,IntKind.signed]
theorem eB{x:Int}(h0:0≤x)(h1:x<18446744073709551616):W .u64 x=x:=by rw[qg];omega
theorem gK(x:Int):W .i64 x=if 9223372036854775808≤x%18446744073709551616 then x%18446744073709551616-18446744073709551616 else x%18446744073709551616:=by
 rw[Gt];simp[IntKind.wrap,IntKind.bits,IntKind.signed]
theorem aw{x:Int}(h0: -9223372036854775808≤x)(h1:x<9223372036854775808):W .i64 x=x:=by
 rw[gK];split<;>omega
theorem wf_u64{x:Int}:(Lit.int .u64 x).wf=true↔0≤x∧x≤18446744073709551615:=by simp[Lit.wf,IntKind.min,IntKind.max,IntKind.bits,IntKind.signed]
theorem aQ{x y:Int}(h:x<y):aX x y=true:=by rw[qH];exact aV h
theorem aP{x y:Int}(h:y≤x):aX x y=false:=by rw[qH];exact bu ω
theorem fO{x y:Int}(h:x≤y):dx x y=true:=by rw[m8];exact aV h
theorem fH{x y:Int}(h:y<x):dx x y=false:=by rw[m8];exact bu ω
theorem ec{x y:Int}(h:x=y):aN x y=true:=by rw[jP];exact aV h
theorem eN{x y:Int}(h:x≠y):aN x y=false:=by rw[jP];exact bu h
theorem aU{i:Int}{n:Nat}(h0:0≤i)(h1:i<n):bf i n=true:=by rw[Yd];exact aV ⟨h0,h1⟩
theorem bH{n:Nat}(h:n<68719476736):small n=true:=by rw[Gu];exact aV (by simpa [Bd]using h)
theorem c9{l c:Int}(h0:0≤l)(h1:l≤c)(h2:c<68719476736):kW l c=true:=by rw[J5];exact aV (by simp only[Bd];omega)
theorem ed{l h m n:Int}(h0:0≤l)(h1:l≤h)(h2:h≤m)(h3:m≤n):jt l h m n=true:=by rw[sr];exact aV ⟨h0,h1,h2,h3⟩
theorem af(n:Nat):(n:Int)+1=((n+1:Nat):Int):=rfl
theorem tS(x:Int)(h0:0≤x)(h1:x<18446744073709551616):(BitVec.ofInt 64 x).toNat=x.toNat:=by
 rw[BitVec.toNat_ofInt];congr 1;omega
theorem OU{x y:Int}(hx:0≤x)(Sa:x<18446744073709551616)(hy:0≤y)(hy1:y<18446744073709551616):ss .and .u64 x y=((x.toNat&&& y.toNat:Nat):Int):=by
 rw[vD]
 have h:((BitVec.ofInt 64 x&&& BitVec.ofInt 64 y).toNat)=x.toNat&&& y.toNat:=by rw[BitVec.toNat_and,tS x hx Sa,tS y hy hy1]
 show IntKind.u64.wrap (((BitVec.ofInt 64 x&&& BitVec.ofInt 64 y).toNat:Nat):Int)=_
 rw[h,←Gt]
 have:x.toNat&&& y.toNat≤x.toNat:=Nat.and_le_left
 exact eB ω ω
theorem Ut{x y:Int}(hx:0≤x)(Sa:x<18446744073709551616)(hy:0≤y)(hy1:y<18446744073709551616):ss .or .u64 x y=((x.toNat|||y.toNat:Nat):Int):=by
 rw[vD]
 have h:((BitVec.ofInt 64 x|||BitVec.ofInt 64 y).toNat)=x.toNat|||y.toNat:=by rw[BitVec.toNat_or,tS x hx Sa,tS y hy hy1]
 show IntKind.u64.wrap (((BitVec.ofInt 64 x|||BitVec.ofInt 64 y).toNat:Nat):Int)=_
 rw[h,←Gt]
 have:x.toNat|||y.toNat<2^64:=Nat.or_lt_two_pow ω ω
 exact eB ω ω
theorem ph{x:Int}(h0:0≤x)(h1:x<18446744073709551616):ss .and .u64 x 4294967295=x%4294967296:=by
 rw[OU h0 h1 ω ω]
 have:=ND x.toNat 32
 rw[show((4294967295:Int).toNat)=2^32-1 from rfl,this]
 omega
theorem L8{x y:Int}(h0:0≤y)(h1:y≤64):shr .u64 x y=x/2^y.toNat:=by
 rw[Sg]
 have:min y.toNat IntKind.u64.bits=y.toNat:=by simp[IntKind.bits];omega
 rw[this,NH]
 exact_mod_cast bw _
theorem Uu(x:Int):shr .u64 x 32=x/4294967296:=by rw[L8 ω ω];rfl
theorem aqq(x:Int):shr .u64 x 1=x/2:=by rw[L8 ω ω];rfl
theorem vT{x:Int}(h0: -9223372036854775808≤x)(h1:x<9223372036854775808):shr .i64 x 63=if x<0 then-1 else 0:=by
 rw[Sg]
 have:(2:Int)^(min (63:Int).toNat IntKind.i64.bits)=9223372036854775808:=by rfl
 rw[this,NH _ ω]
 split<;>omega
theorem acS{x y:Int}(h0:0≤y)(h1:y≤64):shl .u64 x y=x*2^y.toNat:=by
 rw[Ye]
 have:min y.toNat IntKind.u64.bits=y.toNat:=by simp[IntKind.bits];omega
 rw[this]
theorem mul_lt{a b m n:Int}(ha:0≤a)(hb:0≤b)(ham:a≤m)(hbn:b≤n):0≤a*b∧a*b≤m*n:=
 ⟨uQ ha hb,fC (AL ham hb) (yT hbn ω)⟩
end VM
end
section
namespace VM
open Go VM.F
theorem Wh(a b:Int):a*b=(a/4294967296)*(b/4294967296)*18446744073709551616+((a/4294967296)*(b%4294967296)+(a%4294967296)*(b/4294967296))*4294967296+(a%4294967296)*(b%4294967296):=by
 have ha:a=(a/4294967296)*4294967296+a%4294967296:=ω
 have hb:b=(b/4294967296)*4294967296+b%4294967296:=ω
 generalize a/4294967296=a1 at*
 generalize a%4294967296=a0 at*
 generalize b/4294967296=b1 at*
 generalize b%4294967296=b0 at*
 subst ha;subst hb
 simp only[p9,mD]
 have e1:a1*4294967296*(b1*4294967296)=a1*b1*18446744073709551616:=by
  rw[lL,Int.mul_left_comm 4294967296,←lL];rfl
 have e2:a1*4294967296*b0=a1*b0*4294967296:=by rw[lL,jm 4294967296,←lL]
 have e3:a0*(b1*4294967296)=a0*b1*4294967296:=by rw[←lL]
 rw[e1,e2,e3];omega
theorem Hn(N:Nat){a b:Int}(ha:0≤a)(ha1:a<18446744073709551616)(hb:0≤b)(nC:b<18446744073709551616):
  Wi N a b=some (a*b/18446744073709551616,a*b%18446744073709551616):=by
 unfold Wi
 have hm:=Wh a b
 have h1:=mul_lt (m:=4294967295) (n:=4294967295) (show 0≤a/4294967296 by omega) (show 0≤b/4294967296 by omega) ω ω
 have h2:=mul_lt (m:=4294967295) (n:=4294967295) (show 0≤a/4294967296 by omega) (show 0≤b%4294967296 by omega) ω ω
 have h3:=mul_lt (m:=4294967295) (n:=4294967295) (show 0≤a%4294967296 by omega) (show 0≤b/4294967296 by omega) ω ω
 have h4:=mul_lt (m:=4294967295) (n:=4294967295) (show 0≤a%4294967296 by omega) (show 0≤b%4294967296 by omega) ω ω
 simp only[aP (show(0:Int)≤32 by omega),av,ph ha ha1,ph hb nC,Uu]
 generalize a/4294967296=a1 at*
 generalize a%4294967296=a0 at*
 generalize b/4294967296=b1 at*
 generalize b%4294967296=b0 at*
 generalize a*b=ab at*
 generalize a1*b1=p at*
 generalize a1*b0=q at*
 generalize a0*b1=r at*
 generalize a0*b0=s at*
 rw[eB (x:=q) ω ω,eB (x:=s) ω ω,eB (x:=r) ω ω,eB (x:=p) ω ω,eB (x:=q+s/4294967296) ω ω,
  ph ω ω,eB (x:=(q+s/4294967296)%4294967296+r) ω ω,eB (x:=p+(q+s/4294967296)/4294967296) ω ω,eB (x:=p+(q+s/4294967296)/4294967296+_) ω ω,qg]
 congr 2
 omega
theorem L9(N:Nat){x:Int}(h0: -9223372036854775808≤x)(h1:x<9223372036854775808):Wj N x=some (x.natAbs:Int):=by
 unfold Wj
 by_cases h:x<0
 ·rw[aQ h,aj,qg,qg];congr 1;omega
 ·rw[aP ω,av,qg];congr 1;omega
theorem ya(N:Nat){x y c:Int}(hx:0≤x)(hy:0≤y)(hc:0≤c)(EV:c≤1):uX N x y c=some ((x+y+c)%18446744073709551616,(x+y+c)/18446744073709551616):=by
 unfold uX;rw[ak ⟨hx,hy,hc,EV⟩]
theorem mI(N:Nat){x y c:Int}(hx:0≤x)(Sa:x<18446744073709551616)(hy:0≤y)(hy1:y<18446744073709551616)(hc:0≤c)(EV:c≤1):
  tM N x y c=some ((x-y-c)%18446744073709551616,if x<y+c then 1 else 0):=by
 unfold tM;rw[ak ⟨hx,Sa,hy,hy1,hc,EV⟩];congr 2;omega
structure yb(Y tv Ho gR Hp q rh:Int):Prop where
 hY:Y=tv*4294967296+Ho
 y1:2147483648≤tv
 y1':tv<4294967296
 y0:0≤Ho
 y0':Ho<4294967296
 u1:0≤Hp
 u1':Hp<4294967296
 lt:gR<Y
 q0:0≤q
 eq:q*tv+rh=gR
 r0:0≤rh
 q1:q≤4294967297
 ge:(gR*4294967296+Hp)/Y≤q
theorem yb.prod{Y tv Ho gR Hp q rh:Int}(g:yb Y tv Ho gR Hp q rh):q*Y=(gR-rh)*4294967296+q*Ho∧0≤q*Ho∧q*Ho≤18446744073709551615:=by
 have h:=mul_lt (m:=4294967297) (n:=4294967295) g.q0 g.y0 g.q1 (by have:=g.y0';omega)
 refine⟨?_,h.1,ω⟩
 rw[g.hY,mD,←lL,show q*tv=gR-rh from by have:=g.eq;omega]
theorem yb.pos{Y tv Ho gR Hp q rh:Int}(g:yb Y tv Ho gR Hp q rh):0<Y:=by have:=g.hY;have:=g.y1;have:=g.y0;omega
theorem yb.digit{Y tv Ho gR Hp q rh:Int}(g:yb Y tv Ho gR Hp q rh)(h:0≤gR):0≤(gR*4294967296+Hp)/Y∧(gR*4294967296+Hp)/Y<4294967296:=by
 have hp:=g.pos
 have:=g.u1;have:=g.u1';have:=g.lt
 refine⟨uN ω ω,?_⟩
 rw[AS hp];omega
theorem yb.next{Y tv Ho gR Hp q rh:Int}(g:yb Y tv Ho gR Hp q rh)(hu:0≤gR)(h:4294967296≤q∨4294967296*rh+Hp<q*Ho):yb Y tv Ho gR Hp (q-1) (rh+tv)∧1≤q:=by
 have hp:=g.pos
 have h1:=g.prod.1
 have hd:=g.digit hu
 have eV:(gR*4294967296+Hp)/Y<q:=by
  rcases h with h|h
  ·omega
  ·rw[AS hp];omega
 have:=g.q1;have:=g.r0;have:=g.y1
 exact⟨⟨g.hY,g.y1,g.y1',g.y0,g.y0',g.u1,g.u1',g.lt,ω,by rw[Int.sub_mul,A9];have:=g.eq;omega,ω,ω,ω⟩,ω⟩
theorem yb.first{Y tv Ho gR Hp:Int}(hY:Y=tv*4294967296+Ho)(y1:2147483648≤tv)(y1':tv<4294967296)(y0:0≤Ho)(y0':Ho<4294967296)(u1:0≤Hp)(u1':Hp<4294967296)(hu:0≤gR)(lt:gR<Y):
  yb Y tv Ho gR Hp (gR/tv) (gR-gR/tv*tv)∧gR-gR/tv*tv<4294967296∧0≤gR/tv*tv∧gR/tv*tv≤gR:=by
 have h1:=NV gR tv
 have h2:=AV gR (show 0<tv by omega)
 have h3:=Gl gR (show tv≠0 by omega)
 have w5:0≤gR/tv:=uN hu ω
 rw[jm]at h1
 have hq1:gR/tv≤4294967297:=by
  have:gR/tv<4294967298:=by rw[AS ω];omega
  omega
 have LO:(gR*4294967296+Hp)/Y≤gR/tv:=by
  have eV:gR*4294967296+Hp<(gR/tv+1)*Y:=by
   have e:gR+1≤(gR/tv+1)*tv:=by rw[p9,A9];omega
   have e2:(gR/tv+1)*Y=(gR/tv+1)*tv*4294967296+(gR/tv+1)*Ho:=by rw[hY,mD,lL]
   have e3:0≤(gR/tv+1)*Ho:=uQ ω y0
   omega
  have:(gR*4294967296+Hp)/Y<gR/tv+1:=by rw[AS ω];exact eV
  omega
 exact⟨⟨hY,y1,y1',y0,y0',u1,u1',lt,w5,ω,ω,hq1,LO⟩,ω,uQ w5 ω,ω⟩
def dr:List Int→Int
 |[]=>0
 |d::r=>d+4294967296*dr r
def VD(l:List Int):Prop:= ∀d∈l,0≤d∧d<4294967296
def mw(n:Nat):List Int:=if n=0 then []else((n%4294967296:Nat):Int)::mw (n/4294967296)
termination_by n
decreasing_by omega
theorem lh:mw 0=[]:=by rw[mw];rfl
theorem zd{n:Nat}(h:n≠0):mw n=((n%4294967296:Nat):Int)::mw (n/4294967296):=by rw[mw];simp[h]
theorem VD.nil:VD []:=λd h=>by cases h
theorem VD.cons{d:Int}{l:List Int}(h0:0≤d)(h1:d<4294967296)(h:VD l):VD (d::l):=λx hx=>by
 rcases bc.1 hx with rfl|hx
 ·exact⟨h0,h1⟩
 ·exact h x hx
theorem VD.tail{d:Int}{l:List Int}(h:VD (d::l)):VD l:=λx hx=>h x (a8 _ hx)
theorem VD.append{a b:List Int}(h:VD a)(k:VD b):VD (a++b):=λx hx=>(bn.1 hx).elim (h x) (k x)
theorem VD.drop{l:List Int}(h:VD l)(n:Nat):VD (l.drop n):=λx hx=>h x (mW hx)
theorem VD.take{l:List Int}(h:VD l)(n:Nat):VD (l.take n):=λx hx=>h x (lJ hx)
theorem VD.getD{l:List Int}(h:VD l)(n:Nat):0≤l.getD n 0∧l.getD n 0<4294967296:=by
 rw[aW]
 cases hn:l[n]? with
 |none=>exact⟨fU _,δ⟩
 |some x=>exact h x (List.mem_of_getElem? hn)
theorem VD.set{l:List Int}(h:VD l)(n:Nat){x:Int}(h0:0≤x)(h1:x<4294967296):VD (l.set n x):=λy hy=>by
 rcases uG hy with hy|rfl
 ·exact h y hy
 ·exact⟨h0,h1⟩
theorem VD.aje(n:Nat):VD (List.replicate n 0):=λx hx=>by rw[AO hx];exact⟨fU _,δ⟩
theorem lj: ∀{l:List Int},VD l→0≤dr l
 |[],_=>fU _
 |d::r,h=>by
  have:=lj h.tail
  have:=(h d (bt ..)).1
  simp only[dr];omega
theorem ir(n:Nat):dr (mw n)=n:=by
 induction n using Nat.strongRecOn with
 |_ n ih=>
  by_cases h:n=0
  ·subst h;rw[lh];rfl
  ·rw[zd h,dr,ih _ ω];omega
theorem kv(n:Nat):VD (mw n):=by
 induction n using Nat.strongRecOn with
 |_ n ih=>
  by_cases h:n=0
  ·subst h;rw[lh];exact VD.nil
  ·rw[zd h];exact VD.cons ω ω (ih _ ω)
theorem BO{n:Nat}:mw n=[]↔n=0:=by
 constructor
 ·intro h
  by_cases hn:n=0
  ·exact hn
  ·rw[zd hn]at h;cases h
 ·rintro rfl;exact lh
theorem vU(k:Nat): ∀n,n<4294967296^k→(mw n).length≤k:=by
 induction k with
 |zero=>
  intro n h;have:n=0:=by simpa using h
  subst this;rw[lh];simp
 |succ k ih=>
  intro n h
  by_cases hn:n=0
  ·subst hn;rw[lh];simp
  ·rw[zd hn,aT]
   have:=ih (n/4294967296) (by rw[NW ω];rw[A5]at h;exact h)
   omega
theorem Ma(k:Nat): ∀n,(mw n).length≤k→n<4294967296^k:=by
 induction k with
 |zero=>
  intro n h
  have:mw n=[]:=vz ω
  rw[BO]at this;subst this;decide
 |succ k ih=>
  intro n h
  by_cases hn:n=0
  ·subst hn;exact Nat.pow_pos δ
  ·rw[zd hn,aT]at h
   have:=ih (n/4294967296) ω
   rw[NW ω]at this
   rw[A5];exact this
def strip:List Int→List Int
 |[]=>[]
 |d::r=>if strip r=[]∧d=0 then []else d::strip r
theorem OV: ∀{l:List Int},VD l→strip l=mw (dr l).toNat
 |[],_=>by rw[show(dr []).toNat=0 from rfl,lh];rfl
 |d::r,h=>by
  have ih:=OV h.tail
  have h0:=lj h.tail
  obtain⟨h1,h2⟩:=h d (bt ..)
  simp only[strip,dr,ih,BO]
  split
  ·rename_i hc
   obtain⟨hc,rfl⟩:=hc
   have:dr r=0:=ω
   rw[this];exact lh.symm
  ·rename_i hc
   have kQ:(d+4294967296*dr r).toNat≠0:=λhe=>hc ⟨ω,ω⟩
   rw[zd kQ]
   congr 1
   ·omega
   ·congr 1;omega
theorem Hr: ∀(l:List Int) (x:Int),strip (l++[x])=if x=0 then strip l else l++[x]
 |[],x=>by simp[strip]
 |d::r,x=>by
  simp only[m0,strip,Hr r x]
  split
  ·rfl
  ·simp
theorem iW(l:List Int){k:Nat}(h:k<l.length):l.take (k+1)=l.take k++[l.getD k 0]:=by
 rw[List.take_succ_eq_append_getElem h,aW,bl h];rfl
theorem Ko(N:Nat)(l:List Int)(hl:l.length<68719476736): ∀(k n:Nat),k≤l.length→k<n→pj.l2 N n l (k:Int)=some (strip (l.take k))
 |0,n+1,_,_=>by
  unfold pj.l2 pj.fI
  simp (disch:=omega) only[aQ,aP,fO,fH,ec,eN,aU,bH,c9,ed,aw,eB,aj,av,bg,dt,ar,aG,dN,af,aS,aK,bU,c7,aT,ca]
  simp[strip]
 |k+1,n+1,hk,hn=>by
  unfold pj.l2 pj.fI
  have e:((k+1:Nat):Int)-1=(k:Int):=ω
  simp (disch:=omega) only[aQ,aP,fO,fH,ec,eN,aU,bH,c9,ed,aw,eB,aj,av,bg,dt,ar,aG,dN,af,aS,aK,bU,c7,aT,ca,e]
  have ih:=Ko N l hl k n ω ω
  rw[iW l ω,Hr]
  by_cases h:l.getD k 0=0
  ·rw[ec h,aj,ih,ak h]
  ·rw[eN h,av,ah h]
   simp only[dN,cJ]
theorem Mb(N:Nat){l:List Int}(h:VD l)(hN:l.length<N)(hl:l.length<68719476736):pj N l=some (mw (dr l).toNat):=by
 unfold pj pj.b
 rw[Ko N l hl l.length N (aH _) hN,im,OV h]
def cF(v:Int):aM:=(decide (v<0),(mw v.natAbs,()))
theorem pR(N:Nat)(neg:Bool){l:List Int}(h:VD l)(hN:l.length<N)(hl:l.length<68719476736):Wk N neg l=some (cF (if neg then-dr l else dr l)):=by
 unfold Wk
 rw[Mb N h hN hl,ar]
 have h0:=lj h
 cases neg
 ·simp only[av,cF,jO,fE]
  rw[bu ω]
  congr 4;omega
 ·simp only[aj,cF,g9]
  have e:(-dr l).natAbs=(dr l).toNat:=ω
  rw[e]
  congr 2
  by_cases hz:dr l=0
  ·rw[hz,dN,lh,aP (by simp),bu ω]
  ·have:0<(mw (dr l).toNat).length:=by
    apply p3.2
    intro hd;rw[BO]at hd;omega
   rw[aQ ω,aV ω]
theorem size_eq(N:Nat)(hN:1000≤N){u:Int}(h0:0≤u)(h1:u<18446744073709551616):F83 N u=some (mw u.toNat):=by
 unfold F83
 rw[ph h0 h1,Uu]
 have hv:VD [u%4294967296,u/4294967296]:=VD.cons ω ω (VD.cons ω ω VD.nil)
 simp (disch:=omega) only[aQ,aP,fO,fH,ec,eN,aU,bH,c9,ed,aw,eB,aj,av,bg,dt,ar,aG,dN,af,aS,aK,bU,c7,aT,ca,Mb N hv (by simp;omega) (by simp)]
 congr 2
 simp only[dr];omega
theorem da(N:Nat)(hN:1000≤N){x:Int}(h0: -9223372036854775808≤x)(h1:x<9223372036854775808):kR N x=some (cF x):=by
 unfold kR
 have hd: ∀n:Nat,n<18446744073709551616→(mw n).length≤2:=λn h=>vU 2 n (by simpa using h)
 by_cases h:x<0
 ·have e:W .u64 (0-W .u64 x)= -x:=by rw[qg,qg];omega
  simp only[aQ h,aj,e,size_eq N hN (show 0≤ -x by omega) ω,ar]
  have:=hd (-x).toNat ω
  rw[pR N true (kv _) ω ω,ir,ak rfl,show-(((-x).toNat:Nat):Int)=x from by omega];rfl
 ·have e:W .u64 x=x:=eB ω ω
  simp only[aP (show 0≤x by omega),av,e,size_eq N hN (show 0≤x by omega) ω,ar]
  have:=hd x.toNat ω
  rw[pR N false (kv _) ω ω,ir,ah pJ,uI ω];rfl
theorem yc(N:Nat)(l:List Int)(i:Nat):F93 N l (i:Int)=some (l.getD i 0):=by
 unfold F93
 by_cases h:i<l.length
 ·simp (disch:=omega) only[aQ,aP,fO,fH,ec,eN,aU,bH,c9,ed,aw,eB,aj,av,bg,dt,ar,aG,dN,af,aS,aK,bU,c7,aT,ca]
 ·simp (disch:=omega) only[aQ,aP,fO,fH,ec,eN,aU,bH,c9,ed,aw,eB,aj,av,bg,dt,ar,aG,dN,af,aS,aK,bU,c7,aT,ca]
  rw[aW,il ω];rfl
theorem lS(l:List Int)(i:Nat):dr (l.drop i)=l.getD i 0+4294967296*dr (l.drop (i+1)):=by
 by_cases h:i<l.length
 ·rw[ri h,dr,aW,bl h];rfl
 ·rw[jN ω,jN ω,aW,il ω];rfl
theorem OW(N:Nat){a b:List Int}(ha:VD a)(hb:VD b)(Ai:a.length≤1000000)(Sd:b.length≤1000000): ∀(m n i:Nat) (out:List Int) (c:Int),a.length+b.length+2-i≤m→m<n→out.length=i→i≤a.length+b.length+1→0≤c→c≤1→(a.length≤i→b.length≤i→i=max a.length b.length∨c=0)→
  ∃r,wT.l4 N n a b out c (i:Int)=some (out++r)∧VD r∧dr r=dr (a.drop i)+dr (b.drop i)+c∧r.length≤m
 |m,0,i,out,c,_,hn,_,_,_,_,_=>ω
 |m,n+1,i,out,c,hm,hn,ho,hi,T4,EV,hz=>by
  unfold wT.l4 wT.dL
  by_cases OX:a.length≤i∧b.length≤i∧c=0
  ·obtain⟨h1,h2,rfl⟩:=OX
   simp (disch:=omega) only[aQ,aP,fO,fH,ec,eN,aU,bH,c9,ed,aw,eB,aj,av,bg,dt,ar,aG,dN,af,aS,aK,bU,c7,aT,ca]
   exact⟨[],by simp,VD.nil,by rw[jN h1,jN h2];rfl,bw _⟩
  ·obtain⟨ga0,ga1⟩:=ha.getD i
   obtain⟨gb0,gb1⟩:=hb.getD i
   have step: ∃r,wT.j6 N (wT.l4 N n) a b out c (i:Int)=some (out++r)∧VD r∧dr r=dr (a.drop i)+dr (b.drop i)+c∧r.length≤m:=by
    unfold wT.j6 wT.OY
    have Bp:i≤a.length+b.length:=by
     by_cases h1:a.length≤i∧b.length≤i
     ·rcases hz h1.1 h1.2 with h|h
      ·omega
      ·exact absurd ⟨h1.1,h1.2,h⟩ OX
     ·omega
    simp only[yc,ar]
    generalize hga:a.getD i 0=x at*
    generalize hgb:b.getD i 0=y at*
    rw[eB (x:=x+y) ω ω,eB (x:=c+(x+y)) ω ω,ph ω ω,Uu]
    simp (disch:=omega) only[aQ,aP,fO,fH,ec,eN,aU,bH,c9,ed,aw,eB,aj,av,bg,dt,ar,aG,dN,af,aS,aK,bU,c7,aT,ca]
    obtain⟨r,hr,hv,hs,J9⟩:=OW N ha hb Ai Sd (m-1) n (i+1) (out++[(c+(x+y))%4294967296]) ((c+(x+y))/4294967296) ω ω (by simp[ho]) ω ω ω (λh1 h2=>by
     by_cases h3:a.length≤i∧b.length≤i
     ·right
      rw[←hga,←hgb,aW,il h3.1,aW,il h3.2]
      simp only[Option.getD_none];omega
     ·left;omega)
    refine⟨(c+(x+y))%4294967296::r,by rw[hr];simp,VD.cons ω ω hv,?_,by rw[aT];omega⟩
    rw[dr,hs,lS a i,lS b i,hga,hgb];omega
   by_cases h1:i<a.length
   ·simp (disch:=omega) only[aQ,aj];exact step
   ·by_cases h2:i<b.length
    ·simp (disch:=omega) only[aQ,aP,aj,av];exact step
    ·have:0<c:=ω
     simp (disch:=omega) only[aQ,aP,aj,av];exact step
theorem Uv: ∀{l:List Int},VD l→dr l<4294967296^l.length
 |[],_=>by simp[dr]
 |d::r,h=>by
  have ih:=Uv h.tail
  obtain⟨h1,h2⟩:=h d (bt ..)
  rw[dr,aT,A6]
  generalize (4294967296:Int)^r.length=p at*
  omega
theorem OZ(N:Nat)(hN:4000000≤N){a b:List Int}(ha:VD a)(hb:VD b)(Ai:a.length≤1000000)(Sd:b.length≤1000000): ∃r,wT N a b=some r∧VD r∧dr r=dr a+dr b∧r.length≤2000002:=by
 unfold wT wT.b
 obtain⟨r,hr,hv,hs,hl⟩:=OW N ha hb Ai Sd (a.length+b.length+2) N 0 [] 0 ω ω rfl ω ω ω (λ_ _=> .inr rfl)
 exact⟨r,hr,hv,by simpa using hs,ω⟩
theorem Hs(N:Nat){a b:List Int}(ha:VD a)(hb:VD b)(Ai:a.length≤1000000): ∀(m n i:Nat) (out:List Int) (c:Int),a.length-i≤m→m<n→out.length=i→i≤a.length→0≤c→c≤1→0≤dr (a.drop i)-dr (b.drop i)-c→
  ∃r,FH.l4 N n a b out c (i:Int)=some (out++r)∧VD r∧dr r=dr (a.drop i)-dr (b.drop i)-c∧r.length≤m
 |m,0,i,out,c,_,hn,_,_,_,_,_=>ω
 |m,n+1,i,out,c,hm,hn,ho,hi,T4,EV,hz=>by
  unfold FH.l4 FH.dL
  by_cases h1:i<a.length
  ·obtain⟨ga0,ga1⟩:=ha.getD i
   obtain⟨gb0,gb1⟩:=hb.getD i
   rw[lS a i,lS b i]at*
   simp only[yc,ar,aG]
   generalize hga:a.getD i 0=x at*
   generalize hgb:b.getD i 0=y at*
   rw[eB (x:=y+c) ω ω,eB (x:=x+4294967296) ω ω]
   by_cases eV:x<y+c
   ·rw[eB (x:=x+4294967296-(y+c)) ω ω]
    simp (disch:=omega) only[aQ,aP,fO,fH,ec,eN,aU,bH,c9,ed,aw,eB,aj,av,bg,dt,ar,aG,dN,af,aS,aK,bU,c7,aT,ca,hga,hgb]
    obtain⟨r,hr,hv,hs,J9⟩:=Hs N ha hb Ai (m-1) n (i+1) (out++[x+4294967296-(y+c)]) 1 ω ω (by simp[ho]) ω ω ω ω
    refine⟨(x+4294967296-(y+c))::r,by rw[hr];simp,VD.cons ω ω hv,by rw[dr,hs];omega,by rw[aT];omega⟩
   ·rw[eB (x:=x-(y+c)) ω ω]
    simp (disch:=omega) only[aQ,aP,fO,fH,ec,eN,aU,bH,c9,ed,aw,eB,aj,av,bg,dt,ar,aG,dN,af,aS,aK,bU,c7,aT,ca,hga,hgb]
    obtain⟨r,hr,hv,hs,J9⟩:=Hs N ha hb Ai (m-1) n (i+1) (out++[x-(y+c)]) 0 ω ω (by simp[ho]) ω ω ω ω
    refine⟨(x-(y+c))::r,by rw[hr];simp,VD.cons ω ω hv,by rw[dr,hs];omega,by rw[aT];omega⟩
  ·simp (disch:=omega) only[aQ,aP,fO,fH,ec,eN,aU,bH,c9,ed,aw,eB,aj,av,bg,dt,ar,aG,dN,af,aS,aK,bU,c7,aT,ca]
   have h0:=lj (hb.drop i)
   rw[jN (l:=a) ω]at hz ⊢
   simp only[dr]at hz ⊢
   exact⟨[],by simp,VD.nil,by simp only[dr];omega,bw _⟩
theorem Ea(N:Nat)(hN:4000000≤N){a b:List Int}(ha:VD a)(hb:VD b)(Ai:a.length≤1000000)(h:dr b≤dr a): ∃r,FH N a b=some r∧VD r∧dr r=dr a-dr b∧r.length≤1000000:=by
 unfold FH FH.b
 obtain⟨r,hr,hv,hs,hl⟩:=Hs N ha hb Ai a.length N 0 [] 0 ω ω rfl ω ω ω (by simp;omega)
 exact⟨r,hr,hv,by simpa using hs,ω⟩
theorem rT: ∀(l:List Int) (x:Int),dr (l++[x])=dr l+4294967296^l.length*x
 |[],x=>by simp[dr]
 |d::r,x=>by
  rw[m0,dr,rT r x,dr,aT,A6,jm _ 4294967296,lL,mD];omega
theorem O0{a b:List Int}(ha:VD a)(hb:VD b){k:Nat}(h1:k<a.length)(h2:k<b.length)(eV:a.getD k 0<b.getD k 0):dr (a.take (k+1))<dr (b.take (k+1)):=by
 rw[iW a h1,iW b h2,rT,rT]
 have l1:(a.take k).length=k:=by rw[cf];omega
 have l2:(b.take k).length=k:=by rw[cf];omega
 have v1:=Uv (ha.take k)
 have v2:=lj (hb.take k)
 rw[l1]at*
 rw[l2]
 generalize (4294967296:Int)^k=p at*
 have hp:0<p:=by have:=lj (ha.take k);omega
 have:=yT (show a.getD k 0+1≤b.getD k 0 by omega) (Int.le_of_lt hp)
 rw[mD,Int.mul_one]at this
 omega
def vV(x:Int):Int:=if x<0 then-1 else if 0<x then 1 else 0
theorem O1(N:Nat){a b:List Int}(ha:VD a)(hb:VD b)(hl:a.length=b.length)(Ai:a.length≤1000000): ∀(k n:Nat),k≤a.length→k<n→E0.l6 N n a b ((k:Int)-1)=some (vV (dr (a.take k)-dr (b.take k)))
 |k,0,_,hn=>ω
 |0,n+1,_,_=>by
  unfold E0.l6 E0.u7
  simp (disch:=omega) only[aQ,aP,fO,fH,ec,eN,aU,bH,c9,ed,aw,eB,aj,av,bg,dt,ar,aG,dN,af,aS,aK,bU,c7,aT,ca]
  simp[vV,dr]
 |k+1,n+1,hk,hn=>by
  unfold E0.l6 E0.u7
  have e:((k+1:Nat):Int)-1=(k:Int):=ω
  rw[e]
  simp (disch:=omega) only[aQ,aP,fO,fH,ec,eN,aU,bH,c9,ed,aw,eB,aj,av,bg,dt,ar,aG,dN,af,aS,aK,bU,c7,aT,ca]
  by_cases h1:a.getD k 0<b.getD k 0
  ·rw[aQ h1,aj]
   have:=O0 ha hb (k:=k) ω ω h1
   rw[vV,ak ω]
  ·rw[aP ω,av]
   by_cases h2:b.getD k 0<a.getD k 0
   ·rw[aQ h2,aj]
    have:=O0 hb ha (k:=k) ω ω h2
    rw[vV,ah ω,ak ω]
   ·rw[aP ω,av,O1 N ha hb hl Ai k n ω ω]
    congr 2
    rw[iW a ω,iW b ω,rT,rT,show a.getD k 0=b.getD k 0 from by omega,cf,cf,hl]
    omega
theorem O2(N:Nat)(hN:4000000≤N)(m k:Nat)(hm:(mw m).length≤1000000)(hk:(mw k).length≤1000000):E0 N (mw m) (mw k)=some (vV ((m:Int)-k)):=by
 unfold E0 E0.b
 by_cases h:(mw m).length=(mw k).length
 ·simp (disch:=omega) only[aQ,aP,fO,fH,ec,eN,aU,bH,c9,ed,aw,eB,aj,av,bg,dt,ar,aG,dN,af,aS,aK,bU,c7,aT,ca]
  rw[O1 N (kv m) (kv k) h hm (mw m).length N (aH _) ω,im,h,im,ir,ir]
 ·rw[eN ω,dt,aj]
  by_cases eV:(mw m).length<(mw k).length
  ·rw[aQ ω,aj]
   have h1:=Ma ((mw k).length-1) m ω
   have h2: ¬(k<4294967296^((mw k).length-1)):=λh=>by have:=vU _ _ h;omega
   rw[vV,ak ω]
  ·rw[aP ω,av]
   have h1:=Ma ((mw m).length-1) k ω
   have h2: ¬(m<4294967296^((mw m).length-1)):=λh=>by have:=vU _ _ h;omega
   rw[vV,ah ω,ak ω]
def Fit(v:Int)(k:Nat):Prop:=v.natAbs<4294967296^k
theorem Fit.len{v:Int}{k:Nat}(h:Fit v k):(mw v.natAbs).length≤k:=vU k _ h
theorem Fit.mono{v:Int}{j k:Nat}(h:Fit v j)(hjk:j≤k):Fit v k:=nX h (Nat.pow_le_pow_right δ hjk)
theorem Fit.neg{v:Int}{k:Nat}(h:Fit v k):Fit (-v) k:=by unfold Fit at*;rwa [Int.natAbs_neg]
theorem Fit.i64{v:Int}(h0: -9223372036854775808≤v)(h1:v<9223372036854775808):Fit v 2:=by
 unfold Fit
 rw[show(4294967296:Nat)^2=18446744073709551616 from by decide];omega
theorem Fit.add{u v:Int}{k:Nat}(hu:Fit u k)(hv:Fit v k):Fit (u+v) (k+1):=by
 unfold Fit at*
 rw[A5]
 have:(u+v).natAbs≤u.natAbs+v.natAbs:=Int.natAbs_add_le u v
 generalize 4294967296^k=p at*
 omega
theorem Fit.mul{u v:Int}{j k:Nat}(hu:Fit u j)(hv:Fit v k):Fit (u*v) (j+k):=by
 unfold Fit at*
 rw[Gm,Nat.pow_add]
 exact Nat.mul_lt_mul'' hu hv
theorem Fit.of_le{u v:Int}{k:Nat}(hv:Fit v k)(h:u.natAbs≤v.natAbs):Fit u k:=Nat.lt_of_le_of_lt h hv
theorem om(a b:Bool):pb .bool a b=(a==b):=by simp[pb]
theorem iO(N:Nat)(hN:4000000≤N){u v:Int}(hu:Fit u 900000)(hv:Fit v 900000):Ak N (cF u) (cF v)=some (cF (u+v)):=by
 have lu:=hu.len
 have lv:=hv.len
 unfold Ak
 simp only[cF,om]
 by_cases hs:decide (u<0)=decide (v<0)
 ·rw[hs,xr,aj]
  obtain⟨r,hr,hvd,GZ,hl⟩:=OZ N hN (kv u.natAbs) (kv v.natAbs) ω ω
  simp only[hr,ar,pR N _ hvd ω ω,GZ,ir]
  congr 1
  show cF _=cF _
  congr 1
  by_cases h:v<0
  ·have:u<0:=by simpa [h]using hs
   rw[ak (aV h)];omega
  ·have: ¬u<0:=by simpa [h]using hs
   rw[ah (by simpa using h)];omega
 ·have hb:(decide (u<0)==decide (v<0))=false:=by simpa using hs
  rw[hb,av,O2 N hN _ _ ω ω,ar]
  by_cases hc:v.natAbs≤u.natAbs
  ·have h1:dx 0 (vV ((u.natAbs:Int)-v.natAbs))=true:=fO (by unfold vV;split<;>(try split)<;>omega)
   obtain⟨r,hr,hvd,GZ,hl⟩:=Ea N hN (kv u.natAbs) (kv v.natAbs) ω (by rw[ir,ir];omega)
   simp only[h1,aj,hr,ar,pR N _ hvd ω ω,GZ,ir]
   congr 1
   show cF _=cF _
   congr 1
   by_cases h:u<0
   ·have: ¬v<0:=λhv=>hs (by simp[h,hv])
    rw[ak (aV h)];omega
   ·have:v<0:=NK λhv=>hs (by simp[h,hv])
    rw[ah (by simpa using h)];omega
  ·have h1:dx 0 (vV ((u.natAbs:Int)-v.natAbs))=false:=fH (by unfold vV;rw[ak ω];omega)
   obtain⟨r,hr,hvd,GZ,hl⟩:=Ea N hN (kv v.natAbs) (kv u.natAbs) ω (by rw[ir,ir];omega)
   simp only[h1,av,hr,ar,pR N _ hvd ω ω,GZ,ir]
   congr 1
   show cF _=cF _
   congr 1
   by_cases h:v<0
   ·have: ¬u<0:=λhu=>hs (by simp[h,hu])
    rw[ak (aV h)];omega
   ·have:u<0:=NK λhu=>hs (by simp[h,hu])
    rw[ah (by simpa using h)];omega
theorem pk(N:Nat)(hN:4000000≤N){u:Int}(hu:Fit u 900000):X7 N (cF u)=some (cF (-u)):=by
 have lu:=hu.len
 unfold X7
 simp only[cF]
 simp only[pR N _ (kv u.natAbs) ω ω,ar,ir]
 congr 1
 show cF _=cF _
 congr 1
 by_cases h:u<0
 ·rw[aV h,bg,ah pJ];omega
 ·rw[bu h,dt,ak rfl];omega
theorem BP(N:Nat)(hN:4000000≤N){u:Int}(hu:Fit u 900000):Wl N (cF u)=some (cF u.natAbs):=by
 have lu:=hu.len
 unfold Wl
 simp only[cF]
 simp only[pR N _ (kv u.natAbs) ω ω,ar,ir,jO,fE]
 rfl
theorem ry(N:Nat)(hN:4000000≤N){u v:Int}(hu:Fit u 900000)(hv:Fit v 900000):SC N (cF u) (cF v)=some (cF (u-v)):=by
 unfold SC
 simp only[pk N hN hv,ar,iO N hN hu hv.neg,Int.sub_eq_add_neg]
theorem pS(N:Nat)(u:Int):Uw N (cF u)=some (vV u):=by
 unfold Uw
 simp only[cF]
 by_cases h:u=0
 ·subst h
  rw[show(0:Int).natAbs=0 from rfl,lh]
  simp (disch:=omega) only[aQ,aP,fO,fH,ec,eN,aU,bH,c9,ed,aw,eB,aj,av,bg,dt,ar,aG,dN,af,aS,aK,bU,c7,aT,ca]
  rfl
 ·have:0<(mw u.natAbs).length:=by
   apply p3.2
   intro hd;rw[BO]at hd;omega
  rw[eN ω,av]
  by_cases hn:u<0
  ·rw[aV hn,aj,vV,ak hn]
  ·rw[bu hn,av,vV,ah hn,ak ω]
theorem Ht(N:Nat)(hN:4000000≤N){u v:Int}(hu:Fit u 900000)(hv:Fit v 900000):Nu N (cF u) (cF v)=some (vV (u-v)):=by
 unfold Nu
 simp only[ry N hN hu hv,ar,pS]
theorem Ux(l:List Int)(h: ∀x∈l,-9223372036854775808≤x∧x<9223372036854775808): -(9223372036854775808*l.length)≤l.sum∧l.sum≤9223372036854775808*l.length:=by
 induction l with
 |nil=>simp
 |cons x l ih=>
  have:=ih (λy hy=>h y (a8 _ hy))
  obtain⟨h1,h2⟩:=h x (bt ..)
  rw[cK,aT]
  omega
theorem BQ{v:Int}{n:Nat}(hn:n≤1000000)(h0: -(9223372036854775808*n)≤v)(h1:v≤9223372036854775808*n):Fit v 3:=by
 unfold Fit
 rw[show(4294967296:Nat)^3=79228162514264337593543950336 from by decide]
 omega
theorem u9{l:List Int}(h: ∀x∈l,-9223372036854775808≤x∧x<9223372036854775808)(i:Nat): -9223372036854775808≤l.getD i 0∧l.getD i 0<9223372036854775808:=by
 rw[aW]
 cases hn:l[i]? with
 |none=>exact⟨δ,δ⟩
 |some x=>exact h x (List.mem_of_getElem? hn)
theorem mJ(l:List Int){i:Nat}(h:i<l.length):(l.take (i+1)).sum=(l.take i).sum+l.getD i 0:=by
 rw[iW l h];simp
theorem BR(N:Nat)(hN:4000000≤N){l:List Int}(h: ∀x∈l,-9223372036854775808≤x∧x<9223372036854775808)(hl:l.length≤1000000): ∀(m n i:Nat) (z:aM),l.length-i≤m→m<n→i≤l.length→
  qL.l3 N n l z (cF (l.take i).sum) (i:Int)=some (cF l.sum)
 |m,0,i,z,_,hn,_=>ω
 |m,n+1,i,z,hm,hn,hi=>by
  unfold qL.l3 qL.m3
  by_cases h1:i<l.length
  ·obtain⟨g0,g1⟩:=u9 h i
   have f1:=Ux (l.take i) (λx hx=>h x (lJ hx))
   rw[cf,iq ω]at f1
   have f2:Fit (l.take i).sum 900000:=(BQ (n:=i) ω f1.1 f1.2).mono ω
   have f3:Fit (l.getD i 0) 900000:=(Fit.i64 g0 g1).mono ω
   simp (disch:=omega) only[aQ,aP,fO,fH,ec,eN,aU,bH,c9,ed,aw,eB,aj,av,bg,dt,ar,aG,dN,af,aS,aK,bU,c7,aT,ca,da N ω g0 g1,iO N hN f2 f3]
   rw[←mJ l h1]
   exact BR N hN h hl (m-1) n (i+1) z ω ω ω
  ·simp (disch:=omega) only[aQ,aP,fO,fH,ec,eN,aU,bH,c9,ed,aw,eB,aj,av,bg,dt,ar,aG,dN,af,aS,aK,bU,c7,aT,ca]
   rw[iG ω]
theorem gX:cF 0=(false,([],())):=by unfold cF;rw[show(0:Int).natAbs=0 from rfl,lh];rfl
theorem Al(N:Nat)(hN:4000000≤N){l:List Int}(h: ∀x∈l,-9223372036854775808≤x∧x<9223372036854775808)(hl:l.length≤1000000):qL N l=some (cF l.sum):=by
 unfold qL qL.b
 have:=BR N hN h hl l.length N 0 (false,([],())) ω ω ω
 rw[mB,jo,gX]at this
 exact this
theorem Zo{a b:Int}(ha:0≤a)(ha1:a<4294967296)(hb:0≤b)(nC:b<4294967296):ss .or .u64 a (b*4294967296)=a+b*4294967296:=by
 rw[Ut ha ω ω ω]
 have h:=NF (i:=32) (b:=a.toNat) ω b.toNat
 have e:(b*4294967296).toNat=2^32*b.toNat:=ω
 rw[e,Nat.or_comm,←h];omega
theorem Wm{a b:Int}(ha:0≤a)(ha1:a<4294967296)(hb:0≤b)(nC:b<4294967296):ss .or .u64 (b*4294967296) a=a+b*4294967296:=by
 rw[Ut ω ω ha ω]
 have h:=NF (i:=32) (b:=a.toNat) ω b.toNat
 have e:(b*4294967296).toNat=2^32*b.toNat:=ω
 rw[e,←h];omega
theorem ajf{x:Int}(h0:0≤x):shl .u64 x 32=x*4294967296:=by rw[acS ω ω];rfl
def CX(v:Int):Int×Bool:=if-9223372036854775808≤v∧v<9223372036854775808 then(v,true)else(0,false)
theorem acU{n:Nat}(h:(mw n).length≤2):(mw n).getD 0 0+4294967296*(mw n).getD 1 0=n:=by
 have h1:=lS (mw n) 0
 have h2:=lS (mw n) 1
 rw[cJ,ir]at h1
 rw[jN (l:=mw n) (i:=1+1) h]at h2
 simp only[dr,gr]at h1 h2
 omega
theorem uz(N:Nat)(v:Int):yd N (cF v)=some (CX v):=by
 unfold yd
 simp only[cF]
 by_cases hl:2<(mw v.natAbs).length
 ·rw[aQ ω,aj,CX,ah]
  intro hh
  have:=vU 2 v.natAbs (by rw[show(4294967296:Nat)^2=18446744073709551616 from by decide];omega)
  omega
 ·have h2:=acU (n:=v.natAbs) ω
  obtain⟨a0,a1⟩:=(kv v.natAbs).getD 0
  obtain⟨b0,b1⟩:=(kv v.natAbs).getD 1
  have e0:=yc N (mw v.natAbs) 0
  have e1:=yc N (mw v.natAbs) 1
  simp only[Int.natCast_zero,Int.natCast_one]at e0 e1
  rw[aP ω,av,e0,e1]
  generalize (mw v.natAbs).getD 0 0=a at*
  generalize (mw v.natAbs).getD 1 0=b at*
  simp only[ar]
  rw[aP (show(0:Int)≤32 by omega),av,ajf b0,eB (x:=b*4294967296) ω ω,Zo a0 a1 b0 b1]
  have ev:a+b*4294967296=v.natAbs:=ω
  rw[ev]
  by_cases hn:v<0
  ·rw[aV hn,aj]
   by_cases L4:9223372036854775808<(v.natAbs:Int)
   ·rw[aQ L4,aj,CX,ah ω]
   ·rw[aP ω,av,CX,ak ω,qg,gK]
    congr 2
    split<;>omega
  ·rw[bu hn,av]
   by_cases L4:9223372036854775807<(v.natAbs:Int)
   ·rw[aQ L4,aj,CX,ah ω]
   ·rw[aP ω,av,CX,ak ω,aw ω ω]
    congr 2;omega
theorem O3: ∀(l:List Int) (k:Nat) (x:Int),k<l.length→dr (l.set k x)=dr l+4294967296^k*(x-l.getD k 0)
 |d::r,0,x,_=>by simp[dr];omega
 |d::r,k+1,x,h=>by
  have ih:=O3 r k x (by simpa using h)
  rw[List.set_cons_succ,dr,dr,ih,List.getD_cons_succ,A6,jm (4294967296^k) 4294967296,lL,mD];omega
theorem getD_set_ne(l:List Int){j k:Nat}(x:Int)(h:j≠k):(l.set j x).getD k 0=l.getD k 0:=by
 simp[aW,List.getElem?_set_ne h]
theorem nG(l:List Int){k:Nat}(x:Int)(h:k<l.length):(l.set k x).getD k 0=x:=by
 simp[aW,List.getElem?_set,h]
theorem vW(l:List Int){k:Nat}(h:l.length≤k):l.getD k 0=0:=by
 rw[aW,il h];rfl
theorem Eb(N:Nat)(K:aM→aM→aM→List Int→Int→Option aM){a b:List Int}(na nb:Bool)(z:aM)(ha:VD a)(hb:VD b)(i:Nat)(hi:i<a.length)(Ai:a.length≤100000)(Sd:b.length≤100000):
  ∀(m n j:Nat) (out:List Int) (c:Int),b.length+1-j≤m→m<n→VD out→out.length=a.length+b.length+1→0≤c→c<4294967296→(j≤b.length→ ∀k,i+b.length≤k→out.getD k 0=0)→(b.length<j→c=0∧j=b.length+1∧ ∀k,i+b.length+1≤k→out.getD k 0=0)→
  ∃Am,kI.l7 N K n (na,(a,())) (nb,(b,())) z out (i:Int) c (j:Int)=K (na,(a,())) (nb,(b,())) z Am ((i+1:Nat):Int)∧VD Am∧Am.length=out.length∧
   dr Am=dr out+4294967296^i*(4294967296^j*(a.getD i 0*dr (b.drop j)+c))∧ ∀k,i+1+b.length≤k→Am.getD k 0=0
 |m,0,j,out,c,_,hn,_,_,_,_,_,_=>ω
 |m,n+1,j,out,c,hm,hn,ho,xg,T4,EV,hz,FF=>by
  unfold kI.l7 kI.mK
  by_cases OX:b.length≤j∧c=0
  ·obtain⟨h1,rfl⟩:=OX
   simp (disch:=omega) only[aQ,aP,fO,fH,ec,eN,aU,bH,c9,ed,aw,eB,aj,av,bg,dt,ar,aG,dN,af,aS,aK,bU,c7,aT,ca]
   refine⟨out,rfl,ho,rfl,by rw[jN h1];simp[dr],λk hk=> ?_⟩
   by_cases hj:j≤b.length
   ·exact hz hj k ω
   ·exact(FF ω).2.2 k ω
  ·have Bq:j≤b.length:=by
    by_cases hj:j≤b.length
    ·exact hj
    ·exact absurd ⟨ω,(FF ω).1⟩ OX
   obtain⟨ga0,ga1⟩:=ha.getD i
   obtain⟨gb0,gb1⟩:=hb.getD j
   obtain⟨go0,go1⟩:=ho.getD (i+j)
   have step: ∃Am,kI.j9 N K (kI.l7 N K n) (na,(a,())) (nb,(b,())) z out (i:Int) c (j:Int)=K (na,(a,())) (nb,(b,())) z Am ((i+1:Nat):Int)∧VD Am∧Am.length=out.length∧
     dr Am=dr out+4294967296^i*(4294967296^j*(a.getD i 0*dr (b.drop j)+c))∧ ∀k,i+1+b.length≤k→Am.getD k 0=0:=by
    unfold kI.j9 kI.JF
    have eij:(i:Int)+(j:Int)=((i+j:Nat):Int):=rfl
    have hp:=mul_lt (m:=4294967295) (n:=4294967295) ga0 gb0 ω ω
    simp only[yc,ar,eij,aG]
    simp (disch:=omega) only[aQ,aP,fO,fH,ec,eN,aU,bH,c9,ed,aw,eB,aj,av,bg,dt,ar,aG,dN,af,aS,aK,bU,c7,aT,ca]
    generalize hx:out.getD (i+j) 0=x at*
    generalize ha':a.getD i 0=ai at*
    generalize eY:b.getD j 0=bj at*
    generalize hpe:ai*bj=p at*
    have hpz:b.length≤j→p=0∧x=0:=λh=>by
     rw[vW b h]at eY
     refine⟨by rw[←hpe,←eY,A7],?_⟩
     rw[←hx];exact hz Bq _ ω
    rw[ph ω ω,Uu]
    have awm:(out.set (i+j) ((c+(x+p))%4294967296)).length=a.length+b.length+1:=by rw[bU];exact xg
    obtain⟨Am,h1,h2,h3,h4,h5⟩:=Eb N K na nb z ha hb i hi Ai Sd (m-1) n (j+1) (out.set (i+j) ((c+(x+p))%4294967296)) ((c+(x+p))/4294967296) ω ω (ho.set _ ω ω) awm ω ω
     (λh k hk=>by rw[getD_set_ne _ _ ω];exact hz Bq k hk)
     (λh=>by
      obtain⟨hp0,YV⟩:=hpz ω
      refine⟨ω,ω,λk hk=> ?_⟩
      rw[getD_set_ne _ _ ω];exact hz Bq k ω)
    refine⟨Am,h1,h2,by rw[h3,bU],?_,h5⟩
    rw[h4,O3 _ _ _ ω,hx,ha',lS b j,eY,mD ai,hpe,Int.pow_add,A6]
    have e1:ai*(4294967296*dr (b.drop (j+1)))=4294967296*(ai*dr (b.drop (j+1))):=Int.mul_left_comm _ _ _
    rw[e1]
    generalize ai*dr (b.drop (j+1))=y
    generalize (4294967296:Int)^i=P
    generalize (4294967296:Int)^j=R
    rw[lL R,lL P,Int.add_assoc,←mD,←mD]
    congr 3
    omega
   by_cases h1:j<b.length
   ·simp (disch:=omega) only[aQ,aj];exact step
   ·have:0<c:=ω
    simp (disch:=omega) only[aQ,aP,aj,av];exact step
theorem Ec(N:Nat)(hN:4000000≤N){a b:List Int}(na nb:Bool)(z:aM)(ha:VD a)(hb:VD b)(Ai:a.length≤100000)(Sd:b.length≤100000):
  ∀(m n i:Nat) (out:List Int),a.length-i≤m→m<n→i≤a.length→VD out→out.length=a.length+b.length+1→(∀k,i+b.length≤k→out.getD k 0=0)→dr out=dr (a.take i)*dr b→
  kI.l3 N n (na,(a,())) (nb,(b,())) z out (i:Int)=some (cF (if na=nb then dr a*dr b else-(dr a*dr b)))
 |m,0,i,out,_,hn,_,_,_,_,_=>ω
 |m,n+1,i,out,hm,hn,hi,ho,xg,hz,hv=>by
  unfold kI.l3 kI.m3
  by_cases h1:i<a.length
  ·simp only
   rw[aQ ω,aj]
   obtain⟨Am,e1,e2,e3,e4,e5⟩:=Eb N (kI.l3 N n) na nb z ha hb i h1 Ai Sd (b.length+1) N 0 out 0 ω ω ho xg ω ω (λ_ k hk=>hz k hk) (λh=>ω)
   rw[show((0:Nat):Int)=0 from rfl]at e1
   rw[e1]
   refine Ec N hN na nb z ha hb Ai Sd (m-1) n (i+1) Am ω ω ω e2 (by rw[e3];exact xg) (λk hk=>e5 k ω) ?_
   rw[e4,hv,iW a h1,rT,cf,iq ω,cJ,Int.pow_zero,A9,jq,p9,lL]
  ·simp only
   rw[aP ω,av]
   simp only[pR N _ ho ω ω,ar]
   rw[hv,iG ω,om]
   congr 2
   cases na<;>cases nb<;>simp
theorem sJ(N:Nat)(hN:4000000≤N){u v:Int}(hu:Fit u 90000)(hv:Fit v 90000):kI N (cF u) (cF v)=some (cF (u*v)):=by
 have lu:=hu.len
 have lv:=hv.len
 unfold kI kI.b
 simp only[cF]
 simp (disch:=omega) only[aQ,aP,fO,fH,ec,eN,aU,bH,c9,ed,aw,eB,aj,av,bg,dt,ar,aG,dN,af,aS,aK,bU,c7,aT,ca]
 have e:(((mw u.natAbs).length:Int)+((mw v.natAbs).length:Int)+1).toNat=(mw u.natAbs).length+(mw v.natAbs).length+1:=ω
 have:=Ec N hN (decide (u<0)) (decide (v<0)) (false,([],())) (kv u.natAbs) (kv v.natAbs) ω ω (mw u.natAbs).length N 0 (List.replicate ((mw u.natAbs).length+(mw v.natAbs).length+1) 0) ω ω ω (VD.aje _) (by simp)
  (λk _=>by rw[aW,F6];split<;>rfl) (by
   have: ∀n,dr (List.replicate n 0)=0:=λn=>by
    induction n with
    |zero=>rfl
    |succ n ih=>rw[AU,dr,ih];rfl
   rw[this];simp[dr])
 rw[ir,ir]at this
 have e2:(((mw u.natAbs).length+(mw v.natAbs).length:Nat):Int)+1=(mw u.natAbs).length+(mw v.natAbs).length+1:=ω
 first
 |(rw[e];refine this.trans ?_)
 |(refine(this).trans ?_)
 show some (cF _)=some (cF _)
 congr 2
 have key:(u.natAbs:Int)*v.natAbs=if decide (u<0)=decide (v<0)then u*v else-(u*v):=by
  by_cases h1:u<0<;>by_cases h2:v<0
  ·rw[ak (by simp[h1,h2]),show(u.natAbs:Int)= -u from by omega,show(v.natAbs:Int)= -v from by omega,Int.neg_mul_neg]
  ·rw[ah (by simp[h1,h2]),show(u.natAbs:Int)= -u from by omega,show(v.natAbs:Int)=v from by omega,Int.neg_mul]
  ·rw[ah (by simp[h1,h2]),show(u.natAbs:Int)=u from by omega,show(v.natAbs:Int)= -v from by omega,Ba]
  ·rw[ak (by simp[h1,h2]),show(u.natAbs:Int)=u from by omega,show(v.natAbs:Int)=v from by omega]
 rw[key]
 split<;>simp
theorem acV{x:Int}(h0:0≤x)(h1:x<18446744073709551616):ss .and .u64 x 1=x%2:=by
 rw[OU h0 h1 ω ω]
 have:=ND x.toNat 1
 rw[show((1:Int).toNat)=2^1-1 from rfl,this]
 omega
theorem JG{l:List Int}{k:Nat}(x:Int)(h:k<l.length):dr ((l.set k x).drop k)=x+4294967296*dr (l.drop (k+1)):=by
 rw[lS,nG l x h,List.drop_set_of_lt ω]
theorem Kp(N:Nat){d:List Int}(hd:VD d)(hl:d.length≤100000)(hN:4000000≤N): ∀(k n:Nat) (out:List Int) (c:Int),k≤d.length→k<n→VD out→out.length=d.length→c=dr (d.drop k)%2→dr (out.drop k)=dr (d.drop k)/2→
  qM.l4 N n d out c ((k:Int)-1)=some (mw (dr d/2).toNat,dr d%2)
 |k,0,out,c,_,hn,_,_,_,_=>ω
 |0,n+1,out,c,_,_,ho,xg,hc,hv=>by
  unfold qM.l4 qM.dL
  simp (disch:=omega) only[aQ,aP,fO,fH,ec,eN,aU,bH,c9,ed,aw,eB,aj,av,bg,dt,ar,aG,dN,af,aS,aK,bU,c7,aT,ca,Mb N ho ω ω]
  rw[cJ,cJ]at hv
  rw[cJ]at hc
  rw[hv,hc]
 |k+1,n+1,out,c,hk,hn,ho,xg,hc,hv=>by
  unfold qM.l4 qM.dL
  have e:((k+1:Nat):Int)-1=(k:Int):=ω
  obtain⟨g0,g1⟩:=hd.getD k
  have hn0:=lj (hd.drop (k+1))
  have e1:=lS d k
  simp only[e,aG]
  rw[ajf ω]
  generalize hx:d.getD k 0=x at*
  rw[eB (x:=c*4294967296) ω ω,Wm g0 g1 ω ω]
  simp (disch:=omega) only[aQ,aP,fO,fH,ec,eN,aU,bH,c9,ed,aw,eB,aj,av,bg,dt,ar,aG,dN,af,aS,aK,bU,c7,aT,ca,aqq,acV]
  refine Kp N hd hl hN k n (out.set k ((x+c*4294967296)/2)) ((x+c*4294967296)%2) ω ω (ho.set _ ω ω) (by rw[bU];exact xg) (by rw[e1,hc];omega) ?_
  rw[JG _ ω,hv,e1]
  omega
theorem acW(N:Nat)(hN:4000000≤N)(m:Nat)(h:(mw m).length≤100000):qM N (mw m)=some (mw (m/2),((m%2:Nat):Int)):=by
 unfold qM qM.b
 simp (disch:=omega) only[aQ,aP,fO,fH,ec,eN,aU,bH,c9,ed,aw,eB,aj,av,bg,dt,ar,aG,dN,af,aS,aK,bU,c7,aT,ca]
 have:=Kp N (kv m) h hN (mw m).length N (List.replicate (mw m).length 0) 0 (aH _) ω (VD.aje _) (by simp) (by rw[m1];rfl) (by rw[m1,jN (by simp)];rfl)
 rw[ir]at this
 rw[this]
 congr 2
def bin(n:Nat):List Int:=if n=0 then []else((n%2:Nat):Int)::bin (n/2)
termination_by n
decreasing_by omega
theorem FI{n:Nat}(h:n≠0):bin n=((n%2:Nat):Int)::bin (n/2):=by rw[bin];simp[h]
theorem ye:bin 0=[]:=by rw[bin];rfl
def BS:List Int→Int
 |[]=>0
 |d::r=>d+2*BS r
theorem acX(n:Nat):BS (bin n)=n:=by
 induction n using Nat.strongRecOn with
 |_ n ih=>
  by_cases h:n=0
  ·subst h;rw[ye];rfl
  ·rw[FI h,BS,ih _ ω];omega
theorem acY(n:Nat): ∀d∈bin n,d=0∨d=1:=by
 induction n using Nat.strongRecOn with
 |_ n ih=>
  by_cases h:n=0
  ·subst h;rw[ye];intro d hd;cases hd
  ·rw[FI h];intro d hd
   rcases bc.1 hd with rfl|hd
   ·omega
   ·exact ih _ ω d hd
theorem acZ(k:Nat): ∀n,n<2^k→(bin n).length≤k:=by
 induction k with
 |zero=>
  intro n h;have:n=0:=by simpa using h
  subst this;rw[ye];simp
 |succ k ih=>
  intro n h
  by_cases hn:n=0
  ·subst hn;rw[ye];simp
  ·rw[FI hn,aT]
   have:=ih (n/2) (by rw[A5]at h;omega)
   omega
theorem Zp{n k:Nat}(h:n<4294967296^k):(bin n).length≤32*k:=acZ _ _ (nX h (by rw[Nat.pow_mul];exact aH _))
theorem Kq(N:Nat)(hN:4000000≤N)(x2 x3 x4 x5:aM): ∀(m n:Nat) (t:Nat) (bits:List Int),(bin t).length≤m→m<n→(mw t).length≤100000→bits.length+(bin t).length≤4000000→
  jf.l3 N n x2 x3 x4 x5 bits (mw t)=jf.l9 N N x2 x3 x4 x5 (bits++bin t) (false,([],())) (false,([],())) (((bits++bin t).length:Int)-1)
 |m,0,t,bits,_,hn,_,_=>ω
 |m,n+1,t,bits,hm,hn,hd,hb=>by
  unfold jf.l3 jf.m3
  by_cases ht:t=0
  ·subst ht
   rw[lh,ye]
   simp (disch:=omega) only[aQ,aP,fO,fH,ec,eN,aU,bH,c9,ed,aw,eB,aj,av,bg,dt,ar,aG,dN,af,aS,aK,bU,c7,aT,ca,cy]
  ·have Om:0<(mw t).length:=by
    apply p3.2
    intro h;rw[BO]at h;omega
   rw[FI ht]at hm hb ⊢
   rw[aT]at hm hb
   have hdl:(mw (t/2)).length≤100000:=by
    have:=Ma _ t hd
    exact vU _ _ (Nat.lt_of_le_of_lt (Nat.div_le_self _ _) this)
   simp (disch:=omega) only[aQ,aP,fO,fH,ec,eN,aU,bH,c9,ed,aw,eB,aj,av,bg,dt,ar,aG,dN,af,aS,aK,bU,c7,aT,ca,acW N hN t hd]
   rw[Kq N hN x2 x3 x4 x5 (m-1) n (t/2) (bits++[((t%2:Nat):Int)]) ω ω hdl (by simp;omega)]
   simp
theorem Wn(l:List Int){i:Nat}(h:i<l.length):BS (l.drop i)=l.getD i 0+2*BS (l.drop (i+1)):=by
 rw[ri h,BS,aW,bl h];rfl
theorem Ed: ∀{l:List Int},(∀d∈l,d=0∨d=1)→0≤BS l
 |[],_=>fU _
 |d::r,h=>by
  have h1:=Ed (l:=r) λx hx=>h x (a8 _ hx)
  have:=h d (bt ..)
  simp only[BS];omega
theorem vX: ∀(l:List Int) (i:Nat),(∀d∈l,d=0∨d=1)→BS (l.drop i)≤BS l
 |l,0,_=>fU _
 |[],i+1,_=>fU _
 |d::r,i+1,h=>by
  have h1:=vX r i λx hx=>h x (a8 _ hx)
  have h2:=Ed (l:=r) λx hx=>h x (a8 _ hx)
  have:=h d (bt ..)
  rw[List.drop_succ_cons,BS];omega
theorem vb(N:Nat)(hN:4000000≤N)(a d:Int)(hd:0<d)(Uy:Fit a 80000)(SD:Fit d 80000)(x4 x5:aM){bits:List Int}(hb: ∀x∈bits,x=0∨x=1)(hbv:BS bits=a.natAbs)(xK:bits.length≤4000000):
  ∀(k n:Nat) (q r:Int),k≤bits.length→k<n→0≤q→0≤r→r<d→BS (bits.drop k)=q*d+r→
  jf.l9 N n (cF a) (cF d) x4 x5 bits (cF q) (cF r) ((k:Int)-1)=some (cF (a/d),cF (a%d))
 |k,0,q,r,_,hn,_,_,_,_=>ω
 |0,n+1,q,r,_,_,hq,hr,kE,hv=>by
  unfold jf.l9 jf.vd
  rw[cJ,hbv]at hv
  have hqa:q≤a.natAbs:=by
   have:q*1≤q*d:=yT ω hq
   omega
  have fq:Fit q 900000:=(Uy.of_le (u:=q) ω).mono ω
  have fr:Fit r 900000:=(SD.of_le (u:=r) ω).mono ω
  have f1:Fit 1 900000:=(Fit.i64 (v:=1) ω ω).mono ω
  have fq':Fit (-q) 900000:=fq.neg
  have fd:Fit d 900000:=SD.mono ω
  rw[fH ω,av]
  by_cases ha:a<0
  ·have Yv:(a.natAbs:Int)= -a:=ω
   have e0:(cF a).1=true:=aV ha
   simp only[e0,bg,av,pS,ar]
   by_cases Yu:r=0
   ·subst Yu
    rw[ec (by unfold vV;simp),aj]
    simp only[pk N hN fq,ar]
    have e1:a=d*(-q):=by rw[Ba,jm];omega
    have e2:a/d= -q:=by rw[e1,Int.mul_ediv_cancel_left _ ω]
    have e3:a%d=0:=by rw[e1,Int.mul_emod_right]
    rw[e2,e3]
   ·rw[eN (by unfold vV;rw[ah ω,ak ω];omega),av]
    simp (disch:=omega) only[pk N hN fq,da N ω (show-9223372036854775808≤(1:Int)by omega) ω,ar,ry N hN fq' f1,ry N hN fd fr]
    have e1:a=(d-r)+d*(-q-1):=by rw[Int.mul_sub,Ba,Int.mul_one,jm];omega
    have e2:a/d= -q-1:=by
     rw[e1,NX _ _ ω,NS ω ω];omega
    have e3:a%d=d-r:=by rw[e1,NI,Int.emod_eq_of_lt ω ω]
    rw[e2,e3]
  ·have Yv:(a.natAbs:Int)=a:=ω
   have e0:(cF a).1=false:=bu ha
   simp only[e0,dt,aj]
   have e1:a=r+d*q:=by rw[jm];omega
   have e2:a/d=q:=by rw[e1,NX _ _ ω,NS hr kE];omega
   have e3:a%d=r:=by rw[e1,NI,Int.emod_eq_of_lt hr kE]
   rw[e2,e3]
 |k+1,n+1,q,r,hk,hn,hq,hr,kE,hv=>by
  unfold jf.l9 jf.vd
  have e:((k+1:Nat):Int)-1=(k:Int):=ω
  have hle:=vX bits k hb
  have awn:=vX bits (k+1) hb
  rw[hbv]at hle awn
  have hqa:q≤a.natAbs:=by
   have:q*1≤q*d:=yT ω hq
   omega
  have fq:Fit q 80000:=Uy.of_le ω
  have fr:Fit r 80000:=SD.of_le ω
  have fqq:=fq.add fq
  have frr:=fr.add fr
  have f1:Fit 1 80000:=(Fit.i64 (v:=1) ω ω).mono ω
  have hvk:=Wn bits (i:=k) ω
  have EY:bits.getD k 0=0∨bits.getD k 0=1:=by
   rw[aW,bl (show k<bits.length by omega)]
   exact hb _ (dF _)
  rw[e,fO ω,aj]
  have e2q:(q+q)*d=2*(q*d):=by rw[←Int.two_mul,lL]
  have aqu:(q+q+1)*d=2*(q*d)+d:=by rw[p9,e2q,A9]
  simp (disch:=omega) only[aQ,aP,fO,fH,ec,eN,aU,bH,c9,ed,aw,eB,aj,av,bg,dt,ar,aG,dN,af,aS,aK,bU,c7,aT,ca,iO N hN (fq.mono ω) (fq.mono ω),iO N hN (fr.mono ω) (fr.mono ω),da N ω (show-9223372036854775808≤(1:Int)by omega) ω]
  rcases EY with EY|EY
  ·rw[EY,eN ω,av]
   simp only[Ht N hN (frr.mono ω) (SD.mono ω),ar]
   by_cases LO:d≤r+r
   ·rw[fO (by unfold vV;split<;>(try split)<;>omega),aj]
    simp only[ry N hN (frr.mono ω) (SD.mono ω),iO N hN (fqq.mono ω) (f1.mono ω),ar]
    refine vb N hN a d hd Uy SD x4 x5 hb hbv xK k n _ _ ω ω ω ω ω ?_
    rw[hvk,EY,hv,aqu];omega
   ·rw[fH (by unfold vV;rw[ak ω];omega),av]
    refine vb N hN a d hd Uy SD x4 x5 hb hbv xK k n _ _ ω ω ω ω ω ?_
    rw[hvk,EY,hv,e2q];omega
  ·rw[EY,ec rfl,aj]
   have aqv:=frr.add (f1.mono (show 80000≤80001 by omega))
   simp only[iO N hN (frr.mono ω) (f1.mono ω),Ht N hN (aqv.mono ω) (SD.mono ω),ar]
   by_cases LO:d≤r+r+1
   ·rw[fO (by unfold vV;split<;>(try split)<;>omega),aj]
    simp only[ry N hN (aqv.mono ω) (SD.mono ω),iO N hN (fqq.mono ω) (f1.mono ω),ar]
    refine vb N hN a d hd Uy SD x4 x5 hb hbv xK k n _ _ ω ω ω ω ω ?_
    rw[hvk,EY,hv,aqu];omega
   ·rw[fH (by unfold vV;rw[ak ω];omega),av]
    refine vb N hN a d hd Uy SD x4 x5 hb hbv xK k n _ _ ω ω ω ω ω ?_
    rw[hvk,EY,hv,e2q];omega
theorem Uz(N:Nat)(hN:5000000≤N){a d:Int}(hd:0<d)(Uy:Fit a 80000)(SD:Fit d 80000):jf N (cF a) (cF d)=some (cF (a/d),cF (a%d)):=by
 unfold jf jf.b
 have xK:(bin a.natAbs).length≤32*80000:=Zp Uy
 have h1:=Kq N ω (cF a) (cF d) (false,([],())) (false,([],())) (bin a.natAbs).length N a.natAbs [] (aH _) ω (cA Uy.len ω) (by simp;omega)
 rw[cB]at h1
 refine h1.trans ?_
 rw[←gX]
 exact vb N ω a d hd Uy SD _ _ (acY _) (acX _) ω (bin a.natAbs).length N 0 0 (aH _) ω ω ω hd (by rw[m1];simp[BS])
def cH(v:Int):bS:=(v/18446744073709551616,(v%18446744073709551616,()))
theorem wmk{a b v:Int}(h1:a=v/18446744073709551616)(h2:b=v%18446744073709551616):((a,(b,())):bS)=cH v:=by
 unfold cH;rw[h1,h2]
theorem UA{a b v:Int}{α:Type}{c:α}(h1:a=v/18446744073709551616)(h2:b=v%18446744073709551616):(some (((a,(b,())):bS),c):Option (bS×α))=some (cH v,c):=by
 rw[wmk h1 h2]
theorem Zq{a b c d:Int}(h1:a=c)(h2:b=d):(some (a,b):Option (Int×Int))=some (c,d):=by rw[h1,h2]
theorem An(N:Nat){hi lo:Int}(h0:0≤hi)(h1:hi<9223372036854775808)(l0:0≤lo)(l1:lo<18446744073709551616):rz N false hi lo=some (cH (hi*18446744073709551616+lo),true):=by
 unfold rz rz.b
 rw[dt,aj,fH ω,av,aw ω ω]
 exact UA ω ω
theorem Hu(N:Nat){hi lo:Int}(h0:0≤hi)(l0:0≤lo)(l1:lo<18446744073709551616)(hm:hi*18446744073709551616+lo≤170141183460469231731687303715884105728):rz N true hi lo=some (cH (-(hi*18446744073709551616+lo)),true):=by
 unfold rz rz.b
 have hj:rz.j7 N hi lo c5=some (cH (-(hi*18446744073709551616+lo)),true):=by
  unfold rz.j7 rz.X9
  rw[mI N ω ω l0 l1 ω ω,ar]
  by_cases hl:lo=0
  ·subst hl
   rw[ah ω]
   rw[mI N ω ω h0 ω ω ω,ar,gK]
   exact UA (by split<;>omega) ω
  ·rw[ak ω]
   rw[mI N ω ω h0 ω ω ω,ar,gK]
   exact UA (by split<;>omega) ω
 rw[bg,av,aP ω,av]
 by_cases he:hi=9223372036854775808
 ·rw[ec he,aj,aP ω,av];exact hj
 ·rw[eN he,av];exact hj
theorem JH{a b:Int}(a0: -9223372036854775808≤a)(a1:a<9223372036854775808)(b0: -9223372036854775808≤b)(b1:b<9223372036854775808):
  0≤(a.natAbs:Int)*b.natAbs∧(a.natAbs:Int)*b.natAbs≤85070591730234615865843651857942052864:=by
 have:=mul_lt (m:=9223372036854775808) (n:=9223372036854775808) (show 0≤(a.natAbs:Int)by omega) (show 0≤(b.natAbs:Int)by omega) ω ω
 omega
theorem Mc(N:Nat){a b:Int}(a0: -9223372036854775808≤a)(a1:a<9223372036854775808)(b0: -9223372036854775808≤b)(b1:b<9223372036854775808):Wo N a b=some (cH (a*b)):=by
 unfold Wo
 have hm:=JH a0 a1 b0 b1
 simp only[L9 N a0 a1,L9 N b0 b1,ar,Hn N (show 0≤(a.natAbs:Int)by omega) ω (show 0≤(b.natAbs:Int)by omega) ω,om]
 obtain⟨m,hme⟩: ∃m,m=(a.natAbs:Int)*b.natAbs:=⟨_,rfl⟩
 rw[←hme]at hm ⊢
 have hd:m/18446744073709551616*18446744073709551616+m%18446744073709551616=m:=ω
 by_cases h1:a<0<;>by_cases h2:b<0
 ·rw[aQ h1,aQ h2,xr,bg,An N ω ω ω ω,ar,hd]
  have:m=a*b:=by rw[hme,show(a.natAbs:Int)= -a from by omega,show(b.natAbs:Int)= -b from by omega,Int.neg_mul_neg]
  rw[this]
 ·rw[aQ h1,aP (x:=b) ω,show(!(true==false))=true from rfl,Hu N ω ω ω ω,ar,hd]
  have:m= -(a*b):=by rw[hme,show(a.natAbs:Int)= -a from by omega,show(b.natAbs:Int)=b from by omega,Int.neg_mul]
  rw[this,Int.neg_neg]
 ·rw[aP (x:=a) ω,aQ h2,show(!(false==true))=true from rfl,Hu N ω ω ω ω,ar,hd]
  have:m= -(a*b):=by rw[hme,show(a.natAbs:Int)=a from by omega,show(b.natAbs:Int)= -b from by omega,Ba]
  rw[this,Int.neg_neg]
 ·rw[aP (x:=a) ω,aP (x:=b) ω,xr,bg,An N ω ω ω ω,ar,hd]
  have:m=a*b:=by rw[hme,show(a.natAbs:Int)=a from by omega,show(b.natAbs:Int)=b from by omega]
  rw[this]
theorem Zr(N:Nat){v:Int}(v0: -170141183460469231731687303715884105728≤v)(v1:v<170141183460469231731687303715884105728):ac0 N (cH v)=some ((v.natAbs:Int)/18446744073709551616,(v.natAbs:Int)%18446744073709551616):=by
 unfold ac0 cH
 dsimp only
 by_cases h:0≤v
 ·rw[fO ω,aj,eB ω ω]
  exact Zq ω ω
 ·rw[fH ω,av,mI N ω ω ω ω ω ω,ar]
  dsimp only
  rw[qg]
  by_cases hl:v%18446744073709551616=0
  ·rw[ah ω,mI N ω ω ω ω ω ω,ar]
   exact Zq ω ω
  ·rw[ak ω,mI N ω ω ω ω ω ω,ar]
   exact Zq ω ω
theorem ac1(N:Nat){v:Int}(v0: -170141183460469231731687303715884105728≤v)(v1:v<170141183460469231731687303715884105728):F92 N (cH v)=some (CX v):=by
 unfold F92 cH
 rw[aP ω,av]
 dsimp only
 have hw0: -9223372036854775808≤W .i64 (v%18446744073709551616)∧W .i64 (v%18446744073709551616)<9223372036854775808:=by rw[gK];split<;>omega
 rw[vT hw0.1 hw0.2]
 have hwv:W .i64 (v%18446744073709551616)=if 9223372036854775808≤v%18446744073709551616 then v%18446744073709551616-18446744073709551616 else v%18446744073709551616:=by rw[gK];split<;>split<;>omega
 rw[hwv]
 unfold CX
 by_cases h: -9223372036854775808≤v∧v<9223372036854775808
 ·rw[ak h]
  by_cases hn:v<0
  ·rw[ak (show 9223372036854775808≤v%18446744073709551616 by omega),ak ω,ec ω,bg,av]
   congr 2;omega
  ·rw[ah (show ¬9223372036854775808≤v%18446744073709551616 by omega),ah ω,ec ω,bg,av]
   congr 2;omega
 ·rw[ah h]
  by_cases hm:9223372036854775808≤v%18446744073709551616
  ·rw[ak hm,ak ω,eN ω,dt,aj]
  ·rw[ah hm,ah ω,eN ω,dt,aj]
end VM
end
section
namespace VM
open Go
theorem cond_not{α:Type}(b:Bool)(x y:α):cond (!b) x y=cond b y x:=by cases b<;>rfl
theorem bZ{α:Type}(a b:Int)(x y:α):cond (aX a b) x y=if a<b then x else y:=by
 by_cases h:a<b
 ·rw[aQ h,ak h];rfl
 ·rw[aP ω,ah h];rfl
theorem ct{α:Type}(a b:Int)(x y:α):cond (dx a b) x y=if a≤b then x else y:=by
 by_cases h:a≤b
 ·rw[fO h,ak h];rfl
 ·rw[fH ω,ah h];rfl
theorem aI{α:Type}(a b:Int)(x y:α):cond (aN a b) x y=if a=b then x else y:=by
 by_cases h:a=b
 ·rw[ec h,ak h];rfl
 ·rw[eN h,ah h];rfl
theorem fW{α:Type}(p:Prop) [Decidable p](x y:α):cond (decide p) x y=if p then x else y:=by
 by_cases h:p
 ·rw[aV h,ak h];rfl
 ·rw[bu h,ah h];rfl
theorem drop_cons{α:Type}{l:List α}{i:Nat}(h:i<l.length)(d:α):l.drop i=l.getD i d::l.drop (i+1):=by
 rw[ri h,aW,bl h];rfl
theorem ll{α σ β:Type}(l:List α)(d:α)(F:Nat→Int→σ→Option β)(g:List α→σ→Option β)(I:Nat→σ→Prop)
  (hs: ∀n i s,i<l.length→I i s→(∀s',I (i+1) s'→F n ((i+1:Nat):Int) s'=g (l.drop (i+1)) s')→F (n+1) (i:Int) s=g (l.getD i d::l.drop (i+1)) s)
  (he: ∀n s,I l.length s→F (n+1) (l.length:Int) s=g [] s): ∀m n i s,l.length-i≤m→m<n→i≤l.length→I i s→F n (i:Int) s=g (l.drop i) s
 |m,0,i,s,_,hn,_,_=>ω
 |m,n+1,i,s,hm,hn,hi,hI=>by
  by_cases h:i<l.length
  ·rw[drop_cons h d]
   exact hs n i s h hI λs' zJ=>ll l d F g I hs he (m-1) n (i+1) s' ω ω ω zJ
  ·have:i=l.length:=ω
   subst this
   rw[m1];exact he n s hI
theorem Ee{α β:Type}(l:List α)(d:α)(F:Nat→Int→Option β)(g:List α→Option β)
  (hs: ∀n i,i<l.length→F n ((i+1:Nat):Int)=g (l.drop (i+1))→F (n+1) (i:Int)=g (l.getD i d::l.drop (i+1)))
  (he: ∀n,F (n+1) (l.length:Int)=g []) (n:Nat) (hn:l.length<n):F n 0=g l:=by
 have:=ll (σ:=Unit) l d (λn i _=>F n i) (λl _=>g l) (λ_ _=>True) (λn i _ h _ hr=>hs n i h (hr () trivial)) (λn _ _=>he n) l.length n 0 () ω hn ω trivial
 simpa using this
theorem scan{F:Nat→Int→Option Bool}{len:Nat}(P:Nat→Prop) [DecidablePred P]
  (hs: ∀n i r,i<len→(∀j,j<i→P j)→F n ((i+1:Nat):Int)=r→F (n+1) (i:Int)=if P i then r else some false) {e:Bool} (he: ∀n,F (n+1) (len:Int)=some e):
  ∀m n i,len-i≤m→m<n→i≤len→(∀j,j<i→P j)→F n (i:Int)=some (decide (∀j,j<len→i≤j→P j)&&e)
 |m,0,i,_,hn,_,_=>ω
 |m,n+1,i,hm,hn,hi,hp=>by
  by_cases h:i<len
  ·rw[hs n i _ h hp rfl]
   by_cases hP:P i
   ·rw[ak hP,scan P hs he (m-1) n (i+1) ω ω ω (λj hj=>by
     by_cases Ah:j=i
     ·subst Ah;exact hP
     ·exact hp j ω)]
    congr 2
    rw[n6]
    refine⟨λhj j h2 h1=> ?_,λhj j h2 h1=>hj j h2 ω⟩
    by_cases Ah:j=i
    ·subst Ah;exact hP
    ·exact hj j h2 ω
   ·rw[ah hP,bu (λhj=>hP (hj i h (aH i)))];rfl
  ·have:i=len:=ω
   subst this
   rw[he n,aV (λj h2 h1=>absurd h2 ω)];rfl
theorem iB{F:Nat→Int→Option Bool}{len:Nat}(P:Nat→Prop) [DecidablePred P]{e:Bool}
  (hs: ∀n i r,i<len→(∀j,j<i→P j)→F n ((i+1:Nat):Int)=r→F (n+1) (i:Int)=if P i then r else some false) (he: ∀n,F (n+1) (len:Int)=some e) (n:Nat) (hn:len<n):
  F n 0=some (decide (∀j,j<len→P j)&&e):=by
 have:=scan P hs he len n 0 ω hn ω (λj hj=>absurd hj ω)
 rw[show((0:Nat):Int)=0 from rfl]at this
 rw[this]
 congr 2
 rw[n6]
 exact⟨λh j hj=>h j hj ω,λh j hj _=>h j hj⟩
end VM
end
