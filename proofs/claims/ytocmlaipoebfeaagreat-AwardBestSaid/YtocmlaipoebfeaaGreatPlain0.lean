/- A part of the proof of AwardBest of layer 25: what the functions compute, in plain words. -/
import Derived.Test.YtocmlaipoebfeaaGreatVm0
import GoSem.Claim
import Derived.Test.YtocmlaipoebfeaaGreatText
set_option linter.all false
section
namespace VM
open Go
theorem Ap(x:Int):W .u64 x=x%18446744073709551616:=by rw[xg];simp[IntKind.wrap,IntKind.bits,IntKind.signed]
theorem c6{x:Int}(h0:0≤x)(h1:x<18446744073709551616):W .u64 x=x:=by rw[Ap];omega
theorem jA(x:Int):W .i64 x=if 9223372036854775808≤x%18446744073709551616 then x%18446744073709551616-18446744073709551616 else x%18446744073709551616:=by
 rw[xg];simp[IntKind.wrap,IntKind.bits,IntKind.signed]
theorem aq{x:Int}(h0: -9223372036854775808≤x)(h1:x<9223372036854775808):W .i64 x=x:=by
 rw[jA];split<;>omega
theorem wf_u64{x:Int}:(Lit.int .u64 x).wf=true↔0≤x∧x≤18446744073709551615:=by simp[Lit.wf,IntKind.min,IntKind.max,IntKind.bits,IntKind.signed]
theorem aK{x y:Int}(h:x<y):aM x y=true:=by rw[rU];exact decide_eq_true h
theorem aF{x y:Int}(h:y≤x):aM x y=false:=by rw[rU];exact decide_eq_false (by omega)
theorem du{x y:Int}(h:x≤y):bS x y=true:=by rw[iL];exact decide_eq_true h
theorem dv{x y:Int}(h:y<x):bS x y=false:=by rw[iL];exact decide_eq_false (by omega)
theorem cg{x y:Int}(h:x=y):az x y=true:=by rw[eL];exact decide_eq_true h
theorem cI{x y:Int}(h:x≠y):az x y=false:=by rw[eL];exact decide_eq_false h
theorem aN{i:Int}{n:Nat}(h0:0≤i)(h1:i<n):aL i n=true:=by rw[Lu];exact decide_eq_true ⟨h0,h1⟩
theorem bB{n:Nat}(h:n<68719476736):small n=true:=by rw[xh];exact decide_eq_true (by simpa [sS]using h)
theorem bG{l c:Int}(h0:0≤l)(h1:l≤c)(h2:c<68719476736):fK l c=true:=by rw[z1];exact decide_eq_true (by simp only[sS];omega)
theorem cj{l h m n:Int}(h0:0≤l)(h1:l≤h)(h2:h≤m)(h3:m≤n):fi l h m n=true:=by rw[sT];exact decide_eq_true ⟨h0,h1,h2,h3⟩
theorem ae(n:Nat):(n:Int)+1=((n+1:Nat):Int):=rfl
theorem nq(x:Int)(h0:0≤x)(h1:x<18446744073709551616):(BitVec.ofInt 64 x).toNat=x.toNat:=by
 rw[BitVec.toNat_ofInt];congr 1;omega
theorem DL{x y:Int}(hx:0≤x)(P6:x<18446744073709551616)(hy:0≤y)(hy1:y<18446744073709551616):n5 .and .u64 x y=((x.toNat&&& y.toNat:Nat):Int):=by
 rw[oA]
 have h:((BitVec.ofInt 64 x&&& BitVec.ofInt 64 y).toNat)=x.toNat&&& y.toNat:=by rw[BitVec.toNat_and,nq x hx P6,nq y hy hy1]
 show IntKind.u64.wrap (((BitVec.ofInt 64 x&&& BitVec.ofInt 64 y).toNat:Nat):Int)=_
 rw[h,←xg]
 have:x.toNat&&& y.toNat≤x.toNat:=Nat.and_le_left
 exact c6 (by omega) (by omega)
theorem IM{x y:Int}(hx:0≤x)(P6:x<18446744073709551616)(hy:0≤y)(hy1:y<18446744073709551616):n5 .or .u64 x y=((x.toNat|||y.toNat:Nat):Int):=by
 rw[oA]
 have h:((BitVec.ofInt 64 x|||BitVec.ofInt 64 y).toNat)=x.toNat|||y.toNat:=by rw[BitVec.toNat_or,nq x hx P6,nq y hy hy1]
 show IntKind.u64.wrap (((BitVec.ofInt 64 x|||BitVec.ofInt 64 y).toNat:Nat):Int)=_
 rw[h,←xg]
 have:x.toNat|||y.toNat<2^64:=Nat.or_lt_two_pow (by omega) (by omega)
 exact c6 (by omega) (by omega)
theorem sm{x:Int}(h0:0≤x)(h1:x<18446744073709551616):n5 .and .u64 x 4294967295=x%4294967296:=by
 rw[DL h0 h1 (by omega) (by omega)]
 have:=Nat.and_two_pow_sub_one_eq_mod x.toNat 32
 rw[show((4294967295:Int).toNat)=2^32-1 from rfl,this]
 omega
theorem IN{x y:Int}(h0:0≤y)(h1:y≤64):shr .u64 x y=x/2^y.toNat:=by
 rw[Gz]
 have:min y.toNat IntKind.u64.bits=y.toNat:=by simp[IntKind.bits];omega
 rw[this,Int.fdiv_eq_ediv_of_nonneg]
 exact_mod_cast Nat.zero_le _
theorem MJ(x:Int):shr .u64 x 32=x/4294967296:=by rw[IN (by omega) (by omega)];rfl
theorem ahO(x:Int):shr .u64 x 1=x/2:=by rw[IN (by omega) (by omega)];rfl
theorem oO{x:Int}(h0: -9223372036854775808≤x)(h1:x<9223372036854775808):shr .i64 x 63=if x<0 then-1 else 0:=by
 rw[Gz]
 have:(2:Int)^(min (63:Int).toNat IntKind.i64.bits)=9223372036854775808:=by rfl
 rw[this,Int.fdiv_eq_ediv_of_nonneg _ (by omega)]
 split<;>omega
theorem P7{x y:Int}(h0:0≤y)(h1:y≤64):shl .u64 x y=x*2^y.toNat:=by
 rw[Lv]
 have:min y.toNat IntKind.u64.bits=y.toNat:=by simp[IntKind.bits];omega
 rw[this]
theorem mul_lt{a b m n:Int}(ha:0≤a)(hb:0≤b)(ham:a≤m)(hbn:b≤n):0≤a*b∧a*b≤m*n:=
 ⟨Int.mul_nonneg ha hb,Int.le_trans (Int.mul_le_mul_of_nonneg_right ham hb) (Int.mul_le_mul_of_nonneg_left hbn (by omega))⟩
end VM
end
section
namespace VM
open Go VM.F
end VM
end
section
namespace VM
open Go VM.F
theorem DM(N:Nat){x y c:Int}(hx:0≤x)(hy:0≤y)(hc:0≤c)(Df:c≤1):rH N x y c=some ((x+y+c)%18446744073709551616,(x+y+c)/18446744073709551616):=by
 unfold rH;rw[if_pos ⟨hx,hy,hc,Df⟩]
end VM
end
section
namespace VM
open Go VM.F
structure qj(Y mZ xT dH xU q rh:Int):Prop where
 hY:Y=mZ*4294967296+xT
 y1:2147483648≤mZ
 y1':mZ<4294967296
 y0:0≤xT
 y0':xT<4294967296
 u1:0≤xU
 u1':xU<4294967296
 lt:dH<Y
 q0:0≤q
 eq:q*mZ+rh=dH
 r0:0≤rh
 q1:q≤4294967297
 ge:(dH*4294967296+xU)/Y≤q
theorem qj.prod{Y mZ xT dH xU q rh:Int}(g:qj Y mZ xT dH xU q rh):q*Y=(dH-rh)*4294967296+q*xT∧0≤q*xT∧q*xT≤18446744073709551615:=by
 have h:=mul_lt (m:=4294967297) (n:=4294967295) g.q0 g.y0 g.q1 (by have:=g.y0';omega)
 refine⟨?_,h.1,by omega⟩
 rw[g.hY,Int.mul_add,←Int.mul_assoc,show q*mZ=dH-rh from by have:=g.eq;omega]
theorem qj.pos{Y mZ xT dH xU q rh:Int}(g:qj Y mZ xT dH xU q rh):0<Y:=by have:=g.hY;have:=g.y1;have:=g.y0;omega
theorem qj.digit{Y mZ xT dH xU q rh:Int}(g:qj Y mZ xT dH xU q rh)(h:0≤dH):0≤(dH*4294967296+xU)/Y∧(dH*4294967296+xU)/Y<4294967296:=by
 have hp:=g.pos
 have:=g.u1;have:=g.u1';have:=g.lt
 refine⟨Int.ediv_nonneg (by omega) (by omega),?_⟩
 rw[Int.ediv_lt_iff_lt_mul hp];omega
theorem qj.next{Y mZ xT dH xU q rh:Int}(g:qj Y mZ xT dH xU q rh)(hu:0≤dH)(h:4294967296≤q∨4294967296*rh+xU<q*xT):qj Y mZ xT dH xU (q-1) (rh+mZ)∧1≤q:=by
 have hp:=g.pos
 have h1:=g.prod.1
 have hd:=g.digit hu
 have dF:(dH*4294967296+xU)/Y<q:=by
  rcases h with h|h
  ·omega
  ·rw[Int.ediv_lt_iff_lt_mul hp];omega
 have:=g.q1;have:=g.r0;have:=g.y1
 exact⟨⟨g.hY,g.y1,g.y1',g.y0,g.y0',g.u1,g.u1',g.lt,by omega,by rw[Int.sub_mul,Int.one_mul];have:=g.eq;omega,by omega,by omega,by omega⟩,by omega⟩
theorem qj.first{Y mZ xT dH xU:Int}(hY:Y=mZ*4294967296+xT)(y1:2147483648≤mZ)(y1':mZ<4294967296)(y0:0≤xT)(y0':xT<4294967296)(u1:0≤xU)(u1':xU<4294967296)(hu:0≤dH)(lt:dH<Y):
  qj Y mZ xT dH xU (dH/mZ) (dH-dH/mZ*mZ)∧dH-dH/mZ*mZ<4294967296∧0≤dH/mZ*mZ∧dH/mZ*mZ≤dH:=by
 have h1:=Int.mul_ediv_add_emod dH mZ
 have h2:=Int.emod_lt_of_pos dH (show 0<mZ by omega)
 have h3:=Int.emod_nonneg dH (show mZ≠0 by omega)
 have hq0:0≤dH/mZ:=Int.ediv_nonneg hu (by omega)
 rw[Int.mul_comm]at h1
 have hq1:dH/mZ≤4294967297:=by
  have:dH/mZ<4294967298:=by rw[Int.ediv_lt_iff_lt_mul (by omega)];omega
  omega
 have PI:(dH*4294967296+xU)/Y≤dH/mZ:=by
  have dF:dH*4294967296+xU<(dH/mZ+1)*Y:=by
   have e:dH+1≤(dH/mZ+1)*mZ:=by rw[Int.add_mul,Int.one_mul];omega
   have e2:(dH/mZ+1)*Y=(dH/mZ+1)*mZ*4294967296+(dH/mZ+1)*xT:=by rw[hY,Int.mul_add,Int.mul_assoc]
   have e3:0≤(dH/mZ+1)*xT:=Int.mul_nonneg (by omega) y0
   omega
  have:(dH*4294967296+xU)/Y<dH/mZ+1:=by rw[Int.ediv_lt_iff_lt_mul (by omega)];exact dF
  omega
 exact⟨⟨hY,y1,y1',y0,y0',u1,u1',lt,hq0,by omega,by omega,hq1,PI⟩,by omega,Int.mul_nonneg hq0 (by omega),by omega⟩
end VM
end
section
namespace VM
open Go VM.F
def bL:List Int→Int
 |[]=>0
 |d::r=>d+4294967296*bL r
def VD(l:List Int):Prop:= ∀d∈l,0≤d∧d<4294967296
def gQ(n:Nat):List Int:=if n=0 then []else((n%4294967296:Nat):Int)::gQ (n/4294967296)
termination_by n
decreasing_by omega
theorem fP:gQ 0=[]:=by rw[gQ];rfl
theorem qW{n:Nat}(h:n≠0):gQ n=((n%4294967296:Nat):Int)::gQ (n/4294967296):=by rw[gQ];simp[h]
theorem VD.nil:VD []:=fun d h=>by cases h
theorem VD.cons{d:Int}{l:List Int}(h0:0≤d)(h1:d<4294967296)(h:VD l):VD (d::l):=fun x hx=>by
 rcases List.mem_cons.1 hx with rfl|hx
 ·exact⟨h0,h1⟩
 ·exact h x hx
theorem VD.tail{d:Int}{l:List Int}(h:VD (d::l)):VD l:=fun x hx=>h x (List.mem_cons_of_mem _ hx)
theorem VD.drop{l:List Int}(h:VD l)(n:Nat):VD (l.drop n):=fun x hx=>h x (List.mem_of_mem_drop hx)
theorem VD.take{l:List Int}(h:VD l)(n:Nat):VD (l.take n):=fun x hx=>h x (List.mem_of_mem_take hx)
theorem VD.getD{l:List Int}(h:VD l)(n:Nat):0≤l.getD n 0∧l.getD n 0<4294967296:=by
 rw[List.getD_eq_getElem?_getD]
 cases hn:l[n]? with
 |none=>exact⟨Int.le_refl _,by decide⟩
 |some x=>exact h x (List.mem_of_getElem? hn)
theorem VD.set{l:List Int}(h:VD l)(n:Nat){x:Int}(h0:0≤x)(h1:x<4294967296):VD (l.set n x):=fun y hy=>by
 rcases List.mem_or_eq_of_mem_set hy with hy|rfl
 ·exact h y hy
 ·exact⟨h0,h1⟩
theorem VD.VF(n:Nat):VD (List.replicate n 0):=fun x hx=>by rw[List.eq_of_mem_replicate hx];exact⟨Int.le_refl _,by decide⟩
theorem fQ: ∀{l:List Int},VD l→0≤bL l
 |[],_=>Int.le_refl _
 |d::r,h=>by
  have:=fQ h.tail
  have:=(h d (List.mem_cons_self ..)).1
  simp only[bL];omega
theorem ej(n:Nat):bL (gQ n)=n:=by
 induction n using Nat.strongRecOn with
 |_ n ih=>
  by_cases h:n=0
  ·subst h;rw[fP];rfl
  ·rw[qW h,bL,ih _ (by omega)];omega
theorem fR(n:Nat):VD (gQ n):=by
 induction n using Nat.strongRecOn with
 |_ n ih=>
  by_cases h:n=0
  ·subst h;rw[fP];exact VD.nil
  ·rw[qW h];exact VD.cons (by omega) (by omega) (ih _ (by omega))
theorem tt{n:Nat}:gQ n=[]↔n=0:=by
 constructor
 ·intro h
  by_cases hn:n=0
  ·exact hn
  ·rw[qW hn]at h;cases h
 ·rintro rfl;exact fP
theorem qX(k:Nat): ∀n,n<4294967296^k→(gQ n).length≤k:=by
 induction k with
 |zero=>
  intro n h;have:n=0:=by simpa using h
  subst this;rw[fP];simp
 |succ k ih=>
  intro n h
  by_cases hn:n=0
  ·subst hn;rw[fP];simp
  ·rw[qW hn,List.length_cons]
   have:=ih (n/4294967296) (by rw[Nat.div_lt_iff_lt_mul (by omega)];rw[Nat.pow_succ]at h;exact h)
   omega
theorem BL(k:Nat): ∀n,(gQ n).length≤k→n<4294967296^k:=by
 induction k with
 |zero=>
  intro n h
  have:gQ n=[]:=List.eq_nil_of_length_eq_zero (by omega)
  rw[tt]at this;subst this;decide
 |succ k ih=>
  intro n h
  by_cases hn:n=0
  ·subst hn;exact Nat.pow_pos (by decide)
  ·rw[qW hn,List.length_cons]at h
   have:=ih (n/4294967296) (by omega)
   rw[Nat.div_lt_iff_lt_mul (by omega)]at this
   rw[Nat.pow_succ];exact this
def strip:List Int→List Int
 |[]=>[]
 |d::r=>if strip r=[]∧d=0 then []else d::strip r
theorem DN: ∀{l:List Int},VD l→strip l=gQ (bL l).toNat
 |[],_=>by rw[show(bL []).toNat=0 from rfl,fP];rfl
 |d::r,h=>by
  have ih:=DN h.tail
  have h0:=fQ h.tail
  obtain⟨h1,h2⟩:=h d (List.mem_cons_self ..)
  simp only[strip,bL,ih,tt]
  split
  ·rename_i hc
   obtain⟨hc,rfl⟩:=hc
   have:bL r=0:=by omega
   rw[this];exact fP.symm
  ·rename_i hc
   have gG:(d+4294967296*bL r).toNat≠0:=fun he=>hc ⟨by omega,by omega⟩
   rw[qW gG]
   congr 1
   ·omega
   ·congr 1;omega
theorem xV: ∀(l:List Int) (x:Int),strip (l++[x])=if x=0 then strip l else l++[x]
 |[],x=>by simp[strip]
 |d::r,x=>by
  simp only[List.cons_append,strip,xV r x]
  split
  ·rfl
  ·simp
theorem eA(l:List Int){k:Nat}(h:k<l.length):l.take (k+1)=l.take k++[l.getD k 0]:=by
 rw[List.take_succ_eq_append_getElem h,List.getD_eq_getElem?_getD,List.getElem?_eq_getElem h];rfl
theorem Aq(N:Nat)(l:List Int)(hl:l.length<68719476736): ∀(k n:Nat),k≤l.length→k<n→jB.l2 N n l (k:Int)=some (strip (l.take k))
 |0,n+1,_,_=>by
  unfold jB.l2 jB.dx
  simp (disch:=omega) only[aK,aF,du,dv,cg,cI,aN,bB,bG,cj,aq,c6,cond_true,cond_false,Bool.not_true,Bool.not_false,Option.bind_some,Int.toNat_natCast,Int.toNat_zero,ae,List.length_append,List.length_singleton,List.length_set,List.length_replicate,List.length_cons,List.length_nil]
  simp[strip]
 |k+1,n+1,hk,hn=>by
  unfold jB.l2 jB.dx
  have e:((k+1:Nat):Int)-1=(k:Int):=by omega
  simp (disch:=omega) only[aK,aF,du,dv,cg,cI,aN,bB,bG,cj,aq,c6,cond_true,cond_false,Bool.not_true,Bool.not_false,Option.bind_some,Int.toNat_natCast,Int.toNat_zero,ae,List.length_append,List.length_singleton,List.length_set,List.length_replicate,List.length_cons,List.length_nil,e]
  have ih:=Aq N l hl k n (by omega) (by omega)
  rw[eA l (by omega),xV]
  by_cases h:l.getD k 0=0
  ·rw[cg h,cond_true,ih,if_pos h]
  ·rw[cI h,cond_false,if_neg h]
   simp only[Int.toNat_zero,List.drop_zero]
theorem BM(N:Nat){l:List Int}(h:VD l)(hN:l.length<N)(hl:l.length<68719476736):jB N l=some (gQ (bL l).toNat):=by
 unfold jB jB.b
 rw[Aq N l hl l.length N (Nat.le_refl _) hN,List.take_length,DN h]
def cn(v:Int):aw:=(decide (v<0),(gQ v.natAbs,()))
theorem nr(N:Nat)(neg:Bool){l:List Int}(h:VD l)(hN:l.length<N)(hl:l.length<68719476736):MK N neg l=some (cn (if neg then-bL l else bL l)):=by
 unfold MK
 rw[BM N h hN hl,Option.bind_some]
 have h0:=fQ h
 cases neg
 ·simp only[cond_false,cn,Bool.false_eq_true,if_false]
  rw[decide_eq_false (by omega)]
  congr 4;omega
 ·simp only[cond_true,cn,if_true]
  have e:(-bL l).natAbs=(bL l).toNat:=by omega
  rw[e]
  congr 2
  by_cases hz:bL l=0
  ·rw[hz,Int.toNat_zero,fP,aF (by simp),decide_eq_false (by omega)]
  ·have:0<(gQ (bL l).toNat).length:=by
    apply List.length_pos_iff.2
    intro hd;rw[tt]at hd;omega
   rw[aK (by omega),decide_eq_true (by omega)]
theorem size_eq(N:Nat)(hN:1000≤N){u:Int}(h0:0≤u)(h1:u<18446744073709551616):F67 N u=some (gQ u.toNat):=by
 unfold F67
 rw[sm h0 h1,MJ]
 have hv:VD [u%4294967296,u/4294967296]:=VD.cons (by omega) (by omega) (VD.cons (by omega) (by omega) VD.nil)
 simp (disch:=omega) only[aK,aF,du,dv,cg,cI,aN,bB,bG,cj,aq,c6,cond_true,cond_false,Bool.not_true,Bool.not_false,Option.bind_some,Int.toNat_natCast,Int.toNat_zero,ae,List.length_append,List.length_singleton,List.length_set,List.length_replicate,List.length_cons,List.length_nil,BM N hv (by simp;omega) (by simp)]
 congr 2
 simp only[bL];omega
theorem iU(N:Nat)(hN:1000≤N){x:Int}(h0: -9223372036854775808≤x)(h1:x<9223372036854775808):fT N x=some (cn x):=by
 unfold fT
 have hd: ∀n:Nat,n<18446744073709551616→(gQ n).length≤2:=fun n h=>qX 2 n (by simpa using h)
 by_cases h:x<0
 ·have e:W .u64 (0-W .u64 x)= -x:=by rw[Ap,Ap];omega
  simp only[aK h,cond_true,e,size_eq N hN (show 0≤ -x by omega) (by omega),Option.bind_some]
  have:=hd (-x).toNat (by omega)
  rw[nr N true (fR _) (by omega) (by omega),ej,if_pos rfl,show-(((-x).toNat:Nat):Int)=x from by omega];rfl
 ·have e:W .u64 x=x:=c6 (by omega) (by omega)
  simp only[aF (show 0≤x by omega),cond_false,e,size_eq N hN (show 0≤x by omega) (by omega),Option.bind_some]
  have:=hd x.toNat (by omega)
  rw[nr N false (fR _) (by omega) (by omega),ej,if_neg Bool.false_ne_true,Int.toNat_of_nonneg (by omega)];rfl
theorem qk(N:Nat)(l:List Int)(i:Nat):P8 N l (i:Int)=some (l.getD i 0):=by
 unfold P8
 by_cases h:i<l.length
 ·simp (disch:=omega) only[aK,aF,du,dv,cg,cI,aN,bB,bG,cj,aq,c6,cond_true,cond_false,Bool.not_true,Bool.not_false,Option.bind_some,Int.toNat_natCast,Int.toNat_zero,ae,List.length_append,List.length_singleton,List.length_set,List.length_replicate,List.length_cons,List.length_nil]
 ·simp (disch:=omega) only[aK,aF,du,dv,cg,cI,aN,bB,bG,cj,aq,c6,cond_true,cond_false,Bool.not_true,Bool.not_false,Option.bind_some,Int.toNat_natCast,Int.toNat_zero,ae,List.length_append,List.length_singleton,List.length_set,List.length_replicate,List.length_cons,List.length_nil]
  rw[List.getD_eq_getElem?_getD,List.getElem?_eq_none (by omega)];rfl
theorem gl(l:List Int)(i:Nat):bL (l.drop i)=l.getD i 0+4294967296*bL (l.drop (i+1)):=by
 by_cases h:i<l.length
 ·rw[List.drop_eq_getElem_cons h,bL,List.getD_eq_getElem?_getD,List.getElem?_eq_getElem h];rfl
 ·rw[List.drop_of_length_le (by omega),List.drop_of_length_le (by omega),List.getD_eq_getElem?_getD,List.getElem?_eq_none (by omega)];rfl
theorem DO(N:Nat){a b:List Int}(ha:VD a)(hb:VD b)(sk:a.length≤1000000)(Gk:b.length≤1000000): ∀(m n i:Nat) (out:List Int) (c:Int),a.length+b.length+2-i≤m→m<n→out.length=i→i≤a.length+b.length+1→0≤c→c≤1→(a.length≤i→b.length≤i→i=max a.length b.length∨c=0)→
  ∃r,pG.l4 N n a b out c (i:Int)=some (out++r)∧VD r∧bL r=bL (a.drop i)+bL (b.drop i)+c∧r.length≤m
 |m,0,i,out,c,_,hn,_,_,_,_,_=>by omega
 |m,n+1,i,out,c,hm,hn,ho,hi,Lj,Df,hz=>by
  unfold pG.l4 pG.cL
  by_cases DP:a.length≤i∧b.length≤i∧c=0
  ·obtain⟨h1,h2,rfl⟩:=DP
   simp (disch:=omega) only[aK,aF,du,dv,cg,cI,aN,bB,bG,cj,aq,c6,cond_true,cond_false,Bool.not_true,Bool.not_false,Option.bind_some,Int.toNat_natCast,Int.toNat_zero,ae,List.length_append,List.length_singleton,List.length_set,List.length_replicate,List.length_cons,List.length_nil]
   exact⟨[],by simp,VD.nil,by rw[List.drop_of_length_le h1,List.drop_of_length_le h2];rfl,Nat.zero_le _⟩
  ·obtain⟨ga0,ga1⟩:=ha.getD i
   obtain⟨gb0,gb1⟩:=hb.getD i
   have step: ∃r,pG.j6 N (pG.l4 N n) a b out c (i:Int)=some (out++r)∧VD r∧bL r=bL (a.drop i)+bL (b.drop i)+c∧r.length≤m:=by
    unfold pG.j6 pG.Lo
    have zx:i≤a.length+b.length:=by
     by_cases h1:a.length≤i∧b.length≤i
     ·rcases hz h1.1 h1.2 with h|h
      ·omega
      ·exact absurd ⟨h1.1,h1.2,h⟩ DP
     ·omega
    simp only[qk,Option.bind_some]
    generalize hga:a.getD i 0=x at*
    generalize hgb:b.getD i 0=y at*
    rw[c6 (x:=x+y) (by omega) (by omega),c6 (x:=c+(x+y)) (by omega) (by omega),sm (by omega) (by omega),MJ]
    simp (disch:=omega) only[aK,aF,du,dv,cg,cI,aN,bB,bG,cj,aq,c6,cond_true,cond_false,Bool.not_true,Bool.not_false,Option.bind_some,Int.toNat_natCast,Int.toNat_zero,ae,List.length_append,List.length_singleton,List.length_set,List.length_replicate,List.length_cons,List.length_nil]
    obtain⟨r,hr,hv,hs,Gc⟩:=DO N ha hb sk Gk (m-1) n (i+1) (out++[(c+(x+y))%4294967296]) ((c+(x+y))/4294967296) (by omega) (by omega) (by simp[ho]) (by omega) (by omega) (by omega) (fun h1 h2=>by
     by_cases h3:a.length≤i∧b.length≤i
     ·right
      rw[←hga,←hgb,List.getD_eq_getElem?_getD,List.getElem?_eq_none h3.1,List.getD_eq_getElem?_getD,List.getElem?_eq_none h3.2]
      simp only[Option.getD_none];omega
     ·left;omega)
    refine⟨(c+(x+y))%4294967296::r,by rw[hr];simp,VD.cons (by omega) (by omega) hv,?_,by rw[List.length_cons];omega⟩
    rw[bL,hs,gl a i,gl b i,hga,hgb];omega
   by_cases h1:i<a.length
   ·simp (disch:=omega) only[aK,cond_true];exact step
   ·by_cases h2:i<b.length
    ·simp (disch:=omega) only[aK,aF,cond_true,cond_false];exact step
    ·have:0<c:=by omega
     simp (disch:=omega) only[aK,aF,cond_true,cond_false];exact step
theorem IP: ∀{l:List Int},VD l→bL l<4294967296^l.length
 |[],_=>by simp[bL]
 |d::r,h=>by
  have ih:=IP h.tail
  obtain⟨h1,h2⟩:=h d (List.mem_cons_self ..)
  rw[bL,List.length_cons,Int.pow_succ]
  generalize (4294967296:Int)^r.length=p at*
  omega
theorem DQ(N:Nat)(hN:4000000≤N){a b:List Int}(ha:VD a)(hb:VD b)(sk:a.length≤1000000)(Gk:b.length≤1000000): ∃r,pG N a b=some r∧VD r∧bL r=bL a+bL b∧r.length≤2000002:=by
 unfold pG pG.b
 obtain⟨r,hr,hv,hs,hl⟩:=DO N ha hb sk Gk (a.length+b.length+2) N 0 [] 0 (by omega) (by omega) rfl (by omega) (by omega) (by omega) (fun _ _=> .inr rfl)
 exact⟨r,hr,hv,by simpa using hs,by omega⟩
theorem xW(N:Nat){a b:List Int}(ha:VD a)(hb:VD b)(sk:a.length≤1000000): ∀(m n i:Nat) (out:List Int) (c:Int),a.length-i≤m→m<n→out.length=i→i≤a.length→0≤c→c≤1→0≤bL (a.drop i)-bL (b.drop i)-c→
  ∃r,w1.l4 N n a b out c (i:Int)=some (out++r)∧VD r∧bL r=bL (a.drop i)-bL (b.drop i)-c∧r.length≤m
 |m,0,i,out,c,_,hn,_,_,_,_,_=>by omega
 |m,n+1,i,out,c,hm,hn,ho,hi,Lj,Df,hz=>by
  unfold w1.l4 w1.cL
  by_cases h1:i<a.length
  ·obtain⟨ga0,ga1⟩:=ha.getD i
   obtain⟨gb0,gb1⟩:=hb.getD i
   rw[gl a i,gl b i]at*
   simp only[qk,Option.bind_some,Int.toNat_natCast]
   generalize hga:a.getD i 0=x at*
   generalize hgb:b.getD i 0=y at*
   rw[c6 (x:=y+c) (by omega) (by omega),c6 (x:=x+4294967296) (by omega) (by omega)]
   by_cases dF:x<y+c
   ·rw[c6 (x:=x+4294967296-(y+c)) (by omega) (by omega)]
    simp (disch:=omega) only[aK,aF,du,dv,cg,cI,aN,bB,bG,cj,aq,c6,cond_true,cond_false,Bool.not_true,Bool.not_false,Option.bind_some,Int.toNat_natCast,Int.toNat_zero,ae,List.length_append,List.length_singleton,List.length_set,List.length_replicate,List.length_cons,List.length_nil,hga,hgb]
    obtain⟨r,hr,hv,hs,Gc⟩:=xW N ha hb sk (m-1) n (i+1) (out++[x+4294967296-(y+c)]) 1 (by omega) (by omega) (by simp[ho]) (by omega) (by omega) (by omega) (by omega)
    refine⟨(x+4294967296-(y+c))::r,by rw[hr];simp,VD.cons (by omega) (by omega) hv,by rw[bL,hs];omega,by rw[List.length_cons];omega⟩
   ·rw[c6 (x:=x-(y+c)) (by omega) (by omega)]
    simp (disch:=omega) only[aK,aF,du,dv,cg,cI,aN,bB,bG,cj,aq,c6,cond_true,cond_false,Bool.not_true,Bool.not_false,Option.bind_some,Int.toNat_natCast,Int.toNat_zero,ae,List.length_append,List.length_singleton,List.length_set,List.length_replicate,List.length_cons,List.length_nil,hga,hgb]
    obtain⟨r,hr,hv,hs,Gc⟩:=xW N ha hb sk (m-1) n (i+1) (out++[x-(y+c)]) 0 (by omega) (by omega) (by simp[ho]) (by omega) (by omega) (by omega) (by omega)
    refine⟨(x-(y+c))::r,by rw[hr];simp,VD.cons (by omega) (by omega) hv,by rw[bL,hs];omega,by rw[List.length_cons];omega⟩
  ·simp (disch:=omega) only[aK,aF,du,dv,cg,cI,aN,bB,bG,cj,aq,c6,cond_true,cond_false,Bool.not_true,Bool.not_false,Option.bind_some,Int.toNat_natCast,Int.toNat_zero,ae,List.length_append,List.length_singleton,List.length_set,List.length_replicate,List.length_cons,List.length_nil]
   have h0:=fQ (hb.drop i)
   rw[List.drop_of_length_le (l:=a) (by omega)]at hz ⊢
   simp only[bL]at hz ⊢
   exact⟨[],by simp,VD.nil,by simp only[bL];omega,Nat.zero_le _⟩
theorem vE(N:Nat)(hN:4000000≤N){a b:List Int}(ha:VD a)(hb:VD b)(sk:a.length≤1000000)(h:bL b≤bL a): ∃r,w1 N a b=some r∧VD r∧bL r=bL a-bL b∧r.length≤1000000:=by
 unfold w1 w1.b
 obtain⟨r,hr,hv,hs,hl⟩:=xW N ha hb sk a.length N 0 [] 0 (by omega) (by omega) rfl (by omega) (by omega) (by omega) (by simp;omega)
 exact⟨r,hr,hv,by simpa using hs,by omega⟩
theorem lM: ∀(l:List Int) (x:Int),bL (l++[x])=bL l+4294967296^l.length*x
 |[],x=>by simp[bL]
 |d::r,x=>by
  rw[List.cons_append,bL,lM r x,bL,List.length_cons,Int.pow_succ,Int.mul_comm _ 4294967296,Int.mul_assoc,Int.mul_add];omega
theorem DR{a b:List Int}(ha:VD a)(hb:VD b){k:Nat}(h1:k<a.length)(h2:k<b.length)(dF:a.getD k 0<b.getD k 0):bL (a.take (k+1))<bL (b.take (k+1)):=by
 rw[eA a h1,eA b h2,lM,lM]
 have l1:(a.take k).length=k:=by rw[List.length_take];omega
 have l2:(b.take k).length=k:=by rw[List.length_take];omega
 have v1:=IP (ha.take k)
 have v2:=fQ (hb.take k)
 rw[l1]at*
 rw[l2]
 generalize (4294967296:Int)^k=p at*
 have hp:0<p:=by have:=fQ (ha.take k);omega
 have:=Int.mul_le_mul_of_nonneg_left (show a.getD k 0+1≤b.getD k 0 by omega) (Int.le_of_lt hp)
 rw[Int.mul_add,Int.mul_one]at this
 omega
def qY(x:Int):Int:=if x<0 then-1 else if 0<x then 1 else 0
theorem DS(N:Nat){a b:List Int}(ha:VD a)(hb:VD b)(hl:a.length=b.length)(sk:a.length≤1000000): ∀(k n:Nat),k≤a.length→k<n→wB.l6 N n a b ((k:Int)-1)=some (qY (bL (a.take k)-bL (b.take k)))
 |k,0,_,hn=>by omega
 |0,n+1,_,_=>by
  unfold wB.l6 wB.n4
  simp (disch:=omega) only[aK,aF,du,dv,cg,cI,aN,bB,bG,cj,aq,c6,cond_true,cond_false,Bool.not_true,Bool.not_false,Option.bind_some,Int.toNat_natCast,Int.toNat_zero,ae,List.length_append,List.length_singleton,List.length_set,List.length_replicate,List.length_cons,List.length_nil]
  simp[qY,bL]
 |k+1,n+1,hk,hn=>by
  unfold wB.l6 wB.n4
  have e:((k+1:Nat):Int)-1=(k:Int):=by omega
  rw[e]
  simp (disch:=omega) only[aK,aF,du,dv,cg,cI,aN,bB,bG,cj,aq,c6,cond_true,cond_false,Bool.not_true,Bool.not_false,Option.bind_some,Int.toNat_natCast,Int.toNat_zero,ae,List.length_append,List.length_singleton,List.length_set,List.length_replicate,List.length_cons,List.length_nil]
  by_cases h1:a.getD k 0<b.getD k 0
  ·rw[aK h1,cond_true]
   have:=DR ha hb (k:=k) (by omega) (by omega) h1
   rw[qY,if_pos (by omega)]
  ·rw[aF (by omega),cond_false]
   by_cases h2:b.getD k 0<a.getD k 0
   ·rw[aK h2,cond_true]
    have:=DR hb ha (k:=k) (by omega) (by omega) h2
    rw[qY,if_neg (by omega),if_pos (by omega)]
   ·rw[aF (by omega),cond_false,DS N ha hb hl sk k n (by omega) (by omega)]
    congr 2
    rw[eA a (by omega),eA b (by omega),lM,lM,show a.getD k 0=b.getD k 0 from by omega,List.length_take,List.length_take,hl]
    omega
theorem DT(N:Nat)(hN:4000000≤N)(m k:Nat)(hm:(gQ m).length≤1000000)(hk:(gQ k).length≤1000000):wB N (gQ m) (gQ k)=some (qY ((m:Int)-k)):=by
 unfold wB wB.b
 by_cases h:(gQ m).length=(gQ k).length
 ·simp (disch:=omega) only[aK,aF,du,dv,cg,cI,aN,bB,bG,cj,aq,c6,cond_true,cond_false,Bool.not_true,Bool.not_false,Option.bind_some,Int.toNat_natCast,Int.toNat_zero,ae,List.length_append,List.length_singleton,List.length_set,List.length_replicate,List.length_cons,List.length_nil]
  rw[DS N (fR m) (fR k) h hm (gQ m).length N (Nat.le_refl _) (by omega),List.take_length,h,List.take_length,ej,ej]
 ·rw[cI (by omega),Bool.not_false,cond_true]
  by_cases dF:(gQ m).length<(gQ k).length
  ·rw[aK (by omega),cond_true]
   have h1:=BL ((gQ k).length-1) m (by omega)
   have h2: ¬(k<4294967296^((gQ k).length-1)):=fun h=>by have:=qX _ _ h;omega
   rw[qY,if_pos (by omega)]
  ·rw[aF (by omega),cond_false]
   have h1:=BL ((gQ m).length-1) k (by omega)
   have h2: ¬(m<4294967296^((gQ m).length-1)):=fun h=>by have:=qX _ _ h;omega
   rw[qY,if_neg (by omega),if_pos (by omega)]
end VM
end
section
namespace VM
open Go VM.F
def Fit(v:Int)(k:Nat):Prop:=v.natAbs<4294967296^k
theorem Fit.len{v:Int}{k:Nat}(h:Fit v k):(gQ v.natAbs).length≤k:=qX k _ h
theorem Fit.mono{v:Int}{j k:Nat}(h:Fit v j)(hjk:j≤k):Fit v k:=Nat.lt_of_lt_of_le h (Nat.pow_le_pow_right (by decide) hjk)
theorem Fit.neg{v:Int}{k:Nat}(h:Fit v k):Fit (-v) k:=by unfold Fit at*;rwa [Int.natAbs_neg]
theorem Fit.i64{v:Int}(h0: -9223372036854775808≤v)(h1:v<9223372036854775808):Fit v 2:=by
 unfold Fit
 rw[show(4294967296:Nat)^2=18446744073709551616 from by decide];omega
theorem Fit.add{u v:Int}{k:Nat}(hu:Fit u k)(hv:Fit v k):Fit (u+v) (k+1):=by
 unfold Fit at*
 rw[Nat.pow_succ]
 have:(u+v).natAbs≤u.natAbs+v.natAbs:=Int.natAbs_add_le u v
 generalize 4294967296^k=p at*
 omega
theorem Fit.mul{u v:Int}{j k:Nat}(hu:Fit u j)(hv:Fit v k):Fit (u*v) (j+k):=by
 unfold Fit at*
 rw[Int.natAbs_mul,Nat.pow_add]
 exact Nat.mul_lt_mul'' hu hv
theorem Fit.of_le{u v:Int}{k:Nat}(hv:Fit v k)(h:u.natAbs≤v.natAbs):Fit u k:=Nat.lt_of_le_of_lt h hv
theorem DU(a b:Bool):pz .bool a b=(a==b):=by simp[pz]
theorem jU(N:Nat)(hN:4000000≤N){u v:Int}(hu:Fit u 900000)(hv:Fit v 900000):ur N (cn u) (cn v)=some (cn (u+v)):=by
 have lu:=hu.len
 have lv:=hv.len
 unfold ur
 simp only[cn,DU]
 by_cases hs:decide (u<0)=decide (v<0)
 ·rw[hs,beq_self_eq_true,cond_true]
  obtain⟨r,hr,hvd,BB,hl⟩:=DQ N hN (fR u.natAbs) (fR v.natAbs) (by omega) (by omega)
  simp only[hr,Option.bind_some,nr N _ hvd (by omega) (by omega),BB,ej]
  congr 1
  show cn _=cn _
  congr 1
  by_cases h:v<0
  ·have:u<0:=by simpa [h]using hs
   rw[if_pos (decide_eq_true h)];omega
  ·have: ¬u<0:=by simpa [h]using hs
   rw[if_neg (by simpa using h)];omega
 ·have hb:(decide (u<0)==decide (v<0))=false:=by simpa using hs
  rw[hb,cond_false,DT N hN _ _ (by omega) (by omega),Option.bind_some]
  by_cases hc:v.natAbs≤u.natAbs
  ·have h1:bS 0 (qY ((u.natAbs:Int)-v.natAbs))=true:=du (by unfold qY;split<;>(try split)<;>omega)
   obtain⟨r,hr,hvd,BB,hl⟩:=vE N hN (fR u.natAbs) (fR v.natAbs) (by omega) (by rw[ej,ej];omega)
   simp only[h1,cond_true,hr,Option.bind_some,nr N _ hvd (by omega) (by omega),BB,ej]
   congr 1
   show cn _=cn _
   congr 1
   by_cases h:u<0
   ·have: ¬v<0:=fun hv=>hs (by simp[h,hv])
    rw[if_pos (decide_eq_true h)];omega
   ·have:v<0:=Classical.byContradiction fun hv=>hs (by simp[h,hv])
    rw[if_neg (by simpa using h)];omega
  ·have h1:bS 0 (qY ((u.natAbs:Int)-v.natAbs))=false:=dv (by unfold qY;rw[if_pos (by omega)];omega)
   obtain⟨r,hr,hvd,BB,hl⟩:=vE N hN (fR v.natAbs) (fR u.natAbs) (by omega) (by rw[ej,ej];omega)
   simp only[h1,cond_false,hr,Option.bind_some,nr N _ hvd (by omega) (by omega),BB,ej]
   congr 1
   show cn _=cn _
   congr 1
   by_cases h:v<0
   ·have: ¬u<0:=fun hu=>hs (by simp[h,hu])
    rw[if_pos (decide_eq_true h)];omega
   ·have:u<0:=Classical.byContradiction fun hu=>hs (by simp[h,hu])
    rw[if_neg (by simpa using h)];omega
theorem qZ(N:Nat)(hN:4000000≤N){u:Int}(hu:Fit u 900000):Lp N (cn u)=some (cn (-u)):=by
 have lu:=hu.len
 unfold Lp
 simp only[cn]
 simp only[nr N _ (fR u.natAbs) (by omega) (by omega),Option.bind_some,ej]
 congr 1
 show cn _=cn _
 congr 1
 by_cases h:u<0
 ·rw[decide_eq_true h,Bool.not_true,if_neg Bool.false_ne_true];omega
 ·rw[decide_eq_false h,Bool.not_false,if_pos rfl];omega
theorem ML(N:Nat)(hN:4000000≤N){u:Int}(hu:Fit u 900000):MM N (cn u)=some (cn u.natAbs):=by
 have lu:=hu.len
 unfold MM
 simp only[cn]
 simp only[nr N _ (fR u.natAbs) (by omega) (by omega),Option.bind_some,ej,Bool.false_eq_true,if_false]
 rfl
theorem q3(N:Nat)(hN:4000000≤N){u v:Int}(hu:Fit u 900000)(hv:Fit v 900000):IQ N (cn u) (cn v)=some (cn (u-v)):=by
 unfold IQ
 simp only[qZ N hN hv,Option.bind_some,jU N hN hu hv.neg,Int.sub_eq_add_neg]
theorem oP(N:Nat)(u:Int):IS N (cn u)=some (qY u):=by
 unfold IS
 simp only[cn]
 by_cases h:u=0
 ·subst h
  rw[show(0:Int).natAbs=0 from rfl,fP]
  simp (disch:=omega) only[aK,aF,du,dv,cg,cI,aN,bB,bG,cj,aq,c6,cond_true,cond_false,Bool.not_true,Bool.not_false,Option.bind_some,Int.toNat_natCast,Int.toNat_zero,ae,List.length_append,List.length_singleton,List.length_set,List.length_replicate,List.length_cons,List.length_nil]
  rfl
 ·have:0<(gQ u.natAbs).length:=by
   apply List.length_pos_iff.2
   intro hd;rw[tt]at hd;omega
  rw[cI (by omega),cond_false]
  by_cases hn:u<0
  ·rw[decide_eq_true hn,cond_true,qY,if_pos hn]
  ·rw[decide_eq_false hn,cond_false,qY,if_neg hn,if_pos (by omega)]
theorem GX(N:Nat)(hN:4000000≤N){u v:Int}(hu:Fit u 900000)(hv:Fit v 900000):Gp N (cn u) (cn v)=some (qY (u-v)):=by
 unfold Gp
 simp only[q3 N hN hu hv,Option.bind_some,oP]
theorem IT(l:List Int)(h: ∀x∈l,-9223372036854775808≤x∧x<9223372036854775808): -(9223372036854775808*l.length)≤l.sum∧l.sum≤9223372036854775808*l.length:=by
 induction l with
 |nil=>simp
 |cons x l ih=>
  have:=ih (fun y hy=>h y (List.mem_cons_of_mem _ hy))
  obtain⟨h1,h2⟩:=h x (List.mem_cons_self ..)
  rw[List.sum_cons,List.length_cons]
  omega
theorem BN{v:Int}{n:Nat}(hn:n≤1000000)(h0: -(9223372036854775808*n)≤v)(h1:v≤9223372036854775808*n):Fit v 3:=by
 unfold Fit
 rw[show(4294967296:Nat)^3=79228162514264337593543950336 from by decide]
 omega
theorem om{l:List Int}(h: ∀x∈l,-9223372036854775808≤x∧x<9223372036854775808)(i:Nat): -9223372036854775808≤l.getD i 0∧l.getD i 0<9223372036854775808:=by
 rw[List.getD_eq_getElem?_getD]
 cases hn:l[i]? with
 |none=>exact⟨by decide,by decide⟩
 |some x=>exact h x (List.mem_of_getElem? hn)
theorem gR(l:List Int){i:Nat}(h:i<l.length):(l.take (i+1)).sum=(l.take i).sum+l.getD i 0:=by
 rw[eA l h];simp
theorem tu(N:Nat)(hN:4000000≤N){l:List Int}(h: ∀x∈l,-9223372036854775808≤x∧x<9223372036854775808)(hl:l.length≤1000000): ∀(m n i:Nat) (z:aw),l.length-i≤m→m<n→i≤l.length→
  kP.l3 N n l z (cn (l.take i).sum) (i:Int)=some (cn l.sum)
 |m,0,i,z,_,hn,_=>by omega
 |m,n+1,i,z,hm,hn,hi=>by
  unfold kP.l3 kP.iE
  by_cases h1:i<l.length
  ·obtain⟨g0,g1⟩:=om h i
   have f1:=IT (l.take i) (fun x hx=>h x (List.mem_of_mem_take hx))
   rw[List.length_take,Nat.min_eq_left (by omega)]at f1
   have f2:Fit (l.take i).sum 900000:=(BN (n:=i) (by omega) f1.1 f1.2).mono (by omega)
   have f3:Fit (l.getD i 0) 900000:=(Fit.i64 g0 g1).mono (by omega)
   simp (disch:=omega) only[aK,aF,du,dv,cg,cI,aN,bB,bG,cj,aq,c6,cond_true,cond_false,Bool.not_true,Bool.not_false,Option.bind_some,Int.toNat_natCast,Int.toNat_zero,ae,List.length_append,List.length_singleton,List.length_set,List.length_replicate,List.length_cons,List.length_nil,iU N (by omega) g0 g1,jU N hN f2 f3]
   rw[←gR l h1]
   exact tu N hN h hl (m-1) n (i+1) z (by omega) (by omega) (by omega)
  ·simp (disch:=omega) only[aK,aF,du,dv,cg,cI,aN,bB,bG,cj,aq,c6,cond_true,cond_false,Bool.not_true,Bool.not_false,Option.bind_some,Int.toNat_natCast,Int.toNat_zero,ae,List.length_append,List.length_singleton,List.length_set,List.length_replicate,List.length_cons,List.length_nil]
   rw[List.take_of_length_le (by omega)]
theorem jC:cn 0=(false,([],())):=by unfold cn;rw[show(0:Int).natAbs=0 from rfl,fP];rfl
theorem so(N:Nat)(hN:4000000≤N){l:List Int}(h: ∀x∈l,-9223372036854775808≤x∧x<9223372036854775808)(hl:l.length≤1000000):kP N l=some (cn l.sum):=by
 unfold kP kP.b
 have:=tu N hN h hl l.length N 0 (false,([],())) (by omega) (by omega) (by omega)
 rw[List.take_zero,List.sum_nil,jC]at this
 exact this
theorem MN{a b:Int}(ha:0≤a)(ha1:a<4294967296)(hb:0≤b)(jo:b<4294967296):n5 .or .u64 a (b*4294967296)=a+b*4294967296:=by
 rw[IM ha (by omega) (by omega) (by omega)]
 have h:=Nat.two_pow_add_eq_or_of_lt (i:=32) (b:=a.toNat) (by omega) b.toNat
 have e:(b*4294967296).toNat=2^32*b.toNat:=by omega
 rw[e,Nat.or_comm,←h];omega
theorem Kb{a b:Int}(ha:0≤a)(ha1:a<4294967296)(hb:0≤b)(jo:b<4294967296):n5 .or .u64 (b*4294967296) a=a+b*4294967296:=by
 rw[IM (by omega) (by omega) ha (by omega)]
 have h:=Nat.two_pow_add_eq_or_of_lt (i:=32) (b:=a.toNat) (by omega) b.toNat
 have e:(b*4294967296).toNat=2^32*b.toNat:=by omega
 rw[e,←h];omega
theorem VG{x:Int}(h0:0≤x):shl .u64 x 32=x*4294967296:=by rw[P7 (by omega) (by omega)];rfl
def zN(v:Int):Int×Bool:=if-9223372036854775808≤v∧v<9223372036854775808 then(v,true)else(0,false)
theorem P9{n:Nat}(h:(gQ n).length≤2):(gQ n).getD 0 0+4294967296*(gQ n).getD 1 0=n:=by
 have h1:=gl (gQ n) 0
 have h2:=gl (gQ n) 1
 rw[List.drop_zero,ej]at h1
 rw[List.drop_of_length_le (l:=gQ n) (i:=1+1) h]at h2
 simp only[bL,Nat.zero_add]at h1 h2
 omega
theorem ql(N:Nat)(v:Int):qm N (cn v)=some (zN v):=by
 unfold qm
 simp only[cn]
 by_cases hl:2<(gQ v.natAbs).length
 ·rw[aK (by omega),cond_true,zN,if_neg]
  intro hh
  have:=qX 2 v.natAbs (by rw[show(4294967296:Nat)^2=18446744073709551616 from by decide];omega)
  omega
 ·have h2:=P9 (n:=v.natAbs) (by omega)
  obtain⟨a0,a1⟩:=(fR v.natAbs).getD 0
  obtain⟨b0,b1⟩:=(fR v.natAbs).getD 1
  have e0:=qk N (gQ v.natAbs) 0
  have e1:=qk N (gQ v.natAbs) 1
  simp only[Int.natCast_zero,Int.natCast_one]at e0 e1
  rw[aF (by omega),cond_false,e0,e1]
  generalize (gQ v.natAbs).getD 0 0=a at*
  generalize (gQ v.natAbs).getD 1 0=b at*
  simp only[Option.bind_some]
  rw[aF (show(0:Int)≤32 by omega),cond_false,VG b0,c6 (x:=b*4294967296) (by omega) (by omega),MN a0 a1 b0 b1]
  have ev:a+b*4294967296=v.natAbs:=by omega
  rw[ev]
  by_cases hn:v<0
  ·rw[decide_eq_true hn,cond_true]
   by_cases BK:9223372036854775808<(v.natAbs:Int)
   ·rw[aK BK,cond_true,zN,if_neg (by omega)]
   ·rw[aF (by omega),cond_false,zN,if_pos (by omega),Ap,jA]
    congr 2
    split<;>omega
  ·rw[decide_eq_false hn,cond_false]
   by_cases BK:9223372036854775807<(v.natAbs:Int)
   ·rw[aK BK,cond_true,zN,if_neg (by omega)]
   ·rw[aF (by omega),cond_false,zN,if_pos (by omega),aq (by omega) (by omega)]
    congr 2;omega
end VM
end
section
namespace VM
open Go VM.F
theorem DV: ∀(l:List Int) (k:Nat) (x:Int),k<l.length→bL (l.set k x)=bL l+4294967296^k*(x-l.getD k 0)
 |d::r,0,x,_=>by simp[bL];omega
 |d::r,k+1,x,h=>by
  have ih:=DV r k x (by simpa using h)
  rw[List.set_cons_succ,bL,bL,ih,List.getD_cons_succ,Int.pow_succ,Int.mul_comm (4294967296^k) 4294967296,Int.mul_assoc,Int.mul_add];omega
theorem getD_set_ne(l:List Int){j k:Nat}(x:Int)(h:j≠k):(l.set j x).getD k 0=l.getD k 0:=by
 simp[List.getD_eq_getElem?_getD,List.getElem?_set_ne h]
theorem iv(l:List Int){k:Nat}(x:Int)(h:k<l.length):(l.set k x).getD k 0=x:=by
 simp[List.getD_eq_getElem?_getD,List.getElem?_set,h]
theorem oQ(l:List Int){k:Nat}(h:l.length≤k):l.getD k 0=0:=by
 rw[List.getD_eq_getElem?_getD,List.getElem?_eq_none h];rfl
theorem vF(N:Nat)(K:aw→aw→aw→List Int→Int→Option aw){a b:List Int}(na nb:Bool)(z:aw)(ha:VD a)(hb:VD b)(i:Nat)(hi:i<a.length)(sk:a.length≤100000)(Gk:b.length≤100000):
  ∀(m n j:Nat) (out:List Int) (c:Int),b.length+1-j≤m→m<n→VD out→out.length=a.length+b.length+1→0≤c→c<4294967296→(j≤b.length→ ∀k,i+b.length≤k→out.getD k 0=0)→(b.length<j→c=0∧j=b.length+1∧ ∀k,i+b.length+1≤k→out.getD k 0=0)→
  ∃sq,fF.l7 N K n (na,(a,())) (nb,(b,())) z out (i:Int) c (j:Int)=K (na,(a,())) (nb,(b,())) z sq ((i+1:Nat):Int)∧VD sq∧sq.length=out.length∧
   bL sq=bL out+4294967296^i*(4294967296^j*(a.getD i 0*bL (b.drop j)+c))∧ ∀k,i+1+b.length≤k→sq.getD k 0=0
 |m,0,j,out,c,_,hn,_,_,_,_,_,_=>by omega
 |m,n+1,j,out,c,hm,hn,ho,CI,Lj,Df,hz,Gm=>by
  unfold fF.l7 fF.ns
  by_cases DP:b.length≤j∧c=0
  ·obtain⟨h1,rfl⟩:=DP
   simp (disch:=omega) only[aK,aF,du,dv,cg,cI,aN,bB,bG,cj,aq,c6,cond_true,cond_false,Bool.not_true,Bool.not_false,Option.bind_some,Int.toNat_natCast,Int.toNat_zero,ae,List.length_append,List.length_singleton,List.length_set,List.length_replicate,List.length_cons,List.length_nil]
   refine⟨out,rfl,ho,rfl,by rw[List.drop_of_length_le h1];simp[bL],fun k hk=> ?_⟩
   by_cases hj:j≤b.length
   ·exact hz hj k (by omega)
   ·exact(Gm (by omega)).2.2 k (by omega)
  ·have zq:j≤b.length:=by
    by_cases hj:j≤b.length
    ·exact hj
    ·exact absurd ⟨by omega,(Gm (by omega)).1⟩ DP
   obtain⟨ga0,ga1⟩:=ha.getD i
   obtain⟨gb0,gb1⟩:=hb.getD j
   obtain⟨go0,go1⟩:=ho.getD (i+j)
   have step: ∃sq,fF.j9 N K (fF.l7 N K n) (na,(a,())) (nb,(b,())) z out (i:Int) c (j:Int)=K (na,(a,())) (nb,(b,())) z sq ((i+1:Nat):Int)∧VD sq∧sq.length=out.length∧
     bL sq=bL out+4294967296^i*(4294967296^j*(a.getD i 0*bL (b.drop j)+c))∧ ∀k,i+1+b.length≤k→sq.getD k 0=0:=by
    unfold fF.j9 fF.GY
    have eij:(i:Int)+(j:Int)=((i+j:Nat):Int):=rfl
    have hp:=mul_lt (m:=4294967295) (n:=4294967295) ga0 gb0 (by omega) (by omega)
    simp only[qk,Option.bind_some,eij,Int.toNat_natCast]
    simp (disch:=omega) only[aK,aF,du,dv,cg,cI,aN,bB,bG,cj,aq,c6,cond_true,cond_false,Bool.not_true,Bool.not_false,Option.bind_some,Int.toNat_natCast,Int.toNat_zero,ae,List.length_append,List.length_singleton,List.length_set,List.length_replicate,List.length_cons,List.length_nil]
    generalize hx:out.getD (i+j) 0=x at*
    generalize ha':a.getD i 0=ai at*
    generalize di:b.getD j 0=bj at*
    generalize hpe:ai*bj=p at*
    have hpz:b.length≤j→p=0∧x=0:=fun h=>by
     rw[oQ b h]at di
     refine⟨by rw[←hpe,←di,Int.mul_zero],?_⟩
     rw[←hx];exact hz zq _ (by omega)
    rw[sm (by omega) (by omega),MJ]
    have ahS:(out.set (i+j) ((c+(x+p))%4294967296)).length=a.length+b.length+1:=by rw[List.length_set];exact CI
    obtain⟨sq,h1,h2,h3,h4,h5⟩:=vF N K na nb z ha hb i hi sk Gk (m-1) n (j+1) (out.set (i+j) ((c+(x+p))%4294967296)) ((c+(x+p))/4294967296) (by omega) (by omega) (ho.set _ (by omega) (by omega)) ahS (by omega) (by omega)
     (fun h k hk=>by rw[getD_set_ne _ _ (by omega)];exact hz zq k hk)
     (fun h=>by
      obtain⟨hp0,PU⟩:=hpz (by omega)
      refine⟨by omega,by omega,fun k hk=> ?_⟩
      rw[getD_set_ne _ _ (by omega)];exact hz zq k (by omega))
    refine⟨sq,h1,h2,by rw[h3,List.length_set],?_,h5⟩
    rw[h4,DV _ _ _ (by omega),hx,ha',gl b j,di,Int.mul_add ai,hpe,Int.pow_add,Int.pow_succ]
    have e1:ai*(4294967296*bL (b.drop (j+1)))=4294967296*(ai*bL (b.drop (j+1))):=Int.mul_left_comm _ _ _
    rw[e1]
    generalize ai*bL (b.drop (j+1))=y
    generalize (4294967296:Int)^i=P
    generalize (4294967296:Int)^j=R
    rw[Int.mul_assoc R,Int.mul_assoc P,Int.add_assoc,←Int.mul_add,←Int.mul_add]
    congr 3
    omega
   by_cases h1:j<b.length
   ·simp (disch:=omega) only[aK,cond_true];exact step
   ·have:0<c:=by omega
    simp (disch:=omega) only[aK,aF,cond_true,cond_false];exact step
theorem vG(N:Nat)(hN:4000000≤N){a b:List Int}(na nb:Bool)(z:aw)(ha:VD a)(hb:VD b)(sk:a.length≤100000)(Gk:b.length≤100000):
  ∀(m n i:Nat) (out:List Int),a.length-i≤m→m<n→i≤a.length→VD out→out.length=a.length+b.length+1→(∀k,i+b.length≤k→out.getD k 0=0)→bL out=bL (a.take i)*bL b→
  fF.l3 N n (na,(a,())) (nb,(b,())) z out (i:Int)=some (cn (if na=nb then bL a*bL b else-(bL a*bL b)))
 |m,0,i,out,_,hn,_,_,_,_,_=>by omega
 |m,n+1,i,out,hm,hn,hi,ho,CI,hz,hv=>by
  unfold fF.l3 fF.iE
  by_cases h1:i<a.length
  ·simp only
   rw[aK (by omega),cond_true]
   obtain⟨sq,e1,e2,e3,e4,e5⟩:=vF N (fF.l3 N n) na nb z ha hb i h1 sk Gk (b.length+1) N 0 out 0 (by omega) (by omega) ho CI (by omega) (by omega) (fun _ k hk=>hz k hk) (fun h=>by omega)
   rw[show((0:Nat):Int)=0 from rfl]at e1
   rw[e1]
   refine vG N hN na nb z ha hb sk Gk (m-1) n (i+1) sq (by omega) (by omega) (by omega) e2 (by rw[e3];exact CI) (fun k hk=>e5 k (by omega)) ?_
   rw[e4,hv,eA a h1,lM,List.length_take,Nat.min_eq_left (by omega),List.drop_zero,Int.pow_zero,Int.one_mul,Int.add_zero,Int.add_mul,Int.mul_assoc]
  ·simp only
   rw[aF (by omega),cond_false]
   simp only[nr N _ ho (by omega) (by omega),Option.bind_some]
   rw[hv,List.take_of_length_le (by omega),DU]
   congr 2
   cases na<;>cases nb<;>simp
theorem DW(N:Nat)(hN:4000000≤N){u v:Int}(hu:Fit u 90000)(hv:Fit v 90000):fF N (cn u) (cn v)=some (cn (u*v)):=by
 have lu:=hu.len
 have lv:=hv.len
 unfold fF fF.b
 simp only[cn]
 simp (disch:=omega) only[aK,aF,du,dv,cg,cI,aN,bB,bG,cj,aq,c6,cond_true,cond_false,Bool.not_true,Bool.not_false,Option.bind_some,Int.toNat_natCast,Int.toNat_zero,ae,List.length_append,List.length_singleton,List.length_set,List.length_replicate,List.length_cons,List.length_nil]
 have e:(((gQ u.natAbs).length:Int)+((gQ v.natAbs).length:Int)+1).toNat=(gQ u.natAbs).length+(gQ v.natAbs).length+1:=by omega
 have:=vG N hN (decide (u<0)) (decide (v<0)) (false,([],())) (fR u.natAbs) (fR v.natAbs) (by omega) (by omega) (gQ u.natAbs).length N 0 (List.replicate ((gQ u.natAbs).length+(gQ v.natAbs).length+1) 0) (by omega) (by omega) (by omega) (VD.VF _) (by simp)
  (fun k _=>by rw[List.getD_eq_getElem?_getD,List.getElem?_replicate];split<;>rfl) (by
   have: ∀n,bL (List.replicate n 0)=0:=fun n=>by
    induction n with
    |zero=>rfl
    |succ n ih=>rw[List.replicate_succ,bL,ih];rfl
   rw[this];simp[bL])
 rw[ej,ej]at this
 have e2:(((gQ u.natAbs).length+(gQ v.natAbs).length:Nat):Int)+1=(gQ u.natAbs).length+(gQ v.natAbs).length+1:=by omega
 first
 |(rw[e];refine this.trans ?_)
 |(refine(this).trans ?_)
 show some (cn _)=some (cn _)
 congr 2
 have key:(u.natAbs:Int)*v.natAbs=if decide (u<0)=decide (v<0)then u*v else-(u*v):=by
  by_cases h1:u<0<;>by_cases h2:v<0
  ·rw[if_pos (by simp[h1,h2]),show(u.natAbs:Int)= -u from by omega,show(v.natAbs:Int)= -v from by omega,Int.neg_mul_neg]
  ·rw[if_neg (by simp[h1,h2]),show(u.natAbs:Int)= -u from by omega,show(v.natAbs:Int)=v from by omega,Int.neg_mul]
  ·rw[if_neg (by simp[h1,h2]),show(u.natAbs:Int)=u from by omega,show(v.natAbs:Int)= -v from by omega,Int.mul_neg]
  ·rw[if_pos (by simp[h1,h2]),show(u.natAbs:Int)=u from by omega,show(v.natAbs:Int)=v from by omega]
 rw[key]
 split<;>simp
end VM
end
section
namespace VM
open Go VM.F
theorem Qa{x:Int}(h0:0≤x)(h1:x<18446744073709551616):n5 .and .u64 x 1=x%2:=by
 rw[DL h0 h1 (by omega) (by omega)]
 have:=Nat.and_two_pow_sub_one_eq_mod x.toNat 1
 rw[show((1:Int).toNat)=2^1-1 from rfl,this]
 omega
theorem zO{l:List Int}{k:Nat}(x:Int)(h:k<l.length):bL ((l.set k x).drop k)=x+4294967296*bL (l.drop (k+1)):=by
 rw[gl,iv l x h,List.drop_set_of_lt (by omega)]
theorem Ar(N:Nat){d:List Int}(hd:VD d)(hl:d.length≤100000)(hN:4000000≤N): ∀(k n:Nat) (out:List Int) (c:Int),k≤d.length→k<n→VD out→out.length=d.length→c=bL (d.drop k)%2→bL (out.drop k)=bL (d.drop k)/2→
  kQ.l4 N n d out c ((k:Int)-1)=some (gQ (bL d/2).toNat,bL d%2)
 |k,0,out,c,_,hn,_,_,_,_=>by omega
 |0,n+1,out,c,_,_,ho,CI,hc,hv=>by
  unfold kQ.l4 kQ.cL
  simp (disch:=omega) only[aK,aF,du,dv,cg,cI,aN,bB,bG,cj,aq,c6,cond_true,cond_false,Bool.not_true,Bool.not_false,Option.bind_some,Int.toNat_natCast,Int.toNat_zero,ae,List.length_append,List.length_singleton,List.length_set,List.length_replicate,List.length_cons,List.length_nil,BM N ho (by omega) (by omega)]
  rw[List.drop_zero,List.drop_zero]at hv
  rw[List.drop_zero]at hc
  rw[hv,hc]
 |k+1,n+1,out,c,hk,hn,ho,CI,hc,hv=>by
  unfold kQ.l4 kQ.cL
  have e:((k+1:Nat):Int)-1=(k:Int):=by omega
  obtain⟨g0,g1⟩:=hd.getD k
  have hn0:=fQ (hd.drop (k+1))
  have e1:=gl d k
  simp only[e,Int.toNat_natCast]
  rw[VG (by omega)]
  generalize hx:d.getD k 0=x at*
  rw[c6 (x:=c*4294967296) (by omega) (by omega),Kb g0 g1 (by omega) (by omega)]
  simp (disch:=omega) only[aK,aF,du,dv,cg,cI,aN,bB,bG,cj,aq,c6,cond_true,cond_false,Bool.not_true,Bool.not_false,Option.bind_some,Int.toNat_natCast,Int.toNat_zero,ae,List.length_append,List.length_singleton,List.length_set,List.length_replicate,List.length_cons,List.length_nil,ahO,Qa]
  refine Ar N hd hl hN k n (out.set k ((x+c*4294967296)/2)) ((x+c*4294967296)%2) (by omega) (by omega) (ho.set _ (by omega) (by omega)) (by rw[List.length_set];exact CI) (by rw[e1,hc];omega) ?_
  rw[zO _ (by omega),hv,e1]
  omega
theorem Qb(N:Nat)(hN:4000000≤N)(m:Nat)(h:(gQ m).length≤100000):kQ N (gQ m)=some (gQ (m/2),((m%2:Nat):Int)):=by
 unfold kQ kQ.b
 simp (disch:=omega) only[aK,aF,du,dv,cg,cI,aN,bB,bG,cj,aq,c6,cond_true,cond_false,Bool.not_true,Bool.not_false,Option.bind_some,Int.toNat_natCast,Int.toNat_zero,ae,List.length_append,List.length_singleton,List.length_set,List.length_replicate,List.length_cons,List.length_nil]
 have:=Ar N (fR m) h hN (gQ m).length N (List.replicate (gQ m).length 0) 0 (Nat.le_refl _) (by omega) (VD.VF _) (by simp) (by rw[List.drop_length];rfl) (by rw[List.drop_length,List.drop_of_length_le (by simp)];rfl)
 rw[ej]at this
 rw[this]
 congr 2
def bin(n:Nat):List Int:=if n=0 then []else((n%2:Nat):Int)::bin (n/2)
termination_by n
decreasing_by omega
theorem w3{n:Nat}(h:n≠0):bin n=((n%2:Nat):Int)::bin (n/2):=by rw[bin];simp[h]
theorem qn:bin 0=[]:=by rw[bin];rfl
def tv:List Int→Int
 |[]=>0
 |d::r=>d+2*tv r
theorem Qc(n:Nat):tv (bin n)=n:=by
 induction n using Nat.strongRecOn with
 |_ n ih=>
  by_cases h:n=0
  ·subst h;rw[qn];rfl
  ·rw[w3 h,tv,ih _ (by omega)];omega
theorem Qd(n:Nat): ∀d∈bin n,d=0∨d=1:=by
 induction n using Nat.strongRecOn with
 |_ n ih=>
  by_cases h:n=0
  ·subst h;rw[qn];intro d hd;cases hd
  ·rw[w3 h];intro d hd
   rcases List.mem_cons.1 hd with rfl|hd
   ·omega
   ·exact ih _ (by omega) d hd
theorem Qe(k:Nat): ∀n,n<2^k→(bin n).length≤k:=by
 induction k with
 |zero=>
  intro n h;have:n=0:=by simpa using h
  subst this;rw[qn];simp
 |succ k ih=>
  intro n h
  by_cases hn:n=0
  ·subst hn;rw[qn];simp
  ·rw[w3 hn,List.length_cons]
   have:=ih (n/2) (by rw[Nat.pow_succ]at h;omega)
   omega
theorem MO{n k:Nat}(h:n<4294967296^k):(bin n).length≤32*k:=Qe _ _ (Nat.lt_of_lt_of_le h (by rw[Nat.pow_mul];exact Nat.le_refl _))
theorem As(N:Nat)(hN:4000000≤N)(x2 x3 x4 x5:aw): ∀(m n:Nat) (t:Nat) (bits:List Int),(bin t).length≤m→m<n→(gQ t).length≤100000→bits.length+(bin t).length≤4000000→
  eH.l3 N n x2 x3 x4 x5 bits (gQ t)=eH.l9 N N x2 x3 x4 x5 (bits++bin t) (false,([],())) (false,([],())) (((bits++bin t).length:Int)-1)
 |m,0,t,bits,_,hn,_,_=>by omega
 |m,n+1,t,bits,hm,hn,hd,hb=>by
  unfold eH.l3 eH.iE
  by_cases ht:t=0
  ·subst ht
   rw[fP,qn]
   simp (disch:=omega) only[aK,aF,du,dv,cg,cI,aN,bB,bG,cj,aq,c6,cond_true,cond_false,Bool.not_true,Bool.not_false,Option.bind_some,Int.toNat_natCast,Int.toNat_zero,ae,List.length_append,List.length_singleton,List.length_set,List.length_replicate,List.length_cons,List.length_nil,List.append_nil]
  ·have GM:0<(gQ t).length:=by
    apply List.length_pos_iff.2
    intro h;rw[tt]at h;omega
   rw[w3 ht]at hm hb ⊢
   rw[List.length_cons]at hm hb
   have hdl:(gQ (t/2)).length≤100000:=by
    have:=BL _ t hd
    exact qX _ _ (Nat.lt_of_le_of_lt (Nat.div_le_self _ _) this)
   simp (disch:=omega) only[aK,aF,du,dv,cg,cI,aN,bB,bG,cj,aq,c6,cond_true,cond_false,Bool.not_true,Bool.not_false,Option.bind_some,Int.toNat_natCast,Int.toNat_zero,ae,List.length_append,List.length_singleton,List.length_set,List.length_replicate,List.length_cons,List.length_nil,Qb N hN t hd]
   rw[As N hN x2 x3 x4 x5 (m-1) n (t/2) (bits++[((t%2:Nat):Int)]) (by omega) (by omega) hdl (by simp;omega)]
   simp
theorem Kc(l:List Int){i:Nat}(h:i<l.length):tv (l.drop i)=l.getD i 0+2*tv (l.drop (i+1)):=by
 rw[List.drop_eq_getElem_cons h,tv,List.getD_eq_getElem?_getD,List.getElem?_eq_getElem h];rfl
theorem vH: ∀{l:List Int},(∀d∈l,d=0∨d=1)→0≤tv l
 |[],_=>Int.le_refl _
 |d::r,h=>by
  have h1:=vH (l:=r) fun x hx=>h x (List.mem_cons_of_mem _ hx)
  have:=h d (List.mem_cons_self ..)
  simp only[tv];omega
theorem oR: ∀(l:List Int) (i:Nat),(∀d∈l,d=0∨d=1)→tv (l.drop i)≤tv l
 |l,0,_=>Int.le_refl _
 |[],i+1,_=>Int.le_refl _
 |d::r,i+1,h=>by
  have h1:=oR r i fun x hx=>h x (List.mem_cons_of_mem _ hx)
  have h2:=vH (l:=r) fun x hx=>h x (List.mem_cons_of_mem _ hx)
  have:=h d (List.mem_cons_self ..)
  rw[List.drop_succ_cons,tv];omega
theorem oq(N:Nat)(hN:4000000≤N)(a d:Int)(hd:0<d)(O9:Fit a 80000)(Kd:Fit d 80000)(x4 x5:aw){bits:List Int}(hb: ∀x∈bits,x=0∨x=1)(hbv:tv bits=a.natAbs)(sN:bits.length≤4000000):
  ∀(k n:Nat) (q r:Int),k≤bits.length→k<n→0≤q→0≤r→r<d→tv (bits.drop k)=q*d+r→
  eH.l9 N n (cn a) (cn d) x4 x5 bits (cn q) (cn r) ((k:Int)-1)=some (cn (a/d),cn (a%d))
 |k,0,q,r,_,hn,_,_,_,_=>by omega
 |0,n+1,q,r,_,_,hq,hr,gB,hv=>by
  unfold eH.l9 eH.rN
  rw[List.drop_zero,hbv]at hv
  have hqa:q≤a.natAbs:=by
   have:q*1≤q*d:=Int.mul_le_mul_of_nonneg_left (by omega) hq
   omega
  have fq:Fit q 900000:=(O9.of_le (u:=q) (by omega)).mono (by omega)
  have fr:Fit r 900000:=(Kd.of_le (u:=r) (by omega)).mono (by omega)
  have f1:Fit 1 900000:=(Fit.i64 (v:=1) (by omega) (by omega)).mono (by omega)
  have fq':Fit (-q) 900000:=fq.neg
  have fd:Fit d 900000:=Kd.mono (by omega)
  rw[dv (by omega),cond_false]
  by_cases ha:a<0
  ·have Vt:(a.natAbs:Int)= -a:=by omega
   have e0:(cn a).1=true:=decide_eq_true ha
   simp only[e0,Bool.not_true,cond_false,oP,Option.bind_some]
   by_cases hr0:r=0
   ·subst hr0
    rw[cg (by unfold qY;simp),cond_true]
    simp only[qZ N hN fq,Option.bind_some]
    have e1:a=d*(-q):=by rw[Int.mul_neg,Int.mul_comm];omega
    have e2:a/d= -q:=by rw[e1,Int.mul_ediv_cancel_left _ (by omega)]
    have e3:a%d=0:=by rw[e1,Int.mul_emod_right]
    rw[e2,e3]
   ·rw[cI (by unfold qY;rw[if_neg (by omega),if_pos (by omega)];omega),cond_false]
    simp (disch:=omega) only[qZ N hN fq,iU N (by omega) (show-9223372036854775808≤(1:Int)by omega) (by omega),Option.bind_some,q3 N hN fq' f1,q3 N hN fd fr]
    have e1:a=(d-r)+d*(-q-1):=by rw[Int.mul_sub,Int.mul_neg,Int.mul_one,Int.mul_comm];omega
    have e2:a/d= -q-1:=by
     rw[e1,Int.add_mul_ediv_left _ _ (by omega),Int.ediv_eq_zero_of_lt (by omega) (by omega)];omega
    have e3:a%d=d-r:=by rw[e1,Int.add_mul_emod_self_left,Int.emod_eq_of_lt (by omega) (by omega)]
    rw[e2,e3]
  ·have Vt:(a.natAbs:Int)=a:=by omega
   have e0:(cn a).1=false:=decide_eq_false ha
   simp only[e0,Bool.not_false,cond_true]
   have e1:a=r+d*q:=by rw[Int.mul_comm];omega
   have e2:a/d=q:=by rw[e1,Int.add_mul_ediv_left _ _ (by omega),Int.ediv_eq_zero_of_lt hr gB];omega
   have e3:a%d=r:=by rw[e1,Int.add_mul_emod_self_left,Int.emod_eq_of_lt hr gB]
   rw[e2,e3]
 |k+1,n+1,q,r,hk,hn,hq,hr,gB,hv=>by
  unfold eH.l9 eH.rN
  have e:((k+1:Nat):Int)-1=(k:Int):=by omega
  have hle:=oR bits k hb
  have ahT:=oR bits (k+1) hb
  rw[hbv]at hle ahT
  have hqa:q≤a.natAbs:=by
   have:q*1≤q*d:=Int.mul_le_mul_of_nonneg_left (by omega) hq
   omega
  have fq:Fit q 80000:=O9.of_le (by omega)
  have fr:Fit r 80000:=Kd.of_le (by omega)
  have fqq:=fq.add fq
  have frr:=fr.add fr
  have f1:Fit 1 80000:=(Fit.i64 (v:=1) (by omega) (by omega)).mono (by omega)
  have hvk:=Kc bits (i:=k) (by omega)
  have wy:bits.getD k 0=0∨bits.getD k 0=1:=by
   rw[List.getD_eq_getElem?_getD,List.getElem?_eq_getElem (show k<bits.length by omega)]
   exact hb _ (List.getElem_mem _)
  rw[e,du (by omega),cond_true]
  have e2q:(q+q)*d=2*(q*d):=by rw[←Int.two_mul,Int.mul_assoc]
  have acF:(q+q+1)*d=2*(q*d)+d:=by rw[Int.add_mul,e2q,Int.one_mul]
  simp (disch:=omega) only[aK,aF,du,dv,cg,cI,aN,bB,bG,cj,aq,c6,cond_true,cond_false,Bool.not_true,Bool.not_false,Option.bind_some,Int.toNat_natCast,Int.toNat_zero,ae,List.length_append,List.length_singleton,List.length_set,List.length_replicate,List.length_cons,List.length_nil,jU N hN (fq.mono (by omega)) (fq.mono (by omega)),jU N hN (fr.mono (by omega)) (fr.mono (by omega)),iU N (by omega) (show-9223372036854775808≤(1:Int)by omega) (by omega)]
  rcases wy with wy|wy
  ·rw[wy,cI (by omega),cond_false]
   simp only[GX N hN (frr.mono (by omega)) (Kd.mono (by omega)),Option.bind_some]
   by_cases PI:d≤r+r
   ·rw[du (by unfold qY;split<;>(try split)<;>omega),cond_true]
    simp only[q3 N hN (frr.mono (by omega)) (Kd.mono (by omega)),jU N hN (fqq.mono (by omega)) (f1.mono (by omega)),Option.bind_some]
    refine oq N hN a d hd O9 Kd x4 x5 hb hbv sN k n _ _ (by omega) (by omega) (by omega) (by omega) (by omega) ?_
    rw[hvk,wy,hv,acF];omega
   ·rw[dv (by unfold qY;rw[if_pos (by omega)];omega),cond_false]
    refine oq N hN a d hd O9 Kd x4 x5 hb hbv sN k n _ _ (by omega) (by omega) (by omega) (by omega) (by omega) ?_
    rw[hvk,wy,hv,e2q];omega
  ·rw[wy,cg rfl,cond_true]
   have acG:=frr.add (f1.mono (show 80000≤80001 by omega))
   simp only[jU N hN (frr.mono (by omega)) (f1.mono (by omega)),GX N hN (acG.mono (by omega)) (Kd.mono (by omega)),Option.bind_some]
   by_cases PI:d≤r+r+1
   ·rw[du (by unfold qY;split<;>(try split)<;>omega),cond_true]
    simp only[q3 N hN (acG.mono (by omega)) (Kd.mono (by omega)),jU N hN (fqq.mono (by omega)) (f1.mono (by omega)),Option.bind_some]
    refine oq N hN a d hd O9 Kd x4 x5 hb hbv sN k n _ _ (by omega) (by omega) (by omega) (by omega) (by omega) ?_
    rw[hvk,wy,hv,acF];omega
   ·rw[dv (by unfold qY;rw[if_pos (by omega)];omega),cond_false]
    refine oq N hN a d hd O9 Kd x4 x5 hb hbv sN k n _ _ (by omega) (by omega) (by omega) (by omega) (by omega) ?_
    rw[hvk,wy,hv,e2q];omega
theorem IU(N:Nat)(hN:5000000≤N){a d:Int}(hd:0<d)(O9:Fit a 80000)(Kd:Fit d 80000):eH N (cn a) (cn d)=some (cn (a/d),cn (a%d)):=by
 unfold eH eH.b
 have sN:(bin a.natAbs).length≤32*80000:=MO O9
 have h1:=As N (by omega) (cn a) (cn d) (false,([],())) (false,([],())) (bin a.natAbs).length N a.natAbs [] (Nat.le_refl _) (by omega) (Nat.le_trans O9.len (by omega)) (by simp;omega)
 rw[List.nil_append]at h1
 refine h1.trans ?_
 rw[←jC]
 exact oq N (by omega) a d hd O9 Kd _ _ (Qd _) (Qc _) (by omega) (bin a.natAbs).length N 0 0 (Nat.le_refl _) (by omega) (by omega) (by omega) hd (by rw[List.drop_length];simp[tv])
end VM
end
section
namespace VM
open Go VM.F
def c7(v:Int):cY:=(v/18446744073709551616,(v%18446744073709551616,()))
theorem wmk{a b v:Int}(h1:a=v/18446744073709551616)(h2:b=v%18446744073709551616):((a,(b,())):cY)=c7 v:=by
 unfold c7;rw[h1,h2]
theorem acH{a b v:Int}{α:Type}{c:α}(h1:a=v/18446744073709551616)(h2:b=v%18446744073709551616):(some (((a,(b,())):cY),c):Option (cY×α))=some (c7 v,c):=by
 rw[wmk h1 h2]
theorem Qf(N:Nat){v:Int}(v0: -170141183460469231731687303715884105728≤v)(v1:v<170141183460469231731687303715884105728):GZ N (c7 v)=some (zN v):=by
 unfold GZ c7
 rw[aF (by omega),cond_false]
 dsimp only
 have hw0: -9223372036854775808≤W .i64 (v%18446744073709551616)∧W .i64 (v%18446744073709551616)<9223372036854775808:=by rw[jA];split<;>omega
 rw[oO hw0.1 hw0.2]
 have hwv:W .i64 (v%18446744073709551616)=if 9223372036854775808≤v%18446744073709551616 then v%18446744073709551616-18446744073709551616 else v%18446744073709551616:=by rw[jA];split<;>split<;>omega
 rw[hwv]
 unfold zN
 by_cases h: -9223372036854775808≤v∧v<9223372036854775808
 ·rw[if_pos h]
  by_cases hn:v<0
  ·rw[if_pos (show 9223372036854775808≤v%18446744073709551616 by omega),if_pos (by omega),cg (by omega),Bool.not_true,cond_false]
   congr 2;omega
  ·rw[if_neg (show ¬9223372036854775808≤v%18446744073709551616 by omega),if_neg (by omega),cg (by omega),Bool.not_true,cond_false]
   congr 2;omega
 ·rw[if_neg h]
  by_cases hm:9223372036854775808≤v%18446744073709551616
  ·rw[if_pos hm,if_pos (by omega),cI (by omega),Bool.not_false,cond_true]
  ·rw[if_neg hm,if_neg (by omega),cI (by omega),Bool.not_false,cond_true]
end VM
end
section
namespace VM
open Go
theorem cond_not{α:Type}(b:Bool)(x y:α):cond (!b) x y=cond b y x:=by cases b<;>rfl
theorem bX{α:Type}(a b:Int)(x y:α):cond (aM a b) x y=if a<b then x else y:=by
 by_cases h:a<b
 ·rw[aK h,if_pos h];rfl
 ·rw[aF (by omega),if_neg h];rfl
theorem bH{α:Type}(a b:Int)(x y:α):cond (bS a b) x y=if a≤b then x else y:=by
 by_cases h:a≤b
 ·rw[du h,if_pos h];rfl
 ·rw[dv (by omega),if_neg h];rfl
theorem aG{α:Type}(a b:Int)(x y:α):cond (az a b) x y=if a=b then x else y:=by
 by_cases h:a=b
 ·rw[cg h,if_pos h];rfl
 ·rw[cI h,if_neg h];rfl
theorem dj{α:Type}(p:Prop) [Decidable p](x y:α):cond (decide p) x y=if p then x else y:=by
 by_cases h:p
 ·rw[decide_eq_true h,if_pos h];rfl
 ·rw[decide_eq_false h,if_neg h];rfl
theorem drop_cons{α:Type}{l:List α}{i:Nat}(h:i<l.length)(d:α):l.drop i=l.getD i d::l.drop (i+1):=by
 rw[List.drop_eq_getElem_cons h,List.getD_eq_getElem?_getD,List.getElem?_eq_getElem h];rfl
theorem oS{α σ β:Type}(l:List α)(d:α)(F:Nat→Int→σ→Option β)(g:List α→σ→Option β)(I:Nat→σ→Prop)
  (hs: ∀n i s,i<l.length→I i s→(∀s',I (i+1) s'→F n ((i+1:Nat):Int) s'=g (l.drop (i+1)) s')→F (n+1) (i:Int) s=g (l.getD i d::l.drop (i+1)) s)
  (he: ∀n s,I l.length s→F (n+1) (l.length:Int) s=g [] s): ∀m n i s,l.length-i≤m→m<n→i≤l.length→I i s→F n (i:Int) s=g (l.drop i) s
 |m,0,i,s,_,hn,_,_=>by omega
 |m,n+1,i,s,hm,hn,hi,hI=>by
  by_cases h:i<l.length
  ·rw[drop_cons h d]
   exact hs n i s h hI fun s' rK=>oS l d F g I hs he (m-1) n (i+1) s' (by omega) (by omega) (by omega) rK
  ·have:i=l.length:=by omega
   subst this
   rw[List.drop_length];exact he n s hI
theorem rO{α β:Type}(l:List α)(d:α)(F:Nat→Int→Option β)(g:List α→Option β)
  (hs: ∀n i,i<l.length→F n ((i+1:Nat):Int)=g (l.drop (i+1))→F (n+1) (i:Int)=g (l.getD i d::l.drop (i+1)))
  (he: ∀n,F (n+1) (l.length:Int)=g []) (n:Nat) (hn:l.length<n):F n 0=g l:=by
 have:=oS (σ:=Unit) l d (fun n i _=>F n i) (fun l _=>g l) (fun _ _=>True) (fun n i _ h _ hr=>hs n i h (hr () trivial)) (fun n _ _=>he n) l.length n 0 () (by omega) hn (by omega) trivial
 simpa using this
theorem scan{F:Nat→Int→Option Bool}{len:Nat}(P:Nat→Prop) [DecidablePred P]
  (hs: ∀n i r,i<len→(∀j,j<i→P j)→F n ((i+1:Nat):Int)=r→F (n+1) (i:Int)=if P i then r else some false) {e:Bool} (he: ∀n,F (n+1) (len:Int)=some e):
  ∀m n i,len-i≤m→m<n→i≤len→(∀j,j<i→P j)→F n (i:Int)=some (decide (∀j,j<len→i≤j→P j)&&e)
 |m,0,i,_,hn,_,_=>by omega
 |m,n+1,i,hm,hn,hi,hp=>by
  by_cases h:i<len
  ·rw[hs n i _ h hp rfl]
   by_cases hP:P i
   ·rw[if_pos hP,scan P hs he (m-1) n (i+1) (by omega) (by omega) (by omega) (fun j hj=>by
     by_cases si:j=i
     ·subst si;exact hP
     ·exact hp j (by omega))]
    congr 2
    rw[decide_eq_decide]
    refine⟨fun hj j h2 h1=> ?_,fun hj j h2 h1=>hj j h2 (by omega)⟩
    by_cases si:j=i
    ·subst si;exact hP
    ·exact hj j h2 (by omega)
   ·rw[if_neg hP,decide_eq_false (fun hj=>hP (hj i h (Nat.le_refl i)))];rfl
  ·have:i=len:=by omega
   subst this
   rw[he n,decide_eq_true (fun j h2 h1=>absurd h2 (by omega))];rfl
theorem eb{F:Nat→Int→Option Bool}{len:Nat}(P:Nat→Prop) [DecidablePred P]{e:Bool}
  (hs: ∀n i r,i<len→(∀j,j<i→P j)→F n ((i+1:Nat):Int)=r→F (n+1) (i:Int)=if P i then r else some false) (he: ∀n,F (n+1) (len:Int)=some e) (n:Nat) (hn:len<n):
  F n 0=some (decide (∀j,j<len→P j)&&e):=by
 have:=scan P hs he len n 0 (by omega) hn (by omega) (fun j hj=>absurd hj (by omega))
 rw[show((0:Nat):Int)=0 from rfl]at this
 rw[this]
 congr 2
 rw[decide_eq_decide]
 exact⟨fun h j hj=>h j hj (by omega),fun h j hj _=>h j hj⟩
end VM
end
section
namespace VM
open Go VM.F
def eo(x:Int):Prop:= -170141183460469231731687303715884105728≤x∧x<170141183460469231731687303715884105728
instance(x:Int):Decidable (eo x):=by unfold eo;infer_instance
theorem qo(N:Nat){x:Int}(h0: -9223372036854775808≤x)(h1:x<9223372036854775808):MP N x=some (c7 x):=by
 unfold MP
 rw[aF (by omega),cond_false,oO h0 h1,Ap]
 congr 1
 exact wmk (by split<;>omega) rfl
theorem Qg{ws:List Int}(i:Nat):(ws.map c7).getD i bO=c7 (ws.getD i 0):=by
 by_cases h:i<ws.length
 ·rw[List.getD_eq_getElem?_getD,List.getElem?_map,List.getElem?_eq_getElem h,List.getD_eq_getElem?_getD,List.getElem?_eq_getElem h];rfl
 ·rw[List.getD_eq_getElem?_getD,List.getElem?_eq_none (by rw[List.length_map];omega),List.getD_eq_getElem?_getD,List.getElem?_eq_none (by omega)];rfl
theorem Xr{ws:List Int}(h: ∀x∈ws,eo x): -(170141183460469231731687303715884105728*(ws.length:Int))≤ws.sum∧ws.sum≤170141183460469231731687303715884105728*(ws.length:Int):=by
 induction ws with
 |nil=>simp
 |cons x ws ih=>
  have h0:=h x (List.mem_cons_self ..)
  have ih:=ih (fun y hy=>h y (List.mem_cons_of_mem _ hy))
  unfold eo at h0
  rw[List.sum_cons,List.length_cons];omega
theorem MQ{t w:Int}{lo hi top:Int}(hw:eo w)(wx:lo=t%18446744073709551616)(Iy:hi=t/18446744073709551616%18446744073709551616)(ahW:top=t/340282366920938463463374607431768211456):
  (lo+w%18446744073709551616+0)%18446744073709551616=(t+w)%18446744073709551616∧
  (hi+(w/18446744073709551616)%18446744073709551616+(lo+w%18446744073709551616+0)/18446744073709551616)%18446744073709551616=(t+w)/18446744073709551616%18446744073709551616∧
  top+(if w/18446744073709551616<0 then-1 else 0)+(hi+(w/18446744073709551616)%18446744073709551616+(lo+w%18446744073709551616+0)/18446744073709551616)/18446744073709551616=(t+w)/340282366920938463463374607431768211456:=by
 unfold eo at hw
 subst wx Iy ahW
 refine⟨by omega,by omega,?_⟩
 split<;>omega
def G0(t:Int):cY×Bool:=if eo t then(c7 t,true)else(bO,false)
theorem W64(x:Int):W .u64 x=x%18446744073709551616:=Ap x
theorem Au(N:Nat){ws:List Int}(h: ∀x∈ws,eo x)(hl:ws.length≤1000000): ∀(m n i:Nat) (t:Int),ws.length-i≤m→m<n→i≤ws.length→t=(ws.take i).sum→
  iV.l3 N n bO (t/340282366920938463463374607431768211456) (t/18446744073709551616%18446744073709551616) (t%18446744073709551616) (ws.map c7) (ws.length:Int) (i:Int)=some (G0 ws.sum)
 |m,0,i,t,_,hn,_,_=>by omega
 |m,n+1,i,t,hm,hn,hi,ht=>by
  unfold iV.l3 iV.iE
  have f1:=Xr (ws:=ws.take i) (fun x hx=>h x (List.mem_of_mem_take hx))
  rw[List.length_take,Nat.min_eq_left (by omega),←ht]at f1
  by_cases h1:i<ws.length
  ·have hw:eo (ws.getD i 0):=by
    rw[List.getD_eq_getElem?_getD,List.getElem?_eq_getElem h1];exact h _ (List.getElem_mem h1)
   have hs:=gR ws h1
   rw[←ht]at hs
   have st:=MQ (t:=t) (w:=ws.getD i 0) hw rfl rfl rfl
   have tw:=Au N h hl (m-1) n (i+1) (t+ws.getD i 0) (by omega) (by omega) (by omega) hs.symm
   rw[aK (by omega),cond_true,aN (by omega) (by rw[List.length_map];omega),cond_true,Int.toNat_natCast,Qg]
   unfold c7
   dsimp only
   have hw':=hw
   unfold eo at hw'
   generalize ws.getD i 0=w at*
   have hq:0≤(t%18446744073709551616+w%18446744073709551616+0)/18446744073709551616∧(t%18446744073709551616+w%18446744073709551616+0)/18446744073709551616≤1:=by omega
   rw[DM N (by omega) (by omega) (by omega) (by omega),Option.bind_some,W64,DM N (by omega) (by omega) hq.1 hq.2,Option.bind_some,aF (x:=63) (by omega),cond_false,st.1,st.2.1]
   rw[oO (by omega) (by omega)]
   have hc:0≤(t/18446744073709551616%18446744073709551616+w/18446744073709551616%18446744073709551616+(t%18446744073709551616+w%18446744073709551616+0)/18446744073709551616)/18446744073709551616∧(t/18446744073709551616%18446744073709551616+w/18446744073709551616%18446744073709551616+(t%18446744073709551616+w%18446744073709551616+0)/18446744073709551616)/18446744073709551616≤1:=by omega
   have hif: -1≤(if w/18446744073709551616<0 then(-1:Int)else 0)∧(if w/18446744073709551616<0 then(-1:Int)else 0)≤0:=by split<;>omega
   rw[aq (x:=t/340282366920938463463374607431768211456+_) (by omega) (by omega),aq (x:=(_:Int)/18446744073709551616) (by omega) (by omega),st.2.2,aq (by omega) (by omega),aq (x:=(i:Int)+1) (by omega) (by omega)]
   exact tw
  ·have e:(ws.take i).sum=ws.sum:=by rw[List.take_of_length_le (by omega)]
   rw[e]at ht
   rw[aF (by omega),cond_false,aF (x:=63) (by omega),cond_false,←ht]
   have hh: -9223372036854775808≤W .i64 (t/18446744073709551616%18446744073709551616)∧W .i64 (t/18446744073709551616%18446744073709551616)<9223372036854775808:=by rw[jA];split<;>omega
   have hwv:W .i64 (t/18446744073709551616%18446744073709551616)=if 9223372036854775808≤t/18446744073709551616%18446744073709551616 then t/18446744073709551616%18446744073709551616-18446744073709551616 else t/18446744073709551616%18446744073709551616:=by rw[jA];split<;>split<;>omega
   rw[oO hh.1 hh.2,hwv]
   unfold G0
   by_cases hI:eo t
   ·rw[if_pos hI]
    unfold eo at hI
    rw[cg (by split<;>split<;>omega),Bool.not_true,cond_false]
    exact acH (by split<;>omega) rfl
   ·rw[if_neg hI]
    unfold eo at hI
    rw[cI (by split<;>split<;>omega),Bool.not_false,cond_true]
theorem BO(N:Nat){ws:List Int}(h: ∀x∈ws,eo x)(hl:ws.length≤1000000)(hN:1000000<N):iV N (ws.map c7)=some (G0 ws.sum):=by
 unfold iV iV.b
 rw[List.length_map]
 exact Au N h hl ws.length N 0 0 (by omega) (by omega) (by omega) (by simp)
end VM
end
