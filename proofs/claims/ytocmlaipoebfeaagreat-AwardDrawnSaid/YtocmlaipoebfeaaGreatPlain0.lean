/- A part of the proof of AwardDrawn of layer 25: what the functions compute, in plain words. -/
import Derived.Test.YtocmlaipoebfeaaGreatVm0
import GoSem.Claim
import Derived.Test.YtocmlaipoebfeaaGreatText
set_option linter.all false
section
namespace VM
open Go
theorem AU(x:Int):W .u64 x=x%18446744073709551616:=by rw[xM];simp[IntKind.wrap,IntKind.bits,IntKind.signed]
theorem de{x:Int}(h0:0≤x)(h1:x<18446744073709551616):W .u64 x=x:=by rw[AU];omega
theorem jH(x:Int):W .i64 x=if 9223372036854775808≤x%18446744073709551616 then x%18446744073709551616-18446744073709551616 else x%18446744073709551616:=by
 rw[xM];simp[IntKind.wrap,IntKind.bits,IntKind.signed]
theorem aq{x:Int}(h0: -9223372036854775808≤x)(h1:x<9223372036854775808):W .i64 x=x:=by
 rw[jH];split<;>omega
theorem wf_u64{x:Int}:(Lit.int .u64 x).wf=true↔0≤x∧x≤18446744073709551615:=by simp[Lit.wf,IntKind.min,IntKind.max,IntKind.bits,IntKind.signed]
theorem aH{x y:Int}(h:x<y):aM x y=true:=by rw[sr];exact decide_eq_true h
theorem aF{x y:Int}(h:y≤x):aM x y=false:=by rw[sr];exact decide_eq_false (by omega)
theorem df{x y:Int}(h:x≤y):bV x y=true:=by rw[iR];exact decide_eq_true h
theorem dg{x y:Int}(h:y<x):bV x y=false:=by rw[iR];exact decide_eq_false (by omega)
theorem ct{x y:Int}(h:x=y):az x y=true:=by rw[eR];exact decide_eq_true h
theorem cO{x y:Int}(h:x≠y):az x y=false:=by rw[eR];exact decide_eq_false h
theorem aJ{i:Int}{n:Nat}(h0:0≤i)(h1:i<n):aN i n=true:=by rw[Ml];exact decide_eq_true ⟨h0,h1⟩
theorem bh{n:Nat}(h:n<68719476736):small n=true:=by rw[xN];exact decide_eq_true (by simpa [tp]using h)
theorem bG{l c:Int}(h0:0≤l)(h1:l≤c)(h2:c<68719476736):fP l c=true:=by rw[Av];exact decide_eq_true (by simp only[tp];omega)
theorem cr{l h m n:Int}(h0:0≤l)(h1:l≤h)(h2:h≤m)(h3:m≤n):fu l h m n=true:=by rw[tq];exact decide_eq_true ⟨h0,h1,h2,h3⟩
theorem aa(n:Nat):(n:Int)+1=((n+1:Nat):Int):=rfl
theorem nN(x:Int)(h0:0≤x)(h1:x<18446744073709551616):(BitVec.ofInt 64 x).toNat=x.toNat:=by
 rw[BitVec.toNat_ofInt];congr 1;omega
theorem Ec{x y:Int}(hx:0≤x)(QM:x<18446744073709551616)(hy:0≤y)(hy1:y<18446744073709551616):ov .and .u64 x y=((x.toNat&&& y.toNat:Nat):Int):=by
 rw[oV]
 have h:((BitVec.ofInt 64 x&&& BitVec.ofInt 64 y).toNat)=x.toNat&&& y.toNat:=by rw[BitVec.toNat_and,nN x hx QM,nN y hy hy1]
 show IntKind.u64.wrap (((BitVec.ofInt 64 x&&& BitVec.ofInt 64 y).toNat:Nat):Int)=_
 rw[h,←xM]
 have:x.toNat&&& y.toNat≤x.toNat:=Nat.and_le_left
 exact de (by omega) (by omega)
theorem Jm{x y:Int}(hx:0≤x)(QM:x<18446744073709551616)(hy:0≤y)(hy1:y<18446744073709551616):ov .or .u64 x y=((x.toNat|||y.toNat:Nat):Int):=by
 rw[oV]
 have h:((BitVec.ofInt 64 x|||BitVec.ofInt 64 y).toNat)=x.toNat|||y.toNat:=by rw[BitVec.toNat_or,nN x hx QM,nN y hy hy1]
 show IntKind.u64.wrap (((BitVec.ofInt 64 x|||BitVec.ofInt 64 y).toNat:Nat):Int)=_
 rw[h,←xM]
 have:x.toNat|||y.toNat<2^64:=Nat.or_lt_two_pow (by omega) (by omega)
 exact de (by omega) (by omega)
theorem sK{x:Int}(h0:0≤x)(h1:x<18446744073709551616):ov .and .u64 x 4294967295=x%4294967296:=by
 rw[Ec h0 h1 (by omega) (by omega)]
 have:=Nat.and_two_pow_sub_one_eq_mod x.toNat 32
 rw[show((4294967295:Int).toNat)=2^32-1 from rfl,this]
 omega
theorem Jn{x y:Int}(h0:0≤y)(h1:y≤64):shr .u64 x y=x/2^y.toNat:=by
 rw[Ha]
 have:min y.toNat IntKind.u64.bits=y.toNat:=by simp[IntKind.bits];omega
 rw[this,Int.fdiv_eq_ediv_of_nonneg]
 exact_mod_cast Nat.zero_le _
theorem Nv(x:Int):shr .u64 x 32=x/4294967296:=by rw[Jn (by omega) (by omega)];rfl
theorem aiN(x:Int):shr .u64 x 1=x/2:=by rw[Jn (by omega) (by omega)];rfl
theorem pa{x:Int}(h0: -9223372036854775808≤x)(h1:x<9223372036854775808):shr .i64 x 63=if x<0 then-1 else 0:=by
 rw[Ha]
 have:(2:Int)^(min (63:Int).toNat IntKind.i64.bits)=9223372036854775808:=by rfl
 rw[this,Int.fdiv_eq_ediv_of_nonneg _ (by omega)]
 split<;>omega
theorem QN{x y:Int}(h0:0≤y)(h1:y≤64):shl .u64 x y=x*2^y.toNat:=by
 rw[Mm]
 have:min y.toNat IntKind.u64.bits=y.toNat:=by simp[IntKind.bits];omega
 rw[this]
theorem mul_lt{a b m n:Int}(ha:0≤a)(hb:0≤b)(ham:a≤m)(hbn:b≤n):0≤a*b∧a*b≤m*n:=
 ⟨Int.mul_nonneg ha hb,Int.le_trans (Int.mul_le_mul_of_nonneg_right ham hb) (Int.mul_le_mul_of_nonneg_left hbn (by omega))⟩
end VM
end
section
namespace VM
open Go VM.F
end VM
end
section
namespace VM
open Go VM.F
theorem Ed(N:Nat){x y c:Int}(hx:0≤x)(hy:0≤y)(hc:0≤c)(DJ:c≤1):rW N x y c=some ((x+y+c)%18446744073709551616,(x+y+c)/18446744073709551616):=by
 unfold rW;rw[if_pos ⟨hx,hy,hc,DJ⟩]
end VM
end
section
namespace VM
open Go VM.F
structure qF(Y nv yB dP yC q rh:Int):Prop where
 hY:Y=nv*4294967296+yB
 y1:2147483648≤nv
 y1':nv<4294967296
 y0:0≤yB
 y0':yB<4294967296
 u1:0≤yC
 u1':yC<4294967296
 lt:dP<Y
 q0:0≤q
 eq:q*nv+rh=dP
 r0:0≤rh
 q1:q≤4294967297
 ge:(dP*4294967296+yC)/Y≤q
theorem qF.prod{Y nv yB dP yC q rh:Int}(g:qF Y nv yB dP yC q rh):q*Y=(dP-rh)*4294967296+q*yB∧0≤q*yB∧q*yB≤18446744073709551615:=by
 have h:=mul_lt (m:=4294967297) (n:=4294967295) g.q0 g.y0 g.q1 (by have:=g.y0';omega)
 refine⟨?_,h.1,by omega⟩
 rw[g.hY,Int.mul_add,←Int.mul_assoc,show q*nv=dP-rh from by have:=g.eq;omega]
theorem qF.pos{Y nv yB dP yC q rh:Int}(g:qF Y nv yB dP yC q rh):0<Y:=by have:=g.hY;have:=g.y1;have:=g.y0;omega
theorem qF.digit{Y nv yB dP yC q rh:Int}(g:qF Y nv yB dP yC q rh)(h:0≤dP):0≤(dP*4294967296+yC)/Y∧(dP*4294967296+yC)/Y<4294967296:=by
 have hp:=g.pos
 have:=g.u1;have:=g.u1';have:=g.lt
 refine⟨Int.ediv_nonneg (by omega) (by omega),?_⟩
 rw[Int.ediv_lt_iff_lt_mul hp];omega
theorem qF.next{Y nv yB dP yC q rh:Int}(g:qF Y nv yB dP yC q rh)(hu:0≤dP)(h:4294967296≤q∨4294967296*rh+yC<q*yB):qF Y nv yB dP yC (q-1) (rh+nv)∧1≤q:=by
 have hp:=g.pos
 have h1:=g.prod.1
 have hd:=g.digit hu
 have dE:(dP*4294967296+yC)/Y<q:=by
  rcases h with h|h
  ·omega
  ·rw[Int.ediv_lt_iff_lt_mul hp];omega
 have:=g.q1;have:=g.r0;have:=g.y1
 exact⟨⟨g.hY,g.y1,g.y1',g.y0,g.y0',g.u1,g.u1',g.lt,by omega,by rw[Int.sub_mul,Int.one_mul];have:=g.eq;omega,by omega,by omega,by omega⟩,by omega⟩
theorem qF.first{Y nv yB dP yC:Int}(hY:Y=nv*4294967296+yB)(y1:2147483648≤nv)(y1':nv<4294967296)(y0:0≤yB)(y0':yB<4294967296)(u1:0≤yC)(u1':yC<4294967296)(hu:0≤dP)(lt:dP<Y):
  qF Y nv yB dP yC (dP/nv) (dP-dP/nv*nv)∧dP-dP/nv*nv<4294967296∧0≤dP/nv*nv∧dP/nv*nv≤dP:=by
 have h1:=Int.mul_ediv_add_emod dP nv
 have h2:=Int.emod_lt_of_pos dP (show 0<nv by omega)
 have h3:=Int.emod_nonneg dP (show nv≠0 by omega)
 have PO:0≤dP/nv:=Int.ediv_nonneg hu (by omega)
 rw[Int.mul_comm]at h1
 have hq1:dP/nv≤4294967297:=by
  have:dP/nv<4294967298:=by rw[Int.ediv_lt_iff_lt_mul (by omega)];omega
  omega
 have Qq:(dP*4294967296+yC)/Y≤dP/nv:=by
  have dE:dP*4294967296+yC<(dP/nv+1)*Y:=by
   have e:dP+1≤(dP/nv+1)*nv:=by rw[Int.add_mul,Int.one_mul];omega
   have e2:(dP/nv+1)*Y=(dP/nv+1)*nv*4294967296+(dP/nv+1)*yB:=by rw[hY,Int.mul_add,Int.mul_assoc]
   have e3:0≤(dP/nv+1)*yB:=Int.mul_nonneg (by omega) y0
   omega
  have:(dP*4294967296+yC)/Y<dP/nv+1:=by rw[Int.ediv_lt_iff_lt_mul (by omega)];exact dE
  omega
 exact⟨⟨hY,y1,y1',y0,y0',u1,u1',lt,PO,by omega,by omega,hq1,Qq⟩,by omega,Int.mul_nonneg PO (by omega),by omega⟩
end VM
end
section
namespace VM
open Go VM.F
def bQ:List Int→Int
 |[]=>0
 |d::r=>d+4294967296*bQ r
def VD(l:List Int):Prop:= ∀d∈l,0≤d∧d<4294967296
def gU(n:Nat):List Int:=if n=0 then []else((n%4294967296:Nat):Int)::gU (n/4294967296)
termination_by n
decreasing_by omega
theorem fV:gU 0=[]:=by rw[gU];rfl
theorem rl{n:Nat}(h:n≠0):gU n=((n%4294967296:Nat):Int)::gU (n/4294967296):=by rw[gU];simp[h]
theorem VD.nil:VD []:=fun d h=>by cases h
theorem VD.cons{d:Int}{l:List Int}(h0:0≤d)(h1:d<4294967296)(h:VD l):VD (d::l):=fun x hx=>by
 rcases List.mem_cons.1 hx with rfl|hx
 ·exact⟨h0,h1⟩
 ·exact h x hx
theorem VD.tail{d:Int}{l:List Int}(h:VD (d::l)):VD l:=fun x hx=>h x (List.mem_cons_of_mem _ hx)
theorem VD.drop{l:List Int}(h:VD l)(n:Nat):VD (l.drop n):=fun x hx=>h x (List.mem_of_mem_drop hx)
theorem VD.take{l:List Int}(h:VD l)(n:Nat):VD (l.take n):=fun x hx=>h x (List.mem_of_mem_take hx)
theorem VD.getD{l:List Int}(h:VD l)(n:Nat):0≤l.getD n 0∧l.getD n 0<4294967296:=by
 rw[List.getD_eq_getElem?_getD]
 cases hn:l[n]? with
 |none=>exact⟨Int.le_refl _,by decide⟩
 |some x=>exact h x (List.mem_of_getElem? hn)
theorem VD.set{l:List Int}(h:VD l)(n:Nat){x:Int}(h0:0≤x)(h1:x<4294967296):VD (l.set n x):=fun y hy=>by
 rcases List.mem_or_eq_of_mem_set hy with hy|rfl
 ·exact h y hy
 ·exact⟨h0,h1⟩
theorem VD.Wt(n:Nat):VD (List.replicate n 0):=fun x hx=>by rw[List.eq_of_mem_replicate hx];exact⟨Int.le_refl _,by decide⟩
theorem fW: ∀{l:List Int},VD l→0≤bQ l
 |[],_=>Int.le_refl _
 |d::r,h=>by
  have:=fW h.tail
  have:=(h d (List.mem_cons_self ..)).1
  simp only[bQ];omega
theorem eA(n:Nat):bQ (gU n)=n:=by
 induction n using Nat.strongRecOn with
 |_ n ih=>
  by_cases h:n=0
  ·subst h;rw[fV];rfl
  ·rw[rl h,bQ,ih _ (by omega)];omega
theorem fX(n:Nat):VD (gU n):=by
 induction n using Nat.strongRecOn with
 |_ n ih=>
  by_cases h:n=0
  ·subst h;rw[fV];exact VD.nil
  ·rw[rl h];exact VD.cons (by omega) (by omega) (ih _ (by omega))
theorem tT{n:Nat}:gU n=[]↔n=0:=by
 constructor
 ·intro h
  by_cases hn:n=0
  ·exact hn
  ·rw[rl hn]at h;cases h
 ·rintro rfl;exact fV
theorem rm(k:Nat): ∀n,n<4294967296^k→(gU n).length≤k:=by
 induction k with
 |zero=>
  intro n h;have:n=0:=by simpa using h
  subst this;rw[fV];simp
 |succ k ih=>
  intro n h
  by_cases hn:n=0
  ·subst hn;rw[fV];simp
  ·rw[rl hn,List.length_cons]
   have:=ih (n/4294967296) (by rw[Nat.div_lt_iff_lt_mul (by omega)];rw[Nat.pow_succ]at h;exact h)
   omega
theorem Cb(k:Nat): ∀n,(gU n).length≤k→n<4294967296^k:=by
 induction k with
 |zero=>
  intro n h
  have:gU n=[]:=List.eq_nil_of_length_eq_zero (by omega)
  rw[tT]at this;subst this;decide
 |succ k ih=>
  intro n h
  by_cases hn:n=0
  ·subst hn;exact Nat.pow_pos (by decide)
  ·rw[rl hn,List.length_cons]at h
   have:=ih (n/4294967296) (by omega)
   rw[Nat.div_lt_iff_lt_mul (by omega)]at this
   rw[Nat.pow_succ];exact this
def strip:List Int→List Int
 |[]=>[]
 |d::r=>if strip r=[]∧d=0 then []else d::strip r
theorem Ee: ∀{l:List Int},VD l→strip l=gU (bQ l).toNat
 |[],_=>by rw[show(bQ []).toNat=0 from rfl,fV];rfl
 |d::r,h=>by
  have ih:=Ee h.tail
  have h0:=fW h.tail
  obtain⟨h1,h2⟩:=h d (List.mem_cons_self ..)
  simp only[strip,bQ,ih,tT]
  split
  ·rename_i hc
   obtain⟨hc,rfl⟩:=hc
   have:bQ r=0:=by omega
   rw[this];exact fV.symm
  ·rename_i hc
   have gH:(d+4294967296*bQ r).toNat≠0:=fun he=>hc ⟨by omega,by omega⟩
   rw[rl gH]
   congr 1
   ·omega
   ·congr 1;omega
theorem yD: ∀(l:List Int) (x:Int),strip (l++[x])=if x=0 then strip l else l++[x]
 |[],x=>by simp[strip]
 |d::r,x=>by
  simp only[List.cons_append,strip,yD r x]
  split
  ·rfl
  ·simp
theorem eF(l:List Int){k:Nat}(h:k<l.length):l.take (k+1)=l.take k++[l.getD k 0]:=by
 rw[List.take_succ_eq_append_getElem h,List.getD_eq_getElem?_getD,List.getElem?_eq_getElem h];rfl
theorem AV(N:Nat)(l:List Int)(hl:l.length<68719476736): ∀(k n:Nat),k≤l.length→k<n→jI.l2 N n l (k:Int)=some (strip (l.take k))
 |0,n+1,_,_=>by
  unfold jI.l2 jI.dI
  simp (disch:=omega) only[aH,aF,df,dg,ct,cO,aJ,bh,bG,cr,aq,de,cond_true,cond_false,Bool.not_true,Bool.not_false,Option.bind_some,Int.toNat_natCast,Int.toNat_zero,aa,List.length_append,List.length_singleton,List.length_set,List.length_replicate,List.length_cons,List.length_nil]
  simp[strip]
 |k+1,n+1,hk,hn=>by
  unfold jI.l2 jI.dI
  have e:((k+1:Nat):Int)-1=(k:Int):=by omega
  simp (disch:=omega) only[aH,aF,df,dg,ct,cO,aJ,bh,bG,cr,aq,de,cond_true,cond_false,Bool.not_true,Bool.not_false,Option.bind_some,Int.toNat_natCast,Int.toNat_zero,aa,List.length_append,List.length_singleton,List.length_set,List.length_replicate,List.length_cons,List.length_nil,e]
  have ih:=AV N l hl k n (by omega) (by omega)
  rw[eF l (by omega),yD]
  by_cases h:l.getD k 0=0
  ·rw[ct h,cond_true,ih,if_pos h]
  ·rw[cO h,cond_false,if_neg h]
   simp only[Int.toNat_zero,List.drop_zero]
theorem Cc(N:Nat){l:List Int}(h:VD l)(hN:l.length<N)(hl:l.length<68719476736):jI N l=some (gU (bQ l).toNat):=by
 unfold jI jI.b
 rw[AV N l hl l.length N (Nat.le_refl _) hN,List.take_length,Ee h]
def bZ(v:Int):av:=(decide (v<0),(gU v.natAbs,()))
theorem nO(N:Nat)(neg:Bool){l:List Int}(h:VD l)(hN:l.length<N)(hl:l.length<68719476736):Nw N neg l=some (bZ (if neg then-bQ l else bQ l)):=by
 unfold Nw
 rw[Cc N h hN hl,Option.bind_some]
 have h0:=fW h
 cases neg
 ·simp only[cond_false,bZ,Bool.false_eq_true,if_false]
  rw[decide_eq_false (by omega)]
  congr 4;omega
 ·simp only[cond_true,bZ,if_true]
  have e:(-bQ l).natAbs=(bQ l).toNat:=by omega
  rw[e]
  congr 2
  by_cases hz:bQ l=0
  ·rw[hz,Int.toNat_zero,fV,aF (by simp),decide_eq_false (by omega)]
  ·have:0<(gU (bQ l).toNat).length:=by
    apply List.length_pos_iff.2
    intro hd;rw[tT]at hd;omega
   rw[aH (by omega),decide_eq_true (by omega)]
theorem size_eq(N:Nat)(hN:1000≤N){u:Int}(h0:0≤u)(h1:u<18446744073709551616):F67 N u=some (gU u.toNat):=by
 unfold F67
 rw[sK h0 h1,Nv]
 have hv:VD [u%4294967296,u/4294967296]:=VD.cons (by omega) (by omega) (VD.cons (by omega) (by omega) VD.nil)
 simp (disch:=omega) only[aH,aF,df,dg,ct,cO,aJ,bh,bG,cr,aq,de,cond_true,cond_false,Bool.not_true,Bool.not_false,Option.bind_some,Int.toNat_natCast,Int.toNat_zero,aa,List.length_append,List.length_singleton,List.length_set,List.length_replicate,List.length_cons,List.length_nil,Cc N hv (by simp;omega) (by simp)]
 congr 2
 simp only[bQ];omega
theorem eS(N:Nat)(hN:1000≤N){x:Int}(h0: -9223372036854775808≤x)(h1:x<9223372036854775808):fY N x=some (bZ x):=by
 unfold fY
 have hd: ∀n:Nat,n<18446744073709551616→(gU n).length≤2:=fun n h=>rm 2 n (by simpa using h)
 by_cases h:x<0
 ·have e:W .u64 (0-W .u64 x)= -x:=by rw[AU,AU];omega
  simp only[aH h,cond_true,e,size_eq N hN (show 0≤ -x by omega) (by omega),Option.bind_some]
  have:=hd (-x).toNat (by omega)
  rw[nO N true (fX _) (by omega) (by omega),eA,if_pos rfl,show-(((-x).toNat:Nat):Int)=x from by omega];rfl
 ·have e:W .u64 x=x:=de (by omega) (by omega)
  simp only[aF (show 0≤x by omega),cond_false,e,size_eq N hN (show 0≤x by omega) (by omega),Option.bind_some]
  have:=hd x.toNat (by omega)
  rw[nO N false (fX _) (by omega) (by omega),eA,if_neg Bool.false_ne_true,Int.toNat_of_nonneg (by omega)];rfl
theorem qG(N:Nat)(l:List Int)(i:Nat):QO N l (i:Int)=some (l.getD i 0):=by
 unfold QO
 by_cases h:i<l.length
 ·simp (disch:=omega) only[aH,aF,df,dg,ct,cO,aJ,bh,bG,cr,aq,de,cond_true,cond_false,Bool.not_true,Bool.not_false,Option.bind_some,Int.toNat_natCast,Int.toNat_zero,aa,List.length_append,List.length_singleton,List.length_set,List.length_replicate,List.length_cons,List.length_nil]
 ·simp (disch:=omega) only[aH,aF,df,dg,ct,cO,aJ,bh,bG,cr,aq,de,cond_true,cond_false,Bool.not_true,Bool.not_false,Option.bind_some,Int.toNat_natCast,Int.toNat_zero,aa,List.length_append,List.length_singleton,List.length_set,List.length_replicate,List.length_cons,List.length_nil]
  rw[List.getD_eq_getElem?_getD,List.getElem?_eq_none (by omega)];rfl
theorem gq(l:List Int)(i:Nat):bQ (l.drop i)=l.getD i 0+4294967296*bQ (l.drop (i+1)):=by
 by_cases h:i<l.length
 ·rw[List.drop_eq_getElem_cons h,bQ,List.getD_eq_getElem?_getD,List.getElem?_eq_getElem h];rfl
 ·rw[List.drop_of_length_le (by omega),List.drop_of_length_le (by omega),List.getD_eq_getElem?_getD,List.getElem?_eq_none (by omega)];rfl
theorem Ef(N:Nat){a b:List Int}(ha:VD a)(hb:VD b)(sI:a.length≤1000000)(GR:b.length≤1000000): ∀(m n i:Nat) (out:List Int) (c:Int),a.length+b.length+2-i≤m→m<n→out.length=i→i≤a.length+b.length+1→0≤c→c≤1→(a.length≤i→b.length≤i→i=max a.length b.length∨c=0)→
  ∃r,pY.l4 N n a b out c (i:Int)=some (out++r)∧VD r∧bQ r=bQ (a.drop i)+bQ (b.drop i)+c∧r.length≤m
 |m,0,i,out,c,_,hn,_,_,_,_,_=>by omega
 |m,n+1,i,out,c,hm,hn,ho,hi,Ma,DJ,hz=>by
  unfold pY.l4 pY.ca
  by_cases Eg:a.length≤i∧b.length≤i∧c=0
  ·obtain⟨h1,h2,rfl⟩:=Eg
   simp (disch:=omega) only[aH,aF,df,dg,ct,cO,aJ,bh,bG,cr,aq,de,cond_true,cond_false,Bool.not_true,Bool.not_false,Option.bind_some,Int.toNat_natCast,Int.toNat_zero,aa,List.length_append,List.length_singleton,List.length_set,List.length_replicate,List.length_cons,List.length_nil]
   exact⟨[],by simp,VD.nil,by rw[List.drop_of_length_le h1,List.drop_of_length_le h2];rfl,Nat.zero_le _⟩
  ·obtain⟨ga0,ga1⟩:=ha.getD i
   obtain⟨gb0,gb1⟩:=hb.getD i
   have step: ∃r,pY.j6 N (pY.l4 N n) a b out c (i:Int)=some (out++r)∧VD r∧bQ r=bQ (a.drop i)+bQ (b.drop i)+c∧r.length≤m:=by
    unfold pY.j6 pY.Mf
    have zW:i≤a.length+b.length:=by
     by_cases h1:a.length≤i∧b.length≤i
     ·rcases hz h1.1 h1.2 with h|h
      ·omega
      ·exact absurd ⟨h1.1,h1.2,h⟩ Eg
     ·omega
    simp only[qG,Option.bind_some]
    generalize hga:a.getD i 0=x at*
    generalize hgb:b.getD i 0=y at*
    rw[de (x:=x+y) (by omega) (by omega),de (x:=c+(x+y)) (by omega) (by omega),sK (by omega) (by omega),Nv]
    simp (disch:=omega) only[aH,aF,df,dg,ct,cO,aJ,bh,bG,cr,aq,de,cond_true,cond_false,Bool.not_true,Bool.not_false,Option.bind_some,Int.toNat_natCast,Int.toNat_zero,aa,List.length_append,List.length_singleton,List.length_set,List.length_replicate,List.length_cons,List.length_nil]
    obtain⟨r,hr,hv,hs,GI⟩:=Ef N ha hb sI GR (m-1) n (i+1) (out++[(c+(x+y))%4294967296]) ((c+(x+y))/4294967296) (by omega) (by omega) (by simp[ho]) (by omega) (by omega) (by omega) (fun h1 h2=>by
     by_cases h3:a.length≤i∧b.length≤i
     ·right
      rw[←hga,←hgb,List.getD_eq_getElem?_getD,List.getElem?_eq_none h3.1,List.getD_eq_getElem?_getD,List.getElem?_eq_none h3.2]
      simp only[Option.getD_none];omega
     ·left;omega)
    refine⟨(c+(x+y))%4294967296::r,by rw[hr];simp,VD.cons (by omega) (by omega) hv,?_,by rw[List.length_cons];omega⟩
    rw[bQ,hs,gq a i,gq b i,hga,hgb];omega
   by_cases h1:i<a.length
   ·simp (disch:=omega) only[aH,cond_true];exact step
   ·by_cases h2:i<b.length
    ·simp (disch:=omega) only[aH,aF,cond_true,cond_false];exact step
    ·have:0<c:=by omega
     simp (disch:=omega) only[aH,aF,cond_true,cond_false];exact step
theorem Jo: ∀{l:List Int},VD l→bQ l<4294967296^l.length
 |[],_=>by simp[bQ]
 |d::r,h=>by
  have ih:=Jo h.tail
  obtain⟨h1,h2⟩:=h d (List.mem_cons_self ..)
  rw[bQ,List.length_cons,Int.pow_succ]
  generalize (4294967296:Int)^r.length=p at*
  omega
theorem Eh(N:Nat)(hN:4000000≤N){a b:List Int}(ha:VD a)(hb:VD b)(sI:a.length≤1000000)(GR:b.length≤1000000): ∃r,pY N a b=some r∧VD r∧bQ r=bQ a+bQ b∧r.length≤2000002:=by
 unfold pY pY.b
 obtain⟨r,hr,hv,hs,hl⟩:=Ef N ha hb sI GR (a.length+b.length+2) N 0 [] 0 (by omega) (by omega) rfl (by omega) (by omega) (by omega) (fun _ _=> .inr rfl)
 exact⟨r,hr,hv,by simpa using hs,by omega⟩
theorem yE(N:Nat){a b:List Int}(ha:VD a)(hb:VD b)(sI:a.length≤1000000): ∀(m n i:Nat) (out:List Int) (c:Int),a.length-i≤m→m<n→out.length=i→i≤a.length→0≤c→c≤1→0≤bQ (a.drop i)-bQ (b.drop i)-c→
  ∃r,xz.l4 N n a b out c (i:Int)=some (out++r)∧VD r∧bQ r=bQ (a.drop i)-bQ (b.drop i)-c∧r.length≤m
 |m,0,i,out,c,_,hn,_,_,_,_,_=>by omega
 |m,n+1,i,out,c,hm,hn,ho,hi,Ma,DJ,hz=>by
  unfold xz.l4 xz.ca
  by_cases h1:i<a.length
  ·obtain⟨ga0,ga1⟩:=ha.getD i
   obtain⟨gb0,gb1⟩:=hb.getD i
   rw[gq a i,gq b i]at*
   simp only[qG,Option.bind_some,Int.toNat_natCast]
   generalize hga:a.getD i 0=x at*
   generalize hgb:b.getD i 0=y at*
   rw[de (x:=y+c) (by omega) (by omega),de (x:=x+4294967296) (by omega) (by omega)]
   by_cases dE:x<y+c
   ·rw[de (x:=x+4294967296-(y+c)) (by omega) (by omega)]
    simp (disch:=omega) only[aH,aF,df,dg,ct,cO,aJ,bh,bG,cr,aq,de,cond_true,cond_false,Bool.not_true,Bool.not_false,Option.bind_some,Int.toNat_natCast,Int.toNat_zero,aa,List.length_append,List.length_singleton,List.length_set,List.length_replicate,List.length_cons,List.length_nil,hga,hgb]
    obtain⟨r,hr,hv,hs,GI⟩:=yE N ha hb sI (m-1) n (i+1) (out++[x+4294967296-(y+c)]) 1 (by omega) (by omega) (by simp[ho]) (by omega) (by omega) (by omega) (by omega)
    refine⟨(x+4294967296-(y+c))::r,by rw[hr];simp,VD.cons (by omega) (by omega) hv,by rw[bQ,hs];omega,by rw[List.length_cons];omega⟩
   ·rw[de (x:=x-(y+c)) (by omega) (by omega)]
    simp (disch:=omega) only[aH,aF,df,dg,ct,cO,aJ,bh,bG,cr,aq,de,cond_true,cond_false,Bool.not_true,Bool.not_false,Option.bind_some,Int.toNat_natCast,Int.toNat_zero,aa,List.length_append,List.length_singleton,List.length_set,List.length_replicate,List.length_cons,List.length_nil,hga,hgb]
    obtain⟨r,hr,hv,hs,GI⟩:=yE N ha hb sI (m-1) n (i+1) (out++[x-(y+c)]) 0 (by omega) (by omega) (by simp[ho]) (by omega) (by omega) (by omega) (by omega)
    refine⟨(x-(y+c))::r,by rw[hr];simp,VD.cons (by omega) (by omega) hv,by rw[bQ,hs];omega,by rw[List.length_cons];omega⟩
  ·simp (disch:=omega) only[aH,aF,df,dg,ct,cO,aJ,bh,bG,cr,aq,de,cond_true,cond_false,Bool.not_true,Bool.not_false,Option.bind_some,Int.toNat_natCast,Int.toNat_zero,aa,List.length_append,List.length_singleton,List.length_set,List.length_replicate,List.length_cons,List.length_nil]
   have h0:=fW (hb.drop i)
   rw[List.drop_of_length_le (l:=a) (by omega)]at hz ⊢
   simp only[bQ]at hz ⊢
   exact⟨[],by simp,VD.nil,by simp only[bQ];omega,Nat.zero_le _⟩
theorem wg(N:Nat)(hN:4000000≤N){a b:List Int}(ha:VD a)(hb:VD b)(sI:a.length≤1000000)(h:bQ b≤bQ a): ∃r,xz N a b=some r∧VD r∧bQ r=bQ a-bQ b∧r.length≤1000000:=by
 unfold xz xz.b
 obtain⟨r,hr,hv,hs,hl⟩:=yE N ha hb sI a.length N 0 [] 0 (by omega) (by omega) rfl (by omega) (by omega) (by omega) (by simp;omega)
 exact⟨r,hr,hv,by simpa using hs,by omega⟩
theorem mf: ∀(l:List Int) (x:Int),bQ (l++[x])=bQ l+4294967296^l.length*x
 |[],x=>by simp[bQ]
 |d::r,x=>by
  rw[List.cons_append,bQ,mf r x,bQ,List.length_cons,Int.pow_succ,Int.mul_comm _ 4294967296,Int.mul_assoc,Int.mul_add];omega
theorem Ei{a b:List Int}(ha:VD a)(hb:VD b){k:Nat}(h1:k<a.length)(h2:k<b.length)(dE:a.getD k 0<b.getD k 0):bQ (a.take (k+1))<bQ (b.take (k+1)):=by
 rw[eF a h1,eF b h2,mf,mf]
 have l1:(a.take k).length=k:=by rw[List.length_take];omega
 have l2:(b.take k).length=k:=by rw[List.length_take];omega
 have v1:=Jo (ha.take k)
 have v2:=fW (hb.take k)
 rw[l1]at*
 rw[l2]
 generalize (4294967296:Int)^k=p at*
 have hp:0<p:=by have:=fW (ha.take k);omega
 have:=Int.mul_le_mul_of_nonneg_left (show a.getD k 0+1≤b.getD k 0 by omega) (Int.le_of_lt hp)
 rw[Int.mul_add,Int.mul_one]at this
 omega
def rn(x:Int):Int:=if x<0 then-1 else if 0<x then 1 else 0
theorem Ej(N:Nat){a b:List Int}(ha:VD a)(hb:VD b)(hl:a.length=b.length)(sI:a.length≤1000000): ∀(k n:Nat),k≤a.length→k<n→w1.l6 N n a b ((k:Int)-1)=some (rn (bQ (a.take k)-bQ (b.take k)))
 |k,0,_,hn=>by omega
 |0,n+1,_,_=>by
  unfold w1.l6 w1.mg
  simp (disch:=omega) only[aH,aF,df,dg,ct,cO,aJ,bh,bG,cr,aq,de,cond_true,cond_false,Bool.not_true,Bool.not_false,Option.bind_some,Int.toNat_natCast,Int.toNat_zero,aa,List.length_append,List.length_singleton,List.length_set,List.length_replicate,List.length_cons,List.length_nil]
  simp[rn,bQ]
 |k+1,n+1,hk,hn=>by
  unfold w1.l6 w1.mg
  have e:((k+1:Nat):Int)-1=(k:Int):=by omega
  rw[e]
  simp (disch:=omega) only[aH,aF,df,dg,ct,cO,aJ,bh,bG,cr,aq,de,cond_true,cond_false,Bool.not_true,Bool.not_false,Option.bind_some,Int.toNat_natCast,Int.toNat_zero,aa,List.length_append,List.length_singleton,List.length_set,List.length_replicate,List.length_cons,List.length_nil]
  by_cases h1:a.getD k 0<b.getD k 0
  ·rw[aH h1,cond_true]
   have:=Ei ha hb (k:=k) (by omega) (by omega) h1
   rw[rn,if_pos (by omega)]
  ·rw[aF (by omega),cond_false]
   by_cases h2:b.getD k 0<a.getD k 0
   ·rw[aH h2,cond_true]
    have:=Ei hb ha (k:=k) (by omega) (by omega) h2
    rw[rn,if_neg (by omega),if_pos (by omega)]
   ·rw[aF (by omega),cond_false,Ej N ha hb hl sI k n (by omega) (by omega)]
    congr 2
    rw[eF a (by omega),eF b (by omega),mf,mf,show a.getD k 0=b.getD k 0 from by omega,List.length_take,List.length_take,hl]
    omega
theorem Ek(N:Nat)(hN:4000000≤N)(m k:Nat)(hm:(gU m).length≤1000000)(hk:(gU k).length≤1000000):w1 N (gU m) (gU k)=some (rn ((m:Int)-k)):=by
 unfold w1 w1.b
 by_cases h:(gU m).length=(gU k).length
 ·simp (disch:=omega) only[aH,aF,df,dg,ct,cO,aJ,bh,bG,cr,aq,de,cond_true,cond_false,Bool.not_true,Bool.not_false,Option.bind_some,Int.toNat_natCast,Int.toNat_zero,aa,List.length_append,List.length_singleton,List.length_set,List.length_replicate,List.length_cons,List.length_nil]
  rw[Ej N (fX m) (fX k) h hm (gU m).length N (Nat.le_refl _) (by omega),List.take_length,h,List.take_length,eA,eA]
 ·rw[cO (by omega),Bool.not_false,cond_true]
  by_cases dE:(gU m).length<(gU k).length
  ·rw[aH (by omega),cond_true]
   have h1:=Cb ((gU k).length-1) m (by omega)
   have h2: ¬(k<4294967296^((gU k).length-1)):=fun h=>by have:=rm _ _ h;omega
   rw[rn,if_pos (by omega)]
  ·rw[aF (by omega),cond_false]
   have h1:=Cb ((gU m).length-1) k (by omega)
   have h2: ¬(m<4294967296^((gU m).length-1)):=fun h=>by have:=rm _ _ h;omega
   rw[rn,if_neg (by omega),if_pos (by omega)]
end VM
end
section
namespace VM
open Go VM.F
def Fit(v:Int)(k:Nat):Prop:=v.natAbs<4294967296^k
theorem Fit.len{v:Int}{k:Nat}(h:Fit v k):(gU v.natAbs).length≤k:=rm k _ h
theorem Fit.mono{v:Int}{j k:Nat}(h:Fit v j)(hjk:j≤k):Fit v k:=Nat.lt_of_lt_of_le h (Nat.pow_le_pow_right (by decide) hjk)
theorem Fit.neg{v:Int}{k:Nat}(h:Fit v k):Fit (-v) k:=by unfold Fit at*;rwa [Int.natAbs_neg]
theorem Fit.i64{v:Int}(h0: -9223372036854775808≤v)(h1:v<9223372036854775808):Fit v 2:=by
 unfold Fit
 rw[show(4294967296:Nat)^2=18446744073709551616 from by decide];omega
theorem Fit.add{u v:Int}{k:Nat}(hu:Fit u k)(hv:Fit v k):Fit (u+v) (k+1):=by
 unfold Fit at*
 rw[Nat.pow_succ]
 have:(u+v).natAbs≤u.natAbs+v.natAbs:=Int.natAbs_add_le u v
 generalize 4294967296^k=p at*
 omega
theorem Fit.mul{u v:Int}{j k:Nat}(hu:Fit u j)(hv:Fit v k):Fit (u*v) (j+k):=by
 unfold Fit at*
 rw[Int.natAbs_mul,Nat.pow_add]
 exact Nat.mul_lt_mul'' hu hv
theorem Fit.of_le{u v:Int}{k:Nat}(hv:Fit v k)(h:u.natAbs≤v.natAbs):Fit u k:=Nat.lt_of_le_of_lt h hv
theorem El(a b:Bool):kV .bool a b=(a==b):=by simp[kV]
theorem fH(N:Nat)(hN:4000000≤N){u v:Int}(hu:Fit u 900000)(hv:Fit v 900000):tU N (bZ u) (bZ v)=some (bZ (u+v)):=by
 have lu:=hu.len
 have lv:=hv.len
 unfold tU
 simp only[bZ,El]
 by_cases hs:decide (u<0)=decide (v<0)
 ·rw[hs,beq_self_eq_true,cond_true]
  obtain⟨r,hr,hvd,B1,hl⟩:=Eh N hN (fX u.natAbs) (fX v.natAbs) (by omega) (by omega)
  simp only[hr,Option.bind_some,nO N _ hvd (by omega) (by omega),B1,eA]
  congr 1
  show bZ _=bZ _
  congr 1
  by_cases h:v<0
  ·have:u<0:=by simpa [h]using hs
   rw[if_pos (decide_eq_true h)];omega
  ·have: ¬u<0:=by simpa [h]using hs
   rw[if_neg (by simpa using h)];omega
 ·have hb:(decide (u<0)==decide (v<0))=false:=by simpa using hs
  rw[hb,cond_false,Ek N hN _ _ (by omega) (by omega),Option.bind_some]
  by_cases hc:v.natAbs≤u.natAbs
  ·have h1:bV 0 (rn ((u.natAbs:Int)-v.natAbs))=true:=df (by unfold rn;split<;>(try split)<;>omega)
   obtain⟨r,hr,hvd,B1,hl⟩:=wg N hN (fX u.natAbs) (fX v.natAbs) (by omega) (by rw[eA,eA];omega)
   simp only[h1,cond_true,hr,Option.bind_some,nO N _ hvd (by omega) (by omega),B1,eA]
   congr 1
   show bZ _=bZ _
   congr 1
   by_cases h:u<0
   ·have: ¬v<0:=fun hv=>hs (by simp[h,hv])
    rw[if_pos (decide_eq_true h)];omega
   ·have:v<0:=Classical.byContradiction fun hv=>hs (by simp[h,hv])
    rw[if_neg (by simpa using h)];omega
  ·have h1:bV 0 (rn ((u.natAbs:Int)-v.natAbs))=false:=dg (by unfold rn;rw[if_pos (by omega)];omega)
   obtain⟨r,hr,hvd,B1,hl⟩:=wg N hN (fX v.natAbs) (fX u.natAbs) (by omega) (by rw[eA,eA];omega)
   simp only[h1,cond_false,hr,Option.bind_some,nO N _ hvd (by omega) (by omega),B1,eA]
   congr 1
   show bZ _=bZ _
   congr 1
   by_cases h:v<0
   ·have: ¬u<0:=fun hu=>hs (by simp[h,hu])
    rw[if_pos (decide_eq_true h)];omega
   ·have:u<0:=Classical.byContradiction fun hu=>hs (by simp[h,hu])
    rw[if_neg (by simpa using h)];omega
theorem oJ(N:Nat)(hN:4000000≤N){u:Int}(hu:Fit u 900000):Mg N (bZ u)=some (bZ (-u)):=by
 have lu:=hu.len
 unfold Mg
 simp only[bZ]
 simp only[nO N _ (fX u.natAbs) (by omega) (by omega),Option.bind_some,eA]
 congr 1
 show bZ _=bZ _
 congr 1
 by_cases h:u<0
 ·rw[decide_eq_true h,Bool.not_true,if_neg Bool.false_ne_true];omega
 ·rw[decide_eq_false h,Bool.not_false,if_pos rfl];omega
theorem Nx(N:Nat)(hN:4000000≤N){u:Int}(hu:Fit u 900000):Ny N (bZ u)=some (bZ u.natAbs):=by
 have lu:=hu.len
 unfold Ny
 simp only[bZ]
 simp only[nO N _ (fX u.natAbs) (by omega) (by omega),Option.bind_some,eA,Bool.false_eq_true,if_false]
 rfl
theorem rp(N:Nat)(hN:4000000≤N){u v:Int}(hu:Fit u 900000)(hv:Fit v 900000):Jp N (bZ u) (bZ v)=some (bZ (u-v)):=by
 unfold Jp
 simp only[oJ N hN hv,Option.bind_some,fH N hN hu hv.neg,Int.sub_eq_add_neg]
theorem pb(N:Nat)(u:Int):Jq N (bZ u)=some (rn u):=by
 unfold Jq
 simp only[bZ]
 by_cases h:u=0
 ·subst h
  rw[show(0:Int).natAbs=0 from rfl,fV]
  simp (disch:=omega) only[aH,aF,df,dg,ct,cO,aJ,bh,bG,cr,aq,de,cond_true,cond_false,Bool.not_true,Bool.not_false,Option.bind_some,Int.toNat_natCast,Int.toNat_zero,aa,List.length_append,List.length_singleton,List.length_set,List.length_replicate,List.length_cons,List.length_nil]
  rfl
 ·have:0<(gU u.natAbs).length:=by
   apply List.length_pos_iff.2
   intro hd;rw[tT]at hd;omega
  rw[cO (by omega),cond_false]
  by_cases hn:u<0
  ·rw[decide_eq_true hn,cond_true,rn,if_pos hn]
  ·rw[decide_eq_false hn,cond_false,rn,if_neg hn,if_pos (by omega)]
theorem Hv(N:Nat)(hN:4000000≤N){u v:Int}(hu:Fit u 900000)(hv:Fit v 900000):GW N (bZ u) (bZ v)=some (rn (u-v)):=by
 unfold GW
 simp only[rp N hN hu hv,Option.bind_some,pb]
theorem Jr(l:List Int)(h: ∀x∈l,-9223372036854775808≤x∧x<9223372036854775808): -(9223372036854775808*l.length)≤l.sum∧l.sum≤9223372036854775808*l.length:=by
 induction l with
 |nil=>simp
 |cons x l ih=>
  have:=ih (fun y hy=>h y (List.mem_cons_of_mem _ hy))
  obtain⟨h1,h2⟩:=h x (List.mem_cons_self ..)
  rw[List.sum_cons,List.length_cons]
  omega
theorem tV{v:Int}{n:Nat}(hn:n≤1000000)(h0: -(9223372036854775808*n)≤v)(h1:v≤9223372036854775808*n):Fit v 3:=by
 unfold Fit
 rw[show(4294967296:Nat)^3=79228162514264337593543950336 from by decide]
 omega
theorem oK{l:List Int}(h: ∀x∈l,-9223372036854775808≤x∧x<9223372036854775808)(i:Nat): -9223372036854775808≤l.getD i 0∧l.getD i 0<9223372036854775808:=by
 rw[List.getD_eq_getElem?_getD]
 cases hn:l[i]? with
 |none=>exact⟨by decide,by decide⟩
 |some x=>exact h x (List.mem_of_getElem? hn)
theorem gV(l:List Int){i:Nat}(h:i<l.length):(l.take (i+1)).sum=(l.take i).sum+l.getD i 0:=by
 rw[eF l h];simp
theorem tW(N:Nat)(hN:4000000≤N){l:List Int}(h: ∀x∈l,-9223372036854775808≤x∧x<9223372036854775808)(hl:l.length≤1000000): ∀(m n i:Nat) (z:av),l.length-i≤m→m<n→i≤l.length→
  ld.l3 N n l z (bZ (l.take i).sum) (i:Int)=some (bZ l.sum)
 |m,0,i,z,_,hn,_=>by omega
 |m,n+1,i,z,hm,hn,hi=>by
  unfold ld.l3 ld.ig
  by_cases h1:i<l.length
  ·obtain⟨g0,g1⟩:=oK h i
   have f1:=Jr (l.take i) (fun x hx=>h x (List.mem_of_mem_take hx))
   rw[List.length_take,Nat.min_eq_left (by omega)]at f1
   have f2:Fit (l.take i).sum 900000:=(tV (n:=i) (by omega) f1.1 f1.2).mono (by omega)
   have f3:Fit (l.getD i 0) 900000:=(Fit.i64 g0 g1).mono (by omega)
   simp (disch:=omega) only[aH,aF,df,dg,ct,cO,aJ,bh,bG,cr,aq,de,cond_true,cond_false,Bool.not_true,Bool.not_false,Option.bind_some,Int.toNat_natCast,Int.toNat_zero,aa,List.length_append,List.length_singleton,List.length_set,List.length_replicate,List.length_cons,List.length_nil,eS N (by omega) g0 g1,fH N hN f2 f3]
   rw[←gV l h1]
   exact tW N hN h hl (m-1) n (i+1) z (by omega) (by omega) (by omega)
  ·simp (disch:=omega) only[aH,aF,df,dg,ct,cO,aJ,bh,bG,cr,aq,de,cond_true,cond_false,Bool.not_true,Bool.not_false,Option.bind_some,Int.toNat_natCast,Int.toNat_zero,aa,List.length_append,List.length_singleton,List.length_set,List.length_replicate,List.length_cons,List.length_nil]
   rw[List.take_of_length_le (by omega)]
theorem gr:bZ 0=(false,([],())):=by unfold bZ;rw[show(0:Int).natAbs=0 from rfl,fV];rfl
theorem sL(N:Nat)(hN:4000000≤N){l:List Int}(h: ∀x∈l,-9223372036854775808≤x∧x<9223372036854775808)(hl:l.length≤1000000):ld N l=some (bZ l.sum):=by
 unfold ld ld.b
 have:=tW N hN h hl l.length N 0 (false,([],())) (by omega) (by omega) (by omega)
 rw[List.take_zero,List.sum_nil,gr]at this
 exact this
theorem Nz{a b:Int}(ha:0≤a)(ha1:a<4294967296)(hb:0≤b)(jw:b<4294967296):ov .or .u64 a (b*4294967296)=a+b*4294967296:=by
 rw[Jm ha (by omega) (by omega) (by omega)]
 have h:=Nat.two_pow_add_eq_or_of_lt (i:=32) (b:=a.toNat) (by omega) b.toNat
 have e:(b*4294967296).toNat=2^32*b.toNat:=by omega
 rw[e,Nat.or_comm,←h];omega
theorem KQ{a b:Int}(ha:0≤a)(ha1:a<4294967296)(hb:0≤b)(jw:b<4294967296):ov .or .u64 (b*4294967296) a=a+b*4294967296:=by
 rw[Jm (by omega) (by omega) ha (by omega)]
 have h:=Nat.two_pow_add_eq_or_of_lt (i:=32) (b:=a.toNat) (by omega) b.toNat
 have e:(b*4294967296).toNat=2^32*b.toNat:=by omega
 rw[e,←h];omega
theorem Wu{x:Int}(h0:0≤x):shl .u64 x 32=x*4294967296:=by rw[QN (by omega) (by omega)];rfl
def w3(v:Int):Int×Bool:=if-9223372036854775808≤v∧v<9223372036854775808 then(v,true)else(0,false)
theorem QP{n:Nat}(h:(gU n).length≤2):(gU n).getD 0 0+4294967296*(gU n).getD 1 0=n:=by
 have h1:=gq (gU n) 0
 have h2:=gq (gU n) 1
 rw[List.drop_zero,eA]at h1
 rw[List.drop_of_length_le (l:=gU n) (i:=1+1) h]at h2
 simp only[bQ,Nat.zero_add]at h1 h2
 omega
theorem oc(N:Nat)(v:Int):qH N (bZ v)=some (w3 v):=by
 unfold qH
 simp only[bZ]
 by_cases hl:2<(gU v.natAbs).length
 ·rw[aH (by omega),cond_true,w3,if_neg]
  intro hh
  have:=rm 2 v.natAbs (by rw[show(4294967296:Nat)^2=18446744073709551616 from by decide];omega)
  omega
 ·have h2:=QP (n:=v.natAbs) (by omega)
  obtain⟨a0,a1⟩:=(fX v.natAbs).getD 0
  obtain⟨b0,b1⟩:=(fX v.natAbs).getD 1
  have e0:=qG N (gU v.natAbs) 0
  have e1:=qG N (gU v.natAbs) 1
  simp only[Int.natCast_zero,Int.natCast_one]at e0 e1
  rw[aF (by omega),cond_false,e0,e1]
  generalize (gU v.natAbs).getD 0 0=a at*
  generalize (gU v.natAbs).getD 1 0=b at*
  simp only[Option.bind_some]
  rw[aF (show(0:Int)≤32 by omega),cond_false,Wu b0,de (x:=b*4294967296) (by omega) (by omega),Nz a0 a1 b0 b1]
  have ev:a+b*4294967296=v.natAbs:=by omega
  rw[ev]
  by_cases hn:v<0
  ·rw[decide_eq_true hn,cond_true]
   by_cases Ca:9223372036854775808<(v.natAbs:Int)
   ·rw[aH Ca,cond_true,w3,if_neg (by omega)]
   ·rw[aF (by omega),cond_false,w3,if_pos (by omega),AU,jH]
    congr 2
    split<;>omega
  ·rw[decide_eq_false hn,cond_false]
   by_cases Ca:9223372036854775807<(v.natAbs:Int)
   ·rw[aH Ca,cond_true,w3,if_neg (by omega)]
   ·rw[aF (by omega),cond_false,w3,if_pos (by omega),aq (by omega) (by omega)]
    congr 2;omega
end VM
end
section
namespace VM
open Go VM.F
theorem Em: ∀(l:List Int) (k:Nat) (x:Int),k<l.length→bQ (l.set k x)=bQ l+4294967296^k*(x-l.getD k 0)
 |d::r,0,x,_=>by simp[bQ];omega
 |d::r,k+1,x,h=>by
  have ih:=Em r k x (by simpa using h)
  rw[List.set_cons_succ,bQ,bQ,ih,List.getD_cons_succ,Int.pow_succ,Int.mul_comm (4294967296^k) 4294967296,Int.mul_assoc,Int.mul_add];omega
theorem getD_set_ne(l:List Int){j k:Nat}(x:Int)(h:j≠k):(l.set j x).getD k 0=l.getD k 0:=by
 simp[List.getD_eq_getElem?_getD,List.getElem?_set_ne h]
theorem iB(l:List Int){k:Nat}(x:Int)(h:k<l.length):(l.set k x).getD k 0=x:=by
 simp[List.getD_eq_getElem?_getD,List.getElem?_set,h]
theorem pd(l:List Int){k:Nat}(h:l.length≤k):l.getD k 0=0:=by
 rw[List.getD_eq_getElem?_getD,List.getElem?_eq_none h];rfl
theorem wh(N:Nat)(K:av→av→av→List Int→Int→Option av){a b:List Int}(na nb:Bool)(z:av)(ha:VD a)(hb:VD b)(i:Nat)(hi:i<a.length)(sI:a.length≤100000)(GR:b.length≤100000):
  ∀(m n j:Nat) (out:List Int) (c:Int),b.length+1-j≤m→m<n→VD out→out.length=a.length+b.length+1→0≤c→c<4294967296→(j≤b.length→ ∀k,i+b.length≤k→out.getD k 0=0)→(b.length<j→c=0∧j=b.length+1∧ ∀k,i+b.length+1≤k→out.getD k 0=0)→
  ∃sM,fL.l7 N K n (na,(a,())) (nb,(b,())) z out (i:Int) c (j:Int)=K (na,(a,())) (nb,(b,())) z sM ((i+1:Nat):Int)∧VD sM∧sM.length=out.length∧
   bQ sM=bQ out+4294967296^i*(4294967296^j*(a.getD i 0*bQ (b.drop j)+c))∧ ∀k,i+1+b.length≤k→sM.getD k 0=0
 |m,0,j,out,c,_,hn,_,_,_,_,_,_=>by omega
 |m,n+1,j,out,c,hm,hn,ho,Da,Ma,DJ,hz,GU=>by
  unfold fL.l7 fL.lD
  by_cases Eg:b.length≤j∧c=0
  ·obtain⟨h1,rfl⟩:=Eg
   simp (disch:=omega) only[aH,aF,df,dg,ct,cO,aJ,bh,bG,cr,aq,de,cond_true,cond_false,Bool.not_true,Bool.not_false,Option.bind_some,Int.toNat_natCast,Int.toNat_zero,aa,List.length_append,List.length_singleton,List.length_set,List.length_replicate,List.length_cons,List.length_nil]
   refine⟨out,rfl,ho,rfl,by rw[List.drop_of_length_le h1];simp[bQ],fun k hk=> ?_⟩
   by_cases hj:j≤b.length
   ·exact hz hj k (by omega)
   ·exact(GU (by omega)).2.2 k (by omega)
  ·have zP:j≤b.length:=by
    by_cases hj:j≤b.length
    ·exact hj
    ·exact absurd ⟨by omega,(GU (by omega)).1⟩ Eg
   obtain⟨ga0,ga1⟩:=ha.getD i
   obtain⟨gb0,gb1⟩:=hb.getD j
   obtain⟨go0,go1⟩:=ho.getD (i+j)
   have step: ∃sM,fL.j9 N K (fL.l7 N K n) (na,(a,())) (nb,(b,())) z out (i:Int) c (j:Int)=K (na,(a,())) (nb,(b,())) z sM ((i+1:Nat):Int)∧VD sM∧sM.length=out.length∧
     bQ sM=bQ out+4294967296^i*(4294967296^j*(a.getD i 0*bQ (b.drop j)+c))∧ ∀k,i+1+b.length≤k→sM.getD k 0=0:=by
    unfold fL.j9 fL.Hw
    have eij:(i:Int)+(j:Int)=((i+j:Nat):Int):=rfl
    have hp:=mul_lt (m:=4294967295) (n:=4294967295) ga0 gb0 (by omega) (by omega)
    simp only[qG,Option.bind_some,eij,Int.toNat_natCast]
    simp (disch:=omega) only[aH,aF,df,dg,ct,cO,aJ,bh,bG,cr,aq,de,cond_true,cond_false,Bool.not_true,Bool.not_false,Option.bind_some,Int.toNat_natCast,Int.toNat_zero,aa,List.length_append,List.length_singleton,List.length_set,List.length_replicate,List.length_cons,List.length_nil]
    generalize hx:out.getD (i+j) 0=x at*
    generalize ha':a.getD i 0=ai at*
    generalize dv:b.getD j 0=bj at*
    generalize hpe:ai*bj=p at*
    have hpz:b.length≤j→p=0∧x=0:=fun h=>by
     rw[pd b h]at dv
     refine⟨by rw[←hpe,←dv,Int.mul_zero],?_⟩
     rw[←hx];exact hz zP _ (by omega)
    rw[sK (by omega) (by omega),Nv]
    have aiR:(out.set (i+j) ((c+(x+p))%4294967296)).length=a.length+b.length+1:=by rw[List.length_set];exact Da
    obtain⟨sM,h1,h2,h3,h4,h5⟩:=wh N K na nb z ha hb i hi sI GR (m-1) n (j+1) (out.set (i+j) ((c+(x+p))%4294967296)) ((c+(x+p))/4294967296) (by omega) (by omega) (ho.set _ (by omega) (by omega)) aiR (by omega) (by omega)
     (fun h k hk=>by rw[getD_set_ne _ _ (by omega)];exact hz zP k hk)
     (fun h=>by
      obtain⟨hp0,MX⟩:=hpz (by omega)
      refine⟨by omega,by omega,fun k hk=> ?_⟩
      rw[getD_set_ne _ _ (by omega)];exact hz zP k (by omega))
    refine⟨sM,h1,h2,by rw[h3,List.length_set],?_,h5⟩
    rw[h4,Em _ _ _ (by omega),hx,ha',gq b j,dv,Int.mul_add ai,hpe,Int.pow_add,Int.pow_succ]
    have e1:ai*(4294967296*bQ (b.drop (j+1)))=4294967296*(ai*bQ (b.drop (j+1))):=Int.mul_left_comm _ _ _
    rw[e1]
    generalize ai*bQ (b.drop (j+1))=y
    generalize (4294967296:Int)^i=P
    generalize (4294967296:Int)^j=R
    rw[Int.mul_assoc R,Int.mul_assoc P,Int.add_assoc,←Int.mul_add,←Int.mul_add]
    congr 3
    omega
   by_cases h1:j<b.length
   ·simp (disch:=omega) only[aH,cond_true];exact step
   ·have:0<c:=by omega
    simp (disch:=omega) only[aH,aF,cond_true,cond_false];exact step
theorem wi(N:Nat)(hN:4000000≤N){a b:List Int}(na nb:Bool)(z:av)(ha:VD a)(hb:VD b)(sI:a.length≤100000)(GR:b.length≤100000):
  ∀(m n i:Nat) (out:List Int),a.length-i≤m→m<n→i≤a.length→VD out→out.length=a.length+b.length+1→(∀k,i+b.length≤k→out.getD k 0=0)→bQ out=bQ (a.take i)*bQ b→
  fL.l3 N n (na,(a,())) (nb,(b,())) z out (i:Int)=some (bZ (if na=nb then bQ a*bQ b else-(bQ a*bQ b)))
 |m,0,i,out,_,hn,_,_,_,_,_=>by omega
 |m,n+1,i,out,hm,hn,hi,ho,Da,hz,hv=>by
  unfold fL.l3 fL.ig
  by_cases h1:i<a.length
  ·simp only
   rw[aH (by omega),cond_true]
   obtain⟨sM,e1,e2,e3,e4,e5⟩:=wh N (fL.l3 N n) na nb z ha hb i h1 sI GR (b.length+1) N 0 out 0 (by omega) (by omega) ho Da (by omega) (by omega) (fun _ k hk=>hz k hk) (fun h=>by omega)
   rw[show((0:Nat):Int)=0 from rfl]at e1
   rw[e1]
   refine wi N hN na nb z ha hb sI GR (m-1) n (i+1) sM (by omega) (by omega) (by omega) e2 (by rw[e3];exact Da) (fun k hk=>e5 k (by omega)) ?_
   rw[e4,hv,eF a h1,mf,List.length_take,Nat.min_eq_left (by omega),List.drop_zero,Int.pow_zero,Int.one_mul,Int.add_zero,Int.add_mul,Int.mul_assoc]
  ·simp only
   rw[aF (by omega),cond_false]
   simp only[nO N _ ho (by omega) (by omega),Option.bind_some]
   rw[hv,List.take_of_length_le (by omega),El]
   congr 2
   cases na<;>cases nb<;>simp
theorem En(N:Nat)(hN:4000000≤N){u v:Int}(hu:Fit u 90000)(hv:Fit v 90000):fL N (bZ u) (bZ v)=some (bZ (u*v)):=by
 have lu:=hu.len
 have lv:=hv.len
 unfold fL fL.b
 simp only[bZ]
 simp (disch:=omega) only[aH,aF,df,dg,ct,cO,aJ,bh,bG,cr,aq,de,cond_true,cond_false,Bool.not_true,Bool.not_false,Option.bind_some,Int.toNat_natCast,Int.toNat_zero,aa,List.length_append,List.length_singleton,List.length_set,List.length_replicate,List.length_cons,List.length_nil]
 have e:(((gU u.natAbs).length:Int)+((gU v.natAbs).length:Int)+1).toNat=(gU u.natAbs).length+(gU v.natAbs).length+1:=by omega
 have:=wi N hN (decide (u<0)) (decide (v<0)) (false,([],())) (fX u.natAbs) (fX v.natAbs) (by omega) (by omega) (gU u.natAbs).length N 0 (List.replicate ((gU u.natAbs).length+(gU v.natAbs).length+1) 0) (by omega) (by omega) (by omega) (VD.Wt _) (by simp)
  (fun k _=>by rw[List.getD_eq_getElem?_getD,List.getElem?_replicate];split<;>rfl) (by
   have: ∀n,bQ (List.replicate n 0)=0:=fun n=>by
    induction n with
    |zero=>rfl
    |succ n ih=>rw[List.replicate_succ,bQ,ih];rfl
   rw[this];simp[bQ])
 rw[eA,eA]at this
 have e2:(((gU u.natAbs).length+(gU v.natAbs).length:Nat):Int)+1=(gU u.natAbs).length+(gU v.natAbs).length+1:=by omega
 first
 |(rw[e];refine this.trans ?_)
 |(refine(this).trans ?_)
 show some (bZ _)=some (bZ _)
 congr 2
 have key:(u.natAbs:Int)*v.natAbs=if decide (u<0)=decide (v<0)then u*v else-(u*v):=by
  by_cases h1:u<0<;>by_cases h2:v<0
  ·rw[if_pos (by simp[h1,h2]),show(u.natAbs:Int)= -u from by omega,show(v.natAbs:Int)= -v from by omega,Int.neg_mul_neg]
  ·rw[if_neg (by simp[h1,h2]),show(u.natAbs:Int)= -u from by omega,show(v.natAbs:Int)=v from by omega,Int.neg_mul]
  ·rw[if_neg (by simp[h1,h2]),show(u.natAbs:Int)=u from by omega,show(v.natAbs:Int)= -v from by omega,Int.mul_neg]
  ·rw[if_pos (by simp[h1,h2]),show(u.natAbs:Int)=u from by omega,show(v.natAbs:Int)=v from by omega]
 rw[key]
 split<;>simp
end VM
end
section
namespace VM
open Go VM.F
theorem QQ{x:Int}(h0:0≤x)(h1:x<18446744073709551616):ov .and .u64 x 1=x%2:=by
 rw[Ec h0 h1 (by omega) (by omega)]
 have:=Nat.and_two_pow_sub_one_eq_mod x.toNat 1
 rw[show((1:Int).toNat)=2^1-1 from rfl,this]
 omega
theorem Af{l:List Int}{k:Nat}(x:Int)(h:k<l.length):bQ ((l.set k x).drop k)=x+4294967296*bQ (l.drop (k+1)):=by
 rw[gq,iB l x h,List.drop_set_of_lt (by omega)]
theorem AW(N:Nat){d:List Int}(hd:VD d)(hl:d.length≤100000)(hN:4000000≤N): ∀(k n:Nat) (out:List Int) (c:Int),k≤d.length→k<n→VD out→out.length=d.length→c=bQ (d.drop k)%2→bQ (out.drop k)=bQ (d.drop k)/2→
  lf.l4 N n d out c ((k:Int)-1)=some (gU (bQ d/2).toNat,bQ d%2)
 |k,0,out,c,_,hn,_,_,_,_=>by omega
 |0,n+1,out,c,_,_,ho,Da,hc,hv=>by
  unfold lf.l4 lf.ca
  simp (disch:=omega) only[aH,aF,df,dg,ct,cO,aJ,bh,bG,cr,aq,de,cond_true,cond_false,Bool.not_true,Bool.not_false,Option.bind_some,Int.toNat_natCast,Int.toNat_zero,aa,List.length_append,List.length_singleton,List.length_set,List.length_replicate,List.length_cons,List.length_nil,Cc N ho (by omega) (by omega)]
  rw[List.drop_zero,List.drop_zero]at hv
  rw[List.drop_zero]at hc
  rw[hv,hc]
 |k+1,n+1,out,c,hk,hn,ho,Da,hc,hv=>by
  unfold lf.l4 lf.ca
  have e:((k+1:Nat):Int)-1=(k:Int):=by omega
  obtain⟨g0,g1⟩:=hd.getD k
  have hn0:=fW (hd.drop (k+1))
  have e1:=gq d k
  simp only[e,Int.toNat_natCast]
  rw[Wu (by omega)]
  generalize hx:d.getD k 0=x at*
  rw[de (x:=c*4294967296) (by omega) (by omega),KQ g0 g1 (by omega) (by omega)]
  simp (disch:=omega) only[aH,aF,df,dg,ct,cO,aJ,bh,bG,cr,aq,de,cond_true,cond_false,Bool.not_true,Bool.not_false,Option.bind_some,Int.toNat_natCast,Int.toNat_zero,aa,List.length_append,List.length_singleton,List.length_set,List.length_replicate,List.length_cons,List.length_nil,aiN,QQ]
  refine AW N hd hl hN k n (out.set k ((x+c*4294967296)/2)) ((x+c*4294967296)%2) (by omega) (by omega) (ho.set _ (by omega) (by omega)) (by rw[List.length_set];exact Da) (by rw[e1,hc];omega) ?_
  rw[Af _ (by omega),hv,e1]
  omega
theorem QR(N:Nat)(hN:4000000≤N)(m:Nat)(h:(gU m).length≤100000):lf N (gU m)=some (gU (m/2),((m%2:Nat):Int)):=by
 unfold lf lf.b
 simp (disch:=omega) only[aH,aF,df,dg,ct,cO,aJ,bh,bG,cr,aq,de,cond_true,cond_false,Bool.not_true,Bool.not_false,Option.bind_some,Int.toNat_natCast,Int.toNat_zero,aa,List.length_append,List.length_singleton,List.length_set,List.length_replicate,List.length_cons,List.length_nil]
 have:=AW N (fX m) h hN (gU m).length N (List.replicate (gU m).length 0) 0 (Nat.le_refl _) (by omega) (VD.Wt _) (by simp) (by rw[List.drop_length];rfl) (by rw[List.drop_length,List.drop_of_length_le (by simp)];rfl)
 rw[eA]at this
 rw[this]
 congr 2
def bin(n:Nat):List Int:=if n=0 then []else((n%2:Nat):Int)::bin (n/2)
termination_by n
decreasing_by omega
theorem xA{n:Nat}(h:n≠0):bin n=((n%2:Nat):Int)::bin (n/2):=by rw[bin];simp[h]
theorem qI:bin 0=[]:=by rw[bin];rfl
def tX:List Int→Int
 |[]=>0
 |d::r=>d+2*tX r
theorem QS(n:Nat):tX (bin n)=n:=by
 induction n using Nat.strongRecOn with
 |_ n ih=>
  by_cases h:n=0
  ·subst h;rw[qI];rfl
  ·rw[xA h,tX,ih _ (by omega)];omega
theorem QT(n:Nat): ∀d∈bin n,d=0∨d=1:=by
 induction n using Nat.strongRecOn with
 |_ n ih=>
  by_cases h:n=0
  ·subst h;rw[qI];intro d hd;cases hd
  ·rw[xA h];intro d hd
   rcases List.mem_cons.1 hd with rfl|hd
   ·omega
   ·exact ih _ (by omega) d hd
theorem QU(k:Nat): ∀n,n<2^k→(bin n).length≤k:=by
 induction k with
 |zero=>
  intro n h;have:n=0:=by simpa using h
  subst this;rw[qI];simp
 |succ k ih=>
  intro n h
  by_cases hn:n=0
  ·subst hn;rw[qI];simp
  ·rw[xA hn,List.length_cons]
   have:=ih (n/2) (by rw[Nat.pow_succ]at h;omega)
   omega
theorem NA{n k:Nat}(h:n<4294967296^k):(bin n).length≤32*k:=QU _ _ (Nat.lt_of_lt_of_le h (by rw[Nat.pow_mul];exact Nat.le_refl _))
theorem AX(N:Nat)(hN:4000000≤N)(x2 x3 x4 x5:av): ∀(m n:Nat) (t:Nat) (bits:List Int),(bin t).length≤m→m<n→(gU t).length≤100000→bits.length+(bin t).length≤4000000→
  eL.l3 N n x2 x3 x4 x5 bits (gU t)=eL.l9 N N x2 x3 x4 x5 (bits++bin t) (false,([],())) (false,([],())) (((bits++bin t).length:Int)-1)
 |m,0,t,bits,_,hn,_,_=>by omega
 |m,n+1,t,bits,hm,hn,hd,hb=>by
  unfold eL.l3 eL.ig
  by_cases ht:t=0
  ·subst ht
   rw[fV,qI]
   simp (disch:=omega) only[aH,aF,df,dg,ct,cO,aJ,bh,bG,cr,aq,de,cond_true,cond_false,Bool.not_true,Bool.not_false,Option.bind_some,Int.toNat_natCast,Int.toNat_zero,aa,List.length_append,List.length_singleton,List.length_set,List.length_replicate,List.length_cons,List.length_nil,List.append_nil]
  ·have Hl:0<(gU t).length:=by
    apply List.length_pos_iff.2
    intro h;rw[tT]at h;omega
   rw[xA ht]at hm hb ⊢
   rw[List.length_cons]at hm hb
   have hdl:(gU (t/2)).length≤100000:=by
    have:=Cb _ t hd
    exact rm _ _ (Nat.lt_of_le_of_lt (Nat.div_le_self _ _) this)
   simp (disch:=omega) only[aH,aF,df,dg,ct,cO,aJ,bh,bG,cr,aq,de,cond_true,cond_false,Bool.not_true,Bool.not_false,Option.bind_some,Int.toNat_natCast,Int.toNat_zero,aa,List.length_append,List.length_singleton,List.length_set,List.length_replicate,List.length_cons,List.length_nil,QR N hN t hd]
   rw[AX N hN x2 x3 x4 x5 (m-1) n (t/2) (bits++[((t%2:Nat):Int)]) (by omega) (by omega) hdl (by simp;omega)]
   simp
theorem KR(l:List Int){i:Nat}(h:i<l.length):tX (l.drop i)=l.getD i 0+2*tX (l.drop (i+1)):=by
 rw[List.drop_eq_getElem_cons h,tX,List.getD_eq_getElem?_getD,List.getElem?_eq_getElem h];rfl
theorem wj: ∀{l:List Int},(∀d∈l,d=0∨d=1)→0≤tX l
 |[],_=>Int.le_refl _
 |d::r,h=>by
  have h1:=wj (l:=r) fun x hx=>h x (List.mem_cons_of_mem _ hx)
  have:=h d (List.mem_cons_self ..)
  simp only[tX];omega
theorem pe: ∀(l:List Int) (i:Nat),(∀d∈l,d=0∨d=1)→tX (l.drop i)≤tX l
 |l,0,_=>Int.le_refl _
 |[],i+1,_=>Int.le_refl _
 |d::r,i+1,h=>by
  have h1:=pe r i fun x hx=>h x (List.mem_cons_of_mem _ hx)
  have h2:=wj (l:=r) fun x hx=>h x (List.mem_cons_of_mem _ hx)
  have:=h d (List.mem_cons_self ..)
  rw[List.drop_succ_cons,tX];omega
theorem oL(N:Nat)(hN:4000000≤N)(a d:Int)(hd:0<d)(PU:Fit a 80000)(KS:Fit d 80000)(x4 x5:av){bits:List Int}(hb: ∀x∈bits,x=0∨x=1)(hbv:tX bits=a.natAbs)(tf:bits.length≤4000000):
  ∀(k n:Nat) (q r:Int),k≤bits.length→k<n→0≤q→0≤r→r<d→tX (bits.drop k)=q*d+r→
  eL.l9 N n (bZ a) (bZ d) x4 x5 bits (bZ q) (bZ r) ((k:Int)-1)=some (bZ (a/d),bZ (a%d))
 |k,0,q,r,_,hn,_,_,_,_=>by omega
 |0,n+1,q,r,_,_,hq,hr,gG,hv=>by
  unfold eL.l9 eL.sd
  rw[List.drop_zero,hbv]at hv
  have hqa:q≤a.natAbs:=by
   have:q*1≤q*d:=Int.mul_le_mul_of_nonneg_left (by omega) hq
   omega
  have fq:Fit q 900000:=(PU.of_le (u:=q) (by omega)).mono (by omega)
  have fr:Fit r 900000:=(KS.of_le (u:=r) (by omega)).mono (by omega)
  have f1:Fit 1 900000:=(Fit.i64 (v:=1) (by omega) (by omega)).mono (by omega)
  have fq':Fit (-q) 900000:=fq.neg
  have fd:Fit d 900000:=KS.mono (by omega)
  rw[dg (by omega),cond_false]
  by_cases ha:a<0
  ·have Wi:(a.natAbs:Int)= -a:=by omega
   have e0:(bZ a).1=true:=decide_eq_true ha
   simp only[e0,Bool.not_true,cond_false,pb,Option.bind_some]
   by_cases hr0:r=0
   ·subst hr0
    rw[ct (by unfold rn;simp),cond_true]
    simp only[oJ N hN fq,Option.bind_some]
    have e1:a=d*(-q):=by rw[Int.mul_neg,Int.mul_comm];omega
    have e2:a/d= -q:=by rw[e1,Int.mul_ediv_cancel_left _ (by omega)]
    have e3:a%d=0:=by rw[e1,Int.mul_emod_right]
    rw[e2,e3]
   ·rw[cO (by unfold rn;rw[if_neg (by omega),if_pos (by omega)];omega),cond_false]
    simp (disch:=omega) only[oJ N hN fq,eS N (by omega) (show-9223372036854775808≤(1:Int)by omega) (by omega),Option.bind_some,rp N hN fq' f1,rp N hN fd fr]
    have e1:a=(d-r)+d*(-q-1):=by rw[Int.mul_sub,Int.mul_neg,Int.mul_one,Int.mul_comm];omega
    have e2:a/d= -q-1:=by
     rw[e1,Int.add_mul_ediv_left _ _ (by omega),Int.ediv_eq_zero_of_lt (by omega) (by omega)];omega
    have e3:a%d=d-r:=by rw[e1,Int.add_mul_emod_self_left,Int.emod_eq_of_lt (by omega) (by omega)]
    rw[e2,e3]
  ·have Wi:(a.natAbs:Int)=a:=by omega
   have e0:(bZ a).1=false:=decide_eq_false ha
   simp only[e0,Bool.not_false,cond_true]
   have e1:a=r+d*q:=by rw[Int.mul_comm];omega
   have e2:a/d=q:=by rw[e1,Int.add_mul_ediv_left _ _ (by omega),Int.ediv_eq_zero_of_lt hr gG];omega
   have e3:a%d=r:=by rw[e1,Int.add_mul_emod_self_left,Int.emod_eq_of_lt hr gG]
   rw[e2,e3]
 |k+1,n+1,q,r,hk,hn,hq,hr,gG,hv=>by
  unfold eL.l9 eL.sd
  have e:((k+1:Nat):Int)-1=(k:Int):=by omega
  have hle:=pe bits k hb
  have aiS:=pe bits (k+1) hb
  rw[hbv]at hle aiS
  have hqa:q≤a.natAbs:=by
   have:q*1≤q*d:=Int.mul_le_mul_of_nonneg_left (by omega) hq
   omega
  have fq:Fit q 80000:=PU.of_le (by omega)
  have fr:Fit r 80000:=KS.of_le (by omega)
  have fqq:=fq.add fq
  have frr:=fr.add fr
  have f1:Fit 1 80000:=(Fit.i64 (v:=1) (by omega) (by omega)).mono (by omega)
  have hvk:=KR bits (i:=k) (by omega)
  have wX:bits.getD k 0=0∨bits.getD k 0=1:=by
   rw[List.getD_eq_getElem?_getD,List.getElem?_eq_getElem (show k<bits.length by omega)]
   exact hb _ (List.getElem_mem _)
  rw[e,df (by omega),cond_true]
  have e2q:(q+q)*d=2*(q*d):=by rw[←Int.two_mul,Int.mul_assoc]
  have adz:(q+q+1)*d=2*(q*d)+d:=by rw[Int.add_mul,e2q,Int.one_mul]
  simp (disch:=omega) only[aH,aF,df,dg,ct,cO,aJ,bh,bG,cr,aq,de,cond_true,cond_false,Bool.not_true,Bool.not_false,Option.bind_some,Int.toNat_natCast,Int.toNat_zero,aa,List.length_append,List.length_singleton,List.length_set,List.length_replicate,List.length_cons,List.length_nil,fH N hN (fq.mono (by omega)) (fq.mono (by omega)),fH N hN (fr.mono (by omega)) (fr.mono (by omega)),eS N (by omega) (show-9223372036854775808≤(1:Int)by omega) (by omega)]
  rcases wX with wX|wX
  ·rw[wX,cO (by omega),cond_false]
   simp only[Hv N hN (frr.mono (by omega)) (KS.mono (by omega)),Option.bind_some]
   by_cases Qq:d≤r+r
   ·rw[df (by unfold rn;split<;>(try split)<;>omega),cond_true]
    simp only[rp N hN (frr.mono (by omega)) (KS.mono (by omega)),fH N hN (fqq.mono (by omega)) (f1.mono (by omega)),Option.bind_some]
    refine oL N hN a d hd PU KS x4 x5 hb hbv tf k n _ _ (by omega) (by omega) (by omega) (by omega) (by omega) ?_
    rw[hvk,wX,hv,adz];omega
   ·rw[dg (by unfold rn;rw[if_pos (by omega)];omega),cond_false]
    refine oL N hN a d hd PU KS x4 x5 hb hbv tf k n _ _ (by omega) (by omega) (by omega) (by omega) (by omega) ?_
    rw[hvk,wX,hv,e2q];omega
  ·rw[wX,ct rfl,cond_true]
   have adA:=frr.add (f1.mono (show 80000≤80001 by omega))
   simp only[fH N hN (frr.mono (by omega)) (f1.mono (by omega)),Hv N hN (adA.mono (by omega)) (KS.mono (by omega)),Option.bind_some]
   by_cases Qq:d≤r+r+1
   ·rw[df (by unfold rn;split<;>(try split)<;>omega),cond_true]
    simp only[rp N hN (adA.mono (by omega)) (KS.mono (by omega)),fH N hN (fqq.mono (by omega)) (f1.mono (by omega)),Option.bind_some]
    refine oL N hN a d hd PU KS x4 x5 hb hbv tf k n _ _ (by omega) (by omega) (by omega) (by omega) (by omega) ?_
    rw[hvk,wX,hv,adz];omega
   ·rw[dg (by unfold rn;rw[if_pos (by omega)];omega),cond_false]
    refine oL N hN a d hd PU KS x4 x5 hb hbv tf k n _ _ (by omega) (by omega) (by omega) (by omega) (by omega) ?_
    rw[hvk,wX,hv,e2q];omega
theorem Js(N:Nat)(hN:5000000≤N){a d:Int}(hd:0<d)(PU:Fit a 80000)(KS:Fit d 80000):eL N (bZ a) (bZ d)=some (bZ (a/d),bZ (a%d)):=by
 unfold eL eL.b
 have tf:(bin a.natAbs).length≤32*80000:=NA PU
 have h1:=AX N (by omega) (bZ a) (bZ d) (false,([],())) (false,([],())) (bin a.natAbs).length N a.natAbs [] (Nat.le_refl _) (by omega) (Nat.le_trans PU.len (by omega)) (by simp;omega)
 rw[List.nil_append]at h1
 refine h1.trans ?_
 rw[←gr]
 exact oL N (by omega) a d hd PU KS _ _ (QT _) (QS _) (by omega) (bin a.natAbs).length N 0 0 (Nat.le_refl _) (by omega) (by omega) (by omega) hd (by rw[List.drop_length];simp[tX])
end VM
end
section
namespace VM
open Go VM.F
def dh(v:Int):c7:=(v/18446744073709551616,(v%18446744073709551616,()))
theorem wmk{a b v:Int}(h1:a=v/18446744073709551616)(h2:b=v%18446744073709551616):((a,(b,())):c7)=dh v:=by
 unfold dh;rw[h1,h2]
theorem adB{a b v:Int}{α:Type}{c:α}(h1:a=v/18446744073709551616)(h2:b=v%18446744073709551616):(some (((a,(b,())):c7),c):Option (c7×α))=some (dh v,c):=by
 rw[wmk h1 h2]
theorem QV(N:Nat){v:Int}(v0: -170141183460469231731687303715884105728≤v)(v1:v<170141183460469231731687303715884105728):Hy N (dh v)=some (w3 v):=by
 unfold Hy dh
 rw[aF (by omega),cond_false]
 dsimp only
 have hw0: -9223372036854775808≤W .i64 (v%18446744073709551616)∧W .i64 (v%18446744073709551616)<9223372036854775808:=by rw[jH];split<;>omega
 rw[pa hw0.1 hw0.2]
 have hwv:W .i64 (v%18446744073709551616)=if 9223372036854775808≤v%18446744073709551616 then v%18446744073709551616-18446744073709551616 else v%18446744073709551616:=by rw[jH];split<;>split<;>omega
 rw[hwv]
 unfold w3
 by_cases h: -9223372036854775808≤v∧v<9223372036854775808
 ·rw[if_pos h]
  by_cases hn:v<0
  ·rw[if_pos (show 9223372036854775808≤v%18446744073709551616 by omega),if_pos (by omega),ct (by omega),Bool.not_true,cond_false]
   congr 2;omega
  ·rw[if_neg (show ¬9223372036854775808≤v%18446744073709551616 by omega),if_neg (by omega),ct (by omega),Bool.not_true,cond_false]
   congr 2;omega
 ·rw[if_neg h]
  by_cases hm:9223372036854775808≤v%18446744073709551616
  ·rw[if_pos hm,if_pos (by omega),cO (by omega),Bool.not_false,cond_true]
  ·rw[if_neg hm,if_neg (by omega),cO (by omega),Bool.not_false,cond_true]
end VM
end
section
namespace VM
open Go
theorem cond_not{α:Type}(b:Bool)(x y:α):cond (!b) x y=cond b y x:=by cases b<;>rfl
theorem bO{α:Type}(a b:Int)(x y:α):cond (aM a b) x y=if a<b then x else y:=by
 by_cases h:a<b
 ·rw[aH h,if_pos h];rfl
 ·rw[aF (by omega),if_neg h];rfl
theorem bH{α:Type}(a b:Int)(x y:α):cond (bV a b) x y=if a≤b then x else y:=by
 by_cases h:a≤b
 ·rw[df h,if_pos h];rfl
 ·rw[dg (by omega),if_neg h];rfl
theorem aB{α:Type}(a b:Int)(x y:α):cond (az a b) x y=if a=b then x else y:=by
 by_cases h:a=b
 ·rw[ct h,if_pos h];rfl
 ·rw[cO h,if_neg h];rfl
theorem dw{α:Type}(p:Prop) [Decidable p](x y:α):cond (decide p) x y=if p then x else y:=by
 by_cases h:p
 ·rw[decide_eq_true h,if_pos h];rfl
 ·rw[decide_eq_false h,if_neg h];rfl
theorem drop_cons{α:Type}{l:List α}{i:Nat}(h:i<l.length)(d:α):l.drop i=l.getD i d::l.drop (i+1):=by
 rw[List.drop_eq_getElem_cons h,List.getD_eq_getElem?_getD,List.getElem?_eq_getElem h];rfl
theorem lK{α σ β:Type}(l:List α)(d:α)(F:Nat→Int→σ→Option β)(g:List α→σ→Option β)(I:Nat→σ→Prop)
  (hs: ∀n i s,i<l.length→I i s→(∀s',I (i+1) s'→F n ((i+1:Nat):Int) s'=g (l.drop (i+1)) s')→F (n+1) (i:Int) s=g (l.getD i d::l.drop (i+1)) s)
  (he: ∀n s,I l.length s→F (n+1) (l.length:Int) s=g [] s): ∀m n i s,l.length-i≤m→m<n→i≤l.length→I i s→F n (i:Int) s=g (l.drop i) s
 |m,0,i,s,_,hn,_,_=>by omega
 |m,n+1,i,s,hm,hn,hi,hI=>by
  by_cases h:i<l.length
  ·rw[drop_cons h d]
   exact hs n i s h hI fun s' rZ=>lK l d F g I hs he (m-1) n (i+1) s' (by omega) (by omega) (by omega) rZ
  ·have:i=l.length:=by omega
   subst this
   rw[List.drop_length];exact he n s hI
theorem se{α β:Type}(l:List α)(d:α)(F:Nat→Int→Option β)(g:List α→Option β)
  (hs: ∀n i,i<l.length→F n ((i+1:Nat):Int)=g (l.drop (i+1))→F (n+1) (i:Int)=g (l.getD i d::l.drop (i+1)))
  (he: ∀n,F (n+1) (l.length:Int)=g []) (n:Nat) (hn:l.length<n):F n 0=g l:=by
 have:=lK (σ:=Unit) l d (fun n i _=>F n i) (fun l _=>g l) (fun _ _=>True) (fun n i _ h _ hr=>hs n i h (hr () trivial)) (fun n _ _=>he n) l.length n 0 () (by omega) hn (by omega) trivial
 simpa using this
theorem scan{F:Nat→Int→Option Bool}{len:Nat}(P:Nat→Prop) [DecidablePred P]
  (hs: ∀n i r,i<len→(∀j,j<i→P j)→F n ((i+1:Nat):Int)=r→F (n+1) (i:Int)=if P i then r else some false) {e:Bool} (he: ∀n,F (n+1) (len:Int)=some e):
  ∀m n i,len-i≤m→m<n→i≤len→(∀j,j<i→P j)→F n (i:Int)=some (decide (∀j,j<len→i≤j→P j)&&e)
 |m,0,i,_,hn,_,_=>by omega
 |m,n+1,i,hm,hn,hi,hp=>by
  by_cases h:i<len
  ·rw[hs n i _ h hp rfl]
   by_cases hP:P i
   ·rw[if_pos hP,scan P hs he (m-1) n (i+1) (by omega) (by omega) (by omega) (fun j hj=>by
     by_cases sG:j=i
     ·subst sG;exact hP
     ·exact hp j (by omega))]
    congr 2
    rw[decide_eq_decide]
    refine⟨fun hj j h2 h1=> ?_,fun hj j h2 h1=>hj j h2 (by omega)⟩
    by_cases sG:j=i
    ·subst sG;exact hP
    ·exact hj j h2 (by omega)
   ·rw[if_neg hP,decide_eq_false (fun hj=>hP (hj i h (Nat.le_refl i)))];rfl
  ·have:i=len:=by omega
   subst this
   rw[he n,decide_eq_true (fun j h2 h1=>absurd h2 (by omega))];rfl
theorem ep{F:Nat→Int→Option Bool}{len:Nat}(P:Nat→Prop) [DecidablePred P]{e:Bool}
  (hs: ∀n i r,i<len→(∀j,j<i→P j)→F n ((i+1:Nat):Int)=r→F (n+1) (i:Int)=if P i then r else some false) (he: ∀n,F (n+1) (len:Int)=some e) (n:Nat) (hn:len<n):
  F n 0=some (decide (∀j,j<len→P j)&&e):=by
 have:=scan P hs he len n 0 (by omega) hn (by omega) (fun j hj=>absurd hj (by omega))
 rw[show((0:Nat):Int)=0 from rfl]at this
 rw[this]
 congr 2
 rw[decide_eq_decide]
 exact⟨fun h j hj=>h j hj (by omega),fun h j hj _=>h j hj⟩
end VM
end
section
namespace VM
open Go VM.F
def dZ(x:Int):Prop:= -170141183460469231731687303715884105728≤x∧x<170141183460469231731687303715884105728
instance(x:Int):Decidable (dZ x):=by unfold dZ;infer_instance
theorem qJ(N:Nat){x:Int}(h0: -9223372036854775808≤x)(h1:x<9223372036854775808):NB N x=some (dh x):=by
 unfold NB
 rw[aF (by omega),cond_false,pa h0 h1,AU]
 congr 1
 exact wmk (by split<;>omega) rfl
theorem QW{ws:List Int}(i:Nat):(ws.map dh).getD i bP=dh (ws.getD i 0):=by
 by_cases h:i<ws.length
 ·rw[List.getD_eq_getElem?_getD,List.getElem?_map,List.getElem?_eq_getElem h,List.getD_eq_getElem?_getD,List.getElem?_eq_getElem h];rfl
 ·rw[List.getD_eq_getElem?_getD,List.getElem?_eq_none (by rw[List.length_map];omega),List.getD_eq_getElem?_getD,List.getElem?_eq_none (by omega)];rfl
theorem Hz{ws:List Int}(h: ∀x∈ws,dZ x): -(170141183460469231731687303715884105728*(ws.length:Int))≤ws.sum∧ws.sum≤170141183460469231731687303715884105728*(ws.length:Int):=by
 induction ws with
 |nil=>simp
 |cons x ws ih=>
  have h0:=h x (List.mem_cons_self ..)
  have ih:=ih (fun y hy=>h y (List.mem_cons_of_mem _ hy))
  unfold dZ at h0
  rw[List.sum_cons,List.length_cons];omega
theorem NC{t w:Int}{lo hi top:Int}(hw:dZ w)(wW:lo=t%18446744073709551616)(C8:hi=t/18446744073709551616%18446744073709551616)(aiV:top=t/340282366920938463463374607431768211456):
  (lo+w%18446744073709551616+0)%18446744073709551616=(t+w)%18446744073709551616∧
  (hi+(w/18446744073709551616)%18446744073709551616+(lo+w%18446744073709551616+0)/18446744073709551616)%18446744073709551616=(t+w)/18446744073709551616%18446744073709551616∧
  top+(if w/18446744073709551616<0 then-1 else 0)+(hi+(w/18446744073709551616)%18446744073709551616+(lo+w%18446744073709551616+0)/18446744073709551616)/18446744073709551616=(t+w)/340282366920938463463374607431768211456:=by
 unfold dZ at hw
 subst wW C8 aiV
 refine⟨by omega,by omega,?_⟩
 split<;>omega
def HA(t:Int):c7×Bool:=if dZ t then(dh t,true)else(bP,false)
theorem W64(x:Int):W .u64 x=x%18446744073709551616:=AU x
theorem AY(N:Nat){ws:List Int}(h: ∀x∈ws,dZ x)(hl:ws.length≤1000000): ∀(m n i:Nat) (t:Int),ws.length-i≤m→m<n→i≤ws.length→t=(ws.take i).sum→
  jb.l3 N n bP (t/340282366920938463463374607431768211456) (t/18446744073709551616%18446744073709551616) (t%18446744073709551616) (ws.map dh) (ws.length:Int) (i:Int)=some (HA ws.sum)
 |m,0,i,t,_,hn,_,_=>by omega
 |m,n+1,i,t,hm,hn,hi,ht=>by
  unfold jb.l3 jb.ig
  have f1:=Hz (ws:=ws.take i) (fun x hx=>h x (List.mem_of_mem_take hx))
  rw[List.length_take,Nat.min_eq_left (by omega),←ht]at f1
  by_cases h1:i<ws.length
  ·have hw:dZ (ws.getD i 0):=by
    rw[List.getD_eq_getElem?_getD,List.getElem?_eq_getElem h1];exact h _ (List.getElem_mem h1)
   have hs:=gV ws h1
   rw[←ht]at hs
   have st:=NC (t:=t) (w:=ws.getD i 0) hw rfl rfl rfl
   have qb:=AY N h hl (m-1) n (i+1) (t+ws.getD i 0) (by omega) (by omega) (by omega) hs.symm
   rw[aH (by omega),cond_true,aJ (by omega) (by rw[List.length_map];omega),cond_true,Int.toNat_natCast,QW]
   unfold dh
   dsimp only
   have hw':=hw
   unfold dZ at hw'
   generalize ws.getD i 0=w at*
   have hq:0≤(t%18446744073709551616+w%18446744073709551616+0)/18446744073709551616∧(t%18446744073709551616+w%18446744073709551616+0)/18446744073709551616≤1:=by omega
   rw[Ed N (by omega) (by omega) (by omega) (by omega),Option.bind_some,W64,Ed N (by omega) (by omega) hq.1 hq.2,Option.bind_some,aF (x:=63) (by omega),cond_false,st.1,st.2.1]
   rw[pa (by omega) (by omega)]
   have hc:0≤(t/18446744073709551616%18446744073709551616+w/18446744073709551616%18446744073709551616+(t%18446744073709551616+w%18446744073709551616+0)/18446744073709551616)/18446744073709551616∧(t/18446744073709551616%18446744073709551616+w/18446744073709551616%18446744073709551616+(t%18446744073709551616+w%18446744073709551616+0)/18446744073709551616)/18446744073709551616≤1:=by omega
   have hif: -1≤(if w/18446744073709551616<0 then(-1:Int)else 0)∧(if w/18446744073709551616<0 then(-1:Int)else 0)≤0:=by split<;>omega
   rw[aq (x:=t/340282366920938463463374607431768211456+_) (by omega) (by omega),aq (x:=(_:Int)/18446744073709551616) (by omega) (by omega),st.2.2,aq (by omega) (by omega),aq (x:=(i:Int)+1) (by omega) (by omega)]
   exact qb
  ·have e:(ws.take i).sum=ws.sum:=by rw[List.take_of_length_le (by omega)]
   rw[e]at ht
   rw[aF (by omega),cond_false,aF (x:=63) (by omega),cond_false,←ht]
   have hh: -9223372036854775808≤W .i64 (t/18446744073709551616%18446744073709551616)∧W .i64 (t/18446744073709551616%18446744073709551616)<9223372036854775808:=by rw[jH];split<;>omega
   have hwv:W .i64 (t/18446744073709551616%18446744073709551616)=if 9223372036854775808≤t/18446744073709551616%18446744073709551616 then t/18446744073709551616%18446744073709551616-18446744073709551616 else t/18446744073709551616%18446744073709551616:=by rw[jH];split<;>split<;>omega
   rw[pa hh.1 hh.2,hwv]
   unfold HA
   by_cases hI:dZ t
   ·rw[if_pos hI]
    unfold dZ at hI
    rw[ct (by split<;>split<;>omega),Bool.not_true,cond_false]
    exact adB (by split<;>omega) rfl
   ·rw[if_neg hI]
    unfold dZ at hI
    rw[cO (by split<;>split<;>omega),Bool.not_false,cond_true]
theorem Cd(N:Nat){ws:List Int}(h: ∀x∈ws,dZ x)(hl:ws.length≤1000000)(hN:1000000<N):jb N (ws.map dh)=some (HA ws.sum):=by
 unfold jb jb.b
 rw[List.length_map]
 exact AY N h hl ws.length N 0 0 (by omega) (by omega) (by omega) (by simp)
end VM
end
