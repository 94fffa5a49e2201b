/- A part of the proof of TearDrawn of layer 29: what the functions compute, in plain words. -/
import Derived.Test.YtocmlaipoebfeaaGreatPlain3
import Derived.Test.YtocmlaipoebfeaaGreatPlain1
set_option linter.all false
section
namespace VM
open Go VM.F
def zE(l:List Int):Prop:= ∀x∈l,-9223372036854775808≤x∧x<9223372036854775808
def Pos(l:List Int):Prop:= ∀x∈l,0≤x
def may(w:List Int):Bool:=decide (w.length≤64)&&w.all (fun x=>decide (0≤x))
theorem eH{w:List Int}:may w=true↔w.length≤64∧Pos w:=by
 unfold may Pos;rw[Bool.and_eq_true,decide_eq_true_iff,List.all_eq_true]
 simp only[decide_eq_true_iff]
theorem zF(N:Nat){l:List Int}(hl:l.length≤1000000): ∀(m n i:Nat),l.length-i≤m→m<n→i≤l.length→ ∃r,gW.l2 N n l () (l.length:Int) (i:Int)=some r∧(0≤r↔ ∃x∈l.drop i,x<0)
 |m,0,i,_,hn,_=>by omega
 |m,n+1,i,hm,hn,hi=>by
  unfold gW.l2 gW.eu ZX
  by_cases h:i<l.length
  ·have hd:l.drop i=l.getD i 0::l.drop (i+1):=by
    rw[List.drop_eq_getElem_cons h,List.getD_eq_getElem?_getD,List.getElem?_eq_getElem h];rfl
   rw[aD (by omega),cond_true,aG (by omega) (by omega),cond_true,Option.bind_some,Int.toNat_natCast,hd]
   by_cases hx:l.getD i 0<0
   ·rw[aD hx,cond_true]
    exact⟨_,rfl,fun _=>⟨_,List.mem_cons_self ..,hx⟩,fun _=>by omega⟩
   ·rw[ay (by omega),cond_false,al (by omega) (by omega)]
    obtain⟨r,e,h1⟩:=zF N hl (m-1) n (i+1) (by omega) (by omega) (by omega)
    refine⟨r,e,h1.trans ⟨fun⟨x,Fa,Sx⟩=>⟨x,List.mem_cons_of_mem _ Fa,Sx⟩,fun⟨x,Fa,Sx⟩=> ?_⟩⟩
    rcases List.mem_cons.1 Fa with rfl|Fa
    ·exact absurd Sx hx
    ·exact⟨x,Fa,Sx⟩
  ·rw[ay (by omega),cond_false,List.drop_eq_nil_of_le (by omega)]
   exact⟨_,rfl,fun h=>absurd h (by decide),fun⟨x,hx,_⟩=>nomatch hx⟩
theorem I8(N:Nat){w:List Int}(hN:100≤N):Mk N w=some (may w):=by
 unfold Mk
 by_cases h:w.length≤64
 ·rw[cB (by omega),cond_true]
  unfold ZY gW gW.b
  obtain⟨r,e,hr⟩:=zF N (l:=w) (by omega) w.length N 0 (by omega) (by omega) (by omega)
  rw[List.drop_zero]at hr
  rw[show((0:Nat):Int)=0 from rfl]at e
  rw[e,Option.bind_some,Option.bind_some]
  by_cases h0:0≤r
  ·rw[cB h0]
   obtain⟨x,hx,J7⟩:=hr.1 h0
   have:may w=false:=by
    rw[Bool.eq_false_iff];intro hm
    have:=(eH.1 hm).2 x hx;omega
   rw[this];rfl
  ·rw[cv (by omega)]
   have:may w=true:=eH.2 ⟨h,fun x hx=>by
    by_cases J7:x<0
    ·exact absurd (hr.2 ⟨x,hx,J7⟩) h0
    ·omega⟩
   rw[this];rfl
 ·rw[cv (by omega),cond_false]
  have:may w=false:=by
   rw[Bool.eq_false_iff];intro hm;exact h (eH.1 hm).1
  rw[this]
theorem zG(N:Nat){l:List Int}(hl:l.length≤1000000): ∀(m n i:Nat),l.length-i≤m→m<n→i≤l.length→ ∃r,lC.l4 N n l (i:Int)=some r∧(r=true↔ ∃x∈l.drop i,x<0)
 |m,0,i,_,hn,_=>by omega
 |m,n+1,i,hm,hn,hi=>by
  unfold lC.l4 lC.cn
  by_cases h:i<l.length
  ·have hd:l.drop i=l.getD i 0::l.drop (i+1):=by
    rw[List.drop_eq_getElem_cons h,List.getD_eq_getElem?_getD,List.getElem?_eq_getElem h];rfl
   rw[aD (by omega),cond_true,aG (by omega) (by omega),cond_true,Int.toNat_natCast,hd]
   by_cases hx:l.getD i 0<0
   ·rw[aD hx,cond_true]
    exact⟨_,rfl,fun _=>⟨_,List.mem_cons_self ..,hx⟩,fun _=>rfl⟩
   ·rw[ay (by omega),cond_false,al (by omega) (by omega)]
    obtain⟨r,e,h1⟩:=zG N hl (m-1) n (i+1) (by omega) (by omega) (by omega)
    refine⟨r,e,h1.trans ⟨fun⟨x,Fa,Sx⟩=>⟨x,List.mem_cons_of_mem _ Fa,Sx⟩,fun⟨x,Fa,Sx⟩=> ?_⟩⟩
    rcases List.mem_cons.1 Fa with rfl|Fa
    ·exact absurd Sx hx
    ·exact⟨x,Fa,Sx⟩
  ·rw[ay (by omega),cond_false,List.drop_eq_nil_of_le (by omega)]
   exact⟨_,rfl,(fun h=>nomatch h),fun⟨x,hx,_⟩=>nomatch hx⟩
theorem zH(N:Nat){w:List Int}(hN:100≤N)(t:Int):lC N t w=some (decide (t<0)|| !may w):=by
 unfold lC lC.b
 by_cases ht:t<0
 ·rw[aD ht,cond_true,decide_eq_true ht];rfl
 rw[ay (by omega),cond_false,decide_eq_false ht,Bool.false_or]
 by_cases h:w.length≤64
 ·rw[ay (by omega),cond_false]
  obtain⟨r,e,hr⟩:=zG N (l:=w) (by omega) w.length N 0 (by omega) (by omega) (by omega)
  rw[List.drop_zero]at hr
  rw[show((0:Nat):Int)=0 from rfl]at e
  rw[e]
  congr 1
  rw[Bool.eq_iff_iff,hr,Bool.not_eq_true',Bool.eq_false_iff,Ne,eH]
  constructor
  ·rintro⟨x,hx,J7⟩ h;have:=h.2 x hx;omega
  ·intro h1
   by_cases h2: ∃x∈w,x<0
   ·exact h2
   ·exact absurd ⟨h,fun x hx=>by
     by_cases J7:x<0
     ·exact absurd ⟨x,hx,J7⟩ h2
     ·omega⟩ h1
 ·rw[aD (by omega),cond_true]
  have:may w=false:=by
   rw[Bool.eq_false_iff];intro hm;exact h (eH.1 hm).1
  rw[this];rfl
def bump(q:List Int):List Int→List Int
 |[]=>q
 |k::t=>bump (q.set k.toNat (q.getD k.toNat 0+1)) t
def im(t S:Int)(w:List Int):List Int:=w.map fun x=>t*x/S
def eV(t S:Int)(w:List Int):List Int:=w.map fun x=>t*x%S
def aR(t:Int)(w:List Int):List Int:=
 bump (im t w.sum w) ((eN (eV t w.sum w)).take (t-(im t w.sum w).sum).toNat)
def jD(t:Int)(w:List Int):List Int×Int:=
 if t<0∨may w=false then([],1)else if 9223372036854775808≤w.sum then([],2)
 else if w.sum=0 then(if t=0 then(List.replicate w.length 0,0)else([],1))else(aR t w,0)
theorem FR: ∀(ks q:List Int),(bump q ks).length=q.length
 |[],q=>rfl
 |k::t,q=>by unfold bump;rw[FR t];simp
theorem yn: ∀(q:List Int) (k:Nat) (x:Int),k<q.length→(q.set k x).sum=q.sum-q.getD k 0+x
 |[],k,x,h=>absurd h (by simp)
 |a::q,0,x,h=>by simp;omega
 |a::q,k+1,x,h=>by
  have:=yn q k x (by simpa using h)
  simp[this];omega
theorem dH: ∀{q:List Int},Pos q→0≤q.sum
 |[],_=>by simp
 |a::q,h=>by
  have:=dH (q:=q) (fun x hx=>h x (List.mem_cons_of_mem _ hx))
  have:=h a (List.mem_cons_self ..)
  rw[List.sum_cons];omega
theorem oj: ∀{q:List Int},Pos q→ ∀i,q.getD i 0≤q.sum
 |[],_,i=>by simp
 |a::q,h,0=>by
  have:=dH (q:=q) (fun x hx=>h x (List.mem_cons_of_mem _ hx))
  rw[List.sum_cons];simp;omega
 |a::q,h,i+1=>by
  have:=oj (q:=q) (fun x hx=>h x (List.mem_cons_of_mem _ hx)) i
  have:=h a (List.mem_cons_self ..)
  rw[List.sum_cons];simp;simp at*;omega
theorem dN{q:List Int}(h:Pos q)(i:Nat):0≤q.getD i 0:=by
 by_cases hi:i<q.length
 ·exact h _ (uW hi)
 ·rw[pj q (by omega)];omega
theorem KI{q:List Int}(h:Pos q){x:Int}(hx:0≤x)(k:Nat):Pos (q.set k x):=fun y hy=>by
 rcases List.mem_or_eq_of_mem_set hy with hy|rfl
 ·exact h y hy
 ·exact hx
theorem zI{q:List Int}(h:Pos q)(n:Nat):Pos (q.take n):=fun x hx=>h x (List.mem_of_mem_take hx)
theorem FT: ∀(ks q:List Int),(∀k∈ks,0≤k∧k<q.length)→(bump q ks).sum=q.sum+ks.length
 |[],q,_=>by simp[bump]
 |k::t,q,h=>by
  have hk:=h k (List.mem_cons_self ..)
  unfold bump
  rw[FT t _ (fun x hx=>by rw[List.length_set];exact h x (List.mem_cons_of_mem _ hx)),yn q _ _ (by omega),List.length_cons];omega
theorem mX(t S:Int)(w:List Int):(im t S w).length=w.length:=by unfold im;rw[List.length_map]
theorem fe(t S:Int)(w:List Int):(eV t S w).length=w.length:=by unfold eV;rw[List.length_map]
theorem Dx{t S:Int}{w:List Int}(i:Nat):(im t S w).getD i 0=t*w.getD i 0/S:=by
 unfold im
 by_cases h:i<w.length
 ·rw[List.getD_eq_getElem?_getD,List.getElem?_map,List.getElem?_eq_getElem h,List.getD_eq_getElem?_getD,List.getElem?_eq_getElem h];rfl
 ·rw[pj _ (by rw[List.length_map];omega),pj w (by omega)];simp
theorem KJ{t S:Int}{w:List Int}(i:Nat):(eV t S w).getD i 0=t*w.getD i 0%S:=by
 unfold eV
 by_cases h:i<w.length
 ·rw[List.getD_eq_getElem?_getD,List.getElem?_map,List.getElem?_eq_getElem h,List.getD_eq_getElem?_getD,List.getElem?_eq_getElem h];rfl
 ·rw[pj _ (by rw[List.length_map];omega),pj w (by omega)];simp
theorem oS{t S:Int}{w:List Int}(ht:0≤t)(hS:0≤S)(hw:Pos w):Pos (im t S w):=fun x hx=>by
 obtain⟨y,hy,rfl⟩:=List.mem_map.1 hx
 exact Int.ediv_nonneg (Int.mul_nonneg ht (hw y hy)) hS
theorem FU{t S:Int}{w:List Int}(hS:0<S):Pos (eV t S w):=fun x hx=>by
 obtain⟨y,hy,rfl⟩:=List.mem_map.1 hx
 exact Int.emod_nonneg _ (by omega)
theorem yp(t S:Int): ∀w:List Int,S*(im t S w).sum+(eV t S w).sum=t*w.sum
 |[]=>by simp[im,eV]
 |x::w=>by
  have h:=yp t S w
  have e:=Int.mul_ediv_add_emod (t*x) S
  unfold im eV at*
  simp only[List.map_cons,List.sum_cons,Int.mul_add]
  omega
theorem Dy{t S:Int}{w:List Int}(ht:0≤t)(hS:0<S)(h:w.sum≤S):(im t S w).sum≤t:=by
 have e:=yp t S w
 have h1:=dH (FU (t:=t) (w:=w) hS)
 have h2:=Int.mul_le_mul_of_nonneg_left h ht
 have h3:S*(im t S w).sum≤S*t:=by rw[Int.mul_comm S t];omega
 exact Int.le_of_mul_le_mul_left h3 hS
theorem ra{w:List Int}(h:Pos w)(i:Nat):(w.take i).sum≤w.sum:=by
 have e:w.take i++w.drop i=w:=List.take_append_drop i w
 have h1:(w.take i).sum+(w.drop i).sum=w.sum:=by rw[←List.sum_append,e]
 have:=dH (q:=w.drop i) (fun x hx=>h x (List.mem_of_mem_drop hx))
 omega
theorem rV(t S:Int)(w:List Int)(i:Nat):(im t S w).take i=im t S (w.take i):=by unfold im;rw[List.map_take]
theorem B4(N:Nat){ks:List Int}(hl:ks.length≤1000000)(L:Nat)(hk: ∀k∈ks,0≤k∧k<L): ∀(m n i:Nat) (q:List Int),ks.length-i≤m→m<n→i≤ks.length→q.length=L→Pos q→q.sum+(ks.length-i:Nat)≤9223372036854775807→
  dO.ti N n q ks (ks.length:Int) (i:Int)=some (bump q (ks.drop i),0)
 |m,0,i,q,_,hn,_,_,_,_=>by omega
 |m,n+1,i,q,hm,hn,hi,hq,hp,hs=>by
  unfold dO.ti dO.uX
  by_cases h:i<ks.length
  ·have hd:ks.drop i=ks.getD i 0::ks.drop (i+1):=by
    rw[List.drop_eq_getElem_cons h,List.getD_eq_getElem?_getD,List.getElem?_eq_getElem h];rfl
   have yc:=hk _ (uW h)
   rw[aD (by omega),cond_true,aG (by omega) (by omega),cond_true,Int.toNat_natCast,aG (by omega) (by omega),cond_true,cond_true,hd]
   have h1:=oj hp (ks.getD i 0).toNat
   have h2:=dN hp (ks.getD i 0).toNat
   rw[al (x:=q.getD _ 0+1) (by omega) (by omega),al (by omega) (by omega)]
   refine(B4 N hl L hk (m-1) n (i+1) _ (by omega) (by omega) (by omega) (by rw[List.length_set];exact hq) (KI hp (by omega) _) ?_).trans rfl
   rw[yn q _ _ (by omega)];omega
  ·rw[ay (by omega),cond_false,List.drop_eq_nil_of_le (by omega)];rfl
theorem zJ(N:Nat){ks:List Int}(hl:ks.length≤1000000)(L:Nat)(hk: ∀k∈ks,0≤k∧k<L): ∀(m n i left:Nat) (q:List Int),ks.length-i≤m→m<n→i≤ks.length→q.length=L→Pos q→left≤9223372036854775807→q.sum+left≤9223372036854775807→
  dA.sv N n q (left:Int) ks (i:Int)=some (bump q ((ks.drop i).take left),0)
 |m,0,i,left,q,_,hn,_,_,_,_,_=>by omega
 |m,n+1,i,left,q,hm,hn,hi,hq,hp,hle,hs=>by
  unfold dA.sv dA.qY
  by_cases h:i<ks.length
  ·have hd:ks.drop i=ks.getD i 0::ks.drop (i+1):=by
    rw[List.drop_eq_getElem_cons h,List.getD_eq_getElem?_getD,List.getElem?_eq_getElem h];rfl
   have yc:=hk _ (uW h)
   rw[aD (by omega),cond_true]
   match left,hle,hs with
   |0,hle,hs=>rw[ay (by omega),cond_false,List.take_zero];rfl
   |left+1,hle,hs=>
    rw[aD (by omega),cond_true,aG (by omega) (by omega),cond_true,Int.toNat_natCast,aG (by omega) (by omega),cond_true,cond_true,hd]
    have h1:=oj hp (ks.getD i 0).toNat
    have h2:=dN hp (ks.getD i 0).toNat
    rw[al (x:=q.getD _ 0+1) (by omega) (by omega),al (x:=(i:Int)+1) (by omega) (by omega),al (by omega) (by omega),show((left+1:Nat):Int)-1=(left:Int)by omega]
    refine(zJ N hl L hk (m-1) n (i+1) left _ (by omega) (by omega) (by omega) (by rw[List.length_set];exact hq) (KI hp (by omega) _) (by omega) ?_).trans rfl
    rw[yn q _ _ (by omega)];omega
  ·rw[ay (by omega),cond_false,List.drop_eq_nil_of_le (by omega),List.take_nil];rfl
theorem uY(l:List Int): ∀k∈eN l,0≤k∧k<l.length:=fun k hk=>(n7 l).1 hk
theorem take_set(l:List Int){i:Nat}(x:Int)(h:i<l.length):(l.set i x).take (i+1)=l.take i++[x]:=by
 rw[dJ (l.set i x) (by rw[List.length_set];exact h),gm l x h,List.take_set_of_le (by omega)]
theorem tj{v:Int}(h0: -9223372036854775808≤v)(h1:v<9223372036854775808):ur v=(v,true):=by unfold ur;rw[if_pos ⟨h0,h1⟩]
theorem zK(N:Nat)(hN:1000000≤N){t:Int}{w:List Int}(ht:0≤t)(nE:t<9223372036854775808)(hw:w.length≤64)(hp:Pos w)(hS:0<w.sum)(hS1:w.sum<9223372036854775808):
  ∀(m n i:Nat) (q r:List Int),w.length-i≤m→m<n→i≤w.length→q.length=w.length→r.length=w.length→q.take i=im t w.sum (w.take i)→r.take i=eV t w.sum (w.take i)→
  dO.lz N n t w.sum q r (t-(im t w.sum (w.take i)).sum) w (w.length:Int) (i:Int)=some (aR t w,0)
 |m,0,i,q,r,_,hn,_,_,_,_,_=>by omega
 |m,n+1,i,q,r,hm,hn,hi,hq,hr,eq,er=>by
  unfold dO.lz dO.jO
  by_cases h:i<w.length
  ·have hwi:=dN hp i
   have ZZ:=oj hp i
   have hb:=mul_lt ht hwi (show t≤9223372036854775807 by omega) (show w.getD i 0≤9223372036854775807 by omega)
   have hqi:t*w.getD i 0/w.sum≤t:=Int.ediv_le_of_le_mul hS (Int.mul_le_mul_of_nonneg_left ZZ ht)
   have akH:0≤t*w.getD i 0/w.sum:=Int.ediv_nonneg hb.1 (by omega)
   have hs0:=Dy ht hS (ra hp i)
   have HR:=dH (oS ht (by omega:0≤w.sum) (zI hp i))
   rw[aD (by omega),cond_true,aG (by omega) (by omega),cond_true,Int.toNat_natCast,RZ N (by omega) (by omega) (by omega) (by omega),Option.bind_some,
    R4 N (by omega) (by omega) (by omega) hS hS1,Option.bind_some]
   dsimp only
   rw[Db N (by omega) (by omega),Option.bind_some,tj (by omega) (by omega)]
   dsimp only
   rw[aG (by omega) (by omega),cond_true,aG (by omega) (by omega),cond_true,List.length_set,aG (by omega) (by omega),cond_true,gm q _ (by omega),al (x:=(i:Int)+1) (by omega) (by omega),al (by omega) (by omega)]
   have s8:=zK N hN ht nE hw hp hS hS1 (m-1) n (i+1) (q.set i (t*w.getD i 0/w.sum)) (r.set i (t*w.getD i 0%w.sum)) (by omega) (by omega) (by omega) (by rw[List.length_set];exact hq) (by rw[List.length_set];exact hr)
    (by rw[take_set q _ (by omega),eq,dJ w h];unfold im;simp)
    (by rw[take_set r _ (by omega),er,dJ w h];unfold eV;simp)
   rw[←rV,dU _ (by rw[mX];exact h),Dx,rV]at s8
   rw[Int.sub_sub]
   exact s8
  ·have iF:i=w.length:=by omega
   subst iF
   rw[List.take_of_length_le (by omega),List.take_of_length_le (by omega)]at eq er
   subst eq er
   rw[List.take_of_length_le (by omega)]
   have hs0:=Dy ht hS (Int.le_refl _)
   have HR:=dH (oS ht (by omega:0≤w.sum) hp)
   have X4:(t-(im t w.sum w).sum).toNat≤(eN (eV t w.sum w)).length:=by
    rw[mW,fe]
    have e:=yp t w.sum w
    have:(eV t w.sum w).sum≤w.length*w.sum:=by
     have: ∀u:List Int,(eV t w.sum u).sum≤u.length*w.sum:=by
      intro u
      induction u with
      |nil=>simp[eV]
      |cons x u ih=>
       have:=Int.emod_lt_of_pos (t*x) hS
       unfold eV at*
       rw[List.map_cons,List.sum_cons,List.length_cons,Int.natCast_add,Int.add_mul];simp;omega
     exact this w
    have h4:w.sum*(t-(im t w.sum w).sum)≤w.sum*w.length:=by
     rw[Int.mul_sub,Int.mul_comm w.sum t,Int.mul_comm w.sum (w.length:Int)];omega
    have:=Int.le_of_mul_le_mul_left h4 hS
    omega
   rw[ay (by omega),cond_false,Pb N (by rw[fe];omega) (by rw[fe];omega),Option.bind_some]
   rw[b8 (by omega) (by omega) (by omega) (by omega),cond_true]
   dsimp only
   rw[Int.toNat_zero,List.drop_zero]
   have hlen:=mW (eV t w.sum w)
   rw[fe]at hlen
   have sm:=B4 N (ks:=(eN (eV t w.sum w)).take (t-(im t w.sum w).sum).toNat) (by rw[List.length_take];omega) w.length (fun k hk=>by have:=uY _ k (List.mem_of_mem_take hk);rwa [fe]at this) 1000 N 0 (im t w.sum w) (by rw[List.length_take];omega) (by omega) (by omega) (mX ..) (oS ht (by omega) hp) (by rw[List.length_take];omega)
   rw[List.drop_zero]at sm
   exact sm
theorem Pd(N:Nat)(hN:2000000≤N){t:Int}{w:List Int}(nE:t<9223372036854775808)(hw:zE w)(hl:w.length≤1000000):dO N t w=some (jD t w):=by
 unfold dO dO.b jD
 by_cases h1:t<0
 ·rw[aD h1,cond_true,if_pos (.inl h1)]
 rw[ay (by omega),cond_false,I8 N (by omega),Option.bind_some]
 cases h2:may w
 ·rw[Bool.not_false,cond_true,if_pos (.inr rfl)]
 rw[Bool.not_true,cond_false,if_neg (by simp[h1]),Kr N hw hl (by omega),Option.bind_some]
 obtain⟨Dz,hp⟩:=eH.1 h2
 have hS0:=dH hp
 by_cases h3:9223372036854775808≤w.sum
 ·rw[if_pos h3];unfold ur;rw[if_neg (by omega)];rfl
 rw[if_neg h3,tj (by omega) (by omega)]
 dsimp only
 rw[Bool.not_true,cond_false]
 have hm:dZ (w.length:Int) (w.length:Int)=true:=br (by omega) (by omega) (by omega)
 have hz: ∀i:Nat,(List.replicate w.length (0:Int)).take i=(List.replicate w.length (0:Int)).take i:=fun _=>rfl
 by_cases h4:w.sum=0
 ·rw[if_pos h4,ck h4,cond_true]
  by_cases h5:t=0
  ·rw[if_pos h5,ay (by omega),cond_false]
   unfold dO.j8 dO.H6
   rw[hm,cond_true,cond_true,ck h5,cond_true,Int.toNat_natCast]
  ·rw[if_neg h5,aD (by omega),cond_true]
 ·rw[if_neg h4,cf h4,cond_false]
  unfold dO.j8 dO.H6
  rw[hm,cond_true,cond_true]
  rw[Int.toNat_natCast]
  by_cases h5:t=0
  ·rw[ck h5,cond_true]
   subst h5
   have:im 0 w.sum w=List.replicate w.length 0:=by
    unfold im;simp only[Int.zero_mul,Int.zero_ediv];exact List.map_const'
   unfold aR
   rw[this];simp[bump]
  ·rw[cf h5,cond_false]
   have:=zK N (by omega) (by omega) nE Dz hp (by omega) (by omega) w.length N 0 (List.replicate w.length 0) (List.replicate w.length 0) (by omega) (by omega) (by omega) (List.length_replicate ..) (List.length_replicate ..) rfl rfl
   rw[List.take_zero]at this
   simp only[im,List.map_nil,List.sum_nil,Int.sub_zero]at this
   exact this
end VM
end
section
namespace VM
open Go VM.F
theorem kQ{a b:List Int}(hl:a.length=b.length)(h: ∀i,i<a.length→a.getD i 0=b.getD i 0):a=b:=by
 refine List.ext_getElem hl (fun i h1 h2=> ?_)
 have:=h i h1
 rwa [List.getD_eq_getElem?_getD,List.getElem?_eq_getElem h1,List.getD_eq_getElem?_getD,List.getElem?_eq_getElem h2]at this
theorem KK: ∀(ks q:List Int) (i:Nat),ks.Nodup→(∀k∈ks,0≤k∧k<q.length)→(bump q ks).getD i 0=q.getD i 0+(if(i:Int)∈ks then 1 else 0)
 |[],q,i,_,_=>by simp[bump]
 |k::t,q,i,hn,h=>by
  have hk:=h k (List.mem_cons_self ..)
  rw[List.nodup_cons]at hn
  unfold bump
  rw[KK t _ i hn.2 (fun x hx=>by rw[List.length_set];exact h x (List.mem_cons_of_mem _ hx))]
  by_cases hik:(i:Int)=k
  ·rw[if_neg (by rw[hik];exact hn.1),if_pos (by rw[hik];exact List.mem_cons_self ..),←hik,Int.toNat_natCast,gm q _ (by omega)];omega
  ·rw[getD_set_ne q _ (by omega)]
   by_cases ht:(i:Int)∈t
   ·rw[if_pos ht,if_pos (List.mem_cons_of_mem _ ht)]
   ·rw[if_neg ht,if_neg (fun hc=>by rcases List.mem_cons.1 hc with hc|hc;exact hik hc;exact ht hc)]
theorem FV(l:List Int):(eN l).Nodup:=(gN l l.length).imp (fun{a b} h he=>by unfold oR at h;rw[he]at h;omega)
theorem KL(t S:Int)(hS:0<S): ∀u:List Int,(eV t S u).sum≤u.length*S
 |[]=>by simp[eV]
 |x::u=>by
  have ih:=KL t S hS u
  have:=Int.emod_lt_of_pos (t*x) hS
  unfold eV at*
  rw[List.map_cons,List.sum_cons,List.length_cons,Int.natCast_add,Int.add_mul];simp;omega
def iY(t:Int)(w:List Int):Int:=t-(im t w.sum w).sum
theorem left_eq(t:Int)(w:List Int):w.sum*iY t w=(eV t w.sum w).sum:=by
 have:=yp t w.sum w
 unfold iY;rw[Int.mul_sub,Int.mul_comm w.sum t];omega
theorem zL{t:Int}{w:List Int}(ht:0≤t)(hS:0<w.sum):0≤iY t w:=by
 have:=Dy ht hS (Int.le_refl _);unfold iY;omega
theorem KM{t:Int}{w:List Int}(hS:0<w.sum):iY t w≤w.length:=by
 have h1:=left_eq t w
 have h2:=KL t w.sum hS w
 rw[←h1,Int.mul_comm (w.length:Int)]at h2
 exact Int.le_of_mul_le_mul_left h2 hS
theorem fv(t:Int)(w:List Int):(aR t w).length=w.length:=by unfold aR;rw[FR,mX]
theorem pI{t:Int}{w:List Int}(ht:0≤t)(hS:0<w.sum):(aR t w).sum=t:=by
 unfold aR
 have h1:=zL ht hS
 have h2:=KM (t:=t) hS
 unfold iY at*
 rw[FT _ _ (fun k hk=>by have:=uY _ k (List.mem_of_mem_take hk);rw[fe]at this;rwa [mX]),List.length_take,mW,fe]
 omega
theorem tk{f:Int→Int}{c:Int}: ∀{o:List Int},(∀x∈o,f x≤c)→(o.map f).sum≤o.length*c
 |[],_=>by simp
 |x::o,h=>by
  have ih:=tk (f:=f) (c:=c) (o:=o) (fun y hy=>h y (List.mem_cons_of_mem _ hy))
  have:=h x (List.mem_cons_self ..)
  rw[List.map_cons,List.sum_cons,List.length_cons,Int.natCast_add,Int.add_mul];simp;omega
theorem I9{l o:List Int}(h:o.Pairwise (oR l)){m:Nat}{x y:Int}(hx:x∈o.take m)(hy:y∈o.drop m):oR l x y:=by
 rw[←List.take_append_drop m o,List.pairwise_append]at h
 exact h.2.2 x hx y hy
theorem Ml{t:Int}{w:List Int}(ht:0≤t)(hS:0<w.sum){i:Int}(hi:i∈(eN (eV t w.sum w)).take (iY t w).toNat):0<q9 (eV t w.sum w) i:=by
 have Ir: ∀k:Int,0≤q9 (eV t w.sum w) k:=fun k=>dN (FU hS) _
 have dF: ∀k:Int,q9 (eV t w.sum w) k≤w.sum-1:=fun k=>by
  unfold q9;rw[KJ]
  have:=Int.emod_lt_of_pos (t*w.getD k.toNat 0) hS;omega
 have h0:=Ir i
 rcases Int.lt_or_le 0 (q9 (eV t w.sum w) i)with h|h
 ·exact h
 exfalso
 have Bb:=I7 (eV t w.sum w) (eV t w.sum w) rfl
 rw[←left_eq]at Bb
 have akI:=List.take_append_drop (iY t w).toNat (eN (eV t w.sum w))
 rw[←akI,List.map_append,List.sum_append]at Bb
 have hd:(((eN (eV t w.sum w)).drop (iY t w).toNat).map (q9 (eV t w.sum w))).sum≤((eN (eV t w.sum w)).drop (iY t w).toNat).length*0:=tk (fun y hy=>by
  have:=I9 (gN _ _) hi hy
  unfold oR at this;omega)
 have htk:(((eN (eV t w.sum w)).take (iY t w).toNat).map (q9 (eV t w.sum w))).sum≤((eN (eV t w.sum w)).take (iY t w).toNat).length*(w.sum-1):=tk (fun y _=>dF y)
 have h1:=zL ht hS
 have h2:=KM (t:=t) hS
 rw[List.length_take,mW,fe,Nat.min_eq_left (by omega),Int.mul_sub]at htk
 rw[Int.mul_zero]at hd
 have h3:(((iY t w).toNat:Nat):Int)=iY t w:=by omega
 have h4:0<(iY t w).toNat:=by
  rcases Nat.eq_zero_or_pos (iY t w).toNat with h|h
  ·rw[h,List.take_zero]at hi;nomatch hi
  ·exact h
 rw[h3,Int.mul_comm (iY t w)]at htk
 omega
def extra(t:Int)(w:List Int)(i:Nat):Int:=if(i:Int)∈(eN (eV t w.sum w)).take (iY t w).toNat then 1 else 0
theorem B5(t:Int)(w:List Int)(i:Nat):(aR t w).getD i 0=t*w.getD i 0/w.sum+extra t w i:=by
 unfold aR
 rw[KK _ _ i ((FV _).sublist (List.take_sublist ..)) (fun k hk=>by have:=uY _ k (List.mem_of_mem_take hk);rw[fe]at this;rwa [mX]),Dx]
 rfl
theorem B6(t:Int)(w:List Int)(i:Nat):extra t w i=0∨extra t w i=1:=by unfold extra;split<;>omega
theorem Mm{t:Int}{w:List Int}(ht:0≤t)(hS:0<w.sum){i:Nat}(h:extra t w i=1):0<t*w.getD i 0%w.sum:=by
 unfold extra at h
 by_cases hi:(i:Int)∈(eN (eV t w.sum w)).take (iY t w).toNat
 ·have:=Ml ht hS hi
  unfold q9 at this;rwa [KJ,Int.toNat_natCast]at this
 ·rw[if_neg hi]at h;omega
theorem pJ{t:Int}{w:List Int}(ht:0≤t)(hS:0<w.sum)(hw:Pos w):Pos (aR t w):=fun x hx=>by
 obtain⟨i,hi,rfl⟩:=List.mem_iff_getElem.1 hx
 have:=B5 t w i
 rw[List.getD_eq_getElem?_getD,List.getElem?_eq_getElem hi]at this
 have h1:=B6 t w i
 have h2:0≤t*w.getD i 0/w.sum:=Int.ediv_nonneg (Int.mul_nonneg ht (dN hw i)) (by omega)
 simp only[Option.getD_some]at this
 omega
theorem w4{t:Int}{w:List Int}(ht:0≤t)(hS:0<w.sum){i:Nat}(h:w.getD i 0=0):(aR t w).getD i 0=0:=by
 rw[B5,h]
 rcases B6 t w i with h1|h1
 ·rw[h1];simp
 ·have:=Mm ht hS h1
  rw[h]at this;simp at this
end VM
end
section
namespace VM
open Go VM.F
theorem w5(N:Nat)(hN:5000000≤N){t:Int}{w:List Int}(ht:0≤t)(nE:t<9223372036854775808)(hw:w.length≤64)(hp:Pos w)(hS:0<w.sum)(hS1:w.sum<9223372036854775808):
  ∀(m n i:Nat) (q r:List Int),w.length-i≤m→m<n→i≤w.length→q.length=w.length→r.length=w.length→q.take i=im t w.sum (w.take i)→r.take i=eV t w.sum (w.take i)→
  dA.B7 N n t w (cg w.sum) q r (t-(im t w.sum (w.take i)).sum) (i:Int)=some (aR t w,0)
 |m,0,i,q,r,_,hn,_,_,_,_,_=>by omega
 |m,n+1,i,q,r,hm,hn,hi,hq,hr,eq,er=>by
  unfold dA.B7 dA.zM
  by_cases h:i<w.length
  ·have hwi:=dN hp i
   have ZZ:=oj hp i
   have hb:=mul_lt ht hwi (show t≤9223372036854775807 by omega) (show w.getD i 0≤9223372036854775807 by omega)
   have hqi:t*w.getD i 0/w.sum≤t:=Int.ediv_le_of_le_mul hS (Int.mul_le_mul_of_nonneg_left ZZ ht)
   have akH:0≤t*w.getD i 0/w.sum:=Int.ediv_nonneg hb.1 (by omega)
   have hri:=Int.emod_lt_of_pos (t*w.getD i 0) hS
   have ar8:=Int.emod_nonneg (t*w.getD i 0) (show w.sum≠0 by omega)
   have hs0:=Dy ht hS (ra hp i)
   have HR:=dH (oS ht (by omega:0≤w.sum) (zI hp i))
   have ft:Fit t 2:=Fit.i64 (by omega) (by omega)
   have fw:Fit (w.getD i 0) 2:=Fit.i64 (by omega) (by omega)
   have fS:Fit w.sum 2:=Fit.i64 (by omega) (by omega)
   rw[aD (by omega),cond_true,fH N (by omega) (by omega) nE,Option.bind_some,aG (by omega) (by omega),cond_true,Int.toNat_natCast,fH N (by omega) (by omega) (by omega),Option.bind_some,
    Fs N (by omega) (ft.mono (by omega)) (fw.mono (by omega)),Option.bind_some,Kq N (by omega) hS ((ft.mul fw).mono (by omega)) (fS.mono (by omega)),Option.bind_some]
   dsimp only
   rw[oh,Option.bind_some,tj (by omega) (by omega),oh,tj (by omega) (by omega)]
   dsimp only
   rw[Option.bind_some,aG (by omega) (by omega),cond_true,aG (by omega) (by omega),cond_true,List.length_set,aG (by omega) (by omega),cond_true,gm q _ (by omega),al (x:=(i:Int)+1) (by omega) (by omega),al (by omega) (by omega)]
   have s8:=w5 N hN ht nE hw hp hS hS1 (m-1) n (i+1) (q.set i (t*w.getD i 0/w.sum)) (r.set i (t*w.getD i 0%w.sum)) (by omega) (by omega) (by omega) (by rw[List.length_set];exact hq) (by rw[List.length_set];exact hr)
    (by rw[take_set q _ (by omega),eq,dJ w h];unfold im;simp)
    (by rw[take_set r _ (by omega),er,dJ w h];unfold eV;simp)
   rw[←rV,dU _ (by rw[mX];exact h),Dx,rV]at s8
   rw[Int.sub_sub]
   exact s8
  ·have iF:i=w.length:=by omega
   subst iF
   rw[List.take_of_length_le (by omega),List.take_of_length_le (by omega)]at eq er
   subst eq er
   rw[List.take_of_length_le (by omega)]
   have HR:=dH (oS ht (by omega:0≤w.sum) hp)
   have h1:=zL ht hS
   unfold iY at h1
   rw[ay (by omega),cond_false,Mj N (by rw[fe];omega) (by rw[fe];omega),Option.bind_some]
   have hlen:=mW (eV t w.sum w)
   rw[fe]at hlen
   have sm:=zJ N (ks:=eN (eV t w.sum w)) (by omega) w.length (fun k hk=>by have:=uY _ k hk;rwa [fe]at this) 1000 N 0 (t-(im t w.sum w).sum).toNat (im t w.sum w) (by omega) (by omega) (by omega) (mX ..) (oS ht (by omega) hp) (by omega) (by omega)
   rw[List.drop_zero,Int.toNat_of_nonneg h1]at sm
   exact sm
theorem vP(N:Nat)(hN:5000000≤N){t:Int}{w:List Int}(nE:t<9223372036854775808)(hw:zE w)(hl:w.length≤1000000):dA N t w=some (jD t w):=by
 unfold dA dA.b jD
 rw[zH N (by omega),Option.bind_some]
 by_cases h1:t<0
 ·rw[decide_eq_true h1,Bool.true_or,cond_true,if_pos (.inl h1)]
 rw[decide_eq_false h1,Bool.false_or]
 cases h2:may w
 ·rw[Bool.not_false,cond_true,if_pos (.inr rfl)]
 rw[Bool.not_true,cond_false,if_neg (by simp[h1]),s6 N (by omega) hw hl,Option.bind_some,ph,Option.bind_some]
 obtain⟨Dz,hp⟩:=eH.1 h2
 have hS0:=dH hp
 have hj: ∀h: ¬9223372036854775808≤w.sum,dA.j6 N t w (cg w.sum)=if w.sum=0 then some (List.replicate w.length 0,0)else some (aR t w,0):=fun h=>by
  unfold dA.j6 dA.Nc
  rw[oh,Option.bind_some,tj (by omega) (by omega),Bool.not_true,cond_false,br (by omega) (by omega) (by omega),cond_true,cond_true,ph,Option.bind_some,Int.toNat_natCast]
  by_cases h4:w.sum=0
  ·rw[if_pos h4,h4,show rJ 0=0 from rfl,ck rfl,cond_true]
  ·rw[if_neg h4,cf (by unfold rJ;repeat' split<;>omega),cond_false]
   have:=w5 N hN (by omega) nE Dz hp (by omega) (by omega) w.length N 0 (List.replicate w.length 0) (List.replicate w.length 0) (by omega) (by omega) (by omega) (List.length_replicate ..) (List.length_replicate ..) rfl rfl
   rw[List.take_zero]at this
   simp only[im,List.map_nil,List.sum_nil,Int.sub_zero]at this
   exact this
 by_cases h3:9223372036854775808≤w.sum
 ·rw[if_pos h3,cf (by unfold rJ;repeat' split<;>omega),cond_false]
  unfold dA.j6 dA.Nc
  rw[oh,Option.bind_some];unfold ur;rw[if_neg (by omega)];rfl
 rw[if_neg h3,hj h3]
 by_cases h4:w.sum=0
 ·rw[if_pos h4,if_pos h4,h4,show rJ 0=0 from rfl,ck rfl,cond_true]
  by_cases h5:t=0
  ·rw[if_pos h5,ck h5,Bool.not_true,cond_false]
  ·rw[if_neg h5,cf h5,Bool.not_false,cond_true]
 ·rw[if_neg h4,if_neg h4,cf (by unfold rJ;repeat' split<;>omega),cond_false]
def B8(t n:Int):List Int×Int:=if t<0∨n<1∨64<n then([],1)else jD t (List.replicate n.toNat 1)
theorem Pe(n:Nat):zE (List.replicate n 1):=fun x hx=>by rw[List.eq_of_mem_replicate hx];omega
theorem B9(N:Nat)(hN:5000000≤N){t:Int}{k:Nat}(hk:k≤64)(nE:t<9223372036854775808): ∀(m n i:Nat),k-i≤m→m<n→i≤k→
  mY.l5 N n t (k:Int) (List.replicate i 1++List.replicate (k-i) 0) (i:Int)=some (jD t (List.replicate k 1))
 |m,0,i,_,hn,_=>by omega
 |m,n+1,i,hm,hn,hi=>by
  unfold mY.l5 mY.dq
  by_cases h:i<k
  ·rw[aD (by omega),cond_true,aG (by omega) (by simp;omega),cond_true,al (by omega) (by omega)]
   refine Eq.trans ?_ (B9 N hN hk nE (m-1) n (i+1) (by omega) (by omega) (by omega))
   congr 1
   rw[Int.toNat_natCast,List.set_append_right _ _ (by simp),List.length_replicate,Nat.sub_self,show k-i=(k-(i+1))+1 by omega,List.replicate_succ,List.set_cons_zero,List.replicate_succ',List.append_assoc]
   rfl
  ·rw[ay (by omega),cond_false,show k-i=0 by omega,List.replicate_zero,List.append_nil,show i=k by omega,vP N hN nE (Pe _) (by rw[List.length_replicate];omega)]
   rfl
theorem Pf(N:Nat)(hN:5000000≤N){t n:Int}(nE:t<9223372036854775808):mY N t n=some (B8 t n):=by
 unfold mY mY.b B8
 by_cases h1:t<0
 ·rw[aD h1,cond_true,if_pos (.inl h1)]
 by_cases h2:n<1
 ·rw[ay (by omega),cond_false,aD h2,cond_true,if_pos (.inr (.inl h2))]
 by_cases h3:64<n
 ·rw[ay (by omega),cond_false,ay (by omega),cond_false,aD h3,cond_true,if_pos (.inr (.inr h3))]
 rw[ay (by omega),cond_false,ay (by omega),cond_false,ay (by omega),cond_false,if_neg (by omega),br (by omega) (by omega) (by omega),cond_true]
 have:=B9 N hN (t:=t) (k:=n.toNat) (by omega) nE n.toNat N 0 (by omega) (by omega) (by omega)
 rw[List.replicate_zero,List.nil_append,Nat.sub_zero,Int.toNat_of_nonneg (by omega)]at this
 exact this
end VM
end
section
namespace VM
open Go VM.F
def zN(n:Nat)(f:Nat→Int):List Int:=(List.range n).map f
theorem et(n:Nat)(f:Nat→Int):(zN n f).length=n:=by unfold zN;rw[List.length_map,List.length_range]
theorem dK{n:Nat}{f:Nat→Int}{i:Nat}(h:i<n):(zN n f).getD i 0=f i:=by
 unfold zN
 rw[List.getD_eq_getElem?_getD,List.getElem?_map,List.getElem?_range h];rfl
theorem DA(n:Nat)(f:Nat→Int)(i:Nat):(zN n f).getD i 0=if i<n then f i else 0:=by
 by_cases h:i<n
 ·rw[if_pos h,dK h]
 ·rw[if_neg h,pj _ (by rw[et];omega)]
theorem Sy{n:Nat}{f:Nat→Int}(h: ∀i,i<n→0≤f i):Pos (zN n f):=fun x hx=>by
 obtain⟨i,hi,rfl⟩:=List.mem_map.1 hx
 exact h i (List.mem_range.1 hi)
theorem kR{l:List Int}(h: ∀i,i<l.length→0≤l.getD i 0):Pos l:=fun x hx=>by
 obtain⟨i,hi,rfl⟩:=List.mem_iff_getElem.1 hx
 have:=h i hi
 rwa [List.getD_eq_getElem?_getD,List.getElem?_eq_getElem hi]at this
theorem rW: ∀{a b:List Int},a.length=b.length→(∀i,i<a.length→a.getD i 0≤b.getD i 0)→a.sum≤b.sum
 |[],[],_,_=>Int.le_refl _
 |[],_::_,h,_=>nomatch h
 |_::_,[],h,_=>nomatch h
 |x::a,y::b,h,h1=>by
  have:=rW (a:=a) (b:=b) (by simpa using h) (fun i hi=>by have:=h1 (i+1) (by simpa using hi);simpa using this)
  have h2:x≤y:=by have:=h1 0 (by simp);simpa using this
  rw[List.sum_cons,List.sum_cons];omega
theorem zO: ∀{a b c:List Int},a.length=b.length→a.length=c.length→(∀i,i<a.length→a.getD i 0=b.getD i 0+c.getD i 0)→a.sum=b.sum+c.sum
 |[],[],[],_,_,_=>rfl
 |[],_::_,_,h,_,_=>nomatch h
 |[],[],_::_,_,h,_=>nomatch h
 |_::_,[],_,h,_,_=>nomatch h
 |_::_,_::_,[],_,h,_=>nomatch h
 |x::a,y::b,z::c,h,h',h1=>by
  have:=zO (a:=a) (b:=b) (c:=c) (by simpa using h) (by simpa using h') (fun i hi=>by have:=h1 (i+1) (by simpa using hi);simpa using this)
  have h2:x=y+z:=by have:=h1 0 (by simp);simpa using this
  rw[List.sum_cons,List.sum_cons,List.sum_cons];omega
theorem rf: ∀{a:List Int},(∀i,i<a.length→a.getD i 0=0)→a.sum=0
 |[],_=>rfl
 |x::a,h=>by
  have:=rf (a:=a) (fun i hi=>by have:=h (i+1) (by simpa using hi);simpa using this)
  have h2:x=0:=by have:=h 0 (by simp);simpa using this
  rw[List.sum_cons];omega
def bb(w caps out:List Int):List Int:=zN w.length fun i=>if out.getD i 0<caps.getD i 0 then w.getD i 0 else 0
def cK(parts caps out:List Int):List Int:=zN out.length fun i=>min (parts.getD i 0) (caps.getD i 0-out.getD i 0)
def pK(out g:List Int):List Int:=zN out.length fun i=>out.getD i 0+g.getD i 0
def kk(w caps:List Int):Nat→List Int→Int→List Int×Int
 |0,out,left=>(out,left)
 |f+1,out,left=>if left=0∨(bb w caps out).sum=0 then(out,left)else
  kk w caps f (pK out (cK (aR left (bb w caps out)) caps out)) (left-(cK (aR left (bb w caps out)) caps out).sum)
structure FW(t:Int)(w caps out:List Int)(left:Int):Prop where
 n:w.length≤64
 l1:caps.length=w.length
 l2:out.length=w.length
 pw:Pos w
 sw:w.sum<9223372036854775808
 pc: ∀i,0≤caps.getD i 0∧caps.getD i 0<9223372036854775808
 po: ∀i,0≤out.getD i 0
 le: ∀i,i<w.length→out.getD i 0≤caps.getD i 0
 z: ∀i,w.getD i 0=0→out.getD i 0=0
 l:0≤left
 t1:t<9223372036854775808
 s:out.sum+left=t
theorem cO(w caps out:List Int):(bb w caps out).length=w.length:=et ..
theorem jE{w caps out:List Int}(h:Pos w):Pos (bb w caps out):=Sy (fun i _=>by split;exact dN h i;omega)
theorem zP{w caps out:List Int}(h:Pos w):(bb w caps out).sum≤w.sum:=rW (cO ..) (fun i hi=>by
 rw[cO]at hi
 unfold bb;rw[dK hi];split
 ·omega
 ·exact dN h i)
theorem FX{t left:Int}{w caps out:List Int}(c:FW t w caps out left):zE (bb w caps out):=fun x hx=>by
 have h1:=jE (caps:=caps) (out:=out) c.pw
 have h2:=zP (caps:=caps) (out:=out) c.pw
 have h3:=h1 x hx
 obtain⟨i,hi,rfl⟩:=List.mem_iff_getElem.1 hx
 have h4:=oj h1 i
 rw[List.getD_eq_getElem?_getD,List.getElem?_eq_getElem hi]at h4
 simp only[Option.getD_some]at h4
 have:=c.sw
 omega
theorem uZ{t left:Int}{w caps out:List Int}(c:FW t w caps out left):left≤t:=by
 have:=dH (q:=out) (kR (fun i _=>c.po i));have:=c.s;omega
theorem iz{t left:Int}{w caps out:List Int}(c:FW t w caps out left)(hS:0<(bb w caps out).sum)(i:Nat):
  0≤(cK (aR left (bb w caps out)) caps out).getD i 0∧(cK (aR left (bb w caps out)) caps out).getD i 0≤(aR left (bb w caps out)).getD i 0∧(i<w.length→out.getD i 0+(cK (aR left (bb w caps out)) caps out).getD i 0≤caps.getD i 0):=by
 have h0:=dN (pJ c.l hS (jE c.pw)) i
 unfold cK
 rw[DA]
 have:=c.l2
 by_cases h:i<out.length
 ·rw[if_pos h]
  have:=c.le i (by omega)
  omega
 ·rw[if_neg h];exact⟨by omega,h0,fun h=>by omega⟩
theorem mZ(parts caps out:List Int):(cK parts caps out).length=out.length:=et ..
theorem u2{t left:Int}{w caps out:List Int}(c:FW t w caps out left)(hS:0<(bb w caps out).sum):0≤(cK (aR left (bb w caps out)) caps out).sum∧(cK (aR left (bb w caps out)) caps out).sum≤left:=by
 constructor
 ·exact dH (kR (fun i _=>(iz c hS i).1))
 ·have:=rW (a:=cK (aR left (bb w caps out)) caps out) (b:=aR left (bb w caps out)) (by rw[mZ,fv,cO,c.l2]) (fun i _=>(iz c hS i).2.1)
  rwa [pI c.l hS]at this
theorem zQ{t left:Int}{w caps out:List Int}(c:FW t w caps out left)(hS:0<(bb w caps out).sum):FW t w caps (pK out (cK (aR left (bb w caps out)) caps out)) (left-(cK (aR left (bb w caps out)) caps out).sum):=by
 have lL: ∀i,(pK out (cK (aR left (bb w caps out)) caps out)).getD i 0=if i<out.length then out.getD i 0+(cK (aR left (bb w caps out)) caps out).getD i 0 else 0:=fun i=>by unfold pK;rw[DA]
 have gs:=u2 c hS
 refine⟨c.n,c.l1,?_,c.pw,c.sw,c.pc,fun i=> ?_,fun i hi=> ?_,fun i hi=> ?_,by omega,c.t1,?_⟩
 ·unfold pK;rw[et,c.l2]
 ·rw[lL];have:=(iz c hS i).1;have:=c.po i;split<;>omega
 ·rw[lL,if_pos (by rw[c.l2];exact hi)];exact(iz c hS i).2.2 hi
 ·rw[lL]
  split
  ·have h1:(bb w caps out).getD i 0=0:=by unfold bb;rw[DA,hi];split<;>(try split)<;>rfl
   have h2:=w4 c.l hS h1
   have h3:=iz c hS i
   rw[c.z i hi];omega
  ·rfl
 ·have:=zO (a:=pK out (cK (aR left (bb w caps out)) caps out)) (b:=out) (c:=cK (aR left (bb w caps out)) caps out) (by unfold pK;rw[et]) (by unfold pK;rw[et,mZ]) (fun i hi=>by
   unfold pK at hi;rw[et]at hi;rw[lL,if_pos hi])
  have:=c.s
  omega
def opens(w caps out:List Int):Nat:=(List.range w.length).countP fun i=>decide (0<w.getD i 0∧out.getD i 0<caps.getD i 0)
theorem Ca{p q:Nat→Bool}: ∀{l:List Nat},(∀x∈l,q x=true→p x=true)→(∃x∈l,p x=true∧q x=false)→l.countP q<l.countP p
 |[],_,⟨x,hx,_⟩=>nomatch hx
 |y::l,h,⟨x,hx,h1,h2⟩=>by
  have hle:l.countP q≤l.countP p:=List.countP_mono_left (fun z hz=>h z (List.mem_cons_of_mem _ hz))
  rw[List.countP_cons,List.countP_cons]
  rcases List.mem_cons.1 hx with rfl|hx
  ·rw[h1,h2];simp;omega
  ·have:=Ca (p:=p) (q:=q) (l:=l) (fun z hz=>h z (List.mem_cons_of_mem _ hz)) ⟨x,hx,h1,h2⟩
   have h3:=h y (List.mem_cons_self ..)
   cases hq:q y<;>cases hp:p y<;>simp<;>try omega
   rw[hq,hp]at h3;simp at h3
theorem Cb{w caps out:List Int}(hw:Pos w)(h:(bb w caps out).sum=0): ∀i,i<w.length→ ¬(0<w.getD i 0∧out.getD i 0<caps.getD i 0):=fun i hi ⟨h1,h2⟩=>by
 have:=oj (jE (caps:=caps) (out:=out) hw) i
 unfold bb at this h
 rw[dK hi,if_pos h2,h]at this
 omega
theorem DB{w caps out:List Int}(hw:Pos w)(h:(bb w caps out).sum≠0): ∃i,i<w.length∧0<w.getD i 0∧out.getD i 0<caps.getD i 0:=by
 by_cases hx: ∃i,i<w.length∧0<w.getD i 0∧out.getD i 0<caps.getD i 0
 ·exact hx
 ·refine absurd (rf (fun i hi=> ?_)) h
  rw[cO]at hi
  unfold bb
  rw[dK hi]
  split
  ·rename_i h1
   have:=dN hw i
   by_cases h2:0<w.getD i 0
   ·exact absurd ⟨i,hi,h2,h1⟩ hx
   ·omega
  ·rfl
theorem Cc{t left:Int}{w caps out:List Int}(c:FW t w caps out left)(hS:0<(bb w caps out).sum)(hl:left-(cK (aR left (bb w caps out)) caps out).sum≠0):opens w caps (pK out (cK (aR left (bb w caps out)) caps out))<opens w caps out:=by
 have lL: ∀i,i<w.length→(pK out (cK (aR left (bb w caps out)) caps out)).getD i 0=out.getD i 0+(cK (aR left (bb w caps out)) caps out).getD i 0:=fun i hi=>by unfold pK;rw[dK (by rw[c.l2];exact hi)]
 refine Ca (fun i hi h=> ?_) ?_
 ·rw[List.mem_range]at hi
  rw[decide_eq_true_iff,lL i hi]at h
  rw[decide_eq_true_iff]
  have:=(iz c hS i).1
  omega
 ·by_cases hx: ∃i,i<w.length∧(0<w.getD i 0∧out.getD i 0<caps.getD i 0)∧caps.getD i 0≤out.getD i 0+(cK (aR left (bb w caps out)) caps out).getD i 0
  ·obtain⟨i,h1,h2,h3⟩:=hx
   refine⟨i,List.mem_range.2 h1,decide_eq_true h2,decide_eq_false ?_⟩
   rw[lL i h1];omega
  ·exfalso
   have h1:aR left (bb w caps out)=cK (aR left (bb w caps out)) caps out:=by
    refine kQ (by rw[mZ,fv,cO,c.l2]) (fun i hi=> ?_)
    rw[fv,cO]at hi
    have h2:=iz c hS i
    have h3:=dN (pJ c.l hS (jE (caps:=caps) (out:=out) c.pw)) i
    by_cases h4:0<w.getD i 0∧out.getD i 0<caps.getD i 0
    ·have h5: ¬caps.getD i 0≤out.getD i 0+(cK (aR left (bb w caps out)) caps out).getD i 0:=fun h=>hx ⟨i,hi,h4,h⟩
     have h6:(cK (aR left (bb w caps out)) caps out).getD i 0=min ((aR left (bb w caps out)).getD i 0) (caps.getD i 0-out.getD i 0):=dK (by rw[c.l2];exact hi)
     omega
    ·have h7:(bb w caps out).getD i 0=0:=by
      unfold bb;rw[dK hi]
      have:=dN c.pw i
      split<;>omega
     have:=w4 c.l hS h7
     omega
   rw[←h1,pI c.l hS]at hl
   omega
theorem FY(w caps out:List Int):opens w caps out≤w.length:=by
 unfold opens
 have:=List.countP_le_length (p:=fun i=>decide (0<w.getD i 0∧out.getD i 0<caps.getD i 0)) (l:=List.range w.length)
 rwa [List.length_range]at this
structure Full(t:Int)(w caps out:List Int)(left:Int):Prop where
 c:FW t w caps out left
 f:left=0∨ ∀i,i<w.length→ ¬(0<w.getD i 0∧out.getD i 0<caps.getD i 0)
theorem FZ{t:Int}{w caps:List Int}: ∀(f:Nat) (out:List Int) (left:Int),FW t w caps out left→(opens w caps out<f∨left=0)→Full t w caps (kk w caps f out left).1 (kk w caps f out left).2
 |0,out,left,c,h=>⟨c,.inl (show left=0 by omega)⟩
 |f+1,out,left,c,h=>by
  unfold kk
  have hS:=dH (jE (caps:=caps) (out:=out) c.pw)
  split
  ·rename_i h1
   exact⟨c,h1.imp id (Cb c.pw)⟩
  ·rename_i h1
   refine FZ f _ _ (zQ c (by omega)) ?_
   by_cases h2:left-(cK (aR left (bb w caps out)) caps out).sum=0
   ·exact .inr h2
   ·have:=Cc c (by omega) h2
    exact .inl (by omega)
def u5(out g:List Int)(i:Nat):List Int:=zN out.length fun j=>if j<i then out.getD j 0+g.getD j 0 else out.getD j 0
theorem mid_zero(out g:List Int):u5 out g 0=out:=kQ (et ..) (fun i hi=>by unfold u5 at*;rw[et]at hi;rw[dK hi,if_neg (by omega)])
theorem KN(out g:List Int){n:Nat}(h:out.length≤n):u5 out g n=pK out g:=kQ (by unfold u5 pK;rw[et,et]) (fun i hi=>by unfold u5 pK at*;rw[et]at hi;rw[dK hi,dK hi,if_pos (by omega)])
theorem rX(out g:List Int)(i:Nat):(u5 out g i).length=out.length:=et ..
theorem Pg{out g:List Int}{i:Nat}(h:i<out.length):(u5 out g i).getD i 0=out.getD i 0:=by unfold u5;rw[dK h,if_neg (by omega)]
theorem KO{out g:List Int}{i:Nat}(h:i<out.length):(u5 out g i).set i (out.getD i 0+g.getD i 0)=u5 out g (i+1):=kQ (by rw[List.length_set,rX,rX]) (fun j hj=>by
 rw[List.length_set,rX]at hj
 by_cases sX:i=j
 ·subst sX
  rw[gm _ _ (by rw[rX];exact h)];unfold u5;rw[dK h,if_pos (by omega)]
 ·rw[getD_set_ne _ _ sX];unfold u5;rw[dK hj,dK hj]
  by_cases h1:j<i
  ·rw[if_pos h1,if_pos (by omega)]
  ·rw[if_neg h1,if_neg (by omega)])
def m0(s:List Int)(i:Nat):List Int:=zN s.length fun j=>if j<i then s.getD j 0 else 0
theorem Cd(s:List Int):m0 s 0=List.replicate s.length 0:=kQ (by unfold m0;rw[et,List.length_replicate]) (fun i hi=>by
 unfold m0 at*;rw[et]at hi;rw[dK hi,if_neg (by omega),List.getD_eq_getElem?_getD,List.getElem?_replicate,if_pos hi];rfl)
theorem F0(s:List Int):m0 s s.length=s:=kQ (et ..) (fun i hi=>by unfold m0 at*;rw[et]at hi;rw[dK hi,if_pos hi])
theorem jF(s:List Int)(i:Nat):(m0 s i).length=s.length:=et ..
theorem F1{s:List Int}{i:Nat}(h:i<s.length):(m0 s i).set i (s.getD i 0)=m0 s (i+1):=kQ (by rw[List.length_set,jF,jF]) (fun j hj=>by
 rw[List.length_set,jF]at hj
 by_cases sX:i=j
 ·subst sX
  rw[gm _ _ (by rw[jF];exact h)];unfold m0;rw[dK h,if_pos (by omega)]
 ·rw[getD_set_ne _ _ sX];unfold m0;rw[dK hj,dK hj]
  by_cases h1:j<i
  ·rw[if_pos h1,if_pos (by omega)]
  ·rw[if_neg h1,if_neg (by omega)])
theorem vQ{s:List Int}{i:Nat}(h:s.getD i 0=0):m0 s i=m0 s (i+1):=kQ (by rw[jF,jF]) (fun j hj=>by
 rw[jF]at hj
 unfold m0;rw[dK hj,dK hj]
 by_cases h1:j<i
 ·rw[if_pos h1,if_pos (by omega)]
 ·rw[if_neg h1]
  by_cases h2:j=i
  ·subst h2;rw[if_pos (by omega),h]
  ·rw[if_neg (by omega)])
theorem Ph(x y:Int):mn x y=min x y:=by rw[XD];split<;>omega
theorem Ce{t left:Int}{w caps out:List Int}(c:FW t w caps out left)(hS:0<(bb w caps out).sum)(i:Nat):0≤((cK (aR left (bb w caps out)) caps out).take i).sum∧((cK (aR left (bb w caps out)) caps out).take i).sum≤left:=by
 have h:=kR (l:=cK (aR left (bb w caps out)) caps out) (fun i _=>(iz c hS i).1)
 have:=ra h i
 have:=u2 c hS
 exact⟨dH (zI h i),by omega⟩
theorem Cg(N:Nat)(K:List Int→List Int→List Int→Int→Option (List Int×Int×Int)){t left:Int}{w caps out:List Int}(c:FW t w caps out left)(hS:0<(bb w caps out).sum): ∀(m n i:Nat),w.length-i≤m→m<n→i≤w.length→
  jG.vR N K n w caps (u5 out (cK (aR left (bb w caps out)) caps out) i) (left-((cK (aR left (bb w caps out)) caps out).take i).sum) (aR left (bb w caps out)) ((aR left (bb w caps out)).length:Int) (i:Int)=
  K w caps (pK out (cK (aR left (bb w caps out)) caps out)) (left-(cK (aR left (bb w caps out)) caps out).sum)
 |m,0,i,_,hn,_=>by omega
 |m,n+1,i,hm,hn,hi=>by
  have n64:=c.n
  have e1:=c.l1
  have e2:=c.l2
  unfold jG.vR jG.tp
  by_cases h:i<w.length
  ·have hc:=c.pc i
   have ho:=c.po i
   have hle:=c.le i h
   have hg:=iz c hS i
   have h6:(cK (aR left (bb w caps out)) caps out).getD i 0=min ((aR left (bb w caps out)).getD i 0) (caps.getD i 0-out.getD i 0):=dK (by rw[c.l2];exact h)
   have ht:=Ce c hS i
   have hl:=uZ c
   have nE:=c.t1
   have hgl:(cK (aR left (bb w caps out)) caps out).getD i 0≤left:=by
    have:=oj (kR (l:=cK (aR left (bb w caps out)) caps out) (fun i _=>(iz c hS i).1)) i
    have:=u2 c hS
    omega
   dsimp only
   rw[aD (by rw[fv,cO];omega),cond_true,aG (by omega) (by rw[fv,cO];omega),cond_true,aG (by omega) (by omega),cond_true,aG (by omega) (by rw[rX];omega),cond_true,cond_true,Int.toNat_natCast,Pg (by omega),al (x:=caps.getD i 0-out.getD i 0) (by omega) (by omega),Ph,←h6,
    al (x:=(i:Int)+1) (by omega) (by omega),al (x:=out.getD i 0+_) (by omega) (by omega),al (by omega) (by omega),KO (by omega)]
   have:=Cg N K c hS (m-1) n (i+1) (by omega) (by omega) (by omega)
   rw[dU _ (by rw[mZ];omega),←Int.sub_sub]at this
   exact this
  ·rw[ay (by rw[fv,cO];omega),cond_false,KN _ _ (by omega),List.take_of_length_le (by rw[mZ];omega)]
theorem zR(N:Nat)(K:List Int→List Int→List Int→Int→Int→Option (List Int×Int×Int)){t left:Int}{w caps out:List Int}(c:FW t w caps out left)(hS:0<(bb w caps out).sum)(rd:Int): ∀(m n i:Nat),w.length-i≤m→m<n→i≤w.length→
  c6.Md N K n w caps (u5 out (cK (aR left (bb w caps out)) caps out) i) (left-((cK (aR left (bb w caps out)) caps out).take i).sum) rd (aR left (bb w caps out)) (i:Int)=
  K w caps (pK out (cK (aR left (bb w caps out)) caps out)) (left-(cK (aR left (bb w caps out)) caps out).sum) (W .i64 (rd+1))
 |m,0,i,_,hn,_=>by omega
 |m,n+1,i,hm,hn,hi=>by
  have n64:=c.n
  have e1:=c.l1
  have e2:=c.l2
  unfold c6.Md c6.IY
  by_cases h:i<w.length
  ·have hc:=c.pc i
   have ho:=c.po i
   have hle:=c.le i h
   have hg:=iz c hS i
   have h6:(cK (aR left (bb w caps out)) caps out).getD i 0=min ((aR left (bb w caps out)).getD i 0) (caps.getD i 0-out.getD i 0):=dK (by rw[c.l2];exact h)
   have ht:=Ce c hS i
   have hl:=uZ c
   have nE:=c.t1
   have hgl:(cK (aR left (bb w caps out)) caps out).getD i 0≤left:=by
    have:=oj (kR (l:=cK (aR left (bb w caps out)) caps out) (fun i _=>(iz c hS i).1)) i
    have:=u2 c hS
    omega
   dsimp only
   rw[aD (by omega),cond_true,aG (by omega) (by rw[fv,cO];omega),cond_true,aG (by omega) (by omega),cond_true,aG (by omega) (by rw[rX];omega),cond_true,cond_true,Int.toNat_natCast,Pg (by omega),al (x:=caps.getD i 0-out.getD i 0) (by omega) (by omega),Ph,←h6,
    al (x:=(i:Int)+1) (by omega) (by omega),al (x:=out.getD i 0+_) (by omega) (by omega),al (x:=left-_-_) (by omega) (by omega),KO (by omega)]
   have:=zR N K c hS rd (m-1) n (i+1) (by omega) (by omega) (by omega)
   rw[dU _ (by rw[mZ];omega),←Int.sub_sub]at this
   exact this
  ·rw[ay (by omega),cond_false,KN _ _ (by omega),List.take_of_length_le (by rw[mZ];omega)]
theorem vS(N:Nat)(hN:5000000≤N)(K:List Int→List Int→List Int→Int→Option (List Int×Int×Int)){t left:Int}{w caps out:List Int}(c:FW t w caps out left)(hl:0<left): ∀(m n i:Nat),w.length-i≤m→m<n→i≤w.length→
  jG.l10 N K n w caps out left (m0 (bb w caps out) i) (w.length:Int) (i:Int)=
  if(bb w caps out).sum=0 then some (out,left,0)else K w caps (pK out (cK (aR left (bb w caps out)) caps out)) (left-(cK (aR left (bb w caps out)) caps out).sum)
 |m,0,i,_,hn,_=>by omega
 |m,n+1,i,hm,hn,hi=>by
  have n64:=c.n
  have e1:=c.l1
  have e2:=c.l2
  unfold jG.l10 jG.Z0
  by_cases h:i<w.length
  ·have h1:(bb w caps out).getD i 0=if out.getD i 0<caps.getD i 0 then w.getD i 0 else 0:=dK h
   rw[aD (by omega),cond_true,aG (by omega) (by omega),cond_true,aG (by omega) (by omega),cond_true,Int.toNat_natCast]
   by_cases h2:out.getD i 0<caps.getD i 0
   ·rw[if_pos h2]at h1
    rw[aD h2,cond_true,aG (by omega) (by omega),cond_true,aG (by omega) (by rw[jF,cO];omega),cond_true,al (by omega) (by omega),←h1,F1 (by rw[cO];exact h)]
    exact vS N hN K c hl (m-1) n (i+1) (by omega) (by omega) (by omega)
   ·rw[if_neg h2]at h1
    rw[ay (by omega),cond_false,al (by omega) (by omega),vQ h1]
    exact vS N hN K c hl (m-1) n (i+1) (by omega) (by omega) (by omega)
  ·have ZH:=uZ c
   have nE:=c.t1
   have iF:i=(bb w caps out).length:=by rw[cO];omega
   have hp:=jE (caps:=caps) (out:=out) c.pw
   have hs:=zP (caps:=caps) (out:=out) c.pw
   have hs0:=dH hp
   have hsw:=c.sw
   have hm:may (bb w caps out)=true:=eH.2 ⟨by rw[cO];omega,hp⟩
   rw[ay (by omega),cond_false,iF,F0,Pd N (by omega) (by omega) (FX c) (by rw[cO];omega),Option.bind_some]
   unfold jD
   rw[if_neg (by rw[hm];simp;omega),if_neg (by omega)]
   by_cases h3:(bb w caps out).sum=0
   ·rw[if_pos h3,if_pos h3,if_neg (by omega),cf (show(1:Int)≠0 by omega),Bool.not_false,cond_true]
   ·rw[if_neg h3,if_neg h3,ck (show(0:Int)=0 by rfl),Bool.not_true,cond_false]
    have:=Cg N K c (by omega) w.length N 0 (by omega) (by omega) (by omega)
    rw[mid_zero,List.take_zero,List.sum_nil,Int.sub_zero]at this
    exact this
def F2(w caps out:List Int)(i:Nat):Prop:= ∃j,j<i∧0<w.getD j 0∧out.getD j 0<caps.getD j 0
theorem pL(N:Nat)(hN:5000000≤N)(K:List Int→List Int→List Int→Int→Int→Option (List Int×Int×Int)){t left:Int}{w caps out:List Int}(c:FW t w caps out left)(rd:Int): ∀(m n i:Nat) (b:Bool),w.length-i≤m→m<n→i≤w.length→(b=true↔F2 w caps out i)→
  c6.nA N K n w caps out left rd (m0 (bb w caps out) i) b (i:Int)=
  if left=0∨(bb w caps out).sum=0 then some (out,left,0)else K w caps (pK out (cK (aR left (bb w caps out)) caps out)) (left-(cK (aR left (bb w caps out)) caps out).sum) (W .i64 (rd+1))
 |m,0,i,b,_,hn,_,_=>by omega
 |m,n+1,i,b,hm,hn,hi,hb=>by
  have n64:=c.n
  have e1:=c.l1
  have e2:=c.l2
  unfold c6.nA c6.lR
  by_cases h:i<w.length
  ·have h1:(bb w caps out).getD i 0=if out.getD i 0<caps.getD i 0 then w.getD i 0 else 0:=dK h
   have hw:=dN c.pw i
   have nX: ¬(0<w.getD i 0∧out.getD i 0<caps.getD i 0)→(b=true↔F2 w caps out (i+1)):=fun qm=>hb.trans ⟨fun⟨j,hj,h2⟩=>⟨j,by omega,h2⟩,fun⟨j,hj,h2⟩=>⟨j,by
    by_cases sX:j=i
    ·subst sX;exact absurd h2 qm
    ·omega,h2⟩⟩
   rw[aD (by omega),cond_true,aG (by omega) (by omega),cond_true,Int.toNat_natCast]
   by_cases h0:0<w.getD i 0
   ·rw[aD h0,cond_true,aG (by omega) (by omega),cond_true,aG (by omega) (by omega),cond_true]
    by_cases h2:out.getD i 0<caps.getD i 0
    ·rw[if_pos h2]at h1
     rw[aD h2,cond_true,cond_true,aG (by omega) (by rw[jF,cO];omega),cond_true,al (by omega) (by omega),←h1,F1 (by rw[cO];exact h)]
     exact pL N hN K c rd (m-1) n (i+1) true (by omega) (by omega) (by omega) ⟨fun _=>⟨i,by omega,h0,h2⟩,fun _=>rfl⟩
    ·rw[if_neg h2]at h1
     rw[ay (by omega),cond_false,al (by omega) (by omega),vQ h1]
     exact pL N hN K c rd (m-1) n (i+1) b (by omega) (by omega) (by omega) (nX (fun h=>h2 h.2))
   ·have h3:(bb w caps out).getD i 0=0:=by rw[h1];split<;>omega
    rw[ay (by omega),cond_false,al (by omega) (by omega),vQ h3]
    exact pL N hN K c rd (m-1) n (i+1) b (by omega) (by omega) (by omega) (nX (fun h=>h0 h.1))
  ·have ZH:=uZ c
   have nE:=c.t1
   have hl0:=c.l
   have iF:i=(bb w caps out).length:=by rw[cO];omega
   have hp:=jE (caps:=caps) (out:=out) c.pw
   have hs:=zP (caps:=caps) (out:=out) c.pw
   have hs0:=dH hp
   have hsw:=c.sw
   have hm:may (bb w caps out)=true:=eH.2 ⟨by rw[cO];omega,hp⟩
   rw[ay (by omega),cond_false]
   by_cases h4:left=0
   ·rw[ck h4,cond_true,if_pos (.inl h4)]
   rw[cf h4,cond_false]
   by_cases h3:(bb w caps out).sum=0
   ·have hbf:b=false:=by
     rw[Bool.eq_false_iff];intro ht
     obtain⟨j,hj,h5⟩:=hb.1 ht
     exact Cb c.pw h3 j (by omega) h5
    rw[if_pos (.inr h3),hbf];rfl
   ·have hbt:b=true:=hb.2 (by
     obtain⟨j,hj,h5⟩:=DB c.pw h3
     exact⟨j,by omega,h5⟩)
    rw[hbt,Bool.not_true,cond_false,if_neg (by omega),iF,F0,vP N (by omega) (by omega) (FX c) (by rw[cO];omega),Option.bind_some]
    unfold jD
    rw[if_neg (by rw[hm];simp;omega),if_neg (by omega),if_neg h3]
    have:=zR N K c (by omega) rd w.length N 0 (by omega) (by omega) (by omega)
    rw[mid_zero,List.take_zero,List.sum_nil,Int.sub_zero]at this
    exact this
theorem F3(N:Nat)(hN:5000000≤N){t:Int}{w caps:List Int}: ∀(f n:Nat) (out:List Int) (left:Int),FW t w caps out left→(opens w caps out<f∨left=0)→f<n→
  jG.l7 N n w caps out left=some ((kk w caps f out left).1,(kk w caps f out left).2,0)
 |f,0,out,left,c,_,hn=>by omega
 |f,n+1,out,left,c,h,hn=>by
  have n64:=c.n
  have hl:=c.l
  unfold jG.l7 jG.ll
  by_cases h0:left=0
  ·rw[ay (by omega),cond_false]
   cases f with
   |zero=>rfl
   |succ f=>unfold kk;rw[if_pos (.inl h0)]
  ·rw[aD (by omega),cond_true,br (by omega) (by omega) (by omega),cond_true,Int.toNat_natCast]
   have:=vS N hN (jG.l7 N n) c (by omega) w.length N 0 (by omega) (by omega) (by omega)
   rw[Cd,cO]at this
   refine Eq.trans this ?_
   cases f with
   |zero=>omega
   |succ f=>
    have hS:=dH (jE (caps:=caps) (out:=out) c.pw)
    unfold kk
    by_cases h1:(bb w caps out).sum=0
    ·rw[if_pos h1,if_pos (.inr h1)]
    ·rw[if_neg h1,if_neg (by omega)]
     refine F3 N hN f n _ _ (zQ c (by omega)) ?_ (by omega)
     by_cases h2:left-(cK (aR left (bb w caps out)) caps out).sum=0
     ·exact .inr h2
     ·have:=Cc c (by omega) h2
      exact .inl (by omega)
theorem Ch(N:Nat)(hN:5000000≤N){t:Int}{w caps:List Int}: ∀(f n:Nat) (out:List Int) (left:Int),FW t w caps out left→f≤w.length+1→f<n→
  c6.l8 N n w caps out left ((w.length+1-f:Nat):Int)=some ((kk w caps f out left).1,(kk w caps f out left).2,0)
 |f,0,out,left,c,_,hn=>by omega
 |0,n+1,out,left,c,h,hn=>by
  unfold c6.l8 c6.yj
  rw[cv (by omega)];rfl
 |f+1,n+1,out,left,c,h,hn=>by
  have n64:=c.n
  have hl:=c.l
  unfold c6.l8 c6.yj
  rw[cB (by omega),cond_true,br (by omega) (by omega) (by omega),cond_true,Int.toNat_natCast]
  have:=pL N hN (c6.l8 N n) c ((w.length+1-(f+1):Nat):Int) w.length N 0 false (by omega) (by omega) (by omega) ⟨(fun h=>nomatch h),fun⟨j,hj,_⟩=>by omega⟩
  rw[Cd,cO]at this
  refine Eq.trans this ?_
  have hS:=dH (jE (caps:=caps) (out:=out) c.pw)
  unfold kk
  by_cases h1:left=0∨(bb w caps out).sum=0
  ·rw[if_pos h1,if_pos h1]
  ·rw[if_neg h1,if_neg h1,al (by omega) (by omega),show(((w.length+1-(f+1):Nat):Int)+1)=((w.length+1-f:Nat):Int)by omega]
   exact Ch N hN f n _ _ (zQ c (by omega)) (by omega) (by omega)
def kC(t:Int)(w caps:List Int):List Int×Int×Int:=
 if t<0∨may w=false∨caps.length≠w.length∨may caps=false then([],0,1)else if 9223372036854775808≤w.sum then([],0,2)
 else((kk w caps (w.length+1) (List.replicate w.length 0) t).1,(kk w caps (w.length+1) (List.replicate w.length 0) t).2,0)
theorem lU(n i:Nat):(List.replicate n (0:Int)).getD i 0=0:=by
 rw[List.getD_eq_getElem?_getD,List.getElem?_replicate];split<;>rfl
theorem vT{t:Int}{w caps:List Int}(ht:0≤t)(nE:t<9223372036854775808)(hw:may w=true)(hc:may caps=true)(hl:caps.length=w.length)(hi:zE caps)(hs:w.sum<9223372036854775808):FW t w caps (List.replicate w.length 0) t:=by
 obtain⟨h1,h2⟩:=eH.1 hw
 obtain⟨h3,h4⟩:=eH.1 hc
 refine⟨h1,hl,List.length_replicate ..,h2,hs,fun i=>⟨dN h4 i,(mP hi i).2⟩,fun i=>by rw[lU];omega,fun i _=>by rw[lU];exact dN h4 i,fun i _=>lU ..,ht,nE,?_⟩
 rw[rf (fun i _=>lU ..)];omega
theorem Mn(N:Nat)(hN:5000000≤N){t:Int}{w caps:List Int}(nE:t<9223372036854775808)(hw:zE w)(hc:zE caps)(hl:w.length≤1000000):jG N t w caps=some (kC t w caps):=by
 unfold jG jG.b kC
 by_cases h1:t<0
 ·rw[aD h1,cond_true,if_pos (.inl h1)]
 rw[ay (by omega),cond_false,I8 N (by omega),Option.bind_some]
 cases h2:may w
 ·rw[Bool.not_false,cond_true,if_pos (.inr (.inl rfl))]
 rw[Bool.not_true,cond_false]
 by_cases h3:caps.length=w.length
 case neg=>rw[cf (by omega),Bool.not_false,cond_true,if_pos (.inr (.inr (.inl h3)))]
 rw[ck (by omega),Bool.not_true,cond_false,I8 N (by omega),Option.bind_some]
 cases h4:may caps
 ·rw[Bool.not_false,cond_true,if_pos (.inr (.inr (.inr rfl)))]
 have hp:=dH (eH.1 h2).2
 rw[Bool.not_true,cond_false,Kr N hw hl (by omega),Option.bind_some,if_neg (by simp;omega)]
 by_cases h5:9223372036854775808≤w.sum
 ·rw[if_pos h5];unfold ur;rw[if_neg (by omega)];rfl
 rw[if_neg h5,tj (by omega) (by omega),Bool.not_true,cond_false,br (by omega) (by omega) (by omega),cond_true,Int.toNat_natCast]
 have sJ:=(eH.1 h2).1
 have:=FY w caps (List.replicate w.length 0)
 exact F3 N hN (w.length+1) N _ _ (vT (by omega) nE h2 h4 h3 hc (by omega)) (.inl (by omega)) (by omega)
theorem zS(N:Nat)(hN:5000000≤N){t:Int}{w caps:List Int}(nE:t<9223372036854775808)(hw:zE w)(hc:zE caps)(hl:w.length≤1000000):c6 N t w caps=some (kC t w caps):=by
 unfold c6 c6.b kC
 rw[zH N (by omega),Option.bind_some]
 by_cases h1:t<0
 ·rw[decide_eq_true h1,Bool.true_or,cond_true,if_pos (.inl h1)]
 rw[decide_eq_false h1,Bool.false_or]
 cases h2:may w
 ·rw[Bool.not_false,cond_true,if_pos (.inr (.inl rfl))]
 rw[Bool.not_true,cond_false]
 by_cases h3:caps.length=w.length
 case neg=>rw[cf (by omega),Bool.not_false,cond_true,if_pos (.inr (.inr (.inl h3)))]
 rw[ck (by omega),Bool.not_true,cond_false,zH N (by omega),Option.bind_some]
 cases h4:may caps
 ·rw[if_pos (.inr (.inr (.inr rfl)))];rfl
 have hp:=dH (eH.1 h2).2
 rw[show(decide ((0:Int)<0)|| !true)=false from rfl,cond_false,s6 N (by omega) hw hl,Option.bind_some,oh,Option.bind_some,if_neg (by simp;omega)]
 by_cases h5:9223372036854775808≤w.sum
 ·rw[if_pos h5];unfold ur;rw[if_neg (by omega)];rfl
 rw[if_neg h5,tj (by omega) (by omega),Bool.not_true,cond_false,br (by omega) (by omega) (by omega),cond_true,Int.toNat_natCast]
 have sJ:=(eH.1 h2).1
 have:=Ch N hN (w.length+1) N _ _ (vT (by omega) nE h2 h4 h3 hc (by omega)) (by omega) (by omega)
 rw[Nat.sub_self]at this
 exact this
end VM
end
section
namespace VM
open Go VM.F
theorem Sz(N:Nat){l:aj}(hl:l.length≤100000)(hN:200000≤N)(a b:Int):xL N l a b=some (ei l a b):=by
 unfold xL xL.b ei
 rw[ux N hl hN,Option.bind_some,cond_not]
 have:=uw l aS (fun n i=>xL.l4 N n a b l (l.length:Int) i) (fun t=>some (eY a b t)) (fun n i hi hr=> ?_) (fun n=> ?_) N (by omega)
 ·rw[this];cases cR l<;>rfl
 ·unfold xL.l4 xL.cn
  rw[aD (by omega),cond_true,aG (by omega) (by omega),cond_true,Int.toNat_natCast,al (x:=(i:Int)+1) (by omega) (by omega),aa i,hr,aA,aA,gM]
  split
  ·split<;>rfl
  ·rfl
 ·unfold xL.l4 xL.cn
  rw[ay (by omega),cond_false];rfl
theorem vU{a b:Int}: ∀{l:aj},rN (l.map keyOf)→eY a b l=bN a b l
 |[],_=>rfl
 |x::t,h=>by
  obtain⟨h1,h2⟩:=List.pairwise_cons.1 h
  rw[gM,gq,←vU h2]
  by_cases e1:x.1=a
  ·by_cases e2:x.2.1=b
   ·have hz:bN a b t=0:=iK fun y hy e=>by
     have hk:=h1 (keyOf y) (List.mem_map_of_mem hy)
     have he:keyOf y=keyOf x:=Prod.ext (e.1.trans e1.symm) (e.2.trans e2.symm)
     rw[he]at hk
     exact lS hk
    rw[if_pos e1,if_pos e2,if_pos ⟨e1,e2⟩,vU h2,hz,Int.add_zero];rfl
   ·rw[if_pos e1,if_neg e2,if_neg (fun h=>e2 h.2),Int.zero_add]
  ·rw[if_neg e1,if_neg (fun h=>e1 h.1),Int.zero_add]
def vV(x q:Int):Prop:= ¬((x<0)↔(q<0))
instance(x q:Int):Decidable (vV x q):=by unfold vV;infer_instance
def dd(a q:Int):aj→aj
 |[]=>[]
 |x::t=>if ¬eG x.1 0∧eG x.2.1 a∧vV (dg x) q then x::dd a q t else dd a q t
theorem ko(a q:Int)(x:cy)(t:aj):dd a q (x::t)=if ¬eG x.1 0∧eG x.2.1 a∧vV (dg x) q then x::dd a q t else dd a q t:=rfl
def p7(l:aj):List Int:=l.map fun x=>x.1
def eO(l:aj):List Int:=l.map fun x=>((dg x).natAbs:Int)
theorem rY{a q:Int}{x:cy}: ∀{l:aj},x∈dd a q l→x∈l∧ ¬eG x.1 0∧eG x.2.1 a
 |[],h=>nomatch h
 |y::t,h=>by
  rw[ko]at h
  by_cases e: ¬eG y.1 0∧eG y.2.1 a∧vV (dg y) q
  ·rw[if_pos e]at h
   rcases List.mem_cons.1 h with rfl|h
   ·exact⟨List.mem_cons_self ..,e.1,e.2.1⟩
   ·have:=rY h;exact⟨List.mem_cons_of_mem _ this.1,this.2⟩
  ·rw[if_neg e]at h
   have:=rY h;exact⟨List.mem_cons_of_mem _ this.1,this.2⟩
theorem Ci(a q:Int): ∀l:aj,(dd a q l).length≤l.length
 |[]=>Nat.le_refl _
 |x::t=>by
  have:=Ci a q t
  rw[ko,List.length_cons]
  split
  ·rw[List.length_cons];omega
  ·omega
theorem F4{v q s h o:Int}{P Q R:Prop} [Decidable P] [Decidable Q] [Decidable R](hR:R↔ ¬((v<0)↔(q<0)))(hq:0<q)(hh:h-o≤s):
  (if P∧Q then v else 0)+h-((if ¬P∧Q∧R then(v.natAbs:Int)else 0)+o)≤(if Q then v else 0)+s:=by
 by_cases hQ:Q<;>by_cases hP:P<;>by_cases Z1:R<;>simp only[hP,hQ,Z1,and_self,and_true,and_false,false_and,true_and,not_true,not_false_iff,if_true,if_false]<;>(rw[iff_iff_implies_and_implies]at hR;first|omega|(have h2:=hR.1 Z1;omega)|(have h2: ¬ ¬((v<0)↔(q<0)):=fun e=>Z1 (hR.2 e);omega))
theorem w6{a q:Int}(hq:0<q): ∀l:aj,bN 0 a l-(eO (dd a q l)).sum≤(cU a l).sum
 |[]=>Int.le_refl _
 |x::t=>by
  have ih:=w6 (a:=a) hq t
  have e1:bN 0 a (x::t)=(if eG x.1 0∧eG x.2.1 a then dg x else 0)+bN 0 a t:=gq 0 a x t
  have e2:(eO (dd a q (x::t))).sum=(if ¬eG x.1 0∧eG x.2.1 a∧vV (dg x) q then((dg x).natAbs:Int)else 0)+(eO (dd a q t)).sum:=by
   rw[ko]
   split
   ·show(((dg x).natAbs:Int)::eO (dd a q t)).sum=_
    rw[List.sum_cons]
   ·omega
  have e3:(cU a (x::t)).sum=(if eG x.2.1 a then dg x else 0)+(cU a t).sum:=by
   rw[dV]
   by_cases h:x.2.1=a
   ·rw[if_pos h,if_pos (show eG x.2.1 a from h),List.sum_cons]
   ·rw[if_neg h,if_neg (show ¬eG x.2.1 a from h)];omega
  rw[e1,e2,e3]
  exact F4 Iff.rfl hq ih
theorem F5{v q s h o:Int}{P Q R:Prop} [Decidable P] [Decidable Q] [Decidable R](hR:R↔ ¬((v<0)↔(q<0)))(hq:q<0)(hh:s≤h+o):
  (if Q then v else 0)+s≤(if P∧Q then v else 0)+h+((if ¬P∧Q∧R then(v.natAbs:Int)else 0)+o):=by
 by_cases hQ:Q<;>by_cases hP:P<;>by_cases Z1:R<;>simp only[hP,hQ,Z1,and_self,and_true,and_false,false_and,true_and,not_true,not_false_iff,if_true,if_false]<;>(rw[iff_iff_implies_and_implies]at hR;first|omega|(have h2:=hR.1 Z1;omega)|(have h2: ¬ ¬((v<0)↔(q<0)):=fun e=>Z1 (hR.2 e);omega))
theorem w7{a q:Int}(hq:q<0): ∀l:aj,(cU a l).sum≤bN 0 a l+(eO (dd a q l)).sum
 |[]=>Int.le_refl _
 |x::t=>by
  have ih:=w7 (a:=a) hq t
  have e1:bN 0 a (x::t)=(if eG x.1 0∧eG x.2.1 a then dg x else 0)+bN 0 a t:=gq 0 a x t
  have e2:(eO (dd a q (x::t))).sum=(if ¬eG x.1 0∧eG x.2.1 a∧vV (dg x) q then((dg x).natAbs:Int)else 0)+(eO (dd a q t)).sum:=by
   rw[ko]
   split
   ·show(((dg x).natAbs:Int)::eO (dd a q t)).sum=_
    rw[List.sum_cons]
   ·omega
  have e3:(cU a (x::t)).sum=(if eG x.2.1 a then dg x else 0)+(cU a t).sum:=by
   rw[dV]
   by_cases h:x.2.1=a
   ·rw[if_pos h,if_pos (show eG x.2.1 a from h),List.sum_cons]
   ·rw[if_neg h,if_neg (show ¬eG x.2.1 a from h)];omega
  rw[e1,e2,e3]
  exact F5 Iff.rfl hq ih
theorem Ja{a q:Int}{l:aj}(hs:rN (l.map keyOf))(hf:(cU a l).sum=0)(hq:eY 0 a l=q)(h0:q≠0):(q.natAbs:Int)≤(eO (dd a q l)).sum:=by
 rw[vU hs]at hq
 by_cases h:0<q
 ·have:=w6 (a:=a) h l
  rw[hf,hq]at this;omega
 ·have:=w7 (a:=a) (q:=q) (by omega) l
  rw[hf,hq]at this;omega
theorem Pj{t left:Int}{w out:List Int}(f:Full t w w out left)(h:t≤w.sum):left=0:=by
 have c:=f.c
 rcases f.f with e|e
 ·exact e
 ·have QQ:w.sum≤out.sum:=rW (by rw[c.l2]) fun i hi=>by
   have h1:=e i hi
   have h2:=dN c.pw i
   have h3:=c.po i
   by_cases h4:0<w.getD i 0
   ·have: ¬out.getD i 0<w.getD i 0:=fun h5=>h1 ⟨h4,h5⟩
    omega
   ·omega
  have:=c.s
  have:=c.l
  omega
def sg(q x:Int):Int:=if q<0 then 0-x else x
def zc(a q:Int):List (Int×Int)→aj
 |[]=>[]
 |p::t=>if sg q p.1=0 then zc a q t else(p.2,(a,(sg q p.1,())))::zc a q t
theorem u6(a q:Int)(p:Int×Int)(t:List (Int×Int)):zc a q (p::t)=if sg q p.1=0 then zc a q t else(p.2,(a,(sg q p.1,())))::zc a q t:=rfl
def eT(l:aj)(a q:Int):List Int×Int×Int:=kC (q.natAbs:Int) (eO (dd a q l)) (eO (dd a q l))
def Pk(l:aj)(a q:Int):aj:=((0:Int),(a,((0-q:Int),())))::zc a q ((eT l a q).1.zip (p7 (dd a q l)))
def dt(c:ae)(b:ah)(a:Int):aj×Int:=
 if db c b then(if a<0 then([],3)else if(c.1.length:Int)≤a then([],3)else if ei b.2.2.2.1 0 a=0 then([],0)else
  if(eT b.2.2.2.1 a (ei b.2.2.2.1 0 a)).2.2=0 then(Pk b.2.2.2.1 a (ei b.2.2.2.1 0 a),0)else([],(eT b.2.2.2.1 a (ei b.2.2.2.1 0 a)).2.2))else([],1)
theorem zT{t:Int}{w caps:List Int}(nE:t<9223372036854775808)(hc:zE caps)(hx:(kC t w caps).2.2=0):Full t w caps (kC t w caps).1 (kC t w caps).2.1:=by
 unfold kC at*
 by_cases h1:t<0∨may w=false∨caps.length≠w.length∨may caps=false
 ·rw[if_pos h1]at hx;exact absurd hx (by decide)
 ·rw[if_neg h1]at hx ⊢
  by_cases h2:9223372036854775808≤w.sum
  ·rw[if_pos h2]at hx;exact absurd hx (by decide)
  ·rw[if_neg h2]
   have h3:may w=true:=by cases h:may w<;>simp_all
   have h4:may caps=true:=by cases h:may caps<;>simp_all
   have h5:caps.length=w.length:=Decidable.byContradiction fun h=>h1 (Or.inr (Or.inr (Or.inl h)))
   exact FZ _ _ _ (vT (by omega) nE h3 h4 h5 hc (by omega)) (Or.inl (by have:=FY w caps (List.replicate w.length 0);omega))
theorem oT{l:aj}(h: ∀x∈l,aC (dg x)∧ox (dg x))(a q:Int):zE (eO (dd a q l)):=fun z hz=>by
 obtain⟨x,hx,rfl⟩:=List.mem_map.1 hz
 have:=h x (rY hx).1
 have g: ∀v:Int,aC v∧ox v→ -9223372036854775808≤(v.natAbs:Int)∧(v.natAbs:Int)<9223372036854775808:=fun v hv=>by unfold aC ox at hv;omega
 exact g _ this
theorem Jb{out accs:List Int}{i:Nat}(h1:i<out.length)(h2:i<accs.length):(out.zip accs).getD i (0,0)=(out.getD i 0,accs.getD i 0):=by
 rw[List.getD_eq_getElem?_getD,List.getElem?_eq_getElem (by rw[List.length_zip];omega),List.getElem_zip,List.getD_eq_getElem?_getD,List.getElem?_eq_getElem h1,List.getD_eq_getElem?_getD,List.getElem?_eq_getElem h2];rfl
end VM
end
section
namespace VM
open Go VM.F
end VM
end
section
namespace VM
open Go VM.F
theorem DC{c:ae}{b:ah}(h:db c b=true): ∀x∈b.2.2.2.1,Dv x.2.1 c.1.length:=fun x hx=>by
 have hk:=(gL h).2
 have h0:=(gr hk).2 x hx
 unfold db at h
 simp only[Bool.and_eq_true]at h
 have h1:=of_decide_eq_true h.2.2.2.2.2.2.2.2.1
 obtain⟨i,hi,e⟩:=List.getElem_of_mem hx
 have h2:=h1 i hi
 unfold gJ at h2
 rw[List.getD_eq_getElem?_getD,List.getElem?_eq_getElem hi]at h2
 simp only[Option.getD_some,e]at h2
 have g: ∀u v:Int,bM u v→OG v c.1.length→Dv v c.1.length:=fun u v h1 h2=>by unfold bM at h1;unfold OG at h2;unfold Dv;omega
 exact g _ _ h0.1 h2.2
end VM
end
section
namespace VM
open Go VM.F
end VM
end
section
namespace VM
open Go VM.F
theorem w8{k:Int}: ∀{i:Nat} {l:aE},jC k i l≠[]→(i:Int)≤(jC k i l).getD 0 0∧(jC k i l).getD 0 0<((i+l.length:Nat):Int)
 |i,[],h=>absurd rfl h
 |i,y::t,h=>by
  rw[uU]at h ⊢
  by_cases e:y.1=k
  ·rw[if_pos e,List.length_cons]
   show(i:Int)≤(i:Int)∧(i:Int)<_
   omega
  ·rw[if_neg e]at h ⊢
   have:=w8 h
   rw[List.length_cons];omega
def akJ(c:ae):Int:=c.2.2.2.2.2.2.1
end VM
end
section
namespace VM
open Go VM.F
end VM
end
section
namespace VM
open Go VM.F
end VM
end
section
namespace VM
open Go VM.F
def zIn(z:Int×Int)(n:Nat):Prop:=0≤z.1∧z.1≤1000000000*(n:Int)∧0≤z.2∧z.2≤1000000000*(n:Int)
theorem zIn.mono{z:Int×Int}{n m:Nat}(h:zIn z n)(hm:n≤m):zIn z m:=by unfold zIn at*;omega
end VM
end
section
namespace VM
open Go VM.F
end VM
end
section
namespace VM
open Go VM.F
end VM
end
section
namespace VM
open Go VM.F
end VM
end
section
namespace VM
open Go VM.F
end VM
end
section
namespace VM
open Go VM.F
def qIn(q:Int):Prop:=1≤q∧q≤1000000000
instance(q:Int):Decidable (qIn q):=by unfold qIn;infer_instance
def u7(a b c d:Int):Prop:=(1≤a∧a≤1099511627776)∧(0≤b∧b<6)∧(c=1∨c=2)∧qIn d
instance(a b c d:Int):Decidable (u7 a b c d):=by unfold u7;infer_instance
def yq(h:bR):Prop:=u7 h.1 h.2.1 h.2.2.1 h.2.2.2.1
instance(h:bR):Decidable (yq h):=by unfold yq;infer_instance
theorem zU(N:Nat)(h:bR):SA N h=some (decide (yq h)):=by
 unfold SA
 rw[jV h.2.2.2.1]
 rw[eh,zk,vK,zj,eh,eh,eh]
 congr 1
 rw[Bool.eq_iff_iff,decide_eq_true_iff]
 unfold yq u7 qIn
 simp only[Bool.and_eq_true,Bool.or_eq_true,Bool.not_eq_true',decide_eq_true_eq,decide_eq_false_iff_not]
 omega
end VM
end
section
namespace VM
open Go VM.F Go.RowKit
def hR:aj:=[((1:Int),((0:Int),((-90:Int),()))),((5:Int),((1:Int),((90:Int),())))]
def hS:aj:=[((0:Int),((0:Int),((5:Int),()))),((0:Int),((1:Int),((20:Int),()))),((1:Int),((0:Int),((-5:Int),()))),((1:Int),((1:Int),((-20:Int),())))]
def hB:ah:=([((1:Int),((1:Int),()))],([((1:Int),((1:Int),((1:Int),((50:Int),()))))],(hR,(hS,([(100:Int),(7:Int)],(c9,()))))))
namespace Pure
end Pure
end VM
end
