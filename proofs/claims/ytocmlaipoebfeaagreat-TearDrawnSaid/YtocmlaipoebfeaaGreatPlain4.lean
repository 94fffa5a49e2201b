/- A part of the proof of TearDrawn of layer 29: what the functions compute, in plain words. -/
import Derived.Test.YtocmlaipoebfeaaGreatPlain3
import Derived.Test.YtocmlaipoebfeaaGreatPlain1
set_option linter.all false
section
namespace VM
open Go VM.F
def zl(l:List Int):Prop:= ∀x∈l,-9223372036854775808≤x∧x<9223372036854775808
def Pos(l:List Int):Prop:= ∀x∈l,0≤x
def may(w:List Int):Bool:=decide (w.length≤64)&&w.all (fun x=>decide (0≤x))
theorem eC{w:List Int}:may w=true↔w.length≤64∧Pos w:=by
 unfold may Pos;rw[Bool.and_eq_true,decide_eq_true_iff,List.all_eq_true]
 simp only[decide_eq_true_iff]
theorem zm(N:Nat){l:List Int}(hl:l.length≤1000000): ∀(m n i:Nat),l.length-i≤m→m<n→i≤l.length→ ∃r,gP.l2 N n l () (l.length:Int) (i:Int)=some r∧(0≤r↔ ∃x∈l.drop i,x<0)
 |m,0,i,_,hn,_=>by omega
 |m,n+1,i,hm,hn,hi=>by
  unfold gP.l2 gP.ec YR
  by_cases h:i<l.length
  ·have hd:l.drop i=l.getD i 0::l.drop (i+1):=by
    rw[List.drop_eq_getElem_cons h,List.getD_eq_getElem?_getD,List.getElem?_eq_getElem h];rfl
   rw[aD (by omega),cond_true,aF (by omega) (by omega),cond_true,Option.bind_some,Int.toNat_natCast,hd]
   by_cases hx:l.getD i 0<0
   ·rw[aD hx,cond_true]
    exact⟨_,rfl,fun _=>⟨_,List.mem_cons_self ..,hx⟩,fun _=>by omega⟩
   ·rw[ax (by omega),cond_false,an (by omega) (by omega)]
    obtain⟨r,e,h1⟩:=zm N hl (m-1) n (i+1) (by omega) (by omega) (by omega)
    refine⟨r,e,h1.trans ⟨fun⟨x,EK,Rx⟩=>⟨x,List.mem_cons_of_mem _ EK,Rx⟩,fun⟨x,EK,Rx⟩=> ?_⟩⟩
    rcases List.mem_cons.1 EK with rfl|EK
    ·exact absurd Rx hx
    ·exact⟨x,EK,Rx⟩
  ·rw[ax (by omega),cond_false,List.drop_eq_nil_of_le (by omega)]
   exact⟨_,rfl,fun h=>absurd h (by decide),fun⟨x,hx,_⟩=>nomatch hx⟩
theorem ID(N:Nat){w:List Int}(hN:100≤N):Ly N w=some (may w):=by
 unfold Ly
 by_cases h:w.length≤64
 ·rw[cv (by omega),cond_true]
  unfold YS gP gP.b
  obtain⟨r,e,hr⟩:=zm N (l:=w) (by omega) w.length N 0 (by omega) (by omega) (by omega)
  rw[List.drop_zero]at hr
  rw[show((0:Nat):Int)=0 from rfl]at e
  rw[e,Option.bind_some,Option.bind_some]
  by_cases h0:0≤r
  ·rw[cv h0]
   obtain⟨x,hx,JA⟩:=hr.1 h0
   have:may w=false:=by
    rw[Bool.eq_false_iff];intro hm
    have:=(eC.1 hm).2 x hx;omega
   rw[this];rfl
  ·rw[cn (by omega)]
   have:may w=true:=eC.2 ⟨h,fun x hx=>by
    by_cases JA:x<0
    ·exact absurd (hr.2 ⟨x,hx,JA⟩) h0
    ·omega⟩
   rw[this];rfl
 ·rw[cn (by omega),cond_false]
  have:may w=false:=by
   rw[Bool.eq_false_iff];intro hm;exact h (eC.1 hm).1
  rw[this]
theorem zn(N:Nat){l:List Int}(hl:l.length≤1000000): ∀(m n i:Nat),l.length-i≤m→m<n→i≤l.length→ ∃r,la.l4 N n l (i:Int)=some r∧(r=true↔ ∃x∈l.drop i,x<0)
 |m,0,i,_,hn,_=>by omega
 |m,n+1,i,hm,hn,hi=>by
  unfold la.l4 la.cj
  by_cases h:i<l.length
  ·have hd:l.drop i=l.getD i 0::l.drop (i+1):=by
    rw[List.drop_eq_getElem_cons h,List.getD_eq_getElem?_getD,List.getElem?_eq_getElem h];rfl
   rw[aD (by omega),cond_true,aF (by omega) (by omega),cond_true,Int.toNat_natCast,hd]
   by_cases hx:l.getD i 0<0
   ·rw[aD hx,cond_true]
    exact⟨_,rfl,fun _=>⟨_,List.mem_cons_self ..,hx⟩,fun _=>rfl⟩
   ·rw[ax (by omega),cond_false,an (by omega) (by omega)]
    obtain⟨r,e,h1⟩:=zn N hl (m-1) n (i+1) (by omega) (by omega) (by omega)
    refine⟨r,e,h1.trans ⟨fun⟨x,EK,Rx⟩=>⟨x,List.mem_cons_of_mem _ EK,Rx⟩,fun⟨x,EK,Rx⟩=> ?_⟩⟩
    rcases List.mem_cons.1 EK with rfl|EK
    ·exact absurd Rx hx
    ·exact⟨x,EK,Rx⟩
  ·rw[ax (by omega),cond_false,List.drop_eq_nil_of_le (by omega)]
   exact⟨_,rfl,(fun h=>nomatch h),fun⟨x,hx,_⟩=>nomatch hx⟩
theorem zo(N:Nat){w:List Int}(hN:100≤N)(t:Int):la N t w=some (decide (t<0)|| !may w):=by
 unfold la la.b
 by_cases ht:t<0
 ·rw[aD ht,cond_true,decide_eq_true ht];rfl
 rw[ax (by omega),cond_false,decide_eq_false ht,Bool.false_or]
 by_cases h:w.length≤64
 ·rw[ax (by omega),cond_false]
  obtain⟨r,e,hr⟩:=zn N (l:=w) (by omega) w.length N 0 (by omega) (by omega) (by omega)
  rw[List.drop_zero]at hr
  rw[show((0:Nat):Int)=0 from rfl]at e
  rw[e]
  congr 1
  rw[Bool.eq_iff_iff,hr,Bool.not_eq_true',Bool.eq_false_iff,Ne,eC]
  constructor
  ·rintro⟨x,hx,JA⟩ h;have:=h.2 x hx;omega
  ·intro h1
   by_cases h2: ∃x∈w,x<0
   ·exact h2
   ·exact absurd ⟨h,fun x hx=>by
     by_cases JA:x<0
     ·exact absurd ⟨x,hx,JA⟩ h2
     ·omega⟩ h1
 ·rw[aD (by omega),cond_true]
  have:may w=false:=by
   rw[Bool.eq_false_iff];intro hm;exact h (eC.1 hm).1
  rw[this];rfl
def bump(q:List Int):List Int→List Int
 |[]=>q
 |k::t=>bump (q.set k.toNat (q.getD k.toNat 0+1)) t
def ij(t S:Int)(w:List Int):List Int:=w.map fun x=>t*x/S
def eR(t S:Int)(w:List Int):List Int:=w.map fun x=>t*x%S
def aP(t:Int)(w:List Int):List Int:=
 bump (ij t w.sum w) ((eJ (eR t w.sum w)).take (t-(ij t w.sum w).sum).toNat)
def jy(t:Int)(w:List Int):List Int×Int:=
 if t<0∨may w=false then([],1)else if 9223372036854775808≤w.sum then([],2)
 else if w.sum=0 then(if t=0 then(List.replicate w.length 0,0)else([],1))else(aP t w,0)
theorem Fo: ∀(ks q:List Int),(bump q ks).length=q.length
 |[],q=>rfl
 |k::t,q=>by unfold bump;rw[Fo t];simp
theorem xU: ∀(q:List Int) (k:Nat) (x:Int),k<q.length→(q.set k x).sum=q.sum-q.getD k 0+x
 |[],k,x,h=>absurd h (by simp)
 |a::q,0,x,h=>by simp;omega
 |a::q,k+1,x,h=>by
  have:=xU q k x (by simpa using h)
  simp[this];omega
theorem dB: ∀{q:List Int},Pos q→0≤q.sum
 |[],_=>by simp
 |a::q,h=>by
  have:=dB (q:=q) (fun x hx=>h x (List.mem_cons_of_mem _ hx))
  have:=h a (List.mem_cons_self ..)
  rw[List.sum_cons];omega
theorem nX: ∀{q:List Int},Pos q→ ∀i,q.getD i 0≤q.sum
 |[],_,i=>by simp
 |a::q,h,0=>by
  have:=dB (q:=q) (fun x hx=>h x (List.mem_cons_of_mem _ hx))
  rw[List.sum_cons];simp;omega
 |a::q,h,i+1=>by
  have:=nX (q:=q) (fun x hx=>h x (List.mem_cons_of_mem _ hx)) i
  have:=h a (List.mem_cons_self ..)
  rw[List.sum_cons];simp;simp at*;omega
theorem dI{q:List Int}(h:Pos q)(i:Nat):0≤q.getD i 0:=by
 by_cases hi:i<q.length
 ·exact h _ (uB hi)
 ·rw[oY q (by omega)];omega
theorem J8{q:List Int}(h:Pos q){x:Int}(hx:0≤x)(k:Nat):Pos (q.set k x):=fun y hy=>by
 rcases List.mem_or_eq_of_mem_set hy with hy|rfl
 ·exact h y hy
 ·exact hx
theorem zp{q:List Int}(h:Pos q)(n:Nat):Pos (q.take n):=fun x hx=>h x (List.mem_of_mem_take hx)
theorem Fp: ∀(ks q:List Int),(∀k∈ks,0≤k∧k<q.length)→(bump q ks).sum=q.sum+ks.length
 |[],q,_=>by simp[bump]
 |k::t,q,h=>by
  have hk:=h k (List.mem_cons_self ..)
  unfold bump
  rw[Fp t _ (fun x hx=>by rw[List.length_set];exact h x (List.mem_cons_of_mem _ hx)),xU q _ _ (by omega),List.length_cons];omega
theorem mK(t S:Int)(w:List Int):(ij t S w).length=w.length:=by unfold ij;rw[List.length_map]
theorem e8(t S:Int)(w:List Int):(eR t S w).length=w.length:=by unfold eR;rw[List.length_map]
theorem C5{t S:Int}{w:List Int}(i:Nat):(ij t S w).getD i 0=t*w.getD i 0/S:=by
 unfold ij
 by_cases h:i<w.length
 ·rw[List.getD_eq_getElem?_getD,List.getElem?_map,List.getElem?_eq_getElem h,List.getD_eq_getElem?_getD,List.getElem?_eq_getElem h];rfl
 ·rw[oY _ (by rw[List.length_map];omega),oY w (by omega)];simp
theorem J9{t S:Int}{w:List Int}(i:Nat):(eR t S w).getD i 0=t*w.getD i 0%S:=by
 unfold eR
 by_cases h:i<w.length
 ·rw[List.getD_eq_getElem?_getD,List.getElem?_map,List.getElem?_eq_getElem h,List.getD_eq_getElem?_getD,List.getElem?_eq_getElem h];rfl
 ·rw[oY _ (by rw[List.length_map];omega),oY w (by omega)];simp
theorem oz{t S:Int}{w:List Int}(ht:0≤t)(hS:0≤S)(hw:Pos w):Pos (ij t S w):=fun x hx=>by
 obtain⟨y,hy,rfl⟩:=List.mem_map.1 hx
 exact Int.ediv_nonneg (Int.mul_nonneg ht (hw y hy)) hS
theorem Fs{t S:Int}{w:List Int}(hS:0<S):Pos (eR t S w):=fun x hx=>by
 obtain⟨y,hy,rfl⟩:=List.mem_map.1 hx
 exact Int.emod_nonneg _ (by omega)
theorem xV(t S:Int): ∀w:List Int,S*(ij t S w).sum+(eR t S w).sum=t*w.sum
 |[]=>by simp[ij,eR]
 |x::w=>by
  have h:=xV t S w
  have e:=Int.mul_ediv_add_emod (t*x) S
  unfold ij eR at*
  simp only[List.map_cons,List.sum_cons,Int.mul_add]
  omega
theorem C6{t S:Int}{w:List Int}(ht:0≤t)(hS:0<S)(h:w.sum≤S):(ij t S w).sum≤t:=by
 have e:=xV t S w
 have h1:=dB (Fs (t:=t) (w:=w) hS)
 have h2:=Int.mul_le_mul_of_nonneg_left h ht
 have h3:S*(ij t S w).sum≤S*t:=by rw[Int.mul_comm S t];omega
 exact Int.le_of_mul_le_mul_left h3 hS
theorem qP{w:List Int}(h:Pos w)(i:Nat):(w.take i).sum≤w.sum:=by
 have e:w.take i++w.drop i=w:=List.take_append_drop i w
 have h1:(w.take i).sum+(w.drop i).sum=w.sum:=by rw[←List.sum_append,e]
 have:=dB (q:=w.drop i) (fun x hx=>h x (List.mem_of_mem_drop hx))
 omega
theorem rF(t S:Int)(w:List Int)(i:Nat):(ij t S w).take i=ij t S (w.take i):=by unfold ij;rw[List.map_take]
theorem BF(N:Nat){ks:List Int}(hl:ks.length≤1000000)(L:Nat)(hk: ∀k∈ks,0≤k∧k<L): ∀(m n i:Nat) (q:List Int),ks.length-i≤m→m<n→i≤ks.length→q.length=L→Pos q→q.sum+(ks.length-i:Nat)≤9223372036854775807→
  dJ.sX N n q ks (ks.length:Int) (i:Int)=some (bump q (ks.drop i),0)
 |m,0,i,q,_,hn,_,_,_,_=>by omega
 |m,n+1,i,q,hm,hn,hi,hq,hp,hs=>by
  unfold dJ.sX dJ.uC
  by_cases h:i<ks.length
  ·have hd:ks.drop i=ks.getD i 0::ks.drop (i+1):=by
    rw[List.drop_eq_getElem_cons h,List.getD_eq_getElem?_getD,List.getElem?_eq_getElem h];rfl
   have xK:=hk _ (uB h)
   rw[aD (by omega),cond_true,aF (by omega) (by omega),cond_true,Int.toNat_natCast,aF (by omega) (by omega),cond_true,cond_true,hd]
   have h1:=nX hp (ks.getD i 0).toNat
   have h2:=dI hp (ks.getD i 0).toNat
   rw[an (x:=q.getD _ 0+1) (by omega) (by omega),an (by omega) (by omega)]
   refine(BF N hl L hk (m-1) n (i+1) _ (by omega) (by omega) (by omega) (by rw[List.length_set];exact hq) (J8 hp (by omega) _) ?_).trans rfl
   rw[xU q _ _ (by omega)];omega
  ·rw[ax (by omega),cond_false,List.drop_eq_nil_of_le (by omega)];rfl
theorem zq(N:Nat){ks:List Int}(hl:ks.length≤1000000)(L:Nat)(hk: ∀k∈ks,0≤k∧k<L): ∀(m n i left:Nat) (q:List Int),ks.length-i≤m→m<n→i≤ks.length→q.length=L→Pos q→left≤9223372036854775807→q.sum+left≤9223372036854775807→
  du.sS N n q (left:Int) ks (i:Int)=some (bump q ((ks.drop i).take left),0)
 |m,0,i,left,q,_,hn,_,_,_,_,_=>by omega
 |m,n+1,i,left,q,hm,hn,hi,hq,hp,hle,hs=>by
  unfold du.sS du.rV
  by_cases h:i<ks.length
  ·have hd:ks.drop i=ks.getD i 0::ks.drop (i+1):=by
    rw[List.drop_eq_getElem_cons h,List.getD_eq_getElem?_getD,List.getElem?_eq_getElem h];rfl
   have xK:=hk _ (uB h)
   rw[aD (by omega),cond_true]
   match left,hle,hs with
   |0,hle,hs=>rw[ax (by omega),cond_false,List.take_zero];rfl
   |left+1,hle,hs=>
    rw[aD (by omega),cond_true,aF (by omega) (by omega),cond_true,Int.toNat_natCast,aF (by omega) (by omega),cond_true,cond_true,hd]
    have h1:=nX hp (ks.getD i 0).toNat
    have h2:=dI hp (ks.getD i 0).toNat
    rw[an (x:=q.getD _ 0+1) (by omega) (by omega),an (x:=(i:Int)+1) (by omega) (by omega),an (by omega) (by omega),show((left+1:Nat):Int)-1=(left:Int)by omega]
    refine(zq N hl L hk (m-1) n (i+1) left _ (by omega) (by omega) (by omega) (by rw[List.length_set];exact hq) (J8 hp (by omega) _) (by omega) ?_).trans rfl
    rw[xU q _ _ (by omega)];omega
  ·rw[ax (by omega),cond_false,List.drop_eq_nil_of_le (by omega),List.take_nil];rfl
theorem uD(l:List Int): ∀k∈eJ l,0≤k∧k<l.length:=fun k hk=>(nO l).1 hk
theorem take_set(l:List Int){i:Nat}(x:Int)(h:i<l.length):(l.set i x).take (i+1)=l.take i++[x]:=by
 rw[dD (l.set i x) (by rw[List.length_set];exact h),gg l x h,List.take_set_of_le (by omega)]
theorem sY{v:Int}(h0: -9223372036854775808≤v)(h1:v<9223372036854775808):tT v=(v,true):=by unfold tT;rw[if_pos ⟨h0,h1⟩]
theorem zr(N:Nat)(hN:1000000≤N){t:Int}{w:List Int}(ht:0≤t)(nk:t<9223372036854775808)(hw:w.length≤64)(hp:Pos w)(hS:0<w.sum)(hS1:w.sum<9223372036854775808):
  ∀(m n i:Nat) (q r:List Int),w.length-i≤m→m<n→i≤w.length→q.length=w.length→r.length=w.length→q.take i=ij t w.sum (w.take i)→r.take i=eR t w.sum (w.take i)→
  dJ.lH N n t w.sum q r (t-(ij t w.sum (w.take i)).sum) w (w.length:Int) (i:Int)=some (aP t w,0)
 |m,0,i,q,r,_,hn,_,_,_,_,_=>by omega
 |m,n+1,i,q,r,hm,hn,hi,hq,hr,eq,er=>by
  unfold dJ.lH dJ.j2
  by_cases h:i<w.length
  ·have hwi:=dI hp i
   have YT:=nX hp i
   have hb:=mul_lt ht hwi (show t≤9223372036854775807 by omega) (show w.getD i 0≤9223372036854775807 by omega)
   have hqi:t*w.getD i 0/w.sum≤t:=Int.ediv_le_of_le_mul hS (Int.mul_le_mul_of_nonneg_left YT ht)
   have akd:0≤t*w.getD i 0/w.sum:=Int.ediv_nonneg hb.1 (by omega)
   have hs0:=C6 ht hS (qP hp i)
   have Hj:=dB (oz ht (by omega:0≤w.sum) (zp hp i))
   rw[aD (by omega),cond_true,aF (by omega) (by omega),cond_true,Int.toNat_natCast,QZ N (by omega) (by omega) (by omega) (by omega),Option.bind_some,
    Q3 N (by omega) (by omega) (by omega) hS hS1,Option.bind_some]
   dsimp only
   rw[CI N (by omega) (by omega),Option.bind_some,sY (by omega) (by omega)]
   dsimp only
   rw[aF (by omega) (by omega),cond_true,aF (by omega) (by omega),cond_true,List.length_set,aF (by omega) (by omega),cond_true,gg q _ (by omega),an (x:=(i:Int)+1) (by omega) (by omega),an (by omega) (by omega)]
   have sN:=zr N hN ht nk hw hp hS hS1 (m-1) n (i+1) (q.set i (t*w.getD i 0/w.sum)) (r.set i (t*w.getD i 0%w.sum)) (by omega) (by omega) (by omega) (by rw[List.length_set];exact hq) (by rw[List.length_set];exact hr)
    (by rw[take_set q _ (by omega),eq,dD w h];unfold ij;simp)
    (by rw[take_set r _ (by omega),er,dD w h];unfold eR;simp)
   rw[←rF,dN _ (by rw[mK];exact h),C5,rF]at sN
   rw[Int.sub_sub]
   exact sN
  ·have iA:i=w.length:=by omega
   subst iA
   rw[List.take_of_length_le (by omega),List.take_of_length_le (by omega)]at eq er
   subst eq er
   rw[List.take_of_length_le (by omega)]
   have hs0:=C6 ht hS (Int.le_refl _)
   have Hj:=dB (oz ht (by omega:0≤w.sum) hp)
   have WW:(t-(ij t w.sum w).sum).toNat≤(eJ (eR t w.sum w)).length:=by
    rw[mJ,e8]
    have e:=xV t w.sum w
    have:(eR t w.sum w).sum≤w.length*w.sum:=by
     have: ∀u:List Int,(eR t w.sum u).sum≤u.length*w.sum:=by
      intro u
      induction u with
      |nil=>simp[eR]
      |cons x u ih=>
       have:=Int.emod_lt_of_pos (t*x) hS
       unfold eR at*
       rw[List.map_cons,List.sum_cons,List.length_cons,Int.natCast_add,Int.add_mul];simp;omega
     exact this w
    have h4:w.sum*(t-(ij t w.sum w).sum)≤w.sum*w.length:=by
     rw[Int.mul_sub,Int.mul_comm w.sum t,Int.mul_comm w.sum (w.length:Int)];omega
    have:=Int.le_of_mul_le_mul_left h4 hS
    omega
   rw[ax (by omega),cond_false,Oj N (by rw[e8];omega) (by rw[e8];omega),Option.bind_some]
   rw[bY (by omega) (by omega) (by omega) (by omega),cond_true]
   dsimp only
   rw[Int.toNat_zero,List.drop_zero]
   have hlen:=mJ (eR t w.sum w)
   rw[e8]at hlen
   have rP:=BF N (ks:=(eJ (eR t w.sum w)).take (t-(ij t w.sum w).sum).toNat) (by rw[List.length_take];omega) w.length (fun k hk=>by have:=uD _ k (List.mem_of_mem_take hk);rwa [e8]at this) 1000 N 0 (ij t w.sum w) (by rw[List.length_take];omega) (by omega) (by omega) (mK ..) (oz ht (by omega) hp) (by rw[List.length_take];omega)
   rw[List.drop_zero]at rP
   exact rP
theorem Ol(N:Nat)(hN:2000000≤N){t:Int}{w:List Int}(nk:t<9223372036854775808)(hw:zl w)(hl:w.length≤1000000):dJ N t w=some (jy t w):=by
 unfold dJ dJ.b jy
 by_cases h1:t<0
 ·rw[aD h1,cond_true,if_pos (.inl h1)]
 rw[ax (by omega),cond_false,ID N (by omega),Option.bind_some]
 cases h2:may w
 ·rw[Bool.not_false,cond_true,if_pos (.inr rfl)]
 rw[Bool.not_true,cond_false,if_neg (by simp[h1]),JT N hw hl (by omega),Option.bind_some]
 obtain⟨C8,hp⟩:=eC.1 h2
 have hS0:=dB hp
 by_cases h3:9223372036854775808≤w.sum
 ·rw[if_pos h3];unfold tT;rw[if_neg (by omega)];rfl
 rw[if_neg h3,sY (by omega) (by omega)]
 dsimp only
 rw[Bool.not_true,cond_false]
 have hm:dS (w.length:Int) (w.length:Int)=true:=bp (by omega) (by omega) (by omega)
 have hz: ∀i:Nat,(List.replicate w.length (0:Int)).take i=(List.replicate w.length (0:Int)).take i:=fun _=>rfl
 by_cases h4:w.sum=0
 ·rw[if_pos h4,ch h4,cond_true]
  by_cases h5:t=0
  ·rw[if_pos h5,ax (by omega),cond_false]
   unfold dJ.j8 dJ.IC
   rw[hm,cond_true,cond_true,ch h5,cond_true,Int.toNat_natCast]
  ·rw[if_neg h5,aD (by omega),cond_true]
 ·rw[if_neg h4,b9 h4,cond_false]
  unfold dJ.j8 dJ.IC
  rw[hm,cond_true,cond_true]
  rw[Int.toNat_natCast]
  by_cases h5:t=0
  ·rw[ch h5,cond_true]
   subst h5
   have:ij 0 w.sum w=List.replicate w.length 0:=by
    unfold ij;simp only[Int.zero_mul,Int.zero_ediv];exact List.map_const'
   unfold aP
   rw[this];simp[bump]
  ·rw[b9 h5,cond_false]
   have:=zr N (by omega) (by omega) nk C8 hp (by omega) (by omega) w.length N 0 (List.replicate w.length 0) (List.replicate w.length 0) (by omega) (by omega) (by omega) (List.length_replicate ..) (List.length_replicate ..) rfl rfl
   rw[List.take_zero]at this
   simp only[ij,List.map_nil,List.sum_nil,Int.sub_zero]at this
   exact this
end VM
end
section
namespace VM
open Go VM.F
theorem kK{a b:List Int}(hl:a.length=b.length)(h: ∀i,i<a.length→a.getD i 0=b.getD i 0):a=b:=by
 refine List.ext_getElem hl (fun i h1 h2=> ?_)
 have:=h i h1
 rwa [List.getD_eq_getElem?_getD,List.getElem?_eq_getElem h1,List.getD_eq_getElem?_getD,List.getElem?_eq_getElem h2]at this
theorem Ka: ∀(ks q:List Int) (i:Nat),ks.Nodup→(∀k∈ks,0≤k∧k<q.length)→(bump q ks).getD i 0=q.getD i 0+(if(i:Int)∈ks then 1 else 0)
 |[],q,i,_,_=>by simp[bump]
 |k::t,q,i,hn,h=>by
  have hk:=h k (List.mem_cons_self ..)
  rw[List.nodup_cons]at hn
  unfold bump
  rw[Ka t _ i hn.2 (fun x hx=>by rw[List.length_set];exact h x (List.mem_cons_of_mem _ hx))]
  by_cases hik:(i:Int)=k
  ·rw[if_neg (by rw[hik];exact hn.1),if_pos (by rw[hik];exact List.mem_cons_self ..),←hik,Int.toNat_natCast,gg q _ (by omega)];omega
  ·rw[getD_set_ne q _ (by omega)]
   by_cases ht:(i:Int)∈t
   ·rw[if_pos ht,if_pos (List.mem_cons_of_mem _ ht)]
   ·rw[if_neg ht,if_neg (fun hc=>by rcases List.mem_cons.1 hc with hc|hc;exact hik hc;exact ht hc)]
theorem Ft(l:List Int):(eJ l).Nodup:=(gI l l.length).imp (fun{a b} h he=>by unfold oy at h;rw[he]at h;omega)
theorem Kb(t S:Int)(hS:0<S): ∀u:List Int,(eR t S u).sum≤u.length*S
 |[]=>by simp[eR]
 |x::u=>by
  have ih:=Kb t S hS u
  have:=Int.emod_lt_of_pos (t*x) hS
  unfold eR at*
  rw[List.map_cons,List.sum_cons,List.length_cons,Int.natCast_add,Int.add_mul];simp;omega
def iT(t:Int)(w:List Int):Int:=t-(ij t w.sum w).sum
theorem left_eq(t:Int)(w:List Int):w.sum*iT t w=(eR t w.sum w).sum:=by
 have:=xV t w.sum w
 unfold iT;rw[Int.mul_sub,Int.mul_comm w.sum t];omega
theorem zs{t:Int}{w:List Int}(ht:0≤t)(hS:0<w.sum):0≤iT t w:=by
 have:=C6 ht hS (Int.le_refl _);unfold iT;omega
theorem Kc{t:Int}{w:List Int}(hS:0<w.sum):iT t w≤w.length:=by
 have h1:=left_eq t w
 have h2:=Kb t w.sum hS w
 rw[←h1,Int.mul_comm (w.length:Int)]at h2
 exact Int.le_of_mul_le_mul_left h2 hS
theorem fp(t:Int)(w:List Int):(aP t w).length=w.length:=by unfold aP;rw[Fo,mK]
theorem ph{t:Int}{w:List Int}(ht:0≤t)(hS:0<w.sum):(aP t w).sum=t:=by
 unfold aP
 have h1:=zs ht hS
 have h2:=Kc (t:=t) hS
 unfold iT at*
 rw[Fp _ _ (fun k hk=>by have:=uD _ k (List.mem_of_mem_take hk);rw[e8]at this;rwa [mK]),List.length_take,mJ,e8]
 omega
theorem sZ{f:Int→Int}{c:Int}: ∀{o:List Int},(∀x∈o,f x≤c)→(o.map f).sum≤o.length*c
 |[],_=>by simp
 |x::o,h=>by
  have ih:=sZ (f:=f) (c:=c) (o:=o) (fun y hy=>h y (List.mem_cons_of_mem _ hy))
  have:=h x (List.mem_cons_self ..)
  rw[List.map_cons,List.sum_cons,List.length_cons,Int.natCast_add,Int.add_mul];simp;omega
theorem IE{l o:List Int}(h:o.Pairwise (oy l)){m:Nat}{x y:Int}(hx:x∈o.take m)(hy:y∈o.drop m):oy l x y:=by
 rw[←List.take_append_drop m o,List.pairwise_append]at h
 exact h.2.2 x hx y hy
theorem LA{t:Int}{w:List Int}(ht:0≤t)(hS:0<w.sum){i:Int}(hi:i∈(eJ (eR t w.sum w)).take (iT t w).toNat):0<qO (eR t w.sum w) i:=by
 have HO: ∀k:Int,0≤qO (eR t w.sum w) k:=fun k=>dI (Fs hS) _
 have dz: ∀k:Int,qO (eR t w.sum w) k≤w.sum-1:=fun k=>by
  unfold qO;rw[J9]
  have:=Int.emod_lt_of_pos (t*w.getD k.toNat 0) hS;omega
 have h0:=HO i
 rcases Int.lt_or_le 0 (qO (eR t w.sum w) i)with h|h
 ·exact h
 exfalso
 have AH:=IB (eR t w.sum w) (eR t w.sum w) rfl
 rw[←left_eq]at AH
 have ake:=List.take_append_drop (iT t w).toNat (eJ (eR t w.sum w))
 rw[←ake,List.map_append,List.sum_append]at AH
 have hd:(((eJ (eR t w.sum w)).drop (iT t w).toNat).map (qO (eR t w.sum w))).sum≤((eJ (eR t w.sum w)).drop (iT t w).toNat).length*0:=sZ (fun y hy=>by
  have:=IE (gI _ _) hi hy
  unfold oy at this;omega)
 have htk:(((eJ (eR t w.sum w)).take (iT t w).toNat).map (qO (eR t w.sum w))).sum≤((eJ (eR t w.sum w)).take (iT t w).toNat).length*(w.sum-1):=sZ (fun y _=>dz y)
 have h1:=zs ht hS
 have h2:=Kc (t:=t) hS
 rw[List.length_take,mJ,e8,Nat.min_eq_left (by omega),Int.mul_sub]at htk
 rw[Int.mul_zero]at hd
 have h3:(((iT t w).toNat:Nat):Int)=iT t w:=by omega
 have h4:0<(iT t w).toNat:=by
  rcases Nat.eq_zero_or_pos (iT t w).toNat with h|h
  ·rw[h,List.take_zero]at hi;nomatch hi
  ·exact h
 rw[h3,Int.mul_comm (iT t w)]at htk
 omega
def extra(t:Int)(w:List Int)(i:Nat):Int:=if(i:Int)∈(eJ (eR t w.sum w)).take (iT t w).toNat then 1 else 0
theorem BG(t:Int)(w:List Int)(i:Nat):(aP t w).getD i 0=t*w.getD i 0/w.sum+extra t w i:=by
 unfold aP
 rw[Ka _ _ i ((Ft _).sublist (List.take_sublist ..)) (fun k hk=>by have:=uD _ k (List.mem_of_mem_take hk);rw[e8]at this;rwa [mK]),C5]
 rfl
theorem BH(t:Int)(w:List Int)(i:Nat):extra t w i=0∨extra t w i=1:=by unfold extra;split<;>omega
theorem LB{t:Int}{w:List Int}(ht:0≤t)(hS:0<w.sum){i:Nat}(h:extra t w i=1):0<t*w.getD i 0%w.sum:=by
 unfold extra at h
 by_cases hi:(i:Int)∈(eJ (eR t w.sum w)).take (iT t w).toNat
 ·have:=LA ht hS hi
  unfold qO at this;rwa [J9,Int.toNat_natCast]at this
 ·rw[if_neg hi]at h;omega
theorem pj{t:Int}{w:List Int}(ht:0≤t)(hS:0<w.sum)(hw:Pos w):Pos (aP t w):=fun x hx=>by
 obtain⟨i,hi,rfl⟩:=List.mem_iff_getElem.1 hx
 have:=BG t w i
 rw[List.getD_eq_getElem?_getD,List.getElem?_eq_getElem hi]at this
 have h1:=BH t w i
 have h2:0≤t*w.getD i 0/w.sum:=Int.ediv_nonneg (Int.mul_nonneg ht (dI hw i)) (by omega)
 simp only[Option.getD_some]at this
 omega
theorem wJ{t:Int}{w:List Int}(ht:0≤t)(hS:0<w.sum){i:Nat}(h:w.getD i 0=0):(aP t w).getD i 0=0:=by
 rw[BG,h]
 rcases BH t w i with h1|h1
 ·rw[h1];simp
 ·have:=LB ht hS h1
  rw[h]at this;simp at this
end VM
end
section
namespace VM
open Go VM.F
theorem wK(N:Nat)(hN:5000000≤N){t:Int}{w:List Int}(ht:0≤t)(nk:t<9223372036854775808)(hw:w.length≤64)(hp:Pos w)(hS:0<w.sum)(hS1:w.sum<9223372036854775808):
  ∀(m n i:Nat) (q r:List Int),w.length-i≤m→m<n→i≤w.length→q.length=w.length→r.length=w.length→q.take i=ij t w.sum (w.take i)→r.take i=eR t w.sum (w.take i)→
  du.DJ N n t w (cc w.sum) q r (t-(ij t w.sum (w.take i)).sum) (i:Int)=some (aP t w,0)
 |m,0,i,q,r,_,hn,_,_,_,_,_=>by omega
 |m,n+1,i,q,r,hm,hn,hi,hq,hr,eq,er=>by
  unfold du.DJ du.AJ
  by_cases h:i<w.length
  ·have hwi:=dI hp i
   have YT:=nX hp i
   have hb:=mul_lt ht hwi (show t≤9223372036854775807 by omega) (show w.getD i 0≤9223372036854775807 by omega)
   have hqi:t*w.getD i 0/w.sum≤t:=Int.ediv_le_of_le_mul hS (Int.mul_le_mul_of_nonneg_left YT ht)
   have akd:0≤t*w.getD i 0/w.sum:=Int.ediv_nonneg hb.1 (by omega)
   have hri:=Int.emod_lt_of_pos (t*w.getD i 0) hS
   have arD:=Int.emod_nonneg (t*w.getD i 0) (show w.sum≠0 by omega)
   have hs0:=C6 ht hS (qP hp i)
   have Hj:=dB (oz ht (by omega:0≤w.sum) (zp hp i))
   have ft:Fit t 2:=Fit.i64 (by omega) (by omega)
   have fw:Fit (w.getD i 0) 2:=Fit.i64 (by omega) (by omega)
   have fS:Fit w.sum 2:=Fit.i64 (by omega) (by omega)
   rw[aD (by omega),cond_true,fE N (by omega) (by omega) nk,Option.bind_some,aF (by omega) (by omega),cond_true,Int.toNat_natCast,fE N (by omega) (by omega) (by omega),Option.bind_some,
    E0 N (by omega) (ft.mono (by omega)) (fw.mono (by omega)),Option.bind_some,JS N (by omega) hS ((ft.mul fw).mono (by omega)) (fS.mono (by omega)),Option.bind_some]
   dsimp only
   rw[nV,Option.bind_some,sY (by omega) (by omega),nV,sY (by omega) (by omega)]
   dsimp only
   rw[Option.bind_some,aF (by omega) (by omega),cond_true,aF (by omega) (by omega),cond_true,List.length_set,aF (by omega) (by omega),cond_true,gg q _ (by omega),an (x:=(i:Int)+1) (by omega) (by omega),an (by omega) (by omega)]
   have sN:=wK N hN ht nk hw hp hS hS1 (m-1) n (i+1) (q.set i (t*w.getD i 0/w.sum)) (r.set i (t*w.getD i 0%w.sum)) (by omega) (by omega) (by omega) (by rw[List.length_set];exact hq) (by rw[List.length_set];exact hr)
    (by rw[take_set q _ (by omega),eq,dD w h];unfold ij;simp)
    (by rw[take_set r _ (by omega),er,dD w h];unfold eR;simp)
   rw[←rF,dN _ (by rw[mK];exact h),C5,rF]at sN
   rw[Int.sub_sub]
   exact sN
  ·have iA:i=w.length:=by omega
   subst iA
   rw[List.take_of_length_le (by omega),List.take_of_length_le (by omega)]at eq er
   subst eq er
   rw[List.take_of_length_le (by omega)]
   have Hj:=dB (oz ht (by omega:0≤w.sum) hp)
   have h1:=zs ht hS
   unfold iT at h1
   rw[ax (by omega),cond_false,Lx N (by rw[e8];omega) (by rw[e8];omega),Option.bind_some]
   have hlen:=mJ (eR t w.sum w)
   rw[e8]at hlen
   have rP:=zq N (ks:=eJ (eR t w.sum w)) (by omega) w.length (fun k hk=>by have:=uD _ k hk;rwa [e8]at this) 1000 N 0 (t-(ij t w.sum w).sum).toNat (ij t w.sum w) (by omega) (by omega) (by omega) (mK ..) (oz ht (by omega) hp) (by omega) (by omega)
   rw[List.drop_zero,Int.toNat_of_nonneg h1]at rP
   exact rP
theorem vv(N:Nat)(hN:5000000≤N){t:Int}{w:List Int}(nk:t<9223372036854775808)(hw:zl w)(hl:w.length≤1000000):du N t w=some (jy t w):=by
 unfold du du.b jy
 rw[zo N (by omega),Option.bind_some]
 by_cases h1:t<0
 ·rw[decide_eq_true h1,Bool.true_or,cond_true,if_pos (.inl h1)]
 rw[decide_eq_false h1,Bool.false_or]
 cases h2:may w
 ·rw[Bool.not_false,cond_true,if_pos (.inr rfl)]
 rw[Bool.not_true,cond_false,if_neg (by simp[h1]),sL N (by omega) hw hl,Option.bind_some,oX,Option.bind_some]
 obtain⟨C8,hp⟩:=eC.1 h2
 have hS0:=dB hp
 have hj: ∀h: ¬9223372036854775808≤w.sum,du.j6 N t w (cc w.sum)=if w.sum=0 then some (List.replicate w.length 0,0)else some (aP t w,0):=fun h=>by
  unfold du.j6 du.Mk
  rw[nV,Option.bind_some,sY (by omega) (by omega),Bool.not_true,cond_false,bp (by omega) (by omega) (by omega),cond_true,cond_true,oX,Option.bind_some,Int.toNat_natCast]
  by_cases h4:w.sum=0
  ·rw[if_pos h4,h4,show rn 0=0 from rfl,ch rfl,cond_true]
  ·rw[if_neg h4,b9 (by unfold rn;repeat' split<;>omega),cond_false]
   have:=wK N hN (by omega) nk C8 hp (by omega) (by omega) w.length N 0 (List.replicate w.length 0) (List.replicate w.length 0) (by omega) (by omega) (by omega) (List.length_replicate ..) (List.length_replicate ..) rfl rfl
   rw[List.take_zero]at this
   simp only[ij,List.map_nil,List.sum_nil,Int.sub_zero]at this
   exact this
 by_cases h3:9223372036854775808≤w.sum
 ·rw[if_pos h3,b9 (by unfold rn;repeat' split<;>omega),cond_false]
  unfold du.j6 du.Mk
  rw[nV,Option.bind_some];unfold tT;rw[if_neg (by omega)];rfl
 rw[if_neg h3,hj h3]
 by_cases h4:w.sum=0
 ·rw[if_pos h4,if_pos h4,h4,show rn 0=0 from rfl,ch rfl,cond_true]
  by_cases h5:t=0
  ·rw[if_pos h5,ch h5,Bool.not_true,cond_false]
  ·rw[if_neg h5,b9 h5,Bool.not_false,cond_true]
 ·rw[if_neg h4,if_neg h4,b9 (by unfold rn;repeat' split<;>omega),cond_false]
def BI(t n:Int):List Int×Int:=if t<0∨n<1∨64<n then([],1)else jy t (List.replicate n.toNat 1)
theorem Om(n:Nat):zl (List.replicate n 1):=fun x hx=>by rw[List.eq_of_mem_replicate hx];omega
theorem BJ(N:Nat)(hN:5000000≤N){t:Int}{k:Nat}(hk:k≤64)(nk:t<9223372036854775808): ∀(m n i:Nat),k-i≤m→m<n→i≤k→
  mL.l5 N n t (k:Int) (List.replicate i 1++List.replicate (k-i) 0) (i:Int)=some (jy t (List.replicate k 1))
 |m,0,i,_,hn,_=>by omega
 |m,n+1,i,hm,hn,hi=>by
  unfold mL.l5 mL.dp
  by_cases h:i<k
  ·rw[aD (by omega),cond_true,aF (by omega) (by simp;omega),cond_true,an (by omega) (by omega)]
   refine Eq.trans ?_ (BJ N hN hk nk (m-1) n (i+1) (by omega) (by omega) (by omega))
   congr 1
   rw[Int.toNat_natCast,List.set_append_right _ _ (by simp),List.length_replicate,Nat.sub_self,show k-i=(k-(i+1))+1 by omega,List.replicate_succ,List.set_cons_zero,List.replicate_succ',List.append_assoc]
   rfl
  ·rw[ax (by omega),cond_false,show k-i=0 by omega,List.replicate_zero,List.append_nil,show i=k by omega,vv N hN nk (Om _) (by rw[List.length_replicate];omega)]
   rfl
theorem On(N:Nat)(hN:5000000≤N){t n:Int}(nk:t<9223372036854775808):mL N t n=some (BI t n):=by
 unfold mL mL.b BI
 by_cases h1:t<0
 ·rw[aD h1,cond_true,if_pos (.inl h1)]
 by_cases h2:n<1
 ·rw[ax (by omega),cond_false,aD h2,cond_true,if_pos (.inr (.inl h2))]
 by_cases h3:64<n
 ·rw[ax (by omega),cond_false,ax (by omega),cond_false,aD h3,cond_true,if_pos (.inr (.inr h3))]
 rw[ax (by omega),cond_false,ax (by omega),cond_false,ax (by omega),cond_false,if_neg (by omega),bp (by omega) (by omega) (by omega),cond_true]
 have:=BJ N hN (t:=t) (k:=n.toNat) (by omega) nk n.toNat N 0 (by omega) (by omega) (by omega)
 rw[List.replicate_zero,List.nil_append,Nat.sub_zero,Int.toNat_of_nonneg (by omega)]at this
 exact this
end VM
end
section
namespace VM
open Go VM.F
def zt(n:Nat)(f:Nat→Int):List Int:=(List.range n).map f
theorem dZ(n:Nat)(f:Nat→Int):(zt n f).length=n:=by unfold zt;rw[List.length_map,List.length_range]
theorem dE{n:Nat}{f:Nat→Int}{i:Nat}(h:i<n):(zt n f).getD i 0=f i:=by
 unfold zt
 rw[List.getD_eq_getElem?_getD,List.getElem?_map,List.getElem?_range h];rfl
theorem C9(n:Nat)(f:Nat→Int)(i:Nat):(zt n f).getD i 0=if i<n then f i else 0:=by
 by_cases h:i<n
 ·rw[if_pos h,dE h]
 ·rw[if_neg h,oY _ (by rw[dZ];omega)]
theorem Ry{n:Nat}{f:Nat→Int}(h: ∀i,i<n→0≤f i):Pos (zt n f):=fun x hx=>by
 obtain⟨i,hi,rfl⟩:=List.mem_map.1 hx
 exact h i (List.mem_range.1 hi)
theorem kL{l:List Int}(h: ∀i,i<l.length→0≤l.getD i 0):Pos l:=fun x hx=>by
 obtain⟨i,hi,rfl⟩:=List.mem_iff_getElem.1 hx
 have:=h i hi
 rwa [List.getD_eq_getElem?_getD,List.getElem?_eq_getElem hi]at this
theorem rG: ∀{a b:List Int},a.length=b.length→(∀i,i<a.length→a.getD i 0≤b.getD i 0)→a.sum≤b.sum
 |[],[],_,_=>Int.le_refl _
 |[],_::_,h,_=>nomatch h
 |_::_,[],h,_=>nomatch h
 |x::a,y::b,h,h1=>by
  have:=rG (a:=a) (b:=b) (by simpa using h) (fun i hi=>by have:=h1 (i+1) (by simpa using hi);simpa using this)
  have h2:x≤y:=by have:=h1 0 (by simp);simpa using this
  rw[List.sum_cons,List.sum_cons];omega
theorem zu: ∀{a b c:List Int},a.length=b.length→a.length=c.length→(∀i,i<a.length→a.getD i 0=b.getD i 0+c.getD i 0)→a.sum=b.sum+c.sum
 |[],[],[],_,_,_=>rfl
 |[],_::_,_,h,_,_=>nomatch h
 |[],[],_::_,_,h,_=>nomatch h
 |_::_,[],_,h,_,_=>nomatch h
 |_::_,_::_,[],_,h,_=>nomatch h
 |x::a,y::b,z::c,h,h',h1=>by
  have:=zu (a:=a) (b:=b) (c:=c) (by simpa using h) (by simpa using h') (fun i hi=>by have:=h1 (i+1) (by simpa using hi);simpa using this)
  have h2:x=y+z:=by have:=h1 0 (by simp);simpa using this
  rw[List.sum_cons,List.sum_cons,List.sum_cons];omega
theorem qQ: ∀{a:List Int},(∀i,i<a.length→a.getD i 0=0)→a.sum=0
 |[],_=>rfl
 |x::a,h=>by
  have:=qQ (a:=a) (fun i hi=>by have:=h (i+1) (by simpa using hi);simpa using this)
  have h2:x=0:=by have:=h 0 (by simp);simpa using this
  rw[List.sum_cons];omega
def a7(w caps out:List Int):List Int:=zt w.length fun i=>if out.getD i 0<caps.getD i 0 then w.getD i 0 else 0
def cF(parts caps out:List Int):List Int:=zt out.length fun i=>min (parts.getD i 0) (caps.getD i 0-out.getD i 0)
def pk(out g:List Int):List Int:=zt out.length fun i=>out.getD i 0+g.getD i 0
def ka(w caps:List Int):Nat→List Int→Int→List Int×Int
 |0,out,left=>(out,left)
 |f+1,out,left=>if left=0∨(a7 w caps out).sum=0 then(out,left)else
  ka w caps f (pk out (cF (aP left (a7 w caps out)) caps out)) (left-(cF (aP left (a7 w caps out)) caps out).sum)
structure Fu(t:Int)(w caps out:List Int)(left:Int):Prop where
 n:w.length≤64
 l1:caps.length=w.length
 l2:out.length=w.length
 pw:Pos w
 sw:w.sum<9223372036854775808
 pc: ∀i,0≤caps.getD i 0∧caps.getD i 0<9223372036854775808
 po: ∀i,0≤out.getD i 0
 le: ∀i,i<w.length→out.getD i 0≤caps.getD i 0
 z: ∀i,w.getD i 0=0→out.getD i 0=0
 l:0≤left
 t1:t<9223372036854775808
 s:out.sum+left=t
theorem cK(w caps out:List Int):(a7 w caps out).length=w.length:=dZ ..
theorem jz{w caps out:List Int}(h:Pos w):Pos (a7 w caps out):=Ry (fun i _=>by split;exact dI h i;omega)
theorem zv{w caps out:List Int}(h:Pos w):(a7 w caps out).sum≤w.sum:=rG (cK ..) (fun i hi=>by
 rw[cK]at hi
 unfold a7;rw[dE hi];split
 ·omega
 ·exact dI h i)
theorem Fv{t left:Int}{w caps out:List Int}(c:Fu t w caps out left):zl (a7 w caps out):=fun x hx=>by
 have h1:=jz (caps:=caps) (out:=out) c.pw
 have h2:=zv (caps:=caps) (out:=out) c.pw
 have h3:=h1 x hx
 obtain⟨i,hi,rfl⟩:=List.mem_iff_getElem.1 hx
 have h4:=nX h1 i
 rw[List.getD_eq_getElem?_getD,List.getElem?_eq_getElem hi]at h4
 simp only[Option.getD_some]at h4
 have:=c.sw
 omega
theorem uE{t left:Int}{w caps out:List Int}(c:Fu t w caps out left):left≤t:=by
 have:=dB (q:=out) (kL (fun i _=>c.po i));have:=c.s;omega
theorem iw{t left:Int}{w caps out:List Int}(c:Fu t w caps out left)(hS:0<(a7 w caps out).sum)(i:Nat):
  0≤(cF (aP left (a7 w caps out)) caps out).getD i 0∧(cF (aP left (a7 w caps out)) caps out).getD i 0≤(aP left (a7 w caps out)).getD i 0∧(i<w.length→out.getD i 0+(cF (aP left (a7 w caps out)) caps out).getD i 0≤caps.getD i 0):=by
 have h0:=dI (pj c.l hS (jz c.pw)) i
 unfold cF
 rw[C9]
 have:=c.l2
 by_cases h:i<out.length
 ·rw[if_pos h]
  have:=c.le i (by omega)
  omega
 ·rw[if_neg h];exact⟨by omega,h0,fun h=>by omega⟩
theorem mM(parts caps out:List Int):(cF parts caps out).length=out.length:=dZ ..
theorem uF{t left:Int}{w caps out:List Int}(c:Fu t w caps out left)(hS:0<(a7 w caps out).sum):0≤(cF (aP left (a7 w caps out)) caps out).sum∧(cF (aP left (a7 w caps out)) caps out).sum≤left:=by
 constructor
 ·exact dB (kL (fun i _=>(iw c hS i).1))
 ·have:=rG (a:=cF (aP left (a7 w caps out)) caps out) (b:=aP left (a7 w caps out)) (by rw[mM,fp,cK,c.l2]) (fun i _=>(iw c hS i).2.1)
  rwa [ph c.l hS]at this
theorem zw{t left:Int}{w caps out:List Int}(c:Fu t w caps out left)(hS:0<(a7 w caps out).sum):Fu t w caps (pk out (cF (aP left (a7 w caps out)) caps out)) (left-(cF (aP left (a7 w caps out)) caps out).sum):=by
 have ly: ∀i,(pk out (cF (aP left (a7 w caps out)) caps out)).getD i 0=if i<out.length then out.getD i 0+(cF (aP left (a7 w caps out)) caps out).getD i 0 else 0:=fun i=>by unfold pk;rw[C9]
 have gs:=uF c hS
 refine⟨c.n,c.l1,?_,c.pw,c.sw,c.pc,fun i=> ?_,fun i hi=> ?_,fun i hi=> ?_,by omega,c.t1,?_⟩
 ·unfold pk;rw[dZ,c.l2]
 ·rw[ly];have:=(iw c hS i).1;have:=c.po i;split<;>omega
 ·rw[ly,if_pos (by rw[c.l2];exact hi)];exact(iw c hS i).2.2 hi
 ·rw[ly]
  split
  ·have h1:(a7 w caps out).getD i 0=0:=by unfold a7;rw[C9,hi];split<;>(try split)<;>rfl
   have h2:=wJ c.l hS h1
   have h3:=iw c hS i
   rw[c.z i hi];omega
  ·rfl
 ·have:=zu (a:=pk out (cF (aP left (a7 w caps out)) caps out)) (b:=out) (c:=cF (aP left (a7 w caps out)) caps out) (by unfold pk;rw[dZ]) (by unfold pk;rw[dZ,mM]) (fun i hi=>by
   unfold pk at hi;rw[dZ]at hi;rw[ly,if_pos hi])
  have:=c.s
  omega
def opens(w caps out:List Int):Nat:=(List.range w.length).countP fun i=>decide (0<w.getD i 0∧out.getD i 0<caps.getD i 0)
theorem BK{p q:Nat→Bool}: ∀{l:List Nat},(∀x∈l,q x=true→p x=true)→(∃x∈l,p x=true∧q x=false)→l.countP q<l.countP p
 |[],_,⟨x,hx,_⟩=>nomatch hx
 |y::l,h,⟨x,hx,h1,h2⟩=>by
  have hle:l.countP q≤l.countP p:=List.countP_mono_left (fun z hz=>h z (List.mem_cons_of_mem _ hz))
  rw[List.countP_cons,List.countP_cons]
  rcases List.mem_cons.1 hx with rfl|hx
  ·rw[h1,h2];simp;omega
  ·have:=BK (p:=p) (q:=q) (l:=l) (fun z hz=>h z (List.mem_cons_of_mem _ hz)) ⟨x,hx,h1,h2⟩
   have h3:=h y (List.mem_cons_self ..)
   cases hq:q y<;>cases hp:p y<;>simp<;>try omega
   rw[hq,hp]at h3;simp at h3
theorem BL{w caps out:List Int}(hw:Pos w)(h:(a7 w caps out).sum=0): ∀i,i<w.length→ ¬(0<w.getD i 0∧out.getD i 0<caps.getD i 0):=fun i hi ⟨h1,h2⟩=>by
 have:=nX (jz (caps:=caps) (out:=out) hw) i
 unfold a7 at this h
 rw[dE hi,if_pos h2,h]at this
 omega
theorem Da{w caps out:List Int}(hw:Pos w)(h:(a7 w caps out).sum≠0): ∃i,i<w.length∧0<w.getD i 0∧out.getD i 0<caps.getD i 0:=by
 by_cases hx: ∃i,i<w.length∧0<w.getD i 0∧out.getD i 0<caps.getD i 0
 ·exact hx
 ·refine absurd (qQ (fun i hi=> ?_)) h
  rw[cK]at hi
  unfold a7
  rw[dE hi]
  split
  ·rename_i h1
   have:=dI hw i
   by_cases h2:0<w.getD i 0
   ·exact absurd ⟨i,hi,h2,h1⟩ hx
   ·omega
  ·rfl
theorem BM{t left:Int}{w caps out:List Int}(c:Fu t w caps out left)(hS:0<(a7 w caps out).sum)(hl:left-(cF (aP left (a7 w caps out)) caps out).sum≠0):opens w caps (pk out (cF (aP left (a7 w caps out)) caps out))<opens w caps out:=by
 have ly: ∀i,i<w.length→(pk out (cF (aP left (a7 w caps out)) caps out)).getD i 0=out.getD i 0+(cF (aP left (a7 w caps out)) caps out).getD i 0:=fun i hi=>by unfold pk;rw[dE (by rw[c.l2];exact hi)]
 refine BK (fun i hi h=> ?_) ?_
 ·rw[List.mem_range]at hi
  rw[decide_eq_true_iff,ly i hi]at h
  rw[decide_eq_true_iff]
  have:=(iw c hS i).1
  omega
 ·by_cases hx: ∃i,i<w.length∧(0<w.getD i 0∧out.getD i 0<caps.getD i 0)∧caps.getD i 0≤out.getD i 0+(cF (aP left (a7 w caps out)) caps out).getD i 0
  ·obtain⟨i,h1,h2,h3⟩:=hx
   refine⟨i,List.mem_range.2 h1,decide_eq_true h2,decide_eq_false ?_⟩
   rw[ly i h1];omega
  ·exfalso
   have h1:aP left (a7 w caps out)=cF (aP left (a7 w caps out)) caps out:=by
    refine kK (by rw[mM,fp,cK,c.l2]) (fun i hi=> ?_)
    rw[fp,cK]at hi
    have h2:=iw c hS i
    have h3:=dI (pj c.l hS (jz (caps:=caps) (out:=out) c.pw)) i
    by_cases h4:0<w.getD i 0∧out.getD i 0<caps.getD i 0
    ·have h5: ¬caps.getD i 0≤out.getD i 0+(cF (aP left (a7 w caps out)) caps out).getD i 0:=fun h=>hx ⟨i,hi,h4,h⟩
     have h6:(cF (aP left (a7 w caps out)) caps out).getD i 0=min ((aP left (a7 w caps out)).getD i 0) (caps.getD i 0-out.getD i 0):=dE (by rw[c.l2];exact hi)
     omega
    ·have h7:(a7 w caps out).getD i 0=0:=by
      unfold a7;rw[dE hi]
      have:=dI c.pw i
      split<;>omega
     have:=wJ c.l hS h7
     omega
   rw[←h1,ph c.l hS]at hl
   omega
theorem Fw(w caps out:List Int):opens w caps out≤w.length:=by
 unfold opens
 have:=List.countP_le_length (p:=fun i=>decide (0<w.getD i 0∧out.getD i 0<caps.getD i 0)) (l:=List.range w.length)
 rwa [List.length_range]at this
structure Full(t:Int)(w caps out:List Int)(left:Int):Prop where
 c:Fu t w caps out left
 f:left=0∨ ∀i,i<w.length→ ¬(0<w.getD i 0∧out.getD i 0<caps.getD i 0)
theorem Fy{t:Int}{w caps:List Int}: ∀(f:Nat) (out:List Int) (left:Int),Fu t w caps out left→(opens w caps out<f∨left=0)→Full t w caps (ka w caps f out left).1 (ka w caps f out left).2
 |0,out,left,c,h=>⟨c,.inl (show left=0 by omega)⟩
 |f+1,out,left,c,h=>by
  unfold ka
  have hS:=dB (jz (caps:=caps) (out:=out) c.pw)
  split
  ·rename_i h1
   exact⟨c,h1.imp id (BL c.pw)⟩
  ·rename_i h1
   refine Fy f _ _ (zw c (by omega)) ?_
   by_cases h2:left-(cF (aP left (a7 w caps out)) caps out).sum=0
   ·exact .inr h2
   ·have:=BM c (by omega) h2
    exact .inl (by omega)
def uG(out g:List Int)(i:Nat):List Int:=zt out.length fun j=>if j<i then out.getD j 0+g.getD j 0 else out.getD j 0
theorem mid_zero(out g:List Int):uG out g 0=out:=kK (dZ ..) (fun i hi=>by unfold uG at*;rw[dZ]at hi;rw[dE hi,if_neg (by omega)])
theorem Kd(out g:List Int){n:Nat}(h:out.length≤n):uG out g n=pk out g:=kK (by unfold uG pk;rw[dZ,dZ]) (fun i hi=>by unfold uG pk at*;rw[dZ]at hi;rw[dE hi,dE hi,if_pos (by omega)])
theorem rH(out g:List Int)(i:Nat):(uG out g i).length=out.length:=dZ ..
theorem Oo{out g:List Int}{i:Nat}(h:i<out.length):(uG out g i).getD i 0=out.getD i 0:=by unfold uG;rw[dE h,if_neg (by omega)]
theorem Ke{out g:List Int}{i:Nat}(h:i<out.length):(uG out g i).set i (out.getD i 0+g.getD i 0)=uG out g (i+1):=kK (by rw[List.length_set,rH,rH]) (fun j hj=>by
 rw[List.length_set,rH]at hj
 by_cases sG:i=j
 ·subst sG
  rw[gg _ _ (by rw[rH];exact h)];unfold uG;rw[dE h,if_pos (by omega)]
 ·rw[getD_set_ne _ _ sG];unfold uG;rw[dE hj,dE hj]
  by_cases h1:j<i
  ·rw[if_pos h1,if_pos (by omega)]
  ·rw[if_neg h1,if_neg (by omega)])
def mN(s:List Int)(i:Nat):List Int:=zt s.length fun j=>if j<i then s.getD j 0 else 0
theorem BN(s:List Int):mN s 0=List.replicate s.length 0:=kK (by unfold mN;rw[dZ,List.length_replicate]) (fun i hi=>by
 unfold mN at*;rw[dZ]at hi;rw[dE hi,if_neg (by omega),List.getD_eq_getElem?_getD,List.getElem?_replicate,if_pos hi];rfl)
theorem FA(s:List Int):mN s s.length=s:=kK (dZ ..) (fun i hi=>by unfold mN at*;rw[dZ]at hi;rw[dE hi,if_pos hi])
theorem jA(s:List Int)(i:Nat):(mN s i).length=s.length:=dZ ..
theorem FB{s:List Int}{i:Nat}(h:i<s.length):(mN s i).set i (s.getD i 0)=mN s (i+1):=kK (by rw[List.length_set,jA,jA]) (fun j hj=>by
 rw[List.length_set,jA]at hj
 by_cases sG:i=j
 ·subst sG
  rw[gg _ _ (by rw[jA];exact h)];unfold mN;rw[dE h,if_pos (by omega)]
 ·rw[getD_set_ne _ _ sG];unfold mN;rw[dE hj,dE hj]
  by_cases h1:j<i
  ·rw[if_pos h1,if_pos (by omega)]
  ·rw[if_neg h1,if_neg (by omega)])
theorem vw{s:List Int}{i:Nat}(h:s.getD i 0=0):mN s i=mN s (i+1):=kK (by rw[jA,jA]) (fun j hj=>by
 rw[jA]at hj
 unfold mN;rw[dE hj,dE hj]
 by_cases h1:j<i
 ·rw[if_pos h1,if_pos (by omega)]
 ·rw[if_neg h1]
  by_cases h2:j=i
  ·subst h2;rw[if_pos (by omega),h]
  ·rw[if_neg (by omega)])
theorem Oq(x y:Int):mn x y=min x y:=by rw[Wr];split<;>omega
theorem BO{t left:Int}{w caps out:List Int}(c:Fu t w caps out left)(hS:0<(a7 w caps out).sum)(i:Nat):0≤((cF (aP left (a7 w caps out)) caps out).take i).sum∧((cF (aP left (a7 w caps out)) caps out).take i).sum≤left:=by
 have h:=kL (l:=cF (aP left (a7 w caps out)) caps out) (fun i _=>(iw c hS i).1)
 have:=qP h i
 have:=uF c hS
 exact⟨dB (zp h i),by omega⟩
theorem BP(N:Nat)(K:List Int→List Int→List Int→Int→Option (List Int×Int×Int)){t left:Int}{w caps out:List Int}(c:Fu t w caps out left)(hS:0<(a7 w caps out).sum): ∀(m n i:Nat),w.length-i≤m→m<n→i≤w.length→
  jB.xr N K n w caps (uG out (cF (aP left (a7 w caps out)) caps out) i) (left-((cF (aP left (a7 w caps out)) caps out).take i).sum) (aP left (a7 w caps out)) ((aP left (a7 w caps out)).length:Int) (i:Int)=
  K w caps (pk out (cF (aP left (a7 w caps out)) caps out)) (left-(cF (aP left (a7 w caps out)) caps out).sum)
 |m,0,i,_,hn,_=>by omega
 |m,n+1,i,hm,hn,hi=>by
  have n64:=c.n
  have e1:=c.l1
  have e2:=c.l2
  unfold jB.xr jB.uH
  by_cases h:i<w.length
  ·have hc:=c.pc i
   have ho:=c.po i
   have hle:=c.le i h
   have hg:=iw c hS i
   have h6:(cF (aP left (a7 w caps out)) caps out).getD i 0=min ((aP left (a7 w caps out)).getD i 0) (caps.getD i 0-out.getD i 0):=dE (by rw[c.l2];exact h)
   have ht:=BO c hS i
   have hl:=uE c
   have nk:=c.t1
   have hgl:(cF (aP left (a7 w caps out)) caps out).getD i 0≤left:=by
    have:=nX (kL (l:=cF (aP left (a7 w caps out)) caps out) (fun i _=>(iw c hS i).1)) i
    have:=uF c hS
    omega
   dsimp only
   rw[aD (by rw[fp,cK];omega),cond_true,aF (by omega) (by rw[fp,cK];omega),cond_true,aF (by omega) (by omega),cond_true,aF (by omega) (by rw[rH];omega),cond_true,cond_true,Int.toNat_natCast,Oo (by omega),an (x:=caps.getD i 0-out.getD i 0) (by omega) (by omega),Oq,←h6,
    an (x:=(i:Int)+1) (by omega) (by omega),an (x:=out.getD i 0+_) (by omega) (by omega),an (by omega) (by omega),Ke (by omega)]
   have:=BP N K c hS (m-1) n (i+1) (by omega) (by omega) (by omega)
   rw[dN _ (by rw[mM];omega),←Int.sub_sub]at this
   exact this
  ·rw[ax (by rw[fp,cK];omega),cond_false,Kd _ _ (by omega),List.take_of_length_le (by rw[mM];omega)]
theorem zx(N:Nat)(K:List Int→List Int→List Int→Int→Int→Option (List Int×Int×Int)){t left:Int}{w caps out:List Int}(c:Fu t w caps out left)(hS:0<(a7 w caps out).sum)(rd:Int): ∀(m n i:Nat),w.length-i≤m→m<n→i≤w.length→
  c0.Lr N K n w caps (uG out (cF (aP left (a7 w caps out)) caps out) i) (left-((cF (aP left (a7 w caps out)) caps out).take i).sum) rd (aP left (a7 w caps out)) (i:Int)=
  K w caps (pk out (cF (aP left (a7 w caps out)) caps out)) (left-(cF (aP left (a7 w caps out)) caps out).sum) (W .i64 (rd+1))
 |m,0,i,_,hn,_=>by omega
 |m,n+1,i,hm,hn,hi=>by
  have n64:=c.n
  have e1:=c.l1
  have e2:=c.l2
  unfold c0.Lr c0.It
  by_cases h:i<w.length
  ·have hc:=c.pc i
   have ho:=c.po i
   have hle:=c.le i h
   have hg:=iw c hS i
   have h6:(cF (aP left (a7 w caps out)) caps out).getD i 0=min ((aP left (a7 w caps out)).getD i 0) (caps.getD i 0-out.getD i 0):=dE (by rw[c.l2];exact h)
   have ht:=BO c hS i
   have hl:=uE c
   have nk:=c.t1
   have hgl:(cF (aP left (a7 w caps out)) caps out).getD i 0≤left:=by
    have:=nX (kL (l:=cF (aP left (a7 w caps out)) caps out) (fun i _=>(iw c hS i).1)) i
    have:=uF c hS
    omega
   dsimp only
   rw[aD (by omega),cond_true,aF (by omega) (by rw[fp,cK];omega),cond_true,aF (by omega) (by omega),cond_true,aF (by omega) (by rw[rH];omega),cond_true,cond_true,Int.toNat_natCast,Oo (by omega),an (x:=caps.getD i 0-out.getD i 0) (by omega) (by omega),Oq,←h6,
    an (x:=(i:Int)+1) (by omega) (by omega),an (x:=out.getD i 0+_) (by omega) (by omega),an (x:=left-_-_) (by omega) (by omega),Ke (by omega)]
   have:=zx N K c hS rd (m-1) n (i+1) (by omega) (by omega) (by omega)
   rw[dN _ (by rw[mM];omega),←Int.sub_sub]at this
   exact this
  ·rw[ax (by omega),cond_false,Kd _ _ (by omega),List.take_of_length_le (by rw[mM];omega)]
theorem vx(N:Nat)(hN:5000000≤N)(K:List Int→List Int→List Int→Int→Option (List Int×Int×Int)){t left:Int}{w caps out:List Int}(c:Fu t w caps out left)(hl:0<left): ∀(m n i:Nat),w.length-i≤m→m<n→i≤w.length→
  jB.l10 N K n w caps out left (mN (a7 w caps out) i) (w.length:Int) (i:Int)=
  if(a7 w caps out).sum=0 then some (out,left,0)else K w caps (pk out (cF (aP left (a7 w caps out)) caps out)) (left-(cF (aP left (a7 w caps out)) caps out).sum)
 |m,0,i,_,hn,_=>by omega
 |m,n+1,i,hm,hn,hi=>by
  have n64:=c.n
  have e1:=c.l1
  have e2:=c.l2
  unfold jB.l10 jB.YU
  by_cases h:i<w.length
  ·have h1:(a7 w caps out).getD i 0=if out.getD i 0<caps.getD i 0 then w.getD i 0 else 0:=dE h
   rw[aD (by omega),cond_true,aF (by omega) (by omega),cond_true,aF (by omega) (by omega),cond_true,Int.toNat_natCast]
   by_cases h2:out.getD i 0<caps.getD i 0
   ·rw[if_pos h2]at h1
    rw[aD h2,cond_true,aF (by omega) (by omega),cond_true,aF (by omega) (by rw[jA,cK];omega),cond_true,an (by omega) (by omega),←h1,FB (by rw[cK];exact h)]
    exact vx N hN K c hl (m-1) n (i+1) (by omega) (by omega) (by omega)
   ·rw[if_neg h2]at h1
    rw[ax (by omega),cond_false,an (by omega) (by omega),vw h1]
    exact vx N hN K c hl (m-1) n (i+1) (by omega) (by omega) (by omega)
  ·have YB:=uE c
   have nk:=c.t1
   have iA:i=(a7 w caps out).length:=by rw[cK];omega
   have hp:=jz (caps:=caps) (out:=out) c.pw
   have hs:=zv (caps:=caps) (out:=out) c.pw
   have hs0:=dB hp
   have hsw:=c.sw
   have hm:may (a7 w caps out)=true:=eC.2 ⟨by rw[cK];omega,hp⟩
   rw[ax (by omega),cond_false,iA,FA,Ol N (by omega) (by omega) (Fv c) (by rw[cK];omega),Option.bind_some]
   unfold jy
   rw[if_neg (by rw[hm];simp;omega),if_neg (by omega)]
   by_cases h3:(a7 w caps out).sum=0
   ·rw[if_pos h3,if_pos h3,if_neg (by omega),b9 (show(1:Int)≠0 by omega),Bool.not_false,cond_true]
   ·rw[if_neg h3,if_neg h3,ch (show(0:Int)=0 by rfl),Bool.not_true,cond_false]
    have:=BP N K c (by omega) w.length N 0 (by omega) (by omega) (by omega)
    rw[mid_zero,List.take_zero,List.sum_nil,Int.sub_zero]at this
    exact this
def FC(w caps out:List Int)(i:Nat):Prop:= ∃j,j<i∧0<w.getD j 0∧out.getD j 0<caps.getD j 0
theorem pn(N:Nat)(hN:5000000≤N)(K:List Int→List Int→List Int→Int→Int→Option (List Int×Int×Int)){t left:Int}{w caps out:List Int}(c:Fu t w caps out left)(rd:Int): ∀(m n i:Nat) (b:Bool),w.length-i≤m→m<n→i≤w.length→(b=true↔FC w caps out i)→
  c0.nh N K n w caps out left rd (mN (a7 w caps out) i) b (i:Int)=
  if left=0∨(a7 w caps out).sum=0 then some (out,left,0)else K w caps (pk out (cF (aP left (a7 w caps out)) caps out)) (left-(cF (aP left (a7 w caps out)) caps out).sum) (W .i64 (rd+1))
 |m,0,i,b,_,hn,_,_=>by omega
 |m,n+1,i,b,hm,hn,hi,hb=>by
  have n64:=c.n
  have e1:=c.l1
  have e2:=c.l2
  unfold c0.nh c0.lF
  by_cases h:i<w.length
  ·have h1:(a7 w caps out).getD i 0=if out.getD i 0<caps.getD i 0 then w.getD i 0 else 0:=dE h
   have hw:=dI c.pw i
   have nH: ¬(0<w.getD i 0∧out.getD i 0<caps.getD i 0)→(b=true↔FC w caps out (i+1)):=fun pZ=>hb.trans ⟨fun⟨j,hj,h2⟩=>⟨j,by omega,h2⟩,fun⟨j,hj,h2⟩=>⟨j,by
    by_cases sG:j=i
    ·subst sG;exact absurd h2 pZ
    ·omega,h2⟩⟩
   rw[aD (by omega),cond_true,aF (by omega) (by omega),cond_true,Int.toNat_natCast]
   by_cases h0:0<w.getD i 0
   ·rw[aD h0,cond_true,aF (by omega) (by omega),cond_true,aF (by omega) (by omega),cond_true]
    by_cases h2:out.getD i 0<caps.getD i 0
    ·rw[if_pos h2]at h1
     rw[aD h2,cond_true,cond_true,aF (by omega) (by rw[jA,cK];omega),cond_true,an (by omega) (by omega),←h1,FB (by rw[cK];exact h)]
     exact pn N hN K c rd (m-1) n (i+1) true (by omega) (by omega) (by omega) ⟨fun _=>⟨i,by omega,h0,h2⟩,fun _=>rfl⟩
    ·rw[if_neg h2]at h1
     rw[ax (by omega),cond_false,an (by omega) (by omega),vw h1]
     exact pn N hN K c rd (m-1) n (i+1) b (by omega) (by omega) (by omega) (nH (fun h=>h2 h.2))
   ·have h3:(a7 w caps out).getD i 0=0:=by rw[h1];split<;>omega
    rw[ax (by omega),cond_false,an (by omega) (by omega),vw h3]
    exact pn N hN K c rd (m-1) n (i+1) b (by omega) (by omega) (by omega) (nH (fun h=>h0 h.1))
  ·have YB:=uE c
   have nk:=c.t1
   have hl0:=c.l
   have iA:i=(a7 w caps out).length:=by rw[cK];omega
   have hp:=jz (caps:=caps) (out:=out) c.pw
   have hs:=zv (caps:=caps) (out:=out) c.pw
   have hs0:=dB hp
   have hsw:=c.sw
   have hm:may (a7 w caps out)=true:=eC.2 ⟨by rw[cK];omega,hp⟩
   rw[ax (by omega),cond_false]
   by_cases h4:left=0
   ·rw[ch h4,cond_true,if_pos (.inl h4)]
   rw[b9 h4,cond_false]
   by_cases h3:(a7 w caps out).sum=0
   ·have hbf:b=false:=by
     rw[Bool.eq_false_iff];intro ht
     obtain⟨j,hj,h5⟩:=hb.1 ht
     exact BL c.pw h3 j (by omega) h5
    rw[if_pos (.inr h3),hbf];rfl
   ·have hbt:b=true:=hb.2 (by
     obtain⟨j,hj,h5⟩:=Da c.pw h3
     exact⟨j,by omega,h5⟩)
    rw[hbt,Bool.not_true,cond_false,if_neg (by omega),iA,FA,vv N (by omega) (by omega) (Fv c) (by rw[cK];omega),Option.bind_some]
    unfold jy
    rw[if_neg (by rw[hm];simp;omega),if_neg (by omega),if_neg h3]
    have:=zx N K c (by omega) rd w.length N 0 (by omega) (by omega) (by omega)
    rw[mid_zero,List.take_zero,List.sum_nil,Int.sub_zero]at this
    exact this
theorem FD(N:Nat)(hN:5000000≤N){t:Int}{w caps:List Int}: ∀(f n:Nat) (out:List Int) (left:Int),Fu t w caps out left→(opens w caps out<f∨left=0)→f<n→
  jB.l7 N n w caps out left=some ((ka w caps f out left).1,(ka w caps f out left).2,0)
 |f,0,out,left,c,_,hn=>by omega
 |f,n+1,out,left,c,h,hn=>by
  have n64:=c.n
  have hl:=c.l
  unfold jB.l7 jB.lC
  by_cases h0:left=0
  ·rw[ax (by omega),cond_false]
   cases f with
   |zero=>rfl
   |succ f=>unfold ka;rw[if_pos (.inl h0)]
  ·rw[aD (by omega),cond_true,bp (by omega) (by omega) (by omega),cond_true,Int.toNat_natCast]
   have:=vx N hN (jB.l7 N n) c (by omega) w.length N 0 (by omega) (by omega) (by omega)
   rw[BN,cK]at this
   refine Eq.trans this ?_
   cases f with
   |zero=>omega
   |succ f=>
    have hS:=dB (jz (caps:=caps) (out:=out) c.pw)
    unfold ka
    by_cases h1:(a7 w caps out).sum=0
    ·rw[if_pos h1,if_pos (.inr h1)]
    ·rw[if_neg h1,if_neg (by omega)]
     refine FD N hN f n _ _ (zw c (by omega)) ?_ (by omega)
     by_cases h2:left-(cF (aP left (a7 w caps out)) caps out).sum=0
     ·exact .inr h2
     ·have:=BM c (by omega) h2
      exact .inl (by omega)
theorem BQ(N:Nat)(hN:5000000≤N){t:Int}{w caps:List Int}: ∀(f n:Nat) (out:List Int) (left:Int),Fu t w caps out left→f≤w.length+1→f<n→
  c0.l8 N n w caps out left ((w.length+1-f:Nat):Int)=some ((ka w caps f out left).1,(ka w caps f out left).2,0)
 |f,0,out,left,c,_,hn=>by omega
 |0,n+1,out,left,c,h,hn=>by
  unfold c0.l8 c0.xR
  rw[cn (by omega)];rfl
 |f+1,n+1,out,left,c,h,hn=>by
  have n64:=c.n
  have hl:=c.l
  unfold c0.l8 c0.xR
  rw[cv (by omega),cond_true,bp (by omega) (by omega) (by omega),cond_true,Int.toNat_natCast]
  have:=pn N hN (c0.l8 N n) c ((w.length+1-(f+1):Nat):Int) w.length N 0 false (by omega) (by omega) (by omega) ⟨(fun h=>nomatch h),fun⟨j,hj,_⟩=>by omega⟩
  rw[BN,cK]at this
  refine Eq.trans this ?_
  have hS:=dB (jz (caps:=caps) (out:=out) c.pw)
  unfold ka
  by_cases h1:left=0∨(a7 w caps out).sum=0
  ·rw[if_pos h1,if_pos h1]
  ·rw[if_neg h1,if_neg h1,an (by omega) (by omega),show(((w.length+1-(f+1):Nat):Int)+1)=((w.length+1-f:Nat):Int)by omega]
   exact BQ N hN f n _ _ (zw c (by omega)) (by omega) (by omega)
def kq(t:Int)(w caps:List Int):List Int×Int×Int:=
 if t<0∨may w=false∨caps.length≠w.length∨may caps=false then([],0,1)else if 9223372036854775808≤w.sum then([],0,2)
 else((ka w caps (w.length+1) (List.replicate w.length 0) t).1,(ka w caps (w.length+1) (List.replicate w.length 0) t).2,0)
theorem lJ(n i:Nat):(List.replicate n (0:Int)).getD i 0=0:=by
 rw[List.getD_eq_getElem?_getD,List.getElem?_replicate];split<;>rfl
theorem vy{t:Int}{w caps:List Int}(ht:0≤t)(nk:t<9223372036854775808)(hw:may w=true)(hc:may caps=true)(hl:caps.length=w.length)(hi:zl caps)(hs:w.sum<9223372036854775808):Fu t w caps (List.replicate w.length 0) t:=by
 obtain⟨h1,h2⟩:=eC.1 hw
 obtain⟨h3,h4⟩:=eC.1 hc
 refine⟨h1,hl,List.length_replicate ..,h2,hs,fun i=>⟨dI h4 i,(mD hi i).2⟩,fun i=>by rw[lJ];omega,fun i _=>by rw[lJ];exact dI h4 i,fun i _=>lJ ..,ht,nk,?_⟩
 rw[qQ (fun i _=>lJ ..)];omega
theorem LC(N:Nat)(hN:5000000≤N){t:Int}{w caps:List Int}(nk:t<9223372036854775808)(hw:zl w)(hc:zl caps)(hl:w.length≤1000000):jB N t w caps=some (kq t w caps):=by
 unfold jB jB.b kq
 by_cases h1:t<0
 ·rw[aD h1,cond_true,if_pos (.inl h1)]
 rw[ax (by omega),cond_false,ID N (by omega),Option.bind_some]
 cases h2:may w
 ·rw[Bool.not_false,cond_true,if_pos (.inr (.inl rfl))]
 rw[Bool.not_true,cond_false]
 by_cases h3:caps.length=w.length
 case neg=>rw[b9 (by omega),Bool.not_false,cond_true,if_pos (.inr (.inr (.inl h3)))]
 rw[ch (by omega),Bool.not_true,cond_false,ID N (by omega),Option.bind_some]
 cases h4:may caps
 ·rw[Bool.not_false,cond_true,if_pos (.inr (.inr (.inr rfl)))]
 have hp:=dB (eC.1 h2).2
 rw[Bool.not_true,cond_false,JT N hw hl (by omega),Option.bind_some,if_neg (by simp;omega)]
 by_cases h5:9223372036854775808≤w.sum
 ·rw[if_pos h5];unfold tT;rw[if_neg (by omega)];rfl
 rw[if_neg h5,sY (by omega) (by omega),Bool.not_true,cond_false,bp (by omega) (by omega) (by omega),cond_true,Int.toNat_natCast]
 have sl:=(eC.1 h2).1
 have:=Fw w caps (List.replicate w.length 0)
 exact FD N hN (w.length+1) N _ _ (vy (by omega) nk h2 h4 h3 hc (by omega)) (.inl (by omega)) (by omega)
theorem zy(N:Nat)(hN:5000000≤N){t:Int}{w caps:List Int}(nk:t<9223372036854775808)(hw:zl w)(hc:zl caps)(hl:w.length≤1000000):c0 N t w caps=some (kq t w caps):=by
 unfold c0 c0.b kq
 rw[zo N (by omega),Option.bind_some]
 by_cases h1:t<0
 ·rw[decide_eq_true h1,Bool.true_or,cond_true,if_pos (.inl h1)]
 rw[decide_eq_false h1,Bool.false_or]
 cases h2:may w
 ·rw[Bool.not_false,cond_true,if_pos (.inr (.inl rfl))]
 rw[Bool.not_true,cond_false]
 by_cases h3:caps.length=w.length
 case neg=>rw[b9 (by omega),Bool.not_false,cond_true,if_pos (.inr (.inr (.inl h3)))]
 rw[ch (by omega),Bool.not_true,cond_false,zo N (by omega),Option.bind_some]
 cases h4:may caps
 ·rw[if_pos (.inr (.inr (.inr rfl)))];rfl
 have hp:=dB (eC.1 h2).2
 rw[show(decide ((0:Int)<0)|| !true)=false from rfl,cond_false,sL N (by omega) hw hl,Option.bind_some,nV,Option.bind_some,if_neg (by simp;omega)]
 by_cases h5:9223372036854775808≤w.sum
 ·rw[if_pos h5];unfold tT;rw[if_neg (by omega)];rfl
 rw[if_neg h5,sY (by omega) (by omega),Bool.not_true,cond_false,bp (by omega) (by omega) (by omega),cond_true,Int.toNat_natCast]
 have sl:=(eC.1 h2).1
 have:=BQ N hN (w.length+1) N _ _ (vy (by omega) nk h2 h4 h3 hc (by omega)) (by omega) (by omega)
 rw[Nat.sub_self]at this
 exact this
end VM
end
section
namespace VM
open Go VM.F
theorem Rz(N:Nat){l:ah}(hl:l.length≤100000)(hN:200000≤N)(a b:Int):xt N l a b=some (dW l a b):=by
 unfold xt xt.b dW
 rw[tY N hl hN,Option.bind_some,cond_not]
 have:=tX l aR (fun n i=>xt.l4 N n a b l (l.length:Int) i) (fun t=>some (eU a b t)) (fun n i hi hr=> ?_) (fun n=> ?_) N (by omega)
 ·rw[this];cases cN l<;>rfl
 ·unfold xt.l4 xt.cj
  rw[aD (by omega),cond_true,aF (by omega) (by omega),cond_true,Int.toNat_natCast,an (x:=(i:Int)+1) (by omega) (by omega),aa i,hr,az,az,gH]
  split
  ·split<;>rfl
  ·rfl
 ·unfold xt.l4 xt.cj
  rw[ax (by omega),cond_false];rfl
theorem vz{a b:Int}: ∀{l:ah},ru (l.map keyOf)→eU a b l=bJ a b l
 |[],_=>rfl
 |x::t,h=>by
  obtain⟨h1,h2⟩:=List.pairwise_cons.1 h
  rw[gH,gj,←vz h2]
  by_cases e1:x.1=a
  ·by_cases e2:x.2.1=b
   ·have hz:bJ a b t=0:=iF fun y hy e=>by
     have hk:=h1 (keyOf y) (List.mem_map_of_mem hy)
     have he:keyOf y=keyOf x:=Prod.ext (e.1.trans e1.symm) (e.2.trans e2.symm)
     rw[he]at hk
     exact lG hk
    rw[if_pos e1,if_pos e2,if_pos ⟨e1,e2⟩,vz h2,hz,Int.add_zero];rfl
   ·rw[if_pos e1,if_neg e2,if_neg (fun h=>e2 h.2),Int.zero_add]
  ·rw[if_neg e1,if_neg (fun h=>e1 h.1),Int.zero_add]
def vA(x q:Int):Prop:= ¬((x<0)↔(q<0))
instance(x q:Int):Decidable (vA x q):=by unfold vA;infer_instance
def c9(a q:Int):ah→ah
 |[]=>[]
 |x::t=>if ¬eB x.1 0∧eB x.2.1 a∧vA (da x) q then x::c9 a q t else c9 a q t
theorem kb(a q:Int)(x:cE)(t:ah):c9 a q (x::t)=if ¬eB x.1 0∧eB x.2.1 a∧vA (da x) q then x::c9 a q t else c9 a q t:=rfl
def pM(l:ah):List Int:=l.map fun x=>x.1
def eK(l:ah):List Int:=l.map fun x=>((da x).natAbs:Int)
theorem rI{a q:Int}{x:cE}: ∀{l:ah},x∈c9 a q l→x∈l∧ ¬eB x.1 0∧eB x.2.1 a
 |[],h=>nomatch h
 |y::t,h=>by
  rw[kb]at h
  by_cases e: ¬eB y.1 0∧eB y.2.1 a∧vA (da y) q
  ·rw[if_pos e]at h
   rcases List.mem_cons.1 h with rfl|h
   ·exact⟨List.mem_cons_self ..,e.1,e.2.1⟩
   ·have:=rI h;exact⟨List.mem_cons_of_mem _ this.1,this.2⟩
  ·rw[if_neg e]at h
   have:=rI h;exact⟨List.mem_cons_of_mem _ this.1,this.2⟩
theorem BR(a q:Int): ∀l:ah,(c9 a q l).length≤l.length
 |[]=>Nat.le_refl _
 |x::t=>by
  have:=BR a q t
  rw[kb,List.length_cons]
  split
  ·rw[List.length_cons];omega
  ·omega
theorem FE{v q s h o:Int}{P Q R:Prop} [Decidable P] [Decidable Q] [Decidable R](hR:R↔ ¬((v<0)↔(q<0)))(hq:0<q)(hh:h-o≤s):
  (if P∧Q then v else 0)+h-((if ¬P∧Q∧R then(v.natAbs:Int)else 0)+o)≤(if Q then v else 0)+s:=by
 by_cases hQ:Q<;>by_cases hP:P<;>by_cases YV:R<;>simp only[hP,hQ,YV,and_self,and_true,and_false,false_and,true_and,not_true,not_false_iff,if_true,if_false]<;>(rw[iff_iff_implies_and_implies]at hR;first|omega|(have h2:=hR.1 YV;omega)|(have h2: ¬ ¬((v<0)↔(q<0)):=fun e=>YV (hR.2 e);omega))
theorem wL{a q:Int}(hq:0<q): ∀l:ah,bJ 0 a l-(eK (c9 a q l)).sum≤(cQ a l).sum
 |[]=>Int.le_refl _
 |x::t=>by
  have ih:=wL (a:=a) hq t
  have e1:bJ 0 a (x::t)=(if eB x.1 0∧eB x.2.1 a then da x else 0)+bJ 0 a t:=gj 0 a x t
  have e2:(eK (c9 a q (x::t))).sum=(if ¬eB x.1 0∧eB x.2.1 a∧vA (da x) q then((da x).natAbs:Int)else 0)+(eK (c9 a q t)).sum:=by
   rw[kb]
   split
   ·show(((da x).natAbs:Int)::eK (c9 a q t)).sum=_
    rw[List.sum_cons]
   ·omega
  have e3:(cQ a (x::t)).sum=(if eB x.2.1 a then da x else 0)+(cQ a t).sum:=by
   rw[dO]
   by_cases h:x.2.1=a
   ·rw[if_pos h,if_pos (show eB x.2.1 a from h),List.sum_cons]
   ·rw[if_neg h,if_neg (show ¬eB x.2.1 a from h)];omega
  rw[e1,e2,e3]
  exact FE Iff.rfl hq ih
theorem FF{v q s h o:Int}{P Q R:Prop} [Decidable P] [Decidable Q] [Decidable R](hR:R↔ ¬((v<0)↔(q<0)))(hq:q<0)(hh:s≤h+o):
  (if Q then v else 0)+s≤(if P∧Q then v else 0)+h+((if ¬P∧Q∧R then(v.natAbs:Int)else 0)+o):=by
 by_cases hQ:Q<;>by_cases hP:P<;>by_cases YV:R<;>simp only[hP,hQ,YV,and_self,and_true,and_false,false_and,true_and,not_true,not_false_iff,if_true,if_false]<;>(rw[iff_iff_implies_and_implies]at hR;first|omega|(have h2:=hR.1 YV;omega)|(have h2: ¬ ¬((v<0)↔(q<0)):=fun e=>YV (hR.2 e);omega))
theorem wM{a q:Int}(hq:q<0): ∀l:ah,(cQ a l).sum≤bJ 0 a l+(eK (c9 a q l)).sum
 |[]=>Int.le_refl _
 |x::t=>by
  have ih:=wM (a:=a) hq t
  have e1:bJ 0 a (x::t)=(if eB x.1 0∧eB x.2.1 a then da x else 0)+bJ 0 a t:=gj 0 a x t
  have e2:(eK (c9 a q (x::t))).sum=(if ¬eB x.1 0∧eB x.2.1 a∧vA (da x) q then((da x).natAbs:Int)else 0)+(eK (c9 a q t)).sum:=by
   rw[kb]
   split
   ·show(((da x).natAbs:Int)::eK (c9 a q t)).sum=_
    rw[List.sum_cons]
   ·omega
  have e3:(cQ a (x::t)).sum=(if eB x.2.1 a then da x else 0)+(cQ a t).sum:=by
   rw[dO]
   by_cases h:x.2.1=a
   ·rw[if_pos h,if_pos (show eB x.2.1 a from h),List.sum_cons]
   ·rw[if_neg h,if_neg (show ¬eB x.2.1 a from h)];omega
  rw[e1,e2,e3]
  exact FF Iff.rfl hq ih
theorem IF{a q:Int}{l:ah}(hs:ru (l.map keyOf))(hf:(cQ a l).sum=0)(hq:eU 0 a l=q)(h0:q≠0):(q.natAbs:Int)≤(eK (c9 a q l)).sum:=by
 rw[vz hs]at hq
 by_cases h:0<q
 ·have:=wL (a:=a) h l
  rw[hf,hq]at this;omega
 ·have:=wM (a:=a) (q:=q) (by omega) l
  rw[hf,hq]at this;omega
theorem Ot{t left:Int}{w out:List Int}(f:Full t w w out left)(h:t≤w.sum):left=0:=by
 have c:=f.c
 rcases f.f with e|e
 ·exact e
 ·have PS:w.sum≤out.sum:=rG (by rw[c.l2]) fun i hi=>by
   have h1:=e i hi
   have h2:=dI c.pw i
   have h3:=c.po i
   by_cases h4:0<w.getD i 0
   ·have: ¬out.getD i 0<w.getD i 0:=fun h5=>h1 ⟨h4,h5⟩
    omega
   ·omega
  have:=c.s
  have:=c.l
  omega
def sg(q x:Int):Int:=if q<0 then 0-x else x
def zc(a q:Int):List (Int×Int)→ah
 |[]=>[]
 |p::t=>if sg q p.1=0 then zc a q t else(p.2,(a,(sg q p.1,())))::zc a q t
theorem uI(a q:Int)(p:Int×Int)(t:List (Int×Int)):zc a q (p::t)=if sg q p.1=0 then zc a q t else(p.2,(a,(sg q p.1,())))::zc a q t:=rfl
def eP(l:ah)(a q:Int):List Int×Int×Int:=kq (q.natAbs:Int) (eK (c9 a q l)) (eK (c9 a q l))
def Ou(l:ah)(a q:Int):ah:=((0:Int),(a,((0-q:Int),())))::zc a q ((eP l a q).1.zip (pM (c9 a q l)))
def dk(c:ae)(b:ag)(a:Int):ah×Int:=
 if c8 c b then(if a<0 then([],3)else if(c.1.length:Int)≤a then([],3)else if dW b.2.2.2.1 0 a=0 then([],0)else
  if(eP b.2.2.2.1 a (dW b.2.2.2.1 0 a)).2.2=0 then(Ou b.2.2.2.1 a (dW b.2.2.2.1 0 a),0)else([],(eP b.2.2.2.1 a (dW b.2.2.2.1 0 a)).2.2))else([],1)
theorem zz{t:Int}{w caps:List Int}(nk:t<9223372036854775808)(hc:zl caps)(hx:(kq t w caps).2.2=0):Full t w caps (kq t w caps).1 (kq t w caps).2.1:=by
 unfold kq at*
 by_cases h1:t<0∨may w=false∨caps.length≠w.length∨may caps=false
 ·rw[if_pos h1]at hx;exact absurd hx (by decide)
 ·rw[if_neg h1]at hx ⊢
  by_cases h2:9223372036854775808≤w.sum
  ·rw[if_pos h2]at hx;exact absurd hx (by decide)
  ·rw[if_neg h2]
   have h3:may w=true:=by cases h:may w<;>simp_all
   have h4:may caps=true:=by cases h:may caps<;>simp_all
   have h5:caps.length=w.length:=Decidable.byContradiction fun h=>h1 (Or.inr (Or.inr (Or.inl h)))
   exact Fy _ _ _ (vy (by omega) nk h3 h4 h5 hc (by omega)) (Or.inl (by have:=Fw w caps (List.replicate w.length 0);omega))
theorem oA{l:ah}(h: ∀x∈l,aC (da x)∧n5 (da x))(a q:Int):zl (eK (c9 a q l)):=fun z hz=>by
 obtain⟨x,hx,rfl⟩:=List.mem_map.1 hz
 have:=h x (rI hx).1
 have g: ∀v:Int,aC v∧n5 v→ -9223372036854775808≤(v.natAbs:Int)∧(v.natAbs:Int)<9223372036854775808:=fun v hv=>by unfold aC n5 at hv;omega
 exact g _ this
theorem IG{out accs:List Int}{i:Nat}(h1:i<out.length)(h2:i<accs.length):(out.zip accs).getD i (0,0)=(out.getD i 0,accs.getD i 0):=by
 rw[List.getD_eq_getElem?_getD,List.getElem?_eq_getElem (by rw[List.length_zip];omega),List.getElem_zip,List.getD_eq_getElem?_getD,List.getElem?_eq_getElem h1,List.getD_eq_getElem?_getD,List.getElem?_eq_getElem h2];rfl
end VM
end
section
namespace VM
open Go VM.F
end VM
end
section
namespace VM
open Go VM.F
theorem Db{c:ae}{b:ag}(h:c8 c b=true): ∀x∈b.2.2.2.1,C2 x.2.1 c.1.length:=fun x hx=>by
 have hk:=(gG h).2
 have h0:=(gk hk).2 x hx
 unfold c8 at h
 simp only[Bool.and_eq_true]at h
 have h1:=of_decide_eq_true h.2.2.2.2.2.2.2.2.1
 obtain⟨i,hi,e⟩:=List.getElem_of_mem hx
 have h2:=h1 i hi
 unfold gE at h2
 rw[List.getD_eq_getElem?_getD,List.getElem?_eq_getElem hi]at h2
 simp only[Option.getD_some,e]at h2
 have g: ∀u v:Int,bI u v→NP v c.1.length→C2 v c.1.length:=fun u v h1 h2=>by unfold bI at h1;unfold NP at h2;unfold C2;omega
 exact g _ _ h0.1 h2.2
end VM
end
section
namespace VM
open Go VM.F
end VM
end
section
namespace VM
open Go VM.F
theorem wN{k:Int}: ∀{i:Nat} {l:aE},jx k i l≠[]→(i:Int)≤(jx k i l).getD 0 0∧(jx k i l).getD 0 0<((i+l.length:Nat):Int)
 |i,[],h=>absurd rfl h
 |i,y::t,h=>by
  rw[uz]at h ⊢
  by_cases e:y.1=k
  ·rw[if_pos e,List.length_cons]
   show(i:Int)≤(i:Int)∧(i:Int)<_
   omega
  ·rw[if_neg e]at h ⊢
   have:=wN h
   rw[List.length_cons];omega
def akf(c:ae):Int:=c.2.2.2.2.2.2.1
end VM
end
section
namespace VM
open Go VM.F
end VM
end
section
namespace VM
open Go VM.F
end VM
end
section
namespace VM
open Go VM.F
def zIn(z:Int×Int)(n:Nat):Prop:=0≤z.1∧z.1≤1000000000*(n:Int)∧0≤z.2∧z.2≤1000000000*(n:Int)
theorem zIn.mono{z:Int×Int}{n m:Nat}(h:zIn z n)(hm:n≤m):zIn z m:=by unfold zIn at*;omega
end VM
end
section
namespace VM
open Go VM.F
end VM
end
section
namespace VM
open Go VM.F
end VM
end
section
namespace VM
open Go VM.F
end VM
end
section
namespace VM
open Go VM.F
end VM
end
section
namespace VM
open Go VM.F
def qIn(q:Int):Prop:=1≤q∧q≤1000000000
instance(q:Int):Decidable (qIn q):=by unfold qIn;infer_instance
def uK(a b c d:Int):Prop:=(1≤a∧a≤1099511627776)∧(0≤b∧b<6)∧(c=1∨c=2)∧qIn d
instance(a b c d:Int):Decidable (uK a b c d):=by unfold uK;infer_instance
def xW(h:bS):Prop:=uK h.1 h.2.1 h.2.2.1 h.2.2.2.1
instance(h:bS):Decidable (xW h):=by unfold xW;infer_instance
theorem zA(N:Nat)(h:bS):RA N h=some (decide (xW h)):=by
 unfold RA
 rw[kU h.2.2.2.1]
 rw[eA,yY,vq,yX,eA,eA,eA]
 congr 1
 rw[Bool.eq_iff_iff,decide_eq_true_iff]
 unfold xW uK qIn
 simp only[Bool.and_eq_true,Bool.or_eq_true,Bool.not_eq_true',decide_eq_true_eq,decide_eq_false_iff_not]
 omega
end VM
end
section
namespace VM
open Go VM.F Go.RowKit
def hR:ah:=[((1:Int),((0:Int),((-90:Int),()))),((5:Int),((1:Int),((90:Int),())))]
def hS:ah:=[((0:Int),((0:Int),((5:Int),()))),((0:Int),((1:Int),((20:Int),()))),((1:Int),((0:Int),((-5:Int),()))),((1:Int),((1:Int),((-20:Int),())))]
def hB:ag:=([((1:Int),((1:Int),()))],([((1:Int),((1:Int),((1:Int),((50:Int),()))))],(hR,(hS,([(100:Int),(7:Int)],(de,()))))))
namespace Pure
end Pure
end VM
end
