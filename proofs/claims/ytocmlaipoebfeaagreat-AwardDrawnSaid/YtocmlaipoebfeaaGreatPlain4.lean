/- A part of the proof of AwardDrawn of layer 25: what the functions compute, in plain words. -/
import Derived.Test.YtocmlaipoebfeaaGreatPlain3
import Derived.Test.YtocmlaipoebfeaaGreatPlain0
set_option linter.all false
section
namespace VM
open Go VM.F
def Cx(l:List Int):Prop:= ∀x∈l,-9223372036854775808≤x∧x<9223372036854775808
def Pos(l:List Int):Prop:= ∀x∈l,0≤x
def may(w:List Int):Bool:=decide (w.length≤64)&&w.all (fun x=>decide (0≤x))
theorem kb{w:List Int}:may w=true↔w.length≤64∧Pos w:=by
 unfold may Pos;rw[Bool.and_eq_true,decide_eq_true_iff,List.all_eq_true]
 simp only[decide_eq_true_iff]
theorem y7(N:Nat){l:List Int}(hl:l.length≤1000000): ∀(m n i:Nat),l.length-i≤m→m<n→i≤l.length→ ∃r,lx.l4 N n l (i:Int)=some r∧(r=true↔ ∃x∈l.drop i,x<0)
 |m,0,i,_,hn,_=>by omega
 |m,n+1,i,hm,hn,hi=>by
  unfold lx.l4 lx.ca
  by_cases h:i<l.length
  ·have hd:l.drop i=l.getD i 0::l.drop (i+1):=by
    rw[List.drop_eq_getElem_cons h,List.getD_eq_getElem?_getD,List.getElem?_eq_getElem h];rfl
   rw[aH (by omega),cond_true,aJ (by omega) (by omega),cond_true,Int.toNat_natCast,hd]
   by_cases hx:l.getD i 0<0
   ·rw[aH hx,cond_true]
    exact⟨_,rfl,fun _=>⟨_,List.mem_cons_self ..,hx⟩,fun _=>rfl⟩
   ·rw[aF (by omega),cond_false,aq (by omega) (by omega)]
    obtain⟨r,e,h1⟩:=y7 N hl (m-1) n (i+1) (by omega) (by omega) (by omega)
    refine⟨r,e,h1.trans ⟨fun⟨x,QM,hx2⟩=>⟨x,List.mem_cons_of_mem _ QM,hx2⟩,fun⟨x,QM,hx2⟩=> ?_⟩⟩
    rcases List.mem_cons.1 QM with rfl|QM
    ·exact absurd hx2 hx
    ·exact⟨x,QM,hx2⟩
  ·rw[aF (by omega),cond_false,List.drop_eq_nil_of_le (by omega)]
   exact⟨_,rfl,(fun h=>nomatch h),fun⟨x,hx,_⟩=>nomatch hx⟩
theorem y8(N:Nat){w:List Int}(hN:100≤N)(t:Int):lx N t w=some (decide (t<0)|| !may w):=by
 unfold lx lx.b
 by_cases ht:t<0
 ·rw[aH ht,cond_true,decide_eq_true ht];rfl
 rw[aF (by omega),cond_false,decide_eq_false ht,Bool.false_or]
 by_cases h:w.length≤64
 ·rw[aF (by omega),cond_false]
  obtain⟨r,e,hr⟩:=y7 N (l:=w) (by omega) w.length N 0 (by omega) (by omega) (by omega)
  rw[List.drop_zero]at hr
  rw[show((0:Nat):Int)=0 from rfl]at e
  rw[e]
  congr 1
  rw[Bool.eq_iff_iff,hr,Bool.not_eq_true',Bool.eq_false_iff,Ne,kb]
  constructor
  ·rintro⟨x,hx,MX⟩ h;have:=h.2 x hx;omega
  ·intro h1
   by_cases h2: ∃x∈w,x<0
   ·exact h2
   ·exact absurd ⟨h,fun x hx=>by
     by_cases MX:x<0
     ·exact absurd ⟨x,hx,MX⟩ h2
     ·omega⟩ h1
 ·rw[aH (by omega),cond_true]
  have:may w=false:=by
   rw[Bool.eq_false_iff];intro hm;exact h (kb.1 hm).1
  rw[this];rfl
def bump(q:List Int):List Int→List Int
 |[]=>q
 |k::t=>bump (q.set k.toNat (q.getD k.toNat 0+1)) t
def ny(t S:Int)(w:List Int):List Int:=w.map fun x=>t*x/S
def gM(t S:Int)(w:List Int):List Int:=w.map fun x=>t*x%S
def ba(t:Int)(w:List Int):List Int:=
 bump (ny t w.sum w) ((gg (gM t w.sum w)).take (t-(ny t w.sum w).sum).toNat)
def mS(t:Int)(w:List Int):List Int×Int:=
 if t<0∨may w=false then([],1)else if 9223372036854775808≤w.sum then([],2)
 else if w.sum=0 then(if t=0 then(List.replicate w.length 0,0)else([],1))else(ba t w,0)
theorem ET: ∀(ks q:List Int),(bump q ks).length=q.length
 |[],q=>rfl
 |k::t,q=>by unfold bump;rw[ET t];simp
theorem Cy: ∀(q:List Int) (k:Nat) (x:Int),k<q.length→(q.set k x).sum=q.sum-q.getD k 0+x
 |[],k,x,h=>absurd h (by simp)
 |a::q,0,x,h=>by simp;omega
 |a::q,k+1,x,h=>by
  have:=Cy q k x (by simpa using h)
  simp[this];omega
theorem fI: ∀{q:List Int},Pos q→0≤q.sum
 |[],_=>by simp
 |a::q,h=>by
  have:=fI (q:=q) (fun x hx=>h x (List.mem_cons_of_mem _ hx))
  have:=h a (List.mem_cons_self ..)
  rw[List.sum_cons];omega
theorem s7: ∀{q:List Int},Pos q→ ∀i,q.getD i 0≤q.sum
 |[],_,i=>by simp
 |a::q,h,0=>by
  have:=fI (q:=q) (fun x hx=>h x (List.mem_cons_of_mem _ hx))
  rw[List.sum_cons];simp;omega
 |a::q,h,i+1=>by
  have:=s7 (q:=q) (fun x hx=>h x (List.mem_cons_of_mem _ hx)) i
  have:=h a (List.mem_cons_self ..)
  rw[List.sum_cons];simp;simp at*;omega
theorem eX{q:List Int}(h:Pos q)(i:Nat):0≤q.getD i 0:=by
 by_cases hi:i<q.length
 ·exact h _ (y5 hi)
 ·rw[pd q (by omega)];omega
theorem Rw{q:List Int}(h:Pos q){x:Int}(hx:0≤x)(k:Nat):Pos (q.set k x):=fun y hy=>by
 rcases List.mem_or_eq_of_mem_set hy with hy|rfl
 ·exact h y hy
 ·exact hx
theorem EU{q:List Int}(h:Pos q)(n:Nat):Pos (q.take n):=fun x hx=>h x (List.mem_of_mem_take hx)
theorem EV: ∀(ks q:List Int),(∀k∈ks,0≤k∧k<q.length)→(bump q ks).sum=q.sum+ks.length
 |[],q,_=>by simp[bump]
 |k::t,q,h=>by
  have hk:=h k (List.mem_cons_self ..)
  unfold bump
  rw[EV t _ (fun x hx=>by rw[List.length_set];exact h x (List.mem_cons_of_mem _ hx)),Cy q _ _ (by omega),List.length_cons];omega
theorem qS(t S:Int)(w:List Int):(ny t S w).length=w.length:=by unfold ny;rw[List.length_map]
theorem kH(t S:Int)(w:List Int):(gM t S w).length=w.length:=by unfold gM;rw[List.length_map]
theorem JP{t S:Int}{w:List Int}(i:Nat):(ny t S w).getD i 0=t*w.getD i 0/S:=by
 unfold ny
 by_cases h:i<w.length
 ·rw[List.getD_eq_getElem?_getD,List.getElem?_map,List.getElem?_eq_getElem h,List.getD_eq_getElem?_getD,List.getElem?_eq_getElem h];rfl
 ·rw[pd _ (by rw[List.length_map];omega),pd w (by omega)];simp
theorem JQ{t S:Int}{w:List Int}(i:Nat):(gM t S w).getD i 0=t*w.getD i 0%S:=by
 unfold gM
 by_cases h:i<w.length
 ·rw[List.getD_eq_getElem?_getD,List.getElem?_map,List.getElem?_eq_getElem h,List.getD_eq_getElem?_getD,List.getElem?_eq_getElem h];rfl
 ·rw[pd _ (by rw[List.length_map];omega),pd w (by omega)];simp
theorem y9{t S:Int}{w:List Int}(ht:0≤t)(hS:0≤S)(hw:Pos w):Pos (ny t S w):=fun x hx=>by
 obtain⟨y,hy,rfl⟩:=List.mem_map.1 hx
 exact Int.ediv_nonneg (Int.mul_nonneg ht (hw y hy)) hS
theorem EW{t S:Int}{w:List Int}(hS:0<S):Pos (gM t S w):=fun x hx=>by
 obtain⟨y,hy,rfl⟩:=List.mem_map.1 hx
 exact Int.emod_nonneg _ (by omega)
theorem Cz(t S:Int): ∀w:List Int,S*(ny t S w).sum+(gM t S w).sum=t*w.sum
 |[]=>by simp[ny,gM]
 |x::w=>by
  have h:=Cz t S w
  have e:=Int.mul_ediv_add_emod (t*x) S
  unfold ny gM at*
  simp only[List.map_cons,List.sum_cons,Int.mul_add]
  omega
theorem Oe{t S:Int}{w:List Int}(ht:0≤t)(hS:0<S)(h:w.sum≤S):(ny t S w).sum≤t:=by
 have e:=Cz t S w
 have h1:=fI (EW (t:=t) (w:=w) hS)
 have h2:=Int.mul_le_mul_of_nonneg_left h ht
 have h3:S*(ny t S w).sum≤S*t:=by rw[Int.mul_comm S t];omega
 exact Int.le_of_mul_le_mul_left h3 hS
theorem wA{w:List Int}(h:Pos w)(i:Nat):(w.take i).sum≤w.sum:=by
 have e:w.take i++w.drop i=w:=List.take_append_drop i w
 have h1:(w.take i).sum+(w.drop i).sum=w.sum:=by rw[←List.sum_append,e]
 have:=fI (q:=w.drop i) (fun x hx=>h x (List.mem_of_mem_drop hx))
 omega
theorem Bk(t S:Int)(w:List Int)(i:Nat):(ny t S w).take i=ny t S (w.take i):=by unfold ny;rw[List.map_take]
theorem za(N:Nat){ks:List Int}(hl:ks.length≤1000000)(L:Nat)(hk: ∀k∈ks,0≤k∧k<L): ∀(m n i left:Nat) (q:List Int),ks.length-i≤m→m<n→i≤ks.length→q.length=L→Pos q→left≤9223372036854775807→q.sum+left≤9223372036854775807→
  dz.qc N n q (left:Int) ks (i:Int)=some (bump q ((ks.drop i).take left),0)
 |m,0,i,left,q,_,hn,_,_,_,_,_=>by omega
 |m,n+1,i,left,q,hm,hn,hi,hq,hp,hle,hs=>by
  unfold dz.qc dz.pq
  by_cases h:i<ks.length
  ·have hd:ks.drop i=ks.getD i 0::ks.drop (i+1):=by
    rw[List.drop_eq_getElem_cons h,List.getD_eq_getElem?_getD,List.getElem?_eq_getElem h];rfl
   have ye:=hk _ (y5 h)
   rw[aH (by omega),cond_true]
   match left,hle,hs with
   |0,hle,hs=>rw[aF (by omega),cond_false,List.take_zero];rfl
   |left+1,hle,hs=>
    rw[aH (by omega),cond_true,aJ (by omega) (by omega),cond_true,Int.toNat_natCast,aJ (by omega) (by omega),cond_true,cond_true,hd]
    have h1:=s7 hp (ks.getD i 0).toNat
    have h2:=eX hp (ks.getD i 0).toNat
    rw[aq (x:=q.getD _ 0+1) (by omega) (by omega),aq (x:=(i:Int)+1) (by omega) (by omega),aq (by omega) (by omega),show((left+1:Nat):Int)-1=(left:Int)by omega]
    refine(za N hl L hk (m-1) n (i+1) left _ (by omega) (by omega) (by omega) (by rw[List.length_set];exact hq) (Rw hp (by omega) _) (by omega) ?_).trans rfl
    rw[Cy q _ _ (by omega)];omega
  ·rw[aF (by omega),cond_false,List.drop_eq_nil_of_le (by omega),List.take_nil];rfl
theorem zb(l:List Int): ∀k∈gg l,0≤k∧k<l.length:=fun k hk=>(nX l).1 hk
theorem take_set(l:List Int){i:Nat}(x:Int)(h:i<l.length):(l.set i x).take (i+1)=l.take i++[x]:=by
 rw[eF (l.set i x) (by rw[List.length_set];exact h),iB l x h,List.take_set_of_le (by omega)]
theorem CA{v:Int}(h0: -9223372036854775808≤v)(h1:v<9223372036854775808):w3 v=(v,true):=by unfold w3;rw[if_pos ⟨h0,h1⟩]
end VM
end
section
namespace VM
open Go VM.F
theorem kI{a b:List Int}(hl:a.length=b.length)(h: ∀i,i<a.length→a.getD i 0=b.getD i 0):a=b:=by
 refine List.ext_getElem hl (fun i h1 h2=> ?_)
 have:=h i h1
 rwa [List.getD_eq_getElem?_getD,List.getElem?_eq_getElem h1,List.getD_eq_getElem?_getD,List.getElem?_eq_getElem h2]at this
theorem JR: ∀(ks q:List Int) (i:Nat),ks.Nodup→(∀k∈ks,0≤k∧k<q.length)→(bump q ks).getD i 0=q.getD i 0+(if(i:Int)∈ks then 1 else 0)
 |[],q,i,_,_=>by simp[bump]
 |k::t,q,i,hn,h=>by
  have hk:=h k (List.mem_cons_self ..)
  rw[List.nodup_cons]at hn
  unfold bump
  rw[JR t _ i hn.2 (fun x hx=>by rw[List.length_set];exact h x (List.mem_cons_of_mem _ hx))]
  by_cases hik:(i:Int)=k
  ·rw[if_neg (by rw[hik];exact hn.1),if_pos (by rw[hik];exact List.mem_cons_self ..),←hik,Int.toNat_natCast,iB q _ (by omega)];omega
  ·rw[getD_set_ne q _ (by omega)]
   by_cases ht:(i:Int)∈t
   ·rw[if_pos ht,if_pos (List.mem_cons_of_mem _ ht)]
   ·rw[if_neg ht,if_neg (fun hc=>by rcases List.mem_cons.1 hc with hc|hc;exact hik hc;exact ht hc)]
theorem EX(l:List Int):(gg l).Nodup:=(jS l l.length).imp (fun{a b} h he=>by unfold sm at h;rw[he]at h;omega)
theorem JS(t S:Int)(hS:0<S): ∀u:List Int,(gM t S u).sum≤u.length*S
 |[]=>by simp[gM]
 |x::u=>by
  have ih:=JS t S hS u
  have:=Int.emod_lt_of_pos (t*x) hS
  unfold gM at*
  rw[List.map_cons,List.sum_cons,List.length_cons,Int.natCast_add,Int.add_mul];simp;omega
def iI(t:Int)(w:List Int):Int:=t-(ny t w.sum w).sum
theorem left_eq(t:Int)(w:List Int):w.sum*iI t w=(gM t w.sum w).sum:=by
 have:=Cz t w.sum w
 unfold iI;rw[Int.mul_sub,Int.mul_comm w.sum t];omega
theorem zc{t:Int}{w:List Int}(ht:0≤t)(hS:0<w.sum):0≤iI t w:=by
 have:=Oe ht hS (Int.le_refl _);unfold iI;omega
theorem JT{t:Int}{w:List Int}(hS:0<w.sum):iI t w≤w.length:=by
 have h1:=left_eq t w
 have h2:=JS t w.sum hS w
 rw[←h1,Int.mul_comm (w.length:Int)]at h2
 exact Int.le_of_mul_le_mul_left h2 hS
theorem jT(t:Int)(w:List Int):(ba t w).length=w.length:=by unfold ba;rw[ET,qS]
theorem pF{t:Int}{w:List Int}(ht:0≤t)(hS:0<w.sum):(ba t w).sum=t:=by
 unfold ba
 have h1:=zc ht hS
 have h2:=JT (t:=t) hS
 unfold iI at*
 rw[EV _ _ (fun k hk=>by have:=zb _ k (List.mem_of_mem_take hk);rw[kH]at this;rwa [qS]),List.length_take,s6,kH]
 omega
theorem s8{f:Int→Int}{c:Int}: ∀{o:List Int},(∀x∈o,f x≤c)→(o.map f).sum≤o.length*c
 |[],_=>by simp
 |x::o,h=>by
  have ih:=s8 (f:=f) (c:=c) (o:=o) (fun y hy=>h y (List.mem_cons_of_mem _ hy))
  have:=h x (List.mem_cons_self ..)
  rw[List.map_cons,List.sum_cons,List.length_cons,Int.natCast_add,Int.add_mul];simp;omega
theorem Ib{l o:List Int}(h:o.Pairwise (sm l)){m:Nat}{x y:Int}(hx:x∈o.take m)(hy:y∈o.drop m):sm l x y:=by
 rw[←List.take_append_drop m o,List.pairwise_append]at h
 exact h.2.2 x hx y hy
theorem Lm{t:Int}{w:List Int}(ht:0≤t)(hS:0<w.sum){i:Int}(hi:i∈(gg (gM t w.sum w)).take (iI t w).toNat):0<uG (gM t w.sum w) i:=by
 have Hl: ∀k:Int,0≤uG (gM t w.sum w) k:=fun k=>eX (EW hS) _
 have dE: ∀k:Int,uG (gM t w.sum w) k≤w.sum-1:=fun k=>by
  unfold uG;rw[JQ]
  have:=Int.emod_lt_of_pos (t*w.getD k.toNat 0) hS;omega
 have h0:=Hl i
 rcases Int.lt_or_le 0 (uG (gM t w.sum w) i)with h|h
 ·exact h
 exfalso
 have HQ:=H9 (gM t w.sum w) (gM t w.sum w) rfl
 rw[←left_eq]at HQ
 have aiZ:=List.take_append_drop (iI t w).toNat (gg (gM t w.sum w))
 rw[←aiZ,List.map_append,List.sum_append]at HQ
 have hd:(((gg (gM t w.sum w)).drop (iI t w).toNat).map (uG (gM t w.sum w))).sum≤((gg (gM t w.sum w)).drop (iI t w).toNat).length*0:=s8 (fun y hy=>by
  have:=Ib (jS _ _) hi hy
  unfold sm at this;omega)
 have htk:(((gg (gM t w.sum w)).take (iI t w).toNat).map (uG (gM t w.sum w))).sum≤((gg (gM t w.sum w)).take (iI t w).toNat).length*(w.sum-1):=s8 (fun y _=>dE y)
 have h1:=zc ht hS
 have h2:=JT (t:=t) hS
 rw[List.length_take,s6,kH,Nat.min_eq_left (by omega),Int.mul_sub]at htk
 rw[Int.mul_zero]at hd
 have h3:(((iI t w).toNat:Nat):Int)=iI t w:=by omega
 have h4:0<(iI t w).toNat:=by
  rcases Nat.eq_zero_or_pos (iI t w).toNat with h|h
  ·rw[h,List.take_zero]at hi;nomatch hi
  ·exact h
 rw[h3,Int.mul_comm (iI t w)]at htk
 omega
def extra(t:Int)(w:List Int)(i:Nat):Int:=if(i:Int)∈(gg (gM t w.sum w)).take (iI t w).toNat then 1 else 0
theorem Bl(t:Int)(w:List Int)(i:Nat):(ba t w).getD i 0=t*w.getD i 0/w.sum+extra t w i:=by
 unfold ba
 rw[JR _ _ i ((EX _).sublist (List.take_sublist ..)) (fun k hk=>by have:=zb _ k (List.mem_of_mem_take hk);rw[kH]at this;rwa [qS]),JP]
 rfl
theorem Bm(t:Int)(w:List Int)(i:Nat):extra t w i=0∨extra t w i=1:=by unfold extra;split<;>omega
theorem Ln{t:Int}{w:List Int}(ht:0≤t)(hS:0<w.sum){i:Nat}(h:extra t w i=1):0<t*w.getD i 0%w.sum:=by
 unfold extra at h
 by_cases hi:(i:Int)∈(gg (gM t w.sum w)).take (iI t w).toNat
 ·have:=Lm ht hS hi
  unfold uG at this;rwa [JQ,Int.toNat_natCast]at this
 ·rw[if_neg hi]at h;omega
theorem pG{t:Int}{w:List Int}(ht:0≤t)(hS:0<w.sum)(hw:Pos w):Pos (ba t w):=fun x hx=>by
 obtain⟨i,hi,rfl⟩:=List.mem_iff_getElem.1 hx
 have:=Bl t w i
 rw[List.getD_eq_getElem?_getD,List.getElem?_eq_getElem hi]at this
 have h1:=Bm t w i
 have h2:0≤t*w.getD i 0/w.sum:=Int.ediv_nonneg (Int.mul_nonneg ht (eX hw i)) (by omega)
 simp only[Option.getD_some]at this
 omega
theorem wB{t:Int}{w:List Int}(ht:0≤t)(hS:0<w.sum){i:Nat}(h:w.getD i 0=0):(ba t w).getD i 0=0:=by
 rw[Bl,h]
 rcases Bm t w i with h1|h1
 ·rw[h1];simp
 ·have:=Ln ht hS h1
  rw[h]at this;simp at this
end VM
end
section
namespace VM
open Go VM.F
theorem wC(N:Nat)(hN:5000000≤N){t:Int}{w:List Int}(ht:0≤t)(qv:t<9223372036854775808)(hw:w.length≤64)(hp:Pos w)(hS:0<w.sum)(hS1:w.sum<9223372036854775808):
  ∀(m n i:Nat) (q r:List Int),w.length-i≤m→m<n→i≤w.length→q.length=w.length→r.length=w.length→q.take i=ny t w.sum (w.take i)→r.take i=gM t w.sum (w.take i)→
  dz.Bn N n t w (bZ w.sum) q r (t-(ny t w.sum (w.take i)).sum) (i:Int)=some (ba t w,0)
 |m,0,i,q,r,_,hn,_,_,_,_,_=>by omega
 |m,n+1,i,q,r,hm,hn,hi,hq,hr,eq,er=>by
  unfold dz.Bn dz.zd
  by_cases h:i<w.length
  ·have hwi:=eX hp i
   have ai0:=s7 hp i
   have hb:=mul_lt ht hwi (show t≤9223372036854775807 by omega) (show w.getD i 0≤9223372036854775807 by omega)
   have hqi:t*w.getD i 0/w.sum≤t:=Int.ediv_le_of_le_mul hS (Int.mul_le_mul_of_nonneg_left ai0 ht)
   have apN:0≤t*w.getD i 0/w.sum:=Int.ediv_nonneg hb.1 (by omega)
   have hri:=Int.emod_lt_of_pos (t*w.getD i 0) hS
   have apO:=Int.emod_nonneg (t*w.getD i 0) (show w.sum≠0 by omega)
   have hs0:=Oe ht hS (wA hp i)
   have I5:=fI (y9 ht (by omega:0≤w.sum) (EU hp i))
   have ft:Fit t 2:=Fit.i64 (by omega) (by omega)
   have fw:Fit (w.getD i 0) 2:=Fit.i64 (by omega) (by omega)
   have fS:Fit w.sum 2:=Fit.i64 (by omega) (by omega)
   rw[aH (by omega),cond_true,eS N (by omega) (by omega) qv,Option.bind_some,aJ (by omega) (by omega),cond_true,Int.toNat_natCast,eS N (by omega) (by omega) (by omega),Option.bind_some,
    En N (by omega) (ft.mono (by omega)) (fw.mono (by omega)),Option.bind_some,Js N (by omega) hS ((ft.mul fw).mono (by omega)) (fS.mono (by omega)),Option.bind_some]
   dsimp only
   rw[oc,Option.bind_some,CA (by omega) (by omega),oc,CA (by omega) (by omega)]
   dsimp only
   rw[Option.bind_some,aJ (by omega) (by omega),cond_true,aJ (by omega) (by omega),cond_true,List.length_set,aJ (by omega) (by omega),cond_true,iB q _ (by omega),aq (x:=(i:Int)+1) (by omega) (by omega),aq (by omega) (by omega)]
   have qb:=wC N hN ht qv hw hp hS hS1 (m-1) n (i+1) (q.set i (t*w.getD i 0/w.sum)) (r.set i (t*w.getD i 0%w.sum)) (by omega) (by omega) (by omega) (by rw[List.length_set];exact hq) (by rw[List.length_set];exact hr)
    (by rw[take_set q _ (by omega),eq,eF w h];unfold ny;simp)
    (by rw[take_set r _ (by omega),er,eF w h];unfold gM;simp)
   rw[←Bk,gV _ (by rw[qS];exact h),JP,Bk]at qb
   rw[Int.sub_sub]
   exact qb
  ·have kg:i=w.length:=by omega
   subst kg
   rw[List.take_of_length_le (by omega),List.take_of_length_le (by omega)]at eq er
   subst eq er
   rw[List.take_of_length_le (by omega)]
   have I5:=fI (y9 ht (by omega:0≤w.sum) hp)
   have h1:=zc ht hS
   unfold iI at h1
   rw[aF (by omega),cond_false,Ll N (by rw[kH];omega) (by rw[kH];omega),Option.bind_some]
   have hlen:=s6 (gM t w.sum w)
   rw[kH]at hlen
   have tf:=za N (ks:=gg (gM t w.sum w)) (by omega) w.length (fun k hk=>by have:=zb _ k hk;rwa [kH]at this) 1000 N 0 (t-(ny t w.sum w).sum).toNat (ny t w.sum w) (by omega) (by omega) (by omega) (qS ..) (y9 ht (by omega) hp) (by omega) (by omega)
   rw[List.drop_zero,Int.toNat_of_nonneg h1]at tf
   exact tf
theorem vw(N:Nat)(hN:5000000≤N){t:Int}{w:List Int}(qv:t<9223372036854775808)(hw:Cx w)(hl:w.length≤1000000):dz N t w=some (mS t w):=by
 unfold dz dz.b mS
 rw[y8 N (by omega),Option.bind_some]
 by_cases h1:t<0
 ·rw[decide_eq_true h1,Bool.true_or,cond_true,if_pos (.inl h1)]
 rw[decide_eq_false h1,Bool.false_or]
 cases h2:may w
 ·rw[Bool.not_false,cond_true,if_pos (.inr rfl)]
 rw[Bool.not_true,cond_false,if_neg (by simp[h1]),sL N (by omega) hw hl,Option.bind_some,pb,Option.bind_some]
 obtain⟨Ic,hp⟩:=kb.1 h2
 have hS0:=fI hp
 have hj: ∀h: ¬9223372036854775808≤w.sum,dz.j6 N t w (bZ w.sum)=if w.sum=0 then some (List.replicate w.length 0,0)else some (ba t w,0):=fun h=>by
  unfold dz.j6 dz.Mf
  rw[oc,Option.bind_some,CA (by omega) (by omega),Bool.not_true,cond_false,bG (by omega) (by omega) (by omega),cond_true,cond_true,pb,Option.bind_some,Int.toNat_natCast]
  by_cases h4:w.sum=0
  ·rw[if_pos h4,h4,show rn 0=0 from rfl,ct rfl,cond_true]
  ·rw[if_neg h4,cO (by unfold rn;repeat' split<;>omega),cond_false]
   have:=wC N hN (by omega) qv Ic hp (by omega) (by omega) w.length N 0 (List.replicate w.length 0) (List.replicate w.length 0) (by omega) (by omega) (by omega) (List.length_replicate ..) (List.length_replicate ..) rfl rfl
   rw[List.take_zero]at this
   simp only[ny,List.map_nil,List.sum_nil,Int.sub_zero]at this
   exact this
 by_cases h3:9223372036854775808≤w.sum
 ·rw[if_pos h3,cO (by unfold rn;repeat' split<;>omega),cond_false]
  unfold dz.j6 dz.Mf
  rw[oc,Option.bind_some];unfold w3;rw[if_neg (by omega)];rfl
 rw[if_neg h3,hj h3]
 by_cases h4:w.sum=0
 ·rw[if_pos h4,if_pos h4,h4,show rn 0=0 from rfl,ct rfl,cond_true]
  by_cases h5:t=0
  ·rw[if_pos h5,ct h5,Bool.not_true,cond_false]
  ·rw[if_neg h5,cO h5,Bool.not_false,cond_true]
 ·rw[if_neg h4,if_neg h4,cO (by unfold rn;repeat' split<;>omega),cond_false]
def Bo(t n:Int):List Int×Int:=if t<0∨n<1∨64<n then([],1)else mS t (List.replicate n.toNat 1)
theorem Of(n:Nat):Cx (List.replicate n 1):=fun x hx=>by rw[List.eq_of_mem_replicate hx];omega
theorem Bp(N:Nat)(hN:5000000≤N){t:Int}{k:Nat}(hk:k≤64)(qv:t<9223372036854775808): ∀(m n i:Nat),k-i≤m→m<n→i≤k→
  mT.l5 N n t (k:Int) (List.replicate i 1++List.replicate (k-i) 0) (i:Int)=some (mS t (List.replicate k 1))
 |m,0,i,_,hn,_=>by omega
 |m,n+1,i,hm,hn,hi=>by
  unfold mT.l5 mT.dn
  by_cases h:i<k
  ·rw[aH (by omega),cond_true,aJ (by omega) (by simp;omega),cond_true,aq (by omega) (by omega)]
   refine Eq.trans ?_ (Bp N hN hk qv (m-1) n (i+1) (by omega) (by omega) (by omega))
   congr 1
   rw[Int.toNat_natCast,List.set_append_right _ _ (by simp),List.length_replicate,Nat.sub_self,show k-i=(k-(i+1))+1 by omega,List.replicate_succ,List.set_cons_zero,List.replicate_succ',List.append_assoc]
   rfl
  ·rw[aF (by omega),cond_false,show k-i=0 by omega,List.replicate_zero,List.append_nil,show i=k by omega,vw N hN qv (Of _) (by rw[List.length_replicate];omega)]
   rfl
theorem Og(N:Nat)(hN:5000000≤N){t n:Int}(qv:t<9223372036854775808):mT N t n=some (Bo t n):=by
 unfold mT mT.b Bo
 by_cases h1:t<0
 ·rw[aH h1,cond_true,if_pos (.inl h1)]
 by_cases h2:n<1
 ·rw[aF (by omega),cond_false,aH h2,cond_true,if_pos (.inr (.inl h2))]
 by_cases h3:64<n
 ·rw[aF (by omega),cond_false,aF (by omega),cond_false,aH h3,cond_true,if_pos (.inr (.inr h3))]
 rw[aF (by omega),cond_false,aF (by omega),cond_false,aF (by omega),cond_false,if_neg (by omega),bG (by omega) (by omega) (by omega),cond_true]
 have:=Bp N hN (t:=t) (k:=n.toNat) (by omega) qv n.toNat N 0 (by omega) (by omega) (by omega)
 rw[List.replicate_zero,List.nil_append,Nat.sub_zero,Int.toNat_of_nonneg (by omega)]at this
 exact this
end VM
end
section
namespace VM
open Go VM.F
def ze(n:Nat)(f:Nat→Int):List Int:=(List.range n).map f
theorem ei(n:Nat)(f:Nat→Int):(ze n f).length=n:=by unfold ze;rw[List.length_map,List.length_range]
theorem ec{n:Nat}{f:Nat→Int}{i:Nat}(h:i<n):(ze n f).getD i 0=f i:=by
 unfold ze
 rw[List.getD_eq_getElem?_getD,List.getElem?_map,List.getElem?_range h];rfl
theorem CB(n:Nat)(f:Nat→Int)(i:Nat):(ze n f).getD i 0=if i<n then f i else 0:=by
 by_cases h:i<n
 ·rw[if_pos h,ec h]
 ·rw[if_neg h,pd _ (by rw[ei];omega)]
theorem Rx{n:Nat}{f:Nat→Int}(h: ∀i,i<n→0≤f i):Pos (ze n f):=fun x hx=>by
 obtain⟨i,hi,rfl⟩:=List.mem_map.1 hx
 exact h i (List.mem_range.1 hi)
theorem nY{l:List Int}(h: ∀i,i<l.length→0≤l.getD i 0):Pos l:=fun x hx=>by
 obtain⟨i,hi,rfl⟩:=List.mem_iff_getElem.1 hx
 have:=h i hi
 rwa [List.getD_eq_getElem?_getD,List.getElem?_eq_getElem hi]at this
theorem vx: ∀{a b:List Int},a.length=b.length→(∀i,i<a.length→a.getD i 0≤b.getD i 0)→a.sum≤b.sum
 |[],[],_,_=>Int.le_refl _
 |[],_::_,h,_=>nomatch h
 |_::_,[],h,_=>nomatch h
 |x::a,y::b,h,h1=>by
  have:=vx (a:=a) (b:=b) (by simpa using h) (fun i hi=>by have:=h1 (i+1) (by simpa using hi);simpa using this)
  have h2:x≤y:=by have:=h1 0 (by simp);simpa using this
  rw[List.sum_cons,List.sum_cons];omega
theorem zf: ∀{a b c:List Int},a.length=b.length→a.length=c.length→(∀i,i<a.length→a.getD i 0=b.getD i 0+c.getD i 0)→a.sum=b.sum+c.sum
 |[],[],[],_,_,_=>rfl
 |[],_::_,_,h,_,_=>nomatch h
 |[],[],_::_,_,h,_=>nomatch h
 |_::_,[],_,h,_,_=>nomatch h
 |_::_,_::_,[],_,h,_=>nomatch h
 |x::a,y::b,z::c,h,h',h1=>by
  have:=zf (a:=a) (b:=b) (c:=c) (by simpa using h) (by simpa using h') (fun i hi=>by have:=h1 (i+1) (by simpa using hi);simpa using this)
  have h2:x=y+z:=by have:=h1 0 (by simp);simpa using this
  rw[List.sum_cons,List.sum_cons,List.sum_cons];omega
theorem qT: ∀{a:List Int},(∀i,i<a.length→a.getD i 0=0)→a.sum=0
 |[],_=>rfl
 |x::a,h=>by
  have:=qT (a:=a) (fun i hi=>by have:=h (i+1) (by simpa using hi);simpa using this)
  have h2:x=0:=by have:=h 0 (by simp);simpa using this
  rw[List.sum_cons];omega
def bC(w caps out:List Int):List Int:=ze w.length fun i=>if out.getD i 0<caps.getD i 0 then w.getD i 0 else 0
def dj(parts caps out:List Int):List Int:=ze out.length fun i=>min (parts.getD i 0) (caps.getD i 0-out.getD i 0)
def qU(out g:List Int):List Int:=ze out.length fun i=>out.getD i 0+g.getD i 0
def pH(w caps:List Int):Nat→List Int→Int→List Int×Int
 |0,out,left=>(out,left)
 |f+1,out,left=>if left=0∨(bC w caps out).sum=0 then(out,left)else
  pH w caps f (qU out (dj (ba left (bC w caps out)) caps out)) (left-(dj (ba left (bC w caps out)) caps out).sum)
structure JU(t:Int)(w caps out:List Int)(left:Int):Prop where
 n:w.length≤64
 l1:caps.length=w.length
 l2:out.length=w.length
 pw:Pos w
 sw:w.sum<9223372036854775808
 pc: ∀i,0≤caps.getD i 0∧caps.getD i 0<9223372036854775808
 po: ∀i,0≤out.getD i 0
 le: ∀i,i<w.length→out.getD i 0≤caps.getD i 0
 z: ∀i,w.getD i 0=0→out.getD i 0=0
 l:0≤left
 t1:t<9223372036854775808
 s:out.sum+left=t
theorem eY(w caps out:List Int):(bC w caps out).length=w.length:=ei ..
theorem mU{w caps out:List Int}(h:Pos w):Pos (bC w caps out):=Rx (fun i _=>by split;exact eX h i;omega)
theorem EY{w caps out:List Int}(h:Pos w):(bC w caps out).sum≤w.sum:=vx (eY ..) (fun i hi=>by
 rw[eY]at hi
 unfold bC;rw[ec hi];split
 ·omega
 ·exact eX h i)
theorem Oh{t left:Int}{w caps out:List Int}(c:JU t w caps out left):Cx (bC w caps out):=fun x hx=>by
 have h1:=mU (caps:=caps) (out:=out) c.pw
 have h2:=EY (caps:=caps) (out:=out) c.pw
 have h3:=h1 x hx
 obtain⟨i,hi,rfl⟩:=List.mem_iff_getElem.1 hx
 have h4:=s7 h1 i
 rw[List.getD_eq_getElem?_getD,List.getElem?_eq_getElem hi]at h4
 simp only[Option.getD_some]at h4
 have:=c.sw
 omega
theorem EZ{t left:Int}{w caps out:List Int}(c:JU t w caps out left):left≤t:=by
 have:=fI (q:=out) (nY (fun i _=>c.po i));have:=c.s;omega
theorem kd{t left:Int}{w caps out:List Int}(c:JU t w caps out left)(hS:0<(bC w caps out).sum)(i:Nat):
  0≤(dj (ba left (bC w caps out)) caps out).getD i 0∧(dj (ba left (bC w caps out)) caps out).getD i 0≤(ba left (bC w caps out)).getD i 0∧(i<w.length→out.getD i 0+(dj (ba left (bC w caps out)) caps out).getD i 0≤caps.getD i 0):=by
 have h0:=eX (pG c.l hS (mU c.pw)) i
 unfold dj
 rw[CB]
 have:=c.l2
 by_cases h:i<out.length
 ·rw[if_pos h]
  have:=c.le i (by omega)
  omega
 ·rw[if_neg h];exact⟨by omega,h0,fun h=>by omega⟩
theorem qV(parts caps out:List Int):(dj parts caps out).length=out.length:=ei ..
theorem zg{t left:Int}{w caps out:List Int}(c:JU t w caps out left)(hS:0<(bC w caps out).sum):0≤(dj (ba left (bC w caps out)) caps out).sum∧(dj (ba left (bC w caps out)) caps out).sum≤left:=by
 constructor
 ·exact fI (nY (fun i _=>(kd c hS i).1))
 ·have:=vx (a:=dj (ba left (bC w caps out)) caps out) (b:=ba left (bC w caps out)) (by rw[qV,jT,eY,c.l2]) (fun i _=>(kd c hS i).2.1)
  rwa [pF c.l hS]at this
theorem E0{t left:Int}{w caps out:List Int}(c:JU t w caps out left)(hS:0<(bC w caps out).sum):JU t w caps (qU out (dj (ba left (bC w caps out)) caps out)) (left-(dj (ba left (bC w caps out)) caps out).sum):=by
 have lH: ∀i,(qU out (dj (ba left (bC w caps out)) caps out)).getD i 0=if i<out.length then out.getD i 0+(dj (ba left (bC w caps out)) caps out).getD i 0 else 0:=fun i=>by unfold qU;rw[CB]
 have gs:=zg c hS
 refine⟨c.n,c.l1,?_,c.pw,c.sw,c.pc,fun i=> ?_,fun i hi=> ?_,fun i hi=> ?_,by omega,c.t1,?_⟩
 ·unfold qU;rw[ei,c.l2]
 ·rw[lH];have:=(kd c hS i).1;have:=c.po i;split<;>omega
 ·rw[lH,if_pos (by rw[c.l2];exact hi)];exact(kd c hS i).2.2 hi
 ·rw[lH]
  split
  ·have h1:(bC w caps out).getD i 0=0:=by unfold bC;rw[CB,hi];split<;>(try split)<;>rfl
   have h2:=wB c.l hS h1
   have h3:=kd c hS i
   rw[c.z i hi];omega
  ·rfl
 ·have:=zf (a:=qU out (dj (ba left (bC w caps out)) caps out)) (b:=out) (c:=dj (ba left (bC w caps out)) caps out) (by unfold qU;rw[ei]) (by unfold qU;rw[ei,qV]) (fun i hi=>by
   unfold qU at hi;rw[ei]at hi;rw[lH,if_pos hi])
  have:=c.s
  omega
def opens(w caps out:List Int):Nat:=(List.range w.length).countP fun i=>decide (0<w.getD i 0∧out.getD i 0<caps.getD i 0)
theorem Bq{p q:Nat→Bool}: ∀{l:List Nat},(∀x∈l,q x=true→p x=true)→(∃x∈l,p x=true∧q x=false)→l.countP q<l.countP p
 |[],_,⟨x,hx,_⟩=>nomatch hx
 |y::l,h,⟨x,hx,h1,h2⟩=>by
  have hle:l.countP q≤l.countP p:=List.countP_mono_left (fun z hz=>h z (List.mem_cons_of_mem _ hz))
  rw[List.countP_cons,List.countP_cons]
  rcases List.mem_cons.1 hx with rfl|hx
  ·rw[h1,h2];simp;omega
  ·have:=Bq (p:=p) (q:=q) (l:=l) (fun z hz=>h z (List.mem_cons_of_mem _ hz)) ⟨x,hx,h1,h2⟩
   have h3:=h y (List.mem_cons_self ..)
   cases hq:q y<;>cases hp:p y<;>simp<;>try omega
   rw[hq,hp]at h3;simp at h3
theorem Br{w caps out:List Int}(hw:Pos w)(h:(bC w caps out).sum=0): ∀i,i<w.length→ ¬(0<w.getD i 0∧out.getD i 0<caps.getD i 0):=fun i hi ⟨h1,h2⟩=>by
 have:=s7 (mU (caps:=caps) (out:=out) hw) i
 unfold bC at this h
 rw[ec hi,if_pos h2,h]at this
 omega
theorem CC{w caps out:List Int}(hw:Pos w)(h:(bC w caps out).sum≠0): ∃i,i<w.length∧0<w.getD i 0∧out.getD i 0<caps.getD i 0:=by
 by_cases hx: ∃i,i<w.length∧0<w.getD i 0∧out.getD i 0<caps.getD i 0
 ·exact hx
 ·refine absurd (qT (fun i hi=> ?_)) h
  rw[eY]at hi
  unfold bC
  rw[ec hi]
  split
  ·rename_i h1
   have:=eX hw i
   by_cases h2:0<w.getD i 0
   ·exact absurd ⟨i,hi,h2,h1⟩ hx
   ·omega
  ·rfl
theorem Lo{t left:Int}{w caps out:List Int}(c:JU t w caps out left)(hS:0<(bC w caps out).sum)(hl:left-(dj (ba left (bC w caps out)) caps out).sum≠0):opens w caps (qU out (dj (ba left (bC w caps out)) caps out))<opens w caps out:=by
 have lH: ∀i,i<w.length→(qU out (dj (ba left (bC w caps out)) caps out)).getD i 0=out.getD i 0+(dj (ba left (bC w caps out)) caps out).getD i 0:=fun i hi=>by unfold qU;rw[ec (by rw[c.l2];exact hi)]
 refine Bq (fun i hi h=> ?_) ?_
 ·rw[List.mem_range]at hi
  rw[decide_eq_true_iff,lH i hi]at h
  rw[decide_eq_true_iff]
  have:=(kd c hS i).1
  omega
 ·by_cases hx: ∃i,i<w.length∧(0<w.getD i 0∧out.getD i 0<caps.getD i 0)∧caps.getD i 0≤out.getD i 0+(dj (ba left (bC w caps out)) caps out).getD i 0
  ·obtain⟨i,h1,h2,h3⟩:=hx
   refine⟨i,List.mem_range.2 h1,decide_eq_true h2,decide_eq_false ?_⟩
   rw[lH i h1];omega
  ·exfalso
   have h1:ba left (bC w caps out)=dj (ba left (bC w caps out)) caps out:=by
    refine kI (by rw[qV,jT,eY,c.l2]) (fun i hi=> ?_)
    rw[jT,eY]at hi
    have h2:=kd c hS i
    have h3:=eX (pG c.l hS (mU (caps:=caps) (out:=out) c.pw)) i
    by_cases h4:0<w.getD i 0∧out.getD i 0<caps.getD i 0
    ·have h5: ¬caps.getD i 0≤out.getD i 0+(dj (ba left (bC w caps out)) caps out).getD i 0:=fun h=>hx ⟨i,hi,h4,h⟩
     have h6:(dj (ba left (bC w caps out)) caps out).getD i 0=min ((ba left (bC w caps out)).getD i 0) (caps.getD i 0-out.getD i 0):=ec (by rw[c.l2];exact hi)
     omega
    ·have h7:(bC w caps out).getD i 0=0:=by
      unfold bC;rw[ec hi]
      have:=eX c.pw i
      split<;>omega
     have:=wB c.l hS h7
     omega
   rw[←h1,pF c.l hS]at hl
   omega
theorem Oi(w caps out:List Int):opens w caps out≤w.length:=by
 unfold opens
 have:=List.countP_le_length (p:=fun i=>decide (0<w.getD i 0∧out.getD i 0<caps.getD i 0)) (l:=List.range w.length)
 rwa [List.length_range]at this
structure Full(t:Int)(w caps out:List Int)(left:Int):Prop where
 c:JU t w caps out left
 f:left=0∨ ∀i,i<w.length→ ¬(0<w.getD i 0∧out.getD i 0<caps.getD i 0)
theorem E1{t:Int}{w caps:List Int}: ∀(f:Nat) (out:List Int) (left:Int),JU t w caps out left→(opens w caps out<f∨left=0)→Full t w caps (pH w caps f out left).1 (pH w caps f out left).2
 |0,out,left,c,h=>⟨c,.inl (show left=0 by omega)⟩
 |f+1,out,left,c,h=>by
  unfold pH
  have hS:=fI (mU (caps:=caps) (out:=out) c.pw)
  split
  ·rename_i h1
   exact⟨c,h1.imp id (Br c.pw)⟩
  ·rename_i h1
   refine E1 f _ _ (E0 c (by omega)) ?_
   by_cases h2:left-(dj (ba left (bC w caps out)) caps out).sum=0
   ·exact .inr h2
   ·have:=Lo c (by omega) h2
    exact .inl (by omega)
def vy(out g:List Int)(i:Nat):List Int:=ze out.length fun j=>if j<i then out.getD j 0+g.getD j 0 else out.getD j 0
theorem mid_zero(out g:List Int):vy out g 0=out:=kI (ei ..) (fun i hi=>by unfold vy at*;rw[ei]at hi;rw[ec hi,if_neg (by omega)])
theorem Ry(out g:List Int){n:Nat}(h:out.length≤n):vy out g n=qU out g:=kI (by unfold vy qU;rw[ei,ei]) (fun i hi=>by unfold vy qU at*;rw[ei]at hi;rw[ec hi,ec hi,if_pos (by omega)])
theorem uI(out g:List Int)(i:Nat):(vy out g i).length=out.length:=ei ..
theorem Yw{out g:List Int}{i:Nat}(h:i<out.length):(vy out g i).getD i 0=out.getD i 0:=by unfold vy;rw[ec h,if_neg (by omega)]
theorem Rz{out g:List Int}{i:Nat}(h:i<out.length):(vy out g i).set i (out.getD i 0+g.getD i 0)=vy out g (i+1):=kI (by rw[List.length_set,uI,uI]) (fun j hj=>by
 rw[List.length_set,uI]at hj
 by_cases sG:i=j
 ·subst sG
  rw[iB _ _ (by rw[uI];exact h)];unfold vy;rw[ec h,if_pos (by omega)]
 ·rw[getD_set_ne _ _ sG];unfold vy;rw[ec hj,ec hj]
  by_cases h1:j<i
  ·rw[if_pos h1,if_pos (by omega)]
  ·rw[if_neg h1,if_neg (by omega)])
def nZ(s:List Int)(i:Nat):List Int:=ze s.length fun j=>if j<i then s.getD j 0 else 0
theorem Lp(s:List Int):nZ s 0=List.replicate s.length 0:=kI (by unfold nZ;rw[ei,List.length_replicate]) (fun i hi=>by
 unfold nZ at*;rw[ei]at hi;rw[ec hi,if_neg (by omega),List.getD_eq_getElem?_getD,List.getElem?_replicate,if_pos hi];rfl)
theorem Oj(s:List Int):nZ s s.length=s:=kI (ei ..) (fun i hi=>by unfold nZ at*;rw[ei]at hi;rw[ec hi,if_pos hi])
theorem kJ(s:List Int)(i:Nat):(nZ s i).length=s.length:=ei ..
theorem Ol{s:List Int}{i:Nat}(h:i<s.length):(nZ s i).set i (s.getD i 0)=nZ s (i+1):=kI (by rw[List.length_set,kJ,kJ]) (fun j hj=>by
 rw[List.length_set,kJ]at hj
 by_cases sG:i=j
 ·subst sG
  rw[iB _ _ (by rw[kJ];exact h)];unfold nZ;rw[ec h,if_pos (by omega)]
 ·rw[getD_set_ne _ _ sG];unfold nZ;rw[ec hj,ec hj]
  by_cases h1:j<i
  ·rw[if_pos h1,if_pos (by omega)]
  ·rw[if_neg h1,if_neg (by omega)])
theorem Bs{s:List Int}{i:Nat}(h:s.getD i 0=0):nZ s i=nZ s (i+1):=kI (by rw[kJ,kJ]) (fun j hj=>by
 rw[kJ]at hj
 unfold nZ;rw[ec hj,ec hj]
 by_cases h1:j<i
 ·rw[if_pos h1,if_pos (by omega)]
 ·rw[if_neg h1]
  by_cases h2:j=i
  ·subst h2;rw[if_pos (by omega),h]
  ·rw[if_neg (by omega)])
theorem Yx(x y:Int):mn x y=min x y:=by rw[Wc];split<;>omega
theorem Lq{t left:Int}{w caps out:List Int}(c:JU t w caps out left)(hS:0<(bC w caps out).sum)(i:Nat):0≤((dj (ba left (bC w caps out)) caps out).take i).sum∧((dj (ba left (bC w caps out)) caps out).take i).sum≤left:=by
 have h:=nY (l:=dj (ba left (bC w caps out)) caps out) (fun i _=>(kd c hS i).1)
 have:=wA h i
 have:=zg c hS
 exact⟨fI (EU h i),by omega⟩
theorem zh(N:Nat)(K:List Int→List Int→List Int→Int→Int→Option (List Int×Int×Int)){t left:Int}{w caps out:List Int}(c:JU t w caps out left)(hS:0<(bC w caps out).sum)(rd:Int): ∀(m n i:Nat),w.length-i≤m→m<n→i≤w.length→
  c0.K9 N K n w caps (vy out (dj (ba left (bC w caps out)) caps out) i) (left-((dj (ba left (bC w caps out)) caps out).take i).sum) rd (ba left (bC w caps out)) (i:Int)=
  K w caps (qU out (dj (ba left (bC w caps out)) caps out)) (left-(dj (ba left (bC w caps out)) caps out).sum) (W .i64 (rd+1))
 |m,0,i,_,hn,_=>by omega
 |m,n+1,i,hm,hn,hi=>by
  have n64:=c.n
  have e1:=c.l1
  have e2:=c.l2
  unfold c0.K9 c0.HU
  by_cases h:i<w.length
  ·have hc:=c.pc i
   have ho:=c.po i
   have hle:=c.le i h
   have hg:=kd c hS i
   have h6:(dj (ba left (bC w caps out)) caps out).getD i 0=min ((ba left (bC w caps out)).getD i 0) (caps.getD i 0-out.getD i 0):=ec (by rw[c.l2];exact h)
   have ht:=Lq c hS i
   have hl:=EZ c
   have qv:=c.t1
   have hgl:(dj (ba left (bC w caps out)) caps out).getD i 0≤left:=by
    have:=s7 (nY (l:=dj (ba left (bC w caps out)) caps out) (fun i _=>(kd c hS i).1)) i
    have:=zg c hS
    omega
   dsimp only
   rw[aH (by omega),cond_true,aJ (by omega) (by rw[jT,eY];omega),cond_true,aJ (by omega) (by omega),cond_true,aJ (by omega) (by rw[uI];omega),cond_true,cond_true,Int.toNat_natCast,Yw (by omega),aq (x:=caps.getD i 0-out.getD i 0) (by omega) (by omega),Yx,←h6,
    aq (x:=(i:Int)+1) (by omega) (by omega),aq (x:=out.getD i 0+_) (by omega) (by omega),aq (x:=left-_-_) (by omega) (by omega),Rz (by omega)]
   have:=zh N K c hS rd (m-1) n (i+1) (by omega) (by omega) (by omega)
   rw[gV _ (by rw[qV];omega),←Int.sub_sub]at this
   exact this
  ·rw[aF (by omega),cond_false,Ry _ _ (by omega),List.take_of_length_le (by rw[qV];omega)]
def E2(w caps out:List Int)(i:Nat):Prop:= ∃j,j<i∧0<w.getD j 0∧out.getD j 0<caps.getD j 0
theorem pI(N:Nat)(hN:5000000≤N)(K:List Int→List Int→List Int→Int→Int→Option (List Int×Int×Int)){t left:Int}{w caps out:List Int}(c:JU t w caps out left)(rd:Int): ∀(m n i:Nat) (b:Bool),w.length-i≤m→m<n→i≤w.length→(b=true↔E2 w caps out i)→
  c0.nn N K n w caps out left rd (nZ (bC w caps out) i) b (i:Int)=
  if left=0∨(bC w caps out).sum=0 then some (out,left,0)else K w caps (qU out (dj (ba left (bC w caps out)) caps out)) (left-(dj (ba left (bC w caps out)) caps out).sum) (W .i64 (rd+1))
 |m,0,i,b,_,hn,_,_=>by omega
 |m,n+1,i,b,hm,hn,hi,hb=>by
  have n64:=c.n
  have e1:=c.l1
  have e2:=c.l2
  unfold c0.nn c0.lM
  by_cases h:i<w.length
  ·have h1:(bC w caps out).getD i 0=if out.getD i 0<caps.getD i 0 then w.getD i 0 else 0:=ec h
   have hw:=eX c.pw i
   have nL: ¬(0<w.getD i 0∧out.getD i 0<caps.getD i 0)→(b=true↔E2 w caps out (i+1)):=fun qf=>hb.trans ⟨fun⟨j,hj,h2⟩=>⟨j,by omega,h2⟩,fun⟨j,hj,h2⟩=>⟨j,by
    by_cases sG:j=i
    ·subst sG;exact absurd h2 qf
    ·omega,h2⟩⟩
   rw[aH (by omega),cond_true,aJ (by omega) (by omega),cond_true,Int.toNat_natCast]
   by_cases h0:0<w.getD i 0
   ·rw[aH h0,cond_true,aJ (by omega) (by omega),cond_true,aJ (by omega) (by omega),cond_true]
    by_cases h2:out.getD i 0<caps.getD i 0
    ·rw[if_pos h2]at h1
     rw[aH h2,cond_true,cond_true,aJ (by omega) (by rw[kJ,eY];omega),cond_true,aq (by omega) (by omega),←h1,Ol (by rw[eY];exact h)]
     exact pI N hN K c rd (m-1) n (i+1) true (by omega) (by omega) (by omega) ⟨fun _=>⟨i,by omega,h0,h2⟩,fun _=>rfl⟩
    ·rw[if_neg h2]at h1
     rw[aF (by omega),cond_false,aq (by omega) (by omega),Bs h1]
     exact pI N hN K c rd (m-1) n (i+1) b (by omega) (by omega) (by omega) (nL (fun h=>h2 h.2))
   ·have h3:(bC w caps out).getD i 0=0:=by rw[h1];split<;>omega
    rw[aF (by omega),cond_false,aq (by omega) (by omega),Bs h3]
    exact pI N hN K c rd (m-1) n (i+1) b (by omega) (by omega) (by omega) (nL (fun h=>h0 h.1))
  ·have hl1:=EZ c
   have qv:=c.t1
   have hl0:=c.l
   have kg:i=(bC w caps out).length:=by rw[eY];omega
   have hp:=mU (caps:=caps) (out:=out) c.pw
   have hs:=EY (caps:=caps) (out:=out) c.pw
   have hs0:=fI hp
   have hsw:=c.sw
   have hm:may (bC w caps out)=true:=kb.2 ⟨by rw[eY];omega,hp⟩
   rw[aF (by omega),cond_false]
   by_cases h4:left=0
   ·rw[ct h4,cond_true,if_pos (.inl h4)]
   rw[cO h4,cond_false]
   by_cases h3:(bC w caps out).sum=0
   ·have hbf:b=false:=by
     rw[Bool.eq_false_iff];intro ht
     obtain⟨j,hj,h5⟩:=hb.1 ht
     exact Br c.pw h3 j (by omega) h5
    rw[if_pos (.inr h3),hbf];rfl
   ·have hbt:b=true:=hb.2 (by
     obtain⟨j,hj,h5⟩:=CC c.pw h3
     exact⟨j,by omega,h5⟩)
    rw[hbt,Bool.not_true,cond_false,if_neg (by omega),kg,Oj,vw N (by omega) (by omega) (Oh c) (by rw[eY];omega),Option.bind_some]
    unfold mS
    rw[if_neg (by rw[hm];simp;omega),if_neg (by omega),if_neg h3]
    have:=zh N K c (by omega) rd w.length N 0 (by omega) (by omega) (by omega)
    rw[mid_zero,List.take_zero,List.sum_nil,Int.sub_zero]at this
    exact this
theorem Bt(N:Nat)(hN:5000000≤N){t:Int}{w caps:List Int}: ∀(f n:Nat) (out:List Int) (left:Int),JU t w caps out left→f≤w.length+1→f<n→
  c0.l8 N n w caps out left ((w.length+1-f:Nat):Int)=some ((pH w caps f out left).1,(pH w caps f out left).2,0)
 |f,0,out,left,c,_,hn=>by omega
 |0,n+1,out,left,c,h,hn=>by
  unfold c0.l8 c0.xC
  rw[dg (by omega)];rfl
 |f+1,n+1,out,left,c,h,hn=>by
  have n64:=c.n
  have hl:=c.l
  unfold c0.l8 c0.xC
  rw[df (by omega),cond_true,bG (by omega) (by omega) (by omega),cond_true,Int.toNat_natCast]
  have:=pI N hN (c0.l8 N n) c ((w.length+1-(f+1):Nat):Int) w.length N 0 false (by omega) (by omega) (by omega) ⟨(fun h=>nomatch h),fun⟨j,hj,_⟩=>by omega⟩
  rw[Lp,eY]at this
  refine Eq.trans this ?_
  have hS:=fI (mU (caps:=caps) (out:=out) c.pw)
  unfold pH
  by_cases h1:left=0∨(bC w caps out).sum=0
  ·rw[if_pos h1,if_pos h1]
  ·rw[if_neg h1,if_neg h1,aq (by omega) (by omega),show(((w.length+1-(f+1):Nat):Int)+1)=((w.length+1-f:Nat):Int)by omega]
   exact Bt N hN f n _ _ (E0 c (by omega)) (by omega) (by omega)
def pJ(t:Int)(w caps:List Int):List Int×Int×Int:=
 if t<0∨may w=false∨caps.length≠w.length∨may caps=false then([],0,1)else if 9223372036854775808≤w.sum then([],0,2)
 else((pH w caps (w.length+1) (List.replicate w.length 0) t).1,(pH w caps (w.length+1) (List.replicate w.length 0) t).2,0)
theorem lQ(n i:Nat):(List.replicate n (0:Int)).getD i 0=0:=by
 rw[List.getD_eq_getElem?_getD,List.getElem?_replicate];split<;>rfl
theorem Bu{t:Int}{w caps:List Int}(ht:0≤t)(qv:t<9223372036854775808)(hw:may w=true)(hc:may caps=true)(hl:caps.length=w.length)(hi:Cx caps)(hs:w.sum<9223372036854775808):JU t w caps (List.replicate w.length 0) t:=by
 obtain⟨h1,h2⟩:=kb.1 hw
 obtain⟨h3,h4⟩:=kb.1 hc
 refine⟨h1,hl,List.length_replicate ..,h2,hs,fun i=>⟨eX h4 i,(oK hi i).2⟩,fun i=>by rw[lQ];omega,fun i _=>by rw[lQ];exact eX h4 i,fun i _=>lQ ..,ht,qv,?_⟩
 rw[qT (fun i _=>lQ ..)];omega
theorem Ie(N:Nat)(hN:5000000≤N){t:Int}{w caps:List Int}(qv:t<9223372036854775808)(hw:Cx w)(hc:Cx caps)(hl:w.length≤1000000):c0 N t w caps=some (pJ t w caps):=by
 unfold c0 c0.b pJ
 rw[y8 N (by omega),Option.bind_some]
 by_cases h1:t<0
 ·rw[decide_eq_true h1,Bool.true_or,cond_true,if_pos (.inl h1)]
 rw[decide_eq_false h1,Bool.false_or]
 cases h2:may w
 ·rw[Bool.not_false,cond_true,if_pos (.inr (.inl rfl))]
 rw[Bool.not_true,cond_false]
 by_cases h3:caps.length=w.length
 case neg=>rw[cO (by omega),Bool.not_false,cond_true,if_pos (.inr (.inr (.inl h3)))]
 rw[ct (by omega),Bool.not_true,cond_false,y8 N (by omega),Option.bind_some]
 cases h4:may caps
 ·rw[if_pos (.inr (.inr (.inr rfl)))];rfl
 have hp:=fI (kb.1 h2).2
 rw[show(decide ((0:Int)<0)|| !true)=false from rfl,cond_false,sL N (by omega) hw hl,Option.bind_some,oc,Option.bind_some,if_neg (by simp;omega)]
 by_cases h5:9223372036854775808≤w.sum
 ·rw[if_pos h5];unfold w3;rw[if_neg (by omega)];rfl
 rw[if_neg h5,CA (by omega) (by omega),Bool.not_true,cond_false,bG (by omega) (by omega) (by omega),cond_true,Int.toNat_natCast]
 have sS:=(kb.1 h2).1
 have:=Bt N hN (w.length+1) N _ _ (Bu (by omega) qv h2 h4 h3 hc (by omega)) (by omega) (by omega)
 rw[Nat.sub_self]at this
 exact this
end VM
end
section
namespace VM
open Go VM.F
theorem Ig{t:Int}{w caps:List Int}(qv:t<9223372036854775808)(hc:Cx caps)(hx:(pJ t w caps).2.2=0):Full t w caps (pJ t w caps).1 (pJ t w caps).2.1:=by
 unfold pJ at*
 by_cases h1:t<0∨may w=false∨caps.length≠w.length∨may caps=false
 ·rw[if_pos h1]at hx;exact absurd hx (by decide)
 ·rw[if_neg h1]at hx ⊢
  by_cases h2:9223372036854775808≤w.sum
  ·rw[if_pos h2]at hx;exact absurd hx (by decide)
  ·rw[if_neg h2]
   have h3:may w=true:=by cases h:may w<;>simp_all
   have h4:may caps=true:=by cases h:may caps<;>simp_all
   have h5:caps.length=w.length:=Decidable.byContradiction fun h=>h1 (Or.inr (Or.inr (Or.inl h)))
   exact E1 _ _ _ (Bu (by omega) qv h3 h4 h5 hc (by omega)) (Or.inl (by have:=Oi w caps (List.replicate w.length 0);omega))
end VM
end
section
namespace VM
open Go VM.F
end VM
end
section
namespace VM
open Go VM.F
theorem CD{c:ae}{b:ah}(h:et c b=true): ∀x∈b.2.2.2.1,Cv x.2.1 c.1.length:=fun x hx=>by
 have hk:=(pB h).2
 have h0:=(kF hk).2 x hx
 unfold et at h
 simp only[Bool.and_eq_true]at h
 have h1:=of_decide_eq_true h.2.2.2.2.2.2.2.2.1
 obtain⟨i,hi,e⟩:=List.getElem_of_mem hx
 have h2:=h1 i hi
 unfold gw at h2
 rw[List.getD_eq_getElem?_getD,List.getElem?_eq_getElem hi]at h2
 simp only[Option.getD_some,e]at h2
 have g: ∀u v:Int,bU u v→NJ v c.1.length→Cv v c.1.length:=fun u v h1 h2=>by unfold bU at h1;unfold NJ at h2;unfold Cv;omega
 exact g _ _ h0.1 h2.2
end VM
end
section
namespace VM
open Go VM.F
end VM
end
section
namespace VM
open Go VM.F
theorem wD{k:Int}: ∀{i:Nat} {l:ay},jm k i l≠[]→(i:Int)≤(jm k i l).getD 0 0∧(jm k i l).getD 0 0<((i+l.length:Nat):Int)
 |i,[],h=>absurd rfl h
 |i,y::t,h=>by
  rw[uF]at h ⊢
  by_cases e:y.1=k
  ·rw[if_pos e,List.length_cons]
   show(i:Int)≤(i:Int)∧(i:Int)<_
   omega
  ·rw[if_neg e]at h ⊢
   have:=wD h
   rw[List.length_cons];omega
def ai1(c:ae):Int:=c.2.2.2.2.2.2.1
end VM
end
section
namespace VM
open Go VM.F
end VM
end
section
namespace VM
open Go VM.F
end VM
end
section
namespace VM
open Go VM.F
def zIn(z:Int×Int)(n:Nat):Prop:=0≤z.1∧z.1≤1000000000*(n:Int)∧0≤z.2∧z.2≤1000000000*(n:Int)
theorem zIn.mono{z:Int×Int}{n m:Nat}(h:zIn z n)(hm:n≤m):zIn z m:=by unfold zIn at*;omega
end VM
end
section
namespace VM
open Go VM.F
end VM
end
section
namespace VM
open Go VM.F
end VM
end
section
namespace VM
open Go VM.F
end VM
end
section
namespace VM
open Go VM.F
end VM
end
section
namespace VM
open Go VM.F
def qIn(q:Int):Prop:=1≤q∧q≤1000000000
instance(q:Int):Decidable (qIn q):=by unfold qIn;infer_instance
def uK(a b c d:Int):Prop:=(1≤a∧a≤1099511627776)∧(0≤b∧b<6)∧(c=1∨c=2)∧qIn d
instance(a b c d:Int):Decidable (uK a b c d):=by unfold uK;infer_instance
def xH(h:bs):Prop:=uK h.1 h.2.1 h.2.2.1 h.2.2.2.1
instance(h:bs):Decidable (xH h):=by unfold xH;infer_instance
theorem zi(N:Nat)(h:bs):RA N h=some (decide (xH h)):=by
 unfold RA
 rw[iR h.2.2.2.1]
 rw[eb,tY,vn,yJ,eb,eb,eb]
 congr 1
 rw[Bool.eq_iff_iff,decide_eq_true_iff]
 unfold xH uK qIn
 simp only[Bool.and_eq_true,Bool.or_eq_true,Bool.not_eq_true',decide_eq_true_eq,decide_eq_false_iff_not]
 omega
end VM
end
section
namespace VM
open Go VM.F Go.RowKit
def hR:aj:=[((1:Int),((0:Int),((-90:Int),()))),((5:Int),((1:Int),((90:Int),())))]
def hS:aj:=[((0:Int),((0:Int),((5:Int),()))),((0:Int),((1:Int),((20:Int),()))),((1:Int),((0:Int),((-5:Int),()))),((1:Int),((1:Int),((-20:Int),())))]
def hB:ah:=([((1:Int),((1:Int),()))],([((1:Int),((1:Int),((1:Int),((50:Int),()))))],(hR,(hS,([(100:Int),(7:Int)],(cY,()))))))
namespace Pure
end Pure
end VM
end
section
namespace VM
open Go VM.F
def Ok{α:Type}(P:α→Prop)(o:Option α):Prop:= ∃r,o=some r∧P r
theorem ag{α:Type}{P:α→Prop}{r:α}(h:P r):Ok P (some r):=⟨r,rfl,h⟩
theorem af{α β:Type}{P:β→Prop}{Q:α→Prop}{o:Option α}{f:α→Option β}(h:Ok Q o)(hf: ∀r,Q r→Ok P (f r)):Ok P (o.bind f):=by
 obtain⟨r,rfl,hr⟩:=h
 exact hf r hr
theorem kK{α:Type}{P:α→Prop}{o:Option α}{r:α}(h:o=some r)(hr:P r):Ok P o:=⟨r,h,hr⟩
theorem og{α:Type}{P:α→Prop}{b:Bool}{x y:Option α}(hx:b=true→Ok P x)(hy:b=false→Ok P y):Ok P (cond b x y):=by
 cases b
 ·exact hy rfl
 ·exact hx rfl
theorem bx{α:Type}{P:α→Prop}{b:Bool}{x y:Option α}(hx:b=false→Ok P x)(hy:b=true→Ok P y):Ok P (cond (!b) x y):=by
 cases b
 ·exact hx rfl
 ·exact hy rfl
theorem au{α:Type}{P:α→Prop}{a b:Int}{x y:Option α}(hx:a<b→Ok P x)(hy:b≤a→Ok P y):Ok P (cond (aM a b) x y):=by
 rw[bO]
 split
 ·exact hx (by assumption)
 ·exact hy (by omega)
theorem c8{α:Type}{P:α→Prop}{a b:Int}{x y:Option α}(hx:a≤b→Ok P x)(hy:b<a→Ok P y):Ok P (cond (bV a b) x y):=by
 rw[bH]
 split
 ·exact hx (by assumption)
 ·exact hy (by omega)
theorem ok_eq{α:Type}{P:α→Prop}{a b:Int}{x y:Option α}(hx:a=b→Ok P x)(hy:a≠b→Ok P y):Ok P (cond (az a b) x y):=by
 rw[aB]
 split
 ·exact hx (by assumption)
 ·exact hy (by assumption)
theorem bI{α:Type}{P:α→Prop}{a b:Int}{x y:Option α}(hx:a≠b→Ok P x)(hy:a=b→Ok P y):Ok P (cond (!az a b) x y):=by
 rw[cond_not];exact ok_eq hy hx
theorem aw{α:Type}{P:α→Prop}{i:Int}{n:Nat}{x y:Option α}(h:0≤i∧i<(n:Int))(hx:Ok P x):Ok P (cond (aN i n) x y):=by
 rw[aJ h.1 h.2];exact hx
theorem aG{α:Type}{P:α→Prop}{n:Nat}{x y:Option α}(h:n<68719476736)(hx:Ok P x):Ok P (cond (small n) x y):=by
 rw[bh h];exact hx
theorem RB{α:Type}{P:α→Prop}{l c:Int}{x y:Option α}(h:0≤l∧l≤c∧c<68719476736)(hx:Ok P x):Ok P (cond (fP l c) x y):=by
 rw[bG h.1 h.2.1 h.2.2];exact hx
theorem CE{α:Type}{P:α→Prop}{l h m n:Int}{x y:Option α}(hh:0≤l∧l≤h∧h≤m∧m≤n)(hx:Ok P x):Ok P (cond (fu l h m n) x y):=by
 rw[cr hh.1 hh.2.1 hh.2.2.1 hh.2.2.2];exact hx
theorem gz{σ β:Type}{P:β→Prop}{F:Nat→Int→σ→Option β}{len:Nat}(I:Nat→σ→Prop)
  (hs: ∀n i s,i<len→I i s→(∀s',I (i+1) s'→Ok P (F n ((i+1:Nat):Int) s'))→Ok P (F (n+1) (i:Int) s)) (he: ∀n s,I len s→Ok P (F (n+1) (len:Int) s)):
  ∀m n i s,len-i≤m→m<n→i≤len→I i s→Ok P (F n (i:Int) s)
 |m,0,i,s,_,hn,_,_=>by omega
 |m,n+1,i,s,hm,hn,hi,hI=>by
  by_cases h:i<len
  ·exact hs n i s h hI fun s' rZ=>gz I hs he (m-1) n (i+1) s' (by omega) (by omega) (by omega) rZ
  ·have:i=len:=by omega
   subst this
   exact he n s hI
theorem bf{σ β:Type}{P:β→Prop}{F:Nat→Int→σ→Option β}{len:Nat}(I:Nat→σ→Prop){N:Nat}{s:σ}(h0:I 0 s)(hN:len<N)
  (hs: ∀n i s,i<len→I i s→(∀s',I (i+1) s'→Ok P (F n ((i+1:Nat):Int) s'))→Ok P (F (n+1) (i:Int) s)) (he: ∀n s,I len s→Ok P (F (n+1) (len:Int) s)):Ok P (F N 0 s):=
 gz I hs he len N 0 s (by omega) hN (by omega) h0
theorem hO{β:Type}{P:β→Prop}{F:Nat→Int→Option β}{len N:Nat}(hN:len<N)
  (hs: ∀n i,i<len→Ok P (F n ((i+1:Nat):Int))→Ok P (F (n+1) (i:Int))) (he: ∀n,Ok P (F (n+1) (len:Int))):Ok P (F N 0):=
 bf (σ:=Unit) (F:=fun n i _=>F n i) (fun _ _=>True) (s:=()) trivial hN (fun n i _ h _ hr=>hs n i h (hr () trivial)) fun n _ _=>he n
theorem xI{σ β:Type}{P:β→Prop}{F:Nat→Int→σ→Option β}(I:Nat→σ→Prop)
  (hs: ∀n (k:Nat) s,I (k+1) s→(∀s',I k s'→Ok P (F n (k:Int) s'))→Ok P (F (n+1) ((k+1:Nat):Int) s)) (he: ∀n s,I 0 s→Ok P (F (n+1) 0 s)):
  ∀(k n:Nat) s,k<n→I k s→Ok P (F n (k:Int) s)
 |0,0,s,hn,_=>by omega
 |0,n+1,s,hn,hI=>he n s hI
 |k+1,0,s,hn,_=>by omega
 |k+1,n+1,s,hn,hI=>hs n k s hI fun s' rZ=>xI I hs he k n s' (by omega) rZ
def G(m:Nat):(τ:Ty)→τ.den→Prop
 | .int .i64,x=>aD x
 | .int .u64,x=>0≤x∧x<18446744073709551616
 | .slice e,l=>List.length l≤m∧ ∀x∈(l:List e.den),G m e x
 | .pair a b,x=>G m a x.1∧G m b x.2
 |_,_=>True
theorem G.mono{m n:Nat}(h:m≤n): ∀{τ:Ty} {x:τ.den},G m τ x→G n τ x
 | .int k,x,hx=>by cases k<;>exact hx
 | .slice e,l,hl=>⟨Nat.le_trans hl.1 h,fun x hx=>G.mono h (hl.2 x hx)⟩
 | .pair a b,x,hx=>⟨G.mono h hx.1,G.mono h hx.2⟩
 | .bool,_,_=>trivial
 | .str,_,_=>trivial
 | .unit,_,_=>trivial
 | .arr _ _,_,_=>trivial
theorem G.nil{m:Nat}{e:Ty}:G m (.slice e) ([]:List e.den):=⟨Nat.zero_le _,fun x hx=>nomatch hx⟩
theorem G.app{m:Nat}{e:Ty}{l:List e.den}{x:e.den}(h:G m (.slice e) l)(hx:G m e x):G (m+1) (.slice e) (l++[x]):=
 ⟨by have:=h.1;rw[List.length_append,List.length_singleton];omega,fun y hy=>by
  rcases List.mem_append.1 hy with hy|hy
  ·exact G.mono (by omega) (h.2 y hy)
  ·rw[List.mem_singleton.1 hy];exact G.mono (by omega) hx⟩
theorem G.get{m:Nat}{e:Ty}{l:List e.den}{d:e.den}(h:G m (.slice e) l)(hd:G m e d)(k:Nat):G m e (l.getD k d):=by
 by_cases hk:k<l.length
 ·rw[List.getD_eq_getElem?_getD,List.getElem?_eq_getElem hk];exact h.2 _ (List.getElem_mem hk)
 ·rw[List.getD_eq_getElem?_getD,List.getElem?_eq_none (by omega)];exact hd
theorem G.zero(m:Nat): ∀τ:Ty,G m τ τ.zero
 | .int k=>by cases k<;>first|trivial|exact⟨by decide,by decide⟩
 | .slice _=>G.nil
 | .pair a b=>⟨G.zero m a,G.zero m b⟩
 | .bool=>trivial
 | .str=>trivial
 | .unit=>trivial
 | .arr _ _=>trivial
theorem G.at{m:Nat}{e:Ty}{l:List e.den}(h:G m (.slice e) l)(k:Nat):G m e (l.getD k e.zero):=h.get (G.zero m e) k
theorem G.set{m:Nat}{e:Ty}{l:List e.den}{x:e.den}(h:G m (.slice e) l)(hx:G m e x)(k:Nat):G m (.slice e) (l.set k x):=
 ⟨by rw[List.length_set];exact h.1,fun y hy=>by
  rcases List.mem_or_eq_of_mem_set hy with hy|rfl
  ·exact h.2 y hy
  ·exact hx⟩
theorem dJ(x:Int):aD (W .i64 x):=by
 rw[jH];unfold aD;split<;>omega
def Bg(k:Nat)(z:av):Prop:= ∃v,z=bZ v∧Fit v k
theorem Bg.mono{j k:Nat}{z:av}(h:Bg j z)(hk:j≤k):Bg k z:=by
 obtain⟨v,e,f⟩:=h
 exact⟨v,e,Fit.mono f hk⟩
theorem Bg.zero:Bg 1 (false,(([]:List Int),())):=⟨0,gr.symm,by unfold Fit;decide⟩
theorem aY(N:Nat)(hN:4000000≤N){x:Int}(h:aD x):Ok (Bg 2) (fY N x):=kK (eS N (by omega) h.1 h.2) ⟨x,rfl,Fit.i64 h.1 h.2⟩
theorem gA(N:Nat)(hN:4000000≤N){k:Nat}(hk:k≤90000){u v:av}(hu:Bg k u)(hv:Bg k v):Ok (Bg (k+1)) (tU N u v):=by
 obtain⟨a,rfl,ha⟩:=hu
 obtain⟨b,rfl,hb⟩:=hv
 exact kK (fH N hN (Fit.mono ha (by omega)) (Fit.mono hb (by omega))) ⟨_,rfl,Fit.add ha hb⟩
theorem uM(N:Nat)(hN:4000000≤N){k:Nat}(hk:k≤90000){u v:av}(hu:Bg k u)(hv:Bg k v):Ok (Bg (k+1)) (Jp N u v):=by
 obtain⟨a,rfl,ha⟩:=hu
 obtain⟨b,rfl,hb⟩:=hv
 exact kK (rp N hN (Fit.mono ha (by omega)) (Fit.mono hb (by omega))) ⟨_,rfl,by rw[Int.sub_eq_add_neg];exact Fit.add ha (Fit.neg hb)⟩
theorem oP(N:Nat)(hN:4000000≤N){k:Nat}(hk:k≤90000){u:av}(hu:Bg k u):Ok (Bg k) (Mg N u):=by
 obtain⟨a,rfl,ha⟩:=hu
 exact kK (oJ N hN (Fit.mono ha (by omega))) ⟨_,rfl,Fit.neg ha⟩
theorem qW(N:Nat)(hN:4000000≤N){k:Nat}(hk:k≤90000){u:av}(hu:Bg k u):Ok (Bg k) (Ny N u):=by
 obtain⟨a,rfl,ha⟩:=hu
 exact kK (Nx N hN (Fit.mono ha (by omega))) ⟨_,rfl,Fit.of_le ha (by omega)⟩
theorem jn(N:Nat)(hN:4000000≤N){j k:Nat}(hj:j≤90000)(hk:k≤90000){u v:av}(hu:Bg j u)(hv:Bg k v):Ok (Bg (j+k)) (fL N u v):=by
 obtain⟨a,rfl,ha⟩:=hu
 obtain⟨b,rfl,hb⟩:=hv
 exact kK (En N hN (Fit.mono ha hj) (Fit.mono hb hk)) ⟨_,rfl,Fit.mul ha hb⟩
theorem xJ(N:Nat){k:Nat}{u:av}(hu:Bg k u):Ok (fun _=>True) (Jq N u):=by
 obtain⟨a,rfl,ha⟩:=hu
 exact kK (pb N a) trivial
theorem oh(N:Nat)(hN:4000000≤N){j k:Nat}(hj:j≤90000)(hk:k≤90000){u v:av}(hu:Bg j u)(hv:Bg k v):Ok (fun _=>True) (GW N u v):=by
 obtain⟨a,rfl,ha⟩:=hu
 obtain⟨b,rfl,hb⟩:=hv
 exact kK (Hv N hN (Fit.mono ha (by omega)) (Fit.mono hb (by omega))) trivial
theorem Ih(v:Int):aD (w3 v).1:=by
 by_cases h:aD v
 ·rw[ru h];exact h
 ·rw[uq h];unfold aD;decide
theorem s9(N:Nat){k:Nat}{u:av}(hu:Bg k u):Ok (fun r=>aD r.1) (qH N u):=by
 obtain⟨a,rfl,ha⟩:=hu
 exact kK (oc N a) (Ih a)
end VM
end
section
namespace VM
open Go VM.F
abbrev L3(m:Nat)(l:aj):Prop:=G m (.slice fN) l
def fO(m:Nat)(p:bl):Prop:=p.length≤m∧ ∀y∈p,Bg 8 y.2.2.1
theorem fO.at{m:Nat}{p:bl}(h:fO m p)(i:Nat):Bg 8 (p.getD i ((0:Int),((0:Int),((false,kX),())))).2.2.1:=by
 by_cases hk:i<p.length
 ·rw[List.getD_eq_getElem?_getD,List.getElem?_eq_getElem hk];exact h.2 _ (List.getElem_mem hk)
 ·rw[List.getD_eq_getElem?_getD,List.getElem?_eq_none (by omega)];exact Bg.mono Bg.zero (by decide)
theorem fO.nil{m:Nat}:fO m []:=⟨Nat.zero_le _,fun x hx=>nomatch hx⟩
theorem fO.app{m n:Nat}{p q:bl}(h:fO m p)(h':fO n q):fO (m+n) (p++q):=
 ⟨by have:=h.1;have:=h'.1;rw[List.length_append];omega,fun y hy=>(List.mem_append.1 hy).elim (h.2 y) (h'.2 y)⟩
theorem fO.mono{m n:Nat}{p:bl}(h:fO m p)(hm:m≤n):fO n p:=⟨Nat.le_trans h.1 hm,h.2⟩
theorem wE(N:Nat){k:Nat}{u:av}(hu:Bg k u):Ok (fun r=>aD r.1) (HR N u):=by
 unfold HR
 refine af (s9 N hu) fun r h=>bx (fun _=>ag (by unfold aD;decide)) fun _=>ok_eq (fun _=>ag (by unfold aD;decide)) fun _=>ag h
theorem fj{x:Int}(h0: -1000000≤x)(h1:x≤1000000):aD x:=by unfold aD;omega
theorem G3{m:Nat}{a b c:Int}(ha:aD a)(hb:aD b)(hc:aD c):G m fN (a,(b,(c,()))):=⟨ha,hb,hc,trivial⟩
theorem aS:aD 0:=by unfold aD;decide
theorem Lr(N:Nat)(hN:4000000≤N){x k n:Int}{p:bl}(hx:aD x)(hp:fO 50000 p):Ok (fun r=>aD r.1) (jj N x k n p):=by
 have hl:=hp.1
 refine bf (len:=p.length) (F:=fun n' i (s:av×Bool)=>jj.l3 N n' x k n p s.1 s.2 i) (s:=(_,_)) (fun i s=>Bg (8+i) s.1) (Bg.mono Bg.zero (by omega)) (by omega) (fun n' i s hi hI hr=> ?_) (fun n' s hI=> ?_)
 all_goals unfold jj.l3 jj.ig
 ·rw[aq (x:=(i:Int)+1) (by omega) (by omega),aa i]
  have h1:=hr (s.1,s.2) (Bg.mono hI (by omega))
  repeat' first|exact h1|refine aw ⟨by omega,by omega⟩ ?_|refine au (fun _=> ?_) (fun _=> ?_)|refine ok_eq (fun _=> ?_) (fun _=> ?_)|(exfalso;omega)|exact af (gA N hN (by omega) hI (Bg.mono (hp.at _) (by omega))) fun r h=>hr (r,true) h
 ·refine au (fun _=>by omega) fun _=>bx (fun _=>ag hx) fun _=>af (aY N hN hx) fun r h=>af (gA N hN (by omega) hI (Bg.mono h (by omega))) fun r h=>af (s9 N h) fun r h=>ag h
theorem RC(N:Nat)(hN:4000000≤N){l:aj}{p:bl}{m:Nat}(hm:m≤50000)(hl:L3 m l)(hp:fO 50000 p):Ok (fun r=>L3 200 r.1) (ck N l p):=by
 have tH:=hl.1
 refine gz (len:=8) (F:=fun n k (s:aj×Int)=>ck.l4 N n l p s.1 s.2 k) (fun i s=>L3 (25*i) s.1∧0≤s.2) (fun n i s hi hI hr=> ?_) (fun n s hI=> ?_) 8 N 1 (_,_) (by omega) (by omega) (by omega) ⟨G.nil,Int.le_refl 0⟩
 all_goals unfold ck.l4 ck.ca
 ·refine c8 (fun _=> ?_) (fun _=>by omega)
  refine bf (len:=25) (F:=fun n' j (s:aj×Int)=>ck.l7 N (ck.l4 N n) n' l p s.1 s.2 (i:Int) j) (s:=s) (fun j s=>L3 (25*i+j) s.1∧0≤s.2) hI (by omega) (fun n' j s hj hI dr=> ?_) (fun n' s hI=> ?_)
  all_goals unfold ck.l7 ck.lD
  ·have jr: ∀(k x:Int),0≤k→aD x→Ok (fun r=>L3 200 r.1) (ck.JC N (ck.l4 N n) (ck.l7 N (ck.l4 N n) n') l p s.1 k (i:Int) (j:Int) x):=fun k x hk hx=>by
    unfold ck.JC ck.Cp
    rw[aq (x:=(j:Int)+1) (by omega) (by omega),aa j]
    have hs:=hI.1.1
    refine af (Lr N hN hx hp) fun r h=>bx (fun _=>ag G.nil) fun _=>bI (fun _=>aG (by rw[List.length_singleton];omega) (dr (_,k) ⟨G.app hI.1 (G3 (fj (by omega) (by omega)) (fj (by omega) (by omega)) h),hk⟩)) fun _=>dr (s.1,k) ⟨G.mono (by omega) hI.1,hk⟩
   have h0:=jr s.2 0 hI.2 aS
   have Wr:=hI.2
   repeat' first|exact h0|refine aw ⟨by omega,by omega⟩ ?_|refine au (fun _=> ?_) (fun _=> ?_)|refine c8 (fun _=> ?_) (fun _=> ?_)|refine ok_eq (fun _=> ?_) (fun _=> ?_)|(exfalso;omega)|exact jr _ _ (by rw[aq (x:=s.2+1) (by omega) (by omega)];omega) (G.at hl _).2.2.1
  ·rw[aq (x:=(i:Int)+1) (by omega) (by omega),aa i]
   exact c8 (fun _=>by omega) fun _=>hr s ⟨G.mono (by omega) hI.1,hI.2⟩
 ·exact c8 (fun _=>by omega) fun _=>ag (G.mono (by decide) hI.1)
theorem Ii(N:Nat)(hN:4000000≤N){l t:aj}{m:Nat}(hm:m≤50000)(hl:L3 m l)(ht:L3 50000 t):Ok (fun r=>L3 200 r.1) (bw N l t):=by
 have tH:=hl.1
 have htl:=ht.1
 refine bf (len:=25) (F:=fun n k (s:aj×Int)=>bw.l4 N n l t s.1 s.2 k) (s:=(_,_)) (fun i s=>L3 (6*i) s.1∧0≤s.2) ⟨G.nil,Int.le_refl 0⟩ (by omega) (fun n i s hi hI hr=> ?_) (fun n s hI=> ?_)
 all_goals unfold bw.l4 bw.ca
 ·refine c8 (fun _=> ?_) (fun _=>by omega)
  refine bf (len:=6) (F:=fun n' j (s:aj×Int)=>bw.l7 N (bw.l4 N n) n' l t s.1 s.2 (i:Int) j) (s:=s) (fun j s=>L3 (6*i+j) s.1∧0≤s.2) hI (by omega) (fun n' j s hj hI dr=> ?_) (fun n' s hI=> ?_)
  all_goals unfold bw.l7 bw.lD
  ·have jr: ∀(k x:Int),0≤k→aD x→Ok (fun r=>L3 200 r.1) (bw.JC N (bw.l4 N n) (bw.l7 N (bw.l4 N n) n') l t s.1 k (i:Int) (j:Int) x false):=fun k x hk hx=>by
    unfold bw.JC bw.Cp
    have hs:=hI.1.1
    have tD: ∀y:Int,aD y→Ok (fun r=>L3 200 r.1) (cond (!az y 0) (cond (small (s.1.length+[(((i:Int),((j:Int),(y,()))):cy)].length)) (bw.l7 N (bw.l4 N n) n' l t (s.1++[((i:Int),((j:Int),(y,())))]) k (i:Int) (W .i64 ((j:Int)+1))) none) (bw.l7 N (bw.l4 N n) n' l t s.1 k (i:Int) (W .i64 ((j:Int)+1)))):=fun y hy=>by
     rw[aq (x:=(j:Int)+1) (by omega) (by omega),aa j]
     exact bI (fun _=>aG (by rw[List.length_singleton];omega) (dr (_,k) ⟨G.app hI.1 (G3 (fj (by omega) (by omega)) (fj (by omega) (by omega)) hy),hk⟩)) fun _=>dr (s.1,k) ⟨G.mono (by omega) hI.1,hk⟩
    refine bf (len:=t.length) (F:=fun Bv u (z:av×Bool)=>bw.Dd N (bw.l4 N n) (bw.l7 N (bw.l4 N n) n') Bv l t s.1 k (i:Int) (j:Int) x z.2 z.1 u) (s:=(_,_)) (fun u z=>Bg (3+u) z.1) (Bg.mono Bg.zero (by omega)) (by omega) (fun Bv u z hu hz Om=> ?_) (fun Bv z hz=> ?_)
    all_goals unfold bw.Dd bw.Co
    ·rw[aq (x:=(u:Int)+1) (by omega) (by omega),aa u]
     have h1:=Om (z.1,z.2) (Bg.mono hz (by omega))
     repeat' first|exact h1|refine aw ⟨by omega,by omega⟩ ?_|refine au (fun _=> ?_) (fun _=> ?_)|refine ok_eq (fun _=> ?_) (fun _=> ?_)|(exfalso;omega)|exact af (aY N hN (G.at ht _).2.2.1) fun r h=>af (gA N hN (by omega) hz (Bg.mono h (by omega))) fun r h=>Om (r,true) h
    ·exact au (fun _=>by omega) fun _=>og (fun _=>af (aY N hN hx) fun r h=>af (gA N hN (by omega) hz (Bg.mono h (by omega))) fun r h=>af (wE N h) fun r h=>bx (fun _=>ag G.nil) fun _=>tD _ h) fun _=>tD _ hx
   have h0:=jr s.2 0 hI.2 aS
   have Wr:=hI.2
   repeat' first|exact h0|refine aw ⟨by omega,by omega⟩ ?_|refine au (fun _=> ?_) (fun _=> ?_)|refine c8 (fun _=> ?_) (fun _=> ?_)|refine ok_eq (fun _=> ?_) (fun _=> ?_)|(exfalso;omega)|exact jr _ _ (by rw[aq (x:=s.2+1) (by omega) (by omega)];omega) (G.at hl _).2.2.1
  ·rw[aq (x:=(i:Int)+1) (by omega) (by omega),aa i]
   exact au (fun _=>by omega) fun _=>hr s ⟨G.mono (by omega) hI.1,hI.2⟩
 ·exact c8 (fun _=>by omega) fun _=>ag (G.mono (by decide) hI.1)
theorem G.eZ{m:Nat}:G m aC (a6,(cn,(bc,(bc,(cQ,(cY,())))))):=G.zero m aC
theorem n0(N:Nat)(hN:4000000≤N){b:ah}{s:aj}{p:bl}{m:Nat}(h2:200≤m)(hm:m≤50000)(hb:G m aC b)(hs:L3 50000 s)(hp:fO 50000 p):Ok (fun r=>G m aC r.1) (vu N b s p):=by
 unfold vu
 exact af (Ii N hN hm hb.2.2.2.1 hs) fun r h=>bx (fun _=>ag G.eZ) fun _=>af (RC N hN hm hb.2.2.1 hp) fun r' h'=>bx (fun _=>ag G.eZ) fun _=>ag ⟨hb.1,hb.2.1,G.mono h2 h',G.mono h2 h,hb.2.2.2.2⟩
end VM
end
section
namespace VM
open Go VM.F
theorem cg{α β:Type}{P:β→Prop}{o:Option α}{r:α}{f:α→Option β}(h:o=some r)(hf:Ok P (f r)):Ok P (o.bind f):=by rw[h];exact hf
theorem G.wf{m:Nat}(hm:m≤50000){b:ah}(h:G m aC b):uD b:=by
 obtain⟨h1,h2,h3,h4,h5,h6,_⟩:=h
 exact⟨⟨Nat.le_trans h1.1 (by omega),Nat.le_trans h2.1 (by omega),Nat.le_trans h3.1 (by omega),Nat.le_trans h4.1 (by omega),Nat.le_trans h5.1 (by omega),Nat.le_trans h6.1 (by omega),fun x hx=>(h3.2 x hx).2.2.1,fun x hx=>(h4.2 x hx).2.2.1⟩,Nat.le_trans h3.1 (by omega),Nat.le_trans h4.1 (by omega)⟩
theorem dH(N:Nat)(hN:5000000≤N){c:ae}{b:ah}{m:Nat}(hm:m≤50000)(h:G m aC b):bD N c b=some (et c b):=Ex N hN (G.wf hm h).w
theorem RD{x:Int}(h:ka x):aD x:=by unfold ka at h;unfold aD;omega
theorem Ap(N:Nat)(hN:4000000≤N)(t:uE)(p:Int):Ok (fun r=>fO 2 r.1) (RE N t p):=by
 unfold RE
 refine cg (Bi N t) (bx (fun _=>ag fO.nil) fun ht=>cg (iF N p) (bx (fun _=>ag fO.nil) fun _=>af (aY N hN (dJ _)) fun a ha=>af (aY N hN ?_) fun q hq=>af (jn N hN (by omega) (by omega) ha hq) fun x hx=>af (xJ N hx) fun _ _=>ok_eq (fun _=>ag fO.nil) fun _=> ?_))
 ·have:=of_decide_eq_true ht
  unfold rB jl at this
  exact Int.le_trans (by decide) this.2.2.2.2.1.1 |> fun h=>⟨h,Int.lt_of_le_of_lt this.2.2.2.2.1.2 (by decide)⟩
 ·unfold Ij
  have hr: ∀a:Int,Ok (fun _=>True) (cond (az a 0) (some ((2:Int),(0:Int))) (some ((5:Int),a))):=fun a=>ok_eq (fun _=>ag trivial) fun _=>ag trivial
  refine af (hr _) fun _ _=>af (hr _) fun _ _=>af (oP N hN (by omega) hx) fun y hy=>ag ⟨Nat.le_refl 2,fun z hz=> ?_⟩
  rcases List.mem_cons.1 hz with rfl|hz
  ·exact Bg.mono hx (by omega)
  ·rw[List.mem_singleton.1 hz];exact Bg.mono hy (by omega)
theorem E3(N:Nat)(hN:200000≤N){b:ah}{m:Nat}(hm:m≤50000)(h:G m aC b)(id:Int):Ok (fun _=>True) (Cl N b id):=kK (uj N b (G.wf hm h).w.a hN id) trivial
theorem Bx(N:Nat)(hN:5000000≤N)(c:ae){b:ah}{l:bk}{m:Nat}(h2:200≤m)(hm:m≤50000)(hb:G m aC b):Ok (fun r=>G m aC r.1) (fk N c b l):=by
 unfold fk fk.b
 refine cg (dH N hN hm hb) (bx (fun _=>ag G.eZ) fun hB=>au (fun _=>ag G.eZ) fun hl=> ?_)
 obtain⟨hp,_⟩:=gX hB
 refine bf (len:=l.length) (F:=fun n i (_:Unit)=>fk.l4 N n l c b (a6,(cn,(bc,(bc,(cQ,(cY,())))))) i) (s:=()) (fun i _=> ∀j,j<i→rB (l.getD j jC)) (fun j hj=>by omega) (by omega) (fun n i _ hi hI hr=> ?_) (fun n _ hI=> ?_)
 all_goals unfold fk.l4 fk.ca
 ·rw[aq (x:=(i:Int)+1) (by omega) (by omega),aa i]
  refine au (fun _=>aw ⟨by omega,by omega⟩ (cg (Bi N _) (bx (fun _=>ag G.eZ) fun ht=>hr () fun j hj=> ?_))) fun _=>by omega
  by_cases e:j=i
  ·rw[e];exact of_decide_eq_true ht
  ·exact hI j (by omega)
 ·refine au (fun _=>by omega) fun _=> ?_
  refine bf (len:=l.length) (F:=fun n i (s:aj×bl)=>fk.By N n l c b (a6,(cn,(bc,(bc,(cQ,(cY,())))))) s.1 s.2 i) (s:=(_,_)) (fun i s=>L3 (2*i) s.1∧fO (2*i) s.2) ⟨G.nil,fO.nil⟩ (by omega) (fun n i s hi hJ hr=> ?_) (fun n s hJ=> ?_)
  all_goals unfold fk.By fk.zj
  ·have ht:=hI i hi
   unfold rB jl at ht
   have I5:=hJ.1.1
   have Wr:=hJ.2.1
   have g64: ∀x:Int,0≤x∧x≤1000000→aD x:=fun x h=>fj (by omega) (by omega)
   dsimp only
   rw[aq (x:=(i:Int)+1) (by omega) (by omega),aa i,Int.toNat_natCast]
   refine au (fun _=>aw ⟨by omega,by omega⟩ (af (E3 N (by omega) hm hb _) fun _ _=>bx (fun _=>ag G.eZ) fun _=>af (E3 N (by omega) hm hb _) fun _ _=>bx (fun _=>ag G.eZ) fun _=>c8 (fun _=>ag G.eZ) fun dE=>aG ?_ (aw ⟨ht.2.2.2.1.1,by omega⟩ (af (Ap N (by omega) _ _) fun r h=>aG ?_ (hr (_,_) ⟨?_,fO.mono (fO.app hJ.2 h) (by omega)⟩))))) fun _=>by omega
   ·rw[List.length_cons,List.length_singleton];omega
   ·have:=h.1;omega
   ·have hq:aD (l.getD i jC).2.2.2.1:=⟨Int.le_trans (by decide) ht.2.2.2.2.1.1,Int.lt_of_le_of_lt ht.2.2.2.2.1.2 (by decide)⟩
    have kg:aD (l.getD i jC).2.2.1:=g64 _ ⟨ht.2.2.2.1.1,Int.le_trans (Int.le_of_lt ht.2.2.2.1.2) (by decide)⟩
    have h1:=G.app (G.app hJ.1 (G3 (g64 _ ⟨ht.1.1,Int.le_trans ht.1.2 (by decide)⟩) kg hq)) (G3 (g64 _ ⟨ht.2.1.1,Int.le_trans ht.2.1.2 (by decide)⟩) kg (dJ (0-(l.getD i jC).2.2.2.1)))
    rw[List.append_assoc]at h1
    exact G.mono (by omega) h1
  ·exact au (fun _=>by omega) fun _=>af (n0 N (by omega) h2 hm hb (G.mono (by omega) hJ.1) (fO.mono hJ.2 (by omega))) fun r h=>ag h
end VM
end
