/- A part of the proof of HedgeFills of layer 22: what the functions compute, in plain words. -/
import Derived.Test.YtocmlaipoebfeaaGreatPlain1
import Derived.Test.YtocmlaipoebfeaaGreatPlain0
import Derived.Test.YtocmlaipoebfeaaGreatPlain3
set_option linter.all false
section
namespace VM
open Go VM.F
def vM(l:List Int)(k:Int):Int:=l.getD k.toNat 0
def ins(l:List Int):List Int→Int→List Int
 |[],i=>[i]
 |k::t,i=>if vM l i≤vM l k then k::ins l t i else i::k::t
def dE(l:List Int):Nat→List Int
 |0=>[]
 |n+1=>ins l (dE l n) n
def gT(l:List Int):List Int:=dE l l.length
def tL(l:List Int)(a b:Int):Prop:=vM l b<vM l a∨(vM l b=vM l a∧a<b)
theorem MJ(l:List Int): ∀(o:List Int) (i:Int),(ins l o i).length=o.length+1
 |[],i=>rfl
 |k::t,i=>by unfold ins;split<;>simp[MJ l t i]
theorem o4(l:List Int): ∀n,(dE l n).length=n
 |0=>rfl
 |n+1=>by unfold dE;rw[MJ,o4 l n]
theorem ur(l:List Int):(gT l).length=l.length:=o4 l _
theorem Ez(l:List Int){x:Int}: ∀{o:List Int} {i:Int},x∈ins l o i↔x=i∨x∈o
 |[],i=>by simp[ins]
 |k::t,i=>by
  unfold ins;split
  ·rw[List.mem_cons,Ez l,List.mem_cons]
   exact⟨fun h=>h.elim (fun h=> .inr (.inl h)) (fun h=>h.elim .inl (fun h=> .inr (.inr h))),fun h=>h.elim (fun h=> .inr (.inl h)) (fun h=>h.elim .inl (fun h=> .inr (.inr h)))⟩
  ·rw[List.mem_cons]
theorem o5(l:List Int){x:Int}: ∀{n:Nat},x∈dE l n↔0≤x∧x<n
 |0=>⟨(fun h=>nomatch h),fun h=>absurd h.1 (by omega)⟩
 |n+1=>by unfold dE;rw[Ez,o5 l];omega
theorem vN(l:List Int): ∀{o:List Int} {i:Int},o.Pairwise (tL l)→(∀x∈o,x<i)→(ins l o i).Pairwise (tL l)
 |[],i,_,_=>List.pairwise_singleton _ _
 |k::t,i,h,hi=>by
  rw[List.pairwise_cons]at h
  have hk:k<i:=hi k (List.mem_cons_self ..)
  unfold ins;split
  ·rename_i hle
   rw[List.pairwise_cons]
   refine⟨fun x hx=> ?_,vN l h.2 (fun x hx=>hi x (List.mem_cons_of_mem _ hx))⟩
   rcases(Ez l).1 hx with rfl|hx
   ·unfold tL;omega
   ·exact h.1 x hx
  ·rename_i hle
   rw[List.pairwise_cons,List.pairwise_cons]
   refine⟨fun x hx=> ?_,h.1,h.2⟩
   rcases List.mem_cons.1 hx with rfl|hx
   ·unfold tL;omega
   ·have:=h.1 x hx;unfold tL at*;omega
theorem kQ(l:List Int): ∀n,(dE l n).Pairwise (tL l)
 |0=>List.Pairwise.nil
 |n+1=>by unfold dE;exact vN l (kQ l n) (fun x hx=>((o5 l).1 hx).2)
theorem Ro(l:List Int): ∀(o:List Int) (i:Int) (p:Nat),p≤o.length→(∀j,j<p→vM l i≤vM l (o.getD j 0))→(p<o.length→vM l (o.getD p 0)<vM l i)→ins l o i=o.take p++i::o.drop p
 |[],i,p,hp,_,_=>by simp at hp;subst hp;rfl
 |k::t,i,0,hp,_,h=>by
  unfold ins;rw[if_neg (by have:=h (by simp);simp at this;omega)];rfl
 |k::t,i,p+1,hp,h0,h=>by
  unfold ins
  have h1:vM l i≤vM l k:=h0 0 (by omega)
  rw[if_pos h1,Ro l t i p (by simpa using hp) (fun j hj=>by have:=h0 (j+1) (by omega);simpa using this) (fun xl=>by have:=h (by simpa using xl);simpa using this)]
  rfl
theorem MK(l:List Int)(f:Int→Int): ∀(o:List Int) (i:Int),((ins l o i).map f).sum=(o.map f).sum+f i
 |[],i=>by simp[ins]
 |k::t,i=>by
  unfold ins;split
  ·rw[List.map_cons,List.sum_cons,MK l f t i,List.map_cons,List.sum_cons];omega
  ·simp only[List.map_cons,List.sum_cons];omega
theorem xX(l r:List Int): ∀n,n≤r.length→((dE l n).map (vM r)).sum=(r.take n).sum
 |0,_=>rfl
 |n+1,h=>by
  unfold dE;rw[MK,xX l r n (by omega),iJ r (by omega)]
  unfold vM;rw[Int.toNat_natCast]
theorem KL(l r:List Int)(h:l.length=r.length):((gT l).map (vM r)).sum=r.sum:=by
 unfold gT;rw[xX l r _ (by omega),List.take_of_length_le (by omega)]
theorem AD{o:List Int}{j:Nat}(h:j<o.length):o.getD j 0∈o:=by
 rw[List.getD_eq_getElem?_getD,List.getElem?_eq_getElem h];exact List.getElem_mem h
theorem KM{l:List Int}{n j:Nat}(h:j<n):0≤(dE l n).getD j 0∧(dE l n).getD j 0<n:=by
 exact(o5 l).1 (AD (by rw[o4];exact h))
theorem C5(N:Nat)(K:List Int→List Int→Int→Option (List Int)){l:List Int}(hl:l.length≤100000)(i:Nat)(hi:i<l.length): ∀(m n p:Nat),i-p≤m→m<n→p≤i→(∀j,j<p→vM l i≤vM l ((dE l i).getD j 0))→
  dy.l6 N K n l (dE l i) (i:Int) (p:Int)=K l (dE l (i+1)) ((i+1:Nat):Int)
 |m,0,p,_,hn,_,_=>by omega
 |m,n+1,p,hm,hn,hp,h=>by
  have hlen:=o4 l i
  have fin: ∀h2:(p<i→vM l ((dE l i).getD p 0)<vM l i),dy.j8 N K l (dE l i) (i:Int) (p:Int)=K l (dE l (i+1)) ((i+1:Nat):Int):=fun h2=>by
   have e:=Ro l (dE l i) i p (by omega) h (fun h3=>h2 (by omega))
   unfold dy.j8 dy.Rb
   dsimp only
   rw[cw (by omega) (by omega) (by omega) (by omega),cond_true,Int.toNat_natCast,Int.toNat_natCast,Int.toNat_zero,List.drop_zero]
   rw[bo (by rw[List.length_take];omega),cond_true,bo (by rw[List.length_take];simp only[List.length_singleton];omega),cond_true,cw (by omega) (by omega) (by omega) (by omega),cond_true,bo (by simp only[List.length_append,List.length_take,List.length_drop,List.length_singleton];omega),cond_true,al (by omega) (by omega),List.take_length,List.append_assoc,List.singleton_append,←e]
   rfl
  unfold dy.l6 dy.pn
  by_cases hpi:p<i
  ·have hr:=KM (l:=l) (n:=i) (j:=p) hpi
   rw[aE (by omega),cond_true,aG (by omega) (by omega),cond_true,Int.toNat_natCast,Int.toNat_natCast,aG (by omega) (by omega),cond_true,aG (by omega) (by omega),cond_true]
   by_cases h3:l.getD i 0≤l.getD ((dE l i).getD p 0).toNat 0
   ·rw[cS h3,cond_true,al (by omega) (by omega)]
    refine C5 N K hl i hi (m-1) n (p+1) (by omega) (by omega) (by omega) (fun j hj=> ?_)
    by_cases hjp:j=p
    ·rw[hjp];unfold vM;rw[Int.toNat_natCast];exact h3
    ·exact h j (by omega)
   ·rw[cM (by omega),cond_false]
    exact fin (fun _=>by unfold vM;rw[Int.toNat_natCast];omega)
  ·rw[aA (by omega),cond_false]
   exact fin (fun h=>absurd h hpi)
theorem AE(N:Nat){l:List Int}(hl:l.length≤100000)(hN:l.length<N): ∀(m n i:Nat),l.length-i≤m→m<n→i≤l.length→
  dy.l3 N n l (dE l i) (i:Int)=some (gT l)
 |m,0,i,_,hn,_=>by omega
 |m,n+1,i,hm,hn,hi=>by
  unfold dy.l3 dy.kq
  by_cases h:i<l.length
  ·have:=C5 N (dy.l3 N n) hl i h i N 0 (by omega) (by omega) (by omega) (fun j hj=>by omega)
   rw[aE (by omega),cond_true]
   refine Eq.trans this ?_
   exact AE N hl hN (m-1) n (i+1) (by omega) (by omega) (by omega)
  ·rw[aA (by omega),cond_false,show i=l.length by omega];rfl
theorem Oo(N:Nat){l:List Int}(hl:l.length≤100000)(hN:l.length<N):dy N l=some (gT l):=by
 unfold dy dy.b
 exact AE N hl hN l.length N 0 (by omega) (by omega) (by omega)
end VM
end
section
namespace VM
open Go VM.F
def EA(l:List Int):Prop:= ∀x∈l,-9223372036854775808≤x∧x<9223372036854775808
def Pos(l:List Int):Prop:= ∀x∈l,0≤x
def may(w:List Int):Bool:=decide (w.length≤64)&&w.all (fun x=>decide (0≤x))
theorem ln{w:List Int}:may w=true↔w.length≤64∧Pos w:=by
 unfold may Pos;rw[Bool.and_eq_true,decide_eq_true_iff,List.all_eq_true]
 simp only[decide_eq_true_iff]
theorem AF(N:Nat){l:List Int}(hl:l.length≤1000000): ∀(m n i:Nat),l.length-i≤m→m<n→i≤l.length→ ∃r,mq.l4 N n l (i:Int)=some r∧(r=true↔ ∃x∈l.drop i,x<0)
 |m,0,i,_,hn,_=>by omega
 |m,n+1,i,hm,hn,hi=>by
  unfold mq.l4 mq.c5
  by_cases h:i<l.length
  ·have hd:l.drop i=l.getD i 0::l.drop (i+1):=by
    rw[List.drop_eq_getElem_cons h,List.getD_eq_getElem?_getD,List.getElem?_eq_getElem h];rfl
   rw[aE (by omega),cond_true,aG (by omega) (by omega),cond_true,Int.toNat_natCast,hd]
   by_cases hx:l.getD i 0<0
   ·rw[aE hx,cond_true]
    exact⟨_,rfl,fun _=>⟨_,List.mem_cons_self ..,hx⟩,fun _=>rfl⟩
   ·rw[aA (by omega),cond_false,al (by omega) (by omega)]
    obtain⟨r,e,h1⟩:=AF N hl (m-1) n (i+1) (by omega) (by omega) (by omega)
    refine⟨r,e,h1.trans ⟨fun⟨x,QG,hx2⟩=>⟨x,List.mem_cons_of_mem _ QG,hx2⟩,fun⟨x,QG,hx2⟩=> ?_⟩⟩
    rcases List.mem_cons.1 QG with rfl|QG
    ·exact absurd hx2 hx
    ·exact⟨x,QG,hx2⟩
  ·rw[aA (by omega),cond_false,List.drop_eq_nil_of_le (by omega)]
   exact⟨_,rfl,(fun h=>nomatch h),fun⟨x,hx,_⟩=>nomatch hx⟩
theorem AG(N:Nat){w:List Int}(hN:100≤N)(t:Int):mq N t w=some (decide (t<0)|| !may w):=by
 unfold mq mq.b
 by_cases ht:t<0
 ·rw[aE ht,cond_true,decide_eq_true ht];rfl
 rw[aA (by omega),cond_false,decide_eq_false ht,Bool.false_or]
 by_cases h:w.length≤64
 ·rw[aA (by omega),cond_false]
  obtain⟨r,e,hr⟩:=AF N (l:=w) (by omega) w.length N 0 (by omega) (by omega) (by omega)
  rw[List.drop_zero]at hr
  rw[show((0:Nat):Int)=0 from rfl]at e
  rw[e]
  congr 1
  rw[Bool.eq_iff_iff,hr,Bool.not_eq_true',Bool.eq_false_iff,Ne,ln]
  constructor
  ·rintro⟨x,hx,Qd⟩ h;have:=h.2 x hx;omega
  ·intro h1
   by_cases h2: ∃x∈w,x<0
   ·exact h2
   ·exact absurd ⟨h,fun x hx=>by
     by_cases Qd:x<0
     ·exact absurd ⟨x,hx,Qd⟩ h2
     ·omega⟩ h1
 ·rw[aE (by omega),cond_true]
  have:may w=false:=by
   rw[Bool.eq_false_iff];intro hm;exact h (ln.1 hm).1
  rw[this];rfl
def bump(q:List Int):List Int→List Int
 |[]=>q
 |k::t=>bump (q.set k.toNat (q.getD k.toNat 0+1)) t
def ov(t S:Int)(w:List Int):List Int:=w.map fun x=>t*x/S
def iz(t S:Int)(w:List Int):List Int:=w.map fun x=>t*x%S
def bk(t:Int)(w:List Int):List Int:=
 bump (ov t w.sum w) ((gT (iz t w.sum w)).take (t-(ov t w.sum w).sum).toNat)
def nP(t:Int)(w:List Int):List Int×Int:=
 if t<0∨may w=false then([],1)else if 9223372036854775808≤w.sum then([],2)
 else if w.sum=0 then(if t=0 then(List.replicate w.length 0,0)else([],1))else(bk t w,0)
theorem Hh: ∀(ks q:List Int),(bump q ks).length=q.length
 |[],q=>rfl
 |k::t,q=>by unfold bump;rw[Hh t];simp
theorem EB: ∀(q:List Int) (k:Nat) (x:Int),k<q.length→(q.set k x).sum=q.sum-q.getD k 0+x
 |[],k,x,h=>absurd h (by simp)
 |a::q,0,x,h=>by simp;omega
 |a::q,k+1,x,h=>by
  have:=EB q k x (by simpa using h)
  simp[this];omega
theorem gn: ∀{q:List Int},Pos q→0≤q.sum
 |[],_=>by simp
 |a::q,h=>by
  have:=gn (q:=q) (fun x hx=>h x (List.mem_cons_of_mem _ hx))
  have:=h a (List.mem_cons_self ..)
  rw[List.sum_cons];omega
theorem uu: ∀{q:List Int},Pos q→ ∀i,q.getD i 0≤q.sum
 |[],_,i=>by simp
 |a::q,h,0=>by
  have:=gn (q:=q) (fun x hx=>h x (List.mem_cons_of_mem _ hx))
  rw[List.sum_cons];simp;omega
 |a::q,h,i+1=>by
  have:=uu (q:=q) (fun x hx=>h x (List.mem_cons_of_mem _ hx)) i
  have:=h a (List.mem_cons_self ..)
  rw[List.sum_cons];simp;simp at*;omega
theorem fl{q:List Int}(h:Pos q)(i:Nat):0≤q.getD i 0:=by
 by_cases hi:i<q.length
 ·exact h _ (AD hi)
 ·rw[qv q (by omega)];omega
theorem UO{q:List Int}(h:Pos q){x:Int}(hx:0≤x)(k:Nat):Pos (q.set k x):=fun y hy=>by
 rcases List.mem_or_eq_of_mem_set hy with hy|rfl
 ·exact h y hy
 ·exact hx
theorem Hi{q:List Int}(h:Pos q)(n:Nat):Pos (q.take n):=fun x hx=>h x (List.mem_of_mem_take hx)
theorem Hj: ∀(ks q:List Int),(∀k∈ks,0≤k∧k<q.length)→(bump q ks).sum=q.sum+ks.length
 |[],q,_=>by simp[bump]
 |k::t,q,h=>by
  have hk:=h k (List.mem_cons_self ..)
  unfold bump
  rw[Hj t _ (fun x hx=>by rw[List.length_set];exact h x (List.mem_cons_of_mem _ hx)),EB q _ _ (by omega),List.length_cons];omega
theorem sl(t S:Int)(w:List Int):(ov t S w).length=w.length:=by unfold ov;rw[List.length_map]
theorem lR(t S:Int)(w:List Int):(iz t S w).length=w.length:=by unfold iz;rw[List.length_map]
theorem ML{t S:Int}{w:List Int}(i:Nat):(ov t S w).getD i 0=t*w.getD i 0/S:=by
 unfold ov
 by_cases h:i<w.length
 ·rw[List.getD_eq_getElem?_getD,List.getElem?_map,List.getElem?_eq_getElem h,List.getD_eq_getElem?_getD,List.getElem?_eq_getElem h];rfl
 ·rw[qv _ (by rw[List.length_map];omega),qv w (by omega)];simp
theorem MM{t S:Int}{w:List Int}(i:Nat):(iz t S w).getD i 0=t*w.getD i 0%S:=by
 unfold iz
 by_cases h:i<w.length
 ·rw[List.getD_eq_getElem?_getD,List.getElem?_map,List.getElem?_eq_getElem h,List.getD_eq_getElem?_getD,List.getElem?_eq_getElem h];rfl
 ·rw[qv _ (by rw[List.length_map];omega),qv w (by omega)];simp
theorem AH{t S:Int}{w:List Int}(ht:0≤t)(hS:0≤S)(hw:Pos w):Pos (ov t S w):=fun x hx=>by
 obtain⟨y,hy,rfl⟩:=List.mem_map.1 hx
 exact Int.ediv_nonneg (Int.mul_nonneg ht (hw y hy)) hS
theorem Hk{t S:Int}{w:List Int}(hS:0<S):Pos (iz t S w):=fun x hx=>by
 obtain⟨y,hy,rfl⟩:=List.mem_map.1 hx
 exact Int.emod_nonneg _ (by omega)
theorem EC(t S:Int): ∀w:List Int,S*(ov t S w).sum+(iz t S w).sum=t*w.sum
 |[]=>by simp[ov,iz]
 |x::w=>by
  have h:=EC t S w
  have e:=Int.mul_ediv_add_emod (t*x) S
  unfold ov iz at*
  simp only[List.map_cons,List.sum_cons,Int.mul_add]
  omega
theorem Rp{t S:Int}{w:List Int}(ht:0≤t)(hS:0<S)(h:w.sum≤S):(ov t S w).sum≤t:=by
 have e:=EC t S w
 have h1:=gn (Hk (t:=t) (w:=w) hS)
 have h2:=Int.mul_le_mul_of_nonneg_left h ht
 have h3:S*(ov t S w).sum≤S*t:=by rw[Int.mul_comm S t];omega
 exact Int.le_of_mul_le_mul_left h3 hS
theorem xY{w:List Int}(h:Pos w)(i:Nat):(w.take i).sum≤w.sum:=by
 have e:w.take i++w.drop i=w:=List.take_append_drop i w
 have h1:(w.take i).sum+(w.drop i).sum=w.sum:=by rw[←List.sum_append,e]
 have:=gn (q:=w.drop i) (fun x hx=>h x (List.mem_of_mem_drop hx))
 omega
theorem C6(t S:Int)(w:List Int)(i:Nat):(ov t S w).take i=ov t S (w.take i):=by unfold ov;rw[List.map_take]
theorem AI(N:Nat){ks:List Int}(hl:ks.length≤1000000)(L:Nat)(hk: ∀k∈ks,0≤k∧k<L): ∀(m n i left:Nat) (q:List Int),ks.length-i≤m→m<n→i≤ks.length→q.length=L→Pos q→left≤9223372036854775807→q.sum+left≤9223372036854775807→
  dJ.tq N n q (left:Int) ks (i:Int)=some (bump q ((ks.drop i).take left),0)
 |m,0,i,left,q,_,hn,_,_,_,_,_=>by omega
 |m,n+1,i,left,q,hm,hn,hi,hq,hp,hle,hs=>by
  unfold dJ.tq dJ.sf
  by_cases h:i<ks.length
  ·have hd:ks.drop i=ks.getD i 0::ks.drop (i+1):=by
    rw[List.drop_eq_getElem_cons h,List.getD_eq_getElem?_getD,List.getElem?_eq_getElem h];rfl
   have zH:=hk _ (AD h)
   rw[aE (by omega),cond_true]
   match left,hle,hs with
   |0,hle,hs=>rw[aA (by omega),cond_false,List.take_zero];rfl
   |left+1,hle,hs=>
    rw[aE (by omega),cond_true,aG (by omega) (by omega),cond_true,Int.toNat_natCast,aG (by omega) (by omega),cond_true,cond_true,hd]
    have h1:=uu hp (ks.getD i 0).toNat
    have h2:=fl hp (ks.getD i 0).toNat
    rw[al (x:=q.getD _ 0+1) (by omega) (by omega),al (x:=(i:Int)+1) (by omega) (by omega),al (by omega) (by omega),show((left+1:Nat):Int)-1=(left:Int)by omega]
    refine(AI N hl L hk (m-1) n (i+1) left _ (by omega) (by omega) (by omega) (by rw[List.length_set];exact hq) (UO hp (by omega) _) (by omega) ?_).trans rfl
    rw[EB q _ _ (by omega)];omega
  ·rw[aA (by omega),cond_false,List.drop_eq_nil_of_le (by omega),List.take_nil];rfl
theorem AJ(l:List Int): ∀k∈gT l,0≤k∧k<l.length:=fun k hk=>(o5 l).1 hk
theorem take_set(l:List Int){i:Nat}(x:Int)(h:i<l.length):(l.set i x).take (i+1)=l.take i++[x]:=by
 rw[eW (l.set i x) (by rw[List.length_set];exact h),jo l x h,List.take_set_of_le (by omega)]
theorem ED{v:Int}(h0: -9223372036854775808≤v)(h1:v<9223372036854775808):B4 v=(v,true):=by unfold B4;rw[if_pos ⟨h0,h1⟩]
end VM
end
section
namespace VM
open Go VM.F
theorem lS{a b:List Int}(hl:a.length=b.length)(h: ∀i,i<a.length→a.getD i 0=b.getD i 0):a=b:=by
 refine List.ext_getElem hl (fun i h1 h2=> ?_)
 have:=h i h1
 rwa [List.getD_eq_getElem?_getD,List.getElem?_eq_getElem h1,List.getD_eq_getElem?_getD,List.getElem?_eq_getElem h2]at this
theorem MN: ∀(ks q:List Int) (i:Nat),ks.Nodup→(∀k∈ks,0≤k∧k<q.length)→(bump q ks).getD i 0=q.getD i 0+(if(i:Int)∈ks then 1 else 0)
 |[],q,i,_,_=>by simp[bump]
 |k::t,q,i,hn,h=>by
  have hk:=h k (List.mem_cons_self ..)
  rw[List.nodup_cons]at hn
  unfold bump
  rw[MN t _ i hn.2 (fun x hx=>by rw[List.length_set];exact h x (List.mem_cons_of_mem _ hx))]
  by_cases hik:(i:Int)=k
  ·rw[if_neg (by rw[hik];exact hn.1),if_pos (by rw[hik];exact List.mem_cons_self ..),←hik,Int.toNat_natCast,jo q _ (by omega)];omega
  ·rw[getD_set_ne q _ (by omega)]
   by_cases ht:(i:Int)∈t
   ·rw[if_pos ht,if_pos (List.mem_cons_of_mem _ ht)]
   ·rw[if_neg ht,if_neg (fun hc=>by rcases List.mem_cons.1 hc with hc|hc;exact hik hc;exact ht hc)]
theorem Hl(l:List Int):(gT l).Nodup:=(kQ l l.length).imp (fun{a b} h he=>by unfold tL at h;rw[he]at h;omega)
theorem MO(t S:Int)(hS:0<S): ∀u:List Int,(iz t S u).sum≤u.length*S
 |[]=>by simp[iz]
 |x::u=>by
  have ih:=MO t S hS u
  have:=Int.emod_lt_of_pos (t*x) hS
  unfold iz at*
  rw[List.map_cons,List.sum_cons,List.length_cons,Int.natCast_add,Int.add_mul];simp;omega
def jv(t:Int)(w:List Int):Int:=t-(ov t w.sum w).sum
theorem left_eq(t:Int)(w:List Int):w.sum*jv t w=(iz t w.sum w).sum:=by
 have:=EC t w.sum w
 unfold jv;rw[Int.mul_sub,Int.mul_comm w.sum t];omega
theorem AK{t:Int}{w:List Int}(ht:0≤t)(hS:0<w.sum):0≤jv t w:=by
 have:=Rp ht hS (Int.le_refl _);unfold jv;omega
theorem MP{t:Int}{w:List Int}(hS:0<w.sum):jv t w≤w.length:=by
 have h1:=left_eq t w
 have h2:=MO t w.sum hS w
 rw[←h1,Int.mul_comm (w.length:Int)]at h2
 exact Int.le_of_mul_le_mul_left h2 hS
theorem kR(t:Int)(w:List Int):(bk t w).length=w.length:=by unfold bk;rw[Hh,sl]
theorem qK{t:Int}{w:List Int}(ht:0≤t)(hS:0<w.sum):(bk t w).sum=t:=by
 unfold bk
 have h1:=AK ht hS
 have h2:=MP (t:=t) hS
 unfold jv at*
 rw[Hj _ _ (fun k hk=>by have:=AJ _ k (List.mem_of_mem_take hk);rw[lR]at this;rwa [sl]),List.length_take,ur,lR]
 omega
theorem uv{f:Int→Int}{c:Int}: ∀{o:List Int},(∀x∈o,f x≤c)→(o.map f).sum≤o.length*c
 |[],_=>by simp
 |x::o,h=>by
  have ih:=uv (f:=f) (c:=c) (o:=o) (fun y hy=>h y (List.mem_cons_of_mem _ hy))
  have:=h x (List.mem_cons_self ..)
  rw[List.map_cons,List.sum_cons,List.length_cons,Int.natCast_add,Int.add_mul];simp;omega
theorem KN{l o:List Int}(h:o.Pairwise (tL l)){m:Nat}{x y:Int}(hx:x∈o.take m)(hy:y∈o.drop m):tL l x y:=by
 rw[←List.take_append_drop m o,List.pairwise_append]at h
 exact h.2.2 x hx y hy
theorem Oq{t:Int}{w:List Int}(ht:0≤t)(hS:0<w.sum){i:Int}(hi:i∈(gT (iz t w.sum w)).take (jv t w).toNat):0<vM (iz t w.sum w) i:=by
 have J7: ∀k:Int,0≤vM (iz t w.sum w) k:=fun k=>fl (Hk hS) _
 have dT: ∀k:Int,vM (iz t w.sum w) k≤w.sum-1:=fun k=>by
  unfold vM;rw[MM]
  have:=Int.emod_lt_of_pos (t*w.getD k.toNat 0) hS;omega
 have h0:=J7 i
 rcases Int.lt_or_le 0 (vM (iz t w.sum w) i)with h|h
 ·exact h
 exfalso
 have Ky:=KL (iz t w.sum w) (iz t w.sum w) rfl
 rw[←left_eq]at Ky
 have ant:=List.take_append_drop (jv t w).toNat (gT (iz t w.sum w))
 rw[←ant,List.map_append,List.sum_append]at Ky
 have hd:(((gT (iz t w.sum w)).drop (jv t w).toNat).map (vM (iz t w.sum w))).sum≤((gT (iz t w.sum w)).drop (jv t w).toNat).length*0:=uv (fun y hy=>by
  have:=KN (kQ _ _) hi hy
  unfold tL at this;omega)
 have htk:(((gT (iz t w.sum w)).take (jv t w).toNat).map (vM (iz t w.sum w))).sum≤((gT (iz t w.sum w)).take (jv t w).toNat).length*(w.sum-1):=uv (fun y _=>dT y)
 have h1:=AK ht hS
 have h2:=MP (t:=t) hS
 rw[List.length_take,ur,lR,Nat.min_eq_left (by omega),Int.mul_sub]at htk
 rw[Int.mul_zero]at hd
 have h3:(((jv t w).toNat:Nat):Int)=jv t w:=by omega
 have h4:0<(jv t w).toNat:=by
  rcases Nat.eq_zero_or_pos (jv t w).toNat with h|h
  ·rw[h,List.take_zero]at hi;nomatch hi
  ·exact h
 rw[h3,Int.mul_comm (jv t w)]at htk
 omega
def extra(t:Int)(w:List Int)(i:Nat):Int:=if(i:Int)∈(gT (iz t w.sum w)).take (jv t w).toNat then 1 else 0
theorem C7(t:Int)(w:List Int)(i:Nat):(bk t w).getD i 0=t*w.getD i 0/w.sum+extra t w i:=by
 unfold bk
 rw[MN _ _ i ((Hl _).sublist (List.take_sublist ..)) (fun k hk=>by have:=AJ _ k (List.mem_of_mem_take hk);rw[lR]at this;rwa [sl]),ML]
 rfl
theorem C8(t:Int)(w:List Int)(i:Nat):extra t w i=0∨extra t w i=1:=by unfold extra;split<;>omega
theorem Ot{t:Int}{w:List Int}(ht:0≤t)(hS:0<w.sum){i:Nat}(h:extra t w i=1):0<t*w.getD i 0%w.sum:=by
 unfold extra at h
 by_cases hi:(i:Int)∈(gT (iz t w.sum w)).take (jv t w).toNat
 ·have:=Oq ht hS hi
  unfold vM at this;rwa [MM,Int.toNat_natCast]at this
 ·rw[if_neg hi]at h;omega
theorem qL{t:Int}{w:List Int}(ht:0≤t)(hS:0<w.sum)(hw:Pos w):Pos (bk t w):=fun x hx=>by
 obtain⟨i,hi,rfl⟩:=List.mem_iff_getElem.1 hx
 have:=C7 t w i
 rw[List.getD_eq_getElem?_getD,List.getElem?_eq_getElem hi]at this
 have h1:=C8 t w i
 have h2:0≤t*w.getD i 0/w.sum:=Int.ediv_nonneg (Int.mul_nonneg ht (fl hw i)) (by omega)
 simp only[Option.getD_some]at this
 omega
theorem xZ{t:Int}{w:List Int}(ht:0≤t)(hS:0<w.sum){i:Nat}(h:w.getD i 0=0):(bk t w).getD i 0=0:=by
 rw[C7,h]
 rcases C8 t w i with h1|h1
 ·rw[h1];simp
 ·have:=Ot ht hS h1
  rw[h]at this;simp at this
end VM
end
section
namespace VM
open Go VM.F
theorem ya(N:Nat)(hN:5000000≤N){t:Int}{w:List Int}(ht:0≤t)(ru:t<9223372036854775808)(hw:w.length≤64)(hp:Pos w)(hS:0<w.sum)(hS1:w.sum<9223372036854775808):
  ∀(m n i:Nat) (q r:List Int),w.length-i≤m→m<n→i≤w.length→q.length=w.length→r.length=w.length→q.take i=ov t w.sum (w.take i)→r.take i=iz t w.sum (w.take i)→
  dJ.C9 N n t w (b9 w.sum) q r (t-(ov t w.sum (w.take i)).sum) (i:Int)=some (bk t w,0)
 |m,0,i,q,r,_,hn,_,_,_,_,_=>by omega
 |m,n+1,i,q,r,hm,hn,hi,hq,hr,eq,er=>by
  unfold dJ.C9 dJ.AL
  by_cases h:i<w.length
  ·have hwi:=fl hp i
   have anu:=uu hp i
   have hb:=mul_lt ht hwi (show t≤9223372036854775807 by omega) (show w.getD i 0≤9223372036854775807 by omega)
   have hqi:t*w.getD i 0/w.sum≤t:=Int.ediv_le_of_le_mul hS (Int.mul_le_mul_of_nonneg_left anu ht)
   have avf:0≤t*w.getD i 0/w.sum:=Int.ediv_nonneg hb.1 (by omega)
   have hri:=Int.emod_lt_of_pos (t*w.getD i 0) hS
   have avg:=Int.emod_nonneg (t*w.getD i 0) (show w.sum≠0 by omega)
   have hs0:=Rp ht hS (xY hp i)
   have LY:=gn (AH ht (by omega:0≤w.sum) (Hi hp i))
   have ft:Fit t 2:=Fit.i64 (by omega) (by omega)
   have fw:Fit (w.getD i 0) 2:=Fit.i64 (by omega) (by omega)
   have fS:Fit w.sum 2:=Fit.i64 (by omega) (by omega)
   rw[aE (by omega),cond_true,fg N (by omega) (by omega) ru,Option.bind_some,aG (by omega) (by omega),cond_true,Int.toNat_natCast,fg N (by omega) (by omega) (by omega),Option.bind_some,
    Aa N (by omega) (ft.mono (by omega)) (fw.mono (by omega)),Option.bind_some,En N (by omega) hS ((ft.mul fw).mono (by omega)) (fS.mono (by omega)),Option.bind_some]
   dsimp only
   rw[qu,Option.bind_some,ED (by omega) (by omega),qu,ED (by omega) (by omega)]
   dsimp only
   rw[Option.bind_some,aG (by omega) (by omega),cond_true,aG (by omega) (by omega),cond_true,List.length_set,aG (by omega) (by omega),cond_true,jo q _ (by omega),al (x:=(i:Int)+1) (by omega) (by omega),al (by omega) (by omega)]
   have yE:=ya N hN ht ru hw hp hS hS1 (m-1) n (i+1) (q.set i (t*w.getD i 0/w.sum)) (r.set i (t*w.getD i 0%w.sum)) (by omega) (by omega) (by omega) (by rw[List.length_set];exact hq) (by rw[List.length_set];exact hr)
    (by rw[take_set q _ (by omega),eq,eW w h];unfold ov;simp)
    (by rw[take_set r _ (by omega),er,eW w h];unfold iz;simp)
   rw[←C6,iJ _ (by rw[sl];exact h),ML,C6]at yE
   rw[Int.sub_sub]
   exact yE
  ·have kk:i=w.length:=by omega
   subst kk
   rw[List.take_of_length_le (by omega),List.take_of_length_le (by omega)]at eq er
   subst eq er
   rw[List.take_of_length_le (by omega)]
   have LY:=gn (AH ht (by omega:0≤w.sum) hp)
   have h1:=AK ht hS
   unfold jv at h1
   rw[aA (by omega),cond_false,Oo N (by rw[lR];omega) (by rw[lR];omega),Option.bind_some]
   have hlen:=ur (iz t w.sum w)
   rw[lR]at hlen
   have uF:=AI N (ks:=gT (iz t w.sum w)) (by omega) w.length (fun k hk=>by have:=AJ _ k hk;rwa [lR]at this) 1000 N 0 (t-(ov t w.sum w).sum).toNat (ov t w.sum w) (by omega) (by omega) (by omega) (sl ..) (AH ht (by omega) hp) (by omega) (by omega)
   rw[List.drop_zero,Int.toNat_of_nonneg h1]at uF
   exact uF
theorem wU(N:Nat)(hN:5000000≤N){t:Int}{w:List Int}(ru:t<9223372036854775808)(hw:EA w)(hl:w.length≤1000000):dJ N t w=some (nP t w):=by
 unfold dJ dJ.b nP
 rw[AG N (by omega),Option.bind_some]
 by_cases h1:t<0
 ·rw[decide_eq_true h1,Bool.true_or,cond_true,if_pos (.inl h1)]
 rw[decide_eq_false h1,Bool.false_or]
 cases h2:may w
 ·rw[Bool.not_false,cond_true,if_pos (.inr rfl)]
 rw[Bool.not_true,cond_false,if_neg (by simp[h1]),uc N (by omega) hw hl,Option.bind_some,oS,Option.bind_some]
 obtain⟨KO,hp⟩:=ln.1 h2
 have hS0:=gn hp
 have hj: ∀h: ¬9223372036854775808≤w.sum,dJ.j6 N t w (b9 w.sum)=if w.sum=0 then some (List.replicate w.length 0,0)else some (bk t w,0):=fun h=>by
  unfold dJ.j6 dJ.JK
  rw[qu,Option.bind_some,ED (by omega) (by omega),Bool.not_true,cond_false,bC (by omega) (by omega) (by omega),cond_true,cond_true,oS,Option.bind_some,Int.toNat_natCast]
  by_cases h4:w.sum=0
  ·rw[if_pos h4,h4,show mC 0=0 from rfl,cG rfl,cond_true]
  ·rw[if_neg h4,cA (by unfold mC;repeat' split<;>omega),cond_false]
   have:=ya N hN (by omega) ru KO hp (by omega) (by omega) w.length N 0 (List.replicate w.length 0) (List.replicate w.length 0) (by omega) (by omega) (by omega) (List.length_replicate ..) (List.length_replicate ..) rfl rfl
   rw[List.take_zero]at this
   simp only[ov,List.map_nil,List.sum_nil,Int.sub_zero]at this
   exact this
 by_cases h3:9223372036854775808≤w.sum
 ·rw[if_pos h3,cA (by unfold mC;repeat' split<;>omega),cond_false]
  unfold dJ.j6 dJ.JK
  rw[qu,Option.bind_some];unfold B4;rw[if_neg (by omega)];rfl
 rw[if_neg h3,hj h3]
 by_cases h4:w.sum=0
 ·rw[if_pos h4,if_pos h4,h4,show mC 0=0 from rfl,cG rfl,cond_true]
  by_cases h5:t=0
  ·rw[if_pos h5,cG h5,Bool.not_true,cond_false]
  ·rw[if_neg h5,cA h5,Bool.not_false,cond_true]
 ·rw[if_neg h4,if_neg h4,cA (by unfold mC;repeat' split<;>omega),cond_false]
def Da(t n:Int):List Int×Int:=if t<0∨n<1∨64<n then([],1)else nP t (List.replicate n.toNat 1)
theorem Rq(n:Nat):EA (List.replicate n 1):=fun x hx=>by rw[List.eq_of_mem_replicate hx];omega
theorem Db(N:Nat)(hN:5000000≤N){t:Int}{k:Nat}(hk:k≤64)(ru:t<9223372036854775808): ∀(m n i:Nat),k-i≤m→m<n→i≤k→
  nQ.l5 N n t (k:Int) (List.replicate i 1++List.replicate (k-i) 0) (i:Int)=some (nP t (List.replicate k 1))
 |m,0,i,_,hn,_=>by omega
 |m,n+1,i,hm,hn,hi=>by
  unfold nQ.l5 nQ.c0
  by_cases h:i<k
  ·rw[aE (by omega),cond_true,aG (by omega) (by simp;omega),cond_true,al (by omega) (by omega)]
   refine Eq.trans ?_ (Db N hN hk ru (m-1) n (i+1) (by omega) (by omega) (by omega))
   congr 1
   rw[Int.toNat_natCast,List.set_append_right _ _ (by simp),List.length_replicate,Nat.sub_self,show k-i=(k-(i+1))+1 by omega,List.replicate_succ,List.set_cons_zero,List.replicate_succ',List.append_assoc]
   rfl
  ·rw[aA (by omega),cond_false,show k-i=0 by omega,List.replicate_zero,List.append_nil,show i=k by omega,wU N hN ru (Rq _) (by rw[List.length_replicate];omega)]
   rfl
theorem Rr(N:Nat)(hN:5000000≤N){t n:Int}(ru:t<9223372036854775808):nQ N t n=some (Da t n):=by
 unfold nQ nQ.b Da
 by_cases h1:t<0
 ·rw[aE h1,cond_true,if_pos (.inl h1)]
 by_cases h2:n<1
 ·rw[aA (by omega),cond_false,aE h2,cond_true,if_pos (.inr (.inl h2))]
 by_cases h3:64<n
 ·rw[aA (by omega),cond_false,aA (by omega),cond_false,aE h3,cond_true,if_pos (.inr (.inr h3))]
 rw[aA (by omega),cond_false,aA (by omega),cond_false,aA (by omega),cond_false,if_neg (by omega),bC (by omega) (by omega) (by omega),cond_true]
 have:=Db N hN (t:=t) (k:=n.toNat) (by omega) ru n.toNat N 0 (by omega) (by omega) (by omega)
 rw[List.replicate_zero,List.nil_append,Nat.sub_zero,Int.toNat_of_nonneg (by omega)]at this
 exact this
end VM
end
section
namespace VM
open Go VM.F
def AN(n:Nat)(f:Nat→Int):List Int:=(List.range n).map f
theorem eB(n:Nat)(f:Nat→Int):(AN n f).length=n:=by unfold AN;rw[List.length_map,List.length_range]
theorem eu{n:Nat}{f:Nat→Int}{i:Nat}(h:i<n):(AN n f).getD i 0=f i:=by
 unfold AN
 rw[List.getD_eq_getElem?_getD,List.getElem?_map,List.getElem?_range h];rfl
theorem EE(n:Nat)(f:Nat→Int)(i:Nat):(AN n f).getD i 0=if i<n then f i else 0:=by
 by_cases h:i<n
 ·rw[if_pos h,eu h]
 ·rw[if_neg h,qv _ (by rw[eB];omega)]
theorem UP{n:Nat}{f:Nat→Int}(h: ∀i,i<n→0≤f i):Pos (AN n f):=fun x hx=>by
 obtain⟨i,hi,rfl⟩:=List.mem_map.1 hx
 exact h i (List.mem_range.1 hi)
theorem o6{l:List Int}(h: ∀i,i<l.length→0≤l.getD i 0):Pos l:=fun x hx=>by
 obtain⟨i,hi,rfl⟩:=List.mem_iff_getElem.1 hx
 have:=h i hi
 rwa [List.getD_eq_getElem?_getD,List.getElem?_eq_getElem hi]at this
theorem wV: ∀{a b:List Int},a.length=b.length→(∀i,i<a.length→a.getD i 0≤b.getD i 0)→a.sum≤b.sum
 |[],[],_,_=>Int.le_refl _
 |[],_::_,h,_=>nomatch h
 |_::_,[],h,_=>nomatch h
 |x::a,y::b,h,h1=>by
  have:=wV (a:=a) (b:=b) (by simpa using h) (fun i hi=>by have:=h1 (i+1) (by simpa using hi);simpa using this)
  have h2:x≤y:=by have:=h1 0 (by simp);simpa using this
  rw[List.sum_cons,List.sum_cons];omega
theorem AO: ∀{a b c:List Int},a.length=b.length→a.length=c.length→(∀i,i<a.length→a.getD i 0=b.getD i 0+c.getD i 0)→a.sum=b.sum+c.sum
 |[],[],[],_,_,_=>rfl
 |[],_::_,_,h,_,_=>nomatch h
 |[],[],_::_,_,h,_=>nomatch h
 |_::_,[],_,h,_,_=>nomatch h
 |_::_,_::_,[],_,h,_=>nomatch h
 |x::a,y::b,z::c,h,h',h1=>by
  have:=AO (a:=a) (b:=b) (c:=c) (by simpa using h) (by simpa using h') (fun i hi=>by have:=h1 (i+1) (by simpa using hi);simpa using this)
  have h2:x=y+z:=by have:=h1 0 (by simp);simpa using this
  rw[List.sum_cons,List.sum_cons,List.sum_cons];omega
theorem sm: ∀{a:List Int},(∀i,i<a.length→a.getD i 0=0)→a.sum=0
 |[],_=>rfl
 |x::a,h=>by
  have:=sm (a:=a) (fun i hi=>by have:=h (i+1) (by simpa using hi);simpa using this)
  have h2:x=0:=by have:=h 0 (by simp);simpa using this
  rw[List.sum_cons];omega
def bN(w caps out:List Int):List Int:=AN w.length fun i=>if out.getD i 0<caps.getD i 0 then w.getD i 0 else 0
def du(parts caps out:List Int):List Int:=AN out.length fun i=>min (parts.getD i 0) (caps.getD i 0-out.getD i 0)
def so(out g:List Int):List Int:=AN out.length fun i=>out.getD i 0+g.getD i 0
def qM(w caps:List Int):Nat→List Int→Int→List Int×Int
 |0,out,left=>(out,left)
 |f+1,out,left=>if left=0∨(bN w caps out).sum=0 then(out,left)else
  qM w caps f (so out (du (bk left (bN w caps out)) caps out)) (left-(du (bk left (bN w caps out)) caps out).sum)
structure MQ(t:Int)(w caps out:List Int)(left:Int):Prop where
 n:w.length≤64
 l1:caps.length=w.length
 l2:out.length=w.length
 pw:Pos w
 sw:w.sum<9223372036854775808
 pc: ∀i,0≤caps.getD i 0∧caps.getD i 0<9223372036854775808
 po: ∀i,0≤out.getD i 0
 le: ∀i,i<w.length→out.getD i 0≤caps.getD i 0
 z: ∀i,w.getD i 0=0→out.getD i 0=0
 l:0≤left
 t1:t<9223372036854775808
 s:out.sum+left=t
theorem fm(w caps out:List Int):(bN w caps out).length=w.length:=eB ..
theorem nR{w caps out:List Int}(h:Pos w):Pos (bN w caps out):=UP (fun i _=>by split;exact fl h i;omega)
theorem Hm{w caps out:List Int}(h:Pos w):(bN w caps out).sum≤w.sum:=wV (fm ..) (fun i hi=>by
 rw[fm]at hi
 unfold bN;rw[eu hi];split
 ·omega
 ·exact fl h i)
theorem Rs{t left:Int}{w caps out:List Int}(c:MQ t w caps out left):EA (bN w caps out):=fun x hx=>by
 have h1:=nR (caps:=caps) (out:=out) c.pw
 have h2:=Hm (caps:=caps) (out:=out) c.pw
 have h3:=h1 x hx
 obtain⟨i,hi,rfl⟩:=List.mem_iff_getElem.1 hx
 have h4:=uu h1 i
 rw[List.getD_eq_getElem?_getD,List.getElem?_eq_getElem hi]at h4
 simp only[Option.getD_some]at h4
 have:=c.sw
 omega
theorem Hn{t left:Int}{w caps out:List Int}(c:MQ t w caps out left):left≤t:=by
 have:=gn (q:=out) (o6 (fun i _=>c.po i));have:=c.s;omega
theorem lq{t left:Int}{w caps out:List Int}(c:MQ t w caps out left)(hS:0<(bN w caps out).sum)(i:Nat):
  0≤(du (bk left (bN w caps out)) caps out).getD i 0∧(du (bk left (bN w caps out)) caps out).getD i 0≤(bk left (bN w caps out)).getD i 0∧(i<w.length→out.getD i 0+(du (bk left (bN w caps out)) caps out).getD i 0≤caps.getD i 0):=by
 have h0:=fl (qL c.l hS (nR c.pw)) i
 unfold du
 rw[EE]
 have:=c.l2
 by_cases h:i<out.length
 ·rw[if_pos h]
  have:=c.le i (by omega)
  omega
 ·rw[if_neg h];exact⟨by omega,h0,fun h=>by omega⟩
theorem sq(parts caps out:List Int):(du parts caps out).length=out.length:=eB ..
theorem AP{t left:Int}{w caps out:List Int}(c:MQ t w caps out left)(hS:0<(bN w caps out).sum):0≤(du (bk left (bN w caps out)) caps out).sum∧(du (bk left (bN w caps out)) caps out).sum≤left:=by
 constructor
 ·exact gn (o6 (fun i _=>(lq c hS i).1))
 ·have:=wV (a:=du (bk left (bN w caps out)) caps out) (b:=bk left (bN w caps out)) (by rw[sq,kR,fm,c.l2]) (fun i _=>(lq c hS i).2.1)
  rwa [qK c.l hS]at this
theorem Ho{t left:Int}{w caps out:List Int}(c:MQ t w caps out left)(hS:0<(bN w caps out).sum):MQ t w caps (so out (du (bk left (bN w caps out)) caps out)) (left-(du (bk left (bN w caps out)) caps out).sum):=by
 have ld: ∀i,(so out (du (bk left (bN w caps out)) caps out)).getD i 0=if i<out.length then out.getD i 0+(du (bk left (bN w caps out)) caps out).getD i 0 else 0:=fun i=>by unfold so;rw[EE]
 have gs:=AP c hS
 refine⟨c.n,c.l1,?_,c.pw,c.sw,c.pc,fun i=> ?_,fun i hi=> ?_,fun i hi=> ?_,by omega,c.t1,?_⟩
 ·unfold so;rw[eB,c.l2]
 ·rw[ld];have:=(lq c hS i).1;have:=c.po i;split<;>omega
 ·rw[ld,if_pos (by rw[c.l2];exact hi)];exact(lq c hS i).2.2 hi
 ·rw[ld]
  split
  ·have h1:(bN w caps out).getD i 0=0:=by unfold bN;rw[EE,hi];split<;>(try split)<;>rfl
   have h2:=xZ c.l hS h1
   have h3:=lq c hS i
   rw[c.z i hi];omega
  ·rfl
 ·have:=AO (a:=so out (du (bk left (bN w caps out)) caps out)) (b:=out) (c:=du (bk left (bN w caps out)) caps out) (by unfold so;rw[eB]) (by unfold so;rw[eB,sq]) (fun i hi=>by
   unfold so at hi;rw[eB]at hi;rw[ld,if_pos hi])
  have:=c.s
  omega
def opens(w caps out:List Int):Nat:=(List.range w.length).countP fun i=>decide (0<w.getD i 0∧out.getD i 0<caps.getD i 0)
theorem Dc{p q:Nat→Bool}: ∀{l:List Nat},(∀x∈l,q x=true→p x=true)→(∃x∈l,p x=true∧q x=false)→l.countP q<l.countP p
 |[],_,⟨x,hx,_⟩=>nomatch hx
 |y::l,h,⟨x,hx,h1,h2⟩=>by
  have hle:l.countP q≤l.countP p:=List.countP_mono_left (fun z hz=>h z (List.mem_cons_of_mem _ hz))
  rw[List.countP_cons,List.countP_cons]
  rcases List.mem_cons.1 hx with rfl|hx
  ·rw[h1,h2];simp;omega
  ·have:=Dc (p:=p) (q:=q) (l:=l) (fun z hz=>h z (List.mem_cons_of_mem _ hz)) ⟨x,hx,h1,h2⟩
   have h3:=h y (List.mem_cons_self ..)
   cases hq:q y<;>cases hp:p y<;>simp<;>try omega
   rw[hq,hp]at h3;simp at h3
theorem Dd{w caps out:List Int}(hw:Pos w)(h:(bN w caps out).sum=0): ∀i,i<w.length→ ¬(0<w.getD i 0∧out.getD i 0<caps.getD i 0):=fun i hi ⟨h1,h2⟩=>by
 have:=uu (nR (caps:=caps) (out:=out) hw) i
 unfold bN at this h
 rw[eu hi,if_pos h2,h]at this
 omega
theorem EF{w caps out:List Int}(hw:Pos w)(h:(bN w caps out).sum≠0): ∃i,i<w.length∧0<w.getD i 0∧out.getD i 0<caps.getD i 0:=by
 by_cases hx: ∃i,i<w.length∧0<w.getD i 0∧out.getD i 0<caps.getD i 0
 ·exact hx
 ·refine absurd (sm (fun i hi=> ?_)) h
  rw[fm]at hi
  unfold bN
  rw[eu hi]
  split
  ·rename_i h1
   have:=fl hw i
   by_cases h2:0<w.getD i 0
   ·exact absurd ⟨i,hi,h2,h1⟩ hx
   ·omega
  ·rfl
theorem Ou{t left:Int}{w caps out:List Int}(c:MQ t w caps out left)(hS:0<(bN w caps out).sum)(hl:left-(du (bk left (bN w caps out)) caps out).sum≠0):opens w caps (so out (du (bk left (bN w caps out)) caps out))<opens w caps out:=by
 have ld: ∀i,i<w.length→(so out (du (bk left (bN w caps out)) caps out)).getD i 0=out.getD i 0+(du (bk left (bN w caps out)) caps out).getD i 0:=fun i hi=>by unfold so;rw[eu (by rw[c.l2];exact hi)]
 refine Dc (fun i hi h=> ?_) ?_
 ·rw[List.mem_range]at hi
  rw[decide_eq_true_iff,ld i hi]at h
  rw[decide_eq_true_iff]
  have:=(lq c hS i).1
  omega
 ·by_cases hx: ∃i,i<w.length∧(0<w.getD i 0∧out.getD i 0<caps.getD i 0)∧caps.getD i 0≤out.getD i 0+(du (bk left (bN w caps out)) caps out).getD i 0
  ·obtain⟨i,h1,h2,h3⟩:=hx
   refine⟨i,List.mem_range.2 h1,decide_eq_true h2,decide_eq_false ?_⟩
   rw[ld i h1];omega
  ·exfalso
   have h1:bk left (bN w caps out)=du (bk left (bN w caps out)) caps out:=by
    refine lS (by rw[sq,kR,fm,c.l2]) (fun i hi=> ?_)
    rw[kR,fm]at hi
    have h2:=lq c hS i
    have h3:=fl (qL c.l hS (nR (caps:=caps) (out:=out) c.pw)) i
    by_cases h4:0<w.getD i 0∧out.getD i 0<caps.getD i 0
    ·have h5: ¬caps.getD i 0≤out.getD i 0+(du (bk left (bN w caps out)) caps out).getD i 0:=fun h=>hx ⟨i,hi,h4,h⟩
     have h6:(du (bk left (bN w caps out)) caps out).getD i 0=min ((bk left (bN w caps out)).getD i 0) (caps.getD i 0-out.getD i 0):=eu (by rw[c.l2];exact hi)
     omega
    ·have h7:(bN w caps out).getD i 0=0:=by
      unfold bN;rw[eu hi]
      have:=fl c.pw i
      split<;>omega
     have:=xZ c.l hS h7
     omega
   rw[←h1,qK c.l hS]at hl
   omega
theorem Rt(w caps out:List Int):opens w caps out≤w.length:=by
 unfold opens
 have:=List.countP_le_length (p:=fun i=>decide (0<w.getD i 0∧out.getD i 0<caps.getD i 0)) (l:=List.range w.length)
 rwa [List.length_range]at this
structure Full(t:Int)(w caps out:List Int)(left:Int):Prop where
 c:MQ t w caps out left
 f:left=0∨ ∀i,i<w.length→ ¬(0<w.getD i 0∧out.getD i 0<caps.getD i 0)
theorem Hp{t:Int}{w caps:List Int}: ∀(f:Nat) (out:List Int) (left:Int),MQ t w caps out left→(opens w caps out<f∨left=0)→Full t w caps (qM w caps f out left).1 (qM w caps f out left).2
 |0,out,left,c,h=>⟨c,.inl (show left=0 by omega)⟩
 |f+1,out,left,c,h=>by
  unfold qM
  have hS:=gn (nR (caps:=caps) (out:=out) c.pw)
  split
  ·rename_i h1
   exact⟨c,h1.imp id (Dd c.pw)⟩
  ·rename_i h1
   refine Hp f _ _ (Ho c (by omega)) ?_
   by_cases h2:left-(du (bk left (bN w caps out)) caps out).sum=0
   ·exact .inr h2
   ·have:=Ou c (by omega) h2
    exact .inl (by omega)
def wW(out g:List Int)(i:Nat):List Int:=AN out.length fun j=>if j<i then out.getD j 0+g.getD j 0 else out.getD j 0
theorem mid_zero(out g:List Int):wW out g 0=out:=lS (eB ..) (fun i hi=>by unfold wW at*;rw[eB]at hi;rw[eu hi,if_neg (by omega)])
theorem UQ(out g:List Int){n:Nat}(h:out.length≤n):wW out g n=so out g:=lS (by unfold wW so;rw[eB,eB]) (fun i hi=>by unfold wW so at*;rw[eB]at hi;rw[eu hi,eu hi,if_pos (by omega)])
theorem vO(out g:List Int)(i:Nat):(wW out g i).length=out.length:=eB ..
theorem acq{out g:List Int}{i:Nat}(h:i<out.length):(wW out g i).getD i 0=out.getD i 0:=by unfold wW;rw[eu h,if_neg (by omega)]
theorem UR{out g:List Int}{i:Nat}(h:i<out.length):(wW out g i).set i (out.getD i 0+g.getD i 0)=wW out g (i+1):=lS (by rw[List.length_set,vO,vO]) (fun j hj=>by
 rw[List.length_set,vO]at hj
 by_cases tX:i=j
 ·subst tX
  rw[jo _ _ (by rw[vO];exact h)];unfold wW;rw[eu h,if_pos (by omega)]
 ·rw[getD_set_ne _ _ tX];unfold wW;rw[eu hj,eu hj]
  by_cases h1:j<i
  ·rw[if_pos h1,if_pos (by omega)]
  ·rw[if_neg h1,if_neg (by omega)])
def o7(s:List Int)(i:Nat):List Int:=AN s.length fun j=>if j<i then s.getD j 0 else 0
theorem Ov(s:List Int):o7 s 0=List.replicate s.length 0:=lS (by unfold o7;rw[eB,List.length_replicate]) (fun i hi=>by
 unfold o7 at*;rw[eB]at hi;rw[eu hi,if_neg (by omega),List.getD_eq_getElem?_getD,List.getElem?_replicate,if_pos hi];rfl)
theorem Ru(s:List Int):o7 s s.length=s:=lS (eB ..) (fun i hi=>by unfold o7 at*;rw[eB]at hi;rw[eu hi,if_pos hi])
theorem lT(s:List Int)(i:Nat):(o7 s i).length=s.length:=eB ..
theorem Rv{s:List Int}{i:Nat}(h:i<s.length):(o7 s i).set i (s.getD i 0)=o7 s (i+1):=lS (by rw[List.length_set,lT,lT]) (fun j hj=>by
 rw[List.length_set,lT]at hj
 by_cases tX:i=j
 ·subst tX
  rw[jo _ _ (by rw[lT];exact h)];unfold o7;rw[eu h,if_pos (by omega)]
 ·rw[getD_set_ne _ _ tX];unfold o7;rw[eu hj,eu hj]
  by_cases h1:j<i
  ·rw[if_pos h1,if_pos (by omega)]
  ·rw[if_neg h1,if_neg (by omega)])
theorem De{s:List Int}{i:Nat}(h:s.getD i 0=0):o7 s i=o7 s (i+1):=lS (by rw[lT,lT]) (fun j hj=>by
 rw[lT]at hj
 unfold o7;rw[eu hj,eu hj]
 by_cases h1:j<i
 ·rw[if_pos h1,if_pos (by omega)]
 ·rw[if_neg h1]
  by_cases h2:j=i
  ·subst h2;rw[if_pos (by omega),h]
  ·rw[if_neg (by omega)])
theorem acr(x y:Int):mn x y=min x y:=by rw[Z7];split<;>omega
theorem Ow{t left:Int}{w caps out:List Int}(c:MQ t w caps out left)(hS:0<(bN w caps out).sum)(i:Nat):0≤((du (bk left (bN w caps out)) caps out).take i).sum∧((du (bk left (bN w caps out)) caps out).take i).sum≤left:=by
 have h:=o6 (l:=du (bk left (bN w caps out)) caps out) (fun i _=>(lq c hS i).1)
 have:=xY h i
 have:=AP c hS
 exact⟨gn (Hi h i),by omega⟩
theorem AQ(N:Nat)(K:List Int→List Int→List Int→Int→Int→Option (List Int×Int×Int)){t left:Int}{w caps out:List Int}(c:MQ t w caps out left)(hS:0<(bN w caps out).sum)(rd:Int): ∀(m n i:Nat),w.length-i≤m→m<n→i≤w.length→
  db.Oc N K n w caps (wW out (du (bk left (bN w caps out)) caps out) i) (left-((du (bk left (bN w caps out)) caps out).take i).sum) rd (bk left (bN w caps out)) (i:Int)=
  K w caps (so out (du (bk left (bN w caps out)) caps out)) (left-(du (bk left (bN w caps out)) caps out).sum) (W .i64 (rd+1))
 |m,0,i,_,hn,_=>by omega
 |m,n+1,i,hm,hn,hi=>by
  have n64:=c.n
  have e1:=c.l1
  have e2:=c.l2
  unfold db.Oc db.KA
  by_cases h:i<w.length
  ·have hc:=c.pc i
   have ho:=c.po i
   have hle:=c.le i h
   have hg:=lq c hS i
   have h6:(du (bk left (bN w caps out)) caps out).getD i 0=min ((bk left (bN w caps out)).getD i 0) (caps.getD i 0-out.getD i 0):=eu (by rw[c.l2];exact h)
   have ht:=Ow c hS i
   have hl:=Hn c
   have ru:=c.t1
   have hgl:(du (bk left (bN w caps out)) caps out).getD i 0≤left:=by
    have:=uu (o6 (l:=du (bk left (bN w caps out)) caps out) (fun i _=>(lq c hS i).1)) i
    have:=AP c hS
    omega
   dsimp only
   rw[aE (by omega),cond_true,aG (by omega) (by rw[kR,fm];omega),cond_true,aG (by omega) (by omega),cond_true,aG (by omega) (by rw[vO];omega),cond_true,cond_true,Int.toNat_natCast,acq (by omega),al (x:=caps.getD i 0-out.getD i 0) (by omega) (by omega),acr,←h6,
    al (x:=(i:Int)+1) (by omega) (by omega),al (x:=out.getD i 0+_) (by omega) (by omega),al (x:=left-_-_) (by omega) (by omega),UR (by omega)]
   have:=AQ N K c hS rd (m-1) n (i+1) (by omega) (by omega) (by omega)
   rw[iJ _ (by rw[sq];omega),←Int.sub_sub]at this
   exact this
  ·rw[aA (by omega),cond_false,UQ _ _ (by omega),List.take_of_length_le (by rw[sq];omega)]
def Hr(w caps out:List Int)(i:Nat):Prop:= ∃j,j<i∧0<w.getD j 0∧out.getD j 0<caps.getD j 0
theorem qN(N:Nat)(hN:5000000≤N)(K:List Int→List Int→List Int→Int→Int→Option (List Int×Int×Int)){t left:Int}{w caps out:List Int}(c:MQ t w caps out left)(rd:Int): ∀(m n i:Nat) (b:Bool),w.length-i≤m→m<n→i≤w.length→(b=true↔Hr w caps out i)→
  db.kL N K n w caps out left rd (o7 (bN w caps out) i) b (i:Int)=
  if left=0∨(bN w caps out).sum=0 then some (out,left,0)else K w caps (so out (du (bk left (bN w caps out)) caps out)) (left-(du (bk left (bN w caps out)) caps out).sum) (W .i64 (rd+1))
 |m,0,i,b,_,hn,_,_=>by omega
 |m,n+1,i,b,hm,hn,hi,hb=>by
  have n64:=c.n
  have e1:=c.l1
  have e2:=c.l2
  unfold db.kL db.jV
  by_cases h:i<w.length
  ·have h1:(bN w caps out).getD i 0=if out.getD i 0<caps.getD i 0 then w.getD i 0 else 0:=eu h
   have hw:=fl c.pw i
   have oN: ¬(0<w.getD i 0∧out.getD i 0<caps.getD i 0)→(b=true↔Hr w caps out (i+1)):=fun pI=>hb.trans ⟨fun⟨j,hj,h2⟩=>⟨j,by omega,h2⟩,fun⟨j,hj,h2⟩=>⟨j,by
    by_cases tX:j=i
    ·subst tX;exact absurd h2 pI
    ·omega,h2⟩⟩
   rw[aE (by omega),cond_true,aG (by omega) (by omega),cond_true,Int.toNat_natCast]
   by_cases h0:0<w.getD i 0
   ·rw[aE h0,cond_true,aG (by omega) (by omega),cond_true,aG (by omega) (by omega),cond_true]
    by_cases h2:out.getD i 0<caps.getD i 0
    ·rw[if_pos h2]at h1
     rw[aE h2,cond_true,cond_true,aG (by omega) (by rw[lT,fm];omega),cond_true,al (by omega) (by omega),←h1,Rv (by rw[fm];exact h)]
     exact qN N hN K c rd (m-1) n (i+1) true (by omega) (by omega) (by omega) ⟨fun _=>⟨i,by omega,h0,h2⟩,fun _=>rfl⟩
    ·rw[if_neg h2]at h1
     rw[aA (by omega),cond_false,al (by omega) (by omega),De h1]
     exact qN N hN K c rd (m-1) n (i+1) b (by omega) (by omega) (by omega) (oN (fun h=>h2 h.2))
   ·have h3:(bN w caps out).getD i 0=0:=by rw[h1];split<;>omega
    rw[aA (by omega),cond_false,al (by omega) (by omega),De h3]
    exact qN N hN K c rd (m-1) n (i+1) b (by omega) (by omega) (by omega) (oN (fun h=>h0 h.1))
  ·have hl1:=Hn c
   have ru:=c.t1
   have hl0:=c.l
   have kk:i=(bN w caps out).length:=by rw[fm];omega
   have hp:=nR (caps:=caps) (out:=out) c.pw
   have hs:=Hm (caps:=caps) (out:=out) c.pw
   have hs0:=gn hp
   have hsw:=c.sw
   have hm:may (bN w caps out)=true:=ln.2 ⟨by rw[fm];omega,hp⟩
   rw[aA (by omega),cond_false]
   by_cases h4:left=0
   ·rw[cG h4,cond_true,if_pos (.inl h4)]
   rw[cA h4,cond_false]
   by_cases h3:(bN w caps out).sum=0
   ·have hbf:b=false:=by
     rw[Bool.eq_false_iff];intro ht
     obtain⟨j,hj,h5⟩:=hb.1 ht
     exact Dd c.pw h3 j (by omega) h5
    rw[if_pos (.inr h3),hbf];rfl
   ·have hbt:b=true:=hb.2 (by
     obtain⟨j,hj,h5⟩:=EF c.pw h3
     exact⟨j,by omega,h5⟩)
    rw[hbt,Bool.not_true,cond_false,if_neg (by omega),kk,Ru,wU N (by omega) (by omega) (Rs c) (by rw[fm];omega),Option.bind_some]
    unfold nP
    rw[if_neg (by rw[hm];simp;omega),if_neg (by omega),if_neg h3]
    have:=AQ N K c (by omega) rd w.length N 0 (by omega) (by omega) (by omega)
    rw[mid_zero,List.take_zero,List.sum_nil,Int.sub_zero]at this
    exact this
theorem Df(N:Nat)(hN:5000000≤N){t:Int}{w caps:List Int}: ∀(f n:Nat) (out:List Int) (left:Int),MQ t w caps out left→f≤w.length+1→f<n→
  db.l8 N n w caps out left ((w.length+1-f:Nat):Int)=some ((qM w caps f out left).1,(qM w caps f out left).2,0)
 |f,0,out,left,c,_,hn=>by omega
 |0,n+1,out,left,c,h,hn=>by
  unfold db.l8 db.wk
  rw[cM (by omega)];rfl
 |f+1,n+1,out,left,c,h,hn=>by
  have n64:=c.n
  have hl:=c.l
  unfold db.l8 db.wk
  rw[cS (by omega),cond_true,bC (by omega) (by omega) (by omega),cond_true,Int.toNat_natCast]
  have:=qN N hN (db.l8 N n) c ((w.length+1-(f+1):Nat):Int) w.length N 0 false (by omega) (by omega) (by omega) ⟨(fun h=>nomatch h),fun⟨j,hj,_⟩=>by omega⟩
  rw[Ov,fm]at this
  refine Eq.trans this ?_
  have hS:=gn (nR (caps:=caps) (out:=out) c.pw)
  unfold qM
  by_cases h1:left=0∨(bN w caps out).sum=0
  ·rw[if_pos h1,if_pos h1]
  ·rw[if_neg h1,if_neg h1,al (by omega) (by omega),show(((w.length+1-(f+1):Nat):Int)+1)=((w.length+1-f:Nat):Int)by omega]
   exact Df N hN f n _ _ (Ho c (by omega)) (by omega) (by omega)
def qO(t:Int)(w caps:List Int):List Int×Int×Int:=
 if t<0∨may w=false∨caps.length≠w.length∨may caps=false then([],0,1)else if 9223372036854775808≤w.sum then([],0,2)
 else((qM w caps (w.length+1) (List.replicate w.length 0) t).1,(qM w caps (w.length+1) (List.replicate w.length 0) t).2,0)
theorem mQ(n i:Nat):(List.replicate n (0:Int)).getD i 0=0:=by
 rw[List.getD_eq_getElem?_getD,List.getElem?_replicate];split<;>rfl
theorem Dg{t:Int}{w caps:List Int}(ht:0≤t)(ru:t<9223372036854775808)(hw:may w=true)(hc:may caps=true)(hl:caps.length=w.length)(hi:EA caps)(hs:w.sum<9223372036854775808):MQ t w caps (List.replicate w.length 0) t:=by
 obtain⟨h1,h2⟩:=ln.1 hw
 obtain⟨h3,h4⟩:=ln.1 hc
 refine⟨h1,hl,List.length_replicate ..,h2,hs,fun i=>⟨fl h4 i,(pR hi i).2⟩,fun i=>by rw[mQ];omega,fun i _=>by rw[mQ];exact fl h4 i,fun i _=>mQ ..,ht,ru,?_⟩
 rw[sm (fun i _=>mQ ..)];omega
theorem KP(N:Nat)(hN:5000000≤N){t:Int}{w caps:List Int}(ru:t<9223372036854775808)(hw:EA w)(hc:EA caps)(hl:w.length≤1000000):db N t w caps=some (qO t w caps):=by
 unfold db db.b qO
 rw[AG N (by omega),Option.bind_some]
 by_cases h1:t<0
 ·rw[decide_eq_true h1,Bool.true_or,cond_true,if_pos (.inl h1)]
 rw[decide_eq_false h1,Bool.false_or]
 cases h2:may w
 ·rw[Bool.not_false,cond_true,if_pos (.inr (.inl rfl))]
 rw[Bool.not_true,cond_false]
 by_cases h3:caps.length=w.length
 case neg=>rw[cA (by omega),Bool.not_false,cond_true,if_pos (.inr (.inr (.inl h3)))]
 rw[cG (by omega),Bool.not_true,cond_false,AG N (by omega),Option.bind_some]
 cases h4:may caps
 ·rw[if_pos (.inr (.inr (.inr rfl)))];rfl
 have hp:=gn (ln.1 h2).2
 rw[show(decide ((0:Int)<0)|| !true)=false from rfl,cond_false,uc N (by omega) hw hl,Option.bind_some,qu,Option.bind_some,if_neg (by simp;omega)]
 by_cases h5:9223372036854775808≤w.sum
 ·rw[if_pos h5];unfold B4;rw[if_neg (by omega)];rfl
 rw[if_neg h5,ED (by omega) (by omega),Bool.not_true,cond_false,bC (by omega) (by omega) (by omega),cond_true,Int.toNat_natCast]
 have mK:=(ln.1 h2).1
 have:=Df N hN (w.length+1) N _ _ (Dg (by omega) ru h2 h4 h3 hc (by omega)) (by omega) (by omega)
 rw[Nat.sub_self]at this
 exact this
end VM
end
section
namespace VM
open Go VM.F
theorem sZ{a b:Int}: ∀{l:aj},uh (l.map keyOf)→ib a b l=cE a b l
 |[],_=>rfl
 |x::t,h=>by
  obtain⟨h1,h2⟩:=List.pairwise_cons.1 h
  rw[ic,fJ,←sZ h2]
  by_cases e1:x.1=a
  ·by_cases e2:x.2.1=b
   ·have hz:cE a b t=0:=je fun y hy e=>by
     have hk:=h1 (keyOf y) (List.mem_map_of_mem hy)
     have he:keyOf y=keyOf x:=Prod.ext (e.1.trans e1.symm) (e.2.trans e2.symm)
     rw[he]at hk
     exact mM hk
    rw[if_pos e1,if_pos e2,if_pos ⟨e1,e2⟩,sZ h2,hz,Int.add_zero];rfl
   ·rw[if_pos e1,if_neg e2,if_neg (fun h=>e2 h.2),Int.zero_add]
  ·rw[if_neg e1,if_neg (fun h=>e1 h.1),Int.zero_add]
theorem KQ{t:Int}{w caps:List Int}(ru:t<9223372036854775808)(hc:EA caps)(hx:(qO t w caps).2.2=0):Full t w caps (qO t w caps).1 (qO t w caps).2.1:=by
 unfold qO at*
 by_cases h1:t<0∨may w=false∨caps.length≠w.length∨may caps=false
 ·rw[if_pos h1]at hx;exact absurd hx (by decide)
 ·rw[if_neg h1]at hx ⊢
  by_cases h2:9223372036854775808≤w.sum
  ·rw[if_pos h2]at hx;exact absurd hx (by decide)
  ·rw[if_neg h2]
   have h3:may w=true:=by cases h:may w<;>simp_all
   have h4:may caps=true:=by cases h:may caps<;>simp_all
   have h5:caps.length=w.length:=Decidable.byContradiction fun h=>h1 (Or.inr (Or.inr (Or.inl h)))
   exact Hp _ _ _ (Dg (by omega) ru h3 h4 h5 hc (by omega)) (Or.inl (by have:=Rt w caps (List.replicate w.length 0);omega))
end VM
end
section
namespace VM
open Go VM.F
def Rw(c:aa)(p:List Int)(k:Int):aj→Int
 |[]=>0
 |x::t=>(if x.1=0∧(c.1.getD x.2.1.toNat aJ).1=k then eP x*p.getD x.2.1.toNat 0 else 0)+Rw c p k t
def Hs(c:aa)(p:List Int)(k:Int)(l:aj):Nat→Int
 |0=>0
 |n+1=>Hs c p k l n+if(c.1.getD n aJ).1=k then cE 0 (n:Int) l*p.getD n 0 else 0
theorem s0(c:aa)(p:List Int)(k:Int)(l:aj)(n:Nat):Hs c p k l (n+1)=Hs c p k l n+if(c.1.getD n aJ).1=k then cE 0 (n:Int) l*p.getD n 0 else 0:=rfl
theorem Ht(c:aa)(p:List Int)(k:Int): ∀n,Hs c p k [] n=0
 |0=>rfl
 |n+1=>by rw[s0,Ht,CQ,Int.zero_mul];split<;>rfl
theorem Dh(c:aa)(p:List Int)(k:Int)(x:bW)(t:aj)(m:Nat)(hm:(x.2.1:Int)=(m:Int)): ∀n,Hs c p k (x::t) n=Hs c p k t n+if x.1=0∧m<n∧(c.1.getD m aJ).1=k then eP x*p.getD m 0 else 0
 |0=>by rw[if_neg (fun h=>by omega)];rfl
 |n+1=>by
  rw[s0,s0,Dh c p k x t m hm n,fJ]
  by_cases hk:(c.1.getD n aJ).1=k
  ·rw[if_pos hk,if_pos hk,Int.add_mul]
   by_cases hn:m=n
   ·subst hn
    rw[if_neg (fun h=>by omega)]
    by_cases h0:x.1=0
    ·rw[if_pos ⟨h0,hm⟩,if_pos ⟨h0,by omega,hk⟩];omega
    ·rw[if_neg (fun h=>h0 h.1),if_neg (fun h=>h0 h.1),Int.zero_mul];omega
   ·have e: ¬(x.1=0∧x.2.1=(n:Int)):=fun h=>hn (by
     have h2:(n:Int)=(m:Int):=h.2.symm.trans hm
     omega)
    rw[if_neg e,Int.zero_mul]
    by_cases h1:x.1=0∧m<n∧(c.1.getD m aJ).1=k
    ·rw[if_pos h1,if_pos ⟨h1.1,by omega,h1.2.2⟩];omega
    ·rw[if_neg h1,if_neg (fun h=>h1 ⟨h.1,by have:=h.2.1;omega,h.2.2⟩)];omega
  ·rw[if_neg hk,if_neg hk]
   by_cases h1:x.1=0∧m<n∧(c.1.getD m aJ).1=k
   ·rw[if_pos h1,if_pos ⟨h1.1,by omega,h1.2.2⟩];omega
   ·rw[if_neg h1,if_neg (fun h=>h1 ⟨h.1,by
     have h2:=h.2.1
     by_cases e:m=n
     ·subst e;exact absurd h.2.2 hk
     ·omega,h.2.2⟩)]
theorem Di(c:aa)(p:List Int)(k:Int)(n:Nat): ∀{l:aj},(∀x∈l,mN x.2.1 n)→Hs c p k l n=Rw c p k l
 |[],_=>Ht c p k n
 |x::t,h=>by
  have ih:=Di c p k n (l:=t) (fun y hy=>h y (List.mem_cons_of_mem _ hy))
  have hx:=h x (List.mem_cons_self ..)
  have g: ∀v:Int,mN v n→v=((v.toNat:Nat):Int)∧v.toNat<n:=fun v h=>by unfold mN at h;omega
  have gx:=g _ hx
  rw[Dh c p k x t x.2.1.toNat gx.1 n,ih]
  show _=(if x.1=0∧(c.1.getD x.2.1.toNat aJ).1=k then eP x*p.getD x.2.1.toNat 0 else 0)+Rw c p k t
  by_cases h1:x.1=0∧(c.1.getD x.2.1.toNat aJ).1=k
  ·rw[if_pos h1,if_pos ⟨h1.1,gx.2,h1.2⟩];omega
  ·rw[if_neg h1,if_neg (fun h=>h1 ⟨h.1,h.2.2⟩)];omega
theorem AS{c:aa}{b:ag}(hk:cR b.2.2.2.1=true)(k:Int): ∀n,nO c b k n=Hs c b.2.2.2.2.1 k b.2.2.2.1 n
 |0=>rfl
 |n+1=>by
  have hs:=(gR hk).1
  have e:dX b.2.2.2.1 0 (n:Int)=cE 0 (n:Int) b.2.2.2.1:=by
   unfold dX;rw[hk]
   exact sZ hs
  rw[uq,s0,AS hk k n]
  unfold AB
  rw[e]
end VM
end
section
namespace VM
open Go VM.F
def Ox(c:aa)(p:List Int)(k:Int):au→Int
 |[]=>0
 |y::t=>(if(c.1.getD y.1.toNat aJ).1=k then y.2.1*p.getD y.1.toNat 0 else 0)+Ox c p k t
theorem Dj(c:aa)(p:List Int)(k:Int)(y:Ks)(t:au):Ox c p k (y::t)=(if(c.1.getD y.1.toNat aJ).1=k then y.2.1*p.getD y.1.toNat 0 else 0)+Ox c p k t:=rfl
theorem Dl(c:aa)(p:List Int)(k:Int): ∀l:aj,Rw c p k l=Ox c p k (gS 0 l)
 |[]=>rfl
 |x::t=>by
  have ih:=Dl c p k t
  show(if x.1=0∧(c.1.getD x.2.1.toNat aJ).1=k then eP x*p.getD x.2.1.toNat 0 else 0)+Rw c p k t=_
  rw[ju,ih]
  by_cases h:x.1=0
  ·rw[if_pos h,Dj]
   by_cases h2:(c.1.getD x.2.1.toNat aJ).1=k
   ·rw[if_pos ⟨h,h2⟩,if_pos h2];rfl
   ·rw[if_neg (fun h=>h2 h.2),if_neg h2]
  ·rw[if_neg h,if_neg (fun k=>h k.1),Int.zero_add]
def gb(f:Int→Int):de:=[bm (f 0),bm (f 1),bm (f 2),bm (f 3)]
theorem Dm(f:Int→Int){k:Int}(h:0≤k∧k≤3):(gb f).getD k.toNat bI=bm (f k):=by
 have:k=0∨k=1∨k=2∨k=3:=by omega
 rcases this with rfl|rfl|rfl|rfl<;>rfl
theorem KR(f:Int→Int){k:Int}(h:0≤k∧k≤3)(v:Int):(gb f).set k.toNat (bm (f k+v))=gb (fun j=>f j+if k=j then v else 0):=by
 have:k=0∨k=1∨k=2∨k=3:=by omega
 unfold gb
 rcases this with rfl|rfl|rfl|rfl<;>simp
theorem mR{f g:Int→Int}(h: ∀k,f k=g k):gb f=gb g:=by rw[funext h]
theorem Oy(N:Nat)(hN:200000≤N)(c:aa){b:ag}{t:au}(hl:t.length≤6)(mK: ∀y∈t,aC y.2.1)(BF: ∀y∈t,mN y.1 c.1.length)(hp:b.2.2.2.2.1.length=c.1.length)(B3:fT b.2.2.2.2.1=true)(Tj: ∀i,i<c.1.length→0≤(c.1.getD i aJ).1∧(c.1.getD i aJ).1≤3):
  wm.l5 N N c b (gb fun _=>0) t (t.length:Int) 0=some (gb (fun k=>Ox c b.2.2.2.2.1 k t),0):=by
 have:=nG t bI (fun n i (f:Int→Int)=>wm.l5 N n c b (gb f) t (t.length:Int) i) (fun u f=>some (gb (fun k=>f k+Ox c b.2.2.2.2.1 k u),(0:Int)))
  (fun i f=> ∀k,-(9223372036854775808000000000000*(i:Int))≤f k∧f k≤9223372036854775808000000000000*(i:Int))
  (fun n i f hi hI hr=> ?_) (fun n f hI=> ?_) t.length N 0 (fun _=>0) (by omega) (by omega) (by omega) (fun k=>⟨Int.le_refl _,Int.le_refl _⟩)
 ·refine this.trans ?_
  rw[List.drop_zero]
  exact congrArg (fun z=>some (z,(0:Int))) (mR fun k=>Int.zero_add _)
 ·unfold wm.l5 wm.c0
  have hm:t.getD i bI∈t:=by
   rw[List.getD_eq_getElem?_getD,List.getElem?_eq_getElem hi];exact List.getElem_mem hi
  have hq:=mK _ hm
  have hpy:=BF _ hm
  rw[aE (by omega),cond_true,aG (by omega) (by omega),cond_true,Int.toNat_natCast,al (x:=(i:Int)+1) (by omega) (by omega),ae i]
  generalize t.getD i bI=y at*
  have g: ∀v:Int,mN v c.1.length→aL v c.1.length=true∧aL v b.2.2.2.2.1.length=true∧v.toNat<c.1.length:=fun v h=>by unfold mN at h;exact⟨aG (by omega) (by omega),aG (by omega) (by omega),by omega⟩
  have gy:=g _ hpy
  have hk:=Tj _ gy.2.2
  have BA:=nN B3 (i:=y.1.toNat) (by omega)
  have ir:aL (c.1.getD y.1.toNat aJ).1 (gb f).length=true:=aG hk.1 (by
   have g: ∀x:Int,x≤3→x<((4:Nat):Int):=fun x _=>by omega
   exact g _ hk.2)
  have hma:=MI hq BA
  have anv:=BA
  unfold bw at anv
  have pk:=hq
  unfold aC at pk
  have hf:=hI (c.1.getD y.1.toNat aJ).1
  rw[gy.1,cond_true,ir,cond_true,gy.2.1,cond_true,vn N pk.1 pk.2 (by omega) (by omega),Option.bind_some,Dm f hk,Ey N (by unfold bL;omega) (by unfold bL;omega) (by unfold bL;omega),Option.bind_some,cond_true]
  dsimp only
  rw[KR f hk,hr _ (fun k=>by
   have:=hI k
   split<;>omega)]
  refine congrArg (fun z=>some (z,(0:Int))) (mR fun k=> ?_)
  rw[Dj]
  omega
 ·unfold wm.l5 wm.c0
  rw[aA (by omega),cond_false]
  refine congrArg (fun z=>some (z,(0:Int))) (mR fun k=> ?_)
  show f k=f k+0
  omega
theorem vP{c:aa}{b:ag}(h:bV c b=true): ∀x∈b.2.2.2.1,mN x.2.1 c.1.length:=fun x hx=>by
 have hk:=(jZ h).2
 have h0:=(gR hk).2 x hx
 unfold bV at h
 simp only[Bool.and_eq_true]at h
 have h1:=of_decide_eq_true h.2.2.2.2.2.2.2.2.1
 obtain⟨i,hi,e⟩:=List.getElem_of_mem hx
 have h2:=h1 i hi
 unfold ia at h2
 rw[List.getD_eq_getElem?_getD,List.getElem?_eq_getElem hi]at h2
 simp only[Option.getD_some,e]at h2
 have g: ∀u v:Int,bR u v→Fw v c.1.length→mN v c.1.length:=fun u v h1 h2=>by unfold bR at h1;unfold Fw at h2;unfold mN;omega
 exact g _ _ h0.1 h2.2
theorem MR(N:Nat)(hN:4000000≤N)(c:aa){b:ag}(w:fi b):wm N c b=some (if bV c b then(gb (bG c b),0)else([],1)):=by
 unfold wm wm.b
 rw[zd N hN w,Option.bind_some,cond_not]
 by_cases hB:bV c b=false
 ·rw[hB];rfl
 rw[Bool.not_eq_false]at hB
 rw[hB,cond_true,if_pos rfl,bC (by omega) (by omega) (by omega),cond_true,aaw N w.s (by omega),Option.bind_some]
 obtain⟨BF,B3⟩:=cP hB
 obtain⟨h6,Tj⟩:=eQ (c7 hB)
 obtain⟨_,hk⟩:=jZ hB
 have ah0:=vP hB
 have e:posOf b.2.2.2.1 0=gS 0 b.2.2.2.1:=by unfold posOf;rw[hk];rfl
 have MC:=Oy N (by omega) c (b:=b) (t:=posOf b.2.2.2.1 0) (Rj hk w.qs 0).len (Hb w.qs 0) (fun y hy=>by
  rw[e]at hy
  obtain⟨x,hx,_,rfl⟩:=fL hy
  exact ah0 x hx) BF B3 Tj
 have e0:gb (fun _=>0)=List.replicate (4:Int).toNat bI:=rfl
 rw[e0]at MC
 refine MC.trans (congrArg (fun z=>some (z,(0:Int))) (mR fun k=> ?_))
 unfold bG
 rw[e,←Dl,AS hk,Di c _ k _ ah0]
end VM
end
section
namespace VM
open Go VM.F
theorem US(N:Nat){x:Int}(h:bL x)(hx:x≠ -170141183460469231731687303715884105728):UT N (bm x)=some (bm (-x),true):=by
 unfold UT KS bm
 unfold bL at h
 dsimp only
 have hp:0≤x%18446744073709551616∧x%18446744073709551616<18446744073709551616:=by omega
 have hh: -9223372036854775808≤x/18446744073709551616∧x/18446744073709551616<9223372036854775808:=by omega
 rw[jm,jm,iH N (by omega) (by omega) (by omega) (by omega) (by omega) (by omega),Option.bind_some]
 dsimp only
 have hb:(0:Int)≤(if(0:Int)<x%18446744073709551616+0 then 1 else 0)∧(if(0:Int)<x%18446744073709551616+0 then(1:Int)else 0)≤1:=by split<;>omega
 rw[iH N (by omega) (by omega) (by omega) (by omega) hb.1 hb.2,Option.bind_some]
 dsimp only
 have key: ∀{z:aS},z=bm (-x)→((some (z,true):Option (aS×Bool)).bind fun r1=>some (r1.1,r1.2))=some (bm (-x),true):=fun e=>by rw[e];rfl
 have e3:W .i64 ((0%18446744073709551616-x/18446744073709551616%18446744073709551616-(if(0:Int)<x%18446744073709551616+0 then 1 else 0))%18446744073709551616)=(-x)/18446744073709551616:=by
  by_cases h0:x%18446744073709551616=0
  ·rw[if_neg (show ¬(0:Int)<x%18446744073709551616+0 by omega),dO];split<;>omega
  ·rw[if_pos (show(0:Int)<x%18446744073709551616+0 by omega),dO];split<;>omega
 have e1:(0-x%18446744073709551616-0)%18446744073709551616=(-x)%18446744073709551616:=by omega
 rw[e3,e1]
 simp only[nF,pe]
 by_cases a:x/18446744073709551616<0
 ·have c: ¬(-x)/18446744073709551616<0:=by omega
  rw[decide_eq_false (show ¬(0:Int)<0 by omega),decide_eq_true a,decide_eq_false c]
  exact key rfl
 ·rw[decide_eq_false (show ¬(0:Int)<0 by omega),decide_eq_false a]
  exact key rfl
theorem EG(N:Nat){x:Int}(h:bL x)(hx:x≠ -170141183460469231731687303715884105728):Hu N (bm x)=some (bm (x.natAbs:Int),true):=by
 unfold Hu
 have e:(bm x).1=x/18446744073709551616:=rfl
 rw[e]
 by_cases h0:x<0
 ·rw[aE (show x/18446744073709551616<0 by omega),cond_true,US N h hx,Option.bind_some,show(x.natAbs:Int)= -x by omega]
 ·rw[aA (show 0≤x/18446744073709551616 by omega),cond_false,show(x.natAbs:Int)=x by omega]
end VM
end
section
namespace VM
open Go VM.F
theorem AT{k:Int}: ∀{i:Nat} {l:aD},gm k i l=[]→ ∀x∈l,¬x.1=k
 |i,[],_,x,hx=>nomatch hx
 |i,y::t,h,x,hx=>by
  rw[mP]at h
  by_cases e:y.1=k
  ·rw[if_pos e]at h;exact absurd h (by simp)
  ·rw[if_neg e]at h
   rcases List.mem_cons.1 hx with rfl|hx
   ·exact e
   ·exact AT h x hx
theorem sr{k:Int}: ∀{i:Nat} {l:aD},gm k i l≠[]→(i:Int)≤(gm k i l).getD 0 0∧(gm k i l).getD 0 0<((i+l.length:Nat):Int)
 |i,[],h=>absurd rfl h
 |i,y::t,h=>by
  rw[mP]at h ⊢
  by_cases e:y.1=k
  ·rw[if_pos e,List.length_cons]
   show(i:Int)≤(i:Int)∧(i:Int)<_
   omega
  ·rw[if_neg e]at h ⊢
   have:=sr h
   rw[List.length_cons];omega
theorem KT{c:aa}{b:ag}(hp:dR c=true){k:Int}(h:bD c k=[]):bG c b k=0:=by
 unfold bD at h
 rw[hp,if_pos rfl]at h
 have hn:=AT h
 have key: ∀n,n≤c.1.length→nO c b k n=0:=by
  intro n
  induction n with
  |zero=>intro _;rfl
  |succ n ih=>
   intro hle
   rw[uq,ih (by omega),if_neg (hn _ (by
    rw[List.getD_eq_getElem?_getD,List.getElem?_eq_getElem (by omega)];exact List.getElem_mem _))];rfl
 exact key _ (Nat.le_refl _)
def pZ(c:aa):Int:=c.2.2.2.2.2.2.1
def qOf(v p:Int):Int:=if(v.natAbs:Int)/p≤1000000000 then(v.natAbs:Int)/p else 1000000000
def dC(c:aa)(b:ag)(k:Int):Int×Int×Int:=
 ((bD c k).getD 0 0,((if 0<bG c b k then 2 else 1),qOf (bG c b k) (b.2.2.2.2.1.getD ((bD c k).getD 0 0).toNat 0)))
def ss(c:aa)(b:ag)(next:Int):Nat→Nat→aD→aD
 |0,_,out=>out
 |m+1,k,out=>if((bG c b (k:Int)).natAbs:Int)≤pZ c then ss c b next m (k+1) out else
  if(dC c b (k:Int)).2.2=0 then ss c b next m (k+1) out else
  ss c b next m (k+1) (out++[(next+(out.length:Int),((dC c b (k:Int)).1,((dC c b (k:Int)).2.1,((dC c b (k:Int)).2.2,()))))])
theorem p3(c:aa)(b:ag)(next:Int)(m k:Nat)(out:aD):ss c b next (m+1) k out=if((bG c b (k:Int)).natAbs:Int)≤pZ c then ss c b next m (k+1) out else
 if(dC c b (k:Int)).2.2=0 then ss c b next m (k+1) out else
 ss c b next m (k+1) (out++[(next+(out.length:Int),((dC c b (k:Int)).1,((dC c b (k:Int)).2.1,((dC c b (k:Int)).2.2,()))))]):=rfl
def eR(c:aa)(b:ag)(next:Int):aD×Int:=
 if bV c b then(if 1≤next∧next≤1099511627772 then(ss c b next 4 0 [],0)else([],1))else([],1)
theorem EH{c:aa}{b:ag}(w:fi b)(hB:bV c b=true){k:Int}(h: ¬((bG c b k).natAbs:Int)≤pZ c)(h0:0≤pZ c):
  bD c k≠[]∧aL ((bD c k).getD 0 0) b.2.2.2.2.1.length=true∧bw (b.2.2.2.2.1.getD ((bD c k).getD 0 0).toNat 0):=by
 have BF:=c7 hB
 obtain⟨hp,B3⟩:=cP hB
 have gi:bD c k≠[]:=fun e=>h (by rw[KT BF e];exact h0)
 have hh:0≤(bD c k).getD 0 0∧(bD c k).getD 0 0<(c.1.length:Int):=by
  unfold bD at gi ⊢
  rw[BF,if_pos rfl]at gi ⊢
  have:=sr gi
  omega
 exact⟨gi,aG (by omega) (by omega),nN B3 (by omega)⟩
theorem AU{c:aa}{b:ag}(w:fi b)(hB:bV c b=true)(k:Int):bL (bG c b k)∧((bG c b k).natAbs:Int)≤60000000000000000000000000000000:=by
 have h6:=(eQ (c7 hB)).1
 have:=wT w hB k c.1.length (Nat.le_refl _)
 unfold bG bL
 omega
theorem EI{c:aa}{b:ag}(hB:bV c b=true):0≤pZ c:=by
 have h:=c7 hB
 unfold dR at h
 simp only[Bool.and_eq_true]at h
 have:=of_decide_eq_true h.2.2
 exact this.2.2.2.2.2
theorem EJ{v p:Int}(hv:(v.natAbs:Int)≤60000000000000000000000000000000)(hp:bw p):0≤(v.natAbs:Int)/p∧bL ((v.natAbs:Int)/p):=by
 unfold bw at hp
 have h1:0≤(v.natAbs:Int)/p:=Int.ediv_nonneg (by omega) (by omega)
 have h2:(v.natAbs:Int)/p≤v.natAbs:=Int.ediv_le_self _ (by omega)
 unfold bL;omega
end VM
end
section
namespace VM
open Go VM.F
theorem KU(N:Nat)(hN:4000000≤N)(c:aa)(hc:aC (pZ c)){b:ag}(w:fi b)(next:Int):qP N c b next=some (eR c b next):=by
 unfold qP qP.b eR
 rw[MR N hN c w,Option.bind_some]
 by_cases hB:bV c b=false
 ·rw[hB]
  show cond (!ay 1 0) _ _=_
  rw[cA (by omega)];rfl
 rw[Bool.not_eq_false]at hB
 rw[hB,if_pos rfl,if_pos rfl]
 dsimp only
 rw[dI,Bool.not_true,cond_false,a8,a8]
 by_cases h1:next<1
 ·rw[if_pos h1,if_neg (by omega)]
 rw[if_neg h1]
 by_cases h2:1099511627772<next
 ·rw[if_pos h2,if_neg (by omega)]
 rw[if_neg h2,if_pos (by omega)]
 have h0:=EI hB
 obtain⟨h6,Tj⟩:=eQ (c7 hB)
 have key: ∀(m n k:Nat) (out:aD),k+m=4→m<n→out.length≤k→qP.l6 N n next c b out (gb (bG c b)) ((gb (bG c b)).length:Int) (k:Int)=some (ss c b next m k out,0):=by
  intro m n
  induction n generalizing m with
  |zero=>intro k out _ hn;omega
  |succ n ih=>
   intro k out hk hn ho
   unfold qP.l6 qP.pn
   have hlen:(gb (bG c b)).length=4:=rfl
   rw[hlen]
   match m,hk,hn with
   |0,hk,hn=>rw[aA (by omega),cond_false];rfl
   |m+1,hk,hn=>
    obtain⟨hv,hva⟩:=AU w hB (k:Int)
    have hvn:bG c b (k:Int)≠ -170141183460469231731687303715884105728:=by omega
    have ld:=Dm (bG c b) (k:=(k:Int)) (by omega)
    have UU:=fun qw TC=>ih m (k+1) qw (by omega) (by omega) TC
    rw[hlen]at UU
    unfold aC pZ at hc
    rw[aE (by omega),cond_true,aG (by omega) (by omega),cond_true,ld,EG N hv hvn,Option.bind_some,mh N hc.1 hc.2,Option.bind_some,vx,Option.bind_some,bt,al (x:=(k:Int)+1) (by omega) (by omega),ae k,p3]
    have hs:mC (((bG c b (k:Int)).natAbs:Int)-c.2.2.2.2.2.2.1)≤0↔((bG c b (k:Int)).natAbs:Int)≤pZ c:=by
     unfold pZ mC;split<;>(try split)<;>omega
    by_cases h3:((bG c b (k:Int)).natAbs:Int)≤pZ c
    ·rw[if_pos (hs.2 h3),if_pos h3]
     exact UU out (by omega)
    ·obtain⟨gi,ir,hp⟩:=EH w hB h3 h0
     have hl0:0<(bD c (k:Int)).length:=List.length_pos_iff.2 gi
     have hd:=EJ hva hp
     have xl:=hp
     unfold bw at xl
     rw[if_neg (fun h=>h3 (hs.1 h)),if_neg h3,Om N (by omega) c (by omega),Option.bind_some,aG (i:=0) (by omega) (by omega),cond_true,show(0:Int).toNat=0 from rfl,ir,cond_true,Ut N (by omega) (by omega) (by omega) (by omega) (by omega),Option.bind_some,vD N hd.2,Option.bind_some]
     have fin: ∀q:Int,q=(dC c b (k:Int)).2.2→qP.rA N (qP.l6 N n) next c b out (bm (bG c b (k:Int))) ((bD c (k:Int)).getD 0 0) q (gb (bG c b)) ((4:Nat):Int) (k:Int)=some (if(dC c b (k:Int)).2.2=0 then ss c b next m (k+1) out else ss c b next m (k+1) (out++[(next+(out.length:Int),((dC c b (k:Int)).1,((dC c b (k:Int)).2.1,((dC c b (k:Int)).2.2,()))))]),0):=fun q e=>by
      subst e
      unfold qP.rA qP.mu
      have Mh:0<mC (bG c b (k:Int))↔0<bG c b (k:Int):=by unfold mC;split<;>(try split)<;>omega
      rw[aB,al (x:=(k:Int)+1) (by omega) (by omega),ae k,nI,Option.bind_some,al (x:=next+(out.length:Int)) (by omega) (by omega),a8]
      by_cases h4:(dC c b (k:Int)).2.2=0
      ·rw[if_pos h4,if_pos h4];exact UU out (by omega)
      ·rw[if_neg h4,if_neg h4]
       rw[bo (by rw[List.length_singleton];omega),cond_true,bo (by rw[List.length_singleton];omega),cond_true]
       by_cases h5:0<bG c b (k:Int)
       ·rw[if_pos (Mh.2 h5)]
        have e2:(dC c b (k:Int)).2.1=2:=by unfold dC;exact if_pos h5
        rw[e2]
        exact UU _ (by rw[List.length_append,List.length_singleton];omega)
       ·rw[if_neg (fun h=>h5 (Mh.1 h))]
        have e2:(dC c b (k:Int)).2.1=1:=by unfold dC;exact if_neg h5
        rw[e2]
        exact UU _ (by rw[List.length_append,List.length_singleton];omega)
     have hq: ∀d:Int,d=((bG c b (k:Int)).natAbs:Int)/(b.2.2.2.2.1.getD ((bD c (k:Int)).getD 0 0).toNat 0)→(dC c b (k:Int)).2.2=if d≤1000000000 then d else 1000000000:=fun d e=>by subst e;rfl
     have pk:=hq _ rfl
     generalize ((bG c b (k:Int)).natAbs:Int)/(b.2.2.2.2.1.getD ((bD c (k:Int)).getD 0 0).toNat 0)=d at*
     by_cases h6:aC d
     ·rw[vE h6]
      dsimp only
      rw[Bool.not_true,cond_false,a8]
      by_cases h7:1000000000<d
      ·rw[if_pos h7];exact fin _ (by rw[pk,if_neg (by omega)])
      ·rw[if_neg h7];exact fin _ (by rw[pk,if_pos (by omega)])
     ·rw[vF h6]
      dsimp only
      rw[Bool.not_false,cond_true]
      exact fin _ (by rw[pk,if_neg (by unfold aC at h6;omega)])
 exact key 4 N 0 [] (by omega) (by omega) (Nat.le_refl _)
end VM
end
