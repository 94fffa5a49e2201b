/- A part of the proof of HedgeLess of layer 22: what the functions compute, in plain words. -/
import Derived.Test.YtocmlaipoebfeaaGreatPlain1
import Derived.Test.YtocmlaipoebfeaaGreatPlain0
import Derived.Test.YtocmlaipoebfeaaGreatPlain3
set_option linter.all false
section
namespace VM
open Go VM.F
def Bv(l:List Int)(k:Int):Int:=l.getD k.toNat 0
def ins(l:List Int):List Int→Int→List Int
 |[],i=>[i]
 |k::t,i=>if Bv l i≤Bv l k then k::ins l t i else i::k::t
def fH(l:List Int):Nat→List Int
 |0=>[]
 |n+1=>ins l (fH l n) n
def kB(l:List Int):List Int:=fH l l.length
def zb(l:List Int)(a b:Int):Prop:=Bv l b<Bv l a∨(Bv l b=Bv l a∧a<b)
theorem Uk(l:List Int): ∀(o:List Int) (i:Int),(ins l o i).length=o.length+1
 |[],i=>rfl
 |k::t,i=>by unfold ins;split<;>simp[Uk l t i]
theorem tI(l:List Int): ∀n,(fH l n).length=n
 |0=>rfl
 |n+1=>by unfold fH;rw[Uk,tI l n]
theorem zG(l:List Int):(kB l).length=l.length:=tI l _
theorem LG(l:List Int){x:Int}: ∀{o:List Int} {i:Int},x∈ins l o i↔x=i∨x∈o
 |[],i=>by simp[ins]
 |k::t,i=>by
  unfold ins;split
  ·rw[aZ,LG l,aZ]
   exact⟨λh=>h.elim (λh=> .inr (.inl h)) (λh=>h.elim .inl (λh=> .inr (.inr h))),λh=>h.elim (λh=> .inr (.inl h)) (λh=>h.elim .inl (λh=> .inr (.inr h)))⟩
  ·rw[aZ]
theorem tJ(l:List Int){x:Int}: ∀{n:Nat},x∈fH l n↔0≤x∧x<n
 |0=>⟨(λh=>nomatch h),λh=>absurd h.1 ω⟩
 |n+1=>by unfold fH;rw[LG,tJ l];omega
theorem Bx(l:List Int): ∀{o:List Int} {i:Int},o.Pairwise (zb l)→(∀x∈o,x<i)→(ins l o i).Pairwise (zb l)
 |[],i,_,_=>Ff _ _
 |k::t,i,h,hi=>by
  rw[eK]at h
  have hk:k<i:=hi k (bh ..)
  unfold ins;split
  ·rename_i hle
   rw[eK]
   refine⟨λx hx=> ?_,Bx l h.2 (λx hx=>hi x (a7 _ hx))⟩
   rcases(LG l).1 hx with rfl|hx
   ·unfold zb;omega
   ·exact h.1 x hx
  ·rename_i hle
   rw[eK,eK]
   refine⟨λx hx=> ?_,h.1,h.2⟩
   rcases aZ.1 hx with rfl|hx
   ·unfold zb;omega
   ·have:=h.1 x hx;unfold zb at*;omega
theorem oT(l:List Int): ∀n,(fH l n).Pairwise (zb l)
 |0=>List.Pairwise.nil
 |n+1=>by unfold fH;exact Bx l (oT l n) (λx hx=>((tJ l).1 hx).2)
theorem Zc(l:List Int): ∀(o:List Int) (i:Int) (p:Nat),p≤o.length→(∀j,j<p→Bv l i≤Bv l (o.getD j 0))→(p<o.length→Bv l (o.getD p 0)<Bv l i)→ins l o i=o.take p++i::o.drop p
 |[],i,p,hp,_,_=>by simp at hp;subst hp;rfl
 |k::t,i,0,hp,_,h=>by
  unfold ins;rw[aj (by have:=h (by simp);simp at this;omega)];rfl
 |k::t,i,p+1,hp,h0,h=>by
  unfold ins
  have h1:Bv l i≤Bv l k:=h0 0 ω
  rw[ah h1,Zc l t i p (by simpa using hp) (λj hj=>by have:=h0 (j+1) ω;simpa using this) (λD2=>by have:=h (by simpa using D2);simpa using this)]
  rfl
theorem Ul(l:List Int)(f:Int→Int): ∀(o:List Int) (i:Int),((ins l o i).map f).sum=(o.map f).sum+f i
 |[],i=>by simp[ins]
 |k::t,i=>by
  unfold ins;split
  ·rw[bR,cB,Ul l f t i,bR,cB];omega
  ·simp only[bR,cB];omega
theorem DI(l r:List Int): ∀n,n≤r.length→((fH l n).map (Bv r)).sum=(r.take n).sum
 |0,_=>rfl
 |n+1,h=>by
  unfold fH;rw[Ul,DI l r n ω,lP r ω]
  unfold Bv;rw[aG]
theorem Sr(l r:List Int)(h:l.length=r.length):((kB l).map (Bv r)).sum=r.sum:=by
 unfold kB;rw[DI l r _ ω,jK ω]
theorem GQ{o:List Int}{j:Nat}(h:j<o.length):o.getD j 0∈o:=by
 rw[aU,bg h];exact dx h
theorem Ss{l:List Int}{n j:Nat}(h:j<n):0≤(fH l n).getD j 0∧(fH l n).getD j 0<n:=by
 exact(tJ l).1 (GQ (by rw[tI];exact h))
theorem JQ(N:Nat)(K:List Int→List Int→Int→Option (List Int)){l:List Int}(hl:l.length≤100000)(i:Nat)(hi:i<l.length): ∀(m n p:Nat),i-p≤m→m<n→p≤i→(∀j,j<p→Bv l i≤Bv l ((fH l i).getD j 0))→
  fD.l6 N K n l (fH l i) (i:Int) (p:Int)=K l (fH l (i+1)) ((i+1:Nat):Int)
 |m,0,p,_,hn,_,_=>ω
 |m,n+1,p,hm,hn,hp,h=>by
  have hlen:=tI l i
  have fin: ∀h2:(p<i→Bv l ((fH l i).getD p 0)<Bv l i),fD.j8 N K l (fH l i) (i:Int) (p:Int)=K l (fH l (i+1)) ((i+1:Nat):Int):=λh2=>by
   have e:=Zc l (fH l i) i p ω h (λh3=>h2 ω)
   unfold fD.j8 fD.YG
   dsimp only
   rw[dD ω ω ω ω,ak,aG,aG,dq,c0]
   rw[bP (by rw[cc];omega),ak,bP (by rw[cc];simp only[aK];omega),ak,dD ω ω ω ω,ak,bP (by simp only[aM,cc,dC,aK];omega),ak,aw ω ω,jf,bH,Fi,←e]
   rfl
  unfold fD.l6 fD.tX
  by_cases hpi:p<i
  ·have hr:=Ss (l:=l) (n:=i) (j:=p) hpi
   rw[aQ ω,ak,aS ω ω,ak,aG,aG,aS ω ω,ak,aS ω ω,ak]
   by_cases h3:l.getD i 0≤l.getD ((fH l i).getD p 0).toNat 0
   ·rw[dY h3,ak,aw ω ω]
    refine JQ N K hl i hi (m-1) n (p+1) ω ω ω (λj hj=> ?_)
    by_cases hjp:j=p
    ·rw[hjp];unfold Bv;rw[aG];exact h3
    ·exact h j ω
   ·rw[dL ω,av]
    exact fin (λ_=>by unfold Bv;rw[aG];omega)
  ·rw[aP ω,av]
   exact fin (λh=>absurd h hpi)
theorem GR(N:Nat){l:List Int}(hl:l.length≤100000)(hN:l.length<N): ∀(m n i:Nat),l.length-i≤m→m<n→i≤l.length→
  fD.l3 N n l (fH l i) (i:Int)=some (kB l)
 |m,0,i,_,hn,_=>ω
 |m,n+1,i,hm,hn,hi=>by
  unfold fD.l3 fD.ob
  by_cases h:i<l.length
  ·have:=JQ N (fD.l3 N n) hl i h i N 0 ω ω ω (λj hj=>ω)
   rw[aQ ω,ak]
   refine Eq.trans this ?_
   exact GR N hl hN (m-1) n (i+1) ω ω ω
  ·rw[aP ω,av,show i=l.length by omega];rfl
theorem Wc(N:Nat){l:List Int}(hl:l.length≤100000)(hN:l.length<N):fD N l=some (kB l):=by
 unfold fD fD.b
 exact GR N hl hN l.length N 0 ω ω ω
end VM
end
section
namespace VM
open Go VM.F
def JR(l:List Int):Prop:= ∀x∈l,-9223372036854775808≤x∧x<9223372036854775808
def Pos(l:List Int):Prop:= ∀x∈l,0≤x
def may(w:List Int):Bool:=decide (w.length≤64)&&w.all (λx=>decide (0≤x))
theorem pj{w:List Int}:may w=true↔w.length≤64∧Pos w:=by
 unfold may Pos;rw[bB,fb,nn]
 simp only[fb]
theorem GU(N:Nat){l:List Int}(hl:l.length≤1000000): ∀(m n i:Nat),l.length-i≤m→m<n→i≤l.length→ ∃r,qu.l4 N n l (i:Int)=some r∧(r=true↔ ∃x∈l.drop i,x<0)
 |m,0,i,_,hn,_=>ω
 |m,n+1,i,hm,hn,hi=>by
  unfold qu.l4 qu.eN
  by_cases h:i<l.length
  ·have hd:l.drop i=l.getD i 0::l.drop (i+1):=by
    rw[qI h,aU,bg h];rfl
   rw[aQ ω,ak,aS ω ω,ak,aG,hd]
   by_cases hx:l.getD i 0<0
   ·rw[aQ hx,ak]
    exact⟨_,rfl,λ_=>⟨_,bh ..,hx⟩,λ_=>rfl⟩
   ·rw[aP ω,av,aw ω ω]
    obtain⟨r,e,h1⟩:=GU N hl (m-1) n (i+1) ω ω ω
    refine⟨r,e,h1.trans ⟨λ⟨x,TQ,hx2⟩=>⟨x,a7 _ TQ,hx2⟩,λ⟨x,TQ,hx2⟩=> ?_⟩⟩
    rcases aZ.1 TQ with rfl|TQ
    ·exact absurd hx2 hx
    ·exact⟨x,TQ,hx2⟩
  ·rw[aP ω,av,wV ω]
   exact⟨_,rfl,(λh=>nomatch h),λ⟨x,hx,_⟩=>nomatch hx⟩
theorem GV(N:Nat){w:List Int}(hN:100≤N)(t:Int):qu N t w=some (decide (t<0)|| !may w):=by
 unfold qu qu.b
 by_cases ht:t<0
 ·rw[aQ ht,ak,a8 ht];rfl
 rw[aP ω,av,bC ht,uB]
 by_cases h:w.length≤64
 ·rw[aP ω,av]
  obtain⟨r,e,hr⟩:=GU N (l:=w) ω w.length N 0 ω ω ω
  rw[c0]at hr
  rw[show((0:Nat):Int)=0 from rfl]at e
  rw[e]
  congr 1
  rw[ns,hr,rD,w1,Ne,pj]
  constructor
  ·rintro⟨x,hx,X4⟩ h;have:=h.2 x hx;omega
  ·intro h1
   by_cases h2: ∃x∈w,x<0
   ·exact h2
   ·exact absurd ⟨h,λx hx=>by
     by_cases X4:x<0
     ·exact absurd ⟨x,hx,X4⟩ h2
     ·omega⟩ h1
 ·rw[aQ ω,ak]
  have:may w=false:=by
   rw[w1];intro hm;exact h (pj.1 hm).1
  rw[this];rfl
def bump(q:List Int):List Int→List Int
 |[]=>q
 |k::t=>bump (q.set k.toNat (q.getD k.toNat 0+1)) t
def sZ(t S:Int)(w:List Int):List Int:=w.map λx=>t*x/S
def lA(t S:Int)(w:List Int):List Int:=w.map λx=>t*x%S
def bW(t:Int)(w:List Int):List Int:=
 bump (sZ t w.sum w) ((kB (lA t w.sum w)).take (t-(sZ t w.sum w).sum).toNat)
def sx(t:Int)(w:List Int):List Int×Int:=
 if t<0∨may w=false then([],1)else if 9223372036854775808≤w.sum then([],2)
 else if w.sum=0 then(if t=0 then(List.replicate w.length 0,0)else([],1))else(bW t w,0)
theorem OT: ∀(ks q:List Int),(bump q ks).length=q.length
 |[],q=>rfl
 |k::t,q=>by unfold bump;rw[OT t];simp
theorem LH: ∀(q:List Int) (k:Nat) (x:Int),k<q.length→(q.set k x).sum=q.sum-q.getD k 0+x
 |[],k,x,h=>absurd h (by simp)
 |a::q,0,x,h=>by simp;omega
 |a::q,k+1,x,h=>by
  have:=LH q k x (by simpa using h)
  simp[this];omega
theorem jS: ∀{q:List Int},Pos q→0≤q.sum
 |[],_=>by simp
 |a::q,h=>by
  have:=jS (q:=q) (λx hx=>h x (a7 _ hx))
  have:=h a (bh ..)
  rw[cB];omega
theorem zH: ∀{q:List Int},Pos q→ ∀i,q.getD i 0≤q.sum
 |[],_,i=>by simp
 |a::q,h,0=>by
  have:=jS (q:=q) (λx hx=>h x (a7 _ hx))
  rw[cB];simp;omega
 |a::q,h,i+1=>by
  have:=zH (q:=q) (λx hx=>h x (a7 _ hx)) i
  have:=h a (bh ..)
  rw[cB];simp;simp at*;omega
theorem g7{q:List Int}(h:Pos q)(i:Nat):0≤q.getD i 0:=by
 by_cases hi:i<q.length
 ·exact h _ (GQ hi)
 ·rw[vJ q ω];omega
theorem acV{q:List Int}(h:Pos q){x:Int}(hx:0≤x)(k:Nat):Pos (q.set k x):=λy hy=>by
 rcases uu hy with hy|rfl
 ·exact h y hy
 ·exact hx
theorem OU{q:List Int}(h:Pos q)(n:Nat):Pos (q.take n):=λx hx=>h x (lZ hx)
theorem OV: ∀(ks q:List Int),(∀k∈ks,0≤k∧k<q.length)→(bump q ks).sum=q.sum+ks.length
 |[],q,_=>by simp[bump]
 |k::t,q,h=>by
  have hk:=h k (bh ..)
  unfold bump
  rw[OV t _ (λx hx=>by rw[bM];exact h x (a7 _ hx)),LH q _ _ ω,aR];omega
theorem xQ(t S:Int)(w:List Int):(sZ t S w).length=w.length:=by unfold sZ;rw[cI]
theorem pR(t S:Int)(w:List Int):(lA t S w).length=w.length:=by unfold lA;rw[cI]
theorem Um{t S:Int}{w:List Int}(i:Nat):(sZ t S w).getD i 0=t*w.getD i 0/S:=by
 unfold sZ
 by_cases h:i<w.length
 ·rw[aU,nj,bg h,aU,bg h];rfl
 ·rw[vJ _ (by rw[cI];omega),vJ w ω];simp
theorem Un{t S:Int}{w:List Int}(i:Nat):(lA t S w).getD i 0=t*w.getD i 0%S:=by
 unfold lA
 by_cases h:i<w.length
 ·rw[aU,nj,bg h,aU,bg h];rfl
 ·rw[vJ _ (by rw[cI];omega),vJ w ω];simp
theorem GW{t S:Int}{w:List Int}(ht:0≤t)(hS:0≤S)(hw:Pos w):Pos (sZ t S w):=λx hx=>by
 obtain⟨y,hy,rfl⟩:=cL.1 hx
 exact kL (ka ht (hw y hy)) hS
theorem OW{t S:Int}{w:List Int}(hS:0<S):Pos (lA t S w):=λx hx=>by
 obtain⟨y,hy,rfl⟩:=cL.1 hx
 exact rE _ ω
theorem LJ(t S:Int): ∀w:List Int,S*(sZ t S w).sum+(lA t S w).sum=t*w.sum
 |[]=>by simp[sZ,lA]
 |x::w=>by
  have h:=LJ t S w
  have e:=rA (t*x) S
  unfold sZ lA at*
  simp only[bR,cB,lH]
  omega
theorem Zd{t S:Int}{w:List Int}(ht:0≤t)(hS:0<S)(h:w.sum≤S):(sZ t S w).sum≤t:=by
 have e:=LJ t S w
 have h1:=jS (OW (t:=t) (w:=w) hS)
 have h2:=kG h ht
 have h3:S*(sZ t S w).sum≤S*t:=by rw[eL S t];omega
 exact MY h3 hS
theorem DJ{w:List Int}(h:Pos w)(i:Nat):(w.take i).sum≤w.sum:=by
 have e:w.take i++w.drop i=w:=gb i w
 have h1:(w.take i).sum+(w.drop i).sum=w.sum:=by rw[←nh,e]
 have:=jS (q:=w.drop i) (λx hx=>h x (m9 hx))
 omega
theorem JS(t S:Int)(w:List Int)(i:Nat):(sZ t S w).take i=sZ t S (w.take i):=by unfold sZ;rw[List.map_take]
theorem GX(N:Nat){ks:List Int}(hl:ks.length≤1000000)(L:Nat)(hk: ∀k∈ks,0≤k∧k<L): ∀(m n i left:Nat) (q:List Int),ks.length-i≤m→m<n→i≤ks.length→q.length=L→Pos q→left≤9223372036854775807→q.sum+left≤9223372036854775807→
  fK.xL N n q (left:Int) ks (i:Int)=some (bump q ((ks.drop i).take left),0)
 |m,0,i,left,q,_,hn,_,_,_,_,_=>ω
 |m,n+1,i,left,q,hm,hn,hi,hq,hp,hle,hs=>by
  unfold fK.xL fK.wQ
  by_cases h:i<ks.length
  ·have hd:ks.drop i=ks.getD i 0::ks.drop (i+1):=by
    rw[qI h,aU,bg h];rfl
   have F3:=hk _ (GQ h)
   rw[aQ ω,ak]
   match left,hle,hs with
   |0,hle,hs=>rw[aP ω,av,px];rfl
   |left+1,hle,hs=>
    rw[aQ ω,ak,aS ω ω,ak,aG,aS ω ω,ak,ak,hd]
    have h1:=zH hp (ks.getD i 0).toNat
    have h2:=g7 hp (ks.getD i 0).toNat
    rw[aw (x:=q.getD _ 0+1) ω ω,aw (x:=(i:Int)+1) ω ω,aw ω ω,show((left+1:Nat):Int)-1=(left:Int)by omega]
    refine(GX N hl L hk (m-1) n (i+1) left _ ω ω ω (by rw[bM];exact hq) (acV hp ω _) ω ?_).trans rfl
    rw[LH q _ _ ω];omega
  ·rw[aP ω,av,wV ω,List.take_nil];rfl
theorem GY(l:List Int): ∀k∈kB l,0≤k∧k<l.length:=λk hk=>(tJ l).1 hk
theorem take_set(l:List Int){i:Nat}(x:Int)(h:i<l.length):(l.set i x).take (i+1)=l.take i++[x]:=by
 rw[ig (l.set i x) (by rw[bM];exact h),mO l x h,List.take_set_of_le ω]
theorem LK{v:Int}(h0: -9223372036854775808≤v)(h1:v<9223372036854775808):Eh v=(v,true):=by unfold Eh;rw[ah ⟨h0,h1⟩]
end VM
end
section
namespace VM
open Go VM.F
theorem pS{a b:List Int}(hl:a.length=b.length)(h: ∀i,i<a.length→a.getD i 0=b.getD i 0):a=b:=by
 refine List.ext_getElem hl (λi h1 h2=> ?_)
 have:=h i h1
 rwa [aU,bg h1,aU,bg h2]at this
theorem Uo: ∀(ks q:List Int) (i:Nat),ks.Nodup→(∀k∈ks,0≤k∧k<q.length)→(bump q ks).getD i 0=q.getD i 0+(if(i:Int)∈ks then 1 else 0)
 |[],q,i,_,_=>by simp[bump]
 |k::t,q,i,hn,h=>by
  have hk:=h k (bh ..)
  rw[Al]at hn
  unfold bump
  rw[Uo t _ i hn.2 (λx hx=>by rw[bM];exact h x (a7 _ hx))]
  by_cases hik:(i:Int)=k
  ·rw[aj (by rw[hik];exact hn.1),ah (by rw[hik];exact bh ..),←hik,aG,mO q _ ω];omega
  ·rw[getD_set_ne q _ ω]
   by_cases ht:(i:Int)∈t
   ·rw[ah ht,ah (a7 _ ht)]
   ·rw[aj ht,aj (λhc=>by rcases aZ.1 hc with hc|hc;exact hik hc;exact ht hc)]
theorem OX(l:List Int):(kB l).Nodup:=(oT l l.length).imp (λ{a b} h he=>by unfold zb at h;rw[he]at h;omega)
theorem Up(t S:Int)(hS:0<S): ∀u:List Int,(lA t S u).sum≤u.length*S
 |[]=>by simp[lA]
 |x::u=>by
  have ih:=Up t S hS u
  have:=pt (t*x) hS
  unfold lA at*
  rw[bR,cB,aR,FB,js];simp;omega
def mU(t:Int)(w:List Int):Int:=t-(sZ t w.sum w).sum
theorem left_eq(t:Int)(w:List Int):w.sum*mU t w=(lA t w.sum w).sum:=by
 have:=LJ t w.sum w
 unfold mU;rw[Au,eL w.sum t];omega
theorem GZ{t:Int}{w:List Int}(ht:0≤t)(hS:0<w.sum):0≤mU t w:=by
 have:=Zd ht hS (dP _);unfold mU;omega
theorem Uq{t:Int}{w:List Int}(hS:0<w.sum):mU t w≤w.length:=by
 have h1:=left_eq t w
 have h2:=Up t w.sum hS w
 rw[←h1,eL (w.length:Int)]at h2
 exact MY h2 hS
theorem oU(t:Int)(w:List Int):(bW t w).length=w.length:=by unfold bW;rw[OT,xQ]
theorem vZ{t:Int}{w:List Int}(ht:0≤t)(hS:0<w.sum):(bW t w).sum=t:=by
 unfold bW
 have h1:=GZ ht hS
 have h2:=Uq (t:=t) hS
 unfold mU at*
 rw[OV _ _ (λk hk=>by have:=GY _ k (lZ hk);rw[pR]at this;rwa [xQ]),cc,zG,pR]
 omega
theorem zI{f:Int→Int}{c:Int}: ∀{o:List Int},(∀x∈o,f x≤c)→(o.map f).sum≤o.length*c
 |[],_=>by simp
 |x::o,h=>by
  have ih:=zI (f:=f) (c:=c) (o:=o) (λy hy=>h y (a7 _ hy))
  have:=h x (bh ..)
  rw[bR,cB,aR,FB,js];simp;omega
theorem Su{l o:List Int}(h:o.Pairwise (zb l)){m:Nat}{x y:Int}(hx:x∈o.take m)(hy:y∈o.drop m):zb l x y:=by
 rw[←gb m o,wY]at h
 exact h.2.2 x hx y hy
theorem Wd{t:Int}{w:List Int}(ht:0≤t)(hS:0<w.sum){i:Int}(hi:i∈(kB (lA t w.sum w)).take (mU t w).toNat):0<Bv (lA t w.sum w) i:=by
 have NB: ∀k:Int,0≤Bv (lA t w.sum w) k:=λk=>g7 (OW hS) _
 have fj: ∀k:Int,Bv (lA t w.sum w) k≤w.sum-1:=λk=>by
  unfold Bv;rw[Un]
  have:=pt (t*w.getD k.toNat 0) hS;omega
 have h0:=NB i
 rcases Int.lt_or_le 0 (Bv (lA t w.sum w) i)with h|h
 ·exact h
 exfalso
 have IL:=Sr (lA t w.sum w) (lA t w.sum w) rfl
 rw[←left_eq]at IL
 have avX:=gb (mU t w).toNat (kB (lA t w.sum w))
 rw[←avX,dg,nh]at IL
 have hd:(((kB (lA t w.sum w)).drop (mU t w).toNat).map (Bv (lA t w.sum w))).sum≤((kB (lA t w.sum w)).drop (mU t w).toNat).length*0:=zI (λy hy=>by
  have:=Su (oT _ _) hi hy
  unfold zb at this;omega)
 have htk:(((kB (lA t w.sum w)).take (mU t w).toNat).map (Bv (lA t w.sum w))).sum≤((kB (lA t w.sum w)).take (mU t w).toNat).length*(w.sum-1):=zI (λy _=>fj y)
 have h1:=GZ ht hS
 have h2:=Uq (t:=t) hS
 rw[cc,zG,pR,iB ω,Au]at htk
 rw[As]at hd
 have h3:(((mU t w).toNat:Nat):Int)=mU t w:=ω
 have h4:0<(mU t w).toNat:=by
  rcases Nat.eq_zero_or_pos (mU t w).toNat with h|h
  ·rw[h,px]at hi;nomatch hi
  ·exact h
 rw[h3,eL (mU t w)]at htk
 omega
def extra(t:Int)(w:List Int)(i:Nat):Int:=if(i:Int)∈(kB (lA t w.sum w)).take (mU t w).toNat then 1 else 0
theorem JT(t:Int)(w:List Int)(i:Nat):(bW t w).getD i 0=t*w.getD i 0/w.sum+extra t w i:=by
 unfold bW
 rw[Uo _ _ i ((OX _).sublist (List.take_sublist ..)) (λk hk=>by have:=GY _ k (lZ hk);rw[pR]at this;rwa [xQ]),Um]
 rfl
theorem JU(t:Int)(w:List Int)(i:Nat):extra t w i=0∨extra t w i=1:=by unfold extra;split<;>omega
theorem We{t:Int}{w:List Int}(ht:0≤t)(hS:0<w.sum){i:Nat}(h:extra t w i=1):0<t*w.getD i 0%w.sum:=by
 unfold extra at h
 by_cases hi:(i:Int)∈(kB (lA t w.sum w)).take (mU t w).toNat
 ·have:=Wd ht hS hi
  unfold Bv at this;rwa [Un,aG]at this
 ·rw[aj hi]at h;omega
theorem wa{t:Int}{w:List Int}(ht:0≤t)(hS:0<w.sum)(hw:Pos w):Pos (bW t w):=λx hx=>by
 obtain⟨i,hi,rfl⟩:=rB.1 hx
 have:=JT t w i
 rw[aU,bg hi]at this
 have h1:=JU t w i
 have h2:0≤t*w.getD i 0/w.sum:=kL (ka ht (g7 hw i)) ω
 simp only[ng]at this
 omega
theorem DK{t:Int}{w:List Int}(ht:0≤t)(hS:0<w.sum){i:Nat}(h:w.getD i 0=0):(bW t w).getD i 0=0:=by
 rw[JT,h]
 rcases JU t w i with h1|h1
 ·rw[h1];simp
 ·have:=We ht hS h1
  rw[h]at this;simp at this
end VM
end
section
namespace VM
open Go VM.F
theorem DL(N:Nat)(hN:5000000≤N){t:Int}{w:List Int}(ht:0≤t)(wO:t<9223372036854775808)(hw:w.length≤64)(hp:Pos w)(hS:0<w.sum)(hS1:w.sum<9223372036854775808):
  ∀(m n i:Nat) (q r:List Int),w.length-i≤m→m<n→i≤w.length→q.length=w.length→r.length=w.length→q.take i=sZ t w.sum (w.take i)→r.take i=lA t w.sum (w.take i)→
  fK.JV N n t w (di w.sum) q r (t-(sZ t w.sum (w.take i)).sum) (i:Int)=some (bW t w,0)
 |m,0,i,q,r,_,hn,_,_,_,_,_=>ω
 |m,n+1,i,q,r,hm,hn,hi,hq,hr,eq,er=>by
  unfold fK.JV fK.G0
  by_cases h:i<w.length
  ·have hwi:=g7 hp i
   have avY:=zH hp i
   have hb:=mul_lt ht hwi (show t≤9223372036854775807 by omega) (show w.getD i 0≤9223372036854775807 by omega)
   have hqi:t*w.getD i 0/w.sum≤t:=Int.ediv_le_of_le_mul hS (kG avY ht)
   have aDt:0≤t*w.getD i 0/w.sum:=kL hb.1 ω
   have hri:=pt (t*w.getD i 0) hS
   have aDu:=rE (t*w.getD i 0) (show w.sum≠0 by omega)
   have hs0:=Zd ht hS (DJ hp i)
   have Tv:=jS (GW ht (by omega:0≤w.sum) (OU hp i))
   have ft:Fit t 2:=Fit.i64 ω ω
   have fw:Fit (w.getD i 0) 2:=Fit.i64 ω ω
   have fS:Fit w.sum 2:=Fit.i64 ω ω
   rw[aQ ω,ak,da N ω ω wO,ar,aS ω ω,ak,aG,da N ω ω ω,ar,
    uX N ω (ft.mono ω) (fw.mono ω),ar,TY N ω hS ((ft.mul fw).mono ω) (fS.mono ω),ar]
   dsimp only
   rw[tY,ar,LK ω ω,tY,LK ω ω]
   dsimp only
   rw[ar,aS ω ω,ak,aS ω ω,ak,bM,aS ω ω,ak,mO q _ ω,aw (x:=(i:Int)+1) ω ω,aw ω ω]
   have Ei:=DL N hN ht wO hw hp hS hS1 (m-1) n (i+1) (q.set i (t*w.getD i 0/w.sum)) (r.set i (t*w.getD i 0%w.sum)) ω ω ω (by rw[bM];exact hq) (by rw[bM];exact hr)
    (by rw[take_set q _ ω,eq,ig w h];unfold sZ;simp)
    (by rw[take_set r _ ω,er,ig w h];unfold lA;simp)
   rw[←JS,lP _ (by rw[xQ];exact h),Um,JS]at Ei
   rw[Int.sub_sub]
   exact Ei
  ·have nD:i=w.length:=ω
   subst nD
   rw[jK ω,jK ω]at eq er
   subst eq er
   rw[jK ω]
   have Tv:=jS (GW ht (by omega:0≤w.sum) hp)
   have h1:=GZ ht hS
   unfold mU at h1
   rw[aP ω,av,Wc N (by rw[pR];omega) (by rw[pR];omega),ar]
   have hlen:=zG (lA t w.sum w)
   rw[pR]at hlen
   have xj:=GX N (ks:=kB (lA t w.sum w)) ω w.length (λk hk=>by have:=GY _ k hk;rwa [pR]at this) 1000 N 0 (t-(sZ t w.sum w).sum).toNat (sZ t w.sum w) ω ω ω (xQ ..) (GW ht ω hp) ω ω
   rw[c0,mc h1]at xj
   exact xj
theorem Cx(N:Nat)(hN:5000000≤N){t:Int}{w:List Int}(wO:t<9223372036854775808)(hw:JR w)(hl:w.length≤1000000):fK N t w=some (sx t w):=by
 unfold fK fK.b sx
 rw[GV N ω,ar]
 by_cases h1:t<0
 ·rw[a8 h1,Bool.true_or,ak,ah (.inl h1)]
 rw[bC h1,uB]
 cases h2:may w
 ·rw[cX,ak,ah (.inr rfl)]
 rw[bp,av,aj (by simp[h1]),zx N ω hw hl,ar,mj,ar]
 obtain⟨G1,hp⟩:=pj.1 h2
 have hS0:=jS hp
 have hj: ∀h: ¬9223372036854775808≤w.sum,fK.j6 N t w (di w.sum)=if w.sum=0 then some (List.replicate w.length 0,0)else some (bW t w,0):=λh=>by
  unfold fK.j6 fK.Oe
  rw[tY,ar,LK ω ω,bp,av,cD ω ω ω,ak,ak,mj,ar,aG]
  by_cases h4:w.sum=0
  ·rw[ah h4,h4,show p5 0=0 from rfl,dF rfl,ak]
  ·rw[aj h4,dG (by unfold p5;repeat' split<;>omega),av]
   have:=DL N hN ω wO G1 hp ω ω w.length N 0 (List.replicate w.length 0) (List.replicate w.length 0) ω ω ω (cQ ..) (cQ ..) rfl rfl
   rw[px]at this
   simp only[sZ,gQ,iF,FF]at this
   exact this
 by_cases h3:9223372036854775808≤w.sum
 ·rw[ah h3,dG (by unfold p5;repeat' split<;>omega),av]
  unfold fK.j6 fK.Oe
  rw[tY,ar];unfold Eh;rw[aj ω];rfl
 rw[aj h3,hj h3]
 by_cases h4:w.sum=0
 ·rw[ah h4,ah h4,h4,show p5 0=0 from rfl,dF rfl,ak]
  by_cases h5:t=0
  ·rw[ah h5,dF h5,bp,av]
  ·rw[aj h5,dG h5,cX,ak]
 ·rw[aj h4,aj h4,dG (by unfold p5;repeat' split<;>omega),av]
def JW(t n:Int):List Int×Int:=if t<0∨n<1∨64<n then([],1)else sx t (List.replicate n.toNat 1)
theorem Ze(n:Nat):JR (List.replicate n 1):=λx hx=>by rw[z6 hx];omega
theorem JX(N:Nat)(hN:5000000≤N){t:Int}{k:Nat}(hk:k≤64)(wO:t<9223372036854775808): ∀(m n i:Nat),k-i≤m→m<n→i≤k→
  sy.l5 N n t (k:Int) (List.replicate i 1++List.replicate (k-i) 0) (i:Int)=some (sx t (List.replicate k 1))
 |m,0,i,_,hn,_=>ω
 |m,n+1,i,hm,hn,hi=>by
  unfold sy.l5 sy.eA
  by_cases h:i<k
  ·rw[aQ ω,ak,aS ω (by simp;omega),ak,aw ω ω]
   refine Eq.trans ?_ (JX N hN hk wO (m-1) n (i+1) ω ω ω)
   congr 1
   rw[aG,Fj _ _ (by simp),cQ,lG,show k-i=(k-(i+1))+1 by omega,Ac,List.set_cons_zero,List.replicate_succ',bH]
   rfl
  ·rw[aP ω,av,show k-i=0 by omega,List.replicate_zero,cH,show i=k by omega,Cx N hN wO (Ze _) (by rw[cQ];omega)]
   rfl
theorem Zf(N:Nat)(hN:5000000≤N){t n:Int}(wO:t<9223372036854775808):sy N t n=some (JW t n):=by
 unfold sy sy.b JW
 by_cases h1:t<0
 ·rw[aQ h1,ak,ah (.inl h1)]
 by_cases h2:n<1
 ·rw[aP ω,av,aQ h2,ak,ah (.inr (.inl h2))]
 by_cases h3:64<n
 ·rw[aP ω,av,aP ω,av,aQ h3,ak,ah (.inr (.inr h3))]
 rw[aP ω,av,aP ω,av,aP ω,av,aj ω,cD ω ω ω,ak]
 have:=JX N hN (t:=t) (k:=n.toNat) ω wO n.toNat N 0 ω ω ω
 rw[List.replicate_zero,cW,Nat.sub_zero,mc ω]at this
 exact this
end VM
end
section
namespace VM
open Go VM.F
def G4(n:Nat)(f:Nat→Int):List Int:=(List.range n).map f
theorem gL(n:Nat)(f:Nat→Int):(G4 n f).length=n:=by unfold G4;rw[cI,wZ]
theorem gF{n:Nat}{f:Nat→Int}{i:Nat}(h:i<n):(G4 n f).getD i 0=f i:=by
 unfold G4
 rw[aU,nj,List.getElem?_range h];rfl
theorem LM(n:Nat)(f:Nat→Int)(i:Nat):(G4 n f).getD i 0=if i<n then f i else 0:=by
 by_cases h:i<n
 ·rw[ah h,gF h]
 ·rw[aj h,vJ _ (by rw[gL];omega)]
theorem acW{n:Nat}{f:Nat→Int}(h: ∀i,i<n→0≤f i):Pos (G4 n f):=λx hx=>by
 obtain⟨i,hi,rfl⟩:=cL.1 hx
 exact h i (rH.1 hi)
theorem tK{l:List Int}(h: ∀i,i<l.length→0≤l.getD i 0):Pos l:=λx hx=>by
 obtain⟨i,hi,rfl⟩:=rB.1 hx
 have:=h i hi
 rwa [aU,bg hi]at this
theorem yx: ∀{a b:List Int},a.length=b.length→(∀i,i<a.length→a.getD i 0≤b.getD i 0)→a.sum≤b.sum
 |[],[],_,_=>dP _
 |[],_::_,h,_=>nomatch h
 |_::_,[],h,_=>nomatch h
 |x::a,y::b,h,h1=>by
  have:=yx (a:=a) (b:=b) (by simpa using h) (λi hi=>by have:=h1 (i+1) (by simpa using hi);simpa using this)
  have h2:x≤y:=by have:=h1 0 (by simp);simpa using this
  rw[cB,cB];omega
theorem G6: ∀{a b c:List Int},a.length=b.length→a.length=c.length→(∀i,i<a.length→a.getD i 0=b.getD i 0+c.getD i 0)→a.sum=b.sum+c.sum
 |[],[],[],_,_,_=>rfl
 |[],_::_,_,h,_,_=>nomatch h
 |[],[],_::_,_,h,_=>nomatch h
 |_::_,[],_,h,_,_=>nomatch h
 |_::_,_::_,[],_,h,_=>nomatch h
 |x::a,y::b,z::c,h,h',h1=>by
  have:=G6 (a:=a) (b:=b) (c:=c) (by simpa using h) (by simpa using h') (λi hi=>by have:=h1 (i+1) (by simpa using hi);simpa using this)
  have h2:x=y+z:=by have:=h1 0 (by simp);simpa using this
  rw[cB,cB,cB];omega
theorem xR: ∀{a:List Int},(∀i,i<a.length→a.getD i 0=0)→a.sum=0
 |[],_=>rfl
 |x::a,h=>by
  have:=xR (a:=a) (λi hi=>by have:=h (i+1) (by simpa using hi);simpa using this)
  have h2:x=0:=by have:=h 0 (by simp);simpa using this
  rw[cB];omega
def cM(w caps out:List Int):List Int:=G4 w.length λi=>if out.getD i 0<caps.getD i 0 then w.getD i 0 else 0
def fB(parts caps out:List Int):List Int:=G4 out.length λi=>min (parts.getD i 0) (caps.getD i 0-out.getD i 0)
def xS(out g:List Int):List Int:=G4 out.length λi=>out.getD i 0+g.getD i 0
def wb(w caps:List Int):Nat→List Int→Int→List Int×Int
 |0,out,left=>(out,left)
 |f+1,out,left=>if left=0∨(cM w caps out).sum=0 then(out,left)else
  wb w caps f (xS out (fB (bW left (cM w caps out)) caps out)) (left-(fB (bW left (cM w caps out)) caps out).sum)
structure Ur(t:Int)(w caps out:List Int)(left:Int):Prop where
 n:w.length≤64
 l1:caps.length=w.length
 l2:out.length=w.length
 pw:Pos w
 sw:w.sum<9223372036854775808
 pc: ∀i,0≤caps.getD i 0∧caps.getD i 0<9223372036854775808
 po: ∀i,0≤out.getD i 0
 le: ∀i,i<w.length→out.getD i 0≤caps.getD i 0
 z: ∀i,w.getD i 0=0→out.getD i 0=0
 l:0≤left
 t1:t<9223372036854775808
 s:out.sum+left=t
theorem iS(w caps out:List Int):(cM w caps out).length=w.length:=gL ..
theorem sA{w caps out:List Int}(h:Pos w):Pos (cM w caps out):=acW (λi _=>by split;exact g7 h i;omega)
theorem OY{w caps out:List Int}(h:Pos w):(cM w caps out).sum≤w.sum:=yx (iS ..) (λi hi=>by
 rw[iS]at hi
 unfold cM;rw[gF hi];split
 ·omega
 ·exact g7 h i)
theorem Zg{t left:Int}{w caps out:List Int}(c:Ur t w caps out left):JR (cM w caps out):=λx hx=>by
 have h1:=sA (caps:=caps) (out:=out) c.pw
 have h2:=OY (caps:=caps) (out:=out) c.pw
 have h3:=h1 x hx
 obtain⟨i,hi,rfl⟩:=rB.1 hx
 have h4:=zH h1 i
 rw[aU,bg hi]at h4
 simp only[ng]at h4
 have:=c.sw
 omega
theorem OZ{t left:Int}{w caps out:List Int}(c:Ur t w caps out left):left≤t:=by
 have:=jS (q:=out) (tK (λi _=>c.po i));have:=c.s;omega
theorem pk{t left:Int}{w caps out:List Int}(c:Ur t w caps out left)(hS:0<(cM w caps out).sum)(i:Nat):
  0≤(fB (bW left (cM w caps out)) caps out).getD i 0∧(fB (bW left (cM w caps out)) caps out).getD i 0≤(bW left (cM w caps out)).getD i 0∧(i<w.length→out.getD i 0+(fB (bW left (cM w caps out)) caps out).getD i 0≤caps.getD i 0):=by
 have h0:=g7 (wa c.l hS (sA c.pw)) i
 unfold fB
 rw[LM]
 have:=c.l2
 by_cases h:i<out.length
 ·rw[ah h]
  have:=c.le i ω
  omega
 ·rw[aj h];exact⟨ω,h0,λh=>ω⟩
theorem xT(parts caps out:List Int):(fB parts caps out).length=out.length:=gL ..
theorem G7{t left:Int}{w caps out:List Int}(c:Ur t w caps out left)(hS:0<(cM w caps out).sum):0≤(fB (bW left (cM w caps out)) caps out).sum∧(fB (bW left (cM w caps out)) caps out).sum≤left:=by
 constructor
 ·exact jS (tK (λi _=>(pk c hS i).1))
 ·have:=yx (a:=fB (bW left (cM w caps out)) caps out) (b:=bW left (cM w caps out)) (by rw[xT,oU,iS,c.l2]) (λi _=>(pk c hS i).2.1)
  rwa [vZ c.l hS]at this
theorem O0{t left:Int}{w caps out:List Int}(c:Ur t w caps out left)(hS:0<(cM w caps out).sum):Ur t w caps (xS out (fB (bW left (cM w caps out)) caps out)) (left-(fB (bW left (cM w caps out)) caps out).sum):=by
 have qa: ∀i,(xS out (fB (bW left (cM w caps out)) caps out)).getD i 0=if i<out.length then out.getD i 0+(fB (bW left (cM w caps out)) caps out).getD i 0 else 0:=λi=>by unfold xS;rw[LM]
 have gs:=G7 c hS
 refine⟨c.n,c.l1,?_,c.pw,c.sw,c.pc,λi=> ?_,λi hi=> ?_,λi hi=> ?_,ω,c.t1,?_⟩
 ·unfold xS;rw[gL,c.l2]
 ·rw[qa];have:=(pk c hS i).1;have:=c.po i;split<;>omega
 ·rw[qa,ah (by rw[c.l2];exact hi)];exact(pk c hS i).2.2 hi
 ·rw[qa]
  split
  ·have h1:(cM w caps out).getD i 0=0:=by unfold cM;rw[LM,hi];split<;>(try split)<;>rfl
   have h2:=DK c.l hS h1
   have h3:=pk c hS i
   rw[c.z i hi];omega
  ·rfl
 ·have:=G6 (a:=xS out (fB (bW left (cM w caps out)) caps out)) (b:=out) (c:=fB (bW left (cM w caps out)) caps out) (by unfold xS;rw[gL]) (by unfold xS;rw[gL,xT]) (λi hi=>by
   unfold xS at hi;rw[gL]at hi;rw[qa,ah hi])
  have:=c.s
  omega
def opens(w caps out:List Int):Nat:=(List.range w.length).countP λi=>decide (0<w.getD i 0∧out.getD i 0<caps.getD i 0)
theorem JY{p q:Nat→Bool}: ∀{l:List Nat},(∀x∈l,q x=true→p x=true)→(∃x∈l,p x=true∧q x=false)→l.countP q<l.countP p
 |[],_,⟨x,hx,_⟩=>nomatch hx
 |y::l,h,⟨x,hx,h1,h2⟩=>by
  have hle:l.countP q≤l.countP p:=List.countP_mono_left (λz hz=>h z (a7 _ hz))
  rw[List.countP_cons,List.countP_cons]
  rcases aZ.1 hx with rfl|hx
  ·rw[h1,h2];simp;omega
  ·have:=JY (p:=p) (q:=q) (l:=l) (λz hz=>h z (a7 _ hz)) ⟨x,hx,h1,h2⟩
   have h3:=h y (bh ..)
   cases hq:q y<;>cases hp:p y<;>simp<;>try omega
   rw[hq,hp]at h3;simp at h3
theorem JZ{w caps out:List Int}(hw:Pos w)(h:(cM w caps out).sum=0): ∀i,i<w.length→ ¬(0<w.getD i 0∧out.getD i 0<caps.getD i 0):=λi hi ⟨h1,h2⟩=>by
 have:=zH (sA (caps:=caps) (out:=out) hw) i
 unfold cM at this h
 rw[gF hi,ah h2,h]at this
 omega
theorem LN{w caps out:List Int}(hw:Pos w)(h:(cM w caps out).sum≠0): ∃i,i<w.length∧0<w.getD i 0∧out.getD i 0<caps.getD i 0:=by
 by_cases hx: ∃i,i<w.length∧0<w.getD i 0∧out.getD i 0<caps.getD i 0
 ·exact hx
 ·refine absurd (xR (λi hi=> ?_)) h
  rw[iS]at hi
  unfold cM
  rw[gF hi]
  split
  ·rename_i h1
   have:=g7 hw i
   by_cases h2:0<w.getD i 0
   ·exact absurd ⟨i,hi,h2,h1⟩ hx
   ·omega
  ·rfl
theorem Wf{t left:Int}{w caps out:List Int}(c:Ur t w caps out left)(hS:0<(cM w caps out).sum)(hl:left-(fB (bW left (cM w caps out)) caps out).sum≠0):opens w caps (xS out (fB (bW left (cM w caps out)) caps out))<opens w caps out:=by
 have qa: ∀i,i<w.length→(xS out (fB (bW left (cM w caps out)) caps out)).getD i 0=out.getD i 0+(fB (bW left (cM w caps out)) caps out).getD i 0:=λi hi=>by unfold xS;rw[gF (by rw[c.l2];exact hi)]
 refine JY (λi hi h=> ?_) ?_
 ·rw[rH]at hi
  rw[fb,qa i hi]at h
  rw[fb]
  have:=(pk c hS i).1
  omega
 ·by_cases hx: ∃i,i<w.length∧(0<w.getD i 0∧out.getD i 0<caps.getD i 0)∧caps.getD i 0≤out.getD i 0+(fB (bW left (cM w caps out)) caps out).getD i 0
  ·obtain⟨i,h1,h2,h3⟩:=hx
   refine⟨i,rH.2 h1,a8 h2,bC ?_⟩
   rw[qa i h1];omega
  ·exfalso
   have h1:bW left (cM w caps out)=fB (bW left (cM w caps out)) caps out:=by
    refine pS (by rw[xT,oU,iS,c.l2]) (λi hi=> ?_)
    rw[oU,iS]at hi
    have h2:=pk c hS i
    have h3:=g7 (wa c.l hS (sA (caps:=caps) (out:=out) c.pw)) i
    by_cases h4:0<w.getD i 0∧out.getD i 0<caps.getD i 0
    ·have h5: ¬caps.getD i 0≤out.getD i 0+(fB (bW left (cM w caps out)) caps out).getD i 0:=λh=>hx ⟨i,hi,h4,h⟩
     have h6:(fB (bW left (cM w caps out)) caps out).getD i 0=min ((bW left (cM w caps out)).getD i 0) (caps.getD i 0-out.getD i 0):=gF (by rw[c.l2];exact hi)
     omega
    ·have h7:(cM w caps out).getD i 0=0:=by
      unfold cM;rw[gF hi]
      have:=g7 c.pw i
      split<;>omega
     have:=DK c.l hS h7
     omega
   rw[←h1,vZ c.l hS]at hl
   omega
theorem Zh(w caps out:List Int):opens w caps out≤w.length:=by
 unfold opens
 have:=List.countP_le_length (p:=λi=>decide (0<w.getD i 0∧out.getD i 0<caps.getD i 0)) (l:=List.range w.length)
 rwa [wZ]at this
structure Full(t:Int)(w caps out:List Int)(left:Int):Prop where
 c:Ur t w caps out left
 f:left=0∨ ∀i,i<w.length→ ¬(0<w.getD i 0∧out.getD i 0<caps.getD i 0)
theorem O1{t:Int}{w caps:List Int}: ∀(f:Nat) (out:List Int) (left:Int),Ur t w caps out left→(opens w caps out<f∨left=0)→Full t w caps (wb w caps f out left).1 (wb w caps f out left).2
 |0,out,left,c,h=>⟨c,.inl (show left=0 by omega)⟩
 |f+1,out,left,c,h=>by
  unfold wb
  have hS:=jS (sA (caps:=caps) (out:=out) c.pw)
  split
  ·rename_i h1
   exact⟨c,h1.imp id (JZ c.pw)⟩
  ·rename_i h1
   refine O1 f _ _ (O0 c ω) ?_
   by_cases h2:left-(fB (bW left (cM w caps out)) caps out).sum=0
   ·exact .inr h2
   ·have:=Wf c ω h2
    exact .inl ω
def Cy(out g:List Int)(i:Nat):List Int:=G4 out.length λj=>if j<i then out.getD j 0+g.getD j 0 else out.getD j 0
theorem mid_zero(out g:List Int):Cy out g 0=out:=pS (gL ..) (λi hi=>by unfold Cy at*;rw[gL]at hi;rw[gF hi,aj ω])
theorem acX(out g:List Int){n:Nat}(h:out.length≤n):Cy out g n=xS out g:=pS (by unfold Cy xS;rw[gL,gL]) (λi hi=>by unfold Cy xS at*;rw[gL]at hi;rw[gF hi,gF hi,ah ω])
theorem By(out g:List Int)(i:Nat):(Cy out g i).length=out.length:=gL ..
theorem akA{out g:List Int}{i:Nat}(h:i<out.length):(Cy out g i).getD i 0=out.getD i 0:=by unfold Cy;rw[gF h,aj ω]
theorem acY{out g:List Int}{i:Nat}(h:i<out.length):(Cy out g i).set i (out.getD i 0+g.getD i 0)=Cy out g (i+1):=pS (by rw[bM,By,By]) (λj hj=>by
 rw[bM,By]at hj
 by_cases zt:i=j
 ·subst zt
  rw[mO _ _ (by rw[By];exact h)];unfold Cy;rw[gF h,ah ω]
 ·rw[getD_set_ne _ _ zt];unfold Cy;rw[gF hj,gF hj]
  by_cases h1:j<i
  ·rw[ah h1,ah ω]
  ·rw[aj h1,aj ω])
def tL(s:List Int)(i:Nat):List Int:=G4 s.length λj=>if j<i then s.getD j 0 else 0
theorem Wg(s:List Int):tL s 0=List.replicate s.length 0:=pS (by unfold tL;rw[gL,cQ]) (λi hi=>by
 unfold tL at*;rw[gL]at hi;rw[gF hi,aj ω,aU,Fc,ah hi];rfl)
theorem Zi(s:List Int):tL s s.length=s:=pS (gL ..) (λi hi=>by unfold tL at*;rw[gL]at hi;rw[gF hi,ah hi])
theorem pT(s:List Int)(i:Nat):(tL s i).length=s.length:=gL ..
theorem Zj{s:List Int}{i:Nat}(h:i<s.length):(tL s i).set i (s.getD i 0)=tL s (i+1):=pS (by rw[bM,pT,pT]) (λj hj=>by
 rw[bM,pT]at hj
 by_cases zt:i=j
 ·subst zt
  rw[mO _ _ (by rw[pT];exact h)];unfold tL;rw[gF h,ah ω]
 ·rw[getD_set_ne _ _ zt];unfold tL;rw[gF hj,gF hj]
  by_cases h1:j<i
  ·rw[ah h1,ah ω]
  ·rw[aj h1,aj ω])
theorem J0{s:List Int}{i:Nat}(h:s.getD i 0=0):tL s i=tL s (i+1):=pS (by rw[pT,pT]) (λj hj=>by
 rw[pT]at hj
 unfold tL;rw[gF hj,gF hj]
 by_cases h1:j<i
 ·rw[ah h1,ah ω]
 ·rw[aj h1]
  by_cases h2:j=i
  ·subst h2;rw[ah ω,h]
  ·rw[aj ω])
theorem akB(x y:Int):mn x y=min x y:=by rw[Xw];split<;>omega
theorem Wh{t left:Int}{w caps out:List Int}(c:Ur t w caps out left)(hS:0<(cM w caps out).sum)(i:Nat):0≤((fB (bW left (cM w caps out)) caps out).take i).sum∧((fB (bW left (cM w caps out)) caps out).take i).sum≤left:=by
 have h:=tK (l:=fB (bW left (cM w caps out)) caps out) (λi _=>(pk c hS i).1)
 have:=DJ h i
 have:=G7 c hS
 exact⟨jS (OU h i),ω⟩
theorem G8(N:Nat)(K:List Int→List Int→List Int→Int→Int→Option (List Int×Int×Int)){t left:Int}{w caps out:List Int}(c:Ur t w caps out left)(hS:0<(cM w caps out).sum)(rd:Int): ∀(m n i:Nat),w.length-i≤m→m<n→i≤w.length→
  eZ.V1 N K n w caps (Cy out (fB (bW left (cM w caps out)) caps out) i) (left-((fB (bW left (cM w caps out)) caps out).take i).sum) rd (bW left (cM w caps out)) (i:Int)=
  K w caps (xS out (fB (bW left (cM w caps out)) caps out)) (left-(fB (bW left (cM w caps out)) caps out).sum) (W .i64 (rd+1))
 |m,0,i,_,hn,_=>ω
 |m,n+1,i,hm,hn,hi=>by
  have n64:=c.n
  have e1:=c.l1
  have e2:=c.l2
  unfold eZ.V1 eZ.Sg
  by_cases h:i<w.length
  ·have hc:=c.pc i
   have ho:=c.po i
   have hle:=c.le i h
   have hg:=pk c hS i
   have h6:(fB (bW left (cM w caps out)) caps out).getD i 0=min ((bW left (cM w caps out)).getD i 0) (caps.getD i 0-out.getD i 0):=gF (by rw[c.l2];exact h)
   have ht:=Wh c hS i
   have hl:=OZ c
   have wO:=c.t1
   have hgl:(fB (bW left (cM w caps out)) caps out).getD i 0≤left:=by
    have:=zH (tK (l:=fB (bW left (cM w caps out)) caps out) (λi _=>(pk c hS i).1)) i
    have:=G7 c hS
    omega
   dsimp only
   rw[aQ ω,ak,aS ω (by rw[oU,iS];omega),ak,aS ω ω,ak,aS ω (by rw[By];omega),ak,ak,aG,akA ω,aw (x:=caps.getD i 0-out.getD i 0) ω ω,akB,←h6,
    aw (x:=(i:Int)+1) ω ω,aw (x:=out.getD i 0+_) ω ω,aw (x:=left-_-_) ω ω,acY ω]
   have:=G8 N K c hS rd (m-1) n (i+1) ω ω ω
   rw[lP _ (by rw[xT];omega),←Int.sub_sub]at this
   exact this
  ·rw[aP ω,av,acX _ _ ω,jK (by rw[xT];omega)]
def O2(w caps out:List Int)(i:Nat):Prop:= ∃j,j<i∧0<w.getD j 0∧out.getD j 0<caps.getD j 0
theorem wc(N:Nat)(hN:5000000≤N)(K:List Int→List Int→List Int→Int→Int→Option (List Int×Int×Int)){t left:Int}{w caps out:List Int}(c:Ur t w caps out left)(rd:Int): ∀(m n i:Nat) (b:Bool),w.length-i≤m→m<n→i≤w.length→(b=true↔O2 w caps out i)→
  eZ.lx N K n w caps out left rd (tL (cM w caps out) i) b (i:Int)=
  if left=0∨(cM w caps out).sum=0 then some (out,left,0)else K w caps (xS out (fB (bW left (cM w caps out)) caps out)) (left-(fB (bW left (cM w caps out)) caps out).sum) (W .i64 (rd+1))
 |m,0,i,b,_,hn,_,_=>ω
 |m,n+1,i,b,hm,hn,hi,hb=>by
  have n64:=c.n
  have e1:=c.l1
  have e2:=c.l2
  unfold eZ.lx eZ.kt
  by_cases h:i<w.length
  ·have h1:(cM w caps out).getD i 0=if out.getD i 0<caps.getD i 0 then w.getD i 0 else 0:=gF h
   have hw:=g7 c.pw i
   have tt: ¬(0<w.getD i 0∧out.getD i 0<caps.getD i 0)→(b=true↔O2 w caps out (i+1)):=λuN=>hb.trans ⟨λ⟨j,hj,h2⟩=>⟨j,ω,h2⟩,λ⟨j,hj,h2⟩=>⟨j,by
    by_cases zt:j=i
    ·subst zt;exact absurd h2 uN
    ·omega,h2⟩⟩
   rw[aQ ω,ak,aS ω ω,ak,aG]
   by_cases h0:0<w.getD i 0
   ·rw[aQ h0,ak,aS ω ω,ak,aS ω ω,ak]
    by_cases h2:out.getD i 0<caps.getD i 0
    ·rw[ah h2]at h1
     rw[aQ h2,ak,ak,aS ω (by rw[pT,iS];omega),ak,aw ω ω,←h1,Zj (by rw[iS];exact h)]
     exact wc N hN K c rd (m-1) n (i+1) true ω ω ω ⟨λ_=>⟨i,ω,h0,h2⟩,λ_=>rfl⟩
    ·rw[aj h2]at h1
     rw[aP ω,av,aw ω ω,J0 h1]
     exact wc N hN K c rd (m-1) n (i+1) b ω ω ω (tt (λh=>h2 h.2))
   ·have h3:(cM w caps out).getD i 0=0:=by rw[h1];split<;>omega
    rw[aP ω,av,aw ω ω,J0 h3]
    exact wc N hN K c rd (m-1) n (i+1) b ω ω ω (tt (λh=>h0 h.1))
  ·have hl1:=OZ c
   have wO:=c.t1
   have hl0:=c.l
   have nD:i=(cM w caps out).length:=by rw[iS];omega
   have hp:=sA (caps:=caps) (out:=out) c.pw
   have hs:=OY (caps:=caps) (out:=out) c.pw
   have hs0:=jS hp
   have hsw:=c.sw
   have hm:may (cM w caps out)=true:=pj.2 ⟨by rw[iS];omega,hp⟩
   rw[aP ω,av]
   by_cases h4:left=0
   ·rw[dF h4,ak,ah (.inl h4)]
   rw[dG h4,av]
   by_cases h3:(cM w caps out).sum=0
   ·have hbf:b=false:=by
     rw[w1];intro ht
     obtain⟨j,hj,h5⟩:=hb.1 ht
     exact JZ c.pw h3 j ω h5
    rw[ah (.inr h3),hbf];rfl
   ·have hbt:b=true:=hb.2 (by
     obtain⟨j,hj,h5⟩:=LN c.pw h3
     exact⟨j,ω,h5⟩)
    rw[hbt,bp,av,aj ω,nD,Zi,Cx N ω ω (Zg c) (by rw[iS];omega),ar]
    unfold sx
    rw[aj (by rw[hm];simp;omega),aj ω,aj h3]
    have:=G8 N K c ω rd w.length N 0 ω ω ω
    rw[mid_zero,px,iF,FF]at this
    exact this
theorem J1(N:Nat)(hN:5000000≤N){t:Int}{w caps:List Int}: ∀(f n:Nat) (out:List Int) (left:Int),Ur t w caps out left→f≤w.length+1→f<n→
  eZ.l8 N n w caps out left ((w.length+1-f:Nat):Int)=some ((wb w caps f out left).1,(wb w caps f out left).2,0)
 |f,0,out,left,c,_,hn=>ω
 |0,n+1,out,left,c,h,hn=>by
  unfold eZ.l8 eZ.Dy
  rw[dL ω];rfl
 |f+1,n+1,out,left,c,h,hn=>by
  have n64:=c.n
  have hl:=c.l
  unfold eZ.l8 eZ.Dy
  rw[dY ω,ak,cD ω ω ω,ak,aG]
  have:=wc N hN (eZ.l8 N n) c ((w.length+1-(f+1):Nat):Int) w.length N 0 false ω ω ω ⟨(λh=>nomatch h),λ⟨j,hj,_⟩=>ω⟩
  rw[Wg,iS]at this
  refine Eq.trans this ?_
  have hS:=jS (sA (caps:=caps) (out:=out) c.pw)
  unfold wb
  by_cases h1:left=0∨(cM w caps out).sum=0
  ·rw[ah h1,ah h1]
  ·rw[aj h1,aj h1,aw ω ω,show(((w.length+1-(f+1):Nat):Int)+1)=((w.length+1-f:Nat):Int)by omega]
   exact J1 N hN f n _ _ (O0 c ω) ω ω
def tM(t:Int)(w caps:List Int):List Int×Int×Int:=
 if t<0∨may w=false∨caps.length≠w.length∨may caps=false then([],0,1)else if 9223372036854775808≤w.sum then([],0,2)
 else((wb w caps (w.length+1) (List.replicate w.length 0) t).1,(wb w caps (w.length+1) (List.replicate w.length 0) t).2,0)
theorem qT(n i:Nat):(List.replicate n (0:Int)).getD i 0=0:=by
 rw[aU,Fc];split<;>rfl
theorem J2{t:Int}{w caps:List Int}(ht:0≤t)(wO:t<9223372036854775808)(hw:may w=true)(hc:may caps=true)(hl:caps.length=w.length)(hi:JR caps)(hs:w.sum<9223372036854775808):Ur t w caps (List.replicate w.length 0) t:=by
 obtain⟨h1,h2⟩:=pj.1 hw
 obtain⟨h3,h4⟩:=pj.1 hc
 refine⟨h1,hl,cQ ..,h2,hs,λi=>⟨g7 h4 i,(uW hi i).2⟩,λi=>by rw[qT];omega,λi _=>by rw[qT];exact g7 h4 i,λi _=>qT ..,ht,wO,?_⟩
 rw[xR (λi _=>qT ..)];omega
theorem G9(N:Nat)(hN:5000000≤N){t:Int}{w caps:List Int}(wO:t<9223372036854775808)(hw:JR w)(hc:JR caps)(hl:w.length≤1000000):eZ N t w caps=some (tM t w caps):=by
 unfold eZ eZ.b tM
 rw[GV N ω,ar]
 by_cases h1:t<0
 ·rw[a8 h1,Bool.true_or,ak,ah (.inl h1)]
 rw[bC h1,uB]
 cases h2:may w
 ·rw[cX,ak,ah (.inr (.inl rfl))]
 rw[bp,av]
 by_cases h3:caps.length=w.length
 case neg=>rw[dG ω,cX,ak,ah (.inr (.inr (.inl h3)))]
 rw[dF ω,bp,av,GV N ω,ar]
 cases h4:may caps
 ·rw[ah (.inr (.inr (.inr rfl)))];rfl
 have hp:=jS (pj.1 h2).2
 rw[show(decide ((0:Int)<0)|| !true)=false from rfl,av,zx N ω hw hl,ar,tY,ar,aj (by simp;omega)]
 by_cases h5:9223372036854775808≤w.sum
 ·rw[ah h5];unfold Eh;rw[aj ω];rfl
 rw[aj h5,LK ω ω,bp,av,cD ω ω ω,ak,aG]
 have nP:=(pj.1 h2).1
 have:=J1 N hN (w.length+1) N _ _ (J2 ω wO h2 h4 h3 hc ω) ω ω
 rw[lG]at this
 exact this
end VM
end
section
namespace VM
open Go VM.F
theorem rq{a b:Int}: ∀{l:au},ug (l.map keyOf)→gk a b l=cE a b l
 |[],_=>rfl
 |x::t,h=>by
  obtain⟨h1,h2⟩:=eK.1 h
  rw[gZ,im,←rq h2]
  by_cases e1:x.1=a
  ·by_cases e2:x.2.1=b
   ·have hz:cE a b t=0:=ky λy hy e=>by
     have hk:=h1 (keyOf y) (fa hy)
     have he:keyOf y=keyOf x:=gR (e.1.trans e1.symm) (e.2.trans e2.symm)
     rw[he]at hk
     exact ph hk
    rw[ah e1,ah e2,ah ⟨e1,e2⟩,rq h2,hz,iG];rfl
   ·rw[ah e1,aj e2,aj (λh=>e2 h.2),pB]
  ·rw[aj e1,aj (λh=>e1 h.1),pB]
def IQ(x q:Int):Prop:= ¬((x<0)↔(q<0))
instance(x q:Int):Decidable (IQ x q):=by unfold IQ;infer_instance
def fL(a q:Int):au→au
 |[]=>[]
 |x::t=>if ¬dz x.1 0∧dz x.2.1 a∧IQ (dZ x) q then x::fL a q t else fL a q t
theorem sB(a q:Int)(x:cK)(t:au):fL a q (x::t)=if ¬dz x.1 0∧dz x.2.1 a∧IQ (dZ x) q then x::fL a q t else fL a q t:=rfl
def zd(l:au):List Int:=l.map λx=>x.1
def jl(l:au):List Int:=l.map λx=>((dZ x).natAbs:Int)
theorem ve{a q:Int}{x:cK}: ∀{l:au},x∈fL a q l→x∈l∧ ¬dz x.1 0∧dz x.2.1 a
 |[],h=>nomatch h
 |y::t,h=>by
  rw[sB]at h
  by_cases e: ¬dz y.1 0∧dz y.2.1 a∧IQ (dZ y) q
  ·rw[ah e]at h
   rcases aZ.1 h with rfl|h
   ·exact⟨bh ..,e.1,e.2.1⟩
   ·have:=ve h;exact⟨a7 _ this.1,this.2⟩
  ·rw[aj e]at h
   have:=ve h;exact⟨a7 _ this.1,this.2⟩
theorem J3(a q:Int): ∀l:au,(fL a q l).length≤l.length
 |[]=>aH _
 |x::t=>by
  have:=J3 a q t
  rw[sB,aR]
  split
  ·rw[aR];omega
  ·omega
theorem O3{v q s h o:Int}{P Q R:Prop} [Decidable P] [Decidable Q] [Decidable R](hR:R↔ ¬((v<0)↔(q<0)))(hq:0<q)(hh:h-o≤s):
  (if P∧Q then v else 0)+h-((if ¬P∧Q∧R then(v.natAbs:Int)else 0)+o)≤(if Q then v else 0)+s:=by
 by_cases hQ:Q<;>by_cases hP:P<;>by_cases hR':R<;>simp only[hP,hQ,hR',and_self,ec,and_false,false_and,true_and,not_true,not_false_iff,gB,fc]<;>(rw[MT]at hR;first|omega|(have h2:=hR.1 hR';omega)|(have h2: ¬ ¬((v<0)↔(q<0)):=λe=>hR' (hR.2 e);omega))
theorem DM{a q:Int}(hq:0<q): ∀l:au,cE 0 a l-(jl (fL a q l)).sum≤(c8 a l).sum
 |[]=>dP _
 |x::t=>by
  have ih:=DM (a:=a) hq t
  have e1:cE 0 a (x::t)=(if dz x.1 0∧dz x.2.1 a then dZ x else 0)+cE 0 a t:=im 0 a x t
  have e2:(jl (fL a q (x::t))).sum=(if ¬dz x.1 0∧dz x.2.1 a∧IQ (dZ x) q then((dZ x).natAbs:Int)else 0)+(jl (fL a q t)).sum:=by
   rw[sB]
   split
   ·show(((dZ x).natAbs:Int)::jl (fL a q t)).sum=_
    rw[cB]
   ·omega
  have e3:(c8 a (x::t)).sum=(if dz x.2.1 a then dZ x else 0)+(c8 a t).sum:=by
   rw[dp]
   by_cases h:x.2.1=a
   ·rw[ah h,ah (show dz x.2.1 a from h),cB]
   ·rw[aj h,aj (show ¬dz x.2.1 a from h)];omega
  rw[e1,e2,e3]
  exact O3 Iff.rfl hq ih
theorem O4{v q s h o:Int}{P Q R:Prop} [Decidable P] [Decidable Q] [Decidable R](hR:R↔ ¬((v<0)↔(q<0)))(hq:q<0)(hh:s≤h+o):
  (if Q then v else 0)+s≤(if P∧Q then v else 0)+h+((if ¬P∧Q∧R then(v.natAbs:Int)else 0)+o):=by
 by_cases hQ:Q<;>by_cases hP:P<;>by_cases hR':R<;>simp only[hP,hQ,hR',and_self,ec,and_false,false_and,true_and,not_true,not_false_iff,gB,fc]<;>(rw[MT]at hR;first|omega|(have h2:=hR.1 hR';omega)|(have h2: ¬ ¬((v<0)↔(q<0)):=λe=>hR' (hR.2 e);omega))
theorem DN{a q:Int}(hq:q<0): ∀l:au,(c8 a l).sum≤cE 0 a l+(jl (fL a q l)).sum
 |[]=>dP _
 |x::t=>by
  have ih:=DN (a:=a) hq t
  have e1:cE 0 a (x::t)=(if dz x.1 0∧dz x.2.1 a then dZ x else 0)+cE 0 a t:=im 0 a x t
  have e2:(jl (fL a q (x::t))).sum=(if ¬dz x.1 0∧dz x.2.1 a∧IQ (dZ x) q then((dZ x).natAbs:Int)else 0)+(jl (fL a q t)).sum:=by
   rw[sB]
   split
   ·show(((dZ x).natAbs:Int)::jl (fL a q t)).sum=_
    rw[cB]
   ·omega
  have e3:(c8 a (x::t)).sum=(if dz x.2.1 a then dZ x else 0)+(c8 a t).sum:=by
   rw[dp]
   by_cases h:x.2.1=a
   ·rw[ah h,ah (show dz x.2.1 a from h),cB]
   ·rw[aj h,aj (show ¬dz x.2.1 a from h)];omega
  rw[e1,e2,e3]
  exact O4 Iff.rfl hq ih
theorem Sv{a q:Int}{l:au}(hs:ug (l.map keyOf))(hf:(c8 a l).sum=0)(hq:gk 0 a l=q)(h0:q≠0):(q.natAbs:Int)≤(jl (fL a q l)).sum:=by
 rw[rq hs]at hq
 by_cases h:0<q
 ·have:=DM (a:=a) h l
  rw[hf,hq]at this;omega
 ·have:=DN (a:=a) (q:=q) ω l
  rw[hf,hq]at this;omega
theorem Zk{t left:Int}{w out:List Int}(f:Full t w w out left)(h:t≤w.sum):left=0:=by
 have c:=f.c
 rcases f.f with e|e
 ·exact e
 ·have hge:w.sum≤out.sum:=yx (by rw[c.l2]) λi hi=>by
   have h1:=e i hi
   have h2:=g7 c.pw i
   have h3:=c.po i
   by_cases h4:0<w.getD i 0
   ·have: ¬out.getD i 0<w.getD i 0:=λh5=>h1 ⟨h4,h5⟩
    omega
   ·omega
  have:=c.s
  have:=c.l
  omega
def sg(q x:Int):Int:=if q<0 then 0-x else x
def zc(a q:Int):List (Int×Int)→au
 |[]=>[]
 |p::t=>if sg q p.1=0 then zc a q t else(p.2,(a,(sg q p.1,())))::zc a q t
theorem EZ(a q:Int)(p:Int×Int)(t:List (Int×Int)):zc a q (p::t)=if sg q p.1=0 then zc a q t else(p.2,(a,(sg q p.1,())))::zc a q t:=rfl
def jT(l:au)(a q:Int):List Int×Int×Int:=tM (q.natAbs:Int) (jl (fL a q l)) (jl (fL a q l))
def acZ(l:au)(a q:Int):au:=((0:Int),(a,((0-q:Int),())))::zc a q ((jT l a q).1.zip (zd (fL a q l)))
def we(c:ae)(b:an)(a:Int):au×Int:=
 if cY c b then(if a<0 then([],3)else if(c.1.length:Int)≤a then([],3)else if eR b.2.2.2.1 0 a=0 then([],0)else
  if(jT b.2.2.2.1 a (eR b.2.2.2.1 0 a)).2.2=0 then(acZ b.2.2.2.1 a (eR b.2.2.2.1 0 a),0)else([],(jT b.2.2.2.1 a (eR b.2.2.2.1 0 a)).2.2))else([],1)
theorem Ha{t:Int}{w caps:List Int}(wO:t<9223372036854775808)(hc:JR caps)(hx:(tM t w caps).2.2=0):Full t w caps (tM t w caps).1 (tM t w caps).2.1:=by
 unfold tM at*
 by_cases h1:t<0∨may w=false∨caps.length≠w.length∨may caps=false
 ·rw[ah h1]at hx;exact absurd hx δ
 ·rw[aj h1]at hx ⊢
  by_cases h2:9223372036854775808≤w.sum
  ·rw[ah h2]at hx;exact absurd hx δ
  ·rw[aj h2]
   have h3:may w=true:=by cases h:may w<;>simp_all
   have h4:may caps=true:=by cases h:may caps<;>simp_all
   have h5:caps.length=w.length:=MZ λh=>h1 (Or.inr (Or.inr (Or.inl h)))
   exact O1 _ _ _ (J2 ω wO h3 h4 h5 hc ω) (Or.inl (by have:=Zh w caps (List.replicate w.length 0);omega))
theorem Cz{l:au}(h: ∀x∈l,aE (dZ x)∧qE (dZ x))(a q:Int):JR (jl (fL a q l)):=λz hz=>by
 obtain⟨x,hx,rfl⟩:=cL.1 hz
 have:=h x (ve hx).1
 have g: ∀v:Int,aE v∧qE v→ -9223372036854775808≤(v.natAbs:Int)∧(v.natAbs:Int)<9223372036854775808:=λv hv=>by unfold aE qE at hv;omega
 exact g _ this
theorem Zl{out accs:List Int}{i:Nat}(h1:i<out.length)(h2:i<accs.length):(out.zip accs).getD i (0,0)=(out.getD i 0,accs.getD i 0):=by
 rw[aU,bg (by rw[w6];omega),List.getElem_zip,aU,bg h1,aU,bg h2];rfl
end VM
end
section
namespace VM
open Go VM.F
def Zm(c:ae)(p:List Int)(k:Int):au→Int
 |[]=>0
 |x::t=>(if x.1=0∧(c.1.getD x.2.1.toNat aW).1=k then dZ x*p.getD x.2.1.toNat 0 else 0)+Zm c p k t
def O5(c:ae)(p:List Int)(k:Int)(l:au):Nat→Int
 |0=>0
 |n+1=>O5 c p k l n+if(c.1.getD n aW).1=k then cE 0 (n:Int) l*p.getD n 0 else 0
theorem yz(c:ae)(p:List Int)(k:Int)(l:au)(n:Nat):O5 c p k l (n+1)=O5 c p k l n+if(c.1.getD n aW).1=k then cE 0 (n:Int) l*p.getD n 0 else 0:=rfl
theorem O6(c:ae)(p:List Int)(k:Int): ∀n,O5 c p k [] n=0
 |0=>rfl
 |n+1=>by rw[yz,O6,JA,rJ];split<;>rfl
theorem J4(c:ae)(p:List Int)(k:Int)(x:cK)(t:au)(m:Nat)(hm:(x.2.1:Int)=(m:Int)): ∀n,O5 c p k (x::t) n=O5 c p k t n+if x.1=0∧m<n∧(c.1.getD m aW).1=k then dZ x*p.getD m 0 else 0
 |0=>by rw[aj (λh=>ω)];rfl
 |n+1=>by
  rw[yz,yz,J4 c p k x t m hm n,im]
  by_cases hk:(c.1.getD n aW).1=k
  ·rw[ah hk,ah hk,js]
   by_cases hn:m=n
   ·subst hn
    rw[aj (λh=>ω)]
    by_cases h0:x.1=0
    ·rw[ah ⟨h0,hm⟩,ah ⟨h0,ω,hk⟩];omega
    ·rw[aj (λh=>h0 h.1),aj (λh=>h0 h.1),rJ];omega
   ·have e: ¬(x.1=0∧x.2.1=(n:Int)):=λh=>hn (by
     have h2:(n:Int)=(m:Int):=h.2.symm.trans hm
     omega)
    rw[aj e,rJ]
    by_cases h1:x.1=0∧m<n∧(c.1.getD m aW).1=k
    ·rw[ah h1,ah ⟨h1.1,ω,h1.2.2⟩];omega
    ·rw[aj h1,aj (λh=>h1 ⟨h.1,by have:=h.2.1;omega,h.2.2⟩)];omega
  ·rw[aj hk,aj hk]
   by_cases h1:x.1=0∧m<n∧(c.1.getD m aW).1=k
   ·rw[ah h1,ah ⟨h1.1,ω,h1.2.2⟩];omega
   ·rw[aj h1,aj (λh=>h1 ⟨h.1,by
     have h2:=h.2.1
     by_cases e:m=n
     ·subst e;exact absurd h.2.2 hk
     ·omega,h.2.2⟩)]
theorem J5(c:ae)(p:List Int)(k:Int)(n:Nat): ∀{l:au},(∀x∈l,qQ x.2.1 n)→O5 c p k l n=Zm c p k l
 |[],_=>O6 c p k n
 |x::t,h=>by
  have ih:=J5 c p k n (l:=t) (λy hy=>h y (a7 _ hy))
  have hx:=h x (bh ..)
  have g: ∀v:Int,qQ v n→v=((v.toNat:Nat):Int)∧v.toNat<n:=λv h=>by unfold qQ at h;omega
  have gx:=g _ hx
  rw[J4 c p k x t x.2.1.toNat gx.1 n,ih]
  show _=(if x.1=0∧(c.1.getD x.2.1.toNat aW).1=k then dZ x*p.getD x.2.1.toNat 0 else 0)+Zm c p k t
  by_cases h1:x.1=0∧(c.1.getD x.2.1.toNat aW).1=k
  ·rw[ah h1,ah ⟨h1.1,gx.2,h1.2⟩];omega
  ·rw[aj h1,aj (λh=>h1 ⟨h.1,h.2.2⟩)];omega
theorem Hb{c:ae}{b:an}(hk:dt b.2.2.2.1=true)(k:Int): ∀n,DG c b k n=O5 c b.2.2.2.2.1 k b.2.2.2.1 n
 |0=>rfl
 |n+1=>by
  have hs:=(eY hk).1
  have e:eR b.2.2.2.1 0 (n:Int)=cE 0 (n:Int) b.2.2.2.1:=by
   unfold eR;rw[hk]
   exact rq hs
  rw[zF,yz,Hb hk k n]
  unfold OQ
  rw[e]
end VM
end
section
namespace VM
open Go VM.F
def Wi(c:ae)(p:List Int)(k:Int):aD→Int
 |[]=>0
 |y::t=>(if(c.1.getD y.1.toNat aW).1=k then y.2.1*p.getD y.1.toNat 0 else 0)+Wi c p k t
theorem J6(c:ae)(p:List Int)(k:Int)(y:Cm)(t:aD):Wi c p k (y::t)=(if(c.1.getD y.1.toNat aW).1=k then y.2.1*p.getD y.1.toNat 0 else 0)+Wi c p k t:=rfl
theorem J7(c:ae)(p:List Int)(k:Int): ∀l:au,Zm c p k l=Wi c p k (kA 0 l)
 |[]=>rfl
 |x::t=>by
  have ih:=J7 c p k t
  show(if x.1=0∧(c.1.getD x.2.1.toNat aW).1=k then dZ x*p.getD x.2.1.toNat 0 else 0)+Zm c p k t=_
  rw[mT,ih]
  by_cases h:x.1=0
  ·rw[ah h,J6]
   by_cases h2:(c.1.getD x.2.1.toNat aW).1=k
   ·rw[ah ⟨h,h2⟩,ah h2];rfl
   ·rw[aj (λh=>h2 h.2),aj h2]
  ·rw[aj h,aj (λk=>h k.1),pB]
def il(f:Int→Int):eJ:=[bS (f 0),bS (f 1),bS (f 2),bS (f 3)]
theorem J8(f:Int→Int){k:Int}(h:0≤k∧k≤3):(il f).getD k.toNat cv=bS (f k):=by
 have:k=0∨k=1∨k=2∨k=3:=ω
 rcases this with rfl|rfl|rfl|rfl<;>rfl
theorem Sw(f:Int→Int){k:Int}(h:0≤k∧k≤3)(v:Int):(il f).set k.toNat (bS (f k+v))=il (λj=>f j+if k=j then v else 0):=by
 have:k=0∨k=1∨k=2∨k=3:=ω
 unfold il
 rcases this with rfl|rfl|rfl|rfl<;>simp
theorem qU{f g:Int→Int}(h: ∀k,f k=g k):il f=il g:=by rw[funext h]
theorem Wj(N:Nat)(hN:200000≤N)(c:ae){b:an}{t:aD}(hl:t.length≤6)(nP: ∀y∈t,aE y.2.1)(AN: ∀y∈t,qQ y.1 c.1.length)(hp:b.2.2.2.2.1.length=c.1.length)(EK:eV b.2.2.2.2.1=true)(Xq: ∀i,i<c.1.length→0≤(c.1.getD i aW).1∧(c.1.getD i aW).1≤3):
  Bz.l5 N N c b (il λ_=>0) t (t.length:Int) 0=some (il (λk=>Wi c b.2.2.2.2.1 k t),0):=by
 have:=oF t cv (λn i (f:Int→Int)=>Bz.l5 N n c b (il f) t (t.length:Int) i) (λu f=>some (il (λk=>f k+Wi c b.2.2.2.2.1 k u),(0:Int)))
  (λi f=> ∀k,-(9223372036854775808000000000000*(i:Int))≤f k∧f k≤9223372036854775808000000000000*(i:Int))
  (λn i f hi hI hr=> ?_) (λn f hI=> ?_) t.length N 0 (λ_=>0) ω ω ω (λk=>⟨dP _,dP _⟩)
 ·refine this.trans ?_
  rw[c0]
  exact ej (λz=>some (z,(0:Int))) (qU λk=>pB _)
 ·unfold Bz.l5 Bz.eA
  have hm:t.getD i cv∈t:=by
   rw[aU,bg hi];exact dx hi
  have hq:=nP _ hm
  have hpy:=AN _ hm
  rw[aQ ω,ak,aS ω ω,ak,aG,aw (x:=(i:Int)+1) ω ω,af i]
  generalize t.getD i cv=y at*
  have g: ∀v:Int,qQ v c.1.length→aY v c.1.length=true∧aY v b.2.2.2.2.1.length=true∧v.toNat<c.1.length:=λv h=>by unfold qQ at h;exact⟨aS ω ω,aS ω ω,ω⟩
  have gy:=g _ hpy
  have hk:=Xq _ gy.2.2
  have B1:=sr EK (i:=y.1.toNat) ω
  have lj:aY (c.1.getD y.1.toNat aW).1 (il f).length=true:=aS hk.1 (by
   have g: ∀x:Int,x≤3→x<((4:Nat):Int):=λx _=>ω
   exact g _ hk.2)
  have hma:=Uj hq B1
  have av0:=B1
  unfold cC at av0
  have lC:=hq
  unfold aE at lC
  have hf:=hI (c.1.getD y.1.toNat aW).1
  rw[gy.1,ak,lj,ak,gy.2.1,ak,A6 N lC.1 lC.2 ω ω,ar,J8 f hk,LF N (by unfold cf;omega) (by unfold cf;omega) (by unfold cf;omega),ar,ak]
  dsimp only
  rw[Sw f hk,hr _ (λk=>by
   have:=hI k
   split<;>omega)]
  refine ej (λz=>some (z,(0:Int))) (qU λk=> ?_)
  rw[J6]
  omega
 ·unfold Bz.l5 Bz.eA
  rw[aP ω,av]
  refine ej (λz=>some (z,(0:Int))) (qU λk=> ?_)
  show f k=f k+0
  omega
theorem BA{c:ae}{b:an}(h:cY c b=true): ∀x∈b.2.2.2.1,qQ x.2.1 c.1.length:=λx hx=>by
 have hk:=(fG h).2
 have h0:=(eY hk).2 x hx
 unfold cY at h
 simp only[bB]at h
 have h1:=bA h.2.2.2.2.2.2.2.2.1
 obtain⟨i,hi,e⟩:=gd hx
 have h2:=h1 i hi
 unfold jj at h2
 rw[aU,bg hi]at h2
 simp only[ng,e]at h2
 have g: ∀u v:Int,bV u v→oc v c.1.length→qQ v c.1.length:=λu v h1 h2=>by unfold bV at h1;unfold oc at h2;unfold qQ;omega
 exact g _ _ h0.1 h2.2
theorem Lr(N:Nat)(hN:4000000≤N)(c:ae){b:an}(w:iM b):Bz N c b=some (if cY c b then(il (dM c b),0)else([],1)):=by
 unfold Bz Bz.b
 rw[EV N hN w,ar,cond_not]
 by_cases hB:cY c b=false
 ·rw[hB];rfl
 rw[pv]at hB
 rw[hB,ak,ah rfl,cD ω ω ω,ak,aiE N w.s ω,ar]
 obtain⟨AN,EK⟩:=dy hB
 obtain⟨h6,Xq⟩:=pP (g5 hB)
 obtain⟨_,hk⟩:=fG hB
 have ap9:=BA hB
 have e:posOf b.2.2.2.1 0=kA 0 b.2.2.2.1:=by unfold posOf;rw[hk];rfl
 have IK:=Wj N ω c (b:=b) (t:=posOf b.2.2.2.1 0) (Y8 hk w.qs 0).len (ON w.qs 0) (λy hy=>by
  rw[e]at hy
  obtain⟨x,hx,_,rfl⟩:=jk hy
  exact ap9 x hx) AN EK Xq
 have e0:il (λ_=>0)=List.replicate (4:Int).toNat cv:=rfl
 rw[e0]at IK
 refine IK.trans (ej (λz=>some (z,(0:Int))) (qU λk=> ?_))
 unfold dM
 rw[e,←J7,Hb hk,J5 c _ k _ ap9]
end VM
end
section
namespace VM
open Go VM.F
theorem ac0(N:Nat){x:Int}(h:cf x)(hx:x≠ -170141183460469231731687303715884105728):ac1 N (bS x)=some (bS (-x),true):=by
 unfold ac1 Sx bS
 unfold cf at h
 dsimp only
 have hp:0≤x%18446744073709551616∧x%18446744073709551616<18446744073709551616:=ω
 have hh: -9223372036854775808≤x/18446744073709551616∧x/18446744073709551616<9223372036854775808:=ω
 rw[mN,mN,lO N ω ω ω ω ω ω,ar]
 dsimp only
 have hb:(0:Int)≤(if(0:Int)<x%18446744073709551616+0 then 1 else 0)∧(if(0:Int)<x%18446744073709551616+0 then(1:Int)else 0)≤1:=by split<;>omega
 rw[lO N ω ω ω ω hb.1 hb.2,ar]
 dsimp only
 have key: ∀{z:br},z=bS (-x)→((some (z,true):Option (br×Bool)).bind λr1=>some (r1.1,r1.2))=some (bS (-x),true):=λe=>by rw[e];rfl
 have e3:W .i64 ((0%18446744073709551616-x/18446744073709551616%18446744073709551616-(if(0:Int)<x%18446744073709551616+0 then 1 else 0))%18446744073709551616)=(-x)/18446744073709551616:=by
  by_cases h0:x%18446744073709551616=0
  ·rw[aj (show ¬(0:Int)<x%18446744073709551616+0 by omega),fW];split<;>omega
  ·rw[ah (show(0:Int)<x%18446744073709551616+0 by omega),fW];split<;>omega
 have e1:(0-x%18446744073709551616-0)%18446744073709551616=(-x)%18446744073709551616:=ω
 rw[e3,e1]
 simp only[nJ,p7]
 by_cases a:x/18446744073709551616<0
 ·have c: ¬(-x)/18446744073709551616<0:=ω
  rw[bC (show ¬(0:Int)<0 by omega),a8 a,bC c]
  exact key rfl
 ·rw[bC (show ¬(0:Int)<0 by omega),bC a]
  exact key rfl
theorem LO(N:Nat){x:Int}(h:cf x)(hx:x≠ -170141183460469231731687303715884105728):O7 N (bS x)=some (bS (x.natAbs:Int),true):=by
 unfold O7
 have e:(bS x).1=x/18446744073709551616:=rfl
 rw[e]
 by_cases h0:x<0
 ·rw[aQ (show x/18446744073709551616<0 by omega),ak,ac0 N h hx,ar,show(x.natAbs:Int)= -x by omega]
 ·rw[aP (show 0≤x/18446744073709551616 by omega),av,show(x.natAbs:Int)=x by omega]
end VM
end
section
namespace VM
open Go VM.F
theorem Hc{k:Int}: ∀{i:Nat} {l:aO},jR k i l=[]→ ∀x∈l,¬x.1=k
 |i,[],_,x,hx=>nomatch hx
 |i,y::t,h,x,hx=>by
  rw[qS]at h
  by_cases e:y.1=k
  ·rw[ah e]at h;exact absurd h (by simp)
  ·rw[aj e]at h
   rcases aZ.1 hx with rfl|hx
   ·exact e
   ·exact Hc h x hx
theorem tD{k:Int}: ∀{i:Nat} {l:aO},jR k i l≠[]→(i:Int)≤(jR k i l).getD 0 0∧(jR k i l).getD 0 0<((i+l.length:Nat):Int)
 |i,[],h=>absurd rfl h
 |i,y::t,h=>by
  rw[qS]at h ⊢
  by_cases e:y.1=k
  ·rw[ah e,aR]
   show(i:Int)≤(i:Int)∧(i:Int)<_
   omega
  ·rw[aj e]at h ⊢
   have:=tD h
   rw[aR];omega
theorem Gy{c:ae}{b:an}(hp:eo c=true){k:Int}(h:cj c k=[]):dM c b k=0:=by
 unfold cj at h
 rw[hp,ah rfl]at h
 have hn:=Hc h
 have key: ∀n,n≤c.1.length→DG c b k n=0:=by
  intro n
  induction n with
  |zero=>intro _;rfl
  |succ n ih=>
   intro hle
   rw[zF,ih ω,aj (hn _ (by
    rw[aU,bg ω];exact dx _))];rfl
 exact key _ (aH _)
def xJ(c:ae):Int:=c.2.2.2.2.2.2.1
def Xr(v p:Int):Int:=if(v.natAbs:Int)/p≤1000000000 then(v.natAbs:Int)/p else 1000000000
def lS(c:ae)(b:an)(k:Int):Int×Int×Int:=
 ((cj c k).getD 0 0,((if 0<dM c b k then 2 else 1),Xr (dM c b k) (b.2.2.2.2.1.getD ((cj c k).getD 0 0).toNat 0)))
def yP(c:ae)(b:an)(next:Int):Nat→Nat→aO→aO
 |0,_,out=>out
 |m+1,k,out=>if((dM c b (k:Int)).natAbs:Int)≤xJ c then yP c b next m (k+1) out else
  if(lS c b (k:Int)).2.2=0 then yP c b next m (k+1) out else
  yP c b next m (k+1) (out++[(next+(out.length:Int),((lS c b (k:Int)).1,((lS c b (k:Int)).2.1,((lS c b (k:Int)).2.2,()))))])
theorem yq(c:ae)(b:an)(next:Int)(m k:Nat)(out:aO):yP c b next (m+1) k out=if((dM c b (k:Int)).natAbs:Int)≤xJ c then yP c b next m (k+1) out else
 if(lS c b (k:Int)).2.2=0 then yP c b next m (k+1) out else
 yP c b next m (k+1) (out++[(next+(out.length:Int),((lS c b (k:Int)).1,((lS c b (k:Int)).2.1,((lS c b (k:Int)).2.2,()))))]):=rfl
def ss(c:ae)(b:an)(next:Int):aO×Int:=
 if cY c b then(if 1≤next∧next≤1099511627772 then(yP c b next 4 0 [],0)else([],1))else([],1)
theorem T6{c:ae}{b:an}(w:iM b)(hB:cY c b=true){k:Int}(h: ¬((dM c b k).natAbs:Int)≤xJ c)(h0:0≤xJ c):
  cj c k≠[]∧aY ((cj c k).getD 0 0) b.2.2.2.2.1.length=true∧cC (b.2.2.2.2.1.getD ((cj c k).getD 0 0).toNat 0):=by
 have AN:=g5 hB
 obtain⟨hp,EK⟩:=dy hB
 have iI:cj c k≠[]:=λe=>h (by rw[Gy AN e];exact h0)
 have hh:0≤(cj c k).getD 0 0∧(cj c k).getD 0 0<(c.1.length:Int):=by
  unfold cj at iI ⊢
  rw[AN,ah rfl]at iI ⊢
  have:=tD iI
  omega
 exact⟨iI,aS ω ω,sr EK ω⟩
theorem OA{c:ae}{b:an}(w:iM b)(hB:cY c b=true)(k:Int):cf (dM c b k)∧((dM c b k).natAbs:Int)≤60000000000000000000000000000000:=by
 have h6:=(pP (g5 hB)).1
 have:=JN w hB k c.1.length (aH _)
 unfold dM cf
 omega
theorem T4{c:ae}{b:an}(hB:cY c b=true):0≤xJ c:=by
 have h:=g5 hB
 unfold eo at h
 simp only[bB]at h
 have:=bA h.2.2
 exact this.2.2.2.2.2
theorem T8{v p:Int}(hv:(v.natAbs:Int)≤60000000000000000000000000000000)(hp:cC p):0≤(v.natAbs:Int)/p∧cf ((v.natAbs:Int)/p):=by
 unfold cC at hp
 have h1:0≤(v.natAbs:Int)/p:=kL ω ω
 have h2:(v.natAbs:Int)/p≤v.natAbs:=Fw _ ω
 unfold cf;omega
end VM
end
