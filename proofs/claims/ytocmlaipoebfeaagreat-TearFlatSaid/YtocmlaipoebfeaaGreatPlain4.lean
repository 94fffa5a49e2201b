/- A part of the proof of TearFlat of layer 29: what the functions compute, in plain words. -/
import Derived.Test.YtocmlaipoebfeaaGreatPlain3
import Derived.Test.YtocmlaipoebfeaaGreatPlain1
set_option linter.all false
section
namespace VM
open Go VM.F
def FX(l:List Int):Prop:= ∀x∈l,-9223372036854775808≤x∧x<9223372036854775808
def Pos(l:List Int):Prop:= ∀x∈l,0≤x
def may(w:List Int):Bool:=decide (w.length≤64)&&w.all (λx=>decide (0≤x))
theorem gT{w:List Int}:may w=true↔w.length≤64∧Pos w:=by
 unfold may Pos;rw[bP,fp,qO]
 simp only[fp]
theorem FY(N:Nat){l:List Int}(hl:l.length≤1000000): ∀(m n i:Nat),l.length-i≤m→m<n→i≤l.length→ ∃r,ll.l2 N n l () (l.length:Int) (i:Int)=some r∧(0≤r↔ ∃x∈l.drop i,x<0)
 |m,0,i,_,hn,_=>ω
 |m,n+1,i,hm,hn,hi=>by
  unfold ll.l2 ll.gV ahX
  by_cases h:i<l.length
  ·have hd:l.drop i=l.getD i 0::l.drop (i+1):=by
    rw[lX h,aR,bl h];rfl
   rw[aP ω,ak,aQ ω ω,ak,av,aE,hd]
   by_cases hx:l.getD i 0<0
   ·rw[aP hx,ak]
    exact⟨_,rfl,λ_=>⟨_,bp ..,hx⟩,λ_=>ω⟩
   ·rw[aL ω,ar,aw ω ω]
    obtain⟨r,e,h1⟩:=FY N hl (m-1) n (i+1) ω ω ω
    refine⟨r,e,h1.trans ⟨λ⟨x,Iv,TY⟩=>⟨x,a8 _ Iv,TY⟩,λ⟨x,Iv,TY⟩=> ?_⟩⟩
    rcases aX.1 Iv with rfl|Iv
    ·exact absurd TY hx
    ·exact⟨x,Iv,TY⟩
  ·rw[aL ω,ar,qH ω]
   exact⟨_,rfl,λh=>absurd h δ,λ⟨x,hx,_⟩=>nomatch hx⟩
theorem QD(N:Nat){w:List Int}(hN:100≤N):TZ N w=some (may w):=by
 unfold TZ
 by_cases h:w.length≤64
 ·rw[dL ω,ak]
  unfold ahY ll ll.b
  obtain⟨r,e,hr⟩:=FY N (l:=w) ω w.length N 0 ω ω ω
  rw[cM]at hr
  rw[show((0:Nat):Int)=0 from rfl]at e
  rw[e,av,av]
  by_cases h0:0≤r
  ·rw[dL h0]
   obtain⟨x,hx,Lk⟩:=hr.1 h0
   have:may w=false:=by
    rw[qM];intro hm
    have:=(gT.1 hm).2 x hx;omega
   rw[this];rfl
  ·rw[dB ω]
   have:may w=true:=gT.2 ⟨h,λx hx=>by
    by_cases Lk:x<0
    ·exact absurd (hr.2 ⟨x,hx,Lk⟩) h0
    ·omega⟩
   rw[this];rfl
 ·rw[dB ω,ar]
  have:may w=false:=by
   rw[qM];intro hm;exact h (gT.1 hm).1
  rw[this]
theorem FZ(N:Nat){l:List Int}(hl:l.length≤1000000): ∀(m n i:Nat),l.length-i≤m→m<n→i≤l.length→ ∃r,pR.l4 N n l (i:Int)=some r∧(r=true↔ ∃x∈l.drop i,x<0)
 |m,0,i,_,hn,_=>ω
 |m,n+1,i,hm,hn,hi=>by
  unfold pR.l4 pR.dH
  by_cases h:i<l.length
  ·have hd:l.drop i=l.getD i 0::l.drop (i+1):=by
    rw[lX h,aR,bl h];rfl
   rw[aP ω,ak,aQ ω ω,ak,aE,hd]
   by_cases hx:l.getD i 0<0
   ·rw[aP hx,ak]
    exact⟨_,rfl,λ_=>⟨_,bp ..,hx⟩,λ_=>rfl⟩
   ·rw[aL ω,ar,aw ω ω]
    obtain⟨r,e,h1⟩:=FZ N hl (m-1) n (i+1) ω ω ω
    refine⟨r,e,h1.trans ⟨λ⟨x,Iv,TY⟩=>⟨x,a8 _ Iv,TY⟩,λ⟨x,Iv,TY⟩=> ?_⟩⟩
    rcases aX.1 Iv with rfl|Iv
    ·exact absurd TY hx
    ·exact⟨x,Iv,TY⟩
  ·rw[aL ω,ar,qH ω]
   exact⟨_,rfl,(λh=>nomatch h),λ⟨x,hx,_⟩=>nomatch hx⟩
theorem F0(N:Nat){w:List Int}(hN:100≤N)(t:Int):pR N t w=some (decide (t<0)|| !may w):=by
 unfold pR pR.b
 by_cases ht:t<0
 ·rw[aP ht,ak,bs ht];rfl
 rw[aL ω,ar,cg ht,tI]
 by_cases h:w.length≤64
 ·rw[aL ω,ar]
  obtain⟨r,e,hr⟩:=FZ N (l:=w) ω w.length N 0 ω ω ω
  rw[cM]at hr
  rw[show((0:Nat):Int)=0 from rfl]at e
  rw[e]
  congr 1
  rw[o4,hr,qL,qM,Ne,gT]
  constructor
  ·rintro⟨x,hx,Lk⟩ h;have:=h.2 x hx;omega
  ·intro h1
   by_cases h2: ∃x∈w,x<0
   ·exact h2
   ·exact absurd ⟨h,λx hx=>by
     by_cases Lk:x<0
     ·exact absurd ⟨x,hx,Lk⟩ h2
     ·omega⟩ h1
 ·rw[aP ω,ak]
  have:may w=false:=by
   rw[qM];intro hm;exact h (gT.1 hm).1
  rw[this];rfl
def bump(q:List Int):List Int→List Int
 |[]=>q
 |k::t=>bump (q.set k.toNat (q.getD k.toNat 0+1)) t
def lS(t S:Int)(w:List Int):List Int:=w.map λx=>t*x/S
def iB(t S:Int)(w:List Int):List Int:=w.map λx=>t*x%S
def ba(t:Int)(w:List Int):List Int:=
 bump (lS t w.sum w) ((ir (iB t w.sum w)).take (t-(lS t w.sum w).sum).toNat)
def nS(t:Int)(w:List Int):List Int×Int:=
 if t<0∨may w=false then([],1)else if 9223372036854775808≤w.sum then([],2)
 else if w.sum=0 then(if t=0 then(List.replicate w.length 0,0)else([],1))else(ba t w,0)
theorem Nt: ∀(ks q:List Int),(bump q ks).length=q.length
 |[],q=>rfl
 |k::t,q=>by unfold bump;rw[Nt t];simp
theorem Ec: ∀(q:List Int) (k:Nat) (x:Int),k<q.length→(q.set k x).sum=q.sum-q.getD k 0+x
 |[],k,x,h=>absurd h (by simp)
 |a::q,0,x,h=>by simp;omega
 |a::q,k+1,x,h=>by
  have:=Ec q k x (by simpa using h)
  simp[this];omega
theorem fZ: ∀{q:List Int},Pos q→0≤q.sum
 |[],_=>by simp
 |a::q,h=>by
  have:=fZ (q:=q) (λx hx=>h x (a8 _ hx))
  have:=h a (bp ..)
  rw[cH];omega
theorem th: ∀{q:List Int},Pos q→ ∀i,q.getD i 0≤q.sum
 |[],_,i=>by simp
 |a::q,h,0=>by
  have:=fZ (q:=q) (λx hx=>h x (a8 _ hx))
  rw[cH];simp;omega
 |a::q,h,i+1=>by
  have:=th (q:=q) (λx hx=>h x (a8 _ hx)) i
  have:=h a (bp ..)
  rw[cH];simp;simp at*;omega
theorem fE{q:List Int}(h:Pos q)(i:Nat):0≤q.getD i 0:=by
 by_cases hi:i<q.length
 ·exact h _ (AS hi)
 ·rw[u9 q ω];omega
theorem Si{q:List Int}(h:Pos q){x:Int}(hx:0≤x)(k:Nat):Pos (q.set k x):=λy hy=>by
 rcases tA hy with hy|rfl
 ·exact h y hy
 ·exact hx
theorem F1{q:List Int}(h:Pos q)(n:Nat):Pos (q.take n):=λx hx=>h x (jI hx)
theorem Nu: ∀(ks q:List Int),(∀k∈ks,0≤k∧k<q.length)→(bump q ks).sum=q.sum+ks.length
 |[],q,_=>by simp[bump]
 |k::t,q,h=>by
  have hk:=h k (bp ..)
  unfold bump
  rw[Nu t _ (λx hx=>by rw[bB];exact h x (a8 _ hx)),Ec q _ _ ω,aW];omega
theorem rH(t S:Int)(w:List Int):(lS t S w).length=w.length:=by unfold lS;rw[cO]
theorem iS(t S:Int)(w:List Int):(iB t S w).length=w.length:=by unfold iB;rw[cO]
theorem KA{t S:Int}{w:List Int}(i:Nat):(lS t S w).getD i 0=t*w.getD i 0/S:=by
 unfold lS
 by_cases h:i<w.length
 ·rw[aR,nf,bl h,aR,bl h];rfl
 ·rw[u9 _ (by rw[cO];omega),u9 w ω];simp
theorem Sj{t S:Int}{w:List Int}(i:Nat):(iB t S w).getD i 0=t*w.getD i 0%S:=by
 unfold iB
 by_cases h:i<w.length
 ·rw[aR,nf,bl h,aR,bl h];rfl
 ·rw[u9 _ (by rw[cO];omega),u9 w ω];simp
theorem uu{t S:Int}{w:List Int}(ht:0≤t)(hS:0≤S)(hw:Pos w):Pos (lS t S w):=λx hx=>by
 obtain⟨y,hy,rfl⟩:=cD.1 hx
 exact me (o6 ht (hw y hy)) hS
theorem Nv{t S:Int}{w:List Int}(hS:0<S):Pos (iB t S w):=λx hx=>by
 obtain⟨y,hy,rfl⟩:=cD.1 hx
 exact o5 _ ω
theorem Ed(t S:Int): ∀w:List Int,S*(lS t S w).sum+(iB t S w).sum=t*w.sum
 |[]=>by simp[lS,iB]
 |x::w=>by
  have h:=Ed t S w
  have e:=sE (t*x) S
  unfold lS iB at*
  simp only[bR,cH,lI]
  omega
theorem KB{t S:Int}{w:List Int}(ht:0≤t)(hS:0<S)(h:w.sum≤S):(lS t S w).sum≤t:=by
 have e:=Ed t S w
 have h1:=fZ (Nv (t:=t) (w:=w) hS)
 have h2:=p3 h ht
 have h3:S*(lS t S w).sum≤S*t:=by rw[eo S t];omega
 exact Es h3 hS
theorem xc{w:List Int}(h:Pos w)(i:Nat):(w.take i).sum≤w.sum:=by
 have e:w.take i++w.drop i=w:=fW i w
 have h1:(w.take i).sum+(w.drop i).sum=w.sum:=by rw[←nn,e]
 have:=fZ (q:=w.drop i) (λx hx=>h x (m8 hx))
 omega
theorem xL(t S:Int)(w:List Int)(i:Nat):(lS t S w).take i=lS t S (w.take i):=by unfold lS;rw[List.map_take]
theorem IX(N:Nat){ks:List Int}(hl:ks.length≤1000000)(L:Nat)(hk: ∀k∈ks,0≤k∧k<L): ∀(m n i:Nat) (q:List Int),ks.length-i≤m→m<n→i≤ks.length→q.length=L→Pos q→q.sum+(ks.length-i:Nat)≤9223372036854775807→
  gj.y5 N n q ks (ks.length:Int) (i:Int)=some (bump q (ks.drop i),0)
 |m,0,i,q,_,hn,_,_,_,_=>ω
 |m,n+1,i,q,hm,hn,hi,hq,hp,hs=>by
  unfold gj.y5 gj.AT
  by_cases h:i<ks.length
  ·have hd:ks.drop i=ks.getD i 0::ks.drop (i+1):=by
    rw[lX h,aR,bl h];rfl
   have D3:=hk _ (AS h)
   rw[aP ω,ak,aQ ω ω,ak,aE,aQ ω ω,ak,ak,hd]
   have h1:=th hp (ks.getD i 0).toNat
   have h2:=fE hp (ks.getD i 0).toNat
   rw[aw (x:=q.getD _ 0+1) ω ω,aw ω ω]
   refine(IX N hl L hk (m-1) n (i+1) _ ω ω ω (by rw[bB];exact hq) (Si hp ω _) ?_).trans rfl
   rw[Ec q _ _ ω];omega
  ·rw[aL ω,ar,qH ω];rfl
theorem F2(N:Nat){ks:List Int}(hl:ks.length≤1000000)(L:Nat)(hk: ∀k∈ks,0≤k∧k<L): ∀(m n i left:Nat) (q:List Int),ks.length-i≤m→m<n→i≤ks.length→q.length=L→Pos q→left≤9223372036854775807→q.sum+left≤9223372036854775807→
  fN.w4 N n q (left:Int) ks (i:Int)=some (bump q ((ks.drop i).take left),0)
 |m,0,i,left,q,_,hn,_,_,_,_,_=>ω
 |m,n+1,i,left,q,hm,hn,hi,hq,hp,hle,hs=>by
  unfold fN.w4 fN.vV
  by_cases h:i<ks.length
  ·have hd:ks.drop i=ks.getD i 0::ks.drop (i+1):=by
    rw[lX h,aR,bl h];rfl
   have D3:=hk _ (AS h)
   rw[aP ω,ak]
   match left,hle,hs with
   |0,hle,hs=>rw[aL ω,ar,kd];rfl
   |left+1,hle,hs=>
    rw[aP ω,ak,aQ ω ω,ak,aE,aQ ω ω,ak,ak,hd]
    have h1:=th hp (ks.getD i 0).toNat
    have h2:=fE hp (ks.getD i 0).toNat
    rw[aw (x:=q.getD _ 0+1) ω ω,aw (x:=(i:Int)+1) ω ω,aw ω ω,show((left+1:Nat):Int)-1=(left:Int)by omega]
    refine(F2 N hl L hk (m-1) n (i+1) left _ ω ω ω (by rw[bB];exact hq) (Si hp ω _) ω ?_).trans rfl
    rw[Ec q _ _ ω];omega
  ·rw[aL ω,ar,qH ω,List.take_nil];rfl
theorem AU(l:List Int): ∀k∈ir l,0≤k∧k<l.length:=λk hk=>(sT l).1 hk
theorem take_set(l:List Int){i:Nat}(x:Int)(h:i<l.length):(l.set i x).take (i+1)=l.take i++[x]:=by
 rw[gb (l.set i x) (by rw[bB];exact h),ku l x h,List.take_set_of_le ω]
theorem y6{v:Int}(h0: -9223372036854775808≤v)(h1:v<9223372036854775808):Ap v=(v,true):=by unfold Ap;rw[aj ⟨h0,h1⟩]
theorem F3(N:Nat)(hN:1000000≤N){t:Int}{w:List Int}(ht:0≤t)(si:t<9223372036854775808)(hw:w.length≤64)(hp:Pos w)(hS:0<w.sum)(hS1:w.sum<9223372036854775808):
  ∀(m n i:Nat) (q r:List Int),w.length-i≤m→m<n→i≤w.length→q.length=w.length→r.length=w.length→q.take i=lS t w.sum (w.take i)→r.take i=iB t w.sum (w.take i)→
  gj.oF N n t w.sum q r (t-(lS t w.sum (w.take i)).sum) w (w.length:Int) (i:Int)=some (ba t w,0)
 |m,0,i,q,r,_,hn,_,_,_,_,_=>ω
 |m,n+1,i,q,r,hm,hn,hi,hq,hr,eq,er=>by
  unfold gj.oF gj.mX
  by_cases h:i<w.length
  ·have hwi:=fE hp i
   have ahZ:=th hp i
   have hb:=mul_lt ht hwi (show t≤9223372036854775807 by omega) (show w.getD i 0≤9223372036854775807 by omega)
   have hqi:t*w.getD i 0/w.sum≤t:=LN hS (p3 ahZ ht)
   have asO:0≤t*w.getD i 0/w.sum:=me hb.1 ω
   have hs0:=KB ht hS (xc hp i)
   have Py:=fZ (uu ht (by omega:0≤w.sum) (F1 hp i))
   rw[aP ω,ak,aQ ω ω,ak,aE,ZZ N ω ω ω ω,av,
    Z3 N ω ω ω hS hS1,av]
   dsimp only
   rw[Kg N ω ω,av,y6 ω ω]
   dsimp only
   rw[aQ ω ω,ak,aQ ω ω,ak,bB,aQ ω ω,ak,ku q _ ω,aw (x:=(i:Int)+1) ω ω,aw ω ω]
   have yV:=F3 N hN ht si hw hp hS hS1 (m-1) n (i+1) (q.set i (t*w.getD i 0/w.sum)) (r.set i (t*w.getD i 0%w.sum)) ω ω ω (by rw[bB];exact hq) (by rw[bB];exact hr)
    (by rw[take_set q _ ω,eq,gb w h];unfold lS;simp)
    (by rw[take_set r _ ω,er,gb w h];unfold iB;simp)
   rw[←xL,gy _ (by rw[rH];exact h),KA,xL]at yV
   rw[zI]
   exact yV
  ·have lA:i=w.length:=ω
   subst lA
   rw[gl ω,gl ω]at eq er
   subst eq er
   rw[gl ω]
   have hs0:=KB ht hS (fx _)
   have Py:=fZ (uu ht (by omega:0≤w.sum) hp)
   have afX:(t-(lS t w.sum w).sum).toNat≤(ir (iB t w.sum w)).length:=by
    rw[rG,iS]
    have e:=Ed t w.sum w
    have:(iB t w.sum w).sum≤w.length*w.sum:=by
     have: ∀u:List Int,(iB t w.sum u).sum≤u.length*w.sum:=by
      intro u
      induction u with
      |nil=>simp[iB]
      |cons x u ih=>
       have:=oQ (t*x) hS
       unfold iB at*
       rw[bR,cH,aW,zD,iG];simp;omega
     exact this w
    have h4:w.sum*(t-(lS t w.sum w).sum)≤w.sum*w.length:=by
     rw[wu,eo w.sum t,eo w.sum (w.length:Int)];omega
    have:=Es h4 hS
    omega
   rw[aL ω,ar,WZ N (by rw[iS];omega) (by rw[iS];omega),av]
   rw[dq ω ω ω ω,ak]
   dsimp only
   rw[cZ,cM]
   have hlen:=rG (iB t w.sum w)
   rw[iS]at hlen
   have vD:=IX N (ks:=(ir (iB t w.sum w)).take (t-(lS t w.sum w).sum).toNat) (by rw[bO];omega) w.length (λk hk=>by have:=AU _ k (jI hk);rwa [iS]at this) 1000 N 0 (lS t w.sum w) (by rw[bO];omega) ω ω (rH ..) (uu ht ω hp) (by rw[bO];omega)
   rw[cM]at vD
   exact vD
theorem W0(N:Nat)(hN:2000000≤N){t:Int}{w:List Int}(si:t<9223372036854775808)(hw:FX w)(hl:w.length≤1000000):gj N t w=some (nS t w):=by
 unfold gj gj.b nS
 by_cases h1:t<0
 ·rw[aP h1,ak,aj (.inl h1)]
 rw[aL ω,ar,QD N ω,av]
 cases h2:may w
 ·rw[cz,ak,aj (.inr rfl)]
 rw[aY,ar,ah (by simp[h1]),R5 N hw hl ω,av]
 obtain⟨BL,hp⟩:=gT.1 h2
 have hS0:=fZ hp
 by_cases h3:9223372036854775808≤w.sum
 ·rw[aj h3];unfold Ap;rw[ah ω];rfl
 rw[ah h3,y6 ω ω]
 dsimp only
 rw[aY,ar]
 have hm:gI (w.length:Int) (w.length:Int)=true:=cj ω ω ω
 have hz: ∀i:Nat,(List.replicate w.length (0:Int)).take i=(List.replicate w.length (0:Int)).take i:=λ_=>rfl
 by_cases h4:w.sum=0
 ·rw[aj h4,dt h4,ak]
  by_cases h5:t=0
  ·rw[aj h5,aL ω,ar]
   unfold gj.j8 gj.PI
   rw[hm,ak,ak,dt h5,ak,aE]
  ·rw[ah h5,aP ω,ak]
 ·rw[ah h4,du h4,ar]
  unfold gj.j8 gj.PI
  rw[hm,ak,ak]
  rw[aE]
  by_cases h5:t=0
  ·rw[dt h5,ak]
   subst h5
   have:lS 0 w.sum w=List.replicate w.length 0:=by
    unfold lS;simp only[wo,Int.zero_ediv];exact List.map_const'
   unfold ba
   rw[this];simp[bump]
  ·rw[du h5,ar]
   have:=F3 N ω ω si BL hp ω ω w.length N 0 (List.replicate w.length 0) (List.replicate w.length 0) ω ω ω (ck ..) (ck ..) rfl rfl
   rw[kd]at this
   simp only[lS,iE,jK,wq]at this
   exact this
end VM
end
section
namespace VM
open Go VM.F
theorem kE{a b:List Int}(hl:a.length=b.length)(h: ∀i,i<a.length→a.getD i 0=b.getD i 0):a=b:=by
 refine List.ext_getElem hl (λi h1 h2=> ?_)
 have:=h i h1
 rwa [aR,bl h1,aR,bl h2]at this
theorem Sk: ∀(ks q:List Int) (i:Nat),ks.Nodup→(∀k∈ks,0≤k∧k<q.length)→(bump q ks).getD i 0=q.getD i 0+(if(i:Int)∈ks then 1 else 0)
 |[],q,i,_,_=>by simp[bump]
 |k::t,q,i,hn,h=>by
  have hk:=h k (bp ..)
  rw[zB]at hn
  unfold bump
  rw[Sk t _ i hn.2 (λx hx=>by rw[bB];exact h x (a8 _ hx))]
  by_cases hik:(i:Int)=k
  ·rw[ah (by rw[hik];exact hn.1),aj (by rw[hik];exact bp ..),←hik,aE,ku q _ ω];omega
  ·rw[getD_set_ne q _ ω]
   by_cases ht:(i:Int)∈t
   ·rw[aj ht,aj (a8 _ ht)]
   ·rw[ah ht,ah (λhc=>by rcases aX.1 hc with hc|hc;exact hik hc;exact ht hc)]
theorem Nw(l:List Int):(ir l).Nodup:=(kX l l.length).imp (λ{a b} h he=>by unfold ur at h;rw[he]at h;omega)
theorem Sl(t S:Int)(hS:0<S): ∀u:List Int,(iB t S u).sum≤u.length*S
 |[]=>by simp[iB]
 |x::u=>by
  have ih:=Sl t S hS u
  have:=oQ (t*x) hS
  unfold iB at*
  rw[bR,cH,aW,zD,iG];simp;omega
def mP(t:Int)(w:List Int):Int:=t-(lS t w.sum w).sum
theorem left_eq(t:Int)(w:List Int):w.sum*mP t w=(iB t w.sum w).sum:=by
 have:=Ed t w.sum w
 unfold mP;rw[wu,eo w.sum t];omega
theorem F4{t:Int}{w:List Int}(ht:0≤t)(hS:0<w.sum):0≤mP t w:=by
 have:=KB ht hS (fx _);unfold mP;omega
theorem Sm{t:Int}{w:List Int}(hS:0<w.sum):mP t w≤w.length:=by
 have h1:=left_eq t w
 have h2:=Sl t w.sum hS w
 rw[←h1,eo (w.length:Int)]at h2
 exact Es h2 hS
theorem iu(t:Int)(w:List Int):(ba t w).length=w.length:=by unfold ba;rw[Nt,rH]
theorem rI{t:Int}{w:List Int}(ht:0≤t)(hS:0<w.sum):(ba t w).sum=t:=by
 unfold ba
 have h1:=F4 ht hS
 have h2:=Sm (t:=t) hS
 unfold mP at*
 rw[Nu _ _ (λk hk=>by have:=AU _ k (jI hk);rw[iS]at this;rwa [rH]),bO,rG,iS]
 omega
theorem y7{f:Int→Int}{c:Int}: ∀{o:List Int},(∀x∈o,f x≤c)→(o.map f).sum≤o.length*c
 |[],_=>by simp
 |x::o,h=>by
  have ih:=y7 (f:=f) (c:=c) (o:=o) (λy hy=>h y (a8 _ hy))
  have:=h x (bp ..)
  rw[bR,cH,aW,zD,iG];simp;omega
theorem QE{l o:List Int}(h:o.Pairwise (ur l)){m:Nat}{x y:Int}(hx:x∈o.take m)(hy:y∈o.drop m):ur l x y:=by
 rw[←fW m o,wa]at h
 exact h.2.2 x hx y hy
theorem T0{t:Int}{w:List Int}(ht:0≤t)(hS:0<w.sum){i:Int}(hi:i∈(ir (iB t w.sum w)).take (mP t w).toNat):0<xb (iB t w.sum w) i:=by
 have Mk: ∀k:Int,0≤xb (iB t w.sum w) k:=λk=>fE (Nv hS) _
 have fA: ∀k:Int,xb (iB t w.sum w) k≤w.sum-1:=λk=>by
  unfold xb;rw[Sj]
  have:=oQ (t*w.getD k.toNat 0) hS;omega
 have h0:=Mk i
 rcases Int.lt_or_le 0 (xb (iB t w.sum w) i)with h|h
 ·exact h
 exfalso
 have yj:=QC (iB t w.sum w) (iB t w.sum w) rfl
 rw[←left_eq]at yj
 have asP:=fW (mP t w).toNat (ir (iB t w.sum w))
 rw[←asP,dn,nn]at yj
 have hd:(((ir (iB t w.sum w)).drop (mP t w).toNat).map (xb (iB t w.sum w))).sum≤((ir (iB t w.sum w)).drop (mP t w).toNat).length*0:=y7 (λy hy=>by
  have:=QE (kX _ _) hi hy
  unfold ur at this;omega)
 have htk:(((ir (iB t w.sum w)).take (mP t w).toNat).map (xb (iB t w.sum w))).sum≤((ir (iB t w.sum w)).take (mP t w).toNat).length*(w.sum-1):=y7 (λy _=>fA y)
 have h1:=F4 ht hS
 have h2:=Sm (t:=t) hS
 rw[bO,rG,iS,gZ ω,wu]at htk
 rw[zH]at hd
 have h3:(((mP t w).toNat:Nat):Int)=mP t w:=ω
 have h4:0<(mP t w).toNat:=by
  rcases Nat.eq_zero_or_pos (mP t w).toNat with h|h
  ·rw[h,kd]at hi;nomatch hi
  ·exact h
 rw[h3,eo (mP t w)]at htk
 omega
def extra(t:Int)(w:List Int)(i:Nat):Int:=if(i:Int)∈(ir (iB t w.sum w)).take (mP t w).toNat then 1 else 0
theorem xM(t:Int)(w:List Int)(i:Nat):(ba t w).getD i 0=t*w.getD i 0/w.sum+extra t w i:=by
 unfold ba
 rw[Sk _ _ i ((Nw _).sublist (List.take_sublist ..)) (λk hk=>by have:=AU _ k (jI hk);rw[iS]at this;rwa [rH]),KA]
 rfl
theorem xN(t:Int)(w:List Int)(i:Nat):extra t w i=0∨extra t w i=1:=by unfold extra;split<;>omega
theorem BM{t:Int}{w:List Int}(ht:0≤t)(hS:0<w.sum){i:Nat}(h:extra t w i=1):0<t*w.getD i 0%w.sum:=by
 unfold extra at h
 by_cases hi:(i:Int)∈(ir (iB t w.sum w)).take (mP t w).toNat
 ·have:=T0 ht hS hi
  unfold xb at this;rwa [Sj,aE]at this
 ·rw[ah hi]at h;omega
theorem vo{t:Int}{w:List Int}(ht:0≤t)(hS:0<w.sum)(hw:Pos w):Pos (ba t w):=λx hx=>by
 obtain⟨i,hi,rfl⟩:=qI.1 hx
 have:=xM t w i
 rw[aR,bl hi]at this
 have h1:=xN t w i
 have h2:0≤t*w.getD i 0/w.sum:=me (o6 ht (fE hw i)) ω
 simp only[ni]at this
 omega
theorem xd{t:Int}{w:List Int}(ht:0≤t)(hS:0<w.sum){i:Nat}(h:w.getD i 0=0):(ba t w).getD i 0=0:=by
 rw[xM,h]
 rcases xN t w i with h1|h1
 ·rw[h1];simp
 ·have:=BM ht hS h1
  rw[h]at this;simp at this
theorem QF{t:Int}{w:List Int}(ht:0≤t)(hS:0<w.sum)(i:Nat):((ba t w).getD i 0*w.sum-t*w.getD i 0).natAbs<w.sum:=by
 have e:=sE (t*w.getD i 0) w.sum
 have h1:=oQ (t*w.getD i 0) hS
 have h2:=o5 (t*w.getD i 0) (show w.sum≠0 by omega)
 rw[xM,iG,eo _ w.sum]
 rcases xN t w i with h|h
 ·rw[h,wo];omega
 ·have:=BM ht hS h
  rw[h,qV];omega
end VM
end
section
namespace VM
open Go VM.F
theorem CX(N:Nat)(hN:5000000≤N){t:Int}{w:List Int}(ht:0≤t)(si:t<9223372036854775808)(hw:w.length≤64)(hp:Pos w)(hS:0<w.sum)(hS1:w.sum<9223372036854775808):
  ∀(m n i:Nat) (q r:List Int),w.length-i≤m→m<n→i≤w.length→q.length=w.length→r.length=w.length→q.take i=lS t w.sum (w.take i)→r.take i=iB t w.sum (w.take i)→
  fN.IY N n t w (di w.sum) q r (t-(lS t w.sum (w.take i)).sum) (i:Int)=some (ba t w,0)
 |m,0,i,q,r,_,hn,_,_,_,_,_=>ω
 |m,n+1,i,q,r,hm,hn,hi,hq,hr,eq,er=>by
  unfold fN.IY fN.F5
  by_cases h:i<w.length
  ·have hwi:=fE hp i
   have ahZ:=th hp i
   have hb:=mul_lt ht hwi (show t≤9223372036854775807 by omega) (show w.getD i 0≤9223372036854775807 by omega)
   have hqi:t*w.getD i 0/w.sum≤t:=LN hS (p3 ahZ ht)
   have asO:0≤t*w.getD i 0/w.sum:=me hb.1 ω
   have hri:=oQ (t*w.getD i 0) hS
   have az7:=o5 (t*w.getD i 0) (show w.sum≠0 by omega)
   have hs0:=KB ht hS (xc hp i)
   have Py:=fZ (uu ht (by omega:0≤w.sum) (F1 hp i))
   have ft:Fit t 2:=Fit.i64 ω ω
   have fw:Fit (w.getD i 0) 2:=Fit.i64 ω ω
   have fS:Fit w.sum 2:=Fit.i64 ω ω
   rw[aP ω,ak,dC N ω ω si,av,aQ ω ω,ak,aE,dC N ω ω ω,av,
    Aq N ω (ft.mono ω) (fw.mono ω),av,R4 N ω hS ((ft.mul fw).mono ω) (fS.mono ω),av]
   dsimp only
   rw[tc,av,y6 ω ω,tc,y6 ω ω]
   dsimp only
   rw[av,aQ ω ω,ak,aQ ω ω,ak,bB,aQ ω ω,ak,ku q _ ω,aw (x:=(i:Int)+1) ω ω,aw ω ω]
   have yV:=CX N hN ht si hw hp hS hS1 (m-1) n (i+1) (q.set i (t*w.getD i 0/w.sum)) (r.set i (t*w.getD i 0%w.sum)) ω ω ω (by rw[bB];exact hq) (by rw[bB];exact hr)
    (by rw[take_set q _ ω,eq,gb w h];unfold lS;simp)
    (by rw[take_set r _ ω,er,gb w h];unfold iB;simp)
   rw[←xL,gy _ (by rw[rH];exact h),KA,xL]at yV
   rw[zI]
   exact yV
  ·have lA:i=w.length:=ω
   subst lA
   rw[gl ω,gl ω]at eq er
   subst eq er
   rw[gl ω]
   have Py:=fZ (uu ht (by omega:0≤w.sum) hp)
   have h1:=F4 ht hS
   unfold mP at h1
   rw[aL ω,ar,TX N (by rw[iS];omega) (by rw[iS];omega),av]
   have hlen:=rG (iB t w.sum w)
   rw[iS]at hlen
   have vD:=F2 N (ks:=ir (iB t w.sum w)) ω w.length (λk hk=>by have:=AU _ k hk;rwa [iS]at this) 1000 N 0 (t-(lS t w.sum w).sum).toNat (lS t w.sum w) ω ω ω (rH ..) (uu ht ω hp) ω ω
   rw[cM,m9 h1]at vD
   exact vD
theorem BN(N:Nat)(hN:5000000≤N){t:Int}{w:List Int}(si:t<9223372036854775808)(hw:FX w)(hl:w.length≤1000000):fN N t w=some (nS t w):=by
 unfold fN fN.b nS
 rw[F0 N ω,av]
 by_cases h1:t<0
 ·rw[bs h1,Bool.true_or,ak,aj (.inl h1)]
 rw[cg h1,tI]
 cases h2:may w
 ·rw[cz,ak,aj (.inr rfl)]
 rw[aY,ar,ah (by simp[h1]),yT N ω hw hl,av,p9,av]
 obtain⟨BL,hp⟩:=gT.1 h2
 have hS0:=fZ hp
 have hj: ∀h: ¬9223372036854775808≤w.sum,fN.j6 N t w (di w.sum)=if w.sum=0 then some (List.replicate w.length 0,0)else some (ba t w,0):=λh=>by
  unfold fN.j6 fN.Tw
  rw[tc,av,y6 ω ω,aY,ar,cj ω ω ω,ak,ak,p9,av,aE]
  by_cases h4:w.sum=0
  ·rw[aj h4,h4,show xD 0=0 from rfl,dt rfl,ak]
  ·rw[ah h4,du (by unfold xD;repeat' split<;>omega),ar]
   have:=CX N hN ω si BL hp ω ω w.length N 0 (List.replicate w.length 0) (List.replicate w.length 0) ω ω ω (ck ..) (ck ..) rfl rfl
   rw[kd]at this
   simp only[lS,iE,jK,wq]at this
   exact this
 by_cases h3:9223372036854775808≤w.sum
 ·rw[aj h3,du (by unfold xD;repeat' split<;>omega),ar]
  unfold fN.j6 fN.Tw
  rw[tc,av];unfold Ap;rw[ah ω];rfl
 rw[ah h3,hj h3]
 by_cases h4:w.sum=0
 ·rw[aj h4,aj h4,h4,show xD 0=0 from rfl,dt rfl,ak]
  by_cases h5:t=0
  ·rw[aj h5,dt h5,aY,ar]
  ·rw[ah h5,du h5,cz,ak]
 ·rw[ah h4,ah h4,du (by unfold xD;repeat' split<;>omega),ar]
def IZ(t n:Int):List Int×Int:=if t<0∨n<1∨64<n then([],1)else nS t (List.replicate n.toNat 1)
theorem W1(n:Nat):FX (List.replicate n 1):=λx hx=>by rw[zo hx];omega
theorem I0(N:Nat)(hN:5000000≤N){t:Int}{k:Nat}(hk:k≤64)(si:t<9223372036854775808): ∀(m n i:Nat),k-i≤m→m<n→i≤k→
  rJ.l5 N n t (k:Int) (List.replicate i 1++List.replicate (k-i) 0) (i:Int)=some (nS t (List.replicate k 1))
 |m,0,i,_,hn,_=>ω
 |m,n+1,i,hm,hn,hi=>by
  unfold rJ.l5 rJ.fi
  by_cases h:i<k
  ·rw[aP ω,ak,aQ ω (by simp;omega),ak,aw ω ω]
   refine Eq.trans ?_ (I0 N hN hk si (m-1) n (i+1) ω ω ω)
   congr 1
   rw[aE,LO _ _ (by simp),ck,tL,show k-i=(k-(i+1))+1 by omega,zu,List.set_cons_zero,List.replicate_succ',bM]
   rfl
  ·rw[aL ω,ar,show k-i=0 by omega,List.replicate_zero,cK,show i=k by omega,BN N hN si (W1 _) (by rw[ck];omega)]
   rfl
theorem W2(N:Nat)(hN:5000000≤N){t n:Int}(si:t<9223372036854775808):rJ N t n=some (IZ t n):=by
 unfold rJ rJ.b IZ
 by_cases h1:t<0
 ·rw[aP h1,ak,aj (.inl h1)]
 by_cases h2:n<1
 ·rw[aL ω,ar,aP h2,ak,aj (.inr (.inl h2))]
 by_cases h3:64<n
 ·rw[aL ω,ar,aL ω,ar,aP h3,ak,aj (.inr (.inr h3))]
 rw[aL ω,ar,aL ω,ar,aL ω,ar,ah ω,cj ω ω ω,ak]
 have:=I0 N hN (t:=t) (k:=n.toNat) ω si n.toNat N 0 ω ω ω
 rw[List.replicate_zero,cL,Nat.sub_zero,m9 ω]at this
 exact this
end VM
end
section
namespace VM
open Go VM.F
def F6(n:Nat)(f:Nat→Int):List Int:=(List.range n).map f
theorem ga(n:Nat)(f:Nat→Int):(F6 n f).length=n:=by unfold F6;rw[cO,wc]
theorem fk{n:Nat}{f:Nat→Int}{i:Nat}(h:i<n):(F6 n f).getD i 0=f i:=by
 unfold F6
 rw[aR,nf,List.getElem?_range h];rfl
theorem KC(n:Nat)(f:Nat→Int)(i:Nat):(F6 n f).getD i 0=if i<n then f i else 0:=by
 by_cases h:i<n
 ·rw[aj h,fk h]
 ·rw[ah h,u9 _ (by rw[ga];omega)]
theorem aar{n:Nat}{f:Nat→Int}(h: ∀i,i<n→0≤f i):Pos (F6 n f):=λx hx=>by
 obtain⟨i,hi,rfl⟩:=cD.1 hx
 exact h i (qR.1 hi)
theorem pn{l:List Int}(h: ∀i,i<l.length→0≤l.getD i 0):Pos l:=λx hx=>by
 obtain⟨i,hi,rfl⟩:=qI.1 hx
 have:=h i hi
 rwa [aR,bl hi]at this
theorem xO: ∀{a b:List Int},a.length=b.length→(∀i,i<a.length→a.getD i 0≤b.getD i 0)→a.sum≤b.sum
 |[],[],_,_=>fx _
 |[],_::_,h,_=>nomatch h
 |_::_,[],h,_=>nomatch h
 |x::a,y::b,h,h1=>by
  have:=xO (a:=a) (b:=b) (by simpa using h) (λi hi=>by have:=h1 (i+1) (by simpa using hi);simpa using this)
  have h2:x≤y:=by have:=h1 0 (by simp);simpa using this
  rw[cH,cH];omega
theorem F8: ∀{a b c:List Int},a.length=b.length→a.length=c.length→(∀i,i<a.length→a.getD i 0=b.getD i 0+c.getD i 0)→a.sum=b.sum+c.sum
 |[],[],[],_,_,_=>rfl
 |[],_::_,_,h,_,_=>nomatch h
 |[],[],_::_,_,h,_=>nomatch h
 |_::_,[],_,h,_,_=>nomatch h
 |_::_,_::_,[],_,h,_=>nomatch h
 |x::a,y::b,z::c,h,h',h1=>by
  have:=F8 (a:=a) (b:=b) (c:=c) (by simpa using h) (by simpa using h') (λi hi=>by have:=h1 (i+1) (by simpa using hi);simpa using this)
  have h2:x=y+z:=by have:=h1 0 (by simp);simpa using this
  rw[cH,cH,cH];omega
theorem xe: ∀{a:List Int},(∀i,i<a.length→a.getD i 0=0)→a.sum=0
 |[],_=>rfl
 |x::a,h=>by
  have:=xe (a:=a) (λi hi=>by have:=h (i+1) (by simpa using hi);simpa using this)
  have h2:x=0:=by have:=h 0 (by simp);simpa using this
  rw[cH];omega
def bN(w caps out:List Int):List Int:=F6 w.length λi=>if out.getD i 0<caps.getD i 0 then w.getD i 0 else 0
def dO(parts caps out:List Int):List Int:=F6 out.length λi=>min (parts.getD i 0) (caps.getD i 0-out.getD i 0)
def sr(out g:List Int):List Int:=F6 out.length λi=>out.getD i 0+g.getD i 0
def lx(w caps:List Int):Nat→List Int→Int→List Int×Int
 |0,out,left=>(out,left)
 |f+1,out,left=>if left=0∨(bN w caps out).sum=0 then(out,left)else
  lx w caps f (sr out (dO (ba left (bN w caps out)) caps out)) (left-(dO (ba left (bN w caps out)) caps out).sum)
structure Nx(t:Int)(w caps out:List Int)(left:Int):Prop where
 n:w.length≤64
 l1:caps.length=w.length
 l2:out.length=w.length
 pw:Pos w
 sw:w.sum<9223372036854775808
 pc: ∀i,0≤caps.getD i 0∧caps.getD i 0<9223372036854775808
 po: ∀i,0≤out.getD i 0
 le: ∀i,i<w.length→out.getD i 0≤caps.getD i 0
 z: ∀i,w.getD i 0=0→out.getD i 0=0
 l:0≤left
 t1:t<9223372036854775808
 s:out.sum+left=t
theorem dP(w caps out:List Int):(bN w caps out).length=w.length:=ga ..
theorem nT{w caps out:List Int}(h:Pos w):Pos (bN w caps out):=aar (λi _=>by split;exact fE h i;omega)
theorem F9{w caps out:List Int}(h:Pos w):(bN w caps out).sum≤w.sum:=xO (dP ..) (λi hi=>by
 rw[dP]at hi
 unfold bN;rw[fk hi];split
 ·omega
 ·exact fE h i)
theorem Ny{t left:Int}{w caps out:List Int}(c:Nx t w caps out left):FX (bN w caps out):=λx hx=>by
 have h1:=nT (caps:=caps) (out:=out) c.pw
 have h2:=F9 (caps:=caps) (out:=out) c.pw
 have h3:=h1 x hx
 obtain⟨i,hi,rfl⟩:=qI.1 hx
 have h4:=th h1 i
 rw[aR,bl hi]at h4
 simp only[ni]at h4
 have:=c.sw
 omega
theorem AV{t left:Int}{w caps out:List Int}(c:Nx t w caps out left):left≤t:=by
 have:=fZ (q:=out) (pn (λi _=>c.po i));have:=c.s;omega
theorem mj{t left:Int}{w caps out:List Int}(c:Nx t w caps out left)(hS:0<(bN w caps out).sum)(i:Nat):
  0≤(dO (ba left (bN w caps out)) caps out).getD i 0∧(dO (ba left (bN w caps out)) caps out).getD i 0≤(ba left (bN w caps out)).getD i 0∧(i<w.length→out.getD i 0+(dO (ba left (bN w caps out)) caps out).getD i 0≤caps.getD i 0):=by
 have h0:=fE (vo c.l hS (nT c.pw)) i
 unfold dO
 rw[KC]
 have:=c.l2
 by_cases h:i<out.length
 ·rw[aj h]
  have:=c.le i ω
  omega
 ·rw[ah h];exact⟨ω,h0,λh=>ω⟩
theorem nU(parts caps out:List Int):(dO parts caps out).length=out.length:=ga ..
theorem AW{t left:Int}{w caps out:List Int}(c:Nx t w caps out left)(hS:0<(bN w caps out).sum):0≤(dO (ba left (bN w caps out)) caps out).sum∧(dO (ba left (bN w caps out)) caps out).sum≤left:=by
 constructor
 ·exact fZ (pn (λi _=>(mj c hS i).1))
 ·have:=xO (a:=dO (ba left (bN w caps out)) caps out) (b:=ba left (bN w caps out)) (by rw[nU,iu,dP,c.l2]) (λi _=>(mj c hS i).2.1)
  rwa [rI c.l hS]at this
theorem Ga{t left:Int}{w caps out:List Int}(c:Nx t w caps out left)(hS:0<(bN w caps out).sum):Nx t w caps (sr out (dO (ba left (bN w caps out)) caps out)) (left-(dO (ba left (bN w caps out)) caps out).sum):=by
 have p6: ∀i,(sr out (dO (ba left (bN w caps out)) caps out)).getD i 0=if i<out.length then out.getD i 0+(dO (ba left (bN w caps out)) caps out).getD i 0 else 0:=λi=>by unfold sr;rw[KC]
 have gs:=AW c hS
 refine⟨c.n,c.l1,?_,c.pw,c.sw,c.pc,λi=> ?_,λi hi=> ?_,λi hi=> ?_,ω,c.t1,?_⟩
 ·unfold sr;rw[ga,c.l2]
 ·rw[p6];have:=(mj c hS i).1;have:=c.po i;split<;>omega
 ·rw[p6,aj (by rw[c.l2];exact hi)];exact(mj c hS i).2.2 hi
 ·rw[p6]
  split
  ·have h1:(bN w caps out).getD i 0=0:=by unfold bN;rw[KC,hi];split<;>(try split)<;>rfl
   have h2:=xd c.l hS h1
   have h3:=mj c hS i
   rw[c.z i hi];omega
  ·rfl
 ·have:=F8 (a:=sr out (dO (ba left (bN w caps out)) caps out)) (b:=out) (c:=dO (ba left (bN w caps out)) caps out) (by unfold sr;rw[ga]) (by unfold sr;rw[ga,nU]) (λi hi=>by
   unfold sr at hi;rw[ga]at hi;rw[p6,aj hi])
  have:=c.s
  omega
def opens(w caps out:List Int):Nat:=(List.range w.length).countP λi=>decide (0<w.getD i 0∧out.getD i 0<caps.getD i 0)
theorem I1{p q:Nat→Bool}: ∀{l:List Nat},(∀x∈l,q x=true→p x=true)→(∃x∈l,p x=true∧q x=false)→l.countP q<l.countP p
 |[],_,⟨x,hx,_⟩=>nomatch hx
 |y::l,h,⟨x,hx,h1,h2⟩=>by
  have hle:l.countP q≤l.countP p:=List.countP_mono_left (λz hz=>h z (a8 _ hz))
  rw[List.countP_cons,List.countP_cons]
  rcases aX.1 hx with rfl|hx
  ·rw[h1,h2];simp;omega
  ·have:=I1 (p:=p) (q:=q) (l:=l) (λz hz=>h z (a8 _ hz)) ⟨x,hx,h1,h2⟩
   have h3:=h y (bp ..)
   cases hq:q y<;>cases hp:p y<;>simp<;>try omega
   rw[hq,hp]at h3;simp at h3
theorem I2{w caps out:List Int}(hw:Pos w)(h:(bN w caps out).sum=0): ∀i,i<w.length→ ¬(0<w.getD i 0∧out.getD i 0<caps.getD i 0):=λi hi ⟨h1,h2⟩=>by
 have:=th (nT (caps:=caps) (out:=out) hw) i
 unfold bN at this h
 rw[fk hi,aj h2,h]at this
 omega
theorem KD{w caps out:List Int}(hw:Pos w)(h:(bN w caps out).sum≠0): ∃i,i<w.length∧0<w.getD i 0∧out.getD i 0<caps.getD i 0:=by
 by_cases hx: ∃i,i<w.length∧0<w.getD i 0∧out.getD i 0<caps.getD i 0
 ·exact hx
 ·refine absurd (xe (λi hi=> ?_)) h
  rw[dP]at hi
  unfold bN
  rw[fk hi]
  split
  ·rename_i h1
   have:=fE hw i
   by_cases h2:0<w.getD i 0
   ·exact absurd ⟨i,hi,h2,h1⟩ hx
   ·omega
  ·rfl
theorem I3{t left:Int}{w caps out:List Int}(c:Nx t w caps out left)(hS:0<(bN w caps out).sum)(hl:left-(dO (ba left (bN w caps out)) caps out).sum≠0):opens w caps (sr out (dO (ba left (bN w caps out)) caps out))<opens w caps out:=by
 have p6: ∀i,i<w.length→(sr out (dO (ba left (bN w caps out)) caps out)).getD i 0=out.getD i 0+(dO (ba left (bN w caps out)) caps out).getD i 0:=λi hi=>by unfold sr;rw[fk (by rw[c.l2];exact hi)]
 refine I1 (λi hi h=> ?_) ?_
 ·rw[qR]at hi
  rw[fp,p6 i hi]at h
  rw[fp]
  have:=(mj c hS i).1
  omega
 ·by_cases hx: ∃i,i<w.length∧(0<w.getD i 0∧out.getD i 0<caps.getD i 0)∧caps.getD i 0≤out.getD i 0+(dO (ba left (bN w caps out)) caps out).getD i 0
  ·obtain⟨i,h1,h2,h3⟩:=hx
   refine⟨i,qR.2 h1,bs h2,cg ?_⟩
   rw[p6 i h1];omega
  ·exfalso
   have h1:ba left (bN w caps out)=dO (ba left (bN w caps out)) caps out:=by
    refine kE (by rw[nU,iu,dP,c.l2]) (λi hi=> ?_)
    rw[iu,dP]at hi
    have h2:=mj c hS i
    have h3:=fE (vo c.l hS (nT (caps:=caps) (out:=out) c.pw)) i
    by_cases h4:0<w.getD i 0∧out.getD i 0<caps.getD i 0
    ·have h5: ¬caps.getD i 0≤out.getD i 0+(dO (ba left (bN w caps out)) caps out).getD i 0:=λh=>hx ⟨i,hi,h4,h⟩
     have h6:(dO (ba left (bN w caps out)) caps out).getD i 0=min ((ba left (bN w caps out)).getD i 0) (caps.getD i 0-out.getD i 0):=fk (by rw[c.l2];exact hi)
     omega
    ·have h7:(bN w caps out).getD i 0=0:=by
      unfold bN;rw[fk hi]
      have:=fE c.pw i
      split<;>omega
     have:=xd c.l hS h7
     omega
   rw[←h1,rI c.l hS]at hl
   omega
theorem Nz(w caps out:List Int):opens w caps out≤w.length:=by
 unfold opens
 have:=List.countP_le_length (p:=λi=>decide (0<w.getD i 0∧out.getD i 0<caps.getD i 0)) (l:=List.range w.length)
 rwa [wc]at this
structure Full(t:Int)(w caps out:List Int)(left:Int):Prop where
 c:Nx t w caps out left
 f:left=0∨ ∀i,i<w.length→ ¬(0<w.getD i 0∧out.getD i 0<caps.getD i 0)
theorem NA{t:Int}{w caps:List Int}: ∀(f:Nat) (out:List Int) (left:Int),Nx t w caps out left→(opens w caps out<f∨left=0)→Full t w caps (lx w caps f out left).1 (lx w caps f out left).2
 |0,out,left,c,h=>⟨c,.inl (show left=0 by omega)⟩
 |f+1,out,left,c,h=>by
  unfold lx
  have hS:=fZ (nT (caps:=caps) (out:=out) c.pw)
  split
  ·rename_i h1
   exact⟨c,h1.imp id (I2 c.pw)⟩
  ·rename_i h1
   refine NA f _ _ (Ga c ω) ?_
   by_cases h2:left-(dO (ba left (bN w caps out)) caps out).sum=0
   ·exact .inr h2
   ·have:=I3 c ω h2
    exact .inl ω
def AX(out g:List Int)(i:Nat):List Int:=F6 out.length λj=>if j<i then out.getD j 0+g.getD j 0 else out.getD j 0
theorem mid_zero(out g:List Int):AX out g 0=out:=kE (ga ..) (λi hi=>by unfold AX at*;rw[ga]at hi;rw[fk hi,ah ω])
theorem Sn(out g:List Int){n:Nat}(h:out.length≤n):AX out g n=sr out g:=kE (by unfold AX sr;rw[ga,ga]) (λi hi=>by unfold AX sr at*;rw[ga]at hi;rw[fk hi,fk hi,aj ω])
theorem xP(out g:List Int)(i:Nat):(AX out g i).length=out.length:=ga ..
theorem W3{out g:List Int}{i:Nat}(h:i<out.length):(AX out g i).getD i 0=out.getD i 0:=by unfold AX;rw[fk h,ah ω]
theorem So{out g:List Int}{i:Nat}(h:i<out.length):(AX out g i).set i (out.getD i 0+g.getD i 0)=AX out g (i+1):=kE (by rw[bB,xP,xP]) (λj hj=>by
 rw[bB,xP]at hj
 by_cases yP:i=j
 ·subst yP
  rw[ku _ _ (by rw[xP];exact h)];unfold AX;rw[fk h,aj ω]
 ·rw[getD_set_ne _ _ yP];unfold AX;rw[fk hj,fk hj]
  by_cases h1:j<i
  ·rw[aj h1,aj ω]
  ·rw[ah h1,ah ω])
def rK(s:List Int)(i:Nat):List Int:=F6 s.length λj=>if j<i then s.getD j 0 else 0
theorem I4(s:List Int):rK s 0=List.replicate s.length 0:=kE (by unfold rK;rw[ga,ck]) (λi hi=>by
 unfold rK at*;rw[ga]at hi;rw[fk hi,ah ω,aR,Ev,aj hi];rfl)
theorem NB(s:List Int):rK s s.length=s:=kE (ga ..) (λi hi=>by unfold rK at*;rw[ga]at hi;rw[fk hi,aj hi])
theorem nV(s:List Int)(i:Nat):(rK s i).length=s.length:=ga ..
theorem NC{s:List Int}{i:Nat}(h:i<s.length):(rK s i).set i (s.getD i 0)=rK s (i+1):=kE (by rw[bB,nV,nV]) (λj hj=>by
 rw[bB,nV]at hj
 by_cases yP:i=j
 ·subst yP
  rw[ku _ _ (by rw[nV];exact h)];unfold rK;rw[fk h,aj ω]
 ·rw[getD_set_ne _ _ yP];unfold rK;rw[fk hj,fk hj]
  by_cases h1:j<i
  ·rw[aj h1,aj ω]
  ·rw[ah h1,ah ω])
theorem BO{s:List Int}{i:Nat}(h:s.getD i 0=0):rK s i=rK s (i+1):=kE (by rw[nV,nV]) (λj hj=>by
 rw[nV]at hj
 unfold rK;rw[fk hj,fk hj]
 by_cases h1:j<i
 ·rw[aj h1,aj ω]
 ·rw[ah h1]
  by_cases h2:j=i
  ·subst h2;rw[aj ω,h]
  ·rw[ah ω])
theorem W4(x y:Int):mn x y=min x y:=by rw[Vb];split<;>omega
theorem I5{t left:Int}{w caps out:List Int}(c:Nx t w caps out left)(hS:0<(bN w caps out).sum)(i:Nat):0≤((dO (ba left (bN w caps out)) caps out).take i).sum∧((dO (ba left (bN w caps out)) caps out).take i).sum≤left:=by
 have h:=pn (l:=dO (ba left (bN w caps out)) caps out) (λi _=>(mj c hS i).1)
 have:=xc h i
 have:=AW c hS
 exact⟨fZ (F1 h i),ω⟩
theorem I6(N:Nat)(K:List Int→List Int→List Int→Int→Option (List Int×Int×Int)){t left:Int}{w caps out:List Int}(c:Nx t w caps out left)(hS:0<(bN w caps out).sum): ∀(m n i:Nat),w.length-i≤m→m<n→i≤w.length→
  nW.AY N K n w caps (AX out (dO (ba left (bN w caps out)) caps out) i) (left-((dO (ba left (bN w caps out)) caps out).take i).sum) (ba left (bN w caps out)) ((ba left (bN w caps out)).length:Int) (i:Int)=
  K w caps (sr out (dO (ba left (bN w caps out)) caps out)) (left-(dO (ba left (bN w caps out)) caps out).sum)
 |m,0,i,_,hn,_=>ω
 |m,n+1,i,hm,hn,hi=>by
  have n64:=c.n
  have e1:=c.l1
  have e2:=c.l2
  unfold nW.AY nW.yl
  by_cases h:i<w.length
  ·have hc:=c.pc i
   have ho:=c.po i
   have hle:=c.le i h
   have hg:=mj c hS i
   have h6:(dO (ba left (bN w caps out)) caps out).getD i 0=min ((ba left (bN w caps out)).getD i 0) (caps.getD i 0-out.getD i 0):=fk (by rw[c.l2];exact h)
   have ht:=I5 c hS i
   have hl:=AV c
   have si:=c.t1
   have hgl:(dO (ba left (bN w caps out)) caps out).getD i 0≤left:=by
    have:=th (pn (l:=dO (ba left (bN w caps out)) caps out) (λi _=>(mj c hS i).1)) i
    have:=AW c hS
    omega
   dsimp only
   rw[aP (by rw[iu,dP];omega),ak,aQ ω (by rw[iu,dP];omega),ak,aQ ω ω,ak,aQ ω (by rw[xP];omega),ak,ak,aE,W3 ω,aw (x:=caps.getD i 0-out.getD i 0) ω ω,W4,←h6,
    aw (x:=(i:Int)+1) ω ω,aw (x:=out.getD i 0+_) ω ω,aw ω ω,So ω]
   have:=I6 N K c hS (m-1) n (i+1) ω ω ω
   rw[gy _ (by rw[nU];omega),←zI]at this
   exact this
  ·rw[aL (by rw[iu,dP];omega),ar,Sn _ _ ω,gl (by rw[nU];omega)]
theorem Gb(N:Nat)(K:List Int→List Int→List Int→Int→Int→Option (List Int×Int×Int)){t left:Int}{w caps out:List Int}(c:Nx t w caps out left)(hS:0<(bN w caps out).sum)(rd:Int): ∀(m n i:Nat),w.length-i≤m→m<n→i≤w.length→
  eW.TP N K n w caps (AX out (dO (ba left (bN w caps out)) caps out) i) (left-((dO (ba left (bN w caps out)) caps out).take i).sum) rd (ba left (bN w caps out)) (i:Int)=
  K w caps (sr out (dO (ba left (bN w caps out)) caps out)) (left-(dO (ba left (bN w caps out)) caps out).sum) (W .i64 (rd+1))
 |m,0,i,_,hn,_=>ω
 |m,n+1,i,hm,hn,hi=>by
  have n64:=c.n
  have e1:=c.l1
  have e2:=c.l2
  unfold eW.TP eW.Qs
  by_cases h:i<w.length
  ·have hc:=c.pc i
   have ho:=c.po i
   have hle:=c.le i h
   have hg:=mj c hS i
   have h6:(dO (ba left (bN w caps out)) caps out).getD i 0=min ((ba left (bN w caps out)).getD i 0) (caps.getD i 0-out.getD i 0):=fk (by rw[c.l2];exact h)
   have ht:=I5 c hS i
   have hl:=AV c
   have si:=c.t1
   have hgl:(dO (ba left (bN w caps out)) caps out).getD i 0≤left:=by
    have:=th (pn (l:=dO (ba left (bN w caps out)) caps out) (λi _=>(mj c hS i).1)) i
    have:=AW c hS
    omega
   dsimp only
   rw[aP ω,ak,aQ ω (by rw[iu,dP];omega),ak,aQ ω ω,ak,aQ ω (by rw[xP];omega),ak,ak,aE,W3 ω,aw (x:=caps.getD i 0-out.getD i 0) ω ω,W4,←h6,
    aw (x:=(i:Int)+1) ω ω,aw (x:=out.getD i 0+_) ω ω,aw (x:=left-_-_) ω ω,So ω]
   have:=Gb N K c hS rd (m-1) n (i+1) ω ω ω
   rw[gy _ (by rw[nU];omega),←zI]at this
   exact this
  ·rw[aL ω,ar,Sn _ _ ω,gl (by rw[nU];omega)]
theorem BP(N:Nat)(hN:5000000≤N)(K:List Int→List Int→List Int→Int→Option (List Int×Int×Int)){t left:Int}{w caps out:List Int}(c:Nx t w caps out left)(hl:0<left): ∀(m n i:Nat),w.length-i≤m→m<n→i≤w.length→
  nW.l10 N K n w caps out left (rK (bN w caps out) i) (w.length:Int) (i:Int)=
  if(bN w caps out).sum=0 then some (out,left,0)else K w caps (sr out (dO (ba left (bN w caps out)) caps out)) (left-(dO (ba left (bN w caps out)) caps out).sum)
 |m,0,i,_,hn,_=>ω
 |m,n+1,i,hm,hn,hi=>by
  have n64:=c.n
  have e1:=c.l1
  have e2:=c.l2
  unfold nW.l10 nW.ah0
  by_cases h:i<w.length
  ·have h1:(bN w caps out).getD i 0=if out.getD i 0<caps.getD i 0 then w.getD i 0 else 0:=fk h
   rw[aP ω,ak,aQ ω ω,ak,aQ ω ω,ak,aE]
   by_cases h2:out.getD i 0<caps.getD i 0
   ·rw[aj h2]at h1
    rw[aP h2,ak,aQ ω ω,ak,aQ ω (by rw[nV,dP];omega),ak,aw ω ω,←h1,NC (by rw[dP];exact h)]
    exact BP N hN K c hl (m-1) n (i+1) ω ω ω
   ·rw[ah h2]at h1
    rw[aL ω,ar,aw ω ω,BO h1]
    exact BP N hN K c hl (m-1) n (i+1) ω ω ω
  ·have ZM:=AV c
   have si:=c.t1
   have lA:i=(bN w caps out).length:=by rw[dP];omega
   have hp:=nT (caps:=caps) (out:=out) c.pw
   have hs:=F9 (caps:=caps) (out:=out) c.pw
   have hs0:=fZ hp
   have hsw:=c.sw
   have hm:may (bN w caps out)=true:=gT.2 ⟨by rw[dP];omega,hp⟩
   rw[aL ω,ar,lA,NB,W0 N ω ω (Ny c) (by rw[dP];omega),av]
   unfold nS
   rw[ah (by rw[hm];simp;omega),ah ω]
   by_cases h3:(bN w caps out).sum=0
   ·rw[aj h3,aj h3,ah ω,du (show(1:Int)≠0 by omega),cz,ak]
   ·rw[ah h3,ah h3,dt (show(0:Int)=0 by rfl),aY,ar]
    have:=I6 N K c ω w.length N 0 ω ω ω
    rw[mid_zero,kd,jK,wq]at this
    exact this
def ND(w caps out:List Int)(i:Nat):Prop:= ∃j,j<i∧0<w.getD j 0∧out.getD j 0<caps.getD j 0
theorem vp(N:Nat)(hN:5000000≤N)(K:List Int→List Int→List Int→Int→Int→Option (List Int×Int×Int)){t left:Int}{w caps out:List Int}(c:Nx t w caps out left)(rd:Int): ∀(m n i:Nat) (b:Bool),w.length-i≤m→m<n→i≤w.length→(b=true↔ND w caps out i)→
  eW.m5 N K n w caps out left rd (rK (bN w caps out) i) b (i:Int)=
  if left=0∨(bN w caps out).sum=0 then some (out,left,0)else K w caps (sr out (dO (ba left (bN w caps out)) caps out)) (left-(dO (ba left (bN w caps out)) caps out).sum) (W .i64 (rd+1))
 |m,0,i,b,_,hn,_,_=>ω
 |m,n+1,i,b,hm,hn,hi,hb=>by
  have n64:=c.n
  have e1:=c.l1
  have e2:=c.l2
  unfold eW.m5 eW.nK
  by_cases h:i<w.length
  ·have h1:(bN w caps out).getD i 0=if out.getD i 0<caps.getD i 0 then w.getD i 0 else 0:=fk h
   have hw:=fE c.pw i
   have sL: ¬(0<w.getD i 0∧out.getD i 0<caps.getD i 0)→(b=true↔ND w caps out (i+1)):=λvE=>hb.trans ⟨λ⟨j,hj,h2⟩=>⟨j,ω,h2⟩,λ⟨j,hj,h2⟩=>⟨j,by
    by_cases yP:j=i
    ·subst yP;exact absurd h2 vE
    ·omega,h2⟩⟩
   rw[aP ω,ak,aQ ω ω,ak,aE]
   by_cases h0:0<w.getD i 0
   ·rw[aP h0,ak,aQ ω ω,ak,aQ ω ω,ak]
    by_cases h2:out.getD i 0<caps.getD i 0
    ·rw[aj h2]at h1
     rw[aP h2,ak,ak,aQ ω (by rw[nV,dP];omega),ak,aw ω ω,←h1,NC (by rw[dP];exact h)]
     exact vp N hN K c rd (m-1) n (i+1) true ω ω ω ⟨λ_=>⟨i,ω,h0,h2⟩,λ_=>rfl⟩
    ·rw[ah h2]at h1
     rw[aL ω,ar,aw ω ω,BO h1]
     exact vp N hN K c rd (m-1) n (i+1) b ω ω ω (sL (λh=>h2 h.2))
   ·have h3:(bN w caps out).getD i 0=0:=by rw[h1];split<;>omega
    rw[aL ω,ar,aw ω ω,BO h3]
    exact vp N hN K c rd (m-1) n (i+1) b ω ω ω (sL (λh=>h0 h.1))
  ·have ZM:=AV c
   have si:=c.t1
   have hl0:=c.l
   have lA:i=(bN w caps out).length:=by rw[dP];omega
   have hp:=nT (caps:=caps) (out:=out) c.pw
   have hs:=F9 (caps:=caps) (out:=out) c.pw
   have hs0:=fZ hp
   have hsw:=c.sw
   have hm:may (bN w caps out)=true:=gT.2 ⟨by rw[dP];omega,hp⟩
   rw[aL ω,ar]
   by_cases h4:left=0
   ·rw[dt h4,ak,aj (.inl h4)]
   rw[du h4,ar]
   by_cases h3:(bN w caps out).sum=0
   ·have hbf:b=false:=by
     rw[qM];intro ht
     obtain⟨j,hj,h5⟩:=hb.1 ht
     exact I2 c.pw h3 j ω h5
    rw[aj (.inr h3),hbf];rfl
   ·have hbt:b=true:=hb.2 (by
     obtain⟨j,hj,h5⟩:=KD c.pw h3
     exact⟨j,ω,h5⟩)
    rw[hbt,aY,ar,ah ω,lA,NB,BN N ω ω (Ny c) (by rw[dP];omega),av]
    unfold nS
    rw[ah (by rw[hm];simp;omega),ah ω,ah h3]
    have:=Gb N K c ω rd w.length N 0 ω ω ω
    rw[mid_zero,kd,jK,wq]at this
    exact this
theorem NF(N:Nat)(hN:5000000≤N){t:Int}{w caps:List Int}: ∀(f n:Nat) (out:List Int) (left:Int),Nx t w caps out left→(opens w caps out<f∨left=0)→f<n→
  nW.l7 N n w caps out left=some ((lx w caps f out left).1,(lx w caps f out left).2,0)
 |f,0,out,left,c,_,hn=>ω
 |f,n+1,out,left,c,h,hn=>by
  have n64:=c.n
  have hl:=c.l
  unfold nW.l7 nW.pN
  by_cases h0:left=0
  ·rw[aL ω,ar]
   cases f with
   |zero=>rfl
   |succ f=>unfold lx;rw[aj (.inl h0)]
  ·rw[aP ω,ak,cj ω ω ω,ak,aE]
   have:=BP N hN (nW.l7 N n) c ω w.length N 0 ω ω ω
   rw[I4,dP]at this
   refine Eq.trans this ?_
   cases f with
   |zero=>omega
   |succ f=>
    have hS:=fZ (nT (caps:=caps) (out:=out) c.pw)
    unfold lx
    by_cases h1:(bN w caps out).sum=0
    ·rw[aj h1,aj (.inr h1)]
    ·rw[ah h1,ah ω]
     refine NF N hN f n _ _ (Ga c ω) ?_ ω
     by_cases h2:left-(dO (ba left (bN w caps out)) caps out).sum=0
     ·exact .inr h2
     ·have:=I3 c ω h2
      exact .inl ω
theorem I7(N:Nat)(hN:5000000≤N){t:Int}{w caps:List Int}: ∀(f n:Nat) (out:List Int) (left:Int),Nx t w caps out left→f≤w.length+1→f<n→
  eW.l8 N n w caps out left ((w.length+1-f:Nat):Int)=some ((lx w caps f out left).1,(lx w caps f out left).2,0)
 |f,0,out,left,c,_,hn=>ω
 |0,n+1,out,left,c,h,hn=>by
  unfold eW.l8 eW.CQ
  rw[dB ω];rfl
 |f+1,n+1,out,left,c,h,hn=>by
  have n64:=c.n
  have hl:=c.l
  unfold eW.l8 eW.CQ
  rw[dL ω,ak,cj ω ω ω,ak,aE]
  have:=vp N hN (eW.l8 N n) c ((w.length+1-(f+1):Nat):Int) w.length N 0 false ω ω ω ⟨(λh=>nomatch h),λ⟨j,hj,_⟩=>ω⟩
  rw[I4,dP]at this
  refine Eq.trans this ?_
  have hS:=fZ (nT (caps:=caps) (out:=out) c.pw)
  unfold lx
  by_cases h1:left=0∨(bN w caps out).sum=0
  ·rw[aj h1,aj h1]
  ·rw[ah h1,ah h1,aw ω ω,show(((w.length+1-(f+1):Nat):Int)+1)=((w.length+1-f:Nat):Int)by omega]
   exact I7 N hN f n _ _ (Ga c ω) ω ω
def mq(t:Int)(w caps:List Int):List Int×Int×Int:=
 if t<0∨may w=false∨caps.length≠w.length∨may caps=false then([],0,1)else if 9223372036854775808≤w.sum then([],0,2)
 else((lx w caps (w.length+1) (List.replicate w.length 0) t).1,(lx w caps (w.length+1) (List.replicate w.length 0) t).2,0)
theorem jj(n i:Nat):(List.replicate n (0:Int)).getD i 0=0:=by
 rw[aR,Ev];split<;>rfl
theorem BQ{t:Int}{w caps:List Int}(ht:0≤t)(si:t<9223372036854775808)(hw:may w=true)(hc:may caps=true)(hl:caps.length=w.length)(hi:FX caps)(hs:w.sum<9223372036854775808):Nx t w caps (List.replicate w.length 0) t:=by
 obtain⟨h1,h2⟩:=gT.1 hw
 obtain⟨h3,h4⟩:=gT.1 hc
 refine⟨h1,hl,ck ..,h2,hs,λi=>⟨fE h4 i,(rq hi i).2⟩,λi=>by rw[jj];omega,λi _=>by rw[jj];exact fE h4 i,λi _=>jj ..,ht,si,?_⟩
 rw[xe (λi _=>jj ..)];omega
theorem T1(N:Nat)(hN:5000000≤N){t:Int}{w caps:List Int}(si:t<9223372036854775808)(hw:FX w)(hc:FX caps)(hl:w.length≤1000000):nW N t w caps=some (mq t w caps):=by
 unfold nW nW.b mq
 by_cases h1:t<0
 ·rw[aP h1,ak,aj (.inl h1)]
 rw[aL ω,ar,QD N ω,av]
 cases h2:may w
 ·rw[cz,ak,aj (.inr (.inl rfl))]
 rw[aY,ar]
 by_cases h3:caps.length=w.length
 case neg=>rw[du ω,cz,ak,aj (.inr (.inr (.inl h3)))]
 rw[dt ω,aY,ar,QD N ω,av]
 cases h4:may caps
 ·rw[cz,ak,aj (.inr (.inr (.inr rfl)))]
 have hp:=fZ (gT.1 h2).2
 rw[aY,ar,R5 N hw hl ω,av,ah (by simp;omega)]
 by_cases h5:9223372036854775808≤w.sum
 ·rw[aj h5];unfold Ap;rw[ah ω];rfl
 rw[ah h5,y6 ω ω,aY,ar,cj ω ω ω,ak,aE]
 have vU:=(gT.1 h2).1
 have:=Nz w caps (List.replicate w.length 0)
 exact NF N hN (w.length+1) N _ _ (BQ ω si h2 h4 h3 hc ω) (.inl ω) ω
theorem Gc(N:Nat)(hN:5000000≤N){t:Int}{w caps:List Int}(si:t<9223372036854775808)(hw:FX w)(hc:FX caps)(hl:w.length≤1000000):eW N t w caps=some (mq t w caps):=by
 unfold eW eW.b mq
 rw[F0 N ω,av]
 by_cases h1:t<0
 ·rw[bs h1,Bool.true_or,ak,aj (.inl h1)]
 rw[cg h1,tI]
 cases h2:may w
 ·rw[cz,ak,aj (.inr (.inl rfl))]
 rw[aY,ar]
 by_cases h3:caps.length=w.length
 case neg=>rw[du ω,cz,ak,aj (.inr (.inr (.inl h3)))]
 rw[dt ω,aY,ar,F0 N ω,av]
 cases h4:may caps
 ·rw[aj (.inr (.inr (.inr rfl)))];rfl
 have hp:=fZ (gT.1 h2).2
 rw[show(decide ((0:Int)<0)|| !true)=false from rfl,ar,yT N ω hw hl,av,tc,av,ah (by simp;omega)]
 by_cases h5:9223372036854775808≤w.sum
 ·rw[aj h5];unfold Ap;rw[ah ω];rfl
 rw[ah h5,y6 ω ω,aY,ar,cj ω ω ω,ak,aE]
 have vU:=(gT.1 h2).1
 have:=I7 N hN (w.length+1) N _ _ (BQ ω si h2 h4 h3 hc ω) ω ω
 rw[tL]at this
 exact this
end VM
end
section
namespace VM
open Go VM.F
theorem aas(N:Nat){l:au}(hl:l.length≤100000)(hN:200000≤N)(a b:Int):DL N l a b=some (bn l a b):=by
 unfold DL DL.b bn
 rw[Av N hl hN,av,cond_not]
 have:=Au l bf (λn i=>DL.l4 N n a b l (l.length:Int) i) (λt=>some (fB a b t)) (λn i hi hr=> ?_) (λn=> ?_) N ω
 ·rw[this];cases da l<;>rfl
 ·unfold DL.l4 DL.dH
  rw[aP ω,ak,aQ ω ω,ak,aE,aw (x:=(i:Int)+1) ω ω,ae i,hr,aN,aN,fJ]
  split
  ·split<;>rfl
  ·rfl
 ·unfold DL.l4 DL.dH
  rw[aL ω,ar];rfl
theorem oI{a b:Int}: ∀{l:au},sR (l.map keyOf)→fB a b l=bX a b l
 |[],_=>rfl
 |x::t,h=>by
  obtain⟨h1,h2⟩:=eK.1 h
  rw[fJ,gg,←oI h2]
  by_cases e1:x.1=a
  ·by_cases e2:x.2.1=b
   ·have hz:bX a b t=0:=kA λy hy e=>by
     have hk:=h1 (keyOf y) (eX hy)
     have he:keyOf y=keyOf x:=gG (e.1.trans e1.symm) (e.2.trans e2.symm)
     rw[he]at hk
     exact mi hk
    rw[aj e1,aj e2,aj ⟨e1,e2⟩,oI h2,hz,gr];rfl
   ·rw[aj e1,ah e2,ah (λh=>e2 h.2),lH]
  ·rw[ah e1,ah (λh=>e1 h.1),lH]
def ym(x q:Int):Prop:= ¬((x<0)↔(q<0))
instance(x q:Int):Decidable (ym x q):=by unfold ym;infer_instance
def cX(a q:Int):au→au
 |[]=>[]
 |x::t=>if ¬dy x.1 0∧dy x.2.1 a∧ym (dW x) q then x::cX a q t else cX a q t
theorem jk(a q:Int)(x:dd)(t:au):cX a q (x::t)=if ¬dy x.1 0∧dy x.2.1 a∧ym (dW x) q then x::cX a q t else cX a q t:=rfl
def pq(l:au):List Int:=l.map λx=>x.1
def eQ(l:au):List Int:=l.map λx=>((dW x).natAbs:Int)
theorem jz{a q:Int}{x:dd}: ∀{l:au},x∈cX a q l→x∈l∧ ¬dy x.1 0∧dy x.2.1 a
 |[],h=>nomatch h
 |y::t,h=>by
  rw[jk]at h
  by_cases e: ¬dy y.1 0∧dy y.2.1 a∧ym (dW y) q
  ·rw[aj e]at h
   rcases aX.1 h with rfl|h
   ·exact⟨bp ..,e.1,e.2.1⟩
   ·have:=jz h;exact⟨a8 _ this.1,this.2⟩
  ·rw[ah e]at h
   have:=jz h;exact⟨a8 _ this.1,this.2⟩
theorem I8(a q:Int): ∀l:au,(cX a q l).length≤l.length
 |[]=>aI _
 |x::t=>by
  have:=I8 a q t
  rw[jk,aW]
  split
  ·rw[aW];omega
  ·omega
theorem NG{v q s h o:Int}{P Q R:Prop} [Decidable P] [Decidable Q] [Decidable R](hR:R↔ ¬((v<0)↔(q<0)))(hq:0<q)(hh:h-o≤s):
  (if P∧Q then v else 0)+h-((if ¬P∧Q∧R then(v.natAbs:Int)else 0)+o)≤(if Q then v else 0)+s:=by
 by_cases hQ:Q<;>by_cases hP:P<;>by_cases W5:R<;>simp only[hP,hQ,W5,and_self,ec,and_false,false_and,true_and,not_true,not_false_iff,gH,fa]<;>(rw[Lx]at hR;first|omega|(have h2:=hR.1 W5;omega)|(have h2: ¬ ¬((v<0)↔(q<0)):=λe=>W5 (hR.2 e);omega))
theorem CY{a q:Int}(hq:0<q): ∀l:au,bX 0 a l-(eQ (cX a q l)).sum≤(c9 a l).sum
 |[]=>fx _
 |x::t=>by
  have ih:=CY (a:=a) hq t
  have e1:bX 0 a (x::t)=(if dy x.1 0∧dy x.2.1 a then dW x else 0)+bX 0 a t:=gg 0 a x t
  have e2:(eQ (cX a q (x::t))).sum=(if ¬dy x.1 0∧dy x.2.1 a∧ym (dW x) q then((dW x).natAbs:Int)else 0)+(eQ (cX a q t)).sum:=by
   rw[jk]
   split
   ·show(((dW x).natAbs:Int)::eQ (cX a q t)).sum=_
    rw[cH]
   ·omega
  have e3:(c9 a (x::t)).sum=(if dy x.2.1 a then dW x else 0)+(c9 a t).sum:=by
   rw[dF]
   by_cases h:x.2.1=a
   ·rw[aj h,aj (show dy x.2.1 a from h),cH]
   ·rw[ah h,ah (show ¬dy x.2.1 a from h)];omega
  rw[e1,e2,e3]
  exact NG Iff.rfl hq ih
theorem NH{v q s h o:Int}{P Q R:Prop} [Decidable P] [Decidable Q] [Decidable R](hR:R↔ ¬((v<0)↔(q<0)))(hq:q<0)(hh:s≤h+o):
  (if Q then v else 0)+s≤(if P∧Q then v else 0)+h+((if ¬P∧Q∧R then(v.natAbs:Int)else 0)+o):=by
 by_cases hQ:Q<;>by_cases hP:P<;>by_cases W5:R<;>simp only[hP,hQ,W5,and_self,ec,and_false,false_and,true_and,not_true,not_false_iff,gH,fa]<;>(rw[Lx]at hR;first|omega|(have h2:=hR.1 W5;omega)|(have h2: ¬ ¬((v<0)↔(q<0)):=λe=>W5 (hR.2 e);omega))
theorem CZ{a q:Int}(hq:q<0): ∀l:au,(c9 a l).sum≤bX 0 a l+(eQ (cX a q l)).sum
 |[]=>fx _
 |x::t=>by
  have ih:=CZ (a:=a) hq t
  have e1:bX 0 a (x::t)=(if dy x.1 0∧dy x.2.1 a then dW x else 0)+bX 0 a t:=gg 0 a x t
  have e2:(eQ (cX a q (x::t))).sum=(if ¬dy x.1 0∧dy x.2.1 a∧ym (dW x) q then((dW x).natAbs:Int)else 0)+(eQ (cX a q t)).sum:=by
   rw[jk]
   split
   ·show(((dW x).natAbs:Int)::eQ (cX a q t)).sum=_
    rw[cH]
   ·omega
  have e3:(c9 a (x::t)).sum=(if dy x.2.1 a then dW x else 0)+(c9 a t).sum:=by
   rw[dF]
   by_cases h:x.2.1=a
   ·rw[aj h,aj (show dy x.2.1 a from h),cH]
   ·rw[ah h,ah (show ¬dy x.2.1 a from h)];omega
  rw[e1,e2,e3]
  exact NH Iff.rfl hq ih
theorem Gd{a q:Int}{l:au}(hs:sR (l.map keyOf))(hf:(c9 a l).sum=0)(hq:fB 0 a l=q)(h0:q≠0):(q.natAbs:Int)≤(eQ (cX a q l)).sum:=by
 rw[oI hs]at hq
 by_cases h:0<q
 ·have:=CY (a:=a) h l
  rw[hf,hq]at this;omega
 ·have:=CZ (a:=a) (q:=q) ω l
  rw[hf,hq]at this;omega
theorem W6{t left:Int}{w out:List Int}(f:Full t w w out left)(h:t≤w.sum):left=0:=by
 have c:=f.c
 rcases f.f with e|e
 ·exact e
 ·have YN:w.sum≤out.sum:=xO (by rw[c.l2]) λi hi=>by
   have h1:=e i hi
   have h2:=fE c.pw i
   have h3:=c.po i
   by_cases h4:0<w.getD i 0
   ·have: ¬out.getD i 0<w.getD i 0:=λh5=>h1 ⟨h4,h5⟩
    omega
   ·omega
  have:=c.s
  have:=c.l
  omega
def sg(q x:Int):Int:=if q<0 then 0-x else x
def zc(a q:Int):List (Int×Int)→au
 |[]=>[]
 |p::t=>if sg q p.1=0 then zc a q t else(p.2,(a,(sg q p.1,())))::zc a q t
theorem sU(a q:Int)(p:Int×Int)(t:List (Int×Int)):zc a q (p::t)=if sg q p.1=0 then zc a q t else(p.2,(a,(sg q p.1,())))::zc a q t:=rfl
def fO(l:au)(a q:Int):List Int×Int×Int:=mq (q.natAbs:Int) (eQ (cX a q l)) (eQ (cX a q l))
def W7(l:au)(a q:Int):au:=((0:Int),(a,((0-q:Int),())))::zc a q ((fO l a q).1.zip (pq (cX a q l)))
def cS(c:ag)(b:aq)(a:Int):au×Int:=
 if eu c b then(if a<0 then([],3)else if(c.1.length:Int)≤a then([],3)else if bn b.2.2.2.1 0 a=0 then([],0)else
  if(fO b.2.2.2.1 a (bn b.2.2.2.1 0 a)).2.2=0 then(W7 b.2.2.2.1 a (bn b.2.2.2.1 0 a),0)else([],(fO b.2.2.2.1 a (bn b.2.2.2.1 0 a)).2.2))else([],1)
theorem Ge{t:Int}{w caps:List Int}(si:t<9223372036854775808)(hc:FX caps)(hx:(mq t w caps).2.2=0):Full t w caps (mq t w caps).1 (mq t w caps).2.1:=by
 unfold mq at*
 by_cases h1:t<0∨may w=false∨caps.length≠w.length∨may caps=false
 ·rw[aj h1]at hx;exact absurd hx δ
 ·rw[ah h1]at hx ⊢
  by_cases h2:9223372036854775808≤w.sum
  ·rw[aj h2]at hx;exact absurd hx δ
  ·rw[ah h2]
   have h3:may w=true:=by cases h:may w<;>simp_all
   have h4:may caps=true:=by cases h:may caps<;>simp_all
   have h5:caps.length=w.length:=zn λh=>h1 (Or.inr (Or.inr (Or.inl h)))
   exact NA _ _ _ (BQ ω si h3 h4 h5 hc ω) (Or.inl (by have:=Nz w caps (List.replicate w.length 0);omega))
theorem qD{l:au}(h: ∀x∈l,aH (dW x)∧se (dW x))(a q:Int):FX (eQ (cX a q l)):=λz hz=>by
 obtain⟨x,hx,rfl⟩:=cD.1 hz
 have:=h x (jz hx).1
 have g: ∀v:Int,aH v∧se v→ -9223372036854775808≤(v.natAbs:Int)∧(v.natAbs:Int)<9223372036854775808:=λv hv=>by unfold aH se at hv;omega
 exact g _ this
theorem BR{out accs:List Int}{i:Nat}(h1:i<out.length)(h2:i<accs.length):(out.zip accs).getD i (0,0)=(out.getD i 0,accs.getD i 0):=by
 rw[aR,bl (by rw[lF];omega),List.getElem_zip,aR,bl h1,aR,bl h2];rfl
end VM
end
section
namespace VM
open Go VM.F
end VM
end
section
namespace VM
open Go VM.F
theorem KE{c:ag}{b:aq}(h:eu c b=true): ∀x∈b.2.2.2.1,Kx x.2.1 c.1.length:=λx hx=>by
 have hk:=(dN h).2
 have h0:=(dw hk).2 x hx
 unfold eu at h
 simp only[bP]at h
 have h1:=bF h.2.2.2.2.2.2.2.2.1
 obtain⟨i,hi,e⟩:=fX hx
 have h2:=h1 i hi
 unfold jh at h2
 rw[aR,bl hi]at h2
 simp only[ni,e]at h2
 have g: ∀u v:Int,bU u v→oY v c.1.length→Kx v c.1.length:=λu v h1 h2=>by unfold bU at h1;unfold oY at h2;unfold Kx;omega
 exact g _ _ h0.1 h2.2
end VM
end
section
namespace VM
open Go VM.F
end VM
end
section
namespace VM
open Go VM.F
theorem C0{k:Int}: ∀{i:Nat} {l:aO},nR k i l≠[]→(i:Int)≤(nR k i l).getD 0 0∧(nR k i l).getD 0 0<((i+l.length:Nat):Int)
 |i,[],h=>absurd rfl h
 |i,y::t,h=>by
  rw[AP]at h ⊢
  by_cases e:y.1=k
  ·rw[aj e,aW]
   show(i:Int)≤(i:Int)∧(i:Int)<_
   omega
  ·rw[ah e]at h ⊢
   have:=C0 h
   rw[aW];omega
def asQ(c:ag):Int:=c.2.2.2.2.2.2.1
end VM
end
section
namespace VM
open Go VM.F
end VM
end
section
namespace VM
open Go VM.F
end VM
end
section
namespace VM
open Go VM.F
def zIn(z:Int×Int)(n:Nat):Prop:=0≤z.1∧z.1≤1000000000*(n:Int)∧0≤z.2∧z.2≤1000000000*(n:Int)
theorem zIn.mono{z:Int×Int}{n m:Nat}(h:zIn z n)(hm:n≤m):zIn z m:=by unfold zIn at*;omega
end VM
end
section
namespace VM
open Go VM.F
end VM
end
section
namespace VM
open Go VM.F
end VM
end
section
namespace VM
open Go VM.F
end VM
end
section
namespace VM
open Go VM.F
end VM
end
section
namespace VM
open Go VM.F
def qIn(q:Int):Prop:=1≤q∧q≤1000000000
instance(q:Int):Decidable (qIn q):=by unfold qIn;infer_instance
def AZ(a b c d:Int):Prop:=(1≤a∧a≤1099511627776)∧(0≤b∧b<6)∧(c=1∨c=2)∧qIn d
instance(a b c d:Int):Decidable (AZ a b c d):=by unfold AZ;infer_instance
def Ee(h:cy):Prop:=AZ h.1 h.2.1 h.2.2.1 h.2.2.2.1
instance(h:cy):Decidable (Ee h):=by unfold Ee;infer_instance
theorem xf(N:Nat)(h:cy):aat N h=some (decide (Ee h)):=by
 unfold aat
 rw[oq h.2.2.2.1]
 rw[gM,FE,BE,FD,gM,gM,gM]
 congr 1
 rw[o4,fp]
 unfold Ee AZ qIn
 simp only[bP,nk,qL,we,Ew]
 omega
end VM
end
section
namespace VM
open Go VM.F Go.RowKit
def hR:au:=[((1:Int),((0:Int),((-90:Int),()))),((5:Int),((1:Int),((90:Int),())))]
def hS:au:=[((0:Int),((0:Int),((5:Int),()))),((0:Int),((1:Int),((20:Int),()))),((1:Int),((0:Int),((-5:Int),()))),((1:Int),((1:Int),((-20:Int),())))]
def hB:aq:=([((1:Int),((1:Int),()))],([((1:Int),((1:Int),((1:Int),((50:Int),()))))],(hR,(hS,([(100:Int),(7:Int)],(eh,()))))))
def hO:cy:=((4:Int),((0:Int),((2:Int),((6:Int),()))))
theorem hW:Eb hB:=⟨⟨δ,δ,δ,δ,δ,δ,Kw (l:=hR) δ,Kw (l:=hS) δ⟩,δ,δ⟩
namespace Pure
end Pure
end VM
end
