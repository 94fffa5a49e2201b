/- A part of the proof of HedgeLess of layer 22: what the functions compute, in plain words. -/
import Derived.Test.YtocmlaipoebfeaaGreatPlain4
set_option linter.all false
section
namespace VM
open Go VM.F
theorem Gz(N:Nat)(hN:4000000≤N)(c:ae)(hc:aE (xJ c)){b:an}(w:iM b)(next:Int):vn N c b next=some (ss c b next):=by
 unfold vn vn.b ss
 rw[Lr N hN c w,ar]
 by_cases hB:cY c b=false
 ·rw[hB]
  show cond (!aN 1 0) _ _=_
  rw[dG ω];rfl
 rw[pv]at hB
 rw[hB,ah rfl,ah rfl]
 dsimp only
 rw[iO,bp,av,bN,bN]
 by_cases h1:next<1
 ·rw[ah h1,aj ω]
 rw[aj h1]
 by_cases h2:1099511627772<next
 ·rw[ah h2,aj ω]
 rw[aj h2,ah ω]
 have h0:=T4 hB
 obtain⟨h6,Xq⟩:=pP (g5 hB)
 have key: ∀(m n k:Nat) (out:aO),k+m=4→m<n→out.length≤k→vn.l6 N n next c b out (il (dM c b)) ((il (dM c b)).length:Int) (k:Int)=some (yP c b next m k out,0):=by
  intro m n
  induction n generalizing m with
  |zero=>intro k out _ hn;omega
  |succ n ih=>
   intro k out hk hn ho
   unfold vn.l6 vn.tX
   have hlen:(il (dM c b)).length=4:=rfl
   rw[hlen]
   match m,hk,hn with
   |0,hk,hn=>rw[aP ω,av];rfl
   |m+1,hk,hn=>
    obtain⟨hv,hva⟩:=OA w hB (k:Int)
    have hvn:dM c b (k:Int)≠ -170141183460469231731687303715884105728:=ω
    have qa:=J8 (dM c b) (k:=(k:Int)) ω
    have ih':=λxE ho'=>ih m (k+1) xE ω ω ho'
    rw[hlen]at ih'
    unfold aE xJ at hc
    rw[aQ ω,ak,aS ω ω,ak,qa,LO N hv hvn,ar,qm N hc.1 hc.2,ar,Bf,ar,cn,aw (x:=(k:Int)+1) ω ω,af k,yq]
    have hs:p5 (((dM c b (k:Int)).natAbs:Int)-c.2.2.2.2.2.2.1)≤0↔((dM c b (k:Int)).natAbs:Int)≤xJ c:=by
     unfold xJ p5;split<;>(try split)<;>omega
    by_cases h3:((dM c b (k:Int)).natAbs:Int)≤xJ c
    ·rw[ah (hs.2 h3),ah h3]
     exact ih' out ω
    ·obtain⟨iI,lj,hp⟩:=T6 w hB h3 h0
     have hl0:0<(cj c (k:Int)).length:=o7.2 iI
     have hd:=T8 hva hp
     have D2:=hp
     unfold cC at D2
     rw[aj (λh=>h3 (hs.1 h)),aj h3,Wa N ω c ω,ar,aS (i:=0) ω ω,ak,show(0:Int).toNat=0 from rfl,lj,ak,acr N ω ω ω ω ω,ar,Bm N hd.2,ar]
     have fin: ∀q:Int,q=(lS c b (k:Int)).2.2→vn.ze N (vn.l6 N n) next c b out (bS (dM c b (k:Int))) ((cj c (k:Int)).getD 0 0) q (il (dM c b)) ((4:Nat):Int) (k:Int)=some (if(lS c b (k:Int)).2.2=0 then yP c b next m (k+1) out else yP c b next m (k+1) (out++[(next+(out.length:Int),((lS c b (k:Int)).1,((lS c b (k:Int)).2.1,((lS c b (k:Int)).2.2,()))))]),0):=λq e=>by
      subst e
      unfold vn.ze vn.s0
      have TN:0<p5 (dM c b (k:Int))↔0<dM c b (k:Int):=by unfold p5;split<;>(try split)<;>omega
      rw[aI,aw (x:=(k:Int)+1) ω ω,af k,so,ar,aw (x:=next+(out.length:Int)) ω ω,bN]
      by_cases h4:(lS c b (k:Int)).2.2=0
      ·rw[ah h4,ah h4];exact ih' out ω
      ·rw[aj h4,aj h4]
       rw[bP (by rw[aK];omega),ak,bP (by rw[aK];omega),ak]
       by_cases h5:0<dM c b (k:Int)
       ·rw[ah (TN.2 h5)]
        have e2:(lS c b (k:Int)).2.1=2:=by unfold lS;exact ah h5
        rw[e2]
        exact ih' _ (by rw[aM,aK];omega)
       ·rw[aj (λh=>h5 (TN.1 h))]
        have e2:(lS c b (k:Int)).2.1=1:=by unfold lS;exact aj h5
        rw[e2]
        exact ih' _ (by rw[aM,aK];omega)
     have hq: ∀d:Int,d=((dM c b (k:Int)).natAbs:Int)/(b.2.2.2.2.1.getD ((cj c (k:Int)).getD 0 0).toNat 0)→(lS c b (k:Int)).2.2=if d≤1000000000 then d else 1000000000:=λd e=>by subst e;rfl
     have lC:=hq _ rfl
     generalize ((dM c b (k:Int)).natAbs:Int)/(b.2.2.2.2.1.getD ((cj c (k:Int)).getD 0 0).toNat 0)=d at*
     by_cases h6:aE d
     ·rw[vS h6]
      dsimp only
      rw[bp,av,bN]
      by_cases h7:1000000000<d
      ·rw[ah h7];exact fin _ (by rw[lC,aj ω])
      ·rw[aj h7];exact fin _ (by rw[lC,ah ω])
     ·rw[yt h6]
      dsimp only
      rw[cX,ak]
      exact fin _ (by rw[lC,aj (by unfold aE at h6;omega)])
 exact key 4 N 0 [] ω ω (aH _)
end VM
end
section
namespace VM
open Go VM.F
end VM
end
section
namespace VM
open Go VM.F
def pU(x:c7)(z:Int×Int):Int×Int:=if x.2.2.2.1=1 then(z.1+x.2.2.2.2.1,z.2)else(z.1,z.2+x.2.2.2.2.1)
def bsL(a k:Int):bm→Int×Int→Int×Int
 |[],z=>z
 |x::t,z=>bsL a k t (if x.2.1=a∧x.2.2.1=k then pU x z else z)
theorem BB(a k:Int)(x:c7)(t:bm)(z:Int×Int):bsL a k (x::t) z=bsL a k t (if x.2.1=a∧x.2.2.1=k then pU x z else z):=rfl
theorem O8(a k:Int)(o:c7): ∀(l:bm) (z:Int×Int),bsL a k (l++[o]) z=if o.2.1=a∧o.2.2.1=k then pU o (bsL a k l z)else bsL a k l z
 |[],z=>rfl
 |x::t,z=>by rw[kK,BB,BB];exact O8 a k o t _
def nz(i:Int)(z:Int×Int):cK:=(i,(z.1,(z.2,())))
def O9(f:Int→Int×Int):Nat→Nat→au
 |0,_=>[]
 |m+1,k=>if 0<(f (k:Int)).1+(f (k:Int)).2 then nz (k:Int) (f (k:Int))::O9 f m (k+1)else O9 f m (k+1)
theorem lT(f:Int→Int×Int)(m k:Nat):O9 f (m+1) k=if 0<(f (k:Int)).1+(f (k:Int)).2 then nz (k:Int) (f (k:Int))::O9 f m (k+1)else O9 f m (k+1):=rfl
def Wk(l:bm)(a k:Int):Int×Int:=bsL a k l (0,0)
def wg(l:bm)(a:Int):au:=O9 (Wk l a) 6 0
theorem LP(f:Int→Int×Int): ∀m k,(O9 f m k).length≤m
 |0,_=>aH _
 |m+1,k=>by
  rw[lT]
  have:=LP f m (k+1)
  split
  ·rw[aR];omega
  ·omega
theorem Zn(f:Int→Int×Int): ∀m k,∀x∈O9 f m k,(k:Int)≤x.1
 |0,_,x,hx=>nomatch hx
 |m+1,k,x,hx=>by
  rw[lT]at hx
  have ih:=Zn f m (k+1) x
  split at hx
  ·rcases aZ.1 hx with rfl|hx
   ·exact dP _
   ·have:=ih hx;omega
  ·have:=ih hx;omega
theorem CA{f g:Int→Int×Int}: ∀m k,(∀j:Nat,k≤j→f (j:Int)=g (j:Int))→O9 f m k=O9 g m k
 |0,_,_=>rfl
 |m+1,k,h=>by rw[lT,lT,h k (aH _),CA m (k+1) (λj hj=>h j ω)]
def Sy(l:bm):Prop:= ∀x∈l,1≤x.2.2.2.2.1∧x.2.2.2.2.1≤1000000000
theorem Us{l:bm}(h:Sy l){i:Nat}(hi:i<l.length):1≤(l.getD i eT).2.2.2.2.1∧(l.getD i eT).2.2.2.2.1≤1000000000:=h _ (by
 rw[aU,bg hi];exact dx hi)
def E0(z:Int×Int)(n:Nat):Prop:=0≤z.1∧z.1≤1000000000*(n:Int)∧0≤z.2∧z.2≤1000000000*(n:Int)
theorem Ut{x:c7}{z:Int×Int}{n:Nat}(hq:1≤x.2.2.2.2.1∧x.2.2.2.2.1≤1000000000)(h:E0 z n):E0 (pU x z) (n+1):=by
 have g: ∀q:Int,1≤q∧q≤1000000000→E0 (z.1+q,z.2) (n+1)∧E0 (z.1,z.2+q) (n+1):=λq hq=>by unfold E0 at*;dsimp only;omega
 have gx:=g _ hq
 unfold pU
 split
 ·exact gx.1
 ·exact gx.2
theorem E0.mono{z:Int×Int}{n m:Nat}(h:E0 z n)(hm:n≤m):E0 z m:=by unfold E0 at*;omega
theorem Zo{a k:Int}: ∀{l:bm} {z:Int×Int} {n:Nat},Sy l→E0 z n→E0 (bsL a k l z) (n+l.length)
 |[],z,n,_,h=>h
 |x::t,z,n,hq,h=>by
  have hx:=hq x (bh ..)
  rw[BB,aR,show n+(t.length+1)=n+1+t.length by omega]
  refine Zo (λy hy=>hq y (a7 _ hy)) ?_
  split
  ·exact Ut hx h
  ·exact E0.mono h ω
theorem LR{l:bm}(h:Sy l)(a k:Int):E0 (Wk l a k) l.length:=by
 have:=Zo (a:=a) (k:=k) (z:=(0,0)) (n:=0) h (by unfold E0;dsimp only;omega)
 rw[fT]at this;exact this
theorem Pb{l:bm}(h:dv l=true):Sy l∧l.length≤32:=by
 unfold dv at h
 rw[bB]at h
 refine⟨λx hx=> ?_,bA h.2⟩
 obtain⟨i,hi,e⟩:=gd hx
 have:=bA h.1 i hi
 unfold tA at this
 have h1:=this.1
 rw[aU,bg hi,ng,e]at h1
 unfold jb at h1
 exact h1.2.2.2.2.1
def oI(o:c7):Int:=o.2.2.1
def oQ(o:c7):Int:=o.2.2.2.2.1
def oK(x:cK):Int:=x.1
def BC(o:c7):au→au
 |[]=>[nz (oI o) (pU o (0,0))]
 |x::t=>if oK x<oI o then x::BC o t else if oK x=oI o then nz (oK x) (pU o (x.2.1,x.2.2.1))::t else nz (oI o) (pU o (0,0))::x::t
theorem sC(o:c7)(x:cK)(t:au):BC o (x::t)=if oK x<oI o then x::BC o t else if oK x=oI o then nz (oK x) (pU o (x.2.1,x.2.2.1))::t else nz (oI o) (pU o (0,0))::x::t:=rfl
theorem Zp(o:c7){l:au}(h: ∀x∈l,oI o<oK x):BC o l=nz (oI o) (pU o (0,0))::l:=by
 match l,h with
 |[],_=>rfl
 |x::t,h=>
  have:=h x (bh ..)
  rw[sC,aj (Int.lt_asymm this),aj (λe=>Int.lt_irrefl _ (e▸this))]
def Pd(o:c7)(f:Int→Int×Int)(k:Int):Int×Int:=if k=oI o then pU o (f k)else f k
theorem Zq(o:c7)(z:Int×Int):(pU o z).1+(pU o z).2=z.1+z.2+oQ o:=by
 unfold pU
 have: ∀a b q:Int,a+q+b=a+b+q∧a+(b+q)=a+b+q:=λa b q=>ω
 split
 ·exact(this _ _ _).1
 ·exact(this _ _ _).2
theorem J9(o:c7){f:Int→Int×Int}(hf: ∀k,0≤(f k).1∧0≤(f k).2)(hq:1≤oQ o): ∀m k:Nat,(k:Int)≤oI o→oI o<((k+m:Nat):Int)→BC o (O9 f m k)=O9 (Pd o f) m k
 |0,k,h1,h2=>ω
 |m+1,k,h1,h2=>by
  have hk:=hf (k:Int)
  by_cases e:(k:Int)=oI o
  ·have hu:Pd o f (k:Int)=pU o (f (k:Int)):=by unfold Pd;rw[ah e]
   have hs:=Zq o (f (k:Int))
   have hc:O9 f m (k+1)=O9 (Pd o f) m (k+1):=CA m (k+1) λj hj=>by unfold Pd;rw[aj ω]
   rw[lT,lT,hu,ah (show 0<(pU o (f (k:Int))).1+(pU o (f (k:Int))).2 by omega),←hc]
   by_cases h0:0<(f (k:Int)).1+(f (k:Int)).2
   ·rw[ah h0,sC,aj (show ¬oK (nz (k:Int) (f (k:Int)))<oI o from by show ¬(k:Int)<oI o;omega),ah (show oK (nz (k:Int) (f (k:Int)))=oI o from e)]
    rfl
   ·have hz:f (k:Int)=(0,0):=gR ω ω
    rw[aj h0,hz,Zp o (λx hx=>by have:((k+1:Nat):Int)≤oK x:=Zn f m (k+1) x hx;omega),e]
  ·have hu:Pd o f (k:Int)=f (k:Int):=by unfold Pd;rw[aj e]
   have ih:=J9 o hf hq m (k+1) ω ω
   rw[lT,lT,hu]
   by_cases h0:0<(f (k:Int)).1+(f (k:Int)).2
   ·rw[ah h0,ah h0,sC,ah (show oK (nz (k:Int) (f (k:Int)))<oI o from by show(k:Int)<oI o;omega),ih]
   ·rw[aj h0,aj h0,ih]
theorem Pe{l:bm}(h:Sy l){o:c7}(ho:jb o):BC o (wg l o.2.1)=wg (l++[o]) o.2.1:=by
 unfold jb at ho
 unfold wg
 rw[J9 o (λk=>by have:=LR h o.2.1 k;unfold E0 at this;omega) ho.2.2.2.2.1.1 6 0 ho.2.2.1.1 (Int.lt_of_lt_of_le ho.2.2.1.2 δ)]
 refine CA 6 0 λj _=> ?_
 unfold Pd Wk
 rw[O8]
 by_cases e:oI o=(j:Int)
 ·rw[ah e.symm];exact(ah ⟨rfl,e⟩).symm
 ·rw[aj (λh=>e h.symm)];exact(aj λh=>e h.2).symm
def cutAt(a:Int):au→Nat
 |[]=>0
 |x::t=>if oK x<a then cutAt a t+1 else 0
theorem oV(a:Int)(x:cK)(t:au):cutAt a (x::t)=if oK x<a then cutAt a t+1 else 0:=rfl
theorem Hd(a:Int): ∀l:au,cutAt a l≤l.length
 |[]=>aH _
 |x::t=>by
  rw[oV,aR]
  have:=Hd a t
  split<;>omega
def atO(o:c7)(x:cK):cK:=nz (oK x) (pU o (x.2.1,x.2.2.1))
theorem CB(o:c7): ∀l:au,(cutAt (oI o) l=l.length∨ ¬oK (l.getD (cutAt (oI o) l) a6)=oI o)→BC o l=l.take (cutAt (oI o) l)++nz (oI o) (pU o (0,0))::l.drop (cutAt (oI o) l)
 |[],_=>rfl
 |x::t,h=>by
  rw[oV]at h ⊢
  rw[sC]
  by_cases h1:oK x<oI o
  ·rw[ah h1]at h ⊢
   rw[ah h1,CB o t (by
    rw[aR,Ad]at h
    rcases h with h|h
    ·exact .inl ω
    ·exact .inr h)];rfl
  ·rw[aj h1]at h ⊢
   have h2: ¬oK x=oI o:=by
    rcases h with h|h
    ·rw[aR]at h;omega
    ·exact h
   rw[aj h1,aj h2];rfl
theorem Ka(o:c7): ∀l:au,cutAt (oI o) l<l.length→oK (l.getD (cutAt (oI o) l) a6)=oI o→BC o l=l.set (cutAt (oI o) l) (atO o (l.getD (cutAt (oI o) l) a6))
 |[],h,_=>by exact absurd h (Ap 0)
 |x::t,h,h'=>by
  rw[oV]at h h'
  rw[sC,oV]
  by_cases h1:oK x<oI o
  ·rw[ah h1]at h h'
   rw[ah h1,ah h1]
   rw[aR]at h
   rw[Ad]at h'
   rw[Ad,Ka o t ω h'];rfl
  ·rw[aj h1]at h'
   rw[aj h1,aj h1,ah (show oK x=oI o from h')];rfl
end VM
end
section
namespace VM
open Go VM.F
theorem akD{x:c7}{z:Int×Int}{n:Nat}(hn:n≤1000)(hq:1≤x.2.2.2.2.1∧x.2.2.2.2.1≤1000000000)(hz:E0 z n)(k:Int):
  (x.2.2.2.1=1→((k,(W .i64 (z.1+x.2.2.2.2.1),(z.2,()))):cK)=nz k (pU x z))∧(¬x.2.2.2.1=1→((k,(z.1,(W .i64 (z.2+x.2.2.2.2.1),()))):cK)=nz k (pU x z)):=by
 have g: ∀q:Int,1≤q∧q≤1000000000→W .i64 (z.1+q)=z.1+q∧W .i64 (z.2+q)=z.2+q:=λq hq=>by
  unfold E0 at hz
  exact⟨aw ω ω,aw ω ω⟩
 have gx:=g _ hq
 unfold pU nz
 exact⟨λh=>by rw[gx.1,ah h],λh=>by rw[gx.2,aj h]⟩
theorem Pf(N:Nat){F:cK→Option au}{G:Nat→cK→Int→Option au}(l:bm)(a k:Int)(hq:Sy l)(hl:l.length≤1000)(hN:l.length<N)
  (hs: ∀n i z r,i<l.length→E0 z i→G n (nz k (if(l.getD i eT).2.1=a∧(l.getD i eT).2.2.1=k then pU (l.getD i eT) z else z)) ((i+1:Nat):Int)=r→G (n+1) (nz k z) (i:Int)=r)
  (he: ∀n z,E0 z l.length→G (n+1) (nz k z) (l.length:Int)=F (nz k z)):G N (nz k (0,0)) 0=F (nz k (Wk l a k)):=by
 have:=oF l eT (λn i (z:Int×Int)=>G n (nz k z) i) (λt z=>F (nz k (bsL a k t z))) (λi z=>E0 z i) (λn i z hi hz hr=> ?_) (λn z hz=>he n z hz) l.length N 0 (0,0) ω hN ω (by unfold E0;decide)
 ·exact this
 ·rw[BB]
  refine hs n i z _ hi hz (hr _ ?_)
  split
  ·exact Ut (Us hq hi) hz
  ·exact E0.mono hz ω
theorem DO{F:Nat→au→Int→Option au}(f:Int→Int×Int)
  (hs: ∀(n k:Nat) (out:au) (r:Option au),k<6→out.length≤k→F n (if 0<(f (k:Int)).1+(f (k:Int)).2 then out++[nz (k:Int) (f (k:Int))]else out) ((k+1:Nat):Int)=r→F (n+1) out (k:Int)=r)
  (he: ∀n out,F (n+1) out 6=some out): ∀(m n k:Nat) (out:au),k+m=6→m<n→out.length≤k→F n out (k:Int)=some (out++O9 f m k)
 |_,0,_,_,_,hn,_=>ω
 |0,n+1,k,out,hk,_,_=>by
  have:k=6:=ω
  subst this
  rw[show O9 f 0 6=[]from rfl,cH]
  exact he n out
 |m+1,n+1,k,out,hk,hn,ho=>by
  refine hs n k out _ ω ho ?_
  rw[DO f hs he m n (k+1) _ ω ω (by
   split
   ·rw[aM,aK];omega
   ·omega),lT]
  split
  ·rw[bH];rfl
  ·rfl
theorem Zr(N:Nat)(hN:200000≤N){l:bm}(hl:l.length≤100000)(a:Int):gw N l a=some (if dv l then wg l a else []):=by
 unfold gw gw.b
 rw[Jx N hl hN,ar]
 by_cases h:dv l=false
 ·rw[h];rfl
 rw[pv]at h
 rw[h,bp,av,ah rfl]
 obtain⟨hq,h32⟩:=Pb h
 refine DO (F:=λn out k=>gw.l5 N n l a out k) (Wk l a) (λn k out r hk ho hr=> ?_) (λn out=> ?_) 6 N 0 [] ω ω (aH _)
 ·unfold gw.l5 gw.eA
  rw[aQ ω,ak]
  refine(Pf N (G:=λn' x i=>gw.l9 N (gw.l5 N n) n' l a out (k:Int) x (k:Int) l (l.length:Int) i) (F:=λx=>cond (aT 0 (W .i64 (x.2.1+x.2.2.1))) (cond (small (out.length+[x].length)) (gw.l5 N n l a (out++[x]) (W .i64 ((k:Int)+1))) none) (gw.l5 N n l a out (W .i64 ((k:Int)+1)))) l a (k:Int) hq ω ω (λn' i z r' hi hz eF=> ?_) (λn' z hz=> ?_)).trans ?_
  ·unfold gw.l9 gw.xG
   rw[aQ ω,ak,aS ω ω,ak,aG,cond_not,aI,cond_not,aI,aI,aw (x:=(i:Int)+1) ω ω,af i]
   have hw:=akD (n:=i) ω (Us hq hi) hz (k:Int)
   by_cases h1:(l.getD i eT).2.1=a
   ·rw[ah h1]
    by_cases h2:(l.getD i eT).2.2.1=(k:Int)
    ·rw[ah ⟨h1,h2⟩]at eF
     rw[ah h2]
     by_cases h3:(l.getD i eT).2.2.2.1=1
     ·rw[ah h3,←eF,←hw.1 h3];rfl
     ·rw[aj h3,←eF,←hw.2 h3];rfl
    ·rw[aj (λh=>h2 h.2)]at eF
     rw[aj h2];exact eF
   ·rw[aj (λh=>h1 h.1)]at eF
    rw[aj h1];exact eF
  ·unfold gw.l9 gw.xG
   rw[aP ω,av]
  ·have hz:=LR hq a (k:Int)
   unfold E0 at hz
   show cond (aT 0 (W .i64 ((Wk l a (k:Int)).1+(Wk l a (k:Int)).2))) _ _=r
   rw[aw (x:=(Wk l a (k:Int)).1+(Wk l a (k:Int)).2) ω ω,bN,bP (by rw[aK];omega),ak,aw (x:=(k:Int)+1) ω ω,af k,←hr]
   split<;>rfl
 ·unfold gw.l5 gw.eA
  rw[aP ω,av]
theorem Zs(a:Int): ∀(l:au) (i:Nat),i<cutAt a l→oK (l.getD i a6)<a
 |[],i,h=>absurd h (FC i)
 |x::t,i,h=>by
  rw[oV]at h
  by_cases h1:oK x<a
  ·rw[ah h1]at h
   match i with
   |0=>exact h1
   |i+1=>exact Zs a t i ω
  ·rw[aj h1]at h;exact absurd h (FC i)
theorem Uu(a:Int): ∀l:au,cutAt a l<l.length→ ¬oK (l.getD (cutAt a l) a6)<a
 |[],h=>absurd h (FC _)
 |x::t,h=>by
  rw[oV]at h ⊢
  by_cases h1:oK x<a
  ·rw[ah h1]at h ⊢
   rw[aR]at h
   exact Uu a t ω
  ·rw[aj h1];exact h1
theorem Kb(N:Nat)(o:c7)(l:au)(hl:l.length≤100000): ∀m n i,cutAt (oI o) l-i≤m→m<n→i≤cutAt (oI o) l→gM.l2 N n l o (i:Int)=gM.j4 N l o (cutAt (oI o) l:Int)
 |m,0,i,_,hn,_=>ω
 |m,n+1,i,hm,hn,hi=>by
  have hle:=Hd (oI o) l
  unfold gM.l2 gM.fy
  rw[bN,bN,aw (x:=(i:Int)+1) ω ω,af i,aG]
  by_cases h:i<cutAt (oI o) l
  ·rw[ah ω,aS ω ω,ak]
   exact(ah (Zs (oI o) l i h)).trans (Kb N o l hl (m-1) n (i+1) ω ω ω)
  ·have e:i=cutAt (oI o) l:=ω
   rw[←e]
   by_cases h2:(i:Int)<(l.length:Int)
   ·rw[ah h2,aS ω ω,ak]
    have:=Uu (oI o) l ω
    rw[←e]at this
    exact aj this
   ·rw[aj h2]
theorem Zt{α:Type}(a b:List α)(x y:α):(a++x::b).set a.length y=a++y::b:=by
 rw[Fj _ _ (aH _),lG];rfl
theorem Wl{α:Type}(a b:List α)(x d:α):(a++x::b).getD a.length d=x:=by
 rw[aU,lY (aH _),lG];rfl
def MN(z:Int×Int):Prop:=0≤z.1∧z.1≤33000000000∧0≤z.2∧z.2≤33000000000
theorem ac3{o:c7}(hq:1≤oQ o∧oQ o≤1000000000){x:cK}(hz:MN (x.2.1,x.2.2.1)):
  (o.2.2.2.1=1→((x.1,(W .i64 (x.2.1+o.2.2.2.2.1),x.2.2)):cK)=atO o x)∧(¬o.2.2.2.1=1→((x.1,(x.2.1,(W .i64 (x.2.2.1+o.2.2.2.2.1),x.2.2.2))):cK)=atO o x):=by
 have g: ∀a b q:Int,MN (a,b)→1≤q∧q≤1000000000→W .i64 (a+q)=a+q∧W .i64 (b+q)=b+q:=λa b q hz hq=>by
  unfold MN at hz
  dsimp only at hz
  exact⟨aw ω ω,aw ω ω⟩
 have gx:=g _ _ _ hz hq
 unfold oQ at gx
 unfold atO pU nz oK
 exact⟨λh=>by rw[gx.1,ah h],λh=>by rw[gx.2,aj h]⟩
theorem Uv(N:Nat){o:c7}(hq:1≤oQ o∧oQ o≤1000000000){l:au}{i:Nat}(hi:i<l.length)(hl:l.length≤100000)(hz:MN ((l.getD i a6).2.1,(l.getD i a6).2.2.1)):gM.j6 N l o (i:Int)=some (l.set i (atO o (l.getD i a6))):=by
 unfold gM.j6 gM.Oe
 have h:=ac3 hq hz
 rw[aS ω ω,ak,ak,ak,ak,aG,aI]
 by_cases h3:o.2.2.2.1=1
 ·rw[ah h3,←h.1 h3]
 ·rw[aj h3,←h.2 h3]
theorem Pg(N:Nat){o:c7}(hq:1≤oQ o∧oQ o≤1000000000){l:au}{i:Nat}(hi:i≤l.length)(hl:l.length≤1000):
  ((kM N l (i:Int) ([(o.2.2.1,cv)]:au)).bind λr4=>gM.j6 N r4 o (i:Int))=some (l.take i++nz (oI o) (pU o (0,0))::l.drop i):=by
 unfold kM
 rw[ah ⟨ω,ω,rfl,by unfold zP;omega⟩,ar,aG]
 have ht:(l.take i).length=i:=by rw[cc];omega
 have hg: ∀d:cK,(l.take i++d::l.drop i).getD i a6=d:=λd=>by
  have:=Wl (l.take i) (l.drop i) d a6
  rw[ht]at this;exact this
 have hs: ∀d y:cK,(l.take i++d::l.drop i).set i y=l.take i++y::l.drop i:=λd y=>by
  have:=Zt (l.take i) (l.drop i) d y
  rw[ht]at this;exact this
 have hn:(l.take i++(((oI o,cv):cK)::l.drop i)).length=l.length+1:=by rw[aM,aR,cc,dC];omega
 have:=Uv N hq (l:=l.take i++(((oI o,cv):cK)::l.drop i)) (i:=i) ω ω (by rw[hg];exact⟨dP _,(by decide:(0:Int)≤33000000000),dP _,(by decide:(0:Int)≤33000000000)⟩)
 rw[hg,hs]at this
 exact this
theorem ac4(N:Nat)(hN:200000≤N){o:c7}(hq:1≤oQ o∧oQ o≤1000000000){l:au}(hl:l.length≤1000)(hz: ∀x∈l,MN (x.2.1,x.2.2.1)):gM N l o=some (BC o l):=by
 unfold gM gM.b
 have hle:=Hd (oI o) l
 refine(Kb N o l ω (cutAt (oI o) l) N 0 ω ω ω).trans ?_
 unfold gM.j4 gM.j4b
 rw[aI,cond_not,aI,aG]
 by_cases h:cutAt (oI o) l=l.length
 ·rw[ah ω,Pg N hq hle hl,CB o l (.inl h)]
 ·rw[aj ω,aS ω ω,ak]
  by_cases h2:oK (l.getD (cutAt (oI o) l) a6)=oI o
  ·rw[Ka o l ω h2]
   refine(ah h2).trans (Uv N hq ω ω (hz _ ?_))
   rw[aU,bg ω];exact dx _
  ·rw[CB o l (.inr h2)]
   exact(aj h2).trans (Pg N hq hle hl)
end VM
end
section
namespace VM
open Go VM.F
def E1(a b s n:Int)(i:Nat)(p:Int):Prop:=0≤a∧a<n∧0≤b∧b≤33000000000∧0≤s∧s≤33000000000∧(b=0→s≠0)∧(0<i→p<a)
instance(a b s n:Int)(i:Nat)(p:Int):Decidable (E1 a b s n i p):=by unfold E1;infer_instance
def zJ(c:ae)(l:au)(i:Nat):Prop:=E1 (l.getD i a6).1 (l.getD i a6).2.1 (l.getD i a6).2.2.1 c.1.length i (l.getD (i-1) a6).1
instance(c:ae)(l:au):DecidablePred (zJ c l):=λi=>by unfold zJ;infer_instance
def jU(c:ae)(l:au):Bool:=decide (∀j,j<l.length→zJ c l j)&&eo c
def Kc(k:Int):aD→Int→Int
 |[],z=>z
 |x::t,z=>Kc k t (if x.1=k then x.2.1 else z)
theorem He(k:Int)(x:Cm)(t:aD)(z:Int):Kc k (x::t) z=Kc k t (if x.1=k then x.2.1 else z):=rfl
def DP(k:Int):au→Int×Int→Int×Int
 |[],z=>z
 |x::t,z=>DP k t (if x.1=k then(x.2.1,x.2.2.1)else z)
theorem Hf(k:Int)(x:cK)(t:au)(z:Int×Int):DP k (x::t) z=DP k t (if x.1=k then(x.2.1,x.2.2.1)else z):=rfl
theorem Ph(k:Int): ∀{l:aD} {z:Int},(∀y∈l,aE y.2.1)→aE z→aE (Kc k l z)
 |[],z,_,h=>h
 |x::t,z,hl,h=>by
  rw[He]
  refine Ph k (λy hy=>hl y (a7 _ hy)) ?_
  split
  ·exact hl x (bh ..)
  ·exact h
theorem Pj(k:Int): ∀{l:au} {z:Int×Int},(∀x∈l,MN (x.2.1,x.2.2.1))→MN z→MN (DP k l z)
 |[],z,_,h=>h
 |x::t,z,hl,h=>by
  rw[Hf]
  refine Pj k (λy hy=>hl y (a7 _ hy)) ?_
  split
  ·exact hl x (bh ..)
  ·exact h
theorem Uw{c:ae}{l:au}(h:jU c l=true): ∀x∈l,MN (x.2.1,x.2.2.1):=λx hx=>by
 unfold jU at h
 rw[bB]at h
 obtain⟨i,hi,e⟩:=gd hx
 have h1:=bA h.1 i hi
 unfold zJ at h1
 rw[aU,bg hi,ng,e]at h1
 unfold E1 at h1
 exact⟨h1.2.2.1,h1.2.2.2.1,h1.2.2.2.2.1,h1.2.2.2.2.2.1⟩
def LS(q:Int)(z:Int×Int):Int:=if((q+z.1).natAbs:Int)<((q-z.2).natAbs:Int)then((q-z.2).natAbs:Int)else((q+z.1).natAbs:Int)
theorem Zu{q:Int}{z:Int×Int}(hq:aE q)(hz:MN z):0≤LS q z∧LS q z≤9223372069854775808:=by
 unfold LS MN aE at*
 split<;>omega
def BD(l:aD)(o:au)(k:Int):Int:=LS (Kc k l 0) (DP k o (0,0))
def xU(c:ae)(l:aD)(o:au)(k:Int):Int×Int:=
 if oM c l&&jU c o then(if 0≤k∧k<(c.1.length:Int)then(BD l o k,0)else(0,3))else(0,1)
theorem BE{c:ae}{l:aD}{o:au}(ho:jU c o=true)(nP: ∀y∈l,aE y.2.1)(k:Int):0≤BD l o k∧BD l o k≤9223372069854775808:=
 Zu (Ph k nP (show aE 0 by unfold aE;omega)) (Pj k (Uw ho) (by unfold MN;decide))
def oW(c:ae)(i:Nat):Int:=(c.1.getD i aW).2.2.1
theorem LV{c:ae}(h:eo c=true){i:Nat}(hi:i<c.1.length):0≤oW c i∧oW c i≤1000000000:=by
 unfold eo at h
 simp only[bB]at h
 have:=bA h.2.1 i hi
 unfold qn nK at this
 exact this.2.2.1
def qV(c:ae)(l:aD)(o:au):Nat→Int
 |0=>0
 |n+1=>qV c l o n+BD l o (n:Int)*oW c n
def wh(c:ae)(l:aD)(o:au):Nat→List Int
 |0=>[]
 |n+1=>wh c l o n++[BD l o (n:Int)*oW c n]
theorem Hg(c:ae)(l:aD)(o:au): ∀n,(wh c l o n).sum=qV c l o n
 |0=>rfl
 |n+1=>by
  show(wh c l o n++[BD l o (n:Int)*oW c n]).sum=qV c l o n+BD l o (n:Int)*oW c n
  rw[nh,Hg c l o n,cB,iF,iG]
theorem zK(c:ae)(l:aD)(o:au): ∀n,(wh c l o n).length=n
 |0=>rfl
 |n+1=>by
  show(wh c l o n++[BD l o (n:Int)*oW c n]).length=n+1
  rw[aM,zK c l o n];rfl
def qW(c:ae)(l:aD)(o:au):Int×Int:=
 if oM c l&&jU c o then(qV c l o c.1.length,0)else(0,1)
theorem LW{a b:Int}(ha:0≤a∧a≤9223372069854775808)(hb:0≤b∧b≤1000000000):0≤a*b∧a*b≤9223372069854775808000000000:=
 ⟨ka ha.1 hb.1,fU (Int.mul_le_mul ha.2 hb.2 hb.1 δ) δ⟩
theorem CC{c:ae}{l:aD}{o:au}(hp:eo c=true)(ho:jU c o=true)(nP: ∀y∈l,aE y.2.1): ∀n,n≤c.1.length→0≤qV c l o n∧qV c l o n≤9223372069854775808000000000*(n:Int)
 |0,_=>⟨dP _,dP _⟩
 |n+1,hn=>by
  have ih:=CC hp ho nP n ω
  have h1:=LW (BE ho nP (n:Int)) (LV hp (i:=n) ω)
  show 0≤qV c l o n+BD l o (n:Int)*oW c n∧qV c l o n+BD l o (n:Int)*oW c n≤_
  omega
theorem oX{c:ae}{l:au}(h:jU c l=true):eo c=true:=by
 unfold jU at h
 rw[bB]at h;exact h.2
theorem Pk{c:ae}(h:eo c=true):c.1.length≤6:=by
 unfold eo at h
 simp only[bB]at h
 exact(bA h.1).2
theorem Pl(c:ae){l:aD}(o:au)(nP: ∀y∈l,aE y.2.1):0≤(qW c l o).1∧(qW c l o).1≤60000000000000000000000000000:=by
 unfold qW
 by_cases h:(oM c l&&jU c o)=true
 ·rw[ah h]
  rw[bB]at h
  have:=CC (oX h.2) h.2 nP c.1.length (aH _)
  have h6:=Pk (oX h.2)
  dsimp only
  omega
 ·rw[aj h];decide
theorem Wm(c:ae){l:aD}(o:au)(nP: ∀y∈l,aE y.2.1)(k:Int):0≤(xU c l o k).1∧(xU c l o k).1≤9223372069854775808:=by
 unfold xU
 by_cases h:(oM c l&&jU c o)=true
 ·rw[ah h]
  rw[bB]at h
  split
  ·exact BE h.2 nP k
  ·decide
 ·rw[aj h];decide
theorem aqc{P:Prop} [Decidable P]{a b s n p:Int}{r:Option Bool}(h:P↔0≤a∧a<n∧0≤b∧b≤33000000000∧0≤s∧s≤33000000000∧(b=0→s≠0)∧p<a):
  (if a<0 then some false else if n≤a then some false else if b<0 then some false else if 33000000000<b then some false else if s<0 then some false else if 33000000000<s then some false else
   if b=0 then(if s=0 then some false else if a≤p then some false else r)else if a≤p then some false else r)=if P then r else some false:=by
 by_cases hP:P
 ·have:=h.1 hP
  rw[ah hP,aj ω,aj ω,aj ω,aj ω,aj ω,aj ω]
  split
  ·rw[aj ω,aj ω]
  ·rw[aj ω]
 ·rw[aj hP]
  have h2:=λh1 h2 h3 h4 h5 h6 h7 h8=>hP (h.2 ⟨h1,h2,h3,h4,h5,h6,h7,h8⟩)
  repeat' split
  all_goals first|rfl|(exfalso;exact h2 ω ω ω ω ω ω ω ω)
theorem aqd{P:Prop} [Decidable P]{a b s n:Int}{r:Option Bool}(h:P↔0≤a∧a<n∧0≤b∧b≤33000000000∧0≤s∧s≤33000000000∧(b=0→s≠0)):
  (if a<0 then some false else if n≤a then some false else if b<0 then some false else if 33000000000<b then some false else if s<0 then some false else if 33000000000<s then some false else
   if b=0 then(if s=0 then some false else r)else r)=if P then r else some false:=by
 by_cases hP:P
 ·have:=h.1 hP
  rw[ah hP,aj ω,aj ω,aj ω,aj ω,aj ω,aj ω]
  split
  ·rw[aj ω]
  ·rfl
 ·rw[aj hP]
  have h2:=λh1 h2 h3 h4 h5 h6 h7=>hP (h.2 ⟨h1,h2,h3,h4,h5,h6,h7⟩)
  repeat' split
  all_goals first|rfl|(exfalso;exact h2 ω ω ω ω ω ω ω)
theorem Sz{c:ae}{l:au}{i:Nat}(h:0<i):zJ c l i↔0≤(l.getD i a6).1∧(l.getD i a6).1<(c.1.length:Int)∧0≤(l.getD i a6).2.1∧(l.getD i a6).2.1≤33000000000∧0≤(l.getD i a6).2.2.1∧(l.getD i a6).2.2.1≤33000000000∧((l.getD i a6).2.1=0→(l.getD i a6).2.2.1≠0)∧(l.getD (i-1) a6).1<(l.getD i a6).1:=
 ⟨λ⟨a,b,c,d,e,f,g,k⟩=>⟨a,b,c,d,e,f,g,k h⟩,λ⟨a,b,c,d,e,f,g,k⟩=>⟨a,b,c,d,e,f,g,λ_=>k⟩⟩
theorem Pm{c:ae}{l:au}{i:Nat}(h: ¬0<i):zJ c l i↔0≤(l.getD i a6).1∧(l.getD i a6).1<(c.1.length:Int)∧0≤(l.getD i a6).2.1∧(l.getD i a6).2.1≤33000000000∧0≤(l.getD i a6).2.2.1∧(l.getD i a6).2.2.1≤33000000000∧((l.getD i a6).2.1=0→(l.getD i a6).2.2.1≠0):=
 ⟨λ⟨a,b,c,d,e,f,g,_⟩=>⟨a,b,c,d,e,f,g⟩,λ⟨a,b,c,d,e,f,g⟩=>⟨a,b,c,d,e,f,g,λk=>absurd k h⟩⟩
theorem Kd(N:Nat)(hN:200000≤N)(c:ae){l:au}(hl:l.length≤100000):pV N c l=some (jU c l):=by
 unfold pV pV.b
 refine gV (F:=λn i=>pV.l2 N n l c l (l.length:Int) i) (zJ c l) (λn i r hi hp hr=> ?_) (λn=> ?_) N ω
 ·unfold pV.l2 pV.fy
  rw[aQ ω,ak,aS ω ω,ak,aG,aw (x:=(i:Int)+1) ω ω,af,hr]
  by_cases h0:0<i
  ·have e:W .i64 ((i:Int)-1)=((i-1:Nat):Int):=by rw[aw ω ω];omega
   dsimp only
   rw[aQ (x:=0) (y:=(i:Int)) ω,e,aG,aS (i:=((i-1:Nat):Int)) ω ω]
   simp only[bN,cn,aI,ak]
   have hg:=Sz h0 (c:=c) (l:=l)
   exact aqc hg
  ·rw[aP (x:=0) (y:=(i:Int)) ω]
   simp only[bN,cn,aI,ak,av]
   have hg:=Pm h0 (c:=c) (l:=l)
   exact aqd hg
 ·unfold pV.l2 pV.fy
  rw[aP ω,av,EO N ω,ar]
end VM
end
section
namespace VM
open Go VM.F
theorem ac5(N:Nat){u v:Int}(hu:cf u)(hv:cf v)(hs:cf (u-v)):Sx N (bS u) (bS v)=some (bS (u-v),true):=by
 unfold Sx bS
 unfold cf at*
 dsimp only
 have hp:0≤u%18446744073709551616∧u%18446744073709551616<18446744073709551616:=ω
 have hq:0≤v%18446744073709551616∧v%18446744073709551616<18446744073709551616:=ω
 rw[mN,mN,lO N ω ω ω ω ω ω,ar]
 dsimp only
 have hb:(0:Int)≤(if u%18446744073709551616<v%18446744073709551616+0 then 1 else 0)∧(if u%18446744073709551616<v%18446744073709551616+0 then(1:Int)else 0)≤1:=by split<;>omega
 rw[lO N ω ω ω ω hb.1 hb.2,ar]
 dsimp only
 have e3:W .i64 ((u/18446744073709551616%18446744073709551616-v/18446744073709551616%18446744073709551616-(if u%18446744073709551616<v%18446744073709551616+0 then 1 else 0))%18446744073709551616)=(u-v)/18446744073709551616:=by
  by_cases h0:u%18446744073709551616<v%18446744073709551616+0
  ·rw[ah h0,fW];split<;>omega
  ·rw[aj h0,fW];split<;>omega
 have e1:(u%18446744073709551616-v%18446744073709551616-0)%18446744073709551616=(u-v)%18446744073709551616:=ω
 rw[e3,e1]
 have key: ∀A B C:Int,A=u/18446744073709551616→B=v/18446744073709551616→C=(u-v)/18446744073709551616→(A<0∧ ¬B<0→C<0)∧(¬A<0∧B<0→ ¬C<0):=λA B C _ _ _=>ω
 have k:=key _ _ _ rfl rfl rfl
 simp only[nJ,p7]
 by_cases a:u/18446744073709551616<0<;>by_cases b:v/18446744073709551616<0
 ·rw[a8 a,a8 b];rfl
 ·have c:=k.1 ⟨a,b⟩
  rw[a8 a,bC b,a8 c];rfl
 ·have c:=k.2 ⟨a,b⟩
  rw[bC a,a8 b,bC c];rfl
 ·rw[bC a,bC b];rfl
theorem Wn(N:Nat){v k:Int}(hv:0≤v∧v≤9223372069854775808)(hk:0≤k∧k≤1000000000):ac6 N (bS v) k=some (bS (v*k),true):=by
 unfold ac6
 have hm:=LW hv hk
 have h0:v/18446744073709551616=0:=ω
 have h1:v%18446744073709551616=v:=ω
 rw[Oq N ω ω,ar,Ll N ω ω,ar,show(v.natAbs:Int)=v by omega,show(k.natAbs:Int)=k by omega,h0,h1]
 dsimp only
 rw[Gn N ω ω ω ω,ar,Gn N ω ω ω ω,ar,rJ]
 dsimp only
 have e:bS v=((0:Int),(v,())):=by unfold bS;rw[h0,h1]
 generalize v*k=m at*
 rw[uV N ω ω ω ω,ar,e]
 dsimp only
 have e1:(0%18446744073709551616+m/18446744073709551616+0)%18446744073709551616=m/18446744073709551616:=ω
 have e2:(0/18446744073709551616:Int)+(0%18446744073709551616+m/18446744073709551616+0)/18446744073709551616=0:=ω
 rw[e1,e2,cz (x:=0) ω ω,iO,bp,av,aP (x:=0) ω,aP (x:=k) ω,nJ]
 show(qk N false _ _).bind _=_
 rw[zy N ω ω ω ω,ar,show m/18446744073709551616*18446744073709551616+m%18446744073709551616=m by omega]
theorem ac7(N:Nat){q:Int}{z:Int×Int}(hq:aE q)(hz:MN z):((ID N q).bind λr9=>(ID N z.1).bind λkF=>(OR N r9 kF).bind λod=>(ID N q).bind λpn=>(ID N z.2).bind λnU=>(Sx N pn nU).bind λsU=>(O7 N od.1).bind λtN=>(O7 N sU.1).bind λyQ=>(IG N tN.1 yQ.1).bind λwR=>cond (aT wR 0) (some (yQ.1,(0:Int))) (some (tN.1,(0:Int))))=some (bS (LS q z),0):=by
 unfold aE MN at*
 have a1:cf q∧cf z.1∧cf z.2∧cf (q+z.1)∧cf (q-z.2):=by unfold cf;omega
 rw[qm N hq.1 hq.2,ar,qm N ω ω,ar,LF N a1.1 a1.2.1 a1.2.2.2.1,ar,ar,qm N ω ω,ar,ac5 N a1.1 a1.2.2.1 a1.2.2.2.2,ar,LO N a1.2.2.2.1 ω,ar,LO N a1.2.2.2.2 ω,ar,Bf,ar,bN]
 unfold LS
 have hs:p5 (((q+z.1).natAbs:Int)-((q-z.2).natAbs:Int))<0↔((q+z.1).natAbs:Int)<((q-z.2).natAbs:Int):=by
  unfold p5;split<;>(try split)<;>omega
 by_cases h:((q+z.1).natAbs:Int)<((q-z.2).natAbs:Int)
 ·rw[ah h,ah (hs.2 h)]
 ·rw[aj h,aj (λk=>h (hs.1 k))]
theorem Wo(N:Nat)(hN:200000≤N){o:au}(Cc:o.length≤100000)(ho: ∀x∈o,MN (x.2.1,x.2.2.1))(k:Int){q:Int}(hq:aE q):gO.oi N N k cv q 0 0 o (o.length:Int) 0=some (bS (LS q (DP k o (0,0))),0):=by
 have:=oF o a6 (λn i (z:Int×Int)=>gO.oi N n k cv q z.1 z.2 o (o.length:Int) i) (λt z=>some (bS (LS q (DP k t z)),(0:Int))) (λi z=>MN z) (λn i z hi hz hr=> ?_) (λn z hz=> ?_) o.length N 0 (0,0) ω ω ω (by unfold MN;decide)
 ·exact this
 ·unfold gO.oi gO.mF
  rw[aQ ω,ak,aS ω ω,ak,aG,aw (x:=(i:Int)+1) ω ω,af i,aI,Hf]
  by_cases h:(o.getD i a6).1=k
  ·rw[ah h,ah h]
   exact hr ((o.getD i a6).2.1,(o.getD i a6).2.2.1) (ho _ (by rw[aU,bg hi];exact dx hi))
  ·rw[aj h,aj h]
   exact hr z hz
 ·unfold gO.oi gO.mF
  rw[aP ω,av]
  exact ac7 N hq hz
theorem Zv(N:Nat)(hN:200000≤N)(c:ae){l:aD}(hl:l.length≤100000)(nP: ∀y∈l,aE y.2.1){o:au}(Cc:o.length≤100000)(k:Int):gO N c l o k=some (bS (xU c l o k).1,(xU c l o k).2):=by
 unfold gO gO.b xU
 rw[T9 N hN c hl,ar,cond_not,Kd N hN c Cc,ar,cond_not,bN,cn]
 cases h1:oM c l with
 |false=>rfl
 |true=>
  cases h2:jU c o with
  |false=>rfl
  |true=>
   rw[ak,ak,fv,ah rfl]
   by_cases h3:0≤k∧k<(c.1.length:Int)
   ·rw[ah h3,aj ω,aj ω]
    have:=oF l cv (λn i (q:Int)=>gO.l7 N n o k cv q 0 0 l (l.length:Int) i) (λt q=>some (bS (LS (Kc k t q) (DP k o (0,0))),(0:Int))) (λi q=>aE q) (λn i q hi hq hr=> ?_) (λn q hq=> ?_) l.length N 0 0 ω ω ω (by unfold aE;omega)
    ·exact this
    ·unfold gO.l7 gO.p6
     rw[aQ ω,ak,aS ω ω,ak,aG,aw (x:=(i:Int)+1) ω ω,af i,aI,He]
     by_cases h:(l.getD i cv).1=k
     ·rw[ah h,ah h]
      exact hr _ (nP _ (by rw[aU,bg hi];exact dx hi))
     ·rw[aj h,aj h]
      exact hr q hq
    ·unfold gO.l7 gO.p6
     rw[aP ω,av]
     exact Wo N hN Cc (Uw h2) k hq
   ·rw[aj h3]
    by_cases h4:k<0
    ·rw[ah h4];rfl
    ·rw[aj h4,ah ω];rfl
theorem Wp{c:ae}{l:aD}{o:au}(h1:oM c l=true)(h2:jU c o=true){k:Int}(hk:0≤k∧k<(c.1.length:Int)):(xU c l o k).1=BD l o k:=by
 unfold xU
 rw[h1,h2,fv,ah rfl,ah hk]
theorem Zw(N:Nat)(hN:2000000≤N)(c:ae){l:aD}(hl:l.length≤100000)(nP: ∀y∈l,aE y.2.1){o:au}(Cc:o.length≤100000):qX N c l o=some (bS (qW c l o).1,(qW c l o).2):=by
 unfold qX qX.b qW
 rw[T9 N ω c hl,ar,cond_not,Kd N ω c Cc,ar,cond_not]
 cases h1:oM c l with
 |false=>rfl
 |true=>
  cases h2:jU c o with
  |false=>rfl
  |true=>
   rw[ak,ak,fv,ah rfl]
   have h6:=Pk (oX h2)
   have aqe: ∀i,i<c.1.length→0≤BD l o (i:Int)*oW c i∧BD l o (i:Int)*oW c i≤9223372069854775808000000000:=λi hi=>LW (BE h2 nP (i:Int)) (LV (oX h2) hi)
   have hL: ∀n,n≤c.1.length→ ∀x∈wh c l o n,cf x:=by
    intro n
    induction n with
    |zero=>intro _ x hx;nomatch hx
    |succ n ih=>
     intro hn
     have:=aqe n ω
     exact vV (ih ω) (by unfold cf;omega)
   have hw:=CC (oX h2) h2 nP c.1.length (aH _)
   have key: ∀(m n i:Nat),c.1.length-i≤m→m<n→i≤c.1.length→qX.l5 N n l o c cv ((wh c l o i).map bS) c.1 (c.1.length:Int) (i:Int)=some (bS (qV c l o c.1.length),0):=by
    intro m n
    induction n generalizing m with
    |zero=>intro i _ hn;omega
    |succ n ih=>
     intro i hm hn hi
     unfold qX.l5 qX.eA
     by_cases h:i<c.1.length
     ·have hr:=LV (oX h2) h
      have eF:=hr
      unfold oW at eF
      have ht:=BE h2 nP (i:Int)
      rw[aQ ω,ak,aS ω ω,ak,Zv N ω c hl nP Cc,ar,Wp h1 h2 ⟨ω,ω⟩,aG,Wn N ht eF,ar,bP (by rw[cI,zK,aK];omega),ak,aw (x:=(i:Int)+1) ω ω,af i]
      have:=ih (m-1) (i+1) ω ω ω
      rw[show wh c l o (i+1)=wh c l o i++[BD l o (i:Int)*oW c i]from rfl,dg]at this
      exact this
     ·have e:i=c.1.length:=ω
      subst e
      rw[aP ω,av,EN N (hL _ hi) (by rw[zK];omega) ω,ar,Hg]
      unfold Ou
      rw[ah (by unfold cf;omega)]
   exact key c.1.length N 0 ω ω ω
end VM
end
section
namespace VM
open Go VM.F
def qF(s p a:Int):Int:=if s=2 then a-p else p-a
def Ke(q s p a:Int):Int:=if qF s p a<0 then 0 else q*qF s p a
def aqf(o:c7)(a:Int):Int:=Ke (oQ o) o.2.2.2.1 o.2.2.2.2.2.1 a
def wi(o:c7)(a:Int):Int×Int:=if jb o∧cC a then(aqf o a,0)else(0,1)
theorem Pn{q s p a:Int}(hq:1≤q∧q≤1000000000)(hp:cC p)(ha:cC a): -1000000000000000000000≤q*qF s p a∧q*qF s p a≤1000000000000000000000∧(q*qF s p a<0↔qF s p a<0)∧ -1000000000000≤qF s p a∧qF s p a≤1000000000000:=by
 have hd: -1000000000000≤qF s p a∧qF s p a≤1000000000000:=by
  unfold qF cC at*
  split<;>omega
 generalize qF s p a=d at*
 have h1: -(q*1000000000000)≤q*d:=by
  rw[←rN];exact kG ω ω
 have h2:q*d≤q*1000000000000:=kG ω ω
 refine⟨ω,ω,⟨λh=> ?_,λh=> ?_⟩,hd⟩
 ·by_cases h0:d<0
  ·exact h0
  ·have:=ka (a:=q) (b:=d) ω ω
   omega
 ·have:q*d≤q*(-1):=kG ω ω
  omega
theorem Wq(o:c7)(a:Int):0≤(wi o a).1∧(wi o a).1≤1000000000000000000000:=by
 unfold wi
 by_cases h:jb o∧cC a
 ·rw[ah h]
  obtain⟨ho,ha⟩:=h
  unfold jb tZ at ho
  have:=Pn (s:=o.2.2.2.1) (q:=oQ o) ho.2.2.2.2.1 ho.2.2.2.2.2 ha
  show 0≤Ke _ _ _ _∧Ke _ _ _ _≤_
  unfold Ke
  split<;>omega
 ·rw[aj h];decide
def Zx(b:an)(a:Int):bT:=(et b.2.1 a).1
def Hh(b:an)(a:Int):Int:=(Zx b a).2.2.2.1
def akE(b:an)(a:Int):Int:=gW b.1 (Zx b a).2.1
def xV(b:an)(o:c7):au:=wg (b.2.2.2.2.2.1++[o]) o.2.1
def LX(c:ae)(b:an)(o:c7):Int:=
 if Hh b o.2.1<(xU c (posOf b.2.2.2.1 o.2.1) (xV b o) (oI o)).1 then 9 else
 if ou b.2.2.1 5 o.2.1-(wi o (b.2.2.2.2.1.getD (oI o).toNat 0)).1<(qW c (posOf b.2.2.2.1 o.2.1) (xV b o)).1 then 10 else 0
def BF(c:ae)(b:an)(o:c7):Int:=
 if cY c b then(if jb o then(if(et b.2.1 o.2.1).2 then(if akE b o.2.1=1 then(if(c.1.length:Int)≤oI o then 3 else LX c b o)else 7)else 3)else 1)else 1
theorem Wr(N:Nat){q s p a:Int}(hq:1≤q∧q≤1000000000)(hp:cC p)(ha:cC a):((IC N q (W .i64 (p-a))).bind λr4=>cond (aN s 2) ((IC N q (W .i64 (a-p))).bind λr6=>(Xo N r6).bind λr7=>cond (aT r7 0) (some (cv,(0:Int))) (some (r6,(0:Int)))) ((Xo N r4).bind λr8=>cond (aT r8 0) (some (cv,(0:Int))) (some (r4,(0:Int)))))=some (bS (Ke q s p a),0):=by
 have hn:=Pn (s:=s) hq hp ha
 unfold cC at hp ha
 have hs: ∀d:Int,p5 (q*d)<0↔q*d<0:=λd=>by unfold p5;split<;>(try split)<;>omega
 rw[aw (x:=p-a) ω ω,A6 N ω ω ω ω,ar,aI,aw (x:=a-p) ω ω,A6 N ω ω ω ω,ar,so,so,ar,ar,bN,bN]
 unfold Ke
 by_cases h:s=2
 ·have e:qF s p a=a-p:=by unfold qF;rw[ah h]
  rw[ah h]
  rw[e]at hn ⊢
  have:=hs (a-p)
  by_cases h1:a-p<0
  ·rw[ah h1,ah (this.2 (hn.2.2.1.2 h1))];rfl
  ·rw[aj h1,aj (λk=>h1 (hn.2.2.1.1 (this.1 k)))]
 ·have e:qF s p a=p-a:=by unfold qF;rw[aj h]
  rw[aj h]
  rw[e]at hn ⊢
  have:=hs (p-a)
  by_cases h1:p-a<0
  ·rw[ah h1,ah (this.2 (hn.2.2.1.2 h1))];rfl
  ·rw[aj h1,aj (λk=>h1 (hn.2.2.1.1 (this.1 k)))]
theorem ac8(N:Nat)(o:c7)(a:Int):Zy N o a=some (bS (wi o a).1,(wi o a).2):=by
 unfold Zy wi
 rw[R3,ar,cond_not,ed,vY,ar,cond_not,ed]
 by_cases ho:jb o
 ·rw[ah ho]
  by_cases ha:cC a
  ·rw[ah ha,ah ⟨ho,ha⟩]
   unfold jb tZ at ho
   exact Wr N ho.2.2.2.2.1 ho.2.2.2.2.2 ha
  ·rw[aj ha,aj (λh=>ha h.2)];rfl
 ·rw[aj ho,aj (λh=>ho h.1)];rfl
theorem LY{f:Int→Int×Int}{x:cK}: ∀m k,x∈O9 f m k→ ∃j:Int,x=nz j (f j)
 |0,_,hx=>nomatch hx
 |m+1,k,hx=>by
  rw[lT]at hx
  split at hx
  ·rcases aZ.1 hx with rfl|hx
   ·exact⟨_,rfl⟩
   ·exact LY m (k+1) hx
  ·exact LY m (k+1) hx
theorem Ws{l:bm}(h:Sy l)(hl:l.length≤33)(a:Int): ∀x∈wg l a,MN (x.2.1,x.2.2.1):=λx hx=>by
 obtain⟨j,rfl⟩:=LY 6 0 hx
 have:=LR h a j
 unfold E0 at this
 show 0≤(Wk l a j).1∧(Wk l a j).1≤33000000000∧0≤(Wk l a j).2∧(Wk l a j).2≤33000000000
 omega
theorem Kf(id:Int): ∀a:aO,(si id a).2=true→(si id a).1∈a
 |[],h=>nomatch h
 |x::t,h=>by
  rw[mD]at h ⊢
  by_cases e:x.1=id
  ·rw[ah e];exact bh ..
  ·rw[aj e]at h ⊢;exact a7 _ (Kf id t h)
theorem akF{b:an}{a:Int}(h:(et b.2.1 a).2=true):0≤Hh b a∧Hh b a≤1000000000000:=by
 unfold Hh Zx
 unfold et at h ⊢
 by_cases hk:gh b.2.1=true
 ·rw[ah hk]at h ⊢
  obtain⟨i,hi,e⟩:=gd (Kf a b.2.1 h)
  unfold gh at hk
  rw[fv]at hk
  have:=(bA hk i hi).1
  rw[aU,bg hi,ng,e]at this
  unfold lq at this
  exact this.2.2.2
 ·rw[aj hk]at h;nomatch h
theorem IS{c:ae}{b:an}(h:cY c b=true):dv b.2.2.2.2.2.1=true:=by
 unfold cY at h
 simp only[bB]at h
 exact h.2.2.2.2.2.1
theorem Wt(l:bm)(a:Int):(wg l a).length≤6:=LP _ 6 0
theorem Zz(b:an)(o:c7):(xV b o).length≤6:=LP _ 6 0
theorem Po(x:Int):0<p5 x↔0<x:=by unfold p5;split<;>(try split)<;>omega
theorem Pp(x:Int):p5 x<0↔x<0:=by unfold p5;split<;>(try split)<;>omega
theorem ZA(N:Nat)(hN:4000000≤N)(c:ae){b:an}(w:iM b)(o:c7):F50 N c b o=some (BF c b o):=by
 unfold F50 BF
 rw[EV N hN w,ar,cond_not,R3,ar,cond_not,ed,T2 N w.a ω,ar,cond_not,Cn N w.m ω,ar,cond_not,aI,cn]
 by_cases hB:cY c b=false
 ·rw[hB];rfl
 rw[pv]at hB
 rw[hB,ak,ah rfl]
 by_cases ho:jb o
 ·rw[ah ho,ah ho]
  cases hf:(et b.2.1 o.2.1).2 with
  |false=>rfl
  |true=>
   rw[ak,ah rfl]
   show(if akE b o.2.1=1 then _ else _)=_
   by_cases hs:akE b o.2.1=1
   ·rw[ah hs,ah hs]
    show(if(c.1.length:Int)≤oI o then _ else _)=_
    by_cases hi:(c.1.length:Int)≤oI o
    ·rw[ah hi,ah hi]
    ·rw[aj hi,aj hi]
     have hor:=IS hB
     obtain⟨hq,h32⟩:=Pb hor
     have Xh:=ho
     unfold jb tZ at Xh
     have nP:=ON w.qs o.2.1
     have sd:=akF hf
     have AN:=JM o.2.1 b.2.2.2.1
     have RH:=w.s
     have FK:=Zz b o
     have hw:=Pl c (xV b o) nP
     have ht:=Wm c (xV b o) nP (oI o)
     have hL:=Wq o (b.2.2.2.2.1.getD (oI o).toNat 0)
     have hg:=OM w.qr 5 o.2.1
     obtain⟨EK,_⟩:=dy hB
     have h0:0≤oI o:=Xh.2.2.1.1
     rw[aiE N w.s ω,ar,Zr N ω w.o,ar,ah hor,ac4 N ω (o:=o) Xh.2.2.2.2.1 (ct (Wt _ o.2.1) δ) (Ws hq ω _),ar,Pe hq ho]
     show((gO N c (posOf b.2.2.2.1 o.2.1) (xV b o) (oI o)).bind λr8=>(ID N (Hh b o.2.1)).bind λr9=>(IG N r8.1 r9).bind λkF=>cond (aT 0 kF) (some (9:Int)) ((qX N c (posOf b.2.2.2.1 o.2.1) (xV b o)).bind λod=>cond (aY (oI o) (List.length b.2.2.2.2.1)) ((Zy N o (List.getD b.2.2.2.2.1 (oI o).toNat (0:Int))).bind λpn=>(OR N od.1 pn.1).bind λnU=>(pO N b.2.2.1 (5:Int) o.2.1).bind λsU=>(ac9 N sU nU.1).bind λtN=>cond (!tN) (some (10:Int)) (some (0:Int))) (none)))=some (LX c b o)
     unfold aE at hg
     rw[Zv N ω c ω nP ω,ar,qm N ω ω,ar,Bf,ar,bN,Zw N ω c ω nP ω,ar,aS h0 ω,ak,ac8,ar,LF N (by unfold cf;omega) (by unfold cf;omega) (by unfold cf;omega),ar,acT N w.r ω,ar]
     unfold ac9 LX
     rw[qm N hg.1 hg.2,ar,Bf,ar,ar,cond_not,cn]
     have s1:=Po ((xU c (posOf b.2.2.2.1 o.2.1) (xV b o) (oI o)).1-Hh b o.2.1)
     by_cases h1:Hh b o.2.1<(xU c (posOf b.2.2.2.1 o.2.1) (xV b o) (oI o)).1
     ·rw[ah h1,ah ω]
     ·rw[aj h1,aj ω]
      have s2:=Pp (ou b.2.2.1 5 o.2.1-((qW c (posOf b.2.2.2.1 o.2.1) (xV b o)).1+(wi o (b.2.2.2.2.1.getD (oI o).toNat 0)).1))
      by_cases h2:ou b.2.2.1 5 o.2.1-(wi o (b.2.2.2.2.1.getD (oI o).toNat 0)).1<(qW c (posOf b.2.2.2.1 o.2.1) (xV b o)).1
      ·rw[ah h2,aj ω]
      ·rw[aj h2,ah ω]
   ·rw[aj hs,aj hs]
 ·rw[aj ho,aj ho]
end VM
end
section
namespace VM
open Go VM.F
def T7(q:Int):Prop:=1≤q∧q≤1000000000
instance(q:Int):Decidable (T7 q):=by unfold T7;infer_instance
def xW(a b c d:Int):Prop:=(1≤a∧a≤1099511627776)∧(0≤b∧b<6)∧(c=1∨c=2)∧T7 d
instance(a b c d:Int):Decidable (xW a b c d):=by unfold xW;infer_instance
def pg(h:bT):Prop:=xW h.1 h.2.1 h.2.2.1 h.2.2.2.1
instance(h:bT):Decidable (pg h):=by unfold pg;infer_instance
theorem ada(N:Nat)(q:Int):SA N q=some (decide (T7 q)):=by
 unfold SA
 rw[ny q,fY]
 congr 1
 rw[ns,fb]
 unfold T7
 simp only[bB,ux]
theorem sD(N:Nat)(h:bT):ZB N h=some (decide (pg h)):=by
 unfold ZB
 rw[ny h.2.2.2.1]
 rw[fY,Gv,Ck,Gu,fY,fY,fY]
 congr 1
 rw[ns,fb]
 unfold pg xW T7
 simp only[bB,nu,rD,ux,Fe]
 omega
theorem uc(N:Nat)(h:bT):F48 N h=some (decide (pg h)):=by
 rw[←sD N h]
 unfold F48 ZB SA
 have e: ∀x:Option Bool,(x.bind λr=>some r)=x:=λx=>by cases x<;>rfl
 rw[e]
def Ux(h:bT)(a q p:Int):c7:=(h.1,(a,(h.2.1,((3-h.2.2.1:Int),(q,(p,()))))))
def Pq(h:bT)(a q p:Int):iP:=if h.2.2.1=1 then((0:Int),(a,(h.2.1,(q,(p,())))))else(a,((0:Int),(h.2.1,(q,(p,())))))
def Pr(c:ae)(b:an)(h:bT)(q:Int)(r:an×Int):an×bT×Int:=
 if r.2=0 then(r.1,(h.1,(h.2.1,(h.2.2.1,((h.2.2.2.1-q:Int),())))),0)else((cg,(cT,(bq,(bq,(de,(dk,())))))),aW,r.2)
def Ps(c:ae)(b:an)(h:bT)(a q p:Int):an×bT×Int:=
 if BF c b (Ux h a q p)=0 then Pr c b h q (vd c b [Pq h a q p])else((cg,(cT,(bq,(bq,(de,(dk,())))))),aW,BF c b (Ux h a q p))
def nV(c:ae)(b:an)(h:bT)(a q p:Int):an×bT×Int:=
 if cY c b then(if pg h then(if T7 q then(if cC p then(if h.2.2.2.1<q then((cg,(cT,(bq,(bq,(de,(dk,())))))),aW,9)else Ps c b h a q p)else((cg,(cT,(bq,(bq,(de,(dk,())))))),aW,1))else((cg,(cT,(bq,(bq,(de,(dk,())))))),aW,1))else((cg,(cT,(bq,(bq,(de,(dk,())))))),aW,1))else((cg,(cT,(bq,(bq,(de,(dk,())))))),aW,1)
theorem Uy(N:Nat)(hN:4000000≤N)(c:ae){b:an}(w:Bt b)(h:bT)(a q p:Int):Ic N c b h a q p=some (nV c b h a q p):=by
 unfold Ic Ic.b nV
 rw[EV N hN w.w,ar,cond_not,uc,ar,cond_not,ed,ada,ar,cond_not,ed,vY,ar,cond_not,ed,bN]
 by_cases hB:cY c b=false
 ·rw[hB];rfl
 rw[pv]at hB
 rw[hB,ak,ah rfl]
 by_cases hh:pg h
 ·rw[ah hh,ah hh]
  by_cases hq:T7 q
  ·rw[ah hq,ah hq]
   by_cases hp:cC p
   ·rw[ah hp,ah hp]
    by_cases hl:h.2.2.2.1<q
    ·rw[ah hl,ah hl]
    ·rw[aj hl,aj hl]
     have hh':=hh
     unfold pg xW at hh'
     have hg: ∀s:Int,s=1∨s=2→W .i64 (3-s)=3-s:=λs hs=>aw ω ω
     have U1: ∀x:Int,T7 x→T7 q→W .i64 (x-q)=x-q:=λx hx hq=>by unfold T7 at*;exact aw ω ω
     rw[hg _ hh'.2.2.1]
     show((F50 N c b (Ux h a q p)).bind λr6=>_)=some (Ps c b h a q p)
     rw[ZA N hN c w.w,ar,cond_not,aI]
     unfold Ps
     by_cases h0:BF c b (Ux h a q p)=0
     ·rw[ah h0,ah h0,aI]
      have fin: ∀t:iP,t=Pq h a q p→Ic.j12 N q c b h (cg,(cT,(bq,(bq,(de,(dk,())))))) aW t=some (Pr c b h q (vd c b [Pq h a q p])):=λt e=>by
       subst e
       unfold Ic.j12 Ic.akH Pr
       rw[Wb N hN c w (by rw[aK];omega),ar,cond_not,aI,U1 _ hh'.2.2.2 hq]
       split<;>rfl
      by_cases h1:h.2.2.1=1
      ·rw[ah h1];exact fin _ (by unfold Pq;rw[ah h1])
      ·rw[aj h1];exact fin _ (by unfold Pq;rw[aj h1])
     ·rw[aj h0,aj h0]
   ·rw[aj hp,aj hp]
  ·rw[aj hq,aj hq]
 ·rw[aj hh,aj hh]
end VM
end
section
namespace VM
open Go VM.F Go.RowKit
theorem YI(N:Nat)(hN:4000000≤N){v:Int}(h:cf v):F46 N (bS v)=some (di v):=by
 unfold F46 bS
 unfold cf at h
 dsimp only
 have hv:VD [(0:Int),0,1]:=VD.cons ω ω (VD.cons ω ω (VD.cons ω ω VD.nil))
 have F2:c6 [(0:Int),0,1]=18446744073709551616:=δ
 have hl:(lD (v%18446744073709551616).toNat).length≤2:=vI 2 _ (by
  rw[show(4294967296:Nat)^2=18446744073709551616 from rfl];omega)
 have f2: ∀x:Int,(x.natAbs:Int)≤18446744073709551616→Fit x 90000:=λx hx=>by
  refine Fit.mono (j:=3) ?_ ω
  unfold Fit
  rw[show(4294967296:Nat)^3=79228162514264337593543950336 from rfl]
  omega
 rw[da N ω ω ω,ar,pe N false hv (by simp;omega) (by simp),ar,aj qJ,F2,uX N hN (f2 _ ω) (f2 _ ω),ar,size_eq N ω ω ω,ar,pe N false (jC _) ω ω,ar,aj qJ,gJ,mc ω,ji N hN (vQ (by unfold cf;omega)) (vQ (by unfold cf;omega)),ar,show v/18446744073709551616*18446744073709551616+v%18446744073709551616=v by omega]
theorem Hi(c:ae)(b:an)(next:Int): ∀m k out,(yP c b next m k out).length≤out.length+m
 |0,_,_=>aH _
 |m+1,k,out=>by
  rw[yq]
  have h1:=Hi c b next m (k+1) out
  split
  ·omega
  ·split
   ·omega
   ·refine ct (Hi c b next m (k+1) _) ?_
    rw[aM,aK];omega
theorem Sa(c:ae)(b:an)(next:Int):(ss c b next).1.length≤100000:=by
 unfold ss
 split
 ·split
  ·exact ct (Hi c b next 4 0 []) δ
  ·exact bF _
 ·exact bF _
theorem LZ{c:ae}{b:an}(w:iM b)(l:bs):GK (vd c b l).1:=by
 unfold vd
 repeat' split
 all_goals first|exact OL w _ _|exact rp
theorem SC{c:ae}{b:an}(w:iM b)(h:bT)(a q p:Int):GK (nV c b h a q p).1:=by
 have hr: ∀r:an×Int,GK r.1→GK (Pr c b h q r).1:=λr hr=>by
  unfold Pr
  split
  ·exact hr
  ·exact rp
 have hc:GK (Ps c b h a q p).1:=by
  unfold Ps
  split
  ·exact hr _ (LZ w _)
  ·exact rp
 unfold nV
 repeat' split
 all_goals first|exact hc|exact rp
def hC:ae:=([((0:Int),((100:Int),((1:Int),((0:Int),())))),((0:Int),((7:Int),cv))],((0:Int),((0:Int),((0:Int),((0:Int),((1:Int),((10:Int),())))))))
def hR:au:=[((1:Int),((0:Int),((-90:Int),()))),((5:Int),((1:Int),((90:Int),())))]
def hS:au:=[((0:Int),((0:Int),((5:Int),()))),((0:Int),((1:Int),((20:Int),()))),((1:Int),((0:Int),((-5:Int),()))),((1:Int),((1:Int),((-20:Int),())))]
def hB:an:=([((1:Int),((1:Int),()))],([((1:Int),((1:Int),((1:Int),((50:Int),()))))],(hR,(hS,([(100:Int),(7:Int)],(dk,()))))))
def hO:bT:=((4:Int),((0:Int),((2:Int),((6:Int),()))))
theorem hW:Bt hB:=⟨⟨δ,δ,δ,δ,δ,δ,Ui (l:=hR) δ,Ui (l:=hS) δ⟩,δ,δ⟩
theorem hOk:cY hC hB=true:=κ
theorem hN0:dM hC hB 0=640:=κ
theorem hOr:ss hC hB 4=([hO],0):=κ
theorem ML:(nV hC hB hO 1 2 99).2.2=0:=κ
theorem av1:(nV hC hB hO 1 2 99).2.1.2.2.2.1=4:=κ
theorem av2:eR (nV hC hB hO 1 2 99).1.2.2.2.1 0 0=3:=κ
theorem av3:ou (nV hC hB hO 1 2 99).1.2.2.1 2 0= -2:=κ
theorem hF7:(nV hC hB hO 1 7 99).2.2=9:=κ
theorem hRi:pg hO:=δ
theorem hWn:(bS 640).2.1=640:=κ
theorem VQ(N:Nat)(hN:5000000≤N):F38 N=some true:=by
 unfold F38 F99
 rw[ar]
 show(Bz N hC hB).bind _=_
 rw[Lr N ω hC hW.w,ar,hOk,ah rfl]
 show(vn N hC hB 4).bind _=_
 rw[Gz N ω hC δ hW.w,ar,hOr]
 have sh:=SC (c:=hC) hW.w hO 1 2 99
 dsimp only
 have hl1:([hO]:aO).length=1:=rfl
 have hl4:(il (dM hC hB)).length=4:=rfl
 rw[hl1,hl4,iO,bp,av,av,dF (x:=((4:Nat):Int)) (y:=4) ω,dF (x:=((1:Nat):Int)) (y:=1) ω,bp,av,av,aS (i:=0) (n:=1) ω ω,aS (i:=0) (n:=4) ω ω,ak]
 show(Ic N hC hB hO 1 2 99).bind _=_
 rw[Uy N ω hC hW,ar,ak]
 show(Ic N hC hB hO 1 7 99).bind _=_
 rw[Uy N ω hC hW,ar,ak]
 show cond (aN (bS (dM hC hB 0)).2.1 640) (cond true (cond (p8 eu hO hO) (cond (aN (nV hC hB hO 1 2 99).2.2 0) (cond (aN (nV hC hB hO 1 2 99).2.1.2.2.2.1 4) ((BV N (nV hC hB hO 1 2 99).1.2.2.2.1 0 0).bind λr6=>cond (aN r6 3) ((wF N (nV hC hB hO 1 2 99).1.2.2.1 2 0).bind λr7=>cond (aN r7 (-2)) (cond (aN (nV hC hB hO 1 7 99).2.2 9) (cond true ((F48 N hO).bind λr8=>some r8) none) (some false)) (some false)) (some false)) (some false)) (some false)) (some false)) none) (some false)=some true
 rw[hN0,hWn,iO,ak,ak,show p8 eu hO hO=true from akx hO,ak,ML,iO,ak,av1,iO,ak,EY N sh.s ω,ar,av2,iO,ak,Sk N sh.r ω,ar,av3,iO,ak,hF7,iO,ak,ak,uc,ar,a8 hRi]
namespace Pure
end Pure
end VM
end
section
namespace VM
open Go VM.F
def Ok{α:Type}(P:α→Prop)(o:Option α):Prop:= ∃r,o=some r∧P r
theorem aq{α:Type}{P:α→Prop}{r:α}(h:P r):Ok P (some r):=⟨r,rfl,h⟩
theorem ag{α β:Type}{P:β→Prop}{Q:α→Prop}{o:Option α}{f:α→Option β}(h:Ok Q o)(hf: ∀r,Q r→Ok P (f r)):Ok P (o.bind f):=by
 obtain⟨r,rfl,hr⟩:=h
 exact hf r hr
theorem nW{α:Type}{P:α→Prop}{o:Option α}{r:α}(h:o=some r)(hr:P r):Ok P o:=⟨r,h,hr⟩
theorem sq{α:Type}{P:α→Prop}{b:Bool}{x y:Option α}(hx:b=true→Ok P x)(hy:b=false→Ok P y):Ok P (cond b x y):=by
 cases b
 ·exact hy rfl
 ·exact hx rfl
theorem bz{α:Type}{P:α→Prop}{b:Bool}{x y:Option α}(hx:b=false→Ok P x)(hy:b=true→Ok P y):Ok P (cond (!b) x y):=by
 cases b
 ·exact hx rfl
 ·exact hy rfl
theorem ax{α:Type}{P:α→Prop}{a b:Int}{x y:Option α}(hx:a<b→Ok P x)(hy:b≤a→Ok P y):Ok P (cond (aT a b) x y):=by
 rw[bN]
 split
 ·exact hx (by assumption)
 ·exact hy ω
theorem ew{α:Type}{P:α→Prop}{a b:Int}{x y:Option α}(hx:a≤b→Ok P x)(hy:b<a→Ok P y):Ok P (cond (cZ a b) x y):=by
 rw[cn]
 split
 ·exact hx (by assumption)
 ·exact hy ω
theorem ok_eq{α:Type}{P:α→Prop}{a b:Int}{x y:Option α}(hx:a=b→Ok P x)(hy:a≠b→Ok P y):Ok P (cond (aN a b) x y):=by
 rw[aI]
 split
 ·exact hx (by assumption)
 ·exact hy (by assumption)
theorem bt{α:Type}{P:α→Prop}{a b:Int}{x y:Option α}(hx:a≠b→Ok P x)(hy:a=b→Ok P y):Ok P (cond (!aN a b) x y):=by
 rw[cond_not];exact ok_eq hy hx
theorem aA{α:Type}{P:α→Prop}{i:Int}{n:Nat}{x y:Option α}(h:0≤i∧i<(n:Int))(hx:Ok P x):Ok P (cond (aY i n) x y):=by
 rw[aS h.1 h.2];exact hx
theorem aF{α:Type}{P:α→Prop}{n:Nat}{x y:Option α}(h:n<68719476736)(hx:Ok P x):Ok P (cond (small n) x y):=by
 rw[bP h];exact hx
theorem adb{α:Type}{P:α→Prop}{l c:Int}{x y:Option α}(h:0≤l∧l≤c∧c<68719476736)(hx:Ok P x):Ok P (cond (jA l c) x y):=by
 rw[cD h.1 h.2.1 h.2.2];exact hx
theorem CD{α:Type}{P:α→Prop}{l h m n:Int}{x y:Option α}(hh:0≤l∧l≤h∧h≤m∧m≤n)(hx:Ok P x):Ok P (cond (kd l h m n) x y):=by
 rw[dD hh.1 hh.2.1 hh.2.2.1 hh.2.2.2];exact hx
theorem kX{σ β:Type}{P:β→Prop}{F:Nat→Int→σ→Option β}{len:Nat}(I:Nat→σ→Prop)
  (hs: ∀n i s,i<len→I i s→(∀s',I (i+1) s'→Ok P (F n ((i+1:Nat):Int) s'))→Ok P (F (n+1) (i:Int) s)) (he: ∀n s,I len s→Ok P (F (n+1) (len:Int) s)):
  ∀m n i s,len-i≤m→m<n→i≤len→I i s→Ok P (F n (i:Int) s)
 |m,0,i,s,_,hn,_,_=>ω
 |m,n+1,i,s,hm,hn,hi,hI=>by
  by_cases h:i<len
  ·exact hs n i s h hI λs' y4=>kX I hs he (m-1) n (i+1) s' ω ω ω y4
  ·have:i=len:=ω
   subst this
   exact he n s hI
theorem bn{σ β:Type}{P:β→Prop}{F:Nat→Int→σ→Option β}{len:Nat}(I:Nat→σ→Prop){N:Nat}{s:σ}(h0:I 0 s)(hN:len<N)
  (hs: ∀n i s,i<len→I i s→(∀s',I (i+1) s'→Ok P (F n ((i+1:Nat):Int) s'))→Ok P (F (n+1) (i:Int) s)) (he: ∀n s,I len s→Ok P (F (n+1) (len:Int) s)):Ok P (F N 0 s):=
 kX I hs he len N 0 s ω hN ω h0
theorem mv{β:Type}{P:β→Prop}{F:Nat→Int→Option β}{len N:Nat}(hN:len<N)
  (hs: ∀n i,i<len→Ok P (F n ((i+1:Nat):Int))→Ok P (F (n+1) (i:Int))) (he: ∀n,Ok P (F (n+1) (len:Int))):Ok P (F N 0):=
 bn (σ:=Unit) (F:=λn i _=>F n i) (λ_ _=>True) (s:=()) trivial hN (λn i _ h _ hr=>hs n i h (hr () trivial)) λn _ _=>he n
theorem ET{σ β:Type}{P:β→Prop}{F:Nat→Int→σ→Option β}(I:Nat→σ→Prop)
  (hs: ∀n (k:Nat) s,I (k+1) s→(∀s',I k s'→Ok P (F n (k:Int) s'))→Ok P (F (n+1) ((k+1:Nat):Int) s)) (he: ∀n s,I 0 s→Ok P (F (n+1) 0 s)):
  ∀(k n:Nat) s,k<n→I k s→Ok P (F n (k:Int) s)
 |0,0,s,hn,_=>ω
 |0,n+1,s,hn,hI=>he n s hI
 |k+1,0,s,hn,_=>ω
 |k+1,n+1,s,hn,hI=>hs n k s hI λs' y4=>ET I hs he k n s' ω y4
def G(m:Nat):(τ:Ty)→τ.den→Prop
 | .int .i64,x=>aE x
 | .int .u64,x=>0≤x∧x<18446744073709551616
 | .slice e,l=>List.length l≤m∧ ∀x∈(l:List e.den),G m e x
 | .pair a b,x=>G m a x.1∧G m b x.2
 |_,_=>True
theorem G.mono{m n:Nat}(h:m≤n): ∀{τ:Ty} {x:τ.den},G m τ x→G n τ x
 | .int k,x,hx=>by cases k<;>exact hx
 | .slice e,l,hl=>⟨ct hl.1 h,λx hx=>G.mono h (hl.2 x hx)⟩
 | .pair a b,x,hx=>⟨G.mono h hx.1,G.mono h hx.2⟩
 | .bool,_,_=>trivial
 | .str,_,_=>trivial
 | .unit,_,_=>trivial
 | .arr _ _,_,_=>trivial
theorem G.nil{m:Nat}{e:Ty}:G m (.slice e) ([]:List e.den):=⟨bF _,λx hx=>nomatch hx⟩
theorem G.app{m:Nat}{e:Ty}{l:List e.den}{x:e.den}(h:G m (.slice e) l)(hx:G m e x):G (m+1) (.slice e) (l++[x]):=
 ⟨by have:=h.1;rw[aM,aK];omega,λy hy=>by
  rcases bk.1 hy with hy|hy
  ·exact G.mono ω (h.2 y hy)
  ·rw[cr.1 hy];exact G.mono ω hx⟩
theorem G.get{m:Nat}{e:Ty}{l:List e.den}{d:e.den}(h:G m (.slice e) l)(hd:G m e d)(k:Nat):G m e (l.getD k d):=by
 by_cases hk:k<l.length
 ·rw[aU,bg hk];exact h.2 _ (dx hk)
 ·rw[aU,gH ω];exact hd
theorem G.zero(m:Nat): ∀τ:Ty,G m τ τ.zero
 | .int k=>by cases k<;>first|trivial|exact⟨δ,δ⟩
 | .slice _=>G.nil
 | .pair a b=>⟨G.zero m a,G.zero m b⟩
 | .bool=>trivial
 | .str=>trivial
 | .unit=>trivial
 | .arr _ _=>trivial
theorem G.at{m:Nat}{e:Ty}{l:List e.den}(h:G m (.slice e) l)(k:Nat):G m e (l.getD k e.zero):=h.get (G.zero m e) k
theorem G.set{m:Nat}{e:Ty}{l:List e.den}{x:e.den}(h:G m (.slice e) l)(hx:G m e x)(k:Nat):G m (.slice e) (l.set k x):=
 ⟨by rw[bM];exact h.1,λy hy=>by
  rcases uu hy with hy|rfl
  ·exact h.2 y hy
  ·exact hx⟩
theorem gE(x:Int):aE (W .i64 x):=by
 rw[fW];unfold aE;split<;>omega
def Bg(k:Nat)(z:aJ):Prop:= ∃v,z=di v∧Fit v k
theorem Bg.mono{j k:Nat}{z:aJ}(h:Bg j z)(hk:j≤k):Bg k z:=by
 obtain⟨v,e,f⟩:=h
 exact⟨v,e,Fit.mono f hk⟩
theorem Bg.zero:Bg 1 (false,(([]:List Int),())):=⟨0,kT.symm,by unfold Fit;decide⟩
theorem bu(N:Nat)(hN:4000000≤N){x:Int}(h:aE x):Ok (Bg 2) (jD N x):=nW (da N ω h.1 h.2) ⟨x,rfl,Fit.i64 h.1 h.2⟩
theorem kY(N:Nat)(hN:4000000≤N){k:Nat}(hk:k≤90000){u v:aJ}(hu:Bg k u)(hv:Bg k v):Ok (Bg (k+1)) (zT N u v):=by
 obtain⟨a,rfl,ha⟩:=hu
 obtain⟨b,rfl,hb⟩:=hv
 exact nW (ji N hN (Fit.mono ha ω) (Fit.mono hb ω)) ⟨_,rfl,Fit.add ha hb⟩
theorem yA(N:Nat)(hN:4000000≤N){k:Nat}(hk:k≤90000){u v:aJ}(hu:Bg k u)(hv:Bg k v):Ok (Bg (k+1)) (RU N u v):=by
 obtain⟨a,rfl,ha⟩:=hu
 obtain⟨b,rfl,hb⟩:=hv
 exact nW (tx N hN (Fit.mono ha ω) (Fit.mono hb ω)) ⟨_,rfl,by rw[Int.sub_eq_add_neg];exact Fit.add ha (Fit.neg hb)⟩
theorem rr(N:Nat)(hN:4000000≤N){k:Nat}(hk:k≤90000){u:aJ}(hu:Bg k u):Ok (Bg k) (Xm N u):=by
 obtain⟨a,rfl,ha⟩:=hu
 exact nW (oE N hN (Fit.mono ha ω)) ⟨_,rfl,Fit.neg ha⟩
theorem xX(N:Nat)(hN:4000000≤N){k:Nat}(hk:k≤90000){u:aJ}(hu:Bg k u):Ok (Bg k) (Xn N u):=by
 obtain⟨a,rfl,ha⟩:=hu
 exact nW (Oj N hN (Fit.mono ha ω)) ⟨_,rfl,Fit.of_le ha ω⟩
theorem lU(N:Nat)(hN:4000000≤N){j k:Nat}(hj:j≤90000)(hk:k≤90000){u v:aJ}(hu:Bg j u)(hv:Bg k v):Ok (Bg (j+k)) (jE N u v):=by
 obtain⟨a,rfl,ha⟩:=hu
 obtain⟨b,rfl,hb⟩:=hv
 exact nW (uX N hN (Fit.mono ha hj) (Fit.mono hb hk)) ⟨_,rfl,Fit.mul ha hb⟩
theorem E2(N:Nat){k:Nat}{u:aJ}(hu:Bg k u):Ok (λ_=>True) (Ol N u):=by
 obtain⟨a,rfl,ha⟩:=hu
 exact nW (mj N a) trivial
theorem qv(N:Nat)(hN:4000000≤N){j k:Nat}(hj:j≤90000)(hk:k≤90000){u v:aJ}(hu:Bg j u)(hv:Bg k v):Ok (λ_=>True) (Lo N u v):=by
 obtain⟨a,rfl,ha⟩:=hu
 obtain⟨b,rfl,hb⟩:=hv
 exact nW (Ch N hN (Fit.mono ha ω) (Fit.mono hb ω)) trivial
theorem SD(v:Int):aE (Eh v).1:=by
 by_cases h:aE v
 ·rw[vS h];exact h
 ·rw[yt h];unfold aE;decide
theorem xY(N:Nat){k:Nat}{u:aJ}(hu:Bg k u):Ok (λr=>aE r.1) (xD N u):=by
 obtain⟨a,rfl,ha⟩:=hu
 exact nW (tY N a) (SD a)
end VM
end
