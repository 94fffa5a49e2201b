/- A part of the proof of LotSlices of layer 23: what the functions compute, in plain words. -/
import Derived.Test.YthnjnpjmbabcaaaPlain0
import Derived.Test.YthnjnpjmbabcaaaText
set_option linter.all false
open List renaming getD→γ
section
namespace VM
open Go VM.F
variable(N:Nat)
def a5(v:Int):aA:=(v/18446744073709551616,(v%18446744073709551616,()))
theorem TK{a b v:Int}(h1:a=v/18446744073709551616)(h2:b=v%18446744073709551616):((a,(b,())):aA)=a5 v:=by
 unfold a5;rw[h1,h2]
theorem zJ{a b v:Int}{α:Type}{c:α}(h1:a=v/18446744073709551616)(h2:b=v%18446744073709551616):(some (((a,(b,())):aA),c):Option (aA×α))=some (a5 v,c):=by
 rw[TK h1 h2]
theorem Fi{a b c d:Int}(h1:a=c)(h2:b=d):(some (a,b):Option (Int×Int))=some (c,d):=by rw[h1,h2]
theorem uG{hi lo:Int}(h0:0≤hi)(h1:hi<9223372036854775808)(l0:0≤lo)(l1:lo<18446744073709551616):uH N false hi lo=some (a5 (hi*18446744073709551616+lo),true):=by
 unfold uH uH.b
 rw[bS,ah,cE ω,aj,aJ ω ω]
 exact zJ ω ω
theorem lP{hi lo:Int}(h0:0≤hi)(l0:0≤lo)(l1:lo<18446744073709551616)(hm:hi*18446744073709551616+lo≤170141183460469231731687303715884105728):uH N true hi lo=some (a5 (-(hi*18446744073709551616+lo)),true):=by
 unfold uH uH.b
 have hj:uH.j7 N hi lo cO=some (a5 (-(hi*18446744073709551616+lo)),true):=by
  unfold uH.j7 uH.KN
  rw[gL N ω ω l0 l1 ω ω,ak]
  by_cases hl:lo=0
  ·subst hl
   rw[ag ω]
   rw[gL N ω ω h0 ω ω ω,ak,dP]
   exact zJ (by split<;>omega) ω
  ·rw[af ω]
   rw[gL N ω ω h0 ω ω ω,ak,dP]
   exact zJ (by split<;>omega) ω
 rw[bo,aj,av ω,aj]
 by_cases he:hi=9223372036854775808
 ·rw[bW he,ah,av ω,aj];exact hj
 ·rw[cw he,aj];exact hj
theorem vU{a b:Int}(a0: -9223372036854775808≤a)(a1:a<9223372036854775808)(b0: -9223372036854775808≤b)(b1:b<9223372036854775808):
  0≤(a.natAbs:Int)*b.natAbs∧(a.natAbs:Int)*b.natAbs≤85070591730234615865843651857942052864:=by
 have:=mul_lt (m:=9223372036854775808) (n:=9223372036854775808) (show 0≤(a.natAbs:Int)by omega) (show 0≤(b.natAbs:Int)by omega) ω ω
 omega
theorem xy{a b:Int}(a0: -9223372036854775808≤a)(a1:a<9223372036854775808)(b0: -9223372036854775808≤b)(b1:b<9223372036854775808):MM N a b=some (a5 (a*b)):=by
 unfold MM
 have hm:=vU a0 a1 b0 b1
 simp only[qb N a0 a1,qb N b0 b1,ak,zw N (show 0≤(a.natAbs:Int)by omega) ω (show 0≤(b.natAbs:Int)by omega) ω,ny]
 obtain⟨m,Oq⟩: ∃m,m=(a.natAbs:Int)*b.natAbs:=⟨_,rfl⟩
 rw[←Oq]at hm ⊢
 have hd:m/18446744073709551616*18446744073709551616+m%18446744073709551616=m:=ω
 by_cases h1:a<0<;>by_cases h2:b<0
 ·rw[aD h1,aD h2,tq,bo,uG N ω ω ω ω,ak,hd]
  have:m=a*b:=by rw[Oq,show(a.natAbs:Int)= -a from by omega,show(b.natAbs:Int)= -b from by omega,Int.neg_mul_neg]
  rw[this]
 ·rw[aD h1,av (x:=b) ω,show(!(true==false))=true from rfl,lP N ω ω ω ω,ak,hd]
  have:m= -(a*b):=by rw[Oq,show(a.natAbs:Int)= -a from by omega,show(b.natAbs:Int)=b from by omega,Int.neg_mul]
  rw[this,Int.neg_neg]
 ·rw[av (x:=a) ω,aD h2,show(!(false==true))=true from rfl,lP N ω ω ω ω,ak,hd]
  have:m= -(a*b):=by rw[Oq,show(a.natAbs:Int)=a from by omega,show(b.natAbs:Int)= -b from by omega,pv]
  rw[this,Int.neg_neg]
 ·rw[av (x:=a) ω,av (x:=b) ω,tq,bo,uG N ω ω ω ω,ak,hd]
  have:m=a*b:=by rw[Oq,show(a.natAbs:Int)=a from by omega,show(b.natAbs:Int)=b from by omega]
  rw[this]
theorem Fj{v:Int}(v0: -170141183460469231731687303715884105728≤v)(v1:v<170141183460469231731687303715884105728):Qj N (a5 v)=some ((v.natAbs:Int)/18446744073709551616,(v.natAbs:Int)%18446744073709551616):=by
 unfold Qj a5
 dsimp only
 by_cases h:0≤v
 ·rw[cP ω,ah,bb ω ω]
  exact Fi ω ω
 ·rw[cE ω,aj,gL N ω ω ω ω ω ω,ak]
  dsimp only
  rw[gd]
  by_cases hl:v%18446744073709551616=0
  ·rw[ag ω,gL N ω ω ω ω ω ω,ak]
   exact Fi ω ω
  ·rw[af ω,gL N ω ω ω ω ω ω,ak]
   exact Fi ω ω
theorem HQ{m d:Int}(hd:0<d)(hm:0≤m):m/d=m/18446744073709551616/d*18446744073709551616+(m/18446744073709551616%d*18446744073709551616+m%18446744073709551616)/d∧
  m%d=(m/18446744073709551616%d*18446744073709551616+m%18446744073709551616)%d:=by
 have e:=ld (m/18446744073709551616) d
 have e0:m=(m/18446744073709551616%d*18446744073709551616+m%18446744073709551616)+d*(m/18446744073709551616/d*18446744073709551616):=by
  rw[←c6];omega
 constructor
 ·conv=>lhs;rw[e0]
  rw[ta _ _ ω];omega
 ·conv=>lhs;rw[e0]
  rw[yl]
theorem HS(hN:100≤N){v d:Int}(v0: -170141183460469231731687303715884105728≤v)(v1:v<170141183460469231731687303715884105728)(d0:0<d)(d1:d<9223372036854775808):
  wI N (a5 v) d=some (a5 (v/d),v%d,true):=by
 unfold wI wI.b
 rw[av ω,aj,Fj N v0 v1,ak,bb (x:=d) ω ω]
 dsimp only
 obtain⟨m,hm⟩: ∃m:Int,m=v.natAbs:=⟨_,rfl⟩
 rw[←hm]
 have Ws:=lf (m/18446744073709551616) d0
 have R6:=kt (m/18446744073709551616) (show d≠0 by omega)
 rw[zz N hN ω d0 ω ω ω,ak,Int.zero_mul,Int.zero_add]
 dsimp only
 rw[zz N hN R6 Ws ω ω ω,ak]
 dsimp only
 obtain⟨e1,e2⟩:=HQ d0 (show 0≤m by omega)
 rw[←e2]
 have om:0≤m/18446744073709551616/d:=fH ω ω
 have IV:m/18446744073709551616/d≤m/18446744073709551616:=Int.ediv_le_self _ ω
 have DL:=lf m d0
 have DI:=kt m (show d≠0 by omega)
 have MY:0≤(m/18446744073709551616%d*18446744073709551616+m%18446744073709551616)/d:=fH ω ω
 have Kr:(m/18446744073709551616%d*18446744073709551616+m%18446744073709551616)/d<18446744073709551616:=by
  rw[nI d0]
  have:=kY (show m/18446744073709551616%d+1≤d by omega) (show(0:Int)≤18446744073709551616 by omega)
  rw[fK,iN,cG d]at this;omega
 generalize (m/18446744073709551616%d*18446744073709551616+m%18446744073709551616)/d=ql at*
 generalize YV:m/18446744073709551616/d=qh at*
 have Qk:=ld m d
 by_cases h:0≤v
 ·have hv:m=v:=ω
  rw[cP (show(0:Int)≤(a5 v).1 by show 0≤v/_;omega),ah,aJ (x:=qh) ω ω,aJ (x:=m%d) ω ω,←hv]
  unfold a5
  exact zJ ω ω
 ·have hv:v= -m:=ω
  rw[cE (show(a5 v).1<0 by show v/_<0;omega),aj]
  by_cases hr:0<m%d
  ·rw[aD hr,ah,kN N MY ω ω ω,ak]
   unfold wI.MN wI.HT
   dsimp only
   rw[bb (x:=d-m%d) ω ω,bb (x:=qh+(ql+1+0)/18446744073709551616) ω ω]
   rw[lP N ω ω ω (by
    have:m/d*1≤m/d*d:=nH ω (fH ω ω)
    rw[cG]at Qk;omega),ak,aJ (x:=d-m%d) ω ω]
   have e3:v=(d-m%d)+d*(-(m/d)-1):=by rw[hv,Int.mul_sub,pv,Int.mul_one];omega
   have e4:v/d= -(m/d)-1:=by
    rw[e3,ta _ _ ω,yx ω ω];omega
   have e5:v%d=d-m%d:=by rw[e3,yl,Int.emod_eq_of_lt ω ω]
   rw[e4,e5]
   dsimp only
   rw[show-((qh+(ql+1+0)/18446744073709551616)*18446744073709551616+(ql+1+0)%18446744073709551616)= -(m/d)-1 by omega]
  ·have jV:m%d=0:=ω
   rw[av ω,aj]
   unfold wI.MN wI.HT
   rw[lP N ω ω ω (by
    have:m/d*1≤m/d*d:=nH ω (fH ω ω)
    rw[cG]at Qk;omega),ak,aJ (x:=m%d) ω ω]
   have e3:v=d*(-(m/d)):=by rw[hv,pv];omega
   have e4:v/d= -(m/d):=by rw[e3,Int.mul_ediv_cancel_left _ ω]
   have e5:v%d=0:=by rw[e3,Int.mul_emod_right]
   rw[e4,e5,jV]
   dsimp only
   rw[show-(qh*18446744073709551616+ql)= -(m/d)by omega]
theorem xz{v:Int}(v0: -170141183460469231731687303715884105728≤v)(v1:v<170141183460469231731687303715884105728):KW N (a5 v)=some (C9 v):=by
 unfold KW a5
 rw[av ω,aj]
 dsimp only
 have TL: -9223372036854775808≤W .i64 (v%18446744073709551616)∧W .i64 (v%18446744073709551616)<9223372036854775808:=by rw[dP];split<;>omega
 rw[je TL.1 TL.2]
 have R7:W .i64 (v%18446744073709551616)=if 9223372036854775808≤v%18446744073709551616 then v%18446744073709551616-18446744073709551616 else v%18446744073709551616:=by rw[dP];split<;>split<;>omega
 rw[R7]
 unfold C9
 by_cases h: -9223372036854775808≤v∧v<9223372036854775808
 ·rw[af h]
  by_cases hn:v<0
  ·rw[af (show 9223372036854775808≤v%18446744073709551616 by omega),af ω,bW ω,bo,aj]
   congr 2;omega
  ·rw[ag (show ¬9223372036854775808≤v%18446744073709551616 by omega),ag ω,bW ω,bo,aj]
   congr 2;omega
 ·rw[ag h]
  by_cases hm:9223372036854775808≤v%18446744073709551616
  ·rw[af hm,af ω,cw ω,bS,ah]
  ·rw[ag hm,ag ω,cw ω,bS,ah]
theorem wJ(N:Nat){l:List Int}(h: ∀x∈l,-9223372036854775808≤x∧x<9223372036854775808)(hl:l.length≤1000000): ∀(m n i:Nat),l.length-i≤m→m<n→i≤l.length→
  uI.l3 N n ((l.take i).sum/18446744073709551616) ((l.take i).sum%18446744073709551616) l (l.length:Int) (i:Int)=some (C9 l.sum)
 |m,0,i,_,hn,_=>ω
 |m,n+1,i,hm,hn,hi=>by
  unfold uI.l3 uI.wH
  have f1:=BQ (l.take i) (λx hx=>h x (ig hx))
  rw[aT,c5 ω]at f1
  by_cases h1:i<l.length
  ·obtain⟨g0,g1⟩:=Fh h i
   have hs:=jZ l h1
   simp only[aI]
   generalize hx:l.getD i 0=x at*
   generalize (l.take i).sum=t at*
   rw[gd,kN N ω ω ω ω]
   simp only[je g0 g1]
   have R8:=wJ N h hl (m-1) n (i+1) ω ω ω
   rw[hs]at R8
   rw[aD ω,ah,aU ω ω,ah,ak,av ω,aj]
   by_cases hn:x<0
   ·rw[af hn,aJ (x:=t/18446744073709551616+ -1) ω ω,aJ (x:=(_:Int)/18446744073709551616) ω ω,aJ ω ω,aJ (x:=(i:Int)+1) ω ω]
    refine Eq.trans ?_ R8
    congr 1<;>omega
   ·rw[ag hn,aJ (x:=t/18446744073709551616+0) ω ω,aJ (x:=(_:Int)/18446744073709551616) ω ω,aJ ω ω,aJ (x:=(i:Int)+1) ω ω]
    refine Eq.trans ?_ R8
    congr 1<;>omega
  ·rw[eA ω]at f1 ⊢
   rw[av ω,aj]
   have:=xz N (v:=l.sum) ω ω
   unfold KW a5 at this
   exact this
theorem HU{l:List Int}(h: ∀x∈l,-9223372036854775808≤x∧x<9223372036854775808)(hl:l.length≤1000000)(hN:1000000<N):uI N l=some (C9 l.sum):=by
 unfold uI uI.b
 have:=wJ N h hl l.length N 0 ω ω ω
 rw[ph,List.sum_nil]at this
 exact this
end VM
end
section
namespace VM
open Go
variable(N:Nat)
theorem cond_not{α:Type}(b:Bool)(x y:α):cond (!b) x y=cond b y x:=by cases b<;>rfl
theorem eY{α:Type}(a b:Int)(x y:α):cond (bu a b) x y=if a<b then x else y:=by
 by_cases h:a<b
 ·rw[aD h,af h];rfl
 ·rw[av ω,ag h];rfl
theorem cS{α:Type}(a b:Int)(x y:α):cond (dK a b) x y=if a≤b then x else y:=by
 by_cases h:a≤b
 ·rw[cP h,af h];rfl
 ·rw[cE ω,ag h];rfl
theorem bx{α:Type}(a b:Int)(x y:α):cond (cg a b) x y=if a=b then x else y:=by
 by_cases h:a=b
 ·rw[bW h,af h];rfl
 ·rw[cw h,ag h];rfl
theorem fU{α:Type}(p:Prop) [Decidable p](x y:α):cond (decide p) x y=if p then x else y:=by
 by_cases h:p
 ·rw[bn h,af h];rfl
 ·rw[bt h,ag h];rfl
theorem drop_cons{α:Type}{l:List α}{i:Nat}(h:i<l.length)(d:α):l.drop i=l.getD i d::l.drop (i+1):=by
 rw[kZ h,aW,a6 h];rfl
theorem uK{α σ β:Type}(l:List α)(d:α)(F:Nat→Int→σ→Option β)(g:List α→σ→Option β)(I:Nat→σ→Prop)
  (hs: ∀n i s,i<l.length→I i s→(∀s',I (i+1) s'→F n ((i+1:Nat):Int) s'=g (l.drop (i+1)) s')→F (n+1) (i:Int) s=g (l.getD i d::l.drop (i+1)) s)
  (he: ∀n s,I l.length s→F (n+1) (l.length:Int) s=g [] s): ∀m n i s,l.length-i≤m→m<n→i≤l.length→I i s→F n (i:Int) s=g (l.drop i) s
 |m,0,i,s,_,hn,_,_=>ω
 |m,n+1,i,s,hm,hn,hi,hI=>by
  by_cases h:i<l.length
  ·rw[drop_cons h d]
   exact hs n i s h hI λs' rK=>uK l d F g I hs he (m-1) n (i+1) s' ω ω ω rK
  ·have:i=l.length:=ω
   subst this
   rw[List.drop_length];exact he n s hI
theorem Fk{α β:Type}(l:List α)(d:α)(F:Nat→Int→Option β)(g:List α→Option β)
  (hs: ∀n i,i<l.length→F n ((i+1:Nat):Int)=g (l.drop (i+1))→F (n+1) (i:Int)=g (l.getD i d::l.drop (i+1)))
  (he: ∀n,F (n+1) (l.length:Int)=g []) (n:Nat) (hn:l.length<n):F n 0=g l:=by
 have:=uK (σ:=Unit) l d (λn i _=>F n i) (λl _=>g l) (λ_ _=>True) (λn i _ h _ hr=>hs n i h (hr () trivial)) (λn _ _=>he n) l.length n 0 () ω hn ω trivial
 simpa using this
theorem scan{F:Nat→Int→Option Bool}{len:Nat}(P:Nat→Prop) [DecidablePred P]
  (hs: ∀n i r,i<len→(∀j,j<i→P j)→F n ((i+1:Nat):Int)=r→F (n+1) (i:Int)=if P i then r else some false) {e:Bool} (he: ∀n,F (n+1) (len:Int)=some e):
  ∀m n i,len-i≤m→m<n→i≤len→(∀j,j<i→P j)→F n (i:Int)=some (decide (∀j,j<len→i≤j→P j)&&e)
 |m,0,i,_,hn,_,_=>ω
 |m,n+1,i,hm,hn,hi,hp=>by
  by_cases h:i<len
  ·rw[hs n i _ h hp rfl]
   by_cases hP:P i
   ·rw[af hP,scan P hs he (m-1) n (i+1) ω ω ω (λj hj=>by
     by_cases uu:j=i
     ·subst uu;exact hP
     ·exact hp j ω)]
    congr 2
    rw[mQ]
    refine⟨λhj j h2 h1=> ?_,λhj j h2 h1=>hj j h2 ω⟩
    by_cases uu:j=i
    ·subst uu;exact hP
    ·exact hj j h2 ω
   ·rw[ag hP,bt (λhj=>hP (hj i h (aB i)))];rfl
  ·have:i=len:=ω
   subst this
   rw[he n,bn (λj h2 h1=>absurd h2 ω)];rfl
theorem kP{F:Nat→Int→Option Bool}{len:Nat}(P:Nat→Prop) [DecidablePred P]{e:Bool}
  (hs: ∀n i r,i<len→(∀j,j<i→P j)→F n ((i+1:Nat):Int)=r→F (n+1) (i:Int)=if P i then r else some false) (he: ∀n,F (n+1) (len:Int)=some e) (n:Nat) (hn:len<n):
  F n 0=some (decide (∀j,j<len→P j)&&e):=by
 have:=scan P hs he len n 0 ω hn ω (λj hj=>absurd hj ω)
 rw[show((0:Nat):Int)=0 from rfl]at this
 rw[this]
 congr 2
 rw[mQ]
 exact⟨λh j hj=>h j hj ω,λh j hj _=>h j hj⟩
end VM
end
section
namespace VM
open Go VM.F
variable(N:Nat)
def bN(x:Int):Prop:= -170141183460469231731687303715884105728≤x∧x<170141183460469231731687303715884105728
instance(x:Int):Decidable (bN x):=by unfold bN;infer_instance
theorem q4{x:Int}(h0: -9223372036854775808≤x)(h1:x<9223372036854775808):F8 N x=some (a5 x):=by
 unfold F8
 rw[av ω,aj,je h0 h1,gd]
 congr 1
 exact TK (by split<;>omega) rfl
theorem HV{ws:List Int}(i:Nat):(ws.map a5).getD i cO=a5 (ws.getD i 0):=by
 by_cases h:i<ws.length
 ·rw[aW,pa,a6 h,aW,a6 h];rfl
 ·rw[aW,eB (by rw[fG];omega),aW,eB ω];rfl
theorem KX{ws:List Int}(h: ∀x∈ws,bN x): -(170141183460469231731687303715884105728*(ws.length:Int))≤ws.sum∧ws.sum≤170141183460469231731687303715884105728*(ws.length:Int):=by
 induction ws with
 |nil=>simp
 |cons x ws ih=>
  have h0:=h x (ba ..)
  have ih:=ih (λy hy=>h y (a7 _ hy))
  unfold bN at h0
  rw[fI,aE];omega
theorem Fl{t w:Int}{lo hi top:Int}(hw:bN w)(mG:lo=t%18446744073709551616)(An:hi=t/18446744073709551616%18446744073709551616)(R9:top=t/340282366920938463463374607431768211456):
  (lo+w%18446744073709551616+0)%18446744073709551616=(t+w)%18446744073709551616∧
  (hi+(w/18446744073709551616)%18446744073709551616+(lo+w%18446744073709551616+0)/18446744073709551616)%18446744073709551616=(t+w)/18446744073709551616%18446744073709551616∧
  top+(if w/18446744073709551616<0 then-1 else 0)+(hi+(w/18446744073709551616)%18446744073709551616+(lo+w%18446744073709551616+0)/18446744073709551616)/18446744073709551616=(t+w)/340282366920938463463374607431768211456:=by
 unfold bN at hw
 subst mG An R9
 refine⟨ω,ω,?_⟩
 split<;>omega
def zK(t:Int):aA×Bool:=if bN t then(a5 t,true)else(cO,false)
theorem Wt(x:Int):W .u64 x=x%18446744073709551616:=gd x
theorem wK(N:Nat){ws:List Int}(h: ∀x∈ws,bN x)(hl:ws.length≤1000000): ∀(m n i:Nat) (t:Int),ws.length-i≤m→m<n→i≤ws.length→t=(ws.take i).sum→
  rZ.l3 N n cO (t/340282366920938463463374607431768211456) (t/18446744073709551616%18446744073709551616) (t%18446744073709551616) (ws.map a5) (ws.length:Int) (i:Int)=some (zK ws.sum)
 |m,0,i,t,_,hn,_,_=>ω
 |m,n+1,i,t,hm,hn,hi,ht=>by
  unfold rZ.l3 rZ.wH
  have f1:=KX (ws:=ws.take i) (λx hx=>h x (ig hx))
  rw[aT,c5 ω,←ht]at f1
  by_cases h1:i<ws.length
  ·have hw:bN (ws.getD i 0):=by
    rw[aW,a6 h1];exact h _ (eD h1)
   have hs:=jZ ws h1
   rw[←ht]at hs
   have st:=Fl (t:=t) (w:=ws.getD i 0) hw rfl rfl rfl
   have Da:=wK N h hl (m-1) n (i+1) (t+ws.getD i 0) ω ω ω hs.symm
   rw[aD ω,ah,aU ω (by rw[fG];omega),ah,aI,HV]
   unfold a5
   dsimp only
   have Wu:=hw
   unfold bN at Wu
   generalize ws.getD i 0=w at*
   have hq:0≤(t%18446744073709551616+w%18446744073709551616+0)/18446744073709551616∧(t%18446744073709551616+w%18446744073709551616+0)/18446744073709551616≤1:=ω
   rw[kN N ω ω ω ω,ak,Wt,kN N ω ω hq.1 hq.2,ak,av (x:=63) ω,aj,st.1,st.2.1]
   rw[je ω ω]
   have hc:0≤(t/18446744073709551616%18446744073709551616+w/18446744073709551616%18446744073709551616+(t%18446744073709551616+w%18446744073709551616+0)/18446744073709551616)/18446744073709551616∧(t/18446744073709551616%18446744073709551616+w/18446744073709551616%18446744073709551616+(t%18446744073709551616+w%18446744073709551616+0)/18446744073709551616)/18446744073709551616≤1:=ω
   have YW: -1≤(if w/18446744073709551616<0 then(-1:Int)else 0)∧(if w/18446744073709551616<0 then(-1:Int)else 0)≤0:=by split<;>omega
   rw[aJ (x:=t/340282366920938463463374607431768211456+_) ω ω,aJ (x:=(_:Int)/18446744073709551616) ω ω,st.2.2,aJ ω ω,aJ (x:=(i:Int)+1) ω ω]
   exact Da
  ·have e:(ws.take i).sum=ws.sum:=by rw[eA ω]
   rw[e]at ht
   rw[av ω,aj,av (x:=63) ω,aj,←ht]
   have hh: -9223372036854775808≤W .i64 (t/18446744073709551616%18446744073709551616)∧W .i64 (t/18446744073709551616%18446744073709551616)<9223372036854775808:=by rw[dP];split<;>omega
   have R7:W .i64 (t/18446744073709551616%18446744073709551616)=if 9223372036854775808≤t/18446744073709551616%18446744073709551616 then t/18446744073709551616%18446744073709551616-18446744073709551616 else t/18446744073709551616%18446744073709551616:=by rw[dP];split<;>split<;>omega
   rw[je hh.1 hh.2,R7]
   unfold zK
   by_cases hI:bN t
   ·rw[af hI]
    unfold bN at hI
    rw[bW (by split<;>split<;>omega),bo,aj]
    exact zJ (by split<;>omega) rfl
   ·rw[ag hI]
    unfold bN at hI
    rw[cw (by split<;>split<;>omega),bS,ah]
theorem BR{ws:List Int}(h: ∀x∈ws,bN x)(hl:ws.length≤1000000)(hN:1000000<N):rZ N (ws.map a5)=some (zK ws.sum):=by
 unfold rZ rZ.b
 rw[fG]
 exact wK N h hl ws.length N 0 0 ω ω ω (by simp)
theorem oJ(a lo hi:Int):DP N a lo hi=some (decide (lo≤a∧a≤hi)):=by
 unfold DP
 rw[cS,jR]
 by_cases h:lo≤a
 ·rw[af h];congr 1;rw[mQ];omega
 ·rw[ag h,bt ω]
def qf(a b c d:Int):Prop:=(0≤a∧a≤3)∧(1≤b∧b≤1000000000000)∧(0≤c∧c≤1000000000)∧(0≤d∧d≤1000000000)
instance(a b c d:Int):Decidable (qf a b c d):=by unfold qf;infer_instance
def oK(l:cz)(i:Nat):Prop:=qf (l.getD i bC).1 (l.getD i bC).2.1 (l.getD i bC).2.2.1 (l.getD i bC).2.2.2.1
instance(l:cz):DecidablePred (oK l):=λi=>by unfold oK;infer_instance
def qg(a b c d e f:Int):Prop:=0≤a∧(0≤b∧b≤4)∧(0≤c∧c≤1000000)∧(0≤d∧d≤1000000)∧(1≤e∧e≤4611686018427387904)∧0≤f
instance(a b c d e f:Int):Decidable (qg a b c d e f):=by unfold qg;infer_instance
def q5(c:al):Prop:=qg c.2.1 c.2.2.1 c.2.2.2.1 c.2.2.2.2.1 c.2.2.2.2.2.1 c.2.2.2.2.2.2.1
instance(c:al):Decidable (q5 c):=by unfold q5;infer_instance
def lQ(c:al):Bool:=decide (1≤c.1.length∧c.1.length≤6)&&(decide (∀j,j<c.1.length→oK c.1 j)&&decide (q5 c))
theorem xA(hN:100≤N)(c:al):q6 N c=some (lQ c):=by
 unfold q6 q6.b lQ
 rw[oJ,ak,cond_not,fU]
 by_cases hl:1≤c.1.length∧c.1.length≤6
 ·rw[af ω,bn hl,ky]
  refine kP (F:=λn i=>q6.l4 N n c c.1 (c.1.length:Int) i) (oK c.1) (λn i r hi hp hr=> ?_) (λn=> ?_) N ω
  ·unfold q6.l4 q6.gN
   rw[aD ω,ah,aU ω ω,ah,aI,aJ ω ω,an]
   simp only[oJ,ak,cond_not,fU]
   by_cases hP:oK c.1 i
   ·rw[af hP];unfold oK qf at hP
    repeat' split
    all_goals first|rfl|exact hr|omega
   ·rw[ag hP];unfold oK qf at hP
    repeat' split
    all_goals first|rfl|exact hr|omega
  ·unfold q6.l4 q6.gN
   rw[av ω,aj]
   simp only[oJ,ak,cond_not,fU,cS,jR]
   by_cases hP:q5 c
   ·rw[bn hP];unfold q5 qg at hP
    repeat' split
    all_goals first|rfl|omega|(rw[bn ω])
   ·rw[bt hP];unfold q5 qg at hP
    repeat' split
    all_goals first|rfl|omega|(rw[bt ω])
 ·rw[ag ω,bt hl,tx]
def gj(a b:Int)(i:Nat)(c:Int):Prop:=1≤a∧a≤12∧1≤b∧b≤4∧(0<i→c<a)
instance(a b:Int)(i:Nat)(c:Int):Decidable (gj a b i c):=by unfold gj;infer_instance
def eZ(m:aH)(i:Nat):Prop:=gj (m.getD i cO).1 (m.getD i cO).2.1 i (m.getD (i-1) cO).1
instance(m:aH):DecidablePred (eZ m):=λi=>by unfold eZ;infer_instance
def dQ(m:aH):Bool:=decide (∀j,j<m.length→eZ m j)&&true
theorem uM{m:aH}(hl:m.length≤100000)(hN:200000≤N):sa N m=some (dQ m):=by
 unfold sa sa.b
 refine kP (F:=λn i=>sa.l2 N n m m (m.length:Int) i) (eZ m) (λn i r hi hp hr=> ?_) (λn=> ?_) N ω
 ·unfold sa.l2 sa.jg
  rw[aD ω,ah,aU ω ω,ah,aI,aJ (x:=(i:Int)+1) ω ω,an]
  by_cases h0:0<i
  ·have e:W .i64 ((i:Int)-1)=((i-1:Nat):Int):=by rw[aJ ω ω];omega
   dsimp only
   rw[aD (x:=0) ω,ah,e,aI,aU ω ω,ah]
   simp only[eY,cS]
   by_cases hP:eZ m i
   ·rw[af hP];unfold eZ gj at hP
    repeat' split
    all_goals first|rfl|exact hr|omega
   ·rw[ag hP];unfold eZ gj at hP
    repeat' split
    all_goals first|rfl|exact hr|omega
  ·rw[av (x:=0) ω,aj]
   simp only[eY,cS]
   by_cases hP:eZ m i
   ·rw[af hP];unfold eZ gj at hP
    repeat' split
    all_goals first|rfl|exact hr|omega
   ·rw[ag hP];unfold eZ gj at hP
    repeat' split
    all_goals first|rfl|exact hr|omega
 ·unfold sa.l2 sa.jg
  rw[av ω,aj]
def kQ(k n:Int):Prop:=(1≤k∧k≤4∧n=0)∨(k=5∧1≤n∧n≤24)∨(6≤k∧k≤7∧1≤n∧n≤12)
instance(k n:Int):Decidable (kQ k n):=by unfold kQ;infer_instance
theorem KY(k n:Int):Ql N k n=some (decide (kQ k n)):=by
 unfold Ql
 simp only[bx,cS]
 simp only[jR,eL]
 by_cases hP:kQ k n
 ·rw[bn hP];unfold kQ at hP
  repeat' split
  all_goals first|rfl|omega|(rw[bn ω])
 ·rw[bt hP];unfold kQ at hP
  repeat' split
  all_goals first|rfl|omega|(rw[bt ω])
def mv(a b c d:Int):Prop:=a<c∨(a=c∧b<d)
instance(a b c d:Int):Decidable (mv a b c d):=by unfold mv;infer_instance
def AQ(k n a b:Int):Int:=if k=a then n-b else k-a
def zL(x:Int):Prop:= -1000000≤x∧x≤1000000
theorem zM{k n:Int}{r:zN}(h1:zL k)(h2:zL n)(h3:zL r.1)(h4:zL r.2.1):Qm N k n r=some (AQ k n r.1 r.2.1):=by
 unfold Qm AQ
 unfold zL at*
 rw[cond_not,bx]
 split
 ·rw[aJ ω ω]
 ·rw[aJ ω ω]
theorem Db{k n:Int}{r:zN}(h1:zL k)(h2:zL n)(h3:zL r.1)(h4:zL r.2.1):Sa N k n r=some (AQ k n r.1 r.2.1):=zM N h1 h2 h3 h4
def lR(a b c:Int)(i:Nat)(d e:Int):Prop:=kQ a b∧c≠0∧(0<i→mv d e a b)
instance(a b c:Int)(i:Nat)(d e:Int):Decidable (lR a b c i d e):=by unfold lR;infer_instance
def mw(l:bF)(i:Nat):Prop:=lR (l.getD i eu).1 (l.getD i eu).2.1 (l.getD i eu).2.2.1 i (l.getD (i-1) eu).1 (l.getD (i-1) eu).2.1
instance(l:bF):DecidablePred (mw l):=λi=>by unfold mw;infer_instance
def q7(l:bF):Bool:=decide (∀j,j<l.length→mw l j)&&true
theorem BS{l:bF}(hl:l.length≤100000)(hN:200000≤N):sb N l=some (q7 l):=by
 unfold sb sb.b
 refine kP (F:=λn i=>sb.l2 N n l l (l.length:Int) i) (mw l) (λn i r hi hp hr=> ?_) (λn=> ?_) N ω
 ·unfold sb.l2 sb.jg
  rw[aD ω,ah,aU ω ω,ah,aI,aJ (x:=(i:Int)+1) ω ω,an,KY,ak,cond_not,fU]
  by_cases hK:kQ (l.getD i eu).1 (l.getD i eu).2.1
  ·rw[af hK]
   by_cases h0:0<i
   ·have hq:=hp (i-1) ω
    have e:W .i64 ((i:Int)-1)=((i-1:Nat):Int):=by rw[aJ ω ω];omega
    dsimp only
    rw[aD (x:=0) ω,ah,e,aI,aU ω ω,ah]
    unfold mw lR at hq
    have hq:=hq.1
    rw[zM N (by unfold kQ at hK;unfold zL;omega) (by unfold kQ at hK;unfold zL;omega) (by unfold kQ at hq;unfold zL;omega) (by unfold kQ at hq;unfold zL;omega),ak,bx,cS]
    by_cases hP:mw l i
    ·rw[af hP];unfold mw lR mv at hP;unfold AQ
     have GM:=hP.2
     repeat' split
     all_goals first|rfl|exact hr|omega
    ·rw[ag hP];unfold mw lR mv at hP;unfold AQ
     have GM:=λh=>hP ⟨hK,h⟩
     repeat' split
     all_goals first|rfl|exact hr|omega|(exfalso;exact GM ω)
   ·rw[av (x:=0) ω,aj,bx]
    by_cases hP:mw l i
    ·rw[af hP];unfold mw lR at hP
     rw[ag hP.2.1];exact hr
    ·rw[ag hP];unfold mw lR at hP
     have GM:=λh=>hP ⟨hK,h,λh=>absurd h h0⟩
     split
     ·rfl
     ·exact absurd (by assumption) GM
  ·rw[ag hK,ag (λh=>hK (by unfold mw lR at h;exact h.1))]
 ·unfold sb.l2 sb.jg
  rw[av ω,aj]
def dW(a b:Int):Prop:=0≤a∧a≤24∧0≤b∧b<6
instance(a b:Int):Decidable (dW a b):=by unfold dW;infer_instance
theorem HW(a b:Int):Qn N a b=some (decide (dW a b)):=by
 unfold Qn
 simp only[cS]
 simp only[lh]
 by_cases hP:dW a b
 ·rw[bn hP];unfold dW at hP
  repeat' split
  all_goals first|rfl|omega|(rw[bn ω])
 ·rw[bt hP];unfold dW at hP
  repeat' split
  all_goals first|rfl|omega|(rw[bt ω])
def vV(q:Int):Prop:=q≠ -9223372036854775808
instance(q:Int):Decidable (vV q):=by unfold vV;infer_instance
theorem sd(q:Int):Ot N q=some (decide (vV q)):=by
 unfold Ot vV
 rw[eL]
 by_cases h:q= -9223372036854775808<;>simp[h]
def j1(a b c:Int)(i:Nat)(d e:Int):Prop:=dW a b∧c≠0∧vV c∧(0<i→mv d e a b)
instance(a b c:Int)(i:Nat)(d e:Int):Decidable (j1 a b c i d e):=by unfold j1;infer_instance
def kR(l:bF)(i:Nat):Prop:=j1 (l.getD i eu).1 (l.getD i eu).2.1 (l.getD i eu).2.2.1 i (l.getD (i-1) eu).1 (l.getD (i-1) eu).2.1
instance(l:bF):DecidablePred (kR l):=λi=>by unfold kR;infer_instance
def fV(l:bF):Bool:=decide (∀j,j<l.length→kR l j)&&true
theorem uN{l:bF}(hl:l.length≤100000)(hN:200000≤N):q8 N l=some (fV l):=by
 unfold q8 q8.b
 refine kP (F:=λn i=>q8.l2 N n l l (l.length:Int) i) (kR l) (λn i r hi hp hr=> ?_) (λn=> ?_) N ω
 ·unfold q8.l2 q8.jg
  rw[aD ω,ah,aU ω ω,ah,aI,aJ (x:=(i:Int)+1) ω ω,an,HW,ak,cond_not,fU,sd,ak,cond_not,fU]
  by_cases hK:dW (l.getD i eu).1 (l.getD i eu).2.1
  ·rw[af hK]
   by_cases h0:0<i
   ·have hq:=hp (i-1) ω
    have e:W .i64 ((i:Int)-1)=((i-1:Nat):Int):=by rw[aJ ω ω];omega
    dsimp only
    rw[aD (x:=0) ω,ah,e,aI,aU ω ω,ah]
    unfold kR j1 at hq
    have hq:=hq.1
    rw[Db N (by unfold dW at hK;unfold zL;omega) (by unfold dW at hK;unfold zL;omega) (by unfold dW at hq;unfold zL;omega) (by unfold dW at hq;unfold zL;omega),ak,bx,cS]
    by_cases hP:kR l i
    ·rw[af hP];unfold kR j1 mv at hP;unfold AQ
     obtain⟨_,YX,GM,YY⟩:=hP
     rw[af GM]
     repeat' split
     all_goals first|rfl|exact hr|omega
    ·rw[ag hP];unfold kR j1 mv at hP;unfold AQ
     have GM:=λh1 h2 h3=>hP ⟨hK,h1,h2,h3⟩
     repeat' split
     all_goals first|rfl|exact hr|(exfalso;exact GM (by assumption) (by assumption) ω)|omega
   ·rw[av (x:=0) ω,aj,bx]
    by_cases hP:kR l i
    ·rw[af hP];unfold kR j1 at hP
     rw[ag hP.2.1,af hP.2.2.1];exact hr
    ·rw[ag hP];unfold kR j1 at hP
     have GM:=λh1 h2=>hP ⟨hK,h1,h2,λh=>absurd h h0⟩
     split
     ·rfl
     ·split
      ·exact(GM (by assumption) (by assumption)).elim
      ·rfl
  ·rw[ag hK,ag (λh=>hK (by unfold kR j1 at h;exact h.1))]
 ·unfold q8.l2 q8.jg
  rw[av ω,aj]
theorem fW(a b:Int)(y:Bool):cond (dK a b) (some y) (some false)=some (decide (a≤b)&&y):=by
 rw[cS];by_cases h:a≤b<;>simp[h]
theorem Fm(a b:Int)(y:Bool):cond (bu a b) (some y) (some false)=some (decide (a<b)&&y):=by
 rw[eY];by_cases h:a<b<;>simp[h]
theorem Fo(a b:Int)(y:Bool):cond (cg a b) (some y) (some false)=some (decide (a=b)&&y):=by
 rw[bx];by_cases h:a=b<;>simp[h]
theorem Dc(a b:Int)(y z:Bool):cond (cg a b) (some y) (some z)=some ((decide (a=b)&&y)||(!decide (a=b)&&z)):=by
 rw[bx];by_cases h:a=b<;>simp[h]
def xB(a b c d e f:Int):Prop:=(1≤a∧a≤1099511627776)∧(1≤b∧b≤24)∧(0≤c∧c<6)∧(d=1∨d=2)∧(1≤e∧e≤1000000000)∧(1≤f∧f≤1000000000000)
instance(a b c d e f:Int):Decidable (xB a b c d e f):=by unfold xB;infer_instance
def wL(o:Fp):Prop:=xB o.1 o.2.1 o.2.2.1 o.2.2.2.1 o.2.2.2.2.1 o.2.2.2.2.2.1
instance(o:Fp):Decidable (wL o):=by unfold wL;infer_instance
theorem KZ(o:Fp):Qo N o=some (decide (wL o)):=by
 unfold Qo
 rw[jR o.2.2.2.2.2.1]
 rw[fW,fW,fW,Fo,Dc,Fm,fW,fW,fW,fW,fW]
 congr 1
 rw[pc,mO]
 unfold wL xB
 simp only[aV,mT,o9,ti,decide_eq_false_iff_not]
 omega
theorem Dd(p:Int):Qp N p=some (decide (1≤p∧p≤1000000000000)):=by
 unfold Qp
 rw[jR p,fW];congr 1
 rw[pc];simp only[aV,ti]
def uO(i:Nat)(a b:Int):Prop:=0<i→a<b
instance(i:Nat)(a b:Int):Decidable (uO i a b):=by unfold uO;infer_instance
def qi(l:qj)(i:Nat):Prop:=wL (l.getD i Au)∧uO i (l.getD (i-1) Au).1 (l.getD i Au).1
instance(l:qj):DecidablePred (qi l):=λi=>by unfold qi;infer_instance
def uP(l:qj):Bool:=decide (∀j,j<l.length→qi l j)&&decide (l.length≤32)
theorem De{l:qj}(hl:l.length≤100000)(hN:200000≤N):sD N l=some (uP l):=by
 unfold sD sD.b
 refine kP (F:=λn i=>sD.l2 N n l l (l.length:Int) i) (qi l) (λn i r hi hp hr=> ?_) (λn=> ?_) N ω
 ·unfold sD.l2 sD.jg
  rw[aD ω,ah,aU ω ω,ah,aI,aJ (x:=(i:Int)+1) ω ω,an,KZ,ak,cond_not,fU]
  by_cases hK:wL (l.getD i Au)
  ·rw[af hK]
   by_cases h0:0<i
   ·have e:W .i64 ((i:Int)-1)=((i-1:Nat):Int):=by rw[aJ ω ω];omega
    dsimp only
    rw[aD (x:=0) ω,ah,e,aI,aU ω ω,ah,cS]
    by_cases hP:qi l i
    ·rw[af hP,ag (by have h2:=hP.2;unfold uO at h2;omega)];exact hr
    ·rw[ag hP,af]
     have h2: ¬uO i (l.getD (i-1) Au).1 (l.getD i Au).1:=λh=>hP ⟨hK,h⟩
     unfold uO at h2
     omega
   ·rw[av (x:=0) ω,aj,af ⟨hK,λh=>absurd h h0⟩];exact hr
  ·rw[ag hK,ag (λh=>hK h.1)]
 ·unfold sD.l2 sD.jg
  rw[av ω,aj,jR]
  congr 1;rw[mQ];omega
def gy(id:Int):aH→Int
 |[]=>0
 |x::t=>if x.1=id then x.2.1 else gy id t
def uQ(id:Int):cz→vW×Bool
 |[]=>(bC,false)
 |x::t=>if x.1=id then(x,true)else uQ id t
theorem qk(id:Int)(x:j2)(t:aH):gy id (x::t)=if x.1=id then x.2.1 else gy id t:=rfl
theorem uR(id:Int)(x:vW)(t:cz):uQ id (x::t)=if x.1=id then(x,true)else uQ id t:=rfl
theorem zO{m:aH}(hl:m.length≤100000)(hN:200000≤N)(id:Int):qC.l4 N N id m (m.length:Int) 0=some (gy id m):=by
 refine Fk m cO (λn i=>qC.l4 N n id m (m.length:Int) i) (λl=>some (gy id l)) (λn i hi hr=> ?_) (λn=> ?_) N ω
 ·unfold qC.l4 qC.gN
  rw[aD ω,ah,aU ω ω,ah,aI,aJ (x:=(i:Int)+1) ω ω,an,hr,bx]
  rw[qk]
  split<;>rfl
 ·unfold qC.l4 qC.gN
  rw[av ω,aj];rfl
def jh(m:aH)(id:Int):Int:=if dQ m then gy id m else 0
theorem wM{m:aH}(hl:m.length≤100000)(hN:200000≤N)(id:Int):qC N m id=some (jh m id):=by
 unfold qC qC.b jh
 rw[uM N hl hN,ak,cond_not,zO N hl hN]
 cases dQ m<;>rfl
theorem Df{m:cz}(hl:m.length≤100000)(hN:200000≤N)(id:Int):se.l4 N N id bC m (m.length:Int) 0=some (uQ id m):=by
 refine Fk m bC (λn i=>se.l4 N n id bC m (m.length:Int) i) (λl=>some (uQ id l)) (λn i hi hr=> ?_) (λn=> ?_) N ω
 ·unfold se.l4 se.gN
  rw[aD ω,ah,aU ω ω,ah,aI,aJ (x:=(i:Int)+1) ω ω,an,hr,bx]
  rw[uR]
  split<;>rfl
 ·unfold se.l4 se.gN
  rw[av ω,aj];rfl
def hO(a b:Int):Prop:=a=b
instance(a b:Int):Decidable (hO a b):=by unfold hO;infer_instance
def wN(l:cz)(k:Nat)(m:Int):Prop:=hO (l.getD k bC).2.2.1 1∧hO (l.getD k bC).2.1 m
instance(l:cz)(k:Nat)(m:Int):Decidable (wN l k m):=by unfold wN;infer_instance
def iA(l:cz)(i:Nat)(m:Int):Bool:=(List.range i).any λk=>decide (wN l k m)
theorem qm(l:cz)(i:Nat)(m:Int):iA l (i+1) m=(iA l i m||decide (wN l i m)):=by
 unfold iA
 rw[tv,List.any_append];simp
def q9(a b c d:Int):Prop:=(1≤a∧a≤24)∧(1≤b∧b≤12)∧(c=1∨c=2)∧(0≤d∧d≤1000000000000)
instance(a b c d:Int):Decidable (q9 a b c d):=by unfold q9;infer_instance
def ka(l:cz)(i:Nat):Prop:= ¬(hO (l.getD i bC).2.2.1 1∧iA l i (l.getD i bC).2.1=true)
instance(l:cz)(i:Nat):Decidable (ka l i):=by unfold ka;infer_instance
def wO(l:cz)(i:Nat):Prop:=q9 (l.getD i bC).1 (l.getD i bC).2.1 (l.getD i bC).2.2.1 (l.getD i bC).2.2.2.1∧uO i (l.getD (i-1) bC).1 (l.getD i bC).1∧ka l i
instance(l:cz):DecidablePred (wO l):=λi=>by unfold wO;infer_instance
def lT(l:cz):Bool:=decide (∀j,j<l.length→wO l j)&&true
def cC(l:cz)(i:Nat):List Bool:=(List.range 13).map λ(m:Nat)=>iA l i (m:Int)
theorem Dg{l:cz}{i:Nat}{b:Int}(h0:0≤b)(h1:b<13):(cC l i).getD b.toNat false=iA l i b:=by
 unfold cC
 rw[aW,pa,List.getElem?_range ω]
 show iA l i ((b.toNat:Nat):Int)=_
 rw[ij h0]
theorem zP{l:cz}{i:Nat}(h: ¬hO (l.getD i bC).2.2.1 1):cC l (i+1)=cC l i:=by
 unfold cC
 refine fc λm _=> ?_
 rw[qm,bt (λh'=>h h'.1),po]
theorem AS{l:cz}{i:Nat}(h:hO (l.getD i bC).2.2.1 1)(h0:(0:Int)≤(l.getD i bC).2.1):(cC l i).set ((l.getD i bC).2.1:Int).toNat true=cC l (i+1):=by
 refine tu (by unfold cC;simp) λk h1 h2=> ?_
 unfold cC at*
 rw[List.getElem_set]
 simp only[tk,o7]
 rw[qm]
 by_cases hk:((l.getD i bC).2.1:Int).toNat=k
 ·rw[af hk,bn (show wN l i (k:Int)from⟨h,by unfold hO;omega⟩),Bool.or_true]
 ·rw[ag hk,bt (λh':wN l i (k:Int)=>hk (by have:=h'.2;unfold hO at this;omega)),po]
theorem BT{l:cz}(hl:l.length≤100000)(hN:200000≤N):oP N l=some (lT l):=by
 unfold oP oP.b
 have h0:(List.replicate 13 false:List Bool)=cC l 0:=by unfold cC iA;rfl
 rw[h0]
 have:=kP (F:=λn i=>oP.l3 N n l (cC l i.toNat) l (l.length:Int) i) (e:=true) (wO l) (λn i r hi hp hr=> ?_) (λn=> ?_) N (show l.length<N by omega)
 ·exact this
 ·simp only[aI]at hr ⊢
  unfold oP.l3 oP.wH
  rw[aD ω,ah,aU ω ω,ah]
  simp only[aI]
  rw[aJ (x:=(i:Int)+1) ω ω,an]
  by_cases hF:q9 (l.getD i bC).1 (l.getD i bC).2.1 (l.getD i bC).2.2.1 (l.getD i bC).2.2.2.1
  ·have TM:=hF
   unfold q9 at TM
   have hT:cond (cg (l.getD i bC).2.2.1 1) (cond (c9 (l.getD i bC).2.1 13) (cond (γ (cC l i) (l.getD i bC).2.1.toNat false) (some false) (cond (c9 (l.getD i bC).2.1 13) (oP.l3 N n l (List.set (cC l i) (l.getD i bC).2.1.toNat true) l (l.length:Int) ((i+1:Nat):Int)) none)) none) (oP.l3 N n l (cC l i) l (l.length:Int) ((i+1:Nat):Int))=if ka l i then r else some false:=by
    rw[bx]
    by_cases hk:hO (l.getD i bC).2.2.1 1
    ·have kH:=hk
     unfold hO at kH
     rw[af kH,aU ω ω,ah,ah,Dg ω ω,AS hk ω,hr]
     by_cases ho:iA l i (l.getD i bC).2.1=true
     ·have gX: ¬ka l i:=λh=>h ⟨hk,ho⟩
      rw[ag gX,ho];rfl
     ·have gX:ka l i:=λh=>ho h.2
      rw[af gX,tj.2 ho];rfl
    ·have kH:=hk
     unfold hO at kH
     rw[ag kH,af (show ka l i from λh=>hk h.1),←zP hk,hr]
   have hP:wO l i↔uO i (l.getD (i-1) bC).1 (l.getD i bC).1∧ka l i:=⟨λh=>h.2,λh=>⟨hF,h⟩⟩
   have hD:(if wO l i then r else some false)=if uO i (l.getD (i-1) bC).1 (l.getD i bC).1 then(if ka l i then r else some false)else some false:=by
    by_cases h1:uO i (l.getD (i-1) bC).1 (l.getD i bC).1<;>by_cases h2:ka l i<;>simp[hP,h1,h2]
   rw[hD]
   rw[hT]
   rw[av ω,aj,av ω,aj,av ω,aj,av ω,aj,av (x:=(l.getD i bC).2.2.2.1) ω,av (x:=1000000000000) ω]
   simp only[aj]
   have hm: ∀{α:Type} (x:α) (y:α),cond (!cg (l.getD i bC).2.2.1 1) (cond (!cg (l.getD i bC).2.2.1 2) y x) x=x:=by
    intro α x y
    rcases TM.2.2.1 with h|h
    ·rw[bW h];rfl
    ·rw[bW (y:=2) h];cases cg (l.getD i bC).2.2.1 1<;>rfl
   rw[hm]
   by_cases h0:0<i
   ·have e:W .i64 ((i:Int)-1)=((i-1:Nat):Int):=by rw[aJ ω ω];omega
    rw[aD (x:=0) ω,ah,e,aI,aU ω ω,ah,cS]
    by_cases h1:uO i (l.getD (i-1) bC).1 (l.getD i bC).1
    ·rw[af h1,ag (by unfold uO at h1;omega)]
    ·rw[ag h1,af (by unfold uO at h1;omega)]
   ·rw[av (x:=0) ω,aj,af (show uO i (l.getD (i-1) bC).1 (l.getD i bC).1 from λh=>absurd h h0)]
  ·rw[ag (λh=>hF h.1)]
   unfold q9 at hF
   generalize cond (cg (l.getD i bC).2.2.1 1) (cond (c9 (l.getD i bC).2.1 13) (cond (γ (cC l i) (l.getD i bC).2.1.toNat false) (some false) (cond (c9 (l.getD i bC).2.1 13) (oP.l3 N n l (List.set (cC l i) (l.getD i bC).2.1.toNat true) l (l.length:Int) ((i+1:Nat):Int)) none)) none) (oP.l3 N n l (cC l i) l (l.length:Int) ((i+1:Nat):Int))=t
   generalize cond (bu 0 (i:Int)) _ _=u
   simp only[cond_not,eY,bx]
   repeat' split
   all_goals first|rfl|omega
 ·unfold oP.l3 oP.wH
  rw[av ω,aj]
end VM
end
section
namespace VM
open Go VM.F
variable(N:Nat)
def kb(a:cz)(id:Int):vW×Bool:=if lT a then uQ id a else(bC,false)
theorem HX{a:cz}(hl:a.length≤100000)(hN:200000≤N)(id:Int):se N a id=some (kb a id):=by
 unfold se se.b kb
 rw[BT N hl hN,ak,cond_not,Df N hl hN]
 cases lT a<;>rfl
def iG(m:aH)(a:cz)(i:Nat):Prop:= ¬hO (gy (a.getD i bC).2.1 m) 0
instance(m:aH)(a:cz):DecidablePred (iG m a):=λi=>by unfold iG;infer_instance
def xC(m:aH)(a:cz):Bool:=dQ m&&(lT a&&(decide (∀j,j<a.length→iG m a j)&&true))
theorem HY{m:aH}{a:cz}(hm:m.length≤100000)(hl:a.length≤100000)(hN:200000≤N):sE N m a=some (xC m a):=by
 unfold sE sE.b xC
 rw[uM N hm hN,ak,cond_not,BT N hl hN,ak,cond_not]
 cases hM:dQ m
 ·rfl
 cases lT a
 ·rfl
 rw[ky,ky,ah,ah]
 refine kP (F:=λn i=>sE.l4 N n m a (a.length:Int) i) (iG m a) (λn i r hi hp hr=> ?_) (λn=> ?_) N ω
 ·unfold sE.l4 sE.gN
  rw[aD ω,ah,aU ω ω,ah,aI,aJ (x:=(i:Int)+1) ω ω,an,wM N hm hN,ak,bx]
  unfold jh
  rw[hM,af rfl]
  by_cases hP:iG m a i
  ·rw[af hP,ag (show ¬((gy (a.getD i bC).2.1 m:Int)=0)from λh=>hP h)];exact hr
  ·rw[ag hP,af (show(gy (a.getD i bC).2.1 m:Int)=0 by unfold iG at hP;exact Decidable.not_not.1 hP)]
 ·unfold sE.l4 sE.gN
  rw[av ω,aj]
end VM
end
section
namespace VM
open Go VM.F
variable(N:Nat)
theorem Fq(a b:aA):kW (.pair (.int .i64) (.pair (.int .u64) .unit)) a b=(cg a.1 b.1&&(cg a.2.1 b.2.1&&true)):=rfl
theorem BU{u v:Int}:Ou N (a5 u) (a5 v)=some (qZ (u-v)):=by
 unfold Ou
 rw[Fq]
 unfold a5
 dsimp only
 unfold qZ
 rw[eY,bx,eY,mU,eL,eL]
 have hu:u=u/18446744073709551616*18446744073709551616+u%18446744073709551616:=ω
 have hv:v=v/18446744073709551616*18446744073709551616+v%18446744073709551616:=ω
 by_cases h1:u/18446744073709551616<v/18446744073709551616
 ·rw[af h1];congr 1;split<;>(try split)<;>omega
 ·rw[ag h1]
  by_cases h2:u/18446744073709551616=v/18446744073709551616
  ·rw[af h2,bn h2,ky]
   by_cases h3:u%18446744073709551616<v%18446744073709551616
   ·rw[af h3];congr 1;split<;>(try split)<;>omega
   ·rw[ag h3]
    by_cases h4:u%18446744073709551616=v%18446744073709551616
    ·rw[bn h4,ah];congr 1;split<;>(try split)<;>omega
    ·rw[bt h4,aj];congr 1;split<;>(try split)<;>omega
  ·rw[ag h2,bt h2,tx,aj];congr 1;split<;>(try split)<;>omega
theorem AT:a5 0=cO:=rfl
theorem uS{u:Int}:MO N (a5 u)=some (qZ u):=by
 unfold MO
 rw[←AT,BU,ak,Int.sub_zero]
def xD(r:zN):Int:=r.2.2.1
def cD(x:Int):Prop:= -9223372036854775808≤x∧x<9223372036854775808
def ou(l:bF):Prop:= ∀x∈l,cD (xD x)
theorem Fs{l:bF}(h:ou l)(i:Nat):cD (xD (l.getD i eu)):=by
 by_cases hi:i<l.length
 ·rw[aW,a6 hi];exact h _ (eD hi)
 ·rw[aW,eB ω];exact⟨δ,δ⟩
theorem Ov{ws:List Int}(h: ∀x∈ws,cD x): -(9223372036854775808*(ws.length:Int))≤ws.sum∧ws.sum≤9223372036854775808*(ws.length:Int):=BQ ws h
theorem Dh{ws:List Int}(h: ∀x∈ws,cD x)(hl:ws.length≤1000000):bN ws.sum:=by
 have:=Ov h
 unfold bN;omega
theorem Di{ws:List Int}(h: ∀x∈ws,cD x): ∀x∈ws,bN x:=λx hx=>by
 have:=h x hx
 unfold cD at this;unfold bN;omega
theorem Ft{ws:List Int}(h: ∀x∈ws,cD x)(hl:ws.length≤1000000)(hN:1000000<N):rZ N (ws.map a5)=some (a5 ws.sum,true):=by
 rw[BR N (Di h) hl hN]
 unfold zK
 rw[af (Dh h hl)]
def nW(l:bF):Int:=if q7 l then(l.map xD).sum else 0
theorem AU{l:bF}(hq:ou l)(hl:l.length≤100000)(hN:2000000≤N):sf.l5 N N cO [] l (l.length:Int) 0=some (a5 (l.map xD).sum):=by
 have:=uK l eu (λn i ws=>sf.l5 N n cO (ws.map a5) l (l.length:Int) i) (λt ws=>some (a5 (ws++t.map xD).sum)) (λi (ws:List Int)=>ws.length=i∧ ∀x∈ws,cD x)
  (λn i ws hi hI hr=> ?_) (λn ws hI=> ?_) l.length N 0 [] ω ω ω ⟨rfl,λx hx=>nomatch hx⟩
 ·simpa using this
 ·unfold sf.l5 sf.xE
  have wP:=Fs hq i
  have AV:=wP
  unfold cD xD at AV
  rw[aD ω,ah,aU ω ω,ah,aI,q4 N AV.1 AV.2,ak,bP (by rw[fG,aR];omega),ah,aJ ω ω,an]
  have:=hr (ws++[xD (l.getD i eu)]) ⟨by rw[aQ,hI.1];rfl,λx hx=>by
   rcases bg.1 hx with hx|hx
   ·exact hI.2 x hx
   ·rw[eC.1 hx];exact wP⟩
  rw[cU]at this
  refine this.trans ?_
  rw[bz,bq];rfl
 ·unfold sf.l5 sf.xE
  rw[av ω,aj,Ft N hI.2 ω ω,ak,fJ,cV]
theorem Fu{l:bF}(hq:ou l)(hl:l.length≤100000)(hN:2000000≤N):sf N l=some (a5 (nW l)):=by
 unfold sf sf.b nW
 rw[BS N hl ω,ak,cond_not,AU N hq hl hN]
 cases q7 l<;>rfl
def lU(inst:Int):bF→List Int
 |[]=>[]
 |x::t=>if x.2.1=inst then xD x::lU inst t else lU inst t
theorem zQ(inst:Int)(x:zN)(t:bF):lU inst (x::t)=if x.2.1=inst then xD x::lU inst t else lU inst t:=rfl
theorem Dj{l:bF}(hq:ou l)(hl:l.length≤100000)(hN:2000000≤N)(inst:Int):sg.l5 N N inst cO [] l (l.length:Int) 0=some (a5 (lU inst l).sum):=by
 have:=uK l eu (λn i ws=>sg.l5 N n inst cO (ws.map a5) l (l.length:Int) i) (λt ws=>some (a5 (ws++lU inst t).sum)) (λi (ws:List Int)=>ws.length≤i∧ ∀x∈ws,cD x)
  (λn i ws hi hI hr=> ?_) (λn ws hI=> ?_) l.length N 0 [] ω ω ω ⟨aB _,λx hx=>nomatch hx⟩
 ·simpa using this
 ·unfold sg.l5 sg.xE
  have wP:=Fs hq i
  have AV:=wP
  unfold cD xD at AV
  rw[aD ω,ah,aU ω ω,ah,aI,q4 N AV.1 AV.2,ak,bP (by rw[fG,aR];omega),ah,aJ ω ω,an,bx,zQ]
  split
  ·have:=hr (ws++[xD (l.getD i eu)]) ⟨by rw[aQ,aR];omega,λx hx=>by
    rcases bg.1 hx with hx|hx
    ·exact hI.2 x hx
    ·rw[eC.1 hx];exact wP⟩
   rw[cU]at this
   refine this.trans ?_
   rw[bq];rfl
  ·exact hr ws ⟨ω,hI.2⟩
 ·unfold sg.l5 sg.xE
  rw[av ω,aj,Ft N hI.2 ω ω,ak]
  show _=some (a5 (ws++[]).sum)
  rw[cV]
def xF(l:bF)(inst:Int):Int:=if fV l then(lU inst l).sum else 0
theorem HZ{l:bF}(hq:ou l)(hl:l.length≤100000)(hN:2000000≤N)(inst:Int):sg N l inst=some (a5 (xF l inst)):=by
 unfold sg sg.b xF
 rw[uN N hl ω,ak,cond_not,Dj N hq hl hN]
 cases fV l<;>rfl
def uT(l:bF)(i:Nat):Prop:=hO (xF l (i:Int)) 0
instance(l:bF):DecidablePred (uT l):=λi=>by unfold uT;infer_instance
def uU:Nat:=6
def xG(l:bF):Bool:=decide (∀j,j<uU→uT l j)&&fV l
theorem uV{x:Int}:qZ x=0↔x=0:=by unfold qZ;split<;>(try split)<;>omega
theorem H4{l:bF}(hq:ou l)(hl:l.length≤100000)(hN:2000000≤N):sF N l=some (xG l):=by
 unfold sF sF.b
 refine kP (len:=uU) (F:=λn i=>sF.l2 N n l i) (uT l) (λn i r hi hp hr=> ?_) (λn=> ?_) N (by unfold uU;omega)
 ·unfold sF.l2 sF.jg
  unfold uU at hi
  rw[aD ω,ah,HZ N hq hl hN,ak,uS,ak,cond_not,bx,aJ ω ω,an,hr]
  by_cases hP:uT l i
  ·rw[af hP,af (uV.2 hP)]
  ·rw[ag hP,ag (λh=>hP (uV.1 h))]
 ·unfold sF.l2 sF.jg
  rw[av (by unfold uU;omega),aj,uN N hl ω,ak]
def qn(m:aH)(a:cz)(l:bF)(i:Nat):Prop:=
 (hO (l.getD i eu).1 5→(kb a (l.getD i eu).2.1).2=true)∧(hO (l.getD i eu).1 6∨hO (l.getD i eu).1 7→ ¬hO (jh m (l.getD i eu).2.1) 0)
instance(m:aH)(a:cz)(l:bF):DecidablePred (qn m a l):=λi=>by unfold qn;infer_instance
theorem AW(b:ch)(hl:b.2.1.length≤100000)(hN:200000≤N)(id:Int):MP N b id=some (kb b.2.1 id).2:=by
 unfold MP
 rw[HX N hl hN,ak]
theorem Dk{k:Int}{f:Bool}{z:Int}{r:Option Bool}:cond (cg k 5) (cond (!f) (some false) r) (cond (cg k 6) (cond (cg z 0) (some false) r) (cond (cg k 7) (cond (cg z 0) (some false) r) r))=
  if(hO k 5→f=true)∧(hO k 6∨hO k 7→ ¬hO z 0)then r else some false:=by
 unfold hO
 rw[bx,bx,bx,bx,cond_not]
 by_cases h5:k=5
 ·have h6: ¬(k=6):=ω
  have h7: ¬(k=7):=ω
  cases f<;>simp[h5,h6,h7]
 ·by_cases h6:k=6
  ·by_cases hz:z=0<;>simp[h5,h6,hz]
  ·by_cases h7:k=7
   ·by_cases hz:z=0<;>simp[h5,h6,h7,hz]
   ·simp[h5,h6,h7]
theorem vX(hN:200000≤N)(c:al)(b:ch)(hm:b.1.length≤100000)(ha:b.2.1.length≤100000)(hl:b.2.2.1.length≤100000){e:Bool}
  (he:fi.H5 N N c b b.2.2.2.1 (b.2.2.2.1.length:Int) 0=some e):fi.l4 N N c b b.2.2.1 (b.2.2.1.length:Int) 0=some (decide (∀j,j<b.2.2.1.length→qn b.1 b.2.1 b.2.2.1 j)&&e):=by
 refine kP (F:=λn i=>fi.l4 N n c b b.2.2.1 (b.2.2.1.length:Int) i) (qn b.1 b.2.1 b.2.2.1) (λn i r hi hp hr=> ?_) (λn=> ?_) N ω
 ·unfold fi.l4 fi.gN
  rw[aD ω,ah,aU ω ω,ah,aI,aJ (x:=(i:Int)+1) ω ω,an,hr]
  simp only[AW N b ha hN,wM N hm hN,ak]
  rw[Dk]
  rfl
 ·unfold fi.l4 fi.gN
  rw[av ω,aj];exact he
def zR(a b:Int):Prop:=a<b
instance(a b:Int):Decidable (zR a b):=by unfold zR;infer_instance
def qo(c:al)(a:cz)(l:bF)(i:Nat):Prop:=
 (hO (l.getD i eu).1 0∨(kb a (l.getD i eu).1).2=true)∧zR (l.getD i eu).2.1 c.1.length
instance(c:al)(a:cz)(l:bF):DecidablePred (qo c a l):=λi=>by unfold qo;infer_instance
theorem Fv{k x n:Int}{f:Bool}{r:Option Bool}:cond (!cg k 0) (cond (!f) (some false) (cond (dK n x) (some false) r)) (cond (dK n x) (some false) r)=if(hO k 0∨f=true)∧zR x n then r else some false:=by
 unfold hO zR
 rw[cond_not,bx,cS,cond_not]
 by_cases h0:k=0
 ·by_cases hx:n≤x
  ·have: ¬x<n:=ω
   simp[h0,hx,this]
  ·have:x<n:=ω
   simp[h0,hx,this]
 ·by_cases hx:n≤x
  ·have: ¬x<n:=ω
   cases f<;>simp[h0,hx,this]
  ·have:x<n:=ω
   cases f<;>simp[h0,hx,this]
theorem xH(hN:200000≤N)(c:al)(b:ch)(ha:b.2.1.length≤100000)(hl:b.2.2.2.1.length≤100000){e:Bool}
  (he:fi.H6 N N c b b.2.2.2.2.2.1 (b.2.2.2.2.2.1.length:Int) 0=some e):fi.H5 N N c b b.2.2.2.1 (b.2.2.2.1.length:Int) 0=some (decide (∀j,j<b.2.2.2.1.length→qo c b.2.1 b.2.2.2.1 j)&&e):=by
 refine kP (F:=λn i=>fi.H5 N n c b b.2.2.2.1 (b.2.2.2.1.length:Int) i) (qo c b.2.1 b.2.2.2.1) (λn i r hi hp hr=> ?_) (λn=> ?_) N ω
 ·unfold fi.H5 fi.H7
  rw[aD ω,ah,aU ω ω,ah,aI,aJ (x:=(i:Int)+1) ω ω,an,hr]
  simp only[AW N b ha hN,ak]
  rw[Fv]
  rfl
 ·unfold fi.H5 fi.H7
  rw[av ω,aj];exact he
def lV(l:List Int)(i:Nat):Prop:=1≤l.getD i 0∧l.getD i 0≤1000000000000
instance(l:List Int):DecidablePred (lV l):=λi=>by unfold lV;infer_instance
def ji(l:List Int):Bool:=decide (∀j,j<l.length→lV l j)
theorem K0(p:Int):Qq N p=some (!decide (1≤p∧p≤1000000000000)):=by
 unfold Qq
 rw[Dd,ak]
theorem uW(N:Nat){l:List Int}(hl:l.length≤100000): ∀(m n i:Nat),l.length-i≤m→m<n→i≤l.length→(∀j,j<i→lV l j)→
  ∃r,vz.l2 N n l () (l.length:Int) (i:Int)=some r∧(dK 0 r= !ji l)
 |m,0,i,_,hn,_,_=>ω
 |m,n+1,i,hm,hn,hi,hp=>by
  unfold vz.l2 vz.jg
  by_cases h:i<l.length
  ·rw[aD ω,ah,aU ω ω,ah,aI,K0,ak,cond_not,fU]
   by_cases hP:lV l i
   ·have Ow:=hP
    unfold lV at Ow
    rw[af Ow,aJ ω ω]
    exact uW N hl (m-1) n (i+1) ω ω ω (λj hj=>by
     by_cases uu:j=i
     ·subst uu;exact hP
     ·exact hp j ω)
   ·have Ow:=hP
    unfold lV at Ow
    rw[ag Ow]
    refine⟨_,rfl,?_⟩
    rw[cP ω]
    unfold ji
    rw[bt (λh'=>hP (h' i h))];rfl
  ·rw[av ω,aj]
   refine⟨_,rfl,?_⟩
   rw[cE ω]
   unfold ji
   rw[bn (λj hj=>hp j ω)];rfl
theorem Dl{l:List Int}(hl:l.length≤100000)(hN:200000≤N):Qr N l ()=some (!ji l):=by
 unfold Qr vz vz.b
 obtain⟨r,e,h⟩:=uW N hl l.length N 0 ω ω ω (λj hj=>absurd hj ω)
 rw[show((0:Nat):Int)=0 from rfl]at e
 rw[e,ak,h]
def qp(c:al)(a:cz)(l:qj)(i:Nat):Prop:=
 (kb a (l.getD i Au).2.1).2=true∧zR (l.getD i Au).2.2.1 c.1.length
instance(c:al)(a:cz)(l:qj):DecidablePred (qp c a l):=λi=>by unfold qp;infer_instance
theorem Fw{x n:Int}{f:Bool}{r:Option Bool}:cond (!f) (some false) (cond (dK n x) (some false) r)=if f=true∧zR x n then r else some false:=by
 unfold zR
 rw[cS,cond_not]
 by_cases hx:n≤x
 ·have: ¬x<n:=ω
  cases f<;>simp[hx,this]
 ·have:x<n:=ω
  cases f<;>simp[hx,this]
theorem xI(hN:200000≤N)(c:al)(b:ch)(ha:b.2.1.length≤100000)(hl:b.2.2.2.2.2.1.length≤100000)(hp:b.2.2.2.2.1.length≤100000):
  fi.H6 N N c b b.2.2.2.2.2.1 (b.2.2.2.2.2.1.length:Int) 0=some (decide (∀j,j<b.2.2.2.2.2.1.length→qp c b.2.1 b.2.2.2.2.2.1 j)&&ji b.2.2.2.2.1):=by
 refine kP (F:=λn i=>fi.H6 N n c b b.2.2.2.2.2.1 (b.2.2.2.2.2.1.length:Int) i) (qp c b.2.1 b.2.2.2.2.2.1) (λn i r hi xY hr=> ?_) (λn=> ?_) N ω
 ·unfold fi.H6 fi.H8
  rw[aD ω,ah,aU ω ω,ah,aI,aJ (x:=(i:Int)+1) ω ω,an,hr]
  simp only[AW N b ha hN,ak]
  rw[Fw]
  rfl
 ·unfold fi.H6 fi.H8
  rw[av ω,aj,Dl N hp hN,ak,Bool.not_not]
def lW(c:al)(b:ch):Bool:=
 lQ c&&(xC b.1 b.2.1&&(q7 b.2.2.1&&(decide (hO (nW b.2.2.1) 0)&&(xG b.2.2.2.1&&(uP b.2.2.2.2.2.1&&(decide (hO b.2.2.2.2.1.length c.1.length)&&
  (decide (∀j,j<b.2.2.1.length→qn b.1 b.2.1 b.2.2.1 j)&&(decide (∀j,j<b.2.2.2.1.length→qo c b.2.1 b.2.2.2.1 j)&&(decide (∀j,j<b.2.2.2.2.2.1.length→qp c b.2.1 b.2.2.2.2.2.1 j)&&ji b.2.2.2.2.1)))))))))
structure ra(b:ch):Prop where
 m:b.1.length≤100000
 a:b.2.1.length≤100000
 r:b.2.2.1.length≤100000
 s:b.2.2.2.1.length≤100000
 p:b.2.2.2.2.1.length≤100000
 o:b.2.2.2.2.2.1.length≤100000
 qr:ou b.2.2.1
 qs:ou b.2.2.2.1
theorem jj{x:Bool}{r:Option Bool}{y:Bool}(h:r=some y):cond (!x) (some false) r=some (x&&y):=by subst h;cases x<;>rfl
theorem H9(hN:4000000≤N){c:al}{b:ch}(w:ra b):fi N c b=some (lW c b):=by
 unfold fi fi.b lW
 rw[xA N ω,ak]
 refine jj ?_
 rw[HY N w.m w.a ω,ak]
 refine jj ?_
 rw[BS N w.r ω,ak]
 refine jj ?_
 rw[Fu N w.qr w.r ω,ak,uS,ak]
 have e0:cg (qZ (nW b.2.2.1)) 0=decide (hO (nW b.2.2.1) 0):=by rw[eL,mQ];exact uV
 rw[e0]
 refine jj ?_
 rw[H4 N w.qs w.s ω,ak]
 refine jj ?_
 rw[De N w.o ω,ak]
 refine jj ?_
 rw[eL]
 refine jj ?_
 exact vX N ω c b w.m w.a w.r (xH N ω c b w.a w.s (xI N ω c b w.a w.o w.p))
end VM
end
section
namespace VM
open Go VM.F
variable(N:Nat)
end VM
end
section
namespace VM
open Go VM.F
variable(N:Nat)
def lX(a q n:Int)(i:Nat)(p:Int):Prop:=0≤a∧a<n∧q≠0∧vV q∧(0<i→p<a)
instance(a q n:Int)(i:Nat)(p:Int):Decidable (lX a q n i p):=by unfold lX;infer_instance
def my(c:al)(l:aH)(i:Nat):Prop:=lX (l.getD i cO).1 (l.getD i cO).2.1 c.1.length i (l.getD (i-1) cO).1
instance(c:al)(l:aH):DecidablePred (my c l):=λi=>by unfold my;infer_instance
def g5(c:al)(l:aH):Bool:=decide (∀j,j<l.length→my c l j)&&lQ c
theorem BV(hN:200000≤N)(c:al){l:aH}(hl:l.length≤100000):rf N c l=some (g5 c l):=by
 unfold rf rf.b
 refine kP (F:=λn i=>rf.l2 N n l c l (l.length:Int) i) (my c l) (λn i r hi hp hr=> ?_) (λn=> ?_) N ω
 ·unfold rf.l2 rf.jg
  rw[aD ω,ah,aU ω ω,ah,aI,aJ (x:=(i:Int)+1) ω ω,an,hr,sd,ak,cond_not,fU]
  by_cases h0:0<i
  ·have e:W .i64 ((i:Int)-1)=((i-1:Nat):Int):=by rw[aJ ω ω];omega
   dsimp only
   rw[aD (x:=0) (y:=(i:Int)) ω,ah,e,aI,aU ω ω,ah]
   simp only[eY,cS,bx]
   by_cases hP:my c l i
   ·rw[af hP];unfold my lX at hP
    rw[ag ω,ag ω,ag hP.2.2.1,af hP.2.2.2.1,ag ω]
   ·rw[ag hP];unfold my lX at hP
    have h2:=λh1 h2 h3 h4 h5=>hP ⟨h1,h2,h3,h4,h5⟩
    repeat' split
    all_goals first|rfl|(exfalso;exact h2 ω ω (by assumption) (by assumption) ω)
  ·rw[av (x:=0) (y:=(i:Int)) ω,aj]
   simp only[eY,cS,bx]
   by_cases hP:my c l i
   ·rw[af hP];unfold my lX at hP
    rw[ag ω,ag ω,ag hP.2.2.1,af hP.2.2.2.1]
   ·rw[ag hP];unfold my lX at hP
    have h2:=λh1 h2 h3 h4 h5=>hP ⟨h1,h2,h3,h4,h5⟩
    repeat' split
    all_goals first|rfl|(exfalso;exact h2 ω ω (by assumption) (by assumption) ω)
 ·unfold rf.l2 rf.jg
  rw[av ω,aj,xA N ω,ak]
end VM
end
section
namespace VM
open Go VM.F
variable(N:Nat)
end VM
end
section
namespace VM
open Go VM.F
variable(N:Nat)
end VM
end
section
namespace VM
open Go VM.F
variable(N:Nat)
end VM
end
section
namespace VM
open Go VM.F
variable(N:Nat)
abbrev Fy:=Int×Int
def Ia(x y:Fy):Prop:=mv x.1 x.2 y.1 y.2
instance(x y:Fy):Decidable (Ia x y):=by unfold Ia;infer_instance
def keyOf(x:zN):Fy:=(x.1,x.2.1)
def TN(K:List Fy):Prop:=K.Pairwise Ia
theorem Dm{x y z:Fy}(h:Ia x y)(k:Ia y z):Ia x z:=by unfold Ia mv at*;omega
instance(x:Int):Decidable (cD x):=by unfold cD;infer_instance
theorem FA{v:Int}(h:bN v):KW N (a5 v)=some (C9 v):=xz N h.1 h.2
theorem zS{l:bF}(h:fV l=true):TN (l.map keyOf)∧(∀x∈l,dW x.1 x.2.1∧vV (xD x)):=by
 unfold fV at h
 rw[mU]at h
 have h':=bs h
 have get: ∀(i:Nat) (hi:i<l.length),l.getD i eu=l[i]:=λi hi=>by rw[aW,a6 hi];rfl
 have Ox: ∀i,i+1<l.length→Ia (keyOf (l.getD i eu)) (keyOf (l.getD (i+1) eu)):=λi hi=>(h' (i+1) hi).2.2.2 ω
 have cy: ∀j,j<l.length→ ∀i,i<j→Ia (keyOf (l.getD i eu)) (keyOf (l.getD j eu)):=by
  intro j
  induction j with
  |zero=>intro _ i hi;omega
  |succ j ih=>
   intro hj i hi
   by_cases e:i=j
   ·rw[e];exact Ox j hj
   ·exact Dm (ih ω i ω) (Ox j hj)
 refine⟨?_,λx hx=> ?_⟩
 ·refine List.pairwise_map.2 (yq.2 λi j hi hj gH=> ?_)
  have:=cy j hj i gH
  rw[get i hi,get j hj]at this
  exact this
 ·obtain⟨i,hi,e⟩:=nJ hx
  have:=h' i hi
  unfold kR j1 at this
  rw[get i hi,e]at this
  exact⟨this.1,this.2.2.1⟩
end VM
end
section
namespace VM
open Go VM.F
variable(N:Nat)
end VM
end
section
namespace VM
open Go VM.F
variable(N:Nat)
theorem AX{ws:List Int}{x:Int}(h: ∀y∈ws,bN y)(hx:bN x): ∀y∈ws++[x],bN y:=λy hy=>by
 rcases bg.1 hy with hy|hy
 ·exact h y hy
 ·rw[eC.1 hy];exact hx
theorem K1{v:Int}{n:Nat}(hn:n≤1000000)(h0: -(170141183460469231731687303715884105728*(n:Int))≤v)(h1:v≤170141183460469231731687303715884105728*(n:Int)):Fit v 900000:=by
 have h5:Fit v 5:=by
  unfold Fit
  rw[show(4294967296:Nat)^5=1461501637330902918203684832716283019655932542976 from rfl]
  omega
 exact h5.mono ω
theorem sY{v:Int}(h:bN v):Fit v 900000:=K1 (n:=1) ω (by have:=h.1;omega) (by have:=h.2;omega)
end VM
end
section
namespace VM
open Go VM.F
variable(N:Nat)
def lY(s w p:Int):Prop:=((s=1∨s=3)∧w=0∧p=0)∨(s=2∧1≤w∧w≤12∧ -1152921504606846976≤p∧p≤1152921504606846976)
instance(s w p:Int):Decidable (lY s w p):=by unfold lY;infer_instance
def uX(a:Int):Prop:=1≤a∧a≤1099511627776
instance(a:Int):Decidable (uX a):=by unfold uX;infer_instance
def MQ(a b:Int):Prop:=a≤b
instance(a b:Int):Decidable (MQ a b):=by unfold MQ;infer_instance
def sZ(c:al)(l:aX)(i:Nat):Prop:=
 uX (l.getD i ((0:Int),(eS,bC))).1∧uO i (l.getD (i-1) ((0:Int),(eS,bC))).1 (l.getD i ((0:Int),(eS,bC))).1∧ ¬hO ((l.getD i ((0:Int),(eS,bC))).2.1.length:Int) 0∧g5 c (l.getD i ((0:Int),(eS,bC))).2.1=true∧MQ (l.getD i ((0:Int),(eS,bC))).2.2.1 0∧lY (l.getD i ((0:Int),(eS,bC))).2.2.2.1 (l.getD i ((0:Int),(eS,bC))).2.2.2.2.1 (l.getD i ((0:Int),(eS,bC))).2.2.2.2.2.1
instance(c:al)(l:aX):DecidablePred (sZ c l):=λi=>by unfold sZ;infer_instance
def AY(c:al)(l:aX):Bool:=lQ c&&(decide (l.length≤12)&&(decide (∀j,j<l.length→sZ c l j)&&true))
def BW(l:aX):Prop:= ∀x∈l,x.2.1.length≤100000
theorem uY{l:aX}(h:BW l)(i:Nat):(l.getD i ((0:Int),(eS,bC))).2.1.length≤100000:=by
 by_cases hi:i<l.length
 ·rw[aW,a6 hi];exact h _ (eD hi)
 ·rw[aW,eB ω];exact gE _
theorem Ib(s w p:Int)(r:Option Bool):
  cond (cg s 1) (cond (!cg w 0) (some false) (cond (!cg p 0) (some false) r)) (cond (cg s 3) (cond (!cg w 0) (some false) (cond (!cg p 0) (some false) r)) (cond (cg s 2) (cond (bu w 1) (some false) (cond (bu 12 w) (some false) (cond (bu p (-1152921504606846976)) (some false) (cond (bu 1152921504606846976 p) (some false) r)))) (some false)))=
   if lY s w p then r else some false:=by
 simp only[cond_not,bx,eY]
 by_cases h:lY s w p
 ·rw[af h];unfold lY at h
  repeat' split
  all_goals first|rfl|omega
 ·rw[ag h];unfold lY at h
  repeat' split
  all_goals first|rfl|omega
theorem Dn{A B C D E F:Prop} [Decidable A] [Decidable B] [Decidable C] [Decidable D] [Decidable E] [Decidable F](r:Option Bool):
  (if A then(if B then(if C then(if D then(if E then(if F then r else some false)else some false)else some false)else some false)else some false)else some false)=if A∧B∧C∧D∧E∧F then r else some false:=by
 by_cases hA:A<;>by_cases hB:B<;>by_cases hC:C<;>by_cases hD:D<;>by_cases hE:E<;>by_cases hF:F<;>simp only[hA,hB,hC,hD,hE,hF,dv,c7,and_self,cn,and_false,false_and,true_and]
theorem FB{a b n f s w p:Int}{i:Nat}{o:Bool}{r:Option Bool}:
  cond (bu a 1) (some false) (cond (bu 1099511627776 a) (some false) (if uO i b a then(cond (cg n 0) (some false) (cond (!o) (some false) (cond (bu 0 f) (some false) (if lY s w p then r else some false))))else some false))=
   if uX a∧uO i b a∧ ¬hO n 0∧o=true∧MQ f 0∧lY s w p then r else some false:=by
 rw[←Dn]
 simp only[cond_not,bx,eY]
 by_cases h1:uX a
 ·have ju:=h1
  unfold uX at ju
  rw[af h1,ag ω,ag ω]
  by_cases h2:uO i b a
  ·rw[af h2,af h2]
   by_cases h3:n=0
   ·rw[af h3,ag (show ¬ ¬hO n 0 from λh=>h h3)]
   ·rw[ag h3,af (show ¬hO n 0 from h3)]
    cases o
    ·rfl
    ·rw[ah,af rfl]
     by_cases h4:f≤0
     ·rw[af (show MQ f 0 from h4),ag ω]
     ·rw[ag (show ¬MQ f 0 from h4),af ω]
  ·rw[ag h2,ag h2]
 ·have ju:=h1
  unfold uX at ju
  rw[ag h1]
  by_cases h2:a<1
  ·rw[af h2]
  ·rw[ag h2,af ω]
theorem FC{i:Nat}{a b:Int}{r:Option Bool}(h0:0<i):cond (dK a b) (some false) r=if uO i b a then r else some false:=by
 rw[cS]
 by_cases h1:uO i b a
 ·rw[af h1,ag (by unfold uO at h1;omega)]
 ·rw[ag h1,af (by unfold uO at h1;omega)]
theorem Ic(hN:200000≤N)(c:al){l:aX}(hl:l.length≤100000)(hw:BW l):kX N c l=some (AY c l):=by
 unfold kX kX.b AY
 rw[xA N ω,ak]
 cases lQ c
 ·rfl
 rw[bo,aj,ky]
 by_cases Nb:l.length≤12
 ·rw[av ω,aj,bn Nb,ky]
  refine kP (F:=λn i=>kX.l4 N n l c l (l.length:Int) i) (sZ c l) (λn i r hi hp hr=> ?_) (λn=> ?_) N ω
  ·unfold kX.l4 kX.gN kX.j8 kX.Jb
   rw[aD ω,ah,aU ω ω,ah,aI,BV N hN c (uY hw i),ak,aJ (x:=(i:Int)+1) ω ω,an i,hr,Ib]
   refine Eq.trans ?_ FB
   by_cases h0:0<i
   ·have e:W .i64 ((i:Int)-1)=((i-1:Nat):Int):=by rw[aJ ω ω];omega
    rw[aD (x:=0) (y:=(i:Int)) ω,ah,e]
    dsimp only
    rw[aI,aU ω ω,ah,FC h0]
   ·rw[av (x:=0) (y:=(i:Int)) ω,aj,af (show uO i (l.getD (i-1) ((0:Int),(eS,bC))).1 (l.getD i ((0:Int),(eS,bC))).1 from λh=>absurd h h0)]
  ·unfold kX.l4 kX.gN
   rw[av ω,aj]
 ·rw[aD ω,ah,bt Nb,tx]
end VM
end
