/- A part of the proof of BookAtOnce of layer 18: what the functions compute, in plain words. -/
import Derived.Test.YthkjjlcblhbifaaGreatPlain2
import Derived.Test.YthkjjlcblhbifaaGreatVm7
import Derived.Test.YthkjjlcblhbifaaGreatPlain0
set_option linter.all false
section
namespace VM
open Go VM.F
variable(N:Nat)
theorem Pb(hN:2000000≤N){b:an}{s e:au}(w:oe b)(hr:eJ b.2.2.1=true)(hs:de b.2.2.2.1=true)(lr:b.2.2.1.length≤90000)(ls:b.2.2.2.1.length≤90000)(gs:O2 s)(ge:O5 e):
  F61 N b s (e.map iI)=some (cC b s e):=by
 unfold F61 cC
 rw[O9 N w,ar,acJ N hN hs ls w.qs gs,Zb N hN hr lr w.qr ge,KB hs gs.place,O8 hr ge.key]
 unfold vE
 rw[ar,ar]
 have e1:aN 2 0=false:=eU ω
 have e2:aN 0 0=true:=dV rfl
 cases dH Fq (fS b.2.2.2.1 s) iU with
 |none=>dsimp only;rw[e1];rfl
 |some s'=>
  cases dH aF (fS b.2.2.1 e) mc with
  |none=>dsimp only;rw[e1,e2];rfl
  |some r'=>dsimp only;rw[e2];rfl
theorem acO(hN:4000000≤N){b:an}{s e:au}(w:oe b)(hr:eJ b.2.2.1=true)(hs:de b.2.2.2.1=true)(lr:b.2.2.1.length≤90000)(ls:b.2.2.2.1.length≤90000)(gs:O2 s)(ge:O5 e):
  y9 N b s (e.map jB)=some (cC b s e):=by
 have h1:=gs.len
 have h2:=ge.len
 unfold y9 cC
 rw[Hy N hN hs ls w.qs (λx hx=>(gs.q x hx).1) ω,Um N hN hr lr w.qr ge.q ω]
 unfold wG
 rw[ar,ar]
 cases dH Fq (fS b.2.2.2.1 s) iU with
 |none=>rfl
 |some s'=>
  cases dH aF (fS b.2.2.1 e) mc with
  |none=>rfl
  |some r'=>rfl
theorem Un(N:Nat)(C:fe.bN){l:aO}(hl:l.length≤100000)(i:Nat)(hi:i<l.length): ∀(m n k:Nat),i-k≤m→m<n→k≤i→(l.take k).any (sm (l.getD i ba).2.2.1 (l.getD i ba).2.1)=false→
  fe.l9 N C n l (i:Int) (k:Int)=cond ((l.take i).any (sm (l.getD i ba).2.2.1 (l.getD i ba).2.1)) (some false) (C l ((i+1:Nat):Int))
 |m,0,k,_,hn,_,_=>ω
 |m,n+1,k,hm,hn,hk,hb=>by
  unfold fe.l9 fe.vz
  by_cases h:k<i
  ·have Bt:=Un N C hl i hi (m-1) n (k+1) ω ω ω
   have ht:(l.take (k+1)).any (sm (l.getD i ba).2.2.1 (l.getD i ba).2.1)=sm (l.getD i ba).2.2.1 (l.getD i ba).2.1 (l.getD k ba):=by
    have ek:l.getD k ba=l[k]' ω:=by rw[aV,bm (show k<l.length by omega)];rfl
    rw[←td (show k<l.length by omega),List.any_append,hb,ek,Gf,List.any_nil,rL,rK]
   have kC:sm (l.getD i ba).2.2.1 (l.getD i ba).2.1 (l.getD k ba)=true→(l.take i).any (sm (l.getD i ba).2.2.1 (l.getD i ba).2.1)=true:=λhh=>by
    refine AA.2 ⟨l.getD k ba,?_,hh⟩
    rw[aV,bm (show k<l.length by omega)]
    exact List.mem_take_iff_getElem.2 ⟨k,ω,rfl⟩
   rw[aR ω,ak,aW ω ω,ak,aW ω ω,ak,ak,ak,aI,aI,aM,aM,aw (x:=(k:Int)+1) ω ω,af k]
   by_cases h1:(l.getD k ba).2.2.1=(l.getD i ba).2.2.1
   ·by_cases h2:(l.getD k ba).2.1=(l.getD i ba).2.1
    ·rw[aj h1,aj h2,kC (by unfold sm dD;rw[aU h1,aU h2];rfl)];rfl
    ·rw[aj h1,ah h2]
     exact Bt (by rw[ht];unfold sm dD;rw[bx h2,Gd])
   ·rw[ah h1]
    exact Bt (by rw[ht];unfold sm dD;rw[bx h1,um])
  ·have:k=i:=ω
   subst this
   rw[aP ω,av,hb,av,aw (x:=(k:Int)+1) ω ω,af k]
theorem uM{l:aO}(hl:l.length≤100000)(hN:200000≤N):fe N l=some (Y4 l):=by
 unfold fe fe.b Y4
 by_cases h40:l.length≤40
 ·rw[aP ω,av,aU h40]
  refine iH (F:=λn i=>fe.l4 N n l i) (BE l) (λn i r hi hp hr=> ?_) (λn=> ?_) N ω
  ·unfold fe.l4 fe.dQ fe.j8 fe.Zd
   have kC:fe.l9 N (fe.l4 N n) N l (i:Int) 0=_:=Un N (fe.l4 N n) hl i hi i N 0 ω ω ω rfl
   rw[aR ω,ak,aW ω ω,ak,ak,aI,Uf,ar,cond_not,fY,kC,hr]
   have hT:cond ((l.take i).any (sm (l.getD i ba).2.2.1 (l.getD i ba).2.1)) (some false) r=if(l.take i).any (sm (l.getD i ba).2.2.1 (l.getD i ba).2.1)=false then r else some false:=by
    cases(l.take i).any (sm (l.getD i ba).2.2.1 (l.getD i ba).2.1)<;>rfl
   rw[hT]
   by_cases hK:Kr (l.getD i ba)
   ·rw[aj hK]
    have hD:(if BE l i then r else some false)=if uF i (l.getD (i-1) ba).1 (l.getD i ba).1 then(if(l.take i).any (sm (l.getD i ba).2.2.1 (l.getD i ba).2.1)=false then r else some false)else some false:=by
     by_cases h1:uF i (l.getD (i-1) ba).1 (l.getD i ba).1<;>by_cases h2:(l.take i).any (sm (l.getD i ba).2.2.1 (l.getD i ba).2.1)=false
     ·rw[aj h1,aj h2,aj ⟨hK,h1,h2⟩]
     ·rw[aj h1,ah h2,ah (λh=>h2 h.2.2)]
     ·rw[ah h1,ah (λh=>h1 h.2.1)]
     ·rw[ah h1,ah (λh=>h1 h.2.1)]
    rw[hD]
    by_cases h0:0<i
    ·have e:W .i64 ((i:Int)-1)=((i-1:Nat):Int):=by rw[aw ω ω];omega
     rw[aR (x:=0) (y:=(i:Int)) ω,ak,e]
     dsimp only
     rw[aI,aW ω ω,ak,cB]
     by_cases h1:uF i (l.getD (i-1) ba).1 (l.getD i ba).1
     ·rw[aj h1,ah (by unfold uF at h1;omega)]
     ·rw[ah h1,aj (by unfold uF at h1;omega)]
    ·rw[aP (x:=0) (y:=(i:Int)) ω,av,aj (show uF i (l.getD (i-1) ba).1 (l.getD i ba).1 from λh=>absurd h h0)]
   ·rw[ah hK,ah (λh=>hK h.1)]
  ·unfold fe.l4 fe.dQ
   rw[aP ω,av]
 ·rw[aR ω,ak,bx h40,Gd]
def vK(s w p:Int):Prop:=((s=1∨s=3)∧w=0∧p=0)∨(s=2∧1≤w∧w≤12∧ -1152921504606846976≤p∧p≤1152921504606846976)
instance(s w p:Int):Decidable (vK s w p):=by unfold vK;infer_instance
def HB(a:Int):Prop:=1≤a∧a≤1099511627776
instance(a:Int):Decidable (HB a):=by unfold HB;infer_instance
def Ze(a b:Int):Prop:=a≤b
instance(a b:Int):Decidable (Ze a b):=by unfold Ze;infer_instance
def FE(c:ae)(l:bI)(i:Nat):Prop:=
 HB (l.getD i ((0:Int),(cc,ba))).1∧uF i (l.getD (i-1) ((0:Int),(cc,ba))).1 (l.getD i ((0:Int),(cc,ba))).1∧ ¬dD ((l.getD i ((0:Int),(cc,ba))).2.1.length:Int) 0∧o6 c (l.getD i ((0:Int),(cc,ba))).2.1=true∧Ze (l.getD i ((0:Int),(cc,ba))).2.2.1 0∧vK (l.getD i ((0:Int),(cc,ba))).2.2.2.1 (l.getD i ((0:Int),(cc,ba))).2.2.2.2.1 (l.getD i ((0:Int),(cc,ba))).2.2.2.2.2.1
instance(c:ae)(l:bI):DecidablePred (FE c l):=λi=>by unfold FE;infer_instance
def CX(c:ae)(l:bI):Bool:=eR c&&(decide (l.length≤12)&&(decide (∀j,j<l.length→FE c l j)&&true))
def KD(l:bI):Prop:= ∀x∈l,x.2.1.length≤100000
theorem So{l:bI}(h:KD l)(i:Nat):(l.getD i ((0:Int),(cc,ba))).2.1.length≤100000:=by
 by_cases hi:i<l.length
 ·rw[aV,bm hi];exact h _ (dJ hi)
 ·rw[aV,ig ω];exact bz _
theorem acP(s w p:Int)(r:Option Bool):
  cond (aN s 1) (cond (!aN w 0) (some false) (cond (!aN p 0) (some false) r)) (cond (aN s 3) (cond (!aN w 0) (some false) (cond (!aN p 0) (some false) r)) (cond (aN s 2) (cond (aX w 1) (some false) (cond (aX 12 w) (some false) (cond (aX p (-1152921504606846976)) (some false) (cond (aX 1152921504606846976 p) (some false) r)))) (some false)))=
   if vK s w p then r else some false:=by
 simp only[cond_not,aM,cA]
 by_cases h:vK s w p
 ·rw[aj h];unfold vK at h
  repeat' split
  all_goals first|rfl|omega
 ·rw[ah h];unfold vK at h
  repeat' split
  all_goals first|rfl|omega
theorem We{A B C D E F:Prop} [Decidable A] [Decidable B] [Decidable C] [Decidable D] [Decidable E] [Decidable F](r:Option Bool):
  (if A then(if B then(if C then(if D then(if E then(if F then r else some false)else some false)else some false)else some false)else some false)else some false)=if A∧B∧C∧D∧E∧F then r else some false:=by
 by_cases hA:A<;>by_cases hB:B<;>by_cases hC:C<;>by_cases hD:D<;>by_cases hE:E<;>by_cases hF:F<;>simp only[hA,hB,hC,hD,hE,hF,g8,fG,and_self,eF,and_false,false_and,true_and]
theorem Zf{a b n f s w p:Int}{i:Nat}{o:Bool}{r:Option Bool}:
  cond (aX a 1) (some false) (cond (aX 1099511627776 a) (some false) (if uF i b a then(cond (aN n 0) (some false) (cond (!o) (some false) (cond (aX 0 f) (some false) (if vK s w p then r else some false))))else some false))=
   if HB a∧uF i b a∧ ¬dD n 0∧o=true∧Ze f 0∧vK s w p then r else some false:=by
 rw[←We]
 simp only[cond_not,aM,cA]
 by_cases h1:HB a
 ·have qM:=h1
  unfold HB at qM
  rw[aj h1,ah ω,ah ω]
  by_cases h2:uF i b a
  ·rw[aj h2,aj h2]
   by_cases h3:n=0
   ·rw[aj h3,ah (show ¬ ¬dD n 0 from λh=>h h3)]
   ·rw[ah h3,aj (show ¬dD n 0 from h3)]
    cases o
    ·rfl
    ·rw[ak,aj rfl]
     by_cases h4:f≤0
     ·rw[aj (show Ze f 0 from h4),ah ω]
     ·rw[ah (show ¬Ze f 0 from h4),aj ω]
  ·rw[ah h2,ah h2]
 ·have qM:=h1
  unfold HB at qM
  rw[ah h1]
  by_cases h2:a<1
  ·rw[aj h2]
  ·rw[ah h2,aj ω]
theorem Zg{i:Nat}{a b:Int}{r:Option Bool}(h0:0<i):cond (du a b) (some false) r=if uF i b a then r else some false:=by
 rw[cB]
 by_cases h1:uF i b a
 ·rw[aj h1,ah (by unfold uF at h1;omega)]
 ·rw[ah h1,aj (by unfold uF at h1;omega)]
theorem BM(hN:200000≤N)(c:ae){l:bI}(hl:l.length≤100000)(hw:KD l):jG N c l=some (CX c l):=by
 unfold jG jG.b CX
 rw[oa N ω,ar]
 cases eR c
 ·rfl
 rw[bl,av,kS]
 by_cases h12:l.length≤12
 ·rw[aP ω,av,aU h12,kS]
  refine iH (F:=λn i=>jG.l4 N n l c i) (FE c l) (λn i r hi hp hr=> ?_) (λn=> ?_) N ω
  ·unfold jG.l4 jG.dQ jG.j9 jG.JA
   rw[aR ω,ak,aW ω ω,ak,aI,BD N hN c (So hw i),ar,aw (x:=(i:Int)+1) ω ω,af i,hr,acP]
   refine Eq.trans ?_ Zf
   by_cases h0:0<i
   ·have e:W .i64 ((i:Int)-1)=((i-1:Nat):Int):=by rw[aw ω ω];omega
    rw[aR (x:=0) (y:=(i:Int)) ω,ak,e]
    dsimp only
    rw[aI,aW ω ω,ak,Zg h0]
   ·rw[aP (x:=0) (y:=(i:Int)) ω,av,aj (show uF i (l.getD (i-1) ((0:Int),(cc,ba))).1 (l.getD i ((0:Int),(cc,ba))).1 from λh=>absurd h h0)]
  ·unfold jG.l4 jG.dQ
   rw[aP ω,av]
 ·rw[aR ω,ak,bx h12,um]
abbrev AwS:=au×au×bI
structure aiE(z:AwS)(i:Nat):Prop where
 place: ∀x∈z.1,cj x.1 x.2.1
 q: ∀x∈z.1,aF (dT x)∧qQ (dT x)
 len:z.1.length≤12*i
 flat: ∀a:Int,(df a z.1).sum=0
 key: ∀x∈z.2.1,c9 x.1 x.2.1
 qe: ∀x∈z.2.1,aF (dT x)
 aDb:z.2.1.length≤2*i
 zero:(z.2.1.map dT).sum=0
 out:z.2.2.length=i
theorem JK(a:Int)(l m:au):df a (l++m)=df a l++df a m:=by
 induction l with
 |nil=>rfl
 |cons x t ih=>
  rw[ky,dx,dx,ih]
  split<;>rfl
theorem akS{v:Int}(h:aF v∧qQ v):aF (0-v)∧qQ (0-v):=by
 unfold aF qQ at*;omega
theorem aiE.nil:aiE ([],[],[]) 0:=⟨λx hx=>(nomatch hx),λx hx=>(nomatch hx),aH _,λa=>rfl,λx hx=>(nomatch hx),λx hx=>(nomatch hx),aH _,rfl,rfl⟩
theorem eS{c:ae}{b:an}(h:dg c b=true):eJ b.2.2.1=true∧de b.2.2.2.1=true:=by
 unfold dg at h
 have h1:=(da.1 (da.1 h).2).2
 have h2:=da.1 h1
 have h3:=(da.1 (da.1 h2.2).2).1
 refine⟨h2.1,?_⟩
 unfold od at h3
 exact(da.1 h3).2
structure qU(b:an):Prop where
 w:oe b
 r:b.2.2.1.length≤90000
 s:b.2.2.2.1.length≤90000
end VM
end
section
namespace VM
open Go VM.F
variable(N:Nat)
theorem ec(x:Int):aN x x=true:=dV rfl
theorem Zh(x:Bx):pn (.pair (.int .i64) (.pair (.int .i64) .unit)) x x=true:=by
 show(aN x.1 x.1&&(aN x.2.1 x.2.1&&true))=true
 rw[ec,ec];rfl
theorem Sp(x:dd):pn (.pair (.int .i64) (.pair (.int .i64) (.pair (.int .i64) .unit))) x x=true:=by
 show(aN x.1 x.1&&pn (.pair (.int .i64) (.pair (.int .i64) .unit)) x.2 x.2)=true
 rw[ec,Zh];rfl
theorem Zi(x:cF):pn (.pair (.int .i64) (.pair (.int .i64) (.pair (.int .i64) (.pair (.int .i64) .unit)))) x x=true:=by
 show(aN x.1 x.1&&pn (.pair (.int .i64) (.pair (.int .i64) (.pair (.int .i64) .unit))) x.2 x.2)=true
 rw[ec,Sp];rfl
theorem akT(x:fZ):pn (.pair (.int .i64) (.pair (.int .i64) (.pair (.int .i64) (.pair (.int .i64) (.pair (.int .i64) (.pair (.int .i64) .unit)))))) x x=true:=by
 show(aN x.1 x.1&&(aN x.2.1 x.2.1&&pn (.pair (.int .i64) (.pair (.int .i64) (.pair (.int .i64) (.pair (.int .i64) .unit)))) x.2.2 x.2.2))=true
 rw[ec,ec,Zi];rfl
theorem o8{F:Nat→Int→Option Bool}{len:Nat}(hs: ∀n (i:Nat),i<len→F n ((i+1:Nat):Int)=some true→F (n+1) (i:Int)=some true)(he: ∀n,F (n+1) (len:Int)=some true): ∀(m n i:Nat),len-i≤m→m<n→i≤len→F n (i:Int)=some true
 |m,0,i,_,hn,_=>ω
 |m,n+1,i,hm,hn,hi=>by
  by_cases h:i<len
  ·exact hs n i h (o8 hs he (m-1) n (i+1) ω ω ω)
  ·have:i=len:=ω
   subst this;exact he n
theorem Pd{l:aE}(hl:l.length≤100000)(hN:200000≤N):E0 N l l=some true:=by
 unfold E0 E0.b
 rw[ec,bl,av]
 refine o8 (F:=λn i=>E0.l4 N n l l i) (len:=l.length) (λn i hi hr=> ?_) (λn=> ?_) l.length N 0 ω ω ω
 ·unfold E0.l4 E0.dQ
  rw[aR ω,ak,aW ω ω,ak,ak,Zh,bl,av,aw (x:=(i:Int)+1) ω ω,af i]
  exact hr
 ·unfold E0.l4 E0.dQ
  rw[aP ω,av]
theorem Zj{l:aO}(hl:l.length≤100000)(hN:200000≤N):E1 N l l=some true:=by
 unfold E1 E1.b
 rw[ec,bl,av]
 refine o8 (F:=λn i=>E1.l4 N n l l i) (len:=l.length) (λn i hi hr=> ?_) (λn=> ?_) l.length N 0 ω ω ω
 ·unfold E1.l4 E1.dQ
  rw[aR ω,ak,aW ω ω,ak,ak,Zi,bl,av,aw (x:=(i:Int)+1) ω ω,af i]
  exact hr
 ·unfold E1.l4 E1.dQ
  rw[aP ω,av]
theorem Pe{l:au}(hl:l.length≤100000)(hN:200000≤N):CY N l l=some true:=by
 unfold CY CY.b
 rw[ec,bl,av]
 refine o8 (F:=λn i=>CY.l4 N n l l i) (len:=l.length) (λn i hi hr=> ?_) (λn=> ?_) l.length N 0 ω ω ω
 ·unfold CY.l4 CY.dQ
  rw[aR ω,ak,aW ω ω,ak,ak,Sp,bl,av,aw (x:=(i:Int)+1) ω ω,af i]
  exact hr
 ·unfold CY.l4 CY.dQ
  rw[aP ω,av]
theorem Wf{l:au}(hl:l.length≤100000)(hN:200000≤N):E2 N l l=some true:=by
 unfold E2 E2.b
 rw[ec,bl,av]
 refine o8 (F:=λn i=>E2.l4 N n l l i) (len:=l.length) (λn i hi hr=> ?_) (λn=> ?_) l.length N 0 ω ω ω
 ·unfold E2.l4 E2.dQ
  rw[aR ω,ak,aW ω ω,ak,ak,Sp,bl,av,aw (x:=(i:Int)+1) ω ω,af i]
  exact hr
 ·unfold E2.l4 E2.dQ
  rw[aP ω,av]
theorem Sq{l:aY}(hl:l.length≤100000)(hN:200000≤N):E3 N l l=some true:=by
 unfold E3 E3.b
 rw[ec,bl,av]
 refine o8 (F:=λn i=>E3.l4 N n l l i) (len:=l.length) (λn i hi hr=> ?_) (λn=> ?_) l.length N 0 ω ω ω
 ·unfold E3.l4 E3.dQ
  rw[aR ω,ak,aW ω ω,ak,ak,akT,bl,av,aw (x:=(i:Int)+1) ω ω,af i]
  exact hr
 ·unfold E3.l4 E3.dQ
  rw[aP ω,av]
theorem Pf{l:List (Int)}(hl:l.length≤100000)(hN:200000≤N):CZ N l l=some true:=by
 unfold CZ CZ.b
 rw[ec,bl,av]
 refine o8 (F:=λn i=>CZ.l4 N n l l i) (len:=l.length) (λn i hi hr=> ?_) (λn=> ?_) l.length N 0 ω ω ω
 ·unfold CZ.l4 CZ.dQ
  rw[aR ω,ak,aW ω ω,ak,ak,ec,bl,av,aw (x:=(i:Int)+1) ω ω,af i]
  exact hr
 ·unfold CZ.l4 CZ.dQ
  rw[aP ω,av]
theorem Y2(hN:200000≤N){b:an}(h1:b.1.length≤100000)(h2:b.2.1.length≤100000)(h3:b.2.2.1.length≤100000)(h4:b.2.2.2.1.length≤100000)(h5:b.2.2.2.2.1.length≤100000)(h6:b.2.2.2.2.2.1.length≤100000):F14 N b b=some true:=by
 unfold F14
 rw[Pd N h1 hN,ar,ak,Zj N h2 hN,ar,ak,Pe N h3 hN,ar,ak,Wf N h4 hN,ar,ak,Pf N h5 hN,ar,ak,Sq N h6 hN,ar]
theorem HC{P:Int→Prop} [DecidablePred P]{f:Int→Int→Int}: ∀{K:List dh} {o:au},dH P f K=some o→o.length≤K.length
 |[],o,h=>by
  have:some []=some o:=h
  rw[←nR this];exact aH _
 |k::t,o,h=>by
  rw[iy]at h
  by_cases hP:P (f k.1 k.2)
  ·rw[aj hP]at h
   cases hc:dH P f t with
   |none=>rw[hc]at h;exact absurd h (by simp)
   |some r=>
    have ih:=HC hc
    rw[hc]at h
    have h':=nR h
    rw[←h',aT]
    dsimp only
    split
    ·omega
    ·rw[aT];omega
  ·rw[ah hP]at h;exact absurd h (by simp)
theorem Sr:iU.length=150:=by decide+kernel
theorem Wg:mc.length=175:=by decide+kernel
structure Zk(b:an):Prop where
 m:b.1.length≤100000
 a:b.2.1.length≤100000
 r:b.2.2.1.length≤100000
 s:b.2.2.2.1.length≤100000
 p:b.2.2.2.2.1.length≤100000
 o:b.2.2.2.2.2.1.length≤100000
theorem C0:Zk (([]:aE),(([]:aO),(([]:au),(([]:au),(([]:List Int),(([]:aY),())))))):=⟨bz _,bz _,bz _,bz _,bz _,bz _⟩
theorem Pg{b:an}(w:oe b)(s e:au):Zk (cC b s e).1:=by
 unfold cC
 cases h1:dH Fq (fS b.2.2.2.1 s) iU with
 |none=>exact C0
 |some s'=>
  cases h2:dH aF (fS b.2.2.1 e) mc with
  |none=>exact C0
  |some r'=>
   have g1:=HC h1
   have g2:=HC h2
   rw[Sr]at g1
   rw[Wg]at g2
   exact⟨w.m,w.a,by show r'.length≤_;omega,by show s'.length≤_;omega,w.p,w.o⟩
end VM
end
section
namespace VM
open Go VM.F Go.RowKit
variable(N:Nat)
def gR(a b:Int):au→Int
 |[]=>0
 |x::t=>if x.1=a then(if x.2.1=b then x.2.2.1 else gR a b t)else gR a b t
theorem iJ(a b:Int)(x:dd)(t:au):gR a b (x::t)=if x.1=a then(if x.2.1=b then x.2.2.1 else gR a b t)else gR a b t:=rfl
def gj(l:au)(a b:Int):Int:=if de l then gR a b l else 0
def tC(l:au)(a b:Int):Int:=if eJ l then gR a b l else 0
theorem FF{l:au}(hl:l.length≤100000)(hN:200000≤N)(a b:Int):Cj N l a b=some (gj l a b):=by
 unfold Cj Cj.b gj
 rw[nv N hl hN,ar,cond_not]
 have:=D1 l bc (λn i=>Cj.l4 N n l a b i) (λt=>some (gR a b t)) (λn i hi hr=> ?_) (λn=> ?_) N ω
 ·rw[this];cases de l<;>rfl
 ·unfold Cj.l4 Cj.dQ
  rw[aR ω,ak,aW ω ω,ak,ak,ak,aI,aw (x:=(i:Int)+1) ω ω,af i,hr,aM,aM,iJ]
  split
  ·split<;>rfl
  ·rfl
 ·unfold Cj.l4 Cj.dQ
  rw[aP ω,av];rfl
theorem Mk{l:au}(hl:l.length≤100000)(hN:200000≤N)(a b:Int):uY N l a b=some (tC l a b):=by
 unfold uY uY.b tC
 rw[Hk N hl hN,ar,cond_not]
 have:=D1 l bc (λn i=>uY.l4 N n l a b i) (λt=>some (gR a b t)) (λn i hi hr=> ?_) (λn=> ?_) N ω
 ·rw[this];cases eJ l<;>rfl
 ·unfold uY.l4 uY.dQ
  rw[aR ω,ak,aW ω ω,ak,ak,ak,aI,aw (x:=(i:Int)+1) ω ω,af i,hr,aM,aM,iJ]
  split
  ·split<;>rfl
  ·rfl
 ·unfold uY.l4 uY.dQ
  rw[aP ω,av];rfl
theorem BN{l:au}(h: ∀i,i<l.length→aF (dT (l.getD i bc))):eK l:=λx hx=>by
 obtain⟨i,hi,e⟩:=gE hx
 have:=h i hi
 rw[aV,bm hi]at this
 rw[←e];exact this
namespace Pure
end Pure
end VM
end
section
namespace VM
open Go VM.F
variable(N:Nat)
theorem HD{l:au}(h:eK l)(a b:Int):aF (gR a b l):=by
 induction l with
 |nil=>show aF 0;decide
 |cons x t ih=>
  have ih:=ih (λy hy=>h y (aZ _ hy))
  rw[iJ]
  split
  ·split
   ·exact h x (bs ..)
   ·exact ih
  ·exact ih
theorem Zl{l:au}(h:eK l)(a b:Int):aF (tC l a b):=by
 unfold tC
 split
 ·exact HD h a b
 ·exact⟨δ,δ⟩
def nf(a:Int):au→aE
 |[]=>[]
 |x::t=>if x.1=a then(x.2.1,(x.2.2.1,()))::nf a t else nf a t
theorem pW(a:Int)(x:dd)(t:au):nf a (x::t)=if x.1=a then(x.2.1,(x.2.2.1,()))::nf a t else nf a t:=rfl
def posOf(l:au)(a:Int):aE:=if de l then nf a l else []
theorem HE(a:Int): ∀l:au,(nf a l).length≤l.length
 |[]=>aH _
 |x::t=>by
  have:=HE a t
  rw[pW,aT]
  split
  ·rw[aT];omega
  ·omega
theorem KE(a:Int)(l:au):(posOf l a).length≤l.length:=by
 unfold posOf
 split
 ·exact HE a l
 ·exact bz _
theorem ng{a:Int}{y:Bx}: ∀{l:au},y∈nf a l→ ∃x∈l,x.1=a∧y=(x.2.1,(x.2.2.1,()))
 |[],h=>nomatch h
 |x::t,h=>by
  rw[pW]at h
  by_cases e:x.1=a
  ·rw[aj e]at h
   rcases a8.1 h with h|h
   ·exact⟨x,bs ..,e,h⟩
   ·obtain⟨x',hx,h'⟩:=ng h
    exact⟨x',aZ _ hx,h'⟩
  ·rw[ah e]at h
   obtain⟨x',hx,h'⟩:=ng h
   exact⟨x',aZ _ hx,h'⟩
theorem Zm{l:au}(h:eK l)(a:Int): ∀y∈posOf l a,aF y.2.1:=λy hy=>by
 unfold posOf at hy
 split at hy
 ·obtain⟨x,hx,_,rfl⟩:=ng hy
  exact h x hx
 ·nomatch hy
theorem ap0{l:au}(hl:l.length≤100000)(hN:200000≤N)(a:Int):Ec N l a=some (posOf l a):=by
 unfold Ec Ec.b posOf
 rw[xD N hl hN,ar,cond_not]
 have:=n0 l bc (λn i s=>Ec.l5 N n a s l (l.length:Int) i) (λt s=>some (s++nf a t)) (λi (s:aE)=>s.length≤i) (λn i s hi hI hr=> ?_) (λn s hI=> ?_) l.length N 0 [] ω ω ω (aH _)
 ·have e:Ec.l5 N N a [] l (l.length:Int) 0=some (nf a l):=this
  rw[e];cases de l<;>rfl
 ·unfold Ec.l5 Ec.eo
  rw[aR ω,ak,aW ω ω,ak,aI,aw (x:=(i:Int)+1) ω ω,af i,aM,bY (by rw[aJ];omega),ak,pW]
  split
  ·rw[hr _ (by rw[aS,aJ];omega),bE];rfl
  ·exact hr s ω
 ·unfold Ec.l5 Ec.eo
  rw[aP ω,av]
  show some s=some (s++[])
  rw[cw]
theorem Zn{l:au}(hl:l.length≤100000)(hN:200000≤N)(a:Int):mK N l a=some (posOf l a):=by
 unfold mK mK.b posOf
 rw[nv N hl hN,ar,cond_not]
 have:=n0 l bc (λn i s=>mK.l5 N n l a s i) (λt s=>some (s++nf a t)) (λi (s:aE)=>s.length≤i) (λn i s hi hI hr=> ?_) (λn s hI=> ?_) l.length N 0 [] ω ω ω (aH _)
 ·have e:mK.l5 N N l a [] 0=some (nf a l):=this
  rw[e];cases de l<;>rfl
 ·unfold mK.l5 mK.eo
  rw[aR ω,ak,aW ω ω,ak,ak,ak,aI,aw (x:=(i:Int)+1) ω ω,af i,aM,bY (by rw[aJ];omega),ak,pW]
  split
  ·rw[hr _ (by rw[aS,aJ];omega),bE];rfl
  ·exact hr s ω
 ·unfold mK.l5 mK.eo
  rw[aP ω,av]
  show some s=some (s++[])
  rw[cw]
def Ml(a n:Int):Prop:=0≤a∧a<n
theorem Ed{a:Int}: ∀{l:au},so (l.map keyOf)→((nf a l).map (λy=>(y.1:Int))).Pairwise (· < ·)
 |[],_=>List.Pairwise.nil
 |x::t,h=>by
  obtain⟨h1,h2⟩:=eX.1 h
  have ih:=Ed (a:=a) h2
  rw[pW]
  by_cases e:x.1=a
  ·rw[aj e,bQ]
   refine eX.2 ⟨λz hz=> ?_,ih⟩
   obtain⟨y,hy,rfl⟩:=cW.1 hz
   obtain⟨x',hx,e',rfl⟩:=ng hy
   have hk:=h1 (keyOf x') (fm hx)
   have g: ∀p q r s:Int,p=a→r=a→lZ p q r s→q<s:=λp q r s h1 h2 h=>by unfold lZ at h;omega
   exact g _ _ _ _ e e' hk
  ·rw[ah e];exact ih
def dj(p:Int):Prop:=1≤p∧p≤1000000000000
instance(p:Int):Decidable (dj p):=by unfold dj;infer_instance
theorem HF(p:Int):Xr N p=some (decide (dj p)):=(jz N p).trans (fv some (nQ.2 Iff.rfl))
def kd(a b c d e:Int):Prop:=(0≤a∧a≤24)∧(0≤b∧b≤24)∧a≠b∧(0≤c∧c<6)∧(1≤d∧d≤1000000000)∧dj e
instance(a b c d e:Int):Decidable (kd a b c d e):=by unfold kd;infer_instance
def cO(t:ir):Prop:=kd t.1 t.2.1 t.2.2.1 t.2.2.2.1 t.2.2.2.2.1
instance:DecidablePred cO:=λt=>by unfold cO;infer_instance
theorem Ee(a b c d e:Int):cond (du 0 a) (cond (du a 24) (cond (du 0 b) (cond (du b 24) (cond (!aN a b) (cond (du 0 c) (cond (aX c 6) (cond (du 1 d) (cond (du d 1000000000) (some (decide (dj e))) (some false)) (some false)) (some false)) (some false)) (some false)) (some false)) (some false)) (some false)) (some false)=some (decide (kd a b c d e)):=by
 simp only[cB,cond_not,aM,cA]
 by_cases hP:kd a b c d e
 ·have hp:=hP.2.2.2.2.2
  rw[aU hP,aU hp]
  unfold kd at hP
  repeat' split
  all_goals first|rfl|omega
 ·rw[bx hP]
  by_cases hp:dj e
  ·unfold kd at hP
   repeat' split
   all_goals first|rfl|(exact absurd ⟨ω,ω,ω,ω,ω,hp⟩ hP)
  ·rw[bx hp]
   repeat' split
   all_goals rfl
theorem uN(t:ir):Zo N t=some (decide (cO t)):=by
 unfold Zo
 rw[HF,ar]
 exact Ee _ _ _ _ _
def sr(a x:Int):dd:=if a=0 then((2:Int),((0:Int),(x,())))else((5:Int),(a,(x,())))
def mi(t:ir)(p:Int):au:=if p-t.2.2.2.2.1=0 then []else [sr t.1 ((p-t.2.2.2.2.1)*t.2.2.2.1),sr t.2.1 (-((p-t.2.2.2.2.1)*t.2.2.2.1))]
def jR(b:an)(t:ir):Int:=b.2.2.2.2.1.getD t.2.2.1.toNat 0
def fL:bf→au
 |[]=>[]
 |t::r=>(t.1,(t.2.2.1,(t.2.2.2.1,())))::(t.2.1,(t.2.2.1,((0-t.2.2.2.1:Int),())))::fL r
def e7(b:an):bf→au
 |[]=>[]
 |t::r=>mi t (jR b t)++e7 b r
theorem lx(t:ir)(r:bf):fL (t::r)=(t.1,(t.2.2.1,(t.2.2.2.1,())))::(t.2.1,(t.2.2.1,((0-t.2.2.2.1:Int),())))::fL r:=rfl
theorem jK(b:an)(t:ir)(r:bf):e7 b (t::r)=mi t (jR b t)++e7 b r:=rfl
theorem C1(a x:Int)(N:Nat):Mm N a=some ((sr a x).1,(sr a x).2.1):=by
 unfold Mm sr
 rw[aM]
 by_cases h:a=0
 ·rw[aj h,aj h]
 ·rw[ah h,ah h]
theorem ia(a x:Int):dT (sr a x)=x:=by unfold sr;split<;>rfl
theorem C2{d q:Int}(h1: -1000000000000≤d∧d≤1000000000000)(h2:1≤q∧q≤1000000000): -1000000000000000000000≤d*q∧d*q≤1000000000000000000000∧(d*q=0↔d=0):=by
 refine⟨?_,?_,?_⟩
 ·have:=Al h1.1 (show 0≤q by omega)
  have h3: -1000000000000*1000000000≤ -1000000000000*q:=ω
  omega
 ·have:=Al h1.2 (show 0≤q by omega)
  have h3:1000000000000*q≤1000000000000*1000000000:=ω
  omega
 ·rw[Int.mul_eq_zero];omega
theorem zp(hN:4000000≤N){t:ir}{p:Int}(ht:cO t)(hp:dj p):Ph N t p=some ((mi t p).map jB,0):=by
 unfold Ph mi
 have hq:=ht.2.2.2.2.1
 have he:=ht.2.2.2.2.2
 rw[uN,ar,aU ht,bl,av,HF,ar,aU hp,bl,av]
 unfold dj at hp he
 generalize t.2.2.2.2.1=e at*
 generalize t.2.2.2.1=q at*
 have hd: -1000000000000≤p-e∧p-e≤1000000000000:=ω
 have hn:=C2 hd hq
 have acM:cR ((p-e)*q):=by unfold cR;omega
 rw[aw (x:=p-e) ω ω,dP N ω ω ω,ar,dP N ω ω ω,ar,Br N hN ((Fit.i64 ω ω).mono ω) ((Fit.i64 ω ω).mono ω),ar,qO,ar,aM]
 by_cases h:p-e=0
 ·rw[aj h,aj (by rw[hn.2.2.2 h];rfl)];rfl
 ·rw[ah h,ah (λk=>h (hn.2.2.1 (lq.1 k))),C1 t.1 ((p-e)*q),ar,C1 t.2.1 (-((p-e)*q)),ar,oZ N hN (FD acM),ar,bQ,bQ,ik]
  unfold jB
  rw[ia,ia]
def dR(c:ae)(b:an)(t:ir):Bool:=
 ((eV b.2.1 t.1).2||decide (dD t.1 0))&&(((eV b.2.1 t.2.1).2||decide (dD t.2.1 0))&&decide (lI t.2.2.1 c.1.length))
def eL(c:ae)(b:an)(l:bf):an×Int:=
 if dg c b then(if l.length≤200 then(if l.all (λt=>decide (cO t))then(if l.all (dR c b)then cC b (fL l) (e7 b l)else((cc,(cT,(bq,(bq,(db,(dq,())))))),3))else((cc,(cT,(bq,(bq,(db,(dq,())))))),1))else((cc,(cT,(bq,(bq,(db,(dq,())))))),1))else((cc,(cT,(bq,(bq,(db,(dq,())))))),1)
theorem fD{c:ae}{b:an}(h:dg c b=true):b.2.2.2.2.1.length=c.1.length∧fi b.2.2.2.2.1=true:=by
 unfold dg at h
 simp only[bM]at h
 have h1:=bt h.2.2.2.2.2.2.1
 unfold dD at h1
 exact⟨ω,h.2.2.2.2.2.2.2.2.2.2⟩
theorem vL: ∀l:bf,(fL l).length=2*l.length
 |[]=>rfl
 |t::r=>by rw[lx,aT,aT,aT,vL r];omega
theorem zV(t:ir)(p:Int):(mi t p).length≤2:=by
 unfold mi
 split
 ·exact bz _
 ·exact aH 2
theorem vM(b:an): ∀l:bf,(e7 b l).length≤2*l.length
 |[]=>aH _
 |t::r=>by
  have:=zV t (jR b t)
  have:=vM b r
  rw[jK,aS,aT];omega
theorem ss{l:List Int}(h:fi l=true){i:Nat}(hi:i<l.length):dj (l.getD i 0):=bt h i hi
theorem Ss(i:Int)(a b:dd)(l:au)(h:a.2.1=b.2.1)(hs:dT a+dT b=0):(df i (a::b::l)).sum=(df i l).sum:=by
 rw[dx,dx]
 by_cases e:a.2.1=i
 ·rw[aj e,aj (h.symm.trans e),cE,cE];omega
 ·rw[ah e,ah (λk=>e (h.trans k))]
theorem Ef: ∀{l:bf},(∀t∈l,cO t)→(∀x∈fL l,cj x.1 x.2.1∧aF (dT x)∧qQ (dT x))∧ ∀i:Int,(df i (fL l)).sum=0
 |[],_=>⟨λx hx=>(nomatch hx),λi=>rfl⟩
 |t::r,h=>by
  obtain⟨h1,h2⟩:=Ef (l:=r) (λy hy=>h y (aZ _ hy))
  have ht:=h t (bs ..)
  unfold cO kd at ht
  have g: ∀a b c d:Int,(0≤a∧a≤24)→(0≤b∧b≤24)→(0≤c∧c<6)→(1≤d∧d≤1000000000)→(cj a c∧aF d∧qQ d)∧(cj b c∧aF (0-d)∧qQ (0-d)):=λa b c d _ _ _ _=>by unfold cj aF qQ;omega
  have hg:=g _ _ _ _ ht.1 ht.2.1 ht.2.2.2.1 ht.2.2.2.2.1
  refine⟨λx hx=> ?_,λi=> ?_⟩
  ·rw[lx]at hx
   rcases a8.1 hx with e|hx
   ·rw[e];exact hg.1
   ·rcases a8.1 hx with e|hx
    ·rw[e];exact hg.2
    ·exact h1 x hx
  ·rw[lx]
   have hz: ∀d:Int,d+(0-d)=0:=λd=>ω
   exact(Ss i (t.1,(t.2.2.1,(t.2.2.2.1,()))) (t.2.1,(t.2.2.1,((0-t.2.2.2.1:Int),()))) (fL r) rfl (hz t.2.2.2.1)).trans (h2 i)
theorem Su{t:ir}{p:Int}(ht:cO t)(hp:dj p):cR ((p-t.2.2.2.2.1)*t.2.2.2.1)∧cR (-((p-t.2.2.2.2.1)*t.2.2.2.1)):=by
 have hq:=ht.2.2.2.2.1
 have he:=ht.2.2.2.2.2
 unfold dj at hp he
 generalize t.2.2.2.2.1=e at*
 generalize t.2.2.2.1=q at*
 have hn:=C2 (d:=p-e) ω hq
 unfold cR
 omega
theorem HG{a x:Int}(h:0≤a∧a≤24):c9 (sr a x).1 (sr a x).2.1:=by
 unfold sr
 by_cases e:a=0
 ·rw[aj e];show c9 2 0;decide
 ·rw[ah e];show c9 5 a;unfold c9;omega
theorem Pj{t:ir}{p:Int}(ht:cO t)(hp:dj p):(∀x∈mi t p,c9 x.1 x.2.1∧cR (dT x))∧((mi t p).map dT).sum=0:=by
 have hn:=Su ht hp
 unfold mi
 split
 ·exact⟨λx hx=>(nomatch hx),rfl⟩
 ·refine⟨λx hx=> ?_,?_⟩
  ·rcases a8.1 hx with e|hx
   ·rw[e,ia];exact⟨HG ht.1,hn.1⟩
   ·rw[cn.1 hx,ia];exact⟨HG ht.2.1,hn.2⟩
  ·rw[bQ,bQ,ik,cE,cE,jo,ia,ia];omega
theorem Eg{b:an}: ∀{l:bf},(∀t∈l,cO t∧dj (jR b t))→(∀x∈e7 b l,c9 x.1 x.2.1∧cR (dT x))∧((e7 b l).map dT).sum=0
 |[],_=>⟨λx hx=>(nomatch hx),rfl⟩
 |t::r,h=>by
  obtain⟨h1,h2⟩:=Eg (b:=b) (l:=r) (λy hy=>h y (aZ _ hy))
  have ht:=h t (bs ..)
  have hc:=Pj ht.1 ht.2
  rw[jK]
  refine⟨λx hx=>(bk.1 hx).elim (hc.1 x) (h1 x),?_⟩
  rw[dn,kQ,hc.2,h2];rfl
theorem KF{l:bf}(h: ∀t∈l,cO t)(hl:l.length≤200):O2 (fL l):=by
 obtain⟨h1,h2⟩:=Ef h
 exact⟨λx hx=>(h1 x hx).1,λx hx=>(h1 x hx).2,by rw[vL];omega,h2⟩
theorem KG{b:an}{l:bf}(h: ∀t∈l,cO t∧dj (jR b t))(hl:l.length≤200):O5 (e7 b l):=by
 obtain⟨h1,h2⟩:=Eg h
 have:=vM b l
 exact⟨λx hx=>(h1 x hx).1,λx hx=>(h1 x hx).2,ω,h2⟩
theorem Mn(hN:4000000≤N)(c:ae){b:an}(w:qU b)(hB:dg c b=true){l:bf}(hk: ∀t∈l,cO t)(hl:l.length≤200):
  nK.zW N N l c b (cc,(cT,(bq,(bq,(db,(dq,())))))) [] [] 0=some (if l.all (dR c b)then cC b (fL l) (e7 b l)else((cc,(cT,(bq,(bq,(db,(dq,())))))),3)):=by
 obtain⟨hr,hs⟩:=eS hB
 obtain⟨Cw,Jr⟩:=fD hB
 have gs:=KF hk hl
 have:=n0 l eG (λn i (z:au×au)=>nK.zW N n l c b (cc,(cT,(bq,(bq,(db,(dq,())))))) z.1 (z.2.map jB) i)
  (λu z=>some (if u.all (dR c b)then cC b (fL l) (e7 b l)else((cc,(cT,(bq,(bq,(db,(dq,())))))),3)))
  (λi z=>z.1++fL (l.drop i)=fL l∧z.2++e7 b (l.drop i)=e7 b l∧ ∀j,j<i→dR c b (l.getD j eG)=true)
  (λn i z hi hI Bt=> ?_) (λn z hI=> ?_) l.length N 0 ([],[]) ω ω ω ⟨rfl,rfl,λj hj=>absurd hj ω⟩
 ·exact this
 ·unfold nK.zW nK.xK
  obtain⟨i1,i2,i3⟩:=hI
  have hls:=vL l
  have hle:=vM b l
  have z1:z.1.length≤400:=by rw[←i1,aS]at hls;omega
  have z2:z.2.length≤400:=by rw[←i2,aS]at hle;omega
  have hm:l.getD i eG∈l:=by
   rw[aV,bm hi];exact dJ hi
  have ht:=hk _ hm
  rw[drop_cons hi eG,lx]at i1
  rw[drop_cons hi eG,jK]at i2
  rw[aR ω,ak,aW ω ω,ak,aI,aw (x:=(i:Int)+1) ω ω,af i,kR]
  have i4:dR c b (l.getD i eG)=true→ ∀j,j<i+1→dR c b (l.getD j eG)=true:=λh j hj=>by
   by_cases e:j=i
   ·rw[e];exact h
   ·exact i3 j ω
  generalize l.getD i eG=t at*
  have hq:=ht.2.2.2.2.1
  have kC:=ht.2.2.2.1
  rw[pT N b w.w.a ω,ar,pT N b w.w.a ω,ar,cond_not,cond_not,cB]
  have e0:W .i64 (0-t.2.2.2.1)=0-t.2.2.2.1:=by
   have g: ∀d:Int,1≤d∧d≤1000000000→W .i64 (0-d)=0-d:=λd _=>aw ω ω
   exact g _ hq
  rw[e0]
  dsimp only
  by_cases h1:((eV b.2.1 t.1).2||decide (dD t.1 0))=false
  ·have:dR c b t=false:=by unfold dR;rw[h1];rfl
   rw[h1,this];rfl
  ·rw[rF]at h1
   rw[h1,ak]
   by_cases h2:((eV b.2.1 t.2.1).2||decide (dD t.2.1 0))=false
   ·have:dR c b t=false:=by unfold dR;rw[h1,h2];rfl
    rw[h2,this];rfl
   ·rw[rF]at h2
    rw[h2,ak]
    by_cases h3:(c.1.length:Int)≤t.2.2.1
    ·have:dR c b t=false:=by
      unfold dR
      rw[h1,h2,bx (show ¬lI t.2.2.1 c.1.length from λh=>by unfold lI at h;exact absurd h (nU.2 h3))];rfl
     rw[aj h3,this];rfl
    ·have eT:t.2.2.1<(c.1.length:Int):=ur.1 h3
     have hth:dR c b t=true:=by
      unfold dR
      rw[h1,h2,aU (show lI t.2.2.1 c.1.length from eT)];rfl
     have Wh:t.2.2.1.toNat<b.2.2.2.2.1.length:=by
      have g: ∀x:Int,(0≤x∧x<6)→x<(c.1.length:Int)→x.toNat<b.2.2.2.2.1.length:=λx _ _=>ω
      exact g _ kC eT
     have RN:bb t.2.2.1 b.2.2.2.2.1.length=true:=by
      have g: ∀x:Int,(0≤x∧x<6)→x<(c.1.length:Int)→bb x b.2.2.2.2.1.length=true:=λx _ _=>aW ω ω
      exact g _ kC eT
     have hp:dj (jR b t):=ss Jr Wh
     have htp:Ph N t (b.2.2.2.2.1.getD t.2.2.1.toNat 0)=some ((mi t (jR b t)).map jB,0):=zp N hN ht hp
     have Fo:=zV t (jR b t)
     rw[ah h3,bY (by rw[aT,aJ];omega),ak,RN,ak,htp,ar,bY (by rw[cK,cK];omega),ak,hth,kS]
     have:=Bt (z.1++[(t.1,(t.2.2.1,(t.2.2.2.1,()))),(t.2.1,(t.2.2.1,((0-t.2.2.2.1:Int),())))],z.2++mi t (jR b t)) ⟨by rw[←i1,bE];rfl,by rw[←i2,bE],i4 hth⟩
     rw[dn]at this
     exact this
 ·unfold nK.zW nK.xK
  obtain⟨i1,i2,i3⟩:=hI
  rw[mT]at i1 i2
  have e1:z.1=fL l:=by rw[←i1];exact(cw _).symm
  have e2:z.2=e7 b l:=by rw[←i2];exact(cw _).symm
  have iv: ∀t∈l,cO t∧dj (jR b t):=λt ht=>by
   obtain⟨i,hi,e⟩:=gE ht
   have h:=i3 i hi
   rw[aV,bm hi]at h
   simp only[nO,e]at h
   unfold dR at h
   have eT:=bt (da.1 (da.1 h).2).2
   have kC:=(hk t ht).2.2.2.1
   have Wh:t.2.2.1.toNat<b.2.2.2.2.1.length:=by
    have g: ∀x:Int,(0≤x∧x<6)→lI x c.1.length→x.toNat<b.2.2.2.2.1.length:=λx _ h=>by unfold lI at h;omega
    exact g _ kC eT
   exact⟨hk t ht,ss Jr Wh⟩
  rw[aP ω,av,e1,e2,acO N hN w.w hr hs w.r w.s gs (KG iv hl),ar]
  rfl
theorem Sk(hN:5000000≤N)(c:ae){b:an}(w:qU b){l:bf}(hl:l.length≤100000):nK N c b l=some (eL c b l):=by
 unfold nK nK.b eL
 rw[Hr N hN w.w,ar,cond_not,cA]
 by_cases hB:dg c b=false
 ·rw[hB];rfl
 rw[rF]at hB
 rw[hB,ak,aj rfl]
 by_cases Sv:l.length≤200
 ·rw[ah ω,aj Sv]
  have key: ∀(m n i:Nat),l.length-i≤m→m<n→i≤l.length→(∀j,j<i→cO (l.getD j eG))→nK.l4 N n l c b (cc,(cT,(bq,(bq,(db,(dq,())))))) (i:Int)=some (if l.all (λt=>decide (cO t))then(if l.all (dR c b)then cC b (fL l) (e7 b l)else((cc,(cT,(bq,(bq,(db,(dq,())))))),3))else((cc,(cT,(bq,(bq,(db,(dq,())))))),1)):=by
   intro m n
   induction n generalizing m with
   |zero=>intro i _ hn;omega
   |succ n ih=>
    intro i hm hn hi hj
    unfold nK.l4 nK.dQ
    by_cases h:i<l.length
    ·rw[aR ω,ak,aW ω ω,ak,aI,uN,ar,cond_not,fY,aw (x:=(i:Int)+1) ω ω,af i]
     by_cases hk:cO (l.getD i eG)
     ·rw[aj hk]
      exact ih (m-1) (i+1) ω ω ω λj Xn=>by
       by_cases e:j=i
       ·rw[e];exact hk
       ·exact hj j ω
     ·rw[ah hk]
      have hf:l.all (λt=>decide (cO t))=false:=by
       rw[List.all_eq_false]
       refine⟨l.getD i eG,?_,by rw[bx hk];decide⟩
       rw[aV,bm h];exact dJ h
      rw[hf];rfl
    ·have hk: ∀t∈l,cO t:=λt ht=>by
      obtain⟨k,hk,e⟩:=gE ht
      have:=hj k ω
      rw[aV,bm hk]at this
      rw[←e];exact this
     have ha:l.all (λt=>decide (cO t))=true:=kz.2 λt ht=>aU (hk t ht)
     rw[aP ω,av,ha,aj rfl]
     exact Mn N ω c w hB hk Sv
  exact key l.length N 0 ω ω ω (λj hj=>absurd hj ω)
 ·rw[aj ω,ah Sv]
theorem vN{c:ae}{b:an}(h:dg c b=true):eR c=true:=by
 unfold dg at h
 exact(da.1 h).1
def ot(k:Int):Nat→aO→List Int
 |_,[]=>[]
 |i,x::t=>if x.1=k then(i:Int)::ot k (i+1) t else ot k (i+1) t
theorem BO(k:Int)(i:Nat)(x:cF)(t:aO):ot k i (x::t)=if x.1=k then(i:Int)::ot k (i+1) t else ot k (i+1) t:=rfl
def jC(c:ae)(k:Int):List Int:=if eR c then ot k 0 c.1 else []
theorem Sw(hN:200000≤N)(c:ae)(hl:c.1.length≤100000)(k:Int):pX N c k=some (jC c k):=by
 unfold pX pX.b jC
 rw[oa N ω,ar,cond_not]
 have:=n0 c.1 ba (λn i s=>pX.l5 N n k c s i) (λt s=>some (s++ot k (c.1.length-t.length) t)) (λi (s:List Int)=>s.length≤i) (λn i s hi hI hr=> ?_) (λn s hI=> ?_) c.1.length N 0 [] ω ω ω (aH _)
 ·have e:pX.l5 N N k c [] 0=some (ot k 0 c.1):=by
   refine this.trans ?_
   rw[cV,uq];rfl
  rw[e];cases eR c<;>rfl
 ·unfold pX.l5 pX.eo
  have e1:c.1.length-(c.1.getD i ba::c.1.drop (i+1)).length=i:=by rw[aT,dY];omega
  have e2:c.1.length-(c.1.drop (i+1)).length=i+1:=by rw[dY];omega
  rw[e2]at hr
  rw[aR ω,ak,aW ω ω,ak,aI,aw (x:=(i:Int)+1) ω ω,af i,aM,bY (by rw[aJ];omega),ak,e1,BO]
  split
  ·rw[hr _ (by rw[aS,aJ];omega),bE];rfl
  ·exact hr s ω
 ·unfold pX.l5 pX.eo
  rw[aP ω,av]
  show some s=some (s++[])
  rw[cw]
theorem tD{c:ae}(h:eR c=true):c.1.length≤6∧ ∀i,i<c.1.length→0≤(c.1.getD i ba).1∧(c.1.getD i ba).1≤3:=by
 unfold eR at h
 simp only[bM]at h
 have h1:=bt h.1
 have h2:=bt h.2.1
 exact⟨h1.2,λi hi=>(h2 i hi).1⟩
theorem Zp{l:au}(h:eK l)(a b:Int):aF (gj l a b):=by
 unfold gj
 cases de l
 ·show aF 0;decide
 ·exact HD h a b
theorem su(p:Int):F40 N p=some (decide (dj p)):=(CL N p).trans (fv some (nQ.2 Iff.rfl))
theorem KH(hN:10≤N)(t:ir):C3 N t=some (decide (cO t)):=by
 obtain⟨n,rfl⟩: ∃n,N=n+3:=⟨N-3,ω⟩
 refine Eq.trans ?_ (Ee t.1 t.2.1 t.2.2.1 t.2.2.2.1 t.2.2.2.2.1)
 unfold C3 C3.b
 have el:List.set (List.set (List.replicate 2 (0:Int)) 0 t.1) 1 t.2.1=[t.1,t.2.1]:=rfl
 rw[el]
 generalize hl:[t.1,t.2.1]=l
 have g0:l.getD (0:Int).toNat 0=t.1:=by rw[←hl];rfl
 have g1:l.getD (1:Int).toNat 0=t.2.1:=by rw[←hl];rfl
 unfold C3.l2 C3.fM
 unfold C3.l2 C3.fM
 unfold C3.l2 C3.fM
 rw[aR (x:=0) ω,ak,aW (i:=0) ω ω,ak,aw (x:=0+1) ω ω,show(0:Int)+1=1 from rfl,aR (x:=1) (y:=2) ω,ak,aW (i:=1) ω ω,ak,aw (x:=1+1) ω ω,show(1:Int)+1=2 from rfl,aP (x:=2) (y:=2) ω,av,g0,g1,su,ar]
 simp only[cB,cond_not,aM,cA]
 by_cases a1:t.1<0
 ·rw[aj a1,ah (ur.2 a1)]
 rw[ah a1,aj (nU.1 a1)]
 by_cases a2:24<t.1
 ·rw[aj a2,ah (ur.2 a2)]
 rw[ah a2,aj (nU.1 a2)]
 by_cases a3:t.2.1<0
 ·rw[aj a3,ah (ur.2 a3)]
 rw[ah a3,aj (nU.1 a3)]
 by_cases a4:24<t.2.1
 ·rw[aj a4,ah (ur.2 a4)]
 rw[ah a4,aj (nU.1 a4)]
theorem C5(a x:Int):Wi N a (cL x)=some (iI (sr a x)):=by
 unfold Wi sr iI
 rw[aM]
 by_cases h:a=0
 ·rw[aj h,aj h];rfl
 ·rw[ah h,ah h];rfl
theorem Sx(hN:100≤N){t:ir}{p:Int}(ht:cO t)(hp:dj p):F60 N t p=some ((mi t p).map iI,0):=by
 unfold F60 mi
 have hq:=ht.2.2.2.2.1
 have he:=ht.2.2.2.2.2
 rw[KH N ω,ar,aU ht,bl,av,su,ar,aU hp,bl,av,aM]
 unfold dj at hp he
 generalize t.2.2.2.2.1=e at*
 generalize t.2.2.2.1=q at*
 by_cases h:p=e
 ·rw[aj h,aj ω];rfl
 ·rw[ah h,ah ω,aw (x:=p-e) ω ω,aw (x:=e-p) ω ω,L8 N ω ω ω ω,ar,C5,ar,L8 N ω ω ω ω,ar,C5,ar,bQ,bQ,ik,jm q (p-e)]
  have e2:q*(e-p)= -((p-e)*q):=by rw[jm,←Int.neg_mul];congr 1;omega
  rw[e2]
theorem acQ{u v:Int}(hu:cR u)(hv:cR v)(hs:cR (u+v)):Zq N (cL u) (cL v)=some (cL (u+v),true):=by
 unfold Zq cL
 unfold cR at*
 dsimp only
 have hp:0≤u%18446744073709551616∧u%18446744073709551616<18446744073709551616:=ω
 have hq:0≤v%18446744073709551616∧v%18446744073709551616<18446744073709551616:=ω
 rw[pQ,pQ,xy N ω ω ω ω,ar]
 dsimp only
 have hc:0≤(u%18446744073709551616+v%18446744073709551616+0)/18446744073709551616∧(u%18446744073709551616+v%18446744073709551616+0)/18446744073709551616≤1:=ω
 have e1:(u%18446744073709551616+v%18446744073709551616+0)%18446744073709551616=(u+v)%18446744073709551616:=ω
 have e2:u/18446744073709551616+v/18446744073709551616+(u%18446744073709551616+v%18446744073709551616+0)/18446744073709551616=(u+v)/18446744073709551616:=ω
 have h3: -9223372036854775808≤(u+v)/18446744073709551616∧(u+v)/18446744073709551616<9223372036854775808:=ω
 rw[xy N ω ω hc.1 hc.2,ar]
 dsimp only
 have e3:W .i64 ((u/18446744073709551616%18446744073709551616+v/18446744073709551616%18446744073709551616+(u%18446744073709551616+v%18446744073709551616+0)/18446744073709551616)%18446744073709551616)=(u+v)/18446744073709551616:=by
  rw[gF];split<;>omega
 rw[e3,e1]
 have key: ∀A B C:Int,A=u/18446744073709551616→B=v/18446744073709551616→C=(u+v)/18446744073709551616→(A<0∧B<0→C<0)∧(¬A<0∧ ¬B<0→ ¬C<0):=λA B C _ _ _=>ω
 have k:=key _ _ _ rfl rfl rfl
 simp only[pR,qd]
 by_cases a:u/18446744073709551616<0<;>by_cases b:v/18446744073709551616<0
 ·have c:=k.1 ⟨a,b⟩
  rw[aU a,aU b,aU c];rfl
 ·rw[aU a,bx b];rfl
 ·rw[bx a,aU b];rfl
 ·have c:=k.2 ⟨a,b⟩
  rw[bx a,bx b,bx c];rfl
theorem Eh(N:Nat)(hN:10≤N){l:bf}(hl:l.length≤100000): ∀(m n i:Nat),l.length-i≤m→m<n→i≤l.length→
  ∃r,sZ.l2 N n l () (l.length:Int) (i:Int)=some r∧(du 0 r= !(l.drop i).all (λt=>decide (cO t)))
 |m,0,i,_,hn,_=>ω
 |m,n+1,i,hm,hn,hi=>by
  unfold sZ.l2 sZ.fM F58
  by_cases h:i<l.length
  ·rw[aR ω,ak,aW ω ω,ak,aI,KH N hN,ar,ar,cond_not,fY,drop_cons h eG,kR]
   by_cases hP:cO (l.getD i eG)
   ·rw[aj hP,aw ω ω,aU hP,kS]
    exact Eh N hN hl (m-1) n (i+1) ω ω ω
   ·rw[ah hP,bx hP,um]
    exact⟨_,rfl,by rw[fQ ω];rfl⟩
  ·have e:i=l.length:=ω
   subst e
   rw[aP ω,av,mT]
   exact⟨_,rfl,by rw[fK ω];rfl⟩
theorem Sy{l:bf}(hl:l.length≤100000)(hN:200000≤N):F57 N l ()=some (!l.all (λt=>decide (cO t))):=by
 unfold F57 sZ sZ.b
 obtain⟨r,e,h⟩:=Eh N ω hl l.length N 0 ω ω ω
 rw[show((0:Nat):Int)=0 from rfl]at e
 rw[e,ar,h,cV]
theorem Pk(hN:4000000≤N)(c:ae){b:an}(w:qU b)(hB:dg c b=true){l:bf}(hk: ∀t∈l,cO t)(hth: ∀t∈l,dR c b t=true)(hl:l.length≤200):
  tE.oH N N b (cc,(cT,(bq,(bq,(db,(dq,())))))) [] [] l (l.length:Int) 0=some (cC b (fL l) (e7 b l)):=by
 obtain⟨hr,hs⟩:=eS hB
 obtain⟨Cw,Jr⟩:=fD hB
 have gs:=KF hk hl
 have Wh: ∀t∈l,t.2.2.1.toNat<b.2.2.2.2.1.length∧bb t.2.2.1 b.2.2.2.2.1.length=true:=λt ht=>by
  have h:=hth t ht
  unfold dR at h
  have eT:=bt (da.1 (da.1 h).2).2
  have kC:=(hk t ht).2.2.2.1
  have g: ∀x:Int,(0≤x∧x<6)→lI x c.1.length→x.toNat<b.2.2.2.2.1.length∧bb x b.2.2.2.2.1.length=true:=λx _ h=>by unfold lI at h;exact⟨ω,aW ω ω⟩
  exact g _ kC eT
 have iv: ∀t∈l,cO t∧dj (jR b t):=λt ht=>⟨hk t ht,ss Jr (Wh t ht).1⟩
 have:=n0 l eG (λn i (z:au×au)=>tE.oH N n b (cc,(cT,(bq,(bq,(db,(dq,())))))) z.1 (z.2.map iI) l (l.length:Int) i)
  (λu z=>some (cC b (fL l) (e7 b l)))
  (λi z=>z.1++fL (l.drop i)=fL l∧z.2++e7 b (l.drop i)=e7 b l)
  (λn i z hi hI Bt=> ?_) (λn z hI=> ?_) l.length N 0 ([],[]) ω ω ω ⟨rfl,rfl⟩
 ·exact this
 ·unfold tE.oH tE.nD
  obtain⟨i1,i2⟩:=hI
  have hls:=vL l
  have hle:=vM b l
  have z1:z.1.length≤400:=by rw[←i1,aS]at hls;omega
  have z2:z.2.length≤400:=by rw[←i2,aS]at hle;omega
  have hm:l.getD i eG∈l:=by
   rw[aV,bm hi];exact dJ hi
  have ht:=hk _ hm
  have hn:=Wh _ hm
  have hp:=(iv _ hm).2
  rw[drop_cons hi eG,lx]at i1
  rw[drop_cons hi eG,jK]at i2
  rw[aR ω,ak,aW ω ω,ak,aI,aw (x:=(i:Int)+1) ω ω,af i]
  generalize l.getD i eG=t at*
  have hq:=ht.2.2.2.2.1
  have e0:W .i64 (0-t.2.2.2.1)=0-t.2.2.2.1:=by
   have g: ∀d:Int,1≤d∧d≤1000000000→W .i64 (0-d)=0-d:=λd _=>aw ω ω
   exact g _ hq
  rw[e0]
  dsimp only
  have htp:F60 N t (b.2.2.2.2.1.getD t.2.2.1.toNat 0)=some ((mi t (jR b t)).map iI,0):=Sx N ω ht hp
  have Fo:=zV t (jR b t)
  rw[bY (by rw[aT,aJ];omega),ak,hn.2,ak,htp,ar,bY (by rw[cK,cK];omega),ak]
  have:=Bt (z.1++[(t.1,(t.2.2.1,(t.2.2.2.1,()))),(t.2.1,(t.2.2.1,((0-t.2.2.2.1:Int),())))],z.2++mi t (jR b t)) ⟨by rw[←i1,bE];rfl,by rw[←i2,bE]⟩
  rw[dn]at this
  exact this
 ·unfold tE.oH tE.nD
  obtain⟨i1,i2⟩:=hI
  rw[mT]at i1 i2
  have e1:z.1=fL l:=by rw[←i1];exact(cw _).symm
  have e2:z.2=e7 b l:=by rw[←i2];exact(cw _).symm
  rw[aP ω,av,e1,e2,Pb N ω w.w hr hs w.r w.s gs (KG iv hl),ar]
theorem BP{f:Bool}{a:Int}{r:Option (an×Int)}:cond (!aN a 0) (cond (!f) (some ((cc,(cT,(bq,(bq,(db,(dq,())))))),(3:Int))) r) r=if(f||decide (dD a 0))=true then r else some ((cc,(cT,(bq,(bq,(db,(dq,())))))),(3:Int)):=by
 rw[cond_not,aM,cond_not]
 by_cases h:a=0
 ·rw[aj h,aU (show dD a 0 from h),Bool.or_true,aj rfl]
 ·rw[ah h,bx (show ¬dD a 0 from h),rL]
  cases f<;>rfl
theorem CT(hN:4000000≤N)(c:ae){b:an}(w:qU b){l:bf}(hl:l.length≤100000):tE N c b l=some (eL c b l):=by
 unfold tE tE.b eL
 rw[BC N hN w.w,ar,cond_not,cA,Sy N hl ω,ar,cond_not]
 by_cases hB:dg c b=false
 ·rw[hB];rfl
 rw[rF]at hB
 rw[hB,ak,aj rfl]
 by_cases Sv:l.length≤200
 ·rw[ah ω,aj Sv]
  by_cases hk:l.all (λt=>decide (cO t))=false
  ·rw[hk];rfl
  rw[rF]at hk
  rw[hk,ak,aj rfl]
  have A3: ∀t∈l,cO t:=λt ht=>bt (kz.1 hk t ht)
  have key: ∀(m n i:Nat),l.length-i≤m→m<n→i≤l.length→(∀j,j<i→dR c b (l.getD j eG)=true)→tE.l4 N n l c b (cc,(cT,(bq,(bq,(db,(dq,())))))) l (l.length:Int) (i:Int)=some (if l.all (dR c b)then cC b (fL l) (e7 b l)else((cc,(cT,(bq,(bq,(db,(dq,())))))),3)):=by
   intro m n
   induction n generalizing m with
   |zero=>intro i _ hn;omega
   |succ n ih=>
    intro i hm hn hi hj
    unfold tE.l4 tE.dQ
    by_cases h:i<l.length
    ·have qj:dR c b (l.getD i eG)=false→some ((cc,(cT,(bq,(bq,(db,(dq,())))))),(3:Int))=some (if l.all (dR c b)then cC b (fL l) (e7 b l)else((cc,(cT,(bq,(bq,(db,(dq,())))))),3)):=λhf=>by
      have:l.all (dR c b)=false:=by
       rw[List.all_eq_false]
       refine⟨l.getD i eG,?_,by rw[hf];decide⟩
       rw[aV,bm h];exact dJ h
      rw[this];rfl
     have ap2:dR c b (l.getD i eG)=true→ ∀j,j<i+1→dR c b (l.getD j eG)=true:=λh j Xn=>by
      by_cases e:j=i
      ·rw[e];exact h
      ·exact hj j ω
     rw[aR ω,ak,aW ω ω,ak,aI,CS N b w.w.a ω,CS N b w.w.a ω,aw (x:=(i:Int)+1) ω ω,af i]
     simp only[ar]
     rw[BP,BP,cB]
     generalize l.getD i eG=t at*
     unfold dR at qj ap2
     by_cases h1:((eV b.2.1 t.1).2||decide (dD t.1 0))=true
     ·rw[aj h1]
      by_cases h2:((eV b.2.1 t.2.1).2||decide (dD t.2.1 0))=true
      ·rw[aj h2]
       by_cases h3:(c.1.length:Int)≤t.2.2.1
       ·rw[aj h3]
        exact qj (by rw[h1,h2,bx (show ¬lI t.2.2.1 c.1.length from λh=>by unfold lI at h;exact absurd h (nU.2 h3))];rfl)
       ·rw[ah h3]
        exact ih (m-1) (i+1) ω ω ω (ap2 (by rw[h1,h2,aU (show lI t.2.2.1 c.1.length from ur.1 h3)];rfl))
      ·rw[ah h2]
       exact qj (by rw[nN]at h2;rw[h1,h2];rfl)
     ·rw[ah h1]
      exact qj (by rw[nN]at h1;rw[h1];rfl)
    ·have hth: ∀t∈l,dR c b t=true:=λt ht=>by
      obtain⟨k,hk,e⟩:=gE ht
      have:=hj k ω
      rw[aV,bm hk]at this
      rw[←e];exact this
     rw[aP ω,av,kz.2 hth,aj rfl]
     exact Pk N hN c w hB A3 hth Sv
  exact key l.length N 0 ω ω ω (λj hj=>absurd hj ω)
 ·rw[aj ω,ah Sv]
def BQ(l:List Int)(k:Int):Int:=l.getD k.toNat 0
def ins(l:List Int):List Int→Int→List Int
 |[],i=>[i]
 |k::t,i=>if BQ l i≤BQ l k then k::ins l t i else i::k::t
def gr(l:List Int):Nat→List Int
 |0=>[]
 |n+1=>ins l (gr l n) n
def lB(l:List Int):List Int:=gr l l.length
def zq(l:List Int)(a b:Int):Prop:=BQ l b<BQ l a∨(BQ l b=BQ l a∧a<b)
theorem Uo(l:List Int): ∀(o:List Int) (i:Int),(ins l o i).length=o.length+1
 |[],i=>rfl
 |k::t,i=>by unfold ins;split<;>simp[Uo l t i]
theorem tF(l:List Int): ∀n,(gr l n).length=n
 |0=>rfl
 |n+1=>by unfold gr;rw[Uo,tF l n]
theorem zX(l:List Int):(lB l).length=l.length:=tF l _
theorem Mo(l:List Int){x:Int}: ∀{o:List Int} {i:Int},x∈ins l o i↔x=i∨x∈o
 |[],i=>by simp[ins]
 |k::t,i=>by
  unfold ins;split
  ·rw[a8,Mo l,a8]
   exact⟨λh=>h.elim (λh=> .inr (.inl h)) (λh=>h.elim .inl (λh=> .inr (.inr h))),λh=>h.elim (λh=> .inr (.inl h)) (λh=>h.elim .inl (λh=> .inr (.inr h)))⟩
  ·rw[a8]
theorem tG(l:List Int){x:Int}: ∀{n:Nat},x∈gr l n↔0≤x∧x<n
 |0=>⟨(λh=>nomatch h),λh=>absurd h.1 ω⟩
 |n+1=>by unfold gr;rw[Mo,tG l];omega
theorem BR(l:List Int): ∀{o:List Int} {i:Int},o.Pairwise (zq l)→(∀x∈o,x<i)→(ins l o i).Pairwise (zq l)
 |[],i,_,_=>FT _ _
 |k::t,i,h,hi=>by
  rw[eX]at h
  have hk:k<i:=hi k (bs ..)
  unfold ins;split
  ·rename_i hle
   rw[eX]
   refine⟨λx hx=> ?_,BR l h.2 (λx hx=>hi x (aZ _ hx))⟩
   rcases(Mo l).1 hx with rfl|hx
   ·unfold zq;omega
   ·exact h.1 x hx
  ·rename_i hle
   rw[eX,eX]
   refine⟨λx hx=> ?_,h.1,h.2⟩
   rcases a8.1 hx with rfl|hx
   ·unfold zq;omega
   ·have:=h.1 x hx;unfold zq at*;omega
theorem o9(l:List Int): ∀n,(gr l n).Pairwise (zq l)
 |0=>List.Pairwise.nil
 |n+1=>by unfold gr;exact BR l (o9 l n) (λx hx=>((tG l).1 hx).2)
theorem Zr(l:List Int): ∀(o:List Int) (i:Int) (p:Nat),p≤o.length→(∀j,j<p→BQ l i≤BQ l (o.getD j 0))→(p<o.length→BQ l (o.getD p 0)<BQ l i)→ins l o i=o.take p++i::o.drop p
 |[],i,p,hp,_,_=>by simp at hp;subst hp;rfl
 |k::t,i,0,hp,_,h=>by
  unfold ins;rw[ah (by have:=h (by simp);simp at this;omega)];rfl
 |k::t,i,p+1,hp,h0,h=>by
  unfold ins
  have h1:BQ l i≤BQ l k:=h0 0 ω
  rw[aj h1,Zr l t i p (by simpa using hp) (λj hj=>by have:=h0 (j+1) ω;simpa using this) (λRx=>by have:=h (by simpa using Rx);simpa using this)]
  rfl
theorem Up(l:List Int)(f:Int→Int): ∀(o:List Int) (i:Int),((ins l o i).map f).sum=(o.map f).sum+f i
 |[],i=>by simp[ins]
 |k::t,i=>by
  unfold ins;split
  ·rw[bQ,cE,Up l f t i,bQ,cE];omega
  ·simp only[bQ,cE];omega
theorem Ei(l r:List Int): ∀n,n≤r.length→((gr l n).map (BQ r)).sum=(r.take n).sum
 |0,_=>rfl
 |n+1,h=>by
  unfold gr;rw[Up,Ei l r n ω,mH r ω]
  unfold BQ;rw[aI]
theorem Sz(l r:List Int)(h:l.length=r.length):((lB l).map (BQ r)).sum=r.sum:=by
 unfold lB;rw[Ei l r _ ω,iz ω]
theorem HH{o:List Int}{j:Nat}(h:j<o.length):o.getD j 0∈o:=by
 rw[aV,bm h];exact dJ h
theorem SA{l:List Int}{n j:Nat}(h:j<n):0≤(gr l n).getD j 0∧(gr l n).getD j 0<n:=by
 exact(tG l).1 (HH (by rw[tF];exact h))
theorem KI(N:Nat)(K:List Int→List Int→Int→Option (List Int)){l:List Int}(hl:l.length≤100000)(i:Nat)(hi:i<l.length): ∀(m n p:Nat),i-p≤m→m<n→p≤i→(∀j,j<p→BQ l i≤BQ l ((gr l i).getD j 0))→
  gk.l6 N K n l (gr l i) (i:Int) (p:Int)=K l (gr l (i+1)) ((i+1:Nat):Int)
 |m,0,p,_,hn,_,_=>ω
 |m,n+1,p,hm,hn,hp,h=>by
  have hlen:=tF l i
  have fin: ∀h2:(p<i→BQ l ((gr l i).getD p 0)<BQ l i),gk.j8 N K l (gr l i) (i:Int) (p:Int)=K l (gr l (i+1)) ((i+1:Nat):Int):=λh2=>by
   have e:=Zr l (gr l i) i p ω h (λh3=>h2 ω)
   unfold gk.j8 gk.Zd
   dsimp only
   rw[dZ ω ω ω ω,ak,aI,aI,dK,cV]
   rw[bY (by rw[bV];omega),ak,bY (by rw[bV];simp only[aJ];omega),ak,dZ ω ω ω ω,ak,bY (by simp only[aS,bV,dY,aJ];omega),ak,aw ω ω,gN,bE,FX,←e]
   rfl
  unfold gk.l6 gk.vu
  by_cases hpi:p<i
  ·have hr:=SA (l:=l) (n:=i) (j:=p) hpi
   rw[aR ω,ak,aW ω ω,ak,aI,aI,aW ω ω,ak,aW ω ω,ak]
   by_cases h3:l.getD i 0≤l.getD ((gr l i).getD p 0).toNat 0
   ·rw[fQ h3,ak,aw ω ω]
    refine KI N K hl i hi (m-1) n (p+1) ω ω ω (λj hj=> ?_)
    by_cases hjp:j=p
    ·rw[hjp];unfold BQ;rw[aI];exact h3
    ·exact h j ω
   ·rw[fK ω,av]
    exact fin (λ_=>by unfold BQ;rw[aI];omega)
  ·rw[aP ω,av]
   exact fin (λh=>absurd h hpi)
theorem HI(N:Nat){l:List Int}(hl:l.length≤100000)(hN:l.length<N): ∀(m n i:Nat),l.length-i≤m→m<n→i≤l.length→
  gk.l3 N n l (gr l i) (i:Int)=some (lB l)
 |m,0,i,_,hn,_=>ω
 |m,n+1,i,hm,hn,hi=>by
  unfold gk.l3 gk.nr
  by_cases h:i<l.length
  ·have:=KI N (gk.l3 N n) hl i h i N 0 ω ω ω (λj hj=>ω)
   rw[aR ω,ak]
   refine Eq.trans this ?_
   exact HI N hl hN (m-1) n (i+1) ω ω ω
  ·rw[aP ω,av,show i=l.length by omega];rfl
theorem Wj{l:List Int}(hl:l.length≤100000)(hN:l.length<N):gk N l=some (lB l):=by
 unfold gk gk.b
 exact HI N hl hN l.length N 0 ω ω ω
def KJ(l:List Int):Prop:= ∀x∈l,-9223372036854775808≤x∧x<9223372036854775808
def Pos(l:List Int):Prop:= ∀x∈l,0≤x
def may(w:List Int):Bool:=decide (w.length≤64)&&w.all (λx=>decide (0≤x))
theorem pz{w:List Int}:may w=true↔w.length≤64∧Pos w:=by
 unfold may Pos;rw[bM,fU,kz]
 simp only[fU]
theorem HJ(N:Nat){l:List Int}(hl:l.length≤1000000): ∀(m n i:Nat),l.length-i≤m→m<n→i≤l.length→ ∃r,qt.l4 N n l (i:Int)=some r∧(r=true↔ ∃x∈l.drop i,x<0)
 |m,0,i,_,hn,_=>ω
 |m,n+1,i,hm,hn,hi=>by
  unfold qt.l4 qt.dQ
  by_cases h:i<l.length
  ·have hd:l.drop i=l.getD i 0::l.drop (i+1):=by
    rw[qF h,aV,bm h];rfl
   rw[aR ω,ak,aW ω ω,ak,aI,hd]
   by_cases hx:l.getD i 0<0
   ·rw[aR hx,ak]
    exact⟨_,rfl,λ_=>⟨_,bs ..,hx⟩,λ_=>rfl⟩
   ·rw[aP ω,av,aw ω ω]
    obtain⟨r,e,h1⟩:=HJ N hl (m-1) n (i+1) ω ω ω
    refine⟨r,e,h1.trans ⟨λ⟨x,RD,XR⟩=>⟨x,aZ _ RD,XR⟩,λ⟨x,RD,XR⟩=> ?_⟩⟩
    rcases a8.1 RD with rfl|RD
    ·exact absurd XR hx
    ·exact⟨x,RD,XR⟩
  ·rw[aP ω,av,wQ ω]
   exact⟨_,rfl,(λh=>nomatch h),λ⟨x,hx,_⟩=>nomatch hx⟩
theorem HK{w:List Int}(hN:100≤N)(t:Int):qt N t w=some (decide (t<0)|| !may w):=by
 unfold qt qt.b
 by_cases ht:t<0
 ·rw[aR ht,ak,aU ht];rfl
 rw[aP ω,av,bx ht,rK]
 by_cases h:w.length≤64
 ·rw[aP ω,av]
  obtain⟨r,e,hr⟩:=HJ N (l:=w) ω w.length N 0 ω ω ω
  rw[cV]at hr
  rw[show((0:Nat):Int)=0 from rfl]at e
  rw[e]
  congr 1
  rw[pH,hr,rE,wV,Ne,pz]
  constructor
  ·rintro⟨x,hx,Yk⟩ h;have:=h.2 x hx;omega
  ·intro h1
   by_cases h2: ∃x∈w,x<0
   ·exact h2
   ·exact absurd ⟨h,λx hx=>by
     by_cases Yk:x<0
     ·exact absurd ⟨x,hx,Yk⟩ h2
     ·omega⟩ h1
 ·rw[aR ω,ak]
  have:may w=false:=by
   rw[wV];intro hm;exact h (pz.1 hm).1
  rw[this];rfl
def bump(q:List Int):List Int→List Int
 |[]=>q
 |k::t=>bump (q.set k.toNat (q.getD k.toNat 0+1)) t
def s0(t S:Int)(w:List Int):List Int:=w.map λx=>t*x/S
def mj(t S:Int)(w:List Int):List Int:=w.map λx=>t*x%S
def ck(t:Int)(w:List Int):List Int:=
 bump (s0 t w.sum w) ((lB (mj t w.sum w)).take (t-(s0 t w.sum w).sum).toNat)
def sv(t:Int)(w:List Int):List Int×Int:=
 if t<0∨may w=false then([],1)else if 9223372036854775808≤w.sum then([],2)
 else if w.sum=0 then(if t=0 then(List.replicate w.length 0,0)else([],1))else(ck t w,0)
theorem Pl: ∀(ks q:List Int),(bump q ks).length=q.length
 |[],q=>rfl
 |k::t,q=>by unfold bump;rw[Pl t];simp
theorem Mp: ∀(q:List Int) (k:Nat) (x:Int),k<q.length→(q.set k x).sum=q.sum-q.getD k 0+x
 |[],k,x,h=>absurd h (by simp)
 |a::q,0,x,h=>by simp;omega
 |a::q,k+1,x,h=>by
  have:=Mp q k x (by simpa using h)
  simp[this];omega
theorem kJ: ∀{q:List Int},Pos q→0≤q.sum
 |[],_=>by simp
 |a::q,h=>by
  have:=kJ (q:=q) (λx hx=>h x (aZ _ hx))
  have:=h a (bs ..)
  rw[cE];omega
theorem zY: ∀{q:List Int},Pos q→ ∀i,q.getD i 0≤q.sum
 |[],_,i=>by simp
 |a::q,h,0=>by
  have:=kJ (q:=q) (λx hx=>h x (aZ _ hx))
  rw[cE];simp;omega
 |a::q,h,i+1=>by
  have:=zY (q:=q) (λx hx=>h x (aZ _ hx)) i
  have:=h a (bs ..)
  rw[cE];simp;simp at*;omega
theorem iK{q:List Int}(h:Pos q)(i:Nat):0≤q.getD i 0:=by
 by_cases hi:i<q.length
 ·exact h _ (HH hi)
 ·rw[vx q ω];omega
theorem acR{q:List Int}(h:Pos q){x:Int}(hx:0≤x)(k:Nat):Pos (q.set k x):=λy hy=>by
 rcases uc hy with hy|rfl
 ·exact h y hy
 ·exact hx
theorem Pm{q:List Int}(h:Pos q)(n:Nat):Pos (q.take n):=λx hx=>h x (lK hx)
theorem Pn: ∀(ks q:List Int),(∀k∈ks,0≤k∧k<q.length)→(bump q ks).sum=q.sum+ks.length
 |[],q,_=>by simp[bump]
 |k::t,q,h=>by
  have hk:=h k (bs ..)
  unfold bump
  rw[Pn t _ (λx hx=>by rw[bP];exact h x (aZ _ hx)),Mp q _ _ ω,aT];omega
theorem xL(t S:Int)(w:List Int):(s0 t S w).length=w.length:=by unfold s0;rw[cK]
theorem pY(t S:Int)(w:List Int):(mj t S w).length=w.length:=by unfold mj;rw[cK]
theorem Uq{t S:Int}{w:List Int}(i:Nat):(s0 t S w).getD i 0=t*w.getD i 0/S:=by
 unfold s0
 by_cases h:i<w.length
 ·rw[aV,nP,bm h,aV,bm h];rfl
 ·rw[vx _ (by rw[cK];omega),vx w ω];simp
theorem Ur{t S:Int}{w:List Int}(i:Nat):(mj t S w).getD i 0=t*w.getD i 0%S:=by
 unfold mj
 by_cases h:i<w.length
 ·rw[aV,nP,bm h,aV,bm h];rfl
 ·rw[vx _ (by rw[cK];omega),vx w ω];simp
theorem HL{t S:Int}{w:List Int}(ht:0≤t)(hS:0≤S)(hw:Pos w):Pos (s0 t S w):=λx hx=>by
 obtain⟨y,hy,rfl⟩:=cW.1 hx
 exact uh (uk ht (hw y hy)) hS
theorem Po{t S:Int}{w:List Int}(hS:0<S):Pos (mj t S w):=λx hx=>by
 obtain⟨y,hy,rfl⟩:=cW.1 hx
 exact Gb _ ω
theorem Mq(t S:Int): ∀w:List Int,S*(s0 t S w).sum+(mj t S w).sum=t*w.sum
 |[]=>by simp[s0,mj]
 |x::w=>by
  have h:=Mq t S w
  have e:=NH (t*x) S
  unfold s0 mj at*
  simp only[bQ,cE,mB]
  omega
theorem Zs{t S:Int}{w:List Int}(ht:0≤t)(hS:0<S)(h:w.sum≤S):(s0 t S w).sum≤t:=by
 have e:=Mq t S w
 have h1:=kJ (Po (t:=t) (w:=w) hS)
 have h2:=yp h ht
 have h3:S*(s0 t S w).sum≤S*t:=by rw[jm S t];omega
 exact Nw h3 hS
theorem Ej{w:List Int}(h:Pos w)(i:Nat):(w.take i).sum≤w.sum:=by
 have e:w.take i++w.drop i=w:=gM i w
 have h1:(w.take i).sum+(w.drop i).sum=w.sum:=by rw[←kQ,e]
 have:=kJ (q:=w.drop i) (λx hx=>h x (mP hx))
 omega
theorem KK(t S:Int)(w:List Int)(i:Nat):(s0 t S w).take i=s0 t S (w.take i):=by unfold s0;rw[List.map_take]
theorem HM(N:Nat){ks:List Int}(hl:ks.length≤1000000)(L:Nat)(hk: ∀k∈ks,0≤k∧k<L): ∀(m n i left:Nat) (q:List Int),ks.length-i≤m→m<n→i≤ks.length→q.length=L→Pos q→left≤9223372036854775807→q.sum+left≤9223372036854775807→
  gw.xI N n q (left:Int) ks (i:Int)=some (bump q ((ks.drop i).take left),0)
 |m,0,i,left,q,_,hn,_,_,_,_,_=>ω
 |m,n+1,i,left,q,hm,hn,hi,hq,hp,hle,hs=>by
  unfold gw.xI gw.wF
  by_cases h:i<ks.length
  ·have hd:ks.drop i=ks.getD i 0::ks.drop (i+1):=by
    rw[qF h,aV,bm h];rfl
   have GM:=hk _ (HH h)
   rw[aR ω,ak]
   match left,hle,hs with
   |0,hle,hs=>rw[aP ω,av,mU];rfl
   |left+1,hle,hs=>
    rw[aR ω,ak,aW ω ω,ak,aI,aW ω ω,ak,ak,hd]
    have h1:=zY hp (ks.getD i 0).toNat
    have h2:=iK hp (ks.getD i 0).toNat
    rw[aw (x:=q.getD _ 0+1) ω ω,aw (x:=(i:Int)+1) ω ω,aw ω ω,show((left+1:Nat):Int)-1=(left:Int)by omega]
    refine(HM N hl L hk (m-1) n (i+1) left _ ω ω ω (by rw[bP];exact hq) (acR hp ω _) ω ?_).trans rfl
    rw[Mp q _ _ ω];omega
  ·rw[aP ω,av,wQ ω,List.take_nil];rfl
theorem HN(l:List Int): ∀k∈lB l,0≤k∧k<l.length:=λk hk=>(tG l).1 hk
theorem take_set(l:List Int){i:Nat}(x:Int)(h:i<l.length):(l.set i x).take (i+1)=l.take i++[x]:=by
 rw[iR (l.set i x) (by rw[bP];exact h),ns l x h,List.take_set_of_le ω]
theorem Mr{v:Int}(h0: -9223372036854775808≤v)(h1:v<9223372036854775808):CG v=(v,true):=by unfold CG;rw[aj ⟨h0,h1⟩]
end VM
end
