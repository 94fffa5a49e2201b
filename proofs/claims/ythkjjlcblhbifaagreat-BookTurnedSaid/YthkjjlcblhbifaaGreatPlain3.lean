/- A part of the proof of BookTurned of layer 18: what the functions compute, in plain words. -/
import Derived.Test.YthkjjlcblhbifaaGreatPlain2
import Derived.Test.YthkjjlcblhbifaaGreatVm7
import Derived.Test.YthkjjlcblhbifaaGreatPlain0
set_option linter.all false
section
namespace VM
open Go VM.F
variable(N:Nat)
theorem PC(hN:2000000≤N){b:an}{s e:au}(w:jC b)(hr:fh b.2.2.1=true)(hs:dk b.2.2.2.1=true)(lr:b.2.2.1.length≤90000)(ls:b.2.2.2.1.length≤90000)(gs:Ps s)(ge:Pw e):
  F61 N b s (e.map ik)=some (dE b s e):=by
 unfold F61 dE
 rw[PA N w,ar,ada N hN hs ls w.qs gs,ZJ N hN hr lr w.qr ge,WE hs gs.place,ZK hr ge.key]
 unfold vZ
 rw[ar,ar]
 have e1:aM 2 0=false:=eH ω
 have e2:aM 0 0=true:=eg rfl
 cases eN Fq (fS b.2.2.2.1 s) jV with
 |none=>dsimp only;rw[e1];rfl
 |some s'=>
  cases eN aF (fS b.2.2.1 e) nN with
  |none=>dsimp only;rw[e1,e2];rfl
  |some r'=>dsimp only;rw[e2];rfl
theorem US(hN:4000000≤N){b:an}{s e:au}(w:jC b)(hr:fh b.2.2.1=true)(hs:dk b.2.2.2.1=true)(lr:b.2.2.1.length≤90000)(ls:b.2.2.2.1.length≤90000)(gs:Ps s)(ge:Pw e):
  zt N b s (e.map gh)=some (dE b s e):=by
 have h1:=gs.len
 have h2:=ge.len
 unfold zt dE
 rw[HQ N hN hs ls w.qs (λx hx=>(gs.q x hx).1) ω,UR N hN hr lr w.qr ge.q ω]
 unfold wZ
 rw[ar,ar]
 cases eN Fq (fS b.2.2.2.1 s) jV with
 |none=>rfl
 |some s'=>
  cases eN aF (fS b.2.2.1 e) nN with
  |none=>rfl
  |some r'=>rfl
theorem UT(N:Nat)(C:fi.bP){l:aN}(hl:l.length≤100000)(i:Nat)(hi:i<l.length): ∀(m n k:Nat),i-k≤m→m<n→k≤i→(l.take k).any (sD (l.getD i bb).2.2.1 (l.getD i bb).2.1)=false→
  fi.l9 N C n l (i:Int) (k:Int)=cond ((l.take i).any (sD (l.getD i bb).2.2.1 (l.getD i bb).2.1)) (some false) (C l ((i+1:Nat):Int))
 |m,0,k,_,hn,_,_=>ω
 |m,n+1,k,hm,hn,hk,hb=>by
  unfold fi.l9 fi.uX
  by_cases h:k<i
  ·have BQ:=UT N C hl i hi (m-1) n (k+1) ω ω ω
   have ht:(l.take (k+1)).any (sD (l.getD i bb).2.2.1 (l.getD i bb).2.1)=sD (l.getD i bb).2.2.1 (l.getD i bb).2.1 (l.getD k bb):=by
    have ek:l.getD k bb=l[k]' ω:=by rw[aW,bm (show k<l.length by omega)];rfl
    rw[←tx (show k<l.length by omega),List.any_append,hb,ek,A0,List.any_nil,rW,pX]
   have ke:sD (l.getD i bb).2.2.1 (l.getD i bb).2.1 (l.getD k bb)=true→(l.take i).any (sD (l.getD i bb).2.2.1 (l.getD i bb).2.1)=true:=λhh=>by
    refine AX.2 ⟨l.getD k bb,?_,hh⟩
    rw[aW,bm (show k<l.length by omega)]
    exact List.mem_take_iff_getElem.2 ⟨k,ω,rfl⟩
   rw[aQ ω,aj,aU ω ω,aj,aU ω ω,aj,aj,aj,aG,aG,aI,aI,aw (x:=(k:Int)+1) ω ω,af k]
   by_cases h1:(l.getD k bb).2.2.1=(l.getD i bb).2.2.1
   ·by_cases h2:(l.getD k bb).2.1=(l.getD i bb).2.1
    ·rw[ak h1,ak h2,ke (by unfold sD dI;rw[aV h1,aV h2];rfl)];rfl
    ·rw[ak h1,ag h2]
     exact BQ (by rw[ht];unfold sD dI;rw[bw h2,Gz])
   ·rw[ag h1]
    exact BQ (by rw[ht];unfold sD dI;rw[bw h1,uG])
  ·have:k=i:=ω
   subst this
   rw[aO ω,av,hb,av,aw (x:=(k:Int)+1) ω ω,af k]
theorem u7{l:aN}(hl:l.length≤100000)(hN:200000≤N):fi N l=some (ZC l):=by
 unfold fi fi.b ZC
 by_cases h40:l.length≤40
 ·rw[aO ω,av,aV h40]
  refine iC (F:=λn i=>fi.l4 N n l i) (B0 l) (λn i r hi hp hr=> ?_) (λn=> ?_) N ω
  ·unfold fi.l4 fi.dM fi.j8 fi.ZL
   have ke:fi.l9 N (fi.l4 N n) N l (i:Int) 0=_:=UT N (fi.l4 N n) hl i hi i N 0 ω ω ω rfl
   rw[aQ ω,aj,aU ω ω,aj,aj,aG,UK,ar,cond_not,ga,ke,hr]
   have hT:cond ((l.take i).any (sD (l.getD i bb).2.2.1 (l.getD i bb).2.1)) (some false) r=if(l.take i).any (sD (l.getD i bb).2.2.1 (l.getD i bb).2.1)=false then r else some false:=by
    cases(l.take i).any (sD (l.getD i bb).2.2.1 (l.getD i bb).2.1)<;>rfl
   rw[hT]
   by_cases hK:KE (l.getD i bb)
   ·rw[ak hK]
    have hD:(if B0 l i then r else some false)=if uY i (l.getD (i-1) bb).1 (l.getD i bb).1 then(if(l.take i).any (sD (l.getD i bb).2.2.1 (l.getD i bb).2.1)=false then r else some false)else some false:=by
     by_cases h1:uY i (l.getD (i-1) bb).1 (l.getD i bb).1<;>by_cases h2:(l.take i).any (sD (l.getD i bb).2.2.1 (l.getD i bb).2.1)=false
     ·rw[ak h1,ak h2,ak ⟨hK,h1,h2⟩]
     ·rw[ak h1,ag h2,ag (λh=>h2 h.2.2)]
     ·rw[ag h1,ag (λh=>h1 h.2.1)]
     ·rw[ag h1,ag (λh=>h1 h.2.1)]
    rw[hD]
    by_cases h0:0<i
    ·have e:W .i64 ((i:Int)-1)=((i-1:Nat):Int):=by rw[aw ω ω];omega
     rw[aQ (x:=0) (y:=(i:Int)) ω,aj,e]
     dsimp only
     rw[aG,aU ω ω,aj,cz]
     by_cases h1:uY i (l.getD (i-1) bb).1 (l.getD i bb).1
     ·rw[ak h1,ag (by unfold uY at h1;omega)]
     ·rw[ag h1,ak (by unfold uY at h1;omega)]
    ·rw[aO (x:=0) (y:=(i:Int)) ω,av,ak (show uY i (l.getD (i-1) bb).1 (l.getD i bb).1 from λh=>absurd h h0)]
   ·rw[ag hK,ag (λh=>hK h.1)]
  ·unfold fi.l4 fi.dM
   rw[aO ω,av]
 ·rw[aQ ω,aj,bw h40,Gz]
def wh(s w p:Int):Prop:=((s=1∨s=3)∧w=0∧p=0)∨(s=2∧1≤w∧w≤12∧ -1152921504606846976≤p∧p≤1152921504606846976)
instance(s w p:Int):Decidable (wh s w p):=by unfold wh;infer_instance
def HS(a:Int):Prop:=1≤a∧a≤1099511627776
instance(a:Int):Decidable (HS a):=by unfold HS;infer_instance
def ZM(a b:Int):Prop:=a≤b
instance(a b:Int):Decidable (ZM a b):=by unfold ZM;infer_instance
def FX(c:ae)(l:bL)(i:Nat):Prop:=
 HS (l.getD i ((0:Int),(cn,bb))).1∧uY i (l.getD (i-1) ((0:Int),(cn,bb))).1 (l.getD i ((0:Int),(cn,bb))).1∧ ¬dI ((l.getD i ((0:Int),(cn,bb))).2.1.length:Int) 0∧mi c (l.getD i ((0:Int),(cn,bb))).2.1=true∧ZM (l.getD i ((0:Int),(cn,bb))).2.2.1 0∧wh (l.getD i ((0:Int),(cn,bb))).2.2.2.1 (l.getD i ((0:Int),(cn,bb))).2.2.2.2.1 (l.getD i ((0:Int),(cn,bb))).2.2.2.2.2.1
instance(c:ae)(l:bL):DecidablePred (FX c l):=λi=>by unfold FX;infer_instance
def Dh(c:ae)(l:bL):Bool:=eS c&&(decide (l.length≤12)&&(decide (∀j,j<l.length→FX c l j)&&true))
def KP(l:bL):Prop:= ∀x∈l,x.2.1.length≤100000
theorem SS{l:bL}(h:KP l)(i:Nat):(l.getD i ((0:Int),(cn,bb))).2.1.length≤100000:=by
 by_cases hi:i<l.length
 ·rw[aW,bm hi];exact h _ (dG hi)
 ·rw[aW,iq ω];exact bs _
theorem adg(s w p:Int)(r:Option Bool):
  cond (aM s 1) (cond (!aM w 0) (some false) (cond (!aM p 0) (some false) r)) (cond (aM s 3) (cond (!aM w 0) (some false) (cond (!aM p 0) (some false) r)) (cond (aM s 2) (cond (aX w 1) (some false) (cond (aX 12 w) (some false) (cond (aX p (-1152921504606846976)) (some false) (cond (aX 1152921504606846976 p) (some false) r)))) (some false)))=
   if wh s w p then r else some false:=by
 simp only[cond_not,aI,cf]
 by_cases h:wh s w p
 ·rw[ak h];unfold wh at h
  repeat' split
  all_goals first|rfl|omega
 ·rw[ag h];unfold wh at h
  repeat' split
  all_goals first|rfl|omega
theorem WL{A B C D E F:Prop} [Decidable A] [Decidable B] [Decidable C] [Decidable D] [Decidable E] [Decidable F](r:Option Bool):
  (if A then(if B then(if C then(if D then(if E then(if F then r else some false)else some false)else some false)else some false)else some false)else some false)=if A∧B∧C∧D∧E∧F then r else some false:=by
 by_cases hA:A<;>by_cases hB:B<;>by_cases hC:C<;>by_cases hD:D<;>by_cases hE:E<;>by_cases hF:F<;>simp only[hA,hB,hC,hD,hE,hF,ib,fI,and_self,eL,and_false,false_and,true_and]
theorem ZN{a b n f s w p:Int}{i:Nat}{o:Bool}{r:Option Bool}:
  cond (aX a 1) (some false) (cond (aX 1099511627776 a) (some false) (if uY i b a then(cond (aM n 0) (some false) (cond (!o) (some false) (cond (aX 0 f) (some false) (if wh s w p then r else some false))))else some false))=
   if HS a∧uY i b a∧ ¬dI n 0∧o=true∧ZM f 0∧wh s w p then r else some false:=by
 rw[←WL]
 simp only[cond_not,aI,cf]
 by_cases h1:HS a
 ·have q6:=h1
  unfold HS at q6
  rw[ak h1,ag ω,ag ω]
  by_cases h2:uY i b a
  ·rw[ak h2,ak h2]
   by_cases h3:n=0
   ·rw[ak h3,ag (show ¬ ¬dI n 0 from λh=>h h3)]
   ·rw[ag h3,ak (show ¬dI n 0 from h3)]
    cases o
    ·rfl
    ·rw[aj,ak rfl]
     by_cases h4:f≤0
     ·rw[ak (show ZM f 0 from h4),ag ω]
     ·rw[ag (show ¬ZM f 0 from h4),ak ω]
  ·rw[ag h2,ag h2]
 ·have q6:=h1
  unfold HS at q6
  rw[ag h1]
  by_cases h2:a<1
  ·rw[ak h2]
  ·rw[ag h2,ak ω]
theorem ZO{i:Nat}{a b:Int}{r:Option Bool}(h0:0<i):cond (dy a b) (some false) r=if uY i b a then r else some false:=by
 rw[cz]
 by_cases h1:uY i b a
 ·rw[ak h1,ag (by unfold uY at h1;omega)]
 ·rw[ag h1,ak (by unfold uY at h1;omega)]
theorem B8(hN:200000≤N)(c:ae){l:bL}(hl:l.length≤100000)(hw:KP l):jI N c l=some (Dh c l):=by
 unfold jI jI.b Dh
 rw[mK N ω,ar]
 cases eS c
 ·rfl
 rw[bk,av,kS]
 by_cases h12:l.length≤12
 ·rw[aO ω,av,aV h12,kS]
  refine iC (F:=λn i=>jI.l4 N n l c i) (FX c l) (λn i r hi hp hr=> ?_) (λn=> ?_) N ω
  ·unfold jI.l4 jI.dM jI.j9 jI.Pe
   rw[aQ ω,aj,aU ω ω,aj,aG,u5 N hN c (SS hw i),ar,aw (x:=(i:Int)+1) ω ω,af i,hr,adg]
   refine Eq.trans ?_ ZN
   by_cases h0:0<i
   ·have e:W .i64 ((i:Int)-1)=((i-1:Nat):Int):=by rw[aw ω ω];omega
    rw[aQ (x:=0) (y:=(i:Int)) ω,aj,e]
    dsimp only
    rw[aG,aU ω ω,aj,ZO h0]
   ·rw[aO (x:=0) (y:=(i:Int)) ω,av,ak (show uY i (l.getD (i-1) ((0:Int),(cn,bb))).1 (l.getD i ((0:Int),(cn,bb))).1 from λh=>absurd h h0)]
  ·unfold jI.l4 jI.dM
   rw[aO ω,av]
 ·rw[aQ ω,aj,bw h12,uG]
abbrev AwS:=au×au×bL
structure ai3(z:AwS)(i:Nat):Prop where
 place: ∀x∈z.1,cg x.1 x.2.1
 q: ∀x∈z.1,aF (dQ x)∧ri (dQ x)
 len:z.1.length≤12*i
 flat: ∀a:Int,(dp a z.1).sum=0
 key: ∀x∈z.2.1,de x.1 x.2.1
 qe: ∀x∈z.2.1,aF (dQ x)
 aDQ:z.2.1.length≤2*i
 zero:(z.2.1.map dQ).sum=0
 out:z.2.2.length=i
theorem JZ(a:Int)(l m:au):dp a (l++m)=dp a l++dp a m:=by
 induction l with
 |nil=>rfl
 |cons x t ih=>
  rw[mZ,dB,dB,ih]
  split<;>rfl
theorem ali{v:Int}(h:aF v∧ri v):aF (0-v)∧ri (0-v):=by
 unfold aF ri at*;omega
theorem ai3.nil:ai3 ([],[],[]) 0:=⟨λx hx=>(nomatch hx),λx hx=>(nomatch hx),aH _,λa=>rfl,λx hx=>(nomatch hx),λx hx=>(nomatch hx),aH _,rfl,rfl⟩
theorem ej{c:ae}{b:an}(h:dh c b=true):fh b.2.2.1=true∧dk b.2.2.2.1=true:=by
 unfold dh at h
 have h1:=(df.1 (df.1 h).2).2
 have h2:=df.1 h1
 have h3:=(df.1 (df.1 h2.2).2).1
 refine⟨h2.1,?_⟩
 unfold oy at h3
 exact(df.1 h3).2
structure m5(b:an):Prop where
 w:jC b
 r:b.2.2.1.length≤90000
 s:b.2.2.2.1.length≤90000
end VM
end
section
namespace VM
open Go VM.F
variable(N:Nat)
theorem dj(x:Int):aM x x=true:=eg rfl
theorem ZP(x:BT):oX (.pair (.int .i64) (.pair (.int .i64) .unit)) x x=true:=by
 show(aM x.1 x.1&&(aM x.2.1 x.2.1&&true))=true
 rw[dj,dj];rfl
theorem SU(x:dg):oX (.pair (.int .i64) (.pair (.int .i64) (.pair (.int .i64) .unit))) x x=true:=by
 show(aM x.1 x.1&&oX (.pair (.int .i64) (.pair (.int .i64) .unit)) x.2 x.2)=true
 rw[dj,ZP];rfl
theorem ZQ(x:cO):oX (.pair (.int .i64) (.pair (.int .i64) (.pair (.int .i64) (.pair (.int .i64) .unit)))) x x=true:=by
 show(aM x.1 x.1&&oX (.pair (.int .i64) (.pair (.int .i64) (.pair (.int .i64) .unit))) x.2 x.2)=true
 rw[dj,SU];rfl
theorem alj(x:gb):oX (.pair (.int .i64) (.pair (.int .i64) (.pair (.int .i64) (.pair (.int .i64) (.pair (.int .i64) (.pair (.int .i64) .unit)))))) x x=true:=by
 show(aM x.1 x.1&&(aM x.2.1 x.2.1&&oX (.pair (.int .i64) (.pair (.int .i64) (.pair (.int .i64) (.pair (.int .i64) .unit)))) x.2.2 x.2.2))=true
 rw[dj,dj,ZQ];rfl
theorem nO{F:Nat→Int→Option Bool}{len:Nat}(hs: ∀n (i:Nat),i<len→F n ((i+1:Nat):Int)=some true→F (n+1) (i:Int)=some true)(he: ∀n,F (n+1) (len:Int)=some true): ∀(m n i:Nat),len-i≤m→m<n→i≤len→F n (i:Int)=some true
 |m,0,i,_,hn,_=>ω
 |m,n+1,i,hm,hn,hi=>by
  by_cases h:i<len
  ·exact hs n i h (nO hs he (m-1) n (i+1) ω ω ω)
  ·have:i=len:=ω
   subst this;exact he n
theorem PD{l:aE}(hl:l.length≤100000)(hN:200000≤N):Fh N l l=some true:=by
 unfold Fh Fh.b
 rw[dj,bk,av]
 refine nO (F:=λn i=>Fh.l4 N n l l i) (len:=l.length) (λn i hi hr=> ?_) (λn=> ?_) l.length N 0 ω ω ω
 ·unfold Fh.l4 Fh.dM
  rw[aQ ω,aj,aU ω ω,aj,aj,ZP,bk,av,aw (x:=(i:Int)+1) ω ω,af i]
  exact hr
 ·unfold Fh.l4 Fh.dM
  rw[aO ω,av]
theorem ZR{l:aN}(hl:l.length≤100000)(hN:200000≤N):Fi N l l=some true:=by
 unfold Fi Fi.b
 rw[dj,bk,av]
 refine nO (F:=λn i=>Fi.l4 N n l l i) (len:=l.length) (λn i hi hr=> ?_) (λn=> ?_) l.length N 0 ω ω ω
 ·unfold Fi.l4 Fi.dM
  rw[aQ ω,aj,aU ω ω,aj,aj,ZQ,bk,av,aw (x:=(i:Int)+1) ω ω,af i]
  exact hr
 ·unfold Fi.l4 Fi.dM
  rw[aO ω,av]
theorem PE{l:au}(hl:l.length≤100000)(hN:200000≤N):Di N l l=some true:=by
 unfold Di Di.b
 rw[dj,bk,av]
 refine nO (F:=λn i=>Di.l4 N n l l i) (len:=l.length) (λn i hi hr=> ?_) (λn=> ?_) l.length N 0 ω ω ω
 ·unfold Di.l4 Di.dM
  rw[aQ ω,aj,aU ω ω,aj,aj,SU,bk,av,aw (x:=(i:Int)+1) ω ω,af i]
  exact hr
 ·unfold Di.l4 Di.dM
  rw[aO ω,av]
theorem WM{l:au}(hl:l.length≤100000)(hN:200000≤N):Fj N l l=some true:=by
 unfold Fj Fj.b
 rw[dj,bk,av]
 refine nO (F:=λn i=>Fj.l4 N n l l i) (len:=l.length) (λn i hi hr=> ?_) (λn=> ?_) l.length N 0 ω ω ω
 ·unfold Fj.l4 Fj.dM
  rw[aQ ω,aj,aU ω ω,aj,aj,SU,bk,av,aw (x:=(i:Int)+1) ω ω,af i]
  exact hr
 ·unfold Fj.l4 Fj.dM
  rw[aO ω,av]
theorem SV{l:aY}(hl:l.length≤100000)(hN:200000≤N):Fk N l l=some true:=by
 unfold Fk Fk.b
 rw[dj,bk,av]
 refine nO (F:=λn i=>Fk.l4 N n l l i) (len:=l.length) (λn i hi hr=> ?_) (λn=> ?_) l.length N 0 ω ω ω
 ·unfold Fk.l4 Fk.dM
  rw[aQ ω,aj,aU ω ω,aj,aj,alj,bk,av,aw (x:=(i:Int)+1) ω ω,af i]
  exact hr
 ·unfold Fk.l4 Fk.dM
  rw[aO ω,av]
theorem PF{l:List (Int)}(hl:l.length≤100000)(hN:200000≤N):Dj N l l=some true:=by
 unfold Dj Dj.b
 rw[dj,bk,av]
 refine nO (F:=λn i=>Dj.l4 N n l l i) (len:=l.length) (λn i hi hr=> ?_) (λn=> ?_) l.length N 0 ω ω ω
 ·unfold Dj.l4 Dj.dM
  rw[aQ ω,aj,aU ω ω,aj,aj,dj,bk,av,aw (x:=(i:Int)+1) ω ω,af i]
  exact hr
 ·unfold Dj.l4 Dj.dM
  rw[aO ω,av]
theorem HT(hN:200000≤N){b:an}(h1:b.1.length≤100000)(h2:b.2.1.length≤100000)(h3:b.2.2.1.length≤100000)(h4:b.2.2.2.1.length≤100000)(h5:b.2.2.2.2.1.length≤100000)(h6:b.2.2.2.2.2.1.length≤100000):F14 N b b=some true:=by
 unfold F14
 rw[PD N h1 hN,ar,aj,ZR N h2 hN,ar,aj,PE N h3 hN,ar,aj,WM N h4 hN,ar,aj,PF N h5 hN,ar,aj,SV N h6 hN,ar]
theorem HU{P:Int→Prop} [DecidablePred P]{f:Int→Int→Int}: ∀{K:List dt} {o:au},eN P f K=some o→o.length≤K.length
 |[],o,h=>by
  have:some []=some o:=h
  rw[←oe this];exact aH _
 |k::t,o,h=>by
  rw[lU]at h
  by_cases hP:P (f k.1 k.2)
  ·rw[ak hP]at h
   cases hc:eN P f t with
   |none=>rw[hc]at h;exact absurd h (by simp)
   |some r=>
    have ih:=HU hc
    rw[hc]at h
    have h':=oe h
    rw[←h',aT]
    dsimp only
    split
    ·omega
    ·rw[aT];omega
  ·rw[ag hP]at h;exact absurd h (by simp)
theorem SW:jV.length=150:=by decide+kernel
theorem WN:nN.length=175:=by decide+kernel
structure PG(b:an):Prop where
 m:b.1.length≤100000
 a:b.2.1.length≤100000
 r:b.2.2.1.length≤100000
 s:b.2.2.2.1.length≤100000
 p:b.2.2.2.2.1.length≤100000
 o:b.2.2.2.2.2.1.length≤100000
theorem u9:PG (([]:aE),(([]:aN),(([]:au),(([]:au),(([]:List Int),(([]:aY),())))))):=⟨bs _,bs _,bs _,bs _,bs _,bs _⟩
theorem Er{b:an}(w:jC b)(s e:au):PG (dE b s e).1:=by
 unfold dE
 cases h1:eN Fq (fS b.2.2.2.1 s) jV with
 |none=>exact u9
 |some s'=>
  cases h2:eN aF (fS b.2.2.1 e) nN with
  |none=>exact u9
  |some r'=>
   have g1:=HU h1
   have g2:=HU h2
   rw[SW]at g1
   rw[WN]at g2
   exact⟨w.m,w.a,by show r'.length≤_;omega,by show s'.length≤_;omega,w.p,w.o⟩
end VM
end
section
namespace VM
open Go VM.F Go.RowKit
variable(N:Nat)
def ix(a b:Int):au→Int
 |[]=>0
 |x::t=>if x.1=a then(if x.2.1=b then x.2.2.1 else ix a b t)else ix a b t
theorem jW(a b:Int)(x:dg)(t:au):ix a b (x::t)=if x.1=a then(if x.2.1=b then x.2.2.1 else ix a b t)else ix a b t:=rfl
def gm(l:au)(a b:Int):Int:=if dk l then ix a b l else 0
def tO(l:au)(a b:Int):Int:=if fh l then ix a b l else 0
theorem FY{l:au}(hl:l.length≤100000)(hN:200000≤N)(a b:Int):CC N l a b=some (gm l a b):=by
 unfold CC CC.b gm
 rw[lS N hl hN,ar,cond_not]
 have:=Eg l aZ (λn i=>CC.l4 N n l a b i) (λt=>some (ix a b t)) (λn i hi hr=> ?_) (λn=> ?_) N ω
 ·rw[this];cases dk l<;>rfl
 ·unfold CC.l4 CC.dM
  rw[aQ ω,aj,aU ω ω,aj,aj,aj,aG,aw (x:=(i:Int)+1) ω ω,af i,hr,aI,aI,jW]
  split
  ·split<;>rfl
  ·rfl
 ·unfold CC.l4 CC.dM
  rw[aO ω,av];rfl
theorem MB{l:au}(hl:l.length≤100000)(hN:200000≤N)(a b:Int):vn N l a b=some (tO l a b):=by
 unfold vn vn.b tO
 rw[HF N hl hN,ar,cond_not]
 have:=Eg l aZ (λn i=>vn.l4 N n l a b i) (λt=>some (ix a b t)) (λn i hi hr=> ?_) (λn=> ?_) N ω
 ·rw[this];cases fh l<;>rfl
 ·unfold vn.l4 vn.dM
  rw[aQ ω,aj,aU ω ω,aj,aj,aj,aG,aw (x:=(i:Int)+1) ω ω,af i,hr,aI,aI,jW]
  split
  ·split<;>rfl
  ·rfl
 ·unfold vn.l4 vn.dM
  rw[aO ω,av];rfl
theorem B9{l:au}(h: ∀i,i<l.length→aF (dQ (l.getD i aZ))):dU l:=λx hx=>by
 obtain⟨i,hi,e⟩:=gL hx
 have:=h i hi
 rw[aW,bm hi]at this
 rw[←e];exact this
theorem ac3{x:Int}(h:(Lit.int .i64 x).wf=true):aF x:=by
 have:=wf_i64.1 h
 unfold aF;omega
namespace Pure
end Pure
end VM
end
section
namespace VM
open Go VM.F
variable(N:Nat)
theorem HV{l:au}(h:dU l)(a b:Int):aF (ix a b l):=by
 induction l with
 |nil=>show aF 0;decide
 |cons x t ih=>
  have ih:=ih (λy hy=>h y (ba _ hy))
  rw[jW]
  split
  ·split
   ·exact h x (bu ..)
   ·exact ih
  ·exact ih
theorem ZS{l:au}(h:dU l)(a b:Int):aF (tO l a b):=by
 unfold tO
 split
 ·exact HV h a b
 ·exact⟨δ,δ⟩
def nu(a:Int):au→aE
 |[]=>[]
 |x::t=>if x.1=a then(x.2.1,(x.2.2.1,()))::nu a t else nu a t
theorem qd(a:Int)(x:dg)(t:au):nu a (x::t)=if x.1=a then(x.2.1,(x.2.2.1,()))::nu a t else nu a t:=rfl
def posOf(l:au)(a:Int):aE:=if dk l then nu a l else []
theorem HW(a:Int): ∀l:au,(nu a l).length≤l.length
 |[]=>aH _
 |x::t=>by
  have:=HW a t
  rw[qd,aT]
  split
  ·rw[aT];omega
  ·omega
theorem Dl(a:Int)(l:au):(posOf l a).length≤l.length:=by
 unfold posOf
 split
 ·exact HW a l
 ·exact bs _
theorem nv{a:Int}{y:BT}: ∀{l:au},y∈nu a l→ ∃x∈l,x.1=a∧y=(x.2.1,(x.2.2.1,()))
 |[],h=>nomatch h
 |x::t,h=>by
  rw[qd]at h
  by_cases e:x.1=a
  ·rw[ak e]at h
   rcases bh.1 h with h|h
   ·exact⟨x,bu ..,e,h⟩
   ·obtain⟨x',hx,h'⟩:=nv h
    exact⟨x',ba _ hx,h'⟩
  ·rw[ag e]at h
   obtain⟨x',hx,h'⟩:=nv h
   exact⟨x',ba _ hx,h'⟩
theorem HX{l:au}(h:dU l)(a:Int): ∀y∈posOf l a,aF y.2.1:=λy hy=>by
 unfold posOf at hy
 split at hy
 ·obtain⟨x,hx,_,rfl⟩:=nv hy
  exact h x hx
 ·nomatch hy
theorem aqk{l:au}(hl:l.length≤100000)(hN:200000≤N)(a:Int):Es N l a=some (posOf l a):=by
 unfold Es Es.b posOf
 rw[xY N hl hN,ar,cond_not]
 have:=ll l aZ (λn i s=>Es.l5 N n a s l (l.length:Int) i) (λt s=>some (s++nu a t)) (λi (s:aE)=>s.length≤i) (λn i s hi hI hr=> ?_) (λn s hI=> ?_) l.length N 0 [] ω ω ω (aH _)
 ·have e:Es.l5 N N a [] l (l.length:Int) 0=some (nu a l):=this
  rw[e];cases dk l<;>rfl
 ·unfold Es.l5 Es.dV
  rw[aQ ω,aj,aU ω ω,aj,aG,aw (x:=(i:Int)+1) ω ω,af i,aI,bJ (by rw[aJ];omega),aj,qd]
  split
  ·rw[hr _ (by rw[aS,aJ];omega),bF];rfl
  ·exact hr s ω
 ·unfold Es.l5 Es.dV
  rw[aO ω,av]
  show some s=some (s++[])
  rw[cA]
theorem SX{l:au}(hl:l.length≤100000)(hN:200000≤N)(a:Int):mO N l a=some (posOf l a):=by
 unfold mO mO.b posOf
 rw[lS N hl hN,ar,cond_not]
 have:=ll l aZ (λn i s=>mO.l5 N n l a s i) (λt s=>some (s++nu a t)) (λi (s:aE)=>s.length≤i) (λn i s hi hI hr=> ?_) (λn s hI=> ?_) l.length N 0 [] ω ω ω (aH _)
 ·have e:mO.l5 N N l a [] 0=some (nu a l):=this
  rw[e];cases dk l<;>rfl
 ·unfold mO.l5 mO.dV
  rw[aQ ω,aj,aU ω ω,aj,aj,aj,aG,aw (x:=(i:Int)+1) ω ω,af i,aI,bJ (by rw[aJ];omega),aj,qd]
  split
  ·rw[hr _ (by rw[aS,aJ];omega),bF];rfl
  ·exact hr s ω
 ·unfold mO.l5 mO.dV
  rw[aO ω,av]
  show some s=some (s++[])
  rw[cA]
def MC(a n:Int):Prop:=0≤a∧a<n
theorem Et{a:Int}: ∀{l:au},uq (l.map keyOf)→((nu a l).map (λy=>(y.1:Int))).Pairwise (· < ·)
 |[],_=>List.Pairwise.nil
 |x::t,h=>by
  obtain⟨h1,h2⟩:=eX.1 h
  have ih:=Et (a:=a) h2
  rw[qd]
  by_cases e:x.1=a
  ·rw[ak e,ca]
   refine eX.2 ⟨λz hz=> ?_,ih⟩
   obtain⟨y,hy,rfl⟩:=cY.1 hz
   obtain⟨x',hx,e',rfl⟩:=nv hy
   have hk:=h1 (keyOf x') (fG hx)
   have g: ∀p q r s:Int,p=a→r=a→lZ p q r s→q<s:=λp q r s h1 h2 h=>by unfold lZ at h;omega
   exact g _ _ _ _ e e' hk
  ·rw[ag e];exact ih
def c5(p:Int):Prop:=1≤p∧p≤1000000000000
instance(p:Int):Decidable (c5 p):=by unfold c5;infer_instance
theorem sF(p:Int):XZ N p=some (decide (c5 p)):=(jz N p).trans (fe some (oc.2 Iff.rfl))
def ki(a b c d e:Int):Prop:=(0≤a∧a≤24)∧(0≤b∧b≤24)∧a≠b∧(0≤c∧c<6)∧(1≤d∧d≤1000000000)∧c5 e
instance(a b c d e:Int):Decidable (ki a b c d e):=by unfold ki;infer_instance
def dx(t:kQ):Prop:=ki t.1 t.2.1 t.2.2.1 t.2.2.2.1 t.2.2.2.2.1
instance:DecidablePred dx:=λt=>by unfold dx;infer_instance
theorem Eu(a b c d e:Int):cond (dy 0 a) (cond (dy a 24) (cond (dy 0 b) (cond (dy b 24) (cond (!aM a b) (cond (dy 0 c) (cond (aX c 6) (cond (dy 1 d) (cond (dy d 1000000000) (some (decide (c5 e))) (some false)) (some false)) (some false)) (some false)) (some false)) (some false)) (some false)) (some false)) (some false)=some (decide (ki a b c d e)):=by
 simp only[cz,cond_not,aI,cf]
 by_cases hP:ki a b c d e
 ·have hp:=hP.2.2.2.2.2
  rw[aV hP,aV hp]
  unfold ki at hP
  repeat' split
  all_goals first|rfl|omega
 ·rw[bw hP]
  by_cases hp:c5 e
  ·unfold ki at hP
   repeat' split
   all_goals first|rfl|(exact absurd ⟨ω,ω,ω,ω,ω,hp⟩ hP)
  ·rw[bw hp]
   repeat' split
   all_goals rfl
theorem vb(t:kQ):ZT N t=some (decide (dx t)):=by
 unfold ZT
 rw[sF,ar]
 exact Eu _ _ _ _ _
def pq(a x:Int):dg:=if a=0 then((2:Int),((0:Int),(x,())))else((5:Int),(a,(x,())))
def mj(t:kQ)(p:Int):au:=if p-t.2.2.2.2.1=0 then []else [pq t.1 ((p-t.2.2.2.2.1)*t.2.2.2.1),pq t.2.1 (-((p-t.2.2.2.2.1)*t.2.2.2.1))]
def kJ(b:an)(t:kQ):Int:=b.2.2.2.2.1.getD t.2.2.1.toNat 0
def iF:bE→au
 |[]=>[]
 |t::r=>(t.1,(t.2.2.1,(t.2.2.2.1,())))::(t.2.1,(t.2.2.1,((0-t.2.2.2.1:Int),())))::iF r
def iX(b:an):bE→au
 |[]=>[]
 |t::r=>mj t (kJ b t)++iX b r
theorem qf(t:kQ)(r:bE):iF (t::r)=(t.1,(t.2.2.1,(t.2.2.2.1,())))::(t.2.1,(t.2.2.1,((0-t.2.2.2.1:Int),())))::iF r:=rfl
theorem tP(b:an)(t:kQ)(r:bE):iX b (t::r)=mj t (kJ b t)++iX b r:=rfl
theorem y7(a x:Int)(N:Nat):MD N a=some ((pq a x).1,(pq a x).2.1):=by
 unfold MD pq
 rw[aI]
 by_cases h:a=0
 ·rw[ak h,ak h]
 ·rw[ag h,ag h]
theorem gQ(a x:Int):dQ (pq a x)=x:=by unfold pq;split<;>rfl
theorem Dm{d q:Int}(h1: -1000000000000≤d∧d≤1000000000000)(h2:1≤q∧q≤1000000000): -1000000000000000000000≤d*q∧d*q≤1000000000000000000000∧(d*q=0↔d=0):=by
 refine⟨?_,?_,?_⟩
 ·have:=AI h1.1 (show 0≤q by omega)
  have h3: -1000000000000*1000000000≤ -1000000000000*q:=ω
  omega
 ·have:=AI h1.2 (show 0≤q by omega)
  have h3:1000000000000*q≤1000000000000*1000000000:=ω
  omega
 ·rw[Int.mul_eq_zero];omega
theorem zI(hN:4000000≤N){t:kQ}{p:Int}(ht:dx t)(hp:c5 p):PH N t p=some ((mj t p).map gh,0):=by
 unfold PH mj
 have hq:=ht.2.2.2.2.1
 have he:=ht.2.2.2.2.2
 rw[vb,ar,aV ht,bk,av,sF,ar,aV hp,bk,av]
 unfold c5 at hp he
 generalize t.2.2.2.2.1=e at*
 generalize t.2.2.2.1=q at*
 have hd: -1000000000000≤p-e∧p-e≤1000000000000:=ω
 have hn:=Dm hd hq
 have WK:cH ((p-e)*q):=by unfold cH;omega
 rw[aw (x:=p-e) ω ω,dd N ω ω ω,ar,dd N ω ω ω,ar,sx N hN ((Fit.i64 ω ω).mono ω) ((Fit.i64 ω ω).mono ω),ar,pM,ar,aI]
 by_cases h:p-e=0
 ·rw[ak h,ak (by rw[hn.2.2.2 h];rfl)];rfl
 ·rw[ag h,ag (λk=>h (hn.2.2.1 (jB.1 k))),y7 t.1 ((p-e)*q),ar,y7 t.2.1 (-((p-e)*q)),ar,pe N hN (pO WK),ar,ca,ca,gU]
  unfold gh
  rw[gQ,gQ]
def gn(c:ae)(b:an)(t:kQ):Bool:=
 ((eT b.2.1 t.1).2||decide (dI t.1 0))&&(((eT b.2.1 t.2.1).2||decide (dI t.2.1 0))&&decide (lG t.2.2.1 c.1.length))
def sG(c:ae)(b:an)(l:bE):an×Int:=
 if dh c b then(if l.length≤200 then(if l.all (λt=>decide (dx t))then(if l.all (gn c b)then dE b (iF l) (iX b l)else((cn,(cW,(bo,(bo,(di,(du,())))))),3))else((cn,(cW,(bo,(bo,(di,(du,())))))),1))else((cn,(cW,(bo,(bo,(di,(du,())))))),1))else((cn,(cW,(bo,(bo,(di,(du,())))))),1)
theorem dY{c:ae}{b:an}(h:dh c b=true):b.2.2.2.2.1.length=c.1.length∧fm b.2.2.2.2.1=true:=by
 unfold dh at h
 simp only[bQ]at h
 have h1:=bD h.2.2.2.2.2.2.1
 unfold dI at h1
 exact⟨ω,h.2.2.2.2.2.2.2.2.2.2⟩
theorem wi: ∀l:bE,(iF l).length=2*l.length
 |[]=>rfl
 |t::r=>by rw[qf,aT,aT,aT,wi r];omega
theorem Am(t:kQ)(p:Int):(mj t p).length≤2:=by
 unfold mj
 split
 ·exact bs _
 ·exact aH 2
theorem wj(b:an): ∀l:bE,(iX b l).length≤2*l.length
 |[]=>aH _
 |t::r=>by
  have:=Am t (kJ b t)
  have:=wj b r
  rw[tP,aS,aT];omega
theorem qg{l:List Int}(h:fm l=true){i:Nat}(hi:i<l.length):c5 (l.getD i 0):=bD h i hi
theorem SY(i:Int)(a b:dg)(l:au)(h:a.2.1=b.2.1)(hs:dQ a+dQ b=0):(dp i (a::b::l)).sum=(dp i l).sum:=by
 rw[dB,dB]
 by_cases e:a.2.1=i
 ·rw[ak e,ak (h.symm.trans e),cN,cN];omega
 ·rw[ag e,ag (λk=>e (h.trans k))]
theorem Ev: ∀{l:bE},(∀t∈l,dx t)→(∀x∈iF l,cg x.1 x.2.1∧aF (dQ x)∧ri (dQ x))∧ ∀i:Int,(dp i (iF l)).sum=0
 |[],_=>⟨λx hx=>(nomatch hx),λi=>rfl⟩
 |t::r,h=>by
  obtain⟨h1,h2⟩:=Ev (l:=r) (λy hy=>h y (ba _ hy))
  have ht:=h t (bu ..)
  unfold dx ki at ht
  have g: ∀a b c d:Int,(0≤a∧a≤24)→(0≤b∧b≤24)→(0≤c∧c<6)→(1≤d∧d≤1000000000)→(cg a c∧aF d∧ri d)∧(cg b c∧aF (0-d)∧ri (0-d)):=λa b c d _ _ _ _=>by unfold cg aF ri;omega
  have hg:=g _ _ _ _ ht.1 ht.2.1 ht.2.2.2.1 ht.2.2.2.2.1
  refine⟨λx hx=> ?_,λi=> ?_⟩
  ·rw[qf]at hx
   rcases bh.1 hx with e|hx
   ·rw[e];exact hg.1
   ·rcases bh.1 hx with e|hx
    ·rw[e];exact hg.2
    ·exact h1 x hx
  ·rw[qf]
   have hz: ∀d:Int,d+(0-d)=0:=λd=>ω
   exact(SY i (t.1,(t.2.2.1,(t.2.2.2.1,()))) (t.2.1,(t.2.2.1,((0-t.2.2.2.1:Int),()))) (iF r) rfl (hz t.2.2.2.1)).trans (h2 i)
theorem SZ{t:kQ}{p:Int}(ht:dx t)(hp:c5 p):cH ((p-t.2.2.2.2.1)*t.2.2.2.1)∧cH (-((p-t.2.2.2.2.1)*t.2.2.2.1)):=by
 have hq:=ht.2.2.2.2.1
 have he:=ht.2.2.2.2.2
 unfold c5 at hp he
 generalize t.2.2.2.2.1=e at*
 generalize t.2.2.2.1=q at*
 have hn:=Dm (d:=p-e) ω hq
 unfold cH
 omega
theorem HY{a x:Int}(h:0≤a∧a≤24):de (pq a x).1 (pq a x).2.1:=by
 unfold pq
 by_cases e:a=0
 ·rw[ak e];show de 2 0;decide
 ·rw[ag e];show de 5 a;unfold de;omega
theorem PI{t:kQ}{p:Int}(ht:dx t)(hp:c5 p):(∀x∈mj t p,de x.1 x.2.1∧cH (dQ x))∧((mj t p).map dQ).sum=0:=by
 have hn:=SZ ht hp
 unfold mj
 split
 ·exact⟨λx hx=>(nomatch hx),rfl⟩
 ·refine⟨λx hx=> ?_,?_⟩
  ·rcases bh.1 hx with e|hx
   ·rw[e,gQ];exact⟨HY ht.1,hn.1⟩
   ·rw[cy.1 hx,gQ];exact⟨HY ht.2.1,hn.2⟩
  ·rw[ca,ca,gU,cN,cN,jn,gQ,gQ];omega
theorem Ew{b:an}: ∀{l:bE},(∀t∈l,dx t∧c5 (kJ b t))→(∀x∈iX b l,de x.1 x.2.1∧cH (dQ x))∧((iX b l).map dQ).sum=0
 |[],_=>⟨λx hx=>(nomatch hx),rfl⟩
 |t::r,h=>by
  obtain⟨h1,h2⟩:=Ew (b:=b) (l:=r) (λy hy=>h y (ba _ hy))
  have ht:=h t (bu ..)
  have hc:=PI ht.1 ht.2
  rw[tP]
  refine⟨λx hx=>(bn.1 hx).elim (hc.1 x) (h1 x),?_⟩
  rw[dr,oa,hc.2,h2];rfl
theorem KQ{l:bE}(h: ∀t∈l,dx t)(hl:l.length≤200):Ps (iF l):=by
 obtain⟨h1,h2⟩:=Ev h
 exact⟨λx hx=>(h1 x hx).1,λx hx=>(h1 x hx).2,by rw[wi];omega,h2⟩
theorem KR{b:an}{l:bE}(h: ∀t∈l,dx t∧c5 (kJ b t))(hl:l.length≤200):Pw (iX b l):=by
 obtain⟨h1,h2⟩:=Ew h
 have:=wj b l
 exact⟨λx hx=>(h1 x hx).1,λx hx=>(h1 x hx).2,ω,h2⟩
theorem ME(hN:4000000≤N)(c:ae){b:an}(w:m5 b)(hB:dh c b=true){l:bE}(hk: ∀t∈l,dx t)(hl:l.length≤200):
  nS.An N N l c b (cn,(cW,(bo,(bo,(di,(du,())))))) [] [] 0=some (if l.all (gn c b)then dE b (iF l) (iX b l)else((cn,(cW,(bo,(bo,(di,(du,())))))),3)):=by
 obtain⟨hr,hs⟩:=ej hB
 obtain⟨zC,Bv⟩:=dY hB
 have gs:=KQ hk hl
 have:=ll l gv (λn i (z:au×au)=>nS.An N n l c b (cn,(cW,(bo,(bo,(di,(du,())))))) z.1 (z.2.map gh) i)
  (λu z=>some (if u.all (gn c b)then dE b (iF l) (iX b l)else((cn,(cW,(bo,(bo,(di,(du,())))))),3)))
  (λi z=>z.1++iF (l.drop i)=iF l∧z.2++iX b (l.drop i)=iX b l∧ ∀j,j<i→gn c b (l.getD j gv)=true)
  (λn i z hi hI BQ=> ?_) (λn z hI=> ?_) l.length N 0 ([],[]) ω ω ω ⟨rfl,rfl,λj hj=>absurd hj ω⟩
 ·exact this
 ·unfold nS.An nS.yg
  obtain⟨i1,i2,i3⟩:=hI
  have hls:=wi l
  have hle:=wj b l
  have z1:z.1.length≤400:=by rw[←i1,aS]at hls;omega
  have z2:z.2.length≤400:=by rw[←i2,aS]at hle;omega
  have hm:l.getD i gv∈l:=by
   rw[aW,bm hi];exact dG hi
  have ht:=hk _ hm
  rw[drop_cons hi gv,qf]at i1
  rw[drop_cons hi gv,tP]at i2
  rw[aQ ω,aj,aU ω ω,aj,aG,aw (x:=(i:Int)+1) ω ω,af i,xm]
  have i4:gn c b (l.getD i gv)=true→ ∀j,j<i+1→gn c b (l.getD j gv)=true:=λh j hj=>by
   by_cases e:j=i
   ·rw[e];exact h
   ·exact i3 j ω
  generalize l.getD i gv=t at*
  have hq:=ht.2.2.2.2.1
  have ke:=ht.2.2.2.1
  rw[p9 N b w.w.a ω,ar,p9 N b w.w.a ω,ar,cond_not,cond_not,cz]
  have e0:W .i64 (0-t.2.2.2.1)=0-t.2.2.2.1:=by
   have g: ∀d:Int,1≤d∧d≤1000000000→W .i64 (0-d)=0-d:=λd _=>aw ω ω
   exact g _ hq
  rw[e0]
  dsimp only
  by_cases h1:((eT b.2.1 t.1).2||decide (dI t.1 0))=false
  ·have:gn c b t=false:=by unfold gn;rw[h1];rfl
   rw[h1,this];rfl
  ·rw[rR]at h1
   rw[h1,aj]
   by_cases h2:((eT b.2.1 t.2.1).2||decide (dI t.2.1 0))=false
   ·have:gn c b t=false:=by unfold gn;rw[h1,h2];rfl
    rw[h2,this];rfl
   ·rw[rR]at h2
    rw[h2,aj]
    by_cases h3:(c.1.length:Int)≤t.2.2.1
    ·have:gn c b t=false:=by
      unfold gn
      rw[h1,h2,bw (show ¬lG t.2.2.1 c.1.length from λh=>by unfold lG at h;exact absurd h (oi.2 h3))];rfl
     rw[ak h3,this];rfl
    ·have eU:t.2.2.1<(c.1.length:Int):=uI.1 h3
     have hth:gn c b t=true:=by
      unfold gn
      rw[h1,h2,aV (show lG t.2.2.1 c.1.length from eU)];rfl
     have WO:t.2.2.1.toNat<b.2.2.2.2.1.length:=by
      have g: ∀x:Int,(0≤x∧x<6)→x<(c.1.length:Int)→x.toNat<b.2.2.2.2.1.length:=λx _ _=>ω
      exact g _ ke eU
     have Sg:bg t.2.2.1 b.2.2.2.2.1.length=true:=by
      have g: ∀x:Int,(0≤x∧x<6)→x<(c.1.length:Int)→bg x b.2.2.2.2.1.length=true:=λx _ _=>aU ω ω
      exact g _ ke eU
     have hp:c5 (kJ b t):=qg Bv WO
     have htp:PH N t (b.2.2.2.2.1.getD t.2.2.1.toNat 0)=some ((mj t (kJ b t)).map gh,0):=zI N hN ht hp
     have FG:=Am t (kJ b t)
     rw[ag h3,bJ (by rw[aT,aJ];omega),aj,Sg,aj,htp,ar,bJ (by rw[cB,cB];omega),aj,hth,kS]
     have:=BQ (z.1++[(t.1,(t.2.2.1,(t.2.2.2.1,()))),(t.2.1,(t.2.2.1,((0-t.2.2.2.1:Int),())))],z.2++mj t (kJ b t)) ⟨by rw[←i1,bF];rfl,by rw[←i2,bF],i4 hth⟩
     rw[dr]at this
     exact this
 ·unfold nS.An nS.yg
  obtain⟨i1,i2,i3⟩:=hI
  rw[m0]at i1 i2
  have e1:z.1=iF l:=by rw[←i1];exact(cA _).symm
  have e2:z.2=iX b l:=by rw[←i2];exact(cA _).symm
  have iS: ∀t∈l,dx t∧c5 (kJ b t):=λt ht=>by
   obtain⟨i,hi,e⟩:=gL ht
   have h:=i3 i hi
   rw[aW,bm hi]at h
   simp only[n7,e]at h
   unfold gn at h
   have eU:=bD (df.1 (df.1 h).2).2
   have ke:=(hk t ht).2.2.2.1
   have WO:t.2.2.1.toNat<b.2.2.2.2.1.length:=by
    have g: ∀x:Int,(0≤x∧x<6)→lG x c.1.length→x.toNat<b.2.2.2.2.1.length:=λx _ h=>by unfold lG at h;omega
    exact g _ ke eU
   exact⟨hk t ht,qg Bv WO⟩
  rw[aO ω,av,e1,e2,US N hN w.w hr hs w.r w.s gs (KR iS hl),ar]
  rfl
theorem S1(hN:5000000≤N)(c:ae){b:an}(w:m5 b){l:bE}(hl:l.length≤100000):nS N c b l=some (sG c b l):=by
 unfold nS nS.b sG
 rw[qa N hN w.w,ar,cond_not,cf]
 by_cases hB:dh c b=false
 ·rw[hB];rfl
 rw[rR]at hB
 rw[hB,aj,ak rfl]
 by_cases S2:l.length≤200
 ·rw[ag ω,ak S2]
  have key: ∀(m n i:Nat),l.length-i≤m→m<n→i≤l.length→(∀j,j<i→dx (l.getD j gv))→nS.l4 N n l c b (cn,(cW,(bo,(bo,(di,(du,())))))) (i:Int)=some (if l.all (λt=>decide (dx t))then(if l.all (gn c b)then dE b (iF l) (iX b l)else((cn,(cW,(bo,(bo,(di,(du,())))))),3))else((cn,(cW,(bo,(bo,(di,(du,())))))),1)):=by
   intro m n
   induction n generalizing m with
   |zero=>intro i _ hn;omega
   |succ n ih=>
    intro i hm hn hi hj
    unfold nS.l4 nS.dM
    by_cases h:i<l.length
    ·rw[aQ ω,aj,aU ω ω,aj,aG,vb,ar,cond_not,ga,aw (x:=(i:Int)+1) ω ω,af i]
     by_cases hk:dx (l.getD i gv)
     ·rw[ak hk]
      exact ih (m-1) (i+1) ω ω ω λj XV=>by
       by_cases e:j=i
       ·rw[e];exact hk
       ·exact hj j ω
     ·rw[ag hk]
      have hf:l.all (λt=>decide (dx t))=false:=by
       rw[List.all_eq_false]
       refine⟨l.getD i gv,?_,by rw[bw hk];decide⟩
       rw[aW,bm h];exact dG h
      rw[hf];rfl
    ·have hk: ∀t∈l,dx t:=λt ht=>by
      obtain⟨k,hk,e⟩:=gL ht
      have:=hj k ω
      rw[aW,bm hk]at this
      rw[←e];exact this
     have ha:l.all (λt=>decide (dx t))=true:=pF.2 λt ht=>aV (hk t ht)
     rw[aO ω,av,ha,ak rfl]
     exact ME N ω c w hB hk S2
  exact key l.length N 0 ω ω ω (λj hj=>absurd hj ω)
 ·rw[ak ω,ag S2]
theorem wk{c:ae}{b:an}(h:dh c b=true):eS c=true:=by
 unfold dh at h
 exact(df.1 h).1
def oF(k:Int):Nat→aN→List Int
 |_,[]=>[]
 |i,x::t=>if x.1=k then(i:Int)::oF k (i+1) t else oF k (i+1) t
theorem Ca(k:Int)(i:Nat)(x:cO)(t:aN):oF k i (x::t)=if x.1=k then(i:Int)::oF k (i+1) t else oF k (i+1) t:=rfl
def jF(c:ae)(k:Int):List Int:=if eS c then oF k 0 c.1 else []
theorem S3(hN:200000≤N)(c:ae)(hl:c.1.length≤100000)(k:Int):qh N c k=some (jF c k):=by
 unfold qh qh.b jF
 rw[mK N ω,ar,cond_not]
 have:=ll c.1 bb (λn i s=>qh.l5 N n k c s i) (λt s=>some (s++oF k (c.1.length-t.length) t)) (λi (s:List Int)=>s.length≤i) (λn i s hi hI hr=> ?_) (λn s hI=> ?_) c.1.length N 0 [] ω ω ω (aH _)
 ·have e:qh.l5 N N k c [] 0=some (oF k 0 c.1):=by
   refine this.trans ?_
   rw[cM,uH];rfl
  rw[e];cases eS c<;>rfl
 ·unfold qh.l5 qh.dV
  have e1:c.1.length-(c.1.getD i bb::c.1.drop (i+1)).length=i:=by rw[aT,ec];omega
  have e2:c.1.length-(c.1.drop (i+1)).length=i+1:=by rw[ec];omega
  rw[e2]at hr
  rw[aQ ω,aj,aU ω ω,aj,aG,aw (x:=(i:Int)+1) ω ω,af i,aI,bJ (by rw[aJ];omega),aj,e1,Ca]
  split
  ·rw[hr _ (by rw[aS,aJ];omega),bF];rfl
  ·exact hr s ω
 ·unfold qh.l5 qh.dV
  rw[aO ω,av]
  show some s=some (s++[])
  rw[cA]
theorem tL{c:ae}(h:eS c=true):c.1.length≤6∧ ∀i,i<c.1.length→0≤(c.1.getD i bb).1∧(c.1.getD i bb).1≤3:=by
 unfold eS at h
 simp only[bQ]at h
 have h1:=bD h.1
 have h2:=bD h.2.1
 exact⟨h1.2,λi hi=>(h2 i hi).1⟩
theorem ZU{l:au}(h:dU l)(a b:Int):aF (gm l a b):=by
 unfold gm
 cases dk l
 ·show aF 0;decide
 ·exact HV h a b
theorem sH(p:Int):F40 N p=some (decide (c5 p)):=(C6 N p).trans (fe some (oc.2 Iff.rfl))
theorem KS(hN:10≤N)(t:kQ):Dn N t=some (decide (dx t)):=by
 obtain⟨n,rfl⟩: ∃n,N=n+3:=⟨N-3,ω⟩
 refine Eq.trans ?_ (Eu t.1 t.2.1 t.2.2.1 t.2.2.2.1 t.2.2.2.2.1)
 unfold Dn Dn.b
 have el:List.set (List.set (List.replicate 2 (0:Int)) 0 t.1) 1 t.2.1=[t.1,t.2.1]:=rfl
 rw[el]
 generalize hl:[t.1,t.2.1]=l
 have g0:l.getD (0:Int).toNat 0=t.1:=by rw[←hl];rfl
 have g1:l.getD (1:Int).toNat 0=t.2.1:=by rw[←hl];rfl
 unfold Dn.l2 Dn.fN
 unfold Dn.l2 Dn.fN
 unfold Dn.l2 Dn.fN
 rw[aQ (x:=0) ω,aj,aU (i:=0) ω ω,aj,aw (x:=0+1) ω ω,show(0:Int)+1=1 from rfl,aQ (x:=1) (y:=2) ω,aj,aU (i:=1) ω ω,aj,aw (x:=1+1) ω ω,show(1:Int)+1=2 from rfl,aO (x:=2) (y:=2) ω,av,g0,g1,sH,ar]
 simp only[cz,cond_not,aI,cf]
 by_cases a1:t.1<0
 ·rw[ak a1,ag (uI.2 a1)]
 rw[ag a1,ak (oi.1 a1)]
 by_cases a2:24<t.1
 ·rw[ak a2,ag (uI.2 a2)]
 rw[ag a2,ak (oi.1 a2)]
 by_cases a3:t.2.1<0
 ·rw[ak a3,ag (uI.2 a3)]
 rw[ag a3,ak (oi.1 a3)]
 by_cases a4:24<t.2.1
 ·rw[ak a4,ag (uI.2 a4)]
 rw[ag a4,ak (oi.1 a4)]
theorem Dp(a x:Int):WQ N a (cK x)=some (ik (pq a x)):=by
 unfold WQ pq ik
 rw[aI]
 by_cases h:a=0
 ·rw[ak h,ak h];rfl
 ·rw[ag h,ag h];rfl
theorem S4(hN:100≤N){t:kQ}{p:Int}(ht:dx t)(hp:c5 p):F60 N t p=some ((mj t p).map ik,0):=by
 unfold F60 mj
 have hq:=ht.2.2.2.2.1
 have he:=ht.2.2.2.2.2
 rw[KS N ω,ar,aV ht,bk,av,sH,ar,aV hp,bk,av,aI]
 unfold c5 at hp he
 generalize t.2.2.2.2.1=e at*
 generalize t.2.2.2.1=q at*
 by_cases h:p=e
 ·rw[ak h,ak ω];rfl
 ·rw[ag h,ag ω,aw (x:=p-e) ω ω,aw (x:=e-p) ω ω,Mn N ω ω ω ω,ar,Dp,ar,Mn N ω ω ω ω,ar,Dp,ar,ca,ca,gU,jm q (p-e)]
  have e2:q*(e-p)= -((p-e)*q):=by rw[jm,←Int.neg_mul];congr 1;omega
  rw[e2]
theorem adh{u v:Int}(hu:cH u)(hv:cH v)(hs:cH (u+v)):ZV N (cK u) (cK v)=some (cK (u+v),true):=by
 unfold ZV cK
 unfold cH at*
 dsimp only
 have hp:0≤u%18446744073709551616∧u%18446744073709551616<18446744073709551616:=ω
 have hq:0≤v%18446744073709551616∧v%18446744073709551616<18446744073709551616:=ω
 rw[p8,p8,xT N ω ω ω ω,ar]
 dsimp only
 have hc:0≤(u%18446744073709551616+v%18446744073709551616+0)/18446744073709551616∧(u%18446744073709551616+v%18446744073709551616+0)/18446744073709551616≤1:=ω
 have e1:(u%18446744073709551616+v%18446744073709551616+0)%18446744073709551616=(u+v)%18446744073709551616:=ω
 have e2:u/18446744073709551616+v/18446744073709551616+(u%18446744073709551616+v%18446744073709551616+0)/18446744073709551616=(u+v)/18446744073709551616:=ω
 have h3: -9223372036854775808≤(u+v)/18446744073709551616∧(u+v)/18446744073709551616<9223372036854775808:=ω
 rw[xT N ω ω hc.1 hc.2,ar]
 dsimp only
 have e3:W .i64 ((u/18446744073709551616%18446744073709551616+v/18446744073709551616%18446744073709551616+(u%18446744073709551616+v%18446744073709551616+0)/18446744073709551616)%18446744073709551616)=(u+v)/18446744073709551616:=by
  rw[gN];split<;>omega
 rw[e3,e1]
 have key: ∀A B C:Int,A=u/18446744073709551616→B=v/18446744073709551616→C=(u+v)/18446744073709551616→(A<0∧B<0→C<0)∧(¬A<0∧ ¬B<0→ ¬C<0):=λA B C _ _ _=>ω
 have k:=key _ _ _ rfl rfl rfl
 simp only[mI,qv]
 by_cases a:u/18446744073709551616<0<;>by_cases b:v/18446744073709551616<0
 ·have c:=k.1 ⟨a,b⟩
  rw[aV a,aV b,aV c];rfl
 ·rw[aV a,bw b];rfl
 ·rw[bw a,aV b];rfl
 ·have c:=k.2 ⟨a,b⟩
  rw[bw a,bw b,bw c];rfl
theorem Ex(N:Nat)(hN:10≤N){l:bE}(hl:l.length≤100000): ∀(m n i:Nat),l.length-i≤m→m<n→i≤l.length→
  ∃r,th.l2 N n l () (l.length:Int) (i:Int)=some r∧(dy 0 r= !(l.drop i).all (λt=>decide (dx t)))
 |m,0,i,_,hn,_=>ω
 |m,n+1,i,hm,hn,hi=>by
  unfold th.l2 th.fN F58
  by_cases h:i<l.length
  ·rw[aQ ω,aj,aU ω ω,aj,aG,KS N hN,ar,ar,cond_not,ga,drop_cons h gv,xm]
   by_cases hP:dx (l.getD i gv)
   ·rw[ak hP,aw ω ω,aV hP,kS]
    exact Ex N hN hl (m-1) n (i+1) ω ω ω
   ·rw[ag hP,bw hP,uG]
    exact⟨_,rfl,by rw[fR ω];rfl⟩
  ·have e:i=l.length:=ω
   subst e
   rw[aO ω,av,m0]
   exact⟨_,rfl,by rw[fM ω];rfl⟩
theorem S5{l:bE}(hl:l.length≤100000)(hN:200000≤N):F57 N l ()=some (!l.all (λt=>decide (dx t))):=by
 unfold F57 th th.b
 obtain⟨r,e,h⟩:=Ex N ω hl l.length N 0 ω ω ω
 rw[show((0:Nat):Int)=0 from rfl]at e
 rw[e,ar,h,cM]
theorem PJ(hN:4000000≤N)(c:ae){b:an}(w:m5 b)(hB:dh c b=true){l:bE}(hk: ∀t∈l,dx t)(hth: ∀t∈l,gn c b t=true)(hl:l.length≤200):
  ur.nJ N N b (cn,(cW,(bo,(bo,(di,(du,())))))) [] [] l (l.length:Int) 0=some (dE b (iF l) (iX b l)):=by
 obtain⟨hr,hs⟩:=ej hB
 obtain⟨zC,Bv⟩:=dY hB
 have gs:=KQ hk hl
 have WO: ∀t∈l,t.2.2.1.toNat<b.2.2.2.2.1.length∧bg t.2.2.1 b.2.2.2.2.1.length=true:=λt ht=>by
  have h:=hth t ht
  unfold gn at h
  have eU:=bD (df.1 (df.1 h).2).2
  have ke:=(hk t ht).2.2.2.1
  have g: ∀x:Int,(0≤x∧x<6)→lG x c.1.length→x.toNat<b.2.2.2.2.1.length∧bg x b.2.2.2.2.1.length=true:=λx _ h=>by unfold lG at h;exact⟨ω,aU ω ω⟩
  exact g _ ke eU
 have iS: ∀t∈l,dx t∧c5 (kJ b t):=λt ht=>⟨hk t ht,qg Bv (WO t ht).1⟩
 have:=ll l gv (λn i (z:au×au)=>ur.nJ N n b (cn,(cW,(bo,(bo,(di,(du,())))))) z.1 (z.2.map ik) l (l.length:Int) i)
  (λu z=>some (dE b (iF l) (iX b l)))
  (λi z=>z.1++iF (l.drop i)=iF l∧z.2++iX b (l.drop i)=iX b l)
  (λn i z hi hI BQ=> ?_) (λn z hI=> ?_) l.length N 0 ([],[]) ω ω ω ⟨rfl,rfl⟩
 ·exact this
 ·unfold ur.nJ ur.mN
  obtain⟨i1,i2⟩:=hI
  have hls:=wi l
  have hle:=wj b l
  have z1:z.1.length≤400:=by rw[←i1,aS]at hls;omega
  have z2:z.2.length≤400:=by rw[←i2,aS]at hle;omega
  have hm:l.getD i gv∈l:=by
   rw[aW,bm hi];exact dG hi
  have ht:=hk _ hm
  have hn:=WO _ hm
  have hp:=(iS _ hm).2
  rw[drop_cons hi gv,qf]at i1
  rw[drop_cons hi gv,tP]at i2
  rw[aQ ω,aj,aU ω ω,aj,aG,aw (x:=(i:Int)+1) ω ω,af i]
  generalize l.getD i gv=t at*
  have hq:=ht.2.2.2.2.1
  have e0:W .i64 (0-t.2.2.2.1)=0-t.2.2.2.1:=by
   have g: ∀d:Int,1≤d∧d≤1000000000→W .i64 (0-d)=0-d:=λd _=>aw ω ω
   exact g _ hq
  rw[e0]
  dsimp only
  have htp:F60 N t (b.2.2.2.2.1.getD t.2.2.1.toNat 0)=some ((mj t (kJ b t)).map ik,0):=S4 N ω ht hp
  have FG:=Am t (kJ b t)
  rw[bJ (by rw[aT,aJ];omega),aj,hn.2,aj,htp,ar,bJ (by rw[cB,cB];omega),aj]
  have:=BQ (z.1++[(t.1,(t.2.2.1,(t.2.2.2.1,()))),(t.2.1,(t.2.2.1,((0-t.2.2.2.1:Int),())))],z.2++mj t (kJ b t)) ⟨by rw[←i1,bF];rfl,by rw[←i2,bF]⟩
  rw[dr]at this
  exact this
 ·unfold ur.nJ ur.mN
  obtain⟨i1,i2⟩:=hI
  rw[m0]at i1 i2
  have e1:z.1=iF l:=by rw[←i1];exact(cA _).symm
  have e2:z.2=iX b l:=by rw[←i2];exact(cA _).symm
  rw[aO ω,av,e1,e2,PC N ω w.w hr hs w.r w.s gs (KR iS hl),ar]
theorem Cb{f:Bool}{a:Int}{r:Option (an×Int)}:cond (!aM a 0) (cond (!f) (some ((cn,(cW,(bo,(bo,(di,(du,())))))),(3:Int))) r) r=if(f||decide (dI a 0))=true then r else some ((cn,(cW,(bo,(bo,(di,(du,())))))),(3:Int)):=by
 rw[cond_not,aI,cond_not]
 by_cases h:a=0
 ·rw[ak h,aV (show dI a 0 from h),Bool.or_true,ak rfl]
 ·rw[ag h,bw (show ¬dI a 0 from h),rW]
  cases f<;>rfl
theorem KT(hN:4000000≤N)(c:ae){b:an}(w:m5 b){l:bE}(hl:l.length≤100000):ur N c b l=some (sG c b l):=by
 unfold ur ur.b sG
 rw[vX N hN w.w,ar,cond_not,cf,S5 N hl ω,ar,cond_not]
 by_cases hB:dh c b=false
 ·rw[hB];rfl
 rw[rR]at hB
 rw[hB,aj,ak rfl]
 by_cases S2:l.length≤200
 ·rw[ag ω,ak S2]
  by_cases hk:l.all (λt=>decide (dx t))=false
  ·rw[hk];rfl
  rw[rR]at hk
  rw[hk,aj,ak rfl]
  have Bq: ∀t∈l,dx t:=λt ht=>bD (pF.1 hk t ht)
  have key: ∀(m n i:Nat),l.length-i≤m→m<n→i≤l.length→(∀j,j<i→gn c b (l.getD j gv)=true)→ur.l4 N n l c b (cn,(cW,(bo,(bo,(di,(du,())))))) l (l.length:Int) (i:Int)=some (if l.all (gn c b)then dE b (iF l) (iX b l)else((cn,(cW,(bo,(bo,(di,(du,())))))),3)):=by
   intro m n
   induction n generalizing m with
   |zero=>intro i _ hn;omega
   |succ n ih=>
    intro i hm hn hi hj
    unfold ur.l4 ur.dM
    by_cases h:i<l.length
    ·have qy:gn c b (l.getD i gv)=false→some ((cn,(cW,(bo,(bo,(di,(du,())))))),(3:Int))=some (if l.all (gn c b)then dE b (iF l) (iX b l)else((cn,(cW,(bo,(bo,(di,(du,())))))),3)):=λhf=>by
      have:l.all (gn c b)=false:=by
       rw[List.all_eq_false]
       refine⟨l.getD i gv,?_,by rw[hf];decide⟩
       rw[aW,bm h];exact dG h
      rw[this];rfl
     have aqm:gn c b (l.getD i gv)=true→ ∀j,j<i+1→gn c b (l.getD j gv)=true:=λh j XV=>by
      by_cases e:j=i
      ·rw[e];exact h
      ·exact hj j ω
     rw[aQ ω,aj,aU ω ω,aj,aG,De N b w.w.a ω,De N b w.w.a ω,aw (x:=(i:Int)+1) ω ω,af i]
     simp only[ar]
     rw[Cb,Cb,cz]
     generalize l.getD i gv=t at*
     unfold gn at qy aqm
     by_cases h1:((eT b.2.1 t.1).2||decide (dI t.1 0))=true
     ·rw[ak h1]
      by_cases h2:((eT b.2.1 t.2.1).2||decide (dI t.2.1 0))=true
      ·rw[ak h2]
       by_cases h3:(c.1.length:Int)≤t.2.2.1
       ·rw[ak h3]
        exact qy (by rw[h1,h2,bw (show ¬lG t.2.2.1 c.1.length from λh=>by unfold lG at h;exact absurd h (oi.2 h3))];rfl)
       ·rw[ag h3]
        exact ih (m-1) (i+1) ω ω ω (aqm (by rw[h1,h2,aV (show lG t.2.2.1 c.1.length from uI.1 h3)];rfl))
      ·rw[ag h2]
       exact qy (by rw[lJ]at h2;rw[h1,h2];rfl)
     ·rw[ag h1]
      exact qy (by rw[lJ]at h1;rw[h1];rfl)
    ·have hth: ∀t∈l,gn c b t=true:=λt ht=>by
      obtain⟨k,hk,e⟩:=gL ht
      have:=hj k ω
      rw[aW,bm hk]at this
      rw[←e];exact this
     rw[aO ω,av,pF.2 hth,ak rfl]
     exact PJ N hN c w hB Bq hth S2
  exact key l.length N 0 ω ω ω (λj hj=>absurd hj ω)
 ·rw[ak ω,ag S2]
def Cc(l:List Int)(k:Int):Int:=l.getD k.toNat 0
def ins(l:List Int):List Int→Int→List Int
 |[],i=>[i]
 |k::t,i=>if Cc l i≤Cc l k then k::ins l t i else i::k::t
def gz(l:List Int):Nat→List Int
 |0=>[]
 |n+1=>ins l (gz l n) n
def lz(l:List Int):List Int:=gz l l.length
def zJ(l:List Int)(a b:Int):Prop:=Cc l b<Cc l a∨(Cc l b=Cc l a∧a<b)
theorem UU(l:List Int): ∀(o:List Int) (i:Int),(ins l o i).length=o.length+1
 |[],i=>rfl
 |k::t,i=>by unfold ins;split<;>simp[UU l t i]
theorem tQ(l:List Int): ∀n,(gz l n).length=n
 |0=>rfl
 |n+1=>by unfold gz;rw[UU,tQ l n]
theorem Ao(l:List Int):(lz l).length=l.length:=tQ l _
theorem MF(l:List Int){x:Int}: ∀{o:List Int} {i:Int},x∈ins l o i↔x=i∨x∈o
 |[],i=>by simp[ins]
 |k::t,i=>by
  unfold ins;split
  ·rw[bh,MF l,bh]
   exact⟨λh=>h.elim (λh=> .inr (.inl h)) (λh=>h.elim .inl (λh=> .inr (.inr h))),λh=>h.elim (λh=> .inr (.inl h)) (λh=>h.elim .inl (λh=> .inr (.inr h)))⟩
  ·rw[bh]
theorem tR(l:List Int){x:Int}: ∀{n:Nat},x∈gz l n↔0≤x∧x<n
 |0=>⟨(λh=>nomatch h),λh=>absurd h.1 ω⟩
 |n+1=>by unfold gz;rw[MF,tR l];omega
theorem Cd(l:List Int): ∀{o:List Int} {i:Int},o.Pairwise (zJ l)→(∀x∈o,x<i)→(ins l o i).Pairwise (zJ l)
 |[],i,_,_=>Gk _ _
 |k::t,i,h,hi=>by
  rw[eX]at h
  have hk:k<i:=hi k (bu ..)
  unfold ins;split
  ·rename_i hle
   rw[eX]
   refine⟨λx hx=> ?_,Cd l h.2 (λx hx=>hi x (ba _ hx))⟩
   rcases(MF l).1 hx with rfl|hx
   ·unfold zJ;omega
   ·exact h.1 x hx
  ·rename_i hle
   rw[eX,eX]
   refine⟨λx hx=> ?_,h.1,h.2⟩
   rcases bh.1 hx with rfl|hx
   ·unfold zJ;omega
   ·have:=h.1 x hx;unfold zJ at*;omega
theorem pt(l:List Int): ∀n,(gz l n).Pairwise (zJ l)
 |0=>List.Pairwise.nil
 |n+1=>by unfold gz;exact Cd l (pt l n) (λx hx=>((tR l).1 hx).2)
theorem ZW(l:List Int): ∀(o:List Int) (i:Int) (p:Nat),p≤o.length→(∀j,j<p→Cc l i≤Cc l (o.getD j 0))→(p<o.length→Cc l (o.getD p 0)<Cc l i)→ins l o i=o.take p++i::o.drop p
 |[],i,p,hp,_,_=>by simp at hp;subst hp;rfl
 |k::t,i,0,hp,_,h=>by
  unfold ins;rw[ag (by have:=h (by simp);simp at this;omega)];rfl
 |k::t,i,p+1,hp,h0,h=>by
  unfold ins
  have h1:Cc l i≤Cc l k:=h0 0 ω
  rw[ak h1,ZW l t i p (by simpa using hp) (λj hj=>by have:=h0 (j+1) ω;simpa using this) (λRZ=>by have:=h (by simpa using RZ);simpa using this)]
  rfl
theorem UW(l:List Int)(f:Int→Int): ∀(o:List Int) (i:Int),((ins l o i).map f).sum=(o.map f).sum+f i
 |[],i=>by simp[ins]
 |k::t,i=>by
  unfold ins;split
  ·rw[ca,cN,UW l f t i,ca,cN];omega
  ·simp only[ca,cN];omega
theorem Ey(l r:List Int): ∀n,n≤r.length→((gz l n).map (Cc r)).sum=(r.take n).sum
 |0,_=>rfl
 |n+1,h=>by
  unfold gz;rw[UW,Ey l r n ω,mJ r ω]
  unfold Cc;rw[aG]
theorem S6(l r:List Int)(h:l.length=r.length):((lz l).map (Cc r)).sum=r.sum:=by
 unfold lz;rw[Ey l r _ ω,iG ω]
theorem HZ{o:List Int}{j:Nat}(h:j<o.length):o.getD j 0∈o:=by
 rw[aW,bm h];exact dG h
theorem S7{l:List Int}{n j:Nat}(h:j<n):0≤(gz l n).getD j 0∧(gz l n).getD j 0<n:=by
 exact(tR l).1 (HZ (by rw[tQ];exact h))
theorem KU(N:Nat)(K:List Int→List Int→Int→Option (List Int)){l:List Int}(hl:l.length≤100000)(i:Nat)(hi:i<l.length): ∀(m n p:Nat),i-p≤m→m<n→p≤i→(∀j,j<p→Cc l i≤Cc l ((gz l i).getD j 0))→
  gq.l6 N K n l (gz l i) (i:Int) (p:Int)=K l (gz l (i+1)) ((i+1:Nat):Int)
 |m,0,p,_,hn,_,_=>ω
 |m,n+1,p,hm,hn,hp,h=>by
  have hlen:=tQ l i
  have fin: ∀h2:(p<i→Cc l ((gz l i).getD p 0)<Cc l i),gq.j8 N K l (gz l i) (i:Int) (p:Int)=K l (gz l (i+1)) ((i+1:Nat):Int):=λh2=>by
   have e:=ZW l (gz l i) i p ω h (λh3=>h2 ω)
   unfold gq.j8 gq.ZL
   dsimp only
   rw[eh ω ω ω ω,aj,aG,aG,dO,cM]
   rw[bJ (by rw[cj];omega),aj,bJ (by rw[cj];simp only[aJ];omega),aj,eh ω ω ω ω,aj,bJ (by simp only[aS,cj,ec,aJ];omega),aj,aw ω ω,ir,bF,Gp,←e]
   rfl
  unfold gq.l6 gq.uU
  by_cases hpi:p<i
  ·have hr:=S7 (l:=l) (n:=i) (j:=p) hpi
   rw[aQ ω,aj,aU ω ω,aj,aG,aG,aU ω ω,aj,aU ω ω,aj]
   by_cases h3:l.getD i 0≤l.getD ((gz l i).getD p 0).toNat 0
   ·rw[fR h3,aj,aw ω ω]
    refine KU N K hl i hi (m-1) n (p+1) ω ω ω (λj hj=> ?_)
    by_cases hjp:j=p
    ·rw[hjp];unfold Cc;rw[aG];exact h3
    ·exact h j ω
   ·rw[fM ω,av]
    exact fin (λ_=>by unfold Cc;rw[aG];omega)
  ·rw[aO ω,av]
   exact fin (λh=>absurd h hpi)
theorem H4(N:Nat){l:List Int}(hl:l.length≤100000)(hN:l.length<N): ∀(m n i:Nat),l.length-i≤m→m<n→i≤l.length→
  gq.l3 N n l (gz l i) (i:Int)=some (lz l)
 |m,0,i,_,hn,_=>ω
 |m,n+1,i,hm,hn,hi=>by
  unfold gq.l3 gq.nY
  by_cases h:i<l.length
  ·have:=KU N (gq.l3 N n) hl i h i N 0 ω ω ω (λj hj=>ω)
   rw[aQ ω,aj]
   refine Eq.trans this ?_
   exact H4 N hl hN (m-1) n (i+1) ω ω ω
  ·rw[aO ω,av,show i=l.length by omega];rfl
theorem WR{l:List Int}(hl:l.length≤100000)(hN:l.length<N):gq N l=some (lz l):=by
 unfold gq gq.b
 exact H4 N hl hN l.length N 0 ω ω ω
def KV(l:List Int):Prop:= ∀x∈l,-9223372036854775808≤x∧x<9223372036854775808
def Pos(l:List Int):Prop:= ∀x∈l,0≤x
def may(w:List Int):Bool:=decide (w.length≤64)&&w.all (λx=>decide (0≤x))
theorem pP{w:List Int}:may w=true↔w.length≤64∧Pos w:=by
 unfold may Pos;rw[bQ,fV,pF]
 simp only[fV]
theorem H5(N:Nat){l:List Int}(hl:l.length≤1000000): ∀(m n i:Nat),l.length-i≤m→m<n→i≤l.length→ ∃r,qJ.l4 N n l (i:Int)=some r∧(r=true↔ ∃x∈l.drop i,x<0)
 |m,0,i,_,hn,_=>ω
 |m,n+1,i,hm,hn,hi=>by
  unfold qJ.l4 qJ.dM
  by_cases h:i<l.length
  ·have hd:l.drop i=l.getD i 0::l.drop (i+1):=by
    rw[qW h,aW,bm h];rfl
   rw[aQ ω,aj,aU ω ω,aj,aG,hd]
   by_cases hx:l.getD i 0<0
   ·rw[aQ hx,aj]
    exact⟨_,rfl,λ_=>⟨_,bu ..,hx⟩,λ_=>rfl⟩
   ·rw[aO ω,av,aw ω ω]
    obtain⟨r,e,h1⟩:=H5 N hl (m-1) n (i+1) ω ω ω
    refine⟨r,e,h1.trans ⟨λ⟨x,R6,Yu⟩=>⟨x,ba _ R6,Yu⟩,λ⟨x,R6,Yu⟩=> ?_⟩⟩
    rcases bh.1 R6 with rfl|R6
    ·exact absurd Yu hx
    ·exact⟨x,R6,Yu⟩
  ·rw[aO ω,av,xe ω]
   exact⟨_,rfl,(λh=>nomatch h),λ⟨x,hx,_⟩=>nomatch hx⟩
theorem H6{w:List Int}(hN:100≤N)(t:Int):qJ N t w=some (decide (t<0)|| !may w):=by
 unfold qJ qJ.b
 by_cases ht:t<0
 ·rw[aQ ht,aj,aV ht];rfl
 rw[aO ω,av,bw ht,pX]
 by_cases h:w.length≤64
 ·rw[aO ω,av]
  obtain⟨r,e,hr⟩:=H5 N (l:=w) ω w.length N 0 ω ω ω
  rw[cM]at hr
  rw[show((0:Nat):Int)=0 from rfl]at e
  rw[e]
  congr 1
  rw[pV,hr,rQ,xj,Ne,pP]
  constructor
  ·rintro⟨x,hx,YS⟩ h;have:=h.2 x hx;omega
  ·intro h1
   by_cases h2: ∃x∈w,x<0
   ·exact h2
   ·exact absurd ⟨h,λx hx=>by
     by_cases YS:x<0
     ·exact absurd ⟨x,hx,YS⟩ h2
     ·omega⟩ h1
 ·rw[aQ ω,aj]
  have:may w=false:=by
   rw[xj];intro hm;exact h (pP.1 hm).1
  rw[this];rfl
def bump(q:List Int):List Int→List Int
 |[]=>q
 |k::t=>bump (q.set k.toNat (q.getD k.toNat 0+1)) t
def ti(t S:Int)(w:List Int):List Int:=w.map λx=>t*x/S
def mq(t S:Int)(w:List Int):List Int:=w.map λx=>t*x%S
def cv(t:Int)(w:List Int):List Int:=
 bump (ti t w.sum w) ((lz (mq t w.sum w)).take (t-(ti t w.sum w).sum).toNat)
def sI(t:Int)(w:List Int):List Int×Int:=
 if t<0∨may w=false then([],1)else if 9223372036854775808≤w.sum then([],2)
 else if w.sum=0 then(if t=0 then(List.replicate w.length 0,0)else([],1))else(cv t w,0)
theorem PK: ∀(ks q:List Int),(bump q ks).length=q.length
 |[],q=>rfl
 |k::t,q=>by unfold bump;rw[PK t];simp
theorem MG: ∀(q:List Int) (k:Nat) (x:Int),k<q.length→(q.set k x).sum=q.sum-q.getD k 0+x
 |[],k,x,h=>absurd h (by simp)
 |a::q,0,x,h=>by simp;omega
 |a::q,k+1,x,h=>by
  have:=MG q k x (by simpa using h)
  simp[this];omega
theorem kK: ∀{q:List Int},Pos q→0≤q.sum
 |[],_=>by simp
 |a::q,h=>by
  have:=kK (q:=q) (λx hx=>h x (ba _ hx))
  have:=h a (bu ..)
  rw[cN];omega
theorem Ap: ∀{q:List Int},Pos q→ ∀i,q.getD i 0≤q.sum
 |[],_,i=>by simp
 |a::q,h,0=>by
  have:=kK (q:=q) (λx hx=>h x (ba _ hx))
  rw[cN];simp;omega
 |a::q,h,i+1=>by
  have:=Ap (q:=q) (λx hx=>h x (ba _ hx)) i
  have:=h a (bu ..)
  rw[cN];simp;simp at*;omega
theorem iO{q:List Int}(h:Pos q)(i:Nat):0≤q.getD i 0:=by
 by_cases hi:i<q.length
 ·exact h _ (HZ hi)
 ·rw[vQ q ω];omega
theorem adi{q:List Int}(h:Pos q){x:Int}(hx:0≤x)(k:Nat):Pos (q.set k x):=λy hy=>by
 rcases vq hy with hy|rfl
 ·exact h y hy
 ·exact hx
theorem PL{q:List Int}(h:Pos q)(n:Nat):Pos (q.take n):=λx hx=>h x (lI hx)
theorem PM: ∀(ks q:List Int),(∀k∈ks,0≤k∧k<q.length)→(bump q ks).sum=q.sum+ks.length
 |[],q,_=>by simp[bump]
 |k::t,q,h=>by
  have hk:=h k (bu ..)
  unfold bump
  rw[PM t _ (λx hx=>by rw[bU];exact h x (ba _ hx)),MG q _ _ ω,aT];omega
theorem yh(t S:Int)(w:List Int):(ti t S w).length=w.length:=by unfold ti;rw[cB]
theorem qi(t S:Int)(w:List Int):(mq t S w).length=w.length:=by unfold mq;rw[cB]
theorem UX{t S:Int}{w:List Int}(i:Nat):(ti t S w).getD i 0=t*w.getD i 0/S:=by
 unfold ti
 by_cases h:i<w.length
 ·rw[aW,ob,bm h,aW,bm h];rfl
 ·rw[vQ _ (by rw[cB];omega),vQ w ω];simp
theorem UY{t S:Int}{w:List Int}(i:Nat):(mq t S w).getD i 0=t*w.getD i 0%S:=by
 unfold mq
 by_cases h:i<w.length
 ·rw[aW,ob,bm h,aW,bm h];rfl
 ·rw[vQ _ (by rw[cB];omega),vQ w ω];simp
theorem H7{t S:Int}{w:List Int}(ht:0≤t)(hS:0≤S)(hw:Pos w):Pos (ti t S w):=λx hx=>by
 obtain⟨y,hy,rfl⟩:=cY.1 hx
 exact uC (uF ht (hw y hy)) hS
theorem PN{t S:Int}{w:List Int}(hS:0<S):Pos (mq t S w):=λx hx=>by
 obtain⟨y,hy,rfl⟩:=cY.1 hx
 exact Gx _ ω
theorem MH(t S:Int): ∀w:List Int,S*(ti t S w).sum+(mq t S w).sum=t*w.sum
 |[]=>by simp[ti,mq]
 |x::w=>by
  have h:=MH t S w
  have e:=N3 (t*x) S
  unfold ti mq at*
  simp only[ca,cN,mC]
  omega
theorem ZX{t S:Int}{w:List Int}(ht:0≤t)(hS:0<S)(h:w.sum≤S):(ti t S w).sum≤t:=by
 have e:=MH t S w
 have h1:=kK (PN (t:=t) (w:=w) hS)
 have h2:=yJ h ht
 have h3:S*(ti t S w).sum≤S*t:=by rw[jm S t];omega
 exact NT h3 hS
theorem Ez{w:List Int}(h:Pos w)(i:Nat):(w.take i).sum≤w.sum:=by
 have e:w.take i++w.drop i=w:=gT i w
 have h1:(w.take i).sum+(w.drop i).sum=w.sum:=by rw[←oa,e]
 have:=kK (q:=w.drop i) (λx hx=>h x (mV hx))
 omega
theorem KW(t S:Int)(w:List Int)(i:Nat):(ti t S w).take i=ti t S (w.take i):=by unfold ti;rw[List.map_take]
theorem H8(N:Nat){ks:List Int}(hl:ks.length≤1000000)(L:Nat)(hk: ∀k∈ks,0≤k∧k<L): ∀(m n i left:Nat) (q:List Int),ks.length-i≤m→m<n→i≤ks.length→q.length=L→Pos q→left≤9223372036854775807→q.sum+left≤9223372036854775807→
  gC.yd N n q (left:Int) ks (i:Int)=some (bump q ((ks.drop i).take left),0)
 |m,0,i,left,q,_,hn,_,_,_,_,_=>ω
 |m,n+1,i,left,q,hm,hn,hi,hq,hp,hle,hs=>by
  unfold gC.yd gC.wY
  by_cases h:i<ks.length
  ·have hd:ks.drop i=ks.getD i 0::ks.drop (i+1):=by
    rw[qW h,aW,bm h];rfl
   have Hb:=hk _ (HZ h)
   rw[aQ ω,aj]
   match left,hle,hs with
   |0,hle,hs=>rw[aO ω,av,mA];rfl
   |left+1,hle,hs=>
    rw[aQ ω,aj,aU ω ω,aj,aG,aU ω ω,aj,aj,hd]
    have h1:=Ap hp (ks.getD i 0).toNat
    have h2:=iO hp (ks.getD i 0).toNat
    rw[aw (x:=q.getD _ 0+1) ω ω,aw (x:=(i:Int)+1) ω ω,aw ω ω,show((left+1:Nat):Int)-1=(left:Int)by omega]
    refine(H8 N hl L hk (m-1) n (i+1) left _ ω ω ω (by rw[bU];exact hq) (adi hp ω _) ω ?_).trans rfl
    rw[MG q _ _ ω];omega
  ·rw[aO ω,av,xe ω,List.take_nil];rfl
theorem H9(l:List Int): ∀k∈lz l,0≤k∧k<l.length:=λk hk=>(tR l).1 hk
theorem take_set(l:List Int){i:Nat}(x:Int)(h:i<l.length):(l.set i x).take (i+1)=l.take i++[x]:=by
 rw[iV (l.set i x) (by rw[bU];exact h),nH l x h,List.take_set_of_le ω]
theorem MI{v:Int}(h0: -9223372036854775808≤v)(h1:v<9223372036854775808):C0 v=(v,true):=by unfold C0;rw[ak ⟨h0,h1⟩]
end VM
end
