/- A part of the proof of BookDrawn of layer 18: what the functions compute, in plain words. -/
import Derived.Test.YtecmobijochjkaaGreatPlain2
import Derived.Test.YtecmobijochjkaaGreatVm7
import Derived.Test.YtecmobijochjkaaGreatPlain0
set_option linter.all false
section
namespace VM
open Go VM.F
theorem Ps(N:Nat)(hN:2000000≤N){b:an}{s e:au}(w:jC b)(hr:fb b.2.2.1=true)(hs:di b.2.2.2.1=true)(lr:b.2.2.1.length≤90000)(ls:b.2.2.2.1.length≤90000)(gs:Pk s)(ge:Pn e):
  F68 N b s (e.map ig)=some (dD b s e):=by
 unfold F68 dD
 rw[Pr N w,ar,adi N hN hs ls w.qs gs,ZL N hN hr lr w.qr ge,WM hs gs.place,ZM hr ge.key]
 unfold wi
 rw[ar,ar]
 have e1:aN 2 0=false:=eN ω
 have e2:aN 0 0=true:=ec rfl
 cases eG Fq (fS b.2.2.2.1 s) jW with
 |none=>dsimp only;rw[e1];rfl
 |some s'=>
  cases eG aF (fS b.2.2.1 e) nL with
  |none=>dsimp only;rw[e1,e2];rfl
  |some r'=>dsimp only;rw[e2];rfl
theorem UQ(N:Nat)(hN:4000000≤N){b:an}{s e:au}(w:jC b)(hr:fb b.2.2.1=true)(hs:di b.2.2.2.1=true)(lr:b.2.2.1.length≤90000)(ls:b.2.2.2.1.length≤90000)(gs:Pk s)(ge:Pn e):
  zB N b s (e.map ga)=some (dD b s e):=by
 have h1:=gs.len
 have h2:=ge.len
 unfold zB dD
 rw[HJ N hN hs ls w.qs (λx hx=>(gs.q x hx).1) ω,UP N hN hr lr w.qr ge.q ω]
 unfold w9
 rw[ar,ar]
 cases eG Fq (fS b.2.2.2.1 s) jW with
 |none=>rfl
 |some s'=>
  cases eG aF (fS b.2.2.1 e) nL with
  |none=>rfl
  |some r'=>rfl
theorem UR(N:Nat)(C:fc.bN){l:aO}(hl:l.length≤100000)(i:Nat)(hi:i<l.length): ∀(m n k:Nat),i-k≤m→m<n→k≤i→(l.take k).any (sP (l.getD i ba).2.2.1 (l.getD i ba).2.1)=false→
  fc.l9 N C n l (i:Int) (k:Int)=cond ((l.take i).any (sP (l.getD i ba).2.2.1 (l.getD i ba).2.1)) (some false) (C l ((i+1:Nat):Int))
 |m,0,k,_,hn,_,_=>ω
 |m,n+1,k,hm,hn,hk,hb=>by
  unfold fc.l9 fc.vd
  by_cases h:k<i
  ·have BT:=UR N C hl i hi (m-1) n (k+1) ω ω ω
   have ht:(l.take (k+1)).any (sP (l.getD i ba).2.2.1 (l.getD i ba).2.1)=sP (l.getD i ba).2.2.1 (l.getD i ba).2.1 (l.getD k ba):=by
    have ek:l.getD k ba=l[k]' ω:=by rw[aW,bl (show k<l.length by omega)];rfl
    rw[←tK (show k<l.length by omega),List.any_append,hb,ek,A4,List.any_nil,sl,p7]
   have kg:sP (l.getD i ba).2.2.1 (l.getD i ba).2.1 (l.getD k ba)=true→(l.take i).any (sP (l.getD i ba).2.2.1 (l.getD i ba).2.1)=true:=λhh=>by
    refine A0.2 ⟨l.getD k ba,?_,hh⟩
    rw[aW,bl (show k<l.length by omega)]
    exact List.mem_take_iff_getElem.2 ⟨k,ω,rfl⟩
   rw[aQ ω,aj,aU ω ω,aj,aU ω ω,aj,aj,aj,aG,aG,aI,aI,aw (x:=(k:Int)+1) ω ω,af k]
   by_cases h1:(l.getD k ba).2.2.1=(l.getD i ba).2.2.1
   ·by_cases h2:(l.getD k ba).2.1=(l.getD i ba).2.1
    ·rw[ak h1,ak h2,kg (by unfold sP dI;rw[aV h1,aV h2];rfl)];rfl
    ·rw[ak h1,ah h2]
     exact BT (by rw[ht];unfold sP dI;rw[bu h2,Gn])
   ·rw[ah h1]
    exact BT (by rw[ht];unfold sP dI;rw[bu h1,uR])
  ·have:k=i:=ω
   subst this
   rw[aP ω,av,hb,av,aw (x:=(k:Int)+1) ω ω,af k]
theorem vj(N:Nat){l:aO}(hl:l.length≤100000)(hN:200000≤N):fc N l=some (ZE l):=by
 unfold fc fc.b ZE
 by_cases h40:l.length≤40
 ·rw[aP ω,av,aV h40]
  refine iB (F:=λn i=>fc.l4 N n l i) (B2 l) (λn i r hi hp hr=> ?_) (λn=> ?_) N ω
  ·unfold fc.l4 fc.dL fc.j8 fc.ZO
   have kg:fc.l9 N (fc.l4 N n) N l (i:Int) 0=_:=UR N (fc.l4 N n) hl i hi i N 0 ω ω ω rfl
   rw[aQ ω,aj,aU ω ω,aj,aj,aG,UI,ar,cond_not,fW,kg,hr]
   have hT:cond ((l.take i).any (sP (l.getD i ba).2.2.1 (l.getD i ba).2.1)) (some false) r=if(l.take i).any (sP (l.getD i ba).2.2.1 (l.getD i ba).2.1)=false then r else some false:=by
    cases(l.take i).any (sP (l.getD i ba).2.2.1 (l.getD i ba).2.1)<;>rfl
   rw[hT]
   by_cases hK:Kw (l.getD i ba)
   ·rw[ak hK]
    have hD:(if B2 l i then r else some false)=if ve i (l.getD (i-1) ba).1 (l.getD i ba).1 then(if(l.take i).any (sP (l.getD i ba).2.2.1 (l.getD i ba).2.1)=false then r else some false)else some false:=by
     by_cases h1:ve i (l.getD (i-1) ba).1 (l.getD i ba).1<;>by_cases h2:(l.take i).any (sP (l.getD i ba).2.2.1 (l.getD i ba).2.1)=false
     ·rw[ak h1,ak h2,ak ⟨hK,h1,h2⟩]
     ·rw[ak h1,ah h2,ah (λh=>h2 h.2.2)]
     ·rw[ah h1,ah (λh=>h1 h.2.1)]
     ·rw[ah h1,ah (λh=>h1 h.2.1)]
    rw[hD]
    by_cases h0:0<i
    ·have e:W .i64 ((i:Int)-1)=((i-1:Nat):Int):=by rw[aw ω ω];omega
     rw[aQ (x:=0) (y:=(i:Int)) ω,aj,e]
     dsimp only
     rw[aG,aU ω ω,aj,ct]
     by_cases h1:ve i (l.getD (i-1) ba).1 (l.getD i ba).1
     ·rw[ak h1,ah (by unfold ve at h1;omega)]
     ·rw[ah h1,ak (by unfold ve at h1;omega)]
    ·rw[aP (x:=0) (y:=(i:Int)) ω,av,ak (show ve i (l.getD (i-1) ba).1 (l.getD i ba).1 from λh=>absurd h h0)]
   ·rw[ah hK,ah (λh=>hK h.1)]
  ·unfold fc.l4 fc.dL
   rw[aP ω,av]
 ·rw[aQ ω,aj,bu h40,Gn]
def wu(s w p:Int):Prop:=((s=1∨s=3)∧w=0∧p=0)∨(s=2∧1≤w∧w≤12∧ -1152921504606846976≤p∧p≤1152921504606846976)
instance(s w p:Int):Decidable (wu s w p):=by unfold wu;infer_instance
def HL(a:Int):Prop:=1≤a∧a≤1099511627776
instance(a:Int):Decidable (HL a):=by unfold HL;infer_instance
def ZP(a b:Int):Prop:=a≤b
instance(a b:Int):Decidable (ZP a b):=by unfold ZP;infer_instance
def FQ(c:ae)(l:bJ)(i:Nat):Prop:=
 HL (l.getD i ((0:Int),(ch,ba))).1∧ve i (l.getD (i-1) ((0:Int),(ch,ba))).1 (l.getD i ((0:Int),(ch,ba))).1∧ ¬dI ((l.getD i ((0:Int),(ch,ba))).2.1.length:Int) 0∧mj c (l.getD i ((0:Int),(ch,ba))).2.1=true∧ZP (l.getD i ((0:Int),(ch,ba))).2.2.1 0∧wu (l.getD i ((0:Int),(ch,ba))).2.2.2.1 (l.getD i ((0:Int),(ch,ba))).2.2.2.2.1 (l.getD i ((0:Int),(ch,ba))).2.2.2.2.2.1
instance(c:ae)(l:bJ):DecidablePred (FQ c l):=λi=>by unfold FQ;infer_instance
def Dc(c:ae)(l:bJ):Bool:=eL c&&(decide (l.length≤12)&&(decide (∀j,j<l.length→FQ c l j)&&true))
def KH(l:bJ):Prop:= ∀x∈l,x.2.1.length≤100000
theorem SX{l:bJ}(h:KH l)(i:Nat):(l.getD i ((0:Int),(ch,ba))).2.1.length≤100000:=by
 by_cases hi:i<l.length
 ·rw[aW,bl hi];exact h _ (dF hi)
 ·rw[aW,il ω];exact bw _
theorem adm(s w p:Int)(r:Option Bool):
  cond (aN s 1) (cond (!aN w 0) (some false) (cond (!aN p 0) (some false) r)) (cond (aN s 3) (cond (!aN w 0) (some false) (cond (!aN p 0) (some false) r)) (cond (aN s 2) (cond (aX w 1) (some false) (cond (aX 12 w) (some false) (cond (aX p (-1152921504606846976)) (some false) (cond (aX 1152921504606846976 p) (some false) r)))) (some false)))=
   if wu s w p then r else some false:=by
 simp only[cond_not,aI,bZ]
 by_cases h:wu s w p
 ·rw[ak h];unfold wu at h
  repeat' split
  all_goals first|rfl|omega
 ·rw[ah h];unfold wu at h
  repeat' split
  all_goals first|rfl|omega
theorem WT{A B C D E F:Prop} [Decidable A] [Decidable B] [Decidable C] [Decidable D] [Decidable E] [Decidable F](r:Option Bool):
  (if A then(if B then(if C then(if D then(if E then(if F then r else some false)else some false)else some false)else some false)else some false)else some false)=if A∧B∧C∧D∧E∧F then r else some false:=by
 by_cases hA:A<;>by_cases hB:B<;>by_cases hC:C<;>by_cases hD:D<;>by_cases hE:E<;>by_cases hF:F<;>simp only[hA,hB,hC,hD,hE,hF,g9,fE,and_self,fD,and_false,false_and,true_and]
theorem ZQ{a b n f s w p:Int}{i:Nat}{o:Bool}{r:Option Bool}:
  cond (aX a 1) (some false) (cond (aX 1099511627776 a) (some false) (if ve i b a then(cond (aN n 0) (some false) (cond (!o) (some false) (cond (aX 0 f) (some false) (if wu s w p then r else some false))))else some false))=
   if HL a∧ve i b a∧ ¬dI n 0∧o=true∧ZP f 0∧wu s w p then r else some false:=by
 rw[←WT]
 simp only[cond_not,aI,bZ]
 by_cases h1:HL a
 ·have ru:=h1
  unfold HL at ru
  rw[ak h1,ah ω,ah ω]
  by_cases h2:ve i b a
  ·rw[ak h2,ak h2]
   by_cases h3:n=0
   ·rw[ak h3,ah (show ¬ ¬dI n 0 from λh=>h h3)]
   ·rw[ah h3,ak (show ¬dI n 0 from h3)]
    cases o
    ·rfl
    ·rw[aj,ak rfl]
     by_cases h4:f≤0
     ·rw[ak (show ZP f 0 from h4),ah ω]
     ·rw[ah (show ¬ZP f 0 from h4),ak ω]
  ·rw[ah h2,ah h2]
 ·have ru:=h1
  unfold HL at ru
  rw[ah h1]
  by_cases h2:a<1
  ·rw[ak h2]
  ·rw[ah h2,ak ω]
theorem ZR{i:Nat}{a b:Int}{r:Option Bool}(h0:0<i):cond (dx a b) (some false) r=if ve i b a then r else some false:=by
 rw[ct]
 by_cases h1:ve i b a
 ·rw[ak h1,ah (by unfold ve at h1;omega)]
 ·rw[ah h1,ak (by unfold ve at h1;omega)]
theorem Ca(N:Nat)(hN:200000≤N)(c:ae){l:bJ}(hl:l.length≤100000)(hw:KH l):jJ N c l=some (Dc c l):=by
 unfold jJ jJ.b Dc
 rw[mL N ω,ar]
 cases eL c
 ·rfl
 rw[bg,av,kU]
 by_cases h12:l.length≤12
 ·rw[aP ω,av,aV h12,kU]
  refine iB (F:=λn i=>jJ.l4 N n l c i) (FQ c l) (λn i r hi hp hr=> ?_) (λn=> ?_) N ω
  ·unfold jJ.l4 jJ.dL jJ.j9 jJ.JF
   rw[aQ ω,aj,aU ω ω,aj,aG,vh N hN c (SX hw i),ar,aw (x:=(i:Int)+1) ω ω,af i,hr,adm]
   refine Eq.trans ?_ ZQ
   by_cases h0:0<i
   ·have e:W .i64 ((i:Int)-1)=((i-1:Nat):Int):=by rw[aw ω ω];omega
    rw[aQ (x:=0) (y:=(i:Int)) ω,aj,e]
    dsimp only
    rw[aG,aU ω ω,aj,ZR h0]
   ·rw[aP (x:=0) (y:=(i:Int)) ω,av,ak (show ve i (l.getD (i-1) ((0:Int),(ch,ba))).1 (l.getD i ((0:Int),(ch,ba))).1 from λh=>absurd h h0)]
  ·unfold jJ.l4 jJ.dL
   rw[aP ω,av]
 ·rw[aQ ω,aj,bu h12,uR]
abbrev AwS:=au×au×bJ
structure ajk(z:AwS)(i:Nat):Prop where
 place: ∀x∈z.1,cc x.1 x.2.1
 q: ∀x∈z.1,aF (dT x)∧rA (dT x)
 len:z.1.length≤12*i
 flat: ∀a:Int,(dm a z.1).sum=0
 key: ∀x∈z.2.1,db x.1 x.2.1
 qe: ∀x∈z.2.1,aF (dT x)
 aD6:z.2.1.length≤2*i
 zero:(z.2.1.map dT).sum=0
 out:z.2.2.length=i
theorem JQ(a:Int)(l m:au):dm a (l++m)=dm a l++dm a m:=by
 induction l with
 |nil=>rfl
 |cons x t ih=>
  rw[m0,dA,dA,ih]
  split<;>rfl
theorem alk{v:Int}(h:aF v∧rA v):aF (0-v)∧rA (0-v):=by
 unfold aF rA at*;omega
theorem ajk.nil:ajk ([],[],[]) 0:=⟨λx hx=>(nomatch hx),λx hx=>(nomatch hx),aH _,λa=>rfl,λx hx=>(nomatch hx),λx hx=>(nomatch hx),aH _,rfl,rfl⟩
theorem eg{c:ae}{b:an}(h:de c b=true):fb b.2.2.1=true∧di b.2.2.2.1=true:=by
 unfold de at h
 have h1:=(dd.1 (dd.1 h).2).2
 have h2:=dd.1 h1
 have h3:=(dd.1 (dd.1 h2.2).2).1
 refine⟨h2.1,?_⟩
 unfold ox at h3
 exact(dd.1 h3).2
structure oF(b:an):Prop where
 w:jC b
 r:b.2.2.1.length≤90000
 s:b.2.2.2.1.length≤90000
end VM
end
section
namespace VM
open Go VM.F
theorem df(x:Int):aN x x=true:=ec rfl
theorem ZS(x:BV):pb (.pair (.int .i64) (.pair (.int .i64) .unit)) x x=true:=by
 show(aN x.1 x.1&&(aN x.2.1 x.2.1&&true))=true
 rw[df,df];rfl
theorem SY(x:dh):pb (.pair (.int .i64) (.pair (.int .i64) (.pair (.int .i64) .unit))) x x=true:=by
 show(aN x.1 x.1&&pb (.pair (.int .i64) (.pair (.int .i64) .unit)) x.2 x.2)=true
 rw[df,ZS];rfl
theorem ZT(x:cL):pb (.pair (.int .i64) (.pair (.int .i64) (.pair (.int .i64) (.pair (.int .i64) .unit)))) x x=true:=by
 show(aN x.1 x.1&&pb (.pair (.int .i64) (.pair (.int .i64) (.pair (.int .i64) .unit))) x.2 x.2)=true
 rw[df,SY];rfl
theorem alm(x:fX):pb (.pair (.int .i64) (.pair (.int .i64) (.pair (.int .i64) (.pair (.int .i64) (.pair (.int .i64) (.pair (.int .i64) .unit)))))) x x=true:=by
 show(aN x.1 x.1&&(aN x.2.1 x.2.1&&pb (.pair (.int .i64) (.pair (.int .i64) (.pair (.int .i64) (.pair (.int .i64) .unit)))) x.2.2 x.2.2))=true
 rw[df,df,ZT];rfl
theorem nM{F:Nat→Int→Option Bool}{len:Nat}(hs: ∀n (i:Nat),i<len→F n ((i+1:Nat):Int)=some true→F (n+1) (i:Int)=some true)(he: ∀n,F (n+1) (len:Int)=some true): ∀(m n i:Nat),len-i≤m→m<n→i≤len→F n (i:Int)=some true
 |m,0,i,_,hn,_=>ω
 |m,n+1,i,hm,hn,hi=>by
  by_cases h:i<len
  ·exact hs n i h (nM hs he (m-1) n (i+1) ω ω ω)
  ·have:i=len:=ω
   subst this;exact he n
theorem Pu(N:Nat){l:aE}(hl:l.length≤100000)(hN:200000≤N):Fb N l l=some true:=by
 unfold Fb Fb.b
 rw[df,bg,av]
 refine nM (F:=λn i=>Fb.l4 N n l l i) (len:=l.length) (λn i hi hr=> ?_) (λn=> ?_) l.length N 0 ω ω ω
 ·unfold Fb.l4 Fb.dL
  rw[aQ ω,aj,aU ω ω,aj,aj,ZS,bg,av,aw (x:=(i:Int)+1) ω ω,af i]
  exact hr
 ·unfold Fb.l4 Fb.dL
  rw[aP ω,av]
theorem ZU(N:Nat){l:aO}(hl:l.length≤100000)(hN:200000≤N):Fc N l l=some true:=by
 unfold Fc Fc.b
 rw[df,bg,av]
 refine nM (F:=λn i=>Fc.l4 N n l l i) (len:=l.length) (λn i hi hr=> ?_) (λn=> ?_) l.length N 0 ω ω ω
 ·unfold Fc.l4 Fc.dL
  rw[aQ ω,aj,aU ω ω,aj,aj,ZT,bg,av,aw (x:=(i:Int)+1) ω ω,af i]
  exact hr
 ·unfold Fc.l4 Fc.dL
  rw[aP ω,av]
theorem Pv(N:Nat){l:au}(hl:l.length≤100000)(hN:200000≤N):Dd N l l=some true:=by
 unfold Dd Dd.b
 rw[df,bg,av]
 refine nM (F:=λn i=>Dd.l4 N n l l i) (len:=l.length) (λn i hi hr=> ?_) (λn=> ?_) l.length N 0 ω ω ω
 ·unfold Dd.l4 Dd.dL
  rw[aQ ω,aj,aU ω ω,aj,aj,SY,bg,av,aw (x:=(i:Int)+1) ω ω,af i]
  exact hr
 ·unfold Dd.l4 Dd.dL
  rw[aP ω,av]
theorem WU(N:Nat){l:au}(hl:l.length≤100000)(hN:200000≤N):Fe N l l=some true:=by
 unfold Fe Fe.b
 rw[df,bg,av]
 refine nM (F:=λn i=>Fe.l4 N n l l i) (len:=l.length) (λn i hi hr=> ?_) (λn=> ?_) l.length N 0 ω ω ω
 ·unfold Fe.l4 Fe.dL
  rw[aQ ω,aj,aU ω ω,aj,aj,SY,bg,av,aw (x:=(i:Int)+1) ω ω,af i]
  exact hr
 ·unfold Fe.l4 Fe.dL
  rw[aP ω,av]
theorem SZ(N:Nat){l:aY}(hl:l.length≤100000)(hN:200000≤N):Ff N l l=some true:=by
 unfold Ff Ff.b
 rw[df,bg,av]
 refine nM (F:=λn i=>Ff.l4 N n l l i) (len:=l.length) (λn i hi hr=> ?_) (λn=> ?_) l.length N 0 ω ω ω
 ·unfold Ff.l4 Ff.dL
  rw[aQ ω,aj,aU ω ω,aj,aj,alm,bg,av,aw (x:=(i:Int)+1) ω ω,af i]
  exact hr
 ·unfold Ff.l4 Ff.dL
  rw[aP ω,av]
theorem Pw(N:Nat){l:List (Int)}(hl:l.length≤100000)(hN:200000≤N):De N l l=some true:=by
 unfold De De.b
 rw[df,bg,av]
 refine nM (F:=λn i=>De.l4 N n l l i) (len:=l.length) (λn i hi hr=> ?_) (λn=> ?_) l.length N 0 ω ω ω
 ·unfold De.l4 De.dL
  rw[aQ ω,aj,aU ω ω,aj,aj,df,bg,av,aw (x:=(i:Int)+1) ω ω,af i]
  exact hr
 ·unfold De.l4 De.dL
  rw[aP ω,av]
theorem HM(N:Nat)(hN:200000≤N){b:an}(h1:b.1.length≤100000)(h2:b.2.1.length≤100000)(h3:b.2.2.1.length≤100000)(h4:b.2.2.2.1.length≤100000)(h5:b.2.2.2.2.1.length≤100000)(h6:b.2.2.2.2.2.1.length≤100000):F35 N b b=some true:=by
 unfold F35
 rw[Pu N h1 hN,ar,aj,ZU N h2 hN,ar,aj,Pv N h3 hN,ar,aj,WU N h4 hN,ar,aj,Pw N h5 hN,ar,aj,SZ N h6 hN,ar]
theorem HN{P:Int→Prop} [DecidablePred P]{f:Int→Int→Int}: ∀{K:List dq} {o:au},eG P f K=some o→o.length≤K.length
 |[],o,h=>by
  have:some []=some o:=h
  rw[←oa this];exact aH _
 |k::t,o,h=>by
  rw[lV]at h
  by_cases hP:P (f k.1 k.2)
  ·rw[ak hP]at h
   cases hc:eG P f t with
   |none=>rw[hc]at h;exact absurd h (by simp)
   |some r=>
    have ih:=HN hc
    rw[hc]at h
    have h':=oa h
    rw[←h',aT]
    dsimp only
    split
    ·omega
    ·rw[aT];omega
  ·rw[ah hP]at h;exact absurd h (by simp)
theorem S1:jW.length=150:=by decide+kernel
theorem WV:nL.length=175:=by decide+kernel
structure Px(b:an):Prop where
 m:b.1.length≤100000
 a:b.2.1.length≤100000
 r:b.2.2.1.length≤100000
 s:b.2.2.2.1.length≤100000
 p:b.2.2.2.2.1.length≤100000
 o:b.2.2.2.2.2.1.length≤100000
theorem vk:Px (([]:aE),(([]:aO),(([]:au),(([]:au),(([]:List Int),(([]:aY),())))))):=⟨bw _,bw _,bw _,bw _,bw _,bw _⟩
theorem Ek{b:an}(w:jC b)(s e:au):Px (dD b s e).1:=by
 unfold dD
 cases h1:eG Fq (fS b.2.2.2.1 s) jW with
 |none=>exact vk
 |some s'=>
  cases h2:eG aF (fS b.2.2.1 e) nL with
  |none=>exact vk
  |some r'=>
   have g1:=HN h1
   have g2:=HN h2
   rw[S1]at g1
   rw[WV]at g2
   exact⟨w.m,w.a,by show r'.length≤_;omega,by show s'.length≤_;omega,w.p,w.o⟩
end VM
end
section
namespace VM
open Go VM.F Go.RowKit
def iv(a b:Int):au→Int
 |[]=>0
 |x::t=>if x.1=a then(if x.2.1=b then x.2.2.1 else iv a b t)else iv a b t
theorem jX(a b:Int)(x:dh)(t:au):iv a b (x::t)=if x.1=a then(if x.2.1=b then x.2.2.1 else iv a b t)else iv a b t:=rfl
def gh(l:au)(a b:Int):Int:=if di l then iv a b l else 0
def tZ(l:au)(a b:Int):Int:=if fb l then iv a b l else 0
theorem FR(N:Nat){l:au}(hl:l.length≤100000)(hN:200000≤N)(a b:Int):CE N l a b=some (gh l a b):=by
 unfold CE CE.b gh
 rw[lT N hl hN,ar,cond_not]
 have:=Ee l bb (λn i=>CE.l4 N n l a b i) (λt=>some (iv a b t)) (λn i hi hr=> ?_) (λn=> ?_) N ω
 ·rw[this];cases di l<;>rfl
 ·unfold CE.l4 CE.dL
  rw[aQ ω,aj,aU ω ω,aj,aj,aj,aG,aw (x:=(i:Int)+1) ω ω,af i,hr,aI,aI,jX]
  split
  ·split<;>rfl
  ·rfl
 ·unfold CE.l4 CE.dL
  rw[aP ω,av];rfl
theorem Mp(N:Nat){l:au}(hl:l.length≤100000)(hN:200000≤N)(a b:Int):vy N l a b=some (tZ l a b):=by
 unfold vy vy.b tZ
 rw[Hy N hl hN,ar,cond_not]
 have:=Ee l bb (λn i=>vy.l4 N n l a b i) (λt=>some (iv a b t)) (λn i hi hr=> ?_) (λn=> ?_) N ω
 ·rw[this];cases fb l<;>rfl
 ·unfold vy.l4 vy.dL
  rw[aQ ω,aj,aU ω ω,aj,aj,aj,aG,aw (x:=(i:Int)+1) ω ω,af i,hr,aI,aI,jX]
  split
  ·split<;>rfl
  ·rfl
 ·unfold vy.l4 vy.dL
  rw[aP ω,av];rfl
theorem Cb{l:au}(h: ∀i,i<l.length→aF (dT (l.getD i bb))):eO l:=λx hx=>by
 obtain⟨i,hi,e⟩:=gJ hx
 have:=h i hi
 rw[aW,bl hi]at this
 rw[←e];exact this
namespace Pure
end Pure
end VM
end
section
namespace VM
open Go VM.F
theorem HO{l:au}(h:eO l)(a b:Int):aF (iv a b l):=by
 induction l with
 |nil=>show aF 0;decide
 |cons x t ih=>
  have ih:=ih (λy hy=>h y (a8 _ hy))
  rw[jX]
  split
  ·split
   ·exact h x (bt ..)
   ·exact ih
  ·exact ih
theorem ZV{l:au}(h:eO l)(a b:Int):aF (tZ l a b):=by
 unfold tZ
 split
 ·exact HO h a b
 ·exact⟨δ,δ⟩
def nu(a:Int):au→aE
 |[]=>[]
 |x::t=>if x.1=a then(x.2.1,(x.2.2.1,()))::nu a t else nu a t
theorem qn(a:Int)(x:dh)(t:au):nu a (x::t)=if x.1=a then(x.2.1,(x.2.2.1,()))::nu a t else nu a t:=rfl
def posOf(l:au)(a:Int):aE:=if di l then nu a l else []
theorem HQ(a:Int): ∀l:au,(nu a l).length≤l.length
 |[]=>aH _
 |x::t=>by
  have:=HQ a t
  rw[qn,aT]
  split
  ·rw[aT];omega
  ·omega
theorem Df(a:Int)(l:au):(posOf l a).length≤l.length:=by
 unfold posOf
 split
 ·exact HQ a l
 ·exact bw _
theorem nv{a:Int}{y:BV}: ∀{l:au},y∈nu a l→ ∃x∈l,x.1=a∧y=(x.2.1,(x.2.2.1,()))
 |[],h=>nomatch h
 |x::t,h=>by
  rw[qn]at h
  by_cases e:x.1=a
  ·rw[ak e]at h
   rcases bc.1 h with h|h
   ·exact⟨x,bt ..,e,h⟩
   ·obtain⟨x',hx,h'⟩:=nv h
    exact⟨x',a8 _ hx,h'⟩
  ·rw[ah e]at h
   obtain⟨x',hx,h'⟩:=nv h
   exact⟨x',a8 _ hx,h'⟩
theorem HR{l:au}(h:eO l)(a:Int): ∀y∈posOf l a,aF y.2.1:=λy hy=>by
 unfold posOf at hy
 split at hy
 ·obtain⟨x,hx,_,rfl⟩:=nv hy
  exact h x hx
 ·nomatch hy
theorem aqF(N:Nat){l:au}(hl:l.length≤100000)(hN:200000≤N)(a:Int):El N l a=some (posOf l a):=by
 unfold El El.b posOf
 rw[yf N hl hN,ar,cond_not]
 have:=ll l bb (λn i s=>El.l5 N n a s l (l.length:Int) i) (λt s=>some (s++nu a t)) (λi (s:aE)=>s.length≤i) (λn i s hi hI hr=> ?_) (λn s hI=> ?_) l.length N 0 [] ω ω ω (aH _)
 ·have e:El.l5 N N a [] l (l.length:Int) 0=some (nu a l):=this
  rw[e];cases di l<;>rfl
 ·unfold El.l5 El.dU
  rw[aQ ω,aj,aU ω ω,aj,aG,aw (x:=(i:Int)+1) ω ω,af i,aI,bH (by rw[aK];omega),aj,qn]
  split
  ·rw[hr _ (by rw[aS,aK];omega),bD];rfl
  ·exact hr s ω
 ·unfold El.l5 El.dU
  rw[aP ω,av]
  show some s=some (s++[])
  rw[cy]
theorem S2(N:Nat){l:au}(hl:l.length≤100000)(hN:200000≤N)(a:Int):mP N l a=some (posOf l a):=by
 unfold mP mP.b posOf
 rw[lT N hl hN,ar,cond_not]
 have:=ll l bb (λn i s=>mP.l5 N n l a s i) (λt s=>some (s++nu a t)) (λi (s:aE)=>s.length≤i) (λn i s hi hI hr=> ?_) (λn s hI=> ?_) l.length N 0 [] ω ω ω (aH _)
 ·have e:mP.l5 N N l a [] 0=some (nu a l):=this
  rw[e];cases di l<;>rfl
 ·unfold mP.l5 mP.dU
  rw[aQ ω,aj,aU ω ω,aj,aj,aj,aG,aw (x:=(i:Int)+1) ω ω,af i,aI,bH (by rw[aK];omega),aj,qn]
  split
  ·rw[hr _ (by rw[aS,aK];omega),bD];rfl
  ·exact hr s ω
 ·unfold mP.l5 mP.dU
  rw[aP ω,av]
  show some s=some (s++[])
  rw[cy]
def Mq(a n:Int):Prop:=0≤a∧a<n
theorem Em{a:Int}: ∀{l:au},uB (l.map keyOf)→((nu a l).map (λy=>(y.1:Int))).Pairwise (· < ·)
 |[],_=>List.Pairwise.nil
 |x::t,h=>by
  obtain⟨h1,h2⟩:=eT.1 h
  have ih:=Em (a:=a) h2
  rw[qn]
  by_cases e:x.1=a
  ·rw[ak e,bV]
   refine eT.2 ⟨λz hz=> ?_,ih⟩
   obtain⟨y,hy,rfl⟩:=cV.1 hz
   obtain⟨x',hx,e',rfl⟩:=nv hy
   have hk:=h1 (keyOf x') (fB hx)
   have g: ∀p q r s:Int,p=a→r=a→mc p q r s→q<s:=λp q r s h1 h2 h=>by unfold mc at h;omega
   exact g _ _ _ _ e e' hk
  ·rw[ah e];exact ih
def c0(p:Int):Prop:=1≤p∧p≤1000000000000
instance(p:Int):Decidable (c0 p):=by unfold c0;infer_instance
theorem sR(N:Nat)(p:Int):E2 N p=some (decide (c0 p)):=(jz N p).trans (e7 some (n6.2 Iff.rfl))
def kj(a b c d e:Int):Prop:=(0≤a∧a≤24)∧(0≤b∧b≤24)∧a≠b∧(0≤c∧c<6)∧(1≤d∧d≤1000000000)∧c0 e
instance(a b c d e:Int):Decidable (kj a b c d e):=by unfold kj;infer_instance
def dv(t:iE):Prop:=kj t.1 t.2.1 t.2.2.1 t.2.2.2.1 t.2.2.2.2.1
instance:DecidablePred dv:=λt=>by unfold dv;infer_instance
theorem En(a b c d e:Int):cond (dx 0 a) (cond (dx a 24) (cond (dx 0 b) (cond (dx b 24) (cond (!aN a b) (cond (dx 0 c) (cond (aX c 6) (cond (dx 1 d) (cond (dx d 1000000000) (some (decide (c0 e))) (some false)) (some false)) (some false)) (some false)) (some false)) (some false)) (some false)) (some false)) (some false)=some (decide (kj a b c d e)):=by
 simp only[ct,cond_not,aI,bZ]
 by_cases hP:kj a b c d e
 ·have hp:=hP.2.2.2.2.2
  rw[aV hP,aV hp]
  unfold kj at hP
  repeat' split
  all_goals first|rfl|omega
 ·rw[bu hP]
  by_cases hp:c0 e
  ·unfold kj at hP
   repeat' split
   all_goals first|rfl|(exact absurd ⟨ω,ω,ω,ω,ω,hp⟩ hP)
  ·rw[bu hp]
   repeat' split
   all_goals rfl
theorem vl(N:Nat)(t:iE):ZW N t=some (decide (dv t)):=by
 unfold ZW
 rw[sR,ar]
 exact En _ _ _ _ _
def pA(a x:Int):dh:=if a=0 then((2:Int),((0:Int),(x,())))else((5:Int),(a,(x,())))
def mq(t:iE)(p:Int):au:=if p-t.2.2.2.2.1=0 then []else [pA t.1 ((p-t.2.2.2.2.1)*t.2.2.2.1),pA t.2.1 (-((p-t.2.2.2.2.1)*t.2.2.2.1))]
def kL(b:an)(t:iE):Int:=b.2.2.2.2.1.getD t.2.2.1.toNat 0
def iF:bh→au
 |[]=>[]
 |t::r=>(t.1,(t.2.2.1,(t.2.2.2.1,())))::(t.2.1,(t.2.2.1,((0-t.2.2.2.1:Int),())))::iF r
def iY(b:an):bh→au
 |[]=>[]
 |t::r=>mq t (kL b t)++iY b r
theorem qo(t:iE)(r:bh):iF (t::r)=(t.1,(t.2.2.1,(t.2.2.2.1,())))::(t.2.1,(t.2.2.1,((0-t.2.2.2.1:Int),())))::iF r:=rfl
theorem ua(b:an)(t:iE)(r:bh):iY b (t::r)=mq t (kL b t)++iY b r:=rfl
theorem zi(a x:Int)(N:Nat):Mr N a=some ((pA a x).1,(pA a x).2.1):=by
 unfold Mr pA
 rw[aI]
 by_cases h:a=0
 ·rw[ak h,ak h]
 ·rw[ah h,ah h]
theorem gN(a x:Int):dT (pA a x)=x:=by unfold pA;split<;>rfl
theorem Dg{d q:Int}(h1: -1000000000000≤d∧d≤1000000000000)(h2:1≤q∧q≤1000000000): -1000000000000000000000≤d*q∧d*q≤1000000000000000000000∧(d*q=0↔d=0):=by
 refine⟨?_,?_,?_⟩
 ·have:=AL h1.1 (show 0≤q by omega)
  have h3: -1000000000000*1000000000≤ -1000000000000*q:=ω
  omega
 ·have:=AL h1.2 (show 0≤q by omega)
  have h3:1000000000000*q≤1000000000000*1000000000:=ω
  omega
 ·rw[Int.mul_eq_zero];omega
theorem zO(N:Nat)(hN:4000000≤N){t:iE}{p:Int}(ht:dv t)(hp:c0 p):Py N t p=some ((mq t p).map ga,0):=by
 unfold Py mq
 have hq:=ht.2.2.2.2.1
 have he:=ht.2.2.2.2.2
 rw[vl,ar,aV ht,bg,av,sR,ar,aV hp,bg,av]
 unfold c0 at hp he
 generalize t.2.2.2.2.1=e at*
 generalize t.2.2.2.1=q at*
 have hd: -1000000000000≤p-e∧p-e≤1000000000000:=ω
 have hn:=Dg hd hq
 have WS:cE ((p-e)*q):=by unfold cE;omega
 rw[aw (x:=p-e) ω ω,da N ω ω ω,ar,da N ω ω ω,ar,sJ N hN ((Fit.i64 ω ω).mono ω) ((Fit.i64 ω ω).mono ω),ar,pS,ar,aI]
 by_cases h:p-e=0
 ·rw[ak h,ak (by rw[hn.2.2.2 h];rfl)];rfl
 ·rw[ah h,ah (λk=>h (hn.2.2.1 (jB.1 k))),zi t.1 ((p-e)*q),ar,zi t.2.1 (-((p-e)*q)),ar,pk N hN (pV WS),ar,bV,bV,gQ]
  unfold ga
  rw[gN,gN]
def gi(c:ae)(b:an)(t:iE):Bool:=
 ((eM b.2.1 t.1).2||decide (dI t.1 0))&&(((eM b.2.1 t.2.1).2||decide (dI t.2.1 0))&&decide (lH t.2.2.1 c.1.length))
def sS(c:ae)(b:an)(l:bh):an×Int:=
 if de c b then(if l.length≤200 then(if l.all (λt=>decide (dv t))then(if l.all (gi c b)then dD b (iF l) (iY b l)else((ch,(cT,(bq,(bq,(dg,(du,())))))),3))else((ch,(cT,(bq,(bq,(dg,(du,())))))),1))else((ch,(cT,(bq,(bq,(dg,(du,())))))),1))else((ch,(cT,(bq,(bq,(dg,(du,())))))),1)
theorem eH{c:ae}{b:an}(h:de c b=true):b.2.2.2.2.1.length=c.1.length∧fg b.2.2.2.2.1=true:=by
 unfold de at h
 simp only[bP]at h
 have h1:=bA h.2.2.2.2.2.2.1
 unfold dI at h1
 exact⟨ω,h.2.2.2.2.2.2.2.2.2.2⟩
theorem wv: ∀l:bh,(iF l).length=2*l.length
 |[]=>rfl
 |t::r=>by rw[qo,aT,aT,aT,wv r];omega
theorem Aq(t:iE)(p:Int):(mq t p).length≤2:=by
 unfold mq
 split
 ·exact bw _
 ·exact aH 2
theorem wx(b:an): ∀l:bh,(iY b l).length≤2*l.length
 |[]=>aH _
 |t::r=>by
  have:=Aq t (kL b t)
  have:=wx b r
  rw[ua,aS,aT];omega
theorem qp{l:List Int}(h:fg l=true){i:Nat}(hi:i<l.length):c0 (l.getD i 0):=bA h i hi
theorem S3(i:Int)(a b:dh)(l:au)(h:a.2.1=b.2.1)(hs:dT a+dT b=0):(dm i (a::b::l)).sum=(dm i l).sum:=by
 rw[dA,dA]
 by_cases e:a.2.1=i
 ·rw[ak e,ak (h.symm.trans e),cK,cK];omega
 ·rw[ah e,ah (λk=>e (h.trans k))]
theorem Eo: ∀{l:bh},(∀t∈l,dv t)→(∀x∈iF l,cc x.1 x.2.1∧aF (dT x)∧rA (dT x))∧ ∀i:Int,(dm i (iF l)).sum=0
 |[],_=>⟨λx hx=>(nomatch hx),λi=>rfl⟩
 |t::r,h=>by
  obtain⟨h1,h2⟩:=Eo (l:=r) (λy hy=>h y (a8 _ hy))
  have ht:=h t (bt ..)
  unfold dv kj at ht
  have g: ∀a b c d:Int,(0≤a∧a≤24)→(0≤b∧b≤24)→(0≤c∧c<6)→(1≤d∧d≤1000000000)→(cc a c∧aF d∧rA d)∧(cc b c∧aF (0-d)∧rA (0-d)):=λa b c d _ _ _ _=>by unfold cc aF rA;omega
  have hg:=g _ _ _ _ ht.1 ht.2.1 ht.2.2.2.1 ht.2.2.2.2.1
  refine⟨λx hx=> ?_,λi=> ?_⟩
  ·rw[qo]at hx
   rcases bc.1 hx with e|hx
   ·rw[e];exact hg.1
   ·rcases bc.1 hx with e|hx
    ·rw[e];exact hg.2
    ·exact h1 x hx
  ·rw[qo]
   have hz: ∀d:Int,d+(0-d)=0:=λd=>ω
   exact(S3 i (t.1,(t.2.2.1,(t.2.2.2.1,()))) (t.2.1,(t.2.2.1,((0-t.2.2.2.1:Int),()))) (iF r) rfl (hz t.2.2.2.1)).trans (h2 i)
theorem S4{t:iE}{p:Int}(ht:dv t)(hp:c0 p):cE ((p-t.2.2.2.2.1)*t.2.2.2.1)∧cE (-((p-t.2.2.2.2.1)*t.2.2.2.1)):=by
 have hq:=ht.2.2.2.2.1
 have he:=ht.2.2.2.2.2
 unfold c0 at hp he
 generalize t.2.2.2.2.1=e at*
 generalize t.2.2.2.1=q at*
 have hn:=Dg (d:=p-e) ω hq
 unfold cE
 omega
theorem HS{a x:Int}(h:0≤a∧a≤24):db (pA a x).1 (pA a x).2.1:=by
 unfold pA
 by_cases e:a=0
 ·rw[ak e];show db 2 0;decide
 ·rw[ah e];show db 5 a;unfold db;omega
theorem Pz{t:iE}{p:Int}(ht:dv t)(hp:c0 p):(∀x∈mq t p,db x.1 x.2.1∧cE (dT x))∧((mq t p).map dT).sum=0:=by
 have hn:=S4 ht hp
 unfold mq
 split
 ·exact⟨λx hx=>(nomatch hx),rfl⟩
 ·refine⟨λx hx=> ?_,?_⟩
  ·rcases bc.1 hx with e|hx
   ·rw[e,gN];exact⟨HS ht.1,hn.1⟩
   ·rw[cw.1 hx,gN];exact⟨HS ht.2.1,hn.2⟩
  ·rw[bV,bV,gQ,cK,cK,jo,gN,gN];omega
theorem Ep{b:an}: ∀{l:bh},(∀t∈l,dv t∧c0 (kL b t))→(∀x∈iY b l,db x.1 x.2.1∧cE (dT x))∧((iY b l).map dT).sum=0
 |[],_=>⟨λx hx=>(nomatch hx),rfl⟩
 |t::r,h=>by
  obtain⟨h1,h2⟩:=Ep (b:=b) (l:=r) (λy hy=>h y (a8 _ hy))
  have ht:=h t (bt ..)
  have hc:=Pz ht.1 ht.2
  rw[ua]
  refine⟨λx hx=>(bn.1 hx).elim (hc.1 x) (h1 x),?_⟩
  rw[dp,nZ,hc.2,h2];rfl
theorem KI{l:bh}(h: ∀t∈l,dv t)(hl:l.length≤200):Pk (iF l):=by
 obtain⟨h1,h2⟩:=Eo h
 exact⟨λx hx=>(h1 x hx).1,λx hx=>(h1 x hx).2,by rw[wv];omega,h2⟩
theorem KJ{b:an}{l:bh}(h: ∀t∈l,dv t∧c0 (kL b t))(hl:l.length≤200):Pn (iY b l):=by
 obtain⟨h1,h2⟩:=Ep h
 have:=wx b l
 exact⟨λx hx=>(h1 x hx).1,λx hx=>(h1 x hx).2,ω,h2⟩
theorem Ms(N:Nat)(hN:4000000≤N)(c:ae){b:an}(w:oF b)(hB:de c b=true){l:bh}(hk: ∀t∈l,dv t)(hl:l.length≤200):
  fk.Ar N N l c b (ch,(cT,(bq,(bq,(dg,(du,())))))) [] [] 0=some (if l.all (gi c b)then dD b (iF l) (iY b l)else((ch,(cT,(bq,(bq,(dg,(du,())))))),3)):=by
 obtain⟨hr,hs⟩:=eg hB
 obtain⟨CB,BA⟩:=eH hB
 have gs:=KI hk hl
 have:=ll l gq (λn i (z:au×au)=>fk.Ar N n l c b (ch,(cT,(bq,(bq,(dg,(du,())))))) z.1 (z.2.map ga) i)
  (λu z=>some (if u.all (gi c b)then dD b (iF l) (iY b l)else((ch,(cT,(bq,(bq,(dg,(du,())))))),3)))
  (λi z=>z.1++iF (l.drop i)=iF l∧z.2++iY b (l.drop i)=iY b l∧ ∀j,j<i→gi c b (l.getD j gq)=true)
  (λn i z hi hI BT=> ?_) (λn z hI=> ?_) l.length N 0 ([],[]) ω ω ω ⟨rfl,rfl,λj hj=>absurd hj ω⟩
 ·exact this
 ·unfold fk.Ar fk.yq
  obtain⟨i1,i2,i3⟩:=hI
  have hls:=wv l
  have hle:=wx b l
  have z1:z.1.length≤400:=by rw[←i1,aS]at hls;omega
  have z2:z.2.length≤400:=by rw[←i2,aS]at hle;omega
  have hm:l.getD i gq∈l:=by
   rw[aW,bl hi];exact dF hi
  have ht:=hk _ hm
  rw[drop_cons hi gq,qo]at i1
  rw[drop_cons hi gq,ua]at i2
  rw[aQ ω,aj,aU ω ω,aj,aG,aw (x:=(i:Int)+1) ω ω,af i,xv]
  have i4:gi c b (l.getD i gq)=true→ ∀j,j<i+1→gi c b (l.getD j gq)=true:=λh j hj=>by
   by_cases e:j=i
   ·rw[e];exact h
   ·exact i3 j ω
  generalize l.getD i gq=t at*
  have hq:=ht.2.2.2.2.1
  have kg:=ht.2.2.2.1
  rw[ql N b w.w.a ω,ar,ql N b w.w.a ω,ar,cond_not,cond_not,ct]
  have e0:W .i64 (0-t.2.2.2.1)=0-t.2.2.2.1:=by
   have g: ∀d:Int,1≤d∧d≤1000000000→W .i64 (0-d)=0-d:=λd _=>aw ω ω
   exact g _ hq
  rw[e0]
  dsimp only
  by_cases h1:((eM b.2.1 t.1).2||decide (dI t.1 0))=false
  ·have:gi c b t=false:=by unfold gi;rw[h1];rfl
   rw[h1,this];rfl
  ·rw[sd]at h1
   rw[h1,aj]
   by_cases h2:((eM b.2.1 t.2.1).2||decide (dI t.2.1 0))=false
   ·have:gi c b t=false:=by unfold gi;rw[h1,h2];rfl
    rw[h2,this];rfl
   ·rw[sd]at h2
    rw[h2,aj]
    by_cases h3:(c.1.length:Int)≤t.2.2.1
    ·have:gi c b t=false:=by
      unfold gi
      rw[h1,h2,bu (show ¬lH t.2.2.1 c.1.length from λh=>by unfold lH at h;exact absurd h (od.2 h3))];rfl
     rw[ak h3,this];rfl
    ·have eV:t.2.2.1<(c.1.length:Int):=uT.1 h3
     have hth:gi c b t=true:=by
      unfold gi
      rw[h1,h2,aV (show lH t.2.2.1 c.1.length from eV)];rfl
     have WW:t.2.2.1.toNat<b.2.2.2.2.1.length:=by
      have g: ∀x:Int,(0≤x∧x<6)→x<(c.1.length:Int)→x.toNat<b.2.2.2.2.1.length:=λx _ _=>ω
      exact g _ kg eV
     have Sk:bf t.2.2.1 b.2.2.2.2.1.length=true:=by
      have g: ∀x:Int,(0≤x∧x<6)→x<(c.1.length:Int)→bf x b.2.2.2.2.1.length=true:=λx _ _=>aU ω ω
      exact g _ kg eV
     have hp:c0 (kL b t):=qp BA WW
     have htp:Py N t (b.2.2.2.2.1.getD t.2.2.1.toNat 0)=some ((mq t (kL b t)).map ga,0):=zO N hN ht hp
     have FA:=Aq t (kL b t)
     rw[ah h3,bH (by rw[aT,aK];omega),aj,Sk,aj,htp,ar,bH (by rw[cz,cz];omega),aj,hth,kU]
     have:=BT (z.1++[(t.1,(t.2.2.1,(t.2.2.2.1,()))),(t.2.1,(t.2.2.1,((0-t.2.2.2.1:Int),())))],z.2++mq t (kL b t)) ⟨by rw[←i1,bD];rfl,by rw[←i2,bD],i4 hth⟩
     rw[dp]at this
     exact this
 ·unfold fk.Ar fk.yq
  obtain⟨i1,i2,i3⟩:=hI
  rw[m1]at i1 i2
  have e1:z.1=iF l:=by rw[←i1];exact(cy _).symm
  have e2:z.2=iY b l:=by rw[←i2];exact(cy _).symm
  have iT: ∀t∈l,dv t∧c0 (kL b t):=λt ht=>by
   obtain⟨i,hi,e⟩:=gJ ht
   have h:=i3 i hi
   rw[aW,bl hi]at h
   simp only[nY,e]at h
   unfold gi at h
   have eV:=bA (dd.1 (dd.1 h).2).2
   have kg:=(hk t ht).2.2.2.1
   have WW:t.2.2.1.toNat<b.2.2.2.2.1.length:=by
    have g: ∀x:Int,(0≤x∧x<6)→lH x c.1.length→x.toNat<b.2.2.2.2.1.length:=λx _ h=>by unfold lH at h;omega
    exact g _ kg eV
   exact⟨hk t ht,qp BA WW⟩
  rw[aP ω,av,e1,e2,UQ N hN w.w hr hs w.r w.s gs (KJ iT hl),ar]
  rfl
theorem S5(N:Nat)(hN:5000000≤N)(c:ae){b:an}(w:oF b){l:bh}(hl:l.length≤100000):fk N c b l=some (sS c b l):=by
 unfold fk fk.b sS
 rw[sO N hN w.w,ar,cond_not,bZ]
 by_cases hB:de c b=false
 ·rw[hB];rfl
 rw[sd]at hB
 rw[hB,aj,ak rfl]
 by_cases S6:l.length≤200
 ·rw[ah ω,ak S6]
  have key: ∀(m n i:Nat),l.length-i≤m→m<n→i≤l.length→(∀j,j<i→dv (l.getD j gq))→fk.l4 N n l c b (ch,(cT,(bq,(bq,(dg,(du,())))))) (i:Int)=some (if l.all (λt=>decide (dv t))then(if l.all (gi c b)then dD b (iF l) (iY b l)else((ch,(cT,(bq,(bq,(dg,(du,())))))),3))else((ch,(cT,(bq,(bq,(dg,(du,())))))),1)):=by
   intro m n
   induction n generalizing m with
   |zero=>intro i _ hn;omega
   |succ n ih=>
    intro i hm hn hi hj
    unfold fk.l4 fk.dL
    by_cases h:i<l.length
    ·rw[aQ ω,aj,aU ω ω,aj,aG,vl,ar,cond_not,fW,aw (x:=(i:Int)+1) ω ω,af i]
     by_cases hk:dv (l.getD i gq)
     ·rw[ak hk]
      exact ih (m-1) (i+1) ω ω ω λj X5=>by
       by_cases e:j=i
       ·rw[e];exact hk
       ·exact hj j ω
     ·rw[ah hk]
      have hf:l.all (λt=>decide (dv t))=false:=by
       rw[List.all_eq_false]
       refine⟨l.getD i gq,?_,by rw[bu hk];decide⟩
       rw[aW,bl h];exact dF h
      rw[hf];rfl
    ·have hk: ∀t∈l,dv t:=λt ht=>by
      obtain⟨k,hk,e⟩:=gJ ht
      have:=hj k ω
      rw[aW,bl hk]at this
      rw[←e];exact this
     have ha:l.all (λt=>decide (dv t))=true:=pL.2 λt ht=>aV (hk t ht)
     rw[aP ω,av,ha,ak rfl]
     exact Ms N ω c w hB hk S6
  exact key l.length N 0 ω ω ω (λj hj=>absurd hj ω)
 ·rw[ak ω,ah S6]
theorem wy{c:ae}{b:an}(h:de c b=true):eL c=true:=by
 unfold de at h
 exact(dd.1 h).1
def oG(k:Int):Nat→aO→List Int
 |_,[]=>[]
 |i,x::t=>if x.1=k then(i:Int)::oG k (i+1) t else oG k (i+1) t
theorem Cc(k:Int)(i:Nat)(x:cL)(t:aO):oG k i (x::t)=if x.1=k then(i:Int)::oG k (i+1) t else oG k (i+1) t:=rfl
def jE(c:ae)(k:Int):List Int:=if eL c then oG k 0 c.1 else []
theorem S7(N:Nat)(hN:200000≤N)(c:ae)(hl:c.1.length≤100000)(k:Int):qq N c k=some (jE c k):=by
 unfold qq qq.b jE
 rw[mL N ω,ar,cond_not]
 have:=ll c.1 ba (λn i s=>qq.l5 N n k c s i) (λt s=>some (s++oG k (c.1.length-t.length) t)) (λi (s:List Int)=>s.length≤i) (λn i s hi hI hr=> ?_) (λn s hI=> ?_) c.1.length N 0 [] ω ω ω (aH _)
 ·have e:qq.l5 N N k c [] 0=some (oG k 0 c.1):=by
   refine this.trans ?_
   rw[cJ,uS];rfl
  rw[e];cases eL c<;>rfl
 ·unfold qq.l5 qq.dU
  have e1:c.1.length-(c.1.getD i ba::c.1.drop (i+1)).length=i:=by rw[aT,dY];omega
  have e2:c.1.length-(c.1.drop (i+1)).length=i+1:=by rw[dY];omega
  rw[e2]at hr
  rw[aQ ω,aj,aU ω ω,aj,aG,aw (x:=(i:Int)+1) ω ω,af i,aI,bH (by rw[aK];omega),aj,e1,Cc]
  split
  ·rw[hr _ (by rw[aS,aK];omega),bD];rfl
  ·exact hr s ω
 ·unfold qq.l5 qq.dU
  rw[aP ω,av]
  show some s=some (s++[])
  rw[cy]
theorem tW{c:ae}(h:eL c=true):c.1.length≤6∧ ∀i,i<c.1.length→0≤(c.1.getD i ba).1∧(c.1.getD i ba).1≤3:=by
 unfold eL at h
 simp only[bP]at h
 have h1:=bA h.1
 have h2:=bA h.2.1
 exact⟨h1.2,λi hi=>(h2 i hi).1⟩
theorem ZX{l:au}(h:eO l)(a b:Int):aF (gh l a b):=by
 unfold gh
 cases di l
 ·show aF 0;decide
 ·exact HO h a b
theorem sT(N:Nat)(p:Int):F81 N p=some (decide (c0 p)):=(C2 N p).trans (e7 some (n6.2 Iff.rfl))
theorem KK(N:Nat)(hN:10≤N)(t:iE):pB N t=some (decide (dv t)):=by
 obtain⟨n,rfl⟩: ∃n,N=n+3:=⟨N-3,ω⟩
 refine Eq.trans ?_ (En t.1 t.2.1 t.2.2.1 t.2.2.2.1 t.2.2.2.2.1)
 unfold pB pB.b
 have el:List.set (List.set (List.replicate 2 (0:Int)) 0 t.1) 1 t.2.1=[t.1,t.2.1]:=rfl
 rw[el]
 generalize hl:[t.1,t.2.1]=l
 have g0:l.getD (0:Int).toNat 0=t.1:=by rw[←hl];rfl
 have g1:l.getD (1:Int).toNat 0=t.2.1:=by rw[←hl];rfl
 unfold pB.l2 pB.fI
 unfold pB.l2 pB.fI
 unfold pB.l2 pB.fI
 rw[aQ (x:=0) ω,aj,aU (i:=0) ω ω,aj,aw (x:=0+1) ω ω,show(0:Int)+1=1 from rfl,aQ (x:=1) (y:=2) ω,aj,aU (i:=1) ω ω,aj,aw (x:=1+1) ω ω,show(1:Int)+1=2 from rfl,aP (x:=2) (y:=2) ω,av,g0,g1,sT,ar]
 simp only[ct,cond_not,aI,bZ]
 by_cases a1:t.1<0
 ·rw[ak a1,ah (uT.2 a1)]
 rw[ah a1,ak (od.1 a1)]
 by_cases a2:24<t.1
 ·rw[ak a2,ah (uT.2 a2)]
 rw[ah a2,ak (od.1 a2)]
 by_cases a3:t.2.1<0
 ·rw[ak a3,ah (uT.2 a3)]
 rw[ah a3,ak (od.1 a3)]
 by_cases a4:24<t.2.1
 ·rw[ak a4,ah (uT.2 a4)]
 rw[ah a4,ak (od.1 a4)]
theorem Dh(N:Nat)(a x:Int):WX N a (cH x)=some (ig (pA a x)):=by
 unfold WX pA ig
 rw[aI]
 by_cases h:a=0
 ·rw[ak h,ak h];rfl
 ·rw[ah h,ah h];rfl
theorem S8(N:Nat)(hN:100≤N){t:iE}{p:Int}(ht:dv t)(hp:c0 p):ZY N t p=some ((mq t p).map ig,0):=by
 unfold ZY mq
 have hq:=ht.2.2.2.2.1
 have he:=ht.2.2.2.2.2
 rw[KK N ω,ar,aV ht,bg,av,sT,ar,aV hp,bg,av,aI]
 unfold c0 at hp he
 generalize t.2.2.2.2.1=e at*
 generalize t.2.2.2.1=q at*
 by_cases h:p=e
 ·rw[ak h,ak ω];rfl
 ·rw[ah h,ah ω,aw (x:=p-e) ω ω,aw (x:=e-p) ω ω,Mc N ω ω ω ω,ar,Dh,ar,Mc N ω ω ω ω,ar,Dh,ar,bV,bV,gQ,jm q (p-e)]
  have e2:q*(e-p)= -((p-e)*q):=by rw[jm,←Int.neg_mul];congr 1;omega
  rw[e2]
theorem adn(N:Nat){u v:Int}(hu:cE u)(hv:cE v)(hs:cE (u+v)):ZZ N (cH u) (cH v)=some (cH (u+v),true):=by
 unfold ZZ cH
 unfold cE at*
 dsimp only
 have hp:0≤u%18446744073709551616∧u%18446744073709551616<18446744073709551616:=ω
 have hq:0≤v%18446744073709551616∧v%18446744073709551616<18446744073709551616:=ω
 rw[qg,qg,ya N ω ω ω ω,ar]
 dsimp only
 have hc:0≤(u%18446744073709551616+v%18446744073709551616+0)/18446744073709551616∧(u%18446744073709551616+v%18446744073709551616+0)/18446744073709551616≤1:=ω
 have e1:(u%18446744073709551616+v%18446744073709551616+0)%18446744073709551616=(u+v)%18446744073709551616:=ω
 have e2:u/18446744073709551616+v/18446744073709551616+(u%18446744073709551616+v%18446744073709551616+0)/18446744073709551616=(u+v)/18446744073709551616:=ω
 have h3: -9223372036854775808≤(u+v)/18446744073709551616∧(u+v)/18446744073709551616<9223372036854775808:=ω
 rw[ya N ω ω hc.1 hc.2,ar]
 dsimp only
 have e3:W .i64 ((u/18446744073709551616%18446744073709551616+v/18446744073709551616%18446744073709551616+(u%18446744073709551616+v%18446744073709551616+0)/18446744073709551616)%18446744073709551616)=(u+v)/18446744073709551616:=by
  rw[gK];split<;>omega
 rw[e3,e1]
 have key: ∀A B C:Int,A=u/18446744073709551616→B=v/18446744073709551616→C=(u+v)/18446744073709551616→(A<0∧B<0→C<0)∧(¬A<0∧ ¬B<0→ ¬C<0):=λA B C _ _ _=>ω
 have k:=key _ _ _ rfl rfl rfl
 simp only[om,qH]
 by_cases a:u/18446744073709551616<0<;>by_cases b:v/18446744073709551616<0
 ·have c:=k.1 ⟨a,b⟩
  rw[aV a,aV b,aV c];rfl
 ·rw[aV a,bu b];rfl
 ·rw[bu a,aV b];rfl
 ·have c:=k.2 ⟨a,b⟩
  rw[bu a,bu b,bu c];rfl
theorem Er(N:Nat)(hN:10≤N){l:bh}(hl:l.length≤100000): ∀(m n i:Nat),l.length-i≤m→m<n→i≤l.length→
  ∃r,tA.l2 N n l () (l.length:Int) (i:Int)=some r∧(dx 0 r= !(l.drop i).all (λt=>decide (dv t)))
 |m,0,i,_,hn,_=>ω
 |m,n+1,i,hm,hn,hi=>by
  unfold tA.l2 tA.fI alo
  by_cases h:i<l.length
  ·rw[aQ ω,aj,aU ω ω,aj,aG,KK N hN,ar,ar,cond_not,fW,drop_cons h gq,xv]
   by_cases hP:dv (l.getD i gq)
   ·rw[ak hP,aw ω ω,aV hP,kU]
    exact Er N hN hl (m-1) n (i+1) ω ω ω
   ·rw[ah hP,bu hP,uR]
    exact⟨_,rfl,by rw[fO ω];rfl⟩
  ·have e:i=l.length:=ω
   subst e
   rw[aP ω,av,m1]
   exact⟨_,rfl,by rw[fH ω];rfl⟩
theorem S9(N:Nat){l:bh}(hl:l.length≤100000)(hN:200000≤N):ado N l ()=some (!l.all (λt=>decide (dv t))):=by
 unfold ado tA tA.b
 obtain⟨r,e,h⟩:=Er N ω hl l.length N 0 ω ω ω
 rw[show((0:Nat):Int)=0 from rfl]at e
 rw[e,ar,h,cJ]
theorem PA(N:Nat)(hN:4000000≤N)(c:ae){b:an}(w:oF b)(hB:de c b=true){l:bh}(hk: ∀t∈l,dv t)(hth: ∀t∈l,gi c b t=true)(hl:l.length≤200):
  uC.nI N N b (ch,(cT,(bq,(bq,(dg,(du,())))))) [] [] l (l.length:Int) 0=some (dD b (iF l) (iY b l)):=by
 obtain⟨hr,hs⟩:=eg hB
 obtain⟨CB,BA⟩:=eH hB
 have gs:=KI hk hl
 have WW: ∀t∈l,t.2.2.1.toNat<b.2.2.2.2.1.length∧bf t.2.2.1 b.2.2.2.2.1.length=true:=λt ht=>by
  have h:=hth t ht
  unfold gi at h
  have eV:=bA (dd.1 (dd.1 h).2).2
  have kg:=(hk t ht).2.2.2.1
  have g: ∀x:Int,(0≤x∧x<6)→lH x c.1.length→x.toNat<b.2.2.2.2.1.length∧bf x b.2.2.2.2.1.length=true:=λx _ h=>by unfold lH at h;exact⟨ω,aU ω ω⟩
  exact g _ kg eV
 have iT: ∀t∈l,dv t∧c0 (kL b t):=λt ht=>⟨hk t ht,qp BA (WW t ht).1⟩
 have:=ll l gq (λn i (z:au×au)=>uC.nI N n b (ch,(cT,(bq,(bq,(dg,(du,())))))) z.1 (z.2.map ig) l (l.length:Int) i)
  (λu z=>some (dD b (iF l) (iY b l)))
  (λi z=>z.1++iF (l.drop i)=iF l∧z.2++iY b (l.drop i)=iY b l)
  (λn i z hi hI BT=> ?_) (λn z hI=> ?_) l.length N 0 ([],[]) ω ω ω ⟨rfl,rfl⟩
 ·exact this
 ·unfold uC.nI uC.mO
  obtain⟨i1,i2⟩:=hI
  have hls:=wv l
  have hle:=wx b l
  have z1:z.1.length≤400:=by rw[←i1,aS]at hls;omega
  have z2:z.2.length≤400:=by rw[←i2,aS]at hle;omega
  have hm:l.getD i gq∈l:=by
   rw[aW,bl hi];exact dF hi
  have ht:=hk _ hm
  have hn:=WW _ hm
  have hp:=(iT _ hm).2
  rw[drop_cons hi gq,qo]at i1
  rw[drop_cons hi gq,ua]at i2
  rw[aQ ω,aj,aU ω ω,aj,aG,aw (x:=(i:Int)+1) ω ω,af i]
  generalize l.getD i gq=t at*
  have hq:=ht.2.2.2.2.1
  have e0:W .i64 (0-t.2.2.2.1)=0-t.2.2.2.1:=by
   have g: ∀d:Int,1≤d∧d≤1000000000→W .i64 (0-d)=0-d:=λd _=>aw ω ω
   exact g _ hq
  rw[e0]
  dsimp only
  have htp:ZY N t (b.2.2.2.2.1.getD t.2.2.1.toNat 0)=some ((mq t (kL b t)).map ig,0):=S8 N ω ht hp
  have FA:=Aq t (kL b t)
  rw[bH (by rw[aT,aK];omega),aj,hn.2,aj,htp,ar,bH (by rw[cz,cz];omega),aj]
  have:=BT (z.1++[(t.1,(t.2.2.1,(t.2.2.2.1,()))),(t.2.1,(t.2.2.1,((0-t.2.2.2.1:Int),())))],z.2++mq t (kL b t)) ⟨by rw[←i1,bD];rfl,by rw[←i2,bD]⟩
  rw[dp]at this
  exact this
 ·unfold uC.nI uC.mO
  obtain⟨i1,i2⟩:=hI
  rw[m1]at i1 i2
  have e1:z.1=iF l:=by rw[←i1];exact(cy _).symm
  have e2:z.2=iY b l:=by rw[←i2];exact(cy _).symm
  rw[aP ω,av,e1,e2,Ps N ω w.w hr hs w.r w.s gs (KJ iT hl),ar]
theorem Cd{f:Bool}{a:Int}{r:Option (an×Int)}:cond (!aN a 0) (cond (!f) (some ((ch,(cT,(bq,(bq,(dg,(du,())))))),(3:Int))) r) r=if(f||decide (dI a 0))=true then r else some ((ch,(cT,(bq,(bq,(dg,(du,())))))),(3:Int)):=by
 rw[cond_not,aI,cond_not]
 by_cases h:a=0
 ·rw[ak h,aV (show dI a 0 from h),Bool.or_true,ak rfl]
 ·rw[ah h,bu (show ¬dI a 0 from h),sl]
  cases f<;>rfl
theorem KL(N:Nat)(hN:4000000≤N)(c:ae){b:an}(w:oF b){l:bh}(hl:l.length≤100000):uC N c b l=some (sS c b l):=by
 unfold uC uC.b sS
 rw[we N hN w.w,ar,cond_not,bZ,S9 N hl ω,ar,cond_not]
 by_cases hB:de c b=false
 ·rw[hB];rfl
 rw[sd]at hB
 rw[hB,aj,ak rfl]
 by_cases S6:l.length≤200
 ·rw[ah ω,ak S6]
  by_cases hk:l.all (λt=>decide (dv t))=false
  ·rw[hk];rfl
  rw[sd]at hk
  rw[hk,aj,ak rfl]
  have Bu: ∀t∈l,dv t:=λt ht=>bA (pL.1 hk t ht)
  have key: ∀(m n i:Nat),l.length-i≤m→m<n→i≤l.length→(∀j,j<i→gi c b (l.getD j gq)=true)→uC.l4 N n l c b (ch,(cT,(bq,(bq,(dg,(du,())))))) l (l.length:Int) (i:Int)=some (if l.all (gi c b)then dD b (iF l) (iY b l)else((ch,(cT,(bq,(bq,(dg,(du,())))))),3)):=by
   intro m n
   induction n generalizing m with
   |zero=>intro i _ hn;omega
   |succ n ih=>
    intro i hm hn hi hj
    unfold uC.l4 uC.dL
    by_cases h:i<l.length
    ·have rm:gi c b (l.getD i gq)=false→some ((ch,(cT,(bq,(bq,(dg,(du,())))))),(3:Int))=some (if l.all (gi c b)then dD b (iF l) (iY b l)else((ch,(cT,(bq,(bq,(dg,(du,())))))),3)):=λhf=>by
      have:l.all (gi c b)=false:=by
       rw[List.all_eq_false]
       refine⟨l.getD i gq,?_,by rw[hf];decide⟩
       rw[aW,bl h];exact dF h
      rw[this];rfl
     have aqG:gi c b (l.getD i gq)=true→ ∀j,j<i+1→gi c b (l.getD j gq)=true:=λh j X5=>by
      by_cases e:j=i
      ·rw[e];exact h
      ·exact hj j ω
     rw[aQ ω,aj,aU ω ω,aj,aG,C9 N b w.w.a ω,C9 N b w.w.a ω,aw (x:=(i:Int)+1) ω ω,af i]
     simp only[ar]
     rw[Cd,Cd,ct]
     generalize l.getD i gq=t at*
     unfold gi at rm aqG
     by_cases h1:((eM b.2.1 t.1).2||decide (dI t.1 0))=true
     ·rw[ak h1]
      by_cases h2:((eM b.2.1 t.2.1).2||decide (dI t.2.1 0))=true
      ·rw[ak h2]
       by_cases h3:(c.1.length:Int)≤t.2.2.1
       ·rw[ak h3]
        exact rm (by rw[h1,h2,bu (show ¬lH t.2.2.1 c.1.length from λh=>by unfold lH at h;exact absurd h (od.2 h3))];rfl)
       ·rw[ah h3]
        exact ih (m-1) (i+1) ω ω ω (aqG (by rw[h1,h2,aV (show lH t.2.2.1 c.1.length from uT.1 h3)];rfl))
      ·rw[ah h2]
       exact rm (by rw[lK]at h2;rw[h1,h2];rfl)
     ·rw[ah h1]
      exact rm (by rw[lK]at h1;rw[h1];rfl)
    ·have hth: ∀t∈l,gi c b t=true:=λt ht=>by
      obtain⟨k,hk,e⟩:=gJ ht
      have:=hj k ω
      rw[aW,bl hk]at this
      rw[←e];exact this
     rw[aP ω,av,pL.2 hth,ak rfl]
     exact PA N hN c w hB Bu hth S6
  exact key l.length N 0 ω ω ω (λj hj=>absurd hj ω)
 ·rw[ak ω,ah S6]
def Ce(l:List Int)(k:Int):Int:=l.getD k.toNat 0
def ins(l:List Int):List Int→Int→List Int
 |[],i=>[i]
 |k::t,i=>if Ce l i≤Ce l k then k::ins l t i else i::k::t
def gu(l:List Int):Nat→List Int
 |0=>[]
 |n+1=>ins l (gu l n) n
def lA(l:List Int):List Int:=gu l l.length
def zP(l:List Int)(a b:Int):Prop:=Ce l b<Ce l a∨(Ce l b=Ce l a∧a<b)
theorem US(l:List Int): ∀(o:List Int) (i:Int),(ins l o i).length=o.length+1
 |[],i=>rfl
 |k::t,i=>by unfold ins;split<;>simp[US l t i]
theorem ub(l:List Int): ∀n,(gu l n).length=n
 |0=>rfl
 |n+1=>by unfold gu;rw[US,ub l n]
theorem As(l:List Int):(lA l).length=l.length:=ub l _
theorem Mt(l:List Int){x:Int}: ∀{o:List Int} {i:Int},x∈ins l o i↔x=i∨x∈o
 |[],i=>by simp[ins]
 |k::t,i=>by
  unfold ins;split
  ·rw[bc,Mt l,bc]
   exact⟨λh=>h.elim (λh=> .inr (.inl h)) (λh=>h.elim .inl (λh=> .inr (.inr h))),λh=>h.elim (λh=> .inr (.inl h)) (λh=>h.elim .inl (λh=> .inr (.inr h)))⟩
  ·rw[bc]
theorem uc(l:List Int){x:Int}: ∀{n:Nat},x∈gu l n↔0≤x∧x<n
 |0=>⟨(λh=>nomatch h),λh=>absurd h.1 ω⟩
 |n+1=>by unfold gu;rw[Mt,uc l];omega
theorem Cg(l:List Int): ∀{o:List Int} {i:Int},o.Pairwise (zP l)→(∀x∈o,x<i)→(ins l o i).Pairwise (zP l)
 |[],i,_,_=>F9 _ _
 |k::t,i,h,hi=>by
  rw[eT]at h
  have hk:k<i:=hi k (bt ..)
  unfold ins;split
  ·rename_i hle
   rw[eT]
   refine⟨λx hx=> ?_,Cg l h.2 (λx hx=>hi x (a8 _ hx))⟩
   rcases(Mt l).1 hx with rfl|hx
   ·unfold zP;omega
   ·exact h.1 x hx
  ·rename_i hle
   rw[eT,eT]
   refine⟨λx hx=> ?_,h.1,h.2⟩
   rcases bc.1 hx with rfl|hx
   ·unfold zP;omega
   ·have:=h.1 x hx;unfold zP at*;omega
theorem pC(l:List Int): ∀n,(gu l n).Pairwise (zP l)
 |0=>List.Pairwise.nil
 |n+1=>by unfold gu;exact Cg l (pC l n) (λx hx=>((uc l).1 hx).2)
theorem Z0(l:List Int): ∀(o:List Int) (i:Int) (p:Nat),p≤o.length→(∀j,j<p→Ce l i≤Ce l (o.getD j 0))→(p<o.length→Ce l (o.getD p 0)<Ce l i)→ins l o i=o.take p++i::o.drop p
 |[],i,p,hp,_,_=>by simp at hp;subst hp;rfl
 |k::t,i,0,hp,_,h=>by
  unfold ins;rw[ah (by have:=h (by simp);simp at this;omega)];rfl
 |k::t,i,p+1,hp,h0,h=>by
  unfold ins
  have h1:Ce l i≤Ce l k:=h0 0 ω
  rw[ak h1,Z0 l t i p (by simpa using hp) (λj hj=>by have:=h0 (j+1) ω;simpa using this) (λR5=>by have:=h (by simpa using R5);simpa using this)]
  rfl
theorem UT(l:List Int)(f:Int→Int): ∀(o:List Int) (i:Int),((ins l o i).map f).sum=(o.map f).sum+f i
 |[],i=>by simp[ins]
 |k::t,i=>by
  unfold ins;split
  ·rw[bV,cK,UT l f t i,bV,cK];omega
  ·simp only[bV,cK];omega
theorem Es(l r:List Int): ∀n,n≤r.length→((gu l n).map (Ce r)).sum=(r.take n).sum
 |0,_=>rfl
 |n+1,h=>by
  unfold gu;rw[UT,Es l r n ω,mJ r ω]
  unfold Ce;rw[aG]
theorem Ta(l r:List Int)(h:l.length=r.length):((lA l).map (Ce r)).sum=r.sum:=by
 unfold lA;rw[Es l r _ ω,iG ω]
theorem HT{o:List Int}{j:Nat}(h:j<o.length):o.getD j 0∈o:=by
 rw[aW,bl h];exact dF h
theorem Tb{l:List Int}{n j:Nat}(h:j<n):0≤(gu l n).getD j 0∧(gu l n).getD j 0<n:=by
 exact(uc l).1 (HT (by rw[ub];exact h))
theorem KM(N:Nat)(K:List Int→List Int→Int→Option (List Int)){l:List Int}(hl:l.length≤100000)(i:Nat)(hi:i<l.length): ∀(m n p:Nat),i-p≤m→m<n→p≤i→(∀j,j<p→Ce l i≤Ce l ((gu l i).getD j 0))→
  gj.l6 N K n l (gu l i) (i:Int) (p:Int)=K l (gu l (i+1)) ((i+1:Nat):Int)
 |m,0,p,_,hn,_,_=>ω
 |m,n+1,p,hm,hn,hp,h=>by
  have hlen:=ub l i
  have fin: ∀h2:(p<i→Ce l ((gu l i).getD p 0)<Ce l i),gj.j8 N K l (gu l i) (i:Int) (p:Int)=K l (gu l (i+1)) ((i+1:Nat):Int):=λh2=>by
   have e:=Z0 l (gu l i) i p ω h (λh3=>h2 ω)
   unfold gj.j8 gj.ZO
   dsimp only
   rw[ed ω ω ω ω,aj,aG,aG,dN,cJ]
   rw[bH (by rw[cf];omega),aj,bH (by rw[cf];simp only[aK];omega),aj,ed ω ω ω ω,aj,bH (by simp only[aS,cf,dY,aK];omega),aj,aw ω ω,im,bD,Gd,←e]
   rfl
  unfold gj.l6 gj.u7
  by_cases hpi:p<i
  ·have hr:=Tb (l:=l) (n:=i) (j:=p) hpi
   rw[aQ ω,aj,aU ω ω,aj,aG,aG,aU ω ω,aj,aU ω ω,aj]
   by_cases h3:l.getD i 0≤l.getD ((gu l i).getD p 0).toNat 0
   ·rw[fO h3,aj,aw ω ω]
    refine KM N K hl i hi (m-1) n (p+1) ω ω ω (λj hj=> ?_)
    by_cases hjp:j=p
    ·rw[hjp];unfold Ce;rw[aG];exact h3
    ·exact h j ω
   ·rw[fH ω,av]
    exact fin (λ_=>by unfold Ce;rw[aG];omega)
  ·rw[aP ω,av]
   exact fin (λh=>absurd h hpi)
theorem HU(N:Nat){l:List Int}(hl:l.length≤100000)(hN:l.length<N): ∀(m n i:Nat),l.length-i≤m→m<n→i≤l.length→
  gj.l3 N n l (gu l i) (i:Int)=some (lA l)
 |m,0,i,_,hn,_=>ω
 |m,n+1,i,hm,hn,hi=>by
  unfold gj.l3 gj.m3
  by_cases h:i<l.length
  ·have:=KM N (gj.l3 N n) hl i h i N 0 ω ω ω (λj hj=>ω)
   rw[aQ ω,aj]
   refine Eq.trans this ?_
   exact HU N hl hN (m-1) n (i+1) ω ω ω
  ·rw[aP ω,av,show i=l.length by omega];rfl
theorem WY(N:Nat){l:List Int}(hl:l.length≤100000)(hN:l.length<N):gj N l=some (lA l):=by
 unfold gj gj.b
 exact HU N hl hN l.length N 0 ω ω ω
def KN(l:List Int):Prop:= ∀x∈l,-9223372036854775808≤x∧x<9223372036854775808
def Pos(l:List Int):Prop:= ∀x∈l,0≤x
def may(w:List Int):Bool:=decide (w.length≤64)&&w.all (λx=>decide (0≤x))
theorem pW{w:List Int}:may w=true↔w.length≤64∧Pos w:=by
 unfold may Pos;rw[bP,fR,pL]
 simp only[fR]
theorem HV(N:Nat){l:List Int}(hl:l.length≤1000000): ∀(m n i:Nat),l.length-i≤m→m<n→i≤l.length→ ∃r,qS.l4 N n l (i:Int)=some r∧(r=true↔ ∃x∈l.drop i,x<0)
 |m,0,i,_,hn,_=>ω
 |m,n+1,i,hm,hn,hi=>by
  unfold qS.l4 qS.dL
  by_cases h:i<l.length
  ·have hd:l.drop i=l.getD i 0::l.drop (i+1):=by
    rw[ri h,aW,bl h];rfl
   rw[aQ ω,aj,aU ω ω,aj,aG,hd]
   by_cases hx:l.getD i 0<0
   ·rw[aQ hx,aj]
    exact⟨_,rfl,λ_=>⟨_,bt ..,hx⟩,λ_=>rfl⟩
   ·rw[aP ω,av,aw ω ω]
    obtain⟨r,e,h1⟩:=HV N hl (m-1) n (i+1) ω ω ω
    refine⟨r,e,h1.trans ⟨λ⟨x,Sa,Yx⟩=>⟨x,a8 _ Sa,Yx⟩,λ⟨x,Sa,Yx⟩=> ?_⟩⟩
    rcases bc.1 Sa with rfl|Sa
    ·exact absurd Yx hx
    ·exact⟨x,Sa,Yx⟩
  ·rw[aP ω,av,xk ω]
   exact⟨_,rfl,(λh=>nomatch h),λ⟨x,hx,_⟩=>nomatch hx⟩
theorem HW(N:Nat){w:List Int}(hN:100≤N)(t:Int):qS N t w=some (decide (t<0)|| !may w):=by
 unfold qS qS.b
 by_cases ht:t<0
 ·rw[aQ ht,aj,aV ht];rfl
 rw[aP ω,av,bu ht,p7]
 by_cases h:w.length≤64
 ·rw[aP ω,av]
  obtain⟨r,e,hr⟩:=HV N (l:=w) ω w.length N 0 ω ω ω
  rw[cJ]at hr
  rw[show((0:Nat):Int)=0 from rfl]at e
  rw[e]
  congr 1
  rw[p5,hr,sb,xq,Ne,pW]
  constructor
  ·rintro⟨x,hx,YV⟩ h;have:=h.2 x hx;omega
  ·intro h1
   by_cases h2: ∃x∈w,x<0
   ·exact h2
   ·exact absurd ⟨h,λx hx=>by
     by_cases YV:x<0
     ·exact absurd ⟨x,hx,YV⟩ h2
     ·omega⟩ h1
 ·rw[aQ ω,aj]
  have:may w=false:=by
   rw[xq];intro hm;exact h (pW.1 hm).1
  rw[this];rfl
def bump(q:List Int):List Int→List Int
 |[]=>q
 |k::t=>bump (q.set k.toNat (q.getD k.toNat 0+1)) t
def tB(t S:Int)(w:List Int):List Int:=w.map λx=>t*x/S
def mu(t S:Int)(w:List Int):List Int:=w.map λx=>t*x%S
def cn(t:Int)(w:List Int):List Int:=
 bump (tB t w.sum w) ((lA (mu t w.sum w)).take (t-(tB t w.sum w).sum).toNat)
def sU(t:Int)(w:List Int):List Int×Int:=
 if t<0∨may w=false then([],1)else if 9223372036854775808≤w.sum then([],2)
 else if w.sum=0 then(if t=0 then(List.replicate w.length 0,0)else([],1))else(cn t w,0)
theorem PC: ∀(ks q:List Int),(bump q ks).length=q.length
 |[],q=>rfl
 |k::t,q=>by unfold bump;rw[PC t];simp
theorem Mu: ∀(q:List Int) (k:Nat) (x:Int),k<q.length→(q.set k x).sum=q.sum-q.getD k 0+x
 |[],k,x,h=>absurd h (by simp)
 |a::q,0,x,h=>by simp;omega
 |a::q,k+1,x,h=>by
  have:=Mu q k x (by simpa using h)
  simp[this];omega
theorem kM: ∀{q:List Int},Pos q→0≤q.sum
 |[],_=>by simp
 |a::q,h=>by
  have:=kM (q:=q) (λx hx=>h x (a8 _ hx))
  have:=h a (bt ..)
  rw[cK];omega
theorem Au: ∀{q:List Int},Pos q→ ∀i,q.getD i 0≤q.sum
 |[],_,i=>by simp
 |a::q,h,0=>by
  have:=kM (q:=q) (λx hx=>h x (a8 _ hx))
  rw[cK];simp;omega
 |a::q,h,i+1=>by
  have:=Au (q:=q) (λx hx=>h x (a8 _ hx)) i
  have:=h a (bt ..)
  rw[cK];simp;simp at*;omega
theorem iP{q:List Int}(h:Pos q)(i:Nat):0≤q.getD i 0:=by
 by_cases hi:i<q.length
 ·exact h _ (HT hi)
 ·rw[vW q ω];omega
theorem adp{q:List Int}(h:Pos q){x:Int}(hx:0≤x)(k:Nat):Pos (q.set k x):=λy hy=>by
 rcases uG hy with hy|rfl
 ·exact h y hy
 ·exact hx
theorem PD{q:List Int}(h:Pos q)(n:Nat):Pos (q.take n):=λx hx=>h x (lJ hx)
theorem PE: ∀(ks q:List Int),(∀k∈ks,0≤k∧k<q.length)→(bump q ks).sum=q.sum+ks.length
 |[],q,_=>by simp[bump]
 |k::t,q,h=>by
  have hk:=h k (bt ..)
  unfold bump
  rw[PE t _ (λx hx=>by rw[bU];exact h x (a8 _ hx)),Mu q _ _ ω,aT];omega
theorem yr(t S:Int)(w:List Int):(tB t S w).length=w.length:=by unfold tB;rw[cz]
theorem qt(t S:Int)(w:List Int):(mu t S w).length=w.length:=by unfold mu;rw[cz]
theorem UU{t S:Int}{w:List Int}(i:Nat):(tB t S w).getD i 0=t*w.getD i 0/S:=by
 unfold tB
 by_cases h:i<w.length
 ·rw[aW,n0,bl h,aW,bl h];rfl
 ·rw[vW _ (by rw[cz];omega),vW w ω];simp
theorem UW{t S:Int}{w:List Int}(i:Nat):(mu t S w).getD i 0=t*w.getD i 0%S:=by
 unfold mu
 by_cases h:i<w.length
 ·rw[aW,n0,bl h,aW,bl h];rfl
 ·rw[vW _ (by rw[cz];omega),vW w ω];simp
theorem HX{t S:Int}{w:List Int}(ht:0≤t)(hS:0≤S)(hw:Pos w):Pos (tB t S w):=λx hx=>by
 obtain⟨y,hy,rfl⟩:=cV.1 hx
 exact uN (uQ ht (hw y hy)) hS
theorem PF{t S:Int}{w:List Int}(hS:0<S):Pos (mu t S w):=λx hx=>by
 obtain⟨y,hy,rfl⟩:=cV.1 hx
 exact Gl _ ω
theorem Mv(t S:Int): ∀w:List Int,S*(tB t S w).sum+(mu t S w).sum=t*w.sum
 |[]=>by simp[tB,mu]
 |x::w=>by
  have h:=Mv t S w
  have e:=NV (t*x) S
  unfold tB mu at*
  simp only[bV,cK,mD]
  omega
theorem Z1{t S:Int}{w:List Int}(ht:0≤t)(hS:0<S)(h:w.sum≤S):(tB t S w).sum≤t:=by
 have e:=Mv t S w
 have h1:=kM (PF (t:=t) (w:=w) hS)
 have h2:=yT h ht
 have h3:S*(tB t S w).sum≤S*t:=by rw[jm S t];omega
 exact NL h3 hS
theorem Et{w:List Int}(h:Pos w)(i:Nat):(w.take i).sum≤w.sum:=by
 have e:w.take i++w.drop i=w:=gP i w
 have h1:(w.take i).sum+(w.drop i).sum=w.sum:=by rw[←nZ,e]
 have:=kM (q:=w.drop i) (λx hx=>h x (mW hx))
 omega
theorem KO(t S:Int)(w:List Int)(i:Nat):(tB t S w).take i=tB t S (w.take i):=by unfold tB;rw[List.map_take]
theorem HY(N:Nat){ks:List Int}(hl:ks.length≤1000000)(L:Nat)(hk: ∀k∈ks,0≤k∧k<L): ∀(m n i left:Nat) (q:List Int),ks.length-i≤m→m<n→i≤ks.length→q.length=L→Pos q→left≤9223372036854775807→q.sum+left≤9223372036854775807→
  gy.yk N n q (left:Int) ks (i:Int)=some (bump q ((ks.drop i).take left),0)
 |m,0,i,left,q,_,hn,_,_,_,_,_=>ω
 |m,n+1,i,left,q,hm,hn,hi,hq,hp,hle,hs=>by
  unfold gy.yk gy.w8
  by_cases h:i<ks.length
  ·have hd:ks.drop i=ks.getD i 0::ks.drop (i+1):=by
    rw[ri h,aW,bl h];rfl
   have G0:=hk _ (HT h)
   rw[aQ ω,aj]
   match left,hle,hs with
   |0,hle,hs=>rw[aP ω,av,mB];rfl
   |left+1,hle,hs=>
    rw[aQ ω,aj,aU ω ω,aj,aG,aU ω ω,aj,aj,hd]
    have h1:=Au hp (ks.getD i 0).toNat
    have h2:=iP hp (ks.getD i 0).toNat
    rw[aw (x:=q.getD _ 0+1) ω ω,aw (x:=(i:Int)+1) ω ω,aw ω ω,show((left+1:Nat):Int)-1=(left:Int)by omega]
    refine(HY N hl L hk (m-1) n (i+1) left _ ω ω ω (by rw[bU];exact hq) (adp hp ω _) ω ?_).trans rfl
    rw[Mu q _ _ ω];omega
  ·rw[aP ω,av,xk ω,List.take_nil];rfl
theorem HZ(l:List Int): ∀k∈lA l,0≤k∧k<l.length:=λk hk=>(uc l).1 hk
theorem take_set(l:List Int){i:Nat}(x:Int)(h:i<l.length):(l.set i x).take (i+1)=l.take i++[x]:=by
 rw[iW (l.set i x) (by rw[bU];exact h),nG l x h,List.take_set_of_le ω]
theorem Mw{v:Int}(h0: -9223372036854775808≤v)(h1:v<9223372036854775808):CX v=(v,true):=by unfold CX;rw[ak ⟨h0,h1⟩]
end VM
end
