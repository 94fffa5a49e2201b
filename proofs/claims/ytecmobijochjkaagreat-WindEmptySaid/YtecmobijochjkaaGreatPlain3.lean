/- A part of the proof of WindEmpty of layer 21: what the functions compute, in plain words. -/
import Derived.Test.YtecmobijochjkaaGreatPlain2
import Derived.Test.YtecmobijochjkaaGreatVm6
import Derived.Test.YtecmobijochjkaaGreatPlain0
set_option linter.all false
section
namespace VM
open Go VM.F
theorem WW(N:Nat)(hN:2000000≤N){b:an}{s e:au}(w:gN b)(hr:eA b.2.2.1=true)(hs:cB b.2.2.2.1=true)(lr:b.2.2.1.length≤90000)(ls:b.2.2.2.1.length≤90000)(gs:WK s)(ge:WR e):
  F68 N b s (e.map jS)=some (eu b s e):=by
 unfold F68 eu
 rw[WV N w,ar,aak N hN hs ls w.qs gs,WS N hN hr lr w.qr ge,TZ hs gs.place,WU hr ge.key]
 unfold uE
 rw[ar,ar]
 have e1:aO 2 0=false:=dX ω
 have e2:aO 0 0=true:=dW rfl
 cases eg Fq (fS b.2.2.2.1 s) jA with
 |none=>dsimp only;rw[e1];rfl
 |some s'=>
  cases eg aD (fS b.2.2.1 e) nu with
  |none=>dsimp only;rw[e1,e2];rfl
  |some r'=>dsimp only;rw[e2];rfl
theorem Se(N:Nat)(C:eF.bS){l:aK}(hl:l.length≤100000)(i:Nat)(hi:i<l.length): ∀(m n k:Nat),i-k≤m→m<n→k≤i→(l.take k).any (ra (l.getD i aV).2.2.1 (l.getD i aV).2.1)=false→
  eF.l9 N C n l (i:Int) (k:Int)=cond ((l.take i).any (ra (l.getD i aV).2.2.1 (l.getD i aV).2.1)) (some false) (C l ((i+1:Nat):Int))
 |m,0,k,_,hn,_,_=>ω
 |m,n+1,k,hm,hn,hk,hb=>by
  unfold eF.l9 eF.xA
  by_cases h:k<i
  ·have wL:=Se N C hl i hi (m-1) n (k+1) ω ω ω
   have ht:(l.take (k+1)).any (ra (l.getD i aV).2.2.1 (l.getD i aV).2.1)=ra (l.getD i aV).2.2.1 (l.getD i aV).2.1 (l.getD k aV):=by
    have ek:l.getD k aV=l[k]' ω:=by rw[aU,bk (show k<l.length by omega)];rfl
    rw[←pT (show k<l.length by omega),List.any_append,hb,ek,List.any_cons,List.any_nil,td,tc]
   have lT:ra (l.getD i aV).2.2.1 (l.getD i aV).2.1 (l.getD k aV)=true→(l.take i).any (ra (l.getD i aV).2.2.1 (l.getD i aV).2.1)=true:=λhh=>by
    refine zy.2 ⟨l.getD k aV,?_,hh⟩
    rw[aU,bk (show k<l.length by omega)]
    exact List.mem_take_iff_getElem.2 ⟨k,ω,rfl⟩
   rw[aT ω,aq,a6 ω ω,aq,a6 ω ω,aq,aq,aq,aJ,aJ,aN,aN,ay (x:=(k:Int)+1) ω ω,ag k]
   by_cases h1:(l.getD k aV).2.2.1=(l.getD i aV).2.2.1
   ·by_cases h2:(l.getD k aV).2.1=(l.getD i aV).2.1
    ·rw[aj h1,aj h2,lT (by unfold ra dx;rw[bu h1,bu h2];rfl)];rfl
    ·rw[aj h1,ah h2]
     exact wL (by rw[ht];unfold ra dx;rw[cj h2,Ex])
   ·rw[ah h1]
    exact wL (by rw[ht];unfold ra dx;rw[cj h1,vS])
  ·have:k=i:=ω
   subst this
   rw[aP ω,av,hb,av,ay (x:=(k:Int)+1) ω ω,ag k]
theorem tJ(N:Nat){l:aK}(hl:l.length≤100000)(hN:200000≤N):eF N l=some (WH l):=by
 unfold eF eF.b WH
 by_cases h40:l.length≤40
 ·rw[aP ω,av,bu h40]
  refine iq (F:=λn i=>eF.l4 N n l i) (Av l) (λn i r hi hp hr=> ?_) (λn=> ?_) N ω
  ·unfold eF.l4 eF.ei eF.j8 eF.WX
   have lT:eF.l9 N (eF.l4 N n) N l (i:Int) 0=_:=Se N (eF.l4 N n) hl i hi i N 0 ω ω ω rfl
   rw[aT ω,aq,a6 ω ω,aq,aq,aJ,R6,ar,cond_not,gg,lT,hr]
   have hT:cond ((l.take i).any (ra (l.getD i aV).2.2.1 (l.getD i aV).2.1)) (some false) r=if(l.take i).any (ra (l.getD i aV).2.2.1 (l.getD i aV).2.1)=false then r else some false:=by
    cases(l.take i).any (ra (l.getD i aV).2.2.1 (l.getD i aV).2.1)<;>rfl
   rw[hT]
   by_cases hK:IC (l.getD i aV)
   ·rw[aj hK]
    have hD:(if Av l i then r else some false)=if tD i (l.getD (i-1) aV).1 (l.getD i aV).1 then(if(l.take i).any (ra (l.getD i aV).2.2.1 (l.getD i aV).2.1)=false then r else some false)else some false:=by
     by_cases h1:tD i (l.getD (i-1) aV).1 (l.getD i aV).1<;>by_cases h2:(l.take i).any (ra (l.getD i aV).2.2.1 (l.getD i aV).2.1)=false
     ·rw[aj h1,aj h2,aj ⟨hK,h1,h2⟩]
     ·rw[aj h1,ah h2,ah (λh=>h2 h.2.2)]
     ·rw[ah h1,ah (λh=>h1 h.2.1)]
     ·rw[ah h1,ah (λh=>h1 h.2.1)]
    rw[hD]
    by_cases h0:0<i
    ·have e:W .i64 ((i:Int)-1)=((i-1:Nat):Int):=by rw[ay ω ω];omega
     rw[aT (x:=0) (y:=(i:Int)) ω,aq,e]
     dsimp only
     rw[aJ,a6 ω ω,aq,cG]
     by_cases h1:tD i (l.getD (i-1) aV).1 (l.getD i aV).1
     ·rw[aj h1,ah (by unfold tD at h1;omega)]
     ·rw[ah h1,aj (by unfold tD at h1;omega)]
    ·rw[aP (x:=0) (y:=(i:Int)) ω,av,aj (show tD i (l.getD (i-1) aV).1 (l.getD i aV).1 from λh=>absurd h h0)]
   ·rw[ah hK,ah (λh=>hK h.1)]
  ·unfold eF.l4 eF.ei
   rw[aP ω,av]
 ·rw[aT ω,aq,cj h40,Ex]
end VM
end
section
namespace VM
open Go VM.F
def uK(s w p:Int):Prop:=((s=1∨s=3)∧w=0∧p=0)∨(s=2∧1≤w∧w≤12∧ -1152921504606846976≤p∧p≤1152921504606846976)
instance(s w p:Int):Decidable (uK s w p):=by unfold uK;infer_instance
def FH(a:Int):Prop:=1≤a∧a≤1099511627776
instance(a:Int):Decidable (FH a):=by unfold FH;infer_instance
def WY(a b:Int):Prop:=a≤b
instance(a b:Int):Decidable (WY a b):=by unfold WY;infer_instance
def D2(c:ae)(l:bA)(i:Nat):Prop:=
 FH (l.getD i ((0:Int),(ck,aV))).1∧tD i (l.getD (i-1) ((0:Int),(ck,aV))).1 (l.getD i ((0:Int),(ck,aV))).1∧ ¬dx ((l.getD i ((0:Int),(ck,aV))).2.1.length:Int) 0∧mi c (l.getD i ((0:Int),(ck,aV))).2.1=true∧WY (l.getD i ((0:Int),(ck,aV))).2.2.1 0∧uK (l.getD i ((0:Int),(ck,aV))).2.2.2.1 (l.getD i ((0:Int),(ck,aV))).2.2.2.2.1 (l.getD i ((0:Int),(ck,aV))).2.2.2.2.2.1
instance(c:ae)(l:bA):DecidablePred (D2 c l):=λi=>by unfold D2;infer_instance
def BI(c:ae)(l:bA):Bool:=fM c&&(decide (l.length≤12)&&(decide (∀j,j<l.length→D2 c l j)&&true))
def IP(l:bA):Prop:= ∀x∈l,x.2.1.length≤100000
theorem Qz{l:bA}(h:IP l)(i:Nat):(l.getD i ((0:Int),(ck,aV))).2.1.length≤100000:=by
 by_cases hi:i<l.length
 ·rw[aU,bk hi];exact h _ (dB hi)
 ·rw[aU,gG ω];exact bo _
theorem aap(s w p:Int)(r:Option Bool):
  cond (aO s 1) (cond (!aO w 0) (some false) (cond (!aO p 0) (some false) r)) (cond (aO s 3) (cond (!aO w 0) (some false) (cond (!aO p 0) (some false) r)) (cond (aO s 2) (cond (aY w 1) (some false) (cond (aY 12 w) (some false) (cond (aY p (-1152921504606846976)) (some false) (cond (aY 1152921504606846976 p) (some false) r)))) (some false)))=
   if uK s w p then r else some false:=by
 simp only[cond_not,aN,cQ]
 by_cases h:uK s w p
 ·rw[aj h];unfold uK at h
  repeat' split
  all_goals first|rfl|omega
 ·rw[ah h];unfold uK at h
  repeat' split
  all_goals first|rfl|omega
theorem T4{A B C D E F:Prop} [Decidable A] [Decidable B] [Decidable C] [Decidable D] [Decidable E] [Decidable F](r:Option Bool):
  (if A then(if B then(if C then(if D then(if E then(if F then r else some false)else some false)else some false)else some false)else some false)else some false)=if A∧B∧C∧D∧E∧F then r else some false:=by
 by_cases hA:A<;>by_cases hB:B<;>by_cases hC:C<;>by_cases hD:D<;>by_cases hE:E<;>by_cases hF:F<;>simp only[hA,hB,hC,hD,hE,hF,gB,eT,and_self,eS,and_false,false_and,true_and]
theorem WZ{a b n f s w p:Int}{i:Nat}{o:Bool}{r:Option Bool}:
  cond (aY a 1) (some false) (cond (aY 1099511627776 a) (some false) (if tD i b a then(cond (aO n 0) (some false) (cond (!o) (some false) (cond (aY 0 f) (some false) (if uK s w p then r else some false))))else some false))=
   if FH a∧tD i b a∧ ¬dx n 0∧o=true∧WY f 0∧uK s w p then r else some false:=by
 rw[←T4]
 simp only[cond_not,aN,cQ]
 by_cases h1:FH a
 ·have py:=h1
  unfold FH at py
  rw[aj h1,ah ω,ah ω]
  by_cases h2:tD i b a
  ·rw[aj h2,aj h2]
   by_cases h3:n=0
   ·rw[aj h3,ah (show ¬ ¬dx n 0 from λh=>h h3)]
   ·rw[ah h3,aj (show ¬dx n 0 from h3)]
    cases o
    ·rfl
    ·rw[aq,aj rfl]
     by_cases h4:f≤0
     ·rw[aj (show WY f 0 from h4),ah ω]
     ·rw[ah (show ¬WY f 0 from h4),aj ω]
  ·rw[ah h2,ah h2]
 ·have py:=h1
  unfold FH at py
  rw[ah h1]
  by_cases h2:a<1
  ·rw[aj h2]
  ·rw[ah h2,aj ω]
theorem W0{i:Nat}{a b:Int}{r:Option Bool}(h0:0<i):cond (dj a b) (some false) r=if tD i b a then r else some false:=by
 rw[cG]
 by_cases h1:tD i b a
 ·rw[aj h1,ah (by unfold tD at h1;omega)]
 ·rw[ah h1,aj (by unfold tD at h1;omega)]
theorem AF(N:Nat)(hN:200000≤N)(c:ae){l:bA}(hl:l.length≤100000)(hw:IP l):iS N c l=some (BI c l):=by
 unfold iS iS.b BI
 rw[nf N ω,ar]
 cases fM c
 ·rfl
 rw[bn,av,mZ]
 by_cases h12:l.length≤12
 ·rw[aP ω,av,bu h12,mZ]
  refine iq (F:=λn i=>iS.l4 N n l c i) (D2 c l) (λn i r hi hp hr=> ?_) (λn=> ?_) N ω
  ·unfold iS.l4 iS.ei iS.j9 iS.Nl
   rw[aT ω,aq,a6 ω ω,aq,aJ,wU N hN c (Qz hw i),ar,ay (x:=(i:Int)+1) ω ω,ag i,hr,aap]
   refine Eq.trans ?_ WZ
   by_cases h0:0<i
   ·have e:W .i64 ((i:Int)-1)=((i-1:Nat):Int):=by rw[ay ω ω];omega
    rw[aT (x:=0) (y:=(i:Int)) ω,aq,e]
    dsimp only
    rw[aJ,a6 ω ω,aq,W0 h0]
   ·rw[aP (x:=0) (y:=(i:Int)) ω,av,aj (show tD i (l.getD (i-1) ((0:Int),(ck,aV))).1 (l.getD i ((0:Int),(ck,aV))).1 from λh=>absurd h h0)]
  ·unfold iS.l4 iS.ei
   rw[aP ω,av]
 ·rw[aT ω,aq,cj h12,vS]
end VM
end
section
namespace VM
open Go VM.F
abbrev AwS:=au×au×bA
def CP(a:Int):Prop:=0≤a∧a<6
structure FI(t:aE):Prop where
 len:t.length≤6
 inst: ∀y∈t,CP y.1
 q: ∀y∈t,aD y.2.1∧p4 y.2.1
theorem IQ{c:ae}{t:aE}(h:mi c t=true)(nR: ∀y∈t,aD y.2.1):FI t:=by
 unfold mi at h
 obtain⟨h1,h2⟩:=cO.1 h
 have py:=bz h1
 have h6:c.1.length≤6:=by
  unfold fM at h2
  exact(bz (cO.1 h2).1).2
 have get: ∀(i:Nat) (hi:i<t.length),t.getD i cD=t[i]:=λi hi=>by rw[aU,bk hi];rfl
 have PU: ∀i,i<t.length→nj (t.getD i cD).1 (t.getD i cD).2.1 c.1.length i (t.getD (i-1) cD).1:=py
 have inc: ∀i,i<t.length→(i:Int)≤(t.getD i cD).1:=by
  intro i
  induction i with
  |zero=>intro hi;exact(PU 0 hi).1
  |succ i ih=>
   intro hi
   have a:=ih ω
   have b:=(PU (i+1) hi).2.2.2.2 ω
   rw[Nat.add_sub_cancel]at b
   have g: ∀x y:Int,(i:Int)≤x→x<y→((i+1:Nat):Int)≤y:=λx y _ _=>ω
   exact g _ _ a b
 refine⟨?_,λy hy=> ?_,λy hy=> ?_⟩
 ·by_cases h0:t.length=0
  ·omega
  ·have a:=inc (t.length-1) ω
   have b:=(PU (t.length-1) ω).2.1
   have g: ∀x:Int,((t.length-1:Nat):Int)≤x→x<(c.1.length:Int)→t.length≤6:=λx _ _=>ω
   exact g _ a b
 ·obtain⟨i,hi,e⟩:=gj hy
  have:=PU i hi
  rw[get i hi,e]at this
  have g: ∀x:Int,0≤x→x<(c.1.length:Int)→CP x:=λx _ _=>by unfold CP;omega
  exact g _ this.1 this.2.1
 ·obtain⟨i,hi,e⟩:=gj hy
  have:=PU i hi
  rw[get i hi,e]at this
  exact⟨nR y hy,this.2.2.2.1⟩
structure af2(z:AwS)(i:Nat):Prop where
 place: ∀x∈z.1,bB x.1 x.2.1
 q: ∀x∈z.1,aD (dY x)∧p4 (dY x)
 len:z.1.length≤12*i
 flat: ∀a:Int,(c5 a z.1).sum=0
 key: ∀x∈z.2.1,cN x.1 x.2.1
 qe: ∀x∈z.2.1,aD (dY x)
 ay5:z.2.1.length≤2*i
 zero:(z.2.1.map dY).sum=0
 out:z.2.2.length=i
theorem yw(a:Int)(l m:au):c5 a (l++m)=c5 a l++c5 a m:=by
 induction l with
 |nil=>rfl
 |cons x t ih=>
  rw[kF,df,df,ih]
  split<;>rfl
theorem T6{v:Int}(h:aD v∧p4 v):aD (0-v)∧p4 (0-v):=by
 unfold aD p4 at*;omega
theorem af2.nil:af2 ([],[],[]) 0:=⟨λx hx=>(nomatch hx),λx hx=>(nomatch hx),aG _,λa=>rfl,λx hx=>(nomatch hx),λx hx=>(nomatch hx),aG _,rfl,rfl⟩
end VM
end
section
namespace VM
open Go VM.F
theorem dt{c:ae}{b:an}(h:dy c b=true):eA b.2.2.1=true∧cB b.2.2.2.1=true:=by
 unfold dy at h
 have h1:=(cO.1 (cO.1 h).2).2
 have h2:=cO.1 h1
 have h3:=(cO.1 (cO.1 h2.2).2).1
 refine⟨h2.1,?_⟩
 unfold oi at h3
 exact(cO.1 h3).2
structure AG(b:an):Prop where
 w:gN b
 r:b.2.2.1.length≤90000
 s:b.2.2.2.1.length≤90000
end VM
end
section
namespace VM
open Go VM.F
end VM
end
section
namespace VM
open Go VM.F
theorem nv(x:Int):aO x x=true:=dW rfl
theorem ahQ(x:yV):ql (.pair (.int .i64) (.pair (.int .i64) .unit)) x x=true:=by
 show(aO x.1 x.1&&(aO x.2.1 x.2.1&&true))=true
 rw[nv,nv];rfl
theorem ahR(x:da):ql (.pair (.int .i64) (.pair (.int .i64) (.pair (.int .i64) .unit))) x x=true:=by
 show(aO x.1 x.1&&ql (.pair (.int .i64) (.pair (.int .i64) .unit)) x.2 x.2)=true
 rw[nv,ahQ];rfl
theorem W1(x:bI):ql (.pair (.int .i64) (.pair (.int .i64) (.pair (.int .i64) (.pair (.int .i64) .unit)))) x x=true:=by
 show(aO x.1 x.1&&ql (.pair (.int .i64) (.pair (.int .i64) (.pair (.int .i64) .unit))) x.2 x.2)=true
 rw[nv,ahR];rfl
theorem ahS(x:gm):ql (.pair (.int .i64) (.pair (.int .i64) (.pair (.int .i64) (.pair (.int .i64) (.pair (.int .i64) (.pair (.int .i64) .unit)))))) x x=true:=by
 show(aO x.1 x.1&&(aO x.2.1 x.2.1&&ql (.pair (.int .i64) (.pair (.int .i64) (.pair (.int .i64) (.pair (.int .i64) .unit)))) x.2.2 x.2.2))=true
 rw[nv,nv,W1];rfl
theorem BJ{F:Nat→Int→Option Bool}{len:Nat}(hs: ∀n (i:Nat),i<len→F n ((i+1:Nat):Int)=some true→F (n+1) (i:Int)=some true)(he: ∀n,F (n+1) (len:Int)=some true): ∀(m n i:Nat),len-i≤m→m<n→i≤len→F n (i:Int)=some true
 |m,0,i,_,hn,_=>ω
 |m,n+1,i,hm,hn,hi=>by
  by_cases h:i<len
  ·exact hs n i h (BJ hs he (m-1) n (i+1) ω ω ω)
  ·have:i=len:=ω
   subst this;exact he n
theorem W2(N:Nat){l:aK}(hl:l.length≤100000)(hN:200000≤N):DC N l l=some true:=by
 unfold DC DC.b
 rw[nv,bn,av]
 refine BJ (F:=λn i=>DC.l4 N n l l i) (len:=l.length) (λn i hi hr=> ?_) (λn=> ?_) l.length N 0 ω ω ω
 ·unfold DC.l4 DC.ei
  rw[aT ω,aq,a6 ω ω,aq,aq,W1,bn,av,ay (x:=(i:Int)+1) ω ω,ag i]
  exact hr
 ·unfold DC.l4 DC.ei
  rw[aP ω,av]
theorem QA(N:Nat){l:bs}(hl:l.length≤100000)(hN:200000≤N):DD N l l=some true:=by
 unfold DD DD.b
 rw[nv,bn,av]
 refine BJ (F:=λn i=>DD.l4 N n l l i) (len:=l.length) (λn i hi hr=> ?_) (λn=> ?_) l.length N 0 ω ω ω
 ·unfold DD.l4 DD.ei
  rw[aT ω,aq,a6 ω ω,aq,aq,ahS,bn,av,ay (x:=(i:Int)+1) ω ω,ag i]
  exact hr
 ·unfold DD.l4 DD.ei
  rw[aP ω,av]
theorem FJ{P:Int→Prop} [DecidablePred P]{f:Int→Int→Int}: ∀{K:List cW} {o:au},eg P f K=some o→o.length≤K.length
 |[],o,h=>by
  have:some []=some o:=h
  rw[←oG this];exact aG _
 |k::t,o,h=>by
  rw[kO]at h
  by_cases hP:P (f k.1 k.2)
  ·rw[aj hP]at h
   cases hc:eg P f t with
   |none=>rw[hc]at h;exact absurd h (by simp)
   |some r=>
    have ih:=FJ hc
    rw[hc]at h
    have h':=oG h
    rw[←h',aR]
    dsimp only
    split
    ·omega
    ·rw[aR];omega
  ·rw[ah hP]at h;exact absurd h (by simp)
theorem QB:jA.length=150:=by decide+kernel
theorem T7:nu.length=175:=by decide+kernel
structure W3(b:an):Prop where
 m:b.1.length≤100000
 a:b.2.1.length≤100000
 r:b.2.2.1.length≤100000
 s:b.2.2.2.1.length≤100000
 p:b.2.2.2.2.1.length≤100000
 o:b.2.2.2.2.2.1.length≤100000
theorem xE:W3 (([]:aE),(([]:aK),(([]:au),(([]:au),(([]:List Int),(([]:bs),())))))):=⟨bo _,bo _,bo _,bo _,bo _,bo _⟩
theorem Ny{b:an}(w:gN b)(s e:au):W3 (eu b s e).1:=by
 unfold eu
 cases h1:eg Fq (fS b.2.2.2.1 s) jA with
 |none=>exact xE
 |some s'=>
  cases h2:eg aD (fS b.2.2.1 e) nu with
  |none=>exact xE
  |some r'=>
   have g1:=FJ h1
   have g2:=FJ h2
   rw[QB]at g1
   rw[T7]at g2
   exact⟨w.m,w.a,by show r'.length≤_;omega,by show s'.length≤_;omega,w.p,w.o⟩
end VM
end
section
namespace VM
open Go VM.F Go.RowKit
def ga(a b:Int):au→Int
 |[]=>0
 |x::t=>if x.1=a then(if x.2.1=b then x.2.2.1 else ga a b t)else ga a b t
theorem gq(a b:Int)(x:da)(t:au):ga a b (x::t)=if x.1=a then(if x.2.1=b then x.2.2.1 else ga a b t)else ga a b t:=rfl
def dk(l:au)(a b:Int):Int:=if cB l then ga a b l else 0
def gv(l:au)(a b:Int):Int:=if eA l then ga a b l else 0
theorem sE(N:Nat){l:au}(hl:l.length≤100000)(hN:200000≤N)(a b:Int):yZ N l a b=some (dk l a b):=by
 unfold yZ yZ.b dk
 rw[kM N hl hN,ar,cond_not]
 have:=Ao l bl (λn i=>yZ.l4 N n l a b i) (λt=>some (ga a b t)) (λn i hi hr=> ?_) (λn=> ?_) N ω
 ·rw[this];cases cB l<;>rfl
 ·unfold yZ.l4 yZ.ei
  rw[aT ω,aq,a6 ω ω,aq,aq,aq,aJ,ay (x:=(i:Int)+1) ω ω,ag i,hr,aN,aN,gq]
  split
  ·split<;>rfl
  ·rfl
 ·unfold yZ.l4 yZ.ei
  rw[aP ω,av];rfl
theorem uM(N:Nat){l:au}(hl:l.length≤100000)(hN:200000≤N)(a b:Int):s6 N l a b=some (gv l a b):=by
 unfold s6 s6.b gv
 rw[Fy N hl hN,ar,cond_not]
 have:=Ao l bl (λn i=>s6.l4 N n l a b i) (λt=>some (ga a b t)) (λn i hi hr=> ?_) (λn=> ?_) N ω
 ·rw[this];cases eA l<;>rfl
 ·unfold s6.l4 s6.ei
  rw[aT ω,aq,a6 ω ω,aq,aq,aq,aJ,ay (x:=(i:Int)+1) ω ω,ag i,hr,aN,aN,gq]
  split
  ·split<;>rfl
  ·rfl
 ·unfold s6.l4 s6.ei
  rw[aP ω,av];rfl
theorem D3{l:au}(h: ∀i,i<l.length→aD (dY (l.getD i bl))):dS l:=λx hx=>by
 obtain⟨i,hi,e⟩:=gj hx
 have:=h i hi
 rw[aU,bk hi]at this
 rw[←e];exact this
namespace Pure
end Pure
end VM
end
section
namespace VM
open Go VM.F
theorem aaq(N:Nat){x:Int}(h:aD x):F66 N (dP x)=some (dP (-x),true):=by
 unfold F66 ahT dP
 unfold aD at h
 dsimp only
 rw[vi,vi,wE N ω ω ω ω ω ω,ar]
 dsimp only
 have hb:(0:Int)≤(if(0:Int)<x%18446744073709551616+0 then 1 else 0)∧(if(0:Int)<x%18446744073709551616+0 then(1:Int)else 0)≤1:=by split<;>omega
 rw[wE N ω ω ω ω hb.1 hb.2,ar]
 dsimp only
 have key: ∀{z:cz},z=dP (-x)→((some (z,true):Option (cz×Bool)).bind λr1=>some (r1.1,r1.2))=some (dP (-x),true):=λe=>by rw[e];rfl
 by_cases h0:x=0
 ·subst h0
  rw[ah ω,ay ω ω,aP (x:=0) (y:=0) ω,aP (x:=0/18446744073709551616) ω]
  simp only[o0,s8,bn,av]
  refine key (wmk ?_ ?_)<;>omega
 ·rw[aj ω]
  by_cases h1:0<x
  ·rw[aP (x:=0) (y:=0) ω,aP (x:=x/18446744073709551616) ω]
   simp only[o0,s8,bn,av]
   refine key (wmk ?_ ?_)
   ·rw[iG];split<;>omega
   ·omega
  ·have e:W .i64 ((0%18446744073709551616-x/18446744073709551616%18446744073709551616-1)%18446744073709551616)=0:=by rw[iG];split<;>omega
   rw[e,aP (x:=0) (y:=0) ω,aT (x:=x/18446744073709551616) ω,o0,o0]
   refine key (wmk ?_ ?_)<;>omega
theorem Sf(N:Nat){l:au}(hl:l.length≤100000)(hN:200000≤N)(a b:Int):BK N l a b=some (gv l a b):=by
 unfold BK BK.b gv
 rw[DZ N hl hN,ar,cond_not]
 have:=Ao l bl (λn i=>BK.l4 N n a b l (l.length:Int) i) (λt=>some (ga a b t)) (λn i hi hr=> ?_) (λn=> ?_) N ω
 ·rw[this];cases eA l<;>rfl
 ·unfold BK.l4 BK.ei
  rw[aT ω,aq,a6 ω ω,aq,aJ,ay (x:=(i:Int)+1) ω ω,ag i,hr,aN,aN,gq]
  split
  ·split<;>rfl
  ·rfl
 ·unfold BK.l4 BK.ei
  rw[aP ω,av];rfl
theorem FK{l:au}(h:dS l)(a b:Int):aD (ga a b l):=by
 induction l with
 |nil=>show aD 0;decide
 |cons x t ih=>
  have ih:=ih (λy hy=>h y (aZ _ hy))
  rw[gq]
  split
  ·split
   ·exact h x (bm ..)
   ·exact ih
  ·exact ih
theorem AH{l:au}(h:dS l)(a b:Int):aD (gv l a b):=by
 unfold gv
 split
 ·exact FK h a b
 ·exact⟨δ,δ⟩
def iL(a:Int):au→aE
 |[]=>[]
 |x::t=>if x.1=a then(x.2.1,(x.2.2.1,()))::iL a t else iL a t
theorem kp(a:Int)(x:da)(t:au):iL a (x::t)=if x.1=a then(x.2.1,(x.2.2.1,()))::iL a t else iL a t:=rfl
def posOf(l:au)(a:Int):aE:=if cB l then iL a l else []
theorem FL(a:Int): ∀l:au,(iL a l).length≤l.length
 |[]=>aG _
 |x::t=>by
  have:=FL a t
  rw[kp,aR]
  split
  ·rw[aR];omega
  ·omega
theorem BL(a:Int)(l:au):(posOf l a).length≤l.length:=by
 unfold posOf
 split
 ·exact FL a l
 ·exact bo _
theorem je{a:Int}{y:yV}: ∀{l:au},y∈iL a l→ ∃x∈l,x.1=a∧y=(x.2.1,(x.2.2.1,()))
 |[],h=>nomatch h
 |x::t,h=>by
  rw[kp]at h
  by_cases e:x.1=a
  ·rw[aj e]at h
   rcases aW.1 h with h|h
   ·exact⟨x,bm ..,e,h⟩
   ·obtain⟨x',hx,h'⟩:=je h
    exact⟨x',aZ _ hx,h'⟩
  ·rw[ah e]at h
   obtain⟨x',hx,h'⟩:=je h
   exact⟨x',aZ _ hx,h'⟩
theorem FM{l:au}(h:dS l)(a:Int): ∀y∈posOf l a,aD y.2.1:=λy hy=>by
 unfold posOf at hy
 split at hy
 ·obtain⟨x,hx,_,rfl⟩:=je hy
  exact h x hx
 ·nomatch hy
theorem af3(N:Nat){l:au}(hl:l.length≤100000)(hN:200000≤N)(a:Int):BM N l a=some (posOf l a):=by
 unfold BM BM.b posOf
 rw[wM N hl hN,ar,cond_not]
 have:=oe l bl (λn i s=>BM.l5 N n a s l (l.length:Int) i) (λt s=>some (s++iL a t)) (λi (s:aE)=>s.length≤i) (λn i s hi hI hr=> ?_) (λn s hI=> ?_) l.length N 0 [] ω ω ω (aG _)
 ·have e:BM.l5 N N a [] l (l.length:Int) 0=some (iL a l):=this
  rw[e];cases cB l<;>rfl
 ·unfold BM.l5 BM.ed
  rw[aT ω,aq,a6 ω ω,aq,aJ,ay (x:=(i:Int)+1) ω ω,ag i,aN,bL (by rw[aI];omega),aq,kp]
  split
  ·rw[hr _ (by rw[aS,aI];omega),bt];rfl
  ·exact hr s ω
 ·unfold BM.l5 BM.ed
  rw[aP ω,av]
  show some s=some (s++[])
  rw[ch]
theorem QC(N:Nat){l:au}(hl:l.length≤100000)(hN:200000≤N)(a:Int):lE N l a=some (posOf l a):=by
 unfold lE lE.b posOf
 rw[kM N hl hN,ar,cond_not]
 have:=oe l bl (λn i s=>lE.l5 N n l a s i) (λt s=>some (s++iL a t)) (λi (s:aE)=>s.length≤i) (λn i s hi hI hr=> ?_) (λn s hI=> ?_) l.length N 0 [] ω ω ω (aG _)
 ·have e:lE.l5 N N l a [] 0=some (iL a l):=this
  rw[e];cases cB l<;>rfl
 ·unfold lE.l5 lE.ed
  rw[aT ω,aq,a6 ω ω,aq,aq,aq,aJ,ay (x:=(i:Int)+1) ω ω,ag i,aN,bL (by rw[aI];omega),aq,kp]
  split
  ·rw[hr _ (by rw[aS,aI];omega),bt];rfl
  ·exact hr s ω
 ·unfold lE.l5 lE.ed
  rw[aP ω,av]
  show some s=some (s++[])
  rw[ch]
def ou(c:ae)(y:yV):Int:=(c.1.getD y.1.toNat aV).2.2.2.1
def IS(c:ae)(l:aE):List Int:=l.map λy=>(y.2.1.natAbs:Int)*ou c y
def ov(c:ae)(l:aE):Int:=if mi c l then(IS c l).sum else 0
def AI(c:ae)(l:aE):Int:=if mi c l then 0 else 1
def uN(a n:Int):Prop:=0≤a∧a<n
structure ahU(c:ae)(y:yV):Prop where
 place:uN y.1 c.1.length
 size:(y.2.1.natAbs:Int)≤9223372036854775807
 q:aD y.2.1
 aar:0≤ou c y∧ou c y≤1000000000
theorem KF{c:ae}{t:aE}(h:mi c t=true)(nR: ∀y∈t,aD y.2.1): ∀y∈t,ahU c y:=λy hy=>by
 unfold mi at h
 obtain⟨h1,h2⟩:=cO.1 h
 obtain⟨i,hi,e⟩:=gj hy
 have a:=bz h1 i hi
 unfold nk nj at a
 rw[aU,bk hi]at a
 simp only[mW,e]at a
 have hp:uN y.1 c.1.length:=⟨a.1,a.2.1⟩
 have e9:y.1.toNat<c.1.length:=by
  have g: ∀x:Int,uN x c.1.length→x.toNat<c.1.length:=λx hx=>by unfold uN at hx;omega
  exact g _ hp
 have hq:=nR y hy
 refine⟨hp,?_,hq,?_⟩
 ·have g: ∀x:Int,aD x→p4 x→(x.natAbs:Int)≤9223372036854775807:=λx h1 h2=>by unfold aD at h1;unfold p4 at h2;omega
  exact g _ hq a.2.2.2.1
 ·unfold fM at h2
  have b:=bz (cO.1 (cO.1 h2).2).1 _ e9
  exact b.2.2.2
theorem FN{c:ae}{y:yV}(h:ahU c y):0≤(y.2.1.natAbs:Int)*ou c y∧(y.2.1.natAbs:Int)*ou c y≤9223372036854775807000000000:=by
 have:=mul_lt (a:=(y.2.1.natAbs:Int)) (b:=ou c y) (m:=9223372036854775807) (n:=1000000000) ω h.aar.1 h.size h.aar.2
 exact⟨this.1,by have:=this.2;omega⟩
theorem Sg{B:Int}(hB:0≤B): ∀{ws:List Int},(∀x∈ws,0≤x∧x≤B)→0≤ws.sum∧ws.sum≤B*(ws.length:Int)
 |[],_=>by simp
 |x::t,h=>by
  have h0:=h x (bm ..)
  have ih:=Sg hB (ws:=t) (λy hy=>h y (aZ _ hy))
  rw[cw,aR]
  have e:B*((t.length+1:Nat):Int)=B*(t.length:Int)+B:=by rw[Ew,jW];simp
  rw[e]
  omega
theorem T8{c:ae}{t:aE}(h: ∀y∈t,ahU c y): ∀x∈IS c t,0≤x∧x≤9223372036854775807000000000:=λx hx=>by
 obtain⟨y,hy,rfl⟩:=cA.1 hx
 exact FN (h y hy)
theorem uO{c:ae}{t:aE}(nR: ∀y∈t,aD y.2.1):0≤ov c t∧ov c t≤92233720368547758070000000000:=by
 unfold ov
 by_cases h:mi c t=true
 ·rw[aj h]
  have hg:=(IQ h nR).len
  have:=Sg ω (T8 (KF h nR))
  have hl:(IS c t).length=t.length:=ct ..
  rw[hl]at this
  omega
 ·rw[ah h];omega
theorem KG{x:Int}(h:0≤x∧x≤92233720368547758070000000000):dm x:=by unfold dm;omega
theorem aas(N:Nat)(hN:2000000≤N)(c:ae){t:aE}(hl:t.length≤100000)(nR: ∀y∈t,aD y.2.1):F89 N c t=some (dP (ov c t),AI c t):=by
 have YV:=uO (c:=c) nR
 unfold F89 pF pF.b
 rw[aae N ω c hl,ar,cond_not]
 unfold ov AI at*
 by_cases h:mi c t=true
 ·have hC:=KF h nR
  rw[h,aj rfl]at YV
  rw[h,aq,aj rfl,aj rfl]
  have:=oe t cD (λn i ws=>pF.l5 N n () c cD (ws.map dP) t (t.length:Int) i) (λu ws=>some ((Fu (ws++IS c u).sum).1,(0:Int))) (λi (ws:List Int)=>ws.length≤i∧ ∀x∈ws,dm x)
   (λn i ws hi hI hr=> ?_) (λn ws hI=> ?_) t.length N 0 [] ω ω ω ⟨aG _,λx hx=>nomatch hx⟩
  ·have e:pF.l5 N N () c cD [] t (t.length:Int) 0=some ((Fu (IS c t).sum).1,(0:Int)):=this
   rw[e]
   unfold Fu
   rw[aj (KG YV)];rfl
  ·unfold pF.l5 pF.ed ahV
   have hm:t.getD i cD∈t:=by
    rw[aU,bk hi];exact dB hi
   have hy:=hC _ hm
   have h1:=FN hy
   have hq:=hy.q
   unfold aD at hq
   have hp:=hy.place
   have hs:=hy.size
   have hrt:=hy.aar
   unfold ou at hrt
   rw[aT ω,aq,a6 ω ω,aq,aJ,Km N hq.1 hq.2,ar,a6 hp.1 hp.2,aq,ar,ay (x:=((t.getD i cD).2.1.natAbs:Int)) ω ω,Z4 N ω ω (fi δ hrt.1) (qB hrt.2 δ),ar,bL (by rw[ct,aI];omega),aq,ay (x:=(i:Int)+1) ω ω,ag i]
   have:=hr (ws++[((t.getD i cD).2.1.natAbs:Int)*ou c (t.getD i cD)]) ⟨by rw[aS,aI];omega,rj hI.2 (KG ⟨h1.1,ω⟩)⟩
   rw[cY]at this
   refine this.trans ?_
   rw[bt];rfl
  ·unfold pF.l5 pF.ed
   rw[aP ω,av,DY N hI.2 ω ω,ar]
   show _=some ((Fu (ws++[]).sum).1,(0:Int))
   rw[ch]
 ·rw[mV]at h
  rw[h,av];rfl
theorem W4(N:Nat)(hN:4000000≤N)(c:ae){t:aE}(hl:t.length≤100000)(nR: ∀y∈t,aD y.2.1):QD N c t=some (cS (ov c t),AI c t):=by
 unfold QD lF lF.b
 rw[wU N ω c hl,ar,cond_not]
 unfold ov AI
 by_cases h:mi c t=true
 ·have hC:=KF h nR
  have hg:=(IQ h nR).len
  rw[h,aj rfl,aq,aj rfl]
  have:=oe t cD (λn i ws=>lF.l5 N n t true c (cS 0) (cS ws.sum) i) (λu ws=>some (cS (ws++IS c u).sum,(0:Int))) (λi (ws:List Int)=>ws.length≤i∧ ∀x∈ws,dm x)
   (λn i ws hi hI hr=> ?_) (λn ws hI=> ?_) t.length N 0 [] ω ω ω ⟨aG _,λx hx=>nomatch hx⟩
  ·rw[show((0:Nat):Int)=0 from rfl,cZ,iC,iH]at this
   rw[this];rfl
  ·unfold lF.l5 lF.ed
   have hm:t.getD i cD∈t:=by
    rw[aU,bk hi];exact dB hi
   have hy:=hC _ hm
   have h1:=FN hy
   have hq:=hy.q
   unfold aD at hq
   have hp:=hy.place
   have hs:=hy.size
   have hrt:=hy.aar
   have hb:=Kr hI.2
   have hfq:=Fit.i64 hq.1 hq.2
   have hfn:Fit ((t.getD i cD).2.1.natAbs:Int) 2:=Fit.i64 ω ω
   have VO:Fit (ou c (t.getD i cD)) 2:=Fit.i64 (fi δ hrt.1) (qB hrt.2 δ)
   unfold ou at hrt VO
   have Qy:dm (((t.getD i cD).2.1.natAbs:Int)*ou c (t.getD i cD)):=KG ⟨h1.1,ω⟩
   rw[aT ω,aq,a6 ω ω,aq,aJ,a6 hp.1 hp.2,aq,aq,aq,aq,aq,cP N ω hq.1 hq.2,ar,Fp N ω (hfq.mono ω),ar,cP N ω (fi δ hrt.1) (qB hrt.2 δ),ar,wI N ω (hfn.mono ω) (VO.mono ω),ar]
   have Ho:yR N (cS ws.sum) (cS (((t.getD i cD).2.1.natAbs:Int)*(c.1.getD (t.getD i cD).1.toNat aV).2.2.2.1))=some (cS (ws.sum+((t.getD i cD).2.1.natAbs:Int)*ou c (t.getD i cD))):=iA N ω (KE (n:=ws.length) ω hb.1 hb.2) (AE Qy)
   rw[Ho,ar,ay (x:=(i:Int)+1) ω ω,ag i]
   have:=hr (ws++[((t.getD i cD).2.1.natAbs:Int)*ou c (t.getD i cD)]) ⟨by rw[aS,aI];omega,rj hI.2 Qy⟩
   rw[lQ,cw,iC,fY,bt]at this
   exact this
  ·unfold lF.l5 lF.ed
   rw[aP ω,av]
   show _=some (cS (ws++[]).sum,(0:Int))
   rw[ch]
 ·rw[mV]at h
  rw[h,av,←iH];rfl
end VM
end
section
namespace VM
open Go VM.F
def sF(m s:Int):Int:=if m≤0 then 0 else if s<m then s else m
def ny(c:ae)(b:an)(a:Int):Int×Int:=
 if dy c b then(if(fc b.2.1 a).2 then(sF (gv b.2.2.1 5 a) (ov c (posOf b.2.2.2.1 a)),0)else(0,3))else(0,1)
theorem ahW{α:Type}(u:Int)(x y:α):cond (dj 0 (vv u)) x y=if 0≤u then x else y:=by
 rw[cG]
 have:0≤vv u↔0≤u:=by unfold vv;split<;>(try split)<;>omega
 by_cases h:0≤u
 ·rw[aj h,aj (this.2 h)]
 ·rw[ah h,ah (λk=>h (this.1 k))]
theorem IT(N:Nat)(hN:4000000≤N)(c:ae){b:an}(w:gN b)(a:Int):F31 N c b a=some (ny c b a):=by
 unfold F31 ny
 have hp:=BL a b.2.2.2.1
 have hpi:=FM w.qs a
 have hs:=w.s
 have hm:=AH w.qr 5 a
 have Ht:=uO (c:=c) hpi
 have LB:mx (gv b.2.2.1 5 a) 0=if 0<gv b.2.2.1 5 a then gv b.2.2.1 5 a else 0:=by
  rw[Vo];split<;>split<;>omega
 rw[Kw N hN w,ar,Kt N b w.a ω,ar,Sf N w.r ω,ar,af3 N w.s ω,cond_not,cond_not,LB]
 dsimp only
 rw[ar,aas N ω c ω hpi,ar]
 unfold F91
 dsimp only
 generalize ov c (posOf b.2.2.2.1 a)=s at*
 generalize gv b.2.2.1 5 a=m at*
 unfold aD at hm
 cases dy c b
 ·rfl
 rw[aq,aj rfl]
 cases(fc b.2.1 a).2
 ·rfl
 rw[aq,aj rfl,wK N (by split<;>omega) (by split<;>omega),ar,R5,ar,ar,ahW,Ax N (KG Ht),ar]
 unfold sF
 by_cases h1:0<m
 ·rw[aj h1,ah (show ¬m≤0 by omega)]
  by_cases h2:s<m
  ·rw[aj (show 0≤m-s by omega),aj h2,nr (by unfold aD;omega)]
  ·rw[ah h2]
   by_cases h3:s=m
   ·rw[aj (show 0≤m-s by omega),nr (by unfold aD;omega),h3]
   ·rw[ah (show ¬0≤m-s by omega)]
 ·rw[ah h1,aj (show m≤0 by omega)]
  by_cases h3:s=0
  ·rw[aj (show 0≤0-s by omega),nr (by unfold aD;omega),h3]
  ·rw[ah (show ¬0≤0-s by omega)]
theorem IU(N:Nat){b:an}(w:gN b)(hN:200000≤N)(a:Int):HK N b a=some (gv b.2.2.1 5 a):=by
 unfold HK
 rw[uM N w.r hN,ar]
theorem QE(N:Nat)(hN:5000000≤N)(c:ae){b:an}(w:gN b)(a:Int):F60 N c b a=some (ny c b a):=by
 unfold F60 ny
 have hp:=BL a b.2.2.2.1
 have hpi:=FM w.qs a
 have hs:=w.s
 have hm:=AH w.qr 5 a
 have Ht:=uO (c:=c) hpi
 rw[Au N hN w,ar,wO N w.a ω,ar,QC N w.s ω,ar,W4 N ω c ω hpi,ar,IU N w ω,ar,q3,ar,cond_not,cond_not,cG]
 generalize ov c (posOf b.2.2.2.1 a)=s at*
 generalize gv b.2.2.1 5 a=m at*
 unfold aD at hm
 cases dy c b
 ·rfl
 rw[aq,aj rfl]
 cases(fc b.2.1 a).2
 ·rfl
 rw[aq,aj rfl]
 unfold sF
 by_cases h1:m≤0
 ·rw[aj h1,aj h1]
 ·rw[ah h1,ah h1]
  by_cases h4:aD s
  ·rw[nr h4]
   dsimp only
   rw[aq,cQ]
   split<;>rfl
  ·rw[uF h4]
   unfold aD at h4
   dsimp only
   rw[av,ah ω]
theorem W5{hi:Int}: ∀{l:List Int} {lo:Int},l.Pairwise (· < ·)→(∀x∈l,lo≤x∧x<hi)→lo≤hi→(l.length:Int)≤hi-lo
 |[],lo,_,_,h=>by rw[bU];omega
 |x::t,lo,hp,hm,h=>by
  obtain⟨h1,h2⟩:=ec.1 hp
  have hx:=hm x (bm ..)
  have ih:=W5 (lo:=x+1) h2 (λy hy=>⟨h1 y hy,(hm y (aZ _ hy)).2⟩) ω
  rw[aR];omega
theorem CQ{a:Int}: ∀{l:au},sC (l.map keyOf)→((iL a l).map (λy=>(y.1:Int))).Pairwise (· < ·)
 |[],_=>List.Pairwise.nil
 |x::t,h=>by
  obtain⟨h1,h2⟩:=ec.1 h
  have ih:=CQ (a:=a) h2
  rw[kp]
  by_cases e:x.1=a
  ·rw[aj e,bX]
   refine ec.2 ⟨λz hz=> ?_,ih⟩
   obtain⟨y,hy,rfl⟩:=cA.1 hz
   obtain⟨x',hx,e',rfl⟩:=je hy
   have hk:=h1 (keyOf x') (eL hx)
   have g: ∀p q r s:Int,p=a→r=a→kW p q r s→q<s:=λp q r s h1 h2 h=>by unfold kW at h;omega
   exact g _ _ _ _ e e' hk
  ·rw[ah e];exact ih
theorem AJ{l:au}(hk:cB l=true)(hq:dS l)(a:Int):FI (posOf l a):=by
 obtain⟨hs,hp⟩:=dn hk
 have e:posOf l a=iL a l:=by unfold posOf;rw[hk];rfl
 rw[e]
 have lT: ∀y∈iL a l,CP y.1:=λy hy=>by
  obtain⟨x,hx,_,rfl⟩:=je hy
  have g: ∀p q:Int,bB p q→CP q:=λp q h=>by unfold bB at h;unfold CP;omega
  exact g _ _ (hp x hx).1
 refine⟨?_,lT,λy hy=> ?_⟩
 ·have:=W5 (lo:=0) (hi:=6) (CQ (a:=a) hs) (λz hz=>by
   obtain⟨y,hy,rfl⟩:=cA.1 hz
   exact lT y hy) ω
  rw[ct]at this;omega
 ·obtain⟨x,hx,_,rfl⟩:=je hy
  exact⟨hq x hx,(hp x hx).2⟩
def wY(a:Int):aE→au
 |[]=>[]
 |y::t=>(a,(y.1,((0-y.2.1:Int),())))::((0:Int),(y.1,(y.2.1,())))::wY a t
theorem qt(a:Int)(y:yV)(t:aE):wY a (y::t)=(a,(y.1,((0-y.2.1:Int),())))::((0:Int),(y.1,(y.2.1,())))::wY a t:=rfl
theorem wZ(a:Int): ∀t:aE,(wY a t).length=2*t.length
 |[]=>rfl
 |y::t=>by rw[qt,aR,aR,aR,wZ a t];omega
theorem ahX(N:Nat)(hN:200000≤N){l:au}(hl:l.length≤100000)(hk:cB l=true)(hq:dS l){a:Int}(h0:1≤a)(h1:a≤24):CR N l a 0=some (wY a (posOf l a)):=by
 have hg:=AJ hk hq a
 have hlen:=hg.len
 unfold CR CR.b
 rw[wM N hl hN,hk,ar,bn,av,D0,ar,bu (show bB a 0 by unfold bB;omega),bn,av,D0,ar,bu (show bB 0 0 by decide),bn,av,dX ω,av,af3 N hl hN,ar]
 have:=oe (posOf l a) cD (λn i s=>CR.l5 N n a 0 s (posOf l a) ((posOf l a).length:Int) i) (λt s=>some (s++wY a t)) (λi (s:au)=>s.length≤2*i) (λn i s hi hI hr=> ?_) (λn s hI=> ?_) (posOf l a).length N 0 [] ω ω ω (aG _)
 ·exact this
 ·unfold CR.l5 CR.ed
  have hm:(posOf l a).getD i cD∈posOf l a:=by
   rw[aU,bk hi];exact dB hi
  have hn:=(T6 (hg.q _ hm)).1
  unfold aD at hn
  rw[aT ω,aq,a6 ω ω,aq,aJ,ay (x:=(i:Int)+1) ω ω,ag i,ay hn.1 hn.2]
  dsimp only
  rw[bL (by rw[aR,aI];omega),aq,qt]
  refine(hr _ ?_).trans ?_
  ·rw[aS,aR,aI];omega
  ·rw[bt];rfl
 ·unfold CR.l5 CR.ed
  rw[aP ω,av]
  show some s=some (s++[])
  rw[ch]
theorem aau(N:Nat)(hN:200000≤N){l:au}(hl:l.length≤100000)(hk:cB l=true)(hq:dS l){a:Int}(h0:1≤a)(h1:a≤24):iT N l a 0=some (wY a (posOf l a)):=by
 have e:posOf l a=iL a l:=by unfold posOf;rw[hk];rfl
 obtain⟨_,hp⟩:=dn hk
 unfold iT iT.b
 rw[kM N hl hN,hk,ar,bn,av,dX ω,av,aP (x:=a) ω,av,aP (x:=24) (y:=a) ω,av,aP (x:=0) ω,av,aP (x:=24) ω,av,e]
 have:=oe l bl (λn i s=>iT.l5 N n l a 0 s i) (λt s=>some (s++wY a (iL a t))) (λi (s:au)=>s.length≤2*i) (λn i s hi hI hr=> ?_) (λn s hI=> ?_) l.length N 0 [] ω ω ω (aG _)
 ·exact this
 ·unfold iT.l5 iT.ed
  have hm:l.getD i bl∈l:=by
   rw[aU,bk hi];exact dB hi
  have hn:=(T6 ⟨hq _ hm,(hp _ hm).2⟩).1
  unfold aD dY at hn
  rw[aT ω,aq,a6 ω ω,aq,aq,aq,aJ,ay (x:=(i:Int)+1) ω ω,ag i,ay hn.1 hn.2,aN,kp]
  dsimp only
  rw[aq,aq,bL (by rw[aR,aI];omega),aq]
  by_cases h:(l.getD i bl).1=a
  ·rw[aj h,aj h,qt]
   refine(hr _ ?_).trans ?_
   ·rw[aS,aR,aI];omega
   ·rw[bt];rfl
  ·rw[ah h,ah h]
   exact hr s ω
 ·unfold iT.l5 iT.ed
  rw[aP ω,av]
  show some s=some (s++[])
  rw[ch]
end VM
end
section
namespace VM
open Go VM.F
def jf(p:Int):Prop:=1≤p∧p≤1000000000000
instance(p:Int):Decidable (jf p):=by unfold jf;infer_instance
theorem FO(N:Nat)(p:Int):Dv N p=some (decide (jf p)):=(iJ N p).trans (fj some (oQ.2 Iff.rfl))
def kq(a b c d e:Int):Prop:=(0≤a∧a≤24)∧(0≤b∧b≤24)∧a≠b∧(0≤c∧c<6)∧(1≤d∧d≤1000000000)∧jf e
instance(a b c d e:Int):Decidable (kq a b c d e):=by unfold kq;infer_instance
def nz(t:sW):Prop:=kq t.1 t.2.1 t.2.2.1 t.2.2.2.1 t.2.2.2.2.1
instance:DecidablePred nz:=λt=>by unfold nz;infer_instance
theorem Nz(a b c d e:Int):cond (dj 0 a) (cond (dj a 24) (cond (dj 0 b) (cond (dj b 24) (cond (!aO a b) (cond (dj 0 c) (cond (aY c 6) (cond (dj 1 d) (cond (dj d 1000000000) (some (decide (jf e))) (some false)) (some false)) (some false)) (some false)) (some false)) (some false)) (some false)) (some false)) (some false)=some (decide (kq a b c d e)):=by
 simp only[cG,cond_not,aN,cQ]
 by_cases hP:kq a b c d e
 ·have hp:=hP.2.2.2.2.2
  rw[bu hP,bu hp]
  unfold kq at hP
  repeat' split
  all_goals first|rfl|omega
 ·rw[cj hP]
  by_cases hp:jf e
  ·unfold kq at hP
   repeat' split
   all_goals first|rfl|(exact absurd ⟨ω,ω,ω,ω,ω,hp⟩ hP)
  ·rw[cj hp]
   repeat' split
   all_goals rfl
theorem xF(N:Nat)(t:sW):W6 N t=some (decide (nz t)):=by
 unfold W6
 rw[FO,ar]
 exact Nz _ _ _ _ _
def AK(a x:Int):da:=if a=0 then((2:Int),((0:Int),(x,())))else((5:Int),(a,(x,())))
def QF(t:sW)(p:Int):au:=if p-t.2.2.2.2.1=0 then []else [AK t.1 ((p-t.2.2.2.2.1)*t.2.2.2.1),AK t.2.1 (-((p-t.2.2.2.2.1)*t.2.2.2.1))]
theorem BN(a x:Int)(N:Nat):KH N a=some ((AK a x).1,(AK a x).2.1):=by
 unfold KH AK
 rw[aN]
 by_cases h:a=0
 ·rw[aj h,aj h]
 ·rw[ah h,ah h]
theorem nA(a x:Int):dY (AK a x)=x:=by unfold AK;split<;>rfl
theorem IV{d q:Int}(h1: -1000000000000≤d∧d≤1000000000000)(h2:1≤q∧q≤1000000000): -1000000000000000000000≤d*q∧d*q≤1000000000000000000000∧(d*q=0↔d=0):=by
 refine⟨?_,?_,?_⟩
 ·have:=zk h1.1 (show 0≤q by omega)
  have h3: -1000000000000*1000000000≤ -1000000000000*q:=ω
  omega
 ·have:=zk h1.2 (show 0≤q by omega)
  have h3:1000000000000*q≤1000000000000*1000000000:=ω
  omega
 ·rw[Int.mul_eq_zero];omega
theorem HL(N:Nat)(hN:4000000≤N){t:sW}{p:Int}(ht:nz t)(hp:jf p):QG N t p=some ((QF t p).map gY,0):=by
 unfold QG QF
 have hq:=ht.2.2.2.2.1
 have he:=ht.2.2.2.2.2
 rw[xF,ar,bu ht,bn,av,FO,ar,bu hp,bn,av]
 unfold jf at hp he
 generalize t.2.2.2.2.1=e at*
 generalize t.2.2.2.1=q at*
 have hd: -1000000000000≤p-e∧p-e≤1000000000000:=ω
 have hn:=IV hd hq
 have Qy:dm ((p-e)*q):=by unfold dm;omega
 rw[ay (x:=p-e) ω ω,cP N ω ω ω,ar,cP N ω ω ω,ar,wI N hN ((Fit.i64 ω ω).mono ω) ((Fit.i64 ω ω).mono ω),ar,p3,ar,aN]
 by_cases h:p-e=0
 ·rw[aj h,aj (by rw[hn.2.2.2 h];rfl)];rfl
 ·rw[ah h,ah (λk=>h (hn.2.2.1 (kk.1 k))),BN t.1 ((p-e)*q),ar,BN t.2.1 (-((p-e)*q)),ar,jw N hN (AE Qy),ar,bX,bX,ja]
  unfold gY
  rw[nA,nA]
theorem ic{c:ae}{b:an}(h:dy c b=true):b.2.2.2.2.1.length=c.1.length∧eV b.2.2.2.2.1=true:=by
 unfold dy at h
 simp only[bQ]at h
 have h1:=bz h.2.2.2.2.2.2.1
 unfold dx at h1
 exact⟨ω,h.2.2.2.2.2.2.2.2.2.2⟩
end VM
end
section
namespace VM
open Go VM.F
theorem NA{l:List Int}(h:eV l=true){i:Nat}(hi:i<l.length):jf (l.getD i 0):=bz h i hi
end VM
end
section
namespace VM
open Go VM.F
theorem uP{c:ae}{b:an}(h:dy c b=true):fM c=true:=by
 unfold dy at h
 exact(cO.1 h).1
def nB(k:Int):Nat→aK→List Int
 |_,[]=>[]
 |i,x::t=>if x.1=k then(i:Int)::nB k (i+1) t else nB k (i+1) t
theorem AL(k:Int)(i:Nat)(x:bI)(t:aK):nB k i (x::t)=if x.1=k then(i:Int)::nB k (i+1) t else nB k (i+1) t:=rfl
def iM(c:ae)(k:Int):List Int:=if fM c then nB k 0 c.1 else []
theorem QH(N:Nat)(hN:200000≤N)(c:ae)(hl:c.1.length≤100000)(k:Int):o9 N c k=some (iM c k):=by
 unfold o9 o9.b iM
 rw[nf N ω,ar,cond_not]
 have:=oe c.1 aV (λn i s=>o9.l5 N n k c s i) (λt s=>some (s++nB k (c.1.length-t.length) t)) (λi (s:List Int)=>s.length≤i) (λn i s hi hI hr=> ?_) (λn s hI=> ?_) c.1.length N 0 [] ω ω ω (aG _)
 ·have e:o9.l5 N N k c [] 0=some (nB k 0 c.1):=by
   refine this.trans ?_
   rw[cZ,tg];rfl
  rw[e];cases fM c<;>rfl
 ·unfold o9.l5 o9.ed
  have e1:c.1.length-(c.1.getD i aV::c.1.drop (i+1)).length=i:=by rw[aR,dR];omega
  have e2:c.1.length-(c.1.drop (i+1)).length=i+1:=by rw[dR];omega
  rw[e2]at hr
  rw[aT ω,aq,a6 ω ω,aq,aJ,ay (x:=(i:Int)+1) ω ω,ag i,aN,bL (by rw[aI];omega),aq,e1,AL]
  split
  ·rw[hr _ (by rw[aS,aI];omega),bt];rfl
  ·exact hr s ω
 ·unfold o9.l5 o9.ed
  rw[aP ω,av]
  show some s=some (s++[])
  rw[ch]
theorem CS{c:ae}(h:fM c=true):c.1.length≤6∧ ∀i,i<c.1.length→0≤(c.1.getD i aV).1∧(c.1.getD i aV).1≤3:=by
 unfold fM at h
 simp only[bQ]at h
 have h1:=bz h.1
 have h2:=bz h.2.1
 exact⟨h1.2,λi hi=>(h2 i hi).1⟩
theorem FP{l:au}(h:dS l)(a b:Int):aD (dk l a b):=by
 unfold dk
 cases cB l
 ·show aD 0;decide
 ·exact FK h a b
end VM
end
section
namespace VM
open Go VM.F
end VM
end
section
namespace VM
open Go VM.F
end VM
end
section
namespace VM
open Go VM.F
def AN(l:List Int)(k:Int):Int:=l.getD k.toNat 0
def ins(l:List Int):List Int→Int→List Int
 |[],i=>[i]
 |k::t,i=>if AN l i≤AN l k then k::ins l t i else i::k::t
def fJ(l:List Int):Nat→List Int
 |0=>[]
 |n+1=>ins l (fJ l n) n
def kt(l:List Int):List Int:=fJ l l.length
def yx(l:List Int)(a b:Int):Prop:=AN l b<AN l a∨(AN l b=AN l a∧a<b)
theorem Sh(l:List Int): ∀(o:List Int) (i:Int),(ins l o i).length=o.length+1
 |[],i=>rfl
 |k::t,i=>by unfold ins;split<;>simp[Sh l t i]
theorem sG(l:List Int): ∀n,(fJ l n).length=n
 |0=>rfl
 |n+1=>by unfold fJ;rw[Sh,sG l n]
theorem y4(l:List Int):(kt l).length=l.length:=sG l _
theorem KI(l:List Int){x:Int}: ∀{o:List Int} {i:Int},x∈ins l o i↔x=i∨x∈o
 |[],i=>by simp[ins]
 |k::t,i=>by
  unfold ins;split
  ·rw[aW,KI l,aW]
   exact⟨λh=>h.elim (λh=> .inr (.inl h)) (λh=>h.elim .inl (λh=> .inr (.inr h))),λh=>h.elim (λh=> .inr (.inl h)) (λh=>h.elim .inl (λh=> .inr (.inr h)))⟩
  ·rw[aW]
theorem sH(l:List Int){x:Int}: ∀{n:Nat},x∈fJ l n↔0≤x∧x<n
 |0=>⟨(λh=>nomatch h),λh=>absurd h.1 ω⟩
 |n+1=>by unfold fJ;rw[KI,sH l];omega
theorem AO(l:List Int): ∀{o:List Int} {i:Int},o.Pairwise (yx l)→(∀x∈o,x<i)→(ins l o i).Pairwise (yx l)
 |[],i,_,_=>Eh _ _
 |k::t,i,h,hi=>by
  rw[ec]at h
  have hk:k<i:=hi k (bm ..)
  unfold ins;split
  ·rename_i hle
   rw[ec]
   refine⟨λx hx=> ?_,AO l h.2 (λx hx=>hi x (aZ _ hx))⟩
   rcases(KI l).1 hx with rfl|hx
   ·unfold yx;omega
   ·exact h.1 x hx
  ·rename_i hle
   rw[ec,ec]
   refine⟨λx hx=> ?_,h.1,h.2⟩
   rcases aW.1 hx with rfl|hx
   ·unfold yx;omega
   ·have:=h.1 x hx;unfold yx at*;omega
theorem ow(l:List Int): ∀n,(fJ l n).Pairwise (yx l)
 |0=>List.Pairwise.nil
 |n+1=>by unfold fJ;exact AO l (ow l n) (λx hx=>((sH l).1 hx).2)
theorem W7(l:List Int): ∀(o:List Int) (i:Int) (p:Nat),p≤o.length→(∀j,j<p→AN l i≤AN l (o.getD j 0))→(p<o.length→AN l (o.getD p 0)<AN l i)→ins l o i=o.take p++i::o.drop p
 |[],i,p,hp,_,_=>by simp at hp;subst hp;rfl
 |k::t,i,0,hp,_,h=>by
  unfold ins;rw[ah (by have:=h (by simp);simp at this;omega)];rfl
 |k::t,i,p+1,hp,h0,h=>by
  unfold ins
  have h1:AN l i≤AN l k:=h0 0 ω
  rw[aj h1,W7 l t i p (by simpa using hp) (λj hj=>by have:=h0 (j+1) ω;simpa using this) (λRt=>by have:=h (by simpa using Rt);simpa using this)]
  rfl
theorem Si(l:List Int)(f:Int→Int): ∀(o:List Int) (i:Int),((ins l o i).map f).sum=(o.map f).sum+f i
 |[],i=>by simp[ins]
 |k::t,i=>by
  unfold ins;split
  ·rw[bX,cw,Si l f t i,bX,cw];omega
  ·simp only[bX,cw];omega
theorem CT(l r:List Int): ∀n,n≤r.length→((fJ l n).map (AN r)).sum=(r.take n).sum
 |0,_=>rfl
 |n+1,h=>by
  unfold fJ;rw[Si,CT l r n ω,lB r ω]
  unfold AN;rw[aJ]
theorem QI(l r:List Int)(h:l.length=r.length):((kt l).map (AN r)).sum=r.sum:=by
 unfold kt;rw[CT l r _ ω,jF ω]
theorem FQ{o:List Int}{j:Nat}(h:j<o.length):o.getD j 0∈o:=by
 rw[aU,bk h];exact dB h
theorem QJ{l:List Int}{n j:Nat}(h:j<n):0≤(fJ l n).getD j 0∧(fJ l n).getD j 0<n:=by
 exact(sH l).1 (FQ (by rw[sG];exact h))
theorem IW(N:Nat)(K:List Int→List Int→Int→Option (List Int)){l:List Int}(hl:l.length≤100000)(i:Nat)(hi:i<l.length): ∀(m n p:Nat),i-p≤m→m<n→p≤i→(∀j,j<p→AN l i≤AN l ((fJ l i).getD j 0))→
  fC.l6 N K n l (fJ l i) (i:Int) (p:Int)=K l (fJ l (i+1)) ((i+1:Nat):Int)
 |m,0,p,_,hn,_,_=>ω
 |m,n+1,p,hm,hn,hp,h=>by
  have hlen:=sG l i
  have fin: ∀h2:(p<i→AN l ((fJ l i).getD p 0)<AN l i),fC.j8 N K l (fJ l i) (i:Int) (p:Int)=K l (fJ l (i+1)) ((i+1:Nat):Int):=λh2=>by
   have e:=W7 l (fJ l i) i p ω h (λh3=>h2 ω)
   unfold fC.j8 fC.WX
   dsimp only
   rw[dG ω ω ω ω,aq,aJ,aJ,dr,cZ]
   rw[bL (by rw[cc];omega),aq,bL (by rw[cc];simp only[aI];omega),aq,dG ω ω ω ω,aq,bL (by simp only[aS,cc,dR,aI];omega),aq,ay ω ω,ix,bt,Ek,←e]
   rfl
  unfold fC.l6 fC.uw
  by_cases hpi:p<i
  ·have hr:=QJ (l:=l) (n:=i) (j:=p) hpi
   rw[aT ω,aq,a6 ω ω,aq,aJ,aJ,a6 ω ω,aq,a6 ω ω,aq]
   by_cases h3:l.getD i 0≤l.getD ((fJ l i).getD p 0).toNat 0
   ·rw[fG h3,aq,ay ω ω]
    refine IW N K hl i hi (m-1) n (p+1) ω ω ω (λj hj=> ?_)
    by_cases hjp:j=p
    ·rw[hjp];unfold AN;rw[aJ];exact h3
    ·exact h j ω
   ·rw[fp ω,av]
    exact fin (λ_=>by unfold AN;rw[aJ];omega)
  ·rw[aP ω,av]
   exact fin (λh=>absurd h hpi)
theorem FR(N:Nat){l:List Int}(hl:l.length≤100000)(hN:l.length<N): ∀(m n i:Nat),l.length-i≤m→m<n→i≤l.length→
  fC.l3 N n l (fJ l i) (i:Int)=some (kt l)
 |m,0,i,_,hn,_=>ω
 |m,n+1,i,hm,hn,hi=>by
  unfold fC.l3 fC.nO
  by_cases h:i<l.length
  ·have:=IW N (fC.l3 N n) hl i h i N 0 ω ω ω (λj hj=>ω)
   rw[aT ω,aq]
   refine Eq.trans this ?_
   exact FR N hl hN (m-1) n (i+1) ω ω ω
  ·rw[aP ω,av,show i=l.length by omega];rfl
theorem T9(N:Nat){l:List Int}(hl:l.length≤100000)(hN:l.length<N):fC N l=some (kt l):=by
 unfold fC fC.b
 exact FR N hl hN l.length N 0 ω ω ω
end VM
end
section
namespace VM
open Go VM.F
def IX(l:List Int):Prop:= ∀x∈l,-9223372036854775808≤x∧x<9223372036854775808
def Pos(l:List Int):Prop:= ∀x∈l,0≤x
def may(w:List Int):Bool:=decide (w.length≤64)&&w.all (λx=>decide (0≤x))
theorem oN{w:List Int}:may w=true↔w.length≤64∧Pos w:=by
 unfold may Pos;rw[bQ,ff,qD]
 simp only[ff]
theorem FT(N:Nat){l:List Int}(hl:l.length≤1000000): ∀(m n i:Nat),l.length-i≤m→m<n→i≤l.length→ ∃r,pG.l4 N n l (i:Int)=some r∧(r=true↔ ∃x∈l.drop i,x<0)
 |m,0,i,_,hn,_=>ω
 |m,n+1,i,hm,hn,hi=>by
  unfold pG.l4 pG.ei
  by_cases h:i<l.length
  ·have hd:l.drop i=l.getD i 0::l.drop (i+1):=by
    rw[pS h,aU,bk h];rfl
   rw[aT ω,aq,a6 ω ω,aq,aJ,hd]
   by_cases hx:l.getD i 0<0
   ·rw[aT hx,aq]
    exact⟨_,rfl,λ_=>⟨_,bm ..,hx⟩,λ_=>rfl⟩
   ·rw[aP ω,av,ay ω ω]
    obtain⟨r,e,h1⟩:=FT N hl (m-1) n (i+1) ω ω ω
    refine⟨r,e,h1.trans ⟨λ⟨x,Fj,hx2⟩=>⟨x,aZ _ Fj,hx2⟩,λ⟨x,Fj,hx2⟩=> ?_⟩⟩
    rcases aW.1 Fj with rfl|Fj
    ·exact absurd hx2 hx
    ·exact⟨x,Fj,hx2⟩
  ·rw[aP ω,av,vF ω]
   exact⟨_,rfl,(λh=>nomatch h),λ⟨x,hx,_⟩=>nomatch hx⟩
theorem FU(N:Nat){w:List Int}(hN:100≤N)(t:Int):pG N t w=some (decide (t<0)|| !may w):=by
 unfold pG pG.b
 by_cases ht:t<0
 ·rw[aT ht,aq,bu ht];rfl
 rw[aP ω,av,cj ht,tc]
 by_cases h:w.length≤64
 ·rw[aP ω,av]
  obtain⟨r,e,hr⟩:=FT N (l:=w) ω w.length N 0 ω ω ω
  rw[cZ]at hr
  rw[show((0:Nat):Int)=0 from rfl]at e
  rw[e]
  congr 1
  rw[oR,hr,qC,vL,Ne,oN]
  constructor
  ·rintro⟨x,hx,Tn⟩ h;have:=h.2 x hx;omega
  ·intro h1
   by_cases h2: ∃x∈w,x<0
   ·exact h2
   ·exact absurd ⟨h,λx hx=>by
     by_cases Tn:x<0
     ·exact absurd ⟨x,hx,Tn⟩ h2
     ·omega⟩ h1
 ·rw[aT ω,aq]
  have:may w=false:=by
   rw[vL];intro hm;exact h (oN.1 hm).1
  rw[this];rfl
def bump(q:List Int):List Int→List Int
 |[]=>q
 |k::t=>bump (q.set k.toNat (q.getD k.toNat 0+1)) t
def rV(t S:Int)(w:List Int):List Int:=w.map λx=>t*x/S
def ld(t S:Int)(w:List Int):List Int:=w.map λx=>t*x%S
def bR(t:Int)(w:List Int):List Int:=
 bump (rV t w.sum w) ((kt (ld t w.sum w)).take (t-(rV t w.sum w).sum).toNat)
def rl(t:Int)(w:List Int):List Int×Int:=
 if t<0∨may w=false then([],1)else if 9223372036854775808≤w.sum then([],2)
 else if w.sum=0 then(if t=0 then(List.replicate w.length 0,0)else([],1))else(bR t w,0)
theorem NB: ∀(ks q:List Int),(bump q ks).length=q.length
 |[],q=>rfl
 |k::t,q=>by unfold bump;rw[NB t];simp
theorem KJ: ∀(q:List Int) (k:Nat) (x:Int),k<q.length→(q.set k x).sum=q.sum-q.getD k 0+x
 |[],k,x,h=>absurd h (by simp)
 |a::q,0,x,h=>by simp;omega
 |a::q,k+1,x,h=>by
  have:=KJ q k x (by simpa using h)
  simp[this];omega
theorem jL: ∀{q:List Int},Pos q→0≤q.sum
 |[],_=>by simp
 |a::q,h=>by
  have:=jL (q:=q) (λx hx=>h x (aZ _ hx))
  have:=h a (bm ..)
  rw[cw];omega
theorem y5: ∀{q:List Int},Pos q→ ∀i,q.getD i 0≤q.sum
 |[],_,i=>by simp
 |a::q,h,0=>by
  have:=jL (q:=q) (λx hx=>h x (aZ _ hx))
  rw[cw];simp;omega
 |a::q,h,i+1=>by
  have:=y5 (q:=q) (λx hx=>h x (aZ _ hx)) i
  have:=h a (bm ..)
  rw[cw];simp;simp at*;omega
theorem gZ{q:List Int}(h:Pos q)(i:Nat):0≤q.getD i 0:=by
 by_cases hi:i<q.length
 ·exact h _ (FQ hi)
 ·rw[uy q ω];omega
theorem aav{q:List Int}(h:Pos q){x:Int}(hx:0≤x)(k:Nat):Pos (q.set k x):=λy hy=>by
 rcases xn hy with hy|rfl
 ·exact h y hy
 ·exact hx
theorem NC{q:List Int}(h:Pos q)(n:Nat):Pos (q.take n):=λx hx=>h x (lM hx)
theorem ND: ∀(ks q:List Int),(∀k∈ks,0≤k∧k<q.length)→(bump q ks).sum=q.sum+ks.length
 |[],q,_=>by simp[bump]
 |k::t,q,h=>by
  have hk:=h k (bm ..)
  unfold bump
  rw[ND t _ (λx hx=>by rw[bN];exact h x (aZ _ hx)),KJ q _ _ ω,aR];omega
theorem w1(t S:Int)(w:List Int):(rV t S w).length=w.length:=by unfold rV;rw[ct]
theorem pa(t S:Int)(w:List Int):(ld t S w).length=w.length:=by unfold ld;rw[ct]
theorem Sj{t S:Int}{w:List Int}(i:Nat):(rV t S w).getD i 0=t*w.getD i 0/S:=by
 unfold rV
 by_cases h:i<w.length
 ·rw[aU,pV,bk h,aU,bk h];rfl
 ·rw[uy _ (by rw[ct];omega),uy w ω];simp
theorem Sk{t S:Int}{w:List Int}(i:Nat):(ld t S w).getD i 0=t*w.getD i 0%S:=by
 unfold ld
 by_cases h:i<w.length
 ·rw[aU,pV,bk h,aU,bk h];rfl
 ·rw[uy _ (by rw[ct];omega),uy w ω];simp
theorem FV{t S:Int}{w:List Int}(ht:0≤t)(hS:0≤S)(hw:Pos w):Pos (rV t S w):=λx hx=>by
 obtain⟨y,hy,rfl⟩:=cA.1 hx
 exact ta (vR ht (hw y hy)) hS
theorem NF{t S:Int}{w:List Int}(hS:0<S):Pos (ld t S w):=λx hx=>by
 obtain⟨y,hy,rfl⟩:=cA.1 hx
 exact Ev _ ω
theorem KK(t S:Int): ∀w:List Int,S*(rV t S w).sum+(ld t S w).sum=t*w.sum
 |[]=>by simp[rV,ld]
 |x::w=>by
  have h:=KK t S w
  have e:=Ma (t*x) S
  unfold rV ld at*
  simp only[bX,cw,jW]
  omega
theorem W8{t S:Int}{w:List Int}(ht:0≤t)(hS:0<S)(h:w.sum≤S):(rV t S w).sum≤t:=by
 have e:=KK t S w
 have h1:=jL (NF (t:=t) (w:=w) hS)
 have h2:=xm h ht
 have h3:S*(rV t S w).sum≤S*t:=by rw[jU S t];omega
 exact LY h3 hS
theorem CU{w:List Int}(h:Pos w)(i:Nat):(w.take i).sum≤w.sum:=by
 have e:w.take i++w.drop i=w:=gi i w
 have h1:(w.take i).sum+(w.drop i).sum=w.sum:=by rw[←lQ,e]
 have:=jL (q:=w.drop i) (λx hx=>h x (mS hx))
 omega
theorem IY(t S:Int)(w:List Int)(i:Nat):(rV t S w).take i=rV t S (w.take i):=by unfold rV;rw[List.map_take]
theorem FW(N:Nat){ks:List Int}(hl:ks.length≤1000000)(L:Nat)(hk: ∀k∈ks,0≤k∧k<L): ∀(m n i left:Nat) (q:List Int),ks.length-i≤m→m<n→i≤ks.length→q.length=L→Pos q→left≤9223372036854775807→q.sum+left≤9223372036854775807→
  fO.wT N n q (left:Int) ks (i:Int)=some (bump q ((ks.drop i).take left),0)
 |m,0,i,left,q,_,hn,_,_,_,_,_=>ω
 |m,n+1,i,left,q,hm,hn,hi,hq,hp,hle,hs=>by
  unfold fO.wT fO.vx
  by_cases h:i<ks.length
  ·have hd:ks.drop i=ks.getD i 0::ks.drop (i+1):=by
    rw[pS h,aU,bk h];rfl
   have EZ:=hk _ (FQ h)
   rw[aT ω,aq]
   match left,hle,hs with
   |0,hle,hs=>rw[aP ω,av,oS];rfl
   |left+1,hle,hs=>
    rw[aT ω,aq,a6 ω ω,aq,aJ,a6 ω ω,aq,aq,hd]
    have h1:=y5 hp (ks.getD i 0).toNat
    have h2:=gZ hp (ks.getD i 0).toNat
    rw[ay (x:=q.getD _ 0+1) ω ω,ay (x:=(i:Int)+1) ω ω,ay ω ω,show((left+1:Nat):Int)-1=(left:Int)by omega]
    refine(FW N hl L hk (m-1) n (i+1) left _ ω ω ω (by rw[bN];exact hq) (aav hp ω _) ω ?_).trans rfl
    rw[KJ q _ _ ω];omega
  ·rw[aP ω,av,vF ω,List.take_nil];rfl
theorem FX(l:List Int): ∀k∈kt l,0≤k∧k<l.length:=λk hk=>(sH l).1 hk
theorem take_set(l:List Int){i:Nat}(x:Int)(h:i<l.length):(l.set i x).take (i+1)=l.take i++[x]:=by
 rw[hZ (l.set i x) (by rw[bN];exact h),mB l x h,List.take_set_of_le ω]
theorem KL{v:Int}(h0: -9223372036854775808≤v)(h1:v<9223372036854775808):BA v=(v,true):=by unfold BA;rw[aj ⟨h0,h1⟩]
end VM
end
section
namespace VM
open Go VM.F
theorem pb{a b:List Int}(hl:a.length=b.length)(h: ∀i,i<a.length→a.getD i 0=b.getD i 0):a=b:=by
 refine List.ext_getElem hl (λi h1 h2=> ?_)
 have:=h i h1
 rwa [aU,bk h1,aU,bk h2]at this
theorem Sl: ∀(ks q:List Int) (i:Nat),ks.Nodup→(∀k∈ks,0≤k∧k<q.length)→(bump q ks).getD i 0=q.getD i 0+(if(i:Int)∈ks then 1 else 0)
 |[],q,i,_,_=>by simp[bump]
 |k::t,q,i,hn,h=>by
  have hk:=h k (bm ..)
  rw[zz]at hn
  unfold bump
  rw[Sl t _ i hn.2 (λx hx=>by rw[bN];exact h x (aZ _ hx))]
  by_cases hik:(i:Int)=k
  ·rw[ah (by rw[hik];exact hn.1),aj (by rw[hik];exact bm ..),←hik,aJ,mB q _ ω];omega
  ·rw[getD_set_ne q _ ω]
   by_cases ht:(i:Int)∈t
   ·rw[aj ht,aj (aZ _ ht)]
   ·rw[ah ht,ah (λhc=>by rcases aW.1 hc with hc|hc;exact hik hc;exact ht hc)]
theorem NG(l:List Int):(kt l).Nodup:=(ow l l.length).imp (λ{a b} h he=>by unfold yx at h;rw[he]at h;omega)
theorem Sm(t S:Int)(hS:0<S): ∀u:List Int,(ld t S u).sum≤u.length*S
 |[]=>by simp[ld]
 |x::u=>by
  have ih:=Sm t S hS u
  have:=zu (t*x) hS
  unfold ld at*
  rw[bX,cw,aR,Ew,qK];simp;omega
def mF(t:Int)(w:List Int):Int:=t-(rV t w.sum w).sum
theorem left_eq(t:Int)(w:List Int):w.sum*mF t w=(ld t w.sum w).sum:=by
 have:=KK t w.sum w
 unfold mF;rw[Int.mul_sub,jU w.sum t];omega
theorem FY{t:Int}{w:List Int}(ht:0≤t)(hS:0<w.sum):0≤mF t w:=by
 have:=W8 ht hS (fI _);unfold mF;omega
theorem Sn{t:Int}{w:List Int}(hS:0<w.sum):mF t w≤w.length:=by
 have h1:=left_eq t w
 have h2:=Sm t w.sum hS w
 rw[←h1,jU (w.length:Int)]at h2
 exact LY h2 hS
theorem ox(t:Int)(w:List Int):(bR t w).length=w.length:=by unfold bR;rw[NB,w1]
theorem uQ{t:Int}{w:List Int}(ht:0≤t)(hS:0<w.sum):(bR t w).sum=t:=by
 unfold bR
 have h1:=FY ht hS
 have h2:=Sn (t:=t) hS
 unfold mF at*
 rw[ND _ _ (λk hk=>by have:=FX _ k (lM hk);rw[pa]at this;rwa [w1]),cc,y4,pa]
 omega
theorem y6{f:Int→Int}{c:Int}: ∀{o:List Int},(∀x∈o,f x≤c)→(o.map f).sum≤o.length*c
 |[],_=>by simp
 |x::o,h=>by
  have ih:=y6 (f:=f) (c:=c) (o:=o) (λy hy=>h y (aZ _ hy))
  have:=h x (bm ..)
  rw[bX,cw,aR,Ew,qK];simp;omega
theorem QK{l o:List Int}(h:o.Pairwise (yx l)){m:Nat}{x y:Int}(hx:x∈o.take m)(hy:y∈o.drop m):yx l x y:=by
 rw[←gi m o,vH]at h
 exact h.2.2 x hx y hy
theorem Ua{t:Int}{w:List Int}(ht:0≤t)(hS:0<w.sum){i:Int}(hi:i∈(kt (ld t w.sum w)).take (mF t w).toNat):0<AN (ld t w.sum w) i:=by
 have Hs: ∀k:Int,0≤AN (ld t w.sum w) k:=λk=>gZ (NF hS) _
 have e9: ∀k:Int,AN (ld t w.sum w) k≤w.sum-1:=λk=>by
  unfold AN;rw[Sk]
  have:=zu (t*w.getD k.toNat 0) hS;omega
 have h0:=Hs i
 rcases Int.lt_or_le 0 (AN (ld t w.sum w) i)with h|h
 ·exact h
 exfalso
 have HI:=QI (ld t w.sum w) (ld t w.sum w) rfl
 rw[←left_eq]at HI
 have arX:=gi (mF t w).toNat (kt (ld t w.sum w))
 rw[←arX,cY,lQ]at HI
 have hd:(((kt (ld t w.sum w)).drop (mF t w).toNat).map (AN (ld t w.sum w))).sum≤((kt (ld t w.sum w)).drop (mF t w).toNat).length*0:=y6 (λy hy=>by
  have:=QK (ow _ _) hi hy
  unfold yx at this;omega)
 have htk:(((kt (ld t w.sum w)).take (mF t w).toNat).map (AN (ld t w.sum w))).sum≤((kt (ld t w.sum w)).take (mF t w).toNat).length*(w.sum-1):=y6 (λy _=>e9 y)
 have h1:=FY ht hS
 have h2:=Sn (t:=t) hS
 rw[cc,y4,pa,iy ω,Int.mul_sub]at htk
 rw[zE]at hd
 have h3:(((mF t w).toNat:Nat):Int)=mF t w:=ω
 have h4:0<(mF t w).toNat:=by
  rcases Nat.eq_zero_or_pos (mF t w).toNat with h|h
  ·rw[h,oS]at hi;nomatch hi
  ·exact h
 rw[h3,jU (mF t w)]at htk
 omega
def extra(t:Int)(w:List Int)(i:Nat):Int:=if(i:Int)∈(kt (ld t w.sum w)).take (mF t w).toNat then 1 else 0
theorem IZ(t:Int)(w:List Int)(i:Nat):(bR t w).getD i 0=t*w.getD i 0/w.sum+extra t w i:=by
 unfold bR
 rw[Sl _ _ i ((NG _).sublist (List.take_sublist ..)) (λk hk=>by have:=FX _ k (lM hk);rw[pa]at this;rwa [w1]),Sj]
 rfl
theorem I0(t:Int)(w:List Int)(i:Nat):extra t w i=0∨extra t w i=1:=by unfold extra;split<;>omega
theorem Ub{t:Int}{w:List Int}(ht:0≤t)(hS:0<w.sum){i:Nat}(h:extra t w i=1):0<t*w.getD i 0%w.sum:=by
 unfold extra at h
 by_cases hi:(i:Int)∈(kt (ld t w.sum w)).take (mF t w).toNat
 ·have:=Ua ht hS hi
  unfold AN at this;rwa [Sk,aJ]at this
 ·rw[ah hi]at h;omega
theorem uR{t:Int}{w:List Int}(ht:0≤t)(hS:0<w.sum)(hw:Pos w):Pos (bR t w):=λx hx=>by
 obtain⟨i,hi,rfl⟩:=qy.1 hx
 have:=IZ t w i
 rw[aU,bk hi]at this
 have h1:=I0 t w i
 have h2:0≤t*w.getD i 0/w.sum:=ta (vR ht (gZ hw i)) ω
 simp only[mW]at this
 omega
theorem CV{t:Int}{w:List Int}(ht:0≤t)(hS:0<w.sum){i:Nat}(h:w.getD i 0=0):(bR t w).getD i 0=0:=by
 rw[IZ,h]
 rcases I0 t w i with h1|h1
 ·rw[h1];simp
 ·have:=Ub ht hS h1
  rw[h]at this;simp at this
end VM
end
