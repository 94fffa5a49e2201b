/- A part of the proof of WindDrawn of layer 21: what the functions compute, in plain words. -/
import Derived.Test.YtecmobijochjkaaGreatPlain2
import Derived.Test.YtecmobijochjkaaGreatVm6
import Derived.Test.YtecmobijochjkaaGreatPlain0
set_option linter.all false
section
namespace VM
open Go VM.F
theorem Wt(N:Nat)(hN:2000000≤N){b:aq}{s e:au}(w:g8 b)(hr:ei b.2.2.1=true)(hs:cZ b.2.2.2.1=true)(lr:b.2.2.1.length≤90000)(ls:b.2.2.2.1.length≤90000)(gs:Wi s)(ge:Wo e):
  F68 N b s (e.map jK)=some (eI b s e):=by
 unfold F68 eI
 rw[Ws N w,ar,ZY N hN hs ls w.qs gs,Wp N hN hr lr w.qr ge,TB hs gs.place,Wr hr ge.key]
 unfold uq
 rw[ar,ar]
 have e1:aO 2 0=false:=dT ω
 have e2:aO 0 0=true:=dX rfl
 cases dW Fq (fS b.2.2.2.1 s) jr with
 |none=>dsimp only;rw[e1];rfl
 |some s'=>
  cases dW aE (fS b.2.2.1 e) ni with
  |none=>dsimp only;rw[e1,e2];rfl
  |some r'=>dsimp only;rw[e2];rfl
theorem RV(N:Nat)(C:eA.bD){l:aM}(hl:l.length≤100000)(i:Nat)(hi:i<l.length): ∀(m n k:Nat),i-k≤m→m<n→k≤i→(l.take k).any (qV (l.getD i aV).2.2.1 (l.getD i aV).2.1)=false→
  eA.l9 N C n l (i:Int) (k:Int)=cond ((l.take i).any (qV (l.getD i aV).2.2.1 (l.getD i aV).2.1)) (some false) (C l ((i+1:Nat):Int))
 |m,0,k,_,hn,_,_=>ω
 |m,n+1,k,hm,hn,hk,hb=>by
  unfold eA.l9 eA.xp
  by_cases h:k<i
  ·have wx:=RV N C hl i hi (m-1) n (k+1) ω ω ω
   have ht:(l.take (k+1)).any (qV (l.getD i aV).2.2.1 (l.getD i aV).2.1)=qV (l.getD i aV).2.2.1 (l.getD i aV).2.1 (l.getD k aV):=by
    have ek:l.getD k aV=l[k]' ω:=by rw[aU,bm (show k<l.length by omega)];rfl
    rw[←rT (show k<l.length by omega),List.any_append,hb,ek,List.any_cons,List.any_nil,sX,sW]
   have lK:qV (l.getD i aV).2.2.1 (l.getD i aV).2.1 (l.getD k aV)=true→(l.take i).any (qV (l.getD i aV).2.2.1 (l.getD i aV).2.1)=true:=λhh=>by
    refine zk.2 ⟨l.getD k aV,?_,hh⟩
    rw[aU,bm (show k<l.length by omega)]
    exact List.mem_take_iff_getElem.2 ⟨k,ω,rfl⟩
   rw[aT ω,ak,aW ω ω,ak,aW ω ω,ak,ak,ak,aJ,aJ,aN,aN,ax (x:=(k:Int)+1) ω ω,ag k]
   by_cases h1:(l.getD k aV).2.2.1=(l.getD i aV).2.2.1
   ·by_cases h2:(l.getD k aV).2.1=(l.getD i aV).2.1
    ·rw[aj h1,aj h2,lK (by unfold qV dw;rw[bs h1,bs h2];rfl)];rfl
    ·rw[aj h1,ah h2]
     exact wx (by rw[ht];unfold qV dw;rw[cj h2,Ek])
   ·rw[ah h1]
    exact wx (by rw[ht];unfold qV dw;rw[cj h1,vF])
  ·have:k=i:=ω
   subst this
   rw[aP ω,av,hb,av,ax (x:=(k:Int)+1) ω ω,ag k]
theorem tu(N:Nat){l:aM}(hl:l.length≤100000)(hN:200000≤N):eA N l=some (Wf l):=by
 unfold eA eA.b Wf
 by_cases h40:l.length≤40
 ·rw[aP ω,av,bs h40]
  refine ij (F:=λn i=>eA.l4 N n l i) (Af l) (λn i r hi hp hr=> ?_) (λn=> ?_) N ω
  ·unfold eA.l4 eA.dv eA.j8 eA.Wu
   have lK:eA.l9 N (eA.l4 N n) N l (i:Int) 0=_:=RV N (eA.l4 N n) hl i hi i N 0 ω ω ω rfl
   rw[aT ω,ak,aW ω ω,ak,ak,aJ,RM,ar,cond_not,fY,lK,hr]
   have hT:cond ((l.take i).any (qV (l.getD i aV).2.2.1 (l.getD i aV).2.1)) (some false) r=if(l.take i).any (qV (l.getD i aV).2.2.1 (l.getD i aV).2.1)=false then r else some false:=by
    cases(l.take i).any (qV (l.getD i aV).2.2.1 (l.getD i aV).2.1)<;>rfl
   rw[hT]
   by_cases hK:Ij (l.getD i aV)
   ·rw[aj hK]
    have hD:(if Af l i then r else some false)=if ti i (l.getD (i-1) aV).1 (l.getD i aV).1 then(if(l.take i).any (qV (l.getD i aV).2.2.1 (l.getD i aV).2.1)=false then r else some false)else some false:=by
     by_cases h1:ti i (l.getD (i-1) aV).1 (l.getD i aV).1<;>by_cases h2:(l.take i).any (qV (l.getD i aV).2.2.1 (l.getD i aV).2.1)=false
     ·rw[aj h1,aj h2,aj ⟨hK,h1,h2⟩]
     ·rw[aj h1,ah h2,ah (λh=>h2 h.2.2)]
     ·rw[ah h1,ah (λh=>h1 h.2.1)]
     ·rw[ah h1,ah (λh=>h1 h.2.1)]
    rw[hD]
    by_cases h0:0<i
    ·have e:W .i64 ((i:Int)-1)=((i-1:Nat):Int):=by rw[ax ω ω];omega
     rw[aT (x:=0) (y:=(i:Int)) ω,ak,e]
     dsimp only
     rw[aJ,aW ω ω,ak,cF]
     by_cases h1:ti i (l.getD (i-1) aV).1 (l.getD i aV).1
     ·rw[aj h1,ah (by unfold ti at h1;omega)]
     ·rw[ah h1,aj (by unfold ti at h1;omega)]
    ·rw[aP (x:=0) (y:=(i:Int)) ω,av,aj (show ti i (l.getD (i-1) aV).1 (l.getD i aV).1 from λh=>absurd h h0)]
   ·rw[ah hK,ah (λh=>hK h.1)]
  ·unfold eA.l4 eA.dv
   rw[aP ω,av]
 ·rw[aT ω,ak,cj h40,Ek]
end VM
end
section
namespace VM
open Go VM.F
def ux(s w p:Int):Prop:=((s=1∨s=3)∧w=0∧p=0)∨(s=2∧1≤w∧w≤12∧ -1152921504606846976≤p∧p≤1152921504606846976)
instance(s w p:Int):Decidable (ux s w p):=by unfold ux;infer_instance
def Fs(a:Int):Prop:=1≤a∧a≤1099511627776
instance(a:Int):Decidable (Fs a):=by unfold Fs;infer_instance
def Wv(a b:Int):Prop:=a≤b
instance(a b:Int):Decidable (Wv a b):=by unfold Wv;infer_instance
def DP(c:ae)(l:bw)(i:Nat):Prop:=
 Fs (l.getD i ((0:Int),(cm,aV))).1∧ti i (l.getD (i-1) ((0:Int),(cm,aV))).1 (l.getD i ((0:Int),(cm,aV))).1∧ ¬dw ((l.getD i ((0:Int),(cm,aV))).2.1.length:Int) 0∧lW c (l.getD i ((0:Int),(cm,aV))).2.1=true∧Wv (l.getD i ((0:Int),(cm,aV))).2.2.1 0∧ux (l.getD i ((0:Int),(cm,aV))).2.2.2.1 (l.getD i ((0:Int),(cm,aV))).2.2.2.2.1 (l.getD i ((0:Int),(cm,aV))).2.2.2.2.2.1
instance(c:ae)(l:bw):DecidablePred (DP c l):=λi=>by unfold DP;infer_instance
def Bn(c:ae)(l:bw):Bool:=fI c&&(decide (l.length≤12)&&(decide (∀j,j<l.length→DP c l j)&&true))
def Iw(l:bw):Prop:= ∀x∈l,x.2.1.length≤100000
theorem Qd{l:bw}(h:Iw l)(i:Nat):(l.getD i ((0:Int),(cm,aV))).2.1.length≤100000:=by
 by_cases hi:i<l.length
 ·rw[aU,bm hi];exact h _ (dz hi)
 ·rw[aU,gC ω];exact bo _
theorem Z3(s w p:Int)(r:Option Bool):
  cond (aO s 1) (cond (!aO w 0) (some false) (cond (!aO p 0) (some false) r)) (cond (aO s 3) (cond (!aO w 0) (some false) (cond (!aO p 0) (some false) r)) (cond (aO s 2) (cond (aY w 1) (some false) (cond (aY 12 w) (some false) (cond (aY p (-1152921504606846976)) (some false) (cond (aY 1152921504606846976 p) (some false) r)))) (some false)))=
   if ux s w p then r else some false:=by
 simp only[cond_not,aN,cO]
 by_cases h:ux s w p
 ·rw[aj h];unfold ux at h
  repeat' split
  all_goals first|rfl|omega
 ·rw[ah h];unfold ux at h
  repeat' split
  all_goals first|rfl|omega
theorem TG{A B C D E F:Prop} [Decidable A] [Decidable B] [Decidable C] [Decidable D] [Decidable E] [Decidable F](r:Option Bool):
  (if A then(if B then(if C then(if D then(if E then(if F then r else some false)else some false)else some false)else some false)else some false)else some false)=if A∧B∧C∧D∧E∧F then r else some false:=by
 by_cases hA:A<;>by_cases hB:B<;>by_cases hC:C<;>by_cases hD:D<;>by_cases hE:E<;>by_cases hF:F<;>simp only[hA,hB,hC,hD,hE,hF,gw,eQ,and_self,eP,and_false,false_and,true_and]
theorem Ww{a b n f s w p:Int}{i:Nat}{o:Bool}{r:Option Bool}:
  cond (aY a 1) (some false) (cond (aY 1099511627776 a) (some false) (if ti i b a then(cond (aO n 0) (some false) (cond (!o) (some false) (cond (aY 0 f) (some false) (if ux s w p then r else some false))))else some false))=
   if Fs a∧ti i b a∧ ¬dw n 0∧o=true∧Wv f 0∧ux s w p then r else some false:=by
 rw[←TG]
 simp only[cond_not,aN,cO]
 by_cases h1:Fs a
 ·have pg:=h1
  unfold Fs at pg
  rw[aj h1,ah ω,ah ω]
  by_cases h2:ti i b a
  ·rw[aj h2,aj h2]
   by_cases h3:n=0
   ·rw[aj h3,ah (show ¬ ¬dw n 0 from λh=>h h3)]
   ·rw[ah h3,aj (show ¬dw n 0 from h3)]
    cases o
    ·rfl
    ·rw[ak,aj rfl]
     by_cases h4:f≤0
     ·rw[aj (show Wv f 0 from h4),ah ω]
     ·rw[ah (show ¬Wv f 0 from h4),aj ω]
  ·rw[ah h2,ah h2]
 ·have pg:=h1
  unfold Fs at pg
  rw[ah h1]
  by_cases h2:a<1
  ·rw[aj h2]
  ·rw[ah h2,aj ω]
theorem Wx{i:Nat}{a b:Int}{r:Option Bool}(h0:0<i):cond (dj a b) (some false) r=if ti i b a then r else some false:=by
 rw[cF]
 by_cases h1:ti i b a
 ·rw[aj h1,ah (by unfold ti at h1;omega)]
 ·rw[ah h1,aj (by unfold ti at h1;omega)]
theorem Ap(N:Nat)(hN:200000≤N)(c:ae){l:bw}(hl:l.length≤100000)(hw:Iw l):iK N c l=some (Bn c l):=by
 unfold iK iK.b Bn
 rw[m4 N ω,ar]
 cases fI c
 ·rfl
 rw[a7,av,mS]
 by_cases h12:l.length≤12
 ·rw[aP ω,av,bs h12,mS]
  refine ij (F:=λn i=>iK.l4 N n l c i) (DP c l) (λn i r hi hp hr=> ?_) (λn=> ?_) N ω
  ·unfold iK.l4 iK.dv iK.j9 iK.MP
   rw[aT ω,ak,aW ω ω,ak,aJ,wG N hN c (Qd hw i),ar,ax (x:=(i:Int)+1) ω ω,ag i,hr,Z3]
   refine Eq.trans ?_ Ww
   by_cases h0:0<i
   ·have e:W .i64 ((i:Int)-1)=((i-1:Nat):Int):=by rw[ax ω ω];omega
    rw[aT (x:=0) (y:=(i:Int)) ω,ak,e]
    dsimp only
    rw[aJ,aW ω ω,ak,Wx h0]
   ·rw[aP (x:=0) (y:=(i:Int)) ω,av,aj (show ti i (l.getD (i-1) ((0:Int),(cm,aV))).1 (l.getD i ((0:Int),(cm,aV))).1 from λh=>absurd h h0)]
  ·unfold iK.l4 iK.dv
   rw[aP ω,av]
 ·rw[aT ω,ak,cj h12,vF]
end VM
end
section
namespace VM
open Go VM.F
abbrev AwS:=au×au×bw
def Cu(a:Int):Prop:=0≤a∧a<6
structure Ft(t:aD):Prop where
 len:t.length≤6
 inst: ∀y∈t,Cu y.1
 q: ∀y∈t,aE y.2.1∧pU y.2.1
theorem Ix{c:ae}{t:aD}(h:lW c t=true)(nF: ∀y∈t,aE y.2.1):Ft t:=by
 unfold lW at h
 obtain⟨h1,h2⟩:=cN.1 h
 have pg:=bz h1
 have h6:c.1.length≤6:=by
  unfold fI at h2
  exact(bz (cN.1 h2).1).2
 have get: ∀(i:Nat) (hi:i<t.length),t.getD i cz=t[i]:=λi hi=>by rw[aU,bm hi];rfl
 have Pu: ∀i,i<t.length→m8 (t.getD i cz).1 (t.getD i cz).2.1 c.1.length i (t.getD (i-1) cz).1:=pg
 have inc: ∀i,i<t.length→(i:Int)≤(t.getD i cz).1:=by
  intro i
  induction i with
  |zero=>intro hi;exact(Pu 0 hi).1
  |succ i ih=>
   intro hi
   have a:=ih ω
   have b:=(Pu (i+1) hi).2.2.2.2 ω
   rw[Nat.add_sub_cancel]at b
   have g: ∀x y:Int,(i:Int)≤x→x<y→((i+1:Nat):Int)≤y:=λx y _ _=>ω
   exact g _ _ a b
 refine⟨?_,λy hy=> ?_,λy hy=> ?_⟩
 ·by_cases h0:t.length=0
  ·omega
  ·have a:=inc (t.length-1) ω
   have b:=(Pu (t.length-1) ω).2.1
   have g: ∀x:Int,((t.length-1:Nat):Int)≤x→x<(c.1.length:Int)→t.length≤6:=λx _ _=>ω
   exact g _ a b
 ·obtain⟨i,hi,e⟩:=gd hy
  have:=Pu i hi
  rw[get i hi,e]at this
  have g: ∀x:Int,0≤x→x<(c.1.length:Int)→Cu x:=λx _ _=>by unfold Cu;omega
  exact g _ this.1 this.2.1
 ·obtain⟨i,hi,e⟩:=gd hy
  have:=Pu i hi
  rw[get i hi,e]at this
  exact⟨nF y hy,this.2.2.2.1⟩
structure afK(z:AwS)(i:Nat):Prop where
 place: ∀x∈z.1,bI x.1 x.2.1
 q: ∀x∈z.1,aE (dZ x)∧pU (dZ x)
 len:z.1.length≤12*i
 flat: ∀a:Int,(c5 a z.1).sum=0
 key: ∀x∈z.2.1,cQ x.1 x.2.1
 qe: ∀x∈z.2.1,aE (dZ x)
 ay3:z.2.1.length≤2*i
 zero:(z.2.1.map dZ).sum=0
 out:z.2.2.length=i
theorem yj(a:Int)(l m:au):c5 a (l++m)=c5 a l++c5 a m:=by
 induction l with
 |nil=>rfl
 |cons x t ih=>
  rw[lG,df,df,ih]
  split<;>rfl
theorem TH{v:Int}(h:aE v∧pU v):aE (0-v)∧pU (0-v):=by
 unfold aE pU at*;omega
theorem afK.nil:afK ([],[],[]) 0:=⟨λx hx=>(nomatch hx),λx hx=>(nomatch hx),aG _,λa=>rfl,λx hx=>(nomatch hx),λx hx=>(nomatch hx),aG _,rfl,rfl⟩
end VM
end
section
namespace VM
open Go VM.F
theorem gk{c:ae}{b:aq}(h:dx c b=true):ei b.2.2.1=true∧cZ b.2.2.2.1=true:=by
 unfold dx at h
 have h1:=(cN.1 (cN.1 h).2).2
 have h2:=cN.1 h1
 have h3:=(cN.1 (cN.1 h2.2).2).1
 refine⟨h2.1,?_⟩
 unfold nZ at h3
 exact(cN.1 h3).2
structure xu(b:aq):Prop where
 w:g8 b
 r:b.2.2.1.length≤90000
 s:b.2.2.2.1.length≤90000
end VM
end
section
namespace VM
open Go VM.F
end VM
end
section
namespace VM
open Go VM.F
theorem fK(x:Int):aO x x=true:=dX rfl
theorem Wy(x:yI):pa (.pair (.int .i64) (.pair (.int .i64) .unit)) x x=true:=by
 show(aO x.1 x.1&&(aO x.2.1 x.2.1&&true))=true
 rw[fK,fK];rfl
theorem Qe(x:db):pa (.pair (.int .i64) (.pair (.int .i64) (.pair (.int .i64) .unit))) x x=true:=by
 show(aO x.1 x.1&&pa (.pair (.int .i64) (.pair (.int .i64) .unit)) x.2 x.2)=true
 rw[fK,Wy];rfl
theorem Wz(x:bX):pa (.pair (.int .i64) (.pair (.int .i64) (.pair (.int .i64) (.pair (.int .i64) .unit)))) x x=true:=by
 show(aO x.1 x.1&&pa (.pair (.int .i64) (.pair (.int .i64) (.pair (.int .i64) .unit))) x.2 x.2)=true
 rw[fK,Qe];rfl
theorem ahB(x:gj):pa (.pair (.int .i64) (.pair (.int .i64) (.pair (.int .i64) (.pair (.int .i64) (.pair (.int .i64) (.pair (.int .i64) .unit)))))) x x=true:=by
 show(aO x.1 x.1&&(aO x.2.1 x.2.1&&pa (.pair (.int .i64) (.pair (.int .i64) (.pair (.int .i64) (.pair (.int .i64) .unit)))) x.2.2 x.2.2))=true
 rw[fK,fK,Wz];rfl
theorem oc{F:Nat→Int→Option Bool}{len:Nat}(hs: ∀n (i:Nat),i<len→F n ((i+1:Nat):Int)=some true→F (n+1) (i:Int)=some true)(he: ∀n,F (n+1) (len:Int)=some true): ∀(m n i:Nat),len-i≤m→m<n→i≤len→F n (i:Int)=some true
 |m,0,i,_,hn,_=>ω
 |m,n+1,i,hm,hn,hi=>by
  by_cases h:i<len
  ·exact hs n i h (oc hs he (m-1) n (i+1) ω ω ω)
  ·have:i=len:=ω
   subst this;exact he n
theorem M6(N:Nat){l:aD}(hl:l.length≤100000)(hN:200000≤N):Dj N l l=some true:=by
 unfold Dj Dj.b
 rw[fK,a7,av]
 refine oc (F:=λn i=>Dj.l4 N n l l i) (len:=l.length) (λn i hi hr=> ?_) (λn=> ?_) l.length N 0 ω ω ω
 ·unfold Dj.l4 Dj.dv
  rw[aT ω,ak,aW ω ω,ak,ak,Wy,a7,av,ax (x:=(i:Int)+1) ω ω,ag i]
  exact hr
 ·unfold Dj.l4 Dj.dv
  rw[aP ω,av]
theorem WA(N:Nat){l:aM}(hl:l.length≤100000)(hN:200000≤N):Dl N l l=some true:=by
 unfold Dl Dl.b
 rw[fK,a7,av]
 refine oc (F:=λn i=>Dl.l4 N n l l i) (len:=l.length) (λn i hi hr=> ?_) (λn=> ?_) l.length N 0 ω ω ω
 ·unfold Dl.l4 Dl.dv
  rw[aT ω,ak,aW ω ω,ak,ak,Wz,a7,av,ax (x:=(i:Int)+1) ω ω,ag i]
  exact hr
 ·unfold Dl.l4 Dl.dv
  rw[aP ω,av]
theorem WB(N:Nat){l:au}(hl:l.length≤100000)(hN:200000≤N):Dm N l l=some true:=by
 unfold Dm Dm.b
 rw[fK,a7,av]
 refine oc (F:=λn i=>Dm.l4 N n l l i) (len:=l.length) (λn i hi hr=> ?_) (λn=> ?_) l.length N 0 ω ω ω
 ·unfold Dm.l4 Dm.dv
  rw[aT ω,ak,aW ω ω,ak,ak,Qe,a7,av,ax (x:=(i:Int)+1) ω ω,ag i]
  exact hr
 ·unfold Dm.l4 Dm.dv
  rw[aP ω,av]
theorem TI(N:Nat){l:au}(hl:l.length≤100000)(hN:200000≤N):Dn N l l=some true:=by
 unfold Dn Dn.b
 rw[fK,a7,av]
 refine oc (F:=λn i=>Dn.l4 N n l l i) (len:=l.length) (λn i hi hr=> ?_) (λn=> ?_) l.length N 0 ω ω ω
 ·unfold Dn.l4 Dn.dv
  rw[aT ω,ak,aW ω ω,ak,ak,Qe,a7,av,ax (x:=(i:Int)+1) ω ω,ag i]
  exact hr
 ·unfold Dn.l4 Dn.dv
  rw[aP ω,av]
theorem Qf(N:Nat){l:bq}(hl:l.length≤100000)(hN:200000≤N):Dp N l l=some true:=by
 unfold Dp Dp.b
 rw[fK,a7,av]
 refine oc (F:=λn i=>Dp.l4 N n l l i) (len:=l.length) (λn i hi hr=> ?_) (λn=> ?_) l.length N 0 ω ω ω
 ·unfold Dp.l4 Dp.dv
  rw[aT ω,ak,aW ω ω,ak,ak,ahB,a7,av,ax (x:=(i:Int)+1) ω ω,ag i]
  exact hr
 ·unfold Dp.l4 Dp.dv
  rw[aP ω,av]
theorem WC(N:Nat){l:List (Int)}(hl:l.length≤100000)(hN:200000≤N):Dq N l l=some true:=by
 unfold Dq Dq.b
 rw[fK,a7,av]
 refine oc (F:=λn i=>Dq.l4 N n l l i) (len:=l.length) (λn i hi hr=> ?_) (λn=> ?_) l.length N 0 ω ω ω
 ·unfold Dq.l4 Dq.dv
  rw[aT ω,ak,aW ω ω,ak,ak,fK,a7,av,ax (x:=(i:Int)+1) ω ω,ag i]
  exact hr
 ·unfold Dq.l4 Dq.dv
  rw[aP ω,av]
theorem WD(N:Nat)(hN:200000≤N){b:aq}(h1:b.1.length≤100000)(h2:b.2.1.length≤100000)(h3:b.2.2.1.length≤100000)(h4:b.2.2.2.1.length≤100000)(h5:b.2.2.2.2.1.length≤100000)(h6:b.2.2.2.2.2.1.length≤100000):F35 N b b=some true:=by
 unfold F35
 rw[M6 N h1 hN,ar,ak,WA N h2 hN,ar,ak,WB N h3 hN,ar,ak,TI N h4 hN,ar,ak,WC N h5 hN,ar,ak,Qf N h6 hN,ar]
theorem Fu{P:Int→Prop} [DecidablePred P]{f:Int→Int→Int}: ∀{K:List cU} {o:au},dW P f K=some o→o.length≤K.length
 |[],o,h=>by
  have:some []=some o:=h
  rw[←mQ this];exact aG _
 |k::t,o,h=>by
  rw[kH]at h
  by_cases hP:P (f k.1 k.2)
  ·rw[aj hP]at h
   cases hc:dW P f t with
   |none=>rw[hc]at h;exact absurd h (by simp)
   |some r=>
    have ih:=Fu hc
    rw[hc]at h
    have h':=mQ h
    rw[←h',aR]
    dsimp only
    split
    ·omega
    ·rw[aR];omega
  ·rw[ah hP]at h;exact absurd h (by simp)
theorem Qg:jr.length=150:=by decide+kernel
theorem TJ:ni.length=175:=by decide+kernel
structure WE(b:aq):Prop where
 m:b.1.length≤100000
 a:b.2.1.length≤100000
 r:b.2.2.1.length≤100000
 s:b.2.2.2.1.length≤100000
 p:b.2.2.2.2.1.length≤100000
 o:b.2.2.2.2.2.1.length≤100000
theorem xv:WE (([]:aD),(([]:aM),(([]:au),(([]:au),(([]:List Int),(([]:bq),())))))):=⟨bo _,bo _,bo _,bo _,bo _,bo _⟩
theorem M7{b:aq}(w:g8 b)(s e:au):WE (eI b s e).1:=by
 unfold eI
 cases h1:dW Fq (fS b.2.2.2.1 s) jr with
 |none=>exact xv
 |some s'=>
  cases h2:dW aE (fS b.2.2.1 e) ni with
  |none=>exact xv
  |some r'=>
   have g1:=Fu h1
   have g2:=Fu h2
   rw[Qg]at g1
   rw[TJ]at g2
   exact⟨w.m,w.a,by show r'.length≤_;omega,by show s'.length≤_;omega,w.p,w.o⟩
end VM
end
section
namespace VM
open Go VM.F Go.RowKit
def gl(a b:Int):au→Int
 |[]=>0
 |x::t=>if x.1=a then(if x.2.1=b then x.2.2.1 else gl a b t)else gl a b t
theorem gS(a b:Int)(x:db)(t:au):gl a b (x::t)=if x.1=a then(if x.2.1=b then x.2.2.1 else gl a b t)else gl a b t:=rfl
def fx(l:au)(a b:Int):Int:=if cZ l then gl a b l else 0
def gT(l:au)(a b:Int):Int:=if ei l then gl a b l else 0
theorem DQ(N:Nat){l:au}(hl:l.length≤100000)(hN:200000≤N)(a b:Int):Bo N l a b=some (fx l a b):=by
 unfold Bo Bo.b fx
 rw[kF N hl hN,ar,cond_not]
 have:=z8 l bl (λn i=>Bo.l4 N n l a b i) (λt=>some (gl a b t)) (λn i hi hr=> ?_) (λn=> ?_) N ω
 ·rw[this];cases cZ l<;>rfl
 ·unfold Bo.l4 Bo.dv
  rw[aT ω,ak,aW ω ω,ak,ak,ak,aJ,ax (x:=(i:Int)+1) ω ω,ag i,hr,aN,aN,gS]
  split
  ·split<;>rfl
  ·rfl
 ·unfold Bo.l4 Bo.dv
  rw[aP ω,av];rfl
theorem Bp(N:Nat){l:au}(hl:l.length≤100000)(hN:200000≤N)(a b:Int):uy N l a b=some (gT l a b):=by
 unfold uy uy.b gT
 rw[Fh N hl hN,ar,cond_not]
 have:=z8 l bl (λn i=>uy.l4 N n l a b i) (λt=>some (gl a b t)) (λn i hi hr=> ?_) (λn=> ?_) N ω
 ·rw[this];cases ei l<;>rfl
 ·unfold uy.l4 uy.dv
  rw[aT ω,ak,aW ω ω,ak,ak,ak,aJ,ax (x:=(i:Int)+1) ω ω,ag i,hr,aN,aN,gS]
  split
  ·split<;>rfl
  ·rfl
 ·unfold uy.l4 uy.dv
  rw[aP ω,av];rfl
theorem DR{l:au}(h: ∀i,i<l.length→aE (dZ (l.getD i bl))):ec l:=λx hx=>by
 obtain⟨i,hi,e⟩:=gd hx
 have:=h i hi
 rw[aU,bm hi]at this
 rw[←e];exact this
namespace Pure
end Pure
end VM
end
section
namespace VM
open Go VM.F
theorem Z4(N:Nat){x:Int}(h:aE x):F66 N (dN x)=some (dN (-x),true):=by
 unfold F66 ahC dN
 unfold aE at h
 dsimp only
 rw[uZ,uZ,wj N ω ω ω ω ω ω,ar]
 dsimp only
 have hb:(0:Int)≤(if(0:Int)<x%18446744073709551616+0 then 1 else 0)∧(if(0:Int)<x%18446744073709551616+0 then(1:Int)else 0)≤1:=by split<;>omega
 rw[wj N ω ω ω ω hb.1 hb.2,ar]
 dsimp only
 have key: ∀{z:cB},z=dN (-x)→((some (z,true):Option (cB×Bool)).bind λr1=>some (r1.1,r1.2))=some (dN (-x),true):=λe=>by rw[e];rfl
 by_cases h0:x=0
 ·subst h0
  rw[ah ω,ax ω ω,aP (x:=0) (y:=0) ω,aP (x:=0/18446744073709551616) ω]
  simp only[oO,sS,a7,av]
  refine key (wmk ?_ ?_)<;>omega
 ·rw[aj ω]
  by_cases h1:0<x
  ·rw[aP (x:=0) (y:=0) ω,aP (x:=x/18446744073709551616) ω]
   simp only[oO,sS,a7,av]
   refine key (wmk ?_ ?_)
   ·rw[iB];split<;>omega
   ·omega
  ·have e:W .i64 ((0%18446744073709551616-x/18446744073709551616%18446744073709551616-1)%18446744073709551616)=0:=by rw[iB];split<;>omega
   rw[e,aP (x:=0) (y:=0) ω,aT (x:=x/18446744073709551616) ω,oO,oO]
   refine key (wmk ?_ ?_)<;>omega
theorem RW(N:Nat){l:au}(hl:l.length≤100000)(hN:200000≤N)(a b:Int):Bq N l a b=some (gT l a b):=by
 unfold Bq Bq.b gT
 rw[DL N hl hN,ar,cond_not]
 have:=z8 l bl (λn i=>Bq.l4 N n a b l (l.length:Int) i) (λt=>some (gl a b t)) (λn i hi hr=> ?_) (λn=> ?_) N ω
 ·rw[this];cases ei l<;>rfl
 ·unfold Bq.l4 Bq.dv
  rw[aT ω,ak,aW ω ω,ak,aJ,ax (x:=(i:Int)+1) ω ω,ag i,hr,aN,aN,gS]
  split
  ·split<;>rfl
  ·rfl
 ·unfold Bq.l4 Bq.dv
  rw[aP ω,av];rfl
theorem Fv{l:au}(h:ec l)(a b:Int):aE (gl a b l):=by
 induction l with
 |nil=>show aE 0;decide
 |cons x t ih=>
  have ih:=ih (λy hy=>h y (a6 _ hy))
  rw[gS]
  split
  ·split
   ·exact h x (bn ..)
   ·exact ih
  ·exact ih
theorem Aq{l:au}(h:ec l)(a b:Int):aE (gT l a b):=by
 unfold gT
 split
 ·exact Fv h a b
 ·exact⟨δ,δ⟩
def kf(a:Int):au→aD
 |[]=>[]
 |x::t=>if x.1=a then(x.2.1,(x.2.2.1,()))::kf a t else kf a t
theorem mv(a:Int)(x:db)(t:au):kf a (x::t)=if x.1=a then(x.2.1,(x.2.2.1,()))::kf a t else kf a t:=rfl
def posOf(l:au)(a:Int):aD:=if cZ l then kf a l else []
theorem Fw(a:Int): ∀l:au,(kf a l).length≤l.length
 |[]=>aG _
 |x::t=>by
  have:=Fw a t
  rw[mv,aR]
  split
  ·rw[aR];omega
  ·omega
theorem Br(a:Int)(l:au):(posOf l a).length≤l.length:=by
 unfold posOf
 split
 ·exact Fw a l
 ·exact bo _
theorem kg{a:Int}{y:yI}: ∀{l:au},y∈kf a l→ ∃x∈l,x.1=a∧y=(x.2.1,(x.2.2.1,()))
 |[],h=>nomatch h
 |x::t,h=>by
  rw[mv]at h
  by_cases e:x.1=a
  ·rw[aj e]at h
   rcases aX.1 h with h|h
   ·exact⟨x,bn ..,e,h⟩
   ·obtain⟨x',hx,h'⟩:=kg h
    exact⟨x',a6 _ hx,h'⟩
  ·rw[ah e]at h
   obtain⟨x',hx,h'⟩:=kg h
   exact⟨x',a6 _ hx,h'⟩
theorem Fy{l:au}(h:ec l)(a:Int): ∀y∈posOf l a,aE y.2.1:=λy hy=>by
 unfold posOf at hy
 split at hy
 ·obtain⟨x,hx,_,rfl⟩:=kg hy
  exact h x hx
 ·nomatch hy
theorem afL(N:Nat){l:au}(hl:l.length≤100000)(hN:200000≤N)(a:Int):Bs N l a=some (posOf l a):=by
 unfold Bs Bs.b posOf
 rw[wy N hl hN,ar,cond_not]
 have:=nV l bl (λn i s=>Bs.l5 N n a s l (l.length:Int) i) (λt s=>some (s++kf a t)) (λi (s:aD)=>s.length≤i) (λn i s hi hI hr=> ?_) (λn s hI=> ?_) l.length N 0 [] ω ω ω (aG _)
 ·have e:Bs.l5 N N a [] l (l.length:Int) 0=some (kf a l):=this
  rw[e];cases cZ l<;>rfl
 ·unfold Bs.l5 Bs.dV
  rw[aT ω,ak,aW ω ω,ak,aJ,ax (x:=(i:Int)+1) ω ω,ag i,aN,bL (by rw[aI];omega),ak,mv]
  split
  ·rw[hr _ (by rw[aS,aI];omega),br];rfl
  ·exact hr s ω
 ·unfold Bs.l5 Bs.dV
  rw[aP ω,av]
  show some s=some (s++[])
  rw[ch]
theorem Qh(N:Nat){l:au}(hl:l.length≤100000)(hN:200000≤N)(a:Int):lj N l a=some (posOf l a):=by
 unfold lj lj.b posOf
 rw[kF N hl hN,ar,cond_not]
 have:=nV l bl (λn i s=>lj.l5 N n l a s i) (λt s=>some (s++kf a t)) (λi (s:aD)=>s.length≤i) (λn i s hi hI hr=> ?_) (λn s hI=> ?_) l.length N 0 [] ω ω ω (aG _)
 ·have e:lj.l5 N N l a [] 0=some (kf a l):=this
  rw[e];cases cZ l<;>rfl
 ·unfold lj.l5 lj.dV
  rw[aT ω,ak,aW ω ω,ak,ak,ak,aJ,ax (x:=(i:Int)+1) ω ω,ag i,aN,bL (by rw[aI];omega),ak,mv]
  split
  ·rw[hr _ (by rw[aS,aI];omega),br];rfl
  ·exact hr s ω
 ·unfold lj.l5 lj.dV
  rw[aP ω,av]
  show some s=some (s++[])
  rw[ch]
def od(c:ae)(y:yI):Int:=(c.1.getD y.1.toNat aV).2.2.2.1
def Iy(c:ae)(l:aD):List Int:=l.map λy=>(y.2.1.natAbs:Int)*od c y
def qZ(c:ae)(l:aD):Int:=if lW c l then(Iy c l).sum else 0
def Ar(c:ae)(l:aD):Int:=if lW c l then 0 else 1
def uz(a n:Int):Prop:=0≤a∧a<n
structure ahD(c:ae)(y:yI):Prop where
 place:uz y.1 c.1.length
 size:(y.2.1.natAbs:Int)≤9223372036854775807
 q:aE y.2.1
 Z5:0≤od c y∧od c y≤1000000000
theorem Kg{c:ae}{t:aD}(h:lW c t=true)(nF: ∀y∈t,aE y.2.1): ∀y∈t,ahD c y:=λy hy=>by
 unfold lW at h
 obtain⟨h1,h2⟩:=cN.1 h
 obtain⟨i,hi,e⟩:=gd hy
 have a:=bz h1 i hi
 unfold m9 m8 at a
 rw[aU,bm hi]at a
 simp only[mO,e]at a
 have hp:uz y.1 c.1.length:=⟨a.1,a.2.1⟩
 have eZ:y.1.toNat<c.1.length:=by
  have g: ∀x:Int,uz x c.1.length→x.toNat<c.1.length:=λx hx=>by unfold uz at hx;omega
  exact g _ hp
 have hq:=nF y hy
 refine⟨hp,?_,hq,?_⟩
 ·have g: ∀x:Int,aE x→pU x→(x.natAbs:Int)≤9223372036854775807:=λx h1 h2=>by unfold aE at h1;unfold pU at h2;omega
  exact g _ hq a.2.2.2.1
 ·unfold fI at h2
  have b:=bz (cN.1 (cN.1 h2).2).1 _ eZ
  exact b.2.2.2
theorem FA{c:ae}{y:yI}(h:ahD c y):0≤(y.2.1.natAbs:Int)*od c y∧(y.2.1.natAbs:Int)*od c y≤9223372036854775807000000000:=by
 have:=mul_lt (a:=(y.2.1.natAbs:Int)) (b:=od c y) (m:=9223372036854775807) (n:=1000000000) ω h.Z5.1 h.size h.Z5.2
 exact⟨this.1,by have:=this.2;omega⟩
theorem RX{B:Int}(hB:0≤B): ∀{ws:List Int},(∀x∈ws,0≤x∧x≤B)→0≤ws.sum∧ws.sum≤B*(ws.length:Int)
 |[],_=>by simp
 |x::t,h=>by
  have h0:=h x (bn ..)
  have ih:=RX hB (ws:=t) (λy hy=>h y (a6 _ hy))
  rw[cy,aR]
  have e:B*((t.length+1:Nat):Int)=B*(t.length:Int)+B:=by rw[Ej,jQ];simp
  rw[e]
  omega
theorem TK{c:ae}{t:aD}(h: ∀y∈t,ahD c y): ∀x∈Iy c t,0≤x∧x≤9223372036854775807000000000:=λx hx=>by
 obtain⟨y,hy,rfl⟩:=cC.1 hx
 exact FA (h y hy)
theorem uA{c:ae}{t:aD}(nF: ∀y∈t,aE y.2.1):0≤qZ c t∧qZ c t≤92233720368547758070000000000:=by
 unfold qZ
 by_cases h:lW c t=true
 ·rw[aj h]
  have hg:=(Ix h nF).len
  have:=RX ω (TK (Kg h nF))
  have hl:(Iy c t).length=t.length:=cv ..
  rw[hl]at this
  omega
 ·rw[ah h];omega
theorem Kh{x:Int}(h:0≤x∧x≤92233720368547758070000000000):dm x:=by unfold dm;omega
theorem Z6(N:Nat)(hN:2000000≤N)(c:ae){t:aD}(hl:t.length≤100000)(nF: ∀y∈t,aE y.2.1):F89 N c t=some (dN (qZ c t),Ar c t):=by
 have YA:=uA (c:=c) nF
 unfold F89 px px.b
 rw[ZS N ω c hl,ar,cond_not]
 unfold qZ Ar at*
 by_cases h:lW c t=true
 ·have hC:=Kg h nF
  rw[h,aj rfl]at YA
  rw[h,ak,aj rfl,aj rfl]
  have:=nV t cz (λn i ws=>px.l5 N n () c cz (ws.map dN) t (t.length:Int) i) (λu ws=>some ((Fe (ws++Iy c u).sum).1,(0:Int))) (λi (ws:List Int)=>ws.length≤i∧ ∀x∈ws,dm x)
   (λn i ws hi hI hr=> ?_) (λn ws hI=> ?_) t.length N 0 [] ω ω ω ⟨aG _,λx hx=>nomatch hx⟩
  ·have e:px.l5 N N () c cz [] t (t.length:Int) 0=some ((Fe (Iy c t).sum).1,(0:Int)):=this
   rw[e]
   unfold Fe
   rw[aj (Kh YA)];rfl
  ·unfold px.l5 px.dV ahE
   have hm:t.getD i cz∈t:=by
    rw[aU,bm hi];exact dz hi
   have hy:=hC _ hm
   have h1:=FA hy
   have hq:=hy.q
   unfold aE at hq
   have hp:=hy.place
   have hs:=hy.size
   have Z7:=hy.Z5
   unfold od at Z7
   rw[aT ω,ak,aW ω ω,ak,aJ,J0 N hq.1 hq.2,ar,aW hp.1 hp.2,ak,ar,ax (x:=((t.getD i cz).2.1.natAbs:Int)) ω ω,ZI N ω ω (fD δ Z7.1) (qq Z7.2 δ),ar,bL (by rw[cv,aI];omega),ak,ax (x:=(i:Int)+1) ω ω,ag i]
   have:=hr (ws++[((t.getD i cz).2.1.natAbs:Int)*od c (t.getD i cz)]) ⟨by rw[aS,aI];omega,qY hI.2 (Kh ⟨h1.1,ω⟩)⟩
   rw[cW]at this
   refine this.trans ?_
   rw[br];rfl
  ·unfold px.l5 px.dV
   rw[aP ω,av,DK N hI.2 ω ω,ar]
   show _=some ((Fe (ws++[]).sum).1,(0:Int))
   rw[ch]
 ·rw[mN]at h
  rw[h,av];rfl
theorem WG(N:Nat)(hN:4000000≤N)(c:ae){t:aD}(hl:t.length≤100000)(nF: ∀y∈t,aE y.2.1):Qi N c t=some (cT (qZ c t),Ar c t):=by
 unfold Qi ll ll.b
 rw[wG N ω c hl,ar,cond_not]
 unfold qZ Ar
 by_cases h:lW c t=true
 ·have hC:=Kg h nF
  have hg:=(Ix h nF).len
  rw[h,aj rfl,ak,aj rfl]
  have:=nV t cz (λn i ws=>ll.l5 N n t true c (cT 0) (cT ws.sum) i) (λu ws=>some (cT (ws++Iy c u).sum,(0:Int))) (λi (ws:List Int)=>ws.length≤i∧ ∀x∈ws,dm x)
   (λn i ws hi hI hr=> ?_) (λn ws hI=> ?_) t.length N 0 [] ω ω ω ⟨aG _,λx hx=>nomatch hx⟩
  ·rw[show((0:Nat):Int)=0 from rfl,cX,ky,iC]at this
   rw[this];rfl
  ·unfold ll.l5 ll.dV
   have hm:t.getD i cz∈t:=by
    rw[aU,bm hi];exact dz hi
   have hy:=hC _ hm
   have h1:=FA hy
   have hq:=hy.q
   unfold aE at hq
   have hp:=hy.place
   have hs:=hy.size
   have Z7:=hy.Z5
   have hb:=J3 hI.2
   have hfq:=Fit.i64 hq.1 hq.2
   have hfn:Fit ((t.getD i cz).2.1.natAbs:Int) 2:=Fit.i64 ω ω
   have Vl:Fit (od c (t.getD i cz)) 2:=Fit.i64 (fD δ Z7.1) (qq Z7.2 δ)
   unfold od at Z7 Vl
   have Qc:dm (((t.getD i cz).2.1.natAbs:Int)*od c (t.getD i cz)):=Kh ⟨h1.1,ω⟩
   rw[aT ω,ak,aW ω ω,ak,aJ,aW hp.1 hp.2,ak,ak,ak,ak,ak,c4 N ω hq.1 hq.2,ar,Fa N ω (hfq.mono ω),ar,c4 N ω (fD δ Z7.1) (qq Z7.2 δ),ar,wq N ω (hfn.mono ω) (Vl.mono ω),ar]
   have G4:yX N (cT ws.sum) (cT (((t.getD i cz).2.1.natAbs:Int)*(c.1.getD (t.getD i cz).1.toNat aV).2.2.2.1))=some (cT (ws.sum+((t.getD i cz).2.1.natAbs:Int)*od c (t.getD i cz))):=iW N ω (Kf (n:=ws.length) ω hb.1 hb.2) (Ao Qc)
   rw[G4,ar,ax (x:=(i:Int)+1) ω ω,ag i]
   have:=hr (ws++[((t.getD i cz).2.1.natAbs:Int)*od c (t.getD i cz)]) ⟨by rw[aS,aI];omega,qY hI.2 Qc⟩
   rw[lH,cy,ky,kz,br]at this
   exact this
  ·unfold ll.l5 ll.dV
   rw[aP ω,av]
   show _=some (cT (ws++[]).sum,(0:Int))
   rw[ch]
 ·rw[mN]at h
  rw[h,av,←iC];rfl
end VM
end
section
namespace VM
open Go VM.F
def uB(m s:Int):Int:=if m≤0 then 0 else if s<m then s else m
def oU(c:ae)(b:aq)(a:Int):Int×Int:=
 if dx c b then(if(e9 b.2.1 a).2 then(uB (gT b.2.2.1 5 a) (qZ c (posOf b.2.2.2.1 a)),0)else(0,3))else(0,1)
theorem ahF{α:Type}(u:Int)(x y:α):cond (dj 0 (vj u)) x y=if 0≤u then x else y:=by
 rw[cF]
 have:0≤vj u↔0≤u:=by unfold vj;split<;>(try split)<;>omega
 by_cases h:0≤u
 ·rw[aj h,aj (this.2 h)]
 ·rw[ah h,ah (λk=>h (this.1 k))]
theorem Bt(N:Nat)(hN:4000000≤N)(c:ae){b:aq}(w:g8 b)(a:Int):F31 N c b a=some (oU c b a):=by
 unfold F31 oU
 have hp:=Br a b.2.2.2.1
 have hpi:=Fy w.qs a
 have hs:=w.s
 have hm:=Aq w.qr 5 a
 have G9:=uA (c:=c) hpi
 have K7:mx (gT b.2.2.1 5 a) 0=if 0<gT b.2.2.1 5 a then gT b.2.2.1 5 a else 0:=by
  rw[UX];split<;>split<;>omega
 rw[RL N hN w,ar,J5 N b w.a ω,ar,RW N w.r ω,ar,afL N w.s ω,cond_not,cond_not,K7]
 dsimp only
 rw[ar,Z6 N ω c ω hpi,ar]
 unfold F91
 dsimp only
 generalize qZ c (posOf b.2.2.2.1 a)=s at*
 generalize gT b.2.2.1 5 a=m at*
 unfold aE at hm
 cases dx c b
 ·rfl
 rw[ak,aj rfl]
 cases(e9 b.2.1 a).2
 ·rfl
 rw[ak,aj rfl,wv N (by split<;>omega) (by split<;>omega),ar,RK,ar,ar,ahF,Ai N (Kh G9),ar]
 unfold uB
 by_cases h1:0<m
 ·rw[aj h1,ah (show ¬m≤0 by omega)]
  by_cases h2:s<m
  ·rw[aj (show 0≤m-s by omega),aj h2,ng (by unfold aE;omega)]
  ·rw[ah h2]
   by_cases h3:s=m
   ·rw[aj (show 0≤m-s by omega),ng (by unfold aE;omega),h3]
   ·rw[ah (show ¬0≤m-s by omega)]
 ·rw[ah h1,aj (show m≤0 by omega)]
  by_cases h3:s=0
  ·rw[aj (show 0≤0-s by omega),ng (by unfold aE;omega),h3]
  ·rw[ah (show ¬0≤0-s by omega)]
theorem Iz(N:Nat){b:aq}(w:g8 b)(hN:200000≤N)(a:Int):Hr N b a=some (gT b.2.2.1 5 a):=by
 unfold Hr
 rw[Bp N w.r hN,ar]
theorem FB(N:Nat)(hN:5000000≤N)(c:ae){b:aq}(w:g8 b)(a:Int):F60 N c b a=some (oU c b a):=by
 unfold F60 oU
 have hp:=Br a b.2.2.2.1
 have hpi:=Fy w.qs a
 have hs:=w.s
 have hm:=Aq w.qr 5 a
 have G9:=uA (c:=c) hpi
 rw[Ae N hN w,ar,wA N w.a ω,ar,Qh N w.s ω,ar,WG N ω c ω hpi,ar,Iz N w ω,ar,qR,ar,cond_not,cond_not,cF]
 generalize qZ c (posOf b.2.2.2.1 a)=s at*
 generalize gT b.2.2.1 5 a=m at*
 unfold aE at hm
 cases dx c b
 ·rfl
 rw[ak,aj rfl]
 cases(e9 b.2.1 a).2
 ·rfl
 rw[ak,aj rfl]
 unfold uB
 by_cases h1:m≤0
 ·rw[aj h1,aj h1]
 ·rw[ah h1,ah h1]
  by_cases h4:aE s
  ·rw[ng h4]
   dsimp only
   rw[ak,cO]
   split<;>rfl
  ·rw[ur h4]
   unfold aE at h4
   dsimp only
   rw[av,ah ω]
theorem WH{hi:Int}: ∀{l:List Int} {lo:Int},l.Pairwise (· < ·)→(∀x∈l,lo≤x∧x<hi)→lo≤hi→(l.length:Int)≤hi-lo
 |[],lo,_,_,h=>by rw[bS];omega
 |x::t,lo,hp,hm,h=>by
  obtain⟨h1,h2⟩:=eo.1 hp
  have hx:=hm x (bn ..)
  have ih:=WH (lo:=x+1) h2 (λy hy=>⟨h1 y hy,(hm y (a6 _ hy)).2⟩) ω
  rw[aR];omega
theorem Cv{a:Int}: ∀{l:au},sJ (l.map keyOf)→((kf a l).map (λy=>(y.1:Int))).Pairwise (· < ·)
 |[],_=>List.Pairwise.nil
 |x::t,h=>by
  obtain⟨h1,h2⟩:=eo.1 h
  have ih:=Cv (a:=a) h2
  rw[mv]
  by_cases e:x.1=a
  ·rw[aj e,bU]
   refine eo.2 ⟨λz hz=> ?_,ih⟩
   obtain⟨y,hy,rfl⟩:=cC.1 hz
   obtain⟨x',hx,e',rfl⟩:=kg hy
   have hk:=h1 (keyOf x') (eO hx)
   have g: ∀p q r s:Int,p=a→r=a→kN p q r s→q<s:=λp q r s h1 h2 h=>by unfold kN at h;omega
   exact g _ _ _ _ e e' hk
  ·rw[ah e];exact ih
theorem As{l:au}(hk:cZ l=true)(hq:ec l)(a:Int):Ft (posOf l a):=by
 obtain⟨hs,hp⟩:=eG hk
 have e:posOf l a=kf a l:=by unfold posOf;rw[hk];rfl
 rw[e]
 have lK: ∀y∈kf a l,Cu y.1:=λy hy=>by
  obtain⟨x,hx,_,rfl⟩:=kg hy
  have g: ∀p q:Int,bI p q→Cu q:=λp q h=>by unfold bI at h;unfold Cu;omega
  exact g _ _ (hp x hx).1
 refine⟨?_,lK,λy hy=> ?_⟩
 ·have:=WH (lo:=0) (hi:=6) (Cv (a:=a) hs) (λz hz=>by
   obtain⟨y,hy,rfl⟩:=cC.1 hz
   exact lK y hy) ω
  rw[cv]at this;omega
 ·obtain⟨x,hx,_,rfl⟩:=kg hy
  exact⟨hq x hx,(hp x hx).2⟩
def xS(a:Int):aD→au
 |[]=>[]
 |y::t=>(a,(y.1,((0-y.2.1:Int),())))::((0:Int),(y.1,(y.2.1,())))::xS a t
theorem tv(a:Int)(y:yI)(t:aD):xS a (y::t)=(a,(y.1,((0-y.2.1:Int),())))::((0:Int),(y.1,(y.2.1,())))::xS a t:=rfl
theorem wJ(a:Int): ∀t:aD,(xS a t).length=2*t.length
 |[]=>rfl
 |y::t=>by rw[tv,aR,aR,aR,wJ a t];omega
theorem ahI(N:Nat)(hN:200000≤N){l:au}(hl:l.length≤100000)(hk:cZ l=true)(hq:ec l){a:Int}(h0:1≤a)(h1:a≤24):Cw N l a 0=some (xS a (posOf l a)):=by
 have hg:=As hk hq a
 have hlen:=hg.len
 unfold Cw Cw.b
 rw[wy N hl hN,hk,ar,a7,av,DM,ar,bs (show bI a 0 by unfold bI;omega),a7,av,DM,ar,bs (show bI 0 0 by decide),a7,av,dT ω,av,afL N hl hN,ar]
 have:=nV (posOf l a) cz (λn i s=>Cw.l5 N n a 0 s (posOf l a) ((posOf l a).length:Int) i) (λt s=>some (s++xS a t)) (λi (s:au)=>s.length≤2*i) (λn i s hi hI hr=> ?_) (λn s hI=> ?_) (posOf l a).length N 0 [] ω ω ω (aG _)
 ·exact this
 ·unfold Cw.l5 Cw.dV
  have hm:(posOf l a).getD i cz∈posOf l a:=by
   rw[aU,bm hi];exact dz hi
  have hn:=(TH (hg.q _ hm)).1
  unfold aE at hn
  rw[aT ω,ak,aW ω ω,ak,aJ,ax (x:=(i:Int)+1) ω ω,ag i,ax hn.1 hn.2]
  dsimp only
  rw[bL (by rw[aR,aI];omega),ak,tv]
  refine(hr _ ?_).trans ?_
  ·rw[aS,aR,aI];omega
  ·rw[br];rfl
 ·unfold Cw.l5 Cw.dV
  rw[aP ω,av]
  show some s=some (s++[])
  rw[ch]
theorem Z8(N:Nat)(hN:200000≤N){l:au}(hl:l.length≤100000)(hk:cZ l=true)(hq:ec l){a:Int}(h0:1≤a)(h1:a≤24):iL N l a 0=some (xS a (posOf l a)):=by
 have e:posOf l a=kf a l:=by unfold posOf;rw[hk];rfl
 obtain⟨_,hp⟩:=eG hk
 unfold iL iL.b
 rw[kF N hl hN,hk,ar,a7,av,dT ω,av,aP (x:=a) ω,av,aP (x:=24) (y:=a) ω,av,aP (x:=0) ω,av,aP (x:=24) ω,av,e]
 have:=nV l bl (λn i s=>iL.l5 N n l a 0 s i) (λt s=>some (s++xS a (kf a t))) (λi (s:au)=>s.length≤2*i) (λn i s hi hI hr=> ?_) (λn s hI=> ?_) l.length N 0 [] ω ω ω (aG _)
 ·exact this
 ·unfold iL.l5 iL.dV
  have hm:l.getD i bl∈l:=by
   rw[aU,bm hi];exact dz hi
  have hn:=(TH ⟨hq _ hm,(hp _ hm).2⟩).1
  unfold aE dZ at hn
  rw[aT ω,ak,aW ω ω,ak,ak,ak,aJ,ax (x:=(i:Int)+1) ω ω,ag i,ax hn.1 hn.2,aN,mv]
  dsimp only
  rw[ak,ak,bL (by rw[aR,aI];omega),ak]
  by_cases h:(l.getD i bl).1=a
  ·rw[aj h,aj h,tv]
   refine(hr _ ?_).trans ?_
   ·rw[aS,aR,aI];omega
   ·rw[br];rfl
  ·rw[ah h,ah h]
   exact hr s ω
 ·unfold iL.l5 iL.dV
  rw[aP ω,av]
  show some s=some (s++[])
  rw[ch]
end VM
end
section
namespace VM
open Go VM.F
def iY(p:Int):Prop:=1≤p∧p≤1000000000000
instance(p:Int):Decidable (iY p):=by unfold iY;infer_instance
theorem FC(N:Nat)(p:Int):Db N p=some (decide (iY p)):=(iE N p).trans (ff some (oF.2 Iff.rfl))
def ki(a b c d e:Int):Prop:=(0≤a∧a≤24)∧(0≤b∧b≤24)∧a≠b∧(0≤c∧c<6)∧(1≤d∧d≤1000000000)∧iY e
instance(a b c d e:Int):Decidable (ki a b c d e):=by unfold ki;infer_instance
def nj(t:sK):Prop:=ki t.1 t.2.1 t.2.2.1 t.2.2.2.1 t.2.2.2.2.1
instance:DecidablePred nj:=λt=>by unfold nj;infer_instance
theorem M8(a b c d e:Int):cond (dj 0 a) (cond (dj a 24) (cond (dj 0 b) (cond (dj b 24) (cond (!aO a b) (cond (dj 0 c) (cond (aY c 6) (cond (dj 1 d) (cond (dj d 1000000000) (some (decide (iY e))) (some false)) (some false)) (some false)) (some false)) (some false)) (some false)) (some false)) (some false)) (some false)=some (decide (ki a b c d e)):=by
 simp only[cF,cond_not,aN,cO]
 by_cases hP:ki a b c d e
 ·have hp:=hP.2.2.2.2.2
  rw[bs hP,bs hp]
  unfold ki at hP
  repeat' split
  all_goals first|rfl|omega
 ·rw[cj hP]
  by_cases hp:iY e
  ·unfold ki at hP
   repeat' split
   all_goals first|rfl|(exact absurd ⟨ω,ω,ω,ω,ω,hp⟩ hP)
  ·rw[cj hp]
   repeat' split
   all_goals rfl
theorem xw(N:Nat)(t:sK):WI N t=some (decide (nj t)):=by
 unfold WI
 rw[FC,ar]
 exact M8 _ _ _ _ _
def Au(a x:Int):db:=if a=0 then((2:Int),((0:Int),(x,())))else((5:Int),(a,(x,())))
def Qj(t:sK)(p:Int):au:=if p-t.2.2.2.2.1=0 then []else [Au t.1 ((p-t.2.2.2.2.1)*t.2.2.2.1),Au t.2.1 (-((p-t.2.2.2.2.1)*t.2.2.2.1))]
theorem Bu(a x:Int)(N:Nat):Ki N a=some ((Au a x).1,(Au a x).2.1):=by
 unfold Ki Au
 rw[aN]
 by_cases h:a=0
 ·rw[aj h,aj h]
 ·rw[ah h,ah h]
theorem nk(a x:Int):dZ (Au a x)=x:=by unfold Au;split<;>rfl
theorem IA{d q:Int}(h1: -1000000000000≤d∧d≤1000000000000)(h2:1≤q∧q≤1000000000): -1000000000000000000000≤d*q∧d*q≤1000000000000000000000∧(d*q=0↔d=0):=by
 refine⟨?_,?_,?_⟩
 ·have:=y5 h1.1 (show 0≤q by omega)
  have h3: -1000000000000*1000000000≤ -1000000000000*q:=ω
  omega
 ·have:=y5 h1.2 (show 0≤q by omega)
  have h3:1000000000000*q≤1000000000000*1000000000:=ω
  omega
 ·rw[Int.mul_eq_zero];omega
theorem Hs(N:Nat)(hN:4000000≤N){t:sK}{p:Int}(ht:nj t)(hp:iY p):Qk N t p=some ((Qj t p).map gR,0):=by
 unfold Qk Qj
 have hq:=ht.2.2.2.2.1
 have he:=ht.2.2.2.2.2
 rw[xw,ar,bs ht,a7,av,FC,ar,bs hp,a7,av]
 unfold iY at hp he
 generalize t.2.2.2.2.1=e at*
 generalize t.2.2.2.1=q at*
 have hd: -1000000000000≤p-e∧p-e≤1000000000000:=ω
 have hn:=IA hd hq
 have Qc:dm ((p-e)*q):=by unfold dm;omega
 rw[ax (x:=p-e) ω ω,c4 N ω ω ω,ar,c4 N ω ω ω,ar,wq N hN ((Fit.i64 ω ω).mono ω) ((Fit.i64 ω ω).mono ω),ar,pT,ar,aN]
 by_cases h:p-e=0
 ·rw[aj h,aj (by rw[hn.2.2.2 h];rfl)];rfl
 ·rw[ah h,ah (λk=>h (hn.2.2.1 (kd.1 k))),Bu t.1 ((p-e)*q),ar,Bu t.2.1 (-((p-e)*q)),ar,jo N hN (Ao Qc),ar,bU,bU,iT]
  unfold gR
  rw[nk,nk]
theorem g9{c:ae}{b:aq}(h:dx c b=true):b.2.2.2.2.1.length=c.1.length∧eS b.2.2.2.2.1=true:=by
 unfold dx at h
 simp only[bP]at h
 have h1:=bz h.2.2.2.2.2.2.1
 unfold dw at h1
 exact⟨ω,h.2.2.2.2.2.2.2.2.2.2⟩
end VM
end
section
namespace VM
open Go VM.F
theorem M9{l:List Int}(h:eS l=true){i:Nat}(hi:i<l.length):iY (l.getD i 0):=bz h i hi
end VM
end
section
namespace VM
open Go VM.F
theorem uC{c:ae}{b:aq}(h:dx c b=true):fI c=true:=by
 unfold dx at h
 exact(cN.1 h).1
def nn(k:Int):Nat→aM→List Int
 |_,[]=>[]
 |i,x::t=>if x.1=k then(i:Int)::nn k (i+1) t else nn k (i+1) t
theorem Av(k:Int)(i:Nat)(x:bX)(t:aM):nn k i (x::t)=if x.1=k then(i:Int)::nn k (i+1) t else nn k (i+1) t:=rfl
def iG(c:ae)(k:Int):List Int:=if fI c then nn k 0 c.1 else []
theorem Ql(N:Nat)(hN:200000≤N)(c:ae)(hl:c.1.length≤100000)(k:Int):oV N c k=some (iG c k):=by
 unfold oV oV.b iG
 rw[m4 N ω,ar,cond_not]
 have:=nV c.1 aV (λn i s=>oV.l5 N n k c s i) (λt s=>some (s++nn k (c.1.length-t.length) t)) (λi (s:List Int)=>s.length≤i) (λn i s hi hI hr=> ?_) (λn s hI=> ?_) c.1.length N 0 [] ω ω ω (aG _)
 ·have e:oV.l5 N N k c [] 0=some (nn k 0 c.1):=by
   refine this.trans ?_
   rw[cX,sZ];rfl
  rw[e];cases fI c<;>rfl
 ·unfold oV.l5 oV.dV
  have e1:c.1.length-(c.1.getD i aV::c.1.drop (i+1)).length=i:=by rw[aR,dO];omega
  have e2:c.1.length-(c.1.drop (i+1)).length=i+1:=by rw[dO];omega
  rw[e2]at hr
  rw[aT ω,ak,aW ω ω,ak,aJ,ax (x:=(i:Int)+1) ω ω,ag i,aN,bL (by rw[aI];omega),ak,e1,Av]
  split
  ·rw[hr _ (by rw[aS,aI];omega),br];rfl
  ·exact hr s ω
 ·unfold oV.l5 oV.dV
  rw[aP ω,av]
  show some s=some (s++[])
  rw[ch]
theorem Cx{c:ae}(h:fI c=true):c.1.length≤6∧ ∀i,i<c.1.length→0≤(c.1.getD i aV).1∧(c.1.getD i aV).1≤3:=by
 unfold fI at h
 simp only[bP]at h
 have h1:=bz h.1
 have h2:=bz h.2.1
 exact⟨h1.2,λi hi=>(h2 i hi).1⟩
theorem WJ{l:au}(h:ec l)(a b:Int):aE (fx l a b):=by
 unfold fx
 cases cZ l
 ·show aE 0;decide
 ·exact Fv h a b
end VM
end
section
namespace VM
open Go VM.F
end VM
end
section
namespace VM
open Go VM.F
end VM
end
section
namespace VM
open Go VM.F
def Aw(l:List Int)(k:Int):Int:=l.getD k.toNat 0
def ins(l:List Int):List Int→Int→List Int
 |[],i=>[i]
 |k::t,i=>if Aw l i≤Aw l k then k::ins l t i else i::k::t
def fF(l:List Int):Nat→List Int
 |0=>[]
 |n+1=>ins l (fF l n) n
def kj(l:List Int):List Int:=fF l l.length
def yk(l:List Int)(a b:Int):Prop:=Aw l b<Aw l a∨(Aw l b=Aw l a∧a<b)
theorem RY(l:List Int): ∀(o:List Int) (i:Int),(ins l o i).length=o.length+1
 |[],i=>rfl
 |k::t,i=>by unfold ins;split<;>simp[RY l t i]
theorem sq(l:List Int): ∀n,(fF l n).length=n
 |0=>rfl
 |n+1=>by unfold fF;rw[RY,sq l n]
theorem yL(l:List Int):(kj l).length=l.length:=sq l _
theorem Kj(l:List Int){x:Int}: ∀{o:List Int} {i:Int},x∈ins l o i↔x=i∨x∈o
 |[],i=>by simp[ins]
 |k::t,i=>by
  unfold ins;split
  ·rw[aX,Kj l,aX]
   exact⟨λh=>h.elim (λh=> .inr (.inl h)) (λh=>h.elim .inl (λh=> .inr (.inr h))),λh=>h.elim (λh=> .inr (.inl h)) (λh=>h.elim .inl (λh=> .inr (.inr h)))⟩
  ·rw[aX]
theorem sr(l:List Int){x:Int}: ∀{n:Nat},x∈fF l n↔0≤x∧x<n
 |0=>⟨(λh=>nomatch h),λh=>absurd h.1 ω⟩
 |n+1=>by unfold fF;rw[Kj,sr l];omega
theorem Ax(l:List Int): ∀{o:List Int} {i:Int},o.Pairwise (yk l)→(∀x∈o,x<i)→(ins l o i).Pairwise (yk l)
 |[],i,_,_=>D5 _ _
 |k::t,i,h,hi=>by
  rw[eo]at h
  have hk:k<i:=hi k (bn ..)
  unfold ins;split
  ·rename_i hle
   rw[eo]
   refine⟨λx hx=> ?_,Ax l h.2 (λx hx=>hi x (a6 _ hx))⟩
   rcases(Kj l).1 hx with rfl|hx
   ·unfold yk;omega
   ·exact h.1 x hx
  ·rename_i hle
   rw[eo,eo]
   refine⟨λx hx=> ?_,h.1,h.2⟩
   rcases aX.1 hx with rfl|hx
   ·unfold yk;omega
   ·have:=h.1 x hx;unfold yk at*;omega
theorem oe(l:List Int): ∀n,(fF l n).Pairwise (yk l)
 |0=>List.Pairwise.nil
 |n+1=>by unfold fF;exact Ax l (oe l n) (λx hx=>((sr l).1 hx).2)
theorem WK(l:List Int): ∀(o:List Int) (i:Int) (p:Nat),p≤o.length→(∀j,j<p→Aw l i≤Aw l (o.getD j 0))→(p<o.length→Aw l (o.getD p 0)<Aw l i)→ins l o i=o.take p++i::o.drop p
 |[],i,p,hp,_,_=>by simp at hp;subst hp;rfl
 |k::t,i,0,hp,_,h=>by
  unfold ins;rw[ah (by have:=h (by simp);simp at this;omega)];rfl
 |k::t,i,p+1,hp,h0,h=>by
  unfold ins
  have h1:Aw l i≤Aw l k:=h0 0 ω
  rw[aj h1,WK l t i p (by simpa using hp) (λj hj=>by have:=h0 (j+1) ω;simpa using this) (λQ7=>by have:=h (by simpa using Q7);simpa using this)]
  rfl
theorem RZ(l:List Int)(f:Int→Int): ∀(o:List Int) (i:Int),((ins l o i).map f).sum=(o.map f).sum+f i
 |[],i=>by simp[ins]
 |k::t,i=>by
  unfold ins;split
  ·rw[bU,cy,RZ l f t i,bU,cy];omega
  ·simp only[bU,cy];omega
theorem Cy(l r:List Int): ∀n,n≤r.length→((fF l n).map (Aw r)).sum=(r.take n).sum
 |0,_=>rfl
 |n+1,h=>by
  unfold fF;rw[RZ,Cy l r n ω,la r ω]
  unfold Aw;rw[aJ]
theorem Qm(l r:List Int)(h:l.length=r.length):((kj l).map (Aw r)).sum=r.sum:=by
 unfold kj;rw[Cy l r _ ω,jw ω]
theorem FD{o:List Int}{j:Nat}(h:j<o.length):o.getD j 0∈o:=by
 rw[aU,bm h];exact dz h
theorem Qn{l:List Int}{n j:Nat}(h:j<n):0≤(fF l n).getD j 0∧(fF l n).getD j 0<n:=by
 exact(sr l).1 (FD (by rw[sq];exact h))
theorem IB(N:Nat)(K:List Int→List Int→Int→Option (List Int)){l:List Int}(hl:l.length≤100000)(i:Nat)(hi:i<l.length): ∀(m n p:Nat),i-p≤m→m<n→p≤i→(∀j,j<p→Aw l i≤Aw l ((fF l i).getD j 0))→
  fy.l6 N K n l (fF l i) (i:Int) (p:Int)=K l (fF l (i+1)) ((i+1:Nat):Int)
 |m,0,p,_,hn,_,_=>ω
 |m,n+1,p,hm,hn,hp,h=>by
  have hlen:=sq l i
  have fin: ∀h2:(p<i→Aw l ((fF l i).getD p 0)<Aw l i),fy.j8 N K l (fF l i) (i:Int) (p:Int)=K l (fF l (i+1)) ((i+1:Nat):Int):=λh2=>by
   have e:=WK l (fF l i) i p ω h (λh3=>h2 ω)
   unfold fy.j8 fy.Wu
   dsimp only
   rw[dF ω ω ω ω,ak,aJ,aJ,dq,cX]
   rw[bL (by rw[cc];omega),ak,bL (by rw[cc];simp only[aI];omega),ak,dF ω ω ω ω,ak,bL (by simp only[aS,cc,dO,aI];omega),ak,ax ω ω,iS,br,D8,←e]
   rfl
  unfold fy.l6 fy.ud
  by_cases hpi:p<i
  ·have hr:=Qn (l:=l) (n:=i) (j:=p) hpi
   rw[aT ω,ak,aW ω ω,ak,aJ,aJ,aW ω ω,ak,aW ω ω,ak]
   by_cases h3:l.getD i 0≤l.getD ((fF l i).getD p 0).toNat 0
   ·rw[fC h3,ak,ax ω ω]
    refine IB N K hl i hi (m-1) n (p+1) ω ω ω (λj hj=> ?_)
    by_cases hjp:j=p
    ·rw[hjp];unfold Aw;rw[aJ];exact h3
    ·exact h j ω
   ·rw[fh ω,av]
    exact fin (λ_=>by unfold Aw;rw[aJ];omega)
  ·rw[aP ω,av]
   exact fin (λh=>absurd h hpi)
theorem FE(N:Nat){l:List Int}(hl:l.length≤100000)(hN:l.length<N): ∀(m n i:Nat),l.length-i≤m→m<n→i≤l.length→
  fy.l3 N n l (fF l i) (i:Int)=some (kj l)
 |m,0,i,_,hn,_=>ω
 |m,n+1,i,hm,hn,hi=>by
  unfold fy.l3 fy.nC
  by_cases h:i<l.length
  ·have:=IB N (fy.l3 N n) hl i h i N 0 ω ω ω (λj hj=>ω)
   rw[aT ω,ak]
   refine Eq.trans this ?_
   exact FE N hl hN (m-1) n (i+1) ω ω ω
  ·rw[aP ω,av,show i=l.length by omega];rfl
theorem TL(N:Nat){l:List Int}(hl:l.length≤100000)(hN:l.length<N):fy N l=some (kj l):=by
 unfold fy fy.b
 exact FE N hl hN l.length N 0 ω ω ω
end VM
end
section
namespace VM
open Go VM.F
def IC(l:List Int):Prop:= ∀x∈l,-9223372036854775808≤x∧x<9223372036854775808
def Pos(l:List Int):Prop:= ∀x∈l,0≤x
def may(w:List Int):Bool:=decide (w.length≤64)&&w.all (λx=>decide (0≤x))
theorem oB{w:List Int}:may w=true↔w.length≤64∧Pos w:=by
 unfold may Pos;rw[bP,fb,qu]
 simp only[fb]
theorem FF(N:Nat){l:List Int}(hl:l.length≤1000000): ∀(m n i:Nat),l.length-i≤m→m<n→i≤l.length→ ∃r,py.l4 N n l (i:Int)=some r∧(r=true↔ ∃x∈l.drop i,x<0)
 |m,0,i,_,hn,_=>ω
 |m,n+1,i,hm,hn,hi=>by
  unfold py.l4 py.dv
  by_cases h:i<l.length
  ·have hd:l.drop i=l.getD i 0::l.drop (i+1):=by
    rw[pM h,aU,bm h];rfl
   rw[aT ω,ak,aW ω ω,ak,aJ,hd]
   by_cases hx:l.getD i 0<0
   ·rw[aT hx,ak]
    exact⟨_,rfl,λ_=>⟨_,bn ..,hx⟩,λ_=>rfl⟩
   ·rw[aP ω,av,ax ω ω]
    obtain⟨r,e,h1⟩:=FF N hl (m-1) n (i+1) ω ω ω
    refine⟨r,e,h1.trans ⟨λ⟨x,Rv,hx2⟩=>⟨x,a6 _ Rv,hx2⟩,λ⟨x,Rv,hx2⟩=> ?_⟩⟩
    rcases aX.1 Rv with rfl|Rv
    ·exact absurd hx2 hx
    ·exact⟨x,Rv,hx2⟩
  ·rw[aP ω,av,vr ω]
   exact⟨_,rfl,(λh=>nomatch h),λ⟨x,hx,_⟩=>nomatch hx⟩
theorem FG(N:Nat){w:List Int}(hN:100≤N)(t:Int):py N t w=some (decide (t<0)|| !may w):=by
 unfold py py.b
 by_cases ht:t<0
 ·rw[aT ht,ak,bs ht];rfl
 rw[aP ω,av,cj ht,sW]
 by_cases h:w.length≤64
 ·rw[aP ω,av]
  obtain⟨r,e,hr⟩:=FF N (l:=w) ω w.length N 0 ω ω ω
  rw[cX]at hr
  rw[show((0:Nat):Int)=0 from rfl]at e
  rw[e]
  congr 1
  rw[oG,hr,qt,vy,Ne,oB]
  constructor
  ·rintro⟨x,hx,Vw⟩ h;have:=h.2 x hx;omega
  ·intro h1
   by_cases h2: ∃x∈w,x<0
   ·exact h2
   ·exact absurd ⟨h,λx hx=>by
     by_cases Vw:x<0
     ·exact absurd ⟨x,hx,Vw⟩ h2
     ·omega⟩ h1
 ·rw[aT ω,ak]
  have:may w=false:=by
   rw[vy];intro hm;exact h (oB.1 hm).1
  rw[this];rfl
def bump(q:List Int):List Int→List Int
 |[]=>q
 |k::t=>bump (q.set k.toNat (q.getD k.toNat 0+1)) t
def rJ(t S:Int)(w:List Int):List Int:=w.map λx=>t*x/S
def kR(t S:Int)(w:List Int):List Int:=w.map λx=>t*x%S
def bQ(t:Int)(w:List Int):List Int:=
 bump (rJ t w.sum w) ((kj (kR t w.sum w)).take (t-(rJ t w.sum w).sum).toNat)
def q3(t:Int)(w:List Int):List Int×Int:=
 if t<0∨may w=false then([],1)else if 9223372036854775808≤w.sum then([],2)
 else if w.sum=0 then(if t=0 then(List.replicate w.length 0,0)else([],1))else(bQ t w,0)
theorem Na: ∀(ks q:List Int),(bump q ks).length=q.length
 |[],q=>rfl
 |k::t,q=>by unfold bump;rw[Na t];simp
theorem Kk: ∀(q:List Int) (k:Nat) (x:Int),k<q.length→(q.set k x).sum=q.sum-q.getD k 0+x
 |[],k,x,h=>absurd h (by simp)
 |a::q,0,x,h=>by simp;omega
 |a::q,k+1,x,h=>by
  have:=Kk q k x (by simpa using h)
  simp[this];omega
theorem jC: ∀{q:List Int},Pos q→0≤q.sum
 |[],_=>by simp
 |a::q,h=>by
  have:=jC (q:=q) (λx hx=>h x (a6 _ hx))
  have:=h a (bn ..)
  rw[cy];omega
theorem yM: ∀{q:List Int},Pos q→ ∀i,q.getD i 0≤q.sum
 |[],_,i=>by simp
 |a::q,h,0=>by
  have:=jC (q:=q) (λx hx=>h x (a6 _ hx))
  rw[cy];simp;omega
 |a::q,h,i+1=>by
  have:=yM (q:=q) (λx hx=>h x (a6 _ hx)) i
  have:=h a (bn ..)
  rw[cy];simp;simp at*;omega
theorem gU{q:List Int}(h:Pos q)(i:Nat):0≤q.getD i 0:=by
 by_cases hi:i<q.length
 ·exact h _ (FD hi)
 ·rw[ug q ω];omega
theorem Z9{q:List Int}(h:Pos q){x:Int}(hx:0≤x)(k:Nat):Pos (q.set k x):=λy hy=>by
 rcases xd hy with hy|rfl
 ·exact h y hy
 ·exact hx
theorem Nb{q:List Int}(h:Pos q)(n:Nat):Pos (q.take n):=λx hx=>h x (lC hx)
theorem Nc: ∀(ks q:List Int),(∀k∈ks,0≤k∧k<q.length)→(bump q ks).sum=q.sum+ks.length
 |[],q,_=>by simp[bump]
 |k::t,q,h=>by
  have hk:=h k (bn ..)
  unfold bump
  rw[Nc t _ (λx hx=>by rw[bN];exact h x (a6 _ hx)),Kk q _ _ ω,aR];omega
theorem wK(t S:Int)(w:List Int):(rJ t S w).length=w.length:=by unfold rJ;rw[cv]
theorem oW(t S:Int)(w:List Int):(kR t S w).length=w.length:=by unfold kR;rw[cv]
theorem R1{t S:Int}{w:List Int}(i:Nat):(rJ t S w).getD i 0=t*w.getD i 0/S:=by
 unfold rJ
 by_cases h:i<w.length
 ·rw[aU,pO,bm h,aU,bm h];rfl
 ·rw[ug _ (by rw[cv];omega),ug w ω];simp
theorem R2{t S:Int}{w:List Int}(i:Nat):(kR t S w).getD i 0=t*w.getD i 0%S:=by
 unfold kR
 by_cases h:i<w.length
 ·rw[aU,pO,bm h,aU,bm h];rfl
 ·rw[ug _ (by rw[cv];omega),ug w ω];simp
theorem FH{t S:Int}{w:List Int}(ht:0≤t)(hS:0≤S)(hw:Pos w):Pos (rJ t S w):=λx hx=>by
 obtain⟨y,hy,rfl⟩:=cC.1 hx
 exact sU (vE ht (hw y hy)) hS
theorem Nd{t S:Int}{w:List Int}(hS:0<S):Pos (kR t S w):=λx hx=>by
 obtain⟨y,hy,rfl⟩:=cC.1 hx
 exact Ei _ ω
theorem Kl(t S:Int): ∀w:List Int,S*(rJ t S w).sum+(kR t S w).sum=t*w.sum
 |[]=>by simp[rJ,kR]
 |x::w=>by
  have h:=Kl t S w
  have e:=Lx (t*x) S
  unfold rJ kR at*
  simp only[bU,cy,jQ]
  omega
theorem WL{t S:Int}{w:List Int}(ht:0≤t)(hS:0<S)(h:w.sum≤S):(rJ t S w).sum≤t:=by
 have e:=Kl t S w
 have h1:=jC (Nd (t:=t) (w:=w) hS)
 have h2:=xc h ht
 have h3:S*(rJ t S w).sum≤S*t:=by rw[jO S t];omega
 exact Lo h3 hS
theorem Cz{w:List Int}(h:Pos w)(i:Nat):(w.take i).sum≤w.sum:=by
 have e:w.take i++w.drop i=w:=gb i w
 have h1:(w.take i).sum+(w.drop i).sum=w.sum:=by rw[←lH,e]
 have:=jC (q:=w.drop i) (λx hx=>h x (mK hx))
 omega
theorem ID(t S:Int)(w:List Int)(i:Nat):(rJ t S w).take i=rJ t S (w.take i):=by unfold rJ;rw[List.map_take]
theorem FI(N:Nat){ks:List Int}(hl:ks.length≤1000000)(L:Nat)(hk: ∀k∈ks,0≤k∧k<L): ∀(m n i left:Nat) (q:List Int),ks.length-i≤m→m<n→i≤ks.length→q.length=L→Pos q→left≤9223372036854775807→q.sum+left≤9223372036854775807→
  fL.wF N n q (left:Int) ks (i:Int)=some (bump q ((ks.drop i).take left),0)
 |m,0,i,left,q,_,hn,_,_,_,_,_=>ω
 |m,n+1,i,left,q,hm,hn,hi,hq,hp,hle,hs=>by
  unfold fL.wF fL.vl
  by_cases h:i<ks.length
  ·have hd:ks.drop i=ks.getD i 0::ks.drop (i+1):=by
    rw[pM h,aU,bm h];rfl
   have EL:=hk _ (FD h)
   rw[aT ω,ak]
   match left,hle,hs with
   |0,hle,hs=>rw[aP ω,av,oH];rfl
   |left+1,hle,hs=>
    rw[aT ω,ak,aW ω ω,ak,aJ,aW ω ω,ak,ak,hd]
    have h1:=yM hp (ks.getD i 0).toNat
    have h2:=gU hp (ks.getD i 0).toNat
    rw[ax (x:=q.getD _ 0+1) ω ω,ax (x:=(i:Int)+1) ω ω,ax ω ω,show((left+1:Nat):Int)-1=(left:Int)by omega]
    refine(FI N hl L hk (m-1) n (i+1) left _ ω ω ω (by rw[bN];exact hq) (Z9 hp ω _) ω ?_).trans rfl
    rw[Kk q _ _ ω];omega
  ·rw[aP ω,av,vr ω,List.take_nil];rfl
theorem FJ(l:List Int): ∀k∈kj l,0≤k∧k<l.length:=λk hk=>(sr l).1 hk
theorem take_set(l:List Int){i:Nat}(x:Int)(h:i<l.length):(l.set i x).take (i+1)=l.take i++[x]:=by
 rw[g4 (l.set i x) (by rw[bN];exact h),mi l x h,List.take_set_of_le ω]
theorem Km{v:Int}(h0: -9223372036854775808≤v)(h1:v<9223372036854775808):Be v=(v,true):=by unfold Be;rw[aj ⟨h0,h1⟩]
end VM
end
section
namespace VM
open Go VM.F
theorem oX{a b:List Int}(hl:a.length=b.length)(h: ∀i,i<a.length→a.getD i 0=b.getD i 0):a=b:=by
 refine List.ext_getElem hl (λi h1 h2=> ?_)
 have:=h i h1
 rwa [aU,bm h1,aU,bm h2]at this
theorem R3: ∀(ks q:List Int) (i:Nat),ks.Nodup→(∀k∈ks,0≤k∧k<q.length)→(bump q ks).getD i 0=q.getD i 0+(if(i:Int)∈ks then 1 else 0)
 |[],q,i,_,_=>by simp[bump]
 |k::t,q,i,hn,h=>by
  have hk:=h k (bn ..)
  rw[zm]at hn
  unfold bump
  rw[R3 t _ i hn.2 (λx hx=>by rw[bN];exact h x (a6 _ hx))]
  by_cases hik:(i:Int)=k
  ·rw[ah (by rw[hik];exact hn.1),aj (by rw[hik];exact bn ..),←hik,aJ,mi q _ ω];omega
  ·rw[getD_set_ne q _ ω]
   by_cases ht:(i:Int)∈t
   ·rw[aj ht,aj (a6 _ ht)]
   ·rw[ah ht,ah (λhc=>by rcases aX.1 hc with hc|hc;exact hik hc;exact ht hc)]
theorem Nf(l:List Int):(kj l).Nodup:=(oe l l.length).imp (λ{a b} h he=>by unfold yk at h;rw[he]at h;omega)
theorem R4(t S:Int)(hS:0<S): ∀u:List Int,(kR t S u).sum≤u.length*S
 |[]=>by simp[kR]
 |x::u=>by
  have ih:=R4 t S hS u
  have:=zg (t*x) hS
  unfold kR at*
  rw[bU,cy,aR,Ej,qB];simp;omega
def mw(t:Int)(w:List Int):Int:=t-(rJ t w.sum w).sum
theorem left_eq(t:Int)(w:List Int):w.sum*mw t w=(kR t w.sum w).sum:=by
 have:=Kl t w.sum w
 unfold mw;rw[Int.mul_sub,jO w.sum t];omega
theorem FK{t:Int}{w:List Int}(ht:0≤t)(hS:0<w.sum):0≤mw t w:=by
 have:=WL ht hS (fE _);unfold mw;omega
theorem R5{t:Int}{w:List Int}(hS:0<w.sum):mw t w≤w.length:=by
 have h1:=left_eq t w
 have h2:=R4 t w.sum hS w
 rw[←h1,jO (w.length:Int)]at h2
 exact Lo h2 hS
theorem og(t:Int)(w:List Int):(bQ t w).length=w.length:=by unfold bQ;rw[Na,wK]
theorem uD{t:Int}{w:List Int}(ht:0≤t)(hS:0<w.sum):(bQ t w).sum=t:=by
 unfold bQ
 have h1:=FK ht hS
 have h2:=R5 (t:=t) hS
 unfold mw at*
 rw[Nc _ _ (λk hk=>by have:=FJ _ k (lC hk);rw[oW]at this;rwa [wK]),cc,yL,oW]
 omega
theorem yN{f:Int→Int}{c:Int}: ∀{o:List Int},(∀x∈o,f x≤c)→(o.map f).sum≤o.length*c
 |[],_=>by simp
 |x::o,h=>by
  have ih:=yN (f:=f) (c:=c) (o:=o) (λy hy=>h y (a6 _ hy))
  have:=h x (bn ..)
  rw[bU,cy,aR,Ej,qB];simp;omega
theorem Qo{l o:List Int}(h:o.Pairwise (yk l)){m:Nat}{x y:Int}(hx:x∈o.take m)(hy:y∈o.drop m):yk l x y:=by
 rw[←gb m o,vu]at h
 exact h.2.2 x hx y hy
theorem TM{t:Int}{w:List Int}(ht:0≤t)(hS:0<w.sum){i:Int}(hi:i∈(kj (kR t w.sum w)).take (mw t w).toNat):0<Aw (kR t w.sum w) i:=by
 have G8: ∀k:Int,0≤Aw (kR t w.sum w) k:=λk=>gU (Nd hS) _
 have eZ: ∀k:Int,Aw (kR t w.sum w) k≤w.sum-1:=λk=>by
  unfold Aw;rw[R2]
  have:=zg (t*w.getD k.toNat 0) hS;omega
 have h0:=G8 i
 rcases Int.lt_or_le 0 (Aw (kR t w.sum w) i)with h|h
 ·exact h
 exfalso
 have Ho:=Qm (kR t w.sum w) (kR t w.sum w) rfl
 rw[←left_eq]at Ho
 have arO:=gb (mw t w).toNat (kj (kR t w.sum w))
 rw[←arO,cW,lH]at Ho
 have hd:(((kj (kR t w.sum w)).drop (mw t w).toNat).map (Aw (kR t w.sum w))).sum≤((kj (kR t w.sum w)).drop (mw t w).toNat).length*0:=yN (λy hy=>by
  have:=Qo (oe _ _) hi hy
  unfold yk at this;omega)
 have htk:(((kj (kR t w.sum w)).take (mw t w).toNat).map (Aw (kR t w.sum w))).sum≤((kj (kR t w.sum w)).take (mw t w).toNat).length*(w.sum-1):=yN (λy _=>eZ y)
 have h1:=FK ht hS
 have h2:=R5 (t:=t) hS
 rw[cc,yL,oW,ir ω,Int.mul_sub]at htk
 rw[zq]at hd
 have h3:(((mw t w).toNat:Nat):Int)=mw t w:=ω
 have h4:0<(mw t w).toNat:=by
  rcases Nat.eq_zero_or_pos (mw t w).toNat with h|h
  ·rw[h,oH]at hi;nomatch hi
  ·exact h
 rw[h3,jO (mw t w)]at htk
 omega
def extra(t:Int)(w:List Int)(i:Nat):Int:=if(i:Int)∈(kj (kR t w.sum w)).take (mw t w).toNat then 1 else 0
theorem IE(t:Int)(w:List Int)(i:Nat):(bQ t w).getD i 0=t*w.getD i 0/w.sum+extra t w i:=by
 unfold bQ
 rw[R3 _ _ i ((Nf _).sublist (List.take_sublist ..)) (λk hk=>by have:=FJ _ k (lC hk);rw[oW]at this;rwa [wK]),R1]
 rfl
theorem IF(t:Int)(w:List Int)(i:Nat):extra t w i=0∨extra t w i=1:=by unfold extra;split<;>omega
theorem TN{t:Int}{w:List Int}(ht:0≤t)(hS:0<w.sum){i:Nat}(h:extra t w i=1):0<t*w.getD i 0%w.sum:=by
 unfold extra at h
 by_cases hi:(i:Int)∈(kj (kR t w.sum w)).take (mw t w).toNat
 ·have:=TM ht hS hi
  unfold Aw at this;rwa [R2,aJ]at this
 ·rw[ah hi]at h;omega
theorem uE{t:Int}{w:List Int}(ht:0≤t)(hS:0<w.sum)(hw:Pos w):Pos (bQ t w):=λx hx=>by
 obtain⟨i,hi,rfl⟩:=qn.1 hx
 have:=IE t w i
 rw[aU,bm hi]at this
 have h1:=IF t w i
 have h2:0≤t*w.getD i 0/w.sum:=sU (vE ht (gU hw i)) ω
 simp only[mO]at this
 omega
theorem CA{t:Int}{w:List Int}(ht:0≤t)(hS:0<w.sum){i:Nat}(h:w.getD i 0=0):(bQ t w).getD i 0=0:=by
 rw[IE,h]
 rcases IF t w i with h1|h1
 ·rw[h1];simp
 ·have:=TN ht hS h1
  rw[h]at this;simp at this
end VM
end
