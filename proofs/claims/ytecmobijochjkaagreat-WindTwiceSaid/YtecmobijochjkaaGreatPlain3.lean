/- A part of the proof of WindTwice of layer 21: what the functions compute, in plain words. -/
import Derived.Test.YtecmobijochjkaaGreatPlain2
import Derived.Test.YtecmobijochjkaaGreatVm6
import Derived.Test.YtecmobijochjkaaGreatPlain0
set_option linter.all false
section
namespace VM
open Go VM.F
theorem W1(N:Nat)(hN:2000000≤N){b:aq}{s e:au}(w:gE b)(hr:dO b.2.2.1=true)(hs:cz b.2.2.2.1=true)(lr:b.2.2.1.length≤90000)(ls:b.2.2.2.1.length≤90000)(gs:WR s)(ge:WX e):
  F68 N b s (e.map jT)=some (dW b s e):=by
 unfold F68 dW
 rw[W0 N w,ar,aat N hN hs ls w.qs gs,WY N hN hr lr w.qr ge,IK hs gs.place,Nr hr ge.key]
 unfold uC
 rw[ar,ar]
 have e1:aO 2 0=false:=ed ω
 have e2:aO 0 0=true:=dX rfl
 cases dP Fq (fS b.2.2.2.1 s) je with
 |none=>dsimp only;rw[e1];rfl
 |some s'=>
  cases dP aE (fS b.2.2.1 e) mG with
  |none=>dsimp only;rw[e1,e2];rfl
  |some r'=>dsimp only;rw[e2];rfl
theorem Sl(N:Nat)(C:eF.bE){l:aK}(hl:l.length≤100000)(i:Nat)(hi:i<l.length): ∀(m n k:Nat),i-k≤m→m<n→k≤i→(l.take k).any (ra (l.getD i aV).2.2.1 (l.getD i aV).2.1)=false→
  eF.l9 N C n l (i:Int) (k:Int)=cond ((l.take i).any (ra (l.getD i aV).2.2.1 (l.getD i aV).2.1)) (some false) (C l ((i+1:Nat):Int))
 |m,0,k,_,hn,_,_=>ω
 |m,n+1,k,hm,hn,hk,hb=>by
  unfold eF.l9 eF.xy
  by_cases h:k<i
  ·have wI:=Sl N C hl i hi (m-1) n (k+1) ω ω ω
   have ht:(l.take (k+1)).any (ra (l.getD i aV).2.2.1 (l.getD i aV).2.1)=ra (l.getD i aV).2.2.1 (l.getD i aV).2.1 (l.getD k aV):=by
    have ek:l.getD k aV=l[k]' ω:=by rw[aU,bn (show k<l.length by omega)];rfl
    rw[←sf (show k<l.length by omega),List.any_append,hb,ek,List.any_cons,List.any_nil,tb,ta]
   have lU:ra (l.getD i aV).2.2.1 (l.getD i aV).2.1 (l.getD k aV)=true→(l.take i).any (ra (l.getD i aV).2.2.1 (l.getD i aV).2.1)=true:=λhh=>by
    refine zv.2 ⟨l.getD k aV,?_,hh⟩
    rw[aU,bn (show k<l.length by omega)]
    exact List.mem_take_iff_getElem.2 ⟨k,ω,rfl⟩
   rw[aT ω,ak,aX ω ω,ak,aX ω ω,ak,ak,ak,aJ,aJ,aN,aN,ax (x:=(k:Int)+1) ω ω,ag k]
   by_cases h1:(l.getD k aV).2.2.1=(l.getD i aV).2.2.1
   ·by_cases h2:(l.getD k aV).2.1=(l.getD i aV).2.1
    ·rw[aj h1,aj h2,lU (by unfold ra dx;rw[bs h1,bs h2];rfl)];rfl
    ·rw[aj h1,ah h2]
     exact wI (by rw[ht];unfold ra dx;rw[cj h2,Ey])
   ·rw[ah h1]
    exact wI (by rw[ht];unfold ra dx;rw[cj h1,vP])
  ·have:k=i:=ω
   subst this
   rw[aP ω,av,hb,av,ax (x:=(k:Int)+1) ω ω,ag k]
theorem tH(N:Nat){l:aK}(hl:l.length≤100000)(hN:200000≤N):eF N l=some (WN l):=by
 unfold eF eF.b WN
 by_cases h40:l.length≤40
 ·rw[aP ω,av,bs h40]
  refine iq (F:=λn i=>eF.l4 N n l i) (Ap l) (λn i r hi hp hr=> ?_) (λn=> ?_) N ω
  ·unfold eF.l4 eF.dw eF.j8 eF.W2
   have lU:eF.l9 N (eF.l4 N n) N l (i:Int) 0=_:=Sl N (eF.l4 N n) hl i hi i N 0 ω ω ω rfl
   rw[aT ω,ak,aX ω ω,ak,ak,aJ,Sd,ar,cond_not,gb,lU,hr]
   have hT:cond ((l.take i).any (ra (l.getD i aV).2.2.1 (l.getD i aV).2.1)) (some false) r=if(l.take i).any (ra (l.getD i aV).2.2.1 (l.getD i aV).2.1)=false then r else some false:=by
    cases(l.take i).any (ra (l.getD i aV).2.2.1 (l.getD i aV).2.1)<;>rfl
   rw[hT]
   by_cases hK:Iz (l.getD i aV)
   ·rw[aj hK]
    have hD:(if Ap l i then r else some false)=if tC i (l.getD (i-1) aV).1 (l.getD i aV).1 then(if(l.take i).any (ra (l.getD i aV).2.2.1 (l.getD i aV).2.1)=false then r else some false)else some false:=by
     by_cases h1:tC i (l.getD (i-1) aV).1 (l.getD i aV).1<;>by_cases h2:(l.take i).any (ra (l.getD i aV).2.2.1 (l.getD i aV).2.1)=false
     ·rw[aj h1,aj h2,aj ⟨hK,h1,h2⟩]
     ·rw[aj h1,ah h2,ah (λh=>h2 h.2.2)]
     ·rw[ah h1,ah (λh=>h1 h.2.1)]
     ·rw[ah h1,ah (λh=>h1 h.2.1)]
    rw[hD]
    by_cases h0:0<i
    ·have e:W .i64 ((i:Int)-1)=((i-1:Nat):Int):=by rw[ax ω ω];omega
     rw[aT (x:=0) (y:=(i:Int)) ω,ak,e]
     dsimp only
     rw[aJ,aX ω ω,ak,cG]
     by_cases h1:tC i (l.getD (i-1) aV).1 (l.getD i aV).1
     ·rw[aj h1,ah (by unfold tC at h1;omega)]
     ·rw[ah h1,aj (by unfold tC at h1;omega)]
    ·rw[aP (x:=0) (y:=(i:Int)) ω,av,aj (show tC i (l.getD (i-1) aV).1 (l.getD i aV).1 from λh=>absurd h h0)]
   ·rw[ah hK,ah (λh=>hK h.1)]
  ·unfold eF.l4 eF.dw
   rw[aP ω,av]
 ·rw[aT ω,ak,cj h40,Ey]
end VM
end
section
namespace VM
open Go VM.F
def uH(s w p:Int):Prop:=((s=1∨s=3)∧w=0∧p=0)∨(s=2∧1≤w∧w≤12∧ -1152921504606846976≤p∧p≤1152921504606846976)
instance(s w p:Int):Decidable (uH s w p):=by unfold uH;infer_instance
def FH(a:Int):Prop:=1≤a∧a≤1099511627776
instance(a:Int):Decidable (FH a):=by unfold FH;infer_instance
def W3(a b:Int):Prop:=a≤b
instance(a b:Int):Decidable (W3 a b):=by unfold W3;infer_instance
def D1(c:ae)(l:bz)(i:Nat):Prop:=
 FH (l.getD i ((0:Int),(ck,aV))).1∧tC i (l.getD (i-1) ((0:Int),(ck,aV))).1 (l.getD i ((0:Int),(ck,aV))).1∧ ¬dx ((l.getD i ((0:Int),(ck,aV))).2.1.length:Int) 0∧mj c (l.getD i ((0:Int),(ck,aV))).2.1=true∧W3 (l.getD i ((0:Int),(ck,aV))).2.2.1 0∧uH (l.getD i ((0:Int),(ck,aV))).2.2.2.1 (l.getD i ((0:Int),(ck,aV))).2.2.2.2.1 (l.getD i ((0:Int),(ck,aV))).2.2.2.2.2.1
instance(c:ae)(l:bz):DecidablePred (D1 c l):=λi=>by unfold D1;infer_instance
def BB(c:ae)(l:bz):Bool:=fL c&&(decide (l.length≤12)&&(decide (∀j,j<l.length→D1 c l j)&&true))
def IM(l:bz):Prop:= ∀x∈l,x.2.1.length≤100000
theorem QA{l:bz}(h:IM l)(i:Nat):(l.getD i ((0:Int),(ck,aV))).2.1.length≤100000:=by
 by_cases hi:i<l.length
 ·rw[aU,bn hi];exact h _ (dB hi)
 ·rw[aU,gH ω];exact bo _
theorem aay(s w p:Int)(r:Option Bool):
  cond (aO s 1) (cond (!aO w 0) (some false) (cond (!aO p 0) (some false) r)) (cond (aO s 3) (cond (!aO w 0) (some false) (cond (!aO p 0) (some false) r)) (cond (aO s 2) (cond (aY w 1) (some false) (cond (aY 12 w) (some false) (cond (aY p (-1152921504606846976)) (some false) (cond (aY 1152921504606846976 p) (some false) r)))) (some false)))=
   if uH s w p then r else some false:=by
 simp only[cond_not,aN,cP]
 by_cases h:uH s w p
 ·rw[aj h];unfold uH at h
  repeat' split
  all_goals first|rfl|omega
 ·rw[ah h];unfold uH at h
  repeat' split
  all_goals first|rfl|omega
theorem Ua{A B C D E F:Prop} [Decidable A] [Decidable B] [Decidable C] [Decidable D] [Decidable E] [Decidable F](r:Option Bool):
  (if A then(if B then(if C then(if D then(if E then(if F then r else some false)else some false)else some false)else some false)else some false)else some false)=if A∧B∧C∧D∧E∧F then r else some false:=by
 by_cases hA:A<;>by_cases hB:B<;>by_cases hC:C<;>by_cases hD:D<;>by_cases hE:E<;>by_cases hF:F<;>simp only[hA,hB,hC,hD,hE,hF,gA,eT,and_self,eS,and_false,false_and,true_and]
theorem W4{a b n f s w p:Int}{i:Nat}{o:Bool}{r:Option Bool}:
  cond (aY a 1) (some false) (cond (aY 1099511627776 a) (some false) (if tC i b a then(cond (aO n 0) (some false) (cond (!o) (some false) (cond (aY 0 f) (some false) (if uH s w p then r else some false))))else some false))=
   if FH a∧tC i b a∧ ¬dx n 0∧o=true∧W3 f 0∧uH s w p then r else some false:=by
 rw[←Ua]
 simp only[cond_not,aN,cP]
 by_cases h1:FH a
 ·have pA:=h1
  unfold FH at pA
  rw[aj h1,ah ω,ah ω]
  by_cases h2:tC i b a
  ·rw[aj h2,aj h2]
   by_cases h3:n=0
   ·rw[aj h3,ah (show ¬ ¬dx n 0 from λh=>h h3)]
   ·rw[ah h3,aj (show ¬dx n 0 from h3)]
    cases o
    ·rfl
    ·rw[ak,aj rfl]
     by_cases h4:f≤0
     ·rw[aj (show W3 f 0 from h4),ah ω]
     ·rw[ah (show ¬W3 f 0 from h4),aj ω]
  ·rw[ah h2,ah h2]
 ·have pA:=h1
  unfold FH at pA
  rw[ah h1]
  by_cases h2:a<1
  ·rw[aj h2]
  ·rw[ah h2,aj ω]
theorem W5{i:Nat}{a b:Int}{r:Option Bool}(h0:0<i):cond (dk a b) (some false) r=if tC i b a then r else some false:=by
 rw[cG]
 by_cases h1:tC i b a
 ·rw[aj h1,ah (by unfold tC at h1;omega)]
 ·rw[ah h1,aj (by unfold tC at h1;omega)]
theorem Az(N:Nat)(hN:200000≤N)(c:ae){l:bz}(hl:l.length≤100000)(hw:IM l):iQ N c l=some (BB c l):=by
 unfold iQ iQ.b BB
 rw[ni N ω,ar]
 cases fL c
 ·rfl
 rw[a7,av,m2]
 by_cases h12:l.length≤12
 ·rw[aP ω,av,bs h12,m2]
  refine iq (F:=λn i=>iQ.l4 N n l c i) (D1 c l) (λn i r hi hp hr=> ?_) (λn=> ?_) N ω
  ·unfold iQ.l4 iQ.dw iQ.j9 iQ.Nd
   rw[aT ω,ak,aX ω ω,ak,aJ,wP N hN c (QA hw i),ar,ax (x:=(i:Int)+1) ω ω,ag i,hr,aay]
   refine Eq.trans ?_ W4
   by_cases h0:0<i
   ·have e:W .i64 ((i:Int)-1)=((i-1:Nat):Int):=by rw[ax ω ω];omega
    rw[aT (x:=0) (y:=(i:Int)) ω,ak,e]
    dsimp only
    rw[aJ,aX ω ω,ak,W5 h0]
   ·rw[aP (x:=0) (y:=(i:Int)) ω,av,aj (show tC i (l.getD (i-1) ((0:Int),(ck,aV))).1 (l.getD i ((0:Int),(ck,aV))).1 from λh=>absurd h h0)]
  ·unfold iQ.l4 iQ.dw
   rw[aP ω,av]
 ·rw[aT ω,ak,cj h12,vP]
end VM
end
section
namespace VM
open Go VM.F
abbrev AwS:=au×au×bz
def CH(a:Int):Prop:=0≤a∧a<6
structure FI(t:aD):Prop where
 len:t.length≤6
 inst: ∀y∈t,CH y.1
 q: ∀y∈t,aE y.2.1∧p5 y.2.1
theorem IN{c:ae}{t:aD}(h:mj c t=true)(nR: ∀y∈t,aE y.2.1):FI t:=by
 unfold mj at h
 obtain⟨h1,h2⟩:=cO.1 h
 have pA:=bx h1
 have h6:c.1.length≤6:=by
  unfold fL at h2
  exact(bx (cO.1 h2).1).2
 have get: ∀(i:Nat) (hi:i<t.length),t.getD i cA=t[i]:=λi hi=>by rw[aU,bn hi];rfl
 have PV: ∀i,i<t.length→np (t.getD i cA).1 (t.getD i cA).2.1 c.1.length i (t.getD (i-1) cA).1:=pA
 have inc: ∀i,i<t.length→(i:Int)≤(t.getD i cA).1:=by
  intro i
  induction i with
  |zero=>intro hi;exact(PV 0 hi).1
  |succ i ih=>
   intro hi
   have a:=ih ω
   have b:=(PV (i+1) hi).2.2.2.2 ω
   rw[Nat.add_sub_cancel]at b
   have g: ∀x y:Int,(i:Int)≤x→x<y→((i+1:Nat):Int)≤y:=λx y _ _=>ω
   exact g _ _ a b
 refine⟨?_,λy hy=> ?_,λy hy=> ?_⟩
 ·by_cases h0:t.length=0
  ·omega
  ·have a:=inc (t.length-1) ω
   have b:=(PV (t.length-1) ω).2.1
   have g: ∀x:Int,((t.length-1:Nat):Int)≤x→x<(c.1.length:Int)→t.length≤6:=λx _ _=>ω
   exact g _ a b
 ·obtain⟨i,hi,e⟩:=gh hy
  have:=PV i hi
  rw[get i hi,e]at this
  have g: ∀x:Int,0≤x→x<(c.1.length:Int)→CH x:=λx _ _=>by unfold CH;omega
  exact g _ this.1 this.2.1
 ·obtain⟨i,hi,e⟩:=gh hy
  have:=PV i hi
  rw[get i hi,e]at this
  exact⟨nR y hy,this.2.2.2.1⟩
structure agd(z:AwS)(i:Nat):Prop where
 place: ∀x∈z.1,bD x.1 x.2.1
 q: ∀x∈z.1,aE (dU x)∧p5 (dU x)
 len:z.1.length≤12*i
 flat: ∀a:Int,(c6 a z.1).sum=0
 key: ∀x∈z.2.1,cQ x.1 x.2.1
 qe: ∀x∈z.2.1,aE (dU x)
 azp:z.2.1.length≤2*i
 zero:(z.2.1.map dU).sum=0
 out:z.2.2.length=i
theorem yv(a:Int)(l m:au):c6 a (l++m)=c6 a l++c6 a m:=by
 induction l with
 |nil=>rfl
 |cons x t ih=>
  rw[lQ,dg,dg,ih]
  split<;>rfl
theorem Ub{v:Int}(h:aE v∧p5 v):aE (0-v)∧p5 (0-v):=by
 unfold aE p5 at*;omega
theorem agd.nil:agd ([],[],[]) 0:=⟨λx hx=>(nomatch hx),λx hx=>(nomatch hx),aG _,λa=>rfl,λx hx=>(nomatch hx),λx hx=>(nomatch hx),aG _,rfl,rfl⟩
end VM
end
section
namespace VM
open Go VM.F
theorem dH{c:ae}{b:aq}(h:dz c b=true):dO b.2.2.1=true∧cz b.2.2.2.1=true:=by
 unfold dz at h
 have h1:=(cO.1 (cO.1 h).2).2
 have h2:=cO.1 h1
 have h3:=(cO.1 (cO.1 h2.2).2).1
 refine⟨h2.1,?_⟩
 unfold om at h3
 exact(cO.1 h3).2
structure AA(b:aq):Prop where
 w:gE b
 r:b.2.2.1.length≤90000
 s:b.2.2.2.1.length≤90000
end VM
end
section
namespace VM
open Go VM.F
end VM
end
section
namespace VM
open Go VM.F
theorem gZ(x:Int):aO x x=true:=dX rfl
theorem W6(x:yT):pt (.pair (.int .i64) (.pair (.int .i64) .unit)) x x=true:=by
 show(aO x.1 x.1&&(aO x.2.1 x.2.1&&true))=true
 rw[gZ,gZ];rfl
theorem QB(x:db):pt (.pair (.int .i64) (.pair (.int .i64) (.pair (.int .i64) .unit))) x x=true:=by
 show(aO x.1 x.1&&pt (.pair (.int .i64) (.pair (.int .i64) .unit)) x.2 x.2)=true
 rw[gZ,W6];rfl
theorem W7(x:bO):pt (.pair (.int .i64) (.pair (.int .i64) (.pair (.int .i64) (.pair (.int .i64) .unit)))) x x=true:=by
 show(aO x.1 x.1&&pt (.pair (.int .i64) (.pair (.int .i64) (.pair (.int .i64) .unit))) x.2 x.2)=true
 rw[gZ,QB];rfl
theorem ah4(x:gk):pt (.pair (.int .i64) (.pair (.int .i64) (.pair (.int .i64) (.pair (.int .i64) (.pair (.int .i64) (.pair (.int .i64) .unit)))))) x x=true:=by
 show(aO x.1 x.1&&(aO x.2.1 x.2.1&&pt (.pair (.int .i64) (.pair (.int .i64) (.pair (.int .i64) (.pair (.int .i64) .unit)))) x.2.2 x.2.2))=true
 rw[gZ,gZ,W7];rfl
theorem ov{F:Nat→Int→Option Bool}{len:Nat}(hs: ∀n (i:Nat),i<len→F n ((i+1:Nat):Int)=some true→F (n+1) (i:Int)=some true)(he: ∀n,F (n+1) (len:Int)=some true): ∀(m n i:Nat),len-i≤m→m<n→i≤len→F n (i:Int)=some true
 |m,0,i,_,hn,_=>ω
 |m,n+1,i,hm,hn,hi=>by
  by_cases h:i<len
  ·exact hs n i h (ov hs he (m-1) n (i+1) ω ω ω)
  ·have:i=len:=ω
   subst this;exact he n
theorem Ns(N:Nat){l:aD}(hl:l.length≤100000)(hN:200000≤N):Dx N l l=some true:=by
 unfold Dx Dx.b
 rw[gZ,a7,av]
 refine ov (F:=λn i=>Dx.l4 N n l l i) (len:=l.length) (λn i hi hr=> ?_) (λn=> ?_) l.length N 0 ω ω ω
 ·unfold Dx.l4 Dx.dw
  rw[aT ω,ak,aX ω ω,ak,ak,W6,a7,av,ax (x:=(i:Int)+1) ω ω,ag i]
  exact hr
 ·unfold Dx.l4 Dx.dw
  rw[aP ω,av]
theorem W8(N:Nat){l:aK}(hl:l.length≤100000)(hN:200000≤N):Dy N l l=some true:=by
 unfold Dy Dy.b
 rw[gZ,a7,av]
 refine ov (F:=λn i=>Dy.l4 N n l l i) (len:=l.length) (λn i hi hr=> ?_) (λn=> ?_) l.length N 0 ω ω ω
 ·unfold Dy.l4 Dy.dw
  rw[aT ω,ak,aX ω ω,ak,ak,W7,a7,av,ax (x:=(i:Int)+1) ω ω,ag i]
  exact hr
 ·unfold Dy.l4 Dy.dw
  rw[aP ω,av]
theorem W9(N:Nat){l:au}(hl:l.length≤100000)(hN:200000≤N):Dz N l l=some true:=by
 unfold Dz Dz.b
 rw[gZ,a7,av]
 refine ov (F:=λn i=>Dz.l4 N n l l i) (len:=l.length) (λn i hi hr=> ?_) (λn=> ?_) l.length N 0 ω ω ω
 ·unfold Dz.l4 Dz.dw
  rw[aT ω,ak,aX ω ω,ak,ak,QB,a7,av,ax (x:=(i:Int)+1) ω ω,ag i]
  exact hr
 ·unfold Dz.l4 Dz.dw
  rw[aP ω,av]
theorem Uc(N:Nat){l:au}(hl:l.length≤100000)(hN:200000≤N):DA N l l=some true:=by
 unfold DA DA.b
 rw[gZ,a7,av]
 refine ov (F:=λn i=>DA.l4 N n l l i) (len:=l.length) (λn i hi hr=> ?_) (λn=> ?_) l.length N 0 ω ω ω
 ·unfold DA.l4 DA.dw
  rw[aT ω,ak,aX ω ω,ak,ak,QB,a7,av,ax (x:=(i:Int)+1) ω ω,ag i]
  exact hr
 ·unfold DA.l4 DA.dw
  rw[aP ω,av]
theorem QC(N:Nat){l:bq}(hl:l.length≤100000)(hN:200000≤N):DB N l l=some true:=by
 unfold DB DB.b
 rw[gZ,a7,av]
 refine ov (F:=λn i=>DB.l4 N n l l i) (len:=l.length) (λn i hi hr=> ?_) (λn=> ?_) l.length N 0 ω ω ω
 ·unfold DB.l4 DB.dw
  rw[aT ω,ak,aX ω ω,ak,ak,ah4,a7,av,ax (x:=(i:Int)+1) ω ω,ag i]
  exact hr
 ·unfold DB.l4 DB.dw
  rw[aP ω,av]
theorem Xa(N:Nat){l:List (Int)}(hl:l.length≤100000)(hN:200000≤N):DC N l l=some true:=by
 unfold DC DC.b
 rw[gZ,a7,av]
 refine ov (F:=λn i=>DC.l4 N n l l i) (len:=l.length) (λn i hi hr=> ?_) (λn=> ?_) l.length N 0 ω ω ω
 ·unfold DC.l4 DC.dw
  rw[aT ω,ak,aX ω ω,ak,ak,gZ,a7,av,ax (x:=(i:Int)+1) ω ω,ag i]
  exact hr
 ·unfold DC.l4 DC.dw
  rw[aP ω,av]
theorem Xb(N:Nat)(hN:200000≤N){b:aq}(h1:b.1.length≤100000)(h2:b.2.1.length≤100000)(h3:b.2.2.1.length≤100000)(h4:b.2.2.2.1.length≤100000)(h5:b.2.2.2.2.1.length≤100000)(h6:b.2.2.2.2.2.1.length≤100000):F35 N b b=some true:=by
 unfold F35
 rw[Ns N h1 hN,ar,ak,W8 N h2 hN,ar,ak,W9 N h3 hN,ar,ak,Uc N h4 hN,ar,ak,Xa N h5 hN,ar,ak,QC N h6 hN,ar]
theorem FJ{P:Int→Prop} [DecidablePred P]{f:Int→Int→Int}: ∀{K:List cW} {o:au},dP P f K=some o→o.length≤K.length
 |[],o,h=>by
  have:some []=some o:=h
  rw[←oH this];exact aG _
 |k::t,o,h=>by
  rw[jz]at h
  by_cases hP:P (f k.1 k.2)
  ·rw[aj hP]at h
   cases hc:dP P f t with
   |none=>rw[hc]at h;exact absurd h (by simp)
   |some r=>
    have ih:=FJ hc
    rw[hc]at h
    have h':=oH h
    rw[←h',aR]
    dsimp only
    split
    ·omega
    ·rw[aR];omega
  ·rw[ah hP]at h;exact absurd h (by simp)
theorem QD:je.length=150:=by decide+kernel
theorem Ud:mG.length=175:=by decide+kernel
structure Xc(b:aq):Prop where
 m:b.1.length≤100000
 a:b.2.1.length≤100000
 r:b.2.2.1.length≤100000
 s:b.2.2.2.1.length≤100000
 p:b.2.2.2.2.1.length≤100000
 o:b.2.2.2.2.2.1.length≤100000
theorem xC:Xc (([]:aD),(([]:aK),(([]:au),(([]:au),(([]:List Int),(([]:bq),())))))):=⟨bo _,bo _,bo _,bo _,bo _,bo _⟩
theorem Nt{b:aq}(w:gE b)(s e:au):Xc (dW b s e).1:=by
 unfold dW
 cases h1:dP Fq (fS b.2.2.2.1 s) je with
 |none=>exact xC
 |some s'=>
  cases h2:dP aE (fS b.2.2.1 e) mG with
  |none=>exact xC
  |some r'=>
   have g1:=FJ h1
   have g2:=FJ h2
   rw[QD]at g1
   rw[Ud]at g2
   exact⟨w.m,w.a,by show r'.length≤_;omega,by show s'.length≤_;omega,w.p,w.o⟩
end VM
end
section
namespace VM
open Go VM.F Go.RowKit
def fY(a b:Int):au→Int
 |[]=>0
 |x::t=>if x.1=a then(if x.2.1=b then x.2.2.1 else fY a b t)else fY a b t
theorem gl(a b:Int)(x:db)(t:au):fY a b (x::t)=if x.1=a then(if x.2.1=b then x.2.2.1 else fY a b t)else fY a b t:=rfl
def eG(l:au)(a b:Int):Int:=if cz l then fY a b l else 0
def gF(l:au)(a b:Int):Int:=if dO l then fY a b l else 0
theorem D2(N:Nat){l:au}(hl:l.length≤100000)(hN:200000≤N)(a b:Int):BC N l a b=some (eG l a b):=by
 unfold BC BC.b eG
 rw[kN N hl hN,ar,cond_not]
 have:=Aj l bh (λn i=>BC.l4 N n l a b i) (λt=>some (fY a b t)) (λn i hi hr=> ?_) (λn=> ?_) N ω
 ·rw[this];cases cz l<;>rfl
 ·unfold BC.l4 BC.dw
  rw[aT ω,ak,aX ω ω,ak,ak,ak,aJ,ax (x:=(i:Int)+1) ω ω,ag i,hr,aN,aN,gl]
  split
  ·split<;>rfl
  ·rfl
 ·unfold BC.l4 BC.dw
  rw[aP ω,av];rfl
theorem BD(N:Nat){l:au}(hl:l.length≤100000)(hN:200000≤N)(a b:Int):uI N l a b=some (gF l a b):=by
 unfold uI uI.b gF
 rw[Fy N hl hN,ar,cond_not]
 have:=Aj l bh (λn i=>uI.l4 N n l a b i) (λt=>some (fY a b t)) (λn i hi hr=> ?_) (λn=> ?_) N ω
 ·rw[this];cases dO l<;>rfl
 ·unfold uI.l4 uI.dw
  rw[aT ω,ak,aX ω ω,ak,ak,ak,aJ,ax (x:=(i:Int)+1) ω ω,ag i,hr,aN,aN,gl]
  split
  ·split<;>rfl
  ·rfl
 ·unfold uI.l4 uI.dw
  rw[aP ω,av];rfl
theorem D3{l:au}(h: ∀i,i<l.length→aE (dU (l.getD i bh))):dy l:=λx hx=>by
 obtain⟨i,hi,e⟩:=gh hx
 have:=h i hi
 rw[aU,bn hi]at this
 rw[←e];exact this
namespace Pure
end Pure
end VM
end
section
namespace VM
open Go VM.F
theorem aaz(N:Nat){x:Int}(h:aE x):F66 N (dS x)=some (dS (-x),true):=by
 unfold F66 ah5 dS
 unfold aE at h
 dsimp only
 rw[vg,vg,wz N ω ω ω ω ω ω,ar]
 dsimp only
 have hb:(0:Int)≤(if(0:Int)<x%18446744073709551616+0 then 1 else 0)∧(if(0:Int)<x%18446744073709551616+0 then(1:Int)else 0)≤1:=by split<;>omega
 rw[wz N ω ω ω ω hb.1 hb.2,ar]
 dsimp only
 have key: ∀{z:cC},z=dS (-x)→((some (z,true):Option (cC×Bool)).bind λr1=>some (r1.1,r1.2))=some (dS (-x),true):=λe=>by rw[e];rfl
 by_cases h0:x=0
 ·subst h0
  rw[ah ω,ax ω ω,aP (x:=0) (y:=0) ω,aP (x:=0/18446744073709551616) ω]
  simp only[o4,s6,a7,av]
  refine key (wmk ?_ ?_)<;>omega
 ·rw[aj ω]
  by_cases h1:0<x
  ·rw[aP (x:=0) (y:=0) ω,aP (x:=x/18446744073709551616) ω]
   simp only[o4,s6,a7,av]
   refine key (wmk ?_ ?_)
   ·rw[iE];split<;>omega
   ·omega
  ·have e:W .i64 ((0%18446744073709551616-x/18446744073709551616%18446744073709551616-1)%18446744073709551616)=0:=by rw[iE];split<;>omega
   rw[e,aP (x:=0) (y:=0) ω,aT (x:=x/18446744073709551616) ω,o4,o4]
   refine key (wmk ?_ ?_)<;>omega
theorem Sm(N:Nat){l:au}(hl:l.length≤100000)(hN:200000≤N)(a b:Int):BE N l a b=some (gF l a b):=by
 unfold BE BE.b gF
 rw[DX N hl hN,ar,cond_not]
 have:=Aj l bh (λn i=>BE.l4 N n a b l (l.length:Int) i) (λt=>some (fY a b t)) (λn i hi hr=> ?_) (λn=> ?_) N ω
 ·rw[this];cases dO l<;>rfl
 ·unfold BE.l4 BE.dw
  rw[aT ω,ak,aX ω ω,ak,aJ,ax (x:=(i:Int)+1) ω ω,ag i,hr,aN,aN,gl]
  split
  ·split<;>rfl
  ·rfl
 ·unfold BE.l4 BE.dw
  rw[aP ω,av];rfl
theorem FK{l:au}(h:dy l)(a b:Int):aE (fY a b l):=by
 induction l with
 |nil=>show aE 0;decide
 |cons x t ih=>
  have ih:=ih (λy hy=>h y (aZ _ hy))
  rw[gl]
  split
  ·split
   ·exact h x (bk ..)
   ·exact ih
  ·exact ih
theorem AB{l:au}(h:dy l)(a b:Int):aE (gF l a b):=by
 unfold gF
 split
 ·exact FK h a b
 ·exact⟨δ,δ⟩
def iJ(a:Int):au→aD
 |[]=>[]
 |x::t=>if x.1=a then(x.2.1,(x.2.2.1,()))::iJ a t else iJ a t
theorem ku(a:Int)(x:db)(t:au):iJ a (x::t)=if x.1=a then(x.2.1,(x.2.2.1,()))::iJ a t else iJ a t:=rfl
def posOf(l:au)(a:Int):aD:=if cz l then iJ a l else []
theorem FL(a:Int): ∀l:au,(iJ a l).length≤l.length
 |[]=>aG _
 |x::t=>by
  have:=FL a t
  rw[ku,aR]
  split
  ·rw[aR];omega
  ·omega
theorem BF(a:Int)(l:au):(posOf l a).length≤l.length:=by
 unfold posOf
 split
 ·exact FL a l
 ·exact bo _
theorem jf{a:Int}{y:yT}: ∀{l:au},y∈iJ a l→ ∃x∈l,x.1=a∧y=(x.2.1,(x.2.2.1,()))
 |[],h=>nomatch h
 |x::t,h=>by
  rw[ku]at h
  by_cases e:x.1=a
  ·rw[aj e]at h
   rcases aW.1 h with h|h
   ·exact⟨x,bk ..,e,h⟩
   ·obtain⟨x',hx,h'⟩:=jf h
    exact⟨x',aZ _ hx,h'⟩
  ·rw[ah e]at h
   obtain⟨x',hx,h'⟩:=jf h
   exact⟨x',aZ _ hx,h'⟩
theorem FM{l:au}(h:dy l)(a:Int): ∀y∈posOf l a,aE y.2.1:=λy hy=>by
 unfold posOf at hy
 split at hy
 ·obtain⟨x,hx,_,rfl⟩:=jf hy
  exact h x hx
 ·nomatch hy
theorem age(N:Nat){l:au}(hl:l.length≤100000)(hN:200000≤N)(a:Int):BG N l a=some (posOf l a):=by
 unfold BG BG.b posOf
 rw[wJ N hl hN,ar,cond_not]
 have:=og l bh (λn i s=>BG.l5 N n a s l (l.length:Int) i) (λt s=>some (s++iJ a t)) (λi (s:aD)=>s.length≤i) (λn i s hi hI hr=> ?_) (λn s hI=> ?_) l.length N 0 [] ω ω ω (aG _)
 ·have e:BG.l5 N N a [] l (l.length:Int) 0=some (iJ a l):=this
  rw[e];cases cz l<;>rfl
 ·unfold BG.l5 BG.ei
  rw[aT ω,ak,aX ω ω,ak,aJ,ax (x:=(i:Int)+1) ω ω,ag i,aN,bL (by rw[aI];omega),ak,ku]
  split
  ·rw[hr _ (by rw[aS,aI];omega),br];rfl
  ·exact hr s ω
 ·unfold BG.l5 BG.ei
  rw[aP ω,av]
  show some s=some (s++[])
  rw[ch]
theorem QE(N:Nat){l:au}(hl:l.length≤100000)(hN:200000≤N)(a:Int):lE N l a=some (posOf l a):=by
 unfold lE lE.b posOf
 rw[kN N hl hN,ar,cond_not]
 have:=og l bh (λn i s=>lE.l5 N n l a s i) (λt s=>some (s++iJ a t)) (λi (s:aD)=>s.length≤i) (λn i s hi hI hr=> ?_) (λn s hI=> ?_) l.length N 0 [] ω ω ω (aG _)
 ·have e:lE.l5 N N l a [] 0=some (iJ a l):=this
  rw[e];cases cz l<;>rfl
 ·unfold lE.l5 lE.ei
  rw[aT ω,ak,aX ω ω,ak,ak,ak,aJ,ax (x:=(i:Int)+1) ω ω,ag i,aN,bL (by rw[aI];omega),ak,ku]
  split
  ·rw[hr _ (by rw[aS,aI];omega),br];rfl
  ·exact hr s ω
 ·unfold lE.l5 lE.ei
  rw[aP ω,av]
  show some s=some (s++[])
  rw[ch]
def ow(c:ae)(y:yT):Int:=(c.1.getD y.1.toNat aV).2.2.2.1
def IP(c:ae)(l:aD):List Int:=l.map λy=>(y.2.1.natAbs:Int)*ow c y
def ox(c:ae)(l:aD):Int:=if mj c l then(IP c l).sum else 0
def AD(c:ae)(l:aD):Int:=if mj c l then 0 else 1
def uK(a n:Int):Prop:=0≤a∧a<n
structure ah6(c:ae)(y:yT):Prop where
 place:uK y.1 c.1.length
 size:(y.2.1.natAbs:Int)≤9223372036854775807
 q:aE y.2.1
 aaA:0≤ow c y∧ow c y≤1000000000
theorem KA{c:ae}{t:aD}(h:mj c t=true)(nR: ∀y∈t,aE y.2.1): ∀y∈t,ah6 c y:=λy hy=>by
 unfold mj at h
 obtain⟨h1,h2⟩:=cO.1 h
 obtain⟨i,hi,e⟩:=gh hy
 have a:=bx h1 i hi
 unfold nq np at a
 rw[aU,bn hi]at a
 simp only[mZ,e]at a
 have hp:uK y.1 c.1.length:=⟨a.1,a.2.1⟩
 have e9:y.1.toNat<c.1.length:=by
  have g: ∀x:Int,uK x c.1.length→x.toNat<c.1.length:=λx hx=>by unfold uK at hx;omega
  exact g _ hp
 have hq:=nR y hy
 refine⟨hp,?_,hq,?_⟩
 ·have g: ∀x:Int,aE x→p5 x→(x.natAbs:Int)≤9223372036854775807:=λx h1 h2=>by unfold aE at h1;unfold p5 at h2;omega
  exact g _ hq a.2.2.2.1
 ·unfold fL at h2
  have b:=bx (cO.1 (cO.1 h2).2).1 _ e9
  exact b.2.2.2
theorem FN{c:ae}{y:yT}(h:ah6 c y):0≤(y.2.1.natAbs:Int)*ow c y∧(y.2.1.natAbs:Int)*ow c y≤9223372036854775807000000000:=by
 have:=mul_lt (a:=(y.2.1.natAbs:Int)) (b:=ow c y) (m:=9223372036854775807) (n:=1000000000) ω h.aaA.1 h.size h.aaA.2
 exact⟨this.1,by have:=this.2;omega⟩
theorem Sn{B:Int}(hB:0≤B): ∀{ws:List Int},(∀x∈ws,0≤x∧x≤B)→0≤ws.sum∧ws.sum≤B*(ws.length:Int)
 |[],_=>by simp
 |x::t,h=>by
  have h0:=h x (bk ..)
  have ih:=Sn hB (ws:=t) (λy hy=>h y (aZ _ hy))
  rw[cy,aR]
  have e:B*((t.length+1:Nat):Int)=B*(t.length:Int)+B:=by rw[Ex,jY];simp
  rw[e]
  omega
theorem Ue{c:ae}{t:aD}(h: ∀y∈t,ah6 c y): ∀x∈IP c t,0≤x∧x≤9223372036854775807000000000:=λx hx=>by
 obtain⟨y,hy,rfl⟩:=cD.1 hx
 exact FN (h y hy)
theorem uM{c:ae}{t:aD}(nR: ∀y∈t,aE y.2.1):0≤ox c t∧ox c t≤92233720368547758070000000000:=by
 unfold ox
 by_cases h:mj c t=true
 ·rw[aj h]
  have hg:=(IN h nR).len
  have:=Sn ω (Ue (KA h nR))
  have hl:(IP c t).length=t.length:=cv ..
  rw[hl]at this
  omega
 ·rw[ah h];omega
theorem KB{x:Int}(h:0≤x∧x≤92233720368547758070000000000):dn x:=by unfold dn;omega
theorem aaB(N:Nat)(hN:2000000≤N)(c:ae){t:aD}(hl:t.length≤100000)(nR: ∀y∈t,aE y.2.1):F89 N c t=some (dS (ox c t),AD c t):=by
 have Y6:=uM (c:=c) nR
 unfold F89 pH pH.b
 rw[aan N ω c hl,ar,cond_not]
 unfold ox AD at*
 by_cases h:mj c t=true
 ·have hC:=KA h nR
  rw[h,aj rfl]at Y6
  rw[h,ak,aj rfl,aj rfl]
  have:=og t cA (λn i ws=>pH.l5 N n () c cA (ws.map dS) t (t.length:Int) i) (λu ws=>some ((Fu (ws++IP c u).sum).1,(0:Int))) (λi (ws:List Int)=>ws.length≤i∧ ∀x∈ws,dn x)
   (λn i ws hi hI hr=> ?_) (λn ws hI=> ?_) t.length N 0 [] ω ω ω ⟨aG _,λx hx=>nomatch hx⟩
  ·have e:pH.l5 N N () c cA [] t (t.length:Int) 0=some ((Fu (IP c t).sum).1,(0:Int)):=this
   rw[e]
   unfold Fu
   rw[aj (KB Y6)];rfl
  ·unfold pH.l5 pH.ei ah7
   have hm:t.getD i cA∈t:=by
    rw[aU,bn hi];exact dB hi
   have hy:=hC _ hm
   have h1:=FN hy
   have hq:=hy.q
   unfold aE at hq
   have hp:=hy.place
   have hs:=hy.size
   have hrt:=hy.aaA
   unfold ow at hrt
   rw[aT ω,ak,aX ω ω,ak,aJ,Kj N hq.1 hq.2,ar,aX hp.1 hp.2,ak,ar,ax (x:=((t.getD i cA).2.1.natAbs:Int)) ω ω,aad N ω ω (fG δ hrt.1) (qB hrt.2 δ),ar,bL (by rw[cv,aI];omega),ak,ax (x:=(i:Int)+1) ω ω,ag i]
   have:=hr (ws++[((t.getD i cA).2.1.natAbs:Int)*ow c (t.getD i cA)]) ⟨by rw[aS,aI];omega,rj hI.2 (KB ⟨h1.1,ω⟩)⟩
   rw[cY]at this
   refine this.trans ?_
   rw[br];rfl
  ·unfold pH.l5 pH.ei
   rw[aP ω,av,DW N hI.2 ω ω,ar]
   show _=some ((Fu (ws++[]).sum).1,(0:Int))
   rw[ch]
 ·rw[mY]at h
  rw[h,av];rfl
theorem Xd(N:Nat)(hN:4000000≤N)(c:ae){t:aD}(hl:t.length≤100000)(nR: ∀y∈t,aE y.2.1):QF N c t=some (cV (ox c t),AD c t):=by
 unfold QF lF lF.b
 rw[wP N ω c hl,ar,cond_not]
 unfold ox AD
 by_cases h:mj c t=true
 ·have hC:=KA h nR
  have hg:=(IN h nR).len
  rw[h,aj rfl,ak,aj rfl]
  have:=og t cA (λn i ws=>lF.l5 N n t true c (cV 0) (cV ws.sum) i) (λu ws=>some (cV (ws++IP c u).sum,(0:Int))) (λi (ws:List Int)=>ws.length≤i∧ ∀x∈ws,dn x)
   (λn i ws hi hI hr=> ?_) (λn ws hI=> ?_) t.length N 0 [] ω ω ω ⟨aG _,λx hx=>nomatch hx⟩
  ·rw[show((0:Nat):Int)=0 from rfl,cZ,iA,iF]at this
   rw[this];rfl
  ·unfold lF.l5 lF.ei
   have hm:t.getD i cA∈t:=by
    rw[aU,bn hi];exact dB hi
   have hy:=hC _ hm
   have h1:=FN hy
   have hq:=hy.q
   unfold aE at hq
   have hp:=hy.place
   have hs:=hy.size
   have hrt:=hy.aaA
   have hb:=Km hI.2
   have hfq:=Fit.i64 hq.1 hq.2
   have hfn:Fit ((t.getD i cA).2.1.natAbs:Int) 2:=Fit.i64 ω ω
   have VU:Fit (ow c (t.getD i cA)) 2:=Fit.i64 (fG δ hrt.1) (qB hrt.2 δ)
   unfold ow at hrt VU
   have Qz:dn (((t.getD i cA).2.1.natAbs:Int)*ow c (t.getD i cA)):=KB ⟨h1.1,ω⟩
   rw[aT ω,ak,aX ω ω,ak,aJ,aX hp.1 hp.2,ak,ak,ak,ak,ak,c5 N ω hq.1 hq.2,ar,Fp N ω (hfq.mono ω),ar,c5 N ω (fG δ hrt.1) (qB hrt.2 δ),ar,wF N ω (hfn.mono ω) (VU.mono ω),ar]
   have Hl:zd N (cV ws.sum) (cV (((t.getD i cA).2.1.natAbs:Int)*(c.1.getD (t.getD i cA).1.toNat aV).2.2.2.1))=some (cV (ws.sum+((t.getD i cA).2.1.natAbs:Int)*ow c (t.getD i cA))):=jc N ω (Kz (n:=ws.length) ω hb.1 hb.2) (Ay Qz)
   rw[Hl,ar,ax (x:=(i:Int)+1) ω ω,ag i]
   have:=hr (ws++[((t.getD i cA).2.1.natAbs:Int)*ow c (t.getD i cA)]) ⟨by rw[aS,aI];omega,rj hI.2 Qz⟩
   rw[lR,cy,iA,gI,br]at this
   exact this
  ·unfold lF.l5 lF.ei
   rw[aP ω,av]
   show _=some (cV (ws++[]).sum,(0:Int))
   rw[ch]
 ·rw[mY]at h
  rw[h,av,←iF];rfl
end VM
end
section
namespace VM
open Go VM.F
def sE(m s:Int):Int:=if m≤0 then 0 else if s<m then s else m
def nz(c:ae)(b:aq)(a:Int):Int×Int:=
 if dz c b then(if(fc b.2.1 a).2 then(sE (gF b.2.2.1 5 a) (ox c (posOf b.2.2.2.1 a)),0)else(0,3))else(0,1)
theorem ah8{α:Type}(u:Int)(x y:α):cond (dk 0 (vu u)) x y=if 0≤u then x else y:=by
 rw[cG]
 have:0≤vu u↔0≤u:=by unfold vu;split<;>(try split)<;>omega
 by_cases h:0≤u
 ·rw[aj h,aj (this.2 h)]
 ·rw[ah h,ah (λk=>h (this.1 k))]
theorem IQ(N:Nat)(hN:4000000≤N)(c:ae){b:aq}(w:gE b)(a:Int):F31 N c b a=some (nz c b a):=by
 unfold F31 nz
 have hp:=BF a b.2.2.2.1
 have hpi:=FM w.qs a
 have hs:=w.s
 have hm:=AB w.qr 5 a
 have Hp:=uM (c:=c) hpi
 have Ls:mx (gF b.2.2.1 5 a) 0=if 0<gF b.2.2.1 5 a then gF b.2.2.1 5 a else 0:=by
  rw[Vt];split<;>split<;>omega
 rw[Sc N hN w,ar,Kp N b w.a ω,ar,Sm N w.r ω,ar,age N w.s ω,cond_not,cond_not,Ls]
 dsimp only
 rw[ar,aaB N ω c ω hpi,ar]
 unfold F91
 dsimp only
 generalize ox c (posOf b.2.2.2.1 a)=s at*
 generalize gF b.2.2.1 5 a=m at*
 unfold aE at hm
 cases dz c b
 ·rfl
 rw[ak,aj rfl]
 cases(fc b.2.1 a).2
 ·rfl
 rw[ak,aj rfl,wH N (by split<;>omega) (by split<;>omega),ar,Sb,ar,ar,ah8,Ar N (KB Hp),ar]
 unfold sE
 by_cases h1:0<m
 ·rw[aj h1,ah (show ¬m≤0 by omega)]
  by_cases h2:s<m
  ·rw[aj (show 0≤m-s by omega),aj h2,nv (by unfold aE;omega)]
  ·rw[ah h2]
   by_cases h3:s=m
   ·rw[aj (show 0≤m-s by omega),nv (by unfold aE;omega),h3]
   ·rw[ah (show ¬0≤m-s by omega)]
 ·rw[ah h1,aj (show m≤0 by omega)]
  by_cases h3:s=0
  ·rw[aj (show 0≤0-s by omega),nv (by unfold aE;omega),h3]
  ·rw[ah (show ¬0≤0-s by omega)]
theorem IS(N:Nat){b:aq}(w:gE b)(hN:200000≤N)(a:Int):HH N b a=some (gF b.2.2.1 5 a):=by
 unfold HH
 rw[BD N w.r hN,ar]
theorem QG(N:Nat)(hN:5000000≤N)(c:ae){b:aq}(w:gE b)(a:Int):F60 N c b a=some (nz c b a):=by
 unfold F60 nz
 have hp:=BF a b.2.2.2.1
 have hpi:=FM w.qs a
 have hs:=w.s
 have hm:=AB w.qr 5 a
 have Hp:=uM (c:=c) hpi
 rw[Ao N hN w,ar,wL N w.a ω,ar,QE N w.s ω,ar,Xd N ω c ω hpi,ar,IS N w ω,ar,q3,ar,cond_not,cond_not,cG]
 generalize ox c (posOf b.2.2.2.1 a)=s at*
 generalize gF b.2.2.1 5 a=m at*
 unfold aE at hm
 cases dz c b
 ·rfl
 rw[ak,aj rfl]
 cases(fc b.2.1 a).2
 ·rfl
 rw[ak,aj rfl]
 unfold sE
 by_cases h1:m≤0
 ·rw[aj h1,aj h1]
 ·rw[ah h1,ah h1]
  by_cases h4:aE s
  ·rw[nv h4]
   dsimp only
   rw[ak,cP]
   split<;>rfl
  ·rw[uD h4]
   unfold aE at h4
   dsimp only
   rw[av,ah ω]
theorem Xe{hi:Int}: ∀{l:List Int} {lo:Int},l.Pairwise (· < ·)→(∀x∈l,lo≤x∧x<hi)→lo≤hi→(l.length:Int)≤hi-lo
 |[],lo,_,_,h=>by rw[bU];omega
 |x::t,lo,hp,hm,h=>by
  obtain⟨h1,h2⟩:=eh.1 hp
  have hx:=hm x (bk ..)
  have ih:=Xe (lo:=x+1) h2 (λy hy=>⟨h1 y hy,(hm y (aZ _ hy)).2⟩) ω
  rw[aR];omega
theorem CI{a:Int}: ∀{l:au},sC (l.map keyOf)→((iJ a l).map (λy=>(y.1:Int))).Pairwise (· < ·)
 |[],_=>List.Pairwise.nil
 |x::t,h=>by
  obtain⟨h1,h2⟩:=eh.1 h
  have ih:=CI (a:=a) h2
  rw[ku]
  by_cases e:x.1=a
  ·rw[aj e,bV]
   refine eh.2 ⟨λz hz=> ?_,ih⟩
   obtain⟨y,hy,rfl⟩:=cD.1 hz
   obtain⟨x',hx,e',rfl⟩:=jf hy
   have hk:=h1 (keyOf x') (eM hx)
   have g: ∀p q r s:Int,p=a→r=a→kW p q r s→q<s:=λp q r s h1 h2 h=>by unfold kW at h;omega
   exact g _ _ _ _ e e' hk
  ·rw[ah e];exact ih
theorem AE{l:au}(hk:cz l=true)(hq:dy l)(a:Int):FI (posOf l a):=by
 obtain⟨hs,hp⟩:=cU hk
 have e:posOf l a=iJ a l:=by unfold posOf;rw[hk];rfl
 rw[e]
 have lU: ∀y∈iJ a l,CH y.1:=λy hy=>by
  obtain⟨x,hx,_,rfl⟩:=jf hy
  have g: ∀p q:Int,bD p q→CH q:=λp q h=>by unfold bD at h;unfold CH;omega
  exact g _ _ (hp x hx).1
 refine⟨?_,lU,λy hy=> ?_⟩
 ·have:=Xe (lo:=0) (hi:=6) (CI (a:=a) hs) (λz hz=>by
   obtain⟨y,hy,rfl⟩:=cD.1 hz
   exact lU y hy) ω
  rw[cv]at this;omega
 ·obtain⟨x,hx,_,rfl⟩:=jf hy
  exact⟨hq x hx,(hp x hx).2⟩
def wU(a:Int):aD→au
 |[]=>[]
 |y::t=>(a,(y.1,((0-y.2.1:Int),())))::((0:Int),(y.1,(y.2.1,())))::wU a t
theorem qq(a:Int)(y:yT)(t:aD):wU a (y::t)=(a,(y.1,((0-y.2.1:Int),())))::((0:Int),(y.1,(y.2.1,())))::wU a t:=rfl
theorem wV(a:Int): ∀t:aD,(wU a t).length=2*t.length
 |[]=>rfl
 |y::t=>by rw[qq,aR,aR,aR,wV a t];omega
theorem ah9(N:Nat)(hN:200000≤N){l:au}(hl:l.length≤100000)(hk:cz l=true)(hq:dy l){a:Int}(h0:1≤a)(h1:a≤24):CJ N l a 0=some (wU a (posOf l a)):=by
 have hg:=AE hk hq a
 have hlen:=hg.len
 unfold CJ CJ.b
 rw[wJ N hl hN,hk,ar,a7,av,DY,ar,bs (show bD a 0 by unfold bD;omega),a7,av,DY,ar,bs (show bD 0 0 by decide),a7,av,ed ω,av,age N hl hN,ar]
 have:=og (posOf l a) cA (λn i s=>CJ.l5 N n a 0 s (posOf l a) ((posOf l a).length:Int) i) (λt s=>some (s++wU a t)) (λi (s:au)=>s.length≤2*i) (λn i s hi hI hr=> ?_) (λn s hI=> ?_) (posOf l a).length N 0 [] ω ω ω (aG _)
 ·exact this
 ·unfold CJ.l5 CJ.ei
  have hm:(posOf l a).getD i cA∈posOf l a:=by
   rw[aU,bn hi];exact dB hi
  have hn:=(Ub (hg.q _ hm)).1
  unfold aE at hn
  rw[aT ω,ak,aX ω ω,ak,aJ,ax (x:=(i:Int)+1) ω ω,ag i,ax hn.1 hn.2]
  dsimp only
  rw[bL (by rw[aR,aI];omega),ak,qq]
  refine(hr _ ?_).trans ?_
  ·rw[aS,aR,aI];omega
  ·rw[br];rfl
 ·unfold CJ.l5 CJ.ei
  rw[aP ω,av]
  show some s=some (s++[])
  rw[ch]
theorem aaD(N:Nat)(hN:200000≤N){l:au}(hl:l.length≤100000)(hk:cz l=true)(hq:dy l){a:Int}(h0:1≤a)(h1:a≤24):iR N l a 0=some (wU a (posOf l a)):=by
 have e:posOf l a=iJ a l:=by unfold posOf;rw[hk];rfl
 obtain⟨_,hp⟩:=cU hk
 unfold iR iR.b
 rw[kN N hl hN,hk,ar,a7,av,ed ω,av,aP (x:=a) ω,av,aP (x:=24) (y:=a) ω,av,aP (x:=0) ω,av,aP (x:=24) ω,av,e]
 have:=og l bh (λn i s=>iR.l5 N n l a 0 s i) (λt s=>some (s++wU a (iJ a t))) (λi (s:au)=>s.length≤2*i) (λn i s hi hI hr=> ?_) (λn s hI=> ?_) l.length N 0 [] ω ω ω (aG _)
 ·exact this
 ·unfold iR.l5 iR.ei
  have hm:l.getD i bh∈l:=by
   rw[aU,bn hi];exact dB hi
  have hn:=(Ub ⟨hq _ hm,(hp _ hm).2⟩).1
  unfold aE dU at hn
  rw[aT ω,ak,aX ω ω,ak,ak,ak,aJ,ax (x:=(i:Int)+1) ω ω,ag i,ax hn.1 hn.2,aN,ku]
  dsimp only
  rw[ak,ak,bL (by rw[aR,aI];omega),ak]
  by_cases h:(l.getD i bh).1=a
  ·rw[aj h,aj h,qq]
   refine(hr _ ?_).trans ?_
   ·rw[aS,aR,aI];omega
   ·rw[br];rfl
  ·rw[ah h,ah h]
   exact hr s ω
 ·unfold iR.l5 iR.ei
  rw[aP ω,av]
  show some s=some (s++[])
  rw[ch]
end VM
end
section
namespace VM
open Go VM.F
def jg(p:Int):Prop:=1≤p∧p≤1000000000000
instance(p:Int):Decidable (jg p):=by unfold jg;infer_instance
theorem FO(N:Nat)(p:Int):Dp N p=some (decide (jg p)):=(iH N p).trans (fi some (oS.2 Iff.rfl))
def kv(a b c d e:Int):Prop:=(0≤a∧a≤24)∧(0≤b∧b≤24)∧a≠b∧(0≤c∧c<6)∧(1≤d∧d≤1000000000)∧jg e
instance(a b c d e:Int):Decidable (kv a b c d e):=by unfold kv;infer_instance
def nA(t:sW):Prop:=kv t.1 t.2.1 t.2.2.1 t.2.2.2.1 t.2.2.2.2.1
instance:DecidablePred nA:=λt=>by unfold nA;infer_instance
theorem Nu(a b c d e:Int):cond (dk 0 a) (cond (dk a 24) (cond (dk 0 b) (cond (dk b 24) (cond (!aO a b) (cond (dk 0 c) (cond (aY c 6) (cond (dk 1 d) (cond (dk d 1000000000) (some (decide (jg e))) (some false)) (some false)) (some false)) (some false)) (some false)) (some false)) (some false)) (some false)) (some false)=some (decide (kv a b c d e)):=by
 simp only[cG,cond_not,aN,cP]
 by_cases hP:kv a b c d e
 ·have hp:=hP.2.2.2.2.2
  rw[bs hP,bs hp]
  unfold kv at hP
  repeat' split
  all_goals first|rfl|omega
 ·rw[cj hP]
  by_cases hp:jg e
  ·unfold kv at hP
   repeat' split
   all_goals first|rfl|(exact absurd ⟨ω,ω,ω,ω,ω,hp⟩ hP)
  ·rw[cj hp]
   repeat' split
   all_goals rfl
theorem xD(N:Nat)(t:sW):Xf N t=some (decide (nA t)):=by
 unfold Xf
 rw[FO,ar]
 exact Nu _ _ _ _ _
def AF(a x:Int):db:=if a=0 then((2:Int),((0:Int),(x,())))else((5:Int),(a,(x,())))
def QH(t:sW)(p:Int):au:=if p-t.2.2.2.2.1=0 then []else [AF t.1 ((p-t.2.2.2.2.1)*t.2.2.2.1),AF t.2.1 (-((p-t.2.2.2.2.1)*t.2.2.2.1))]
theorem BH(a x:Int)(N:Nat):KC N a=some ((AF a x).1,(AF a x).2.1):=by
 unfold KC AF
 rw[aN]
 by_cases h:a=0
 ·rw[aj h,aj h]
 ·rw[ah h,ah h]
theorem nB(a x:Int):dU (AF a x)=x:=by unfold AF;split<;>rfl
theorem IT{d q:Int}(h1: -1000000000000≤d∧d≤1000000000000)(h2:1≤q∧q≤1000000000): -1000000000000000000000≤d*q∧d*q≤1000000000000000000000∧(d*q=0↔d=0):=by
 refine⟨?_,?_,?_⟩
 ·have:=zh h1.1 (show 0≤q by omega)
  have h3: -1000000000000*1000000000≤ -1000000000000*q:=ω
  omega
 ·have:=zh h1.2 (show 0≤q by omega)
  have h3:1000000000000*q≤1000000000000*1000000000:=ω
  omega
 ·rw[Int.mul_eq_zero];omega
theorem HI(N:Nat)(hN:4000000≤N){t:sW}{p:Int}(ht:nA t)(hp:jg p):QI N t p=some ((QH t p).map gY,0):=by
 unfold QI QH
 have hq:=ht.2.2.2.2.1
 have he:=ht.2.2.2.2.2
 rw[xD,ar,bs ht,a7,av,FO,ar,bs hp,a7,av]
 unfold jg at hp he
 generalize t.2.2.2.2.1=e at*
 generalize t.2.2.2.1=q at*
 have hd: -1000000000000≤p-e∧p-e≤1000000000000:=ω
 have hn:=IT hd hq
 have Qz:dn ((p-e)*q):=by unfold dn;omega
 rw[ax (x:=p-e) ω ω,c5 N ω ω ω,ar,c5 N ω ω ω,ar,wF N hN ((Fit.i64 ω ω).mono ω) ((Fit.i64 ω ω).mono ω),ar,p4,ar,aN]
 by_cases h:p-e=0
 ·rw[aj h,aj (by rw[hn.2.2.2 h];rfl)];rfl
 ·rw[ah h,ah (λk=>h (hn.2.2.1 (kp.1 k))),BH t.1 ((p-e)*q),ar,BH t.2.1 (-((p-e)*q)),ar,jy N hN (Ay Qz),ar,bV,bV,iZ]
  unfold gY
  rw[nB,nB]
theorem ic{c:ae}{b:aq}(h:dz c b=true):b.2.2.2.2.1.length=c.1.length∧eV b.2.2.2.2.1=true:=by
 unfold dz at h
 simp only[bR]at h
 have h1:=bx h.2.2.2.2.2.2.1
 unfold dx at h1
 exact⟨ω,h.2.2.2.2.2.2.2.2.2.2⟩
end VM
end
section
namespace VM
open Go VM.F
theorem Nv{l:List Int}(h:eV l=true){i:Nat}(hi:i<l.length):jg (l.getD i 0):=bx h i hi
end VM
end
section
namespace VM
open Go VM.F
theorem uN{c:ae}{b:aq}(h:dz c b=true):fL c=true:=by
 unfold dz at h
 exact(cO.1 h).1
def nC(k:Int):Nat→aK→List Int
 |_,[]=>[]
 |i,x::t=>if x.1=k then(i:Int)::nC k (i+1) t else nC k (i+1) t
theorem AG(k:Int)(i:Nat)(x:bO)(t:aK):nC k i (x::t)=if x.1=k then(i:Int)::nC k (i+1) t else nC k (i+1) t:=rfl
def iK(c:ae)(k:Int):List Int:=if fL c then nC k 0 c.1 else []
theorem QJ(N:Nat)(hN:200000≤N)(c:ae)(hl:c.1.length≤100000)(k:Int):pa N c k=some (iK c k):=by
 unfold pa pa.b iK
 rw[ni N ω,ar,cond_not]
 have:=og c.1 aV (λn i s=>pa.l5 N n k c s i) (λt s=>some (s++nC k (c.1.length-t.length) t)) (λi (s:List Int)=>s.length≤i) (λn i s hi hI hr=> ?_) (λn s hI=> ?_) c.1.length N 0 [] ω ω ω (aG _)
 ·have e:pa.l5 N N k c [] 0=some (nC k 0 c.1):=by
   refine this.trans ?_
   rw[cZ,td];rfl
  rw[e];cases fL c<;>rfl
 ·unfold pa.l5 pa.ei
  have e1:c.1.length-(c.1.getD i aV::c.1.drop (i+1)).length=i:=by rw[aR,dV];omega
  have e2:c.1.length-(c.1.drop (i+1)).length=i+1:=by rw[dV];omega
  rw[e2]at hr
  rw[aT ω,ak,aX ω ω,ak,aJ,ax (x:=(i:Int)+1) ω ω,ag i,aN,bL (by rw[aI];omega),ak,e1,AG]
  split
  ·rw[hr _ (by rw[aS,aI];omega),br];rfl
  ·exact hr s ω
 ·unfold pa.l5 pa.ei
  rw[aP ω,av]
  show some s=some (s++[])
  rw[ch]
theorem CK{c:ae}(h:fL c=true):c.1.length≤6∧ ∀i,i<c.1.length→0≤(c.1.getD i aV).1∧(c.1.getD i aV).1≤3:=by
 unfold fL at h
 simp only[bR]at h
 have h1:=bx h.1
 have h2:=bx h.2.1
 exact⟨h1.2,λi hi=>(h2 i hi).1⟩
theorem Xg{l:au}(h:dy l)(a b:Int):aE (eG l a b):=by
 unfold eG
 cases cz l
 ·show aE 0;decide
 ·exact FK h a b
end VM
end
section
namespace VM
open Go VM.F
end VM
end
section
namespace VM
open Go VM.F
end VM
end
section
namespace VM
open Go VM.F
def AH(l:List Int)(k:Int):Int:=l.getD k.toNat 0
def ins(l:List Int):List Int→Int→List Int
 |[],i=>[i]
 |k::t,i=>if AH l i≤AH l k then k::ins l t i else i::k::t
def fI(l:List Int):Nat→List Int
 |0=>[]
 |n+1=>ins l (fI l n) n
def ky(l:List Int):List Int:=fI l l.length
def yw(l:List Int)(a b:Int):Prop:=AH l b<AH l a∨(AH l b=AH l a∧a<b)
theorem So(l:List Int): ∀(o:List Int) (i:Int),(ins l o i).length=o.length+1
 |[],i=>rfl
 |k::t,i=>by unfold ins;split<;>simp[So l t i]
theorem sF(l:List Int): ∀n,(fI l n).length=n
 |0=>rfl
 |n+1=>by unfold fI;rw[So,sF l n]
theorem yW(l:List Int):(ky l).length=l.length:=sF l _
theorem KD(l:List Int){x:Int}: ∀{o:List Int} {i:Int},x∈ins l o i↔x=i∨x∈o
 |[],i=>by simp[ins]
 |k::t,i=>by
  unfold ins;split
  ·rw[aW,KD l,aW]
   exact⟨λh=>h.elim (λh=> .inr (.inl h)) (λh=>h.elim .inl (λh=> .inr (.inr h))),λh=>h.elim (λh=> .inr (.inl h)) (λh=>h.elim .inl (λh=> .inr (.inr h)))⟩
  ·rw[aW]
theorem sG(l:List Int){x:Int}: ∀{n:Nat},x∈fI l n↔0≤x∧x<n
 |0=>⟨(λh=>nomatch h),λh=>absurd h.1 ω⟩
 |n+1=>by unfold fI;rw[KD,sG l];omega
theorem AI(l:List Int): ∀{o:List Int} {i:Int},o.Pairwise (yw l)→(∀x∈o,x<i)→(ins l o i).Pairwise (yw l)
 |[],i,_,_=>Ei _ _
 |k::t,i,h,hi=>by
  rw[eh]at h
  have hk:k<i:=hi k (bk ..)
  unfold ins;split
  ·rename_i hle
   rw[eh]
   refine⟨λx hx=> ?_,AI l h.2 (λx hx=>hi x (aZ _ hx))⟩
   rcases(KD l).1 hx with rfl|hx
   ·unfold yw;omega
   ·exact h.1 x hx
  ·rename_i hle
   rw[eh,eh]
   refine⟨λx hx=> ?_,h.1,h.2⟩
   rcases aW.1 hx with rfl|hx
   ·unfold yw;omega
   ·have:=h.1 x hx;unfold yw at*;omega
theorem oy(l:List Int): ∀n,(fI l n).Pairwise (yw l)
 |0=>List.Pairwise.nil
 |n+1=>by unfold fI;exact AI l (oy l n) (λx hx=>((sG l).1 hx).2)
theorem Xh(l:List Int): ∀(o:List Int) (i:Int) (p:Nat),p≤o.length→(∀j,j<p→AH l i≤AH l (o.getD j 0))→(p<o.length→AH l (o.getD p 0)<AH l i)→ins l o i=o.take p++i::o.drop p
 |[],i,p,hp,_,_=>by simp at hp;subst hp;rfl
 |k::t,i,0,hp,_,h=>by
  unfold ins;rw[ah (by have:=h (by simp);simp at this;omega)];rfl
 |k::t,i,p+1,hp,h0,h=>by
  unfold ins
  have h1:AH l i≤AH l k:=h0 0 ω
  rw[aj h1,Xh l t i p (by simpa using hp) (λj hj=>by have:=h0 (j+1) ω;simpa using this) (λRy=>by have:=h (by simpa using Ry);simpa using this)]
  rfl
theorem Sp(l:List Int)(f:Int→Int): ∀(o:List Int) (i:Int),((ins l o i).map f).sum=(o.map f).sum+f i
 |[],i=>by simp[ins]
 |k::t,i=>by
  unfold ins;split
  ·rw[bV,cy,Sp l f t i,bV,cy];omega
  ·simp only[bV,cy];omega
theorem CL(l r:List Int): ∀n,n≤r.length→((fI l n).map (AH r)).sum=(r.take n).sum
 |0,_=>rfl
 |n+1,h=>by
  unfold fI;rw[Sp,CL l r n ω,lA r ω]
  unfold AH;rw[aJ]
theorem QK(l r:List Int)(h:l.length=r.length):((ky l).map (AH r)).sum=r.sum:=by
 unfold ky;rw[CL l r _ ω,jG ω]
theorem FP{o:List Int}{j:Nat}(h:j<o.length):o.getD j 0∈o:=by
 rw[aU,bn h];exact dB h
theorem QL{l:List Int}{n j:Nat}(h:j<n):0≤(fI l n).getD j 0∧(fI l n).getD j 0<n:=by
 exact(sG l).1 (FP (by rw[sF];exact h))
theorem IU(N:Nat)(K:List Int→List Int→Int→Option (List Int)){l:List Int}(hl:l.length≤100000)(i:Nat)(hi:i<l.length): ∀(m n p:Nat),i-p≤m→m<n→p≤i→(∀j,j<p→AH l i≤AH l ((fI l i).getD j 0))→
  fB.l6 N K n l (fI l i) (i:Int) (p:Int)=K l (fI l (i+1)) ((i+1:Nat):Int)
 |m,0,p,_,hn,_,_=>ω
 |m,n+1,p,hm,hn,hp,h=>by
  have hlen:=sF l i
  have fin: ∀h2:(p<i→AH l ((fI l i).getD p 0)<AH l i),fB.j8 N K l (fI l i) (i:Int) (p:Int)=K l (fI l (i+1)) ((i+1:Nat):Int):=λh2=>by
   have e:=Xh l (fI l i) i p ω h (λh3=>h2 ω)
   unfold fB.j8 fB.W2
   dsimp only
   rw[dG ω ω ω ω,ak,aJ,aJ,dr,cZ]
   rw[bL (by rw[cc];omega),ak,bL (by rw[cc];simp only[aI];omega),ak,dG ω ω ω ω,ak,bL (by simp only[aS,cc,dV,aI];omega),ak,ax ω ω,iY,br,El,←e]
   rfl
  unfold fB.l6 fB.uu
  by_cases hpi:p<i
  ·have hr:=QL (l:=l) (n:=i) (j:=p) hpi
   rw[aT ω,ak,aX ω ω,ak,aJ,aJ,aX ω ω,ak,aX ω ω,ak]
   by_cases h3:l.getD i 0≤l.getD ((fI l i).getD p 0).toNat 0
   ·rw[fE h3,ak,ax ω ω]
    refine IU N K hl i hi (m-1) n (p+1) ω ω ω (λj hj=> ?_)
    by_cases hjp:j=p
    ·rw[hjp];unfold AH;rw[aJ];exact h3
    ·exact h j ω
   ·rw[fm ω,av]
    exact fin (λ_=>by unfold AH;rw[aJ];omega)
  ·rw[aP ω,av]
   exact fin (λh=>absurd h hpi)
theorem FQ(N:Nat){l:List Int}(hl:l.length≤100000)(hN:l.length<N): ∀(m n i:Nat),l.length-i≤m→m<n→i≤l.length→
  fB.l3 N n l (fI l i) (i:Int)=some (ky l)
 |m,0,i,_,hn,_=>ω
 |m,n+1,i,hm,hn,hi=>by
  unfold fB.l3 fB.nO
  by_cases h:i<l.length
  ·have:=IU N (fB.l3 N n) hl i h i N 0 ω ω ω (λj hj=>ω)
   rw[aT ω,ak]
   refine Eq.trans this ?_
   exact FQ N hl hN (m-1) n (i+1) ω ω ω
  ·rw[aP ω,av,show i=l.length by omega];rfl
theorem Uf(N:Nat){l:List Int}(hl:l.length≤100000)(hN:l.length<N):fB N l=some (ky l):=by
 unfold fB fB.b
 exact FQ N hl hN l.length N 0 ω ω ω
end VM
end
section
namespace VM
open Go VM.F
def IV(l:List Int):Prop:= ∀x∈l,-9223372036854775808≤x∧x<9223372036854775808
def Pos(l:List Int):Prop:= ∀x∈l,0≤x
def may(w:List Int):Bool:=decide (w.length≤64)&&w.all (λx=>decide (0≤x))
theorem oO{w:List Int}:may w=true↔w.length≤64∧Pos w:=by
 unfold may Pos;rw[bR,ff,qD]
 simp only[ff]
theorem FR(N:Nat){l:List Int}(hl:l.length≤1000000): ∀(m n i:Nat),l.length-i≤m→m<n→i≤l.length→ ∃r,pI.l4 N n l (i:Int)=some r∧(r=true↔ ∃x∈l.drop i,x<0)
 |m,0,i,_,hn,_=>ω
 |m,n+1,i,hm,hn,hi=>by
  unfold pI.l4 pI.dw
  by_cases h:i<l.length
  ·have hd:l.drop i=l.getD i 0::l.drop (i+1):=by
    rw[pU h,aU,bn h];rfl
   rw[aT ω,ak,aX ω ω,ak,aJ,hd]
   by_cases hx:l.getD i 0<0
   ·rw[aT hx,ak]
    exact⟨_,rfl,λ_=>⟨_,bk ..,hx⟩,λ_=>rfl⟩
   ·rw[aP ω,av,ax ω ω]
    obtain⟨r,e,h1⟩:=FR N hl (m-1) n (i+1) ω ω ω
    refine⟨r,e,h1.trans ⟨λ⟨x,Lu,hx2⟩=>⟨x,aZ _ Lu,hx2⟩,λ⟨x,Lu,hx2⟩=> ?_⟩⟩
    rcases aW.1 Lu with rfl|Lu
    ·exact absurd hx2 hx
    ·exact⟨x,Lu,hx2⟩
  ·rw[aP ω,av,vC ω]
   exact⟨_,rfl,(λh=>nomatch h),λ⟨x,hx,_⟩=>nomatch hx⟩
theorem FT(N:Nat){w:List Int}(hN:100≤N)(t:Int):pI N t w=some (decide (t<0)|| !may w):=by
 unfold pI pI.b
 by_cases ht:t<0
 ·rw[aT ht,ak,bs ht];rfl
 rw[aP ω,av,cj ht,ta]
 by_cases h:w.length≤64
 ·rw[aP ω,av]
  obtain⟨r,e,hr⟩:=FR N (l:=w) ω w.length N 0 ω ω ω
  rw[cZ]at hr
  rw[show((0:Nat):Int)=0 from rfl]at e
  rw[e]
  congr 1
  rw[oT,hr,qC,vI,Ne,oO]
  constructor
  ·rintro⟨x,hx,V6⟩ h;have:=h.2 x hx;omega
  ·intro h1
   by_cases h2: ∃x∈w,x<0
   ·exact h2
   ·exact absurd ⟨h,λx hx=>by
     by_cases V6:x<0
     ·exact absurd ⟨x,hx,V6⟩ h2
     ·omega⟩ h1
 ·rw[aT ω,ak]
  have:may w=false:=by
   rw[vI];intro hm;exact h (oO.1 hm).1
  rw[this];rfl
def bump(q:List Int):List Int→List Int
 |[]=>q
 |k::t=>bump (q.set k.toNat (q.getD k.toNat 0+1)) t
def rU(t S:Int)(w:List Int):List Int:=w.map λx=>t*x/S
def ld(t S:Int)(w:List Int):List Int:=w.map λx=>t*x%S
def bS(t:Int)(w:List Int):List Int:=
 bump (rU t w.sum w) ((ky (ld t w.sum w)).take (t-(rU t w.sum w).sum).toNat)
def rl(t:Int)(w:List Int):List Int×Int:=
 if t<0∨may w=false then([],1)else if 9223372036854775808≤w.sum then([],2)
 else if w.sum=0 then(if t=0 then(List.replicate w.length 0,0)else([],1))else(bS t w,0)
theorem Nw: ∀(ks q:List Int),(bump q ks).length=q.length
 |[],q=>rfl
 |k::t,q=>by unfold bump;rw[Nw t];simp
theorem KE: ∀(q:List Int) (k:Nat) (x:Int),k<q.length→(q.set k x).sum=q.sum-q.getD k 0+x
 |[],k,x,h=>absurd h (by simp)
 |a::q,0,x,h=>by simp;omega
 |a::q,k+1,x,h=>by
  have:=KE q k x (by simpa using h)
  simp[this];omega
theorem jM: ∀{q:List Int},Pos q→0≤q.sum
 |[],_=>by simp
 |a::q,h=>by
  have:=jM (q:=q) (λx hx=>h x (aZ _ hx))
  have:=h a (bk ..)
  rw[cy];omega
theorem yX: ∀{q:List Int},Pos q→ ∀i,q.getD i 0≤q.sum
 |[],_,i=>by simp
 |a::q,h,0=>by
  have:=jM (q:=q) (λx hx=>h x (aZ _ hx))
  rw[cy];simp;omega
 |a::q,h,i+1=>by
  have:=yX (q:=q) (λx hx=>h x (aZ _ hx)) i
  have:=h a (bk ..)
  rw[cy];simp;simp at*;omega
theorem g4{q:List Int}(h:Pos q)(i:Nat):0≤q.getD i 0:=by
 by_cases hi:i<q.length
 ·exact h _ (FP hi)
 ·rw[uw q ω];omega
theorem aaE{q:List Int}(h:Pos q){x:Int}(hx:0≤x)(k:Nat):Pos (q.set k x):=λy hy=>by
 rcases xl hy with hy|rfl
 ·exact h y hy
 ·exact hx
theorem Nx{q:List Int}(h:Pos q)(n:Nat):Pos (q.take n):=λx hx=>h x (lM hx)
theorem Ny: ∀(ks q:List Int),(∀k∈ks,0≤k∧k<q.length)→(bump q ks).sum=q.sum+ks.length
 |[],q,_=>by simp[bump]
 |k::t,q,h=>by
  have hk:=h k (bk ..)
  unfold bump
  rw[Ny t _ (λx hx=>by rw[bN];exact h x (aZ _ hx)),KE q _ _ ω,aR];omega
theorem wX(t S:Int)(w:List Int):(rU t S w).length=w.length:=by unfold rU;rw[cv]
theorem pb(t S:Int)(w:List Int):(ld t S w).length=w.length:=by unfold ld;rw[cv]
theorem Sq{t S:Int}{w:List Int}(i:Nat):(rU t S w).getD i 0=t*w.getD i 0/S:=by
 unfold rU
 by_cases h:i<w.length
 ·rw[aU,pW,bn h,aU,bn h];rfl
 ·rw[uw _ (by rw[cv];omega),uw w ω];simp
theorem Sr{t S:Int}{w:List Int}(i:Nat):(ld t S w).getD i 0=t*w.getD i 0%S:=by
 unfold ld
 by_cases h:i<w.length
 ·rw[aU,pW,bn h,aU,bn h];rfl
 ·rw[uw _ (by rw[cv];omega),uw w ω];simp
theorem FU{t S:Int}{w:List Int}(ht:0≤t)(hS:0≤S)(hw:Pos w):Pos (rU t S w):=λx hx=>by
 obtain⟨y,hy,rfl⟩:=cD.1 hx
 exact s8 (vO ht (hw y hy)) hS
theorem Nz{t S:Int}{w:List Int}(hS:0<S):Pos (ld t S w):=λx hx=>by
 obtain⟨y,hy,rfl⟩:=cD.1 hx
 exact Ew _ ω
theorem KF(t S:Int): ∀w:List Int,S*(rU t S w).sum+(ld t S w).sum=t*w.sum
 |[]=>by simp[rU,ld]
 |x::w=>by
  have h:=KF t S w
  have e:=L0 (t*x) S
  unfold rU ld at*
  simp only[bV,cy,jY]
  omega
theorem Xi{t S:Int}{w:List Int}(ht:0≤t)(hS:0<S)(h:w.sum≤S):(rU t S w).sum≤t:=by
 have e:=KF t S w
 have h1:=jM (Nz (t:=t) (w:=w) hS)
 have h2:=xk h ht
 have h3:S*(rU t S w).sum≤S*t:=by rw[jW S t];omega
 exact LP h3 hS
theorem CN{w:List Int}(h:Pos w)(i:Nat):(w.take i).sum≤w.sum:=by
 have e:w.take i++w.drop i=w:=gg i w
 have h1:(w.take i).sum+(w.drop i).sum=w.sum:=by rw[←lR,e]
 have:=jM (q:=w.drop i) (λx hx=>h x (mV hx))
 omega
theorem IW(t S:Int)(w:List Int)(i:Nat):(rU t S w).take i=rU t S (w.take i):=by unfold rU;rw[List.map_take]
theorem FV(N:Nat){ks:List Int}(hl:ks.length≤1000000)(L:Nat)(hk: ∀k∈ks,0≤k∧k<L): ∀(m n i left:Nat) (q:List Int),ks.length-i≤m→m<n→i≤ks.length→q.length=L→Pos q→left≤9223372036854775807→q.sum+left≤9223372036854775807→
  fN.wO N n q (left:Int) ks (i:Int)=some (bump q ((ks.drop i).take left),0)
 |m,0,i,left,q,_,hn,_,_,_,_,_=>ω
 |m,n+1,i,left,q,hm,hn,hi,hq,hp,hle,hs=>by
  unfold fN.wO fN.vw
  by_cases h:i<ks.length
  ·have hd:ks.drop i=ks.getD i 0::ks.drop (i+1):=by
    rw[pU h,aU,bn h];rfl
   have E0:=hk _ (FP h)
   rw[aT ω,ak]
   match left,hle,hs with
   |0,hle,hs=>rw[aP ω,av,oU];rfl
   |left+1,hle,hs=>
    rw[aT ω,ak,aX ω ω,ak,aJ,aX ω ω,ak,ak,hd]
    have h1:=yX hp (ks.getD i 0).toNat
    have h2:=g4 hp (ks.getD i 0).toNat
    rw[ax (x:=q.getD _ 0+1) ω ω,ax (x:=(i:Int)+1) ω ω,ax ω ω,show((left+1:Nat):Int)-1=(left:Int)by omega]
    refine(FV N hl L hk (m-1) n (i+1) left _ ω ω ω (by rw[bN];exact hq) (aaE hp ω _) ω ?_).trans rfl
    rw[KE q _ _ ω];omega
  ·rw[aP ω,av,vC ω,List.take_nil];rfl
theorem FW(l:List Int): ∀k∈ky l,0≤k∧k<l.length:=λk hk=>(sG l).1 hk
theorem take_set(l:List Int){i:Nat}(x:Int)(h:i<l.length):(l.set i x).take (i+1)=l.take i++[x]:=by
 rw[hZ (l.set i x) (by rw[bN];exact h),mC l x h,List.take_set_of_le ω]
theorem KG{v:Int}(h0: -9223372036854775808≤v)(h1:v<9223372036854775808):Bs v=(v,true):=by unfold Bs;rw[aj ⟨h0,h1⟩]
end VM
end
section
namespace VM
open Go VM.F
theorem pd{a b:List Int}(hl:a.length=b.length)(h: ∀i,i<a.length→a.getD i 0=b.getD i 0):a=b:=by
 refine List.ext_getElem hl (λi h1 h2=> ?_)
 have:=h i h1
 rwa [aU,bn h1,aU,bn h2]at this
theorem Ss: ∀(ks q:List Int) (i:Nat),ks.Nodup→(∀k∈ks,0≤k∧k<q.length)→(bump q ks).getD i 0=q.getD i 0+(if(i:Int)∈ks then 1 else 0)
 |[],q,i,_,_=>by simp[bump]
 |k::t,q,i,hn,h=>by
  have hk:=h k (bk ..)
  rw[zw]at hn
  unfold bump
  rw[Ss t _ i hn.2 (λx hx=>by rw[bN];exact h x (aZ _ hx))]
  by_cases hik:(i:Int)=k
  ·rw[ah (by rw[hik];exact hn.1),aj (by rw[hik];exact bk ..),←hik,aJ,mC q _ ω];omega
  ·rw[getD_set_ne q _ ω]
   by_cases ht:(i:Int)∈t
   ·rw[aj ht,aj (aZ _ ht)]
   ·rw[ah ht,ah (λhc=>by rcases aW.1 hc with hc|hc;exact hik hc;exact ht hc)]
theorem NA(l:List Int):(ky l).Nodup:=(oy l l.length).imp (λ{a b} h he=>by unfold yw at h;rw[he]at h;omega)
theorem Su(t S:Int)(hS:0<S): ∀u:List Int,(ld t S u).sum≤u.length*S
 |[]=>by simp[ld]
 |x::u=>by
  have ih:=Su t S hS u
  have:=zr (t*x) hS
  unfold ld at*
  rw[bV,cy,aR,Ex,qK];simp;omega
def mH(t:Int)(w:List Int):Int:=t-(rU t w.sum w).sum
theorem left_eq(t:Int)(w:List Int):w.sum*mH t w=(ld t w.sum w).sum:=by
 have:=KF t w.sum w
 unfold mH;rw[Int.mul_sub,jW w.sum t];omega
theorem FX{t:Int}{w:List Int}(ht:0≤t)(hS:0<w.sum):0≤mH t w:=by
 have:=Xi ht hS (fH _);unfold mH;omega
theorem Sv{t:Int}{w:List Int}(hS:0<w.sum):mH t w≤w.length:=by
 have h1:=left_eq t w
 have h2:=Su t w.sum hS w
 rw[←h1,jW (w.length:Int)]at h2
 exact LP h2 hS
theorem oz(t:Int)(w:List Int):(bS t w).length=w.length:=by unfold bS;rw[Nw,wX]
theorem uO{t:Int}{w:List Int}(ht:0≤t)(hS:0<w.sum):(bS t w).sum=t:=by
 unfold bS
 have h1:=FX ht hS
 have h2:=Sv (t:=t) hS
 unfold mH at*
 rw[Ny _ _ (λk hk=>by have:=FW _ k (lM hk);rw[pb]at this;rwa [wX]),cc,yW,pb]
 omega
theorem yY{f:Int→Int}{c:Int}: ∀{o:List Int},(∀x∈o,f x≤c)→(o.map f).sum≤o.length*c
 |[],_=>by simp
 |x::o,h=>by
  have ih:=yY (f:=f) (c:=c) (o:=o) (λy hy=>h y (aZ _ hy))
  have:=h x (bk ..)
  rw[bV,cy,aR,Ex,qK];simp;omega
theorem QM{l o:List Int}(h:o.Pairwise (yw l)){m:Nat}{x y:Int}(hx:x∈o.take m)(hy:y∈o.drop m):yw l x y:=by
 rw[←gg m o,vE]at h
 exact h.2.2 x hx y hy
theorem Ug{t:Int}{w:List Int}(ht:0≤t)(hS:0<w.sum){i:Int}(hi:i∈(ky (ld t w.sum w)).take (mH t w).toNat):0<AH (ld t w.sum w) i:=by
 have Ho: ∀k:Int,0≤AH (ld t w.sum w) k:=λk=>g4 (Nz hS) _
 have e9: ∀k:Int,AH (ld t w.sum w) k≤w.sum-1:=λk=>by
  unfold AH;rw[Sr]
  have:=zr (t*w.getD k.toNat 0) hS;omega
 have h0:=Ho i
 rcases Int.lt_or_le 0 (AH (ld t w.sum w) i)with h|h
 ·exact h
 exfalso
 have HF:=QK (ld t w.sum w) (ld t w.sum w) rfl
 rw[←left_eq]at HF
 have ase:=gg (mH t w).toNat (ky (ld t w.sum w))
 rw[←ase,cY,lR]at HF
 have hd:(((ky (ld t w.sum w)).drop (mH t w).toNat).map (AH (ld t w.sum w))).sum≤((ky (ld t w.sum w)).drop (mH t w).toNat).length*0:=yY (λy hy=>by
  have:=QM (oy _ _) hi hy
  unfold yw at this;omega)
 have htk:(((ky (ld t w.sum w)).take (mH t w).toNat).map (AH (ld t w.sum w))).sum≤((ky (ld t w.sum w)).take (mH t w).toNat).length*(w.sum-1):=yY (λy _=>e9 y)
 have h1:=FX ht hS
 have h2:=Sv (t:=t) hS
 rw[cc,yW,pb,iw ω,Int.mul_sub]at htk
 rw[zA]at hd
 have h3:(((mH t w).toNat:Nat):Int)=mH t w:=ω
 have h4:0<(mH t w).toNat:=by
  rcases Nat.eq_zero_or_pos (mH t w).toNat with h|h
  ·rw[h,oU]at hi;nomatch hi
  ·exact h
 rw[h3,jW (mH t w)]at htk
 omega
def extra(t:Int)(w:List Int)(i:Nat):Int:=if(i:Int)∈(ky (ld t w.sum w)).take (mH t w).toNat then 1 else 0
theorem IX(t:Int)(w:List Int)(i:Nat):(bS t w).getD i 0=t*w.getD i 0/w.sum+extra t w i:=by
 unfold bS
 rw[Ss _ _ i ((NA _).sublist (List.take_sublist ..)) (λk hk=>by have:=FW _ k (lM hk);rw[pb]at this;rwa [wX]),Sq]
 rfl
theorem IY(t:Int)(w:List Int)(i:Nat):extra t w i=0∨extra t w i=1:=by unfold extra;split<;>omega
theorem Uh{t:Int}{w:List Int}(ht:0≤t)(hS:0<w.sum){i:Nat}(h:extra t w i=1):0<t*w.getD i 0%w.sum:=by
 unfold extra at h
 by_cases hi:(i:Int)∈(ky (ld t w.sum w)).take (mH t w).toNat
 ·have:=Ug ht hS hi
  unfold AH at this;rwa [Sr,aJ]at this
 ·rw[ah hi]at h;omega
theorem uP{t:Int}{w:List Int}(ht:0≤t)(hS:0<w.sum)(hw:Pos w):Pos (bS t w):=λx hx=>by
 obtain⟨i,hi,rfl⟩:=qy.1 hx
 have:=IX t w i
 rw[aU,bn hi]at this
 have h1:=IY t w i
 have h2:0≤t*w.getD i 0/w.sum:=s8 (vO ht (g4 hw i)) ω
 simp only[mZ]at this
 omega
theorem CO{t:Int}{w:List Int}(ht:0≤t)(hS:0<w.sum){i:Nat}(h:w.getD i 0=0):(bS t w).getD i 0=0:=by
 rw[IX,h]
 rcases IY t w i with h1|h1
 ·rw[h1];simp
 ·have:=Uh ht hS h1
  rw[h]at this;simp at this
end VM
end
