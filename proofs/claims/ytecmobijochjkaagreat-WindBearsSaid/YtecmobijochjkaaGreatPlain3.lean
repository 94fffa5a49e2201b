/- A part of the proof of WindBears of layer 21: what the functions compute, in plain words. -/
import Derived.Test.YtecmobijochjkaaGreatPlain2
import Derived.Test.YtecmobijochjkaaGreatVm6
import Derived.Test.YtecmobijochjkaaGreatPlain0
set_option linter.all false
section
namespace VM
open Go VM.F
theorem W0(N:Nat)(hN:2000000≤N){b:an}{s e:au}(w:im b)(hr:eC b.2.2.1=true)(hs:cQ b.2.2.2.1=true)(lr:b.2.2.1.length≤90000)(ls:b.2.2.2.1.length≤90000)(gs:WO s)(ge:WV e):
  F68 N b s (e.map jU)=some (ew b s e):=by
 unfold F68 ew
 rw[WZ N w,ar,aan N hN hs ls w.qs gs,WW N hN hr lr w.qr ge,T3 hs gs.place,WY hr ge.key]
 unfold uU
 rw[ar,ar]
 have e1:aO 2 0=false:=dX ω
 have e2:aO 0 0=true:=dP rfl
 cases eh Fq (fS b.2.2.2.1 s) jC with
 |none=>dsimp only;rw[e1];rfl
 |some s'=>
  cases eh aD (fS b.2.2.1 e) nC with
  |none=>dsimp only;rw[e1,e2];rfl
  |some r'=>dsimp only;rw[e2];rfl
theorem Sm(N:Nat)(C:eH.ca){l:aL}(hl:l.length≤100000)(i:Nat)(hi:i<l.length): ∀(m n k:Nat),i-k≤m→m<n→k≤i→(l.take k).any (rp (l.getD i aV).2.2.1 (l.getD i aV).2.1)=false→
  eH.l9 N C n l (i:Int) (k:Int)=cond ((l.take i).any (rp (l.getD i aV).2.2.1 (l.getD i aV).2.1)) (some false) (C l ((i+1:Nat):Int))
 |m,0,k,_,hn,_,_=>ω
 |m,n+1,k,hm,hn,hk,hb=>by
  unfold eH.l9 eH.xK
  by_cases h:k<i
  ·have wX:=Sm N C hl i hi (m-1) n (k+1) ω ω ω
   have ht:(l.take (k+1)).any (rp (l.getD i aV).2.2.1 (l.getD i aV).2.1)=rp (l.getD i aV).2.2.1 (l.getD i aV).2.1 (l.getD k aV):=by
    have ek:l.getD k aV=l[k]' ω:=by rw[aU,bl (show k<l.length by omega)];rfl
    rw[←pX (show k<l.length by omega),List.any_append,hb,ek,List.any_cons,List.any_nil,tx,tv]
   have lW:rp (l.getD i aV).2.2.1 (l.getD i aV).2.1 (l.getD k aV)=true→(l.take i).any (rp (l.getD i aV).2.2.1 (l.getD i aV).2.1)=true:=λhh=>by
    refine zE.2 ⟨l.getD k aV,?_,hh⟩
    rw[aU,bl (show k<l.length by omega)]
    exact List.mem_take_iff_getElem.2 ⟨k,ω,rfl⟩
   rw[aT ω,aq,a6 ω ω,aq,a6 ω ω,aq,aq,aq,aJ,aJ,aN,aN,ay (x:=(k:Int)+1) ω ω,ag k]
   by_cases h1:(l.getD k aV).2.2.1=(l.getD i aV).2.2.1
   ·by_cases h2:(l.getD k aV).2.1=(l.getD i aV).2.1
    ·rw[aj h1,aj h2,lW (by unfold rp dw;rw[bs h1,bs h2];rfl)];rfl
    ·rw[aj h1,ah h2]
     exact wX (by rw[ht];unfold rp dw;rw[cm h2,EE])
   ·rw[ah h1]
    exact wX (by rw[ht];unfold rp dw;rw[cm h1,wc])
  ·have:k=i:=ω
   subst this
   rw[aP ω,av,hb,av,ay (x:=(k:Int)+1) ω ω,ag k]
theorem tW(N:Nat){l:aL}(hl:l.length≤100000)(hN:200000≤N):eH N l=some (WL l):=by
 unfold eH eH.b WL
 by_cases h40:l.length≤40
 ·rw[aP ω,av,bs h40]
  refine iz (F:=λn i=>eH.l4 N n l i) (AB l) (λn i r hi hp hr=> ?_) (λn=> ?_) N ω
  ·unfold eH.l4 eH.eK eH.j8 eH.W1
   have lW:eH.l9 N (eH.l4 N n) N l (i:Int) 0=_:=Sm N (eH.l4 N n) hl i hi i N 0 ω ω ω rfl
   rw[aT ω,aq,a6 ω ω,aq,aq,aJ,Se,ar,cond_not,gh,lW,hr]
   have hT:cond ((l.take i).any (rp (l.getD i aV).2.2.1 (l.getD i aV).2.1)) (some false) r=if(l.take i).any (rp (l.getD i aV).2.2.1 (l.getD i aV).2.1)=false then r else some false:=by
    cases(l.take i).any (rp (l.getD i aV).2.2.1 (l.getD i aV).2.1)<;>rfl
   rw[hT]
   by_cases hK:IH (l.getD i aV)
   ·rw[aj hK]
    have hD:(if AB l i then r else some false)=if tQ i (l.getD (i-1) aV).1 (l.getD i aV).1 then(if(l.take i).any (rp (l.getD i aV).2.2.1 (l.getD i aV).2.1)=false then r else some false)else some false:=by
     by_cases h1:tQ i (l.getD (i-1) aV).1 (l.getD i aV).1<;>by_cases h2:(l.take i).any (rp (l.getD i aV).2.2.1 (l.getD i aV).2.1)=false
     ·rw[aj h1,aj h2,aj ⟨hK,h1,h2⟩]
     ·rw[aj h1,ah h2,ah (λh=>h2 h.2.2)]
     ·rw[ah h1,ah (λh=>h1 h.2.1)]
     ·rw[ah h1,ah (λh=>h1 h.2.1)]
    rw[hD]
    by_cases h0:0<i
    ·have e:W .i64 ((i:Int)-1)=((i-1:Nat):Int):=by rw[ay ω ω];omega
     rw[aT (x:=0) (y:=(i:Int)) ω,aq,e]
     dsimp only
     rw[aJ,a6 ω ω,aq,cG]
     by_cases h1:tQ i (l.getD (i-1) aV).1 (l.getD i aV).1
     ·rw[aj h1,ah (by unfold tQ at h1;omega)]
     ·rw[ah h1,aj (by unfold tQ at h1;omega)]
    ·rw[aP (x:=0) (y:=(i:Int)) ω,av,aj (show tQ i (l.getD (i-1) aV).1 (l.getD i aV).1 from λh=>absurd h h0)]
   ·rw[ah hK,ah (λh=>hK h.1)]
  ·unfold eH.l4 eH.eK
   rw[aP ω,av]
 ·rw[aT ω,aq,cm h40,EE]
end VM
end
section
namespace VM
open Go VM.F
def uZ(s w p:Int):Prop:=((s=1∨s=3)∧w=0∧p=0)∨(s=2∧1≤w∧w≤12∧ -1152921504606846976≤p∧p≤1152921504606846976)
instance(s w p:Int):Decidable (uZ s w p):=by unfold uZ;infer_instance
def FP(a:Int):Prop:=1≤a∧a≤1099511627776
instance(a:Int):Decidable (FP a):=by unfold FP;infer_instance
def W2(a b:Int):Prop:=a≤b
instance(a b:Int):Decidable (W2 a b):=by unfold W2;infer_instance
def D7(c:ae)(l:bA)(i:Nat):Prop:=
 FP (l.getD i ((0:Int),(cn,aV))).1∧tQ i (l.getD (i-1) ((0:Int),(cn,aV))).1 (l.getD i ((0:Int),(cn,aV))).1∧ ¬dw ((l.getD i ((0:Int),(cn,aV))).2.1.length:Int) 0∧kq c (l.getD i ((0:Int),(cn,aV))).2.1=true∧W2 (l.getD i ((0:Int),(cn,aV))).2.2.1 0∧uZ (l.getD i ((0:Int),(cn,aV))).2.2.2.1 (l.getD i ((0:Int),(cn,aV))).2.2.2.2.1 (l.getD i ((0:Int),(cn,aV))).2.2.2.2.2.1
instance(c:ae)(l:bA):DecidablePred (D7 c l):=λi=>by unfold D7;infer_instance
def BO(c:ae)(l:bA):Bool:=fB c&&(decide (l.length≤12)&&(decide (∀j,j<l.length→D7 c l j)&&true))
def IW(l:bA):Prop:= ∀x∈l,x.2.1.length≤100000
theorem QB{l:bA}(h:IW l)(i:Nat):(l.getD i ((0:Int),(cn,aV))).2.1.length≤100000:=by
 by_cases hi:i<l.length
 ·rw[aU,bl hi];exact h _ (dA hi)
 ·rw[aU,gI ω];exact bp _
theorem aas(s w p:Int)(r:Option Bool):
  cond (aO s 1) (cond (!aO w 0) (some false) (cond (!aO p 0) (some false) r)) (cond (aO s 3) (cond (!aO w 0) (some false) (cond (!aO p 0) (some false) r)) (cond (aO s 2) (cond (aZ w 1) (some false) (cond (aZ 12 w) (some false) (cond (aZ p (-1152921504606846976)) (some false) (cond (aZ 1152921504606846976 p) (some false) r)))) (some false)))=
   if uZ s w p then r else some false:=by
 simp only[cond_not,aN,cR]
 by_cases h:uZ s w p
 ·rw[aj h];unfold uZ at h
  repeat' split
  all_goals first|rfl|omega
 ·rw[ah h];unfold uZ at h
  repeat' split
  all_goals first|rfl|omega
theorem T8{A B C D E F:Prop} [Decidable A] [Decidable B] [Decidable C] [Decidable D] [Decidable E] [Decidable F](r:Option Bool):
  (if A then(if B then(if C then(if D then(if E then(if F then r else some false)else some false)else some false)else some false)else some false)else some false)=if A∧B∧C∧D∧E∧F then r else some false:=by
 by_cases hA:A<;>by_cases hB:B<;>by_cases hC:C<;>by_cases hD:D<;>by_cases hE:E<;>by_cases hF:F<;>simp only[hA,hB,hC,hD,hE,hF,gD,eU,and_self,eT,and_false,false_and,true_and]
theorem W3{a b n f s w p:Int}{i:Nat}{o:Bool}{r:Option Bool}:
  cond (aZ a 1) (some false) (cond (aZ 1099511627776 a) (some false) (if tQ i b a then(cond (aO n 0) (some false) (cond (!o) (some false) (cond (aZ 0 f) (some false) (if uZ s w p then r else some false))))else some false))=
   if FP a∧tQ i b a∧ ¬dw n 0∧o=true∧W2 f 0∧uZ s w p then r else some false:=by
 rw[←T8]
 simp only[cond_not,aN,cR]
 by_cases h1:FP a
 ·have pC:=h1
  unfold FP at pC
  rw[aj h1,ah ω,ah ω]
  by_cases h2:tQ i b a
  ·rw[aj h2,aj h2]
   by_cases h3:n=0
   ·rw[aj h3,ah (show ¬ ¬dw n 0 from λh=>h h3)]
   ·rw[ah h3,aj (show ¬dw n 0 from h3)]
    cases o
    ·rfl
    ·rw[aq,aj rfl]
     by_cases h4:f≤0
     ·rw[aj (show W2 f 0 from h4),ah ω]
     ·rw[ah (show ¬W2 f 0 from h4),aj ω]
  ·rw[ah h2,ah h2]
 ·have pC:=h1
  unfold FP at pC
  rw[ah h1]
  by_cases h2:a<1
  ·rw[aj h2]
  ·rw[ah h2,aj ω]
theorem W4{i:Nat}{a b:Int}{r:Option Bool}(h0:0<i):cond (dk a b) (some false) r=if tQ i b a then r else some false:=by
 rw[cG]
 by_cases h1:tQ i b a
 ·rw[aj h1,ah (by unfold tQ at h1;omega)]
 ·rw[ah h1,aj (by unfold tQ at h1;omega)]
theorem AL(N:Nat)(hN:200000≤N)(c:ae){l:bA}(hl:l.length≤100000)(hw:IW l):iW N c l=some (BO c l):=by
 unfold iW iW.b BO
 rw[nn N ω,ar]
 cases fB c
 ·rfl
 rw[bt,av,m4]
 by_cases h12:l.length≤12
 ·rw[aP ω,av,bs h12,m4]
  refine iz (F:=λn i=>iW.l4 N n l c i) (D7 c l) (λn i r hi hp hr=> ?_) (λn=> ?_) N ω
  ·unfold iW.l4 iW.eK iW.j9 iW.Nl
   rw[aT ω,aq,a6 ω ω,aq,aJ,w6 N hN c (QB hw i),ar,ay (x:=(i:Int)+1) ω ω,ag i,hr,aas]
   refine Eq.trans ?_ W3
   by_cases h0:0<i
   ·have e:W .i64 ((i:Int)-1)=((i-1:Nat):Int):=by rw[ay ω ω];omega
    rw[aT (x:=0) (y:=(i:Int)) ω,aq,e]
    dsimp only
    rw[aJ,a6 ω ω,aq,W4 h0]
   ·rw[aP (x:=0) (y:=(i:Int)) ω,av,aj (show tQ i (l.getD (i-1) ((0:Int),(cn,aV))).1 (l.getD i ((0:Int),(cn,aV))).1 from λh=>absurd h h0)]
  ·unfold iW.l4 iW.eK
   rw[aP ω,av]
 ·rw[aT ω,aq,cm h12,wc]
end VM
end
section
namespace VM
open Go VM.F
abbrev AwS:=au×au×bA
def CT(a:Int):Prop:=0≤a∧a<6
structure FQ(t:aE):Prop where
 len:t.length≤6
 inst: ∀y∈t,CT y.1
 q: ∀y∈t,aD y.2.1∧p8 y.2.1
theorem IX{c:ae}{t:aE}(h:kq c t=true)(nV: ∀y∈t,aD y.2.1):FQ t:=by
 unfold kq at h
 obtain⟨h1,h2⟩:=cK.1 h
 have pC:=bz h1
 have h6:c.1.length≤6:=by
  unfold fB at h2
  exact(bz (cK.1 h2).1).2
 have get: ∀(i:Nat) (hi:i<t.length),t.getD i cA=t[i]:=λi hi=>by rw[aU,bl hi];rfl
 have PX: ∀i,i<t.length→nu (t.getD i cA).1 (t.getD i cA).2.1 c.1.length i (t.getD (i-1) cA).1:=pC
 have inc: ∀i,i<t.length→(i:Int)≤(t.getD i cA).1:=by
  intro i
  induction i with
  |zero=>intro hi;exact(PX 0 hi).1
  |succ i ih=>
   intro hi
   have a:=ih ω
   have b:=(PX (i+1) hi).2.2.2.2 ω
   rw[Nat.add_sub_cancel]at b
   have g: ∀x y:Int,(i:Int)≤x→x<y→((i+1:Nat):Int)≤y:=λx y _ _=>ω
   exact g _ _ a b
 refine⟨?_,λy hy=> ?_,λy hy=> ?_⟩
 ·by_cases h0:t.length=0
  ·omega
  ·have a:=inc (t.length-1) ω
   have b:=(PX (t.length-1) ω).2.1
   have g: ∀x:Int,((t.length-1:Nat):Int)≤x→x<(c.1.length:Int)→t.length≤6:=λx _ _=>ω
   exact g _ a b
 ·obtain⟨i,hi,e⟩:=gm hy
  have:=PX i hi
  rw[get i hi,e]at this
  have g: ∀x:Int,0≤x→x<(c.1.length:Int)→CT x:=λx _ _=>by unfold CT;omega
  exact g _ this.1 this.2.1
 ·obtain⟨i,hi,e⟩:=gm hy
  have:=PX i hi
  rw[get i hi,e]at this
  exact⟨nV y hy,this.2.2.2.1⟩
structure af4(z:AwS)(i:Nat):Prop where
 place: ∀x∈z.1,bG x.1 x.2.1
 q: ∀x∈z.1,aD (ed x)∧p8 (ed x)
 len:z.1.length≤12*i
 flat: ∀a:Int,(c6 a z.1).sum=0
 key: ∀x∈z.2.1,cS x.1 x.2.1
 qe: ∀x∈z.2.1,aD (ed x)
 azc:z.2.1.length≤2*i
 zero:(z.2.1.map ed).sum=0
 out:z.2.2.length=i
theorem yI(a:Int)(l m:au):c6 a (l++m)=c6 a l++c6 a m:=by
 induction l with
 |nil=>rfl
 |cons x t ih=>
  rw[kJ,df,df,ih]
  split<;>rfl
theorem T9{v:Int}(h:aD v∧p8 v):aD (0-v)∧p8 (0-v):=by
 unfold aD p8 at*;omega
theorem af4.nil:af4 ([],[],[]) 0:=⟨λx hx=>(nomatch hx),λx hx=>(nomatch hx),aG _,λa=>rfl,λx hx=>(nomatch hx),λx hx=>(nomatch hx),aG _,rfl,rfl⟩
end VM
end
section
namespace VM
open Go VM.F
theorem eF{c:ae}{b:an}(h:dx c b=true):eC b.2.2.1=true∧cQ b.2.2.2.1=true:=by
 unfold dx at h
 have h1:=(cK.1 (cK.1 h).2).2
 have h2:=cK.1 h1
 have h3:=(cK.1 (cK.1 h2.2).2).1
 refine⟨h2.1,?_⟩
 unfold ov at h3
 exact(cK.1 h3).2
structure AN(b:an):Prop where
 w:im b
 r:b.2.2.1.length≤90000
 s:b.2.2.2.1.length≤90000
end VM
end
section
namespace VM
open Go VM.F
end VM
end
section
namespace VM
open Go VM.F
theorem W5(x:Int):aO x x=true:=dP rfl
theorem FR{P:Int→Prop} [DecidablePred P]{f:Int→Int→Int}: ∀{K:List cX} {o:au},eh P f K=some o→o.length≤K.length
 |[],o,h=>by
  have:some []=some o:=h
  rw[←oJ this];exact aG _
 |k::t,o,h=>by
  rw[kS]at h
  by_cases hP:P (f k.1 k.2)
  ·rw[aj hP]at h
   cases hc:eh P f t with
   |none=>rw[hc]at h;exact absurd h (by simp)
   |some r=>
    have ih:=FR hc
    rw[hc]at h
    have h':=oJ h
    rw[←h',aR]
    dsimp only
    split
    ·omega
    ·rw[aR];omega
  ·rw[ah hP]at h;exact absurd h (by simp)
theorem QC:jC.length=150:=by decide+kernel
theorem Ua:nC.length=175:=by decide+kernel
structure W6(b:an):Prop where
 m:b.1.length≤100000
 a:b.2.1.length≤100000
 r:b.2.2.1.length≤100000
 s:b.2.2.2.1.length≤100000
 p:b.2.2.2.2.1.length≤100000
 o:b.2.2.2.2.2.1.length≤100000
theorem xO:W6 (([]:aE),(([]:aL),(([]:au),(([]:au),(([]:List Int),(([]:bB),())))))):=⟨bp _,bp _,bp _,bp _,bp _,bp _⟩
theorem Ny{b:an}(w:im b)(s e:au):W6 (ew b s e).1:=by
 unfold ew
 cases h1:eh Fq (fS b.2.2.2.1 s) jC with
 |none=>exact xO
 |some s'=>
  cases h2:eh aD (fS b.2.2.1 e) nC with
  |none=>exact xO
  |some r'=>
   have g1:=FR h1
   have g2:=FR h2
   rw[QC]at g1
   rw[Ua]at g2
   exact⟨w.m,w.a,by show r'.length≤_;omega,by show s'.length≤_;omega,w.p,w.o⟩
end VM
end
section
namespace VM
open Go VM.F Go.RowKit
def gu(a b:Int):au→Int
 |[]=>0
 |x::t=>if x.1=a then(if x.2.1=b then x.2.2.1 else gu a b t)else gu a b t
theorem g8(a b:Int)(x:dh)(t:au):gu a b (x::t)=if x.1=a then(if x.2.1=b then x.2.2.1 else gu a b t)else gu a b t:=rfl
def dN(l:au)(a b:Int):Int:=if cQ l then gu a b l else 0
def ej(l:au)(a b:Int):Int:=if eC l then gu a b l else 0
theorem AO(N:Nat){l:au}(hl:l.length≤100000)(hN:200000≤N)(a b:Int):Bk N l a b=some (dN l a b):=by
 unfold Bk Bk.b dN
 rw[kQ N hl hN,ar,cond_not]
 have:=Av l bm (λn i=>Bk.l4 N n l a b i) (λt=>some (gu a b t)) (λn i hi hr=> ?_) (λn=> ?_) N ω
 ·rw[this];cases cQ l<;>rfl
 ·unfold Bk.l4 Bk.eK
  rw[aT ω,aq,a6 ω ω,aq,aq,aq,aJ,ay (x:=(i:Int)+1) ω ω,ag i,hr,aN,aN,g8]
  split
  ·split<;>rfl
  ·rfl
 ·unfold Bk.l4 Bk.eK
  rw[aP ω,av];rfl
theorem s8(N:Nat){l:au}(hl:l.length≤100000)(hN:200000≤N)(a b:Int):s9 N l a b=some (ej l a b):=by
 unfold s9 s9.b ej
 rw[FG N hl hN,ar,cond_not]
 have:=Av l bm (λn i=>s9.l4 N n l a b i) (λt=>some (gu a b t)) (λn i hi hr=> ?_) (λn=> ?_) N ω
 ·rw[this];cases eC l<;>rfl
 ·unfold s9.l4 s9.eK
  rw[aT ω,aq,a6 ω ω,aq,aq,aq,aJ,ay (x:=(i:Int)+1) ω ω,ag i,hr,aN,aN,g8]
  split
  ·split<;>rfl
  ·rfl
 ·unfold s9.l4 s9.eK
  rw[aP ω,av];rfl
theorem D8{l:au}(h: ∀i,i<l.length→aD (ed (l.getD i bm))):dT l:=λx hx=>by
 obtain⟨i,hi,e⟩:=gm hx
 have:=h i hi
 rw[aU,bl hi]at this
 rw[←e];exact this
namespace Pure
end Pure
end VM
end
section
namespace VM
open Go VM.F
theorem aat(N:Nat){x:Int}(h:aD x):F66 N (dQ x)=some (dQ (-x),true):=by
 unfold F66 ahT dQ
 unfold aD at h
 dsimp only
 rw[vu,vu,wO N ω ω ω ω ω ω,ar]
 dsimp only
 have hb:(0:Int)≤(if(0:Int)<x%18446744073709551616+0 then 1 else 0)∧(if(0:Int)<x%18446744073709551616+0 then(1:Int)else 0)≤1:=by split<;>omega
 rw[wO N ω ω ω ω hb.1 hb.2,ar]
 dsimp only
 have key: ∀{z:cC},z=dQ (-x)→((some (z,true):Option (cC×Bool)).bind λr1=>some (r1.1,r1.2))=some (dQ (-x),true):=λe=>by rw[e];rfl
 by_cases h0:x=0
 ·subst h0
  rw[ah ω,ay ω ω,aP (x:=0) (y:=0) ω,aP (x:=0/18446744073709551616) ω]
  simp only[o6,tk,bt,av]
  refine key (wmk ?_ ?_)<;>omega
 ·rw[aj ω]
  by_cases h1:0<x
  ·rw[aP (x:=0) (y:=0) ω,aP (x:=x/18446744073709551616) ω]
   simp only[o6,tk,bt,av]
   refine key (wmk ?_ ?_)
   ·rw[iN];split<;>omega
   ·omega
  ·have e:W .i64 ((0%18446744073709551616-x/18446744073709551616%18446744073709551616-1)%18446744073709551616)=0:=by rw[iN];split<;>omega
   rw[e,aP (x:=0) (y:=0) ω,aT (x:=x/18446744073709551616) ω,o6,o6]
   refine key (wmk ?_ ?_)<;>omega
theorem Sn(N:Nat){l:au}(hl:l.length≤100000)(hN:200000≤N)(a b:Int):BP N l a b=some (ej l a b):=by
 unfold BP BP.b ej
 rw[D3 N hl hN,ar,cond_not]
 have:=Av l bm (λn i=>BP.l4 N n a b l (l.length:Int) i) (λt=>some (gu a b t)) (λn i hi hr=> ?_) (λn=> ?_) N ω
 ·rw[this];cases eC l<;>rfl
 ·unfold BP.l4 BP.eK
  rw[aT ω,aq,a6 ω ω,aq,aJ,ay (x:=(i:Int)+1) ω ω,ag i,hr,aN,aN,g8]
  split
  ·split<;>rfl
  ·rfl
 ·unfold BP.l4 BP.eK
  rw[aP ω,av];rfl
theorem FT{l:au}(h:dT l)(a b:Int):aD (gu a b l):=by
 induction l with
 |nil=>show aD 0;decide
 |cons x t ih=>
  have ih:=ih (λy hy=>h y (aY _ hy))
  rw[g8]
  split
  ·split
   ·exact h x (bg ..)
   ·exact ih
  ·exact ih
theorem pd{l:au}(h:dT l)(a b:Int):aD (ej l a b):=by
 unfold ej
 split
 ·exact FT h a b
 ·exact⟨δ,δ⟩
def gQ(a:Int):au→aE
 |[]=>[]
 |x::t=>if x.1=a then(x.2.1,(x.2.2.1,()))::gQ a t else gQ a t
theorem ku(a:Int)(x:dh)(t:au):gQ a (x::t)=if x.1=a then(x.2.1,(x.2.2.1,()))::gQ a t else gQ a t:=rfl
def posOf(l:au)(a:Int):aE:=if cQ l then gQ a l else []
theorem FU(a:Int): ∀l:au,(gQ a l).length≤l.length
 |[]=>aG _
 |x::t=>by
  have:=FU a t
  rw[ku,aR]
  split
  ·rw[aR];omega
  ·omega
theorem BQ(a:Int)(l:au):(posOf l a).length≤l.length:=by
 unfold posOf
 split
 ·exact FU a l
 ·exact bp _
theorem iq{a:Int}{y:ym}: ∀{l:au},y∈gQ a l→ ∃x∈l,x.1=a∧y=(x.2.1,(x.2.2.1,()))
 |[],h=>nomatch h
 |x::t,h=>by
  rw[ku]at h
  by_cases e:x.1=a
  ·rw[aj e]at h
   rcases aX.1 h with h|h
   ·exact⟨x,bg ..,e,h⟩
   ·obtain⟨x',hx,h'⟩:=iq h
    exact⟨x',aY _ hx,h'⟩
  ·rw[ah e]at h
   obtain⟨x',hx,h'⟩:=iq h
   exact⟨x',aY _ hx,h'⟩
theorem AP{l:au}(h:dT l)(a:Int): ∀y∈posOf l a,aD y.2.1:=λy hy=>by
 unfold posOf at hy
 split at hy
 ·obtain⟨x,hx,_,rfl⟩:=iq hy
  exact h x hx
 ·nomatch hy
theorem af5(N:Nat){l:au}(hl:l.length≤100000)(hN:200000≤N)(a:Int):BR N l a=some (posOf l a):=by
 unfold BR BR.b posOf
 rw[wY N hl hN,ar,cond_not]
 have:=om l bm (λn i s=>BR.l5 N n a s l (l.length:Int) i) (λt s=>some (s++gQ a t)) (λi (s:aE)=>s.length≤i) (λn i s hi hI hr=> ?_) (λn s hI=> ?_) l.length N 0 [] ω ω ω (aG _)
 ·have e:BR.l5 N N a [] l (l.length:Int) 0=some (gQ a l):=this
  rw[e];cases cQ l<;>rfl
 ·unfold BR.l5 BR.eg
  rw[aT ω,aq,a6 ω ω,aq,aJ,ay (x:=(i:Int)+1) ω ω,ag i,aN,bL (by rw[aI];omega),aq,ku]
  split
  ·rw[hr _ (by rw[aS,aI];omega),bu];rfl
  ·exact hr s ω
 ·unfold BR.l5 BR.eg
  rw[aP ω,av]
  show some s=some (s++[])
  rw[ck]
theorem QD(N:Nat){l:au}(hl:l.length≤100000)(hN:200000≤N)(a:Int):lH N l a=some (posOf l a):=by
 unfold lH lH.b posOf
 rw[kQ N hl hN,ar,cond_not]
 have:=om l bm (λn i s=>lH.l5 N n l a s i) (λt s=>some (s++gQ a t)) (λi (s:aE)=>s.length≤i) (λn i s hi hI hr=> ?_) (λn s hI=> ?_) l.length N 0 [] ω ω ω (aG _)
 ·have e:lH.l5 N N l a [] 0=some (gQ a l):=this
  rw[e];cases cQ l<;>rfl
 ·unfold lH.l5 lH.eg
  rw[aT ω,aq,a6 ω ω,aq,aq,aq,aJ,ay (x:=(i:Int)+1) ω ω,ag i,aN,bL (by rw[aI];omega),aq,ku]
  split
  ·rw[hr _ (by rw[aS,aI];omega),bu];rfl
  ·exact hr s ω
 ·unfold lH.l5 lH.eg
  rw[aP ω,av]
  show some s=some (s++[])
  rw[ck]
def lf(c:ae)(y:ym):Int:=(c.1.getD y.1.toNat aV).2.2.2.1
def AQ(c:ae)(l:aE):List Int:=l.map λy=>(y.2.1.natAbs:Int)*lf c y
def kv(c:ae)(l:aE):Int:=if kq c l then(AQ c l).sum else 0
def AS(c:ae)(l:aE):Int:=if kq c l then 0 else 1
def qb(a n:Int):Prop:=0≤a∧a<n
structure ahU(c:ae)(y:ym):Prop where
 place:qb y.1 c.1.length
 size:(y.2.1.natAbs:Int)≤9223372036854775807
 q:aD y.2.1
 aau:0≤lf c y∧lf c y≤1000000000
theorem KH{c:ae}{t:aE}(h:kq c t=true)(nV: ∀y∈t,aD y.2.1): ∀y∈t,ahU c y:=λy hy=>by
 unfold kq at h
 obtain⟨h1,h2⟩:=cK.1 h
 obtain⟨i,hi,e⟩:=gm hy
 have a:=bz h1 i hi
 unfold mG nu at a
 rw[aU,bl hi]at a
 simp only[m1,e]at a
 have hp:qb y.1 c.1.length:=⟨a.1,a.2.1⟩
 have fb:y.1.toNat<c.1.length:=by
  have g: ∀x:Int,qb x c.1.length→x.toNat<c.1.length:=λx hx=>by unfold qb at hx;omega
  exact g _ hp
 have hq:=nV y hy
 refine⟨hp,?_,hq,?_⟩
 ·have g: ∀x:Int,aD x→p8 x→(x.natAbs:Int)≤9223372036854775807:=λx h1 h2=>by unfold aD at h1;unfold p8 at h2;omega
  exact g _ hq a.2.2.2.1
 ·unfold fB at h2
  have b:=bz (cK.1 (cK.1 h2).2).1 _ fb
  exact b.2.2.2
theorem FV{c:ae}{y:ym}(h:ahU c y):0≤(y.2.1.natAbs:Int)*lf c y∧(y.2.1.natAbs:Int)*lf c y≤9223372036854775807000000000:=by
 have:=mul_lt (a:=(y.2.1.natAbs:Int)) (b:=lf c y) (m:=9223372036854775807) (n:=1000000000) ω h.aau.1 h.size h.aau.2
 exact⟨this.1,by have:=this.2;omega⟩
theorem So{B:Int}(hB:0≤B): ∀{ws:List Int},(∀x∈ws,0≤x∧x≤B)→0≤ws.sum∧ws.sum≤B*(ws.length:Int)
 |[],_=>by simp
 |x::t,h=>by
  have h0:=h x (bg ..)
  have ih:=So hB (ws:=t) (λy hy=>h y (aY _ hy))
  rw[cz,aR]
  have e:B*((t.length+1:Nat):Int)=B*(t.length:Int)+B:=by rw[ED,jY];simp
  rw[e]
  omega
theorem Ub{c:ae}{t:aE}(h: ∀y∈t,ahU c y): ∀x∈AQ c t,0≤x∧x≤9223372036854775807000000000:=λx hx=>by
 obtain⟨y,hy,rfl⟩:=cD.1 hx
 exact FV (h y hy)
theorem ry{c:ae}{t:aE}(nV: ∀y∈t,aD y.2.1):0≤kv c t∧kv c t≤92233720368547758070000000000:=by
 unfold kv
 by_cases h:kq c t=true
 ·rw[aj h]
  have hg:=(IX h nV).len
  have:=So ω (Ub (KH h nV))
  have hl:(AQ c t).length=t.length:=cy ..
  rw[hl]at this
  omega
 ·rw[ah h];omega
theorem KI{x:Int}(h:0≤x∧x≤92233720368547758070000000000):dm x:=by unfold dm;omega
theorem aav(N:Nat)(hN:2000000≤N)(c:ae){t:aE}(hl:t.length≤100000)(nV: ∀y∈t,aD y.2.1):F89 N c t=some (dQ (kv c t),AS c t):=by
 have Y0:=ry (c:=c) nV
 unfold F89 pI pI.b
 rw[aah N ω c hl,ar,cond_not]
 unfold kv AS at*
 by_cases h:kq c t=true
 ·have hC:=KH h nV
  rw[h,aj rfl]at Y0
  rw[h,aq,aj rfl,aj rfl]
  have:=om t cA (λn i ws=>pI.l5 N n () c cA (ws.map dQ) t (t.length:Int) i) (λu ws=>some ((FD (ws++AQ c u).sum).1,(0:Int))) (λi (ws:List Int)=>ws.length≤i∧ ∀x∈ws,dm x)
   (λn i ws hi hI hr=> ?_) (λn ws hI=> ?_) t.length N 0 [] ω ω ω ⟨aG _,λx hx=>nomatch hx⟩
  ·have e:pI.l5 N N () c cA [] t (t.length:Int) 0=some ((FD (AQ c t).sum).1,(0:Int)):=this
   rw[e]
   unfold FD
   rw[aj (KI Y0)];rfl
  ·unfold pI.l5 pI.eg ahV
   have hm:t.getD i cA∈t:=by
    rw[aU,bl hi];exact dA hi
   have hy:=hC _ hm
   have h1:=FV hy
   have hq:=hy.q
   unfold aD at hq
   have hp:=hy.place
   have hs:=hy.size
   have hrt:=hy.aau
   unfold lf at hrt
   rw[aT ω,aq,a6 ω ω,aq,aJ,Kq N hq.1 hq.2,ar,a6 hp.1 hp.2,aq,ar,ay (x:=((t.getD i cA).2.1.natAbs:Int)) ω ω,Z7 N ω ω (fI δ hrt.1) (qI hrt.2 δ),ar,bL (by rw[cy,aI];omega),aq,ay (x:=(i:Int)+1) ω ω,ag i]
   have:=hr (ws++[((t.getD i cA).2.1.natAbs:Int)*lf c (t.getD i cA)]) ⟨by rw[aS,aI];omega,ru hI.2 (KI ⟨h1.1,ω⟩)⟩
   rw[cZ]at this
   refine this.trans ?_
   rw[bu];rfl
  ·unfold pI.l5 pI.eg
   rw[aP ω,av,D2 N hI.2 ω ω,ar]
   show _=some ((FD (ws++[]).sum).1,(0:Int))
   rw[ck]
 ·rw[m0]at h
  rw[h,av];rfl
theorem W7(N:Nat)(hN:4000000≤N)(c:ae){t:aE}(hl:t.length≤100000)(nV: ∀y∈t,aD y.2.1):QE N c t=some (cP (kv c t),AS c t):=by
 unfold QE lI lI.b
 rw[w6 N ω c hl,ar,cond_not]
 unfold kv AS
 by_cases h:kq c t=true
 ·have hC:=KH h nV
  have hg:=(IX h nV).len
  rw[h,aj rfl,aq,aj rfl]
  have:=om t cA (λn i ws=>lI.l5 N n t true c (cP 0) (cP ws.sum) i) (λu ws=>some (cP (ws++AQ c u).sum,(0:Int))) (λi (ws:List Int)=>ws.length≤i∧ ∀x∈ws,dm x)
   (λn i ws hi hI hr=> ?_) (λn ws hI=> ?_) t.length N 0 [] ω ω ω ⟨aG _,λx hx=>nomatch hx⟩
  ·rw[show((0:Nat):Int)=0 from rfl,c0,iI,gU]at this
   rw[this];rfl
  ·unfold lI.l5 lI.eg
   have hm:t.getD i cA∈t:=by
    rw[aU,bl hi];exact dA hi
   have hy:=hC _ hm
   have h1:=FV hy
   have hq:=hy.q
   unfold aD at hq
   have hp:=hy.place
   have hs:=hy.size
   have hrt:=hy.aau
   have hb:=Ku hI.2
   have hfq:=Fit.i64 hq.1 hq.2
   have hfn:Fit ((t.getD i cA).2.1.natAbs:Int) 2:=Fit.i64 ω ω
   have VT:Fit (lf c (t.getD i cA)) 2:=Fit.i64 (fI δ hrt.1) (qI hrt.2 δ)
   unfold lf at hrt VT
   have QA:dm (((t.getD i cA).2.1.natAbs:Int)*lf c (t.getD i cA)):=KI ⟨h1.1,ω⟩
   rw[aT ω,aq,a6 ω ω,aq,aJ,a6 hp.1 hp.2,aq,aq,aq,aq,aq,cv N ω hq.1 hq.2,ar,Aq N ω (hfq.mono ω),ar,cv N ω (fI δ hrt.1) (qI hrt.2 δ),ar,tO N ω (hfn.mono ω) (VT.mono ω),ar]
   have Hu:xJ N (cP ws.sum) (cP (((t.getD i cA).2.1.natAbs:Int)*(c.1.getD (t.getD i cA).1.toNat aV).2.2.2.1))=some (cP (ws.sum+((t.getD i cA).2.1.natAbs:Int)*lf c (t.getD i cA))):=g5 N ω (KG (n:=ws.length) ω hb.1 hb.2) (AK QA)
   rw[Hu,ar,ay (x:=(i:Int)+1) ω ω,ag i]
   have:=hr (ws++[((t.getD i cA).2.1.natAbs:Int)*lf c (t.getD i cA)]) ⟨by rw[aS,aI];omega,ru hI.2 QA⟩
   rw[lT,cz,iI,fY,bu]at this
   exact this
  ·unfold lI.l5 lI.eg
   rw[aP ω,av]
   show _=some (cP (ws++[]).sum,(0:Int))
   rw[ck]
 ·rw[m0]at h
  rw[h,av,←gU];rfl
end VM
end
section
namespace VM
open Go VM.F
def lY(m s:Int):Int:=if m≤0 then 0 else if s<m then s else m
def lJ(c:ae)(b:an)(a:Int):Int×Int:=
 if dx c b then(if(fe b.2.1 a).2 then(lY (ej b.2.2.1 5 a) (kv c (posOf b.2.2.2.1 a)),0)else(0,3))else(0,1)
theorem ahW{α:Type}(u:Int)(x y:α):cond (dk 0 (vw u)) x y=if 0≤u then x else y:=by
 rw[cG]
 have:0≤vw u↔0≤u:=by unfold vw;split<;>(try split)<;>omega
 by_cases h:0≤u
 ·rw[aj h,aj (this.2 h)]
 ·rw[ah h,ah (λk=>h (this.1 k))]
theorem BS(N:Nat)(hN:4000000≤N)(c:ae){b:an}(w:im b)(a:Int):F31 N c b a=some (lJ c b a):=by
 unfold F31 lJ
 have hp:=BQ a b.2.2.2.1
 have hpi:=AP w.qs a
 have hs:=w.s
 have hm:=pd w.qr 5 a
 have E4:=ry (c:=c) hpi
 have Hw:mx (ej b.2.2.1 5 a) 0=if 0<ej b.2.2.1 5 a then ej b.2.2.1 5 a else 0:=by
  rw[Rx];split<;>split<;>omega
 rw[Sd N hN w,ar,Kw N b w.a ω,ar,Sn N w.r ω,ar,af5 N w.s ω,cond_not,cond_not,Hw]
 dsimp only
 rw[ar,aav N ω c ω hpi,ar]
 unfold F91
 dsimp only
 generalize kv c (posOf b.2.2.2.1 a)=s at*
 generalize ej b.2.2.1 5 a=m at*
 unfold aD at hm
 cases dx c b
 ·rfl
 rw[aq,aj rfl]
 cases(fe b.2.1 a).2
 ·rfl
 rw[aq,aj rfl,wV N (by split<;>omega) (by split<;>omega),ar,Sc,ar,ar,ahW,AE N (KI E4),ar]
 unfold lY
 by_cases h1:0<m
 ·rw[aj h1,ah (show ¬m≤0 by omega)]
  by_cases h2:s<m
  ·rw[aj (show 0≤m-s by omega),aj h2,nz (by unfold aD;omega)]
  ·rw[ah h2]
   by_cases h3:s=m
   ·rw[aj (show 0≤m-s by omega),nz (by unfold aD;omega),h3]
   ·rw[ah (show ¬0≤m-s by omega)]
 ·rw[ah h1,aj (show m≤0 by omega)]
  by_cases h3:s=0
  ·rw[aj (show 0≤0-s by omega),nz (by unfold aD;omega),h3]
  ·rw[ah (show ¬0≤0-s by omega)]
theorem IY(N:Nat){b:an}(w:im b)(hN:200000≤N)(a:Int):HQ N b a=some (ej b.2.2.1 5 a):=by
 unfold HQ
 rw[s8 N w.r hN,ar]
theorem QF(N:Nat)(hN:5000000≤N)(c:ae){b:an}(w:im b)(a:Int):F60 N c b a=some (lJ c b a):=by
 unfold F60 lJ
 have hp:=BQ a b.2.2.2.1
 have hpi:=AP w.qs a
 have hs:=w.s
 have hm:=pd w.qr 5 a
 have E4:=ry (c:=c) hpi
 rw[AA N hN w,ar,w1 N w.a ω,ar,QD N w.s ω,ar,W7 N ω c ω hpi,ar,IY N w ω,ar,ri,ar,cond_not,cond_not,cG]
 generalize kv c (posOf b.2.2.2.1 a)=s at*
 generalize ej b.2.2.1 5 a=m at*
 unfold aD at hm
 cases dx c b
 ·rfl
 rw[aq,aj rfl]
 cases(fe b.2.1 a).2
 ·rfl
 rw[aq,aj rfl]
 unfold lY
 by_cases h1:m≤0
 ·rw[aj h1,aj h1]
 ·rw[ah h1,ah h1]
  by_cases h4:aD s
  ·rw[nz h4]
   dsimp only
   rw[aq,cR]
   split<;>rfl
  ·rw[uV h4]
   unfold aD at h4
   dsimp only
   rw[av,ah ω]
theorem W8{hi:Int}: ∀{l:List Int} {lo:Int},l.Pairwise (· < ·)→(∀x∈l,lo≤x∧x<hi)→lo≤hi→(l.length:Int)≤hi-lo
 |[],lo,_,_,h=>by rw[bT];omega
 |x::t,lo,hp,hm,h=>by
  obtain⟨h1,h2⟩:=dZ.1 hp
  have hx:=hm x (bg ..)
  have ih:=W8 (lo:=x+1) h2 (λy hy=>⟨h1 y hy,(hm y (aY _ hy)).2⟩) ω
  rw[aR];omega
theorem sM{a:Int}: ∀{l:au},s7 (l.map keyOf)→((gQ a l).map (λy=>(y.1:Int))).Pairwise (· < ·)
 |[],_=>List.Pairwise.nil
 |x::t,h=>by
  obtain⟨h1,h2⟩:=dZ.1 h
  have ih:=sM (a:=a) h2
  rw[ku]
  by_cases e:x.1=a
  ·rw[aj e,bW]
   refine dZ.2 ⟨λz hz=> ?_,ih⟩
   obtain⟨y,hy,rfl⟩:=cD.1 hz
   obtain⟨x',hx,e',rfl⟩:=iq hy
   have hk:=h1 (keyOf x') (eS hx)
   have g: ∀p q r s:Int,p=a→r=a→kY p q r s→q<s:=λp q r s h1 h2 h=>by unfold kY at h;omega
   exact g _ _ _ _ e e' hk
  ·rw[ah e];exact ih
theorem AT{l:au}(hk:cQ l=true)(hq:dT l)(a:Int):FQ (posOf l a):=by
 obtain⟨hs,hp⟩:=dC hk
 have e:posOf l a=gQ a l:=by unfold posOf;rw[hk];rfl
 rw[e]
 have lW: ∀y∈gQ a l,CT y.1:=λy hy=>by
  obtain⟨x,hx,_,rfl⟩:=iq hy
  have g: ∀p q:Int,bG p q→CT q:=λp q h=>by unfold bG at h;unfold CT;omega
  exact g _ _ (hp x hx).1
 refine⟨?_,lW,λy hy=> ?_⟩
 ·have:=W8 (lo:=0) (hi:=6) (sM (a:=a) hs) (λz hz=>by
   obtain⟨y,hy,rfl⟩:=cD.1 hz
   exact lW y hy) ω
  rw[cy]at this;omega
 ·obtain⟨x,hx,_,rfl⟩:=iq hy
  exact⟨hq x hx,(hp x hx).2⟩
def yp(a:Int):aE→au
 |[]=>[]
 |y::t=>(a,(y.1,((0-y.2.1:Int),())))::((0:Int),(y.1,(y.2.1,())))::yp a t
theorem tX(a:Int)(y:ym)(t:aE):yp a (y::t)=(a,(y.1,((0-y.2.1:Int),())))::((0:Int),(y.1,(y.2.1,())))::yp a t:=rfl
theorem w9(a:Int): ∀t:aE,(yp a t).length=2*t.length
 |[]=>rfl
 |y::t=>by rw[tX,aR,aR,aR,w9 a t];omega
theorem ahY(N:Nat)(hN:200000≤N){l:au}(hl:l.length≤100000)(hk:cQ l=true)(hq:dT l){a:Int}(h0:1≤a)(h1:a≤24):CU N l a 0=some (yp a (posOf l a)):=by
 have hg:=AT hk hq a
 have hlen:=hg.len
 unfold CU CU.b
 rw[wY N hl hN,hk,ar,bt,av,D4,ar,bs (show bG a 0 by unfold bG;omega),bt,av,D4,ar,bs (show bG 0 0 by decide),bt,av,dX ω,av,af5 N hl hN,ar]
 have:=om (posOf l a) cA (λn i s=>CU.l5 N n a 0 s (posOf l a) ((posOf l a).length:Int) i) (λt s=>some (s++yp a t)) (λi (s:au)=>s.length≤2*i) (λn i s hi hI hr=> ?_) (λn s hI=> ?_) (posOf l a).length N 0 [] ω ω ω (aG _)
 ·exact this
 ·unfold CU.l5 CU.eg
  have hm:(posOf l a).getD i cA∈posOf l a:=by
   rw[aU,bl hi];exact dA hi
  have hn:=(T9 (hg.q _ hm)).1
  unfold aD at hn
  rw[aT ω,aq,a6 ω ω,aq,aJ,ay (x:=(i:Int)+1) ω ω,ag i,ay hn.1 hn.2]
  dsimp only
  rw[bL (by rw[aR,aI];omega),aq,tX]
  refine(hr _ ?_).trans ?_
  ·rw[aS,aR,aI];omega
  ·rw[bu];rfl
 ·unfold CU.l5 CU.eg
  rw[aP ω,av]
  show some s=some (s++[])
  rw[ck]
theorem aax(N:Nat)(hN:200000≤N){l:au}(hl:l.length≤100000)(hk:cQ l=true)(hq:dT l){a:Int}(h0:1≤a)(h1:a≤24):iX N l a 0=some (yp a (posOf l a)):=by
 have e:posOf l a=gQ a l:=by unfold posOf;rw[hk];rfl
 obtain⟨_,hp⟩:=dC hk
 unfold iX iX.b
 rw[kQ N hl hN,hk,ar,bt,av,dX ω,av,aP (x:=a) ω,av,aP (x:=24) (y:=a) ω,av,aP (x:=0) ω,av,aP (x:=24) ω,av,e]
 have:=om l bm (λn i s=>iX.l5 N n l a 0 s i) (λt s=>some (s++yp a (gQ a t))) (λi (s:au)=>s.length≤2*i) (λn i s hi hI hr=> ?_) (λn s hI=> ?_) l.length N 0 [] ω ω ω (aG _)
 ·exact this
 ·unfold iX.l5 iX.eg
  have hm:l.getD i bm∈l:=by
   rw[aU,bl hi];exact dA hi
  have hn:=(T9 ⟨hq _ hm,(hp _ hm).2⟩).1
  unfold aD ed at hn
  rw[aT ω,aq,a6 ω ω,aq,aq,aq,aJ,ay (x:=(i:Int)+1) ω ω,ag i,ay hn.1 hn.2,aN,ku]
  dsimp only
  rw[aq,aq,bL (by rw[aR,aI];omega),aq]
  by_cases h:(l.getD i bm).1=a
  ·rw[aj h,aj h,tX]
   refine(hr _ ?_).trans ?_
   ·rw[aS,aR,aI];omega
   ·rw[bu];rfl
  ·rw[ah h,ah h]
   exact hr s ω
 ·unfold iX.l5 iX.eg
  rw[aP ω,av]
  show some s=some (s++[])
  rw[ck]
end VM
end
section
namespace VM
open Go VM.F
def ji(p:Int):Prop:=1≤p∧p≤1000000000000
instance(p:Int):Decidable (ji p):=by unfold ji;infer_instance
theorem FW(N:Nat)(p:Int):DB N p=some (decide (ji p)):=(iP N p).trans (fj some (oU.2 Iff.rfl))
def ky(a b c d e:Int):Prop:=(0≤a∧a≤24)∧(0≤b∧b≤24)∧a≠b∧(0≤c∧c<6)∧(1≤d∧d≤1000000000)∧ji e
instance(a b c d e:Int):Decidable (ky a b c d e):=by unfold ky;infer_instance
def nD(t:ta):Prop:=ky t.1 t.2.1 t.2.2.1 t.2.2.2.1 t.2.2.2.2.1
instance:DecidablePred nD:=λt=>by unfold nD;infer_instance
theorem Nz(a b c d e:Int):cond (dk 0 a) (cond (dk a 24) (cond (dk 0 b) (cond (dk b 24) (cond (!aO a b) (cond (dk 0 c) (cond (aZ c 6) (cond (dk 1 d) (cond (dk d 1000000000) (some (decide (ji e))) (some false)) (some false)) (some false)) (some false)) (some false)) (some false)) (some false)) (some false)) (some false)=some (decide (ky a b c d e)):=by
 simp only[cG,cond_not,aN,cR]
 by_cases hP:ky a b c d e
 ·have hp:=hP.2.2.2.2.2
  rw[bs hP,bs hp]
  unfold ky at hP
  repeat' split
  all_goals first|rfl|omega
 ·rw[cm hP]
  by_cases hp:ji e
  ·unfold ky at hP
   repeat' split
   all_goals first|rfl|(exact absurd ⟨ω,ω,ω,ω,ω,hp⟩ hP)
  ·rw[cm hp]
   repeat' split
   all_goals rfl
theorem xP(N:Nat)(t:ta):W9 N t=some (decide (nD t)):=by
 unfold W9
 rw[FW,ar]
 exact Nz _ _ _ _ _
def AU(a x:Int):dh:=if a=0 then((2:Int),((0:Int),(x,())))else((5:Int),(a,(x,())))
def QG(t:ta)(p:Int):au:=if p-t.2.2.2.2.1=0 then []else [AU t.1 ((p-t.2.2.2.2.1)*t.2.2.2.1),AU t.2.1 (-((p-t.2.2.2.2.1)*t.2.2.2.1))]
theorem BT(a x:Int)(N:Nat):KJ N a=some ((AU a x).1,(AU a x).2.1):=by
 unfold KJ AU
 rw[aN]
 by_cases h:a=0
 ·rw[aj h,aj h]
 ·rw[ah h,ah h]
theorem nE(a x:Int):ed (AU a x)=x:=by unfold AU;split<;>rfl
theorem IZ{d q:Int}(h1: -1000000000000≤d∧d≤1000000000000)(h2:1≤q∧q≤1000000000): -1000000000000000000000≤d*q∧d*q≤1000000000000000000000∧(d*q=0↔d=0):=by
 refine⟨?_,?_,?_⟩
 ·have:=zs h1.1 (show 0≤q by omega)
  have h3: -1000000000000*1000000000≤ -1000000000000*q:=ω
  omega
 ·have:=zs h1.2 (show 0≤q by omega)
  have h3:1000000000000*q≤1000000000000*1000000000:=ω
  omega
 ·rw[Int.mul_eq_zero];omega
theorem HR(N:Nat)(hN:4000000≤N){t:ta}{p:Int}(ht:nD t)(hp:ji p):QH N t p=some ((QG t p).map g7,0):=by
 unfold QH QG
 have hq:=ht.2.2.2.2.1
 have he:=ht.2.2.2.2.2
 rw[xP,ar,bs ht,bt,av,FW,ar,bs hp,bt,av]
 unfold ji at hp he
 generalize t.2.2.2.2.1=e at*
 generalize t.2.2.2.1=q at*
 have hd: -1000000000000≤p-e∧p-e≤1000000000000:=ω
 have hn:=IZ hd hq
 have QA:dm ((p-e)*q):=by unfold dm;omega
 rw[ay (x:=p-e) ω ω,cv N ω ω ω,ar,cv N ω ω ω,ar,tO N hN ((Fit.i64 ω ω).mono ω) ((Fit.i64 ω ω).mono ω),ar,p7,ar,aN]
 by_cases h:p-e=0
 ·rw[aj h,aj (by rw[hn.2.2.2 h];rfl)];rfl
 ·rw[ah h,ah (λk=>h (hn.2.2.1 (kp.1 k))),BT t.1 ((p-e)*q),ar,BT t.2.1 (-((p-e)*q)),ar,jz N hN (AK QA),ar,bW,bW,je]
  unfold g7
  rw[nE,nE]
theorem ir{c:ae}{b:an}(h:dx c b=true):b.2.2.2.2.1.length=c.1.length∧eW b.2.2.2.2.1=true:=by
 unfold dx at h
 simp only[bQ]at h
 have h1:=bz h.2.2.2.2.2.2.1
 unfold dw at h1
 exact⟨ω,h.2.2.2.2.2.2.2.2.2.2⟩
end VM
end
section
namespace VM
open Go VM.F
theorem NA{l:List Int}(h:eW l=true){i:Nat}(hi:i<l.length):ji (l.getD i 0):=bz h i hi
end VM
end
section
namespace VM
open Go VM.F
theorem u2{c:ae}{b:an}(h:dx c b=true):fB c=true:=by
 unfold dx at h
 exact(cK.1 h).1
def nF(k:Int):Nat→aL→List Int
 |_,[]=>[]
 |i,x::t=>if x.1=k then(i:Int)::nF k (i+1) t else nF k (i+1) t
theorem AV(k:Int)(i:Nat)(x:bM)(t:aL):nF k i (x::t)=if x.1=k then(i:Int)::nF k (i+1) t else nF k (i+1) t:=rfl
def iR(c:ae)(k:Int):List Int:=if fB c then nF k 0 c.1 else []
theorem QI(N:Nat)(hN:200000≤N)(c:ae)(hl:c.1.length≤100000)(k:Int):pe N c k=some (iR c k):=by
 unfold pe pe.b iR
 rw[nn N ω,ar,cond_not]
 have:=om c.1 aV (λn i s=>pe.l5 N n k c s i) (λt s=>some (s++nF k (c.1.length-t.length) t)) (λi (s:List Int)=>s.length≤i) (λn i s hi hI hr=> ?_) (λn s hI=> ?_) c.1.length N 0 [] ω ω ω (aG _)
 ·have e:pe.l5 N N k c [] 0=some (nF k 0 c.1):=by
   refine this.trans ?_
   rw[c0,tA];rfl
  rw[e];cases fB c<;>rfl
 ·unfold pe.l5 pe.eg
  have e1:c.1.length-(c.1.getD i aV::c.1.drop (i+1)).length=i:=by rw[aR,dS];omega
  have e2:c.1.length-(c.1.drop (i+1)).length=i+1:=by rw[dS];omega
  rw[e2]at hr
  rw[aT ω,aq,a6 ω ω,aq,aJ,ay (x:=(i:Int)+1) ω ω,ag i,aN,bL (by rw[aI];omega),aq,e1,AV]
  split
  ·rw[hr _ (by rw[aS,aI];omega),bu];rfl
  ·exact hr s ω
 ·unfold pe.l5 pe.eg
  rw[aP ω,av]
  show some s=some (s++[])
  rw[ck]
theorem CV{c:ae}(h:fB c=true):c.1.length≤6∧ ∀i,i<c.1.length→0≤(c.1.getD i aV).1∧(c.1.getD i aV).1≤3:=by
 unfold fB at h
 simp only[bQ]at h
 have h1:=bz h.1
 have h2:=bz h.2.1
 exact⟨h1.2,λi hi=>(h2 i hi).1⟩
theorem QJ{l:au}(h:dT l)(a b:Int):aD (dN l a b):=by
 unfold dN
 cases cQ l
 ·show aD 0;decide
 ·exact FT h a b
end VM
end
section
namespace VM
open Go VM.F
end VM
end
section
namespace VM
open Go VM.F
end VM
end
section
namespace VM
open Go VM.F
def AW(l:List Int)(k:Int):Int:=l.getD k.toNat 0
def ins(l:List Int):List Int→Int→List Int
 |[],i=>[i]
 |k::t,i=>if AW l i≤AW l k then k::ins l t i else i::k::t
def fK(l:List Int):Nat→List Int
 |0=>[]
 |n+1=>ins l (fK l n) n
def kz(l:List Int):List Int:=fK l l.length
def yJ(l:List Int)(a b:Int):Prop:=AW l b<AW l a∨(AW l b=AW l a∧a<b)
theorem Sp(l:List Int): ∀(o:List Int) (i:Int),(ins l o i).length=o.length+1
 |[],i=>rfl
 |k::t,i=>by unfold ins;split<;>simp[Sp l t i]
theorem sN(l:List Int): ∀n,(fK l n).length=n
 |0=>rfl
 |n+1=>by unfold fK;rw[Sp,sN l n]
theorem zd(l:List Int):(kz l).length=l.length:=sN l _
theorem KK(l:List Int){x:Int}: ∀{o:List Int} {i:Int},x∈ins l o i↔x=i∨x∈o
 |[],i=>by simp[ins]
 |k::t,i=>by
  unfold ins;split
  ·rw[aX,KK l,aX]
   exact⟨λh=>h.elim (λh=> .inr (.inl h)) (λh=>h.elim .inl (λh=> .inr (.inr h))),λh=>h.elim (λh=> .inr (.inl h)) (λh=>h.elim .inl (λh=> .inr (.inr h)))⟩
  ·rw[aX]
theorem sO(l:List Int){x:Int}: ∀{n:Nat},x∈fK l n↔0≤x∧x<n
 |0=>⟨(λh=>nomatch h),λh=>absurd h.1 ω⟩
 |n+1=>by unfold fK;rw[KK,sO l];omega
theorem AX(l:List Int): ∀{o:List Int} {i:Int},o.Pairwise (yJ l)→(∀x∈o,x<i)→(ins l o i).Pairwise (yJ l)
 |[],i,_,_=>En _ _
 |k::t,i,h,hi=>by
  rw[dZ]at h
  have hk:k<i:=hi k (bg ..)
  unfold ins;split
  ·rename_i hle
   rw[dZ]
   refine⟨λx hx=> ?_,AX l h.2 (λx hx=>hi x (aY _ hx))⟩
   rcases(KK l).1 hx with rfl|hx
   ·unfold yJ;omega
   ·exact h.1 x hx
  ·rename_i hle
   rw[dZ,dZ]
   refine⟨λx hx=> ?_,h.1,h.2⟩
   rcases aX.1 hx with rfl|hx
   ·unfold yJ;omega
   ·have:=h.1 x hx;unfold yJ at*;omega
theorem oB(l:List Int): ∀n,(fK l n).Pairwise (yJ l)
 |0=>List.Pairwise.nil
 |n+1=>by unfold fK;exact AX l (oB l n) (λx hx=>((sO l).1 hx).2)
theorem Xa(l:List Int): ∀(o:List Int) (i:Int) (p:Nat),p≤o.length→(∀j,j<p→AW l i≤AW l (o.getD j 0))→(p<o.length→AW l (o.getD p 0)<AW l i)→ins l o i=o.take p++i::o.drop p
 |[],i,p,hp,_,_=>by simp at hp;subst hp;rfl
 |k::t,i,0,hp,_,h=>by
  unfold ins;rw[ah (by have:=h (by simp);simp at this;omega)];rfl
 |k::t,i,p+1,hp,h0,h=>by
  unfold ins
  have h1:AW l i≤AW l k:=h0 0 ω
  rw[aj h1,Xa l t i p (by simpa using hp) (λj hj=>by have:=h0 (j+1) ω;simpa using this) (λRz=>by have:=h (by simpa using Rz);simpa using this)]
  rfl
theorem Sq(l:List Int)(f:Int→Int): ∀(o:List Int) (i:Int),((ins l o i).map f).sum=(o.map f).sum+f i
 |[],i=>by simp[ins]
 |k::t,i=>by
  unfold ins;split
  ·rw[bW,cz,Sq l f t i,bW,cz];omega
  ·simp only[bW,cz];omega
theorem CW(l r:List Int): ∀n,n≤r.length→((fK l n).map (AW r)).sum=(r.take n).sum
 |0,_=>rfl
 |n+1,h=>by
  unfold fK;rw[Sq,CW l r n ω,lD r ω]
  unfold AW;rw[aJ]
theorem QK(l r:List Int)(h:l.length=r.length):((kz l).map (AW r)).sum=r.sum:=by
 unfold kz;rw[CW l r _ ω,jH ω]
theorem FX{o:List Int}{j:Nat}(h:j<o.length):o.getD j 0∈o:=by
 rw[aU,bl h];exact dA h
theorem QL{l:List Int}{n j:Nat}(h:j<n):0≤(fK l n).getD j 0∧(fK l n).getD j 0<n:=by
 exact(sO l).1 (FX (by rw[sN];exact h))
theorem I0(N:Nat)(K:List Int→List Int→Int→Option (List Int)){l:List Int}(hl:l.length≤100000)(i:Nat)(hi:i<l.length): ∀(m n p:Nat),i-p≤m→m<n→p≤i→(∀j,j<p→AW l i≤AW l ((fK l i).getD j 0))→
  fD.l6 N K n l (fK l i) (i:Int) (p:Int)=K l (fK l (i+1)) ((i+1:Nat):Int)
 |m,0,p,_,hn,_,_=>ω
 |m,n+1,p,hm,hn,hp,h=>by
  have hlen:=sN l i
  have fin: ∀h2:(p<i→AW l ((fK l i).getD p 0)<AW l i),fD.j8 N K l (fK l i) (i:Int) (p:Int)=K l (fK l (i+1)) ((i+1:Nat):Int):=λh2=>by
   have e:=Xa l (fK l i) i p ω h (λh3=>h2 ω)
   unfold fD.j8 fD.W1
   dsimp only
   rw[dG ω ω ω ω,aq,aJ,aJ,dr,c0]
   rw[bL (by rw[cf];omega),aq,bL (by rw[cf];simp only[aI];omega),aq,dG ω ω ω ω,aq,bL (by simp only[aS,cf,dS,aI];omega),aq,ay ω ω,iD,bu,Er,←e]
   rfl
  unfold fD.l6 fD.uN
  by_cases hpi:p<i
  ·have hr:=QL (l:=l) (n:=i) (j:=p) hpi
   rw[aT ω,aq,a6 ω ω,aq,aJ,aJ,a6 ω ω,aq,a6 ω ω,aq]
   by_cases h3:l.getD i 0≤l.getD ((fK l i).getD p 0).toNat 0
   ·rw[fH h3,aq,ay ω ω]
    refine I0 N K hl i hi (m-1) n (p+1) ω ω ω (λj hj=> ?_)
    by_cases hjp:j=p
    ·rw[hjp];unfold AW;rw[aJ];exact h3
    ·exact h j ω
   ·rw[fu ω,av]
    exact fin (λ_=>by unfold AW;rw[aJ];omega)
  ·rw[aP ω,av]
   exact fin (λh=>absurd h hpi)
theorem FY(N:Nat){l:List Int}(hl:l.length≤100000)(hN:l.length<N): ∀(m n i:Nat),l.length-i≤m→m<n→i≤l.length→
  fD.l3 N n l (fK l i) (i:Int)=some (kz l)
 |m,0,i,_,hn,_=>ω
 |m,n+1,i,hm,hn,hi=>by
  unfold fD.l3 fD.nT
  by_cases h:i<l.length
  ·have:=I0 N (fD.l3 N n) hl i h i N 0 ω ω ω (λj hj=>ω)
   rw[aT ω,aq]
   refine Eq.trans this ?_
   exact FY N hl hN (m-1) n (i+1) ω ω ω
  ·rw[aP ω,av,show i=l.length by omega];rfl
theorem Uc(N:Nat){l:List Int}(hl:l.length≤100000)(hN:l.length<N):fD N l=some (kz l):=by
 unfold fD fD.b
 exact FY N hl hN l.length N 0 ω ω ω
end VM
end
section
namespace VM
open Go VM.F
def I1(l:List Int):Prop:= ∀x∈l,-9223372036854775808≤x∧x<9223372036854775808
def Pos(l:List Int):Prop:= ∀x∈l,0≤x
def may(w:List Int):Bool:=decide (w.length≤64)&&w.all (λx=>decide (0≤x))
theorem oR{w:List Int}:may w=true↔w.length≤64∧Pos w:=by
 unfold may Pos;rw[bQ,fg,qK]
 simp only[fg]
theorem FZ(N:Nat){l:List Int}(hl:l.length≤1000000): ∀(m n i:Nat),l.length-i≤m→m<n→i≤l.length→ ∃r,pJ.l4 N n l (i:Int)=some r∧(r=true↔ ∃x∈l.drop i,x<0)
 |m,0,i,_,hn,_=>ω
 |m,n+1,i,hm,hn,hi=>by
  unfold pJ.l4 pJ.eK
  by_cases h:i<l.length
  ·have hd:l.drop i=l.getD i 0::l.drop (i+1):=by
    rw[pW h,aU,bl h];rfl
   rw[aT ω,aq,a6 ω ω,aq,aJ,hd]
   by_cases hx:l.getD i 0<0
   ·rw[aT hx,aq]
    exact⟨_,rfl,λ_=>⟨_,bg ..,hx⟩,λ_=>rfl⟩
   ·rw[aP ω,av,ay ω ω]
    obtain⟨r,e,h1⟩:=FZ N hl (m-1) n (i+1) ω ω ω
    refine⟨r,e,h1.trans ⟨λ⟨x,PY,hx2⟩=>⟨x,aY _ PY,hx2⟩,λ⟨x,PY,hx2⟩=> ?_⟩⟩
    rcases aX.1 PY with rfl|PY
    ·exact absurd hx2 hx
    ·exact⟨x,PY,hx2⟩
  ·rw[aP ω,av,vR ω]
   exact⟨_,rfl,(λh=>nomatch h),λ⟨x,hx,_⟩=>nomatch hx⟩
theorem F0(N:Nat){w:List Int}(hN:100≤N)(t:Int):pJ N t w=some (decide (t<0)|| !may w):=by
 unfold pJ pJ.b
 by_cases ht:t<0
 ·rw[aT ht,aq,bs ht];rfl
 rw[aP ω,av,cm ht,tv]
 by_cases h:w.length≤64
 ·rw[aP ω,av]
  obtain⟨r,e,hr⟩:=FZ N (l:=w) ω w.length N 0 ω ω ω
  rw[c0]at hr
  rw[show((0:Nat):Int)=0 from rfl]at e
  rw[e]
  congr 1
  rw[oV,hr,qJ,vW,Ne,oR]
  constructor
  ·rintro⟨x,hx,V5⟩ h;have:=h.2 x hx;omega
  ·intro h1
   by_cases h2: ∃x∈w,x<0
   ·exact h2
   ·exact absurd ⟨h,λx hx=>by
     by_cases V5:x<0
     ·exact absurd ⟨x,hx,V5⟩ h2
     ·omega⟩ h1
 ·rw[aT ω,aq]
  have:may w=false:=by
   rw[vW];intro hm;exact h (oR.1 hm).1
  rw[this];rfl
def bump(q:List Int):List Int→List Int
 |[]=>q
 |k::t=>bump (q.set k.toNat (q.getD k.toNat 0+1)) t
def sb(t S:Int)(w:List Int):List Int:=w.map λx=>t*x/S
def lh(t S:Int)(w:List Int):List Int:=w.map λx=>t*x%S
def bR(t:Int)(w:List Int):List Int:=
 bump (sb t w.sum w) ((kz (lh t w.sum w)).take (t-(sb t w.sum w).sum).toNat)
def rz(t:Int)(w:List Int):List Int×Int:=
 if t<0∨may w=false then([],1)else if 9223372036854775808≤w.sum then([],2)
 else if w.sum=0 then(if t=0 then(List.replicate w.length 0,0)else([],1))else(bR t w,0)
theorem NB: ∀(ks q:List Int),(bump q ks).length=q.length
 |[],q=>rfl
 |k::t,q=>by unfold bump;rw[NB t];simp
theorem KL: ∀(q:List Int) (k:Nat) (x:Int),k<q.length→(q.set k x).sum=q.sum-q.getD k 0+x
 |[],k,x,h=>absurd h (by simp)
 |a::q,0,x,h=>by simp;omega
 |a::q,k+1,x,h=>by
  have:=KL q k x (by simpa using h)
  simp[this];omega
theorem jO: ∀{q:List Int},Pos q→0≤q.sum
 |[],_=>by simp
 |a::q,h=>by
  have:=jO (q:=q) (λx hx=>h x (aY _ hx))
  have:=h a (bg ..)
  rw[cz];omega
theorem ze: ∀{q:List Int},Pos q→ ∀i,q.getD i 0≤q.sum
 |[],_,i=>by simp
 |a::q,h,0=>by
  have:=jO (q:=q) (λx hx=>h x (aY _ hx))
  rw[cz];simp;omega
 |a::q,h,i+1=>by
  have:=ze (q:=q) (λx hx=>h x (aY _ hx)) i
  have:=h a (bg ..)
  rw[cz];simp;simp at*;omega
theorem g9{q:List Int}(h:Pos q)(i:Nat):0≤q.getD i 0:=by
 by_cases hi:i<q.length
 ·exact h _ (FX hi)
 ·rw[uO q ω];omega
theorem aay{q:List Int}(h:Pos q){x:Int}(hx:0≤x)(k:Nat):Pos (q.set k x):=λy hy=>by
 rcases xy hy with hy|rfl
 ·exact h y hy
 ·exact hx
theorem NC{q:List Int}(h:Pos q)(n:Nat):Pos (q.take n):=λx hx=>h x (lP hx)
theorem ND: ∀(ks q:List Int),(∀k∈ks,0≤k∧k<q.length)→(bump q ks).sum=q.sum+ks.length
 |[],q,_=>by simp[bump]
 |k::t,q,h=>by
  have hk:=h k (bg ..)
  unfold bump
  rw[ND t _ (λx hx=>by rw[bO];exact h x (aY _ hx)),KL q _ _ ω,aR];omega
theorem xa(t S:Int)(w:List Int):(sb t S w).length=w.length:=by unfold sb;rw[cy]
theorem pf(t S:Int)(w:List Int):(lh t S w).length=w.length:=by unfold lh;rw[cy]
theorem Sr{t S:Int}{w:List Int}(i:Nat):(sb t S w).getD i 0=t*w.getD i 0/S:=by
 unfold sb
 by_cases h:i<w.length
 ·rw[aU,pZ,bl h,aU,bl h];rfl
 ·rw[uO _ (by rw[cy];omega),uO w ω];simp
theorem Ss{t S:Int}{w:List Int}(i:Nat):(lh t S w).getD i 0=t*w.getD i 0%S:=by
 unfold lh
 by_cases h:i<w.length
 ·rw[aU,pZ,bl h,aU,bl h];rfl
 ·rw[uO _ (by rw[cy];omega),uO w ω];simp
theorem F1{t S:Int}{w:List Int}(ht:0≤t)(hS:0≤S)(hw:Pos w):Pos (sb t S w):=λx hx=>by
 obtain⟨y,hy,rfl⟩:=cD.1 hx
 exact tq (tu ht (hw y hy)) hS
theorem NF{t S:Int}{w:List Int}(hS:0<S):Pos (lh t S w):=λx hx=>by
 obtain⟨y,hy,rfl⟩:=cD.1 hx
 exact EC _ ω
theorem KM(t S:Int): ∀w:List Int,S*(sb t S w).sum+(lh t S w).sum=t*w.sum
 |[]=>by simp[sb,lh]
 |x::w=>by
  have h:=KM t S w
  have e:=Ma (t*x) S
  unfold sb lh at*
  simp only[bW,cz,jY]
  omega
theorem Xb{t S:Int}{w:List Int}(ht:0≤t)(hS:0<S)(h:w.sum≤S):(sb t S w).sum≤t:=by
 have e:=KM t S w
 have h1:=jO (NF (t:=t) (w:=w) hS)
 have h2:=xx h ht
 have h3:S*(sb t S w).sum≤S*t:=by rw[jW S t];omega
 exact LX h3 hS
theorem CX{w:List Int}(h:Pos w)(i:Nat):(w.take i).sum≤w.sum:=by
 have e:w.take i++w.drop i=w:=gl i w
 have h1:(w.take i).sum+(w.drop i).sum=w.sum:=by rw[←lT,e]
 have:=jO (q:=w.drop i) (λx hx=>h x (mX hx))
 omega
theorem I2(t S:Int)(w:List Int)(i:Nat):(sb t S w).take i=sb t S (w.take i):=by unfold sb;rw[List.map_take]
theorem F2(N:Nat){ks:List Int}(hl:ks.length≤1000000)(L:Nat)(hk: ∀k∈ks,0≤k∧k<L): ∀(m n i left:Nat) (q:List Int),ks.length-i≤m→m<n→i≤ks.length→q.length=L→Pos q→left≤9223372036854775807→q.sum+left≤9223372036854775807→
  fO.w5 N n q (left:Int) ks (i:Int)=some (bump q ((ks.drop i).take left),0)
 |m,0,i,left,q,_,hn,_,_,_,_,_=>ω
 |m,n+1,i,left,q,hm,hn,hi,hq,hp,hle,hs=>by
  unfold fO.w5 fO.vI
  by_cases h:i<ks.length
  ·have hd:ks.drop i=ks.getD i 0::ks.drop (i+1):=by
    rw[pW h,aU,bl h];rfl
   have E8:=hk _ (FX h)
   rw[aT ω,aq]
   match left,hle,hs with
   |0,hle,hs=>rw[aP ω,av,oW];rfl
   |left+1,hle,hs=>
    rw[aT ω,aq,a6 ω ω,aq,aJ,a6 ω ω,aq,aq,hd]
    have h1:=ze hp (ks.getD i 0).toNat
    have h2:=g9 hp (ks.getD i 0).toNat
    rw[ay (x:=q.getD _ 0+1) ω ω,ay (x:=(i:Int)+1) ω ω,ay ω ω,show((left+1:Nat):Int)-1=(left:Int)by omega]
    refine(F2 N hl L hk (m-1) n (i+1) left _ ω ω ω (by rw[bO];exact hq) (aay hp ω _) ω ?_).trans rfl
    rw[KL q _ _ ω];omega
  ·rw[aP ω,av,vR ω,List.take_nil];rfl
theorem F3(l:List Int): ∀k∈kz l,0≤k∧k<l.length:=λk hk=>(sO l).1 hk
theorem take_set(l:List Int){i:Nat}(x:Int)(h:i<l.length):(l.set i x).take (i+1)=l.take i++[x]:=by
 rw[ij (l.set i x) (by rw[bO];exact h),mE l x h,List.take_set_of_le ω]
theorem KN{v:Int}(h0: -9223372036854775808≤v)(h1:v<9223372036854775808):BG v=(v,true):=by unfold BG;rw[aj ⟨h0,h1⟩]
end VM
end
section
namespace VM
open Go VM.F
theorem pg{a b:List Int}(hl:a.length=b.length)(h: ∀i,i<a.length→a.getD i 0=b.getD i 0):a=b:=by
 refine List.ext_getElem hl (λi h1 h2=> ?_)
 have:=h i h1
 rwa [aU,bl h1,aU,bl h2]at this
theorem Su: ∀(ks q:List Int) (i:Nat),ks.Nodup→(∀k∈ks,0≤k∧k<q.length)→(bump q ks).getD i 0=q.getD i 0+(if(i:Int)∈ks then 1 else 0)
 |[],q,i,_,_=>by simp[bump]
 |k::t,q,i,hn,h=>by
  have hk:=h k (bg ..)
  rw[zF]at hn
  unfold bump
  rw[Su t _ i hn.2 (λx hx=>by rw[bO];exact h x (aY _ hx))]
  by_cases hik:(i:Int)=k
  ·rw[ah (by rw[hik];exact hn.1),aj (by rw[hik];exact bg ..),←hik,aJ,mE q _ ω];omega
  ·rw[getD_set_ne q _ ω]
   by_cases ht:(i:Int)∈t
   ·rw[aj ht,aj (aY _ ht)]
   ·rw[ah ht,ah (λhc=>by rcases aX.1 hc with hc|hc;exact hik hc;exact ht hc)]
theorem NG(l:List Int):(kz l).Nodup:=(oB l l.length).imp (λ{a b} h he=>by unfold yJ at h;rw[he]at h;omega)
theorem Sv(t S:Int)(hS:0<S): ∀u:List Int,(lh t S u).sum≤u.length*S
 |[]=>by simp[lh]
 |x::u=>by
  have ih:=Sv t S hS u
  have:=zB (t*x) hS
  unfold lh at*
  rw[bW,cz,aR,ED,qR];simp;omega
def mJ(t:Int)(w:List Int):Int:=t-(sb t w.sum w).sum
theorem left_eq(t:Int)(w:List Int):w.sum*mJ t w=(lh t w.sum w).sum:=by
 have:=KM t w.sum w
 unfold mJ;rw[Int.mul_sub,jW w.sum t];omega
theorem F4{t:Int}{w:List Int}(ht:0≤t)(hS:0<w.sum):0≤mJ t w:=by
 have:=Xb ht hS (fJ _);unfold mJ;omega
theorem Sw{t:Int}{w:List Int}(hS:0<w.sum):mJ t w≤w.length:=by
 have h1:=left_eq t w
 have h2:=Sv t w.sum hS w
 rw[←h1,jW (w.length:Int)]at h2
 exact LX h2 hS
theorem oC(t:Int)(w:List Int):(bR t w).length=w.length:=by unfold bR;rw[NB,xa]
theorem u5{t:Int}{w:List Int}(ht:0≤t)(hS:0<w.sum):(bR t w).sum=t:=by
 unfold bR
 have h1:=F4 ht hS
 have h2:=Sw (t:=t) hS
 unfold mJ at*
 rw[ND _ _ (λk hk=>by have:=F3 _ k (lP hk);rw[pf]at this;rwa [xa]),cf,zd,pf]
 omega
theorem zf{f:Int→Int}{c:Int}: ∀{o:List Int},(∀x∈o,f x≤c)→(o.map f).sum≤o.length*c
 |[],_=>by simp
 |x::o,h=>by
  have ih:=zf (f:=f) (c:=c) (o:=o) (λy hy=>h y (aY _ hy))
  have:=h x (bg ..)
  rw[bW,cz,aR,ED,qR];simp;omega
theorem QM{l o:List Int}(h:o.Pairwise (yJ l)){m:Nat}{x y:Int}(hx:x∈o.take m)(hy:y∈o.drop m):yJ l x y:=by
 rw[←gl m o,vT]at h
 exact h.2.2 x hx y hy
theorem Ud{t:Int}{w:List Int}(ht:0≤t)(hS:0<w.sum){i:Int}(hi:i∈(kz (lh t w.sum w)).take (mJ t w).toNat):0<AW (lh t w.sum w) i:=by
 have Hz: ∀k:Int,0≤AW (lh t w.sum w) k:=λk=>g9 (NF hS) _
 have fb: ∀k:Int,AW (lh t w.sum w) k≤w.sum-1:=λk=>by
  unfold AW;rw[Ss]
  have:=zB (t*w.getD k.toNat 0) hS;omega
 have h0:=Hz i
 rcases Int.lt_or_le 0 (AW (lh t w.sum w) i)with h|h
 ·exact h
 exfalso
 have HN:=QK (lh t w.sum w) (lh t w.sum w) rfl
 rw[←left_eq]at HN
 have ar0:=gl (mJ t w).toNat (kz (lh t w.sum w))
 rw[←ar0,cZ,lT]at HN
 have hd:(((kz (lh t w.sum w)).drop (mJ t w).toNat).map (AW (lh t w.sum w))).sum≤((kz (lh t w.sum w)).drop (mJ t w).toNat).length*0:=zf (λy hy=>by
  have:=QM (oB _ _) hi hy
  unfold yJ at this;omega)
 have htk:(((kz (lh t w.sum w)).take (mJ t w).toNat).map (AW (lh t w.sum w))).sum≤((kz (lh t w.sum w)).take (mJ t w).toNat).length*(w.sum-1):=zf (λy _=>fb y)
 have h1:=F4 ht hS
 have h2:=Sw (t:=t) hS
 rw[cf,zd,pf,iE ω,Int.mul_sub]at htk
 rw[zK]at hd
 have h3:(((mJ t w).toNat:Nat):Int)=mJ t w:=ω
 have h4:0<(mJ t w).toNat:=by
  rcases Nat.eq_zero_or_pos (mJ t w).toNat with h|h
  ·rw[h,oW]at hi;nomatch hi
  ·exact h
 rw[h3,jW (mJ t w)]at htk
 omega
def extra(t:Int)(w:List Int)(i:Nat):Int:=if(i:Int)∈(kz (lh t w.sum w)).take (mJ t w).toNat then 1 else 0
theorem I3(t:Int)(w:List Int)(i:Nat):(bR t w).getD i 0=t*w.getD i 0/w.sum+extra t w i:=by
 unfold bR
 rw[Su _ _ i ((NG _).sublist (List.take_sublist ..)) (λk hk=>by have:=F3 _ k (lP hk);rw[pf]at this;rwa [xa]),Sr]
 rfl
theorem I4(t:Int)(w:List Int)(i:Nat):extra t w i=0∨extra t w i=1:=by unfold extra;split<;>omega
theorem Ue{t:Int}{w:List Int}(ht:0≤t)(hS:0<w.sum){i:Nat}(h:extra t w i=1):0<t*w.getD i 0%w.sum:=by
 unfold extra at h
 by_cases hi:(i:Int)∈(kz (lh t w.sum w)).take (mJ t w).toNat
 ·have:=Ud ht hS hi
  unfold AW at this;rwa [Ss,aJ]at this
 ·rw[ah hi]at h;omega
theorem u6{t:Int}{w:List Int}(ht:0≤t)(hS:0<w.sum)(hw:Pos w):Pos (bR t w):=λx hx=>by
 obtain⟨i,hi,rfl⟩:=qF.1 hx
 have:=I3 t w i
 rw[aU,bl hi]at this
 have h1:=I4 t w i
 have h2:0≤t*w.getD i 0/w.sum:=tq (tu ht (g9 hw i)) ω
 simp only[m1]at this
 omega
theorem CY{t:Int}{w:List Int}(ht:0≤t)(hS:0<w.sum){i:Nat}(h:w.getD i 0=0):(bR t w).getD i 0=0:=by
 rw[I3,h]
 rcases I4 t w i with h1|h1
 ·rw[h1];simp
 ·have:=Ue ht hS h1
  rw[h]at this;simp at this
end VM
end
section
namespace VM
open Go VM.F
theorem CZ(N:Nat)(hN:5000000≤N){t:Int}{w:List Int}(ht:0≤t)(vO:t<9223372036854775808)(hw:w.length≤64)(hp:Pos w)(hS:0<w.sum)(hS1:w.sum<9223372036854775808):
  ∀(m n i:Nat) (q r:List Int),w.length-i≤m→m<n→i≤w.length→q.length=w.length→r.length=w.length→q.take i=sb t w.sum (w.take i)→r.take i=lh t w.sum (w.take i)→
  fO.I5 N n t w (cP w.sum) q r (t-(sb t w.sum (w.take i)).sum) (i:Int)=some (bR t w,0)
 |m,0,i,q,r,_,hn,_,_,_,_,_=>ω
 |m,n+1,i,q,r,hm,hn,hi,hq,hr,eq,er=>by
  unfold fO.I5 fO.F6
  by_cases h:i<w.length
  ·have hwi:=g9 hp i
   have ar1:=ze hp i
   have hb:=mul_lt ht hwi (show t≤9223372036854775807 by omega) (show w.getD i 0≤9223372036854775807 by omega)
   have hqi:t*w.getD i 0/w.sum≤t:=Int.ediv_le_of_le_mul hS (xx ar1 ht)
   have azh:0≤t*w.getD i 0/w.sum:=tq hb.1 ω
   have hri:=zB (t*w.getD i 0) hS
   have azi:=EC (t*w.getD i 0) (show w.sum≠0 by omega)
   have hs0:=Xb ht hS (CX hp i)
   have Ly:=jO (F1 ht (by omega:0≤w.sum) (NC hp i))
   have ft:Fit t 2:=Fit.i64 ω ω
   have fw:Fit (w.getD i 0) 2:=Fit.i64 ω ω
   have fS:Fit w.sum 2:=Fit.i64 ω ω
   rw[aT ω,aq,cv N ω ω vO,ar,a6 ω ω,aq,aJ,cv N ω ω ω,ar,
    tO N ω (ft.mono ω) (fw.mono ω),ar,R6 N ω hS ((ft.mul fw).mono ω) (fS.mono ω),ar]
   dsimp only
   rw[ri,ar,KN ω ω,ri,KN ω ω]
   dsimp only
   rw[ar,a6 ω ω,aq,a6 ω ω,aq,bO,a6 ω ω,aq,mE q _ ω,ay (x:=(i:Int)+1) ω ω,ay ω ω]
   have wX:=CZ N hN ht vO hw hp hS hS1 (m-1) n (i+1) (q.set i (t*w.getD i 0/w.sum)) (r.set i (t*w.getD i 0%w.sum)) ω ω ω (by rw[bO];exact hq) (by rw[bO];exact hr)
    (by rw[take_set q _ ω,eq,ij w h];unfold sb;simp)
    (by rw[take_set r _ ω,er,ij w h];unfold lh;simp)
   rw[←I2,lD _ (by rw[xa];exact h),Sr,I2]at wX
   rw[Int.sub_sub]
   exact wX
  ·have nc:i=w.length:=ω
   subst nc
   rw[jH ω,jH ω]at eq er
   subst eq er
   rw[jH ω]
   have Ly:=jO (F1 ht (by omega:0≤w.sum) hp)
   have h1:=F4 ht hS
   unfold mJ at h1
   rw[aP ω,av,Uc N (by rw[pf];omega) (by rw[pf];omega),ar]
   have hlen:=zd (lh t w.sum w)
   rw[pf]at hlen
   have wv:=F2 N (ks:=kz (lh t w.sum w)) ω w.length (λk hk=>by have:=F3 _ k hk;rwa [pf]at this) 1000 N 0 (t-(sb t w.sum w).sum).toNat (sb t w.sum w) ω ω ω (xa ..) (F1 ht ω hp) ω ω
   rw[c0,ti h1]at wv
   exact wv
theorem BU(N:Nat)(hN:5000000≤N){t:Int}{w:List Int}(vO:t<9223372036854775808)(hw:I1 w)(hl:w.length≤1000000):fO N t w=some (rz t w):=by
 unfold fO fO.b rz
 rw[F0 N ω,ar]
 by_cases h1:t<0
 ·rw[bs h1,Bool.true_or,aq,aj (.inl h1)]
 rw[cm h1,tv]
 cases h2:may w
 ·rw[c3,aq,aj (.inr rfl)]
 rw[bt,av,ah (by simp[h1]),y6 N ω hw hl,ar,p7,ar]
 obtain⟨F7,hp⟩:=oR.1 h2
 have hS0:=jO hp
 have hj: ∀h: ¬9223372036854775808≤w.sum,fO.j6 N t w (cP w.sum)=if w.sum=0 then some (List.replicate w.length 0,0)else some (bR t w,0):=λh=>by
  unfold fO.j6 fO.TN
  rw[ri,ar,KN ω ω,bt,av,cO ω ω ω,aq,aq,p7,ar,aJ]
  by_cases h4:w.sum=0
  ·rw[aj h4,h4,show vw 0=0 from rfl,dP rfl,aq]
  ·rw[ah h4,dX (by unfold vw;repeat' split<;>omega),av]
   have:=CZ N hN ω vO F7 hp ω ω w.length N 0 (List.replicate w.length 0) (List.replicate w.length 0) ω ω ω (cU ..) (cU ..) rfl rfl
   rw[oW]at this
   simp only[sb,je,iI,EI]at this
   exact this
 by_cases h3:9223372036854775808≤w.sum
 ·rw[aj h3,dX (by unfold vw;repeat' split<;>omega),av]
  unfold fO.j6 fO.TN
  rw[ri,ar];unfold BG;rw[ah ω];rfl
 rw[ah h3,hj h3]
 by_cases h4:w.sum=0
 ·rw[aj h4,aj h4,h4,show vw 0=0 from rfl,dP rfl,aq]
  by_cases h5:t=0
  ·rw[aj h5,dP h5,bt,av]
  ·rw[ah h5,dX h5,c3,aq]
 ·rw[ah h4,ah h4,dX (by unfold vw;repeat' split<;>omega),av]
def I6(t n:Int):List Int×Int:=if t<0∨n<1∨64<n then([],1)else rz t (List.replicate n.toNat 1)
theorem Xc(n:Nat):I1 (List.replicate n 1):=λx hx=>by rw[zv hx];omega
theorem I7(N:Nat)(hN:5000000≤N){t:Int}{k:Nat}(hk:k≤64)(vO:t<9223372036854775808): ∀(m n i:Nat),k-i≤m→m<n→i≤k→
  rA.l5 N n t (k:Int) (List.replicate i 1++List.replicate (k-i) 0) (i:Int)=some (rz t (List.replicate k 1))
 |m,0,i,_,hn,_=>ω
 |m,n+1,i,hm,hn,hi=>by
  unfold rA.l5 rA.eg
  by_cases h:i<k
  ·rw[aT ω,aq,a6 ω (by simp;omega),aq,ay ω ω]
   refine Eq.trans ?_ (I7 N hN hk vO (m-1) n (i+1) ω ω ω)
   congr 1
   rw[aJ,Md _ _ (by simp),cU,tA,show k-i=(k-(i+1))+1 by omega,zA,List.set_cons_zero,List.replicate_succ',bu]
   rfl
  ·rw[aP ω,av,show k-i=0 by omega,List.replicate_zero,ck,show i=k by omega,BU N hN vO (Xc _) (by rw[cU];omega)]
   rfl
theorem Xd(N:Nat)(hN:5000000≤N){t n:Int}(vO:t<9223372036854775808):rA N t n=some (I6 t n):=by
 unfold rA rA.b I6
 by_cases h1:t<0
 ·rw[aT h1,aq,aj (.inl h1)]
 by_cases h2:n<1
 ·rw[aP ω,av,aT h2,aq,aj (.inr (.inl h2))]
 by_cases h3:64<n
 ·rw[aP ω,av,aP ω,av,aT h3,aq,aj (.inr (.inr h3))]
 rw[aP ω,av,aP ω,av,aP ω,av,ah ω,cO ω ω ω,aq]
 have:=I7 N hN (t:=t) (k:=n.toNat) ω vO n.toNat N 0 ω ω ω
 rw[List.replicate_zero,cL,Nat.sub_zero,ti ω]at this
 exact this
end VM
end
