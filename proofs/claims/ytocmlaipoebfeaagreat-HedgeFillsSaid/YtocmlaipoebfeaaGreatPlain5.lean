/- A part of the proof of HedgeFills of layer 22: what the functions compute, in plain words. -/
import Derived.Test.YtocmlaipoebfeaaGreatPlain4
set_option linter.all false
section
namespace VM
open Go VM.F
theorem KV(N:Nat)(hN:5000000≤N)(c:aa)(hc:aC (pZ c)){b:ag}(w:fi b)(next:Int):mD N c b next=some (eR c b next):=by
 unfold mD mD.b eR
 rw[Rl N hN c w,Option.bind_some]
 by_cases hB:bV c b=false
 ·rw[hB]
  show cond (!ay 1 0) _ _=_
  rw[cA (by omega)];rfl
 rw[Bool.not_eq_false]at hB
 rw[hB,if_pos rfl,if_pos rfl]
 dsimp only
 rw[dI,Bool.not_true,cond_false,a8,a8]
 by_cases h1:next<1
 ·rw[if_pos h1,if_neg (by omega)]
 rw[if_neg h1]
 by_cases h2:1099511627772<next
 ·rw[if_pos h2,if_neg (by omega)]
 rw[if_neg h2,if_pos (by omega)]
 have h0:=EI hB
 obtain⟨h6,Tj⟩:=eQ (c7 hB)
 have key: ∀(m n k:Nat) (out:aD),k+m=4→m<n→out.length≤k→mD.l6 N n (next+(out.length:Int)) c b (pY (bG c b)) out (k:Int)=some (ss c b next m k out,0):=by
  intro m n
  induction n generalizing m with
  |zero=>intro k out _ hn;omega
  |succ n ih=>
   intro k out hk hn ho
   unfold mD.l6 mD.pn
   have hlen:(pY (bG c b)).length=4:=rfl
   match m,hk,hn with
   |0,hk,hn=>rw[aA (by omega),cond_false];rfl
   |m+1,hk,hn=>
    obtain⟨hv,hva⟩:=AU w hB (k:Int)
    have ld:=He (bG c b) (k:=(k:Int)) (by omega)
    have UU:=fun qw TC=>ih m (k+1) qw (by omega) (by omega) TC
    unfold aC pZ at hc
    have hab:bL ((bG c b (k:Int)).natAbs:Int):=by unfold bL;omega
    rw[aE (by omega),cond_true,AA N (by omega) c (by omega),Option.bind_some,hlen,aG (by omega) (by omega),cond_true,ld,GJ N (by omega) (zf hv),Option.bind_some,aB,fg N (by omega) hc.1 hc.2,Option.bind_some,El N (by omega) (zf hab) ((Fit.i64 hc.1 hc.2).mono (by omega)),Option.bind_some,bt,al (x:=(k:Int)+1) (by omega) (by omega),ae k,p3]
    have hs:mC (((bG c b (k:Int)).natAbs:Int)-c.2.2.2.2.2.2.1)≤0↔((bG c b (k:Int)).natAbs:Int)≤pZ c:=by
     unfold pZ mC;split<;>(try split)<;>omega
    by_cases h3:((bG c b (k:Int)).natAbs:Int)≤pZ c
    ·rw[if_pos (hs.2 h3),if_pos h3,UU out (by omega)]
     split<;>rfl
    ·obtain⟨gi,ir,hp⟩:=EH w hB h3 h0
     have hl0:0<(bD c (k:Int)).length:=List.length_pos_iff.2 gi
     have hd:=EJ hva hp
     have h5:Fit ((bG c b (k:Int)).natAbs:Int) 5:=by
      unfold Fit
      rw[show(4294967296:Nat)^5=1461501637330902918203684832716283019655932542976 from rfl]
      omega
     have Px:Fit ((bG c b (k:Int)).natAbs:Int) 80000:=Fit.mono h5 (by decide)
     have abg:(pY (bG c b)).getD k (false,lz)=b9 (bG c b (k:Int)):=by rw[←ld,Int.toNat_natCast]
     have xl:=hp
     unfold bw at xl
     rw[if_neg (show ¬((bD c (k:Int)).length:Int)=0 by omega),if_neg (fun h=>h3 (hs.1 h)),if_neg h3,aG (i:=0) (by omega) (by omega),cond_true,show(0:Int).toNat=0 from rfl,ir,cond_true,fg N (by omega) (by omega) (by omega),Option.bind_some,En N hN (by omega) Px ((Fit.i64 (by omega) (by omega)).mono (by omega)),Option.bind_some,qu,Option.bind_some]
     have fin: ∀q:Int,q=(dC c b (k:Int)).2.2→mD.rA N (mD.l6 N n) (next+(out.length:Int)) c b (pY (bG c b)) out (k:Int) (bD c (k:Int)) q=some (if(dC c b (k:Int)).2.2=0 then ss c b next m (k+1) out else ss c b next m (k+1) (out++[(next+(out.length:Int),((dC c b (k:Int)).1,((dC c b (k:Int)).2.1,((dC c b (k:Int)).2.2,()))))]),0):=fun q e=>by
      subst e
      unfold mD.rA mD.mu
      have Mh:0<mC (bG c b (k:Int))↔0<bG c b (k:Int):=by unfold mC;split<;>(try split)<;>omega
      rw[aB,al (x:=(k:Int)+1) (by omega) (by omega),ae k,aG (i:=0) (by omega) (by omega),cond_true,hlen,aG (by omega) (by omega),cond_true,Int.toNat_natCast,abg,oS,Option.bind_some,a8,al (x:=next+(out.length:Int)+1) (by omega) (by omega),show(0:Int).toNat=0 from rfl]
      by_cases h4:(dC c b (k:Int)).2.2=0
      ·rw[if_pos h4,if_pos h4];exact UU out (by omega)
      ·rw[if_neg h4,if_neg h4,bo (by rw[List.length_singleton];omega),cond_true,bo (by rw[List.length_singleton];omega),cond_true]
       have step:=fun z:bh=>UU (out++[z]) (by rw[List.length_append,List.length_singleton];omega)
       have el: ∀z:bh,next+((out++[z]).length:Int)=next+(out.length:Int)+1:=fun z=>by rw[List.length_append,List.length_singleton];omega
       by_cases h5:0<bG c b (k:Int)
       ·rw[if_pos (Mh.2 h5)]
        have e2:(dC c b (k:Int)).2.1=2:=by unfold dC;exact if_pos h5
        rw[e2,←step _,el];rfl
       ·rw[if_neg (fun h=>h5 (Mh.1 h))]
        have e2:(dC c b (k:Int)).2.1=1:=by unfold dC;exact if_neg h5
        rw[e2,←step _,el];rfl
     have hq: ∀d:Int,d=((bG c b (k:Int)).natAbs:Int)/(b.2.2.2.2.1.getD ((bD c (k:Int)).getD 0 0).toNat 0)→(dC c b (k:Int)).2.2=if d≤1000000000 then d else 1000000000:=fun d e=>by subst e;rfl
     have pk:=hq _ rfl
     generalize ((bG c b (k:Int)).natAbs:Int)/(b.2.2.2.2.1.getD ((bD c (k:Int)).getD 0 0).toNat 0)=d at*
     by_cases h6:aC d
     ·rw[vE h6]
      dsimp only
      rw[Bool.not_true,cond_false,a8]
      by_cases h7:1000000000<d
      ·rw[if_pos h7];exact fin _ (by rw[pk,if_neg (by omega)])
      ·rw[if_neg h7];exact fin _ (by rw[pk,if_pos (by omega)])
     ·rw[vF h6]
      dsimp only
      rw[Bool.not_false,cond_true]
      exact fin _ (by rw[pk,if_neg (by unfold aC at h6;omega)])
 have:=key 4 N 0 [] (by omega) (by omega) (Nat.le_refl _)
 rw[List.length_nil,show next+((0:Nat):Int)=next by omega]at this
 exact this
end VM
end
section
namespace VM
open Go VM.F
def lU(x:cq)(z:Int×Int):Int×Int:=if x.2.2.2.1=1 then(z.1+x.2.2.2.2.1,z.2)else(z.1,z.2+x.2.2.2.2.1)
def UW(a k:Int):aT→Int×Int→Int×Int
 |[],z=>z
 |x::t,z=>UW a k t (if x.2.1=a∧x.2.2.1=k then lU x z else z)
theorem vQ(a k:Int)(x:cq)(t:aT)(z:Int×Int):UW a k (x::t) z=UW a k t (if x.2.1=a∧x.2.2.1=k then lU x z else z):=rfl
theorem Hv(a k:Int)(o:cq): ∀(l:aT) (z:Int×Int),UW a k (l++[o]) z=if o.2.1=a∧o.2.2.1=k then lU o (UW a k l z)else UW a k l z
 |[],z=>rfl
 |x::t,z=>by rw[List.cons_append,vQ,vQ];exact Hv a k o t _
def nz(i:Int)(z:Int×Int):bW:=(i,(z.1,(z.2,())))
def Hw(f:Int→Int×Int):Nat→Nat→aj
 |0,_=>[]
 |m+1,k=>if 0<(f (k:Int)).1+(f (k:Int)).2 then nz (k:Int) (f (k:Int))::Hw f m (k+1)else Hw f m (k+1)
theorem iL(f:Int→Int×Int)(m k:Nat):Hw f (m+1) k=if 0<(f (k:Int)).1+(f (k:Int)).2 then nz (k:Int) (f (k:Int))::Hw f m (k+1)else Hw f m (k+1):=rfl
def Oz(l:aT)(a k:Int):Int×Int:=UW a k l (0,0)
def qQ(l:aT)(a:Int):aj:=Hw (Oz l a) 6 0
theorem EK(f:Int→Int×Int): ∀m k,(Hw f m k).length≤m
 |0,_=>Nat.le_refl _
 |m+1,k=>by
  rw[iL]
  have:=EK f m (k+1)
  split
  ·rw[List.length_cons];omega
  ·omega
theorem Rx(f:Int→Int×Int): ∀m k,∀x∈Hw f m k,(k:Int)≤x.1
 |0,_,x,hx=>nomatch hx
 |m+1,k,x,hx=>by
  rw[iL]at hx
  have ih:=Rx f m (k+1) x
  split at hx
  ·rcases List.mem_cons.1 hx with rfl|hx
   ·exact Int.le_refl _
   ·have:=ih hx;omega
  ·have:=ih hx;omega
theorem wX{f g:Int→Int×Int}: ∀m k,(∀j:Nat,k≤j→f (j:Int)=g (j:Int))→Hw f m k=Hw g m k
 |0,_,_=>rfl
 |m+1,k,h=>by rw[iL,iL,h k (Nat.le_refl _),wX m (k+1) (fun j hj=>h j (by omega))]
def KW(l:aT):Prop:= ∀x∈l,1≤x.2.2.2.2.1∧x.2.2.2.2.1≤1000000000
theorem MS{l:aT}(h:KW l){i:Nat}(hi:i<l.length):1≤(l.getD i dQ).2.2.2.2.1∧(l.getD i dQ).2.2.2.2.1≤1000000000:=h _ (by
 rw[List.getD_eq_getElem?_getD,List.getElem?_eq_getElem hi];exact List.getElem_mem hi)
def zh(z:Int×Int)(n:Nat):Prop:=0≤z.1∧z.1≤1000000000*(n:Int)∧0≤z.2∧z.2≤1000000000*(n:Int)
theorem MT{x:cq}{z:Int×Int}{n:Nat}(hq:1≤x.2.2.2.2.1∧x.2.2.2.2.1≤1000000000)(h:zh z n):zh (lU x z) (n+1):=by
 have g: ∀q:Int,1≤q∧q≤1000000000→zh (z.1+q,z.2) (n+1)∧zh (z.1,z.2+q) (n+1):=fun q hq=>by unfold zh at*;dsimp only;omega
 have gx:=g _ hq
 unfold lU
 split
 ·exact gx.1
 ·exact gx.2
theorem zh.mono{z:Int×Int}{n m:Nat}(h:zh z n)(hm:n≤m):zh z m:=by unfold zh at*;omega
theorem Ry{a k:Int}: ∀{l:aT} {z:Int×Int} {n:Nat},KW l→zh z n→zh (UW a k l z) (n+l.length)
 |[],z,n,_,h=>h
 |x::t,z,n,hq,h=>by
  have hx:=hq x (List.mem_cons_self ..)
  rw[vQ,List.length_cons,show n+(t.length+1)=n+1+t.length by omega]
  refine Ry (fun y hy=>hq y (List.mem_cons_of_mem _ hy)) ?_
  split
  ·exact MT hx h
  ·exact zh.mono h (by omega)
theorem EL{l:aT}(h:KW l)(a k:Int):zh (Oz l a k) l.length:=by
 have:=Ry (a:=a) (k:=k) (z:=(0,0)) (n:=0) h (by unfold zh;dsimp only;omega)
 rw[Nat.zero_add]at this;exact this
theorem Hy{l:aT}(h:eO l=true):KW l∧l.length≤32:=by
 unfold eO at h
 rw[Bool.and_eq_true]at h
 refine⟨fun x hx=> ?_,of_decide_eq_true h.2⟩
 obtain⟨i,hi,e⟩:=List.getElem_of_mem hx
 have:=of_decide_eq_true h.1 i hi
 unfold oX at this
 have h1:=this.1
 rw[List.getD_eq_getElem?_getD,List.getElem?_eq_getElem hi,Option.getD_some,e]at h1
 unfold gk at h1
 exact h1.2.2.2.2.1
def oI(o:cq):Int:=o.2.2.1
def oQ(o:cq):Int:=o.2.2.2.2.1
def oK(x:bW):Int:=x.1
def vR(o:cq):aj→aj
 |[]=>[nz (oI o) (lU o (0,0))]
 |x::t=>if oK x<oI o then x::vR o t else if oK x=oI o then nz (oK x) (lU o (x.2.1,x.2.2.1))::t else nz (oI o) (lU o (0,0))::x::t
theorem nS(o:cq)(x:bW)(t:aj):vR o (x::t)=if oK x<oI o then x::vR o t else if oK x=oI o then nz (oK x) (lU o (x.2.1,x.2.2.1))::t else nz (oI o) (lU o (0,0))::x::t:=rfl
theorem Rz(o:cq){l:aj}(h: ∀x∈l,oI o<oK x):vR o l=nz (oI o) (lU o (0,0))::l:=by
 match l,h with
 |[],_=>rfl
 |x::t,h=>
  have:=h x (List.mem_cons_self ..)
  rw[nS,if_neg (Int.lt_asymm this),if_neg (fun e=>Int.lt_irrefl _ (e▸this))]
def Hz(o:cq)(f:Int→Int×Int)(k:Int):Int×Int:=if k=oI o then lU o (f k)else f k
theorem RA(o:cq)(z:Int×Int):(lU o z).1+(lU o z).2=z.1+z.2+oQ o:=by
 unfold lU
 have: ∀a b q:Int,a+q+b=a+b+q∧a+(b+q)=a+b+q:=fun a b q=>by omega
 split
 ·exact(this _ _ _).1
 ·exact(this _ _ _).2
theorem Dn(o:cq){f:Int→Int×Int}(hf: ∀k,0≤(f k).1∧0≤(f k).2)(hq:1≤oQ o): ∀m k:Nat,(k:Int)≤oI o→oI o<((k+m:Nat):Int)→vR o (Hw f m k)=Hw (Hz o f) m k
 |0,k,h1,h2=>by omega
 |m+1,k,h1,h2=>by
  have hk:=hf (k:Int)
  by_cases e:(k:Int)=oI o
  ·have hu:Hz o f (k:Int)=lU o (f (k:Int)):=by unfold Hz;rw[if_pos e]
   have hs:=RA o (f (k:Int))
   have hc:Hw f m (k+1)=Hw (Hz o f) m (k+1):=wX m (k+1) fun j hj=>by unfold Hz;rw[if_neg (by omega)]
   rw[iL,iL,hu,if_pos (show 0<(lU o (f (k:Int))).1+(lU o (f (k:Int))).2 by omega),←hc]
   by_cases h0:0<(f (k:Int)).1+(f (k:Int)).2
   ·rw[if_pos h0,nS,if_neg (show ¬oK (nz (k:Int) (f (k:Int)))<oI o from by show ¬(k:Int)<oI o;omega),if_pos (show oK (nz (k:Int) (f (k:Int)))=oI o from e)]
    rfl
   ·have hz:f (k:Int)=(0,0):=Prod.ext (by omega) (by omega)
    rw[if_neg h0,hz,Rz o (fun x hx=>by have:((k+1:Nat):Int)≤oK x:=Rx f m (k+1) x hx;omega),e]
  ·have hu:Hz o f (k:Int)=f (k:Int):=by unfold Hz;rw[if_neg e]
   have ih:=Dn o hf hq m (k+1) (by omega) (by omega)
   rw[iL,iL,hu]
   by_cases h0:0<(f (k:Int)).1+(f (k:Int)).2
   ·rw[if_pos h0,if_pos h0,nS,if_pos (show oK (nz (k:Int) (f (k:Int)))<oI o from by show(k:Int)<oI o;omega),ih]
   ·rw[if_neg h0,if_neg h0,ih]
theorem HA{l:aT}(h:KW l){o:cq}(ho:gk o):vR o (qQ l o.2.1)=qQ (l++[o]) o.2.1:=by
 unfold gk at ho
 unfold qQ
 rw[Dn o (fun k=>by have:=EL h o.2.1 k;unfold zh at this;omega) ho.2.2.2.2.1.1 6 0 ho.2.2.1.1 (Int.lt_of_lt_of_le ho.2.2.1.2 (by decide))]
 refine wX 6 0 fun j _=> ?_
 unfold Hz Oz
 rw[Hv]
 by_cases e:oI o=(j:Int)
 ·rw[if_pos e.symm];exact(if_pos ⟨rfl,e⟩).symm
 ·rw[if_neg (fun h=>e h.symm)];exact(if_neg fun h=>e h.2).symm
def cutAt(a:Int):aj→Nat
 |[]=>0
 |x::t=>if oK x<a then cutAt a t+1 else 0
theorem kS(a:Int)(x:bW)(t:aj):cutAt a (x::t)=if oK x<a then cutAt a t+1 else 0:=rfl
theorem AV(a:Int): ∀l:aj,cutAt a l≤l.length
 |[]=>Nat.le_refl _
 |x::t=>by
  rw[kS,List.length_cons]
  have:=AV a t
  split<;>omega
def atO(o:cq)(x:bW):bW:=nz (oK x) (lU o (x.2.1,x.2.2.1))
theorem wY(o:cq): ∀l:aj,(cutAt (oI o) l=l.length∨ ¬oK (l.getD (cutAt (oI o) l) aQ)=oI o)→vR o l=l.take (cutAt (oI o) l)++nz (oI o) (lU o (0,0))::l.drop (cutAt (oI o) l)
 |[],_=>rfl
 |x::t,h=>by
  rw[kS]at h ⊢
  rw[nS]
  by_cases h1:oK x<oI o
  ·rw[if_pos h1]at h ⊢
   rw[if_pos h1,wY o t (by
    rw[List.length_cons,List.getD_cons_succ]at h
    rcases h with h|h
    ·exact .inl (by omega)
    ·exact .inr h)];rfl
  ·rw[if_neg h1]at h ⊢
   have h2: ¬oK x=oI o:=by
    rcases h with h|h
    ·rw[List.length_cons]at h;omega
    ·exact h
   rw[if_neg h1,if_neg h2];rfl
theorem Dp(o:cq): ∀l:aj,cutAt (oI o) l<l.length→oK (l.getD (cutAt (oI o) l) aQ)=oI o→vR o l=l.set (cutAt (oI o) l) (atO o (l.getD (cutAt (oI o) l) aQ))
 |[],h,_=>by exact absurd h (Nat.lt_irrefl 0)
 |x::t,h,h'=>by
  rw[kS]at h h'
  rw[nS,kS]
  by_cases h1:oK x<oI o
  ·rw[if_pos h1]at h h'
   rw[if_pos h1,if_pos h1]
   rw[List.length_cons]at h
   rw[List.getD_cons_succ]at h'
   rw[List.getD_cons_succ,Dp o t (by omega) h'];rfl
  ·rw[if_neg h1]at h'
   rw[if_neg h1,if_neg h1,if_pos (show oK x=oI o from h')];rfl
end VM
end
section
namespace VM
open Go VM.F
theorem acs{x:cq}{z:Int×Int}{n:Nat}(hn:n≤1000)(hq:1≤x.2.2.2.2.1∧x.2.2.2.2.1≤1000000000)(hz:zh z n)(k:Int):
  (x.2.2.2.1=1→((k,(W .i64 (z.1+x.2.2.2.2.1),(z.2,()))):bW)=nz k (lU x z))∧(¬x.2.2.2.1=1→((k,(z.1,(W .i64 (z.2+x.2.2.2.2.1),()))):bW)=nz k (lU x z)):=by
 have g: ∀q:Int,1≤q∧q≤1000000000→W .i64 (z.1+q)=z.1+q∧W .i64 (z.2+q)=z.2+q:=fun q hq=>by
  unfold zh at hz
  exact⟨al (by omega) (by omega),al (by omega) (by omega)⟩
 have gx:=g _ hq
 unfold lU nz
 exact⟨fun h=>by rw[gx.1,if_pos h],fun h=>by rw[gx.2,if_neg h]⟩
theorem HB(N:Nat){F:bW→Option aj}{G:Nat→bW→Int→Option aj}(l:aT)(a k:Int)(hq:KW l)(hl:l.length≤1000)(hN:l.length<N)
  (hs: ∀n i z r,i<l.length→zh z i→G n (nz k (if(l.getD i dQ).2.1=a∧(l.getD i dQ).2.2.1=k then lU (l.getD i dQ) z else z)) ((i+1:Nat):Int)=r→G (n+1) (nz k z) (i:Int)=r)
  (he: ∀n z,zh z l.length→G (n+1) (nz k z) (l.length:Int)=F (nz k z)):G N (nz k (0,0)) 0=F (nz k (Oz l a k)):=by
 have:=nG l dQ (fun n i (z:Int×Int)=>G n (nz k z) i) (fun t z=>F (nz k (UW a k t z))) (fun i z=>zh z i) (fun n i z hi hz hr=> ?_) (fun n z hz=>he n z hz) l.length N 0 (0,0) (by omega) hN (by omega) (by unfold zh;decide)
 ·exact this
 ·rw[vQ]
  refine hs n i z _ hi hz (hr _ ?_)
  split
  ·exact MT (MS hq hi) hz
  ·exact zh.mono hz (by omega)
theorem yb{F:Nat→aj→Int→Option aj}(f:Int→Int×Int)
  (hs: ∀(n k:Nat) (out:aj) (r:Option aj),k<6→out.length≤k→F n (if 0<(f (k:Int)).1+(f (k:Int)).2 then out++[nz (k:Int) (f (k:Int))]else out) ((k+1:Nat):Int)=r→F (n+1) out (k:Int)=r)
  (he: ∀n out,F (n+1) out 6=some out): ∀(m n k:Nat) (out:aj),k+m=6→m<n→out.length≤k→F n out (k:Int)=some (out++Hw f m k)
 |_,0,_,_,_,hn,_=>by omega
 |0,n+1,k,out,hk,_,_=>by
  have:k=6:=by omega
  subst this
  rw[show Hw f 0 6=[]from rfl,List.append_nil]
  exact he n out
 |m+1,n+1,k,out,hk,hn,ho=>by
  refine hs n k out _ (by omega) ho ?_
  rw[yb f hs he m n (k+1) _ (by omega) (by omega) (by
   split
   ·rw[List.length_append,List.length_singleton];omega
   ·omega),iL]
  split
  ·rw[List.append_assoc];rfl
  ·rfl
theorem RB(N:Nat)(hN:200000≤N){l:aT}(hl:l.length≤100000)(a:Int):eh N l a=some (if eO l then qQ l a else []):=by
 unfold eh eh.b
 rw[CN N hl hN,Option.bind_some]
 by_cases h:eO l=false
 ·rw[h];rfl
 rw[Bool.not_eq_false]at h
 rw[h,Bool.not_true,cond_false,if_pos rfl]
 obtain⟨hq,h32⟩:=Hy h
 refine yb (F:=fun n out k=>eh.l5 N n l a out k) (Oz l a) (fun n k out r hk ho hr=> ?_) (fun n out=> ?_) 6 N 0 [] (by omega) (by omega) (Nat.le_refl _)
 ·unfold eh.l5 eh.c0
  rw[aE (by omega),cond_true]
  refine(HB N (G:=fun n' x i=>eh.l9 N (eh.l5 N n) n' l a out (k:Int) x (k:Int) l (l.length:Int) i) (F:=fun x=>cond (aH 0 (W .i64 (x.2.1+x.2.2.1))) (cond (small (out.length+[x].length)) (eh.l5 N n l a (out++[x]) (W .i64 ((k:Int)+1))) none) (eh.l5 N n l a out (W .i64 ((k:Int)+1)))) l a (k:Int) hq (by omega) (by omega) (fun n' i z r' hi hz dD=> ?_) (fun n' z hz=> ?_)).trans ?_
  ·unfold eh.l9 eh.tk
   rw[aE (by omega),cond_true,aG (by omega) (by omega),cond_true,Int.toNat_natCast,cond_not,aB,cond_not,aB,aB,al (x:=(i:Int)+1) (by omega) (by omega),ae i]
   have hw:=acs (n:=i) (by omega) (MS hq hi) hz (k:Int)
   by_cases h1:(l.getD i dQ).2.1=a
   ·rw[if_pos h1]
    by_cases h2:(l.getD i dQ).2.2.1=(k:Int)
    ·rw[if_pos ⟨h1,h2⟩]at dD
     rw[if_pos h2]
     by_cases h3:(l.getD i dQ).2.2.2.1=1
     ·rw[if_pos h3,←dD,←hw.1 h3];rfl
     ·rw[if_neg h3,←dD,←hw.2 h3];rfl
    ·rw[if_neg (fun h=>h2 h.2)]at dD
     rw[if_neg h2];exact dD
   ·rw[if_neg (fun h=>h1 h.1)]at dD
    rw[if_neg h1];exact dD
  ·unfold eh.l9 eh.tk
   rw[aA (by omega),cond_false]
  ·have hz:=EL hq a (k:Int)
   unfold zh at hz
   show cond (aH 0 (W .i64 ((Oz l a (k:Int)).1+(Oz l a (k:Int)).2))) _ _=r
   rw[al (x:=(Oz l a (k:Int)).1+(Oz l a (k:Int)).2) (by omega) (by omega),a8,bo (by rw[List.length_singleton];omega),cond_true,al (x:=(k:Int)+1) (by omega) (by omega),ae k,←hr]
   split<;>rfl
 ·unfold eh.l5 eh.c0
  rw[aA (by omega),cond_false]
theorem RC(a:Int): ∀(l:aj) (i:Nat),i<cutAt a l→oK (l.getD i aQ)<a
 |[],i,h=>absurd h (Nat.not_lt_zero i)
 |x::t,i,h=>by
  rw[kS]at h
  by_cases h1:oK x<a
  ·rw[if_pos h1]at h
   match i with
   |0=>exact h1
   |i+1=>exact RC a t i (by omega)
  ·rw[if_neg h1]at h;exact absurd h (Nat.not_lt_zero i)
theorem MU(a:Int): ∀l:aj,cutAt a l<l.length→ ¬oK (l.getD (cutAt a l) aQ)<a
 |[],h=>absurd h (Nat.not_lt_zero _)
 |x::t,h=>by
  rw[kS]at h ⊢
  by_cases h1:oK x<a
  ·rw[if_pos h1]at h ⊢
   rw[List.length_cons]at h
   exact MU a t (by omega)
  ·rw[if_neg h1];exact h1
theorem Dq(N:Nat)(o:cq)(l:aj)(hl:l.length≤100000): ∀m n i,cutAt (oI o) l-i≤m→m<n→i≤cutAt (oI o) l→eD.l2 N n l o (i:Int)=eD.j4 N l o (cutAt (oI o) l:Int)
 |m,0,i,_,hn,_=>by omega
 |m,n+1,i,hm,hn,hi=>by
  have hle:=AV (oI o) l
  unfold eD.l2 eD.dr
  rw[a8,a8,al (x:=(i:Int)+1) (by omega) (by omega),ae i,Int.toNat_natCast]
  by_cases h:i<cutAt (oI o) l
  ·rw[if_pos (by omega),aG (by omega) (by omega),cond_true]
   exact(if_pos (RC (oI o) l i h)).trans (Dq N o l hl (m-1) n (i+1) (by omega) (by omega) (by omega))
  ·have e:i=cutAt (oI o) l:=by omega
   rw[←e]
   by_cases h2:(i:Int)<(l.length:Int)
   ·rw[if_pos h2,aG (by omega) (by omega),cond_true]
    have:=MU (oI o) l (by omega)
    rw[←e]at this
    exact if_neg this
   ·rw[if_neg h2]
theorem RD{α:Type}(a b:List α)(x y:α):(a++x::b).set a.length y=a++y::b:=by
 rw[List.set_append_right _ _ (Nat.le_refl _),Nat.sub_self];rfl
theorem OA{α:Type}(a b:List α)(x d:α):(a++x::b).getD a.length d=x:=by
 rw[List.getD_eq_getElem?_getD,List.getElem?_append_right (Nat.le_refl _),Nat.sub_self];rfl
def Fy(z:Int×Int):Prop:=0≤z.1∧z.1≤33000000000∧0≤z.2∧z.2≤33000000000
theorem UX{o:cq}(hq:1≤oQ o∧oQ o≤1000000000){x:bW}(hz:Fy (x.2.1,x.2.2.1)):
  (o.2.2.2.1=1→((x.1,(W .i64 (x.2.1+o.2.2.2.2.1),x.2.2)):bW)=atO o x)∧(¬o.2.2.2.1=1→((x.1,(x.2.1,(W .i64 (x.2.2.1+o.2.2.2.2.1),x.2.2.2))):bW)=atO o x):=by
 have g: ∀a b q:Int,Fy (a,b)→1≤q∧q≤1000000000→W .i64 (a+q)=a+q∧W .i64 (b+q)=b+q:=fun a b q hz hq=>by
  unfold Fy at hz
  dsimp only at hz
  exact⟨al (by omega) (by omega),al (by omega) (by omega)⟩
 have gx:=g _ _ _ hz hq
 unfold oQ at gx
 unfold atO lU nz oK
 exact⟨fun h=>by rw[gx.1,if_pos h],fun h=>by rw[gx.2,if_neg h]⟩
theorem MV(N:Nat){o:cq}(hq:1≤oQ o∧oQ o≤1000000000){l:aj}{i:Nat}(hi:i<l.length)(hl:l.length≤100000)(hz:Fy ((l.getD i aQ).2.1,(l.getD i aQ).2.2.1)):eD.j6 N l o (i:Int)=some (l.set i (atO o (l.getD i aQ))):=by
 unfold eD.j6 eD.JK
 have h:=UX hq hz
 rw[aG (by omega) (by omega),cond_true,cond_true,cond_true,cond_true,Int.toNat_natCast,aB]
 by_cases h3:o.2.2.2.1=1
 ·rw[if_pos h3,←h.1 h3]
 ·rw[if_neg h3,←h.2 h3]
theorem HC(N:Nat){o:cq}(hq:1≤oQ o∧oQ o≤1000000000){l:aj}{i:Nat}(hi:i≤l.length)(hl:l.length≤1000):
  ((gY N l (i:Int) ([(o.2.2.1,bI)]:aj)).bind fun r4=>eD.j6 N r4 o (i:Int))=some (l.take i++nz (oI o) (lU o (0,0))::l.drop i):=by
 unfold gY
 rw[if_pos ⟨by omega,by omega,rfl,by unfold uD;omega⟩,Option.bind_some,Int.toNat_natCast]
 have ht:(l.take i).length=i:=by rw[List.length_take];omega
 have hg: ∀d:bW,(l.take i++d::l.drop i).getD i aQ=d:=fun d=>by
  have:=OA (l.take i) (l.drop i) d aQ
  rw[ht]at this;exact this
 have hs: ∀d y:bW,(l.take i++d::l.drop i).set i y=l.take i++y::l.drop i:=fun d y=>by
  have:=RD (l.take i) (l.drop i) d y
  rw[ht]at this;exact this
 have hn:(l.take i++(((oI o,bI):bW)::l.drop i)).length=l.length+1:=by rw[List.length_append,List.length_cons,List.length_take,List.length_drop];omega
 have:=MV N hq (l:=l.take i++(((oI o,bI):bW)::l.drop i)) (i:=i) (by omega) (by omega) (by rw[hg];exact⟨Int.le_refl _,(by decide:(0:Int)≤33000000000),Int.le_refl _,(by decide:(0:Int)≤33000000000)⟩)
 rw[hg,hs]at this
 exact this
theorem UY(N:Nat)(hN:200000≤N){o:cq}(hq:1≤oQ o∧oQ o≤1000000000){l:aj}(hl:l.length≤1000)(hz: ∀x∈l,Fy (x.2.1,x.2.2.1)):eD N l o=some (vR o l):=by
 unfold eD eD.b
 have hle:=AV (oI o) l
 refine(Dq N o l (by omega) (cutAt (oI o) l) N 0 (by omega) (by omega) (by omega)).trans ?_
 unfold eD.j4 eD.j4b
 rw[aB,cond_not,aB,Int.toNat_natCast]
 by_cases h:cutAt (oI o) l=l.length
 ·rw[if_pos (by omega),HC N hq hle hl,wY o l (.inl h)]
 ·rw[if_neg (by omega),aG (by omega) (by omega),cond_true]
  by_cases h2:oK (l.getD (cutAt (oI o) l) aQ)=oI o
  ·rw[Dp o l (by omega) h2]
   refine(if_pos h2).trans (MV N hq (by omega) (by omega) (hz _ ?_))
   rw[List.getD_eq_getElem?_getD,List.getElem?_eq_getElem (by omega)];exact List.getElem_mem _
  ·rw[wY o l (.inr h2)]
   exact(if_neg h2).trans (HC N hq hle hl)
end VM
end
section
namespace VM
open Go VM.F
def zi(a b s n:Int)(i:Nat)(p:Int):Prop:=0≤a∧a<n∧0≤b∧b≤33000000000∧0≤s∧s≤33000000000∧(b=0→s≠0)∧(0<i→p<a)
instance(a b s n:Int)(i:Nat)(p:Int):Decidable (zi a b s n i p):=by unfold zi;infer_instance
def uw(c:aa)(l:aj)(i:Nat):Prop:=zi (l.getD i aQ).1 (l.getD i aQ).2.1 (l.getD i aQ).2.2.1 c.1.length i (l.getD (i-1) aQ).1
instance(c:aa)(l:aj):DecidablePred (uw c l):=fun i=>by unfold uw;infer_instance
def gq(c:aa)(l:aj):Bool:=decide (∀j,j<l.length→uw c l j)&&dR c
def Dr(k:Int):au→Int→Int
 |[],z=>z
 |x::t,z=>Dr k t (if x.1=k then x.2.1 else z)
theorem AW(k:Int)(x:Ks)(t:au)(z:Int):Dr k (x::t) z=Dr k t (if x.1=k then x.2.1 else z):=rfl
def yc(k:Int):aj→Int×Int→Int×Int
 |[],z=>z
 |x::t,z=>yc k t (if x.1=k then(x.2.1,x.2.2.1)else z)
theorem AX(k:Int)(x:bW)(t:aj)(z:Int×Int):yc k (x::t) z=yc k t (if x.1=k then(x.2.1,x.2.2.1)else z):=rfl
theorem HD(k:Int): ∀{l:au} {z:Int},(∀y∈l,aC y.2.1)→aC z→aC (Dr k l z)
 |[],z,_,h=>h
 |x::t,z,hl,h=>by
  rw[AW]
  refine HD k (fun y hy=>hl y (List.mem_cons_of_mem _ hy)) ?_
  split
  ·exact hl x (List.mem_cons_self ..)
  ·exact h
theorem HE(k:Int): ∀{l:aj} {z:Int×Int},(∀x∈l,Fy (x.2.1,x.2.2.1))→Fy z→Fy (yc k l z)
 |[],z,_,h=>h
 |x::t,z,hl,h=>by
  rw[AX]
  refine HE k (fun y hy=>hl y (List.mem_cons_of_mem _ hy)) ?_
  split
  ·exact hl x (List.mem_cons_self ..)
  ·exact h
theorem MW{c:aa}{l:aj}(h:gq c l=true): ∀x∈l,Fy (x.2.1,x.2.2.1):=fun x hx=>by
 unfold gq at h
 rw[Bool.and_eq_true]at h
 obtain⟨i,hi,e⟩:=List.getElem_of_mem hx
 have h1:=of_decide_eq_true h.1 i hi
 unfold uw at h1
 rw[List.getD_eq_getElem?_getD,List.getElem?_eq_getElem hi,Option.getD_some,e]at h1
 unfold zi at h1
 exact⟨h1.2.2.1,h1.2.2.2.1,h1.2.2.2.2.1,h1.2.2.2.2.2.1⟩
def EM(q:Int)(z:Int×Int):Int:=if((q+z.1).natAbs:Int)<((q-z.2).natAbs:Int)then((q-z.2).natAbs:Int)else((q+z.1).natAbs:Int)
theorem RE{q:Int}{z:Int×Int}(hq:aC q)(hz:Fy z):0≤EM q z∧EM q z≤9223372069854775808:=by
 unfold EM Fy aC at*
 split<;>omega
def vS(l:au)(o:aj)(k:Int):Int:=EM (Dr k l 0) (yc k o (0,0))
def su(c:aa)(l:au)(o:aj)(k:Int):Int×Int:=
 if mo c l&&gq c o then(if 0≤k∧k<(c.1.length:Int)then(vS l o k,0)else(0,3))else(0,1)
theorem vT{c:aa}{l:au}{o:aj}(ho:gq c o=true)(mK: ∀y∈l,aC y.2.1)(k:Int):0≤vS l o k∧vS l o k≤9223372069854775808:=
 RE (HD k mK (show aC 0 by unfold aC;omega)) (HE k (MW ho) (by unfold Fy;decide))
def kT(c:aa)(i:Nat):Int:=(c.1.getD i aJ).2.2.1
theorem EN{c:aa}(h:dR c=true){i:Nat}(hi:i<c.1.length):0≤kT c i∧kT c i≤1000000000:=by
 unfold dR at h
 simp only[Bool.and_eq_true]at h
 have:=of_decide_eq_true h.2.1 i hi
 unfold mi oU at this
 exact this.2.2.1
def mS(c:aa)(l:au)(o:aj):Nat→Int
 |0=>0
 |n+1=>mS c l o n+vS l o (n:Int)*kT c n
def qR(c:aa)(l:au)(o:aj):Nat→List Int
 |0=>[]
 |n+1=>qR c l o n++[vS l o (n:Int)*kT c n]
theorem AY(c:aa)(l:au)(o:aj): ∀n,(qR c l o n).sum=mS c l o n
 |0=>rfl
 |n+1=>by
  show(qR c l o n++[vS l o (n:Int)*kT c n]).sum=mS c l o n+vS l o (n:Int)*kT c n
  rw[List.sum_append,AY c l o n,List.sum_cons,List.sum_nil,Int.add_zero]
theorem ux(c:aa)(l:au)(o:aj): ∀n,(qR c l o n).length=n
 |0=>rfl
 |n+1=>by
  show(qR c l o n++[vS l o (n:Int)*kT c n]).length=n+1
  rw[List.length_append,ux c l o n];rfl
def mT(c:aa)(l:au)(o:aj):Int×Int:=
 if mo c l&&gq c o then(mS c l o c.1.length,0)else(0,1)
theorem EO{a b:Int}(ha:0≤a∧a≤9223372069854775808)(hb:0≤b∧b≤1000000000):0≤a*b∧a*b≤9223372069854775808000000000:=
 ⟨Int.mul_nonneg ha.1 hb.1,Int.le_trans (Int.mul_le_mul ha.2 hb.2 hb.1 (by decide)) (by decide)⟩
theorem wZ{c:aa}{l:au}{o:aj}(hp:dR c=true)(ho:gq c o=true)(mK: ∀y∈l,aC y.2.1): ∀n,n≤c.1.length→0≤mS c l o n∧mS c l o n≤9223372069854775808000000000*(n:Int)
 |0,_=>⟨Int.le_refl _,Int.le_refl _⟩
 |n+1,hn=>by
  have ih:=wZ hp ho mK n (by omega)
  have h1:=EO (vT ho mK (n:Int)) (EN hp (i:=n) (by omega))
  show 0≤mS c l o n+vS l o (n:Int)*kT c n∧mS c l o n+vS l o (n:Int)*kT c n≤_
  omega
theorem kU{c:aa}{l:aj}(h:gq c l=true):dR c=true:=by
 unfold gq at h
 rw[Bool.and_eq_true]at h;exact h.2
theorem HF{c:aa}(h:dR c=true):c.1.length≤6:=by
 unfold dR at h
 simp only[Bool.and_eq_true]at h
 exact(of_decide_eq_true h.1).2
theorem HG(c:aa){l:au}(o:aj)(mK: ∀y∈l,aC y.2.1):0≤(mT c l o).1∧(mT c l o).1≤60000000000000000000000000000:=by
 unfold mT
 by_cases h:(mo c l&&gq c o)=true
 ·rw[if_pos h]
  rw[Bool.and_eq_true]at h
  have:=wZ (kU h.2) h.2 mK c.1.length (Nat.le_refl _)
  have h6:=HF (kU h.2)
  dsimp only
  omega
 ·rw[if_neg h];decide
theorem OB(c:aa){l:au}(o:aj)(mK: ∀y∈l,aC y.2.1)(k:Int):0≤(su c l o k).1∧(su c l o k).1≤9223372069854775808:=by
 unfold su
 by_cases h:(mo c l&&gq c o)=true
 ·rw[if_pos h]
  rw[Bool.and_eq_true]at h
  split
  ·exact vT h.2 mK k
  ·decide
 ·rw[if_neg h];decide
theorem ah2{P:Prop} [Decidable P]{a b s n p:Int}{r:Option Bool}(h:P↔0≤a∧a<n∧0≤b∧b≤33000000000∧0≤s∧s≤33000000000∧(b=0→s≠0)∧p<a):
  (if a<0 then some false else if n≤a then some false else if b<0 then some false else if 33000000000<b then some false else if s<0 then some false else if 33000000000<s then some false else
   if b=0 then(if s=0 then some false else if a≤p then some false else r)else if a≤p then some false else r)=if P then r else some false:=by
 by_cases hP:P
 ·have:=h.1 hP
  rw[if_pos hP,if_neg (by omega),if_neg (by omega),if_neg (by omega),if_neg (by omega),if_neg (by omega),if_neg (by omega)]
  split
  ·rw[if_neg (by omega),if_neg (by omega)]
  ·rw[if_neg (by omega)]
 ·rw[if_neg hP]
  have h2:=fun h1 h2 h3 h4 h5 h6 h7 h8=>hP (h.2 ⟨h1,h2,h3,h4,h5,h6,h7,h8⟩)
  repeat' split
  all_goals first|rfl|(exfalso;exact h2 (by omega) (by omega) (by omega) (by omega) (by omega) (by omega) (by omega) (by omega))
theorem ah3{P:Prop} [Decidable P]{a b s n:Int}{r:Option Bool}(h:P↔0≤a∧a<n∧0≤b∧b≤33000000000∧0≤s∧s≤33000000000∧(b=0→s≠0)):
  (if a<0 then some false else if n≤a then some false else if b<0 then some false else if 33000000000<b then some false else if s<0 then some false else if 33000000000<s then some false else
   if b=0 then(if s=0 then some false else r)else r)=if P then r else some false:=by
 by_cases hP:P
 ·have:=h.1 hP
  rw[if_pos hP,if_neg (by omega),if_neg (by omega),if_neg (by omega),if_neg (by omega),if_neg (by omega),if_neg (by omega)]
  split
  ·rw[if_neg (by omega)]
  ·rfl
 ·rw[if_neg hP]
  have h2:=fun h1 h2 h3 h4 h5 h6 h7=>hP (h.2 ⟨h1,h2,h3,h4,h5,h6,h7⟩)
  repeat' split
  all_goals first|rfl|(exfalso;exact h2 (by omega) (by omega) (by omega) (by omega) (by omega) (by omega) (by omega))
theorem KX{c:aa}{l:aj}{i:Nat}(h:0<i):uw c l i↔0≤(l.getD i aQ).1∧(l.getD i aQ).1<(c.1.length:Int)∧0≤(l.getD i aQ).2.1∧(l.getD i aQ).2.1≤33000000000∧0≤(l.getD i aQ).2.2.1∧(l.getD i aQ).2.2.1≤33000000000∧((l.getD i aQ).2.1=0→(l.getD i aQ).2.2.1≠0)∧(l.getD (i-1) aQ).1<(l.getD i aQ).1:=
 ⟨fun⟨a,b,c,d,e,f,g,k⟩=>⟨a,b,c,d,e,f,g,k h⟩,fun⟨a,b,c,d,e,f,g,k⟩=>⟨a,b,c,d,e,f,g,fun _=>k⟩⟩
theorem HH{c:aa}{l:aj}{i:Nat}(h: ¬0<i):uw c l i↔0≤(l.getD i aQ).1∧(l.getD i aQ).1<(c.1.length:Int)∧0≤(l.getD i aQ).2.1∧(l.getD i aQ).2.1≤33000000000∧0≤(l.getD i aQ).2.2.1∧(l.getD i aQ).2.2.1≤33000000000∧((l.getD i aQ).2.1=0→(l.getD i aQ).2.2.1≠0):=
 ⟨fun⟨a,b,c,d,e,f,g,_⟩=>⟨a,b,c,d,e,f,g⟩,fun⟨a,b,c,d,e,f,g⟩=>⟨a,b,c,d,e,f,g,fun k=>absurd k h⟩⟩
theorem Ds(N:Nat)(hN:200000≤N)(c:aa){l:aj}(hl:l.length≤100000):lV N c l=some (gq c l):=by
 unfold lV lV.b
 refine eN (F:=fun n i=>lV.l2 N n l c l (l.length:Int) i) (uw c l) (fun n i r hi hp hr=> ?_) (fun n=> ?_) N (by omega)
 ·unfold lV.l2 lV.dr
  rw[aE (by omega),cond_true,aG (by omega) (by omega),cond_true,Int.toNat_natCast,al (x:=(i:Int)+1) (by omega) (by omega),ae,hr]
  by_cases h0:0<i
  ·have e:W .i64 ((i:Int)-1)=((i-1:Nat):Int):=by rw[al (by omega) (by omega)];omega
   dsimp only
   rw[aE (x:=0) (y:=(i:Int)) (by omega),e,Int.toNat_natCast,aG (i:=((i-1:Nat):Int)) (by omega) (by omega)]
   simp only[a8,bt,aB,cond_true]
   have hg:=KX h0 (c:=c) (l:=l)
   exact ah2 hg
  ·rw[aA (x:=0) (y:=(i:Int)) (by omega)]
   simp only[a8,bt,aB,cond_true,cond_false]
   have hg:=HH h0 (c:=c) (l:=l)
   exact ah3 hg
 ·unfold lV.l2 lV.dr
  rw[aA (by omega),cond_false,y9 N (by omega),Option.bind_some]
end VM
end
section
namespace VM
open Go VM.F
theorem UZ(N:Nat){u v:Int}(hu:bL u)(hv:bL v)(hs:bL (u-v)):KS N (bm u) (bm v)=some (bm (u-v),true):=by
 unfold KS bm
 unfold bL at*
 dsimp only
 have hp:0≤u%18446744073709551616∧u%18446744073709551616<18446744073709551616:=by omega
 have hq:0≤v%18446744073709551616∧v%18446744073709551616<18446744073709551616:=by omega
 rw[jm,jm,iH N (by omega) (by omega) (by omega) (by omega) (by omega) (by omega),Option.bind_some]
 dsimp only
 have hb:(0:Int)≤(if u%18446744073709551616<v%18446744073709551616+0 then 1 else 0)∧(if u%18446744073709551616<v%18446744073709551616+0 then(1:Int)else 0)≤1:=by split<;>omega
 rw[iH N (by omega) (by omega) (by omega) (by omega) hb.1 hb.2,Option.bind_some]
 dsimp only
 have e3:W .i64 ((u/18446744073709551616%18446744073709551616-v/18446744073709551616%18446744073709551616-(if u%18446744073709551616<v%18446744073709551616+0 then 1 else 0))%18446744073709551616)=(u-v)/18446744073709551616:=by
  by_cases h0:u%18446744073709551616<v%18446744073709551616+0
  ·rw[if_pos h0,dO];split<;>omega
  ·rw[if_neg h0,dO];split<;>omega
 have e1:(u%18446744073709551616-v%18446744073709551616-0)%18446744073709551616=(u-v)%18446744073709551616:=by omega
 rw[e3,e1]
 have key: ∀A B C:Int,A=u/18446744073709551616→B=v/18446744073709551616→C=(u-v)/18446744073709551616→(A<0∧ ¬B<0→C<0)∧(¬A<0∧B<0→ ¬C<0):=fun A B C _ _ _=>by omega
 have k:=key _ _ _ rfl rfl rfl
 simp only[nF,pe]
 by_cases a:u/18446744073709551616<0<;>by_cases b:v/18446744073709551616<0
 ·rw[decide_eq_true a,decide_eq_true b];rfl
 ·have c:=k.1 ⟨a,b⟩
  rw[decide_eq_true a,decide_eq_false b,decide_eq_true c];rfl
 ·have c:=k.2 ⟨a,b⟩
  rw[decide_eq_false a,decide_eq_true b,decide_eq_false c];rfl
 ·rw[decide_eq_false a,decide_eq_false b];rfl
theorem OC(N:Nat){v k:Int}(hv:0≤v∧v≤9223372069854775808)(hk:0≤k∧k≤1000000000):U0 N (bm v) k=some (bm (v*k),true):=by
 unfold U0
 have hm:=EO hv hk
 have h0:v/18446744073709551616=0:=by omega
 have h1:v%18446744073709551616=v:=by omega
 rw[GN N (by omega) (by omega),Option.bind_some,Ei N (by omega) (by omega),Option.bind_some,show(v.natAbs:Int)=v by omega,show(k.natAbs:Int)=k by omega,h0,h1]
 dsimp only
 rw[zZ N (by omega) (by omega) (by omega) (by omega),Option.bind_some,zZ N (by omega) (by omega) (by omega) (by omega),Option.bind_some,Int.zero_mul]
 dsimp only
 have e:bm v=((0:Int),(v,())):=by unfold bm;rw[h0,h1]
 generalize v*k=m at*
 rw[pQ N (by omega) (by omega) (by omega) (by omega),Option.bind_some,e]
 dsimp only
 have e1:(0%18446744073709551616+m/18446744073709551616+0)%18446744073709551616=m/18446744073709551616:=by omega
 have e2:(0/18446744073709551616:Int)+(0%18446744073709551616+m/18446744073709551616+0)/18446744073709551616=0:=by omega
 rw[e1,e2,bz (x:=0) (by omega) (by omega),dI,Bool.not_true,cond_false,aA (x:=0) (by omega),aA (x:=k) (by omega),nF]
 show(mg N false _ _).bind _=_
 rw[ud N (by omega) (by omega) (by omega) (by omega),Option.bind_some,show m/18446744073709551616*18446744073709551616+m%18446744073709551616=m by omega]
theorem U1(N:Nat){q:Int}{z:Int×Int}(hq:aC q)(hz:Fy z):((B8 N q).bind fun r9=>(B8 N z.1).bind fun iB=>(Hf N r9 iB).bind fun kv=>(B8 N q).bind fun lx=>(B8 N z.2).bind fun kV=>(KS N lx kV).bind fun mE=>(Hu N kv.1).bind fun pA=>(Hu N mE.1).bind fun tt=>(Cb N pA.1 tt.1).bind fun o8=>cond (aH o8 0) (some (tt.1,(0:Int))) (some (pA.1,(0:Int))))=some (bm (EM q z),0):=by
 unfold aC Fy at*
 have a1:bL q∧bL z.1∧bL z.2∧bL (q+z.1)∧bL (q-z.2):=by unfold bL;omega
 rw[mh N hq.1 hq.2,Option.bind_some,mh N (by omega) (by omega),Option.bind_some,Ey N a1.1 a1.2.1 a1.2.2.2.1,Option.bind_some,Option.bind_some,mh N (by omega) (by omega),Option.bind_some,UZ N a1.1 a1.2.2.1 a1.2.2.2.2,Option.bind_some,EG N a1.2.2.2.1 (by omega),Option.bind_some,EG N a1.2.2.2.2 (by omega),Option.bind_some,vx,Option.bind_some,a8]
 unfold EM
 have hs:mC (((q+z.1).natAbs:Int)-((q-z.2).natAbs:Int))<0↔((q+z.1).natAbs:Int)<((q-z.2).natAbs:Int):=by
  unfold mC;split<;>(try split)<;>omega
 by_cases h:((q+z.1).natAbs:Int)<((q-z.2).natAbs:Int)
 ·rw[if_pos h,if_pos (hs.2 h)]
 ·rw[if_neg h,if_neg (fun k=>h (hs.1 k))]
theorem OD(N:Nat)(hN:200000≤N){o:aj}(yx:o.length≤100000)(ho: ∀x∈o,Fy (x.2.1,x.2.2.1))(k:Int){q:Int}(hq:aC q):eH.lN N N k bI q 0 0 o (o.length:Int) 0=some (bm (EM q (yc k o (0,0))),0):=by
 have:=nG o aQ (fun n i (z:Int×Int)=>eH.lN N n k bI q z.1 z.2 o (o.length:Int) i) (fun t z=>some (bm (EM q (yc k t z)),(0:Int))) (fun i z=>Fy z) (fun n i z hi hz hr=> ?_) (fun n z hz=> ?_) o.length N 0 (0,0) (by omega) (by omega) (by omega) (by unfold Fy;decide)
 ·exact this
 ·unfold eH.lN eH.jY
  rw[aE (by omega),cond_true,aG (by omega) (by omega),cond_true,Int.toNat_natCast,al (x:=(i:Int)+1) (by omega) (by omega),ae i,aB,AX]
  by_cases h:(o.getD i aQ).1=k
  ·rw[if_pos h,if_pos h]
   exact hr ((o.getD i aQ).2.1,(o.getD i aQ).2.2.1) (ho _ (by rw[List.getD_eq_getElem?_getD,List.getElem?_eq_getElem hi];exact List.getElem_mem hi))
  ·rw[if_neg h,if_neg h]
   exact hr z hz
 ·unfold eH.lN eH.jY
  rw[aA (by omega),cond_false]
  exact U1 N hq hz
theorem RF(N:Nat)(hN:200000≤N)(c:aa){l:au}(hl:l.length≤100000)(mK: ∀y∈l,aC y.2.1){o:aj}(yx:o.length≤100000)(k:Int):eH N c l o k=some (bm (su c l o k).1,(su c l o k).2):=by
 unfold eH eH.b su
 rw[Mv N hN c hl,Option.bind_some,cond_not,Ds N hN c yx,Option.bind_some,cond_not,a8,bt]
 cases h1:mo c l with
 |false=>rfl
 |true=>
  cases h2:gq c o with
  |false=>rfl
  |true=>
   rw[cond_true,cond_true,Bool.and_true,if_pos rfl]
   by_cases h3:0≤k∧k<(c.1.length:Int)
   ·rw[if_pos h3,if_neg (by omega),if_neg (by omega)]
    have:=nG l bI (fun n i (q:Int)=>eH.l7 N n o k bI q 0 0 l (l.length:Int) i) (fun t q=>some (bm (EM (Dr k t q) (yc k o (0,0))),(0:Int))) (fun i q=>aC q) (fun n i q hi hq hr=> ?_) (fun n q hq=> ?_) l.length N 0 0 (by omega) (by omega) (by omega) (by unfold aC;omega)
    ·exact this
    ·unfold eH.l7 eH.oT
     rw[aE (by omega),cond_true,aG (by omega) (by omega),cond_true,Int.toNat_natCast,al (x:=(i:Int)+1) (by omega) (by omega),ae i,aB,AW]
     by_cases h:(l.getD i bI).1=k
     ·rw[if_pos h,if_pos h]
      exact hr _ (mK _ (by rw[List.getD_eq_getElem?_getD,List.getElem?_eq_getElem hi];exact List.getElem_mem hi))
     ·rw[if_neg h,if_neg h]
      exact hr q hq
    ·unfold eH.l7 eH.oT
     rw[aA (by omega),cond_false]
     exact OD N hN yx (MW h2) k hq
   ·rw[if_neg h3]
    by_cases h4:k<0
    ·rw[if_pos h4];rfl
    ·rw[if_neg h4,if_pos (by omega)];rfl
theorem OE{c:aa}{l:au}{o:aj}(h1:mo c l=true)(h2:gq c o=true){k:Int}(hk:0≤k∧k<(c.1.length:Int)):(su c l o k).1=vS l o k:=by
 unfold su
 rw[h1,h2,Bool.and_true,if_pos rfl,if_pos hk]
theorem RG(N:Nat)(hN:2000000≤N)(c:aa){l:au}(hl:l.length≤100000)(mK: ∀y∈l,aC y.2.1){o:aj}(yx:o.length≤100000):mU N c l o=some (bm (mT c l o).1,(mT c l o).2):=by
 unfold mU mU.b mT
 rw[Mv N (by omega) c hl,Option.bind_some,cond_not,Ds N (by omega) c yx,Option.bind_some,cond_not]
 cases h1:mo c l with
 |false=>rfl
 |true=>
  cases h2:gq c o with
  |false=>rfl
  |true=>
   rw[cond_true,cond_true,Bool.and_true,if_pos rfl]
   have h6:=HF (kU h2)
   have ah4: ∀i,i<c.1.length→0≤vS l o (i:Int)*kT c i∧vS l o (i:Int)*kT c i≤9223372069854775808000000000:=fun i hi=>EO (vT h2 mK (i:Int)) (EN (kU h2) hi)
   have hL: ∀n,n≤c.1.length→ ∀x∈qR c l o n,bL x:=by
    intro n
    induction n with
    |zero=>intro _ x hx;nomatch hx
    |succ n ih=>
     intro hn
     have:=ah4 n (by omega)
     exact uj (ih (by omega)) (by unfold bL;omega)
   have hw:=wZ (kU h2) h2 mK c.1.length (Nat.le_refl _)
   have key: ∀(m n i:Nat),c.1.length-i≤m→m<n→i≤c.1.length→mU.l5 N n l o c bI ((qR c l o i).map bm) c.1 (c.1.length:Int) (i:Int)=some (bm (mS c l o c.1.length),0):=by
    intro m n
    induction n generalizing m with
    |zero=>intro i _ hn;omega
    |succ n ih=>
     intro i hm hn hi
     unfold mU.l5 mU.c0
     by_cases h:i<c.1.length
     ·have hr:=EN (kU h2) h
      have dD:=hr
      unfold kT at dD
      have ht:=vT h2 mK (i:Int)
      rw[aE (by omega),cond_true,aG (by omega) (by omega),cond_true,RF N (by omega) c hl mK yx,Option.bind_some,OE h1 h2 ⟨by omega,by omega⟩,Int.toNat_natCast,OC N ht dD,Option.bind_some,bo (by rw[List.length_map,ux,List.length_singleton];omega),cond_true,al (x:=(i:Int)+1) (by omega) (by omega),ae i]
      have:=ih (m-1) (i+1) (by omega) (by omega) (by omega)
      rw[show qR c l o (i+1)=qR c l o i++[vS l o (i:Int)*kT c i]from rfl,List.map_append]at this
      exact this
     ·have e:i=c.1.length:=by omega
      subst e
      rw[aA (by omega),cond_false,y8 N (hL _ hi) (by rw[ux];omega) (by omega),Option.bind_some,AY]
      unfold GP
      rw[if_pos (by unfold bL;omega)]
   exact key c.1.length N 0 (by omega) (by omega) (by omega)
end VM
end
section
namespace VM
open Go VM.F
def mF(s p a:Int):Int:=if s=2 then a-p else p-a
def Dt(q s p a:Int):Int:=if mF s p a<0 then 0 else q*mF s p a
def ah5(o:cq)(a:Int):Int:=Dt (oQ o) o.2.2.2.1 o.2.2.2.2.2.1 a
def qS(o:cq)(a:Int):Int×Int:=if gk o∧bw a then(ah5 o a,0)else(0,1)
theorem HI{q s p a:Int}(hq:1≤q∧q≤1000000000)(hp:bw p)(ha:bw a): -1000000000000000000000≤q*mF s p a∧q*mF s p a≤1000000000000000000000∧(q*mF s p a<0↔mF s p a<0)∧ -1000000000000≤mF s p a∧mF s p a≤1000000000000:=by
 have hd: -1000000000000≤mF s p a∧mF s p a≤1000000000000:=by
  unfold mF bw at*
  split<;>omega
 generalize mF s p a=d at*
 have h1: -(q*1000000000000)≤q*d:=by
  rw[←Int.mul_neg];exact Int.mul_le_mul_of_nonneg_left (by omega) (by omega)
 have h2:q*d≤q*1000000000000:=Int.mul_le_mul_of_nonneg_left (by omega) (by omega)
 refine⟨by omega,by omega,⟨fun h=> ?_,fun h=> ?_⟩,hd⟩
 ·by_cases h0:d<0
  ·exact h0
  ·have:=Int.mul_nonneg (a:=q) (b:=d) (by omega) (by omega)
   omega
 ·have:q*d≤q*(-1):=Int.mul_le_mul_of_nonneg_left (by omega) (by omega)
  omega
theorem OF(o:cq)(a:Int):0≤(qS o a).1∧(qS o a).1≤1000000000000000000000:=by
 unfold qS
 by_cases h:gk o∧bw a
 ·rw[if_pos h]
  obtain⟨ho,ha⟩:=h
  unfold gk jb at ho
  have:=HI (s:=o.2.2.2.1) (q:=oQ o) ho.2.2.2.2.1 ho.2.2.2.2.2 ha
  show 0≤Dt _ _ _ _∧Dt _ _ _ _≤_
  unfold Dt
  split<;>omega
 ·rw[if_neg h];decide
def RH(b:ag)(a:Int):bh:=(dx b.2.1 a).1
def AZ(b:ag)(a:Int):Int:=(RH b a).2.2.2.1
def U2(b:ag)(a:Int):Int:=lG b.1 (RH b a).2.1
def sv(b:ag)(o:cq):aj:=qQ (b.2.2.2.2.2.1++[o]) o.2.1
def EP(c:aa)(b:ag)(o:cq):Int:=
 if AZ b o.2.1<(su c (posOf b.2.2.2.1 o.2.1) (sv b o) (oI o)).1 then 9 else
 if tI b.2.2.1 5 o.2.1-(qS o (b.2.2.2.2.1.getD (oI o).toNat 0)).1<(mT c (posOf b.2.2.2.1 o.2.1) (sv b o)).1 then 10 else 0
def iS(c:aa)(b:ag)(o:cq):Int:=
 if bV c b then(if gk o then(if(dx b.2.1 o.2.1).2 then(if U2 b o.2.1=1 then(if(c.1.length:Int)≤oI o then 3 else EP c b o)else 7)else 3)else 1)else 1
theorem OG(N:Nat){q s p a:Int}(hq:1≤q∧q≤1000000000)(hp:bw p)(ha:bw a):((B7 N q (W .i64 (p-a))).bind fun r4=>cond (ay s 2) ((B7 N q (W .i64 (a-p))).bind fun r6=>(Py N r6).bind fun r7=>cond (aH r7 0) (some (bI,(0:Int))) (some (r6,(0:Int)))) ((Py N r4).bind fun r8=>cond (aH r8 0) (some (bI,(0:Int))) (some (r4,(0:Int)))))=some (bm (Dt q s p a),0):=by
 have hn:=HI (s:=s) hq hp ha
 unfold bw at hp ha
 have hs: ∀d:Int,mC (q*d)<0↔q*d<0:=fun d=>by unfold mC;split<;>(try split)<;>omega
 rw[al (x:=p-a) (by omega) (by omega),vn N (by omega) (by omega) (by omega) (by omega),Option.bind_some,aB,al (x:=a-p) (by omega) (by omega),vn N (by omega) (by omega) (by omega) (by omega),Option.bind_some,nI,nI,Option.bind_some,Option.bind_some,a8,a8]
 unfold Dt
 by_cases h:s=2
 ·have e:mF s p a=a-p:=by unfold mF;rw[if_pos h]
  rw[if_pos h]
  rw[e]at hn ⊢
  have:=hs (a-p)
  by_cases h1:a-p<0
  ·rw[if_pos h1,if_pos (this.2 (hn.2.2.1.2 h1))];rfl
  ·rw[if_neg h1,if_neg (fun k=>h1 (hn.2.2.1.1 (this.1 k)))]
 ·have e:mF s p a=p-a:=by unfold mF;rw[if_neg h]
  rw[if_neg h]
  rw[e]at hn ⊢
  have:=hs (p-a)
  by_cases h1:p-a<0
  ·rw[if_pos h1,if_pos (this.2 (hn.2.2.1.2 h1))];rfl
  ·rw[if_neg h1,if_neg (fun k=>h1 (hn.2.2.1.1 (this.1 k)))]
theorem U3(N:Nat)(o:cq)(a:Int):RI N o a=some (bm (qS o a).1,(qS o a).2):=by
 unfold RI qS
 rw[Kq,Option.bind_some,cond_not,cN,qJ,Option.bind_some,cond_not,cN]
 by_cases ho:gk o
 ·rw[if_pos ho]
  by_cases ha:bw a
  ·rw[if_pos ha,if_pos ⟨ho,ha⟩]
   unfold gk jb at ho
   exact OG N ho.2.2.2.2.1 ho.2.2.2.2.2 ha
  ·rw[if_neg ha,if_neg (fun h=>ha h.2)];rfl
 ·rw[if_neg ho,if_neg (fun h=>ho h.1)];rfl
theorem ES{f:Int→Int×Int}{x:bW}: ∀m k,x∈Hw f m k→ ∃j:Int,x=nz j (f j)
 |0,_,hx=>nomatch hx
 |m+1,k,hx=>by
  rw[iL]at hx
  split at hx
  ·rcases List.mem_cons.1 hx with rfl|hx
   ·exact⟨_,rfl⟩
   ·exact ES m (k+1) hx
  ·exact ES m (k+1) hx
theorem OH{l:aT}(h:KW l)(hl:l.length≤33)(a:Int): ∀x∈qQ l a,Fy (x.2.1,x.2.2.1):=fun x hx=>by
 obtain⟨j,rfl⟩:=ES 6 0 hx
 have:=EL h a j
 unfold zh at this
 show 0≤(Oz l a j).1∧(Oz l a j).1≤33000000000∧0≤(Oz l a j).2∧(Oz l a j).2≤33000000000
 omega
theorem Du(id:Int): ∀a:aD,(sb id a).2=true→(sb id a).1∈a
 |[],h=>nomatch h
 |x::t,h=>by
  rw[qD]at h ⊢
  by_cases e:x.1=id
  ·rw[if_pos e];exact List.mem_cons_self ..
  ·rw[if_neg e]at h ⊢;exact List.mem_cons_of_mem _ (Du id t h)
theorem acu{b:ag}{a:Int}(h:(dx b.2.1 a).2=true):0≤AZ b a∧AZ b a≤1000000000000:=by
 unfold AZ RH
 unfold dx at h ⊢
 by_cases hk:jT b.2.1=true
 ·rw[if_pos hk]at h ⊢
  obtain⟨i,hi,e⟩:=List.getElem_of_mem (Du a b.2.1 h)
  unfold jT at hk
  rw[Bool.and_true]at hk
  have:=(of_decide_eq_true hk i hi).1
  rw[List.getD_eq_getElem?_getD,List.getElem?_eq_getElem hi,Option.getD_some,e]at this
  unfold jc at this
  exact this.2.2.2
 ·rw[if_neg hk]at h;nomatch h
theorem Cg{c:aa}{b:ag}(h:bV c b=true):eO b.2.2.2.2.2.1=true:=by
 unfold bV at h
 simp only[Bool.and_eq_true]at h
 exact h.2.2.2.2.2.1
theorem OI(l:aT)(a:Int):(qQ l a).length≤6:=EK _ 6 0
theorem RJ(b:ag)(o:cq):(sv b o).length≤6:=EK _ 6 0
theorem HJ(x:Int):0<mC x↔0<x:=by unfold mC;split<;>(try split)<;>omega
theorem HK(x:Int):mC x<0↔x<0:=by unfold mC;split<;>(try split)<;>omega
theorem HL(N:Nat)(hN:4000000≤N)(c:aa){b:ag}(w:fi b)(o:cq):F50 N c b o=some (iS c b o):=by
 unfold F50 iS
 rw[zd N hN w,Option.bind_some,cond_not,Kq,Option.bind_some,cond_not,cN,Mu N w.a (by omega),Option.bind_some,cond_not,wO N w.m (by omega),Option.bind_some,cond_not,aB,bt]
 by_cases hB:bV c b=false
 ·rw[hB];rfl
 rw[Bool.not_eq_false]at hB
 rw[hB,cond_true,if_pos rfl]
 by_cases ho:gk o
 ·rw[if_pos ho,if_pos ho]
  cases hf:(dx b.2.1 o.2.1).2 with
  |false=>rfl
  |true=>
   rw[cond_true,if_pos rfl]
   show(if U2 b o.2.1=1 then _ else _)=_
   by_cases hs:U2 b o.2.1=1
   ·rw[if_pos hs,if_pos hs]
    show(if(c.1.length:Int)≤oI o then _ else _)=_
    by_cases hi:(c.1.length:Int)≤oI o
    ·rw[if_pos hi,if_pos hi]
    ·rw[if_neg hi,if_neg hi]
     have hor:=Cg hB
     obtain⟨hq,h32⟩:=Hy hor
     have Te:=ho
     unfold gk jb at Te
     have mK:=Hb w.qs o.2.1
     have nC:=acu hf
     have BF:=C0 o.2.1 b.2.2.2.1
     have J4:=w.s
     have BL:=RJ b o
     have hw:=HG c (sv b o) mK
     have ht:=OB c (sv b o) mK (oI o)
     have hL:=OF o (b.2.2.2.2.1.getD (oI o).toNat 0)
     have hg:=Ha w.qr 5 o.2.1
     obtain⟨B3,_⟩:=cP hB
     have h0:0≤oI o:=Te.2.2.1.1
     rw[aaw N w.s (by omega),Option.bind_some,RB N (by omega) w.o,Option.bind_some,if_pos hor,UY N (by omega) (o:=o) Te.2.2.2.2.1 (Nat.le_trans (OI _ o.2.1) (by decide)) (OH hq (by omega) _),Option.bind_some,HA hq ho]
     show((eH N c (posOf b.2.2.2.1 o.2.1) (sv b o) (oI o)).bind fun r8=>(B8 N (AZ b o.2.1)).bind fun r9=>(Cb N r8.1 r9).bind fun iB=>cond (aH 0 iB) (some (9:Int)) ((mU N c (posOf b.2.2.2.1 o.2.1) (sv b o)).bind fun kv=>cond (aL (oI o) (List.length b.2.2.2.2.1)) ((RI N o (List.getD b.2.2.2.2.1 (oI o).toNat (0:Int))).bind fun lx=>(Hf N kv.1 lx.1).bind fun kV=>(lO N b.2.2.1 (5:Int) o.2.1).bind fun mE=>(U4 N mE kV.1).bind fun pA=>cond (!pA) (some (10:Int)) (some (0:Int))) (none)))=some (EP c b o)
     unfold aC at hg
     rw[RF N (by omega) c (by omega) mK (by omega),Option.bind_some,mh N (by omega) (by omega),Option.bind_some,vx,Option.bind_some,a8,RG N (by omega) c (by omega) mK (by omega),Option.bind_some,aG h0 (by omega),cond_true,U3,Option.bind_some,Ey N (by unfold bL;omega) (by unfold bL;omega) (by unfold bL;omega),Option.bind_some,UM N w.r (by omega),Option.bind_some]
     unfold U4 EP
     rw[mh N hg.1 hg.2,Option.bind_some,vx,Option.bind_some,Option.bind_some,cond_not,bt]
     have s1:=HJ ((su c (posOf b.2.2.2.1 o.2.1) (sv b o) (oI o)).1-AZ b o.2.1)
     by_cases h1:AZ b o.2.1<(su c (posOf b.2.2.2.1 o.2.1) (sv b o) (oI o)).1
     ·rw[if_pos h1,if_pos (by omega)]
     ·rw[if_neg h1,if_neg (by omega)]
      have s2:=HK (tI b.2.2.1 5 o.2.1-((mT c (posOf b.2.2.2.1 o.2.1) (sv b o)).1+(qS o (b.2.2.2.2.1.getD (oI o).toNat 0)).1))
      by_cases h2:tI b.2.2.1 5 o.2.1-(qS o (b.2.2.2.2.1.getD (oI o).toNat 0)).1<(mT c (posOf b.2.2.2.1 o.2.1) (sv b o)).1
      ·rw[if_pos h2,if_neg (by omega)]
      ·rw[if_neg h2,if_pos (by omega)]
   ·rw[if_neg hs,if_neg hs]
 ·rw[if_neg ho,if_neg ho]
end VM
end
section
namespace VM
open Go VM.F
def zj(q:Int):Prop:=1≤q∧q≤1000000000
instance(q:Int):Decidable (zj q):=by unfold zj;infer_instance
def sx(a b c d:Int):Prop:=(1≤a∧a≤1099511627776)∧(0≤b∧b<6)∧(c=1∨c=2)∧zj d
instance(a b c d:Int):Decidable (sx a b c d):=by unfold sx;infer_instance
def iT(h:bh):Prop:=sx h.1 h.2.1 h.2.2.1 h.2.2.2.1
instance(h:bh):Decidable (iT h):=by unfold iT;infer_instance
theorem U5(N:Nat)(q:Int):KY N q=some (decide (zj q)):=by
 unfold KY
 rw[jI q,dV]
 congr 1
 rw[Bool.eq_iff_iff,decide_eq_true_iff]
 unfold zj
 simp only[Bool.and_eq_true,decide_eq_true_eq]
theorem sy(N:Nat)(h:bh):RK N h=some (decide (iT h)):=by
 unfold RK
 rw[jI h.2.2.2.1]
 rw[dV,Af,wM,Ae,dV,dV,dV]
 congr 1
 rw[Bool.eq_iff_iff,decide_eq_true_iff]
 unfold iT sx zj
 simp only[Bool.and_eq_true,Bool.or_eq_true,Bool.not_eq_true',decide_eq_true_eq,decide_eq_false_iff_not]
 omega
theorem tM(N:Nat)(h:bh):F48 N h=some (decide (iT h)):=by
 rw[←sy N h]
 unfold F48 RK KY
 have e: ∀x:Option Bool,(x.bind fun r=>some r)=x:=fun x=>by cases x<;>rfl
 rw[e]
def vU(h:bh)(a q p:Int):cq:=(h.1,(a,(h.2.1,((3-h.2.2.1:Int),(q,(p,()))))))
def nT(h:bh)(a q p:Int):fZ:=if h.2.2.1=1 then((0:Int),(a,(h.2.1,(q,(p,())))))else(a,((0:Int),(h.2.1,(q,(p,())))))
def Dv(c:aa)(b:ag)(h:bh)(q:Int)(r:ag×Int):ag×bh×Int:=
 if r.2=0 then(r.1,(h.1,(h.2.1,(h.2.2.1,((h.2.2.2.1-q:Int),())))),0)else((bF,(cc,(aY,(aY,(cv,(cF,())))))),aJ,r.2)
def Dw(c:aa)(b:ag)(h:bh)(a q p:Int):ag×bh×Int:=
 if iS c b (vU h a q p)=0 then Dv c b h q (j1 c b [nT h a q p])else((bF,(cc,(aY,(aY,(cv,(cF,())))))),aJ,iS c b (vU h a q p))
def dK(c:aa)(b:ag)(h:bh)(a q p:Int):ag×bh×Int:=
 if bV c b then(if iT h then(if zj q then(if bw p then(if h.2.2.2.1<q then((bF,(cc,(aY,(aY,(cv,(cF,())))))),aJ,9)else Dw c b h a q p)else((bF,(cc,(aY,(aY,(cv,(cF,())))))),aJ,1))else((bF,(cc,(aY,(aY,(cv,(cF,())))))),aJ,1))else((bF,(cc,(aY,(aY,(cv,(cF,())))))),aJ,1))else((bF,(cc,(aY,(aY,(cv,(cF,())))))),aJ,1)
theorem ET(N:Nat)(hN:4000000≤N)(c:aa){b:ag}(w:sY b)(h:bh)(a q p:Int):A0 N c b h a q p=some (dK c b h a q p):=by
 unfold A0 A0.b dK
 rw[zd N hN w.w,Option.bind_some,cond_not,tM,Option.bind_some,cond_not,cN,U5,Option.bind_some,cond_not,cN,qJ,Option.bind_some,cond_not,cN,a8]
 by_cases hB:bV c b=false
 ·rw[hB];rfl
 rw[Bool.not_eq_false]at hB
 rw[hB,cond_true,if_pos rfl]
 by_cases hh:iT h
 ·rw[if_pos hh,if_pos hh]
  by_cases hq:zj q
  ·rw[if_pos hq,if_pos hq]
   by_cases hp:bw p
   ·rw[if_pos hp,if_pos hp]
    by_cases hl:h.2.2.2.1<q
    ·rw[if_pos hl,if_pos hl]
    ·rw[if_neg hl,if_neg hl]
     have S8:=hh
     unfold iT sx at S8
     have hg: ∀s:Int,s=1∨s=2→W .i64 (3-s)=3-s:=fun s hs=>al (by omega) (by omega)
     have Nk: ∀x:Int,zj x→zj q→W .i64 (x-q)=x-q:=fun x hx hq=>by unfold zj at*;exact al (by omega) (by omega)
     rw[hg _ S8.2.2.1]
     show((F50 N c b (vU h a q p)).bind fun r6=>_)=some (Dw c b h a q p)
     rw[HL N hN c w.w,Option.bind_some,cond_not,aB]
     unfold Dw
     by_cases h0:iS c b (vU h a q p)=0
     ·rw[if_pos h0,if_pos h0,aB]
      have fin: ∀t:fZ,t=nT h a q p→A0.j12 N q c b h (bF,(cc,(aY,(aY,(cv,(cF,())))))) aJ t=some (Dv c b h q (j1 c b [nT h a q p])):=fun t e=>by
       subst e
       unfold A0.j12 A0.acv Dv
       rw[On N hN c w (by rw[List.length_singleton];omega),Option.bind_some,cond_not,aB,Nk _ S8.2.2.2 hq]
       split<;>rfl
      by_cases h1:h.2.2.1=1
      ·rw[if_pos h1];exact fin _ (by unfold nT;rw[if_pos h1])
      ·rw[if_neg h1];exact fin _ (by unfold nT;rw[if_neg h1])
     ·rw[if_neg h0,if_neg h0]
   ·rw[if_neg hp,if_neg hp]
  ·rw[if_neg hq,if_neg hq]
 ·rw[if_neg hh,if_neg hh]
end VM
end
section
namespace VM
open Go VM.F Go.RowKit
theorem A2(c:aa)(b:ag)(next:Int): ∀m k out,(ss c b next m k out).length≤out.length+m
 |0,_,_=>Nat.le_refl _
 |m+1,k,out=>by
  rw[p3]
  have h1:=A2 c b next m (k+1) out
  split
  ·omega
  ·split
   ·omega
   ·refine Nat.le_trans (A2 c b next m (k+1) _) ?_
    rw[List.length_append,List.length_singleton];omega
theorem KZ(c:aa)(b:ag)(next:Int):(eR c b next).1.length≤100000:=by
 unfold eR
 split
 ·split
  ·exact Nat.le_trans (A2 c b next 4 0 []) (by decide)
  ·exact Nat.zero_le _
 ·exact Nat.zero_le _
theorem EU{c:aa}{b:ag}(w:fi b)(l:aX):Aw (j1 c b l).1:=by
 unfold j1
 repeat' split
 all_goals first|exact G9 w _ _|exact nh
theorem A3{c:aa}{b:ag}(w:fi b)(h:bh)(a q p:Int):Aw (dK c b h a q p).1:=by
 have hr: ∀r:ag×Int,Aw r.1→Aw (Dv c b h q r).1:=fun r hr=>by
  unfold Dv
  split
  ·exact hr
  ·exact nh
 have hc:Aw (Dw c b h a q p).1:=by
  unfold Dw
  split
  ·exact hr _ (EU w _)
  ·exact nh
 unfold dK
 repeat' split
 all_goals first|exact hc|exact nh
def hC:aa:=([((0:Int),((100:Int),((1:Int),((0:Int),())))),((0:Int),((7:Int),bI))],((0:Int),((0:Int),((0:Int),((0:Int),((1:Int),((10:Int),())))))))
def hR:aj:=[((1:Int),((0:Int),((-90:Int),()))),((5:Int),((1:Int),((90:Int),())))]
def hS:aj:=[((0:Int),((0:Int),((5:Int),()))),((0:Int),((1:Int),((20:Int),()))),((1:Int),((0:Int),((-5:Int),()))),((1:Int),((1:Int),((-20:Int),())))]
def hB:ag:=([((1:Int),((1:Int),()))],([((1:Int),((1:Int),((1:Int),((50:Int),()))))],(hR,(hS,([(100:Int),(7:Int)],(cF,()))))))
def hO:bh:=((4:Int),((0:Int),((2:Int),((6:Int),()))))
theorem hW:sY hB:=⟨⟨by decide,by decide,by decide,by decide,by decide,by decide,MH (l:=hR) (by decide),MH (l:=hS) (by decide)⟩,by decide,by decide⟩
theorem hOk:bV hC hB=true:=by kernel_rfl
theorem hN0:bG hC hB 0=640:=by kernel_rfl
theorem hOr:eR hC hB 4=([hO],0):=by kernel_rfl
theorem Fu:(dK hC hB hO 1 2 99).2.2=0:=by kernel_rfl
theorem anw:(dK hC hB hO 1 2 99).2.1.2.2.2.1=4:=by kernel_rfl
theorem anx:dX (dK hC hB hO 1 2 99).1.2.2.2.1 0 0=3:=by kernel_rfl
theorem anz:tI (dK hC hB hO 1 2 99).1.2.2.1 2 0= -2:=by kernel_rfl
theorem hF7:(dK hC hB hO 1 7 99).2.2=9:=by kernel_rfl
theorem hRi:iT hO:=by decide
theorem hWn:(bm 640).2.1=640:=by kernel_rfl
theorem OJ(N:Nat)(hN:5000000≤N):F38 N=some true:=by
 unfold F38 F99
 rw[Option.bind_some]
 show(wm N hC hB).bind _=_
 rw[MR N (by omega) hC hW.w,Option.bind_some,hOk,if_pos rfl]
 show(qP N hC hB 4).bind _=_
 rw[KU N (by omega) hC (by decide) hW.w,Option.bind_some,hOr]
 have sh:=A3 (c:=hC) hW.w hO 1 2 99
 dsimp only
 have hl1:([hO]:aD).length=1:=rfl
 have hl4:(gb (bG hC hB)).length=4:=rfl
 rw[hl1,hl4,dI,Bool.not_true,cond_false,cond_false,cG (x:=((4:Nat):Int)) (y:=4) (by omega),cG (x:=((1:Nat):Int)) (y:=1) (by omega),Bool.not_true,cond_false,cond_false,aG (i:=0) (n:=1) (by omega) (by omega),aG (i:=0) (n:=4) (by omega) (by omega),cond_true]
 show(A0 N hC hB hO 1 2 99).bind _=_
 rw[ET N (by omega) hC hW,Option.bind_some,cond_true]
 show(A0 N hC hB hO 1 7 99).bind _=_
 rw[ET N (by omega) hC hW,Option.bind_some,cond_true]
 show cond (ay (bm (bG hC hB 0)).2.1 640) (cond true (cond (kZ cU hO hO) (cond (ay (dK hC hB hO 1 2 99).2.2 0) (cond (ay (dK hC hB hO 1 2 99).2.1.2.2.2.1 4) ((tJ N (dK hC hB hO 1 2 99).1.2.2.2.1 0 0).bind fun r6=>cond (ay r6 3) ((ri N (dK hC hB hO 1 2 99).1.2.2.1 2 0).bind fun r7=>cond (ay r7 (-2)) (cond (ay (dK hC hB hO 1 7 99).2.2 9) (cond true ((F48 N hO).bind fun r8=>some r8) none) (some false)) (some false)) (some false)) (some false)) (some false)) (some false)) none) (some false)=some true
 rw[hN0,hWn,dI,cond_true,cond_true,show kZ cU hO hO=true from KD hO,cond_true,Fu,dI,cond_true,anw,dI,cond_true,o3 N sh.s (by omega),Option.bind_some,anx,dI,cond_true,Rg N sh.r (by omega),Option.bind_some,anz,dI,cond_true,hF7,dI,cond_true,cond_true,tM,Option.bind_some,decide_eq_true hRi]
namespace Pure
end Pure
end VM
end
section
namespace VM
open Go VM.F
def Ok{α:Type}(P:α→Prop)(o:Option α):Prop:= ∃r,o=some r∧P r
theorem ah{α:Type}{P:α→Prop}{r:α}(h:P r):Ok P (some r):=⟨r,rfl,h⟩
theorem af{α β:Type}{P:β→Prop}{Q:α→Prop}{o:Option α}{f:α→Option β}(h:Ok Q o)(hf: ∀r,Q r→Ok P (f r)):Ok P (o.bind f):=by
 obtain⟨r,rfl,hr⟩:=h
 exact hf r hr
theorem lW{α:Type}{P:α→Prop}{o:Option α}{r:α}(h:o=some r)(hr:P r):Ok P o:=⟨r,h,hr⟩
theorem qT{α:Type}{P:α→Prop}{b:Bool}{x y:Option α}(hx:b=true→Ok P x)(hy:b=false→Ok P y):Ok P (cond b x y):=by
 cases b
 ·exact hy rfl
 ·exact hx rfl
theorem bH{α:Type}{P:α→Prop}{b:Bool}{x y:Option α}(hx:b=false→Ok P x)(hy:b=true→Ok P y):Ok P (cond (!b) x y):=by
 cases b
 ·exact hx rfl
 ·exact hy rfl
theorem av{α:Type}{P:α→Prop}{a b:Int}{x y:Option α}(hx:a<b→Ok P x)(hy:b≤a→Ok P y):Ok P (cond (aH a b) x y):=by
 rw[a8]
 split
 ·exact hx (by assumption)
 ·exact hy (by omega)
theorem dv{α:Type}{P:α→Prop}{a b:Int}{x y:Option α}(hx:a≤b→Ok P x)(hy:b<a→Ok P y):Ok P (cond (bU a b) x y):=by
 rw[bt]
 split
 ·exact hx (by assumption)
 ·exact hy (by omega)
theorem ok_eq{α:Type}{P:α→Prop}{a b:Int}{x y:Option α}(hx:a=b→Ok P x)(hy:a≠b→Ok P y):Ok P (cond (ay a b) x y):=by
 rw[aB]
 split
 ·exact hx (by assumption)
 ·exact hy (by assumption)
theorem bE{α:Type}{P:α→Prop}{a b:Int}{x y:Option α}(hx:a≠b→Ok P x)(hy:a=b→Ok P y):Ok P (cond (!ay a b) x y):=by
 rw[cond_not];exact ok_eq hy hx
theorem ax{α:Type}{P:α→Prop}{i:Int}{n:Nat}{x y:Option α}(h:0≤i∧i<(n:Int))(hx:Ok P x):Ok P (cond (aL i n) x y):=by
 rw[aG h.1 h.2];exact hx
theorem aF{α:Type}{P:α→Prop}{n:Nat}{x y:Option α}(h:n<68719476736)(hx:Ok P x):Ok P (cond (small n) x y):=by
 rw[bo h];exact hx
theorem U6{α:Type}{P:α→Prop}{l c:Int}{x y:Option α}(h:0≤l∧l≤c∧c<68719476736)(hx:Ok P x):Ok P (cond (fX l c) x y):=by
 rw[bC h.1 h.2.1 h.2.2];exact hx
theorem EV{α:Type}{P:α→Prop}{l h m n:Int}{x y:Option α}(hh:0≤l∧l≤h∧h≤m∧m≤n)(hx:Ok P x):Ok P (cond (gD l h m n) x y):=by
 rw[cw hh.1 hh.2.1 hh.2.2.1 hh.2.2.2];exact hx
theorem iU{σ β:Type}{P:β→Prop}{F:Nat→Int→σ→Option β}{len:Nat}(I:Nat→σ→Prop)
  (hs: ∀n i s,i<len→I i s→(∀s',I (i+1) s'→Ok P (F n ((i+1:Nat):Int) s'))→Ok P (F (n+1) (i:Int) s)) (he: ∀n s,I len s→Ok P (F (n+1) (len:Int) s)):
  ∀m n i s,len-i≤m→m<n→i≤len→I i s→Ok P (F n (i:Int) s)
 |m,0,i,s,_,hn,_,_=>by omega
 |m,n+1,i,s,hm,hn,hi,hI=>by
  by_cases h:i<len
  ·exact hs n i s h hI fun s' tE=>iU I hs he (m-1) n (i+1) s' (by omega) (by omega) (by omega) tE
  ·have:i=len:=by omega
   subst this
   exact he n s hI
theorem bq{σ β:Type}{P:β→Prop}{F:Nat→Int→σ→Option β}{len:Nat}(I:Nat→σ→Prop){N:Nat}{s:σ}(h0:I 0 s)(hN:len<N)
  (hs: ∀n i s,i<len→I i s→(∀s',I (i+1) s'→Ok P (F n ((i+1:Nat):Int) s'))→Ok P (F (n+1) (i:Int) s)) (he: ∀n s,I len s→Ok P (F (n+1) (len:Int) s)):Ok P (F N 0 s):=
 iU I hs he len N 0 s (by omega) hN (by omega) h0
theorem ka{β:Type}{P:β→Prop}{F:Nat→Int→Option β}{len N:Nat}(hN:len<N)
  (hs: ∀n i,i<len→Ok P (F n ((i+1:Nat):Int))→Ok P (F (n+1) (i:Int))) (he: ∀n,Ok P (F (n+1) (len:Int))):Ok P (F N 0):=
 bq (σ:=Unit) (F:=fun n i _=>F n i) (fun _ _=>True) (s:=()) trivial hN (fun n i _ h _ hr=>hs n i h (hr () trivial)) fun n _ _=>he n
theorem zk{σ β:Type}{P:β→Prop}{F:Nat→Int→σ→Option β}(I:Nat→σ→Prop)
  (hs: ∀n (k:Nat) s,I (k+1) s→(∀s',I k s'→Ok P (F n (k:Int) s'))→Ok P (F (n+1) ((k+1:Nat):Int) s)) (he: ∀n s,I 0 s→Ok P (F (n+1) 0 s)):
  ∀(k n:Nat) s,k<n→I k s→Ok P (F n (k:Int) s)
 |0,0,s,hn,_=>by omega
 |0,n+1,s,hn,hI=>he n s hI
 |k+1,0,s,hn,_=>by omega
 |k+1,n+1,s,hn,hI=>hs n k s hI fun s' tE=>zk I hs he k n s' (by omega) tE
def G(m:Nat):(τ:Ty)→τ.den→Prop
 | .int .i64,x=>aC x
 | .int .u64,x=>0≤x∧x<18446744073709551616
 | .slice e,l=>List.length l≤m∧ ∀x∈(l:List e.den),G m e x
 | .pair a b,x=>G m a x.1∧G m b x.2
 |_,_=>True
theorem G.mono{m n:Nat}(h:m≤n): ∀{τ:Ty} {x:τ.den},G m τ x→G n τ x
 | .int k,x,hx=>by cases k<;>exact hx
 | .slice e,l,hl=>⟨Nat.le_trans hl.1 h,fun x hx=>G.mono h (hl.2 x hx)⟩
 | .pair a b,x,hx=>⟨G.mono h hx.1,G.mono h hx.2⟩
 | .bool,_,_=>trivial
 | .str,_,_=>trivial
 | .unit,_,_=>trivial
 | .arr _ _,_,_=>trivial
theorem G.nil{m:Nat}{e:Ty}:G m (.slice e) ([]:List e.den):=⟨Nat.zero_le _,fun x hx=>nomatch hx⟩
theorem G.app{m:Nat}{e:Ty}{l:List e.den}{x:e.den}(h:G m (.slice e) l)(hx:G m e x):G (m+1) (.slice e) (l++[x]):=
 ⟨by have:=h.1;rw[List.length_append,List.length_singleton];omega,fun y hy=>by
  rcases List.mem_append.1 hy with hy|hy
  ·exact G.mono (by omega) (h.2 y hy)
  ·rw[List.mem_singleton.1 hy];exact G.mono (by omega) hx⟩
theorem G.get{m:Nat}{e:Ty}{l:List e.den}{d:e.den}(h:G m (.slice e) l)(hd:G m e d)(k:Nat):G m e (l.getD k d):=by
 by_cases hk:k<l.length
 ·rw[List.getD_eq_getElem?_getD,List.getElem?_eq_getElem hk];exact h.2 _ (List.getElem_mem hk)
 ·rw[List.getD_eq_getElem?_getD,List.getElem?_eq_none (by omega)];exact hd
theorem G.zero(m:Nat): ∀τ:Ty,G m τ τ.zero
 | .int k=>by cases k<;>first|trivial|exact⟨by decide,by decide⟩
 | .slice _=>G.nil
 | .pair a b=>⟨G.zero m a,G.zero m b⟩
 | .bool=>trivial
 | .str=>trivial
 | .unit=>trivial
 | .arr _ _=>trivial
theorem G.at{m:Nat}{e:Ty}{l:List e.den}(h:G m (.slice e) l)(k:Nat):G m e (l.getD k e.zero):=h.get (G.zero m e) k
theorem G.set{m:Nat}{e:Ty}{l:List e.den}{x:e.den}(h:G m (.slice e) l)(hx:G m e x)(k:Nat):G m (.slice e) (l.set k x):=
 ⟨by rw[List.length_set];exact h.1,fun y hy=>by
  rcases List.mem_or_eq_of_mem_set hy with hy|rfl
  ·exact h.2 y hy
  ·exact hx⟩
theorem dY(x:Int):aC (W .i64 x):=by
 rw[dO];unfold aC;split<;>omega
def Bg(k:Nat)(z:aw):Prop:= ∃v,z=b9 v∧Fit v k
theorem Bg.mono{j k:Nat}{z:aw}(h:Bg j z)(hk:j≤k):Bg k z:=by
 obtain⟨v,e,f⟩:=h
 exact⟨v,e,Fit.mono f hk⟩
theorem Bg.zero:Bg 1 (false,(([]:List Int),())):=⟨0,jn.symm,by unfold Fit;decide⟩
theorem a7(N:Nat)(hN:4000000≤N){x:Int}(h:aC x):Ok (Bg 2) (gN N x):=lW (fg N (by omega) h.1 h.2) ⟨x,rfl,Fit.i64 h.1 h.2⟩
theorem ig(N:Nat)(hN:4000000≤N){k:Nat}(hk:k≤90000){u v:aw}(hu:Bg k u)(hv:Bg k v):Ok (Bg (k+1)) (vk N u v):=by
 obtain⟨a,rfl,ha⟩:=hu
 obtain⟨b,rfl,hb⟩:=hv
 exact lW (jR N hN (Fit.mono ha (by omega)) (Fit.mono hb (by omega))) ⟨_,rfl,Fit.add ha hb⟩
theorem vV(N:Nat)(hN:4000000≤N){k:Nat}(hk:k≤90000){u v:aw}(hu:Bg k u)(hv:Bg k v):Ok (Bg (k+1)) (Mp N u v):=by
 obtain⟨a,rfl,ha⟩:=hu
 obtain⟨b,rfl,hb⟩:=hv
 exact lW (sT N hN (Fit.mono ha (by omega)) (Fit.mono hb (by omega))) ⟨_,rfl,by rw[Int.sub_eq_add_neg];exact Fit.add ha (Fit.neg hb)⟩
theorem p4(N:Nat)(hN:4000000≤N){k:Nat}(hk:k≤90000){u:aw}(hu:Bg k u):Ok (Bg k) (Pw N u):=by
 obtain⟨a,rfl,ha⟩:=hu
 exact lW (sS N hN (Fit.mono ha (by omega))) ⟨_,rfl,Fit.neg ha⟩
theorem sA(N:Nat)(hN:4000000≤N){k:Nat}(hk:k≤90000){u:aw}(hu:Bg k u):Ok (Bg k) (QK N u):=by
 obtain⟨a,rfl,ha⟩:=hu
 exact lW (GJ N hN (Fit.mono ha (by omega))) ⟨_,rfl,Fit.of_le ha (by omega)⟩
theorem kb(N:Nat)(hN:4000000≤N){j k:Nat}(hj:j≤90000)(hk:k≤90000){u v:aw}(hu:Bg j u)(hv:Bg k v):Ok (Bg (j+k)) (gv N u v):=by
 obtain⟨a,rfl,ha⟩:=hu
 obtain⟨b,rfl,hb⟩:=hv
 exact lW (Aa N hN (Fit.mono ha hj) (Fit.mono hb hk)) ⟨_,rfl,Fit.mul ha hb⟩
theorem zl(N:Nat){k:Nat}{u:aw}(hu:Bg k u):Ok (fun _=>True) (Mq N u):=by
 obtain⟨a,rfl,ha⟩:=hu
 exact lW (oS N a) trivial
theorem pq(N:Nat)(hN:4000000≤N){j k:Nat}(hj:j≤90000)(hk:k≤90000){u v:aw}(hu:Bg j u)(hv:Bg k v):Ok (fun _=>True) (JL N u v):=by
 obtain⟨a,rfl,ha⟩:=hu
 obtain⟨b,rfl,hb⟩:=hv
 exact lW (El N hN (Fit.mono ha (by omega)) (Fit.mono hb (by omega))) trivial
theorem K0(v:Int):aC (B4 v).1:=by
 by_cases h:aC v
 ·rw[vE h];exact h
 ·rw[vF h];unfold aC;decide
theorem uy(N:Nat){k:Nat}{u:aw}(hu:Bg k u):Ok (fun r=>aC r.1) (rZ N u):=by
 obtain⟨a,rfl,ha⟩:=hu
 exact lW (qu N a) (K0 a)
end VM
end
