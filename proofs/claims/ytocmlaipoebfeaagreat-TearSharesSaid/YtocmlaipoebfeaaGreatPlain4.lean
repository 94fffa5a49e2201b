/- A part of the proof of TearShares of layer 29: what the functions compute, in plain words. -/
import Derived.Test.YtocmlaipoebfeaaGreatPlain3
set_option linter.all false
section
namespace VM
open Go VM.F
theorem wY(N:Nat)(hN:5000000≤N){t:Int}{w:List Int}(ht:0≤t)(nv:t<9223372036854775808)(hw:w.length≤64)(hp:Pos w)(hS:0<w.sum)(hS1:w.sum<9223372036854775808):
  ∀(m n i:Nat) (q r:List Int),w.length-i≤m→m<n→i≤w.length→q.length=w.length→r.length=w.length→q.take i=iq t w.sum (w.take i)→r.take i=eT t w.sum (w.take i)→
  dC.BZ N n t w (bX w.sum) q r (t-(iq t w.sum (w.take i)).sum) (i:Int)=some (aM t w,0)
 |m,0,i,q,r,_,hn,_,_,_,_,_=>by omega
 |m,n+1,i,q,r,hm,hn,hi,hq,hr,eq,er=>by
  unfold dC.BZ dC.zJ
  by_cases h:i<w.length
  ·have hwi:=dk hp i
   have ZK:=od hp i
   have hb:=mul_lt ht hwi (show t≤9223372036854775807 by omega) (show w.getD i 0≤9223372036854775807 by omega)
   have hqi:t*w.getD i 0/w.sum≤t:=axL hS (au4 ZK ht)
   have aks:0≤t*w.getD i 0/w.sum:=avu hb.1 (by omega)
   have hri:=avt (t*w.getD i 0) hS
   have arG:=avZ (t*w.getD i 0) (show w.sum≠0 by omega)
   have hs0:=Di ht hS (nV hp i)
   have Ht:=c9 (oS ht (by omega:0≤w.sum) (zF hp i))
   have ft:Fit t 2:=Fit.i64 (by omega) (by omega)
   have fw:Fit (w.getD i 0) 2:=Fit.i64 (by omega) (by omega)
   have fS:Fit w.sum 2:=Fit.i64 (by omega) (by omega)
   rw[aC (by omega),aua,eX N (by omega) (by omega) nv,at7,aI (by omega) (by omega),aua,aue,eX N (by omega) (by omega) (by omega),at7,
    ug N (by omega) (ft.mono (by omega)) (fw.mono (by omega)),at7,J8 N (by omega) hS ((ft.mul fw).mono (by omega)) (fS.mono (by omega)),at7]
   dsimp only
   rw[qW,at7,tf (by omega) (by omega),qW,tf (by omega) (by omega)]
   dsimp only
   rw[at7,aI (by omega) (by omega),aua,aI (by omega) (by omega),aua,aup,aI (by omega) (by omega),aua,gn q _ (by omega),an (x:=(i:Int)+1) (by omega) (by omega),an (by omega) (by omega)]
   have s9:=wY N hN ht nv hw hp hS hS1 (m-1) n (i+1) (q.set i (t*w.getD i 0/w.sum)) (r.set i (t*w.getD i 0%w.sum)) (by omega) (by omega) (by omega) (by rw[aup];exact hq) (by rw[aup];exact hr)
    (by rw[take_set q _ (by omega),eq,dK w h];unfold iq;simp)
    (by rw[take_set r _ (by omega),er,dK w h];unfold eT;simp)
   rw[←rU,dx _ (by rw[mM];exact h),Dh,rU]at s9
   rw[axN]
   exact s9
  ·have ji:i=w.length:=by omega
   subst ji
   rw[auM (by omega),auM (by omega)]at eq er
   subst eq er
   rw[auM (by omega)]
   have Ht:=c9 (oS ht (by omega:0≤w.sum) hp)
   have h1:=zI ht hS
   unfold iV at h1
   rw[az (by omega),auc,LW N (by rw[e9];omega) (by rw[e9];omega),at7]
   have hlen:=mL (eT t w.sum w)
   rw[e9]at hlen
   have sq:=zG N (ks:=eM (eT t w.sum w)) (by omega) w.length (fun k hk=>by have:=uO _ k hk;rwa [e9]at this) 1000 N 0 (t-(iq t w.sum w).sum).toNat (iq t w.sum w) (by omega) (by omega) (by omega) (mM ..) (oS ht (by omega) hp) (by omega) (by omega)
   rw[auG,avp h1]at sq
   exact sq
theorem vL(N:Nat)(hN:5000000≤N){t:Int}{w:List Int}(nv:t<9223372036854775808)(hw:zB w)(hl:w.length≤1000000):dC N t w=some (jF t w):=by
 unfold dC dC.b jF
 rw[zE N (by omega),at7]
 by_cases h1:t<0
 ·rw[auv h1,Bool.true_or,aua,auh (.inl h1)]
 rw[auB h1,awH]
 cases h2:may w
 ·rw[auC,aua,auh (.inr rfl)]
 rw[auq,auc,aui (by simp[h1]),s7 N (by omega) hw hl,at7,pk,at7]
 obtain⟨Dj,hp⟩:=eF.1 h2
 have hS0:=c9 hp
 have hj: ∀h: ¬9223372036854775808≤w.sum,dC.j6 N t w (bX w.sum)=if w.sum=0 then some (List.replicate w.length 0,0)else some (aM t w,0):=fun h=>by
  unfold dC.j6 dC.MR
  rw[qW,at7,tf (by omega) (by omega),auq,auc,bq (by omega) (by omega) (by omega),aua,aua,pk,at7,aue]
  by_cases h4:w.sum=0
  ·rw[auh h4,h4,show qU 0=0 from rfl,bW rfl,aua]
  ·rw[aui h4,cf (by unfold qU;repeat' split<;>omega),auc]
   have:=wY N hN (by omega) nv Dj hp (by omega) (by omega) w.length N 0 (List.replicate w.length 0) (List.replicate w.length 0) (by omega) (by omega) (by omega) (aun ..) (aun ..) rfl rfl
   rw[avD]at this
   simp only[iq,avS,awr,axe]at this
   exact this
 by_cases h3:9223372036854775808≤w.sum
 ·rw[auh h3,cf (by unfold qU;repeat' split<;>omega),auc]
  unfold dC.j6 dC.MR
  rw[qW,at7];unfold xt;rw[aui (by omega)];rfl
 rw[aui h3,hj h3]
 by_cases h4:w.sum=0
 ·rw[auh h4,auh h4,h4,show qU 0=0 from rfl,bW rfl,aua]
  by_cases h5:t=0
  ·rw[auh h5,bW h5,auq,auc]
  ·rw[aui h5,cf h5,auC,aua]
 ·rw[aui h4,aui h4,cf (by unfold qU;repeat' split<;>omega),auc]
def B0(t n:Int):List Int×Int:=if t<0∨n<1∨64<n then([],1)else jF t (List.replicate n.toNat 1)
theorem OT(n:Nat):zB (List.replicate n 1):=fun x hx=>by rw[awf hx];omega
theorem B1(N:Nat)(hN:5000000≤N){t:Int}{k:Nat}(hk:k≤64)(nv:t<9223372036854775808): ∀(m n i:Nat),k-i≤m→m<n→i≤k→
  mO.l5 N n t (k:Int) (List.replicate i 1++List.replicate (k-i) 0) (i:Int)=some (jF t (List.replicate k 1))
 |m,0,i,_,hn,_=>by omega
 |m,n+1,i,hm,hn,hi=>by
  unfold mO.l5 mO.du
  by_cases h:i<k
  ·rw[aC (by omega),aua,aI (by omega) (by simp;omega),aua,an (by omega) (by omega)]
   refine Eq.trans ?_ (B1 N hN hk nv (m-1) n (i+1) (by omega) (by omega) (by omega))
   congr 1
   rw[aue,List.set_append_right _ _ (by simp),aun,axb,show k-i=(k-(i+1))+1 by omega,awF,List.set_cons_zero,List.replicate_succ',aur]
   rfl
  ·rw[az (by omega),auc,show k-i=0 by omega,List.replicate_zero,auJ,show i=k by omega,vL N hN nv (OT _) (by rw[aun];omega)]
   rfl
theorem OU(N:Nat)(hN:5000000≤N){t n:Int}(nv:t<9223372036854775808):mO N t n=some (B0 t n):=by
 unfold mO mO.b B0
 by_cases h1:t<0
 ·rw[aC h1,aua,auh (.inl h1)]
 by_cases h2:n<1
 ·rw[az (by omega),auc,aC h2,aua,auh (.inr (.inl h2))]
 by_cases h3:64<n
 ·rw[az (by omega),auc,az (by omega),auc,aC h3,aua,auh (.inr (.inr h3))]
 rw[az (by omega),auc,az (by omega),auc,az (by omega),auc,aui (by omega),bq (by omega) (by omega) (by omega),aua]
 have:=B1 N hN (t:=t) (k:=n.toNat) (by omega) nv n.toNat N 0 (by omega) (by omega) (by omega)
 rw[List.replicate_zero,auK,Nat.sub_zero,avp (by omega)]at this
 exact this
end VM
end
section
namespace VM
open Go VM.F
def zK(n:Nat)(f:Nat→Int):List Int:=(List.range n).map f
theorem dI(n:Nat)(f:Nat→Int):(zK n f).length=n:=by unfold zK;rw[auH,awu]
theorem dh{n:Nat}{f:Nat→Int}{i:Nat}(h:i<n):(zK n f).getD i 0=f i:=by
 unfold zK
 rw[aub,avw,List.getElem?_range h];rfl
theorem Dl(n:Nat)(f:Nat→Int)(i:Nat):(zK n f).getD i 0=if i<n then f i else 0:=by
 by_cases h:i<n
 ·rw[auh h,dh h]
 ·rw[aui h,pn _ (by rw[dI];omega)]
theorem Se{n:Nat}{f:Nat→Int}(h: ∀i,i<n→0≤f i):Pos (zK n f):=fun x hx=>by
 obtain⟨i,hi,rfl⟩:=auW.1 hx
 exact h i (awl.1 hi)
theorem kQ{l:List Int}(h: ∀i,i<l.length→0≤l.getD i 0):Pos l:=fun x hx=>by
 obtain⟨i,hi,rfl⟩:=avE.1 hx
 have:=h i hi
 rwa [aub,auf hi]at this
theorem rX: ∀{a b:List Int},a.length=b.length→(∀i,i<a.length→a.getD i 0≤b.getD i 0)→a.sum≤b.sum
 |[],[],_,_=>avo _
 |[],_::_,h,_=>nomatch h
 |_::_,[],h,_=>nomatch h
 |x::a,y::b,h,h1=>by
  have:=rX (a:=a) (b:=b) (by simpa using h) (fun i hi=>by have:=h1 (i+1) (by simpa using hi);simpa using this)
  have h2:x≤y:=by have:=h1 0 (by simp);simpa using this
  rw[auO,auO];omega
theorem zL: ∀{a b c:List Int},a.length=b.length→a.length=c.length→(∀i,i<a.length→a.getD i 0=b.getD i 0+c.getD i 0)→a.sum=b.sum+c.sum
 |[],[],[],_,_,_=>rfl
 |[],_::_,_,h,_,_=>nomatch h
 |[],[],_::_,_,h,_=>nomatch h
 |_::_,[],_,h,_,_=>nomatch h
 |_::_,_::_,[],_,h,_=>nomatch h
 |x::a,y::b,z::c,h,h',h1=>by
  have:=zL (a:=a) (b:=b) (c:=c) (by simpa using h) (by simpa using h') (fun i hi=>by have:=h1 (i+1) (by simpa using hi);simpa using this)
  have h2:x=y+z:=by have:=h1 0 (by simp);simpa using this
  rw[auO,auO,auO];omega
theorem rl: ∀{a:List Int},(∀i,i<a.length→a.getD i 0=0)→a.sum=0
 |[],_=>rfl
 |x::a,h=>by
  have:=rl (a:=a) (fun i hi=>by have:=h (i+1) (by simpa using hi);simpa using this)
  have h2:x=0:=by have:=h 0 (by simp);simpa using this
  rw[auO];omega
def a8(w caps out:List Int):List Int:=zK w.length fun i=>if out.getD i 0<caps.getD i 0 then w.getD i 0 else 0
def cz(parts caps out:List Int):List Int:=zK out.length fun i=>min (parts.getD i 0) (caps.getD i 0-out.getD i 0)
def nz(out g:List Int):List Int:=zK out.length fun i=>out.getD i 0+g.getD i 0
def g6(w caps:List Int):Nat→List Int→Int→List Int×Int
 |0,out,left=>(out,left)
 |f+1,out,left=>if left=0∨(a8 w caps out).sum=0 then(out,left)else
  g6 w caps f (nz out (cz (aM left (a8 w caps out)) caps out)) (left-(cz (aM left (a8 w caps out)) caps out).sum)
structure Fw(t:Int)(w caps out:List Int)(left:Int):Prop where
 n:w.length≤64
 l1:caps.length=w.length
 l2:out.length=w.length
 pw:Pos w
 sw:w.sum<9223372036854775808
 pc: ∀i,0≤caps.getD i 0∧caps.getD i 0<9223372036854775808
 po: ∀i,0≤out.getD i 0
 le: ∀i,i<w.length→out.getD i 0≤caps.getD i 0
 z: ∀i,w.getD i 0=0→out.getD i 0=0
 l:0≤left
 t1:t<9223372036854775808
 s:out.sum+left=t
theorem cA(w caps out:List Int):(a8 w caps out).length=w.length:=dI ..
theorem jG{w caps out:List Int}(h:Pos w):Pos (a8 w caps out):=Se (fun i _=>by split;exact dk h i;omega)
theorem zM{w caps out:List Int}(h:Pos w):(a8 w caps out).sum≤w.sum:=rX (cA ..) (fun i hi=>by
 rw[cA]at hi
 unfold a8;rw[dh hi];split
 ·omega
 ·exact dk h i)
theorem Fy{t left:Int}{w caps out:List Int}(c:Fw t w caps out left):zB (a8 w caps out):=fun x hx=>by
 have h1:=jG (caps:=caps) (out:=out) c.pw
 have h2:=zM (caps:=caps) (out:=out) c.pw
 have h3:=h1 x hx
 obtain⟨i,hi,rfl⟩:=avE.1 hx
 have h4:=od h1 i
 rw[aub,auf hi]at h4
 simp only[av6]at h4
 have:=c.sw
 omega
theorem uP{t left:Int}{w caps out:List Int}(c:Fw t w caps out left):left≤t:=by
 have:=c9 (q:=out) (kQ (fun i _=>c.po i));have:=c.s;omega
theorem iB{t left:Int}{w caps out:List Int}(c:Fw t w caps out left)(hS:0<(a8 w caps out).sum)(i:Nat):
  0≤(cz (aM left (a8 w caps out)) caps out).getD i 0∧(cz (aM left (a8 w caps out)) caps out).getD i 0≤(aM left (a8 w caps out)).getD i 0∧(i<w.length→out.getD i 0+(cz (aM left (a8 w caps out)) caps out).getD i 0≤caps.getD i 0):=by
 have h0:=dk (pO c.l hS (jG c.pw)) i
 unfold cz
 rw[Dl]
 have:=c.l2
 by_cases h:i<out.length
 ·rw[auh h]
  have:=c.le i (by omega)
  omega
 ·rw[aui h];exact⟨by omega,h0,fun h=>by omega⟩
theorem jH(parts caps out:List Int):(cz parts caps out).length=out.length:=dI ..
theorem uQ{t left:Int}{w caps out:List Int}(c:Fw t w caps out left)(hS:0<(a8 w caps out).sum):0≤(cz (aM left (a8 w caps out)) caps out).sum∧(cz (aM left (a8 w caps out)) caps out).sum≤left:=by
 constructor
 ·exact c9 (kQ (fun i _=>(iB c hS i).1))
 ·have:=rX (a:=cz (aM left (a8 w caps out)) caps out) (b:=aM left (a8 w caps out)) (by rw[jH,eN,cA,c.l2]) (fun i _=>(iB c hS i).2.1)
  rwa [mN c.l hS]at this
theorem zN{t left:Int}{w caps out:List Int}(c:Fw t w caps out left)(hS:0<(a8 w caps out).sum):Fw t w caps (nz out (cz (aM left (a8 w caps out)) caps out)) (left-(cz (aM left (a8 w caps out)) caps out).sum):=by
 have lC: ∀i,(nz out (cz (aM left (a8 w caps out)) caps out)).getD i 0=if i<out.length then out.getD i 0+(cz (aM left (a8 w caps out)) caps out).getD i 0 else 0:=fun i=>by unfold nz;rw[Dl]
 have gs:=uQ c hS
 refine⟨c.n,c.l1,?_,c.pw,c.sw,c.pc,fun i=> ?_,fun i hi=> ?_,fun i hi=> ?_,by omega,c.t1,?_⟩
 ·unfold nz;rw[dI,c.l2]
 ·rw[lC];have:=(iB c hS i).1;have:=c.po i;split<;>omega
 ·rw[lC,auh (by rw[c.l2];exact hi)];exact(iB c hS i).2.2 hi
 ·rw[lC]
  split
  ·have h1:(a8 w caps out).getD i 0=0:=by unfold a8;rw[Dl,hi];split<;>(try split)<;>rfl
   have h2:=rk c.l hS h1
   have h3:=iB c hS i
   rw[c.z i hi];omega
  ·rfl
 ·have:=zL (a:=nz out (cz (aM left (a8 w caps out)) caps out)) (b:=out) (c:=cz (aM left (a8 w caps out)) caps out) (by unfold nz;rw[dI]) (by unfold nz;rw[dI,jH]) (fun i hi=>by
   unfold nz at hi;rw[dI]at hi;rw[lC,auh hi])
  have:=c.s
  omega
def opens(w caps out:List Int):Nat:=(List.range w.length).countP fun i=>decide (0<w.getD i 0∧out.getD i 0<caps.getD i 0)
theorem B2{p q:Nat→Bool}: ∀{l:List Nat},(∀x∈l,q x=true→p x=true)→(∃x∈l,p x=true∧q x=false)→l.countP q<l.countP p
 |[],_,⟨x,hx,_⟩=>nomatch hx
 |y::l,h,⟨x,hx,h1,h2⟩=>by
  have hle:l.countP q≤l.countP p:=List.countP_mono_left (fun z hz=>h z (auk _ hz))
  rw[List.countP_cons,List.countP_cons]
  rcases auy.1 hx with rfl|hx
  ·rw[h1,h2];simp;omega
  ·have:=B2 (p:=p) (q:=q) (l:=l) (fun z hz=>h z (auk _ hz)) ⟨x,hx,h1,h2⟩
   have h3:=h y (auo ..)
   cases hq:q y<;>cases hp:p y<;>simp<;>try omega
   rw[hq,hp]at h3;simp at h3
theorem B3{w caps out:List Int}(hw:Pos w)(h:(a8 w caps out).sum=0): ∀i,i<w.length→ ¬(0<w.getD i 0∧out.getD i 0<caps.getD i 0):=fun i hi ⟨h1,h2⟩=>by
 have:=od (jG (caps:=caps) (out:=out) hw) i
 unfold a8 at this h
 rw[dh hi,auh h2,h]at this
 omega
theorem Dm{w caps out:List Int}(hw:Pos w)(h:(a8 w caps out).sum≠0): ∃i,i<w.length∧0<w.getD i 0∧out.getD i 0<caps.getD i 0:=by
 by_cases hx: ∃i,i<w.length∧0<w.getD i 0∧out.getD i 0<caps.getD i 0
 ·exact hx
 ·refine absurd (rl (fun i hi=> ?_)) h
  rw[cA]at hi
  unfold a8
  rw[dh hi]
  split
  ·rename_i h1
   have:=dk hw i
   by_cases h2:0<w.getD i 0
   ·exact absurd ⟨i,hi,h2,h1⟩ hx
   ·omega
  ·rfl
theorem B4{t left:Int}{w caps out:List Int}(c:Fw t w caps out left)(hS:0<(a8 w caps out).sum)(hl:left-(cz (aM left (a8 w caps out)) caps out).sum≠0):opens w caps (nz out (cz (aM left (a8 w caps out)) caps out))<opens w caps out:=by
 have lC: ∀i,i<w.length→(nz out (cz (aM left (a8 w caps out)) caps out)).getD i 0=out.getD i 0+(cz (aM left (a8 w caps out)) caps out).getD i 0:=fun i hi=>by unfold nz;rw[dh (by rw[c.l2];exact hi)]
 refine B2 (fun i hi h=> ?_) ?_
 ·rw[awl]at hi
  rw[avf,lC i hi]at h
  rw[avf]
  have:=(iB c hS i).1
  omega
 ·by_cases hx: ∃i,i<w.length∧(0<w.getD i 0∧out.getD i 0<caps.getD i 0)∧caps.getD i 0≤out.getD i 0+(cz (aM left (a8 w caps out)) caps out).getD i 0
  ·obtain⟨i,h1,h2,h3⟩:=hx
   refine⟨i,awl.2 h1,auv h2,auB ?_⟩
   rw[lC i h1];omega
  ·exfalso
   have h1:aM left (a8 w caps out)=cz (aM left (a8 w caps out)) caps out:=by
    refine gw (by rw[jH,eN,cA,c.l2]) (fun i hi=> ?_)
    rw[eN,cA]at hi
    have h2:=iB c hS i
    have h3:=dk (pO c.l hS (jG (caps:=caps) (out:=out) c.pw)) i
    by_cases h4:0<w.getD i 0∧out.getD i 0<caps.getD i 0
    ·have h5: ¬caps.getD i 0≤out.getD i 0+(cz (aM left (a8 w caps out)) caps out).getD i 0:=fun h=>hx ⟨i,hi,h4,h⟩
     have h6:(cz (aM left (a8 w caps out)) caps out).getD i 0=min ((aM left (a8 w caps out)).getD i 0) (caps.getD i 0-out.getD i 0):=dh (by rw[c.l2];exact hi)
     omega
    ·have h7:(a8 w caps out).getD i 0=0:=by
      unfold a8;rw[dh hi]
      have:=dk c.pw i
      split<;>omega
     have:=rk c.l hS h7
     omega
   rw[←h1,mN c.l hS]at hl
   omega
theorem FA(w caps out:List Int):opens w caps out≤w.length:=by
 unfold opens
 have:=List.countP_le_length (p:=fun i=>decide (0<w.getD i 0∧out.getD i 0<caps.getD i 0)) (l:=List.range w.length)
 rwa [awu]at this
structure Full(t:Int)(w caps out:List Int)(left:Int):Prop where
 c:Fw t w caps out left
 f:left=0∨ ∀i,i<w.length→ ¬(0<w.getD i 0∧out.getD i 0<caps.getD i 0)
theorem FB{t:Int}{w caps:List Int}: ∀(f:Nat) (out:List Int) (left:Int),Fw t w caps out left→(opens w caps out<f∨left=0)→Full t w caps (g6 w caps f out left).1 (g6 w caps f out left).2
 |0,out,left,c,h=>⟨c,.inl (show left=0 by omega)⟩
 |f+1,out,left,c,h=>by
  unfold g6
  have hS:=c9 (jG (caps:=caps) (out:=out) c.pw)
  split
  ·rename_i h1
   exact⟨c,h1.imp id (B3 c.pw)⟩
  ·rename_i h1
   refine FB f _ _ (zN c (by omega)) ?_
   by_cases h2:left-(cz (aM left (a8 w caps out)) caps out).sum=0
   ·exact .inr h2
   ·have:=B4 c (by omega) h2
    exact .inl (by omega)
def uR(out g:List Int)(i:Nat):List Int:=zK out.length fun j=>if j<i then out.getD j 0+g.getD j 0 else out.getD j 0
theorem mid_zero(out g:List Int):uR out g 0=out:=gw (dI ..) (fun i hi=>by unfold uR at*;rw[dI]at hi;rw[dh hi,aui (by omega)])
theorem Ku(out g:List Int){n:Nat}(h:out.length≤n):uR out g n=nz out g:=gw (by unfold uR nz;rw[dI,dI]) (fun i hi=>by unfold uR nz at*;rw[dI]at hi;rw[dh hi,dh hi,auh (by omega)])
theorem rY(out g:List Int)(i:Nat):(uR out g i).length=out.length:=dI ..
theorem OV{out g:List Int}{i:Nat}(h:i<out.length):(uR out g i).getD i 0=out.getD i 0:=by unfold uR;rw[dh h,aui (by omega)]
theorem Kv{out g:List Int}{i:Nat}(h:i<out.length):(uR out g i).set i (out.getD i 0+g.getD i 0)=uR out g (i+1):=gw (by rw[aup,rY,rY]) (fun j hj=>by
 rw[aup,rY]at hj
 by_cases sY:i=j
 ·subst sY
  rw[gn _ _ (by rw[rY];exact h)];unfold uR;rw[dh h,auh (by omega)]
 ·rw[getD_set_ne _ _ sY];unfold uR;rw[dh hj,dh hj]
  by_cases h1:j<i
  ·rw[auh h1,auh (by omega)]
  ·rw[aui h1,aui (by omega)])
def mP(s:List Int)(i:Nat):List Int:=zK s.length fun j=>if j<i then s.getD j 0 else 0
theorem B5(s:List Int):mP s 0=List.replicate s.length 0:=gw (by unfold mP;rw[dI,aun]) (fun i hi=>by
 unfold mP at*;rw[dI]at hi;rw[dh hi,aui (by omega),aub,awQ,auh hi];rfl)
theorem FC(s:List Int):mP s s.length=s:=gw (dI ..) (fun i hi=>by unfold mP at*;rw[dI]at hi;rw[dh hi,auh hi])
theorem jI(s:List Int)(i:Nat):(mP s i).length=s.length:=dI ..
theorem FD{s:List Int}{i:Nat}(h:i<s.length):(mP s i).set i (s.getD i 0)=mP s (i+1):=gw (by rw[aup,jI,jI]) (fun j hj=>by
 rw[aup,jI]at hj
 by_cases sY:i=j
 ·subst sY
  rw[gn _ _ (by rw[jI];exact h)];unfold mP;rw[dh h,auh (by omega)]
 ·rw[getD_set_ne _ _ sY];unfold mP;rw[dh hj,dh hj]
  by_cases h1:j<i
  ·rw[auh h1,auh (by omega)]
  ·rw[aui h1,aui (by omega)])
theorem vM{s:List Int}{i:Nat}(h:s.getD i 0=0):mP s i=mP s (i+1):=gw (by rw[jI,jI]) (fun j hj=>by
 rw[jI]at hj
 unfold mP;rw[dh hj,dh hj]
 by_cases h1:j<i
 ·rw[auh h1,auh (by omega)]
 ·rw[aui h1]
  by_cases h2:j=i
  ·subst h2;rw[auh (by omega),h]
  ·rw[aui (by omega)])
theorem OW(x y:Int):mn x y=min x y:=by rw[Xq];split<;>omega
theorem B6{t left:Int}{w caps out:List Int}(c:Fw t w caps out left)(hS:0<(a8 w caps out).sum)(i:Nat):0≤((cz (aM left (a8 w caps out)) caps out).take i).sum∧((cz (aM left (a8 w caps out)) caps out).take i).sum≤left:=by
 have h:=kQ (l:=cz (aM left (a8 w caps out)) caps out) (fun i _=>(iB c hS i).1)
 have:=nV h i
 have:=uQ c hS
 exact⟨c9 (zF h i),by omega⟩
theorem B7(N:Nat)(K:List Int→List Int→List Int→Int→Option (List Int×Int×Int)){t left:Int}{w caps out:List Int}(c:Fw t w caps out left)(hS:0<(a8 w caps out).sum): ∀(m n i:Nat),w.length-i≤m→m<n→i≤w.length→
  jJ.vN N K n w caps (uR out (cz (aM left (a8 w caps out)) caps out) i) (left-((cz (aM left (a8 w caps out)) caps out).take i).sum) (aM left (a8 w caps out)) ((aM left (a8 w caps out)).length:Int) (i:Int)=
  K w caps (nz out (cz (aM left (a8 w caps out)) caps out)) (left-(cz (aM left (a8 w caps out)) caps out).sum)
 |m,0,i,_,hn,_=>by omega
 |m,n+1,i,hm,hn,hi=>by
  have n64:=c.n
  have e1:=c.l1
  have e2:=c.l2
  unfold jJ.vN jJ.th
  by_cases h:i<w.length
  ·have hc:=c.pc i
   have ho:=c.po i
   have hle:=c.le i h
   have hg:=iB c hS i
   have h6:(cz (aM left (a8 w caps out)) caps out).getD i 0=min ((aM left (a8 w caps out)).getD i 0) (caps.getD i 0-out.getD i 0):=dh (by rw[c.l2];exact h)
   have ht:=B6 c hS i
   have hl:=uP c
   have nv:=c.t1
   have hgl:(cz (aM left (a8 w caps out)) caps out).getD i 0≤left:=by
    have:=od (kQ (l:=cz (aM left (a8 w caps out)) caps out) (fun i _=>(iB c hS i).1)) i
    have:=uQ c hS
    omega
   dsimp only
   rw[aC (by rw[eN,cA];omega),aua,aI (by omega) (by rw[eN,cA];omega),aua,aI (by omega) (by omega),aua,aI (by omega) (by rw[rY];omega),aua,aua,aue,OV (by omega),an (x:=caps.getD i 0-out.getD i 0) (by omega) (by omega),OW,←h6,
    an (x:=(i:Int)+1) (by omega) (by omega),an (x:=out.getD i 0+_) (by omega) (by omega),an (by omega) (by omega),Kv (by omega)]
   have:=B7 N K c hS (m-1) n (i+1) (by omega) (by omega) (by omega)
   rw[dx _ (by rw[jH];omega),←axN]at this
   exact this
  ·rw[az (by rw[eN,cA];omega),auc,Ku _ _ (by omega),auM (by rw[jH];omega)]
theorem zO(N:Nat)(K:List Int→List Int→List Int→Int→Int→Option (List Int×Int×Int)){t left:Int}{w caps out:List Int}(c:Fw t w caps out left)(hS:0<(a8 w caps out).sum)(rd:Int): ∀(m n i:Nat),w.length-i≤m→m<n→i≤w.length→
  c4.LO N K n w caps (uR out (cz (aM left (a8 w caps out)) caps out) i) (left-((cz (aM left (a8 w caps out)) caps out).take i).sum) rd (aM left (a8 w caps out)) (i:Int)=
  K w caps (nz out (cz (aM left (a8 w caps out)) caps out)) (left-(cz (aM left (a8 w caps out)) caps out).sum) (W .i64 (rd+1))
 |m,0,i,_,hn,_=>by omega
 |m,n+1,i,hm,hn,hi=>by
  have n64:=c.n
  have e1:=c.l1
  have e2:=c.l2
  unfold c4.LO c4.IB
  by_cases h:i<w.length
  ·have hc:=c.pc i
   have ho:=c.po i
   have hle:=c.le i h
   have hg:=iB c hS i
   have h6:(cz (aM left (a8 w caps out)) caps out).getD i 0=min ((aM left (a8 w caps out)).getD i 0) (caps.getD i 0-out.getD i 0):=dh (by rw[c.l2];exact h)
   have ht:=B6 c hS i
   have hl:=uP c
   have nv:=c.t1
   have hgl:(cz (aM left (a8 w caps out)) caps out).getD i 0≤left:=by
    have:=od (kQ (l:=cz (aM left (a8 w caps out)) caps out) (fun i _=>(iB c hS i).1)) i
    have:=uQ c hS
    omega
   dsimp only
   rw[aC (by omega),aua,aI (by omega) (by rw[eN,cA];omega),aua,aI (by omega) (by omega),aua,aI (by omega) (by rw[rY];omega),aua,aua,aue,OV (by omega),an (x:=caps.getD i 0-out.getD i 0) (by omega) (by omega),OW,←h6,
    an (x:=(i:Int)+1) (by omega) (by omega),an (x:=out.getD i 0+_) (by omega) (by omega),an (x:=left-_-_) (by omega) (by omega),Kv (by omega)]
   have:=zO N K c hS rd (m-1) n (i+1) (by omega) (by omega) (by omega)
   rw[dx _ (by rw[jH];omega),←axN]at this
   exact this
  ·rw[az (by omega),auc,Ku _ _ (by omega),auM (by rw[jH];omega)]
theorem vO(N:Nat)(hN:5000000≤N)(K:List Int→List Int→List Int→Int→Option (List Int×Int×Int)){t left:Int}{w caps out:List Int}(c:Fw t w caps out left)(hl:0<left): ∀(m n i:Nat),w.length-i≤m→m<n→i≤w.length→
  jJ.l10 N K n w caps out left (mP (a8 w caps out) i) (w.length:Int) (i:Int)=
  if(a8 w caps out).sum=0 then some (out,left,0)else K w caps (nz out (cz (aM left (a8 w caps out)) caps out)) (left-(cz (aM left (a8 w caps out)) caps out).sum)
 |m,0,i,_,hn,_=>by omega
 |m,n+1,i,hm,hn,hi=>by
  have n64:=c.n
  have e1:=c.l1
  have e2:=c.l2
  unfold jJ.l10 jJ.ZL
  by_cases h:i<w.length
  ·have h1:(a8 w caps out).getD i 0=if out.getD i 0<caps.getD i 0 then w.getD i 0 else 0:=dh h
   rw[aC (by omega),aua,aI (by omega) (by omega),aua,aI (by omega) (by omega),aua,aue]
   by_cases h2:out.getD i 0<caps.getD i 0
   ·rw[auh h2]at h1
    rw[aC h2,aua,aI (by omega) (by omega),aua,aI (by omega) (by rw[jI,cA];omega),aua,an (by omega) (by omega),←h1,FD (by rw[cA];exact h)]
    exact vO N hN K c hl (m-1) n (i+1) (by omega) (by omega) (by omega)
   ·rw[aui h2]at h1
    rw[az (by omega),auc,an (by omega) (by omega),vM h1]
    exact vO N hN K c hl (m-1) n (i+1) (by omega) (by omega) (by omega)
  ·have Zt:=uP c
   have nv:=c.t1
   have ji:i=(a8 w caps out).length:=by rw[cA];omega
   have hp:=jG (caps:=caps) (out:=out) c.pw
   have hs:=zM (caps:=caps) (out:=out) c.pw
   have hs0:=c9 hp
   have hsw:=c.sw
   have hm:may (a8 w caps out)=true:=eF.2 ⟨by rw[cA];omega,hp⟩
   rw[az (by omega),auc,ji,FC,OS N (by omega) (by omega) (Fy c) (by rw[cA];omega),at7]
   unfold jF
   rw[aui (by rw[hm];simp;omega),aui (by omega)]
   by_cases h3:(a8 w caps out).sum=0
   ·rw[auh h3,auh h3,aui (by omega),cf (show(1:Int)≠0 by omega),auC,aua]
   ·rw[aui h3,aui h3,bW (show(0:Int)=0 by rfl),auq,auc]
    have:=B7 N K c (by omega) w.length N 0 (by omega) (by omega) (by omega)
    rw[mid_zero,avD,awr,axe]at this
    exact this
def FE(w caps out:List Int)(i:Nat):Prop:= ∃j,j<i∧0<w.getD j 0∧out.getD j 0<caps.getD j 0
theorem pP(N:Nat)(hN:5000000≤N)(K:List Int→List Int→List Int→Int→Int→Option (List Int×Int×Int)){t left:Int}{w caps out:List Int}(c:Fw t w caps out left)(rd:Int): ∀(m n i:Nat) (b:Bool),w.length-i≤m→m<n→i≤w.length→(b=true↔FE w caps out i)→
  c4.nq N K n w caps out left rd (mP (a8 w caps out) i) b (i:Int)=
  if left=0∨(a8 w caps out).sum=0 then some (out,left,0)else K w caps (nz out (cz (aM left (a8 w caps out)) caps out)) (left-(cz (aM left (a8 w caps out)) caps out).sum) (W .i64 (rd+1))
 |m,0,i,b,_,hn,_,_=>by omega
 |m,n+1,i,b,hm,hn,hi,hb=>by
  have n64:=c.n
  have e1:=c.l1
  have e2:=c.l2
  unfold c4.nq c4.lH
  by_cases h:i<w.length
  ·have h1:(a8 w caps out).getD i 0=if out.getD i 0<caps.getD i 0 then w.getD i 0 else 0:=dh h
   have hw:=dk c.pw i
   have nL: ¬(0<w.getD i 0∧out.getD i 0<caps.getD i 0)→(b=true↔FE w caps out (i+1)):=fun ot=>hb.trans ⟨fun⟨j,hj,h2⟩=>⟨j,by omega,h2⟩,fun⟨j,hj,h2⟩=>⟨j,by
    by_cases sY:j=i
    ·subst sY;exact absurd h2 ot
    ·omega,h2⟩⟩
   rw[aC (by omega),aua,aI (by omega) (by omega),aua,aue]
   by_cases h0:0<w.getD i 0
   ·rw[aC h0,aua,aI (by omega) (by omega),aua,aI (by omega) (by omega),aua]
    by_cases h2:out.getD i 0<caps.getD i 0
    ·rw[auh h2]at h1
     rw[aC h2,aua,aua,aI (by omega) (by rw[jI,cA];omega),aua,an (by omega) (by omega),←h1,FD (by rw[cA];exact h)]
     exact pP N hN K c rd (m-1) n (i+1) true (by omega) (by omega) (by omega) ⟨fun _=>⟨i,by omega,h0,h2⟩,fun _=>rfl⟩
    ·rw[aui h2]at h1
     rw[az (by omega),auc,an (by omega) (by omega),vM h1]
     exact pP N hN K c rd (m-1) n (i+1) b (by omega) (by omega) (by omega) (nL (fun h=>h2 h.2))
   ·have h3:(a8 w caps out).getD i 0=0:=by rw[h1];split<;>omega
    rw[az (by omega),auc,an (by omega) (by omega),vM h3]
    exact pP N hN K c rd (m-1) n (i+1) b (by omega) (by omega) (by omega) (nL (fun h=>h0 h.1))
  ·have Zt:=uP c
   have nv:=c.t1
   have hl0:=c.l
   have ji:i=(a8 w caps out).length:=by rw[cA];omega
   have hp:=jG (caps:=caps) (out:=out) c.pw
   have hs:=zM (caps:=caps) (out:=out) c.pw
   have hs0:=c9 hp
   have hsw:=c.sw
   have hm:may (a8 w caps out)=true:=eF.2 ⟨by rw[cA];omega,hp⟩
   rw[az (by omega),auc]
   by_cases h4:left=0
   ·rw[bW h4,aua,auh (.inl h4)]
   rw[cf h4,auc]
   by_cases h3:(a8 w caps out).sum=0
   ·have hbf:b=false:=by
     rw[avX];intro ht
     obtain⟨j,hj,h5⟩:=hb.1 ht
     exact B3 c.pw h3 j (by omega) h5
    rw[auh (.inr h3),hbf];rfl
   ·have hbt:b=true:=hb.2 (by
     obtain⟨j,hj,h5⟩:=Dm c.pw h3
     exact⟨j,by omega,h5⟩)
    rw[hbt,auq,auc,aui (by omega),ji,FC,vL N (by omega) (by omega) (Fy c) (by rw[cA];omega),at7]
    unfold jF
    rw[aui (by rw[hm];simp;omega),aui (by omega),aui h3]
    have:=zO N K c (by omega) rd w.length N 0 (by omega) (by omega) (by omega)
    rw[mid_zero,avD,awr,axe]at this
    exact this
theorem FF(N:Nat)(hN:5000000≤N){t:Int}{w caps:List Int}: ∀(f n:Nat) (out:List Int) (left:Int),Fw t w caps out left→(opens w caps out<f∨left=0)→f<n→
  jJ.l7 N n w caps out left=some ((g6 w caps f out left).1,(g6 w caps f out left).2,0)
 |f,0,out,left,c,_,hn=>by omega
 |f,n+1,out,left,c,h,hn=>by
  have n64:=c.n
  have hl:=c.l
  unfold jJ.l7 jJ.n9
  by_cases h0:left=0
  ·rw[az (by omega),auc]
   cases f with
   |zero=>rfl
   |succ f=>unfold g6;rw[auh (.inl h0)]
  ·rw[aC (by omega),aua,bq (by omega) (by omega) (by omega),aua,aue]
   have:=vO N hN (jJ.l7 N n) c (by omega) w.length N 0 (by omega) (by omega) (by omega)
   rw[B5,cA]at this
   refine Eq.trans this ?_
   cases f with
   |zero=>omega
   |succ f=>
    have hS:=c9 (jG (caps:=caps) (out:=out) c.pw)
    unfold g6
    by_cases h1:(a8 w caps out).sum=0
    ·rw[auh h1,auh (.inr h1)]
    ·rw[aui h1,aui (by omega)]
     refine FF N hN f n _ _ (zN c (by omega)) ?_ (by omega)
     by_cases h2:left-(cz (aM left (a8 w caps out)) caps out).sum=0
     ·exact .inr h2
     ·have:=B4 c (by omega) h2
      exact .inl (by omega)
theorem B8(N:Nat)(hN:5000000≤N){t:Int}{w caps:List Int}: ∀(f n:Nat) (out:List Int) (left:Int),Fw t w caps out left→f≤w.length+1→f<n→
  c4.l8 N n w caps out left ((w.length+1-f:Nat):Int)=some ((g6 w caps f out left).1,(g6 w caps f out left).2,0)
 |f,0,out,left,c,_,hn=>by omega
 |0,n+1,out,left,c,h,hn=>by
  unfold c4.l8 c4.yb
  rw[cE (by omega)];rfl
 |f+1,n+1,out,left,c,h,hn=>by
  have n64:=c.n
  have hl:=c.l
  unfold c4.l8 c4.yb
  rw[cK (by omega),aua,bq (by omega) (by omega) (by omega),aua,aue]
  have:=pP N hN (c4.l8 N n) c ((w.length+1-(f+1):Nat):Int) w.length N 0 false (by omega) (by omega) (by omega) ⟨(fun h=>nomatch h),fun⟨j,hj,_⟩=>by omega⟩
  rw[B5,cA]at this
  refine Eq.trans this ?_
  have hS:=c9 (jG (caps:=caps) (out:=out) c.pw)
  unfold g6
  by_cases h1:left=0∨(a8 w caps out).sum=0
  ·rw[auh h1,auh h1]
  ·rw[aui h1,aui h1,an (by omega) (by omega),show(((w.length+1-(f+1):Nat):Int)+1)=((w.length+1-f:Nat):Int)by omega]
   exact B8 N hN f n _ _ (zN c (by omega)) (by omega) (by omega)
def jK(t:Int)(w caps:List Int):List Int×Int×Int:=
 if t<0∨may w=false∨caps.length≠w.length∨may caps=false then([],0,1)else if 9223372036854775808≤w.sum then([],0,2)
 else((g6 w caps (w.length+1) (List.replicate w.length 0) t).1,(g6 w caps (w.length+1) (List.replicate w.length 0) t).2,0)
theorem fu(n i:Nat):(List.replicate n (0:Int)).getD i 0=0:=by
 rw[aub,awQ];split<;>rfl
theorem vP{t:Int}{w caps:List Int}(ht:0≤t)(nv:t<9223372036854775808)(hw:may w=true)(hc:may caps=true)(hl:caps.length=w.length)(hi:zB caps)(hs:w.sum<9223372036854775808):Fw t w caps (List.replicate w.length 0) t:=by
 obtain⟨h1,h2⟩:=eF.1 hw
 obtain⟨h3,h4⟩:=eF.1 hc
 refine⟨h1,hl,aun ..,h2,hs,fun i=>⟨dk h4 i,(mC hi i).2⟩,fun i=>by rw[fu];omega,fun i _=>by rw[fu];exact dk h4 i,fun i _=>fu ..,ht,nv,?_⟩
 rw[rl (fun i _=>fu ..)];omega
theorem LZ(N:Nat)(hN:5000000≤N){t:Int}{w caps:List Int}(nv:t<9223372036854775808)(hw:zB w)(hc:zB caps)(hl:w.length≤1000000):jJ N t w caps=some (jK t w caps):=by
 unfold jJ jJ.b jK
 by_cases h1:t<0
 ·rw[aC h1,aua,auh (.inl h1)]
 rw[az (by omega),auc,IJ N (by omega),at7]
 cases h2:may w
 ·rw[auC,aua,auh (.inr (.inl rfl))]
 rw[auq,auc]
 by_cases h3:caps.length=w.length
 case neg=>rw[cf (by omega),auC,aua,auh (.inr (.inr (.inl h3)))]
 rw[bW (by omega),auq,auc,IJ N (by omega),at7]
 cases h4:may caps
 ·rw[auC,aua,auh (.inr (.inr (.inr rfl)))]
 have hp:=c9 (eF.1 h2).2
 rw[auq,auc,J9 N hw hl (by omega),at7,aui (by simp;omega)]
 by_cases h5:9223372036854775808≤w.sum
 ·rw[auh h5];unfold xt;rw[aui (by omega)];rfl
 rw[aui h5,tf (by omega) (by omega),auq,auc,bq (by omega) (by omega) (by omega),aua,aue]
 have ux:=(eF.1 h2).1
 have:=FA w caps (List.replicate w.length 0)
 exact FF N hN (w.length+1) N _ _ (vP (by omega) nv h2 h4 h3 hc (by omega)) (.inl (by omega)) (by omega)
theorem IN(N:Nat)(hN:5000000≤N){t:Int}{w caps:List Int}(nv:t<9223372036854775808)(hw:zB w)(hc:zB caps)(hl:w.length≤1000000):c4 N t w caps=some (jK t w caps):=by
 unfold c4 c4.b jK
 rw[zE N (by omega),at7]
 by_cases h1:t<0
 ·rw[auv h1,Bool.true_or,aua,auh (.inl h1)]
 rw[auB h1,awH]
 cases h2:may w
 ·rw[auC,aua,auh (.inr (.inl rfl))]
 rw[auq,auc]
 by_cases h3:caps.length=w.length
 case neg=>rw[cf (by omega),auC,aua,auh (.inr (.inr (.inl h3)))]
 rw[bW (by omega),auq,auc,zE N (by omega),at7]
 cases h4:may caps
 ·rw[auh (.inr (.inr (.inr rfl)))];rfl
 have hp:=c9 (eF.1 h2).2
 rw[show(decide ((0:Int)<0)|| !true)=false from rfl,auc,s7 N (by omega) hw hl,at7,qW,at7,aui (by simp;omega)]
 by_cases h5:9223372036854775808≤w.sum
 ·rw[auh h5];unfold xt;rw[aui (by omega)];rfl
 rw[aui h5,tf (by omega) (by omega),auq,auc,bq (by omega) (by omega) (by omega),aua,aue]
 have ux:=(eF.1 h2).1
 have:=B8 N hN (w.length+1) N _ _ (vP (by omega) nv h2 h4 h3 hc (by omega)) (by omega) (by omega)
 rw[axb]at this
 exact this
end VM
end
section
namespace VM
open Go VM.F
theorem Sf(N:Nat){l:aj}(hl:l.length≤100000)(hN:200000≤N)(a b:Int):xE N l a b=some (aT l a b):=by
 unfold xE xE.b aT
 rw[uj N hl hN,at7,cond_not]
 have:=ui l aW (fun n i=>xE.l4 N n a b l (l.length:Int) i) (fun t=>some (eh a b t)) (fun n i hi hr=> ?_) (fun n=> ?_) N (by omega)
 ·rw[this];cases cG l<;>rfl
 ·unfold xE.l4 xE.cT
  rw[aC (by omega),aua,aI (by omega) (by omega),aua,aue,an (x:=(i:Int)+1) (by omega) (by omega),aa i,hr,aG,aG,fp]
  split
  ·split<;>rfl
  ·rfl
 ·unfold xE.l4 xE.cT
  rw[az (by omega),auc];rfl
theorem rZ{a b:Int}: ∀{l:aj},vG (l.map keyOf)→eh a b l=cV a b l
 |[],_=>rfl
 |x::t,h=>by
  obtain⟨h1,h2⟩:=au1.1 h
  rw[fp,mI,←rZ h2]
  by_cases e1:x.1=a
  ·by_cases e2:x.2.1=b
   ·have hz:cV a b t=0:=mJ fun y hy e=>by
     have hk:=h1 (keyOf y) (au8 hy)
     have he:keyOf y=keyOf x:=axx (e.1.trans e1.symm) (e.2.trans e2.symm)
     rw[he]at hk
     exact pG hk
    rw[auh e1,auh e2,auh ⟨e1,e2⟩,rZ h2,hz,axd];rfl
   ·rw[auh e1,aui e2,aui (fun h=>e2 h.2),axE]
  ·rw[aui e1,aui (fun h=>e1 h.1),axE]
def ti(x q:Int):Prop:= ¬((x<0)↔(q<0))
instance(x q:Int):Decidable (ti x q):=by unfold ti;infer_instance
def cn(a q:Int):aj→aj
 |[]=>[]
 |x::t=>if ¬eo x.1 0∧eo x.2.1 a∧ti (dt x) q then x::cn a q t else cn a q t
theorem iK(a q:Int)(x:cm)(t:aj):cn a q (x::t)=if ¬eo x.1 0∧eo x.2.1 a∧ti (dt x) q then x::cn a q t else cn a q t:=rfl
def nW(l:aj):List Int:=l.map fun x=>x.1
def di(l:aj):List Int:=l.map fun x=>((dt x).natAbs:Int)
theorem iW{a q:Int}{x:cm}: ∀{l:aj},x∈cn a q l→x∈l∧ ¬eo x.1 0∧eo x.2.1 a
 |[],h=>nomatch h
 |y::t,h=>by
  rw[iK]at h
  by_cases e: ¬eo y.1 0∧eo y.2.1 a∧ti (dt y) q
  ·rw[auh e]at h
   rcases auy.1 h with rfl|h
   ·exact⟨auo ..,e.1,e.2.1⟩
   ·have:=iW h;exact⟨auk _ this.1,this.2⟩
  ·rw[aui e]at h
   have:=iW h;exact⟨auk _ this.1,this.2⟩
theorem FG{v q s h o:Int}{P Q R:Prop} [Decidable P] [Decidable Q] [Decidable R](hR:R↔ ¬((v<0)↔(q<0)))(hq:0<q)(hh:h-o≤s):
  (if P∧Q then v else 0)+h-((if ¬P∧Q∧R then(v.natAbs:Int)else 0)+o)≤(if Q then v else 0)+s:=by
 by_cases hQ:Q<;>by_cases hP:P<;>by_cases ZM:R<;>simp only[hP,hQ,ZM,and_self,avB,and_false,false_and,true_and,not_true,not_false_iff,awt,avQ]<;>(rw[axf]at hR;first|omega|(have h2:=hR.1 ZM;omega)|(have h2: ¬ ¬((v<0)↔(q<0)):=fun e=>ZM (hR.2 e);omega))
theorem wZ{a q:Int}(hq:0<q): ∀l:aj,cV 0 a l-(di (cn a q l)).sum≤(cO a l).sum
 |[]=>avo _
 |x::t=>by
  have ih:=wZ (a:=a) hq t
  have e1:cV 0 a (x::t)=(if eo x.1 0∧eo x.2.1 a then dt x else 0)+cV 0 a t:=mI 0 a x t
  have e2:(di (cn a q (x::t))).sum=(if ¬eo x.1 0∧eo x.2.1 a∧ti (dt x) q then((dt x).natAbs:Int)else 0)+(di (cn a q t)).sum:=by
   rw[iK]
   split
   ·show(((dt x).natAbs:Int)::di (cn a q t)).sum=_
    rw[auO]
   ·omega
  have e3:(cO a (x::t)).sum=(if eo x.2.1 a then dt x else 0)+(cO a t).sum:=by
   rw[dU]
   by_cases h:x.2.1=a
   ·rw[auh h,auh (show eo x.2.1 a from h),auO]
   ·rw[aui h,aui (show ¬eo x.2.1 a from h)];omega
  rw[e1,e2,e3]
  exact FG Iff.rfl hq ih
theorem FH{v q s h o:Int}{P Q R:Prop} [Decidable P] [Decidable Q] [Decidable R](hR:R↔ ¬((v<0)↔(q<0)))(hq:q<0)(hh:s≤h+o):
  (if Q then v else 0)+s≤(if P∧Q then v else 0)+h+((if ¬P∧Q∧R then(v.natAbs:Int)else 0)+o):=by
 by_cases hQ:Q<;>by_cases hP:P<;>by_cases ZM:R<;>simp only[hP,hQ,ZM,and_self,avB,and_false,false_and,true_and,not_true,not_false_iff,awt,avQ]<;>(rw[axf]at hR;first|omega|(have h2:=hR.1 ZM;omega)|(have h2: ¬ ¬((v<0)↔(q<0)):=fun e=>ZM (hR.2 e);omega))
theorem w1{a q:Int}(hq:q<0): ∀l:aj,(cO a l).sum≤cV 0 a l+(di (cn a q l)).sum
 |[]=>avo _
 |x::t=>by
  have ih:=w1 (a:=a) hq t
  have e1:cV 0 a (x::t)=(if eo x.1 0∧eo x.2.1 a then dt x else 0)+cV 0 a t:=mI 0 a x t
  have e2:(di (cn a q (x::t))).sum=(if ¬eo x.1 0∧eo x.2.1 a∧ti (dt x) q then((dt x).natAbs:Int)else 0)+(di (cn a q t)).sum:=by
   rw[iK]
   split
   ·show(((dt x).natAbs:Int)::di (cn a q t)).sum=_
    rw[auO]
   ·omega
  have e3:(cO a (x::t)).sum=(if eo x.2.1 a then dt x else 0)+(cO a t).sum:=by
   rw[dU]
   by_cases h:x.2.1=a
   ·rw[auh h,auh (show eo x.2.1 a from h),auO]
   ·rw[aui h,aui (show ¬eo x.2.1 a from h)];omega
  rw[e1,e2,e3]
  exact FH Iff.rfl hq ih
theorem zP{a q:Int}{l:aj}(hs:vG (l.map keyOf))(hf:(cO a l).sum=0)(hq:eh 0 a l=q)(h0:q≠0):(q.natAbs:Int)≤(di (cn a q l)).sum:=by
 rw[rZ hs]at hq
 by_cases h:0<q
 ·have:=wZ (a:=a) h l
  rw[hf,hq]at this;omega
 ·have:=w1 (a:=a) (q:=q) (by omega) l
  rw[hf,hq]at this;omega
theorem OX{t left:Int}{w out:List Int}(f:Full t w w out left)(h:t≤w.sum):left=0:=by
 have c:=f.c
 rcases f.f with e|e
 ·exact e
 ·have Qw:w.sum≤out.sum:=rX (by rw[c.l2]) fun i hi=>by
   have h1:=e i hi
   have h2:=dk c.pw i
   have h3:=c.po i
   by_cases h4:0<w.getD i 0
   ·have: ¬out.getD i 0<w.getD i 0:=fun h5=>h1 ⟨h4,h5⟩
    omega
   ·omega
  have:=c.s
  have:=c.l
  omega
def sg(q x:Int):Int:=if q<0 then 0-x else x
def zc(a q:Int):List (Int×Int)→aj
 |[]=>[]
 |p::t=>if sg q p.1=0 then zc a q t else(p.2,(a,(sg q p.1,())))::zc a q t
theorem pQ(a q:Int)(p:Int×Int)(t:List (Int×Int)):zc a q (p::t)=if sg q p.1=0 then zc a q t else(p.2,(a,(sg q p.1,())))::zc a q t:=rfl
def fa(l:aj)(a q:Int):List Int×Int×Int:=jK (q.natAbs:Int) (di (cn a q l)) (di (cn a q l))
def Sg(l:aj)(a q:Int):aj:=((0:Int),(a,((0-q:Int),())))::zc a q ((fa l a q).1.zip (nW (cn a q l)))
def fb(c:ae)(b:ah)(a:Int):aj×Int:=
 if dn c b then(if a<0 then([],3)else if(c.1.length:Int)≤a then([],3)else if aT b.2.2.2.1 0 a=0 then([],0)else
  if(fa b.2.2.2.1 a (aT b.2.2.2.1 0 a)).2.2=0 then(Sg b.2.2.2.1 a (aT b.2.2.2.1 0 a),0)else([],(fa b.2.2.2.1 a (aT b.2.2.2.1 0 a)).2.2))else([],1)
theorem zQ{t:Int}{w caps:List Int}(nv:t<9223372036854775808)(hc:zB caps)(hx:(jK t w caps).2.2=0):Full t w caps (jK t w caps).1 (jK t w caps).2.1:=by
 unfold jK at*
 by_cases h1:t<0∨may w=false∨caps.length≠w.length∨may caps=false
 ·rw[auh h1]at hx;exact absurd hx (by decide)
 ·rw[aui h1]at hx ⊢
  by_cases h2:9223372036854775808≤w.sum
  ·rw[auh h2]at hx;exact absurd hx (by decide)
  ·rw[aui h2]
   have h3:may w=true:=by cases h:may w<;>simp_all
   have h4:may caps=true:=by cases h:may caps<;>simp_all
   have h5:caps.length=w.length:=avP fun h=>h1 (Or.inr (Or.inr (Or.inl h)))
   exact FB _ _ _ (vP (by omega) nv h3 h4 h5 hc (by omega)) (Or.inl (by have:=FA w caps (List.replicate w.length 0);omega))
theorem vQ{l:aj}(h: ∀x∈l,aB (dt x)∧nQ (dt x))(a q:Int):zB (di (cn a q l)):=fun z hz=>by
 obtain⟨x,hx,rfl⟩:=auW.1 hz
 have:=h x (iW hx).1
 have g: ∀v:Int,aB v∧nQ v→ -9223372036854775808≤(v.natAbs:Int)∧(v.natAbs:Int)<9223372036854775808:=fun v hv=>by unfold aB nQ at hv;omega
 exact g _ this
theorem Dn{out accs:List Int}{i:Nat}(h1:i<out.length)(h2:i<accs.length):(out.zip accs).getD i (0,0)=(out.getD i 0,accs.getD i 0):=by
 rw[aub,auf (by rw[avN];omega),List.getElem_zip,aub,auf h1,aub,auf h2];rfl
end VM
end
section
namespace VM
open Go VM.F
end VM
end
section
namespace VM
open Go VM.F
theorem Dp{c:ae}{b:ah}(h:dn c b=true): ∀x∈b.2.2.2.1,Df x.2.1 c.1.length:=fun x hx=>by
 have hk:=(jC h).2
 have h0:=(dV hk).2 x hx
 unfold dn at h
 simp only[aus]at h
 have h1:=auw h.2.2.2.2.2.2.2.2.1
 obtain⟨i,hi,e⟩:=avq hx
 have h2:=h1 i hi
 unfold gL at h2
 rw[aub,auf hi]at h2
 simp only[av6,e]at h2
 have g: ∀u v:Int,bT u v→On v c.1.length→Df v c.1.length:=fun u v h1 h2=>by unfold bT at h1;unfold On at h2;unfold Df;omega
 exact g _ _ h0.1 h2.2
end VM
end
section
namespace VM
open Go VM.F
end VM
end
section
namespace VM
open Go VM.F
theorem w3{k:Int}: ∀{i:Nat} {l:aF},jE k i l≠[]→(i:Int)≤(jE k i l).getD 0 0∧(jE k i l).getD 0 0<((i+l.length:Nat):Int)
 |i,[],h=>absurd rfl h
 |i,y::t,h=>by
  rw[uK]at h ⊢
  by_cases e:y.1=k
  ·rw[auh e,auj]
   show(i:Int)≤(i:Int)∧(i:Int)<_
   omega
  ·rw[aui e]at h ⊢
   have:=w3 h
   rw[auj];omega
def aku(c:ae):Int:=c.2.2.2.2.2.2.1
end VM
end
section
namespace VM
open Go VM.F
end VM
end
section
namespace VM
open Go VM.F
end VM
end
section
namespace VM
open Go VM.F
def zIn(z:Int×Int)(n:Nat):Prop:=0≤z.1∧z.1≤1000000000*(n:Int)∧0≤z.2∧z.2≤1000000000*(n:Int)
theorem zIn.mono{z:Int×Int}{n m:Nat}(h:zIn z n)(hm:n≤m):zIn z m:=by unfold zIn at*;omega
end VM
end
section
namespace VM
open Go VM.F
end VM
end
section
namespace VM
open Go VM.F
end VM
end
section
namespace VM
open Go VM.F
end VM
end
section
namespace VM
open Go VM.F
end VM
end
section
namespace VM
open Go VM.F
def qIn(q:Int):Prop:=1≤q∧q≤1000000000
instance(q:Int):Decidable (qIn q):=by unfold qIn;infer_instance
def uS(a b c d:Int):Prop:=(1≤a∧a≤1099511627776)∧(0≤b∧b<6)∧(c=1∨c=2)∧qIn d
instance(a b c d:Int):Decidable (uS a b c d):=by unfold uS;infer_instance
def yi(h:bQ):Prop:=uS h.1 h.2.1 h.2.2.1 h.2.2.2.1
instance(h:bQ):Decidable (yi h):=by unfold yi;infer_instance
theorem zR(N:Nat)(h:bQ):Sh N h=some (decide (yi h)):=by
 unfold Sh
 rw[jY h.2.2.2.1]
 rw[ec,zi,vC,zh,ec,ec,ec]
 congr 1
 rw[avY,avf]
 unfold yi uS qIn
 simp only[aus,avM,avW,aww,awR]
 omega
end VM
end
section
namespace VM
open Go VM.F Go.RowKit
def hR:aj:=[((1:Int),((0:Int),((-90:Int),()))),((5:Int),((1:Int),((90:Int),())))]
def hS:aj:=[((0:Int),((0:Int),((5:Int),()))),((0:Int),((1:Int),((20:Int),()))),((1:Int),((0:Int),((-5:Int),()))),((1:Int),((1:Int),((-20:Int),())))]
def hB:ah:=([((1:Int),((1:Int),()))],([((1:Int),((1:Int),((1:Int),((50:Int),()))))],(hR,(hS,([(100:Int),(7:Int)],(de,()))))))
namespace Pure
end Pure
end VM
end
section
namespace VM
open Go VM.F
def Ok{α:Type}(P:α→Prop)(o:Option α):Prop:= ∃r,o=some r∧P r
theorem ag{α:Type}{P:α→Prop}{r:α}(h:P r):Ok P (some r):=⟨r,rfl,h⟩
theorem af{α β:Type}{P:β→Prop}{Q:α→Prop}{o:Option α}{f:α→Option β}(h:Ok Q o)(hf: ∀r,Q r→Ok P (f r)):Ok P (o.bind f):=by
 obtain⟨r,rfl,hr⟩:=h
 exact hf r hr
theorem kR{α:Type}{P:α→Prop}{o:Option α}{r:α}(h:o=some r)(hr:P r):Ok P o:=⟨r,h,hr⟩
theorem oT{α:Type}{P:α→Prop}{b:Bool}{x y:Option α}(hx:b=true→Ok P x)(hy:b=false→Ok P y):Ok P (cond b x y):=by
 cases b
 ·exact hy rfl
 ·exact hx rfl
theorem bx{α:Type}{P:α→Prop}{b:Bool}{x y:Option α}(hx:b=false→Ok P x)(hy:b=true→Ok P y):Ok P (cond (!b) x y):=by
 cases b
 ·exact hx rfl
 ·exact hy rfl
theorem av{α:Type}{P:α→Prop}{a b:Int}{x y:Option α}(hx:a<b→Ok P x)(hy:b≤a→Ok P y):Ok P (cond (aH a b) x y):=by
 rw[ck]
 split
 ·exact hx (by assumption)
 ·exact hy (by omega)
theorem cW{α:Type}{P:α→Prop}{a b:Int}{x y:Option α}(hx:a≤b→Ok P x)(hy:b<a→Ok P y):Ok P (cond (bR a b) x y):=by
 rw[bO]
 split
 ·exact hx (by assumption)
 ·exact hy (by omega)
theorem ok_eq{α:Type}{P:α→Prop}{a b:Int}{x y:Option α}(hx:a=b→Ok P x)(hy:a≠b→Ok P y):Ok P (cond (ay a b) x y):=by
 rw[aG]
 split
 ·exact hx (by assumption)
 ·exact hy (by assumption)
theorem bA{α:Type}{P:α→Prop}{a b:Int}{x y:Option α}(hx:a≠b→Ok P x)(hy:a=b→Ok P y):Ok P (cond (!ay a b) x y):=by
 rw[cond_not];exact ok_eq hy hx
theorem aw{α:Type}{P:α→Prop}{i:Int}{n:Nat}{x y:Option α}(h:0≤i∧i<(n:Int))(hx:Ok P x):Ok P (cond (aK i n) x y):=by
 rw[aI h.1 h.2];exact hx
theorem aD{α:Type}{P:α→Prop}{n:Nat}{x y:Option α}(h:n<68719476736)(hx:Ok P x):Ok P (cond (small n) x y):=by
 rw[bs h];exact hx
theorem Si{α:Type}{P:α→Prop}{l c:Int}{x y:Option α}(h:0≤l∧l≤c∧c<68719476736)(hx:Ok P x):Ok P (cond (dX l c) x y):=by
 rw[bq h.1 h.2.1 h.2.2];exact hx
theorem Dq{α:Type}{P:α→Prop}{l h m n:Int}{x y:Option α}(hh:0≤l∧l≤h∧h≤m∧m≤n)(hx:Ok P x):Ok P (cond (fD l h m n) x y):=by
 rw[b9 hh.1 hh.2.1 hh.2.2.1 hh.2.2.2];exact hx
theorem fW{σ β:Type}{P:β→Prop}{F:Nat→Int→σ→Option β}{len:Nat}(I:Nat→σ→Prop)
  (hs: ∀n i s,i<len→I i s→(∀s',I (i+1) s'→Ok P (F n ((i+1:Nat):Int) s'))→Ok P (F (n+1) (i:Int) s)) (he: ∀n s,I len s→Ok P (F (n+1) (len:Int) s)):
  ∀m n i s,len-i≤m→m<n→i≤len→I i s→Ok P (F n (i:Int) s)
 |m,0,i,s,_,hn,_,_=>by omega
 |m,n+1,i,s,hm,hn,hi,hI=>by
  by_cases h:i<len
  ·exact hs n i s h hI fun s' sH=>fW I hs he (m-1) n (i+1) s' (by omega) (by omega) (by omega) sH
  ·have:i=len:=by omega
   subst this
   exact he n s hI
theorem bh{σ β:Type}{P:β→Prop}{F:Nat→Int→σ→Option β}{len:Nat}(I:Nat→σ→Prop){N:Nat}{s:σ}(h0:I 0 s)(hN:len<N)
  (hs: ∀n i s,i<len→I i s→(∀s',I (i+1) s'→Ok P (F n ((i+1:Nat):Int) s'))→Ok P (F (n+1) (i:Int) s)) (he: ∀n s,I len s→Ok P (F (n+1) (len:Int) s)):Ok P (F N 0 s):=
 fW I hs he len N 0 s (by omega) hN (by omega) h0
theorem jL{β:Type}{P:β→Prop}{F:Nat→Int→Option β}{len N:Nat}(hN:len<N)
  (hs: ∀n i,i<len→Ok P (F n ((i+1:Nat):Int))→Ok P (F (n+1) (i:Int))) (he: ∀n,Ok P (F (n+1) (len:Int))):Ok P (F N 0):=
 bh (σ:=Unit) (F:=fun n i _=>F n i) (fun _ _=>True) (s:=()) trivial hN (fun n i _ h _ hr=>hs n i h (hr () trivial)) fun n _ _=>he n
theorem yj{σ β:Type}{P:β→Prop}{F:Nat→Int→σ→Option β}(I:Nat→σ→Prop)
  (hs: ∀n (k:Nat) s,I (k+1) s→(∀s',I k s'→Ok P (F n (k:Int) s'))→Ok P (F (n+1) ((k+1:Nat):Int) s)) (he: ∀n s,I 0 s→Ok P (F (n+1) 0 s)):
  ∀(k n:Nat) s,k<n→I k s→Ok P (F n (k:Int) s)
 |0,0,s,hn,_=>by omega
 |0,n+1,s,hn,hI=>he n s hI
 |k+1,0,s,hn,_=>by omega
 |k+1,n+1,s,hn,hI=>hs n k s hI fun s' sH=>yj I hs he k n s' (by omega) sH
def G(m:Nat):(τ:Ty)→τ.den→Prop
 | .int .i64,x=>aB x
 | .int .u64,x=>0≤x∧x<18446744073709551616
 | .slice e,l=>List.length l≤m∧ ∀x∈(l:List e.den),G m e x
 | .pair a b,x=>G m a x.1∧G m b x.2
 |_,_=>True
theorem G.mono{m n:Nat}(h:m≤n): ∀{τ:Ty} {x:τ.den},G m τ x→G n τ x
 | .int k,x,hx=>by cases k<;>exact hx
 | .slice e,l,hl=>⟨auX hl.1 h,fun x hx=>G.mono h (hl.2 x hx)⟩
 | .pair a b,x,hx=>⟨G.mono h hx.1,G.mono h hx.2⟩
 | .bool,_,_=>trivial
 | .str,_,_=>trivial
 | .unit,_,_=>trivial
 | .arr _ _,_,_=>trivial
theorem G.nil{m:Nat}{e:Ty}:G m (.slice e) ([]:List e.den):=⟨au3 _,fun x hx=>nomatch hx⟩
theorem G.app{m:Nat}{e:Ty}{l:List e.den}{x:e.den}(h:G m (.slice e) l)(hx:G m e x):G (m+1) (.slice e) (l++[x]):=
 ⟨by have:=h.1;rw[aug,aud];omega,fun y hy=>by
  rcases aut.1 hy with hy|hy
  ·exact G.mono (by omega) (h.2 y hy)
  ·rw[auE.1 hy];exact G.mono (by omega) hx⟩
theorem G.get{m:Nat}{e:Ty}{l:List e.den}{d:e.den}(h:G m (.slice e) l)(hd:G m e d)(k:Nat):G m e (l.getD k d):=by
 by_cases hk:k<l.length
 ·rw[aub,auf hk];exact h.2 _ (auT hk)
 ·rw[aub,auQ (by omega)];exact hd
theorem G.zero(m:Nat): ∀τ:Ty,G m τ τ.zero
 | .int k=>by cases k<;>first|trivial|exact⟨by decide,by decide⟩
 | .slice _=>G.nil
 | .pair a b=>⟨G.zero m a,G.zero m b⟩
 | .bool=>trivial
 | .str=>trivial
 | .unit=>trivial
 | .arr _ _=>trivial
theorem G.at{m:Nat}{e:Ty}{l:List e.den}(h:G m (.slice e) l)(k:Nat):G m e (l.getD k e.zero):=h.get (G.zero m e) k
theorem G.set{m:Nat}{e:Ty}{l:List e.den}{x:e.den}(h:G m (.slice e) l)(hx:G m e x)(k:Nat):G m (.slice e) (l.set k x):=
 ⟨by rw[aup];exact h.1,fun y hy=>by
  rcases avO hy with hy|rfl
  ·exact h.2 y hy
  ·exact hx⟩
theorem dP(x:Int):aB (W .i64 x):=by
 rw[gH];unfold aB;split<;>omega
def Bg(k:Nat)(z:au):Prop:= ∃v,z=bX v∧Fit v k
theorem Bg.mono{j k:Nat}{z:au}(h:Bg j z)(hk:j≤k):Bg k z:=by
 obtain⟨v,e,f⟩:=h
 exact⟨v,e,Fit.mono f hk⟩
theorem Bg.zero:Bg 1 (false,(([]:List Int),())):=⟨0,iQ.symm,by unfold Fit;decide⟩
theorem aZ(N:Nat)(hN:4000000≤N){x:Int}(h:aB x):Ok (Bg 2) (fM N x):=kR (eX N (by omega) h.1 h.2) ⟨x,rfl,Fit.i64 h.1 h.2⟩
theorem gO(N:Nat)(hN:4000000≤N){k:Nat}(hk:k≤90000){u v:au}(hu:Bg k u)(hv:Bg k v):Ok (Bg (k+1)) (ud N u v):=by
 obtain⟨a,rfl,ha⟩:=hu
 obtain⟨b,rfl,hb⟩:=hv
 exact kR (js N hN (Fit.mono ha (by omega)) (Fit.mono hb (by omega))) ⟨_,rfl,Fit.add ha hb⟩
theorem uT(N:Nat)(hN:4000000≤N){k:Nat}(hk:k≤90000){u v:au}(hu:Bg k u)(hv:Bg k v):Ok (Bg (k+1)) (Ij N u v):=by
 obtain⟨a,rfl,ha⟩:=hu
 obtain⟨b,rfl,hb⟩:=hv
 exact kR (pj N hN (Fit.mono ha (by omega)) (Fit.mono hb (by omega))) ⟨_,rfl,by rw[axl];exact Fit.add ha (Fit.neg hb)⟩
theorem oU(N:Nat)(hN:4000000≤N){k:Nat}(hk:k≤90000){u:au}(hu:Bg k u):Ok (Bg k) (MS N u):=by
 obtain⟨a,rfl,ha⟩:=hu
 exact kR (rO N hN (Fit.mono ha (by omega))) ⟨_,rfl,Fit.neg ha⟩
theorem rm(N:Nat)(hN:4000000≤N){k:Nat}(hk:k≤90000){u:au}(hu:Bg k u):Ok (Bg k) (HF N u):=by
 obtain⟨a,rfl,ha⟩:=hu
 exact kR (oL N hN (Fit.mono ha (by omega))) ⟨_,rfl,Fit.of_le ha (by omega)⟩
theorem jM(N:Nat)(hN:4000000≤N){j k:Nat}(hj:j≤90000)(hk:k≤90000){u v:au}(hu:Bg j u)(hv:Bg k v):Ok (Bg (j+k)) (fN N u v):=by
 obtain⟨a,rfl,ha⟩:=hu
 obtain⟨b,rfl,hb⟩:=hv
 exact kR (ug N hN (Fit.mono ha hj) (Fit.mono hb hk)) ⟨_,rfl,Fit.mul ha hb⟩
theorem yk(N:Nat){k:Nat}{u:au}(hu:Bg k u):Ok (fun _=>True) (J7 N u):=by
 obtain⟨a,rfl,ha⟩:=hu
 exact kR (pk N a) trivial
theorem oe(N:Nat)(hN:4000000≤N){j k:Nat}(hj:j≤90000)(hk:k≤90000){u v:au}(hu:Bg j u)(hv:Bg k v):Ok (fun _=>True) (CY N u v):=by
 obtain⟨a,rfl,ha⟩:=hu
 obtain⟨b,rfl,hb⟩:=hv
 exact kR (CX N hN (Fit.mono ha (by omega)) (Fit.mono hb (by omega))) trivial
theorem IP(v:Int):aB (xt v).1:=by
 by_cases h:aB v
 ·rw[Db h];exact h
 ·rw[Dc h];unfold aB;decide
theorem tj(N:Nat){k:Nat}{u:au}(hu:Bg k u):Ok (fun r=>aB r.1) (qX N u):=by
 obtain⟨a,rfl,ha⟩:=hu
 exact kR (qW N a) (IP a)
end VM
end
section
namespace VM
open Go VM.F
abbrev L3(m:Nat)(l:aj):Prop:=G m (.slice fG) l
def ga(m:Nat)(p:bk):Prop:=p.length≤m∧ ∀y∈p,Bg 8 y.2.2.1
theorem ga.at{m:Nat}{p:bk}(h:ga m p)(i:Nat):Bg 8 (p.getD i ((0:Int),((0:Int),((false,kX),())))).2.2.1:=by
 by_cases hk:i<p.length
 ·rw[aub,auf hk];exact h.2 _ (auT hk)
 ·rw[aub,auQ (by omega)];exact Bg.mono Bg.zero (by decide)
theorem ga.nil{m:Nat}:ga m []:=⟨au3 _,fun x hx=>nomatch hx⟩
theorem ga.app{m n:Nat}{p q:bk}(h:ga m p)(h':ga n q):ga (m+n) (p++q):=
 ⟨by have:=h.1;have:=h'.1;rw[aug];omega,fun y hy=>(aut.1 hy).elim (h.2 y) (h'.2 y)⟩
theorem ga.mono{m n:Nat}{p:bk}(h:ga m p)(hm:m≤n):ga n p:=⟨auX h.1 hm,h.2⟩
theorem w4(N:Nat){k:Nat}{u:au}(hu:Bg k u):Ok (fun r=>aB r.1) (OY N u):=by
 unfold OY
 refine af (tj N hu) fun r h=>bx (fun _=>ag (by unfold aB;decide)) fun _=>ok_eq (fun _=>ag (by unfold aB;decide)) fun _=>ag h
theorem fP{x:Int}(h0: -1000000≤x)(h1:x≤1000000):aB x:=by unfold aB;omega
theorem G3{m:Nat}{a b c:Int}(ha:aB a)(hb:aB b)(hc:aB c):G m fG (a,(b,(c,()))):=⟨ha,hb,hc,trivial⟩
theorem aU:aB 0:=by unfold aB;decide
theorem L0(N:Nat)(hN:4000000≤N){x k n:Int}{p:bk}(hx:aB x)(hp:ga 50000 p):Ok (fun r=>aB r.1) (og N x k n p):=by
 have hl:=hp.1
 refine bh (len:=p.length) (F:=fun n' i (s:au×Bool)=>og.l3 N n' x k n p s.1 s.2 i) (s:=(_,_)) (fun i s=>Bg (8+i) s.1) (Bg.mono Bg.zero (by omega)) (by omega) (fun n' i s hi hI hr=> ?_) (fun n' s hI=> ?_)
 all_goals unfold og.l3 og.ix
 ·rw[an (x:=(i:Int)+1) (by omega) (by omega),aa i]
  have h1:=hr (s.1,s.2) (Bg.mono hI (by omega))
  repeat' first|exact h1|refine aw ⟨by omega,by omega⟩ ?_|refine av (fun _=> ?_) (fun _=> ?_)|refine ok_eq (fun _=> ?_) (fun _=> ?_)|(exfalso;omega)|exact af (gO N hN (by omega) hI (Bg.mono (hp.at _) (by omega))) fun r h=>hr (r,true) h
 ·refine av (fun _=>by omega) fun _=>bx (fun _=>ag hx) fun _=>af (aZ N hN hx) fun r h=>af (gO N hN (by omega) hI (Bg.mono h (by omega))) fun r h=>af (tj N h) fun r h=>ag h
theorem Sj(N:Nat)(hN:4000000≤N){l:aj}{p:bk}{m:Nat}(hm:m≤50000)(hl:L3 m l)(hp:ga 50000 p):Ok (fun r=>L3 200 r.1) (da N l p):=by
 have Q4:=hl.1
 refine fW (len:=8) (F:=fun n k (s:aj×Int)=>da.l4 N n l p s.1 s.2 k) (fun i s=>L3 (25*i) s.1∧0≤s.2) (fun n i s hi hI hr=> ?_) (fun n s hI=> ?_) 8 N 1 (_,_) (by omega) (by omega) (by omega) ⟨G.nil,avo 0⟩
 all_goals unfold da.l4 da.cT
 ·refine cW (fun _=> ?_) (fun _=>by omega)
  refine bh (len:=25) (F:=fun n' j (s:aj×Int)=>da.l7 N (da.l4 N n) n' l p s.1 s.2 (i:Int) j) (s:=s) (fun j s=>L3 (25*i+j) s.1∧0≤s.2) hI (by omega) (fun n' j s hj hI dT=> ?_) (fun n' s hI=> ?_)
  all_goals unfold da.l7 da.n9
  ·have jP: ∀(k x:Int),0≤k→aB x→Ok (fun r=>L3 200 r.1) (da.HG N (da.l4 N n) (da.l7 N (da.l4 N n) n') l p s.1 k (i:Int) (j:Int) x):=fun k x hk hx=>by
    unfold da.HG da.xu
    rw[an (x:=(j:Int)+1) (by omega) (by omega),aa j]
    have hs:=hI.1.1
    refine af (L0 N hN hx hp) fun r h=>bx (fun _=>ag G.nil) fun _=>bA (fun _=>aD (by rw[aud];omega) (dT (_,k) ⟨G.app hI.1 (G3 (fP (by omega) (by omega)) (fP (by omega) (by omega)) h),hk⟩)) fun _=>dT (s.1,k) ⟨G.mono (by omega) hI.1,hk⟩
   have h0:=jP s.2 0 hI.2 aU
   have XE:=hI.2
   repeat' first|exact h0|refine aw ⟨by omega,by omega⟩ ?_|refine av (fun _=> ?_) (fun _=> ?_)|refine cW (fun _=> ?_) (fun _=> ?_)|refine ok_eq (fun _=> ?_) (fun _=> ?_)|(exfalso;omega)|exact jP _ _ (by rw[an (x:=s.2+1) (by omega) (by omega)];omega) (G.at hl _).2.2.1
  ·rw[an (x:=(i:Int)+1) (by omega) (by omega),aa i]
   exact cW (fun _=>by omega) fun _=>hr s ⟨G.mono (by omega) hI.1,hI.2⟩
 ·exact cW (fun _=>by omega) fun _=>ag (G.mono (by decide) hI.1)
theorem IQ(N:Nat)(hN:4000000≤N){l t:aj}{m:Nat}(hm:m≤50000)(hl:L3 m l)(ht:L3 50000 t):Ok (fun r=>L3 200 r.1) (bZ N l t):=by
 have Q4:=hl.1
 have htl:=ht.1
 refine bh (len:=25) (F:=fun n k (s:aj×Int)=>bZ.l4 N n l t s.1 s.2 k) (s:=(_,_)) (fun i s=>L3 (6*i) s.1∧0≤s.2) ⟨G.nil,avo 0⟩ (by omega) (fun n i s hi hI hr=> ?_) (fun n s hI=> ?_)
 all_goals unfold bZ.l4 bZ.cT
 ·refine cW (fun _=> ?_) (fun _=>by omega)
  refine bh (len:=6) (F:=fun n' j (s:aj×Int)=>bZ.l7 N (bZ.l4 N n) n' l t s.1 s.2 (i:Int) j) (s:=s) (fun j s=>L3 (6*i+j) s.1∧0≤s.2) hI (by omega) (fun n' j s hj hI dT=> ?_) (fun n' s hI=> ?_)
  all_goals unfold bZ.l7 bZ.n9
  ·have jP: ∀(k x:Int),0≤k→aB x→Ok (fun r=>L3 200 r.1) (bZ.HG N (bZ.l4 N n) (bZ.l7 N (bZ.l4 N n) n') l t s.1 k (i:Int) (j:Int) x false):=fun k x hk hx=>by
    unfold bZ.HG bZ.xu
    have hs:=hI.1.1
    have tK: ∀y:Int,aB y→Ok (fun r=>L3 200 r.1) (cond (!ay y 0) (cond (small (s.1.length+[(((i:Int),((j:Int),(y,()))):cm)].length)) (bZ.l7 N (bZ.l4 N n) n' l t (s.1++[((i:Int),((j:Int),(y,())))]) k (i:Int) (W .i64 ((j:Int)+1))) none) (bZ.l7 N (bZ.l4 N n) n' l t s.1 k (i:Int) (W .i64 ((j:Int)+1)))):=fun y hy=>by
     rw[an (x:=(j:Int)+1) (by omega) (by omega),aa j]
     exact bA (fun _=>aD (by rw[aud];omega) (dT (_,k) ⟨G.app hI.1 (G3 (fP (by omega) (by omega)) (fP (by omega) (by omega)) hy),hk⟩)) fun _=>dT (s.1,k) ⟨G.mono (by omega) hI.1,hk⟩
    refine bh (len:=t.length) (F:=fun B9 u (z:au×Bool)=>bZ.L1 N (bZ.l4 N n) (bZ.l7 N (bZ.l4 N n) n') B9 l t s.1 k (i:Int) (j:Int) x z.2 z.1 u) (s:=(_,_)) (fun u z=>Bg (3+u) z.1) (Bg.mono Bg.zero (by omega)) (by omega) (fun B9 u z hu hz OZ=> ?_) (fun B9 z hz=> ?_)
    all_goals unfold bZ.L1 bZ.IS
    ·rw[an (x:=(u:Int)+1) (by omega) (by omega),aa u]
     have h1:=OZ (z.1,z.2) (Bg.mono hz (by omega))
     repeat' first|exact h1|refine aw ⟨by omega,by omega⟩ ?_|refine av (fun _=> ?_) (fun _=> ?_)|refine ok_eq (fun _=> ?_) (fun _=> ?_)|(exfalso;omega)|exact af (aZ N hN (G.at ht _).2.2.1) fun r h=>af (gO N hN (by omega) hz (Bg.mono h (by omega))) fun r h=>OZ (r,true) h
    ·exact av (fun _=>by omega) fun _=>oT (fun _=>af (aZ N hN hx) fun r h=>af (gO N hN (by omega) hz (Bg.mono h (by omega))) fun r h=>af (w4 N h) fun r h=>bx (fun _=>ag G.nil) fun _=>tK _ h) fun _=>tK _ hx
   have h0:=jP s.2 0 hI.2 aU
   have XE:=hI.2
   repeat' first|exact h0|refine aw ⟨by omega,by omega⟩ ?_|refine av (fun _=> ?_) (fun _=> ?_)|refine cW (fun _=> ?_) (fun _=> ?_)|refine ok_eq (fun _=> ?_) (fun _=> ?_)|(exfalso;omega)|exact jP _ _ (by rw[an (x:=s.2+1) (by omega) (by omega)];omega) (G.at hl _).2.2.1
  ·rw[an (x:=(i:Int)+1) (by omega) (by omega),aa i]
   exact av (fun _=>by omega) fun _=>hr s ⟨G.mono (by omega) hI.1,hI.2⟩
 ·exact cW (fun _=>by omega) fun _=>ag (G.mono (by decide) hI.1)
theorem G.fc{m:Nat}:G m aA (bN,(cL,(br,(br,(c5,(de,())))))):=G.zero m aA
theorem nX(N:Nat)(hN:4000000≤N){b:ah}{s:aj}{p:bk}{m:Nat}(h2:200≤m)(hm:m≤50000)(hb:G m aA b)(hs:L3 50000 s)(hp:ga 50000 p):Ok (fun r=>G m aA r.1) (zS N b s p):=by
 unfold zS
 exact af (IQ N hN hm hb.2.2.2.1 hs) fun r h=>bx (fun _=>ag G.fc) fun _=>af (Sj N hN hm hb.2.2.1 hp) fun r' h'=>bx (fun _=>ag G.fc) fun _=>ag ⟨hb.1,hb.2.1,G.mono h2 h',G.mono h2 h,hb.2.2.2.2⟩
end VM
end
section
namespace VM
open Go VM.F
theorem bJ{α β:Type}{P:β→Prop}{o:Option α}{r:α}{f:α→Option β}(h:o=some r)(hf:Ok P (f r)):Ok P (o.bind f):=by rw[h];exact hf
theorem G.wf{m:Nat}(hm:m≤50000){b:ah}(h:G m aA b):De b:=by
 obtain⟨h1,h2,h3,h4,h5,h6,_⟩:=h
 exact⟨⟨auX h1.1 (by omega),auX h2.1 (by omega),auX h3.1 (by omega),auX h4.1 (by omega),auX h5.1 (by omega),auX h6.1 (by omega),fun x hx=>(h3.2 x hx).2.2.1,fun x hx=>(h4.2 x hx).2.2.1⟩,auX h3.1 (by omega),auX h4.1 (by omega)⟩
theorem dJ(N:Nat)(hN:5000000≤N){c:ae}{b:ah}{m:Nat}(hm:m≤50000)(h:G m aA b):bE N c b=some (dn c b):=Ot N hN (G.wf hm h).w
theorem Sk{x:Int}(h:kA x):aB x:=by unfold kA at h;unfold aB;omega
theorem Ba(N:Nat)(hN:4000000≤N)(t:uI)(p:Int):Ok (fun r=>ga 2 r.1) (Sl N t p):=by
 unfold Sl
 refine bJ (BV N t) (bx (fun _=>ag ga.nil) fun ht=>bJ (iS N p) (bx (fun _=>ag ga.nil) fun _=>af (aZ N hN (dP _)) fun a ha=>af (aZ N hN ?_) fun q hq=>af (jM N hN (by omega) (by omega) ha hq) fun x hx=>af (yk N hx) fun _ _=>ok_eq (fun _=>ag ga.nil) fun _=> ?_))
 ·have:=auw ht
  unfold rT jD at this
  exact awD (by decide) this.2.2.2.2.1.1 |> fun h=>⟨h,awM this.2.2.2.2.1.2 (by decide)⟩
 ·unfold IT
  have hr: ∀a:Int,Ok (fun _=>True) (cond (ay a 0) (some ((2:Int),(0:Int))) (some ((5:Int),a))):=fun a=>ok_eq (fun _=>ag trivial) fun _=>ag trivial
  refine af (hr _) fun _ _=>af (hr _) fun _ _=>af (oU N hN (by omega) hx) fun y hy=>ag ⟨aul 2,fun z hz=> ?_⟩
  rcases auy.1 hz with rfl|hz
  ·exact Bg.mono hx (by omega)
  ·rw[auE.1 hz];exact Bg.mono hy (by omega)
theorem FI(N:Nat)(hN:200000≤N){b:ah}{m:Nat}(hm:m≤50000)(h:G m aA b)(id:Int):Ok (fun _=>True) (C8 N b id):=kR (uy N b (G.wf hm h).w.a hN id) trivial
theorem Ca(N:Nat)(hN:5000000≤N)(c:ae){b:ah}{l:bc}{m:Nat}(h2:200≤m)(hm:m≤50000)(hb:G m aA b):Ok (fun r=>G m aA r.1) (fv N c b l):=by
 unfold fv fv.b
 refine bJ (dJ N hN hm hb) (bx (fun _=>ag G.fc) fun hB=>av (fun _=>ag G.fc) fun hl=> ?_)
 obtain⟨hp,_⟩:=im hB
 refine bh (len:=l.length) (F:=fun n i (_:Unit)=>fv.l4 N n l c b (bN,(cL,(br,(br,(c5,(de,())))))) i) (s:=()) (fun i _=> ∀j,j<i→rT (l.getD j j2)) (fun j hj=>by omega) (by omega) (fun n i _ hi hI hr=> ?_) (fun n _ hI=> ?_)
 all_goals unfold fv.l4 fv.cT
 ·rw[an (x:=(i:Int)+1) (by omega) (by omega),aa i]
  refine av (fun _=>aw ⟨by omega,by omega⟩ (bJ (BV N _) (bx (fun _=>ag G.fc) fun ht=>hr () fun j hj=> ?_))) fun _=>by omega
  by_cases e:j=i
  ·rw[e];exact auw ht
  ·exact hI j (by omega)
 ·refine av (fun _=>by omega) fun _=> ?_
  refine bh (len:=l.length) (F:=fun n i (s:aj×bk)=>fv.ve N n l c b (bN,(cL,(br,(br,(c5,(de,())))))) s.1 s.2 i) (s:=(_,_)) (fun i s=>L3 (2*i) s.1∧ga (2*i) s.2) ⟨G.nil,ga.nil⟩ (by omega) (fun n i s hi hJ hr=> ?_) (fun n s hJ=> ?_)
  all_goals unfold fv.ve fv.sy
  ·have ht:=hI i hi
   unfold rT jD at ht
   have Ht:=hJ.1.1
   have XE:=hJ.2.1
   have g64: ∀x:Int,0≤x∧x≤1000000→aB x:=fun x h=>fP (by omega) (by omega)
   dsimp only
   rw[an (x:=(i:Int)+1) (by omega) (by omega),aa i,aue]
   refine av (fun _=>aw ⟨by omega,by omega⟩ (af (FI N (by omega) hm hb _) fun _ _=>bx (fun _=>ag G.fc) fun _=>af (FI N (by omega) hm hb _) fun _ _=>bx (fun _=>ag G.fc) fun _=>cW (fun _=>ag G.fc) fun dz=>aD ?_ (aw ⟨ht.2.2.2.1.1,by omega⟩ (af (Ba N (by omega) _ _) fun r h=>aD ?_ (hr (_,_) ⟨?_,ga.mono (ga.app hJ.2 h) (by omega)⟩))))) fun _=>by omega
   ·rw[auj,aud];omega
   ·have:=h.1;omega
   ·have hq:aB (l.getD i j2).2.2.2.1:=⟨awD (by decide) ht.2.2.2.2.1.1,awM ht.2.2.2.2.1.2 (by decide)⟩
    have ji:aB (l.getD i j2).2.2.1:=g64 _ ⟨ht.2.2.2.1.1,awD (av1 ht.2.2.2.1.2) (by decide)⟩
    have h1:=G.app (G.app hJ.1 (G3 (g64 _ ⟨ht.1.1,awD ht.1.2 (by decide)⟩) ji hq)) (G3 (g64 _ ⟨ht.2.1.1,awD ht.2.1.2 (by decide)⟩) ji (dP (0-(l.getD i j2).2.2.2.1)))
    rw[aur]at h1
    exact G.mono (by omega) h1
  ·exact av (fun _=>by omega) fun _=>af (nX N (by omega) h2 hm hb (G.mono (by omega) hJ.1) (ga.mono hJ.2 (by omega))) fun r h=>ag h
end VM
end
