/- A part of the proof of BookDrawn of layer 18: what the functions compute, in plain words. -/
import Derived.Test.YtecmobijochjkaaGreatPlain3
set_option linter.all false
section
namespace VM
open Go VM.F
theorem qu{a b:List Int}(hl:a.length=b.length)(h: ∀i,i<a.length→a.getD i 0=b.getD i 0):a=b:=by
 refine List.ext_getElem hl (λi h1 h2=> ?_)
 have:=h i h1
 rwa [aW,bl h1,aW,bl h2]at this
theorem UX: ∀(ks q:List Int) (i:Nat),ks.Nodup→(∀k∈ks,0≤k∧k<q.length)→(bump q ks).getD i 0=q.getD i 0+(if(i:Int)∈ks then 1 else 0)
 |[],q,i,_,_=>by simp[bump]
 |k::t,q,i,hn,h=>by
  have hk:=h k (bt ..)
  rw[A2]at hn
  unfold bump
  rw[UX t _ i hn.2 (λx hx=>by rw[bU];exact h x (a8 _ hx))]
  by_cases hik:(i:Int)=k
  ·rw[ah (by rw[hik];exact hn.1),ak (by rw[hik];exact bt ..),←hik,aG,nG q _ ω];omega
  ·rw[getD_set_ne q _ ω]
   by_cases ht:(i:Int)∈t
   ·rw[ak ht,ak (a8 _ ht)]
   ·rw[ah ht,ah (λhc=>by rcases bc.1 hc with hc|hc;exact hik hc;exact ht hc)]
theorem PG(l:List Int):(lA l).Nodup:=(pC l l.length).imp (λ{a b} h he=>by unfold zP at h;rw[he]at h;omega)
theorem UY(t S:Int)(hS:0<S): ∀u:List Int,(mu t S u).sum≤u.length*S
 |[]=>by simp[mu]
 |x::u=>by
  have ih:=UY t S hS u
  have:=AV (t*x) hS
  unfold mu at*
  rw[bV,cK,aT,Int.natCast_add,p9];simp;omega
def nN(t:Int)(w:List Int):Int:=t-(tB t w.sum w).sum
theorem left_eq(t:Int)(w:List Int):w.sum*nN t w=(mu t w.sum w).sum:=by
 have:=Mv t w.sum w
 unfold nN;rw[Int.mul_sub,jm w.sum t];omega
theorem H4{t:Int}{w:List Int}(ht:0≤t)(hS:0<w.sum):0≤nN t w:=by
 have:=Z1 ht hS (fU _);unfold nN;omega
theorem UZ{t:Int}{w:List Int}(hS:0<w.sum):nN t w≤w.length:=by
 have h1:=left_eq t w
 have h2:=UY t w.sum hS w
 rw[←h1,jm (w.length:Int)]at h2
 exact NL h2 hS
theorem pD(t:Int)(w:List Int):(cn t w).length=w.length:=by unfold cn;rw[PC,yr]
theorem wz{t:Int}{w:List Int}(ht:0≤t)(hS:0<w.sum):(cn t w).sum=t:=by
 unfold cn
 have h1:=H4 ht hS
 have h2:=UZ (t:=t) hS
 unfold nN at*
 rw[PE _ _ (λk hk=>by have:=HZ _ k (lJ hk);rw[qt]at this;rwa [yr]),cf,As,qt]
 omega
theorem Av{f:Int→Int}{c:Int}: ∀{o:List Int},(∀x∈o,f x≤c)→(o.map f).sum≤o.length*c
 |[],_=>by simp
 |x::o,h=>by
  have ih:=Av (f:=f) (c:=c) (o:=o) (λy hy=>h y (a8 _ hy))
  have:=h x (bt ..)
  rw[bV,cK,aT,Int.natCast_add,p9];simp;omega
theorem Tc{l o:List Int}(h:o.Pairwise (zP l)){m:Nat}{x y:Int}(hx:x∈o.take m)(hy:y∈o.drop m):zP l x y:=by
 rw[←gP m o,xm]at h
 exact h.2.2 x hx y hy
theorem WZ{t:Int}{w:List Int}(ht:0≤t)(hS:0<w.sum){i:Int}(hi:i∈(lA (mu t w.sum w)).take (nN t w).toNat):0<Ce (mu t w.sum w) i:=by
 have Om: ∀k:Int,0≤Ce (mu t w.sum w) k:=λk=>iP (PF hS) _
 have eV: ∀k:Int,Ce (mu t w.sum w) k≤w.sum-1:=λk=>by
  unfold Ce;rw[UW]
  have:=AV (t*w.getD k.toNat 0) hS;omega
 have h0:=Om i
 rcases Int.lt_or_le 0 (Ce (mu t w.sum w) i)with h|h
 ·exact h
 exfalso
 have JO:=Ta (mu t w.sum w) (mu t w.sum w) rfl
 rw[←left_eq]at JO
 have awy:=gP (nN t w).toNat (lA (mu t w.sum w))
 rw[←awy,dp,nZ]at JO
 have hd:(((lA (mu t w.sum w)).drop (nN t w).toNat).map (Ce (mu t w.sum w))).sum≤((lA (mu t w.sum w)).drop (nN t w).toNat).length*0:=Av (λy hy=>by
  have:=Tc (pC _ _) hi hy
  unfold zP at this;omega)
 have htk:(((lA (mu t w.sum w)).take (nN t w).toNat).map (Ce (mu t w.sum w))).sum≤((lA (mu t w.sum w)).take (nN t w).toNat).length*(w.sum-1):=Av (λy _=>eV y)
 have h1:=H4 ht hS
 have h2:=UZ (t:=t) hS
 rw[cf,As,qt,iq ω,Int.mul_sub]at htk
 rw[A7]at hd
 have h3:(((nN t w).toNat:Nat):Int)=nN t w:=ω
 have h4:0<(nN t w).toNat:=by
  rcases Nat.eq_zero_or_pos (nN t w).toNat with h|h
  ·rw[h,mB]at hi;nomatch hi
  ·exact h
 rw[h3,jm (nN t w)]at htk
 omega
def extra(t:Int)(w:List Int)(i:Nat):Int:=if(i:Int)∈(lA (mu t w.sum w)).take (nN t w).toNat then 1 else 0
theorem KP(t:Int)(w:List Int)(i:Nat):(cn t w).getD i 0=t*w.getD i 0/w.sum+extra t w i:=by
 unfold cn
 rw[UX _ _ i ((PG _).sublist (List.take_sublist ..)) (λk hk=>by have:=HZ _ k (lJ hk);rw[qt]at this;rwa [yr]),UU]
 rfl
theorem KQ(t:Int)(w:List Int)(i:Nat):extra t w i=0∨extra t w i=1:=by unfold extra;split<;>omega
theorem W0{t:Int}{w:List Int}(ht:0≤t)(hS:0<w.sum){i:Nat}(h:extra t w i=1):0<t*w.getD i 0%w.sum:=by
 unfold extra at h
 by_cases hi:(i:Int)∈(lA (mu t w.sum w)).take (nN t w).toNat
 ·have:=WZ ht hS hi
  unfold Ce at this;rwa [UW,aG]at this
 ·rw[ah hi]at h;omega
theorem wA{t:Int}{w:List Int}(ht:0≤t)(hS:0<w.sum)(hw:Pos w):Pos (cn t w):=λx hx=>by
 obtain⟨i,hi,rfl⟩:=rZ.1 hx
 have:=KP t w i
 rw[aW,bl hi]at this
 have h1:=KQ t w i
 have h2:0≤t*w.getD i 0/w.sum:=uN (uQ ht (iP hw i)) ω
 simp only[nY]at this
 omega
theorem Eu{t:Int}{w:List Int}(ht:0≤t)(hS:0<w.sum){i:Nat}(h:w.getD i 0=0):(cn t w).getD i 0=0:=by
 rw[KP,h]
 rcases KQ t w i with h1|h1
 ·rw[h1];simp
 ·have:=W0 ht hS h1
  rw[h]at this;simp at this
theorem Ev(N:Nat)(hN:5000000≤N){t:Int}{w:List Int}(ht:0≤t)(xe:t<9223372036854775808)(hw:w.length≤64)(hp:Pos w)(hS:0<w.sum)(hS1:w.sum<9223372036854775808):
  ∀(m n i:Nat) (q r:List Int),w.length-i≤m→m<n→i≤w.length→q.length=w.length→r.length=w.length→q.take i=tB t w.sum (w.take i)→r.take i=mu t w.sum (w.take i)→
  gy.KR N n t w (cF w.sum) q r (t-(tB t w.sum (w.take i)).sum) (i:Int)=some (cn t w,0)
 |m,0,i,q,r,_,hn,_,_,_,_,_=>ω
 |m,n+1,i,q,r,hm,hn,hi,hq,hr,eq,er=>by
  unfold gy.KR gy.H5
  by_cases h:i<w.length
  ·have hwi:=iP hp i
   have awz:=Au hp i
   have hb:=mul_lt ht hwi (show t≤9223372036854775807 by omega) (show w.getD i 0≤9223372036854775807 by omega)
   have hqi:t*w.getD i 0/w.sum≤t:=Int.ediv_le_of_le_mul hS (yT awz ht)
   have aEa:0≤t*w.getD i 0/w.sum:=uN hb.1 ω
   have hri:=AV (t*w.getD i 0) hS
   have aEb:=Gl (t*w.getD i 0) (show w.sum≠0 by omega)
   have hs0:=Z1 ht hS (Et hp i)
   have Nr:=kM (HX ht (by omega:0≤w.sum) (PD hp i))
   have ft:Fit t 2:=Fit.i64 ω ω
   have fw:Fit (w.getD i 0) 2:=Fit.i64 ω ω
   have fS:Fit w.sum 2:=Fit.i64 ω ω
   rw[aQ ω,aj,da N ω ω xe,ar,aU ω ω,aj,aG,da N ω ω ω,ar,
    sJ N ω (ft.mono ω) (fw.mono ω),ar,Uz N ω hS ((ft.mul fw).mono ω) (fS.mono ω),ar]
   dsimp only
   rw[uz,ar,Mw ω ω,uz,Mw ω ω]
   dsimp only
   rw[ar,aU ω ω,aj,aU ω ω,aj,bU,aU ω ω,aj,nG q _ ω,aw (x:=(i:Int)+1) ω ω,aw ω ω]
   have BT:=Ev N hN ht xe hw hp hS hS1 (m-1) n (i+1) (q.set i (t*w.getD i 0/w.sum)) (r.set i (t*w.getD i 0%w.sum)) ω ω ω (by rw[bU];exact hq) (by rw[bU];exact hr)
    (by rw[take_set q _ ω,eq,iW w h];unfold tB;simp)
    (by rw[take_set r _ ω,er,iW w h];unfold mu;simp)
   rw[←KO,mJ _ (by rw[yr];exact h),UU,KO]at BT
   rw[Int.sub_sub]
   exact BT
  ·have oe:i=w.length:=ω
   subst oe
   rw[iG ω,iG ω]at eq er
   subst eq er
   rw[iG ω]
   have Nr:=kM (HX ht (by omega:0≤w.sum) hp)
   have h1:=H4 ht hS
   unfold nN at h1
   rw[aP ω,av,WY N (by rw[qt];omega) (by rw[qt];omega),ar]
   have hlen:=As (mu t w.sum w)
   rw[qt]at hlen
   have xK:=HY N (ks:=lA (mu t w.sum w)) ω w.length (λk hk=>by have:=HZ _ k hk;rwa [qt]at this) 1000 N 0 (t-(tB t w.sum w).sum).toNat (tB t w.sum w) ω ω ω (yr ..) (HX ht ω hp) ω ω
   rw[cJ,uI h1]at xK
   exact xK
theorem Di(N:Nat)(hN:5000000≤N){t:Int}{w:List Int}(xe:t<9223372036854775808)(hw:KN w)(hl:w.length≤1000000):gy N t w=some (sU t w):=by
 unfold gy gy.b sU
 rw[HW N ω,ar]
 by_cases h1:t<0
 ·rw[aV h1,A8,aj,ak (.inl h1)]
 rw[bu h1,p7]
 cases h2:may w
 ·rw[dt,aj,ak (.inr rfl)]
 rw[bg,av,ah (by simp[h1]),Al N ω hw hl,ar,pS,ar]
 obtain⟨H6,hp⟩:=pW.1 h2
 have hS0:=kM hp
 have hj: ∀h: ¬9223372036854775808≤w.sum,gy.j6 N t w (cF w.sum)=if w.sum=0 then some (List.replicate w.length 0,0)else some (cn t w,0):=λh=>by
  unfold gy.j6 gy.OY
  rw[uz,ar,Mw ω ω,bg,av,c9 ω ω ω,aj,aj,pS,ar,aG]
  by_cases h4:w.sum=0
  ·rw[ak h4,h4,show vV 0=0 from rfl,ec rfl,aj]
  ·rw[ah h4,eN (by unfold vV;repeat' split<;>omega),av]
   have:=Ev N hN ω xe H6 hp ω ω w.length N 0 (List.replicate w.length 0) (List.replicate w.length 0) ω ω ω (c7 ..) (c7 ..) rfl rfl
   rw[mB]at this
   simp only[tB,gQ,jo,Gr]at this
   exact this
 by_cases h3:9223372036854775808≤w.sum
 ·rw[ak h3,eN (by unfold vV;repeat' split<;>omega),av]
  unfold gy.j6 gy.OY
  rw[uz,ar];unfold CX;rw[ah ω];rfl
 rw[ah h3,hj h3]
 by_cases h4:w.sum=0
 ·rw[ak h4,ak h4,h4,show vV 0=0 from rfl,ec rfl,aj]
  by_cases h5:t=0
  ·rw[ak h5,ec h5,bg,av]
  ·rw[ah h5,eN h5,dt,aj]
 ·rw[ah h4,ah h4,eN (by unfold vV;repeat' split<;>omega),av]
def KS(t n:Int):List Int×Int:=if t<0∨n<1∨64<n then([],1)else sU t (List.replicate n.toNat 1)
theorem Z2(n:Nat):KN (List.replicate n 1):=λx hx=>by rw[AO hx];omega
theorem KT(N:Nat)(hN:5000000≤N){t:Int}{k:Nat}(hk:k≤64)(xe:t<9223372036854775808): ∀(m n i:Nat),k-i≤m→m<n→i≤k→
  sV.l5 N n t (k:Int) (List.replicate i 1++List.replicate (k-i) 0) (i:Int)=some (sU t (List.replicate k 1))
 |m,0,i,_,hn,_=>ω
 |m,n+1,i,hm,hn,hi=>by
  unfold sV.l5 sV.dU
  by_cases h:i<k
  ·rw[aQ ω,aj,aU ω (by simp;omega),aj,aw ω ω]
   refine Eq.trans ?_ (KT N hN hk xe (m-1) n (i+1) ω ω ω)
   congr 1
   rw[aG,NY _ _ (by simp),c7,uS,show k-i=(k-(i+1))+1 by omega,AU,List.set_cons_zero,List.replicate_succ',bD]
   rfl
  ·rw[aP ω,av,show k-i=0 by omega,List.replicate_zero,cy,show i=k by omega,Di N hN xe (Z2 _) (by rw[c7];omega)]
   rfl
theorem Z3(N:Nat)(hN:5000000≤N){t n:Int}(xe:t<9223372036854775808):sV N t n=some (KS t n):=by
 unfold sV sV.b KS
 by_cases h1:t<0
 ·rw[aQ h1,aj,ak (.inl h1)]
 by_cases h2:n<1
 ·rw[aP ω,av,aQ h2,aj,ak (.inr (.inl h2))]
 by_cases h3:64<n
 ·rw[aP ω,av,aP ω,av,aQ h3,aj,ak (.inr (.inr h3))]
 rw[aP ω,av,aP ω,av,aP ω,av,ah ω,c9 ω ω ω,aj]
 have:=KT N hN (t:=t) (k:=n.toNat) ω xe n.toNat N 0 ω ω ω
 rw[List.replicate_zero,cB,Nat.sub_zero,uI ω]at this
 exact this
def H7(n:Nat)(f:Nat→Int):List Int:=(List.range n).map f
theorem iw(n:Nat)(f:Nat→Int):(H7 n f).length=n:=by unfold H7;rw[cz,xn]
theorem ij{n:Nat}{f:Nat→Int}{i:Nat}(h:i<n):(H7 n f).getD i 0=f i:=by
 unfold H7
 rw[aW,n0,List.getElem?_range h];rfl
theorem My(n:Nat)(f:Nat→Int)(i:Nat):(H7 n f).getD i 0=if i<n then f i else 0:=by
 by_cases h:i<n
 ·rw[ak h,ij h]
 ·rw[ah h,vW _ (by rw[iw];omega)]
theorem adq{n:Nat}{f:Nat→Int}(h: ∀i,i<n→0≤f i):Pos (H7 n f):=λx hx=>by
 obtain⟨i,hi,rfl⟩:=cV.1 hx
 exact h i (sj.1 hi)
theorem ud{l:List Int}(h: ∀i,i<l.length→0≤l.getD i 0):Pos l:=λx hx=>by
 obtain⟨i,hi,rfl⟩:=rZ.1 hx
 have:=h i hi
 rwa [aW,bl hi]at this
theorem zj: ∀{a b:List Int},a.length=b.length→(∀i,i<a.length→a.getD i 0≤b.getD i 0)→a.sum≤b.sum
 |[],[],_,_=>fU _
 |[],_::_,h,_=>nomatch h
 |_::_,[],h,_=>nomatch h
 |x::a,y::b,h,h1=>by
  have:=zj (a:=a) (b:=b) (by simpa using h) (λi hi=>by have:=h1 (i+1) (by simpa using hi);simpa using this)
  have h2:x≤y:=by have:=h1 0 (by simp);simpa using this
  rw[cK,cK];omega
theorem H8: ∀{a b c:List Int},a.length=b.length→a.length=c.length→(∀i,i<a.length→a.getD i 0=b.getD i 0+c.getD i 0)→a.sum=b.sum+c.sum
 |[],[],[],_,_,_=>rfl
 |[],_::_,_,h,_,_=>nomatch h
 |[],[],_::_,_,h,_=>nomatch h
 |_::_,[],_,h,_,_=>nomatch h
 |_::_,_::_,[],_,h,_=>nomatch h
 |x::a,y::b,z::c,h,h',h1=>by
  have:=H8 (a:=a) (b:=b) (c:=c) (by simpa using h) (by simpa using h') (λi hi=>by have:=h1 (i+1) (by simpa using hi);simpa using this)
  have h2:x=y+z:=by have:=h1 0 (by simp);simpa using this
  rw[cK,cK,cK];omega
theorem yt: ∀{a:List Int},(∀i,i<a.length→a.getD i 0=0)→a.sum=0
 |[],_=>rfl
 |x::a,h=>by
  have:=yt (a:=a) (λi hi=>by have:=h (i+1) (by simpa using hi);simpa using this)
  have h2:x=0:=by have:=h 0 (by simp);simpa using this
  rw[cK];omega
def c3(w caps out:List Int):List Int:=H7 w.length λi=>if out.getD i 0<caps.getD i 0 then w.getD i 0 else 0
def gb(parts caps out:List Int):List Int:=H7 out.length λi=>min (parts.getD i 0) (caps.getD i 0-out.getD i 0)
def yu(out g:List Int):List Int:=H7 out.length λi=>out.getD i 0+g.getD i 0
def wB(w caps:List Int):Nat→List Int→Int→List Int×Int
 |0,out,left=>(out,left)
 |f+1,out,left=>if left=0∨(c3 w caps out).sum=0 then(out,left)else
  wB w caps f (yu out (gb (cn left (c3 w caps out)) caps out)) (left-(gb (cn left (c3 w caps out)) caps out).sum)
structure U0(t:Int)(w caps out:List Int)(left:Int):Prop where
 n:w.length≤64
 l1:caps.length=w.length
 l2:out.length=w.length
 pw:Pos w
 sw:w.sum<9223372036854775808
 pc: ∀i,0≤caps.getD i 0∧caps.getD i 0<9223372036854775808
 po: ∀i,0≤out.getD i 0
 le: ∀i,i<w.length→out.getD i 0≤caps.getD i 0
 z: ∀i,w.getD i 0=0→out.getD i 0=0
 l:0≤left
 t1:t<9223372036854775808
 s:out.sum+left=t
theorem jF(w caps out:List Int):(c3 w caps out).length=w.length:=iw ..
theorem sW{w caps out:List Int}(h:Pos w):Pos (c3 w caps out):=adq (λi _=>by split;exact iP h i;omega)
theorem PH{w caps out:List Int}(h:Pos w):(c3 w caps out).sum≤w.sum:=zj (jF ..) (λi hi=>by
 rw[jF]at hi
 unfold c3;rw[ij hi];split
 ·omega
 ·exact iP h i)
theorem Z4{t left:Int}{w caps out:List Int}(c:U0 t w caps out left):KN (c3 w caps out):=λx hx=>by
 have h1:=sW (caps:=caps) (out:=out) c.pw
 have h2:=PH (caps:=caps) (out:=out) c.pw
 have h3:=h1 x hx
 obtain⟨i,hi,rfl⟩:=rZ.1 hx
 have h4:=Au h1 i
 rw[aW,bl hi]at h4
 simp only[nY]at h4
 have:=c.sw
 omega
theorem PI{t left:Int}{w caps out:List Int}(c:U0 t w caps out left):left≤t:=by
 have:=kM (q:=out) (ud (λi _=>c.po i));have:=c.s;omega
theorem pX{t left:Int}{w caps out:List Int}(c:U0 t w caps out left)(hS:0<(c3 w caps out).sum)(i:Nat):
  0≤(gb (cn left (c3 w caps out)) caps out).getD i 0∧(gb (cn left (c3 w caps out)) caps out).getD i 0≤(cn left (c3 w caps out)).getD i 0∧(i<w.length→out.getD i 0+(gb (cn left (c3 w caps out)) caps out).getD i 0≤caps.getD i 0):=by
 have h0:=iP (wA c.l hS (sW c.pw)) i
 unfold gb
 rw[My]
 have:=c.l2
 by_cases h:i<out.length
 ·rw[ak h]
  have:=c.le i ω
  omega
 ·rw[ah h];exact⟨ω,h0,λh=>ω⟩
theorem yv(parts caps out:List Int):(gb parts caps out).length=out.length:=iw ..
theorem H9{t left:Int}{w caps out:List Int}(c:U0 t w caps out left)(hS:0<(c3 w caps out).sum):0≤(gb (cn left (c3 w caps out)) caps out).sum∧(gb (cn left (c3 w caps out)) caps out).sum≤left:=by
 constructor
 ·exact kM (ud (λi _=>(pX c hS i).1))
 ·have:=zj (a:=gb (cn left (c3 w caps out)) caps out) (b:=cn left (c3 w caps out)) (by rw[yv,pD,jF,c.l2]) (λi _=>(pX c hS i).2.1)
  rwa [wz c.l hS]at this
theorem PJ{t left:Int}{w caps out:List Int}(c:U0 t w caps out left)(hS:0<(c3 w caps out).sum):U0 t w caps (yu out (gb (cn left (c3 w caps out)) caps out)) (left-(gb (cn left (c3 w caps out)) caps out).sum):=by
 have pN: ∀i,(yu out (gb (cn left (c3 w caps out)) caps out)).getD i 0=if i<out.length then out.getD i 0+(gb (cn left (c3 w caps out)) caps out).getD i 0 else 0:=λi=>by unfold yu;rw[My]
 have gs:=H9 c hS
 refine⟨c.n,c.l1,?_,c.pw,c.sw,c.pc,λi=> ?_,λi hi=> ?_,λi hi=> ?_,ω,c.t1,?_⟩
 ·unfold yu;rw[iw,c.l2]
 ·rw[pN];have:=(pX c hS i).1;have:=c.po i;split<;>omega
 ·rw[pN,ak (by rw[c.l2];exact hi)];exact(pX c hS i).2.2 hi
 ·rw[pN]
  split
  ·have h1:(c3 w caps out).getD i 0=0:=by unfold c3;rw[My,hi];split<;>(try split)<;>rfl
   have h2:=Eu c.l hS h1
   have h3:=pX c hS i
   rw[c.z i hi];omega
  ·rfl
 ·have:=H8 (a:=yu out (gb (cn left (c3 w caps out)) caps out)) (b:=out) (c:=gb (cn left (c3 w caps out)) caps out) (by unfold yu;rw[iw]) (by unfold yu;rw[iw,yv]) (λi hi=>by
   unfold yu at hi;rw[iw]at hi;rw[pN,ak hi])
  have:=c.s
  omega
def opens(w caps out:List Int):Nat:=(List.range w.length).countP λi=>decide (0<w.getD i 0∧out.getD i 0<caps.getD i 0)
theorem KU{p q:Nat→Bool}: ∀{l:List Nat},(∀x∈l,q x=true→p x=true)→(∃x∈l,p x=true∧q x=false)→l.countP q<l.countP p
 |[],_,⟨x,hx,_⟩=>nomatch hx
 |y::l,h,⟨x,hx,h1,h2⟩=>by
  have hle:l.countP q≤l.countP p:=List.countP_mono_left (λz hz=>h z (a8 _ hz))
  rw[List.countP_cons,List.countP_cons]
  rcases bc.1 hx with rfl|hx
  ·rw[h1,h2];simp;omega
  ·have:=KU (p:=p) (q:=q) (l:=l) (λz hz=>h z (a8 _ hz)) ⟨x,hx,h1,h2⟩
   have h3:=h y (bt ..)
   cases hq:q y<;>cases hp:p y<;>simp<;>try omega
   rw[hq,hp]at h3;simp at h3
theorem KV{w caps out:List Int}(hw:Pos w)(h:(c3 w caps out).sum=0): ∀i,i<w.length→ ¬(0<w.getD i 0∧out.getD i 0<caps.getD i 0):=λi hi ⟨h1,h2⟩=>by
 have:=Au (sW (caps:=caps) (out:=out) hw) i
 unfold c3 at this h
 rw[ij hi,ak h2,h]at this
 omega
theorem Mz{w caps out:List Int}(hw:Pos w)(h:(c3 w caps out).sum≠0): ∃i,i<w.length∧0<w.getD i 0∧out.getD i 0<caps.getD i 0:=by
 by_cases hx: ∃i,i<w.length∧0<w.getD i 0∧out.getD i 0<caps.getD i 0
 ·exact hx
 ·refine absurd (yt (λi hi=> ?_)) h
  rw[jF]at hi
  unfold c3
  rw[ij hi]
  split
  ·rename_i h1
   have:=iP hw i
   by_cases h2:0<w.getD i 0
   ·exact absurd ⟨i,hi,h2,h1⟩ hx
   ·omega
  ·rfl
theorem W1{t left:Int}{w caps out:List Int}(c:U0 t w caps out left)(hS:0<(c3 w caps out).sum)(hl:left-(gb (cn left (c3 w caps out)) caps out).sum≠0):opens w caps (yu out (gb (cn left (c3 w caps out)) caps out))<opens w caps out:=by
 have pN: ∀i,i<w.length→(yu out (gb (cn left (c3 w caps out)) caps out)).getD i 0=out.getD i 0+(gb (cn left (c3 w caps out)) caps out).getD i 0:=λi hi=>by unfold yu;rw[ij (by rw[c.l2];exact hi)]
 refine KU (λi hi h=> ?_) ?_
 ·rw[sj]at hi
  rw[fR,pN i hi]at h
  rw[fR]
  have:=(pX c hS i).1
  omega
 ·by_cases hx: ∃i,i<w.length∧(0<w.getD i 0∧out.getD i 0<caps.getD i 0)∧caps.getD i 0≤out.getD i 0+(gb (cn left (c3 w caps out)) caps out).getD i 0
  ·obtain⟨i,h1,h2,h3⟩:=hx
   refine⟨i,sj.2 h1,aV h2,bu ?_⟩
   rw[pN i h1];omega
  ·exfalso
   have h1:cn left (c3 w caps out)=gb (cn left (c3 w caps out)) caps out:=by
    refine qu (by rw[yv,pD,jF,c.l2]) (λi hi=> ?_)
    rw[pD,jF]at hi
    have h2:=pX c hS i
    have h3:=iP (wA c.l hS (sW (caps:=caps) (out:=out) c.pw)) i
    by_cases h4:0<w.getD i 0∧out.getD i 0<caps.getD i 0
    ·have h5: ¬caps.getD i 0≤out.getD i 0+(gb (cn left (c3 w caps out)) caps out).getD i 0:=λh=>hx ⟨i,hi,h4,h⟩
     have h6:(gb (cn left (c3 w caps out)) caps out).getD i 0=min ((cn left (c3 w caps out)).getD i 0) (caps.getD i 0-out.getD i 0):=ij (by rw[c.l2];exact hi)
     omega
    ·have h7:(c3 w caps out).getD i 0=0:=by
      unfold c3;rw[ij hi]
      have:=iP c.pw i
      split<;>omega
     have:=Eu c.l hS h7
     omega
   rw[←h1,wz c.l hS]at hl
   omega
theorem Z5(w caps out:List Int):opens w caps out≤w.length:=by
 unfold opens
 have:=List.countP_le_length (p:=λi=>decide (0<w.getD i 0∧out.getD i 0<caps.getD i 0)) (l:=List.range w.length)
 rwa [xn]at this
structure Full(t:Int)(w caps out:List Int)(left:Int):Prop where
 c:U0 t w caps out left
 f:left=0∨ ∀i,i<w.length→ ¬(0<w.getD i 0∧out.getD i 0<caps.getD i 0)
theorem PK{t:Int}{w caps:List Int}: ∀(f:Nat) (out:List Int) (left:Int),U0 t w caps out left→(opens w caps out<f∨left=0)→Full t w caps (wB w caps f out left).1 (wB w caps f out left).2
 |0,out,left,c,h=>⟨c,.inl (show left=0 by omega)⟩
 |f+1,out,left,c,h=>by
  unfold wB
  have hS:=kM (sW (caps:=caps) (out:=out) c.pw)
  split
  ·rename_i h1
   exact⟨c,h1.imp id (KV c.pw)⟩
  ·rename_i h1
   refine PK f _ _ (PJ c ω) ?_
   by_cases h2:left-(gb (cn left (c3 w caps out)) caps out).sum=0
   ·exact .inr h2
   ·have:=W1 c ω h2
    exact .inl ω
def Dj(out g:List Int)(i:Nat):List Int:=H7 out.length λj=>if j<i then out.getD j 0+g.getD j 0 else out.getD j 0
theorem mid_zero(out g:List Int):Dj out g 0=out:=qu (iw ..) (λi hi=>by unfold Dj at*;rw[iw]at hi;rw[ij hi,ah ω])
theorem ads(out g:List Int){n:Nat}(h:out.length≤n):Dj out g n=yu out g:=qu (by unfold Dj yu;rw[iw,iw]) (λi hi=>by unfold Dj yu at*;rw[iw]at hi;rw[ij hi,ij hi,ak ω])
theorem Ch(out g:List Int)(i:Nat):(Dj out g i).length=out.length:=iw ..
theorem alp{out g:List Int}{i:Nat}(h:i<out.length):(Dj out g i).getD i 0=out.getD i 0:=by unfold Dj;rw[ij h,ah ω]
theorem adt{out g:List Int}{i:Nat}(h:i<out.length):(Dj out g i).set i (out.getD i 0+g.getD i 0)=Dj out g (i+1):=qu (by rw[bU,Ch,Ch]) (λj hj=>by
 rw[bU,Ch]at hj
 by_cases Ah:i=j
 ·subst Ah
  rw[nG _ _ (by rw[Ch];exact h)];unfold Dj;rw[ij h,ak ω]
 ·rw[getD_set_ne _ _ Ah];unfold Dj;rw[ij hj,ij hj]
  by_cases h1:j<i
  ·rw[ak h1,ak ω]
  ·rw[ah h1,ah ω])
def ue(s:List Int)(i:Nat):List Int:=H7 s.length λj=>if j<i then s.getD j 0 else 0
theorem W2(s:List Int):ue s 0=List.replicate s.length 0:=qu (by unfold ue;rw[iw,c7]) (λi hi=>by
 unfold ue at*;rw[iw]at hi;rw[ij hi,ah ω,aW,F6,ak hi];rfl)
theorem Z6(s:List Int):ue s s.length=s:=qu (iw ..) (λi hi=>by unfold ue at*;rw[iw]at hi;rw[ij hi,ak hi])
theorem qv(s:List Int)(i:Nat):(ue s i).length=s.length:=iw ..
theorem Z7{s:List Int}{i:Nat}(h:i<s.length):(ue s i).set i (s.getD i 0)=ue s (i+1):=qu (by rw[bU,qv,qv]) (λj hj=>by
 rw[bU,qv]at hj
 by_cases Ah:i=j
 ·subst Ah
  rw[nG _ _ (by rw[qv];exact h)];unfold ue;rw[ij h,ak ω]
 ·rw[getD_set_ne _ _ Ah];unfold ue;rw[ij hj,ij hj]
  by_cases h1:j<i
  ·rw[ak h1,ak ω]
  ·rw[ah h1,ah ω])
theorem KW{s:List Int}{i:Nat}(h:s.getD i 0=0):ue s i=ue s (i+1):=qu (by rw[qv,qv]) (λj hj=>by
 rw[qv]at hj
 unfold ue;rw[ij hj,ij hj]
 by_cases h1:j<i
 ·rw[ak h1,ak ω]
 ·rw[ah h1]
  by_cases h2:j=i
  ·subst h2;rw[ak ω,h]
  ·rw[ah ω])
theorem alq(x y:Int):mn x y=min x y:=by rw[Yf];split<;>omega
theorem W3{t left:Int}{w caps out:List Int}(c:U0 t w caps out left)(hS:0<(c3 w caps out).sum)(i:Nat):0≤((gb (cn left (c3 w caps out)) caps out).take i).sum∧((gb (cn left (c3 w caps out)) caps out).take i).sum≤left:=by
 have h:=ud (l:=gb (cn left (c3 w caps out)) caps out) (λi _=>(pX c hS i).1)
 have:=Et h i
 have:=H9 c hS
 exact⟨kM (PD h i),ω⟩
theorem Ia(N:Nat)(K:List Int→List Int→List Int→Int→Int→Option (List Int×Int×Int)){t left:Int}{w caps out:List Int}(c:U0 t w caps out left)(hS:0<(c3 w caps out).sum)(rd:Int): ∀(m n i:Nat),w.length-i≤m→m<n→i≤w.length→
  fi.WO N K n w caps (Dj out (gb (cn left (c3 w caps out)) caps out) i) (left-((gb (cn left (c3 w caps out)) caps out).take i).sum) rd (cn left (c3 w caps out)) (i:Int)=
  K w caps (yu out (gb (cn left (c3 w caps out)) caps out)) (left-(gb (cn left (c3 w caps out)) caps out).sum) (W .i64 (rd+1))
 |m,0,i,_,hn,_=>ω
 |m,n+1,i,hm,hn,hi=>by
  have n64:=c.n
  have e1:=c.l1
  have e2:=c.l2
  unfold fi.WO fi.SV
  by_cases h:i<w.length
  ·have hc:=c.pc i
   have ho:=c.po i
   have hle:=c.le i h
   have hg:=pX c hS i
   have h6:(gb (cn left (c3 w caps out)) caps out).getD i 0=min ((cn left (c3 w caps out)).getD i 0) (caps.getD i 0-out.getD i 0):=ij (by rw[c.l2];exact h)
   have ht:=W3 c hS i
   have hl:=PI c
   have xe:=c.t1
   have hgl:(gb (cn left (c3 w caps out)) caps out).getD i 0≤left:=by
    have:=Au (ud (l:=gb (cn left (c3 w caps out)) caps out) (λi _=>(pX c hS i).1)) i
    have:=H9 c hS
    omega
   dsimp only
   rw[aQ ω,aj,aU ω (by rw[pD,jF];omega),aj,aU ω ω,aj,aU ω (by rw[Ch];omega),aj,aj,aG,alp ω,aw (x:=caps.getD i 0-out.getD i 0) ω ω,alq,←h6,
    aw (x:=(i:Int)+1) ω ω,aw (x:=out.getD i 0+_) ω ω,aw (x:=left-_-_) ω ω,adt ω]
   have:=Ia N K c hS rd (m-1) n (i+1) ω ω ω
   rw[mJ _ (by rw[yv];omega),←Int.sub_sub]at this
   exact this
  ·rw[aP ω,av,ads _ _ ω,iG (by rw[yv];omega)]
def PL(w caps out:List Int)(i:Nat):Prop:= ∃j,j<i∧0<w.getD j 0∧out.getD j 0<caps.getD j 0
theorem wC(N:Nat)(hN:5000000≤N)(K:List Int→List Int→List Int→Int→Int→Option (List Int×Int×Int)){t left:Int}{w caps out:List Int}(c:U0 t w caps out left)(rd:Int): ∀(m n i:Nat) (b:Bool),w.length-i≤m→m<n→i≤w.length→(b=true↔PL w caps out i)→
  fi.nI N K n w caps out left rd (ue (c3 w caps out) i) b (i:Int)=
  if left=0∨(c3 w caps out).sum=0 then some (out,left,0)else K w caps (yu out (gb (cn left (c3 w caps out)) caps out)) (left-(gb (cn left (c3 w caps out)) caps out).sum) (W .i64 (rd+1))
 |m,0,i,b,_,hn,_,_=>ω
 |m,n+1,i,b,hm,hn,hi,hb=>by
  have n64:=c.n
  have e1:=c.l1
  have e2:=c.l2
  unfold fi.nI fi.mO
  by_cases h:i<w.length
  ·have h1:(c3 w caps out).getD i 0=if out.getD i 0<caps.getD i 0 then w.getD i 0 else 0:=ij h
   have hw:=iP c.pw i
   have tR: ¬(0<w.getD i 0∧out.getD i 0<caps.getD i 0)→(b=true↔PL w caps out (i+1)):=λrm=>hb.trans ⟨λ⟨j,hj,h2⟩=>⟨j,ω,h2⟩,λ⟨j,hj,h2⟩=>⟨j,by
    by_cases Ah:j=i
    ·subst Ah;exact absurd h2 rm
    ·omega,h2⟩⟩
   rw[aQ ω,aj,aU ω ω,aj,aG]
   by_cases h0:0<w.getD i 0
   ·rw[aQ h0,aj,aU ω ω,aj,aU ω ω,aj]
    by_cases h2:out.getD i 0<caps.getD i 0
    ·rw[ak h2]at h1
     rw[aQ h2,aj,aj,aU ω (by rw[qv,jF];omega),aj,aw ω ω,←h1,Z7 (by rw[jF];exact h)]
     exact wC N hN K c rd (m-1) n (i+1) true ω ω ω ⟨λ_=>⟨i,ω,h0,h2⟩,λ_=>rfl⟩
    ·rw[ah h2]at h1
     rw[aP ω,av,aw ω ω,KW h1]
     exact wC N hN K c rd (m-1) n (i+1) b ω ω ω (tR (λh=>h2 h.2))
   ·have h3:(c3 w caps out).getD i 0=0:=by rw[h1];split<;>omega
    rw[aP ω,av,aw ω ω,KW h3]
    exact wC N hN K c rd (m-1) n (i+1) b ω ω ω (tR (λh=>h0 h.1))
  ·have SA:=PI c
   have xe:=c.t1
   have hl0:=c.l
   have oe:i=(c3 w caps out).length:=by rw[jF];omega
   have hp:=sW (caps:=caps) (out:=out) c.pw
   have hs:=PH (caps:=caps) (out:=out) c.pw
   have hs0:=kM hp
   have hsw:=c.sw
   have hm:may (c3 w caps out)=true:=pW.2 ⟨by rw[jF];omega,hp⟩
   rw[aP ω,av]
   by_cases h4:left=0
   ·rw[ec h4,aj,ak (.inl h4)]
   rw[eN h4,av]
   by_cases h3:(c3 w caps out).sum=0
   ·have hbf:b=false:=by
     rw[xq];intro ht
     obtain⟨j,hj,h5⟩:=hb.1 ht
     exact KV c.pw h3 j ω h5
    rw[ak (.inr h3),hbf];rfl
   ·have hbt:b=true:=hb.2 (by
     obtain⟨j,hj,h5⟩:=Mz c.pw h3
     exact⟨j,ω,h5⟩)
    rw[hbt,bg,av,ah ω,oe,Z6,Di N ω ω (Z4 c) (by rw[jF];omega),ar]
    unfold sU
    rw[ah (by rw[hm];simp;omega),ah ω,ah h3]
    have:=Ia N K c ω rd w.length N 0 ω ω ω
    rw[mid_zero,mB,jo,Gr]at this
    exact this
theorem KX(N:Nat)(hN:5000000≤N){t:Int}{w caps:List Int}: ∀(f n:Nat) (out:List Int) (left:Int),U0 t w caps out left→f≤w.length+1→f<n→
  fi.l8 N n w caps out left ((w.length+1-f:Nat):Int)=some ((wB w caps f out left).1,(wB w caps f out left).2,0)
 |f,0,out,left,c,_,hn=>ω
 |0,n+1,out,left,c,h,hn=>by
  unfold fi.l8 fi.Ef
  rw[fH ω];rfl
 |f+1,n+1,out,left,c,h,hn=>by
  have n64:=c.n
  have hl:=c.l
  unfold fi.l8 fi.Ef
  rw[fO ω,aj,c9 ω ω ω,aj,aG]
  have:=wC N hN (fi.l8 N n) c ((w.length+1-(f+1):Nat):Int) w.length N 0 false ω ω ω ⟨(λh=>nomatch h),λ⟨j,hj,_⟩=>ω⟩
  rw[W2,jF]at this
  refine Eq.trans this ?_
  have hS:=kM (sW (caps:=caps) (out:=out) c.pw)
  unfold wB
  by_cases h1:left=0∨(c3 w caps out).sum=0
  ·rw[ak h1,ak h1]
  ·rw[ah h1,ah h1,aw ω ω,show(((w.length+1-(f+1):Nat):Int)+1)=((w.length+1-f:Nat):Int)by omega]
   exact KX N hN f n _ _ (PJ c ω) ω ω
def ug(t:Int)(w caps:List Int):List Int×Int×Int:=
 if t<0∨may w=false∨caps.length≠w.length∨may caps=false then([],0,1)else if 9223372036854775808≤w.sum then([],0,2)
 else((wB w caps (w.length+1) (List.replicate w.length 0) t).1,(wB w caps (w.length+1) (List.replicate w.length 0) t).2,0)
theorem rF(n i:Nat):(List.replicate n (0:Int)).getD i 0=0:=by
 rw[aW,F6];split<;>rfl
theorem KY{t:Int}{w caps:List Int}(ht:0≤t)(xe:t<9223372036854775808)(hw:may w=true)(hc:may caps=true)(hl:caps.length=w.length)(hi:KN caps)(hs:w.sum<9223372036854775808):U0 t w caps (List.replicate w.length 0) t:=by
 obtain⟨h1,h2⟩:=pW.1 hw
 obtain⟨h3,h4⟩:=pW.1 hc
 refine⟨h1,hl,c7 ..,h2,hs,λi=>⟨iP h4 i,(u9 hi i).2⟩,λi=>by rw[rF];omega,λi _=>by rw[rF];exact iP h4 i,λi _=>rF ..,ht,xe,?_⟩
 rw[yt (λi _=>rF ..)];omega
theorem Ib(N:Nat)(hN:5000000≤N){t:Int}{w caps:List Int}(xe:t<9223372036854775808)(hw:KN w)(hc:KN caps)(hl:w.length≤1000000):fi N t w caps=some (ug t w caps):=by
 unfold fi fi.b ug
 rw[HW N ω,ar]
 by_cases h1:t<0
 ·rw[aV h1,A8,aj,ak (.inl h1)]
 rw[bu h1,p7]
 cases h2:may w
 ·rw[dt,aj,ak (.inr (.inl rfl))]
 rw[bg,av]
 by_cases h3:caps.length=w.length
 case neg=>rw[eN ω,dt,aj,ak (.inr (.inr (.inl h3)))]
 rw[ec ω,bg,av,HW N ω,ar]
 cases h4:may caps
 ·rw[ak (.inr (.inr (.inr rfl)))];rfl
 have hp:=kM (pW.1 h2).2
 rw[show(decide ((0:Int)<0)|| !true)=false from rfl,av,Al N ω hw hl,ar,uz,ar,ah (by simp;omega)]
 by_cases h5:9223372036854775808≤w.sum
 ·rw[ak h5];unfold CX;rw[ah ω];rfl
 rw[ah h5,Mw ω ω,bg,av,c9 ω ω ω,aj,aG]
 have lq:=(pW.1 h2).1
 have:=KX N hN (w.length+1) N _ _ (KY ω xe h2 h4 h3 hc ω) ω ω
 rw[uS]at this
 exact this
theorem vm{a b:Int}: ∀{l:au},uB (l.map keyOf)→iv a b l=cY a b l
 |[],_=>rfl
 |x::t,h=>by
  obtain⟨h1,h2⟩:=eT.1 h
  rw[jX,jV,←vm h2]
  by_cases e1:x.1=a
  ·by_cases e2:x.2.1=b
   ·have hz:cY a b t=0:=lz λy hy e=>by
     have hk:=h1 (keyOf y) (fB hy)
     have he:keyOf y=keyOf x:=jr (e.1.trans e1.symm) (e.2.trans e2.symm)
     rw[he]at hk
     exact pU hk
    rw[ak e1,ak e2,ak ⟨e1,e2⟩,vm h2,hz,jq];rfl
   ·rw[ak e1,ah e2,ah (λh=>e2 h.2),xw]
  ·rw[ah e1,ah (λh=>e1 h.1),xw]
def JR(x q:Int):Prop:= ¬((x<0)↔(q<0))
instance(x q:Int):Decidable (JR x q):=by unfold JR;infer_instance
def gz(a q:Int):au→au
 |[]=>[]
 |x::t=>if ¬dI x.1 0∧dI x.2.1 a∧JR (dT x) q then x::gz a q t else gz a q t
theorem sX(a q:Int)(x:dh)(t:au):gz a q (x::t)=if ¬dI x.1 0∧dI x.2.1 a∧JR (dT x) q then x::gz a q t else gz a q t:=rfl
def zQ(l:au):List Int:=l.map λx=>x.1
def jY(l:au):List Int:=l.map λx=>((dT x).natAbs:Int)
theorem vn{a q:Int}{x:dh}: ∀{l:au},x∈gz a q l→x∈l∧ ¬dI x.1 0∧dI x.2.1 a
 |[],h=>nomatch h
 |y::t,h=>by
  rw[sX]at h
  by_cases e: ¬dI y.1 0∧dI y.2.1 a∧JR (dT y) q
  ·rw[ak e]at h
   rcases bc.1 h with rfl|h
   ·exact⟨bt ..,e.1,e.2.1⟩
   ·have:=vn h;exact⟨a8 _ this.1,this.2⟩
  ·rw[ah e]at h
   have:=vn h;exact⟨a8 _ this.1,this.2⟩
theorem KZ(a q:Int): ∀l:au,(gz a q l).length≤l.length
 |[]=>aH _
 |x::t=>by
  have:=KZ a q t
  rw[sX,aT]
  split
  ·rw[aT];omega
  ·omega
theorem PM{v q s h o:Int}{P Q R:Prop} [Decidable P] [Decidable Q] [Decidable R](hR:R↔ ¬((v<0)↔(q<0)))(hq:0<q)(hh:h-o≤s):
  (if P∧Q then v else 0)+h-((if ¬P∧Q∧R then(v.natAbs:Int)else 0)+o)≤(if Q then v else 0)+s:=by
 by_cases hQ:Q<;>by_cases hP:P<;>by_cases hR':R<;>simp only[hP,hQ,hR',and_self,fD,and_false,false_and,true_and,not_true,not_false_iff,g9,fE]<;>(rw[NG]at hR;first|omega|(have h2:=hR.1 hR';omega)|(have h2: ¬ ¬((v<0)↔(q<0)):=λe=>hR' (hR.2 e);omega))
theorem Ew{a q:Int}(hq:0<q): ∀l:au,cY 0 a l-(jY (gz a q l)).sum≤(dm a l).sum
 |[]=>fU _
 |x::t=>by
  have ih:=Ew (a:=a) hq t
  have e1:cY 0 a (x::t)=(if dI x.1 0∧dI x.2.1 a then dT x else 0)+cY 0 a t:=jV 0 a x t
  have e2:(jY (gz a q (x::t))).sum=(if ¬dI x.1 0∧dI x.2.1 a∧JR (dT x) q then((dT x).natAbs:Int)else 0)+(jY (gz a q t)).sum:=by
   rw[sX]
   split
   ·show(((dT x).natAbs:Int)::jY (gz a q t)).sum=_
    rw[cK]
   ·omega
  have e3:(dm a (x::t)).sum=(if dI x.2.1 a then dT x else 0)+(dm a t).sum:=by
   rw[dA]
   by_cases h:x.2.1=a
   ·rw[ak h,ak (show dI x.2.1 a from h),cK]
   ·rw[ah h,ah (show ¬dI x.2.1 a from h)];omega
  rw[e1,e2,e3]
  exact PM Iff.rfl hq ih
theorem PN{v q s h o:Int}{P Q R:Prop} [Decidable P] [Decidable Q] [Decidable R](hR:R↔ ¬((v<0)↔(q<0)))(hq:q<0)(hh:s≤h+o):
  (if Q then v else 0)+s≤(if P∧Q then v else 0)+h+((if ¬P∧Q∧R then(v.natAbs:Int)else 0)+o):=by
 by_cases hQ:Q<;>by_cases hP:P<;>by_cases hR':R<;>simp only[hP,hQ,hR',and_self,fD,and_false,false_and,true_and,not_true,not_false_iff,g9,fE]<;>(rw[NG]at hR;first|omega|(have h2:=hR.1 hR';omega)|(have h2: ¬ ¬((v<0)↔(q<0)):=λe=>hR' (hR.2 e);omega))
theorem Ex{a q:Int}(hq:q<0): ∀l:au,(dm a l).sum≤cY 0 a l+(jY (gz a q l)).sum
 |[]=>fU _
 |x::t=>by
  have ih:=Ex (a:=a) hq t
  have e1:cY 0 a (x::t)=(if dI x.1 0∧dI x.2.1 a then dT x else 0)+cY 0 a t:=jV 0 a x t
  have e2:(jY (gz a q (x::t))).sum=(if ¬dI x.1 0∧dI x.2.1 a∧JR (dT x) q then((dT x).natAbs:Int)else 0)+(jY (gz a q t)).sum:=by
   rw[sX]
   split
   ·show(((dT x).natAbs:Int)::jY (gz a q t)).sum=_
    rw[cK]
   ·omega
  have e3:(dm a (x::t)).sum=(if dI x.2.1 a then dT x else 0)+(dm a t).sum:=by
   rw[dA]
   by_cases h:x.2.1=a
   ·rw[ak h,ak (show dI x.2.1 a from h),cK]
   ·rw[ah h,ah (show ¬dI x.2.1 a from h)];omega
  rw[e1,e2,e3]
  exact PN Iff.rfl hq ih
theorem Td{a q:Int}{l:au}(hs:uB (l.map keyOf))(hf:(dm a l).sum=0)(hq:iv 0 a l=q)(h0:q≠0):(q.natAbs:Int)≤(jY (gz a q l)).sum:=by
 rw[vm hs]at hq
 by_cases h:0<q
 ·have:=Ew (a:=a) h l
  rw[hf,hq]at this;omega
 ·have:=Ex (a:=a) (q:=q) ω l
  rw[hf,hq]at this;omega
theorem Z8{t left:Int}{w out:List Int}(f:Full t w w out left)(h:t≤w.sum):left=0:=by
 have c:=f.c
 rcases f.f with e|e
 ·exact e
 ·have LO:w.sum≤out.sum:=zj (by rw[c.l2]) λi hi=>by
   have h1:=e i hi
   have h2:=iP c.pw i
   have h3:=c.po i
   by_cases h4:0<w.getD i 0
   ·have: ¬out.getD i 0<w.getD i 0:=λh5=>h1 ⟨h4,h5⟩
    omega
   ·omega
  have:=c.s
  have:=c.l
  omega
def sg(q x:Int):Int:=if q<0 then 0-x else x
def zc(a q:Int):List (Int×Int)→au
 |[]=>[]
 |p::t=>if sg q p.1=0 then zc a q t else(p.2,(a,(sg q p.1,())))::zc a q t
theorem FT(a q:Int)(p:Int×Int)(t:List (Int×Int)):zc a q (p::t)=if sg q p.1=0 then zc a q t else(p.2,(a,(sg q p.1,())))::zc a q t:=rfl
def kN(l:au)(a q:Int):List Int×Int×Int:=ug (q.natAbs:Int) (jY (gz a q l)) (jY (gz a q l))
def adu(l:au)(a q:Int):au:=((0:Int),(a,((0-q:Int),())))::zc a q ((kN l a q).1.zip (zQ (gz a q l)))
def wD(c:ae)(b:an)(a:Int):au×Int:=
 if de c b then(if a<0 then([],3)else if(c.1.length:Int)≤a then([],3)else if gh b.2.2.2.1 0 a=0 then([],0)else
  if(kN b.2.2.2.1 a (gh b.2.2.2.1 0 a)).2.2=0 then(adu b.2.2.2.1 a (gh b.2.2.2.1 0 a),0)else([],(kN b.2.2.2.1 a (gh b.2.2.2.1 0 a)).2.2))else([],1)
theorem Ic{t:Int}{w caps:List Int}(xe:t<9223372036854775808)(hc:KN caps)(hx:(ug t w caps).2.2=0):Full t w caps (ug t w caps).1 (ug t w caps).2.1:=by
 unfold ug at*
 by_cases h1:t<0∨may w=false∨caps.length≠w.length∨may caps=false
 ·rw[ak h1]at hx;exact absurd hx δ
 ·rw[ah h1]at hx ⊢
  by_cases h2:9223372036854775808≤w.sum
  ·rw[ak h2]at hx;exact absurd hx δ
  ·rw[ah h2]
   have h3:may w=true:=by cases h:may w<;>simp_all
   have h4:may caps=true:=by cases h:may caps<;>simp_all
   have h5:caps.length=w.length:=NM λh=>h1 (Or.inr (Or.inr (Or.inl h)))
   exact PK _ _ _ (KY ω xe h3 h4 h5 hc ω) (Or.inl (by have:=Z5 w caps (List.replicate w.length 0);omega))
theorem Dl{l:au}(h: ∀x∈l,aF (dT x)∧rA (dT x))(a q:Int):KN (jY (gz a q l)):=λz hz=>by
 obtain⟨x,hx,rfl⟩:=cV.1 hz
 have:=h x (vn hx).1
 have g: ∀v:Int,aF v∧rA v→ -9223372036854775808≤(v.natAbs:Int)∧(v.natAbs:Int)<9223372036854775808:=λv hv=>by unfold aF rA at hv;omega
 exact g _ this
theorem Z9{out accs:List Int}{i:Nat}(h1:i<out.length)(h2:i<accs.length):(out.zip accs).getD i (0,0)=(out.getD i 0,accs.getD i 0):=by
 rw[aW,bl (by rw[xu];omega),List.getElem_zip,aW,bl h1,aW,bl h2];rfl
end VM
end
section
namespace VM
open Go VM.F
theorem MA{c:ae}{b:an}(h:de c b=true): ∀x∈b.2.2.2.1,Mq x.2.1 c.1.length:=λx hx=>by
 have hk:=(eg h).2
 have h0:=(eU hk).2 x hx
 unfold de at h
 simp only[bP]at h
 have h1:=bA h.2.2.2.2.2.2.2.2.1
 obtain⟨i,hi,e⟩:=gJ hx
 have h2:=h1 i hi
 unfold jS at h2
 rw[aW,bl hi]at h2
 simp only[nY,e]at h2
 have g: ∀u v:Int,cc u v→lH v c.1.length→Mq v c.1.length:=λu v h1 h2=>by unfold cc at h1;unfold lH at h2;unfold Mq;omega
 exact g _ _ h0.1 h2.2
end VM
end
section
namespace VM
open Go VM.F
theorem adv(N:Nat){x:Int}(h:cE x)(hx:x≠ -170141183460469231731687303715884105728):F66 N (cH x)=some (cH (-x),true):=by
 unfold F66 Te cH
 unfold cE at h
 dsimp only
 have hp:0≤x%18446744073709551616∧x%18446744073709551616<18446744073709551616:=ω
 have hh: -9223372036854775808≤x/18446744073709551616∧x/18446744073709551616<9223372036854775808:=ω
 rw[qg,qg,mI N ω ω ω ω ω ω,ar]
 dsimp only
 have hb:(0:Int)≤(if(0:Int)<x%18446744073709551616+0 then 1 else 0)∧(if(0:Int)<x%18446744073709551616+0 then(1:Int)else 0)≤1:=by split<;>omega
 rw[mI N ω ω ω ω hb.1 hb.2,ar]
 dsimp only
 have key: ∀{z:bS},z=cH (-x)→((some (z,true):Option (bS×Bool)).bind λr1=>some (r1.1,r1.2))=some (cH (-x),true):=λe=>by rw[e];rfl
 have e3:W .i64 ((0%18446744073709551616-x/18446744073709551616%18446744073709551616-(if(0:Int)<x%18446744073709551616+0 then 1 else 0))%18446744073709551616)=(-x)/18446744073709551616:=by
  by_cases h0:x%18446744073709551616=0
  ·rw[ah (show ¬(0:Int)<x%18446744073709551616+0 by omega),gK];split<;>omega
  ·rw[ak (show(0:Int)<x%18446744073709551616+0 by omega),gK];split<;>omega
 have e1:(0-x%18446744073709551616-0)%18446744073709551616=(-x)%18446744073709551616:=ω
 rw[e3,e1]
 simp only[om,qH]
 by_cases a:x/18446744073709551616<0
 ·have c: ¬(-x)/18446744073709551616<0:=ω
  rw[bu (show ¬(0:Int)<0 by omega),aV a,bu c]
  exact key rfl
 ·rw[bu (show ¬(0:Int)<0 by omega),bu a]
  exact key rfl
theorem U1(N:Nat){x:Int}(h:cE x)(hx:x≠ -170141183460469231731687303715884105728):Tf N (cH x)=some (cH (x.natAbs:Int),true):=by
 unfold Tf
 have e:(cH x).1=x/18446744073709551616:=rfl
 rw[e]
 by_cases h0:x<0
 ·rw[aQ (show x/18446744073709551616<0 by omega),aj,adv N h hx,ar,show(x.natAbs:Int)= -x by omega]
 ·rw[aP (show 0≤x/18446744073709551616 by omega),av,show(x.natAbs:Int)=x by omega]
theorem Ey{k:Int}: ∀{i:Nat} {l:aO},oG k i l≠[]→(i:Int)≤(oG k i l).getD 0 0∧(oG k i l).getD 0 0<((i+l.length:Nat):Int)
 |i,[],h=>absurd rfl h
 |i,y::t,h=>by
  rw[Cc]at h ⊢
  by_cases e:y.1=k
  ·rw[ak e,aT]
   show(i:Int)≤(i:Int)∧(i:Int)<_
   omega
  ·rw[ah e]at h ⊢
   have:=Ey h
   rw[aT];omega
def aqI(c:ae):Int:=c.2.2.2.2.2.2.1
end VM
end
section
namespace VM
open Go VM.F
end VM
end
section
namespace VM
open Go VM.F
def PO(x:fX)(z:Int×Int):Int×Int:=if x.2.2.2.1=1 then(z.1+x.2.2.2.2.1,z.2)else(z.1,z.2+x.2.2.2.2.1)
def bsL(a k:Int):aY→Int×Int→Int×Int
 |[],z=>z
 |x::t,z=>bsL a k t (if x.2.1=a∧x.2.2.1=k then PO x z else z)
theorem Ie(a k:Int)(x:fX)(t:aY)(z:Int×Int):bsL a k (x::t) z=bsL a k t (if x.2.1=a∧x.2.2.1=k then PO x z else z):=rfl
def nz(i:Int)(z:Int×Int):dh:=(i,(z.1,(z.2,())))
def U2(f:Int→Int×Int):Nat→Nat→au
 |0,_=>[]
 |m+1,k=>if 0<(f (k:Int)).1+(f (k:Int)).2 then nz (k:Int) (f (k:Int))::U2 f m (k+1)else U2 f m (k+1)
theorem yw(f:Int→Int×Int)(m k:Nat):U2 f (m+1) k=if 0<(f (k:Int)).1+(f (k:Int)).2 then nz (k:Int) (f (k:Int))::U2 f m (k+1)else U2 f m (k+1):=rfl
def Nw(l:aY)(a k:Int):Int×Int:=bsL a k l (0,0)
def m5(l:aY)(a:Int):au:=U2 (Nw l a) 6 0
theorem U3(f:Int→Int×Int): ∀m k,(U2 f m k).length≤m
 |0,_=>aH _
 |m+1,k=>by
  rw[yw]
  have:=U3 f m (k+1)
  split
  ·rw[aT];omega
  ·omega
theorem aaa(f:Int→Int×Int): ∀m k,∀x∈U2 f m k,(k:Int)≤x.1
 |0,_,x,hx=>nomatch hx
 |m+1,k,x,hx=>by
  rw[yw]at hx
  have ih:=aaa f m (k+1) x
  split at hx
  ·rcases bc.1 hx with rfl|hx
   ·exact fU _
   ·have:=ih hx;omega
  ·have:=ih hx;omega
def W4(l:aY):Prop:= ∀x∈l,1≤x.2.2.2.2.1∧x.2.2.2.2.1≤1000000000
theorem MB{l:aY}(h:W4 l){i:Nat}(hi:i<l.length):1≤(l.getD i dS).2.2.2.2.1∧(l.getD i dS).2.2.2.2.1≤1000000000:=h _ (by
 rw[aW,bl hi];exact dF hi)
def FU(z:Int×Int)(n:Nat):Prop:=0≤z.1∧z.1≤1000000000*(n:Int)∧0≤z.2∧z.2≤1000000000*(n:Int)
theorem U4{x:fX}{z:Int×Int}{n:Nat}(hq:1≤x.2.2.2.2.1∧x.2.2.2.2.1≤1000000000)(h:FU z n):FU (PO x z) (n+1):=by
 have g: ∀q:Int,1≤q∧q≤1000000000→FU (z.1+q,z.2) (n+1)∧FU (z.1,z.2+q) (n+1):=λq hq=>by unfold FU at*;dsimp only;omega
 have gx:=g _ hq
 unfold PO
 split
 ·exact gx.1
 ·exact gx.2
theorem FU.mono{z:Int×Int}{n m:Nat}(h:FU z n)(hm:n≤m):FU z m:=by unfold FU at*;omega
theorem aab{a k:Int}: ∀{l:aY} {z:Int×Int} {n:Nat},W4 l→FU z n→FU (bsL a k l z) (n+l.length)
 |[],z,n,_,h=>h
 |x::t,z,n,hq,h=>by
  have hx:=hq x (bt ..)
  rw[Ie,aT,show n+(t.length+1)=n+1+t.length by omega]
  refine aab (λy hy=>hq y (a8 _ hy)) ?_
  split
  ·exact U4 hx h
  ·exact FU.mono h ω
theorem MC{l:aY}(h:W4 l)(a k:Int):FU (Nw l a k) l.length:=by
 have:=aab (a:=a) (k:=k) (z:=(0,0)) (n:=0) h (by unfold FU;dsimp only;omega)
 rw[gr]at this;exact this
theorem Ig{l:aY}(h:dk l=true):W4 l∧l.length≤32:=by
 unfold dk at h
 rw[bP]at h
 refine⟨λx hx=> ?_,bA h.2⟩
 obtain⟨i,hi,e⟩:=gJ hx
 have:=bA h.1 i hi
 unfold tU at this
 have h1:=this.1
 rw[aW,bl hi,nY,e]at h1
 unfold rf at h1
 exact h1.2.2.2.2.1
theorem aac{x:fX}{z:Int×Int}{n:Nat}(hn:n≤1000)(hq:1≤x.2.2.2.2.1∧x.2.2.2.2.1≤1000000000)(hz:FU z n)(k:Int):
  (x.2.2.2.1=1→((k,(W .i64 (z.1+x.2.2.2.2.1),(z.2,()))):dh)=nz k (PO x z))∧(¬x.2.2.2.1=1→((k,(z.1,(W .i64 (z.2+x.2.2.2.2.1),()))):dh)=nz k (PO x z)):=by
 have g: ∀q:Int,1≤q∧q≤1000000000→W .i64 (z.1+q)=z.1+q∧W .i64 (z.2+q)=z.2+q:=λq hq=>by
  unfold FU at hz
  exact⟨aw ω ω,aw ω ω⟩
 have gx:=g _ hq
 unfold PO nz
 exact⟨λh=>by rw[gx.1,ak h],λh=>by rw[gx.2,ah h]⟩
theorem Ez(N:Nat){F:dh→Option au}{G:Nat→dh→Int→Option au}(l:aY)(a k:Int)(hq:W4 l)(hl:l.length≤1000)(hN:l.length<N)
  (hs: ∀n i z r,i<l.length→FU z i→G n (nz k (if(l.getD i dS).2.1=a∧(l.getD i dS).2.2.1=k then PO (l.getD i dS) z else z)) ((i+1:Nat):Int)=r→G (n+1) (nz k z) (i:Int)=r)
  (he: ∀n z,FU z l.length→G (n+1) (nz k z) (l.length:Int)=F (nz k z)):G N (nz k (0,0)) 0=F (nz k (Nw l a k)):=by
 have:=ll l dS (λn i (z:Int×Int)=>G n (nz k z) i) (λt z=>F (nz k (bsL a k t z))) (λi z=>FU z i) (λn i z hi hz hr=> ?_) (λn z hz=>he n z hz) l.length N 0 (0,0) ω hN ω (by unfold FU;decide)
 ·exact this
 ·rw[Ie]
  refine hs n i z _ hi hz (hr _ ?_)
  split
  ·exact U4 (MB hq hi) hz
  ·exact FU.mono hz ω
theorem yx{F:Nat→au→Int→Option au}(f:Int→Int×Int)
  (hs: ∀(n k:Nat) (out:au) (r:Option au),k<6→out.length≤k→F n (if 0<(f (k:Int)).1+(f (k:Int)).2 then out++[nz (k:Int) (f (k:Int))]else out) ((k+1:Nat):Int)=r→F (n+1) out (k:Int)=r)
  (he: ∀n out,F (n+1) out 6=some out): ∀(m n k:Nat) (out:au),k+m=6→m<n→out.length≤k→F n out (k:Int)=some (out++U2 f m k)
 |_,0,_,_,_,hn,_=>ω
 |0,n+1,k,out,hk,_,_=>by
  have:k=6:=ω
  subst this
  rw[show U2 f 0 6=[]from rfl,cy]
  exact he n out
 |m+1,n+1,k,out,hk,hn,ho=>by
  refine hs n k out _ ω ho ?_
  rw[yx f hs he m n (k+1) _ ω ω (by
   split
   ·rw[aS,aK];omega
   ·omega),yw]
  split
  ·rw[bD];rfl
  ·rfl
theorem aad(N:Nat)(hN:200000≤N){l:aY}(hl:l.length≤100000)(a:Int):gZ N l a=some (if dk l then m5 l a else []):=by
 unfold gZ gZ.b
 rw[C3 N hl hN,ar]
 by_cases h:dk l=false
 ·rw[h];rfl
 rw[sd]at h
 rw[h,bg,av,ak rfl]
 obtain⟨hq,h32⟩:=Ig h
 refine yx (F:=λn out k=>gZ.l5 N n l a out k) (Nw l a) (λn k out r hk ho hr=> ?_) (λn out=> ?_) 6 N 0 [] ω ω (aH _)
 ·unfold gZ.l5 gZ.dU
  rw[aQ ω,aj]
  refine(Ez N (G:=λn' x i=>gZ.l9 N (gZ.l5 N n) n' l a out (k:Int) x (k:Int) l (l.length:Int) i) (F:=λx=>cond (aX 0 (W .i64 (x.2.1+x.2.2.1))) (cond (small (out.length+[x].length)) (gZ.l5 N n l a (out++[x]) (W .i64 ((k:Int)+1))) none) (gZ.l5 N n l a out (W .i64 ((k:Int)+1)))) l a (k:Int) hq ω ω (λn' i z r' hi hz dZ=> ?_) (λn' z hz=> ?_)).trans ?_
  ·unfold gZ.l9 gZ.vd
   rw[aQ ω,aj,aU ω ω,aj,aG,cond_not,aI,cond_not,aI,aI,aw (x:=(i:Int)+1) ω ω,af i]
   have hw:=aac (n:=i) ω (MB hq hi) hz (k:Int)
   by_cases h1:(l.getD i dS).2.1=a
   ·rw[ak h1]
    by_cases h2:(l.getD i dS).2.2.1=(k:Int)
    ·rw[ak ⟨h1,h2⟩]at dZ
     rw[ak h2]
     by_cases h3:(l.getD i dS).2.2.2.1=1
     ·rw[ak h3,←dZ,←hw.1 h3];rfl
     ·rw[ah h3,←dZ,←hw.2 h3];rfl
    ·rw[ah (λh=>h2 h.2)]at dZ
     rw[ah h2];exact dZ
   ·rw[ah (λh=>h1 h.1)]at dZ
    rw[ah h1];exact dZ
  ·unfold gZ.l9 gZ.vd
   rw[aP ω,av]
  ·have hz:=MC hq a (k:Int)
   unfold FU at hz
   show cond (aX 0 (W .i64 ((Nw l a (k:Int)).1+(Nw l a (k:Int)).2))) _ _=r
   rw[aw (x:=(Nw l a (k:Int)).1+(Nw l a (k:Int)).2) ω ω,bZ,bH (by rw[aK];omega),aj,aw (x:=(k:Int)+1) ω ω,af k,←hr]
   split<;>rfl
 ·unfold gZ.l5 gZ.dU
  rw[aP ω,av]
theorem W5(N:Nat)(hN:200000≤N){l:aY}(hq:W4 l)(hl:l.length≤1000)(a:Int):fm N l a=some (m5 l a):=by
 unfold fm fm.b
 refine yx (F:=λn out k=>fm.l3 N n l a out k) (Nw l a) (λn k out r hk ho hr=> ?_) (λn out=> ?_) 6 N 0 [] ω ω (aH _)
 ·unfold fm.l3 fm.m3
  rw[aQ ω,aj]
  refine(Ez N (G:=λn' x i=>fm.l7 N (fm.l3 N n) n' l a out (k:Int) x i) (F:=λx=>cond (aX 0 x.2.1) (cond (small (out.length+[x].length)) (fm.l3 N n l a (out++[x]) (W .i64 ((k:Int)+1))) none) (cond (aX 0 x.2.2.1) (cond (small (out.length+[x].length)) (fm.l3 N n l a (out++[x]) (W .i64 ((k:Int)+1))) none) (fm.l3 N n l a out (W .i64 ((k:Int)+1))))) l a (k:Int) hq ω ω (λn' i z r' hi hz dZ=> ?_) (λn' z hz=> ?_)).trans ?_
  ·unfold fm.l7 fm.mK
   rw[aQ ω,aj,aU ω ω,aj,aj,aj,aj,aj,aG,cond_not,aI,cond_not,aI,aI,aw (x:=(i:Int)+1) ω ω,af i]
   have hw:=aac (n:=i) ω (MB hq hi) hz (k:Int)
   by_cases h1:(l.getD i dS).2.1=a
   ·rw[ak h1]
    by_cases h2:(l.getD i dS).2.2.1=(k:Int)
    ·rw[ak ⟨h1,h2⟩]at dZ
     rw[ak h2]
     by_cases h3:(l.getD i dS).2.2.2.1=1
     ·rw[ak h3,←dZ,←hw.1 h3];rfl
     ·rw[ah h3,←dZ,←hw.2 h3];rfl
    ·rw[ah (λh=>h2 h.2)]at dZ
     rw[ah h2];exact dZ
   ·rw[ah (λh=>h1 h.1)]at dZ
    rw[ah h1];exact dZ
  ·unfold fm.l7 fm.mK
   rw[aP ω,av]
  ·have hz:=MC hq a (k:Int)
   unfold FU at hz
   show cond (aX 0 (Nw l a (k:Int)).1) _ (cond (aX 0 (Nw l a (k:Int)).2) _ _)=r
   rw[bZ,bZ,bH (by rw[aK];omega),aj,aw (x:=(k:Int)+1) ω ω,af k,←hr]
   by_cases h0:0<(Nw l a (k:Int)).1+(Nw l a (k:Int)).2
   ·rw[ak h0]
    by_cases h1:0<(Nw l a (k:Int)).1
    ·rw[ak h1]
    ·rw[ah h1,ak ω]
   ·rw[ah h0,ah ω,ah ω]
 ·unfold fm.l3 fm.m3
  rw[aP ω,av]
def Nx(z:Int×Int):Prop:=0≤z.1∧z.1≤33000000000∧0≤z.2∧z.2≤33000000000
def FV(a b s n:Int)(i:Nat)(p:Int):Prop:=0≤a∧a<n∧0≤b∧b≤33000000000∧0≤s∧s≤33000000000∧(b=0→s≠0)∧(0<i→p<a)
instance(a b s n:Int)(i:Nat)(p:Int):Decidable (FV a b s n i p):=by unfold FV;infer_instance
def wE(c:ae)(l:au)(i:Nat):Prop:=FV (l.getD i bb).1 (l.getD i bb).2.1 (l.getD i bb).2.2.1 c.1.length i (l.getD (i-1) bb).1
instance(c:ae)(l:au):DecidablePred (wE c l):=λi=>by unfold wE;infer_instance
def gS(c:ae)(l:au):Bool:=decide (∀j,j<l.length→wE c l j)&&eL c
def Ih(k:Int):aE→Int→Int
 |[],z=>z
 |x::t,z=>Ih k t (if x.1=k then x.2.1 else z)
theorem Aw(k:Int)(x:BV)(t:aE)(z:Int):Ih k (x::t) z=Ih k t (if x.1=k then x.2.1 else z):=rfl
def yz(k:Int):au→Int×Int→Int×Int
 |[],z=>z
 |x::t,z=>yz k t (if x.1=k then(x.2.1,x.2.2.1)else z)
theorem Ax(k:Int)(x:dh)(t:au)(z:Int×Int):yz k (x::t) z=yz k t (if x.1=k then(x.2.1,x.2.2.1)else z):=rfl
theorem PQ(k:Int): ∀{l:aE} {z:Int},(∀y∈l,aF y.2.1)→aF z→aF (Ih k l z)
 |[],z,_,h=>h
 |x::t,z,hl,h=>by
  rw[Aw]
  refine PQ k (λy hy=>hl y (a8 _ hy)) ?_
  split
  ·exact hl x (bt ..)
  ·exact h
theorem PS(k:Int): ∀{l:au} {z:Int×Int},(∀x∈l,Nx (x.2.1,x.2.2.1))→Nx z→Nx (yz k l z)
 |[],z,_,h=>h
 |x::t,z,hl,h=>by
  rw[Ax]
  refine PS k (λy hy=>hl y (a8 _ hy)) ?_
  split
  ·exact hl x (bt ..)
  ·exact h
theorem MD{c:ae}{l:au}(h:gS c l=true): ∀x∈l,Nx (x.2.1,x.2.2.1):=λx hx=>by
 unfold gS at h
 rw[bP]at h
 obtain⟨i,hi,e⟩:=gJ hx
 have h1:=bA h.1 i hi
 unfold wE at h1
 rw[aW,bl hi,nY,e]at h1
 unfold FV at h1
 exact⟨h1.2.2.1,h1.2.2.2.1,h1.2.2.2.2.1,h1.2.2.2.2.2.1⟩
def Ci(q:Int)(z:Int×Int):Int:=if((q+z.1).natAbs:Int)<((q-z.2).natAbs:Int)then((q-z.2).natAbs:Int)else((q+z.1).natAbs:Int)
theorem aae{q:Int}{z:Int×Int}(hq:aF q)(hz:Nx z):0≤Ci q z∧Ci q z≤9223372069854775808:=by
 unfold Ci Nx aF at*
 split<;>omega
def Cj(l:aE)(o:au)(k:Int):Int:=Ci (Ih k l 0) (yz k o (0,0))
def EA(c:ae)(l:aE)(o:au)(k:Int):Int×Int:=
 if mj c l&&gS c o then(if 0≤k∧k<(c.1.length:Int)then(Cj l o k,0)else(0,3))else(0,1)
theorem Ck{c:ae}{l:aE}{o:au}(ho:gS c o=true)(lq: ∀y∈l,aF y.2.1)(k:Int):0≤Cj l o k∧Cj l o k≤9223372069854775808:=
 aae (PQ k lq (show aF 0 by unfold aF;omega)) (PS k (MD ho) (by unfold Nx;decide))
def oH(c:ae)(i:Nat):Int:=(c.1.getD i ba).2.2.1
theorem FW{c:ae}(h:eL c=true){i:Nat}(hi:i<c.1.length):0≤oH c i∧oH c i≤1000000000:=by
 unfold eL at h
 simp only[bP]at h
 have:=bA h.2.1 i hi
 unfold qN oq at this
 exact this.2.2.1
def oI(c:ae)(l:aE)(o:au):Nat→Int
 |0=>0
 |n+1=>oI c l o n+Cj l o (n:Int)*oH c n
def wF(c:ae)(l:aE)(o:au):Nat→List Int
 |0=>[]
 |n+1=>wF c l o n++[Cj l o (n:Int)*oH c n]
theorem Ii(c:ae)(l:aE)(o:au): ∀n,(wF c l o n).sum=oI c l o n
 |0=>rfl
 |n+1=>by
  show(wF c l o n++[Cj l o (n:Int)*oH c n]).sum=oI c l o n+Cj l o (n:Int)*oH c n
  rw[nZ,Ii c l o n,cK,jo,jq]
theorem Ay(c:ae)(l:aE)(o:au): ∀n,(wF c l o n).length=n
 |0=>rfl
 |n+1=>by
  show(wF c l o n++[Cj l o (n:Int)*oH c n]).length=n+1
  rw[aS,Ay c l o n];rfl
def lW(c:ae)(l:aE)(o:au):Int×Int:=
 if mj c l&&gS c o then(oI c l o c.1.length,0)else(0,1)
theorem FX{a b:Int}(ha:0≤a∧a≤9223372069854775808)(hb:0≤b∧b≤1000000000):0≤a*b∧a*b≤9223372069854775808000000000:=
 ⟨uQ ha.1 hb.1,fC (Int.mul_le_mul ha.2 hb.2 hb.1 δ) δ⟩
theorem zk{c:ae}{l:aE}{o:au}(hp:eL c=true)(ho:gS c o=true)(lq: ∀y∈l,aF y.2.1): ∀n,n≤c.1.length→0≤oI c l o n∧oI c l o n≤9223372069854775808000000000*(n:Int)
 |0,_=>⟨fU _,fU _⟩
 |n+1,hn=>by
  have ih:=zk hp ho lq n ω
  have h1:=FX (Ck ho lq (n:Int)) (FW hp (i:=n) ω)
  show 0≤oI c l o n+Cj l o (n:Int)*oH c n∧oI c l o n+Cj l o (n:Int)*oH c n≤_
  omega
theorem jZ{c:ae}{l:au}(h:gS c l=true):eL c=true:=by
 unfold gS at h
 rw[bP]at h;exact h.2
theorem Ij{c:ae}(h:eL c=true):c.1.length≤6:=by
 unfold eL at h
 simp only[bP]at h
 exact(bA h.1).2
theorem PU(c:ae){l:aE}(o:au)(lq: ∀y∈l,aF y.2.1):0≤(lW c l o).1∧(lW c l o).1≤60000000000000000000000000000:=by
 unfold lW
 by_cases h:(mj c l&&gS c o)=true
 ·rw[ak h]
  rw[bP]at h
  have:=zk (jZ h.2) h.2 lq c.1.length (aH _)
  have h6:=Ij (jZ h.2)
  dsimp only
  omega
 ·rw[ah h];decide
theorem ajl{P:Prop} [Decidable P]{a b s n p:Int}{r:Option Bool}(h:P↔0≤a∧a<n∧0≤b∧b≤33000000000∧0≤s∧s≤33000000000∧(b=0→s≠0)∧p<a):
  (if a<0 then some false else if n≤a then some false else if b<0 then some false else if 33000000000<b then some false else if s<0 then some false else if 33000000000<s then some false else
   if b=0 then(if s=0 then some false else if a≤p then some false else r)else if a≤p then some false else r)=if P then r else some false:=by
 by_cases hP:P
 ·have:=h.1 hP
  rw[ak hP,ah ω,ah ω,ah ω,ah ω,ah ω,ah ω]
  split
  ·rw[ah ω,ah ω]
  ·rw[ah ω]
 ·rw[ah hP]
  have h2:=λh1 h2 h3 h4 h5 h6 h7 h8=>hP (h.2 ⟨h1,h2,h3,h4,h5,h6,h7,h8⟩)
  repeat' split
  all_goals first|rfl|(exfalso;exact h2 ω ω ω ω ω ω ω ω)
theorem ajm{P:Prop} [Decidable P]{a b s n:Int}{r:Option Bool}(h:P↔0≤a∧a<n∧0≤b∧b≤33000000000∧0≤s∧s≤33000000000∧(b=0→s≠0)):
  (if a<0 then some false else if n≤a then some false else if b<0 then some false else if 33000000000<b then some false else if s<0 then some false else if 33000000000<s then some false else
   if b=0 then(if s=0 then some false else r)else r)=if P then r else some false:=by
 by_cases hP:P
 ·have:=h.1 hP
  rw[ak hP,ah ω,ah ω,ah ω,ah ω,ah ω,ah ω]
  split
  ·rw[ah ω]
  ·rfl
 ·rw[ah hP]
  have h2:=λh1 h2 h3 h4 h5 h6 h7=>hP (h.2 ⟨h1,h2,h3,h4,h5,h6,h7⟩)
  repeat' split
  all_goals first|rfl|(exfalso;exact h2 ω ω ω ω ω ω ω)
theorem Ik{c:ae}{l:au}{i:Nat}(h:0<i):wE c l i↔0≤(l.getD i bb).1∧(l.getD i bb).1<(c.1.length:Int)∧0≤(l.getD i bb).2.1∧(l.getD i bb).2.1≤33000000000∧0≤(l.getD i bb).2.2.1∧(l.getD i bb).2.2.1≤33000000000∧((l.getD i bb).2.1=0→(l.getD i bb).2.2.1≠0)∧(l.getD (i-1) bb).1<(l.getD i bb).1:=
 ⟨λ⟨a,b,c,d,e,f,g,k⟩=>⟨a,b,c,d,e,f,g,k h⟩,λ⟨a,b,c,d,e,f,g,k⟩=>⟨a,b,c,d,e,f,g,λ_=>k⟩⟩
theorem EB{c:ae}{l:au}{i:Nat}(h: ¬0<i):wE c l i↔0≤(l.getD i bb).1∧(l.getD i bb).1<(c.1.length:Int)∧0≤(l.getD i bb).2.1∧(l.getD i bb).2.1≤33000000000∧0≤(l.getD i bb).2.2.1∧(l.getD i bb).2.2.1≤33000000000∧((l.getD i bb).2.1=0→(l.getD i bb).2.2.1≠0):=
 ⟨λ⟨a,b,c,d,e,f,g,_⟩=>⟨a,b,c,d,e,f,g⟩,λ⟨a,b,c,d,e,f,g⟩=>⟨a,b,c,d,e,f,g,λk=>absurd k h⟩⟩
theorem K0(N:Nat)(hN:200000≤N)(c:ae){l:au}(hl:l.length≤100000):qw N c l=some (gS c l):=by
 unfold qw qw.b
 refine iB (F:=λn i=>qw.l2 N n l c l (l.length:Int) i) (wE c l) (λn i r hi hp hr=> ?_) (λn=> ?_) N ω
 ·unfold qw.l2 qw.fI
  rw[aQ ω,aj,aU ω ω,aj,aG,aw (x:=(i:Int)+1) ω ω,af,hr]
  by_cases h0:0<i
  ·have e:W .i64 ((i:Int)-1)=((i-1:Nat):Int):=by rw[aw ω ω];omega
   dsimp only
   rw[aQ (x:=0) (y:=(i:Int)) ω,e,aG,aU (i:=((i-1:Nat):Int)) ω ω]
   simp only[bZ,ct,aI,aj]
   have hg:=Ik h0 (c:=c) (l:=l)
   exact ajl hg
  ·rw[aP (x:=0) (y:=(i:Int)) ω]
   simp only[bZ,ct,aI,aj,av]
   have hg:=EB h0 (c:=c) (l:=l)
   exact ajm hg
 ·unfold qw.l2 qw.fI
  rw[aP ω,av,FK N ω,ar]
theorem Il(N:Nat)(hN:200000≤N)(c:ae){l:au}(hl:l.length≤100000):mQ N c l=some (gS c l):=by
 unfold mQ mQ.b
 rw[mL N ω,ar]
 have hsc:=iB (F:=λn i=>mQ.l5 N n l c 33000000000 i) (e:=true) (wE c l) (λn i r hi hp hr=> ?_) (λn=> ?_) N (show l.length<N by omega)
 ·rw[oy hsc];unfold gS
  rw[eZ,Bool.and_comm]
 ·unfold mQ.l5 mQ.dU
  rw[aQ ω,aj,aU ω ω,aj,aG,aw (x:=(i:Int)+1) ω ω,af,hr]
  by_cases h0:0<i
  ·have e:W .i64 ((i:Int)-1)=((i-1:Nat):Int):=by rw[aw ω ω];omega
   dsimp only
   rw[aQ (x:=0) (y:=(i:Int)) ω,e,aG,aU (i:=((i-1:Nat):Int)) ω ω]
   simp only[bZ,ct,aI,aj]
   have hg:=Ik h0 (c:=c) (l:=l)
   exact ajl hg
  ·rw[aP (x:=0) (y:=(i:Int)) ω]
   simp only[bZ,ct,aI,aj,av]
   have hg:=EB h0 (c:=c) (l:=l)
   exact ajm hg
 ·unfold mQ.l5 mQ.dU
  rw[aP ω,av]
end VM
end
