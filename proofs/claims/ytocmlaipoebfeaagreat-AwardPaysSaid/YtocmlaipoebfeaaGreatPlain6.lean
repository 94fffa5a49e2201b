/- A part of the proof of AwardPays of layer 25: what the functions compute, in plain words. -/
import Derived.Test.YtocmlaipoebfeaaGreatPlain5
import Derived.Test.YtocmlaipoebfeaaGreatPlain4
set_option linter.all false
section
namespace VM
open Go VM.F
theorem S3(N:Nat)(hN:200000≤N){l:ay}{m:Nat}(hm:m≤50000)(h:G m (.slice cN) l)(a:Int):Ok (fun r=>G 0 cN r.1) (zZ N l a):=by
 have hl:=h.1
 have hz:G 0 cN aC:=G.zero 0 cN
 unfold zZ zZ.b
 refine bE (rI N (by omega) hN) (bx (fun _=>ah hz) fun _=>bc (len:=l.length) (F:=fun n i (z:bn×Bool)=>zZ.l6 N n l a aC z.1 z.2 i) (s:=(_,_)) (fun _ z=>G 0 cN z.1) hz (by omega) (fun n i z hi hI hr=> ?_) (fun n z hI=> ?_))
 all_goals unfold zZ.l6 zZ.oX
 ·rw[ar (x:=(i:Int)+1) (by omega) (by omega),ae i]
  have hx:G 0 cN (l.getD (i:Int).toNat aC):=G.at h _
  have h1:=hr z hI
  have h2:=hr (_,true) hx
  repeat' first|exact h1|exact h2|refine au ⟨by omega,by omega⟩ ?_|refine av (fun _=> ?_) (fun _=> ?_)|refine ok_eq (fun _=> ?_) (fun _=> ?_)|refine bx (fun _=> ?_) (fun _=> ?_)|(exfalso;omega)
 ·exact av (fun _=>by omega) fun _=>ah hI
theorem GL{m:Nat}{a b d e f:Int}{l:ax}(ha:aD a)(hl:L2 m l)(hb:aD b)(hd:aD d)(he:aD e)(hf:aD f):G m dF (a,(l,(b,(d,(e,(f,())))))):=⟨ha,hl,hb,hd,he,hf,trivial⟩
theorem LL.app{m:Nat}{k:Nat}{l:az}{x:cq}(hl:l.length≤k∧ ∀y∈l,G m dF y)(hx:G m dF x):(l++[x]).length≤k+1∧ ∀y∈l++[x],G m dF y:=
 ⟨by rw[atJ,atG];have:=hl.1;omega,fun y hy=>(atU.1 hy).elim (hl.2 y) fun hy=>by rw[at2.1 hy];exact hx⟩
theorem PQ(N:Nat)(hN:5000000≤N)(c:aa){b:ag}{L:az}{l:ay}{m:Nat}(h2:200≤m)(hm:m≤2000)(hb:G m aB b)(hL:LL m L)(hl:G m (.slice cN) l):Ok (fun r=>G m aB r.1∧LL m r.2.1) (oT N c b L l):=by
 have eR: ∀e:Int,Ok (fun r:ag×az×Int=>G m aB r.1∧LL m r.2.1) (some ((aS,(cj,(ba,(ba,(cI,(cL,())))))),([],e))):=fun e=>ah ⟨G.fm,G.nil⟩
 have h3:=hL.1
 have h4:=hl.1
 have hw:w5 L:=fun y hy=>aut (hL.2 y hy).2.1.1 (by omega)
 unfold oT oT.b
 refine bE (dO N hN (by omega) hb) (bx (fun _=>eR _) fun _=>bE (zv N (by omega) c (by omega) hw) (bx (fun _=>eR _) fun hk=>bE (rI N (by omega) (by omega)) (bx (fun _=>eR _) fun _=> ?_)))
 have QJ:L.length≤12:=by
  unfold iQ at hk
  exact atY (auc.1 (auc.1 hk).2).1
 refine bc (len:=L.length) (F:=fun n i (z:aj×bl×az)=>oT.l7 N n L l b (aS,(cj,(ba,(ba,(cI,(cL,())))))) z.1 z.2.1 z.2.2 i) (s:=(_,(_,_))) (fun i z=>L3 (2*m*i) z.1∧gl (2*i) z.2.1∧z.2.2.length≤i∧ ∀y∈z.2.2,G m dF y) ⟨G.nil,gl.nil,auu _,fun y hy=>nomatch hy⟩ (by omega) (fun n i z hi hI hr=> ?_) (fun n z hI=> ?_)
 all_goals unfold oT.l7 oT.oe
 ·obtain⟨h5,h6,h7⟩:=hI
  have h8:=h6.1
  have h9:=h7.1
  have hmi:2*m*i≤2*m*12:=avb _ (by omega)
  have hms:2*m*(i+1)=2*m*i+2*m:=awW _ _
  have hx:G m dF (L.getD (i:Int).toNat ((0:Int),(aS,aC))):=G.at hL _
  have hxl:=hx.2.1.1
  rw[ar (x:=(i:Int)+1) (by omega) (by omega),ae i]
  dsimp only
  rw[aug]
  have put: ∀x:cq,G m dF x→Ok (fun r=>G m aB r.1∧LL m r.2.1) (cond (small (z.2.2.length+[x].length)) (oT.l7 N n L l b (aS,(cj,(ba,(ba,(cI,(cL,())))))) z.1 z.2.1 (z.2.2++[x]) ((i+1:Nat):Int)) none):=fun x hx=>aG (by rw[atG];omega) (hr (z.1,(z.2.1,z.2.2++[x])) ⟨G.mono (by omega) h5,gl.mono h6 (by omega),LL.app h7 hx⟩)
  refine av (fun _=>au ⟨by omega,by omega⟩ (aG (by rw[aua];omega) (bt (fun _=>put _ hx) fun _=>af (S3 N (by omega) (by omega) hl _) fun w hw=>bx (fun _=>put _ (GL hx.1 hx.2.1 hx.2.2.1 (show aD 3 from aV) hx.2.2.2.2.1 hx.2.2.2.2.2.1)) fun _=>af (zX N (by omega) (by omega) hb.2.1 _) fun h hh=>ok_eq (fun _=>eR _) fun _=>af (sx N (by omega) (by omega) hb _) fun _ _=>ok_eq (fun _=>eR _) fun _=> ?_))) fun _=>by omega
  have o9:=GL hx.1 hx.2.1 hx.2.2.1 (show aD 2 from aV) hw.2.2.1 hw.2.2.2.1
  generalize hX:(((L.getD (i:Int).toNat ((0:Int),(aS,aC))).1,((L.getD (i:Int).toNat ((0:Int),(aS,aC))).2.1,((L.getD (i:Int).toNat ((0:Int),(aS,aC))).2.2.1,((2:Int),(w.1.2.2.1,(w.1.2.2.2.1,())))))):cq)=X at o9
  have hXl:X.2.1.length≤m:=o9.2.1.1
  refine bc (len:=X.2.1.length) (F:=fun n' j u=>oT.sM N (oT.l7 N n) n' L l b (aS,(cj,(ba,(ba,(cI,(cL,())))))) u z.2.1 z.2.2 (i:Int) X w.1 h j) (s:=z.1) (fun j u=>L3 (2*m*i+2*j) u) h5 (by omega) (fun n' j u hj hu dU=> ?_) (fun n' u hu=> ?_)
  all_goals unfold oT.sM oT.rG
  ·have XE:=hu.1
   have hy:G m gW (X.2.1.getD (j:Int).toNat bR):=G.at o9.2.1 _
   dsimp only
   rw[ar (x:=(j:Int)+1) (by omega) (by omega),ae j]
   exact av (fun _=>au ⟨by omega,by omega⟩ (au ⟨by omega,by omega⟩ (au ⟨by omega,by omega⟩ (au ⟨by omega,by omega⟩ (aG (by rw[sv];omega) (dU _ (G.mono (by omega) (G.cat hu (G.two (m:=2) (G3 aU hy.1 (dS _)) (G3 hh hy.1 hy.2.1) (atP 2)))))))))) fun _=>by omega
  ·refine av (fun _=>by omega) fun _=>af (aX N (by omega) hw.2.2.2.1) fun v hv=>af (oD N (by omega) _ _ _ _ (Bg.mono hv (by omega))) fun p hp=>aG (by have:=hp.1;omega) (aG (by rw[atG];omega) ?_)
   rw[ar (x:=(i:Int)+1) (by omega) (by omega),ae i]
   exact hr (_,(_,_)) ⟨G.mono (by omega) hu,gl.mono (gl.app h6 hp) (by omega),LL.app h7 o9⟩
 ·obtain⟨h5,h6,h7⟩:=hI
  have hmi:2*m*L.length≤2*m*12:=avb _ (by omega)
  exact av (fun _=>by omega) fun _=>af (oA N (by omega) h2 (by omega) hb (G.mono (by omega) h5) (gl.mono h6 (by omega))) fun r hr=>bt (fun _=>eR _) fun _=>ah ⟨hr,aut h7.1 (by omega),h7.2⟩
end VM
end
section
namespace VM
open Go VM.F
theorem PS{l:ay}(h:g8 l=true):l.length≤24:=by
 unfold g8 at h
 rw[au8]at h
 have h:=atY h
 have key: ∀i,i<l.length→(i:Int)+1≤(l.getD i aC).1:=by
  intro i
  induction i with
  |zero=>intro hi;exact(h 0 hi).1.1.1
  |succ i ih=>
   intro hi
   have h1:=ih (by omega)
   have h2:(l.getD i aC).1<(l.getD (i+1) aC).1:=(h (i+1) hi).2.1 (by omega)
   have g: ∀a b:Int,(i:Int)+1≤a→a<b→((i+1:Nat):Int)+1≤b:=fun a b h1 h2=>by omega
   exact g _ _ h1 h2
 by_cases hl:l.length≤24
 ·exact hl
 ·have h1:=key 24 (by omega)
  have h2:=(h 24 (by omega)).1.1.2
  have g: ∀a:Int,((24:Nat):Int)+1≤a→a≤24→False:=fun a h1 h2=>by omega
  exact(g _ h1 h2).elim
theorem MF(N:Nat)(hN:5000000≤N){c:aa}{b:ag}{m:Nat}(hm:m≤40000)(hc:G m an c)(hb:G m aB b)(a:Int):Ok (fun r=>aD r.1) (S4 N c b a):=by
 unfold S4 PJ
 exact bE (dO N hN (by omega) hb) (bx (fun _=>ah aU) fun _=>af (su N (by omega) (by omega) hb.2.1 _) fun _ _=>bx (fun _=>ah aU) fun _=>af (FV N (by omega) (by omega) hb.2.2.2.1 _) fun l hl=>af (Q:=fun r=>Bg 60000 r.1) (af (we N (by omega) (by omega) hc hl _) fun r hr=>ah hr) fun u hu=>af (sy N (by omega) (by omega) hb _) fun g hg=>c5 (fun _=>ah aU) fun _=>af (tQ N hu) fun v hv=>oO (fun _=>av (fun _=>ah hv) fun _=>ah hg) fun _=>ah hg)
theorem PT(N:Nat)(hN:200000≤N){l:aj}{a d:Int}{m:Nat}(hm:m≤50000)(h:L3 m l)(ha:aD a)(hd:aD d):Ok (fun r=>L3 (2*m) r) (mv N l a d):=by
 have hl:=h.1
 unfold mv mv.b
 refine bE (mF N (by omega) hN) (bx (fun _=>ah G.nil) fun _=>ok_eq (fun _=>ah G.nil) fun _=>av (fun _=>ah G.nil) fun _=>av (fun _=>ah G.nil) fun _=>av (fun _=>ah G.nil) fun _=>av (fun _=>ah G.nil) fun _=>bc (len:=l.length) (F:=fun n i s=>mv.l5 N n l a d s i) (fun i s=>L3 (2*i) s) G.nil (by omega) (fun n i s hi hI hr=> ?_) (fun n s hI=> ?_))
 all_goals unfold mv.l5 mv.dr
 ·have hs:=hI.1
  have hx:=G.at h (i:Int).toNat
  dsimp only
  rw[ar (x:=(i:Int)+1) (by omega) (by omega),ae i]
  have h1:=hr s (G.mono (by omega) hI)
  exact av (fun _=>au ⟨by omega,by omega⟩ (ok_eq (fun _=>au ⟨by omega,by omega⟩ (au ⟨by omega,by omega⟩ (au ⟨by omega,by omega⟩ (au ⟨by omega,by omega⟩ (aG (by rw[sv];omega) (hr _ (G.mono (by omega) (G.cat hI (G.two (m:=2) (G3 ha hx.2.1 (dS _)) (G3 hd hx.2.1 hx.2.2.1) (atP 2)))))))))) fun _=>h1)) fun _=>by omega
 ·exact av (fun _=>by omega) fun _=>ah (G.mono (by omega) hI)
theorem S5(N:Nat)(hN:5000000≤N){c:aa}{b:ag}{m:Nat}(h2:200≤m)(hm:m≤1000)(hc:G m an c)(hb:G m aB b)(a:Int):Ok (fun r=>G m aB r.1) (fR N c b a):=by
 unfold fR fR.b
 refine bE (dO N hN (by omega) hb) (bx (fun _=>ah G.fm) fun hB=>af (sx N (by omega) (by omega) hb _) fun _ _=>ok_eq (fun _=>ah G.fm) fun _=> ?_)
 have hal:b.2.1.length≤24:=by
  unfold cV at hB
  have h1:=(auc.1 (auc.1 hB).2).1
  unfold rC at h1
  exact PS (auc.1 (auc.1 h1).2).1
 refine bc (len:=b.2.1.length) (F:=fun n i (z:aj×bl)=>fR.l8 N n a c b (aS,(cj,(ba,(ba,(cI,(cL,())))))) z.1 z.2 i) (s:=(_,_)) (fun i z=>L3 (2*m*i) z.1∧gl (4*i) z.2) ⟨G.nil,gl.nil⟩ (by omega) (fun n i z hi hI hr=> ?_) (fun n z hI=> ?_)
 all_goals unfold fR.l8 fR.yh
 ·obtain⟨h5,h6⟩:=hI
  have h7:=h5.1
  have h8:=h6.1
  have hmi:2*m*i≤2*m*24:=avb _ (by omega)
  have hms:2*m*(i+1)=2*m*i+2*m:=awW _ _
  have hx:G m cN (b.2.1.getD (i:Int).toNat aC):=G.at hb.2.1 _
  have hj: ∀p:bl,gl (4*i+2) p→Ok (fun r=>G m aB r.1) (fR.Bi N (fR.l8 N n) a c b (aS,(cj,(ba,(ba,(cI,(cL,())))))) z.1 p (i:Int) (b.2.1.getD (i:Int).toNat aC)):=fun p hp=>by
   have YI:=hp.1
   unfold fR.Bi fR.tS
   rw[ar (x:=(i:Int)+1) (by omega) (by omega),ae i]
   exact af (sy N (by omega) (by omega) hb _) fun g hg=>av (fun _=>af (aX N (by omega) hg) fun v hv=>af (pk N (by omega) (by omega) hv) fun v hv=>af (oD N (by omega) _ _ _ _ (Bg.mono hv (by omega))) fun u hu=>aG (by have:=hu.1;omega) (af (PT N (by omega) (by omega) hb.2.2.2.1 hx.1 aU) fun s hs=>aG (by have:=hs.1;omega) (hr (_,_) ⟨G.mono (by omega) (G.cat h5 hs),gl.mono (gl.app hp hu) (by omega)⟩))) fun _=>af (PT N (by omega) (by omega) hb.2.2.2.1 hx.1 aU) fun s hs=>aG (by have:=hs.1;omega) (hr (_,_) ⟨G.mono (by omega) (G.cat h5 hs),gl.mono hp (by omega)⟩)
  rw[ar (x:=(i:Int)+1) (by omega) (by omega),ae i]
  exact av (fun _=>au ⟨by omega,by omega⟩ (bt (fun _=>hr z ⟨G.mono (by omega) h5,gl.mono h6 (by omega)⟩) fun _=>ok_eq (fun _=>af (MF N hN (by omega) hc hb _) fun q hq=>af (aX N (by omega) hq) fun v hv=>af (oD N (by omega) _ _ _ _ (Bg.mono hv (by omega))) fun u hu=>aG (by have:=hu.1;omega) (hj _ (gl.mono (gl.app h6 hu) (by omega)))) fun _=>hj _ (gl.mono h6 (by omega)))) fun _=>by omega
 ·obtain⟨h5,h6⟩:=hI
  have hmi:2*m*b.2.1.length≤2*m*24:=avb _ (by omega)
  exact av (fun _=>by omega) fun _=>af (oA N (by omega) h2 (by omega) hb (G.mono (by omega) h5) (gl.mono h6 (by omega))) fun r hr=>ah hr
abbrev GS(m:Nat)(s:aE):Prop:=G m bJ s
abbrev SR(m:Nat)(r:aE×cE):Prop:=GS m r.1
theorem Dx(N:Nat)(e:Int):Ok (fun _=>True) (eh N e):=by
 unfold eh;exact dp
theorem MG(N:Nat)(hN:5000000≤N){c:aa}{s:aE}{e:fK}{m:Nat}(h2:200≤m)(hm:m≤1000)(hc:G m an c)(hs:GS m s)(he:G 0 mI e):Ok (SR m) (nu N c s e):=by
 have hhl:=hs.2.2.2.1.2.2.2.2.1.1
 unfold nu nu.b
 generalize ((0:Int),((0:Int),_))=S0
 refine bc (len:=s.2.2.2.1.2.2.2.2.1.length) (F:=fun n i (z:aE×ay×Bool×Int)=>nu.l5 N n c z.1 e S0 aZ z.2.1 z.2.2.1 z.2.2.2 i) (s:=(_,(_,(_,_)))) (fun i z=>GS m z.1∧z.1.2.2.2.1.2.2.2.2.1=s.2.2.2.1.2.2.2.2.1∧G i (.slice cN) z.2.1) ⟨hs,rfl,G.nil⟩ (by omega) (fun n i z hi hI hr=> ?_) (fun n z hI=> ?_)
 all_goals unfold nu.l5 nu.dr
 ·obtain⟨hz,hh,ho⟩:=hI
  have DZ:=ho.1
  rw[hh,ar (x:=(i:Int)+1) (by omega) (by omega),ae i]
  have hx:G 0 cN (s.2.2.2.1.2.2.2.2.1.getD (i:Int).toNat aC):=G.at hs.2.2.2.1.2.2.2.2.1 _
  refine av (fun _=>au ⟨by omega,by omega⟩ (ok_eq (fun _=>af (SE N hN h2 (by omega) hc hz.2.2.1 (G.mono (auu m) hx) he.2.2.1 he.2.2.2.2.2.2.1 he.2.2.2.2.2.2.2.1) fun r ⟨HO,DW⟩=>bt (fun _=>af (Dx N _) fun _ _=>ah hz) fun _=> ?_) fun _=>av (fun _=>aG (by rw[atG];omega) (hr (z.1,(z.2.1++[s.2.2.2.1.2.2.2.2.1.getD (i:Int).toNat aC],z.2.2)) ⟨hz,hh,G.cat ho (G.one hx (atP 1))⟩)) fun _=>hr z ⟨hz,hh,G.mono (by omega) ho⟩)) fun _=>by omega
  have AE:GS m (z.1.1,(z.1.2.1,(r.1,z.1.2.2.2))):=⟨hz.1,hz.2.1,HO,hz.2.2.2⟩
  have akx:G 0 cN r.2.1:=DW
  exact av (fun _=>aG (by rw[atG];omega) (hr ((z.1.1,(z.1.2.1,(r.1,z.1.2.2.2))),(z.2.1++[r.2.1],(true,r.2.1.2.2.2.1))) ⟨AE,hh,G.cat ho (G.one akx (atP 1))⟩)) fun _=>hr ((z.1.1,(z.1.2.1,(r.1,z.1.2.2.2))),(z.2.1,(true,r.2.1.2.2.2.1))) ⟨AE,hh,G.mono (by omega) ho⟩
 ·obtain⟨hz,hh,ho⟩:=hI
  rw[hh]
  exact av (fun _=>by omega) fun _=>bx (fun _=>af (Dx N _) fun _ _=>ah hz) fun _=>ah ⟨hz.1,hz.2.1,hz.2.2.1,⟨hz.2.2.2.1.1,hz.2.2.2.1.2.1,hz.2.2.2.1.2.2.1,hz.2.2.2.1.2.2.2.1,G.mono hhl ho,hz.2.2.2.1.2.2.2.2.2⟩,hz.2.2.2.2⟩
end VM
end
section
namespace VM
open Go VM.F
theorem z1(N:Nat)(hN:4000000≤N){s:aE}{q:Int}(hs:aD s.1)(hq:aD q):Ok (fun r=>aD r.1) (MH N s q):=by
 unfold MH
 exact af (aX N hN hs) fun a ha=>af (aX N hN hq) fun b hb=>af (gV N hN (by omega) ha hb) fun x hx=>af (tQ N hx) fun v hv=>ah hv
theorem bV{α:Type}{P:α×cE→Prop}{N:Nat}{e:Int}{f:cE→Option (α×cE)}(h: ∀r,Ok P (f r)):Ok P ((eh N e).bind f):=af (Dx N e) fun r _=>h r
theorem PU(N:Nat)(hN:5000000≤N){c:aa}{s:aE}{e:fK}{m:Nat}(h2:200≤m)(hm:m≤999)(hc:G 5 an c)(hs:GS m s)(he:G 0 mI e):Ok (SR (m+1)) (nv N c s e):=by
 have K6:G m an c:=G.mono (by omega) hc
 have JP:GS (m+1) s:=G.mono (by omega) hs
 obtain⟨s1,s2,s3,⟨k1,k2,k3,k4,k5,k6,k7,k8,k9,PV,S6⟩,s5⟩:=JP
 have hk:=hs.2.2.2.1
 have i2:aD 2:=aV
 have i3:aD 3:=aV
 have up: ∀{τ:Ty} {x:τ.den},G m τ x→G (m+1) τ x:=fun h=>G.mono (by omega) h
 have bp: ∀r:cE,Ok (SR (m+1)) (some (s,r)):=fun r=>ah (up hs)
 unfold nv nv.b
 refine ok_eq (fun _=> ?_) fun _=>ok_eq (fun _=> ?_) fun _=>ok_eq (fun _=> ?_) fun _=>ok_eq (fun _=> ?_) fun _=>ok_eq (fun _=> ?_) fun _=>ok_eq (fun _=> ?_) fun _=>ok_eq (fun _=> ?_) fun _=>ok_eq (fun _=> ?_) fun _=>bV fun r=>bp r
 ·exact af (SS N hN (by omega) K6 hs.2.2.1 _ he.2.1 _) fun r hr=>bV fun _=>ah ⟨s1,s2,up hr,(up hs).2.2.2⟩
 ·exact af (S5 N hN h2 (by omega) K6 hs.2.2.1 _) fun r hr=>bV fun _=>ah ⟨s1,s2,up hr,⟨k1,i2,aU,k4,k5,k6,k7,k8,k9,PV,S6⟩,s5⟩
 ·exact af (Ml N hN c hc.2.2.2.2.2.2.1 (by omega) hs.2.2.1 _) fun r hr=>ah ⟨s1,dS _,s3,⟨k1,k2,k3,k4,G.mono (by omega) hr,k6,k7,k8,k9,PV,S6⟩,s5⟩
 ·exact af (MG N hN h2 (by omega) K6 hs he) fun r hr=>ah (up hr)
 ·exact ok_eq (fun _=>bV fun r=>bp r) fun _=>af (KE N hN h2 (by omega) K6 hs.2.2.1 hs.2.1) fun l hl=>bt (fun _=>bV fun r=>bp r) fun _=>af (z1 N (by omega) hs.1 hc.2.2.2.2.1) fun t ht=>bx (fun _=>bV fun r=>bp r) fun _=>af (SW N hN c (by omega) hs.2.2.1) fun u hu=>ah ⟨s1,dS _,s3,⟨k1,i3,ht,dS _,G.nil,up hl,G.nil,up hu,k9,PV,S6⟩,s5⟩
 ·have hx:G 0 cN (s.2.1,(e.2.2.2.2.2.1,(e.2.1,(e.2.2.2.2.2.2.2.1,())))):=⟨hs.2.1,he.2.2.2.2.2.1,he.2.1,he.2.2.2.2.2.2.2.1,trivial⟩
  exact af (Mw N hN (by omega) (by omega) K6 hs.2.2.1 hk.2.2.2.2.2.1 hk.2.2.2.2.2.2.1 hx) fun r hr=>ah ⟨s1,dS _,s3,⟨k1,k2,k3,k4,k5,k6,hr,k8,k9,PV,S6⟩,s5⟩
 ·refine af (PQ N hN c h2 (by omega) hs.2.2.1 hk.2.2.2.2.2.1 hk.2.2.2.2.2.2.1) fun r ⟨HO,DW⟩=>bt (fun _=>bV fun r=>bp r) fun _=>af (PL N (by omega) c h2 (by omega) hk.2.2.2.2.2.2.2.2.1 hk.2.2.2.2.2.2.2.1.1 DW hk.2.2.2.2.2.2.1) fun d hd=> ?_
  generalize ((0:Int),((0:Int),_))=S0
  have En:=DW.1
  refine bc (len:=r.2.1.length) (F:=fun n i q=>nv.l41 N n _ S0 aZ r.2.1 q i) (fun _ _=>True) trivial (by omega) (fun n i q hi _ dU=> ?_) (fun n q _=> ?_)
  all_goals unfold nv.l41 nv.ZU
  ·rw[ar (x:=(i:Int)+1) (by omega) (by omega),ae i]
   exact av (fun _=>au ⟨by omega,by omega⟩ (ok_eq (fun _=>dU _ trivial) fun _=>dU _ trivial)) fun _=>by omega
  ·exact av (fun _=>by omega) fun _=>ah ⟨s1,s2,up HO,⟨k1,i2,aU,k4,k5,up DW,k7,k8,up hd,PV,S6⟩,s5⟩
 ·exact af (MD N hN h2 (by omega) K6 hs.2.2.1 hk.2.2.2.2.2.2.2.2.1 hk.2.2.2.2.2.2.2.2.2.1 hk.1) fun r ⟨HO,DW⟩=>bt (fun _=>bV fun r=>bp r) fun _=>af (S2 N hN h2 (by omega) hc HO) fun b hb=>bt (fun _=>bV fun r=>bp r) fun _=>af (KD N (by omega) (by omega) hb.1 _ _) fun u hu=>ah ⟨s1,s2,⟨up hu,(up hb).2⟩,G.zero (m+1) lC,up DW,trivial⟩
end VM
end
section
namespace VM
open Go VM.F
theorem PW(N:Nat)(s:aE)(k:Int):Ok (fun _=>True) (S7 N s k):=by
 unfold S7
 repeat' first|exact dp|refine ok_eq (fun _=> ?_) (fun _=> ?_)
theorem sB(N:Nat)(hN:200000≤N){s:aE}{m:Nat}(hm:m≤50000)(hs:GS m s)(k:Int):Ok (fun _=>True) (Dy N s k):=by
 unfold Dy
 exact af (mH N hN hm hs.2.2.1.1 _) fun _ _=>dp
theorem PX(N:Nat)(hN:200000≤N){s:aE}{m:Nat}(hm:m≤50000)(hs:GS m s)(k:Int):Ok (fun _=>True) (PY N s k):=by
 unfold PY
 exact af (su N hN hm hs.2.2.1.2.1 _) fun _ _=>dp
theorem S8(N:Nat)(hN:4000000≤N){s:aE}{m:Nat}(h2:200≤m)(hm:m≤50000)(hs:GS m s)(a b c d:Int){q:Int}(hq:aD q):Ok (SR m) (MI N s a b c d q):=by
 unfold MI
 exact af (aX N hN hq) fun x hx=>af (oD N hN _ _ _ _ (Bg.mono hx (by omega))) fun p hp=>af (oA N hN h2 hm hs.2.2.1 G.nil (gl.mono hp (by omega))) fun r hr=>ah ⟨hs.1,hs.2.1,hr,hs.2.2.2⟩
theorem PZ(N:Nat)(hN:5000000≤N){c:aa}{s:aE}{e:fK}{m:Nat}(h2:200≤m)(hm:m≤999)(hc:G 5 an c)(hs:GS m s)(he:G 0 mI e):Ok (SR (m+1)) (qm N c s e):=by
 obtain⟨s1,s2,s3,⟨k1,k2,k3,k4,k5,k6,k7,k8,k9,PV,S6⟩,s5⟩:=hs
 have hs:GS m s:=⟨s1,s2,s3,⟨k1,k2,k3,k4,k5,k6,k7,k8,k9,PV,S6⟩,s5⟩
 have up: ∀{x:aE},GS m x→ ∀r:cE,Ok (SR (m+1)) (some (x,r)):=fun h r=>ah (P:=SR (m+1)) (G.mono (awd m) h)
 have i1:aD 1:=aV
 have us: ∀{τ:Ty} {x:τ.den},G m τ x→G (m+1) τ x:=fun h=>G.mono (by omega) h
 unfold qm qm.b
 have hj: ∀(S0:aE) (z:cE),Ok (SR (m+1)) (qm.PI N c s e S0 z):=fun S0 z=>by
  unfold qm.PI qm.Ja
  exact af (PW N _ _) fun _ _=>bx (fun _=>bV fun r=>up hs r) fun _=>af (PU N hN h2 hm hc hs he) fun r hr=>ah hr
 have mem: ∀{x:ax},G m (.slice gW) x→G m aB ((x,s.2.2.1.2):ag):=fun h=>⟨h,s3.2⟩
 have hd: ∀z:ax×Int,G m (.slice gW) z.1→Ok (SR (m+1)) (cond (aA z.2 0) (cond (aA e.1 11) ((Ms N c (z.1,s.2.2.1.2) e.2.1).bind fun r2=>cond (aA s.2.2.2.1.2.1 3) ((lP N s.2.2.2.1.2.2.2.2.2.2.1 e.2.1).bind fun r3=>(eh N z.2).bind fun r4=>some ((s.1,(s.2.1,(r2.1,((s.2.2.2.1.1,(s.2.2.2.1.2.1,(s.2.2.2.1.2.2.1,(s.2.2.2.1.2.2.2.1,(s.2.2.2.1.2.2.2.2.1,(s.2.2.2.1.2.2.2.2.2.1,(r3,s.2.2.2.1.2.2.2.2.2.2.2))))))),s.2.2.2.2)))),r4)) ((eh N z.2).bind fun r5=>some ((s.1,(s.2.1,(r2.1,s.2.2.2))),r5))) ((eh N z.2).bind fun r6=>some ((s.1,(s.2.1,((z.1,s.2.2.1.2),s.2.2.2))),r6))) ((eh N z.2).bind fun r7=>some ((s.1,(s.2.1,((z.1,s.2.2.1.2),s.2.2.2))),r7))):=fun z hz=>
  ok_eq (fun _=>ok_eq (fun _=>af (F3 N hN c (by omega) (mem hz) _) fun b hb=>ok_eq (fun _=>af (F4 N (by omega) (by omega) k7 _) fun l hl=>bV fun r=>ah ⟨s1,s2,us hb,⟨k1,k2,k3,k4,us k5,us k6,us hl,us k8,us k9,us PV,trivial⟩,us s5⟩) fun _=>bV fun r=>ah ⟨s1,s2,us hb,(us hs).2.2.2⟩) fun _=>bV fun r=>ah ⟨s1,s2,us (mem hz),(us hs).2.2.2⟩) fun _=>bV fun r=>ah ⟨s1,s2,us (mem hz),(us hs).2.2.2⟩
 have KX:=fun k:Int=>KD N (by omega) (m:=m) (by omega) s3.1 e.2.1 k
 refine ok_eq (fun _=>af (KX _) fun z hz=>hd z hz) fun _=>ok_eq (fun _=>af (KX _) fun z hz=>hd z hz) fun _=>ok_eq (fun _=> ?_) fun _=>ok_eq (fun _=> ?_) fun _=>hj _ _
 ·exact af (sB N (by omega) (by omega) hs _) fun _ _=>ok_eq (fun _=>bV fun r=>up hs r) fun _=>bt (fun _=>bV fun r=>up hs r) fun _=>af (KX _) fun z hz=>bt (fun _=>bV fun r=>ah ⟨s1,s2,us (mem hz),(us hs).2.2.2⟩) fun _=>af (z1 N (by omega) s1 hc.2.2.2.1) fun t ht=>bx (fun _=>bV fun r=>ah ⟨s1,s2,us (mem hz),(us hs).2.2.2⟩) fun _=>ah ⟨s1,s2,us (mem hz),⟨he.2.1,i1,ht,aU,G.nil,G.nil,G.nil,G.nil,G.nil,G.nil,trivial⟩,us s5⟩
 ·exact af (sB N (by omega) (by omega) hs _) fun _ _=>ok_eq (fun _=>bV fun r=>up hs r) fun _=>af (sB N (by omega) (by omega) hs _) fun _ _=>bt (fun _=>bV fun r=>up hs r) fun _=>hj _ _
theorem S9(N:Nat)(hN:5000000≤N){c:aa}{s:aE}{e:fK}{m:Nat}(h2:200≤m)(hm:m≤999)(hc:G 5 an c)(hs:GS m s)(he:G 0 mI e):Ok (SR (m+1)) (Ta N c s e):=by
 have K6:G m an c:=G.mono (by omega) hc
 obtain⟨s1,s2,s3,⟨k1,k2,k3,k4,k5,k6,k7,k8,k9,PV,S6⟩,s5⟩:=hs
 have hs:GS m s:=⟨s1,s2,s3,⟨k1,k2,k3,k4,k5,k6,k7,k8,k9,PV,S6⟩,s5⟩
 have us: ∀{τ:Ty} {x:τ.den},G m τ x→G (m+1) τ x:=fun h=>G.mono (by omega) h
 have JP:=us hs
 have up: ∀{x:aE},GS m x→ ∀r:cE,Ok (SR (m+1)) (some (x,r)):=fun h r=>ah (P:=SR (m+1)) (G.mono (awd m) h)
 have st:=fun k:Int=>sB N (by omega) (m:=m) (by omega) hs k
 have hp:=fun a b c d=>S8 N (by omega) h2 (by omega) hs a b c d he.2.2.2.2.2.2.1
 have q64:=he.2.2.2.2.2.2.1
 unfold Ta
 refine ok_eq (fun _=> ?_) fun _=>ok_eq (fun _=> ?_) fun _=>ok_eq (fun _=> ?_) fun _=>ok_eq (fun _=> ?_) fun _=>ok_eq (fun _=> ?_) fun _=>ok_eq (fun _=> ?_) fun _=>ok_eq (fun _=> ?_) fun _=>ok_eq (fun _=> ?_) fun _=>ok_eq (fun _=> ?_) fun _=>ok_eq (fun _=> ?_) fun _=>ok_eq (fun _=> ?_) fun _=>af (PZ N hN h2 hm hc hs he) fun r hr=>ah hr
 ·exact af (Pv N (by omega) (by omega) s3.1 he.2.1) fun r hr=>bV fun _=>ah ⟨s1,s2,⟨hr,JP.2.2.1.2⟩,JP.2.2.2⟩
 ·have hx:G 0 cN (e.2.2.1,(e.2.1,(e.2.2.2.2.1,((0:Int),())))):=⟨he.2.2.1,he.2.1,he.2.2.2.2.1,aU,trivial⟩
  exact af (SK N (by omega) (by omega) s3.1 s3.2.1 hx) fun r hr=>bV fun _=>ah ⟨s1,s2,⟨JP.2.2.1.1,hr,JP.2.2.1.2.2⟩,JP.2.2.2⟩
 ·exact af (PX N (by omega) (by omega) hs _) fun _ _=>bx (fun _=>bV fun r=>up hs r) fun _=>af (hp _ _ _ _) fun r hr=>ah (us hr)
 ·exact af (F7 N hN h2 (by omega) K6 s3 _ q64) fun r hr=>bV fun z=>ah ⟨s1,s2,us hr,(us hs).2.2.2⟩
 ·exact af (st _) fun _ _=>ok_eq (fun _=>bV fun r=>up hs r) fun _=>af (st _) fun _ _=>bt (fun _=>bV fun r=>up hs r) fun _=>af (hp _ _ _ _) fun r hr=>ah (us hr)
 ·exact af (st _) fun _ _=>ok_eq (fun _=>bV fun r=>up hs r) fun _=>af (m8 N (by omega) (by omega) s3.2.2.1 _ _) fun g hg=>af (aX N (by omega) hg) fun x hx=>af (pk N (by omega) (by omega) hx) fun x hx=>af (aX N (by omega) q64) fun y hy=>af (oP N (by omega) (by omega) (by omega) hy hx) fun _ _=>av (fun _=>bV fun r=>up hs r) fun _=>af (hp _ _ _ _) fun r hr=>ah (us hr)
 ·exact af (Pw N (by omega) (by omega) s3.2.1 q64) fun r hr=>bV fun z=>ah ⟨s1,s2,⟨us s3.1,us hr,(us s3).2.2⟩,(us hs).2.2.2⟩
 ·have hx:G 0 jR (s.2.1,(e.2.2.1,(e.2.2.2.1,(e.2.2.2.2.1,(e.2.2.2.2.2.2.1,(e.2.2.2.2.2.2.2.1,())))))):=⟨s2,he.2.2.1,he.2.2.2.1,he.2.2.2.2.1,q64,he.2.2.2.2.2.2.2.1,trivial⟩
  exact af (PC N hN h2 (by omega) K6 s3 hx) fun r hr=>ah ⟨s1,dS _,hr,JP.2.2.2⟩
 ·exact af (PX N (by omega) (by omega) hs _) fun _ _=>bx (fun _=>bV fun r=>up hs r) fun _=>af (Mt N (by omega) (by omega) s3.2.2.2.2.2.1 _ _) fun r hr=>bV fun z=>ah ⟨s1,s2,⟨us s3.1,us s3.2.1,us s3.2.2.1,us s3.2.2.2.1,us s3.2.2.2.2.1,us hr,trivial⟩,(us hs).2.2.2⟩
 ·exact af (F6 N hN c h2 (by omega) s3 _ he.2.2.2.2.2.2.2.1) fun r ⟨HO,DW⟩=>ok_eq (fun _=>bt (fun _=>af (PE N (by omega) h2 (by omega) PV DW) fun g hg=>bV fun z=>ah ⟨s1,s2,us HO,⟨k1,k2,k3,k4,us k5,us k6,us k7,us k8,us k9,us hg,trivial⟩,us s5⟩) fun _=>bV fun z=>ah ⟨s1,s2,us HO,(us hs).2.2.2⟩) fun _=>bV fun z=>ah ⟨s1,s2,us HO,(us hs).2.2.2⟩
 ·exact af (z1 N (by omega) s1 q64) fun t ht=>bx (fun _=>bV fun r=>up hs r) fun _=>ah ⟨ht,(us hs).2⟩
theorem Tb(N:Nat)(hN:5000000≤N){c:aa}{s:aE}{e:fK}{m:Nat}(h2:200≤m)(hm:m≤999)(hc:G 5 an c)(hs:GS m s)(he:G 0 mI e):Ok (SR (m+1)) (Tc N c s e):=by
 have bp: ∀r:cE,Ok (SR (m+1)) (some (s,r)):=fun r=>ah (P:=SR (m+1)) (G.mono (awd m) hs)
 unfold Tc
 exact bE (m0 N (by omega) c) (bx (fun _=>bp _) fun _=>af (Mr N (by omega) e) fun _ _=>bx (fun _=>bp _) fun _=>af (S9 N hN h2 hm hc hs he) fun r hr=>bt (fun _=>bp _) fun _=>ah hr)
theorem ZV(N:Nat)(hN:5000000≤N){c:aa}{l:fW}{m:Nat}(hm:m≤700)(hc:G 5 an c)(hl:Nb m l):Ok (fun r=>GS 900 r.1) (z2 N c l):=by
 have K8:=hl.1
 unfold z2 z2.b ZW
 have hb:Ok (fun r:aE×Int=>GS 5 r.1) ((gH N c).bind fun r1=>cond (!aA r1.2 0) (some (Ty.zero bJ,r1.2)) (some (((0:Int),((1:Int),(r1.1,(Ty.zero lC,(Ty.zero eg,()))))),(0:Int)))):=af (I7 N (by omega) hc) fun b hb=>bt (fun _=>ah (G.zero 5 bJ)) fun _=>ah ⟨aU,(show aD 1 from aV),hb,G.zero 5 lC,G.zero 5 eg,trivial⟩
 refine af hb fun b hb=>bt (fun _=>ah (G.zero 900 bJ)) fun _=>bc (len:=l.length) (F:=fun n i (z:aE×aj)=>z2.l6 N n l c (Ty.zero bJ) z.1 z.2 i) (s:=(_,_)) (fun i z=>GS (200+i) z.1∧z.2.length≤i) ⟨G.mono (by omega) hb,auu _⟩ (by omega) (fun n i z hi hI hr=> ?_) (fun n z hI=> ?_)
 all_goals unfold z2.l6 z2.oX
 ·obtain⟨h1,h2⟩:=hI
  rw[ar (x:=(i:Int)+1) (by omega) (by omega),ae i]
  have hx:G 0 mI (l.getD (i:Int).toNat zz8):=G.at hl _
  exact av (fun _=>au ⟨by omega,by omega⟩ (af (Tb N hN (by omega) (by omega) hc h1 hx) fun r QI=>aG (by rw[List.length_singleton];omega) (hr (r.1,z.2++[r.2]) ⟨QI,by dsimp only;rw[List.length_append,List.length_singleton];omega⟩))) fun _=>by omega
 ·exact av (fun _=>by omega) fun _=>ah (G.mono (by omega) hI.1)
theorem Jf(N:Nat)(hN:5000000≤N){d:aJ}{c:aa}(h:Dk 1000 d)(hc:Cf c){F1:Int}(hm:0≤F1∧F1≤100):Ok (fun r=>GS 900 r.1∧Dk 100000 r.2) (F28 N d c F1):=by
 unfold F28
 refine af (Mo N (by omega) h hc hm (by omega)) fun l ⟨hl,hd⟩=>af (gG N (by decide) hd) fun v ⟨hv,hd⟩=> ?_
 have K8:=hl.1
 have e1: ∀(k:Int) {x:Int},aD k→aD x→G 0 mI (k,(x,eD)):=fun k x hk hx=>xM hk hx aU aU aU aU aU aU
 have i11:aD 11:=aV
 have i13:aD 13:=aV
 have i10:aD 10:=aV
 have i15:aD 15:=aV
 have i2:aD 2:=aV
 dsimp only
 have h4:=G.cat hl (G.two (m:=2) (e1 11 i11 (dS (1+v.1))) (e1 13 i13 (dS (1+v.1))) (atP 2))
 have h4l:=h4.1
 refine aG (by rw[sv];omega) (af (F2 N (by omega) hd hc (by omega)) fun n1 ⟨hn1,hd⟩=> ?_)
 have h5:=G.cat h4 hn1
 have h5l:=h5.1
 have aky:=hn1.1
 refine aG (by omega) (aG (by rw[sv];omega) (af (F2 N (by omega) hd hc (by omega)) fun n2 ⟨hn2,hd⟩=> ?_))
 have h6:=G.cat h5 (G.two (m:=2) (xM i10 aU aU aU aU aU i2 aU) (e1 15 i15 aU) (atP 2))
 have h6l:=h6.1
 have akz:=hn2.1
 exact aG (by simp only[atJ,atN,aua]at h4l h5l h6l aky akz ⊢;omega) (af (ZV N hN (by omega) hc.g (G.cat h6 hn2)) fun r hr=>ah ⟨hr,Dk.mono hd (by omega)⟩)
end VM
end
section
namespace VM
open Go VM.F Go.RowKit
theorem Td{l:List Int}(h:WF (.slice (.int .u64)) l):Dk 0 ((l,((0:Int),())):aJ):=⟨fun x hx=>by
 obtain⟨i,hi,rfl⟩:=auD hx
 have h3:0≤l[i]∧l[i]≤18446744073709551615:=wf_u64.1 (h.2 i hi)
 exact⟨h3.1,awc h3.2 (by decide)⟩,au2 0,au2 0⟩
theorem G4m{m:Nat}{x:bn}{q:Int}(h:G m cN x)(hq:aD q):G m cN (x.1,(x.2.1,(q,x.2.2.2))):=⟨h.1,h.2.1,hq,h.2.2.2⟩
structure XH(c:aa)(s:aE)(L:az)(l:ay):Prop where
 c:G 5 an c
 s:GS 900 s
 L:LL 900 L
 l:G 900 (.slice cN) l
theorem P0(N:Nat)(hN:5000000≤N){d:aJ}(h:Dk 0 d):Ok (fun r=>XH r.1 r.2.1 r.2.2.1 r.2.2.2.1) (nN N d):=by
 unfold nN nN.b
 refine af (Mm N (by omega) h) fun c ⟨⟨hc,Ey⟩,hd⟩=>af (Jf N hN hd ⟨hc,Ey⟩ (by omega)) fun s ⟨hs,hd⟩=>af (KE N hN (m:=900) (by omega) (by omega) (G.mono (by omega) hc) hs.2.2.1 hs.2.1) fun L hL=> ?_
 have hLl:=hL.1
 refine bc (len:=L.1.length) (F:=fun n i (z:aJ×az×ay)=>nN.l6 N n z.1 (cj,eD) (Ty.zero bJ) c.1 s.1 z.2.1 z.2.2 i) (s:=(_,(_,_))) (fun i z=>Dk (100000+9*i) z.1∧(z.2.1.length=L.1.length∧LL 900 z.2.1)∧G 40 (.slice cN) z.2.2) ⟨hd,⟨rfl,hL⟩,G.nil⟩ (by omega) (fun n i z hi hI hr=> ?_) (fun n z hI=> ?_)
 all_goals unfold nN.l6 nN.oX
 ·obtain⟨hd,⟨h1,h2⟩,h3⟩:=hI
  refine av (fun _=> ?_) fun _=>by omega
  have fin: ∀(d:aJ) (l:ay),Dk (100000+9*i+8) d→G 40 (.slice cN) l→Ok (fun r=>XH r.1 r.2.1 r.2.2.1 r.2.2.2.1) ((I2 N d 12).bind fun lD=>cond (lD.1) (cond (aM (i:Int) z.2.1.length) (nN.l6 N n lD.2 (cj,eD) (Ty.zero bJ) c.1 s.1 (List.set z.2.1 (i:Int).toNat ((z.2.1.getD (i:Int).toNat ((0:Int),(aS,aC))).1,((z.2.1.getD (i:Int).toNat ((0:Int),(aS,aC))).2.1,((z.2.1.getD (i:Int).toNat ((0:Int),(aS,aC))).2.2.1,((3:Int),(z.2.1.getD (i:Int).toNat ((0:Int),(aS,aC))).2.2.2.2))))) l (W .i64 ((i:Int)+1))) none) (nN.l6 N n lD.2 (cj,eD) (Ty.zero bJ) c.1 s.1 z.2.1 l (W .i64 ((i:Int)+1)))):=fun d l hd hl=>by
   rw[ar (x:=(i:Int)+1) (by omega) (by omega),ae i]
   have hx:G 900 dF (z.2.1.getD (i:Int).toNat ((0:Int),(aS,aC))):=G.at h2 _
   exact af (oS N (by decide) hd (by unfold m9;omega)) fun r hd=>oO (fun _=>au ⟨by omega,by omega⟩ (hr (r.2,(_,l)) ⟨Dk.mono hd (by omega),⟨by dsimp only;rw[List.length_set];exact h1,G.set h2 (GL hx.1 hx.2.1 hx.2.2.1 (show aD 3 from aV) hx.2.2.2.2.1 hx.2.2.2.2.2.1) _⟩,hl⟩)) fun _=>hr (r.2,(z.2.1,l)) ⟨Dk.mono hd (by omega),⟨h1,h2⟩,hl⟩
  refine gU (len:=5) (F:=fun n' j (y:aJ×ay)=>nN.l9 N (nN.l6 N n) n' y.1 (cj,eD) (Ty.zero bJ) c.1 s.1 z.2.1 y.2 (i:Int) j) (fun j y=>1≤j∧Dk (100000+9*i+2*(j-1)) y.1∧G 40 (.slice cN) y.2) (fun n' j y hj hJ dU=> ?_) (fun n' y hJ=> ?_) 5 N 1 (z.1,z.2.2) (by omega) (by omega) (by omega) ⟨atP 1,Dk.mono hd (by omega),h3⟩
  all_goals unfold nN.l9 nN.s0
  ·obtain⟨hj1,hd,hl⟩:=hJ
   refine c5 (fun _=>av (fun _=>af (oS N (by decide) hd (by unfold m9;omega)) fun r hd=> ?_) fun _=>fin _ _ (Dk.mono hd (by omega)) hl) fun _=>by omega
   dsimp only
   rw[ar (x:=(j:Int)+1) (by omega) (by omega),ae j]
   have hx:=(G.at h2 (i:Int).toNat).1
   refine bx (fun _=>au ⟨by omega,by omega⟩ (af (gG N (by decide) hd (by unfold m9;omega)) fun v ⟨_,hd⟩=>aG (by rw[List.length_singleton];omega) (dU (v.2,y.2++[(W .i64 (100+(y.2.length:Int)),((z.2.1.getD (i:Int).toNat ((0:Int),(aS,aC))).1,((j:Int),(W .i64 (v.1-6),()))))]) ⟨by omega,Dk.mono hd (by omega),by dsimp only;rw[List.length_append,List.length_singleton];omega,fun u hu=> ?_⟩))) fun _=>dU (r.2,y.2) ⟨by omega,Dk.mono hd (by omega),hl⟩
   rcases atU.1 hu with hu|hu
   ·exact hl.2 u hu
   ·rw[at2.1 hu];exact⟨dS _,hx,(show aD (j:Int)from fH (by omega) (by omega)),dS _,trivial⟩
  ·exact c5 (fun _=>by omega) fun _=>fin _ _ (Dk.mono hJ.2.1 (by omega)) hJ.2.2
 ·obtain⟨hd,⟨h1,h2⟩,h3⟩:=hI
  have hb:G 900 (.slice cN) z.2.2:=G.mono (by decide) h3
  refine av (fun _=>by omega) fun _=>av (fun _=>af (oS N (by decide) hd (by unfold m9;omega)) fun r _=>oO (fun _=>au ⟨by omega,by omega⟩ (ah ⟨hc,hs,h2,?_⟩)) fun _=>ah ⟨hc,hs,h2,hb⟩) fun _=>ah ⟨hc,hs,h2,hb⟩
  have hx:=G.at hb (0:Int).toNat
  exact G.set hb (G4m hx (show aD 9 from aV)) _
theorem Te{m:Nat}(hm:m≤50000){L:az}(h:LL m L):zz L:=⟨fun x hx=>aut (h.2 x hx).2.1.1 (by omega),fun x hx y hy=>((h.2 x hx).2.1.2 y hy).2.1⟩
namespace Pure
end Pure
end VM
end
section
namespace VM
open Go VM.F Go.RowKit
theorem Jg{α:Type}{l:List α}{d:α}{i:Nat}(h:i<l.length):l.getD i d∈l:=by
 rw[atD,atI h];exact aun h
def dX(l:ay)(x:cq):cq:=if x.2.2.2.1=1 then(if(cr l x.1).2=true then BY x (cr l x.1).1.2.2.1 (cr l x.1).1.2.2.2.1 else OY x)else x
theorem KH{b:ag}{l:ay}: ∀{t:az} {z r:Kp},IL b l t z=some r→r.2.2=z.2.2++t.map (dX l)
 |[],z,r,h=>by
  have:z=r:=avd h
  rw[this,avl,auh]
 |x::t,z,r,h=>by
  rw[zw]at h
  have fin: ∀{y:cq} {s e:aj},y=dX l x→IL b l t (s,e,z.2.2++[y])=some r→r.2.2=z.2.2++(x::t).map (dX l):=fun ey h=>by
   rw[KH h,at7,ey,atV];rfl
  by_cases h1:x.2.2.2.1=1
  ·rw[atK h1]at h
   by_cases h2:(cr l x.1).2=true
   ·rw[atK h2]at h
    by_cases h3:eN b.1 (cr l x.1).1.2.2.1=0∨c6 b.2.1 (cr l x.1).1.2.2.1=0
    ·rw[atK h3]at h;exact absurd h (by simp)
    ·rw[atL h3]at h
     exact fin (by unfold dX;rw[atK h1,atK h2]) h
   ·rw[atL h2]at h
    exact fin (by unfold dX;rw[atK h1,atL h2]) h
  ·rw[atL h1]at h
   exact fin (by unfold dX;rw[atL h1]) h
theorem F9(c:aa)(b:ag)(a7:az)(l:ay):
  ((ou c b a7 l).2.2≠0∧(ou c b a7 l).2.1=[]∧(ou c b a7 l).1.2.2.2.2.1=[])∨(cV c b=true∧iQ c a7=true∧lN l=true∧ ∃r,IL b l a7 ([],[],[])=some r∧(dM b r.1 r.2.1).2=0∧ou c b a7 l=((dM b r.1 r.2.1).1,(a7.map (dX l),0))):=by
 unfold ou
 by_cases hB:cV c b=true
 ·rw[atK hB]
  by_cases hL:iQ c a7=true
  ·rw[atK hL]
   by_cases hb:lN l=true
   ·rw[atK hb]
    cases hr:IL b l a7 ([],[],[])with
    |none=>exact .inl ⟨(by decide:(3:Int)≠0),rfl,rfl⟩
    |some r=>
     unfold FB
     by_cases hm:(dM b r.1 r.2.1).2=0
     ·refine .inr ⟨hB,hL,hb,r,rfl,hm,?_⟩
      have:=KH hr
      rw[aug]at this
      dsimp only
      rw[atK (show fa (dM b r.1 r.2.1).2 0 from hm),this]
     ·dsimp only
      rw[atL (show ¬fa (dM b r.1 r.2.1).2 0 from hm)]
      exact .inl ⟨hm,rfl,rfl⟩
   ·rw[atL hb];exact .inl ⟨by decide,rfl,rfl⟩
  ·rw[atL hL];exact .inl ⟨by decide,rfl,rfl⟩
 ·rw[atL hB];exact .inl ⟨by decide,rfl,rfl⟩
theorem z5(l:ay)(x:cq):(dX l x).1=x.1∧(dX l x).2.1=x.2.1∧(dX l x).2.2.1=x.2.2.1:=by
 unfold dX
 split
 ·split<;>exact⟨rfl,rfl,rfl⟩
 ·exact⟨rfl,rfl,rfl⟩
namespace Pure
end Pure
end VM
end
section
namespace VM
open Go VM.F Go.RowKit
theorem lE{P:Int→Prop} [DecidablePred P]{f:Int→Int→Int}: ∀{K:List bY} {o:aj},ew P f K=some o→(o.map keyOf).Sublist K∧(∀x∈o,eO x=f x.1 x.2.1∧eO x≠0∧P (eO x))∧(∀k∈K,P (f k.1 k.2))∧ ∀a b,gb a b o=if(a,b)∈K then f a b else 0
 |[],o,h=>by
  have e:[]=o:=avd h
  subst e
  exact⟨List.Sublist.refl _,fun x hx=>(nomatch hx),fun k hk=>(nomatch hk),fun a b=>by rw[atL (fun h=>nomatch h)];rfl⟩
 |k::t,o,h=>by
  rw[jc]at h
  by_cases hp:P (f k.1 k.2)
  ·rw[atK hp]at h
   cases ho:ew P f t with
   |none=>rw[ho]at h;exact nomatch h
   |some o'=>
    rw[ho]at h
    have e:(if f k.1 k.2=0 then o' else(k.1,(k.2,(f k.1 k.2,())))::o')=o:=avd h
    obtain⟨s,g,gp,gf⟩:=lE ho
    have jw: ∀k'∈k::t,P (f k'.1 k'.2):=fun k' hk=>by
     rcases atZ.1 hk with rfl|hk
     ·exact hp
     ·exact gp k' hk
    by_cases h0:f k.1 k.2=0
    ·rw[atK h0]at e
     subst e
     refine⟨s.cons _,g,jw,fun a b=> ?_⟩
     rw[gf a b]
     by_cases hk:(a,b)=k
     ·subst hk
      rw[atK (atS ..)]
      dsimp only at h0
      rw[h0];split<;>rfl
     ·by_cases ht:(a,b)∈t
      ·rw[atK ht,atK (atM _ ht)]
      ·rw[atL ht,atL (fun h=>(atZ.1 h).elim hk ht)]
    ·rw[atL h0]at e
     subst e
     refine⟨s.cons_cons _,fun x hx=> ?_,jw,fun a b=> ?_⟩
     ·rcases atZ.1 hx with rfl|hx
      ·exact⟨rfl,h0,hp⟩
      ·exact g x hx
     ·rw[gT]
      dsimp only
      rw[gf a b]
      by_cases h1:k.1=a
      ·by_cases h2:k.2=b
       ·have hk:(a,b)=k:=by rw[←h1,←h2]
        rw[atK h1,atK h2,atK (by rw[hk];exact atS ..),h1,h2]
       ·have hk:(a,b)≠k:=fun e=>h2 (by rw[←e])
        rw[atK h1,atL h2]
        by_cases ht:(a,b)∈t
        ·rw[atK ht,atK (atM _ ht)]
        ·rw[atL ht,atL (fun h=>(atZ.1 h).elim hk ht)]
      ·have hk:(a,b)≠k:=fun e=>h1 (by rw[←e])
       rw[atL h1]
       by_cases ht:(a,b)∈t
       ·rw[atK ht,atK (atM _ ht)]
       ·rw[atL ht,atL (fun h=>(atZ.1 h).elim hk ht)]
  ·rw[atL hp]at h;exact nomatch h
theorem P1{l:aj}(hs:sN (l.map keyOf)){j:Nat}(hj:j<l.length)(h0:0<j):qN (keyOf (l.getD (j-1) aZ)) (keyOf (l.getD j aZ)):=by
 have:=av1.1 (awK.1 hs) (j-1) j (by omega) hj (by omega)
 rw[atD,atD,atI hj,atI (show j-1<l.length by omega)]
 exact this
theorem Jh{l:aj}(hs:sN (l.map keyOf))(h: ∀x∈l,bN x.1 x.2.1∧eO x≠0∧uc (eO x)):cP l=true:=by
 unfold cP
 rw[au8]
 refine at1 fun j hj=> ?_
 obtain⟨a,b,c⟩:=h _ (Jg (d:=aZ) hj)
 exact⟨a,b,c,fun h0=>P1 hs hj h0⟩
theorem MJ{l:aj}(hs:sN (l.map keyOf))(h: ∀x∈l,dA x.1 x.2.1∧eO x≠0):ed l=true:=by
 unfold ed
 rw[au8]
 refine at1 fun j hj=> ?_
 obtain⟨a,b⟩:=h _ (Jg (d:=aZ) hj)
 exact⟨a,b,fun h0=>P1 hs hj h0⟩
theorem nw{a b:Int}:(a,b)∈jG↔bN a b:=by
 unfold jG bN
 rw[jd];dsimp only;omega
theorem Ji(b:ag)(s e:aj):((dM b s e).2=2∧(dM b s e).1=(aS,(cj,(ba,(ba,(cI,(cL,())))))))∨ ∃s' r',ew Fq (fS b.2.2.2.1 s) jG=some s'∧ew aD (fS b.2.2.1 e) jW=some r'∧dM b s e=((b.1,(b.2.1,(r',(s',b.2.2.2.2)))),0):=by
 unfold dM
 cases h1:ew Fq (fS b.2.2.2.1 s) jG with
 |none=>exact .inl ⟨rfl,rfl⟩
 |some s'=>
  cases h2:ew aD (fS b.2.2.1 e) jW with
  |none=>exact .inl ⟨rfl,rfl⟩
  |some r'=>exact .inr ⟨s',r',rfl,rfl,rfl⟩
theorem z6{l E o:aj}(hs:cP l=true)(h:ew Fq (fS l E) jG=some o):cP o=true∧(∀a b,bN a b→dR o a b=dR l a b+bT a b E∧Fq (dR o a b)):=by
 obtain⟨h1,h2,h3,h4⟩:=lE h
 have HR:sN (o.map keyOf):=avR h1 (kt 6 25 0)
 have ho:cP o=true:=Jh HR fun x hx=>by
  have hk:(x.1,x.2.1)∈jG:=h1.subset (auC (f:=keyOf) hx)
  obtain⟨_,g1,g2⟩:=h2 x hx
  exact⟨nw.1 hk,g1,g2.2⟩
 refine⟨ho,fun a b hp=> ?_⟩
 have e:dR o a b=fS l E a b:=by
  unfold dR
  rw[ho,atK rfl,h4 a b,atK (nw.2 hp)]
 refine⟨?_,by rw[e];exact h3 _ (nw.2 hp)⟩
 rw[e]
 unfold fS dR
 rw[hs,atK rfl,pj (gD hs).1]
theorem yq{a b:Int}{l:aj}(h:bT a b l≠0): ∃x∈l,x.1=a∧x.2.1=b:=
 awI fun hn=>h (m1 fun x hx e=>hn ⟨x,hx,e⟩)
theorem KI{l E o:aj}(hs:ed l=true)(hE: ∀x∈E,dA x.1 x.2.1)(h:ew aD (fS l E) jW=some o):ed o=true∧(∀a b,dA a b→c0 o a b=c0 l a b+bT a b E∧aD (c0 o a b)):=by
 obtain⟨h1,h2,h3,h4⟩:=lE h
 obtain⟨hl,oK⟩:=m3 hs
 have HR:sN (o.map keyOf):=avR h1 (kt 25 7 1)
 have ho:ed o=true:=MJ HR fun x hx=>by
  obtain⟨g0,g1,g2⟩:=h2 x hx
  refine⟨?_,g1⟩
  rw[g0]at g1
  unfold fS at g1
  by_cases hz:bT x.1 x.2.1 l=0
  ·rw[hz,avm]at g1
   obtain⟨y,hy,e1,e2⟩:=yq g1
   rw[←e1,←e2];exact hE y hy
  ·obtain⟨y,hy,e1,e2⟩:=yq hz
   rw[←e1,←e2];exact oK y hy
 refine⟨ho,fun a b hk=> ?_⟩
 have hg:(a,b)∈jW:=by
  unfold jW
  rw[jd]
  unfold dA at hk
  dsimp only;omega
 have e:c0 o a b=fS l E a b:=by
  unfold c0
  rw[ho,atK rfl,h4 a b,atK hg]
 refine⟨?_,by rw[e];exact h3 _ hg⟩
 rw[e]
 unfold fS c0
 rw[hs,atK rfl,pj hl]
end VM
end
section
namespace VM
open Go VM.F Go.RowKit
namespace Pure
end Pure
end VM
end
section
namespace VM
open Go VM.F Go.RowKit
namespace Pure
end Pure
end VM
end
section
namespace VM
open Go VM.F Go.RowKit
def Bj(p:bY→Bool):aj→Int
 |[]=>0
 |x::t=>(if p (keyOf x)=true then eO x else 0)+Bj p t
def z7(p:bY→Bool)(f:Int→Int→Int):List bY→Int
 |[]=>0
 |k::t=>(if p k=true then f k.1 k.2 else 0)+z7 p f t
theorem wg(p:bY→Bool)(x:cE)(t:aj):Bj p (x::t)=(if p (keyOf x)=true then eO x else 0)+Bj p t:=rfl
theorem mJ(p:bY→Bool)(f:Int→Int→Int)(k:bY)(t:List bY):z7 p f (k::t)=(if p k=true then f k.1 k.2 else 0)+z7 p f t:=rfl
theorem Cl{P:Int→Prop} [DecidablePred P]{f:Int→Int→Int}(p:bY→Bool): ∀{K:List bY} {o:aj},ew P f K=some o→Bj p o=z7 p f K
 |[],o,h=>by
  have e:[]=o:=avd h
  subst e;rfl
 |k::t,o,h=>by
  rw[jc]at h
  by_cases hp:P (f k.1 k.2)
  ·rw[atK hp]at h
   cases ho:ew P f t with
   |none=>rw[ho]at h;exact nomatch h
   |some o'=>
    rw[ho]at h
    have e:(if f k.1 k.2=0 then o' else(k.1,(k.2,(f k.1 k.2,())))::o')=o:=avd h
    rw[mJ,←Cl p ho]
    by_cases h0:f k.1 k.2=0
    ·rw[atK h0]at e
     rw[←e,h0]
     split<;>omega
    ·rw[atL h0]at e
     rw[←e];rfl
  ·rw[atL hp]at h;exact nomatch h
theorem z8(p:bY→Bool)(f g:Int→Int→Int): ∀K:List bY,z7 p (fun a b=>f a b+g a b) K=z7 p f K+z7 p g K
 |[]=>rfl
 |k::t=>by
  rw[mJ,mJ,mJ,z8 p f g t]
  split<;>omega
theorem wh{p:bY→Bool}{f:Int→Int→Int}: ∀{K:List bY},(∀k∈K,f k.1 k.2=0)→z7 p f K=0
 |[],_=>rfl
 |k::t,h=>by
  rw[mJ,h k (atS ..),wh fun x hx=>h x (atM _ hx)]
  split<;>rfl
theorem Ga(p:bY→Bool)(k:bY)(v:Int): ∀{K:List bY},sN K→k∈K→z7 p (fun a b=>if k.1=a∧k.2=b then v else 0) K=if p k=true then v else 0
 |[],_,h=>nomatch h
 |x::t,hs,h=>by
  obtain⟨h1,h2⟩:=auz.1 hs
  rw[mJ]
  by_cases e:k=x
  ·subst e
   have hz:z7 p (fun a b=>if k.1=a∧k.2=b then v else 0) t=0:=wh fun y hy=>atL fun e=>by
    have:=h1 y hy
    rw[show y=k from awC e.1.symm e.2.symm]at this
    exact pZ this
   rw[atK (show k.1=k.1∧k.2=k.2 from⟨rfl,rfl⟩),hz,auK]
  ·rw[atL (show ¬(k.1=x.1∧k.2=x.2)from fun h=>e (awC h.1 h.2)),Ga p k v h2 ((atZ.1 h).elim (fun h=>absurd h e) id)]
   split<;>omega
theorem Aa(p:bY→Bool){K:List bY}(hs:sN K): ∀{l:aj},(∀x∈l,keyOf x∈K)→z7 p (fun a b=>bT a b l) K=Bj p l
 |[],_=>wh fun _ _=>rfl
 |x::t,h=>by
  have e:(fun a b=>bT a b (x::t))=fun a b=>(if(keyOf x).1=a∧(keyOf x).2=b then eO x else 0)+bT a b t:=by
   funext a b;exact dQ a b x t
  rw[e,z8,Ga p (keyOf x) (eO x) hs (h x (atS ..)),Aa p hs fun y hy=>h y (atM _ hy),wg]
theorem Ab{P:Int→Prop} [DecidablePred P]{l E o:aj}{K:List bY}(p:bY→Bool)(hs:sN K)(hl: ∀x∈l,keyOf x∈K)(hE: ∀x∈E,keyOf x∈K)(h:ew P (fS l E) K=some o):Bj p o=Bj p l+Bj p E:=by
 rw[Cl p h,←Aa p hs hl,←Aa p hs hE,←z8];rfl
theorem qn: ∀l:aj,Bj (fun _=>true) l=(l.map eO).sum
 |[]=>rfl
 |x::t=>by rw[wg,atK rfl,qn t,at7,aue]
theorem sC(i:Int): ∀l:aj,Bj (fun k=>decide (k.2=i)) l=(dB i l).sum
 |[]=>rfl
 |x::t=>by
  rw[wg,sC i t,eP]
  by_cases e:x.2.1=i
  ·rw[atK (at1 (show(keyOf x).2=i from e)),atK e,aue]
  ·rw[atL (by rw[at6 (show ¬(keyOf x).2=i from e)];exact awa),atL e,avm]
def Ac(m:ax)(a:ay)(k n:Int):Prop:=(fa k 5→(eu a n).2=true)∧(fa k 6∨fa k 7→ ¬fa (eN m n) 0)
def Dz(c:aa)(a:ay)(k n:Int):Prop:=(fa k 0∨(eu a k).2=true)∧LR n c.1.length
theorem Gb{k n:Int}(h:dA k n):(k,n)∈jW:=by
 unfold jW
 rw[jd]
 unfold dA at h
 dsimp only;omega
theorem Ad{l E:aj}{Q:Int→Int→Prop}(hl: ∀x∈l,Q x.1 x.2.1)(hE: ∀x∈E,Q x.1 x.2.1){a b:Int}(h:fS l E a b≠0):Q a b:=by
 unfold fS at h
 by_cases hz:bT a b l=0
 ·rw[hz,avm]at h
  obtain⟨y,hy,e1,e2⟩:=yq h
  rw[←e1,←e2];exact hE y hy
 ·obtain⟨y,hy,e1,e2⟩:=yq hz
  rw[←e1,←e2];exact hl y hy
theorem DA{c:aa}{b:ag}{s e s' r':aj}(hB:cV c b=true)(h1:ew Fq (fS b.2.2.2.1 s) jG=some s')(h2:ew aD (fS b.2.2.1 e) jW=some r')
  (gs: ∀x∈s,bN x.1 x.2.1∧Dz c b.2.1 x.1 x.2.1) (flat: ∀i:Int,(dB i s).sum=0) (ge: ∀x∈e,dA x.1 x.2.1∧Ac b.1 b.2.1 x.1 x.2.1) (zero:(e.map eO).sum=0):
  cV c (b.1,(b.2.1,(r',(s',b.2.2.2.2))))=true:=by
 have hB':=hB
 unfold cV at hB'
 simp only[atW]at hB'
 obtain⟨b1,b2,b3,b4,b5,b6,b7,b8,b9,b10,b11⟩:=hB'
 obtain⟨hr,hs⟩:=mi hB
 obtain⟨o1,_⟩:=z6 hs h1
 obtain⟨o2,_⟩:=KI hr (fun x hx=>(ge x hx).1) h2
 obtain⟨hsl,hsk⟩:=gD hs
 obtain⟨En,hrk⟩:=m3 hr
 have k1: ∀x∈b.2.2.2.1,keyOf x∈jG:=fun x hx=>nw.2 (hsk x hx).1
 have k2: ∀x∈s,keyOf x∈jG:=fun x hx=>nw.2 (gs x hx).1
 have k3: ∀x∈b.2.2.1,keyOf x∈jW:=fun x hx=>Gb (hrk x hx)
 have k4: ∀x∈e,keyOf x∈jW:=fun x hx=>Gb (ge x hx).1
 have hp8:=atY b8
 have hp9:=atY b9
 have q8: ∀x∈b.2.2.1,Ac b.1 b.2.1 x.1 x.2.1:=fun x hx=>by
  obtain⟨i,hi,e⟩:=auD hx
  have:=hp8 i hi
  unfold ga at this
  rw[atD,atI hi,avk,e]at this
  exact this
 have q9: ∀x∈b.2.2.2.1,Dz c b.2.1 x.1 x.2.1:=fun x hx=>by
  obtain⟨i,hi,e⟩:=auD hx
  have:=hp9 i hi
  unfold fG at this
  rw[atD,atI hi,avk,e]at this
  exact this
 have n4:decide (fa (fZ r') 0)=true:=by
  refine at1 ?_
  unfold fZ fa
  rw[o2,atK rfl,←qn,Ab _ (kt 25 7 1) k3 k4 h2,qn,qn,zero,auK]
  have:=atY b4
  unfold fZ fa at this
  rw[hr,atK rfl]at this
  exact this
 have n5:rE s'=true:=by
  unfold rE at b5 ⊢
  obtain⟨f1,_⟩:=auc.1 b5
  rw[o1,au8]
  refine at1 fun j hj=> ?_
  have:=atY f1 j hj
  unfold rD fa sm at this ⊢
  rw[hs,atK rfl]at this
  rw[o1,atK rfl,←sC,Ab _ (kt 6 25 0) k1 k2 h1,sC,sC,flat,auK]
  exact this
 have n8:decide (∀j,j<r'.length→ga b.1 b.2.1 r' j)=true:=at1 fun j hj=>by
  obtain⟨g0,g1,_⟩:=(lE h2).2.1 _ (Jg (d:=aZ) hj)
  rw[g0]at g1
  exact Ad (Q:=Ac b.1 b.2.1) q8 (fun x hx=>(ge x hx).2) g1
 have n9:decide (∀j,j<s'.length→fG c b.2.1 s' j)=true:=at1 fun j hj=>by
  obtain⟨g0,g1,_⟩:=(lE h1).2.1 _ (Jg (d:=aZ) hj)
  rw[g0]at g1
  exact Ad (Q:=Dz c b.2.1) q9 (fun x hx=>(gs x hx).2) g1
 unfold cV
 simp only[atW]
 exact⟨b1,b2,o2,n4,n5,b6,b7,n8,n9,b10,b11⟩
end VM
end
section
namespace VM
open Go VM.F Go.RowKit
def jX(l:ay)(x:cq):Prop:=x.2.2.2.1=1∧(cr l x.1).2=true
instance(l:ay)(x:cq):Decidable (jX l x):=by unfold jX;infer_instance
def P2(l:ay)(x:cq):Int:=(cr l x.1).1.2.2.1
def rQ(l:ay)(x:cq):Int:=(cr l x.1).1.2.2.2.1
def nO(b:ag)(l:ay)(x:cq):Int:=c6 b.2.1 (P2 l x)
def xO(h a i:Int)(y:LH):Int:=if y.1=i then(if a=0 then 0-y.2.1 else if h=a then y.2.1 else 0)else 0
def tT(h a i:Int)(t:ax):Int:=(t.map (xO h a i)).sum
def Bk(b:ag)(l:ay)(a i:Int)(x:cq):Int:=if jX l x then tT (nO b l x) a i x.2.1 else 0
def nx(b:ag)(l:ay)(a:Int)(x:cq):Int:=if jX l x∧nO b l x=a then rQ l x else 0
def Ae(b:ag)(l:ay)(a:Int)(x:cq):Int:=if jX l x∧nO b l x<a then rQ l x else 0
def MK(l:ay)(x:cq):Int:=if jX l x then rQ l x else 0
theorem afg{h a i n v:Int}(h0:h≠0):(if(0:Int)=a∧n=i then 0-v else 0)+(if h=a∧n=i then v else 0)=if n=i then(if a=0 then 0-v else if h=a then v else 0)else 0:=by
 by_cases e1:n=i
 ·by_cases e2:a=0
  ·rw[atK ⟨e2.symm,e1⟩,atL (fun e=>h0 (e.1.trans e2)),atK e1,atK e2];omega
  ·rw[atL (fun e=>e2 e.1.symm),atK e1,atL e2]
   by_cases e3:h=a
   ·rw[atK ⟨e3,e1⟩,atK e3];omega
   ·rw[atL (fun e=>e3 e.1),atL e3];omega
 ·rw[atL (fun e=>e1 e.2),atL (fun e=>e1 e.2),atL e1];rfl
theorem Gc{h:Int}(h0:h≠0)(a i:Int): ∀t:ax,bT a i (dN h t)=tT h a i t
 |[]=>rfl
 |y::t=>by
  rw[gE,dQ,dQ,Gc h0 a i t]
  unfold tT
  rw[at7,aue,←avu]
  exact avh (· +_) (afg h0)
theorem Af{a:ay}{id:Int}(h:c6 a id≠0):(eu a (c6 a id)).2=true:=by
 unfold c6 eu at*
 by_cases hA:g8 a=true
 ·rw[atK hA]at h ⊢
  rw[atK hA]
  rcases tK id a with e|⟨x,hx,e⟩
  ·exact absurd e h
  ·have key: ∀{l:ay} {v:Int},(∃x∈l,x.1=v)→(s6 v l).2=true:=by
    intro l v
    induction l with
    |nil=>intro ⟨x,hx,_⟩;exact nomatch hx
    |cons y t ih=>
     intro ⟨x,hx,e⟩
     rw[pW]
     by_cases e':y.1=v
     ·rw[atK e']
     ·rw[atL e']
      rcases atZ.1 hx with rfl|hx
      ·exact absurd e e'
      ·exact ih ⟨x,hx,e⟩
   exact key ⟨x,hx,e⟩
 ·rw[atL hA]at h;exact absurd rfl h
def ZX(c:aa)(b:ag)(z:Kp):Prop:=(∀x∈z.1,Dz c b.2.1 x.1 x.2.1)∧ ∀x∈z.2.1,Ac b.1 b.2.1 x.1 x.2.1
structure P3(c:aa)(b:ag)(l:ay)(t:az)(n:Nat)(z r:Kp):Prop where
 Cm: ∀x∈t,jX l x→nO b l x≠0
 P4: ∀a i:Int,bT a i r.1=bT a i z.1+(t.map (Bk b l a i)).sum
 Jj: ∀a:Int,bT 5 a r.2.1=bT 5 a z.2.1-(t.map (nx b l a)).sum
 ML:bT 2 0 r.2.1=bT 2 0 z.2.1+(t.map (MK l)).sum
 inv:ll r (n+t.length)
 bp:ZX c b r
theorem Gd{h p a:Int}:bT 5 a (xL h p)=0-(if h=a then p else 0)∧bT 2 0 (xL h p)=p:=by
 unfold xL
 constructor
 ·rw[dQ,dQ]
  show(if(5:Int)=5∧h=a then 0-p else 0)+((if(2:Int)=5∧(0:Int)=a then p else 0)+0)=_
  rw[atL (show ¬((2:Int)=5∧(0:Int)=a)from fun e=>absurd e.1 (by decide))]
  by_cases e:h=a
  ·rw[atK ⟨rfl,e⟩,atK e];omega
  ·rw[atL (fun h=>e h.2),atL e];rfl
 ·rw[dQ,dQ]
  show(if(5:Int)=2∧h=0 then 0-p else 0)+((if(2:Int)=2∧(0:Int)=0 then p else 0)+0)=_
  rw[atL (show ¬((5:Int)=2∧h=0)from fun e=>absurd e.1 (by decide)),atK ⟨rfl,rfl⟩];omega
theorem KJ{m:ax}{a:ay}{k n:Int}(h:k=5∧(eu a n).2=true∨k=2):Ac m a k n:=by
 rcases h with⟨rfl,h⟩|rfl
 ·exact⟨fun _=>h,fun h=>by unfold fa at h;omega⟩
 ·exact⟨fun h=>by unfold fa at h;omega,fun h=>by unfold fa at h;omega⟩
theorem tU{c:aa}{b:ag}{l:ay}: ∀{t:az} {n:Nat} {z r:Kp},(∀x∈t,ir x.2.1∧ ∀y∈x.2.1,(y.1:Int)<(c.1.length:Int))→ll z n→ZX c b z→IL b l t z=some r→P3 c b l t n z r
 |[],n,z,r,_,I,hk,h=>by
  have e:z=r:=avd h
  subst e
  exact⟨fun x hx=>(nomatch hx),fun a i=>(auK _).symm,fun a=>(awp _).symm,(auK _).symm,I,hk⟩
 |x::t,n,z,r,hg,I,hk,h=>by
  rw[zw]at h
  have Yu: ∀x∈t,ir x.2.1∧ ∀y∈x.2.1,(y.1:Int)<(c.1.length:Int):=fun y hy=>hg y (atM _ hy)
  have e1:n+1+t.length=n+(x::t).length:=by rw[atN];omega
  have pass: ∀y:cq,¬jX l x→IL b l t (z.1,z.2.1,z.2.2++[y])=some r→P3 c b l (x::t) n z r:=fun y hs h=>by
   have B:=tU Yu (I.pass y) hk h
   have c1: ∀a i,Bk b l a i x=0:=fun a i=>atL hs
   have c2: ∀a,nx b l a x=0:=fun a=>atL fun e=>hs e.1
   have c3:MK l x=0:=atL hs
   refine⟨fun y hy=> ?_,fun a i=> ?_,fun a=> ?_,?_,e1▸B.inv,B.bp⟩
   ·rcases atZ.1 hy with rfl|hy
    ·exact fun e=>absurd e hs
    ·exact B.Cm y hy
   ·rw[at7,aue,c1,avm];exact B.P4 a i
   ·rw[at7,aue,c2,avm];exact B.Jj a
   ·rw[at7,aue,c3,avm];exact B.ML
  by_cases h1:x.2.2.2.1=1
  ·rw[atK h1]at h
   by_cases h2:(cr l x.1).2=true
   ·rw[atK h2]at h
    by_cases h3:eN b.1 (cr l x.1).1.2.2.1=0∨c6 b.2.1 (cr l x.1).1.2.2.1=0
    ·rw[atK h3]at h;exact absurd h (by simp)
    ·rw[atL h3]at h
     have hs:jX l x:=⟨h1,h2⟩
     have hh:nO b l x≠0:=fun e=>h3 (.inr e)
     have hr:=zx hh
     obtain⟨gx,gi⟩:=hg x (atS ..)
     have B:=tU Yu (I.aeP (h:=nO b l x) (p:=rQ l x) hr (Dc h2).2.2.2 gx (BY x (P2 l x) (rQ l x))) (show ZX c b (z.1++dN (nO b l x) x.2.1,z.2.1++xL (nO b l x) (rQ l x),z.2.2++[BY x (P2 l x) (rQ l x)])from⟨fun y hy=>by
      rcases atU.1 hy with hy|hy
      ·exact hk.1 y hy
      ·obtain⟨u,hu,e|e⟩:=yj hy
       ·rw[e];exact⟨.inl rfl,gi u hu⟩
       ·rw[e];exact⟨.inr (Af hh),gi u hu⟩,fun y hy=>by
      rcases atU.1 hy with hy|hy
      ·exact hk.2 y hy
      ·rcases atZ.1 hy with e|hy
       ·rw[e];exact KJ (.inl ⟨rfl,Af hh⟩)
       ·rw[at2.1 hy];exact KJ (.inr rfl)⟩) h
     have c1: ∀a i,Bk b l a i x=tT (nO b l x) a i x.2.1:=fun a i=>atK hs
     have c2: ∀a,nx b l a x=if nO b l x=a then rQ l x else 0:=fun a=>by
      unfold nx
      by_cases e:nO b l x=a
      ·rw[atK ⟨hs,e⟩,atK e]
      ·rw[atL (fun h=>e h.2),atL e]
     have c3:MK l x=rQ l x:=atK hs
     refine⟨fun y hy=> ?_,fun a i=> ?_,fun a=> ?_,?_,e1▸B.inv,B.bp⟩
     ·rcases atZ.1 hy with rfl|hy
      ·exact fun _=>hh
      ·exact B.Cm y hy
     ·rw[B.P4 a i,p6,Gc hh,at7,aue,c1,avu]
     ·rw[B.Jj a,p6,(Gd (h:=nO b l x) (p:=rQ l x)).1,at7,aue,c2];omega
     ·rw[B.ML,p6,(Gd (h:=nO b l x) (p:=rQ l x) (a:=0)).2,at7,aue,c3,avu]
   ·rw[atL h2]at h
    exact pass _ (fun e=>h2 e.2) h
  ·rw[atL h1]at h
   exact pass _ (fun e=>h1 e.1) h
theorem Cn{c:aa}{a7:az}(h:iQ c a7=true)(w:zz a7): ∀x∈a7,ir x.2.1∧ ∀y∈x.2.1,(y.1:Int)<(c.1.length:Int):=fun x hx=>by
 obtain⟨i,hi,e⟩:=auD hx
 have hg:=B1 h w hi
 have h0:=h
 unfold iQ at h
 have h':=atY (auc.1 (auc.1 (auc.1 h).2).2).1
 have hl:lM c (a7.getD i ((0:Int),(aS,aC))).2.1=true:=(h' i hi).2.2.2.1
 have e':a7.getD i ((0:Int),(aS,aC))=x:=by rw[atD,atI hi];exact e
 rw[e']at hg hl
 refine⟨hg,fun y hy=> ?_⟩
 unfold lM at hl
 have h1:=atY (auc.1 hl).1
 obtain⟨j,hj,ej⟩:=auD hy
 have:=(h1 j hj).2.1
 rw[atD,atI hj,avk,ej]at this
 exact this
theorem P5{k n:Int}(h:1≤k∧k≤7∧0≤n∧n≤24):(k,n)∈jW:=by
 unfold jW
 rw[jd];dsimp only;omega
theorem MM{l E o:aj}(hs:ed l=true)(hE: ∀x∈E,dA x.1 x.2.1)(h:ew aD (fS l E) jW=some o){k n:Int}(hk:1≤k∧k≤7∧0≤n∧n≤24):c0 o k n=c0 l k n+bT k n E∧aD (c0 o k n):=by
 obtain⟨h1,h2,h3,h4⟩:=lE h
 have ho:=(KI hs hE h).1
 have hg:=P5 hk
 have e:c0 o k n=fS l E k n:=by
  unfold c0
  rw[ho,atK rfl,h4 k n,atK hg]
 refine⟨?_,by rw[e];exact h3 _ hg⟩
 rw[e]
 unfold fS c0
 rw[hs,atK rfl,pj (m3 hs).1]
theorem Jk{l:aj}(h:eF l)(a b:Int):aD (c0 l a b):=by
 unfold c0
 split
 ·exact tM h a b
 ·decide
end VM
end
section
namespace VM
open Go VM.F
theorem Tf{l:aj}(h: ∀x∈l,aD (eO x)∧uc (eO x))(a b:Int):aD (dR l a b)∧uc (dR l a b):=by
 have key: ∀l:aj,(∀x∈l,aD (eO x)∧uc (eO x))→aD (gb a b l)∧uc (gb a b l):=by
  intro l
  induction l with
  |nil=>intro _;show aD 0∧uc 0;decide
  |cons x t ih=>
   intro h
   have ih:=ih (fun y hy=>h y (atM _ hy))
   rw[gT]
   split
   ·split
    ·exact h x (atS ..)
    ·exact ih
   ·exact ih
 unfold dR
 split
 ·exact key l h
 ·decide
theorem Tg{l:aj}(hk:cP l=true)(hq:eF l): ∀x∈l,aD (eO x)∧uc (eO x):=fun x hx=>⟨hq x hx,((gD hk).2 x hx).2⟩
end VM
end
