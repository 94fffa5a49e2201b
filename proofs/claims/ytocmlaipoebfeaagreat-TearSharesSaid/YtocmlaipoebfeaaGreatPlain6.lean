/- A part of the proof of TearShares of layer 29: what the functions compute, in plain words. -/
import Derived.Test.YtocmlaipoebfeaaGreatPlain5
import Derived.Test.YtocmlaipoebfeaaGreatPlain4
set_option linter.all false
section
namespace VM
open Go VM.F
theorem vS(N:Nat)(hN:4000000≤N){c:ae}{l:ax}{m:Nat}(hm:m≤50000)(hc:G m aq c)(hl:L2 m l)(f:Bool):Ok (fun r=>Bg 60000 r.1) (ln N c l f):=by
 have h1:=hl.1
 unfold ln ln.b
 refine bJ (uz N (by omega) c (by omega)) (bx (fun _=>ag (Dr (by omega))) fun hk=>bh (len:=l.length) (F:=fun n i t=>ln.l5 N n l f c (false,(([]:List Int),())) t i) (fun i t=>Bg (8+i) t) (Dr (by omega)) (by omega) (fun n i t hi ht hr=> ?_) (fun n t ht=> ?_))
 all_goals unfold ln.l5 ln.du
 ·rw[an (x:=(i:Int)+1) (by omega) (by omega),aa i,aue]
  unfold C9 at hk
  have hp:=auw (auF.1 hk).1 i hi
  unfold q8 q7 at hp
  have in1: ∀{x y:Option (au×Int)},Ok (fun r=>Bg 60000 r.1) x→Ok (fun r=>Bg 60000 r.1) (cond (aK (l.getD i ch).1 c.1.length) x y):=fun h=>aw ⟨hp.1,hp.2.1⟩ h
  have hw: ∀q:Int,aB q→Ok (fun r=>Bg 60000 r.1) ((fM N (l.getD i ch).2.1).bind fun r3=>(HF N r3).bind fun r4=>(fM N q).bind fun r5=>(fN N r4 r5).bind fun r6=>(ud N t r6).bind fun r7=>ln.l5 N n l f c (false,(([]:List Int),())) r7 ((i+1:Nat):Int)):=fun q hq=>
   af (aZ N hN (G.at hl i).2.1) fun x hx=>af (rm N hN (by omega) hx) fun x hx=>af (aZ N hN hq) fun y hy=>af (jM N hN (by omega) (by omega) hx hy) fun z hz=>af (gO N hN (by omega) ht (Bg.mono hz (by omega))) fun u hu=>hr u (Bg.mono hu (by omega))
  exact av (fun _=>aw ⟨by omega,by omega⟩ (in1 (oT (fun _=>aw ⟨by omega,by omega⟩ (in1 (aw ⟨by omega,by omega⟩ (hw _ (G.at hc.1 _).2.2.2.1)))) fun _=>aw ⟨by omega,by omega⟩ (hw _ (G.at hc.1 _).2.2.1)))) fun _=>by omega
 ·exact av (fun _=>by omega) fun _=>ag (Bg.mono ht (by omega))
theorem sd(N:Nat)(hN:200000≤N){b:ah}{m:Nat}(hm:m≤50000)(hb:G m aA b)(id:Int):Ok (fun _=>True) (Du N b id):=by
 unfold Du
 exact af (lY N hN hm hb.1 _) fun _ _=>dm
theorem se(N:Nat)(hN:200000≤N){b:ah}{m:Nat}(hm:m≤50000)(hb:G m aA b)(id:Int):Ok aB (IY N b id):=by
 unfold IY
 exact af (mR N hN hm hb.2.2.1 _ _) fun r hr=>ag hr
theorem SD(N:Nat)(hN:5000000≤N){c:ae}{b:ah}{m:Nat}(hm:m≤40000)(hc:G m aq c)(hb:G m aA b)(f:Int){to:Int}(hto:aB to)(a:Int):Ok (fun r=>G m aA r.1) (SE N c b f to a):=by
 have Ib:Ok (fun _=>True) (SF N c b f to a):=by
  unfold SF ZU
  have mb:=fun id=>sd N (by omega) (by omega) hb id
  exact bJ (dJ N hN (by omega) hb) (bx (fun _=>dm) fun _=>af (sa N (by omega) (by omega) hb.2.1 _) fun _ _=>bx (fun _=>dm) fun _=>af (mb _) fun _ _=>ok_eq (fun _=>dm) fun _=>af (mb _) fun _ _=>ok_eq (fun _=>dm) fun _=>bA (fun _=>dm) fun _=>bA (fun _=>dm) fun _=>af (mb _) fun _ _=>bA (fun _=>dm) fun _=>af (FK N (by omega) (by omega) hb.2.2.2.1 _) fun l hl=>af (Q:=fun r=>Bg 60000 r.1) (af (vS N (by omega) (by omega) hc hl _) fun r hr=>ag hr) fun u hu=>af (se N (by omega) (by omega) hb _) fun g hg=>af (aZ N (by omega) hg) fun x hx=>af (oe N (by omega) (by omega) (by omega) hx hu) fun _ _=>av (fun _=>dm) fun _=>dm)
 unfold SE
 exact af Ib fun _ _=>bA (fun _=>ag G.fc) fun _=>af (IV N (by omega) (by omega) hb.1 hb.2.1 hto) fun r hr=>bA (fun _=>ag G.fc) fun _=>ag ⟨hb.1,hr,hb.2.2⟩
theorem Mf(N:Nat)(hN:4000000≤N){x:au}{q:Int}(hx:Bg 60000 x)(hq:aB q):Ok (fun r=>0≤r∧r≤3) (mY N x q):=by
 unfold mY mY.b
 refine af (yk N hx) fun _ _=>cW (fun _=>ag (by decide)) fun _=>av (fun _=>ag (by decide)) fun _=>fW (len:=3) (F:=fun n i (_:Unit)=>mY.l4 N n q x i) (fun _ _=>True) (fun n i _ hi _ hr=> ?_) (fun n _ _=> ?_) 3 N 1 () (by omega) (by omega) (by omega) trivial
 all_goals unfold mY.l4 mY.cT
 ·rw[an (x:=(i:Int)+1) (by omega) (by omega),aa i]
  exact av (fun _=>af (aZ N hN (fP (by omega) (by omega))) fun a ha=>af (aZ N hN hq) fun b hb=>af (jM N hN (by omega) (by omega) ha hb) fun y hy=>af (oe N hN (by omega) (by omega) hy hx) fun _ _=>av (fun _=>hr () trivial) fun _=>ag (by omega)) fun _=>by omega
 ·exact av (fun _=>by omega) fun _=>ag (by omega)
theorem SG(N:Nat)(hN:5000000≤N)(c:ae){b:ah}{m:Nat}(hm:m≤50000)(hb:G m aA b):Ok (fun r=>G m (.slice (.int .i64)) r.1) (mZ N c b):=by
 have hl:=hb.1.1
 unfold mZ mZ.b
 refine bJ (dJ N hN hm hb) (bx (fun _=>ag G.nil) fun _=>bh (len:=b.1.length) (F:=fun n i s=>mZ.l5 N n b s i) (fun i s=>G i (.slice (.int .i64)) s) G.nil (by omega) (fun n i s hi hI hr=> ?_) (fun n s hI=> ?_))
 all_goals unfold mZ.l5 mZ.du
 ·have hs:=hI.1
  rw[an (x:=(i:Int)+1) (by omega) (by omega),aa i]
  have h1:=hr s (G.mono (by omega) hI)
  have hx:G 0 (.int .i64) (b.1.getD (i:Int).toNat ch).1:=(G.at hb.1 _).1
  exact av (fun _=>aw ⟨by omega,by omega⟩ (ok_eq (fun _=>aw ⟨by omega,by omega⟩ (af (mR N (by omega) hm hb.2.2.1 _ _) fun _ _=>av (fun _=>aw ⟨by omega,by omega⟩ (aD (by rw[aud];omega) (hr _ (G.cat hI (G.one hx (aul 1)))))) fun _=>h1)) fun _=>h1)) fun _=>by omega
 ·exact av (fun _=>by omega) fun _=>ag (G.mono hl hI)
abbrev LL(m:Nat)(l:aX):Prop:=G m (.slice gb) l
theorem zW(N:Nat)(hN:200000≤N){l:aX}{m:Nat}(hm:m≤50000)(h:LL m l)(id:Int):Ok (fun r=>G m gb r.1) (lL N l id):=by
 have hl:=h.1
 unfold lL lL.b
 refine jL (len:=l.length) (F:=fun n i=>lL.l2 N n l id ((0:Int),(bN,aO)) i) (by omega) (fun n i hi hr=> ?_) (fun n=> ?_)
 all_goals unfold lL.l2 lL.ei
 ·rw[an (x:=(i:Int)+1) (by omega) (by omega),aa i]
  exact av (fun _=>aw ⟨by omega,by omega⟩ (ok_eq (fun _=>aw ⟨by omega,by omega⟩ (ag (G.at h _))) fun _=>hr)) fun _=>by omega
 ·exact av (fun _=>by omega) fun _=>ag (G.zero m gb)
theorem Mg(N:Nat)(hN:4000000≤N){a b:ax}{m:Nat}(h6:6≤m)(hm:m≤40000)(ha:L2 m a)(hb:L2 m b):Ok (fun r=>L2 m r.1) (c7 N a b):=by
 have XQ:=ha.1
 have sq:=hb.1
 unfold c7 c7.b
 refine bh (len:=6) (F:=fun n i s=>c7.l3 N n a b s i) (fun i s=>L2 i s) G.nil (by omega) (fun n i s hi hI hr=> ?_) (fun n s hI=> ?_)
 all_goals unfold c7.l3 c7.ix
 ·have hs:=hI.1
  refine av (fun _=> ?_) fun _=>by omega
  refine bh (len:=a.length) (F:=fun n' j t=>c7.l7 N (c7.l3 N n) n' a b s (i:Int) t j) (fun j t=>Bg (3+j) t) (Dr (by omega)) (by omega) (fun n' j t hj ht dT=> ?_) (fun n' t ht=> ?_)
  all_goals unfold c7.l7 c7.n9
  ·rw[an (x:=(j:Int)+1) (by omega) (by omega),aa j]
   exact av (fun _=>aw ⟨by omega,by omega⟩ (ok_eq (fun _=>aw ⟨by omega,by omega⟩ (af (aZ N hN (G.at ha _).2.1) fun r hr=>af (gO N hN (by omega) ht (Bg.mono hr (by omega))) fun u hu=>dT u (Bg.mono hu (by omega)))) fun _=>dT t (Bg.mono ht (by omega)))) fun _=>by omega
  ·refine av (fun _=>by omega) fun _=> ?_
   refine bh (len:=b.length) (F:=fun B9 j t=>c7.nq N (c7.l3 N n) B9 a b s (i:Int) t j) (fun j t=>Bg (3+a.length+j) t) ht (by omega) (fun B9 j t hj ht dT=> ?_) (fun B9 t ht=> ?_)
   all_goals unfold c7.nq c7.lH
   ·rw[an (x:=(j:Int)+1) (by omega) (by omega),aa j]
    exact av (fun _=>aw ⟨by omega,by omega⟩ (ok_eq (fun _=>aw ⟨by omega,by omega⟩ (af (aZ N hN (G.at hb _).2.1) fun r hr=>af (gO N hN (by omega) ht (Bg.mono hr (by omega))) fun u hu=>dT u (Bg.mono hu (by omega)))) fun _=>dT t (Bg.mono ht (by omega)))) fun _=>by omega
   ·rw[an (x:=(i:Int)+1) (by omega) (by omega),aa i]
    exact av (fun _=>by omega) fun _=>af (w4 N ht) fun v hv=>bx (fun _=>ag G.nil) fun _=>bA (fun _=>aD (by rw[aud];omega) (hr _ (G.cat hI (G.one (m:=1) (G2 (fP (by omega) (by omega)) hv) (aul 1))))) fun _=>hr s (G.mono (by omega) hI)
 ·exact av (fun _=>by omega) fun _=>ag (G.mono h6 hI)
theorem FX(N:Nat)(hN:5000000≤N){c:ae}{b:ah}{IZ:aX}{l:aF}{x:bQ}{m:Nat}(h6:6≤m)(hm:m≤40000)(hc:G m aq c)(hb:G m aA b)(hL:LL m IZ)(hl:G m (.slice db) l)(hx:G 0 db x):Ok (fun _=>True) (gS N c b IZ l x):=by
 have Q4:=hl.1
 have hLl:=hL.1
 have XQ:=hb.2.1.1
 have DU:=hb.2.2.2.2.2.1.1
 have hw:Fl IZ:=fun y hy=>auX (hL.2 y hy).2.1.1 (by omega)
 unfold gS gS.b
 have hj:Ok (fun _=>True) (gS.j3 N IZ l c b x):=by
  unfold gS.j3 gS.j3b
  refine af (sd N (by omega) (by omega) hb _) fun _ _=>ok_eq (fun _=>dm) fun _=>bA (fun _=>dm) fun _=>af (zW N (by omega) (by omega) hL _) fun z hz=>bJ (vE N (by omega) (by omega) _) (bx (fun _=>dm) fun _=>bA (fun _=>dm) fun _=>ok_eq (fun _=>dm) fun _=>jL (len:=l.length) (F:=fun n i=>gS.jB N n l c b x z.1 (yc b.2.1 x.2.2.1) i) (by omega) (fun n i hi hr=> ?_) (fun n=> ?_))
  all_goals unfold gS.jB gS.il
  ·rw[an (x:=(i:Int)+1) (by omega) (by omega),aa i]
   exact av (fun _=>aw ⟨by omega,by omega⟩ (ok_eq (fun _=>aw ⟨by omega,by omega⟩ (ok_eq (fun _=>dm) fun _=>hr)) fun _=>hr)) fun _=>by omega
  ·refine av (fun _=>by omega) fun _=>ok_eq (fun _=>dm) fun _=>af (aZ N (by omega) hx.2.2.2.1) fun p hp=>af (aZ N (by omega) (show aB 4 from aV)) fun q hq=>af (aZ N (by omega) hz.2.2.1) fun r hr=>af (jM N (by omega) (by omega) (by omega) hq hr) fun u hu=>af (oe N (by omega) (by omega) (by omega) hp hu) fun _ _=>av (fun _=>dm) fun _=>af (FK N (by omega) (by omega) hb.2.2.2.1 _) fun a ha=>af (Mg N (by omega) h6 (by omega) ha hz.2.1) fun j hj=>bx (fun _=>dm) fun _=> ?_
   unfold ZV
   exact af (Q:=fun r=>L3 6 r) (bJ (kg N (by omega) (by omega)) (bx (fun _=>ag G.nil) fun _=>af (zT N (by omega) (by omega) _) fun r hr=>ag hr)) fun o ho=>af (FJ N (by omega) (by omega) hc hj (G.mono h6 ho)) fun w hw=>af (se N (by omega) (by omega) hb _) fun g hg=>af (aZ N (by omega) hg) fun v hv=>af (aZ N (by omega) hx.2.2.2.1) fun p hp=>af (uT N (by omega) (by omega) hv hp) fun d hd=>af (oe N (by omega) (by omega) (by omega) hd hw) fun _ _=>av (fun _=>dm) fun _=>dm
 refine bJ (dJ N hN (by omega) hb) (bx (fun _=>dm) fun _=>bJ (zv N (by omega) c (by omega) hw) (bx (fun _=>dm) fun _=>bJ (rf N (by omega) (by omega)) (bx (fun _=>dm) fun _=>bJ (Kd N _) (bx (fun _=>dm) fun _=>av (fun _=> ?_) fun _=>hj))))
 dsimp only
 exact aw (by rw[an (by omega) (by omega)];omega) (cW (fun _=>dm) fun _=>hj)
theorem Mh(N:Nat)(hN:5000000≤N){c:ae}{b:ah}{IZ:aX}{l:aF}{x:bQ}{m:Nat}(h6:6≤m)(hm:m≤40000)(hc:G m aq c)(hb:G m aA b)(hL:LL m IZ)(hl:G m (.slice db) l)(hx:G 0 db x):Ok (fun r=>G (m+1) (.slice db) r.1) (SH N c b IZ l x):=by
 have Q4:=hl.1
 unfold SH
 refine af (FX N hN h6 hm hc hb hL hl hx) fun _ _=>bA (fun _=>ag G.nil) fun _=>aD (by rw[auA];omega) ?_
 dsimp only
 rw[auK]
 exact aD (by rw[aud];omega) (ag (G.cat hl (G.one hx (aul 1))))
end VM
end
section
namespace VM
open Go VM.F
theorem XR{l:List Int}(h:Pos l)(hs:l.sum<9223372036854775808):zB l:=fun x hx=>by
 have h3:=h x hx
 obtain⟨i,hi,rfl⟩:=avE.1 hx
 have h4:=od h i
 rw[aub,auf hi]at h4
 simp only[av6]at h4
 omega
theorem Pm(k:Nat):(List.replicate k (1:Int)).sum=k:=by
 induction k with
 |zero=>rfl
 |succ k ih=>rw[awF,auO,ih];omega
theorem Pn(k:Nat):Pos (List.replicate k 1):=fun x hx=>by rw[awf hx];omega
theorem Po{t:Int}{k:Nat}(h0:0≤t)(h1:t<9223372036854775808)(hk:1≤k)(Y3:k≤3):(B0 t k).1.length=k∧zB (B0 t k).1:=by
 have hS:0<(List.replicate k (1:Int)).sum:=by rw[Pm];omega
 have ee:B0 t k=(aM t (List.replicate k 1),0):=by
  unfold B0
  rw[aui (by omega),aue]
  unfold jF
  have hm:may (List.replicate k 1)=true:=eF.2 ⟨by rw[aun];omega,Pn k⟩
  rw[aui (by rw[hm];simp;omega),Pm,aui (by omega),aui (by omega)]
 rw[ee]
 exact⟨by dsimp only;rw[eN,List.length_replicate],XR (pO h0 hS (Pn k)) (by rw[mN h0 hS];omega)⟩
def LQ(y:Oh):Prop:=aB y.1∧aB y.2.1∧nQ y.2.1
theorem XS{l:ax}(h: ∀y∈l,LQ y)(i:Nat):LQ (l.getD i ch):=by
 by_cases hk:i<l.length
 ·rw[aub,auf hk];exact h _ (auT hk)
 ·rw[aub,auQ (by omega)];exact⟨aU,aU,by unfold nQ;decide⟩
theorem Mi{c:ae}{b:ah}{m:Nat}(hb:G m aA b)(hB:dn c b=true)(a:Int): ∀y∈posOf b.2.2.2.1 a,LQ y∧(0≤(y.1:Int)∧(y.1:Int)<(c.1.length:Int)):=fun y hy=>by
 have hk:cG b.2.2.2.1=true:=by
  by_cases h:cG b.2.2.2.1=true
  ·exact h
  ·unfold posOf at hy;rw[aui h]at hy;nomatch hy
 unfold posOf at hy
 rw[auh hk]at hy
 obtain⟨x,hx,_,e⟩:=pM hy
 have hg:=hb.2.2.2.1.2 x hx
 have hq:=((dV hk).2 x hx).2
 have hp:=Dp hB x hx
 rw[e]
 exact⟨⟨hg.2.1,hg.2.2.1,hq⟩,hp⟩
theorem SI(N:Nat)(hN:5000000≤N){c:ae}{b:ah}{m:Nat}(h2:200≤m)(hm:m≤40000)(hc:G m aq c)(hb:G m aA b){next:Int}(hn:aB next):Ok (fun r=>LL m r.1) (cR N c b next):=by
 unfold cR cR.b
 refine bJ (dJ N hN (by omega) hb) (bx (fun _=>ag G.nil) fun hB=>av (fun _=>ag G.nil) fun _=>av (fun _=>ag G.nil) fun _=>bJ (ON N (G.wf (by omega) hb).w.s (by omega) 0) (ok_eq (fun _=>ag G.nil) fun _=> ?_))
 have kF:=Mi hb hB 0
 have XQ:=(ae4 hb.2.2.2.1 0).1
 generalize posOf b.2.2.2.1 0=all at*
 refine bh (len:=4) (F:=fun n k (s:Int×aX)=>cR.l8 N n s.1 c all s.2 k) (s:=(_,_)) (fun k s=>aB s.1∧s.2.length≤3*k∧ ∀x∈s.2,G m gb x) ⟨hn,au3 _,fun x hx=>nomatch hx⟩ (by omega) (fun n k s hk hI hr=> ?_) (fun n s hI=> ?_)
 all_goals unfold cR.l8 cR.yb
 ·refine av (fun _=> ?_) fun _=>by omega
  refine bh (len:=all.length) (F:=fun n' i (z:ax×au)=>cR.jB N (cR.l8 N n) n' s.1 c all s.2 (k:Int) z.1 z.2 i) (s:=(_,_)) (fun i z=>z.1.length≤i∧(∀y∈z.1,LQ y)∧Bg (8+i) z.2) ⟨au3 _,(fun y hy=>nomatch hy),Dr (by omega)⟩ (by omega) (fun n' i z hi hz dT=> ?_) (fun n' z hz=> ?_)
  all_goals unfold cR.jB cR.il
  ·obtain⟨xS,HE,hz3⟩:=hz
   have hx:all.getD i ch∈all:=by rw[aub,auf hi];exact auT hi
   have hy:=kF _ hx
   rw[an (x:=(i:Int)+1) (by omega) (by omega),aa i,aue]
   exact av (fun _=>aw ⟨by omega,by omega⟩ (aw hy.2 (ok_eq (fun _=>aw ⟨by omega,by omega⟩ (aD (by rw[List.length_singleton];omega) (aw ⟨by omega,by omega⟩ (af (aZ N (by omega) hy.1.2.1) fun u hu=>af (rm N (by omega) (by omega) hu) fun u hu=>af (gO N (by omega) (by omega) hz3 (Bg.mono hu (by omega))) fun v hv=>dT (_,_) ⟨by dsimp only;rw[List.length_append,List.length_singleton];omega,fun y h=>(List.mem_append.1 h).elim (HE y) (fun h=>by rw[List.mem_singleton.1 h];exact hy.1),Bg.mono hv (by omega)⟩)))) fun _=>dT z ⟨by omega,HE,Bg.mono hz3 (by omega)⟩))) fun _=>by omega
  ·obtain⟨xS,HE,hz3⟩:=hz
   refine av (fun _=>by omega) fun _=>af (Mf N (by omega) (Bg.mono hz3 (by omega)) hc.2.2.2.2.2.1) fun w hw=> ?_
   obtain⟨p,hp⟩: ∃p:Nat,w=(p:Int):=⟨w.toNat,by omega⟩
   subst hp
   refine bh (len:=p) (F:=fun B9 j (t:Int×aX)=>cR.Dv N (cR.l8 N n) B9 t.1 c all t.2 (k:Int) z.1 (p:Int) j) (s:=s) (fun j t=>aB t.1∧t.2.length≤3*k+j∧ ∀x∈t.2,G m gb x) hI (by omega) (fun B9 j t hj ht OZ=> ?_) (fun B9 t ht=> ?_)
   all_goals unfold cR.Dv cR.I0
   ·obtain⟨nv,Qq,Q2⟩:=ht
    refine av (fun _=> ?_) fun _=>by omega
    refine bh (len:=z.1.length) (F:=fun n3 i u=>cR.xX N (cR.l8 N n) (cR.Dv N (cR.l8 N n) B9) n3 t.1 c all t.2 (k:Int) z.1 (p:Int) (j:Int) (t.1,(bN,((0:Int),((1:Int),ch)))) u i) (fun i u=>L2 i u) G.nil (by omega) (fun n3 i u hi hu hr3=> ?_) (fun n3 u hu=> ?_)
    all_goals unfold cR.xX cR.y9
    ·have XP:=hu.1
     have hq:=XS HE i
     have qL:=hq
     unfold LQ aB nQ at qL
     have ae6: ∀q:Int,0≤q→q<9223372036854775808→Ok (fun r=>LL m r.1) (cR.Pp N (cR.l8 N n) (cR.Dv N (cR.l8 N n) B9) (cR.xX N (cR.l8 N n) (cR.Dv N (cR.l8 N n) B9) n3) t.1 c all t.2 (k:Int) z.1 (p:Int) (j:Int) (t.1,(bN,((0:Int),((1:Int),ch)))) u (i:Int) q):=fun q h0 h1=>by
      unfold cR.Pp cR.I1
      obtain⟨e1,e2⟩:=Po (k:=p) h0 h1 (by omega) (by omega)
      have ae7: ∀v:List Int,v.length=p→zB v→Ok (fun r=>LL m r.1) (cR.j32 N (cR.l8 N n) (cR.Dv N (cR.l8 N n) B9) (cR.xX N (cR.l8 N n) (cR.Dv N (cR.l8 N n) B9) n3) t.1 c all t.2 (k:Int) z.1 (p:Int) (j:Int) (t.1,(bN,((0:Int),((1:Int),ch)))) u (i:Int) v):=fun v Ei QY=>by
       unfold cR.j32 cR.ZW
       rw[an (x:=(i:Int)+1) (by omega) (by omega),aa i]
       have hx:G 0 gP ((z.1.getD (i:Int).toNat ch).1,(v.getD (j:Int).toNat 0,())):=G2 (XS HE _).1 (mC QY _)
       exact aw ⟨by omega,by omega⟩ (bA (fun _=>aw ⟨by omega,by omega⟩ (aw ⟨by omega,by omega⟩ (aD (by rw[aud];omega) (hr3 _ (G.cat hu (G.one hx (aul 1))))))) fun _=>hr3 u (G.mono (by omega) hu))
      refine bJ (OU N hN h1) (aw ⟨by omega,by omega⟩ (av (fun _=>aw ⟨by omega,by omega⟩ (aw ⟨by omega,by omega⟩ (ae7 _ (by rw[aup];exact e1) fun y hy=> ?_))) fun _=>ae7 _ e1 e2))
      rcases avO hy with hy|rfl
      ·exact e2 y hy
      ·exact dP _
     rw[aue]
     refine av (fun _=>aw ⟨by omega,by omega⟩ (av (fun dz=> ?_) fun Qw=> ?_)) fun _=>by omega
     ·have g: ∀x:Int,-9223372036854775808≤x∧x≠ -9223372036854775808→x<0→0≤W .i64 (0-x)∧W .i64 (0-x)<9223372036854775808:=fun x h1 h2=>by rw[an (by omega) (by omega)];omega
      have gx:=g _ ⟨qL.2.1.1,qL.2.2⟩ dz
      exact ae6 _ gx.1 gx.2
     ·exact ae6 _ Qw qL.2.1.2
    ·have XP:=hu.1
     rw[an (x:=(j:Int)+1) (by omega) (by omega),aa j]
     have hum:L2 m u:=G.mono (by omega) hu
     refine av (fun _=>by omega) fun _=>ok_eq (fun _=>OZ t ⟨nv,by omega,Q2⟩) fun _=> ?_
     unfold Pq
     refine af (Q:=fun r=>Bg 60000 r.1) (af (vS N (by omega) (by omega) hc hum _) fun r hr=>ag hr) fun a ha=>af (oU N (by omega) (by omega) ha) fun d hd=>af (tj N hd) fun v hv=>bx (fun _=>ag G.nil) fun _=>aD (by rw[List.length_singleton];omega) (OZ (_,_) ⟨dP _,by dsimp only;rw[List.length_append,List.length_singleton];omega,fun x hx=> ?_⟩)
     rcases aut.1 hx with hx|hx
     ·exact Q2 x hx
     ·rw[auE.1 hx];exact⟨nv,hum,hv,(show aB 1 from aV),aU,aU,trivial⟩
   ·rw[an (x:=(k:Int)+1) (by omega) (by omega),aa k]
    exact av (fun _=>by omega) fun _=>hr t ⟨ht.1,by have:=ht.2.1;omega,ht.2.2⟩
 ·exact av (fun _=>by omega) fun _=>ag ⟨by have:=hI.2.1;dsimp only;omega,hI.2.2⟩
end VM
end
section
namespace VM
open Go VM.F
theorem sf(N:Nat)(hN:200000≤N){l:ax}(hl:l.length≤100000):Ok (fun _=>True) (kU N l):=by
 unfold kU kU.b
 refine jL (len:=l.length) (F:=fun n i=>kU.l2 N n l i) (by omega) (fun n i hi hr=> ?_) (fun n=> ?_)
 all_goals unfold kU.l2 kU.ei
 ·rw[an (x:=(i:Int)+1) (by omega) (by omega),aa i]
  dsimp only
  repeat' first|exact hr|exact dm|refine aw ⟨by omega,by omega⟩ ?_|refine aw (by rw[an (x:=(i:Int)-1) (by omega) (by omega)];omega) ?_|refine av (fun _=> ?_) (fun _=> ?_)|refine cW (fun _=> ?_) (fun _=> ?_)|refine ok_eq (fun _=> ?_) (fun _=> ?_)|(exfalso;omega)
 ·exact av (fun _=>by omega) fun _=>dm
theorem Mj(N:Nat)(hN:200000≤N){l:List Int}(hl:l.length≤100000):Ok (fun _=>True) (m0 N l):=by
 unfold m0 m0.b
 refine jL (len:=l.length) (F:=fun n i=>m0.l2 N n l i) (by omega) (fun n i hi hr=> ?_) (fun n=> ?_)
 all_goals unfold m0.l2 m0.ei
 ·rw[an (x:=(i:Int)+1) (by omega) (by omega),aa i]
  dsimp only
  repeat' first|exact hr|exact dm|refine aw ⟨by omega,by omega⟩ ?_|refine aw (by rw[an (x:=(i:Int)-1) (by omega) (by omega)];omega) ?_|refine av (fun _=> ?_) (fun _=> ?_)|refine cW (fun _=> ?_) (fun _=> ?_)|refine ok_eq (fun _=> ?_) (fun _=> ?_)|(exfalso;omega)
 ·exact av (fun _=>by omega) fun _=>dm
theorem Pr(N:Nat)(hN:200000≤N)(a:Int){L:aX}{l:aF}{m:Nat}(hm:m≤50000)(hL:LL m L)(hl:G m (.slice db) l):Ok aB (fH N a L l):=by
 have h1:=hL.1
 have h2:=hl.1
 have i3:aB 3:=aV
 have i2:aB 2:=aV
 unfold fH fH.b
 refine bh (len:=l.length) (F:=fun n i v=>fH.l3 N n a L l v i) (fun _ v=>aB v) (show aB 1 from aV) (by omega) (fun n i v hi hv hr=> ?_) (fun n v hv=> ?_)
 all_goals unfold fH.l3 fH.ix
 ·rw[an (x:=(i:Int)+1) (by omega) (by omega),aa i]
  exact av (fun _=>aw ⟨by omega,by omega⟩ (bA (fun _=>hr v hv) fun _=>aw ⟨by omega,by omega⟩ (af (zW N hN hm hL _) fun _ _=>oT (fun _=>aw ⟨by omega,by omega⟩ (cW (fun _=>hr _ (vR hv i3)) fun _=>hr _ (vR hv i2))) fun _=>hr _ (vR hv i2)))) fun _=>by omega
 ·refine av (fun _=>by omega) fun _=>bh (len:=L.length) (F:=fun n i v=>fH.nq N n a L v i) (fun _ v=>aB v) hv (by omega) (fun n i v hi hv hr=> ?_) (fun n v hv=> ?_)
  all_goals unfold fH.nq fH.lH
  ·rw[an (x:=(i:Int)+1) (by omega) (by omega),aa i]
   exact av (fun _=>aw ⟨by omega,by omega⟩ (ok_eq (fun _=>aw ⟨by omega,by omega⟩ (ok_eq (fun _=>hr 4 aV) fun _=>hr v hv)) fun _=>hr v hv)) fun _=>by omega
  ·exact av (fun _=>by omega) fun _=>ag hv
theorem Ps(N:Nat)(hN:200000≤N)(c:ae){d:ax}{u:List Int}{L:aX}{l:aF}{m:Nat}(h2:200≤m)(hm:m≤50000)(hd:L2 m d)(hu:u.length≤m)(hL:LL m L)(hl:G m (.slice db) l):Ok (fun r=>L2 m r.1) (cr N c d u L l):=by
 have h3:=hd.1
 have h4:=hL.1
 have h5:=hl.1
 have hw:Fl L:=fun y hy=>auX (hL.2 y hy).2.1.1 (by omega)
 unfold cr cr.b
 refine af (sf N hN (by omega)) fun _ _=>bx (fun _=>ag G.nil) fun _=>af (Mj N hN (by omega)) fun _ _=>bx (fun _=>ag G.nil) fun _=>bJ (zv N hN c (by omega) hw) (bx (fun _=>ag G.nil) fun _=>bJ (rf N (by omega) hN) (bx (fun _=>ag G.nil) fun _=>fW (len:=13) (F:=fun n i s=>cr.l5 N n d u L l s i) (fun i s=>L2 i s) (fun n i s hi hI hr=> ?_) (fun n s hI=> ?_) 13 N 1 [] (by omega) (by omega) (by omega) G.nil))
 all_goals unfold cr.l5 cr.du
 ·have hs:=hI.1
  refine cW (fun _=> ?_) fun _=>by omega
  refine bh (len:=d.length) (F:=fun n' j (z:Int×Bool)=>cr.l9 N (cr.l5 N n) n' d u L l s (i:Int) z.1 z.2 j) (s:=(_,_)) (fun _ z=>aB z.1) aU (by omega) (fun n' j z hj hz dT=> ?_) (fun n' z hz=> ?_)
  all_goals unfold cr.l9 cr.vb
  ·rw[an (x:=(j:Int)+1) (by omega) (by omega),aa j]
   exact av (fun _=>aw ⟨by omega,by omega⟩ (ok_eq (fun _=>aw ⟨by omega,by omega⟩ (dT (_,_) (G.at hd _).2.1)) fun _=>dT z hz)) fun _=>by omega
  ·refine av (fun _=>by omega) fun _=>bh (len:=u.length) (F:=fun n' j f=>cr.BZ N (cr.l5 N n) n' d u L l s (i:Int) z.1 f j) (fun _ _=>True) trivial (by omega) (fun n' j f hj _ dT=> ?_) (fun n' f _=> ?_)
   all_goals unfold cr.BZ cr.zJ
   ·rw[an (x:=(j:Int)+1) (by omega) (by omega),aa j]
    exact av (fun _=>oT (fun _=>dT _ trivial) fun _=>aw ⟨by omega,by omega⟩ (dT _ trivial)) fun _=>by omega
   ·refine av (fun _=>by omega) fun _=>bh (len:=l.length) (F:=fun n' j f=>cr.vN N (cr.l5 N n) n' d u L l s (i:Int) z.1 f j) (fun _ _=>True) trivial (by omega) (fun n' j f hj _ dT=> ?_) (fun n' f _=> ?_)
    all_goals unfold cr.vN cr.th
    ·rw[an (x:=(j:Int)+1) (by omega) (by omega),aa j]
     exact av (fun _=>oT (fun _=>dT _ trivial) fun _=>aw ⟨by omega,by omega⟩ (dT _ trivial)) fun _=>by omega
    ·rw[an (x:=(i:Int)+1) (by omega) (by omega),aa i]
     dsimp only
     exact av (fun _=>by omega) fun _=>oT (fun _=>af (Pr N hN _ hm hL hl) fun v hv=>aD (by rw[aud];omega) (hr _ (G.cat hI (G.one (m:=1) (G2 (fP (by omega) (by omega)) (vR hz hv)) (aul 1))))) fun _=>hr s (G.mono (by omega) hI)
 ·exact cW (fun _=>by omega) fun _=>ag (G.mono (by omega) hI)
theorem Pu(N:Nat)(hN:200000≤N){l:ax}(hl:l.length≤100000)(a:Int):Ok (fun _=>True) (m4 N l a):=by
 unfold m4 m4.b
 refine af (sf N hN hl) fun _ _=>bx (fun _=>dm) fun _=>jL (len:=l.length) (F:=fun n i=>m4.l4 N n l a i) (by omega) (fun n i hi hr=> ?_) (fun n=> ?_)
 all_goals unfold m4.l4 m4.cT
 ·rw[an (x:=(i:Int)+1) (by omega) (by omega),aa i]
  exact av (fun _=>aw ⟨by omega,by omega⟩ (ok_eq (fun _=>aw ⟨by omega,by omega⟩ dm) fun _=>hr)) fun _=>by omega
 ·exact av (fun _=>by omega) fun _=>dm
theorem Ky(N:Nat)(a:Int):Ok (fun _=>True) (Pv N a):=by
 unfold Pv
 exact ok_eq (fun _=>dm) fun _=>dm
theorem I2(N:Nat)(hN:5000000≤N)(c:ae){b:ah}{d:ax}{m:Nat}(hm:m≤50000)(hb:G m aA b)(hd:L2 m d)(a k:Int):Ok (fun r=>G m (.slice (.int .i64)) r.1) (m5 N c b d a k):=by
 have hl:=hb.1.1
 have h2:=hd.1
 unfold m5 m5.b
 refine bJ (dJ N hN hm hb) (bx (fun _=>ag G.nil) fun _=>af (sf N (by omega) (by omega)) fun _ _=>bx (fun _=>ag G.nil) fun _=>bh (len:=b.1.length) (F:=fun n i s=>m5.l5 N n d a k b s i) (fun i s=>G i (.slice (.int .i64)) s) G.nil (by omega) (fun n i s hi hI hr=> ?_) (fun n s hI=> ?_))
 all_goals unfold m5.l5 m5.du
 ·have hs:=hI.1
  rw[an (x:=(i:Int)+1) (by omega) (by omega),aa i]
  have h1:=hr s (G.mono (by omega) hI)
  have hx:G 0 (.int .i64) (b.1.getD (i:Int).toNat ch).1:=(G.at hb.1 _).1
  exact av (fun _=>aw ⟨by omega,by omega⟩ (af (Ky N _) fun _ _=>oT (fun _=>bA (fun _=>af (mR N (by omega) hm hb.2.2.1 _ _) fun _ _=>av (fun _=>af (Pu N (by omega) (by omega) _) fun _ _=>ok_eq (fun _=>aD (by rw[aud];omega) (hr _ (G.cat hI (G.one hx (aul 1))))) fun _=>h1) fun _=>h1) fun _=>h1) fun _=>h1)) fun _=>by omega
 ·exact av (fun _=>by omega) fun _=>ag (G.mono hl hI)
theorem zX(N:Nat)(hN:200000≤N){a:aF}{m:Nat}(hm:m≤50000)(h:G m (.slice db) a)(id:Int):Ok aB (tc N a id):=by
 refine kR (vE N (auX h.1 (by omega)) hN id) ?_
 unfold yc
 split
 ·have: ∀l:aF,(∀x∈l,G m db x)→aB (pB id l):=by
   intro l
   induction l with
   |nil=>intro _;exact aU
   |cons x t ih=>
    intro hx
    have hi:=ih fun y hy=>hx y (auk _ hy)
    rw[wR]
    split
    ·split
     ·exact(hx x (auo ..)).1
     ·exact hi
    ·exact hi
  exact this a h.2
 ·exact aU
abbrev L5(m:Nat)(l:bc):Prop:=G m (.slice oV) l
theorem G5{m:Nat}{a b c d e:Int}(ha:aB a)(hb:aB b)(hc:aB c)(hd:aB d)(he:aB e):G m oV (a,(b,(c,(d,(e,()))))):=⟨ha,hb,hc,hd,he,trivial⟩
theorem Dw(N:Nat)(hN:200000≤N){l:bc}{b:ah}{m k:Nat}(hm:m≤50000)(hb:G m aA b)(hk:k≤1000000)(hl:L5 k l){a d n:Int}(ha:aB a)(hd:aB d)(hn:aB n):Ok (fun r=>L5 (k+1) r) (I3 N l b a d n):=by
 have h1:=hl.1
 unfold I3
 exact af (mR N hN hm hb.2.2.1 _ _) fun x hx=>av (fun _=>aD (by rw[aud];omega) (ag (G.cat hl (G.one (m:=1) (G5 ha hd hn hx aU) (aul 1))))) fun _=>ag (G.mono (by omega) hl)
theorem Pw(N:Nat)(hN:5000000≤N){c:ae}{b:ah}{d g:ax}{a:Int}{m:Nat}(hm:m≤50000)(hc:G m aq c)(hb:G m aA b)(hd:L2 m d)(hg:L2 m g)(ha:aB a):Ok (fun r=>L5 1000000 r.1) (cc N c b a d g):=by
 have h1:=hb.1.1
 have h2:=hd.1
 have h3:=hg.1
 have h4:=hb.2.1.1
 have hj: ∀l:bc,L5 1 l→Ok (fun r=>L5 1000000 r.1) (cc.j9 N a d g c b l):=fun l hl=>by
  unfold cc.j9 cc.Ik
  refine af (Dw N (by omega) hm hb (by omega) hl aV aV ha) fun l hl=>af (Dw N (by omega) hm hb (by omega) hl aV aV aU) fun l hl=>fW (len:=5) (F:=fun n k s=>cc.nq N n a d g c b s k) (fun k s=>L5 (3+m*k) s) (fun n k s hk hs hr=> ?_) (fun n s hs=> ?_) 5 N 1 l (by omega) (by omega) (by omega) (G.mono (by omega) hl)
  all_goals unfold cc.nq cc.lH
  ·have hmk:m*k≤m*4:=avK m (by omega)
   refine cW (fun _=>af (I2 N hN c hm hb hd _ _) fun t ht=> ?_) fun _=>by omega
   have htl:=ht.1
   refine bh (len:=t.1.length) (F:=fun n' j u=>cc.sx N (cc.nq N n) n' a d g c b u (k:Int) t.1 j) (fun j u=>L5 (3+m*k+j) u) hs (by omega) (fun n' j u hj hu dT=> ?_) (fun n' u hu=> ?_)
   all_goals unfold cc.sx cc.q5
   ·rw[an (x:=(j:Int)+1) (by omega) (by omega),aa j]
    exact av (fun _=>aw ⟨by omega,by omega⟩ (af (Dw N (by omega) hm hb (by omega) hu (dP _) aV (G.at ht _)) fun v hv=>dT v hv)) fun _=>by omega
   ·rw[an (x:=(k:Int)+1) (by omega) (by omega),aa k]
    exact av (fun _=>by omega) fun _=>hr u (G.mono (by rw[axF];omega) hu)
  ·refine cW (fun _=>by omega) fun _=>bh (len:=b.1.length) (F:=fun n j u=>cc.Dv N n a g c b u j) (fun j u=>L5 (3+m*5+j) u) hs (by omega) (fun n j u hj hu hr=> ?_) (fun n u hu=> ?_)
   all_goals unfold cc.Dv cc.I0
   ·have XP:=hu.1
    have hx:aB (b.1.getD (j:Int).toNat ch).1:=(G.at hb.1 _).1
    rw[an (x:=(j:Int)+1) (by omega) (by omega),aa j]
    have h0:=hr u (G.mono (by omega) hu)
    exact av (fun _=>aw ⟨by omega,by omega⟩ (af (Ky N _) fun _ _=>bx (fun _=>h0) fun _=>ok_eq (fun _=>h0) fun _=>af (aZ N (by omega) hc.2.2.1) fun p hp=>af (mR N (by omega) hm hb.2.2.1 _ _) fun q hq=>af (aZ N (by omega) hq) fun q hq=>af (jM N (by omega) (by omega) (by omega) hp hq) fun y hy=>af (tj N hy) fun v hv=>bx (fun _=>ag G.nil) fun _=>av (fun _=>aD (by rw[aud];omega) (hr _ (G.mono (by omega) (G.cat hu (G.one (m:=1) (G5 (show aB 8 from aV) (show aB 7 from aV) hx hv aU) (aul 1)))))) fun _=>h0)) fun _=>by omega
   ·refine av (fun _=>by omega) fun _=>bh (len:=g.length) (F:=fun n j u=>cc.IA N n a g b u j) (fun j u=>L5 (3+m*5+m+j) u) (G.mono (by omega) hu) (by omega) (fun n j u hj hu hr=> ?_) (fun n u hu=> ?_)
    all_goals unfold cc.IA cc.Fk
    ·have XP:=hu.1
     rw[an (x:=(j:Int)+1) (by omega) (by omega),aa j]
     have h0:=hr u (G.mono (by omega) hu)
     dsimp only
     exact av (fun _=>aw ⟨by omega,by omega⟩ (af (sa N (by omega) hm hb.2.1 _) fun x hx=>aw ⟨by omega,by omega⟩ (aw ⟨by omega,by omega⟩ (af (mR N (by omega) hm hb.2.2.1 _ _) fun q hq=>oT (fun _=>bA (fun _=>av (fun _=>aD (by rw[aud];omega) (hr _ (G.mono (by omega) (G.cat hu (G.one (m:=1) (G5 (show aB 9 from aV) (show aB 5 from aV) hx.1 (Sq (G.at hg _).2.1 hq) aU) (aul 1)))))) fun _=>h0) fun _=>h0) fun _=>h0)))) fun _=>by omega
    ·exact av (fun _=>by omega) fun _=>ag (G.mono (by omega) hu)
 unfold cc cc.b
 exact bJ (dJ N hN hm hb) (bx (fun _=>ag G.nil) fun _=>af (sf N (by omega) (by omega)) fun _ _=>bx (fun _=>ag G.nil) fun _=>af (Cc N (by omega) (by omega)) fun _ _=>bx (fun _=>ag G.nil) fun _=>af (lY N (by omega) hm hb.1 _) fun _ _=>ok_eq (fun _=>ag G.nil) fun _=>af (zX N (by omega) hm hb.2.1 _) fun h hh=>bA (fun _=>af (Dw N (by omega) hm hb (by omega) (G.nil (m:=0)) aV aV hh) fun l hl=>hj l hl) fun _=>hj [] G.nil)
end VM
end
section
namespace VM
open Go VM.F
theorem Mk(N:Nat)(hN:5000000≤N)(c:ae){b:ah}{m:Nat}(hm:m≤50000)(hb:G m aA b):Ok (fun r=>aB r.1) (SJ N c b):=by
 unfold SJ
 exact bJ (dJ N hN hm hb) (bx (fun _=>ag aU) fun _=>af (mR N (by omega) hm hb.2.2.1 _ _) fun x hx=>ok_eq (fun _=>ag aU) fun _=>ag (vR (dP _) aU))
theorem I4(N:Nat)(hN:5000000≤N)(c:ae){b:ah}{m:Nat}(hm:m≤50000)(hb:G m aA b):Ok (fun r=>aB r.1) (SK N c b):=by
 unfold SK
 exact bJ (dJ N hN hm hb) (bx (fun _=>ag aU) fun _=>af (mR N (by omega) hm hb.2.2.1 _ _) fun x hx=>ag (vR hx aU))
theorem ZX(N:Nat)(a b:Int):Ok (fun _=>True) (Ip N a b):=by
 unfold Ip
 repeat' first|exact dm|refine ok_eq (fun _=> ?_) (fun _=> ?_)|refine cW (fun _=> ?_) (fun _=> ?_)
theorem Ml(N:Nat)(hN:200000≤N)(l:bc):Ok (fun r=>r=true→l.length≤64) (m6 N l):=by
 have hf:Ok (fun r=>r=true→l.length≤64) (some false):=ag fun h=>nomatch h
 unfold m6 m6.b
 refine av (fun _=>hf) fun hl=>jL (len:=l.length) (F:=fun n i=>m6.l4 N n l i) (by omega) (fun n i hi hr=> ?_) (fun n=> ?_)
 all_goals unfold m6.l4 m6.cT
 ·rw[an (x:=(i:Int)+1) (by omega) (by omega),aa i]
  dsimp only
  repeat' first|exact hr|exact hf|refine aw ⟨by omega,by omega⟩ ?_|refine aw (by rw[an (x:=(i:Int)-1) (by omega) (by omega)];omega) ?_|refine av (fun _=> ?_) (fun _=> ?_)|refine cW (fun _=> ?_) (fun _=> ?_)|refine ok_eq (fun _=> ?_) (fun _=> ?_)|(exfalso;omega)|refine af (ZX N _ _) fun _ _=> ?_|refine bx (fun _=> ?_) (fun _=> ?_)
 ·exact av (fun _=>by omega) fun _=>ag fun _=>by omega
theorem Kz{σ β:Type}{P:β→Prop}{F:Nat→Int→σ→Option β}{len:Nat}(I:σ→Prop)
  (hs: ∀n i s,i<len→I s→(∀j s',i<j→j≤len→I s'→Ok P (F n (j:Int) s'))→Ok P (F (n+1) (i:Int) s)) (he: ∀n s,I s→Ok P (F (n+1) (len:Int) s)):
  ∀m n i s,len-i≤m→m<n→i≤len→I s→Ok P (F n (i:Int) s)
 |m,0,i,s,_,hn,_,_=>by omega
 |m,n+1,i,s,hm,hn,hi,hI=>by
  by_cases h:i<len
  ·exact hs n i s h hI fun j s' hj XA sH=>Kz I hs he (m-1) n j s' (by omega) (by omega) XA sH
  ·have:i=len:=by omega
   subst this
   exact he n s hI
theorem G5q{m:Nat}{x:uI}{q:Int}(h:G m oV x)(hq:aB q):G m oV (x.1,(x.2.1,(x.2.2.1,(x.2.2.2.1,(q,x.2.2.2.2.2))))):=⟨h.1,h.2.1,h.2.2.1,h.2.2.2.1,hq,trivial⟩
theorem ae8: ∀{w:List Int},Pos w→0≤w.sum
 |[],_=>avo _
 |x::t,h=>by
  rw[auO]
  have:=h x (auo ..)
  have:=ae8 (w:=t) fun y hy=>h y (auk _ hy)
  omega
theorem Mm{t:Int}{w:List Int}(h1:t<9223372036854775808)(h:(jF t w).2=0):(jF t w).1.length=w.length∧zB (jF t w).1:=by
 unfold jF at h ⊢
 split at h
 ·exact absurd h (by decide)
 ·split at h
  ·exact absurd h (by decide)
  ·rename_i h2 h3
   split at h
   ·split at h
    ·rename_i h4 h5
     rw[aui h2,aui h3,auh h4,auh h5]
     exact⟨aun ..,fun x hx=>by rw[awf hx];decide⟩
    ·exact absurd h (by decide)
   ·rename_i h4
    rw[aui h2,aui h3,aui h4]
    have hm:may w=true:=by
     by_cases hm:may w=true
     ·exact hm
     ·exact absurd (Or.inr (avX.2 hm)) h2
    have hp:=(eF.1 hm).2
    have h0:0≤t:=by omega
    have hS:0<w.sum:=by have:=ae8 hp;omega
    exact⟨eN t w,XR (pO h0 hS hp) (by rw[mN h0 hS];exact h1)⟩
theorem I5(N:Nat)(hN:5000000≤N){l:bc}{q:Int}{m:Nat}(hl:L5 m l)(hq:aB q):Ok (fun r=>L5 64 r.1∧aB r.2.1) (cB N l q):=by
 have eH: ∀e:Int,Ok (fun r:bc×Int×Int=>L5 64 r.1∧aB r.2.1) (some ([],((0:Int),e))):=fun e=>ag ⟨G.nil,aU⟩
 unfold cB cB.b
 refine af (Ml N (by omega) l) fun z hz=>bx (fun _=>eH _) fun ht=>av (fun _=>eH _) fun _=> ?_
 have ux:=hz ht
 rw[auK]
 refine aD (by rw[auA];omega) (Kz (len:=l.length) (F:=fun n i (s:bc×Int)=>cB.l5 N n s.1 s.2 i) (fun s=>s.1.length=l.length∧L5 64 s.1∧aB s.2) (fun n i s hi hI hr=> ?_) (fun n s hI=> ?_) l.length N 0 (l,q) (by omega) (by omega) (by omega) ⟨rfl,⟨ux,fun x hx=>G.mono (m:=0) (au3 _) (hl.2 x hx)⟩,hq⟩)
 all_goals unfold cB.l5 cB.du
 ·obtain⟨Ht,XE,hs3⟩:=hI
  refine av (fun _=> ?_) fun _=>by omega
  have fin: ∀(k:Nat) (w:List Int),i<k→k≤l.length→w.length=k-i→zB w→Ok (fun r=>L5 64 r.1∧aB r.2.1) (cB.HJ N (cB.l5 N n) s.1 s.2 (i:Int) (k:Int) w):=fun k w hk AN hw Dj=>by
   unfold cB.HJ cB.zU
   have yF:aB (mn (xt w.sum).1 s.2):=Sq (IP _) hs3
   refine bJ (s7 N (by omega) Dj (by omega)) (bJ (qW N _) (bx (fun _=>eH _) fun _=>bJ (vL N hN yF.2 Dj (by omega)) (bA (fun _=>eH _) fun h0=> ?_)))
   obtain⟨e1,e2⟩:=Mm yF.2 h0
   generalize (jF (mn (xt w.sum).1 s.2) w).1=v at*
   refine fW (len:=k) (F:=fun n' j (z:bc×Int)=>cB.vN N (cB.l5 N n) n' z.1 z.2 (i:Int) (k:Int) v j) (fun j z=>i≤j∧z.1.length=l.length∧L5 64 z.1∧aB z.2) (fun n' j z hj hz dT=> ?_) (fun n' z hz=> ?_) k N i s (by omega) (by omega) (by omega) ⟨aul i,Ht,XE,hs3⟩
   all_goals unfold cB.vN cB.th
   ·obtain⟨np,xS,HE,hz3⟩:=hz
    dsimp only
    rw[an (x:=(j:Int)+1) (by omega) (by omega),aa j,an (x:=(j:Int)-i) (by omega) (by omega)]
    exact av (fun _=>aw ⟨by omega,by omega⟩ (aw ⟨by omega,by omega⟩ (aw ⟨by omega,by omega⟩ (dT (_,_) ⟨by omega,by dsimp only;rw[List.length_set];exact xS,G.set HE (G5q (G.at HE _) (mC e2 _)) _,dP _⟩)))) fun _=>by omega
   ·exact av (fun _=>by omega) fun _=>hr k z hk AN hz.2
  refine fW (len:=l.length) (F:=fun n' k w=>cB.l8 N (cB.l5 N n) n' s.1 s.2 (i:Int) k w) (fun k w=>i≤k∧w.length=k-i∧zB w) (fun n' k w hk hw dT=> ?_) (fun n' w hw=> ?_) l.length N i [] (by omega) (by omega) (by omega) ⟨aul i,by rw[auA];omega,fun x hx=>nomatch hx⟩
  all_goals unfold cB.l8 cB.yb
  ·obtain⟨hik,hwl,Dj⟩:=hw
   rw[an (x:=(k:Int)+1) (by omega) (by omega),aa k]
   refine av (fun _=>aw ⟨by omega,by omega⟩ (aw ⟨by omega,by omega⟩ (ok_eq (fun _=>aw ⟨by omega,by omega⟩ (aD (by rw[aud];omega) (dT _ ⟨by omega,by rw[aug,aud];omega,fun x hx=> ?_⟩))) fun fL=> ?_))) fun _=>by omega
   ·rcases aut.1 hx with hx|hx
    ·exact Dj x hx
    ·rw[auE.1 hx];exact(G.at XE _).2.2.2.1
   ·refine fin k w ?_ (by omega) hwl Dj
    by_cases e:k=i
    ·subst e;exact absurd rfl fL
    ·omega
  ·exact av (fun _=>by omega) fun _=>fin l.length w hi (aul _) hw.2.1 hw.2.2
 ·exact av (fun _=>by omega) fun _=>ag ⟨hI.2.1,hI.2.2⟩
abbrev R0:cS:=((0:Int),((0:Int),(([]:bc),((0:Int),()))))
theorem Mn(N:Nat)(hN:5000000≤N){c:ae}{b:ah}{d g:ax}{a:Int}{m:Nat}(h2:200≤m)(hm:m≤40000)(hc:G m aq c)(hb:G m aA b)(hd:L2 m d)(hg:L2 m g)(ha:aB a):Ok (fun r=>G m aA r.1∧G m dQ r.2.1) (gT N c b a d g):=by
 have eH: ∀e:Int,Ok (fun r:ah×cS×Int=>G m aA r.1∧G m dQ r.2.1) (some ((bN,(cL,(br,(br,(c5,(de,())))))),(R0,e))):=fun e=>ag ⟨G.fc,G.zero m dQ⟩
 unfold gT gT.b
 refine af (Pw N hN (by omega) hc hb hd hg ha) fun l hl=>ok_eq (fun _=>eH _) fun _=>ok_eq (fun _=>eH _) fun _=>af (Mk N hN c (by omega) hb) fun q hq=>bA (fun _=>eH _) fun _=>bA (fun _=>eH _) fun _=>af (I5 N hN hl hq) fun z ⟨xS,HE⟩=>bA (fun _=>eH _) fun _=> ?_
 have hzl:=xS.1
 have hj: ∀(p:bk) (r:cS) (t:bc) (x k n:Int),ga 1000 p→G m dQ r→L5 64 t→aB x→Ok (fun r=>G m aA r.1∧G m dQ r.2.1) (gT.j26 N b (bN,(cL,(br,(br,(c5,(de,())))))) R0 p r t x k n):=fun p r t x k n hp hr ht hx=>by
  have Hv:=hp.1
  unfold gT.j26 gT.ZY
  exact af (aZ N (by omega) hx) fun v hv=>af (nZ N (by omega) _ _ _ _ (Bg.mono hv (by omega))) fun u hu=>aD (by have:=hu.1;omega) (af (nX N (by omega) h2 (by omega) hb G.nil (ga.mono (ga.app hp hu) (by omega))) fun w hw=>bA (fun _=>eH _) fun _=>ag ⟨hw,hr.1,hr.2.1,G.mono (by omega) ht,hr.2.2.2⟩)
 refine bh (len:=z.1.length) (F:=fun n i (s:bk×cS×bc)=>gT.L1 N n a c b (bN,(cL,(br,(br,(c5,(de,())))))) R0 z.1 z.2.1 s.1 s.2.1 s.2.2 i) (s:=(_,(_,_))) (fun i s=>ga (2*i) s.1∧G m dQ s.2.1∧L5 i s.2.2) ⟨ga.nil,⟨ha,hq,G.nil,HE,trivial⟩,G.nil⟩ (by omega) (fun n i s hi hI hr=> ?_) (fun n s hI=> ?_)
 all_goals unfold gT.L1 gT.IS
 ·obtain⟨h4,h5,h6⟩:=hI
  have hp:=h4.1
  have ht:=h6.1
  have hx:G 0 oV (z.1.getD (i:Int).toNat j2):=G.at xS _
  rw[an (x:=(i:Int)+1) (by omega) (by omega),aa i]
  exact av (fun _=>aw ⟨by omega,by omega⟩ (av (fun _=>aw ⟨by omega,by omega⟩ (aD (by rw[aud];omega) (aw ⟨by omega,by omega⟩ (aw ⟨by omega,by omega⟩ (aw ⟨by omega,by omega⟩ (af (aZ N (by omega) hx.2.2.2.2.1) fun v hv=>af (nZ N (by omega) _ _ _ _ (Bg.mono hv (by omega))) fun u hu=>aD (by have:=hu.1;omega) (hr (_,(_,_)) ⟨ga.mono (ga.app h4 hu) (by omega),⟨h5.1,h5.2.1,G.nil,h5.2.2.2⟩,G.cat h6 (G.one hx (aul 1))⟩))))))) fun _=>hr s ⟨ga.mono h4 (by omega),h5,G.mono (by omega) h6⟩)) fun _=>by omega
 ·obtain⟨h4,h5,h6⟩:=hI
  have hp:=h4.1
  dsimp only
  exact av (fun _=>by omega) fun _=>af (aZ N (by omega) HE) fun v hv=>af (nZ N (by omega) _ _ _ _ (Bg.mono hv (by omega))) fun u hu=>aD (by have:=hu.1;omega) (af (I4 N hN c (by omega) hb) fun x hx=>af (zX N (by omega) (by omega) hb.2.1 _) fun h hh=>bA (fun _=>hj _ _ _ _ _ _ (ga.mono (ga.app h4 hu) (by omega)) h5 (G.mono (by omega) h6) hx) fun _=>hj _ _ _ _ _ _ (ga.mono (ga.app h4 hu) (by omega)) h5 (G.mono (by omega) h6) hx)
end VM
end
section
namespace VM
open Go VM.F
theorem Mo(N:Nat)(hN:5000000≤N){t:Int}{w:List Int}(ht:t<9223372036854775808)(hw:zB w)(hl:w.length≤1000000):Ok (fun r=>r.2.2=0→r.1.length=w.length∧zB r.1) (c4 N t w w):=by
 refine kR (IN N hN ht hw hw hl) fun h0=> ?_
 have f:=zQ ht hw h0
 have c:=f.c
 have hl2:=c.l2
 refine⟨hl2,fun x hx=> ?_⟩
 obtain⟨i,hi,e⟩:=avq hx
 have h1:=c.le i (by omega)
 have h2:=(c.pc i).2
 have h3:=c.po i
 rw[aub (l:=(jK t w w).1),auf hi,av6,e]at h1 h3
 exact⟨by omega,by omega⟩
theorem SL(N:Nat)(hN:5000000≤N)(c:ae){b:ah}{m:Nat}(hm:m≤40000)(hb:G m aA b){a:Int}(ha:aB a):Ok (fun r=>L3 (m+1) r.1) (pV N c b a):=by
 have w:=(G.wf (by omega) hb).w
 have hl:=hb.2.2.2.1.1
 unfold pV pV.b
 refine bJ (dJ N hN (by omega) hb) (bx (fun _=>ag G.nil) fun _=>av (fun _=>ag G.nil) fun _=>cW (fun _=>ag G.nil) fun _=>bJ (uG N w.s (by omega) 0 a) (ok_eq (fun _=>ag G.nil) fun _=> ?_))
 have hq:=OP w.qs 0 a
 generalize aT b.2.2.2.1 0 a=q at*
 refine bh (len:=b.2.2.2.1.length) (F:=fun n i (s:List Int×List Int)=>pV.ve N n a b q s.1 s.2 i) (s:=(_,_)) (fun i s=>s.1.length≤i∧s.2.length=s.1.length∧zB s.1∧zB s.2) ⟨au3 _,rfl,(fun x hx=>nomatch hx),fun x hx=>nomatch hx⟩ (by omega) (fun n i s hi hI hr=> ?_) (fun n s hI=> ?_)
 all_goals unfold pV.ve pV.sy
 ·obtain⟨h1,h2,h3,h4⟩:=hI
  have hx:G 0 fG (b.2.2.2.1.getD (i:Int).toNat aW):=G.at hb.2.2.2.1 _
  rw[an (x:=(i:Int)+1) (by omega) (by omega),aa i]
  have h0:=hr s ⟨by omega,h2,h3,h4⟩
  have sn: ∀{l:List Int} {x:Int},zB l→aB x→zB (l++[x]):=fun hl hx y hy=>(aut.1 hy).elim (hl y) fun hy=>by rw[auE.1 hy];exact hx
  dsimp only
  exact av (fun _=>aw ⟨by omega,by omega⟩ (bA (fun _=>ok_eq (fun _=>oT (fun _=>aD (by rw[List.length_singleton];omega) (aD (by rw[List.length_singleton];omega) (hr (_,_) ⟨by dsimp only;rw[List.length_append,List.length_singleton];omega,by dsimp only;rw[List.length_append,List.length_append,List.length_singleton,List.length_singleton];omega,sn h3 hx.1,sn h4 (vR hx.2.2.1 (dP _))⟩))) fun _=>h0) fun _=>h0) fun _=>h0)) fun _=>by omega
 ·obtain⟨h1,h2,h3,h4⟩:=hI
  refine av (fun _=>by omega) fun _=>af (Mo N hN (vR hq (dP _)).2 h4 (by omega)) fun z hz=>bA (fun _=>ag G.nil) fun h0=> ?_
  obtain⟨e1,e2⟩:=hz h0
  refine bh (len:=z.1.length) (F:=fun n i u=>pV.xC N n a q s.1 z.1 u i) (fun i u=>L3 (1+i) u) (G.one (m:=1) (G3 aU ha (dP _)) (aul 1)) (by omega) (fun n i u hi hu hr=> ?_) (fun n u hu=> ?_)
  all_goals unfold pV.xC pV.xD
  ·have XP:=hu.1
   rw[an (x:=(i:Int)+1) (by omega) (by omega),aa i]
   have h0:=hr u (G.mono (by omega) hu)
   have put: ∀x:Int,aB x→Ok (fun r=>L3 (m+1) r.1) (cond (small (u.length+[((s.1.getD (i:Int).toNat 0,(a,(x,()))):cm)].length)) (pV.xC N n a q s.1 z.1 (u++[(s.1.getD (i:Int).toNat 0,(a,(x,())))]) ((i+1:Nat):Int)) none):=fun x hx=>aD (by rw[aud];omega) (hr _ (G.mono (by omega) (G.cat hu (G.one (m:=1) (G3 (mC h3 _) ha hx) (aul 1)))))
   dsimp only
   exact av (fun _=>aw ⟨by omega,by omega⟩ (av (fun _=>bA (fun _=>aw ⟨by omega,by omega⟩ (put _ (dP _))) fun _=>h0) fun _=>bA (fun _=>aw ⟨by omega,by omega⟩ (put _ (mC e2 _))) fun _=>h0)) fun _=>by omega
  ·exact av (fun _=>by omega) fun _=>ag (G.mono (by omega) hu)
theorem SM(N:Nat)(hN:5000000≤N){c:ae}{b:ah}{m:Nat}(h2:200≤m)(hm:m≤7000)(hc:G 5 aq c)(hb:G m aA b):Ok (fun r=>G m aA r.1) (zY N c b):=by
 have DS:=hc.1.1
 unfold zY zY.b
 refine bJ (dJ N hN (by omega) hb) (bx (fun _=>ag G.fc) fun _=>bh (len:=c.1.length) (F:=fun n i s=>zY.l5 N n c b (bN,(cL,(br,(br,(c5,(de,())))))) s i) (fun i s=>L3 ((m+1)*i) s) G.nil (by omega) (fun n i s hi hI hr=> ?_) (fun n s hI=> ?_))
 all_goals unfold zY.l5 zY.du
 ·have hs:=hI.1
  have hmi:(m+1)*i≤(m+1)*5:=avK _ (by omega)
  rw[an (x:=(i:Int)+1) (by omega) (by omega),aa i]
  exact av (fun _=>af (SL N hN c (by omega) hb (fP (by omega) (by omega))) fun r Qp=>bA (fun _=>ag G.fc) fun _=>aD (by have:=Qp.1;omega) (hr _ (G.mono (by rw[axF];omega) (G.cat hI Qp)))) fun _=>by omega
 ·have hmi:(m+1)*c.1.length≤(m+1)*5:=avK _ (by omega)
  exact av (fun _=>by omega) fun _=>af (nX N (by omega) h2 (by omega) hb (G.mono (by omega) hI) ga.nil) fun r hr=>ag hr
end VM
end
section
namespace VM
open Go VM.F
theorem SN(N:Nat)(hN:200000≤N){l:aF}{m:Nat}(hm:m≤50000)(h:G m (.slice db) l)(a:Int):Ok (fun r=>G 0 db r.1) (zZ N l a):=by
 have hl:=h.1
 have hz:G 0 db aO:=G.zero 0 db
 unfold zZ zZ.b
 refine bJ (rf N (by omega) hN) (bx (fun _=>ag hz) fun _=>bh (len:=l.length) (F:=fun n i (z:bQ×Bool)=>zZ.l6 N n l a aO z.1 z.2 i) (s:=(_,_)) (fun _ z=>G 0 db z.1) hz (by omega) (fun n i z hi hI hr=> ?_) (fun n z hI=> ?_))
 all_goals unfold zZ.l6 zZ.ov
 ·rw[an (x:=(i:Int)+1) (by omega) (by omega),aa i]
  have hx:G 0 db (l.getD (i:Int).toNat aO):=G.at h _
  have h1:=hr z hI
  have h2:=hr (_,true) hx
  repeat' first|exact h1|exact h2|refine aw ⟨by omega,by omega⟩ ?_|refine av (fun _=> ?_) (fun _=> ?_)|refine ok_eq (fun _=> ?_) (fun _=> ?_)|refine bx (fun _=> ?_) (fun _=> ?_)|(exfalso;omega)
 ·exact av (fun _=>by omega) fun _=>ag hI
theorem GL{m:Nat}{a b d e f:Int}{l:ax}(ha:aB a)(hl:L2 m l)(hb:aB b)(hd:aB d)(he:aB e)(hf:aB f):G m gb (a,(l,(b,(d,(e,(f,())))))):=⟨ha,hl,hb,hd,he,hf,trivial⟩
theorem LL.app{m:Nat}{k:Nat}{l:aX}{x:fX}(hl:l.length≤k∧ ∀y∈l,G m gb y)(hx:G m gb x):(l++[x]).length≤k+1∧ ∀y∈l++[x],G m gb y:=
 ⟨by rw[aug,aud];have:=hl.1;omega,fun y hy=>(aut.1 hy).elim (hl.2 y) fun hy=>by rw[auE.1 hy];exact hx⟩
theorem Px(N:Nat)(hN:5000000≤N)(c:ae){b:ah}{L:aX}{l:aF}{m:Nat}(h2:200≤m)(hm:m≤2000)(hb:G m aA b)(hL:LL m L)(hl:G m (.slice db) l):Ok (fun r=>G m aA r.1∧LL m r.2.1) (oi N c b L l):=by
 have eH: ∀e:Int,Ok (fun r:ah×aX×Int=>G m aA r.1∧LL m r.2.1) (some ((bN,(cL,(br,(br,(c5,(de,())))))),([],e))):=fun e=>ag ⟨G.fc,G.nil⟩
 have h3:=hL.1
 have h4:=hl.1
 have hw:Fl L:=fun y hy=>auX (hL.2 y hy).2.1.1 (by omega)
 unfold oi oi.b
 refine bJ (dJ N hN (by omega) hb) (bx (fun _=>eH _) fun _=>bJ (zv N (by omega) c (by omega) hw) (bx (fun _=>eH _) fun hk=>bJ (rf N (by omega) (by omega)) (bx (fun _=>eH _) fun _=> ?_)))
 have h12:L.length≤12:=by
  unfold IC at hk
  exact auw (auF.1 (auF.1 hk).2).1
 refine bh (len:=L.length) (F:=fun n i (z:aj×bk×aX)=>oi.l7 N n L l b (bN,(cL,(br,(br,(c5,(de,())))))) z.1 z.2.1 z.2.2 i) (s:=(_,(_,_))) (fun i z=>L3 (2*m*i) z.1∧ga (2*i) z.2.1∧z.2.2.length≤i∧ ∀y∈z.2.2,G m gb y) ⟨G.nil,ga.nil,au3 _,fun y hy=>nomatch hy⟩ (by omega) (fun n i z hi hI hr=> ?_) (fun n z hI=> ?_)
 all_goals unfold oi.l7 oi.n9
 ·obtain⟨h5,h6,h7⟩:=hI
  have h8:=h6.1
  have h9:=h7.1
  have hmi:2*m*i≤2*m*12:=avK _ (by omega)
  have hms:2*m*(i+1)=2*m*i+2*m:=axF _ _
  have hx:G m gb (L.getD (i:Int).toNat ((0:Int),(bN,aO))):=G.at hL _
  have hxl:=hx.2.1.1
  rw[an (x:=(i:Int)+1) (by omega) (by omega),aa i]
  dsimp only
  rw[auK]
  have put: ∀x:fX,G m gb x→Ok (fun r=>G m aA r.1∧LL m r.2.1) (cond (small (z.2.2.length+[x].length)) (oi.l7 N n L l b (bN,(cL,(br,(br,(c5,(de,())))))) z.1 z.2.1 (z.2.2++[x]) ((i+1:Nat):Int)) none):=fun x hx=>aD (by rw[aud];omega) (hr (z.1,(z.2.1,z.2.2++[x])) ⟨G.mono (by omega) h5,ga.mono h6 (by omega),LL.app h7 hx⟩)
  refine av (fun _=>aw ⟨by omega,by omega⟩ (aD (by rw[auA];omega) (bA (fun _=>put _ hx) fun _=>af (SN N (by omega) (by omega) hl _) fun w hw=>bx (fun _=>put _ (GL hx.1 hx.2.1 hx.2.2.1 (show aB 3 from aV) hx.2.2.2.2.1 hx.2.2.2.2.2.1)) fun _=>af (zX N (by omega) (by omega) hb.2.1 _) fun h hh=>ok_eq (fun _=>eH _) fun _=>af (sd N (by omega) (by omega) hb _) fun _ _=>ok_eq (fun _=>eH _) fun _=> ?_))) fun _=>by omega
  have ns:=GL hx.1 hx.2.1 hx.2.2.1 (show aB 2 from aV) hw.2.2.1 hw.2.2.2.1
  generalize hX:(((L.getD (i:Int).toNat ((0:Int),(bN,aO))).1,((L.getD (i:Int).toNat ((0:Int),(bN,aO))).2.1,((L.getD (i:Int).toNat ((0:Int),(bN,aO))).2.2.1,((2:Int),(w.1.2.2.1,(w.1.2.2.2.1,())))))):fX)=X at ns
  have hXl:X.2.1.length≤m:=ns.2.1.1
  refine bh (len:=X.2.1.length) (F:=fun n' j u=>oi.oa N (oi.l7 N n) n' L l b (bN,(cL,(br,(br,(c5,(de,())))))) u z.2.1 z.2.2 (i:Int) X w.1 h j) (s:=z.1) (fun j u=>L3 (2*m*i+2*j) u) h5 (by omega) (fun n' j u hj hu dT=> ?_) (fun n' u hu=> ?_)
  all_goals unfold oi.oa oi.ob
  ·have XP:=hu.1
   have hy:G m gP (X.2.1.getD (j:Int).toNat ch):=G.at ns.2.1 _
   dsimp only
   rw[an (x:=(j:Int)+1) (by omega) (by omega),aa j]
   exact av (fun _=>aw ⟨by omega,by omega⟩ (aw ⟨by omega,by omega⟩ (aw ⟨by omega,by omega⟩ (aw ⟨by omega,by omega⟩ (aD (by rw[sb];omega) (dT _ (G.mono (by omega) (G.cat hu (G.two (m:=2) (G3 aU hy.1 (dP _)) (G3 hh hy.1 hy.2.1) (aul 2)))))))))) fun _=>by omega
  ·refine av (fun _=>by omega) fun _=>af (aZ N (by omega) hw.2.2.2.1) fun v hv=>af (nZ N (by omega) _ _ _ _ (Bg.mono hv (by omega))) fun p hp=>aD (by have:=hp.1;omega) (aD (by rw[aud];omega) ?_)
   rw[an (x:=(i:Int)+1) (by omega) (by omega),aa i]
   exact hr (_,(_,_)) ⟨G.mono (by omega) hu,ga.mono (ga.app h6 hp) (by omega),LL.app h7 ns⟩
 ·obtain⟨h5,h6,h7⟩:=hI
  have hmi:2*m*L.length≤2*m*12:=avK _ (by omega)
  exact av (fun _=>by omega) fun _=>af (nX N (by omega) h2 (by omega) hb (G.mono (by omega) h5) (ga.mono h6 (by omega))) fun r hr=>bA (fun _=>eH _) fun _=>ag ⟨hr,auX h7.1 (by omega),h7.2⟩
end VM
end
section
namespace VM
open Go VM.F
theorem Py{l:aF}(h:lf l=true):l.length≤24:=by
 unfold lf at h
 rw[awg]at h
 have h:=auw h
 have key: ∀i,i<l.length→(i:Int)+1≤(l.getD i aO).1:=by
  intro i
  induction i with
  |zero=>intro hi;exact(h 0 hi).1.1.1
  |succ i ih=>
   intro hi
   have h1:=ih (by omega)
   have h2:(l.getD i aO).1<(l.getD (i+1) aO).1:=(h (i+1) hi).2.1 (by omega)
   have g: ∀a b:Int,(i:Int)+1≤a→a<b→((i+1:Nat):Int)+1≤b:=fun a b h1 h2=>by omega
   exact g _ _ h1 h2
 by_cases hl:l.length≤24
 ·exact hl
 ·have h1:=key 24 (by omega)
  have h2:=(h 24 (by omega)).1.1.2
  have g: ∀a:Int,((24:Nat):Int)+1≤a→a≤24→False:=fun a h1 h2=>by omega
  exact(g _ h1 h2).elim
theorem Mp(N:Nat)(hN:5000000≤N){c:ae}{b:ah}{m:Nat}(hm:m≤40000)(hc:G m aq c)(hb:G m aA b)(a:Int):Ok (fun r=>aB r.1) (SO N c b a):=by
 unfold SO Pq
 exact bJ (dJ N hN (by omega) hb) (bx (fun _=>ag aU) fun _=>af (sa N (by omega) (by omega) hb.2.1 _) fun _ _=>bx (fun _=>ag aU) fun _=>af (FK N (by omega) (by omega) hb.2.2.2.1 _) fun l hl=>af (Q:=fun r=>Bg 60000 r.1) (af (vS N (by omega) (by omega) hc hl _) fun r hr=>ag hr) fun u hu=>af (se N (by omega) (by omega) hb _) fun g hg=>cW (fun _=>ag aU) fun _=>af (tj N hu) fun v hv=>oT (fun _=>av (fun _=>ag hv) fun _=>ag hg) fun _=>ag hg)
theorem Pz(N:Nat)(hN:200000≤N){l:aj}{a d:Int}{m:Nat}(hm:m≤50000)(h:L3 m l)(ha:aB a)(hd:aB d):Ok (fun r=>L3 (2*m) r) (lM N l a d):=by
 have hl:=h.1
 unfold lM lM.b
 refine bJ (lX N (by omega) hN) (bx (fun _=>ag G.nil) fun _=>ok_eq (fun _=>ag G.nil) fun _=>av (fun _=>ag G.nil) fun _=>av (fun _=>ag G.nil) fun _=>av (fun _=>ag G.nil) fun _=>av (fun _=>ag G.nil) fun _=>bh (len:=l.length) (F:=fun n i s=>lM.l5 N n l a d s i) (fun i s=>L3 (2*i) s) G.nil (by omega) (fun n i s hi hI hr=> ?_) (fun n s hI=> ?_))
 all_goals unfold lM.l5 lM.du
 ·have hs:=hI.1
  have hx:=G.at h (i:Int).toNat
  dsimp only
  rw[an (x:=(i:Int)+1) (by omega) (by omega),aa i]
  have h1:=hr s (G.mono (by omega) hI)
  exact av (fun _=>aw ⟨by omega,by omega⟩ (ok_eq (fun _=>aw ⟨by omega,by omega⟩ (aw ⟨by omega,by omega⟩ (aw ⟨by omega,by omega⟩ (aw ⟨by omega,by omega⟩ (aD (by rw[sb];omega) (hr _ (G.mono (by omega) (G.cat hI (G.two (m:=2) (G3 ha hx.2.1 (dP _)) (G3 hd hx.2.1 hx.2.2.1) (aul 2)))))))))) fun _=>h1)) fun _=>by omega
 ·exact av (fun _=>by omega) fun _=>ag (G.mono (by omega) hI)
theorem SP(N:Nat)(hN:5000000≤N){c:ae}{b:ah}{m:Nat}(h2:200≤m)(hm:m≤1000)(hc:G m aq c)(hb:G m aA b)(a:Int):Ok (fun r=>G m aA r.1) (fI N c b a):=by
 unfold fI fI.b
 refine bJ (dJ N hN (by omega) hb) (bx (fun _=>ag G.fc) fun hB=>af (sd N (by omega) (by omega) hb _) fun _ _=>ok_eq (fun _=>ag G.fc) fun _=> ?_)
 have XQ:b.2.1.length≤24:=by
  unfold dn at hB
  have h1:=(auF.1 (auF.1 hB).2).1
  unfold q4 at h1
  exact Py (auF.1 (auF.1 h1).2).1
 refine bh (len:=b.2.1.length) (F:=fun n i (z:aj×bk)=>fI.l8 N n a c b (bN,(cL,(br,(br,(c5,(de,())))))) z.1 z.2 i) (s:=(_,_)) (fun i z=>L3 (2*m*i) z.1∧ga (4*i) z.2) ⟨G.nil,ga.nil⟩ (by omega) (fun n i z hi hI hr=> ?_) (fun n z hI=> ?_)
 all_goals unfold fI.l8 fI.yb
 ·obtain⟨h5,h6⟩:=hI
  have h7:=h5.1
  have h8:=h6.1
  have hmi:2*m*i≤2*m*24:=avK _ (by omega)
  have hms:2*m*(i+1)=2*m*i+2*m:=axF _ _
  have hx:G m db (b.2.1.getD (i:Int).toNat aO):=G.at hb.2.1 _
  have hj: ∀p:bk,ga (4*i+2) p→Ok (fun r=>G m aA r.1) (fI.Bc N (fI.l8 N n) a c b (bN,(cL,(br,(br,(c5,(de,())))))) z.1 p (i:Int) (b.2.1.getD (i:Int).toNat aO)):=fun p hp=>by
   have Hv:=hp.1
   unfold fI.Bc fI.tk
   rw[an (x:=(i:Int)+1) (by omega) (by omega),aa i]
   exact af (se N (by omega) (by omega) hb _) fun g hg=>av (fun _=>af (aZ N (by omega) hg) fun v hv=>af (oU N (by omega) (by omega) hv) fun v hv=>af (nZ N (by omega) _ _ _ _ (Bg.mono hv (by omega))) fun u hu=>aD (by have:=hu.1;omega) (af (Pz N (by omega) (by omega) hb.2.2.2.1 hx.1 aU) fun s hs=>aD (by have:=hs.1;omega) (hr (_,_) ⟨G.mono (by omega) (G.cat h5 hs),ga.mono (ga.app hp hu) (by omega)⟩))) fun _=>af (Pz N (by omega) (by omega) hb.2.2.2.1 hx.1 aU) fun s hs=>aD (by have:=hs.1;omega) (hr (_,_) ⟨G.mono (by omega) (G.cat h5 hs),ga.mono hp (by omega)⟩)
  rw[an (x:=(i:Int)+1) (by omega) (by omega),aa i]
  exact av (fun _=>aw ⟨by omega,by omega⟩ (bA (fun _=>hr z ⟨G.mono (by omega) h5,ga.mono h6 (by omega)⟩) fun _=>ok_eq (fun _=>af (Mp N hN (by omega) hc hb _) fun q hq=>af (aZ N (by omega) hq) fun v hv=>af (nZ N (by omega) _ _ _ _ (Bg.mono hv (by omega))) fun u hu=>aD (by have:=hu.1;omega) (hj _ (ga.mono (ga.app h6 hu) (by omega)))) fun _=>hj _ (ga.mono h6 (by omega)))) fun _=>by omega
 ·obtain⟨h5,h6⟩:=hI
  have hmi:2*m*b.2.1.length≤2*m*24:=avK _ (by omega)
  exact av (fun _=>by omega) fun _=>af (nX N (by omega) h2 (by omega) hb (G.mono (by omega) h5) (ga.mono h6 (by omega))) fun r hr=>ag hr
abbrev GS(m:Nat)(s:aP):Prop:=G m cC s
abbrev SR(m:Nat)(r:aP×cm):Prop:=GS m r.1
theorem Dx(N:Nat)(e:Int):Ok (fun _=>True) (dR N e):=by
 unfold dR;exact dm
theorem Mq(N:Nat)(hN:5000000≤N){c:ae}{s:aP}{e:fy}{m:Nat}(h2:200≤m)(hm:m≤1000)(hc:G m aq c)(hs:GS m s)(he:G 0 lZ e):Ok (SR m) (m7 N c s e):=by
 have hhl:=hs.2.2.2.1.2.2.2.2.1.1
 unfold m7 m7.b
 generalize ((0:Int),((0:Int),_))=S0
 refine bh (len:=s.2.2.2.1.2.2.2.2.1.length) (F:=fun n i (z:aP×aF×Bool×Int)=>m7.l5 N n c z.1 e S0 aW z.2.1 z.2.2.1 z.2.2.2 i) (s:=(_,(_,(_,_)))) (fun i z=>GS m z.1∧z.1.2.2.2.1.2.2.2.2.1=s.2.2.2.1.2.2.2.2.1∧G i (.slice db) z.2.1) ⟨hs,rfl,G.nil⟩ (by omega) (fun n i z hi hI hr=> ?_) (fun n z hI=> ?_)
 all_goals unfold m7.l5 m7.du
 ·obtain⟨hz,hh,ho⟩:=hI
  have DU:=ho.1
  rw[hh,an (x:=(i:Int)+1) (by omega) (by omega),aa i]
  have hx:G 0 db (s.2.2.2.1.2.2.2.2.1.getD (i:Int).toNat aO):=G.at hs.2.2.2.1.2.2.2.2.1 _
  refine av (fun _=>aw ⟨by omega,by omega⟩ (ok_eq (fun _=>af (Sp N hN h2 (by omega) hc hz.2.2.1 (G.mono (au3 m) hx) he.2.2.1 he.2.2.2.2.2.2.1 he.2.2.2.2.2.2.2.1) fun r ⟨CS,DR⟩=>bA (fun _=>af (Dx N _) fun _ _=>ag hz) fun _=> ?_) fun _=>av (fun _=>aD (by rw[aud];omega) (hr (z.1,(z.2.1++[s.2.2.2.1.2.2.2.2.1.getD (i:Int).toNat aO],z.2.2)) ⟨hz,hh,G.cat ho (G.one hx (aul 1))⟩)) fun _=>hr z ⟨hz,hh,G.mono (by omega) ho⟩)) fun _=>by omega
  have Ay:GS m (z.1.1,(z.1.2.1,(r.1,z.1.2.2.2))):=⟨hz.1,hz.2.1,CS,hz.2.2.2⟩
  have akB:G 0 db r.2.1:=DR
  exact av (fun _=>aD (by rw[aud];omega) (hr ((z.1.1,(z.1.2.1,(r.1,z.1.2.2.2))),(z.2.1++[r.2.1],(true,r.2.1.2.2.2.1))) ⟨Ay,hh,G.cat ho (G.one akB (aul 1))⟩)) fun _=>hr ((z.1.1,(z.1.2.1,(r.1,z.1.2.2.2))),(z.2.1,(true,r.2.1.2.2.2.1))) ⟨Ay,hh,G.mono (by omega) ho⟩
 ·obtain⟨hz,hh,ho⟩:=hI
  rw[hh]
  exact av (fun _=>by omega) fun _=>bx (fun _=>af (Dx N _) fun _ _=>ag hz) fun _=>ag ⟨hz.1,hz.2.1,hz.2.2.1,⟨hz.2.2.2.1.1,hz.2.2.2.1.2.1,hz.2.2.2.1.2.2.1,hz.2.2.2.1.2.2.2.1,G.mono hhl ho,hz.2.2.2.1.2.2.2.2.2⟩,hz.2.2.2.2⟩
end VM
end
section
namespace VM
open Go VM.F
theorem z2(N:Nat)(hN:4000000≤N){s:aP}{q:Int}(hs:aB s.1)(hq:aB q):Ok (fun r=>aB r.1) (Mr N s q):=by
 unfold Mr
 exact af (aZ N hN hs) fun a ha=>af (aZ N hN hq) fun b hb=>af (gO N hN (by omega) ha hb) fun x hx=>af (tj N hx) fun v hv=>ag hv
theorem bU{α:Type}{P:α×cm→Prop}{N:Nat}{e:Int}{f:cm→Option (α×cm)}(h: ∀r,Ok P (f r)):Ok P ((dR N e).bind f):=af (Dx N e) fun r _=>h r
theorem PA(N:Nat)(hN:5000000≤N){c:ae}{s:aP}{e:fy}{m:Nat}(h2:200≤m)(hm:m≤999)(hc:G 5 aq c)(hs:GS m s)(he:G 0 lZ e):Ok (SR (m+1)) (m8 N c s e):=by
 have KY:G m aq c:=G.mono (by omega) hc
 have JI:GS (m+1) s:=G.mono (by omega) hs
 obtain⟨s1,s2,s3,⟨k1,k2,k3,k4,k5,k6,k7,k8,k9,PB,SQ⟩,s5⟩:=JI
 have hk:=hs.2.2.2.1
 have i2:aB 2:=aV
 have i3:aB 3:=aV
 have up: ∀{τ:Ty} {x:τ.den},G m τ x→G (m+1) τ x:=fun h=>G.mono (by omega) h
 have bt: ∀r:cm,Ok (SR (m+1)) (some (s,r)):=fun r=>ag (up hs)
 unfold m8 m8.b
 refine ok_eq (fun _=> ?_) fun _=>ok_eq (fun _=> ?_) fun _=>ok_eq (fun _=> ?_) fun _=>ok_eq (fun _=> ?_) fun _=>ok_eq (fun _=> ?_) fun _=>ok_eq (fun _=> ?_) fun _=>ok_eq (fun _=> ?_) fun _=>ok_eq (fun _=> ?_) fun _=>bU fun r=>bt r
 ·exact af (SD N hN (by omega) KY hs.2.2.1 _ he.2.1 _) fun r hr=>bU fun _=>ag ⟨s1,s2,up hr,(up hs).2.2.2⟩
 ·exact af (SP N hN h2 (by omega) KY hs.2.2.1 _) fun r hr=>bU fun _=>ag ⟨s1,s2,up hr,⟨k1,i2,aU,k4,k5,k6,k7,k8,k9,PB,SQ⟩,s5⟩
 ·exact af (L4 N hN c hc.2.2.2.2.2.2.1 (by omega) hs.2.2.1 _) fun r hr=>ag ⟨s1,dP _,s3,⟨k1,k2,k3,k4,G.mono (by omega) hr,k6,k7,k8,k9,PB,SQ⟩,s5⟩
 ·exact af (Mq N hN h2 (by omega) KY hs he) fun r hr=>ag (up hr)
 ·exact ok_eq (fun _=>bU fun r=>bt r) fun _=>af (SI N hN h2 (by omega) KY hs.2.2.1 hs.2.1) fun l hl=>bA (fun _=>bU fun r=>bt r) fun _=>af (z2 N (by omega) hs.1 hc.2.2.2.2.1) fun t ht=>bx (fun _=>bU fun r=>bt r) fun _=>af (SG N hN c (by omega) hs.2.2.1) fun u hu=>ag ⟨s1,dP _,s3,⟨k1,i3,ht,dP _,G.nil,up hl,G.nil,up hu,k9,PB,SQ⟩,s5⟩
 ·have hx:G 0 db (s.2.1,(e.2.2.2.2.2.1,(e.2.1,(e.2.2.2.2.2.2.2.1,())))):=⟨hs.2.1,he.2.2.2.2.2.1,he.2.1,he.2.2.2.2.2.2.2.1,trivial⟩
  exact af (Mh N hN (by omega) (by omega) KY hs.2.2.1 hk.2.2.2.2.2.1 hk.2.2.2.2.2.2.1 hx) fun r hr=>ag ⟨s1,dP _,s3,⟨k1,k2,k3,k4,k5,k6,hr,k8,k9,PB,SQ⟩,s5⟩
 ·refine af (Px N hN c h2 (by omega) hs.2.2.1 hk.2.2.2.2.2.1 hk.2.2.2.2.2.2.1) fun r ⟨CS,DR⟩=>bA (fun _=>bU fun r=>bt r) fun _=>af (Ps N (by omega) c h2 (by omega) hk.2.2.2.2.2.2.2.2.1 hk.2.2.2.2.2.2.2.1.1 DR hk.2.2.2.2.2.2.1) fun d hd=> ?_
  generalize ((0:Int),((0:Int),_))=S0
  have Hs:=DR.1
  refine bh (len:=r.2.1.length) (F:=fun n i q=>m8.l41 N n _ S0 aW r.2.1 q i) (fun _ _=>True) trivial (by omega) (fun n i q hi _ dT=> ?_) (fun n q _=> ?_)
  all_goals unfold m8.l41 m8.ZZ
  ·rw[an (x:=(i:Int)+1) (by omega) (by omega),aa i]
   exact av (fun _=>aw ⟨by omega,by omega⟩ (ok_eq (fun _=>dT _ trivial) fun _=>dT _ trivial)) fun _=>by omega
  ·exact av (fun _=>by omega) fun _=>ag ⟨s1,s2,up CS,⟨k1,i2,aU,k4,k5,up DR,k7,k8,up hd,PB,SQ⟩,s5⟩
 ·exact af (Mn N hN h2 (by omega) KY hs.2.2.1 hk.2.2.2.2.2.2.2.2.1 hk.2.2.2.2.2.2.2.2.2.1 hk.1) fun r ⟨CS,DR⟩=>bA (fun _=>bU fun r=>bt r) fun _=>af (SM N hN h2 (by omega) hc CS) fun b hb=>bA (fun _=>bU fun r=>bt r) fun _=>af (Kx N (by omega) (by omega) hb.1 _ _) fun u hu=>ag ⟨s1,s2,⟨up hu,(up hb).2⟩,G.zero (m+1) kV,up DR,trivial⟩
end VM
end
section
namespace VM
open Go VM.F
theorem PC(N:Nat)(s:aP)(k:Int):Ok (fun _=>True) (SS N s k):=by
 unfold SS
 repeat' first|exact dm|refine ok_eq (fun _=> ?_) (fun _=> ?_)
theorem sh(N:Nat)(hN:200000≤N){s:aP}{m:Nat}(hm:m≤50000)(hs:GS m s)(k:Int):Ok (fun _=>True) (Dy N s k):=by
 unfold Dy
 exact af (lY N hN hm hs.2.2.1.1 _) fun _ _=>dm
theorem PD(N:Nat)(hN:200000≤N){s:aP}{m:Nat}(hm:m≤50000)(hs:GS m s)(k:Int):Ok (fun _=>True) (PE N s k):=by
 unfold PE
 exact af (sa N hN hm hs.2.2.1.2.1 _) fun _ _=>dm
theorem SU(N:Nat)(hN:4000000≤N){s:aP}{m:Nat}(h2:200≤m)(hm:m≤50000)(hs:GS m s)(a b c d:Int){q:Int}(hq:aB q):Ok (SR m) (Ms N s a b c d q):=by
 unfold Ms
 exact af (aZ N hN hq) fun x hx=>af (nZ N hN _ _ _ _ (Bg.mono hx (by omega))) fun p hp=>af (nX N hN h2 hm hs.2.2.1 G.nil (ga.mono hp (by omega))) fun r hr=>ag ⟨hs.1,hs.2.1,hr,hs.2.2.2⟩
theorem PF(N:Nat)(hN:5000000≤N){c:ae}{s:aP}{e:fy}{m:Nat}(h2:200≤m)(hm:m≤999)(hc:G 5 aq c)(hs:GS m s)(he:G 0 lZ e):Ok (SR (m+1)) (pW N c s e):=by
 obtain⟨s1,s2,s3,⟨k1,k2,k3,k4,k5,k6,k7,k8,k9,PB,SQ⟩,s5⟩:=hs
 have hs:GS m s:=⟨s1,s2,s3,⟨k1,k2,k3,k4,k5,k6,k7,k8,k9,PB,SQ⟩,s5⟩
 have up: ∀{x:aP},GS m x→ ∀r:cm,Ok (SR (m+1)) (some (x,r)):=fun h r=>ag (P:=SR (m+1)) (G.mono (awN m) h)
 have i1:aB 1:=aV
 have us: ∀{τ:Ty} {x:τ.den},G m τ x→G (m+1) τ x:=fun h=>G.mono (by omega) h
 unfold pW pW.b
 have hj: ∀(S0:aP) (z:cm),Ok (SR (m+1)) (pW.Pp N c s e S0 z):=fun S0 z=>by
  unfold pW.Pp pW.I1
  exact af (PC N _ _) fun _ _=>bx (fun _=>bU fun r=>up hs r) fun _=>af (PA N hN h2 hm hc hs he) fun r hr=>ag hr
 have mem: ∀{x:ax},G m (.slice gP) x→G m aA ((x,s.2.2.1.2):ah):=fun h=>⟨h,s3.2⟩
 have hd: ∀z:ax×Int,G m (.slice gP) z.1→Ok (SR (m+1)) (cond (ay z.2 0) (cond (ay e.1 11) ((Md N c (z.1,s.2.2.1.2) e.2.1).bind fun r2=>cond (ay s.2.2.2.1.2.1 3) ((ll N s.2.2.2.1.2.2.2.2.2.2.1 e.2.1).bind fun r3=>(dR N z.2).bind fun r4=>some ((s.1,(s.2.1,(r2.1,((s.2.2.2.1.1,(s.2.2.2.1.2.1,(s.2.2.2.1.2.2.1,(s.2.2.2.1.2.2.2.1,(s.2.2.2.1.2.2.2.2.1,(s.2.2.2.1.2.2.2.2.2.1,(r3,s.2.2.2.1.2.2.2.2.2.2.2))))))),s.2.2.2.2)))),r4)) ((dR N z.2).bind fun r5=>some ((s.1,(s.2.1,(r2.1,s.2.2.2))),r5))) ((dR N z.2).bind fun r6=>some ((s.1,(s.2.1,((z.1,s.2.2.1.2),s.2.2.2))),r6))) ((dR N z.2).bind fun r7=>some ((s.1,(s.2.1,((z.1,s.2.2.1.2),s.2.2.2))),r7))):=fun z hz=>
  ok_eq (fun _=>ok_eq (fun _=>af (FT N hN c (by omega) (mem hz) _) fun b hb=>ok_eq (fun _=>af (FU N (by omega) (by omega) k7 _) fun l hl=>bU fun r=>ag ⟨s1,s2,us hb,⟨k1,k2,k3,k4,us k5,us k6,us hl,us k8,us k9,us PB,trivial⟩,us s5⟩) fun _=>bU fun r=>ag ⟨s1,s2,us hb,(us hs).2.2.2⟩) fun _=>bU fun r=>ag ⟨s1,s2,us (mem hz),(us hs).2.2.2⟩) fun _=>bU fun r=>ag ⟨s1,s2,us (mem hz),(us hs).2.2.2⟩
 have KP:=fun k:Int=>Kx N (by omega) (m:=m) (by omega) s3.1 e.2.1 k
 refine ok_eq (fun _=>af (KP _) fun z hz=>hd z hz) fun _=>ok_eq (fun _=>af (KP _) fun z hz=>hd z hz) fun _=>ok_eq (fun _=> ?_) fun _=>ok_eq (fun _=> ?_) fun _=>hj _ _
 ·exact af (sh N (by omega) (by omega) hs _) fun _ _=>ok_eq (fun _=>bU fun r=>up hs r) fun _=>bA (fun _=>bU fun r=>up hs r) fun _=>af (KP _) fun z hz=>bA (fun _=>bU fun r=>ag ⟨s1,s2,us (mem hz),(us hs).2.2.2⟩) fun _=>af (z2 N (by omega) s1 hc.2.2.2.1) fun t ht=>bx (fun _=>bU fun r=>ag ⟨s1,s2,us (mem hz),(us hs).2.2.2⟩) fun _=>ag ⟨s1,s2,us (mem hz),⟨he.2.1,i1,ht,aU,G.nil,G.nil,G.nil,G.nil,G.nil,G.nil,trivial⟩,us s5⟩
 ·exact af (sh N (by omega) (by omega) hs _) fun _ _=>ok_eq (fun _=>bU fun r=>up hs r) fun _=>af (sh N (by omega) (by omega) hs _) fun _ _=>bA (fun _=>bU fun r=>up hs r) fun _=>hj _ _
theorem SV(N:Nat)(hN:5000000≤N){c:ae}{s:aP}{e:fy}{m:Nat}(h2:200≤m)(hm:m≤999)(hc:G 5 aq c)(hs:GS m s)(he:G 0 lZ e):Ok (SR (m+1)) (SW N c s e):=by
 have KY:G m aq c:=G.mono (by omega) hc
 obtain⟨s1,s2,s3,⟨k1,k2,k3,k4,k5,k6,k7,k8,k9,PB,SQ⟩,s5⟩:=hs
 have hs:GS m s:=⟨s1,s2,s3,⟨k1,k2,k3,k4,k5,k6,k7,k8,k9,PB,SQ⟩,s5⟩
 have us: ∀{τ:Ty} {x:τ.den},G m τ x→G (m+1) τ x:=fun h=>G.mono (by omega) h
 have JI:=us hs
 have up: ∀{x:aP},GS m x→ ∀r:cm,Ok (SR (m+1)) (some (x,r)):=fun h r=>ag (P:=SR (m+1)) (G.mono (awN m) h)
 have st:=fun k:Int=>sh N (by omega) (m:=m) (by omega) hs k
 have hp:=fun a b c d=>SU N (by omega) h2 (by omega) hs a b c d he.2.2.2.2.2.2.1
 have q64:=he.2.2.2.2.2.2.1
 unfold SW
 refine ok_eq (fun _=> ?_) fun _=>ok_eq (fun _=> ?_) fun _=>ok_eq (fun _=> ?_) fun _=>ok_eq (fun _=> ?_) fun _=>ok_eq (fun _=> ?_) fun _=>ok_eq (fun _=> ?_) fun _=>ok_eq (fun _=> ?_) fun _=>ok_eq (fun _=> ?_) fun _=>ok_eq (fun _=> ?_) fun _=>ok_eq (fun _=> ?_) fun _=>ok_eq (fun _=> ?_) fun _=>af (PF N hN h2 hm hc hs he) fun r hr=>ag hr
 ·exact af (O9 N (by omega) (by omega) s3.1 he.2.1) fun r hr=>bU fun _=>ag ⟨s1,s2,⟨hr,JI.2.2.1.2⟩,JI.2.2.2⟩
 ·have hx:G 0 db (e.2.2.1,(e.2.1,(e.2.2.2.2.1,((0:Int),())))):=⟨he.2.2.1,he.2.1,he.2.2.2.2.1,aU,trivial⟩
  exact af (Sw N (by omega) (by omega) s3.1 s3.2.1 hx) fun r hr=>bU fun _=>ag ⟨s1,s2,⟨JI.2.2.1.1,hr,JI.2.2.1.2.2⟩,JI.2.2.2⟩
 ·exact af (PD N (by omega) (by omega) hs _) fun _ _=>bx (fun _=>bU fun r=>up hs r) fun _=>af (hp _ _ _ _) fun r hr=>ag (us hr)
 ·exact af (FW N hN h2 (by omega) KY s3 _ q64) fun r hr=>bU fun z=>ag ⟨s1,s2,us hr,(us hs).2.2.2⟩
 ·exact af (st _) fun _ _=>ok_eq (fun _=>bU fun r=>up hs r) fun _=>af (st _) fun _ _=>bA (fun _=>bU fun r=>up hs r) fun _=>af (hp _ _ _ _) fun r hr=>ag (us hr)
 ·exact af (st _) fun _ _=>ok_eq (fun _=>bU fun r=>up hs r) fun _=>af (mR N (by omega) (by omega) s3.2.2.1 _ _) fun g hg=>af (aZ N (by omega) hg) fun x hx=>af (oU N (by omega) (by omega) hx) fun x hx=>af (aZ N (by omega) q64) fun y hy=>af (oe N (by omega) (by omega) (by omega) hy hx) fun _ _=>av (fun _=>bU fun r=>up hs r) fun _=>af (hp _ _ _ _) fun r hr=>ag (us hr)
 ·exact af (Pb N (by omega) (by omega) s3.2.1 q64) fun r hr=>bU fun z=>ag ⟨s1,s2,⟨us s3.1,us hr,(us s3).2.2⟩,(us hs).2.2.2⟩
 ·have hx:G 0 jU (s.2.1,(e.2.2.1,(e.2.2.2.1,(e.2.2.2.2.1,(e.2.2.2.2.2.2.1,(e.2.2.2.2.2.2.2.1,())))))):=⟨s2,he.2.2.1,he.2.2.2.1,he.2.2.2.2.1,q64,he.2.2.2.2.2.2.2.1,trivial⟩
  exact af (Pj N hN h2 (by omega) KY s3 hx) fun r hr=>ag ⟨s1,dP _,hr,JI.2.2.2⟩
 ·exact af (PD N (by omega) (by omega) hs _) fun _ _=>bx (fun _=>bU fun r=>up hs r) fun _=>af (Me N (by omega) (by omega) s3.2.2.2.2.2.1 _ _) fun r hr=>bU fun z=>ag ⟨s1,s2,⟨us s3.1,us s3.2.1,us s3.2.2.1,us s3.2.2.2.1,us s3.2.2.2.2.1,us hr,trivial⟩,(us hs).2.2.2⟩
 ·exact af (FV N hN c h2 (by omega) s3 _ he.2.2.2.2.2.2.2.1) fun r ⟨CS,DR⟩=>ok_eq (fun _=>bA (fun _=>af (Pl N (by omega) h2 (by omega) PB DR) fun g hg=>bU fun z=>ag ⟨s1,s2,us CS,⟨k1,k2,k3,k4,us k5,us k6,us k7,us k8,us k9,us hg,trivial⟩,us s5⟩) fun _=>bU fun z=>ag ⟨s1,s2,us CS,(us hs).2.2.2⟩) fun _=>bU fun z=>ag ⟨s1,s2,us CS,(us hs).2.2.2⟩
 ·exact af (z2 N (by omega) s1 q64) fun t ht=>bx (fun _=>bU fun r=>up hs r) fun _=>ag ⟨ht,(us hs).2⟩
theorem SX(N:Nat)(hN:5000000≤N){c:ae}{s:aP}{e:fy}{m:Nat}(h2:200≤m)(hm:m≤999)(hc:G 5 aq c)(hs:GS m s)(he:G 0 lZ e):Ok (SR (m+1)) (SY N c s e):=by
 have bt: ∀r:cm,Ok (SR (m+1)) (some (s,r)):=fun r=>ag (P:=SR (m+1)) (G.mono (awN m) hs)
 unfold SY
 exact bJ (mF N (by omega) c) (bx (fun _=>bt _) fun _=>af (Mc N (by omega) e) fun _ _=>bx (fun _=>bt _) fun _=>af (SV N hN h2 hm hc hs he) fun r hr=>bA (fun _=>bt _) fun _=>ag hr)
theorem Z0(N:Nat)(hN:5000000≤N){c:ae}{l:fQ}{m:Nat}(hm:m≤700)(hc:G 5 aq c)(hl:MT m l):Ok (fun r=>GS 900 r.1) (z5 N c l):=by
 have Q4:=hl.1
 unfold z5 z5.b Z1
 have hb:Ok (fun r:aP×Int=>GS 5 r.1) ((gy N c).bind fun r1=>cond (!ay r1.2 0) (some (Ty.zero cC,r1.2)) (some (((0:Int),((1:Int),(r1.1,(Ty.zero kV,(Ty.zero dQ,()))))),(0:Int)))):=af (IX N (by omega) hc) fun b hb=>bA (fun _=>ag (G.zero 5 cC)) fun _=>ag ⟨aU,(show aB 1 from aV),hb,G.zero 5 kV,G.zero 5 dQ,trivial⟩
 refine af hb fun b hb=>bA (fun _=>ag (G.zero 900 cC)) fun _=>bh (len:=l.length) (F:=fun n i (z:aP×aj)=>z5.l6 N n l c (Ty.zero cC) z.1 z.2 i) (s:=(_,_)) (fun i z=>GS (200+i) z.1∧z.2.length≤i) ⟨G.mono (by omega) hb,au3 _⟩ (by omega) (fun n i z hi hI hr=> ?_) (fun n z hI=> ?_)
 all_goals unfold z5.l6 z5.ov
 ·obtain⟨h1,h2⟩:=hI
  rw[an (x:=(i:Int)+1) (by omega) (by omega),aa i]
  have hx:G 0 lZ (l.getD (i:Int).toNat zz8):=G.at hl _
  exact av (fun _=>aw ⟨by omega,by omega⟩ (af (SX N hN (by omega) (by omega) hc h1 hx) fun r Qp=>aD (by rw[List.length_singleton];omega) (hr (r.1,z.2++[r.2]) ⟨Qp,by dsimp only;rw[List.length_append,List.length_singleton];omega⟩))) fun _=>by omega
 ·exact av (fun _=>by omega) fun _=>ag (G.mono (by omega) hI.1)
theorem I6(N:Nat)(hN:5000000≤N){d:aN}{c:ae}(h:Dk 1000 d)(hc:Cf c){FQ:Int}(hm:0≤FQ∧FQ≤100):Ok (fun r=>GS 900 r.1∧Dk 100000 r.2) (F28 N d c FQ):=by
 unfold F28
 refine af (L9 N (by omega) h hc hm (by omega)) fun l ⟨hl,hd⟩=>af (gQ N (by decide) hd) fun v ⟨hv,hd⟩=> ?_
 have Q4:=hl.1
 have e1: ∀(k:Int) {x:Int},aB k→aB x→G 0 lZ (k,(x,eK)):=fun k x hk hx=>xF hk hx aU aU aU aU aU aU
 have i11:aB 11:=aV
 have i13:aB 13:=aV
 have i10:aB 10:=aV
 have i15:aB 15:=aV
 have i2:aB 2:=aV
 dsimp only
 have h4:=G.cat hl (G.two (m:=2) (e1 11 i11 (dP (1+v.1))) (e1 13 i13 (dP (1+v.1))) (aul 2))
 have h4l:=h4.1
 refine aD (by rw[sb];omega) (af (FR N (by omega) hd hc (by omega)) fun n1 ⟨hn1,hd⟩=> ?_)
 have h5:=G.cat h4 hn1
 have h5l:=h5.1
 have akC:=hn1.1
 refine aD (by omega) (aD (by rw[sb];omega) (af (FR N (by omega) hd hc (by omega)) fun n2 ⟨hn2,hd⟩=> ?_))
 have h6:=G.cat h5 (G.two (m:=2) (xF i10 aU aU aU aU aU i2 aU) (e1 15 i15 aU) (aul 2))
 have h6l:=h6.1
 have akD:=hn2.1
 exact aD (by simp only[aug,auj,auA]at h4l h5l h6l akC akD ⊢;omega) (af (Z0 N hN (by omega) hc.g (G.cat h6 hn2)) fun r hr=>ag ⟨hr,Dk.mono hd (by omega)⟩)
end VM
end
section
namespace VM
open Go VM.F Go.RowKit
theorem SZ{l:List Int}(h:WF (.slice (.int .u64)) l):Dk 0 ((l,((0:Int),())):aN):=⟨fun x hx=>by
 obtain⟨i,hi,rfl⟩:=avq hx
 have h3:0≤l[i]∧l[i]≤18446744073709551615:=wf_u64.1 (h.2 i hi)
 exact⟨h3.1,awM h3.2 (by decide)⟩,avo 0,avo 0⟩
namespace Pure
end Pure
end VM
end
section
namespace VM
open Go VM.F Go.RowKit
theorem Z2{α:Type}{l:List α}{d:α}{i:Nat}(h:i<l.length):l.getD i d∈l:=by
 rw[aub,auf h];exact auT h
namespace Pure
end Pure
end VM
end
section
namespace VM
open Go VM.F Go.RowKit
theorem S1{a b:Int}{l:aj}(h:cV a b l≠0): ∃x∈l,x.1=a∧x.2.1=b:=
 avP fun hn=>h (mJ fun x hx e=>hn ⟨x,hx,e⟩)
end VM
end
section
namespace VM
open Go VM.F Go.RowKit
namespace Pure
end Pure
end VM
end
section
namespace VM
open Go VM.F Go.RowKit
namespace Pure
end Pure
end VM
end
