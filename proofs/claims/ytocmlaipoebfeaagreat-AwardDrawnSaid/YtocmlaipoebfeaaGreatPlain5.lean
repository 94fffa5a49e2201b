/- A part of the proof of AwardDrawn of layer 25: what the functions compute, in plain words. -/
import Derived.Test.YtocmlaipoebfeaaGreatPlain4
set_option linter.all false
section
namespace VM
open Go VM.F
def Aq(k:Nat)(l:kN):Prop:= ∀x∈l,Bg k x
theorem Aq.mono{j k:Nat}{l:kN}(h:Aq j l)(hk:j≤k):Aq k l:=fun x hx=>Bg.mono (h x hx) hk
theorem Aq.at{k:Nat}{l:kN}(h:Aq k l)(h1:1≤k)(i:Nat):Bg k (l.getD i (false,kX)):=by
 by_cases hk:i<l.length
 ·rw[List.getD_eq_getElem?_getD,List.getElem?_eq_getElem hk];exact h _ (List.getElem_mem hk)
 ·rw[List.getD_eq_getElem?_getD,List.getElem?_eq_none (by omega)];exact Bg.mono Bg.zero h1
theorem Aq.set{k:Nat}{l:kN}{x:av}(h:Aq k l)(hx:Bg k x)(i:Nat):Aq k (l.set i x):=fun y hy=>by
 rcases List.mem_or_eq_of_mem_set hy with hy|rfl
 ·exact h y hy
 ·exact hx
theorem Aq.rep{k n:Nat}(h:1≤k):Aq k (List.replicate n (false,kX)):=fun x hx=>by
 rw[(List.mem_replicate.1 hx).2];exact Bg.mono Bg.zero h
theorem RF(N:Nat)(hN:5000000≤N)(c:ae){b:ah}{m:Nat}(hm:m≤50000)(hb:G m aC b):Ok (fun r=>(r.2=0→et c b=true∧r.1.length=4)∧Aq 20 r.1) (mV N c b):=by
 unfold mV mV.b
 have w:=(G.wf hm hb).w
 refine cg (dH N hN hm hb) (bx (fun _=>ag ⟨fun h=>absurd h (by decide),fun x hx=>nomatch hx⟩) fun hB=>RB ⟨by omega,by omega,by omega⟩ ?_)
 obtain⟨hp,hpr⟩:=gX hB
 obtain⟨h6,hbk⟩:=wy (pE hB)
 refine bf (len:=c.1.length) (F:=fun n i (s:kN)=>mV.l5 N n c b s i) (fun i s=>s.length=4∧Aq (8+i) s) ⟨List.length_replicate ..,Aq.rep (by omega)⟩ (by omega) (fun n i s hi hI hr=> ?_) (fun n s hI=> ?_)
 all_goals unfold mV.l5 mV.dn
 ·have hk:=hbk i hi
  have hl:=hI.1
  rw[aq (x:=(i:Int)+1) (by omega) (by omega),aa i,Int.toNat_natCast]
  have in1: ∀{x y:Option (kN×Int)},Ok (fun r=>(r.2=0→et c b=true∧r.1.length=4)∧Aq 20 r.1) x→Ok (fun r=>(r.2=0→et c b=true∧r.1.length=4)∧Aq 20 r.1) (cond (aN (c.1.getD i aE).1 s.length) x y):=fun h=>aw ⟨hk.1,Int.lt_of_le_of_lt hk.2 (show(3:Int)<(s.length:Int)by omega)⟩ h
  exact au (fun _=>aw ⟨by omega,by omega⟩ (in1 (cg (xG N w.s (by omega) 0 (i:Int)) (af (aY N (by omega) (Oc w.qs 0 (i:Int))) fun a ha=>aw ⟨by omega,by omega⟩ (af (aY N (by omega) (RD (ES hpr (by omega)))) fun p hp=>af (jn N (by omega) (by omega) (by omega) ha hp) fun x hx=>af (gA N (by omega) (by omega) (Aq.at hI.2 (by omega) _) (Bg.mono hx (by omega))) fun y hy=>in1 (hr _ ⟨by rw[List.length_set];exact hl,Aq.set (Aq.mono hI.2 (by omega)) hy _⟩)))))) fun _=>by omega
 ·exact au (fun _=>by omega) fun _=>ag ⟨fun _=>⟨hB,hI.1⟩,Aq.mono hI.2 (by omega)⟩
theorem Ls(N:Nat)(hN:5000000≤N)(c:ae)(hc:aD (ai1 c)){b:ah}{m:Nat}(hm:m≤50000)(hb:G m aC b)(next:Int):Ok (fun r=>G 4 (.slice cL) r.1) (pK N c b next):=by
 unfold pK pK.b
 refine af (RF N hN c hm hb) fun z hz=>bI (fun _=>ag G.nil) fun h0=>au (fun _=>ag G.nil) fun h1=>au (fun _=>ag G.nil) fun h2=> ?_
 obtain⟨hB,hl4⟩:=hz.1 h0
 obtain⟨hp,hpr⟩:=gX hB
 obtain⟨h6,hbk⟩:=wy (pE hB)
 refine bf (len:=4) (F:=fun n k (s:Int×ay)=>pK.l6 N n s.1 c b z.1 s.2 k) (s:=(_,_)) (fun k s=>G k (.slice cL) s.2∧next≤s.1∧s.1≤next+k) ⟨G.nil,by omega,by omega⟩ (by omega) (fun n k s hk hI hr=> ?_) (fun n s hI=> ?_)
 all_goals unfold pK.l6 pK.mg
 ·have I5:=hI.1.1
  have Wr:=hI.2
  rw[aq (x:=(k:Int)+1) (by omega) (by omega),aa k]
  have nL:=hr s ⟨G.mono (by omega) hI.1,by omega,by omega⟩
  refine au (fun _=>cg (H8 N (by omega) c (by omega) (k:Int)) (aw ⟨by omega,by omega⟩ (af (qW N (by omega) (by omega) (Aq.at hz.2 (by omega) _)) fun u hu=>ok_eq (fun _=>nL) fun gH=>af (aY N (by omega) hc) fun v hv=>af (oh N (by omega) (by omega) (by omega) hu hv) fun _ _=>c8 (fun _=>nL) fun _=> ?_))) fun _=>by omega
  have adP:eW c (k:Int)≠[]:=fun e=>gH (by rw[e];rfl)
  have hh:0≤(eW c (k:Int)).getD 0 0∧(eW c (k:Int)).getD 0 0<(c.1.length:Int):=by
   have h1:=adP
   unfold eW at h1 ⊢
   rw[pE hB,if_pos rfl]at h1 ⊢
   have:=wD h1
   omega
  have hl0:0<(eW c (k:Int)).length:=List.length_pos_iff.2 adP
  have hpx:=ES hpr (i:=((eW c (k:Int)).getD 0 0).toNat) (by omega)
  have hj: ∀q:Int,aD q→Ok (fun r=>G 4 (.slice cL) r.1) (pK.Ar N (pK.l6 N n) s.1 c b z.1 s.2 (k:Int) (eW c (k:Int)) q):=fun q hq=>by
   unfold pK.Ar pK.ta
   rw[aq (x:=(k:Int)+1) (by omega) (by omega),aa k,aq (x:=s.1+1) (by omega) (by omega)]
   have tD: ∀d:Int,aD d→Ok (fun r=>G 4 (.slice cL) r.1) (cond (small (s.2.length+[((s.1,((eW c (k:Int)).getD 0 0,(d,(q,())))):bs)].length)) (pK.l6 N n (s.1+1) c b z.1 (s.2++[(s.1,((eW c (k:Int)).getD 0 0,(d,(q,()))))]) ((k+1:Nat):Int)) none):=fun d hd=>
    aG (by rw[List.length_singleton];omega) (hr (_,_) ⟨G.app hI.1 ⟨by show aD s.1;unfold aD;omega,(show aD ((eW c (k:Int)).getD 0 0)from fj (by omega) (by omega)),hd,hq,trivial⟩,by dsimp only;omega,by dsimp only;omega⟩)
   exact ok_eq (fun _=>nL) fun _=>aw ⟨by omega,by omega⟩ (aw ⟨by omega,by omega⟩ (af (xJ N (Aq.at hz.2 (by omega) _)) fun _ _=>au (fun _=>tD 2 (fj (by omega) (by omega))) fun _=>tD 1 (fj (by omega) (by omega))))
  have hb9:aD 1000000000:=by unfold aD;decide
  refine aw ⟨by omega,by omega⟩ (aw ⟨hh.1,by show(eW c (k:Int)).getD 0 0<_;omega⟩ ?_)
  obtain⟨a,rfl,ha⟩:=hu
  have ai3:=hpx
  unfold ka at ai3
  rw[show(0:Int).toNat=0 from rfl]
  refine cg (eS N (by omega) (by omega) (by omega)) (cg (Js N hN (by omega) (Fit.mono ha (by omega)) ((Fit.i64 (by omega) (by omega)).mono (by omega))) (cg (oc N _) (bx (fun _=>hj _ hb9) fun _=>au (fun _=>hj _ hb9) fun _=>hj _ (Ih _))))
 ·exact au (fun _=>by omega) fun _=>ag hI.1
end VM
end
section
namespace VM
open Go VM.F
theorem zk(N:Nat)(hN:200000≤N){l:aZ}(hl:l.length≤100000)(a:Int):Ok (fun r=>L3 6 r) (eB N l a):=by
 unfold eB eB.b
 refine bf (len:=6) (F:=fun n k (s:aj)=>eB.l3 N n l a s k) (fun k s=>L3 k s) G.nil (by omega) (fun n k s hk hI hr=> ?_) (fun n s hI=> ?_)
 all_goals unfold eB.l3 eB.ig
 ·have hs:=hI.1
  refine au (fun _=> ?_) fun _=>by omega
  refine bf (len:=l.length) (F:=fun n' i (x:cy)=>eB.l7 N (eB.l3 N n) n' l a s (k:Int) x i) (fun i x=>G 6 fN x) (G3 (fj (by omega) (by omega)) aS aS) (by omega) (fun n' i x hi hx dr=> ?_) (fun n' x hx=> ?_)
  all_goals unfold eB.l7 eB.lD
  ·rw[aq (x:=(i:Int)+1) (by omega) (by omega),aa i]
   have h1:=dr x hx
   repeat' first|exact h1|refine aw ⟨by omega,by omega⟩ ?_|refine au (fun _=> ?_) (fun _=> ?_)|refine bI (fun _=> ?_) (fun _=> ?_)|refine ok_eq (fun _=> ?_) (fun _=> ?_)|(exfalso;omega)|exact dr (_,(_,(_,_))) ⟨hx.1,dJ _,hx.2.2.1,trivial⟩|exact dr (_,(_,(_,_))) ⟨hx.1,hx.2.1,dJ _,trivial⟩
  ·rw[aq (x:=(k:Int)+1) (by omega) (by omega),aa k]
   have h1:=hr s (G.mono (by omega) hI)
   have h2:=hr (s++[x]) ⟨by rw[List.length_append,List.length_singleton];omega,fun y hy=>by
    rcases List.mem_append.1 hy with hy|hy
    ·exact G.mono (by omega) (hI.2 y hy)
    ·rw[List.mem_singleton.1 hy];exact⟨hx.1,hx.2.1,hx.2.2.1,trivial⟩⟩
   repeat' first|exact h1|exact h2|refine aG (by rw[List.length_singleton];omega) ?_|refine au (fun _=> ?_) (fun _=> ?_)|(exfalso;omega)
 ·exact au (fun _=>by omega) fun _=>ag hI
theorem Bz(N:Nat)(hN:200000≤N)(c:ae){l:aj}(hl:l.length≤100000):Ok (fun _=>True) (lR N c l):=by
 unfold lR lR.b
 refine cg (mK N (by omega) c) (bx (fun _=>ag trivial) fun _=>hO (len:=l.length) (F:=fun n i=>lR.l5 N n l c 33000000000 i) (by omega) (fun n i hi hr=> ?_) fun n=> ?_)
 all_goals unfold lR.l5 lR.dn
 ·rw[aq (x:=(i:Int)+1) (by omega) (by omega),aa i]
  dsimp only
  repeat' first|exact hr|exact ag trivial|refine aw ⟨by omega,by omega⟩ ?_|refine aw (by rw[aq (x:=(i:Int)-1) (by omega) (by omega)];omega) ?_|refine au (fun _=> ?_) (fun _=> ?_)|refine c8 (fun _=> ?_) (fun _=> ?_)|refine ok_eq (fun _=> ?_) (fun _=> ?_)|(exfalso;omega)
 ·exact au (fun _=>by omega) fun _=>ag trivial
theorem CF{k:Nat}(h:1≤k):Bg k (false,(([]:List Int),())):=Bg.mono Bg.zero h
theorem On(N:Nat)(hN:4000000≤N)(c:ae){l:ax}{o:aj}{m:Nat}(hm:m≤50000)(hl:G m (.slice gB) l)(ho:L3 m o)(k:Int):Ok (fun r=>Bg 3 r.1) (fl N c l o k):=by
 have h1:=hl.1
 have h2:=ho.1
 unfold fl fl.b
 refine cg (uk N (by omega) c (by omega)) (bx (fun _=>ag (CF (by omega))) fun _=>af (Bz N (by omega) c (by omega)) fun _ _=>bx (fun _=>ag (CF (by omega))) fun _=>au (fun _=>ag (CF (by omega))) fun _=>c8 (fun _=>ag (CF (by omega))) fun _=> ?_)
 refine bf (len:=l.length) (F:=fun n i (q:av)=>fl.l7 N n l o k (false,(([]:List Int),())) q (false,(([]:List Int),())) (false,(([]:List Int),())) i) (fun _ q=>Bg 2 q) (CF (by omega)) (by omega) (fun n i q hi hq hr=> ?_) (fun n q hq=> ?_)
 all_goals unfold fl.l7 fl.lD
 ·rw[aq (x:=(i:Int)+1) (by omega) (by omega),aa i]
  exact au (fun _=>aw ⟨by omega,by omega⟩ (ok_eq (fun _=>aw ⟨by omega,by omega⟩ (af (aY N hN (G.at hl _).2.1) fun r h=>hr r h)) fun _=>hr q hq)) fun _=>by omega
 ·refine au (fun _=>by omega) fun _=> ?_
  refine bf (len:=o.length) (F:=fun n i (z:av×av)=>fl.nn N n o k (false,(([]:List Int),())) q z.1 z.2 i) (s:=(_,_)) (fun _ z=>Bg 2 z.1∧Bg 2 z.2) ⟨CF (by omega),CF (by omega)⟩ (by omega) (fun n i z hi hz hr=> ?_) (fun n z hz=> ?_)
  all_goals unfold fl.nn fl.lM
  ·rw[aq (x:=(i:Int)+1) (by omega) (by omega),aa i]
   exact au (fun _=>aw ⟨by omega,by omega⟩ (ok_eq (fun _=>aw ⟨by omega,by omega⟩ (af (aY N hN (G.at ho _).2.1) fun r h=>aw ⟨by omega,by omega⟩ (af (aY N hN (G.at ho _).2.2.1) fun r' h'=>hr (r,r') ⟨h,h'⟩))) fun _=>hr z hz)) fun _=>by omega
  ·exact au (fun _=>by omega) fun _=>af (gA N hN (by omega) hq hz.1) fun x hx=>af (qW N hN (by omega) hx) fun x hx=>af (uM N hN (by omega) hq hz.2) fun y hy=>af (qW N hN (by omega) hy) fun y hy=>af (oh N hN (by omega) (by omega) hy hx) fun _ _=>au (fun _=>ag hy) fun _=>ag hx
theorem E4(N:Nat)(hN:4000000≤N){c:ae}{l:ax}{o:aj}{m:Nat}(hm:m≤50000)(hc:G m an c)(hl:G m (.slice gB) l)(ho:L3 m o):Ok (fun r=>Bg 60000 r.1) (lS N c l o):=by
 have h1:=hl.1
 have h2:=ho.1
 have h3:=hc.1.1
 unfold lS lS.b
 refine cg (uk N (by omega) c (by omega)) (bx (fun _=>ag (CF (by omega))) fun _=>af (Bz N (by omega) c (by omega)) fun _ _=>bx (fun _=>ag (CF (by omega))) fun _=> ?_)
 refine bf (len:=c.1.length) (F:=fun n i (t:av)=>lS.l5 N n l o c (false,(([]:List Int),())) t i) (fun i t=>Bg (8+i) t) (CF (by omega)) (by omega) (fun n i t hi ht hr=> ?_) (fun n t ht=> ?_)
 all_goals unfold lS.l5 lS.dn
 ·rw[aq (x:=(i:Int)+1) (by omega) (by omega),aa i]
  exact au (fun _=>af (On N hN c hm hl ho _) fun x hx=>aw ⟨by omega,by omega⟩ (af (aY N hN (G.at hc.1 _).2.2.1) fun r h=>af (jn N hN (by omega) (by omega) hx h) fun y hy=>af (gA N hN (by omega) ht (Bg.mono hy (by omega))) fun z hz=>hr z hz)) fun _=>by omega
 ·exact au (fun _=>by omega) fun _=>ag (Bg.mono ht (by omega))
theorem adQ{m:Nat}{l:aj}(h:L3 m l)(a:Int):G m (.slice gB) (posOf l a):=by
 refine⟨Nat.le_trans (Lk a l) h.1,fun y hy=> ?_⟩
 unfold posOf at hy
 split at hy
 ·obtain⟨x,hx,_,e⟩:=pD hy
  rw[e];exact⟨(h.2 x hx).2.1,(h.2 x hx).2.2.1,trivial⟩
 ·nomatch hy
theorem E5(N:Nat)(hN:200000≤N){l:aj}{m:Nat}(hm:m≤50000)(h:L3 m l)(a:Int):Ok (G m (.slice gB)) (sl N l a):=kK (Oa N (Nat.le_trans h.1 (by omega)) hN a) (adQ h a)
theorem E6(N:Nat)(hN:4000000≤N){c:ae}{b:ah}{l:aZ}{m:Nat}(h2:200≤m)(hm:m≤40000)(hc:G m an c)(hb:G m aC b)(hl:l.length≤1000)(a:Int):Ok (Bg 60000) (Oo N c b a l):=by
 have ho:=hb.2.2.2.2.2.1.1
 unfold Oo
 refine aG (by rw[List.length_nil];omega) ?_
 dsimp only
 rw[List.nil_append]
 exact aG (by omega) (af (E5 N (by omega) (by omega) hb.2.2.2.1 a) fun r h=>af (zk N (by omega) (by rw[List.length_append];omega) a) fun o h'=>af (E4 N hN (by omega) hc h (G.mono (by omega) h')) fun x hx=>ag hx)
end VM
end
section
namespace VM
open Go VM.F
theorem RG(N:Nat)(hN:4000000≤N){o:fD}{m:Nat}(ho:G m jv o)(a:Int):Ok (fun r=>Bg 4 r.1) (RH N o a):=by
 unfold RH
 have hw: ∀x:Int,Ok (fun r:av×Int=>Bg 4 r.1) ((fY N o.2.2.2.2.1).bind fun r5=>(fY N (W .i64 x)).bind fun r6=>(fL N r5 r6).bind fun r7=>some (r7,(0:Int))):=fun x=>
  af (aY N hN ho.2.2.2.2.1) fun r h=>af (aY N hN (dJ _)) fun r' h'=>af (jn N hN (by omega) (by omega) h h') fun y hy=>ag hy
 exact cg (xB N o) (bx (fun _=>ag (CF (by omega))) fun _=>cg (iF N a) (bx (fun _=>ag (CF (by omega))) fun _=>ok_eq (fun _=>au (fun _=>ag (CF (by omega))) fun _=>hw _) fun _=>au (fun _=>ag (CF (by omega))) fun _=>hw _))
theorem Yy{m:Nat}{a:ay}(h:G m (.slice cL) a)(id:Int):G m cL (jf a id).1:=by
 unfold jf
 split
 ·have: ∀l:ay,(∀x∈l,G m cL x)→G m cL (tZ id l).1:=by
   intro l
   induction l with
   |nil=>intro _;exact G.zero m cL
   |cons x t ih=>
    intro hx
    rw[sO]
    split
    ·exact hx x (List.mem_cons_self ..)
    ·exact ih fun y hy=>hx y (List.mem_cons_of_mem _ hy)
  exact this a h.2
 ·exact G.zero m cL
theorem rC(N:Nat)(hN:200000≤N){a:ay}{m:Nat}(hm:m≤50000)(h:G m (.slice cL) a)(id:Int):Ok (fun r=>G m cL r.1) (yK N a id):=kK (Et N (Nat.le_trans h.1 (by omega)) hN id) (Yy h id)
theorem mj(N:Nat)(hN:200000≤N){a:ax}{m:Nat}(hm:m≤50000)(h:G m (.slice gB) a)(id:Int):Ok (fun _=>True) (uc N a id):=kK (sP N (Nat.le_trans h.1 (by omega)) hN id) trivial
theorem mW(N:Nat)(hN:200000≤N){l:aj}{m:Nat}(hm:m≤50000)(h:L3 m l)(a b:Int):Ok aD (oU N l a b):=kK (H6 N (Nat.le_trans h.1 (by omega)) hN a b) (N9 (fun x hx=>(h.2 x hx).2.2.1) a b)
theorem E7(N:Nat)(hN:5000000≤N){c:ae}{b:ah}{o:fD}{m:Nat}(h2:200≤m)(hm:m≤40000)(hc:G m an c)(hb:G m aC b)(ho:G m jv o):Ok (fun _=>True) (Oq N c b o):=by
 have Da:=hb.2.2.2.2.2.1.1
 unfold Oq
 refine cg (dH N hN (by omega) hb) (bx (fun _=>ag trivial) fun hB=>cg (xB N o) (bx (fun _=>ag trivial) fun hr=>af (rC N (by omega) (by omega) hb.2.1 _) fun x hx=>bx (fun _=>ag trivial) fun _=>af (mj N (by omega) (by omega) hb.1 _) fun _ _=>bI (fun _=>ag trivial) fun _=>c8 (fun _=>ag trivial) fun hi=>aG (by rw[List.length_nil];omega) ?_))
 have hr:=of_decide_eq_true hr
 unfold qK sN at hr
 obtain⟨hp,_⟩:=gX hB
 dsimp only
 rw[List.nil_append]
 exact aG (by rw[List.length_singleton];omega) (af (E5 N (by omega) (by omega) hb.2.2.2.1 _) fun r h=>af (zk N (by omega) (by rw[List.length_append,List.length_singleton];omega) _) fun q h'=>af (On N (by omega) c (by omega) h (G.mono (by omega) h') _) fun t ht=>af (aY N (by omega) hx.2.2.2.1) fun v hv=>af (oh N (by omega) (by omega) (by omega) ht hv) fun _ _=>au (fun _=>ag trivial) fun _=>aw ⟨hr.2.2.1.1,by rw[hp];exact hi⟩ (af (RG N (by omega) ho _) fun e he=>af (mW N (by omega) (by omega) hb.2.2.1 _ _) fun g hg=>af (aY N (by omega) hg) fun y hy=>af (uM N (by omega) (by omega) (Bg.mono hy (by omega)) he) fun z hz=>af (E6 N (by omega) h2 hm hc hb (by rw[List.length_singleton];omega) _) fun u hu=>af (oh N (by omega) (by omega) (by omega) hz hu) fun _ _=>au (fun _=>ag trivial) fun _=>ag trivial))
theorem RI(N:Nat)(hN:5000000≤N){c:ae}{b:ah}{h:bs}{a q p:Int}{m:Nat}(h2:200≤m)(hm:m≤40000)(hc:G m an c)(hb:G m aC b)(hh:G m cL h)(ha:aD a)(hq:aD q)(hp:aD p):Ok (fun r=>G m aC r.1∧G m cL r.2.1) (pL N c b h a q p):=by
 have ho:G m jv (h.1,(a,(h.2.1,(W .i64 (3-h.2.2.1),(q,(p,())))))):=⟨hh.1,ha,hh.2.1,dJ _,hq,hp,trivial⟩
 have eC: ∀e:Int,Ok (fun r:ah×bs×Int=>G m aC r.1∧G m cL r.2.1) (some ((a6,(cn,(bc,(bc,(cQ,(cY,())))))),(aE,e))):=fun e=>ag ⟨G.eZ,G.zero m cL⟩
 unfold pL pL.b
 have hj: ∀t:uE,Ok (fun r=>G m aC r.1∧G m cL r.2.1) (pL.j14 N q c b h (a6,(cn,(bc,(bc,(cQ,(cY,())))))) aE t):=fun t=>by
  unfold pL.j14 pL.Yz
  exact af (Bx N hN c h2 (by omega) hb) fun r hr=>bI (fun _=>eC _) fun _=>ag ⟨hr,hh.1,hh.2.1,hh.2.2.1,dJ _,trivial⟩
 exact cg (dH N hN (by omega) hb) (bx (fun _=>eC _) fun _=>cg (zi N h) (bx (fun _=>eC _) fun _=>au (fun _=>eC _) fun _=>au (fun _=>eC _) fun _=>au (fun _=>eC _) fun _=>au (fun _=>eC _) fun _=>au (fun _=>eC _) fun _=>au (fun _=>eC _) fun _=>au (fun _=>eC _) fun _=>af (E7 N hN h2 hm hc hb ho) fun e _=>bI (fun _=>eC _) fun _=>ok_eq (fun _=>hj _) fun _=>hj _))
end VM
end
section
namespace VM
open Go VM.F
def Dk(k:Nat)(d:aK):Prop:=(∀x∈(d.1:List Int),0≤x∧x<18446744073709551616)∧0≤(d.2.1:Int)∧(d.2.1:Int)≤k
theorem Dk.mono{j k:Nat}{d:aK}(h:Dk j d)(hk:j≤k):Dk k d:=⟨h.1,h.2.1,Int.le_trans h.2.2 (by omega)⟩
def mX:Nat:=1000000000
theorem JV(N:Nat){k:Nat}{d:aK}(hk:k≤mX)(h:Dk k d):Ok (fun r=>(0≤r.1∧r.1<18446744073709551616)∧Dk (k+1) r.2) (F42 N d):=by
 obtain⟨h1,h2,h3⟩:=h
 unfold mX at hk
 unfold F42
 have hw: ∀i:Int,0≤i→i≤(k:Int)→0≤W .i64 (i+1)∧W .i64 (i+1)≤((k+1:Nat):Int):=fun i h0 h1=>by rw[aq (by omega) (by omega)];omega
 have hd:Dk (k+1) (d.1,(W .i64 (d.2.1+1),d.2.2)):=⟨h1,hw _ h2 h3⟩
 have hg: ∀(l:List Int) (i:Int),(∀x∈l,0≤x∧x<18446744073709551616)→0≤l.getD i.toNat 0∧l.getD i.toNat 0<18446744073709551616:=fun l i hl=>by
  by_cases hi:i.toNat<l.length
  ·rw[List.getD_eq_getElem?_getD,List.getElem?_eq_getElem hi];exact hl _ (List.getElem_mem hi)
  ·rw[List.getD_eq_getElem?_getD,List.getElem?_eq_none (by omega)];decide
 exact au (fun dE=>aw ⟨h2,dE⟩ (ag ⟨hg _ _ h1,hd⟩)) fun _=>ag ⟨(show(0:Int)≤0∧(0:Int)<18446744073709551616 by decide),hd⟩
theorem rem_in{x y:Int}(h0:0≤x)(hy:0<y):0≤rem x y∧rem x y<y:=by
 unfold rem;rw[eQ]
 exact⟨Int.tmod_nonneg _ h0,Int.tmod_lt_of_pos _ hy⟩
theorem gh(N:Nat){k:Nat}{d:aK}{n:Int}(hn:0<n∧n<1000000)(h:Dk k d)(hk:k≤mX:=by first|decide|(unfold mX;omega)):Ok (fun r=>(0≤r.1∧r.1<n)∧Dk (k+1) r.2) (n4 N d n):=by
 unfold n4
 refine af (JV N hk h) fun r hr=> ?_
 dsimp only
 rw[de (x:=n) (by omega) (by omega)]
 have:=rem_in hr.1.1 hn.1
 refine ok_eq (fun _=>by omega) fun _=>ag ⟨?_,hr.2⟩
 dsimp only
 rw[aq (by omega) (by omega)]
 exact this
theorem oi(N:Nat){k:Nat}{d:aK}{n:Int}(hn:0<n∧n<1000000)(h:Dk k d)(hk:k≤mX:=by first|decide|(unfold mX;omega)):Ok (fun r=>Dk (k+1) r.2) (Ik N d n):=by
 unfold Ik
 exact af (gh N hn h hk) fun r hr=>ag hr.2
theorem n5(N:Nat){k:Nat}{d:aK}(h:Dk k d)(hk:k≤mX:=by first|decide|(unfold mX;omega)):Ok (fun r=>aD r.1∧Dk (k+1) r.2) (GX N d):=by
 unfold GX
 refine af (JV N hk h) fun r hr=>ok_eq (fun _=>by omega) fun _=> ?_
 dsimp only
 repeat' first|exact ag ⟨dJ _,hr.2⟩|refine au (fun _=> ?_) (fun _=> ?_)|refine ok_eq (fun _=> ?_) (fun _=> ?_)|(exfalso;omega)
theorem E8{x y:Int}(hy:0<y)(hy1:y<9223372036854775808):aD (rem x y):=by
 unfold rem;rw[eQ]
 have h1:=Int.tmod_lt_of_pos x hy
 have h2: -y<x.tmod y:=by
  have:=Int.tmod_lt_of_pos (-x) hy
  rw[Int.neg_tmod]at this;omega
 unfold aD;omega
theorem vz{x y:Int}(hx:aD x)(hy:aD y):aD (mx x y):=by unfold mx;rw[eQ];split<;>assumption
theorem RJ{x y:Int}(hx:aD x)(hy:aD y):aD (mn x y):=by unfold mn;rw[eQ];split<;>assumption
theorem iv{x n:Int}(h:0≤x∧x<n)(hn:n≤1000000):aD x:=fj (by omega) (by omega)
theorem Lt(N:Nat)(hN:100≤N){d:aK}(h:Dk 0 d):Ok (fun r=>(G 5 an r.1∧1≤r.1.1.length)∧Dk 1000 r.2) (pM N d):=by
 unfold pM pM.b
 refine af (gh N (by decide) h) fun r hr=> ?_
 rw[aq (x:=1+r.1) (by omega) (by omega)]
 obtain⟨k,hk⟩: ∃k:Nat,1+r.1=(k:Int):=⟨(1+r.1).toNat,by omega⟩
 rw[hk]
 refine xI (F:=fun n x (s:aK×ay)=>pM.l3 N n s.1 ([],eg) ([],eg) s.2 x) (fun x s=>x+s.2.length=k∧Dk (1+20*s.2.length) s.1∧G 4 (.slice cL) s.2) (fun n x s hI hr=> ?_) (fun n s hI=> ?_) k N (r.2,_) (by omega) ⟨rfl,hr.2,G.nil⟩
 all_goals unfold pM.l3 pM.ig
 ·obtain⟨hx,hd,hG⟩:=hI
  have hl:=hG.1
  have tD: ∀(d:aK) (x4:bs),Dk (1+20*s.2.length+10) d→G 4 cL x4→Ok (fun r=>(G 5 an r.1∧1≤r.1.1.length)∧Dk 1000 r.2) (cond (small (s.2.length+[x4].length)) (pM.l3 N n d ([],eg) ([],eg) (s.2++[x4]) (W .i64 (((x+1:Nat):Int)-1))) none):=fun d x4 hd hx4=>by
   rw[aq (x:=((x+1:Nat):Int)-1) (by omega) (by omega),show((x+1:Nat):Int)-1=(x:Int)by omega]
   refine aG (by rw[List.length_singleton];omega) (hr (_,_) ⟨by rw[List.length_append,List.length_singleton];omega,Dk.mono hd (by rw[List.length_append,List.length_singleton];omega),?_⟩)
   refine⟨by rw[List.length_append,List.length_singleton];omega,fun y hy=> ?_⟩
   rcases List.mem_append.1 hy with hy|hy
   ·exact hG.2 y hy
   ·rw[List.mem_singleton.1 hy];exact hx4
  have hj: ∀(d:aK) (x5:bs),Dk (1+20*s.2.length+6) d→G 4 cL x5→Ok (fun r=>(G 5 an r.1∧1≤r.1.1.length)∧Dk 1000 r.2) (pM.j8 N (pM.l3 N n) d ([],eg) ([],eg) s.2 ((x+1:Nat):Int) x5):=fun d x5 hd hx5=>by
   unfold pM.j8 pM.HW
   refine af (oi N (by decide) hd) fun r hd=>og (fun _=> ?_) fun _=>tD _ _ (Dk.mono hd (by omega)) hx5
   refine af (n5 N hd) fun r ⟨_,hd⟩=>ok_eq (fun _=>by omega) fun _=> ?_
   dsimp only
   exact af (n5 N hd) fun r ⟨_,hd⟩=>ok_eq (fun _=>by omega) fun _=>tD _ _ (Dk.mono hd (by omega)) ⟨hx5.1,hx5.2.1,E8 (by decide) (by decide),E8 (by decide) (by decide),hx5.2.2.2.2⟩
  refine au (fun _=> ?_) fun _=>by omega
  refine af (gh N (by decide) hd) fun a ⟨ha,hd⟩=>af (gh N (by decide) hd) fun b ⟨hb,hd⟩=>af (gh N (by decide) hd) fun c ⟨hc,hd⟩=>af (gh N (by decide) hd) fun e ⟨he,hd⟩=>af (oi N (by decide) hd) fun r hd=>og (fun _=>af (n5 N hd) fun r ⟨_,hd⟩=>ok_eq (fun _=>by omega) fun _=>hj _ _ (Dk.mono hd (by omega)) ?_) fun _=>hj _ _ (Dk.mono hd (by omega)) ?_
  all_goals exact⟨iv ha (by decide),dJ _,iv hc (by decide),iv he (by decide),trivial⟩
 ·obtain⟨hx,hd,hG⟩:=hI
  have hl:=hG.1
  have hd:Dk 900 s.1:=Dk.mono hd (by omega)
  refine au (fun _=>by omega) fun _=>af (gh N (by decide) hd) fun a ⟨ha,hd⟩=>af (gh N (by decide) hd) fun b ⟨hb,hd⟩=>af (gh N (by decide) hd) fun c ⟨hc,hd⟩=>af (gh N (by decide) hd) fun e ⟨he,hd⟩=>af (gh N (by decide) hd) fun f ⟨hf,hd⟩=> ?_
  dsimp only
  refine af (gh N (by decide) hd) fun g ⟨hg,hd⟩=>af (oi N (by decide) hd) fun r hd=>og (fun _=>af (n5 N hd) fun r ⟨hr,hd⟩=>ag ⟨⟨⟨G.mono (by decide) hG,?_⟩,by dsimp only;omega⟩,Dk.mono hd (by decide)⟩) fun _=>ag ⟨⟨⟨G.mono (by decide) hG,?_⟩,by dsimp only;omega⟩,Dk.mono hd (by decide)⟩
  ·exact⟨hr,iv hb (by decide),iv hc (by decide),iv he (by decide),dJ _,iv hg (by decide),trivial⟩
  ·exact⟨iv ha (by decide),iv hb (by decide),iv hc (by decide),iv he (by decide),dJ _,iv hg (by decide),trivial⟩
abbrev Mi(m:Nat)(l:fE):Prop:=G m (.slice mm) l
theorem xi{k a b c d e f g:Int}{m:Nat}(h0:aD k)(h1:aD a)(h2:aD b)(h3:aD c)(h4:aD d)(h5:aD e)(h6:aD f)(h7:aD g):G m mm (k,(a,(b,(c,(d,(e,(f,(g,())))))))):=⟨h0,h1,h2,h3,h4,h5,h6,h7,trivial⟩
theorem aV{x:Int}(h: -1000000≤x∧x≤1000000:=by decide):aD x:=fj h.1 h.2
theorem CG(N:Nat){k:Nat}{d:aK}(h:Dk k d)(c:ae){i:Int}(hi:0≤i∧i<(c.1.length:Int))(hc:c.1.length≤5)(hk:k≤100000000):Ok (fun r=>G 0 mm r.1∧Dk (k+5) r.2) (Lu N d c i):=by
 unfold Lu
 have hb:aD 1000000000000:=by unfold aD;decide
 have kg:aD i:=fj (by omega) (by omega)
 exact aw hi (af (gh N (by decide) h) fun a ⟨_,hd⟩=>af (oi N (by decide) hd) fun r hd=>og (fun _=>af (n5 N hd) fun r ⟨_,hd⟩=>ok_eq (fun _=>by omega) fun _=>ag ⟨xi aV aV aV kg aV aV aV (dJ _),Dk.mono hd (by omega)⟩) fun _=>ag ⟨xi aV aV aV kg aV aV aV (vz aV (RJ hb (dJ _))),Dk.mono hd (by omega)⟩)
theorem E9(N:Nat){k:Nat}{d:aK}(h:Dk k d)(c:ae)(Ma:1≤c.1.length)(hc:c.1.length≤5)(hk:k≤100000000):Ok (fun r=>G 0 mm r.1∧Dk (k+10) r.2) (Ot N d c):=by
 unfold Ot
 have hb:aD 1000000000000:=by unfold aD;decide
 refine af (gh N ⟨by omega,by omega⟩ h) fun a ⟨ha,hd⟩=>af (gh N (by decide) hd) fun b ⟨dv,hd⟩=> ?_
 dsimp only
 refine af (gh N (by decide) hd) fun e ⟨he,hd⟩=>af (gh N (by decide) hd) fun f ⟨hf,hd⟩=>aw ha (af (gh N (by decide) hd) fun g ⟨_,hd⟩=>af (oi N (by decide) hd) fun r hd=>og (fun _=>af (n5 N hd) fun r ⟨_,hd⟩=>ok_eq (fun _=>by omega) fun _=>af (n5 N hd) fun r' ⟨_,hd⟩=>ok_eq (fun _=>by omega) fun _=>ag ⟨xi aV aV (dJ _) (iv ha (by omega)) (dJ _) aV (dJ _) (dJ _),Dk.mono hd (by omega)⟩) fun _=>ag ⟨xi aV aV (dJ _) (iv ha (by omega)) (dJ _) aV (dJ _) (vz aV (RJ hb (dJ _))),Dk.mono hd (by omega)⟩)
end VM
end
section
namespace VM
open Go VM.F
structure Cf(c:ae):Prop where
 g:G 5 an c
 n:1≤c.1.length
theorem Fa(N:Nat){k:Nat}{d:aK}(h:Dk k d){c:ae}(hc:Cf c)(hk:k≤10000000):Ok (fun r=>G 0 mm r.1∧Dk (k+20) r.2) (Ou N d c):=by
 have hn:=hc.n
 have hl:=hc.g.1.1
 unfold Ou
 refine af (gh N (by decide) h) fun a ⟨ha,hd⟩=> ?_
 dsimp only
 refine af (gh N (by decide) hd) fun b ⟨hb,hd⟩=>af (gh N ⟨by omega,by omega⟩ hd) fun i ⟨hi,hd⟩=>af (gh N (by decide) hd) fun e ⟨he,hd⟩=> ?_
 have hz: ∀(e:fm) (j:Nat) (d:aK),G 0 mm e→Dk j d→j≤k+20→Ok (fun r=>G 0 mm r.1∧Dk (k+20) r.2) (some (e,d)):=fun e j d he hd hj=>ag ⟨he,Dk.mono hd hj⟩
 have hs: ∀{f:Int×aK→Option (fm×aK)},(∀x d,aD x→Dk (k+5) d→Ok (fun r=>G 0 mm r.1∧Dk (k+20) r.2) (f (x,d)))→Ok (fun r=>G 0 mm r.1∧Dk (k+20) r.2) ((GX N e.2).bind f):=fun hf=>af (n5 N hd) fun r ⟨h1,h2⟩=>hf r.1 r.2 h1 (Dk.mono h2 (by omega))
 have hm: ∀{n:Int} {f:Int×aK→Option (fm×aK)},0<n∧n<1000000→(∀x d,Dk (k+5) d→Ok (fun r=>G 0 mm r.1∧Dk (k+20) r.2) (f (x,d)))→Ok (fun r=>G 0 mm r.1∧Dk (k+20) r.2) ((n4 N e.2 n).bind f):=fun hn hf=>af (gh N hn hd) fun r ⟨h1,h2⟩=>hf r.1 r.2 (Dk.mono h2 (by omega))
 repeat' first
  |refine ok_eq (fun _=> ?_) (fun _=> ?_)
  |(exfalso;omega)
  |(refine hs fun x d' hx QD=> ?_;dsimp only)
  |(refine hm (by decide) fun x d' QD=> ?_;dsimp only)
  |(refine hz _ _ _ ?_ hd (by omega);refine⟨?_,?_,?_,?_,?_,?_,?_,?_,trivial⟩<;>first|exact dJ _|exact aS|exact vz hx aV|exact E8 (by decide) (by decide)|exact(G.at hc.g.1 _).2.1)
  |(refine hz _ _ _ ?_ QD (by omega);refine⟨?_,?_,?_,?_,?_,?_,?_,?_,trivial⟩<;>first|exact dJ _|exact aS|exact vz hx aV|exact E8 (by decide) (by decide)|exact(G.at hc.g.1 _).2.1)
  |(refine hz _ _ _ ?_ h2 (by omega);refine⟨?_,?_,?_,?_,?_,?_,?_,?_,trivial⟩<;>first|exact dJ _|exact aS|exact vz hx aV|exact E8 (by decide) (by decide)|exact(G.at hc.g.1 _).2.1)
  |exact af (CG N hd c hi hl (by omega)) fun r ⟨h1,h2⟩=>hz _ _ _ h1 h2 (by omega)
  |exact af (E9 N hd c hn hl (by omega)) fun r ⟨h1,h2⟩=>hz _ _ _ h1 h2 (by omega)
  |refine aw hi ?_
  |(refine af (gh N (by decide) QD) fun r ⟨h1,h2⟩=> ?_)
end VM
end
section
namespace VM
open Go VM.F
theorem G.cat{m n:Nat}{e:Ty}{l k:List e.den}(h:G m (.slice e) l)(h':G n (.slice e) k):G (m+n) (.slice e) (l++k):=
 ⟨by have:=h.1;have:=h'.1;rw[List.length_append];omega,fun y hy=>by
  rcases List.mem_append.1 hy with hy|hy
  ·exact G.mono (by omega) (h.2 y hy)
  ·exact G.mono (by omega) (h'.2 y hy)⟩
theorem G.two{m:Nat}{e:Ty}{a b:e.den}(ha:G 0 e a)(hb:G 0 e b)(hm:2≤m):G m (.slice e) [a,b]:=
 ⟨hm,fun y hy=>by
  rcases List.mem_cons.1 hy with rfl|hy
  ·exact G.mono (by omega) ha
  ·rw[List.mem_singleton.1 hy];exact G.mono (by omega) hb⟩
theorem G.one{m:Nat}{e:Ty}{a:e.den}(ha:G 0 e a)(hm:1≤m):G m (.slice e) [a]:=
 ⟨hm,fun y hy=>by rw[List.mem_singleton.1 hy];exact G.mono (by omega) ha⟩
theorem rD{α:Type}(a b:α):[a,b].length=2:=rfl
theorem Il(N:Nat)(hN:100≤N){k:Nat}{d:aK}(h:Dk k d)(c:ae)(hk:k≤10000000):Ok (fun r=>Mi 40 r.1∧Dk (k+50) r.2) (dA N d c):=by
 have s64: ∀i:Nat,i<100→aD (i:Int):=fun i hi=>fj (by omega) (by omega)
 unfold dA dA.b
 refine gz (len:=5) (F:=fun n i (s:aK×fE)=>dA.l3 N n s.1 s.2 i) (fun i s=>Dk (k+2*i) s.1∧Mi (3*i) s.2) (fun n i s hi hI hr=> ?_) (fun n s hI=> ?_) 5 N 1 (d,[]) (by omega) (by omega) (by omega) ⟨Dk.mono h (by omega),G.nil⟩
 all_goals unfold dA.l3 dA.ig
 ·have hl:=hI.2.1
  have kg:=s64 i (by omega)
  dsimp only
  rw[aq (x:=(i:Int)+1) (by omega) (by omega),aa i]
  have h2:Mi (3*i+2) (s.2++[((1:Int),((i:Int),eg)),((2:Int),((i:Int),((i:Int),((0:Int),((1:Int),aW)))))]):=G.cat hI.2 (G.two (xi aV kg aS aS aS aS aS aS) (xi aV kg kg aS aV aS aS aS) (by omega))
  have hl2:=h2.1
  exact c8 (fun _=>aG (by rw[rD];omega) (af (oi N (by decide) hI.1 (by unfold mX;omega)) fun r hd=>bx (fun _=>af (gh N (by decide) hd (by unfold mX;omega)) fun r ⟨_,hd⟩=>aG (by rw[List.length_singleton];omega) (hr (_,_) ⟨Dk.mono hd (by omega),G.mono (by omega) (G.cat h2 (G.one (m:=1) (xi aV kg aS aS aS aS (dJ _) aS) (by omega)))⟩)) fun _=>hr (_,_) ⟨Dk.mono hd (by omega),G.mono (by omega) h2⟩)) fun _=>by omega
 ·refine c8 (fun _=>by omega) fun _=> ?_
  refine gz (len:=8) (F:=fun n i (s:aK×fE)=>dA.l9 N n s.1 s.2 i) (fun i s=>Dk (k+10+i) s.1∧Mi (15+i) s.2) (fun n i s hi hI hr=> ?_) (fun n s hI=> ?_) 8 N 5 s (by omega) (by omega) (by omega) ⟨Dk.mono hI.1 (by omega),G.mono (by omega) hI.2⟩
  all_goals unfold dA.l9 dA.sd
  ·have hl:=hI.2.1
   dsimp only
   rw[aq (x:=(i:Int)+1) (by omega) (by omega),aa i]
   exact c8 (fun _=>af (gh N (by decide) hI.1 (by unfold mX;omega)) fun r ⟨_,hd⟩=>aG (by rw[List.length_singleton];omega) (hr (_,_) ⟨Dk.mono hd (by omega),G.mono (by omega) (G.cat hI.2 (G.one (m:=1) (xi aV (dJ _) (s64 i (by omega)) aS aV aS aS aS) (by omega)))⟩)) fun _=>by omega
  ·refine c8 (fun _=>by omega) fun _=> ?_
   refine gz (len:=8) (F:=fun n i (s:aK×fE)=>dA.nV N n s.1 s.2 i) (fun i s=>Dk (k+18+2*i) s.1∧Mi (23+2*i) s.2) (fun n i s hi hI hr=> ?_) (fun n s hI=> ?_) 8 N 1 s (by omega) (by omega) (by omega) ⟨Dk.mono hI.1 (by omega),G.mono (by omega) hI.2⟩
   all_goals unfold dA.nV dA.lN
   ·have hl:=hI.2.1
    have kg:=s64 i (by omega)
    dsimp only
    rw[aq (x:=(i:Int)+1) (by omega) (by omega),aa i]
    exact c8 (fun _=>af (gh N (by decide) hI.1 (by unfold mX;omega)) fun r ⟨_,hd⟩=>af (gh N (by decide) hd (by unfold mX;omega)) fun r ⟨_,hd⟩=>aG (by rw[rD];omega) (hr (_,_) ⟨Dk.mono hd (by omega),G.mono (by omega) (G.cat hI.2 (G.two (m:=2) (xi aV aS kg aS aS aS (dJ _) aS) (xi aV aS kg aS aS aS (dJ _) aS) (by omega)))⟩)) fun _=>by omega
   ·exact c8 (fun _=>by omega) fun _=>ag ⟨G.mono (by omega) hI.2,Dk.mono hI.1 (by omega)⟩
theorem Ov{x:Nat}(h:x<1000000):W .i64 (((x+1:Nat):Int)-1)=(x:Int):=by rw[aq (by omega) (by omega)];omega
theorem Lv(N:Nat)(hN:1000≤N){k:Nat}{d:aK}(h:Dk k d){c:ae}(hc:Cf c){Fb:Int}(hm:0≤Fb∧Fb≤100)(hk:k≤10000):Ok (fun r=>Mi 200 r.1∧Dk (k+3000) r.2) (xK N d c Fb):=by
 have hn:=hc.n
 have hl:=hc.g.1.1
 unfold xK xK.b
 rw[aq (x:=Fb+1) (by omega) (by omega)]
 refine af (Il N (by omega) h c (by omega)) fun r ⟨GV,hd⟩=>af (gh N ⟨by omega,by omega⟩ hd (by unfold mX;omega)) fun z ⟨hz,hd⟩=> ?_
 obtain⟨j,hj⟩: ∃j:Nat,z.1=(j:Int):=⟨z.1.toNat,by omega⟩
 rw[hj]
 refine xI (F:=fun n x (s:aK×fE)=>xK.l3 N n s.1 c s.2 x) (fun x s=>x≤100∧Dk (k+100+25*(100-x)) s.1∧Mi (40+(100-x)) s.2) (fun n x s hI hr=> ?_) (fun n s hI=> ?_) j N (z.2,r.1) (by omega) ⟨by omega,Dk.mono hd (by omega),G.mono (by omega) GV⟩
 all_goals unfold xK.l3 xK.ig
 ·obtain⟨hx,hd,hG⟩:=hI
  have hs:=hG.1
  rw[Ov (by omega)]
  have put: ∀(e:fm) (d:aK) (q:Nat),G 0 mm e→Dk q d→q≤k+100+25*(100-(x+1))+25→Ok (fun r=>Mi 200 r.1∧Dk (k+3000) r.2) (cond (small (s.2.length+[e].length)) (xK.l3 N n d c (s.2++[e]) (x:Int)) none):=fun e d q he hd hq=>aG (by rw[List.length_singleton];omega) (hr (_,_) ⟨by omega,Dk.mono hd (by omega),G.mono (by omega) (G.cat hG (G.one (m:=1) he (by omega)))⟩)
  exact au (fun _=>af (gh N (by decide) hd (by unfold mX;omega)) fun a ⟨_,hd⟩=>ok_eq (fun _=>af (Fa N hd hc (by omega)) fun r ⟨h1,h2⟩=>put _ _ _ h1 h2 (by omega)) fun _=>ok_eq (fun _=>af (gh N ⟨by omega,by omega⟩ hd (by unfold mX;omega)) fun b ⟨hb,hd⟩=>af (CG N hd c hb hl (by omega)) fun r ⟨h1,h2⟩=>put _ _ _ h1 h2 (by omega)) fun _=>af (E9 N hd c hn hl (by omega)) fun r ⟨h1,h2⟩=>put _ _ _ h1 h2 (by omega)) fun _=>by omega
 ·exact au (fun _=>by omega) fun _=>ag ⟨G.mono (by omega) hI.2.2,Dk.mono hI.2.1 (by omega)⟩
theorem Fc(N:Nat)(hN:1000≤N){k:Nat}{d:aK}(h:Dk k d){c:ae}(hc:Cf c)(hk:k≤100000):Ok (fun r=>Mi 3 r.1∧Dk (k+100) r.2) (xj N d c):=by
 have hn:=hc.n
 have hl:=hc.g.1.1
 unfold xj xj.b
 refine af (gh N (by decide) h (by unfold mX;omega)) fun z ⟨hz,hd⟩=> ?_
 obtain⟨j,hj⟩: ∃j:Nat,z.1=(j:Int):=⟨z.1.toNat,by omega⟩
 rw[hj]
 refine xI (F:=fun n x (s:aK×fE)=>xj.l3 N n s.1 c s.2 x) (fun x s=>x≤3∧Dk (k+1+25*(3-x)) s.1∧Mi (3-x) s.2) (fun n x s hI hr=> ?_) (fun n s hI=> ?_) j N (z.2,[]) (by omega) ⟨by omega,Dk.mono hd (by omega),G.nil⟩
 all_goals unfold xj.l3 xj.ig
 ·obtain⟨hx,hd,hG⟩:=hI
  have hs:=hG.1
  rw[Ov (by omega)]
  have put: ∀(e:fm) (d:aK) (q:Nat),G 0 mm e→Dk q d→q≤k+1+25*(3-(x+1))+25→Ok (fun r=>Mi 3 r.1∧Dk (k+100) r.2) (cond (small (s.2.length+[e].length)) (xj.l3 N n d c (s.2++[e]) (x:Int)) none):=fun e d q he hd hq=>aG (by rw[List.length_singleton];omega) (hr (_,_) ⟨by omega,Dk.mono hd (by omega),G.mono (by omega) (G.cat hG (G.one (m:=1) he (by omega)))⟩)
  exact au (fun _=>af (oi N (by decide) hd (by unfold mX;omega)) fun a hd=>og (fun _=>af (gh N ⟨by omega,by omega⟩ hd (by unfold mX;omega)) fun b ⟨hb,hd⟩=>af (CG N hd c hb hl (by omega)) fun r ⟨h1,h2⟩=>put _ _ _ h1 h2 (by omega)) fun _=>af (Fa N hd hc (by omega)) fun r ⟨h1,h2⟩=>put _ _ _ h1 h2 (by omega)) fun _=>by omega
 ·exact au (fun _=>by omega) fun _=>ag ⟨G.mono (by omega) hI.2.2,Dk.mono hI.2.1 (by omega)⟩
end VM
end
section
namespace VM
open Go VM.F
theorem dk{α:Type}{r:α}:Ok (fun _=>True) (some r):=ag trivial
theorem Lw(N:Nat)(k:Int):Ok (fun s=>ByteArray.size s≤100) (RK N k):=by
 unfold RK
 repeat' first|refine ok_eq (fun _=> ?_) (fun _=> ?_)|exact ag (by decide)
theorem Lx(N:Nat)(k f:Int):Ok (fun _=>True) (RL N k f):=by
 unfold RL YA YB
 repeat' first|refine ok_eq (fun _=> ?_) (fun _=> ?_)|exact dk|refine af (Q:=fun _=>True) ?_ fun _ _=>dk
theorem Ow(N:Nat)(e:fm)(f:Int):Ok (fun _=>True) (RM N e f):=by
 unfold RM
 repeat' first|refine ok_eq (fun _=> ?_) (fun _=> ?_)|exact dk
theorem Ox(N:Nat)(e:fm)(f x:Int):Ok (fun _=>True) (RN N e f x):=by
 unfold RN
 repeat' first|refine ok_eq (fun _=> ?_) (fun _=> ?_)|exact dk
theorem Ly(N:Nat)(hN:1000≤N)(e:fm):Ok (fun _=>True) (mY N e):=by
 unfold mY mY.b YC
 refine af (Q:=fun _=>True) (c8 (fun _=>dk) fun _=>dk) fun _ _=>bx (fun _=>dk) fun _=>af (Lw N _) fun s hs=> ?_
 refine bf (len:=ByteArray.size s) (F:=fun n i (x:fm)=>mY.l6 N n e s x i) (fun _ _=>True) trivial (by omega) (fun n i x hi _ hr=> ?_) (fun n x _=> ?_)
 all_goals unfold mY.l6 mY.mg
 ·rw[aq (x:=(i:Int)+1) (by omega) (by omega),aa i]
  exact au (fun _=>aw ⟨by omega,by omega⟩ (af (Lx N _ _) fun _ _=>aw ⟨by omega,by omega⟩ (af (Ow N _ _) fun _ _=>au (fun _=>dk) fun _=>au (fun _=>dk) fun _=>aw ⟨by omega,by omega⟩ (af (Ox N _ _ _) fun y _=>hr y trivial)))) fun _=>by omega
 ·exact au (fun _=>by omega) fun _=>dk
theorem G.ins{m:Nat}{e:Ty}{l:List e.den}{x:e.den}(h:G m (.slice e) l)(hx:G m e x)(a b c:Nat)(ha:c≤a):G (m+1) (.slice e) ((([]++List.drop b (List.take c l))++[x])++List.drop a (List.take l.length l)):=by
 have:=h.1
 refine⟨?_,fun y hy=> ?_⟩
 ·simp only[List.nil_append,List.length_append,List.length_drop,List.length_take,List.length_singleton];omega
 ·rw[List.nil_append,List.append_assoc]at hy
  rcases List.mem_append.1 hy with hy|hy
  ·exact G.mono (by omega) (h.2 y (List.mem_of_mem_take (List.mem_of_mem_drop hy)))
  ·rcases List.mem_append.1 hy with hy|hy
   ·rw[List.mem_singleton.1 hy];exact G.mono (by omega) hx
   ·exact G.mono (by omega) (h.2 y (List.mem_of_mem_take (List.mem_of_mem_drop hy)))
theorem Oy{α:Type}{P:List α×Int→Prop}{l:List α}{x:α}{k:Nat}{e:Int}(hk:k≤l.length)(hl:l.length≤1000000)(h:P ((([]++List.drop (0:Int).toNat (List.take (k:Int).toNat l))++[x])++List.drop (k:Int).toNat (List.take (l.length:Int).toNat l),e)):
  Ok P (cond (fu 0 (k:Int) (l.length:Int) (l.length:Int)) (let v6:List α:=List.drop (0:Int).toNat (List.take (k:Int).toNat l);cond (small (([]:List α).length+v6.length)) (let v7:List α:=[]++v6;cond (small (v7.length+[x].length)) (let v8:List α:=v7++[x];cond (fu (k:Int) (l.length:Int) (l.length:Int) (l.length:Int)) (let v9:List α:=List.drop (k:Int).toNat (List.take (l.length:Int).toNat l);cond (small (v8.length+v9.length)) (some ((v8++v9),e)) none) none) none) none) none):=by
 dsimp only
 have t: ∀a b:Nat,(List.drop a (List.take b l)).length≤l.length:=fun a b=>by rw[List.length_drop,List.length_take];omega
 have t1:=t (0:Int).toNat (k:Int).toNat
 have t2:=t (k:Int).toNat (l.length:Int).toNat
 refine CE ⟨by omega,by omega,by omega,by omega⟩ (aG (by rw[List.length_nil];omega) (aG ?_ (CE ⟨by omega,by omega,by omega,by omega⟩ (aG ?_ (ag h)))))
 ·rw[List.nil_append,List.length_singleton];omega
 ·rw[List.nil_append,List.length_append,List.length_singleton];omega
theorem Oz(N:Nat)(hN:200000≤N){a:ax}{m:Nat}(hm:m≤50000)(h:G m (.slice gB) a){id:Int}(aR:aD id):Ok (fun r=>G (m+1) (.slice gB) r.1) (gC N a id):=by
 have hl:=h.1
 unfold gC gC.b
 refine cg (nP N (by omega) hN) (bx (fun _=>ag G.nil) fun _=>au (fun _=>ag G.nil) fun _=>au (fun _=>ag G.nil) fun _=>cg (jL N (by omega) hN id) (bI (fun _=>ag G.nil) fun _=> ?_))
 have fin: ∀k:Nat,k≤a.length→Ok (fun r=>G (m+1) (.slice gB) r.1) (gC.j9 N a id [] (k:Int)):=fun k hk=>by
  unfold gC.j9 gC.Hw
  have hx:G m gB (id,((1:Int),())):=⟨aR,(show aD 1 from aV),trivial⟩
  exact Oy hk (by omega) (by simpa using G.ins h hx k 0 k (Nat.le_refl _))
 refine hO (len:=a.length) (F:=fun n i=>gC.l7 N n a id [] i) (by omega) (fun n i hi hr=> ?_) (fun n=> ?_)
 all_goals unfold gC.l7 gC.lD
 ·rw[aq (x:=(i:Int)+1) (by omega) (by omega),aa i]
  exact au (fun _=>aw ⟨by omega,by omega⟩ (au (fun _=>hr) fun _=>fin i (by omega))) fun _=>by omega
 ·exact au (fun _=>by omega) fun _=>fin _ (Nat.le_refl _)
end VM
end
section
namespace VM
open Go VM.F
theorem G4q{m:Nat}{x:bs}{q:Int}(h:G m cL x)(hq:aD q):G m cL (x.1,(x.2.1,(x.2.2.1,(q,x.2.2.2.2)))):=⟨h.1,h.2.1,h.2.2.1,hq,trivial⟩
theorem G4b{m:Nat}{x:bs}{q:Int}(h:G m cL x)(hq:aD q):G m cL (x.1,(q,x.2.2)):=⟨h.1,hq,h.2.2⟩
theorem G2b{m:Nat}{x:KV}{q:Int}(h:G m gB x)(hq:aD q):G m gB (x.1,(q,x.2.2)):=⟨h.1,hq,trivial⟩
theorem CH(N:Nat)(hN:200000≤N){l:ay}(hl:l.length≤100000):Ok (fun _=>True) (g7 N l):=kK (ug N hl hN) trivial
theorem RO(N:Nat)(hN:200000≤N){a:ax}{l:ay}{x:bs}{m:Nat}(hm:m≤50000)(ha:G m (.slice gB) a)(h:G m (.slice cL) l)(hx:G 0 cL x):Ok (fun r=>G (m+1) (.slice cL) r.1) (eu N a l x):=by
 have h1:=ha.1
 have hl:=h.1
 have fin: ∀k:Nat,k≤l.length→Ok (fun r=>G (m+1) (.slice cL) r.1) (eu.Ar N l x [] (k:Int)):=fun k hk=>by
  unfold eu.Ar eu.ta
  exact Oy hk (by omega) (by simpa using G.ins h (G.mono (Nat.zero_le m) hx) k 0 k (Nat.le_refl _))
 have hj:Ok (fun r=>G (m+1) (.slice cL) r.1) (eu.GY N l x):=by
  unfold eu.GY eu.zl
  refine hO (len:=l.length) (F:=fun n i=>eu.nV N n l x [] i) (by omega) (fun n i hi hr=> ?_) (fun n=> ?_)
  all_goals unfold eu.nV eu.lN
  ·rw[aq (x:=(i:Int)+1) (by omega) (by omega),aa i]
   exact au (fun _=>aw ⟨by omega,by omega⟩ (au (fun _=>hr) fun _=>fin i (by omega))) fun _=>by omega
  ·exact au (fun _=>by omega) fun _=>fin _ (Nat.le_refl _)
 unfold eu eu.b
 exact cg (yL N (by omega) (by omega) hN) (bx (fun _=>ag G.nil) fun _=>af (CH N hN (by rw[List.length_singleton];omega)) fun _ _=>bx (fun _=>ag G.nil) fun _=>cg (jL N (by omega) hN _) (ok_eq (fun _=>ag G.nil) fun _=>bI (fun _=>ag G.nil) fun _=>cg (ud N (by omega) hN _) (og (fun _=>ag G.nil) fun _=>ok_eq (fun _=>cg (rq N (by omega) hN _) (bI (fun _=>ag G.nil) fun _=>hj)) fun _=>hj)))
theorem OA(N:Nat)(hN:200000≤N){l:ay}{m:Nat}(hm:m≤50000)(h:G m (.slice cL) l){id q:Int}(hq:aD q):Ok (fun r=>G m (.slice cL) r.1) (mZ N l id q):=by
 have hl:=h.1
 unfold mZ mZ.b
 refine af (CH N hN (by omega)) fun _ _=>bx (fun _=>ag G.nil) fun _=>au (fun _=>ag G.nil) fun _=>au (fun _=>ag G.nil) fun _=>cg (ud N (by omega) hN _) (bx (fun _=>ag G.nil) fun _=>aG (by rw[List.length_nil];omega) ?_)
 rw[List.nil_append]
 refine bf (len:=l.length) (F:=fun n i s=>mZ.l8 N n id q s i) (fun _ s=>s.length=l.length∧G m (.slice cL) s) ⟨rfl,h⟩ (by omega) (fun n i s hi hI hr=> ?_) (fun n s hI=> ?_)
 all_goals unfold mZ.l8 mZ.xC
 ·rw[aq (x:=(i:Int)+1) (by omega) (by omega),aa i]
  have hs:=hI.1
  have hx:=G.at hI.2 (i:Int).toNat
  exact au (fun _=>aw ⟨by omega,by omega⟩ (ok_eq (fun _=>aw ⟨by omega,by omega⟩ (hr _ ⟨by rw[List.length_set];exact hs,G.set hI.2 (G4q hx hq) _⟩)) fun _=>hr s hI)) fun _=>by omega
 ·have hs:=hI.1
  exact au (fun _=>by omega) fun _=>ag hI.2
theorem OB(N:Nat)(a b:Int):Ok (fun r=>aD r.1) (RP N a b):=by
 have h: ∀(x:Int) (t:Bool),0≤x∧x<5→Ok (fun r:Int×Bool=>aD r.1) (some (x,t)):=fun x t hx=>ag (iv hx (by decide))
 unfold RP
 repeat' first|refine ok_eq (fun _=> ?_) (fun _=> ?_)|exact h _ _ (by decide)
theorem JW(N:Nat)(hN:200000≤N){l:ax}{m:Nat}(hm:m≤50000)(h:G m (.slice gB) l)(id k:Int):Ok (fun r=>G m (.slice gB) r.1) (kO N l id k):=by
 have hl:=h.1
 unfold kO kO.b
 refine cg (nP N (by omega) hN) (bx (fun _=>ag G.nil) fun _=>cg (jL N (by omega) hN _) (ok_eq (fun _=>ag G.nil) fun _=>af (OB N _ _) fun z hz=>bx (fun _=>ag G.nil) fun _=>aG (by rw[List.length_nil];omega) ?_))
 rw[List.nil_append]
 refine bf (len:=l.length) (F:=fun n i s=>kO.By N n id z.1 s i) (fun _ s=>s.length=l.length∧G m (.slice gB) s) ⟨rfl,h⟩ (by omega) (fun n i s hi hI hr=> ?_) (fun n s hI=> ?_)
 all_goals unfold kO.By kO.zj
 ·rw[aq (x:=(i:Int)+1) (by omega) (by omega),aa i]
  have hs:=hI.1
  have hx:=G.at hI.2 (i:Int).toNat
  exact au (fun _=>aw ⟨by omega,by omega⟩ (ok_eq (fun _=>aw ⟨by omega,by omega⟩ (hr _ ⟨by rw[List.length_set];exact hs,G.set hI.2 (G2b hx hz) _⟩)) fun _=>hr s hI)) fun _=>by omega
 ·have hs:=hI.1
  exact au (fun _=>by omega) fun _=>ag hI.2
theorem Im(N:Nat)(hN:200000≤N){a:ax}{l:ay}{m:Nat}(hm:m≤50000)(ha:G m (.slice gB) a)(h:G m (.slice cL) l){id to:Int}(hto:aD to):Ok (fun r=>G m (.slice cL) r.1) (m0 N a l id to):=by
 have h1:=ha.1
 have hl:=h.1
 unfold m0 m0.b
 refine cg (yL N (by omega) (by omega) hN) (bx (fun _=>ag G.nil) fun _=>cg (ud N (by omega) hN _) (cg (jL N (by omega) hN _) (bx (fun _=>ag G.nil) fun _=>ok_eq (fun _=>ag G.nil) fun _=>bI (fun _=>ag G.nil) fun _=>bI (fun _=>ag G.nil) fun _=>aG (by rw[List.length_nil];omega) ?_)))
 rw[List.nil_append]
 refine bf (len:=l.length) (F:=fun n i s=>m0.nV N n id to s i) (fun _ s=>s.length=l.length∧G m (.slice cL) s) ⟨rfl,h⟩ (by omega) (fun n i s hi hI hr=> ?_) (fun n s hI=> ?_)
 all_goals unfold m0.nV m0.lN
 ·rw[aq (x:=(i:Int)+1) (by omega) (by omega),aa i]
  have hs:=hI.1
  have hx:=G.at hI.2 (i:Int).toNat
  exact au (fun _=>aw ⟨by omega,by omega⟩ (ok_eq (fun _=>aw ⟨by omega,by omega⟩ (hr _ ⟨by rw[List.length_set];exact hs,G.set hI.2 (G4b hx hto) _⟩)) fun _=>hr s hI)) fun _=>by omega
 ·have hs:=hI.1
  exact au (fun _=>by omega) fun _=>ag hI.2
theorem OC(N:Nat)(hN:200000≤N){l:ay}{m:Nat}(hm:m≤50000)(h:G m (.slice cL) l)(id:Int):Ok (fun r=>r.length≤m) (m1 N l id):=by
 have hl:=h.1
 unfold m1 m1.b
 refine af (CH N hN (by omega)) fun _ _=>bx (fun _=>ag (Nat.zero_le _)) fun _=>bf (len:=l.length) (F:=fun n i s=>m1.l5 N n l id s i) (fun i s=>s.length≤i) (Nat.zero_le _) (by omega) (fun n i s hi hI hr=> ?_) (fun n s hI=> ?_)
 all_goals unfold m1.l5 m1.dn
 ·rw[aq (x:=(i:Int)+1) (by omega) (by omega),aa i]
  exact au (fun _=>aw ⟨by omega,by omega⟩ (ok_eq (fun _=>aw ⟨by omega,by omega⟩ (aG (by rw[List.length_singleton];omega) (hr _ (by rw[List.length_append,List.length_singleton];omega)))) fun _=>hr s (by omega))) fun _=>by omega
 ·exact au (fun _=>by omega) fun _=>ag (by omega)
abbrev L6(m:Nat)(l:aZ):Prop:=G m (.slice jv) l
theorem OD(N:Nat)(hN:200000≤N){l:aZ}{a:List Int}{m:Nat}(hm:m≤50000)(h:L6 m l)(ha:a.length≤m):Ok (fun r=>L6 m r) (eM N l a):=by
 have hl:=h.1
 unfold eM eM.b
 refine cg (jK N (by omega) hN) (bx (fun _=>ag G.nil) fun _=>bf (len:=l.length) (F:=fun n i s=>eM.l5 N n l a s i) (fun i s=>L6 i s) G.nil (by omega) (fun n i s hi hI hr=> ?_) (fun n s hI=> ?_))
 all_goals unfold eM.l5 eM.dn
 ·have hs:=hI.1
  refine au (fun _=> ?_) fun _=>by omega
  refine bf (len:=a.length) (F:=fun n' j b=>eM.l9 N (eM.l5 N n) n' l a s (i:Int) b j) (fun _ _=>True) trivial (by omega) (fun n' j b hj _ dr=> ?_) (fun n' b _=> ?_)
  all_goals unfold eM.l9 eM.sd
  ·rw[aq (x:=(j:Int)+1) (by omega) (by omega),aa j]
   exact au (fun _=>og (fun _=>dr _ trivial) fun _=>aw ⟨by omega,by omega⟩ (aw ⟨by omega,by omega⟩ (dr _ trivial))) fun _=>by omega
  ·rw[aq (x:=(i:Int)+1) (by omega) (by omega),aa i]
   have hx:G 0 jv (l.getD (i:Int).toNat eg):=G.at h _
   exact au (fun _=>by omega) fun _=>bx (fun _=>aw ⟨by omega,by omega⟩ (aG (by rw[List.length_singleton];omega) (hr _ (G.cat hI (G.one hx (Nat.le_refl 1)))))) fun _=>hr s (G.mono (by omega) hI)
 ·exact au (fun _=>by omega) fun _=>ag (G.mono hl hI)
theorem Fe(N:Nat)(hN:5000000≤N)(c:ae){b:ah}{m:Nat}(hm:m≤50000)(hb:G m aC b)(id:Int):Ok (fun r=>G m aC r.1) (LA N c b id):=by
 unfold LA
 exact cg (dH N hN hm hb) (bx (fun _=>ag G.eZ) fun _=>af (mj N (by omega) hm hb.1 _) fun _ _=>ok_eq (fun _=>ag G.eZ) fun _=>af (OC N (by omega) hm hb.2.1 _) fun a ha=>af (OD N (by omega) hm hb.2.2.2.2.2.1 ha) fun r hr=>ag ⟨hb.1,hb.2.1,hb.2.2.1,hb.2.2.2.1,hb.2.2.2.2.1,hr,trivial⟩)
theorem Ff(N:Nat)(hN:200000≤N){l:ay}{m:Nat}(hm:m≤50000)(h:G m (.slice cL) l)(id:Int):Ok (fun r=>G m (.slice cL) r) (ly N l id):=by
 have hl:=h.1
 unfold ly ly.b
 refine cg (mO N (by omega) hN) (bx (fun _=>ag G.nil) fun _=>bf (len:=l.length) (F:=fun n i s=>ly.l5 N n l id s i) (fun i s=>G i (.slice cL) s) G.nil (by omega) (fun n i s hi hI hr=> ?_) (fun n s hI=> ?_))
 all_goals unfold ly.l5 ly.dn
 ·have hs:=hI.1
  have hx:G 0 cL (l.getD (i:Int).toNat aE):=G.at h _
  rw[aq (x:=(i:Int)+1) (by omega) (by omega),aa i]
  exact au (fun _=>aw ⟨by omega,by omega⟩ (bI (fun _=>aw ⟨by omega,by omega⟩ (aG (by rw[List.length_singleton];omega) (hr _ (G.cat hI (G.one hx (Nat.le_refl 1)))))) fun _=>hr s (G.mono (by omega) hI))) fun _=>by omega
 ·exact au (fun _=>by omega) fun _=>ag (G.mono hl hI)
theorem LB(N:Nat)(hN:200000≤N){l:aZ}{m:Nat}(hm:m≤50000)(h:L6 m l)(a id:Int):Ok (fun r=>L6 m r.1) (m2 N l a id):=by
 have hl:=h.1
 unfold m2 m2.b
 refine cg (jK N (by omega) hN) (bx (fun _=>ag G.nil) fun _=>bf (len:=l.length) (F:=fun n i s=>m2.l5 N n l a id s i) (fun i s=>L6 i s) G.nil (by omega) (fun n i s hi hI hr=> ?_) (fun n s hI=> ?_))
 all_goals unfold m2.l5 m2.dn
 ·have hs:=hI.1
  have hx:G 0 jv (l.getD (i:Int).toNat eg):=G.at h _
  rw[aq (x:=(i:Int)+1) (by omega) (by omega),aa i]
  have h1:=hr s (G.mono (by omega) hI)
  have h2:=hr _ (G.cat hI (G.one hx (Nat.le_refl 1)))
  repeat' first|exact h1|exact h2|refine aG (by rw[List.length_singleton];omega) ?_|refine aw ⟨by omega,by omega⟩ ?_|refine au (fun _=> ?_) (fun _=> ?_)|refine bI (fun _=> ?_) (fun _=> ?_)|(exfalso;omega)
 ·exact au (fun _=>by omega) fun _=>ok_eq (fun _=>ag G.nil) fun _=>ag (G.mono hl hI)
end VM
end
section
namespace VM
open Go VM.F
theorem G6q{m:Nat}{x:fD}{q:Int}(h:G m jv x)(hq:aD q):G m jv (x.1,(x.2.1,(x.2.2.1,(x.2.2.2.1,(q,x.2.2.2.2.2))))):=⟨h.1,h.2.1,h.2.2.1,h.2.2.2.1,hq,h.2.2.2.2.2⟩
theorem RQ(N:Nat)(hN:200000≤N){l:aZ}{m:Nat}(hm:m≤50000)(h:L6 m l)(a d:Int):Ok (fun r=>L6 m r) (c9 N l a d):=by
 have hl:=h.1
 unfold c9 c9.b
 refine cg (jK N (by omega) hN) (bx (fun _=>ag G.nil) fun _=>bf (len:=l.length) (F:=fun n i s=>c9.l5 N n l a d s i) (fun i s=>L6 i s) G.nil (by omega) (fun n i s hi hI hr=> ?_) (fun n s hI=> ?_))
 all_goals unfold c9.l5 c9.dn
 ·have hs:=hI.1
  have hx:G 0 jv (l.getD (i:Int).toNat eg):=G.at h _
  have fin: ∀k:Nat,k≤s.length→Ok (fun r=>L6 m r) (c9.GY N (c9.l5 N n) l a d s (i:Int) (k:Int)):=fun k hk=>by
   unfold c9.GY c9.zl
   rw[aq (x:=(i:Int)+1) (by omega) (by omega),aa i]
   dsimp only
   have t: ∀a b:Nat,(List.drop a (List.take b s)).length≤s.length:=fun a b=>by rw[List.length_drop,List.length_take];omega
   have t1:=t (0:Int).toNat (k:Int).toNat
   have t2:=t (k:Int).toNat (s.length:Int).toNat
   refine CE ⟨by omega,by omega,by omega,by omega⟩ (aG (by omega) (aw ⟨by omega,by omega⟩ (aG (by rw[List.length_singleton];omega) (CE ⟨by omega,by omega,by omega,by omega⟩ (aG (by rw[List.length_append,List.length_singleton];omega) (hr _ ?_))))))
   simpa using G.ins hI (G.mono (Nat.zero_le i) hx) k 0 k (Nat.le_refl _)
  have h1:=hr s (G.mono (by omega) hI)
  have hw:Ok (fun r=>L6 m r) (c9.l9 N (c9.l5 N n) N l a d s (i:Int) 0):=by
   refine hO (len:=s.length) (F:=fun n' j=>c9.l9 N (c9.l5 N n) n' l a d s (i:Int) j) (by omega) (fun n' j hj dr=> ?_) (fun n'=> ?_)
   all_goals unfold c9.l9 c9.sd
   ·rw[aq (x:=(j:Int)+1) (by omega) (by omega),aa j]
    have hah: ∀x y:fD,Ok (fun _=>True) (RS N x y):=fun x y=>by unfold RS;exact bI (fun _=>dk) fun _=>dk
    exact au (fun _=>aw ⟨by omega,by omega⟩ (aw ⟨by omega,by omega⟩ (af (hah _ _) fun _ _=>og (fun _=>dr) fun _=>fin j (by omega)))) fun _=>by omega
   ·exact au (fun _=>by omega) fun _=>fin _ (Nat.le_refl _)
  rw[aq (x:=(i:Int)+1) (by omega) (by omega),aa i]
  repeat' first|exact h1|exact hw|refine aw ⟨by omega,by omega⟩ ?_|refine au (fun _=> ?_) (fun _=> ?_)|refine bI (fun _=> ?_) (fun _=> ?_)|(exfalso;omega)
 ·exact au (fun _=>by omega) fun _=>ag (G.mono hl hI)
theorem OE(N:Nat)(hN:200000≤N){l:aZ}{o:fD}{m:Nat}(hm:m≤50000)(h:L6 m l)(ho:G 0 jv o):Ok (fun r=>L6 m r.1∧aD r.2.2.1) (bJ N l o):=by
 have hl:=h.1
 have fin: ∀(s:aZ) (q:Int) (t:bk),L6 m s→aD q→Ok (fun r=>L6 m r.1∧aD r.2.2.1) (bJ.j22 N s q t):=fun s q t hs hq=>by
  have hsl:=hs.1
  unfold bJ.j22 bJ.YD
  refine bf (len:=s.length) (F:=fun n i u=>bJ.GZ N n s q t u i) (fun i u=>L6 i u) G.nil (by omega) (fun n i u hi hI hr=> ?_) (fun n u hI=> ?_)
  all_goals unfold bJ.GZ bJ.Io
  ·have hu:=hI.1
   have hx:G 0 jv (s.getD (i:Int).toNat eg):=G.at hs _
   rw[aq (x:=(i:Int)+1) (by omega) (by omega),aa i]
   have h1:=hr u (G.mono (by omega) hI)
   have h2:=hr _ (G.cat hI (G.one hx (Nat.le_refl 1)))
   repeat' first|exact h1|exact h2|refine aG (by rw[List.length_singleton];omega) ?_|refine aw ⟨by omega,by omega⟩ ?_|refine au (fun _=> ?_) (fun _=> ?_)|(exfalso;omega)
  ·exact au (fun _=>by omega) fun _=>ag ⟨G.mono hsl hI,hq⟩
 have eC:Ok (fun r:aZ×bk×Int×Int=>L6 m r.1∧aD r.2.2.1) (some ([],[],(0:Int),(1:Int))):=ag ⟨G.nil,aS⟩
 unfold bJ bJ.b
 refine cg (jK N (by omega) hN) (bx (fun _=>eC) fun _=>cg (xB N o) (bx (fun _=>eC) fun _=>aG (by rw[List.length_nil];omega) (af (RQ N hN hm h _ _) fun w hw=> ?_)))
 have hwl:=hw.1
 rw[List.nil_append]
 refine bf (len:=w.length) (F:=fun n i (s:aZ×Int×bk)=>bJ.l7 N n o s.1 s.2.1 s.2.2 w i) (s:=(_,(_,_))) (fun i s=>L6 m s.1∧aD s.2.1∧s.2.2.length≤i) ⟨h,ho.2.2.2.2.1,Nat.zero_le _⟩ (by omega) (fun n i s hi hI hr=> ?_) (fun n s hI=> ?_)
 all_goals unfold bJ.l7 bJ.lD
 ·obtain⟨hs,hq,ht⟩:=hI
  have f1:=fin s.1 s.2.1 s.2.2 hs hq
  have ai6: ∀(v:Int) (t:uE),Ok (fun r=>L6 m r.1∧aD r.2.2.1) (bJ.Ar N (bJ.l7 N n) o s.1 s.2.1 s.2.2 w (i:Int) v t):=fun v t=>by
   unfold bJ.Ar bJ.ta
   refine aG (by rw[List.length_singleton];omega) (bf (len:=s.1.length) (F:=fun n' j u=>bJ.uB N (bJ.l7 N n) n' o u (W .i64 (s.2.1-v)) (s.2.2++[t]) w (i:Int) v j) (fun _ u=>u.length=s.1.length∧L6 m u) ⟨rfl,hs⟩ (by have:=hs.1;omega) (fun n' j u hj hJ dr=> ?_) (fun n' u hJ=> ?_))
   all_goals unfold bJ.uB bJ.rQ
   ·have hsl:=hs.1
    have WB:=hJ.1
    rw[aq (x:=(j:Int)+1) (by omega) (by omega),aa j]
    exact au (fun _=>aw ⟨by omega,by omega⟩ (aw ⟨by omega,by omega⟩ (ok_eq (fun _=>aw ⟨by omega,by omega⟩ (aw ⟨by omega,by omega⟩ (dr _ ⟨by rw[List.length_set];exact WB,G.set hJ.2 (G6q (G.at hJ.2 _) (dJ _)) _⟩))) fun _=>dr u hJ))) fun _=>by omega
   ·have WB:=hJ.1
    rw[aq (x:=(i:Int)+1) (by omega) (by omega),aa i]
    exact au (fun _=>by omega) fun _=>hr (_,(_,_)) ⟨hJ.2,dJ _,by dsimp only;rw[List.length_append,List.length_singleton];omega⟩
  have RT:Ok (fun r=>L6 m r.1∧aD r.2.2.1) (bJ.OF N (bJ.l7 N n) o s.1 s.2.1 s.2.2 w (i:Int)):=by
   unfold bJ.OF bJ.Ip
   rw[aq (x:=(i:Int)+1) (by omega) (by omega),aa i]
   dsimp only
   have h1:=hr s ⟨hs,hq,by omega⟩
   repeat' first|exact h1|exact ai6 _ _|refine aw ⟨by omega,by omega⟩ ?_|refine ok_eq (fun _=> ?_) (fun _=> ?_)
  repeat' first|exact f1|exact RT|refine aw ⟨by omega,by omega⟩ ?_|refine au (fun _=> ?_) (fun _=> ?_)|refine ok_eq (fun _=> ?_) (fun _=> ?_)|(exfalso;omega)
 ·exact au (fun _=>by omega) fun _=>fin _ _ _ hI.1 hI.2.1
theorem OG(N:Nat)(hN:5000000≤N){c:ae}{b:ah}{o:fD}{m:Nat}(h2:200≤m)(hm:m≤40000)(hc:G m an c)(hb:G m aC b)(ho:G 0 jv o):Ok (fun r=>G (m+1) aC r.1) (iN N c b o):=by
 have Da:=hb.2.2.2.2.2.1.1
 have eC: ∀(t:bk) (e:Int),Ok (fun r:ah×bk×Int×Int=>G (m+1) aC r.1) (some ((a6,(cn,(bc,(bc,(cQ,(cY,())))))),(t,((0:Int),e)))):=fun t e=>ag (G.zero (m+1) aC)
 have RT: ∀(r:aZ) (t:bk) (q:Int),L6 m r→aD q→Ok (fun r=>G (m+1) aC r.1) (iN.OF N c b o (a6,(cn,(bc,(bc,(cQ,(cY,())))))) r t q):=fun r t q hr hq=>by
  have GI:=hr.1
  unfold iN.OF iN.Ip
  have hx:G 0 jv (o.1,(o.2.1,(o.2.2.1,(o.2.2.2.1,(q,o.2.2.2.2.2))))):=G6q ho hq
  exact af (Bx N hN c h2 (by omega) hb) fun z hz=>bI (fun _=>eC _ _) fun _=>by
   have xw:G (m+1) aC z.1:=G.mono (by omega) hz
   exact au (fun _=>aG (by rw[List.length_singleton];omega) (ag ⟨xw.1,xw.2.1,xw.2.2.1,xw.2.2.2.1,xw.2.2.2.2.1,G.cat hr (G.one hx (Nat.le_refl 1)),trivial⟩)) fun _=>ag ⟨xw.1,xw.2.1,xw.2.2.1,xw.2.2.2.1,xw.2.2.2.2.1,G.mono (by omega) hr,trivial⟩
 have hj7:Ok (fun r=>G (m+1) aC r.1) (iN.j7 N c b o (a6,(cn,(bc,(bc,(cQ,(cY,()))))))):=by
  unfold iN.j7 iN.Yi
  exact af (OE N (by omega) (by omega) hb.2.2.2.2.2.1 ho) fun z hz=>au (fun _=>ok_eq (fun _=>eC _ _) fun _=>RT _ _ _ hz.1 hz.2) fun _=>RT _ _ _ hz.1 hz.2
 unfold iN iN.b
 refine af (E7 N hN h2 hm hc hb (G.mono (Nat.zero_le m) ho)) fun e _=>bI (fun _=>eC _ _) fun _=>au (fun h0=> ?_) fun _=>hj7
 dsimp only
 exact aw (by rw[aq (by omega) (by omega)];omega) (c8 (fun _=>eC _ _) fun _=>hj7)
end VM
end
section
namespace VM
open Go VM.F
theorem YE(N:Nat)(a:Int):Ok (fun _=>True) (Ij N a):=by
 unfold Ij
 exact ok_eq (fun _=>dk) fun _=>dk
theorem fO.one{k n:Int}{x:av}{m:Nat}(h:Bg m x)(hm:m≤8):fO 1 [(k,(n,(x,())))]:=⟨Nat.le_refl 1,fun y hy=>by rw[List.mem_singleton.1 hy];exact Bg.mono h hm⟩
theorem OH(N:Nat)(hN:4000000≤N){l:aj}{m:Nat}(hm:m≤50000)(h:L3 m l)(i a b:Int):Ok (fun r=>fO m r.1) (m3 N l i a b):=by
 have hl:=h.1
 unfold m3 m3.b
 have p64: ∀p:Int,decide (1≤p∧p≤1000000000000)=true→aD p:=fun p h=>by have:=of_decide_eq_true h;unfold aD;omega
 refine cg (mh N (by omega) (by omega)) (bx (fun _=>ag fO.nil) fun _=>cg (iF N _) (bx (fun _=>ag fO.nil) fun ha=>cg (iF N _) (bx (fun _=>ag fO.nil) fun hb=>af (aY N hN (p64 _ hb)) fun x hx=>af (aY N hN (p64 _ ha)) fun y hy=>af (uM N hN (by omega) hx hy) fun z hz=>bf (len:=l.length) (F:=fun n j s=>m3.l6 N n l i s z j) (fun j s=>fO j s) fO.nil (by omega) (fun n j s hj hI hr=> ?_) (fun n s hI=> ?_))))
 all_goals unfold m3.l6 m3.mg
 ·have hs:=hI.1
  rw[aq (x:=(j:Int)+1) (by omega) (by omega),aa j]
  have h1:=hr s (fO.mono hI (by omega))
  exact au (fun _=>aw ⟨by omega,by omega⟩ (bI (fun _=>h1) fun _=>af (xJ N hz) fun _ _=>ok_eq (fun _=>h1) fun _=>aw ⟨by omega,by omega⟩ (af (YE N _) fun _ _=>aw ⟨by omega,by omega⟩ (af (aY N hN (G.at h _).2.2.1) fun v hv=>af (jn N hN (by omega) (by omega) hv hz) fun u hu=>aG (by rw[List.length_singleton];omega) (hr _ (fO.app hI (fO.one hu (by omega)))))))) fun _=>by omega
 ·exact au (fun _=>by omega) fun _=>ag (fO.mono hI (by omega))
theorem Fg(N:Nat)(hN:5000000≤N)(c:ae){b:ah}{m:Nat}(h2:200≤m)(hm:m≤50000)(hb:G m aC b)(i:Int){p:Int}(hp:aD p):Ok (fun r=>G m aC r.1∧fO m r.2.1) (RU N c b i p):=by
 have eC: ∀e:Int,Ok (fun r:ah×bl×Int=>G m aC r.1∧fO m r.2.1) (some ((a6,(cn,(bc,(bc,(cQ,(cY,())))))),([],e))):=fun e=>ag ⟨G.eZ,fO.nil⟩
 have Qk:=hb.2.2.2.2.1.1
 unfold RU
 refine cg (dH N hN hm hb) (bx (fun _=>eC _) fun hB=>cg (iF N _) (bx (fun _=>eC _) fun _=>au (fun _=>eC _) fun h0=>c8 (fun _=>eC _) fun h1=> ?_))
 obtain⟨hpr,_⟩:=gX hB
 dsimp only
 rw[List.nil_append]
 exact aw ⟨h0,by rw[hpr];exact h1⟩ (af (OH N (by omega) hm hb.2.2.2.1 _ _ _) fun f hf=>af (n0 N (by omega) h2 hm hb G.nil (fO.mono hf hm)) fun r hr=>bI (fun _=>eC _) fun _=>aG (by rw[List.length_nil];omega) (aw ⟨h0,by rw[hpr];exact h1⟩ (ag ⟨⟨hr.1,hr.2.1,hr.2.2.1,hr.2.2.2.1,G.set hb.2.2.2.2.1 hp _,hr.2.2.2.2.2⟩,hf⟩)))
abbrev L2(m:Nat)(l:ax):Prop:=G m (.slice gB) l
theorem G2{m:Nat}{a b:Int}(ha:aD a)(hb:aD b):G m gB (a,(b,())):=⟨ha,hb,trivial⟩
theorem BA(N:Nat)(hN:200000≤N){l:ax}(hl:l.length≤100000):Ok (fun _=>True) (lT N l):=by
 unfold lT lT.b
 refine hO (len:=l.length) (F:=fun n i=>lT.l2 N n l i) (by omega) (fun n i hi hr=> ?_) (fun n=> ?_)
 all_goals unfold lT.l2 lT.dI
 ·rw[aq (x:=(i:Int)+1) (by omega) (by omega),aa i]
  dsimp only
  repeat' first|exact hr|exact dk|refine aw ⟨by omega,by omega⟩ ?_|refine aw (by rw[aq (x:=(i:Int)-1) (by omega) (by omega)];omega) ?_|refine au (fun _=> ?_) (fun _=> ?_)|refine c8 (fun _=> ?_) (fun _=> ?_)|refine ok_eq (fun _=> ?_) (fun _=> ?_)|(exfalso;omega)
 ·exact au (fun _=>by omega) fun _=>dk
theorem OI(N:Nat)(hN:4000000≤N){g:ax}{p:bl}{m:Nat}(h2:200≤m)(hm:m≤50000)(h:L2 m g)(hp:fO m p):Ok (fun r=>L2 m r.1) (c4 N g p):=by
 have hl:=h.1
 have Qk:=hp.1
 unfold c4 c4.b
 refine af (BA N (by omega) (by omega)) fun _ _=>bx (fun _=>ag G.nil) fun _=>gz (len:=25) (F:=fun n i s=>c4.l5 N n g p s i) (fun i s=>L2 i s) (fun n i s hi hI hr=> ?_) (fun n s hI=> ?_) 25 N 1 [] (by omega) (by omega) (by omega) G.nil
 all_goals unfold c4.l5 c4.dn
 ·have hs:=hI.1
  refine c8 (fun _=> ?_) fun _=>by omega
  refine bf (len:=g.length) (F:=fun n' j t=>c4.l9 N (c4.l5 N n) n' g p s (i:Int) t j) (fun _ t=>Bg 2 t) (CF (by omega)) (by omega) (fun n' j t hj ht dr=> ?_) (fun n' t ht=> ?_)
  all_goals unfold c4.l9 c4.sd
  ·rw[aq (x:=(j:Int)+1) (by omega) (by omega),aa j]
   exact au (fun _=>aw ⟨by omega,by omega⟩ (ok_eq (fun _=>aw ⟨by omega,by omega⟩ (af (aY N hN (G.at h _).2.1) fun r hr=>dr r hr)) fun _=>dr t ht)) fun _=>by omega
  ·refine au (fun _=>by omega) fun _=> ?_
   refine bf (len:=p.length) (F:=fun Bv j t=>c4.Bn N (c4.l5 N n) Bv g p s (i:Int) t j) (fun j t=>Bg (8+j) t) (Bg.mono ht (by omega)) (by omega) (fun Bv j t hj ht dr=> ?_) (fun Bv t ht=> ?_)
   all_goals unfold c4.Bn c4.zd
   ·rw[aq (x:=(j:Int)+1) (by omega) (by omega),aa j]
    have h1:=dr t (Bg.mono ht (by omega))
    exact au (fun _=>aw ⟨by omega,by omega⟩ (ok_eq (fun _=>aw ⟨by omega,by omega⟩ (ok_eq (fun _=>aw ⟨by omega,by omega⟩ (af (gA N hN (by omega) ht (Bg.mono (hp.at _) (by omega))) fun r hr=>dr r (Bg.mono hr (by omega)))) fun _=>h1)) fun _=>h1)) fun _=>by omega
   ·rw[aq (x:=(i:Int)+1) (by omega) (by omega),aa i]
    exact au (fun _=>by omega) fun _=>af (s9 N ht) fun v hv=>bx (fun _=>ag G.nil) fun _=>bI (fun _=>aG (by rw[List.length_singleton];omega) (hr _ (G.cat hI (G.one (m:=1) (G2 (fj (by omega) (by omega)) hv) (Nat.le_refl 1))))) fun _=>hr s (G.mono (by omega) hI)
 ·exact c8 (fun _=>by omega) fun _=>ag (G.mono (by omega) hI)
theorem n6(N:Nat)(hN:4000000≤N)(a b c d:Int){x:av}(h:Bg 8 x):Ok (fun r=>fO 2 r) (xd N a b c d x):=by
 unfold xd
 exact af (oP N hN (by omega) h) fun y hy=>ag ⟨Nat.le_refl 2,fun z hz=>by
  rcases List.mem_cons.1 hz with rfl|hz
  ·exact hy
  ·rw[List.mem_singleton.1 hz];exact h⟩
theorem Fh(N:Nat)(hN:5000000≤N){c:ae}{b:ah}{m:Nat}(h2:200≤m)(hm:m≤40000)(hc:G m an c)(hb:G m aC b)(a:Int){q:Int}(hq:aD q):Ok (fun r=>G m aC r.1) (RV N c b a q):=by
 unfold RV
 exact cg (dH N hN (by omega) hb) (bx (fun _=>ag G.eZ) fun _=>au (fun _=>ag G.eZ) fun _=>af (rC N (by omega) (by omega) hb.2.1 _) fun _ _=>bx (fun _=>ag G.eZ) fun _=>af (mj N (by omega) (by omega) hb.1 _) fun _ _=>bI (fun _=>ag G.eZ) fun _=>af (mW N (by omega) (by omega) hb.2.2.1 _ _) fun g hg=>af (aY N (by omega) hg) fun x hx=>af (aY N (by omega) hq) fun y hy=>af (uM N (by omega) (by omega) hx hy) fun z hz=>af (E6 N (by omega) h2 hm hc hb (Nat.zero_le _) _) fun w hw=>af (oh N (by omega) (by omega) (by omega) hz hw) fun _ _=>au (fun _=>ag G.eZ) fun _=>af (aY N (by omega) hq) fun y hy=>af (n6 N (by omega) _ _ _ _ (Bg.mono hy (by omega))) fun p hp=>af (n0 N (by omega) h2 (by omega) hb G.nil (fO.mono hp (by omega))) fun r hr=>ag hr)
theorem Iq(N:Nat)(hN:1000≤N){c:ae}(hc:G 5 an c):Ok (fun r=>G 5 aC r.1) (gi N c):=by
 have hl:=hc.1.1
 unfold gi gi.b
 have hj: ∀b:ah,G 5 aC b→Ok (fun r=>G 5 aC r.1) (gi.j6 N c (a6,(cn,(bc,(bc,(cQ,(cY,())))))) b []):=fun b hb=>by
  unfold gi.j6 gi.Mf
  obtain⟨b1,b2,b3,b4,b5,b6⟩:=b
  refine bf (len:=c.1.length) (F:=fun n i (z:ah×List Int)=>gi.l7 N n c (a6,(cn,(bc,(bc,(cQ,(cY,())))))) z.1 z.2 i) (s:=((b1,(b2,(b3,(b4,(b5,b6))))),_)) (fun i z=>G 5 aC z.1∧G i (.slice (.int .i64)) z.2) ⟨hb,G.nil⟩ (by omega) (fun n i z hi hI hr=> ?_) (fun n z hI=> ?_)
  all_goals unfold gi.l7 gi.lD
  ·have hz:=hI.2.1
   rw[aq (x:=(i:Int)+1) (by omega) (by omega),aa i]
   have hx:G 0 (.int .i64) (c.1.getD (i:Int).toNat aE).2.1:=(G.at hc.1 _).2.1
   exact au (fun _=>aw ⟨by omega,by omega⟩ (aG (by rw[List.length_singleton];omega) (hr (_,_) ⟨⟨hI.1.1,hI.1.2.1,hI.1.2.2.1,hI.1.2.2.2.1,G.nil,hI.1.2.2.2.2.2⟩,G.cat hI.2 (G.one hx (Nat.le_refl 1))⟩))) fun _=>by omega
  ·exact au (fun _=>by omega) fun _=>ag ⟨hI.1.1,hI.1.2.1,hI.1.2.2.1,hI.1.2.2.2.1,G.mono hl hI.2,hI.1.2.2.2.2.2⟩
 have C6:L3 5 [((1:Int),((0:Int),(W .i64 (0-c.2.1),()))),((3:Int),((0:Int),(c.2.1,())))]:=G.two (G3 (show aD 1 from aV) aS (dJ _)) (G3 (show aD 3 from aV) aS hc.2.1) (by decide)
 exact cg (mK N (by omega) c) (bx (fun _=>ag G.eZ) fun _=>bI (fun _=>hj _ ⟨G.nil,G.nil,C6,G.nil,G.nil,G.nil,trivial⟩) fun _=>hj _ G.eZ)
end VM
end
