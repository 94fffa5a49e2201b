/- A part of the proof of TearShares of layer 29: what the functions compute, in plain words. -/
import Derived.Test.YtocmlaipoebfeaaGreatPlain4
set_option linter.all false
section
namespace VM
open Go VM.F
def Bb(k:Nat)(l:kS):Prop:= ∀x∈l,Bg k x
theorem Bb.mono{j k:Nat}{l:kS}(h:Bb j l)(hk:j≤k):Bb k l:=fun x hx=>Bg.mono (h x hx) hk
theorem Bb.at{k:Nat}{l:kS}(h:Bb k l)(h1:1≤k)(i:Nat):Bg k (l.getD i (false,kX)):=by
 by_cases hk:i<l.length
 ·rw[aub,auf hk];exact h _ (auT hk)
 ·rw[aub,auQ (by omega)];exact Bg.mono Bg.zero h1
theorem Bb.set{k:Nat}{l:kS}{x:au}(h:Bb k l)(hx:Bg k x)(i:Nat):Bb k (l.set i x):=fun y hy=>by
 rcases avO hy with hy|rfl
 ·exact h y hy
 ·exact hx
theorem Bb.rep{k n:Nat}(h:1≤k):Bb k (List.replicate n (false,kX)):=fun x hx=>by
 rw[(List.mem_replicate.1 hx).2];exact Bg.mono Bg.zero h
theorem Sm(N:Nat)(hN:5000000≤N)(c:ae){b:ah}{m:Nat}(hm:m≤50000)(hb:G m aA b):Ok (fun r=>(r.2=0→dn c b=true∧r.1.length=4)∧Bb 20 r.1) (mQ N c b):=by
 unfold mQ mQ.b
 have w:=(G.wf hm hb).w
 refine bJ (dJ N hN hm hb) (bx (fun _=>ag ⟨fun h=>absurd h (by decide),fun x hx=>nomatch hx⟩) fun hB=>Si ⟨by omega,by omega,by omega⟩ ?_)
 obtain⟨hp,XG⟩:=im hB
 obtain⟨h6,hbk⟩:=wW (pN hB)
 refine bh (len:=c.1.length) (F:=fun n i (s:kS)=>mQ.l5 N n c b s i) (fun i s=>s.length=4∧Bb (8+i) s) ⟨aun ..,Bb.rep (by omega)⟩ (by omega) (fun n i s hi hI hr=> ?_) (fun n s hI=> ?_)
 all_goals unfold mQ.l5 mQ.du
 ·have hk:=hbk i hi
  have hl:=hI.1
  rw[an (x:=(i:Int)+1) (by omega) (by omega),aa i,aue]
  have in1: ∀{x y:Option (kS×Int)},Ok (fun r=>(r.2=0→dn c b=true∧r.1.length=4)∧Bb 20 r.1) x→Ok (fun r=>(r.2=0→dn c b=true∧r.1.length=4)∧Bb 20 r.1) (cond (aK (c.1.getD i aO).1 s.length) x y):=fun h=>aw ⟨hk.1,awM hk.2 (show(3:Int)<(s.length:Int)by omega)⟩ h
  exact av (fun _=>aw ⟨by omega,by omega⟩ (in1 (bJ (uG N w.s (by omega) 0 (i:Int)) (af (aZ N (by omega) (OP w.qs 0 (i:Int))) fun a ha=>aw ⟨by omega,by omega⟩ (af (aZ N (by omega) (Sk (Fo XG (by omega)))) fun p hp=>af (jM N (by omega) (by omega) (by omega) ha hp) fun x hx=>af (gO N (by omega) (by omega) (Bb.at hI.2 (by omega) _) (Bg.mono hx (by omega))) fun y hy=>in1 (hr _ ⟨by rw[aup];exact hl,Bb.set (Bb.mono hI.2 (by omega)) hy _⟩)))))) fun _=>by omega
 ·exact av (fun _=>by omega) fun _=>ag ⟨fun _=>⟨hB,hI.1⟩,Bb.mono hI.2 (by omega)⟩
theorem L4(N:Nat)(hN:5000000≤N)(c:ae)(hc:aB (aku c)){b:ah}{m:Nat}(hm:m≤50000)(hb:G m aA b)(next:Int):Ok (fun r=>G 4 (.slice db) r.1) (pR N c b next):=by
 unfold pR pR.b
 refine af (Sm N hN c hm hb) fun z hz=>bA (fun _=>ag G.nil) fun h0=>av (fun _=>ag G.nil) fun h1=>av (fun _=>ag G.nil) fun h2=> ?_
 obtain⟨hB,hl4⟩:=hz.1 h0
 obtain⟨hp,XG⟩:=im hB
 obtain⟨h6,hbk⟩:=wW (pN hB)
 refine bh (len:=4) (F:=fun n k (s:Int×aF)=>pR.l6 N n s.1 c b z.1 s.2 k) (s:=(_,_)) (fun k s=>G k (.slice db) s.2∧next≤s.1∧s.1≤next+k) ⟨G.nil,by omega,by omega⟩ (by omega) (fun n k s hk hI hr=> ?_) (fun n s hI=> ?_)
 all_goals unfold pR.l6 pR.ov
 ·have Ht:=hI.1.1
  have XE:=hI.2
  rw[an (x:=(k:Int)+1) (by omega) (by omega),aa k]
  have nL:=hr s ⟨G.mono (by omega) hI.1,by omega,by omega⟩
  refine av (fun _=>bJ (IG N (by omega) c (by omega) (k:Int)) (aw ⟨by omega,by omega⟩ (af (rm N (by omega) (by omega) (Bb.at hz.2 (by omega) _)) fun u hu=>ok_eq (fun _=>nL) fun fL=>af (aZ N (by omega) hc) fun v hv=>af (oe N (by omega) (by omega) (by omega) hu hv) fun _ _=>cW (fun _=>nL) fun _=> ?_))) fun _=>by omega
  have ae3:e7 c (k:Int)≠[]:=fun e=>fL (by rw[e];rfl)
  have hh:0≤(e7 c (k:Int)).getD 0 0∧(e7 c (k:Int)).getD 0 0<(c.1.length:Int):=by
   have h1:=ae3
   unfold e7 at h1 ⊢
   rw[pN hB,auh rfl]at h1 ⊢
   have:=w3 h1
   omega
  have hl0:0<(e7 c (k:Int)).length:=avC.2 ae3
  have hpx:=Fo XG (i:=((e7 c (k:Int)).getD 0 0).toNat) (by omega)
  have hj: ∀q:Int,aB q→Ok (fun r=>G 4 (.slice db) r.1) (pR.Bc N (pR.l6 N n) s.1 c b z.1 s.2 (k:Int) (e7 c (k:Int)) q):=fun q hq=>by
   unfold pR.Bc pR.tk
   rw[an (x:=(k:Int)+1) (by omega) (by omega),aa k,an (x:=s.1+1) (by omega) (by omega)]
   have tK: ∀d:Int,aB d→Ok (fun r=>G 4 (.slice db) r.1) (cond (small (s.2.length+[((s.1,((e7 c (k:Int)).getD 0 0,(d,(q,())))):bQ)].length)) (pR.l6 N n (s.1+1) c b z.1 (s.2++[(s.1,((e7 c (k:Int)).getD 0 0,(d,(q,()))))]) ((k+1:Nat):Int)) none):=fun d hd=>
    aD (by rw[List.length_singleton];omega) (hr (_,_) ⟨G.app hI.1 ⟨by show aB s.1;unfold aB;omega,(show aB ((e7 c (k:Int)).getD 0 0)from fP (by omega) (by omega)),hd,hq,trivial⟩,by dsimp only;omega,by dsimp only;omega⟩)
   exact ok_eq (fun _=>nL) fun _=>aw ⟨by omega,by omega⟩ (aw ⟨by omega,by omega⟩ (af (yk N (Bb.at hz.2 (by omega) _)) fun _ _=>av (fun _=>tK 2 (fP (by omega) (by omega))) fun _=>tK 1 (fP (by omega) (by omega))))
  have hb9:aB 1000000000:=by unfold aB;decide
  refine aw ⟨by omega,by omega⟩ (aw ⟨hh.1,by show(e7 c (k:Int)).getD 0 0<_;omega⟩ ?_)
  obtain⟨a,rfl,ha⟩:=hu
  have akw:=hpx
  unfold kA at akw
  rw[show(0:Int).toNat=0 from rfl]
  refine bJ (eX N (by omega) (by omega) (by omega)) (bJ (J8 N hN (by omega) (Fit.mono ha (by omega)) ((Fit.i64 (by omega) (by omega)).mono (by omega))) (bJ (qW N _) (bx (fun _=>hj _ hb9) fun _=>av (fun _=>hj _ hb9) fun _=>hj _ (IP _))))
 ·exact av (fun _=>by omega) fun _=>ag hI.1
end VM
end
section
namespace VM
open Go VM.F
theorem zT(N:Nat)(hN:200000≤N){l:ba}(hl:l.length≤100000)(a:Int):Ok (fun r=>L3 6 r) (eG N l a):=by
 unfold eG eG.b
 refine bh (len:=6) (F:=fun n k (s:aj)=>eG.l3 N n l a s k) (fun k s=>L3 k s) G.nil (by omega) (fun n k s hk hI hr=> ?_) (fun n s hI=> ?_)
 all_goals unfold eG.l3 eG.ix
 ·have hs:=hI.1
  refine av (fun _=> ?_) fun _=>by omega
  refine bh (len:=l.length) (F:=fun n' i (x:cm)=>eG.l7 N (eG.l3 N n) n' l a s (k:Int) x i) (fun i x=>G 6 fG x) (G3 (fP (by omega) (by omega)) aU aU) (by omega) (fun n' i x hi hx dT=> ?_) (fun n' x hx=> ?_)
  all_goals unfold eG.l7 eG.n9
  ·rw[an (x:=(i:Int)+1) (by omega) (by omega),aa i]
   have h1:=dT x hx
   repeat' first|exact h1|refine aw ⟨by omega,by omega⟩ ?_|refine av (fun _=> ?_) (fun _=> ?_)|refine bA (fun _=> ?_) (fun _=> ?_)|refine ok_eq (fun _=> ?_) (fun _=> ?_)|(exfalso;omega)|exact dT (_,(_,(_,_))) ⟨hx.1,dP _,hx.2.2.1,trivial⟩|exact dT (_,(_,(_,_))) ⟨hx.1,hx.2.1,dP _,trivial⟩
  ·rw[an (x:=(k:Int)+1) (by omega) (by omega),aa k]
   have h1:=hr s (G.mono (by omega) hI)
   have h2:=hr (s++[x]) ⟨by rw[aug,aud];omega,fun y hy=>by
    rcases aut.1 hy with hy|hy
    ·exact G.mono (by omega) (hI.2 y hy)
    ·rw[auE.1 hy];exact⟨hx.1,hx.2.1,hx.2.2.1,trivial⟩⟩
   repeat' first|exact h1|exact h2|refine aD (by rw[aud];omega) ?_|refine av (fun _=> ?_) (fun _=> ?_)|(exfalso;omega)
 ·exact av (fun _=>by omega) fun _=>ag hI
theorem Cb(N:Nat)(hN:200000≤N)(c:ae){l:aj}(hl:l.length≤100000):Ok (fun _=>True) (lI N c l):=by
 unfold lI lI.b
 refine bJ (mF N (by omega) c) (bx (fun _=>ag trivial) fun _=>jL (len:=l.length) (F:=fun n i=>lI.l5 N n l c 33000000000 i) (by omega) (fun n i hi hr=> ?_) fun n=> ?_)
 all_goals unfold lI.l5 lI.du
 ·rw[an (x:=(i:Int)+1) (by omega) (by omega),aa i]
  dsimp only
  repeat' first|exact hr|exact ag trivial|refine aw ⟨by omega,by omega⟩ ?_|refine aw (by rw[an (x:=(i:Int)-1) (by omega) (by omega)];omega) ?_|refine av (fun _=> ?_) (fun _=> ?_)|refine cW (fun _=> ?_) (fun _=> ?_)|refine ok_eq (fun _=> ?_) (fun _=> ?_)|(exfalso;omega)
 ·exact av (fun _=>by omega) fun _=>ag trivial
theorem Dr{k:Nat}(h:1≤k):Bg k (false,(([]:List Int),())):=Bg.mono Bg.zero h
theorem O0(N:Nat)(hN:4000000≤N)(c:ae){l:ax}{o:aj}{m:Nat}(hm:m≤50000)(hl:G m (.slice gP) l)(ho:L3 m o)(k:Int):Ok (fun r=>Bg 3 r.1) (fx N c l o k):=by
 have h1:=hl.1
 have h2:=ho.1
 unfold fx fx.b
 refine bJ (uz N (by omega) c (by omega)) (bx (fun _=>ag (Dr (by omega))) fun _=>af (Cb N (by omega) c (by omega)) fun _ _=>bx (fun _=>ag (Dr (by omega))) fun _=>av (fun _=>ag (Dr (by omega))) fun _=>cW (fun _=>ag (Dr (by omega))) fun _=> ?_)
 refine bh (len:=l.length) (F:=fun n i (q:au)=>fx.l7 N n l o k (false,(([]:List Int),())) q (false,(([]:List Int),())) (false,(([]:List Int),())) i) (fun _ q=>Bg 2 q) (Dr (by omega)) (by omega) (fun n i q hi hq hr=> ?_) (fun n q hq=> ?_)
 all_goals unfold fx.l7 fx.n9
 ·rw[an (x:=(i:Int)+1) (by omega) (by omega),aa i]
  exact av (fun _=>aw ⟨by omega,by omega⟩ (ok_eq (fun _=>aw ⟨by omega,by omega⟩ (af (aZ N hN (G.at hl _).2.1) fun r h=>hr r h)) fun _=>hr q hq)) fun _=>by omega
 ·refine av (fun _=>by omega) fun _=> ?_
  refine bh (len:=o.length) (F:=fun n i (z:au×au)=>fx.nq N n o k (false,(([]:List Int),())) q z.1 z.2 i) (s:=(_,_)) (fun _ z=>Bg 2 z.1∧Bg 2 z.2) ⟨Dr (by omega),Dr (by omega)⟩ (by omega) (fun n i z hi hz hr=> ?_) (fun n z hz=> ?_)
  all_goals unfold fx.nq fx.lH
  ·rw[an (x:=(i:Int)+1) (by omega) (by omega),aa i]
   exact av (fun _=>aw ⟨by omega,by omega⟩ (ok_eq (fun _=>aw ⟨by omega,by omega⟩ (af (aZ N hN (G.at ho _).2.1) fun r h=>aw ⟨by omega,by omega⟩ (af (aZ N hN (G.at ho _).2.2.1) fun r' h'=>hr (r,r') ⟨h,h'⟩))) fun _=>hr z hz)) fun _=>by omega
  ·exact av (fun _=>by omega) fun _=>af (gO N hN (by omega) hq hz.1) fun x hx=>af (rm N hN (by omega) hx) fun x hx=>af (uT N hN (by omega) hq hz.2) fun y hy=>af (rm N hN (by omega) hy) fun y hy=>af (oe N hN (by omega) (by omega) hy hx) fun _ _=>av (fun _=>ag hy) fun _=>ag hx
theorem FJ(N:Nat)(hN:4000000≤N){c:ae}{l:ax}{o:aj}{m:Nat}(hm:m≤50000)(hc:G m aq c)(hl:G m (.slice gP) l)(ho:L3 m o):Ok (fun r=>Bg 60000 r.1) (lJ N c l o):=by
 have h1:=hl.1
 have h2:=ho.1
 have h3:=hc.1.1
 unfold lJ lJ.b
 refine bJ (uz N (by omega) c (by omega)) (bx (fun _=>ag (Dr (by omega))) fun _=>af (Cb N (by omega) c (by omega)) fun _ _=>bx (fun _=>ag (Dr (by omega))) fun _=> ?_)
 refine bh (len:=c.1.length) (F:=fun n i (t:au)=>lJ.l5 N n l o c (false,(([]:List Int),())) t i) (fun i t=>Bg (8+i) t) (Dr (by omega)) (by omega) (fun n i t hi ht hr=> ?_) (fun n t ht=> ?_)
 all_goals unfold lJ.l5 lJ.du
 ·rw[an (x:=(i:Int)+1) (by omega) (by omega),aa i]
  exact av (fun _=>af (O0 N hN c hm hl ho _) fun x hx=>aw ⟨by omega,by omega⟩ (af (aZ N hN (G.at hc.1 _).2.2.1) fun r h=>af (jM N hN (by omega) (by omega) hx h) fun y hy=>af (gO N hN (by omega) ht (Bg.mono hy (by omega))) fun z hz=>hr z hz)) fun _=>by omega
 ·exact av (fun _=>by omega) fun _=>ag (Bg.mono ht (by omega))
theorem ae4{m:Nat}{l:aj}(h:L3 m l)(a:Int):G m (.slice gP) (posOf l a):=by
 refine⟨auX (LV a l) h.1,fun y hy=> ?_⟩
 unfold posOf at hy
 split at hy
 ·obtain⟨x,hx,_,e⟩:=pM hy
  rw[e];exact⟨(h.2 x hx).2.1,(h.2 x hx).2.2.1,trivial⟩
 ·nomatch hy
theorem FK(N:Nat)(hN:200000≤N){l:aj}{m:Nat}(hm:m≤50000)(h:L3 m l)(a:Int):Ok (G m (.slice gP)) (sL N l a):=kR (ON N (auX h.1 (by omega)) hN a) (ae4 h a)
theorem FL(N:Nat)(hN:4000000≤N){c:ae}{b:ah}{l:ba}{m:Nat}(h2:200≤m)(hm:m≤40000)(hc:G m aq c)(hb:G m aA b)(hl:l.length≤1000)(a:Int):Ok (Bg 60000) (O1 N c b a l):=by
 have ho:=hb.2.2.2.2.2.1.1
 unfold O1
 refine aD (by rw[auA];omega) ?_
 dsimp only
 rw[auK]
 exact aD (by omega) (af (FK N (by omega) (by omega) hb.2.2.2.1 a) fun r h=>af (zT N (by omega) (by rw[aug];omega) a) fun o h'=>af (FJ N hN (by omega) hc h (G.mono (by omega) h')) fun x hx=>ag hx)
end VM
end
section
namespace VM
open Go VM.F
theorem Sn(N:Nat)(hN:4000000≤N){o:fZ}{m:Nat}(ho:G m jU o)(a:Int):Ok (fun r=>Bg 4 r.1) (So N o a):=by
 unfold So
 have hw: ∀x:Int,Ok (fun r:au×Int=>Bg 4 r.1) ((fM N o.2.2.2.2.1).bind fun r5=>(fM N (W .i64 x)).bind fun r6=>(fN N r5 r6).bind fun r7=>some (r7,(0:Int))):=fun x=>
  af (aZ N hN ho.2.2.2.2.1) fun r h=>af (aZ N hN (dP _)) fun r' h'=>af (jM N hN (by omega) (by omega) h h') fun y hy=>ag hy
 exact bJ (ya N o) (bx (fun _=>ag (Dr (by omega))) fun _=>bJ (iS N a) (bx (fun _=>ag (Dr (by omega))) fun _=>ok_eq (fun _=>av (fun _=>ag (Dr (by omega))) fun _=>hw _) fun _=>av (fun _=>ag (Dr (by omega))) fun _=>hw _))
theorem ZN{m:Nat}{a:aF}(h:G m (.slice db) a)(id:Int):G m db (jw a id).1:=by
 unfold jw
 split
 ·have: ∀l:aF,(∀x∈l,G m db x)→G m db (uk id l).1:=by
   intro l
   induction l with
   |nil=>intro _;exact G.zero m db
   |cons x t ih=>
    intro hx
    rw[tb]
    split
    ·exact hx x (auo ..)
    ·exact ih fun y hy=>hx y (auk _ hy)
  exact this a h.2
 ·exact G.zero m db
theorem sa(N:Nat)(hN:200000≤N){a:aF}{m:Nat}(hm:m≤50000)(h:G m (.slice db) a)(id:Int):Ok (fun r=>G m db r.1) (zk N a id):=kR (Fc N (auX h.1 (by omega)) hN id) (ZN h id)
theorem lY(N:Nat)(hN:200000≤N){a:ax}{m:Nat}(hm:m≤50000)(h:G m (.slice gP) a)(id:Int):Ok (fun _=>True) (uq N a id):=kR (zj N (auX h.1 (by omega)) hN id) trivial
theorem mR(N:Nat)(hN:200000≤N){l:aj}{m:Nat}(hm:m≤50000)(h:L3 m l)(a b:Int):Ok aB (qv N l a b):=kR (ZG N (auX h.1 (by omega)) hN a b) (OM (fun x hx=>(h.2 x hx).2.2.1) a b)
theorem FM(N:Nat)(hN:5000000≤N){c:ae}{b:ah}{o:fZ}{m:Nat}(h2:200≤m)(hm:m≤40000)(hc:G m aq c)(hb:G m aA b)(ho:G m jU o):Ok (fun _=>True) (O2 N c b o):=by
 have DU:=hb.2.2.2.2.2.1.1
 unfold O2
 refine bJ (dJ N hN (by omega) hb) (bx (fun _=>ag trivial) fun hB=>bJ (ya N o) (bx (fun _=>ag trivial) fun hr=>af (sa N (by omega) (by omega) hb.2.1 _) fun x hx=>bx (fun _=>ag trivial) fun _=>af (lY N (by omega) (by omega) hb.1 _) fun _ _=>bA (fun _=>ag trivial) fun _=>cW (fun _=>ag trivial) fun hi=>aD (by rw[auA];omega) ?_))
 have hr:=auw hr
 unfold q3 ta at hr
 obtain⟨hp,_⟩:=im hB
 dsimp only
 rw[auK]
 exact aD (by rw[aud];omega) (af (FK N (by omega) (by omega) hb.2.2.2.1 _) fun r h=>af (zT N (by omega) (by rw[aug,aud];omega) _) fun q h'=>af (O0 N (by omega) c (by omega) h (G.mono (by omega) h') _) fun t ht=>af (aZ N (by omega) hx.2.2.2.1) fun v hv=>af (oe N (by omega) (by omega) (by omega) ht hv) fun _ _=>av (fun _=>ag trivial) fun _=>aw ⟨hr.2.2.1.1,by rw[hp];exact hi⟩ (af (Sn N (by omega) ho _) fun e he=>af (mR N (by omega) (by omega) hb.2.2.1 _ _) fun g hg=>af (aZ N (by omega) hg) fun y hy=>af (uT N (by omega) (by omega) (Bg.mono hy (by omega)) he) fun z hz=>af (FL N (by omega) h2 hm hc hb (by rw[aud];omega) _) fun u hu=>af (oe N (by omega) (by omega) (by omega) hz hu) fun _ _=>av (fun _=>ag trivial) fun _=>ag trivial))
theorem Sp(N:Nat)(hN:5000000≤N){c:ae}{b:ah}{h:bQ}{a q p:Int}{m:Nat}(h2:200≤m)(hm:m≤40000)(hc:G m aq c)(hb:G m aA b)(hh:G m db h)(ha:aB a)(hq:aB q)(hp:aB p):Ok (fun r=>G m aA r.1∧G m db r.2.1) (pS N c b h a q p):=by
 have ho:G m jU (h.1,(a,(h.2.1,(W .i64 (3-h.2.2.1),(q,(p,())))))):=⟨hh.1,ha,hh.2.1,dP _,hq,hp,trivial⟩
 have eH: ∀e:Int,Ok (fun r:ah×bQ×Int=>G m aA r.1∧G m db r.2.1) (some ((bN,(cL,(br,(br,(c5,(de,())))))),(aO,e))):=fun e=>ag ⟨G.fc,G.zero m db⟩
 unfold pS pS.b
 have hj: ∀t:uI,Ok (fun r=>G m aA r.1∧G m db r.2.1) (pS.j14 N q c b h (bN,(cL,(br,(br,(c5,(de,())))))) aO t):=fun t=>by
  unfold pS.j14 pS.ZO
  exact af (Ca N hN c h2 (by omega) hb) fun r hr=>bA (fun _=>eH _) fun _=>ag ⟨hr,hh.1,hh.2.1,hh.2.2.1,dP _,trivial⟩
 exact bJ (dJ N hN (by omega) hb) (bx (fun _=>eH _) fun _=>bJ (zR N h) (bx (fun _=>eH _) fun _=>av (fun _=>eH _) fun _=>av (fun _=>eH _) fun _=>av (fun _=>eH _) fun _=>av (fun _=>eH _) fun _=>av (fun _=>eH _) fun _=>av (fun _=>eH _) fun _=>av (fun _=>eH _) fun _=>af (FM N hN h2 hm hc hb ho) fun e _=>bA (fun _=>eH _) fun _=>ok_eq (fun _=>hj _) fun _=>hj _))
end VM
end
section
namespace VM
open Go VM.F
def Dk(k:Nat)(d:aN):Prop:=(∀x∈(d.1:List Int),0≤x∧x<18446744073709551616)∧0≤(d.2.1:Int)∧(d.2.1:Int)≤k
theorem Dk.mono{j k:Nat}{d:aN}(h:Dk j d)(hk:j≤k):Dk k d:=⟨h.1,h.2.1,awD h.2.2 (by omega)⟩
def pT:Nat:=1000000000
theorem Kw(N:Nat){k:Nat}{d:aN}(hk:k≤pT)(h:Dk k d):Ok (fun r=>(0≤r.1∧r.1<18446744073709551616)∧Dk (k+1) r.2) (F42 N d):=by
 obtain⟨h1,h2,h3⟩:=h
 unfold pT at hk
 unfold F42
 have hw: ∀i:Int,0≤i→i≤(k:Int)→0≤W .i64 (i+1)∧W .i64 (i+1)≤((k+1:Nat):Int):=fun i h0 h1=>by rw[an (by omega) (by omega)];omega
 have hd:Dk (k+1) (d.1,(W .i64 (d.2.1+1),d.2.2)):=⟨h1,hw _ h2 h3⟩
 have hg: ∀(l:List Int) (i:Int),(∀x∈l,0≤x∧x<18446744073709551616)→0≤l.getD i.toNat 0∧l.getD i.toNat 0<18446744073709551616:=fun l i hl=>by
  by_cases hi:i.toNat<l.length
  ·rw[aub,auf hi];exact hl _ (auT hi)
  ·rw[aub,auQ (by omega)];decide
 exact av (fun dz=>aw ⟨h2,dz⟩ (ag ⟨hg _ _ h1,hd⟩)) fun _=>ag ⟨(show(0:Int)≤0∧(0:Int)<18446744073709551616 by decide),hd⟩
theorem rem_in{x y:Int}(h0:0≤x)(hy:0<y):0≤rem x y∧rem x y<y:=by
 unfold rem;rw[eW]
 exact⟨Int.tmod_nonneg _ h0,axn _ hy⟩
theorem gQ(N:Nat){k:Nat}{d:aN}{n:Int}(hn:0<n∧n<1000000)(h:Dk k d)(hk:k≤pT:=by first|decide|(unfold pT;omega)):Ok (fun r=>(0≤r.1∧r.1<n)∧Dk (k+1) r.2) (oh N d n):=by
 unfold oh
 refine af (Kw N hk h) fun r hr=> ?_
 dsimp only
 rw[bz (x:=n) (by omega) (by omega)]
 have:=rem_in hr.1.1 hn.1
 refine ok_eq (fun _=>by omega) fun _=>ag ⟨?_,hr.2⟩
 dsimp only
 rw[an (by omega) (by omega)]
 exact this
theorem tp(N:Nat){k:Nat}{d:aN}{n:Int}(hn:0<n∧n<1000000)(h:Dk k d)(hk:k≤pT:=by first|decide|(unfold pT;omega)):Ok (fun r=>Dk (k+1) r.2) (QA N d n):=by
 unfold QA
 exact af (gQ N hn h hk) fun r hr=>ag hr.2
theorem nY(N:Nat){k:Nat}{d:aN}(h:Dk k d)(hk:k≤pT:=by first|decide|(unfold pT;omega)):Ok (fun r=>aB r.1∧Dk (k+1) r.2) (HI N d):=by
 unfold HI
 refine af (Kw N hk h) fun r hr=>ok_eq (fun _=>by omega) fun _=> ?_
 dsimp only
 repeat' first|exact ag ⟨dP _,hr.2⟩|refine av (fun _=> ?_) (fun _=> ?_)|refine ok_eq (fun _=> ?_) (fun _=> ?_)|(exfalso;omega)
theorem FN{x y:Int}(hy:0<y)(Rx:y<9223372036854775808):aB (rem x y):=by
 unfold rem;rw[eW]
 have h1:=axn x hy
 have h2: -y<x.tmod y:=by
  have:=axn (-x) hy
  rw[Int.neg_tmod]at this;omega
 unfold aB;omega
theorem vR{x y:Int}(hx:aB x)(hy:aB y):aB (mx x y):=by unfold mx;rw[eW];split<;>assumption
theorem Sq{x y:Int}(hx:aB x)(hy:aB y):aB (mn x y):=by unfold mn;rw[eW];split<;>assumption
theorem iL{x n:Int}(h:0≤x∧x<n)(hn:n≤1000000):aB x:=fP (by omega) (by omega)
theorem L7(N:Nat)(hN:100≤N){d:aN}(h:Dk 0 d):Ok (fun r=>(G 5 aq r.1∧1≤r.1.1.length)∧Dk 1000 r.2) (pU N d):=by
 unfold pU pU.b
 refine af (gQ N (by decide) h) fun r hr=> ?_
 rw[an (x:=1+r.1) (by omega) (by omega)]
 obtain⟨k,hk⟩: ∃k:Nat,1+r.1=(k:Int):=⟨(1+r.1).toNat,by omega⟩
 rw[hk]
 refine yj (F:=fun n x (s:aN×aF)=>pU.l3 N n s.1 ([],eK) ([],eK) s.2 x) (fun x s=>x+s.2.length=k∧Dk (1+20*s.2.length) s.1∧G 4 (.slice db) s.2) (fun n x s hI hr=> ?_) (fun n s hI=> ?_) k N (r.2,_) (by omega) ⟨rfl,hr.2,G.nil⟩
 all_goals unfold pU.l3 pU.ix
 ·obtain⟨hx,hd,hG⟩:=hI
  have hl:=hG.1
  have tK: ∀(d:aN) (x4:bQ),Dk (1+20*s.2.length+10) d→G 4 db x4→Ok (fun r=>(G 5 aq r.1∧1≤r.1.1.length)∧Dk 1000 r.2) (cond (small (s.2.length+[x4].length)) (pU.l3 N n d ([],eK) ([],eK) (s.2++[x4]) (W .i64 (((x+1:Nat):Int)-1))) none):=fun d x4 hd hx4=>by
   rw[an (x:=((x+1:Nat):Int)-1) (by omega) (by omega),show((x+1:Nat):Int)-1=(x:Int)by omega]
   refine aD (by rw[aud];omega) (hr (_,_) ⟨by rw[aug,aud];omega,Dk.mono hd (by rw[aug,aud];omega),?_⟩)
   refine⟨by rw[aug,aud];omega,fun y hy=> ?_⟩
   rcases aut.1 hy with hy|hy
   ·exact hG.2 y hy
   ·rw[auE.1 hy];exact hx4
  have hj: ∀(d:aN) (x5:bQ),Dk (1+20*s.2.length+6) d→G 4 db x5→Ok (fun r=>(G 5 aq r.1∧1≤r.1.1.length)∧Dk 1000 r.2) (pU.j8 N (pU.l3 N n) d ([],eK) ([],eK) s.2 ((x+1:Nat):Int) x5):=fun d x5 hd hx5=>by
   unfold pU.j8 pU.HH
   refine af (tp N (by decide) hd) fun r hd=>oT (fun _=> ?_) fun _=>tK _ _ (Dk.mono hd (by omega)) hx5
   refine af (nY N hd) fun r ⟨_,hd⟩=>ok_eq (fun _=>by omega) fun _=> ?_
   dsimp only
   exact af (nY N hd) fun r ⟨_,hd⟩=>ok_eq (fun _=>by omega) fun _=>tK _ _ (Dk.mono hd (by omega)) ⟨hx5.1,hx5.2.1,FN (by decide) (by decide),FN (by decide) (by decide),hx5.2.2.2.2⟩
  refine av (fun _=> ?_) fun _=>by omega
  refine af (gQ N (by decide) hd) fun a ⟨ha,hd⟩=>af (gQ N (by decide) hd) fun b ⟨hb,hd⟩=>af (gQ N (by decide) hd) fun c ⟨hc,hd⟩=>af (gQ N (by decide) hd) fun e ⟨he,hd⟩=>af (tp N (by decide) hd) fun r hd=>oT (fun _=>af (nY N hd) fun r ⟨_,hd⟩=>ok_eq (fun _=>by omega) fun _=>hj _ _ (Dk.mono hd (by omega)) ?_) fun _=>hj _ _ (Dk.mono hd (by omega)) ?_
  all_goals exact⟨iL ha (by decide),dP _,iL hc (by decide),iL he (by decide),trivial⟩
 ·obtain⟨hx,hd,hG⟩:=hI
  have hl:=hG.1
  have hd:Dk 900 s.1:=Dk.mono hd (by omega)
  refine av (fun _=>by omega) fun _=>af (gQ N (by decide) hd) fun a ⟨ha,hd⟩=>af (gQ N (by decide) hd) fun b ⟨hb,hd⟩=>af (gQ N (by decide) hd) fun c ⟨hc,hd⟩=>af (gQ N (by decide) hd) fun e ⟨he,hd⟩=>af (gQ N (by decide) hd) fun f ⟨hf,hd⟩=> ?_
  dsimp only
  refine af (gQ N (by decide) hd) fun g ⟨hg,hd⟩=>af (tp N (by decide) hd) fun r hd=>oT (fun _=>af (nY N hd) fun r ⟨hr,hd⟩=>ag ⟨⟨⟨G.mono (by decide) hG,?_⟩,by dsimp only;omega⟩,Dk.mono hd (by decide)⟩) fun _=>ag ⟨⟨⟨G.mono (by decide) hG,?_⟩,by dsimp only;omega⟩,Dk.mono hd (by decide)⟩
  ·exact⟨hr,iL hb (by decide),iL hc (by decide),iL he (by decide),dP _,iL hg (by decide),trivial⟩
  ·exact⟨iL ha (by decide),iL hb (by decide),iL hc (by decide),iL he (by decide),dP _,iL hg (by decide),trivial⟩
abbrev MT(m:Nat)(l:fQ):Prop:=G m (.slice lZ) l
theorem xF{k a b c d e f g:Int}{m:Nat}(h0:aB k)(h1:aB a)(h2:aB b)(h3:aB c)(h4:aB d)(h5:aB e)(h6:aB f)(h7:aB g):G m lZ (k,(a,(b,(c,(d,(e,(f,(g,())))))))):=⟨h0,h1,h2,h3,h4,h5,h6,h7,trivial⟩
theorem aV{x:Int}(h: -1000000≤x∧x≤1000000:=by decide):aB x:=fP h.1 h.2
theorem Ds(N:Nat){k:Nat}{d:aN}(h:Dk k d)(c:ae){i:Int}(hi:0≤i∧i<(c.1.length:Int))(hc:c.1.length≤5)(hk:k≤100000000):Ok (fun r=>G 0 lZ r.1∧Dk (k+5) r.2) (L8 N d c i):=by
 unfold L8
 have hb:aB 1000000000000:=by unfold aB;decide
 have ji:aB i:=fP (by omega) (by omega)
 exact aw hi (af (gQ N (by decide) h) fun a ⟨_,hd⟩=>af (tp N (by decide) hd) fun r hd=>oT (fun _=>af (nY N hd) fun r ⟨_,hd⟩=>ok_eq (fun _=>by omega) fun _=>ag ⟨xF aV aV aV ji aV aV aV (dP _),Dk.mono hd (by omega)⟩) fun _=>ag ⟨xF aV aV aV ji aV aV aV (vR aV (Sq hb (dP _))),Dk.mono hd (by omega)⟩)
theorem FO(N:Nat){k:Nat}{d:aN}(h:Dk k d)(c:ae)(MJ:1≤c.1.length)(hc:c.1.length≤5)(hk:k≤100000000):Ok (fun r=>G 0 lZ r.1∧Dk (k+10) r.2) (O3 N d c):=by
 unfold O3
 have hb:aB 1000000000000:=by unfold aB;decide
 refine af (gQ N ⟨by omega,by omega⟩ h) fun a ⟨ha,hd⟩=>af (gQ N (by decide) hd) fun b ⟨dy,hd⟩=> ?_
 dsimp only
 refine af (gQ N (by decide) hd) fun e ⟨he,hd⟩=>af (gQ N (by decide) hd) fun f ⟨hf,hd⟩=>aw ha (af (gQ N (by decide) hd) fun g ⟨_,hd⟩=>af (tp N (by decide) hd) fun r hd=>oT (fun _=>af (nY N hd) fun r ⟨_,hd⟩=>ok_eq (fun _=>by omega) fun _=>af (nY N hd) fun r' ⟨_,hd⟩=>ok_eq (fun _=>by omega) fun _=>ag ⟨xF aV aV (dP _) (iL ha (by omega)) (dP _) aV (dP _) (dP _),Dk.mono hd (by omega)⟩) fun _=>ag ⟨xF aV aV (dP _) (iL ha (by omega)) (dP _) aV (dP _) (vR aV (Sq hb (dP _))),Dk.mono hd (by omega)⟩)
end VM
end
section
namespace VM
open Go VM.F
structure Cf(c:ae):Prop where
 g:G 5 aq c
 n:1≤c.1.length
theorem FP(N:Nat){k:Nat}{d:aN}(h:Dk k d){c:ae}(hc:Cf c)(hk:k≤10000000):Ok (fun r=>G 0 lZ r.1∧Dk (k+20) r.2) (O4 N d c):=by
 have hn:=hc.n
 have hl:=hc.g.1.1
 unfold O4
 refine af (gQ N (by decide) h) fun a ⟨ha,hd⟩=> ?_
 dsimp only
 refine af (gQ N (by decide) hd) fun b ⟨hb,hd⟩=>af (gQ N ⟨by omega,by omega⟩ hd) fun i ⟨hi,hd⟩=>af (gQ N (by decide) hd) fun e ⟨he,hd⟩=> ?_
 have hz: ∀(e:fy) (j:Nat) (d:aN),G 0 lZ e→Dk j d→j≤k+20→Ok (fun r=>G 0 lZ r.1∧Dk (k+20) r.2) (some (e,d)):=fun e j d he hd hj=>ag ⟨he,Dk.mono hd hj⟩
 have hs: ∀{f:Int×aN→Option (fy×aN)},(∀x d,aB x→Dk (k+5) d→Ok (fun r=>G 0 lZ r.1∧Dk (k+20) r.2) (f (x,d)))→Ok (fun r=>G 0 lZ r.1∧Dk (k+20) r.2) ((HI N e.2).bind f):=fun hf=>af (nY N hd) fun r ⟨h1,h2⟩=>hf r.1 r.2 h1 (Dk.mono h2 (by omega))
 have hm: ∀{n:Int} {f:Int×aN→Option (fy×aN)},0<n∧n<1000000→(∀x d,Dk (k+5) d→Ok (fun r=>G 0 lZ r.1∧Dk (k+20) r.2) (f (x,d)))→Ok (fun r=>G 0 lZ r.1∧Dk (k+20) r.2) ((oh N e.2 n).bind f):=fun hn hf=>af (gQ N hn hd) fun r ⟨h1,h2⟩=>hf r.1 r.2 (Dk.mono h2 (by omega))
 repeat' first
  |refine ok_eq (fun _=> ?_) (fun _=> ?_)
  |(exfalso;omega)
  |(refine hs fun x d' hx Ro=> ?_;dsimp only)
  |(refine hm (by decide) fun x d' Ro=> ?_;dsimp only)
  |(refine hz _ _ _ ?_ hd (by omega);refine⟨?_,?_,?_,?_,?_,?_,?_,?_,trivial⟩<;>first|exact dP _|exact aU|exact vR hx aV|exact FN (by decide) (by decide)|exact(G.at hc.g.1 _).2.1)
  |(refine hz _ _ _ ?_ Ro (by omega);refine⟨?_,?_,?_,?_,?_,?_,?_,?_,trivial⟩<;>first|exact dP _|exact aU|exact vR hx aV|exact FN (by decide) (by decide)|exact(G.at hc.g.1 _).2.1)
  |(refine hz _ _ _ ?_ h2 (by omega);refine⟨?_,?_,?_,?_,?_,?_,?_,?_,trivial⟩<;>first|exact dP _|exact aU|exact vR hx aV|exact FN (by decide) (by decide)|exact(G.at hc.g.1 _).2.1)
  |exact af (Ds N hd c hi hl (by omega)) fun r ⟨h1,h2⟩=>hz _ _ _ h1 h2 (by omega)
  |exact af (FO N hd c hn hl (by omega)) fun r ⟨h1,h2⟩=>hz _ _ _ h1 h2 (by omega)
  |refine aw hi ?_
  |(refine af (gQ N (by decide) Ro) fun r ⟨h1,h2⟩=> ?_)
end VM
end
section
namespace VM
open Go VM.F
theorem G.cat{m n:Nat}{e:Ty}{l k:List e.den}(h:G m (.slice e) l)(h':G n (.slice e) k):G (m+n) (.slice e) (l++k):=
 ⟨by have:=h.1;have:=h'.1;rw[aug];omega,fun y hy=>by
  rcases aut.1 hy with hy|hy
  ·exact G.mono (by omega) (h.2 y hy)
  ·exact G.mono (by omega) (h'.2 y hy)⟩
theorem G.two{m:Nat}{e:Ty}{a b:e.den}(ha:G 0 e a)(hb:G 0 e b)(hm:2≤m):G m (.slice e) [a,b]:=
 ⟨hm,fun y hy=>by
  rcases auy.1 hy with rfl|hy
  ·exact G.mono (by omega) ha
  ·rw[auE.1 hy];exact G.mono (by omega) hb⟩
theorem G.one{m:Nat}{e:Ty}{a:e.den}(ha:G 0 e a)(hm:1≤m):G m (.slice e) [a]:=
 ⟨hm,fun y hy=>by rw[auE.1 hy];exact G.mono (by omega) ha⟩
theorem sb{α:Type}(a b:α):[a,b].length=2:=rfl
theorem IU(N:Nat)(hN:100≤N){k:Nat}{d:aN}(h:Dk k d)(c:ae)(hk:k≤10000000):Ok (fun r=>MT 40 r.1∧Dk (k+50) r.2) (dD N d c):=by
 have s64: ∀i:Nat,i<100→aB (i:Int):=fun i hi=>fP (by omega) (by omega)
 unfold dD dD.b
 refine fW (len:=5) (F:=fun n i (s:aN×fQ)=>dD.l3 N n s.1 s.2 i) (fun i s=>Dk (k+2*i) s.1∧MT (3*i) s.2) (fun n i s hi hI hr=> ?_) (fun n s hI=> ?_) 5 N 1 (d,[]) (by omega) (by omega) (by omega) ⟨Dk.mono h (by omega),G.nil⟩
 all_goals unfold dD.l3 dD.ix
 ·have hl:=hI.2.1
  have ji:=s64 i (by omega)
  dsimp only
  rw[an (x:=(i:Int)+1) (by omega) (by omega),aa i]
  have h2:MT (3*i+2) (s.2++[((1:Int),((i:Int),eK)),((2:Int),((i:Int),((i:Int),((0:Int),((1:Int),aW)))))]):=G.cat hI.2 (G.two (xF aV ji aU aU aU aU aU aU) (xF aV ji ji aU aV aU aU aU) (by omega))
  have hl2:=h2.1
  exact cW (fun _=>aD (by rw[sb];omega) (af (tp N (by decide) hI.1 (by unfold pT;omega)) fun r hd=>bx (fun _=>af (gQ N (by decide) hd (by unfold pT;omega)) fun r ⟨_,hd⟩=>aD (by rw[aud];omega) (hr (_,_) ⟨Dk.mono hd (by omega),G.mono (by omega) (G.cat h2 (G.one (m:=1) (xF aV ji aU aU aU aU (dP _) aU) (by omega)))⟩)) fun _=>hr (_,_) ⟨Dk.mono hd (by omega),G.mono (by omega) h2⟩)) fun _=>by omega
 ·refine cW (fun _=>by omega) fun _=> ?_
  refine fW (len:=8) (F:=fun n i (s:aN×fQ)=>dD.l9 N n s.1 s.2 i) (fun i s=>Dk (k+10+i) s.1∧MT (15+i) s.2) (fun n i s hi hI hr=> ?_) (fun n s hI=> ?_) 8 N 5 s (by omega) (by omega) (by omega) ⟨Dk.mono hI.1 (by omega),G.mono (by omega) hI.2⟩
  all_goals unfold dD.l9 dD.vb
  ·have hl:=hI.2.1
   dsimp only
   rw[an (x:=(i:Int)+1) (by omega) (by omega),aa i]
   exact cW (fun _=>af (gQ N (by decide) hI.1 (by unfold pT;omega)) fun r ⟨_,hd⟩=>aD (by rw[aud];omega) (hr (_,_) ⟨Dk.mono hd (by omega),G.mono (by omega) (G.cat hI.2 (G.one (m:=1) (xF aV (dP _) (s64 i (by omega)) aU aV aU aU aU) (by omega)))⟩)) fun _=>by omega
  ·refine cW (fun _=>by omega) fun _=> ?_
   refine fW (len:=8) (F:=fun n i (s:aN×fQ)=>dD.jB N n s.1 s.2 i) (fun i s=>Dk (k+18+2*i) s.1∧MT (23+2*i) s.2) (fun n i s hi hI hr=> ?_) (fun n s hI=> ?_) 8 N 1 s (by omega) (by omega) (by omega) ⟨Dk.mono hI.1 (by omega),G.mono (by omega) hI.2⟩
   all_goals unfold dD.jB dD.il
   ·have hl:=hI.2.1
    have ji:=s64 i (by omega)
    dsimp only
    rw[an (x:=(i:Int)+1) (by omega) (by omega),aa i]
    exact cW (fun _=>af (gQ N (by decide) hI.1 (by unfold pT;omega)) fun r ⟨_,hd⟩=>af (gQ N (by decide) hd (by unfold pT;omega)) fun r ⟨_,hd⟩=>aD (by rw[sb];omega) (hr (_,_) ⟨Dk.mono hd (by omega),G.mono (by omega) (G.cat hI.2 (G.two (m:=2) (xF aV aU ji aU aU aU (dP _) aU) (xF aV aU ji aU aU aU (dP _) aU) (by omega)))⟩)) fun _=>by omega
   ·exact cW (fun _=>by omega) fun _=>ag ⟨G.mono (by omega) hI.2,Dk.mono hI.1 (by omega)⟩
theorem O5{x:Nat}(h:x<1000000):W .i64 (((x+1:Nat):Int)-1)=(x:Int):=by rw[an (by omega) (by omega)];omega
theorem L9(N:Nat)(hN:1000≤N){k:Nat}{d:aN}(h:Dk k d){c:ae}(hc:Cf c){FQ:Int}(hm:0≤FQ∧FQ≤100)(hk:k≤10000):Ok (fun r=>MT 200 r.1∧Dk (k+3000) r.2) (yl N d c FQ):=by
 have hn:=hc.n
 have hl:=hc.g.1.1
 unfold yl yl.b
 rw[an (x:=FQ+1) (by omega) (by omega)]
 refine af (IU N (by omega) h c (by omega)) fun r ⟨CS,hd⟩=>af (gQ N ⟨by omega,by omega⟩ hd (by unfold pT;omega)) fun z ⟨hz,hd⟩=> ?_
 obtain⟨j,hj⟩: ∃j:Nat,z.1=(j:Int):=⟨z.1.toNat,by omega⟩
 rw[hj]
 refine yj (F:=fun n x (s:aN×fQ)=>yl.l3 N n s.1 c s.2 x) (fun x s=>x≤100∧Dk (k+100+25*(100-x)) s.1∧MT (40+(100-x)) s.2) (fun n x s hI hr=> ?_) (fun n s hI=> ?_) j N (z.2,r.1) (by omega) ⟨by omega,Dk.mono hd (by omega),G.mono (by omega) CS⟩
 all_goals unfold yl.l3 yl.ix
 ·obtain⟨hx,hd,hG⟩:=hI
  have hs:=hG.1
  rw[O5 (by omega)]
  have put: ∀(e:fy) (d:aN) (q:Nat),G 0 lZ e→Dk q d→q≤k+100+25*(100-(x+1))+25→Ok (fun r=>MT 200 r.1∧Dk (k+3000) r.2) (cond (small (s.2.length+[e].length)) (yl.l3 N n d c (s.2++[e]) (x:Int)) none):=fun e d q he hd hq=>aD (by rw[aud];omega) (hr (_,_) ⟨by omega,Dk.mono hd (by omega),G.mono (by omega) (G.cat hG (G.one (m:=1) he (by omega)))⟩)
  exact av (fun _=>af (gQ N (by decide) hd (by unfold pT;omega)) fun a ⟨_,hd⟩=>ok_eq (fun _=>af (FP N hd hc (by omega)) fun r ⟨h1,h2⟩=>put _ _ _ h1 h2 (by omega)) fun _=>ok_eq (fun _=>af (gQ N ⟨by omega,by omega⟩ hd (by unfold pT;omega)) fun b ⟨hb,hd⟩=>af (Ds N hd c hb hl (by omega)) fun r ⟨h1,h2⟩=>put _ _ _ h1 h2 (by omega)) fun _=>af (FO N hd c hn hl (by omega)) fun r ⟨h1,h2⟩=>put _ _ _ h1 h2 (by omega)) fun _=>by omega
 ·exact av (fun _=>by omega) fun _=>ag ⟨G.mono (by omega) hI.2.2,Dk.mono hI.2.1 (by omega)⟩
theorem FR(N:Nat)(hN:1000≤N){k:Nat}{d:aN}(h:Dk k d){c:ae}(hc:Cf c)(hk:k≤100000):Ok (fun r=>MT 3 r.1∧Dk (k+100) r.2) (xG N d c):=by
 have hn:=hc.n
 have hl:=hc.g.1.1
 unfold xG xG.b
 refine af (gQ N (by decide) h (by unfold pT;omega)) fun z ⟨hz,hd⟩=> ?_
 obtain⟨j,hj⟩: ∃j:Nat,z.1=(j:Int):=⟨z.1.toNat,by omega⟩
 rw[hj]
 refine yj (F:=fun n x (s:aN×fQ)=>xG.l3 N n s.1 c s.2 x) (fun x s=>x≤3∧Dk (k+1+25*(3-x)) s.1∧MT (3-x) s.2) (fun n x s hI hr=> ?_) (fun n s hI=> ?_) j N (z.2,[]) (by omega) ⟨by omega,Dk.mono hd (by omega),G.nil⟩
 all_goals unfold xG.l3 xG.ix
 ·obtain⟨hx,hd,hG⟩:=hI
  have hs:=hG.1
  rw[O5 (by omega)]
  have put: ∀(e:fy) (d:aN) (q:Nat),G 0 lZ e→Dk q d→q≤k+1+25*(3-(x+1))+25→Ok (fun r=>MT 3 r.1∧Dk (k+100) r.2) (cond (small (s.2.length+[e].length)) (xG.l3 N n d c (s.2++[e]) (x:Int)) none):=fun e d q he hd hq=>aD (by rw[aud];omega) (hr (_,_) ⟨by omega,Dk.mono hd (by omega),G.mono (by omega) (G.cat hG (G.one (m:=1) he (by omega)))⟩)
  exact av (fun _=>af (tp N (by decide) hd (by unfold pT;omega)) fun a hd=>oT (fun _=>af (gQ N ⟨by omega,by omega⟩ hd (by unfold pT;omega)) fun b ⟨hb,hd⟩=>af (Ds N hd c hb hl (by omega)) fun r ⟨h1,h2⟩=>put _ _ _ h1 h2 (by omega)) fun _=>af (FP N hd hc (by omega)) fun r ⟨h1,h2⟩=>put _ _ _ h1 h2 (by omega)) fun _=>by omega
 ·exact av (fun _=>by omega) fun _=>ag ⟨G.mono (by omega) hI.2.2,Dk.mono hI.2.1 (by omega)⟩
end VM
end
section
namespace VM
open Go VM.F
theorem dm{α:Type}{r:α}:Ok (fun _=>True) (some r):=ag trivial
theorem Ma(N:Nat)(k:Int):Ok (fun s=>ByteArray.size s≤100) (Sr N k):=by
 unfold Sr
 repeat' first|refine ok_eq (fun _=> ?_) (fun _=> ?_)|exact ag (by decide)
theorem Mb(N:Nat)(k f:Int):Ok (fun _=>True) (Ss N k f):=by
 unfold Ss ZP ZQ
 repeat' first|refine ok_eq (fun _=> ?_) (fun _=> ?_)|exact dm|refine af (Q:=fun _=>True) ?_ fun _ _=>dm
theorem O6(N:Nat)(e:fy)(f:Int):Ok (fun _=>True) (Su N e f):=by
 unfold Su
 repeat' first|refine ok_eq (fun _=> ?_) (fun _=> ?_)|exact dm
theorem O7(N:Nat)(e:fy)(f x:Int):Ok (fun _=>True) (Sv N e f x):=by
 unfold Sv
 repeat' first|refine ok_eq (fun _=> ?_) (fun _=> ?_)|exact dm
theorem Mc(N:Nat)(hN:1000≤N)(e:fy):Ok (fun _=>True) (mS N e):=by
 unfold mS mS.b ZR
 refine af (Q:=fun _=>True) (cW (fun _=>dm) fun _=>dm) fun _ _=>bx (fun _=>dm) fun _=>af (Ma N _) fun s hs=> ?_
 refine bh (len:=ByteArray.size s) (F:=fun n i (x:fy)=>mS.l6 N n e s x i) (fun _ _=>True) trivial (by omega) (fun n i x hi _ hr=> ?_) (fun n x _=> ?_)
 all_goals unfold mS.l6 mS.ov
 ·rw[an (x:=(i:Int)+1) (by omega) (by omega),aa i]
  exact av (fun _=>aw ⟨by omega,by omega⟩ (af (Mb N _ _) fun _ _=>aw ⟨by omega,by omega⟩ (af (O6 N _ _) fun _ _=>av (fun _=>dm) fun _=>av (fun _=>dm) fun _=>aw ⟨by omega,by omega⟩ (af (O7 N _ _ _) fun y _=>hr y trivial)))) fun _=>by omega
 ·exact av (fun _=>by omega) fun _=>dm
theorem G.ins{m:Nat}{e:Ty}{l:List e.den}{x:e.den}(h:G m (.slice e) l)(hx:G m e x)(a b c:Nat)(ha:c≤a):G (m+1) (.slice e) ((([]++List.drop b (List.take c l))++[x])++List.drop a (List.take l.length l)):=by
 have:=h.1
 refine⟨?_,fun y hy=> ?_⟩
 ·simp only[auK,aug,auP,auu,aud];omega
 ·rw[auK,aur]at hy
  rcases aut.1 hy with hy|hy
  ·exact G.mono (by omega) (h.2 y (avh (awB hy)))
  ·rcases aut.1 hy with hy|hy
   ·rw[auE.1 hy];exact G.mono (by omega) hx
   ·exact G.mono (by omega) (h.2 y (avh (awB hy)))
theorem O8{α:Type}{P:List α×Int→Prop}{l:List α}{x:α}{k:Nat}{e:Int}(hk:k≤l.length)(hl:l.length≤1000000)(h:P ((([]++List.drop (0:Int).toNat (List.take (k:Int).toNat l))++[x])++List.drop (k:Int).toNat (List.take (l.length:Int).toNat l),e)):
  Ok P (cond (fD 0 (k:Int) (l.length:Int) (l.length:Int)) (let v6:List α:=List.drop (0:Int).toNat (List.take (k:Int).toNat l);cond (small (([]:List α).length+v6.length)) (let v7:List α:=[]++v6;cond (small (v7.length+[x].length)) (let v8:List α:=v7++[x];cond (fD (k:Int) (l.length:Int) (l.length:Int) (l.length:Int)) (let v9:List α:=List.drop (k:Int).toNat (List.take (l.length:Int).toNat l);cond (small (v8.length+v9.length)) (some ((v8++v9),e)) none) none) none) none) none):=by
 dsimp only
 have t: ∀a b:Nat,(List.drop a (List.take b l)).length≤l.length:=fun a b=>by rw[auP,auu];omega
 have t1:=t (0:Int).toNat (k:Int).toNat
 have t2:=t (k:Int).toNat (l.length:Int).toNat
 refine Dq ⟨by omega,by omega,by omega,by omega⟩ (aD (by rw[auA];omega) (aD ?_ (Dq ⟨by omega,by omega,by omega,by omega⟩ (aD ?_ (ag h)))))
 ·rw[auK,aud];omega
 ·rw[auK,aug,aud];omega
theorem O9(N:Nat)(hN:200000≤N){a:ax}{m:Nat}(hm:m≤50000)(h:G m (.slice gP) a){id:Int}(aS:aB id):Ok (fun r=>G (m+1) (.slice gP) r.1) (gR N a id):=by
 have hl:=h.1
 unfold gR gR.b
 refine bJ (nP N (by omega) hN) (bx (fun _=>ag G.nil) fun _=>av (fun _=>ag G.nil) fun _=>av (fun _=>ag G.nil) fun _=>bJ (ki N (by omega) hN id) (bA (fun _=>ag G.nil) fun _=> ?_))
 have fin: ∀k:Nat,k≤a.length→Ok (fun r=>G (m+1) (.slice gP) r.1) (gR.j9 N a id [] (k:Int)):=fun k hk=>by
  unfold gR.j9 gR.Ik
  have hx:G m gP (id,((1:Int),())):=⟨aS,(show aB 1 from aV),trivial⟩
  exact O8 hk (by omega) (by simpa using G.ins h hx k 0 k (aul _))
 refine jL (len:=a.length) (F:=fun n i=>gR.l7 N n a id [] i) (by omega) (fun n i hi hr=> ?_) (fun n=> ?_)
 all_goals unfold gR.l7 gR.n9
 ·rw[an (x:=(i:Int)+1) (by omega) (by omega),aa i]
  exact av (fun _=>aw ⟨by omega,by omega⟩ (av (fun _=>hr) fun _=>fin i (by omega))) fun _=>by omega
 ·exact av (fun _=>by omega) fun _=>fin _ (aul _)
end VM
end
section
namespace VM
open Go VM.F
theorem G4q{m:Nat}{x:bQ}{q:Int}(h:G m db x)(hq:aB q):G m db (x.1,(x.2.1,(x.2.2.1,(q,x.2.2.2.2)))):=⟨h.1,h.2.1,h.2.2.1,hq,trivial⟩
theorem G4b{m:Nat}{x:bQ}{q:Int}(h:G m db x)(hq:aB q):G m db (x.1,(q,x.2.2)):=⟨h.1,hq,h.2.2⟩
theorem G2b{m:Nat}{x:Oh}{q:Int}(h:G m gP x)(hq:aB q):G m gP (x.1,(q,x.2.2)):=⟨h.1,hq,trivial⟩
theorem Dt(N:Nat)(hN:200000≤N){l:aF}(hl:l.length≤100000):Ok (fun _=>True) (iz N l):=kR (uv N hl hN) trivial
theorem Sw(N:Nat)(hN:200000≤N){a:ax}{l:aF}{x:bQ}{m:Nat}(hm:m≤50000)(ha:G m (.slice gP) a)(h:G m (.slice db) l)(hx:G 0 db x):Ok (fun r=>G (m+1) (.slice db) r.1) (ew N a l x):=by
 have h1:=ha.1
 have hl:=h.1
 have fin: ∀k:Nat,k≤l.length→Ok (fun r=>G (m+1) (.slice db) r.1) (ew.Bc N l x [] (k:Int)):=fun k hk=>by
  unfold ew.Bc ew.tk
  exact O8 hk (by omega) (by simpa using G.ins h (G.mono (au3 m) hx) k 0 k (aul _))
 have hj:Ok (fun r=>G (m+1) (.slice db) r.1) (ew.HJ N l x):=by
  unfold ew.HJ ew.zU
  refine jL (len:=l.length) (F:=fun n i=>ew.jB N n l x [] i) (by omega) (fun n i hi hr=> ?_) (fun n=> ?_)
  all_goals unfold ew.jB ew.il
  ·rw[an (x:=(i:Int)+1) (by omega) (by omega),aa i]
   exact av (fun _=>aw ⟨by omega,by omega⟩ (av (fun _=>hr) fun _=>fin i (by omega))) fun _=>by omega
  ·exact av (fun _=>by omega) fun _=>fin _ (aul _)
 unfold ew ew.b
 exact bJ (zl N (by omega) (by omega) hN) (bx (fun _=>ag G.nil) fun _=>af (Dt N hN (by rw[aud];omega)) fun _ _=>bx (fun _=>ag G.nil) fun _=>bJ (ki N (by omega) hN _) (ok_eq (fun _=>ag G.nil) fun _=>bA (fun _=>ag G.nil) fun _=>bJ (ur N (by omega) hN _) (oT (fun _=>ag G.nil) fun _=>ok_eq (fun _=>bJ (vE N (by omega) hN _) (bA (fun _=>ag G.nil) fun _=>hj)) fun _=>hj)))
theorem Pb(N:Nat)(hN:200000≤N){l:aF}{m:Nat}(hm:m≤50000)(h:G m (.slice db) l){id q:Int}(hq:aB q):Ok (fun r=>G m (.slice db) r.1) (mT N l id q):=by
 have hl:=h.1
 unfold mT mT.b
 refine af (Dt N hN (by omega)) fun _ _=>bx (fun _=>ag G.nil) fun _=>av (fun _=>ag G.nil) fun _=>av (fun _=>ag G.nil) fun _=>bJ (ur N (by omega) hN _) (bx (fun _=>ag G.nil) fun _=>aD (by rw[auA];omega) ?_)
 rw[auK]
 refine bh (len:=l.length) (F:=fun n i s=>mT.l8 N n id q s i) (fun _ s=>s.length=l.length∧G m (.slice db) s) ⟨rfl,h⟩ (by omega) (fun n i s hi hI hr=> ?_) (fun n s hI=> ?_)
 all_goals unfold mT.l8 mT.yb
 ·rw[an (x:=(i:Int)+1) (by omega) (by omega),aa i]
  have hs:=hI.1
  have hx:=G.at hI.2 (i:Int).toNat
  exact av (fun _=>aw ⟨by omega,by omega⟩ (ok_eq (fun _=>aw ⟨by omega,by omega⟩ (hr _ ⟨by rw[aup];exact hs,G.set hI.2 (G4q hx hq) _⟩)) fun _=>hr s hI)) fun _=>by omega
 ·have hs:=hI.1
  exact av (fun _=>by omega) fun _=>ag hI.2
theorem Pd(N:Nat)(a b:Int):Ok (fun r=>aB r.1) (Sx N a b):=by
 have h: ∀(x:Int) (t:Bool),0≤x∧x<5→Ok (fun r:Int×Bool=>aB r.1) (some (x,t)):=fun x t hx=>ag (iL hx (by decide))
 unfold Sx
 repeat' first|refine ok_eq (fun _=> ?_) (fun _=> ?_)|exact h _ _ (by decide)
theorem Kx(N:Nat)(hN:200000≤N){l:ax}{m:Nat}(hm:m≤50000)(h:G m (.slice gP) l)(id k:Int):Ok (fun r=>G m (.slice gP) r.1) (kT N l id k):=by
 have hl:=h.1
 unfold kT kT.b
 refine bJ (nP N (by omega) hN) (bx (fun _=>ag G.nil) fun _=>bJ (ki N (by omega) hN _) (ok_eq (fun _=>ag G.nil) fun _=>af (Pd N _ _) fun z hz=>bx (fun _=>ag G.nil) fun _=>aD (by rw[auA];omega) ?_))
 rw[auK]
 refine bh (len:=l.length) (F:=fun n i s=>kT.ve N n id z.1 s i) (fun _ s=>s.length=l.length∧G m (.slice gP) s) ⟨rfl,h⟩ (by omega) (fun n i s hi hI hr=> ?_) (fun n s hI=> ?_)
 all_goals unfold kT.ve kT.sy
 ·rw[an (x:=(i:Int)+1) (by omega) (by omega),aa i]
  have hs:=hI.1
  have hx:=G.at hI.2 (i:Int).toNat
  exact av (fun _=>aw ⟨by omega,by omega⟩ (ok_eq (fun _=>aw ⟨by omega,by omega⟩ (hr _ ⟨by rw[aup];exact hs,G.set hI.2 (G2b hx hz) _⟩)) fun _=>hr s hI)) fun _=>by omega
 ·have hs:=hI.1
  exact av (fun _=>by omega) fun _=>ag hI.2
theorem IV(N:Nat)(hN:200000≤N){a:ax}{l:aF}{m:Nat}(hm:m≤50000)(ha:G m (.slice gP) a)(h:G m (.slice db) l){id to:Int}(hto:aB to):Ok (fun r=>G m (.slice db) r.1) (mU N a l id to):=by
 have h1:=ha.1
 have hl:=h.1
 unfold mU mU.b
 refine bJ (zl N (by omega) (by omega) hN) (bx (fun _=>ag G.nil) fun _=>bJ (ur N (by omega) hN _) (bJ (ki N (by omega) hN _) (bx (fun _=>ag G.nil) fun _=>ok_eq (fun _=>ag G.nil) fun _=>bA (fun _=>ag G.nil) fun _=>bA (fun _=>ag G.nil) fun _=>aD (by rw[auA];omega) ?_)))
 rw[auK]
 refine bh (len:=l.length) (F:=fun n i s=>mU.jB N n id to s i) (fun _ s=>s.length=l.length∧G m (.slice db) s) ⟨rfl,h⟩ (by omega) (fun n i s hi hI hr=> ?_) (fun n s hI=> ?_)
 all_goals unfold mU.jB mU.il
 ·rw[an (x:=(i:Int)+1) (by omega) (by omega),aa i]
  have hs:=hI.1
  have hx:=G.at hI.2 (i:Int).toNat
  exact av (fun _=>aw ⟨by omega,by omega⟩ (ok_eq (fun _=>aw ⟨by omega,by omega⟩ (hr _ ⟨by rw[aup];exact hs,G.set hI.2 (G4b hx hto) _⟩)) fun _=>hr s hI)) fun _=>by omega
 ·have hs:=hI.1
  exact av (fun _=>by omega) fun _=>ag hI.2
theorem Pe(N:Nat)(hN:200000≤N){l:aF}{m:Nat}(hm:m≤50000)(h:G m (.slice db) l)(id:Int):Ok (fun r=>r.length≤m) (mV N l id):=by
 have hl:=h.1
 unfold mV mV.b
 refine af (Dt N hN (by omega)) fun _ _=>bx (fun _=>ag (au3 _)) fun _=>bh (len:=l.length) (F:=fun n i s=>mV.l5 N n l id s i) (fun i s=>s.length≤i) (au3 _) (by omega) (fun n i s hi hI hr=> ?_) (fun n s hI=> ?_)
 all_goals unfold mV.l5 mV.du
 ·rw[an (x:=(i:Int)+1) (by omega) (by omega),aa i]
  exact av (fun _=>aw ⟨by omega,by omega⟩ (ok_eq (fun _=>aw ⟨by omega,by omega⟩ (aD (by rw[aud];omega) (hr _ (by rw[aug,aud];omega)))) fun _=>hr s (by omega))) fun _=>by omega
 ·exact av (fun _=>by omega) fun _=>ag (by omega)
abbrev L6(m:Nat)(l:ba):Prop:=G m (.slice jU) l
theorem Pf(N:Nat)(hN:200000≤N){l:ba}{a:List Int}{m:Nat}(hm:m≤50000)(h:L6 m l)(ha:a.length≤m):Ok (fun r=>L6 m r) (eU N l a):=by
 have hl:=h.1
 unfold eU eU.b
 refine bJ (kg N (by omega) hN) (bx (fun _=>ag G.nil) fun _=>bh (len:=l.length) (F:=fun n i s=>eU.l5 N n l a s i) (fun i s=>L6 i s) G.nil (by omega) (fun n i s hi hI hr=> ?_) (fun n s hI=> ?_))
 all_goals unfold eU.l5 eU.du
 ·have hs:=hI.1
  refine av (fun _=> ?_) fun _=>by omega
  refine bh (len:=a.length) (F:=fun n' j b=>eU.l9 N (eU.l5 N n) n' l a s (i:Int) b j) (fun _ _=>True) trivial (by omega) (fun n' j b hj _ dT=> ?_) (fun n' b _=> ?_)
  all_goals unfold eU.l9 eU.vb
  ·rw[an (x:=(j:Int)+1) (by omega) (by omega),aa j]
   exact av (fun _=>oT (fun _=>dT _ trivial) fun _=>aw ⟨by omega,by omega⟩ (aw ⟨by omega,by omega⟩ (dT _ trivial))) fun _=>by omega
  ·rw[an (x:=(i:Int)+1) (by omega) (by omega),aa i]
   have hx:G 0 jU (l.getD (i:Int).toNat eK):=G.at h _
   exact av (fun _=>by omega) fun _=>bx (fun _=>aw ⟨by omega,by omega⟩ (aD (by rw[aud];omega) (hr _ (G.cat hI (G.one hx (aul 1)))))) fun _=>hr s (G.mono (by omega) hI)
 ·exact av (fun _=>by omega) fun _=>ag (G.mono hl hI)
theorem FT(N:Nat)(hN:5000000≤N)(c:ae){b:ah}{m:Nat}(hm:m≤50000)(hb:G m aA b)(id:Int):Ok (fun r=>G m aA r.1) (Md N c b id):=by
 unfold Md
 exact bJ (dJ N hN hm hb) (bx (fun _=>ag G.fc) fun _=>af (lY N (by omega) hm hb.1 _) fun _ _=>ok_eq (fun _=>ag G.fc) fun _=>af (Pe N (by omega) hm hb.2.1 _) fun a ha=>af (Pf N (by omega) hm hb.2.2.2.2.2.1 ha) fun r hr=>ag ⟨hb.1,hb.2.1,hb.2.2.1,hb.2.2.2.1,hb.2.2.2.2.1,hr,trivial⟩)
theorem FU(N:Nat)(hN:200000≤N){l:aF}{m:Nat}(hm:m≤50000)(h:G m (.slice db) l)(id:Int):Ok (fun r=>G m (.slice db) r) (ll N l id):=by
 have hl:=h.1
 unfold ll ll.b
 refine bJ (rf N (by omega) hN) (bx (fun _=>ag G.nil) fun _=>bh (len:=l.length) (F:=fun n i s=>ll.l5 N n l id s i) (fun i s=>G i (.slice db) s) G.nil (by omega) (fun n i s hi hI hr=> ?_) (fun n s hI=> ?_))
 all_goals unfold ll.l5 ll.du
 ·have hs:=hI.1
  have hx:G 0 db (l.getD (i:Int).toNat aO):=G.at h _
  rw[an (x:=(i:Int)+1) (by omega) (by omega),aa i]
  exact av (fun _=>aw ⟨by omega,by omega⟩ (bA (fun _=>aw ⟨by omega,by omega⟩ (aD (by rw[aud];omega) (hr _ (G.cat hI (G.one hx (aul 1)))))) fun _=>hr s (G.mono (by omega) hI))) fun _=>by omega
 ·exact av (fun _=>by omega) fun _=>ag (G.mono hl hI)
theorem Me(N:Nat)(hN:200000≤N){l:ba}{m:Nat}(hm:m≤50000)(h:L6 m l)(a id:Int):Ok (fun r=>L6 m r.1) (mW N l a id):=by
 have hl:=h.1
 unfold mW mW.b
 refine bJ (kg N (by omega) hN) (bx (fun _=>ag G.nil) fun _=>bh (len:=l.length) (F:=fun n i s=>mW.l5 N n l a id s i) (fun i s=>L6 i s) G.nil (by omega) (fun n i s hi hI hr=> ?_) (fun n s hI=> ?_))
 all_goals unfold mW.l5 mW.du
 ·have hs:=hI.1
  have hx:G 0 jU (l.getD (i:Int).toNat eK):=G.at h _
  rw[an (x:=(i:Int)+1) (by omega) (by omega),aa i]
  have h1:=hr s (G.mono (by omega) hI)
  have h2:=hr _ (G.cat hI (G.one hx (aul 1)))
  repeat' first|exact h1|exact h2|refine aD (by rw[aud];omega) ?_|refine aw ⟨by omega,by omega⟩ ?_|refine av (fun _=> ?_) (fun _=> ?_)|refine bA (fun _=> ?_) (fun _=> ?_)|(exfalso;omega)
 ·exact av (fun _=>by omega) fun _=>ok_eq (fun _=>ag G.nil) fun _=>ag (G.mono hl hI)
end VM
end
section
namespace VM
open Go VM.F
theorem G6q{m:Nat}{x:fZ}{q:Int}(h:G m jU x)(hq:aB q):G m jU (x.1,(x.2.1,(x.2.2.1,(x.2.2.2.1,(q,x.2.2.2.2.2))))):=⟨h.1,h.2.1,h.2.2.1,h.2.2.2.1,hq,h.2.2.2.2.2⟩
theorem Sy(N:Nat)(hN:200000≤N){l:ba}{m:Nat}(hm:m≤50000)(h:L6 m l)(a d:Int):Ok (fun r=>L6 m r) (dd N l a d):=by
 have hl:=h.1
 unfold dd dd.b
 refine bJ (kg N (by omega) hN) (bx (fun _=>ag G.nil) fun _=>bh (len:=l.length) (F:=fun n i s=>dd.l5 N n l a d s i) (fun i s=>L6 i s) G.nil (by omega) (fun n i s hi hI hr=> ?_) (fun n s hI=> ?_))
 all_goals unfold dd.l5 dd.du
 ·have hs:=hI.1
  have hx:G 0 jU (l.getD (i:Int).toNat eK):=G.at h _
  have fin: ∀k:Nat,k≤s.length→Ok (fun r=>L6 m r) (dd.HJ N (dd.l5 N n) l a d s (i:Int) (k:Int)):=fun k hk=>by
   unfold dd.HJ dd.zU
   rw[an (x:=(i:Int)+1) (by omega) (by omega),aa i]
   dsimp only
   have t: ∀a b:Nat,(List.drop a (List.take b s)).length≤s.length:=fun a b=>by rw[auP,auu];omega
   have t1:=t (0:Int).toNat (k:Int).toNat
   have t2:=t (k:Int).toNat (s.length:Int).toNat
   refine Dq ⟨by omega,by omega,by omega,by omega⟩ (aD (by omega) (aw ⟨by omega,by omega⟩ (aD (by rw[aud];omega) (Dq ⟨by omega,by omega,by omega,by omega⟩ (aD (by rw[aug,aud];omega) (hr _ ?_))))))
   simpa using G.ins hI (G.mono (au3 i) hx) k 0 k (aul _)
  have h1:=hr s (G.mono (by omega) hI)
  have hw:Ok (fun r=>L6 m r) (dd.l9 N (dd.l5 N n) N l a d s (i:Int) 0):=by
   refine jL (len:=s.length) (F:=fun n' j=>dd.l9 N (dd.l5 N n) n' l a d s (i:Int) j) (by omega) (fun n' j hj dT=> ?_) (fun n'=> ?_)
   all_goals unfold dd.l9 dd.vb
   ·rw[an (x:=(j:Int)+1) (by omega) (by omega),aa j]
    have hah: ∀x y:fZ,Ok (fun _=>True) (Sz N x y):=fun x y=>by unfold Sz;exact bA (fun _=>dm) fun _=>dm
    exact av (fun _=>aw ⟨by omega,by omega⟩ (aw ⟨by omega,by omega⟩ (af (hah _ _) fun _ _=>oT (fun _=>dT) fun _=>fin j (by omega)))) fun _=>by omega
   ·exact av (fun _=>by omega) fun _=>fin _ (aul _)
  rw[an (x:=(i:Int)+1) (by omega) (by omega),aa i]
  repeat' first|exact h1|exact hw|refine aw ⟨by omega,by omega⟩ ?_|refine av (fun _=> ?_) (fun _=> ?_)|refine bA (fun _=> ?_) (fun _=> ?_)|(exfalso;omega)
 ·exact av (fun _=>by omega) fun _=>ag (G.mono hl hI)
theorem Pg(N:Nat)(hN:200000≤N){l:ba}{o:fZ}{m:Nat}(hm:m≤50000)(h:L6 m l)(ho:G 0 jU o):Ok (fun r=>L6 m r.1∧aB r.2.2.1) (bK N l o):=by
 have hl:=h.1
 have fin: ∀(s:ba) (q:Int) (t:bc),L6 m s→aB q→Ok (fun r=>L6 m r.1∧aB r.2.2.1) (bK.j22 N s q t):=fun s q t hs hq=>by
  have hsl:=hs.1
  unfold bK.j22 bK.ZS
  refine bh (len:=s.length) (F:=fun n i u=>bK.xX N n s q t u i) (fun i u=>L6 i u) G.nil (by omega) (fun n i u hi hI hr=> ?_) (fun n u hI=> ?_)
  all_goals unfold bK.xX bK.y9
  ·have hu:=hI.1
   have hx:G 0 jU (s.getD (i:Int).toNat eK):=G.at hs _
   rw[an (x:=(i:Int)+1) (by omega) (by omega),aa i]
   have h1:=hr u (G.mono (by omega) hI)
   have h2:=hr _ (G.cat hI (G.one hx (aul 1)))
   repeat' first|exact h1|exact h2|refine aD (by rw[aud];omega) ?_|refine aw ⟨by omega,by omega⟩ ?_|refine av (fun _=> ?_) (fun _=> ?_)|(exfalso;omega)
  ·exact av (fun _=>by omega) fun _=>ag ⟨G.mono hsl hI,hq⟩
 have eH:Ok (fun r:ba×bc×Int×Int=>L6 m r.1∧aB r.2.2.1) (some ([],[],(0:Int),(1:Int))):=ag ⟨G.nil,aU⟩
 unfold bK bK.b
 refine bJ (kg N (by omega) hN) (bx (fun _=>eH) fun _=>bJ (ya N o) (bx (fun _=>eH) fun _=>aD (by rw[auA];omega) (af (Sy N hN hm h _ _) fun w hw=> ?_)))
 have hwl:=hw.1
 rw[auK]
 refine bh (len:=w.length) (F:=fun n i (s:ba×Int×bc)=>bK.l7 N n o s.1 s.2.1 s.2.2 w i) (s:=(_,(_,_))) (fun i s=>L6 m s.1∧aB s.2.1∧s.2.2.length≤i) ⟨h,ho.2.2.2.2.1,au3 _⟩ (by omega) (fun n i s hi hI hr=> ?_) (fun n s hI=> ?_)
 all_goals unfold bK.l7 bK.n9
 ·obtain⟨hs,hq,ht⟩:=hI
  have f1:=fin s.1 s.2.1 s.2.2 hs hq
  have akz: ∀(v:Int) (t:uI),Ok (fun r=>L6 m r.1∧aB r.2.2.1) (bK.Bc N (bK.l7 N n) o s.1 s.2.1 s.2.2 w (i:Int) v t):=fun v t=>by
   unfold bK.Bc bK.tk
   refine aD (by rw[aud];omega) (bh (len:=s.1.length) (F:=fun n' j u=>bK.vN N (bK.l7 N n) n' o u (W .i64 (s.2.1-v)) (s.2.2++[t]) w (i:Int) v j) (fun _ u=>u.length=s.1.length∧L6 m u) ⟨rfl,hs⟩ (by have:=hs.1;omega) (fun n' j u hj hJ dT=> ?_) (fun n' u hJ=> ?_))
   all_goals unfold bK.vN bK.th
   ·have hsl:=hs.1
    have XP:=hJ.1
    rw[an (x:=(j:Int)+1) (by omega) (by omega),aa j]
    exact av (fun _=>aw ⟨by omega,by omega⟩ (aw ⟨by omega,by omega⟩ (ok_eq (fun _=>aw ⟨by omega,by omega⟩ (aw ⟨by omega,by omega⟩ (dT _ ⟨by rw[aup];exact XP,G.set hJ.2 (G6q (G.at hJ.2 _) (dP _)) _⟩))) fun _=>dT u hJ))) fun _=>by omega
   ·have XP:=hJ.1
    rw[an (x:=(i:Int)+1) (by omega) (by omega),aa i]
    exact av (fun _=>by omega) fun _=>hr (_,(_,_)) ⟨hJ.2,dP _,by dsimp only;rw[List.length_append,List.length_singleton];omega⟩
  have SA:Ok (fun r=>L6 m r.1∧aB r.2.2.1) (bK.Ph N (bK.l7 N n) o s.1 s.2.1 s.2.2 w (i:Int)):=by
   unfold bK.Ph bK.IW
   rw[an (x:=(i:Int)+1) (by omega) (by omega),aa i]
   dsimp only
   have h1:=hr s ⟨hs,hq,by omega⟩
   repeat' first|exact h1|exact akz _ _|refine aw ⟨by omega,by omega⟩ ?_|refine ok_eq (fun _=> ?_) (fun _=> ?_)
  repeat' first|exact f1|exact SA|refine aw ⟨by omega,by omega⟩ ?_|refine av (fun _=> ?_) (fun _=> ?_)|refine ok_eq (fun _=> ?_) (fun _=> ?_)|(exfalso;omega)
 ·exact av (fun _=>by omega) fun _=>fin _ _ _ hI.1 hI.2.1
theorem Pj(N:Nat)(hN:5000000≤N){c:ae}{b:ah}{o:fZ}{m:Nat}(h2:200≤m)(hm:m≤40000)(hc:G m aq c)(hb:G m aA b)(ho:G 0 jU o):Ok (fun r=>G (m+1) aA r.1) (jf N c b o):=by
 have DU:=hb.2.2.2.2.2.1.1
 have eH: ∀(t:bc) (e:Int),Ok (fun r:ah×bc×Int×Int=>G (m+1) aA r.1) (some ((bN,(cL,(br,(br,(c5,(de,())))))),(t,((0:Int),e)))):=fun t e=>ag (G.zero (m+1) aA)
 have SA: ∀(r:ba) (t:bc) (q:Int),L6 m r→aB q→Ok (fun r=>G (m+1) aA r.1) (jf.Ph N c b o (bN,(cL,(br,(br,(c5,(de,())))))) r t q):=fun r t q hr hq=>by
  have Hs:=hr.1
  unfold jf.Ph jf.IW
  have hx:G 0 jU (o.1,(o.2.1,(o.2.2.1,(o.2.2.2.1,(q,o.2.2.2.2.2))))):=G6q ho hq
  exact af (Ca N hN c h2 (by omega) hb) fun z hz=>bA (fun _=>eH _ _) fun _=>by
   have xS:G (m+1) aA z.1:=G.mono (by omega) hz
   exact av (fun _=>aD (by rw[aud];omega) (ag ⟨xS.1,xS.2.1,xS.2.2.1,xS.2.2.2.1,xS.2.2.2.2.1,G.cat hr (G.one hx (aul 1)),trivial⟩)) fun _=>ag ⟨xS.1,xS.2.1,xS.2.2.1,xS.2.2.2.1,xS.2.2.2.2.1,G.mono (by omega) hr,trivial⟩
 have hj7:Ok (fun r=>G (m+1) aA r.1) (jf.j7 N c b o (bN,(cL,(br,(br,(c5,(de,()))))))):=by
  unfold jf.j7 jf.Ig
  exact af (Pg N (by omega) (by omega) hb.2.2.2.2.2.1 ho) fun z hz=>av (fun _=>ok_eq (fun _=>eH _ _) fun _=>SA _ _ _ hz.1 hz.2) fun _=>SA _ _ _ hz.1 hz.2
 unfold jf jf.b
 refine af (FM N hN h2 hm hc hb (G.mono (au3 m) ho)) fun e _=>bA (fun _=>eH _ _) fun _=>av (fun h0=> ?_) fun _=>hj7
 dsimp only
 exact aw (by rw[an (by omega) (by omega)];omega) (cW (fun _=>eH _ _) fun _=>hj7)
end VM
end
section
namespace VM
open Go VM.F
theorem ZT(N:Nat)(a:Int):Ok (fun _=>True) (IT N a):=by
 unfold IT
 exact ok_eq (fun _=>dm) fun _=>dm
theorem ga.one{k n:Int}{x:au}{m:Nat}(h:Bg m x)(hm:m≤8):ga 1 [(k,(n,(x,())))]:=⟨aul 1,fun y hy=>by rw[auE.1 hy];exact Bg.mono h hm⟩
theorem Pk(N:Nat)(hN:4000000≤N){l:aj}{m:Nat}(hm:m≤50000)(h:L3 m l)(i a b:Int):Ok (fun r=>ga m r.1) (mX N l i a b):=by
 have hl:=h.1
 unfold mX mX.b
 have p64: ∀p:Int,decide (1≤p∧p≤1000000000000)=true→aB p:=fun p h=>by have:=auw h;unfold aB;omega
 refine bJ (lX N (by omega) (by omega)) (bx (fun _=>ag ga.nil) fun _=>bJ (iS N _) (bx (fun _=>ag ga.nil) fun ha=>bJ (iS N _) (bx (fun _=>ag ga.nil) fun hb=>af (aZ N hN (p64 _ hb)) fun x hx=>af (aZ N hN (p64 _ ha)) fun y hy=>af (uT N hN (by omega) hx hy) fun z hz=>bh (len:=l.length) (F:=fun n j s=>mX.l6 N n l i s z j) (fun j s=>ga j s) ga.nil (by omega) (fun n j s hj hI hr=> ?_) (fun n s hI=> ?_))))
 all_goals unfold mX.l6 mX.ov
 ·have hs:=hI.1
  rw[an (x:=(j:Int)+1) (by omega) (by omega),aa j]
  have h1:=hr s (ga.mono hI (by omega))
  exact av (fun _=>aw ⟨by omega,by omega⟩ (bA (fun _=>h1) fun _=>af (yk N hz) fun _ _=>ok_eq (fun _=>h1) fun _=>aw ⟨by omega,by omega⟩ (af (ZT N _) fun _ _=>aw ⟨by omega,by omega⟩ (af (aZ N hN (G.at h _).2.2.1) fun v hv=>af (jM N hN (by omega) (by omega) hv hz) fun u hu=>aD (by rw[aud];omega) (hr _ (ga.app hI (ga.one hu (by omega)))))))) fun _=>by omega
 ·exact av (fun _=>by omega) fun _=>ag (ga.mono hI (by omega))
theorem FV(N:Nat)(hN:5000000≤N)(c:ae){b:ah}{m:Nat}(h2:200≤m)(hm:m≤50000)(hb:G m aA b)(i:Int){p:Int}(hp:aB p):Ok (fun r=>G m aA r.1∧ga m r.2.1) (SB N c b i p):=by
 have eH: ∀e:Int,Ok (fun r:ah×bk×Int=>G m aA r.1∧ga m r.2.1) (some ((bN,(cL,(br,(br,(c5,(de,())))))),([],e))):=fun e=>ag ⟨G.fc,ga.nil⟩
 have Hv:=hb.2.2.2.2.1.1
 unfold SB
 refine bJ (dJ N hN hm hb) (bx (fun _=>eH _) fun hB=>bJ (iS N _) (bx (fun _=>eH _) fun _=>av (fun _=>eH _) fun h0=>cW (fun _=>eH _) fun h1=> ?_))
 obtain⟨XG,_⟩:=im hB
 dsimp only
 rw[auK]
 exact aw ⟨h0,by rw[XG];exact h1⟩ (af (Pk N (by omega) hm hb.2.2.2.1 _ _ _) fun f hf=>af (nX N (by omega) h2 hm hb G.nil (ga.mono hf hm)) fun r hr=>bA (fun _=>eH _) fun _=>aD (by rw[auA];omega) (aw ⟨h0,by rw[XG];exact h1⟩ (ag ⟨⟨hr.1,hr.2.1,hr.2.2.1,hr.2.2.2.1,G.set hb.2.2.2.2.1 hp _,hr.2.2.2.2.2⟩,hf⟩)))
abbrev L2(m:Nat)(l:ax):Prop:=G m (.slice gP) l
theorem G2{m:Nat}{a b:Int}(ha:aB a)(hb:aB b):G m gP (a,(b,())):=⟨ha,hb,trivial⟩
theorem Cc(N:Nat)(hN:200000≤N){l:ax}(hl:l.length≤100000):Ok (fun _=>True) (lK N l):=by
 unfold lK lK.b
 refine jL (len:=l.length) (F:=fun n i=>lK.l2 N n l i) (by omega) (fun n i hi hr=> ?_) (fun n=> ?_)
 all_goals unfold lK.l2 lK.ei
 ·rw[an (x:=(i:Int)+1) (by omega) (by omega),aa i]
  dsimp only
  repeat' first|exact hr|exact dm|refine aw ⟨by omega,by omega⟩ ?_|refine aw (by rw[an (x:=(i:Int)-1) (by omega) (by omega)];omega) ?_|refine av (fun _=> ?_) (fun _=> ?_)|refine cW (fun _=> ?_) (fun _=> ?_)|refine ok_eq (fun _=> ?_) (fun _=> ?_)|(exfalso;omega)
 ·exact av (fun _=>by omega) fun _=>dm
theorem Pl(N:Nat)(hN:4000000≤N){g:ax}{p:bk}{m:Nat}(h2:200≤m)(hm:m≤50000)(h:L2 m g)(hp:ga m p):Ok (fun r=>L2 m r.1) (c6 N g p):=by
 have hl:=h.1
 have Hv:=hp.1
 unfold c6 c6.b
 refine af (Cc N (by omega) (by omega)) fun _ _=>bx (fun _=>ag G.nil) fun _=>fW (len:=25) (F:=fun n i s=>c6.l5 N n g p s i) (fun i s=>L2 i s) (fun n i s hi hI hr=> ?_) (fun n s hI=> ?_) 25 N 1 [] (by omega) (by omega) (by omega) G.nil
 all_goals unfold c6.l5 c6.du
 ·have hs:=hI.1
  refine cW (fun _=> ?_) fun _=>by omega
  refine bh (len:=g.length) (F:=fun n' j t=>c6.l9 N (c6.l5 N n) n' g p s (i:Int) t j) (fun _ t=>Bg 2 t) (Dr (by omega)) (by omega) (fun n' j t hj ht dT=> ?_) (fun n' t ht=> ?_)
  all_goals unfold c6.l9 c6.vb
  ·rw[an (x:=(j:Int)+1) (by omega) (by omega),aa j]
   exact av (fun _=>aw ⟨by omega,by omega⟩ (ok_eq (fun _=>aw ⟨by omega,by omega⟩ (af (aZ N hN (G.at h _).2.1) fun r hr=>dT r hr)) fun _=>dT t ht)) fun _=>by omega
  ·refine av (fun _=>by omega) fun _=> ?_
   refine bh (len:=p.length) (F:=fun B9 j t=>c6.BZ N (c6.l5 N n) B9 g p s (i:Int) t j) (fun j t=>Bg (8+j) t) (Bg.mono ht (by omega)) (by omega) (fun B9 j t hj ht dT=> ?_) (fun B9 t ht=> ?_)
   all_goals unfold c6.BZ c6.zJ
   ·rw[an (x:=(j:Int)+1) (by omega) (by omega),aa j]
    have h1:=dT t (Bg.mono ht (by omega))
    exact av (fun _=>aw ⟨by omega,by omega⟩ (ok_eq (fun _=>aw ⟨by omega,by omega⟩ (ok_eq (fun _=>aw ⟨by omega,by omega⟩ (af (gO N hN (by omega) ht (Bg.mono (hp.at _) (by omega))) fun r hr=>dT r (Bg.mono hr (by omega)))) fun _=>h1)) fun _=>h1)) fun _=>by omega
   ·rw[an (x:=(i:Int)+1) (by omega) (by omega),aa i]
    exact av (fun _=>by omega) fun _=>af (tj N ht) fun v hv=>bx (fun _=>ag G.nil) fun _=>bA (fun _=>aD (by rw[aud];omega) (hr _ (G.cat hI (G.one (m:=1) (G2 (fP (by omega) (by omega)) hv) (aul 1))))) fun _=>hr s (G.mono (by omega) hI)
 ·exact cW (fun _=>by omega) fun _=>ag (G.mono (by omega) hI)
theorem nZ(N:Nat)(hN:4000000≤N)(a b c d:Int){x:au}(h:Bg 8 x):Ok (fun r=>ga 2 r) (zV N a b c d x):=by
 unfold zV
 exact af (oU N hN (by omega) h) fun y hy=>ag ⟨aul 2,fun z hz=>by
  rcases auy.1 hz with rfl|hz
  ·exact hy
  ·rw[auE.1 hz];exact h⟩
theorem FW(N:Nat)(hN:5000000≤N){c:ae}{b:ah}{m:Nat}(h2:200≤m)(hm:m≤40000)(hc:G m aq c)(hb:G m aA b)(a:Int){q:Int}(hq:aB q):Ok (fun r=>G m aA r.1) (SC N c b a q):=by
 unfold SC
 exact bJ (dJ N hN (by omega) hb) (bx (fun _=>ag G.fc) fun _=>av (fun _=>ag G.fc) fun _=>af (sa N (by omega) (by omega) hb.2.1 _) fun _ _=>bx (fun _=>ag G.fc) fun _=>af (lY N (by omega) (by omega) hb.1 _) fun _ _=>bA (fun _=>ag G.fc) fun _=>af (mR N (by omega) (by omega) hb.2.2.1 _ _) fun g hg=>af (aZ N (by omega) hg) fun x hx=>af (aZ N (by omega) hq) fun y hy=>af (uT N (by omega) (by omega) hx hy) fun z hz=>af (FL N (by omega) h2 hm hc hb (au3 _) _) fun w hw=>af (oe N (by omega) (by omega) (by omega) hz hw) fun _ _=>av (fun _=>ag G.fc) fun _=>af (aZ N (by omega) hq) fun y hy=>af (nZ N (by omega) _ _ _ _ (Bg.mono hy (by omega))) fun p hp=>af (nX N (by omega) h2 (by omega) hb G.nil (ga.mono hp (by omega))) fun r hr=>ag hr)
theorem IX(N:Nat)(hN:1000≤N){c:ae}(hc:G 5 aq c):Ok (fun r=>G 5 aA r.1) (gy N c):=by
 have hl:=hc.1.1
 unfold gy gy.b
 have hj: ∀b:ah,G 5 aA b→Ok (fun r=>G 5 aA r.1) (gy.j6 N c (bN,(cL,(br,(br,(c5,(de,())))))) b []):=fun b hb=>by
  unfold gy.j6 gy.MR
  obtain⟨b1,b2,b3,b4,b5,b6⟩:=b
  refine bh (len:=c.1.length) (F:=fun n i (z:ah×List Int)=>gy.l7 N n c (bN,(cL,(br,(br,(c5,(de,())))))) z.1 z.2 i) (s:=((b1,(b2,(b3,(b4,(b5,b6))))),_)) (fun i z=>G 5 aA z.1∧G i (.slice (.int .i64)) z.2) ⟨hb,G.nil⟩ (by omega) (fun n i z hi hI hr=> ?_) (fun n z hI=> ?_)
  all_goals unfold gy.l7 gy.n9
  ·have hz:=hI.2.1
   rw[an (x:=(i:Int)+1) (by omega) (by omega),aa i]
   have hx:G 0 (.int .i64) (c.1.getD (i:Int).toNat aO).2.1:=(G.at hc.1 _).2.1
   exact av (fun _=>aw ⟨by omega,by omega⟩ (aD (by rw[aud];omega) (hr (_,_) ⟨⟨hI.1.1,hI.1.2.1,hI.1.2.2.1,hI.1.2.2.2.1,G.nil,hI.1.2.2.2.2.2⟩,G.cat hI.2 (G.one hx (aul 1))⟩))) fun _=>by omega
  ·exact av (fun _=>by omega) fun _=>ag ⟨hI.1.1,hI.1.2.1,hI.1.2.2.1,hI.1.2.2.2.1,G.mono hl hI.2,hI.1.2.2.2.2.2⟩
 have DR:L3 5 [((1:Int),((0:Int),(W .i64 (0-c.2.1),()))),((3:Int),((0:Int),(c.2.1,())))]:=G.two (G3 (show aB 1 from aV) aU (dP _)) (G3 (show aB 3 from aV) aU hc.2.1) (by decide)
 exact bJ (mF N (by omega) c) (bx (fun _=>ag G.fc) fun _=>bA (fun _=>hj _ ⟨G.nil,G.nil,DR,G.nil,G.nil,G.nil,trivial⟩) fun _=>hj _ G.fc)
end VM
end
