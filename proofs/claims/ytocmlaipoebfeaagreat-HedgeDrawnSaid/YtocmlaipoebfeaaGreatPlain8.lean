/- A part of the proof of HedgeDrawn of layer 22: what the functions compute, in plain words. -/
import Derived.Test.YtocmlaipoebfeaaGreatPlain7
set_option linter.all false
section
namespace VM
open Go VM.F
theorem tz(N:Nat)(hN:200000≤N){l:av}(hl:l.length≤100000):Ok (fun _=>True) (mC N l):=by
 unfold mC mC.b
 refine kG (len:=l.length) (F:=fun n i=>mC.l2 N n l i) (by omega) (fun n i hi hr=> ?_) (fun n=> ?_)
 all_goals unfold mC.l2 mC.dA
 ·rw[ak (x:=(i:Int)+1) (by omega) (by omega),ae i]
  dsimp only
  repeat' first|exact hr|exact dF|refine ay ⟨by omega,by omega⟩ ?_|refine ay (by rw[ak (x:=(i:Int)-1) (by omega) (by omega)];omega) ?_|refine aw (fun _=> ?_) (fun _=> ?_)|refine dE (fun _=> ?_) (fun _=> ?_)|refine ok_eq (fun _=> ?_) (fun _=> ?_)|(exfalso;omega)
 ·exact aw (fun _=>by omega) fun _=>dF
theorem PV(N:Nat)(hN:200000≤N){l:List Int}(hl:l.length≤100000):Ok (fun _=>True) (ot N l):=by
 unfold ot ot.b
 refine kG (len:=l.length) (F:=fun n i=>ot.l2 N n l i) (by omega) (fun n i hi hr=> ?_) (fun n=> ?_)
 all_goals unfold ot.l2 ot.dA
 ·rw[ak (x:=(i:Int)+1) (by omega) (by omega),ae i]
  dsimp only
  repeat' first|exact hr|exact dF|refine ay ⟨by omega,by omega⟩ ?_|refine ay (by rw[ak (x:=(i:Int)-1) (by omega) (by omega)];omega) ?_|refine aw (fun _=> ?_) (fun _=> ?_)|refine dE (fun _=> ?_) (fun _=> ?_)|refine ok_eq (fun _=> ?_) (fun _=> ?_)|(exfalso;omega)
 ·exact aw (fun _=>by omega) fun _=>dF
theorem S9(N:Nat)(hN:200000≤N)(a:Int){L:ba}{l:aD}{m:Nat}(hm:m≤50000)(hL:LL m L)(hl:G m (.slice c9) l):Ok aB (gb N a L l):=by
 have h1:=hL.1
 have h2:=hl.1
 have i3:aB 3:=a7
 have i2:aB 2:=a7
 unfold gb gb.b
 refine bw (len:=l.length) (F:=fun n i v=>gb.l3 N n a L l v i) (fun _ v=>aB v) (show aB 1 from a7) (by omega) (fun n i v hi hv hr=> ?_) (fun n v hv=> ?_)
 all_goals unfold gb.l3 gb.jU
 ·rw[ak (x:=(i:Int)+1) (by omega) (by omega),ae i]
  exact aw (fun _=>ay ⟨by omega,by omega⟩ (bZ (fun _=>hr v hv) fun _=>ay ⟨by omega,by omega⟩ (af (BX N hN hm hL _) fun _ _=>rj (fun _=>ay ⟨by omega,by omega⟩ (dE (fun _=>hr _ (xx hv i3)) fun _=>hr _ (xx hv i2))) fun _=>hr _ (xx hv i2)))) fun _=>by omega
 ·refine aw (fun _=>by omega) fun _=>bw (len:=L.length) (F:=fun n i v=>gb.kk N n a L v i) (fun _ v=>aB v) hv (by omega) (fun n i v hi hv hr=> ?_) (fun n v hv=> ?_)
  all_goals unfold gb.kk gb.jh
  ·rw[ak (x:=(i:Int)+1) (by omega) (by omega),ae i]
   exact aw (fun _=>ay ⟨by omega,by omega⟩ (ok_eq (fun _=>ay ⟨by omega,by omega⟩ (ok_eq (fun _=>hr 4 a7) fun _=>hr v hv)) fun _=>hr v hv)) fun _=>by omega
  ·exact aw (fun _=>by omega) fun _=>ah hv
theorem Ta(N:Nat)(hN:200000≤N)(c:aa){d:av}{u:List Int}{L:ba}{l:aD}{m:Nat}(h2:200≤m)(hm:m≤50000)(hd:L2 m d)(hu:u.length≤m)(hL:LL m L)(hl:G m (.slice c9) l):Ok (fun r=>L2 m r.1) (cM N c d u L l):=by
 have h3:=hd.1
 have h4:=hL.1
 have h5:=hl.1
 have hw:Ic L:=fun y hy=>azl (hL.2 y hy).2.1.1 (by omega)
 unfold cM cM.b
 refine af (tz N hN (by omega)) fun _ _=>bN (fun _=>ah G.nil) fun _=>af (PV N hN (by omega)) fun _ _=>bN (fun _=>ah G.nil) fun _=>cA (Bb N hN c (by omega) hw) (bN (fun _=>ah G.nil) fun _=>cA (sI N (by omega) hN) (bN (fun _=>ah G.nil) fun _=>iY (len:=13) (F:=fun n i s=>cM.l5 N n d u L l s i) (fun i s=>L2 i s) (fun n i s hi hI hr=> ?_) (fun n s hI=> ?_) 13 N 1 [] (by omega) (by omega) (by omega) G.nil))
 all_goals unfold cM.l5 cM.c7
 ·have hs:=hI.1
  refine dE (fun _=> ?_) fun _=>by omega
  refine bw (len:=d.length) (F:=fun n' j (z:Int×Bool)=>cM.l9 N (cM.l5 N n) n' d u L l s (i:Int) z.1 z.2 j) (s:=(_,_)) (fun _ z=>aB z.1) aW (by omega) (fun n' j z hj hz dg=> ?_) (fun n' z hz=> ?_)
  all_goals unfold cM.l9 cM.tJ
  ·rw[ak (x:=(j:Int)+1) (by omega) (by omega),ae j]
   exact aw (fun _=>ay ⟨by omega,by omega⟩ (ok_eq (fun _=>ay ⟨by omega,by omega⟩ (dg (_,_) (G.at hd _).2.1)) fun _=>dg z hz)) fun _=>by omega
  ·refine aw (fun _=>by omega) fun _=>bw (len:=u.length) (F:=fun n' j f=>cM.D5 N (cM.l5 N n) n' d u L l s (i:Int) z.1 f j) (fun _ _=>True) trivial (by omega) (fun n' j f hj _ dg=> ?_) (fun n' f _=> ?_)
   all_goals unfold cM.D5 cM.Bv
   ·rw[ak (x:=(j:Int)+1) (by omega) (by omega),ae j]
    exact aw (fun _=>rj (fun _=>dg _ trivial) fun _=>ay ⟨by omega,by omega⟩ (dg _ trivial)) fun _=>by omega
   ·refine aw (fun _=>by omega) fun _=>bw (len:=l.length) (F:=fun n' j f=>cM.Eu N (cM.l5 N n) n' d u L l s (i:Int) z.1 f j) (fun _ _=>True) trivial (by omega) (fun n' j f hj _ dg=> ?_) (fun n' f _=> ?_)
    all_goals unfold cM.Eu cM.BV
    ·rw[ak (x:=(j:Int)+1) (by omega) (by omega),ae j]
     exact aw (fun _=>rj (fun _=>dg _ trivial) fun _=>ay ⟨by omega,by omega⟩ (dg _ trivial)) fun _=>by omega
    ·rw[ak (x:=(i:Int)+1) (by omega) (by omega),ae i]
     dsimp only
     exact aw (fun _=>by omega) fun _=>rj (fun _=>af (S9 N hN _ hm hL hl) fun v hv=>aH (by rw[ayA];omega) (hr _ (G.cat hI (G.one (m:=1) (G2 (gm (by omega) (by omega)) (xx hz hv)) (ayJ 1))))) fun _=>hr s (G.mono (by omega) hI)
 ·exact dE (fun _=>by omega) fun _=>ah (G.mono (by omega) hI)
theorem Tb(N:Nat)(hN:200000≤N){l:av}(hl:l.length≤100000)(a:Int):Ok (fun _=>True) (ou N l a):=by
 unfold ou ou.b
 refine af (tz N hN hl) fun _ _=>bN (fun _=>dF) fun _=>kG (len:=l.length) (F:=fun n i=>ou.l4 N n l a i) (by omega) (fun n i hi hr=> ?_) (fun n=> ?_)
 all_goals unfold ou.l4 ou.cD
 ·rw[ak (x:=(i:Int)+1) (by omega) (by omega),ae i]
  exact aw (fun _=>ay ⟨by omega,by omega⟩ (ok_eq (fun _=>ay ⟨by omega,by omega⟩ dF) fun _=>hr)) fun _=>by omega
 ·exact aw (fun _=>by omega) fun _=>dF
theorem NS(N:Nat)(a:Int):Ok (fun _=>True) (Tc N a):=by
 unfold Tc
 exact ok_eq (fun _=>dF) fun _=>dF
theorem Mk(N:Nat)(hN:5000000≤N)(c:aa){b:ag}{d:av}{m:Nat}(hm:m≤50000)(hb:G m aC b)(hd:L2 m d)(a k:Int):Ok (fun r=>G m (.slice (.int .i64)) r.1) (ov N c b d a k):=by
 have hl:=hb.1.1
 have h2:=hd.1
 unfold ov ov.b
 refine cA (eb N hN hm hb) (bN (fun _=>ah G.nil) fun _=>af (tz N (by omega) (by omega)) fun _ _=>bN (fun _=>ah G.nil) fun _=>bw (len:=b.1.length) (F:=fun n i s=>ov.l5 N n d a k b s i) (fun i s=>G i (.slice (.int .i64)) s) G.nil (by omega) (fun n i s hi hI hr=> ?_) (fun n s hI=> ?_))
 all_goals unfold ov.l5 ov.c7
 ·have hs:=hI.1
  rw[ak (x:=(i:Int)+1) (by omega) (by omega),ae i]
  have h1:=hr s (G.mono (by omega) hI)
  have hx:G 0 (.int .i64) (b.1.getD (i:Int).toNat bL).1:=(G.at hb.1 _).1
  exact aw (fun _=>ay ⟨by omega,by omega⟩ (af (NS N _) fun _ _=>rj (fun _=>bZ (fun _=>af (oc N (by omega) hm hb.2.2.1 _ _) fun _ _=>aw (fun _=>af (Tb N (by omega) (by omega) _) fun _ _=>ok_eq (fun _=>aH (by rw[ayA];omega) (hr _ (G.cat hI (G.one hx (ayJ 1))))) fun _=>h1) fun _=>h1) fun _=>h1) fun _=>h1)) fun _=>by omega
 ·exact aw (fun _=>by omega) fun _=>ah (G.mono hl hI)
theorem BY(N:Nat)(hN:200000≤N){a:aD}{m:Nat}(hm:m≤50000)(h:G m (.slice c9) a)(id:Int):Ok aB (uI N a id):=by
 refine mA (xh N (azl h.1 (by omega)) hN id) ?_
 unfold zM
 split
 ·have: ∀l:aD,(∀x∈l,G m c9 x)→aB (qQ id l):=by
   intro l
   induction l with
   |nil=>intro _;exact aW
   |cons x t ih=>
    intro hx
    have hi:=ih fun y hy=>hx y (ayK _ hy)
    rw[yp]
    split
    ·split
     ·exact(hx x (ayN ..)).1
     ·exact hi
    ·exact hi
  exact this a h.2
 ·exact aW
abbrev L5(m:Nat)(l:aZ):Prop:=G m (.slice oE) l
theorem G5{m:Nat}{a b c d e:Int}(ha:aB a)(hb:aB b)(hc:aB c)(hd:aB d)(he:aB e):G m oE (a,(b,(c,(d,(e,()))))):=⟨ha,hb,hc,hd,he,trivial⟩
theorem F7(N:Nat)(hN:200000≤N){l:aZ}{b:ag}{m k:Nat}(hm:m≤50000)(hb:G m aC b)(hk:k≤1000000)(hl:L5 k l){a d n:Int}(ha:aB a)(hd:aB d)(hn:aB n):Ok (fun r=>L5 (k+1) r) (Ml N l b a d n):=by
 have h1:=hl.1
 unfold Ml
 exact af (oc N hN hm hb.2.2.1 _ _) fun x hx=>aw (fun _=>aH (by rw[ayA];omega) (ah (G.cat hl (G.one (m:=1) (G5 ha hd hn hx aW) (ayJ 1))))) fun _=>ah (G.mono (by omega) hl)
theorem Td(N:Nat)(hN:5000000≤N){c:aa}{b:ag}{d g:av}{a:Int}{m:Nat}(hm:m≤50000)(hc:G m aq c)(hb:G m aC b)(hd:L2 m d)(hg:L2 m g)(ha:aB a):Ok (fun r=>L5 1000000 r.1) (cz N c b a d g):=by
 have h1:=hb.1.1
 have h2:=hd.1
 have h3:=hg.1
 have h4:=hb.2.1.1
 have hj: ∀l:aZ,L5 1 l→Ok (fun r=>L5 1000000 r.1) (cz.j9 N a d g c b l):=fun l hl=>by
  unfold cz.j9 cz.La
  refine af (F7 N (by omega) hm hb (by omega) hl a7 a7 ha) fun l hl=>af (F7 N (by omega) hm hb (by omega) hl a7 a7 aW) fun l hl=>iY (len:=5) (F:=fun n k s=>cz.kk N n a d g c b s k) (fun k s=>L5 (3+m*k) s) (fun n k s hk hs hr=> ?_) (fun n s hs=> ?_) 5 N 1 l (by omega) (by omega) (by omega) (G.mono (by omega) hl)
  all_goals unfold cz.kk cz.jh
  ·have hmk:m*k≤m*4:=aAg m (by omega)
   refine dE (fun _=>af (Mk N hN c hm hb hd _ _) fun t ht=> ?_) fun _=>by omega
   have htl:=ht.1
   refine bw (len:=t.1.length) (F:=fun n' j u=>cz.tK N (cz.kk N n) n' a d g c b u (k:Int) t.1 j) (fun j u=>L5 (3+m*k+j) u) hs (by omega) (fun n' j u hj hu dg=> ?_) (fun n' u hu=> ?_)
   all_goals unfold cz.tK cz.sC
   ·rw[ak (x:=(j:Int)+1) (by omega) (by omega),ae j]
    exact aw (fun _=>ay ⟨by omega,by omega⟩ (af (F7 N (by omega) hm hb (by omega) hu (eo _) a7 (G.at ht _)) fun v hv=>dg v hv)) fun _=>by omega
   ·rw[ak (x:=(k:Int)+1) (by omega) (by omega),ae k]
    exact aw (fun _=>by omega) fun _=>hr u (G.mono (by rw[aBY];omega) hu)
  ·refine dE (fun _=>by omega) fun _=>bw (len:=b.1.length) (F:=fun n j u=>cz.F6 N n a g c b u j) (fun j u=>L5 (3+m*5+j) u) hs (by omega) (fun n j u hj hu hr=> ?_) (fun n u hu=> ?_)
   all_goals unfold cz.F6 cz.Mi
   ·have hul:=hu.1
    have hx:aB (b.1.getD (j:Int).toNat bL).1:=(G.at hb.1 _).1
    rw[ak (x:=(j:Int)+1) (by omega) (by omega),ae j]
    have h0:=hr u (G.mono (by omega) hu)
    exact aw (fun _=>ay ⟨by omega,by omega⟩ (af (NS N _) fun _ _=>bN (fun _=>h0) fun _=>ok_eq (fun _=>h0) fun _=>af (bc N (by omega) hc.2.2.1) fun p hp=>af (oc N (by omega) hm hb.2.2.1 _ _) fun q hq=>af (bc N (by omega) hq) fun q hq=>af (kH N (by omega) (by omega) (by omega) hp hq) fun y hy=>af (uY N hy) fun v hv=>bN (fun _=>ah G.nil) fun _=>aw (fun _=>aH (by rw[ayA];omega) (hr _ (G.mono (by omega) (G.cat hu (G.one (m:=1) (G5 (show aB 8 from a7) (show aB 7 from a7) hx hv aW) (ayJ 1)))))) fun _=>h0)) fun _=>by omega
   ·refine aw (fun _=>by omega) fun _=>bw (len:=g.length) (F:=fun n j u=>cz.Lt N n a g b u j) (fun j u=>L5 (3+m*5+m+j) u) (G.mono (by omega) hu) (by omega) (fun n j u hj hu hr=> ?_) (fun n u hu=> ?_)
    all_goals unfold cz.Lt cz.H8
    ·have hul:=hu.1
     rw[ak (x:=(j:Int)+1) (by omega) (by omega),ae j]
     have h0:=hr u (G.mono (by omega) hu)
     dsimp only
     exact aw (fun _=>ay ⟨by omega,by omega⟩ (af (tu N (by omega) hm hb.2.1 _) fun x hx=>ay ⟨by omega,by omega⟩ (ay ⟨by omega,by omega⟩ (af (oc N (by omega) hm hb.2.2.1 _ _) fun q hq=>rj (fun _=>bZ (fun _=>aw (fun _=>aH (by rw[ayA];omega) (hr _ (G.mono (by omega) (G.cat hu (G.one (m:=1) (G5 (show aB 9 from a7) (show aB 5 from a7) hx.1 (Wa (G.at hg _).2.1 hq) aW) (ayJ 1)))))) fun _=>h0) fun _=>h0) fun _=>h0)))) fun _=>by omega
    ·exact aw (fun _=>by omega) fun _=>ah (G.mono (by omega) hu)
 unfold cz cz.b
 exact cA (eb N hN hm hb) (bN (fun _=>ah G.nil) fun _=>af (tz N (by omega) (by omega)) fun _ _=>bN (fun _=>ah G.nil) fun _=>af (Ev N (by omega) (by omega)) fun _ _=>bN (fun _=>ah G.nil) fun _=>af (nI N (by omega) hm hb.1 _) fun _ _=>ok_eq (fun _=>ah G.nil) fun _=>af (BY N (by omega) hm hb.2.1 _) fun h hh=>bZ (fun _=>af (F7 N (by omega) hm hb (by omega) (G.nil (m:=0)) a7 a7 hh) fun l hl=>hj l hl) fun _=>hj [] G.nil)
end VM
end
section
namespace VM
open Go VM.F
theorem PW(N:Nat)(hN:5000000≤N)(c:aa){b:ag}{m:Nat}(hm:m≤50000)(hb:G m aC b):Ok (fun r=>aB r.1) (Ws N c b):=by
 unfold Ws
 exact cA (eb N hN hm hb) (bN (fun _=>ah aW) fun _=>af (oc N (by omega) hm hb.2.2.1 _ _) fun x hx=>ok_eq (fun _=>ah aW) fun _=>ah (xx (eo _) aW))
theorem Mm(N:Nat)(hN:5000000≤N)(c:aa){b:ag}{m:Nat}(hm:m≤50000)(hb:G m aC b):Ok (fun r=>aB r.1) (Wt N c b):=by
 unfold Wt
 exact cA (eb N hN hm hb) (bN (fun _=>ah aW) fun _=>af (oc N (by omega) hm hb.2.2.1 _ _) fun x hx=>ah (xx hx aW))
theorem adD(N:Nat)(a b:Int):Ok (fun _=>True) (Le N a b):=by
 unfold Le
 repeat' first|exact dF|refine ok_eq (fun _=> ?_) (fun _=> ?_)|refine dE (fun _=> ?_) (fun _=> ?_)
theorem PX(N:Nat)(hN:200000≤N)(l:aZ):Ok (fun r=>r=true→l.length≤64) (ow N l):=by
 have hf:Ok (fun r=>r=true→l.length≤64) (some false):=ah fun h=>nomatch h
 unfold ow ow.b
 refine aw (fun _=>hf) fun hl=>kG (len:=l.length) (F:=fun n i=>ow.l4 N n l i) (by omega) (fun n i hi hr=> ?_) (fun n=> ?_)
 all_goals unfold ow.l4 ow.cD
 ·rw[ak (x:=(i:Int)+1) (by omega) (by omega),ae i]
  dsimp only
  repeat' first|exact hr|exact hf|refine ay ⟨by omega,by omega⟩ ?_|refine ay (by rw[ak (x:=(i:Int)-1) (by omega) (by omega)];omega) ?_|refine aw (fun _=> ?_) (fun _=> ?_)|refine dE (fun _=> ?_) (fun _=> ?_)|refine ok_eq (fun _=> ?_) (fun _=> ?_)|(exfalso;omega)|refine af (adD N _ _) fun _ _=> ?_|refine bN (fun _=> ?_) (fun _=> ?_)
 ·exact aw (fun _=>by omega) fun _=>ah fun _=>by omega
theorem NT{σ β:Type}{P:β→Prop}{F:Nat→Int→σ→Option β}{len:Nat}(I:σ→Prop)
  (hs: ∀n i s,i<len→I s→(∀j s',i<j→j≤len→I s'→Ok P (F n (j:Int) s'))→Ok P (F (n+1) (i:Int) s)) (he: ∀n s,I s→Ok P (F (n+1) (len:Int) s)):
  ∀m n i s,len-i≤m→m<n→i≤len→I s→Ok P (F n (i:Int) s)
 |m,0,i,s,_,hn,_,_=>by omega
 |m,n+1,i,s,hm,hn,hi,hI=>by
  by_cases h:i<len
  ·exact hs n i s h hI fun j s' hj Ua tY=>NT I hs he (m-1) n j s' (by omega) (by omega) Ua tY
  ·have:i=len:=by omega
   subst this
   exact he n s hI
theorem G5q{m:Nat}{x:gk}{q:Int}(h:G m oE x)(hq:aB q):G m oE (x.1,(x.2.1,(x.2.2.1,(x.2.2.2.1,(q,x.2.2.2.2.2))))):=⟨h.1,h.2.1,h.2.2.1,h.2.2.2.1,hq,trivial⟩
theorem ai7: ∀{w:List Int},Pos w→0≤w.sum
 |[],_=>azC _
 |x::t,h=>by
  rw[azd]
  have:=h x (ayN ..)
  have:=ai7 (w:=t) fun y hy=>h y (ayK _ hy)
  omega
theorem PY{t:Int}{w:List Int}(h1:t<9223372036854775808)(h:(n7 t w).2=0):(n7 t w).1.length=w.length∧FH (n7 t w).1:=by
 unfold n7 at h ⊢
 split at h
 ·exact absurd h (by decide)
 ·split at h
  ·exact absurd h (by decide)
  ·rename_i h2 h3
   split at h
   ·split at h
    ·rename_i h4 h5
     rw[ayE h2,ayE h3,ayF h4,ayF h5]
     exact⟨ayS ..,fun x hx=>by rw[aAI hx];decide⟩
    ·exact absurd h (by decide)
   ·rename_i h4
    rw[ayE h2,ayE h3,ayE h4]
    have hm:may w=true:=by
     by_cases hm:may w=true
     ·exact hm
     ·exact absurd (Or.inr (aAY.2 hm)) h2
    have hp:=(lM.1 hm).2
    have h0:0≤t:=by omega
    have hS:0<w.sum:=by have:=ai7 hp;omega
    exact⟨lA t w,abr (q7 h0 hS hp) (by rw[q6 h0 hS];exact h1)⟩
theorem Mn(N:Nat)(hN:5000000≤N){l:aZ}{q:Int}{m:Nat}(hl:L5 m l)(hq:aB q):Ok (fun r=>L5 64 r.1∧aB r.2.1) (cU N l q):=by
 have eZ: ∀e:Int,Ok (fun r:aZ×Int×Int=>L5 64 r.1∧aB r.2.1) (some ([],((0:Int),e))):=fun e=>ah ⟨G.nil,aW⟩
 unfold cU cU.b
 refine af (PX N (by omega) l) fun z hz=>bN (fun _=>eZ _) fun ht=>aw (fun _=>eZ _) fun _=> ?_
 have jy:=hz ht
 rw[ay8]
 refine aH (by rw[ayW];omega) (NT (len:=l.length) (F:=fun n i (s:aZ×Int)=>cU.l5 N n s.1 s.2 i) (fun s=>s.1.length=l.length∧L5 64 s.1∧aB s.2) (fun n i s hi hI hr=> ?_) (fun n s hI=> ?_) l.length N 0 (l,q) (by omega) (by omega) (by omega) ⟨rfl,⟨jy,fun x hx=>G.mono (m:=0) (azn _) (hl.2 x hx)⟩,hq⟩)
 all_goals unfold cU.l5 cU.c7
 ·obtain⟨MU,Nc,hs3⟩:=hI
  refine aw (fun _=> ?_) fun _=>by omega
  have fin: ∀(k:Nat) (w:List Int),i<k→k≤l.length→w.length=k-i→FH w→Ok (fun r=>L5 64 r.1∧aB r.2.1) (cU.KF N (cU.l5 N n) s.1 s.2 (i:Int) (k:Int) w):=fun k w hk Am hw LR=>by
   unfold cU.KF cU.BU
   have Aj:aB (mn (zc w.sum).1 s.2):=Wa (Ma _) hs3
   refine cA (uF N (by omega) LR (by omega)) (cA (nZ N _) (bN (fun _=>eZ _) fun _=>cA (xp N hN Aj.2 LR (by omega)) (bZ (fun _=>eZ _) fun h0=> ?_)))
   obtain⟨e1,e2⟩:=PY Aj.2 h0
   generalize (n7 (mn (zc w.sum).1 s.2) w).1=v at*
   refine iY (len:=k) (F:=fun n' j (z:aZ×Int)=>cU.Eu N (cU.l5 N n) n' z.1 z.2 (i:Int) (k:Int) v j) (fun j z=>i≤j∧z.1.length=l.length∧L5 64 z.1∧aB z.2) (fun n' j z hj hz dg=> ?_) (fun n' z hz=> ?_) k N i s (by omega) (by omega) (by omega) ⟨ayJ i,MU,Nc,hs3⟩
   all_goals unfold cU.Eu cU.BV
   ·obtain⟨oY,zC,KA,hz3⟩:=hz
    dsimp only
    rw[ak (x:=(j:Int)+1) (by omega) (by omega),ae j,ak (x:=(j:Int)-i) (by omega) (by omega)]
    exact aw (fun _=>ay ⟨by omega,by omega⟩ (ay ⟨by omega,by omega⟩ (ay ⟨by omega,by omega⟩ (dg (_,_) ⟨by omega,by dsimp only;rw[List.length_set];exact zC,G.set KA (G5q (G.at KA _) (p6 e2 _)) _,eo _⟩)))) fun _=>by omega
   ·exact aw (fun _=>by omega) fun _=>hr k z hk Am hz.2
  refine iY (len:=l.length) (F:=fun n' k w=>cU.l8 N (cU.l5 N n) n' s.1 s.2 (i:Int) k w) (fun k w=>i≤k∧w.length=k-i∧FH w) (fun n' k w hk hw dg=> ?_) (fun n' w hw=> ?_) l.length N i [] (by omega) (by omega) (by omega) ⟨ayJ i,by rw[ayW];omega,fun x hx=>nomatch hx⟩
  all_goals unfold cU.l8 cU.zL
  ·obtain⟨hik,hwl,LR⟩:=hw
   rw[ak (x:=(k:Int)+1) (by omega) (by omega),ae k]
   refine aw (fun _=>ay ⟨by omega,by omega⟩ (ay ⟨by omega,by omega⟩ (ok_eq (fun _=>ay ⟨by omega,by omega⟩ (aH (by rw[ayA];omega) (dg _ ⟨by omega,by rw[ayH,ayA];omega,fun x hx=> ?_⟩))) fun gq=> ?_))) fun _=>by omega
   ·rcases ayU.1 hx with hx|hx
    ·exact LR x hx
    ·rw[ay0.1 hx];exact(G.at Nc _).2.2.2.1
   ·refine fin k w ?_ (by omega) hwl LR
    by_cases e:k=i
    ·subst e;exact absurd rfl gq
    ·omega
  ·exact aw (fun _=>by omega) fun _=>fin l.length w hi (ayJ _) hw.2.1 hw.2.2
 ·exact aw (fun _=>by omega) fun _=>ah ⟨hI.2.1,hI.2.2⟩
abbrev R0:dd:=((0:Int),((0:Int),(([]:aZ),((0:Int),()))))
theorem PZ(N:Nat)(hN:5000000≤N){c:aa}{b:ag}{d g:av}{a:Int}{m:Nat}(h2:200≤m)(hm:m≤40000)(hc:G m aq c)(hb:G m aC b)(hd:L2 m d)(hg:L2 m g)(ha:aB a):Ok (fun r=>G m aC r.1∧G m ep r.2.1) (iq N c b a d g):=by
 have eZ: ∀e:Int,Ok (fun r:ag×dd×Int=>G m aC r.1∧G m ep r.2.1) (some ((bE,(cg,(aX,(aX,(cC,(cK,())))))),(R0,e))):=fun e=>ah ⟨G.fD,G.zero m ep⟩
 unfold iq iq.b
 refine af (Td N hN (by omega) hc hb hd hg ha) fun l hl=>ok_eq (fun _=>eZ _) fun _=>ok_eq (fun _=>eZ _) fun _=>af (PW N hN c (by omega) hb) fun q hq=>bZ (fun _=>eZ _) fun _=>bZ (fun _=>eZ _) fun _=>af (Mn N hN hl hq) fun z ⟨zC,KA⟩=>bZ (fun _=>eZ _) fun _=> ?_
 have hzl:=zC.1
 have hj: ∀(p:bx) (r:dd) (t:aZ) (x k n:Int),gE 1000 p→G m ep r→L5 64 t→aB x→Ok (fun r=>G m aC r.1∧G m ep r.2.1) (iq.j26 N b (bE,(cg,(aX,(aX,(cC,(cK,())))))) R0 p r t x k n):=fun p r t x k n hp hr ht hx=>by
  have Ap:=hp.1
  unfold iq.j26 iq.adE
  exact af (bc N (by omega) hx) fun v hv=>af (py N (by omega) _ _ _ _ (Bg.mono hv (by omega))) fun u hu=>aH (by have:=hu.1;omega) (af (pv N (by omega) h2 (by omega) hb G.nil (gE.mono (gE.app hp hu) (by omega))) fun w hw=>bZ (fun _=>eZ _) fun _=>ah ⟨hw,hr.1,hr.2.1,G.mono (by omega) ht,hr.2.2.2⟩)
 refine bw (len:=z.1.length) (F:=fun n i (s:bx×dd×aZ)=>iq.Gw N n a c b (bE,(cg,(aX,(aX,(cC,(cK,())))))) R0 z.1 z.2.1 s.1 s.2.1 s.2.2 i) (s:=(_,(_,_))) (fun i s=>gE (2*i) s.1∧G m ep s.2.1∧L5 i s.2.2) ⟨gE.nil,⟨ha,hq,G.nil,KA,trivial⟩,G.nil⟩ (by omega) (fun n i s hi hI hr=> ?_) (fun n s hI=> ?_)
 all_goals unfold iq.Gw iq.Fv
 ·obtain⟨h4,h5,h6⟩:=hI
  have hp:=h4.1
  have ht:=h6.1
  have hx:G 0 oE (z.1.getD (i:Int).toNat dX):=G.at zC _
  rw[ak (x:=(i:Int)+1) (by omega) (by omega),ae i]
  exact aw (fun _=>ay ⟨by omega,by omega⟩ (aw (fun _=>ay ⟨by omega,by omega⟩ (aH (by rw[ayA];omega) (ay ⟨by omega,by omega⟩ (ay ⟨by omega,by omega⟩ (ay ⟨by omega,by omega⟩ (af (bc N (by omega) hx.2.2.2.2.1) fun v hv=>af (py N (by omega) _ _ _ _ (Bg.mono hv (by omega))) fun u hu=>aH (by have:=hu.1;omega) (hr (_,(_,_)) ⟨gE.mono (gE.app h4 hu) (by omega),⟨h5.1,h5.2.1,G.nil,h5.2.2.2⟩,G.cat h6 (G.one hx (ayJ 1))⟩))))))) fun _=>hr s ⟨gE.mono h4 (by omega),h5,G.mono (by omega) h6⟩)) fun _=>by omega
 ·obtain⟨h4,h5,h6⟩:=hI
  have hp:=h4.1
  dsimp only
  exact aw (fun _=>by omega) fun _=>af (bc N (by omega) KA) fun v hv=>af (py N (by omega) _ _ _ _ (Bg.mono hv (by omega))) fun u hu=>aH (by have:=hu.1;omega) (af (Mm N hN c (by omega) hb) fun x hx=>af (BY N (by omega) (by omega) hb.2.1 _) fun h hh=>bZ (fun _=>hj _ _ _ _ _ _ (gE.mono (gE.app h4 hu) (by omega)) h5 (G.mono (by omega) h6) hx) fun _=>hj _ _ _ _ _ _ (gE.mono (gE.app h4 hu) (by omega)) h5 (G.mono (by omega) h6) hx)
end VM
end
section
namespace VM
open Go VM.F
theorem P0(N:Nat)(hN:5000000≤N){t:Int}{w:List Int}(ht:t<9223372036854775808)(hw:FH w)(hl:w.length≤1000000):Ok (fun r=>r.2.2=0→r.1.length=w.length∧FH r.1) (dm N t w w):=by
 refine mA (LS N hN ht hw hw hl) fun h0=> ?_
 have f:=LV ht hw h0
 have c:=f.c
 have hl2:=c.l2
 refine⟨hl2,fun x hx=> ?_⟩
 obtain⟨i,hi,e⟩:=azG hx
 have h1:=c.le i (by omega)
 have h2:=(c.pc i).2
 have h3:=c.po i
 rw[ayC (l:=(ra t w w).1),ayG hi,az9,e]at h1 h3
 exact⟨by omega,by omega⟩
theorem Wu(N:Nat)(hN:5000000≤N)(c:aa){b:ag}{m:Nat}(hm:m≤40000)(hb:G m aC b){a:Int}(ha:aB a):Ok (fun r=>L3 (m+1) r.1) (rl N c b a):=by
 have w:=(G.wf (by omega) hb).w
 have hl:=hb.2.2.2.1.1
 unfold rl rl.b
 refine cA (eb N hN (by omega) hb) (bN (fun _=>ah G.nil) fun _=>aw (fun _=>ah G.nil) fun _=>dE (fun _=>ah G.nil) fun _=>cA (zQ N w.s (by omega) 0 a) (ok_eq (fun _=>ah G.nil) fun _=> ?_))
 have hq:=FE w.qs 0 a
 generalize mR b.2.2.2.1 0 a=q at*
 refine bw (len:=b.2.2.2.1.length) (F:=fun n i (s:List Int×List Int)=>rl.zR N n a b q s.1 s.2 i) (s:=(_,_)) (fun i s=>s.1.length≤i∧s.2.length=s.1.length∧FH s.1∧FH s.2) ⟨azn _,rfl,(fun x hx=>nomatch hx),fun x hx=>nomatch hx⟩ (by omega) (fun n i s hi hI hr=> ?_) (fun n s hI=> ?_)
 all_goals unfold rl.zR rl.xm
 ·obtain⟨h1,h2,h3,h4⟩:=hI
  have hx:G 0 fH (b.2.2.2.1.getD (i:Int).toNat aM):=G.at hb.2.2.2.1 _
  rw[ak (x:=(i:Int)+1) (by omega) (by omega),ae i]
  have h0:=hr s ⟨by omega,h2,h3,h4⟩
  have sn: ∀{l:List Int} {x:Int},FH l→aB x→FH (l++[x]):=fun hl hx y hy=>(ayU.1 hy).elim (hl y) fun hy=>by rw[ay0.1 hy];exact hx
  dsimp only
  exact aw (fun _=>ay ⟨by omega,by omega⟩ (bZ (fun _=>ok_eq (fun _=>rj (fun _=>aH (by rw[List.length_singleton];omega) (aH (by rw[List.length_singleton];omega) (hr (_,_) ⟨by dsimp only;rw[List.length_append,List.length_singleton];omega,by dsimp only;rw[List.length_append,List.length_append,List.length_singleton,List.length_singleton];omega,sn h3 hx.1,sn h4 (xx hx.2.2.1 (eo _))⟩))) fun _=>h0) fun _=>h0) fun _=>h0)) fun _=>by omega
 ·obtain⟨h1,h2,h3,h4⟩:=hI
  refine aw (fun _=>by omega) fun _=>af (P0 N hN (xx hq (eo _)).2 h4 (by omega)) fun z hz=>bZ (fun _=>ah G.nil) fun h0=> ?_
  obtain⟨e1,e2⟩:=hz h0
  refine bw (len:=z.1.length) (F:=fun n i u=>rl.l21 N n a q s.1 z.1 u i) (fun i u=>L3 (1+i) u) (G.one (m:=1) (G3 aW ha (eo _)) (ayJ 1)) (by omega) (fun n i u hi hu hr=> ?_) (fun n u hu=> ?_)
  all_goals unfold rl.l21 rl.adG
  ·have hul:=hu.1
   rw[ak (x:=(i:Int)+1) (by omega) (by omega),ae i]
   have h0:=hr u (G.mono (by omega) hu)
   have put: ∀x:Int,aB x→Ok (fun r=>L3 (m+1) r.1) (cond (small (u.length+[((s.1.getD (i:Int).toNat 0,(a,(x,()))):bY)].length)) (rl.l21 N n a q s.1 z.1 (u++[(s.1.getD (i:Int).toNat 0,(a,(x,())))]) ((i+1:Nat):Int)) none):=fun x hx=>aH (by rw[ayA];omega) (hr _ (G.mono (by omega) (G.cat hu (G.one (m:=1) (G3 (p6 h3 _) ha hx) (ayJ 1)))))
   dsimp only
   exact aw (fun _=>ay ⟨by omega,by omega⟩ (aw (fun _=>bZ (fun _=>ay ⟨by omega,by omega⟩ (put _ (eo _))) fun _=>h0) fun _=>bZ (fun _=>ay ⟨by omega,by omega⟩ (put _ (p6 e2 _))) fun _=>h0)) fun _=>by omega
  ·exact aw (fun _=>by omega) fun _=>ah (G.mono (by omega) hu)
theorem Wv(N:Nat)(hN:5000000≤N){c:aa}{b:ag}{m:Nat}(h2:200≤m)(hm:m≤7000)(hc:G 5 aq c)(hb:G m aC b):Ok (fun r=>G m aC r.1) (BZ N c b):=by
 have ES:=hc.1.1
 unfold BZ BZ.b
 refine cA (eb N hN (by omega) hb) (bN (fun _=>ah G.fD) fun _=>bw (len:=c.1.length) (F:=fun n i s=>BZ.l5 N n c b (bE,(cg,(aX,(aX,(cC,(cK,())))))) s i) (fun i s=>L3 ((m+1)*i) s) G.nil (by omega) (fun n i s hi hI hr=> ?_) (fun n s hI=> ?_))
 all_goals unfold BZ.l5 BZ.c7
 ·have hs:=hI.1
  have hmi:(m+1)*i≤(m+1)*5:=aAg _ (by omega)
  rw[ak (x:=(i:Int)+1) (by omega) (by omega),ae i]
  exact aw (fun _=>af (Wu N hN c (by omega) hb (gm (by omega) (by omega))) fun r T2=>bZ (fun _=>ah G.fD) fun _=>aH (by have:=T2.1;omega) (hr _ (G.mono (by rw[aBY];omega) (G.cat hI T2)))) fun _=>by omega
 ·have hmi:(m+1)*c.1.length≤(m+1)*5:=aAg _ (by omega)
  exact aw (fun _=>by omega) fun _=>af (pv N (by omega) h2 (by omega) hb (G.mono (by omega) hI) gE.nil) fun r hr=>ah hr
end VM
end
section
namespace VM
open Go VM.F
theorem Ww(N:Nat)(hN:200000≤N){l:aD}{m:Nat}(hm:m≤50000)(h:G m (.slice c9) l)(a:Int):Ok (fun r=>G 0 c9 r.1) (B0 N l a):=by
 have hl:=h.1
 have hz:G 0 c9 aJ:=G.zero 0 c9
 unfold B0 B0.b
 refine cA (sI N (by omega) hN) (bN (fun _=>ah hz) fun _=>bw (len:=l.length) (F:=fun n i (z:bp×Bool)=>B0.l6 N n l a aJ z.1 z.2 i) (s:=(_,_)) (fun _ z=>G 0 c9 z.1) hz (by omega) (fun n i z hi hI hr=> ?_) (fun n z hI=> ?_))
 all_goals unfold B0.l6 B0.pE
 ·rw[ak (x:=(i:Int)+1) (by omega) (by omega),ae i]
  have hx:G 0 c9 (l.getD (i:Int).toNat aJ):=G.at h _
  have h1:=hr z hI
  have h2:=hr (_,true) hx
  repeat' first|exact h1|exact h2|refine ay ⟨by omega,by omega⟩ ?_|refine aw (fun _=> ?_) (fun _=> ?_)|refine ok_eq (fun _=> ?_) (fun _=> ?_)|refine bN (fun _=> ?_) (fun _=> ?_)|(exfalso;omega)
 ·exact aw (fun _=>by omega) fun _=>ah hI
theorem GL{m:Nat}{a b d e f:Int}{l:av}(ha:aB a)(hl:L2 m l)(hb:aB b)(hd:aB d)(he:aB e)(hf:aB f):G m gF (a,(l,(b,(d,(e,(f,())))))):=⟨ha,hl,hb,hd,he,hf,trivial⟩
theorem LL.app{m:Nat}{k:Nat}{l:ba}{x:gB}(hl:l.length≤k∧ ∀y∈l,G m gF y)(hx:G m gF x):(l++[x]).length≤k+1∧ ∀y∈l++[x],G m gF y:=
 ⟨by rw[ayH,ayA];have:=hl.1;omega,fun y hy=>(ayU.1 hy).elim (hl.2 y) fun hy=>by rw[ay0.1 hy];exact hx⟩
theorem Te(N:Nat)(hN:5000000≤N)(c:aa){b:ag}{L:ba}{l:aD}{m:Nat}(h2:200≤m)(hm:m≤2000)(hb:G m aC b)(hL:LL m L)(hl:G m (.slice c9) l):Ok (fun r=>G m aC r.1∧LL m r.2.1) (pI N c b L l):=by
 have eZ: ∀e:Int,Ok (fun r:ag×ba×Int=>G m aC r.1∧LL m r.2.1) (some ((bE,(cg,(aX,(aX,(cC,(cK,())))))),([],e))):=fun e=>ah ⟨G.fD,G.nil⟩
 have h3:=hL.1
 have h4:=hl.1
 have hw:Ic L:=fun y hy=>azl (hL.2 y hy).2.1.1 (by omega)
 unfold pI pI.b
 refine cA (eb N hN (by omega) hb) (bN (fun _=>eZ _) fun _=>cA (Bb N (by omega) c (by omega) hw) (bN (fun _=>eZ _) fun hk=>cA (sI N (by omega) (by omega)) (bN (fun _=>eZ _) fun _=> ?_)))
 have h12:L.length≤12:=by
  unfold Lw at hk
  exact ayV (azf.1 (azf.1 hk).2).1
 refine bw (len:=L.length) (F:=fun n i (z:aj×bx×ba)=>pI.l7 N n L l b (bE,(cg,(aX,(aX,(cC,(cK,())))))) z.1 z.2.1 z.2.2 i) (s:=(_,(_,_))) (fun i z=>L3 (2*m*i) z.1∧gE (2*i) z.2.1∧z.2.2.length≤i∧ ∀y∈z.2.2,G m gF y) ⟨G.nil,gE.nil,azn _,fun y hy=>nomatch hy⟩ (by omega) (fun n i z hi hI hr=> ?_) (fun n z hI=> ?_)
 all_goals unfold pI.l7 pI.mE
 ·obtain⟨h5,h6,h7⟩:=hI
  have h8:=h6.1
  have h9:=h7.1
  have hmi:2*m*i≤2*m*12:=aAg _ (by omega)
  have hms:2*m*(i+1)=2*m*i+2*m:=aBY _ _
  have hx:G m gF (L.getD (i:Int).toNat ((0:Int),(bE,aJ))):=G.at hL _
  have hxl:=hx.2.1.1
  rw[ak (x:=(i:Int)+1) (by omega) (by omega),ae i]
  dsimp only
  rw[ay8]
  have put: ∀x:gB,G m gF x→Ok (fun r=>G m aC r.1∧LL m r.2.1) (cond (small (z.2.2.length+[x].length)) (pI.l7 N n L l b (bE,(cg,(aX,(aX,(cC,(cK,())))))) z.1 z.2.1 (z.2.2++[x]) ((i+1:Nat):Int)) none):=fun x hx=>aH (by rw[ayA];omega) (hr (z.1,(z.2.1,z.2.2++[x])) ⟨G.mono (by omega) h5,gE.mono h6 (by omega),LL.app h7 hx⟩)
  refine aw (fun _=>ay ⟨by omega,by omega⟩ (aH (by rw[ayW];omega) (bZ (fun _=>put _ hx) fun _=>af (Ww N (by omega) (by omega) hl _) fun w hw=>bN (fun _=>put _ (GL hx.1 hx.2.1 hx.2.2.1 (show aB 3 from a7) hx.2.2.2.2.1 hx.2.2.2.2.2.1)) fun _=>af (BY N (by omega) (by omega) hb.2.1 _) fun h hh=>ok_eq (fun _=>eZ _) fun _=>af (tw N (by omega) (by omega) hb _) fun _ _=>ok_eq (fun _=>eZ _) fun _=> ?_))) fun _=>by omega
  have pX:=GL hx.1 hx.2.1 hx.2.2.1 (show aB 2 from a7) hw.2.2.1 hw.2.2.2.1
  generalize hX:(((L.getD (i:Int).toNat ((0:Int),(bE,aJ))).1,((L.getD (i:Int).toNat ((0:Int),(bE,aJ))).2.1,((L.getD (i:Int).toNat ((0:Int),(bE,aJ))).2.2.1,((2:Int),(w.1.2.2.1,(w.1.2.2.2.1,())))))):gB)=X at pX
  have hXl:X.2.1.length≤m:=pX.2.1.1
  refine bw (len:=X.2.1.length) (F:=fun n' j u=>pI.tL N (pI.l7 N n) n' L l b (bE,(cg,(aX,(aX,(cC,(cK,())))))) u z.2.1 z.2.2 (i:Int) X w.1 h j) (s:=z.1) (fun j u=>L3 (2*m*i+2*j) u) h5 (by omega) (fun n' j u hj hu dg=> ?_) (fun n' u hu=> ?_)
  all_goals unfold pI.tL pI.sD
  ·have hul:=hu.1
   have hy:G m gG (X.2.1.getD (j:Int).toNat bL):=G.at pX.2.1 _
   dsimp only
   rw[ak (x:=(j:Int)+1) (by omega) (by omega),ae j]
   exact aw (fun _=>ay ⟨by omega,by omega⟩ (ay ⟨by omega,by omega⟩ (ay ⟨by omega,by omega⟩ (ay ⟨by omega,by omega⟩ (aH (by rw[tv];omega) (dg _ (G.mono (by omega) (G.cat hu (G.two (m:=2) (G3 aW hy.1 (eo _)) (G3 hh hy.1 hy.2.1) (ayJ 2)))))))))) fun _=>by omega
  ·refine aw (fun _=>by omega) fun _=>af (bc N (by omega) hw.2.2.2.1) fun v hv=>af (py N (by omega) _ _ _ _ (Bg.mono hv (by omega))) fun p hp=>aH (by have:=hp.1;omega) (aH (by rw[ayA];omega) ?_)
   rw[ak (x:=(i:Int)+1) (by omega) (by omega),ae i]
   exact hr (_,(_,_)) ⟨G.mono (by omega) hu,gE.mono (gE.app h6 hp) (by omega),LL.app h7 pX⟩
 ·obtain⟨h5,h6,h7⟩:=hI
  have hmi:2*m*L.length≤2*m*12:=aAg _ (by omega)
  exact aw (fun _=>by omega) fun _=>af (pv N (by omega) h2 (by omega) hb (G.mono (by omega) h5) (gE.mono h6 (by omega))) fun r hr=>bZ (fun _=>eZ _) fun _=>ah ⟨hr,azl h7.1 (by omega),h7.2⟩
end VM
end
section
namespace VM
open Go VM.F
theorem Tf{l:aD}(h:kf l=true):l.length≤24:=by
 unfold kf at h
 rw[azW]at h
 have h:=ayV h
 have key: ∀i,i<l.length→(i:Int)+1≤(l.getD i aJ).1:=by
  intro i
  induction i with
  |zero=>intro hi;exact(h 0 hi).1.1.1
  |succ i ih=>
   intro hi
   have h1:=ih (by omega)
   have h2:(l.getD i aJ).1<(l.getD (i+1) aJ).1:=(h (i+1) hi).2.1 (by omega)
   have g: ∀a b:Int,(i:Int)+1≤a→a<b→((i+1:Nat):Int)+1≤b:=fun a b h1 h2=>by omega
   exact g _ _ h1 h2
 by_cases hl:l.length≤24
 ·exact hl
 ·have h1:=key 24 (by omega)
  have h2:=(h 24 (by omega)).1.1.2
  have g: ∀a:Int,((24:Nat):Int)+1≤a→a≤24→False:=fun a h1 h2=>by omega
  exact(g _ h1 h2).elim
theorem P1(N:Nat)(hN:5000000≤N){c:aa}{b:ag}{m:Nat}(hm:m≤40000)(hc:G m aq c)(hb:G m aC b)(a:Int):Ok (fun r=>aB r.1) (Wx N c b a):=by
 unfold Wx S8
 exact cA (eb N hN (by omega) hb) (bN (fun _=>ah aW) fun _=>af (tu N (by omega) (by omega) hb.2.1 _) fun _ _=>bN (fun _=>ah aW) fun _=>af (IM N (by omega) (by omega) hb.2.2.2.1 _) fun l hl=>af (Q:=fun r=>Bg 60000 r.1) (af (xy N (by omega) (by omega) hc hl _) fun r hr=>ah hr) fun u hu=>af (tx N (by omega) (by omega) hb _) fun g hg=>dE (fun _=>ah aW) fun _=>af (uY N hu) fun v hv=>rj (fun _=>aw (fun _=>ah hv) fun _=>ah hg) fun _=>ah hg)
theorem Tg(N:Nat)(hN:200000≤N){l:aj}{a d:Int}{m:Nat}(hm:m≤50000)(h:L3 m l)(ha:aB a)(hd:aB d):Ok (fun r=>L3 (2*m) r) (nv N l a d):=by
 have hl:=h.1
 unfold nv nv.b
 refine cA (nG N (by omega) hN) (bN (fun _=>ah G.nil) fun _=>ok_eq (fun _=>ah G.nil) fun _=>aw (fun _=>ah G.nil) fun _=>aw (fun _=>ah G.nil) fun _=>aw (fun _=>ah G.nil) fun _=>aw (fun _=>ah G.nil) fun _=>bw (len:=l.length) (F:=fun n i s=>nv.l5 N n l a d s i) (fun i s=>L3 (2*i) s) G.nil (by omega) (fun n i s hi hI hr=> ?_) (fun n s hI=> ?_))
 all_goals unfold nv.l5 nv.c7
 ·have hs:=hI.1
  have hx:=G.at h (i:Int).toNat
  dsimp only
  rw[ak (x:=(i:Int)+1) (by omega) (by omega),ae i]
  have h1:=hr s (G.mono (by omega) hI)
  exact aw (fun _=>ay ⟨by omega,by omega⟩ (ok_eq (fun _=>ay ⟨by omega,by omega⟩ (ay ⟨by omega,by omega⟩ (ay ⟨by omega,by omega⟩ (ay ⟨by omega,by omega⟩ (aH (by rw[tv];omega) (hr _ (G.mono (by omega) (G.cat hI (G.two (m:=2) (G3 ha hx.2.1 (eo _)) (G3 hd hx.2.1 hx.2.2.1) (ayJ 2)))))))))) fun _=>h1)) fun _=>by omega
 ·exact aw (fun _=>by omega) fun _=>ah (G.mono (by omega) hI)
theorem Wy(N:Nat)(hN:5000000≤N){c:aa}{b:ag}{m:Nat}(h2:200≤m)(hm:m≤1000)(hc:G m aq c)(hb:G m aC b)(a:Int):Ok (fun r=>G m aC r.1) (gd N c b a):=by
 unfold gd gd.b
 refine cA (eb N hN (by omega) hb) (bN (fun _=>ah G.fD) fun hB=>af (tw N (by omega) (by omega) hb _) fun _ _=>ok_eq (fun _=>ah G.fD) fun _=> ?_)
 have hal:b.2.1.length≤24:=by
  unfold bW at hB
  have h1:=(azf.1 (azf.1 hB).2).1
  unfold sB at h1
  exact Tf (azf.1 (azf.1 h1).2).1
 refine bw (len:=b.2.1.length) (F:=fun n i (z:aj×bx)=>gd.l8 N n a c b (bE,(cg,(aX,(aX,(cC,(cK,())))))) z.1 z.2 i) (s:=(_,_)) (fun i z=>L3 (2*m*i) z.1∧gE (4*i) z.2) ⟨G.nil,gE.nil⟩ (by omega) (fun n i z hi hI hr=> ?_) (fun n z hI=> ?_)
 all_goals unfold gd.l8 gd.zL
 ·obtain⟨h5,h6⟩:=hI
  have h7:=h5.1
  have h8:=h6.1
  have hmi:2*m*i≤2*m*24:=aAg _ (by omega)
  have hms:2*m*(i+1)=2*m*i+2*m:=aBY _ _
  have hx:G m c9 (b.2.1.getD (i:Int).toNat aJ):=G.at hb.2.1 _
  have hj: ∀p:bx,gE (4*i+2) p→Ok (fun r=>G m aC r.1) (gd.wT N (gd.l8 N n) a c b (bE,(cg,(aX,(aX,(cC,(cK,())))))) z.1 p (i:Int) (b.2.1.getD (i:Int).toNat aJ)):=fun p hp=>by
   have Ap:=hp.1
   unfold gd.wT gd.qg
   rw[ak (x:=(i:Int)+1) (by omega) (by omega),ae i]
   exact af (tx N (by omega) (by omega) hb _) fun g hg=>aw (fun _=>af (bc N (by omega) hg) fun v hv=>af (qj N (by omega) (by omega) hv) fun v hv=>af (py N (by omega) _ _ _ _ (Bg.mono hv (by omega))) fun u hu=>aH (by have:=hu.1;omega) (af (Tg N (by omega) (by omega) hb.2.2.2.1 hx.1 aW) fun s hs=>aH (by have:=hs.1;omega) (hr (_,_) ⟨G.mono (by omega) (G.cat h5 hs),gE.mono (gE.app hp hu) (by omega)⟩))) fun _=>af (Tg N (by omega) (by omega) hb.2.2.2.1 hx.1 aW) fun s hs=>aH (by have:=hs.1;omega) (hr (_,_) ⟨G.mono (by omega) (G.cat h5 hs),gE.mono hp (by omega)⟩)
  rw[ak (x:=(i:Int)+1) (by omega) (by omega),ae i]
  exact aw (fun _=>ay ⟨by omega,by omega⟩ (bZ (fun _=>hr z ⟨G.mono (by omega) h5,gE.mono h6 (by omega)⟩) fun _=>ok_eq (fun _=>af (P1 N hN (by omega) hc hb _) fun q hq=>af (bc N (by omega) hq) fun v hv=>af (py N (by omega) _ _ _ _ (Bg.mono hv (by omega))) fun u hu=>aH (by have:=hu.1;omega) (hj _ (gE.mono (gE.app h6 hu) (by omega)))) fun _=>hj _ (gE.mono h6 (by omega)))) fun _=>by omega
 ·obtain⟨h5,h6⟩:=hI
  have hmi:2*m*b.2.1.length≤2*m*24:=aAg _ (by omega)
  exact aw (fun _=>by omega) fun _=>af (pv N (by omega) h2 (by omega) hb (G.mono (by omega) h5) (gE.mono h6 (by omega))) fun r hr=>ah hr
abbrev GS(m:Nat)(s:aR):Prop:=G m cR s
abbrev SR(m:Nat)(r:aR×bY):Prop:=GS m r.1
theorem F8(N:Nat)(e:Int):Ok (fun _=>True) (et N e):=by
 unfold et;exact dF
theorem P2(N:Nat)(hN:5000000≤N){c:aa}{s:aR}{e:fU}{m:Nat}(h2:200≤m)(hm:m≤1000)(hc:G m aq c)(hs:GS m s)(he:G 0 nJ e):Ok (SR m) (ox N c s e):=by
 have hhl:=hs.2.2.2.1.2.2.2.2.1.1
 unfold ox ox.b
 generalize ((0:Int),((0:Int),_))=S0
 refine bw (len:=s.2.2.2.1.2.2.2.2.1.length) (F:=fun n i (z:aR×aD×Bool×Int)=>ox.l5 N n c z.1 e S0 aM z.2.1 z.2.2.1 z.2.2.2 i) (s:=(_,(_,(_,_)))) (fun i z=>GS m z.1∧z.1.2.2.2.1.2.2.2.2.1=s.2.2.2.1.2.2.2.2.1∧G i (.slice c9) z.2.1) ⟨hs,rfl,G.nil⟩ (by omega) (fun n i z hi hI hr=> ?_) (fun n z hI=> ?_)
 all_goals unfold ox.l5 ox.c7
 ·obtain⟨hz,hh,ho⟩:=hI
  have ub:=ho.1
  rw[hh,ak (x:=(i:Int)+1) (by omega) (by omega),ae i]
  have hx:G 0 c9 (s.2.2.2.1.2.2.2.2.1.getD (i:Int).toNat aJ):=G.at hs.2.2.2.1.2.2.2.2.1 _
  refine aw (fun _=>ay ⟨by omega,by omega⟩ (ok_eq (fun _=>af (V9 N hN h2 (by omega) hc hz.2.2.1 (G.mono (azn m) hx) he.2.2.1 he.2.2.2.2.2.2.1 he.2.2.2.2.2.2.2.1) fun r ⟨Fc,Gr⟩=>bZ (fun _=>af (F8 N _) fun _ _=>ah hz) fun _=> ?_) fun _=>aw (fun _=>aH (by rw[ayA];omega) (hr (z.1,(z.2.1++[s.2.2.2.1.2.2.2.2.1.getD (i:Int).toNat aJ],z.2.2)) ⟨hz,hh,G.cat ho (G.one hx (ayJ 1))⟩)) fun _=>hr z ⟨hz,hh,G.mono (by omega) ho⟩)) fun _=>by omega
  have Cp:GS m (z.1.1,(z.1.2.1,(r.1,z.1.2.2.2))):=⟨hz.1,hz.2.1,Fc,hz.2.2.2⟩
  have aoK:G 0 c9 r.2.1:=Gr
  exact aw (fun _=>aH (by rw[ayA];omega) (hr ((z.1.1,(z.1.2.1,(r.1,z.1.2.2.2))),(z.2.1++[r.2.1],(true,r.2.1.2.2.2.1))) ⟨Cp,hh,G.cat ho (G.one aoK (ayJ 1))⟩)) fun _=>hr ((z.1.1,(z.1.2.1,(r.1,z.1.2.2.2))),(z.2.1,(true,r.2.1.2.2.2.1))) ⟨Cp,hh,G.mono (by omega) ho⟩
 ·obtain⟨hz,hh,ho⟩:=hI
  rw[hh]
  exact aw (fun _=>by omega) fun _=>bN (fun _=>af (F8 N _) fun _ _=>ah hz) fun _=>ah ⟨hz.1,hz.2.1,hz.2.2.1,⟨hz.2.2.2.1.1,hz.2.2.2.1.2.1,hz.2.2.2.1.2.2.1,hz.2.2.2.1.2.2.2.1,G.mono hhl ho,hz.2.2.2.1.2.2.2.2.2⟩,hz.2.2.2.2⟩
end VM
end
section
namespace VM
open Go VM.F
theorem B1(N:Nat)(hN:4000000≤N){s:aR}{q:Int}(hs:aB s.1)(hq:aB q):Ok (fun r=>aB r.1) (P3 N s q):=by
 unfold P3
 exact af (bc N hN hs) fun a ha=>af (bc N hN hq) fun b hb=>af (ik N hN (by omega) ha hb) fun x hx=>af (uY N hx) fun v hv=>ah hv
theorem ck{α:Type}{P:α×bY→Prop}{N:Nat}{e:Int}{f:bY→Option (α×bY)}(h: ∀r,Ok P (f r)):Ok P ((et N e).bind f):=af (F8 N e) fun r _=>h r
theorem Th(N:Nat)(hN:5000000≤N){c:aa}{s:aR}{e:fU}{m:Nat}(h2:200≤m)(hm:m≤999)(hc:G 5 aq c)(hs:GS m s)(he:G 0 nJ e):Ok (SR (m+1)) (oy N c s e):=by
 have Of:G m aq c:=G.mono (by omega) hc
 have G4:GS (m+1) s:=G.mono (by omega) hs
 obtain⟨s1,s2,s3,⟨k1,k2,k3,k4,k5,k6,k7,k8,k9,Ti,Wz⟩,s5⟩:=G4
 have hk:=hs.2.2.2.1
 have i2:aB 2:=a7
 have i3:aB 3:=a7
 have up: ∀{τ:Ty} {x:τ.den},G m τ x→G (m+1) τ x:=fun h=>G.mono (by omega) h
 have bD: ∀r:bY,Ok (SR (m+1)) (some (s,r)):=fun r=>ah (up hs)
 unfold oy oy.b
 refine ok_eq (fun _=> ?_) fun _=>ok_eq (fun _=> ?_) fun _=>ok_eq (fun _=> ?_) fun _=>ok_eq (fun _=> ?_) fun _=>ok_eq (fun _=> ?_) fun _=>ok_eq (fun _=> ?_) fun _=>ok_eq (fun _=> ?_) fun _=>ok_eq (fun _=> ?_) fun _=>ck fun r=>bD r
 ·exact af (Wm N hN (by omega) Of hs.2.2.1 _ he.2.1 _) fun r hr=>ck fun _=>ah ⟨s1,s2,up hr,(up hs).2.2.2⟩
 ·exact af (Wy N hN h2 (by omega) Of hs.2.2.1 _) fun r hr=>ck fun _=>ah ⟨s1,s2,up hr,⟨k1,i2,aW,k4,k5,k6,k7,k8,k9,Ti,Wz⟩,s5⟩
 ·exact af (PG N hN c hc.2.2.2.2.2.2.1 (by omega) hs.2.2.1 _) fun r hr=>ah ⟨s1,eo _,s3,⟨k1,k2,k3,k4,G.mono (by omega) hr,k6,k7,k8,k9,Ti,Wz⟩,s5⟩
 ·exact af (P2 N hN h2 (by omega) Of hs he) fun r hr=>ah (up hr)
 ·exact ok_eq (fun _=>ck fun r=>bD r) fun _=>af (Wr N hN h2 (by omega) Of hs.2.2.1 hs.2.1) fun l hl=>bZ (fun _=>ck fun r=>bD r) fun _=>af (B1 N (by omega) hs.1 hc.2.2.2.2.1) fun t ht=>bN (fun _=>ck fun r=>bD r) fun _=>af (Wp N hN c (by omega) hs.2.2.1) fun u hu=>ah ⟨s1,eo _,s3,⟨k1,i3,ht,eo _,G.nil,up hl,G.nil,up hu,k9,Ti,Wz⟩,s5⟩
 ·have hx:G 0 c9 (s.2.1,(e.2.2.2.2.2.1,(e.2.1,(e.2.2.2.2.2.2.2.1,())))):=⟨hs.2.1,he.2.2.2.2.2.1,he.2.1,he.2.2.2.2.2.2.2.1,trivial⟩
  exact af (PT N hN (by omega) (by omega) Of hs.2.2.1 hk.2.2.2.2.2.1 hk.2.2.2.2.2.2.1 hx) fun r hr=>ah ⟨s1,eo _,s3,⟨k1,k2,k3,k4,k5,k6,hr,k8,k9,Ti,Wz⟩,s5⟩
 ·refine af (Te N hN c h2 (by omega) hs.2.2.1 hk.2.2.2.2.2.1 hk.2.2.2.2.2.2.1) fun r ⟨Fc,Gr⟩=>bZ (fun _=>ck fun r=>bD r) fun _=>af (Ta N (by omega) c h2 (by omega) hk.2.2.2.2.2.2.2.2.1 hk.2.2.2.2.2.2.2.1.1 Gr hk.2.2.2.2.2.2.1) fun d hd=> ?_
  generalize ((0:Int),((0:Int),_))=S0
  have Kr:=Gr.1
  refine bw (len:=r.2.1.length) (F:=fun n i q=>oy.l41 N n _ S0 aM r.2.1 q i) (fun _ _=>True) trivial (by omega) (fun n i q hi _ dg=> ?_) (fun n q _=> ?_)
  all_goals unfold oy.l41 oy.adH
  ·rw[ak (x:=(i:Int)+1) (by omega) (by omega),ae i]
   exact aw (fun _=>ay ⟨by omega,by omega⟩ (ok_eq (fun _=>dg _ trivial) fun _=>dg _ trivial)) fun _=>by omega
  ·exact aw (fun _=>by omega) fun _=>ah ⟨s1,s2,up Fc,⟨k1,i2,aW,k4,k5,up Gr,k7,k8,up hd,Ti,Wz⟩,s5⟩
 ·exact af (PZ N hN h2 (by omega) Of hs.2.2.1 hk.2.2.2.2.2.2.2.2.1 hk.2.2.2.2.2.2.2.2.2.1 hk.1) fun r ⟨Fc,Gr⟩=>bZ (fun _=>ck fun r=>bD r) fun _=>af (Wv N hN h2 (by omega) hc Fc) fun b hb=>bZ (fun _=>ck fun r=>bD r) fun _=>af (NR N (by omega) (by omega) hb.1 _ _) fun u hu=>ah ⟨s1,s2,⟨up hu,(up hb).2⟩,G.zero (m+1) mD,up Gr,trivial⟩
end VM
end
section
namespace VM
open Go VM.F
theorem Tj(N:Nat)(s:aR)(k:Int):Ok (fun _=>True) (WA N s k):=by
 unfold WA
 repeat' first|exact dF|refine ok_eq (fun _=> ?_) (fun _=> ?_)
theorem tA(N:Nat)(hN:200000≤N){s:aR}{m:Nat}(hm:m≤50000)(hs:GS m s)(k:Int):Ok (fun _=>True) (Ga N s k):=by
 unfold Ga
 exact af (nI N hN hm hs.2.2.1.1 _) fun _ _=>dF
theorem Tk(N:Nat)(hN:200000≤N){s:aR}{m:Nat}(hm:m≤50000)(hs:GS m s)(k:Int):Ok (fun _=>True) (Tl N s k):=by
 unfold Tl
 exact af (tu N hN hm hs.2.2.1.2.1 _) fun _ _=>dF
theorem WB(N:Nat)(hN:4000000≤N){s:aR}{m:Nat}(h2:200≤m)(hm:m≤50000)(hs:GS m s)(a b c d:Int){q:Int}(hq:aB q):Ok (SR m) (P4 N s a b c d q):=by
 unfold P4
 exact af (bc N hN hq) fun x hx=>af (py N hN _ _ _ _ (Bg.mono hx (by omega))) fun p hp=>af (pv N hN h2 hm hs.2.2.1 G.nil (gE.mono hp (by omega))) fun r hr=>ah ⟨hs.1,hs.2.1,hr,hs.2.2.2⟩
theorem Tm(N:Nat)(hN:5000000≤N){c:aa}{s:aR}{e:fU}{m:Nat}(h2:200≤m)(hm:m≤999)(hc:G 5 aq c)(hs:GS m s)(he:G 0 nJ e):Ok (SR (m+1)) (rm N c s e):=by
 obtain⟨s1,s2,s3,⟨k1,k2,k3,k4,k5,k6,k7,k8,k9,Ti,Wz⟩,s5⟩:=hs
 have hs:GS m s:=⟨s1,s2,s3,⟨k1,k2,k3,k4,k5,k6,k7,k8,k9,Ti,Wz⟩,s5⟩
 have up: ∀{x:aR},GS m x→ ∀r:bY,Ok (SR (m+1)) (some (x,r)):=fun h r=>ah (P:=SR (m+1)) (G.mono (aBd m) h)
 have i1:aB 1:=a7
 have us: ∀{τ:Ty} {x:τ.den},G m τ x→G (m+1) τ x:=fun h=>G.mono (by omega) h
 unfold rm rm.b
 have hj: ∀(S0:aR) (z:bY),Ok (SR (m+1)) (rm.S7 N c s e S0 z):=fun S0 z=>by
  unfold rm.S7 rm.Mj
  exact af (Tj N _ _) fun _ _=>bN (fun _=>ck fun r=>up hs r) fun _=>af (Th N hN h2 hm hc hs he) fun r hr=>ah hr
 have mem: ∀{x:av},G m (.slice gG) x→G m aC ((x,s.2.2.1.2):ag):=fun h=>⟨h,s3.2⟩
 have hd: ∀z:av×Int,G m (.slice gG) z.1→Ok (SR (m+1)) (cond (aA z.2 0) (cond (aA e.1 11) ((PN N c (z.1,s.2.2.1.2) e.2.1).bind fun r2=>cond (aA s.2.2.2.1.2.1 3) ((mV N s.2.2.2.1.2.2.2.2.2.2.1 e.2.1).bind fun r3=>(et N z.2).bind fun r4=>some ((s.1,(s.2.1,(r2.1,((s.2.2.2.1.1,(s.2.2.2.1.2.1,(s.2.2.2.1.2.2.1,(s.2.2.2.1.2.2.2.1,(s.2.2.2.1.2.2.2.2.1,(s.2.2.2.1.2.2.2.2.2.1,(r3,s.2.2.2.1.2.2.2.2.2.2.2))))))),s.2.2.2.2)))),r4)) ((et N z.2).bind fun r5=>some ((s.1,(s.2.1,(r2.1,s.2.2.2))),r5))) ((et N z.2).bind fun r6=>some ((s.1,(s.2.1,((z.1,s.2.2.1.2),s.2.2.2))),r6))) ((et N z.2).bind fun r7=>some ((s.1,(s.2.1,((z.1,s.2.2.1.2),s.2.2.2))),r7))):=fun z hz=>
  ok_eq (fun _=>ok_eq (fun _=>af (IW N hN c (by omega) (mem hz) _) fun b hb=>ok_eq (fun _=>af (IX N (by omega) (by omega) k7 _) fun l hl=>ck fun r=>ah ⟨s1,s2,us hb,⟨k1,k2,k3,k4,us k5,us k6,us hl,us k8,us k9,us Ti,trivial⟩,us s5⟩) fun _=>ck fun r=>ah ⟨s1,s2,us hb,(us hs).2.2.2⟩) fun _=>ck fun r=>ah ⟨s1,s2,us (mem hz),(us hs).2.2.2⟩) fun _=>ck fun r=>ah ⟨s1,s2,us (mem hz),(us hs).2.2.2⟩
 have N6:=fun k:Int=>NR N (by omega) (m:=m) (by omega) s3.1 e.2.1 k
 refine ok_eq (fun _=>af (N6 _) fun z hz=>hd z hz) fun _=>ok_eq (fun _=>af (N6 _) fun z hz=>hd z hz) fun _=>ok_eq (fun _=> ?_) fun _=>ok_eq (fun _=> ?_) fun _=>hj _ _
 ·exact af (tA N (by omega) (by omega) hs _) fun _ _=>ok_eq (fun _=>ck fun r=>up hs r) fun _=>bZ (fun _=>ck fun r=>up hs r) fun _=>af (N6 _) fun z hz=>bZ (fun _=>ck fun r=>ah ⟨s1,s2,us (mem hz),(us hs).2.2.2⟩) fun _=>af (B1 N (by omega) s1 hc.2.2.2.1) fun t ht=>bN (fun _=>ck fun r=>ah ⟨s1,s2,us (mem hz),(us hs).2.2.2⟩) fun _=>ah ⟨s1,s2,us (mem hz),⟨he.2.1,i1,ht,aW,G.nil,G.nil,G.nil,G.nil,G.nil,G.nil,trivial⟩,us s5⟩
 ·exact af (tA N (by omega) (by omega) hs _) fun _ _=>ok_eq (fun _=>ck fun r=>up hs r) fun _=>af (tA N (by omega) (by omega) hs _) fun _ _=>bZ (fun _=>ck fun r=>up hs r) fun _=>hj _ _
theorem WC(N:Nat)(hN:5000000≤N){c:aa}{s:aR}{e:fU}{m:Nat}(h2:200≤m)(hm:m≤999)(hc:G 5 aq c)(hs:GS m s)(he:G 0 nJ e):Ok (SR (m+1)) (WD N c s e):=by
 have Of:G m aq c:=G.mono (by omega) hc
 obtain⟨s1,s2,s3,⟨k1,k2,k3,k4,k5,k6,k7,k8,k9,Ti,Wz⟩,s5⟩:=hs
 have hs:GS m s:=⟨s1,s2,s3,⟨k1,k2,k3,k4,k5,k6,k7,k8,k9,Ti,Wz⟩,s5⟩
 have us: ∀{τ:Ty} {x:τ.den},G m τ x→G (m+1) τ x:=fun h=>G.mono (by omega) h
 have G4:=us hs
 have up: ∀{x:aR},GS m x→ ∀r:bY,Ok (SR (m+1)) (some (x,r)):=fun h r=>ah (P:=SR (m+1)) (G.mono (aBd m) h)
 have st:=fun k:Int=>tA N (by omega) (m:=m) (by omega) hs k
 have hp:=fun a b c d=>WB N (by omega) h2 (by omega) hs a b c d he.2.2.2.2.2.2.1
 have q64:=he.2.2.2.2.2.2.1
 unfold WD
 refine ok_eq (fun _=> ?_) fun _=>ok_eq (fun _=> ?_) fun _=>ok_eq (fun _=> ?_) fun _=>ok_eq (fun _=> ?_) fun _=>ok_eq (fun _=> ?_) fun _=>ok_eq (fun _=> ?_) fun _=>ok_eq (fun _=> ?_) fun _=>ok_eq (fun _=> ?_) fun _=>ok_eq (fun _=> ?_) fun _=>ok_eq (fun _=> ?_) fun _=>ok_eq (fun _=> ?_) fun _=>af (Tm N hN h2 hm hc hs he) fun r hr=>ah hr
 ·exact af (SS N (by omega) (by omega) s3.1 he.2.1) fun r hr=>ck fun _=>ah ⟨s1,s2,⟨hr,G4.2.2.1.2⟩,G4.2.2.2⟩
 ·have hx:G 0 c9 (e.2.2.1,(e.2.1,(e.2.2.2.2.1,((0:Int),())))):=⟨he.2.2.1,he.2.1,he.2.2.2.2.1,aW,trivial⟩
  exact af (Wf N (by omega) (by omega) s3.1 s3.2.1 hx) fun r hr=>ck fun _=>ah ⟨s1,s2,⟨G4.2.2.1.1,hr,G4.2.2.1.2.2⟩,G4.2.2.2⟩
 ·exact af (Tk N (by omega) (by omega) hs _) fun _ _=>bN (fun _=>ck fun r=>up hs r) fun _=>af (hp _ _ _ _) fun r hr=>ah (us hr)
 ·exact af (IZ N hN h2 (by omega) Of s3 _ q64) fun r hr=>ck fun z=>ah ⟨s1,s2,us hr,(us hs).2.2.2⟩
 ·exact af (st _) fun _ _=>ok_eq (fun _=>ck fun r=>up hs r) fun _=>af (st _) fun _ _=>bZ (fun _=>ck fun r=>up hs r) fun _=>af (hp _ _ _ _) fun r hr=>ah (us hr)
 ·exact af (st _) fun _ _=>ok_eq (fun _=>ck fun r=>up hs r) fun _=>af (oc N (by omega) (by omega) s3.2.2.1 _ _) fun g hg=>af (bc N (by omega) hg) fun x hx=>af (qj N (by omega) (by omega) hx) fun x hx=>af (bc N (by omega) q64) fun y hy=>af (pG N (by omega) (by omega) (by omega) hy hx) fun _ _=>aw (fun _=>ck fun r=>up hs r) fun _=>af (hp _ _ _ _) fun r hr=>ah (us hr)
 ·exact af (SU N (by omega) (by omega) s3.2.1 q64) fun r hr=>ck fun z=>ah ⟨s1,s2,⟨us s3.1,us hr,(us s3).2.2⟩,(us hs).2.2.2⟩
 ·have hx:G 0 jn (s.2.1,(e.2.2.1,(e.2.2.2.1,(e.2.2.2.2.1,(e.2.2.2.2.2.2.1,(e.2.2.2.2.2.2.2.1,())))))):=⟨s2,he.2.2.1,he.2.2.2.1,he.2.2.2.2.1,q64,he.2.2.2.2.2.2.2.1,trivial⟩
  exact af (S1 N hN h2 (by omega) Of s3 hx) fun r hr=>ah ⟨s1,eo _,hr,G4.2.2.2⟩
 ·exact af (Tk N (by omega) (by omega) hs _) fun _ _=>bN (fun _=>ck fun r=>up hs r) fun _=>af (PO N (by omega) (by omega) s3.2.2.2.2.2.1 _ _) fun r hr=>ck fun z=>ah ⟨s1,s2,⟨us s3.1,us s3.2.1,us s3.2.2.1,us s3.2.2.2.1,us s3.2.2.2.2.1,us hr,trivial⟩,(us hs).2.2.2⟩
 ·exact af (IY N hN c h2 (by omega) s3 _ he.2.2.2.2.2.2.2.1) fun r ⟨Fc,Gr⟩=>ok_eq (fun _=>bZ (fun _=>af (S3 N (by omega) h2 (by omega) Ti Gr) fun g hg=>ck fun z=>ah ⟨s1,s2,us Fc,⟨k1,k2,k3,k4,us k5,us k6,us k7,us k8,us k9,us hg,trivial⟩,us s5⟩) fun _=>ck fun z=>ah ⟨s1,s2,us Fc,(us hs).2.2.2⟩) fun _=>ck fun z=>ah ⟨s1,s2,us Fc,(us hs).2.2.2⟩
 ·exact af (B1 N (by omega) s1 q64) fun t ht=>bN (fun _=>ck fun r=>up hs r) fun _=>ah ⟨ht,(us hs).2⟩
theorem WE(N:Nat)(hN:5000000≤N){c:aa}{s:aR}{e:fU}{m:Nat}(h2:200≤m)(hm:m≤999)(hc:G 5 aq c)(hs:GS m s)(he:G 0 nJ e):Ok (SR (m+1)) (WG N c s e):=by
 have bD: ∀r:bY,Ok (SR (m+1)) (some (s,r)):=fun r=>ah (P:=SR (m+1)) (G.mono (aBd m) hs)
 unfold WG
 exact cA (lZ N (by omega) c) (bN (fun _=>bD _) fun _=>af (PM N (by omega) e) fun _ _=>bN (fun _=>bD _) fun _=>af (WC N hN h2 hm hc hs he) fun r hr=>bZ (fun _=>bD _) fun _=>ah hr)
theorem adI(N:Nat)(hN:5000000≤N){c:aa}{l:gn}{m:Nat}(hm:m≤700)(hc:G 5 aq c)(hl:Qq m l):Ok (fun r=>GS 900 r.1) (B2 N c l):=by
 have Dn:=hl.1
 unfold B2 B2.b adJ
 have hb:Ok (fun r:aR×Int=>GS 5 r.1) ((gU N c).bind fun r1=>cond (!aA r1.2 0) (some (Ty.zero cR,r1.2)) (some (((0:Int),((1:Int),(r1.1,(Ty.zero mD,(Ty.zero ep,()))))),(0:Int)))):=af (Mf N (by omega) hc) fun b hb=>bZ (fun _=>ah (G.zero 5 cR)) fun _=>ah ⟨aW,(show aB 1 from a7),hb,G.zero 5 mD,G.zero 5 ep,trivial⟩
 refine af hb fun b hb=>bZ (fun _=>ah (G.zero 900 cR)) fun _=>bw (len:=l.length) (F:=fun n i (z:aR×aj)=>B2.l6 N n l c (Ty.zero cR) z.1 z.2 i) (s:=(_,_)) (fun i z=>GS (200+i) z.1∧z.2.length≤i) ⟨G.mono (by omega) hb,azn _⟩ (by omega) (fun n i z hi hI hr=> ?_) (fun n z hI=> ?_)
 all_goals unfold B2.l6 B2.pE
 ·obtain⟨h1,h2⟩:=hI
  rw[ak (x:=(i:Int)+1) (by omega) (by omega),ae i]
  have hx:G 0 nJ (l.getD (i:Int).toNat zz8):=G.at hl _
  exact aw (fun _=>ay ⟨by omega,by omega⟩ (af (WE N hN (by omega) (by omega) hc h1 hx) fun r T2=>aH (by rw[List.length_singleton];omega) (hr (r.1,z.2++[r.2]) ⟨T2,by dsimp only;rw[List.length_append,List.length_singleton];omega⟩))) fun _=>by omega
 ·exact aw (fun _=>by omega) fun _=>ah (G.mono (by omega) hI.1)
theorem Mo(N:Nat)(hN:5000000≤N){d:aO}{c:aa}(h:Dk 1000 d)(hc:Cf c){IU:Int}(hm:0≤IU∧IU≤100):Ok (fun r=>GS 900 r.1∧Dk 100000 r.2) (F28 N d c IU):=by
 unfold F28
 refine af (PJ N (by omega) h hc hm (by omega)) fun l ⟨hl,hd⟩=>af (fI N (by decide) hd) fun v ⟨hv,hd⟩=> ?_
 have Dn:=hl.1
 have e1: ∀(k:Int) {x:Int},aB k→aB x→G 0 nJ (k,(x,dT)):=fun k x hk hx=>zp hk hx aW aW aW aW aW aW
 have i11:aB 11:=a7
 have i13:aB 13:=a7
 have i10:aB 10:=a7
 have i15:aB 15:=a7
 have i2:aB 2:=a7
 dsimp only
 have h4:=G.cat hl (G.two (m:=2) (e1 11 i11 (eo (1+v.1))) (e1 13 i13 (eo (1+v.1))) (ayJ 2))
 have h4l:=h4.1
 refine aH (by rw[tv];omega) (af (IV N (by omega) hd hc (by omega)) fun n1 ⟨hn1,hd⟩=> ?_)
 have h5:=G.cat h4 hn1
 have h5l:=h5.1
 have aoL:=hn1.1
 refine aH (by omega) (aH (by rw[tv];omega) (af (IV N (by omega) hd hc (by omega)) fun n2 ⟨hn2,hd⟩=> ?_))
 have h6:=G.cat h5 (G.two (m:=2) (zp i10 aW aW aW aW aW i2 aW) (e1 15 i15 aW) (ayJ 2))
 have h6l:=h6.1
 have aoM:=hn2.1
 exact aH (by simp only[ayH,ayI,ayW]at h4l h5l h6l aoL aoM ⊢;omega) (af (adI N hN (by omega) hc.g (G.cat h6 hn2)) fun r hr=>ah ⟨hr,Dk.mono hd (by omega)⟩)
end VM
end
section
namespace VM
open Go VM.F Go.RowKit
theorem WH{l:List Int}(h:WF (.slice (.int .u64)) l):Dk 0 ((l,((0:Int),())):aO):=⟨fun x hx=>by
 obtain⟨i,hi,rfl⟩:=azG hx
 have h3:0≤l[i]∧l[i]≤18446744073709551615:=wf_u64.1 (h.2 i hi)
 exact⟨h3.1,aAn h3.2 (by decide)⟩,azC 0,azC 0⟩
namespace Pure
end Pure
end VM
end
section
namespace VM
open Go VM.F Go.RowKit
def abu(b:ag)(x:bp):Prop:=(0≤(x.2.1:Int)∧(x.2.1:Int)<(b.2.2.2.2.1.length:Int))∧Ct x.2.2.2.1∧bt (b.2.2.2.2.1.getD (x.2.1:Int).toNat 0)∧((x.2.2.1:Int)=1∨(x.2.2.1:Int)=2)
theorem wG{c:aa}{b:ag}{next:Int}{P:bp→Prop}(hP: ∀(k:Nat) (i:Int),¬((bF c b (k:Int)).natAbs:Int)≤qf c→(dR c b (k:Int)).2.2≠0→P (i,((dR c b (k:Int)).1,((dR c b (k:Int)).2.1,((dR c b (k:Int)).2.2,()))))): ∀(m k:Nat) (out:aD),(∀x∈out,P x)→ ∀x∈tM c b next m k out,P x
 |0,_,out,h=>h
 |m+1,k,out,h=>by
  rw[tq]
  by_cases h1:((bF c b (k:Int)).natAbs:Int)≤qf c
  ·rw[ayF h1];exact wG hP m _ out h
  ·rw[ayE h1]
   by_cases h2:(dR c b (k:Int)).2.2=0
   ·rw[ayF h2];exact wG hP m _ out h
   ·rw[ayE h2]
    refine wG hP m _ _ (fun x hx=> ?_)
    rcases ayU.1 hx with hx|hx
    ·exact h x hx
    ·rw[ay0.1 hx];exact hP _ _ h1 h2
theorem adK{c:aa}{b:ag}{next:Int}(w:eS b){x:bp}(hx:x∈(gT c b next).1):bW c b=true∧abu b x:=by
 unfold gT at hx
 by_cases hB:bW c b=true
 ·refine⟨hB,?_⟩
  rw[ayF hB]at hx
  by_cases hn:1≤next∧next≤1099511627772
  ·rw[ayF hn]at hx
   refine wG (P:=abu b) (fun k i h1 h2=> ?_) 4 0 [] (fun x hx=>nomatch hx) x hx
   obtain⟨_,hi,hp⟩:=FP w hB h1 (FQ hB)
   refine⟨by rw[KM]at hi;exact ayV hi,?_,hp,?_⟩
   ·have hq:qOf (bF c b (k:Int)) (b.2.2.2.2.1.getD ((bK c (k:Int)).getD 0 0).toNat 0)≠0:=h2
    show Ct (qOf (bF c b (k:Int)) (b.2.2.2.2.1.getD ((bK c (k:Int)).getD 0 0).toNat 0))
    have:=(FR (wv w hB k).2 hp).1
    unfold qOf Ct at*
    split at hq<;>split<;>omega
   ·show(if 0<bF c b (k:Int)then(2:Int)else 1)=1∨(if 0<bF c b (k:Int)then(2:Int)else 1)=2
    split
    ·exact .inr rfl
    ·exact .inl rfl
  ·rw[ayE hn]at hx;exact nomatch hx
 ·rw[ayE hB]at hx;exact nomatch hx
theorem adL{α:Type}{l:List α}{d:α}{i:Nat}(h:i<l.length):l.getD i d∈l:=by
 rw[ayC,ayG h];exact ay5 h
theorem aja{q:Int}(h:Ct q):W .u64 q=q∧q≠0:=by
 unfold Ct at h
 exact⟨bG (by omega) (by omega),by omega⟩
namespace Pure
theorem Mp(l:List Int)(next:Int)(h:WFs [.slice (.int .u64),.int .i64] (l,next)): ∃N,F9 N l next=some true:=by
 have key:Ok (fun r=>r=true) (F9 6000000 l next):=by
  unfold F9 F9.b F13
  refine cA (PE 6000000 (by omega)) (bN (fun h=>nomatch h) fun _=>cA rfl (af (PH 6000000 (by omega) (WH h.1)) fun c ⟨⟨hc,CF⟩,hd⟩=>af (Mo 6000000 (by omega) hd ⟨hc,CF⟩ (by omega)) fun s ⟨hs,hd⟩=> ?_))
  have w:=G.wf (by omega) hs.2.2.1
  have hm:aB (qf c.1):=hc.2.2.2.2.2.2.1
  have Dn:=BR c.1 s.1.2.2.1 s.1.2.1
  refine cA (BE 6000000 (by omega) c.1 hm w.w _) (af (fI 6000000 (by decide) hd) fun r6 ⟨_,hd⟩=>af (fI 6000000 (by decide) hd) fun r8 ⟨_,hd⟩=>af (fI 6000000 (by decide) hd) fun gA ⟨_,hd⟩=>af (fI 6000000 (by decide) hd) fun iX ⟨_,hd⟩=>af (fI 6000000 (by decide) hd) fun mF ⟨_,hd⟩=>cA (IJ 6000000 (by omega) c.1 hm w _ _ _ _ _) (bN (fun h=>nomatch h) fun _=> ?_))
  refine bw (len:=(gT c.1 s.1.2.2.1 s.1.2.1).1.length) (F:=fun n i (z:aO)=>F9.KD 6000000 n z c.1 s.1 (gT c.1 s.1.2.2.1 s.1.2.1).1 i) (fun i z=>Dk (200000+2*i) z) (Dk.mono hd (by omega)) (by omega) (fun n i z hi hI hr=> ?_) (fun n z hI=> ?_)
  all_goals unfold F9.KD F9.C6
  ·rw[ak (x:=(i:Int)+1) (by omega) (by omega),ae i]
   have hx:=adK (c:=c.1) (next:=s.1.2.1) w.w (adL (d:=aJ) hi)
   have hq:=aja hx.2.2.1
   refine aw (fun _=>ay ⟨by omega,by omega⟩ (af (fI 6000000 (by decide) hI (by unfold pH;omega)) fun uk ⟨_,hd⟩=>af (F2 6000000 (by unfold pH;omega) hd) fun Cu ⟨_,hd⟩=>ay ⟨by omega,by omega⟩ ?_)) fun _=>by omega
   rw[ayD]
   refine ok_eq (fun e=>absurd (hq.1.symm.trans e) hq.2) fun _=>ay ⟨by omega,by omega⟩ (ay hx.2.1 (cA (IJ 6000000 (by omega) c.1 hm w _ _ _ _ _) (bN (fun h=>nomatch h) fun _=>hr Cu.2 (Dk.mono hd (by omega)))))
  ·exact aw (fun _=>by omega) fun _=>ah rfl
 obtain⟨r,e,hr⟩:=key
 exact⟨6000000,by rw[e,hr]⟩
end Pure
end VM
end
