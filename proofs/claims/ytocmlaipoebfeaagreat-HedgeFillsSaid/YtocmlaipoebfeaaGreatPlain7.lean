/- A part of the proof of HedgeFills of layer 22: what the functions compute, in plain words. -/
import Derived.Test.YtocmlaipoebfeaaGreatPlain6
set_option linter.all false
section
namespace VM
open Go VM.F
theorem acC(N:Nat)(a:Int):Ok (fun _=>True) (K3 N a):=by
 unfold K3
 exact ok_eq (fun _=>dw) fun _=>dw
theorem gw.one{k n:Int}{x:aw}{m:Nat}(h:Bg m x)(hm:m≤8):gw 1 [(k,(n,(x,())))]:=⟨Nat.le_refl 1,fun y hy=>by rw[List.mem_singleton.1 hy];exact Bg.mono h hm⟩
theorem R6(N:Nat)(hN:4000000≤N){l:aj}{m:Nat}(hm:m≤50000)(h:L3 m l)(i a b:Int):Ok (fun r=>gw m r.1) (n0 N l i a b):=by
 have hl:=h.1
 unfold n0 n0.b
 have p64: ∀p:Int,decide (1≤p∧p≤1000000000000)=true→aC p:=fun p h=>by have:=of_decide_eq_true h;unfold aC;omega
 refine cf (ng N (by omega) (by omega)) (bH (fun _=>ah gw.nil) fun _=>cf (js N _) (bH (fun _=>ah gw.nil) fun ha=>cf (js N _) (bH (fun _=>ah gw.nil) fun hb=>af (a7 N hN (p64 _ hb)) fun x hx=>af (a7 N hN (p64 _ ha)) fun y hy=>af (vV N hN (by omega) hx hy) fun z hz=>bq (len:=l.length) (F:=fun n j s=>n0.l6 N n l i s z j) (fun j s=>gw j s) gw.nil (by omega) (fun n j s hj hI hr=> ?_) (fun n s hI=> ?_))))
 all_goals unfold n0.l6 n0.pn
 ·have hs:=hI.1
  rw[al (x:=(j:Int)+1) (by omega) (by omega),ae j]
  have h1:=hr s (gw.mono hI (by omega))
  exact av (fun _=>ax ⟨by omega,by omega⟩ (bE (fun _=>h1) fun _=>af (zl N hz) fun _ _=>ok_eq (fun _=>h1) fun _=>ax ⟨by omega,by omega⟩ (af (acC N _) fun _ _=>ax ⟨by omega,by omega⟩ (af (a7 N hN (G.at h _).2.2.1) fun v hv=>af (kb N hN (by omega) (by omega) hv hz) fun u hu=>aF (by rw[List.length_singleton];omega) (hr _ (gw.app hI (gw.one hu (by omega)))))))) fun _=>by omega
 ·exact av (fun _=>by omega) fun _=>ah (gw.mono hI (by omega))
theorem HZ(N:Nat)(hN:5000000≤N)(c:aa){b:ag}{m:Nat}(h2:200≤m)(hm:m≤50000)(hb:G m az b)(i:Int){p:Int}(hp:aC p):Ok (fun r=>G m az r.1∧gw m r.2.1) (Vo N c b i p):=by
 have ei: ∀e:Int,Ok (fun r:ag×br×Int=>G m az r.1∧gw m r.2.1) (some ((bF,(cc,(aY,(aY,(cv,(cF,())))))),([],e))):=fun e=>ah ⟨G.fp,gw.nil⟩
 have BF:=hb.2.2.2.2.1.1
 unfold Vo
 refine cf (dP N hN hm hb) (bH (fun _=>ei _) fun hB=>cf (js N _) (bH (fun _=>ei _) fun _=>av (fun _=>ei _) fun h0=>dv (fun _=>ei _) fun h1=> ?_))
 obtain⟨B3,_⟩:=cP hB
 dsimp only
 rw[List.nil_append]
 exact ax ⟨h0,by rw[B3];exact h1⟩ (af (R6 N (by omega) hm hb.2.2.2.1 _ _ _) fun f hf=>af (o9 N (by omega) h2 hm hb G.nil (gw.mono hf hm)) fun r hr=>bE (fun _=>ei _) fun _=>aF (by rw[List.length_nil];omega) (ax ⟨h0,by rw[B3];exact h1⟩ (ah ⟨⟨hr.1,hr.2.1,hr.2.2.1,hr.2.2.2.1,G.set hb.2.2.2.2.1 hp _,hr.2.2.2.2.2⟩,hf⟩)))
abbrev L2(m:Nat)(l:au):Prop:=G m (.slice gC) l
theorem G2{m:Nat}{a b:Int}(ha:aC a)(hb:aC b):G m gC (a,(b,())):=⟨ha,hb,trivial⟩
theorem DC(N:Nat)(hN:200000≤N){l:au}(hl:l.length≤100000):Ok (fun _=>True) (mX N l):=by
 unfold mX mX.b
 refine ka (len:=l.length) (F:=fun n i=>mX.l2 N n l i) (by omega) (fun n i hi hr=> ?_) (fun n=> ?_)
 all_goals unfold mX.l2 mX.dr
 ·rw[al (x:=(i:Int)+1) (by omega) (by omega),ae i]
  dsimp only
  repeat' first|exact hr|exact dw|refine ax ⟨by omega,by omega⟩ ?_|refine ax (by rw[al (x:=(i:Int)-1) (by omega) (by omega)];omega) ?_|refine av (fun _=> ?_) (fun _=> ?_)|refine dv (fun _=> ?_) (fun _=> ?_)|refine ok_eq (fun _=> ?_) (fun _=> ?_)|(exfalso;omega)
 ·exact av (fun _=>by omega) fun _=>dw
theorem R7(N:Nat)(hN:4000000≤N){g:au}{p:br}{m:Nat}(h2:200≤m)(hm:m≤50000)(h:L2 m g)(hp:gw m p):Ok (fun r=>L2 m r.1) (df N g p):=by
 have hl:=h.1
 have BF:=hp.1
 unfold df df.b
 refine af (DC N (by omega) (by omega)) fun _ _=>bH (fun _=>ah G.nil) fun _=>iU (len:=25) (F:=fun n i s=>df.l5 N n g p s i) (fun i s=>L2 i s) (fun n i s hi hI hr=> ?_) (fun n s hI=> ?_) 25 N 1 [] (by omega) (by omega) (by omega) G.nil
 all_goals unfold df.l5 df.c0
 ·have hs:=hI.1
  refine dv (fun _=> ?_) fun _=>by omega
  refine bq (len:=g.length) (F:=fun n' j t=>df.l9 N (df.l5 N n) n' g p s (i:Int) t j) (fun _ t=>Bg 2 t) (EW (by omega)) (by omega) (fun n' j t hj ht dD=> ?_) (fun n' t ht=> ?_)
  all_goals unfold df.l9 df.tk
  ·rw[al (x:=(j:Int)+1) (by omega) (by omega),ae j]
   exact av (fun _=>ax ⟨by omega,by omega⟩ (ok_eq (fun _=>ax ⟨by omega,by omega⟩ (af (a7 N hN (G.at h _).2.1) fun r hr=>dD r hr)) fun _=>dD t ht)) fun _=>by omega
  ·refine av (fun _=>by omega) fun _=> ?_
   refine bq (len:=p.length) (F:=fun Dx j t=>df.C9 N (df.l5 N n) Dx g p s (i:Int) t j) (fun j t=>Bg (8+j) t) (Bg.mono ht (by omega)) (by omega) (fun Dx j t hj ht dD=> ?_) (fun Dx t ht=> ?_)
   all_goals unfold df.C9 df.AL
   ·rw[al (x:=(j:Int)+1) (by omega) (by omega),ae j]
    have h1:=dD t (Bg.mono ht (by omega))
    exact av (fun _=>ax ⟨by omega,by omega⟩ (ok_eq (fun _=>ax ⟨by omega,by omega⟩ (ok_eq (fun _=>ax ⟨by omega,by omega⟩ (af (ig N hN (by omega) ht (Bg.mono (hp.at _) (by omega))) fun r hr=>dD r (Bg.mono hr (by omega)))) fun _=>h1)) fun _=>h1)) fun _=>by omega
   ·rw[al (x:=(i:Int)+1) (by omega) (by omega),ae i]
    exact av (fun _=>by omega) fun _=>af (uy N ht) fun v hv=>bH (fun _=>ah G.nil) fun _=>bE (fun _=>aF (by rw[List.length_singleton];omega) (hr _ (G.cat hI (G.one (m:=1) (G2 (gd (by omega) (by omega)) hv) (Nat.le_refl 1))))) fun _=>hr s (G.mono (by omega) hI)
 ·exact dv (fun _=>by omega) fun _=>ah (G.mono (by omega) hI)
theorem pd(N:Nat)(hN:4000000≤N)(a b c d:Int){x:aw}(h:Bg 8 x):Ok (fun r=>gw 2 r) (A9 N a b c d x):=by
 unfold A9
 exact af (p4 N hN (by omega) h) fun y hy=>ah ⟨Nat.le_refl 2,fun z hz=>by
  rcases List.mem_cons.1 hz with rfl|hz
  ·exact hy
  ·rw[List.mem_singleton.1 hz];exact h⟩
theorem H4(N:Nat)(hN:5000000≤N){c:aa}{b:ag}{m:Nat}(h2:200≤m)(hm:m≤40000)(hc:G m aq c)(hb:G m az b)(a:Int){q:Int}(hq:aC q):Ok (fun r=>G m az r.1) (Vp N c b a q):=by
 unfold Vp
 exact cf (dP N hN (by omega) hb) (bH (fun _=>ah G.fp) fun _=>av (fun _=>ah G.fp) fun _=>af (s4 N (by omega) (by omega) hb.2.1 _) fun _ _=>bH (fun _=>ah G.fp) fun _=>af (ni N (by omega) (by omega) hb.1 _) fun _ _=>bE (fun _=>ah G.fp) fun _=>af (nU N (by omega) (by omega) hb.2.2.1 _ _) fun g hg=>af (a7 N (by omega) hg) fun x hx=>af (a7 N (by omega) hq) fun y hy=>af (vV N (by omega) (by omega) hx hy) fun z hz=>af (HQ N (by omega) h2 hm hc hb (Nat.zero_le _) _) fun w hw=>af (pq N (by omega) (by omega) (by omega) hz hw) fun _ _=>av (fun _=>ah G.fp) fun _=>af (a7 N (by omega) hq) fun y hy=>af (pd N (by omega) _ _ _ _ (Bg.mono hy (by omega))) fun p hp=>af (o9 N (by omega) h2 (by omega) hb G.nil (gw.mono hp (by omega))) fun r hr=>ah hr)
theorem K7(N:Nat)(hN:1000≤N){c:aa}(hc:G 5 aq c):Ok (fun r=>G 5 az r.1) (gU N c):=by
 have hl:=hc.1.1
 unfold gU gU.b
 have hj: ∀b:ag,G 5 az b→Ok (fun r=>G 5 az r.1) (gU.j6 N c (bF,(cc,(aY,(aY,(cv,(cF,())))))) b []):=fun b hb=>by
  unfold gU.j6 gU.JK
  obtain⟨b1,b2,b3,b4,b5,b6⟩:=b
  refine bq (len:=c.1.length) (F:=fun n i (z:ag×List Int)=>gU.l7 N n c (bF,(cc,(aY,(aY,(cv,(cF,())))))) z.1 z.2 i) (s:=((b1,(b2,(b3,(b4,(b5,b6))))),_)) (fun i z=>G 5 az z.1∧G i (.slice (.int .i64)) z.2) ⟨hb,G.nil⟩ (by omega) (fun n i z hi hI hr=> ?_) (fun n z hI=> ?_)
  all_goals unfold gU.l7 gU.oT
  ·have hz:=hI.2.1
   rw[al (x:=(i:Int)+1) (by omega) (by omega),ae i]
   have hx:G 0 (.int .i64) (c.1.getD (i:Int).toNat aJ).2.1:=(G.at hc.1 _).2.1
   exact av (fun _=>ax ⟨by omega,by omega⟩ (aF (by rw[List.length_singleton];omega) (hr (_,_) ⟨⟨hI.1.1,hI.1.2.1,hI.1.2.2.1,hI.1.2.2.2.1,G.nil,hI.1.2.2.2.2.2⟩,G.cat hI.2 (G.one hx (Nat.le_refl 1))⟩))) fun _=>by omega
  ·exact av (fun _=>by omega) fun _=>ah ⟨hI.1.1,hI.1.2.1,hI.1.2.2.1,hI.1.2.2.2.1,G.mono hl hI.2,hI.1.2.2.2.2.2⟩
 have Fo:L3 5 [((1:Int),((0:Int),(W .i64 (0-c.2.1),()))),((3:Int),((0:Int),(c.2.1,())))]:=G.two (G3 (show aC 1 from aW) aV (dY _)) (G3 (show aC 3 from aW) aV hc.2.1) (by decide)
 exact cf (nH N (by omega) c) (bH (fun _=>ah G.fp) fun _=>bE (fun _=>hj _ ⟨G.nil,G.nil,Fo,G.nil,G.nil,G.nil,trivial⟩) fun _=>hj _ G.fp)
end VM
end
section
namespace VM
open Go VM.F
theorem w3(N:Nat)(hN:4000000≤N){c:aa}{l:au}{m:Nat}(hm:m≤50000)(hc:G m aq c)(hl:L2 m l)(f:Bool):Ok (fun r=>Bg 60000 r.1) (mw N c l f):=by
 have h1:=hl.1
 unfold mw mw.b
 refine cf (vA N (by omega) c (by omega)) (bH (fun _=>ah (EW (by omega))) fun hk=>bq (len:=l.length) (F:=fun n i t=>mw.l5 N n l f c (false,(([]:List Int),())) t i) (fun i t=>Bg (8+i) t) (EW (by omega)) (by omega) (fun n i t hi ht hr=> ?_) (fun n t ht=> ?_))
 all_goals unfold mw.l5 mw.c0
 ·rw[al (x:=(i:Int)+1) (by omega) (by omega),ae i,Int.toNat_natCast]
  unfold mo at hk
  have hp:=of_decide_eq_true (Bool.and_eq_true_iff.1 hk).1 i hi
  unfold kt mm at hp
  have in1: ∀{x y:Option (aw×Int)},Ok (fun r=>Bg 60000 r.1) x→Ok (fun r=>Bg 60000 r.1) (cond (aL (l.getD i bI).1 c.1.length) x y):=fun h=>ax ⟨hp.1,hp.2.1⟩ h
  have hw: ∀q:Int,aC q→Ok (fun r=>Bg 60000 r.1) ((gN N (l.getD i bI).2.1).bind fun r3=>(QK N r3).bind fun r4=>(gN N q).bind fun r5=>(gv N r4 r5).bind fun r6=>(vk N t r6).bind fun r7=>mw.l5 N n l f c (false,(([]:List Int),())) r7 ((i+1:Nat):Int)):=fun q hq=>
   af (a7 N hN (G.at hl i).2.1) fun x hx=>af (sA N hN (by omega) hx) fun x hx=>af (a7 N hN hq) fun y hy=>af (kb N hN (by omega) (by omega) hx hy) fun z hz=>af (ig N hN (by omega) ht (Bg.mono hz (by omega))) fun u hu=>hr u (Bg.mono hu (by omega))
  exact av (fun _=>ax ⟨by omega,by omega⟩ (in1 (qT (fun _=>ax ⟨by omega,by omega⟩ (in1 (ax ⟨by omega,by omega⟩ (hw _ (G.at hc.1 _).2.2.2.1)))) fun _=>ax ⟨by omega,by omega⟩ (hw _ (G.at hc.1 _).2.2.1)))) fun _=>by omega
 ·exact av (fun _=>by omega) fun _=>ah (Bg.mono ht (by omega))
theorem s7(N:Nat)(hN:200000≤N){b:ag}{m:Nat}(hm:m≤50000)(hb:G m az b)(id:Int):Ok (fun _=>True) (E0 N b id):=by
 unfold E0
 exact af (ni N hN hm hb.1 _) fun _ _=>dw
theorem s8(N:Nat)(hN:200000≤N){b:ag}{m:Nat}(hm:m≤50000)(hb:G m az b)(id:Int):Ok aC (K8 N b id):=by
 unfold K8
 exact af (nU N hN hm hb.2.2.1 _ _) fun r hr=>ah hr
theorem Vq(N:Nat)(hN:5000000≤N){c:aa}{b:ag}{m:Nat}(hm:m≤40000)(hc:G m aq c)(hb:G m az b)(f:Int){to:Int}(hto:aC to)(a:Int):Ok (fun r=>G m az r.1) (Vr N c b f to a):=by
 have Ke:Ok (fun _=>True) (Vs N c b f to a):=by
  unfold Vs acD
  have mb:=fun id=>s7 N (by omega) (by omega) hb id
  exact cf (dP N hN (by omega) hb) (bH (fun _=>dw) fun _=>af (s4 N (by omega) (by omega) hb.2.1 _) fun _ _=>bH (fun _=>dw) fun _=>af (mb _) fun _ _=>ok_eq (fun _=>dw) fun _=>af (mb _) fun _ _=>ok_eq (fun _=>dw) fun _=>bE (fun _=>dw) fun _=>bE (fun _=>dw) fun _=>af (mb _) fun _ _=>bE (fun _=>dw) fun _=>af (HO N (by omega) (by omega) hb.2.2.2.1 _) fun l hl=>af (Q:=fun r=>Bg 60000 r.1) (af (w3 N (by omega) (by omega) hc hl _) fun r hr=>ah hr) fun u hu=>af (s8 N (by omega) (by omega) hb _) fun g hg=>af (a7 N (by omega) hg) fun x hx=>af (pq N (by omega) (by omega) (by omega) hx hu) fun _ _=>av (fun _=>dw) fun _=>dw)
 unfold Vr
 exact af Ke fun _ _=>bE (fun _=>ah G.fp) fun _=>af (K5 N (by omega) (by omega) hb.1 hb.2.1 hto) fun r hr=>bE (fun _=>ah G.fp) fun _=>ah ⟨hb.1,hr,hb.2.2⟩
theorem OV(N:Nat)(hN:4000000≤N){x:aw}{q:Int}(hx:Bg 60000 x)(hq:aC q):Ok (fun r=>0≤r∧r≤3) (n4 N x q):=by
 unfold n4 n4.b
 refine af (zl N hx) fun _ _=>dv (fun _=>ah (by decide)) fun _=>av (fun _=>ah (by decide)) fun _=>iU (len:=3) (F:=fun n i (_:Unit)=>n4.l4 N n q x i) (fun _ _=>True) (fun n i _ hi _ hr=> ?_) (fun n _ _=> ?_) 3 N 1 () (by omega) (by omega) (by omega) trivial
 all_goals unfold n4.l4 n4.c5
 ·rw[al (x:=(i:Int)+1) (by omega) (by omega),ae i]
  exact av (fun _=>af (a7 N hN (gd (by omega) (by omega))) fun a ha=>af (a7 N hN hq) fun b hb=>af (kb N hN (by omega) (by omega) ha hb) fun y hy=>af (pq N hN (by omega) (by omega) hy hx) fun _ _=>av (fun _=>hr () trivial) fun _=>ah (by omega)) fun _=>by omega
 ·exact av (fun _=>by omega) fun _=>ah (by omega)
theorem Vt(N:Nat)(hN:5000000≤N)(c:aa){b:ag}{m:Nat}(hm:m≤50000)(hb:G m az b):Ok (fun r=>G m (.slice (.int .i64)) r.1) (n5 N c b):=by
 have hl:=hb.1.1
 unfold n5 n5.b
 refine cf (dP N hN hm hb) (bH (fun _=>ah G.nil) fun _=>bq (len:=b.1.length) (F:=fun n i s=>n5.l5 N n b s i) (fun i s=>G i (.slice (.int .i64)) s) G.nil (by omega) (fun n i s hi hI hr=> ?_) (fun n s hI=> ?_))
 all_goals unfold n5.l5 n5.c0
 ·have hs:=hI.1
  rw[al (x:=(i:Int)+1) (by omega) (by omega),ae i]
  have h1:=hr s (G.mono (by omega) hI)
  have hx:G 0 (.int .i64) (b.1.getD (i:Int).toNat bI).1:=(G.at hb.1 _).1
  exact av (fun _=>ax ⟨by omega,by omega⟩ (ok_eq (fun _=>ax ⟨by omega,by omega⟩ (af (nU N (by omega) hm hb.2.2.1 _ _) fun _ _=>av (fun _=>ax ⟨by omega,by omega⟩ (aF (by rw[List.length_singleton];omega) (hr _ (G.cat hI (G.one hx (Nat.le_refl 1)))))) fun _=>h1)) fun _=>h1)) fun _=>by omega
 ·exact av (fun _=>by omega) fun _=>ah (G.mono hl hI)
abbrev LL(m:Nat)(l:aZ):Prop:=G m (.slice gA) l
theorem Ba(N:Nat)(hN:200000≤N){l:aZ}{m:Nat}(hm:m≤50000)(h:LL m l)(id:Int):Ok (fun r=>G m gA r.1) (mY N l id):=by
 have hl:=h.1
 unfold mY mY.b
 refine ka (len:=l.length) (F:=fun n i=>mY.l2 N n l id ((0:Int),(bF,aJ)) i) (by omega) (fun n i hi hr=> ?_) (fun n=> ?_)
 all_goals unfold mY.l2 mY.dr
 ·rw[al (x:=(i:Int)+1) (by omega) (by omega),ae i]
  exact av (fun _=>ax ⟨by omega,by omega⟩ (ok_eq (fun _=>ax ⟨by omega,by omega⟩ (ah (G.at h _))) fun _=>hr)) fun _=>by omega
 ·exact av (fun _=>by omega) fun _=>ah (G.zero m gA)
theorem OW(N:Nat)(hN:4000000≤N){a b:au}{m:Nat}(h6:6≤m)(hm:m≤40000)(ha:L2 m a)(hb:L2 m b):Ok (fun r=>L2 m r.1) (dg N a b):=by
 have hal:=ha.1
 have uF:=hb.1
 unfold dg dg.b
 refine bq (len:=6) (F:=fun n i s=>dg.l3 N n a b s i) (fun i s=>L2 i s) G.nil (by omega) (fun n i s hi hI hr=> ?_) (fun n s hI=> ?_)
 all_goals unfold dg.l3 dg.kq
 ·have hs:=hI.1
  refine av (fun _=> ?_) fun _=>by omega
  refine bq (len:=a.length) (F:=fun n' j t=>dg.l7 N (dg.l3 N n) n' a b s (i:Int) t j) (fun j t=>Bg (3+j) t) (EW (by omega)) (by omega) (fun n' j t hj ht dD=> ?_) (fun n' t ht=> ?_)
  all_goals unfold dg.l7 dg.oT
  ·rw[al (x:=(j:Int)+1) (by omega) (by omega),ae j]
   exact av (fun _=>ax ⟨by omega,by omega⟩ (ok_eq (fun _=>ax ⟨by omega,by omega⟩ (af (a7 N hN (G.at ha _).2.1) fun r hr=>af (ig N hN (by omega) ht (Bg.mono hr (by omega))) fun u hu=>dD u (Bg.mono hu (by omega)))) fun _=>dD t (Bg.mono ht (by omega)))) fun _=>by omega
  ·refine av (fun _=>by omega) fun _=> ?_
   refine bq (len:=b.length) (F:=fun Dx j t=>dg.kL N (dg.l3 N n) Dx a b s (i:Int) t j) (fun j t=>Bg (3+a.length+j) t) ht (by omega) (fun Dx j t hj ht dD=> ?_) (fun Dx t ht=> ?_)
   all_goals unfold dg.kL dg.jV
   ·rw[al (x:=(j:Int)+1) (by omega) (by omega),ae j]
    exact av (fun _=>ax ⟨by omega,by omega⟩ (ok_eq (fun _=>ax ⟨by omega,by omega⟩ (af (a7 N hN (G.at hb _).2.1) fun r hr=>af (ig N hN (by omega) ht (Bg.mono hr (by omega))) fun u hu=>dD u (Bg.mono hu (by omega)))) fun _=>dD t (Bg.mono ht (by omega)))) fun _=>by omega
   ·rw[al (x:=(i:Int)+1) (by omega) (by omega),ae i]
    exact av (fun _=>by omega) fun _=>af (yd N ht) fun v hv=>bH (fun _=>ah G.nil) fun _=>bE (fun _=>aF (by rw[List.length_singleton];omega) (hr _ (G.cat hI (G.one (m:=1) (G2 (gd (by omega) (by omega)) hv) (Nat.le_refl 1))))) fun _=>hr s (G.mono (by omega) hI)
 ·exact av (fun _=>by omega) fun _=>ah (G.mono h6 hI)
theorem H5(N:Nat)(hN:5000000≤N){c:aa}{b:ag}{K9:aZ}{l:aD}{x:bh}{m:Nat}(h6:6≤m)(hm:m≤40000)(hc:G m aq c)(hb:G m az b)(hL:LL m K9)(hl:G m (.slice cU) l)(hx:G 0 cU x):Ok (fun _=>True) (ik N c b K9 l x):=by
 have Tb:=hl.1
 have hLl:=hL.1
 have hal:=hb.2.1.1
 have yx:=hb.2.2.2.2.2.1.1
 have hw:G8 K9:=fun y hy=>Nat.le_trans (hL.2 y hy).2.1.1 (by omega)
 unfold ik ik.b
 have hj:Ok (fun _=>True) (ik.j3 N K9 l c b x):=by
  unfold ik.j3 ik.j3b
  refine af (s7 N (by omega) (by omega) hb _) fun _ _=>ok_eq (fun _=>dw) fun _=>bE (fun _=>dw) fun _=>af (Ba N (by omega) (by omega) hL _) fun z hz=>cf (wQ N (by omega) (by omega) _) (bH (fun _=>dw) fun _=>bE (fun _=>dw) fun _=>ok_eq (fun _=>dw) fun _=>ka (len:=l.length) (F:=fun n i=>ik.lN N n l c b x z.1 (zc b.2.1 x.2.2.1) i) (by omega) (fun n i hi hr=> ?_) (fun n=> ?_))
  all_goals unfold ik.lN ik.jY
  ·rw[al (x:=(i:Int)+1) (by omega) (by omega),ae i]
   exact av (fun _=>ax ⟨by omega,by omega⟩ (ok_eq (fun _=>ax ⟨by omega,by omega⟩ (ok_eq (fun _=>dw) fun _=>hr)) fun _=>hr)) fun _=>by omega
  ·refine av (fun _=>by omega) fun _=>ok_eq (fun _=>dw) fun _=>af (a7 N (by omega) hx.2.2.2.1) fun p hp=>af (a7 N (by omega) (show aC 4 from aW)) fun q hq=>af (a7 N (by omega) hz.2.2.1) fun r hr=>af (kb N (by omega) (by omega) (by omega) hq hr) fun u hu=>af (pq N (by omega) (by omega) (by omega) hp hu) fun _ _=>av (fun _=>dw) fun _=>af (HO N (by omega) (by omega) hb.2.2.2.1 _) fun a ha=>af (OW N (by omega) h6 (by omega) ha hz.2.1) fun j hj=>bH (fun _=>dw) fun _=> ?_
   unfold acE
   exact af (Q:=fun r=>L3 6 r) (cf (kH N (by omega) (by omega)) (bH (fun _=>ah G.nil) fun _=>af (A6 N (by omega) (by omega) _) fun r hr=>ah hr)) fun o ho=>af (HN N (by omega) (by omega) hc hj (G.mono h6 ho)) fun w hw=>af (s8 N (by omega) (by omega) hb _) fun g hg=>af (a7 N (by omega) hg) fun v hv=>af (a7 N (by omega) hx.2.2.2.1) fun p hp=>af (vV N (by omega) (by omega) hv hp) fun d hd=>af (pq N (by omega) (by omega) (by omega) hd hw) fun _ _=>av (fun _=>dw) fun _=>dw
 refine cf (dP N hN (by omega) hb) (bH (fun _=>dw) fun _=>cf (Au N (by omega) c (by omega) hw) (bH (fun _=>dw) fun _=>cf (sj N (by omega) (by omega)) (bH (fun _=>dw) fun _=>cf (Mw N _) (bH (fun _=>dw) fun _=>av (fun _=> ?_) fun _=>hj))))
 dsimp only
 exact ax (by rw[al (by omega) (by omega)];omega) (dv (fun _=>dw) fun _=>hj)
theorem OX(N:Nat)(hN:5000000≤N){c:aa}{b:ag}{K9:aZ}{l:aD}{x:bh}{m:Nat}(h6:6≤m)(hm:m≤40000)(hc:G m aq c)(hb:G m az b)(hL:LL m K9)(hl:G m (.slice cU) l)(hx:G 0 cU x):Ok (fun r=>G (m+1) (.slice cU) r.1) (Vu N c b K9 l x):=by
 have Tb:=hl.1
 unfold Vu
 refine af (H5 N hN h6 hm hc hb hL hl hx) fun _ _=>bE (fun _=>ah G.nil) fun _=>aF (by rw[List.length_nil];omega) ?_
 dsimp only
 rw[List.nil_append]
 exact aF (by rw[List.length_singleton];omega) (ah (G.cat hl (G.one hx (Nat.le_refl 1))))
end VM
end
section
namespace VM
open Go VM.F
theorem aay{l:List Int}(h:Pos l)(hs:l.sum<9223372036854775808):EA l:=fun x hx=>by
 have h3:=h x hx
 obtain⟨i,hi,rfl⟩:=List.mem_iff_getElem.1 hx
 have h4:=uu h i
 rw[List.getD_eq_getElem?_getD,List.getElem?_eq_getElem hi]at h4
 simp only[Option.getD_some]at h4
 omega
theorem R8(k:Nat):(List.replicate k (1:Int)).sum=k:=by
 induction k with
 |zero=>rfl
 |succ k ih=>rw[List.replicate_succ,List.sum_cons,ih];omega
theorem R9(k:Nat):Pos (List.replicate k 1):=fun x hx=>by rw[List.eq_of_mem_replicate hx];omega
theorem Sa{t:Int}{k:Nat}(h0:0≤t)(h1:t<9223372036854775808)(hk:1≤k)(hk1:k≤3):(Da t k).1.length=k∧EA (Da t k).1:=by
 have hS:0<(List.replicate k (1:Int)).sum:=by rw[R8];omega
 have ee:Da t k=(bk t (List.replicate k 1),0):=by
  unfold Da
  rw[if_neg (by omega),Int.toNat_natCast]
  unfold nP
  have hm:may (List.replicate k 1)=true:=ln.2 ⟨by rw[List.length_replicate];omega,R9 k⟩
  rw[if_neg (by rw[hm];simp;omega),R8,if_neg (by omega),if_neg (by omega)]
 rw[ee]
 exact⟨by dsimp only;rw[kR,List.length_replicate],aay (qL h0 hS (R9 k)) (by rw[qK h0 hS];omega)⟩
def LQ(y:Ks):Prop:=aC y.1∧aC y.2.1∧yG y.2.1
theorem aaz{l:au}(h: ∀y∈l,LQ y)(i:Nat):LQ (l.getD i bI):=by
 by_cases hk:i<l.length
 ·rw[List.getD_eq_getElem?_getD,List.getElem?_eq_getElem hk];exact h _ (List.getElem_mem hk)
 ·rw[List.getD_eq_getElem?_getD,List.getElem?_eq_none (by omega)];exact⟨aV,aV,by unfold yG;decide⟩
theorem OY{c:aa}{b:ag}{m:Nat}(hb:G m az b)(hB:bV c b=true)(a:Int): ∀y∈posOf b.2.2.2.1 a,LQ y∧(0≤(y.1:Int)∧(y.1:Int)<(c.1.length:Int)):=fun y hy=>by
 have hk:cR b.2.2.2.1=true:=by
  by_cases h:cR b.2.2.2.1=true
  ·exact h
  ·unfold posOf at hy;rw[if_neg h]at hy;nomatch hy
 unfold posOf at hy
 rw[if_pos hk]at hy
 obtain⟨x,hx,_,e⟩:=fL hy
 have hg:=hb.2.2.2.1.2 x hx
 have hq:=((gR hk).2 x hx).2
 have hp:=vP hB x hx
 rw[e]
 exact⟨⟨hg.2.1,hg.2.2.1,hq⟩,hp⟩
theorem Vv(N:Nat)(hN:5000000≤N){c:aa}{b:ag}{m:Nat}(h2:200≤m)(hm:m≤40000)(hc:G m aq c)(hb:G m az b){next:Int}(hn:aC next):Ok (fun r=>LL m r.1) (cZ N c b next):=by
 unfold cZ cZ.b
 refine cf (dP N hN (by omega) hb) (bH (fun _=>ah G.nil) fun hB=>av (fun _=>ah G.nil) fun _=>av (fun _=>ah G.nil) fun _=>cf (Rh N (G.wf (by omega) hb).w.s (by omega) 0) (ok_eq (fun _=>ah G.nil) fun _=> ?_))
 have gH:=OY hb hB 0
 have hal:=(ah9 hb.2.2.2.1 0).1
 generalize posOf b.2.2.2.1 0=all at*
 refine bq (len:=4) (F:=fun n k (s:Int×aZ)=>cZ.l8 N n s.1 c all s.2 k) (s:=(_,_)) (fun k s=>aC s.1∧s.2.length≤3*k∧ ∀x∈s.2,G m gA x) ⟨hn,Nat.zero_le _,fun x hx=>nomatch hx⟩ (by omega) (fun n k s hk hI hr=> ?_) (fun n s hI=> ?_)
 all_goals unfold cZ.l8 cZ.wk
 ·refine av (fun _=> ?_) fun _=>by omega
  refine bq (len:=all.length) (F:=fun n' i (z:au×aw)=>cZ.lN N (cZ.l8 N n) n' s.1 c all s.2 (k:Int) z.1 z.2 i) (s:=(_,_)) (fun i z=>z.1.length≤i∧(∀y∈z.1,LQ y)∧Bg (8+i) z.2) ⟨Nat.zero_le _,(fun y hy=>nomatch hy),EW (by omega)⟩ (by omega) (fun n' i z hi hz dD=> ?_) (fun n' z hz=> ?_)
  all_goals unfold cZ.lN cZ.jY
  ·obtain⟨yZ,JJ,hz3⟩:=hz
   have hx:all.getD i bI∈all:=by rw[List.getD_eq_getElem?_getD,List.getElem?_eq_getElem hi];exact List.getElem_mem hi
   have hy:=gH _ hx
   rw[al (x:=(i:Int)+1) (by omega) (by omega),ae i,Int.toNat_natCast]
   exact av (fun _=>ax ⟨by omega,by omega⟩ (ax hy.2 (ok_eq (fun _=>ax ⟨by omega,by omega⟩ (aF (by rw[List.length_singleton];omega) (ax ⟨by omega,by omega⟩ (af (a7 N (by omega) hy.1.2.1) fun u hu=>af (sA N (by omega) (by omega) hu) fun u hu=>af (ig N (by omega) (by omega) hz3 (Bg.mono hu (by omega))) fun v hv=>dD (_,_) ⟨by dsimp only;rw[List.length_append,List.length_singleton];omega,fun y h=>(List.mem_append.1 h).elim (JJ y) (fun h=>by rw[List.mem_singleton.1 h];exact hy.1),Bg.mono hv (by omega)⟩)))) fun _=>dD z ⟨by omega,JJ,Bg.mono hz3 (by omega)⟩))) fun _=>by omega
  ·obtain⟨yZ,JJ,hz3⟩:=hz
   refine av (fun _=>by omega) fun _=>af (OV N (by omega) (Bg.mono hz3 (by omega)) hc.2.2.2.2.2.1) fun w hw=> ?_
   obtain⟨p,hp⟩: ∃p:Nat,w=(p:Int):=⟨w.toNat,by omega⟩
   subst hp
   refine bq (len:=p) (F:=fun Dx j (t:Int×aZ)=>cZ.E1 N (cZ.l8 N n) Dx t.1 c all t.2 (k:Int) z.1 (p:Int) j) (s:=s) (fun j t=>aC t.1∧t.2.length≤3*k+j∧ ∀x∈t.2,G m gA x) hI (by omega) (fun Dx j t hj ht RM=> ?_) (fun Dx t ht=> ?_)
   all_goals unfold cZ.E1 cZ.La
   ·obtain⟨ru,S6,TO⟩:=ht
    refine av (fun _=> ?_) fun _=>by omega
    refine bq (len:=z.1.length) (F:=fun n3 i u=>cZ.y5 N (cZ.l8 N n) (cZ.E1 N (cZ.l8 N n) Dx) n3 t.1 c all t.2 (k:Int) z.1 (p:Int) (j:Int) (t.1,(bF,((0:Int),((1:Int),bI)))) u i) (fun i u=>L2 i u) G.nil (by omega) (fun n3 i u hi hu hr3=> ?_) (fun n3 u hu=> ?_)
    all_goals unfold cZ.y5 cZ.z5
    ·have hul:=hu.1
     have hq:=aaz JJ i
     have pk:=hq
     unfold LQ aC yG at pk
     have aia: ∀q:Int,0≤q→q<9223372036854775808→Ok (fun r=>LL m r.1) (cZ.Sb N (cZ.l8 N n) (cZ.E1 N (cZ.l8 N n) Dx) (cZ.y5 N (cZ.l8 N n) (cZ.E1 N (cZ.l8 N n) Dx) n3) t.1 c all t.2 (k:Int) z.1 (p:Int) (j:Int) (t.1,(bF,((0:Int),((1:Int),bI)))) u (i:Int) q):=fun q h0 h1=>by
      unfold cZ.Sb cZ.Lb
      obtain⟨e1,e2⟩:=Sa (k:=p) h0 h1 (by omega) (by omega)
      have aib: ∀v:List Int,v.length=p→EA v→Ok (fun r=>LL m r.1) (cZ.j32 N (cZ.l8 N n) (cZ.E1 N (cZ.l8 N n) Dx) (cZ.y5 N (cZ.l8 N n) (cZ.E1 N (cZ.l8 N n) Dx) n3) t.1 c all t.2 (k:Int) z.1 (p:Int) (j:Int) (t.1,(bF,((0:Int),((1:Int),bI)))) u (i:Int) v):=fun v FW TK=>by
       unfold cZ.j32 cZ.acF
       rw[al (x:=(i:Int)+1) (by omega) (by omega),ae i]
       have hx:G 0 gC ((z.1.getD (i:Int).toNat bI).1,(v.getD (j:Int).toNat 0,())):=G2 (aaz JJ _).1 (pR TK _)
       exact ax ⟨by omega,by omega⟩ (bE (fun _=>ax ⟨by omega,by omega⟩ (ax ⟨by omega,by omega⟩ (aF (by rw[List.length_singleton];omega) (hr3 _ (G.cat hu (G.one hx (Nat.le_refl 1))))))) fun _=>hr3 u (G.mono (by omega) hu))
      refine cf (Rr N hN h1) (ax ⟨by omega,by omega⟩ (av (fun _=>ax ⟨by omega,by omega⟩ (ax ⟨by omega,by omega⟩ (aib _ (by rw[List.length_set];exact e1) fun y hy=> ?_))) fun _=>aib _ e1 e2))
      rcases List.mem_or_eq_of_mem_set hy with hy|rfl
      ·exact e2 y hy
      ·exact dY _
     rw[Int.toNat_natCast]
     refine av (fun _=>ax ⟨by omega,by omega⟩ (av (fun dT=> ?_) fun TV=> ?_)) fun _=>by omega
     ·have g: ∀x:Int,-9223372036854775808≤x∧x≠ -9223372036854775808→x<0→0≤W .i64 (0-x)∧W .i64 (0-x)<9223372036854775808:=fun x h1 h2=>by rw[al (by omega) (by omega)];omega
      have gx:=g _ ⟨pk.2.1.1,pk.2.2⟩ dT
      exact aia _ gx.1 gx.2
     ·exact aia _ TV pk.2.1.2
    ·have hul:=hu.1
     rw[al (x:=(j:Int)+1) (by omega) (by omega),ae j]
     have hum:L2 m u:=G.mono (by omega) hu
     refine av (fun _=>by omega) fun _=>ok_eq (fun _=>RM t ⟨ru,by omega,TO⟩) fun _=> ?_
     unfold Sc
     refine af (Q:=fun r=>Bg 60000 r.1) (af (w3 N (by omega) (by omega) hc hum _) fun r hr=>ah hr) fun a ha=>af (p4 N (by omega) (by omega) ha) fun d hd=>af (uy N hd) fun v hv=>bH (fun _=>ah G.nil) fun _=>aF (by rw[List.length_singleton];omega) (RM (_,_) ⟨dY _,by dsimp only;rw[List.length_append,List.length_singleton];omega,fun x hx=> ?_⟩)
     rcases List.mem_append.1 hx with hx|hx
     ·exact TO x hx
     ·rw[List.mem_singleton.1 hx];exact⟨ru,hum,hv,(show aC 1 from aW),aV,aV,trivial⟩
   ·rw[al (x:=(k:Int)+1) (by omega) (by omega),ae k]
    exact av (fun _=>by omega) fun _=>hr t ⟨ht.1,by have:=ht.2.1;omega,ht.2.2⟩
 ·exact av (fun _=>by omega) fun _=>ah ⟨by have:=hI.2.1;dsimp only;omega,hI.2.2⟩
end VM
end
section
namespace VM
open Go VM.F
theorem s9(N:Nat)(hN:200000≤N){l:au}(hl:l.length≤100000):Ok (fun _=>True) (lY N l):=by
 unfold lY lY.b
 refine ka (len:=l.length) (F:=fun n i=>lY.l2 N n l i) (by omega) (fun n i hi hr=> ?_) (fun n=> ?_)
 all_goals unfold lY.l2 lY.dr
 ·rw[al (x:=(i:Int)+1) (by omega) (by omega),ae i]
  dsimp only
  repeat' first|exact hr|exact dw|refine ax ⟨by omega,by omega⟩ ?_|refine ax (by rw[al (x:=(i:Int)-1) (by omega) (by omega)];omega) ?_|refine av (fun _=> ?_) (fun _=> ?_)|refine dv (fun _=> ?_) (fun _=> ?_)|refine ok_eq (fun _=> ?_) (fun _=> ?_)|(exfalso;omega)
 ·exact av (fun _=>by omega) fun _=>dw
theorem OZ(N:Nat)(hN:200000≤N){l:List Int}(hl:l.length≤100000):Ok (fun _=>True) (n6 N l):=by
 unfold n6 n6.b
 refine ka (len:=l.length) (F:=fun n i=>n6.l2 N n l i) (by omega) (fun n i hi hr=> ?_) (fun n=> ?_)
 all_goals unfold n6.l2 n6.dr
 ·rw[al (x:=(i:Int)+1) (by omega) (by omega),ae i]
  dsimp only
  repeat' first|exact hr|exact dw|refine ax ⟨by omega,by omega⟩ ?_|refine ax (by rw[al (x:=(i:Int)-1) (by omega) (by omega)];omega) ?_|refine av (fun _=> ?_) (fun _=> ?_)|refine dv (fun _=> ?_) (fun _=> ?_)|refine ok_eq (fun _=> ?_) (fun _=> ?_)|(exfalso;omega)
 ·exact av (fun _=>by omega) fun _=>dw
theorem Sd(N:Nat)(hN:200000≤N)(a:Int){L:aZ}{l:aD}{m:Nat}(hm:m≤50000)(hL:LL m L)(hl:G m (.slice cU) l):Ok aC (fV N a L l):=by
 have h1:=hL.1
 have h2:=hl.1
 have i3:aC 3:=aW
 have i2:aC 2:=aW
 unfold fV fV.b
 refine bq (len:=l.length) (F:=fun n i v=>fV.l3 N n a L l v i) (fun _ v=>aC v) (show aC 1 from aW) (by omega) (fun n i v hi hv hr=> ?_) (fun n v hv=> ?_)
 all_goals unfold fV.l3 fV.kq
 ·rw[al (x:=(i:Int)+1) (by omega) (by omega),ae i]
  exact av (fun _=>ax ⟨by omega,by omega⟩ (bE (fun _=>hr v hv) fun _=>ax ⟨by omega,by omega⟩ (af (Ba N hN hm hL _) fun _ _=>qT (fun _=>ax ⟨by omega,by omega⟩ (dv (fun _=>hr _ (w1 hv i3)) fun _=>hr _ (w1 hv i2))) fun _=>hr _ (w1 hv i2)))) fun _=>by omega
 ·refine av (fun _=>by omega) fun _=>bq (len:=L.length) (F:=fun n i v=>fV.kL N n a L v i) (fun _ v=>aC v) hv (by omega) (fun n i v hi hv hr=> ?_) (fun n v hv=> ?_)
  all_goals unfold fV.kL fV.jV
  ·rw[al (x:=(i:Int)+1) (by omega) (by omega),ae i]
   exact av (fun _=>ax ⟨by omega,by omega⟩ (ok_eq (fun _=>ax ⟨by omega,by omega⟩ (ok_eq (fun _=>hr 4 aW) fun _=>hr v hv)) fun _=>hr v hv)) fun _=>by omega
  ·exact av (fun _=>by omega) fun _=>ah hv
theorem Se(N:Nat)(hN:200000≤N)(c:aa){d:au}{u:List Int}{L:aZ}{l:aD}{m:Nat}(h2:200≤m)(hm:m≤50000)(hd:L2 m d)(hu:u.length≤m)(hL:LL m L)(hl:G m (.slice cU) l):Ok (fun r=>L2 m r.1) (cB N c d u L l):=by
 have h3:=hd.1
 have h4:=hL.1
 have h5:=hl.1
 have hw:G8 L:=fun y hy=>Nat.le_trans (hL.2 y hy).2.1.1 (by omega)
 unfold cB cB.b
 refine af (s9 N hN (by omega)) fun _ _=>bH (fun _=>ah G.nil) fun _=>af (OZ N hN (by omega)) fun _ _=>bH (fun _=>ah G.nil) fun _=>cf (Au N hN c (by omega) hw) (bH (fun _=>ah G.nil) fun _=>cf (sj N (by omega) hN) (bH (fun _=>ah G.nil) fun _=>iU (len:=13) (F:=fun n i s=>cB.l5 N n d u L l s i) (fun i s=>L2 i s) (fun n i s hi hI hr=> ?_) (fun n s hI=> ?_) 13 N 1 [] (by omega) (by omega) (by omega) G.nil))
 all_goals unfold cB.l5 cB.c0
 ·have hs:=hI.1
  refine dv (fun _=> ?_) fun _=>by omega
  refine bq (len:=d.length) (F:=fun n' j (z:Int×Bool)=>cB.l9 N (cB.l5 N n) n' d u L l s (i:Int) z.1 z.2 j) (s:=(_,_)) (fun _ z=>aC z.1) aV (by omega) (fun n' j z hj hz dD=> ?_) (fun n' z hz=> ?_)
  all_goals unfold cB.l9 cB.tk
  ·rw[al (x:=(j:Int)+1) (by omega) (by omega),ae j]
   exact av (fun _=>ax ⟨by omega,by omega⟩ (ok_eq (fun _=>ax ⟨by omega,by omega⟩ (dD (_,_) (G.at hd _).2.1)) fun _=>dD z hz)) fun _=>by omega
  ·refine av (fun _=>by omega) fun _=>bq (len:=u.length) (F:=fun n' j f=>cB.C9 N (cB.l5 N n) n' d u L l s (i:Int) z.1 f j) (fun _ _=>True) trivial (by omega) (fun n' j f hj _ dD=> ?_) (fun n' f _=> ?_)
   all_goals unfold cB.C9 cB.AL
   ·rw[al (x:=(j:Int)+1) (by omega) (by omega),ae j]
    exact av (fun _=>qT (fun _=>dD _ trivial) fun _=>ax ⟨by omega,by omega⟩ (dD _ trivial)) fun _=>by omega
   ·refine av (fun _=>by omega) fun _=>bq (len:=l.length) (F:=fun n' j f=>cB.DB N (cB.l5 N n) n' d u L l s (i:Int) z.1 f j) (fun _ _=>True) trivial (by omega) (fun n' j f hj _ dD=> ?_) (fun n' f _=> ?_)
    all_goals unfold cB.DB cB.A8
    ·rw[al (x:=(j:Int)+1) (by omega) (by omega),ae j]
     exact av (fun _=>qT (fun _=>dD _ trivial) fun _=>ax ⟨by omega,by omega⟩ (dD _ trivial)) fun _=>by omega
    ·rw[al (x:=(i:Int)+1) (by omega) (by omega),ae i]
     dsimp only
     exact av (fun _=>by omega) fun _=>qT (fun _=>af (Sd N hN _ hm hL hl) fun v hv=>aF (by rw[List.length_singleton];omega) (hr _ (G.cat hI (G.one (m:=1) (G2 (gd (by omega) (by omega)) (w1 hz hv)) (Nat.le_refl 1))))) fun _=>hr s (G.mono (by omega) hI)
 ·exact dv (fun _=>by omega) fun _=>ah (G.mono (by omega) hI)
theorem Sf(N:Nat)(hN:200000≤N){l:au}(hl:l.length≤100000)(a:Int):Ok (fun _=>True) (n7 N l a):=by
 unfold n7 n7.b
 refine af (s9 N hN hl) fun _ _=>bH (fun _=>dw) fun _=>ka (len:=l.length) (F:=fun n i=>n7.l4 N n l a i) (by omega) (fun n i hi hr=> ?_) (fun n=> ?_)
 all_goals unfold n7.l4 n7.c5
 ·rw[al (x:=(i:Int)+1) (by omega) (by omega),ae i]
  exact av (fun _=>ax ⟨by omega,by omega⟩ (ok_eq (fun _=>ax ⟨by omega,by omega⟩ dw) fun _=>hr)) fun _=>by omega
 ·exact av (fun _=>by omega) fun _=>dw
theorem MY(N:Nat)(a:Int):Ok (fun _=>True) (Sg N a):=by
 unfold Sg
 exact ok_eq (fun _=>dw) fun _=>dw
theorem Lc(N:Nat)(hN:5000000≤N)(c:aa){b:ag}{d:au}{m:Nat}(hm:m≤50000)(hb:G m az b)(hd:L2 m d)(a k:Int):Ok (fun r=>G m (.slice (.int .i64)) r.1) (n8 N c b d a k):=by
 have hl:=hb.1.1
 have h2:=hd.1
 unfold n8 n8.b
 refine cf (dP N hN hm hb) (bH (fun _=>ah G.nil) fun _=>af (s9 N (by omega) (by omega)) fun _ _=>bH (fun _=>ah G.nil) fun _=>bq (len:=b.1.length) (F:=fun n i s=>n8.l5 N n d a k b s i) (fun i s=>G i (.slice (.int .i64)) s) G.nil (by omega) (fun n i s hi hI hr=> ?_) (fun n s hI=> ?_))
 all_goals unfold n8.l5 n8.c0
 ·have hs:=hI.1
  rw[al (x:=(i:Int)+1) (by omega) (by omega),ae i]
  have h1:=hr s (G.mono (by omega) hI)
  have hx:G 0 (.int .i64) (b.1.getD (i:Int).toNat bI).1:=(G.at hb.1 _).1
  exact av (fun _=>ax ⟨by omega,by omega⟩ (af (MY N _) fun _ _=>qT (fun _=>bE (fun _=>af (nU N (by omega) hm hb.2.2.1 _ _) fun _ _=>av (fun _=>af (Sf N (by omega) (by omega) _) fun _ _=>ok_eq (fun _=>aF (by rw[List.length_singleton];omega) (hr _ (G.cat hI (G.one hx (Nat.le_refl 1))))) fun _=>h1) fun _=>h1) fun _=>h1) fun _=>h1)) fun _=>by omega
 ·exact av (fun _=>by omega) fun _=>ah (G.mono hl hI)
theorem Bb(N:Nat)(hN:200000≤N){a:aD}{m:Nat}(hm:m≤50000)(h:G m (.slice cU) a)(id:Int):Ok aC (ue N a id):=by
 refine lW (wQ N (Nat.le_trans h.1 (by omega)) hN id) ?_
 unfold zc
 split
 ·have: ∀l:aD,(∀x∈l,G m cU x)→aC (qC id l):=by
   intro l
   induction l with
   |nil=>intro _;exact aV
   |cons x t ih=>
    intro hx
    have hi:=ih fun y hy=>hx y (List.mem_cons_of_mem _ hy)
    rw[xN]
    split
    ·split
     ·exact(hx x (List.mem_cons_self ..)).1
     ·exact hi
    ·exact hi
  exact this a h.2
 ·exact aV
abbrev L5(m:Nat)(l:aX):Prop:=G m (.slice oi) l
theorem G5{m:Nat}{a b c d e:Int}(ha:aC a)(hb:aC b)(hc:aC c)(hd:aC d)(he:aC e):G m oi (a,(b,(c,(d,(e,()))))):=⟨ha,hb,hc,hd,he,trivial⟩
theorem E2(N:Nat)(hN:200000≤N){l:aX}{b:ag}{m k:Nat}(hm:m≤50000)(hb:G m az b)(hk:k≤1000000)(hl:L5 k l){a d n:Int}(ha:aC a)(hd:aC d)(hn:aC n):Ok (fun r=>L5 (k+1) r) (Ld N l b a d n):=by
 have h1:=hl.1
 unfold Ld
 exact af (nU N hN hm hb.2.2.1 _ _) fun x hx=>av (fun _=>aF (by rw[List.length_singleton];omega) (ah (G.cat hl (G.one (m:=1) (G5 ha hd hn hx aV) (Nat.le_refl 1))))) fun _=>ah (G.mono (by omega) hl)
theorem Sh(N:Nat)(hN:5000000≤N){c:aa}{b:ag}{d g:au}{a:Int}{m:Nat}(hm:m≤50000)(hc:G m aq c)(hb:G m az b)(hd:L2 m d)(hg:L2 m g)(ha:aC a):Ok (fun r=>L5 1000000 r.1) (cm N c b a d g):=by
 have h1:=hb.1.1
 have h2:=hd.1
 have h3:=hg.1
 have h4:=hb.2.1.1
 have hj: ∀l:aX,L5 1 l→Ok (fun r=>L5 1000000 r.1) (cm.j9 N a d g c b l):=fun l hl=>by
  unfold cm.j9 cm.Ki
  refine af (E2 N (by omega) hm hb (by omega) hl aW aW ha) fun l hl=>af (E2 N (by omega) hm hb (by omega) hl aW aW aV) fun l hl=>iU (len:=5) (F:=fun n k s=>cm.kL N n a d g c b s k) (fun k s=>L5 (3+m*k) s) (fun n k s hk hs hr=> ?_) (fun n s hs=> ?_) 5 N 1 l (by omega) (by omega) (by omega) (G.mono (by omega) hl)
  all_goals unfold cm.kL cm.jV
  ·have hmk:m*k≤m*4:=Nat.mul_le_mul_left m (by omega)
   refine dv (fun _=>af (Lc N hN c hm hb hd _ _) fun t ht=> ?_) fun _=>by omega
   have htl:=ht.1
   refine bq (len:=t.1.length) (F:=fun n' j u=>cm.tp N (cm.kL N n) n' a d g c b u (k:Int) t.1 j) (fun j u=>L5 (3+m*k+j) u) hs (by omega) (fun n' j u hj hu dD=> ?_) (fun n' u hu=> ?_)
   all_goals unfold cm.tp cm.se
   ·rw[al (x:=(j:Int)+1) (by omega) (by omega),ae j]
    exact av (fun _=>ax ⟨by omega,by omega⟩ (af (E2 N (by omega) hm hb (by omega) hu (dY _) aW (G.at ht _)) fun v hv=>dD v hv)) fun _=>by omega
   ·rw[al (x:=(k:Int)+1) (by omega) (by omega),ae k]
    exact av (fun _=>by omega) fun _=>hr u (G.mono (by rw[Nat.mul_succ];omega) hu)
  ·refine dv (fun _=>by omega) fun _=>bq (len:=b.1.length) (F:=fun n j u=>cm.E1 N n a g c b u j) (fun j u=>L5 (3+m*5+j) u) hs (by omega) (fun n j u hj hu hr=> ?_) (fun n u hu=> ?_)
   all_goals unfold cm.E1 cm.La
   ·have hul:=hu.1
    have hx:aC (b.1.getD (j:Int).toNat bI).1:=(G.at hb.1 _).1
    rw[al (x:=(j:Int)+1) (by omega) (by omega),ae j]
    have h0:=hr u (G.mono (by omega) hu)
    exact av (fun _=>ax ⟨by omega,by omega⟩ (af (MY N _) fun _ _=>bH (fun _=>h0) fun _=>ok_eq (fun _=>h0) fun _=>af (a7 N (by omega) hc.2.2.1) fun p hp=>af (nU N (by omega) hm hb.2.2.1 _ _) fun q hq=>af (a7 N (by omega) hq) fun q hq=>af (kb N (by omega) (by omega) (by omega) hp hq) fun y hy=>af (uy N hy) fun v hv=>bH (fun _=>ah G.nil) fun _=>av (fun _=>aF (by rw[List.length_singleton];omega) (hr _ (G.mono (by omega) (G.cat hu (G.one (m:=1) (G5 (show aC 8 from aW) (show aC 7 from aW) hx hv aV) (Nat.le_refl 1)))))) fun _=>h0)) fun _=>by omega
   ·refine av (fun _=>by omega) fun _=>bq (len:=g.length) (F:=fun n j u=>cm.Kz N n a g b u j) (fun j u=>L5 (3+m*5+m+j) u) (G.mono (by omega) hu) (by omega) (fun n j u hj hu hr=> ?_) (fun n u hu=> ?_)
    all_goals unfold cm.Kz cm.G7
    ·have hul:=hu.1
     rw[al (x:=(j:Int)+1) (by omega) (by omega),ae j]
     have h0:=hr u (G.mono (by omega) hu)
     dsimp only
     exact av (fun _=>ax ⟨by omega,by omega⟩ (af (s4 N (by omega) hm hb.2.1 _) fun x hx=>ax ⟨by omega,by omega⟩ (ax ⟨by omega,by omega⟩ (af (nU N (by omega) hm hb.2.2.1 _ _) fun q hq=>qT (fun _=>bE (fun _=>av (fun _=>aF (by rw[List.length_singleton];omega) (hr _ (G.mono (by omega) (G.cat hu (G.one (m:=1) (G5 (show aC 9 from aW) (show aC 5 from aW) hx.1 (Ve (G.at hg _).2.1 hq) aV) (Nat.le_refl 1)))))) fun _=>h0) fun _=>h0) fun _=>h0)))) fun _=>by omega
    ·exact av (fun _=>by omega) fun _=>ah (G.mono (by omega) hu)
 unfold cm cm.b
 exact cf (dP N hN hm hb) (bH (fun _=>ah G.nil) fun _=>af (s9 N (by omega) (by omega)) fun _ _=>bH (fun _=>ah G.nil) fun _=>af (DC N (by omega) (by omega)) fun _ _=>bH (fun _=>ah G.nil) fun _=>af (ni N (by omega) hm hb.1 _) fun _ _=>ok_eq (fun _=>ah G.nil) fun _=>af (Bb N (by omega) hm hb.2.1 _) fun h hh=>bE (fun _=>af (E2 N (by omega) hm hb (by omega) (G.nil (m:=0)) aW aW hh) fun l hl=>hj l hl) fun _=>hj [] G.nil)
end VM
end
section
namespace VM
open Go VM.F
theorem O0(N:Nat)(hN:5000000≤N)(c:aa){b:ag}{m:Nat}(hm:m≤50000)(hb:G m az b):Ok (fun r=>aC r.1) (Vw N c b):=by
 unfold Vw
 exact cf (dP N hN hm hb) (bH (fun _=>ah aV) fun _=>af (nU N (by omega) hm hb.2.2.1 _ _) fun x hx=>ok_eq (fun _=>ah aV) fun _=>ah (w1 (dY _) aV))
theorem Le(N:Nat)(hN:5000000≤N)(c:aa){b:ag}{m:Nat}(hm:m≤50000)(hb:G m az b):Ok (fun r=>aC r.1) (Vx N c b):=by
 unfold Vx
 exact cf (dP N hN hm hb) (bH (fun _=>ah aV) fun _=>af (nU N (by omega) hm hb.2.2.1 _ _) fun x hx=>ah (w1 hx aV))
theorem acG(N:Nat)(a b:Int):Ok (fun _=>True) (Kl N a b):=by
 unfold Kl
 repeat' first|exact dw|refine ok_eq (fun _=> ?_) (fun _=> ?_)|refine dv (fun _=> ?_) (fun _=> ?_)
theorem O1(N:Nat)(hN:200000≤N)(l:aX):Ok (fun r=>r=true→l.length≤64) (n9 N l):=by
 have hf:Ok (fun r=>r=true→l.length≤64) (some false):=ah fun h=>nomatch h
 unfold n9 n9.b
 refine av (fun _=>hf) fun hl=>ka (len:=l.length) (F:=fun n i=>n9.l4 N n l i) (by omega) (fun n i hi hr=> ?_) (fun n=> ?_)
 all_goals unfold n9.l4 n9.c5
 ·rw[al (x:=(i:Int)+1) (by omega) (by omega),ae i]
  dsimp only
  repeat' first|exact hr|exact hf|refine ax ⟨by omega,by omega⟩ ?_|refine ax (by rw[al (x:=(i:Int)-1) (by omega) (by omega)];omega) ?_|refine av (fun _=> ?_) (fun _=> ?_)|refine dv (fun _=> ?_) (fun _=> ?_)|refine ok_eq (fun _=> ?_) (fun _=> ?_)|(exfalso;omega)|refine af (acG N _ _) fun _ _=> ?_|refine bH (fun _=> ?_) (fun _=> ?_)
 ·exact av (fun _=>by omega) fun _=>ah fun _=>by omega
theorem MZ{σ β:Type}{P:β→Prop}{F:Nat→Int→σ→Option β}{len:Nat}(I:σ→Prop)
  (hs: ∀n i s,i<len→I s→(∀j s',i<j→j≤len→I s'→Ok P (F n (j:Int) s'))→Ok P (F (n+1) (i:Int) s)) (he: ∀n s,I s→Ok P (F (n+1) (len:Int) s)):
  ∀m n i s,len-i≤m→m<n→i≤len→I s→Ok P (F n (i:Int) s)
 |m,0,i,s,_,hn,_,_=>by omega
 |m,n+1,i,s,hm,hn,hi,hI=>by
  by_cases h:i<len
  ·exact hs n i s h hI fun j s' hj TY tE=>MZ I hs he (m-1) n j s' (by omega) (by omega) TY tE
  ·have:i=len:=by omega
   subst this
   exact he n s hI
theorem G5q{m:Nat}{x:fZ}{q:Int}(h:G m oi x)(hq:aC q):G m oi (x.1,(x.2.1,(x.2.2.1,(x.2.2.2.1,(q,x.2.2.2.2.2))))):=⟨h.1,h.2.1,h.2.2.1,h.2.2.2.1,hq,trivial⟩
theorem aic: ∀{w:List Int},Pos w→0≤w.sum
 |[],_=>Int.le_refl _
 |x::t,h=>by
  rw[List.sum_cons]
  have:=h x (List.mem_cons_self ..)
  have:=aic (w:=t) fun y hy=>h y (List.mem_cons_of_mem _ hy)
  omega
theorem O2{t:Int}{w:List Int}(h1:t<9223372036854775808)(h:(nP t w).2=0):(nP t w).1.length=w.length∧EA (nP t w).1:=by
 unfold nP at h ⊢
 split at h
 ·exact absurd h (by decide)
 ·split at h
  ·exact absurd h (by decide)
  ·rename_i h2 h3
   split at h
   ·split at h
    ·rename_i h4 h5
     rw[if_neg h2,if_neg h3,if_pos h4,if_pos h5]
     exact⟨List.length_replicate ..,fun x hx=>by rw[List.eq_of_mem_replicate hx];decide⟩
    ·exact absurd h (by decide)
   ·rename_i h4
    rw[if_neg h2,if_neg h3,if_neg h4]
    have hm:may w=true:=by
     by_cases hm:may w=true
     ·exact hm
     ·exact absurd (Or.inr (Bool.eq_false_iff.2 hm)) h2
    have hp:=(ln.1 hm).2
    have h0:0≤t:=by omega
    have hS:0<w.sum:=by have:=aic hp;omega
    exact⟨kR t w,aay (qL h0 hS hp) (by rw[qK h0 hS];exact h1)⟩
theorem Lf(N:Nat)(hN:5000000≤N){l:aX}{q:Int}{m:Nat}(hl:L5 m l)(hq:aC q):Ok (fun r=>L5 64 r.1∧aC r.2.1) (cJ N l q):=by
 have ei: ∀e:Int,Ok (fun r:aX×Int×Int=>L5 64 r.1∧aC r.2.1) (some ([],((0:Int),e))):=fun e=>ah ⟨G.nil,aV⟩
 unfold cJ cJ.b
 refine af (O1 N (by omega) l) fun z hz=>bH (fun _=>ei _) fun ht=>av (fun _=>ei _) fun _=> ?_
 have mK:=hz ht
 rw[List.nil_append]
 refine aF (by rw[List.length_nil];omega) (MZ (len:=l.length) (F:=fun n i (s:aX×Int)=>cJ.l5 N n s.1 s.2 i) (fun s=>s.1.length=l.length∧L5 64 s.1∧aC s.2) (fun n i s hi hI hr=> ?_) (fun n s hI=> ?_) l.length N 0 (l,q) (by omega) (by omega) (by omega) ⟨rfl,⟨mK,fun x hx=>G.mono (m:=0) (Nat.zero_le _) (hl.2 x hx)⟩,hq⟩)
 all_goals unfold cJ.l5 cJ.c0
 ·obtain⟨LY,Mh,hs3⟩:=hI
  refine av (fun _=> ?_) fun _=>by omega
  have fin: ∀(k:Nat) (w:List Int),i<k→k≤l.length→w.length=k-i→EA w→Ok (fun r=>L5 64 r.1∧aC r.2.1) (cJ.JO N (cJ.l5 N n) s.1 s.2 (i:Int) (k:Int) w):=fun k w hk zB hw KO=>by
   unfold cJ.JO cJ.A7
   have zy:aC (mn (B4 w.sum).1 s.2):=Ve (K0 _) hs3
   refine cf (uc N (by omega) KO (by omega)) (cf (qu N _) (bH (fun _=>ei _) fun _=>cf (wU N hN zy.2 KO (by omega)) (bE (fun _=>ei _) fun h0=> ?_)))
   obtain⟨e1,e2⟩:=O2 zy.2 h0
   generalize (nP (mn (B4 w.sum).1 s.2) w).1=v at*
   refine iU (len:=k) (F:=fun n' j (z:aX×Int)=>cJ.DB N (cJ.l5 N n) n' z.1 z.2 (i:Int) (k:Int) v j) (fun j z=>i≤j∧z.1.length=l.length∧L5 64 z.1∧aC z.2) (fun n' j z hj hz dD=> ?_) (fun n' z hz=> ?_) k N i s (by omega) (by omega) (by omega) ⟨Nat.le_refl i,LY,Mh,hs3⟩
   all_goals unfold cJ.DB cJ.A8
   ·obtain⟨oH,yZ,JJ,hz3⟩:=hz
    dsimp only
    rw[al (x:=(j:Int)+1) (by omega) (by omega),ae j,al (x:=(j:Int)-i) (by omega) (by omega)]
    exact av (fun _=>ax ⟨by omega,by omega⟩ (ax ⟨by omega,by omega⟩ (ax ⟨by omega,by omega⟩ (dD (_,_) ⟨by omega,by dsimp only;rw[List.length_set];exact yZ,G.set JJ (G5q (G.at JJ _) (pR e2 _)) _,dY _⟩)))) fun _=>by omega
   ·exact av (fun _=>by omega) fun _=>hr k z hk zB hz.2
  refine iU (len:=l.length) (F:=fun n' k w=>cJ.l8 N (cJ.l5 N n) n' s.1 s.2 (i:Int) k w) (fun k w=>i≤k∧w.length=k-i∧EA w) (fun n' k w hk hw dD=> ?_) (fun n' w hw=> ?_) l.length N i [] (by omega) (by omega) (by omega) ⟨Nat.le_refl i,by rw[List.length_nil];omega,fun x hx=>nomatch hx⟩
  all_goals unfold cJ.l8 cJ.wk
  ·obtain⟨hik,hwl,KO⟩:=hw
   rw[al (x:=(k:Int)+1) (by omega) (by omega),ae k]
   refine av (fun _=>ax ⟨by omega,by omega⟩ (ax ⟨by omega,by omega⟩ (ok_eq (fun _=>ax ⟨by omega,by omega⟩ (aF (by rw[List.length_singleton];omega) (dD _ ⟨by omega,by rw[List.length_append,List.length_singleton];omega,fun x hx=> ?_⟩))) fun gi=> ?_))) fun _=>by omega
   ·rcases List.mem_append.1 hx with hx|hx
    ·exact KO x hx
    ·rw[List.mem_singleton.1 hx];exact(G.at Mh _).2.2.2.1
   ·refine fin k w ?_ (by omega) hwl KO
    by_cases e:k=i
    ·subst e;exact absurd rfl gi
    ·omega
  ·exact av (fun _=>by omega) fun _=>fin l.length w hi (Nat.le_refl _) hw.2.1 hw.2.2
 ·exact av (fun _=>by omega) fun _=>ah ⟨hI.2.1,hI.2.2⟩
abbrev R0:c3:=((0:Int),((0:Int),(([]:aX),((0:Int),()))))
theorem O3(N:Nat)(hN:5000000≤N){c:aa}{b:ag}{d g:au}{a:Int}{m:Nat}(h2:200≤m)(hm:m≤40000)(hc:G m aq c)(hb:G m az b)(hd:L2 m d)(hg:L2 m g)(ha:aC a):Ok (fun r=>G m az r.1∧G m dZ r.2.1) (il N c b a d g):=by
 have ei: ∀e:Int,Ok (fun r:ag×c3×Int=>G m az r.1∧G m dZ r.2.1) (some ((bF,(cc,(aY,(aY,(cv,(cF,())))))),(R0,e))):=fun e=>ah ⟨G.fp,G.zero m dZ⟩
 unfold il il.b
 refine af (Sh N hN (by omega) hc hb hd hg ha) fun l hl=>ok_eq (fun _=>ei _) fun _=>ok_eq (fun _=>ei _) fun _=>af (O0 N hN c (by omega) hb) fun q hq=>bE (fun _=>ei _) fun _=>bE (fun _=>ei _) fun _=>af (Lf N hN hl hq) fun z ⟨yZ,JJ⟩=>bE (fun _=>ei _) fun _=> ?_
 have hzl:=yZ.1
 have hj: ∀(p:br) (r:c3) (t:aX) (x k n:Int),gw 1000 p→G m dZ r→L5 64 t→aC x→Ok (fun r=>G m az r.1∧G m dZ r.2.1) (il.j26 N b (bF,(cc,(aY,(aY,(cv,(cF,())))))) R0 p r t x k n):=fun p r t x k n hp hr ht hx=>by
  have BF:=hp.1
  unfold il.j26 il.acH
  exact af (a7 N (by omega) hx) fun v hv=>af (pd N (by omega) _ _ _ _ (Bg.mono hv (by omega))) fun u hu=>aF (by have:=hu.1;omega) (af (o9 N (by omega) h2 (by omega) hb G.nil (gw.mono (gw.app hp hu) (by omega))) fun w hw=>bE (fun _=>ei _) fun _=>ah ⟨hw,hr.1,hr.2.1,G.mono (by omega) ht,hr.2.2.2⟩)
 refine bq (len:=z.1.length) (F:=fun n i (s:br×c3×aX)=>il.OL N n a c b (bF,(cc,(aY,(aY,(cv,(cF,())))))) R0 z.1 z.2.1 s.1 s.2.1 s.2.2 i) (s:=(_,(_,_))) (fun i s=>gw (2*i) s.1∧G m dZ s.2.1∧L5 i s.2.2) ⟨gw.nil,⟨ha,hq,G.nil,JJ,trivial⟩,G.nil⟩ (by omega) (fun n i s hi hI hr=> ?_) (fun n s hI=> ?_)
 all_goals unfold il.OL il.K2
 ·obtain⟨h4,h5,h6⟩:=hI
  have hp:=h4.1
  have ht:=h6.1
  have hx:G 0 oi (z.1.getD (i:Int).toNat eC):=G.at yZ _
  rw[al (x:=(i:Int)+1) (by omega) (by omega),ae i]
  exact av (fun _=>ax ⟨by omega,by omega⟩ (av (fun _=>ax ⟨by omega,by omega⟩ (aF (by rw[List.length_singleton];omega) (ax ⟨by omega,by omega⟩ (ax ⟨by omega,by omega⟩ (ax ⟨by omega,by omega⟩ (af (a7 N (by omega) hx.2.2.2.2.1) fun v hv=>af (pd N (by omega) _ _ _ _ (Bg.mono hv (by omega))) fun u hu=>aF (by have:=hu.1;omega) (hr (_,(_,_)) ⟨gw.mono (gw.app h4 hu) (by omega),⟨h5.1,h5.2.1,G.nil,h5.2.2.2⟩,G.cat h6 (G.one hx (Nat.le_refl 1))⟩))))))) fun _=>hr s ⟨gw.mono h4 (by omega),h5,G.mono (by omega) h6⟩)) fun _=>by omega
 ·obtain⟨h4,h5,h6⟩:=hI
  have hp:=h4.1
  dsimp only
  exact av (fun _=>by omega) fun _=>af (a7 N (by omega) JJ) fun v hv=>af (pd N (by omega) _ _ _ _ (Bg.mono hv (by omega))) fun u hu=>aF (by have:=hu.1;omega) (af (Le N hN c (by omega) hb) fun x hx=>af (Bb N (by omega) (by omega) hb.2.1 _) fun h hh=>bE (fun _=>hj _ _ _ _ _ _ (gw.mono (gw.app h4 hu) (by omega)) h5 (G.mono (by omega) h6) hx) fun _=>hj _ _ _ _ _ _ (gw.mono (gw.app h4 hu) (by omega)) h5 (G.mono (by omega) h6) hx)
end VM
end
section
namespace VM
open Go VM.F
theorem O4(N:Nat)(hN:5000000≤N){t:Int}{w:List Int}(ht:t<9223372036854775808)(hw:EA w)(hl:w.length≤1000000):Ok (fun r=>r.2.2=0→r.1.length=w.length∧EA r.1) (db N t w w):=by
 refine lW (KP N hN ht hw hw hl) fun h0=> ?_
 have f:=KQ ht hw h0
 have c:=f.c
 have hl2:=c.l2
 refine⟨hl2,fun x hx=> ?_⟩
 obtain⟨i,hi,e⟩:=List.getElem_of_mem hx
 have h1:=c.le i (by omega)
 have h2:=(c.pc i).2
 have h3:=c.po i
 rw[List.getD_eq_getElem?_getD (l:=(qO t w w).1),List.getElem?_eq_getElem hi,Option.getD_some,e]at h1 h3
 exact⟨by omega,by omega⟩
theorem Vy(N:Nat)(hN:5000000≤N)(c:aa){b:ag}{m:Nat}(hm:m≤40000)(hb:G m az b){a:Int}(ha:aC a):Ok (fun r=>L3 (m+1) r.1) (qW N c b a):=by
 have w:=(G.wf (by omega) hb).w
 have hl:=hb.2.2.2.1.1
 unfold qW qW.b
 refine cf (dP N hN (by omega) hb) (bH (fun _=>ah G.nil) fun _=>av (fun _=>ah G.nil) fun _=>dv (fun _=>ah G.nil) fun _=>cf (o3 N w.s (by omega) 0 a) (ok_eq (fun _=>ah G.nil) fun _=> ?_))
 have hq:=Ex w.qs 0 a
 generalize dX b.2.2.2.1 0 a=q at*
 refine bq (len:=b.2.2.2.1.length) (F:=fun n i (s:List Int×List Int)=>qW.Dz N n a b q s.1 s.2 i) (s:=(_,_)) (fun i s=>s.1.length≤i∧s.2.length=s.1.length∧EA s.1∧EA s.2) ⟨Nat.zero_le _,rfl,(fun x hx=>nomatch hx),fun x hx=>nomatch hx⟩ (by omega) (fun n i s hi hI hr=> ?_) (fun n s hI=> ?_)
 all_goals unfold qW.Dz qW.A5
 ·obtain⟨h1,h2,h3,h4⟩:=hI
  have hx:G 0 fA (b.2.2.2.1.getD (i:Int).toNat aQ):=G.at hb.2.2.2.1 _
  rw[al (x:=(i:Int)+1) (by omega) (by omega),ae i]
  have h0:=hr s ⟨by omega,h2,h3,h4⟩
  have sn: ∀{l:List Int} {x:Int},EA l→aC x→EA (l++[x]):=fun hl hx y hy=>(List.mem_append.1 hy).elim (hl y) fun hy=>by rw[List.mem_singleton.1 hy];exact hx
  dsimp only
  exact av (fun _=>ax ⟨by omega,by omega⟩ (bE (fun _=>ok_eq (fun _=>qT (fun _=>aF (by rw[List.length_singleton];omega) (aF (by rw[List.length_singleton];omega) (hr (_,_) ⟨by dsimp only;rw[List.length_append,List.length_singleton];omega,by dsimp only;rw[List.length_append,List.length_append,List.length_singleton,List.length_singleton];omega,sn h3 hx.1,sn h4 (w1 hx.2.2.1 (dY _))⟩))) fun _=>h0) fun _=>h0) fun _=>h0)) fun _=>by omega
 ·obtain⟨h1,h2,h3,h4⟩:=hI
  refine av (fun _=>by omega) fun _=>af (O4 N hN (w1 hq (dY _)).2 h4 (by omega)) fun z hz=>bE (fun _=>ah G.nil) fun h0=> ?_
  obtain⟨e1,e2⟩:=hz h0
  refine bq (len:=z.1.length) (F:=fun n i u=>qW.l21 N n a q s.1 z.1 u i) (fun i u=>L3 (1+i) u) (G.one (m:=1) (G3 aV ha (dY _)) (Nat.le_refl 1)) (by omega) (fun n i u hi hu hr=> ?_) (fun n u hu=> ?_)
  all_goals unfold qW.l21 qW.acJ
  ·have hul:=hu.1
   rw[al (x:=(i:Int)+1) (by omega) (by omega),ae i]
   have h0:=hr u (G.mono (by omega) hu)
   have put: ∀x:Int,aC x→Ok (fun r=>L3 (m+1) r.1) (cond (small (u.length+[((s.1.getD (i:Int).toNat 0,(a,(x,()))):bW)].length)) (qW.l21 N n a q s.1 z.1 (u++[(s.1.getD (i:Int).toNat 0,(a,(x,())))]) ((i+1:Nat):Int)) none):=fun x hx=>aF (by rw[List.length_singleton];omega) (hr _ (G.mono (by omega) (G.cat hu (G.one (m:=1) (G3 (pR h3 _) ha hx) (Nat.le_refl 1)))))
   dsimp only
   exact av (fun _=>ax ⟨by omega,by omega⟩ (av (fun _=>bE (fun _=>ax ⟨by omega,by omega⟩ (put _ (dY _))) fun _=>h0) fun _=>bE (fun _=>ax ⟨by omega,by omega⟩ (put _ (pR e2 _))) fun _=>h0)) fun _=>by omega
  ·exact av (fun _=>by omega) fun _=>ah (G.mono (by omega) hu)
theorem Vz(N:Nat)(hN:5000000≤N){c:aa}{b:ag}{m:Nat}(h2:200≤m)(hm:m≤7000)(hc:G 5 aq c)(hb:G m az b):Ok (fun r=>G m az r.1) (Bc N c b):=by
 have Fp:=hc.1.1
 unfold Bc Bc.b
 refine cf (dP N hN (by omega) hb) (bH (fun _=>ah G.fp) fun _=>bq (len:=c.1.length) (F:=fun n i s=>Bc.l5 N n c b (bF,(cc,(aY,(aY,(cv,(cF,())))))) s i) (fun i s=>L3 ((m+1)*i) s) G.nil (by omega) (fun n i s hi hI hr=> ?_) (fun n s hI=> ?_))
 all_goals unfold Bc.l5 Bc.c0
 ·have hs:=hI.1
  have hmi:(m+1)*i≤(m+1)*5:=Nat.mul_le_mul_left _ (by omega)
  rw[al (x:=(i:Int)+1) (by omega) (by omega),ae i]
  exact av (fun _=>af (Vy N hN c (by omega) hb (gd (by omega) (by omega))) fun r S5=>bE (fun _=>ah G.fp) fun _=>aF (by have:=S5.1;omega) (hr _ (G.mono (by rw[Nat.mul_succ];omega) (G.cat hI S5)))) fun _=>by omega
 ·have hmi:(m+1)*c.1.length≤(m+1)*5:=Nat.mul_le_mul_left _ (by omega)
  exact av (fun _=>by omega) fun _=>af (o9 N (by omega) h2 (by omega) hb (G.mono (by omega) hI) gw.nil) fun r hr=>ah hr
end VM
end
section
namespace VM
open Go VM.F
theorem VA(N:Nat)(hN:200000≤N){l:aD}{m:Nat}(hm:m≤50000)(h:G m (.slice cU) l)(a:Int):Ok (fun r=>G 0 cU r.1) (Bd N l a):=by
 have hl:=h.1
 have hz:G 0 cU aJ:=G.zero 0 cU
 unfold Bd Bd.b
 refine cf (sj N (by omega) hN) (bH (fun _=>ah hz) fun _=>bq (len:=l.length) (F:=fun n i (z:bh×Bool)=>Bd.l6 N n l a aJ z.1 z.2 i) (s:=(_,_)) (fun _ z=>G 0 cU z.1) hz (by omega) (fun n i z hi hI hr=> ?_) (fun n z hI=> ?_))
 all_goals unfold Bd.l6 Bd.pn
 ·rw[al (x:=(i:Int)+1) (by omega) (by omega),ae i]
  have hx:G 0 cU (l.getD (i:Int).toNat aJ):=G.at h _
  have h1:=hr z hI
  have h2:=hr (_,true) hx
  repeat' first|exact h1|exact h2|refine ax ⟨by omega,by omega⟩ ?_|refine av (fun _=> ?_) (fun _=> ?_)|refine ok_eq (fun _=> ?_) (fun _=> ?_)|refine bH (fun _=> ?_) (fun _=> ?_)|(exfalso;omega)
 ·exact av (fun _=>by omega) fun _=>ah hI
theorem GL{m:Nat}{a b d e f:Int}{l:au}(ha:aC a)(hl:L2 m l)(hb:aC b)(hd:aC d)(he:aC e)(hf:aC f):G m gA (a,(l,(b,(d,(e,(f,())))))):=⟨ha,hl,hb,hd,he,hf,trivial⟩
theorem LL.app{m:Nat}{k:Nat}{l:aZ}{x:gr}(hl:l.length≤k∧ ∀y∈l,G m gA y)(hx:G m gA x):(l++[x]).length≤k+1∧ ∀y∈l++[x],G m gA y:=
 ⟨by rw[List.length_append,List.length_singleton];have:=hl.1;omega,fun y hy=>(List.mem_append.1 hy).elim (hl.2 y) fun hy=>by rw[List.mem_singleton.1 hy];exact hx⟩
theorem Si(N:Nat)(hN:5000000≤N)(c:aa){b:ag}{L:aZ}{l:aD}{m:Nat}(h2:200≤m)(hm:m≤2000)(hb:G m az b)(hL:LL m L)(hl:G m (.slice cU) l):Ok (fun r=>G m az r.1∧LL m r.2.1) (pv N c b L l):=by
 have ei: ∀e:Int,Ok (fun r:ag×aZ×Int=>G m az r.1∧LL m r.2.1) (some ((bF,(cc,(aY,(aY,(cv,(cF,())))))),([],e))):=fun e=>ah ⟨G.fp,G.nil⟩
 have h3:=hL.1
 have h4:=hl.1
 have hw:G8 L:=fun y hy=>Nat.le_trans (hL.2 y hy).2.1.1 (by omega)
 unfold pv pv.b
 refine cf (dP N hN (by omega) hb) (bH (fun _=>ei _) fun _=>cf (Au N (by omega) c (by omega) hw) (bH (fun _=>ei _) fun hk=>cf (sj N (by omega) (by omega)) (bH (fun _=>ei _) fun _=> ?_)))
 have h12:L.length≤12:=by
  unfold KB at hk
  exact of_decide_eq_true (Bool.and_eq_true_iff.1 (Bool.and_eq_true_iff.1 hk).2).1
 refine bq (len:=L.length) (F:=fun n i (z:aj×br×aZ)=>pv.l7 N n L l b (bF,(cc,(aY,(aY,(cv,(cF,())))))) z.1 z.2.1 z.2.2 i) (s:=(_,(_,_))) (fun i z=>L3 (2*m*i) z.1∧gw (2*i) z.2.1∧z.2.2.length≤i∧ ∀y∈z.2.2,G m gA y) ⟨G.nil,gw.nil,Nat.zero_le _,fun y hy=>nomatch hy⟩ (by omega) (fun n i z hi hI hr=> ?_) (fun n z hI=> ?_)
 all_goals unfold pv.l7 pv.oT
 ·obtain⟨h5,h6,h7⟩:=hI
  have h8:=h6.1
  have h9:=h7.1
  have hmi:2*m*i≤2*m*12:=Nat.mul_le_mul_left _ (by omega)
  have hms:2*m*(i+1)=2*m*i+2*m:=Nat.mul_succ _ _
  have hx:G m gA (L.getD (i:Int).toNat ((0:Int),(bF,aJ))):=G.at hL _
  have hxl:=hx.2.1.1
  rw[al (x:=(i:Int)+1) (by omega) (by omega),ae i]
  dsimp only
  rw[List.nil_append]
  have put: ∀x:gr,G m gA x→Ok (fun r=>G m az r.1∧LL m r.2.1) (cond (small (z.2.2.length+[x].length)) (pv.l7 N n L l b (bF,(cc,(aY,(aY,(cv,(cF,())))))) z.1 z.2.1 (z.2.2++[x]) ((i+1:Nat):Int)) none):=fun x hx=>aF (by rw[List.length_singleton];omega) (hr (z.1,(z.2.1,z.2.2++[x])) ⟨G.mono (by omega) h5,gw.mono h6 (by omega),LL.app h7 hx⟩)
  refine av (fun _=>ax ⟨by omega,by omega⟩ (aF (by rw[List.length_nil];omega) (bE (fun _=>put _ hx) fun _=>af (VA N (by omega) (by omega) hl _) fun w hw=>bH (fun _=>put _ (GL hx.1 hx.2.1 hx.2.2.1 (show aC 3 from aW) hx.2.2.2.2.1 hx.2.2.2.2.2.1)) fun _=>af (Bb N (by omega) (by omega) hb.2.1 _) fun h hh=>ok_eq (fun _=>ei _) fun _=>af (s7 N (by omega) (by omega) hb _) fun _ _=>ok_eq (fun _=>ei _) fun _=> ?_))) fun _=>by omega
  have pL:=GL hx.1 hx.2.1 hx.2.2.1 (show aC 2 from aW) hw.2.2.1 hw.2.2.2.1
  generalize hX:(((L.getD (i:Int).toNat ((0:Int),(bF,aJ))).1,((L.getD (i:Int).toNat ((0:Int),(bF,aJ))).2.1,((L.getD (i:Int).toNat ((0:Int),(bF,aJ))).2.2.1,((2:Int),(w.1.2.2.1,(w.1.2.2.2.1,())))))):gr)=X at pL
  have hXl:X.2.1.length≤m:=pL.2.1.1
  refine bq (len:=X.2.1.length) (F:=fun n' j u=>pv.tq N (pv.l7 N n) n' L l b (bF,(cc,(aY,(aY,(cv,(cF,())))))) u z.2.1 z.2.2 (i:Int) X w.1 h j) (s:=z.1) (fun j u=>L3 (2*m*i+2*j) u) h5 (by omega) (fun n' j u hj hu dD=> ?_) (fun n' u hu=> ?_)
  all_goals unfold pv.tq pv.sf
  ·have hul:=hu.1
   have hy:G m gC (X.2.1.getD (j:Int).toNat bI):=G.at pL.2.1 _
   dsimp only
   rw[al (x:=(j:Int)+1) (by omega) (by omega),ae j]
   exact av (fun _=>ax ⟨by omega,by omega⟩ (ax ⟨by omega,by omega⟩ (ax ⟨by omega,by omega⟩ (ax ⟨by omega,by omega⟩ (aF (by rw[s6];omega) (dD _ (G.mono (by omega) (G.cat hu (G.two (m:=2) (G3 aV hy.1 (dY _)) (G3 hh hy.1 hy.2.1) (Nat.le_refl 2)))))))))) fun _=>by omega
  ·refine av (fun _=>by omega) fun _=>af (a7 N (by omega) hw.2.2.2.1) fun v hv=>af (pd N (by omega) _ _ _ _ (Bg.mono hv (by omega))) fun p hp=>aF (by have:=hp.1;omega) (aF (by rw[List.length_singleton];omega) ?_)
   rw[al (x:=(i:Int)+1) (by omega) (by omega),ae i]
   exact hr (_,(_,_)) ⟨G.mono (by omega) hu,gw.mono (gw.app h6 hp) (by omega),LL.app h7 pL⟩
 ·obtain⟨h5,h6,h7⟩:=hI
  have hmi:2*m*L.length≤2*m*12:=Nat.mul_le_mul_left _ (by omega)
  exact av (fun _=>by omega) fun _=>af (o9 N (by omega) h2 (by omega) hb (G.mono (by omega) h5) (gw.mono h6 (by omega))) fun r hr=>bE (fun _=>ei _) fun _=>ah ⟨hr,Nat.le_trans h7.1 (by omega),h7.2⟩
end VM
end
section
namespace VM
open Go VM.F
theorem Sj{l:aD}(h:jT l=true):l.length≤24:=by
 unfold jT at h
 rw[Bool.and_true]at h
 have h:=of_decide_eq_true h
 have key: ∀i,i<l.length→(i:Int)+1≤(l.getD i aJ).1:=by
  intro i
  induction i with
  |zero=>intro hi;exact(h 0 hi).1.1.1
  |succ i ih=>
   intro hi
   have h1:=ih (by omega)
   have h2:(l.getD i aJ).1<(l.getD (i+1) aJ).1:=(h (i+1) hi).2.1 (by omega)
   have g: ∀a b:Int,(i:Int)+1≤a→a<b→((i+1:Nat):Int)+1≤b:=fun a b h1 h2=>by omega
   exact g _ _ h1 h2
 by_cases hl:l.length≤24
 ·exact hl
 ·have h1:=key 24 (by omega)
  have h2:=(h 24 (by omega)).1.1.2
  have g: ∀a:Int,((24:Nat):Int)+1≤a→a≤24→False:=fun a h1 h2=>by omega
  exact(g _ h1 h2).elim
theorem O5(N:Nat)(hN:5000000≤N){c:aa}{b:ag}{m:Nat}(hm:m≤40000)(hc:G m aq c)(hb:G m az b)(a:Int):Ok (fun r=>aC r.1) (VB N c b a):=by
 unfold VB Sc
 exact cf (dP N hN (by omega) hb) (bH (fun _=>ah aV) fun _=>af (s4 N (by omega) (by omega) hb.2.1 _) fun _ _=>bH (fun _=>ah aV) fun _=>af (HO N (by omega) (by omega) hb.2.2.2.1 _) fun l hl=>af (Q:=fun r=>Bg 60000 r.1) (af (w3 N (by omega) (by omega) hc hl _) fun r hr=>ah hr) fun u hu=>af (s8 N (by omega) (by omega) hb _) fun g hg=>dv (fun _=>ah aV) fun _=>af (uy N hu) fun v hv=>qT (fun _=>av (fun _=>ah hv) fun _=>ah hg) fun _=>ah hg)
theorem Sk(N:Nat)(hN:200000≤N){l:aj}{a d:Int}{m:Nat}(hm:m≤50000)(h:L3 m l)(ha:aC a)(hd:aC d):Ok (fun r=>L3 (2*m) r) (mZ N l a d):=by
 have hl:=h.1
 unfold mZ mZ.b
 refine cf (ng N (by omega) hN) (bH (fun _=>ah G.nil) fun _=>ok_eq (fun _=>ah G.nil) fun _=>av (fun _=>ah G.nil) fun _=>av (fun _=>ah G.nil) fun _=>av (fun _=>ah G.nil) fun _=>av (fun _=>ah G.nil) fun _=>bq (len:=l.length) (F:=fun n i s=>mZ.l5 N n l a d s i) (fun i s=>L3 (2*i) s) G.nil (by omega) (fun n i s hi hI hr=> ?_) (fun n s hI=> ?_))
 all_goals unfold mZ.l5 mZ.c0
 ·have hs:=hI.1
  have hx:=G.at h (i:Int).toNat
  dsimp only
  rw[al (x:=(i:Int)+1) (by omega) (by omega),ae i]
  have h1:=hr s (G.mono (by omega) hI)
  exact av (fun _=>ax ⟨by omega,by omega⟩ (ok_eq (fun _=>ax ⟨by omega,by omega⟩ (ax ⟨by omega,by omega⟩ (ax ⟨by omega,by omega⟩ (ax ⟨by omega,by omega⟩ (aF (by rw[s6];omega) (hr _ (G.mono (by omega) (G.cat hI (G.two (m:=2) (G3 ha hx.2.1 (dY _)) (G3 hd hx.2.1 hx.2.2.1) (Nat.le_refl 2)))))))))) fun _=>h1)) fun _=>by omega
 ·exact av (fun _=>by omega) fun _=>ah (G.mono (by omega) hI)
theorem VC(N:Nat)(hN:5000000≤N){c:aa}{b:ag}{m:Nat}(h2:200≤m)(hm:m≤1000)(hc:G m aq c)(hb:G m az b)(a:Int):Ok (fun r=>G m az r.1) (fW N c b a):=by
 unfold fW fW.b
 refine cf (dP N hN (by omega) hb) (bH (fun _=>ah G.fp) fun hB=>af (s7 N (by omega) (by omega) hb _) fun _ _=>ok_eq (fun _=>ah G.fp) fun _=> ?_)
 have hal:b.2.1.length≤24:=by
  unfold bV at hB
  have h1:=(Bool.and_eq_true_iff.1 (Bool.and_eq_true_iff.1 hB).2).1
  unfold sd at h1
  exact Sj (Bool.and_eq_true_iff.1 (Bool.and_eq_true_iff.1 h1).2).1
 refine bq (len:=b.2.1.length) (F:=fun n i (z:aj×br)=>fW.l8 N n a c b (bF,(cc,(aY,(aY,(cv,(cF,())))))) z.1 z.2 i) (s:=(_,_)) (fun i z=>L3 (2*m*i) z.1∧gw (4*i) z.2) ⟨G.nil,gw.nil⟩ (by omega) (fun n i z hi hI hr=> ?_) (fun n z hI=> ?_)
 all_goals unfold fW.l8 fW.wk
 ·obtain⟨h5,h6⟩:=hI
  have h7:=h5.1
  have h8:=h6.1
  have hmi:2*m*i≤2*m*24:=Nat.mul_le_mul_left _ (by omega)
  have hms:2*m*(i+1)=2*m*i+2*m:=Nat.mul_succ _ _
  have hx:G m cU (b.2.1.getD (i:Int).toNat aJ):=G.at hb.2.1 _
  have hj: ∀p:br,gw (4*i+2) p→Ok (fun r=>G m az r.1) (fW.rA N (fW.l8 N n) a c b (bF,(cc,(aY,(aY,(cv,(cF,())))))) z.1 p (i:Int) (b.2.1.getD (i:Int).toNat aJ)):=fun p hp=>by
   have BF:=hp.1
   unfold fW.rA fW.mu
   rw[al (x:=(i:Int)+1) (by omega) (by omega),ae i]
   exact af (s8 N (by omega) (by omega) hb _) fun g hg=>av (fun _=>af (a7 N (by omega) hg) fun v hv=>af (p4 N (by omega) (by omega) hv) fun v hv=>af (pd N (by omega) _ _ _ _ (Bg.mono hv (by omega))) fun u hu=>aF (by have:=hu.1;omega) (af (Sk N (by omega) (by omega) hb.2.2.2.1 hx.1 aV) fun s hs=>aF (by have:=hs.1;omega) (hr (_,_) ⟨G.mono (by omega) (G.cat h5 hs),gw.mono (gw.app hp hu) (by omega)⟩))) fun _=>af (Sk N (by omega) (by omega) hb.2.2.2.1 hx.1 aV) fun s hs=>aF (by have:=hs.1;omega) (hr (_,_) ⟨G.mono (by omega) (G.cat h5 hs),gw.mono hp (by omega)⟩)
  rw[al (x:=(i:Int)+1) (by omega) (by omega),ae i]
  exact av (fun _=>ax ⟨by omega,by omega⟩ (bE (fun _=>hr z ⟨G.mono (by omega) h5,gw.mono h6 (by omega)⟩) fun _=>ok_eq (fun _=>af (O5 N hN (by omega) hc hb _) fun q hq=>af (a7 N (by omega) hq) fun v hv=>af (pd N (by omega) _ _ _ _ (Bg.mono hv (by omega))) fun u hu=>aF (by have:=hu.1;omega) (hj _ (gw.mono (gw.app h6 hu) (by omega)))) fun _=>hj _ (gw.mono h6 (by omega)))) fun _=>by omega
 ·obtain⟨h5,h6⟩:=hI
  have hmi:2*m*b.2.1.length≤2*m*24:=Nat.mul_le_mul_left _ (by omega)
  exact av (fun _=>by omega) fun _=>af (o9 N (by omega) h2 (by omega) hb (G.mono (by omega) h5) (gw.mono h6 (by omega))) fun r hr=>ah hr
abbrev GS(m:Nat)(s:aM):Prop:=G m cz s
abbrev SR(m:Nat)(r:aM×bW):Prop:=GS m r.1
theorem E3(N:Nat)(e:Int):Ok (fun _=>True) (ea N e):=by
 unfold ea;exact dw
theorem O6(N:Nat)(hN:5000000≤N){c:aa}{s:aM}{e:fO}{m:Nat}(h2:200≤m)(hm:m≤1000)(hc:G m aq c)(hs:GS m s)(he:G 0 nj e):Ok (SR m) (oa N c s e):=by
 have hhl:=hs.2.2.2.1.2.2.2.2.1.1
 unfold oa oa.b
 generalize ((0:Int),((0:Int),_))=S0
 refine bq (len:=s.2.2.2.1.2.2.2.2.1.length) (F:=fun n i (z:aM×aD×Bool×Int)=>oa.l5 N n c z.1 e S0 aQ z.2.1 z.2.2.1 z.2.2.2 i) (s:=(_,(_,(_,_)))) (fun i z=>GS m z.1∧z.1.2.2.2.1.2.2.2.2.1=s.2.2.2.1.2.2.2.2.1∧G i (.slice cU) z.2.1) ⟨hs,rfl,G.nil⟩ (by omega) (fun n i z hi hI hr=> ?_) (fun n z hI=> ?_)
 all_goals unfold oa.l5 oa.c0
 ·obtain⟨hz,hh,ho⟩:=hI
  have yx:=ho.1
  rw[hh,al (x:=(i:Int)+1) (by omega) (by omega),ae i]
  have hx:G 0 cU (s.2.2.2.1.2.2.2.2.1.getD (i:Int).toNat aJ):=G.at hs.2.2.2.1.2.2.2.2.1 _
  refine av (fun _=>ax ⟨by omega,by omega⟩ (ok_eq (fun _=>af (Vd N hN h2 (by omega) hc hz.2.2.1 (G.mono (Nat.zero_le m) hx) he.2.2.1 he.2.2.2.2.2.2.1 he.2.2.2.2.2.2.2.1) fun r ⟨Ef,Fo⟩=>bE (fun _=>af (E3 N _) fun _ _=>ah hz) fun _=> ?_) fun _=>av (fun _=>aF (by rw[List.length_singleton];omega) (hr (z.1,(z.2.1++[s.2.2.2.1.2.2.2.2.1.getD (i:Int).toNat aJ],z.2.2)) ⟨hz,hh,G.cat ho (G.one hx (Nat.le_refl 1))⟩)) fun _=>hr z ⟨hz,hh,G.mono (by omega) ho⟩)) fun _=>by omega
  have BC:GS m (z.1.1,(z.1.2.1,(r.1,z.1.2.2.2))):=⟨hz.1,hz.2.1,Ef,hz.2.2.2⟩
  have anH:G 0 cU r.2.1:=Fo
  exact av (fun _=>aF (by rw[List.length_singleton];omega) (hr ((z.1.1,(z.1.2.1,(r.1,z.1.2.2.2))),(z.2.1++[r.2.1],(true,r.2.1.2.2.2.1))) ⟨BC,hh,G.cat ho (G.one anH (Nat.le_refl 1))⟩)) fun _=>hr ((z.1.1,(z.1.2.1,(r.1,z.1.2.2.2))),(z.2.1,(true,r.2.1.2.2.2.1))) ⟨BC,hh,G.mono (by omega) ho⟩
 ·obtain⟨hz,hh,ho⟩:=hI
  rw[hh]
  exact av (fun _=>by omega) fun _=>bH (fun _=>af (E3 N _) fun _ _=>ah hz) fun _=>ah ⟨hz.1,hz.2.1,hz.2.2.1,⟨hz.2.2.2.1.1,hz.2.2.2.1.2.1,hz.2.2.2.1.2.2.1,hz.2.2.2.1.2.2.2.1,G.mono hhl ho,hz.2.2.2.1.2.2.2.2.2⟩,hz.2.2.2.2⟩
end VM
end
section
namespace VM
open Go VM.F
theorem Be(N:Nat)(hN:4000000≤N){s:aM}{q:Int}(hs:aC s.1)(hq:aC q):Ok (fun r=>aC r.1) (O7 N s q):=by
 unfold O7
 exact af (a7 N hN hs) fun a ha=>af (a7 N hN hq) fun b hb=>af (ig N hN (by omega) ha hb) fun x hx=>af (uy N hx) fun v hv=>ah hv
theorem ca{α:Type}{P:α×bW→Prop}{N:Nat}{e:Int}{f:bW→Option (α×bW)}(h: ∀r,Ok P (f r)):Ok P ((ea N e).bind f):=af (E3 N e) fun r _=>h r
theorem Sl(N:Nat)(hN:5000000≤N){c:aa}{s:aM}{e:fO}{m:Nat}(h2:200≤m)(hm:m≤999)(hc:G 5 aq c)(hs:GS m s)(he:G 0 nj e):Ok (SR (m+1)) (ob N c s e):=by
 have Nq:G m aq c:=G.mono (by omega) hc
 have J4:GS (m+1) s:=G.mono (by omega) hs
 obtain⟨s1,s2,s3,⟨k1,k2,k3,k4,k5,k6,k7,k8,k9,Sm,Tl⟩,s5⟩:=J4
 have hk:=hs.2.2.2.1
 have i2:aC 2:=aW
 have i3:aC 3:=aW
 have up: ∀{τ:Ty} {x:τ.den},G m τ x→G (m+1) τ x:=fun h=>G.mono (by omega) h
 have bx: ∀r:bW,Ok (SR (m+1)) (some (s,r)):=fun r=>ah (up hs)
 unfold ob ob.b
 refine ok_eq (fun _=> ?_) fun _=>ok_eq (fun _=> ?_) fun _=>ok_eq (fun _=> ?_) fun _=>ok_eq (fun _=> ?_) fun _=>ok_eq (fun _=> ?_) fun _=>ok_eq (fun _=> ?_) fun _=>ok_eq (fun _=> ?_) fun _=>ok_eq (fun _=> ?_) fun _=>ca fun r=>bx r
 ·exact af (Vq N hN (by omega) Nq hs.2.2.1 _ he.2.1 _) fun r hr=>ca fun _=>ah ⟨s1,s2,up hr,(up hs).2.2.2⟩
 ·exact af (VC N hN h2 (by omega) Nq hs.2.2.1 _) fun r hr=>ca fun _=>ah ⟨s1,s2,up hr,⟨k1,i2,aV,k4,k5,k6,k7,k8,k9,Sm,Tl⟩,s5⟩
 ·exact af (OM N hN c hc.2.2.2.2.2.2.1 (by omega) hs.2.2.1 _) fun r hr=>ah ⟨s1,dY _,s3,⟨k1,k2,k3,k4,G.mono (by omega) hr,k6,k7,k8,k9,Sm,Tl⟩,s5⟩
 ·exact af (O6 N hN h2 (by omega) Nq hs he) fun r hr=>ah (up hr)
 ·exact ok_eq (fun _=>ca fun r=>bx r) fun _=>af (Vv N hN h2 (by omega) Nq hs.2.2.1 hs.2.1) fun l hl=>bE (fun _=>ca fun r=>bx r) fun _=>af (Be N (by omega) hs.1 hc.2.2.2.2.1) fun t ht=>bH (fun _=>ca fun r=>bx r) fun _=>af (Vt N hN c (by omega) hs.2.2.1) fun u hu=>ah ⟨s1,dY _,s3,⟨k1,i3,ht,dY _,G.nil,up hl,G.nil,up hu,k9,Sm,Tl⟩,s5⟩
 ·have hx:G 0 cU (s.2.1,(e.2.2.2.2.2.1,(e.2.1,(e.2.2.2.2.2.2.2.1,())))):=⟨hs.2.1,he.2.2.2.2.2.1,he.2.1,he.2.2.2.2.2.2.2.1,trivial⟩
  exact af (OX N hN (by omega) (by omega) Nq hs.2.2.1 hk.2.2.2.2.2.1 hk.2.2.2.2.2.2.1 hx) fun r hr=>ah ⟨s1,dY _,s3,⟨k1,k2,k3,k4,k5,k6,hr,k8,k9,Sm,Tl⟩,s5⟩
 ·refine af (Si N hN c h2 (by omega) hs.2.2.1 hk.2.2.2.2.2.1 hk.2.2.2.2.2.2.1) fun r ⟨Ef,Fo⟩=>bE (fun _=>ca fun r=>bx r) fun _=>af (Se N (by omega) c h2 (by omega) hk.2.2.2.2.2.2.2.2.1 hk.2.2.2.2.2.2.2.1.1 Fo hk.2.2.2.2.2.2.1) fun d hd=> ?_
  generalize ((0:Int),((0:Int),_))=S0
  have JB:=Fo.1
  refine bq (len:=r.2.1.length) (F:=fun n i q=>ob.l41 N n _ S0 aQ r.2.1 q i) (fun _ _=>True) trivial (by omega) (fun n i q hi _ dD=> ?_) (fun n q _=> ?_)
  all_goals unfold ob.l41 ob.acK
  ·rw[al (x:=(i:Int)+1) (by omega) (by omega),ae i]
   exact av (fun _=>ax ⟨by omega,by omega⟩ (ok_eq (fun _=>dD _ trivial) fun _=>dD _ trivial)) fun _=>by omega
  ·exact av (fun _=>by omega) fun _=>ah ⟨s1,s2,up Ef,⟨k1,i2,aV,k4,k5,up Fo,k7,k8,up hd,Sm,Tl⟩,s5⟩
 ·exact af (O3 N hN h2 (by omega) Nq hs.2.2.1 hk.2.2.2.2.2.2.2.2.1 hk.2.2.2.2.2.2.2.2.2.1 hk.1) fun r ⟨Ef,Fo⟩=>bE (fun _=>ca fun r=>bx r) fun _=>af (Vz N hN h2 (by omega) hc Ef) fun b hb=>bE (fun _=>ca fun r=>bx r) fun _=>af (MX N (by omega) (by omega) hb.1 _ _) fun u hu=>ah ⟨s1,s2,⟨up hu,(up hb).2⟩,G.zero (m+1) lZ,up Fo,trivial⟩
end VM
end
