/- A part of the proof of AwardBest of layer 25: what the functions compute, in plain words. -/
import Derived.Test.YtocmlaipoebfeaaGreatPlain4
set_option linter.all false
section
namespace VM
open Go VM.F
theorem G6q{m:Nat}{x:fG}{q:Int}(h:G m jn x)(hq:aD q):G m jn (x.1,(x.2.1,(x.2.2.1,(x.2.2.2.1,(q,x.2.2.2.2.2))))):=⟨h.1,h.2.1,h.2.2.1,h.2.2.2.1,hq,h.2.2.2.2.2⟩
theorem Q3(N:Nat)(hN:200000≤N){l:a6}{m:Nat}(hm:m≤50000)(h:L6 m l)(a d:Int):Ok (fun r=>L6 m r) (c3 N l a d):=by
 have hl:=h.1
 unfold c3 c3.b
 refine b8 (jE N (by omega) hN) (bu (fun _=>ag G.nil) fun _=>bb (len:=l.length) (F:=fun n i s=>c3.l5 N n l a d s i) (fun i s=>L6 i s) G.nil (by omega) (fun n i s hi hI hr=> ?_) (fun n s hI=> ?_))
 all_goals unfold c3.l5 c3.dd
 ·have hs:=hI.1
  have hx:G 0 jn (l.getD (i:Int).toNat dZ):=G.at h _
  have fin: ∀k:Nat,k≤s.length→Ok (fun r=>L6 m r) (c3.Gr N (c3.l5 N n) l a d s (i:Int) (k:Int)):=fun k hk=>by
   unfold c3.Gr c3.yR
   rw[aq (x:=(i:Int)+1) (by omega) (by omega),ae i]
   dsimp only
   have t: ∀a b:Nat,(List.drop a (List.take b s)).length≤s.length:=fun a b=>by rw[List.length_drop,List.length_take];omega
   have t1:=t (0:Int).toNat (k:Int).toNat
   have t2:=t (k:Int).toNat (s.length:Int).toNat
   refine Cd ⟨by omega,by omega,by omega,by omega⟩ (aE (by omega) (ar ⟨by omega,by omega⟩ (aE (by rw[List.length_singleton];omega) (Cd ⟨by omega,by omega,by omega,by omega⟩ (aE (by rw[List.length_append,List.length_singleton];omega) (hr _ ?_))))))
   simpa using G.ins hI (G.mono (Nat.zero_le i) hx) k 0 k (Nat.le_refl _)
  have h1:=hr s (G.mono (by omega) hI)
  have hw:Ok (fun r=>L6 m r) (c3.l9 N (c3.l5 N n) N l a d s (i:Int) 0):=by
   refine g5 (len:=s.length) (F:=fun n' j=>c3.l9 N (c3.l5 N n) n' l a d s (i:Int) j) (by omega) (fun n' j hj dA=> ?_) (fun n'=> ?_)
   all_goals unfold c3.l9 c3.rN
   ·rw[aq (x:=(j:Int)+1) (by omega) (by omega),ae j]
    have hah: ∀x y:fG,Ok (fun _=>True) (Q4 N x y):=fun x y=>by unfold Q4;exact bq (fun _=>da) fun _=>da
    exact au (fun _=>ar ⟨by omega,by omega⟩ (ar ⟨by omega,by omega⟩ (af (hah _ _) fun _ _=>nT (fun _=>dA) fun _=>fin j (by omega)))) fun _=>by omega
   ·exact au (fun _=>by omega) fun _=>fin _ (Nat.le_refl _)
  rw[aq (x:=(i:Int)+1) (by omega) (by omega),ae i]
  repeat' first|exact h1|exact hw|refine ar ⟨by omega,by omega⟩ ?_|refine au (fun _=> ?_) (fun _=> ?_)|refine bq (fun _=> ?_) (fun _=> ?_)|(exfalso;omega)
 ·exact au (fun _=>by omega) fun _=>ag (G.mono hl hI)
theorem NW(N:Nat)(hN:200000≤N){l:a6}{o:fG}{m:Nat}(hm:m≤50000)(h:L6 m l)(ho:G 0 jn o):Ok (fun r=>L6 m r.1∧aD r.2.2.1) (bI N l o):=by
 have hl:=h.1
 have fin: ∀(s:a6) (q:Int) (t:bg),L6 m s→aD q→Ok (fun r=>L6 m r.1∧aD r.2.2.1) (bI.j22 N s q t):=fun s q t hs hq=>by
  have hsl:=hs.1
  unfold bI.j22 bI.XM
  refine bb (len:=s.length) (F:=fun n i u=>bI.Gs N n s q t u i) (fun i u=>L6 i u) G.nil (by omega) (fun n i u hi hI hr=> ?_) (fun n u hI=> ?_)
  all_goals unfold bI.Gs bI.HF
  ·have hu:=hI.1
   have hx:G 0 jn (s.getD (i:Int).toNat dZ):=G.at hs _
   rw[aq (x:=(i:Int)+1) (by omega) (by omega),ae i]
   have h1:=hr u (G.mono (by omega) hI)
   have h2:=hr _ (G.cat hI (G.one hx (Nat.le_refl 1)))
   repeat' first|exact h1|exact h2|refine aE (by rw[List.length_singleton];omega) ?_|refine ar ⟨by omega,by omega⟩ ?_|refine au (fun _=> ?_) (fun _=> ?_)|(exfalso;omega)
  ·exact au (fun _=>by omega) fun _=>ag ⟨G.mono hsl hI,hq⟩
 have et:Ok (fun r:a6×bg×Int×Int=>L6 m r.1∧aD r.2.2.1) (some ([],[],(0:Int),(1:Int))):=ag ⟨G.nil,aT⟩
 unfold bI bI.b
 refine b8 (jE N (by omega) hN) (bu (fun _=>et) fun _=>b8 (w4 N o) (bu (fun _=>et) fun _=>aE (by rw[List.length_nil];omega) (af (Q3 N hN hm h _ _) fun w hw=> ?_)))
 have hwl:=hw.1
 rw[List.nil_append]
 refine bb (len:=w.length) (F:=fun n i (s:a6×Int×bg)=>bI.l7 N n o s.1 s.2.1 s.2.2 w i) (s:=(_,(_,_))) (fun i s=>L6 m s.1∧aD s.2.1∧s.2.2.length≤i) ⟨h,ho.2.2.2.2.1,Nat.zero_le _⟩ (by omega) (fun n i s hi hI hr=> ?_) (fun n s hI=> ?_)
 all_goals unfold bI.l7 bI.ns
 ·obtain⟨hs,hq,ht⟩:=hI
  have f1:=fin s.1 s.2.1 s.2.2 hs hq
  have ah6: ∀(v:Int) (t:tV),Ok (fun r=>L6 m r.1∧aD r.2.2.1) (bI.zX N (bI.l7 N n) o s.1 s.2.1 s.2.2 w (i:Int) v t):=fun v t=>by
   unfold bI.zX bI.sI
   refine aE (by rw[List.length_singleton];omega) (bb (len:=s.1.length) (F:=fun n' j u=>bI.tR N (bI.l7 N n) n' o u (W .i64 (s.2.1-v)) (s.2.2++[t]) w (i:Int) v j) (fun _ u=>u.length=s.1.length∧L6 m u) ⟨rfl,hs⟩ (by have:=hs.1;omega) (fun n' j u hj hJ dA=> ?_) (fun n' u hJ=> ?_))
   all_goals unfold bI.tR bI.rB
   ·have hsl:=hs.1
    have VL:=hJ.1
    rw[aq (x:=(j:Int)+1) (by omega) (by omega),ae j]
    exact au (fun _=>ar ⟨by omega,by omega⟩ (ar ⟨by omega,by omega⟩ (ok_eq (fun _=>ar ⟨by omega,by omega⟩ (ar ⟨by omega,by omega⟩ (dA _ ⟨by rw[List.length_set];exact VL,G.set hJ.2 (G6q (G.at hJ.2 _) (dy _)) _⟩))) fun _=>dA u hJ))) fun _=>by omega
   ·have VL:=hJ.1
    rw[aq (x:=(i:Int)+1) (by omega) (by omega),ae i]
    exact au (fun _=>by omega) fun _=>hr (_,(_,_)) ⟨hJ.2,dy _,by dsimp only;rw[List.length_append,List.length_singleton];omega⟩
  have Q5:Ok (fun r=>L6 m r.1∧aD r.2.2.1) (bI.NX N (bI.l7 N n) o s.1 s.2.1 s.2.2 w (i:Int)):=by
   unfold bI.NX bI.HG
   rw[aq (x:=(i:Int)+1) (by omega) (by omega),ae i]
   dsimp only
   have h1:=hr s ⟨hs,hq,by omega⟩
   repeat' first|exact h1|exact ah6 _ _|refine ar ⟨by omega,by omega⟩ ?_|refine ok_eq (fun _=> ?_) (fun _=> ?_)
  repeat' first|exact f1|exact Q5|refine ar ⟨by omega,by omega⟩ ?_|refine au (fun _=> ?_) (fun _=> ?_)|refine ok_eq (fun _=> ?_) (fun _=> ?_)|(exfalso;omega)
 ·exact au (fun _=>by omega) fun _=>fin _ _ _ hI.1 hI.2.1
theorem NY(N:Nat)(hN:5000000≤N){c:aa}{b:ah}{o:fG}{m:Nat}(h2:200≤m)(hm:m≤40000)(hc:G m an c)(hb:G m aC b)(ho:G 0 jn o):Ok (fun r=>G (m+1) aC r.1) (iH N c b o):=by
 have CI:=hb.2.2.2.2.2.1.1
 have et: ∀(t:bg) (e:Int),Ok (fun r:ah×bg×Int×Int=>G (m+1) aC r.1) (some ((aV,(cm,(bh,(bh,(cK,(cT,())))))),(t,((0:Int),e)))):=fun t e=>ag (G.zero (m+1) aC)
 have Q5: ∀(r:a6) (t:bg) (q:Int),L6 m r→aD q→Ok (fun r=>G (m+1) aC r.1) (iH.NX N c b o (aV,(cm,(bh,(bh,(cK,(cT,())))))) r t q):=fun r t q hr hq=>by
  have Gc:=hr.1
  unfold iH.NX iH.HG
  have hx:G 0 jn (o.1,(o.2.1,(o.2.2.1,(o.2.2.2.1,(q,o.2.2.2.2.2))))):=G6q ho hq
  exact af (A3 N hN c h2 (by omega) hb) fun z hz=>bq (fun _=>et _ _) fun _=>by
   have wX:G (m+1) aC z.1:=G.mono (by omega) hz
   exact au (fun _=>aE (by rw[List.length_singleton];omega) (ag ⟨wX.1,wX.2.1,wX.2.2.1,wX.2.2.2.1,wX.2.2.2.2.1,G.cat hr (G.one hx (Nat.le_refl 1)),trivial⟩)) fun _=>ag ⟨wX.1,wX.2.1,wX.2.2.1,wX.2.2.2.1,wX.2.2.2.2.1,G.mono (by omega) hr,trivial⟩
 have hj7:Ok (fun r=>G (m+1) aC r.1) (iH.j7 N c b o (aV,(cm,(bh,(bh,(cK,(cT,()))))))):=by
  unfold iH.j7 iH.Xt
  exact af (NW N (by omega) (by omega) hb.2.2.2.2.2.1 ho) fun z hz=>au (fun _=>ok_eq (fun _=>et _ _) fun _=>Q5 _ _ _ hz.1 hz.2) fun _=>Q5 _ _ _ hz.1 hz.2
 unfold iH iH.b
 refine af (Ez N hN h2 hm hc hb (G.mono (Nat.zero_le m) ho)) fun e _=>bq (fun _=>et _ _) fun _=>au (fun h0=> ?_) fun _=>hj7
 dsimp only
 exact ar (by rw[aq (by omega) (by omega)];omega) (cZ (fun _=>et _ _) fun _=>hj7)
end VM
end
section
namespace VM
open Go VM.F
theorem XN(N:Nat)(a:Int):Ok (fun _=>True) (HB N a):=by
 unfold HB
 exact ok_eq (fun _=>da) fun _=>da
theorem fJ.one{k n:Int}{x:aw}{m:Nat}(h:Bg m x)(hm:m≤8):fJ 1 [(k,(n,(x,())))]:=⟨Nat.le_refl 1,fun y hy=>by rw[List.mem_singleton.1 hy];exact Bg.mono h hm⟩
theorem NZ(N:Nat)(hN:4000000≤N){l:aj}{m:Nat}(hm:m≤50000)(h:L3 m l)(i a b:Int):Ok (fun r=>fJ m r.1) (mF N l i a b):=by
 have hl:=h.1
 unfold mF mF.b
 have p64: ∀p:Int,decide (1≤p∧p≤1000000000000)=true→aD p:=fun p h=>by have:=of_decide_eq_true h;unfold aD;omega
 refine b8 (lN N (by omega) (by omega)) (bu (fun _=>ag fJ.nil) fun _=>b8 (iz N _) (bu (fun _=>ag fJ.nil) fun ha=>b8 (iz N _) (bu (fun _=>ag fJ.nil) fun hb=>af (aX N hN (p64 _ hb)) fun x hx=>af (aX N hN (p64 _ ha)) fun y hy=>af (ub N hN (by omega) hx hy) fun z hz=>bb (len:=l.length) (F:=fun n j s=>mF.l6 N n l i s z j) (fun j s=>fJ j s) fJ.nil (by omega) (fun n j s hj hI hr=> ?_) (fun n s hI=> ?_))))
 all_goals unfold mF.l6 mF.n4
 ·have hs:=hI.1
  rw[aq (x:=(j:Int)+1) (by omega) (by omega),ae j]
  have h1:=hr s (fJ.mono hI (by omega))
  exact au (fun _=>ar ⟨by omega,by omega⟩ (bq (fun _=>h1) fun _=>af (xc N hz) fun _ _=>ok_eq (fun _=>h1) fun _=>ar ⟨by omega,by omega⟩ (af (XN N _) fun _ _=>ar ⟨by omega,by omega⟩ (af (aX N hN (G.at h _).2.2.1) fun v hv=>af (jh N hN (by omega) (by omega) hv hz) fun u hu=>aE (by rw[List.length_singleton];omega) (hr _ (fJ.app hI (fJ.one hu (by omega)))))))) fun _=>by omega
 ·exact au (fun _=>by omega) fun _=>ag (fJ.mono hI (by omega))
theorem EH(N:Nat)(hN:5000000≤N)(c:aa){b:ah}{m:Nat}(h2:200≤m)(hm:m≤50000)(hb:G m aC b)(i:Int){p:Int}(hp:aD p):Ok (fun r=>G m aC r.1∧fJ m r.2.1) (Q6 N c b i p):=by
 have et: ∀e:Int,Ok (fun r:ah×bk×Int=>G m aC r.1∧fJ m r.2.1) (some ((aV,(cm,(bh,(bh,(cK,(cT,())))))),([],e))):=fun e=>ag ⟨G.eR,fJ.nil⟩
 have WN:=hb.2.2.2.2.1.1
 unfold Q6
 refine b8 (dw N hN hm hb) (bu (fun _=>et _) fun hB=>b8 (iz N _) (bu (fun _=>et _) fun _=>au (fun _=>et _) fun h0=>cZ (fun _=>et _) fun h1=> ?_))
 obtain⟨hpr,_⟩:=gT hB
 dsimp only
 rw[List.nil_append]
 exact ar ⟨h0,by rw[hpr];exact h1⟩ (af (NZ N (by omega) hm hb.2.2.2.1 _ _ _) fun f hf=>af (nI N (by omega) h2 hm hb G.nil (fJ.mono hf hm)) fun r hr=>bq (fun _=>et _) fun _=>aE (by rw[List.length_nil];omega) (ar ⟨h0,by rw[hpr];exact h1⟩ (ag ⟨⟨hr.1,hr.2.1,hr.2.2.1,hr.2.2.2.1,G.set hb.2.2.2.2.1 hp _,hr.2.2.2.2.2⟩,hf⟩)))
abbrev L2(m:Nat)(l:ax):Prop:=G m (.slice gv) l
theorem G2{m:Nat}{a b:Int}(ha:aD a)(hb:aD b):G m gv (a,(b,())):=⟨ha,hb,trivial⟩
theorem A6(N:Nat)(hN:200000≤N){l:ax}(hl:l.length≤100000):Ok (fun _=>True) (lC N l):=by
 unfold lC lC.b
 refine g5 (len:=l.length) (F:=fun n i=>lC.l2 N n l i) (by omega) (fun n i hi hr=> ?_) (fun n=> ?_)
 all_goals unfold lC.l2 lC.dx
 ·rw[aq (x:=(i:Int)+1) (by omega) (by omega),ae i]
  dsimp only
  repeat' first|exact hr|exact da|refine ar ⟨by omega,by omega⟩ ?_|refine ar (by rw[aq (x:=(i:Int)-1) (by omega) (by omega)];omega) ?_|refine au (fun _=> ?_) (fun _=> ?_)|refine cZ (fun _=> ?_) (fun _=> ?_)|refine ok_eq (fun _=> ?_) (fun _=> ?_)|(exfalso;omega)
 ·exact au (fun _=>by omega) fun _=>da
theorem N0(N:Nat)(hN:4000000≤N){g:ax}{p:bk}{m:Nat}(h2:200≤m)(hm:m≤50000)(h:L2 m g)(hp:fJ m p):Ok (fun r=>L2 m r.1) (cV N g p):=by
 have hl:=h.1
 have WN:=hp.1
 unfold cV cV.b
 refine af (A6 N (by omega) (by omega)) fun _ _=>bu (fun _=>ag G.nil) fun _=>gr (len:=25) (F:=fun n i s=>cV.l5 N n g p s i) (fun i s=>L2 i s) (fun n i s hi hI hr=> ?_) (fun n s hI=> ?_) 25 N 1 [] (by omega) (by omega) (by omega) G.nil
 all_goals unfold cV.l5 cV.dd
 ·have hs:=hI.1
  refine cZ (fun _=> ?_) fun _=>by omega
  refine bb (len:=g.length) (F:=fun n' j t=>cV.l9 N (cV.l5 N n) n' g p s (i:Int) t j) (fun _ t=>Bg 2 t) (Ce (by omega)) (by omega) (fun n' j t hj ht dA=> ?_) (fun n' t ht=> ?_)
  all_goals unfold cV.l9 cV.rN
  ·rw[aq (x:=(j:Int)+1) (by omega) (by omega),ae j]
   exact au (fun _=>ar ⟨by omega,by omega⟩ (ok_eq (fun _=>ar ⟨by omega,by omega⟩ (af (aX N hN (G.at h _).2.1) fun r hr=>dA r hr)) fun _=>dA t ht)) fun _=>by omega
  ·refine au (fun _=>by omega) fun _=> ?_
   refine bb (len:=p.length) (F:=fun A2 j t=>cV.AT N (cV.l5 N n) A2 g p s (i:Int) t j) (fun j t=>Bg (8+j) t) (Bg.mono ht (by omega)) (by omega) (fun A2 j t hj ht dA=> ?_) (fun A2 t ht=> ?_)
   all_goals unfold cV.AT cV.yI
   ·rw[aq (x:=(j:Int)+1) (by omega) (by omega),ae j]
    have h1:=dA t (Bg.mono ht (by omega))
    exact au (fun _=>ar ⟨by omega,by omega⟩ (ok_eq (fun _=>ar ⟨by omega,by omega⟩ (ok_eq (fun _=>ar ⟨by omega,by omega⟩ (af (gu N hN (by omega) ht (Bg.mono (hp.at _) (by omega))) fun r hr=>dA r (Bg.mono hr (by omega)))) fun _=>h1)) fun _=>h1)) fun _=>by omega
   ·rw[aq (x:=(i:Int)+1) (by omega) (by omega),ae i]
    exact au (fun _=>by omega) fun _=>af (sH N ht) fun v hv=>bu (fun _=>ag G.nil) fun _=>bq (fun _=>aE (by rw[List.length_singleton];omega) (hr _ (G.cat hI (G.one (m:=1) (G2 (fc (by omega) (by omega)) hv) (Nat.le_refl 1))))) fun _=>hr s (G.mono (by omega) hI)
 ·exact cZ (fun _=>by omega) fun _=>ag (G.mono (by omega) hI)
theorem nL(N:Nat)(hN:4000000≤N)(a b c d:Int){x:aw}(h:Bg 8 x):Ok (fun r=>fJ 2 r) (yS N a b c d x):=by
 unfold yS
 exact af (ou N hN (by omega) h) fun y hy=>ag ⟨Nat.le_refl 2,fun z hz=>by
  rcases List.mem_cons.1 hz with rfl|hz
  ·exact hy
  ·rw[List.mem_singleton.1 hz];exact h⟩
theorem EI(N:Nat)(hN:5000000≤N){c:aa}{b:ah}{m:Nat}(h2:200≤m)(hm:m≤40000)(hc:G m an c)(hb:G m aC b)(a:Int){q:Int}(hq:aD q):Ok (fun r=>G m aC r.1) (Q7 N c b a q):=by
 unfold Q7
 exact b8 (dw N hN (by omega) hb) (bu (fun _=>ag G.eR) fun _=>au (fun _=>ag G.eR) fun _=>af (ra N (by omega) (by omega) hb.2.1 _) fun _ _=>bu (fun _=>ag G.eR) fun _=>af (lP N (by omega) (by omega) hb.1 _) fun _ _=>bq (fun _=>ag G.eR) fun _=>af (my N (by omega) (by omega) hb.2.2.1 _ _) fun g hg=>af (aX N (by omega) hg) fun x hx=>af (aX N (by omega) hq) fun y hy=>af (ub N (by omega) (by omega) hx hy) fun z hz=>af (Ey N (by omega) h2 hm hc hb (Nat.zero_le _) _) fun w hw=>af (nU N (by omega) (by omega) (by omega) hz hw) fun _ _=>au (fun _=>ag G.eR) fun _=>af (aX N (by omega) hq) fun y hy=>af (nL N (by omega) _ _ _ _ (Bg.mono hy (by omega))) fun p hp=>af (nI N (by omega) h2 (by omega) hb G.nil (fJ.mono hp (by omega))) fun r hr=>ag hr)
theorem HH(N:Nat)(hN:1000≤N){c:aa}(hc:G 5 an c):Ok (fun r=>G 5 aC r.1) (gd N c):=by
 have hl:=hc.1.1
 unfold gd gd.b
 have hj: ∀b:ah,G 5 aC b→Ok (fun r=>G 5 aC r.1) (gd.j6 N c (aV,(cm,(bh,(bh,(cK,(cT,())))))) b []):=fun b hb=>by
  unfold gd.j6 gd.Lo
  obtain⟨b1,b2,b3,b4,b5,b6⟩:=b
  refine bb (len:=c.1.length) (F:=fun n i (z:ah×List Int)=>gd.l7 N n c (aV,(cm,(bh,(bh,(cK,(cT,())))))) z.1 z.2 i) (s:=((b1,(b2,(b3,(b4,(b5,b6))))),_)) (fun i z=>G 5 aC z.1∧G i (.slice (.int .i64)) z.2) ⟨hb,G.nil⟩ (by omega) (fun n i z hi hI hr=> ?_) (fun n z hI=> ?_)
  all_goals unfold gd.l7 gd.ns
  ·have hz:=hI.2.1
   rw[aq (x:=(i:Int)+1) (by omega) (by omega),ae i]
   have hx:G 0 (.int .i64) (c.1.getD (i:Int).toNat aA).2.1:=(G.at hc.1 _).2.1
   exact au (fun _=>ar ⟨by omega,by omega⟩ (aE (by rw[List.length_singleton];omega) (hr (_,_) ⟨⟨hI.1.1,hI.1.2.1,hI.1.2.2.1,hI.1.2.2.2.1,G.nil,hI.1.2.2.2.2.2⟩,G.cat hI.2 (G.one hx (Nat.le_refl 1))⟩))) fun _=>by omega
  ·exact au (fun _=>by omega) fun _=>ag ⟨hI.1.1,hI.1.2.1,hI.1.2.2.1,hI.1.2.2.2.1,G.mono hl hI.2,hI.1.2.2.2.2.2⟩
 have CG:L3 5 [((1:Int),((0:Int),(W .i64 (0-c.2.1),()))),((3:Int),((0:Int),(c.2.1,())))]:=G.two (G3 (show aD 1 from aU) aT (dy _)) (G3 (show aD 3 from aU) aT hc.2.1) (by decide)
 exact b8 (mj N (by omega) c) (bu (fun _=>ag G.eR) fun _=>bq (fun _=>hj _ ⟨G.nil,G.nil,CG,G.nil,G.nil,G.nil,trivial⟩) fun _=>hj _ G.eR)
end VM
end
section
namespace VM
open Go VM.F
theorem u6(N:Nat)(hN:4000000≤N){c:aa}{l:ax}{m:Nat}(hm:m≤50000)(hc:G m an c)(hl:L2 m l)(f:Bool):Ok (fun r=>Bg 60000 r.1) (kV N c l f):=by
 have h1:=hl.1
 unfold kV kV.b
 refine b8 (tJ N (by omega) c (by omega)) (bu (fun _=>ag (Ce (by omega))) fun hk=>bb (len:=l.length) (F:=fun n i t=>kV.l5 N n l f c (false,(([]:List Int),())) t i) (fun i t=>Bg (8+i) t) (Ce (by omega)) (by omega) (fun n i t hi ht hr=> ?_) (fun n t ht=> ?_))
 all_goals unfold kV.l5 kV.dd
 ·rw[aq (x:=(i:Int)+1) (by omega) (by omega),ae i,Int.toNat_natCast]
  unfold qv at hk
  have hp:=of_decide_eq_true (Bool.and_eq_true_iff.1 hk).1 i hi
  unfold js jI at hp
  have in1: ∀{x y:Option (aw×Int)},Ok (fun r=>Bg 60000 r.1) x→Ok (fun r=>Bg 60000 r.1) (cond (aL (l.getD i bO).1 c.1.length) x y):=fun h=>ar ⟨hp.1,hp.2.1⟩ h
  have hw: ∀q:Int,aD q→Ok (fun r=>Bg 60000 r.1) ((fT N (l.getD i bO).2.1).bind fun r3=>(MM N r3).bind fun r4=>(fT N q).bind fun r5=>(fF N r4 r5).bind fun r6=>(ur N t r6).bind fun r7=>kV.l5 N n l f c (false,(([]:List Int),())) r7 ((i+1:Nat):Int)):=fun q hq=>
   af (aX N hN (G.at hl i).2.1) fun x hx=>af (qF N hN (by omega) hx) fun x hx=>af (aX N hN hq) fun y hy=>af (jh N hN (by omega) (by omega) hx hy) fun z hz=>af (gu N hN (by omega) ht (Bg.mono hz (by omega))) fun u hu=>hr u (Bg.mono hu (by omega))
  exact au (fun _=>ar ⟨by omega,by omega⟩ (in1 (nT (fun _=>ar ⟨by omega,by omega⟩ (in1 (ar ⟨by omega,by omega⟩ (hw _ (G.at hc.1 _).2.2.2.1)))) fun _=>ar ⟨by omega,by omega⟩ (hw _ (G.at hc.1 _).2.2.1)))) fun _=>by omega
 ·exact au (fun _=>by omega) fun _=>ag (Bg.mono ht (by omega))
theorem ri(N:Nat)(hN:200000≤N){b:ah}{m:Nat}(hm:m≤50000)(hb:G m aC b)(id:Int):Ok (fun _=>True) (Ci N b id):=by
 unfold Ci
 exact af (lP N hN hm hb.1 _) fun _ _=>da
theorem rj(N:Nat)(hN:200000≤N){b:ah}{m:Nat}(hm:m≤50000)(hb:G m aC b)(id:Int):Ok aD (HI N b id):=by
 unfold HI
 exact af (my N hN hm hb.2.2.1 _ _) fun r hr=>ag hr
theorem Q8(N:Nat)(hN:5000000≤N){c:aa}{b:ah}{m:Nat}(hm:m≤40000)(hc:G m an c)(hb:G m aC b)(f:Int){to:Int}(hto:aD to)(a:Int):Ok (fun r=>G m aC r.1) (Q9 N c b f to a):=by
 have GV:Ok (fun _=>True) (Ra N c b f to a):=by
  unfold Ra XO
  have mb:=fun id=>ri N (by omega) (by omega) hb id
  exact b8 (dw N hN (by omega) hb) (bu (fun _=>da) fun _=>af (ra N (by omega) (by omega) hb.2.1 _) fun _ _=>bu (fun _=>da) fun _=>af (mb _) fun _ _=>ok_eq (fun _=>da) fun _=>af (mb _) fun _ _=>ok_eq (fun _=>da) fun _=>bq (fun _=>da) fun _=>bq (fun _=>da) fun _=>af (mb _) fun _ _=>bq (fun _=>da) fun _=>af (Ex N (by omega) (by omega) hb.2.2.2.1 _) fun l hl=>af (Q:=fun r=>Bg 60000 r.1) (af (u6 N (by omega) (by omega) hc hl _) fun r hr=>ag hr) fun u hu=>af (rj N (by omega) (by omega) hb _) fun g hg=>af (aX N (by omega) hg) fun x hx=>af (nU N (by omega) (by omega) (by omega) hx hu) fun _ _=>au (fun _=>da) fun _=>da)
 unfold Q9
 exact af GV fun _ _=>bq (fun _=>ag G.eR) fun _=>af (HE N (by omega) (by omega) hb.1 hb.2.1 hto) fun r hr=>bq (fun _=>ag G.eR) fun _=>ag ⟨hb.1,hr,hb.2.2⟩
theorem KU(N:Nat)(hN:4000000≤N){x:aw}{q:Int}(hx:Bg 60000 x)(hq:aD q):Ok (fun r=>0≤r∧r≤3) (mG N x q):=by
 unfold mG mG.b
 refine af (xc N hx) fun _ _=>cZ (fun _=>ag (by decide)) fun _=>au (fun _=>ag (by decide)) fun _=>gr (len:=3) (F:=fun n i (_:Unit)=>mG.l4 N n q x i) (fun _ _=>True) (fun n i _ hi _ hr=> ?_) (fun n _ _=> ?_) 3 N 1 () (by omega) (by omega) (by omega) trivial
 all_goals unfold mG.l4 mG.cL
 ·rw[aq (x:=(i:Int)+1) (by omega) (by omega),ae i]
  exact au (fun _=>af (aX N hN (fc (by omega) (by omega))) fun a ha=>af (aX N hN hq) fun b hb=>af (jh N hN (by omega) (by omega) ha hb) fun y hy=>af (nU N hN (by omega) (by omega) hy hx) fun _ _=>au (fun _=>hr () trivial) fun _=>ag (by omega)) fun _=>by omega
 ·exact au (fun _=>by omega) fun _=>ag (by omega)
theorem Rb(N:Nat)(hN:5000000≤N)(c:aa){b:ah}{m:Nat}(hm:m≤50000)(hb:G m aC b):Ok (fun r=>G m (.slice (.int .i64)) r.1) (mH N c b):=by
 have hl:=hb.1.1
 unfold mH mH.b
 refine b8 (dw N hN hm hb) (bu (fun _=>ag G.nil) fun _=>bb (len:=b.1.length) (F:=fun n i s=>mH.l5 N n b s i) (fun i s=>G i (.slice (.int .i64)) s) G.nil (by omega) (fun n i s hi hI hr=> ?_) (fun n s hI=> ?_))
 all_goals unfold mH.l5 mH.dd
 ·have hs:=hI.1
  rw[aq (x:=(i:Int)+1) (by omega) (by omega),ae i]
  have h1:=hr s (G.mono (by omega) hI)
  have hx:G 0 (.int .i64) (b.1.getD (i:Int).toNat bO).1:=(G.at hb.1 _).1
  exact au (fun _=>ar ⟨by omega,by omega⟩ (ok_eq (fun _=>ar ⟨by omega,by omega⟩ (af (my N (by omega) hm hb.2.2.1 _ _) fun _ _=>au (fun _=>ar ⟨by omega,by omega⟩ (aE (by rw[List.length_singleton];omega) (hr _ (G.cat hI (G.one hx (Nat.le_refl 1)))))) fun _=>h1)) fun _=>h1)) fun _=>by omega
 ·exact au (fun _=>by omega) fun _=>ag (G.mono hl hI)
abbrev LL(m:Nat)(l:aB):Prop:=G m (.slice dK) l
theorem yT(N:Nat)(hN:200000≤N){l:aB}{m:Nat}(hm:m≤50000)(h:LL m l)(id:Int):Ok (fun r=>G m dK r.1) (lD N l id):=by
 have hl:=h.1
 unfold lD lD.b
 refine g5 (len:=l.length) (F:=fun n i=>lD.l2 N n l id ((0:Int),(aV,aA)) i) (by omega) (fun n i hi hr=> ?_) (fun n=> ?_)
 all_goals unfold lD.l2 lD.dx
 ·rw[aq (x:=(i:Int)+1) (by omega) (by omega),ae i]
  exact au (fun _=>ar ⟨by omega,by omega⟩ (ok_eq (fun _=>ar ⟨by omega,by omega⟩ (ag (G.at h _))) fun _=>hr)) fun _=>by omega
 ·exact au (fun _=>by omega) fun _=>ag (G.zero m dK)
theorem KV(N:Nat)(hN:4000000≤N){a b:ax}{m:Nat}(h6:6≤m)(hm:m≤40000)(ha:L2 m a)(hb:L2 m b):Ok (fun r=>L2 m r.1) (cW N a b):=by
 have hal:=ha.1
 have sN:=hb.1
 unfold cW cW.b
 refine bb (len:=6) (F:=fun n i s=>cW.l3 N n a b s i) (fun i s=>L2 i s) G.nil (by omega) (fun n i s hi hI hr=> ?_) (fun n s hI=> ?_)
 all_goals unfold cW.l3 cW.iE
 ·have hs:=hI.1
  refine au (fun _=> ?_) fun _=>by omega
  refine bb (len:=a.length) (F:=fun n' j t=>cW.l7 N (cW.l3 N n) n' a b s (i:Int) t j) (fun j t=>Bg (3+j) t) (Ce (by omega)) (by omega) (fun n' j t hj ht dA=> ?_) (fun n' t ht=> ?_)
  all_goals unfold cW.l7 cW.ns
  ·rw[aq (x:=(j:Int)+1) (by omega) (by omega),ae j]
   exact au (fun _=>ar ⟨by omega,by omega⟩ (ok_eq (fun _=>ar ⟨by omega,by omega⟩ (af (aX N hN (G.at ha _).2.1) fun r hr=>af (gu N hN (by omega) ht (Bg.mono hr (by omega))) fun u hu=>dA u (Bg.mono hu (by omega)))) fun _=>dA t (Bg.mono ht (by omega)))) fun _=>by omega
  ·refine au (fun _=>by omega) fun _=> ?_
   refine bb (len:=b.length) (F:=fun A2 j t=>cW.mT N (cW.l3 N n) A2 a b s (i:Int) t j) (fun j t=>Bg (3+a.length+j) t) ht (by omega) (fun A2 j t hj ht dA=> ?_) (fun A2 t ht=> ?_)
   all_goals unfold cW.mT cW.lq
   ·rw[aq (x:=(j:Int)+1) (by omega) (by omega),ae j]
    exact au (fun _=>ar ⟨by omega,by omega⟩ (ok_eq (fun _=>ar ⟨by omega,by omega⟩ (af (aX N hN (G.at hb _).2.1) fun r hr=>af (gu N hN (by omega) ht (Bg.mono hr (by omega))) fun u hu=>dA u (Bg.mono hu (by omega)))) fun _=>dA t (Bg.mono ht (by omega)))) fun _=>by omega
   ·rw[aq (x:=(i:Int)+1) (by omega) (by omega),ae i]
    exact au (fun _=>by omega) fun _=>af (vV N ht) fun v hv=>bu (fun _=>ag G.nil) fun _=>bq (fun _=>aE (by rw[List.length_singleton];omega) (hr _ (G.cat hI (G.one (m:=1) (G2 (fc (by omega) (by omega)) hv) (Nat.le_refl 1))))) fun _=>hr s (G.mono (by omega) hI)
 ·exact au (fun _=>by omega) fun _=>ag (G.mono h6 hI)
theorem EJ(N:Nat)(hN:5000000≤N){c:aa}{b:ah}{dD:aB}{l:ay}{x:bp}{m:Nat}(h6:6≤m)(hm:m≤40000)(hc:G m an c)(hb:G m aC b)(hL:LL m dD)(hl:G m (.slice cF) l)(hx:G 0 cF x):Ok (fun _=>True) (gy N c b dD l x):=by
 have JK:=hl.1
 have hLl:=hL.1
 have hal:=hb.2.1.1
 have CI:=hb.2.2.2.2.2.1.1
 have hw:vN dD:=fun y hy=>Nat.le_trans (hL.2 y hy).2.1.1 (by omega)
 unfold gy gy.b
 have hj:Ok (fun _=>True) (gy.j3 N dD l c b x):=by
  unfold gy.j3 gy.j3b
  refine af (ri N (by omega) (by omega) hb _) fun _ _=>ok_eq (fun _=>da) fun _=>bq (fun _=>da) fun _=>af (yT N (by omega) (by omega) hL _) fun z hz=>b8 (uU N (by omega) (by omega) _) (bu (fun _=>da) fun _=>bq (fun _=>da) fun _=>ok_eq (fun _=>da) fun _=>g5 (len:=l.length) (F:=fun n i=>gy.nA N n l c b x z.1 (dW b.2.1 x.2.2.1) i) (by omega) (fun n i hi hr=> ?_) (fun n=> ?_))
  all_goals unfold gy.nA gy.lx
  ·rw[aq (x:=(i:Int)+1) (by omega) (by omega),ae i]
   exact au (fun _=>ar ⟨by omega,by omega⟩ (ok_eq (fun _=>ar ⟨by omega,by omega⟩ (ok_eq (fun _=>da) fun _=>hr)) fun _=>hr)) fun _=>by omega
  ·refine au (fun _=>by omega) fun _=>ok_eq (fun _=>da) fun _=>af (aX N (by omega) hx.2.2.2.1) fun p hp=>af (aX N (by omega) (show aD 4 from aU)) fun q hq=>af (aX N (by omega) hz.2.2.1) fun r hr=>af (jh N (by omega) (by omega) (by omega) hq hr) fun u hu=>af (nU N (by omega) (by omega) (by omega) hp hu) fun _ _=>au (fun _=>da) fun _=>af (Ex N (by omega) (by omega) hb.2.2.2.1 _) fun a ha=>af (KV N (by omega) h6 (by omega) ha hz.2.1) fun j hj=>bu (fun _=>da) fun _=> ?_
   unfold XP
   exact af (Q:=fun r=>L3 6 r) (b8 (jE N (by omega) (by omega)) (bu (fun _=>ag G.nil) fun _=>af (yQ N (by omega) (by omega) _) fun r hr=>ag hr)) fun o ho=>af (Ew N (by omega) (by omega) hc hj (G.mono h6 ho)) fun w hw=>af (rj N (by omega) (by omega) hb _) fun g hg=>af (aX N (by omega) hg) fun v hv=>af (aX N (by omega) hx.2.2.2.1) fun p hp=>af (ub N (by omega) (by omega) hv hp) fun d hd=>af (nU N (by omega) (by omega) (by omega) hd hw) fun _ _=>au (fun _=>da) fun _=>da
 refine b8 (dw N hN (by omega) hb) (bu (fun _=>da) fun _=>b8 (yu N (by omega) c (by omega) hw) (bu (fun _=>da) fun _=>b8 (qy N (by omega) (by omega)) (bu (fun _=>da) fun _=>b8 (IW N _) (bu (fun _=>da) fun _=>au (fun _=> ?_) fun _=>hj))))
 dsimp only
 exact ar (by rw[aq (by omega) (by omega)];omega) (cZ (fun _=>da) fun _=>hj)
theorem KW(N:Nat)(hN:5000000≤N){c:aa}{b:ah}{dD:aB}{l:ay}{x:bp}{m:Nat}(h6:6≤m)(hm:m≤40000)(hc:G m an c)(hb:G m aC b)(hL:LL m dD)(hl:G m (.slice cF) l)(hx:G 0 cF x):Ok (fun r=>G (m+1) (.slice cF) r.1) (Rc N c b dD l x):=by
 have JK:=hl.1
 unfold Rc
 refine af (EJ N hN h6 hm hc hb hL hl hx) fun _ _=>bq (fun _=>ag G.nil) fun _=>aE (by rw[List.length_nil];omega) ?_
 dsimp only
 rw[List.nil_append]
 exact aE (by rw[List.length_singleton];omega) (ag (G.cat hl (G.one hx (Nat.le_refl 1))))
end VM
end
section
namespace VM
open Go VM.F
theorem VN{l:List Int}(h:Pos l)(hs:l.sum<9223372036854775808):B6 l:=fun x hx=>by
 have h3:=h x hx
 obtain⟨i,hi,rfl⟩:=List.mem_iff_getElem.1 hx
 have h4:=sF h i
 rw[List.getD_eq_getElem?_getD,List.getElem?_eq_getElem hi]at h4
 simp only[Option.getD_some]at h4
 omega
theorem N1(k:Nat):(List.replicate k (1:Int)).sum=k:=by
 induction k with
 |zero=>rfl
 |succ k ih=>rw[List.replicate_succ,List.sum_cons,ih];omega
theorem N2(k:Nat):Pos (List.replicate k 1):=fun x hx=>by rw[List.eq_of_mem_replicate hx];omega
theorem N3{t:Int}{k:Nat}(h0:0≤t)(h1:t<9223372036854775808)(hk:1≤k)(WZ:k≤3):(AU t k).1.length=k∧B6 (AU t k).1:=by
 have hS:0<(List.replicate k (1:Int)).sum:=by rw[N1];omega
 have ee:AU t k=(a8 t (List.replicate k 1),0):=by
  unfold AU
  rw[if_neg (by omega),Int.toNat_natCast]
  unfold mq
  have hm:may (List.replicate k 1)=true:=jX.2 ⟨by rw[List.length_replicate];omega,N2 k⟩
  rw[if_neg (by rw[hm];simp;omega),N1,if_neg (by omega),if_neg (by omega)]
 rw[ee]
 exact⟨by dsimp only;rw[jM,List.length_replicate],VN (pa h0 hS (N2 k)) (by rw[o9 h0 hS];omega)⟩
def LQ(y:Kg):Prop:=aD y.1∧aD y.2.1∧ya y.2.1
theorem VO{l:ax}(h: ∀y∈l,LQ y)(i:Nat):LQ (l.getD i bO):=by
 by_cases hk:i<l.length
 ·rw[List.getD_eq_getElem?_getD,List.getElem?_eq_getElem hk];exact h _ (List.getElem_mem hk)
 ·rw[List.getD_eq_getElem?_getD,List.getElem?_eq_none (by omega)];exact⟨aT,aT,by unfold ya;decide⟩
theorem KX{c:aa}{b:ah}{m:Nat}(hb:G m aC b)(hB:dT c b=true)(a:Int): ∀y∈posOf b.2.2.2.1 a,LQ y∧(0≤(y.1:Int)∧(y.1:Int)<(c.1.length:Int)):=fun y hy=>by
 have hk:dI b.2.2.2.1=true:=by
  by_cases h:dI b.2.2.2.1=true
  ·exact h
  ·unfold posOf at hy;rw[if_neg h]at hy;nomatch hy
 unfold posOf at hy
 rw[if_pos hk]at hy
 obtain⟨x,hx,_,e⟩:=o7 hy
 have hg:=hb.2.2.2.1.2 x hx
 have hq:=((nB hk).2 x hx).2
 have hp:=Cc hB x hx
 rw[e]
 exact⟨⟨hg.2.1,hg.2.2.1,hq⟩,hp⟩
theorem Jj(N:Nat)(hN:5000000≤N){c:aa}{b:ah}{m:Nat}(h2:200≤m)(hm:m≤40000)(hc:G m an c)(hb:G m aC b){next:Int}(hn:aD next):Ok (fun r=>LL m r.1) (cG N c b next):=by
 unfold cG cG.b
 refine b8 (dw N hN (by omega) hb) (bu (fun _=>ag G.nil) fun hB=>au (fun _=>ag G.nil) fun _=>au (fun _=>ag G.nil) fun _=>b8 (Nt N (G.wf (by omega) hb).w.s (by omega) 0) (ok_eq (fun _=>ag G.nil) fun _=> ?_))
 have kb:=KX hb hB 0
 have hal:=(acW hb.2.2.2.1 0).1
 generalize posOf b.2.2.2.1 0=all at*
 refine bb (len:=4) (F:=fun n k (s:Int×aB)=>cG.l8 N n s.1 c all s.2 k) (s:=(_,_)) (fun k s=>aD s.1∧s.2.length≤3*k∧ ∀x∈s.2,G m dK x) ⟨hn,Nat.zero_le _,fun x hx=>nomatch hx⟩ (by omega) (fun n k s hk hI hr=> ?_) (fun n s hI=> ?_)
 all_goals unfold cG.l8 cG.w5
 ·refine au (fun _=> ?_) fun _=>by omega
  refine bb (len:=all.length) (F:=fun n' i (z:ax×aw)=>cG.nA N (cG.l8 N n) n' s.1 c all s.2 (k:Int) z.1 z.2 i) (s:=(_,_)) (fun i z=>z.1.length≤i∧(∀y∈z.1,LQ y)∧Bg (8+i) z.2) ⟨Nat.zero_le _,(fun y hy=>nomatch hy),Ce (by omega)⟩ (by omega) (fun n' i z hi hz dA=> ?_) (fun n' z hz=> ?_)
  all_goals unfold cG.nA cG.lx
  ·obtain⟨wX,Gm,hz3⟩:=hz
   have hx:all.getD i bO∈all:=by rw[List.getD_eq_getElem?_getD,List.getElem?_eq_getElem hi];exact List.getElem_mem hi
   have hy:=kb _ hx
   rw[aq (x:=(i:Int)+1) (by omega) (by omega),ae i,Int.toNat_natCast]
   exact au (fun _=>ar ⟨by omega,by omega⟩ (ar hy.2 (ok_eq (fun _=>ar ⟨by omega,by omega⟩ (aE (by rw[List.length_singleton];omega) (ar ⟨by omega,by omega⟩ (af (aX N (by omega) hy.1.2.1) fun u hu=>af (qF N (by omega) (by omega) hu) fun u hu=>af (gu N (by omega) (by omega) hz3 (Bg.mono hu (by omega))) fun v hv=>dA (_,_) ⟨by dsimp only;rw[List.length_append,List.length_singleton];omega,fun y h=>(List.mem_append.1 h).elim (Gm y) (fun h=>by rw[List.mem_singleton.1 h];exact hy.1),Bg.mono hv (by omega)⟩)))) fun _=>dA z ⟨by omega,Gm,Bg.mono hz3 (by omega)⟩))) fun _=>by omega
  ·obtain⟨wX,Gm,hz3⟩:=hz
   refine au (fun _=>by omega) fun _=>af (KU N (by omega) (Bg.mono hz3 (by omega)) hc.2.2.2.2.2.1) fun w hw=> ?_
   obtain⟨p,hp⟩: ∃p:Nat,w=(p:Int):=⟨w.toNat,by omega⟩
   subst hp
   refine bb (len:=p) (F:=fun A2 j (t:Int×aB)=>cG.Cj N (cG.l8 N n) A2 t.1 c all t.2 (k:Int) z.1 (p:Int) j) (s:=s) (fun j t=>aD t.1∧t.2.length≤3*k+j∧ ∀x∈t.2,G m dK x) hI (by omega) (fun A2 j t hj ht NH=> ?_) (fun A2 t ht=> ?_)
   all_goals unfold cG.Cj cG.HJ
   ·obtain⟨p9,O0,PC⟩:=ht
    refine au (fun _=> ?_) fun _=>by omega
    refine bb (len:=z.1.length) (F:=fun n3 i u=>cG.Gs N (cG.l8 N n) (cG.Cj N (cG.l8 N n) A2) n3 t.1 c all t.2 (k:Int) z.1 (p:Int) (j:Int) (t.1,(aV,((0:Int),((1:Int),bO)))) u i) (fun i u=>L2 i u) G.nil (by omega) (fun n3 i u hi hu hr3=> ?_) (fun n3 u hu=> ?_)
    all_goals unfold cG.Gs cG.HF
    ·have VL:=hu.1
     have hq:=VO Gm i
     have sd:=hq
     unfold LQ aD ya at sd
     have acY: ∀q:Int,0≤q→q<9223372036854775808→Ok (fun r=>LL m r.1) (cG.N4 N (cG.l8 N n) (cG.Cj N (cG.l8 N n) A2) (cG.Gs N (cG.l8 N n) (cG.Cj N (cG.l8 N n) A2) n3) t.1 c all t.2 (k:Int) z.1 (p:Int) (j:Int) (t.1,(aV,((0:Int),((1:Int),bO)))) u (i:Int) q):=fun q h0 h1=>by
      unfold cG.N4 cG.HK
      obtain⟨e1,e2⟩:=N3 (k:=p) h0 h1 (by omega) (by omega)
      have acZ: ∀v:List Int,v.length=p→B6 v→Ok (fun r=>LL m r.1) (cG.j32 N (cG.l8 N n) (cG.Cj N (cG.l8 N n) A2) (cG.Gs N (cG.l8 N n) (cG.Cj N (cG.l8 N n) A2) n3) t.1 c all t.2 (k:Int) z.1 (p:Int) (j:Int) (t.1,(aV,((0:Int),((1:Int),bO)))) u (i:Int) v):=fun v GG Py=>by
       unfold cG.j32 cG.XQ
       rw[aq (x:=(i:Int)+1) (by omega) (by omega),ae i]
       have hx:G 0 gv ((z.1.getD (i:Int).toNat bO).1,(v.getD (j:Int).toNat 0,())):=G2 (VO Gm _).1 (om Py _)
       exact ar ⟨by omega,by omega⟩ (bq (fun _=>ar ⟨by omega,by omega⟩ (ar ⟨by omega,by omega⟩ (aE (by rw[List.length_singleton];omega) (hr3 _ (G.cat hu (G.one hx (Nat.le_refl 1))))))) fun _=>hr3 u (G.mono (by omega) hu))
      refine b8 (Nz N hN h1) (ar ⟨by omega,by omega⟩ (au (fun _=>ar ⟨by omega,by omega⟩ (ar ⟨by omega,by omega⟩ (acZ _ (by rw[List.length_set];exact e1) fun y hy=> ?_))) fun _=>acZ _ e1 e2))
      rcases List.mem_or_eq_of_mem_set hy with hy|rfl
      ·exact e2 y hy
      ·exact dy _
     rw[Int.toNat_natCast]
     refine au (fun _=>ar ⟨by omega,by omega⟩ (au (fun dF=> ?_) fun PI=> ?_)) fun _=>by omega
     ·have g: ∀x:Int,-9223372036854775808≤x∧x≠ -9223372036854775808→x<0→0≤W .i64 (0-x)∧W .i64 (0-x)<9223372036854775808:=fun x h1 h2=>by rw[aq (by omega) (by omega)];omega
      have gx:=g _ ⟨sd.2.1.1,sd.2.2⟩ dF
      exact acY _ gx.1 gx.2
     ·exact acY _ PI sd.2.1.2
    ·have VL:=hu.1
     rw[aq (x:=(j:Int)+1) (by omega) (by omega),ae j]
     have hum:L2 m u:=G.mono (by omega) hu
     refine au (fun _=>by omega) fun _=>ok_eq (fun _=>NH t ⟨p9,by omega,PC⟩) fun _=> ?_
     unfold N5
     refine af (Q:=fun r=>Bg 60000 r.1) (af (u6 N (by omega) (by omega) hc hum _) fun r hr=>ag hr) fun a ha=>af (ou N (by omega) (by omega) ha) fun d hd=>af (sH N hd) fun v hv=>bu (fun _=>ag G.nil) fun _=>aE (by rw[List.length_singleton];omega) (NH (_,_) ⟨dy _,by dsimp only;rw[List.length_append,List.length_singleton];omega,fun x hx=> ?_⟩)
     rcases List.mem_append.1 hx with hx|hx
     ·exact PC x hx
     ·rw[List.mem_singleton.1 hx];exact⟨p9,hum,hv,(show aD 1 from aU),aT,aT,trivial⟩
   ·rw[aq (x:=(k:Int)+1) (by omega) (by omega),ae k]
    exact au (fun _=>by omega) fun _=>hr t ⟨ht.1,by have:=ht.2.1;omega,ht.2.2⟩
 ·exact au (fun _=>by omega) fun _=>ag ⟨by have:=hI.2.1;dsimp only;omega,hI.2.2⟩
end VM
end
section
namespace VM
open Go VM.F
theorem rk(N:Nat)(hN:200000≤N){l:ax}(hl:l.length≤100000):Ok (fun _=>True) (kG N l):=by
 unfold kG kG.b
 refine g5 (len:=l.length) (F:=fun n i=>kG.l2 N n l i) (by omega) (fun n i hi hr=> ?_) (fun n=> ?_)
 all_goals unfold kG.l2 kG.dx
 ·rw[aq (x:=(i:Int)+1) (by omega) (by omega),ae i]
  dsimp only
  repeat' first|exact hr|exact da|refine ar ⟨by omega,by omega⟩ ?_|refine ar (by rw[aq (x:=(i:Int)-1) (by omega) (by omega)];omega) ?_|refine au (fun _=> ?_) (fun _=> ?_)|refine cZ (fun _=> ?_) (fun _=> ?_)|refine ok_eq (fun _=> ?_) (fun _=> ?_)|(exfalso;omega)
 ·exact au (fun _=>by omega) fun _=>da
theorem KY(N:Nat)(hN:200000≤N){l:List Int}(hl:l.length≤100000):Ok (fun _=>True) (mI N l):=by
 unfold mI mI.b
 refine g5 (len:=l.length) (F:=fun n i=>mI.l2 N n l i) (by omega) (fun n i hi hr=> ?_) (fun n=> ?_)
 all_goals unfold mI.l2 mI.dx
 ·rw[aq (x:=(i:Int)+1) (by omega) (by omega),ae i]
  dsimp only
  repeat' first|exact hr|exact da|refine ar ⟨by omega,by omega⟩ ?_|refine ar (by rw[aq (x:=(i:Int)-1) (by omega) (by omega)];omega) ?_|refine au (fun _=> ?_) (fun _=> ?_)|refine cZ (fun _=> ?_) (fun _=> ?_)|refine ok_eq (fun _=> ?_) (fun _=> ?_)|(exfalso;omega)
 ·exact au (fun _=>by omega) fun _=>da
theorem N6(N:Nat)(hN:200000≤N)(a:Int){L:aB}{l:ay}{m:Nat}(hm:m≤50000)(hL:LL m L)(hl:G m (.slice cF) l):Ok aD (fm N a L l):=by
 have h1:=hL.1
 have h2:=hl.1
 have i3:aD 3:=aU
 have i2:aD 2:=aU
 unfold fm fm.b
 refine bb (len:=l.length) (F:=fun n i v=>fm.l3 N n a L l v i) (fun _ v=>aD v) (show aD 1 from aU) (by omega) (fun n i v hi hv hr=> ?_) (fun n v hv=> ?_)
 all_goals unfold fm.l3 fm.iE
 ·rw[aq (x:=(i:Int)+1) (by omega) (by omega),ae i]
  exact au (fun _=>ar ⟨by omega,by omega⟩ (bq (fun _=>hr v hv) fun _=>ar ⟨by omega,by omega⟩ (af (yT N hN hm hL _) fun _ _=>nT (fun _=>ar ⟨by omega,by omega⟩ (cZ (fun _=>hr _ (u5 hv i3)) fun _=>hr _ (u5 hv i2))) fun _=>hr _ (u5 hv i2)))) fun _=>by omega
 ·refine au (fun _=>by omega) fun _=>bb (len:=L.length) (F:=fun n i v=>fm.mT N n a L v i) (fun _ v=>aD v) hv (by omega) (fun n i v hi hv hr=> ?_) (fun n v hv=> ?_)
  all_goals unfold fm.mT fm.lq
  ·rw[aq (x:=(i:Int)+1) (by omega) (by omega),ae i]
   exact au (fun _=>ar ⟨by omega,by omega⟩ (ok_eq (fun _=>ar ⟨by omega,by omega⟩ (ok_eq (fun _=>hr 4 aU) fun _=>hr v hv)) fun _=>hr v hv)) fun _=>by omega
  ·exact au (fun _=>by omega) fun _=>ag hv
theorem N7(N:Nat)(hN:200000≤N)(c:aa){d:ax}{u:List Int}{L:aB}{l:ay}{m:Nat}(h2:200≤m)(hm:m≤50000)(hd:L2 m d)(hu:u.length≤m)(hL:LL m L)(hl:G m (.slice cF) l):Ok (fun r=>L2 m r.1) (cc N c d u L l):=by
 have h3:=hd.1
 have h4:=hL.1
 have h5:=hl.1
 have hw:vN L:=fun y hy=>Nat.le_trans (hL.2 y hy).2.1.1 (by omega)
 unfold cc cc.b
 refine af (rk N hN (by omega)) fun _ _=>bu (fun _=>ag G.nil) fun _=>af (KY N hN (by omega)) fun _ _=>bu (fun _=>ag G.nil) fun _=>b8 (yu N hN c (by omega) hw) (bu (fun _=>ag G.nil) fun _=>b8 (qy N (by omega) hN) (bu (fun _=>ag G.nil) fun _=>gr (len:=13) (F:=fun n i s=>cc.l5 N n d u L l s i) (fun i s=>L2 i s) (fun n i s hi hI hr=> ?_) (fun n s hI=> ?_) 13 N 1 [] (by omega) (by omega) (by omega) G.nil))
 all_goals unfold cc.l5 cc.dd
 ·have hs:=hI.1
  refine cZ (fun _=> ?_) fun _=>by omega
  refine bb (len:=d.length) (F:=fun n' j (z:Int×Bool)=>cc.l9 N (cc.l5 N n) n' d u L l s (i:Int) z.1 z.2 j) (s:=(_,_)) (fun _ z=>aD z.1) aT (by omega) (fun n' j z hj hz dA=> ?_) (fun n' z hz=> ?_)
  all_goals unfold cc.l9 cc.rN
  ·rw[aq (x:=(j:Int)+1) (by omega) (by omega),ae j]
   exact au (fun _=>ar ⟨by omega,by omega⟩ (ok_eq (fun _=>ar ⟨by omega,by omega⟩ (dA (_,_) (G.at hd _).2.1)) fun _=>dA z hz)) fun _=>by omega
  ·refine au (fun _=>by omega) fun _=>bb (len:=u.length) (F:=fun n' j f=>cc.AT N (cc.l5 N n) n' d u L l s (i:Int) z.1 f j) (fun _ _=>True) trivial (by omega) (fun n' j f hj _ dA=> ?_) (fun n' f _=> ?_)
   all_goals unfold cc.AT cc.yI
   ·rw[aq (x:=(j:Int)+1) (by omega) (by omega),ae j]
    exact au (fun _=>nT (fun _=>dA _ trivial) fun _=>ar ⟨by omega,by omega⟩ (dA _ trivial)) fun _=>by omega
   ·refine au (fun _=>by omega) fun _=>bb (len:=l.length) (F:=fun n' j f=>cc.tR N (cc.l5 N n) n' d u L l s (i:Int) z.1 f j) (fun _ _=>True) trivial (by omega) (fun n' j f hj _ dA=> ?_) (fun n' f _=> ?_)
    all_goals unfold cc.tR cc.rB
    ·rw[aq (x:=(j:Int)+1) (by omega) (by omega),ae j]
     exact au (fun _=>nT (fun _=>dA _ trivial) fun _=>ar ⟨by omega,by omega⟩ (dA _ trivial)) fun _=>by omega
    ·rw[aq (x:=(i:Int)+1) (by omega) (by omega),ae i]
     dsimp only
     exact au (fun _=>by omega) fun _=>nT (fun _=>af (N6 N hN _ hm hL hl) fun v hv=>aE (by rw[List.length_singleton];omega) (hr _ (G.cat hI (G.one (m:=1) (G2 (fc (by omega) (by omega)) (u5 hz hv)) (Nat.le_refl 1))))) fun _=>hr s (G.mono (by omega) hI)
 ·exact cZ (fun _=>by omega) fun _=>ag (G.mono (by omega) hI)
theorem N8(N:Nat)(hN:200000≤N){l:ax}(hl:l.length≤100000)(a:Int):Ok (fun _=>True) (mJ N l a):=by
 unfold mJ mJ.b
 refine af (rk N hN hl) fun _ _=>bu (fun _=>da) fun _=>g5 (len:=l.length) (F:=fun n i=>mJ.l4 N n l a i) (by omega) (fun n i hi hr=> ?_) (fun n=> ?_)
 all_goals unfold mJ.l4 mJ.cL
 ·rw[aq (x:=(i:Int)+1) (by omega) (by omega),ae i]
  exact au (fun _=>ar ⟨by omega,by omega⟩ (ok_eq (fun _=>ar ⟨by omega,by omega⟩ da) fun _=>hr)) fun _=>by omega
 ·exact au (fun _=>by omega) fun _=>da
theorem Jk(N:Nat)(a:Int):Ok (fun _=>True) (N9 N a):=by
 unfold N9
 exact ok_eq (fun _=>da) fun _=>da
theorem HL(N:Nat)(hN:5000000≤N)(c:aa){b:ah}{d:ax}{m:Nat}(hm:m≤50000)(hb:G m aC b)(hd:L2 m d)(a k:Int):Ok (fun r=>G m (.slice (.int .i64)) r.1) (mK N c b d a k):=by
 have hl:=hb.1.1
 have h2:=hd.1
 unfold mK mK.b
 refine b8 (dw N hN hm hb) (bu (fun _=>ag G.nil) fun _=>af (rk N (by omega) (by omega)) fun _ _=>bu (fun _=>ag G.nil) fun _=>bb (len:=b.1.length) (F:=fun n i s=>mK.l5 N n d a k b s i) (fun i s=>G i (.slice (.int .i64)) s) G.nil (by omega) (fun n i s hi hI hr=> ?_) (fun n s hI=> ?_))
 all_goals unfold mK.l5 mK.dd
 ·have hs:=hI.1
  rw[aq (x:=(i:Int)+1) (by omega) (by omega),ae i]
  have h1:=hr s (G.mono (by omega) hI)
  have hx:G 0 (.int .i64) (b.1.getD (i:Int).toNat bO).1:=(G.at hb.1 _).1
  exact au (fun _=>ar ⟨by omega,by omega⟩ (af (Jk N _) fun _ _=>nT (fun _=>bq (fun _=>af (my N (by omega) hm hb.2.2.1 _ _) fun _ _=>au (fun _=>af (N8 N (by omega) (by omega) _) fun _ _=>ok_eq (fun _=>aE (by rw[List.length_singleton];omega) (hr _ (G.cat hI (G.one hx (Nat.le_refl 1))))) fun _=>h1) fun _=>h1) fun _=>h1) fun _=>h1)) fun _=>by omega
 ·exact au (fun _=>by omega) fun _=>ag (G.mono hl hI)
theorem yU(N:Nat)(hN:200000≤N){a:ay}{m:Nat}(hm:m≤50000)(h:G m (.slice cF) a)(id:Int):Ok aD (su N a id):=by
 refine ky (uU N (Nat.le_trans h.1 (by omega)) hN id) ?_
 unfold dW
 split
 ·have: ∀l:ay,(∀x∈l,G m cF x)→aD (ia id l):=by
   intro l
   induction l with
   |nil=>intro _;exact aT
   |cons x t ih=>
    intro hx
    have hi:=ih fun y hy=>hx y (List.mem_cons_of_mem _ hy)
    rw[nw]
    split
    ·split
     ·exact(hx x (List.mem_cons_self ..)).1
     ·exact hi
    ·exact hi
  exact this a h.2
 ·exact aT
abbrev L5(m:Nat)(l:bg):Prop:=G m (.slice ov) l
theorem G5{m:Nat}{a b c d e:Int}(ha:aD a)(hb:aD b)(hc:aD c)(hd:aD d)(he:aD e):G m ov (a,(b,(c,(d,(e,()))))):=⟨ha,hb,hc,hd,he,trivial⟩
theorem Ck(N:Nat)(hN:200000≤N){l:bg}{b:ah}{m k:Nat}(hm:m≤50000)(hb:G m aC b)(hk:k≤1000000)(hl:L5 k l){a d n:Int}(ha:aD a)(hd:aD d)(hn:aD n):Ok (fun r=>L5 (k+1) r) (HM N l b a d n):=by
 have h1:=hl.1
 unfold HM
 exact af (my N hN hm hb.2.2.1 _ _) fun x hx=>au (fun _=>aE (by rw[List.length_singleton];omega) (ag (G.cat hl (G.one (m:=1) (G5 ha hd hn hx aT) (Nat.le_refl 1))))) fun _=>ag (G.mono (by omega) hl)
theorem Oa(N:Nat)(hN:5000000≤N){c:aa}{b:ah}{d g:ax}{a:Int}{m:Nat}(hm:m≤50000)(hc:G m an c)(hb:G m aC b)(hd:L2 m d)(hg:L2 m g)(ha:aD a):Ok (fun r=>L5 1000000 r.1) (bY N c b a d g):=by
 have h1:=hb.1.1
 have h2:=hd.1
 have h3:=hg.1
 have h4:=hb.2.1.1
 have hj: ∀l:bg,L5 1 l→Ok (fun r=>L5 1000000 r.1) (bY.j9 N a d g c b l):=fun l hl=>by
  unfold bY.j9 bY.GY
  refine af (Ck N (by omega) hm hb (by omega) hl aU aU ha) fun l hl=>af (Ck N (by omega) hm hb (by omega) hl aU aU aT) fun l hl=>gr (len:=5) (F:=fun n k s=>bY.mT N n a d g c b s k) (fun k s=>L5 (3+m*k) s) (fun n k s hk hs hr=> ?_) (fun n s hs=> ?_) 5 N 1 l (by omega) (by omega) (by omega) (G.mono (by omega) hl)
  all_goals unfold bY.mT bY.lq
  ·have hmk:m*k≤m*4:=Nat.mul_le_mul_left m (by omega)
   refine cZ (fun _=>af (HL N hN c hm hb hd _ _) fun t ht=> ?_) fun _=>by omega
   have htl:=ht.1
   refine bb (len:=t.1.length) (F:=fun n' j u=>bY.rz N (bY.mT N n) n' a d g c b u (k:Int) t.1 j) (fun j u=>L5 (3+m*k+j) u) hs (by omega) (fun n' j u hj hu dA=> ?_) (fun n' u hu=> ?_)
   all_goals unfold bY.rz bY.qt
   ·rw[aq (x:=(j:Int)+1) (by omega) (by omega),ae j]
    exact au (fun _=>ar ⟨by omega,by omega⟩ (af (Ck N (by omega) hm hb (by omega) hu (dy _) aU (G.at ht _)) fun v hv=>dA v hv)) fun _=>by omega
   ·rw[aq (x:=(k:Int)+1) (by omega) (by omega),ae k]
    exact au (fun _=>by omega) fun _=>hr u (G.mono (by rw[Nat.mul_succ];omega) hu)
  ·refine cZ (fun _=>by omega) fun _=>bb (len:=b.1.length) (F:=fun n j u=>bY.Cj N n a g c b u j) (fun j u=>L5 (3+m*5+j) u) hs (by omega) (fun n j u hj hu hr=> ?_) (fun n u hu=> ?_)
   all_goals unfold bY.Cj bY.HJ
   ·have VL:=hu.1
    have hx:aD (b.1.getD (j:Int).toNat bO).1:=(G.at hb.1 _).1
    rw[aq (x:=(j:Int)+1) (by omega) (by omega),ae j]
    have h0:=hr u (G.mono (by omega) hu)
    exact au (fun _=>ar ⟨by omega,by omega⟩ (af (Jk N _) fun _ _=>bu (fun _=>h0) fun _=>ok_eq (fun _=>h0) fun _=>af (aX N (by omega) hc.2.2.1) fun p hp=>af (my N (by omega) hm hb.2.2.1 _ _) fun q hq=>af (aX N (by omega) hq) fun q hq=>af (jh N (by omega) (by omega) (by omega) hp hq) fun y hy=>af (sH N hy) fun v hv=>bu (fun _=>ag G.nil) fun _=>au (fun _=>aE (by rw[List.length_singleton];omega) (hr _ (G.mono (by omega) (G.cat hu (G.one (m:=1) (G5 (show aD 8 from aU) (show aD 7 from aU) hx hv aT) (Nat.le_refl 1)))))) fun _=>h0)) fun _=>by omega
   ·refine au (fun _=>by omega) fun _=>bb (len:=g.length) (F:=fun n j u=>bY.Hj N n a g b u j) (fun j u=>L5 (3+m*5+m+j) u) (G.mono (by omega) hu) (by omega) (fun n j u hj hu hr=> ?_) (fun n u hu=> ?_)
    all_goals unfold bY.Hj bY.D8
    ·have VL:=hu.1
     rw[aq (x:=(j:Int)+1) (by omega) (by omega),ae j]
     have h0:=hr u (G.mono (by omega) hu)
     dsimp only
     exact au (fun _=>ar ⟨by omega,by omega⟩ (af (ra N (by omega) hm hb.2.1 _) fun x hx=>ar ⟨by omega,by omega⟩ (ar ⟨by omega,by omega⟩ (af (my N (by omega) hm hb.2.2.1 _ _) fun q hq=>nT (fun _=>bq (fun _=>au (fun _=>aE (by rw[List.length_singleton];omega) (hr _ (G.mono (by omega) (G.cat hu (G.one (m:=1) (G5 (show aD 9 from aU) (show aD 5 from aU) hx.1 (QW (G.at hg _).2.1 hq) aT) (Nat.le_refl 1)))))) fun _=>h0) fun _=>h0) fun _=>h0)))) fun _=>by omega
    ·exact au (fun _=>by omega) fun _=>ag (G.mono (by omega) hu)
 unfold bY bY.b
 exact b8 (dw N hN hm hb) (bu (fun _=>ag G.nil) fun _=>af (rk N (by omega) (by omega)) fun _ _=>bu (fun _=>ag G.nil) fun _=>af (A6 N (by omega) (by omega)) fun _ _=>bu (fun _=>ag G.nil) fun _=>af (lP N (by omega) hm hb.1 _) fun _ _=>ok_eq (fun _=>ag G.nil) fun _=>af (yU N (by omega) hm hb.2.1 _) fun h hh=>bq (fun _=>af (Ck N (by omega) hm hb (by omega) (G.nil (m:=0)) aU aU hh) fun l hl=>hj l hl) fun _=>hj [] G.nil)
end VM
end
section
namespace VM
open Go VM.F
theorem KZ(N:Nat)(hN:5000000≤N)(c:aa){b:ah}{m:Nat}(hm:m≤50000)(hb:G m aC b):Ok (fun r=>aD r.1) (Re N c b):=by
 unfold Re
 exact b8 (dw N hN hm hb) (bu (fun _=>ag aT) fun _=>af (my N (by omega) hm hb.2.2.1 _ _) fun x hx=>ok_eq (fun _=>ag aT) fun _=>ag (u5 (dy _) aT))
theorem HN(N:Nat)(hN:5000000≤N)(c:aa){b:ah}{m:Nat}(hm:m≤50000)(hb:G m aC b):Ok (fun r=>aD r.1) (Rf N c b):=by
 unfold Rf
 exact b8 (dw N hN hm hb) (bu (fun _=>ag aT) fun _=>af (my N (by omega) hm hb.2.2.1 _ _) fun x hx=>ag (u5 hx aT))
theorem XR(N:Nat)(a b:Int):Ok (fun _=>True) (G6 N a b):=by
 unfold G6
 repeat' first|exact da|refine ok_eq (fun _=> ?_) (fun _=> ?_)|refine cZ (fun _=> ?_) (fun _=> ?_)
theorem K0(N:Nat)(hN:200000≤N)(l:bg):Ok (fun r=>r=true→l.length≤64) (mL N l):=by
 have hf:Ok (fun r=>r=true→l.length≤64) (some false):=ag fun h=>nomatch h
 unfold mL mL.b
 refine au (fun _=>hf) fun hl=>g5 (len:=l.length) (F:=fun n i=>mL.l4 N n l i) (by omega) (fun n i hi hr=> ?_) (fun n=> ?_)
 all_goals unfold mL.l4 mL.cL
 ·rw[aq (x:=(i:Int)+1) (by omega) (by omega),ae i]
  dsimp only
  repeat' first|exact hr|exact hf|refine ar ⟨by omega,by omega⟩ ?_|refine ar (by rw[aq (x:=(i:Int)-1) (by omega) (by omega)];omega) ?_|refine au (fun _=> ?_) (fun _=> ?_)|refine cZ (fun _=> ?_) (fun _=> ?_)|refine ok_eq (fun _=> ?_) (fun _=> ?_)|(exfalso;omega)|refine af (XR N _ _) fun _ _=> ?_|refine bu (fun _=> ?_) (fun _=> ?_)
 ·exact au (fun _=>by omega) fun _=>ag fun _=>by omega
theorem Jl{σ β:Type}{P:β→Prop}{F:Nat→Int→σ→Option β}{len:Nat}(I:σ→Prop)
  (hs: ∀n i s,i<len→I s→(∀j s',i<j→j≤len→I s'→Ok P (F n (j:Int) s'))→Ok P (F (n+1) (i:Int) s)) (he: ∀n s,I s→Ok P (F (n+1) (len:Int) s)):
  ∀m n i s,len-i≤m→m<n→i≤len→I s→Ok P (F n (i:Int) s)
 |m,0,i,s,_,hn,_,_=>by omega
 |m,n+1,i,s,hm,hn,hi,hI=>by
  by_cases h:i<len
  ·exact hs n i s h hI fun j s' hj Vy rK=>Jl I hs he (m-1) n j s' (by omega) (by omega) Vy rK
  ·have:i=len:=by omega
   subst this
   exact he n s hI
theorem G5q{m:Nat}{x:tV}{q:Int}(h:G m ov x)(hq:aD q):G m ov (x.1,(x.2.1,(x.2.2.1,(x.2.2.2.1,(q,x.2.2.2.2.2))))):=⟨h.1,h.2.1,h.2.2.1,h.2.2.2.1,hq,trivial⟩
theorem ac0: ∀{w:List Int},Pos w→0≤w.sum
 |[],_=>Int.le_refl _
 |x::t,h=>by
  rw[List.sum_cons]
  have:=h x (List.mem_cons_self ..)
  have:=ac0 (w:=t) fun y hy=>h y (List.mem_cons_of_mem _ hy)
  omega
theorem K1{t:Int}{w:List Int}(h1:t<9223372036854775808)(h:(mq t w).2=0):(mq t w).1.length=w.length∧B6 (mq t w).1:=by
 unfold mq at h ⊢
 split at h
 ·exact absurd h (by decide)
 ·split at h
  ·exact absurd h (by decide)
  ·rename_i h2 h3
   split at h
   ·split at h
    ·rename_i h4 h5
     rw[if_neg h2,if_neg h3,if_pos h4,if_pos h5]
     exact⟨List.length_replicate ..,fun x hx=>by rw[List.eq_of_mem_replicate hx];decide⟩
    ·exact absurd h (by decide)
   ·rename_i h4
    rw[if_neg h2,if_neg h3,if_neg h4]
    have hm:may w=true:=by
     by_cases hm:may w=true
     ·exact hm
     ·exact absurd (Or.inr (Bool.eq_false_iff.2 hm)) h2
    have hp:=(jX.1 hm).2
    have h0:0≤t:=by omega
    have hS:0<w.sum:=by have:=ac0 hp;omega
    exact⟨jM t w,VN (pa h0 hS hp) (by rw[o9 h0 hS];exact h1)⟩
theorem HO(N:Nat)(hN:5000000≤N){l:bg}{q:Int}{m:Nat}(hl:L5 m l)(hq:aD q):Ok (fun r=>L5 64 r.1∧aD r.2.1) (ct N l q):=by
 have et: ∀e:Int,Ok (fun r:bg×Int×Int=>L5 64 r.1∧aD r.2.1) (some ([],((0:Int),e))):=fun e=>ag ⟨G.nil,aT⟩
 unfold ct ct.b
 refine af (K0 N (by omega) l) fun z hz=>bu (fun _=>et _) fun ht=>au (fun _=>et _) fun _=> ?_
 have uu:=hz ht
 rw[List.nil_append]
 refine aE (by rw[List.length_nil];omega) (Jl (len:=l.length) (F:=fun n i (s:bg×Int)=>ct.l5 N n s.1 s.2 i) (fun s=>s.1.length=l.length∧L5 64 s.1∧aD s.2) (fun n i s hi hI hr=> ?_) (fun n s hI=> ?_) l.length N 0 (l,q) (by omega) (by omega) (by omega) ⟨rfl,⟨uu,fun x hx=>G.mono (m:=0) (Nat.zero_le _) (hl.2 x hx)⟩,hq⟩)
 all_goals unfold ct.l5 ct.dd
 ·obtain⟨Iu,VC,hs3⟩:=hI
  refine au (fun _=> ?_) fun _=>by omega
  have fin: ∀(k:Nat) (w:List Int),i<k→k≤l.length→w.length=k-i→B6 w→Ok (fun r=>L5 64 r.1∧aD r.2.1) (ct.Gr N (ct.l5 N n) s.1 s.2 (i:Int) (k:Int) w):=fun k w hk zA hw Ht=>by
   unfold ct.Gr ct.yR
   have xr:aD (mn (zN w.sum).1 s.2):=QW (Hw _) hs3
   refine b8 (so N (by omega) Ht (by omega)) (b8 (ql N _) (bu (fun _=>et _) fun _=>b8 (uY N hN xr.2 Ht (by omega)) (bq (fun _=>et _) fun h0=> ?_)))
   obtain⟨e1,e2⟩:=K1 xr.2 h0
   generalize (mq (mn (zN w.sum).1 s.2) w).1=v at*
   refine gr (len:=k) (F:=fun n' j (z:bg×Int)=>ct.tR N (ct.l5 N n) n' z.1 z.2 (i:Int) (k:Int) v j) (fun j z=>i≤j∧z.1.length=l.length∧L5 64 z.1∧aD z.2) (fun n' j z hj hz dA=> ?_) (fun n' z hz=> ?_) k N i s (by omega) (by omega) (by omega) ⟨Nat.le_refl i,Iu,VC,hs3⟩
   all_goals unfold ct.tR ct.rB
   ·obtain⟨ng,wX,Gm,hz3⟩:=hz
    dsimp only
    rw[aq (x:=(j:Int)+1) (by omega) (by omega),ae j,aq (x:=(j:Int)-i) (by omega) (by omega)]
    exact au (fun _=>ar ⟨by omega,by omega⟩ (ar ⟨by omega,by omega⟩ (ar ⟨by omega,by omega⟩ (dA (_,_) ⟨by omega,by dsimp only;rw[List.length_set];exact wX,G.set Gm (G5q (G.at Gm _) (om e2 _)) _,dy _⟩)))) fun _=>by omega
   ·exact au (fun _=>by omega) fun _=>hr k z hk zA hz.2
  refine gr (len:=l.length) (F:=fun n' k w=>ct.l8 N (ct.l5 N n) n' s.1 s.2 (i:Int) k w) (fun k w=>i≤k∧w.length=k-i∧B6 w) (fun n' k w hk hw dA=> ?_) (fun n' w hw=> ?_) l.length N i [] (by omega) (by omega) (by omega) ⟨Nat.le_refl i,by rw[List.length_nil];omega,fun x hx=>nomatch hx⟩
  all_goals unfold ct.l8 ct.w5
  ·obtain⟨hik,hwl,Ht⟩:=hw
   rw[aq (x:=(k:Int)+1) (by omega) (by omega),ae k]
   refine au (fun _=>ar ⟨by omega,by omega⟩ (ar ⟨by omega,by omega⟩ (ok_eq (fun _=>ar ⟨by omega,by omega⟩ (aE (by rw[List.length_singleton];omega) (dA _ ⟨by omega,by rw[List.length_append,List.length_singleton];omega,fun x hx=> ?_⟩))) fun gG=> ?_))) fun _=>by omega
   ·rcases List.mem_append.1 hx with hx|hx
    ·exact Ht x hx
    ·rw[List.mem_singleton.1 hx];exact(G.at VC _).2.2.2.1
   ·refine fin k w ?_ (by omega) hwl Ht
    by_cases e:k=i
    ·subst e;exact absurd rfl gG
    ·omega
  ·exact au (fun _=>by omega) fun _=>fin l.length w hi (Nat.le_refl _) hw.2.1 hw.2.2
 ·exact au (fun _=>by omega) fun _=>ag ⟨hI.2.1,hI.2.2⟩
abbrev R0:cJ:=((0:Int),((0:Int),(([]:bg),((0:Int),()))))
theorem K2(N:Nat)(hN:5000000≤N){c:aa}{b:ah}{d g:ax}{a:Int}{m:Nat}(h2:200≤m)(hm:m≤40000)(hc:G m an c)(hb:G m aC b)(hd:L2 m d)(hg:L2 m g)(ha:aD a):Ok (fun r=>G m aC r.1∧G m dL r.2.1) (gz N c b a d g):=by
 have et: ∀e:Int,Ok (fun r:ah×cJ×Int=>G m aC r.1∧G m dL r.2.1) (some ((aV,(cm,(bh,(bh,(cK,(cT,())))))),(R0,e))):=fun e=>ag ⟨G.eR,G.zero m dL⟩
 unfold gz gz.b
 refine af (Oa N hN (by omega) hc hb hd hg ha) fun l hl=>ok_eq (fun _=>et _) fun _=>ok_eq (fun _=>et _) fun _=>af (KZ N hN c (by omega) hb) fun q hq=>bq (fun _=>et _) fun _=>bq (fun _=>et _) fun _=>af (HO N hN hl hq) fun z ⟨wX,Gm⟩=>bq (fun _=>et _) fun _=> ?_
 have hzl:=wX.1
 have hj: ∀(p:bk) (r:cJ) (t:bg) (x k n:Int),fJ 1000 p→G m dL r→L5 64 t→aD x→Ok (fun r=>G m aC r.1∧G m dL r.2.1) (gz.j26 N b (aV,(cm,(bh,(bh,(cK,(cT,())))))) R0 p r t x k n):=fun p r t x k n hp hr ht hx=>by
  have WN:=hp.1
  unfold gz.j26 gz.XS
  exact af (aX N (by omega) hx) fun v hv=>af (nL N (by omega) _ _ _ _ (Bg.mono hv (by omega))) fun u hu=>aE (by have:=hu.1;omega) (af (nI N (by omega) h2 (by omega) hb G.nil (fJ.mono (fJ.app hp hu) (by omega))) fun w hw=>bq (fun _=>et _) fun _=>ag ⟨hw,hr.1,hr.2.1,G.mono (by omega) ht,hr.2.2.2⟩)
 refine bb (len:=z.1.length) (F:=fun n i (s:bk×cJ×bg)=>gz.KK N n a c b (aV,(cm,(bh,(bh,(cK,(cT,())))))) R0 z.1 z.2.1 s.1 s.2.1 s.2.2 i) (s:=(_,(_,_))) (fun i s=>fJ (2*i) s.1∧G m dL s.2.1∧L5 i s.2.2) ⟨fJ.nil,⟨ha,hq,G.nil,Gm,trivial⟩,G.nil⟩ (by omega) (fun n i s hi hI hr=> ?_) (fun n s hI=> ?_)
 all_goals unfold gz.KK gz.HA
 ·obtain⟨h4,h5,h6⟩:=hI
  have hp:=h4.1
  have ht:=h6.1
  have hx:G 0 ov (z.1.getD (i:Int).toNat jv):=G.at wX _
  rw[aq (x:=(i:Int)+1) (by omega) (by omega),ae i]
  exact au (fun _=>ar ⟨by omega,by omega⟩ (au (fun _=>ar ⟨by omega,by omega⟩ (aE (by rw[List.length_singleton];omega) (ar ⟨by omega,by omega⟩ (ar ⟨by omega,by omega⟩ (ar ⟨by omega,by omega⟩ (af (aX N (by omega) hx.2.2.2.2.1) fun v hv=>af (nL N (by omega) _ _ _ _ (Bg.mono hv (by omega))) fun u hu=>aE (by have:=hu.1;omega) (hr (_,(_,_)) ⟨fJ.mono (fJ.app h4 hu) (by omega),⟨h5.1,h5.2.1,G.nil,h5.2.2.2⟩,G.cat h6 (G.one hx (Nat.le_refl 1))⟩))))))) fun _=>hr s ⟨fJ.mono h4 (by omega),h5,G.mono (by omega) h6⟩)) fun _=>by omega
 ·obtain⟨h4,h5,h6⟩:=hI
  have hp:=h4.1
  dsimp only
  exact au (fun _=>by omega) fun _=>af (aX N (by omega) Gm) fun v hv=>af (nL N (by omega) _ _ _ _ (Bg.mono hv (by omega))) fun u hu=>aE (by have:=hu.1;omega) (af (HN N hN c (by omega) hb) fun x hx=>af (yU N (by omega) (by omega) hb.2.1 _) fun h hh=>bq (fun _=>hj _ _ _ _ _ _ (fJ.mono (fJ.app h4 hu) (by omega)) h5 (G.mono (by omega) h6) hx) fun _=>hj _ _ _ _ _ _ (fJ.mono (fJ.app h4 hu) (by omega)) h5 (G.mono (by omega) h6) hx)
end VM
end
section
namespace VM
open Go VM.F
theorem K3(N:Nat)(hN:5000000≤N){t:Int}{w:List Int}(ht:t<9223372036854775808)(hw:B6 w)(hl:w.length≤1000000):Ok (fun r=>r.2.2=0→r.1.length=w.length∧B6 r.1) (cS N t w w):=by
 refine ky (Hu N hN ht hw hw hl) fun h0=> ?_
 have f:=Hv ht hw h0
 have c:=f.c
 have hl2:=c.l2
 refine⟨hl2,fun x hx=> ?_⟩
 obtain⟨i,hi,e⟩:=List.getElem_of_mem hx
 have h1:=c.le i (by omega)
 have h2:=(c.pc i).2
 have h3:=c.po i
 rw[List.getD_eq_getElem?_getD (l:=(pe t w w).1),List.getElem?_eq_getElem hi,Option.getD_some,e]at h1 h3
 exact⟨by omega,by omega⟩
theorem Rg(N:Nat)(hN:5000000≤N)(c:aa){b:ah}{m:Nat}(hm:m≤40000)(hb:G m aC b){a:Int}(ha:aD a):Ok (fun r=>L3 (m+1) r.1) (pj N c b a):=by
 have w:=(G.wf (by omega) hb).w
 have hl:=hb.2.2.2.1.1
 unfold pj pj.b
 refine b8 (dw N hN (by omega) hb) (bu (fun _=>ag G.nil) fun _=>au (fun _=>ag G.nil) fun _=>cZ (fun _=>ag G.nil) fun _=>b8 (w9 N w.s (by omega) 0 a) (ok_eq (fun _=>ag G.nil) fun _=> ?_))
 have hq:=Nv w.qs 0 a
 generalize sD b.2.2.2.1 0 a=q at*
 refine bb (len:=b.2.2.2.1.length) (F:=fun n i (s:List Int×List Int)=>pj.A4 N n a b q s.1 s.2 i) (s:=(_,_)) (fun i s=>s.1.length≤i∧s.2.length=s.1.length∧B6 s.1∧B6 s.2) ⟨Nat.zero_le _,rfl,(fun x hx=>nomatch hx),fun x hx=>nomatch hx⟩ (by omega) (fun n i s hi hI hr=> ?_) (fun n s hI=> ?_)
 all_goals unfold pj.A4 pj.yP
 ·obtain⟨h1,h2,h3,h4⟩:=hI
  have hx:G 0 fI (b.2.2.2.1.getD (i:Int).toNat a7):=G.at hb.2.2.2.1 _
  rw[aq (x:=(i:Int)+1) (by omega) (by omega),ae i]
  have h0:=hr s ⟨by omega,h2,h3,h4⟩
  have sn: ∀{l:List Int} {x:Int},B6 l→aD x→B6 (l++[x]):=fun hl hx y hy=>(List.mem_append.1 hy).elim (hl y) fun hy=>by rw[List.mem_singleton.1 hy];exact hx
  dsimp only
  exact au (fun _=>ar ⟨by omega,by omega⟩ (bq (fun _=>ok_eq (fun _=>nT (fun _=>aE (by rw[List.length_singleton];omega) (aE (by rw[List.length_singleton];omega) (hr (_,_) ⟨by dsimp only;rw[List.length_append,List.length_singleton];omega,by dsimp only;rw[List.length_append,List.length_append,List.length_singleton,List.length_singleton];omega,sn h3 hx.1,sn h4 (u5 hx.2.2.1 (dy _))⟩))) fun _=>h0) fun _=>h0) fun _=>h0)) fun _=>by omega
 ·obtain⟨h1,h2,h3,h4⟩:=hI
  refine au (fun _=>by omega) fun _=>af (K3 N hN (u5 hq (dy _)).2 h4 (by omega)) fun z hz=>bq (fun _=>ag G.nil) fun h0=> ?_
  obtain⟨e1,e2⟩:=hz h0
  refine bb (len:=z.1.length) (F:=fun n i u=>pj.XT N n a q s.1 z.1 u i) (fun i u=>L3 (1+i) u) (G.one (m:=1) (G3 aT ha (dy _)) (Nat.le_refl 1)) (by omega) (fun n i u hi hu hr=> ?_) (fun n u hu=> ?_)
  all_goals unfold pj.XT pj.XU
  ·have VL:=hu.1
   rw[aq (x:=(i:Int)+1) (by omega) (by omega),ae i]
   have h0:=hr u (G.mono (by omega) hu)
   have put: ∀x:Int,aD x→Ok (fun r=>L3 (m+1) r.1) (cond (small (u.length+[((s.1.getD (i:Int).toNat 0,(a,(x,()))):cy)].length)) (pj.XT N n a q s.1 z.1 (u++[(s.1.getD (i:Int).toNat 0,(a,(x,())))]) ((i+1:Nat):Int)) none):=fun x hx=>aE (by rw[List.length_singleton];omega) (hr _ (G.mono (by omega) (G.cat hu (G.one (m:=1) (G3 (om h3 _) ha hx) (Nat.le_refl 1)))))
   dsimp only
   exact au (fun _=>ar ⟨by omega,by omega⟩ (au (fun _=>bq (fun _=>ar ⟨by omega,by omega⟩ (put _ (dy _))) fun _=>h0) fun _=>bq (fun _=>ar ⟨by omega,by omega⟩ (put _ (om e2 _))) fun _=>h0)) fun _=>by omega
  ·exact au (fun _=>by omega) fun _=>ag (G.mono (by omega) hu)
theorem Rh(N:Nat)(hN:5000000≤N){c:aa}{b:ah}{m:Nat}(h2:200≤m)(hm:m≤7000)(hc:G 5 an c)(hb:G m aC b):Ok (fun r=>G m aC r.1) (yV N c b):=by
 have C8:=hc.1.1
 unfold yV yV.b
 refine b8 (dw N hN (by omega) hb) (bu (fun _=>ag G.eR) fun _=>bb (len:=c.1.length) (F:=fun n i s=>yV.l5 N n c b (aV,(cm,(bh,(bh,(cK,(cT,())))))) s i) (fun i s=>L3 ((m+1)*i) s) G.nil (by omega) (fun n i s hi hI hr=> ?_) (fun n s hI=> ?_))
 all_goals unfold yV.l5 yV.dd
 ·have hs:=hI.1
  have hmi:(m+1)*i≤(m+1)*5:=Nat.mul_le_mul_left _ (by omega)
  rw[aq (x:=(i:Int)+1) (by omega) (by omega),ae i]
  exact au (fun _=>af (Rg N hN c (by omega) hb (fc (by omega) (by omega))) fun r OY=>bq (fun _=>ag G.eR) fun _=>aE (by have:=OY.1;omega) (hr _ (G.mono (by rw[Nat.mul_succ];omega) (G.cat hI OY)))) fun _=>by omega
 ·have hmi:(m+1)*c.1.length≤(m+1)*5:=Nat.mul_le_mul_left _ (by omega)
  exact au (fun _=>by omega) fun _=>af (nI N (by omega) h2 (by omega) hb (G.mono (by omega) hI) fJ.nil) fun r hr=>ag hr
end VM
end
section
namespace VM
open Go VM.F
theorem Ri(N:Nat)(hN:200000≤N){l:ay}{m:Nat}(hm:m≤50000)(h:G m (.slice cF) l)(a:Int):Ok (fun r=>G 0 cF r.1) (yW N l a):=by
 have hl:=h.1
 have hz:G 0 cF aA:=G.zero 0 cF
 unfold yW yW.b
 refine b8 (qy N (by omega) hN) (bu (fun _=>ag hz) fun _=>bb (len:=l.length) (F:=fun n i (z:bp×Bool)=>yW.l6 N n l a aA z.1 z.2 i) (s:=(_,_)) (fun _ z=>G 0 cF z.1) hz (by omega) (fun n i z hi hI hr=> ?_) (fun n z hI=> ?_))
 all_goals unfold yW.l6 yW.n4
 ·rw[aq (x:=(i:Int)+1) (by omega) (by omega),ae i]
  have hx:G 0 cF (l.getD (i:Int).toNat aA):=G.at h _
  have h1:=hr z hI
  have h2:=hr (_,true) hx
  repeat' first|exact h1|exact h2|refine ar ⟨by omega,by omega⟩ ?_|refine au (fun _=> ?_) (fun _=> ?_)|refine ok_eq (fun _=> ?_) (fun _=> ?_)|refine bu (fun _=> ?_) (fun _=> ?_)|(exfalso;omega)
 ·exact au (fun _=>by omega) fun _=>ag hI
theorem GL{m:Nat}{a b d e f:Int}{l:ax}(ha:aD a)(hl:L2 m l)(hb:aD b)(hd:aD d)(he:aD e)(hf:aD f):G m dK (a,(l,(b,(d,(e,(f,())))))):=⟨ha,hl,hb,hd,he,hf,trivial⟩
theorem LL.app{m:Nat}{k:Nat}{l:aB}{x:cN}(hl:l.length≤k∧ ∀y∈l,G m dK y)(hx:G m dK x):(l++[x]).length≤k+1∧ ∀y∈l++[x],G m dK y:=
 ⟨by rw[List.length_append,List.length_singleton];have:=hl.1;omega,fun y hy=>(List.mem_append.1 hy).elim (hl.2 y) fun hy=>by rw[List.mem_singleton.1 hy];exact hx⟩
theorem Ob(N:Nat)(hN:5000000≤N)(c:aa){b:ah}{L:aB}{l:ay}{m:Nat}(h2:200≤m)(hm:m≤2000)(hb:G m aC b)(hL:LL m L)(hl:G m (.slice cF) l):Ok (fun r=>G m aC r.1∧LL m r.2.1) (nX N c b L l):=by
 have et: ∀e:Int,Ok (fun r:ah×aB×Int=>G m aC r.1∧LL m r.2.1) (some ((aV,(cm,(bh,(bh,(cK,(cT,())))))),([],e))):=fun e=>ag ⟨G.eR,G.nil⟩
 have h3:=hL.1
 have h4:=hl.1
 have hw:vN L:=fun y hy=>Nat.le_trans (hL.2 y hy).2.1.1 (by omega)
 unfold nX nX.b
 refine b8 (dw N hN (by omega) hb) (bu (fun _=>et _) fun _=>b8 (yu N (by omega) c (by omega) hw) (bu (fun _=>et _) fun hk=>b8 (qy N (by omega) (by omega)) (bu (fun _=>et _) fun _=> ?_)))
 have OZ:L.length≤12:=by
  unfold jK at hk
  exact of_decide_eq_true (Bool.and_eq_true_iff.1 (Bool.and_eq_true_iff.1 hk).2).1
 refine bb (len:=L.length) (F:=fun n i (z:aj×bk×aB)=>nX.l7 N n L l b (aV,(cm,(bh,(bh,(cK,(cT,())))))) z.1 z.2.1 z.2.2 i) (s:=(_,(_,_))) (fun i z=>L3 (2*m*i) z.1∧fJ (2*i) z.2.1∧z.2.2.length≤i∧ ∀y∈z.2.2,G m dK y) ⟨G.nil,fJ.nil,Nat.zero_le _,fun y hy=>nomatch hy⟩ (by omega) (fun n i z hi hI hr=> ?_) (fun n z hI=> ?_)
 all_goals unfold nX.l7 nX.ns
 ·obtain⟨h5,h6,h7⟩:=hI
  have h8:=h6.1
  have h9:=h7.1
  have hmi:2*m*i≤2*m*12:=Nat.mul_le_mul_left _ (by omega)
  have hms:2*m*(i+1)=2*m*i+2*m:=Nat.mul_succ _ _
  have hx:G m dK (L.getD (i:Int).toNat ((0:Int),(aV,aA))):=G.at hL _
  have hxl:=hx.2.1.1
  rw[aq (x:=(i:Int)+1) (by omega) (by omega),ae i]
  dsimp only
  rw[List.nil_append]
  have put: ∀x:cN,G m dK x→Ok (fun r=>G m aC r.1∧LL m r.2.1) (cond (small (z.2.2.length+[x].length)) (nX.l7 N n L l b (aV,(cm,(bh,(bh,(cK,(cT,())))))) z.1 z.2.1 (z.2.2++[x]) ((i+1:Nat):Int)) none):=fun x hx=>aE (by rw[List.length_singleton];omega) (hr (z.1,(z.2.1,z.2.2++[x])) ⟨G.mono (by omega) h5,fJ.mono h6 (by omega),LL.app h7 hx⟩)
  refine au (fun _=>ar ⟨by omega,by omega⟩ (aE (by rw[List.length_nil];omega) (bq (fun _=>put _ hx) fun _=>af (Ri N (by omega) (by omega) hl _) fun w hw=>bu (fun _=>put _ (GL hx.1 hx.2.1 hx.2.2.1 (show aD 3 from aU) hx.2.2.2.2.1 hx.2.2.2.2.2.1)) fun _=>af (yU N (by omega) (by omega) hb.2.1 _) fun h hh=>ok_eq (fun _=>et _) fun _=>af (ri N (by omega) (by omega) hb _) fun _ _=>ok_eq (fun _=>et _) fun _=> ?_))) fun _=>by omega
  have og:=GL hx.1 hx.2.1 hx.2.2.1 (show aD 2 from aU) hw.2.2.1 hw.2.2.2.1
  generalize hX:(((L.getD (i:Int).toNat ((0:Int),(aV,aA))).1,((L.getD (i:Int).toNat ((0:Int),(aV,aA))).2.1,((L.getD (i:Int).toNat ((0:Int),(aV,aA))).2.2.1,((2:Int),(w.1.2.2.1,(w.1.2.2.2.1,())))))):cN)=X at og
  have hXl:X.2.1.length≤m:=og.2.1.1
  refine bb (len:=X.2.1.length) (F:=fun n' j u=>nX.rA N (nX.l7 N n) n' L l b (aV,(cm,(bh,(bh,(cK,(cT,())))))) u z.2.1 z.2.2 (i:Int) X w.1 h j) (s:=z.1) (fun j u=>L3 (2*m*i+2*j) u) h5 (by omega) (fun n' j u hj hu dA=> ?_) (fun n' u hu=> ?_)
  all_goals unfold nX.rA nX.qu
  ·have VL:=hu.1
   have hy:G m gv (X.2.1.getD (j:Int).toNat bO):=G.at og.2.1 _
   dsimp only
   rw[aq (x:=(j:Int)+1) (by omega) (by omega),ae j]
   exact au (fun _=>ar ⟨by omega,by omega⟩ (ar ⟨by omega,by omega⟩ (ar ⟨by omega,by omega⟩ (ar ⟨by omega,by omega⟩ (aE (by rw[rf];omega) (dA _ (G.mono (by omega) (G.cat hu (G.two (m:=2) (G3 aT hy.1 (dy _)) (G3 hh hy.1 hy.2.1) (Nat.le_refl 2)))))))))) fun _=>by omega
  ·refine au (fun _=>by omega) fun _=>af (aX N (by omega) hw.2.2.2.1) fun v hv=>af (nL N (by omega) _ _ _ _ (Bg.mono hv (by omega))) fun p hp=>aE (by have:=hp.1;omega) (aE (by rw[List.length_singleton];omega) ?_)
   rw[aq (x:=(i:Int)+1) (by omega) (by omega),ae i]
   exact hr (_,(_,_)) ⟨G.mono (by omega) hu,fJ.mono (fJ.app h6 hp) (by omega),LL.app h7 og⟩
 ·obtain⟨h5,h6,h7⟩:=hI
  have hmi:2*m*L.length≤2*m*12:=Nat.mul_le_mul_left _ (by omega)
  exact au (fun _=>by omega) fun _=>af (nI N (by omega) h2 (by omega) hb (G.mono (by omega) h5) (fJ.mono h6 (by omega))) fun r hr=>bq (fun _=>et _) fun _=>ag ⟨hr,Nat.le_trans h7.1 (by omega),h7.2⟩
end VM
end
section
namespace VM
open Go VM.F
theorem Oc{l:ay}(h:ib l=true):l.length≤24:=by
 unfold ib at h
 rw[Bool.and_true]at h
 have h:=of_decide_eq_true h
 have key: ∀i,i<l.length→(i:Int)+1≤(l.getD i aA).1:=by
  intro i
  induction i with
  |zero=>intro hi;exact(h 0 hi).1.1.1
  |succ i ih=>
   intro hi
   have h1:=ih (by omega)
   have h2:(l.getD i aA).1<(l.getD (i+1) aA).1:=(h (i+1) hi).2.1 (by omega)
   have g: ∀a b:Int,(i:Int)+1≤a→a<b→((i+1:Nat):Int)+1≤b:=fun a b h1 h2=>by omega
   exact g _ _ h1 h2
 by_cases hl:l.length≤24
 ·exact hl
 ·have h1:=key 24 (by omega)
  have h2:=(h 24 (by omega)).1.1.2
  have g: ∀a:Int,((24:Nat):Int)+1≤a→a≤24→False:=fun a h1 h2=>by omega
  exact(g _ h1 h2).elim
theorem K4(N:Nat)(hN:5000000≤N){c:aa}{b:ah}{m:Nat}(hm:m≤40000)(hc:G m an c)(hb:G m aC b)(a:Int):Ok (fun r=>aD r.1) (Rj N c b a):=by
 unfold Rj N5
 exact b8 (dw N hN (by omega) hb) (bu (fun _=>ag aT) fun _=>af (ra N (by omega) (by omega) hb.2.1 _) fun _ _=>bu (fun _=>ag aT) fun _=>af (Ex N (by omega) (by omega) hb.2.2.2.1 _) fun l hl=>af (Q:=fun r=>Bg 60000 r.1) (af (u6 N (by omega) (by omega) hc hl _) fun r hr=>ag hr) fun u hu=>af (rj N (by omega) (by omega) hb _) fun g hg=>cZ (fun _=>ag aT) fun _=>af (sH N hu) fun v hv=>nT (fun _=>au (fun _=>ag hv) fun _=>ag hg) fun _=>ag hg)
theorem Od(N:Nat)(hN:200000≤N){l:aj}{a d:Int}{m:Nat}(hm:m≤50000)(h:L3 m l)(ha:aD a)(hd:aD d):Ok (fun r=>L3 (2*m) r) (lE N l a d):=by
 have hl:=h.1
 unfold lE lE.b
 refine b8 (lN N (by omega) hN) (bu (fun _=>ag G.nil) fun _=>ok_eq (fun _=>ag G.nil) fun _=>au (fun _=>ag G.nil) fun _=>au (fun _=>ag G.nil) fun _=>au (fun _=>ag G.nil) fun _=>au (fun _=>ag G.nil) fun _=>bb (len:=l.length) (F:=fun n i s=>lE.l5 N n l a d s i) (fun i s=>L3 (2*i) s) G.nil (by omega) (fun n i s hi hI hr=> ?_) (fun n s hI=> ?_))
 all_goals unfold lE.l5 lE.dd
 ·have hs:=hI.1
  have hx:=G.at h (i:Int).toNat
  dsimp only
  rw[aq (x:=(i:Int)+1) (by omega) (by omega),ae i]
  have h1:=hr s (G.mono (by omega) hI)
  exact au (fun _=>ar ⟨by omega,by omega⟩ (ok_eq (fun _=>ar ⟨by omega,by omega⟩ (ar ⟨by omega,by omega⟩ (ar ⟨by omega,by omega⟩ (ar ⟨by omega,by omega⟩ (aE (by rw[rf];omega) (hr _ (G.mono (by omega) (G.cat hI (G.two (m:=2) (G3 ha hx.2.1 (dy _)) (G3 hd hx.2.1 hx.2.2.1) (Nat.le_refl 2)))))))))) fun _=>h1)) fun _=>by omega
 ·exact au (fun _=>by omega) fun _=>ag (G.mono (by omega) hI)
theorem Rk(N:Nat)(hN:5000000≤N){c:aa}{b:ah}{m:Nat}(h2:200≤m)(hm:m≤1000)(hc:G m an c)(hb:G m aC b)(a:Int):Ok (fun r=>G m aC r.1) (fp N c b a):=by
 unfold fp fp.b
 refine b8 (dw N hN (by omega) hb) (bu (fun _=>ag G.eR) fun hB=>af (ri N (by omega) (by omega) hb _) fun _ _=>ok_eq (fun _=>ag G.eR) fun _=> ?_)
 have hal:b.2.1.length≤24:=by
  unfold dT at hB
  have h1:=(Bool.and_eq_true_iff.1 (Bool.and_eq_true_iff.1 hB).2).1
  unfold qq at h1
  exact Oc (Bool.and_eq_true_iff.1 (Bool.and_eq_true_iff.1 h1).2).1
 refine bb (len:=b.2.1.length) (F:=fun n i (z:aj×bk)=>fp.l8 N n a c b (aV,(cm,(bh,(bh,(cK,(cT,())))))) z.1 z.2 i) (s:=(_,_)) (fun i z=>L3 (2*m*i) z.1∧fJ (4*i) z.2) ⟨G.nil,fJ.nil⟩ (by omega) (fun n i z hi hI hr=> ?_) (fun n z hI=> ?_)
 all_goals unfold fp.l8 fp.w5
 ·obtain⟨h5,h6⟩:=hI
  have h7:=h5.1
  have h8:=h6.1
  have hmi:2*m*i≤2*m*24:=Nat.mul_le_mul_left _ (by omega)
  have hms:2*m*(i+1)=2*m*i+2*m:=Nat.mul_succ _ _
  have hx:G m cF (b.2.1.getD (i:Int).toNat aA):=G.at hb.2.1 _
  have hj: ∀p:bk,fJ (4*i+2) p→Ok (fun r=>G m aC r.1) (fp.zX N (fp.l8 N n) a c b (aV,(cm,(bh,(bh,(cK,(cT,())))))) z.1 p (i:Int) (b.2.1.getD (i:Int).toNat aA)):=fun p hp=>by
   have WN:=hp.1
   unfold fp.zX fp.sI
   rw[aq (x:=(i:Int)+1) (by omega) (by omega),ae i]
   exact af (rj N (by omega) (by omega) hb _) fun g hg=>au (fun _=>af (aX N (by omega) hg) fun v hv=>af (ou N (by omega) (by omega) hv) fun v hv=>af (nL N (by omega) _ _ _ _ (Bg.mono hv (by omega))) fun u hu=>aE (by have:=hu.1;omega) (af (Od N (by omega) (by omega) hb.2.2.2.1 hx.1 aT) fun s hs=>aE (by have:=hs.1;omega) (hr (_,_) ⟨G.mono (by omega) (G.cat h5 hs),fJ.mono (fJ.app hp hu) (by omega)⟩))) fun _=>af (Od N (by omega) (by omega) hb.2.2.2.1 hx.1 aT) fun s hs=>aE (by have:=hs.1;omega) (hr (_,_) ⟨G.mono (by omega) (G.cat h5 hs),fJ.mono hp (by omega)⟩)
  rw[aq (x:=(i:Int)+1) (by omega) (by omega),ae i]
  exact au (fun _=>ar ⟨by omega,by omega⟩ (bq (fun _=>hr z ⟨G.mono (by omega) h5,fJ.mono h6 (by omega)⟩) fun _=>ok_eq (fun _=>af (K4 N hN (by omega) hc hb _) fun q hq=>af (aX N (by omega) hq) fun v hv=>af (nL N (by omega) _ _ _ _ (Bg.mono hv (by omega))) fun u hu=>aE (by have:=hu.1;omega) (hj _ (fJ.mono (fJ.app h6 hu) (by omega)))) fun _=>hj _ (fJ.mono h6 (by omega)))) fun _=>by omega
 ·obtain⟨h5,h6⟩:=hI
  have hmi:2*m*b.2.1.length≤2*m*24:=Nat.mul_le_mul_left _ (by omega)
  exact au (fun _=>by omega) fun _=>af (nI N (by omega) h2 (by omega) hb (G.mono (by omega) h5) (fJ.mono h6 (by omega))) fun r hr=>ag hr
abbrev GS(m:Nat)(s:aJ):Prop:=G m bM s
abbrev SR(m:Nat)(r:aJ×cy):Prop:=GS m r.1
theorem Cl(N:Nat)(e:Int):Ok (fun _=>True) (dM N e):=by
 unfold dM;exact da
theorem K5(N:Nat)(hN:5000000≤N){c:aa}{s:aJ}{e:fg}{m:Nat}(h2:200≤m)(hm:m≤1000)(hc:G m an c)(hs:GS m s)(he:G 0 lQ e):Ok (SR m) (mM N c s e):=by
 have hhl:=hs.2.2.2.1.2.2.2.2.1.1
 unfold mM mM.b
 generalize ((0:Int),((0:Int),_))=S0
 refine bb (len:=s.2.2.2.1.2.2.2.2.1.length) (F:=fun n i (z:aJ×ay×Bool×Int)=>mM.l5 N n c z.1 e S0 a7 z.2.1 z.2.2.1 z.2.2.2 i) (s:=(_,(_,(_,_)))) (fun i z=>GS m z.1∧z.1.2.2.2.1.2.2.2.2.1=s.2.2.2.1.2.2.2.2.1∧G i (.slice cF) z.2.1) ⟨hs,rfl,G.nil⟩ (by omega) (fun n i z hi hI hr=> ?_) (fun n z hI=> ?_)
 all_goals unfold mM.l5 mM.dd
 ·obtain⟨hz,hh,ho⟩:=hI
  have CI:=ho.1
  rw[hh,aq (x:=(i:Int)+1) (by omega) (by omega),ae i]
  have hx:G 0 cF (s.2.2.2.1.2.2.2.2.1.getD (i:Int).toNat aA):=G.at hs.2.2.2.1.2.2.2.2.1 _
  refine au (fun _=>ar ⟨by omega,by omega⟩ (ok_eq (fun _=>af (QV N hN h2 (by omega) hc hz.2.2.1 (G.mono (Nat.zero_le m) hx) he.2.2.1 he.2.2.2.2.2.2.1 he.2.2.2.2.2.2.2.1) fun r ⟨Gn,CG⟩=>bq (fun _=>af (Cl N _) fun _ _=>ag hz) fun _=> ?_) fun _=>au (fun _=>aE (by rw[List.length_singleton];omega) (hr (z.1,(z.2.1++[s.2.2.2.1.2.2.2.2.1.getD (i:Int).toNat aA],z.2.2)) ⟨hz,hh,G.cat ho (G.one hx (Nat.le_refl 1))⟩)) fun _=>hr z ⟨hz,hh,G.mono (by omega) ho⟩)) fun _=>by omega
  have zo:GS m (z.1.1,(z.1.2.1,(r.1,z.1.2.2.2))):=⟨hz.1,hz.2.1,Gn,hz.2.2.2⟩
  have ah9:G 0 cF r.2.1:=CG
  exact au (fun _=>aE (by rw[List.length_singleton];omega) (hr ((z.1.1,(z.1.2.1,(r.1,z.1.2.2.2))),(z.2.1++[r.2.1],(true,r.2.1.2.2.2.1))) ⟨zo,hh,G.cat ho (G.one ah9 (Nat.le_refl 1))⟩)) fun _=>hr ((z.1.1,(z.1.2.1,(r.1,z.1.2.2.2))),(z.2.1,(true,r.2.1.2.2.2.1))) ⟨zo,hh,G.mono (by omega) ho⟩
 ·obtain⟨hz,hh,ho⟩:=hI
  rw[hh]
  exact au (fun _=>by omega) fun _=>bu (fun _=>af (Cl N _) fun _ _=>ag hz) fun _=>ag ⟨hz.1,hz.2.1,hz.2.2.1,⟨hz.2.2.2.1.1,hz.2.2.2.1.2.1,hz.2.2.2.1.2.2.1,hz.2.2.2.1.2.2.2.1,G.mono hhl ho,hz.2.2.2.1.2.2.2.2.2⟩,hz.2.2.2.2⟩
end VM
end
