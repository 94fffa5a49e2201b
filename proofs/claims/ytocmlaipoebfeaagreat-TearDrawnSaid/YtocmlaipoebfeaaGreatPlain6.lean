/- A part of the proof of TearDrawn of layer 29: what the functions compute, in plain words. -/
import Derived.Test.YtocmlaipoebfeaaGreatPlain5
set_option linter.all false
section
namespace VM
open Go VM.F
theorem G6q{m:Nat}{x:fM}{q:Int}(h:G m jP x)(hq:aC q):G m jP (x.1,(x.2.1,(x.2.2.1,(x.2.2.2.1,(q,x.2.2.2.2.2))))):=⟨h.1,h.2.1,h.2.2.1,h.2.2.2.1,hq,h.2.2.2.2.2⟩
theorem SQ(N:Nat)(hN:200000≤N){l:a6}{m:Nat}(hm:m≤50000)(h:L6 m l)(a d:Int):Ok (fun r=>L6 m r) (dh N l a d):=by
 have hl:=h.1
 unfold dh dh.b
 refine cm (ke N (by omega) hN) (bA (fun _=>ag G.nil) fun _=>bh (len:=l.length) (F:=fun n i s=>dh.l5 N n l a d s i) (fun i s=>L6 i s) G.nil (by omega) (fun n i s hi hI hr=> ?_) (fun n s hI=> ?_))
 all_goals unfold dh.l5 dh.dq
 ·have hs:=hI.1
  have hx:G 0 jP (l.getD (i:Int).toNat eB):=G.at h _
  have fin: ∀k:Nat,k≤s.length→Ok (fun r=>L6 m r) (dh.H8 N (dh.l5 N n) l a d s (i:Int) (k:Int)):=fun k hk=>by
   unfold dh.H8 dh.zW
   rw[al (x:=(i:Int)+1) (by omega) (by omega),aa i]
   dsimp only
   have t: ∀a b:Nat,(List.drop a (List.take b s)).length≤s.length:=fun a b=>by rw[List.length_drop,List.length_take];omega
   have t1:=t (0:Int).toNat (k:Int).toNat
   have t2:=t (k:Int).toNat (s.length:Int).toNat
   refine DD ⟨by omega,by omega,by omega,by omega⟩ (aF (by omega) (aw ⟨by omega,by omega⟩ (aF (by rw[List.length_singleton];omega) (DD ⟨by omega,by omega,by omega,by omega⟩ (aF (by rw[List.length_append,List.length_singleton];omega) (hr _ ?_))))))
   simpa using G.ins hI (G.mono (Nat.zero_le i) hx) k 0 k (Nat.le_refl _)
  have h1:=hr s (G.mono (by omega) hI)
  have hw:Ok (fun r=>L6 m r) (dh.l9 N (dh.l5 N n) N l a d s (i:Int) 0):=by
   refine iB (len:=s.length) (F:=fun n' j=>dh.l9 N (dh.l5 N n) n' l a d s (i:Int) j) (by omega) (fun n' j hj dx=> ?_) (fun n'=> ?_)
   all_goals unfold dh.l9 dh.vk
   ·rw[al (x:=(j:Int)+1) (by omega) (by omega),aa j]
    have hah: ∀x y:fM,Ok (fun _=>True) (SS N x y):=fun x y=>by unfold SS;exact bI (fun _=>dp) fun _=>dp
    exact au (fun _=>aw ⟨by omega,by omega⟩ (aw ⟨by omega,by omega⟩ (af (hah _ _) fun _ _=>pM (fun _=>dx) fun _=>fin j (by omega)))) fun _=>by omega
   ·exact au (fun _=>by omega) fun _=>fin _ (Nat.le_refl _)
  rw[al (x:=(i:Int)+1) (by omega) (by omega),aa i]
  repeat' first|exact h1|exact hw|refine aw ⟨by omega,by omega⟩ ?_|refine au (fun _=> ?_) (fun _=> ?_)|refine bI (fun _=> ?_) (fun _=> ?_)|(exfalso;omega)
 ·exact au (fun _=>by omega) fun _=>ag (G.mono hl hI)
theorem PB(N:Nat)(hN:200000≤N){l:a6}{o:fM}{m:Nat}(hm:m≤50000)(h:L6 m l)(ho:G 0 jP o):Ok (fun r=>L6 m r.1∧aC r.2.2.1) (bJ N l o):=by
 have hl:=h.1
 have fin: ∀(s:a6) (q:Int) (t:bc),L6 m s→aC q→Ok (fun r=>L6 m r.1∧aC r.2.2.1) (bJ.j22 N s q t):=fun s q t hs hq=>by
  have hsl:=hs.1
  unfold bJ.j22 bJ.Z7
  refine bh (len:=s.length) (F:=fun n i u=>bJ.yf N n s q t u i) (fun i u=>L6 i u) G.nil (by omega) (fun n i u hi hI hr=> ?_) (fun n u hI=> ?_)
  all_goals unfold bJ.yf bJ.zb
  ·have hu:=hI.1
   have hx:G 0 jP (s.getD (i:Int).toNat eB):=G.at hs _
   rw[al (x:=(i:Int)+1) (by omega) (by omega),aa i]
   have h1:=hr u (G.mono (by omega) hI)
   have h2:=hr _ (G.cat hI (G.one hx (Nat.le_refl 1)))
   repeat' first|exact h1|exact h2|refine aF (by rw[List.length_singleton];omega) ?_|refine aw ⟨by omega,by omega⟩ ?_|refine au (fun _=> ?_) (fun _=> ?_)|(exfalso;omega)
  ·exact au (fun _=>by omega) fun _=>ag ⟨G.mono hsl hI,hq⟩
 have eJ:Ok (fun r:a6×bc×Int×Int=>L6 m r.1∧aC r.2.2.1) (some ([],[],(0:Int),(1:Int))):=ag ⟨G.nil,aU⟩
 unfold bJ bJ.b
 refine cm (ke N (by omega) hN) (bA (fun _=>eJ) fun _=>cm (yi N o) (bA (fun _=>eJ) fun _=>aF (by rw[List.length_nil];omega) (af (SQ N hN hm h _ _) fun w hw=> ?_)))
 have hwl:=hw.1
 rw[List.nil_append]
 refine bh (len:=w.length) (F:=fun n i (s:a6×Int×bc)=>bJ.l7 N n o s.1 s.2.1 s.2.2 w i) (s:=(_,(_,_))) (fun i s=>L6 m s.1∧aC s.2.1∧s.2.2.length≤i) ⟨h,ho.2.2.2.2.1,Nat.zero_le _⟩ (by omega) (fun n i s hi hI hr=> ?_) (fun n s hI=> ?_)
 all_goals unfold bJ.l7 bJ.ll
 ·obtain⟨hs,hq,ht⟩:=hI
  have f1:=fin s.1 s.2.1 s.2.2 hs hq
  have akO: ∀(v:Int) (t:uT),Ok (fun r=>L6 m r.1∧aC r.2.2.1) (bJ.Bf N (bJ.l7 N n) o s.1 s.2.1 s.2.2 w (i:Int) v t):=fun v t=>by
   unfold bJ.Bf bJ.tu
   refine aF (by rw[List.length_singleton];omega) (bh (len:=s.1.length) (F:=fun n' j u=>bJ.vR N (bJ.l7 N n) n' o u (W .i64 (s.2.1-v)) (s.2.2++[t]) w (i:Int) v j) (fun _ u=>u.length=s.1.length∧L6 m u) ⟨rfl,hs⟩ (by have:=hs.1;omega) (fun n' j u hj hJ dx=> ?_) (fun n' u hJ=> ?_))
   all_goals unfold bJ.vR bJ.tp
   ·have hsl:=hs.1
    have X5:=hJ.1
    rw[al (x:=(j:Int)+1) (by omega) (by omega),aa j]
    exact au (fun _=>aw ⟨by omega,by omega⟩ (aw ⟨by omega,by omega⟩ (ok_eq (fun _=>aw ⟨by omega,by omega⟩ (aw ⟨by omega,by omega⟩ (dx _ ⟨by rw[List.length_set];exact X5,G.set hJ.2 (G6q (G.at hJ.2 _) (dQ _)) _⟩))) fun _=>dx u hJ))) fun _=>by omega
   ·have X5:=hJ.1
    rw[al (x:=(i:Int)+1) (by omega) (by omega),aa i]
    exact au (fun _=>by omega) fun _=>hr (_,(_,_)) ⟨hJ.2,dQ _,by dsimp only;rw[List.length_append,List.length_singleton];omega⟩
  have SU:Ok (fun r=>L6 m r.1∧aC r.2.2.1) (bJ.PC N (bJ.l7 N n) o s.1 s.2.1 s.2.2 w (i:Int)):=by
   unfold bJ.PC bJ.Jh
   rw[al (x:=(i:Int)+1) (by omega) (by omega),aa i]
   dsimp only
   have h1:=hr s ⟨hs,hq,by omega⟩
   repeat' first|exact h1|exact akO _ _|refine aw ⟨by omega,by omega⟩ ?_|refine ok_eq (fun _=> ?_) (fun _=> ?_)
  repeat' first|exact f1|exact SU|refine aw ⟨by omega,by omega⟩ ?_|refine au (fun _=> ?_) (fun _=> ?_)|refine ok_eq (fun _=> ?_) (fun _=> ?_)|(exfalso;omega)
 ·exact au (fun _=>by omega) fun _=>fin _ _ _ hI.1 hI.2.1
theorem PD(N:Nat)(hN:5000000≤N){c:ae}{b:ah}{o:fM}{m:Nat}(h2:200≤m)(hm:m≤40000)(hc:G m aq c)(hb:G m aB b)(ho:G 0 jP o):Ok (fun r=>G (m+1) aB r.1) (jg N c b o):=by
 have D6:=hb.2.2.2.2.2.1.1
 have eJ: ∀(t:bc) (e:Int),Ok (fun r:ah×bc×Int×Int=>G (m+1) aB r.1) (some ((bK,(cL,(bp,(bp,(c4,(c9,())))))),(t,((0:Int),e)))):=fun t e=>ag (G.zero (m+1) aB)
 have SU: ∀(r:a6) (t:bc) (q:Int),L6 m r→aC q→Ok (fun r=>G (m+1) aB r.1) (jg.PC N c b o (bK,(cL,(bp,(bp,(c4,(c9,())))))) r t q):=fun r t q hr hq=>by
  have HQ:=hr.1
  unfold jg.PC jg.Jh
  have hx:G 0 jP (o.1,(o.2.1,(o.2.2.1,(o.2.2.2.1,(q,o.2.2.2.2.2))))):=G6q ho hq
  exact af (Ck N hN c h2 (by omega) hb) fun z hz=>bI (fun _=>eJ _ _) fun _=>by
   have ya:G (m+1) aB z.1:=G.mono (by omega) hz
   exact au (fun _=>aF (by rw[List.length_singleton];omega) (ag ⟨ya.1,ya.2.1,ya.2.2.1,ya.2.2.2.1,ya.2.2.2.2.1,G.cat hr (G.one hx (Nat.le_refl 1)),trivial⟩)) fun _=>ag ⟨ya.1,ya.2.1,ya.2.2.1,ya.2.2.2.1,ya.2.2.2.2.1,G.mono (by omega) hr,trivial⟩
 have hj7:Ok (fun r=>G (m+1) aB r.1) (jg.j7 N c b o (bK,(cL,(bp,(bp,(c4,(c9,()))))))):=by
  unfold jg.j7 jg.IB
  exact af (PB N (by omega) (by omega) hb.2.2.2.2.2.1 ho) fun z hz=>au (fun _=>ok_eq (fun _=>eJ _ _) fun _=>SU _ _ _ hz.1 hz.2) fun _=>SU _ _ _ hz.1 hz.2
 unfold jg jg.b
 refine af (Gb N hN h2 hm hc hb (G.mono (Nat.zero_le m) ho)) fun e _=>bI (fun _=>eJ _ _) fun _=>au (fun h0=> ?_) fun _=>hj7
 dsimp only
 exact aw (by rw[al (by omega) (by omega)];omega) (de (fun _=>eJ _ _) fun _=>hj7)
end VM
end
section
namespace VM
open Go VM.F
theorem Z8(N:Nat)(a:Int):Ok (fun _=>True) (Je N a):=by
 unfold Je
 exact ok_eq (fun _=>dp) fun _=>dp
theorem fY.one{k n:Int}{x:av}{m:Nat}(h:Bg m x)(hm:m≤8):fY 1 [(k,(n,(x,())))]:=⟨Nat.le_refl 1,fun y hy=>by rw[List.mem_singleton.1 hy];exact Bg.mono h hm⟩
theorem PE(N:Nat)(hN:4000000≤N){l:aj}{m:Nat}(hm:m≤50000)(h:L3 m l)(i a b:Int):Ok (fun r=>fY m r.1) (nf N l i a b):=by
 have hl:=h.1
 unfold nf nf.b
 have p64: ∀p:Int,decide (1≤p∧p≤1000000000000)=true→aC p:=fun p h=>by have:=of_decide_eq_true h;unfold aC;omega
 refine cm (mo N (by omega) (by omega)) (bA (fun _=>ag fY.nil) fun _=>cm (iT N _) (bA (fun _=>ag fY.nil) fun ha=>cm (iT N _) (bA (fun _=>ag fY.nil) fun hb=>af (aZ N hN (p64 _ hb)) fun x hx=>af (aZ N hN (p64 _ ha)) fun y hy=>af (u9 N hN (by omega) hx hy) fun z hz=>bh (len:=l.length) (F:=fun n j s=>nf.l6 N n l i s z j) (fun j s=>fY j s) fY.nil (by omega) (fun n j s hj hI hr=> ?_) (fun n s hI=> ?_))))
 all_goals unfold nf.l6 nf.ow
 ·have hs:=hI.1
  rw[al (x:=(j:Int)+1) (by omega) (by omega),aa j]
  have h1:=hr s (fY.mono hI (by omega))
  exact au (fun _=>aw ⟨by omega,by omega⟩ (bI (fun _=>h1) fun _=>af (yt N hz) fun _ _=>ok_eq (fun _=>h1) fun _=>aw ⟨by omega,by omega⟩ (af (Z8 N _) fun _ _=>aw ⟨by omega,by omega⟩ (af (aZ N hN (G.at h _).2.2.1) fun v hv=>af (jH N hN (by omega) (by omega) hv hz) fun u hu=>aF (by rw[List.length_singleton];omega) (hr _ (fY.app hI (fY.one hu (by omega)))))))) fun _=>by omega
 ·exact au (fun _=>by omega) fun _=>ag (fY.mono hI (by omega))
theorem Gj(N:Nat)(hN:5000000≤N)(c:ae){b:ah}{m:Nat}(h2:200≤m)(hm:m≤50000)(hb:G m aB b)(i:Int){p:Int}(hp:aC p):Ok (fun r=>G m aB r.1∧fY m r.2.1) (SV N c b i p):=by
 have eJ: ∀e:Int,Ok (fun r:ah×bk×Int=>G m aB r.1∧fY m r.2.1) (some ((bK,(cL,(bp,(bp,(c4,(c9,())))))),([],e))):=fun e=>ag ⟨G.ff,fY.nil⟩
 have CL:=hb.2.2.2.2.1.1
 unfold SV
 refine cm (dI N hN hm hb) (bA (fun _=>eJ _) fun hB=>cm (iT N _) (bA (fun _=>eJ _) fun _=>au (fun _=>eJ _) fun h0=>de (fun _=>eJ _) fun h1=> ?_))
 obtain⟨XW,_⟩:=il hB
 dsimp only
 rw[List.nil_append]
 exact aw ⟨h0,by rw[XW];exact h1⟩ (af (PE N (by omega) hm hb.2.2.2.1 _ _ _) fun f hf=>af (n8 N (by omega) h2 hm hb G.nil (fY.mono hf hm)) fun r hr=>bI (fun _=>eJ _) fun _=>aF (by rw[List.length_nil];omega) (aw ⟨h0,by rw[XW];exact h1⟩ (ag ⟨⟨hr.1,hr.2.1,hr.2.2.1,hr.2.2.2.1,G.set hb.2.2.2.2.1 hp _,hr.2.2.2.2.2⟩,hf⟩)))
abbrev L2(m:Nat)(l:ax):Prop:=G m (.slice gP) l
theorem G2{m:Nat}{a b:Int}(ha:aC a)(hb:aC b):G m gP (a,(b,())):=⟨ha,hb,trivial⟩
theorem Cm(N:Nat)(hN:200000≤N){l:ax}(hl:l.length≤100000):Ok (fun _=>True) (lX N l):=by
 unfold lX lX.b
 refine iB (len:=l.length) (F:=fun n i=>lX.l2 N n l i) (by omega) (fun n i hi hr=> ?_) (fun n=> ?_)
 all_goals unfold lX.l2 lX.eu
 ·rw[al (x:=(i:Int)+1) (by omega) (by omega),aa i]
  dsimp only
  repeat' first|exact hr|exact dp|refine aw ⟨by omega,by omega⟩ ?_|refine aw (by rw[al (x:=(i:Int)-1) (by omega) (by omega)];omega) ?_|refine au (fun _=> ?_) (fun _=> ?_)|refine de (fun _=> ?_) (fun _=> ?_)|refine ok_eq (fun _=> ?_) (fun _=> ?_)|(exfalso;omega)
 ·exact au (fun _=>by omega) fun _=>dp
theorem PF(N:Nat)(hN:4000000≤N){g:ax}{p:bk}{m:Nat}(h2:200≤m)(hm:m≤50000)(h:L2 m g)(hp:fY m p):Ok (fun r=>L2 m r.1) (c7 N g p):=by
 have hl:=h.1
 have CL:=hp.1
 unfold c7 c7.b
 refine af (Cm N (by omega) (by omega)) fun _ _=>bA (fun _=>ag G.nil) fun _=>iA (len:=25) (F:=fun n i s=>c7.l5 N n g p s i) (fun i s=>L2 i s) (fun n i s hi hI hr=> ?_) (fun n s hI=> ?_) 25 N 1 [] (by omega) (by omega) (by omega) G.nil
 all_goals unfold c7.l5 c7.dq
 ·have hs:=hI.1
  refine de (fun _=> ?_) fun _=>by omega
  refine bh (len:=g.length) (F:=fun n' j t=>c7.l9 N (c7.l5 N n) n' g p s (i:Int) t j) (fun _ t=>Bg 2 t) (DE (by omega)) (by omega) (fun n' j t hj ht dx=> ?_) (fun n' t ht=> ?_)
  all_goals unfold c7.l9 c7.vk
  ·rw[al (x:=(j:Int)+1) (by omega) (by omega),aa j]
   exact au (fun _=>aw ⟨by omega,by omega⟩ (ok_eq (fun _=>aw ⟨by omega,by omega⟩ (af (aZ N hN (G.at h _).2.1) fun r hr=>dx r hr)) fun _=>dx t ht)) fun _=>by omega
  ·refine au (fun _=>by omega) fun _=> ?_
   refine bh (len:=p.length) (F:=fun Cj j t=>c7.B7 N (c7.l5 N n) Cj g p s (i:Int) t j) (fun j t=>Bg (8+j) t) (Bg.mono ht (by omega)) (by omega) (fun Cj j t hj ht dx=> ?_) (fun Cj t ht=> ?_)
   all_goals unfold c7.B7 c7.zM
   ·rw[al (x:=(j:Int)+1) (by omega) (by omega),aa j]
    have h1:=dx t (Bg.mono ht (by omega))
    exact au (fun _=>aw ⟨by omega,by omega⟩ (ok_eq (fun _=>aw ⟨by omega,by omega⟩ (ok_eq (fun _=>aw ⟨by omega,by omega⟩ (af (gO N hN (by omega) ht (Bg.mono (hp.at _) (by omega))) fun r hr=>dx r (Bg.mono hr (by omega)))) fun _=>h1)) fun _=>h1)) fun _=>by omega
   ·rw[al (x:=(i:Int)+1) (by omega) (by omega),aa i]
    exact au (fun _=>by omega) fun _=>af (tq N ht) fun v hv=>bA (fun _=>ag G.nil) fun _=>bI (fun _=>aF (by rw[List.length_singleton];omega) (hr _ (G.cat hI (G.one (m:=1) (G2 (fN (by omega) (by omega)) hv) (Nat.le_refl 1))))) fun _=>hr s (G.mono (by omega) hI)
 ·exact de (fun _=>by omega) fun _=>ag (G.mono (by omega) hI)
theorem oa(N:Nat)(hN:4000000≤N)(a b c d:Int){x:av}(h:Bg 8 x):Ok (fun r=>fY 2 r) (zX N a b c d x):=by
 unfold zX
 exact af (oU N hN (by omega) h) fun y hy=>ag ⟨Nat.le_refl 2,fun z hz=>by
  rcases List.mem_cons.1 hz with rfl|hz
  ·exact hy
  ·rw[List.mem_singleton.1 hz];exact h⟩
theorem Gk(N:Nat)(hN:5000000≤N){c:ae}{b:ah}{m:Nat}(h2:200≤m)(hm:m≤40000)(hc:G m aq c)(hb:G m aB b)(a:Int){q:Int}(hq:aC q):Ok (fun r=>G m aB r.1) (SW N c b a q):=by
 unfold SW
 exact cm (dI N hN (by omega) hb) (bA (fun _=>ag G.ff) fun _=>au (fun _=>ag G.ff) fun _=>af (rZ N (by omega) (by omega) hb.2.1 _) fun _ _=>bA (fun _=>ag G.ff) fun _=>af (mq N (by omega) (by omega) hb.1 _) fun _ _=>bI (fun _=>ag G.ff) fun _=>af (m5 N (by omega) (by omega) hb.2.2.1 _ _) fun g hg=>af (aZ N (by omega) hg) fun x hx=>af (aZ N (by omega) hq) fun y hy=>af (u9 N (by omega) (by omega) hx hy) fun z hz=>af (Ga N (by omega) h2 hm hc hb (Nat.zero_le _) _) fun w hw=>af (om N (by omega) (by omega) (by omega) hz hw) fun _ _=>au (fun _=>ag G.ff) fun _=>af (aZ N (by omega) hq) fun y hy=>af (oa N (by omega) _ _ _ _ (Bg.mono hy (by omega))) fun p hp=>af (n8 N (by omega) h2 (by omega) hb G.nil (fY.mono hp (by omega))) fun r hr=>ag hr)
theorem Ji(N:Nat)(hN:1000≤N){c:ae}(hc:G 5 aq c):Ok (fun r=>G 5 aB r.1) (gu N c):=by
 have hl:=hc.1.1
 unfold gu gu.b
 have hj: ∀b:ah,G 5 aB b→Ok (fun r=>G 5 aB r.1) (gu.j6 N c (bK,(cL,(bp,(bp,(c4,(c9,())))))) b []):=fun b hb=>by
  unfold gu.j6 gu.Nc
  obtain⟨b1,b2,b3,b4,b5,b6⟩:=b
  refine bh (len:=c.1.length) (F:=fun n i (z:ah×List Int)=>gu.l7 N n c (bK,(cL,(bp,(bp,(c4,(c9,())))))) z.1 z.2 i) (s:=((b1,(b2,(b3,(b4,(b5,b6))))),_)) (fun i z=>G 5 aB z.1∧G i (.slice (.int .i64)) z.2) ⟨hb,G.nil⟩ (by omega) (fun n i z hi hI hr=> ?_) (fun n z hI=> ?_)
  all_goals unfold gu.l7 gu.ll
  ·have hz:=hI.2.1
   rw[al (x:=(i:Int)+1) (by omega) (by omega),aa i]
   have hx:G 0 (.int .i64) (c.1.getD (i:Int).toNat aN).2.1:=(G.at hc.1 _).2.1
   exact au (fun _=>aw ⟨by omega,by omega⟩ (aF (by rw[List.length_singleton];omega) (hr (_,_) ⟨⟨hI.1.1,hI.1.2.1,hI.1.2.2.1,hI.1.2.2.2.1,G.nil,hI.1.2.2.2.2.2⟩,G.cat hI.2 (G.one hx (Nat.le_refl 1))⟩))) fun _=>by omega
  ·exact au (fun _=>by omega) fun _=>ag ⟨hI.1.1,hI.1.2.1,hI.1.2.2.1,hI.1.2.2.2.1,G.mono hl hI.2,hI.1.2.2.2.2.2⟩
 have D2:L3 5 [((1:Int),((0:Int),(W .i64 (0-c.2.1),()))),((3:Int),((0:Int),(c.2.1,())))]:=G.two (G3 (show aC 1 from aV) aU (dQ _)) (G3 (show aC 3 from aV) aU hc.2.1) (by decide)
 exact cm (mS N (by omega) c) (bA (fun _=>ag G.ff) fun _=>bI (fun _=>hj _ ⟨G.nil,G.nil,D2,G.nil,G.nil,G.nil,trivial⟩) fun _=>hj _ G.ff)
end VM
end
section
namespace VM
open Go VM.F
theorem vX(N:Nat)(hN:4000000≤N){c:ae}{l:ax}{m:Nat}(hm:m≤50000)(hc:G m aq c)(hl:L2 m l)(f:Bool):Ok (fun r=>Bg 60000 r.1) (lE N c l f):=by
 have h1:=hl.1
 unfold lE lE.b
 refine cm (uG N (by omega) c (by omega)) (bA (fun _=>ag (DE (by omega))) fun hk=>bh (len:=l.length) (F:=fun n i t=>lE.l5 N n l f c (false,(([]:List Int),())) t i) (fun i t=>Bg (8+i) t) (DE (by omega)) (by omega) (fun n i t hi ht hr=> ?_) (fun n t ht=> ?_))
 all_goals unfold lE.l5 lE.dq
 ·rw[al (x:=(i:Int)+1) (by omega) (by omega),aa i,Int.toNat_natCast]
  unfold Dj at hk
  have hp:=of_decide_eq_true (Bool.and_eq_true_iff.1 hk).1 i hi
  unfold q3 qZ at hp
  have in1: ∀{x y:Option (av×Int)},Ok (fun r=>Bg 60000 r.1) x→Ok (fun r=>Bg 60000 r.1) (cond (aJ (l.getD i cc).1 c.1.length) x y):=fun h=>aw ⟨hp.1,hp.2.1⟩ h
  have hw: ∀q:Int,aC q→Ok (fun r=>Bg 60000 r.1) ((gl N (l.getD i cc).2.1).bind fun r3=>(Ov N r3).bind fun r4=>(gl N q).bind fun r5=>(fX N r4 r5).bind fun r6=>(uk N t r6).bind fun r7=>lE.l5 N n l f c (false,(([]:List Int),())) r7 ((i+1:Nat):Int)):=fun q hq=>
   af (aZ N hN (G.at hl i).2.1) fun x hx=>af (ri N hN (by omega) hx) fun x hx=>af (aZ N hN hq) fun y hy=>af (jH N hN (by omega) (by omega) hx hy) fun z hz=>af (gO N hN (by omega) ht (Bg.mono hz (by omega))) fun u hu=>hr u (Bg.mono hu (by omega))
  exact au (fun _=>aw ⟨by omega,by omega⟩ (in1 (pM (fun _=>aw ⟨by omega,by omega⟩ (in1 (aw ⟨by omega,by omega⟩ (hw _ (G.at hc.1 _).2.2.2.1)))) fun _=>aw ⟨by omega,by omega⟩ (hw _ (G.at hc.1 _).2.2.1)))) fun _=>by omega
 ·exact au (fun _=>by omega) fun _=>ag (Bg.mono ht (by omega))
theorem sb(N:Nat)(hN:200000≤N){b:ah}{m:Nat}(hm:m≤50000)(hb:G m aB b)(id:Int):Ok (fun _=>True) (DH N b id):=by
 unfold DH
 exact af (mq N hN hm hb.1 _) fun _ _=>dp
theorem sd(N:Nat)(hN:200000≤N){b:ah}{m:Nat}(hm:m≤50000)(hb:G m aB b)(id:Int):Ok aC (Jj N b id):=by
 unfold Jj
 exact af (m5 N hN hm hb.2.2.1 _ _) fun r hr=>ag hr
theorem SX(N:Nat)(hN:5000000≤N){c:ae}{b:ah}{m:Nat}(hm:m≤40000)(hc:G m aq c)(hb:G m aB b)(f:Int){to:Int}(hto:aC to)(a:Int):Ok (fun r=>G m aB r.1) (SY N c b f to a):=by
 have Iy:Ok (fun _=>True) (SZ N c b f to a):=by
  unfold SZ Z9
  have mb:=fun id=>sb N (by omega) (by omega) hb id
  exact cm (dI N hN (by omega) hb) (bA (fun _=>dp) fun _=>af (rZ N (by omega) (by omega) hb.2.1 _) fun _ _=>bA (fun _=>dp) fun _=>af (mb _) fun _ _=>ok_eq (fun _=>dp) fun _=>af (mb _) fun _ _=>ok_eq (fun _=>dp) fun _=>bI (fun _=>dp) fun _=>bI (fun _=>dp) fun _=>af (mb _) fun _ _=>bI (fun _=>dp) fun _=>af (F9 N (by omega) (by omega) hb.2.2.2.1 _) fun l hl=>af (Q:=fun r=>Bg 60000 r.1) (af (vX N (by omega) (by omega) hc hl _) fun r hr=>ag hr) fun u hu=>af (sd N (by omega) (by omega) hb _) fun g hg=>af (aZ N (by omega) hg) fun x hx=>af (om N (by omega) (by omega) (by omega) hx hu) fun _ _=>au (fun _=>dp) fun _=>dp)
 unfold SY
 exact af Iy fun _ _=>bI (fun _=>ag G.ff) fun _=>af (Jg N (by omega) (by omega) hb.1 hb.2.1 hto) fun r hr=>bI (fun _=>ag G.ff) fun _=>ag ⟨hb.1,hr,hb.2.2⟩
theorem Mz(N:Nat)(hN:4000000≤N){x:av}{q:Int}(hx:Bg 60000 x)(hq:aC q):Ok (fun r=>0≤r∧r≤3) (ng N x q):=by
 unfold ng ng.b
 refine af (yt N hx) fun _ _=>de (fun _=>ag (by decide)) fun _=>au (fun _=>ag (by decide)) fun _=>iA (len:=3) (F:=fun n i (_:Unit)=>ng.l4 N n q x i) (fun _ _=>True) (fun n i _ hi _ hr=> ?_) (fun n _ _=> ?_) 3 N 1 () (by omega) (by omega) (by omega) trivial
 all_goals unfold ng.l4 ng.cn
 ·rw[al (x:=(i:Int)+1) (by omega) (by omega),aa i]
  exact au (fun _=>af (aZ N hN (fN (by omega) (by omega))) fun a ha=>af (aZ N hN hq) fun b hb=>af (jH N hN (by omega) (by omega) ha hb) fun y hy=>af (om N hN (by omega) (by omega) hy hx) fun _ _=>au (fun _=>hr () trivial) fun _=>ag (by omega)) fun _=>by omega
 ·exact au (fun _=>by omega) fun _=>ag (by omega)
theorem S1(N:Nat)(hN:5000000≤N)(c:ae){b:ah}{m:Nat}(hm:m≤50000)(hb:G m aB b):Ok (fun r=>G m (.slice (.int .i64)) r.1) (nh N c b):=by
 have hl:=hb.1.1
 unfold nh nh.b
 refine cm (dI N hN hm hb) (bA (fun _=>ag G.nil) fun _=>bh (len:=b.1.length) (F:=fun n i s=>nh.l5 N n b s i) (fun i s=>G i (.slice (.int .i64)) s) G.nil (by omega) (fun n i s hi hI hr=> ?_) (fun n s hI=> ?_))
 all_goals unfold nh.l5 nh.dq
 ·have hs:=hI.1
  rw[al (x:=(i:Int)+1) (by omega) (by omega),aa i]
  have h1:=hr s (G.mono (by omega) hI)
  have hx:G 0 (.int .i64) (b.1.getD (i:Int).toNat cc).1:=(G.at hb.1 _).1
  exact au (fun _=>aw ⟨by omega,by omega⟩ (ok_eq (fun _=>aw ⟨by omega,by omega⟩ (af (m5 N (by omega) hm hb.2.2.1 _ _) fun _ _=>au (fun _=>aw ⟨by omega,by omega⟩ (aF (by rw[List.length_singleton];omega) (hr _ (G.cat hI (G.one hx (Nat.le_refl 1)))))) fun _=>h1)) fun _=>h1)) fun _=>by omega
 ·exact au (fun _=>by omega) fun _=>ag (G.mono hl hI)
abbrev LL(m:Nat)(l:aX):Prop:=G m (.slice fZ) l
theorem zY(N:Nat)(hN:200000≤N){l:aX}{m:Nat}(hm:m≤50000)(h:LL m l)(id:Int):Ok (fun r=>G m fZ r.1) (lY N l id):=by
 have hl:=h.1
 unfold lY lY.b
 refine iB (len:=l.length) (F:=fun n i=>lY.l2 N n l id ((0:Int),(bK,aN)) i) (by omega) (fun n i hi hr=> ?_) (fun n=> ?_)
 all_goals unfold lY.l2 lY.eu
 ·rw[al (x:=(i:Int)+1) (by omega) (by omega),aa i]
  exact au (fun _=>aw ⟨by omega,by omega⟩ (ok_eq (fun _=>aw ⟨by omega,by omega⟩ (ag (G.at h _))) fun _=>hr)) fun _=>by omega
 ·exact au (fun _=>by omega) fun _=>ag (G.zero m fZ)
theorem MA(N:Nat)(hN:4000000≤N){a b:ax}{m:Nat}(h6:6≤m)(hm:m≤40000)(ha:L2 m a)(hb:L2 m b):Ok (fun r=>L2 m r.1) (c8 N a b):=by
 have hal:=ha.1
 have sm:=hb.1
 unfold c8 c8.b
 refine bh (len:=6) (F:=fun n i s=>c8.l3 N n a b s i) (fun i s=>L2 i s) G.nil (by omega) (fun n i s hi hI hr=> ?_) (fun n s hI=> ?_)
 all_goals unfold c8.l3 c8.g7
 ·have hs:=hI.1
  refine au (fun _=> ?_) fun _=>by omega
  refine bh (len:=a.length) (F:=fun n' j t=>c8.l7 N (c8.l3 N n) n' a b s (i:Int) t j) (fun j t=>Bg (3+j) t) (DE (by omega)) (by omega) (fun n' j t hj ht dx=> ?_) (fun n' t ht=> ?_)
  all_goals unfold c8.l7 c8.ll
  ·rw[al (x:=(j:Int)+1) (by omega) (by omega),aa j]
   exact au (fun _=>aw ⟨by omega,by omega⟩ (ok_eq (fun _=>aw ⟨by omega,by omega⟩ (af (aZ N hN (G.at ha _).2.1) fun r hr=>af (gO N hN (by omega) ht (Bg.mono hr (by omega))) fun u hu=>dx u (Bg.mono hu (by omega)))) fun _=>dx t (Bg.mono ht (by omega)))) fun _=>by omega
  ·refine au (fun _=>by omega) fun _=> ?_
   refine bh (len:=b.length) (F:=fun Cj j t=>c8.nA N (c8.l3 N n) Cj a b s (i:Int) t j) (fun j t=>Bg (3+a.length+j) t) ht (by omega) (fun Cj j t hj ht dx=> ?_) (fun Cj t ht=> ?_)
   all_goals unfold c8.nA c8.lR
   ·rw[al (x:=(j:Int)+1) (by omega) (by omega),aa j]
    exact au (fun _=>aw ⟨by omega,by omega⟩ (ok_eq (fun _=>aw ⟨by omega,by omega⟩ (af (aZ N hN (G.at hb _).2.1) fun r hr=>af (gO N hN (by omega) ht (Bg.mono hr (by omega))) fun u hu=>dx u (Bg.mono hu (by omega)))) fun _=>dx t (Bg.mono ht (by omega)))) fun _=>by omega
   ·rw[al (x:=(i:Int)+1) (by omega) (by omega),aa i]
    exact au (fun _=>by omega) fun _=>af (w9 N ht) fun v hv=>bA (fun _=>ag G.nil) fun _=>bI (fun _=>aF (by rw[List.length_singleton];omega) (hr _ (G.cat hI (G.one (m:=1) (G2 (fN (by omega) (by omega)) hv) (Nat.le_refl 1))))) fun _=>hr s (G.mono (by omega) hI)
 ·exact au (fun _=>by omega) fun _=>ag (G.mono h6 hI)
theorem Gl(N:Nat)(hN:5000000≤N){c:ae}{b:ah}{Jk:aX}{l:aE}{x:bR}{m:Nat}(h6:6≤m)(hm:m≤40000)(hc:G m aq c)(hb:G m aB b)(hL:LL m Jk)(hl:G m (.slice df) l)(hx:G 0 df x):Ok (fun _=>True) (gS N c b Jk l x):=by
 have CO:=hl.1
 have hLl:=hL.1
 have hal:=hb.2.1.1
 have D6:=hb.2.2.2.2.2.1.1
 have hw:FK Jk:=fun y hy=>Nat.le_trans (hL.2 y hy).2.1.1 (by omega)
 unfold gS gS.b
 have hj:Ok (fun _=>True) (gS.j3 N Jk l c b x):=by
  unfold gS.j3 gS.j3b
  refine af (sb N (by omega) (by omega) hb _) fun _ _=>ok_eq (fun _=>dp) fun _=>bI (fun _=>dp) fun _=>af (zY N (by omega) (by omega) hL _) fun z hz=>cm (vM N (by omega) (by omega) _) (bA (fun _=>dp) fun _=>bI (fun _=>dp) fun _=>ok_eq (fun _=>dp) fun _=>iB (len:=l.length) (F:=fun n i=>gS.lz N n l c b x z.1 (yk b.2.1 x.2.2.1) i) (by omega) (fun n i hi hr=> ?_) (fun n=> ?_))
  all_goals unfold gS.lz gS.jO
  ·rw[al (x:=(i:Int)+1) (by omega) (by omega),aa i]
   exact au (fun _=>aw ⟨by omega,by omega⟩ (ok_eq (fun _=>aw ⟨by omega,by omega⟩ (ok_eq (fun _=>dp) fun _=>hr)) fun _=>hr)) fun _=>by omega
  ·refine au (fun _=>by omega) fun _=>ok_eq (fun _=>dp) fun _=>af (aZ N (by omega) hx.2.2.2.1) fun p hp=>af (aZ N (by omega) (show aC 4 from aV)) fun q hq=>af (aZ N (by omega) hz.2.2.1) fun r hr=>af (jH N (by omega) (by omega) (by omega) hq hr) fun u hu=>af (om N (by omega) (by omega) (by omega) hp hu) fun _ _=>au (fun _=>dp) fun _=>af (F9 N (by omega) (by omega) hb.2.2.2.1 _) fun a ha=>af (MA N (by omega) h6 (by omega) ha hz.2.1) fun j hj=>bA (fun _=>dp) fun _=> ?_
   unfold aaa
   exact af (Q:=fun r=>L3 6 r) (cm (ke N (by omega) (by omega)) (bA (fun _=>ag G.nil) fun _=>af (zV N (by omega) (by omega) _) fun r hr=>ag hr)) fun o ho=>af (F8 N (by omega) (by omega) hc hj (G.mono h6 ho)) fun w hw=>af (sd N (by omega) (by omega) hb _) fun g hg=>af (aZ N (by omega) hg) fun v hv=>af (aZ N (by omega) hx.2.2.2.1) fun p hp=>af (u9 N (by omega) (by omega) hv hp) fun d hd=>af (om N (by omega) (by omega) (by omega) hd hw) fun _ _=>au (fun _=>dp) fun _=>dp
 refine cm (dI N hN (by omega) hb) (bA (fun _=>dp) fun _=>cm (zx N (by omega) c (by omega) hw) (bA (fun _=>dp) fun _=>cm (q7 N (by omega) (by omega)) (bA (fun _=>dp) fun _=>cm (Kw N _) (bA (fun _=>dp) fun _=>au (fun _=> ?_) fun _=>hj))))
 dsimp only
 exact aw (by rw[al (by omega) (by omega)];omega) (de (fun _=>dp) fun _=>hj)
theorem MB(N:Nat)(hN:5000000≤N){c:ae}{b:ah}{Jk:aX}{l:aE}{x:bR}{m:Nat}(h6:6≤m)(hm:m≤40000)(hc:G m aq c)(hb:G m aB b)(hL:LL m Jk)(hl:G m (.slice df) l)(hx:G 0 df x):Ok (fun r=>G (m+1) (.slice df) r.1) (S2 N c b Jk l x):=by
 have CO:=hl.1
 unfold S2
 refine af (Gl N hN h6 hm hc hb hL hl hx) fun _ _=>bI (fun _=>ag G.nil) fun _=>aF (by rw[List.length_nil];omega) ?_
 dsimp only
 rw[List.nil_append]
 exact aF (by rw[List.length_singleton];omega) (ag (G.cat hl (G.one hx (Nat.le_refl 1))))
end VM
end
section
namespace VM
open Go VM.F
theorem X7{l:List Int}(h:Pos l)(hs:l.sum<9223372036854775808):zE l:=fun x hx=>by
 have h3:=h x hx
 obtain⟨i,hi,rfl⟩:=List.mem_iff_getElem.1 hx
 have h4:=oj h i
 rw[List.getD_eq_getElem?_getD,List.getElem?_eq_getElem hi]at h4
 simp only[Option.getD_some]at h4
 omega
theorem PG(k:Nat):(List.replicate k (1:Int)).sum=k:=by
 induction k with
 |zero=>rfl
 |succ k ih=>rw[List.replicate_succ,List.sum_cons,ih];omega
theorem PH(k:Nat):Pos (List.replicate k 1):=fun x hx=>by rw[List.eq_of_mem_replicate hx];omega
theorem PI{t:Int}{k:Nat}(h0:0≤t)(h1:t<9223372036854775808)(hk:1≤k)(Zi:k≤3):(B8 t k).1.length=k∧zE (B8 t k).1:=by
 have hS:0<(List.replicate k (1:Int)).sum:=by rw[PG];omega
 have ee:B8 t k=(aR t (List.replicate k 1),0):=by
  unfold B8
  rw[if_neg (by omega),Int.toNat_natCast]
  unfold jD
  have hm:may (List.replicate k 1)=true:=eH.2 ⟨by rw[List.length_replicate];omega,PH k⟩
  rw[if_neg (by rw[hm];simp;omega),PG,if_neg (by omega),if_neg (by omega)]
 rw[ee]
 exact⟨by dsimp only;rw[fv,List.length_replicate],X7 (pJ h0 hS (PH k)) (by rw[pI h0 hS];omega)⟩
def LQ(y:OC):Prop:=aC y.1∧aC y.2.1∧ox y.2.1
theorem X8{l:ax}(h: ∀y∈l,LQ y)(i:Nat):LQ (l.getD i cc):=by
 by_cases hk:i<l.length
 ·rw[List.getD_eq_getElem?_getD,List.getElem?_eq_getElem hk];exact h _ (List.getElem_mem hk)
 ·rw[List.getD_eq_getElem?_getD,List.getElem?_eq_none (by omega)];exact⟨aU,aU,by unfold ox;decide⟩
theorem MC{c:ae}{b:ah}{m:Nat}(hb:G m aB b)(hB:db c b=true)(a:Int): ∀y∈posOf b.2.2.2.1 a,LQ y∧(0≤(y.1:Int)∧(y.1:Int)<(c.1.length:Int)):=fun y hy=>by
 have hk:cR b.2.2.2.1=true:=by
  by_cases h:cR b.2.2.2.1=true
  ·exact h
  ·unfold posOf at hy;rw[if_neg h]at hy;nomatch hy
 unfold posOf at hy
 rw[if_pos hk]at hy
 obtain⟨x,hx,_,e⟩:=pG hy
 have hg:=hb.2.2.2.1.2 x hx
 have hq:=((gr hk).2 x hx).2
 have hp:=DC hB x hx
 rw[e]
 exact⟨⟨hg.2.1,hg.2.2.1,hq⟩,hp⟩
theorem S3(N:Nat)(hN:5000000≤N){c:ae}{b:ah}{m:Nat}(h2:200≤m)(hm:m≤40000)(hc:G m aq c)(hb:G m aB b){next:Int}(hn:aC next):Ok (fun r=>LL m r.1) (cT N c b next):=by
 unfold cT cT.b
 refine cm (dI N hN (by omega) hb) (bA (fun _=>ag G.nil) fun hB=>au (fun _=>ag G.nil) fun _=>au (fun _=>ag G.nil) fun _=>cm (O6 N (G.wf (by omega) hb).w.s (by omega) 0) (ok_eq (fun _=>ag G.nil) fun _=> ?_))
 have jo:=MC hb hB 0
 have hal:=(afj hb.2.2.2.1 0).1
 generalize posOf b.2.2.2.1 0=all at*
 refine bh (len:=4) (F:=fun n k (s:Int×aX)=>cT.l8 N n s.1 c all s.2 k) (s:=(_,_)) (fun k s=>aC s.1∧s.2.length≤3*k∧ ∀x∈s.2,G m fZ x) ⟨hn,Nat.zero_le _,fun x hx=>nomatch hx⟩ (by omega) (fun n k s hk hI hr=> ?_) (fun n s hI=> ?_)
 all_goals unfold cT.l8 cT.yj
 ·refine au (fun _=> ?_) fun _=>by omega
  refine bh (len:=all.length) (F:=fun n' i (z:ax×av)=>cT.lz N (cT.l8 N n) n' s.1 c all s.2 (k:Int) z.1 z.2 i) (s:=(_,_)) (fun i z=>z.1.length≤i∧(∀y∈z.1,LQ y)∧Bg (8+i) z.2) ⟨Nat.zero_le _,(fun y hy=>nomatch hy),DE (by omega)⟩ (by omega) (fun n' i z hi hz dx=> ?_) (fun n' z hz=> ?_)
  all_goals unfold cT.lz cT.jO
  ·obtain⟨ya,H4,hz3⟩:=hz
   have hx:all.getD i cc∈all:=by rw[List.getD_eq_getElem?_getD,List.getElem?_eq_getElem hi];exact List.getElem_mem hi
   have hy:=jo _ hx
   rw[al (x:=(i:Int)+1) (by omega) (by omega),aa i,Int.toNat_natCast]
   exact au (fun _=>aw ⟨by omega,by omega⟩ (aw hy.2 (ok_eq (fun _=>aw ⟨by omega,by omega⟩ (aF (by rw[List.length_singleton];omega) (aw ⟨by omega,by omega⟩ (af (aZ N (by omega) hy.1.2.1) fun u hu=>af (ri N (by omega) (by omega) hu) fun u hu=>af (gO N (by omega) (by omega) hz3 (Bg.mono hu (by omega))) fun v hv=>dx (_,_) ⟨by dsimp only;rw[List.length_append,List.length_singleton];omega,fun y h=>(List.mem_append.1 h).elim (H4 y) (fun h=>by rw[List.mem_singleton.1 h];exact hy.1),Bg.mono hv (by omega)⟩)))) fun _=>dx z ⟨by omega,H4,Bg.mono hz3 (by omega)⟩))) fun _=>by omega
  ·obtain⟨ya,H4,hz3⟩:=hz
   refine au (fun _=>by omega) fun _=>af (Mz N (by omega) (Bg.mono hz3 (by omega)) hc.2.2.2.2.2.1) fun w hw=> ?_
   obtain⟨p,hp⟩: ∃p:Nat,w=(p:Int):=⟨w.toNat,by omega⟩
   subst hp
   refine bh (len:=p) (F:=fun Cj j (t:Int×aX)=>cT.DI N (cT.l8 N n) Cj t.1 c all t.2 (k:Int) z.1 (p:Int) j) (s:=s) (fun j t=>aC t.1∧t.2.length≤3*k+j∧ ∀x∈t.2,G m fZ x) hI (by omega) (fun Cj j t hj ht Pl=> ?_) (fun Cj t ht=> ?_)
   all_goals unfold cT.DI cT.Jl
   ·obtain⟨nE,QK,Rl⟩:=ht
    refine au (fun _=> ?_) fun _=>by omega
    refine bh (len:=z.1.length) (F:=fun n3 i u=>cT.yf N (cT.l8 N n) (cT.DI N (cT.l8 N n) Cj) n3 t.1 c all t.2 (k:Int) z.1 (p:Int) (j:Int) (t.1,(bK,((0:Int),((1:Int),cc)))) u i) (fun i u=>L2 i u) G.nil (by omega) (fun n3 i u hi hu hr3=> ?_) (fun n3 u hu=> ?_)
    all_goals unfold cT.yf cT.zb
    ·have X5:=hu.1
     have hq:=X8 H4 i
     have qi:=hq
     unfold LQ aC ox at qi
     have afl: ∀q:Int,0≤q→q<9223372036854775808→Ok (fun r=>LL m r.1) (cT.PJ N (cT.l8 N n) (cT.DI N (cT.l8 N n) Cj) (cT.yf N (cT.l8 N n) (cT.DI N (cT.l8 N n) Cj) n3) t.1 c all t.2 (k:Int) z.1 (p:Int) (j:Int) (t.1,(bK,((0:Int),((1:Int),cc)))) u (i:Int) q):=fun q h0 h1=>by
      unfold cT.PJ cT.Jm
      obtain⟨e1,e2⟩:=PI (k:=p) h0 h1 (by omega) (by omega)
      have afm: ∀v:List Int,v.length=p→zE v→Ok (fun r=>LL m r.1) (cT.j32 N (cT.l8 N n) (cT.DI N (cT.l8 N n) Cj) (cT.yf N (cT.l8 N n) (cT.DI N (cT.l8 N n) Cj) n3) t.1 c all t.2 (k:Int) z.1 (p:Int) (j:Int) (t.1,(bK,((0:Int),((1:Int),cc)))) u (i:Int) v):=fun v Ez Rh=>by
       unfold cT.j32 cT.aab
       rw[al (x:=(i:Int)+1) (by omega) (by omega),aa i]
       have hx:G 0 gP ((z.1.getD (i:Int).toNat cc).1,(v.getD (j:Int).toNat 0,())):=G2 (X8 H4 _).1 (mP Rh _)
       exact aw ⟨by omega,by omega⟩ (bI (fun _=>aw ⟨by omega,by omega⟩ (aw ⟨by omega,by omega⟩ (aF (by rw[List.length_singleton];omega) (hr3 _ (G.cat hu (G.one hx (Nat.le_refl 1))))))) fun _=>hr3 u (G.mono (by omega) hu))
      refine cm (Pf N hN h1) (aw ⟨by omega,by omega⟩ (au (fun _=>aw ⟨by omega,by omega⟩ (aw ⟨by omega,by omega⟩ (afm _ (by rw[List.length_set];exact e1) fun y hy=> ?_))) fun _=>afm _ e1 e2))
      rcases List.mem_or_eq_of_mem_set hy with hy|rfl
      ·exact e2 y hy
      ·exact dQ _
     rw[Int.toNat_natCast]
     refine au (fun _=>aw ⟨by omega,by omega⟩ (au (fun dF=> ?_) fun QQ=> ?_)) fun _=>by omega
     ·have g: ∀x:Int,-9223372036854775808≤x∧x≠ -9223372036854775808→x<0→0≤W .i64 (0-x)∧W .i64 (0-x)<9223372036854775808:=fun x h1 h2=>by rw[al (by omega) (by omega)];omega
      have gx:=g _ ⟨qi.2.1.1,qi.2.2⟩ dF
      exact afl _ gx.1 gx.2
     ·exact afl _ QQ qi.2.1.2
    ·have X5:=hu.1
     rw[al (x:=(j:Int)+1) (by omega) (by omega),aa j]
     have hum:L2 m u:=G.mono (by omega) hu
     refine au (fun _=>by omega) fun _=>ok_eq (fun _=>Pl t ⟨nE,by omega,Rl⟩) fun _=> ?_
     unfold PK
     refine af (Q:=fun r=>Bg 60000 r.1) (af (vX N (by omega) (by omega) hc hum _) fun r hr=>ag hr) fun a ha=>af (oU N (by omega) (by omega) ha) fun d hd=>af (tq N hd) fun v hv=>bA (fun _=>ag G.nil) fun _=>aF (by rw[List.length_singleton];omega) (Pl (_,_) ⟨dQ _,by dsimp only;rw[List.length_append,List.length_singleton];omega,fun x hx=> ?_⟩)
     rcases List.mem_append.1 hx with hx|hx
     ·exact Rl x hx
     ·rw[List.mem_singleton.1 hx];exact⟨nE,hum,hv,(show aC 1 from aV),aU,aU,trivial⟩
   ·rw[al (x:=(k:Int)+1) (by omega) (by omega),aa k]
    exact au (fun _=>by omega) fun _=>hr t ⟨ht.1,by have:=ht.2.1;omega,ht.2.2⟩
 ·exact au (fun _=>by omega) fun _=>ag ⟨by have:=hI.2.1;dsimp only;omega,hI.2.2⟩
end VM
end
section
namespace VM
open Go VM.F
theorem se(N:Nat)(hN:200000≤N){l:ax}(hl:l.length≤100000):Ok (fun _=>True) (kV N l):=by
 unfold kV kV.b
 refine iB (len:=l.length) (F:=fun n i=>kV.l2 N n l i) (by omega) (fun n i hi hr=> ?_) (fun n=> ?_)
 all_goals unfold kV.l2 kV.eu
 ·rw[al (x:=(i:Int)+1) (by omega) (by omega),aa i]
  dsimp only
  repeat' first|exact hr|exact dp|refine aw ⟨by omega,by omega⟩ ?_|refine aw (by rw[al (x:=(i:Int)-1) (by omega) (by omega)];omega) ?_|refine au (fun _=> ?_) (fun _=> ?_)|refine de (fun _=> ?_) (fun _=> ?_)|refine ok_eq (fun _=> ?_) (fun _=> ?_)|(exfalso;omega)
 ·exact au (fun _=>by omega) fun _=>dp
theorem MD(N:Nat)(hN:200000≤N){l:List Int}(hl:l.length≤100000):Ok (fun _=>True) (ni N l):=by
 unfold ni ni.b
 refine iB (len:=l.length) (F:=fun n i=>ni.l2 N n l i) (by omega) (fun n i hi hr=> ?_) (fun n=> ?_)
 all_goals unfold ni.l2 ni.eu
 ·rw[al (x:=(i:Int)+1) (by omega) (by omega),aa i]
  dsimp only
  repeat' first|exact hr|exact dp|refine aw ⟨by omega,by omega⟩ ?_|refine aw (by rw[al (x:=(i:Int)-1) (by omega) (by omega)];omega) ?_|refine au (fun _=> ?_) (fun _=> ?_)|refine de (fun _=> ?_) (fun _=> ?_)|refine ok_eq (fun _=> ?_) (fun _=> ?_)|(exfalso;omega)
 ·exact au (fun _=>by omega) fun _=>dp
theorem PL(N:Nat)(hN:200000≤N)(a:Int){L:aX}{l:aE}{m:Nat}(hm:m≤50000)(hL:LL m L)(hl:G m (.slice df) l):Ok aC (fI N a L l):=by
 have h1:=hL.1
 have h2:=hl.1
 have i3:aC 3:=aV
 have i2:aC 2:=aV
 unfold fI fI.b
 refine bh (len:=l.length) (F:=fun n i v=>fI.l3 N n a L l v i) (fun _ v=>aC v) (show aC 1 from aV) (by omega) (fun n i v hi hv hr=> ?_) (fun n v hv=> ?_)
 all_goals unfold fI.l3 fI.g7
 ·rw[al (x:=(i:Int)+1) (by omega) (by omega),aa i]
  exact au (fun _=>aw ⟨by omega,by omega⟩ (bI (fun _=>hr v hv) fun _=>aw ⟨by omega,by omega⟩ (af (zY N hN hm hL _) fun _ _=>pM (fun _=>aw ⟨by omega,by omega⟩ (de (fun _=>hr _ (vW hv i3)) fun _=>hr _ (vW hv i2))) fun _=>hr _ (vW hv i2)))) fun _=>by omega
 ·refine au (fun _=>by omega) fun _=>bh (len:=L.length) (F:=fun n i v=>fI.nA N n a L v i) (fun _ v=>aC v) hv (by omega) (fun n i v hi hv hr=> ?_) (fun n v hv=> ?_)
  all_goals unfold fI.nA fI.lR
  ·rw[al (x:=(i:Int)+1) (by omega) (by omega),aa i]
   exact au (fun _=>aw ⟨by omega,by omega⟩ (ok_eq (fun _=>aw ⟨by omega,by omega⟩ (ok_eq (fun _=>hr 4 aV) fun _=>hr v hv)) fun _=>hr v hv)) fun _=>by omega
  ·exact au (fun _=>by omega) fun _=>ag hv
theorem PM(N:Nat)(hN:200000≤N)(c:ae){d:ax}{u:List Int}{L:aX}{l:aE}{m:Nat}(h2:200≤m)(hm:m≤50000)(hd:L2 m d)(hu:u.length≤m)(hL:LL m L)(hl:G m (.slice df) l):Ok (fun r=>L2 m r.1) (cr N c d u L l):=by
 have h3:=hd.1
 have h4:=hL.1
 have h5:=hl.1
 have hw:FK L:=fun y hy=>Nat.le_trans (hL.2 y hy).2.1.1 (by omega)
 unfold cr cr.b
 refine af (se N hN (by omega)) fun _ _=>bA (fun _=>ag G.nil) fun _=>af (MD N hN (by omega)) fun _ _=>bA (fun _=>ag G.nil) fun _=>cm (zx N hN c (by omega) hw) (bA (fun _=>ag G.nil) fun _=>cm (q7 N (by omega) hN) (bA (fun _=>ag G.nil) fun _=>iA (len:=13) (F:=fun n i s=>cr.l5 N n d u L l s i) (fun i s=>L2 i s) (fun n i s hi hI hr=> ?_) (fun n s hI=> ?_) 13 N 1 [] (by omega) (by omega) (by omega) G.nil))
 all_goals unfold cr.l5 cr.dq
 ·have hs:=hI.1
  refine de (fun _=> ?_) fun _=>by omega
  refine bh (len:=d.length) (F:=fun n' j (z:Int×Bool)=>cr.l9 N (cr.l5 N n) n' d u L l s (i:Int) z.1 z.2 j) (s:=(_,_)) (fun _ z=>aC z.1) aU (by omega) (fun n' j z hj hz dx=> ?_) (fun n' z hz=> ?_)
  all_goals unfold cr.l9 cr.vk
  ·rw[al (x:=(j:Int)+1) (by omega) (by omega),aa j]
   exact au (fun _=>aw ⟨by omega,by omega⟩ (ok_eq (fun _=>aw ⟨by omega,by omega⟩ (dx (_,_) (G.at hd _).2.1)) fun _=>dx z hz)) fun _=>by omega
  ·refine au (fun _=>by omega) fun _=>bh (len:=u.length) (F:=fun n' j f=>cr.B7 N (cr.l5 N n) n' d u L l s (i:Int) z.1 f j) (fun _ _=>True) trivial (by omega) (fun n' j f hj _ dx=> ?_) (fun n' f _=> ?_)
   all_goals unfold cr.B7 cr.zM
   ·rw[al (x:=(j:Int)+1) (by omega) (by omega),aa j]
    exact au (fun _=>pM (fun _=>dx _ trivial) fun _=>aw ⟨by omega,by omega⟩ (dx _ trivial)) fun _=>by omega
   ·refine au (fun _=>by omega) fun _=>bh (len:=l.length) (F:=fun n' j f=>cr.vR N (cr.l5 N n) n' d u L l s (i:Int) z.1 f j) (fun _ _=>True) trivial (by omega) (fun n' j f hj _ dx=> ?_) (fun n' f _=> ?_)
    all_goals unfold cr.vR cr.tp
    ·rw[al (x:=(j:Int)+1) (by omega) (by omega),aa j]
     exact au (fun _=>pM (fun _=>dx _ trivial) fun _=>aw ⟨by omega,by omega⟩ (dx _ trivial)) fun _=>by omega
    ·rw[al (x:=(i:Int)+1) (by omega) (by omega),aa i]
     dsimp only
     exact au (fun _=>by omega) fun _=>pM (fun _=>af (PL N hN _ hm hL hl) fun v hv=>aF (by rw[List.length_singleton];omega) (hr _ (G.cat hI (G.one (m:=1) (G2 (fN (by omega) (by omega)) (vW hz hv)) (Nat.le_refl 1))))) fun _=>hr s (G.mono (by omega) hI)
 ·exact de (fun _=>by omega) fun _=>ag (G.mono (by omega) hI)
theorem PN(N:Nat)(hN:200000≤N){l:ax}(hl:l.length≤100000)(a:Int):Ok (fun _=>True) (nj N l a):=by
 unfold nj nj.b
 refine af (se N hN hl) fun _ _=>bA (fun _=>dp) fun _=>iB (len:=l.length) (F:=fun n i=>nj.l4 N n l a i) (by omega) (fun n i hi hr=> ?_) (fun n=> ?_)
 all_goals unfold nj.l4 nj.cn
 ·rw[al (x:=(i:Int)+1) (by omega) (by omega),aa i]
  exact au (fun _=>aw ⟨by omega,by omega⟩ (ok_eq (fun _=>aw ⟨by omega,by omega⟩ dp) fun _=>hr)) fun _=>by omega
 ·exact au (fun _=>by omega) fun _=>dp
theorem KR(N:Nat)(a:Int):Ok (fun _=>True) (PO N a):=by
 unfold PO
 exact ok_eq (fun _=>dp) fun _=>dp
theorem Jn(N:Nat)(hN:5000000≤N)(c:ae){b:ah}{d:ax}{m:Nat}(hm:m≤50000)(hb:G m aB b)(hd:L2 m d)(a k:Int):Ok (fun r=>G m (.slice (.int .i64)) r.1) (nk N c b d a k):=by
 have hl:=hb.1.1
 have h2:=hd.1
 unfold nk nk.b
 refine cm (dI N hN hm hb) (bA (fun _=>ag G.nil) fun _=>af (se N (by omega) (by omega)) fun _ _=>bA (fun _=>ag G.nil) fun _=>bh (len:=b.1.length) (F:=fun n i s=>nk.l5 N n d a k b s i) (fun i s=>G i (.slice (.int .i64)) s) G.nil (by omega) (fun n i s hi hI hr=> ?_) (fun n s hI=> ?_))
 all_goals unfold nk.l5 nk.dq
 ·have hs:=hI.1
  rw[al (x:=(i:Int)+1) (by omega) (by omega),aa i]
  have h1:=hr s (G.mono (by omega) hI)
  have hx:G 0 (.int .i64) (b.1.getD (i:Int).toNat cc).1:=(G.at hb.1 _).1
  exact au (fun _=>aw ⟨by omega,by omega⟩ (af (KR N _) fun _ _=>pM (fun _=>bI (fun _=>af (m5 N (by omega) hm hb.2.2.1 _ _) fun _ _=>au (fun _=>af (PN N (by omega) (by omega) _) fun _ _=>ok_eq (fun _=>aF (by rw[List.length_singleton];omega) (hr _ (G.cat hI (G.one hx (Nat.le_refl 1))))) fun _=>h1) fun _=>h1) fun _=>h1) fun _=>h1)) fun _=>by omega
 ·exact au (fun _=>by omega) fun _=>ag (G.mono hl hI)
theorem zZ(N:Nat)(hN:200000≤N){a:aE}{m:Nat}(hm:m≤50000)(h:G m (.slice df) a)(id:Int):Ok aC (tb N a id):=by
 refine kS (vM N (Nat.le_trans h.1 (by omega)) hN id) ?_
 unfold yk
 split
 ·have: ∀l:aE,(∀x∈l,G m df x)→aC (pz id l):=by
   intro l
   induction l with
   |nil=>intro _;exact aU
   |cons x t ih=>
    intro hx
    have hi:=ih fun y hy=>hx y (List.mem_cons_of_mem _ hy)
    rw[wU]
    split
    ·split
     ·exact(hx x (List.mem_cons_self ..)).1
     ·exact hi
    ·exact hi
  exact this a h.2
 ·exact aU
abbrev L5(m:Nat)(l:bc):Prop:=G m (.slice oV) l
theorem G5{m:Nat}{a b c d e:Int}(ha:aC a)(hb:aC b)(hc:aC c)(hd:aC d)(he:aC e):G m oV (a,(b,(c,(d,(e,()))))):=⟨ha,hb,hc,hd,he,trivial⟩
theorem DJ(N:Nat)(hN:200000≤N){l:bc}{b:ah}{m k:Nat}(hm:m≤50000)(hb:G m aB b)(hk:k≤1000000)(hl:L5 k l){a d n:Int}(ha:aC a)(hd:aC d)(hn:aC n):Ok (fun r=>L5 (k+1) r) (Jo N l b a d n):=by
 have h1:=hl.1
 unfold Jo
 exact af (m5 N hN hm hb.2.2.1 _ _) fun x hx=>au (fun _=>aF (by rw[List.length_singleton];omega) (ag (G.cat hl (G.one (m:=1) (G5 ha hd hn hx aU) (Nat.le_refl 1))))) fun _=>ag (G.mono (by omega) hl)
theorem PQ(N:Nat)(hN:5000000≤N){c:ae}{b:ah}{d g:ax}{a:Int}{m:Nat}(hm:m≤50000)(hc:G m aq c)(hb:G m aB b)(hd:L2 m d)(hg:L2 m g)(ha:aC a):Ok (fun r=>L5 1000000 r.1) (ca N c b a d g):=by
 have h1:=hb.1.1
 have h2:=hd.1
 have h3:=hg.1
 have h4:=hb.2.1.1
 have hj: ∀l:bc,L5 1 l→Ok (fun r=>L5 1000000 r.1) (ca.j9 N a d g c b l):=fun l hl=>by
  unfold ca.j9 ca.IE
  refine af (DJ N (by omega) hm hb (by omega) hl aV aV ha) fun l hl=>af (DJ N (by omega) hm hb (by omega) hl aV aV aU) fun l hl=>iA (len:=5) (F:=fun n k s=>ca.nA N n a d g c b s k) (fun k s=>L5 (3+m*k) s) (fun n k s hk hs hr=> ?_) (fun n s hs=> ?_) 5 N 1 l (by omega) (by omega) (by omega) (G.mono (by omega) hl)
  all_goals unfold ca.nA ca.lR
  ·have hmk:m*k≤m*4:=Nat.mul_le_mul_left m (by omega)
   refine de (fun _=>af (Jn N hN c hm hb hd _ _) fun t ht=> ?_) fun _=>by omega
   have htl:=ht.1
   refine bh (len:=t.1.length) (F:=fun n' j u=>ca.su N (ca.nA N n) n' a d g c b u (k:Int) t.1 j) (fun j u=>L5 (3+m*k+j) u) hs (by omega) (fun n' j u hj hu dx=> ?_) (fun n' u hu=> ?_)
   all_goals unfold ca.su ca.qX
   ·rw[al (x:=(j:Int)+1) (by omega) (by omega),aa j]
    exact au (fun _=>aw ⟨by omega,by omega⟩ (af (DJ N (by omega) hm hb (by omega) hu (dQ _) aV (G.at ht _)) fun v hv=>dx v hv)) fun _=>by omega
   ·rw[al (x:=(k:Int)+1) (by omega) (by omega),aa k]
    exact au (fun _=>by omega) fun _=>hr u (G.mono (by rw[Nat.mul_succ];omega) hu)
  ·refine de (fun _=>by omega) fun _=>bh (len:=b.1.length) (F:=fun n j u=>ca.DI N n a g c b u j) (fun j u=>L5 (3+m*5+j) u) hs (by omega) (fun n j u hj hu hr=> ?_) (fun n u hu=> ?_)
   all_goals unfold ca.DI ca.Jl
   ·have X5:=hu.1
    have hx:aC (b.1.getD (j:Int).toNat cc).1:=(G.at hb.1 _).1
    rw[al (x:=(j:Int)+1) (by omega) (by omega),aa j]
    have h0:=hr u (G.mono (by omega) hu)
    exact au (fun _=>aw ⟨by omega,by omega⟩ (af (KR N _) fun _ _=>bA (fun _=>h0) fun _=>ok_eq (fun _=>h0) fun _=>af (aZ N (by omega) hc.2.2.1) fun p hp=>af (m5 N (by omega) hm hb.2.2.1 _ _) fun q hq=>af (aZ N (by omega) hq) fun q hq=>af (jH N (by omega) (by omega) (by omega) hp hq) fun y hy=>af (tq N hy) fun v hv=>bA (fun _=>ag G.nil) fun _=>au (fun _=>aF (by rw[List.length_singleton];omega) (hr _ (G.mono (by omega) (G.cat hu (G.one (m:=1) (G5 (show aC 8 from aV) (show aC 7 from aV) hx hv aU) (Nat.le_refl 1)))))) fun _=>h0)) fun _=>by omega
   ·refine au (fun _=>by omega) fun _=>bh (len:=g.length) (F:=fun n j u=>ca.IX N n a g b u j) (fun j u=>L5 (3+m*5+m+j) u) (G.mono (by omega) hu) (by omega) (fun n j u hj hu hr=> ?_) (fun n u hu=> ?_)
    all_goals unfold ca.IX ca.FH
    ·have X5:=hu.1
     rw[al (x:=(j:Int)+1) (by omega) (by omega),aa j]
     have h0:=hr u (G.mono (by omega) hu)
     dsimp only
     exact au (fun _=>aw ⟨by omega,by omega⟩ (af (rZ N (by omega) hm hb.2.1 _) fun x hx=>aw ⟨by omega,by omega⟩ (aw ⟨by omega,by omega⟩ (af (m5 N (by omega) hm hb.2.2.1 _ _) fun q hq=>pM (fun _=>bI (fun _=>au (fun _=>aF (by rw[List.length_singleton];omega) (hr _ (G.mono (by omega) (G.cat hu (G.one (m:=1) (G5 (show aC 9 from aV) (show aC 5 from aV) hx.1 (SJ (G.at hg _).2.1 hq) aU) (Nat.le_refl 1)))))) fun _=>h0) fun _=>h0) fun _=>h0)))) fun _=>by omega
    ·exact au (fun _=>by omega) fun _=>ag (G.mono (by omega) hu)
 unfold ca ca.b
 exact cm (dI N hN hm hb) (bA (fun _=>ag G.nil) fun _=>af (se N (by omega) (by omega)) fun _ _=>bA (fun _=>ag G.nil) fun _=>af (Cm N (by omega) (by omega)) fun _ _=>bA (fun _=>ag G.nil) fun _=>af (mq N (by omega) hm hb.1 _) fun _ _=>ok_eq (fun _=>ag G.nil) fun _=>af (zZ N (by omega) hm hb.2.1 _) fun h hh=>bI (fun _=>af (DJ N (by omega) hm hb (by omega) (G.nil (m:=0)) aV aV hh) fun l hl=>hj l hl) fun _=>hj [] G.nil)
end VM
end
section
namespace VM
open Go VM.F
theorem ME(N:Nat)(hN:5000000≤N)(c:ae){b:ah}{m:Nat}(hm:m≤50000)(hb:G m aB b):Ok (fun r=>aC r.1) (S4 N c b):=by
 unfold S4
 exact cm (dI N hN hm hb) (bA (fun _=>ag aU) fun _=>af (m5 N (by omega) hm hb.2.2.1 _ _) fun x hx=>ok_eq (fun _=>ag aU) fun _=>ag (vW (dQ _) aU))
theorem Jp(N:Nat)(hN:5000000≤N)(c:ae){b:ah}{m:Nat}(hm:m≤50000)(hb:G m aB b):Ok (fun r=>aC r.1) (S5 N c b):=by
 unfold S5
 exact cm (dI N hN hm hb) (bA (fun _=>ag aU) fun _=>af (m5 N (by omega) hm hb.2.2.1 _ _) fun x hx=>ag (vW hx aU))
theorem aac(N:Nat)(a b:Int):Ok (fun _=>True) (IJ N a b):=by
 unfold IJ
 repeat' first|exact dp|refine ok_eq (fun _=> ?_) (fun _=> ?_)|refine de (fun _=> ?_) (fun _=> ?_)
theorem MF(N:Nat)(hN:200000≤N)(l:bc):Ok (fun r=>r=true→l.length≤64) (nn N l):=by
 have hf:Ok (fun r=>r=true→l.length≤64) (some false):=ag fun h=>nomatch h
 unfold nn nn.b
 refine au (fun _=>hf) fun hl=>iB (len:=l.length) (F:=fun n i=>nn.l4 N n l i) (by omega) (fun n i hi hr=> ?_) (fun n=> ?_)
 all_goals unfold nn.l4 nn.cn
 ·rw[al (x:=(i:Int)+1) (by omega) (by omega),aa i]
  dsimp only
  repeat' first|exact hr|exact hf|refine aw ⟨by omega,by omega⟩ ?_|refine aw (by rw[al (x:=(i:Int)-1) (by omega) (by omega)];omega) ?_|refine au (fun _=> ?_) (fun _=> ?_)|refine de (fun _=> ?_) (fun _=> ?_)|refine ok_eq (fun _=> ?_) (fun _=> ?_)|(exfalso;omega)|refine af (aac N _ _) fun _ _=> ?_|refine bA (fun _=> ?_) (fun _=> ?_)
 ·exact au (fun _=>by omega) fun _=>ag fun _=>by omega
theorem KS{σ β:Type}{P:β→Prop}{F:Nat→Int→σ→Option β}{len:Nat}(I:σ→Prop)
  (hs: ∀n i s,i<len→I s→(∀j s',i<j→j≤len→I s'→Ok P (F n (j:Int) s'))→Ok P (F (n+1) (i:Int) s)) (he: ∀n s,I s→Ok P (F (n+1) (len:Int) s)):
  ∀m n i s,len-i≤m→m<n→i≤len→I s→Ok P (F n (i:Int) s)
 |m,0,i,s,_,hn,_,_=>by omega
 |m,n+1,i,s,hm,hn,hi,hI=>by
  by_cases h:i<len
  ·exact hs n i s h hI fun j s' hj XO sF=>KS I hs he (m-1) n j s' (by omega) (by omega) XO sF
  ·have:i=len:=by omega
   subst this
   exact he n s hI
theorem G5q{m:Nat}{x:uT}{q:Int}(h:G m oV x)(hq:aC q):G m oV (x.1,(x.2.1,(x.2.2.1,(x.2.2.2.1,(q,x.2.2.2.2.2))))):=⟨h.1,h.2.1,h.2.2.1,h.2.2.2.1,hq,trivial⟩
theorem afn: ∀{w:List Int},Pos w→0≤w.sum
 |[],_=>Int.le_refl _
 |x::t,h=>by
  rw[List.sum_cons]
  have:=h x (List.mem_cons_self ..)
  have:=afn (w:=t) fun y hy=>h y (List.mem_cons_of_mem _ hy)
  omega
theorem MG{t:Int}{w:List Int}(h1:t<9223372036854775808)(h:(jD t w).2=0):(jD t w).1.length=w.length∧zE (jD t w).1:=by
 unfold jD at h ⊢
 split at h
 ·exact absurd h (by decide)
 ·split at h
  ·exact absurd h (by decide)
  ·rename_i h2 h3
   split at h
   ·split at h
    ·rename_i h4 h5
     rw[if_neg h2,if_neg h3,if_pos h4,if_pos h5]
     exact⟨List.length_replicate ..,fun x hx=>by rw[List.eq_of_mem_replicate hx];decide⟩
    ·exact absurd h (by decide)
   ·rename_i h4
    rw[if_neg h2,if_neg h3,if_neg h4]
    have hm:may w=true:=by
     by_cases hm:may w=true
     ·exact hm
     ·exact absurd (Or.inr (Bool.eq_false_iff.2 hm)) h2
    have hp:=(eH.1 hm).2
    have h0:0≤t:=by omega
    have hS:0<w.sum:=by have:=afn hp;omega
    exact⟨fv t w,X7 (pJ h0 hS hp) (by rw[pI h0 hS];exact h1)⟩
theorem Jq(N:Nat)(hN:5000000≤N){l:bc}{q:Int}{m:Nat}(hl:L5 m l)(hq:aC q):Ok (fun r=>L5 64 r.1∧aC r.2.1) (cD N l q):=by
 have eJ: ∀e:Int,Ok (fun r:bc×Int×Int=>L5 64 r.1∧aC r.2.1) (some ([],((0:Int),e))):=fun e=>ag ⟨G.nil,aU⟩
 unfold cD cD.b
 refine af (MF N (by omega) l) fun z hz=>bA (fun _=>eJ _) fun ht=>au (fun _=>eJ _) fun _=> ?_
 have sJ:=hz ht
 rw[List.nil_append]
 refine aF (by rw[List.length_nil];omega) (KS (len:=l.length) (F:=fun n i (s:bc×Int)=>cD.l5 N n s.1 s.2 i) (fun s=>s.1.length=l.length∧L5 64 s.1∧aC s.2) (fun n i s hi hI hr=> ?_) (fun n s hI=> ?_) l.length N 0 (l,q) (by omega) (by omega) (by omega) ⟨rfl,⟨sJ,fun x hx=>G.mono (m:=0) (Nat.zero_le _) (hl.2 x hx)⟩,hq⟩)
 all_goals unfold cD.l5 cD.dq
 ·obtain⟨HR,XT,hs3⟩:=hI
  refine au (fun _=> ?_) fun _=>by omega
  have fin: ∀(k:Nat) (w:List Int),i<k→k≤l.length→w.length=k-i→zE w→Ok (fun r=>L5 64 r.1∧aC r.2.1) (cD.H8 N (cD.l5 N n) s.1 s.2 (i:Int) (k:Int) w):=fun k w hk AO hw Dz=>by
   unfold cD.H8 cD.zW
   have yJ:aC (mn (ur w.sum).1 s.2):=SJ (Jc _) hs3
   refine cm (s6 N (by omega) Dz (by omega)) (cm (oh N _) (bA (fun _=>eJ _) fun _=>cm (vP N hN yJ.2 Dz (by omega)) (bI (fun _=>eJ _) fun h0=> ?_)))
   obtain⟨e1,e2⟩:=MG yJ.2 h0
   generalize (jD (mn (ur w.sum).1 s.2) w).1=v at*
   refine iA (len:=k) (F:=fun n' j (z:bc×Int)=>cD.vR N (cD.l5 N n) n' z.1 z.2 (i:Int) (k:Int) v j) (fun j z=>i≤j∧z.1.length=l.length∧L5 64 z.1∧aC z.2) (fun n' j z hj hz dx=> ?_) (fun n' z hz=> ?_) k N i s (by omega) (by omega) (by omega) ⟨Nat.le_refl i,HR,XT,hs3⟩
   all_goals unfold cD.vR cD.tp
   ·obtain⟨nR,ya,H4,hz3⟩:=hz
    dsimp only
    rw[al (x:=(j:Int)+1) (by omega) (by omega),aa j,al (x:=(j:Int)-i) (by omega) (by omega)]
    exact au (fun _=>aw ⟨by omega,by omega⟩ (aw ⟨by omega,by omega⟩ (aw ⟨by omega,by omega⟩ (dx (_,_) ⟨by omega,by dsimp only;rw[List.length_set];exact ya,G.set H4 (G5q (G.at H4 _) (mP e2 _)) _,dQ _⟩)))) fun _=>by omega
   ·exact au (fun _=>by omega) fun _=>hr k z hk AO hz.2
  refine iA (len:=l.length) (F:=fun n' k w=>cD.l8 N (cD.l5 N n) n' s.1 s.2 (i:Int) k w) (fun k w=>i≤k∧w.length=k-i∧zE w) (fun n' k w hk hw dx=> ?_) (fun n' w hw=> ?_) l.length N i [] (by omega) (by omega) (by omega) ⟨Nat.le_refl i,by rw[List.length_nil];omega,fun x hx=>nomatch hx⟩
  all_goals unfold cD.l8 cD.yj
  ·obtain⟨hik,hwl,Dz⟩:=hw
   rw[al (x:=(k:Int)+1) (by omega) (by omega),aa k]
   refine au (fun _=>aw ⟨by omega,by omega⟩ (aw ⟨by omega,by omega⟩ (ok_eq (fun _=>aw ⟨by omega,by omega⟩ (aF (by rw[List.length_singleton];omega) (dx _ ⟨by omega,by rw[List.length_append,List.length_singleton];omega,fun x hx=> ?_⟩))) fun g9=> ?_))) fun _=>by omega
   ·rcases List.mem_append.1 hx with hx|hx
    ·exact Dz x hx
    ·rw[List.mem_singleton.1 hx];exact(G.at XT _).2.2.2.1
   ·refine fin k w ?_ (by omega) hwl Dz
    by_cases e:k=i
    ·subst e;exact absurd rfl g9
    ·omega
  ·exact au (fun _=>by omega) fun _=>fin l.length w hi (Nat.le_refl _) hw.2.1 hw.2.2
 ·exact au (fun _=>by omega) fun _=>ag ⟨hI.2.1,hI.2.2⟩
abbrev R0:cV:=((0:Int),((0:Int),(([]:bc),((0:Int),()))))
theorem MH(N:Nat)(hN:5000000≤N){c:ae}{b:ah}{d g:ax}{a:Int}{m:Nat}(h2:200≤m)(hm:m≤40000)(hc:G m aq c)(hb:G m aB b)(hd:L2 m d)(hg:L2 m g)(ha:aC a):Ok (fun r=>G m aB r.1∧G m dR r.2.1) (gT N c b a d g):=by
 have eJ: ∀e:Int,Ok (fun r:ah×cV×Int=>G m aB r.1∧G m dR r.2.1) (some ((bK,(cL,(bp,(bp,(c4,(c9,())))))),(R0,e))):=fun e=>ag ⟨G.ff,G.zero m dR⟩
 unfold gT gT.b
 refine af (PQ N hN (by omega) hc hb hd hg ha) fun l hl=>ok_eq (fun _=>eJ _) fun _=>ok_eq (fun _=>eJ _) fun _=>af (ME N hN c (by omega) hb) fun q hq=>bI (fun _=>eJ _) fun _=>bI (fun _=>eJ _) fun _=>af (Jq N hN hl hq) fun z ⟨ya,H4⟩=>bI (fun _=>eJ _) fun _=> ?_
 have hzl:=ya.1
 have hj: ∀(p:bk) (r:cV) (t:bc) (x k n:Int),fY 1000 p→G m dR r→L5 64 t→aC x→Ok (fun r=>G m aB r.1∧G m dR r.2.1) (gT.j26 N b (bK,(cL,(bp,(bp,(c4,(c9,())))))) R0 p r t x k n):=fun p r t x k n hp hr ht hx=>by
  have CL:=hp.1
  unfold gT.j26 gT.aad
  exact af (aZ N (by omega) hx) fun v hv=>af (oa N (by omega) _ _ _ _ (Bg.mono hv (by omega))) fun u hu=>aF (by have:=hu.1;omega) (af (n8 N (by omega) h2 (by omega) hb G.nil (fY.mono (fY.app hp hu) (by omega))) fun w hw=>bI (fun _=>eJ _) fun _=>ag ⟨hw,hr.1,hr.2.1,G.mono (by omega) ht,hr.2.2.2⟩)
 refine bh (len:=z.1.length) (F:=fun n i (s:bk×cV×bc)=>gT.D9 N n a c b (bK,(cL,(bp,(bp,(c4,(c9,())))))) R0 z.1 z.2.1 s.1 s.2.1 s.2.2 i) (s:=(_,(_,_))) (fun i s=>fY (2*i) s.1∧G m dR s.2.1∧L5 i s.2.2) ⟨fY.nil,⟨ha,hq,G.nil,H4,trivial⟩,G.nil⟩ (by omega) (fun n i s hi hI hr=> ?_) (fun n s hI=> ?_)
 all_goals unfold gT.D9 gT.Dp
 ·obtain⟨h4,h5,h6⟩:=hI
  have hp:=h4.1
  have ht:=h6.1
  have hx:G 0 oV (z.1.getD (i:Int).toNat jY):=G.at ya _
  rw[al (x:=(i:Int)+1) (by omega) (by omega),aa i]
  exact au (fun _=>aw ⟨by omega,by omega⟩ (au (fun _=>aw ⟨by omega,by omega⟩ (aF (by rw[List.length_singleton];omega) (aw ⟨by omega,by omega⟩ (aw ⟨by omega,by omega⟩ (aw ⟨by omega,by omega⟩ (af (aZ N (by omega) hx.2.2.2.2.1) fun v hv=>af (oa N (by omega) _ _ _ _ (Bg.mono hv (by omega))) fun u hu=>aF (by have:=hu.1;omega) (hr (_,(_,_)) ⟨fY.mono (fY.app h4 hu) (by omega),⟨h5.1,h5.2.1,G.nil,h5.2.2.2⟩,G.cat h6 (G.one hx (Nat.le_refl 1))⟩))))))) fun _=>hr s ⟨fY.mono h4 (by omega),h5,G.mono (by omega) h6⟩)) fun _=>by omega
 ·obtain⟨h4,h5,h6⟩:=hI
  have hp:=h4.1
  dsimp only
  exact au (fun _=>by omega) fun _=>af (aZ N (by omega) H4) fun v hv=>af (oa N (by omega) _ _ _ _ (Bg.mono hv (by omega))) fun u hu=>aF (by have:=hu.1;omega) (af (Jp N hN c (by omega) hb) fun x hx=>af (zZ N (by omega) (by omega) hb.2.1 _) fun h hh=>bI (fun _=>hj _ _ _ _ _ _ (fY.mono (fY.app h4 hu) (by omega)) h5 (G.mono (by omega) h6) hx) fun _=>hj _ _ _ _ _ _ (fY.mono (fY.app h4 hu) (by omega)) h5 (G.mono (by omega) h6) hx)
end VM
end
section
namespace VM
open Go VM.F
theorem MI(N:Nat)(hN:5000000≤N){t:Int}{w:List Int}(ht:t<9223372036854775808)(hw:zE w)(hl:w.length≤1000000):Ok (fun r=>r.2.2=0→r.1.length=w.length∧zE r.1) (c6 N t w w):=by
 refine kS (zS N hN ht hw hw hl) fun h0=> ?_
 have f:=zT ht hw h0
 have c:=f.c
 have hl2:=c.l2
 refine⟨hl2,fun x hx=> ?_⟩
 obtain⟨i,hi,e⟩:=List.getElem_of_mem hx
 have h1:=c.le i (by omega)
 have h2:=(c.pc i).2
 have h3:=c.po i
 rw[List.getD_eq_getElem?_getD (l:=(kC t w w).1),List.getElem?_eq_getElem hi,Option.getD_some,e]at h1 h3
 exact⟨by omega,by omega⟩
theorem S6(N:Nat)(hN:5000000≤N)(c:ae){b:ah}{m:Nat}(hm:m≤40000)(hb:G m aB b){a:Int}(ha:aC a):Ok (fun r=>L3 (m+1) r.1) (jT N c b a):=by
 have w:=(G.wf (by omega) hb).w
 have hl:=hb.2.2.2.1.1
 unfold jT jT.b
 refine cm (dI N hN (by omega) hb) (bA (fun _=>ag G.nil) fun _=>au (fun _=>ag G.nil) fun _=>de (fun _=>ag G.nil) fun _=>cm (Du N w.s (by omega) 0 a) (ok_eq (fun _=>ag G.nil) fun _=> ?_))
 have hq:=O8 w.qs 0 a
 generalize ei b.2.2.2.1 0 a=q at*
 refine bh (len:=b.2.2.2.1.length) (F:=fun n i (s:List Int×List Int)=>jT.tt N n a b q s.1 s.2 i) (s:=(_,_)) (fun i s=>s.1.length≤i∧s.2.length=s.1.length∧zE s.1∧zE s.2) ⟨Nat.zero_le _,rfl,(fun x hx=>nomatch hx),fun x hx=>nomatch hx⟩ (by omega) (fun n i s hi hI hr=> ?_) (fun n s hI=> ?_)
 all_goals unfold jT.tt jT.qj
 ·obtain⟨h1,h2,h3,h4⟩:=hI
  have hx:G 0 fU (b.2.2.2.1.getD (i:Int).toNat aS):=G.at hb.2.2.2.1 _
  rw[al (x:=(i:Int)+1) (by omega) (by omega),aa i]
  have h0:=hr s ⟨by omega,h2,h3,h4⟩
  have sn: ∀{l:List Int} {x:Int},zE l→aC x→zE (l++[x]):=fun hl hx y hy=>(List.mem_append.1 hy).elim (hl y) fun hy=>by rw[List.mem_singleton.1 hy];exact hx
  dsimp only
  exact au (fun _=>aw ⟨by omega,by omega⟩ (bI (fun _=>ok_eq (fun _=>pM (fun _=>aF (by rw[List.length_singleton];omega) (aF (by rw[List.length_singleton];omega) (hr (_,_) ⟨by dsimp only;rw[List.length_append,List.length_singleton];omega,by dsimp only;rw[List.length_append,List.length_append,List.length_singleton,List.length_singleton];omega,sn h3 hx.1,sn h4 (vW hx.2.2.1 (dQ _))⟩))) fun _=>h0) fun _=>h0) fun _=>h0)) fun _=>by omega
 ·obtain⟨h1,h2,h3,h4⟩:=hI
  refine au (fun _=>by omega) fun _=>af (MI N hN (vW hq (dQ _)).2 h4 (by omega)) fun z hz=>bI (fun _=>ag G.nil) fun h0=> ?_
  obtain⟨e1,e2⟩:=hz h0
  refine bh (len:=z.1.length) (F:=fun n i u=>jT.ti N n a q s.1 z.1 u i) (fun i u=>L3 (1+i) u) (G.one (m:=1) (G3 aU ha (dQ _)) (Nat.le_refl 1)) (by omega) (fun n i u hi hu hr=> ?_) (fun n u hu=> ?_)
  all_goals unfold jT.ti jT.uX
  ·have X5:=hu.1
   rw[al (x:=(i:Int)+1) (by omega) (by omega),aa i]
   have h0:=hr u (G.mono (by omega) hu)
   have put: ∀x:Int,aC x→Ok (fun r=>L3 (m+1) r.1) (cond (small (u.length+[((s.1.getD (i:Int).toNat 0,(a,(x,()))):cy)].length)) (jT.ti N n a q s.1 z.1 (u++[(s.1.getD (i:Int).toNat 0,(a,(x,())))]) ((i+1:Nat):Int)) none):=fun x hx=>aF (by rw[List.length_singleton];omega) (hr _ (G.mono (by omega) (G.cat hu (G.one (m:=1) (G3 (mP h3 _) ha hx) (Nat.le_refl 1)))))
   dsimp only
   exact au (fun _=>aw ⟨by omega,by omega⟩ (au (fun _=>bI (fun _=>aw ⟨by omega,by omega⟩ (put _ (dQ _))) fun _=>h0) fun _=>bI (fun _=>aw ⟨by omega,by omega⟩ (put _ (mP e2 _))) fun _=>h0)) fun _=>by omega
  ·exact au (fun _=>by omega) fun _=>ag (G.mono (by omega) hu)
theorem S7(N:Nat)(hN:5000000≤N){c:ae}{b:ah}{m:Nat}(h2:200≤m)(hm:m≤7000)(hc:G 5 aq c)(hb:G m aB b):Ok (fun r=>G m aB r.1) (tE N c b):=by
 have D3:=hc.1.1
 unfold tE tE.b
 refine cm (dI N hN (by omega) hb) (bA (fun _=>ag G.ff) fun _=>bh (len:=c.1.length) (F:=fun n i s=>tE.l5 N n c b (bK,(cL,(bp,(bp,(c4,(c9,())))))) s i) (fun i s=>L3 ((m+1)*i) s) G.nil (by omega) (fun n i s hi hI hr=> ?_) (fun n s hI=> ?_))
 all_goals unfold tE.l5 tE.dq
 ·have hs:=hI.1
  have hmi:(m+1)*i≤(m+1)*5:=Nat.mul_le_mul_left _ (by omega)
  rw[al (x:=(i:Int)+1) (by omega) (by omega),aa i]
  exact au (fun _=>af (S6 N hN c (by omega) hb (fN (by omega) (by omega))) fun r QJ=>bI (fun _=>ag G.ff) fun _=>aF (by have:=QJ.1;omega) (hr _ (G.mono (by rw[Nat.mul_succ];omega) (G.cat hI QJ)))) fun _=>by omega
 ·have hmi:(m+1)*c.1.length≤(m+1)*5:=Nat.mul_le_mul_left _ (by omega)
  exact au (fun _=>by omega) fun _=>af (n8 N (by omega) h2 (by omega) hb (G.mono (by omega) hI) fY.nil) fun r hr=>ag hr
end VM
end
section
namespace VM
open Go VM.F
theorem S8(N:Nat)(hN:200000≤N){l:aE}{m:Nat}(hm:m≤50000)(h:G m (.slice df) l)(a:Int):Ok (fun r=>G 0 df r.1) (z2 N l a):=by
 have hl:=h.1
 have hz:G 0 df aN:=G.zero 0 df
 unfold z2 z2.b
 refine cm (q7 N (by omega) hN) (bA (fun _=>ag hz) fun _=>bh (len:=l.length) (F:=fun n i (z:bR×Bool)=>z2.l6 N n l a aN z.1 z.2 i) (s:=(_,_)) (fun _ z=>G 0 df z.1) hz (by omega) (fun n i z hi hI hr=> ?_) (fun n z hI=> ?_))
 all_goals unfold z2.l6 z2.ow
 ·rw[al (x:=(i:Int)+1) (by omega) (by omega),aa i]
  have hx:G 0 df (l.getD (i:Int).toNat aN):=G.at h _
  have h1:=hr z hI
  have h2:=hr (_,true) hx
  repeat' first|exact h1|exact h2|refine aw ⟨by omega,by omega⟩ ?_|refine au (fun _=> ?_) (fun _=> ?_)|refine ok_eq (fun _=> ?_) (fun _=> ?_)|refine bA (fun _=> ?_) (fun _=> ?_)|(exfalso;omega)
 ·exact au (fun _=>by omega) fun _=>ag hI
theorem GL{m:Nat}{a b d e f:Int}{l:ax}(ha:aC a)(hl:L2 m l)(hb:aC b)(hd:aC d)(he:aC e)(hf:aC f):G m fZ (a,(l,(b,(d,(e,(f,())))))):=⟨ha,hl,hb,hd,he,hf,trivial⟩
theorem LL.app{m:Nat}{k:Nat}{l:aX}{x:fV}(hl:l.length≤k∧ ∀y∈l,G m fZ y)(hx:G m fZ x):(l++[x]).length≤k+1∧ ∀y∈l++[x],G m fZ y:=
 ⟨by rw[List.length_append,List.length_singleton];have:=hl.1;omega,fun y hy=>(List.mem_append.1 hy).elim (hl.2 y) fun hy=>by rw[List.mem_singleton.1 hy];exact hx⟩
theorem PS(N:Nat)(hN:5000000≤N)(c:ae){b:ah}{L:aX}{l:aE}{m:Nat}(h2:200≤m)(hm:m≤2000)(hb:G m aB b)(hL:LL m L)(hl:G m (.slice df) l):Ok (fun r=>G m aB r.1∧LL m r.2.1) (ot N c b L l):=by
 have eJ: ∀e:Int,Ok (fun r:ah×aX×Int=>G m aB r.1∧LL m r.2.1) (some ((bK,(cL,(bp,(bp,(c4,(c9,())))))),([],e))):=fun e=>ag ⟨G.ff,G.nil⟩
 have h3:=hL.1
 have h4:=hl.1
 have hw:FK L:=fun y hy=>Nat.le_trans (hL.2 y hy).2.1.1 (by omega)
 unfold ot ot.b
 refine cm (dI N hN (by omega) hb) (bA (fun _=>eJ _) fun _=>cm (zx N (by omega) c (by omega) hw) (bA (fun _=>eJ _) fun hk=>cm (q7 N (by omega) (by omega)) (bA (fun _=>eJ _) fun _=> ?_)))
 have h12:L.length≤12:=by
  unfold I0 at hk
  exact of_decide_eq_true (Bool.and_eq_true_iff.1 (Bool.and_eq_true_iff.1 hk).2).1
 refine bh (len:=L.length) (F:=fun n i (z:aj×bk×aX)=>ot.l7 N n L l b (bK,(cL,(bp,(bp,(c4,(c9,())))))) z.1 z.2.1 z.2.2 i) (s:=(_,(_,_))) (fun i z=>L3 (2*m*i) z.1∧fY (2*i) z.2.1∧z.2.2.length≤i∧ ∀y∈z.2.2,G m fZ y) ⟨G.nil,fY.nil,Nat.zero_le _,fun y hy=>nomatch hy⟩ (by omega) (fun n i z hi hI hr=> ?_) (fun n z hI=> ?_)
 all_goals unfold ot.l7 ot.ll
 ·obtain⟨h5,h6,h7⟩:=hI
  have h8:=h6.1
  have h9:=h7.1
  have hmi:2*m*i≤2*m*12:=Nat.mul_le_mul_left _ (by omega)
  have hms:2*m*(i+1)=2*m*i+2*m:=Nat.mul_succ _ _
  have hx:G m fZ (L.getD (i:Int).toNat ((0:Int),(bK,aN))):=G.at hL _
  have hxl:=hx.2.1.1
  rw[al (x:=(i:Int)+1) (by omega) (by omega),aa i]
  dsimp only
  rw[List.nil_append]
  have put: ∀x:fV,G m fZ x→Ok (fun r=>G m aB r.1∧LL m r.2.1) (cond (small (z.2.2.length+[x].length)) (ot.l7 N n L l b (bK,(cL,(bp,(bp,(c4,(c9,())))))) z.1 z.2.1 (z.2.2++[x]) ((i+1:Nat):Int)) none):=fun x hx=>aF (by rw[List.length_singleton];omega) (hr (z.1,(z.2.1,z.2.2++[x])) ⟨G.mono (by omega) h5,fY.mono h6 (by omega),LL.app h7 hx⟩)
  refine au (fun _=>aw ⟨by omega,by omega⟩ (aF (by rw[List.length_nil];omega) (bI (fun _=>put _ hx) fun _=>af (S8 N (by omega) (by omega) hl _) fun w hw=>bA (fun _=>put _ (GL hx.1 hx.2.1 hx.2.2.1 (show aC 3 from aV) hx.2.2.2.2.1 hx.2.2.2.2.2.1)) fun _=>af (zZ N (by omega) (by omega) hb.2.1 _) fun h hh=>ok_eq (fun _=>eJ _) fun _=>af (sb N (by omega) (by omega) hb _) fun _ _=>ok_eq (fun _=>eJ _) fun _=> ?_))) fun _=>by omega
  have nC:=GL hx.1 hx.2.1 hx.2.2.1 (show aC 2 from aV) hw.2.2.1 hw.2.2.2.1
  generalize hX:(((L.getD (i:Int).toNat ((0:Int),(bK,aN))).1,((L.getD (i:Int).toNat ((0:Int),(bK,aN))).2.1,((L.getD (i:Int).toNat ((0:Int),(bK,aN))).2.2.1,((2:Int),(w.1.2.2.1,(w.1.2.2.2.1,())))))):fV)=X at nC
  have hXl:X.2.1.length≤m:=nC.2.1.1
  refine bh (len:=X.2.1.length) (F:=fun n' j u=>ot.sv N (ot.l7 N n) n' L l b (bK,(cL,(bp,(bp,(c4,(c9,())))))) u z.2.1 z.2.2 (i:Int) X w.1 h j) (s:=z.1) (fun j u=>L3 (2*m*i+2*j) u) h5 (by omega) (fun n' j u hj hu dx=> ?_) (fun n' u hu=> ?_)
  all_goals unfold ot.sv ot.qY
  ·have X5:=hu.1
   have hy:G m gP (X.2.1.getD (j:Int).toNat cc):=G.at nC.2.1 _
   dsimp only
   rw[al (x:=(j:Int)+1) (by omega) (by omega),aa j]
   exact au (fun _=>aw ⟨by omega,by omega⟩ (aw ⟨by omega,by omega⟩ (aw ⟨by omega,by omega⟩ (aw ⟨by omega,by omega⟩ (aF (by rw[sa];omega) (dx _ (G.mono (by omega) (G.cat hu (G.two (m:=2) (G3 aU hy.1 (dQ _)) (G3 hh hy.1 hy.2.1) (Nat.le_refl 2)))))))))) fun _=>by omega
  ·refine au (fun _=>by omega) fun _=>af (aZ N (by omega) hw.2.2.2.1) fun v hv=>af (oa N (by omega) _ _ _ _ (Bg.mono hv (by omega))) fun p hp=>aF (by have:=hp.1;omega) (aF (by rw[List.length_singleton];omega) ?_)
   rw[al (x:=(i:Int)+1) (by omega) (by omega),aa i]
   exact hr (_,(_,_)) ⟨G.mono (by omega) hu,fY.mono (fY.app h6 hp) (by omega),LL.app h7 nC⟩
 ·obtain⟨h5,h6,h7⟩:=hI
  have hmi:2*m*L.length≤2*m*12:=Nat.mul_le_mul_left _ (by omega)
  exact au (fun _=>by omega) fun _=>af (n8 N (by omega) h2 (by omega) hb (G.mono (by omega) h5) (fY.mono h6 (by omega))) fun r hr=>bI (fun _=>eJ _) fun _=>ag ⟨hr,Nat.le_trans h7.1 (by omega),h7.2⟩
end VM
end
section
namespace VM
open Go VM.F
theorem PT{l:aE}(h:lq l=true):l.length≤24:=by
 unfold lq at h
 rw[Bool.and_true]at h
 have h:=of_decide_eq_true h
 have key: ∀i,i<l.length→(i:Int)+1≤(l.getD i aN).1:=by
  intro i
  induction i with
  |zero=>intro hi;exact(h 0 hi).1.1.1
  |succ i ih=>
   intro hi
   have h1:=ih (by omega)
   have h2:(l.getD i aN).1<(l.getD (i+1) aN).1:=(h (i+1) hi).2.1 (by omega)
   have g: ∀a b:Int,(i:Int)+1≤a→a<b→((i+1:Nat):Int)+1≤b:=fun a b h1 h2=>by omega
   exact g _ _ h1 h2
 by_cases hl:l.length≤24
 ·exact hl
 ·have h1:=key 24 (by omega)
  have h2:=(h 24 (by omega)).1.1.2
  have g: ∀a:Int,((24:Nat):Int)+1≤a→a≤24→False:=fun a h1 h2=>by omega
  exact(g _ h1 h2).elim
theorem MJ(N:Nat)(hN:5000000≤N){c:ae}{b:ah}{m:Nat}(hm:m≤40000)(hc:G m aq c)(hb:G m aB b)(a:Int):Ok (fun r=>aC r.1) (S9 N c b a):=by
 unfold S9 PK
 exact cm (dI N hN (by omega) hb) (bA (fun _=>ag aU) fun _=>af (rZ N (by omega) (by omega) hb.2.1 _) fun _ _=>bA (fun _=>ag aU) fun _=>af (F9 N (by omega) (by omega) hb.2.2.2.1 _) fun l hl=>af (Q:=fun r=>Bg 60000 r.1) (af (vX N (by omega) (by omega) hc hl _) fun r hr=>ag hr) fun u hu=>af (sd N (by omega) (by omega) hb _) fun g hg=>de (fun _=>ag aU) fun _=>af (tq N hu) fun v hv=>pM (fun _=>au (fun _=>ag hv) fun _=>ag hg) fun _=>ag hg)
theorem PU(N:Nat)(hN:200000≤N){l:aj}{a d:Int}{m:Nat}(hm:m≤50000)(h:L3 m l)(ha:aC a)(hd:aC d):Ok (fun r=>L3 (2*m) r) (lZ N l a d):=by
 have hl:=h.1
 unfold lZ lZ.b
 refine cm (mo N (by omega) hN) (bA (fun _=>ag G.nil) fun _=>ok_eq (fun _=>ag G.nil) fun _=>au (fun _=>ag G.nil) fun _=>au (fun _=>ag G.nil) fun _=>au (fun _=>ag G.nil) fun _=>au (fun _=>ag G.nil) fun _=>bh (len:=l.length) (F:=fun n i s=>lZ.l5 N n l a d s i) (fun i s=>L3 (2*i) s) G.nil (by omega) (fun n i s hi hI hr=> ?_) (fun n s hI=> ?_))
 all_goals unfold lZ.l5 lZ.dq
 ·have hs:=hI.1
  have hx:=G.at h (i:Int).toNat
  dsimp only
  rw[al (x:=(i:Int)+1) (by omega) (by omega),aa i]
  have h1:=hr s (G.mono (by omega) hI)
  exact au (fun _=>aw ⟨by omega,by omega⟩ (ok_eq (fun _=>aw ⟨by omega,by omega⟩ (aw ⟨by omega,by omega⟩ (aw ⟨by omega,by omega⟩ (aw ⟨by omega,by omega⟩ (aF (by rw[sa];omega) (hr _ (G.mono (by omega) (G.cat hI (G.two (m:=2) (G3 ha hx.2.1 (dQ _)) (G3 hd hx.2.1 hx.2.2.1) (Nat.le_refl 2)))))))))) fun _=>h1)) fun _=>by omega
 ·exact au (fun _=>by omega) fun _=>ag (G.mono (by omega) hI)
theorem Ta(N:Nat)(hN:5000000≤N){c:ae}{b:ah}{m:Nat}(h2:200≤m)(hm:m≤1000)(hc:G m aq c)(hb:G m aB b)(a:Int):Ok (fun r=>G m aB r.1) (fJ N c b a):=by
 unfold fJ fJ.b
 refine cm (dI N hN (by omega) hb) (bA (fun _=>ag G.ff) fun hB=>af (sb N (by omega) (by omega) hb _) fun _ _=>ok_eq (fun _=>ag G.ff) fun _=> ?_)
 have hal:b.2.1.length≤24:=by
  unfold db at hB
  have h1:=(Bool.and_eq_true_iff.1 (Bool.and_eq_true_iff.1 hB).2).1
  unfold qU at h1
  exact PT (Bool.and_eq_true_iff.1 (Bool.and_eq_true_iff.1 h1).2).1
 refine bh (len:=b.2.1.length) (F:=fun n i (z:aj×bk)=>fJ.l8 N n a c b (bK,(cL,(bp,(bp,(c4,(c9,())))))) z.1 z.2 i) (s:=(_,_)) (fun i z=>L3 (2*m*i) z.1∧fY (4*i) z.2) ⟨G.nil,fY.nil⟩ (by omega) (fun n i z hi hI hr=> ?_) (fun n z hI=> ?_)
 all_goals unfold fJ.l8 fJ.yj
 ·obtain⟨h5,h6⟩:=hI
  have h7:=h5.1
  have h8:=h6.1
  have hmi:2*m*i≤2*m*24:=Nat.mul_le_mul_left _ (by omega)
  have hms:2*m*(i+1)=2*m*i+2*m:=Nat.mul_succ _ _
  have hx:G m df (b.2.1.getD (i:Int).toNat aN):=G.at hb.2.1 _
  have hj: ∀p:bk,fY (4*i+2) p→Ok (fun r=>G m aB r.1) (fJ.Bf N (fJ.l8 N n) a c b (bK,(cL,(bp,(bp,(c4,(c9,())))))) z.1 p (i:Int) (b.2.1.getD (i:Int).toNat aN)):=fun p hp=>by
   have CL:=hp.1
   unfold fJ.Bf fJ.tu
   rw[al (x:=(i:Int)+1) (by omega) (by omega),aa i]
   exact af (sd N (by omega) (by omega) hb _) fun g hg=>au (fun _=>af (aZ N (by omega) hg) fun v hv=>af (oU N (by omega) (by omega) hv) fun v hv=>af (oa N (by omega) _ _ _ _ (Bg.mono hv (by omega))) fun u hu=>aF (by have:=hu.1;omega) (af (PU N (by omega) (by omega) hb.2.2.2.1 hx.1 aU) fun s hs=>aF (by have:=hs.1;omega) (hr (_,_) ⟨G.mono (by omega) (G.cat h5 hs),fY.mono (fY.app hp hu) (by omega)⟩))) fun _=>af (PU N (by omega) (by omega) hb.2.2.2.1 hx.1 aU) fun s hs=>aF (by have:=hs.1;omega) (hr (_,_) ⟨G.mono (by omega) (G.cat h5 hs),fY.mono hp (by omega)⟩)
  rw[al (x:=(i:Int)+1) (by omega) (by omega),aa i]
  exact au (fun _=>aw ⟨by omega,by omega⟩ (bI (fun _=>hr z ⟨G.mono (by omega) h5,fY.mono h6 (by omega)⟩) fun _=>ok_eq (fun _=>af (MJ N hN (by omega) hc hb _) fun q hq=>af (aZ N (by omega) hq) fun v hv=>af (oa N (by omega) _ _ _ _ (Bg.mono hv (by omega))) fun u hu=>aF (by have:=hu.1;omega) (hj _ (fY.mono (fY.app h6 hu) (by omega)))) fun _=>hj _ (fY.mono h6 (by omega)))) fun _=>by omega
 ·obtain⟨h5,h6⟩:=hI
  have hmi:2*m*b.2.1.length≤2*m*24:=Nat.mul_le_mul_left _ (by omega)
  exact au (fun _=>by omega) fun _=>af (n8 N (by omega) h2 (by omega) hb (G.mono (by omega) h5) (fY.mono h6 (by omega))) fun r hr=>ag hr
abbrev GS(m:Nat)(s:aO):Prop:=G m cF s
abbrev SR(m:Nat)(r:aO×cy):Prop:=GS m r.1
theorem DK(N:Nat)(e:Int):Ok (fun _=>True) (dS N e):=by
 unfold dS;exact dp
theorem MK(N:Nat)(hN:5000000≤N){c:ae}{s:aO}{e:fA}{m:Nat}(h2:200≤m)(hm:m≤1000)(hc:G m aq c)(hs:GS m s)(he:G 0 mu e):Ok (SR m) (np N c s e):=by
 have hhl:=hs.2.2.2.1.2.2.2.2.1.1
 unfold np np.b
 generalize ((0:Int),((0:Int),_))=S0
 refine bh (len:=s.2.2.2.1.2.2.2.2.1.length) (F:=fun n i (z:aO×aE×Bool×Int)=>np.l5 N n c z.1 e S0 aS z.2.1 z.2.2.1 z.2.2.2 i) (s:=(_,(_,(_,_)))) (fun i z=>GS m z.1∧z.1.2.2.2.1.2.2.2.2.1=s.2.2.2.1.2.2.2.2.1∧G i (.slice df) z.2.1) ⟨hs,rfl,G.nil⟩ (by omega) (fun n i z hi hI hr=> ?_) (fun n z hI=> ?_)
 all_goals unfold np.l5 np.dq
 ·obtain⟨hz,hh,ho⟩:=hI
  have D6:=ho.1
  rw[hh,al (x:=(i:Int)+1) (by omega) (by omega),aa i]
  have hx:G 0 df (s.2.2.2.1.2.2.2.2.1.getD (i:Int).toNat aN):=G.at hs.2.2.2.1.2.2.2.2.1 _
  refine au (fun _=>aw ⟨by omega,by omega⟩ (ok_eq (fun _=>af (SI N hN h2 (by omega) hc hz.2.2.1 (G.mono (Nat.zero_le m) hx) he.2.2.1 he.2.2.2.2.2.2.1 he.2.2.2.2.2.2.2.1) fun r ⟨C2,D2⟩=>bI (fun _=>af (DK N _) fun _ _=>ag hz) fun _=> ?_) fun _=>au (fun _=>aF (by rw[List.length_singleton];omega) (hr (z.1,(z.2.1++[s.2.2.2.1.2.2.2.2.1.getD (i:Int).toNat aN],z.2.2)) ⟨hz,hh,G.cat ho (G.one hx (Nat.le_refl 1))⟩)) fun _=>hr z ⟨hz,hh,G.mono (by omega) ho⟩)) fun _=>by omega
  have Az:GS m (z.1.1,(z.1.2.1,(r.1,z.1.2.2.2))):=⟨hz.1,hz.2.1,C2,hz.2.2.2⟩
  have akR:G 0 df r.2.1:=D2
  exact au (fun _=>aF (by rw[List.length_singleton];omega) (hr ((z.1.1,(z.1.2.1,(r.1,z.1.2.2.2))),(z.2.1++[r.2.1],(true,r.2.1.2.2.2.1))) ⟨Az,hh,G.cat ho (G.one akR (Nat.le_refl 1))⟩)) fun _=>hr ((z.1.1,(z.1.2.1,(r.1,z.1.2.2.2))),(z.2.1,(true,r.2.1.2.2.2.1))) ⟨Az,hh,G.mono (by omega) ho⟩
 ·obtain⟨hz,hh,ho⟩:=hI
  rw[hh]
  exact au (fun _=>by omega) fun _=>bA (fun _=>af (DK N _) fun _ _=>ag hz) fun _=>ag ⟨hz.1,hz.2.1,hz.2.2.1,⟨hz.2.2.2.1.1,hz.2.2.2.1.2.1,hz.2.2.2.1.2.2.1,hz.2.2.2.1.2.2.2.1,G.mono hhl ho,hz.2.2.2.1.2.2.2.2.2⟩,hz.2.2.2.2⟩
end VM
end
