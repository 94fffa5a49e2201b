/- A part of the proof of TearDrawn of layer 29: what the functions compute, in plain words. -/
import Derived.Test.YtocmlaipoebfeaaGreatPlain5
set_option linter.all false
section
namespace VM
open Go VM.F
theorem G6q{m:Nat}{x:fJ}{q:Int}(h:G m jM x)(hq:aC q):G m jM (x.1,(x.2.1,(x.2.2.1,(x.2.2.2.1,(q,x.2.2.2.2.2))))):=⟨h.1,h.2.1,h.2.2.1,h.2.2.2.1,hq,h.2.2.2.2.2⟩
theorem RQ(N:Nat)(hN:200000≤N){l:aW}{m:Nat}(hm:m≤50000)(h:L6 m l)(a d:Int):Ok (fun r=>L6 m r) (db N l a d):=by
 have hl:=h.1
 unfold db db.b
 refine cW (mG N (by omega) hN) (b8 (fun _=>aj G.nil) fun _=>bz (len:=l.length) (F:=fun n i s=>db.l5 N n l a d s i) (fun i s=>L6 i s) G.nil (by omega) (fun n i s hi hI hr=> ?_) (fun n s hI=> ?_))
 all_goals unfold db.l5 db.dp
 ·have hs:=hI.1
  have hx:G 0 jM (l.getD (i:Int).toNat eG):=G.at h _
  have fin: ∀k:Nat,k≤s.length→Ok (fun r=>L6 m r) (db.Hw N (db.l5 N n) l a d s (i:Int) (k:Int)):=fun k hk=>by
   unfold db.Hw db.zB
   rw[an (x:=(i:Int)+1) (by omega) (by omega),aa i]
   dsimp only
   have t: ∀a b:Nat,(List.drop a (List.take b s)).length≤s.length:=fun a b=>by rw[List.length_drop,List.length_take];omega
   have t1:=t (0:Int).toNat (k:Int).toNat
   have t2:=t (k:Int).toNat (s.length:Int).toNat
   refine Dc ⟨by omega,by omega,by omega,by omega⟩ (aK (by omega) (aA ⟨by omega,by omega⟩ (aK (by rw[List.length_singleton];omega) (Dc ⟨by omega,by omega,by omega,by omega⟩ (aK (by rw[List.length_append,List.length_singleton];omega) (hr _ ?_))))))
   simpa using G.ins hI (G.mono (Nat.zero_le i) hx) k 0 k (Nat.le_refl _)
  have h1:=hr s (G.mono (by omega) hI)
  have hw:Ok (fun r=>L6 m r) (db.l9 N (db.l5 N n) N l a d s (i:Int) 0):=by
   refine kt (len:=s.length) (F:=fun n' j=>db.l9 N (db.l5 N n) n' l a d s (i:Int) j) (by omega) (fun n' j hj eg=> ?_) (fun n'=> ?_)
   all_goals unfold db.l9 db.vl
   ·rw[an (x:=(j:Int)+1) (by omega) (by omega),aa j]
    have hah: ∀x y:fJ,Ok (fun _=>True) (RS N x y):=fun x y=>by unfold RS;exact cH (fun _=>fc) fun _=>fc
    exact aw (fun _=>aA ⟨by omega,by omega⟩ (aA ⟨by omega,by omega⟩ (af (hah _ _) fun _ _=>rW (fun _=>eg) fun _=>fin j (by omega)))) fun _=>by omega
   ·exact aw (fun _=>by omega) fun _=>fin _ (Nat.le_refl _)
  rw[an (x:=(i:Int)+1) (by omega) (by omega),aa i]
  repeat' first|exact h1|exact hw|refine aA ⟨by omega,by omega⟩ ?_|refine aw (fun _=> ?_) (fun _=> ?_)|refine cH (fun _=> ?_) (fun _=> ?_)|(exfalso;omega)
 ·exact aw (fun _=>by omega) fun _=>aj (G.mono hl hI)
theorem OL(N:Nat)(hN:200000≤N){l:aW}{o:fJ}{m:Nat}(hm:m≤50000)(h:L6 m l)(ho:G 0 jM o):Ok (fun r=>L6 m r.1∧aC r.2.2.1) (bH N l o):=by
 have hl:=h.1
 have fin: ∀(s:aW) (q:Int) (t:ba),L6 m s→aC q→Ok (fun r=>L6 m r.1∧aC r.2.2.1) (bH.j22 N s q t):=fun s q t hs hq=>by
  have hsl:=hs.1
  unfold bH.j22 bH.Y1
  refine bz (len:=s.length) (F:=fun n i u=>bH.xN N n s q t u i) (fun i u=>L6 i u) G.nil (by omega) (fun n i u hi hI hr=> ?_) (fun n u hI=> ?_)
  all_goals unfold bH.xN bH.yQ
  ·have hu:=hI.1
   have hx:G 0 jM (s.getD (i:Int).toNat eG):=G.at hs _
   rw[an (x:=(i:Int)+1) (by omega) (by omega),aa i]
   have h1:=hr u (G.mono (by omega) hI)
   have h2:=hr _ (G.cat hI (G.one hx (Nat.le_refl 1)))
   repeat' first|exact h1|exact h2|refine aK (by rw[List.length_singleton];omega) ?_|refine aA ⟨by omega,by omega⟩ ?_|refine aw (fun _=> ?_) (fun _=> ?_)|(exfalso;omega)
  ·exact aw (fun _=>by omega) fun _=>aj ⟨G.mono hsl hI,hq⟩
 have fK:Ok (fun r:aW×ba×Int×Int=>L6 m r.1∧aC r.2.2.1) (some ([],[],(0:Int),(1:Int))):=aj ⟨G.nil,bl⟩
 unfold bH bH.b
 refine cW (mG N (by omega) hN) (b8 (fun _=>fK) fun _=>cW (xQ N o) (b8 (fun _=>fK) fun _=>aK (by rw[List.length_nil];omega) (af (RQ N hN hm h _ _) fun w hw=> ?_)))
 have hwl:=hw.1
 rw[List.nil_append]
 refine bz (len:=w.length) (F:=fun n i (s:aW×Int×ba)=>bH.l7 N n o s.1 s.2.1 s.2.2 w i) (s:=(_,(_,_))) (fun i s=>L6 m s.1∧aC s.2.1∧s.2.2.length≤i) ⟨h,ho.2.2.2.2.1,Nat.zero_le _⟩ (by omega) (fun n i s hi hI hr=> ?_) (fun n s hI=> ?_)
 all_goals unfold bH.l7 bH.lC
 ·obtain⟨hs,hq,ht⟩:=hI
  have f1:=fin s.1 s.2.1 s.2.2 hs hq
  have akk: ∀(v:Int) (t:uy),Ok (fun r=>L6 m r.1∧aC r.2.2.1) (bH.AN N (bH.l7 N n) o s.1 s.2.1 s.2.2 w (i:Int) v t):=fun v t=>by
   unfold bH.AN bH.s5
   refine aK (by rw[List.length_singleton];omega) (bz (len:=s.1.length) (F:=fun n' j u=>bH.xr N (bH.l7 N n) n' o u (W .i64 (s.2.1-v)) (s.2.2++[t]) w (i:Int) v j) (fun _ u=>u.length=s.1.length∧L6 m u) ⟨rfl,hs⟩ (by have:=hs.1;omega) (fun n' j u hj hJ eg=> ?_) (fun n' u hJ=> ?_))
   all_goals unfold bH.xr bH.uH
   ·have hsl:=hs.1
    have Y2:=hJ.1
    rw[an (x:=(j:Int)+1) (by omega) (by omega),aa j]
    exact aw (fun _=>aA ⟨by omega,by omega⟩ (aA ⟨by omega,by omega⟩ (ok_eq (fun _=>aA ⟨by omega,by omega⟩ (aA ⟨by omega,by omega⟩ (eg _ ⟨by rw[List.length_set];exact Y2,G.set hJ.2 (G6q (G.at hJ.2 _) (e9 _)) _⟩))) fun _=>eg u hJ))) fun _=>by omega
   ·have Y2:=hJ.1
    rw[an (x:=(i:Int)+1) (by omega) (by omega),aa i]
    exact aw (fun _=>by omega) fun _=>hr (_,(_,_)) ⟨hJ.2,e9 _,by dsimp only;rw[List.length_append,List.length_singleton];omega⟩
  have RT:Ok (fun r=>L6 m r.1∧aC r.2.2.1) (bH.OM N (bH.l7 N n) o s.1 s.2.1 s.2.2 w (i:Int)):=by
   unfold bH.OM bH.IM
   rw[an (x:=(i:Int)+1) (by omega) (by omega),aa i]
   dsimp only
   have h1:=hr s ⟨hs,hq,by omega⟩
   repeat' first|exact h1|exact akk _ _|refine aA ⟨by omega,by omega⟩ ?_|refine ok_eq (fun _=> ?_) (fun _=> ?_)
  repeat' first|exact f1|exact RT|refine aA ⟨by omega,by omega⟩ ?_|refine aw (fun _=> ?_) (fun _=> ?_)|refine ok_eq (fun _=> ?_) (fun _=> ?_)|(exfalso;omega)
 ·exact aw (fun _=>by omega) fun _=>fin _ _ _ hI.1 hI.2.1
theorem aet(N:Nat)(hN:5000000≤N){c:ae}{b:ag}{o:fJ}{m:Nat}(h2:200≤m)(hm:m≤40000)(hc:G m ar c)(hb:G m aB b)(ho:G 0 jM o):Ok (fun r=>G (m+1) aB r.1) (jb N c b o):=by
 have Ev:=hb.2.2.2.2.2.1.1
 have fK: ∀(t:ba) (e:Int),Ok (fun r:ag×ba×Int×Int=>G (m+1) aB r.1) (some ((bN,(cI,(bq,(bq,(c3,(de,())))))),(t,((0:Int),e)))):=fun t e=>aj (G.zero (m+1) aB)
 have RT: ∀(r:aW) (t:ba) (q:Int),L6 m r→aC q→Ok (fun r=>G (m+1) aB r.1) (jb.OM N c b o (bN,(cI,(bq,(bq,(c3,(de,())))))) r t q):=fun r t q hr hq=>by
  have HH:=hr.1
  unfold jb.OM jb.IM
  have hx:G 0 jM (o.1,(o.2.1,(o.2.2.1,(o.2.2.2.1,(q,o.2.2.2.2.2))))):=G6q ho hq
  exact af (BT N hN c h2 (by omega) hb) fun z hz=>cH (fun _=>fK _ _) fun _=>by
   have xI:G (m+1) aB z.1:=G.mono (by omega) hz
   exact aw (fun _=>aK (by rw[List.length_singleton];omega) (aj ⟨xI.1,xI.2.1,xI.2.2.1,xI.2.2.2.1,xI.2.2.2.2.1,G.cat hr (G.one hx (Nat.le_refl 1)),trivial⟩)) fun _=>aj ⟨xI.1,xI.2.1,xI.2.2.1,xI.2.2.2.1,xI.2.2.2.2.1,G.mono (by omega) hr,trivial⟩
 have hj7:Ok (fun r=>G (m+1) aB r.1) (jb.j7 N c b o (bN,(cI,(bq,(bq,(c3,(de,()))))))):=by
  unfold jb.j7 jb.H4
  exact af (OL N (by omega) (by omega) hb.2.2.2.2.2.1 ho) fun z hz=>aw (fun _=>ok_eq (fun _=>fK _ _) fun _=>RT _ _ _ hz.1 hz.2) fun _=>RT _ _ _ hz.1 hz.2
 unfold jb jb.b
 refine af (FJ N hN h2 hm hc hb (G.mono (Nat.zero_le m) ho)) fun e _=>cH (fun _=>fK _ _) fun _=>aw (fun h0=> ?_) fun _=>hj7
 dsimp only
 exact aA (by rw[an (by omega) (by omega)];omega) (dC (fun _=>fK _ _) fun _=>hj7)
end VM
end
section
namespace VM
open Go VM.F
theorem Y3(N:Nat)(a:Int):Ok (fun _=>True) (IJ N a):=by
 unfold IJ
 exact ok_eq (fun _=>fc) fun _=>fc
theorem gU.one{k n:Int}{x:au}{m:Nat}(h:Bg m x)(hm:m≤8):gU 1 [(k,(n,(x,())))]:=⟨Nat.le_refl 1,fun y hy=>by rw[List.mem_singleton.1 hy];exact Bg.mono h hm⟩
theorem ON(N:Nat)(hN:4000000≤N){l:ah}{m:Nat}(hm:m≤50000)(h:L3 m l)(i a b:Int):Ok (fun r=>gU m r.1) (mU N l i a b):=by
 have hl:=h.1
 unfold mU mU.b
 have p64: ∀p:Int,decide (1≤p∧p≤1000000000000)=true→aC p:=fun p h=>by have:=of_decide_eq_true h;unfold aC;omega
 refine cW (lY N (by omega) (by omega)) (b8 (fun _=>aj gU.nil) fun _=>cW (iO N _) (b8 (fun _=>aj gU.nil) fun ha=>cW (iO N _) (b8 (fun _=>aj gU.nil) fun hb=>af (bf N hN (p64 _ hb)) fun x hx=>af (bf N hN (p64 _ ha)) fun y hy=>af (xY N hN (by omega) hx hy) fun z hz=>bz (len:=l.length) (F:=fun n j s=>mU.l6 N n l i s z j) (fun j s=>gU j s) gU.nil (by omega) (fun n j s hj hI hr=> ?_) (fun n s hI=> ?_))))
 all_goals unfold mU.l6 mU.oI
 ·have hs:=hI.1
  rw[an (x:=(j:Int)+1) (by omega) (by omega),aa j]
  have h1:=hr s (gU.mono hI (by omega))
  exact aw (fun _=>aA ⟨by omega,by omega⟩ (cH (fun _=>h1) fun _=>af (xZ N hz) fun _ _=>ok_eq (fun _=>h1) fun _=>aA ⟨by omega,by omega⟩ (af (Y3 N _) fun _ _=>aA ⟨by omega,by omega⟩ (af (bf N hN (G.at h _).2.2.1) fun v hv=>af (kN N hN (by omega) (by omega) hv hz) fun u hu=>aK (by rw[List.length_singleton];omega) (hr _ (gU.app hI (gU.one hu (by omega)))))))) fun _=>by omega
 ·exact aw (fun _=>by omega) fun _=>aj (gU.mono hI (by omega))
theorem WY(N:Nat)(hN:5000000≤N)(c:ae){b:ag}{m:Nat}(h2:200≤m)(hm:m≤50000)(hb:G m aB b)(i:Int){p:Int}(hp:aC p):Ok (fun r=>G m aB r.1∧gU m r.2.1) (RU N c b i p):=by
 have fK: ∀e:Int,Ok (fun r:ag×bk×Int=>G m aB r.1∧gU m r.2.1) (some ((bN,(cI,(bq,(bq,(c3,(de,())))))),([],e))):=fun e=>aj ⟨G.fh,gU.nil⟩
 have Cm:=hb.2.2.2.2.1.1
 unfold RU
 refine cW (ea N hN hm hb) (b8 (fun _=>fK _) fun hB=>cW (iO N _) (b8 (fun _=>fK _) fun _=>aw (fun _=>fK _) fun h0=>dC (fun _=>fK _) fun h1=> ?_))
 obtain⟨WM,_⟩:=ig hB
 dsimp only
 rw[List.nil_append]
 exact aA ⟨h0,by rw[WM];exact h1⟩ (af (ON N (by omega) hm hb.2.2.2.1 _ _ _) fun f hf=>af (pq N (by omega) h2 hm hb G.nil (gU.mono hf hm)) fun r hr=>cH (fun _=>fK _) fun _=>aK (by rw[List.length_nil];omega) (aA ⟨h0,by rw[WM];exact h1⟩ (aj ⟨⟨hr.1,hr.2.1,hr.2.2.1,hr.2.2.2.1,G.set hb.2.2.2.2.1 hp _,hr.2.2.2.2.2⟩,hf⟩)))
abbrev L2(m:Nat)(l:av):Prop:=G m (.slice g5) l
theorem G2{m:Nat}{a b:Int}(ha:aC a)(hb:aC b):G m g5 (a,(b,())):=⟨ha,hb,trivial⟩
theorem BV(N:Nat)(hN:200000≤N){l:av}(hl:l.length≤100000):Ok (fun _=>True) (lM N l):=by
 unfold lM lM.b
 refine kt (len:=l.length) (F:=fun n i=>lM.l2 N n l i) (by omega) (fun n i hi hr=> ?_) (fun n=> ?_)
 all_goals unfold lM.l2 lM.ec
 ·rw[an (x:=(i:Int)+1) (by omega) (by omega),aa i]
  dsimp only
  repeat' first|exact hr|exact fc|refine aA ⟨by omega,by omega⟩ ?_|refine aA (by rw[an (x:=(i:Int)-1) (by omega) (by omega)];omega) ?_|refine aw (fun _=> ?_) (fun _=> ?_)|refine dC (fun _=> ?_) (fun _=> ?_)|refine ok_eq (fun _=> ?_) (fun _=> ?_)|(exfalso;omega)
 ·exact aw (fun _=>by omega) fun _=>fc
theorem aeu(N:Nat)(hN:4000000≤N){g:av}{p:bk}{m:Nat}(h2:200≤m)(hm:m≤50000)(h:L2 m g)(hp:gU m p):Ok (fun r=>L2 m r.1) (c4 N g p):=by
 have hl:=h.1
 have Cm:=hp.1
 unfold c4 c4.b
 refine af (BV N (by omega) (by omega)) fun _ _=>b8 (fun _=>aj G.nil) fun _=>jC (len:=25) (F:=fun n i s=>c4.l5 N n g p s i) (fun i s=>L2 i s) (fun n i s hi hI hr=> ?_) (fun n s hI=> ?_) 25 N 1 [] (by omega) (by omega) (by omega) G.nil
 all_goals unfold c4.l5 c4.dp
 ·have hs:=hI.1
  refine dC (fun _=> ?_) fun _=>by omega
  refine bz (len:=g.length) (F:=fun n' j t=>c4.l9 N (c4.l5 N n) n' g p s (i:Int) t j) (fun _ t=>Bg 2 t) (Dd (by omega)) (by omega) (fun n' j t hj ht eg=> ?_) (fun n' t ht=> ?_)
  all_goals unfold c4.l9 c4.vl
  ·rw[an (x:=(j:Int)+1) (by omega) (by omega),aa j]
   exact aw (fun _=>aA ⟨by omega,by omega⟩ (ok_eq (fun _=>aA ⟨by omega,by omega⟩ (af (bf N hN (G.at h _).2.1) fun r hr=>eg r hr)) fun _=>eg t ht)) fun _=>by omega
  ·refine aw (fun _=>by omega) fun _=> ?_
   refine bz (len:=p.length) (F:=fun BS j t=>c4.DJ N (c4.l5 N n) BS g p s (i:Int) t j) (fun j t=>Bg (8+j) t) (Bg.mono ht (by omega)) (by omega) (fun BS j t hj ht eg=> ?_) (fun BS t ht=> ?_)
   all_goals unfold c4.DJ c4.AJ
   ·rw[an (x:=(j:Int)+1) (by omega) (by omega),aa j]
    have h1:=eg t (Bg.mono ht (by omega))
    exact aw (fun _=>aA ⟨by omega,by omega⟩ (ok_eq (fun _=>aA ⟨by omega,by omega⟩ (ok_eq (fun _=>aA ⟨by omega,by omega⟩ (af (gJ N hN (by omega) ht (Bg.mono (hp.at _) (by omega))) fun r hr=>eg r (Bg.mono hr (by omega)))) fun _=>h1)) fun _=>h1)) fun _=>by omega
   ·rw[an (x:=(i:Int)+1) (by omega) (by omega),aa i]
    exact aw (fun _=>by omega) fun _=>af (s3 N ht) fun v hv=>b8 (fun _=>aj G.nil) fun _=>cH (fun _=>aK (by rw[List.length_singleton];omega) (hr _ (G.cat hI (G.one (m:=1) (G2 (gl (by omega) (by omega)) hv) (Nat.le_refl 1))))) fun _=>hr s (G.mono (by omega) hI)
 ·exact dC (fun _=>by omega) fun _=>aj (G.mono (by omega) hI)
theorem pz(N:Nat)(hN:4000000≤N)(a b c d:Int){x:au}(h:Bg 8 x):Ok (fun r=>gU 2 r) (zC N a b c d x):=by
 unfold zC
 exact af (rJ N hN (by omega) h) fun y hy=>aj ⟨Nat.le_refl 2,fun z hz=>by
  rcases List.mem_cons.1 hz with rfl|hz
  ·exact hy
  ·rw[List.mem_singleton.1 hz];exact h⟩
theorem WZ(N:Nat)(hN:5000000≤N){c:ae}{b:ag}{m:Nat}(h2:200≤m)(hm:m≤40000)(hc:G m ar c)(hb:G m aB b)(a:Int){q:Int}(hq:aC q):Ok (fun r=>G m aB r.1) (RV N c b a q):=by
 unfold RV
 exact cW (ea N hN (by omega) hb) (b8 (fun _=>aj G.fh) fun _=>aw (fun _=>aj G.fh) fun _=>af (rK N (by omega) (by omega) hb.2.1 _) fun _ _=>b8 (fun _=>aj G.fh) fun _=>af (lZ N (by omega) (by omega) hb.1 _) fun _ _=>cH (fun _=>aj G.fh) fun _=>af (nY N (by omega) (by omega) hb.2.2.1 _ _) fun g hg=>af (bf N (by omega) hg) fun x hx=>af (bf N (by omega) hq) fun y hy=>af (xY N (by omega) (by omega) hx hy) fun z hz=>af (FI N (by omega) h2 hm hc hb (Nat.zero_le _) _) fun w hw=>af (s0 N (by omega) (by omega) (by omega) hz hw) fun _ _=>aw (fun _=>aj G.fh) fun _=>af (bf N (by omega) hq) fun y hy=>af (pz N (by omega) _ _ _ _ (Bg.mono hy (by omega))) fun p hp=>af (pq N (by omega) h2 (by omega) hb G.nil (gU.mono hp (by omega))) fun r hr=>aj hr)
theorem Y4(N:Nat)(hN:1000≤N){c:ae}(hc:G 5 ar c):Ok (fun r=>G 5 aB r.1) (gL N c):=by
 have hl:=hc.1.1
 unfold gL gL.b
 have hj: ∀b:ag,G 5 aB b→Ok (fun r=>G 5 aB r.1) (gL.j6 N c (bN,(cI,(bq,(bq,(c3,(de,())))))) b []):=fun b hb=>by
  unfold gL.j6 gL.Mk
  obtain⟨b1,b2,b3,b4,b5,b6⟩:=b
  refine bz (len:=c.1.length) (F:=fun n i (z:ag×List Int)=>gL.l7 N n c (bN,(cI,(bq,(bq,(c3,(de,())))))) z.1 z.2 i) (s:=((b1,(b2,(b3,(b4,(b5,b6))))),_)) (fun i z=>G 5 aB z.1∧G i (.slice (.int .i64)) z.2) ⟨hb,G.nil⟩ (by omega) (fun n i z hi hI hr=> ?_) (fun n z hI=> ?_)
  all_goals unfold gL.l7 gL.lC
  ·have hz:=hI.2.1
   rw[an (x:=(i:Int)+1) (by omega) (by omega),aa i]
   have hx:G 0 (.int .i64) (c.1.getD (i:Int).toNat aS).2.1:=(G.at hc.1 _).2.1
   exact aw (fun _=>aA ⟨by omega,by omega⟩ (aK (by rw[List.length_singleton];omega) (hr (_,_) ⟨⟨hI.1.1,hI.1.2.1,hI.1.2.2.1,hI.1.2.2.2.1,G.nil,hI.1.2.2.2.2.2⟩,G.cat hI.2 (G.one hx (Nat.le_refl 1))⟩))) fun _=>by omega
  ·exact aw (fun _=>by omega) fun _=>aj ⟨hI.1.1,hI.1.2.1,hI.1.2.2.1,hI.1.2.2.2.1,G.mono hl hI.2,hI.1.2.2.2.2.2⟩
 have PJ:L3 5 [((1:Int),((0:Int),(W .i64 (0-c.2.1),()))),((3:Int),((0:Int),(c.2.1,())))]:=G.two (G3 (show aC 1 from a8) bl (e9 _)) (G3 (show aC 3 from a8) bl hc.2.1) (by decide)
 exact cW (ow N (by omega) c) (b8 (fun _=>aj G.fh) fun _=>cH (fun _=>hj _ ⟨G.nil,G.nil,PJ,G.nil,G.nil,G.nil,trivial⟩) fun _=>hj _ G.fh)
end VM
end
section
namespace VM
open Go VM.F
theorem vB(N:Nat)(hN:4000000≤N){c:ae}{l:av}{m:Nat}(hm:m≤50000)(hc:G m ar c)(hl:L2 m l)(f:Bool):Ok (fun r=>Bg 60000 r.1) (ld N c l f):=by
 have h1:=hl.1
 unfold ld ld.b
 refine cW (ui N (by omega) c (by omega)) (b8 (fun _=>aj (Dd (by omega))) fun hk=>bz (len:=l.length) (F:=fun n i t=>ld.l5 N n l f c (false,(([]:List Int),())) t i) (fun i t=>Bg (8+i) t) (Dd (by omega)) (by omega) (fun n i t hi ht hr=> ?_) (fun n t ht=> ?_))
 all_goals unfold ld.l5 ld.dp
 ·rw[an (x:=(i:Int)+1) (by omega) (by omega),aa i,Int.toNat_natCast]
  unfold CS at hk
  have hp:=of_decide_eq_true (Bool.and_eq_true_iff.1 hk).1 i hi
  unfold qJ qI at hp
  have in1: ∀{x y:Option (au×Int)},Ok (fun r=>Bg 60000 r.1) x→Ok (fun r=>Bg 60000 r.1) (cond (aI (l.getD i ca).1 c.1.length) x y):=fun h=>aA ⟨hp.1,hp.2.1⟩ h
  have hw: ∀q:Int,aC q→Ok (fun r=>Bg 60000 r.1) ((gf N (l.getD i ca).2.1).bind fun r3=>(ND N r3).bind fun r4=>(gf N q).bind fun r5=>(fR N r4 r5).bind fun r6=>(tP N t r6).bind fun r7=>ld.l5 N n l f c (false,(([]:List Int),())) r7 ((i+1:Nat):Int)):=fun q hq=>
   af (bf N hN (G.at hl i).2.1) fun x hx=>af (qR N hN (by omega) hx) fun x hx=>af (bf N hN hq) fun y hy=>af (kN N hN (by omega) (by omega) hx hy) fun z hz=>af (gJ N hN (by omega) ht (Bg.mono hz (by omega))) fun u hu=>hr u (Bg.mono hu (by omega))
  exact aw (fun _=>aA ⟨by omega,by omega⟩ (in1 (rW (fun _=>aA ⟨by omega,by omega⟩ (in1 (aA ⟨by omega,by omega⟩ (hw _ (G.at hc.1 _).2.2.2.1)))) fun _=>aA ⟨by omega,by omega⟩ (hw _ (G.at hc.1 _).2.2.1)))) fun _=>by omega
 ·exact aw (fun _=>by omega) fun _=>aj (Bg.mono ht (by omega))
theorem BW(N:Nat)(hN:200000≤N){b:ag}{m:Nat}(hm:m≤50000)(hb:G m aB b)(id:Int):Ok (fun _=>True) (Dh N b id):=by
 unfold Dh
 exact af (lZ N hN hm hb.1 _) fun _ _=>fc
theorem vC(N:Nat)(hN:200000≤N){b:ag}{m:Nat}(hm:m≤50000)(hb:G m aB b)(id:Int):Ok aC (IN N b id):=by
 unfold IN
 exact af (nY N hN hm hb.2.2.1 _ _) fun r hr=>aj hr
theorem aiq(N:Nat)(hN:5000000≤N){c:ae}{b:ag}{m:Nat}(hm:m≤40000)(hc:G m ar c)(hb:G m aB b)(f:Int){to:Int}(hto:aC to)(a:Int):Ok (fun r=>G m aB r.1) (RW N c b f to a):=by
 have HX:Ok (fun _=>True) (RX N c b f to a):=by
  unfold RX Y5
  have mb:=fun id=>BW N (by omega) (by omega) hb id
  exact cW (ea N hN (by omega) hb) (b8 (fun _=>fc) fun _=>af (rK N (by omega) (by omega) hb.2.1 _) fun _ _=>b8 (fun _=>fc) fun _=>af (mb _) fun _ _=>ok_eq (fun _=>fc) fun _=>af (mb _) fun _ _=>ok_eq (fun _=>fc) fun _=>cH (fun _=>fc) fun _=>cH (fun _=>fc) fun _=>af (mb _) fun _ _=>cH (fun _=>fc) fun _=>af (Kf N (by omega) (by omega) hb.2.2.2.1 _) fun l hl=>af (Q:=fun r=>Bg 60000 r.1) (af (vB N (by omega) (by omega) hc hl _) fun r hr=>aj hr) fun u hu=>af (vC N (by omega) (by omega) hb _) fun g hg=>af (bf N (by omega) hg) fun x hx=>af (s0 N (by omega) (by omega) (by omega) hx hu) fun _ _=>aw (fun _=>fc) fun _=>fc)
 unfold RW
 exact af HX fun _ _=>cH (fun _=>aj G.fh) fun _=>af (IL N (by omega) (by omega) hb.1 hb.2.1 hto) fun r hr=>cH (fun _=>aj G.fh) fun _=>aj ⟨hb.1,hr,hb.2.2⟩
theorem LJ(N:Nat)(hN:4000000≤N){x:au}{q:Int}(hx:Bg 60000 x)(hq:aC q):Ok (fun r=>0≤r∧r≤3) (mV N x q):=by
 unfold mV mV.b
 refine af (xZ N hx) fun _ _=>dC (fun _=>aj (by decide)) fun _=>aw (fun _=>aj (by decide)) fun _=>jC (len:=3) (F:=fun n i (_:Unit)=>mV.l4 N n q x i) (fun _ _=>True) (fun n i _ hi _ hr=> ?_) (fun n _ _=> ?_) 3 N 1 () (by omega) (by omega) (by omega) trivial
 all_goals unfold mV.l4 mV.cj
 ·rw[an (x:=(i:Int)+1) (by omega) (by omega),aa i]
  exact aw (fun _=>af (bf N hN (gl (by omega) (by omega))) fun a ha=>af (bf N hN hq) fun b hb=>af (kN N hN (by omega) (by omega) ha hb) fun y hy=>af (s0 N hN (by omega) (by omega) hy hx) fun _ _=>aw (fun _=>hr () trivial) fun _=>aj (by omega)) fun _=>by omega
 ·exact aw (fun _=>by omega) fun _=>aj (by omega)
theorem air(N:Nat)(hN:5000000≤N)(c:ae){b:ag}{m:Nat}(hm:m≤50000)(hb:G m aB b):Ok (fun r=>G m (.slice (.int .i64)) r.1) (mW N c b):=by
 have hl:=hb.1.1
 unfold mW mW.b
 refine cW (ea N hN hm hb) (b8 (fun _=>aj G.nil) fun _=>bz (len:=b.1.length) (F:=fun n i s=>mW.l5 N n b s i) (fun i s=>G i (.slice (.int .i64)) s) G.nil (by omega) (fun n i s hi hI hr=> ?_) (fun n s hI=> ?_))
 all_goals unfold mW.l5 mW.dp
 ·have hs:=hI.1
  rw[an (x:=(i:Int)+1) (by omega) (by omega),aa i]
  have h1:=hr s (G.mono (by omega) hI)
  have hx:G 0 (.int .i64) (b.1.getD (i:Int).toNat ca).1:=(G.at hb.1 _).1
  exact aw (fun _=>aA ⟨by omega,by omega⟩ (ok_eq (fun _=>aA ⟨by omega,by omega⟩ (af (nY N (by omega) hm hb.2.2.1 _ _) fun _ _=>aw (fun _=>aA ⟨by omega,by omega⟩ (aK (by rw[List.length_singleton];omega) (hr _ (G.cat hI (G.one hx (Nat.le_refl 1)))))) fun _=>h1)) fun _=>h1)) fun _=>by omega
 ·exact aw (fun _=>by omega) fun _=>aj (G.mono hl hI)
abbrev LL(m:Nat)(l:aY):Prop:=G m (.slice gW) l
theorem IP(N:Nat)(hN:200000≤N){l:aY}{m:Nat}(hm:m≤50000)(h:LL m l)(id:Int):Ok (fun r=>G m gW r.1) (lN N l id):=by
 have hl:=h.1
 unfold lN lN.b
 refine kt (len:=l.length) (F:=fun n i=>lN.l2 N n l id ((0:Int),(bN,aS)) i) (by omega) (fun n i hi hr=> ?_) (fun n=> ?_)
 all_goals unfold lN.l2 lN.ec
 ·rw[an (x:=(i:Int)+1) (by omega) (by omega),aa i]
  exact aw (fun _=>aA ⟨by omega,by omega⟩ (ok_eq (fun _=>aA ⟨by omega,by omega⟩ (aj (G.at h _))) fun _=>hr)) fun _=>by omega
 ·exact aw (fun _=>by omega) fun _=>aj (G.zero m gW)
theorem acv(N:Nat)(hN:4000000≤N){a b:av}{m:Nat}(h6:6≤m)(hm:m≤40000)(ha:L2 m a)(hb:L2 m b):Ok (fun r=>L2 m r.1) (c5 N a b):=by
 have hal:=ha.1
 have rP:=hb.1
 unfold c5 c5.b
 refine bz (len:=6) (F:=fun n i s=>c5.l3 N n a b s i) (fun i s=>L2 i s) G.nil (by omega) (fun n i s hi hI hr=> ?_) (fun n s hI=> ?_)
 all_goals unfold c5.l3 c5.gZ
 ·have hs:=hI.1
  refine aw (fun _=> ?_) fun _=>by omega
  refine bz (len:=a.length) (F:=fun n' j t=>c5.l7 N (c5.l3 N n) n' a b s (i:Int) t j) (fun j t=>Bg (3+j) t) (Dd (by omega)) (by omega) (fun n' j t hj ht eg=> ?_) (fun n' t ht=> ?_)
  all_goals unfold c5.l7 c5.lC
  ·rw[an (x:=(j:Int)+1) (by omega) (by omega),aa j]
   exact aw (fun _=>aA ⟨by omega,by omega⟩ (ok_eq (fun _=>aA ⟨by omega,by omega⟩ (af (bf N hN (G.at ha _).2.1) fun r hr=>af (gJ N hN (by omega) ht (Bg.mono hr (by omega))) fun u hu=>eg u (Bg.mono hu (by omega)))) fun _=>eg t (Bg.mono ht (by omega)))) fun _=>by omega
  ·refine aw (fun _=>by omega) fun _=> ?_
   refine bz (len:=b.length) (F:=fun BS j t=>c5.nh N (c5.l3 N n) BS a b s (i:Int) t j) (fun j t=>Bg (3+a.length+j) t) ht (by omega) (fun BS j t hj ht eg=> ?_) (fun BS t ht=> ?_)
   all_goals unfold c5.nh c5.lF
   ·rw[an (x:=(j:Int)+1) (by omega) (by omega),aa j]
    exact aw (fun _=>aA ⟨by omega,by omega⟩ (ok_eq (fun _=>aA ⟨by omega,by omega⟩ (af (bf N hN (G.at hb _).2.1) fun r hr=>af (gJ N hN (by omega) ht (Bg.mono hr (by omega))) fun u hu=>eg u (Bg.mono hu (by omega)))) fun _=>eg t (Bg.mono ht (by omega)))) fun _=>by omega
   ·rw[an (x:=(i:Int)+1) (by omega) (by omega),aa i]
    exact aw (fun _=>by omega) fun _=>af (wO N ht) fun v hv=>b8 (fun _=>aj G.nil) fun _=>cH (fun _=>aK (by rw[List.length_singleton];omega) (hr _ (G.cat hI (G.one (m:=1) (G2 (gl (by omega) (by omega)) hv) (Nat.le_refl 1))))) fun _=>hr s (G.mono (by omega) hI)
 ·exact aw (fun _=>by omega) fun _=>aj (G.mono h6 hI)
end VM
end
section
namespace VM
open Go VM.F
theorem W0{l:List Int}(h:Pos l)(hs:l.sum<9223372036854775808):zl l:=fun x hx=>by
 have h3:=h x hx
 obtain⟨i,hi,rfl⟩:=List.mem_iff_getElem.1 hx
 have h4:=nX h i
 rw[List.getD_eq_getElem?_getD,List.getElem?_eq_getElem hi]at h4
 simp only[Option.getD_some]at h4
 omega
theorem OO(k:Nat):(List.replicate k (1:Int)).sum=k:=by
 induction k with
 |zero=>rfl
 |succ k ih=>rw[List.replicate_succ,List.sum_cons,ih];omega
theorem OP(k:Nat):Pos (List.replicate k 1):=fun x hx=>by rw[List.eq_of_mem_replicate hx];omega
theorem OQ{t:Int}{k:Nat}(h0:0≤t)(h1:t<9223372036854775808)(hk:1≤k)(Yc:k≤3):(BI t k).1.length=k∧zl (BI t k).1:=by
 have hS:0<(List.replicate k (1:Int)).sum:=by rw[OO];omega
 have ee:BI t k=(aP t (List.replicate k 1),0):=by
  unfold BI
  rw[if_neg (by omega),Int.toNat_natCast]
  unfold jy
  have hm:may (List.replicate k 1)=true:=eC.2 ⟨by rw[List.length_replicate];omega,OP k⟩
  rw[if_neg (by rw[hm];simp;omega),OO,if_neg (by omega),if_neg (by omega)]
 rw[ee]
 exact⟨by dsimp only;rw[fp,List.length_replicate],W0 (pj h0 hS (OP k)) (by rw[ph h0 hS];omega)⟩
def LQ(y:NL):Prop:=aC y.1∧aC y.2.1∧n5 y.2.1
theorem W1{l:av}(h: ∀y∈l,LQ y)(i:Nat):LQ (l.getD i ca):=by
 by_cases hk:i<l.length
 ·rw[List.getD_eq_getElem?_getD,List.getElem?_eq_getElem hk];exact h _ (List.getElem_mem hk)
 ·rw[List.getD_eq_getElem?_getD,List.getElem?_eq_none (by omega)];exact⟨bl,bl,by unfold n5;decide⟩
theorem LK{c:ae}{b:ag}{m:Nat}(hb:G m aB b)(hB:c8 c b=true)(a:Int): ∀y∈posOf b.2.2.2.1 a,LQ y∧(0≤(y.1:Int)∧(y.1:Int)<(c.1.length:Int)):=fun y hy=>by
 have hk:cN b.2.2.2.1=true:=by
  by_cases h:cN b.2.2.2.1=true
  ·exact h
  ·unfold posOf at hy;rw[if_neg h]at hy;nomatch hy
 unfold posOf at hy
 rw[if_pos hk]at hy
 obtain⟨x,hx,_,e⟩:=pf hy
 have hg:=hb.2.2.2.1.2 x hx
 have hq:=((gk hk).2 x hx).2
 have hp:=Db hB x hx
 rw[e]
 exact⟨⟨hg.2.1,hg.2.2.1,hq⟩,hp⟩
theorem ais(N:Nat)(hN:5000000≤N){c:ae}{b:ag}{m:Nat}(h2:200≤m)(hm:m≤40000)(hc:G m ar c)(hb:G m aB b){next:Int}(hn:aC next):Ok (fun r=>LL m r.1) (cP N c b next):=by
 unfold cP cP.b
 refine cW (ea N hN (by omega) hb) (b8 (fun _=>aj G.nil) fun hB=>aw (fun _=>aj G.nil) fun _=>aw (fun _=>aj G.nil) fun _=>cW (Of N (G.wf (by omega) hb).w.s (by omega) 0) (ok_eq (fun _=>aj G.nil) fun _=> ?_))
 have jj:=LK hb hB 0
 have hal:=(aeo hb.2.2.2.1 0).1
 generalize posOf b.2.2.2.1 0=all at*
 refine bz (len:=4) (F:=fun n k (s:Int×aY)=>cP.l8 N n s.1 c all s.2 k) (s:=(_,_)) (fun k s=>aC s.1∧s.2.length≤3*k∧ ∀x∈s.2,G m gW x) ⟨hn,Nat.zero_le _,fun x hx=>nomatch hx⟩ (by omega) (fun n k s hk hI hr=> ?_) (fun n s hI=> ?_)
 all_goals unfold cP.l8 cP.xR
 ·refine aw (fun _=> ?_) fun _=>by omega
  refine bz (len:=all.length) (F:=fun n' i (z:av×au)=>cP.lH N (cP.l8 N n) n' s.1 c all s.2 (k:Int) z.1 z.2 i) (s:=(_,_)) (fun i z=>z.1.length≤i∧(∀y∈z.1,LQ y)∧Bg (8+i) z.2) ⟨Nat.zero_le _,(fun y hy=>nomatch hy),Dd (by omega)⟩ (by omega) (fun n' i z hi hz eg=> ?_) (fun n' z hz=> ?_)
  all_goals unfold cP.lH cP.j2
  ·obtain⟨xI,Ht,hz3⟩:=hz
   have hx:all.getD i ca∈all:=by rw[List.getD_eq_getElem?_getD,List.getElem?_eq_getElem hi];exact List.getElem_mem hi
   have hy:=jj _ hx
   rw[an (x:=(i:Int)+1) (by omega) (by omega),aa i,Int.toNat_natCast]
   exact aw (fun _=>aA ⟨by omega,by omega⟩ (aA hy.2 (ok_eq (fun _=>aA ⟨by omega,by omega⟩ (aK (by rw[List.length_singleton];omega) (aA ⟨by omega,by omega⟩ (af (bf N (by omega) hy.1.2.1) fun u hu=>af (qR N (by omega) (by omega) hu) fun u hu=>af (gJ N (by omega) (by omega) hz3 (Bg.mono hu (by omega))) fun v hv=>eg (_,_) ⟨by dsimp only;rw[List.length_append,List.length_singleton];omega,fun y h=>(List.mem_append.1 h).elim (Ht y) (fun h=>by rw[List.mem_singleton.1 h];exact hy.1),Bg.mono hv (by omega)⟩)))) fun _=>eg z ⟨by omega,Ht,Bg.mono hz3 (by omega)⟩))) fun _=>by omega
  ·obtain⟨xI,Ht,hz3⟩:=hz
   refine aw (fun _=>by omega) fun _=>af (LJ N (by omega) (Bg.mono hz3 (by omega)) hc.2.2.2.2.2.1) fun w hw=> ?_
   obtain⟨p,hp⟩: ∃p:Nat,w=(p:Int):=⟨w.toNat,by omega⟩
   subst hp
   refine bz (len:=p) (F:=fun BS j (t:Int×aY)=>cP.Di N (cP.l8 N n) BS t.1 c all t.2 (k:Int) z.1 (p:Int) j) (s:=s) (fun j t=>aC t.1∧t.2.length≤3*k+j∧ ∀x∈t.2,G m gW x) hI (by omega) (fun BS j t hj ht Ov=> ?_) (fun BS t ht=> ?_)
   all_goals unfold cP.Di cP.IQ
   ·obtain⟨nk,PK,Qm⟩:=ht
    refine aw (fun _=> ?_) fun _=>by omega
    refine bz (len:=z.1.length) (F:=fun n3 i u=>cP.xN N (cP.l8 N n) (cP.Di N (cP.l8 N n) BS) n3 t.1 c all t.2 (k:Int) z.1 (p:Int) (j:Int) (t.1,(bN,((0:Int),((1:Int),ca)))) u i) (fun i u=>L2 i u) G.nil (by omega) (fun n3 i u hi hu hr3=> ?_) (fun n3 u hu=> ?_)
    all_goals unfold cP.xN cP.yQ
    ·have Y2:=hu.1
     have hq:=W1 Ht i
     have pV:=hq
     unfold LQ aC n5 at pV
     have aev: ∀q:Int,0≤q→q<9223372036854775808→Ok (fun r=>LL m r.1) (cP.RY N (cP.l8 N n) (cP.Di N (cP.l8 N n) BS) (cP.xN N (cP.l8 N n) (cP.Di N (cP.l8 N n) BS) n3) t.1 c all t.2 (k:Int) z.1 (p:Int) (j:Int) (t.1,(bN,((0:Int),((1:Int),ca)))) u (i:Int) q):=fun q h0 h1=>by
      unfold cP.RY cP.LM
      obtain⟨e1,e2⟩:=OQ (k:=p) h0 h1 (by omega) (by omega)
      have aew: ∀v:List Int,v.length=p→zl v→Ok (fun r=>LL m r.1) (cP.j32 N (cP.l8 N n) (cP.Di N (cP.l8 N n) BS) (cP.xN N (cP.l8 N n) (cP.Di N (cP.l8 N n) BS) n3) t.1 c all t.2 (k:Int) z.1 (p:Int) (j:Int) (t.1,(bN,((0:Int),((1:Int),ca)))) u (i:Int) v):=fun v D9 Qi=>by
       unfold cP.j32 cP.Y6
       rw[an (x:=(i:Int)+1) (by omega) (by omega),aa i]
       have hx:G 0 g5 ((z.1.getD (i:Int).toNat ca).1,(v.getD (j:Int).toNat 0,())):=G2 (W1 Ht _).1 (mD Qi _)
       exact aA ⟨by omega,by omega⟩ (cH (fun _=>aA ⟨by omega,by omega⟩ (aA ⟨by omega,by omega⟩ (aK (by rw[List.length_singleton];omega) (hr3 _ (G.cat hu (G.one hx (Nat.le_refl 1))))))) fun _=>hr3 u (G.mono (by omega) hu))
      refine cW (On N hN h1) (aA ⟨by omega,by omega⟩ (aw (fun _=>aA ⟨by omega,by omega⟩ (aA ⟨by omega,by omega⟩ (aew _ (by rw[List.length_set];exact e1) fun y hy=> ?_))) fun _=>aew _ e1 e2))
      rcases List.mem_or_eq_of_mem_set hy with hy|rfl
      ·exact e2 y hy
      ·exact e9 _
     rw[Int.toNat_natCast]
     refine aw (fun _=>aA ⟨by omega,by omega⟩ (aw (fun dz=> ?_) fun PS=> ?_)) fun _=>by omega
     ·have g: ∀x:Int,-9223372036854775808≤x∧x≠ -9223372036854775808→x<0→0≤W .i64 (0-x)∧W .i64 (0-x)<9223372036854775808:=fun x h1 h2=>by rw[an (by omega) (by omega)];omega
      have gx:=g _ ⟨pV.2.1.1,pV.2.2⟩ dz
      exact aev _ gx.1 gx.2
     ·exact aev _ PS pV.2.1.2
    ·have Y2:=hu.1
     rw[an (x:=(j:Int)+1) (by omega) (by omega),aa j]
     have hum:L2 m u:=G.mono (by omega) hu
     refine aw (fun _=>by omega) fun _=>ok_eq (fun _=>Ov t ⟨nk,by omega,Qm⟩) fun _=> ?_
     unfold OR
     refine af (Q:=fun r=>Bg 60000 r.1) (af (vB N (by omega) (by omega) hc hum _) fun r hr=>aj hr) fun a ha=>af (rJ N (by omega) (by omega) ha) fun d hd=>af (s3 N hd) fun v hv=>b8 (fun _=>aj G.nil) fun _=>aK (by rw[List.length_singleton];omega) (Ov (_,_) ⟨e9 _,by dsimp only;rw[List.length_append,List.length_singleton];omega,fun x hx=> ?_⟩)
     rcases List.mem_append.1 hx with hx|hx
     ·exact Qm x hx
     ·rw[List.mem_singleton.1 hx];exact⟨nk,hum,hv,(show aC 1 from a8),bl,bl,trivial⟩
   ·rw[an (x:=(k:Int)+1) (by omega) (by omega),aa k]
    exact aw (fun _=>by omega) fun _=>hr t ⟨ht.1,by have:=ht.2.1;omega,ht.2.2⟩
 ·exact aw (fun _=>by omega) fun _=>aj ⟨by have:=hI.2.1;dsimp only;omega,hI.2.2⟩
end VM
end
section
namespace VM
open Go VM.F
theorem vD(N:Nat)(hN:200000≤N){l:av}(hl:l.length≤100000):Ok (fun _=>True) (kQ N l):=by
 unfold kQ kQ.b
 refine kt (len:=l.length) (F:=fun n i=>kQ.l2 N n l i) (by omega) (fun n i hi hr=> ?_) (fun n=> ?_)
 all_goals unfold kQ.l2 kQ.ec
 ·rw[an (x:=(i:Int)+1) (by omega) (by omega),aa i]
  dsimp only
  repeat' first|exact hr|exact fc|refine aA ⟨by omega,by omega⟩ ?_|refine aA (by rw[an (x:=(i:Int)-1) (by omega) (by omega)];omega) ?_|refine aw (fun _=> ?_) (fun _=> ?_)|refine dC (fun _=> ?_) (fun _=> ?_)|refine ok_eq (fun _=> ?_) (fun _=> ?_)|(exfalso;omega)
 ·exact aw (fun _=>by omega) fun _=>fc
theorem acw(N:Nat)(hN:200000≤N){l:List Int}(hl:l.length≤100000):Ok (fun _=>True) (mX N l):=by
 unfold mX mX.b
 refine kt (len:=l.length) (F:=fun n i=>mX.l2 N n l i) (by omega) (fun n i hi hr=> ?_) (fun n=> ?_)
 all_goals unfold mX.l2 mX.ec
 ·rw[an (x:=(i:Int)+1) (by omega) (by omega),aa i]
  dsimp only
  repeat' first|exact hr|exact fc|refine aA ⟨by omega,by omega⟩ ?_|refine aA (by rw[an (x:=(i:Int)-1) (by omega) (by omega)];omega) ?_|refine aw (fun _=> ?_) (fun _=> ?_)|refine dC (fun _=> ?_) (fun _=> ?_)|refine ok_eq (fun _=> ?_) (fun _=> ?_)|(exfalso;omega)
 ·exact aw (fun _=>by omega) fun _=>fc
theorem aex(N:Nat)(hN:200000≤N)(a:Int){L:aY}{l:aE}{m:Nat}(hm:m≤50000)(hL:LL m L)(hl:G m (.slice dL) l):Ok aC (fF N a L l):=by
 have h1:=hL.1
 have h2:=hl.1
 have i3:aC 3:=a8
 have i2:aC 2:=a8
 unfold fF fF.b
 refine bz (len:=l.length) (F:=fun n i v=>fF.l3 N n a L l v i) (fun _ v=>aC v) (show aC 1 from a8) (by omega) (fun n i v hi hv hr=> ?_) (fun n v hv=> ?_)
 all_goals unfold fF.l3 fF.gZ
 ·rw[an (x:=(i:Int)+1) (by omega) (by omega),aa i]
  exact aw (fun _=>aA ⟨by omega,by omega⟩ (cH (fun _=>hr v hv) fun _=>aA ⟨by omega,by omega⟩ (af (IP N hN hm hL _) fun _ _=>rW (fun _=>aA ⟨by omega,by omega⟩ (dC (fun _=>hr _ (xu hv i3)) fun _=>hr _ (xu hv i2))) fun _=>hr _ (xu hv i2)))) fun _=>by omega
 ·refine aw (fun _=>by omega) fun _=>bz (len:=L.length) (F:=fun n i v=>fF.nh N n a L v i) (fun _ v=>aC v) hv (by omega) (fun n i v hi hv hr=> ?_) (fun n v hv=> ?_)
  all_goals unfold fF.nh fF.lF
  ·rw[an (x:=(i:Int)+1) (by omega) (by omega),aa i]
   exact aw (fun _=>aA ⟨by omega,by omega⟩ (ok_eq (fun _=>aA ⟨by omega,by omega⟩ (ok_eq (fun _=>hr 4 a8) fun _=>hr v hv)) fun _=>hr v hv)) fun _=>by omega
  ·exact aw (fun _=>by omega) fun _=>aj hv
theorem OS(N:Nat)(hN:200000≤N){l:av}(hl:l.length≤100000)(a:Int):Ok (fun _=>True) (mY N l a):=by
 unfold mY mY.b
 refine af (vD N hN hl) fun _ _=>b8 (fun _=>fc) fun _=>kt (len:=l.length) (F:=fun n i=>mY.l4 N n l a i) (by omega) (fun n i hi hr=> ?_) (fun n=> ?_)
 all_goals unfold mY.l4 mY.cj
 ·rw[an (x:=(i:Int)+1) (by omega) (by omega),aa i]
  exact aw (fun _=>aA ⟨by omega,by omega⟩ (ok_eq (fun _=>aA ⟨by omega,by omega⟩ fc) fun _=>hr)) fun _=>by omega
 ·exact aw (fun _=>by omega) fun _=>fc
theorem Kh(N:Nat)(a:Int):Ok (fun _=>True) (OT N a):=by
 unfold OT
 exact ok_eq (fun _=>fc) fun _=>fc
theorem IS(N:Nat)(hN:5000000≤N)(c:ae){b:ag}{d:av}{m:Nat}(hm:m≤50000)(hb:G m aB b)(hd:L2 m d)(a k:Int):Ok (fun r=>G m (.slice (.int .i64)) r.1) (mZ N c b d a k):=by
 have hl:=hb.1.1
 have h2:=hd.1
 unfold mZ mZ.b
 refine cW (ea N hN hm hb) (b8 (fun _=>aj G.nil) fun _=>af (vD N (by omega) (by omega)) fun _ _=>b8 (fun _=>aj G.nil) fun _=>bz (len:=b.1.length) (F:=fun n i s=>mZ.l5 N n d a k b s i) (fun i s=>G i (.slice (.int .i64)) s) G.nil (by omega) (fun n i s hi hI hr=> ?_) (fun n s hI=> ?_))
 all_goals unfold mZ.l5 mZ.dp
 ·have hs:=hI.1
  rw[an (x:=(i:Int)+1) (by omega) (by omega),aa i]
  have h1:=hr s (G.mono (by omega) hI)
  have hx:G 0 (.int .i64) (b.1.getD (i:Int).toNat ca).1:=(G.at hb.1 _).1
  exact aw (fun _=>aA ⟨by omega,by omega⟩ (af (Kh N _) fun _ _=>rW (fun _=>cH (fun _=>af (nY N (by omega) hm hb.2.2.1 _ _) fun _ _=>aw (fun _=>af (OS N (by omega) (by omega) _) fun _ _=>ok_eq (fun _=>aK (by rw[List.length_singleton];omega) (hr _ (G.cat hI (G.one hx (Nat.le_refl 1))))) fun _=>h1) fun _=>h1) fun _=>h1) fun _=>h1)) fun _=>by omega
 ·exact aw (fun _=>by omega) fun _=>aj (G.mono hl hI)
theorem FN(N:Nat)(hN:200000≤N){a:aE}{m:Nat}(hm:m≤50000)(h:G m (.slice dL) a)(id:Int):Ok aC (sQ N a id):=by
 refine kM (Bp N (Nat.le_trans h.1 (by omega)) hN id) ?_
 unfold CN
 split
 ·have: ∀l:aE,(∀x∈l,G m dL x)→aC (o7 id l):=by
   intro l
   induction l with
   |nil=>intro _;exact bl
   |cons x t ih=>
    intro hx
    have hi:=ih fun y hy=>hx y (List.mem_cons_of_mem _ hy)
    rw[wB]
    split
    ·split
     ·exact(hx x (List.mem_cons_self ..)).1
     ·exact hi
    ·exact hi
  exact this a h.2
 ·exact bl
abbrev L5(m:Nat)(l:ba):Prop:=G m (.slice oB) l
theorem G5{m:Nat}{a b c d e:Int}(ha:aC a)(hb:aC b)(hc:aC c)(hd:aC d)(he:aC e):G m oB (a,(b,(c,(d,(e,()))))):=⟨ha,hb,hc,hd,he,trivial⟩
theorem Dj(N:Nat)(hN:200000≤N){l:ba}{b:ag}{m k:Nat}(hm:m≤50000)(hb:G m aB b)(hk:k≤1000000)(hl:L5 k l){a d n:Int}(ha:aC a)(hd:aC d)(hn:aC n):Ok (fun r=>L5 (k+1) r) (IT N l b a d n):=by
 have h1:=hl.1
 unfold IT
 exact af (nY N hN hm hb.2.2.1 _ _) fun x hx=>aw (fun _=>aK (by rw[List.length_singleton];omega) (aj (G.cat hl (G.one (m:=1) (G5 ha hd hn hx bl) (Nat.le_refl 1))))) fun _=>aj (G.mono (by omega) hl)
theorem OU(N:Nat)(hN:5000000≤N){c:ae}{b:ag}{d g:av}{a:Int}{m:Nat}(hm:m≤50000)(hc:G m ar c)(hb:G m aB b)(hd:L2 m d)(hg:L2 m g)(ha:aC a):Ok (fun r=>L5 1000000 r.1) (b7 N c b a d g):=by
 have h1:=hb.1.1
 have h2:=hd.1
 have h3:=hg.1
 have h4:=hb.2.1.1
 have hj: ∀l:ba,L5 1 l→Ok (fun r=>L5 1000000 r.1) (b7.j9 N a d g c b l):=fun l hl=>by
  unfold b7.j9 b7.H7
  refine af (Dj N (by omega) hm hb (by omega) hl a8 a8 ha) fun l hl=>af (Dj N (by omega) hm hb (by omega) hl a8 a8 bl) fun l hl=>jC (len:=5) (F:=fun n k s=>b7.nh N n a d g c b s k) (fun k s=>L5 (3+m*k) s) (fun n k s hk hs hr=> ?_) (fun n s hs=> ?_) 5 N 1 l (by omega) (by omega) (by omega) (G.mono (by omega) hl)
  all_goals unfold b7.nh b7.lF
  ·have hmk:m*k≤m*4:=Nat.mul_le_mul_left m (by omega)
   refine dC (fun _=>af (IS N hN c hm hb hd _ _) fun t ht=> ?_) fun _=>by omega
   have htl:=ht.1
   refine bz (len:=t.1.length) (F:=fun n' j u=>b7.rU N (b7.nh N n) n' a d g c b u (k:Int) t.1 j) (fun j u=>L5 (3+m*k+j) u) hs (by omega) (fun n' j u hj hu eg=> ?_) (fun n' u hu=> ?_)
   all_goals unfold b7.rU b7.qH
   ·rw[an (x:=(j:Int)+1) (by omega) (by omega),aa j]
    exact aw (fun _=>aA ⟨by omega,by omega⟩ (af (Dj N (by omega) hm hb (by omega) hu (e9 _) a8 (G.at ht _)) fun v hv=>eg v hv)) fun _=>by omega
   ·rw[an (x:=(k:Int)+1) (by omega) (by omega),aa k]
    exact aw (fun _=>by omega) fun _=>hr u (G.mono (by rw[Nat.mul_succ];omega) hu)
  ·refine dC (fun _=>by omega) fun _=>bz (len:=b.1.length) (F:=fun n j u=>b7.Di N n a g c b u j) (fun j u=>L5 (3+m*5+j) u) hs (by omega) (fun n j u hj hu hr=> ?_) (fun n u hu=> ?_)
   all_goals unfold b7.Di b7.IQ
   ·have Y2:=hu.1
    have hx:aC (b.1.getD (j:Int).toNat ca).1:=(G.at hb.1 _).1
    rw[an (x:=(j:Int)+1) (by omega) (by omega),aa j]
    have h0:=hr u (G.mono (by omega) hu)
    exact aw (fun _=>aA ⟨by omega,by omega⟩ (af (Kh N _) fun _ _=>b8 (fun _=>h0) fun _=>ok_eq (fun _=>h0) fun _=>af (bf N (by omega) hc.2.2.1) fun p hp=>af (nY N (by omega) hm hb.2.2.1 _ _) fun q hq=>af (bf N (by omega) hq) fun q hq=>af (kN N (by omega) (by omega) (by omega) hp hq) fun y hy=>af (s3 N hy) fun v hv=>b8 (fun _=>aj G.nil) fun _=>aw (fun _=>aK (by rw[List.length_singleton];omega) (hr _ (G.mono (by omega) (G.cat hu (G.one (m:=1) (G5 (show aC 8 from a8) (show aC 7 from a8) hx hv bl) (Nat.le_refl 1)))))) fun _=>h0)) fun _=>by omega
   ·refine aw (fun _=>by omega) fun _=>bz (len:=g.length) (F:=fun n j u=>b7.Is N n a g b u j) (fun j u=>L5 (3+m*5+m+j) u) (G.mono (by omega) hu) (by omega) (fun n j u hj hu hr=> ?_) (fun n u hu=> ?_)
    all_goals unfold b7.Is b7.Fe
    ·have Y2:=hu.1
     rw[an (x:=(j:Int)+1) (by omega) (by omega),aa j]
     have h0:=hr u (G.mono (by omega) hu)
     dsimp only
     exact aw (fun _=>aA ⟨by omega,by omega⟩ (af (rK N (by omega) hm hb.2.1 _) fun x hx=>aA ⟨by omega,by omega⟩ (aA ⟨by omega,by omega⟩ (af (nY N (by omega) hm hb.2.2.1 _ _) fun q hq=>rW (fun _=>cH (fun _=>aw (fun _=>aK (by rw[List.length_singleton];omega) (hr _ (G.mono (by omega) (G.cat hu (G.one (m:=1) (G5 (show aC 9 from a8) (show aC 5 from a8) hx.1 (RJ (G.at hg _).2.1 hq) bl) (Nat.le_refl 1)))))) fun _=>h0) fun _=>h0) fun _=>h0)))) fun _=>by omega
    ·exact aw (fun _=>by omega) fun _=>aj (G.mono (by omega) hu)
 unfold b7 b7.b
 exact cW (ea N hN hm hb) (b8 (fun _=>aj G.nil) fun _=>af (vD N (by omega) (by omega)) fun _ _=>b8 (fun _=>aj G.nil) fun _=>af (BV N (by omega) (by omega)) fun _ _=>b8 (fun _=>aj G.nil) fun _=>af (lZ N (by omega) hm hb.1 _) fun _ _=>ok_eq (fun _=>aj G.nil) fun _=>af (FN N (by omega) hm hb.2.1 _) fun h hh=>cH (fun _=>af (Dj N (by omega) hm hb (by omega) (G.nil (m:=0)) a8 a8 hh) fun l hl=>hj l hl) fun _=>hj [] G.nil)
end VM
end
section
namespace VM
open Go VM.F
theorem LN(N:Nat)(hN:5000000≤N)(c:ae){b:ag}{m:Nat}(hm:m≤50000)(hb:G m aB b):Ok (fun r=>aC r.1) (RZ N c b):=by
 unfold RZ
 exact cW (ea N hN hm hb) (b8 (fun _=>aj bl) fun _=>af (nY N (by omega) hm hb.2.2.1 _ _) fun x hx=>ok_eq (fun _=>aj bl) fun _=>aj (xu (e9 _) bl))
theorem IU(N:Nat)(hN:5000000≤N)(c:ae){b:ag}{m:Nat}(hm:m≤50000)(hb:G m aB b):Ok (fun r=>aC r.1) (R1 N c b):=by
 unfold R1
 exact cW (ea N hN hm hb) (b8 (fun _=>aj bl) fun _=>af (nY N (by omega) hm hb.2.2.1 _ _) fun x hx=>aj (xu hx bl))
theorem Y7(N:Nat)(a b:Int):Ok (fun _=>True) (Ic N a b):=by
 unfold Ic
 repeat' first|exact fc|refine ok_eq (fun _=> ?_) (fun _=> ?_)|refine dC (fun _=> ?_) (fun _=> ?_)
theorem LO(N:Nat)(hN:200000≤N)(l:ba):Ok (fun r=>r=true→l.length≤64) (m0 N l):=by
 have hf:Ok (fun r=>r=true→l.length≤64) (some false):=aj fun h=>nomatch h
 unfold m0 m0.b
 refine aw (fun _=>hf) fun hl=>kt (len:=l.length) (F:=fun n i=>m0.l4 N n l i) (by omega) (fun n i hi hr=> ?_) (fun n=> ?_)
 all_goals unfold m0.l4 m0.cj
 ·rw[an (x:=(i:Int)+1) (by omega) (by omega),aa i]
  dsimp only
  repeat' first|exact hr|exact hf|refine aA ⟨by omega,by omega⟩ ?_|refine aA (by rw[an (x:=(i:Int)-1) (by omega) (by omega)];omega) ?_|refine aw (fun _=> ?_) (fun _=> ?_)|refine dC (fun _=> ?_) (fun _=> ?_)|refine ok_eq (fun _=> ?_) (fun _=> ?_)|(exfalso;omega)|refine af (Y7 N _ _) fun _ _=> ?_|refine b8 (fun _=> ?_) (fun _=> ?_)
 ·exact aw (fun _=>by omega) fun _=>aj fun _=>by omega
theorem Ki{σ β:Type}{P:β→Prop}{F:Nat→Int→σ→Option β}{len:Nat}(I:σ→Prop)
  (hs: ∀n i s,i<len→I s→(∀j s',i<j→j≤len→I s'→Ok P (F n (j:Int) s'))→Ok P (F (n+1) (i:Int) s)) (he: ∀n s,I s→Ok P (F (n+1) (len:Int) s)):
  ∀m n i s,len-i≤m→m<n→i≤len→I s→Ok P (F n (i:Int) s)
 |m,0,i,s,_,hn,_,_=>by omega
 |m,n+1,i,s,hm,hn,hi,hI=>by
  by_cases h:i<len
  ·exact hs n i s h hI fun j s' hj WD sf=>Ki I hs he (m-1) n j s' (by omega) (by omega) WD sf
  ·have:i=len:=by omega
   subst this
   exact he n s hI
theorem G5q{m:Nat}{x:uy}{q:Int}(h:G m oB x)(hq:aC q):G m oB (x.1,(x.2.1,(x.2.2.1,(x.2.2.2.1,(q,x.2.2.2.2.2))))):=⟨h.1,h.2.1,h.2.2.1,h.2.2.2.1,hq,trivial⟩
theorem aey: ∀{w:List Int},Pos w→0≤w.sum
 |[],_=>Int.le_refl _
 |x::t,h=>by
  rw[List.sum_cons]
  have:=h x (List.mem_cons_self ..)
  have:=aey (w:=t) fun y hy=>h y (List.mem_cons_of_mem _ hy)
  omega
theorem LP{t:Int}{w:List Int}(h1:t<9223372036854775808)(h:(jy t w).2=0):(jy t w).1.length=w.length∧zl (jy t w).1:=by
 unfold jy at h ⊢
 split at h
 ·exact absurd h (by decide)
 ·split at h
  ·exact absurd h (by decide)
  ·rename_i h2 h3
   split at h
   ·split at h
    ·rename_i h4 h5
     rw[if_neg h2,if_neg h3,if_pos h4,if_pos h5]
     exact⟨List.length_replicate ..,fun x hx=>by rw[List.eq_of_mem_replicate hx];decide⟩
    ·exact absurd h (by decide)
   ·rename_i h4
    rw[if_neg h2,if_neg h3,if_neg h4]
    have hm:may w=true:=by
     by_cases hm:may w=true
     ·exact hm
     ·exact absurd (Or.inr (Bool.eq_false_iff.2 hm)) h2
    have hp:=(eC.1 hm).2
    have h0:0≤t:=by omega
    have hS:0<w.sum:=by have:=aey hp;omega
    exact⟨fp t w,W0 (pj h0 hS hp) (by rw[ph h0 hS];exact h1)⟩
theorem IV(N:Nat)(hN:5000000≤N){l:ba}{q:Int}{m:Nat}(hl:L5 m l)(hq:aC q):Ok (fun r=>L5 64 r.1∧aC r.2.1) (cy N l q):=by
 have fK: ∀e:Int,Ok (fun r:ba×Int×Int=>L5 64 r.1∧aC r.2.1) (some ([],((0:Int),e))):=fun e=>aj ⟨G.nil,bl⟩
 unfold cy cy.b
 refine af (LO N (by omega) l) fun z hz=>b8 (fun _=>fK _) fun ht=>aw (fun _=>fK _) fun _=> ?_
 have sl:=hz ht
 rw[List.nil_append]
 refine aK (by rw[List.length_nil];omega) (Ki (len:=l.length) (F:=fun n i (s:ba×Int)=>cy.l5 N n s.1 s.2 i) (fun s=>s.1.length=l.length∧L5 64 s.1∧aC s.2) (fun n i s hi hI hr=> ?_) (fun n s hI=> ?_) l.length N 0 (l,q) (by omega) (by omega) (by omega) ⟨rfl,⟨sl,fun x hx=>G.mono (m:=0) (Nat.zero_le _) (hl.2 x hx)⟩,hq⟩)
 all_goals unfold cy.l5 cy.dp
 ·obtain⟨Hj,WJ,hs3⟩:=hI
  refine aw (fun _=> ?_) fun _=>by omega
  have fin: ∀(k:Nat) (w:List Int),i<k→k≤l.length→w.length=k-i→zl w→Ok (fun r=>L5 64 r.1∧aC r.2.1) (cy.Hw N (cy.l5 N n) s.1 s.2 (i:Int) (k:Int) w):=fun k w hk Al hw C8=>by
   unfold cy.Hw cy.zB
   have yp:aC (mn (tT w.sum).1 s.2):=RJ (IH _) hs3
   refine cW (sL N (by omega) C8 (by omega)) (cW (nV N _) (b8 (fun _=>fK _) fun _=>cW (vv N hN yp.2 C8 (by omega)) (cH (fun _=>fK _) fun h0=> ?_)))
   obtain⟨e1,e2⟩:=LP yp.2 h0
   generalize (jy (mn (tT w.sum).1 s.2) w).1=v at*
   refine jC (len:=k) (F:=fun n' j (z:ba×Int)=>cy.xr N (cy.l5 N n) n' z.1 z.2 (i:Int) (k:Int) v j) (fun j z=>i≤j∧z.1.length=l.length∧L5 64 z.1∧aC z.2) (fun n' j z hj hz eg=> ?_) (fun n' z hz=> ?_) k N i s (by omega) (by omega) (by omega) ⟨Nat.le_refl i,Hj,WJ,hs3⟩
   all_goals unfold cy.xr cy.uH
   ·obtain⟨nB,xI,Ht,hz3⟩:=hz
    dsimp only
    rw[an (x:=(j:Int)+1) (by omega) (by omega),aa j,an (x:=(j:Int)-i) (by omega) (by omega)]
    exact aw (fun _=>aA ⟨by omega,by omega⟩ (aA ⟨by omega,by omega⟩ (aA ⟨by omega,by omega⟩ (eg (_,_) ⟨by omega,by dsimp only;rw[List.length_set];exact xI,G.set Ht (G5q (G.at Ht _) (mD e2 _)) _,e9 _⟩)))) fun _=>by omega
   ·exact aw (fun _=>by omega) fun _=>hr k z hk Al hz.2
  refine jC (len:=l.length) (F:=fun n' k w=>cy.l8 N (cy.l5 N n) n' s.1 s.2 (i:Int) k w) (fun k w=>i≤k∧w.length=k-i∧zl w) (fun n' k w hk hw eg=> ?_) (fun n' w hw=> ?_) l.length N i [] (by omega) (by omega) (by omega) ⟨Nat.le_refl i,by rw[List.length_nil];omega,fun x hx=>nomatch hx⟩
  all_goals unfold cy.l8 cy.xR
  ·obtain⟨hik,hwl,C8⟩:=hw
   rw[an (x:=(k:Int)+1) (by omega) (by omega),aa k]
   refine aw (fun _=>aA ⟨by omega,by omega⟩ (aA ⟨by omega,by omega⟩ (ok_eq (fun _=>aA ⟨by omega,by omega⟩ (aK (by rw[List.length_singleton];omega) (eg _ ⟨by omega,by rw[List.length_append,List.length_singleton];omega,fun x hx=> ?_⟩))) fun g7=> ?_))) fun _=>by omega
   ·rcases List.mem_append.1 hx with hx|hx
    ·exact C8 x hx
    ·rw[List.mem_singleton.1 hx];exact(G.at WJ _).2.2.2.1
   ·refine fin k w ?_ (by omega) hwl C8
    by_cases e:k=i
    ·subst e;exact absurd rfl g7
    ·omega
  ·exact aw (fun _=>by omega) fun _=>fin l.length w hi (Nat.le_refl _) hw.2.1 hw.2.2
 ·exact aw (fun _=>by omega) fun _=>aj ⟨hI.2.1,hI.2.2⟩
abbrev R0:cR:=((0:Int),((0:Int),(([]:ba),((0:Int),()))))
theorem acx(N:Nat)(hN:5000000≤N){c:ae}{b:ag}{d g:av}{a:Int}{m:Nat}(h2:200≤m)(hm:m≤40000)(hc:G m ar c)(hb:G m aB b)(hd:L2 m d)(hg:L2 m g)(ha:aC a):Ok (fun r=>G m aB r.1∧G m eE r.2.1) (gM N c b a d g):=by
 have fK: ∀e:Int,Ok (fun r:ag×cR×Int=>G m aB r.1∧G m eE r.2.1) (some ((bN,(cI,(bq,(bq,(c3,(de,())))))),(R0,e))):=fun e=>aj ⟨G.fh,G.zero m eE⟩
 unfold gM gM.b
 refine af (OU N hN (by omega) hc hb hd hg ha) fun l hl=>ok_eq (fun _=>fK _) fun _=>ok_eq (fun _=>fK _) fun _=>af (LN N hN c (by omega) hb) fun q hq=>cH (fun _=>fK _) fun _=>cH (fun _=>fK _) fun _=>af (IV N hN hl hq) fun z ⟨xI,Ht⟩=>cH (fun _=>fK _) fun _=> ?_
 have hzl:=xI.1
 have hj: ∀(p:bk) (r:cR) (t:ba) (x k n:Int),gU 1000 p→G m eE r→L5 64 t→aC x→Ok (fun r=>G m aB r.1∧G m eE r.2.1) (gM.j26 N b (bN,(cI,(bq,(bq,(c3,(de,())))))) R0 p r t x k n):=fun p r t x k n hp hr ht hx=>by
  have Cm:=hp.1
  unfold gM.j26 gM.Y8
  exact af (bf N (by omega) hx) fun v hv=>af (pz N (by omega) _ _ _ _ (Bg.mono hv (by omega))) fun u hu=>aK (by have:=hu.1;omega) (af (pq N (by omega) h2 (by omega) hb G.nil (gU.mono (gU.app hp hu) (by omega))) fun w hw=>cH (fun _=>fK _) fun _=>aj ⟨hw,hr.1,hr.2.1,G.mono (by omega) ht,hr.2.2.2⟩)
 refine bz (len:=z.1.length) (F:=fun n i (s:bk×cR×ba)=>gM.DI N n a c b (bN,(cI,(bq,(bq,(c3,(de,())))))) R0 z.1 z.2.1 s.1 s.2.1 s.2.2 i) (s:=(_,(_,_))) (fun i s=>gU (2*i) s.1∧G m eE s.2.1∧L5 i s.2.2) ⟨gU.nil,⟨ha,hq,G.nil,Ht,trivial⟩,G.nil⟩ (by omega) (fun n i s hi hI hr=> ?_) (fun n s hI=> ?_)
 all_goals unfold gM.DI gM.CW
 ·obtain⟨h4,h5,h6⟩:=hI
  have hp:=h4.1
  have ht:=h6.1
  have hx:G 0 oB (z.1.getD (i:Int).toNat jR):=G.at xI _
  rw[an (x:=(i:Int)+1) (by omega) (by omega),aa i]
  exact aw (fun _=>aA ⟨by omega,by omega⟩ (aw (fun _=>aA ⟨by omega,by omega⟩ (aK (by rw[List.length_singleton];omega) (aA ⟨by omega,by omega⟩ (aA ⟨by omega,by omega⟩ (aA ⟨by omega,by omega⟩ (af (bf N (by omega) hx.2.2.2.2.1) fun v hv=>af (pz N (by omega) _ _ _ _ (Bg.mono hv (by omega))) fun u hu=>aK (by have:=hu.1;omega) (hr (_,(_,_)) ⟨gU.mono (gU.app h4 hu) (by omega),⟨h5.1,h5.2.1,G.nil,h5.2.2.2⟩,G.cat h6 (G.one hx (Nat.le_refl 1))⟩))))))) fun _=>hr s ⟨gU.mono h4 (by omega),h5,G.mono (by omega) h6⟩)) fun _=>by omega
 ·obtain⟨h4,h5,h6⟩:=hI
  have hp:=h4.1
  dsimp only
  exact aw (fun _=>by omega) fun _=>af (bf N (by omega) Ht) fun v hv=>af (pz N (by omega) _ _ _ _ (Bg.mono hv (by omega))) fun u hu=>aK (by have:=hu.1;omega) (af (IU N hN c (by omega) hb) fun x hx=>af (FN N (by omega) (by omega) hb.2.1 _) fun h hh=>cH (fun _=>hj _ _ _ _ _ _ (gU.mono (gU.app h4 hu) (by omega)) h5 (G.mono (by omega) h6) hx) fun _=>hj _ _ _ _ _ _ (gU.mono (gU.app h4 hu) (by omega)) h5 (G.mono (by omega) h6) hx)
end VM
end
section
namespace VM
open Go VM.F
theorem LR(N:Nat)(hN:5000000≤N){t:Int}{w:List Int}(ht:t<9223372036854775808)(hw:zl w)(hl:w.length≤1000000):Ok (fun r=>r.2.2=0→r.1.length=w.length∧zl r.1) (c0 N t w w):=by
 refine kM (zy N hN ht hw hw hl) fun h0=> ?_
 have f:=zz ht hw h0
 have c:=f.c
 have hl2:=c.l2
 refine⟨hl2,fun x hx=> ?_⟩
 obtain⟨i,hi,e⟩:=List.getElem_of_mem hx
 have h1:=c.le i (by omega)
 have h2:=(c.pc i).2
 have h3:=c.po i
 rw[List.getD_eq_getElem?_getD (l:=(kq t w w).1),List.getElem?_eq_getElem hi,Option.getD_some,e]at h1 h3
 exact⟨by omega,by omega⟩
theorem R2(N:Nat)(hN:5000000≤N)(c:ae){b:ag}{m:Nat}(hm:m≤40000)(hb:G m aB b){a:Int}(ha:aC a):Ok (fun r=>L3 (m+1) r.1) (jN N c b a):=by
 have w:=(G.wf (by omega) hb).w
 have hl:=hb.2.2.2.1.1
 unfold jN jN.b
 refine cW (ea N hN (by omega) hb) (b8 (fun _=>aj G.nil) fun _=>aw (fun _=>aj G.nil) fun _=>dC (fun _=>aj G.nil) fun _=>cW (C1 N w.s (by omega) 0 a) (ok_eq (fun _=>aj G.nil) fun _=> ?_))
 have hq:=Oh w.qs 0 a
 generalize dW b.2.2.2.1 0 a=q at*
 refine bz (len:=b.2.2.2.1.length) (F:=fun n i (s:List Int×List Int)=>jN.s4 N n a b q s.1 s.2 i) (s:=(_,_)) (fun i s=>s.1.length≤i∧s.2.length=s.1.length∧zl s.1∧zl s.2) ⟨Nat.zero_le _,rfl,(fun x hx=>nomatch hx),fun x hx=>nomatch hx⟩ (by omega) (fun n i s hi hI hr=> ?_) (fun n s hI=> ?_)
 all_goals unfold jN.s4 jN.pW
 ·obtain⟨h1,h2,h3,h4⟩:=hI
  have hx:G 0 fP (b.2.2.2.1.getD (i:Int).toNat aR):=G.at hb.2.2.2.1 _
  rw[an (x:=(i:Int)+1) (by omega) (by omega),aa i]
  have h0:=hr s ⟨by omega,h2,h3,h4⟩
  have sn: ∀{l:List Int} {x:Int},zl l→aC x→zl (l++[x]):=fun hl hx y hy=>(List.mem_append.1 hy).elim (hl y) fun hy=>by rw[List.mem_singleton.1 hy];exact hx
  dsimp only
  exact aw (fun _=>aA ⟨by omega,by omega⟩ (cH (fun _=>ok_eq (fun _=>rW (fun _=>aK (by rw[List.length_singleton];omega) (aK (by rw[List.length_singleton];omega) (hr (_,_) ⟨by dsimp only;rw[List.length_append,List.length_singleton];omega,by dsimp only;rw[List.length_append,List.length_append,List.length_singleton,List.length_singleton];omega,sn h3 hx.1,sn h4 (xu hx.2.2.1 (e9 _))⟩))) fun _=>h0) fun _=>h0) fun _=>h0)) fun _=>by omega
 ·obtain⟨h1,h2,h3,h4⟩:=hI
  refine aw (fun _=>by omega) fun _=>af (LR N hN (xu hq (e9 _)).2 h4 (by omega)) fun z hz=>cH (fun _=>aj G.nil) fun h0=> ?_
  obtain⟨e1,e2⟩:=hz h0
  refine bz (len:=z.1.length) (F:=fun n i u=>jN.sX N n a q s.1 z.1 u i) (fun i u=>L3 (1+i) u) (G.one (m:=1) (G3 bl ha (e9 _)) (Nat.le_refl 1)) (by omega) (fun n i u hi hu hr=> ?_) (fun n u hu=> ?_)
  all_goals unfold jN.sX jN.uC
  ·have Y2:=hu.1
   rw[an (x:=(i:Int)+1) (by omega) (by omega),aa i]
   have h0:=hr u (G.mono (by omega) hu)
   have put: ∀x:Int,aC x→Ok (fun r=>L3 (m+1) r.1) (cond (small (u.length+[((s.1.getD (i:Int).toNat 0,(a,(x,()))):cE)].length)) (jN.sX N n a q s.1 z.1 (u++[(s.1.getD (i:Int).toNat 0,(a,(x,())))]) ((i+1:Nat):Int)) none):=fun x hx=>aK (by rw[List.length_singleton];omega) (hr _ (G.mono (by omega) (G.cat hu (G.one (m:=1) (G3 (mD h3 _) ha hx) (Nat.le_refl 1)))))
   dsimp only
   exact aw (fun _=>aA ⟨by omega,by omega⟩ (aw (fun _=>cH (fun _=>aA ⟨by omega,by omega⟩ (put _ (e9 _))) fun _=>h0) fun _=>cH (fun _=>aA ⟨by omega,by omega⟩ (put _ (mD e2 _))) fun _=>h0)) fun _=>by omega
  ·exact aw (fun _=>by omega) fun _=>aj (G.mono (by omega) hu)
theorem aiv(N:Nat)(hN:5000000≤N){c:ae}{b:ag}{m:Nat}(h2:200≤m)(hm:m≤7000)(hc:G 5 ar c)(hb:G m aB b):Ok (fun r=>G m aB r.1) (tc N c b):=by
 have D6:=hc.1.1
 unfold tc tc.b
 refine cW (ea N hN (by omega) hb) (b8 (fun _=>aj G.fh) fun _=>bz (len:=c.1.length) (F:=fun n i s=>tc.l5 N n c b (bN,(cI,(bq,(bq,(c3,(de,())))))) s i) (fun i s=>L3 ((m+1)*i) s) G.nil (by omega) (fun n i s hi hI hr=> ?_) (fun n s hI=> ?_))
 all_goals unfold tc.l5 tc.dp
 ·have hs:=hI.1
  have hmi:(m+1)*i≤(m+1)*5:=Nat.mul_le_mul_left _ (by omega)
  rw[an (x:=(i:Int)+1) (by omega) (by omega),aa i]
  exact aw (fun _=>af (R2 N hN c (by omega) hb (gl (by omega) (by omega))) fun r Wv=>cH (fun _=>aj G.fh) fun _=>aK (by have:=Wv.1;omega) (hr _ (G.mono (by rw[Nat.mul_succ];omega) (G.cat hI Wv)))) fun _=>by omega
 ·have hmi:(m+1)*c.1.length≤(m+1)*5:=Nat.mul_le_mul_left _ (by omega)
  exact aw (fun _=>by omega) fun _=>af (pq N (by omega) h2 (by omega) hb (G.mono (by omega) hI) gU.nil) fun r hr=>aj hr
end VM
end
section
namespace VM
open Go VM.F
theorem GL{m:Nat}{a b d e f:Int}{l:av}(ha:aC a)(hl:L2 m l)(hb:aC b)(hd:aC d)(he:aC e)(hf:aC f):G m gW (a,(l,(b,(d,(e,(f,())))))):=⟨ha,hl,hb,hd,he,hf,trivial⟩
theorem LL.app{m:Nat}{k:Nat}{l:aY}{x:gQ}(hl:l.length≤k∧ ∀y∈l,G m gW y)(hx:G m gW x):(l++[x]).length≤k+1∧ ∀y∈l++[x],G m gW y:=
 ⟨by rw[List.length_append,List.length_singleton];have:=hl.1;omega,fun y hy=>(List.mem_append.1 hy).elim (hl.2 y) fun hy=>by rw[List.mem_singleton.1 hy];exact hx⟩
end VM
end
section
namespace VM
open Go VM.F
theorem OV{l:aE}(h:k4 l=true):l.length≤24:=by
 unfold k4 at h
 rw[Bool.and_true]at h
 have h:=of_decide_eq_true h
 have key: ∀i,i<l.length→(i:Int)+1≤(l.getD i aS).1:=by
  intro i
  induction i with
  |zero=>intro hi;exact(h 0 hi).1.1.1
  |succ i ih=>
   intro hi
   have h1:=ih (by omega)
   have h2:(l.getD i aS).1<(l.getD (i+1) aS).1:=(h (i+1) hi).2.1 (by omega)
   have g: ∀a b:Int,(i:Int)+1≤a→a<b→((i+1:Nat):Int)+1≤b:=fun a b h1 h2=>by omega
   exact g _ _ h1 h2
 by_cases hl:l.length≤24
 ·exact hl
 ·have h1:=key 24 (by omega)
  have h2:=(h 24 (by omega)).1.1.2
  have g: ∀a:Int,((24:Nat):Int)+1≤a→a≤24→False:=fun a h1 h2=>by omega
  exact(g _ h1 h2).elim
theorem LS(N:Nat)(hN:5000000≤N){c:ae}{b:ag}{m:Nat}(hm:m≤40000)(hc:G m ar c)(hb:G m aB b)(a:Int):Ok (fun r=>aC r.1) (R3 N c b a):=by
 unfold R3 OR
 exact cW (ea N hN (by omega) hb) (b8 (fun _=>aj bl) fun _=>af (rK N (by omega) (by omega) hb.2.1 _) fun _ _=>b8 (fun _=>aj bl) fun _=>af (Kf N (by omega) (by omega) hb.2.2.2.1 _) fun l hl=>af (Q:=fun r=>Bg 60000 r.1) (af (vB N (by omega) (by omega) hc hl _) fun r hr=>aj hr) fun u hu=>af (vC N (by omega) (by omega) hb _) fun g hg=>dC (fun _=>aj bl) fun _=>af (s3 N hu) fun v hv=>rW (fun _=>aw (fun _=>aj hv) fun _=>aj hg) fun _=>aj hg)
theorem OW(N:Nat)(hN:200000≤N){l:ah}{a d:Int}{m:Nat}(hm:m≤50000)(h:L3 m l)(ha:aC a)(hd:aC d):Ok (fun r=>L3 (2*m) r) (lO N l a d):=by
 have hl:=h.1
 unfold lO lO.b
 refine cW (lY N (by omega) hN) (b8 (fun _=>aj G.nil) fun _=>ok_eq (fun _=>aj G.nil) fun _=>aw (fun _=>aj G.nil) fun _=>aw (fun _=>aj G.nil) fun _=>aw (fun _=>aj G.nil) fun _=>aw (fun _=>aj G.nil) fun _=>bz (len:=l.length) (F:=fun n i s=>lO.l5 N n l a d s i) (fun i s=>L3 (2*i) s) G.nil (by omega) (fun n i s hi hI hr=> ?_) (fun n s hI=> ?_))
 all_goals unfold lO.l5 lO.dp
 ·have hs:=hI.1
  have hx:=G.at h (i:Int).toNat
  dsimp only
  rw[an (x:=(i:Int)+1) (by omega) (by omega),aa i]
  have h1:=hr s (G.mono (by omega) hI)
  exact aw (fun _=>aA ⟨by omega,by omega⟩ (ok_eq (fun _=>aA ⟨by omega,by omega⟩ (aA ⟨by omega,by omega⟩ (aA ⟨by omega,by omega⟩ (aA ⟨by omega,by omega⟩ (aK (by rw[Df];omega) (hr _ (G.mono (by omega) (G.cat hI (G.two (m:=2) (G3 ha hx.2.1 (e9 _)) (G3 hd hx.2.1 hx.2.2.1) (Nat.le_refl 2)))))))))) fun _=>h1)) fun _=>by omega
 ·exact aw (fun _=>by omega) fun _=>aj (G.mono (by omega) hI)
theorem aiw(N:Nat)(hN:5000000≤N){c:ae}{b:ag}{m:Nat}(h2:200≤m)(hm:m≤1000)(hc:G m ar c)(hb:G m aB b)(a:Int):Ok (fun r=>G m aB r.1) (fG N c b a):=by
 unfold fG fG.b
 refine cW (ea N hN (by omega) hb) (b8 (fun _=>aj G.fh) fun hB=>af (BW N (by omega) (by omega) hb _) fun _ _=>ok_eq (fun _=>aj G.fh) fun _=> ?_)
 have hal:b.2.1.length≤24:=by
  unfold c8 at hB
  have h1:=(Bool.and_eq_true_iff.1 (Bool.and_eq_true_iff.1 hB).2).1
  unfold qE at h1
  exact OV (Bool.and_eq_true_iff.1 (Bool.and_eq_true_iff.1 h1).2).1
 refine bz (len:=b.2.1.length) (F:=fun n i (z:ah×bk)=>fG.l8 N n a c b (bN,(cI,(bq,(bq,(c3,(de,())))))) z.1 z.2 i) (s:=(_,_)) (fun i z=>L3 (2*m*i) z.1∧gU (4*i) z.2) ⟨G.nil,gU.nil⟩ (by omega) (fun n i z hi hI hr=> ?_) (fun n z hI=> ?_)
 all_goals unfold fG.l8 fG.xR
 ·obtain⟨h5,h6⟩:=hI
  have h7:=h5.1
  have h8:=h6.1
  have hmi:2*m*i≤2*m*24:=Nat.mul_le_mul_left _ (by omega)
  have hms:2*m*(i+1)=2*m*i+2*m:=Nat.mul_succ _ _
  have hx:G m dL (b.2.1.getD (i:Int).toNat aS):=G.at hb.2.1 _
  have hj: ∀p:bk,gU (4*i+2) p→Ok (fun r=>G m aB r.1) (fG.AN N (fG.l8 N n) a c b (bN,(cI,(bq,(bq,(c3,(de,())))))) z.1 p (i:Int) (b.2.1.getD (i:Int).toNat aS)):=fun p hp=>by
   have Cm:=hp.1
   unfold fG.AN fG.s5
   rw[an (x:=(i:Int)+1) (by omega) (by omega),aa i]
   exact af (vC N (by omega) (by omega) hb _) fun g hg=>aw (fun _=>af (bf N (by omega) hg) fun v hv=>af (rJ N (by omega) (by omega) hv) fun v hv=>af (pz N (by omega) _ _ _ _ (Bg.mono hv (by omega))) fun u hu=>aK (by have:=hu.1;omega) (af (OW N (by omega) (by omega) hb.2.2.2.1 hx.1 bl) fun s hs=>aK (by have:=hs.1;omega) (hr (_,_) ⟨G.mono (by omega) (G.cat h5 hs),gU.mono (gU.app hp hu) (by omega)⟩))) fun _=>af (OW N (by omega) (by omega) hb.2.2.2.1 hx.1 bl) fun s hs=>aK (by have:=hs.1;omega) (hr (_,_) ⟨G.mono (by omega) (G.cat h5 hs),gU.mono hp (by omega)⟩)
  rw[an (x:=(i:Int)+1) (by omega) (by omega),aa i]
  exact aw (fun _=>aA ⟨by omega,by omega⟩ (cH (fun _=>hr z ⟨G.mono (by omega) h5,gU.mono h6 (by omega)⟩) fun _=>ok_eq (fun _=>af (LS N hN (by omega) hc hb _) fun q hq=>af (bf N (by omega) hq) fun v hv=>af (pz N (by omega) _ _ _ _ (Bg.mono hv (by omega))) fun u hu=>aK (by have:=hu.1;omega) (hj _ (gU.mono (gU.app h6 hu) (by omega)))) fun _=>hj _ (gU.mono h6 (by omega)))) fun _=>by omega
 ·obtain⟨h5,h6⟩:=hI
  have hmi:2*m*b.2.1.length≤2*m*24:=Nat.mul_le_mul_left _ (by omega)
  exact aw (fun _=>by omega) fun _=>af (pq N (by omega) h2 (by omega) hb (G.mono (by omega) h5) (gU.mono h6 (by omega))) fun r hr=>aj hr
abbrev GS(m:Nat)(s:aT):Prop:=G m cS s
abbrev SR(m:Nat)(r:aT×cE):Prop:=GS m r.1
theorem Dl(N:Nat)(e:Int):Ok (fun _=>True) (ei N e):=by
 unfold ei;exact fc
theorem acy(N:Nat)(hN:5000000≤N){c:ae}{s:aT}{e:gm}{m:Nat}(h2:200≤m)(hm:m≤1000)(hc:G m ar c)(hs:GS m s)(he:G 0 n7 e):Ok (SR m) (m4 N c s e):=by
 have hhl:=hs.2.2.2.1.2.2.2.2.1.1
 unfold m4 m4.b
 generalize ((0:Int),((0:Int),_))=S0
 refine bz (len:=s.2.2.2.1.2.2.2.2.1.length) (F:=fun n i (z:aT×aE×Bool×Int)=>m4.l5 N n c z.1 e S0 aR z.2.1 z.2.2.1 z.2.2.2 i) (s:=(_,(_,(_,_)))) (fun i z=>GS m z.1∧z.1.2.2.2.1.2.2.2.2.1=s.2.2.2.1.2.2.2.2.1∧G i (.slice dL) z.2.1) ⟨hs,rfl,G.nil⟩ (by omega) (fun n i z hi hI hr=> ?_) (fun n z hI=> ?_)
 all_goals unfold m4.l5 m4.dp
 ·obtain⟨hz,hh,ho⟩:=hI
  have Ev:=ho.1
  rw[hh,an (x:=(i:Int)+1) (by omega) (by omega),aa i]
  have hx:G 0 dL (s.2.2.2.1.2.2.2.2.1.getD (i:Int).toNat aS):=G.at hs.2.2.2.1.2.2.2.2.1 _
  refine aw (fun _=>aA ⟨by omega,by omega⟩ (ok_eq (fun _=>af (RI N hN h2 (by omega) hc hz.2.2.1 (G.mono (Nat.zero_le m) hx) he.2.2.1 he.2.2.2.2.2.2.1 he.2.2.2.2.2.2.2.1) fun r ⟨Nv,PJ⟩=>cH (fun _=>af (Dl N _) fun _ _=>aj hz) fun _=> ?_) fun _=>aw (fun _=>aK (by rw[List.length_singleton];omega) (hr (z.1,(z.2.1++[s.2.2.2.1.2.2.2.2.1.getD (i:Int).toNat aS],z.2.2)) ⟨hz,hh,G.cat ho (G.one hx (Nat.le_refl 1))⟩)) fun _=>hr z ⟨hz,hh,G.mono (by omega) ho⟩)) fun _=>by omega
  have z6:GS m (z.1.1,(z.1.2.1,(r.1,z.1.2.2.2))):=⟨hz.1,hz.2.1,Nv,hz.2.2.2⟩
  have akm:G 0 dL r.2.1:=PJ
  exact aw (fun _=>aK (by rw[List.length_singleton];omega) (hr ((z.1.1,(z.1.2.1,(r.1,z.1.2.2.2))),(z.2.1++[r.2.1],(true,r.2.1.2.2.2.1))) ⟨z6,hh,G.cat ho (G.one akm (Nat.le_refl 1))⟩)) fun _=>hr ((z.1.1,(z.1.2.1,(r.1,z.1.2.2.2))),(z.2.1,(true,r.2.1.2.2.2.1))) ⟨z6,hh,G.mono (by omega) ho⟩
 ·obtain⟨hz,hh,ho⟩:=hI
  rw[hh]
  exact aw (fun _=>by omega) fun _=>b8 (fun _=>af (Dl N _) fun _ _=>aj hz) fun _=>aj ⟨hz.1,hz.2.1,hz.2.2.1,⟨hz.2.2.2.1.1,hz.2.2.2.1.2.1,hz.2.2.2.1.2.2.1,hz.2.2.2.1.2.2.2.1,G.mono hhl ho,hz.2.2.2.1.2.2.2.2.2⟩,hz.2.2.2.2⟩
end VM
end
section
namespace VM
open Go VM.F
theorem aez(N:Nat)(hN:4000000≤N){s:aT}{q:Int}(hs:aC s.1)(hq:aC q):Ok (fun r=>aC r.1) (LV N s q):=by
 unfold LV
 exact af (bf N hN hs) fun a ha=>af (bf N hN hq) fun b hb=>af (gJ N hN (by omega) ha hb) fun x hx=>af (s3 N hx) fun v hv=>aj hv
theorem aix{α:Type}{P:α×cE→Prop}{N:Nat}{e:Int}{f:cE→Option (α×cE)}(h: ∀r,Ok P (f r)):Ok P ((ei N e).bind f):=af (Dl N e) fun r _=>h r
end VM
end
section
namespace VM
open Go VM.F
theorem aeA(N:Nat)(s:aT)(k:Int):Ok (fun _=>True) (R4 N s k):=by
 unfold R4
 repeat' first|exact fc|refine ok_eq (fun _=> ?_) (fun _=> ?_)
theorem acz(N:Nat)(hN:200000≤N){s:aT}{m:Nat}(hm:m≤50000)(hs:GS m s)(k:Int):Ok (fun _=>True) (Dm N s k):=by
 unfold Dm
 exact af (lZ N hN hm hs.2.2.1.1 _) fun _ _=>fc
theorem akn(N:Nat)(hN:200000≤N){s:aT}{m:Nat}(hm:m≤50000)(hs:GS m s)(k:Int):Ok (fun _=>True) (OX N s k):=by
 unfold OX
 exact af (rK N hN hm hs.2.2.1.2.1 _) fun _ _=>fc
theorem aiy(N:Nat)(hN:4000000≤N){s:aT}{m:Nat}(h2:200≤m)(hm:m≤50000)(hs:GS m s)(a b c d:Int){q:Int}(hq:aC q):Ok (SR m) (LW N s a b c d q):=by
 unfold LW
 exact af (bf N hN hq) fun x hx=>af (pz N hN _ _ _ _ (Bg.mono hx (by omega))) fun p hp=>af (pq N hN h2 hm hs.2.2.1 G.nil (gU.mono hp (by omega))) fun r hr=>aj ⟨hs.1,hs.2.1,hr,hs.2.2.2⟩
end VM
end
section
namespace VM
open Go VM.F Go.RowKit
theorem aiz{l:List Int}(h:WF (.slice (.int .u64)) l):Dk 0 ((l,((0:Int),())):aM):=⟨fun x hx=>by
 obtain⟨i,hi,rfl⟩:=List.getElem_of_mem hx
 have h3:0≤l[i]∧l[i]≤18446744073709551615:=wf_u64.1 (h.2 i hi)
 exact⟨h3.1,Int.lt_of_le_of_lt h3.2 (by decide)⟩,Int.le_refl 0,Int.le_refl 0⟩
namespace Pure
end Pure
end VM
end
