/- A part of the proof of AwardPays of layer 25: what the functions compute, in plain words. -/
import Derived.Test.YtocmlaipoebfeaaGreatPlain4
set_option linter.all false
section
namespace VM
open Go VM.F
theorem G4q{m:Nat}{x:bn}{q:Int}(h:G m cN x)(hq:aD q):G m cN (x.1,(x.2.1,(x.2.2.1,(q,x.2.2.2.2)))):=⟨h.1,h.2.1,h.2.2.1,hq,trivial⟩
theorem G4b{m:Nat}{x:bn}{q:Int}(h:G m cN x)(hq:aD q):G m cN (x.1,(q,x.2.2)):=⟨h.1,hq,h.2.2⟩
theorem G2b{m:Nat}{x:LH}{q:Int}(h:G m gW x)(hq:aD q):G m gW (x.1,(q,x.2.2)):=⟨h.1,hq,trivial⟩
theorem Dt(N:Nat)(hN:200000≤N){l:ay}(hl:l.length≤100000):Ok (fun _=>True) (iB N l):=ly (uZ N hl hN) trivial
theorem SK(N:Nat)(hN:200000≤N){a:ax}{l:ay}{x:bn}{m:Nat}(hm:m≤50000)(ha:G m (.slice gW) a)(h:G m (.slice cN) l)(hx:G 0 cN x):Ok (fun r=>G (m+1) (.slice cN) r.1) (eH N a l x):=by
 have h1:=ha.1
 have hl:=h.1
 have fin: ∀k:Nat,k≤l.length→Ok (fun r=>G (m+1) (.slice cN) r.1) (eH.Bi N l x [] (k:Int)):=fun k hk=>by
  unfold eH.Bi eH.tS
  exact Pu hk (by omega) (by simpa using G.ins h (G.mono (auu m) hx) k 0 k (atP _))
 have hj:Ok (fun r=>G (m+1) (.slice cN) r.1) (eH.HT N l x):=by
  unfold eH.HT eH.zU
  refine iD (len:=l.length) (F:=fun n i=>eH.ot N n l x [] i) (by omega) (fun n i hi hr=> ?_) (fun n=> ?_)
  all_goals unfold eH.ot eH.mg
  ·rw[ar (x:=(i:Int)+1) (by omega) (by omega),ae i]
   exact av (fun _=>au ⟨by omega,by omega⟩ (av (fun _=>hr) fun _=>fin i (by omega))) fun _=>by omega
  ·exact av (fun _=>by omega) fun _=>fin _ (atP _)
 unfold eH eH.b
 exact bE (zk N (by omega) (by omega) hN) (bx (fun _=>ah G.nil) fun _=>af (Dt N hN (by rw[atG];omega)) fun _ _=>bx (fun _=>ah G.nil) fun _=>bE (kk N (by omega) hN _) (ok_eq (fun _=>ah G.nil) fun _=>bt (fun _=>ah G.nil) fun _=>bE (uX N (by omega) hN _) (oO (fun _=>ah G.nil) fun _=>ok_eq (fun _=>bE (ph N (by omega) hN _) (bt (fun _=>ah G.nil) fun _=>hj)) fun _=>hj)))
theorem Pw(N:Nat)(hN:200000≤N){l:ay}{m:Nat}(hm:m≤50000)(h:G m (.slice cN) l){id q:Int}(hq:aD q):Ok (fun r=>G m (.slice cN) r.1) (nf N l id q):=by
 have hl:=h.1
 unfold nf nf.b
 refine af (Dt N hN (by omega)) fun _ _=>bx (fun _=>ah G.nil) fun _=>av (fun _=>ah G.nil) fun _=>av (fun _=>ah G.nil) fun _=>bE (uX N (by omega) hN _) (bx (fun _=>ah G.nil) fun _=>aG (by rw[aua];omega) ?_)
 rw[aug]
 refine bc (len:=l.length) (F:=fun n i s=>nf.l8 N n id q s i) (fun _ s=>s.length=l.length∧G m (.slice cN) s) ⟨rfl,h⟩ (by omega) (fun n i s hi hI hr=> ?_) (fun n s hI=> ?_)
 all_goals unfold nf.l8 nf.yh
 ·rw[ar (x:=(i:Int)+1) (by omega) (by omega),ae i]
  have hs:=hI.1
  have hx:=G.at hI.2 (i:Int).toNat
  exact av (fun _=>au ⟨by omega,by omega⟩ (ok_eq (fun _=>au ⟨by omega,by omega⟩ (hr _ ⟨by rw[atX];exact hs,G.set hI.2 (G4q hx hq) _⟩)) fun _=>hr s hI)) fun _=>by omega
 ·have hs:=hI.1
  exact av (fun _=>by omega) fun _=>ah hI.2
theorem Px(N:Nat)(a b:Int):Ok (fun r=>aD r.1) (SL N a b):=by
 have h: ∀(x:Int) (t:Bool),0≤x∧x<5→Ok (fun r:Int×Bool=>aD r.1) (some (x,t)):=fun x t hx=>ah (iR hx (by decide))
 unfold SL
 repeat' first|refine ok_eq (fun _=> ?_) (fun _=> ?_)|exact h _ _ (by decide)
theorem KD(N:Nat)(hN:200000≤N){l:ax}{m:Nat}(hm:m≤50000)(h:G m (.slice gW) l)(id k:Int):Ok (fun r=>G m (.slice gW) r.1) (lA N l id k):=by
 have hl:=h.1
 unfold lA lA.b
 refine bE (og N (by omega) hN) (bx (fun _=>ah G.nil) fun _=>bE (kk N (by omega) hN _) (ok_eq (fun _=>ah G.nil) fun _=>af (Px N _ _) fun z hz=>bx (fun _=>ah G.nil) fun _=>aG (by rw[aua];omega) ?_))
 rw[aug]
 refine bc (len:=l.length) (F:=fun n i s=>lA.ue N n id z.1 s i) (fun _ s=>s.length=l.length∧G m (.slice gW) s) ⟨rfl,h⟩ (by omega) (fun n i s hi hI hr=> ?_) (fun n s hI=> ?_)
 all_goals unfold lA.ue lA.tR
 ·rw[ar (x:=(i:Int)+1) (by omega) (by omega),ae i]
  have hs:=hI.1
  have hx:=G.at hI.2 (i:Int).toNat
  exact av (fun _=>au ⟨by omega,by omega⟩ (ok_eq (fun _=>au ⟨by omega,by omega⟩ (hr _ ⟨by rw[atX];exact hs,G.set hI.2 (G2b hx hz) _⟩)) fun _=>hr s hI)) fun _=>by omega
 ·have hs:=hI.1
  exact av (fun _=>by omega) fun _=>ah hI.2
theorem I4(N:Nat)(hN:200000≤N){a:ax}{l:ay}{m:Nat}(hm:m≤50000)(ha:G m (.slice gW) a)(h:G m (.slice cN) l){id to:Int}(hto:aD to):Ok (fun r=>G m (.slice cN) r.1) (ng N a l id to):=by
 have h1:=ha.1
 have hl:=h.1
 unfold ng ng.b
 refine bE (zk N (by omega) (by omega) hN) (bx (fun _=>ah G.nil) fun _=>bE (uX N (by omega) hN _) (bE (kk N (by omega) hN _) (bx (fun _=>ah G.nil) fun _=>ok_eq (fun _=>ah G.nil) fun _=>bt (fun _=>ah G.nil) fun _=>bt (fun _=>ah G.nil) fun _=>aG (by rw[aua];omega) ?_)))
 rw[aug]
 refine bc (len:=l.length) (F:=fun n i s=>ng.ot N n id to s i) (fun _ s=>s.length=l.length∧G m (.slice cN) s) ⟨rfl,h⟩ (by omega) (fun n i s hi hI hr=> ?_) (fun n s hI=> ?_)
 all_goals unfold ng.ot ng.mg
 ·rw[ar (x:=(i:Int)+1) (by omega) (by omega),ae i]
  have hs:=hI.1
  have hx:=G.at hI.2 (i:Int).toNat
  exact av (fun _=>au ⟨by omega,by omega⟩ (ok_eq (fun _=>au ⟨by omega,by omega⟩ (hr _ ⟨by rw[atX];exact hs,G.set hI.2 (G4b hx hto) _⟩)) fun _=>hr s hI)) fun _=>by omega
 ·have hs:=hI.1
  exact av (fun _=>by omega) fun _=>ah hI.2
theorem Py(N:Nat)(hN:200000≤N){l:ay}{m:Nat}(hm:m≤50000)(h:G m (.slice cN) l)(id:Int):Ok (fun r=>r.length≤m) (nh N l id):=by
 have hl:=h.1
 unfold nh nh.b
 refine af (Dt N hN (by omega)) fun _ _=>bx (fun _=>ah (auu _)) fun _=>bc (len:=l.length) (F:=fun n i s=>nh.l5 N n l id s i) (fun i s=>s.length≤i) (auu _) (by omega) (fun n i s hi hI hr=> ?_) (fun n s hI=> ?_)
 all_goals unfold nh.l5 nh.dr
 ·rw[ar (x:=(i:Int)+1) (by omega) (by omega),ae i]
  exact av (fun _=>au ⟨by omega,by omega⟩ (ok_eq (fun _=>au ⟨by omega,by omega⟩ (aG (by rw[atG];omega) (hr _ (by rw[atJ,atG];omega)))) fun _=>hr s (by omega))) fun _=>by omega
 ·exact av (fun _=>by omega) fun _=>ah (by omega)
abbrev L6(m:Nat)(l:a6):Prop:=G m (.slice jR) l
theorem Pz(N:Nat)(hN:200000≤N){l:a6}{a:List Int}{m:Nat}(hm:m≤50000)(h:L6 m l)(ha:a.length≤m):Ok (fun r=>L6 m r) (fe N l a):=by
 have hl:=h.1
 unfold fe fe.b
 refine bE (kj N (by omega) hN) (bx (fun _=>ah G.nil) fun _=>bc (len:=l.length) (F:=fun n i s=>fe.l5 N n l a s i) (fun i s=>L6 i s) G.nil (by omega) (fun n i s hi hI hr=> ?_) (fun n s hI=> ?_))
 all_goals unfold fe.l5 fe.dr
 ·have hs:=hI.1
  refine av (fun _=> ?_) fun _=>by omega
  refine bc (len:=a.length) (F:=fun n' j b=>fe.l9 N (fe.l5 N n) n' l a s (i:Int) b j) (fun _ _=>True) trivial (by omega) (fun n' j b hj _ dU=> ?_) (fun n' b _=> ?_)
  all_goals unfold fe.l9 fe.s0
  ·rw[ar (x:=(j:Int)+1) (by omega) (by omega),ae j]
   exact av (fun _=>oO (fun _=>dU _ trivial) fun _=>au ⟨by omega,by omega⟩ (au ⟨by omega,by omega⟩ (dU _ trivial))) fun _=>by omega
  ·rw[ar (x:=(i:Int)+1) (by omega) (by omega),ae i]
   have hx:G 0 jR (l.getD (i:Int).toNat eD):=G.at h _
   exact av (fun _=>by omega) fun _=>bx (fun _=>au ⟨by omega,by omega⟩ (aG (by rw[atG];omega) (hr _ (G.cat hI (G.one hx (atP 1)))))) fun _=>hr s (G.mono (by omega) hI)
 ·exact av (fun _=>by omega) fun _=>ah (G.mono hl hI)
theorem F3(N:Nat)(hN:5000000≤N)(c:aa){b:ag}{m:Nat}(hm:m≤50000)(hb:G m aB b)(id:Int):Ok (fun r=>G m aB r.1) (Ms N c b id):=by
 unfold Ms
 exact bE (dO N hN hm hb) (bx (fun _=>ah G.fm) fun _=>af (mH N (by omega) hm hb.1 _) fun _ _=>ok_eq (fun _=>ah G.fm) fun _=>af (Py N (by omega) hm hb.2.1 _) fun a ha=>af (Pz N (by omega) hm hb.2.2.2.2.2.1 ha) fun r hr=>ah ⟨hb.1,hb.2.1,hb.2.2.1,hb.2.2.2.1,hb.2.2.2.2.1,hr,trivial⟩)
theorem F4(N:Nat)(hN:200000≤N){l:ay}{m:Nat}(hm:m≤50000)(h:G m (.slice cN) l)(id:Int):Ok (fun r=>G m (.slice cN) r) (lP N l id):=by
 have hl:=h.1
 unfold lP lP.b
 refine bE (rI N (by omega) hN) (bx (fun _=>ah G.nil) fun _=>bc (len:=l.length) (F:=fun n i s=>lP.l5 N n l id s i) (fun i s=>G i (.slice cN) s) G.nil (by omega) (fun n i s hi hI hr=> ?_) (fun n s hI=> ?_))
 all_goals unfold lP.l5 lP.dr
 ·have hs:=hI.1
  have hx:G 0 cN (l.getD (i:Int).toNat aC):=G.at h _
  rw[ar (x:=(i:Int)+1) (by omega) (by omega),ae i]
  exact av (fun _=>au ⟨by omega,by omega⟩ (bt (fun _=>au ⟨by omega,by omega⟩ (aG (by rw[atG];omega) (hr _ (G.cat hI (G.one hx (atP 1)))))) fun _=>hr s (G.mono (by omega) hI))) fun _=>by omega
 ·exact av (fun _=>by omega) fun _=>ah (G.mono hl hI)
theorem Mt(N:Nat)(hN:200000≤N){l:a6}{m:Nat}(hm:m≤50000)(h:L6 m l)(a id:Int):Ok (fun r=>L6 m r.1) (ni N l a id):=by
 have hl:=h.1
 unfold ni ni.b
 refine bE (kj N (by omega) hN) (bx (fun _=>ah G.nil) fun _=>bc (len:=l.length) (F:=fun n i s=>ni.l5 N n l a id s i) (fun i s=>L6 i s) G.nil (by omega) (fun n i s hi hI hr=> ?_) (fun n s hI=> ?_))
 all_goals unfold ni.l5 ni.dr
 ·have hs:=hI.1
  have hx:G 0 jR (l.getD (i:Int).toNat eD):=G.at h _
  rw[ar (x:=(i:Int)+1) (by omega) (by omega),ae i]
  have h1:=hr s (G.mono (by omega) hI)
  have h2:=hr _ (G.cat hI (G.one hx (atP 1)))
  repeat' first|exact h1|exact h2|refine aG (by rw[atG];omega) ?_|refine au ⟨by omega,by omega⟩ ?_|refine av (fun _=> ?_) (fun _=> ?_)|refine bt (fun _=> ?_) (fun _=> ?_)|(exfalso;omega)
 ·exact av (fun _=>by omega) fun _=>ok_eq (fun _=>ah G.nil) fun _=>ah (G.mono hl hI)
end VM
end
section
namespace VM
open Go VM.F
theorem G6q{m:Nat}{x:eG}{q:Int}(h:G m jR x)(hq:aD q):G m jR (x.1,(x.2.1,(x.2.2.1,(x.2.2.2.1,(q,x.2.2.2.2.2))))):=⟨h.1,h.2.1,h.2.2.1,h.2.2.2.1,hq,h.2.2.2.2.2⟩
theorem SM(N:Nat)(hN:200000≤N){l:a6}{m:Nat}(hm:m≤50000)(h:L6 m l)(a d:Int):Ok (fun r=>L6 m r) (dg N l a d):=by
 have hl:=h.1
 unfold dg dg.b
 refine bE (kj N (by omega) hN) (bx (fun _=>ah G.nil) fun _=>bc (len:=l.length) (F:=fun n i s=>dg.l5 N n l a d s i) (fun i s=>L6 i s) G.nil (by omega) (fun n i s hi hI hr=> ?_) (fun n s hI=> ?_))
 all_goals unfold dg.l5 dg.dr
 ·have hs:=hI.1
  have hx:G 0 jR (l.getD (i:Int).toNat eD):=G.at h _
  have fin: ∀k:Nat,k≤s.length→Ok (fun r=>L6 m r) (dg.HT N (dg.l5 N n) l a d s (i:Int) (k:Int)):=fun k hk=>by
   unfold dg.HT dg.zU
   rw[ar (x:=(i:Int)+1) (by omega) (by omega),ae i]
   dsimp only
   have t: ∀a b:Nat,(List.drop a (List.take b s)).length≤s.length:=fun a b=>by rw[aum,at4];omega
   have t1:=t (0:Int).toNat (k:Int).toNat
   have t2:=t (k:Int).toNat (s.length:Int).toNat
   refine Dq ⟨by omega,by omega,by omega,by omega⟩ (aG (by omega) (au ⟨by omega,by omega⟩ (aG (by rw[atG];omega) (Dq ⟨by omega,by omega,by omega,by omega⟩ (aG (by rw[atJ,atG];omega) (hr _ ?_))))))
   simpa using G.ins hI (G.mono (auu i) hx) k 0 k (atP _)
  have h1:=hr s (G.mono (by omega) hI)
  have hw:Ok (fun r=>L6 m r) (dg.l9 N (dg.l5 N n) N l a d s (i:Int) 0):=by
   refine iD (len:=s.length) (F:=fun n' j=>dg.l9 N (dg.l5 N n) n' l a d s (i:Int) j) (by omega) (fun n' j hj dU=> ?_) (fun n'=> ?_)
   all_goals unfold dg.l9 dg.s0
   ·rw[ar (x:=(j:Int)+1) (by omega) (by omega),ae j]
    have hah: ∀x y:eG,Ok (fun _=>True) (SN N x y):=fun x y=>by unfold SN;exact bt (fun _=>dp) fun _=>dp
    exact av (fun _=>au ⟨by omega,by omega⟩ (au ⟨by omega,by omega⟩ (af (hah _ _) fun _ _=>oO (fun _=>dU) fun _=>fin j (by omega)))) fun _=>by omega
   ·exact av (fun _=>by omega) fun _=>fin _ (atP _)
  rw[ar (x:=(i:Int)+1) (by omega) (by omega),ae i]
  repeat' first|exact h1|exact hw|refine au ⟨by omega,by omega⟩ ?_|refine av (fun _=> ?_) (fun _=> ?_)|refine bt (fun _=> ?_) (fun _=> ?_)|(exfalso;omega)
 ·exact av (fun _=>by omega) fun _=>ah (G.mono hl hI)
theorem PA(N:Nat)(hN:200000≤N){l:a6}{o:eG}{m:Nat}(hm:m≤50000)(h:L6 m l)(ho:G 0 jR o):Ok (fun r=>L6 m r.1∧aD r.2.2.1) (bP N l o):=by
 have hl:=h.1
 have fin: ∀(s:a6) (q:Int) (t:bg),L6 m s→aD q→Ok (fun r=>L6 m r.1∧aD r.2.2.1) (bP.j22 N s q t):=fun s q t hs hq=>by
  have hsl:=hs.1
  unfold bP.j22 bP.ZL
  refine bc (len:=s.length) (F:=fun n i u=>bP.HU N n s q t u i) (fun i u=>L6 i u) G.nil (by omega) (fun n i u hi hI hr=> ?_) (fun n u hI=> ?_)
  all_goals unfold bP.HU bP.I5
  ·have hu:=hI.1
   have hx:G 0 jR (s.getD (i:Int).toNat eD):=G.at hs _
   rw[ar (x:=(i:Int)+1) (by omega) (by omega),ae i]
   have h1:=hr u (G.mono (by omega) hI)
   have h2:=hr _ (G.cat hI (G.one hx (atP 1)))
   repeat' first|exact h1|exact h2|refine aG (by rw[atG];omega) ?_|refine au ⟨by omega,by omega⟩ ?_|refine av (fun _=> ?_) (fun _=> ?_)|(exfalso;omega)
  ·exact av (fun _=>by omega) fun _=>ah ⟨G.mono hsl hI,hq⟩
 have eR:Ok (fun r:a6×bg×Int×Int=>L6 m r.1∧aD r.2.2.1) (some ([],[],(0:Int),(1:Int))):=ah ⟨G.nil,aU⟩
 unfold bP bP.b
 refine bE (kj N (by omega) hN) (bx (fun _=>eR) fun _=>bE (yg N o) (bx (fun _=>eR) fun _=>aG (by rw[aua];omega) (af (SM N hN hm h _ _) fun w hw=> ?_)))
 have hwl:=hw.1
 rw[aug]
 refine bc (len:=w.length) (F:=fun n i (s:a6×Int×bg)=>bP.l7 N n o s.1 s.2.1 s.2.2 w i) (s:=(_,(_,_))) (fun i s=>L6 m s.1∧aD s.2.1∧s.2.2.length≤i) ⟨h,ho.2.2.2.2.1,auu _⟩ (by omega) (fun n i s hi hI hr=> ?_) (fun n s hI=> ?_)
 all_goals unfold bP.l7 bP.oe
 ·obtain⟨hs,hq,ht⟩:=hI
  have f1:=fin s.1 s.2.1 s.2.2 hs hq
  have aku: ∀(v:Int) (t:qO),Ok (fun r=>L6 m r.1∧aD r.2.2.1) (bP.Bi N (bP.l7 N n) o s.1 s.2.1 s.2.2 w (i:Int) v t):=fun v t=>by
   unfold bP.Bi bP.tS
   refine aG (by rw[atG];omega) (bc (len:=s.1.length) (F:=fun n' j u=>bP.vi N (bP.l7 N n) n' o u (W .i64 (s.2.1-v)) (s.2.2++[t]) w (i:Int) v j) (fun _ u=>u.length=s.1.length∧L6 m u) ⟨rfl,hs⟩ (by have:=hs.1;omega) (fun n' j u hj hJ dU=> ?_) (fun n' u hJ=> ?_))
   all_goals unfold bP.vi bP.sO
   ·have hsl:=hs.1
    have XE:=hJ.1
    rw[ar (x:=(j:Int)+1) (by omega) (by omega),ae j]
    exact av (fun _=>au ⟨by omega,by omega⟩ (au ⟨by omega,by omega⟩ (ok_eq (fun _=>au ⟨by omega,by omega⟩ (au ⟨by omega,by omega⟩ (dU _ ⟨by rw[atX];exact XE,G.set hJ.2 (G6q (G.at hJ.2 _) (dS _)) _⟩))) fun _=>dU u hJ))) fun _=>by omega
   ·have XE:=hJ.1
    rw[ar (x:=(i:Int)+1) (by omega) (by omega),ae i]
    exact av (fun _=>by omega) fun _=>hr (_,(_,_)) ⟨hJ.2,dS _,by dsimp only;rw[List.length_append,List.length_singleton];omega⟩
  have SO:Ok (fun r=>L6 m r.1∧aD r.2.2.1) (bP.PB N (bP.l7 N n) o s.1 s.2.1 s.2.2 w (i:Int)):=by
   unfold bP.PB bP.I6
   rw[ar (x:=(i:Int)+1) (by omega) (by omega),ae i]
   dsimp only
   have h1:=hr s ⟨hs,hq,by omega⟩
   repeat' first|exact h1|exact aku _ _|refine au ⟨by omega,by omega⟩ ?_|refine ok_eq (fun _=> ?_) (fun _=> ?_)
  repeat' first|exact f1|exact SO|refine au ⟨by omega,by omega⟩ ?_|refine av (fun _=> ?_) (fun _=> ?_)|refine ok_eq (fun _=> ?_) (fun _=> ?_)|(exfalso;omega)
 ·exact av (fun _=>by omega) fun _=>fin _ _ _ hI.1 hI.2.1
theorem PC(N:Nat)(hN:5000000≤N){c:aa}{b:ag}{o:eG}{m:Nat}(h2:200≤m)(hm:m≤40000)(hc:G m an c)(hb:G m aB b)(ho:G 0 jR o):Ok (fun r=>G (m+1) aB r.1) (jl N c b o):=by
 have DZ:=hb.2.2.2.2.2.1.1
 have eR: ∀(t:bg) (e:Int),Ok (fun r:ag×bg×Int×Int=>G (m+1) aB r.1) (some ((aS,(cj,(ba,(ba,(cI,(cL,())))))),(t,((0:Int),e)))):=fun t e=>ah (G.zero (m+1) aB)
 have SO: ∀(r:a6) (t:bg) (q:Int),L6 m r→aD q→Ok (fun r=>G (m+1) aB r.1) (jl.PB N c b o (aS,(cj,(ba,(ba,(cI,(cL,())))))) r t q):=fun r t q hr hq=>by
  have En:=hr.1
  unfold jl.PB jl.I6
  have hx:G 0 jR (o.1,(o.2.1,(o.2.2.1,(o.2.2.2.1,(q,o.2.2.2.2.2))))):=G6q ho hq
  exact af (Ci N hN c h2 (by omega) hb) fun z hz=>bt (fun _=>eR _ _) fun _=>by
   have yb:G (m+1) aB z.1:=G.mono (by omega) hz
   exact av (fun _=>aG (by rw[atG];omega) (ah ⟨yb.1,yb.2.1,yb.2.2.1,yb.2.2.2.1,yb.2.2.2.2.1,G.cat hr (G.one hx (atP 1)),trivial⟩)) fun _=>ah ⟨yb.1,yb.2.1,yb.2.2.1,yb.2.2.2.1,yb.2.2.2.2.1,G.mono (by omega) hr,trivial⟩
 have hj7:Ok (fun r=>G (m+1) aB r.1) (jl.j7 N c b o (aS,(cj,(ba,(ba,(cI,(cL,()))))))):=by
  unfold jl.j7 jl.Zn
  exact af (PA N (by omega) (by omega) hb.2.2.2.2.2.1 ho) fun z hz=>av (fun _=>ok_eq (fun _=>eR _ _) fun _=>SO _ _ _ hz.1 hz.2) fun _=>SO _ _ _ hz.1 hz.2
 unfold jl jl.b
 refine af (FX N hN h2 hm hc hb (G.mono (auu m) ho)) fun e _=>bt (fun _=>eR _ _) fun _=>av (fun h0=> ?_) fun _=>hj7
 dsimp only
 exact au (by rw[ar (by omega) (by omega)];omega) (c5 (fun _=>eR _ _) fun _=>hj7)
end VM
end
section
namespace VM
open Go VM.F
theorem ZM(N:Nat)(a:Int):Ok (fun _=>True) (I1 N a):=by
 unfold I1
 exact ok_eq (fun _=>dp) fun _=>dp
theorem gl.one{k n:Int}{x:aq}{m:Nat}(h:Bg m x)(hm:m≤8):gl 1 [(k,(n,(x,())))]:=⟨atP 1,fun y hy=>by rw[at2.1 hy];exact Bg.mono h hm⟩
theorem PD(N:Nat)(hN:4000000≤N){l:aj}{m:Nat}(hm:m≤50000)(h:L3 m l)(i a b:Int):Ok (fun r=>gl m r.1) (nj N l i a b):=by
 have hl:=h.1
 unfold nj nj.b
 have p64: ∀p:Int,decide (1≤p∧p≤1000000000000)=true→aD p:=fun p h=>by have:=atY h;unfold aD;omega
 refine bE (mF N (by omega) (by omega)) (bx (fun _=>ah gl.nil) fun _=>bE (jb N _) (bx (fun _=>ah gl.nil) fun ha=>bE (jb N _) (bx (fun _=>ah gl.nil) fun hb=>af (aX N hN (p64 _ hb)) fun x hx=>af (aX N hN (p64 _ ha)) fun y hy=>af (vq N hN (by omega) hx hy) fun z hz=>bc (len:=l.length) (F:=fun n j s=>nj.l6 N n l i s z j) (fun j s=>gl j s) gl.nil (by omega) (fun n j s hj hI hr=> ?_) (fun n s hI=> ?_))))
 all_goals unfold nj.l6 nj.oX
 ·have hs:=hI.1
  rw[ar (x:=(j:Int)+1) (by omega) (by omega),ae j]
  have h1:=hr s (gl.mono hI (by omega))
  exact av (fun _=>au ⟨by omega,by omega⟩ (bt (fun _=>h1) fun _=>af (yn N hz) fun _ _=>ok_eq (fun _=>h1) fun _=>au ⟨by omega,by omega⟩ (af (ZM N _) fun _ _=>au ⟨by omega,by omega⟩ (af (aX N hN (G.at h _).2.2.1) fun v hv=>af (jJ N hN (by omega) (by omega) hv hz) fun u hu=>aG (by rw[atG];omega) (hr _ (gl.app hI (gl.one hu (by omega)))))))) fun _=>by omega
 ·exact av (fun _=>by omega) fun _=>ah (gl.mono hI (by omega))
theorem F6(N:Nat)(hN:5000000≤N)(c:aa){b:ag}{m:Nat}(h2:200≤m)(hm:m≤50000)(hb:G m aB b)(i:Int){p:Int}(hp:aD p):Ok (fun r=>G m aB r.1∧gl m r.2.1) (SP N c b i p):=by
 have eR: ∀e:Int,Ok (fun r:ag×bl×Int=>G m aB r.1∧gl m r.2.1) (some ((aS,(cj,(ba,(ba,(cI,(cL,())))))),([],e))):=fun e=>ah ⟨G.fm,gl.nil⟩
 have YI:=hb.2.2.2.2.1.1
 unfold SP
 refine bE (dO N hN hm hb) (bx (fun _=>eR _) fun hB=>bE (jb N _) (bx (fun _=>eR _) fun _=>av (fun _=>eR _) fun h0=>c5 (fun _=>eR _) fun h1=> ?_))
 obtain⟨Na,_⟩:=iu hB
 dsimp only
 rw[aug]
 exact au ⟨h0,by rw[Na];exact h1⟩ (af (PD N (by omega) hm hb.2.2.2.1 _ _ _) fun f hf=>af (oA N (by omega) h2 hm hb G.nil (gl.mono hf hm)) fun r hr=>bt (fun _=>eR _) fun _=>aG (by rw[aua];omega) (au ⟨h0,by rw[Na];exact h1⟩ (ah ⟨⟨hr.1,hr.2.1,hr.2.2.1,hr.2.2.2.1,G.set hb.2.2.2.2.1 hp _,hr.2.2.2.2.2⟩,hf⟩)))
abbrev L2(m:Nat)(l:ax):Prop:=G m (.slice gW) l
theorem G2{m:Nat}{a b:Int}(ha:aD a)(hb:aD b):G m gW (a,(b,())):=⟨ha,hb,trivial⟩
theorem Ck(N:Nat)(hN:200000≤N){l:ax}(hl:l.length≤100000):Ok (fun _=>True) (mq N l):=by
 unfold mq mq.b
 refine iD (len:=l.length) (F:=fun n i=>mq.l2 N n l i) (by omega) (fun n i hi hr=> ?_) (fun n=> ?_)
 all_goals unfold mq.l2 mq.dP
 ·rw[ar (x:=(i:Int)+1) (by omega) (by omega),ae i]
  dsimp only
  repeat' first|exact hr|exact dp|refine au ⟨by omega,by omega⟩ ?_|refine au (by rw[ar (x:=(i:Int)-1) (by omega) (by omega)];omega) ?_|refine av (fun _=> ?_) (fun _=> ?_)|refine c5 (fun _=> ?_) (fun _=> ?_)|refine ok_eq (fun _=> ?_) (fun _=> ?_)|(exfalso;omega)
 ·exact av (fun _=>by omega) fun _=>dp
theorem PE(N:Nat)(hN:4000000≤N){g:ax}{p:bl}{m:Nat}(h2:200≤m)(hm:m≤50000)(h:L2 m g)(hp:gl m p):Ok (fun r=>L2 m r.1) (c8 N g p):=by
 have hl:=h.1
 have YI:=hp.1
 unfold c8 c8.b
 refine af (Ck N (by omega) (by omega)) fun _ _=>bx (fun _=>ah G.nil) fun _=>gU (len:=25) (F:=fun n i s=>c8.l5 N n g p s i) (fun i s=>L2 i s) (fun n i s hi hI hr=> ?_) (fun n s hI=> ?_) 25 N 1 [] (by omega) (by omega) (by omega) G.nil
 all_goals unfold c8.l5 c8.dr
 ·have hs:=hI.1
  refine c5 (fun _=> ?_) fun _=>by omega
  refine bc (len:=g.length) (F:=fun n' j t=>c8.l9 N (c8.l5 N n) n' g p s (i:Int) t j) (fun _ t=>Bg 2 t) (Dr (by omega)) (by omega) (fun n' j t hj ht dU=> ?_) (fun n' t ht=> ?_)
  all_goals unfold c8.l9 c8.s0
  ·rw[ar (x:=(j:Int)+1) (by omega) (by omega),ae j]
   exact av (fun _=>au ⟨by omega,by omega⟩ (ok_eq (fun _=>au ⟨by omega,by omega⟩ (af (aX N hN (G.at h _).2.1) fun r hr=>dU r hr)) fun _=>dU t ht)) fun _=>by omega
  ·refine av (fun _=>by omega) fun _=> ?_
   refine bc (len:=p.length) (F:=fun Ch j t=>c8.B8 N (c8.l5 N n) Ch g p s (i:Int) t j) (fun j t=>Bg (8+j) t) (Bg.mono ht (by omega)) (by omega) (fun Ch j t hj ht dU=> ?_) (fun Ch t ht=> ?_)
   all_goals unfold c8.B8 c8.zL
   ·rw[ar (x:=(j:Int)+1) (by omega) (by omega),ae j]
    have h1:=dU t (Bg.mono ht (by omega))
    exact av (fun _=>au ⟨by omega,by omega⟩ (ok_eq (fun _=>au ⟨by omega,by omega⟩ (ok_eq (fun _=>au ⟨by omega,by omega⟩ (af (gV N hN (by omega) ht (Bg.mono (hp.at _) (by omega))) fun r hr=>dU r (Bg.mono hr (by omega)))) fun _=>h1)) fun _=>h1)) fun _=>by omega
   ·rw[ar (x:=(i:Int)+1) (by omega) (by omega),ae i]
    exact av (fun _=>by omega) fun _=>af (tQ N ht) fun v hv=>bx (fun _=>ah G.nil) fun _=>bt (fun _=>aG (by rw[atG];omega) (hr _ (G.cat hI (G.one (m:=1) (G2 (fH (by omega) (by omega)) hv) (atP 1))))) fun _=>hr s (G.mono (by omega) hI)
 ·exact c5 (fun _=>by omega) fun _=>ah (G.mono (by omega) hI)
theorem oD(N:Nat)(hN:4000000≤N)(a b c d:Int){x:aq}(h:Bg 8 x):Ok (fun r=>gl 2 r) (zV N a b c d x):=by
 unfold zV
 exact af (pk N hN (by omega) h) fun y hy=>ah ⟨atP 2,fun z hz=>by
  rcases atZ.1 hz with rfl|hz
  ·exact hy
  ·rw[at2.1 hz];exact h⟩
theorem F7(N:Nat)(hN:5000000≤N){c:aa}{b:ag}{m:Nat}(h2:200≤m)(hm:m≤40000)(hc:G m an c)(hb:G m aB b)(a:Int){q:Int}(hq:aD q):Ok (fun r=>G m aB r.1) (SQ N c b a q):=by
 unfold SQ
 exact bE (dO N hN (by omega) hb) (bx (fun _=>ah G.fm) fun _=>av (fun _=>ah G.fm) fun _=>af (su N (by omega) (by omega) hb.2.1 _) fun _ _=>bx (fun _=>ah G.fm) fun _=>af (mH N (by omega) (by omega) hb.1 _) fun _ _=>bt (fun _=>ah G.fm) fun _=>af (m8 N (by omega) (by omega) hb.2.2.1 _ _) fun g hg=>af (aX N (by omega) hg) fun x hx=>af (aX N (by omega) hq) fun y hy=>af (vq N (by omega) (by omega) hx hy) fun z hz=>af (FW N (by omega) h2 hm hc hb (auu _) _) fun w hw=>af (oP N (by omega) (by omega) (by omega) hz hw) fun _ _=>av (fun _=>ah G.fm) fun _=>af (aX N (by omega) hq) fun y hy=>af (oD N (by omega) _ _ _ _ (Bg.mono hy (by omega))) fun p hp=>af (oA N (by omega) h2 (by omega) hb G.nil (gl.mono hp (by omega))) fun r hr=>ah hr)
theorem I7(N:Nat)(hN:1000≤N){c:aa}(hc:G 5 an c):Ok (fun r=>G 5 aB r.1) (gH N c):=by
 have hl:=hc.1.1
 unfold gH gH.b
 have hj: ∀b:ag,G 5 aB b→Ok (fun r=>G 5 aB r.1) (gH.j6 N c (aS,(cj,(ba,(ba,(cI,(cL,())))))) b []):=fun b hb=>by
  unfold gH.j6 gH.M8
  obtain⟨b1,b2,b3,b4,b5,b6⟩:=b
  refine bc (len:=c.1.length) (F:=fun n i (z:ag×List Int)=>gH.l7 N n c (aS,(cj,(ba,(ba,(cI,(cL,())))))) z.1 z.2 i) (s:=((b1,(b2,(b3,(b4,(b5,b6))))),_)) (fun i z=>G 5 aB z.1∧G i (.slice (.int .i64)) z.2) ⟨hb,G.nil⟩ (by omega) (fun n i z hi hI hr=> ?_) (fun n z hI=> ?_)
  all_goals unfold gH.l7 gH.oe
  ·have hz:=hI.2.1
   rw[ar (x:=(i:Int)+1) (by omega) (by omega),ae i]
   have hx:G 0 (.int .i64) (c.1.getD (i:Int).toNat aC).2.1:=(G.at hc.1 _).2.1
   exact av (fun _=>au ⟨by omega,by omega⟩ (aG (by rw[atG];omega) (hr (_,_) ⟨⟨hI.1.1,hI.1.2.1,hI.1.2.2.1,hI.1.2.2.2.1,G.nil,hI.1.2.2.2.2.2⟩,G.cat hI.2 (G.one hx (atP 1))⟩))) fun _=>by omega
  ·exact av (fun _=>by omega) fun _=>ah ⟨hI.1.1,hI.1.2.1,hI.1.2.2.1,hI.1.2.2.2.1,G.mono hl hI.2,hI.1.2.2.2.2.2⟩
 have DW:L3 5 [((1:Int),((0:Int),(W .i64 (0-c.2.1),()))),((3:Int),((0:Int),(c.2.1,())))]:=G.two (G3 (show aD 1 from aV) aU (dS _)) (G3 (show aD 3 from aV) aU hc.2.1) (by decide)
 exact bE (m0 N (by omega) c) (bx (fun _=>ah G.fm) fun _=>bt (fun _=>hj _ ⟨G.nil,G.nil,DW,G.nil,G.nil,G.nil,trivial⟩) fun _=>hj _ G.fm)
end VM
end
section
namespace VM
open Go VM.F
theorem we(N:Nat)(hN:4000000≤N){c:aa}{l:ax}{m:Nat}(hm:m≤50000)(hc:G m an c)(hl:L2 m l)(f:Bool):Ok (fun r=>Bg 60000 r.1) (lQ N c l f):=by
 have h1:=hl.1
 unfold lQ lQ.b
 refine bE (u7 N (by omega) c (by omega)) (bx (fun _=>ah (Dr (by omega))) fun hk=>bc (len:=l.length) (F:=fun n i t=>lQ.l5 N n l f c (false,(([]:List Int),())) t i) (fun i t=>Bg (8+i) t) (Dr (by omega)) (by omega) (fun n i t hi ht hr=> ?_) (fun n t ht=> ?_))
 all_goals unfold lQ.l5 lQ.dr
 ·rw[ar (x:=(i:Int)+1) (by omega) (by omega),ae i,atE]
  unfold lM at hk
  have hp:=atY (auc.1 hk).1 i hi
  unfold jV kq at hp
  have in1: ∀{x y:Option (aq×Int)},Ok (fun r=>Bg 60000 r.1) x→Ok (fun r=>Bg 60000 r.1) (cond (aM (l.getD i bR).1 c.1.length) x y):=fun h=>au ⟨hp.1,hp.2.1⟩ h
  have hw: ∀q:Int,aD q→Ok (fun r=>Bg 60000 r.1) ((fu N (l.getD i bR).2.1).bind fun r3=>(On N r3).bind fun r4=>(fu N q).bind fun r5=>(gj N r4 r5).bind fun r6=>(ub N t r6).bind fun r7=>lQ.l5 N n l f c (false,(([]:List Int),())) r7 ((i+1:Nat):Int)):=fun q hq=>
   af (aX N hN (G.at hl i).2.1) fun x hx=>af (rP N hN (by omega) hx) fun x hx=>af (aX N hN hq) fun y hy=>af (jJ N hN (by omega) (by omega) hx hy) fun z hz=>af (gV N hN (by omega) ht (Bg.mono hz (by omega))) fun u hu=>hr u (Bg.mono hu (by omega))
  exact av (fun _=>au ⟨by omega,by omega⟩ (in1 (oO (fun _=>au ⟨by omega,by omega⟩ (in1 (au ⟨by omega,by omega⟩ (hw _ (G.at hc.1 _).2.2.2.1)))) fun _=>au ⟨by omega,by omega⟩ (hw _ (G.at hc.1 _).2.2.1)))) fun _=>by omega
 ·exact av (fun _=>by omega) fun _=>ah (Bg.mono ht (by omega))
theorem sx(N:Nat)(hN:200000≤N){b:ag}{m:Nat}(hm:m≤50000)(hb:G m aB b)(id:Int):Ok (fun _=>True) (Du N b id):=by
 unfold Du
 exact af (mH N hN hm hb.1 _) fun _ _=>dp
theorem sy(N:Nat)(hN:200000≤N){b:ag}{m:Nat}(hm:m≤50000)(hb:G m aB b)(id:Int):Ok aD (I8 N b id):=by
 unfold I8
 exact af (m8 N hN hm hb.2.2.1 _ _) fun r hr=>ah hr
theorem SS(N:Nat)(hN:5000000≤N){c:aa}{b:ag}{m:Nat}(hm:m≤40000)(hc:G m an c)(hb:G m aB b)(f:Int){to:Int}(hto:aD to)(a:Int):Ok (fun r=>G m aB r.1) (SU N c b f to a):=by
 have Iq:Ok (fun _=>True) (SV N c b f to a):=by
  unfold SV ZN
  have mb:=fun id=>sx N (by omega) (by omega) hb id
  exact bE (dO N hN (by omega) hb) (bx (fun _=>dp) fun _=>af (su N (by omega) (by omega) hb.2.1 _) fun _ _=>bx (fun _=>dp) fun _=>af (mb _) fun _ _=>ok_eq (fun _=>dp) fun _=>af (mb _) fun _ _=>ok_eq (fun _=>dp) fun _=>bt (fun _=>dp) fun _=>bt (fun _=>dp) fun _=>af (mb _) fun _ _=>bt (fun _=>dp) fun _=>af (FV N (by omega) (by omega) hb.2.2.2.1 _) fun l hl=>af (Q:=fun r=>Bg 60000 r.1) (af (we N (by omega) (by omega) hc hl _) fun r hr=>ah hr) fun u hu=>af (sy N (by omega) (by omega) hb _) fun g hg=>af (aX N (by omega) hg) fun x hx=>af (oP N (by omega) (by omega) (by omega) hx hu) fun _ _=>av (fun _=>dp) fun _=>dp)
 unfold SU
 exact af Iq fun _ _=>bt (fun _=>ah G.fm) fun _=>af (I4 N (by omega) (by omega) hb.1 hb.2.1 hto) fun r hr=>bt (fun _=>ah G.fm) fun _=>ah ⟨hb.1,hr,hb.2.2⟩
theorem Mu(N:Nat)(hN:4000000≤N){x:aq}{q:Int}(hx:Bg 60000 x)(hq:aD q):Ok (fun r=>0≤r∧r≤3) (nk N x q):=by
 unfold nk nk.b
 refine af (yn N hx) fun _ _=>c5 (fun _=>ah (by decide)) fun _=>av (fun _=>ah (by decide)) fun _=>gU (len:=3) (F:=fun n i (_:Unit)=>nk.l4 N n q x i) (fun _ _=>True) (fun n i _ hi _ hr=> ?_) (fun n _ _=> ?_) 3 N 1 () (by omega) (by omega) (by omega) trivial
 all_goals unfold nk.l4 nk.cY
 ·rw[ar (x:=(i:Int)+1) (by omega) (by omega),ae i]
  exact av (fun _=>af (aX N hN (fH (by omega) (by omega))) fun a ha=>af (aX N hN hq) fun b hb=>af (jJ N hN (by omega) (by omega) ha hb) fun y hy=>af (oP N hN (by omega) (by omega) hy hx) fun _ _=>av (fun _=>hr () trivial) fun _=>ah (by omega)) fun _=>by omega
 ·exact av (fun _=>by omega) fun _=>ah (by omega)
theorem SW(N:Nat)(hN:5000000≤N)(c:aa){b:ag}{m:Nat}(hm:m≤50000)(hb:G m aB b):Ok (fun r=>G m (.slice (.int .i64)) r.1) (nn N c b):=by
 have hl:=hb.1.1
 unfold nn nn.b
 refine bE (dO N hN hm hb) (bx (fun _=>ah G.nil) fun _=>bc (len:=b.1.length) (F:=fun n i s=>nn.l5 N n b s i) (fun i s=>G i (.slice (.int .i64)) s) G.nil (by omega) (fun n i s hi hI hr=> ?_) (fun n s hI=> ?_))
 all_goals unfold nn.l5 nn.dr
 ·have hs:=hI.1
  rw[ar (x:=(i:Int)+1) (by omega) (by omega),ae i]
  have h1:=hr s (G.mono (by omega) hI)
  have hx:G 0 (.int .i64) (b.1.getD (i:Int).toNat bR).1:=(G.at hb.1 _).1
  exact av (fun _=>au ⟨by omega,by omega⟩ (ok_eq (fun _=>au ⟨by omega,by omega⟩ (af (m8 N (by omega) hm hb.2.2.1 _ _) fun _ _=>av (fun _=>au ⟨by omega,by omega⟩ (aG (by rw[atG];omega) (hr _ (G.cat hI (G.one hx (atP 1)))))) fun _=>h1)) fun _=>h1)) fun _=>by omega
 ·exact av (fun _=>by omega) fun _=>ah (G.mono hl hI)
abbrev LL(m:Nat)(l:az):Prop:=G m (.slice dF) l
theorem zW(N:Nat)(hN:200000≤N){l:az}{m:Nat}(hm:m≤50000)(h:LL m l)(id:Int):Ok (fun r=>G m dF r.1) (mu N l id):=by
 have hl:=h.1
 unfold mu mu.b
 refine iD (len:=l.length) (F:=fun n i=>mu.l2 N n l id ((0:Int),(aS,aC)) i) (by omega) (fun n i hi hr=> ?_) (fun n=> ?_)
 all_goals unfold mu.l2 mu.dP
 ·rw[ar (x:=(i:Int)+1) (by omega) (by omega),ae i]
  exact av (fun _=>au ⟨by omega,by omega⟩ (ok_eq (fun _=>au ⟨by omega,by omega⟩ (ah (G.at h _))) fun _=>hr)) fun _=>by omega
 ·exact av (fun _=>by omega) fun _=>ah (G.zero m dF)
theorem Mv(N:Nat)(hN:4000000≤N){a b:ax}{m:Nat}(h6:6≤m)(hm:m≤40000)(ha:L2 m a)(hb:L2 m b):Ok (fun r=>L2 m r.1) (c9 N a b):=by
 have hal:=ha.1
 have tZ:=hb.1
 unfold c9 c9.b
 refine bc (len:=6) (F:=fun n i s=>c9.l3 N n a b s i) (fun i s=>L2 i s) G.nil (by omega) (fun n i s hi hI hr=> ?_) (fun n s hI=> ?_)
 all_goals unfold c9.l3 c9.ji
 ·have hs:=hI.1
  refine av (fun _=> ?_) fun _=>by omega
  refine bc (len:=a.length) (F:=fun n' j t=>c9.l7 N (c9.l3 N n) n' a b s (i:Int) t j) (fun j t=>Bg (3+j) t) (Dr (by omega)) (by omega) (fun n' j t hj ht dU=> ?_) (fun n' t ht=> ?_)
  all_goals unfold c9.l7 c9.oe
  ·rw[ar (x:=(j:Int)+1) (by omega) (by omega),ae j]
   exact av (fun _=>au ⟨by omega,by omega⟩ (ok_eq (fun _=>au ⟨by omega,by omega⟩ (af (aX N hN (G.at ha _).2.1) fun r hr=>af (gV N hN (by omega) ht (Bg.mono hr (by omega))) fun u hu=>dU u (Bg.mono hu (by omega)))) fun _=>dU t (Bg.mono ht (by omega)))) fun _=>by omega
  ·refine av (fun _=>by omega) fun _=> ?_
   refine bc (len:=b.length) (F:=fun Ch j t=>c9.nE N (c9.l3 N n) Ch a b s (i:Int) t j) (fun j t=>Bg (3+a.length+j) t) ht (by omega) (fun Ch j t hj ht dU=> ?_) (fun Ch t ht=> ?_)
   all_goals unfold c9.nE c9.mf
   ·rw[ar (x:=(j:Int)+1) (by omega) (by omega),ae j]
    exact av (fun _=>au ⟨by omega,by omega⟩ (ok_eq (fun _=>au ⟨by omega,by omega⟩ (af (aX N hN (G.at hb _).2.1) fun r hr=>af (gV N hN (by omega) ht (Bg.mono hr (by omega))) fun u hu=>dU u (Bg.mono hu (by omega)))) fun _=>dU t (Bg.mono ht (by omega)))) fun _=>by omega
   ·rw[ar (x:=(i:Int)+1) (by omega) (by omega),ae i]
    exact av (fun _=>by omega) fun _=>af (xd N ht) fun v hv=>bx (fun _=>ah G.nil) fun _=>bt (fun _=>aG (by rw[atG];omega) (hr _ (G.cat hI (G.one (m:=1) (G2 (fH (by omega) (by omega)) hv) (atP 1))))) fun _=>hr s (G.mono (by omega) hI)
 ·exact av (fun _=>by omega) fun _=>ah (G.mono h6 hI)
theorem F8(N:Nat)(hN:5000000≤N){c:aa}{b:ag}{a7:az}{l:ay}{x:bn}{m:Nat}(h6:6≤m)(hm:m≤40000)(hc:G m an c)(hb:G m aB b)(hL:LL m a7)(hl:G m (.slice cN) l)(hx:G 0 cN x):Ok (fun _=>True) (gY N c b a7 l x):=by
 have K8:=hl.1
 have hLl:=hL.1
 have hal:=hb.2.1.1
 have DZ:=hb.2.2.2.2.2.1.1
 have hw:w5 a7:=fun y hy=>aut (hL.2 y hy).2.1.1 (by omega)
 unfold gY gY.b
 have hj:Ok (fun _=>True) (gY.j3 N a7 l c b x):=by
  unfold gY.j3 gY.j3b
  refine af (sx N (by omega) (by omega) hb _) fun _ _=>ok_eq (fun _=>dp) fun _=>bt (fun _=>dp) fun _=>af (zW N (by omega) (by omega) hL _) fun z hz=>bE (ph N (by omega) (by omega) _) (bx (fun _=>dp) fun _=>bt (fun _=>dp) fun _=>ok_eq (fun _=>dp) fun _=>iD (len:=l.length) (F:=fun n i=>gY.ot N n l c b x z.1 (c6 b.2.1 x.2.2.1) i) (by omega) (fun n i hi hr=> ?_) (fun n=> ?_))
  all_goals unfold gY.ot gY.mg
  ·rw[ar (x:=(i:Int)+1) (by omega) (by omega),ae i]
   exact av (fun _=>au ⟨by omega,by omega⟩ (ok_eq (fun _=>au ⟨by omega,by omega⟩ (ok_eq (fun _=>dp) fun _=>hr)) fun _=>hr)) fun _=>by omega
  ·refine av (fun _=>by omega) fun _=>ok_eq (fun _=>dp) fun _=>af (aX N (by omega) hx.2.2.2.1) fun p hp=>af (aX N (by omega) (show aD 4 from aV)) fun q hq=>af (aX N (by omega) hz.2.2.1) fun r hr=>af (jJ N (by omega) (by omega) (by omega) hq hr) fun u hu=>af (oP N (by omega) (by omega) (by omega) hp hu) fun _ _=>av (fun _=>dp) fun _=>af (FV N (by omega) (by omega) hb.2.2.2.1 _) fun a ha=>af (Mv N (by omega) h6 (by omega) ha hz.2.1) fun j hj=>bx (fun _=>dp) fun _=> ?_
   unfold ZO
   exact af (Q:=fun r=>L3 6 r) (bE (kj N (by omega) (by omega)) (bx (fun _=>ah G.nil) fun _=>af (zT N (by omega) (by omega) _) fun r hr=>ah hr)) fun o ho=>af (FU N (by omega) (by omega) hc hj (G.mono h6 ho)) fun w hw=>af (sy N (by omega) (by omega) hb _) fun g hg=>af (aX N (by omega) hg) fun v hv=>af (aX N (by omega) hx.2.2.2.1) fun p hp=>af (vq N (by omega) (by omega) hv hp) fun d hd=>af (oP N (by omega) (by omega) (by omega) hd hw) fun _ _=>av (fun _=>dp) fun _=>dp
 refine bE (dO N hN (by omega) hb) (bx (fun _=>dp) fun _=>bE (zv N (by omega) c (by omega) hw) (bx (fun _=>dp) fun _=>bE (rI N (by omega) (by omega)) (bx (fun _=>dp) fun _=>bE (Kd N _) (bx (fun _=>dp) fun _=>av (fun _=> ?_) fun _=>hj))))
 dsimp only
 exact au (by rw[ar (by omega) (by omega)];omega) (c5 (fun _=>dp) fun _=>hj)
theorem Mw(N:Nat)(hN:5000000≤N){c:aa}{b:ag}{a7:az}{l:ay}{x:bn}{m:Nat}(h6:6≤m)(hm:m≤40000)(hc:G m an c)(hb:G m aB b)(hL:LL m a7)(hl:G m (.slice cN) l)(hx:G 0 cN x):Ok (fun r=>G (m+1) (.slice cN) r.1) (SX N c b a7 l x):=by
 have K8:=hl.1
 unfold SX
 refine af (F8 N hN h6 hm hc hb hL hl hx) fun _ _=>bt (fun _=>ah G.nil) fun _=>aG (by rw[aua];omega) ?_
 dsimp only
 rw[aug]
 exact aG (by rw[atG];omega) (ah (G.cat hl (G.one hx (atP 1))))
end VM
end
section
namespace VM
open Go VM.F
theorem XF{l:List Int}(h:Pos l)(hs:l.sum<9223372036854775808):Dg l:=fun x hx=>by
 have h3:=h x hx
 obtain⟨i,hi,rfl⟩:=au4.1 hx
 have h4:=tO h i
 rw[atD,atI hi]at h4
 simp only[avk]at h4
 omega
theorem PF(k:Nat):(List.replicate k (1:Int)).sum=k:=by
 induction k with
 |zero=>rfl
 |succ k ih=>rw[av2,aue,ih];omega
theorem PG(k:Nat):Pos (List.replicate k 1):=fun x hx=>by rw[avC hx];omega
theorem PH{t:Int}{k:Nat}(h0:0≤t)(h1:t<9223372036854775808)(hk:1≤k)(YT:k≤3):(B9 t k).1.length=k∧Dg (B9 t k).1:=by
 have hS:0<(List.replicate k (1:Int)).sum:=by rw[PF];omega
 have ee:B9 t k=(bf t (List.replicate k 1),0):=by
  unfold B9
  rw[atL (by omega),atE]
  unfold m4
  have hm:may (List.replicate k 1)=true:=kK.2 ⟨by rw[atT];omega,PG k⟩
  rw[atL (by rw[hm];simp;omega),PF,atL (by omega),atL (by omega)]
 rw[ee]
 exact⟨by dsimp only;rw[kv,List.length_replicate],XF (qd h0 hS (PG k)) (by rw[qc h0 hS];omega)⟩
def LQ(y:LH):Prop:=aD y.1∧aD y.2.1∧uc y.2.1
theorem XG{l:ax}(h: ∀y∈l,LQ y)(i:Nat):LQ (l.getD i bR):=by
 by_cases hk:i<l.length
 ·rw[atD,atI hk];exact h _ (aun hk)
 ·rw[atD,aul (by omega)];exact⟨aU,aU,by unfold uc;decide⟩
theorem My{c:aa}{b:ag}{m:Nat}(hb:G m aB b)(hB:cV c b=true)(a:Int): ∀y∈posOf b.2.2.2.1 a,LQ y∧(0≤(y.1:Int)∧(y.1:Int)<(c.1.length:Int)):=fun y hy=>by
 have hk:cP b.2.2.2.1=true:=by
  by_cases h:cP b.2.2.2.1=true
  ·exact h
  ·unfold posOf at hy;rw[atL h]at hy;nomatch hy
 unfold posOf at hy
 rw[atK hk]at hy
 obtain⟨x,hx,_,e⟩:=p9 hy
 have hg:=hb.2.2.2.1.2 x hx
 have hq:=((gD hk).2 x hx).2
 have hp:=Dn hB x hx
 rw[e]
 exact⟨⟨hg.2.1,hg.2.2.1,hq⟩,hp⟩
theorem KE(N:Nat)(hN:5000000≤N){c:aa}{b:ag}{m:Nat}(h2:200≤m)(hm:m≤40000)(hc:G m an c)(hb:G m aB b){next:Int}(hn:aD next):Ok (fun r=>LL m r.1) (cQ N c b next):=by
 unfold cQ cQ.b
 refine bE (dO N hN (by omega) hb) (bx (fun _=>ah G.nil) fun hB=>av (fun _=>ah G.nil) fun _=>av (fun _=>ah G.nil) fun _=>bE (O1 N (G.wf (by omega) hb).w.s (by omega) 0) (ok_eq (fun _=>ah G.nil) fun _=> ?_))
 have jw:=My hb hB 0
 have hal:=(ae9 hb.2.2.2.1 0).1
 generalize posOf b.2.2.2.1 0=all at*
 refine bc (len:=4) (F:=fun n k (s:Int×az)=>cQ.l8 N n s.1 c all s.2 k) (s:=(_,_)) (fun k s=>aD s.1∧s.2.length≤3*k∧ ∀x∈s.2,G m dF x) ⟨hn,auu _,fun x hx=>nomatch hx⟩ (by omega) (fun n k s hk hI hr=> ?_) (fun n s hI=> ?_)
 all_goals unfold cQ.l8 cQ.yh
 ·refine av (fun _=> ?_) fun _=>by omega
  refine bc (len:=all.length) (F:=fun n' i (z:ax×aq)=>cQ.ot N (cQ.l8 N n) n' s.1 c all s.2 (k:Int) z.1 z.2 i) (s:=(_,_)) (fun i z=>z.1.length≤i∧(∀y∈z.1,LQ y)∧Bg (8+i) z.2) ⟨auu _,(fun y hy=>nomatch hy),Dr (by omega)⟩ (by omega) (fun n' i z hi hz dU=> ?_) (fun n' z hz=> ?_)
  all_goals unfold cQ.ot cQ.mg
  ·obtain⟨yb,HN,hz3⟩:=hz
   have hx:all.getD i bR∈all:=by rw[atD,atI hi];exact aun hi
   have hy:=jw _ hx
   rw[ar (x:=(i:Int)+1) (by omega) (by omega),ae i,atE]
   exact av (fun _=>au ⟨by omega,by omega⟩ (au hy.2 (ok_eq (fun _=>au ⟨by omega,by omega⟩ (aG (by rw[List.length_singleton];omega) (au ⟨by omega,by omega⟩ (af (aX N (by omega) hy.1.2.1) fun u hu=>af (rP N (by omega) (by omega) hu) fun u hu=>af (gV N (by omega) (by omega) hz3 (Bg.mono hu (by omega))) fun v hv=>dU (_,_) ⟨by dsimp only;rw[List.length_append,List.length_singleton];omega,fun y h=>(List.mem_append.1 h).elim (HN y) (fun h=>by rw[List.mem_singleton.1 h];exact hy.1),Bg.mono hv (by omega)⟩)))) fun _=>dU z ⟨by omega,HN,Bg.mono hz3 (by omega)⟩))) fun _=>by omega
  ·obtain⟨yb,HN,hz3⟩:=hz
   refine av (fun _=>by omega) fun _=>af (Mu N (by omega) (Bg.mono hz3 (by omega)) hc.2.2.2.2.2.1) fun w hw=> ?_
   obtain⟨p,hp⟩: ∃p:Nat,w=(p:Int):=⟨w.toNat,by omega⟩
   subst hp
   refine bc (len:=p) (F:=fun Ch j (t:Int×az)=>cQ.Dv N (cQ.l8 N n) Ch t.1 c all t.2 (k:Int) z.1 (p:Int) j) (s:=s) (fun j t=>aD t.1∧t.2.length≤3*k+j∧ ∀x∈t.2,G m dF x) hI (by omega) (fun Ch j t hj ht Pk=> ?_) (fun Ch t ht=> ?_)
   all_goals unfold cQ.Dv cQ.I9
   ·obtain⟨rf,QK,Rl⟩:=ht
    refine av (fun _=> ?_) fun _=>by omega
    refine bc (len:=z.1.length) (F:=fun n3 i u=>cQ.HU N (cQ.l8 N n) (cQ.Dv N (cQ.l8 N n) Ch) n3 t.1 c all t.2 (k:Int) z.1 (p:Int) (j:Int) (t.1,(aS,((0:Int),((1:Int),bR)))) u i) (fun i u=>L2 i u) G.nil (by omega) (fun n3 i u hi hu hr3=> ?_) (fun n3 u hu=> ?_)
    all_goals unfold cQ.HU cQ.I5
    ·have XE:=hu.1
     have hq:=XG HN i
     have tq:=hq
     unfold LQ aD uc at tq
     have afb: ∀q:Int,0≤q→q<9223372036854775808→Ok (fun r=>LL m r.1) (cQ.PI N (cQ.l8 N n) (cQ.Dv N (cQ.l8 N n) Ch) (cQ.HU N (cQ.l8 N n) (cQ.Dv N (cQ.l8 N n) Ch) n3) t.1 c all t.2 (k:Int) z.1 (p:Int) (j:Int) (t.1,(aS,((0:Int),((1:Int),bR)))) u (i:Int) q):=fun q h0 h1=>by
      unfold cQ.PI cQ.Ja
      obtain⟨e1,e2⟩:=PH (k:=p) h0 h1 (by omega) (by omega)
      have afc: ∀v:List Int,v.length=p→Dg v→Ok (fun r=>LL m r.1) (cQ.j32 N (cQ.l8 N n) (cQ.Dv N (cQ.l8 N n) Ch) (cQ.HU N (cQ.l8 N n) (cQ.Dv N (cQ.l8 N n) Ch) n3) t.1 c all t.2 (k:Int) z.1 (p:Int) (j:Int) (t.1,(aS,((0:Int),((1:Int),bR)))) u (i:Int) v):=fun v Ib Rh=>by
       unfold cQ.j32 cQ.ZP
       rw[ar (x:=(i:Int)+1) (by omega) (by omega),ae i]
       have hx:G 0 gW ((z.1.getD (i:Int).toNat bR).1,(v.getD (j:Int).toNat 0,())):=G2 (XG HN _).1 (pe Rh _)
       exact au ⟨by omega,by omega⟩ (bt (fun _=>au ⟨by omega,by omega⟩ (au ⟨by omega,by omega⟩ (aG (by rw[atG];omega) (hr3 _ (G.cat hu (G.one hx (atP 1))))))) fun _=>hr3 u (G.mono (by omega) hu))
      refine bE (Pb N hN h1) (au ⟨by omega,by omega⟩ (av (fun _=>au ⟨by omega,by omega⟩ (au ⟨by omega,by omega⟩ (afc _ (by rw[atX];exact e1) fun y hy=> ?_))) fun _=>afc _ e1 e2))
      rcases avg hy with hy|rfl
      ·exact e2 y hy
      ·exact dS _
     rw[atE]
     refine av (fun _=>au ⟨by omega,by omega⟩ (av (fun dZ=> ?_) fun Rr=> ?_)) fun _=>by omega
     ·have g: ∀x:Int,-9223372036854775808≤x∧x≠ -9223372036854775808→x<0→0≤W .i64 (0-x)∧W .i64 (0-x)<9223372036854775808:=fun x h1 h2=>by rw[ar (by omega) (by omega)];omega
      have gx:=g _ ⟨tq.2.1.1,tq.2.2⟩ dZ
      exact afb _ gx.1 gx.2
     ·exact afb _ Rr tq.2.1.2
    ·have XE:=hu.1
     rw[ar (x:=(j:Int)+1) (by omega) (by omega),ae j]
     have hum:L2 m u:=G.mono (by omega) hu
     refine av (fun _=>by omega) fun _=>ok_eq (fun _=>Pk t ⟨rf,by omega,Rl⟩) fun _=> ?_
     unfold PJ
     refine af (Q:=fun r=>Bg 60000 r.1) (af (we N (by omega) (by omega) hc hum _) fun r hr=>ah hr) fun a ha=>af (pk N (by omega) (by omega) ha) fun d hd=>af (tQ N hd) fun v hv=>bx (fun _=>ah G.nil) fun _=>aG (by rw[List.length_singleton];omega) (Pk (_,_) ⟨dS _,by dsimp only;rw[List.length_append,List.length_singleton];omega,fun x hx=> ?_⟩)
     rcases atU.1 hx with hx|hx
     ·exact Rl x hx
     ·rw[at2.1 hx];exact⟨rf,hum,hv,(show aD 1 from aV),aU,aU,trivial⟩
   ·rw[ar (x:=(k:Int)+1) (by omega) (by omega),ae k]
    exact av (fun _=>by omega) fun _=>hr t ⟨ht.1,by have:=ht.2.1;omega,ht.2.2⟩
 ·exact av (fun _=>by omega) fun _=>ah ⟨by have:=hI.2.1;dsimp only;omega,hI.2.2⟩
end VM
end
section
namespace VM
open Go VM.F
theorem sA(N:Nat)(hN:200000≤N){l:ax}(hl:l.length≤100000):Ok (fun _=>True) (lB N l):=by
 unfold lB lB.b
 refine iD (len:=l.length) (F:=fun n i=>lB.l2 N n l i) (by omega) (fun n i hi hr=> ?_) (fun n=> ?_)
 all_goals unfold lB.l2 lB.dP
 ·rw[ar (x:=(i:Int)+1) (by omega) (by omega),ae i]
  dsimp only
  repeat' first|exact hr|exact dp|refine au ⟨by omega,by omega⟩ ?_|refine au (by rw[ar (x:=(i:Int)-1) (by omega) (by omega)];omega) ?_|refine av (fun _=> ?_) (fun _=> ?_)|refine c5 (fun _=> ?_) (fun _=> ?_)|refine ok_eq (fun _=> ?_) (fun _=> ?_)|(exfalso;omega)
 ·exact av (fun _=>by omega) fun _=>dp
theorem Mz(N:Nat)(hN:200000≤N){l:List Int}(hl:l.length≤100000):Ok (fun _=>True) (np N l):=by
 unfold np np.b
 refine iD (len:=l.length) (F:=fun n i=>np.l2 N n l i) (by omega) (fun n i hi hr=> ?_) (fun n=> ?_)
 all_goals unfold np.l2 np.dP
 ·rw[ar (x:=(i:Int)+1) (by omega) (by omega),ae i]
  dsimp only
  repeat' first|exact hr|exact dp|refine au ⟨by omega,by omega⟩ ?_|refine au (by rw[ar (x:=(i:Int)-1) (by omega) (by omega)];omega) ?_|refine av (fun _=> ?_) (fun _=> ?_)|refine c5 (fun _=> ?_) (fun _=> ?_)|refine ok_eq (fun _=> ?_) (fun _=> ?_)|(exfalso;omega)
 ·exact av (fun _=>by omega) fun _=>dp
theorem PK(N:Nat)(hN:200000≤N)(a:Int){L:az}{l:ay}{m:Nat}(hm:m≤50000)(hL:LL m L)(hl:G m (.slice cN) l):Ok aD (fQ N a L l):=by
 have h1:=hL.1
 have h2:=hl.1
 have i3:aD 3:=aV
 have i2:aD 2:=aV
 unfold fQ fQ.b
 refine bc (len:=l.length) (F:=fun n i v=>fQ.l3 N n a L l v i) (fun _ v=>aD v) (show aD 1 from aV) (by omega) (fun n i v hi hv hr=> ?_) (fun n v hv=> ?_)
 all_goals unfold fQ.l3 fQ.ji
 ·rw[ar (x:=(i:Int)+1) (by omega) (by omega),ae i]
  exact av (fun _=>au ⟨by omega,by omega⟩ (bt (fun _=>hr v hv) fun _=>au ⟨by omega,by omega⟩ (af (zW N hN hm hL _) fun _ _=>oO (fun _=>au ⟨by omega,by omega⟩ (c5 (fun _=>hr _ (wc hv i3)) fun _=>hr _ (wc hv i2))) fun _=>hr _ (wc hv i2)))) fun _=>by omega
 ·refine av (fun _=>by omega) fun _=>bc (len:=L.length) (F:=fun n i v=>fQ.nE N n a L v i) (fun _ v=>aD v) hv (by omega) (fun n i v hi hv hr=> ?_) (fun n v hv=> ?_)
  all_goals unfold fQ.nE fQ.mf
  ·rw[ar (x:=(i:Int)+1) (by omega) (by omega),ae i]
   exact av (fun _=>au ⟨by omega,by omega⟩ (ok_eq (fun _=>au ⟨by omega,by omega⟩ (ok_eq (fun _=>hr 4 aV) fun _=>hr v hv)) fun _=>hr v hv)) fun _=>by omega
  ·exact av (fun _=>by omega) fun _=>ah hv
theorem PL(N:Nat)(hN:200000≤N)(c:aa){d:ax}{u:List Int}{L:az}{l:ay}{m:Nat}(h2:200≤m)(hm:m≤50000)(hd:L2 m d)(hu:u.length≤m)(hL:LL m L)(hl:G m (.slice cN) l):Ok (fun r=>L2 m r.1) (ct N c d u L l):=by
 have h3:=hd.1
 have h4:=hL.1
 have h5:=hl.1
 have hw:w5 L:=fun y hy=>aut (hL.2 y hy).2.1.1 (by omega)
 unfold ct ct.b
 refine af (sA N hN (by omega)) fun _ _=>bx (fun _=>ah G.nil) fun _=>af (Mz N hN (by omega)) fun _ _=>bx (fun _=>ah G.nil) fun _=>bE (zv N hN c (by omega) hw) (bx (fun _=>ah G.nil) fun _=>bE (rI N (by omega) hN) (bx (fun _=>ah G.nil) fun _=>gU (len:=13) (F:=fun n i s=>ct.l5 N n d u L l s i) (fun i s=>L2 i s) (fun n i s hi hI hr=> ?_) (fun n s hI=> ?_) 13 N 1 [] (by omega) (by omega) (by omega) G.nil))
 all_goals unfold ct.l5 ct.dr
 ·have hs:=hI.1
  refine c5 (fun _=> ?_) fun _=>by omega
  refine bc (len:=d.length) (F:=fun n' j (z:Int×Bool)=>ct.l9 N (ct.l5 N n) n' d u L l s (i:Int) z.1 z.2 j) (s:=(_,_)) (fun _ z=>aD z.1) aU (by omega) (fun n' j z hj hz dU=> ?_) (fun n' z hz=> ?_)
  all_goals unfold ct.l9 ct.s0
  ·rw[ar (x:=(j:Int)+1) (by omega) (by omega),ae j]
   exact av (fun _=>au ⟨by omega,by omega⟩ (ok_eq (fun _=>au ⟨by omega,by omega⟩ (dU (_,_) (G.at hd _).2.1)) fun _=>dU z hz)) fun _=>by omega
  ·refine av (fun _=>by omega) fun _=>bc (len:=u.length) (F:=fun n' j f=>ct.B8 N (ct.l5 N n) n' d u L l s (i:Int) z.1 f j) (fun _ _=>True) trivial (by omega) (fun n' j f hj _ dU=> ?_) (fun n' f _=> ?_)
   all_goals unfold ct.B8 ct.zL
   ·rw[ar (x:=(j:Int)+1) (by omega) (by omega),ae j]
    exact av (fun _=>oO (fun _=>dU _ trivial) fun _=>au ⟨by omega,by omega⟩ (dU _ trivial)) fun _=>by omega
   ·refine av (fun _=>by omega) fun _=>bc (len:=l.length) (F:=fun n' j f=>ct.vi N (ct.l5 N n) n' d u L l s (i:Int) z.1 f j) (fun _ _=>True) trivial (by omega) (fun n' j f hj _ dU=> ?_) (fun n' f _=> ?_)
    all_goals unfold ct.vi ct.sO
    ·rw[ar (x:=(j:Int)+1) (by omega) (by omega),ae j]
     exact av (fun _=>oO (fun _=>dU _ trivial) fun _=>au ⟨by omega,by omega⟩ (dU _ trivial)) fun _=>by omega
    ·rw[ar (x:=(i:Int)+1) (by omega) (by omega),ae i]
     dsimp only
     exact av (fun _=>by omega) fun _=>oO (fun _=>af (PK N hN _ hm hL hl) fun v hv=>aG (by rw[atG];omega) (hr _ (G.cat hI (G.one (m:=1) (G2 (fH (by omega) (by omega)) (wc hz hv)) (atP 1))))) fun _=>hr s (G.mono (by omega) hI)
 ·exact c5 (fun _=>by omega) fun _=>ah (G.mono (by omega) hI)
theorem PM(N:Nat)(hN:200000≤N){l:ax}(hl:l.length≤100000)(a:Int):Ok (fun _=>True) (nq N l a):=by
 unfold nq nq.b
 refine af (sA N hN hl) fun _ _=>bx (fun _=>dp) fun _=>iD (len:=l.length) (F:=fun n i=>nq.l4 N n l a i) (by omega) (fun n i hi hr=> ?_) (fun n=> ?_)
 all_goals unfold nq.l4 nq.cY
 ·rw[ar (x:=(i:Int)+1) (by omega) (by omega),ae i]
  exact av (fun _=>au ⟨by omega,by omega⟩ (ok_eq (fun _=>au ⟨by omega,by omega⟩ dp) fun _=>hr)) fun _=>by omega
 ·exact av (fun _=>by omega) fun _=>dp
theorem KF(N:Nat)(a:Int):Ok (fun _=>True) (PN N a):=by
 unfold PN
 exact ok_eq (fun _=>dp) fun _=>dp
theorem Jb(N:Nat)(hN:5000000≤N)(c:aa){b:ag}{d:ax}{m:Nat}(hm:m≤50000)(hb:G m aB b)(hd:L2 m d)(a k:Int):Ok (fun r=>G m (.slice (.int .i64)) r.1) (nr N c b d a k):=by
 have hl:=hb.1.1
 have h2:=hd.1
 unfold nr nr.b
 refine bE (dO N hN hm hb) (bx (fun _=>ah G.nil) fun _=>af (sA N (by omega) (by omega)) fun _ _=>bx (fun _=>ah G.nil) fun _=>bc (len:=b.1.length) (F:=fun n i s=>nr.l5 N n d a k b s i) (fun i s=>G i (.slice (.int .i64)) s) G.nil (by omega) (fun n i s hi hI hr=> ?_) (fun n s hI=> ?_))
 all_goals unfold nr.l5 nr.dr
 ·have hs:=hI.1
  rw[ar (x:=(i:Int)+1) (by omega) (by omega),ae i]
  have h1:=hr s (G.mono (by omega) hI)
  have hx:G 0 (.int .i64) (b.1.getD (i:Int).toNat bR).1:=(G.at hb.1 _).1
  exact av (fun _=>au ⟨by omega,by omega⟩ (af (KF N _) fun _ _=>oO (fun _=>bt (fun _=>af (m8 N (by omega) hm hb.2.2.1 _ _) fun _ _=>av (fun _=>af (PM N (by omega) (by omega) _) fun _ _=>ok_eq (fun _=>aG (by rw[atG];omega) (hr _ (G.cat hI (G.one hx (atP 1))))) fun _=>h1) fun _=>h1) fun _=>h1) fun _=>h1)) fun _=>by omega
 ·exact av (fun _=>by omega) fun _=>ah (G.mono hl hI)
theorem zX(N:Nat)(hN:200000≤N){a:ay}{m:Nat}(hm:m≤50000)(h:G m (.slice cN) a)(id:Int):Ok aD (sK N a id):=by
 refine ly (ph N (aut h.1 (by omega)) hN id) ?_
 unfold c6
 split
 ·have: ∀l:ay,(∀x∈l,G m cN x)→aD (iM id l):=by
   intro l
   induction l with
   |nil=>intro _;exact aU
   |cons x t ih=>
    intro hx
    have hi:=ih fun y hy=>hx y (atM _ hy)
    rw[oi]
    split
    ·split
     ·exact(hx x (atS ..)).1
     ·exact hi
    ·exact hi
  exact this a h.2
 ·exact aU
abbrev L5(m:Nat)(l:bg):Prop:=G m (.slice pn) l
theorem G5{m:Nat}{a b c d e:Int}(ha:aD a)(hb:aD b)(hc:aD c)(hd:aD d)(he:aD e):G m pn (a,(b,(c,(d,(e,()))))):=⟨ha,hb,hc,hd,he,trivial⟩
theorem Dw(N:Nat)(hN:200000≤N){l:bg}{b:ag}{m k:Nat}(hm:m≤50000)(hb:G m aB b)(hk:k≤1000000)(hl:L5 k l){a d n:Int}(ha:aD a)(hd:aD d)(hn:aD n):Ok (fun r=>L5 (k+1) r) (Jc N l b a d n):=by
 have h1:=hl.1
 unfold Jc
 exact af (m8 N hN hm hb.2.2.1 _ _) fun x hx=>av (fun _=>aG (by rw[atG];omega) (ah (G.cat hl (G.one (m:=1) (G5 ha hd hn hx aU) (atP 1))))) fun _=>ah (G.mono (by omega) hl)
theorem PO(N:Nat)(hN:5000000≤N){c:aa}{b:ag}{d g:ax}{a:Int}{m:Nat}(hm:m≤50000)(hc:G m an c)(hb:G m aB b)(hd:L2 m d)(hg:L2 m g)(ha:aD a):Ok (fun r=>L5 1000000 r.1) (ch N c b a d g):=by
 have h1:=hb.1.1
 have h2:=hd.1
 have h3:=hg.1
 have h4:=hb.2.1.1
 have hj: ∀l:bg,L5 1 l→Ok (fun r=>L5 1000000 r.1) (ch.j9 N a d g c b l):=fun l hl=>by
  unfold ch.j9 ch.Is
  refine af (Dw N (by omega) hm hb (by omega) hl aV aV ha) fun l hl=>af (Dw N (by omega) hm hb (by omega) hl aV aV aU) fun l hl=>gU (len:=5) (F:=fun n k s=>ch.nE N n a d g c b s k) (fun k s=>L5 (3+m*k) s) (fun n k s hk hs hr=> ?_) (fun n s hs=> ?_) 5 N 1 l (by omega) (by omega) (by omega) (G.mono (by omega) hl)
  all_goals unfold ch.nE ch.mf
  ·have hmk:m*k≤m*4:=avb m (by omega)
   refine c5 (fun _=>af (Jb N hN c hm hb hd _ _) fun t ht=> ?_) fun _=>by omega
   have htl:=ht.1
   refine bc (len:=t.1.length) (F:=fun n' j u=>ch.sL N (ch.nE N n) n' a d g c b u (k:Int) t.1 j) (fun j u=>L5 (3+m*k+j) u) hs (by omega) (fun n' j u hj hu dU=> ?_) (fun n' u hu=> ?_)
   all_goals unfold ch.sL ch.rF
   ·rw[ar (x:=(j:Int)+1) (by omega) (by omega),ae j]
    exact av (fun _=>au ⟨by omega,by omega⟩ (af (Dw N (by omega) hm hb (by omega) hu (dS _) aV (G.at ht _)) fun v hv=>dU v hv)) fun _=>by omega
   ·rw[ar (x:=(k:Int)+1) (by omega) (by omega),ae k]
    exact av (fun _=>by omega) fun _=>hr u (G.mono (by rw[awW];omega) hu)
  ·refine c5 (fun _=>by omega) fun _=>bc (len:=b.1.length) (F:=fun n j u=>ch.Dv N n a g c b u j) (fun j u=>L5 (3+m*5+j) u) hs (by omega) (fun n j u hj hu hr=> ?_) (fun n u hu=> ?_)
   all_goals unfold ch.Dv ch.I9
   ·have XE:=hu.1
    have hx:aD (b.1.getD (j:Int).toNat bR).1:=(G.at hb.1 _).1
    rw[ar (x:=(j:Int)+1) (by omega) (by omega),ae j]
    have h0:=hr u (G.mono (by omega) hu)
    exact av (fun _=>au ⟨by omega,by omega⟩ (af (KF N _) fun _ _=>bx (fun _=>h0) fun _=>ok_eq (fun _=>h0) fun _=>af (aX N (by omega) hc.2.2.1) fun p hp=>af (m8 N (by omega) hm hb.2.2.1 _ _) fun q hq=>af (aX N (by omega) hq) fun q hq=>af (jJ N (by omega) (by omega) (by omega) hp hq) fun y hy=>af (tQ N hy) fun v hv=>bx (fun _=>ah G.nil) fun _=>av (fun _=>aG (by rw[atG];omega) (hr _ (G.mono (by omega) (G.cat hu (G.one (m:=1) (G5 (show aD 8 from aV) (show aD 7 from aV) hx hv aU) (atP 1)))))) fun _=>h0)) fun _=>by omega
   ·refine av (fun _=>by omega) fun _=>bc (len:=g.length) (F:=fun n j u=>ch.IJ N n a g b u j) (fun j u=>L5 (3+m*5+m+j) u) (G.mono (by omega) hu) (by omega) (fun n j u hj hu hr=> ?_) (fun n u hu=> ?_)
    all_goals unfold ch.IJ ch.Fw
    ·have XE:=hu.1
     rw[ar (x:=(j:Int)+1) (by omega) (by omega),ae j]
     have h0:=hr u (G.mono (by omega) hu)
     dsimp only
     exact av (fun _=>au ⟨by omega,by omega⟩ (af (su N (by omega) hm hb.2.1 _) fun x hx=>au ⟨by omega,by omega⟩ (au ⟨by omega,by omega⟩ (af (m8 N (by omega) hm hb.2.2.1 _ _) fun q hq=>oO (fun _=>bt (fun _=>av (fun _=>aG (by rw[atG];omega) (hr _ (G.mono (by omega) (G.cat hu (G.one (m:=1) (G5 (show aD 9 from aV) (show aD 5 from aV) hx.1 (SF (G.at hg _).2.1 hq) aU) (atP 1)))))) fun _=>h0) fun _=>h0) fun _=>h0)))) fun _=>by omega
    ·exact av (fun _=>by omega) fun _=>ah (G.mono (by omega) hu)
 unfold ch ch.b
 exact bE (dO N hN hm hb) (bx (fun _=>ah G.nil) fun _=>af (sA N (by omega) (by omega)) fun _ _=>bx (fun _=>ah G.nil) fun _=>af (Ck N (by omega) (by omega)) fun _ _=>bx (fun _=>ah G.nil) fun _=>af (mH N (by omega) hm hb.1 _) fun _ _=>ok_eq (fun _=>ah G.nil) fun _=>af (zX N (by omega) hm hb.2.1 _) fun h hh=>bt (fun _=>af (Dw N (by omega) hm hb (by omega) (G.nil (m:=0)) aV aV hh) fun l hl=>hj l hl) fun _=>hj [] G.nil)
end VM
end
section
namespace VM
open Go VM.F
theorem MA(N:Nat)(hN:5000000≤N)(c:aa){b:ag}{m:Nat}(hm:m≤50000)(hb:G m aB b):Ok (fun r=>aD r.1) (SY N c b):=by
 unfold SY
 exact bE (dO N hN hm hb) (bx (fun _=>ah aU) fun _=>af (m8 N (by omega) hm hb.2.2.1 _ _) fun x hx=>ok_eq (fun _=>ah aU) fun _=>ah (wc (dS _) aU))
theorem Jd(N:Nat)(hN:5000000≤N)(c:aa){b:ag}{m:Nat}(hm:m≤50000)(hb:G m aB b):Ok (fun r=>aD r.1) (SZ N c b):=by
 unfold SZ
 exact bE (dO N hN hm hb) (bx (fun _=>ah aU) fun _=>af (m8 N (by omega) hm hb.2.2.1 _ _) fun x hx=>ah (wc hx aU))
theorem ZQ(N:Nat)(a b:Int):Ok (fun _=>True) (Ix N a b):=by
 unfold Ix
 repeat' first|exact dp|refine ok_eq (fun _=> ?_) (fun _=> ?_)|refine c5 (fun _=> ?_) (fun _=> ?_)
theorem MB(N:Nat)(hN:200000≤N)(l:bg):Ok (fun r=>r=true→l.length≤64) (ns N l):=by
 have hf:Ok (fun r=>r=true→l.length≤64) (some false):=ah fun h=>nomatch h
 unfold ns ns.b
 refine av (fun _=>hf) fun hl=>iD (len:=l.length) (F:=fun n i=>ns.l4 N n l i) (by omega) (fun n i hi hr=> ?_) (fun n=> ?_)
 all_goals unfold ns.l4 ns.cY
 ·rw[ar (x:=(i:Int)+1) (by omega) (by omega),ae i]
  dsimp only
  repeat' first|exact hr|exact hf|refine au ⟨by omega,by omega⟩ ?_|refine au (by rw[ar (x:=(i:Int)-1) (by omega) (by omega)];omega) ?_|refine av (fun _=> ?_) (fun _=> ?_)|refine c5 (fun _=> ?_) (fun _=> ?_)|refine ok_eq (fun _=> ?_) (fun _=> ?_)|(exfalso;omega)|refine af (ZQ N _ _) fun _ _=> ?_|refine bx (fun _=> ?_) (fun _=> ?_)
 ·exact av (fun _=>by omega) fun _=>ah fun _=>by omega
theorem KG{σ β:Type}{P:β→Prop}{F:Nat→Int→σ→Option β}{len:Nat}(I:σ→Prop)
  (hs: ∀n i s,i<len→I s→(∀j s',i<j→j≤len→I s'→Ok P (F n (j:Int) s'))→Ok P (F (n+1) (i:Int) s)) (he: ∀n s,I s→Ok P (F (n+1) (len:Int) s)):
  ∀m n i s,len-i≤m→m<n→i≤len→I s→Ok P (F n (i:Int) s)
 |m,0,i,s,_,hn,_,_=>by omega
 |m,n+1,i,s,hm,hn,hi,hI=>by
  by_cases h:i<len
  ·exact hs n i s h hI fun j s' hj Xl sX=>KG I hs he (m-1) n j s' (by omega) (by omega) Xl sX
  ·have:i=len:=by omega
   subst this
   exact he n s hI
theorem G5q{m:Nat}{x:qO}{q:Int}(h:G m pn x)(hq:aD q):G m pn (x.1,(x.2.1,(x.2.2.1,(x.2.2.2.1,(q,x.2.2.2.2.2))))):=⟨h.1,h.2.1,h.2.2.1,h.2.2.2.1,hq,trivial⟩
theorem afd: ∀{w:List Int},Pos w→0≤w.sum
 |[],_=>au2 _
 |x::t,h=>by
  rw[aue]
  have:=h x (atS ..)
  have:=afd (w:=t) fun y hy=>h y (atM _ hy)
  omega
theorem MC{t:Int}{w:List Int}(h1:t<9223372036854775808)(h:(m4 t w).2=0):(m4 t w).1.length=w.length∧Dg (m4 t w).1:=by
 unfold m4 at h ⊢
 split at h
 ·exact absurd h (by decide)
 ·split at h
  ·exact absurd h (by decide)
  ·rename_i h2 h3
   split at h
   ·split at h
    ·rename_i h4 h5
     rw[atL h2,atL h3,atK h4,atK h5]
     exact⟨atT ..,fun x hx=>by rw[avC hx];decide⟩
    ·exact absurd h (by decide)
   ·rename_i h4
    rw[atL h2,atL h3,atL h4]
    have hm:may w=true:=by
     by_cases hm:may w=true
     ·exact hm
     ·exact absurd (Or.inr (avT.2 hm)) h2
    have hp:=(kK.1 hm).2
    have h0:0≤t:=by omega
    have hS:0<w.sum:=by have:=afd hp;omega
    exact⟨kv t w,XF (qd h0 hS hp) (by rw[qc h0 hS];exact h1)⟩
theorem Je(N:Nat)(hN:5000000≤N){l:bg}{q:Int}{m:Nat}(hl:L5 m l)(hq:aD q):Ok (fun r=>L5 64 r.1∧aD r.2.1) (cF N l q):=by
 have eR: ∀e:Int,Ok (fun r:bg×Int×Int=>L5 64 r.1∧aD r.2.1) (some ([],((0:Int),e))):=fun e=>ah ⟨G.nil,aU⟩
 unfold cF cF.b
 refine af (MB N (by omega) l) fun z hz=>bx (fun _=>eR _) fun ht=>av (fun _=>eR _) fun _=> ?_
 have qM:=hz ht
 rw[aug]
 refine aG (by rw[aua];omega) (KG (len:=l.length) (F:=fun n i (s:bg×Int)=>cF.l5 N n s.1 s.2 i) (fun s=>s.1.length=l.length∧L5 64 s.1∧aD s.2) (fun n i s hi hI hr=> ?_) (fun n s hI=> ?_) l.length N 0 (l,q) (by omega) (by omega) (by omega) ⟨rfl,⟨qM,fun x hx=>G.mono (m:=0) (auu _) (hl.2 x hx)⟩,hq⟩)
 all_goals unfold cF.l5 cF.dr
 ·obtain⟨JN,Xp,hs3⟩:=hI
  refine av (fun _=> ?_) fun _=>by omega
  have fin: ∀(k:Nat) (w:List Int),i<k→k≤l.length→w.length=k-i→Dg w→Ok (fun r=>L5 64 r.1∧aD r.2.1) (cF.HT N (cF.l5 N n) s.1 s.2 (i:Int) (k:Int) w):=fun k w hk AT hw IU=>by
   unfold cF.HT cF.zU
   have yF:aD (mn (A7 w.sum).1 s.2):=SF (IY _) hs3
   refine bE (tD N (by omega) IU (by omega)) (bE (ry N _) (bx (fun _=>eR _) fun _=>bE (vZ N hN yF.2 IU (by omega)) (bt (fun _=>eR _) fun h0=> ?_)))
   obtain⟨e1,e2⟩:=MC yF.2 h0
   generalize (m4 (mn (A7 w.sum).1 s.2) w).1=v at*
   refine gU (len:=k) (F:=fun n' j (z:bg×Int)=>cF.vi N (cF.l5 N n) n' z.1 z.2 (i:Int) (k:Int) v j) (fun j z=>i≤j∧z.1.length=l.length∧L5 64 z.1∧aD z.2) (fun n' j z hj hz dU=> ?_) (fun n' z hz=> ?_) k N i s (by omega) (by omega) (by omega) ⟨atP i,JN,Xp,hs3⟩
   all_goals unfold cF.vi cF.sO
   ·obtain⟨nX,yb,HN,hz3⟩:=hz
    dsimp only
    rw[ar (x:=(j:Int)+1) (by omega) (by omega),ae j,ar (x:=(j:Int)-i) (by omega) (by omega)]
    exact av (fun _=>au ⟨by omega,by omega⟩ (au ⟨by omega,by omega⟩ (au ⟨by omega,by omega⟩ (dU (_,_) ⟨by omega,by dsimp only;rw[List.length_set];exact yb,G.set HN (G5q (G.at HN _) (pe e2 _)) _,dS _⟩)))) fun _=>by omega
   ·exact av (fun _=>by omega) fun _=>hr k z hk AT hz.2
  refine gU (len:=l.length) (F:=fun n' k w=>cF.l8 N (cF.l5 N n) n' s.1 s.2 (i:Int) k w) (fun k w=>i≤k∧w.length=k-i∧Dg w) (fun n' k w hk hw dU=> ?_) (fun n' w hw=> ?_) l.length N i [] (by omega) (by omega) (by omega) ⟨atP i,by rw[aua];omega,fun x hx=>nomatch hx⟩
  all_goals unfold cF.l8 cF.yh
  ·obtain⟨hik,hwl,IU⟩:=hw
   rw[ar (x:=(k:Int)+1) (by omega) (by omega),ae k]
   refine av (fun _=>au ⟨by omega,by omega⟩ (au ⟨by omega,by omega⟩ (ok_eq (fun _=>au ⟨by omega,by omega⟩ (aG (by rw[atG];omega) (dU _ ⟨by omega,by rw[atJ,atG];omega,fun x hx=> ?_⟩))) fun ib=> ?_))) fun _=>by omega
   ·rcases atU.1 hx with hx|hx
    ·exact IU x hx
    ·rw[at2.1 hx];exact(G.at Xp _).2.2.2.1
   ·refine fin k w ?_ (by omega) hwl IU
    by_cases e:k=i
    ·subst e;exact absurd rfl ib
    ·omega
  ·exact av (fun _=>by omega) fun _=>fin l.length w hi (atP _) hw.2.1 hw.2.2
 ·exact av (fun _=>by omega) fun _=>ah ⟨hI.2.1,hI.2.2⟩
abbrev R0:cT:=((0:Int),((0:Int),(([]:bg),((0:Int),()))))
theorem MD(N:Nat)(hN:5000000≤N){c:aa}{b:ag}{d g:ax}{a:Int}{m:Nat}(h2:200≤m)(hm:m≤40000)(hc:G m an c)(hb:G m aB b)(hd:L2 m d)(hg:L2 m g)(ha:aD a):Ok (fun r=>G m aB r.1∧G m eg r.2.1) (gZ N c b a d g):=by
 have eR: ∀e:Int,Ok (fun r:ag×cT×Int=>G m aB r.1∧G m eg r.2.1) (some ((aS,(cj,(ba,(ba,(cI,(cL,())))))),(R0,e))):=fun e=>ah ⟨G.fm,G.zero m eg⟩
 unfold gZ gZ.b
 refine af (PO N hN (by omega) hc hb hd hg ha) fun l hl=>ok_eq (fun _=>eR _) fun _=>ok_eq (fun _=>eR _) fun _=>af (MA N hN c (by omega) hb) fun q hq=>bt (fun _=>eR _) fun _=>bt (fun _=>eR _) fun _=>af (Je N hN hl hq) fun z ⟨yb,HN⟩=>bt (fun _=>eR _) fun _=> ?_
 have hzl:=yb.1
 have hj: ∀(p:bl) (r:cT) (t:bg) (x k n:Int),gl 1000 p→G m eg r→L5 64 t→aD x→Ok (fun r=>G m aB r.1∧G m eg r.2.1) (gZ.j26 N b (aS,(cj,(ba,(ba,(cI,(cL,())))))) R0 p r t x k n):=fun p r t x k n hp hr ht hx=>by
  have YI:=hp.1
  unfold gZ.j26 gZ.ZR
  exact af (aX N (by omega) hx) fun v hv=>af (oD N (by omega) _ _ _ _ (Bg.mono hv (by omega))) fun u hu=>aG (by have:=hu.1;omega) (af (oA N (by omega) h2 (by omega) hb G.nil (gl.mono (gl.app hp hu) (by omega))) fun w hw=>bt (fun _=>eR _) fun _=>ah ⟨hw,hr.1,hr.2.1,G.mono (by omega) ht,hr.2.2.2⟩)
 refine bc (len:=z.1.length) (F:=fun n i (s:bl×cT×bg)=>gZ.Be N n a c b (aS,(cj,(ba,(ba,(cI,(cL,())))))) R0 z.1 z.2.1 s.1 s.2.1 s.2.2 i) (s:=(_,(_,_))) (fun i s=>gl (2*i) s.1∧G m eg s.2.1∧L5 i s.2.2) ⟨gl.nil,⟨ha,hq,G.nil,HN,trivial⟩,G.nil⟩ (by omega) (fun n i s hi hI hr=> ?_) (fun n s hI=> ?_)
 all_goals unfold gZ.Be gZ.zR
 ·obtain⟨h4,h5,h6⟩:=hI
  have hp:=h4.1
  have ht:=h6.1
  have hx:G 0 pn (z.1.getD (i:Int).toNat j1):=G.at yb _
  rw[ar (x:=(i:Int)+1) (by omega) (by omega),ae i]
  exact av (fun _=>au ⟨by omega,by omega⟩ (av (fun _=>au ⟨by omega,by omega⟩ (aG (by rw[atG];omega) (au ⟨by omega,by omega⟩ (au ⟨by omega,by omega⟩ (au ⟨by omega,by omega⟩ (af (aX N (by omega) hx.2.2.2.2.1) fun v hv=>af (oD N (by omega) _ _ _ _ (Bg.mono hv (by omega))) fun u hu=>aG (by have:=hu.1;omega) (hr (_,(_,_)) ⟨gl.mono (gl.app h4 hu) (by omega),⟨h5.1,h5.2.1,G.nil,h5.2.2.2⟩,G.cat h6 (G.one hx (atP 1))⟩))))))) fun _=>hr s ⟨gl.mono h4 (by omega),h5,G.mono (by omega) h6⟩)) fun _=>by omega
 ·obtain⟨h4,h5,h6⟩:=hI
  have hp:=h4.1
  dsimp only
  exact av (fun _=>by omega) fun _=>af (aX N (by omega) HN) fun v hv=>af (oD N (by omega) _ _ _ _ (Bg.mono hv (by omega))) fun u hu=>aG (by have:=hu.1;omega) (af (Jd N hN c (by omega) hb) fun x hx=>af (zX N (by omega) (by omega) hb.2.1 _) fun h hh=>bt (fun _=>hj _ _ _ _ _ _ (gl.mono (gl.app h4 hu) (by omega)) h5 (G.mono (by omega) h6) hx) fun _=>hj _ _ _ _ _ _ (gl.mono (gl.app h4 hu) (by omega)) h5 (G.mono (by omega) h6) hx)
end VM
end
section
namespace VM
open Go VM.F
theorem ME(N:Nat)(hN:5000000≤N){t:Int}{w:List Int}(ht:t<9223372036854775808)(hw:Dg w)(hl:w.length≤1000000):Ok (fun r=>r.2.2=0→r.1.length=w.length∧Dg r.1) (c4 N t w w):=by
 refine ly (IV N hN ht hw hw hl) fun h0=> ?_
 have f:=IW ht hw h0
 have c:=f.c
 have hl2:=c.l2
 refine⟨hl2,fun x hx=> ?_⟩
 obtain⟨i,hi,e⟩:=auD hx
 have h1:=c.le i (by omega)
 have h2:=(c.pc i).2
 have h3:=c.po i
 rw[atD (l:=(qh t w w).1),atI hi,avk,e]at h1 h3
 exact⟨by omega,by omega⟩
theorem S1(N:Nat)(hN:5000000≤N)(c:aa){b:ag}{m:Nat}(hm:m≤40000)(hb:G m aB b){a:Int}(ha:aD a):Ok (fun r=>L3 (m+1) r.1) (ql N c b a):=by
 have w:=(G.wf (by omega) hb).w
 have hl:=hb.2.2.2.1.1
 unfold ql ql.b
 refine bE (dO N hN (by omega) hb) (bx (fun _=>ah G.nil) fun _=>av (fun _=>ah G.nil) fun _=>c5 (fun _=>ah G.nil) fun _=>bE (ss N w.s (by omega) 0 a) (ok_eq (fun _=>ah G.nil) fun _=> ?_))
 have hq:=O6 w.qs 0 a
 generalize dR b.2.2.2.1 0 a=q at*
 refine bc (len:=b.2.2.2.1.length) (F:=fun n i (s:List Int×List Int)=>ql.ue N n a b q s.1 s.2 i) (s:=(_,_)) (fun i s=>s.1.length≤i∧s.2.length=s.1.length∧Dg s.1∧Dg s.2) ⟨auu _,rfl,(fun x hx=>nomatch hx),fun x hx=>nomatch hx⟩ (by omega) (fun n i s hi hI hr=> ?_) (fun n s hI=> ?_)
 all_goals unfold ql.ue ql.tR
 ·obtain⟨h1,h2,h3,h4⟩:=hI
  have hx:G 0 gk (b.2.2.2.1.getD (i:Int).toNat aZ):=G.at hb.2.2.2.1 _
  rw[ar (x:=(i:Int)+1) (by omega) (by omega),ae i]
  have h0:=hr s ⟨by omega,h2,h3,h4⟩
  have sn: ∀{l:List Int} {x:Int},Dg l→aD x→Dg (l++[x]):=fun hl hx y hy=>(atU.1 hy).elim (hl y) fun hy=>by rw[at2.1 hy];exact hx
  dsimp only
  exact av (fun _=>au ⟨by omega,by omega⟩ (bt (fun _=>ok_eq (fun _=>oO (fun _=>aG (by rw[List.length_singleton];omega) (aG (by rw[List.length_singleton];omega) (hr (_,_) ⟨by dsimp only;rw[List.length_append,List.length_singleton];omega,by dsimp only;rw[List.length_append,List.length_append,List.length_singleton,List.length_singleton];omega,sn h3 hx.1,sn h4 (wc hx.2.2.1 (dS _))⟩))) fun _=>h0) fun _=>h0) fun _=>h0)) fun _=>by omega
 ·obtain⟨h1,h2,h3,h4⟩:=hI
  refine av (fun _=>by omega) fun _=>af (ME N hN (wc hq (dS _)).2 h4 (by omega)) fun z hz=>bt (fun _=>ah G.nil) fun h0=> ?_
  obtain⟨e1,e2⟩:=hz h0
  refine bc (len:=z.1.length) (F:=fun n i u=>ql.ZS N n a q s.1 z.1 u i) (fun i u=>L3 (1+i) u) (G.one (m:=1) (G3 aU ha (dS _)) (atP 1)) (by omega) (fun n i u hi hu hr=> ?_) (fun n u hu=> ?_)
  all_goals unfold ql.ZS ql.ZT
  ·have XE:=hu.1
   rw[ar (x:=(i:Int)+1) (by omega) (by omega),ae i]
   have h0:=hr u (G.mono (by omega) hu)
   have put: ∀x:Int,aD x→Ok (fun r=>L3 (m+1) r.1) (cond (small (u.length+[((s.1.getD (i:Int).toNat 0,(a,(x,()))):cE)].length)) (ql.ZS N n a q s.1 z.1 (u++[(s.1.getD (i:Int).toNat 0,(a,(x,())))]) ((i+1:Nat):Int)) none):=fun x hx=>aG (by rw[atG];omega) (hr _ (G.mono (by omega) (G.cat hu (G.one (m:=1) (G3 (pe h3 _) ha hx) (atP 1)))))
   dsimp only
   exact av (fun _=>au ⟨by omega,by omega⟩ (av (fun _=>bt (fun _=>au ⟨by omega,by omega⟩ (put _ (dS _))) fun _=>h0) fun _=>bt (fun _=>au ⟨by omega,by omega⟩ (put _ (pe e2 _))) fun _=>h0)) fun _=>by omega
  ·exact av (fun _=>by omega) fun _=>ah (G.mono (by omega) hu)
theorem S2(N:Nat)(hN:5000000≤N){c:aa}{b:ag}{m:Nat}(h2:200≤m)(hm:m≤7000)(hc:G 5 an c)(hb:G m aB b):Ok (fun r=>G m aB r.1) (zY N c b):=by
 have DX:=hc.1.1
 unfold zY zY.b
 refine bE (dO N hN (by omega) hb) (bx (fun _=>ah G.fm) fun _=>bc (len:=c.1.length) (F:=fun n i s=>zY.l5 N n c b (aS,(cj,(ba,(ba,(cI,(cL,())))))) s i) (fun i s=>L3 ((m+1)*i) s) G.nil (by omega) (fun n i s hi hI hr=> ?_) (fun n s hI=> ?_))
 all_goals unfold zY.l5 zY.dr
 ·have hs:=hI.1
  have hmi:(m+1)*i≤(m+1)*5:=avb _ (by omega)
  rw[ar (x:=(i:Int)+1) (by omega) (by omega),ae i]
  exact av (fun _=>af (S1 N hN c (by omega) hb (fH (by omega) (by omega))) fun r QI=>bt (fun _=>ah G.fm) fun _=>aG (by have:=QI.1;omega) (hr _ (G.mono (by rw[awW];omega) (G.cat hI QI)))) fun _=>by omega
 ·have hmi:(m+1)*c.1.length≤(m+1)*5:=avb _ (by omega)
  exact av (fun _=>by omega) fun _=>af (oA N (by omega) h2 (by omega) hb (G.mono (by omega) hI) gl.nil) fun r hr=>ah hr
end VM
end
