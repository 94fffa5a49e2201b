/- A part of the proof of AwardDrawn of layer 25: what the functions compute, in plain words. -/
import Derived.Test.YtocmlaipoebfeaaGreatPlain6
set_option linter.all false
namespace VM
open Go VM.F Go.RowKit
theorem Sg{l:List Int}(h:WF (.slice (.int .u64)) l):Dk 0 ((l,((0:Int),())):aK):=⟨fun x hx=>by
 obtain⟨i,hi,rfl⟩:=List.getElem_of_mem hx
 have h3:0≤l[i]∧l[i]≤18446744073709551615:=wf_u64.1 (h.2 i hi)
 exact⟨h3.1,Int.lt_of_le_of_lt h3.2 (by decide)⟩,Int.le_refl 0,Int.le_refl 0⟩
theorem G4m{m:Nat}{x:bs}{q:Int}(h:G m cL x)(hq:aD q):G m cL (x.1,(x.2.1,(q,x.2.2.2))):=⟨h.1,h.2.1,hq,h.2.2.2⟩
structure WE(c:ae)(s:aI)(L:aA)(l:ay):Prop where
 c:G 5 an c
 s:GS 900 s
 L:LL 900 L
 l:G 900 (.slice cL) l
theorem O2(N:Nat)(hN:5000000≤N){d:aK}(h:Dk 0 d):Ok (fun r=>WE r.1 r.2.1 r.2.2.1 r.2.2.2.1) (nz N d):=by
 unfold nz nz.b
 refine af (Lt N (by omega) h) fun c ⟨⟨hc,DJ⟩,hd⟩=>af (Iy N hN hd ⟨hc,DJ⟩ (by omega)) fun s ⟨hs,hd⟩=>af (JX N hN (m:=900) (by omega) (by omega) (G.mono (by omega) hc) hs.2.2.1 hs.2.1) fun L hL=> ?_
 have hLl:=hL.1
 refine bf (len:=L.1.length) (F:=fun n i (z:aK×aA×ay)=>nz.l6 N n z.1 (cn,eg) (Ty.zero bM) c.1 s.1 z.2.1 z.2.2 i) (s:=(_,(_,_))) (fun i z=>Dk (100000+9*i) z.1∧(z.2.1.length=L.1.length∧LL 900 z.2.1)∧G 40 (.slice cL) z.2.2) ⟨hd,⟨rfl,hL⟩,G.nil⟩ (by omega) (fun n i z hi hI hr=> ?_) (fun n z hI=> ?_)
 all_goals unfold nz.l6 nz.mg
 ·obtain⟨hd,⟨h1,h2⟩,h3⟩:=hI
  refine au (fun _=> ?_) fun _=>by omega
  have fin: ∀(d:aK) (l:ay),Dk (100000+9*i+8) d→G 40 (.slice cL) l→Ok (fun r=>WE r.1 r.2.1 r.2.2.1 r.2.2.2.1) ((Ik N d 12).bind fun kR=>cond (kR.1) (cond (aN (i:Int) z.2.1.length) (nz.l6 N n kR.2 (cn,eg) (Ty.zero bM) c.1 s.1 (List.set z.2.1 (i:Int).toNat ((z.2.1.getD (i:Int).toNat ((0:Int),(a6,aE))).1,((z.2.1.getD (i:Int).toNat ((0:Int),(a6,aE))).2.1,((z.2.1.getD (i:Int).toNat ((0:Int),(a6,aE))).2.2.1,((3:Int),(z.2.1.getD (i:Int).toNat ((0:Int),(a6,aE))).2.2.2.2))))) l (W .i64 ((i:Int)+1))) none) (nz.l6 N n kR.2 (cn,eg) (Ty.zero bM) c.1 s.1 z.2.1 l (W .i64 ((i:Int)+1)))):=fun d l hd hl=>by
   rw[aq (x:=(i:Int)+1) (by omega) (by omega),aa i]
   have hx:G 900 dM (z.2.1.getD (i:Int).toNat ((0:Int),(a6,aE))):=G.at h2 _
   exact af (oi N (by decide) hd (by unfold mX;omega)) fun r hd=>og (fun _=>aw ⟨by omega,by omega⟩ (hr (r.2,(_,l)) ⟨Dk.mono hd (by omega),⟨by dsimp only;rw[List.length_set];exact h1,G.set h2 (GL hx.1 hx.2.1 hx.2.2.1 (show aD 3 from aV) hx.2.2.2.2.1 hx.2.2.2.2.2.1) _⟩,hl⟩)) fun _=>hr (r.2,(z.2.1,l)) ⟨Dk.mono hd (by omega),⟨h1,h2⟩,hl⟩
  refine gz (len:=5) (F:=fun n' j (y:aK×ay)=>nz.l9 N (nz.l6 N n) n' y.1 (cn,eg) (Ty.zero bM) c.1 s.1 z.2.1 y.2 (i:Int) j) (fun j y=>1≤j∧Dk (100000+9*i+2*(j-1)) y.1∧G 40 (.slice cL) y.2) (fun n' j y hj hJ dr=> ?_) (fun n' y hJ=> ?_) 5 N 1 (z.1,z.2.2) (by omega) (by omega) (by omega) ⟨Nat.le_refl 1,Dk.mono hd (by omega),h3⟩
  all_goals unfold nz.l9 nz.sd
  ·obtain⟨hj1,hd,hl⟩:=hJ
   refine c8 (fun _=>au (fun _=>af (oi N (by decide) hd (by unfold mX;omega)) fun r hd=> ?_) fun _=>fin _ _ (Dk.mono hd (by omega)) hl) fun _=>by omega
   dsimp only
   rw[aq (x:=(j:Int)+1) (by omega) (by omega),aa j]
   have hx:=(G.at h2 (i:Int).toNat).1
   refine bx (fun _=>aw ⟨by omega,by omega⟩ (af (gh N (by decide) hd (by unfold mX;omega)) fun v ⟨_,hd⟩=>aG (by rw[List.length_singleton];omega) (dr (v.2,y.2++[(W .i64 (100+(y.2.length:Int)),((z.2.1.getD (i:Int).toNat ((0:Int),(a6,aE))).1,((j:Int),(W .i64 (v.1-6),()))))]) ⟨by omega,Dk.mono hd (by omega),by dsimp only;rw[List.length_append,List.length_singleton];omega,fun u hu=> ?_⟩))) fun _=>dr (r.2,y.2) ⟨by omega,Dk.mono hd (by omega),hl⟩
   rcases List.mem_append.1 hu with hu|hu
   ·exact hl.2 u hu
   ·rw[List.mem_singleton.1 hu];exact⟨dJ _,hx,(show aD (j:Int)from fj (by omega) (by omega)),dJ _,trivial⟩
  ·exact c8 (fun _=>by omega) fun _=>fin _ _ (Dk.mono hJ.2.1 (by omega)) hJ.2.2
 ·obtain⟨hd,⟨h1,h2⟩,h3⟩:=hI
  have hb:G 900 (.slice cL) z.2.2:=G.mono (by decide) h3
  refine au (fun _=>by omega) fun _=>au (fun _=>af (oi N (by decide) hd (by unfold mX;omega)) fun r _=>og (fun _=>aw ⟨by omega,by omega⟩ (ag ⟨hc,hs,h2,?_⟩)) fun _=>ag ⟨hc,hs,h2,hb⟩) fun _=>ag ⟨hc,hs,h2,hb⟩
  have hx:=G.at hb (0:Int).toNat
  exact G.set hb (G4m hx (show aD 9 from aV)) _
theorem Sh{m:Nat}(hm:m≤50000){L:aA}(h:LL m L):vv L:=⟨fun x hx=>Nat.le_trans (h.2 x hx).2.1.1 (by omega),fun x hx y hy=>((h.2 x hx).2.1.2 y hy).2.1⟩
namespace Pure
theorem Iz(l:List Int)(h:WFs [.slice (.int .u64)] l): ∃N,F3 N l=some true:=by
 have key:Ok (fun r=>r=true) (F3 6000000 l):=by
  unfold F3 F3.b F13
  refine cg (Lj 6000000 (by omega)) (bx (fun h=>nomatch h) fun _=>cg rfl (af (O2 6000000 (by omega) (Sg h.1)) fun r hr=> ?_))
  have w:=G.wf (by omega) hr.s.2.2.1
  have hL:=Sh (by omega) hr.L
  have hLl:=hr.L.1
  have tH:=hr.l.1
  refine hO (len:=r.2.2.1.length) (F:=fun n i=>F3.l6 6000000 n r.1 r.2.1 r.2.2.1 r.2.2.2.1 i) (by omega) (fun n i hi dr=> ?_) (fun n=> ?_)
  all_goals unfold F3.l6 F3.mg
  ·rw[aq (x:=(i:Int)+1) (by omega) (by omega),aa i]
   exact au (fun _=>aw ⟨by omega,by omega⟩ (cg (JM 6000000 (by omega) r.1 _ w (by omega) (by omega) hL) (bx (fun h=>nomatch h) fun _=>dr))) fun _=>by omega
  ·exact au (fun _=>by omega) fun _=>cg (JM 6000000 (by omega) r.1 _ w (Nat.zero_le _) (by omega) hL) (ag rfl)
 obtain⟨r,e,hr⟩:=key
 exact⟨6000000,by rw[e,hr]⟩
end Pure
end VM
