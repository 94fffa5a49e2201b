/- A part of the proof of HedgeDrawn of layer 22: what the functions compute, in plain words. -/
import Derived.Test.YtocmlaipoebfeaaGreatPlain7
set_option linter.all false
section
namespace VM
open Go VM.F
theorem O4(N:Nat)(hN:5000000≤N)(c:aa){b:af}{m:Nat}(hm:m≤50000)(hb:G m aB b):Ok (fun r=>aA r.1) (Vp N c b):=by
 unfold Vp
 exact db (eJ N hN hm hb) (cw (fun _=>aj bx) fun _=>ag (pg N (by omega) hm hb.2.2.1 _ _) fun x hx=>ok_eq (fun _=>aj bx) fun _=>aj (y7 (fy _) bx))
theorem LD(N:Nat)(hN:5000000≤N)(c:aa){b:af}{m:Nat}(hm:m≤50000)(hb:G m aB b):Ok (fun r=>aA r.1) (Vq N c b):=by
 unfold Vq
 exact db (eJ N hN hm hb) (cw (fun _=>aj bx) fun _=>ag (pg N (by omega) hm hb.2.2.1 _ _) fun x hx=>aj (y7 hx bx))
theorem acw(N:Nat)(a b:Int):Ok (fun _=>True) (KF N a b):=by
 unfold KF
 repeat' first|exact fE|refine ok_eq (fun _=> ?_) (fun _=> ?_)|refine dX (fun _=> ?_) (fun _=> ?_)
theorem O5(N:Nat)(hN:200000≤N)(l:aX):Ok (fun r=>r=true→l.length≤64) (ob N l):=by
 have hf:Ok (fun r=>r=true→l.length≤64) (some false):=aj fun h=>nomatch h
 unfold ob ob.b
 refine az (fun _=>hf) fun hl=>lD (len:=l.length) (F:=fun n i=>ob.l4 N n l i) (by omega) (fun n i hi hr=> ?_) (fun n=> ?_)
 all_goals unfold ob.l4 ob.cA
 ·rw[al (x:=(i:Int)+1) (by omega) (by omega),ae i]
  dsimp only
  repeat' first|exact hr|exact hf|refine aC ⟨by omega,by omega⟩ ?_|refine aC (by rw[al (x:=(i:Int)-1) (by omega) (by omega)];omega) ?_|refine az (fun _=> ?_) (fun _=> ?_)|refine dX (fun _=> ?_) (fun _=> ?_)|refine ok_eq (fun _=> ?_) (fun _=> ?_)|(exfalso;omega)|refine ag (acw N _ _) fun _ _=> ?_|refine cw (fun _=> ?_) (fun _=> ?_)
 ·exact az (fun _=>by omega) fun _=>aj fun _=>by omega
theorem Nh{σ β:Type}{P:β→Prop}{F:Nat→Int→σ→Option β}{len:Nat}(I:σ→Prop)
  (hs: ∀n i s,i<len→I s→(∀j s',i<j→j≤len→I s'→Ok P (F n (j:Int) s'))→Ok P (F (n+1) (i:Int) s)) (he: ∀n s,I s→Ok P (F (n+1) (len:Int) s)):
  ∀m n i s,len-i≤m→m<n→i≤len→I s→Ok P (F n (i:Int) s)
 |m,0,i,s,_,hn,_,_=>by omega
 |m,n+1,i,s,hm,hn,hi,hI=>by
  by_cases h:i<len
  ·exact hs n i s h hI fun j s' hj S9 tC=>Nh I hs he (m-1) n j s' (by omega) (by omega) S9 tC
  ·have:i=len:=by omega
   subst this
   exact he n s hI
theorem G5q{m:Nat}{x:gg}{q:Int}(h:G m oj x)(hq:aA q):G m oj (x.1,(x.2.1,(x.2.2.1,(x.2.2.2.1,(q,x.2.2.2.2.2))))):=⟨h.1,h.2.1,h.2.2.1,h.2.2.2.1,hq,trivial⟩
theorem aif: ∀{w:List Int},Pos w→0≤w.sum
 |[],_=>Int.le_refl _
 |x::t,h=>by
  rw[List.sum_cons]
  have:=h x (List.mem_cons_self ..)
  have:=aif (w:=t) fun y hy=>h y (List.mem_cons_of_mem _ hy)
  omega
theorem O6{t:Int}{w:List Int}(h1:t<9223372036854775808)(h:(nS t w).2=0):(nS t w).1.length=w.length∧E8 (nS t w).1:=by
 unfold nS at h ⊢
 split at h
 ·exact absurd h (by decide)
 ·split at h
  ·exact absurd h (by decide)
  ·rename_i h2 h3
   split at h
   ·split at h
    ·rename_i h4 h5
     rw[if_neg h2,if_neg h3,if_pos h4,if_pos h5]
     exact⟨List.length_replicate ..,fun x hx=>by rw[List.eq_of_mem_replicate hx];decide⟩
    ·exact absurd h (by decide)
   ·rename_i h4
    rw[if_neg h2,if_neg h3,if_neg h4]
    have hm:may w=true:=by
     by_cases hm:may w=true
     ·exact hm
     ·exact absurd (Or.inr (Bool.eq_false_iff.2 hm)) h2
    have hp:=(lA.1 hm).2
    have h0:0≤t:=by omega
    have hS:0<w.sum:=by have:=aif hp;omega
    exact⟨k8 t w,aam (qJ h0 hS hp) (by rw[qI h0 hS];exact h1)⟩
theorem LF(N:Nat)(hN:5000000≤N){l:aX}{q:Int}{m:Nat}(hl:L5 m l)(hq:aA q):Ok (fun r=>L5 64 r.1∧aA r.2.1) (cP N l q):=by
 have gi: ∀e:Int,Ok (fun r:aX×Int×Int=>L5 64 r.1∧aA r.2.1) (some ([],((0:Int),e))):=fun e=>aj ⟨G.nil,bx⟩
 unfold cP cP.b
 refine ag (O5 N (by omega) l) fun z hz=>cw (fun _=>gi _) fun ht=>az (fun _=>gi _) fun _=> ?_
 have js:=hz ht
 rw[List.nil_append]
 refine aN (by rw[List.length_nil];omega) (Nh (len:=l.length) (F:=fun n i (s:aX×Int)=>cP.l5 N n s.1 s.2 i) (fun s=>s.1.length=l.length∧L5 64 s.1∧aA s.2) (fun n i s hi hI hr=> ?_) (fun n s hI=> ?_) l.length N 0 (l,q) (by omega) (by omega) (by omega) ⟨rfl,⟨js,fun x hx=>G.mono (m:=0) (Nat.zero_le _) (hl.2 x hx)⟩,hq⟩)
 all_goals unfold cP.l5 cP.c5
 ·obtain⟨Mi,Mw,hs3⟩:=hI
  refine az (fun _=> ?_) fun _=>by omega
  have fin: ∀(k:Nat) (w:List Int),i<k→k≤l.length→w.length=k-i→E8 w→Ok (fun r=>L5 64 r.1∧aA r.2.1) (cP.J3 N (cP.l5 N n) s.1 s.2 (i:Int) (k:Int) w):=fun k w hk zX hw Ld=>by
   unfold cP.J3 cP.Bx
   have zU:aA (mn (yR w.sum).1 s.2):=Va (Ls _) hs3
   refine db (ue N (by omega) Ld (by omega)) (db (nM N _) (cw (fun _=>gi _) fun _=>db (w4 N hN zU.2 Ld (by omega)) (cW (fun _=>gi _) fun h0=> ?_)))
   obtain⟨e1,e2⟩:=O6 zU.2 h0
   generalize (nS (mn (yR w.sum).1 s.2) w).1=v at*
   refine kA (len:=k) (F:=fun n' j (z:aX×Int)=>cP.F3 N (cP.l5 N n) n' z.1 z.2 (i:Int) (k:Int) v j) (fun j z=>i≤j∧z.1.length=l.length∧L5 64 z.1∧aA z.2) (fun n' j z hj hz dw=> ?_) (fun n' z hz=> ?_) k N i s (by omega) (by omega) (by omega) ⟨Nat.le_refl i,Mi,Mw,hs3⟩
   all_goals unfold cP.F3 cP.CD
   ·obtain⟨oH,zk,JZ,hz3⟩:=hz
    dsimp only
    rw[al (x:=(j:Int)+1) (by omega) (by omega),ae j,al (x:=(j:Int)-i) (by omega) (by omega)]
    exact az (fun _=>aC ⟨by omega,by omega⟩ (aC ⟨by omega,by omega⟩ (aC ⟨by omega,by omega⟩ (dw (_,_) ⟨by omega,by dsimp only;rw[List.length_set];exact zk,G.set JZ (G5q (G.at JZ _) (pL e2 _)) _,fy _⟩)))) fun _=>by omega
   ·exact az (fun _=>by omega) fun _=>hr k z hk zX hz.2
  refine kA (len:=l.length) (F:=fun n' k w=>cP.l8 N (cP.l5 N n) n' s.1 s.2 (i:Int) k w) (fun k w=>i≤k∧w.length=k-i∧E8 w) (fun n' k w hk hw dw=> ?_) (fun n' w hw=> ?_) l.length N i [] (by omega) (by omega) (by omega) ⟨Nat.le_refl i,by rw[List.length_nil];omega,fun x hx=>nomatch hx⟩
  all_goals unfold cP.l8 cP.zt
  ·obtain⟨hik,hwl,Ld⟩:=hw
   rw[al (x:=(k:Int)+1) (by omega) (by omega),ae k]
   refine az (fun _=>aC ⟨by omega,by omega⟩ (aC ⟨by omega,by omega⟩ (ok_eq (fun _=>aC ⟨by omega,by omega⟩ (aN (by rw[List.length_singleton];omega) (dw _ ⟨by omega,by rw[List.length_append,List.length_singleton];omega,fun x hx=> ?_⟩))) fun gk=> ?_))) fun _=>by omega
   ·rcases List.mem_append.1 hx with hx|hx
    ·exact Ld x hx
    ·rw[List.mem_singleton.1 hx];exact(G.at Mw _).2.2.2.1
   ·refine fin k w ?_ (by omega) hwl Ld
    by_cases e:k=i
    ·subst e;exact absurd rfl gk
    ·omega
  ·exact az (fun _=>by omega) fun _=>fin l.length w hi (Nat.le_refl _) hw.2.1 hw.2.2
 ·exact az (fun _=>by omega) fun _=>aj ⟨hI.2.1,hI.2.2⟩
abbrev R0:c8:=((0:Int),((0:Int),(([]:aX),((0:Int),()))))
theorem agh(N:Nat)(hN:5000000≤N){c:aa}{b:af}{d g:av}{a:Int}{m:Nat}(h2:200≤m)(hm:m≤40000)(hc:G m ar c)(hb:G m aB b)(hd:L2 m d)(hg:L2 m g)(ha:aA a):Ok (fun r=>G m aB r.1∧G m eV r.2.1) (ia N c b a d g):=by
 have gi: ∀e:Int,Ok (fun r:af×c8×Int=>G m aB r.1∧G m eV r.2.1) (some ((bK,(cg,(aY,(aY,(cD,(cJ,())))))),(R0,e))):=fun e=>aj ⟨G.fJ,G.zero m eV⟩
 unfold ia ia.b
 refine ag (Sg N hN (by omega) hc hb hd hg ha) fun l hl=>ok_eq (fun _=>gi _) fun _=>ok_eq (fun _=>gi _) fun _=>ag (O4 N hN c (by omega) hb) fun q hq=>cW (fun _=>gi _) fun _=>cW (fun _=>gi _) fun _=>ag (LF N hN hl hq) fun z ⟨zk,JZ⟩=>cW (fun _=>gi _) fun _=> ?_
 have hzl:=zk.1
 have hj: ∀(p:bw) (r:c8) (t:aX) (x k n:Int),iu 1000 p→G m eV r→L5 64 t→aA x→Ok (fun r=>G m aB r.1∧G m eV r.2.1) (ia.j26 N b (bK,(cg,(aY,(aY,(cD,(cJ,())))))) R0 p r t x k n):=fun p r t x k n hp hr ht hx=>by
  have z5:=hp.1
  unfold ia.j26 ia.acx
  exact ag (bt N (by omega) hx) fun v hv=>ag (qT N (by omega) _ _ _ _ (Bg.mono hv (by omega))) fun u hu=>aN (by have:=hu.1;omega) (ag (qQ N (by omega) h2 (by omega) hb G.nil (iu.mono (iu.app hp hu) (by omega))) fun w hw=>cW (fun _=>gi _) fun _=>aj ⟨hw,hr.1,hr.2.1,G.mono (by omega) ht,hr.2.2.2⟩)
 refine bN (len:=z.1.length) (F:=fun n i (s:bw×c8×aX)=>ia.F1 N n a c b (bK,(cg,(aY,(aY,(cD,(cJ,())))))) R0 z.1 z.2.1 s.1 s.2.1 s.2.2 i) (s:=(_,(_,_))) (fun i s=>iu (2*i) s.1∧G m eV s.2.1∧L5 i s.2.2) ⟨iu.nil,⟨ha,hq,G.nil,JZ,trivial⟩,G.nil⟩ (by omega) (fun n i s hi hI hr=> ?_) (fun n s hI=> ?_)
 all_goals unfold ia.F1 ia.EY
 ·obtain⟨h4,h5,h6⟩:=hI
  have hp:=h4.1
  have ht:=h6.1
  have hx:G 0 oj (z.1.getD (i:Int).toNat dT):=G.at zk _
  rw[al (x:=(i:Int)+1) (by omega) (by omega),ae i]
  exact az (fun _=>aC ⟨by omega,by omega⟩ (az (fun _=>aC ⟨by omega,by omega⟩ (aN (by rw[List.length_singleton];omega) (aC ⟨by omega,by omega⟩ (aC ⟨by omega,by omega⟩ (aC ⟨by omega,by omega⟩ (ag (bt N (by omega) hx.2.2.2.2.1) fun v hv=>ag (qT N (by omega) _ _ _ _ (Bg.mono hv (by omega))) fun u hu=>aN (by have:=hu.1;omega) (hr (_,(_,_)) ⟨iu.mono (iu.app h4 hu) (by omega),⟨h5.1,h5.2.1,G.nil,h5.2.2.2⟩,G.cat h6 (G.one hx (Nat.le_refl 1))⟩))))))) fun _=>hr s ⟨iu.mono h4 (by omega),h5,G.mono (by omega) h6⟩)) fun _=>by omega
 ·obtain⟨h4,h5,h6⟩:=hI
  have hp:=h4.1
  dsimp only
  exact az (fun _=>by omega) fun _=>ag (bt N (by omega) JZ) fun v hv=>ag (qT N (by omega) _ _ _ _ (Bg.mono hv (by omega))) fun u hu=>aN (by have:=hu.1;omega) (ag (LD N hN c (by omega) hb) fun x hx=>ag (Im N (by omega) (by omega) hb.2.1 _) fun h hh=>cW (fun _=>hj _ _ _ _ _ _ (iu.mono (iu.app h4 hu) (by omega)) h5 (G.mono (by omega) h6) hx) fun _=>hj _ _ _ _ _ _ (iu.mono (iu.app h4 hu) (by omega)) h5 (G.mono (by omega) h6) hx)
end VM
end
section
namespace VM
open Go VM.F
theorem O7(N:Nat)(hN:5000000≤N){t:Int}{w:List Int}(ht:t<9223372036854775808)(hw:E8 w)(hl:w.length≤1000000):Ok (fun r=>r.2.2=0→r.1.length=w.length∧E8 r.1) (dg N t w w):=by
 refine mf (Le N hN ht hw hw hl) fun h0=> ?_
 have f:=Lf ht hw h0
 have c:=f.c
 have hl2:=c.l2
 refine⟨hl2,fun x hx=> ?_⟩
 obtain⟨i,hi,e⟩:=List.getElem_of_mem hx
 have h1:=c.le i (by omega)
 have h2:=(c.pc i).2
 have h3:=c.po i
 rw[List.getD_eq_getElem?_getD (l:=(qM t w w).1),List.getElem?_eq_getElem hi,Option.getD_some,e]at h1 h3
 exact⟨by omega,by omega⟩
theorem Vr(N:Nat)(hN:5000000≤N)(c:aa){b:af}{m:Nat}(hm:m≤40000)(hb:G m aB b){a:Int}(ha:aA a):Ok (fun r=>L3 (m+1) r.1) (qU N c b a):=by
 have w:=(G.wf (by omega) hb).w
 have hl:=hb.2.2.2.1.1
 unfold qU qU.b
 refine db (eJ N hN (by omega) hb) (cw (fun _=>aj G.nil) fun _=>az (fun _=>aj G.nil) fun _=>dX (fun _=>aj G.nil) fun _=>db (zx N w.s (by omega) 0 a) (ok_eq (fun _=>aj G.nil) fun _=> ?_))
 have hq:=E5 w.qs 0 a
 generalize mE b.2.2.2.1 0 a=q at*
 refine bN (len:=b.2.2.2.1.length) (F:=fun n i (s:List Int×List Int)=>qU.zy N n a b q s.1 s.2 i) (s:=(_,_)) (fun i s=>s.1.length≤i∧s.2.length=s.1.length∧E8 s.1∧E8 s.2) ⟨Nat.zero_le _,rfl,(fun x hx=>nomatch hx),fun x hx=>nomatch hx⟩ (by omega) (fun n i s hi hI hr=> ?_) (fun n s hI=> ?_)
 all_goals unfold qU.zy qU.w1
 ·obtain⟨h1,h2,h3,h4⟩:=hI
  have hx:G 0 fD (b.2.2.2.1.getD (i:Int).toNat aL):=G.at hb.2.2.2.1 _
  rw[al (x:=(i:Int)+1) (by omega) (by omega),ae i]
  have h0:=hr s ⟨by omega,h2,h3,h4⟩
  have sn: ∀{l:List Int} {x:Int},E8 l→aA x→E8 (l++[x]):=fun hl hx y hy=>(List.mem_append.1 hy).elim (hl y) fun hy=>by rw[List.mem_singleton.1 hy];exact hx
  dsimp only
  exact az (fun _=>aC ⟨by omega,by omega⟩ (cW (fun _=>ok_eq (fun _=>tk (fun _=>aN (by rw[List.length_singleton];omega) (aN (by rw[List.length_singleton];omega) (hr (_,_) ⟨by dsimp only;rw[List.length_append,List.length_singleton];omega,by dsimp only;rw[List.length_append,List.length_append,List.length_singleton,List.length_singleton];omega,sn h3 hx.1,sn h4 (y7 hx.2.2.1 (fy _))⟩))) fun _=>h0) fun _=>h0) fun _=>h0)) fun _=>by omega
 ·obtain⟨h1,h2,h3,h4⟩:=hI
  refine az (fun _=>by omega) fun _=>ag (O7 N hN (y7 hq (fy _)).2 h4 (by omega)) fun z hz=>cW (fun _=>aj G.nil) fun h0=> ?_
  obtain⟨e1,e2⟩:=hz h0
  refine bN (len:=z.1.length) (F:=fun n i u=>qU.l21 N n a q s.1 z.1 u i) (fun i u=>L3 (1+i) u) (G.one (m:=1) (G3 bx ha (fy _)) (Nat.le_refl 1)) (by omega) (fun n i u hi hu hr=> ?_) (fun n u hu=> ?_)
  all_goals unfold qU.l21 qU.acz
  ·have hul:=hu.1
   rw[al (x:=(i:Int)+1) (by omega) (by omega),ae i]
   have h0:=hr u (G.mono (by omega) hu)
   have put: ∀x:Int,aA x→Ok (fun r=>L3 (m+1) r.1) (cond (small (u.length+[((s.1.getD (i:Int).toNat 0,(a,(x,()))):ca)].length)) (qU.l21 N n a q s.1 z.1 (u++[(s.1.getD (i:Int).toNat 0,(a,(x,())))]) ((i+1:Nat):Int)) none):=fun x hx=>aN (by rw[List.length_singleton];omega) (hr _ (G.mono (by omega) (G.cat hu (G.one (m:=1) (G3 (pL h3 _) ha hx) (Nat.le_refl 1)))))
   dsimp only
   exact az (fun _=>aC ⟨by omega,by omega⟩ (az (fun _=>cW (fun _=>aC ⟨by omega,by omega⟩ (put _ (fy _))) fun _=>h0) fun _=>cW (fun _=>aC ⟨by omega,by omega⟩ (put _ (pL e2 _))) fun _=>h0)) fun _=>by omega
  ·exact az (fun _=>by omega) fun _=>aj (G.mono (by omega) hu)
theorem aml(N:Nat)(hN:5000000≤N){c:aa}{b:af}{m:Nat}(h2:200≤m)(hm:m≤7000)(hc:G 5 ar c)(hb:G m aB b):Ok (fun r=>G m aB r.1) (Bz N c b):=by
 have El:=hc.1.1
 unfold Bz Bz.b
 refine db (eJ N hN (by omega) hb) (cw (fun _=>aj G.fJ) fun _=>bN (len:=c.1.length) (F:=fun n i s=>Bz.l5 N n c b (bK,(cg,(aY,(aY,(cD,(cJ,())))))) s i) (fun i s=>L3 ((m+1)*i) s) G.nil (by omega) (fun n i s hi hI hr=> ?_) (fun n s hI=> ?_))
 all_goals unfold Bz.l5 Bz.c5
 ·have hs:=hI.1
  have hmi:(m+1)*i≤(m+1)*5:=Nat.mul_le_mul_left _ (by omega)
  rw[al (x:=(i:Int)+1) (by omega) (by omega),ae i]
  exact az (fun _=>ag (Vr N hN c (by omega) hb (gL (by omega) (by omega))) fun r ZU=>cW (fun _=>aj G.fJ) fun _=>aN (by have:=ZU.1;omega) (hr _ (G.mono (by rw[Nat.mul_succ];omega) (G.cat hI ZU)))) fun _=>by omega
 ·have hmi:(m+1)*c.1.length≤(m+1)*5:=Nat.mul_le_mul_left _ (by omega)
  exact az (fun _=>by omega) fun _=>ag (qQ N (by omega) h2 (by omega) hb (G.mono (by omega) hI) iu.nil) fun r hr=>aj hr
end VM
end
section
namespace VM
open Go VM.F
theorem GL{m:Nat}{a b d e f:Int}{l:av}(ha:aA a)(hl:L2 m l)(hb:aA b)(hd:aA d)(he:aA e)(hf:aA f):G m iw (a,(l,(b,(d,(e,(f,())))))):=⟨ha,hl,hb,hd,he,hf,trivial⟩
theorem LL.app{m:Nat}{k:Nat}{l:bb}{x:ik}(hl:l.length≤k∧ ∀y∈l,G m iw y)(hx:G m iw x):(l++[x]).length≤k+1∧ ∀y∈l++[x],G m iw y:=
 ⟨by rw[List.length_append,List.length_singleton];have:=hl.1;omega,fun y hy=>(List.mem_append.1 hy).elim (hl.2 y) fun hy=>by rw[List.mem_singleton.1 hy];exact hx⟩
end VM
end
section
namespace VM
open Go VM.F
theorem Sh{l:aE}(h:j1 l=true):l.length≤24:=by
 unfold j1 at h
 rw[Bool.and_true]at h
 have h:=of_decide_eq_true h
 have key: ∀i,i<l.length→(i:Int)+1≤(l.getD i aK).1:=by
  intro i
  induction i with
  |zero=>intro hi;exact(h 0 hi).1.1.1
  |succ i ih=>
   intro hi
   have h1:=ih (by omega)
   have h2:(l.getD i aK).1<(l.getD (i+1) aK).1:=(h (i+1) hi).2.1 (by omega)
   have g: ∀a b:Int,(i:Int)+1≤a→a<b→((i+1:Nat):Int)+1≤b:=fun a b h1 h2=>by omega
   exact g _ _ h1 h2
 by_cases hl:l.length≤24
 ·exact hl
 ·have h1:=key 24 (by omega)
  have h2:=(h 24 (by omega)).1.1.2
  have g: ∀a:Int,((24:Nat):Int)+1≤a→a≤24→False:=fun a h1 h2=>by omega
  exact(g _ h1 h2).elim
theorem O8(N:Nat)(hN:5000000≤N){c:aa}{b:af}{m:Nat}(hm:m≤40000)(hc:G m ar c)(hb:G m aB b)(a:Int):Ok (fun r=>aA r.1) (Vs N c b a):=by
 unfold Vs Sd
 exact db (eJ N hN (by omega) hb) (cw (fun _=>aj bx) fun _=>ag (s6 N (by omega) (by omega) hb.2.1 _) fun _ _=>cw (fun _=>aj bx) fun _=>ag (Nd N (by omega) (by omega) hb.2.2.2.1 _) fun l hl=>ag (Q:=fun r=>Bg 60000 r.1) (ag (xb N (by omega) (by omega) hc hl _) fun r hr=>aj hr) fun u hu=>ag (xc N (by omega) (by omega) hb _) fun g hg=>dX (fun _=>aj bx) fun _=>ag (uE N hu) fun v hv=>tk (fun _=>az (fun _=>aj hv) fun _=>aj hg) fun _=>aj hg)
theorem Si(N:Nat)(hN:200000≤N){l:ah}{a d:Int}{m:Nat}(hm:m≤50000)(h:L3 m l)(ha:aA a)(hd:aA d):Ok (fun r=>L3 (2*m) r) (nf N l a d):=by
 have hl:=h.1
 unfold nf nf.b
 refine db (ns N (by omega) hN) (cw (fun _=>aj G.nil) fun _=>ok_eq (fun _=>aj G.nil) fun _=>az (fun _=>aj G.nil) fun _=>az (fun _=>aj G.nil) fun _=>az (fun _=>aj G.nil) fun _=>az (fun _=>aj G.nil) fun _=>bN (len:=l.length) (F:=fun n i s=>nf.l5 N n l a d s i) (fun i s=>L3 (2*i) s) G.nil (by omega) (fun n i s hi hI hr=> ?_) (fun n s hI=> ?_))
 all_goals unfold nf.l5 nf.c5
 ·have hs:=hI.1
  have hx:=G.at h (i:Int).toNat
  dsimp only
  rw[al (x:=(i:Int)+1) (by omega) (by omega),ae i]
  have h1:=hr s (G.mono (by omega) hI)
  exact az (fun _=>aC ⟨by omega,by omega⟩ (ok_eq (fun _=>aC ⟨by omega,by omega⟩ (aC ⟨by omega,by omega⟩ (aC ⟨by omega,by omega⟩ (aC ⟨by omega,by omega⟩ (aN (by rw[FA];omega) (hr _ (G.mono (by omega) (G.cat hI (G.two (m:=2) (G3 ha hx.2.1 (fy _)) (G3 hd hx.2.1 hx.2.2.1) (Nat.le_refl 2)))))))))) fun _=>h1)) fun _=>by omega
 ·exact az (fun _=>by omega) fun _=>aj (G.mono (by omega) hI)
theorem amm(N:Nat)(hN:5000000≤N){c:aa}{b:af}{m:Nat}(h2:200≤m)(hm:m≤1000)(hc:G m ar c)(hb:G m aB b)(a:Int):Ok (fun r=>G m aB r.1) (fY N c b a):=by
 unfold fY fY.b
 refine db (eJ N hN (by omega) hb) (cw (fun _=>aj G.fJ) fun hB=>ag (DZ N (by omega) (by omega) hb _) fun _ _=>ok_eq (fun _=>aj G.fJ) fun _=> ?_)
 have hal:b.2.1.length≤24:=by
  unfold bV at hB
  have h1:=(Bool.and_eq_true_iff.1 (Bool.and_eq_true_iff.1 hB).2).1
  unfold sf at h1
  exact Sh (Bool.and_eq_true_iff.1 (Bool.and_eq_true_iff.1 h1).2).1
 refine bN (len:=b.2.1.length) (F:=fun n i (z:ah×bw)=>fY.l8 N n a c b (bK,(cg,(aY,(aY,(cD,(cJ,())))))) z.1 z.2 i) (s:=(_,_)) (fun i z=>L3 (2*m*i) z.1∧iu (4*i) z.2) ⟨G.nil,iu.nil⟩ (by omega) (fun n i z hi hI hr=> ?_) (fun n z hI=> ?_)
 all_goals unfold fY.l8 fY.zt
 ·obtain⟨h5,h6⟩:=hI
  have h7:=h5.1
  have h8:=h6.1
  have hmi:2*m*i≤2*m*24:=Nat.mul_le_mul_left _ (by omega)
  have hms:2*m*(i+1)=2*m*i+2*m:=Nat.mul_succ _ _
  have hx:G m dB (b.2.1.getD (i:Int).toNat aK):=G.at hb.2.1 _
  have hj: ∀p:bw,iu (4*i+2) p→Ok (fun r=>G m aB r.1) (fY.wA N (fY.l8 N n) a c b (bK,(cg,(aY,(aY,(cD,(cJ,())))))) z.1 p (i:Int) (b.2.1.getD (i:Int).toNat aK)):=fun p hp=>by
   have z5:=hp.1
   unfold fY.wA fY.pS
   rw[al (x:=(i:Int)+1) (by omega) (by omega),ae i]
   exact ag (xc N (by omega) (by omega) hb _) fun g hg=>az (fun _=>ag (bt N (by omega) hg) fun v hv=>ag (s5 N (by omega) (by omega) hv) fun v hv=>ag (qT N (by omega) _ _ _ _ (Bg.mono hv (by omega))) fun u hu=>aN (by have:=hu.1;omega) (ag (Si N (by omega) (by omega) hb.2.2.2.1 hx.1 bx) fun s hs=>aN (by have:=hs.1;omega) (hr (_,_) ⟨G.mono (by omega) (G.cat h5 hs),iu.mono (iu.app hp hu) (by omega)⟩))) fun _=>ag (Si N (by omega) (by omega) hb.2.2.2.1 hx.1 bx) fun s hs=>aN (by have:=hs.1;omega) (hr (_,_) ⟨G.mono (by omega) (G.cat h5 hs),iu.mono hp (by omega)⟩)
  rw[al (x:=(i:Int)+1) (by omega) (by omega),ae i]
  exact az (fun _=>aC ⟨by omega,by omega⟩ (cW (fun _=>hr z ⟨G.mono (by omega) h5,iu.mono h6 (by omega)⟩) fun _=>ok_eq (fun _=>ag (O8 N hN (by omega) hc hb _) fun q hq=>ag (bt N (by omega) hq) fun v hv=>ag (qT N (by omega) _ _ _ _ (Bg.mono hv (by omega))) fun u hu=>aN (by have:=hu.1;omega) (hj _ (iu.mono (iu.app h6 hu) (by omega)))) fun _=>hj _ (iu.mono h6 (by omega)))) fun _=>by omega
 ·obtain⟨h5,h6⟩:=hI
  have hmi:2*m*b.2.1.length≤2*m*24:=Nat.mul_le_mul_left _ (by omega)
  exact az (fun _=>by omega) fun _=>ag (qQ N (by omega) h2 (by omega) hb (G.mono (by omega) h5) (iu.mono h6 (by omega))) fun r hr=>aj hr
abbrev GS(m:Nat)(s:aV):Prop:=G m c0 s
abbrev SR(m:Nat)(r:aV×ca):Prop:=GS m r.1
theorem FF(N:Nat)(e:Int):Ok (fun _=>True) (eQ N e):=by
 unfold eQ;exact fE
theorem agi(N:Nat)(hN:5000000≤N){c:aa}{s:aV}{e:gM}{m:Nat}(h2:200≤m)(hm:m≤1000)(hc:G m ar c)(hs:GS m s)(he:G 0 pq e):Ok (SR m) (oc N c s e):=by
 have hhl:=hs.2.2.2.1.2.2.2.2.1.1
 unfold oc oc.b
 generalize ((0:Int),((0:Int),_))=S0
 refine bN (len:=s.2.2.2.1.2.2.2.2.1.length) (F:=fun n i (z:aV×aE×Bool×Int)=>oc.l5 N n c z.1 e S0 aL z.2.1 z.2.2.1 z.2.2.2 i) (s:=(_,(_,(_,_)))) (fun i z=>GS m z.1∧z.1.2.2.2.1.2.2.2.2.1=s.2.2.2.1.2.2.2.2.1∧G i (.slice dB) z.2.1) ⟨hs,rfl,G.nil⟩ (by omega) (fun n i z hi hI hr=> ?_) (fun n z hI=> ?_)
 all_goals unfold oc.l5 oc.c5
 ·obtain⟨hz,hh,ho⟩:=hI
  have tY:=ho.1
  rw[hh,al (x:=(i:Int)+1) (by omega) (by omega),ae i]
  have hx:G 0 dB (s.2.2.2.1.2.2.2.2.1.getD (i:Int).toNat aK):=G.at hs.2.2.2.1.2.2.2.2.1 _
  refine az (fun _=>aC ⟨by omega,by omega⟩ (ok_eq (fun _=>ag (U9 N hN h2 (by omega) hc hz.2.2.1 (G.mono (Nat.zero_le m) hx) he.2.2.1 he.2.2.2.2.2.2.1 he.2.2.2.2.2.2.2.1) fun r ⟨QE,S1⟩=>cW (fun _=>ag (FF N _) fun _ _=>aj hz) fun _=> ?_) fun _=>az (fun _=>aN (by rw[List.length_singleton];omega) (hr (z.1,(z.2.1++[s.2.2.2.1.2.2.2.2.1.getD (i:Int).toNat aK],z.2.2)) ⟨hz,hh,G.cat ho (G.one hx (Nat.le_refl 1))⟩)) fun _=>hr z ⟨hz,hh,G.mono (by omega) ho⟩)) fun _=>by omega
  have BV:GS m (z.1.1,(z.1.2.1,(r.1,z.1.2.2.2))):=⟨hz.1,hz.2.1,QE,hz.2.2.2⟩
  have aob:G 0 dB r.2.1:=S1
  exact az (fun _=>aN (by rw[List.length_singleton];omega) (hr ((z.1.1,(z.1.2.1,(r.1,z.1.2.2.2))),(z.2.1++[r.2.1],(true,r.2.1.2.2.2.1))) ⟨BV,hh,G.cat ho (G.one aob (Nat.le_refl 1))⟩)) fun _=>hr ((z.1.1,(z.1.2.1,(r.1,z.1.2.2.2))),(z.2.1,(true,r.2.1.2.2.2.1))) ⟨BV,hh,G.mono (by omega) ho⟩
 ·obtain⟨hz,hh,ho⟩:=hI
  rw[hh]
  exact az (fun _=>by omega) fun _=>cw (fun _=>ag (FF N _) fun _ _=>aj hz) fun _=>aj ⟨hz.1,hz.2.1,hz.2.2.1,⟨hz.2.2.2.1.1,hz.2.2.2.1.2.1,hz.2.2.2.1.2.2.1,hz.2.2.2.1.2.2.2.1,G.mono hhl ho,hz.2.2.2.1.2.2.2.2.2⟩,hz.2.2.2.2⟩
end VM
end
section
namespace VM
open Go VM.F
theorem aih(N:Nat)(hN:4000000≤N){s:aV}{q:Int}(hs:aA s.1)(hq:aA q):Ok (fun r=>aA r.1) (O9 N s q):=by
 unfold O9
 exact ag (bt N hN hs) fun a ha=>ag (bt N hN hq) fun b hb=>ag (g8 N hN (by omega) ha hb) fun x hx=>ag (uE N hx) fun v hv=>aj hv
theorem amn{α:Type}{P:α×ca→Prop}{N:Nat}{e:Int}{f:ca→Option (α×ca)}(h: ∀r,Ok P (f r)):Ok P ((eQ N e).bind f):=ag (FF N e) fun r _=>h r
end VM
end
section
namespace VM
open Go VM.F
theorem aii(N:Nat)(s:aV)(k:Int):Ok (fun _=>True) (Vt N s k):=by
 unfold Vt
 repeat' first|exact fE|refine ok_eq (fun _=> ?_) (fun _=> ?_)
theorem agj(N:Nat)(hN:200000≤N){s:aV}{m:Nat}(hm:m≤50000)(hs:GS m s)(k:Int):Ok (fun _=>True) (FG N s k):=by
 unfold FG
 exact ag (nv N hN hm hs.2.2.1.1 _) fun _ _=>fE
theorem aoc(N:Nat)(hN:200000≤N){s:aV}{m:Nat}(hm:m≤50000)(hs:GS m s)(k:Int):Ok (fun _=>True) (Sj N s k):=by
 unfold Sj
 exact ag (s6 N hN hm hs.2.2.1.2.1 _) fun _ _=>fE
theorem amo(N:Nat)(hN:4000000≤N){s:aV}{m:Nat}(h2:200≤m)(hm:m≤50000)(hs:GS m s)(a b c d:Int){q:Int}(hq:aA q):Ok (SR m) (Pb N s a b c d q):=by
 unfold Pb
 exact ag (bt N hN hq) fun x hx=>ag (qT N hN _ _ _ _ (Bg.mono hx (by omega))) fun p hp=>ag (qQ N hN h2 hm hs.2.2.1 G.nil (iu.mono hp (by omega))) fun r hr=>aj ⟨hs.1,hs.2.1,hr,hs.2.2.2⟩
end VM
end
section
namespace VM
open Go VM.F Go.RowKit
theorem amp{l:List Int}(h:WF (.slice (.int .u64)) l):Dk 0 ((l,((0:Int),())):aP):=⟨fun x hx=>by
 obtain⟨i,hi,rfl⟩:=List.getElem_of_mem hx
 have h3:0≤l[i]∧l[i]≤18446744073709551615:=wf_u64.1 (h.2 i hi)
 exact⟨h3.1,Int.lt_of_le_of_lt h3.2 (by decide)⟩,Int.le_refl 0,Int.le_refl 0⟩
namespace Pure
end Pure
end VM
end
section
namespace VM
open Go VM.F Go.RowKit
def aao(b:af)(x:br):Prop:=(0≤(x.2.1:Int)∧(x.2.1:Int)<(b.2.2.2.2.1.length:Int))∧BZ x.2.2.2.1∧bo (b.2.2.2.2.1.getD (x.2.1:Int).toNat 0)∧((x.2.2.1:Int)=1∨(x.2.2.1:Int)=2)
theorem wg{c:aa}{b:af}{next:Int}{P:br→Prop}(hP: ∀(k:Nat) (i:Int),¬((bC c b (k:Int)).natAbs:Int)≤qN c→(dN c b (k:Int)).2.2≠0→P (i,((dN c b (k:Int)).1,((dN c b (k:Int)).2.1,((dN c b (k:Int)).2.2,()))))): ∀(m k:Nat) (out:aE),(∀x∈out,P x)→ ∀x∈ti c b next m k out,P x
 |0,_,out,h=>h
 |m+1,k,out,h=>by
  rw[s3]
  by_cases h1:((bC c b (k:Int)).natAbs:Int)≤qN c
  ·rw[if_pos h1];exact wg hP m _ out h
  ·rw[if_neg h1]
   by_cases h2:(dN c b (k:Int)).2.2=0
   ·rw[if_pos h2];exact wg hP m _ out h
   ·rw[if_neg h2]
    refine wg hP m _ _ (fun x hx=> ?_)
    rcases List.mem_append.1 hx with hx|hx
    ·exact h x hx
    ·rw[List.mem_singleton.1 hx];exact hP _ _ h1 h2
theorem aod{c:aa}{b:af}{next:Int}(w:eM b){x:br}(hx:x∈(kq c b next).1):bV c b=true∧aao b x:=by
 unfold kq at hx
 by_cases hB:bV c b=true
 ·refine⟨hB,?_⟩
  rw[if_pos hB]at hx
  by_cases hn:1≤next∧next≤1099511627772
  ·rw[if_pos hn]at hx
   refine wg (P:=aao b) (fun k i h1 h2=> ?_) 4 0 [] (fun x hx=>nomatch hx) x hx
   obtain⟨_,hi,hp⟩:=Fh w hB h1 (Fi hB)
   refine⟨by rw[Ka]at hi;exact of_decide_eq_true hi,?_,hp,?_⟩
   ·have hq:qOf (bC c b (k:Int)) (b.2.2.2.2.1.getD ((bH c (k:Int)).getD 0 0).toNat 0)≠0:=h2
    show BZ (qOf (bC c b (k:Int)) (b.2.2.2.2.1.getD ((bH c (k:Int)).getD 0 0).toNat 0))
    have:=(Fj (vV w hB k).2 hp).1
    unfold qOf BZ at*
    split at hq<;>split<;>omega
   ·show(if 0<bC c b (k:Int)then(2:Int)else 1)=1∨(if 0<bC c b (k:Int)then(2:Int)else 1)=2
    split
    ·exact .inr rfl
    ·exact .inl rfl
  ·rw[if_neg hn]at hx;exact nomatch hx
 ·rw[if_neg hB]at hx;exact nomatch hx
theorem aoe{α:Type}{l:List α}{d:α}{i:Nat}(h:i<l.length):l.getD i d∈l:=by
 rw[List.getD_eq_getElem?_getD,List.getElem?_eq_getElem h];exact List.getElem_mem h
theorem asU{q:Int}(h:BZ q):W .u64 q=q∧q≠0:=by
 unfold BZ at h
 exact⟨bD (by omega) (by omega),by omega⟩
namespace Pure
end Pure
end VM
end
